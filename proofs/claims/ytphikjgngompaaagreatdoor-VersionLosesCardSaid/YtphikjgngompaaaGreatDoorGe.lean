/- Walks: the program's texts of expressions, written into a Builder. -/
import Derived.Test.YtphikjgngompaaaGreatDoorPg
import Derived.Test.YtphikjgngompaaaGreatDoorLa
set_option linter.all false
namespace Go.Proofs.YtphikjgngompaaaGreatDoor.KM
open Go
def WB(s0 s:St)(b:Nat)(l:List UInt8):Prop:=(∃ u,BL s b u l)/\Cl s/\s0.length<=s.length/\∀ (j:Nat) (cs:List V) (e g z:Nat),j≠b->e≠5->s0[j]?=some (.row cs e g z)->s[j]?=some (.row cs e g z)
def At9{s:St}{b:Nat}{u:V}{l:List UInt8}(h:BL s b u l)(hc:Cl s):WB s s b l:=⟨⟨u,h⟩,hc,Ak _,fun _ _ _ _ _ _ _ h=>h⟩
theorem Lg{s0 s1 s2:St}{b:Nat}{l l':List UInt8}(h1:WB s0 s1 b l)(h2:WB s1 s2 b l'):WB s0 s2 b l':=
 ⟨h2.1,h2.2.1,C9 h1.2.2.1 h2.2.2.1,fun j cs e g z hj he h=>h2.2.2.2 j cs e g z hj he (h1.2.2.2 j cs e g z hj he h)⟩
def Nt{s0 s:St}{b:Nat}{l:List UInt8}{cs:List V}{t:Nat}(h:WB s0 s b l)(hr:cs.all V.rowB=true):WB s0 (s++[.row cs t 0 0]) b l:=by
 obtain⟨⟨u,h1⟩,h2,h3,h4⟩:=h;refine⟨⟨u,Bd2 h1⟩,Jg h2 hr,by grind,fun j cs e g z hj he h=>Bs (h4 j cs e g z hj he h)⟩
def Vr{s0 s:St}{b:Nat}{l:List UInt8}(h:WB s0 s b l):WB s s b l:=⟨h.1,h.2.1,Ak _,fun _ _ _ _ _ _ _ h=>h⟩
def Hk{s0 s:St}{b:Nat}{l:List UInt8}(h:WB s0 s b l)(t:List UInt8)(hb:l.length+t.length<=100000000000000):∃ s',Th TT PT 188 [.ptr b 0 0,.str t] s (.tup [iV (t.length:Int),.nili]) s'/\WB s0 s' b (l++t)/\WB s s' b (l++t):=by
 obtain⟨⟨u,h1⟩,h2,h3,h4⟩:=h;obtain⟨s',u',q1,q2,q3,q4,q5⟩:=A9d t h1 h2 hb
 have hw:WB s s' b (l++t):=by
  refine⟨⟨u',q2⟩,q3,q4,fun j cs e g z hj he hs=>?_⟩;rw[q5 j hj ?_ (Al.1 hs).1]
  .exact hs
  .intro hm;obtain⟨p,-,-,hg⟩:=h1;rcases hg with⟨rfl,-⟩ | ⟨-,i,g',rfl,ho,-⟩
   .grind[V.refs]
   grind[V.refs]
 exact⟨s',q1,Lg ⟨⟨u,h1⟩,h2,h3,h4⟩ hw,hw⟩
def Wd{T:Nat->Option AF}{pr:Nat->Option (List V->Option V)}{f p:Nat}{res:List AR}{body:AC}{vs:List V}{v:V}{σ:St}{R:St->Prop}(hT:T f=some ⟨p,res,true,body,none⟩)(hl:vs.length=p)
  (h:W T pr [.c body] (C6 0 vs) σ (Hd fun e' σ1=>Cd e' σ1 res=some v/\R σ1)) (hr:v.refs=[]) (ho:Cg v=true) (hR:∀ σ1,R σ1->σ.length<=σ1.length/\Cl σ1):∃ σ',Th T pr f vs σ v σ'/\R σ':=by
 obtain⟨e',σ1,hE,qI,h1⟩:=h;obtain⟨h2,h3⟩:=hR σ1 h1;exact⟨σ1,Af9 hT hl ⟨e',σ1,hE,qI,rfl⟩ hr ho h2 h3,h1⟩
def Ad8{x a:Xp}{i:Nat}(h:x.l[i]?=some a)(hi:i<2):Fn TT PT 238 [.agg x.row,iV (i:Int)] (.agg a.row):=by
 have qC:=(Al.1 h).1;rw[Bi x];have qf:=Dw a;have hn:(x.l.map Xp.row).length=x.l.length:=Au ..;have g1:((x.l.length:Int)<=(i:Int))=False:=eq_false AA;refine Bj T238 rfl ?_;rw[Bi a]at qf ⊢;have qc:a.row=(xR a):=Bi a;simp only[go_sem,hn,g1,As,h,qc];exact F7 qf
def Agj{x:Xp}(ho:1<=x.op/\x.op<=18){s0 s:St}{b:Nat}{l:List UInt8}(hx:∀ (s:St) (l:List UInt8),WB s s b l->l.length+x.txt.length<=10000000000000->∃ s',Th TT PT 227 [.ptr b 0 0,.agg x.row] s (.tup []) s'/\WB s s' b (l++x.txt))(qe:Int)(h:WB s0 s b l)(hl:l.length+(Dg (x.op,x.txt) qe).length<=10000000000000):
  ∃ s',Th TT PT 237 [.ptr b 0 0,.agg x.row,iV qe] s (.tup []) s'/\WB s s' b (l++Dg (x.op,x.txt) qe):=by
 have qh:=Yo ho;have qf:=Dw x;have qz:=Vr h;refine Wd T237 rfl ?_ rfl rfl (fun σ1 h=>⟨h.2.2.1,h.2.1⟩);rw[Bi]at hx qf ⊢;have qc:([iV x.op,iV x.n,.str x.nm,SL x.z x.t (x.l.map Xp.row)]).all V.rowB=true:=qf;obtain⟨s1,e1⟩:∃ s1,s1=s++[xO x]:=⟨_,rfl⟩;have w1:WB s s1 b l:=by rw[e1];exact Nt qz qc
 have k1:s1[s.length]?=some (xO x):=by rw[e1,Fz (Ak _),Id];rfl
 have qb:s.length≠b:=by
  obtain⟨⟨u,p,hb,-⟩,-⟩:=h;have:=(Al.1 hb).1;omega
 unfold Dg at hl ⊢;by_cases qL:Bf x.op<qe
 .have f:(qe<=Bf x.op)=False:=eq_false AA;rw[if_pos qL]at hl ⊢;simp only[Ao,Ar,Di]at hl;obtain⟨s2,q2,w2,v2⟩:=Hk w1 [40] (by grind);obtain⟨s3,q3,v3⟩:=hx s2 (l++[40]) (Vr w2) (by grind);obtain⟨s4,q4,w4,v4⟩:=Hk (Lg w2 v3) [41] (by grind);have k2:=v2.2.2.2 s.length _ _ _ _ qb AG k1;simp only[go_sem];refine Ab qh AB ?_;simp only[go_sem,f];rw[e1]at q2;refine Cb q2 ?_;simp only[go_sem,k2];refine Cb q3 ?_;simp only[go_sem];refine Cb q4 ?_;simp only[go_sem];exact⟨rfl,by grind⟩
 .have f:(qe<=Bf x.op)=True:=eq_true AA;rw[if_neg qL]at hl ⊢;obtain⟨s3,q3,v3⟩:=hx s1 l (Vr w1) AA;rw[e1]at q3;simp only[go_sem];refine Ab qh AB ?_;simp only[go_sem,f];refine Cb q3 ?_;simp only[go_sem];exact⟨rfl,Lg w1 v3⟩
def A9n{x:Xp}(h:Cn x):∀ (s:St) (b:Nat) (l:List UInt8),WB s s b l->l.length+x.txt.length<=10000000000000->∃ s',Th TT PT 227 [.ptr b 0 0,.agg x.row] s (.tup []) s'/\WB s s' b (l++x.txt):=by
 induction h with
 | @num n nm z t hn=>
  intro s b l h hl;rw[Ek]at hl ⊢;simp only[Bz,Dt,if_true]at hl ⊢
  have qb:s.length≠b:=by
   obtain⟨⟨u,p,hb,-⟩,-⟩:=h;have:=(Al.1 hb).1;omega
  have qh:=Yo (op:=1) AA;have hf:Qv [iV n,iV 10]=some (.str (B4 n)):=by unfold Qv;exact if_pos hn
  refine Wd T227 rfl ?_ rfl rfl (fun σ1 h=>⟨h.2.2.1,h.2.1⟩);rw[Bi];obtain⟨s1,e1⟩:∃ s1,s1=s++[Ob.row [iV 1,iV n,.str nm,SL z t []] 101 0 0,Ob.row [.str (B0 1),iV (Bf 1)] 295 0 0]:=⟨_,rfl⟩
  have w1:WB s s1 b l:=by
   have:=Nt (Nt h (t:=101) (cs:=[iV 1,iV n,.str nm,SL z t []]) AB) (t:=295) (cs:=[.str (B0 1),iV (Bf 1)]) rfl;rw[e1];simpa using this
  obtain⟨s2,q2,w2,v2⟩:=Hk w1 (B4 n) AA;rw[e1]at q2;simp only[Bz];simp only[go_sem];refine Ab qh AB ?_;simp only[go_sem,Int.reduceBEq];refine Fl P67 AB hf ?_;simp only[go_sem];refine Cb q2 ?_;simp only[go_sem];exact⟨rfl,w2⟩
 | @name n nm z t=>
  intro s b l h hl;rw[Ek]at hl ⊢;simp only[Bz,Dt,show((2:Int)=1)=False from eq_false AA,if_false,if_true]at hl ⊢
  have qb:s.length≠b:=by
   obtain⟨⟨u,p,hb,-⟩,-⟩:=h;have:=(Al.1 hb).1;omega
  have qh:=Yo (op:=2) AA;refine Wd T227 rfl ?_ rfl rfl (fun σ1 h=>⟨h.2.2.1,h.2.1⟩);rw[Bi];obtain⟨s1,e1⟩:∃ s1,s1=s++[Ob.row [iV 2,iV n,.str nm,SL z t []] 101 0 0,Ob.row [.str (B0 2),iV (Bf 2)] 295 0 0]:=⟨_,rfl⟩
  have w1:WB s s1 b l:=by
   have:=Nt (Nt h (t:=101) (cs:=[iV 2,iV n,.str nm,SL z t []]) AB) (t:=295) (cs:=[.str (B0 2),iV (Bf 2)]) rfl;rw[e1];simpa using this
  obtain⟨s2,q2,w2,v2⟩:=Hk w1 nm AA;rw[e1]at q2;simp only[Bz];have lv:(Bf 2==7)=true:=by decide
  simp only[go_sem];refine Ab qh AB ?_;simp only[go_sem,Int.reduceBEq,lv];refine Cb q2 ?_;simp only[go_sem];exact⟨rfl,w2⟩
 | @idx n nm z t a ha ih=>
  intro s b l h hl;rw[Ek]at hl ⊢;simp only[Az,Bz,Dt,show((3:Int)=1)=False from eq_false AA,show((3:Int)=2)=False from eq_false AA,if_false,if_true]at hl ⊢;have hl:l.length+nm.length+a.txt.length+2<=10000000000000:=by simp at hl;omega
  have qb:s.length≠b:=by
   obtain⟨⟨u,p,hb,-⟩,-⟩:=h;have:=(Al.1 hb).1;omega
  have qh:=Yo (op:=3) AA;have qg:=Ad8 (x:=⟨3,n,nm,z,t,[a]⟩) (a:=a) (i:=0) rfl AA;refine Wd T227 rfl ?_ rfl rfl (fun σ1 h=>⟨h.2.2.1,h.2.1⟩);rw[Bi]at qg ⊢;simp only[Az,Bz]at qg ⊢;obtain⟨s1,e1⟩:∃ s1,s1=s++[Ob.row [iV 3,iV n,.str nm,SL z t [a.row]] 101 0 0,Ob.row [.str (B0 3),iV (Bf 3)] 295 0 0]:=⟨_,rfl⟩
  have w1:WB s s1 b l:=by
   have:=Nt (Nt h (t:=101) (cs:=[iV 3,iV n,.str nm,SL z t [a.row]]) AB) (t:=295) (cs:=[.str (B0 3),iV (Bf 3)]) rfl;rw[e1];simpa using this
  have k1:s1[s.length]?=some (.row [iV 3,iV n,.str nm,SL z t [a.row]] 101 0 0):=by rw[e1,Fz (Ak _),Id];rfl
  obtain⟨s2,q2,w2,v2⟩:=Hk w1 nm AA;obtain⟨s3,q3,w3,v3⟩:=Hk w2 [91] (by grind);have k3:=(Lg v2 v3).2.2.2 s.length _ _ _ _ qb AG k1
  have qx:Dg (a.op,a.txt) 1=a.txt:=by
   unfold Dg;have:=(Age (Tu ha)).2.1;exact if_neg (by grind)
  obtain⟨s4,q4,v4⟩:=Agj (Tu ha) (fun s l h hl=>ih s b l h hl) 1 w3 (by grind);rw[qx]at v4;obtain⟨s5,q5,w5,v5⟩:=Hk (Lg w3 v4) [93] (by grind);rw[e1]at q2;have qK:=Dw a;simp only[go_sem];refine Ab qh AB ?_;simp only[go_sem,Int.reduceBEq];refine Cb q2 ?_;simp only[go_sem];refine Cb q3 ?_;simp only[go_sem,k3];refine Ab qg AB ?_;simp only[go_sem];refine Cb q4 ?_;simp only[go_sem];refine Cb q5 ?_;simp only[go_sem];exact⟨rfl,by grind⟩
 | @un op n nm z t a qy ha ih=>
  intro s b l h hl;have ho:1<=op/\op<=18:=by omega
  have qM:Bf op=6:=by rcases qy with rfl | rfl<;>rfl
  rw[Ek]at hl ⊢
  have e0:Dt op n nm [(a.op,a.txt)]=B0 op++Dg (a.op,a.txt) 6:=by
   unfold Dt;rw[if_neg AA,if_neg AA];simp only;rw[if_neg AA]
  simp only[Az,Bz,e0,Ar]at hl ⊢;obtain⟨p1,p2⟩:=O2 (a.op,a.txt) 6;simp only at p1
  have qb:s.length≠b:=by
   obtain⟨⟨u,p,hb,-⟩,-⟩:=h;have:=(Al.1 hb).1;omega
  have qh:=Yo ho;rw[qM]at qh;have qg:=Ad8 (x:=⟨op,n,nm,z,t,[a]⟩) (a:=a) (i:=0) rfl AA;refine Wd T227 rfl ?_ rfl rfl (fun σ1 h=>⟨h.2.2.1,h.2.1⟩);rw[Bi]at qg ⊢;simp only[Az,Bz]at qg ⊢;obtain⟨s1,e1⟩:∃ s1,s1=s++[Ob.row [iV op,iV n,.str nm,SL z t [a.row]] 101 0 0,Ob.row [.str (B0 op),iV 6] 295 0 0]:=⟨_,rfl⟩
  have w1:WB s s1 b l:=by
   have:=Nt (Nt h (t:=101) (cs:=[iV op,iV n,.str nm,SL z t [a.row]]) AB) (t:=295) (cs:=[.str (B0 op),iV 6]) rfl;rw[e1];simpa using this
  have k1:s1[s.length]?=some (.row [iV op,iV n,.str nm,SL z t [a.row]] 101 0 0):=by rw[e1,Fz (Ak _),Id];rfl
  obtain⟨s2,q2,w2,v2⟩:=Hk w1 (B0 op) AA;have k2:=v2.2.2.2 s.length _ _ _ _ qb AG k1;obtain⟨s3,q3,v3⟩:=Agj (Tu ha) (fun s l h hl=>ih s b l h hl) 6 w2 (by grind);rw[e1]at q2;have b1:(op==1)=false:=by simp;omega
  have b3:(op==3)=false:=by simp;omega
  simp only[go_sem];refine Ab qh AB ?_;simp only[go_sem,Int.reduceBEq,b1,b3];refine Cb q2 ?_;simp only[go_sem,k2];refine Ab qg AB ?_;simp only[go_sem];refine Cb q3 ?_;simp only[go_sem];exact⟨rfl,by grind[Lg]⟩
 | @bin op n nm z t a c qy ha hc iha ihc=>
  intro s b l h hl;have ho:1<=op/\op<=18:=by omega
  obtain⟨qY,ja,jb⟩:=Age ho
  have qM:Bf op<6:=by
   obtain⟨i,hi,rfl⟩:=Abm ho;have:((List.range 18).all fun i=>decide (5<=i->Bf ((i:Int)+1)<6))=true:=by decide
   exact of_decide_eq_true (Bw.1 this i (Ed.2 hi)) AA
  rw[Ek]at hl ⊢
  have e0:Dt op n nm [(a.op,a.txt),(c.op,c.txt)]=Dg (a.op,a.txt) (Gg op)++32::(B0 op++32::Dg (c.op,c.txt) (Bf op+1)):=by
   unfold Dt;rw[if_neg AA,if_neg AA]
  simp only[Az,Bz,e0,Ar,Ao]at hl ⊢
  have qb:s.length≠b/\s.length+1≠b:=by
   obtain⟨⟨u,p,hb,-⟩,-⟩:=h;have:=(Al.1 hb).1;omega
  have qh:=Yo ho;have qr:=Ad8 (x:=⟨op,n,nm,z,t,[a,c]⟩) (a:=a) (i:=0) rfl AA;have qs:=Ad8 (x:=⟨op,n,nm,z,t,[a,c]⟩) (a:=c) (i:=1) rfl AA;refine Wd T227 rfl ?_ rfl rfl (fun σ1 h=>⟨h.2.2.1,h.2.1⟩);rw[Bi]at qr qs ⊢;simp only[Az,Bz]at qr qs ⊢;obtain⟨s1,e1⟩:∃ s1,s1=s++[Ob.row [iV op,iV n,.str nm,SL z t [a.row,c.row]] 101 0 0,Ob.row [.str (B0 op),iV (Bf op)] 295 0 0]:=⟨_,rfl⟩
  have w1:WB s s1 b l:=by
   have:=Nt (Nt h (t:=101) (cs:=[iV op,iV n,.str nm,SL z t [a.row,c.row]]) AB) (t:=295) (cs:=[.str (B0 op),iV (Bf op)]) rfl;rw[e1];simpa using this
  have k1:s1[s.length]?=some (.row [iV op,iV n,.str nm,SL z t [a.row,c.row]] 101 0 0):=by rw[e1,Fz (Ak _),Id];rfl
  have m1:s1[s.length+1]?=some (.row [.str (B0 op),iV (Bf op)] 295 0 0):=by rw[e1,Fz AA,Nat.add_sub_cancel_left];rfl
  have qx:Gg op=(if(Bf op==3)=true then 4 else Bf op):=by unfold Gg;simp
  obtain⟨s2,q2,v2⟩:=Agj (Tu ha) (fun s l h hl=>iha s b l h hl) (Gg op) w1 AA;have k2:=v2.2.2.2 s.length _ _ _ _ qb.1 AG k1;have m2:=v2.2.2.2 (s.length+1) _ _ _ _ qb.2 AG m1;obtain⟨s3,q3,w3,v3⟩:=Hk v2 [32] (by grind);have k3:=v3.2.2.2 s.length _ _ _ _ qb.1 AG k2;have m3:=v3.2.2.2 (s.length+1) _ _ _ _ qb.2 AG m2;obtain⟨s4,q4,w4,v4⟩:=Hk v3 (B0 op) (by grind);have k4:=v4.2.2.2 s.length _ _ _ _ qb.1 AG k3;have m4:=v4.2.2.2 (s.length+1) _ _ _ _ qb.2 AG m3;obtain⟨s5,q5,w5,v5⟩:=Hk v4 [32] (by grind);have k5:=v5.2.2.2 s.length _ _ _ _ qb.1 AG k4;have m5:=v5.2.2.2 (s.length+1) _ _ _ _ qb.2 AG m4;obtain⟨s6,q6,v6⟩:=Agj (Tu hc) (fun s l h hl=>ihc s b l h hl) (Bf op+1) v5 (by grind);rw[e1]at q2;have b1:(op==1)=false:=by simp;omega
  have b3:(op==3)=false:=by simp;omega
  have b7:(Bf op==7)=false:=by simp;omega
  have b6:(Bf op==6)=false:=by simp;omega
  have wi:IntKind.i64.wrap (Bf op+1)=Bf op+1:=Cs AA
  have qP:WB s s6 b (l++(Dg (a.op,a.txt) (Gg op)++32::(B0 op++32::Dg (c.op,c.txt) (Bf op+1)))):=by
   have:=Lg w1 (Lg v2 (Lg v3 (Lg v4 (Lg v5 v6))));simpa using this
  cases h3:(Bf op==3)
  all_goals
   rw[h3]at qx;simp only[if_true,if_false,Hh]at qx;rw[qx]at q2;simp only[go_sem];refine Ab qh AB ?_;simp only[go_sem,Int.reduceBEq,b1,b3,b7,b6,h3];refine Ab qr AB ?_;simp only[go_sem];refine Cb q2 ?_;simp only[go_sem];refine Cb q3 ?_;simp only[go_sem,m3];refine Cb q4 ?_;simp only[go_sem];refine Cb q5 ?_;simp only[go_sem];refine Af AD ?_;simp only[go_sem,k5];refine Bg qs AB ?_;simp only[go_sem,m5,wi];refine Abi q6 (by repeat (first | exact trivial | refine⟨.inl AK,?_⟩ | refine⟨by rfl,?_⟩ | refine⟨.inr ⟨by rfl,by rfl⟩,?_⟩)) (by repeat (first | exact trivial | refine⟨.inl AK,?_⟩ | refine⟨by rfl,?_⟩ | refine⟨.inr ⟨by rfl,by rfl⟩,?_⟩)) ?_;simp only[go_sem];exact⟨rfl,qP⟩
def J0{vs:List V}{σ:St}{v:V}(h:vs.all Dc=true)(he:V.tup vs=v):FR (.tup vs) σ v:=he ▸ Gr h
def Ayz{s0 s:St}{b:Nat}{l:List UInt8}(h:WB s0 s b l):∃ s',Wh 218 5 [.ptr b 0 0] s=some (.str l,s'):=by
 obtain⟨⟨u,hu⟩,-⟩:=h
 grind[Bj5]
def Aam{x:Xp}(h:Cn x)(hl:x.txt.length<=10000000000000):Fn TT PT 213 [.agg x.row] (.str x.txt):=by
 have qf:=Dw x;refine Bj T213 rfl ?_
 have w0:WB [.row x.row 101 0 0,.row [.nilp,.nils] 218 0 0] [.row x.row 101 0 0,.row [.nilp,.nils] 218 0 0] 1 []:=by
  refine At9 (u:=.nils) ⟨.nilp,rfl,.inl rfl,Ds⟩ ?_;exact Jd (Jg (s:=[]) (fun _ h=>by cases h) (by rw[Bi];simp only[go_sem])) AU
 obtain⟨s1,q1,v1⟩:=A9n h _ 1 [] w0 (by grind);obtain⟨s2,qN⟩:=Ayz v1;rw[Be]at qN;rw[Bi]at q1 qf ⊢;simp only[go_sem];refine Cb q1 ?_;simp only[go_sem];refine Ig (.spec T162 rfl rfl qN) ?_;simp only[go_sem];exact F7 rfl
def A9o{s:Sp}(h:CnS s)(hl:(Cq s).length<=10000000000000):Fn TT PT 189 [.agg s.row] (.tup [.str (Cq s),.bool (Bv s.op)]):=by
 obtain⟨h1,h2,h3,h4,h5,-,-,-,-⟩:=h;obtain⟨op,line,nm,arg,iz,it,idx,ex,bz,bt,body,ez,et,els⟩:=s;simp only at h1 h2 h3 h4 h5 hl ⊢;rw[S6];simp only;have hw:op=1\/op=2\/op=3\/op=4\/op=5\/op=6\/op=7\/op=8\/op=9\/op=10\/op=11\/op=12\/op=13\/op=14\/op=15:=by omega
 refine Bj T189 rfl ?_;rw[Bi];rcases hw with rfl | hw
 .have hx:=Aam (h5 (.inl rfl));simp only[Cq,if_true,Ar,Ao]at hl ⊢;have hx:=hx AA;rw[Bi]at hx
  cases idx with
  | nil=>
   simp only[E7,Di]at hl ⊢;have a2:Am .add nm [32,61,32]=some (.str (nm++[32,61,32])):=Ap (by grind) rfl;have a3:Am .add (nm++[32,61,32]) ex.txt=some (.str (nm++32::61::32::ex.txt)):=Ap (by grind) AE;simp only[go_sem,Int.reduceBEq,Int.reduceLT,↓a2];refine Ab hx AB ?_;simp only[go_sem,↓a3];exact J0 rfl (by simp[Bv])
  | cons a r=>
   have ha:=Aam (h4 a B7);simp only[E7,Ao,Ar]at hl ⊢;have ha:=ha AA;rw[Bi]at ha;have r0:r=[]:=by simpa using h2
   subst r0;have a1:Am .add [91] a.txt=some (.str (91::a.txt)):=Ap (by grind) rfl;have a2:Am .add (91::a.txt) [93]=some (.str (91::(a.txt++[93]))):=Ap (by grind) AE;have a3:Am .add nm (91::(a.txt++[93]))=some (.str (nm++91::(a.txt++[93]))):=Ap (by grind) rfl;have a4:Am .add (nm++91::(a.txt++[93])) [32,61,32]=some (.str (nm++91::(a.txt++[93,32,61,32]))):=Ap (by grind) AE;have a5:Am .add (nm++91::(a.txt++[93,32,61,32])) ex.txt=some (.str (nm++91::(a.txt++93::32::61::32::ex.txt))):=Ap (by grind) AE;simp only[Az,Bz];rw[Bi a];simp only[go_sem,Int.reduceBEq,Int.reduceLT];refine Ab ha AB ?_;simp only[go_sem,↓a1,↓a2,↓a3,↓a4];refine Ab hx AB ?_;simp only[go_sem,↓a5];exact J0 rfl (by simp[Bv])
 rcases hw with rfl | hw
 .simp only[Cq,Cp,Bv]at hl ⊢;simp at hl;have hx:=Aam (h5 AA) AA;rw[Bi]at hx;have a1:Am .add ([105,102,32]) (ex.txt)=some (.str (105::102::32::ex.txt)):=Ap (by grind) AE;simp only[go_sem,Int.reduceBEq,Int.reduceLT];refine Ab hx AB ?_;simp only[go_sem,↓a1];exact J0 rfl AE
 rcases hw with rfl | hw
 .simp only[Cq,Cp,Bv]at hl ⊢;simp at hl;have hx:=Aam (h5 AA) AA;rw[Bi]at hx;have a1:Am .add ([119,104,105,108,101,32]) (ex.txt)=some (.str (119::104::105::108::101::32::ex.txt)):=Ap AJ AE;simp only[go_sem,Int.reduceBEq,Int.reduceLT];refine Ab hx AB ?_;simp only[go_sem,↓a1];exact J0 rfl AE
 rcases hw with rfl | hw
 .simp only[Cq,Cp,Bv]at hl ⊢;simp at hl;have a1:Am .add ([108,111,99,107,32]) (nm)=some (.str (108::111::99::107::32::nm)):=Ap AJ AE;simp only[go_sem,Int.reduceBEq,Int.reduceLT,↓a1];exact J0 rfl AE
 rcases hw with rfl | hw
 .simp only[Cq,Cp,Bv]at hl ⊢;simp at hl;have a1:Am .add ([114,101,97,100,32]) (nm)=some (.str (114::101::97::100::32::nm)):=Ap AJ AE;simp only[go_sem,Int.reduceBEq,Int.reduceLT,↓a1];exact J0 rfl AE
 rcases hw with rfl | hw
 .simp only[Cq,Cp,Bv]at hl ⊢;simp at hl;have a1:Am .add ([119,114,105,116,101,32]) (nm)=some (.str (119::114::105::116::101::32::nm)):=Ap AJ AE;simp only[go_sem,Int.reduceBEq,Int.reduceLT,↓a1];exact J0 rfl AE
 rcases hw with rfl | hw
 .simp only[Cq,Cp,Bv]at hl ⊢;simp at hl;simp only[go_sem,Int.reduceBEq,Int.reduceLT];exact J0 rfl AE
 rcases hw with rfl | hw
 .simp only[Cq,Cp,Bv]at hl ⊢;simp at hl;simp only[go_sem,Int.reduceBEq,Int.reduceLT];exact J0 rfl AE
 rcases hw with rfl | hw
 .simp only[Cq,Cp,Bv]at hl ⊢;simp at hl;have a1:Am .add ([119,97,105,116,32]) (nm)=some (.str (119::97::105::116::32::nm)):=Ap AJ AE;simp only[go_sem,Int.reduceBEq,Int.reduceLT,↓a1];exact J0 rfl AE
 rcases hw with rfl | hw
 .simp only[Cq,Cp,Bv]at hl ⊢;simp at hl;have a1:Am .add ([110,111,116,105,102,121,32]) (nm)=some (.str (110::111::116::105::102::121::32::nm)):=Ap AJ AE;simp only[go_sem,Int.reduceBEq,Int.reduceLT,↓a1];exact J0 rfl AE
 rcases hw with rfl | hw
 .simp only[Cq,Cp,Bv]at hl ⊢;simp at hl;have a1:Am .add ([110,111,116,105,102,121,97,108,108,32]) (nm)=some (.str (110::111::116::105::102::121::97::108::108::32::nm)):=Ap AJ AE;simp only[go_sem,Int.reduceBEq,Int.reduceLT,↓a1];exact J0 rfl AE
 rcases hw with rfl | hw
 .simp only[Cq,Cp,Bv]at hl ⊢;simp at hl;have a1:Am .add ([115,112,97,119,110,32]) (nm)=some (.str (115::112::97::119::110::32::nm)):=Ap AJ AE;simp only[go_sem,Int.reduceBEq,Int.reduceLT,↓a1];exact J0 rfl AE
 rcases hw with rfl | hw
 .simp only[Cq,Cp,Bv]at hl ⊢;simp at hl;have a1:Am .add ([106,111,105,110,32]) (nm)=some (.str (106::111::105::110::32::nm)):=Ap AJ AE;simp only[go_sem,Int.reduceBEq,Int.reduceLT,↓a1];exact J0 rfl AE
 rcases hw with rfl | hw
 .simp only[Cq,Cp,Bv]at hl ⊢;simp at hl;have hx:=Aam (h5 AA) AA;rw[Bi]at hx;have a1:Am .add ([115,101,116,32]) (nm)=some (.str (115::101::116::32::nm)):=Ap (by grind) AE;have a2:Am .add (115::101::116::32::nm) ([32])=some (.str (115::101::116::32::(nm++[32]))):=Ap (by grind) AE;have a3:Am .add (115::101::116::32::(nm++[32])) (ex.txt)=some (.str (115::101::116::32::(nm++32::ex.txt))):=Ap (by grind) AE;simp only[go_sem,Int.reduceBEq,Int.reduceLT];refine Af AD ?_;simp only[go_sem,↓a1,↓a2];refine Bg hx AB ?_;simp only[go_sem,↓a3];exact J0 rfl AE
 subst hw;simp only[Cq,Cp,Bv]at hl ⊢;simp at hl;have a1:Am .add ([103,101,116,32]) (nm)=some (.str (103::101::116::32::nm)):=Ap (by grind) AE;have a2:Am .add (103::101::116::32::nm) ([32])=some (.str (103::101::116::32::(nm++[32]))):=Ap (by grind) AE;have a3:Am .add (103::101::116::32::(nm++[32])) (arg)=some (.str (103::101::116::32::(nm++32::arg))):=Ap (by grind) AE;simp only[go_sem,Int.reduceBEq,Int.reduceLT,↓a1,↓a2,↓a3];exact J0 rfl AE
mutual
def Sp.sz:Sp->Nat
 | ⟨_,_,_,_,_,_,_,_,_,_,body,_,_,els⟩=>1+Sp.szs body+Sp.szs els
def Sp.szs:List Sp->Nat
 | []=>0
 | x::l=>x.sz+Sp.szs l
end
theorem Mg(s:Sp):s.sz=1+Sp.szs s.body+Sp.szs s.els:=by
 obtain⟨op,line,nm,arg,iz,it,idx,ex,bz,bt,body,ez,et,els⟩:=s;rw[Sp.sz]
def Aa3:∀ {l:List Sp} {x:Sp},x∈l->x.sz<=Sp.szs l
 | y::l,x,h=>by
  rw[Sp.szs];rcases Bp.1 h with rfl | h
  .omega
  .have:=Aa3 h;omega
def Beb(d:Nat)(h:d<=1073741823):Y1 [.str [32,32],iV (d:Int)]=some (.str (Eh d)):=by
 unfold Y1;simp only;rw[if_pos (by grind)];congr 2;unfold Eh;rw[Nk];clear h
 induction d with
 | zero=>rfl
 | succ d ih=>
  grind[Lib.repeatL]
def Fk(x:Sp):x.row=[iV x.op,iV x.line,.str x.nm,.str x.arg,SL x.iz x.it (x.idx.map Xp.row),iV x.ex.op,iV x.ex.n,.str x.ex.nm,SL x.ex.z x.ex.t (x.ex.l.map Xp.row),SL x.bz x.bt (x.body.map Sp.row),SL x.ez x.et (x.els.map Sp.row)]:=by
 simp[S6,Bi]
def Wr(x:Sp):Prop:=∀ (s:St) (b:Nat) (l:List UInt8) (d:Nat),WB s s b l->l.length+(x.txt d).length<=10000000000000->d+x.sz<=1073741823->∃ s',Th TT PT 161 [.ptr b 0 0,.agg x.row,iV (d:Int)] s (.tup []) s'/\WB s s' b (l++x.txt d)
def Amq{s0 s:St}{b:Nat}{l:List UInt8}(h:WB s0 s b l)(x:Sp):WB s0 (s++[.row x.row 103 0 0]) b l:=Nt h (by
 have:=Hc x
 exact this)
def A9p{K:List It}{Q:Env->St->Prop}{A6:V}{j4 b d:Nat}{z:Bool}{t:Nat}{L:List Sp}{s0 s:St}{l:List UInt8}(hW:∀ x∈L,Wr x)(h:WB s0 s b l)(hl:l.length+(Sp.txts (d+1) L).length<=10000000000000)(hd:d+1+Sp.szs L<=1073741823)(hn:L.length<=1000000000000000)
  (hk:∀ s',WB s0 s' b (l++Sp.txts (d+1) L)->W TT PT K [(0,.ptr b 0 0),(2,iV (d:Int)),(4,.ptr j4 0 0),(6,A6),(35,SL z t (L.map Sp.row)),(36,iV (L.length:Int)),(37,iV (L.length:Int))] s' Q) :
  W TT PT (.l [0,2,4,6,35,36,37] lp161_0::.b 0::K) [(0,.ptr b 0 0),(2,iV (d:Int)),(4,.ptr j4 0 0),(6,A6),(35,SL z t (L.map Sp.row)),(36,iV (L.length:Int)),(37,iV 0)] s Q:=by
 refine Bk (α:=Nat × St × List UInt8) (fun a=>L.length - a.1) (fun a=>[(0,.ptr b 0 0),(2,iV (d:Int)),(4,.ptr j4 0 0),(6,A6),(35,SL z t (L.map Sp.row)),(36,iV (L.length:Int)),(37,iV (a.1:Int))]) (fun a=>a.2.1) (fun a=>a.1<=L.length/\WB s0 a.2.1 b a.2.2/\a.2.2++Sp.txts (d+1) (L.drop a.1)=l++Sp.txts (d+1) L) ?_ (0,s,l) ⟨Ax _,h,rfl⟩;rintro⟨i,s1,c⟩ ⟨hi,hw,hc⟩ ih;simp only at hi hw hc ih;refine Bd Bjx ?_;have qq:=congrArg List.length hc;simp only[Ar]at qq;rcases Bh i L.length with h' | h'
 .obtain⟨x,hx,qF,hm⟩:=Bq h';rw[qF,Ou]at hc qq;rw[Ar]at qq;have qW:=Aa3 hm;obtain⟨s2,e2⟩:∃ s2,s2=s1++[Ob.row x.row 103 0 0]:=⟨_,rfl⟩;have w2:WB s0 s2 b c:=by rw[e2];exact Amq hw x
  have k2:s2[s1.length]?=some (.row x.row 103 0 0):=by rw[e2,Fz (Ak _),Id];rfl
  obtain⟨s3,q3,v3⟩:=hW x hm s2 b c (d+1) (Vr w2) AA AA;have qc:=Fk x;rw[qc]at e2 k2 q3;rw[e2]at q3 k2;simp only[go_sem,Ay h',As,hx,qc,A1 (show d<9223372036854775807 by omega)];refine Cb q3 ?_;simp only[go_sem,A1 (show i<9223372036854775807 by omega)];exact Aq (ih (i+1,s3,c++x.txt (d+1)) AA ⟨by omega,Lg w2 v3,by grind⟩) rfl
 .obtain rfl:i=L.length:=by omega
  rw[Ec h',show Sp.txts (d+1) []=[] by rw[Sp.txts],B3]at hc;subst hc;simp only[go_sem,Bl h'];exact hk s1 hw
def A9q{K:List It}{Q:Env->St->Prop}{A6:V}{b d:Nat}{z:Bool}{t:Nat}{L:List Sp}{s0 s:St}{l:List UInt8}(hW:∀ x∈L,Wr x)(h:WB s0 s b l)(hl:l.length+(Sp.txts (d+1) L).length<=10000000000000)(hd:d+1+Sp.szs L<=1073741823)(hn:L.length<=1000000000000000)
  (hk:∀ s',WB s0 s' b (l++Sp.txts (d+1) L)->W TT PT K [(0,.ptr b 0 0),(2,iV (d:Int)),(6,A6),(57,SL z t (L.map Sp.row)),(58,iV (L.length:Int)),(59,iV (L.length:Int))] s' Q) :
  W TT PT (.l [0,2,6,57,58,59] lp161_1::.b 2::K) [(0,.ptr b 0 0),(2,iV (d:Int)),(6,A6),(57,SL z t (L.map Sp.row)),(58,iV (L.length:Int)),(59,iV 0)] s Q:=by
 refine Bk (α:=Nat × St × List UInt8) (fun a=>L.length - a.1) (fun a=>[(0,.ptr b 0 0),(2,iV (d:Int)),(6,A6),(57,SL z t (L.map Sp.row)),(58,iV (L.length:Int)),(59,iV (a.1:Int))]) (fun a=>a.2.1) (fun a=>a.1<=L.length/\WB s0 a.2.1 b a.2.2/\a.2.2++Sp.txts (d+1) (L.drop a.1)=l++Sp.txts (d+1) L) ?_ (0,s,l) ⟨Ax _,h,rfl⟩;rintro⟨i,s1,c⟩ ⟨hi,hw,hc⟩ ih;simp only at hi hw hc ih;refine Bd Bjy ?_;have qq:=congrArg List.length hc;simp only[Ar]at qq;rcases Bh i L.length with h' | h'
 .obtain⟨x,hx,qF,hm⟩:=Bq h';rw[qF,Ou]at hc qq;rw[Ar]at qq;have qW:=Aa3 hm;obtain⟨s2,e2⟩:∃ s2,s2=s1++[Ob.row x.row 103 0 0]:=⟨_,rfl⟩;have w2:WB s0 s2 b c:=by rw[e2];exact Amq hw x
  have k2:s2[s1.length]?=some (.row x.row 103 0 0):=by rw[e2,Fz (Ak _),Id];rfl
  obtain⟨s3,q3,v3⟩:=hW x hm s2 b c (d+1) (Vr w2) AA AA;have qc:=Fk x;rw[qc]at e2 k2 q3;rw[e2]at q3 k2;simp only[go_sem,Ay h',As,hx,qc,A1 (show d<9223372036854775807 by omega)];refine Cb q3 ?_;simp only[go_sem,A1 (show i<9223372036854775807 by omega)];exact Aq (ih (i+1,s3,c++x.txt (d+1)) AA ⟨by omega,Lg w2 v3,by grind⟩) rfl
 .obtain rfl:i=L.length:=by omega
  rw[Ec h',show Sp.txts (d+1) []=[] by rw[Sp.txts],B3]at hc;subst hc;simp only[go_sem,Bl h'];exact hk s1 hw
def A9r{x:Sp}(h:CnS x):Wr x:=by
 induction h with
 | @mk x h1 h2 h3 h4 h5 h6 h7 h8 h9 ihb ihe=>
  intro s b l d h hl hd;have hs:CnS x:=.mk h1 h2 h3 h4 h5 h6 h7 h8 h9;rw[Mg]at hd
  have qb:s.length≠b:=by
   obtain⟨⟨u,p,hb,-⟩,-⟩:=h;have:=(Al.1 hb).1;omega
  rw[Ns]at hl ⊢;simp only[Ar,Li]at hl;have hh:=A9o hs AA;have qt:=Beb d AA;have qf:=Hc x;have g0:(1073741823<(d:Int))=False:=eq_false AA;have qC:=Li d;generalize hH:Cq x=H at hl hh ⊢;generalize hT:Eh d=T at hl qt qC ⊢;refine Wd T161 rfl ?_ rfl rfl (fun σ1 h=>⟨h.2.2.1,h.2.1⟩);obtain⟨s1,e1⟩:∃ s1,s1=s++[Ob.row x.row 103 0 0]:=⟨_,rfl⟩;have w1:WB s s1 b l:=by rw[e1];exact Amq h x
  have k1:s1[s.length]?=some (.row x.row 103 0 0):=by rw[e1,Fz (Ak _),Id];rfl
  have qc:=Fk x;obtain⟨s2,q2,w2,v2⟩:=Hk w1 T AA;have k2:=v2.2.2.2 s.length _ _ _ _ qb AG k1;obtain⟨s3,q3,w3,v3⟩:=Hk w2 H (by grind);have k3:=v3.2.2.2 s.length _ _ _ _ qb AG k2;rw[qc]at e1 k2 k3 hh ⊢;rw[e1]at q2;cases hb:Bv x.op
  .rw[hb]at hh hl;simp only[Hh,if_false,Ao,Di]at hl ⊢;obtain⟨s4,q4,w4,v4⟩:=Hk w3 [59,10] (by grind);simp only[go_sem,g0];refine Fl P187 AB qt ?_;simp only[go_sem];refine Cb q2 ?_;simp only[go_sem,k2];refine Ab hh (by grind) ?_;simp only[go_sem];refine Cb q3 ?_;simp only[go_sem];refine Cb q4 ?_;simp only[go_sem];exact⟨rfl,by grind⟩
  .rw[hb]at hh hl;simp only[if_true,Ao,Ar,Di]at hl ⊢;have lb:=Z0 x.body (d+1);have le:=Z0 x.els (d+1);have qE:(x.body.map Sp.row).length=x.body.length:=Au ..;have qH:(x.els.map Sp.row).length=x.els.length:=Au ..;obtain⟨s4,q4,w4,v4⟩:=Hk w3 [32,123,10] (by grind);have k4:=v4.2.2.2 s.length _ _ _ _ qb AG k3;simp only[go_sem,g0];refine Fl P187 AB qt ?_;simp only[go_sem];refine Cb q2 ?_;simp only[go_sem,k2];refine Ab hh (by grind) ?_;simp only[go_sem];refine Cb q3 ?_;simp only[go_sem];refine Cb q4 ?_;simp only[go_sem,k4,qE];refine A9p (d:=d) (L:=x.body) (l:=l++T++H++[32,123,10]) ihb (Vr w4) (by grind) AA AA fun s5 w5=>?_
   have k5:=w5.2.2.2 s.length _ _ _ _ qb AG k4;have qO:=Lg w4 w5
   cases hels:x.els with
   | nil=>
    have e0:((0:Int)<((([]:List Sp).map Sp.row).length:Int))=False:=eq_false AE;rw[hels]at k5 hl;simp only[Bz]at k5;obtain⟨s6,q6,w6,v6⟩:=Hk qO T (by grind);obtain⟨s7,q7,w7,v7⟩:=Hk w6 [125,10] (by grind);simp only[go_sem,k5,Int.reduceLT];refine Cb q6 ?_;simp only[go_sem];refine Cb q7 ?_;simp only[go_sem];exact⟨rfl,by grind⟩
   | cons y ys=>
    rw[hels]at k5 hl le hd qH ihe;have e0:((0:Int)<((ys.length+1:Nat):Int))=True:=eq_true AA;simp only[List.isEmpty_cons,Hh,if_false,Ao,Ar]at hl ⊢;obtain⟨s6,q6,w6,v6⟩:=Hk qO T (by grind);have k6:=v6.2.2.2 s.length _ _ _ _ qb AG k5;obtain⟨s7,q7,w7,v7⟩:=Hk w6 [125,32,101,108,115,101,32,123,10] (by grind);have k7:=v7.2.2.2 s.length _ _ _ _ qb AG k6;simp only[go_sem,k5,Au,Ao,e0];refine Cb q6 ?_;simp only[go_sem];refine Cb q7 ?_;simp only[go_sem,k7,Au,Ao];refine A9q (d:=d) (L:=y::ys) (l:=l++T++H++[32,123,10]++Sp.txts (d+1) x.body++T++[125,32,101,108,115,101,32,123,10]) ihe (Vr w7) (by grind) AA AA fun s8 w8=>?_
    obtain⟨s9,q9,w9,v9⟩:=Hk (Lg w7 w8) T AQ;obtain⟨qZ,qX,jd,jc⟩:=Hk w9 [125,10] AQ;simp only[go_sem];refine Cb q9 ?_;simp only[go_sem];refine Cb qX ?_;simp only[go_sem];exact⟨rfl,by simp_all⟩
/-! shapes -/
def shH(op n:Int)(nm:List UInt8)(k:Nat):Bool:=
 Zb op==(k:Int)&&((op==2||op==3)==!(nm==[])&&((!(op==2||op==3)||Bm nm)&&(decide (0<=n)&&(op==1||n==0))))
mutual
def Hu:Xp->Bool
 | ⟨op,n,nm,_,_,l⟩=>shH op n nm l.length&&Ah3 l
def Ah3:List Xp->Bool
 | []=>true
 | x::l=>Hu x&&Ah3 l
end
def Aua:∀ l:List Xp,Ah3 l=l.all Hu
 | []=>rfl
 | x::l=>by rw[Ah3,Aua l];rfl
def Bec(x:Xp):Hu x=(shH x.op x.n x.nm x.l.length&&x.l.all Hu):=by
 rw[<-Aua];cases x;rfl
def Agk(x:Xp):Bool:=x.op==0&&(x.n==0&&(x.nm==[]&&x.l.isEmpty))
def Aox(s:Sp):Bool:=
 decide (1<=s.op)&&(decide (s.op<=15)&&((if F6 s.op then s.nm==[] else Bm s.nm)&&((if s.op=15 then Bm s.arg else s.arg==[]) &&
  (decide (s.idx.length<=1)&&((s.op==1||s.idx.isEmpty)&&(s.idx.all Hu&&((if Em s.op then Hu s.ex else Agk s.ex) &&
   ((Bv s.op||s.body.isEmpty)&&(s.op==2||s.els.isEmpty)))))))))
mutual
def Pu:Sp->Bool
 | ⟨op,line,nm,arg,iz,it,idx,ex,bz,bt,body,ez,et,els⟩=>Aox ⟨op,line,nm,arg,iz,it,idx,ex,bz,bt,body,ez,et,els⟩&&(Lx body&&Lx els)
def Lx:List Sp->Bool
 | []=>true
 | x::l=>Pu x&&Lx l
end
def Aub:∀ l:List Sp,Lx l=l.all Pu
 | []=>rfl
 | x::l=>by rw[Lx,Aub l];rfl
def Bed(s:Sp):Pu s=(Aox s&&(Lx s.body&&Lx s.els)):=by
 cases s;rfl
def Wt(d:Dp):Bool:=
 decide (1<=d.kind)&&(decide (d.kind<=6)&&(Bm d.nm&&(decide (0<=d.size)&&((d.kind==1||d.size==0)&&((if d.kind=5 then Bm d.on else d.on==[]) &&
  (decide (-9223372036854775808<d.init)&&(d.init==0||(d.kind==1||d.kind==2))))))))
def shT(t:Tp):Bool:=t.locals.all Bm&&(Bm t.nm&&Lx t.body)
def shG(p:Gp):Bool:=p.decls.all Wt&&(p.thrs.all shT&&!p.thrs.isEmpty)
/-! what is in range -/
/-! bulk -/
def Afo(z:Bool)(t:Nat)(rows:List (List V)):(SL z t rows).bulk=Cz rows+1:=by
 unfold SL
 split
 .rename_i h;rw[h.2];simp[V.bulk,Cz]
 .simp[V.bulk]
theorem G9(x:Xp):C5 x.row=4+x.nm.length+Cz (x.l.map Xp.row):=by
 rw[Bi];simp only[C5,V.bulk,Afo];omega
theorem N0(s:Sp):C5 s.row=7+s.nm.length+s.arg.length+Cz (s.idx.map Xp.row)+C5 s.ex.row+Cz (s.body.map Sp.row)+Cz (s.els.map Sp.row):=by
 rw[S6];simp only[Aiw,C5,V.bulk,Afo];omega
theorem Bqa(d:Dp):C5 d.row=6+d.nm.length+d.on.length:=by
 simp only[Dp.row,C5,V.bulk];omega
theorem Aca(t:Tp):C5 t.row=4+t.nm.length+Cz (t.locals.map fun s=>[V.str s])+Cz (t.body.map Sp.row):=by
 simp only[Tp.row,C5,V.bulk,Afo];omega
def Anx(p:Gp):C5 p.row=2+Cz (p.decls.map Dp.row)+Cz (p.thrs.map Tp.row):=by
 simp only[Gp.row,C5,Afo];omega
theorem J1{α:Type}{f:α->List V}:∀ {l:List α} {x:α},x∈l->C5 (f x)<=Cz (l.map f)
 | y::l,x,h=>by
  rw[Az,Cz];rcases Bp.1 h with rfl | h
  .omega
  .have:=J1 (f:=f) h;omega
def Mb{α:Type}{f:α->List V}(hf:∀ x,1<=C5 (f x)):∀ l:List α,l.length<=Cz (l.map f)
 | []=>by simp
 | x::l=>by
  rw[Az,Cz,Ao];have:=Mb hf l;have:=hf x;omega
def F1{a b:AC}{k:List It}{e:Env}{σ:St}{Q:Env->St->Prop}(P:Env->St->Prop)(h1:∀ k',(∀ e σ,P e σ->W TT PT k' e σ Q)->W TT PT (.c a::k') e σ Q)(h2:∀ e σ,P e σ->W TT PT (.c b::k) e σ Q):W TT PT (.c (.seq a b)::k) e σ Q:=by
 rw[Anh];exact h1 _ h2
def A3e(op:Int):Fn TT PT 205 [iV op] (iV (Zb op)):=by
 refine Bj T205 rfl ?_;unfold Zb;by_cases h1:op=1
 .subst h1;simp only[go_sem,Int.reduceBEq];exact Ah rfl rfl
 have e1:(op==1)=false:=by simp[h1]
 by_cases h2:op=2
 .subst h2;simp only[go_sem,e1,Int.reduceBEq];exact Ah rfl rfl
 have e2:(op==2)=false:=by simp[h2]
 rw[if_neg AA];by_cases h3:3<=op/\op<=5
 .have g3:((3:Int)<=op)=True:=eq_true h3.1;have g5:(op<=5)=True:=eq_true h3.2;rw[if_pos h3];simp only[go_sem,e1,e2,g3,g5,ge_iff_le];exact Ah rfl rfl
 rw[if_neg h3];by_cases h6:6<=op/\op<=18
 .have g3:((3:Int)<=op)=True:=eq_true AA;have g5:(op<=5)=False:=eq_false AA;have g6:((6:Int)<=op)=True:=eq_true h6.1;have g7:(op<=18)=True:=eq_true h6.2;rw[if_pos h6];simp only[go_sem,e1,e2,g3,g5,g6,g7,ge_iff_le];exact Ah rfl rfl
 rw[if_neg h6];by_cases hl:3<=op
 .have g3:((3:Int)<=op)=True:=eq_true AA;have g5:(op<=5)=False:=eq_false AA;have g6:((6:Int)<=op)=True:=eq_true AA;have g7:(op<=18)=False:=eq_false AA;simp only[go_sem,e1,e2,g3,g5,g6,g7,ge_iff_le];exact Ah rfl rfl
 .have g3:((3:Int)<=op)=False:=eq_false AA;have g6:((6:Int)<=op)=False:=eq_false AA;simp only[go_sem,e1,e2,g3,g6,ge_iff_le];exact Ah rfl rfl
def A9s(x:Xp)(hl:x.l.length<=1000000000):Fn TT PT 182 [.agg x.row] (.bool (Agk x)):=by
 refine Bj T182 rfl ?_;rw[Bi];unfold Agk;have qa:(x.l.map Xp.row).length=x.l.length:=Au ..;cases h1:(x.op==0)
 .simp only[go_sem,h1];exact Ah rfl rfl
 cases h2:(x.n==0)
 .simp only[go_sem,h1,h2];exact Ah rfl rfl
 cases h3:(x.nm==[])
 .simp only[go_sem,h1,h2,h3];exact Ah rfl rfl
 have e:((x.l.length:Int)==0)=x.l.isEmpty:=by
  cases x.l with
  | nil=>rfl
  | cons a b=>grind
 simp only[go_sem,h1,h2,h3,qa,e];exact Ah rfl rfl
set_option maxHeartbeats 1000000 in
def A9t(x:Xp)(hl:x.l.length<=1000000000)(ih:∀ y∈x.l,Fn TT PT 181 [.agg y.row] (.bool (Hu y))):Fn TT PT 181 [.agg x.row] (.bool (Hu x)):=by
 obtain⟨op,n,nm,z,t,l⟩:=x;have hr:=Bi ⟨op,n,nm,z,t,l⟩;have hR:=Bec ⟨op,n,nm,z,t,l⟩;generalize Hu ⟨op,n,nm,z,t,l⟩=R at hR ⊢;simp only at hr hl ih hR;rw[hr];clear hr;unfold shH at hR;have qa:(l.map Xp.row).length=l.length:=Au ..;refine Bj T181 rfl ?_;refine F1 (fun e σ=>e=[(1,.ptr 0 0 0)]/\σ=[.row [iV op,iV n,.str nm,SL z t (l.map Xp.row)] 101 0 0]) (fun k' hk=>?_) ?_
 .simp only[go_sem];exact hk _ _ ⟨rfl,rfl⟩
 rintro e σ ⟨rfl,rfl⟩;refine F1 (fun e σ=>e=[(1,.ptr 0 0 0),(3,.bool (op==2||op==3))]/\σ=[.row [iV op,iV n,.str nm,SL z t (l.map Xp.row)] 101 0 0]) (fun k' hk=>?_) ?_
 .cases h2:(op==2)
  .simp only[go_sem,h2];exact hk _ _ ⟨by grind,rfl⟩
  .simp only[go_sem,h2];exact hk _ _ ⟨by grind,rfl⟩
 rintro e σ ⟨rfl,rfl⟩;generalize(op==2||op==3)=nb at hR ⊢;have ho:=A3e op;have ql:=Vi nm;refine F1 (fun e σ=>(e=[(1,.ptr 0 0 0)]/\σ=[.row [iV op,iV n,.str nm,SL z t (l.map Xp.row)] 101 0 0])/\R=l.all Hu) (fun k' hk=>?_) ?_
 .cases h1:(Zb op != (l.length:Int));rotate_left
  .have b1:(Zb op==(l.length:Int))=false:=by simpa using h1
   rw[b1]at hR;subst hR;simp only[go_sem];refine Af AD ?_;simp only[go_sem];refine Bg ho rfl ?_;simp only[go_sem,qa,h1];exact Ah rfl rfl
  have b1:(Zb op==(l.length:Int))=true:=by simpa using h1
  rw[b1]at hR
  have lt:∀ {a:Int},decide (0<=a)=!decide (a<0):=fun {a}=>by
   grind
  cases nb<;>cases h2:(nm==[])
  .rw[h2]at hR;subst hR;simp only[go_sem];refine Af AD ?_;simp only[go_sem];refine Bg ho rfl ?_;simp only[go_sem,qa,h1,h2,A2,A0,beq_self_eq_true,Ld,Le];exact Ah rfl rfl
  .rw[h2]at hR;cases h4:decide (n<0);rotate_left
   .rw[lt,h4]at hR;simp only[A0,W3,Zr]at hR;subst hR;simp only[go_sem];refine Af AD ?_;simp only[go_sem];refine Bg ho rfl ?_;simp only[go_sem,qa,h1,h2,A2,A0,beq_self_eq_true,Ld,Le,h4];exact Ah rfl rfl
   rw[lt,h4]at hR;cases h5:(op==1);rotate_left
   .rw[h5]at hR;have qn:(op != 1)=false:=by simp[bne,h5]
    simp only[go_sem];refine Af AD ?_;simp only[go_sem];refine Bg ho rfl ?_;simp only[go_sem,qa,h1,h2,A2,A0,beq_self_eq_true,Ld,Le,h4,qn];exact hk _ _ ⟨⟨rfl,rfl⟩,by grind⟩
   rw[h5]at hR;have qn:(op != 1)=true:=by simp[bne,h5]
   cases h6:(n==0)
   .rw[h6]at hR;have qp:(n != 0)=true:=by simp[bne,h6]
    simp only[A2,A0,Zr,Bool.or_false,W3]at hR;subst hR;simp only[go_sem];refine Af AD ?_;simp only[go_sem];refine Bg ho rfl ?_;simp only[go_sem,qa,h1,h2,A2,A0,beq_self_eq_true,Ld,Le,h4,qn,qp];exact Ah rfl rfl
   rw[h6]at hR;have qp:(n != 0)=false:=by simp[bne,h6]
   simp only[go_sem];refine Af AD ?_;simp only[go_sem];refine Bg ho rfl ?_;simp only[go_sem,qa,h1,h2,A2,A0,beq_self_eq_true,Ld,Le,h4,qn,qp];exact hk _ _ ⟨⟨rfl,rfl⟩,by grind⟩
  .rw[h2]at hR;cases h3:Bm nm
   .rw[h3]at hR ql;subst hR;simp only[go_sem];refine Af AD ?_;simp only[go_sem];refine Bg ho rfl ?_;simp only[go_sem,qa,h1,h2,A2,A0,beq_self_eq_true,Ld,Le];refine Bg ql rfl ?_;simp only[go_sem,qa,h1,h2,A2,A0,beq_self_eq_true,Ld,Le];exact Ah rfl rfl
   rw[h3]at hR ql;cases h4:decide (n<0);rotate_left
   .rw[lt,h4]at hR;simp only[A0,W3,Zr]at hR;subst hR;simp only[go_sem];refine Af AD ?_;simp only[go_sem];refine Bg ho rfl ?_;simp only[go_sem,qa,h1,h2,A2,A0,beq_self_eq_true,Ld,Le];refine Bg ql rfl ?_;simp only[go_sem,qa,h1,h2,A2,A0,beq_self_eq_true,Ld,Le,h4];exact Ah rfl rfl
   rw[lt,h4]at hR;cases h5:(op==1);rotate_left
   .rw[h5]at hR;have qn:(op != 1)=false:=by simp[bne,h5]
    simp only[go_sem];refine Af AD ?_;simp only[go_sem];refine Bg ho rfl ?_;simp only[go_sem,qa,h1,h2,A2,A0,beq_self_eq_true,Ld,Le];refine Bg ql rfl ?_;simp only[go_sem,qa,h1,h2,A2,A0,beq_self_eq_true,Ld,Le,h4,qn];exact hk _ _ ⟨⟨rfl,rfl⟩,by grind⟩
   rw[h5]at hR;have qn:(op != 1)=true:=by simp[bne,h5]
   cases h6:(n==0)
   .rw[h6]at hR;have qp:(n != 0)=true:=by simp[bne,h6]
    simp only[A2,A0,Zr,Bool.or_false,W3]at hR;subst hR;simp only[go_sem];refine Af AD ?_;simp only[go_sem];refine Bg ho rfl ?_;simp only[go_sem,qa,h1,h2,A2,A0,beq_self_eq_true,Ld,Le];refine Bg ql rfl ?_;simp only[go_sem,qa,h1,h2,A2,A0,beq_self_eq_true,Ld,Le,h4,qn,qp];exact Ah rfl rfl
   rw[h6]at hR;have qp:(n != 0)=false:=by simp[bne,h6]
   simp only[go_sem];refine Af AD ?_;simp only[go_sem];refine Bg ho rfl ?_;simp only[go_sem,qa,h1,h2,A2,A0,beq_self_eq_true,Ld,Le];refine Bg ql rfl ?_;simp only[go_sem,qa,h1,h2,A2,A0,beq_self_eq_true,Ld,Le,h4,qn,qp];exact hk _ _ ⟨⟨rfl,rfl⟩,by grind⟩
  .rw[h2]at hR;subst hR;simp only[go_sem];refine Af AD ?_;simp only[go_sem];refine Bg ho rfl ?_;simp only[go_sem,qa,h1,h2,A2,A0,beq_self_eq_true,Ld,Le];exact Ah rfl rfl
 rintro e σ ⟨⟨rfl,rfl⟩,hR⟩;simp only[go_sem];refine Bk (α:=Nat) (fun i=>l.length - i) (fun i=>[(1,.ptr 0 0 0),(4,iV (i:Int))]) (fun _=>[.row [iV op,iV n,.str nm,SL z t (l.map Xp.row)] 101 0 0]) (fun i=>i<=l.length/\l.all Hu=(l.drop i).all Hu) ?_ 0 ⟨Ax _,rfl⟩;rintro i ⟨hi,qj⟩ jh;refine Bd Bjz ?_;by_cases hc:i<l.length
 .have f1:((i:Int)<(l.length:Int))=True:=eq_true AA;have qU:=A1 (show i<9223372036854775807 by omega);obtain⟨a,ha⟩:∃ a,l[i]?=some a:=⟨_,Ca hc⟩;have qu:=Bi a;have qD:=Dw a;have hf:=ih a (Gx ha);have qw:(l.map Xp.row)[i]?=some (xR a):=by rw[As,ha,Jc,qu]
  have qT:l.drop i=a::l.drop (i+1):=by rw[Hv hc,(Al.1 ha).2]
  rw[qT,B5]at qj;rw[qu]at hf qD;cases hab:Hu a
  .rw[hab]at hf qj;rw[qj]at hR;subst hR;simp only[go_sem,qa,f1,qw];refine Ab hf (by grind) ?_;simp only[go_sem];exact Ah rfl rfl
  .rw[hab]at hf qj;simp only[go_sem,qa,f1,qw];refine Ab hf (by grind) ?_;simp only[go_sem,qU];exact Aq (jh (i+1) AA ⟨hc,by grind⟩) rfl
 .have f1:((i:Int)<(l.length:Int))=False:=eq_false AA;rw[qj,Ec AA]at hR;subst hR;simp only[go_sem,qa,f1];exact Ah rfl rfl
def Agl:∀ (N:Nat) (x:Xp),C5 x.row<=N->N<=1000000000->Fn TT PT 181 [.agg x.row] (.bool (Hu x))
 | 0,x,h,_=>by rw[G9]at h;omega
 | N+1,x,h,hN=>by
  have h1:=G9 x;have h2:=Mb (f:=Xp.row) (fun x=>by grind[G9]) x.l;refine A9t x AA fun y hy=>Agl N y ?_ AA
  grind[J1]
set_option maxHeartbeats 2000000 in
def A9u(s:Sp)(hi:∀ x∈s.idx,Fn TT PT 181 [.agg x.row] (.bool (Hu x)))(he:Fn TT PT 181 [.agg s.ex.row] (.bool (Hu s.ex)))(qG:s.ex.l.length<=1000000000)(qC:s.idx.length<=1000000000)(qS:s.body.length<=1000000000)(qV:s.els.length<=1000000000)
  (hb:Fn TT PT 124 [SL s.bz s.bt (s.body.map Sp.row)] (.bool (Lx s.body))) (hs:Fn TT PT 124 [SL s.ez s.et (s.els.map Sp.row)] (.bool (Lx s.els))):Fn TT PT 154 [.agg s.row] (.bool (Pu s)):=by
 obtain⟨op,line,nm,arg,iz,it,idx,ex,bz,bt,body,ez,et,els⟩:=s;have hr:=S6 ⟨op,line,nm,arg,iz,it,idx,ex,bz,bt,body,ez,et,els⟩;have hR:=Bed ⟨op,line,nm,arg,iz,it,idx,ex,bz,bt,body,ez,et,els⟩;generalize Pu ⟨op,line,nm,arg,iz,it,idx,ex,bz,bt,body,ez,et,els⟩=R at hR ⊢;have qm:=A9s ex qG;simp only at hr hR hi he hb hs qC qS qV qG;rw[hr];clear hr;have qA:=Bi ex;rw[qA]at he qm ⊢;unfold Aox at hR;simp only at hR;generalize ex.op=xo at he qm ⊢;generalize ex.n=xn at he qm ⊢;generalize ex.nm=xm at he qm ⊢;generalize ex.z=xz at he qm ⊢;generalize ex.t=xt at he qm ⊢;generalize ex.l=xl at he qm qG ⊢;clear qA;simp only[Bt,Be];obtain⟨A3,h3⟩:∃ b,b=(if F6 op then nm==[] else Bm nm):=⟨_,rfl⟩;obtain⟨A4,h4⟩:∃ b,b=(if op=15 then Bm arg else arg==[]):=⟨_,rfl⟩;obtain⟨A5,h5⟩:∃ b,b=decide (idx.length<=1):=⟨_,rfl⟩;obtain⟨A6,h6⟩:∃ b,b=(op==1||idx.isEmpty):=⟨_,rfl⟩;obtain⟨A7,h7⟩:∃ b,b=idx.all Hu:=⟨_,rfl⟩;obtain⟨A8,h8⟩:∃ b,b=(if Em op then Hu ex else Agk ex):=⟨_,rfl⟩;obtain⟨A9,h9⟩:∃ b,b=(Bv op||body.isEmpty):=⟨_,rfl⟩;obtain⟨A10,qJ⟩:∃ b,b=(op==2||els.isEmpty):=⟨_,rfl⟩;rw[<-h3,<-h4,<-h5,<-h6,<-h7,<-h8,<-h9,<-qJ]at hR;obtain⟨B1,qQ⟩:∃ b,b=Lx body:=⟨_,rfl⟩;obtain⟨B2,qR⟩:∃ b,b=Lx els:=⟨_,rfl⟩;rw[<-qQ]at hR hb;rw[<-qR]at hR hs;have qd:(idx.map Xp.row).length=idx.length:=Au ..;have qk:(body.map Sp.row).length=body.length:=Au ..;have qo:(els.map Sp.row).length=els.length:=Au ..;have ql:=Vi nm;have qu:=Vi arg;refine Bj T154 rfl ?_;refine F1 (fun e σ=>e=[(1,.ptr 0 0 0)]/\σ=[.row [iV op,iV line,.str nm,.str arg,SL iz it (idx.map Xp.row),iV xo,iV xn,.str xm,SL xz xt (xl.map Xp.row),SL bz bt (body.map Sp.row),SL ez et (els.map Sp.row)] 103 0 0]) (fun k' hk=>?_) ?_
 .simp only[go_sem];exact hk _ _ ⟨rfl,rfl⟩
 rintro e σ ⟨rfl,rfl⟩;refine F1 (fun e σ=>(e=[(1,.ptr 0 0 0)]/\σ=[.row [iV op,iV line,.str nm,.str arg,SL iz it (idx.map Xp.row),iV xo,iV xn,.str xm,SL xz xt (xl.map Xp.row),SL bz bt (body.map Sp.row),SL ez et (els.map Sp.row)] 103 0 0])/\(1<=op/\op<=15)/\R=((A3&&(A4&&(A5&&(A6&&(A7&&(A8&&(A9&&(A10))))))))&&(B1&&B2))) (fun k' hk=>?_) ?_
 .by_cases g1:op<1
  .rw[decide_eq_false (show ¬ 1<=op by omega)]at hR;subst hR;have f1:(op<1)=True:=eq_true g1;simp only[go_sem,f1];exact Ah rfl rfl
  have f1:(op<1)=False:=eq_false g1;rw[decide_eq_true (show 1<=op by omega)]at hR;by_cases g2:15<op
  .rw[decide_eq_false (show ¬ op<=15 by omega)]at hR;subst hR;have f2:((15:Int)<op)=True:=eq_true g2;simp only[go_sem,f1,f2,gt_iff_lt];exact Ah rfl rfl
  have f2:((15:Int)<op)=False:=eq_false g2;rw[decide_eq_true (show op<=15 by omega)]at hR;simp only[go_sem,f1,f2,gt_iff_lt];exact hk _ _ ⟨⟨rfl,rfl⟩,⟨by omega,by omega⟩,by grind⟩
 clear hR;rintro e σ ⟨⟨rfl,rfl⟩,qh,hR⟩;refine F1 (fun e σ=>e=[(1,.ptr 0 0 0),(3,.bool (F6 op))]/\σ=[.row [iV op,iV line,.str nm,.str arg,SL iz it (idx.map Xp.row),iV xo,iV xn,.str xm,SL xz xt (xl.map Xp.row),SL bz bt (body.map Sp.row),SL ez et (els.map Sp.row)] 103 0 0]) (fun k' hk=>?_) ?_
 .unfold F6 at hk;cases q2:(op==2);rotate_left
  .simp only[go_sem,q2];exact hk _ _ ⟨by grind,rfl⟩
  cases q3:(op==3);rotate_left
  .simp only[go_sem,q2,q3];exact hk _ _ ⟨by grind,rfl⟩
  cases q7:(op==7);rotate_left
  .simp only[go_sem,q2,q3,q7];exact hk _ _ ⟨by grind,rfl⟩
  cases q8:(op==8)
  .simp only[go_sem,q2,q3,q7,q8];exact hk _ _ ⟨by grind,rfl⟩
  .simp only[go_sem,q2,q3,q7,q8];exact hk _ _ ⟨by grind,rfl⟩
 rintro e σ ⟨rfl,rfl⟩;refine F1 (fun e σ=>(e=[(1,.ptr 0 0 0)]/\σ=[.row [iV op,iV line,.str nm,.str arg,SL iz it (idx.map Xp.row),iV xo,iV xn,.str xm,SL xz xt (xl.map Xp.row),SL bz bt (body.map Sp.row),SL ez et (els.map Sp.row)] 103 0 0])/\R=((A4&&(A5&&(A6&&(A7&&(A8&&(A9&&(A10)))))))&&(B1&&B2))) (fun k' hk=>?_) ?_
 .cases hn:F6 op
  .rw[hn,if_neg AE]at h3;rw[<-h3]at ql;cases A3
   .subst hR;simp only[go_sem,A2,A0];refine Ab ql rfl ?_;simp only[go_sem,A2,A0];exact Ah rfl rfl
   .simp only[go_sem,A2,A0];refine Ab ql rfl ?_;simp only[go_sem,A2,A0];exact hk _ _ ⟨⟨rfl,rfl⟩,by grind⟩
  .rw[hn,if_pos rfl]at h3;have h3:=h3.symm;cases A3
   .subst hR;simp only[go_sem,A2,A0,h3];exact Ah rfl rfl
   .simp only[go_sem,A2,A0,h3];exact hk _ _ ⟨⟨rfl,rfl⟩,by grind⟩
 clear hR;rintro e σ ⟨⟨rfl,rfl⟩,hR⟩;refine F1 (fun e σ=>(e=[(1,.ptr 0 0 0)]/\σ=[.row [iV op,iV line,.str nm,.str arg,SL iz it (idx.map Xp.row),iV xo,iV xn,.str xm,SL xz xt (xl.map Xp.row),SL bz bt (body.map Sp.row),SL ez et (els.map Sp.row)] 103 0 0])/\R=((A5&&(A6&&(A7&&(A8&&(A9&&(A10))))))&&(B1&&B2))) (fun k' hk=>?_) ?_
 .by_cases qB:op=15
  .rw[if_pos qB]at h4;rw[<-h4]at qu;have qv:(op==15)=true:=by simp[qB]
   cases A4
   .subst hR;simp only[go_sem,A2,A0,qv,bne];refine Ab qu rfl ?_;simp only[go_sem,A2,A0];exact Ah rfl rfl
   .simp only[go_sem,A2,A0,qv,bne];refine Ab qu rfl ?_;simp only[go_sem,A2,A0,qv,bne];exact hk _ _ ⟨⟨rfl,rfl⟩,by grind⟩
  .rw[if_neg qB]at h4;have h4:=h4.symm;have qv:(op==15)=false:=by simp[qB]
   cases A4
   .subst hR;simp only[go_sem,A2,A0,h4,qv,bne];exact Ah rfl rfl
   .simp only[go_sem,A2,A0,h4,qv,bne];exact hk _ _ ⟨⟨rfl,rfl⟩,by grind⟩
 clear hR;rintro e σ ⟨⟨rfl,rfl⟩,hR⟩;refine F1 (fun e σ=>(e=[(1,.ptr 0 0 0)]/\σ=[.row [iV op,iV line,.str nm,.str arg,SL iz it (idx.map Xp.row),iV xo,iV xn,.str xm,SL xz xt (xl.map Xp.row),SL bz bt (body.map Sp.row),SL ez et (els.map Sp.row)] 103 0 0])/\R=((A8&&(A9&&(A10)))&&(B1&&B2))) (fun k' hk=>?_) ?_
 .have hN:idx.length=0\/idx.length=1\/2<=idx.length:=by omega
  rcases hN with h | h | h
  .have qi:idx=[]:=U0.1 h;have f1:((1:Int)<(idx.length:Int))=False:=eq_false AA;have f2:((0:Int)<(idx.length:Int))=False:=eq_false AA;have f3:((idx.length:Int)==1)=false:=by simp[h]
   rw[h5,h6,h7]at hR
   have hR:R=((A8&&(A9&&A10))&&(B1&&B2)):=by rw[hR,qi];cases(op==1)<;>rfl
   cases q1:(op==1)
   .simp only[go_sem,A2,A0,q1,bne,qd,f1,f2,f3,gt_iff_lt];exact hk _ _ ⟨⟨rfl,rfl⟩,hR⟩
   .simp only[go_sem,A2,A0,q1,bne,qd,f1,f2,f3,gt_iff_lt];exact hk _ _ ⟨⟨rfl,rfl⟩,hR⟩
  .obtain⟨a,qi⟩:=List.length_eq_one_iff.1 h;have f1:((1:Int)<(idx.length:Int))=False:=eq_false AA;have f2:((0:Int)<(idx.length:Int))=True:=eq_true AA;have f3:((idx.length:Int)==1)=true:=by simp[h]
   have qA:=Bi a;have qD:=Dw a;have hf:=hi a (by grind);have qw:(idx.map Xp.row)[0]?=some [iV a.op,iV a.n,.str a.nm,SL a.z a.t (a.l.map Xp.row)]:=by rw[qi,<-qA];rfl
   rw[qA]at hf qD;have h5:A5=true:=by rw[h5,qi];rfl
   have h7:A7=Hu a:=by rw[h7,qi,B5,Dd,Adp]
   have h6:A6=(op==1):=by rw[h6,qi];simp
   rw[h5,h6,h7]at hR;cases q1:(op==1)
   .rw[q1]at hR;subst hR;simp only[go_sem,A2,A0,q1,bne,qd,f1,f2,f3,gt_iff_lt];exact Ah rfl rfl
   rw[q1]at hR;cases hab:Hu a
   .rw[hab]at hR hf;subst hR;simp only[go_sem,A2,A0,q1,bne,qd,f1,f2,f3,gt_iff_lt,qw];refine Ab hf (by grind) ?_;simp only[go_sem,A2,A0];exact Ah rfl rfl
   .rw[hab]at hR hf;simp only[go_sem,A2,A0,q1,bne,qd,f1,f2,f3,gt_iff_lt,qw];refine Ab hf (by grind) ?_;simp only[go_sem,A2,A0];exact hk _ _ ⟨⟨rfl,rfl⟩,hR⟩
  .have f1:((1:Int)<(idx.length:Int))=True:=eq_true AA;rw[show A5=false from by grind]at hR;subst hR;simp only[go_sem,A2,A0,qd,f1,gt_iff_lt];exact Ah rfl rfl
 clear hR;rintro e σ ⟨⟨rfl,rfl⟩,hR⟩;refine F1 (fun e σ=>e=[(1,.ptr 0 0 0),(4,.bool (Em op))]/\σ=[.row [iV op,iV line,.str nm,.str arg,SL iz it (idx.map Xp.row),iV xo,iV xn,.str xm,SL xz xt (xl.map Xp.row),SL bz bt (body.map Sp.row),SL ez et (els.map Sp.row)] 103 0 0]) (fun k' hk=>?_) ?_
 .unfold Em at hk;cases q1:(op==1);rotate_left
  .simp only[go_sem,q1];exact hk _ _ ⟨by grind,rfl⟩
  cases q2:(op==2);rotate_left
  .simp only[go_sem,q1,q2];exact hk _ _ ⟨by grind,rfl⟩
  cases q3:(op==3);rotate_left
  .simp only[go_sem,q1,q2,q3];exact hk _ _ ⟨by grind,rfl⟩
  cases q14:(op==14)
  .simp only[go_sem,q1,q2,q3,q14];exact hk _ _ ⟨by grind,rfl⟩
  .simp only[go_sem,q1,q2,q3,q14];exact hk _ _ ⟨by grind,rfl⟩
 rintro e σ ⟨rfl,rfl⟩;refine F1 (fun e σ=>(e=[(1,.ptr 0 0 0)]/\σ=[.row [iV op,iV line,.str nm,.str arg,SL iz it (idx.map Xp.row),iV xo,iV xn,.str xm,SL xz xt (xl.map Xp.row),SL bz bt (body.map Sp.row),SL ez et (els.map Sp.row)] 103 0 0])/\R=((A9&&(A10))&&(B1&&B2))) (fun k' hk=>?_) ?_
 .cases hn:Em op
  .rw[hn,if_neg AE]at h8;rw[<-h8]at qm;cases A8
   .subst hR;simp only[go_sem,A2,A0];refine Ab qm AB ?_;simp only[go_sem,A2,A0];exact Ah rfl rfl
   .simp only[go_sem,A2,A0];refine Ab qm AB ?_;simp only[go_sem,A2,A0];exact hk _ _ ⟨⟨rfl,rfl⟩,by grind⟩
  .rw[hn,if_pos rfl]at h8;rw[<-h8]at he;cases A8
   .subst hR;simp only[go_sem,A2,A0];refine Ab he AB ?_;simp only[go_sem,A2,A0];exact Ah rfl rfl
   .simp only[go_sem,A2,A0];refine Ab he AB ?_;simp only[go_sem,A2,A0];exact hk _ _ ⟨⟨rfl,rfl⟩,by grind⟩
 clear hR;rintro e σ ⟨⟨rfl,rfl⟩,hR⟩;refine F1 (fun e σ=>e=[(1,.ptr 0 0 0),(5,.bool (Bv op))]/\σ=[.row [iV op,iV line,.str nm,.str arg,SL iz it (idx.map Xp.row),iV xo,iV xn,.str xm,SL xz xt (xl.map Xp.row),SL bz bt (body.map Sp.row),SL ez et (els.map Sp.row)] 103 0 0]) (fun k' hk=>?_) ?_
 .unfold Bv at hk;by_cases g1:2<=op
  .have f1:((2:Int)<=op)=True:=eq_true g1;rw[decide_eq_true g1]at hk;by_cases g2:op<=8
   .have f2:(op<=8)=True:=eq_true g2;rw[decide_eq_true g2]at hk;simp only[go_sem,f1,f2,ge_iff_le];exact hk _ _ ⟨rfl,rfl⟩
   .have f2:(op<=8)=False:=eq_false g2;rw[decide_eq_false g2]at hk;simp only[go_sem,f1,f2,ge_iff_le];exact hk _ _ ⟨rfl,rfl⟩
  .have f1:((2:Int)<=op)=False:=eq_false g1;rw[decide_eq_false g1]at hk;simp only[go_sem,f1,ge_iff_le];exact hk _ _ ⟨rfl,rfl⟩
 rintro e σ ⟨rfl,rfl⟩;refine F1 (fun e σ=>(e=[(1,.ptr 0 0 0)]/\σ=[.row [iV op,iV line,.str nm,.str arg,SL iz it (idx.map Xp.row),iV xo,iV xn,.str xm,SL xz xt (xl.map Xp.row),SL bz bt (body.map Sp.row),SL ez et (els.map Sp.row)] 103 0 0])/\R=(B1&&B2)) (fun k' hk=>?_) ?_
 .have e1:((0:Int)<(body.length:Int))=(body.isEmpty=false):=by
   cases body with
   | nil=>simp
   | cons x r=>simp
  have e2:((0:Int)<(els.length:Int))=(els.isEmpty=false):=by
   cases els with
   | nil=>simp
   | cons x r=>simp
  rw[h9,qJ]at hR
  cases hn:Bv op<;>cases hbe:body.isEmpty
  .rw[hn,hbe]at hR;subst hR;simp only[go_sem,A2,A0,qk,e1,hbe,gt_iff_lt,decide_true];exact Ah rfl rfl
  all_goals
   rw[hn,hbe]at hR
   cases q2:(op==2)<;>cases hee:els.isEmpty
   .rw[q2,hee]at hR;subst hR;simp only[go_sem,A2,A0,qk,qo,e1,e2,hbe,hee,q2,bne,gt_iff_lt,decide_true];exact Ah rfl rfl
   all_goals
    rw[q2,hee]at hR;simp only[go_sem,A2,A0,qk,qo,e1,e2,hbe,hee,q2,bne,gt_iff_lt,decide_true];exact hk _ _ ⟨⟨rfl,rfl⟩,by grind⟩
 clear hR;rintro e σ ⟨⟨rfl,rfl⟩,hR⟩;cases B1
 .subst hR;simp only[go_sem];refine Ab hb AB ?_;simp only[go_sem];exact Ah rfl rfl
 .cases B2
  .subst hR;simp only[go_sem];refine Ab hb AB ?_;simp only[go_sem];refine Ab hs AB ?_;simp only[go_sem];exact Ah rfl rfl
  .subst hR;simp only[go_sem];refine Ab hb AB ?_;simp only[go_sem];refine Ab hs AB ?_;simp only[go_sem];exact Ah rfl rfl
