/- Walks: strings.Builder. -/
import Derived.Test.YtcoeikinocflnaaGreatDoorGa
set_option linter.all false
namespace Go.Proofs.YtcoeikinocflnaaGreatDoor.KM
open Go
theorem W1(l:List UInt8):∀ r∈Bz l,r.length=1:=by
 intro r hr;obtain⟨c,_,rfl⟩:=D6.1 hr;rfl
theorem Aou(a b:List UInt8):Bz (a++b)=Bz a++Bz b:=Fb ..
theorem Ai6(a:List UInt8):(Bz a).length=a.length:=Bl ..
theorem Aev:∀ l:List UInt8,H9 (Bz l)=some l
 | []=>rfl
 | c::l=>by
  have h:c.toNat<256:=c.toNat_lt;have:=Aev l;simp only[Bz,Ba,H9]at this ⊢;rw[if_pos (by omega),this];simp
theorem Agi(l:List UInt8):Aj (Bz l).flatten=[]:=by
 refine Iu (J9 fun r hr=>?_);obtain⟨c,_,rfl⟩:=D6.1 hr;rfl
theorem Aqm(ty:Nat)(x:V)(l:List UInt8)(σ:St):Alc ty x (.str l) σ=Eu 1 (1,ty) x (.lst 1 (Bz l)) σ:=rfl
theorem Aov{s:St}{j:Nat}{x:Ob}(h:s[j]?=some x):j<s.length:=(Ar.1 h).1
def BL(s:St)(b:Nat)(u:V)(l:List UInt8):Prop:=∃ p,s[b]?=some (.row [p,u] 192 0 0)/\(p=.nilp\/p=.ptr b 0 0)/\GW s 1 5 (b+1) u (Bz l)
theorem At8{s:St}{b:Nat}{u:V}{l:List UInt8}(h:BL s b u l):∀ i∈u.refs,i<s.length:=by
 obtain⟨p,_,_,hg⟩:=h;exact Ai1 hg
theorem At9{s J:St}{b:Nat}{u:V}{l:List UInt8}(h:BL s b u l):BL (s++J) b u l:=by
 obtain⟨p,h1,h2,h3⟩:=h;exact⟨p,Br h1,h2,Pd h3⟩
theorem Gv{s:St}{cs:List V}{t:Nat}(h:Cl s)(hr:cs.all V.rowB=true):Cl (s++[.row cs t 0 0]):=Pe h (by simp only[Ob.refs,Iu hr];simp)
theorem Aqn{s:St}{b:Nat}{u:V}{l:List UInt8}(t:List UInt8)(h:BL s b u l)(hc:Cl s)(hb:l.length+t.length<=100000000000000):
  ∃ s' u',Th TT PT 186 [.ptr b 0 0,.str t] s (.tup [.int .i64 (t.length:Int),.nili]) s'/\BL s' b u' (l++t)/\Cl s'/\s.length<=s'.length/\∀ j,j≠b->j ∉ u.refs->j<s.length->s'[j]?=s[j]?:=by
 have hbr:=At8 h;obtain⟨p,hs,hp,hg⟩:=h;have hbl:b<s.length:=Aov hs
 have h1:∃ s1,Sn 192 [.ptr b 0 0] s=some (.tup [],s1)/\s1[b]?=some (.row [.ptr b 0 0,u] 192 0 0)/\GW s1 1 5 (b+1) u (Bz l)/\s1.length=s.length/\Cl s1/\∀ j,j≠b->s1[j]?=s[j]?:=by
  rcases hp with rfl | rfl
  ·refine⟨s.set b (.row [.ptr b 0 0,u] 192 0 0),?_,by rw[B8 hbl],Ff hg (by omega),by simp,Ge hc ?_,fun j hj=>by rw[Bc (by omega)]⟩
   ·simp[Sn,hs]
   ·intro i hi;simp only[Ob.refs,Aj,V.refs,Cw,Cq,Ey]at hi;rcases hi with rfl | hi
    ·exact hbl
    ·exact hbr i hi
  ·exact⟨s,by simp[Sn,hs],hs,hg,rfl,hc,fun _ _=>rfl⟩
 obtain⟨s1,e1,q1,g1,l1,c1,f1⟩:=h1;obtain⟨u2,s2,e2,g2,l2,fo,f2⟩:=Pj (bytes:=1) (y:=.lst 1 (Bz t)) (ys:=Bz t) g1 (by omega) rfl (by omega) (W1 l) (W1 t) (by rw[Ai6,Ai6];omega);rw[<-Aou]at g2;have q2:=(f2 b (by omega)).trans q1;have c2:Cl s2/\∀ i∈u2.refs,i<s2.length:=⟨Aoj g1 rfl e2 (Agi l) (Agi t) c1,Ai1 g2⟩
 have c3:Cl (s2.set b (.row [.ptr b 0 0,u2] 192 0 0)):=by
  refine Ge c2.1 ?_;intro i hi;simp only[Ob.refs,Aj,V.refs,Cw,Cq,Ey]at hi;rcases hi with rfl | hi
  ·omega
  ·exact c2.2 i hi
 refine⟨s2.set b (.row [.ptr b 0 0,u2] 192 0 0),u2,Acd T186 rfl ?_ rfl rfl (by simp;omega) c3,⟨.ptr b 0 0,by rw[B8 (by omega)],.inr rfl,Ff g2 (by omega)⟩,c3,by simp;omega,fun j hj hu hl=>?_⟩
 ·simp only[go_sem];refine Lq (.spec T224 rfl rfl e1) ?_;simp only[go_sem,q1,Aqm,e2,q2,Axq (D2 g2),D2 g2];exact⟨rfl,rfl⟩
 ·rw[Bc (by omega),fo j ?_ (by omega),f1 j hj];intro i g hi hji;subst hji;exact hu (by rw[hi];simp[V.refs])
theorem Axy{s:St}{b:Nat}{u:V}{l:List UInt8}(h:BL s b u l):∃ s',P3 192 5 [.ptr b 0 0] s=some (.str l,s'):=by
 obtain⟨p,hs,hp,hg⟩:=h;rcases hg with⟨rfl,hl⟩ | ⟨hn,i,g,rfl,ho,hlo⟩
 ·have:l=[]:=by simpa[Bz] using hl
  subst this;exact⟨s,by simp[P3,hs]⟩
 ·have hpos:0<(Bz l).length:=List.length_pos_iff.2 hn;have hch:Em 1 (Bz l).length (Bz l).flatten=Bz l:=Aai (W1 l);have hfl:=J7 (W1 l);refine⟨s.set i .dead,?_⟩;simp only[P3,hs,ho];rw[if_pos ⟨trivial,trivial,hpos⟩,if_pos ⟨trivial,trivial,by omega⟩,hch,Aev];rfl
def WB(s0 s:St)(b:Nat)(l:List UInt8):Prop:=(∃ u,BL s b u l)/\Cl s/\s0.length<=s.length/\∀ (j:Nat) (cs:List V) (e g z:Nat),j≠b->e≠5->s0[j]?=some (.row cs e g z)->s[j]?=some (.row cs e g z)
theorem Ahk{s:St}{b:Nat}{u:V}{l:List UInt8}(h:BL s b u l)(hc:Cl s):WB s s b l:=⟨⟨u,h⟩,hc,Ah _,fun _ _ _ _ _ _ _ h=>h⟩
theorem Hv{s0 s1 s2:St}{b:Nat}{l l':List UInt8}(h1:WB s0 s1 b l)(h2:WB s1 s2 b l'):WB s0 s2 b l':=
 ⟨h2.1,h2.2.1,Cj h1.2.2.1 h2.2.2.1,fun j cs e g z hj he h=>h2.2.2.2 j cs e g z hj he (h1.2.2.2 j cs e g z hj he h)⟩
theorem Jm{s0 s:St}{b:Nat}{l:List UInt8}{cs:List V}{t:Nat}(h:WB s0 s b l)(hr:cs.all V.rowB=true):WB s0 (s++[.row cs t 0 0]) b l:=by
 obtain⟨⟨u,h1⟩,h2,h3,h4⟩:=h;refine⟨⟨u,At9 h1⟩,Gv h2 hr,by simp;omega,fun j cs e g z hj he h=>Br (h4 j cs e g z hj he h)⟩
theorem Pf{s0 s:St}{b:Nat}{l:List UInt8}(h:WB s0 s b l):WB s s b l:=⟨h.1,h.2.1,Ah _,fun _ _ _ _ _ _ _ h=>h⟩
theorem Fm{s0 s:St}{b:Nat}{l:List UInt8}(h:WB s0 s b l)(t:List UInt8)(hb:l.length+t.length<=100000000000000):∃ s',Th TT PT 186 [.ptr b 0 0,.str t] s (.tup [.int .i64 (t.length:Int),.nili]) s'/\WB s0 s' b (l++t)/\WB s s' b (l++t):=by
 obtain⟨⟨u,h1⟩,h2,h3,h4⟩:=h;obtain⟨s',u',q1,q2,q3,q4,q5⟩:=Aqn t h1 h2 hb
 have hw:WB s s' b (l++t):=by
  refine⟨⟨u',q2⟩,q3,q4,fun j cs e g z hj he hs=>?_⟩;rw[q5 j hj ?_ (Ar.1 hs).1]
  ·exact hs
  ·intro hm;obtain⟨p,-,-,hg⟩:=h1;rcases hg with⟨rfl,-⟩ | ⟨-,i,g',rfl,ho,-⟩
   ·simp[V.refs]at hm
   ·simp[V.refs]at hm;subst hm;rw[ho]at hs;simp at hs;exact he hs.2.1.symm
 exact⟨s',q1,Hv ⟨⟨u,h1⟩,h2,h3,h4⟩ hw,hw⟩
theorem Ps{T:Nat->Option AF}{pr:Nat->Option (List V->Option V)}{f p:Nat}{res:List AR}{body:AC}{vs:List V}{v:V}{σ:St}{R:St->Prop}(hT:T f=some ⟨p,res,true,body,none⟩)(hl:vs.length=p)
  (h:W T pr [.c body] (C2 0 vs) σ (Hd fun e' σ1=>B6 e' σ1 res=some v/\R σ1)) (hr:v.refs=[]) (ho:Cc v=true) (hR:∀ σ1,R σ1->σ.length<=σ1.length/\Cl σ1):∃ σ',Th T pr f vs σ v σ'/\R σ':=by
 obtain⟨e',σ1,hE,hres,h1⟩:=h;obtain⟨h2,h3⟩:=hR σ1 h1;exact⟨σ1,Acd hT hl ⟨e',σ1,hE,hres,rfl⟩ hr ho h2 h3,h1⟩
theorem Wu{x a:Xp}{i:Nat}(h:x.l[i]?=some a)(hi:i<2):Fn TT PT 261 [.agg x.row,.int .i64 (i:Int)] (.agg a.row):=by
 have hil:=(Ar.1 h).1;rw[Ax x];have hset:=C7 a;have hn:(x.l.map Xp.row).length=x.l.length:=Bl ..;have g1:((x.l.length:Int)<=(i:Int))=False:=eq_false (by omega);refine Bn T261 rfl ?_;rw[Ax a]at hset ⊢;have hrow:a.row=[.int .i64 a.op,.int .i64 a.n,.str a.nm,SL a.z a.t (a.l.map Xp.row)]:=Ax a;simp only[go_sem,hn,g1,Bb,h,hrow];exact Ek hset
theorem X9{x:Xp}(ho:1<=x.op/\x.op<=18){s0 s:St}{b:Nat}{l:List UInt8}(hx:∀ (s:St) (l:List UInt8),WB s s b l->l.length+x.txt.length<=10000000000000->∃ s',Th TT PT 249 [.ptr b 0 0,.agg x.row] s (.tup []) s'/\WB s s' b (l++x.txt))(level:Int)(h:WB s0 s b l)(hl:l.length+(Dg (x.op,x.txt) level).length<=10000000000000):
  ∃ s',Th TT PT 260 [.ptr b 0 0,.agg x.row,.int .i64 level] s (.tup []) s'/\WB s s' b (l++Dg (x.op,x.txt) level):=by
 have hop:=R5 ho;have hset:=C7 x;have hself:=Pf h;refine Ps T260 rfl ?_ rfl rfl (fun σ1 h=>⟨h.2.2.1,h.2.1⟩);rw[Ax]at hx hset ⊢;have hrow:([V.int .i64 x.op,.int .i64 x.n,.str x.nm,SL x.z x.t (x.l.map Xp.row)]).all V.rowB=true:=hset;obtain⟨s1,e1⟩:∃ s1,s1=s++[Ob.row [.int .i64 x.op,.int .i64 x.n,.str x.nm,SL x.z x.t (x.l.map Xp.row)] 103 0 0]:=⟨_,rfl⟩;have w1:WB s s1 b l:=by rw[e1];exact Jm hself hrow
 have k1:s1[s.length]?=some (.row [.int .i64 x.op,.int .i64 x.n,.str x.nm,SL x.z x.t (x.l.map Xp.row)] 103 0 0):=by rw[e1,Cf (Ah _),Ir];rfl
 have hbn:s.length≠b:=by
  obtain⟨⟨u,p,hb,-⟩,-⟩:=h;have:=(Ar.1 hb).1;omega
 unfold Dg at hl ⊢;by_cases hlt:Bj x.op<level
 ·have f:(level<=Bj x.op)=False:=eq_false (by omega);rw[if_pos hlt]at hl ⊢;simp only[Am,Ao,Cx]at hl;obtain⟨s2,q2,w2,v2⟩:=Fm w1 [40] (by simp;omega);obtain⟨s3,q3,v3⟩:=hx s2 (l++[40]) (Pf w2) (by simp;omega);obtain⟨s4,q4,w4,v4⟩:=Fm (Hv w2 v3) [41] (by simp;omega);have k2:=v2.2.2.2 s.length _ _ _ _ hbn (by decide) k1;simp only[go_sem];refine Ad hop (by simp only[go_sem]) ?_;simp only[go_sem,f];rw[e1]at q2;refine B5 q2 ?_;simp only[go_sem,k2];refine B5 q3 ?_;simp only[go_sem];refine B5 q4 ?_;simp only[go_sem];exact⟨rfl,by have:=w4;simpa using this⟩
 ·have f:(level<=Bj x.op)=True:=eq_true (by omega);rw[if_neg hlt]at hl ⊢;obtain⟨s3,q3,v3⟩:=hx s1 l (Pf w1) (by simp only at hl;omega);rw[e1]at q3;simp only[go_sem];refine Ad hop (by simp only[go_sem]) ?_;simp only[go_sem,f];refine B5 q3 ?_;simp only[go_sem];exact⟨rfl,Hv w1 v3⟩
theorem Aqo{x:Xp}(h:Cn x):∀ (s:St) (b:Nat) (l:List UInt8),WB s s b l->l.length+x.txt.length<=10000000000000->∃ s',Th TT PT 249 [.ptr b 0 0,.agg x.row] s (.tup []) s'/\WB s s' b (l++x.txt):=by
 induction h with
 | @num n nm z t hn=>
  intro s b l h hl;rw[Ed]at hl ⊢;simp only[Bs,Di,if_true]at hl ⊢
  have hbn:s.length≠b:=by
   obtain⟨⟨u,p,hb,-⟩,-⟩:=h;have:=(Ar.1 hb).1;omega
  have hop:=R5 (op:=1) (by omega);have hf:L9 [.int .i64 n,.int .i64 10]=some (.str (Cm n)):=by unfold L9;exact if_pos hn
  refine Ps T249 rfl ?_ rfl rfl (fun σ1 h=>⟨h.2.2.1,h.2.1⟩);rw[Ax];obtain⟨s1,e1⟩:∃ s1,s1=s++[Ob.row [.int .i64 1,.int .i64 n,.str nm,SL z t []] 103 0 0,Ob.row [.str (Cd 1),.int .i64 (Bj 1)] 301 0 0]:=⟨_,rfl⟩
  have w1:WB s s1 b l:=by
   have:=Jm (Jm h (t:=103) (cs:=[.int .i64 1,.int .i64 n,.str nm,SL z t []]) (by simp only[go_sem])) (t:=301) (cs:=[.str (Cd 1),.int .i64 (Bj 1)]) rfl;rw[e1];simpa using this
  obtain⟨s2,q2,w2,v2⟩:=Fm w1 (Cm n) (by omega);rw[e1]at q2;simp only[Bs];simp only[go_sem];refine Ad hop (by simp only[go_sem]) ?_;simp only[go_sem,Int.reduceBEq];refine E6 P90 (by simp only[go_sem]) hf ?_;simp only[go_sem];refine B5 q2 ?_;simp only[go_sem];exact⟨rfl,w2⟩
 | @name n nm z t=>
  intro s b l h hl;rw[Ed]at hl ⊢;simp only[Bs,Di,show((2:Int)=1)=False from eq_false (by omega),if_false,if_true]at hl ⊢
  have hbn:s.length≠b:=by
   obtain⟨⟨u,p,hb,-⟩,-⟩:=h;have:=(Ar.1 hb).1;omega
  have hop:=R5 (op:=2) (by omega);refine Ps T249 rfl ?_ rfl rfl (fun σ1 h=>⟨h.2.2.1,h.2.1⟩);rw[Ax];obtain⟨s1,e1⟩:∃ s1,s1=s++[Ob.row [.int .i64 2,.int .i64 n,.str nm,SL z t []] 103 0 0,Ob.row [.str (Cd 2),.int .i64 (Bj 2)] 301 0 0]:=⟨_,rfl⟩
  have w1:WB s s1 b l:=by
   have:=Jm (Jm h (t:=103) (cs:=[.int .i64 2,.int .i64 n,.str nm,SL z t []]) (by simp only[go_sem])) (t:=301) (cs:=[.str (Cd 2),.int .i64 (Bj 2)]) rfl;rw[e1];simpa using this
  obtain⟨s2,q2,w2,v2⟩:=Fm w1 nm (by omega);rw[e1]at q2;simp only[Bs];have lv:(Bj 2==7)=true:=by decide
  simp only[go_sem];refine Ad hop (by simp only[go_sem]) ?_;simp only[go_sem,Int.reduceBEq,lv];refine B5 q2 ?_;simp only[go_sem];exact⟨rfl,w2⟩
 | @idx n nm z t a ha ih=>
  intro s b l h hl;rw[Ed]at hl ⊢;simp only[Ba,Bs,Di,show((3:Int)=1)=False from eq_false (by omega),show((3:Int)=2)=False from eq_false (by omega),if_false,if_true]at hl ⊢;have hl:l.length+nm.length+a.txt.length+2<=10000000000000:=by simp at hl;omega
  have hbn:s.length≠b:=by
   obtain⟨⟨u,p,hb,-⟩,-⟩:=h;have:=(Ar.1 hb).1;omega
  have hop:=R5 (op:=3) (by omega);have hopd:=Wu (x:=⟨3,n,nm,z,t,[a]⟩) (a:=a) (i:=0) rfl (by omega);refine Ps T249 rfl ?_ rfl rfl (fun σ1 h=>⟨h.2.2.1,h.2.1⟩);rw[Ax]at hopd ⊢;simp only[Ba,Bs]at hopd ⊢;obtain⟨s1,e1⟩:∃ s1,s1=s++[Ob.row [.int .i64 3,.int .i64 n,.str nm,SL z t [a.row]] 103 0 0,Ob.row [.str (Cd 3),.int .i64 (Bj 3)] 301 0 0]:=⟨_,rfl⟩
  have w1:WB s s1 b l:=by
   have:=Jm (Jm h (t:=103) (cs:=[.int .i64 3,.int .i64 n,.str nm,SL z t [a.row]]) (by simp only[go_sem])) (t:=301) (cs:=[.str (Cd 3),.int .i64 (Bj 3)]) rfl;rw[e1];simpa using this
  have k1:s1[s.length]?=some (.row [.int .i64 3,.int .i64 n,.str nm,SL z t [a.row]] 103 0 0):=by rw[e1,Cf (Ah _),Ir];rfl
  obtain⟨s2,q2,w2,v2⟩:=Fm w1 nm (by omega);obtain⟨s3,q3,w3,v3⟩:=Fm w2 [91] (by simp;omega);have k3:=(Hv v2 v3).2.2.2 s.length _ _ _ _ hbn (by decide) k1
  have hle:Dg (a.op,a.txt) 1=a.txt:=by
   unfold Dg;have:=(X8 (N4 ha)).2.1;exact if_neg (by simp only;omega)
  obtain⟨s4,q4,v4⟩:=X9 (N4 ha) (fun s l h hl=>ih s b l h hl) 1 w3 (by rw[hle];simp;omega);rw[hle]at v4;obtain⟨s5,q5,w5,v5⟩:=Fm (Hv w3 v4) [93] (by simp;omega);rw[e1]at q2;have haset:=C7 a;simp only[go_sem];refine Ad hop (by simp only[go_sem]) ?_;simp only[go_sem,Int.reduceBEq];refine B5 q2 ?_;simp only[go_sem];refine B5 q3 ?_;simp only[go_sem,k3];refine Ad hopd (by simp only[go_sem]) ?_;simp only[go_sem];refine B5 q4 ?_;simp only[go_sem];refine B5 q5 ?_;simp only[go_sem];exact⟨rfl,by have:=w5;simpa using this⟩
 | @un op n nm z t a hop' ha ih=>
  intro s b l h hl;have ho:1<=op/\op<=18:=by omega
  have hlv:Bj op=6:=by rcases hop' with rfl | rfl<;>rfl
  rw[Ed]at hl ⊢
  have e0:Di op n nm [(a.op,a.txt)]=Cd op++Dg (a.op,a.txt) 6:=by
   unfold Di;rw[if_neg (by omega),if_neg (by omega)];simp only;rw[if_neg (by omega)]
  simp only[Ba,Bs,e0,Ao]at hl ⊢;obtain⟨p1,p2⟩:=Kz (a.op,a.txt) 6;simp only at p1
  have hbn:s.length≠b:=by
   obtain⟨⟨u,p,hb,-⟩,-⟩:=h;have:=(Ar.1 hb).1;omega
  have hop:=R5 ho;rw[hlv]at hop;have hopd:=Wu (x:=⟨op,n,nm,z,t,[a]⟩) (a:=a) (i:=0) rfl (by omega);refine Ps T249 rfl ?_ rfl rfl (fun σ1 h=>⟨h.2.2.1,h.2.1⟩);rw[Ax]at hopd ⊢;simp only[Ba,Bs]at hopd ⊢;obtain⟨s1,e1⟩:∃ s1,s1=s++[Ob.row [.int .i64 op,.int .i64 n,.str nm,SL z t [a.row]] 103 0 0,Ob.row [.str (Cd op),.int .i64 6] 301 0 0]:=⟨_,rfl⟩
  have w1:WB s s1 b l:=by
   have:=Jm (Jm h (t:=103) (cs:=[.int .i64 op,.int .i64 n,.str nm,SL z t [a.row]]) (by simp only[go_sem])) (t:=301) (cs:=[.str (Cd op),.int .i64 6]) rfl;rw[e1];simpa using this
  have k1:s1[s.length]?=some (.row [.int .i64 op,.int .i64 n,.str nm,SL z t [a.row]] 103 0 0):=by rw[e1,Cf (Ah _),Ir];rfl
  obtain⟨s2,q2,w2,v2⟩:=Fm w1 (Cd op) (by omega);have k2:=v2.2.2.2 s.length _ _ _ _ hbn (by decide) k1;obtain⟨s3,q3,v3⟩:=X9 (N4 ha) (fun s l h hl=>ih s b l h hl) 6 w2 (by simp;omega);rw[e1]at q2;have b1:(op==1)=false:=by simp;omega
  have b3:(op==3)=false:=by simp;omega
  simp only[go_sem];refine Ad hop (by simp only[go_sem]) ?_;simp only[go_sem,Int.reduceBEq,b1,b3];refine B5 q2 ?_;simp only[go_sem,k2];refine Ad hopd (by simp only[go_sem]) ?_;simp only[go_sem];refine B5 q3 ?_;simp only[go_sem];exact⟨rfl,by have:=Hv w2 v3;simpa using this⟩
 | @bin op n nm z t a c hop' ha hc iha ihc=>
  intro s b l h hl;have ho:1<=op/\op<=18:=by omega
  obtain⟨s1',s2',s3'⟩:=X8 ho
  have hlv:Bj op<6:=by
   obtain⟨i,hi,rfl⟩:=Uw ho;have:((List.range 18).all fun i=>decide (5<=i->Bj ((i:Int)+1)<6))=true:=by decide
   exact of_decide_eq_true (Bd.1 this i (Fc.2 hi)) (by omega)
  rw[Ed]at hl ⊢
  have e0:Di op n nm [(a.op,a.txt),(c.op,c.txt)]=Dg (a.op,a.txt) (F6 op)++32::(Cd op++32::Dg (c.op,c.txt) (Bj op+1)):=by
   unfold Di;rw[if_neg (by omega),if_neg (by omega)]
  simp only[Ba,Bs,e0,Ao,Am]at hl ⊢
  have hbn:s.length≠b/\s.length+1≠b:=by
   obtain⟨⟨u,p,hb,-⟩,-⟩:=h;have:=(Ar.1 hb).1;omega
  have hop:=R5 ho;have hopa:=Wu (x:=⟨op,n,nm,z,t,[a,c]⟩) (a:=a) (i:=0) rfl (by omega);have hopc:=Wu (x:=⟨op,n,nm,z,t,[a,c]⟩) (a:=c) (i:=1) rfl (by omega);refine Ps T249 rfl ?_ rfl rfl (fun σ1 h=>⟨h.2.2.1,h.2.1⟩);rw[Ax]at hopa hopc ⊢;simp only[Ba,Bs]at hopa hopc ⊢;obtain⟨s1,e1⟩:∃ s1,s1=s++[Ob.row [.int .i64 op,.int .i64 n,.str nm,SL z t [a.row,c.row]] 103 0 0,Ob.row [.str (Cd op),.int .i64 (Bj op)] 301 0 0]:=⟨_,rfl⟩
  have w1:WB s s1 b l:=by
   have:=Jm (Jm h (t:=103) (cs:=[.int .i64 op,.int .i64 n,.str nm,SL z t [a.row,c.row]]) (by simp only[go_sem])) (t:=301) (cs:=[.str (Cd op),.int .i64 (Bj op)]) rfl;rw[e1];simpa using this
  have k1:s1[s.length]?=some (.row [.int .i64 op,.int .i64 n,.str nm,SL z t [a.row,c.row]] 103 0 0):=by rw[e1,Cf (Ah _),Ir];rfl
  have m1:s1[s.length+1]?=some (.row [.str (Cd op),.int .i64 (Bj op)] 301 0 0):=by rw[e1,Cf (by omega),Nat.add_sub_cancel_left];rfl
  have hle:F6 op=(if(Bj op==3)=true then 4 else Bj op):=by unfold F6;simp
  obtain⟨s2,q2,v2⟩:=X9 (N4 ha) (fun s l h hl=>iha s b l h hl) (F6 op) w1 (by omega);have k2:=v2.2.2.2 s.length _ _ _ _ hbn.1 (by decide) k1;have m2:=v2.2.2.2 (s.length+1) _ _ _ _ hbn.2 (by decide) m1;obtain⟨s3,q3,w3,v3⟩:=Fm v2 [32] (by simp;omega);have k3:=v3.2.2.2 s.length _ _ _ _ hbn.1 (by decide) k2;have m3:=v3.2.2.2 (s.length+1) _ _ _ _ hbn.2 (by decide) m2;obtain⟨s4,q4,w4,v4⟩:=Fm v3 (Cd op) (by simp;omega);have k4:=v4.2.2.2 s.length _ _ _ _ hbn.1 (by decide) k3;have m4:=v4.2.2.2 (s.length+1) _ _ _ _ hbn.2 (by decide) m3;obtain⟨s5,q5,w5,v5⟩:=Fm v4 [32] (by simp;omega);have k5:=v5.2.2.2 s.length _ _ _ _ hbn.1 (by decide) k4;have m5:=v5.2.2.2 (s.length+1) _ _ _ _ hbn.2 (by decide) m4;obtain⟨s6,q6,v6⟩:=X9 (N4 hc) (fun s l h hl=>ihc s b l h hl) (Bj op+1) v5 (by simp;omega);rw[e1]at q2;have b1:(op==1)=false:=by simp;omega
  have b3:(op==3)=false:=by simp;omega
  have b7:(Bj op==7)=false:=by simp;omega
  have b6:(Bj op==6)=false:=by simp;omega
  have wi:IntKind.i64.wrap (Bj op+1)=Bj op+1:=Ef (by omega)
  have fin:WB s s6 b (l++(Dg (a.op,a.txt) (F6 op)++32::(Cd op++32::Dg (c.op,c.txt) (Bj op+1)))):=by
   have:=Hv w1 (Hv v2 (Hv v3 (Hv v4 (Hv v5 v6))));simpa using this
  cases h3:(Bj op==3)
  all_goals
   rw[h3]at hle;simp only[if_true,if_false,Er]at hle;rw[hle]at q2;simp only[go_sem];refine Ad hop (by simp only[go_sem]) ?_;simp only[go_sem,Int.reduceBEq,b1,b3,b7,b6,h3];refine Ad hopa (by simp only[go_sem]) ?_;simp only[go_sem];refine B5 q2 ?_;simp only[go_sem];refine B5 q3 ?_;simp only[go_sem,m3];refine B5 q4 ?_;simp only[go_sem];refine B5 q5 ?_;simp only[go_sem];refine Ag (by kernel_rfl) ?_;simp only[go_sem,k5];refine Bf hopc (by simp only[go_sem]) ?_;simp only[go_sem,m5,wi];refine X7 q6 (by repeat (first | exact trivial | refine⟨.inl (by rfl),?_⟩ | refine⟨by rfl,?_⟩ | refine⟨.inr ⟨by rfl,by rfl⟩,?_⟩)) (by repeat (first | exact trivial | refine⟨.inl (by rfl),?_⟩ | refine⟨by rfl,?_⟩ | refine⟨.inr ⟨by rfl,by rfl⟩,?_⟩)) ?_;simp only[go_sem];exact⟨rfl,fin⟩
