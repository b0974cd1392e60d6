/- Walks: entries sorted: the library's stable sort of more than twenty. -/
import Derived.Test.YtphikjgngompaacGreatDoorVf
set_option linter.all false
namespace Go.Proofs.YtphikjgngompaacGreatDoor.KM
open Go
def Cm(s:St)(i g:Nat)(D:List Ent):St:=s.set i (.row (Aav D) 30 g 0)
def Oh{s:St}{i g:Nat}{D:List Ent}(hi:i<s.length):(Cm s i g D)[i]?=some (.row ((D.map Ent.row).flatten) 30 g 0):=Cf hi
def Sa{s:St}{i g:Nat}{D D':List Ent}:(Cm s i g D).set i (.row ((D'.map Ent.row).flatten) 30 g 0)=Cm s i g D':=Vp ..
def Aai{s:St}{i g:Nat}{D:List Ent}(h:Cl s):Cl (Cm s i g D):=As9 D h
def Zw{s:St}{i g:Nat}{D:List Ent}:(Cm s i g D).length=s.length:=Ny ..
def Sb{D:List Ent}{j:Nat}(x:Ent)(h:j<D.length):((D.map Ent.row).flatten.take (j*4)++(eR x x.sl)++(D.map Ent.row).flatten.drop (j*4+4))=((D.set j x).map Ent.row).flatten:=by
 have:=Aj7 (r:=x.row) (i:=j) (Ja D) (by grind) rfl;rw[Ahc];exact this
def Rw{D:List Ent}{j:Nat}(h:j<D.length):(j*4+4<=((D.map Ent.row).flatten).length)=True:=eq_true (by rw[Gj (Ja D),Av];omega)
def Lj{D:List Ent}{j g:Nat}{x:Ent}(h:D[j]?=some x):L7 (some (.row ((D.map Ent.row).flatten) 30 g 0)) g 4 false (j*4)=some (.agg (eR x x.sl)):=Avp (Ja D) (by rw[Ak,h];rfl)
def Afa{P M Q:List Ent}{x y:Ent}:(P++x::(M++y::Q))[P.length]?=some x/\(P++x::(M++y::Q))[P.length+1+M.length]?=some y/\(P++x::(M++y::Q)).set P.length y=P++y::(M++y::Q)/\(P++y::(M++y::Q)).set (P.length+1+M.length) x=P++y::(M++x::Q)/\(P++x::(M++y::Q)).set (P.length+1+M.length) x=P++x::(M++x::Q)/\(P++x::(M++x::Q)).set P.length y=P++y::(M++x::Q):=by
 grind
set_option maxHeartbeats 2000000 in
def Ala{s:St}(hc:Cl s){i g n:Nat}{w:Bool}(hi:i<s.length)(X A Y B Z:List Ent)(k a b:Nat)(hA:A.length=k)(hB:B.length=k)(ha:X.length=a)(hb:X.length+A.length+Y.length=b)(hn:X.length+A.length+Y.length+B.length+Z.length=n)(qd:n<=1000):
  ∃ s',Th TT PT 168 [.sl i g 0 n 4 w,iV (a:Int),iV (b:Int),iV (k:Int),.fn 20 [] []] (Cm s i g (X++(A++(Y++(B++Z))))) (.tup []) s'/\s'=Cm s i g (X++(B++(Y++(A++Z)))):=by
 refine Qz T168 rfl ?_ rfl rfl (fun s' h=>by simp_all [Zw,Aai]);simp only[go_sem]
 refine Bb (α:=List Ent × List Ent × List Ent × List Ent) (fun a=>a.2.1.length) (fun q=>[(0,.sl i g 0 n 4 w),(1,iV (a:Int)),(2,iV (b:Int)),(3,iV (k:Int)),(10,iV (q.1.length:Int))]) (fun q=>Cm s i g (X++((q.2.2.1++q.2.1)++(Y++((q.1++q.2.2.2)++Z)))))
  (fun q=>q.1++q.2.1=A/\q.2.2.1++q.2.2.2=B/\q.1.length=q.2.2.1.length) ?_ ([],A,[],B) ⟨rfl,rfl,rfl⟩
 rintro⟨A1,A2,B1,B2⟩ ⟨h1,h2,h3⟩ ih;simp only at h1 h2 h3 ih;refine Ay Bgc ?_;have l1:A1.length+A2.length=k:=by rw[<-Aj,h1];exact hA
 have l2:B1.length+B2.length=k:=by rw[<-Aj,h2];exact hB
 rcases A2 with _ | ⟨x,A2⟩
 .have f1:((A1.length:Int)<(k:Int))=False:=eq_false (by grind);have e2:B2=[]:=Mb.1 (by grind);subst e2;rw[Bz]at h1 h2;subst h1 h2;simp only[go_sem,f1];exact⟨rfl,rfl⟩
 rcases B2 with _ | ⟨y,B2⟩
 .simp at l1 l2;omega
 simp only[Be]at l1 l2;have f1:((A1.length:Int)<(k:Int))=True:=eq_true AA;have w1:IntKind.i64.wrap ((a:Int)+(A1.length:Int))=(((X++B1).length:Nat):Int):=by rw[Bo AA,Aj];omega
 have w2:IntKind.i64.wrap ((b:Int)+(A1.length:Int))=(((X++B1).length+1+(A2++(Y++A1)).length:Nat):Int):=by rw[Bo AA,Aj,Aj,Aj];omega
 have w3:IntKind.i64.wrap ((A1.length:Int)+1)=((A1.length+1:Nat):Int):=Aw AA;have hD:X++((B1++x::A2)++(Y++((A1++y::B2)++Z)))=(X++B1)++x::((A2++(Y++A1))++y::(B2++Z)):=by simp
 obtain⟨g1,g2,g3,g4,-,-⟩:=Afa (P:=X++B1) (M:=A2++(Y++A1)) (Q:=B2++Z) (x:=x) (y:=y);have qe:(X++B1).length<n:=by rw[Aj];omega
 have qf:(X++B1).length+1+(A2++(Y++A1)).length<n:=by simp only[Aj];omega
 have ql:(X++B1++x::((A2++(Y++A1))++y::(B2++Z))).length=n:=by simp only[Aj,Be];omega
 have qj:(X++B1++y::((A2++(Y++A1))++y::(B2++Z))).length=n:=by simp only[Aj,Be];omega
 have p1:=Sb y (j:=(X++B1).length) (by rw[ql];exact qe);have p2:=Sb x (j:=(X++B1).length+1+(A2++(Y++A1)).length) (by rw[qj];exact qf);have r1:=Rw (j:=(X++B1).length) (by rw[ql];exact qe);have r2:=Rw (j:=(X++B1).length+1+(A2++(Y++A1)).length) (by rw[qj];exact qf);rw[g3]at p1;rw[g4]at p2;have lx:=Lj (g:=g) g1;have ly:=Lj (g:=g) g2;have qm:=Oh (g:=g) (D:=X++B1++x::((A2++(Y++A1))++y::(B2++Z))) hi;have qp:=Oh (g:=g) (D:=X++B1++y::((A2++(Y++A1))++y::(B2++Z))) hi;have qs:=Sa (s:=s) (i:=i) (g:=g) (D:=X++B1++x::((A2++(Y++A1))++y::(B2++Z))) (D':=X++B1++y::((A2++(Y++A1))++y::(B2++Z)));have qt:=Sa (s:=s) (i:=i) (g:=g) (D:=X++B1++y::((A2++(Y++A1))++y::(B2++Z))) (D':=X++B1++y::((A2++(Y++A1))++x::(B2++Z)));have nx:=ih (A1++[x],A2,B1++[y],B2) AE ⟨by grind,by grind,by simp[h3]⟩;have hE:X++((B1++[y]++A2)++(Y++((A1++[x]++B2)++Z)))=X++B1++y::((A2++(Y++A1))++x::(B2++Z)):=by simp
 simp only at nx;rw[hE,Aj,I8]at nx;clear ih;rw[hD];generalize(X++B1).length=j1 at *;generalize j1+1+(A2++(Y++A1)).length=j2 at *;generalize X++B1++x::((A2++(Y++A1))++y::(B2++Z))=D1 at *;generalize X++B1++y::((A2++(Y++A1))++y::(B2++Z))=D2 at *;generalize X++B1++y::((A2++(Y++A1))++x::(B2++Z))=D3 at *;simp only[go_sem,f1];refine Ad AD ?_;simp only[go_sem,w1,w2,F3 qe,F3 qf,qm,lx,ly,r1,p1,qs];refine Id (by repeat (first | exact trivial | refine⟨.inl AH,?_⟩ | refine⟨by rfl,?_⟩ | refine⟨.inr ⟨by rfl,by rfl⟩,?_⟩)) (by repeat (first | exact trivial | refine⟨.inl AH,?_⟩ | refine⟨by rfl,?_⟩ | refine⟨.inr ⟨by rfl,by rfl⟩,?_⟩)) ?_;simp only[go_sem,F3 qf,qp,r2,p2,qt];refine Id (by repeat (first | exact trivial | refine⟨.inl AH,?_⟩ | refine⟨by rfl,?_⟩ | refine⟨.inr ⟨by rfl,by rfl⟩,?_⟩)) (by repeat (first | exact trivial | refine⟨.inl AH,?_⟩ | refine⟨by rfl,?_⟩ | refine⟨.inr ⟨by rfl,by rfl⟩,?_⟩)) ?_;simp only[go_sem,w3];exact Ai nx rfl
set_option maxHeartbeats 2000000 in
def Bht{s:St}(hc:Cl s){i g n:Nat}{w:Bool}(hi:i<s.length)(X A B Z:List Ent)(a m b:Nat)(ha:X.length=a)(hm:X.length+A.length=m)(hb:X.length+A.length+B.length=b)(hA:A≠[])(hB:B≠[])(hn:X.length+A.length+B.length+Z.length=n)(qd:n<=1000):
  ∃ s',Th TT PT 138 [.sl i g 0 n 4 w,iV (a:Int),iV (m:Int),iV (b:Int),.fn 20 [] []] (Cm s i g (X++(A++(B++Z)))) (.tup []) s'/\s'=Cm s i g (X++(B++(A++Z))):=by
 refine Qz T138 rfl ?_ rfl rfl (fun s' h=>by simp_all [Zw,Aai]);have w1:IntKind.i64.wrap ((m:Int) - (a:Int))=(A.length:Int):=by rw[Bo AA];omega
 have w2:IntKind.i64.wrap ((b:Int) - (m:Int))=(B.length:Int):=by rw[Bo AA];omega
 simp only[go_sem,w1,w2];have qK:=Xy.2 hA;have qL:=Xy.2 hB
 refine Bb (α:=List Ent × List Ent × List Ent × List Ent) (fun q=>q.2.1.length+q.2.2.1.length) (fun q=>[(0,.sl i g 0 n 4 w),(2,iV (m:Int)),(4,.fn 20 [] []),(10,iV (q.2.1.length:Int)),(11,iV (q.2.2.1.length:Int))]) (fun q=>Cm s i g (X++(q.1++(q.2.1++(q.2.2.1++(q.2.2.2++Z))))))
  (fun q=>0<q.2.1.length/\0<q.2.2.1.length/\q.1++(q.2.2.1++(q.2.1++q.2.2.2))=B++A/\X.length+q.1.length+q.2.1.length=m) ?_ ([],A,B,[]) ⟨qK,qL,by simp,by omega⟩
 rintro⟨P,A',B',Q⟩ ⟨h1,h2,h3,h4⟩ ih;simp only at h1 h2 h3 h4 ih;have h5:=congrArg List.length h3;simp only[Aj]at h5;refine Ay Bf7 ?_;rcases Vk A'.length B'.length with h | h | h
 .-- the right one is longer
  obtain⟨B1,B2,rfl,qM⟩:∃ B1 B2,B'=B1++B2/\B2.length=A'.length:=⟨B'.take (B'.length - A'.length),B'.drop (B'.length - A'.length),(Hy ..).symm,by grind⟩;rw[Aj]at h h2 h5;have f1:((A'.length:Int) != ((B1++B2).length:Int))=true:=by rw[Aj];simp;omega
  have f2:(((B1++B2).length:Int)<(A'.length:Int))=False:=eq_false (by grind);have w3:IntKind.i64.wrap ((m:Int) - (A'.length:Int))=((X++P).length:Int):=by rw[Bo AA,Aj];omega
  have w4:IntKind.i64.wrap ((m:Int)+((B1++B2).length:Int))=((m+(B1++B2).length:Nat):Int):=by rw[Aj,Bo AA];omega
  have w5:IntKind.i64.wrap (((m+(B1++B2).length:Nat):Int) - (A'.length:Int))=((m+B1.length:Nat):Int):=by rw[Aj,Bo AA];omega
  have w6:IntKind.i64.wrap (((B1++B2).length:Int) - (A'.length:Int))=(B1.length:Int):=by rw[Aj,Bo AA];omega
  obtain⟨s1,h6,rfl⟩:=Ala hc (g:=g) (w:=w) hi (X++P) A' B1 B2 (Q++Z) A'.length (X++P).length (m+B1.length) rfl qM rfl (by grind) (n:=n) (by grind) qd;have e1:X++P++(A'++(B1++(B2++(Q++Z))))=X++(P++(A'++(B1++B2++(Q++Z)))):=by simp
  have e2:X++P++(B2++(B1++(A'++(Q++Z))))=X++(P++(B2++(B1++((A'++Q)++Z)))):=by simp
  rw[e1,e2]at h6;have nx:=ih (P,B2,B1,A'++Q) (by grind) ⟨by grind,by grind,by grind,by grind⟩;simp only at nx;rw[qM]at nx;generalize(B1++B2).length=lb at *;generalize(X++P).length=lx at *;generalize X++(P++(A'++(B1++B2++(Q++Z))))=D0 at *;generalize X++(P++(B2++(B1++((A'++Q)++Z))))=D1 at *;generalize X++(B++(A++Z))=D2 at *;simp only[go_sem,f1,f2,w3,w4,w5,w6];refine Bv h6 ?_;simp only[go_sem,w6];exact Ai nx rfl
 .-- both are as long
  have f1:((A'.length:Int) != (B'.length:Int))=false:=by rw[h];simp
  have w3:IntKind.i64.wrap ((m:Int) - (A'.length:Int))=((X++P).length:Int):=by rw[Bo AA,Aj];omega
  obtain⟨s1,h6,rfl⟩:=Ala hc (g:=g) (w:=w) hi (X++P) A' [] B' (Q++Z) A'.length (X++P).length m rfl h.symm rfl (by grind) (n:=n) (by grind) qd;have e1:X++P++(A'++([]++(B'++(Q++Z))))=X++(P++(A'++(B'++(Q++Z)))):=by simp
  have e2:X++P++(B'++([]++(A'++(Q++Z))))=X++(B++(A++Z)):=by
   have:(P++(B'++(A'++Q)))++Z=(B++A)++Z:=by rw[h3]
   simpa using congrArg (X++·) this
  rw[e1,e2]at h6;generalize(X++P).length=lx at *;generalize X++(P++(A'++(B'++(Q++Z))))=D0 at *;generalize X++(B++(A++Z))=D2 at *;simp only[go_sem,f1,w3];refine Bv h6 ?_;simp only[go_sem];exact⟨rfl,rfl⟩
 .-- the left one is longer
  obtain⟨A1,A2,rfl,qk⟩:∃ A1 A2,A'=A1++A2/\A1.length=B'.length:=⟨A'.take B'.length,A'.drop B'.length,(Hy ..).symm,by grind⟩;rw[Aj]at h h1 h4 h5;have f1:(((A1++A2).length:Int) != (B'.length:Int))=true:=by rw[Aj];simp;omega
  have f2:((B'.length:Int)<((A1++A2).length:Int))=True:=eq_true (by grind);have w3:IntKind.i64.wrap ((m:Int) - ((A1++A2).length:Int))=((X++P).length:Int):=by rw[Aj,Bo AA,Aj];omega
  have w6:IntKind.i64.wrap (((A1++A2).length:Int) - (B'.length:Int))=(A2.length:Int):=by rw[Aj,Bo AA];omega
  obtain⟨s1,h6,rfl⟩:=Ala hc (g:=g) (w:=w) hi (X++P) A1 A2 B' (Q++Z) B'.length (X++P).length m qk rfl rfl (by grind) (n:=n) (by grind) qd;have e1:X++P++(A1++(A2++(B'++(Q++Z))))=X++(P++(A1++A2++(B'++(Q++Z)))):=by simp
  have e2:X++P++(B'++(A2++(A1++(Q++Z))))=X++((P++B')++(A2++(A1++(Q++Z)))):=by simp
  rw[e1,e2]at h6;have nx:=ih (P++B',A2,A1,Q) (by grind) ⟨by grind,by grind,by grind,by grind⟩;simp only at nx;rw[qk]at nx;generalize(A1++A2).length=lb at *;generalize(X++P).length=lx at *;generalize X++(P++(A1++A2++(B'++(Q++Z))))=D0 at *;generalize X++((P++B')++(A2++(A1++(Q++Z))))=D1 at *;generalize X++(B++(A++Z))=D2 at *;simp only[go_sem,f1,f2,w3];refine Bv h6 ?_;simp only[go_sem,w6];exact Ai nx rfl
def Afb{k:Nat}(h:k<=10000):IntKind.i64.wrap ((IntKind.u64.wrap (k:Int)).fdiv (2 ^ min 1 64))=((k / 2:Nat):Int):=by
 grind[Go.IntWalk.u64_in,Bo]
def Bm6{x y z:Ent}(h1:¬ Bs y z<0)(h2:Bs y x<0):Bs z x<0:=by
 rw[Un]at h1 h2 ⊢;rcases lin_p.tri z.ks y.ks with h | h | h
 .exact lin_p.trans _ _ _ h h2
 .grind
 omega
def Pw{B:List Ent}(hl:Ec Dk Ent.ks B){t r:Nat}{z y:Ent}(h:t<=r)(hz:B[t]?=some z)(hy:B[r]?=some y):¬ Bs y z<0:=by
 obtain⟨h1,rfl⟩:=An.1 hz;obtain⟨h2,rfl⟩:=An.1 hy;rcases Az t r with h3 | h3
 .exact Xw.1 hl t r h1 h2 h3
 .have e:t=r:=by omega
  subst e;rw[Un];exact fun h4=>lin_p.asym h4 h4
def Xb{x y z:Ent}(h1:¬ Bs y x<0)(h2:¬ Bs z y<0):¬ Bs z x<0:=fun h=>by
 rw[Un]at h1 h2 h;rcases lin_p.tri z.ks y.ks with h3 | h3 | h3
 .omega
 .grind
 .exact h1 (lin_p.trans _ _ _ h3 h)
def sb0{s:St}{i g n a m:Nat}{w:Bool}(hi:i<s.length)(qd:n<=1000){D B:List Ent}{x:Ent}(hD:D.length=n)(hs:∀ e∈D,e.sites.length<=1000)(ha:D[a]?=some x)(hB:∀ (t:Nat) (y:Ent),B[t]?=some y->D[m+t]?=some y)(hl:Ec Dk Ent.ks B)(ja:m+B.length<=n){k0:List It}{Q:Env->St->Prop}
  (qb:∀ p,p<=B.length->(∀ (t:Nat) (y:Ent),t<p->B[t]?=some y->Bs y x<0)->(∀ (t:Nat) (y:Ent),p<=t->B[t]?=some y->¬ Bs y x<0)->W TT PT k0 [(0,.sl i g 0 n 4 w),(1,iV (a:Int)),(4,.fn 20 [] []),(10,iV ((m+p:Nat):Int)),(11,iV ((m+p:Nat):Int))] (Cm s i g D) Q) :
  W TT PT (.l [0,1,4,10,11] lp87_0::.b 0::k0) [(0,.sl i g 0 n 4 w),(1,iV (a:Int)),(4,.fn 20 [] []),(10,iV (m:Int)),(11,iV ((m+B.length:Nat):Int))] (Cm s i g D) Q:=by
 refine Bb (α:=Nat × Nat) (fun q=>q.2 - q.1) (fun q=>[(0,.sl i g 0 n 4 w),(1,iV (a:Int)),(4,.fn 20 [] []),(10,iV ((m+q.1:Nat):Int)),(11,iV ((m+q.2:Nat):Int))]) (fun _=>Cm s i g D)
  (fun q=>q.1<=q.2/\q.2<=B.length/\(∀ (t:Nat) (y:Ent),t<q.1->B[t]?=some y->Bs y x<0)/\(∀ (t:Nat) (y:Ent),q.2<=t->B[t]?=some y->¬ Bs y x<0)) ?_ (0,B.length) ⟨As _,Am _,fun t y ht=>by omega,fun t y ht hy=>by grind⟩
 rintro⟨p,q⟩ ⟨h1,h2,h3,h4⟩ ih;simp only at h1 h2 h3 h4 ih;refine Ay Blw ?_;rcases Az p q with h | h;rotate_left
 .have e1:q=p:=by omega
  subst e1;simp only[go_sem,Aha];exact qb q h2 h3 h4
 have f1:(((m+p:Nat):Int)<((m+q:Nat):Int))=True:=eq_true AA;obtain⟨r,hr⟩:∃ r,r=(p+q) / 2:=⟨_,rfl⟩;have jb:p<=r/\r<q:=by omega
 have w1:IntKind.i64.wrap (((m+p:Nat):Int)+((m+q:Nat):Int))=((2*m+p+q:Nat):Int):=by rw[Bo AA];omega
 have w2:IntKind.i64.wrap ((IntKind.u64.wrap ((2*m+p+q:Nat):Int)).fdiv (2 ^ min 1 64))=((m+r:Nat):Int):=by rw[Afb AA];omega
 have w3:IntKind.i64.wrap (((m+r:Nat):Int)+1)=((m+r+1:Nat):Int):=Aw AA;obtain⟨y,hy,-,-⟩:=Bk (l:=B) (i:=r) AA;have qG:=hB r y hy;have qe:m+r<n:=by omega
 have qf:a<n:=by have:=(An.1 ha).1;omega
 have lx:=Lj (g:=g) ha;have ly:=Lj (g:=g) qG;have gs:=Oh (g:=g) (D:=D) hi;have gc:=Ad9 y x (by grind) (by grind);unfold Ent.row at gc;simp only[go_sem,f1,w1,w2];refine Ad AD ?_;simp only[go_sem,F3 qe,F3 qf,gs,lx,ly];refine Ax gc AB ?_;by_cases qi:Bs y x<0
 .have f2:(L0 y x<0)=True:=eq_true (R9.2 qi);simp only[go_sem,f2,w3];exact Ai (ih (r+1,q) AA ⟨by omega,h2,fun t z ht hz=>Bm6 (Pw hl AA hz hy) qi,h4⟩) rfl
 .have f2:(L0 y x<0)=False:=eq_false fun h=>qi (R9.1 h)
  simp only[go_sem,f2];exact Ai (ih (p,r) AA ⟨by omega,by omega,h3,fun t z ht hz=>Xb qi (Pw hl ht hy hz)⟩) rfl
def sb2{s:St}{i g n a m:Nat}{w:Bool}(hi:i<s.length)(qd:n<=1000){D A:List Ent}{x:Ent}(hD:D.length=n)(hs:∀ e∈D,e.sites.length<=1000)(hm:D[m]?=some x)(hA:∀ (t:Nat) (y:Ent),A[t]?=some y->D[a+t]?=some y)(hl:Ec Dk Ent.ks A)(ja:a+A.length<=n){k0:List It}{Q:Env->St->Prop}
  (qb:∀ p,p<=A.length->(∀ (t:Nat) (y:Ent),t<p->A[t]?=some y->¬ Bs x y<0)->(∀ (t:Nat) (y:Ent),p<=t->A[t]?=some y->Bs x y<0)->W TT PT k0 [(0,.sl i g 0 n 4 w),(2,iV (m:Int)),(4,.fn 20 [] []),(14,iV ((a+p:Nat):Int)),(15,iV ((a+p:Nat):Int))] (Cm s i g D) Q) :
  W TT PT (.l [0,2,4,14,15] lp87_2::.b 4::k0) [(0,.sl i g 0 n 4 w),(2,iV (m:Int)),(4,.fn 20 [] []),(14,iV (a:Int)),(15,iV ((a+A.length:Nat):Int))] (Cm s i g D) Q:=by
 refine Bb (α:=Nat × Nat) (fun q=>q.2 - q.1) (fun q=>[(0,.sl i g 0 n 4 w),(2,iV (m:Int)),(4,.fn 20 [] []),(14,iV ((a+q.1:Nat):Int)),(15,iV ((a+q.2:Nat):Int))]) (fun _=>Cm s i g D)
  (fun q=>q.1<=q.2/\q.2<=A.length/\(∀ (t:Nat) (y:Ent),t<q.1->A[t]?=some y->¬ Bs x y<0)/\(∀ (t:Nat) (y:Ent),q.2<=t->A[t]?=some y->Bs x y<0)) ?_ (0,A.length) ⟨As _,Am _,fun t y ht=>by omega,fun t y ht hy=>by grind⟩
 rintro⟨p,q⟩ ⟨h1,h2,h3,h4⟩ ih;simp only at h1 h2 h3 h4 ih;refine Ay Bly ?_;rcases Az p q with h | h;rotate_left
 .have e1:q=p:=by omega
  subst e1;simp only[go_sem,Aha];exact qb q h2 h3 h4
 have f1:(((a+p:Nat):Int)<((a+q:Nat):Int))=True:=eq_true AA;obtain⟨r,hr⟩:∃ r,r=(p+q) / 2:=⟨_,rfl⟩;have jb:p<=r/\r<q:=by omega
 have w1:IntKind.i64.wrap (((a+p:Nat):Int)+((a+q:Nat):Int))=((2*a+p+q:Nat):Int):=by rw[Bo AA];omega
 have w2:IntKind.i64.wrap ((IntKind.u64.wrap ((2*a+p+q:Nat):Int)).fdiv (2 ^ min 1 64))=((a+r:Nat):Int):=by rw[Afb AA];omega
 have w3:IntKind.i64.wrap (((a+r:Nat):Int)+1)=((a+r+1:Nat):Int):=Aw AA;obtain⟨y,hy,-,-⟩:=Bk (l:=A) (i:=r) AA;have qG:=hA r y hy;have qe:a+r<n:=by omega
 have qf:m<n:=by have:=(An.1 hm).1;omega
 have lx:=Lj (g:=g) hm;have ly:=Lj (g:=g) qG;have gs:=Oh (g:=g) (D:=D) hi;have gc:=Ad9 x y (by grind) (by grind);unfold Ent.row at gc;simp only[go_sem,f1,w1,w2];refine Ad AD ?_;simp only[go_sem,F3 qe,F3 qf,gs,lx,ly];refine Ax gc AB ?_;by_cases qi:Bs x y<0
 .have f2:(L0 x y<0)=True:=eq_true (R9.2 qi);simp only[go_sem,f2]
  exact Ai (ih (p,r) AA ⟨by omega,by omega,h3,fun t z ht hz=>by
   have h5:=Pw hl ht hy hz;rw[Un]at h5 qi ⊢;rcases lin_p.tri y.ks z.ks with h6 | h6 | h6
   .exact lin_p.trans _ _ _ qi h6
   .grind
   omega⟩) rfl
 .have f2:(L0 x y<0)=False:=eq_false fun h=>qi (R9.1 h)
  simp only[go_sem,f2,w3];exact Ai (ih (r+1,q) AA ⟨by omega,h2,fun t z ht hz=>Xb (Pw hl AA hz hy) qi,h4⟩) rfl
def mv1{s:St}{i g n a:Nat}{w:Bool}(hi:i<s.length)(qd:n<=1000){X B R:List Ent}{x:Ent}(ha:X.length=a)(hn:X.length+1+B.length+R.length=n){k0:List It}{Q:Env->St->Prop}
  (qb:∀ k:Nat,W TT PT k0 [(0,.sl i g 0 n 4 w),(10,iV ((a+1+B.length:Nat):Int)),(13,iV (k:Int))] (Cm s i g (X++(B++x::R))) Q) :
  W TT PT (.l [0,10,13] lp87_1::.b 2::k0) [(0,.sl i g 0 n 4 w),(10,iV ((a+1+B.length:Nat):Int)),(13,iV (a:Int))] (Cm s i g (X++(x::(B++R)))) Q:=by
 refine Bb (α:=List Ent × List Ent) (fun q=>q.2.length) (fun q=>[(0,.sl i g 0 n 4 w),(10,iV ((a+1+B.length:Nat):Int)),(13,iV ((a+q.1.length:Nat):Int))]) (fun q=>Cm s i g (X++(q.1++x::(q.2++R))))
  (fun q=>q.1++q.2=B) ?_ ([],B) rfl
 rintro⟨B1,B2⟩ h1 ih;simp only at h1 ih;have l1:B1.length+B2.length=B.length:=by rw[<-Aj,h1]
 have w0:IntKind.i64.wrap (((a+1+B.length:Nat):Int) - 1)=((a+B.length:Nat):Int):=by rw[Bo AA];omega
 refine Ay Blx ?_;rcases B2 with _ | ⟨z,B2⟩
 .have f1:(((a+B1.length:Nat):Int)<((a+B.length:Nat):Int))=False:=eq_false (by grind);rw[Bz]at h1;subst h1;have:=qb (a+B1.length);simp only[go_sem,w0,f1];exact this
 simp only[Be]at l1;have f1:(((a+B1.length:Nat):Int)<((a+B.length:Nat):Int))=True:=eq_true AA;have w3:IntKind.i64.wrap (((a+B1.length:Nat):Int)+1)=((a+B1.length+1:Nat):Int):=Aw AA;obtain⟨g1,g2,g3,g4,-,-⟩:=Afa (P:=X++B1) (M:=[]) (Q:=B2++R) (x:=x) (y:=z);rw[Aj,ha]at g1 g2 g3 g4;simp only[Ct,Dn,Mx]at g1 g2 g3 g4;have qe:a+B1.length<n:=by omega
 have qf:a+B1.length+1<n:=by omega
 have ql:(X++B1++x::z::(B2++R)).length=n:=by simp only[Aj,Be];omega
 have qj:(X++B1++z::z::(B2++R)).length=n:=by simp only[Aj,Be];omega
 have p1:=Sb z (by rw[ql];exact qe);have p2:=Sb x (by rw[qj];exact qf);have r1:=Rw (by rw[ql];exact qe);have r2:=Rw (by rw[qj];exact qf);rw[g3]at p1;rw[g4]at p2;have lx:=Lj (g:=g) g1;have ly:=Lj (g:=g) g2;have qm:=Oh (g:=g) (D:=X++B1++x::z::(B2++R)) hi;have qp:=Oh (g:=g) (D:=X++B1++z::z::(B2++R)) hi;have qs:=Sa (s:=s) (i:=i) (g:=g) (D:=X++B1++x::z::(B2++R)) (D':=X++B1++z::z::(B2++R));have qt:=Sa (s:=s) (i:=i) (g:=g) (D:=X++B1++z::z::(B2++R)) (D':=X++B1++z::x::(B2++R));have nx:=ih (B1++[z],B2) AE (by grind);simp only at nx;rw[Aj,I8,<-Aby,show X++(B1++[z]++x::(B2++R))=X++B1++z::x::(B2++R) by simp]at nx;rw[show X++(B1++x::(z::B2++R))=X++B1++x::z::(B2++R) by simp];clear ih;generalize X++B1++x::z::(B2++R)=D1 at *;generalize X++B1++z::z::(B2++R)=D2 at *;generalize X++B1++z::x::(B2++R)=D3 at *;generalize a+B1.length=k at *;simp only[go_sem,w0,f1];refine Ad AD ?_;simp only[go_sem,w3,F3 qe,F3 qf,qm,lx,ly,r1,p1,qs];refine Id (by repeat (first | exact trivial | refine⟨.inl AH,?_⟩ | refine⟨by rfl,?_⟩ | refine⟨.inr ⟨by rfl,by rfl⟩,?_⟩)) (by repeat (first | exact trivial | refine⟨.inl AH,?_⟩ | refine⟨by rfl,?_⟩ | refine⟨.inr ⟨by rfl,by rfl⟩,?_⟩)) ?_;simp only[go_sem,F3 qf,qp,r2,p2,qt];refine Id (by repeat (first | exact trivial | refine⟨.inl AH,?_⟩ | refine⟨by rfl,?_⟩ | refine⟨.inr ⟨by rfl,by rfl⟩,?_⟩)) (by repeat (first | exact trivial | refine⟨.inl AH,?_⟩ | refine⟨by rfl,?_⟩ | refine⟨.inr ⟨by rfl,by rfl⟩,?_⟩)) ?_;simp only[go_sem,w3];exact Ai nx rfl
def mv3{s:St}{i g n a:Nat}{w:Bool}(hi:i<s.length)(qd:n<=1000){X A R:List Ent}{x:Ent}(ha:X.length=a)(hn:X.length+1+A.length+R.length=n){k0:List It}{Q:Env->St->Prop}
  (qb:∀ k:Nat,W TT PT k0 [(0,.sl i g 0 n 4 w),(14,iV (a:Int)),(17,iV (k:Int))] (Cm s i g (X++(x::(A++R)))) Q) :
  W TT PT (.l [0,14,17] lp87_3::.b 6::k0) [(0,.sl i g 0 n 4 w),(14,iV (a:Int)),(17,iV ((a+A.length:Nat):Int))] (Cm s i g (X++(A++x::R))) Q:=by
 refine Bb (α:=List Ent × List Ent) (fun q=>q.1.length) (fun q=>[(0,.sl i g 0 n 4 w),(14,iV (a:Int)),(17,iV ((a+q.1.length:Nat):Int))]) (fun q=>Cm s i g (X++(q.1++x::(q.2++R))))
  (fun q=>q.1++q.2=A) ?_ (A,[]) AE
 rintro⟨A1,A2⟩ h1 ih;simp only at h1 ih;have l1:A1.length+A2.length=A.length:=by rw[<-Aj,h1]
 refine Ay Blz ?_;rcases List.eq_nil_or_concat A1 with rfl | ⟨A1,z,rfl⟩
 .rw[Ct]at h1;subst h1;have:=qb a;simp only[go_sem,Aha];exact this
 rw[List.concat_eq_append]at *;rw[Aj,I8]at l1;have hk:a+(A1++[z]).length=a+A1.length+1:=by rw[Aj,I8];omega
 rw[hk];have f1:((a:Int)<((a+A1.length+1:Nat):Int))=True:=eq_true AA;have w3:IntKind.i64.wrap (((a+A1.length+1:Nat):Int) - 1)=((a+A1.length:Nat):Int):=by rw[Bo AA];omega
 obtain⟨g1,g2,-,-,g3,g4⟩:=Afa (P:=X++A1) (M:=[]) (Q:=A2++R) (x:=z) (y:=x);rw[Aj,ha]at g1 g2 g3 g4;simp only[Ct,Dn,Mx]at g1 g2 g3 g4;have qe:a+A1.length<n:=by omega
 have qf:a+A1.length+1<n:=by omega
 have ql:(X++A1++z::x::(A2++R)).length=n:=by simp only[Aj,Be];omega
 have qj:(X++A1++z::z::(A2++R)).length=n:=by simp only[Aj,Be];omega
 have p1:=Sb z (by rw[ql];exact qf);have p2:=Sb x (by rw[qj];exact qe);have r1:=Rw (by rw[ql];exact qf);have r2:=Rw (by rw[qj];exact qe);rw[g3]at p1;rw[g4]at p2;have lx:=Lj (g:=g) g1;have ly:=Lj (g:=g) g2;have qm:=Oh (g:=g) (D:=X++A1++z::x::(A2++R)) hi;have qp:=Oh (g:=g) (D:=X++A1++z::z::(A2++R)) hi;have qs:=Sa (s:=s) (i:=i) (g:=g) (D:=X++A1++z::x::(A2++R)) (D':=X++A1++z::z::(A2++R));have qt:=Sa (s:=s) (i:=i) (g:=g) (D:=X++A1++z::z::(A2++R)) (D':=X++A1++x::z::(A2++R));have nx:=ih (A1,z::A2) AE (by grind);simp only at nx;rw[show X++(A1++x::(z::A2++R))=X++A1++x::z::(A2++R) by simp]at nx;rw[show X++(A1++[z]++x::(A2++R))=X++A1++z::x::(A2++R) by simp];clear ih;generalize X++A1++z::x::(A2++R)=D1 at *;generalize X++A1++z::z::(A2++R)=D2 at *;generalize X++A1++x::z::(A2++R)=D3 at *;generalize a+A1.length=k at *;simp only[go_sem,f1];refine Ad AD ?_;simp only[go_sem,w3,F3 qe,F3 qf,qm,lx,ly,r1,p1,qs];refine Id (by repeat (first | exact trivial | refine⟨.inl AH,?_⟩ | refine⟨by rfl,?_⟩ | refine⟨.inr ⟨by rfl,by rfl⟩,?_⟩)) (by repeat (first | exact trivial | refine⟨.inl AH,?_⟩ | refine⟨by rfl,?_⟩ | refine⟨.inr ⟨by rfl,by rfl⟩,?_⟩)) ?_;simp only[go_sem,F3 qe,qp,r2,p2,qt];refine Id (by repeat (first | exact trivial | refine⟨.inl AH,?_⟩ | refine⟨by rfl,?_⟩ | refine⟨.inr ⟨by rfl,by rfl⟩,?_⟩)) (by repeat (first | exact trivial | refine⟨.inl AH,?_⟩ | refine⟨by rfl,?_⟩ | refine⟨.inr ⟨by rfl,by rfl⟩,?_⟩)) ?_;simp only[go_sem,w3];exact Ai nx rfl
def sb4{s:St}{i g n lo qg p:Nat}{w:Bool}(hi:i<s.length)(qd:n<=1000){D:List Ent}(hD:D.length=n)(hs:∀ e∈D,e.sites.length<=1000)(qC:lo<=qg)(hp:∀ c,lo<=c->c<qg->c<n/\c<=p/\p - c<n){v1 v2 v3 qH qI:V}{k0:List It}{Q:Env->St->Prop}
  (qb:∀ c,lo<=c->c<=qg->(lo<c->∀ x y,D[c - 1]?=some x->D[p - (c - 1)]?=some y->¬ Bs y x<0)->(c<qg->∀ x y,D[c]?=some x->D[p - c]?=some y->Bs y x<0)->W TT PT k0 [(0,.sl i g 0 n 4 w),(1,v1),(2,v2),(3,v3),(4,.fn 20 [] []),(18,qH),(19,qI),(20,iV (c:Int)),(21,iV (c:Int)),(22,iV (p:Int))] (Cm s i g D) Q) :
  W TT PT (.l [0,1,2,3,4,18,19,20,21,22] lp87_4::.b 8::k0) [(0,.sl i g 0 n 4 w),(1,v1),(2,v2),(3,v3),(4,.fn 20 [] []),(18,qH),(19,qI),(20,iV (lo:Int)),(21,iV (qg:Int)),(22,iV (p:Int))] (Cm s i g D) Q:=by
 refine Bb (α:=Nat × Nat) (fun q=>q.2 - q.1) (fun q=>[(0,.sl i g 0 n 4 w),(1,v1),(2,v2),(3,v3),(4,.fn 20 [] []),(18,qH),(19,qI),(20,iV (q.1:Int)),(21,iV (q.2:Int)),(22,iV (p:Int))]) (fun _=>Cm s i g D)
  (fun q=>lo<=q.1/\q.1<=q.2/\q.2<=qg/\(lo<q.1->∀ x y,D[q.1 - 1]?=some x->D[p - (q.1 - 1)]?=some y->¬ Bs y x<0)/\(q.2<qg->∀ x y,D[q.2]?=some x->D[p - q.2]?=some y->Bs y x<0)) ?_ (lo,qg) ⟨Am _,qC,Am _,fun h=>by simp at h,fun h=>by simp at h⟩
 rintro⟨c1,c2⟩ ⟨h1,h2,h3,h4,h5⟩ ih;simp only at h1 h2 h3 h4 h5 ih;refine Ay Bl0 ?_;rcases Az c1 c2 with h | h;rotate_left
 .have e1:c2=c1:=by omega
  subst e1;simp only[go_sem,Aha];exact qb c2 h1 h3 h4 h5
 have f1:((c1:Int)<(c2:Int))=True:=eq_true AA;obtain⟨r,hr⟩:∃ r,r=(c1+c2) / 2:=⟨_,rfl⟩;obtain⟨q1,q2,q3⟩:=hp r AA AA;have q4:=(hp c1 h1 AA).1;have w1:IntKind.i64.wrap ((c1:Int)+(c2:Int))=((c1+c2:Nat):Int):=by rw[Bo AA];omega
 have w2:IntKind.i64.wrap ((IntKind.u64.wrap ((c1+c2:Nat):Int)).fdiv (2 ^ min 1 64))=(r:Int):=by rw[Afb AA,hr]
 have w3:IntKind.i64.wrap ((r:Int)+1)=((r+1:Nat):Int):=Aw AA;have w4:IntKind.i64.wrap ((p:Int) - (r:Int))=((p - r:Nat):Int):=by rw[Bo AA];omega
 obtain⟨x,hx,-,jg⟩:=Bk (l:=D) (i:=r) AA;obtain⟨y,hy,-,jt⟩:=Bk (l:=D) (i:=p - r) AA;have lx:=Lj (g:=g) hx;have ly:=Lj (g:=g) hy;have gs:=Oh (g:=g) (D:=D) hi;have gc:=Ad9 y x (by grind) (by grind);unfold Ent.row at gc;simp only[go_sem,f1,w1,w2];refine Ad AD ?_;simp only[go_sem,w4,F3 q1,F3 q3,gs,lx,ly];refine Ax gc AB ?_;by_cases qi:Bs y x<0
 .have f2:(L0 y x<0)=True:=eq_true (R9.2 qi);simp only[go_sem,f2]
  exact Ai (ih (c1,r) AA ⟨h1,by omega,by omega,h4,fun _ x' y' qr ji=>by
   grind⟩) rfl
 .have f2:(L0 y x<0)=False:=eq_false fun h=>qi (R9.1 h)
  simp only[go_sem,f2,w3]
  exact Ai (ih (r+1,c2) AA ⟨by omega,by omega,h3,fun _ x' y' qr ji=>by
   grind,h5⟩) rfl
def Bhu{A B:List Ent}{u t:Nat}(hA:Ec Dk Ent.ks A)(hB:Ec Dk Ent.ks B)(hu:u<=A.length)(hv:t<=B.length)(h1:∀ x y,0<u->A[u - 1]?=some x->B[t]?=some y->¬ Bs y x<0)(h2:∀ x y,0<t->A[u]?=some x->B[t - 1]?=some y->Bs y x<0):
  ∀ x∈A.take u++B.take t,∀ y∈A.drop u++B.drop t,¬ Bs y x<0:=by
 have ht:∀ {L:List Ent} {n:Nat} {x:Ent},x∈L.take n->∃ j,j<n/\L[j]?=some x:=fun {L n x} hx=>by
  grind[List.mem_iff_getElem?]
 have hd:∀ {L:List Ent} {n:Nat} {x:Ent},x∈L.drop n->∃ j,n<=j/\L[j]?=some x:=fun {L n x} hx=>by
  grind[List.mem_iff_getElem?]
 intro x hx y hy
 rcases Cs.1 hx with hx | hx<;>rcases Cs.1 hy with hy | hy<;>obtain⟨i,hi,ei⟩:=ht hx<;>obtain⟨j,hj,ej⟩:=hd hy
 .exact Pw hA AA ei ej
 .have hl:=(An.1 ej).1;have hb:=Cb (show t<B.length by omega);have qr:=Cb (show u - 1<A.length by omega);exact Xb (Xb (Pw hA AA ei qr) (h1 _ _ AA qr hb)) (Pw hB hj hb ej)
 .have hl:=(An.1 ej).1;have hb:=Cb (show u<A.length by omega);have qr:=Cb (show t - 1<B.length by omega);have h3:=h2 _ _ AA hb qr;exact Xb (Xb (Pw hB AA ei qr) (fun h4=>by rw[Un]at h3 h4;exact lin_p.asym h3 h4)) (Pw hA hj hb ej)
 .exact Pw hB AA ei ej
def Avq{P Q:List Ent}{x:Ent}(h:Ec Dk Ent.ks (P++Q))(h1:∀ u∈P,¬ Bs x u<0)(h2:∀ v∈Q,¬ Bs v x<0):Ec Dk Ent.ks (P++x::Q):=by
 obtain⟨a,b,c⟩:=Vg.1 h;refine Vg.2 ⟨a,Qh.2 ⟨fun v hv=>h2 v hv,b⟩,fun u hu v hv=>?_⟩;rcases B7.1 hv with rfl | hv
 .exact h1 u hu
 grind
def Axj{L:List Ent}{n:Nat}{x:Ent}(hx:x∈L.take n):∃ j,j<n/\L[j]?=some x:=by
 grind[List.mem_iff_getElem?]
def Axk{L:List Ent}{n:Nat}{x:Ent}(hx:x∈L.drop n):∃ j,n<=j/\L[j]?=some x:=by
 grind[List.mem_iff_getElem?]
set_option maxHeartbeats 8000000 in
def Alb{s:St}(hc:Cl s){i g n:Nat}{w:Bool}(hi:i<s.length)(qd:n<=1000):∀ (N:Nat) (X A B Z:List Ent) (a m b:Nat),A.length+B.length<=N->X.length=a->a+A.length=m->m+B.length=b->b+Z.length=n->A≠[]->B≠[]->Ec Dk Ent.ks A->Ec Dk Ent.ks B->(∀ e∈X++(A++(B++Z)),e.sites.length<=1000) ->
  ∃ s',Th TT PT 87 [.sl i g 0 n 4 w,iV (a:Int),iV (m:Int),iV (b:Int),.fn 20 [] []] (Cm s i g (X++(A++(B++Z)))) (.tup []) s'/\∃ C:List Ent,C.Perm (A++B)/\Ec Dk Ent.ks C/\s'=Cm s i g (X++(C++Z))
 | 0,_,A,_,_,_,_,_,h,_,_,_,_,hA,_,_,_,_=>absurd (Mb.1 AA) hA
 | N+1,X,A,B,Z,a,m,b,hN,ha,hm,hb,hn,hA,hB,lA,lB,hs=>by
  have ih:=Alb hc (g:=g) (w:=w) hi qd N;have qK:=Xy.2 hA;have qL:=Xy.2 hB;have hD:(X++(A++(B++Z))).length=n:=by simp only[Aj];omega
  have dA:∀ (t:Nat) (y:Ent),A[t]?=some y->(X++(A++(B++Z)))[a+t]?=some y:=fun t y h=>by
   have h1:=(An.1 h).1
   simp_all [Fk,Ex]
  have dB:∀ (t:Nat) (y:Ent),B[t]?=some y->(X++(A++(B++Z)))[m+t]?=some y:=fun t y h=>by
   have h1:=(An.1 h).1;rw[Fk AA,ha,Fk AA,show m+t - a - A.length=t by omega,Ex h1];exact h
  refine Qz T87 rfl ?_ rfl rfl (fun s' h=>by
   obtain⟨C,-,-,rfl⟩:=h
   simp_all [Zw,Aai])
  have w1:IntKind.i64.wrap ((m:Int) - (a:Int))=(A.length:Int):=by rw[Bo AA];omega
  have w2:IntKind.i64.wrap ((b:Int) - (m:Int))=(B.length:Int):=by rw[Bo AA];omega
  refine Ff (fun e s'=>e=[(0,.sl i g 0 n 4 w),(1,iV (a:Int)),(2,iV (m:Int)),(3,iV (b:Int)),(4,.fn 20 [] [])]/\s'=Cm s i g (X++(A++(B++Z)))/\A.length≠1) ?_ ?_
  .intro k' qc;by_cases qk:A.length=1
   .obtain⟨x,rfl⟩:∃ x,A=[x]:=Agu.1 qk;have f1:((1:Int)==1)=true:=rfl;subst hb;have qF:(X++x::(B++Z))[a]?=some x:=by have:=dA 0 x rfl;simpa using this
    rw[I8]at hm;simp only[go_sem,w1,f1];refine Ai (sb0 hi qd (D:=X++x::(B++Z)) (B:=B) (x:=x) hD hs qF dB lB AA fun p hp h1 h2=>?_) rfl;have jd:(B.take p).length=p:=by rw[Ic];omega
    have e1:X++x::(B++Z)=X++(x::(B.take p++(B.drop p++Z))):=by rw[<-Dm (B.take p),Hy]
    rw[show m+p=a+1+(B.take p).length by omega,e1];generalize hR:B.drop p++Z=R;generalize hP:B.take p=P at *;simp only[go_sem];refine Ai (mv1 hi qd ha (by have:=congrArg List.length hR;rw[Aj,Gi]at this;omega) fun k=>?_) rfl;simp only[go_sem];subst hR hP;refine⟨rfl,B.take p++x::B.drop p,?_,Avq (by rw[Hy];exact lB) (fun u hu=>?_) (fun v hv=>?_),by simp⟩
    .have:=List.perm_middle (a:=x) (l₁:=B.take p) (l₂:=B.drop p)
     rwa [Hy]at this
    .obtain⟨j,hj,e⟩:=Axj hu;have h3:=h1 j u hj e;intro h4;rw[Un]at h3 h4;exact lin_p.asym h3 h4
    .obtain⟨j,hj,e⟩:=Axk hv;exact h2 j v hj e
   .have f1:((A.length:Int)==1)=false:=by simp;omega
    simp only[go_sem,w1,f1];exact qc _ _ ⟨rfl,rfl,qk⟩
  rintro _ _ ⟨rfl,rfl,qk⟩;refine Ff (fun e s'=>e=[(0,.sl i g 0 n 4 w),(1,iV (a:Int)),(2,iV (m:Int)),(3,iV (b:Int)),(4,.fn 20 [] [])]/\s'=Cm s i g (X++(A++(B++Z)))/\B.length≠1) ?_ ?_
  .intro k' qc;by_cases qz:B.length=1
   .obtain⟨x,rfl⟩:∃ x,B=[x]:=Agu.1 qz;have f1:((1:Int)==1)=true:=rfl;subst hm;have qF:(X++(A++x::Z))[a+A.length]?=some x:=by have:=dB 0 x rfl;simpa using this
    simp only[go_sem,w2,f1];refine Ai (sb2 hi qd (D:=X++(A++x::Z)) (A:=A) (x:=x) hD hs qF dA lA AA fun p hp h1 h2=>?_) rfl;have jd:(A.take p).length=p:=by rw[Ic];omega
    have e1:X++(A++x::Z)=(X++A.take p)++(A.drop p++x::Z):=by rw[Dm,<-Dm (A.take p),Hy]
    rw[e1];have qj:a+A.length=a+p+(A.drop p).length:=by rw[Gi];omega
    generalize qA:X++A.take p=X';generalize hQ:A.drop p=Q' at *;rw[qj];simp only[go_sem];refine Ai (mv3 hi qd (X:=X') (a:=a+p) (by rw[<-qA,Aj];omega) (by rw[<-qA,Aj,I8]at *;omega) fun k=>?_) rfl;simp only[go_sem];subst qA hQ;refine⟨rfl,A.take p++x::A.drop p,?_,Avq (by rw[Hy];exact lA) (fun u hu=>?_) (fun v hv=>?_),by simp⟩
    .have:=List.perm_middle (a:=x) (l₁:=A.take p) (l₂:=A.drop p);rw[Hy]at this;exact this.trans (List.perm_append_singleton x A).symm
    .obtain⟨j,hj,e⟩:=Axj hu;exact h1 j u hj e
    .obtain⟨j,hj,e⟩:=Axk hv;have h3:=h2 j v hj e;intro h4;rw[Un]at h3 h4;exact lin_p.asym h3 h4
   .have f1:((B.length:Int)==1)=false:=by simp;omega
    simp only[go_sem,w2,f1];exact qc _ _ ⟨rfl,rfl,qz⟩
  rintro _ _ ⟨rfl,rfl,qz⟩;obtain⟨qa,qD⟩:∃ qa,qa=(a+b) / 2:=⟨_,rfl⟩;obtain⟨nn,jq⟩:∃ nn,nn=qa+m:=⟨_,rfl⟩;have w3:IntKind.i64.wrap ((a:Int)+(b:Int))=((a+b:Nat):Int):=by rw[Bo AA];omega
  have w4:IntKind.i64.wrap ((IntKind.u64.wrap ((a+b:Nat):Int)).fdiv (2 ^ min 1 64))=(qa:Int):=by rw[Afb AA,qD]
  have w5:IntKind.i64.wrap ((qa:Int)+(m:Int))=(nn:Int):=by rw[Bo AA];omega
  refine Ff (fun e s'=>e=[(0,.sl i g 0 n 4 w),(1,iV (a:Int)),(2,iV (m:Int)),(3,iV (b:Int)),(4,.fn 20 [] []),(18,iV (qa:Int))]/\s'=Cm s i g (X++(A++(B++Z)))) ?_ ?_
  .intro k' qc;simp only[go_sem,w3,w4];exact qc _ _ ⟨rfl,rfl⟩
  rintro _ _ ⟨rfl,rfl⟩;refine Ff (fun e s'=>e=[(0,.sl i g 0 n 4 w),(1,iV (a:Int)),(2,iV (m:Int)),(3,iV (b:Int)),(4,.fn 20 [] []),(18,iV (qa:Int)),(19,iV (nn:Int))]/\s'=Cm s i g (X++(A++(B++Z)))) ?_ ?_
  .intro k' qc;simp only[go_sem,w5];exact qc _ _ ⟨rfl,rfl⟩
  rintro _ _ ⟨rfl,rfl⟩;refine Ff (fun e s'=>e=[(0,.sl i g 0 n 4 w),(1,iV (a:Int)),(2,iV (m:Int)),(3,iV (b:Int)),(4,.fn 20 [] []),(18,iV (qa:Int)),(19,iV (nn:Int))]/\s'=Cm s i g (X++(A++(B++Z)))) ?_ ?_
  .intro k' qc;simp only[go_sem];exact qc _ _ ⟨rfl,rfl⟩
  rintro _ _ ⟨rfl,rfl⟩
  obtain⟨lo,qg,qC,qv,h7,h8,h9,jj,jk,jl,jm⟩:∃ lo qg:Nat,lo<=qg/\(∀ c,lo<=c->c<qg->c<n/\c<=nn - 1/\nn - 1 - c<n)/\(qa<m/\lo=nn - b/\qg=qa\/m<=qa/\lo=a/\qg=m)/\a<=lo/\qg<=m/\qg<=qa/\m+qg<=nn/\nn<=b+lo/\1<=nn:=by
   rcases Az qa m with h | h
   .exact⟨nn - b,qa,by omega,fun c h1 h2=>by omega,.inl ⟨h,rfl,rfl⟩,by omega,by omega,by omega,by omega,by omega,by omega⟩
   .exact⟨a,m,by omega,fun c h1 h2=>by omega,.inr ⟨h,rfl,rfl⟩,by omega,by omega,by omega,by omega,by omega,by omega⟩
  refine Ff (fun e s'=>e=[(0,.sl i g 0 n 4 w),(1,iV (a:Int)),(2,iV (m:Int)),(3,iV (b:Int)),(4,.fn 20 [] []),(18,iV (qa:Int)),(19,iV (nn:Int)),(20,iV (lo:Int)),(21,iV (qg:Int))]/\s'=Cm s i g (X++(A++(B++Z)))) ?_ ?_
  .intro k' qc;rcases h7 with⟨h,e1,e2⟩ | ⟨h,e1,e2⟩
   .have f1:((qa:Int)<(m:Int))=True:=eq_true AA;have w6:IntKind.i64.wrap ((nn:Int) - (b:Int))=((nn - b:Nat):Int):=by rw[Bo AA];omega
    simp only[go_sem,f1,w6];exact qc _ _ ⟨by grind,rfl⟩
   .have f1:((qa:Int)<(m:Int))=False:=eq_false AA;simp only[go_sem,f1];exact qc _ _ ⟨by grind,rfl⟩
  rintro _ _ ⟨rfl,rfl⟩;refine Ff (fun e s'=>e=[(0,.sl i g 0 n 4 w),(1,iV (a:Int)),(2,iV (m:Int)),(3,iV (b:Int)),(4,.fn 20 [] []),(18,iV (qa:Int)),(19,iV (nn:Int)),(20,iV (lo:Int)),(21,iV (qg:Int)),(22,iV ((nn - 1:Nat):Int))]/\s'=Cm s i g (X++(A++(B++Z)))) ?_ ?_
  .intro k' qc;have w6:IntKind.i64.wrap ((nn:Int) - 1)=((nn - 1:Nat):Int):=by rw[Bo AA];omega
   simp only[go_sem,w6];exact qc _ _ ⟨rfl,rfl⟩
  rintro _ _ ⟨rfl,rfl⟩;refine Ff (fun e s'=>∃ c,lo<=c/\c<=qg/\(lo<c->∀ x y,(X++(A++(B++Z)))[c - 1]?=some x->(X++(A++(B++Z)))[nn - 1 - (c - 1)]?=some y->¬ Bs y x<0)/\(c<qg->∀ x y,(X++(A++(B++Z)))[c]?=some x->(X++(A++(B++Z)))[nn - 1 - c]?=some y->Bs y x<0)/\e=[(0,.sl i g 0 n 4 w),(1,iV (a:Int)),(2,iV (m:Int)),(3,iV (b:Int)),(4,.fn 20 [] []),(18,iV (qa:Int)),(19,iV (nn:Int)),(20,iV (c:Int)),(21,iV (c:Int)),(22,iV ((nn - 1:Nat):Int))]/\s'=Cm s i g (X++(A++(B++Z)))) ?_ ?_
  .intro k' qc;simp only[go_sem];exact Ai (sb4 hi qd hD hs qC qv fun c q1 q2 q3 q4=>qc _ _ ⟨c,q1,q2,q3,q4,rfl,rfl⟩) rfl
  rintro _ _ ⟨c,q1,q2,q3,q4,rfl,rfl⟩;obtain⟨en,jp⟩:∃ en,en=nn - c:=⟨_,rfl⟩;obtain⟨u,hu⟩:∃ u,u=c - a:=⟨_,rfl⟩;obtain⟨t,ht⟩:∃ t,t=en - m:=⟨_,rfl⟩;have je:u<=A.length:=by omega
  have jc:t<=B.length:=by omega
  have qO:=Bhu lA lB je jc (fun x y h0 hx hy=>by
   have h1:=(An.1 hy).1;refine q3 AA x y ?_ ?_
   .rw[show c - 1=a+(u - 1) by omega];exact dA _ _ hx
   .rw[show nn - 1 - (c - 1)=m+t by omega];exact dB _ _ hy) (fun x y h0 hx hy=>by
   have h1:=(An.1 hx).1;refine q4 AA x y ?_ ?_
   .rw[show c=a+u by omega];exact dA _ _ hx
   .rw[show nn - 1 - c=m+(t - 1) by omega];exact dB _ _ hy)
  obtain⟨A1,A2,B1,B2,qk,qy,qn,qo⟩:∃ A1 A2 B1 B2,A1=A.take u/\A2=A.drop u/\B1=B.take t/\B2=B.drop t:=⟨_,_,_,_,rfl,rfl,rfl,rfl⟩;have l1:A1.length=u:=by rw[qk,Ic];omega
  have l2:A2.length=A.length - u:=by rw[qy,Gi]
  have l3:B1.length=t:=by rw[qn,Ic];omega
  have l4:B2.length=B.length - t:=by rw[qo,Gi]
  have eA:A1++A2=A:=by rw[qk,qy];exact Hy ..
  have eB:B1++B2=B:=by rw[qn,qo];exact Hy ..
  rw[<-qk,<-qy,<-qn,<-qo]at qO;clear qk qy qn qo q3 q4 qv dA dB;have qR:=lA;have qU:=lB;rw[<-eA]at qR;rw[<-eB]at qU;obtain⟨qS,qT,-⟩:=Vg.1 qR;obtain⟨qV,qW,-⟩:=Vg.1 qU
  have qx:(A1++B1++(A2++B2)).Perm (A++B):=by
   rw[<-eA,<-eB,Dm,Dm,<-Dm B1,<-Dm A2];exact(List.perm_append_comm.append_right _).append_left _
  have qQ:∀ e,e∈X++(A1++(B1++(A2++(B2++Z))))->e.sites.length<=1000:=fun e he=>hs e (by
   rw[<-eA,<-eB];simp only[Cs]at he ⊢
   grind)
  have w7:IntKind.i64.wrap ((nn:Int) - (c:Int))=(en:Int):=by rw[Bo AA];omega
  refine Ff (fun e s'=>e=[(0,.sl i g 0 n 4 w),(1,iV (a:Int)),(2,iV (m:Int)),(3,iV (b:Int)),(4,.fn 20 [] []),(18,iV (qa:Int)),(20,iV (c:Int)),(21,iV (c:Int)),(22,iV ((nn - 1:Nat):Int)),(24,iV (en:Int))]/\s'=Cm s i g (X++(A++(B++Z)))) ?_ ?_
  .intro k' qc;simp only[go_sem,w7];exact qc _ _ ⟨rfl,rfl⟩
  rintro _ _ ⟨rfl,rfl⟩;refine Ff (fun e s'=>(e=[(0,.sl i g 0 n 4 w),(1,iV (a:Int)),(2,iV (m:Int)),(3,iV (b:Int)),(4,.fn 20 [] []),(18,iV (qa:Int)),(20,iV (c:Int)),(21,iV (c:Int)),(22,iV ((nn - 1:Nat):Int)),(24,iV (en:Int))]\/e=[(0,.sl i g 0 n 4 w),(1,iV (a:Int)),(3,iV (b:Int)),(4,.fn 20 [] []),(18,iV (qa:Int)),(20,iV (c:Int)),(21,iV (c:Int)),(22,iV ((nn - 1:Nat):Int)),(24,iV (en:Int))])/\s'=Cm s i g (X++(A1++(B1++(A2++(B2++Z)))))) ?_ ?_
  .intro k' qc;by_cases g1:c<m
   .have f1:((c:Int)<(m:Int))=True:=eq_true AA;by_cases g2:m<en
    .have f2:((m:Int)<(en:Int))=True:=eq_true AA;obtain⟨s1,h6,rfl⟩:=Bht hc (g:=g) (w:=w) hi (X++A1) A2 B1 (B2++Z) c m en (by grind) (by grind) (by grind) (fun e=>by grind) (fun e=>by grind) (n:=n) (by grind) qd;rw[show X++A1++(A2++(B1++(B2++Z)))=X++(A++(B++Z)) by grind,show X++A1++(B1++(A2++(B2++Z)))=X++(A1++(B1++(A2++(B2++Z)))) by simp]at h6;generalize X++(A1++(B1++(A2++(B2++Z))))=D1 at *;generalize X++(A++(B++Z))=D0 at *;simp only[go_sem,f1,f2];refine Bv h6 ?_;simp only[go_sem];exact qc _ _ ⟨.inr rfl,rfl⟩
    .have f2:((m:Int)<(en:Int))=False:=eq_false AA;have e2:B1=[]:=Mb.1 AA;rw[show X++(A1++(B1++(A2++(B2++Z))))=X++(A++(B++Z)) by grind]at qc;generalize X++(A++(B++Z))=D0 at *;simp only[go_sem,f1,f2];exact qc _ _ ⟨.inl rfl,rfl⟩
   .have f1:((c:Int)<(m:Int))=False:=eq_false AA;have e2:A2=[]:=Mb.1 AA;rw[show X++(A1++(B1++(A2++(B2++Z))))=X++(A++(B++Z)) by grind]at qc;generalize X++(A++(B++Z))=D0 at *;simp only[go_sem,f1];exact qc _ _ ⟨.inl rfl,rfl⟩
  rintro _ _ ⟨he,rfl⟩;refine Ff (fun e s'=>∃ C1,C1.Perm (A1++B1)/\Ec Dk Ent.ks C1/\(e=[(0,.sl i g 0 n 4 w),(1,iV (a:Int)),(2,iV (m:Int)),(3,iV (b:Int)),(4,.fn 20 [] []),(18,iV (qa:Int)),(20,iV (c:Int)),(21,iV (c:Int)),(22,iV ((nn - 1:Nat):Int)),(24,iV (en:Int))]\/e=[(0,.sl i g 0 n 4 w),(1,iV (a:Int)),(3,iV (b:Int)),(4,.fn 20 [] []),(18,iV (qa:Int)),(20,iV (c:Int)),(21,iV (c:Int)),(22,iV ((nn - 1:Nat):Int)),(24,iV (en:Int))]\/e=[(0,.sl i g 0 n 4 w),(2,iV (m:Int)),(3,iV (b:Int)),(4,.fn 20 [] []),(18,iV (qa:Int)),(21,iV (c:Int)),(22,iV ((nn - 1:Nat):Int)),(24,iV (en:Int))]\/e=[(0,.sl i g 0 n 4 w),(3,iV (b:Int)),(4,.fn 20 [] []),(18,iV (qa:Int)),(21,iV (c:Int)),(22,iV ((nn - 1:Nat):Int)),(24,iV (en:Int))])/\s'=Cm s i g (X++(C1++(A2++(B2++Z))))) ?_ ?_
  .intro k' qc;by_cases g0:a<c/\c<qa
   .obtain⟨g1,g2⟩:=g0;have f1:((a:Int)<(c:Int))=True:=eq_true AA;have f2:((c:Int)<(qa:Int))=True:=eq_true AA;obtain⟨s1,h6,C1,p1,o1,rfl⟩:=ih X A1 B1 (A2++(B2++Z)) a c qa AA ha AA AA (by rw[Aj,Aj];omega) (fun e=>by grind) (fun e=>by rw[e]at l3;simp at l3;omega) qS qV qQ;have qq:=fun e h=>qc e _ ⟨C1,p1,o1,h,rfl⟩
    clear qc;generalize X++(C1++(A2++(B2++Z)))=D2 at *;generalize X++(A1++(B1++(A2++(B2++Z))))=D1 at *;rcases he with rfl | rfl
    .simp only[go_sem,f1,f2];refine Bv h6 ?_;simp only[go_sem];exact qq _ (.inr (.inr (.inl rfl)))
    .simp only[go_sem,f1,f2];refine Bv h6 ?_;simp only[go_sem];exact qq _ (.inr (.inr (.inr rfl)))
   .have o1:Ec Dk Ent.ks (A1++B1):=by
     rcases Az a c with h | h
     .have e2:B1=[]:=Mb.1 AA;rw[e2,Bz];exact qS
     .have e2:A1=[]:=Mb.1 AA;rw[e2,Ct];exact qV
    have qq:=fun e h=>qc e (Cm s i g (X++(A1++(B1++(A2++(B2++Z)))))) ⟨A1++B1,.refl _,o1,h,by simp⟩
    clear qc;generalize X++(A1++(B1++(A2++(B2++Z))))=D1 at *;by_cases g1:a<c
    .have f1:((a:Int)<(c:Int))=True:=eq_true AA;have f2:((c:Int)<(qa:Int))=False:=eq_false AA;rcases he with rfl | rfl
     .simp only[go_sem,f1,f2];exact qq _ (.inl rfl)
     .simp only[go_sem,f1,f2];exact qq _ (.inr (.inl rfl))
    .have f1:((a:Int)<(c:Int))=False:=eq_false AA;rcases he with rfl | rfl
     .simp only[go_sem,f1];exact qq _ (.inl rfl)
     .simp only[go_sem,f1];exact qq _ (.inr (.inl rfl))
  rintro _ _ ⟨C1,p1,o1,qB,rfl⟩;clear he;have lC:C1.length=u+t:=by rw[p1.length_eq,Aj];omega
  have qJ:∀ C2:List Ent,C2.Perm (A2++B2)->Ec Dk Ent.ks C2->(C1++C2).Perm (A++B)/\Ec Dk Ent.ks (C1++C2):=fun C2 p2 o2=>⟨(p1.append p2).trans qx,Vg.2 ⟨o1,o2,fun x hx y hy=>qO x (p1.mem_iff.1 hx) y (p2.mem_iff.1 hy)⟩⟩
  by_cases g0:qa<en/\en<b
  .obtain⟨g1,g2⟩:=g0;have f1:((qa:Int)<(en:Int))=True:=eq_true AA;have f2:((en:Int)<(b:Int))=True:=eq_true AA
   obtain⟨s1,h6,C2,p2,o2,rfl⟩:=ih (X++C1) A2 B2 Z qa en b AA (by rw[Aj];omega) AA AA hn (fun e=>by rw[e]at l2;simp at l2;omega) (fun e=>by rw[e]at l4;simp at l4;omega) qT qW (fun e he=>qQ e (by
    simp only[Cs]at he ⊢;have h1:=p1.mem_iff (a:=e);rw[Cs]at h1
    grind))
   obtain⟨z1,z2⟩:=qJ C2 p2 o2;rw[show X++C1++(A2++(B2++Z))=X++(C1++(A2++(B2++Z))) by simp,show X++C1++(C2++Z)=X++((C1++C2)++Z) by simp]at h6;generalize hC:C1++C2=C at *;generalize X++(C1++(A2++(B2++Z)))=D1 at *
   rcases qB with rfl | rfl | rfl | rfl<;>simp only[go_sem,f1,f2]<;>refine Bv h6 ?_<;>simp only[go_sem]<;>exact⟨rfl,C,z1,z2,rfl⟩
  .have o2:Ec Dk Ent.ks (A2++B2):=by
    rcases Az qa en with h | h
    .have e2:B2=[]:=Mb.1 AA;rw[e2,Bz];exact qT
    .have e2:A2=[]:=Mb.1 AA;rw[e2,Ct];exact qW
   obtain⟨z1,z2⟩:=qJ _ (.refl _) o2;rw[show X++(C1++(A2++(B2++Z)))=X++((C1++(A2++B2))++Z) by simp];generalize hC:C1++(A2++B2)=C at *;by_cases g1:qa<en
   .have f1:((qa:Int)<(en:Int))=True:=eq_true AA;have f2:((en:Int)<(b:Int))=False:=eq_false AA
    rcases qB with rfl | rfl | rfl | rfl<;>simp only[go_sem,f1,f2]<;>exact⟨rfl,C,z1,z2,rfl⟩
   .have f1:((qa:Int)<(en:Int))=False:=eq_false AA
    rcases qB with rfl | rfl | rfl | rfl<;>simp only[go_sem,f1]<;>exact⟨rfl,C,z1,z2,rfl⟩
set_option maxHeartbeats 2000000 in
def A2a{s:St}{i g n a b ii:Nat}{w:Bool}(hi:i<s.length)(hn:n<=1000){k0:List It}{Q:Env->St->Prop}{X R A:List Ent}{x:Ent}(hX:X.length=a)(hs:∀ e∈A,e.sites.length<=1000)
  (qb:∀ (D:List Ent) (j:Nat),Ec Dk Ent.ks D->D.Perm A->W TT PT k0 [(0,.sl i g 0 n 4 w),(1,iV (a:Int)),(2,iV (b:Int)),(3,.fn 20 [] []),(8,iV (ii:Int)),(9,iV (j:Int))] (Cm s i g (X++(D++R))) Q)
  (P0:List Ent) (hA:(P0++[x]).Perm A) (jn:a+A.length+R.length=n) (h0:Ec Dk Ent.ks P0) :
  W TT PT (.l [0,1,2,3,8,9] lp86_0::.b 2::k0) [(0,.sl i g 0 n 4 w),(1,iV (a:Int)),(2,iV (b:Int)),(3,.fn 20 [] []),(8,iV (ii:Int)),(9,iV ((a+P0.length:Nat):Int))] (Cm s i g (X++(P0++x::R))) Q:=by
 refine Bb (α:=List Ent × List Ent) (fun q=>q.1.length) (fun q=>[(0,.sl i g 0 n 4 w),(1,iV (a:Int)),(2,iV (b:Int)),(3,.fn 20 [] []),(8,iV (ii:Int)),(9,iV ((a+q.1.length:Nat):Int))]) (fun q=>Cm s i g (X++(q.1++x::(q.2++R))))
  (fun q=>InsI Dk Ent.ks q.1 x q.2/\(q.1++x::q.2).Perm A) ?_ (P0,[]) ⟨Ba6 h0,hA⟩
 rintro⟨P,Z⟩ ⟨hI,hP⟩ ih;simp only at hI hP ih;refine Ay Blv ?_;have qw:=hP.length_eq;rw[Aj,Be]at qw;rcases List.eq_nil_or_concat P with rfl | ⟨P,p,rfl⟩
 .have:=qb (x::Z) a (A3g lin_p hI) hP;have f0:((a:Int)<(a:Int))=False:=eq_false AA;simp only[go_sem,f0];refine Ad AD ?_;simp only[go_sem,f0];exact this
 rw[List.concat_eq_append]at *;rw[Aj,I8]at qw;have hk:a+(P++[p]).length=a+P.length+1:=by rw[Aj,I8];omega
 rw[hk];have w1:IntKind.i64.wrap (((a+P.length+1:Nat):Int) - 1)=((a+P.length:Nat):Int):=by rw[Bo AA];omega
 have f1:((a:Int)<((a+P.length+1:Nat):Int))=True:=eq_true AA;obtain⟨g1,g2,-,-,g3,g4⟩:=Afa (P:=X++P) (M:=[]) (Q:=Z++R) (x:=p) (y:=x);rw[Aj,hX]at g1 g2 g3 g4;simp only[Ct,Dn,Mx]at g1 g2 g3 g4;have qe:a+P.length<n:=by omega
 have qf:a+P.length+1<n:=by omega
 have ql:(X++P++p::x::(Z++R)).length=n:=by simp only[Aj,Be];omega
 have qj:(X++P++p::p::(Z++R)).length=n:=by simp only[Aj,Be];omega
 have p1:=Sb p (by rw[ql];exact qf);have p2:=Sb x (by rw[qj];exact qe);have r1:=Rw (by rw[ql];exact qf);have r2:=Rw (by rw[qj];exact qe);rw[g3]at p1;rw[g4]at p2;have lx:=Lj (g:=g) g1;have ly:=Lj (g:=g) g2;have qm:=Oh (g:=g) (D:=X++P++p::x::(Z++R)) hi;have qp:=Oh (g:=g) (D:=X++P++p::p::(Z++R)) hi;have qs:=Sa (s:=s) (i:=i) (g:=g) (D:=X++P++p::x::(Z++R)) (D':=X++P++p::p::(Z++R));have qt:=Sa (s:=s) (i:=i) (g:=g) (D:=X++P++p::p::(Z++R)) (D':=X++P++x::p::(Z++R));have gc:=Ad9 x p (by have:=hs x (hP.mem_iff.1 AE);omega) (by have:=hs p (hP.mem_iff.1 AE);omega);unfold Ent.row at gc;rw[show X++(P++[p]++x::(Z++R))=X++P++p::x::(Z++R) by simp];by_cases qi:Bs x p<0;rotate_left
 .have f2:(L0 x p<0)=False:=eq_false fun h=>qi (R9.1 h)
  have nx:=qb (P++p::x::Z) (a+P.length+1) (by have:=A6l lin_p hI qi;grind) (by grind);rw[show X++(P++p::x::Z++R)=X++P++p::x::(Z++R) by simp]at nx;clear ih qb;generalize X++P++p::x::(Z++R)=D1 at *;generalize a+P.length=k at *;simp only[go_sem,f1];refine Ad AD ?_;simp only[go_sem,f1,w1,F3 qf,F3 qe,qm,lx,ly];refine Ax gc AB ?_;simp only[go_sem,f2];exact nx
 have f2:(L0 x p<0)=True:=eq_true (R9.2 qi);have nx:=ih (P,p::Z) AE ⟨A6k hI qi,(A3h P Z p x).symm.trans (by grind)⟩;simp only at nx;rw[show X++(P++x::(p::Z++R))=X++P++x::p::(Z++R) by simp]at nx;clear ih qb;generalize X++P++p::x::(Z++R)=D1 at *;generalize X++P++p::p::(Z++R)=D2 at *;generalize X++P++x::p::(Z++R)=D3 at *;generalize a+P.length=k at *;simp only[go_sem,f1];refine Ad AD ?_;simp only[go_sem,f1,w1,F3 qf,F3 qe,qm,lx,ly];refine Ax gc AB ?_;simp only[go_sem,f2];refine Ad AD ?_;simp only[go_sem,w1,F3 qf,F3 qe,qm,lx,ly,r1,p1,qs];refine Id (by repeat (first | exact trivial | refine⟨.inl AH,?_⟩ | refine⟨by rfl,?_⟩ | refine⟨.inr ⟨by rfl,by rfl⟩,?_⟩)) (by repeat (first | exact trivial | refine⟨.inl AH,?_⟩ | refine⟨by rfl,?_⟩ | refine⟨.inr ⟨by rfl,by rfl⟩,?_⟩)) ?_;simp only[go_sem,F3 qe,qp,r2,p2,qt];refine Id (by repeat (first | exact trivial | refine⟨.inl AH,?_⟩ | refine⟨by rfl,?_⟩ | refine⟨.inr ⟨by rfl,by rfl⟩,?_⟩)) (by repeat (first | exact trivial | refine⟨.inl AH,?_⟩ | refine⟨by rfl,?_⟩ | refine⟨.inr ⟨by rfl,by rfl⟩,?_⟩)) ?_;simp only[go_sem,w1];exact Ai nx rfl
set_option maxHeartbeats 2000000 in
def Avr{s:St}(hc:Cl s){i g n a b:Nat}{w:Bool}(hi:i<s.length)(qd:n<=1000)(X L Z:List Ent)(ha:X.length=a)(hb:a+L.length=b)(hn:b+Z.length=n)(hs:∀ e∈L,e.sites.length<=1000):
  ∃ s',Th TT PT 86 [.sl i g 0 n 4 w,iV (a:Int),iV (b:Int),.fn 20 [] []] (Cm s i g (X++(L++Z))) (.tup []) s'/\∃ D:List Ent,D.Perm L/\Ec Dk Ent.ks D/\s'=Cm s i g (X++(D++Z)):=by
 refine Qz T86 rfl ?_ rfl rfl (fun s' h=>by
  obtain⟨D,-,-,rfl⟩:=h
  simp_all [Zw,Aai])
 have w0:IntKind.i64.wrap ((a:Int)+1)=((a+1:Nat):Int):=Aw AA;simp only[go_sem,w0];rw[show X++(L++Z)=X++(L.take 1++(L.drop 1++Z)) by grind[List.take_append_drop]]
 refine Bb (α:=Nat × List Ent) (fun q=>L.length - q.1) (fun q=>[(0,.sl i g 0 n 4 w),(1,iV (a:Int)),(2,iV (b:Int)),(3,.fn 20 [] []),(8,iV ((a+q.1:Nat):Int))]) (fun q=>Cm s i g (X++(q.2++(L.drop q.1++Z))))
  (fun q=>q.2.Perm (L.take q.1)/\Ec Dk Ent.ks q.2) ?_ (1,L.take 1) ⟨.refl _,by
   match L with
   | []=>exact .nil
   | [x]=>exact List.pairwise_singleton _ _
   | x::_::_=>exact List.pairwise_singleton _ _⟩
 rintro⟨j,D⟩ ⟨hp,hl⟩ ih;simp only at hp hl ih;refine Ay Ayb ?_;rcases Az j L.length with h | h;rotate_left
 .have f1:(((a+j:Nat):Int)<(b:Int))=False:=eq_false AA;rw[Ky h]at hp;rw[D4 h,Ct];simp only[go_sem,f1];exact⟨rfl,D,hp,hl,rfl⟩
 have f1:(((a+j:Nat):Int)<(b:Int))=True:=eq_true AA;obtain⟨x,hx,jf,jg⟩:=Bk h;have j1:IntKind.i64.wrap (((a+j:Nat):Int)+1)=((a+(j+1):Nat):Int):=Aw AA;have qY:D.length=j:=by rw[hp.length_eq,Ic];omega
 have js:L.take (j+1)=L.take j++[x]:=by rw[Ld,hx];rfl
 have nx:=fun(D':List Ent) (h1:Ec Dk Ent.ks D') (h2:D'.Perm (L.take j++[x]))=>ih (j+1,D') AA ⟨by grind,h1⟩
 simp only at nx;rw[jf,Mw]
 have qZ:=fun(k0:List It) (Q:Env->St->Prop)=>A2a (s:=s) (i:=i) (g:=g) (n:=n) (a:=a) (b:=b) (ii:=a+j) (w:=w) hi qd (k0:=k0) (Q:=Q) (X:=X) (R:=L.drop (j+1)++Z) (A:=D++[x]) (x:=x) ha (fun e he=>by
  grind)
 subst qY;generalize hR:L.drop (D.length+1)++Z=R at *;simp only[go_sem,f1];refine Ai (qZ _ _ (fun D' j' h1 h2=>?_) D (.refl _) (by grind) hl) rfl;simp only[go_sem,j1];exact Ai (nx D' h1 (h2.trans (hp.append_right _))) rfl
inductive Blk (bs:Nat):List Ent->Prop
 | last {L:List Ent}:L.length<=bs->Ec Dk Ent.ks L->Blk bs L
 | more {A R:List Ent}:A.length=bs->Ec Dk Ent.ks A->Blk bs R->Blk bs (A++R)
def Pre(bs:Nat)(X:List Ent):Prop:=∀ R,Blk bs R->Blk bs (X++R)
def Avs(bs:Nat):Pre bs []:=fun _ h=>h
def Ata{bs:Nat}{X A:List Ent}(h:Pre bs X)(h1:A.length=bs)(h2:Ec Dk Ent.ks A):Pre bs (X++A):=fun R hR=>by
 rw[Dm];exact h _ (.more h1 h2 hR)
def Afc{bs:Nat}{L:List Ent}(h:Blk bs L)(hl:L.length<=bs):Ec Dk Ent.ks L:=by
 cases h with
 | last _ h=>exact h
 | more h1 h2 h3=>
  grind[List.length_eq_zero_iff]
def Aj8{bs:Nat}{L:List Ent}(h:Blk bs L)(hl:bs<L.length):∃ A R,L=A++R/\A.length=bs/\Ec Dk Ent.ks A/\Blk bs R:=by
 cases h with
 | last h1 h=>omega
 | more h1 h2 h3=>grind
def Bc1{bs:Nat}{L:List Ent}(h0:0<bs)(h:Blk bs L)(hl:2*bs<=L.length):∃ A B R,L=A++(B++R)/\A.length=bs/\B.length=bs/\Ec Dk Ent.ks A/\Ec Dk Ent.ks B/\Blk bs R:=by
 obtain⟨A,R,rfl,h1,h2,h3⟩:=Aj8 h AA;rw[Aj]at hl;rcases Az bs R.length with h4 | h4
 .obtain⟨B,R,rfl,h5,h6,h7⟩:=Aj8 h3 h4
  grind
 .exact⟨A,R,[],by simp,h1,by omega,h2,Afc h3 h4,.last AE .nil⟩
set_option maxHeartbeats 8000000 in
def A8k{s:St}(hc:Cl s){i g n:Nat}{w:Bool}(hi:i<s.length)(qd:n<=1000)(L:List Ent)(hn:L.length=n)(hs:∀ e∈L,e.sites.length<=1000):
  ∃ s',Th TT PT 50 [.sl i g 0 n 4 w,iV (n:Int),.fn 20 [] []] (Cm s i g L) (.tup []) s'/\∃ D:List Ent,D.Perm L/\Ec Dk Ent.ks D/\s'=Cm s i g D:=by
 refine Qz T50 rfl ?_ rfl rfl (fun s' h=>by
  obtain⟨D,-,-,rfl⟩:=h
  simp_all [Zw,Aai])
 have qE:∀ D:List Ent,D.Perm L->∀ e∈D,e.sites.length<=1000:=fun D h e he=>hs e (h.mem_iff.1 he)
 simp only[go_sem]
 refine Bb (α:=List Ent × List Ent) (fun q=>q.2.length) (fun q=>[(0,.sl i g 0 n 4 w),(1,iV (n:Int)),(2,.fn 20 [] []),(6,iV 20),(7,iV (q.1.length:Int)),(8,iV ((q.1.length+20:Nat):Int))]) (fun q=>Cm s i g (q.1++q.2))
  (fun q=>(q.1++q.2).Perm L/\Pre 20 q.1) ?_ ([],L) ⟨.refl _,Avs _⟩
 rintro⟨X,Y⟩ ⟨hp,qh⟩ ih;simp only at hp qh ih;have hl:=hp.length_eq;rw[Aj]at hl;refine Ay Ax8 ?_;by_cases h:X.length+20<=n
 .have f1:(((X.length+20:Nat):Int)<=(n:Int))=True:=eq_true AA;obtain⟨Y1,Y2,rfl,hY⟩:∃ Y1 Y2,Y=Y1++Y2/\Y1.length=20:=⟨Y.take 20,Y.drop 20,(Hy ..).symm,by grind⟩;rw[Aj]at hl;obtain⟨s1,h6,C,p1,o1,rfl⟩:=Avr hc (g:=g) (w:=w) (b:=X.length+20) hi qd X Y1 Y2 rfl AA AA (n:=n) (fun e he=>qE _ hp e (by simp[he]));have hC:=p1.length_eq;have w1:IntKind.i64.wrap (((X.length+20:Nat):Int)+20)=((X.length+20+20:Nat):Int):=by rw[Bo AA];omega
  have nx:=ih (X++C,Y2) (by grind) ⟨by
   refine List.Perm.trans ?_ hp;rw[Dm]
   exact(p1.append_right _).append_left _,Ata qh AA o1⟩
  simp only at nx;rw[Aj,show X.length+C.length=X.length+20 by omega,Dm]at nx;generalize X++(Y1++Y2)=D0 at *;generalize X++(C++Y2)=D1 at *;generalize X.length=a at *;simp only[go_sem,f1];refine Bv h6 ?_;simp only[go_sem,w1];exact Ai nx rfl
 have f1:(((X.length+20:Nat):Int)<=(n:Int))=False:=eq_false AA;obtain⟨s1,h6,C,p1,o1,rfl⟩:=Avr hc (g:=g) (w:=w) (b:=n) hi qd X Y [] rfl AA AE (n:=n) (fun e he=>qE _ hp e (by simp[he]));rw[Bz,Bz]at h6;have hC:=p1.length_eq;have qN:Blk 20 (X++C):=qh _ (.last AA o1);have qP:(X++C).Perm L:=(p1.append_left _).trans hp;clear ih;generalize X++Y=D0 at *;generalize X++C=D1 at *;generalize X.length=a at *;simp only[go_sem,f1];refine Bv h6 ?_;simp only[go_sem]
 refine Bb (α:=Nat × List Ent) (fun q=>n - q.1) (fun q=>[(0,.sl i g 0 n 4 w),(1,iV (n:Int)),(2,.fn 20 [] []),(6,iV (q.1:Int))]) (fun q=>Cm s i g q.2)
  (fun q=>20<=q.1/\q.1<=2000/\q.2.Perm L/\Blk q.1 q.2) ?_ (20,D1) ⟨Am _,by omega,qP,qN⟩
 clear h6 qN qP hp qh p1 hC hl;rintro⟨bs,D⟩ ⟨qX,qu,hp,hb⟩ ih;simp only at qX qu hp hb ih;have hl:=hp.length_eq;refine Ay Ax9 ?_;by_cases jo:bs<n;rotate_left
 .have f2:((bs:Int)<(n:Int))=False:=eq_false AA;simp only[go_sem,f2];exact⟨rfl,D,hp,Afc hb AA,rfl⟩
 have f2:((bs:Int)<(n:Int))=True:=eq_true AA;have w2:IntKind.i64.wrap (2*(bs:Int))=((2*bs:Nat):Int):=by rw[Bo AA];omega
 have w4:IntKind.i64.wrap ((bs:Int)*2)=((2*bs:Nat):Int):=by rw[Bo AA];omega
 simp only[go_sem,f2,w2];have e8:((2*bs:Nat):Int)=((([]:List Ent).length+2*bs:Nat):Int):=by simp
 rw[e8]
 refine Bb (α:=List Ent × List Ent) (fun q=>q.2.length) (fun q=>[(0,.sl i g 0 n 4 w),(1,iV (n:Int)),(2,.fn 20 [] []),(6,iV (bs:Int)),(7,iV (q.1.length:Int)),(8,iV ((q.1.length+2*bs:Nat):Int))]) (fun q=>Cm s i g (q.1++q.2))
  (fun q=>(q.1++q.2).Perm L/\Pre (2*bs) q.1/\Blk bs q.2) ?_ ([],D) ⟨hp,Avs _,hb⟩
 clear hp hb hl;rintro⟨X,Y⟩ ⟨hp,qh,hb⟩ jh;simp only at hp qh hb jh;have hl:=hp.length_eq;rw[Aj]at hl;have w3:IntKind.i64.wrap ((X.length:Int)+(bs:Int))=((X.length+bs:Nat):Int):=by rw[Bo AA];omega
 refine Ay Bk5 ?_;by_cases h:X.length+2*bs<=n
 .have f1:(((X.length+2*bs:Nat):Int)<=(n:Int))=True:=eq_true AA;obtain⟨A,B,R,rfl,hA,hB,oA,oB,hR⟩:=Bc1 AA hb AA;rw[Aj,Aj]at hl;obtain⟨s1,h6,C,p1,o1,rfl⟩:=Alb hc (g:=g) (w:=w) hi qd (n:=n) (2*bs) X A B R X.length (X.length+bs) (X.length+2*bs) AA rfl AA AA AA (fun e=>by grind) (fun e=>by grind) oA oB (qE _ hp);have hC:=p1.length_eq;rw[Aj]at hC;have w5:IntKind.i64.wrap (((X.length+2*bs:Nat):Int)+((2*bs:Nat):Int))=((X.length+2*bs+2*bs:Nat):Int):=by rw[Bo AA];omega
  have nx:=jh (X++C,R) (by grind) ⟨by
   refine List.Perm.trans ?_ hp;rw[Dm,<-Dm A]
   exact(p1.append_right _).append_left _,Ata qh AA o1,hR⟩
  simp only at nx;rw[Aj,show X.length+C.length=X.length+2*bs by omega,Dm]at nx;generalize X++(A++(B++R))=D0 at *;generalize X++(C++R)=D1 at *;generalize X.length=a at *;simp only[go_sem,f1,w3];refine Bv h6 ?_;simp only[go_sem,w2,w5];exact Ai nx rfl
 have f1:(((X.length+2*bs:Nat):Int)<=(n:Int))=False:=eq_false AA;by_cases hm:X.length+bs<n
 .have f3:(((X.length+bs:Nat):Int)<(n:Int))=True:=eq_true AA;obtain⟨A,R,rfl,hA,oA,hR⟩:=Aj8 hb AA;rw[Aj]at hl;obtain⟨s1,h6,C,p1,o1,rfl⟩:=Alb hc (g:=g) (w:=w) hi qd (n:=n) (2*bs) X A R [] X.length (X.length+bs) n AA rfl AA AA AE (fun e=>by grind) (fun e=>by grind) oA (Afc hR AA) (by grind);rw[Bz,Bz]at h6;have hC:=p1.length_eq;rw[Aj]at hC;have nx:=ih (2*bs,X++C) AA ⟨by omega,by omega,(p1.append_left _).trans hp,qh _ (.last AA o1)⟩;simp only at nx;generalize X++(A++R)=D0 at *;generalize X++C=D1 at *;generalize X.length=a at *;simp only[go_sem,f1,w3,f3];refine Bv h6 ?_;simp only[go_sem,w4];exact Ai nx rfl
 .have f3:(((X.length+bs:Nat):Int)<(n:Int))=False:=eq_false AA;have nx:=ih (2*bs,X++Y) AA ⟨by omega,by omega,hp,qh _ (.last AA (Afc hb AA))⟩;simp only at nx;generalize X++Y=D0 at *;generalize X.length=a at *;simp only[go_sem,f1,w3,f3,w4];exact Ai nx rfl
