/- Plain: two programs, their lines by threads, their keys. -/
import Derived.Test.YthlbbjcbmojocacGreatDoorUc
set_option linter.all false
namespace Go.Proofs.YthlbbjcbmojocacGreatDoor.KM
open Go
def Hn(p:Gp):List (List UInt8 × List (List UInt8)):=p.thrs.map fun t=>(t.nm,Sp.hdss t.body)
def Jd(p q:Gp):List Int:=H9 (Hn p) (Hn q)
def Ab1:∀ L:List Tp,(Hq (L.map fun t=>(t.nm,Sp.hdss t.body))).length=((L.map fun t=>F1 t.nm [] (Sp.hdss t.body)).flatten).length
 | []=>rfl
 | t::L=>by rw[Bb,Agr,Bb,Dv,Al,Al,Ap,Te,Ab1 L]
def Anb(p q:Gp):(Jd p q).length=(Ig p).length:=by
 unfold Jd;rw[Ags];exact Ab1 p.thrs
def Bt(l:List Int):List V:=l.map fun x=>iV x
def Ut(R:List (List Int)):V:=.lst 0 (R.map fun r=>[.lst 0 (r.map fun x=>[iV x])])
def N1(L:List (Nat × List Int)):List V:=L.map fun p=>.sl p.1 0 0 p.2.length 1 true
def Aol(l:List Int):Bt l=(l.map fun x=>[iV x]).flatten:=by
 induction l with
 | nil=>rfl
 | cons a l ih=>rw[Bb,Dv,<-ih];rfl
def Aq7:∀ l:List V,Fc 1 l.length l=l.map fun x=>[x]
 | []=>rfl
 | a::l=>by rw[Am,Fc,Bb,Aa1,I4,Aq7 l];rfl
def Aml{σ:St}{js:List Nat}{d:Nat}:∀ {L:List (Nat × List Int)},(∀ p∈L,∃ e z,σ[p.1]?=some (.row (Bt p.2) e 0 z))->(∀ p∈L,p.1∈js) ->
  (N1 L).mapM (Fa σ js (d+2))=some (L.map fun p=>.lst 0 (p.2.map fun x=>[iV x]))
 | [],_,_=>rfl
 | p::L,h,hj=>by
  have ih:=Aml (d:=d) (fun q hq=>h q (C4 _ hq)) fun q hq=>hj q (C4 _ hq)
  obtain⟨e,z,ho⟩:=h p C5;have hp:=hj p C5;have h1:=Ud (xs:=p.2.map fun x=>[iV x]) (w:=true) (m:=1) (by rw[<-Aol];exact ho) AA (fun r hr=>by obtain⟨x,-,rfl⟩:=Ct.1 hr;rfl) (fun r hr=>by obtain⟨x,-,rfl⟩:=Ct.1 hr;rfl);have h2:=h1 js (fun i hi=>by simp[V.refs]at hi;rw[hi];exact hp) d;rw[Ap]at h2;unfold N1 at ih ⊢;rw[Bb,H0,h2,ih];rfl
def Ay1{σ:St}{o e z:Nat}{js:List Nat}{d:Nat}{L:List (Nat × List Int)}(ho:σ[o]?=some (.row (N1 L) e 0 z))(h:∀ p∈L,∃ e z,σ[p.1]?=some (.row (Bt p.2) e 0 z))(hj:∀ p∈L,p.1∈js)(qy:o∈js):
  Fa σ js (d+3) (.sl o 0 0 L.length 1 true)=some (Ut (L.map fun p=>p.2)):=by
 have hl:(N1 L).length=L.length:=by unfold N1;rw[Ap]
 have he:js.elem o=true:=by simpa using qy
 unfold Fa;rw[if_neg (by simp[V.rowB])];simp only[he,if_true,ho];rw[if_pos ⟨trivial,by omega,by omega⟩,I4,X0,<-hl,Dc,Aml h hj,Gb];unfold Ut;have qt:(N1 L).length=(L.map fun p=>V.lst 0 (p.2.map fun x=>[iV x])).length:=by rw[hl,Ap]
 rw[qt,Aq7,Na,Na];rfl
def Acm{R:List (List Int)}{i:Nat}{r:List Int}(h:R[i]?=some r):(R.map fun r=>[V.lst 0 (r.map fun x=>[iV x])])[i]?=some [.lst 0 (r.map fun x=>[iV x])]:=by
 rw[Aj,h];rfl
def Aes{r:List Int}{j:Nat}{x:Int}(h:r[j]?=some x):(r.map fun x=>[iV x])[j]?=some [iV x]:=by
 rw[Aj,h];rfl
def A4g{r:List Int}{j:Nat}{x:Int}(h:r[j]?=some x):(Bt r)[j]?=some (iV x):=by
 unfold Bt;rw[Aj,h];rfl
def A4h(r:List Int)(j:Nat)(x:Int):(Bt r).set j (iV x)=Bt (r.set j x):=by
 unfold Bt;rw[Abf]
def Yp(n:Nat):List.replicate n (iV 0)=Bt (List.replicate n 0):=by
 unfold Bt;rw[List.map_replicate]
def Auu{T:Nat->Option AF}{pr:Nat->Option (List V->Option V)}{f p:Nat}{res:List AR}{body:AC}{vs:List V}{R:List (List Int)}(hT:T f=some ⟨p,res,false,body,none⟩)(hl:vs.length=p)
  (h:W T pr [.c body] (Dd 0 vs) [] (Hd fun e' σ1=>∃ (o e z:Nat) (L:List (Nat × List Int)),Cd e' σ1 res=some (.sl o 0 0 L.length 1 true)/\σ1[o]?=some (.row (N1 L) e 0 z)/\(∀ p∈L,∃ e z,σ1[p.1]?=some (.row (Bt p.2) e 0 z))/\(L.map fun p=>p.2)=R)):Fn T pr f vs (Ut R):=by
 obtain⟨e',σ1,hE,o,e,z,L,hr,ho,hL,rfl⟩:=h;refine Ant hT rfl rfl hl ⟨e',σ1,hE,.sl o 0 0 L.length 1 true,o::L.map fun p=>p.1,hr,rfl,?_,rfl,rfl⟩;exact Ay1 (d:=6) ho hL (fun p hp=>C4 _ (Ct.2 ⟨p,hp,rfl⟩)) C5
variable {α:Type} [DecidableEq α]
/-! version.common: the rows from i on are there; row k is object 1 + (n - k) -/
def P9(m b:Nat):V:=.sl b 0 0 (m+1) 1 true
def E7(n m i:Nat):List V:=(List.range (n+1)).map fun k=>if k<i then .nils else P9 m (1+(n - k))
def Fi(s t:List α)(k:Nat):List (List Int):=(List.range k).map fun d=>Gd s t (s.length - d)
def Ga(OT IT n m i:Nat)(R:List (List Int)):St:=.row (E7 n m i) OT 0 0::R.map fun r=>.row (Bt r) IT 0 0
def Acn(n m i:Nat):(E7 n m i).length=n+1:=by unfold E7;simp
def A0y(n m:Nat):(List.replicate (n+1) V.nils).set n (P9 m 1)=E7 n m n:=by
 unfold E7;refine Qt AH fun k h1 h2=>?_
 rw[U2,Jn,Pb];simp at h2;by_cases h:n=k
 .subst h;rw[if_pos rfl,if_neg AA,Gf]
 .rw[if_neg h,if_pos AA,Aaw]
def A4i{n m i:Nat}(hi:i<n):(E7 n m (i+1)).set i (P9 m (1+(n - i)))=E7 n m i:=by
 unfold E7;refine Qt AH fun k h1 h2=>?_
 rw[U2,Jn,Jn,Pb];by_cases h:i=k
 .subst h;rw[if_pos rfl,if_neg AA]
 .rw[if_neg h];by_cases h':k<i
  .rw[if_pos AA,if_pos h']
  .rw[if_neg AA,if_neg h']
def A4j{n m i k:Nat}(h:i<=k)(hk:k<=n):(E7 n m i)[k]?=some (P9 m (1+(n - k))):=by
 unfold E7;rw[Aj,Si AA,Gb,if_neg AA]
def Vm(s t:List α)(k:Nat):(Fi s t k).length=k:=by unfold Fi;simp
def Ay2(s t:List α)(k:Nat):Fi s t k++[Gd s t (s.length - k)]=Fi s t (k+1):=by
 unfold Fi;rw[List.range_succ,Dw,Aa4]
def A83(OT IT n m i:Nat)(R:List (List Int)):(Ga OT IT n m i R).length=1+R.length:=by unfold Ga;simp;omega
def A84(OT IT n m i:Nat)(R:List (List Int))(r:List Int):Ga OT IT n m i R++[.row (Bt r) IT 0 0]=Ga OT IT n m i (R++[r]):=by
 unfold Ga;rw[Dw,Hz];rfl
def Aiv(OT IT n m i:Nat){R:List (List Int)}{k:Nat}{r:List Int}(h:R[k]?=some r):(Ga OT IT n m i R)[1+k]?=some (.row (Bt r) IT 0 0):=by
 unfold Ga;rw[show 1+k=k+1 by omega,Lk,Aj,h];rfl
def A85(OT IT n m i:Nat)(R:List (List Int))(k:Nat)(r:List Int):(Ga OT IT n m i R).set (1+k) (.row (Bt r) IT 0 0)=Ga OT IT n m i (R.set k r):=by
 unfold Ga;rw[show 1+k=k+1 by omega,Xl,Abf]
def Ay3(s t:List α){i:Nat}(hi:i<s.length)(r:List Int):(Fi s t (s.length - i)++[r])[s.length - (i+1)]?=some (Gd s t (i+1)):=by
 rw[B6 (by rw[Vm];omega)];unfold Fi;rw[Aj,Si AA,Gb,show s.length - (s.length - (i+1))=i+1 by omega]
def A0z(s t:List α)(i:Nat)(r:List Int):(Fi s t (s.length - i)++[r])[s.length - i]?=some r:=by
 rw[Co (by rw[Vm];omega),Vm,Gf];rfl
def A00(s t:List α)(i:Nat)(r r':List Int):(Fi s t (s.length - i)++[r]).set (s.length - i) r'=Fi s t (s.length - i)++[r']:=by
 rw[I3 _ _ (by rw[Vm];omega),Vm,Gf];rfl
def Ay4(s t:List α){i:Nat}(hi:i<=s.length):Fi s t (s.length - i)++[Gd s t i]=Fi s t (s.length - i+1):=by
 rw[<-Ay2,show s.length - (s.length - i)=i by omega]
def vL(s t:List α):List (Nat × List Int):=(List.range (s.length+1)).map fun k=>(1+(s.length - k),Gd s t k)
def Bdr(s t:List α):(vL s t).length=s.length+1:=by unfold vL;simp
def Bds(s t:List α):((vL s t).map fun p=>p.2)=J9 s t:=by
 unfold vL J9;rw[Na];rfl
def Bdt(s t:List α):N1 (vL s t)=E7 s.length t.length 0:=by
 unfold N1 vL E7 P9;rw[Na];refine U0 fun k _=>?_
 simp only[Function.comp,Vv];rw[if_neg AA]
def A86(OT IT:Nat)(s t:List α):∀ p∈vL s t,∃ e z,(Ga OT IT s.length t.length 0 (Fi s t (s.length+1)))[p.1]?=some (.row (Bt p.2) e 0 z):=by
 intro p hp;unfold vL at hp;obtain⟨k,hk,rfl⟩:=Ct.1 hp;rw[E1]at hk;refine⟨IT,0,Aiv _ _ _ _ _ ?_⟩;unfold Fi;rw[Aj,Si AA,Gb,show s.length - (s.length - k)=k by omega]
/-! the reference's common: all rows are there; row k is object 1 + k -/
def E8(n m i:Nat):List V:=(List.range (n+1)).map fun k=>if k<i then P9 m (1+k) else .nils
def Ee(s t:List α)(i j:Nat):List (List Int):=(List.range (s.length+1)).map fun k=>if k<i then Dh s t k t.length else if k=i then Dh s t i j else Gd s t k
def D9(OT IT n m i:Nat)(R:List (List Int)):St:=.row (E8 n m i) OT 0 0::R.map fun r=>.row (Bt r) IT 0 0
def Aco(n m i:Nat):(E8 n m i).length=n+1:=by unfold E8;simp
def A01(n m:Nat):E8 n m 0=List.replicate (n+1) V.nils:=by
 unfold E8;refine Qt AH fun k h1 h2=>?_
 rw[Jn,Aaw,if_neg AA]
def A4k{n m i:Nat}(hi:i<=n):(E8 n m i).set i (P9 m (1+i))=E8 n m (i+1):=by
 unfold E8;refine Qt AH fun k h1 h2=>?_
 rw[U2,Jn,Jn,Pb];by_cases h:i=k
 .subst h;rw[if_pos rfl,if_pos AA]
 .rw[if_neg h];by_cases h':k<i
  .rw[if_pos h',if_pos AA]
  .rw[if_neg h',if_neg AA]
def A4l{n m k i:Nat}(hk:k<i)(hn:k<=n):(E8 n m i)[k]?=some (P9 m (1+k)):=by
 unfold E8;rw[Aj,Si AA,Gb,if_pos hk]
def A87(OT IT n m i:Nat)(R:List (List Int)):(D9 OT IT n m i R).length=1+R.length:=by unfold D9;simp;omega
def A88(OT IT n m i:Nat)(R:List (List Int))(r:List Int):D9 OT IT n m i R++[.row (Bt r) IT 0 0]=D9 OT IT n m i (R++[r]):=by
 unfold D9;rw[Dw,Hz];rfl
def Zc(OT IT n m i:Nat){R:List (List Int)}{k:Nat}{r:List Int}(h:R[k]?=some r):(D9 OT IT n m i R)[1+k]?=some (.row (Bt r) IT 0 0):=by
 unfold D9;rw[show 1+k=k+1 by omega,Lk,Aj,h];rfl
def As1(OT IT n m i:Nat)(R:List (List Int))(k:Nat)(r:List Int):(D9 OT IT n m i R).set (1+k) (.row (Bt r) IT 0 0)=D9 OT IT n m i (R.set k r):=by
 unfold D9;rw[show 1+k=k+1 by omega,Xl,Abf]
def A02(s t:List α)(i j:Nat):(Ee s t i j).length=s.length+1:=by unfold Ee;simp
def Ax3(s t:List α):Ee s t s.length 0=List.replicate (s.length+1) (List.replicate (t.length+1) 0):=by
 unfold Ee;refine Qt AH fun k h1 h2=>?_
 rw[Jn,Pb,Aaw];simp at h2;by_cases h:k<s.length
 .rw[if_pos h,Aq1]
 .have e:k=s.length:=by omega
  rw[if_neg h,if_pos e,X9,Aq2]
def Ay5(s t:List α){i:Nat}(hi:i<s.length):Ee s t (i+1) 0=Ee s t i t.length:=by
 unfold Ee;refine U0 fun k _=>?_
 by_cases h:k<i
 .rw[if_pos AA,if_pos h]
 .by_cases h2:k=i
  .subst h2;rw[if_pos AA,if_neg AA,if_pos rfl]
  .by_cases h3:k=i+1
   .subst h3;rw[if_neg AA,if_pos rfl,if_neg AA,if_neg AA,X9]
   .rw[if_neg AA,if_neg h3,if_neg h,if_neg h2]
def A03(s t:List α){i j:Nat}(hi:i<=s.length):(Ee s t i j)[i]?=some (Dh s t i j):=by
 unfold Ee;rw[Aj,Si AA,Gb,if_neg AA,if_pos rfl]
def Ay6(s t:List α){i j:Nat}(hi:i<s.length):(Ee s t i j)[i+1]?=some (Gd s t (i+1)):=by
 unfold Ee;rw[Aj,Si AA,Gb,if_neg AA,if_neg AA]
def Aom(s t:List α){i j:Nat}(hi:i<=s.length)(hj:j<t.length):(Ee s t i (j+1)).set i ((Dh s t i (j+1)).set j (Ce s t i j:Int))=Ee s t i j:=by
 rw[Vw s t hj];unfold Ee;refine Qt AH fun k h1 h2=>?_
 rw[U2,Jn,Jn,Pb];by_cases h:i=k
 .subst h;rw[if_pos rfl,if_neg AA,if_pos rfl]
 .rw[if_neg h];by_cases h':k<i
  .rw[if_pos h',if_pos h']
  .rw[if_neg h',if_neg h',if_neg (Ne.symm h),if_neg (Ne.symm h)]
def Ay7(s t:List α):Ee s t 0 0=J9 s t:=by
 unfold Ee J9;refine U0 fun k _=>?_
 rw[if_neg AA]
 split
 .rename_i h;rw[h,X9]
 .rfl
def rL(s t:List α):List (Nat × List Int):=(List.range (s.length+1)).map fun k=>(1+k,Gd s t k)
def Bdu(s t:List α):(rL s t).length=s.length+1:=by unfold rL;simp
def Bdv(s t:List α):((rL s t).map fun p=>p.2)=J9 s t:=by
 unfold rL J9;rw[Na];rfl
def Bdw(s t:List α):N1 (rL s t)=E8 s.length t.length (s.length+1):=by
 unfold N1 rL E8 P9;rw[Na];refine U0 fun k hk=>?_
 rw[E1]at hk;simp only[Function.comp,Vv];rw[if_pos hk]
def A89(OT IT i:Nat)(s t:List α):∀ p∈rL s t,∃ e z,(D9 OT IT s.length t.length i (J9 s t))[p.1]?=some (.row (Bt p.2) e 0 z):=by
 intro p hp;unfold rL at hp;obtain⟨k,hk,rfl⟩:=Ct.1 hp;rw[E1]at hk;exact⟨IT,0,Zc _ _ _ _ _ (Yn s t AA)⟩
def tk1{l:List V}{i:Nat}{x:V}(h:l[i]?=some x):List.take 1 (List.drop i l)=[x]:=by
 obtain⟨h1,h2⟩:=Ak.1 h;rw[Fd h1,h2];rfl
def tds{l:List V}{i:Nat}(h:i<l.length)(x:V):List.take i l++x::List.drop (i+1) l=l.set i x:=by
 rw[List.set_eq_take_append_cons_drop,if_pos h]
def Vn(n:Nat)(v:V):(List.replicate n [v]).flatten=List.replicate n v:=by
 induction n with
 | zero=>rfl
 | succ n ih=>rw[Xj,Dv,ih];rfl
def Lq(l:List Int):(Bt l).length=l.length:=by unfold Bt;rw[Ap]
def Tu{l:List Int}{i:Nat}{x:Int}(h:l[i]?=some x):List.take 1 (List.drop i (Bt l))=[iV x]:=tk1 (A4g h)
def Vy{l:List Int}{i:Nat}(h:i<l.length)(x:Int):List.take i (Bt l)++iV x::List.drop (i+1) (Bt l)=Bt (l.set i x):=by
 rw[tds (by rw[Lq];exact h),A4h]
def A04{n m i:Nat}(hi:i<n):List.take i (E7 n m (i+1))++V.sl (1+(n - i)) 0 0 (m+1) 1 true::List.drop (i+1) (E7 n m (i+1))=E7 n m i:=by
 rw[tds (by rw[Acn];omega)];exact A4i hi
def As2{n m i k:Nat}(h:i<=k)(hk:k<=n):List.take 1 (List.drop k (E7 n m i))=[.sl (1+(n - k)) 0 0 (m+1) 1 true]:=tk1 (A4j h hk)
def A05(X Y:List (List UInt8))(OT IT:Nat):([.row (E7 X.length Y.length X.length) OT 0 0,.row (List.replicate (Y.length+1) (iV 0)) IT 0 0]:St)=Ga OT IT X.length Y.length X.length (Fi X Y (X.length - X.length+1)):=by
 rw[Gf];unfold Ga Fi;rw[E3,List.range_one,Aa4,Aa4,U9,Aq2,Yp]
def A4m(X Y:List (List UInt8))(OT IT i:Nat)(hi:i<X.length):(Ga OT IT X.length Y.length (i+1) (Fi X Y (X.length - i))++[Ob.row (List.replicate (Y.length+1) (iV 0)) IT 0 0]).set 0 (.row (E7 X.length Y.length i) OT 0 0)=Ga OT IT X.length Y.length i (Fi X Y (X.length - i)++[Dh X Y i Y.length]):=by
 rw[Yp,A84,Aq1];rfl
set_option maxHeartbeats 4000000 in
def Ay8(z1 z2:Bool)(t1 t2:Nat)(X Y:List (List UInt8))(hX:X.length<=1000000)(hY:Y.length<=1000000):Fn TT PT 82 [SL z1 t1 (X.map fun x=>[V.str x]),SL z2 t2 (Y.map fun x=>[V.str x])] (Ut (J9 X Y)):=by
 refine Auu T82 rfl ?_;have qf:(X.map fun x=>[V.str x]).length=X.length:=Ap ..;have qd:(Y.map fun x=>[V.str x]).length=Y.length:=Ap ..;obtain⟨N,hN⟩:∃ N,N=X.length+1:=⟨_,rfl⟩;obtain⟨M,hM⟩:∃ M,M=Y.length+1:=⟨_,rfl⟩;have w1:IntKind.i64.wrap ((X.length:Int)+1)=(N:Int):=by rw[hN];exact A2 AA
 have w2:IntKind.i64.wrap ((Y.length:Int)+1)=(M:Int):=by rw[hM];exact A2 AA
 have w3:IntKind.i64.wrap ((X.length:Int) - 1)=(X.length:Int) - 1:=Ch AA;have w4:IntKind.i64.wrap ((Y.length:Int) - 1)=(Y.length:Int) - 1:=Ch AA;have a1:(0<=(N:Int))=True:=eq_true AA;have a2:((N:Int)<=(N:Int))=True:=eq_true (Sy _);have a3:(N*24<=140737488355328)=True:=eq_true AA;have b1:(0<=(M:Int))=True:=eq_true AA;have b2:((M:Int)<=(M:Int))=True:=eq_true (Sy _);have b3:(M*8<=140737488355328)=True:=eq_true AA;have c1:(0<=(X.length:Int))=True:=eq_true AA;have c2:((X.length:Int)<(N:Int))=True:=eq_true AA;have c3:∀ n:Nat,(0<=n)=True:=fun n=>eq_true (Au n)
 have c4:(X.length+1<=(List.replicate N V.nils).length)=True:=eq_true (by rw[Se];omega)
 have e1:List.take X.length (List.replicate N V.nils)++V.sl 1 0 0 M 1 true::List.drop (X.length+1) (List.replicate N V.nils)=E7 X.length Y.length X.length:=by
  rw[tds (by rw[Se];omega),hN,hM];exact A0y _ _
 simp only[go_sem,qf,qd,w1,w2,w3,a1,a2,a3,b1,b2,b3,c1,c2,c3,c4,Vn,e1];rw[hM,A05 X Y];refine Bn (α:=Nat) (fun i=>i) (fun i=>[(0,SL z1 t1 (X.map fun x=>[V.str x])),(1,SL z2 t2 (Y.map fun x=>[V.str x])),(5,.sl 0 0 0 N 1 true),(6,iV ((i:Int) - 1))]) (fun i=>Ga 56 3 X.length Y.length i (Fi X Y (X.length - i+1))) (fun i=>i<=X.length) ?_ X.length (Ai _);intro i hi ih;refine Bl Bht ?_
 cases i with
 | zero=>
  have d0:decide ((0:Int)<=0 - 1)=false:=by decide
  simp only[go_sem,d0];unfold Hd;refine⟨0,56,0,vL X Y,?_,?_,?_,Bds X Y⟩
  .rw[Bdr,<-hN];rfl
  .rw[Bdt];rfl
  .have:=A86 56 3 X Y;simpa using this
 | succ i=>
 have qa:i<X.length:=hi;have q1:(((i+1:Nat):Int) - 1)=(i:Int):=by omega
 have q2:X.length - (i+1)+1=X.length - i:=by omega
 have d0:decide ((0:Int)<=(i:Int))=true:=by simp
 simp only[q1,q2];generalize hs:Ga 56 3 X.length Y.length (i+1) (Fi X Y (X.length - i))=s;have qu:s.length=1+(X.length - i):=by rw[<-hs,A83,Vm]
 have k0:(s++[Ob.row (List.replicate M (iV 0)) 3 0 0])[0]?=some (.row (E7 X.length Y.length (i+1)) 56 0 0):=by rw[<-hs];rfl
 have g1:(0<=(i:Int))=True:=eq_true AA;have g2:((i:Int)<(N:Int))=True:=eq_true AA;have g3:(i+1<=(E7 X.length Y.length (i+1)).length)=True:=eq_true (by rw[Acn];omega);have e2:List.take i (E7 X.length Y.length (i+1))++V.sl (1+(X.length - i)) 0 0 M 1 true::List.drop (i+1) (E7 X.length Y.length (i+1))=E7 X.length Y.length i:=by rw[hM];exact A04 qa
 have e3:(s++[Ob.row (List.replicate M (iV 0)) 3 0 0]).set 0 (.row (E7 X.length Y.length i) 56 0 0)=Ga 56 3 X.length Y.length i (Fi X Y (X.length - i)++[Dh X Y i Y.length]):=by rw[<-hs,hM];exact A4m X Y _ _ i qa
 simp only[go_sem,d0,qd,w2,w4,b1,b2,b3,c3,qu,k0,g1,g2,g3,Vn,e2,e3];refine Bn (α:=Nat) (fun j=>j) (fun j=>[(0,SL z1 t1 (X.map fun x=>[V.str x])),(1,SL z2 t2 (Y.map fun x=>[V.str x])),(5,.sl 0 0 0 N 1 true),(6,iV (i:Int)),(7,iV ((j:Int) - 1))]) (fun j=>Ga 56 3 X.length Y.length i (Fi X Y (X.length - i)++[Dh X Y i j])) (fun j=>j<=Y.length) ?_ Y.length (Ai _);intro j hj jh;refine Bl Bhs ?_
 cases j with
 | zero=>
  have d0:decide ((0:Int)<=0 - 1)=false:=by decide
  have w5:IntKind.i64.wrap ((i:Int) - 1)=(i:Int) - 1:=Ch AA;simp only[go_sem,d0,w5];rw[X9,Ay4 X Y (N6 qa)];exact As (ih i AA AA) rfl
 | succ j=>
 have qc:j<Y.length:=hj;have q3:(((j+1:Nat):Int) - 1)=(j:Int):=by omega
 have d1:decide ((0:Int)<=(j:Int))=true:=by simp
 have qj:=jh j (Af1 j) AA;simp only[q3];obtain⟨x,hx,-,-⟩:=By qa;obtain⟨y,hy,-,-⟩:=By qc;have ql:X[i]=x/\Y[j]=y:=⟨(Ak.1 hx).2,(Ak.1 hy).2⟩;have qe:=A8y X Y qa qc;rw[ql.1,ql.2]at qe;have l1:=Adc X Y (i+1) (j+1);have r0:(Ga 56 3 X.length Y.length i (Fi X Y (X.length - i)++[Dh X Y i (j+1)]))[1+(X.length - i)]?=some (.row (Bt (Dh X Y i (j+1))) 3 0 0):=Aiv _ _ _ _ _ (A0z X Y i _);have r1:(Ga 56 3 X.length Y.length i (Fi X Y (X.length - i)++[Dh X Y i (j+1)]))[1+(X.length - (i+1))]?=some (.row (Bt (Gd X Y (i+1))) 3 0 0):=Aiv _ _ _ _ _ (Ay3 X Y qa _);have r2:(Ga 56 3 X.length Y.length i (Fi X Y (X.length - i)++[Dh X Y i (j+1)]))[0]?=some (.row (E7 X.length Y.length i) 56 0 0):=rfl;have e4:(Ga 56 3 X.length Y.length i (Fi X Y (X.length - i)++[Dh X Y i (j+1)])).set (1+(X.length - i)) (.row (Bt (Dh X Y i j)) 3 0 0)=Ga 56 3 X.length Y.length i (Fi X Y (X.length - i)++[Dh X Y i j]):=by rw[A85,A00]
 rw[<-e4]at qj;generalize Ga 56 3 X.length Y.length i (Fi X Y (X.length - i)++[Dh X Y i (j+1)])=s2 at *;have o1:List.take 1 (List.drop i (E7 X.length Y.length i))=[.sl (1+(X.length - i)) 0 0 M 1 true]:=by rw[hM];exact As2 (Ai _) AA
 have o2:List.take 1 (List.drop (i+1) (E7 X.length Y.length i))=[.sl (1+(X.length - (i+1))) 0 0 M 1 true]:=by rw[hM];exact As2 AA AA
 have o3:(i+1<=(E7 X.length Y.length i).length)=True:=eq_true (by rw[Acn];omega);have o4:(i+1+1<=(E7 X.length Y.length i).length)=True:=eq_true (by rw[Acn];omega);have i1:IntKind.i64.wrap ((i:Int)+1)=((i+1:Nat):Int):=A2 AA;have i2:(0<=((i+1:Nat):Int))=True:=eq_true AA;have i3:(((i+1:Nat):Int)<(N:Int))=True:=eq_true AA;have j0:(0<=(j:Int))=True:=eq_true AA;have j1:IntKind.i64.wrap ((j:Int)+1)=((j+1:Nat):Int):=A2 AA;have j2:(0<=((j+1:Nat):Int))=True:=eq_true AA;have j3:(((j+1:Nat):Int)<(M:Int))=True:=eq_true AA;have j4:((j:Int)<(M:Int))=True:=eq_true AA;have j5:IntKind.i64.wrap ((j:Int) - 1)=(j:Int) - 1:=Ch AA;have m1:(j+1<=(Bt (Dh X Y i (j+1))).length)=True:=eq_true (by rw[Lq,Q6];omega);have m2:(j+1+1<=(Bt (Dh X Y i (j+1))).length)=True:=eq_true (by rw[Lq,Q6];omega);have m3:(j+1+1<=(Bt (Gd X Y (i+1))).length)=True:=eq_true (by rw[Lq,Vv];omega);have m4:(j+1<=(Bt (Gd X Y (i+1))).length)=True:=eq_true (by rw[Lq,Vv];omega);have n1:=Tu (Q7 X Y (i:=i+1) (k:=j+1) qc);have n2:=Tu (Q7 X Y (i:=i+1) (k:=j) (N6 qc));have n3:=Tu (Ah0 X Y (i:=i) (j:=j+1) (k:=j+1) qc (Ai _));have e5:List.take j (Bt (Dh X Y i (j+1)))++iV (Ce X Y i j:Int)::List.drop (j+1) (Bt (Dh X Y i (j+1)))=Bt (Dh X Y i j):=by rw[Vy (by rw[Q6];omega),Vw X Y qc]
 by_cases e:x=y
 .rw[if_pos e]at qe;have f1:(x==y)=true:=by simp[e]
  have f2:IntKind.i64.wrap (1+((Ce X Y (i+1) (j+1):Nat):Int))=((Ce X Y i j:Nat):Int):=by rw[qe,Ch AA];rfl
  simp only[go_sem,d1];refine Ag AE ?_;simp only[go_sem,Aj,hx,hy];simp only[go_sem,f1];refine Ag AE ?_;simp only[go_sem,r0,r1,r2,o1,o2,o3,o4,g1,g2,i1,i2,i3,j0,j1,j2,j3,j4,m1,m2,m3,m4,n1,n2,n3,c3];simp only[go_sem,f2,r0,m1,e5,c3];refine Tm (by repeat (first | exact trivial | refine⟨.inl (by rfl),?_⟩ | refine⟨by rfl,?_⟩ | refine⟨.inr ⟨by rfl,by rfl⟩,?_⟩)) (by repeat (first | exact trivial | refine⟨.inl (by rfl),?_⟩ | refine⟨by rfl,?_⟩ | refine⟨.inr ⟨by rfl,by rfl⟩,?_⟩)) ?_;simp only[go_sem,j5];exact As qj rfl
 .rw[if_neg e]at qe;have f1:(x==y)=false:=by simp[e]
  have f2:max ((Ce X Y (i+1) j:Nat):Int) ((Ce X Y i (j+1):Nat):Int)=((Ce X Y i j:Nat):Int):=by rw[qe];omega
  simp only[go_sem,d1];refine Ag AE ?_;simp only[go_sem,Aj,hx,hy];simp only[go_sem,f1];refine Ag AE ?_;simp only[go_sem,r0,r1,r2,o1,o2,o3,o4,g1,g2,i1,i2,i3,j0,j1,j2,j3,j4,m1,m2,m3,m4,n1,n2,n3,c3];simp only[go_sem,f2,r0,m1,e5,c3];refine Tm (by repeat (first | exact trivial | refine⟨.inl (by rfl),?_⟩ | refine⟨by rfl,?_⟩ | refine⟨.inr ⟨by rfl,by rfl⟩,?_⟩)) (by repeat (first | exact trivial | refine⟨.inl (by rfl),?_⟩ | refine⟨by rfl,?_⟩ | refine⟨.inr ⟨by rfl,by rfl⟩,?_⟩)) ?_;simp only[go_sem,j5];exact As qj rfl
/-! the reference's table -/
def A06{n m i:Nat}(hi:i<=n):List.take i (E8 n m i)++V.sl (1+i) 0 0 (m+1) 1 true::List.drop (i+1) (E8 n m i)=E8 n m (i+1):=by
 rw[tds (by rw[Aco];omega)];exact A4k hi
def As3{n m i k:Nat}(h:k<i)(hk:k<=n):List.take 1 (List.drop k (E8 n m i))=[.sl (1+k) 0 0 (m+1) 1 true]:=tk1 (A4l h hk)
def A4n(OT IT n m M k:Nat):(D9 OT IT n m k (List.replicate k (List.replicate M 0))++[Ob.row (List.replicate M (iV 0)) IT 0 0]).set 0 (.row (E8 n m (k+1)) OT 0 0)=D9 OT IT n m (k+1) (List.replicate (k+1) (List.replicate M 0)):=by
 rw[Yp,A88,<-List.replicate_succ'];rfl
set_option maxHeartbeats 4000000 in
def Ay9(z1 z2:Bool)(t1 t2:Nat)(X Y:List (List UInt8))(hX:X.length<=1000000)(hY:Y.length<=1000000):Fn TT PT 96 [SL z1 t1 (X.map fun x=>[V.str x]),SL z2 t2 (Y.map fun x=>[V.str x])] (Ut (J9 X Y)):=by
 refine Auu T96 rfl ?_;have qf:(X.map fun x=>[V.str x]).length=X.length:=Ap ..;have qd:(Y.map fun x=>[V.str x]).length=Y.length:=Ap ..;obtain⟨N,hN⟩:∃ N,N=X.length+1:=⟨_,rfl⟩;obtain⟨M,hM⟩:∃ M,M=Y.length+1:=⟨_,rfl⟩;have w1:IntKind.i64.wrap ((X.length:Int)+1)=(N:Int):=by rw[hN];exact A2 AA
 have w2:IntKind.i64.wrap ((Y.length:Int)+1)=(M:Int):=by rw[hM];exact A2 AA
 have w3:IntKind.i64.wrap ((X.length:Int) - 1)=(X.length:Int) - 1:=Ch AA;have w4:IntKind.i64.wrap ((Y.length:Int) - 1)=(Y.length:Int) - 1:=Ch AA;have a1:(0<=(N:Int))=True:=eq_true AA;have a2:((N:Int)<=(N:Int))=True:=eq_true (Sy _);have a3:(N*24<=140737488355328)=True:=eq_true AA;have b1:(0<=(M:Int))=True:=eq_true AA;have b2:((M:Int)<=(M:Int))=True:=eq_true (Sy _);have b3:(M*8<=140737488355328)=True:=eq_true AA;have c3:∀ n:Nat,(0<=n)=True:=fun n=>eq_true (Au n)
 have qz:([.row (List.replicate N V.nils) 56 0 0]:St)=D9 56 3 X.length Y.length 0 (List.replicate 0 (List.replicate M 0)):=by
  unfold D9;rw[A01,hN];rfl
 simp only[go_sem,qf,w1,a1,a2,a3,Vn];rw[qz];refine Bn (α:=Nat) (fun k=>N - k) (fun k=>[(0,SL z1 t1 (X.map fun x=>[V.str x])),(1,SL z2 t2 (Y.map fun x=>[V.str x])),(5,.sl 0 0 0 N 1 true),(14,iV (N:Int)),(15,iV (k:Int))]) (fun k=>D9 56 3 X.length Y.length k (List.replicate k (List.replicate M 0))) (fun k=>k<=N) ?_ 0 (Au _);intro k hk kh;refine Bl Bhv ?_;rcases Be k N with qb | qb
 .generalize hs:D9 56 3 X.length Y.length k (List.replicate k (List.replicate M 0))=s;have qu:s.length=1+k:=by rw[<-hs,A87,Se]
  have k0:(s++[Ob.row (List.replicate M (iV 0)) 3 0 0])[0]?=some (.row (E8 X.length Y.length k) 56 0 0):=by rw[<-hs];rfl
  have g1:(0<=(k:Int))=True:=eq_true AA;have g2:((k:Int)<(N:Int))=True:=eq_true AA;have g3:(k+1<=(E8 X.length Y.length k).length)=True:=eq_true (by rw[Aco];omega);have e2:List.take k (E8 X.length Y.length k)++V.sl (1+k) 0 0 M 1 true::List.drop (k+1) (E8 X.length Y.length k)=E8 X.length Y.length (k+1):=by rw[hM];exact A06 AA
  have e3:(s++[Ob.row (List.replicate M (iV 0)) 3 0 0]).set 0 (.row (E8 X.length Y.length (k+1)) 56 0 0)=D9 56 3 X.length Y.length (k+1) (List.replicate (k+1) (List.replicate M 0)):=by rw[<-hs];exact A4n _ _ _ _ _ k
  simp only[go_sem,A0 qb,qd,w2,b1,b2,b3,c3,qu,k0,g1,g2,g3,Vn,e2,e3,A2 (show k<9223372036854775807 by omega)];exact As (kh (k+1) AA qb) rfl
 obtain rfl:k=N:=by omega
 clear kh;simp only[go_sem,Bq qb,qf,w3];rw[show List.replicate k (List.replicate M (0:Int))=Ee X Y X.length 0 by rw[Ax3,hN,hM],hN];refine Bn (α:=Nat) (fun i=>i) (fun i=>[(0,SL z1 t1 (X.map fun x=>[V.str x])),(1,SL z2 t2 (Y.map fun x=>[V.str x])),(5,.sl 0 0 0 (X.length+1) 1 true),(7,iV ((i:Int) - 1))]) (fun i=>D9 56 3 X.length Y.length (X.length+1) (Ee X Y i 0)) (fun i=>i<=X.length) ?_ X.length (Ai _);intro i hi ih;refine Bl Bhx ?_
 cases i with
 | zero=>
  have d0:decide ((0:Int)<=0 - 1)=false:=by decide
  rw[Ay7];simp only[go_sem,d0];unfold Hd;refine⟨0,56,0,rL X Y,?_,?_,A89 _ _ _ X Y,Bdv X Y⟩
  .rw[Bdu];rfl
  .rw[Bdw];rfl
 | succ i=>
 have qa:i<X.length:=hi;have q1:(((i+1:Nat):Int) - 1)=(i:Int):=by omega
 have d0:decide ((0:Int)<=(i:Int))=true:=by simp
 have g1:(0<=(i:Int))=True:=eq_true AA;have g2:((i:Int)<((X.length+1:Nat):Int))=True:=eq_true AA;simp only[q1];rw[Ay5 X Y qa];simp only[go_sem,d0,qd,w4];refine Bn (α:=Nat) (fun j=>j) (fun j=>[(0,SL z1 t1 (X.map fun x=>[V.str x])),(1,SL z2 t2 (Y.map fun x=>[V.str x])),(5,.sl 0 0 0 (X.length+1) 1 true),(7,iV (i:Int)),(8,iV ((j:Int) - 1))]) (fun j=>D9 56 3 X.length Y.length (X.length+1) (Ee X Y i j)) (fun j=>j<=Y.length) ?_ Y.length (Ai _);intro j hj jh;refine Bl Bhw ?_
 cases j with
 | zero=>
  have d0:decide ((0:Int)<=0 - 1)=false:=by decide
  have w5:IntKind.i64.wrap ((i:Int) - 1)=(i:Int) - 1:=Ch AA;simp only[go_sem,d0,w5];exact As (ih i AA AA) rfl
 | succ j=>
 have qc:j<Y.length:=hj;have q3:(((j+1:Nat):Int) - 1)=(j:Int):=by omega
 have d1:decide ((0:Int)<=(j:Int))=true:=by simp
 have qj:=jh j (Af1 j) AA;simp only[q3];obtain⟨x,hx,-,-⟩:=By qa;obtain⟨y,hy,-,-⟩:=By qc;have ql:X[i]=x/\Y[j]=y:=⟨(Ak.1 hx).2,(Ak.1 hy).2⟩;have qe:=A4a X Y qa qc;rw[ql.1,ql.2]at qe;have l1:=Adc X Y (i+1) (j+1);obtain⟨v1,qv⟩:∃ v1:Int,max ((Ce X Y (i+1) j:Nat):Int) ((Ce X Y i (j+1):Nat):Int)=v1:=⟨_,rfl⟩;obtain⟨R1,qm⟩:∃ R1:List Int,R1=(Dh X Y i (j+1)).set j v1:=⟨_,rfl⟩;have qx:R1.length=Y.length+1:=by rw[qm,Hi,Q6]
 have qq:R1[j]?=some v1:=by rw[qm,B5 (by rw[Q6];omega)]
 have qr:=A03 X Y (i:=i) (j:=j+1) (N6 qa);have qh:=Ay6 X Y (j:=j+1) qa;have qB:=A02 X Y i (j+1);have r0:(D9 56 3 X.length Y.length (X.length+1) (Ee X Y i (j+1)))[1+i]?=some (.row (Bt (Dh X Y i (j+1))) 3 0 0):=Zc _ _ _ _ _ qr;have r1:(D9 56 3 X.length Y.length (X.length+1) (Ee X Y i (j+1)))[1+(i+1)]?=some (.row (Bt (Gd X Y (i+1))) 3 0 0):=Zc _ _ _ _ _ qh;have r2:(D9 56 3 X.length Y.length (X.length+1) (Ee X Y i (j+1)))[0]?=some (.row (E8 X.length Y.length (X.length+1)) 56 0 0):=rfl;have e4:(D9 56 3 X.length Y.length (X.length+1) (Ee X Y i (j+1))).set (1+i) (.row (Bt R1) 3 0 0)=D9 56 3 X.length Y.length (X.length+1) ((Ee X Y i (j+1)).set i R1):=by rw[As1]
 have s0:(D9 56 3 X.length Y.length (X.length+1) ((Ee X Y i (j+1)).set i R1))[1+i]?=some (.row (Bt R1) 3 0 0):=Zc _ _ _ _ _ (by rw[B5 AA]);have s1:(D9 56 3 X.length Y.length (X.length+1) ((Ee X Y i (j+1)).set i R1))[1+(i+1)]?=some (.row (Bt (Gd X Y (i+1))) 3 0 0):=Zc _ _ _ _ _ (by rw[Bh AA];exact qh);have s2:(D9 56 3 X.length Y.length (X.length+1) ((Ee X Y i (j+1)).set i R1))[0]?=some (.row (E8 X.length Y.length (X.length+1)) 56 0 0):=rfl
 have e6:(D9 56 3 X.length Y.length (X.length+1) ((Ee X Y i (j+1)).set i R1)).set (1+i) (.row (Bt (Dh X Y i j)) 3 0 0)=D9 56 3 X.length Y.length (X.length+1) (Ee X Y i j):=by
  rw[As1,Qv,<-Aom X Y (N6 qa) qc,Vw X Y qc]
 have e7:R1=Dh X Y i j->D9 56 3 X.length Y.length (X.length+1) ((Ee X Y i (j+1)).set i R1)=D9 56 3 X.length Y.length (X.length+1) (Ee X Y i j):=fun h=>by
  rw[h,<-Vw X Y qc,Aom X Y (N6 qa) qc]
 generalize D9 56 3 X.length Y.length (X.length+1) ((Ee X Y i (j+1)).set i R1)=s3 at *;generalize D9 56 3 X.length Y.length (X.length+1) (Ee X Y i (j+1))=s4 at *;have o1:List.take 1 (List.drop i (E8 X.length Y.length (X.length+1)))=[.sl (1+i) 0 0 M 1 true]:=by rw[hM];exact As3 AA AA
 have o2:List.take 1 (List.drop (i+1) (E8 X.length Y.length (X.length+1)))=[.sl (1+(i+1)) 0 0 M 1 true]:=by rw[hM];exact As3 AA AA
 have o3:(i+1<=(E8 X.length Y.length (X.length+1)).length)=True:=eq_true (by rw[Aco];omega);have o4:(i+1+1<=(E8 X.length Y.length (X.length+1)).length)=True:=eq_true (by rw[Aco];omega);generalize E8 X.length Y.length (X.length+1)=O at *;have i1:IntKind.i64.wrap ((i:Int)+1)=((i+1:Nat):Int):=A2 AA;have i2:(0<=((i+1:Nat):Int))=True:=eq_true AA;have i3:(((i+1:Nat):Int)<((X.length+1:Nat):Int))=True:=eq_true AA;have j0:(0<=(j:Int))=True:=eq_true AA;have j1:IntKind.i64.wrap ((j:Int)+1)=((j+1:Nat):Int):=A2 AA;have j2:(0<=((j+1:Nat):Int))=True:=eq_true AA;have j3:(((j+1:Nat):Int)<(M:Int))=True:=eq_true AA;have j4:((j:Int)<(M:Int))=True:=eq_true AA;have j5:IntKind.i64.wrap ((j:Int) - 1)=(j:Int) - 1:=Ch AA;have m1:(j+1<=(Bt (Dh X Y i (j+1))).length)=True:=eq_true (by rw[Lq,Q6];omega);have m2:(j+1+1<=(Bt (Dh X Y i (j+1))).length)=True:=eq_true (by rw[Lq,Q6];omega);have m3:(j+1+1<=(Bt (Gd X Y (i+1))).length)=True:=eq_true (by rw[Lq,Vv];omega);have m4:(j+1<=(Bt (Gd X Y (i+1))).length)=True:=eq_true (by rw[Lq,Vv];omega);have m5:(j+1<=(Bt R1).length)=True:=eq_true (by rw[Lq];omega);have n1:=Tu (Q7 X Y (i:=i+1) (k:=j+1) qc);have n2:=Tu (Q7 X Y (i:=i+1) (k:=j) (N6 qc));have n3:=Tu (Ah0 X Y (i:=i) (j:=j+1) (k:=j+1) qc (Ai _));have n4:=Tu qq;have e5:List.take j (Bt (Dh X Y i (j+1)))++iV v1::List.drop (j+1) (Bt (Dh X Y i (j+1)))=Bt R1:=by rw[Vy (by rw[Q6];omega),qm]
 have e8:List.take j (Bt R1)++iV (Ce X Y i j:Int)::List.drop (j+1) (Bt R1)=Bt (Dh X Y i j):=by rw[Vy AA,qm,Qv,Vw X Y qc]
 simp only[go_sem,d1];refine Ag AE ?_;simp only[go_sem,r0,r1,r2,o1,o2,o3,o4,g1,g2,i1,i2,i3,j0,j1,j2,j3,j4,m1,m2,m3,m4,n1,n2,n3,c3];simp only[go_sem,qv,r0,m1,e5,e4,c3];refine Tm (by repeat (first | exact trivial | refine⟨.inl (by rfl),?_⟩ | refine⟨by rfl,?_⟩ | refine⟨.inr ⟨by rfl,by rfl⟩,?_⟩)) (by repeat (first | exact trivial | refine⟨.inl (by rfl),?_⟩ | refine⟨by rfl,?_⟩ | refine⟨.inr ⟨by rfl,by rfl⟩,?_⟩)) ?_;simp only[go_sem];by_cases e:x=y
 .rw[if_pos e]at qe;have f1:(x==y)=true:=by simp[e]
  have f2:IntKind.i64.wrap (1+((Ce X Y (i+1) (j+1):Nat):Int))=((1+Ce X Y (i+1) (j+1):Nat):Int):=by rw[Ch AA];rfl
  have f3:max v1 ((1+Ce X Y (i+1) (j+1):Nat):Int)=((Ce X Y i j:Nat):Int):=by rw[<-qv,qe];omega
  refine Ag AE ?_;simp only[go_sem,Aj,hx,hy];simp only[go_sem,f1];refine Ag AE ?_;simp only[go_sem,s0,s1,s2,o1,o2,o3,o4,g1,g2,i1,i2,i3,j0,j1,j2,j3,j4,m3,m5,n1,n4,c3];simp only[go_sem,f2,f3,s0,m5,e8,e6,c3];refine Tm (by repeat (first | exact trivial | refine⟨.inl (by rfl),?_⟩ | refine⟨by rfl,?_⟩ | refine⟨.inr ⟨by rfl,by rfl⟩,?_⟩)) (by repeat (first | exact trivial | refine⟨.inl (by rfl),?_⟩ | refine⟨by rfl,?_⟩ | refine⟨.inr ⟨by rfl,by rfl⟩,?_⟩)) ?_;simp only[go_sem,j5];exact As qj rfl
 .rw[if_neg e]at qe;have f1:(x==y)=false:=by simp[e]
  have qA:v1=((Ce X Y i j:Nat):Int):=by rw[<-qv,qe];omega
  rw[<-e7 (by rw[qm,qA,Vw X Y qc])]at qj;refine Ag AE ?_;simp only[go_sem,Aj,hx,hy];simp only[go_sem,f1,j5];exact As qj rfl
def C3(l:List Int):List (List V):=l.map fun k=>[iV k]
def Q0(l:List Int):(C3 l).length=l.length:=by unfold C3;rw[Ap]
def Add(l:List Int):∀ r∈C3 l,r.length=1:=fun r hr=>by obtain⟨x,-,rfl⟩:=Ct.1 hr;rfl
def As4(l:List Int):∀ r∈C3 l,r.all V.rowB=true:=fun r hr=>by obtain⟨x,-,rfl⟩:=Ct.1 hr;rfl
def Aq8{D:List Int}{n i:Nat}(h:D.length=i)(hi:i<n)(v:Int):(D++List.replicate (n - i) 0).set i v=(D++[v])++List.replicate (n - (i+1)) 0:=by
 rw[I3 _ _ AA,h,Gf,show n - i=(n - (i+1))+1 by omega,Xj,Afv,Da];rfl
def A07{D R:List Int}{i:Nat}(h:D.length=i)(u v:Int):((D++[u])++R).set i v=(D++[v])++R:=by
 rw[Da,I3 _ _ AA,h,Gf,Da];rfl
def Auv{D:List Int}{n:Nat}{e:Nat}(h:D.length=n):FR (.sl 0 0 0 n 1 true) [.row (Bt D) e 0 0] (.lst 0 (C3 D)):=by
 have:=Aj3 (σ:=[.row (Bt D) e 0 0]) (i:=0) (g:=0) (m:=1) (e:=e) (xs:=C3 D) (by rw[Aol];rfl) AA (Add D) (As4 D);rw[Q0,h]at this;exact this
set_option maxHeartbeats 4000000 in
def A4o(z1 z2:Bool)(t1 t2:Nat)(X Y:List (List UInt8))(hX:X.length<=4096)(hY:Y.length<=4096):Fn TT PT 51 [SL z1 t1 (X.map fun x=>[V.str x]),SL z2 t2 (Y.map fun x=>[V.str x])] (.lst 0 (C3 (Dn 0 X Y))):=by
 refine Bo T51 rfl ?_;have qf:(X.map fun x=>[V.str x]).length=X.length:=Ap ..;have qd:(Y.map fun x=>[V.str x]).length=Y.length:=Ap ..;have q:=Ay8 z1 z2 t1 t2 X Y AA AA;unfold Ut at q;have a1:(4096<(X.length:Int))=False:=eq_false AA;have a2:(4096<(Y.length:Int))=False:=eq_false AA;have b1:(0<=(X.length:Int))=True:=eq_true AA;have b2:((X.length:Int)<=(X.length:Int))=True:=eq_true (Sy _);have b3:(X.length*8<=140737488355328)=True:=eq_true AA;have c3:∀ n:Nat,(0<=n)=True:=fun n=>eq_true (Au n)
 simp only[go_sem,qf,qd,a1,a2];refine Ad q AB ?_;simp only[go_sem,qf,b1,b2,b3,Vn,Yp];refine Bn (α:=Nat × Nat × List Int) (fun a=>X.length - a.1) (fun a=>[(0,SL z1 t1 (X.map fun x=>[V.str x])),(1,SL z2 t2 (Y.map fun x=>[V.str x])),(5,.lst 0 ((J9 X Y).map fun r=>[V.lst 0 (r.map fun x=>[iV x])])),(6,.sl 0 0 0 X.length 1 true),(7,iV (a.2.1:Int)),(25,iV (X.length:Int)),(26,iV (a.1:Int))]) (fun a=>[.row (Bt (a.2.2++List.replicate (X.length - a.1) 0)) 3 0 0]) (fun a=>a.1<=X.length/\a.2.1<=Y.length/\a.2.2.length=a.1/\a.2.2++Dn a.2.1 (X.drop a.1) (Y.drop a.2.1)=Dn 0 X Y) ?_ (0,0,[]) ⟨Au _,Au _,rfl,by simp⟩;rintro⟨i,j,D⟩ ⟨hi,hj,hD,hA⟩ ih;simp only at hi hj hD hA ih;refine Bl Bhc ?_;rcases Be i X.length with qa | qa;rotate_left
 .obtain rfl:i=X.length:=by omega
  rw[Af3,Dn,B3]at hA;subst hA;rw[Gf,List.replicate_zero,B3];simp only[go_sem,Bq qa];exact Auv hD
 obtain⟨x,hx,-,-⟩:=By qa;have g1:(0<=(i:Int))=True:=eq_true AA;have g2:((i:Int)<(X.length:Int))=True:=eq_true AA;have qp:(D++List.replicate (X.length - i) (0:Int)).length=X.length:=by rw[Al,Se];omega
 have m1:(i+1<=(Bt (D++List.replicate (X.length - i) 0)).length)=True:=eq_true (by rw[Lq,qp];omega);obtain⟨nx,qk⟩:∃ nx:Int->List Int,∀ v,nx v=(D++[v])++List.replicate (X.length - (i+1)) 0:=⟨_,fun _=>rfl⟩;have e1:∀ v:Int,List.take i (Bt (D++List.replicate (X.length - i) 0))++iV v::List.drop (i+1) (Bt (D++List.replicate (X.length - i) 0))=Bt (nx v):=fun v=>by rw[Vy AA,Aq8 hD qa,qk]
 have i1:IntKind.i64.wrap ((i:Int)+1)=((i+1:Nat):Int):=A2 AA;simp only[go_sem,A0 qa];refine Bn (α:=Nat) (fun k=>Y.length - k) (fun k=>[(0,SL z1 t1 (X.map fun x=>[V.str x])),(1,SL z2 t2 (Y.map fun x=>[V.str x])),(5,.lst 0 ((J9 X Y).map fun r=>[V.lst 0 (r.map fun x=>[iV x])])),(6,.sl 0 0 0 X.length 1 true),(7,iV (j:Int)),(8,iV (i:Int)),(9,iV (k:Int)),(25,iV (X.length:Int)),(26,iV (i:Int))]) (fun _=>[.row (Bt (D++List.replicate (X.length - i) 0)) 3 0 0]) (fun k=>j<=k/\k<=Y.length/\∀ k',j<=k'->k'<k->¬ N0 X Y i j k') ?_ j ⟨Ai _,hj,fun k' h1 h2=>by omega⟩;rintro k ⟨qs,hk,qg⟩ kh;refine Bl Bhb ?_;rcases Be k Y.length with qb | qb;rotate_left
 .obtain rfl:k=Y.length:=by omega
  rw[Aq3 qa qg]at hA;simp only[go_sem,Bq qb,qd,g1,g2,m1,c3,e1,i1];rw[qk];refine As (ih (i+1,j,D++[-1]) AD ⟨qa,hj,by simp[hD],?_⟩) rfl;rw[Da];exact hA
 obtain⟨y,hy,-,-⟩:=By qb;have k1:IntKind.i64.wrap ((k:Int)+1)=((k+1:Nat):Int):=A2 AA;by_cases e:x=y;rotate_left
 .have f1:(x==y)=false:=by simp[e]
  simp only[go_sem,A0 qb,qd];refine Ag AE ?_;simp only[go_sem,Aj,hx,hy,f1];simp only[go_sem,k1];refine As (kh (k+1) AA ⟨by omega,qb,fun k' h1 h2=>?_⟩) rfl;rcases Be k' k with h | h
  .exact qg k' h1 h
  .obtain rfl:k'=k:=by omega
   intro hh;have:=hh.1;rw[hx,hy]at this;exact e (Jo this)
 have f1:(x==y)=true:=by simp[e]
 have T1:=Acm (Yn X Y (i:=i+1) qa);have T0:=Acm (Yn X Y (i:=i) (N6 qa));have n1:=Aes (Q7 X Y (i:=i+1) (k:=k+1) qb);have n0:=Aes (Q7 X Y (i:=i) (k:=j) hj);have l1:=Adc X Y (i+1) (k+1);have f2:IntKind.i64.wrap (1+((Ce X Y (i+1) (k+1):Nat):Int))=((1+Ce X Y (i+1) (k+1):Nat):Int):=by rw[Ch AA];rfl
 by_cases hh:1+Ce X Y (i+1) (k+1)=Ce X Y i j
 .have f3:(((1+Ce X Y (i+1) (k+1):Nat):Int)==((Ce X Y i j:Nat):Int))=true:=by rw[hh];simp
  have qi:N0 X Y i j k:=⟨by rw[hx,hy,e],hh⟩;rw[Asw qa qs qb qi qg]at hA;simp only[go_sem,A0 qb,qd];refine Ag AE ?_;simp only[go_sem,Aj,hx,hy,f1,i1,k1,T1,T0,n1,n0,f2,f3];simp only[go_sem,g1,g2,m1,c3,e1,k1,i1];rw[qk];refine As (ih (i+1,k+1,D++[(k:Int)]) AD ⟨qa,qb,by simp[hD],?_⟩) rfl;rw[Da];exact hA
 .have f3:(((1+Ce X Y (i+1) (k+1):Nat):Int)==((Ce X Y i j:Nat):Int))=false:=by
   rw[beq_eq_false_iff_ne];omega
  simp only[go_sem,A0 qb,qd];refine Ag AE ?_;simp only[go_sem,Aj,hx,hy,f1,i1,k1,T1,T0,n1,n0,f2,f3];refine As (kh (k+1) AA ⟨by omega,qb,fun k' h1 h2=>?_⟩) rfl;rcases Be k' k with h | h
  .exact qg k' h1 h
  .obtain rfl:k'=k:=by omega
   exact fun h=>hh h.2
set_option maxHeartbeats 4000000 in
def A9a(z1 z2:Bool)(t1 t2:Nat)(X Y:List (List UInt8))(hX:X.length<=4096)(hY:Y.length<=4096):Fn TT PT 58 [SL z1 t1 (X.map fun x=>[V.str x]),SL z2 t2 (Y.map fun x=>[V.str x])] (.lst 0 (C3 (Dn 0 X Y))):=by
 refine Bo T58 rfl ?_;have qf:(X.map fun x=>[V.str x]).length=X.length:=Ap ..;have qd:(Y.map fun x=>[V.str x]).length=Y.length:=Ap ..;have q:=Ay9 z1 z2 t1 t2 X Y AA AA;unfold Ut at q;have b1:(0<=(X.length:Int))=True:=eq_true AA;have b2:((X.length:Int)<=(X.length:Int))=True:=eq_true (Sy _);have b3:(X.length*8<=140737488355328)=True:=eq_true AA;have c3:∀ n:Nat,(0<=n)=True:=fun n=>eq_true (Au n)
 simp only[go_sem];refine Ad q AB ?_;simp only[go_sem,qf,b1,b2,b3,Vn,Yp];refine Bn (α:=Nat × Nat × List Int) (fun a=>X.length - a.1) (fun a=>[(0,SL z1 t1 (X.map fun x=>[V.str x])),(1,SL z2 t2 (Y.map fun x=>[V.str x])),(5,.lst 0 ((J9 X Y).map fun r=>[V.lst 0 (r.map fun x=>[iV x])])),(6,.sl 0 0 0 X.length 1 true),(7,iV (a.2.1:Int)),(17,iV (X.length:Int)),(18,iV (a.1:Int))]) (fun a=>[.row (Bt (a.2.2++List.replicate (X.length - a.1) 0)) 3 0 0]) (fun a=>a.1<=X.length/\a.2.1<=Y.length/\a.2.2.length=a.1/\a.2.2++Dn a.2.1 (X.drop a.1) (Y.drop a.2.1)=Dn 0 X Y) ?_ (0,0,[]) ⟨Au _,Au _,rfl,by simp⟩;rintro⟨i,j,D⟩ ⟨hi,hj,hD,hA⟩ ih;simp only at hi hj hD hA ih;refine Bl Bhg ?_;rcases Be i X.length with qa | qa;rotate_left
 .obtain rfl:i=X.length:=by omega
  rw[Af3,Dn,B3]at hA;subst hA;rw[Gf,List.replicate_zero,B3];simp only[go_sem,Bq qa];exact Auv hD
 obtain⟨x,hx,-,-⟩:=By qa;have g1:(0<=(i:Int))=True:=eq_true AA;have g2:((i:Int)<(X.length:Int))=True:=eq_true AA;have qp:(D++List.replicate (X.length - i) (0:Int)).length=X.length:=by rw[Al,Se];omega
 have qw:∀ u:Int,((D++[u])++List.replicate (X.length - (i+1)) (0:Int)).length=X.length:=fun u=>by rw[Al,Al,Se,Hw];omega
 have m1:(i+1<=(Bt (D++List.replicate (X.length - i) 0)).length)=True:=eq_true (by rw[Lq,qp];omega);have e1:List.take i (Bt (D++List.replicate (X.length - i) 0))++iV (-1)::List.drop (i+1) (Bt (D++List.replicate (X.length - i) 0))=Bt ((D++[-1])++List.replicate (X.length - (i+1)) 0):=by rw[Vy AA,Aq8 hD qa]
 obtain⟨L1,qn⟩:∃ L1,L1=(D++[-1])++List.replicate (X.length - (i+1)) (0:Int):=⟨_,rfl⟩;have qo:L1.length=X.length:=by rw[qn];exact qw _
 have m2:(i+1<=(Bt L1).length)=True:=eq_true (by rw[Lq,qo];omega);obtain⟨nx,qk⟩:∃ nx:Int->List Int,∀ v,nx v=(D++[v])++List.replicate (X.length - (i+1)) 0:=⟨_,fun _=>rfl⟩;have e2:∀ v:Int,List.take i (Bt L1)++iV v::List.drop (i+1) (Bt L1)=Bt (nx v):=fun v=>by rw[Vy AA,qn,A07 hD,qk]
 rw[<-qn]at e1;have i1:IntKind.i64.wrap ((i:Int)+1)=((i+1:Nat):Int):=A2 AA;simp only[go_sem,A0 qa,g1,g2,m1,c3,e1];refine Bn (α:=Nat) (fun k=>Y.length - k) (fun k=>[(0,SL z1 t1 (X.map fun x=>[V.str x])),(1,SL z2 t2 (Y.map fun x=>[V.str x])),(5,.lst 0 ((J9 X Y).map fun r=>[V.lst 0 (r.map fun x=>[iV x])])),(6,.sl 0 0 0 X.length 1 true),(7,iV (j:Int)),(8,iV (i:Int)),(9,iV (k:Int)),(17,iV (X.length:Int)),(18,iV (i:Int))]) (fun _=>[.row (Bt L1) 3 0 0]) (fun k=>j<=k/\k<=Y.length/\∀ k',j<=k'->k'<k->¬ N0 X Y i j k') ?_ j ⟨Ai _,hj,fun k' h1 h2=>by omega⟩;rintro k ⟨qs,hk,qg⟩ kh;refine Bl Bhf ?_;rcases Be k Y.length with qb | qb;rotate_left
 .obtain rfl:k=Y.length:=by omega
  rw[Aq3 qa qg]at hA;simp only[go_sem,Bq qb,qd,i1];rw[qn];refine As (ih (i+1,j,D++[-1]) AD ⟨qa,hj,by simp[hD],?_⟩) rfl;rw[Da];exact hA
 obtain⟨y,hy,-,-⟩:=By qb;have k1:IntKind.i64.wrap ((k:Int)+1)=((k+1:Nat):Int):=A2 AA;by_cases e:x=y;rotate_left
 .have f1:(x==y)=false:=by simp[e]
  simp only[go_sem,A0 qb,qd];refine Ag AE ?_;simp only[go_sem,Aj,hx,hy,f1];simp only[go_sem,k1];refine As (kh (k+1) AA ⟨by omega,qb,fun k' h1 h2=>?_⟩) rfl;rcases Be k' k with h | h
  .exact qg k' h1 h
  .obtain rfl:k'=k:=by omega
   intro hh;have:=hh.1;rw[hx,hy]at this;exact e (Jo this)
 have f1:(x==y)=true:=by simp[e]
 have T1:=Acm (Yn X Y (i:=i+1) qa);have T0:=Acm (Yn X Y (i:=i) (N6 qa));have n1:=Aes (Q7 X Y (i:=i+1) (k:=k+1) qb);have n0:=Aes (Q7 X Y (i:=i) (k:=j) hj);have l1:=Adc X Y (i+1) (k+1);have f2:IntKind.i64.wrap (1+((Ce X Y (i+1) (k+1):Nat):Int))=((1+Ce X Y (i+1) (k+1):Nat):Int):=by rw[Ch AA];rfl
 by_cases hh:1+Ce X Y (i+1) (k+1)=Ce X Y i j
 .have f3:(((1+Ce X Y (i+1) (k+1):Nat):Int)==((Ce X Y i j:Nat):Int))=true:=by rw[hh];simp
  have qi:N0 X Y i j k:=⟨by rw[hx,hy,e],hh⟩;rw[Asw qa qs qb qi qg]at hA;simp only[go_sem,A0 qb,qd];refine Ag AE ?_;simp only[go_sem,Aj,hx,hy,f1,i1,k1,T1,T0,n1,n0,f2,f3];simp only[go_sem,g1,g2,m2,c3,e2,k1,i1];rw[qk];refine As (ih (i+1,k+1,D++[(k:Int)]) AD ⟨qa,qb,by simp[hD],?_⟩) rfl;rw[Da];exact hA
 .have f3:(((1+Ce X Y (i+1) (k+1):Nat):Int)==((Ce X Y i j:Nat):Int))=false:=by
   rw[beq_eq_false_iff_ne];omega
  simp only[go_sem,A0 qb,qd];refine Ag AE ?_;simp only[go_sem,Aj,hx,hy,f1,i1,k1,T1,T0,n1,n0,f2,f3];refine As (kh (k+1) AA ⟨by omega,qb,fun k' h1 h2=>?_⟩) rfl;rcases Be k' k with h | h
  .exact qg k' h1 h
  .obtain rfl:k'=k:=by omega
   exact fun h=>hh h.2
