/- Tables: a list of lists of numbers, each an object of its own, settled. -/
import Derived.Test.YthlbbjcbmojocabGreatDoorUc
set_option linter.all false
namespace Go.Proofs.YthlbbjcbmojocabGreatDoor.KM
open Go
def Dd(l:List Int):List V:=l.map fun x=>iV x
def Yz(R:List (List Int)):V:=.lst 0 (R.map fun r=>[.lst 0 (r.map fun x=>[iV x])])
def Pk(L:List (Nat × List Int)):List V:=L.map fun p=>.sl p.1 0 0 p.2.length 1 true
def Alv(l:List Int):Dd l=(l.map fun x=>[iV x]).flatten:=by
 induction l with
 | nil=>rfl
 | cons a l ih=>rw[Aw,D3,<-ih];rfl
def An3:∀ l:List V,E6 1 l.length l=l.map fun x=>[x]
 | []=>rfl
 | a::l=>by rw[Ah,E6,Aw,Zf,Ll,An3 l];rfl
def Aj0{σ:St}{js:List Nat}{d:Nat}:∀ {L:List (Nat × List Int)},(∀ p∈L,∃ e z,σ[p.1]?=some (.row (Dd p.2) e 0 z))->(∀ p∈L,p.1∈js) ->
  (Pk L).mapM (Fk σ js (d+2))=some (L.map fun p=>.lst 0 (p.2.map fun x=>[iV x]))
 | [],_,_=>rfl
 | p::L,h,hj=>by
  have ih:=Aj0 (d:=d) (fun q hq=>h q (Cs _ hq)) fun q hq=>hj q (Cs _ hq)
  obtain⟨e,z,ho⟩:=h p Cx;have hp:=hj p Cx;have h1:=Vd (xs:=p.2.map fun x=>[iV x]) (w:=true) (m:=1) (by rw[<-Alv];exact ho) (by omega) (fun r hr=>by obtain⟨x,-,rfl⟩:=De.1 hr;rfl) (fun r hr=>by obtain⟨x,-,rfl⟩:=De.1 hr;rfl);have h2:=h1 js (fun i hi=>by simp[V.refs]at hi;rw[hi];exact hp) d;rw[Ba]at h2;unfold Pk at ih ⊢;rw[Aw,Ik,h2,ih];rfl
def Auz{σ:St}{o e z:Nat}{js:List Nat}{d:Nat}{L:List (Nat × List Int)}(ho:σ[o]?=some (.row (Pk L) e 0 z))(h:∀ p∈L,∃ e z,σ[p.1]?=some (.row (Dd p.2) e 0 z))(hj:∀ p∈L,p.1∈js)(jy:o∈js):
  Fk σ js (d+3) (.sl o 0 0 L.length 1 true)=some (Yz (L.map fun p=>p.2)):=by
 have hl:(Pk L).length=L.length:=by unfold Pk;rw[Ba]
 have he:js.elem o=true:=by simpa using jy
 unfold Fk;rw[if_neg (by simp[V.rowB])];simp only[he,if_true,ho];rw[if_pos ⟨trivial,by omega,by omega⟩,Ll,Wn,<-hl,D8,Aj0 h hj,Fr];unfold Yz;have qr:(Pk L).length=(L.map fun p=>V.lst 0 (p.2.map fun x=>[iV x])).length:=by rw[hl,Ba]
 rw[qr,An3,Ol,Ol];rfl
def An4{R:List (List Int)}{i:Nat}{r:List Int}(h:R[i]?=some r):(R.map fun r=>[V.lst 0 (r.map fun x=>[iV x])])[i]?=some [.lst 0 (r.map fun x=>[iV x])]:=by
 rw[Av,h];rfl
def Asc{r:List Int}{j:Nat}{x:Int}(h:r[j]?=some x):(r.map fun x=>[iV x])[j]?=some [iV x]:=by
 rw[Av,h];rfl
def Azl{r:List Int}{j:Nat}{x:Int}(h:r[j]?=some x):(Dd r)[j]?=some (iV x):=by
 unfold Dd;rw[Av,h];rfl
def Azm(r:List Int)(j:Nat)(x:Int):(Dd r).set j (iV x)=Dd (r.set j x):=by
 unfold Dd;rw[List.map_set]
def Afq(n:Nat):List.replicate n (iV 0)=Dd (List.replicate n 0):=by
 unfold Dd;rw[List.map_replicate]
def A7y{T:Nat->Option AF}{pr:Nat->Option (List V->Option V)}{f p:Nat}{res:List AR}{body:AC}{vs:List V}{R:List (List Int)}(hT:T f=some ⟨p,res,false,body,none⟩)(hl:vs.length=p)
  (h:W T pr [.c body] (Da 0 vs) [] (Hd fun e' σ1=>∃ (o e z:Nat) (L:List (Nat × List Int)),Ch e' σ1 res=some (.sl o 0 0 L.length 1 true)/\σ1[o]?=some (.row (Pk L) e 0 z)/\(∀ p∈L,∃ e z,σ1[p.1]?=some (.row (Dd p.2) e 0 z))/\(L.map fun p=>p.2)=R)):Fn T pr f vs (Yz R):=by
 obtain⟨e',σ1,hE,o,e,z,L,hr,ho,hL,rfl⟩:=h;refine Ak5 hT rfl rfl hl ⟨e',σ1,hE,.sl o 0 0 L.length 1 true,o::L.map fun p=>p.1,hr,rfl,?_,rfl,rfl⟩;exact Auz (d:=6) ho hL (fun p hp=>Cs _ (De.2 ⟨p,hp,rfl⟩)) Cx
variable {α:Type} [DecidableEq α]
/-! version.common: the rows from i on are there; row k is object 1 + (n - k) -/
def Y0(m b:Nat):V:=.sl b 0 0 (m+1) 1 true
def Et(n m i:Nat):List V:=(List.range (n+1)).map fun k=>if k<i then .nils else Y0 m (1+(n - k))
def E5(s t:List α)(k:Nat):List (List Int):=(List.range k).map fun d=>Ig s t (s.length - d)
def Fp(OT IT n m i:Nat)(R:List (List Int)):St:=.row (Et n m i) OT 0 0::R.map fun r=>.row (Dd r) IT 0 0
def Aa9(n m i:Nat):(Et n m i).length=n+1:=by unfold Et;simp
def Awh(n m:Nat):(List.replicate (n+1) V.nils).set n (Y0 m 1)=Et n m n:=by
 unfold Et;refine Zp (by simp) fun k h1 h2=>?_
 rw[Zj,Oi,Tf];simp at h2;by_cases h:n=k
 .subst h;rw[if_pos rfl,if_neg (by omega),Hh]
 .rw[if_neg h,if_pos (by omega),List.getElem_replicate]
def Azn{n m i:Nat}(hi:i<n):(Et n m (i+1)).set i (Y0 m (1+(n - i)))=Et n m i:=by
 unfold Et;refine Zp (by simp) fun k h1 h2=>?_
 rw[Zj,Oi,Oi,Tf];by_cases h:i=k
 .subst h;rw[if_pos rfl,if_neg (by omega)]
 .rw[if_neg h];by_cases h':k<i
  .rw[if_pos (by omega),if_pos h']
  .rw[if_neg (by omega),if_neg h']
def Azo{n m i k:Nat}(h:i<=k)(hk:k<=n):(Et n m i)[k]?=some (Y0 m (1+(n - k))):=by
 unfold Et;rw[Av,Wb (by omega),Fr,if_neg (by omega)]
def Ue(s t:List α)(k:Nat):(E5 s t k).length=k:=by unfold E5;simp
def Au0(s t:List α)(k:Nat):E5 s t k++[Ig s t (s.length - k)]=E5 s t (k+1):=by
 unfold E5;rw[List.range_succ,Ei,Zi]
def A3t(OT IT n m i:Nat)(R:List (List Int)):(Fp OT IT n m i R).length=1+R.length:=by unfold Fp;simp;omega
def A3u(OT IT n m i:Nat)(R:List (List Int))(r:List Int):Fp OT IT n m i R++[.row (Dd r) IT 0 0]=Fp OT IT n m i (R++[r]):=by
 unfold Fp;rw[Ei,Bq];rfl
def Agl(OT IT n m i:Nat){R:List (List Int)}{k:Nat}{r:List Int}(h:R[k]?=some r):(Fp OT IT n m i R)[1+k]?=some (.row (Dd r) IT 0 0):=by
 unfold Fp;rw[show 1+k=k+1 by omega,Jm,Av,h];rfl
def A3v(OT IT n m i:Nat)(R:List (List Int))(k:Nat)(r:List Int):(Fp OT IT n m i R).set (1+k) (.row (Dd r) IT 0 0)=Fp OT IT n m i (R.set k r):=by
 unfold Fp;rw[show 1+k=k+1 by omega,Ado,List.map_set]
def Au1(s t:List α){i:Nat}(hi:i<s.length)(r:List Int):(E5 s t (s.length - i)++[r])[s.length - (i+1)]?=some (Ig s t (i+1)):=by
 rw[Ca (by rw[Ue];omega)];unfold E5;rw[Av,Wb (by omega),Fr,show s.length - (s.length - (i+1))=i+1 by omega]
def Awi(s t:List α)(i:Nat)(r:List Int):(E5 s t (s.length - i)++[r])[s.length - i]?=some r:=by
 rw[Cd (by rw[Ue];omega),Ue,Hh];rfl
def Awj(s t:List α)(i:Nat)(r r':List Int):(E5 s t (s.length - i)++[r]).set (s.length - i) r'=E5 s t (s.length - i)++[r']:=by
 rw[Jn _ _ (by rw[Ue];omega),Ue,Hh];rfl
def Au2(s t:List α){i:Nat}(hi:i<=s.length):E5 s t (s.length - i)++[Ig s t i]=E5 s t (s.length - i+1):=by
 rw[<-Au0,show s.length - (s.length - i)=i by omega]
def vL(s t:List α):List (Nat × List Int):=(List.range (s.length+1)).map fun k=>(1+(s.length - k),Ig s t k)
def A7z(s t:List α):(vL s t).length=s.length+1:=by unfold vL;simp
def A70(s t:List α):((vL s t).map fun p=>p.2)=Sy s t:=by
 unfold vL Sy;rw[Ol];rfl
def A71(s t:List α):Pk (vL s t)=Et s.length t.length 0:=by
 unfold Pk vL Et Y0;rw[Ol];refine Wa fun k _=>?_
 simp only[Function.comp,Afo];rw[if_neg (by omega)]
def A3w(OT IT:Nat)(s t:List α):∀ p∈vL s t,∃ e z,(Fp OT IT s.length t.length 0 (E5 s t (s.length+1)))[p.1]?=some (.row (Dd p.2) e 0 z):=by
 intro p hp;unfold vL at hp;obtain⟨k,hk,rfl⟩:=De.1 hp;rw[En]at hk;refine⟨IT,0,Agl _ _ _ _ _ ?_⟩;unfold E5;rw[Av,Wb (by omega),Fr,show s.length - (s.length - k)=k by omega]
/-! the reference's common: all rows are there; row k is object 1 + k -/
def tk1{l:List V}{i:Nat}{x:V}(h:l[i]?=some x):List.take 1 (List.drop i l)=[x]:=by
 obtain⟨h1,h2⟩:=Aq.1 h;rw[Gr h1,h2];rfl
def tds{l:List V}{i:Nat}(h:i<l.length)(x:V):List.take i l++x::List.drop (i+1) l=l.set i x:=by
 rw[List.set_eq_take_append_cons_drop,if_pos h]
def Ae1(n:Nat)(v:V):(List.replicate n [v]).flatten=List.replicate n v:=by
 induction n with
 | zero=>rfl
 | succ n ih=>rw[Ta,D3,ih];rfl
def Uo(l:List Int):(Dd l).length=l.length:=by unfold Dd;rw[Ba]
def Agm{l:List Int}{i:Nat}{x:Int}(h:l[i]?=some x):List.take 1 (List.drop i (Dd l))=[iV x]:=tk1 (Azl h)
def An5{l:List Int}{i:Nat}(h:i<l.length)(x:Int):List.take i (Dd l)++iV x::List.drop (i+1) (Dd l)=Dd (l.set i x):=by
 rw[tds (by rw[Uo];exact h),Azm]
def Awk{n m i:Nat}(hi:i<n):List.take i (Et n m (i+1))++V.sl (1+(n - i)) 0 0 (m+1) 1 true::List.drop (i+1) (Et n m (i+1))=Et n m i:=by
 rw[tds (by rw[Aa9];omega)];exact Azn hi
def Ap2{n m i k:Nat}(h:i<=k)(hk:k<=n):List.take 1 (List.drop k (Et n m i))=[.sl (1+(n - k)) 0 0 (m+1) 1 true]:=tk1 (Azo h hk)
def Awl(X Y:List (List UInt8))(OT IT:Nat):([.row (Et X.length Y.length X.length) OT 0 0,.row (List.replicate (Y.length+1) (iV 0)) IT 0 0]:St)=Fp OT IT X.length Y.length X.length (E5 X Y (X.length - X.length+1)):=by
 rw[Hh];unfold Fp E5;rw[Fc,List.range_one,Zi,Zi,Ad1,Aza,Afq]
def Azp(X Y:List (List UInt8))(OT IT i:Nat)(hi:i<X.length):(Fp OT IT X.length Y.length (i+1) (E5 X Y (X.length - i))++[Ob.row (List.replicate (Y.length+1) (iV 0)) IT 0 0]).set 0 (.row (Et X.length Y.length i) OT 0 0)=Fp OT IT X.length Y.length i (E5 X Y (X.length - i)++[Fb X Y i Y.length]):=by
 rw[Afq,A3u,Ay9];rfl
set_option maxHeartbeats 4000000 in
def Au3(z1 z2:Bool)(t1 t2:Nat)(X Y:List (List UInt8))(hX:X.length<=1000000)(hY:Y.length<=1000000):Fn TT PT 29 [SL z1 t1 (X.map fun x=>[V.str x]),SL z2 t2 (Y.map fun x=>[V.str x])] (Yz (Sy X Y)):=by
 refine A7y T29 rfl ?_;have qn:(X.map fun x=>[V.str x]).length=X.length:=Ba ..;have qd:(Y.map fun x=>[V.str x]).length=Y.length:=Ba ..;obtain⟨N,hN⟩:∃ N,N=X.length+1:=⟨_,rfl⟩;obtain⟨M,hM⟩:∃ M,M=Y.length+1:=⟨_,rfl⟩;have w1:IntKind.i64.wrap ((X.length:Int)+1)=(N:Int):=by rw[hN];exact Bk (by omega)
 have w2:IntKind.i64.wrap ((Y.length:Int)+1)=(M:Int):=by rw[hM];exact Bk (by omega)
 have w3:IntKind.i64.wrap ((X.length:Int) - 1)=(X.length:Int) - 1:=Ec (by omega);have w4:IntKind.i64.wrap ((Y.length:Int) - 1)=(Y.length:Int) - 1:=Ec (by omega);have a1:(0<=(N:Int))=True:=eq_true (by omega);have a2:((N:Int)<=(N:Int))=True:=eq_true (Ad8 _);have a3:(N*24<=140737488355328)=True:=eq_true (by omega);have b1:(0<=(M:Int))=True:=eq_true (by omega);have b2:((M:Int)<=(M:Int))=True:=eq_true (Ad8 _);have b3:(M*8<=140737488355328)=True:=eq_true (by omega);have c1:(0<=(X.length:Int))=True:=eq_true (by omega);have c2:((X.length:Int)<(N:Int))=True:=eq_true (by omega);have c3:∀ n:Nat,(0<=n)=True:=fun n=>eq_true (A0 n)
 have c4:(X.length+1<=(List.replicate N V.nils).length)=True:=eq_true (by rw[Adm];omega)
 have e1:List.take X.length (List.replicate N V.nils)++V.sl 1 0 0 M 1 true::List.drop (X.length+1) (List.replicate N V.nils)=Et X.length Y.length X.length:=by
  rw[tds (by rw[Adm];omega),hN,hM];exact Awh _ _
 simp only[go_sem,qn,qd,w1,w2,w3,a1,a2,a3,b1,b2,b3,c1,c2,c3,c4,Ae1,e1];rw[hM,Awl X Y];refine B3 (α:=Nat) (fun i=>i) (fun i=>[(0,SL z1 t1 (X.map fun x=>[V.str x])),(1,SL z2 t2 (Y.map fun x=>[V.str x])),(5,.sl 0 0 0 N 1 true),(6,iV ((i:Int) - 1))]) (fun i=>Fp 32 3 X.length Y.length i (E5 X Y (X.length - i+1))) (fun i=>i<=X.length) ?_ X.length (Ai _);intro i hi ih;refine B4 (by delta lp29_1;exact rfl) ?_
 cases i with
 | zero=>
  have d0:decide ((0:Int)<=0 - 1)=false:=by decide
  simp only[go_sem,d0];unfold Hd;refine⟨0,32,0,vL X Y,?_,?_,?_,A70 X Y⟩
  .rw[A7z,<-hN];rfl
  .rw[A71];rfl
  .have:=A3w 32 3 X Y;simpa using this
 | succ i=>
 have qb:i<X.length:=hi;have q1:(((i+1:Nat):Int) - 1)=(i:Int):=by omega
 have q2:X.length - (i+1)+1=X.length - i:=by omega
 have d0:decide ((0:Int)<=(i:Int))=true:=by simp
 simp only[q1,q2];generalize hs:Fp 32 3 X.length Y.length (i+1) (E5 X Y (X.length - i))=s;have jD:s.length=1+(X.length - i):=by rw[<-hs,A3t,Ue]
 have k0:(s++[Ob.row (List.replicate M (iV 0)) 3 0 0])[0]?=some (.row (Et X.length Y.length (i+1)) 32 0 0):=by rw[<-hs];rfl
 have g1:(0<=(i:Int))=True:=eq_true (by omega);have g2:((i:Int)<(N:Int))=True:=eq_true (by omega);have g3:(i+1<=(Et X.length Y.length (i+1)).length)=True:=eq_true (by rw[Aa9];omega);have e2:List.take i (Et X.length Y.length (i+1))++V.sl (1+(X.length - i)) 0 0 M 1 true::List.drop (i+1) (Et X.length Y.length (i+1))=Et X.length Y.length i:=by rw[hM];exact Awk qb
 have e3:(s++[Ob.row (List.replicate M (iV 0)) 3 0 0]).set 0 (.row (Et X.length Y.length i) 32 0 0)=Fp 32 3 X.length Y.length i (E5 X Y (X.length - i)++[Fb X Y i Y.length]):=by rw[<-hs,hM];exact Azp X Y _ _ i qb
 simp only[go_sem,d0,qd,w2,w4,b1,b2,b3,c3,jD,k0,g1,g2,g3,Ae1,e2,e3];refine B3 (α:=Nat) (fun j=>j) (fun j=>[(0,SL z1 t1 (X.map fun x=>[V.str x])),(1,SL z2 t2 (Y.map fun x=>[V.str x])),(5,.sl 0 0 0 N 1 true),(6,iV (i:Int)),(7,iV ((j:Int) - 1))]) (fun j=>Fp 32 3 X.length Y.length i (E5 X Y (X.length - i)++[Fb X Y i j])) (fun j=>j<=Y.length) ?_ Y.length (Ai _);intro j hj jh;refine B4 (by delta lp29_0;exact rfl) ?_
 cases j with
 | zero=>
  have d0:decide ((0:Int)<=0 - 1)=false:=by decide
  have w5:IntKind.i64.wrap ((i:Int) - 1)=(i:Int) - 1:=Ec (by omega);simp only[go_sem,d0,w5];rw[Alq,Au2 X Y (Wj qb)];exact Bg (ih i (by omega) (by omega)) rfl
 | succ j=>
 have qm:j<Y.length:=hj;have q3:(((j+1:Nat):Int) - 1)=(j:Int):=by omega
 have d1:decide ((0:Int)<=(j:Int))=true:=by simp
 have qN:=jh j (Nat.lt_succ_self j) (by omega);simp only[q3];obtain⟨x,hx,-,-⟩:=C3 qb;obtain⟨y,hy,-,-⟩:=C3 qm;have qO:X[i]=x/\Y[j]=y:=⟨(Aq.1 hx).2,(Aq.1 hy).2⟩;have qo:=A3n X Y qb qm;rw[qO.1,qO.2]at qo;have l1:=Apx X Y (i+1) (j+1);have r0:(Fp 32 3 X.length Y.length i (E5 X Y (X.length - i)++[Fb X Y i (j+1)]))[1+(X.length - i)]?=some (.row (Dd (Fb X Y i (j+1))) 3 0 0):=Agl _ _ _ _ _ (Awi X Y i _);have r1:(Fp 32 3 X.length Y.length i (E5 X Y (X.length - i)++[Fb X Y i (j+1)]))[1+(X.length - (i+1))]?=some (.row (Dd (Ig X Y (i+1))) 3 0 0):=Agl _ _ _ _ _ (Au1 X Y qb _);have r2:(Fp 32 3 X.length Y.length i (E5 X Y (X.length - i)++[Fb X Y i (j+1)]))[0]?=some (.row (Et X.length Y.length i) 32 0 0):=rfl;have e4:(Fp 32 3 X.length Y.length i (E5 X Y (X.length - i)++[Fb X Y i (j+1)])).set (1+(X.length - i)) (.row (Dd (Fb X Y i j)) 3 0 0)=Fp 32 3 X.length Y.length i (E5 X Y (X.length - i)++[Fb X Y i j]):=by rw[A3v,Awj]
 rw[<-e4]at qN;generalize Fp 32 3 X.length Y.length i (E5 X Y (X.length - i)++[Fb X Y i (j+1)])=s2 at *;have o1:List.take 1 (List.drop i (Et X.length Y.length i))=[.sl (1+(X.length - i)) 0 0 M 1 true]:=by rw[hM];exact Ap2 (Ai _) (by omega)
 have o2:List.take 1 (List.drop (i+1) (Et X.length Y.length i))=[.sl (1+(X.length - (i+1))) 0 0 M 1 true]:=by rw[hM];exact Ap2 (by omega) (by omega)
 have o3:(i+1<=(Et X.length Y.length i).length)=True:=eq_true (by rw[Aa9];omega);have o4:(i+1+1<=(Et X.length Y.length i).length)=True:=eq_true (by rw[Aa9];omega);have i1:IntKind.i64.wrap ((i:Int)+1)=((i+1:Nat):Int):=Bk (by omega);have i2:(0<=((i+1:Nat):Int))=True:=eq_true (by omega);have i3:(((i+1:Nat):Int)<(N:Int))=True:=eq_true (by omega);have j0:(0<=(j:Int))=True:=eq_true (by omega);have j1:IntKind.i64.wrap ((j:Int)+1)=((j+1:Nat):Int):=Bk (by omega);have j2:(0<=((j+1:Nat):Int))=True:=eq_true (by omega);have j3:(((j+1:Nat):Int)<(M:Int))=True:=eq_true (by omega);have j4:((j:Int)<(M:Int))=True:=eq_true (by omega);have j5:IntKind.i64.wrap ((j:Int) - 1)=(j:Int) - 1:=Ec (by omega);have m1:(j+1<=(Dd (Fb X Y i (j+1))).length)=True:=eq_true (by rw[Uo,Afn];omega);have m2:(j+1+1<=(Dd (Fb X Y i (j+1))).length)=True:=eq_true (by rw[Uo,Afn];omega);have m3:(j+1+1<=(Dd (Ig X Y (i+1))).length)=True:=eq_true (by rw[Uo,Afo];omega);have m4:(j+1<=(Dd (Ig X Y (i+1))).length)=True:=eq_true (by rw[Uo,Afo];omega);have n1:=Agm (Aa7 X Y (i:=i+1) (k:=j+1) qm);have n2:=Agm (Aa7 X Y (i:=i+1) (k:=j) (Wj qm));have n3:=Agm (An0 X Y (i:=i) (j:=j+1) (k:=j+1) qm (Ai _));have e5:List.take j (Dd (Fb X Y i (j+1)))++iV (D2 X Y i j:Int)::List.drop (j+1) (Dd (Fb X Y i (j+1)))=Dd (Fb X Y i j):=by rw[An5 (by rw[Afn];omega),Azb X Y qm]
 by_cases e:x=y
 .rw[if_pos e]at qo;have f1:(x==y)=true:=by simp[e]
  have f2:IntKind.i64.wrap (1+((D2 X Y (i+1) (j+1):Nat):Int))=((D2 X Y i j:Nat):Int):=by rw[qo,Ec (by omega)];rfl
  simp only[go_sem,d1];refine Ag (by kernel_rfl) ?_;simp only[go_sem,Av,hx,hy];simp only[go_sem,f1];refine Ag (by kernel_rfl) ?_;simp only[go_sem,r0,r1,r2,o1,o2,o3,o4,g1,g2,i1,i2,i3,j0,j1,j2,j3,j4,m1,m2,m3,m4,n1,n2,n3,c3];simp only[go_sem,f2,r0,m1,e5,c3];refine Aom (by repeat (first | exact trivial | refine⟨.inl (by rfl),?_⟩ | refine⟨by rfl,?_⟩ | refine⟨.inr ⟨by rfl,by rfl⟩,?_⟩)) (by repeat (first | exact trivial | refine⟨.inl (by rfl),?_⟩ | refine⟨by rfl,?_⟩ | refine⟨.inr ⟨by rfl,by rfl⟩,?_⟩)) ?_;simp only[go_sem,j5];exact Bg qN rfl
 .rw[if_neg e]at qo;have f1:(x==y)=false:=by simp[e]
  have f2:max ((D2 X Y (i+1) j:Nat):Int) ((D2 X Y i (j+1):Nat):Int)=((D2 X Y i j:Nat):Int):=by rw[qo];omega
  simp only[go_sem,d1];refine Ag (by kernel_rfl) ?_;simp only[go_sem,Av,hx,hy];simp only[go_sem,f1];refine Ag (by kernel_rfl) ?_;simp only[go_sem,r0,r1,r2,o1,o2,o3,o4,g1,g2,i1,i2,i3,j0,j1,j2,j3,j4,m1,m2,m3,m4,n1,n2,n3,c3];simp only[go_sem,f2,r0,m1,e5,c3];refine Aom (by repeat (first | exact trivial | refine⟨.inl (by rfl),?_⟩ | refine⟨by rfl,?_⟩ | refine⟨.inr ⟨by rfl,by rfl⟩,?_⟩)) (by repeat (first | exact trivial | refine⟨.inl (by rfl),?_⟩ | refine⟨by rfl,?_⟩ | refine⟨.inr ⟨by rfl,by rfl⟩,?_⟩)) ?_;simp only[go_sem,j5];exact Bg qN rfl
/-! the reference's table -/
def Dg(l:List Int):List (List V):=l.map fun k=>[iV k]
def Uf(l:List Int):(Dg l).length=l.length:=by unfold Dg;rw[Ba]
def Agn(l:List Int):∀ r∈Dg l,r.length=1:=fun r hr=>by obtain⟨x,-,rfl⟩:=De.1 hr;rfl
def Ap3(l:List Int):∀ r∈Dg l,r.all V.rowB=true:=fun r hr=>by obtain⟨x,-,rfl⟩:=De.1 hr;rfl
def Azq{D:List Int}{n i:Nat}(h:D.length=i)(hi:i<n)(v:Int):(D++List.replicate (n - i) 0).set i v=(D++[v])++List.replicate (n - (i+1)) 0:=by
 rw[Jn _ _ (by omega),h,Hh,show n - i=(n - (i+1))+1 by omega,Ta,List.set_cons_zero,Br];rfl
def A72{D:List Int}{n:Nat}{e:Nat}(h:D.length=n):FR (.sl 0 0 0 n 1 true) [.row (Dd D) e 0 0] (.lst 0 (Dg D)):=by
 have:=Ahq (σ:=[.row (Dd D) e 0 0]) (i:=0) (g:=0) (m:=1) (e:=e) (xs:=Dg D) (by rw[Alv];rfl) (by omega) (Agn D) (Ap3 D);rw[Uf,h]at this;exact this
set_option maxHeartbeats 4000000 in
def Azr(z1 z2:Bool)(t1 t2:Nat)(X Y:List (List UInt8))(hX:X.length<=4096)(hY:Y.length<=4096):Fn TT PT 15 [SL z1 t1 (X.map fun x=>[V.str x]),SL z2 t2 (Y.map fun x=>[V.str x])] (.lst 0 (Dg (Dj 0 X Y))):=by
 refine Bz T15 rfl ?_;have qn:(X.map fun x=>[V.str x]).length=X.length:=Ba ..;have qd:(Y.map fun x=>[V.str x]).length=Y.length:=Ba ..;have q:=Au3 z1 z2 t1 t2 X Y (by omega) (by omega);unfold Yz at q;have a1:(4096<(X.length:Int))=False:=eq_false (by omega);have a2:(4096<(Y.length:Int))=False:=eq_false (by omega);have b1:(0<=(X.length:Int))=True:=eq_true (by omega);have b2:((X.length:Int)<=(X.length:Int))=True:=eq_true (Ad8 _);have b3:(X.length*8<=140737488355328)=True:=eq_true (by omega);have c3:∀ n:Nat,(0<=n)=True:=fun n=>eq_true (A0 n)
 simp only[go_sem,qn,qd,a1,a2];refine Ad q (by simp only[go_sem]) ?_;simp only[go_sem,qn,b1,b2,b3,Ae1,Afq];refine B3 (α:=Nat × Nat × List Int) (fun a=>X.length - a.1) (fun a=>[(0,SL z1 t1 (X.map fun x=>[V.str x])),(1,SL z2 t2 (Y.map fun x=>[V.str x])),(5,.lst 0 ((Sy X Y).map fun r=>[V.lst 0 (r.map fun x=>[iV x])])),(6,.sl 0 0 0 X.length 1 true),(7,iV (a.2.1:Int)),(25,iV (X.length:Int)),(26,iV (a.1:Int))]) (fun a=>[.row (Dd (a.2.2++List.replicate (X.length - a.1) 0)) 3 0 0]) (fun a=>a.1<=X.length/\a.2.1<=Y.length/\a.2.2.length=a.1/\a.2.2++Dj a.2.1 (X.drop a.1) (Y.drop a.2.1)=Dj 0 X Y) ?_ (0,0,[]) ⟨A0 _,A0 _,rfl,by simp⟩;rintro⟨i,j,D⟩ ⟨hi,hj,hD,hA⟩ ih;simp only at hi hj hD hA ih;refine B4 (by delta lp15_1;exact rfl) ?_;rcases Bu i X.length with qb | qb;rotate_left
 .obtain rfl:i=X.length:=by omega
  rw[List.drop_length,Dj,Cy]at hA;subst hA;rw[Hh,List.replicate_zero,Cy];simp only[go_sem,Ck qb];exact A72 hD
 obtain⟨x,hx,-,-⟩:=C3 qb;have g1:(0<=(i:Int))=True:=eq_true (by omega);have g2:((i:Int)<(X.length:Int))=True:=eq_true (by omega);have ql:(D++List.replicate (X.length - i) (0:Int)).length=X.length:=by rw[Aj,Adm];omega
 have m1:(i+1<=(Dd (D++List.replicate (X.length - i) 0)).length)=True:=eq_true (by rw[Uo,ql];omega);obtain⟨nx,qI⟩:∃ nx:Int->List Int,∀ v,nx v=(D++[v])++List.replicate (X.length - (i+1)) 0:=⟨_,fun _=>rfl⟩;have e1:∀ v:Int,List.take i (Dd (D++List.replicate (X.length - i) 0))++iV v::List.drop (i+1) (Dd (D++List.replicate (X.length - i) 0))=Dd (nx v):=fun v=>by rw[An5 (by omega),Azq hD qb,qI]
 have i1:IntKind.i64.wrap ((i:Int)+1)=((i+1:Nat):Int):=Bk (by omega);simp only[go_sem,Bx qb];refine B3 (α:=Nat) (fun k=>Y.length - k) (fun k=>[(0,SL z1 t1 (X.map fun x=>[V.str x])),(1,SL z2 t2 (Y.map fun x=>[V.str x])),(5,.lst 0 ((Sy X Y).map fun r=>[V.lst 0 (r.map fun x=>[iV x])])),(6,.sl 0 0 0 X.length 1 true),(7,iV (j:Int)),(8,iV (i:Int)),(9,iV (k:Int)),(25,iV (X.length:Int)),(26,iV (i:Int))]) (fun _=>[.row (Dd (D++List.replicate (X.length - i) 0)) 3 0 0]) (fun k=>j<=k/\k<=Y.length/\∀ k',j<=k'->k'<k->¬ Pj X Y i j k') ?_ j ⟨Ai _,hj,fun k' h1 h2=>by omega⟩;rintro k ⟨jm,hk,qf⟩ kh;refine B4 (by delta lp15_0;exact rfl) ?_;rcases Bu k Y.length with qc | qc;rotate_left
 .obtain rfl:k=Y.length:=by omega
  rw[Azc qb qf]at hA;simp only[go_sem,Ck qc,qd,g1,g2,m1,c3,e1,i1];rw[qI];refine Bg (ih (i+1,j,D++[-1]) (by simp only;omega) ⟨qb,hj,by simp[hD],?_⟩) rfl;rw[Br];exact hA
 obtain⟨y,hy,-,-⟩:=C3 qc;have k1:IntKind.i64.wrap ((k:Int)+1)=((k+1:Nat):Int):=Bk (by omega);by_cases e:x=y;rotate_left
 .have f1:(x==y)=false:=by simp[e]
  simp only[go_sem,Bx qc,qd];refine Ag (by kernel_rfl) ?_;simp only[go_sem,Av,hx,hy,f1];simp only[go_sem,k1];refine Bg (kh (k+1) (by omega) ⟨by omega,qc,fun k' h1 h2=>?_⟩) rfl;rcases Bu k' k with h | h
  .exact qf k' h1 h
  .obtain rfl:k'=k:=by omega
   intro hh;have:=hh.1;rw[hx,hy]at this;exact e (Ky this)
 have f1:(x==y)=true:=by simp[e]
 have T1:=An4 (An1 X Y (i:=i+1) qb);have T0:=An4 (An1 X Y (i:=i) (Wj qb));have n1:=Asc (Aa7 X Y (i:=i+1) (k:=k+1) qc);have n0:=Asc (Aa7 X Y (i:=i) (k:=j) hj);have l1:=Apx X Y (i+1) (k+1);have f2:IntKind.i64.wrap (1+((D2 X Y (i+1) (k+1):Nat):Int))=((1+D2 X Y (i+1) (k+1):Nat):Int):=by rw[Ec (by omega)];rfl
 by_cases hh:1+D2 X Y (i+1) (k+1)=D2 X Y i j
 .have f3:(((1+D2 X Y (i+1) (k+1):Nat):Int)==((D2 X Y i j:Nat):Int))=true:=by rw[hh];simp
  have qE:Pj X Y i j k:=⟨by rw[hx,hy,e],hh⟩;rw[A3o qb jm qc qE qf]at hA;simp only[go_sem,Bx qc,qd];refine Ag (by kernel_rfl) ?_;simp only[go_sem,Av,hx,hy,f1,i1,k1,T1,T0,n1,n0,f2,f3];simp only[go_sem,g1,g2,m1,c3,e1,k1,i1];rw[qI];refine Bg (ih (i+1,k+1,D++[(k:Int)]) (by simp only;omega) ⟨qb,qc,by simp[hD],?_⟩) rfl;rw[Br];exact hA
 .have f3:(((1+D2 X Y (i+1) (k+1):Nat):Int)==((D2 X Y i j:Nat):Int))=false:=by
   rw[beq_eq_false_iff_ne];omega
  simp only[go_sem,Bx qc,qd];refine Ag (by kernel_rfl) ?_;simp only[go_sem,Av,hx,hy,f1,i1,k1,T1,T0,n1,n0,f2,f3];refine Bg (kh (k+1) (by omega) ⟨by omega,qc,fun k' h1 h2=>?_⟩) rfl;rcases Bu k' k with h | h
  .exact qf k' h1 h
  .obtain rfl:k'=k:=by omega
   exact fun h=>hh h.2
def A3x{keep:List Nat}{c:AC}{id:Nat}{k:List It}{e:Env}{σ:St}{Q:Env->St->Prop}(P:Env->St->Prop)(h1:∀ k',(∀ e σ,P e σ->W TT PT k' e σ Q)->W TT PT (.l keep c::.b id::k') e σ Q)(h2:∀ e σ,P e σ->W TT PT k e σ Q):W TT PT (.l keep c::.b id::k) e σ Q:=h1 k h2
structure PY (p:Gp):Prop where
 px:PX p
 sz:∀ t∈p.thrs,Sp.szs t.body<=4096
def Afr{p:Gp}(h:PX p):(C6 (Fz p)).length<=1000000000000:=by
 have h1:(C6 (Fz p)).length=(Iy p).length:=Ud p.thrs;have h2:(Iy p).length=_:=Alo p.thrs;have h3:=Agj h.sz;have h4:p.thrs.length*10000<=100000000*10000:=Fq _ h.few;omega
def Awm{α β:Type}[DecidableEq α][DecidableEq β](P Q:List (β × List α))(i:Nat):(G8 (P.take i) Q).length<=(C6 P).length:=by
 rw[Aef];exact Afp P i
def Alw{p:Gp}{i:Nat}{x:Tp}(h:p.thrs[i]?=some x):(Fz p)[i]?=some (x.nm,Sp.hdss x.body):=by
 unfold Fz;rw[Av,h];rfl
def Akr(p:Gp):(Fz p).length=p.thrs.length:=by unfold Fz;rw[Ba]
def A3y{α:Type}[DecidableEq α]{X Y:List α}{m:Nat}{v:Int}(h:(Dj 0 X Y)[m]?=some v): -1<=v/\v<Y.length:=by
 rcases Aa6 X 0 Y m v h with rfl | ⟨k,rfl,h1,-⟩
 .omega
 .omega
def Awn{b:Nat}{A:List Int}{m:Nat}{v:Int}(h:A[m]?=some v):Je b (A.take (m+1))=Je b (A.take m)++[if 0<=v then v+b else v]:=by
 unfold Je;rw[Mj,h,Adp,Ei,Zi]
def Awo(a b:List Int):Dg (a++b)=Dg a++Dg b:=by unfold Dg;rw[Ei]
structure MQ (p q:Gp) (s:St) (u:V) (L:List Int):Prop where
 gw:GW s 1 3 2 u (Dg L)
 s0:s[0]?=some (.row [SL p.dz p.dt (p.decls.map Dp.row),SL p.tz p.tt (p.thrs.map Tp.row)] 28 0 0)
 s1:s[1]?=some (.row [SL q.dz q.dt (q.decls.map Dp.row),SL q.tz q.tt (q.thrs.map Tp.row)] 28 0 0)
def Arl{p q:Gp}{s:St}{u:V}{L:List Int}(h:MQ p q s u L):2<=s.length:=(Aq.1 h.s1).1
def A3z{p q:Gp}{s:St}{u:V}{L:List Int}(h:MQ p q s u L)(l:St):MQ p q (s++l) u L:=⟨P8 h.gw,B5 h.s0,B5 h.s1⟩
def A73{p q:Gp}{s:St}{u:V}{L:List Int}(h:MQ p q s u L)(v:Int)(hb:L.length<=2000000000000):∃ u' s',Ef 8 (1,3) u (.lst 1 [[iV v]]) s=some (u',s')/\MQ p q s' u' (L++[v])/\u'.cellB=true:=by
 have hl:=Arl h;obtain⟨u',s',ha,g',l',kp,-,-⟩:=Qi (bytes:=8) (y:=.lst 1 [[iV v]]) (ys:=[[iV v]]) h.gw (by omega) rfl (by omega) (Agn _) (by simp) (by simp[V.rowB]) (by rw[Uf];simp only[Ih];omega);refine⟨u',s',ha,⟨?_,?_,?_⟩,Dq g'⟩
 .rw[Awo];exact g'
 .rw[kp 0 (by omega) fun e=>by have:=(Dz h.gw 0 e).1;omega];exact h.s0
 .rw[kp 1 (by omega) fun e=>by have:=(Dz h.gw 1 e).1;omega];exact h.s1
def A74{p q:Gp}{s:St}{u:V}{L:List Int}(h:MQ p q s u L):FR u s (SL true 0 (Dg L)):=Aht h.gw (by omega) (Agn L) (Ap3 L)
set_option maxHeartbeats 4000000 in
def Ae2{p q:Gp}(hp:PY p)(hq:PY q):Fn TT PT 7 [.agg p.row,.agg q.row] (SL true 0 (Dg (Jw p q))):=by
 have ll:=Afr hp.px;have lq:=Afr hq.px;have jO:=hp.px.few;have jP:=hq.px.few;have qQ:=Aln hp.px;have qR:=Aln hq.px;have jz:=Vp p;have jA:=Vp q;have qL:=Ha p;have qM:=Ha q;have jp:(p.thrs.map Dt).length=p.thrs.length:=Ba ..;have jq:(q.thrs.map Tp.row).length=q.thrs.length:=Ba ..;rw[qL]at qQ jz ⊢;rw[qM]at qR jA ⊢;refine Bz T7 rfl ?_;have m0:MQ p q [.row [SL p.dz p.dt (p.decls.map Dp.row),SL p.tz p.tt (p.thrs.map Tp.row)] 28 0 0,.row [SL q.dz q.dt (q.decls.map Dp.row),SL q.tz q.tt (q.thrs.map Tp.row)] 28 0 0] .nils []:=⟨Gk,rfl,rfl⟩;simp only[go_sem];refine Ag (by kernel_rfl) ?_;simp only[go_sem];refine Bl qQ (by simp only[go_sem]) ?_;simp only[go_sem];refine Bl qR (by simp only[go_sem]) ?_;simp only[go_sem,jp];unfold Jw;generalize hP:Fz p=P at *;generalize hQ:Fz q=Q at *;refine B3 (α:=Nat × St × V) (fun a=>p.thrs.length - a.1) (fun a=>[(2,.ptr 0 0 0),(3,.ptr 1 0 0),(6,.lst 0 (q.thrs.map Dt)),(7,a.2.2),(20,.lst 0 (p.thrs.map Dt)),(21,iV (p.thrs.length:Int)),(22,iV (a.1:Int))]) (fun a=>a.2.1) (fun a=>a.1<=p.thrs.length/\MQ p q a.2.1 a.2.2 (G8 (P.take a.1) Q)) ?_ (0,_,.nils) ⟨A0 _,m0⟩;clear m0;rintro⟨i,s,u⟩ ⟨hi,hm⟩ ih;simp only at hi hm ih;refine B4 (by delta lp7_2;exact rfl) ?_;rcases Bu i p.thrs.length with qb | qb;rotate_left
 .have jl:i=p.thrs.length:=by omega
  have qS:P.length=p.thrs.length:=by rw[<-hP,Akr]
  rw[jl,<-qS,D8]at hm;simp only[go_sem,Ck qb];exact A74 hm
 obtain⟨x,hx,-,jH⟩:=C3 qb;have qz:=Sq x;have jj:P[i]?=some (x.nm,Sp.hdss x.body):=by rw[<-hP];exact Alw hx
 have qn:((Sp.hdss x.body).map fun x=>[V.str x]).length=(Sp.hdss x.body).length:=Ba ..;have jI:(Sp.hdss x.body).length<=4096:=by rw[K4];exact hp.sz x jH
 have jt:Dt x=[SL true 0 ((Sp.hdss x.body).map fun x=>[V.str x])]:=rfl;have jE:=At3 Q jj;generalize hX:Sp.hdss x.body=X at *;have i1:IntKind.i64.wrap ((i:Int)+1)=((i+1:Nat):Int):=Bk (by omega);have qp:=Dq hm.gw;have qt:=hm.s0;have qk:=hm.s1;simp only[go_sem,Bx qb,Av,hx,jt,qk,jq];refine A3x (fun e s'=>∃ (k:Nat) (v:V) (b:Nat) (Y:List (List UInt8)),e=[(2,.ptr 0 0 0),(3,.ptr 1 0 0),(6,.lst 0 (q.thrs.map Dt)),(7,u),(8,iV (i:Int)),(9,SL true 0 (X.map fun x=>[V.str x])),(10,iV (b:Int)),(11,v),(20,.lst 0 (p.thrs.map Dt)),(21,iV (p.thrs.length:Int)),(22,iV (i:Int)),(28,SL q.tz q.tt (q.thrs.map Tp.row)),(29,iV (q.thrs.length:Int)),(30,iV (k:Int))]/\v=SL true 0 (Y.map fun x=>[V.str x])/\Y.length<=4096/\b<=(C6 Q).length/\He (x.nm,X) Q=Je b (Dj 0 X Y)/\MQ p q s' u (G8 (P.take i) Q)) ?_ ?_
 .intro k' qc;refine B3 (α:=Nat × St) (fun a=>q.thrs.length - a.1) (fun a=>[(2,.ptr 0 0 0),(3,.ptr 1 0 0),(6,.lst 0 (q.thrs.map Dt)),(7,u),(8,iV (i:Int)),(9,SL true 0 (X.map fun x=>[V.str x])),(10,iV ((Ji Q a.1:Nat):Int)),(11,.nils),(20,.lst 0 (p.thrs.map Dt)),(21,iV (p.thrs.length:Int)),(22,iV (i:Int)),(28,SL q.tz q.tt (q.thrs.map Tp.row)),(29,iV (q.thrs.length:Int)),(30,iV (a.1:Int))]) (fun a=>a.2) (fun a=>a.1<=q.thrs.length/\Rf x.nm Q a.1/\MQ p q a.2 u (G8 (P.take i) Q)) ?_ (0,s) ⟨A0 _,Azh _ _,hm⟩;clear hm qt qk;clear s;rintro⟨k,s⟩ ⟨hk,qf,hm⟩ kh;simp only at hk qf hm kh;refine B4 (by delta lp7_0;exact rfl) ?_;rcases Bu k q.thrs.length with h' | h';rotate_left
  .have qT:k=Q.length:=by rw[<-hQ,Akr];omega
   rw[qT]at qf;have:=(Awg (s:=X) qf).2;simp only[go_sem,Ck h'];exact qc _ _ ⟨k,.nils,Ji Q k,[],rfl,by simp[SL],by simp,Afp Q k,by rw[qT];exact this,hm⟩
  obtain⟨y,hy,-,jJ⟩:=C3 h';have qZ:=Sq y;have qD:Q[k]?=some (y.nm,Sp.hdss y.body):=by rw[<-hQ];exact Alw hy
  have qd:((Sp.hdss y.body).map fun x=>[V.str x]).length=(Sp.hdss y.body).length:=Ba ..;have jK:(Sp.hdss y.body).length<=4096:=by rw[K4];exact hq.sz y jJ
  have qs:Dt y=[SL true 0 ((Sp.hdss y.body).map fun x=>[V.str x])]:=rfl;have qV:=Auy qD;have jn:=Afp Q k;simp only at qV;generalize hY:Sp.hdss y.body=Y at *;have qr:=Arl hm;have k1:IntKind.i64.wrap ((k:Int)+1)=((k+1:Nat):Int):=Bk (by omega);have w1:IntKind.i64.wrap (((Ji Q k:Nat):Int)+(Y.length:Int))=((Ji Q (k+1):Nat):Int):=by rw[qV,Ec (by omega)];rfl
  have qi:=A3z hm [.row [.str y.nm,iV y.line,SL y.lz y.lt (y.locals.map fun s=>[V.str s]),SL y.bz y.bt (y.body.map Sp.row)] 51 0 0];obtain⟨s',e'⟩:∃ s':St,s'=s++[.row [.str y.nm,iV y.line,SL y.lz y.lt (y.locals.map fun s=>[V.str s]),SL y.bz y.bt (y.body.map Sp.row)] 51 0 0]:=⟨_,rfl⟩;have ja:s'[s.length]?=some (.row [.str y.nm,iV y.line,SL y.lz y.lt (y.locals.map fun s=>[V.str s]),SL y.bz y.bt (y.body.map Sp.row)] 51 0 0):=by rw[e'];simp
  rw[<-e']at qi;have qW:=qi.s0;by_cases e:y.nm=x.nm
  .have f1:(y.nm==x.nm)=true:=by simp[e]
   simp only[go_sem,Bx h',Av,hy,qZ];rw[<-e'];refine Ag (by kernel_rfl) ?_;simp only[go_sem,ja,qW,Av,hx,qz];simp only[go_sem,f1,Av,hy,qs];exact qc _ _ ⟨k,_,Ji Q k,Y,rfl,rfl,jK,jn,Azj qf qD e,qi⟩
  .have f1:(y.nm==x.nm)=false:=by simp[e]
   simp only[go_sem,Bx h',Av,hy,qZ];rw[<-e'];refine Ag (by kernel_rfl) ?_;simp only[go_sem,ja,qW,Av,hx,qz];simp only[go_sem,f1,Av,hy,qs,qd,w1,k1];exact Bg (kh (k+1,s') (by simp only;omega) ⟨h',Azi qf qD e,qi⟩) rfl
 clear hm qt qk;clear s;rintro _ s ⟨k,v,b,Y,rfl,rfl,qd,hb,qJ,hm⟩;have qa:=Azr true true 0 0 X Y jI qd;have je:(Dj 0 X Y).length=X.length:=Abw X 0 Y;generalize hA:Dj 0 X Y=A at *;have qe:(Dg A).length=X.length:=by rw[Uf,je]
 simp only[go_sem];refine Ad qa (by simp only[go_sem]) ?_;simp only[go_sem,qe];refine B3 (α:=Nat × St × V) (fun a=>X.length - a.1) (fun a=>[(2,.ptr 0 0 0),(3,.ptr 1 0 0),(6,.lst 0 (q.thrs.map Dt)),(7,a.2.2),(10,iV (b:Int)),(20,.lst 0 (p.thrs.map Dt)),(21,iV (p.thrs.length:Int)),(22,iV (i:Int)),(58,.lst 0 (Dg A)),(59,iV (X.length:Int)),(60,iV (a.1:Int))]) (fun a=>a.2.1) (fun a=>a.1<=X.length/\MQ p q a.2.1 a.2.2 (G8 (P.take i) Q++Je b (A.take a.1))) ?_ (0,s,u) ⟨A0 _,by simpa[Je] using hm⟩;clear hm qp;clear s u;rintro⟨m,s,u⟩ ⟨jw,hm⟩ mh;simp only at jw hm mh;refine B4 (by delta lp7_1;exact rfl) ?_;rcases Bu m X.length with h' | h';rotate_left
 .have ju:m=A.length:=by omega
  rw[ju,D8,<-qJ,<-jE]at hm;simp only[go_sem,Ck h',i1];exact Bg (ih (i+1,s,u) (by simp only;omega) ⟨qb,hm⟩) rfl
 obtain⟨v,hv⟩:∃ v,A[m]?=some v:=⟨_,A2 (by omega)⟩;have qY:=A3y (X:=X) (Y:=Y) (m:=m) (by rw[hA];exact hv);have qX:(Dg A)[m]?=some [iV v]:=by unfold Dg;rw[Av,hv];rfl
 have jC:=Awn (b:=b) hv;have m1:IntKind.i64.wrap ((m:Int)+1)=((m+1:Nat):Int):=Bk (by omega);have jQ:=Awm P Q i
 obtain⟨w,hw⟩:∃ w:Int,w=if 0<=v then v+b else v:=⟨_,rfl⟩
 obtain⟨u',s',ha,qi,jN⟩:=A73 hm w (by rw[Aj];unfold Je;rw[Ba,Gz];omega);rw[Br,hw,<-jC]at qi;by_cases h0:0<=v
 .have f1:decide (0<=v)=true:=by simp[h0]
  have f2:IntKind.i64.wrap (v+(b:Int))=w:=by rw[hw,if_pos h0,Ec (by omega)]
  simp only[go_sem,Bx h',qX,f1,f2,ha,m1];exact Bg (mh (m+1,s',u') (by simp only;omega) ⟨h',qi⟩) rfl
 .have f1:decide (0<=v)=false:=by simp[h0]
  have f2:w=v:=by rw[hw,if_neg h0]
  rw[f2]at ha;simp only[go_sem,Bx h',qX,f1,ha,m1];exact Bg (mh (m+1,s',u') (by simp only;omega) ⟨h',qi⟩) rfl
def Aba{s:List UInt8}{g:Gp}(h:Jd s=some g):PY g:=by
 obtain⟨a,b,c⟩:=Atw h;exact⟨Ba0 a b fun t ht=>by have:=c t ht;omega,c⟩
set_option maxHeartbeats 1000000 in
def Azs(z1 z2:Bool)(t1 t2:Nat)(l:List Int)(hl:l.length<=1000000000000000):Fn TT PT 13 [SL z1 t1 (Dg l),SL z2 t2 (Dg l)] (.bool true):=by
 refine Bz T13 rfl ?_;have jo:=Uf l;simp only[go_sem,jo,bne_self_eq_false];refine B3 (α:=Nat) (fun i=>l.length - i) (fun i=>[(0,SL z1 t1 (Dg l)),(1,SL z2 t2 (Dg l)),(12,iV (l.length:Int)),(13,iV (i:Int))]) (fun _=>[]) (fun i=>i<=l.length) ?_ 0 (A0 _);intro i hi ih;refine B4 (by delta lp13_0;exact rfl) ?_;rcases Bu i l.length with h' | h'
 .obtain⟨x,hx,-,-⟩:=C3 h';have qz:(Dg l)[i]?=some [iV x]:=by unfold Dg;rw[Av,hx];rfl
  simp only[go_sem,Bx h'];refine Ag (by kernel_rfl) ?_;simp only[go_sem,qz,bne_self_eq_false];simp only[go_sem,Bk (show i<9223372036854775807 by omega)];exact Bg (ih (i+1) (by omega) h') rfl
 .simp only[go_sem,Ck h'];exact Ap rfl rfl
def Ap4{s:List UInt8}{g:Gp}{v:V}(h:Jd s=some g)(hv:V5 s v):v=.tup [.agg g.row,iV 0,iV 0]:=by
 unfold V5 at hv;rw[h]at hv;exact hv
def A30{a b c:List UInt8}(h1:a≠c)(h2:b≠c)(h3:a≠b):Dj 0 [a,b] [c,a,b]=[1,2]:=by
 have l1:Ex [b] [b]=1:=by simp[O5,Nv]
 have l2:Ex [a,b] [c,a,b]=2:=by simp[O5,Nv,Qp,h1,h2,h3]
 have e1:Lh a [b] [c,a,b]=some 1:=by simp[Lh,Sx,List.range_succ,List.range_zero,l1,l2,h1.symm]
 have e2:Lh b [] [b]=some 0:=Anx b [];rw[Dj,e1];simp only[Zf,Ll];rw[Dj,e2];simp[Dj]
def Bb9:(Jd [118,97,114,32,120,59,32,116,104,114,101,97,100,32,109,97,105,110,40,41,32,123,32,120,32,61,32,49,59,32,120,32,61,32,50,59,32,125]).map Fz=some [([109,97,105,110],[[120,32,61,32,49,59],[120,32,61,32,50,59]])]:=by kernel_rfl
def Bca:(Jd [118,97,114,32,120,59,32,116,104,114,101,97,100,32,109,97,105,110,40,41,32,123,32,120,32,61,32,51,59,32,120,32,61,32,49,59,32,120,32,61,32,50,59,32,125]).map Fz=some [([109,97,105,110],[[120,32,61,32,51,59],[120,32,61,32,49,59],[120,32,61,32,50,59]])]:=by kernel_rfl
def Ba2{p q:Gp}(h1:Fz p=[([109,97,105,110],[[120,32,61,32,49,59],[120,32,61,32,50,59]])])(h2:Fz q=[([109,97,105,110],[[120,32,61,32,51,59],[120,32,61,32,49,59],[120,32,61,32,50,59]])]):Jw p q=[1,2]:=by
 unfold Jw;rw[h1,h2,Z4,show G8 ([]:List (List UInt8 × List (List UInt8))) [([109,97,105,110],[[120,32,61,32,51,59],[120,32,61,32,49,59],[120,32,61,32,50,59]])]=[] from rfl,Cy];unfold He Je;rw[Fg,if_pos rfl];simp only[Rm];rw[A30 (by decide) (by decide) (by decide)];rfl
set_option maxHeartbeats 2000000 in
def Aac:Fn TT PT 6 [] (.bool true):=by
 obtain⟨p,hp,sp⟩:=Bo.1 Bb9;obtain⟨q,hq,sq⟩:=Bo.1 Bca;obtain⟨v,q1,hv⟩:=Aa2 [118,97,114,32,120,59,32,116,104,114,101,97,100,32,109,97,105,110,40,41,32,123,32,120,32,61,32,49,59,32,120,32,61,32,50,59,32,125];obtain⟨w,q2,hw⟩:=Aa2 [118,97,114,32,120,59,32,116,104,114,101,97,100,32,109,97,105,110,40,41,32,123,32,120,32,61,32,51,59,32,120,32,61,32,49,59,32,120,32,61,32,50,59,32,125];rw[Ap4 hp hv]at q1;rw[Ap4 hq hw]at q2;have hm:=Ae2 (Aba hp) (Aba hq);rw[Ba2 sp sq]at hm;have hs:=Azs true false 0 1 [1,2] (by decide);rw[show SL false 1 (Dg [1,2])=.lst 1 [[iV 1],[iV 2]] from rfl]at hs;have qL:=Ha p;have qM:=Ha q;rw[qL]at q1 hm;rw[qM]at q2 hm;refine Bz T6 rfl ?_;simp only[go_sem];refine Ad q1 (by simp only[go_sem]) ?_;simp only[go_sem];refine Ad q2 (by simp only[go_sem]) ?_;simp only[go_sem,beq_self_eq_true];refine Ad hm (by simp only[go_sem]) ?_;simp only[go_sem];refine Ad hs (by simp only[go_sem]) ?_;simp only[go_sem];exact Ap rfl rfl
def zeroG:Gp:=⟨true,0,[],true,0,[]⟩
def Awp:zeroG.row=[.nils,.nils]:=by rw[Ha];simp[zeroG,SL]
def Arm{s:List UInt8}{v:V}(h:V5 s v):∃ (g:Gp) (e ln:Int),v=.tup [.agg g.row,iV e,iV ln]/\(e=0->Jd s=some g)/\(e≠0->g=zeroG):=by
 unfold V5 at h
 cases hp:Jd s with
 | some g=>rw[hp]at h;exact⟨g,0,0,h,fun _=>rfl,fun h=>absurd rfl h⟩
 | none=>
  rw[hp]at h;obtain⟨e,ln,he,rfl⟩:=h;exact⟨zeroG,e,ln,by rw[Awp],fun h=>absurd h he,fun _=>rfl⟩
def Asd{P g:Gp}(hP:OKp P)(h:Jd (Fe P)=some g):(g.thrs.map fun t=>t.nm).Nodup:=by
 have hl:(Fe P).length<=4096:=by
  rcases Bu 4096 (Fe P).length with h1 | h1
  .unfold Jd at h;rw[if_pos h1]at h;cases h
  .exact h1
 obtain⟨g',h1,h2⟩:=Aum A6t A6s hP.sh hl;rw[h]at h1;obtain rfl:=Ky h1;rw[<-Azk h2];exact hP.nd
def VeR(v:V):Prop:=∃ (A B:Gp) (ok:Bool),v=.tup [.agg A.row,.agg B.row,.bool ok]/\(ok=true->PY A/\PY B/\∃ P,OKp P/\Jd (Fe P)=some A)
def Azt{g:V}{kill:List Nat}{x y:AC}{k:List It}{e:Env}{σ:St}{Q:Env->St->Prop}(P:Env->St->Prop)(h1:∀ k',(∀ e σ,P e σ->W TT PT k' e σ Q)->WC TT PT g kill x y k' e σ Q)(h2:∀ e σ,P e σ->W TT PT k e σ Q):WC TT PT g kill x y k e σ Q:=h1 k h2
set_option maxHeartbeats 4000000 in
def Aj1(z0 z1 z2:Bool)(t0 t1 t2:Nat)(a b c:List UInt8)(un:Bool)(ha:a.length<=9223372036854775807)(hb:b.length<=9223372036854775807)(hc:c.length<=9223372036854775807):∃ v,Fn TT PT 5 [.agg [SL z0 t0 (Be a),SL z1 t1 (Be b),SL z2 t2 (Be c),.bool un]] v/\VeR v:=by
 obtain⟨P,q1,qg⟩:=Anr z0 t0 a ha;obtain⟨P2,q2,qx⟩:=Anr z2 t2 c hc;have qS:=qg.len;have q3:=Ams (Ag1 qg.sh) (by omega);obtain⟨v4,q4,jF⟩:=Aa2 (Fe P);obtain⟨A,eA,lA,rfl,qP,jd⟩:=Arm jF;obtain⟨E,q5,hd,hE⟩:=A3s qg z1 t1 b hb;obtain⟨jb,lE⟩:=Ba1 qg hd hE;have ji:=Ha P;have qC:=Ha P2;have qe:=Ha A;have jg:=Ha E;rw[ji]at q1 q3 q5;rw[qC]at q2;rw[qe]at q4;rw[jg]at q5;refine Ahv T5 rfl ?_;simp only[go_sem];refine Ad q1 (by simp only[go_sem]) ?_;simp only[go_sem];refine Ad q3 (by simp only[go_sem]) ?_;simp only[go_sem];refine Ad q4 (by simp only[go_sem]) ?_;simp only[go_sem];refine Ag (by kernel_rfl) ?_;simp only[go_sem];refine Bl q1 (by simp only[go_sem]) ?_;simp only[go_sem];refine Bl q5 (by simp only[go_sem]) ?_;simp only[go_sem];refine Az ?_;simp only[go_sem];refine Az ?_;simp only[go_sem];refine Azt (fun e s=>∃ R:Gp,(CnG R/\(Fe R).length<=20000000000)/\(e=[(1,.ptr 0 0 0),(2,.ptr 1 0 0),(3,.ptr 2 0 0),(5,.ptr 3 0 0),(8,.ptr 4 0 0)]\/e=[(2,.ptr 1 0 0),(3,.ptr 2 0 0),(5,.ptr 3 0 0),(8,.ptr 4 0 0)])/\s=[.row [SL z0 t0 (Be a),SL z1 t1 (Be b),SL z2 t2 (Be c),.bool un] 24 0 0,.row [.nils,.nils] 28 0 0,.row [.nils,.nils] 28 0 0,.row [SL A.dz A.dt (A.decls.map Dp.row),SL A.tz A.tt (A.thrs.map Tp.row)] 28 0 0,.row [SL R.dz R.dt (R.decls.map Dp.row),SL R.tz R.tt (R.thrs.map Tp.row)] 28 0 0]) ?_ ?_
 .intro k' qc;cases un
  .simp only[go_sem];exact qc _ _ ⟨E,⟨jb,lE⟩,.inl rfl,rfl⟩
  .simp only[go_sem];refine Ad q2 (by simp only[go_sem]) ?_;simp only[go_sem];exact qc _ _ ⟨P2,⟨Ag1 qx.sh,by have:=qx.len;omega⟩,.inr rfl,rfl⟩
 rintro _ _ ⟨R,⟨jc,lR⟩,he,rfl⟩;have q6:=Ams jc (by omega);obtain⟨v7,q7,jG⟩:=Aa2 (Fe R);obtain⟨B,eB,lB,rfl,jf,jM⟩:=Arm jG;have jk:=Ha R;have qj:=Ha B;have qG:(A.thrs.map Tp.row).length=A.thrs.length:=Ba ..;rw[jk]at q6;rw[qj]at q7
 have qB:∀ ok:Bool,(ok=true->eB=0/\0<A.thrs.length)->VeR (.tup [.agg [SL A.dz A.dt (A.decls.map Dp.row),SL A.tz A.tt (A.thrs.map Tp.row)],.agg [SL B.dz B.dt (B.decls.map Dp.row),SL B.tz B.tt (B.thrs.map Tp.row)],.bool ok]):=fun ok h=>by
  refine⟨A,B,ok,by rw[qe,qj],fun qu=>?_⟩;obtain⟨h1,h2⟩:=h qu
  have h3:eA=0:=Decidable.byContradiction fun jx=>by
   have:=jd jx;rw[this]at h2;simp[zeroG]at h2
  exact⟨Aba (qP h3),Aba (jf h1),P,qg,qP h3⟩
 rcases he with rfl | rfl
 all_goals (
  simp only[go_sem];refine Ad q6 (by simp only[go_sem]) ?_;simp only[go_sem];refine Ad q7 (by simp only[go_sem]) ?_;simp only[go_sem];by_cases h0:eB=0
  .by_cases h1:0<A.thrs.length
   .have f1:(eB==0)=true:=by simp[h0]
    have f2:(0<(A.thrs.length:Int))=True:=eq_true (by omega);refine Ag (by kernel_rfl) ?_;simp only[go_sem,f1,qG,f2];refine Az ?_;simp only[go_sem];refine Az ?_;simp only[go_sem];refine⟨.tup [.agg [SL A.dz A.dt (A.decls.map Dp.row),SL A.tz A.tt (A.thrs.map Tp.row)],.agg [SL B.dz B.dt (B.decls.map Dp.row),SL B.tz B.tt (B.thrs.map Tp.row)],.bool true],?_,qB true fun _=>⟨h0,h1⟩⟩;simp only[go_sem];exact Js (by simp only[go_sem])
   .have f1:(eB==0)=true:=by simp[h0]
    have f2:(0<(A.thrs.length:Int))=False:=eq_false (by omega);refine Ag (by kernel_rfl) ?_;simp only[go_sem,f1,qG,f2];refine Az ?_;simp only[go_sem];refine Az ?_;simp only[go_sem];refine⟨.tup [.agg [SL A.dz A.dt (A.decls.map Dp.row),SL A.tz A.tt (A.thrs.map Tp.row)],.agg [SL B.dz B.dt (B.decls.map Dp.row),SL B.tz B.tt (B.thrs.map Tp.row)],.bool false],?_,qB false fun h=>by cases h⟩;simp only[go_sem];exact Js (by simp only[go_sem])
  .have f1:(eB==0)=false:=by simp[h0]
   refine Ag (by kernel_rfl) ?_;simp only[go_sem,f1,qG];refine Az ?_;simp only[go_sem];refine Az ?_;simp only[go_sem];refine⟨.tup [.agg [SL A.dz A.dt (A.decls.map Dp.row),SL A.tz A.tt (A.thrs.map Tp.row)],.agg [SL B.dz B.dt (B.decls.map Dp.row),SL B.tz B.tt (B.thrs.map Tp.row)],.bool false],?_,qB false fun h=>by cases h⟩;simp only[go_sem]
   exact Js (by simp only[go_sem]))
def Asv{p q:Gp}(hp:PY p):(Jw p q).length<=1000000000000:=by
 rw[Aeh];have h1:(C6 (Fz p)).length=(Iy p).length:=Ud p.thrs;have:=Afr hp.px;omega
set_option maxHeartbeats 4000000 in
def At6(z0 z1 z2:Bool)(t0 t1 t2:Nat)(a b c:List UInt8)(un:Bool)(ha:a.length<=9223372036854775807)(hb:b.length<=9223372036854775807)(hc:c.length<=9223372036854775807):Fn TT PT 3 [.agg [SL z0 t0 (Be a),SL z1 t1 (Be b),SL z2 t2 (Be c),.bool un]] (.bool true):=by
 obtain⟨v,q1,A,B,ok,rfl,qu⟩:=Aj1 z0 z1 z2 t0 t1 t2 a b c un ha hb hc;have qe:=Ha A;have qj:=Ha B;rw[qe,qj]at q1;refine Bz T3 rfl ?_;simp only[go_sem];refine Ad q1 (by simp only[go_sem]) ?_;simp only[go_sem];cases ok
 .simp only[go_sem];refine Ad Aac (by simp only[go_sem]) ?_;simp only[go_sem];exact Ap rfl rfl
 obtain⟨pA,pB,P,qg,qK⟩:=qu rfl;have qH:=Asd qg qK;have g1:=Ae2 pA pA;have g2:=Afm pA.px;have jv:=Asv (q:=A) pA;have qw:=At4 qH;have qy:=Aeh A A;rw[qe]at g1 g2;generalize Jw A A=L at *;have ql:=Uf L;simp only[go_sem];refine Ad g1 (by simp only[go_sem]) ?_;simp only[go_sem,ql];refine B3 (α:=Nat) (fun i=>L.length - i) (fun i=>[(3,.ptr 1 0 0),(19,SL true 0 (Dg L)),(20,iV (L.length:Int)),(21,iV (i:Int))]) (fun _=>[.row [SL z0 t0 (Be a),SL z1 t1 (Be b),SL z2 t2 (Be c),.bool un] 24 0 0,.row [SL A.dz A.dt (A.decls.map Dp.row),SL A.tz A.tt (A.thrs.map Tp.row)] 28 0 0,.row [SL B.dz B.dt (B.decls.map Dp.row),SL B.tz B.tt (B.thrs.map Tp.row)] 28 0 0]) (fun i=>i<=L.length) ?_ 0 (A0 _);intro i hi ih;refine B4 (by delta lp3_0;exact rfl) ?_;rcases Bu i L.length with h' | h'
 .have hv:L[i]?=some (i:Int):=by
   rw[qw,Av,Wb (by rw[<-qy];exact h')];rfl
  have qY:(Dg L)[i]?=some [iV (i:Int)]:=by unfold Dg;rw[Av,hv];rfl
  simp only[go_sem,Bx h',qY,bne_self_eq_false,Bk (show i<9223372036854775807 by omega)];exact Bg (ih (i+1) (by omega) h') rfl
 .have f1:((L.length:Int)==((Iy A).length:Int))=true:=by rw[qy];simp
  simp only[go_sem,Ck h'];refine Ag (by kernel_rfl) ?_;simp only[go_sem];refine Bl g1 (by simp only[go_sem]) ?_;simp only[go_sem];refine Bl g2 (by simp only[go_sem]) ?_;simp only[go_sem,ql,f1];refine Bl Aac (by simp only[go_sem]) ?_;simp only[go_sem];exact Ap rfl rfl
set_option maxHeartbeats 8000000 in
def Atm(z0 z1 z2:Bool)(t0 t1 t2:Nat)(a b c:List UInt8)(un:Bool)(ha:a.length<=9223372036854775807)(hb:b.length<=9223372036854775807)(hc:c.length<=9223372036854775807):Fn TT PT 4 [.agg [SL z0 t0 (Be a),SL z1 t1 (Be b),SL z2 t2 (Be c),.bool un]] (.bool true):=by
 obtain⟨v,q1,A,B,ok,rfl,qu⟩:=Aj1 z0 z1 z2 t0 t1 t2 a b c un ha hb hc;have qe:=Ha A;have qj:=Ha B;rw[qe,qj]at q1;refine Bz T4 rfl ?_;simp only[go_sem];refine Ad q1 (by simp only[go_sem]) ?_;simp only[go_sem];cases ok
 .simp only[go_sem];refine Ad Aac (by simp only[go_sem]) ?_;simp only[go_sem];exact Ap rfl rfl
 obtain⟨pA,pB,P,qg,qK⟩:=qu rfl;have qH:=Asd qg qK;have g1:=Ae2 pA pB;have g2:=Afm pA.px;have g3:=Afm pB.px;have jv:=Asv (q:=B) pA;have qq:∀ (i:Nat) (k:Int),(Jw A B)[i]?=some k->_:=fun i k h=>At5 (q:=B) qH h
 have qy:=Aeh A B;have qh:=Aux (p:=A);rw[qe]at g1 g2;rw[qj]at g1 g3;generalize Jw A B=L at *;generalize Iy A=K at *;generalize Iy B=M at *;have ql:=Uf L;have f0:((L.length:Int) != (K.length:Int))=false:=by rw[qy];simp
 simp only[go_sem];refine Ag (by kernel_rfl) ?_;simp only[go_sem];refine Bl g2 (by simp only[go_sem]) ?_;simp only[go_sem];refine Bl g3 (by simp only[go_sem]) ?_;simp only[go_sem];refine Ad g1 (by simp only[go_sem]) ?_;simp only[go_sem,ql,f0];refine B3 (α:=Nat) (fun i=>L.length - i) (fun i=>[(6,SL true 0 K),(7,SL true 0 M),(8,SL true 0 (Dg L)),(33,SL true 0 (Dg L)),(34,iV (L.length:Int)),(35,iV (i:Int))]) (fun _=>[.row [SL z0 t0 (Be a),SL z1 t1 (Be b),SL z2 t2 (Be c),.bool un] 24 0 0,.row [SL A.dz A.dt (A.decls.map Dp.row),SL A.tz A.tt (A.thrs.map Tp.row)] 28 0 0,.row [SL B.dz B.dt (B.decls.map Dp.row),SL B.tz B.tt (B.thrs.map Tp.row)] 28 0 0]) (fun i=>i<=L.length) ?_ 0 (A0 _);intro i hi ih;refine B4 (by delta lp4_1;exact rfl) ?_;rcases Bu i L.length with h' | h';rotate_left
 .simp only[go_sem,Ck h'];refine Ad Aac (by simp only[go_sem]) ?_;simp only[go_sem];exact Ap rfl rfl
 have i1:IntKind.i64.wrap ((i:Int)+1)=((i+1:Nat):Int):=Bk (by omega);obtain⟨k,hk,-,-⟩:=C3 h';have qU:(Dg L)[i]?=some [iV k]:=by unfold Dg;rw[Av,hk];rfl
 rcases qq i k hk with rfl | ⟨m,nm,ln,n1,n2,rfl,e1,e2,qv⟩
 .have f1:((M.length:Int) <= -1)=False:=eq_false (by omega);simp only[go_sem,Bx h',qU];refine Ag (by kernel_rfl) ?_;simp only[go_sem,f1,Int.reduceLE];refine B3 (α:=Nat) (fun j=>1 - j) (fun j=>[(6,SL true 0 K),(7,SL true 0 M),(8,SL true 0 (Dg L)),(9,iV (i:Int)),(10,iV (-1)),(11,iV (j:Int)),(33,SL true 0 (Dg L)),(34,iV (L.length:Int)),(35,iV (i:Int))]) (fun _=>[.row [SL z0 t0 (Be a),SL z1 t1 (Be b),SL z2 t2 (Be c),.bool un] 24 0 0,.row [SL A.dz A.dt (A.decls.map Dp.row),SL A.tz A.tt (A.thrs.map Tp.row)] 28 0 0,.row [SL B.dz B.dt (B.decls.map Dp.row),SL B.tz B.tt (B.thrs.map Tp.row)] 28 0 0]) (fun j=>j=0) ?_ 0 rfl;rintro j rfl -;refine B4 (by delta lp4_0;exact rfl) ?_;by_cases h0:i=0
  .subst h0;have f2:decide (((0:Nat):Int)<((0:Nat):Int))=false:=by decide
   simp only[go_sem,f2,Int.lt_irrefl,i1];exact Bg (ih 1 (by omega) h') rfl
  .have f2:((0:Int)<(i:Int))=True:=eq_true (by omega);simp only[go_sem,f2,Int.reduceLE,i1];exact Bg (ih (i+1) (by omega) h') rfl
 have hm:m<M.length:=(Aq.1 e2).1;have f1:((m:Int) < -1)=False:=eq_false (by omega);have f2:((M.length:Int)<=(m:Int))=False:=eq_false (by omega);have f3:(0<=(m:Int))=True:=eq_true (by omega);unfold Hu at e1 e2 qh qv;simp only[go_sem,Bx h',qU];refine Ag (by kernel_rfl) ?_;simp only[go_sem,f1,f2,f3,e1,e2,beq_self_eq_true];refine B3 (α:=Nat) (fun j=>i - j) (fun j=>[(6,SL true 0 K),(7,SL true 0 M),(8,SL true 0 (Dg L)),(9,iV (i:Int)),(10,iV (m:Int)),(11,iV (j:Int)),(33,SL true 0 (Dg L)),(34,iV (L.length:Int)),(35,iV (i:Int))]) (fun _=>[.row [SL z0 t0 (Be a),SL z1 t1 (Be b),SL z2 t2 (Be c),.bool un] 24 0 0,.row [SL A.dz A.dt (A.decls.map Dp.row),SL A.tz A.tt (A.thrs.map Tp.row)] 28 0 0,.row [SL B.dz B.dt (B.decls.map Dp.row),SL B.tz B.tt (B.thrs.map Tp.row)] 28 0 0]) (fun j=>j<=i) ?_ 0 (A0 _);intro j hj jh;refine B4 (by delta lp4_0;exact rfl) ?_;rcases Bu j i with h2 | h2;rotate_left
 .simp only[go_sem,Ck h2,i1];exact Bg (ih (i+1) (by omega) h') rfl
 have j1:IntKind.i64.wrap ((j:Int)+1)=((j+1:Nat):Int):=Bk (by omega);obtain⟨k',qc,-,-⟩:=C3 (show j<L.length by omega);have qF:(Dg L)[j]?=some [iV k']:=by unfold Dg;rw[Av,qc];rfl
 obtain⟨r,hr,-,jB⟩:=C3 (show j<K.length by omega);obtain⟨qA,jL,n3,rfl⟩:=qh r jB;by_cases e:qA=nm
 .have f4:(qA==nm)=true:=by simp[e]
  have f5:((m:Int)<=k')=False:=eq_false (by have:=qv j k' qA jL n3 h2 hr e qc;omega);simp only[go_sem,Bx h2,f3];refine Ag (by kernel_rfl) ?_;simp only[go_sem,hr,e1,f4,qF,f5];simp only[go_sem,j1];exact Bg (jh (j+1) (by omega) h2) rfl
 .have f4:(qA==nm)=false:=by simp[e]
  simp only[go_sem,Bx h2,f3];refine Ag (by kernel_rfl) ?_;simp only[go_sem,hr,e1,f4];simp only[go_sem,j1];exact Bg (jh (j+1) (by omega) h2) rfl
