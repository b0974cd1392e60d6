/- Tables: a list of lists of numbers, each an object of its own, settled. -/
import Derived.Test.YtcoeikinocflnaaGreatDoorA5
import Derived.Test.YtcoeikinocflnaaGreatDoorUg
set_option linter.all false
namespace Go.Proofs.YtcoeikinocflnaaGreatDoor.KM
open Go
def Az(l:List Int):List V:=l.map fun x=>.int .i64 x
def Pp(R:List (List Int)):V:=.lst 0 (R.map fun r=>[.lst 0 (r.map fun x=>[.int .i64 x])])
def Jz(L:List (Nat × List Int)):List V:=L.map fun p=>.sl p.1 0 0 p.2.length 1 true
theorem Af4(l:List Int):Az l=(l.map fun x=>[V.int .i64 x]).flatten:=by
 induction l with
 | nil=>rfl
 | cons a l ih=>rw[A1,Ea,<-ih];rfl
theorem Ahx:∀ l:List V,D3 1 l.length l=l.map fun x=>[x]
 | []=>rfl
 | a::l=>by rw[Af,D3,A1,Vl,Mm,Ahx l];rfl
theorem Aeg{σ:St}{js:List Nat}{d:Nat}:∀ {L:List (Nat × List Int)},(∀ p∈L,∃ e z,σ[p.1]?=some (.row (Az p.2) e 0 z))->(∀ p∈L,p.1∈js) ->
  (Jz L).mapM (Er σ js (d+2))=some (L.map fun p=>.lst 0 (p.2.map fun x=>[V.int .i64 x]))
 | [],_,_=>rfl
 | p::L,h,hj=>by
  have ih:=Aeg (d:=d) (fun q hq=>h q (Db _ hq)) fun q hq=>hj q (Db _ hq)
  obtain⟨e,z,ho⟩:=h p Dm
  have hp:=hj p Dm
  have h1:=X5 (xs:=p.2.map fun x=>[V.int .i64 x]) (w:=true) (m:=1) (by rw[<-Af4];exact ho) (by omega) (fun r hr=>by obtain⟨x,-,rfl⟩:=Dc.1 hr;rfl) (fun r hr=>by obtain⟨x,-,rfl⟩:=Dc.1 hr;rfl)
  have h2:=h1 js (fun i hi=>by simp[V.refs]at hi;rw[hi];exact hp) d
  rw[Bg]at h2
  unfold Jz at ih ⊢
  rw[A1,Hk,h2,ih]
  rfl
theorem Am1{σ:St}{o e z:Nat}{js:List Nat}{d:Nat}{L:List (Nat × List Int)}(ho:σ[o]?=some (.row (Jz L) e 0 z))(h:∀ p∈L,∃ e z,σ[p.1]?=some (.row (Az p.2) e 0 z))(hj:∀ p∈L,p.1∈js)(hoj:o∈js):
  Er σ js (d+3) (.sl o 0 0 L.length 1 true)=some (Pp (L.map fun p=>p.2)):=by
 have hl:(Jz L).length=L.length:=by unfold Jz;rw[Bg]
 have he:js.elem o=true:=by simpa using hoj
 unfold Er
 rw[if_neg (by simp[V.rowB])]
 simp only[he,if_true,ho]
 rw[if_pos ⟨trivial,by omega,by omega⟩,Mm,Sm,<-hl,C6,Aeg h hj,Et]
 unfold Pp
 have hlen:(Jz L).length=(L.map fun p=>V.lst 0 (p.2.map fun x=>[V.int .i64 x])).length:=by rw[hl,Bg]
 rw[hlen,Ahx,Oo,Oo]
 rfl
theorem W0{R:List (List Int)}{i:Nat}{r:List Int}(h:R[i]?=some r):(R.map fun r=>[V.lst 0 (r.map fun x=>[V.int .i64 x])])[i]?=some [.lst 0 (r.map fun x=>[.int .i64 x])]:=by
 rw[A7,h]
 rfl
theorem Yc{r:List Int}{j:Nat}{x:Int}(h:r[j]?=some x):(r.map fun x=>[V.int .i64 x])[j]?=some [.int .i64 x]:=by
 rw[A7,h]
 rfl
theorem Ara{r:List Int}{j:Nat}{x:Int}(h:r[j]?=some x):(Az r)[j]?=some (.int .i64 x):=by
 unfold Az
 rw[A7,h]
 rfl
theorem Arb(r:List Int)(j:Nat)(x:Int):(Az r).set j (.int .i64 x)=Az (r.set j x):=by
 unfold Az
 rw[Za]
theorem Ti(n:Nat):List.replicate n (V.int .i64 0)=Az (List.replicate n 0):=by
 unfold Az
 rw[List.map_replicate]
theorem Ake{T:Nat->Option AF}{pr:Nat->Option (List V->Option V)}{f p:Nat}{res:List AR}{body:AC}{vs:List V}{R:List (List Int)}(hT:T f=some ⟨p,res,false,body,none⟩)(hl:vs.length=p)
  (h:W T pr [.c body] (Df 0 vs) [] (Hd fun e' σ1=>∃ (o e z:Nat) (L:List (Nat × List Int)),B2 e' σ1 res=some (.sl o 0 0 L.length 1 true)/\σ1[o]?=some (.row (Jz L) e 0 z)/\(∀ p∈L,∃ e z,σ1[p.1]?=some (.row (Az p.2) e 0 z))/\(L.map fun p=>p.2)=R)):Fn T pr f vs (Pp R):=by
 obtain⟨e',σ1,hE,o,e,z,L,hr,ho,hL,rfl⟩:=h
 refine Anl hT rfl rfl hl ⟨e',σ1,hE,.sl o 0 0 L.length 1 true,o::L.map fun p=>p.1,hr,rfl,?_,rfl,rfl⟩
 exact Am1 (d:=6) ho hL (fun p hp=>Db _ (Dc.2 ⟨p,hp,rfl⟩)) Dm
variable {α:Type} [DecidableEq α]
/-! version.common: the rows from i on are there; row k is object 1 + (n - k) -/
def Mf(m b:Nat):V:=.sl b 0 0 (m+1) 1 true
def Du(n m i:Nat):List V:=(List.range (n+1)).map fun k=>if k<i then .nils else Mf m (1+(n - k))
def D2(s t:List α)(k:Nat):List (List Int):=(List.range k).map fun d=>Em s t (s.length - d)
def Eg(OT IT n m i:Nat)(R:List (List Int)):St:=.row (Du n m i) OT 0 0::R.map fun r=>.row (Az r) IT 0 0
theorem W1(n m i:Nat):(Du n m i).length=n+1:=by unfold Du;simp
theorem Aom(n m:Nat):(List.replicate (n+1) V.nils).set n (Mf m 1)=Du n m n:=by
 unfold Du
 refine Ml (by simp) fun k h1 h2=>?_
 rw[P1,Hi,Lk]
 simp at h2
 by_cases h:n=k
 ·subst h
  rw[if_pos rfl,if_neg (by omega),Gq]
 ·rw[if_neg h,if_pos (by omega),Vh]
theorem Arc{n m i:Nat}(hi:i<n):(Du n m (i+1)).set i (Mf m (1+(n - i)))=Du n m i:=by
 unfold Du
 refine Ml (by simp) fun k h1 h2=>?_
 rw[P1,Hi,Hi,Lk]
 by_cases h:i=k
 ·subst h
  rw[if_pos rfl,if_neg (by omega)]
 ·rw[if_neg h]
  by_cases h':k<i
  ·rw[if_pos (by omega),if_pos h']
  ·rw[if_neg (by omega),if_neg h']
theorem Ard{n m i k:Nat}(h:i<=k)(hk:k<=n):(Du n m i)[k]?=some (Mf m (1+(n - k))):=by
 unfold Du
 rw[A7,Oj (by omega),Et,if_neg (by omega)]
theorem Qo(s t:List α)(k:Nat):(D2 s t k).length=k:=by unfold D2;simp
theorem Am2(s t:List α)(k:Nat):D2 s t k++[Em s t (s.length - k)]=D2 s t (k+1):=by
 unfold D2
 rw[List.range_succ,Hj,Vn]
theorem Auz(OT IT n m i:Nat)(R:List (List Int)):(Eg OT IT n m i R).length=1+R.length:=by unfold Eg;simp;omega
theorem Au0(OT IT n m i:Nat)(R:List (List Int))(r:List Int):Eg OT IT n m i R++[.row (Az r) IT 0 0]=Eg OT IT n m i (R++[r]):=by
 unfold Eg
 rw[Hj,Cq]
 rfl
theorem Abf(OT IT n m i:Nat){R:List (List Int)}{k:Nat}{r:List Int}(h:R[k]?=some r):(Eg OT IT n m i R)[1+k]?=some (.row (Az r) IT 0 0):=by
 unfold Eg
 rw[show 1+k=k+1 by omega,J0,A7,h]
 rfl
theorem Au1(OT IT n m i:Nat)(R:List (List Int))(k:Nat)(r:List Int):(Eg OT IT n m i R).set (1+k) (.row (Az r) IT 0 0)=Eg OT IT n m i (R.set k r):=by
 unfold Eg
 rw[show 1+k=k+1 by omega,Vm,Za]
theorem Am3(s t:List α){i:Nat}(hi:i<s.length)(r:List Int):(D2 s t (s.length - i)++[r])[s.length - (i+1)]?=some (Em s t (i+1)):=by
 rw[B8 (by rw[Qo];omega)]
 unfold D2
 rw[A7,Oj (by omega),Et,show s.length - (s.length - (i+1))=i+1 by omega]
theorem Aon(s t:List α)(i:Nat)(r:List Int):(D2 s t (s.length - i)++[r])[s.length - i]?=some r:=by
 rw[By (by rw[Qo];omega),Qo,Gq]
 rfl
theorem Aoo(s t:List α)(i:Nat)(r r':List Int):(D2 s t (s.length - i)++[r]).set (s.length - i) r'=D2 s t (s.length - i)++[r']:=by
 rw[Hh _ _ (by rw[Qo];omega),Qo,Gq]
 rfl
theorem Am4(s t:List α){i:Nat}(hi:i<=s.length):D2 s t (s.length - i)++[Em s t i]=D2 s t (s.length - i+1):=by
 rw[<-Am2,show s.length - (s.length - i)=i by omega]
def vL(s t:List α):List (Nat × List Int):=(List.range (s.length+1)).map fun k=>(1+(s.length - k),Em s t k)
theorem Ayo(s t:List α):(vL s t).length=s.length+1:=by unfold vL;simp
theorem Ayp(s t:List α):((vL s t).map fun p=>p.2)=Ht s t:=by
 unfold vL Ht
 rw[Oo]
 rfl
theorem Ayq(s t:List α):Jz (vL s t)=Du s.length t.length 0:=by
 unfold Jz vL Du Mf
 rw[Oo]
 refine Sb fun k _=>?_
 simp only[Function.comp,Qz]
 rw[if_neg (by omega)]
theorem Au2(OT IT:Nat)(s t:List α):∀ p∈vL s t,∃ e z,(Eg OT IT s.length t.length 0 (D2 s t (s.length+1)))[p.1]?=some (.row (Az p.2) e 0 z):=by
 intro p hp
 unfold vL at hp
 obtain⟨k,hk,rfl⟩:=Dc.1 hp
 rw[Ej]at hk
 refine⟨IT,0,Abf _ _ _ _ _ ?_⟩
 unfold D2
 rw[A7,Oj (by omega),Et,show s.length - (s.length - k)=k by omega]
/-! the reference's common: all rows are there; row k is object 1 + k -/
def Dv(n m i:Nat):List V:=(List.range (n+1)).map fun k=>if k<i then Mf m (1+k) else .nils
def C9(s t:List α)(i j:Nat):List (List Int):=(List.range (s.length+1)).map fun k=>if k<i then Cc s t k t.length else if k=i then Cc s t i j else Em s t k
def C4(OT IT n m i:Nat)(R:List (List Int)):St:=.row (Dv n m i) OT 0 0::R.map fun r=>.row (Az r) IT 0 0
theorem W2(n m i:Nat):(Dv n m i).length=n+1:=by unfold Dv;simp
theorem Aop(n m:Nat):Dv n m 0=List.replicate (n+1) V.nils:=by
 unfold Dv
 refine Ml (by simp) fun k h1 h2=>?_
 rw[Hi,Vh,if_neg (by omega)]
theorem Are{n m i:Nat}(hi:i<=n):(Dv n m i).set i (Mf m (1+i))=Dv n m (i+1):=by
 unfold Dv
 refine Ml (by simp) fun k h1 h2=>?_
 rw[P1,Hi,Hi,Lk]
 by_cases h:i=k
 ·subst h
  rw[if_pos rfl,if_pos (by omega)]
 ·rw[if_neg h]
  by_cases h':k<i
  ·rw[if_pos h',if_pos (by omega)]
  ·rw[if_neg h',if_neg (by omega)]
theorem Arf{n m k i:Nat}(hk:k<i)(hn:k<=n):(Dv n m i)[k]?=some (Mf m (1+k)):=by
 unfold Dv
 rw[A7,Oj (by omega),Et,if_pos hk]
theorem Au3(OT IT n m i:Nat)(R:List (List Int)):(C4 OT IT n m i R).length=1+R.length:=by unfold C4;simp;omega
theorem Au4(OT IT n m i:Nat)(R:List (List Int))(r:List Int):C4 OT IT n m i R++[.row (Az r) IT 0 0]=C4 OT IT n m i (R++[r]):=by
 unfold C4
 rw[Hj,Cq]
 rfl
theorem T7(OT IT n m i:Nat){R:List (List Int)}{k:Nat}{r:List Int}(h:R[k]?=some r):(C4 OT IT n m i R)[1+k]?=some (.row (Az r) IT 0 0):=by
 unfold C4
 rw[show 1+k=k+1 by omega,J0,A7,h]
 rfl
theorem Ajd(OT IT n m i:Nat)(R:List (List Int))(k:Nat)(r:List Int):(C4 OT IT n m i R).set (1+k) (.row (Az r) IT 0 0)=C4 OT IT n m i (R.set k r):=by
 unfold C4
 rw[show 1+k=k+1 by omega,Vm,Za]
theorem Aoq(s t:List α)(i j:Nat):(C9 s t i j).length=s.length+1:=by unfold C9;simp
theorem Amc(s t:List α):C9 s t s.length 0=List.replicate (s.length+1) (List.replicate (t.length+1) 0):=by
 unfold C9
 refine Ml (by simp) fun k h1 h2=>?_
 rw[Hi,Lk,Vh]
 simp at h2
 by_cases h:k<s.length
 ·rw[if_pos h,Ahn]
 ·have e:k=s.length:=by omega
  rw[if_neg h,if_pos e,S0,Aho]
theorem Am5(s t:List α){i:Nat}(hi:i<s.length):C9 s t (i+1) 0=C9 s t i t.length:=by
 unfold C9
 refine Sb fun k _=>?_
 by_cases h:k<i
 ·rw[if_pos (by omega),if_pos h]
 ·by_cases h2:k=i
  ·subst h2
   rw[if_pos (by omega),if_neg (by omega),if_pos rfl]
  ·by_cases h3:k=i+1
   ·subst h3
    rw[if_neg (by omega),if_pos rfl,if_neg (by omega),if_neg (by omega),S0]
   ·rw[if_neg (by omega),if_neg h3,if_neg h,if_neg h2]
theorem Aor(s t:List α){i j:Nat}(hi:i<=s.length):(C9 s t i j)[i]?=some (Cc s t i j):=by
 unfold C9
 rw[A7,Oj (by omega),Et,if_neg (by omega),if_pos rfl]
theorem Am6(s t:List α){i j:Nat}(hi:i<s.length):(C9 s t i j)[i+1]?=some (Em s t (i+1)):=by
 unfold C9
 rw[A7,Oj (by omega),Et,if_neg (by omega),if_neg (by omega)]
theorem Af5(s t:List α){i j:Nat}(hi:i<=s.length)(hj:j<t.length):(C9 s t i (j+1)).set i ((Cc s t i (j+1)).set j (Be s t i j:Int))=C9 s t i j:=by
 rw[Q0 s t hj]
 unfold C9
 refine Ml (by simp) fun k h1 h2=>?_
 rw[P1,Hi,Hi,Lk]
 by_cases h:i=k
 ·subst h
  rw[if_pos rfl,if_neg (by omega),if_pos rfl]
 ·rw[if_neg h]
  by_cases h':k<i
  ·rw[if_pos h',if_pos h']
  ·rw[if_neg h',if_neg h',if_neg (Ne.symm h),if_neg (Ne.symm h)]
theorem Am7(s t:List α):C9 s t 0 0=Ht s t:=by
 unfold C9 Ht
 refine Sb fun k _=>?_
 rw[if_neg (by omega)]
 split
 ·rename_i h;rw[h,S0]
 ·rfl
def rL(s t:List α):List (Nat × List Int):=(List.range (s.length+1)).map fun k=>(1+k,Em s t k)
theorem Ayr(s t:List α):(rL s t).length=s.length+1:=by unfold rL;simp
theorem Ays(s t:List α):((rL s t).map fun p=>p.2)=Ht s t:=by
 unfold rL Ht
 rw[Oo]
 rfl
theorem Ayt(s t:List α):Jz (rL s t)=Dv s.length t.length (s.length+1):=by
 unfold Jz rL Dv Mf
 rw[Oo]
 refine Sb fun k hk=>?_
 rw[Ej]at hk
 simp only[Function.comp,Qz]
 rw[if_pos hk]
theorem Au5(OT IT i:Nat)(s t:List α):∀ p∈rL s t,∃ e z,(C4 OT IT s.length t.length i (Ht s t))[p.1]?=some (.row (Az p.2) e 0 z):=by
 intro p hp
 unfold rL at hp
 obtain⟨k,hk,rfl⟩:=Dc.1 hp
 rw[Ej]at hk
 exact⟨IT,0,T7 _ _ _ _ _ (Te s t (by omega))⟩
end Go.Proofs.YtcoeikinocflnaaGreatDoor.KM
