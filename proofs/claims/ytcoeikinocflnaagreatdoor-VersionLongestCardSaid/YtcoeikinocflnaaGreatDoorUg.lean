/- Plain: the table of lengths, row by row; which sites of two programs correspond. -/
import Derived.Test.YtcoeikinocflnaaGreatDoorLv
import Derived.Test.YtcoeikinocflnaaGreatDoorQt
import Derived.Test.YtcoeikinocflnaaGreatDoorLc
set_option linter.all false
namespace Go.Proofs.YtcoeikinocflnaaGreatDoor.KM
section
variable {α β:Type} [DecidableEq α] [DecidableEq β]
def Be(s t:List α)(i j:Nat):Nat:=Bm (s.drop i) (t.drop j)
theorem Ayg(s t:List α)(j:Nat):Be s t s.length j=0:=by unfold Be;rw[Y2,Hr]
theorem Ayh(s t:List α)(i:Nat):Be s t i t.length=0:=by unfold Be;rw[Y2,Ij]
theorem Aq1(s t:List α){i j:Nat}(hi:i<s.length)(hj:j<t.length):Be s t i j=if s[i]=t[j] then max (max (Be s t (i+1) j) (Be s t i (j+1))) (1+Be s t (i+1) (j+1)) else max (Be s t (i+1) j) (Be s t i (j+1)):=by
 unfold Be
 rw[Fg hi,Fg hj,Aum]
theorem Aun(s t:List α){i j:Nat}(hi:i<s.length)(hj:j<t.length):Be s t i j=if s[i]=t[j] then 1+Be s t (i+1) (j+1) else max (Be s t (i+1) j) (Be s t i (j+1)):=by
 unfold Be
 rw[Fg hi,Fg hj,G0]
theorem Xf(s t:List α)(i j:Nat):Be s t i j<=s.length/\Be s t i j<=t.length:=by
 have h:=Uj (s.drop i) (t.drop j)
 rw[C5,C5]at h
 unfold Be
 omega
def Cc(s t:List α)(i j:Nat):List Int:=(List.range (t.length+1)).map fun k=>if j<=k then(Be s t i k:Int) else 0
def Em(s t:List α)(i:Nat):List Int:=(List.range (t.length+1)).map fun k=>(Be s t i k:Int)
def Ht(s t:List α):List (List Int):=(List.range (s.length+1)).map (Em s t)
theorem My(s t:List α)(i j:Nat):(Cc s t i j).length=t.length+1:=by unfold Cc;simp
theorem Qz(s t:List α)(i:Nat):(Em s t i).length=t.length+1:=by unfold Em;simp
theorem S0(s t:List α)(i:Nat):Cc s t i 0=Em s t i:=by unfold Cc Em;simp
theorem Ahn(s t:List α)(i:Nat):Cc s t i t.length=List.replicate (t.length+1) 0:=by
 unfold Cc
 refine Ml (by simp) fun k h1 h2=>?_
 rw[Hi,Lk,Vh]
 split
 ·have:k=t.length:=by simp at h2;omega
  rw[this,Ayh]
  rfl
 ·rfl
theorem Aho(s t:List α):Em s t s.length=List.replicate (t.length+1) 0:=by
 unfold Em
 refine Ml (by simp) fun k h1 h2=>?_
 rw[Hi,Lk,Vh,Ayg]
 rfl
theorem Aaq(s t:List α){i j k:Nat}(hk:k<=t.length)(hj:j<=k):(Cc s t i j)[k]?=some (Be s t i k:Int):=by
 unfold Cc
 rw[A7,Oj (by omega)]
 simp[hj]
theorem Mz(s t:List α){i k:Nat}(hk:k<=t.length):(Em s t i)[k]?=some (Be s t i k:Int):=by rw[<-S0,Aaq s t hk (A5 _)]
theorem Te(s t:List α){i:Nat}(hi:i<=s.length):(Ht s t)[i]?=some (Em s t i):=by
 unfold Ht
 rw[A7,Oj (by omega)]
 rfl
theorem Q0(s t:List α){i j:Nat}(hj:j<t.length):(Cc s t i (j+1)).set j (Be s t i j:Int)=Cc s t i j:=by
 unfold Cc
 refine Ml (by simp) fun k h1 h2=>?_
 rw[P1]
 rw[Hi,Hi,Lk]
 by_cases h:j=k
 ·rw[if_pos h,if_pos (by omega),h]
 ·rw[if_neg h]
  by_cases h':j<=k
  ·rw[if_pos h',if_pos (by omega)]
  ·rw[if_neg h',if_neg (by omega)]
/-! the search for the next line -/
def Jy(s t:List α)(i j k:Nat):Prop:=s[i]?=t[k]?/\1+Be s t (i+1) (k+1)=Be s t i j
theorem Ayi{s t:List α}{i j k:Nat}(hi:i<s.length)(hj:j<=k)(hk:k<t.length)(h:Jy s t i j k)(hn:∀ k',j<=k'->k'<k->¬ Jy s t i j k'):Iq s[i] (s.drop (i+1)) (t.drop j)=some (k - j):=by
 have hc:∀ m,j+m<t.length->(N3 s[i] (s.drop (i+1)) (t.drop j) m=true↔Jy s t i j (j+m)):=fun m hm=>by
  unfold N3 Jy Be
  rw[<-Fg hi]
  simp only[Ae,decide_eq_true_eq,beq_iff_eq,Gl,Ll]
  rw[Aw hi,show j+(m+1)=j+m+1 from rfl]
  exact⟨fun h=>⟨h.1.symm,h.2⟩,fun h=>⟨h.1.symm,h.2⟩⟩
 unfold Iq
 rw[List.find?_eq_some_iff_getElem]
 refine⟨(hc (k - j) (by omega)).2 (by rw[show j+(k - j)=k by omega];exact h),k - j,by simp;omega,by simp,fun m hm=>?_⟩
 rw[Lk]
 have:=hn (j+m) (by omega) (by omega)
 rw[<-hc m (by omega)]at this
 simpa using this
theorem Ai4{s t:List α}{i j k:Nat}(hi:i<s.length)(hj:j<=k)(hk:k<t.length)(h:Jy s t i j k)(hn:∀ k',j<=k'->k'<k->¬ Jy s t i j k'):Bx j (s.drop i) (t.drop j)=(k:Int)::Bx (k+1) (s.drop (i+1)) (t.drop (k+1)):=by
 rw[Fg hi,Bx,Ayi hi hj hk h hn]
 simp only
 rw[Ll,show j+(k - j)=k by omega,show j+(k - j+1)=k+1 by omega]
theorem Ahp{s t:List α}{i j:Nat}(hi:i<s.length)(hn:∀ k,j<=k->k<t.length->¬ Jy s t i j k):Bx j (s.drop i) (t.drop j) = -1::Bx j (s.drop (i+1)) (t.drop j):=by
 rw[Fg hi,Bx]
 have:Iq s[i] (s.drop (i+1)) (t.drop j)=none:=by
  cases he:Iq s[i] (s.drop (i+1)) (t.drop j) with
  | none=>rfl
  | some m=>
   obtain⟨h1,h2,h3⟩:=Aao he
   rw[C5]at h1
   refine absurd ?_ (hn (j+m) (by omega) (by omega))
   rw[Gl]at h2
   rw[Ll,<-Fg hi]at h3
   exact⟨by rw[h2,Aw hi],h3⟩
 rw[this]
theorem Ai5:∀ (s:List α) (j:Nat),Bx j s []=List.replicate s.length (-1)
 | [],_=>by rw[Bx];rfl
 | a::s,j=>by
  rw[Bx]
  have:Iq a s ([]:List α)=none:=by unfold Iq;simp
  rw[this]
  simp only
  rw[Ai5 s,Af,Sc]
/-! both programs -/
def G6(nm:β):List (β × List α)->Nat × Option (List α)
 | []=>(0,none)
 | q::r=>if q.1=nm then(0,some q.2) else(q.2.length+(G6 nm r).1,(G6 nm r).2)
def Ga(b:Nat)(l:List Int):List Int:=l.map fun k=>if 0<=k then k+b else k
def Hu(p:β × List α)(Q:List (β × List α)):List Int:=Ga (G6 p.1 Q).1 (Bx 0 p.2 ((G6 p.1 Q).2.getD []))
def Ey(P Q:List (β × List α)):List Int:=P.flatMap fun p=>Hu p Q
def Fe(P:List (β × List α)):List (β × α):=P.flatMap fun p=>p.2.map fun x=>(p.1,x)
theorem Aq2(p:β × List α)(Q:List (β × List α)):(Hu p Q).length=p.2.length:=by unfold Hu Ga;rw[Bg,T4]
theorem Aog{p:β × List α}{Q:List (β × List α)}(h:(G6 p.1 Q).2=none):Hu p Q=List.replicate p.2.length (-1):=by
 unfold Hu Ga
 rw[h,Option.getD_none,Ai5,List.map_replicate]
 rfl
theorem Zg(p:β × List α)(P Q:List (β × List α)):Ey (p::P) Q=Hu p Q++Ey P Q:=by unfold Ey;rw[P0]
theorem Zn(p:β × List α)(P:List (β × List α)):Fe (p::P)=(p.2.map fun x=>(p.1,x))++Fe P:=by unfold Fe;rw[P0]
theorem Zo:∀ P Q:List (β × List α),(Ey P Q).length=(Fe P).length
 | [],_=>rfl
 | p::P,Q=>by rw[Zg,Zn,Aj,Aj,Aq2,Bg,Zo P Q]
theorem Amx(nm:β)(s t:List α):((Ey [(nm,s)] [(nm,t)]).filter fun n=>decide (0<=n)).length=Bm s t:=by
 rw[Zg,show Ey ([]:List (β × List α)) [(nm,t)]=[] from rfl,Cx]
 unfold Hu Ga
 rw[G6,if_pos rfl]
 simp only[P3]
 have:(Bx 0 s t).map (fun k=>if 0<=k then k+((0:Nat):Int) else k)=Bx 0 s t:=by
  conv=>rhs;rw[<-List.map_id (Bx 0 s t)]
  refine Sb fun k _=>?_
  split<;>simp
 rw[this,Z9]
end
def E3(l:List UInt8):Nat:=l.count 10
theorem Gb(a b:List UInt8):E3 (a++b)=E3 a+E3 b:=List.count_append
theorem Ho(c:UInt8)(l:List UInt8):E3 (c::l)=E3 l+if c=10 then 1 else 0:=by
 unfold E3
 rw[List.count_cons]
 by_cases h:c=10<;>simp[h]
theorem Auo{l:List UInt8}(h:∀ c∈l,c≠10):E3 l=0:=List.count_eq_zero.2 fun hm=>h 10 hm rfl
mutual
def Sp.lns:Sp->Nat
 | ⟨op,_,_,_,_,_,_,_,_,_,body,_,_,els⟩=>1+(if A8 op then 1+Sp.lnss body else 0)+(if els.isEmpty then 0 else 1+Sp.lnss els)
def Sp.lnss:List Sp->Nat
 | []=>0
 | x::l=>x.lns+Sp.lnss l
end
theorem Ayj{l:List UInt8}{j:Nat}(h:N6 l j=true):l.getD j 0≠10:=fun e=>by
 unfold N6 at h
 rw[e]at h
 cases j<;>simp[Nz,Mb]at h
theorem Yb{l:List UInt8}(h:Dz l=true):E3 l=0:=by
 refine Auo fun c hc=>?_
 obtain⟨i,hi,rfl⟩:=Pu hc
 unfold Dz at h
 simp only[Ae,A3]at h
 have:=Ayj (h.2.2.2 i (Ej.2 hi))
 rwa [Ak,Aw hi]at this
theorem Abv:∀ (k u:Nat),E3 (Fo k u)=0
 | 0,_=>rfl
 | k+1,u=>by
  have hd:∀ n,n<10->E3 [UInt8.ofNat (48+n)]=0:=by decide
  unfold Fo
  split
  ·exact hd u (by omega)
  ·rw[Gb,Abv k,hd _ (by omega)]
theorem Aup(n:Int):E3 (Cz n)=0:=by
 unfold Cz
 split
 ·rw[Ho,Abv]
  decide
 ·exact Abv _ _
theorem Akx(op:Int):E3 (Bp op)=0:=by
 unfold Bp
 split<;>decide
theorem Abw{o:Int × List UInt8}(h:E3 o.2=0)(v:Int):E3 (Dt o v)=0:=by
 unfold Dt
 split
 ·rw[Ho,Gb,h]
  decide
 ·exact h
theorem Aka{x:Xp}(h:ShE x):E3 x.txt=0:=by
 induction h with
 | num h=>
  rw[Fw]
  simp only[D6,if_pos]
  exact Aup _
 | name h=>
  rw[Fw]
  simp only[D6]
  exact Yb h
 | idx hn ha ih=>
  rw[Fw]
  simp only[D6,A1,Cy]
  simp only[Int.reduceEq,if_false,if_true]
  rw[Gb,Ho,Gb,Yb hn,ih]
  decide
 | @un op z t a ho ha ih=>
  rw[Fw]
  simp only[D6,A1,Cy]
  rw[if_neg (by omega),if_neg (by omega),if_neg (by omega),Gb,Akx,Abw ih]
 | @bin op z t a b ho ha hb iha ihb=>
  rw[Fw]
  simp only[D6,A1,Cy]
  rw[if_neg (by omega),if_neg (by omega),Gb,Ho,Gb,Ho,Akx,Abw iha,Abw ihb]
  decide
theorem T5(op:Int):E3 (Bt op)=0:=by
 unfold Bt
 split<;>decide
theorem Auq{s:Sp}(h:ShS s):E3 (Bv s)=0:=by
 obtain⟨h1,h2,h3,h4,h5,h6,h7,h8,h9,h10,h11,h12,h13,h14⟩:=h
 have hn:E3 s.nm=0:=by
  cases e:Hy s.op
  ·exact Yb (h3 e)
  ·rw[h2 e];rfl
 have ha:E3 s.arg=0:=by
  by_cases e:s.op=15
  ·exact Yb (h4 e)
  ·rw[h5 e];rfl
 have hx:Ec s.op=true->E3 s.ex.txt=0:=fun e=>Aka (h9 e)
 have hi:E3 (El s.idx)=0:=by
  unfold El
  split
  ·rename_i a r e
   rw[Ho,Gb,Aka (h8 a (by rw[e];simp))]
   decide
  ·rfl
 unfold Bv
 split
 ·rename_i e
  rw[Gb,Gb,Ho,Ho,Ho,hn,hi,hx (by rw[e];rfl)]
  decide
 split
 ·rename_i e
  rw[Gb,Ho,T5,hx (by rcases e with e | e<;>rw[e]<;>rfl)]
  decide
 split
 ·exact T5 _
 split
 ·rename_i e
  rw[Gb,Ho,Gb,Ho,T5,hn,hx (by rw[e];rfl)]
  decide
 split
 ·rw[Gb,Ho,Gb,Ho,T5,hn,ha]
  decide
 ·rw[Gb,Ho,T5,hn]
  decide
end Go.Proofs.YtcoeikinocflnaaGreatDoor.KM
