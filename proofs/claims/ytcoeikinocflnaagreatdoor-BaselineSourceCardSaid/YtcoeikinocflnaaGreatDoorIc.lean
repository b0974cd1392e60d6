/- Walks: the walker of statements. -/
import Derived.Test.YtcoeikinocflnaaGreatDoorIb
import Derived.Test.YtcoeikinocflnaaGreatDoorIa
import Derived.Test.YtcoeikinocflnaaGreatDoorQs
import Derived.Test.YtcoeikinocflnaaGreatDoorQt
set_option linter.all false
namespace Go.Proofs.YtcoeikinocflnaaGreatDoor.KM
open Go
structure WK (σ:St) (w:Nat) (p:Gp) (th:Int) (uA uS uT:V) (A S T:List (List V)):Prop where
 row:σ[w]?=some (.row [SL p.dz p.dt (p.decls.map Dp.row),SL p.tz p.tt (p.thrs.map Tp.row),.int .i64 th,uA,uS,uT] 155 0 0)
 a:GS σ 11 105 uA A
 s:GS σ 1 9 uS S
 t:GS σ 1 9 uT T
 ad:∀ j∈uA.refs,j≠w/\j ∉ uS.refs/\j ∉ uT.refs
 sd:∀ j∈uS.refs,j≠w/\j ∉ uT.refs
 td:∀ j∈uT.refs,j≠w
 cl:Cl σ
theorem Ky(z:Bool)(t:Nat)(l:List (List V)):(SL z t l).refs=[]:=by
 unfold SL
 split<;>rfl
theorem Xw(p:Gp)(th:Int)(uA uS uT:V):Aj [SL p.dz p.dt (p.decls.map Dp.row),SL p.tz p.tt (p.thrs.map Tp.row),.int .i64 th,uA,uS,uT]=uA.refs++(uS.refs++uT.refs):=by
 simp only[Aj,Ky,V.refs,Es,Cw]
theorem N6{σ:St}{w:Nat}{p:Gp}{th:Int}{uA uS uT:V}{A S T:List (List V)}(h:WK σ w p th uA uS uT A S T):w<σ.length:=(Ar.1 h.row).1
theorem N7{σ:St}{w:Nat}{p:Gp}{th:Int}{uA uS uT:V}{A S T:List (List V)}(h:WK σ w p th uA uS uT A S T):fp σ w=w::(uA.refs++(uS.refs++uT.refs)):=by
 rw[Aci h.row,Xw]
theorem Abx{σ:St}{w:Nat}{p:Gp}{th:Int}{uA uS uT:V}{A S T:List (List V)}(h:WK σ w p th uA uS uT A S T)(l:St)(hc:Cl (σ++l)):WK (σ++l) w p th uA uS uT A S T:=by
 have k:∀ i,i<σ.length->(σ++l)[i]?=σ[i]?:=fun i hi=>Co hi
 exact⟨by rw[k w (N6 h)];exact h.row,F5 h.a fun i hi=>k i (Ch h.a i hi),F5 h.s fun i hi=>k i (Ch h.s i hi),F5 h.t fun i hi=>k i (Ch h.t i hi),h.ad,h.sd,h.td,hc⟩
theorem U0{σ σ2:St}{w:Nat}{p:Gp}{th th':Int}{uA uS uT vA vS vT:V}{A S T A' S' T':List (List V)}(h:WK σ w p th uA uS uT A S T)(hl:σ.length<=σ2.length)(hB:∀ j,j<σ.length->j ∉ uA.refs->j ∉ uS.refs->j ∉ uT.refs->σ2[j]?=σ[j]?)
  (ga:GS σ2 11 105 vA A') (gs:GS σ2 1 9 vS S') (gt:GS σ2 1 9 vT T') (rA:∀ j∈vA.refs,j∈uA.refs\/σ.length<=j) (rS:∀ j∈vS.refs,j∈uS.refs\/σ.length<=j) (rT:∀ j∈vT.refs,j∈uT.refs\/σ.length<=j)
  (d1:∀ j∈vA.refs,j ∉ vS.refs/\j ∉ vT.refs) (d2:∀ j∈vS.refs,j ∉ vT.refs) (hc:Cl σ2) :
  WK (σ2.set w (.row [SL p.dz p.dt (p.decls.map Dp.row),SL p.tz p.tt (p.thrs.map Tp.row),.int .i64 th',vA,vS,vT] 155 0 0)) w p th' vA vS vT A' S' T'/\FW w σ (σ2.set w (.row [SL p.dz p.dt (p.decls.map Dp.row),SL p.tz p.tt (p.thrs.map Tp.row),.int .i64 th',vA,vS,vT] 155 0 0)):=by
 have hw:=N6 h
 have nA:∀ j∈vA.refs,j≠w:=fun j hj e=>by
  rcases rA j hj with h2 | h2
  ·exact(h.ad j h2).1 e
  ·omega
 have nS:∀ j∈vS.refs,j≠w:=fun j hj e=>by
  rcases rS j hj with h2 | h2
  ·exact(h.sd j h2).1 e
  ·omega
 have nT:∀ j∈vT.refs,j≠w:=fun j hj e=>by
  rcases rT j hj with h2 | h2
  ·exact h.td j h2 e
  ·omega
 have ks:∀ (X:Ob) (j:Nat),j≠w->(σ2.set w X)[j]?=σ2[j]?:=fun X j hj=>Bc (Ne.symm hj)
 refine⟨⟨B8 (by omega),F5 ga fun i hi=>ks _ i (nA i hi),F5 gs fun i hi=>ks _ i (nS i hi),F5 gt fun i hi=>ks _ i (nT i hi),fun j hj=>⟨nA j hj,d1 j hj⟩,fun j hj=>⟨nS j hj,d2 j hj⟩,nT,Ge hc ?_⟩,?_⟩
 ·intro i hi;simp only[Ob.refs,Xw,Cq]at hi;rcases hi with hi | hi | hi
  ·exact Ch ga i hi
  ·exact Ch gs i hi
  ·exact Ch gt i hi
 ·have hf:=N7 h;refine Acj (τ:=σ2) ⟨hl,fun j hj hn=>?_,fun j hj=>?_⟩ hw fun j hj=>?_
  ·rw[hf]at hn;simp only[Be,Cq,not_or]at hn;exact hB j hj hn.2.1 hn.2.2.1 hn.2.2.2
  ·rw[hf];have e2:σ2[w]?=σ[w]?:=hB w hw (fun e=>(h.ad w e).1 rfl) (fun e=>(h.sd w e).1 rfl) (fun e=>h.td w e rfl);unfold fp at hj;rw[e2,h.row]at hj;simp only[Ob.refs,Xw]at hj;exact .inl hj
  ·rw[Xw]at hj;rw[hf];simp only[Be,Cq]at hj ⊢;rcases hj with hj | hj | hj
   ·rcases rA j hj with h2 | h2
    ·exact .inl (.inr (.inl h2))
    ·exact .inr h2
   ·rcases rS j hj with h2 | h2
    ·exact .inl (.inr (.inr (.inl h2)))
    ·exact .inr h2
   ·rcases rT j hj with h2 | h2
    ·exact .inl (.inr (.inr (.inr h2)))
    ·exact .inr h2
theorem Alm{σ σ2:St}{w:Nat}{p:Gp}{th:Int}{uA uS uT:V}{A S T:List (List V)}(h:WK σ w p th uA uS uT A S T)(hB:∀ j,j<σ.length->j ∉ uA.refs->j ∉ uS.refs->j ∉ uT.refs->σ2[j]?=σ[j]?):σ2[w]?=some (.row [SL p.dz p.dt (p.decls.map Dp.row),SL p.tz p.tt (p.thrs.map Tp.row),.int .i64 th,uA,uS,uT] 155 0 0):=by
 rw[hB w (N6 h) (fun e=>(h.ad w e).1 rfl) (fun e=>(h.sd w e).1 rfl) (fun e=>h.td w e rfl)];exact h.row
theorem A22{σ:St}{w:Nat}{p:Gp}{th:Int}{uA uS uT:V}{A S T:List (List V)}(h:WK σ w p th uA uS uT A S T)(nm:List UInt8)(hb:S.length<=1000000000):∃ u' σ2,Eu 16 (1,9) uS (.lst 1 [[.str nm]]) σ=some (u',σ2)/\u'.cellB=true/\σ2[w]?=some (.row [SL p.dz p.dt (p.decls.map Dp.row),SL p.tz p.tt (p.thrs.map Tp.row),.int .i64 th,uA,uS,uT] 155 0 0) /\
  WK (σ2.set w (.row [SL p.dz p.dt (p.decls.map Dp.row),SL p.tz p.tt (p.thrs.map Tp.row),.int .i64 th,uA,u',uT] 155 0 0)) w p th uA u' uT A (S++[[.str nm]]) T/\FW w σ (σ2.set w (.row [SL p.dz p.dt (p.decls.map Dp.row),SL p.tz p.tt (p.thrs.map Tp.row),.int .i64 th,uA,u',uT] 155 0 0)):=by
 obtain⟨u',σ2,e1,g,hl,hk,hr,hc⟩:=Rd (bytes:=16) (row:=[.str nm]) h.s (by omega) rfl rfl (by omega);have hB:∀ j,j<σ.length->j ∉ uA.refs->j ∉ uS.refs->j ∉ uT.refs->σ2[j]?=σ[j]?:=fun j hj _ h2 _=>hk j hj h2
 have nn:∀ j,j<σ.length->j ∉ uS.refs->j ∉ u'.refs:=fun j hj h1 h2=>by
  rcases hr j h2 with h3 | h3
  ·exact h1 h3
  ·omega
 exact⟨u',σ2,e1,Hg g,Alm h hB,U0 h hl hB (F5 h.a fun i hi=>hk i (Ch h.a i hi) (h.ad i hi).2.1) g (F5 h.t fun i hi=>hk i (Ch h.t i hi) fun e=>(h.sd i e).2 hi) (fun j hj=>.inl hj) hr (fun j hj=>.inl hj)
  (fun j hj=>⟨nn j (Ch h.a j hj) (h.ad j hj).2.1,(h.ad j hj).2.2⟩) (fun j hj ht=>nn j (Ch h.t j ht) (fun e=>(h.sd j e).2 ht) hj) (hc h.cl)⟩
theorem Sk{σ:St}{w:Nat}{p:Gp}{th:Int}{uA uS uT:V}{A S T:List (List V)}(h:WK σ w p th uA uS uT A S T)(nm:List UInt8)(hb:T.length<=1000000000):∃ u' σ2,Eu 16 (1,9) uT (.lst 1 [[.str nm]]) σ=some (u',σ2)/\u'.cellB=true/\σ2[w]?=some (.row [SL p.dz p.dt (p.decls.map Dp.row),SL p.tz p.tt (p.thrs.map Tp.row),.int .i64 th,uA,uS,uT] 155 0 0) /\
  WK (σ2.set w (.row [SL p.dz p.dt (p.decls.map Dp.row),SL p.tz p.tt (p.thrs.map Tp.row),.int .i64 th,uA,uS,u'] 155 0 0)) w p th uA uS u' A S (T++[[.str nm]])/\FW w σ (σ2.set w (.row [SL p.dz p.dt (p.decls.map Dp.row),SL p.tz p.tt (p.thrs.map Tp.row),.int .i64 th,uA,uS,u'] 155 0 0)):=by
 obtain⟨u',σ2,e1,g,hl,hk,hr,hc⟩:=Rd (bytes:=16) (row:=[.str nm]) h.t (by omega) rfl rfl (by omega);have hB:∀ j,j<σ.length->j ∉ uA.refs->j ∉ uS.refs->j ∉ uT.refs->σ2[j]?=σ[j]?:=fun j hj _ _ h2=>hk j hj h2
 have nn:∀ j,j<σ.length->j ∉ uT.refs->j ∉ u'.refs:=fun j hj h1 h2=>by
  rcases hr j h2 with h3 | h3
  ·exact h1 h3
  ·omega
 exact⟨u',σ2,e1,Hg g,Alm h hB,U0 h hl hB (F5 h.a fun i hi=>hk i (Ch h.a i hi) (h.ad i hi).2.2) (F5 h.s fun i hi=>hk i (Ch h.s i hi) (h.sd i hi).2) g (fun j hj=>.inl hj) (fun j hj=>.inl hj) hr
  (fun j hj=>⟨(h.ad j hj).2.1,nn j (Ch h.a j hj) (h.ad j hj).2.2⟩) (fun j hj=>nn j (Ch h.s j hj) (h.sd j hj).2) (hc h.cl)⟩
theorem Akn{R:V->Prop}{f p:Nat}{res:List AR}{body:AC}{vs:List V}{σ:St}(hT:TT f=some ⟨p,res,true,body,none⟩)(hl:vs.length=p)(h:W TT PT [.c body] (C2 0 vs) σ (Hd fun e' σ1=>∃ v,B6 e' σ1 res=some v/\(Cc v=true/\v.refs=[])/\(∃ l,σ1=σ++l)/\R v)):∃ v,Th TT PT f vs σ v σ/\R v:=by
 obtain⟨e',_,hE,v,hr,⟨h1,h2⟩,⟨l,rfl⟩,h3⟩:=h;exact⟨v,Ap0 hT rfl rfl hl ⟨e',_,hE,hr,⟨h1,by rw[h2];rfl,fun i ob hi ho=>.inl (by rw[Co hi]at ho;exact ho)⟩,by rw[S6]⟩,h3⟩
theorem Aby{R:V->St->Prop}{f p:Nat}{res:List AR}{body:AC}{vs:List V}{σ:St}(hT:TT f=some ⟨p,res,true,body,none⟩)(hl:vs.length=p)(h:W TT PT [.c body] (C2 0 vs) σ (Hd fun e' σ1=>∃ v,B6 e' σ1 res=some v/\(Cc v=true/\v.refs=[])/\(σ.length<=σ1.length/\Cl σ1)/\R v σ1)):∃ v σ',Th TT PT f vs σ v σ'/\R v σ':=by
 obtain⟨e',σ1,hE,v,hr,⟨h1,h2⟩,⟨h3,h4⟩,h5⟩:=h;exact⟨v,σ1,Acd hT hl ⟨e',σ1,hE,hr,rfl⟩ h2 h1 h3 h4,h5⟩
theorem Aln{m j g off len i:Nat}{w:Bool}{k:IntKind}(h:i<len):M6 m (.sl j g off len m w) (.int k (i:Int))=some (.ptr j g (off+i*m)):=by
 simp only[M6];rw[if_pos ⟨by omega,by omega,trivial⟩,Mf]
set_option maxHeartbeats 1000000 in
theorem Mk{σ:St}{w:Nat}{p:Gp}{th:Int}{uA uS uT:V}{X:List Sp}{S T:List (List V)}(h:WK σ w p th uA uS uT (X.map Sp.row) S T)(hX:X.length<=1000000000)(a b:Int)(nm:List UInt8):∃ v,Th TT PT 179 [.ptr w 0 0,.int .i64 a,.int .i64 b,.str nm] σ v σ/\∃ z,v=.bool z:=by
 have hlen:=Uz h.a;have n1:(X.map Sp.row).length=X.length:=Bl ..;rw[n1]at hlen;refine Akn T179 rfl ?_;simp only[go_sem];refine B9 (α:=Nat × St) (fun a=>X.length - a.1) (fun x=>[(0,.ptr w 0 0),(1,.int .i64 a),(2,.int .i64 b),(3,.str nm),(9,.int .i64 (x.1:Int))]) (fun x=>x.2) (fun x=>x.1<=X.length/\∃ l,x.2=σ++l) ?_ (0,σ) ⟨A2 _,[],by simp⟩;rintro⟨i,_⟩ ⟨hi,l,rfl⟩ ih;simp only at hi ih;have hr:=Br (l:=l) h.row;refine Ca (by delta lp179_0;exact rfl) ?_;rcases Bx i X.length with h' | h'
 ·obtain⟨x,hx,-,-⟩:=Dd h';obtain⟨j,g,cs,rfl,ho,hb,hrow⟩:=Ax0 (i:=i) (row:=x.row) h.a (by rw[Bb,hx];rfl);rw[n1]at hr hlen;have hj:=Br (l:=l) ho
  have hld:P7 (σ++l)[j]? g 11 false (i*11)=some (.agg x.row):=by
   rw[hj];simp only[P7];rw[if_pos ⟨trivial,by omega⟩,hrow];rfl
  have hxs:=Fi x;have hrow11:=Eg x;rw[hrow11]at hld hxs
  cases qa:(x.op==a)<;>cases qb:(x.op==b)<;>cases qn:(nm==[])<;>cases qx:(x.nm==nm)
  all_goals
   simp only[go_sem,hr,hlen,B7 h',Aln h',hld,qa,qb,qn,qx,Bg (show i<9223372036854775807 by omega)]
   first
    | exact⟨_,rfl,⟨rfl,rfl⟩,⟨_,rfl⟩,_,rfl⟩
    | exact Bi (ih (i+1,_) (by simp;omega) ⟨h',_,rfl⟩) rfl
 ·simp only[go_sem,hr,hlen,Cr h'];exact⟨_,rfl,⟨rfl,rfl⟩,⟨_,rfl⟩,_,rfl⟩
