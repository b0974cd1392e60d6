/- token.IsName: the tie to what the machine knows. -/
import Derived.Test.YtphikjgngompaacGreatDoorRs
set_option linter.all false
namespace Go.Proofs.YtphikjgngompaacGreatDoor.KM
open Go Go.RowKit
def A1o{T:Nat->Option AF}{pr:Nat->Option (List V->Option V)}{P:Program}{G:List (Nat × List V)}(hT:∀ f F,T f=some F->F.spec=none->Q9 P G f F=true)(hS:∀ f F s,T f=some F->F.spec=some s->Sl P G f s)(qg:∀ f s,pr f=some s->Iy P G f s)
  {f:Nat} {s:List V->Option V} (hf:∃ fn c,P.funcs[f]?=some fn/\fn.body=some c/\fn.name ≠ "runtime.NumGoroutine") (h:∀ vs v,s vs=some v->Fn T pr f vs v):Iy P G f s:=by
 refine⟨hf,fun κ w vs us v hg hs hd hl ha hv=>?_⟩;obtain⟨F,hF,h1,h2,v0,σ0,hE,hb⟩:=h vs v hv
 have hI:Inv G w.heap.size ⟨κ,[]⟩ [] w:=
  { base:=Am _,len:=rfl,nd:=X4,low:=fun i p h=>by simp at h,obj:=fun i ob p h=>by simp at h,dom:=hd,glob:=hg,
    gsz:=fun g r hm=>And.intro (by
     have:=hs g r hm;unfold Ep at this
     split at this
     .rename_i hh;exact(Array.getElem?_eq_some_iff.1 hh).1
     .cases this) (hs g r hm) }
 refine(Axq hT hS qg hE us w ⟨κ,[]⟩ w.heap.size hl (fun j hj=>.one (ha j hj)) hI).mono ?_;rintro e w1 ⟨u,γ',rfl,hu,qd,hx,qf,hk⟩;obtain⟨κ2,y1,y2,y3,y4,_⟩:=qd.freeze (Fy σ0 9 v0.refs.eraseDups);exact⟨u,κ2,rfl,Ab7 qd y2 y4 hb hu [],qf,fun b qb=>(y3 b qb).trans (hk b qb),y1.dom⟩
/-! IsKeyword -/
def Awe:AC:=.seq (.reg [] [o 7 (.bin .lss (.t 6) (.k (.int .i64 22)))]) (.seq (.cond (.t 7) [7] (.skip) (.exit 0)) (.seq (.blk 1 (.seq (.reg [8] [o 8 (.ida 22 1 true (.t 5) (.t 6)),o 4 (.mov (.t 8))]) (.seq (.reg [4,9,10] [o 9 (.mov (.t 0)),o 10 (.mov (.t 4)),o 11 (.bin .eql (.t 9) (.t 10))]) (.cond (.t 11) [11] (.seq (.reg [] [o 2 (.mov (.k (.bool true)))]) (.ret)) (.skip))))) (.reg [12] [o 12 (.bin .add (.t 6) (.k (.int .i64 1))),o 6 (.mov (.t 12))])))
def Azi:AF:=⟨1,[.tmp 2],false,.seq (.reg [2] [o 2 (.mov (.k (.bool false)))]) (.seq (.seq (.reg [] [o 5 (.load 22 false (.k (.imm gKw 0))),o 6 (.mov (.k (.int .i64 0)))]) (.blk 0 (.loop [0,5,6] Awe))) (.seq (.reg [] [o 2 (.mov (.k (.bool false)))]) (.ret))),none⟩
def tkw(f:Nat):Option AF:=if f=145 then some Azi else none
def Bjz{i:Nat}(h:i<22):(gKw.drop i).take 1=[.str (kwL.getD i [])]:=by
 have hl:i<kwL.length:=h;unfold gKw;rw[<-Ag9,Ib hl,Fl,Cb hl];rfl
def Bj0(l:List UInt8):Fn tkw (fun _=>none) 145 [.str l] (.bool (Hw l)):=by
 refine Bg (show tkw 145=some _ from rfl) rfl ?_;have qa:gKw.length=22:=rfl;have hd:gKw.take 22=gKw:=rfl;generalize hg:gKw=g at qa hd;simp only[go_sem,Nat.reduceEqDiff,reduceIte,Nat.reduceAdd,Nat.reduceMul,Nat.reduceLeDiff,Int.reduceLT,Int.reduceLE,Int.reduceToNat,Int.reduceAdd,Int.reduceNeg,Int.reduceEq,qa,hd,Am];refine Bb (fun i=>22 - i) (fun i:Nat=>[(0,.str l),(5,.agg g),(6,.int .i64 i)]) (fun _=>[]) (fun i=>i<=22/\∀ j,j<i->(l==kwL.getD j [])=false) ?_ 0 ⟨by omega,fun j hj=>by omega⟩;rintro i ⟨hi,qe⟩ ih;refine Ay (by delta Awe;exact rfl) ?_;rcases Az i 22 with h | h
 .have hk:=Bjz h;rw[hg]at hk;have qb:decide ((i:Int)<22)=true:=by simp;omega
  have h0:((0:Int)<=i)=True:=eq_true AA;have h1:((i:Int)<22)=True:=eq_true AA;have h2:(i+1<=22)=True:=eq_true AA;simp only[go_sem,Nat.reduceEqDiff,reduceIte,Nat.reduceAdd,Nat.reduceMul,Nat.reduceLeDiff,Int.reduceLT,Int.reduceLE,Int.reduceToNat,Int.reduceAdd,Int.reduceNeg,Int.reduceEq,qb,h0,h1,h2,hk,qa];refine Lp (fun h3=>?_) (fun h3=>?_)
  .simp only[go_sem,Nat.reduceEqDiff,reduceIte,Nat.reduceAdd,Nat.reduceMul,Nat.reduceLeDiff,Int.reduceLT,Int.reduceLE,Int.reduceToNat,Int.reduceAdd,Int.reduceNeg,Int.reduceEq];refine Ae rfl ?_;unfold Hw;rw[Pa.2 ⟨kwL.getD i [],?_,h3⟩];have hl:i<kwL.length:=h;rw[Fl,Cb hl];exact Nw hl
  .simp only[go_sem,Nat.reduceEqDiff,reduceIte,Nat.reduceAdd,Nat.reduceMul,Nat.reduceLeDiff,Int.reduceLT,Int.reduceLE,Int.reduceToNat,Int.reduceAdd,Int.reduceNeg,Int.reduceEq,Aw (show i<9223372036854775807 by omega)];refine Ai (ih (i+1) AA ⟨by omega,fun j hj=>?_⟩) rfl;by_cases e:j=i
   .rw[e];exact h3
   .exact qe j AA
 .have qb:decide ((i:Int)<22)=false:=by simp;omega
  simp only[go_sem,Nat.reduceEqDiff,reduceIte,Nat.reduceAdd,Nat.reduceMul,Nat.reduceLeDiff,Int.reduceLT,Int.reduceLE,Int.reduceToNat,Int.reduceAdd,Int.reduceNeg,Int.reduceEq,qb];refine Ae rfl ?_
  symm
  congr 1;unfold Hw;rw[<-X3];intro ha;obtain⟨k,hk,he⟩:=Pa.1 ha;obtain⟨j,hj,rfl⟩:=Mu hk;have qh:j<22:=hj;have:=qe j AA;rw[Fl,Cb hj]at this;exact absurd he (by simpa using this)
def Bny:Q9 Tryz.prog [(1,gKw)] 145 Azi=true:=by
 kernel_rfl
def A6c{P:Program}{G H:List (Nat × List V)}{f:Nat}{s:List V->Option V}(h:∀ p∈G,p∈H)(hp:Iy P G f s):Iy P H f s:=
 ⟨hp.1,fun κ w vs us v hg hs=>hp.2 κ w vs us v (fun g r hm=>hg g r (h _ hm)) fun g r hm=>hs g r (h _ hm)⟩
def Ax7{G:List (Nat × List V)}(qc:(1,gKw)∈G):Iy Tryz.prog G 145 kwS:=by
 refine A6c (G:=[(1,gKw)]) (fun p hp=>by rw[Hh.1 hp];exact qc) ?_;refine A1o (T:=tkw) (pr:=fun _=>none) ?_ ?_ (fun _ _ h=>by cases h) ⟨Tryz.f145,_,by kernel_rfl,rfl,by decide⟩ ?_
 .intro f F h _;unfold tkw at h
  split at h
  .rename_i hf;cases h;subst hf;exact Bny
  .cases h
 .intro f F s h hs;unfold tkw at h
  split at h
  .cases h;cases hs
  .cases h
 .intro vs v h;unfold kwS at h
  split at h
  .cases h;exact Bj0 _
  .cases h
def Baw{G:List (Nat × List V)}(qc:(1,gKw)∈G):Iy Tryz.prog G 125 Afk:=by
 obtain⟨-,hk⟩:=Ax7 qc;refine⟨⟨Tryz.f125,_,by kernel_rfl,rfl,by decide⟩,fun κ w vs us v hg hs hd hl ha h=>?_⟩;unfold Afk at h
 split at h
 .rename_i l;cases h;obtain⟨a,rfl⟩:=Azg hl;obtain⟨h1,hm⟩:=G7 (H0 rfl (ha 0 AE));have h1:a=.string ⟨l.toArray⟩:=h1;subst h1;refine(A2u ⟨l.toArray⟩ w ?_).mono fun e w' hh=>Rp hd (fun κ' w'=>Df (.row .bool)) hh
  refine(hk κ w [.str l] [.string ⟨l.toArray⟩] _ hg hs hd rfl ha rfl).mono ?_;rintro e w1 ⟨u,κ',rfl,hu,hb,-,-⟩;exact⟨by rw[Pb (Bf rfl hu)],hb⟩
 .cases h
