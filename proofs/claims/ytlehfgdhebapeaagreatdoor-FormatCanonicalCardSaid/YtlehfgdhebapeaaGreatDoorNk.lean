/- token.IsName: the tie to what the machine knows. -/
import Derived.Test.YtlehfgdhebapeaaGreatDoorNa
set_option linter.all false
namespace Go.Proofs.YtlehfgdhebapeaaGreatDoor.KM
open Go Go.RowKit
theorem Alu{T:Nat->Option AF}{pr:Nat->Option (List V->Option V)}{P:Program}{G:List (Nat × List V)}(hT:∀ f F,T f=some F->F.spec=none->A0 P G f F=true)(hS:∀ f F s,T f=some F->F.spec=some s->Nr P G f s)(hpr:∀ f s,pr f=some s->Fd P G f s)
  {f:Nat} {s:List V->Option V} (hf:∃ fn c,P.funcs[f]?=some fn/\fn.body=some c/\fn.name ≠ "runtime.NumGoroutine") (h:∀ vs v,s vs=some v->Fn T pr f vs v):Fd P G f s:=by
 refine⟨hf,fun κ w vs us v hg hs hd hl ha hv=>?_⟩
 obtain⟨F,hF,h1,h2,v0,σ0,hE,hb⟩:=h vs v hv
 have hI:Inv G w.heap.size ⟨κ,[]⟩ [] w:=
  { base:=Af _,len:=rfl,nd:=Mt,low:=fun i p h=>by simp at h,obj:=fun i ob p h=>by simp at h,dom:=hd,glob:=hg,
    gsz:=fun g r hm=>And.intro (by
     have:=hs g r hm
     unfold C9 at this
     split at this
     ·rename_i hh;exact(Array.getElem?_eq_some_iff.1 hh).1
     ·cases this) (hs g r hm) }
 refine(Ul hT hS hpr hE us w ⟨κ,[]⟩ w.heap.size hl (fun j hj=>.one (ha j hj)) hI).mono ?_
 rintro e w1 ⟨u,γ',rfl,hu,hI',hx,hbl,hk⟩
 obtain⟨κ2,y1,y2,y3,y4,_⟩:=hI'.freeze (Gl σ0 9 v0.refs.eraseDups)
 exact⟨u,κ2,rfl,Sx hI' y2 y4 hb hu [],hbl,fun b hlt=>(y3 b hlt).trans (hk b hlt),y1.dom⟩
/-! IsKeyword -/
def Ai5:AC:=.seq (.reg [] [o 7 (.bin .lss (.t 6) (.k (.int .i64 22)))]) (.seq (.cond (.t 7) [7] (.skip) (.exit 0)) (.seq (.blk 1 (.seq (.reg [8] [o 8 (.ida 22 1 true (.t 5) (.t 6)),o 4 (.mov (.t 8))]) (.seq (.reg [4,9,10] [o 9 (.mov (.t 0)),o 10 (.mov (.t 4)),o 11 (.bin .eql (.t 9) (.t 10))]) (.cond (.t 11) [11] (.seq (.reg [] [o 2 (.mov (.k (.bool true)))]) (.ret)) (.skip))))) (.reg [12] [o 12 (.bin .add (.t 6) (.k (.int .i64 1))),o 6 (.mov (.t 12))])))
def Akh:AF:=⟨1,[.tmp 2],false,.seq (.reg [2] [o 2 (.mov (.k (.bool false)))]) (.seq (.seq (.reg [] [o 5 (.load 22 false (.k (.imm gKw 0))),o 6 (.mov (.k (.int .i64 0)))]) (.blk 0 (.loop [0,5,6] Ai5))) (.seq (.reg [] [o 2 (.mov (.k (.bool false)))]) (.ret))),none⟩
def U3(f:Nat):Option AF:=if f=159 then some Akh else none
theorem Ayv{i:Nat}(h:i<22):(gKw.drop i).take 1=[.str (kwL.getD i [])]:=by
 have hl:i<kwL.length:=h
 unfold gKw
 rw[<-List.map_drop,Gq hl,Am,Az hl]
 rfl
theorem Ayw(l:List UInt8):Fn U3 (fun _=>none) 159 [.str l] (.bool (G0 l)):=by
 refine Bz (show U3 159=some _ from rfl) rfl ?_
 have hlen:gKw.length=22:=rfl
 have hd:gKw.take 22=gKw:=rfl
 generalize hg:gKw=g at hlen hd
 simp only[go_sem,Nat.reduceEqDiff,reduceIte,Nat.reduceAdd,Nat.reduceMul,Nat.reduceLeDiff,Int.reduceLT,Int.reduceLE,Int.reduceToNat,Int.reduceAdd,Int.reduceNeg,Int.reduceEq,hlen,hd,Af]
 refine En (fun i=>22 - i) (fun i:Nat=>[(0,.str l),(5,.agg g),(6,.int .i64 i)]) (fun _=>[]) (fun i=>i<=22/\∀ j,j<i->(l==kwL.getD j [])=false) ?_ 0 ⟨by omega,fun j hj=>by omega⟩
 rintro i ⟨hi,hno⟩ ih
 refine Eo (by delta Ai5;exact rfl) ?_
 rcases D7 i 22 with h | h
 ·have hk:=Ayv h
  rw[hg]at hk
  have hlt:decide ((i:Int)<22)=true:=by simp;omega
  have h0:((0:Int)<=i)=True:=eq_true (by omega)
  have h1:((i:Int)<22)=True:=eq_true (by omega)
  have h2:(i+1<=22)=True:=eq_true (by omega)
  simp only[go_sem,Nat.reduceEqDiff,reduceIte,Nat.reduceAdd,Nat.reduceMul,Nat.reduceLeDiff,Int.reduceLT,Int.reduceLE,Int.reduceToNat,Int.reduceAdd,Int.reduceNeg,Int.reduceEq,hlt,h0,h1,h2,hk,hlen]
  refine Axw (fun h3=>?_) (fun h3=>?_)
  ·simp only[go_sem,Nat.reduceEqDiff,reduceIte,Nat.reduceAdd,Nat.reduceMul,Nat.reduceLeDiff,Int.reduceLT,Int.reduceLE,Int.reduceToNat,Int.reduceAdd,Int.reduceNeg,Int.reduceEq]
   refine A9 rfl ?_
   unfold G0
   rw[Ms.2 ⟨kwL.getD i [],?_,h3⟩]
   have hl:i<kwL.length:=h
   rw[Am,Az hl]
   exact E1 hl
  ·simp only[go_sem,Nat.reduceEqDiff,reduceIte,Nat.reduceAdd,Nat.reduceMul,Nat.reduceLeDiff,Int.reduceLT,Int.reduceLE,Int.reduceToNat,Int.reduceAdd,Int.reduceNeg,Int.reduceEq,Cr (show i<9223372036854775807 by omega)]
   refine C5 (ih (i+1) (by omega) ⟨by omega,fun j hj=>?_⟩) rfl
   by_cases e:j=i
   ·rw[e];exact h3
   ·exact hno j (by omega)
 ·have hlt:decide ((i:Int)<22)=false:=by simp;omega
  simp only[go_sem,Nat.reduceEqDiff,reduceIte,Nat.reduceAdd,Nat.reduceMul,Nat.reduceLeDiff,Int.reduceLT,Int.reduceLE,Int.reduceToNat,Int.reduceAdd,Int.reduceNeg,Int.reduceEq,hlt]
  refine A9 rfl ?_
  symm
  congr 1
  unfold G0
  rw[<-Bool.not_eq_true]
  intro ha
  obtain⟨k,hk,he⟩:=Ms.1 ha
  obtain⟨j,hj,rfl⟩:=Sh hk
  have hj2:j<22:=hj
  have:=hno j (by omega)
  rw[Am,Az hj]at this
  exact absurd he (by simpa using this)
theorem Az3:A0 Tryz.prog [(4,gKw)] 159 Akh=true:=by
 kernel_rfl
theorem Aog{P:Program}{G H:List (Nat × List V)}{f:Nat}{s:List V->Option V}(h:∀ p∈G,p∈H)(hp:Fd P G f s):Fd P H f s:=
 ⟨hp.1,fun κ w vs us v hg hs=>hp.2 κ w vs us v (fun g r hm=>hg g r (h _ hm)) fun g r hm=>hs g r (h _ hm)⟩
theorem Ayx{G:List (Nat × List V)}(hin:(4,gKw)∈G):Fd Tryz.prog G 159 Yg:=by
 refine Aog (G:=[(4,gKw)]) (fun p hp=>by rw[J6.1 hp];exact hin) ?_
 refine Alu (T:=U3) (pr:=fun _=>none) ?_ ?_ (fun _ _ h=>by cases h) ⟨Tryz.f159,_,by kernel_rfl,rfl,by decide⟩ ?_
 ·intro f F h _
  unfold U3 at h
  split at h
  ·rename_i hf
   cases h
   subst hf
   exact Az3
  ·cases h
 ·intro f F s h hs
  unfold U3 at h
  split at h
  ·cases h;cases hs
  ·cases h
 ·intro vs v h
  unfold Yg at h
  split at h
  ·cases h;exact Ayw _
  ·cases h
end Go.Proofs.YtlehfgdhebapeaaGreatDoor.KM
