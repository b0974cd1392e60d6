/- token.IsName and token.IsKeyword, known by what they return. -/
import Derived.Test.YtcoeikinocflnaaGreatDoorA5
import Derived.Test.YtcoeikinocflnaaGreatDoorProg
import Derived.WalkSpells
import Derived.WalkLawsBesides
import Derived.BigQuiet
import Derived.BigGuardPart
import Derived.Lib.Hide
import Derived.LoopTactic
import Derived.Laws.RangeAny
import Derived.Test.YtcoeikinocflnaaGreatDoorNa
set_option linter.all false
namespace Go.Proofs.YtcoeikinocflnaaGreatDoor.KM
open Go Go.RowKit
def kwL:List (List UInt8):=[[118,97,114],[118,111,108,97,116,105,108,101],[109,117,116,101,120],[114,119,108,111,99,107],[99,111,110,100],[102,117,116,117,114,101],[116,104,114,101,97,100],[105,102],[101,108,115,101],[119,104,105,108,101],[108,111,99,107],[114,101,97,100],[119,114,105,116,101],[116,114,97,110,115,97,99,116,105,111,110],[97,116,111,109,105,99],[119,97,105,116],[110,111,116,105,102,121],[110,111,116,105,102,121,97,108,108],[115,112,97,119,110],[106,111,105,110],[115,101,116],[103,101,116]]
def gKw:List V:=kwL.map V.str
def Hv(l:List UInt8):Bool:=kwL.any fun k=>l==k
def Nz(n:Nat):Bool:=(decide (97<=n)&&decide (n<=122))||(decide (65<=n)&&decide (n<=90))
def Mb(n:Nat):Bool:=decide (48<=n)&&decide (n<=57)
def N0(n:Nat):Bool:=Nz n||(Mb n||n==95)
def N6(l:List UInt8)(j:Nat):Bool:=Nz (l.getD j 0).toNat||(decide (0<j)&&((l.getD j 0).toNat==95||Mb (l.getD j 0).toNat))
def Dz(l:List UInt8):Bool:=decide (1<=l.length)&&(decide (l.length<=12)&&(!Hv l&&(List.range l.length).all (N6 l)))
def Yo:List V->Option V
 | [.str l]=>some (.bool (Hv l))
 | _=>none
theorem Axo{l:List UInt8}(h1:1<=l.length)(h2:l.length<=12)(h3:Hv l=false)(h4:∀ j,j<l.length->N6 l j=true):Dz l=true:=by
 unfold Dz
 rw[decide_eq_true h1,decide_eq_true h2,h3,A3.2 fun j hj=>h4 j (Ej.1 hj)]
 rfl
open Go Go.RowKit
theorem Amo{T:Nat->Option AF}{pr:Nat->Option (List V->Option V)}{P:Program}{G:List (Nat × List V)}(hT:∀ f F,T f=some F->F.spec=none->Mg P G f F=true)(hS:∀ f F s,T f=some F->F.spec=some s->Rk P G f s)(hpr:∀ f s,pr f=some s->Hq P G f s)
  {f:Nat} {s:List V->Option V} (hf:∃ fn c,P.funcs[f]?=some fn/\fn.body=some c/\fn.name ≠ "runtime.NumGoroutine") (h:∀ vs v,s vs=some v->Fn T pr f vs v):Hq P G f s:=by
 refine⟨hf,fun κ w vs us v hg hs hd hl ha hv=>?_⟩
 obtain⟨F,hF,h1,h2,v0,σ0,hE,hb⟩:=h vs v hv
 have hI:Inv G w.heap.size ⟨κ,[]⟩ [] w:=
  { base:=Ah _,len:=rfl,nd:=Vs,low:=fun i p h=>by simp at h,obj:=fun i ob p h=>by simp at h,dom:=hd,glob:=hg,
    gsz:=fun g r hm=>And.intro (by
     have:=hs g r hm
     unfold De at this
     split at this
     ·rename_i hh;exact(Array.getElem?_eq_some_iff.1 hh).1
     ·cases this) (hs g r hm) }
 refine(Akk hT hS hpr hE us w ⟨κ,[]⟩ w.heap.size hl (fun j hj=>.one (ha j hj)) hI).mono ?_
 rintro e w1 ⟨u,γ',rfl,hu,hI',hx,hbl,hk⟩
 obtain⟨κ2,y1,y2,y3,y4,_⟩:=hI'.freeze (Fr σ0 9 v0.refs.eraseDups)
 exact⟨u,κ2,rfl,V0 hI' y2 y4 hb hu [],hbl,fun b hlt=>(y3 b hlt).trans (hk b hlt),y1.dom⟩
/-! IsKeyword -/
def Ajw:AC:=.seq (.reg [] [o 7 (.bin .lss (.t 6) (.k (.int .i64 22)))]) (.seq (.cond (.t 7) [7] (.skip) (.exit 0)) (.seq (.blk 1 (.seq (.reg [8] [o 8 (.ida 22 1 true (.t 5) (.t 6)),o 4 (.mov (.t 8))]) (.seq (.reg [4,9,10] [o 9 (.mov (.t 0)),o 10 (.mov (.t 4)),o 11 (.bin .eql (.t 9) (.t 10))]) (.cond (.t 11) [11] (.seq (.reg [] [o 2 (.mov (.k (.bool true)))]) (.ret)) (.skip))))) (.reg [12] [o 12 (.bin .add (.t 6) (.k (.int .i64 1))),o 6 (.mov (.t 12))])))
def Alb:AF:=⟨1,[.tmp 2],false,.seq (.reg [2] [o 2 (.mov (.k (.bool false)))]) (.seq (.seq (.reg [] [o 5 (.load 22 false (.k (.imm gKw 0))),o 6 (.mov (.k (.int .i64 0)))]) (.blk 0 (.loop [0,5,6] Ajw))) (.seq (.reg [] [o 2 (.mov (.k (.bool false)))]) (.ret))),none⟩
def Va(f:Nat):Option AF:=if f=166 then some Alb else none
theorem A08{i:Nat}(h:i<22):(gKw.drop i).take 1=[.str (kwL.getD i [])]:=by
 have hl:i<kwL.length:=h
 unfold gKw
 rw[<-List.map_drop,Fg hl,Ak,Aw hl]
 rfl
theorem A09(l:List UInt8):Fn Va (fun _=>none) 166 [.str l] (.bool (Hv l)):=by
 refine Ch (show Va 166=some _ from rfl) rfl ?_
 have hlen:gKw.length=22:=rfl
 have hd:gKw.take 22=gKw:=rfl
 generalize hg:gKw=g at hlen hd
 simp only[go_sem,Nat.reduceEqDiff,reduceIte,Nat.reduceAdd,Nat.reduceMul,Nat.reduceLeDiff,Int.reduceLT,Int.reduceLE,Int.reduceToNat,Int.reduceAdd,Int.reduceNeg,Int.reduceEq,hlen,hd,Ah]
 refine Cr (fun i=>22 - i) (fun i:Nat=>[(0,.str l),(5,.agg g),(6,.int .i64 i)]) (fun _=>[]) (fun i=>i<=22/\∀ j,j<i->(l==kwL.getD j [])=false) ?_ 0 ⟨by omega,fun j hj=>by omega⟩
 rintro i ⟨hi,hno⟩ ih
 refine Ct (by delta Ajw;exact rfl) ?_
 rcases B3 i 22 with h | h
 ·have hk:=A08 h
  rw[hg]at hk
  have hlt:decide ((i:Int)<22)=true:=by simp;omega
  have h0:((0:Int)<=i)=True:=eq_true (by omega)
  have h1:((i:Int)<22)=True:=eq_true (by omega)
  have h2:(i+1<=22)=True:=eq_true (by omega)
  simp only[go_sem,Nat.reduceEqDiff,reduceIte,Nat.reduceAdd,Nat.reduceMul,Nat.reduceLeDiff,Int.reduceLT,Int.reduceLE,Int.reduceToNat,Int.reduceAdd,Int.reduceNeg,Int.reduceEq,hlt,h0,h1,h2,hk,hlen]
  refine Az9 (fun h3=>?_) (fun h3=>?_)
  ·simp only[go_sem,Nat.reduceEqDiff,reduceIte,Nat.reduceAdd,Nat.reduceMul,Nat.reduceLeDiff,Int.reduceLT,Int.reduceLE,Int.reduceToNat,Int.reduceAdd,Int.reduceNeg,Int.reduceEq]
   refine B0 rfl ?_
   unfold Hv
   rw[Ol.2 ⟨kwL.getD i [],?_,h3⟩]
   have hl:i<kwL.length:=h
   rw[Ak,Aw hl]
   exact Fh hl
  ·simp only[go_sem,Nat.reduceEqDiff,reduceIte,Nat.reduceAdd,Nat.reduceMul,Nat.reduceLeDiff,Int.reduceLT,Int.reduceLE,Int.reduceToNat,Int.reduceAdd,Int.reduceNeg,Int.reduceEq,Bq (show i<9223372036854775807 by omega)]
   refine Bd (ih (i+1) (by omega) ⟨by omega,fun j hj=>?_⟩) rfl
   by_cases e:j=i
   ·rw[e];exact h3
   ·exact hno j (by omega)
 ·have hlt:decide ((i:Int)<22)=false:=by simp;omega
  simp only[go_sem,Nat.reduceEqDiff,reduceIte,Nat.reduceAdd,Nat.reduceMul,Nat.reduceLeDiff,Int.reduceLT,Int.reduceLE,Int.reduceToNat,Int.reduceAdd,Int.reduceNeg,Int.reduceEq,hlt]
  refine B0 rfl ?_
  symm
  congr 1
  unfold Hv
  rw[<-Bool.not_eq_true]
  intro ha
  obtain⟨k,hk,he⟩:=Ol.1 ha
  obtain⟨j,hj,rfl⟩:=Pu hk
  have hj2:j<22:=hj
  have:=hno j (by omega)
  rw[Ak,Aw hj]at this
  exact absurd he (by simpa using this)
theorem A19:Mg Tryz.prog [(1,gKw)] 166 Alb=true:=by
 kernel_rfl
theorem Ap4{P:Program}{G H:List (Nat × List V)}{f:Nat}{s:List V->Option V}(h:∀ p∈G,p∈H)(hp:Hq P G f s):Hq P H f s:=
 ⟨hp.1,fun κ w vs us v hg hs=>hp.2 κ w vs us v (fun g r hm=>hg g r (h _ hm)) fun g r hm=>hs g r (h _ hm)⟩
theorem A1a{G:List (Nat × List V)}(hin:(1,gKw)∈G):Hq Tryz.prog G 166 Yo:=by
 refine Ap4 (G:=[(1,gKw)]) (fun p hp=>by rw[Mj.1 hp];exact hin) ?_
 refine Amo (T:=Va) (pr:=fun _=>none) ?_ ?_ (fun _ _ h=>by cases h) ⟨Tryz.f166,_,by kernel_rfl,rfl,by decide⟩ ?_
 ·intro f F h _
  unfold Va at h
  split at h
  ·rename_i hf
   cases h
   subst hf
   exact A19
  ·cases h
 ·intro f F s h hs
  unfold Va at h
  split at h
  ·cases h;cases hs
  ·cases h
 ·intro vs v h
  unfold Yo at h
  split at h
  ·cases h;exact A09 _
  ·cases h
end Go.Proofs.YtcoeikinocflnaaGreatDoor.KM
