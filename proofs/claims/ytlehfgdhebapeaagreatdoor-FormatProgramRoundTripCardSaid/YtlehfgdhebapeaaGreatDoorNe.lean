/- strings.Join, known by what it returns. -/
import Derived.Test.YtlehfgdhebapeaaGreatDoorNa
import Derived.Lib.Join
import Derived.Test.YtlehfgdhebapeaaGreatDoorA5
import Derived.Test.YtlehfgdhebapeaaGreatDoorProg
import Derived.WalkSpells
import Derived.WalkLawsBesides
import Derived.BigQuiet
import Derived.BigGuardPart
import Derived.Lib.Hide
import Derived.LoopTactic
import Derived.Laws.RangeAny
set_option linter.all false
namespace Go.Proofs.YtlehfgdhebapeaaGreatDoor.KM
open Go Go.RowKit Go.Sort
variable {G:List (Nat × List V)}
def strRows:List (List V)→Option (List (List UInt8))
 | []=>some []
 | [.str l]::r=>(strRows r).map (l::·)
 | _=>none
def joinS:List V→Option V
 | [.nils,.str _]=>some (.str [])
 | [.lst _ xs,.str sep]=>(strRows xs).bind fun ls=>if xs.length≤140737488355328∧(Lib.join ls sep).length≤140737488355328 then some (.str (Lib.join ls sep)) else none
 | _=>none
theorem strRows_at:∀ {xs:List (List V)} {ls:List (List UInt8)},strRows xs=some ls→ls.length=xs.length∧∀ (j:Nat) l,ls[j]?=some l→xs.getD j []=[.str l]
 | [],ls,h=>by
  simp[strRows]at h
  subst h
  exact⟨rfl,fun j x hj=>by simp at hj⟩
 | r::xs,ls,h=>by
  unfold strRows at h
  split at h
  ·rename_i e;cases e
  ·rename_i l r' e
   injection e with e1 e2
   subst e1 e2
   simp only[Option.map_eq_some_iff]at h
   obtain⟨l',h,rfl⟩:=h
   obtain⟨g1,g2⟩:=strRows_at h
   refine⟨by simp[g1],fun j x hj=>?_⟩
   cases j with
   | zero=>simp at hj;rw[←hj];rfl
   | succ j=>exact g2 j x (by simpa using hj)
  ·cases h
theorem strRows_map:∀ l:List (List UInt8),strRows (l.map fun s=>[V.str s])=some l
 | []=>rfl
 | a::l=>by rw[List.map_cons,strRows,strRows_map l];rfl
theorem join_ok:PrimOk Tryz.prog G 36 joinS:=by
 refine⟨⟨Tryz.f36,_,by kernel_rfl,rfl,by decide⟩,fun κ w vs us v hg hs hd hl ha h=>?_⟩
 unfold joinS at h
 split at h
 ·rename_i sep
  cases h
  obtain⟨a,b,rfl⟩:=two hl
  have h1:=repC_nils (rep1_cell rfl (ha 0 (by simp)))
  have h2:=(repC_str (rep1_cell rfl (ha 1 (by simp)))).1
  have h1:a=.slice none 0 0:=h1
  have h2:b=.string ⟨sep.toArray⟩:=h2
  subst h1 h2
  refine(Tryz.strings_Join_none none 0 ⟨sep.toArray⟩ w).mono ?_
  rintro e w' ⟨rfl,rfl⟩
  exact prim_fin hd (by simp) ⟨rfl,Below.refl _ _⟩
 ·rename_i t xs sep
  simp only[Option.bind_eq_some_iff]at h
  obtain⟨ls,hls,h⟩:=h
  split at h
  ·rename_i hc
   cases h
   obtain⟨a,b,rfl⟩:=two hl
   obtain⟨ad,cap,h1,hR,_⟩:=repC_lst (rep1_cell rfl (ha 0 (by simp)))
   have h2:=(repC_str (rep1_cell rfl (ha 1 (by simp)))).1
   have h1:a=.slice (some ad) xs.length cap:=h1
   have h2:b=.string ⟨sep.toArray⟩:=h2
   subst h1 h2
   obtain⟨r1,r2⟩:=strRows_at hls
   rcases Nat.eq_zero_or_pos xs.length with h0 | hpos
   ·have hx0:xs=[]:=List.eq_nil_of_length_eq_zero h0
    subst hx0
    have hl0:ls=[]:=List.eq_nil_of_length_eq_zero (by simpa using r1)
    subst hl0
    refine(Tryz.strings_Join_none (some ad) cap ⟨sep.toArray⟩ w).mono ?_
    rintro e w' ⟨rfl,rfl⟩
    exact prim_fin hd (by simp[Lib.join,List.intercalate]) ⟨by simp[Lib.join,List.intercalate],Below.refl _ _⟩
   ·cases hR with
    | @lst _ _ _ _ m row k1 k2 k3 k4 k5 k6 k7=>
    obtain⟨hsp,k,hk,hle⟩:=k4 hpos
    obtain⟨blk,off,sp⟩:=ad
    simp at hsp
    subst hsp
    have hm:m=1:=by
     have h5:=k5 0 hpos
     have:=r2 0 (ls[0]'(by omega)) (by simp)
     rw[this]at h5
     simpa using h5.symm
    subst hm
    have hlen:xs.length=(ls.map fun l=>(⟨l.toArray⟩:ByteArray)).length:=by simp[r1]
    have hmap:(ls.map fun l=>(⟨l.toArray⟩:ByteArray)).map (·.data.toList)=ls:=by simp[Function.comp_def]
    have hJ:=Tryz.strings_Join blk off cap (ls.map fun l=>⟨l.toArray⟩) ⟨sep.toArray⟩ w (fun j x hj=>by
     simp only[List.getElem?_map,Option.map_eq_some_iff]at hj
     obtain⟨l,hl,rfl⟩:=hj
     have hjl:j<xs.length:=by rw[←r1];exact(List.getElem?_eq_some_iff.1 hl).1
     have a1:=k6 j 0 hjl (by omega)
     have a2:=k7 j 0 hjl (by omega)
     rw[r2 j l hl]at a2
     have a3:=(repC_str (γ:=⟨κ,[]⟩) (.row a2)).1
     rw[a3]at a1
     simpa using a1) (hd _ _ hk) (by rw[←hlen];exact hc.1) (by rw[←hlen];exact k2) (by rw[hmap];exact hc.2)
    rw[hmap,←hlen]at hJ
    exact hJ.mono fun e w' hh=>prim_fin hd (by unfold maxLen;omega) hh
  ·cases h
 ·cases h
end Go.Proofs.YtlehfgdhebapeaaGreatDoor.KM
/- token.IsName and token.IsKeyword, known by what they return. -/
namespace Go.Proofs.YtlehfgdhebapeaaGreatDoor.KM
open Go Go.RowKit
def kwL:List (List UInt8):=[[118,97,114],[118,111,108,97,116,105,108,101],[109,117,116,101,120],[114,119,108,111,99,107],[99,111,110,100],[102,117,116,117,114,101],[116,104,114,101,97,100],[105,102],[101,108,115,101],[119,104,105,108,101],[108,111,99,107],[114,101,97,100],[119,114,105,116,101],[116,114,97,110,115,97,99,116,105,111,110],[97,116,111,109,105,99],[119,97,105,116],[110,111,116,105,102,121],[110,111,116,105,102,121,97,108,108],[115,112,97,119,110],[106,111,105,110],[115,101,116],[103,101,116]]
def gKw:List V:=kwL.map V.str
def kwE(l:List UInt8):Bool:=kwL.any fun k=>l==k
def letN(n:Nat):Bool:=(decide (97≤n)&&decide (n≤122))||(decide (65≤n)&&decide (n≤90))
def digN(n:Nat):Bool:=decide (48≤n)&&decide (n≤57)
def innN(n:Nat):Bool:=letN n||(digN n||n==95)
def nmC(l:List UInt8)(j:Nat):Bool:=letN (l.getD j 0).toNat||(decide (0<j)&&((l.getD j 0).toNat==95||digN (l.getD j 0).toNat))
def isNameE(l:List UInt8):Bool:=decide (1≤l.length)&&(decide (l.length≤12)&&(!kwE l&&(List.range l.length).all (nmC l)))
def kwS:List V→Option V
 | [.str l]=>some (.bool (kwE l))
 | _=>none
theorem name_t{l:List UInt8}(h1:1≤l.length)(h2:l.length≤12)(h3:kwE l=false)(h4:∀ j,j<l.length→nmC l j=true):isNameE l=true:=by
 unfold isNameE
 rw[decide_eq_true h1,decide_eq_true h2,h3,List.all_eq_true.2 fun j hj=>h4 j (List.mem_range.1 hj)]
 rfl
end Go.Proofs.YtlehfgdhebapeaaGreatDoor.KM
/- token.IsName: the tie to what the machine knows. -/
namespace Go.Proofs.YtlehfgdhebapeaaGreatDoor.KM
open Go Go.RowKit
theorem prim_of_fn{T:Nat→Option AF}{pr:Nat→Option (List V→Option V)}{P:Program}{G:List (Nat × List V)}(hT:∀ f F,T f=some F→F.spec=none→okF P G f F=true)(hS:∀ f F s,T f=some F→F.spec=some s→ThrOk P G f s)(hpr:∀ f s,pr f=some s→PrimOk P G f s)
  {f:Nat} {s:List V→Option V} (hf:∃ fn c,P.funcs[f]?=some fn∧fn.body=some c∧fn.name ≠ "runtime.NumGoroutine") (h:∀ vs v,s vs=some v→Fn T pr f vs v):PrimOk P G f s:=by
 refine⟨hf,fun κ w vs us v hg hs hd hl ha hv=>?_⟩
 obtain⟨F,hF,h1,h2,v0,σ0,hE,hb⟩:=h vs v hv
 have hI:Inv G w.heap.size ⟨κ,[]⟩ [] w:=
  { base:=Nat.le_refl _,len:=rfl,nd:=List.nodup_nil,low:=fun i p h=>by simp at h,obj:=fun i ob p h=>by simp at h,dom:=hd,glob:=hg,
    gsz:=fun g r hm=>And.intro (by
     have:=hs g r hm
     unfold sizeOf? at this
     split at this
     ·rename_i hh;exact(Array.getElem?_eq_some_iff.1 hh).1
     ·cases this) (hs g r hm) }
 refine(sound hT hS hpr hE us w ⟨κ,[]⟩ w.heap.size hl (fun j hj=>.one (ha j hj)) hI).mono ?_
 rintro e w1 ⟨u,γ',rfl,hu,hI',hx,hbl,hk⟩
 obtain⟨κ2,y1,y2,y3,y4,_⟩:=hI'.freeze (clo σ0 9 v0.refs.eraseDups)
 exact⟨u,κ2,rfl,settleV_rep hI' y2 y4 hb hu [],hbl,fun b hlt=>(y3 b hlt).trans (hk b hlt),y1.dom⟩
/-! IsKeyword -/
def lpKW_0:AC:=.seq (.reg [] [o 7 (.bin .lss (.t 6) (.k (.int .i64 22)))]) (.seq (.cond (.t 7) [7] (.skip) (.exit 0)) (.seq (.blk 1 (.seq (.reg [8] [o 8 (.ida 22 1 true (.t 5) (.t 6)),o 4 (.mov (.t 8))]) (.seq (.reg [4,9,10] [o 9 (.mov (.t 0)),o 10 (.mov (.t 4)),o 11 (.bin .eql (.t 9) (.t 10))]) (.cond (.t 11) [11] (.seq (.reg [] [o 2 (.mov (.k (.bool true)))]) (.ret)) (.skip))))) (.reg [12] [o 12 (.bin .add (.t 6) (.k (.int .i64 1))),o 6 (.mov (.t 12))])))
def afKW:AF:=⟨1,[.tmp 2],false,.seq (.reg [2] [o 2 (.mov (.k (.bool false)))]) (.seq (.seq (.reg [] [o 5 (.load 22 false (.k (.imm gKw 0))),o 6 (.mov (.k (.int .i64 0)))]) (.blk 0 (.loop [0,5,6] lpKW_0))) (.seq (.reg [] [o 2 (.mov (.k (.bool false)))]) (.ret))),none⟩
def tkw(f:Nat):Option AF:=if f=159 then some afKW else none
theorem kw_at{i:Nat}(h:i<22):(gKw.drop i).take 1=[.str (kwL.getD i [])]:=by
 have hl:i<kwL.length:=h
 unfold gKw
 rw[←List.map_drop,List.drop_eq_getElem_cons hl,List.getD_eq_getElem?_getD,List.getElem?_eq_getElem hl]
 rfl
theorem kw_fn(l:List UInt8):Fn tkw (fun _=>none) 159 [.str l] (.bool (kwE l)):=by
 refine Fn_go (show tkw 159=some _ from rfl) rfl ?_
 have hlen:gKw.length=22:=rfl
 have hd:gKw.take 22=gKw:=rfl
 generalize hg:gKw=g at hlen hd
 simp only[go_sem,Nat.reduceEqDiff,reduceIte,Nat.reduceAdd,Nat.reduceMul,Nat.reduceLeDiff,Int.reduceLT,Int.reduceLE,Int.reduceToNat,Int.reduceAdd,Int.reduceNeg,Int.reduceEq,hlen,hd,Nat.le_refl]
 refine loop_w (fun i=>22 - i) (fun i:Nat=>[(0,.str l),(5,.agg g),(6,.int .i64 i)]) (fun _=>[]) (fun i=>i≤22∧∀ j,j<i→(l==kwL.getD j [])=false) ?_ 0 ⟨by omega,fun j hj=>by omega⟩
 rintro i ⟨hi,hno⟩ ih
 refine w_rep (by delta lpKW_0;exact rfl) ?_
 rcases Nat.lt_or_ge i 22 with h | h
 ·have hk:=kw_at h
  rw[hg]at hk
  have hlt:decide ((i:Int)<22)=true:=by simp;omega
  have h0:((0:Int)≤i)=True:=eq_true (by omega)
  have h1:((i:Int)<22)=True:=eq_true (by omega)
  have h2:(i+1≤22)=True:=eq_true (by omega)
  simp only[go_sem,Nat.reduceEqDiff,reduceIte,Nat.reduceAdd,Nat.reduceMul,Nat.reduceLeDiff,Int.reduceLT,Int.reduceLE,Int.reduceToNat,Int.reduceAdd,Int.reduceNeg,Int.reduceEq,hlt,h0,h1,h2,hk,hlen]
  refine wc_if (fun h3=>?_) (fun h3=>?_)
  ·simp only[go_sem,Nat.reduceEqDiff,reduceIte,Nat.reduceAdd,Nat.reduceMul,Nat.reduceLeDiff,Int.reduceLT,Int.reduceLE,Int.reduceToNat,Int.reduceAdd,Int.reduceNeg,Int.reduceEq]
   refine fr_eq rfl ?_
   unfold kwE
   rw[List.any_eq_true.2 ⟨kwL.getD i [],?_,h3⟩]
   have hl:i<kwL.length:=h
   rw[List.getD_eq_getElem?_getD,List.getElem?_eq_getElem hl]
   exact List.getElem_mem hl
  ·simp only[go_sem,Nat.reduceEqDiff,reduceIte,Nat.reduceAdd,Nat.reduceMul,Nat.reduceLeDiff,Int.reduceLT,Int.reduceLE,Int.reduceToNat,Int.reduceAdd,Int.reduceNeg,Int.reduceEq,inc64 (show i<9223372036854775807 by omega)]
   refine W_keep (ih (i+1) (by omega) ⟨by omega,fun j hj=>?_⟩) rfl
   by_cases e:j=i
   ·rw[e];exact h3
   ·exact hno j (by omega)
 ·have hlt:decide ((i:Int)<22)=false:=by simp;omega
  simp only[go_sem,Nat.reduceEqDiff,reduceIte,Nat.reduceAdd,Nat.reduceMul,Nat.reduceLeDiff,Int.reduceLT,Int.reduceLE,Int.reduceToNat,Int.reduceAdd,Int.reduceNeg,Int.reduceEq,hlt]
  refine fr_eq rfl ?_
  symm
  congr 1
  unfold kwE
  rw[←Bool.not_eq_true]
  intro ha
  obtain⟨k,hk,he⟩:=List.any_eq_true.1 ha
  obtain⟨j,hj,rfl⟩:=List.getElem_of_mem hk
  have hj2:j<22:=hj
  have:=hno j (by omega)
  rw[List.getD_eq_getElem?_getD,List.getElem?_eq_getElem hj]at this
  exact absurd he (by simpa using this)
theorem okKW:okF Tryz.prog [(4,gKw)] 159 afKW=true:=by
 kernel_rfl
theorem prim_sub{P:Program}{G H:List (Nat × List V)}{f:Nat}{s:List V→Option V}(h:∀ p∈G,p∈H)(hp:PrimOk P G f s):PrimOk P H f s:=
 ⟨hp.1,fun κ w vs us v hg hs=>hp.2 κ w vs us v (fun g r hm=>hg g r (h _ hm)) fun g r hm=>hs g r (h _ hm)⟩
theorem kw_ok{G:List (Nat × List V)}(hin:(4,gKw)∈G):PrimOk Tryz.prog G 159 kwS:=by
 refine prim_sub (G:=[(4,gKw)]) (fun p hp=>by rw[List.mem_singleton.1 hp];exact hin) ?_
 refine prim_of_fn (T:=tkw) (pr:=fun _=>none) ?_ ?_ (fun _ _ h=>by cases h) ⟨Tryz.f159,_,by kernel_rfl,rfl,by decide⟩ ?_
 ·intro f F h _
  unfold tkw at h
  split at h
  ·rename_i hf
   cases h
   subst hf
   exact okKW
  ·cases h
 ·intro f F s h hs
  unfold tkw at h
  split at h
  ·cases h;cases hs
  ·cases h
 ·intro vs v h
  unfold kwS at h
  split at h
  ·cases h;exact kw_fn _
  ·cases h
end Go.Proofs.YtlehfgdhebapeaaGreatDoor.KM
