/- The law VersionLongest returns true of every two lists of bytes: with one statement more at the end of both threads one more site corresponds. Conditions: none beside the row's own. -/
import Derived.Test.YtcoeikinocflnaaGreatDoorVd
import Derived.Test.YtcoeikinocflnaaGreatDoorCb
set_option linter.all false
namespace Go.Proofs.YtcoeikinocflnaaGreatDoor
open Go.ChangeShapes Go.WideShapes Go.ChangeAt Go.RowKit KM
namespace VersionLongest
set_option maxRecDepth 100000 in
theorem Q1(H:Type)(enc:TypeId × Value -> H)(W:World)(base:Nat)(args:Array Value)(ds gs:List (DataW H))(bf:List MemPlace)
  (hq:∀ (j:Nat) t v,Tryz.f9.params[j]?=some t -> args[j]?=some v -> Value.okWide Tryz.prog W .any base t v)
  (hW:DataW.Whole enc Tryz.prog Tryz.f9.params.toList Rows.versionLongestSpec.vars false W args.toList ds gs bf) (hL:laidMetH Tryz.prog Rows.versionLongestRow.laid W) (hS:W.ShapedOpen Tryz.prog) :
  Calls Tryz.prog 9 args W fun e W'=>∃ v,e=.returned v /\ Rows.versionLongestSpec.post enc Tryz.prog Tryz.f9 false true false false W args v W':=by
 have hW':=hW
 obtain⟨p,q,hA0,hV,rfl,hfz,hnd⟩:=hW
 have hA:DataW.TrodAll enc Tryz.prog W 0 (fun _=>true) true Tryz.f9.params.toList args.toList ds p:=hA0
 rw[Tryz.params9]at hA hq
 obtain⟨v0,vs0,d0,ds0,p0,q0,hr,rfl,rfl,h0,r0⟩:=trodAll_cons hA
 obtain⟨v1,vs1,d1,ds1,p1,q1,rfl,rfl,rfl,h1,r1⟩:=trodAll_cons r0
 obtain⟨rfl,rfl,rfl⟩:=trodAll_nil r1
 obtain rfl:args=#[v0,v1]:=by cases args;simp_all
 obtain⟨rfl,rfl⟩:=trodVars_none hV
 obtain⟨f0,h0⟩:=h0
 obtain⟨pc0,R0⟩:=Oy enc Tryz.prog W _ _ [22,5] (by kernel_rfl) f0 22 _ d0 _ (by decide) h0
 obtain⟨a0,len0,cap0,rfl⟩:=okWide_slice Tryz.underlying22 (hq 0 _ v0 rfl rfl)
 obtain⟨z0,t0,x0,rfl,hx0⟩:=Xm R0.typ
 obtain⟨y0,hy0,e0⟩:=Wu R0 rfl
 cases hy0
 obtain⟨f1,h1⟩:=h1
 obtain⟨pc1,R1⟩:=Oy enc Tryz.prog W _ _ [22,5] (by kernel_rfl) f1 22 _ d1 _ (by decide) h1
 obtain⟨a1,len1,cap1,rfl⟩:=okWide_slice Tryz.underlying22 (hq 1 _ v1 rfl rfl)
 obtain⟨z1,t1,x1,rfl,hx1⟩:=Xm R1.typ
 obtain⟨y1,hy1,e1⟩:=Wu R1 rfl
 cases hy1
 obtain⟨m,hT⟩:=Aim (show laidMet Tryz.prog Rows.versionLongestRow.laid W from hL) hS (by simp[Rows.versionLongestRow]) (by simp[Rows.versionLongestRow]) (by simp[Rows.versionLongestRow]) (by simp[Rows.versionLongestRow]) (by simp[Rows.versionLongestRow])
 refine(Afo (P:=Tryz.prog) (G:=GT m) (w:=W) hTT hST hPT (vs:=[SL z0 t0 (A4 x0),SL z1 t1 (A4 x1)]) (us:=[_,_]) (Alu z0 z1 t0 t1 x0 x1 hx0 hx1) hT rfl ?_).mono ?_
 ·intro j hj
  match j,hj with
  | 0,_=>exact e0
  | 1,_=>exact e1
 ·rintro e W' ⟨rfl,hbl⟩
  exact⟨_,rfl,Ag0 hW' (by kernel_rfl) (by kernel_rfl) rfl rfl Tryz.underlying4 rfl rfl rfl hbl⟩
def Q5:Array Value:=#[.slice none 0 0,.slice none 0 0]
theorem Q3(os:Os):laidMet Tryz.prog Rows.versionLongestRow.laid ((laidWorld os).forCall (fun _ _=>0) ⟨#[],Q5,[]⟩).memory:=
 laidMet_of_run' 8 (by kernel_rfl) (by kernel_rfl)
theorem Q6(os:Os){H:Type}(enc:TypeId × Value -> H):∃ pl,DataW.whole enc Tryz.prog ((laidWorld os).forCall (fun _ _=>0) ⟨#[],Q5,[]⟩).memory Tryz.f9.params.toList Rows.versionLongestSpec.vars false Q5.toList 8=some ([.nil,.nil],[],pl):=
 ⟨[],by kernel_rfl⟩
set_option maxRecDepth 100000 in
theorem Q2(os:Os)(st:os.Started)(H:Type)(enc:TypeId × Value -> H)(F:Stop.Interp):
  ReturnsInHanded {} Tryz.checked os 9 .any ((OpenSpec.ofChange Rows.versionLongestSpec).preRow enc Tryz.prog Tryz.f9 Rows.versionLongestRow.domain false Rows.versionLongestRow.laid) (((OpenSpec.ofChange Rows.versionLongestSpec).at F).post enc Tryz.prog Tryz.f9 false true false false):=by
 obtain⟨pl,hx⟩:=Q6 os enc
 refine returnsInHanded_of_row (C:=Tryz.checked) (s:=OpenSpec.ofChange Rows.versionLongestSpec) Ad3 st (by kernel_rfl) Tryz.func9
  (witness_row_at (enc:=enc) (C:=Tryz.checked) false (laidWorld os) Q5 rfl (by kernel_rfl) (by kernel_rfl) (by kernel_rfl)
   (OpenSpec.preRow_of_cond 8 hx (by kernel_rfl) (fun k hk=>by cases hk) (by kernel_rfl) (Q3 os))) ?_
 intro W base args ds gs bf hq hW _ _ _ hL hS _
 exact Q1 H enc W base args ds gs bf hq hW hL hS
set_option maxRecDepth 100000 in
set_option maxHeartbeats 4000000 in
theorem Q4:joinedFacts Tryz.prog 9 Tryz.f9 (OpenSpec.ofChange Rows.versionLongestSpec).bare Rows.versionLongestRow=true:=by
 unfold joinedFacts
 iterate 31 (refine Akq ?_ ?_)
 all_goals as_aux_lemma=>kernel_rfl
theorem said:Rows.VersionLongestSaid:=
 OpenClaim.holds_of_cond 9 Tryz.f9 rfl rfl rfl rfl rfl rfl rfl ⟨rfl,rfl,rfl,rfl,rfl⟩ rfl rfl rfl rfl rfl (by as_aux_lemma=>kernel_rfl) Tryz.func9 Q4
  (of_decide_eq_true (by kernel_rfl)) (by unfold Func.isWrapper;first | (rw[if_pos (by decide +kernel)];kernel_rfl) | (rw[if_neg (by decide +kernel)];exact⟨rfl,rfl⟩))
  (fun os st H enc _ F=>by rw[OpenClaim.pre_eq_preRow];exact Q2 os st H enc F)
theorem plain(f:FuncId)(fn:Func)(hf:Tryz.pinned.checked.prog.funcNamed "interleave/interleavelaw41.VersionLongest"=some f) (hfn:Tryz.pinned.checked.prog.funcs[f]?=some fn) :
  true=Tryz.pinned.checked.prog.looks [] /\ ∀ (j:Nat) t,fn.params[j]?=some t -> Tryz.pinned.checked.prog.wantsStandIn t=false:=by
 obtain rfl:f=9:=J3 ((show Tryz.prog.funcNamed "interleave/interleavelaw41.VersionLongest"=some 9 by kernel_rfl).symm.trans hf) |>.symm
 obtain rfl:fn=Tryz.f9:=(J3 (Tryz.func9.symm.trans hfn)).symm
 refine⟨by kernel_rfl,fun j t ht=>?_⟩
 rw[Tryz.params9]at ht
 have ht':=Array.mem_of_getElem? ht
 simp at ht'
 have:t=22:=by first | exact ht' | omega | (rcases ht' with h | h<;>simp[h])
 rcases this with rfl
 ·exact(show Tryz.prog.wantsStandIn 22=false by kernel_rfl)
end VersionLongest
end Go.Proofs.YtcoeikinocflnaaGreatDoor
