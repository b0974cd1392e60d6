/- The law VersionKeeps returns true of every pair of versions: corresponding sites have the same thread and line, and the same order within a thread. The proof. -/
import Derived.Test.YthlbbjcbmojocabGreatDoorUn
set_option linter.all false
namespace Go.Proofs.YthlbbjcbmojocabGreatDoor
open Go.ChangeShapes Go.WideShapes Go.ChangeAt Go.RowKit KM
namespace VersionKeeps
set_option maxRecDepth 100000 in
theorem Q1(H:Type)(enc:TypeId × Value -> H)(W:World)(base:Nat)(args:Array Value)(ds gs:List (DataW H))(bf:List MemPlace)
  (hq:∀ (j:Nat) t v,Tryz.f4.params[j]?=some t -> args[j]?=some v -> Value.okWide Tryz.prog W .any base t v)
  (hW:DataW.Whole enc Tryz.prog Tryz.f4.params.toList Rows.versionKeepsSpec.vars false W args.toList ds gs bf) (hL:laidMetH Tryz.prog Rows.versionKeepsRow.laid W) (hS:W.ShapedOpen Tryz.prog) :
  Calls Tryz.prog 4 args W fun e W'=>∃ v,e=.returned v /\ Rows.versionKeepsSpec.post enc Tryz.prog Tryz.f4 false true false false W args v W':=by
 have hW':=hW
 obtain⟨p,q,hA0,hV,rfl,hfz,hnd⟩:=hW
 have hA:DataW.TrodAll enc Tryz.prog W 0 (fun _=>true) true Tryz.f4.params.toList args.toList ds p:=hA0
 rw[Tryz.params4]at hA hq
 obtain⟨v0,vs0,d0,ds0,p0,q0,hr,rfl,rfl,h0,r0⟩:=trodAll_cons hA
 obtain⟨rfl,rfl,rfl⟩:=trodAll_nil r0
 obtain rfl:args=#[v0]:=by cases args;simp_all
 obtain⟨rfl,rfl⟩:=trodVars_none hV
 obtain⟨f0,h0⟩:=h0
 obtain⟨pc0,R0⟩:=W5 enc Tryz.prog W _ _ [24,22,5,4] (by kernel_rfl) f0 24 _ d0 _ (by decide) h0
 obtain⟨cs0,rfl,_⟩:=okWide_struct Tryz.underlying24 (hq 0 _ v0 rfl rfl)
 obtain⟨x0,rfl,hx0⟩:=Ao0 R0.typ
 have e0:=Aou R0
 obtain⟨m,hT⟩:=Aoy (show laidMet Tryz.prog Rows.versionKeepsRow.laid W from hL) hS (by simp[Rows.versionKeepsRow]) (by simp[Rows.versionKeepsRow]) (by simp[Rows.versionKeepsRow]) (by simp[Rows.versionKeepsRow]) (by simp[Rows.versionKeepsRow])
 refine(Alb (P:=Tryz.prog) (G:=GT m) (w:=W) hTT hST hPT (vs:=[.agg x0.row]) (us:=[_]) (Atm x0.z0 x0.z1 x0.z2 x0.t0 x0.t1 x0.t2 x0.a x0.b x0.c x0.un hx0.1 hx0.2.1 hx0.2.2) hT rfl ?_).mono ?_
 ·intro j hj
  match j,hj with
  | 0,_=>exact e0
 ·rintro e W' ⟨rfl,hbl⟩
  exact⟨_,rfl,Amm hW' (by kernel_rfl) (by kernel_rfl) rfl rfl Tryz.underlying4 rfl rfl rfl hbl⟩
def Q5:Array Value:=#[.agg #[.slice none 0 0,.slice none 0 0,.slice none 0 0,.bool false]]
theorem Q3(os:Os):laidMet Tryz.prog Rows.versionKeepsRow.laid ((laidWorld os).forCall (fun _ _=>0) ⟨#[],Q5,[]⟩).memory:=
 laidMet_of_run' 8 (by kernel_rfl) (by kernel_rfl)
theorem Q6(os:Os){H:Type}(enc:TypeId × Value -> H):∃ pl,DataW.whole enc Tryz.prog ((laidWorld os).forCall (fun _ _=>0) ⟨#[],Q5,[]⟩).memory Tryz.f4.params.toList Rows.versionKeepsSpec.vars false Q5.toList 8=some ([.agg [.nil,.nil,.nil,.lit (.bool false)]],[],pl):=
 ⟨[],by kernel_rfl⟩
set_option maxRecDepth 100000 in
theorem Q2(os:Os)(st:os.Started)(H:Type)(enc:TypeId × Value -> H)(F:Stop.Interp):
  ReturnsInHanded {} Tryz.checked os 4 .any ((OpenSpec.ofChange Rows.versionKeepsSpec).preRow enc Tryz.prog Tryz.f4 Rows.versionKeepsRow.domain false Rows.versionKeepsRow.laid) (((OpenSpec.ofChange Rows.versionKeepsSpec).at F).post enc Tryz.prog Tryz.f4 false true false false):=by
 obtain⟨pl,hx⟩:=Q6 os enc
 refine returnsInHanded_of_row (C:=Tryz.checked) (s:=OpenSpec.ofChange Rows.versionKeepsSpec) Ajm st (by kernel_rfl) Tryz.func4
  (witness_row_at (enc:=enc) (C:=Tryz.checked) false (laidWorld os) Q5 rfl (by kernel_rfl) (by kernel_rfl) (by kernel_rfl)
   (OpenSpec.preRow_of_cond 8 hx (by kernel_rfl) (fun k hk=>by cases hk) (by kernel_rfl) (Q3 os))) ?_
 intro W base args ds gs bf hq hW _ _ _ hL hS _
 exact Q1 H enc W base args ds gs bf hq hW hL hS
set_option maxRecDepth 100000 in
set_option maxHeartbeats 4000000 in
theorem Q4:joinedFacts Tryz.prog 4 Tryz.f4 (OpenSpec.ofChange Rows.versionKeepsSpec).bare Rows.versionKeepsRow=true:=by
 unfold joinedFacts
 iterate 31 (refine Arz ?_ ?_)
 all_goals as_aux_lemma=>kernel_rfl
theorem said:Rows.VersionKeepsSaid:=
 OpenClaim.holds_of_cond 4 Tryz.f4 rfl rfl rfl rfl rfl rfl rfl ⟨rfl,rfl,rfl,rfl,rfl⟩ rfl rfl rfl rfl rfl (by as_aux_lemma=>kernel_rfl) Tryz.func4 Q4
  (of_decide_eq_true (by kernel_rfl)) (by unfold Func.isWrapper;first | (rw[if_pos (by decide +kernel)];kernel_rfl) | (rw[if_neg (by decide +kernel)];exact⟨rfl,rfl⟩))
  (fun os st H enc _ F=>by rw[OpenClaim.pre_eq_preRow];exact Q2 os st H enc F)
theorem plain(f:FuncId)(fn:Func)(hf:Tryz.pinned.checked.prog.funcNamed "interleave/interleavelaw41.VersionKeeps"=some f) (hfn:Tryz.pinned.checked.prog.funcs[f]?=some fn) :
  true=Tryz.pinned.checked.prog.looks [] /\ ∀ (j:Nat) t,fn.params[j]?=some t -> Tryz.pinned.checked.prog.wantsStandIn t=false:=by
 obtain rfl:f=4:=Ky ((show Tryz.prog.funcNamed "interleave/interleavelaw41.VersionKeeps"=some 4 by kernel_rfl).symm.trans hf) |>.symm
 obtain rfl:fn=Tryz.f4:=(Ky (Tryz.func4.symm.trans hfn)).symm
 refine⟨by kernel_rfl,fun j t ht=>?_⟩
 rw[Tryz.params4]at ht
 have ht':=Array.mem_of_getElem? ht
 simp at ht'
 subst ht'
 exact(show Tryz.prog.wantsStandIn 24=false by kernel_rfl)
end VersionKeeps
end Go.Proofs.YthlbbjcbmojocabGreatDoor
