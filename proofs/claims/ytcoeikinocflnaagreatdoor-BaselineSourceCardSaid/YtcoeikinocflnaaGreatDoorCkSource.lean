/- BaselineSource returns true of all its inputs, without conditions. -/
import Derived.Test.YtcoeikinocflnaaGreatDoorUe
set_option linter.all false
namespace Go.Proofs.YtcoeikinocflnaaGreatDoor
open Go.ChangeShapes Go.WideShapes Go.ChangeAt Go.RowKit KM
namespace BaselineSource
set_option maxRecDepth 100000 in
theorem Q1(H:Type)(enc:TypeId × Value -> H)(W:World)(base:Nat)(args:Array Value)(ds gs:List (DataW H))(bf:List MemPlace)
  (hq:∀ (j:Nat) t v,Tryz.f3.params[j]?=some t -> args[j]?=some v -> Value.okWide Tryz.prog W .any base t v)
  (hW:DataW.Whole enc Tryz.prog Tryz.f3.params.toList Rows.baselineSourceSpec.vars false W args.toList ds gs bf) (hL:laidMetH Tryz.prog Rows.baselineSourceRow.laid W) (hS:W.ShapedOpen Tryz.prog) :
  Calls Tryz.prog 3 args W fun e W'=>∃ v,e=.returned v /\ Rows.baselineSourceSpec.post enc Tryz.prog Tryz.f3 false true false false W args v W':=by
 have hW':=hW
 obtain⟨p,q,hA0,hV,rfl,hfz,hnd⟩:=hW
 have hA:DataW.TrodAll enc Tryz.prog W 0 (fun _=>true) true Tryz.f3.params.toList args.toList ds p:=hA0
 rw[Tryz.params3]at hA hq
 obtain⟨v0,vs0,d0,ds0,p0,q0,hr,rfl,rfl,h0,r0⟩:=trodAll_cons hA
 obtain⟨v1,vs1,d1,ds1,p1,q1,rfl,rfl,rfl,h1,r1⟩:=trodAll_cons r0
 obtain⟨v2,vs2,d2,ds2,p2,q2,rfl,rfl,rfl,h2,r2⟩:=trodAll_cons r1
 obtain⟨v3,vs3,d3,ds3,p3,q3,rfl,rfl,rfl,h3,r3⟩:=trodAll_cons r2
 obtain⟨v4,vs4,d4,ds4,p4,q4,rfl,rfl,rfl,h4,r4⟩:=trodAll_cons r3
 obtain⟨rfl,rfl,rfl⟩:=trodAll_nil r4
 obtain rfl:args=#[v0,v1,v2,v3,v4]:=by cases args;simp_all
 obtain⟨rfl,rfl⟩:=trodVars_none hV
 obtain⟨f0,h0⟩:=h0
 obtain⟨pc0,R0⟩:=Nn enc Tryz.prog W _ _ [22,5] (by kernel_rfl) f0 22 _ d0 _ (by decide) h0
 obtain⟨a0,len0,cap0,rfl⟩:=okWide_slice Tryz.underlying22 (hq 0 _ v0 rfl rfl)
 obtain⟨z0,t0,x0,rfl,hx0⟩:=Ay0 R0.typ
 obtain⟨y0,hy0,e0⟩:=Tx R0 rfl
 cases hy0
 obtain⟨f1,h1⟩:=h1
 obtain⟨pc1,R1⟩:=Nn enc Tryz.prog W _ _ [23] (by kernel_rfl) f1 23 _ d1 _ (by decide) h1
 obtain⟨n1,rfl⟩:=okWide_int Tryz.underlying23 (hq 1 _ v1 rfl rfl)
 obtain⟨x1,hx1,rfl⟩:=Ak4 Tryz.underlying23 R1.typ
 obtain⟨y1,hy1,e1⟩:=Tx R1 rfl
 cases hy1
 obtain⟨f2,h2⟩:=h2
 obtain⟨pc2,R2⟩:=Nn enc Tryz.prog W _ _ [23] (by kernel_rfl) f2 23 _ d2 _ (by decide) h2
 obtain⟨n2,rfl⟩:=okWide_int Tryz.underlying23 (hq 2 _ v2 rfl rfl)
 obtain⟨x2,hx2,rfl⟩:=Ak4 Tryz.underlying23 R2.typ
 obtain⟨y2,hy2,e2⟩:=Tx R2 rfl
 cases hy2
 obtain⟨f3,h3⟩:=h3
 obtain⟨pc3,R3⟩:=Nn enc Tryz.prog W _ _ [5] (by kernel_rfl) f3 5 _ d3 _ (by decide) h3
 obtain⟨n3,rfl⟩:=okWide_int Tryz.underlying5 (hq 3 _ v3 rfl rfl)
 obtain⟨x3,hx3,rfl⟩:=Alx Tryz.underlying5 R3.typ
 obtain⟨y3,hy3,e3⟩:=Tx R3 rfl
 cases hy3
 obtain⟨f4,h4⟩:=h4
 obtain⟨pc4,R4⟩:=Nn enc Tryz.prog W _ _ [3] (by kernel_rfl) f4 3 _ d4 _ (by decide) h4
 obtain⟨n4,rfl⟩:=okWide_int Tryz.underlying3 (hq 4 _ v4 rfl rfl)
 obtain⟨x4,rfl,hx4⟩:=Abj Tryz.underlying3 R4.typ
 obtain⟨y4,hy4,e4⟩:=Tx R4 rfl
 cases hy4
 obtain⟨m,hT⟩:=Avk (show laidMet Tryz.prog Rows.baselineSourceRow.laid W from hL) hS (by simp[Rows.baselineSourceRow]) (by simp[Rows.baselineSourceRow]) (by simp[Rows.baselineSourceRow]) (by simp[Rows.baselineSourceRow]) (by simp[Rows.baselineSourceRow])
 refine(Aon (P:=Tryz.prog) (G:=GT m) (w:=W) hTT hST hPT (vs:=[SL z0 t0 (Bz x0),.int .u16 x1,.int .u16 x2,.int .u8 x3,.int .i64 x4]) (us:=[_,_,_,_,_]) (Am1 z0 t0 x0 x1 x2 x3 x4 hx1 hx3 hx0) hT rfl ?_).mono ?_
 ·intro j hj
  match j,hj with
  | 0,_=>exact e0
  | 1,_=>exact e1
  | 2,_=>exact e2
  | 3,_=>exact e3
  | 4,_=>exact e4
 ·rintro e W' ⟨rfl,hbl⟩
  exact⟨_,rfl,Ary hW' (by kernel_rfl) (by kernel_rfl) rfl rfl Tryz.underlying4 rfl rfl rfl hbl⟩
def Q5:Array Value:=#[.slice none 0 0,.int .u16 0,.int .u16 0,.int .u8 0,.int .i64 0]
theorem Q3(os:Os):laidMet Tryz.prog Rows.baselineSourceRow.laid ((laidWorld os).forCall (fun _ _=>0) ⟨#[],Q5,[]⟩).memory:=
 laidMet_of_run' 8 (by kernel_rfl) (by kernel_rfl)
theorem Q6(os:Os){H:Type}(enc:TypeId × Value -> H):∃ pl,DataW.whole enc Tryz.prog ((laidWorld os).forCall (fun _ _=>0) ⟨#[],Q5,[]⟩).memory Tryz.f3.params.toList Rows.baselineSourceSpec.vars false Q5.toList 8=some ([.nil,.lit (.int .u16 0),.lit (.int .u16 0),.lit (.int .u8 0),.lit (.int .i64 0)],[],pl):=
 ⟨[],by kernel_rfl⟩
set_option maxRecDepth 100000 in
theorem Q2(os:Os)(st:os.Started)(H:Type)(enc:TypeId × Value -> H)(F:Stop.Interp):
  ReturnsInHanded {} Tryz.checked os 3 .any ((OpenSpec.ofChange Rows.baselineSourceSpec).preRow enc Tryz.prog Tryz.f3 Rows.baselineSourceRow.domain false Rows.baselineSourceRow.laid) (((OpenSpec.ofChange Rows.baselineSourceSpec).at F).post enc Tryz.prog Tryz.f3 false true false false):=by
 obtain⟨pl,hx⟩:=Q6 os enc
 refine returnsInHanded_of_row (C:=Tryz.checked) (s:=OpenSpec.ofChange Rows.baselineSourceSpec) Am0 st (by kernel_rfl) Tryz.func3
  (witness_row_at (enc:=enc) (C:=Tryz.checked) false (laidWorld os) Q5 rfl (by kernel_rfl) (by kernel_rfl) (by kernel_rfl)
   (OpenSpec.preRow_of_cond 8 hx (by kernel_rfl) (fun k hk=>by cases hk) (by kernel_rfl) (Q3 os))) ?_
 intro W base args ds gs bf hq hW _ _ _ hL hS _
 exact Q1 H enc W base args ds gs bf hq hW hL hS
set_option maxRecDepth 100000 in
set_option maxHeartbeats 4000000 in
theorem Q4:joinedFacts Tryz.prog 3 Tryz.f3 (OpenSpec.ofChange Rows.baselineSourceSpec).bare Rows.baselineSourceRow=true:=by
 unfold joinedFacts
 iterate 31 (refine A1y ?_ ?_)
 all_goals as_aux_lemma=>kernel_rfl
theorem said:Rows.BaselineSourceSaid:=
 OpenClaim.holds_of_cond 3 Tryz.f3 rfl rfl rfl rfl rfl rfl rfl ⟨rfl,rfl,rfl,rfl,rfl⟩ rfl rfl rfl rfl rfl (by as_aux_lemma=>kernel_rfl) Tryz.func3 Q4
  (of_decide_eq_true (by kernel_rfl)) (by unfold Func.isWrapper;first | (rw[if_pos (by decide +kernel)];kernel_rfl) | (rw[if_neg (by decide +kernel)];exact⟨rfl,rfl⟩))
  (fun os st H enc _ F=>by rw[OpenClaim.pre_eq_preRow];exact Q2 os st H enc F)
theorem plain(f:FuncId)(fn:Func)(hf:Tryz.pinned.checked.prog.funcNamed "interleave/interleavelaw40.BaselineSource"=some f) (hfn:Tryz.pinned.checked.prog.funcs[f]?=some fn) :
  true=Tryz.pinned.checked.prog.looks [] /\ ∀ (j:Nat) t,fn.params[j]?=some t -> Tryz.pinned.checked.prog.wantsStandIn t=false:=by
 obtain rfl:f=3:=Nh ((show Tryz.prog.funcNamed "interleave/interleavelaw40.BaselineSource"=some 3 by kernel_rfl).symm.trans hf) |>.symm
 obtain rfl:fn=Tryz.f3:=(Nh (Tryz.func3.symm.trans hfn)).symm
 refine⟨by kernel_rfl,fun j t ht=>?_⟩
 rw[Tryz.params3]at ht
 have ht':=Array.mem_of_getElem? ht
 simp at ht'
 have:t=22 \/ t=23 \/ t=5 \/ t=3:=by first | exact ht' | omega | (rcases ht' with h | h<;>simp[h]) | (rcases ht' with h | h | h<;>simp[h]) | (rcases ht' with h | h | h | h<;>simp[h]) | (rcases ht' with h | h | h | h | h<;>simp[h])
 rcases this with rfl | rfl | rfl | rfl
 ·exact(show Tryz.prog.wantsStandIn 22=false by kernel_rfl)
 ·exact(show Tryz.prog.wantsStandIn 23=false by kernel_rfl)
 ·exact(show Tryz.prog.wantsStandIn 5=false by kernel_rfl)
 ·exact(show Tryz.prog.wantsStandIn 3=false by kernel_rfl)
end BaselineSource
end Go.Proofs.YtcoeikinocflnaaGreatDoor
