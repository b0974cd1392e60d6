/- The law VersionTexts returns true of every pair of versions, all numbers and every bool: version.Match and the reference interleaveref39.Match give the same corresponding sites in programs of source texts with one change each. The proof. -/
import Derived.Test.YthlbbjcbmojocaaGreatDoorVf
set_option linter.all false
namespace Go.Proofs.YthlbbjcbmojocaaGreatDoor
open Go.ChangeShapes Go.WideShapes Go.ChangeAt Go.RowKit KM
namespace VersionTexts
set_option maxRecDepth 100000 in
theorem Q1(H:Type)(enc:TypeId × Value -> H)(W:World)(base:Nat)(args:Array Value)(ds gs:List (DataW H))(bf:List MemPlace)
  (hq:∀ (j:Nat) t v,Tryz.f4.params[j]?=some t -> args[j]?=some v -> Value.okWide Tryz.prog W .any base t v)
  (hW:DataW.Whole enc Tryz.prog Tryz.f4.params.toList Rows.versionTextsSpec.vars false W args.toList ds gs bf) (hL:laidMetH Tryz.prog Rows.versionTextsRow.laid W) (hS:W.ShapedOpen Tryz.prog) :
  Calls Tryz.prog 4 args W fun e W'=>∃ v,e=.returned v /\ Rows.versionTextsSpec.post enc Tryz.prog Tryz.f4 false true false false W args v W':=by
 have hW':=hW
 obtain⟨p,q,hA0,hV,rfl,hfz,hnd⟩:=hW
 have hA:DataW.TrodAll enc Tryz.prog W 0 (fun _=>true) true Tryz.f4.params.toList args.toList ds p:=hA0
 rw[Tryz.params4]at hA hq
 obtain⟨v0,vs0,d0,ds0,p0,q0,hr,rfl,rfl,h0,r0⟩:=trodAll_cons hA
 obtain⟨v1,vs1,d1,ds1,p1,q1,rfl,rfl,rfl,h1,r1⟩:=trodAll_cons r0
 obtain⟨v2,vs2,d2,ds2,p2,q2,rfl,rfl,rfl,h2,r2⟩:=trodAll_cons r1
 obtain⟨v3,vs3,d3,ds3,p3,q3,rfl,rfl,rfl,h3,r3⟩:=trodAll_cons r2
 obtain⟨v4,vs4,d4,ds4,p4,q4,rfl,rfl,rfl,h4,r4⟩:=trodAll_cons r3
 obtain⟨rfl,rfl,rfl⟩:=trodAll_nil r4
 obtain rfl:args=#[v0,v1,v2,v3,v4]:=by cases args;simp_all
 obtain⟨rfl,rfl⟩:=trodVars_none hV
 obtain⟨f0,h0⟩:=h0
 obtain⟨pc0,R0⟩:=Nt enc Tryz.prog W _ _ [24,22,5,4] (by kernel_rfl) f0 24 _ d0 _ (by decide) h0
 obtain⟨cs0,rfl,_⟩:=okWide_struct Tryz.underlying24 (hq 0 _ v0 rfl rfl)
 obtain⟨x0,rfl,hx0⟩:=Amv R0.typ
 have e0:=Amp R0
 obtain⟨f1,h1⟩:=h1
 obtain⟨pc1,R1⟩:=Nt enc Tryz.prog W _ _ [36] (by kernel_rfl) f1 36 _ d1 _ (by decide) h1
 obtain⟨n1,rfl⟩:=okWide_int Tryz.underlying36 (hq 1 _ v1 rfl rfl)
 obtain⟨x1,hx1,rfl⟩:=Aod Tryz.underlying36 R1.typ
 obtain⟨y1,hy1,e1⟩:=Zm R1 rfl
 cases hy1
 obtain⟨f2,h2⟩:=h2
 obtain⟨pc2,R2⟩:=Nt enc Tryz.prog W _ _ [36] (by kernel_rfl) f2 36 _ d2 _ (by decide) h2
 obtain⟨n2,rfl⟩:=okWide_int Tryz.underlying36 (hq 2 _ v2 rfl rfl)
 obtain⟨x2,hx2,rfl⟩:=Aod Tryz.underlying36 R2.typ
 obtain⟨y2,hy2,e2⟩:=Zm R2 rfl
 cases hy2
 obtain⟨f3,h3⟩:=h3
 obtain⟨pc3,R3⟩:=Nt enc Tryz.prog W _ _ [5] (by kernel_rfl) f3 5 _ d3 _ (by decide) h3
 obtain⟨n3,rfl⟩:=okWide_int Tryz.underlying5 (hq 3 _ v3 rfl rfl)
 obtain⟨x3,hx3,rfl⟩:=Apr Tryz.underlying5 R3.typ
 obtain⟨y3,hy3,e3⟩:=Zm R3 rfl
 cases hy3
 obtain⟨f4,h4⟩:=h4
 obtain⟨pc4,R4⟩:=Nt enc Tryz.prog W _ _ [4] (by kernel_rfl) f4 4 _ d4 _ (by decide) h4
 obtain⟨n4,rfl⟩:=okWide_bool Tryz.underlying4 (hq 4 _ v4 rfl rfl)
 obtain⟨x4,rfl⟩:=Ajj Tryz.underlying4 R4.typ
 obtain⟨y4,hy4,e4⟩:=Zm R4 rfl
 cases hy4
 obtain⟨m,hT⟩:=Amt (show laidMet Tryz.prog Rows.versionTextsRow.laid W from hL) hS (by simp[Rows.versionTextsRow]) (by simp[Rows.versionTextsRow]) (by simp[Rows.versionTextsRow]) (by simp[Rows.versionTextsRow]) (by simp[Rows.versionTextsRow])
 refine(Ajh (P:=Tryz.prog) (G:=GT m) (w:=W) hTT hST hPT (vs:=[.agg x0.row,.int .u16 x1,.int .u16 x2,.int .u8 x3,.bool x4]) (us:=[_,_,_,_,_]) (Ard x0.z0 x0.z1 x0.z2 x0.t0 x0.t1 x0.t2 x0.a x0.b x0.c x0.un x1 x2 x3 x4 hx0.1 hx0.2.1 hx1 hx3) hT rfl ?_).mono ?_
 ·intro j hj
  match j,hj with
  | 0,_=>exact e0
  | 1,_=>exact e1
  | 2,_=>exact e2
  | 3,_=>exact e3
  | 4,_=>exact e4
 ·rintro e W' ⟨rfl,hbl⟩
  exact⟨_,rfl,Akr hW' (by kernel_rfl) (by kernel_rfl) rfl rfl Tryz.underlying4 rfl rfl rfl hbl⟩
def Q5:Array Value:=#[.agg #[.slice none 0 0,.slice none 0 0,.slice none 0 0,.bool false],.int .u16 0,.int .u16 0,.int .u8 0,.bool false]
theorem Q3(os:Os):laidMet Tryz.prog Rows.versionTextsRow.laid ((laidWorld os).forCall (fun _ _=>0) ⟨#[],Q5,[]⟩).memory:=
 laidMet_of_run' 8 (by kernel_rfl) (by kernel_rfl)
theorem Q6(os:Os){H:Type}(enc:TypeId × Value -> H):∃ pl,DataW.whole enc Tryz.prog ((laidWorld os).forCall (fun _ _=>0) ⟨#[],Q5,[]⟩).memory Tryz.f4.params.toList Rows.versionTextsSpec.vars false Q5.toList 8=some ([.agg [.nil,.nil,.nil,.lit (.bool false)],.lit (.int .u16 0),.lit (.int .u16 0),.lit (.int .u8 0),.lit (.bool false)],[],pl):=
 ⟨[],by kernel_rfl⟩
set_option maxRecDepth 100000 in
theorem Q2(os:Os)(st:os.Started)(H:Type)(enc:TypeId × Value -> H)(F:Stop.Interp):
  ReturnsInHanded {} Tryz.checked os 4 .any ((OpenSpec.ofChange Rows.versionTextsSpec).preRow enc Tryz.prog Tryz.f4 Rows.versionTextsRow.domain false Rows.versionTextsRow.laid) (((OpenSpec.ofChange Rows.versionTextsSpec).at F).post enc Tryz.prog Tryz.f4 false true false false):=by
 obtain⟨pl,hx⟩:=Q6 os enc
 refine returnsInHanded_of_row (C:=Tryz.checked) (s:=OpenSpec.ofChange Rows.versionTextsSpec) Ahz st (by kernel_rfl) Tryz.func4
  (witness_row_at (enc:=enc) (C:=Tryz.checked) false (laidWorld os) Q5 rfl (by kernel_rfl) (by kernel_rfl) (by kernel_rfl)
   (OpenSpec.preRow_of_cond 8 hx (by kernel_rfl) (fun k hk=>by cases hk) (by kernel_rfl) (Q3 os))) ?_
 intro W base args ds gs bf hq hW _ _ _ hL hS _
 exact Q1 H enc W base args ds gs bf hq hW hL hS
set_option maxRecDepth 100000 in
set_option maxHeartbeats 4000000 in
theorem Q4:joinedFacts Tryz.prog 4 Tryz.f4 (OpenSpec.ofChange Rows.versionTextsSpec).bare Rows.versionTextsRow=true:=by
 unfold joinedFacts
 iterate 31 (refine Apq ?_ ?_)
 all_goals as_aux_lemma=>kernel_rfl
theorem said:Rows.VersionTextsSaid:=
 OpenClaim.holds_of_cond 4 Tryz.f4 rfl rfl rfl rfl rfl rfl rfl ⟨rfl,rfl,rfl,rfl,rfl⟩ rfl rfl rfl rfl rfl (by as_aux_lemma=>kernel_rfl) Tryz.func4 Q4
  (of_decide_eq_true (by kernel_rfl)) (by unfold Func.isWrapper;first | (rw[if_pos (by decide +kernel)];kernel_rfl) | (rw[if_neg (by decide +kernel)];exact⟨rfl,rfl⟩))
  (fun os st H enc _ F=>by rw[OpenClaim.pre_eq_preRow];exact Q2 os st H enc F)
theorem plain(f:FuncId)(fn:Func)(hf:Tryz.pinned.checked.prog.funcNamed "interleave/interleavelaw41.VersionTexts"=some f) (hfn:Tryz.pinned.checked.prog.funcs[f]?=some fn) :
  true=Tryz.pinned.checked.prog.looks [] /\ ∀ (j:Nat) t,fn.params[j]?=some t -> Tryz.pinned.checked.prog.wantsStandIn t=false:=by
 obtain rfl:f=4:=J9 ((show Tryz.prog.funcNamed "interleave/interleavelaw41.VersionTexts"=some 4 by kernel_rfl).symm.trans hf) |>.symm
 obtain rfl:fn=Tryz.f4:=(J9 (Tryz.func4.symm.trans hfn)).symm
 refine⟨by kernel_rfl,fun j t ht=>?_⟩
 rw[Tryz.params4]at ht
 have ht':=Array.mem_of_getElem? ht
 simp at ht'
 have:t=24 \/ t=36 \/ t=5 \/ t=4:=by first | exact ht' | omega | (rcases ht' with h | h<;>simp[h]) | (rcases ht' with h | h | h<;>simp[h]) | (rcases ht' with h | h | h | h<;>simp[h]) | (rcases ht' with h | h | h | h | h<;>simp[h])
 rcases this with rfl | rfl | rfl | rfl
 ·exact(show Tryz.prog.wantsStandIn 24=false by kernel_rfl)
 ·exact(show Tryz.prog.wantsStandIn 36=false by kernel_rfl)
 ·exact(show Tryz.prog.wantsStandIn 5=false by kernel_rfl)
 ·exact(show Tryz.prog.wantsStandIn 4=false by kernel_rfl)
end VersionTexts
end Go.Proofs.YthlbbjcbmojocaaGreatDoor
