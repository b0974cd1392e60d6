/- Walks: the program's texts of expressions and heads of statements. -/
import Derived.Test.YtlehfgdhebapeaaGreatDoorGe
import Derived.Test.YtlehfgdhebapeaaGreatDoorGc
set_option linter.all false
namespace Go.Proofs.YtlehfgdhebapeaaGreatDoor.KM
open Go
theorem G5{vs:List V}{σ:St}{v:V}(h:vs.all C2=true)(he:V.tup vs=v):FR (.tup vs) σ v:=he ▸ Jr h
theorem Ai6{s0 s:St}{b:Nat}{l:List UInt8}(h:WB s0 s b l):∃ s',Pn 84 5 [.ptr b 0 0] s=some (.str l,s'):=by
 obtain⟨⟨u,hu⟩,-⟩:=h
 exact Avg hu
theorem Tm{x:Xp}(h:Cn x)(hl:x.txt.length<=10000000000000):Fn TT PT 16 [.agg x.row] (.str x.txt):=by
 have hset:=Dn x
 refine Bz T16 rfl ?_
 have w0:WB [.row x.row 40 0 0,.row [.nilp,.nils] 84 0 0] [.row x.row 40 0 0,.row [.nilp,.nils] 84 0 0] 1 []:=by
  refine Af9 (u:=.nils) ⟨.nilp,rfl,.inl rfl,Gc⟩ ?_
  exact Ww (Abh (s:=[]) (fun _ h=>by cases h) (by rw[Au];simp only[go_sem])) (by simp[Ob.refs,Aw,V.refs])
 obtain⟨s1,q1,v1⟩:=Aon h _ 1 [] w0 (by simpa using hl)
 obtain⟨s2,hs2⟩:=Ai6 v1
 rw[Bf]at hs2
 rw[Au]at q1 hset ⊢
 simp only[go_sem]
 refine Cg q1 ?_
 simp only[go_sem]
 refine M8 (.spec T38 rfl rfl hs2) ?_
 simp only[go_sem]
 exact E6 rfl
theorem Aoo{s:Sp}(h:CnS s)(hl:(B6 s).length<=10000000000000):Fn TT PT 74 [.agg s.row] (.tup [.str (B6 s),.bool (Bk s.op)]):=by
 obtain⟨h1,h2,h3,h4,h5,-,-,-,-⟩:=h
 obtain⟨op,line,nm,arg,iz,it,idx,ex,bz,bt,body,ez,et,els⟩:=s
 simp only at h1 h2 h3 h4 h5 hl ⊢
 rw[Mz]
 simp only
 have hw:op=1\/op=2\/op=3\/op=4\/op=5\/op=6\/op=7\/op=8\/op=9\/op=10\/op=11\/op=12\/op=13\/op=14\/op=15:=by omega
 refine Bz T74 rfl ?_
 rw[Au]
 rcases hw with rfl | hw
 ·have hx:=Tm (h5 (.inl rfl))
  simp only[B6,if_true,Al,Ag]at hl ⊢
  have hx:=hx (by omega)
  rw[Au]at hx
  cases idx with
  | nil=>
   simp only[Eh,Br]at hl ⊢
   have a2:Ah .add nm [32,61,32]=some (.str (nm++[32,61,32])):=Ai (by simp;omega) rfl
   have a3:Ah .add (nm++[32,61,32]) ex.txt=some (.str (nm++32::61::32::ex.txt)):=Ai (by simp;omega) (by simp)
   simp only[go_sem,Int.reduceBEq,Int.reduceLT,↓a2]
   refine Ax hx (by simp only[go_sem]) ?_
   simp only[go_sem,↓a3]
   exact G5 rfl (by simp[Bk])
  | cons a r=>
   have ha:=Tm (h4 a Co)
   simp only[Eh,Ag,Al]at hl ⊢
   have ha:=ha (by omega)
   rw[Au]at ha
   have r0:r=[]:=by simpa using h2
   subst r0
   have a1:Ah .add [91] a.txt=some (.str (91::a.txt)):=Ai (by simp;omega) rfl
   have a2:Ah .add (91::a.txt) [93]=some (.str (91::(a.txt++[93]))):=Ai (by simp;omega) (by simp)
   have a3:Ah .add nm (91::(a.txt++[93]))=some (.str (nm++91::(a.txt++[93]))):=Ai (by simp;omega) rfl
   have a4:Ah .add (nm++91::(a.txt++[93])) [32,61,32]=some (.str (nm++91::(a.txt++[93,32,61,32]))):=Ai (by simp;omega) (by simp)
   have a5:Ah .add (nm++91::(a.txt++[93,32,61,32])) ex.txt=some (.str (nm++91::(a.txt++93::32::61::32::ex.txt))):=Ai (by simp;omega) (by simp)
   simp only[Ao,Be]
   rw[Au a]
   simp only[go_sem,Int.reduceBEq,Int.reduceLT]
   refine Ax ha (by simp only[go_sem]) ?_
   simp only[go_sem,↓a1,↓a2,↓a3,↓a4]
   refine Ax hx (by simp only[go_sem]) ?_
   simp only[go_sem,↓a5]
   exact G5 rfl (by simp[Bk])
 rcases hw with rfl | hw
 ·simp only[B6,B2,Bk]at hl ⊢
  simp at hl
  have hx:=Tm (h5 (by omega)) (by omega)
  rw[Au]at hx
  have a1:Ah .add ([105,102,32]) (ex.txt)=some (.str (105::102::32::ex.txt)):=Ai (by simp;try omega) (by simp)
  simp only[go_sem,Int.reduceBEq,Int.reduceLT]
  refine Ax hx (by simp only[go_sem]) ?_
  simp only[go_sem,↓a1]
  exact G5 rfl (by simp)
 rcases hw with rfl | hw
 ·simp only[B6,B2,Bk]at hl ⊢
  simp at hl
  have hx:=Tm (h5 (by omega)) (by omega)
  rw[Au]at hx
  have a1:Ah .add ([119,104,105,108,101,32]) (ex.txt)=some (.str (119::104::105::108::101::32::ex.txt)):=Ai (by simp;try omega) (by simp)
  simp only[go_sem,Int.reduceBEq,Int.reduceLT]
  refine Ax hx (by simp only[go_sem]) ?_
  simp only[go_sem,↓a1]
  exact G5 rfl (by simp)
 rcases hw with rfl | hw
 ·simp only[B6,B2,Bk]at hl ⊢
  simp at hl
  have a1:Ah .add ([108,111,99,107,32]) (nm)=some (.str (108::111::99::107::32::nm)):=Ai (by simp;try omega) (by simp)
  simp only[go_sem,Int.reduceBEq,Int.reduceLT,↓a1]
  exact G5 rfl (by simp)
 rcases hw with rfl | hw
 ·simp only[B6,B2,Bk]at hl ⊢
  simp at hl
  have a1:Ah .add ([114,101,97,100,32]) (nm)=some (.str (114::101::97::100::32::nm)):=Ai (by simp;try omega) (by simp)
  simp only[go_sem,Int.reduceBEq,Int.reduceLT,↓a1]
  exact G5 rfl (by simp)
 rcases hw with rfl | hw
 ·simp only[B6,B2,Bk]at hl ⊢
  simp at hl
  have a1:Ah .add ([119,114,105,116,101,32]) (nm)=some (.str (119::114::105::116::101::32::nm)):=Ai (by simp;try omega) (by simp)
  simp only[go_sem,Int.reduceBEq,Int.reduceLT,↓a1]
  exact G5 rfl (by simp)
 rcases hw with rfl | hw
 ·simp only[B6,B2,Bk]at hl ⊢
  simp at hl
  simp only[go_sem,Int.reduceBEq,Int.reduceLT]
  exact G5 rfl (by simp)
 rcases hw with rfl | hw
 ·simp only[B6,B2,Bk]at hl ⊢
  simp at hl
  simp only[go_sem,Int.reduceBEq,Int.reduceLT]
  exact G5 rfl (by simp)
 rcases hw with rfl | hw
 ·simp only[B6,B2,Bk]at hl ⊢
  simp at hl
  have a1:Ah .add ([119,97,105,116,32]) (nm)=some (.str (119::97::105::116::32::nm)):=Ai (by simp;try omega) (by simp)
  simp only[go_sem,Int.reduceBEq,Int.reduceLT,↓a1]
  exact G5 rfl (by simp)
 rcases hw with rfl | hw
 ·simp only[B6,B2,Bk]at hl ⊢
  simp at hl
  have a1:Ah .add ([110,111,116,105,102,121,32]) (nm)=some (.str (110::111::116::105::102::121::32::nm)):=Ai (by simp;try omega) (by simp)
  simp only[go_sem,Int.reduceBEq,Int.reduceLT,↓a1]
  exact G5 rfl (by simp)
 rcases hw with rfl | hw
 ·simp only[B6,B2,Bk]at hl ⊢
  simp at hl
  have a1:Ah .add ([110,111,116,105,102,121,97,108,108,32]) (nm)=some (.str (110::111::116::105::102::121::97::108::108::32::nm)):=Ai (by simp;try omega) (by simp)
  simp only[go_sem,Int.reduceBEq,Int.reduceLT,↓a1]
  exact G5 rfl (by simp)
 rcases hw with rfl | hw
 ·simp only[B6,B2,Bk]at hl ⊢
  simp at hl
  have a1:Ah .add ([115,112,97,119,110,32]) (nm)=some (.str (115::112::97::119::110::32::nm)):=Ai (by simp;try omega) (by simp)
  simp only[go_sem,Int.reduceBEq,Int.reduceLT,↓a1]
  exact G5 rfl (by simp)
 rcases hw with rfl | hw
 ·simp only[B6,B2,Bk]at hl ⊢
  simp at hl
  have a1:Ah .add ([106,111,105,110,32]) (nm)=some (.str (106::111::105::110::32::nm)):=Ai (by simp;try omega) (by simp)
  simp only[go_sem,Int.reduceBEq,Int.reduceLT,↓a1]
  exact G5 rfl (by simp)
 rcases hw with rfl | hw
 ·simp only[B6,B2,Bk]at hl ⊢
  simp at hl
  have hx:=Tm (h5 (by omega)) (by omega)
  rw[Au]at hx
  have a1:Ah .add ([115,101,116,32]) (nm)=some (.str (115::101::116::32::nm)):=Ai (by simp;try omega) (by simp)
  have a2:Ah .add (115::101::116::32::nm) ([32])=some (.str (115::101::116::32::(nm++[32]))):=Ai (by simp;try omega) (by simp)
  have a3:Ah .add (115::101::116::32::(nm++[32])) (ex.txt)=some (.str (115::101::116::32::(nm++32::ex.txt))):=Ai (by simp;try omega) (by simp)
  simp only[go_sem,Int.reduceBEq,Int.reduceLT]
  refine A2 (by kernel_rfl) ?_
  simp only[go_sem,↓a1,↓a2]
  refine C6 hx (by simp only[go_sem]) ?_
  simp only[go_sem,↓a3]
  exact G5 rfl (by simp)
 subst hw
 simp only[B6,B2,Bk]at hl ⊢
 simp at hl
 have a1:Ah .add ([103,101,116,32]) (nm)=some (.str (103::101::116::32::nm)):=Ai (by simp;try omega) (by simp)
 have a2:Ah .add (103::101::116::32::nm) ([32])=some (.str (103::101::116::32::(nm++[32]))):=Ai (by simp;try omega) (by simp)
 have a3:Ah .add (103::101::116::32::(nm++[32])) (arg)=some (.str (103::101::116::32::(nm++32::arg))):=Ai (by simp;try omega) (by simp)
 simp only[go_sem,Int.reduceBEq,Int.reduceLT,↓a1,↓a2,↓a3]
 exact G5 rfl (by simp)
mutual
def Sp.sz:Sp->Nat
 | ⟨_,_,_,_,_,_,_,_,_,_,body,_,_,els⟩=>1+Sp.szs body+Sp.szs els
def Sp.szs:List Sp->Nat
 | []=>0
 | x::l=>x.sz+Sp.szs l
end
theorem Q9(s:Sp):s.sz=1+Sp.szs s.body+Sp.szs s.els:=by
 obtain⟨op,line,nm,arg,iz,it,idx,ex,bz,bt,body,ez,et,els⟩:=s
 rw[Sp.sz]
theorem T0:∀ {l:List Sp} {x:Sp},x∈l->x.sz<=Sp.szs l
 | y::l,x,h=>by
  rw[Sp.szs]
  rcases Bm.1 h with rfl | h
  ·omega
  ·have:=T0 h;omega
theorem Aro(d:Nat)(h:d<=1073741823):Rz [.str [32,32],.int .i64 (d:Int)]=some (.str (Es d)):=by
 unfold Rz
 simp only
 rw[if_pos (by simp;omega)]
 congr 2
 unfold Es
 rw[Sj]
 clear h
 induction d with
 | zero=>rfl
 | succ d ih=>
  rw[Lib.repeatL,ih,show 2*(d+1)=2+2*d by omega,<-List.replicate_append_replicate]
  rfl
theorem Cp(x:Sp):x.row=[.int .i64 x.op,.int .i64 x.line,.str x.nm,.str x.arg,SL x.iz x.it (x.idx.map Xp.row),.int .i64 x.ex.op,.int .i64 x.ex.n,.str x.ex.nm,SL x.ex.z x.ex.t (x.ex.l.map Xp.row),SL x.bz x.bt (x.body.map Sp.row),SL x.ez x.et (x.els.map Sp.row)]:=by
 rw[Mz,Au]
 rfl
def Wr(x:Sp):Prop:=∀ (s:St) (b:Nat) (l:List UInt8) (d:Nat),WB s s b l->l.length+(x.txt d).length<=10000000000000->d+x.sz<=1073741823->∃ s',Th TT PT 37 [.ptr b 0 0,.agg x.row,.int .i64 (d:Int)] s (.tup []) s'/\WB s s' b (l++x.txt d)
theorem Xh{s0 s:St}{b:Nat}{l:List UInt8}(h:WB s0 s b l)(x:Sp):WB s0 (s++[.row x.row 92 0 0]) b l:=H0 h (by
 have:=Lm x
 exact this)
theorem Aop{K:List It}{Q:Env->St->Prop}{A6:V}{j4 b d:Nat}{z:Bool}{t:Nat}{L:List Sp}{s0 s:St}{l:List UInt8}(hW:∀ x∈L,Wr x)(h:WB s0 s b l)(hl:l.length+(Sp.txts (d+1) L).length<=10000000000000)(hd:d+1+Sp.szs L<=1073741823)(hn:L.length<=1000000000000000)
  (hk:∀ s',WB s0 s' b (l++Sp.txts (d+1) L)->W TT PT K [(0,.ptr b 0 0),(2,.int .i64 (d:Int)),(4,.ptr j4 0 0),(6,A6),(35,SL z t (L.map Sp.row)),(36,.int .i64 (L.length:Int)),(37,.int .i64 (L.length:Int))] s' Q) :
  W TT PT (.l [0,2,4,6,35,36,37] lp37_0::.b 0::K) [(0,.ptr b 0 0),(2,.int .i64 (d:Int)),(4,.ptr j4 0 0),(6,A6),(35,SL z t (L.map Sp.row)),(36,.int .i64 (L.length:Int)),(37,.int .i64 0)] s Q:=by
 refine En (α:=Nat × St × List UInt8) (fun a=>L.length - a.1) (fun a=>[(0,.ptr b 0 0),(2,.int .i64 (d:Int)),(4,.ptr j4 0 0),(6,A6),(35,SL z t (L.map Sp.row)),(36,.int .i64 (L.length:Int)),(37,.int .i64 (a.1:Int))]) (fun a=>a.2.1) (fun a=>a.1<=L.length/\WB s0 a.2.1 b a.2.2/\a.2.2++Sp.txts (d+1) (L.drop a.1)=l++Sp.txts (d+1) L) ?_ (0,s,l) ⟨Bj _,h,rfl⟩
 rintro⟨i,s1,c⟩ ⟨hi,hw,hc⟩ ih
 simp only at hi hw hc ih
 refine Eo (by delta lp37_0;exact rfl) ?_
 have hcl:=congrArg List.length hc
 simp only[Al]at hcl
 rcases D7 i L.length with h' | h'
 ·obtain⟨x,hx,hdr,hm⟩:=L4 h'
  rw[hdr,J9]at hc hcl
  rw[Al]at hcl
  have hsz:=T0 hm
  obtain⟨s2,e2⟩:∃ s2,s2=s1++[Ob.row x.row 92 0 0]:=⟨_,rfl⟩
  have w2:WB s0 s2 b c:=by rw[e2];exact Xh hw x
  have k2:s2[s1.length]?=some (.row x.row 92 0 0):=by rw[e2,B1 (Af _),Hm];rfl
  obtain⟨s3,q3,v3⟩:=hW x hm s2 b c (d+1) (Na w2) (by omega) (by omega)
  have hrow:=Cp x
  rw[hrow]at e2 k2 q3
  rw[e2]at q3 k2
  simp only[go_sem,Hs h',Ch,hx,hrow,Cr (show d<9223372036854775807 by omega)]
  refine Cg q3 ?_
  simp only[go_sem,Cr (show i<9223372036854775807 by omega)]
  exact C5 (ih (i+1,s3,c++x.txt (d+1)) (by simp;omega) ⟨by simp;omega,G4 w2 v3,by simp only;rw[Bl];exact hc⟩) rfl
 ·obtain rfl:i=L.length:=by omega
  rw[E9 h',show Sp.txts (d+1) []=[] by rw[Sp.txts],Ds]at hc
  subst hc
  simp only[go_sem,Is h']
  exact hk s1 hw
theorem Aoq{K:List It}{Q:Env->St->Prop}{A6:V}{b d:Nat}{z:Bool}{t:Nat}{L:List Sp}{s0 s:St}{l:List UInt8}(hW:∀ x∈L,Wr x)(h:WB s0 s b l)(hl:l.length+(Sp.txts (d+1) L).length<=10000000000000)(hd:d+1+Sp.szs L<=1073741823)(hn:L.length<=1000000000000000)
  (hk:∀ s',WB s0 s' b (l++Sp.txts (d+1) L)->W TT PT K [(0,.ptr b 0 0),(2,.int .i64 (d:Int)),(6,A6),(57,SL z t (L.map Sp.row)),(58,.int .i64 (L.length:Int)),(59,.int .i64 (L.length:Int))] s' Q) :
  W TT PT (.l [0,2,6,57,58,59] lp37_1::.b 2::K) [(0,.ptr b 0 0),(2,.int .i64 (d:Int)),(6,A6),(57,SL z t (L.map Sp.row)),(58,.int .i64 (L.length:Int)),(59,.int .i64 0)] s Q:=by
 refine En (α:=Nat × St × List UInt8) (fun a=>L.length - a.1) (fun a=>[(0,.ptr b 0 0),(2,.int .i64 (d:Int)),(6,A6),(57,SL z t (L.map Sp.row)),(58,.int .i64 (L.length:Int)),(59,.int .i64 (a.1:Int))]) (fun a=>a.2.1) (fun a=>a.1<=L.length/\WB s0 a.2.1 b a.2.2/\a.2.2++Sp.txts (d+1) (L.drop a.1)=l++Sp.txts (d+1) L) ?_ (0,s,l) ⟨Bj _,h,rfl⟩
 rintro⟨i,s1,c⟩ ⟨hi,hw,hc⟩ ih
 simp only at hi hw hc ih
 refine Eo (by delta lp37_1;exact rfl) ?_
 have hcl:=congrArg List.length hc
 simp only[Al]at hcl
 rcases D7 i L.length with h' | h'
 ·obtain⟨x,hx,hdr,hm⟩:=L4 h'
  rw[hdr,J9]at hc hcl
  rw[Al]at hcl
  have hsz:=T0 hm
  obtain⟨s2,e2⟩:∃ s2,s2=s1++[Ob.row x.row 92 0 0]:=⟨_,rfl⟩
  have w2:WB s0 s2 b c:=by rw[e2];exact Xh hw x
  have k2:s2[s1.length]?=some (.row x.row 92 0 0):=by rw[e2,B1 (Af _),Hm];rfl
  obtain⟨s3,q3,v3⟩:=hW x hm s2 b c (d+1) (Na w2) (by omega) (by omega)
  have hrow:=Cp x
  rw[hrow]at e2 k2 q3
  rw[e2]at q3 k2
  simp only[go_sem,Hs h',Ch,hx,hrow,Cr (show d<9223372036854775807 by omega)]
  refine Cg q3 ?_
  simp only[go_sem,Cr (show i<9223372036854775807 by omega)]
  exact C5 (ih (i+1,s3,c++x.txt (d+1)) (by simp;omega) ⟨by simp;omega,G4 w2 v3,by simp only;rw[Bl];exact hc⟩) rfl
 ·obtain rfl:i=L.length:=by omega
  rw[E9 h',show Sp.txts (d+1) []=[] by rw[Sp.txts],Ds]at hc
  subst hc
  simp only[go_sem,Is h']
  exact hk s1 hw
theorem Aor{x:Sp}(h:CnS x):Wr x:=by
 induction h with
 | @mk x h1 h2 h3 h4 h5 h6 h7 h8 h9 ihb ihe=>
  intro s b l d h hl hd
  have hs:CnS x:=.mk h1 h2 h3 h4 h5 h6 h7 h8 h9
  rw[Q9]at hd
  have hbn:s.length≠b:=by
   obtain⟨⟨u,p,hb,-⟩,-⟩:=h
   have:=(Ay.1 hb).1
   omega
  rw[M9]at hl ⊢
  simp only[Al,Im]at hl
  have hh:=Aoo hs (by omega)
  have hrep:=Aro d (by omega)
  have hset:=Lm x
  have g0:(1073741823<(d:Int))=False:=eq_false (by omega)
  have hil:=Im d
  generalize hH:B6 x=H at hl hh ⊢
  generalize hT:Es d=T at hl hrep hil ⊢
  refine Pi T37 rfl ?_ rfl rfl (fun σ1 h=>⟨h.2.2.1,h.2.1⟩)
  obtain⟨s1,e1⟩:∃ s1,s1=s++[Ob.row x.row 92 0 0]:=⟨_,rfl⟩
  have w1:WB s s1 b l:=by rw[e1];exact Xh h x
  have k1:s1[s.length]?=some (.row x.row 92 0 0):=by rw[e1,B1 (Af _),Hm];rfl
  have hrow:=Cp x
  obtain⟨s2,q2,w2,v2⟩:=D0 w1 T (by omega)
  have k2:=v2.2.2.2 s.length _ _ _ _ hbn (by decide) k1
  obtain⟨s3,q3,w3,v3⟩:=D0 w2 H (by simp;omega)
  have k3:=v3.2.2.2 s.length _ _ _ _ hbn (by decide) k2
  rw[hrow]at e1 k2 k3 hh ⊢
  rw[e1]at q2
  cases hb:Bk x.op
  ·rw[hb]at hh hl
   simp only[Dr,if_false,Ag,Br]at hl ⊢
   obtain⟨s4,q4,w4,v4⟩:=D0 w3 [59,10] (by simp;omega)
   simp only[go_sem,g0]
   refine Ef P73 (by simp only[go_sem]) hrep ?_
   simp only[go_sem]
   refine Cg q2 ?_
   simp only[go_sem,k2]
   refine Ax hh (by simp only[go_sem]) ?_
   simp only[go_sem]
   refine Cg q3 ?_
   simp only[go_sem]
   refine Cg q4 ?_
   simp only[go_sem]
   exact⟨rfl,by simpa using w4⟩
  ·rw[hb]at hh hl
   simp only[if_true,Ag,Al,Br]at hl ⊢
   have lb:=Ql x.body (d+1)
   have le:=Ql x.els (d+1)
   have hbn':(x.body.map Sp.row).length=x.body.length:=Cd ..
   have hen':(x.els.map Sp.row).length=x.els.length:=Cd ..
   obtain⟨s4,q4,w4,v4⟩:=D0 w3 [32,123,10] (by simp;omega)
   have k4:=v4.2.2.2 s.length _ _ _ _ hbn (by decide) k3
   simp only[go_sem,g0]
   refine Ef P73 (by simp only[go_sem]) hrep ?_
   simp only[go_sem]
   refine Cg q2 ?_
   simp only[go_sem,k2]
   refine Ax hh (by simp only[go_sem]) ?_
   simp only[go_sem]
   refine Cg q3 ?_
   simp only[go_sem]
   refine Cg q4 ?_
   simp only[go_sem,k4,hbn']
   refine Aop (d:=d) (L:=x.body) (l:=l++T++H++[32,123,10]) ihb (Na w4) (by simp;omega) (by omega) (by omega) fun s5 w5=>?_
   have k5:=w5.2.2.2 s.length _ _ _ _ hbn (by decide) k4
   have w5':=G4 w4 w5
   cases hels:x.els with
   | nil=>
    have e0:((0:Int)<((([]:List Sp).map Sp.row).length:Int))=False:=eq_false (by simp)
    rw[hels]at k5 hl
    simp only[Be]at k5
    obtain⟨s6,q6,w6,v6⟩:=D0 w5' T (by simp;omega)
    obtain⟨s7,q7,w7,v7⟩:=D0 w6 [125,10] (by simp;omega)
    simp only[go_sem,k5,Int.reduceLT]
    refine Cg q6 ?_
    simp only[go_sem]
    refine Cg q7 ?_
    simp only[go_sem]
    exact⟨rfl,by simpa using w7⟩
   | cons y ys=>
    rw[hels]at k5 hl le hd hen' ihe
    have e0:((0:Int)<((ys.length+1:Nat):Int))=True:=eq_true (by omega)
    simp only[List.isEmpty_cons,Dr,if_false,Ag,Al]at hl ⊢
    obtain⟨s6,q6,w6,v6⟩:=D0 w5' T (by simp;omega)
    have k6:=v6.2.2.2 s.length _ _ _ _ hbn (by decide) k5
    obtain⟨s7,q7,w7,v7⟩:=D0 w6 [125,32,101,108,115,101,32,123,10] (by simp;omega)
    have k7:=v7.2.2.2 s.length _ _ _ _ hbn (by decide) k6
    simp only[go_sem,k5,Cd,Ag,e0]
    refine Cg q6 ?_
    simp only[go_sem]
    refine Cg q7 ?_
    simp only[go_sem,k7,Cd,Ag]
    refine Aoq (d:=d) (L:=y::ys) (l:=l++T++H++[32,123,10]++Sp.txts (d+1) x.body++T++[125,32,101,108,115,101,32,123,10]) ihe (Na w7) (by simp;omega) (by omega) (by omega) fun s8 w8=>?_
    obtain⟨s9,q9,w9,v9⟩:=D0 (G4 w7 w8) T (by simp;omega)
    obtain⟨s10,q10,w10,v10⟩:=D0 w9 [125,10] (by simp;omega)
    simp only[go_sem]
    refine Cg q9 ?_
    simp only[go_sem]
    refine Cg q10 ?_
    simp only[go_sem]
    exact⟨rfl,by simpa using w10⟩
end Go.Proofs.YtlehfgdhebapeaaGreatDoor.KM
