/- Walks: the program's texts of expressions and heads of statements. -/
import Derived.Test.YtcoeikinocflnaaGreatDoorGe
import Derived.Test.YtcoeikinocflnaaGreatDoorGc
set_option linter.all false
namespace Go.Proofs.YtcoeikinocflnaaGreatDoor.KM
open Go
theorem Gu{vs:List V}{σ:St}{v:V}(h:vs.all Dj=true)(he:V.tup vs=v):FR (.tup vs) σ v:=he ▸ Jq h
theorem Ajy{s0 s:St}{b:Nat}{l:List UInt8}(h:WB s0 s b l):∃ s',Po 192 5 [.ptr b 0 0] s=some (.str l,s'):=by
 obtain⟨⟨u,hu⟩,-⟩:=h
 exact Axs hu
theorem Tb{x:Xp}(h:Cn x)(hl:x.txt.length<=10000000000000):Fn TT PT 225 [.agg x.row] (.str x.txt):=by
 have hset:=E8 x
 refine Ch T225 rfl ?_
 have w0:WB [.row x.row 103 0 0,.row [.nilp,.nils] 192 0 0] [.row x.row 103 0 0,.row [.nilp,.nils] 192 0 0] 1 []:=by
  refine Ag3 (u:=.nils) ⟨.nilp,rfl,.inl rfl,Fy⟩ ?_
  exact Tv (Jr (s:=[]) (fun _ h=>by cases h) (by rw[A9];simp only[go_sem])) (by simp[Ob.refs,Aq,V.refs])
 obtain⟨s1,q1,v1⟩:=Aqc h _ 1 [] w0 (by simpa using hl)
 obtain⟨s2,hs2⟩:=Ajy v1
 rw[Bw]at hs2
 rw[A9]at q1 hset ⊢
 simp only[go_sem]
 refine Dg q1 ?_
 simp only[go_sem]
 refine M2 (.spec T142 rfl rfl hs2) ?_
 simp only[go_sem]
 exact H0 rfl
theorem Aqd{s:Sp}(h:CnS s)(hl:(Bv s).length<=10000000000000):Fn TT PT 187 [.agg s.row] (.tup [.str (Bv s),.bool (A8 s.op)]):=by
 obtain⟨h1,h2,h3,h4,h5,-,-,-,-⟩:=h
 obtain⟨op,line,nm,arg,iz,it,idx,ex,bz,bt,body,ez,et,els⟩:=s
 simp only at h1 h2 h3 h4 h5 hl ⊢
 rw[Qv]
 simp only
 have hw:op=1\/op=2\/op=3\/op=4\/op=5\/op=6\/op=7\/op=8\/op=9\/op=10\/op=11\/op=12\/op=13\/op=14\/op=15:=by omega
 refine Ch T187 rfl ?_
 rw[A9]
 rcases hw with rfl | hw
 ·have hx:=Tb (h5 (.inl rfl))
  simp only[Bv,if_true,Aj,Af]at hl ⊢
  have hx:=hx (by omega)
  rw[A9]at hx
  cases idx with
  | nil=>
   simp only[El,Cf]at hl ⊢
   have a2:Ao .add nm [32,61,32]=some (.str (nm++[32,61,32])):=As (by simp;omega) rfl
   have a3:Ao .add (nm++[32,61,32]) ex.txt=some (.str (nm++32::61::32::ex.txt)):=As (by simp;omega) (by simp)
   simp only[go_sem,Int.reduceBEq,Int.reduceLT,↓a2]
   refine An hx (by simp only[go_sem]) ?_
   simp only[go_sem,↓a3]
   exact Gu rfl (by simp[A8])
  | cons a r=>
   have ha:=Tb (h4 a Dm)
   simp only[El,Af,Aj]at hl ⊢
   have ha:=ha (by omega)
   rw[A9]at ha
   have r0:r=[]:=by simpa using h2
   subst r0
   have a1:Ao .add [91] a.txt=some (.str (91::a.txt)):=As (by simp;omega) rfl
   have a2:Ao .add (91::a.txt) [93]=some (.str (91::(a.txt++[93]))):=As (by simp;omega) (by simp)
   have a3:Ao .add nm (91::(a.txt++[93]))=some (.str (nm++91::(a.txt++[93]))):=As (by simp;omega) rfl
   have a4:Ao .add (nm++91::(a.txt++[93])) [32,61,32]=some (.str (nm++91::(a.txt++[93,32,61,32]))):=As (by simp;omega) (by simp)
   have a5:Ao .add (nm++91::(a.txt++[93,32,61,32])) ex.txt=some (.str (nm++91::(a.txt++93::32::61::32::ex.txt))):=As (by simp;omega) (by simp)
   simp only[A1,Cy]
   rw[A9 a]
   simp only[go_sem,Int.reduceBEq,Int.reduceLT]
   refine An ha (by simp only[go_sem]) ?_
   simp only[go_sem,↓a1,↓a2,↓a3,↓a4]
   refine An hx (by simp only[go_sem]) ?_
   simp only[go_sem,↓a5]
   exact Gu rfl (by simp[A8])
 rcases hw with rfl | hw
 ·simp only[Bv,Bt,A8]at hl ⊢
  simp at hl
  have hx:=Tb (h5 (by omega)) (by omega)
  rw[A9]at hx
  have a1:Ao .add ([105,102,32]) (ex.txt)=some (.str (105::102::32::ex.txt)):=As (by simp;try omega) (by simp)
  simp only[go_sem,Int.reduceBEq,Int.reduceLT]
  refine An hx (by simp only[go_sem]) ?_
  simp only[go_sem,↓a1]
  exact Gu rfl (by simp)
 rcases hw with rfl | hw
 ·simp only[Bv,Bt,A8]at hl ⊢
  simp at hl
  have hx:=Tb (h5 (by omega)) (by omega)
  rw[A9]at hx
  have a1:Ao .add ([119,104,105,108,101,32]) (ex.txt)=some (.str (119::104::105::108::101::32::ex.txt)):=As (by simp;try omega) (by simp)
  simp only[go_sem,Int.reduceBEq,Int.reduceLT]
  refine An hx (by simp only[go_sem]) ?_
  simp only[go_sem,↓a1]
  exact Gu rfl (by simp)
 rcases hw with rfl | hw
 ·simp only[Bv,Bt,A8]at hl ⊢
  simp at hl
  have a1:Ao .add ([108,111,99,107,32]) (nm)=some (.str (108::111::99::107::32::nm)):=As (by simp;try omega) (by simp)
  simp only[go_sem,Int.reduceBEq,Int.reduceLT,↓a1]
  exact Gu rfl (by simp)
 rcases hw with rfl | hw
 ·simp only[Bv,Bt,A8]at hl ⊢
  simp at hl
  have a1:Ao .add ([114,101,97,100,32]) (nm)=some (.str (114::101::97::100::32::nm)):=As (by simp;try omega) (by simp)
  simp only[go_sem,Int.reduceBEq,Int.reduceLT,↓a1]
  exact Gu rfl (by simp)
 rcases hw with rfl | hw
 ·simp only[Bv,Bt,A8]at hl ⊢
  simp at hl
  have a1:Ao .add ([119,114,105,116,101,32]) (nm)=some (.str (119::114::105::116::101::32::nm)):=As (by simp;try omega) (by simp)
  simp only[go_sem,Int.reduceBEq,Int.reduceLT,↓a1]
  exact Gu rfl (by simp)
 rcases hw with rfl | hw
 ·simp only[Bv,Bt,A8]at hl ⊢
  simp at hl
  simp only[go_sem,Int.reduceBEq,Int.reduceLT]
  exact Gu rfl (by simp)
 rcases hw with rfl | hw
 ·simp only[Bv,Bt,A8]at hl ⊢
  simp at hl
  simp only[go_sem,Int.reduceBEq,Int.reduceLT]
  exact Gu rfl (by simp)
 rcases hw with rfl | hw
 ·simp only[Bv,Bt,A8]at hl ⊢
  simp at hl
  have a1:Ao .add ([119,97,105,116,32]) (nm)=some (.str (119::97::105::116::32::nm)):=As (by simp;try omega) (by simp)
  simp only[go_sem,Int.reduceBEq,Int.reduceLT,↓a1]
  exact Gu rfl (by simp)
 rcases hw with rfl | hw
 ·simp only[Bv,Bt,A8]at hl ⊢
  simp at hl
  have a1:Ao .add ([110,111,116,105,102,121,32]) (nm)=some (.str (110::111::116::105::102::121::32::nm)):=As (by simp;try omega) (by simp)
  simp only[go_sem,Int.reduceBEq,Int.reduceLT,↓a1]
  exact Gu rfl (by simp)
 rcases hw with rfl | hw
 ·simp only[Bv,Bt,A8]at hl ⊢
  simp at hl
  have a1:Ao .add ([110,111,116,105,102,121,97,108,108,32]) (nm)=some (.str (110::111::116::105::102::121::97::108::108::32::nm)):=As (by simp;try omega) (by simp)
  simp only[go_sem,Int.reduceBEq,Int.reduceLT,↓a1]
  exact Gu rfl (by simp)
 rcases hw with rfl | hw
 ·simp only[Bv,Bt,A8]at hl ⊢
  simp at hl
  have a1:Ao .add ([115,112,97,119,110,32]) (nm)=some (.str (115::112::97::119::110::32::nm)):=As (by simp;try omega) (by simp)
  simp only[go_sem,Int.reduceBEq,Int.reduceLT,↓a1]
  exact Gu rfl (by simp)
 rcases hw with rfl | hw
 ·simp only[Bv,Bt,A8]at hl ⊢
  simp at hl
  have a1:Ao .add ([106,111,105,110,32]) (nm)=some (.str (106::111::105::110::32::nm)):=As (by simp;try omega) (by simp)
  simp only[go_sem,Int.reduceBEq,Int.reduceLT,↓a1]
  exact Gu rfl (by simp)
 rcases hw with rfl | hw
 ·simp only[Bv,Bt,A8]at hl ⊢
  simp at hl
  have hx:=Tb (h5 (by omega)) (by omega)
  rw[A9]at hx
  have a1:Ao .add ([115,101,116,32]) (nm)=some (.str (115::101::116::32::nm)):=As (by simp;try omega) (by simp)
  have a2:Ao .add (115::101::116::32::nm) ([32])=some (.str (115::101::116::32::(nm++[32]))):=As (by simp;try omega) (by simp)
  have a3:Ao .add (115::101::116::32::(nm++[32])) (ex.txt)=some (.str (115::101::116::32::(nm++32::ex.txt))):=As (by simp;try omega) (by simp)
  simp only[go_sem,Int.reduceBEq,Int.reduceLT]
  refine Ax (by kernel_rfl) ?_
  simp only[go_sem,↓a1,↓a2]
  refine Cm hx (by simp only[go_sem]) ?_
  simp only[go_sem,↓a3]
  exact Gu rfl (by simp)
 subst hw
 simp only[Bv,Bt,A8]at hl ⊢
 simp at hl
 have a1:Ao .add ([103,101,116,32]) (nm)=some (.str (103::101::116::32::nm)):=As (by simp;try omega) (by simp)
 have a2:Ao .add (103::101::116::32::nm) ([32])=some (.str (103::101::116::32::(nm++[32]))):=As (by simp;try omega) (by simp)
 have a3:Ao .add (103::101::116::32::(nm++[32])) (arg)=some (.str (103::101::116::32::(nm++32::arg))):=As (by simp;try omega) (by simp)
 simp only[go_sem,Int.reduceBEq,Int.reduceLT,↓a1,↓a2,↓a3]
 exact Gu rfl (by simp)
end Go.Proofs.YtcoeikinocflnaaGreatDoor.KM
