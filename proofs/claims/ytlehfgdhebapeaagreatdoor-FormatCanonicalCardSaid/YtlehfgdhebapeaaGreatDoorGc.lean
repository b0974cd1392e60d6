/- Walks: the reference's texts of statements. -/
import Derived.Test.YtlehfgdhebapeaaGreatDoorGa
set_option linter.all false
namespace Go.Proofs.YtlehfgdhebapeaaGreatDoor.KM
open Go
theorem Qv(s:Sp):s.row.length=11:=by rw[Mz,Au];rfl
theorem Lm(s:Sp):C2 (.agg s.row)=true:=by
 rw[Mz,Au]
 simp only[go_sem]
theorem Ayy(s:Sp):s.row.take 11=s.row:=Px (by rw[Qv];omega)
theorem Ams(d:Nat)(hd:d<=100000000000000):Fn TT PT 128 [.int .i64 (d:Int)] (.str (Es d)):=by
 refine Bz T128 rfl ?_
 simp only[go_sem]
 refine En (α:=Nat) (fun i=>d - i) (fun i=>[(0,.int .i64 (d:Int)),(3,.str (Es i)),(4,.int .i64 (i:Int))]) (fun _=>[]) (fun i=>i<=d) ?_ 0 (Bj _)
 rintro i hi ih
 refine Eo (by delta lp128_0;exact rfl) ?_
 rcases D7 i d with h | h
 ·have a1:Ah .add (Es i) [32,32]=some (.str (Es (i+1))):=Ai (by simp[Es];omega) (by
   unfold Es
   rw[show 2*(i+1)=2*i+2 by omega,<-List.replicate_append_replicate]
   rfl)
  simp only[go_sem,Hs h,↓a1,Cr (show i<9223372036854775807 by omega)]
  exact C5 (ih (i+1) (by omega) (by omega)) rfl
 ·obtain rfl:i=d:=by omega
  simp only[go_sem,Is h]
  exact E6 rfl
theorem Im(d:Nat):(Es d).length=2*d:=by simp[Es]
def F3(op:Int):List UInt8:=if Bk op then [32,123] else [59]
theorem Af7(l:List Xp):(Eh l).length<=(match l with | a::_=>a.txt.length+2 | []=>0):=by
 cases l<;>simp[Eh]
theorem Aoh{s:Sp}(h:CnS s)(hl:(B6 s).length<=100000000000000):Fn TT PT 129 [.agg s.row] (.str (B6 s++F3 s.op)):=by
 obtain⟨h1,h2,h3,h4,h5,-,-,-,-⟩:=h
 obtain⟨op,line,nm,arg,iz,it,idx,ex,bz,bt,body,ez,et,els⟩:=s
 simp only at h1 h2 h3 h4 h5 hl ⊢
 rw[Mz]
 simp only
 have hw:op=1\/op=2\/op=3\/op=4\/op=5\/op=6\/op=7\/op=8\/op=9\/op=10\/op=11\/op=12\/op=13\/op=14\/op=15:=by omega
 refine Bz T129 rfl ?_
 rw[Au]
 rcases hw with rfl | hw
 ·have hx:=Tl (h5 (.inl rfl))
  simp only[B6,if_true,Al,Ag]at hl ⊢
  have hx:=hx (by omega)
  rw[Au]at hx
  cases idx with
  | nil=>
   simp only[Eh,Br]at hl ⊢
   have a1:Ah .add nm []=some (.str nm):=Ai (by simp;omega) (by simp)
   have a2:Ah .add nm [32,61,32]=some (.str (nm++[32,61,32])):=Ai (by simp;omega) rfl
   have a3:Ah .add (nm++[32,61,32]) ex.txt=some (.str (nm++32::61::32::ex.txt)):=Ai (by simp;omega) (by simp)
   have a4:Ah .add (nm++32::61::32::ex.txt) [59]=some (.str (nm++32::61::32::(ex.txt++[59]))):=Ai (by simp;omega) (by simp)
   simp only[go_sem,Int.reduceBEq,Int.reduceLT]
   refine A2 (by kernel_rfl) ?_
   simp only[go_sem,↓a1,↓a2]
   refine C6 hx (by simp only[go_sem]) ?_
   simp only[go_sem,↓a3,↓a4]
   exact A9 rfl (by simp[F3,Bk])
  | cons a r=>
   have ha:=Tl (h4 a Co)
   simp only[Eh,Ag,Al]at hl ⊢
   have ha:=ha (by omega)
   rw[Au]at ha
   have r0:r=[]:=by simpa using h2
   subst r0
   have a1:Ah .add [91] a.txt=some (.str (91::a.txt)):=Ai (by simp;omega) rfl
   have a2:Ah .add (91::a.txt) [93]=some (.str (91::(a.txt++[93]))):=Ai (by simp;omega) (by simp)
   have a3:Ah .add nm (91::(a.txt++[93]))=some (.str (nm++91::(a.txt++[93]))):=Ai (by simp;omega) rfl
   have a4:Ah .add (nm++91::(a.txt++[93])) [32,61,32]=some (.str (nm++91::(a.txt++[93,32,61,32]))):=Ai (by simp;omega) (by simp)
   have a5:Ah .add (nm++91::(a.txt++[93,32,61,32])) ex.txt=some (.str (nm++91::(a.txt++93::32::61::32::ex.txt))):=Ai (by simp;omega) (by simp)
   have a6:Ah .add (nm++91::(a.txt++93::32::61::32::ex.txt)) [59]=some (.str (nm++91::(a.txt++93::32::61::32::(ex.txt++[59])))):=Ai (by simp;omega) (by simp)
   simp only[Ao,Be]
   rw[Au a]
   simp only[go_sem,Int.reduceBEq,Int.reduceLT]
   refine Ax ha (by simp only[go_sem]) ?_
   simp only[go_sem,↓a1,↓a2]
   refine A2 (by kernel_rfl) ?_
   simp only[go_sem,↓a3,↓a4]
   refine C6 hx (by simp only[go_sem]) ?_
   simp only[go_sem,↓a5,↓a6]
   exact A9 rfl (by simp[F3,Bk])
 rcases hw with rfl | hw
 ·simp only[B6,B2,F3,Bk]at hl ⊢
  simp at hl
  have hx:=Tl (h5 (by omega)) (by omega)
  rw[Au]at hx
  have a1:Ah .add ([105,102,32]) (ex.txt)=some (.str (105::102::32::ex.txt)):=Ai (by simp;try omega) (by simp)
  have a2:Ah .add (105::102::32::ex.txt) ([32,123])=some (.str (105::102::32::(ex.txt++[32,123]))):=Ai (by simp;try omega) (by simp)
  simp only[go_sem,Int.reduceBEq,Int.reduceLT]
  refine Ax hx (by simp only[go_sem]) ?_
  simp only[go_sem,↓a1,↓a2]
  exact A9 rfl (by simp)
 rcases hw with rfl | hw
 ·simp only[B6,B2,F3,Bk]at hl ⊢
  simp at hl
  have hx:=Tl (h5 (by omega)) (by omega)
  rw[Au]at hx
  have a1:Ah .add ([119,104,105,108,101,32]) (ex.txt)=some (.str (119::104::105::108::101::32::ex.txt)):=Ai (by simp;try omega) (by simp)
  have a2:Ah .add (119::104::105::108::101::32::ex.txt) ([32,123])=some (.str (119::104::105::108::101::32::(ex.txt++[32,123]))):=Ai (by simp;try omega) (by simp)
  simp only[go_sem,Int.reduceBEq,Int.reduceLT]
  refine Ax hx (by simp only[go_sem]) ?_
  simp only[go_sem,↓a1,↓a2]
  exact A9 rfl (by simp)
 rcases hw with rfl | hw
 ·simp only[B6,B2,F3,Bk]at hl ⊢
  simp at hl
  have a1:Ah .add ([108,111,99,107,32]) (nm)=some (.str (108::111::99::107::32::nm)):=Ai (by simp;try omega) (by simp)
  have a2:Ah .add (108::111::99::107::32::nm) ([32,123])=some (.str (108::111::99::107::32::(nm++[32,123]))):=Ai (by simp;try omega) (by simp)
  simp only[go_sem,Int.reduceBEq,Int.reduceLT,↓a1,↓a2]
  exact A9 rfl (by simp)
 rcases hw with rfl | hw
 ·simp only[B6,B2,F3,Bk]at hl ⊢
  simp at hl
  have a1:Ah .add ([114,101,97,100,32]) (nm)=some (.str (114::101::97::100::32::nm)):=Ai (by simp;try omega) (by simp)
  have a2:Ah .add (114::101::97::100::32::nm) ([32,123])=some (.str (114::101::97::100::32::(nm++[32,123]))):=Ai (by simp;try omega) (by simp)
  simp only[go_sem,Int.reduceBEq,Int.reduceLT,↓a1,↓a2]
  exact A9 rfl (by simp)
 rcases hw with rfl | hw
 ·simp only[B6,B2,F3,Bk]at hl ⊢
  simp at hl
  have a1:Ah .add ([119,114,105,116,101,32]) (nm)=some (.str (119::114::105::116::101::32::nm)):=Ai (by simp;try omega) (by simp)
  have a2:Ah .add (119::114::105::116::101::32::nm) ([32,123])=some (.str (119::114::105::116::101::32::(nm++[32,123]))):=Ai (by simp;try omega) (by simp)
  simp only[go_sem,Int.reduceBEq,Int.reduceLT,↓a1,↓a2]
  exact A9 rfl (by simp)
 rcases hw with rfl | hw
 ·simp only[B6,B2,F3,Bk]at hl ⊢
  simp at hl
  simp only[go_sem,Int.reduceBEq,Int.reduceLT]
  exact A9 rfl (by simp)
 rcases hw with rfl | hw
 ·simp only[B6,B2,F3,Bk]at hl ⊢
  simp at hl
  simp only[go_sem,Int.reduceBEq,Int.reduceLT]
  exact A9 rfl (by simp)
 rcases hw with rfl | hw
 ·simp only[B6,B2,F3,Bk]at hl ⊢
  simp at hl
  have a1:Ah .add ([119,97,105,116,32]) (nm)=some (.str (119::97::105::116::32::nm)):=Ai (by simp;try omega) (by simp)
  have a2:Ah .add (119::97::105::116::32::nm) ([59])=some (.str (119::97::105::116::32::(nm++[59]))):=Ai (by simp;try omega) (by simp)
  simp only[go_sem,Int.reduceBEq,Int.reduceLT,↓a1,↓a2]
  exact A9 rfl (by simp)
 rcases hw with rfl | hw
 ·simp only[B6,B2,F3,Bk]at hl ⊢
  simp at hl
  have a1:Ah .add ([110,111,116,105,102,121,32]) (nm)=some (.str (110::111::116::105::102::121::32::nm)):=Ai (by simp;try omega) (by simp)
  have a2:Ah .add (110::111::116::105::102::121::32::nm) ([59])=some (.str (110::111::116::105::102::121::32::(nm++[59]))):=Ai (by simp;try omega) (by simp)
  simp only[go_sem,Int.reduceBEq,Int.reduceLT,↓a1,↓a2]
  exact A9 rfl (by simp)
 rcases hw with rfl | hw
 ·simp only[B6,B2,F3,Bk]at hl ⊢
  simp at hl
  have a1:Ah .add ([110,111,116,105,102,121,97,108,108,32]) (nm)=some (.str (110::111::116::105::102::121::97::108::108::32::nm)):=Ai (by simp;try omega) (by simp)
  have a2:Ah .add (110::111::116::105::102::121::97::108::108::32::nm) ([59])=some (.str (110::111::116::105::102::121::97::108::108::32::(nm++[59]))):=Ai (by simp;try omega) (by simp)
  simp only[go_sem,Int.reduceBEq,Int.reduceLT,↓a1,↓a2]
  exact A9 rfl (by simp)
 rcases hw with rfl | hw
 ·simp only[B6,B2,F3,Bk]at hl ⊢
  simp at hl
  have a1:Ah .add ([115,112,97,119,110,32]) (nm)=some (.str (115::112::97::119::110::32::nm)):=Ai (by simp;try omega) (by simp)
  have a2:Ah .add (115::112::97::119::110::32::nm) ([59])=some (.str (115::112::97::119::110::32::(nm++[59]))):=Ai (by simp;try omega) (by simp)
  simp only[go_sem,Int.reduceBEq,Int.reduceLT,↓a1,↓a2]
  exact A9 rfl (by simp)
 rcases hw with rfl | hw
 ·simp only[B6,B2,F3,Bk]at hl ⊢
  simp at hl
  have a1:Ah .add ([106,111,105,110,32]) (nm)=some (.str (106::111::105::110::32::nm)):=Ai (by simp;try omega) (by simp)
  have a2:Ah .add (106::111::105::110::32::nm) ([59])=some (.str (106::111::105::110::32::(nm++[59]))):=Ai (by simp;try omega) (by simp)
  simp only[go_sem,Int.reduceBEq,Int.reduceLT,↓a1,↓a2]
  exact A9 rfl (by simp)
 rcases hw with rfl | hw
 ·simp only[B6,B2,F3,Bk]at hl ⊢
  simp at hl
  have hx:=Tl (h5 (by omega)) (by omega)
  rw[Au]at hx
  have a1:Ah .add ([115,101,116,32]) (nm)=some (.str (115::101::116::32::nm)):=Ai (by simp;try omega) (by simp)
  have a2:Ah .add (115::101::116::32::nm) ([32])=some (.str (115::101::116::32::(nm++[32]))):=Ai (by simp;try omega) (by simp)
  have a3:Ah .add (115::101::116::32::(nm++[32])) (ex.txt)=some (.str (115::101::116::32::(nm++32::ex.txt))):=Ai (by simp;try omega) (by simp)
  have a4:Ah .add (115::101::116::32::(nm++32::ex.txt)) ([59])=some (.str (115::101::116::32::(nm++32::(ex.txt++[59])))):=Ai (by simp;try omega) (by simp)
  simp only[go_sem,Int.reduceBEq,Int.reduceLT]
  refine A2 (by kernel_rfl) ?_
  simp only[go_sem,↓a1,↓a2]
  refine C6 hx (by simp only[go_sem]) ?_
  simp only[go_sem,↓a3,↓a4]
  exact A9 rfl (by simp)
 subst hw
 simp only[B6,B2,F3,Bk]at hl ⊢
 simp at hl
 have a1:Ah .add ([103,101,116,32]) (nm)=some (.str (103::101::116::32::nm)):=Ai (by simp;try omega) (by simp)
 have a2:Ah .add (103::101::116::32::nm) ([32])=some (.str (103::101::116::32::(nm++[32]))):=Ai (by simp;try omega) (by simp)
 have a3:Ah .add (103::101::116::32::(nm++[32])) (arg)=some (.str (103::101::116::32::(nm++32::arg))):=Ai (by simp;try omega) (by simp)
 have a4:Ah .add (103::101::116::32::(nm++32::arg)) ([59])=some (.str (103::101::116::32::(nm++32::(arg++[59])))):=Ai (by simp;try omega) (by simp)
 simp only[go_sem,Int.reduceBEq,Int.reduceLT,↓a1,↓a2,↓a3,↓a4]
 exact A9 rfl (by simp)
theorem J9(d:Nat)(x:Sp)(l:List Sp):Sp.txts d (x::l)=x.txt d++Sp.txts d l:=by rw[Sp.txts]
theorem Zq(z:Bool)(t d:Nat)(l:List Sp)(h:∀ s∈l,Fn TT PT 84 [.agg s.row,.int .i64 (d:Int)] (.str (s.txt d)))(hl:(Sp.txts d l).length<=100000000000000)(hll:l.length<=9223372036854775806):Fn TT PT 45 [SL z t (l.map Sp.row),.int .i64 (d:Int)] (.str (Sp.txts d l)):=by
 refine Bz T45 rfl ?_
 have hlm:(l.map Sp.row).length=l.length:=Cd ..
 simp only[go_sem]
 refine En (α:=Nat × List UInt8) (fun a=>l.length - a.1) (fun a=>[(0,SL z t (l.map Sp.row)),(1,.int .i64 (d:Int)),(5,.str a.2),(6,.int .i64 (a.1:Int))]) (fun _=>[]) (fun a=>a.1<=l.length/\a.2++Sp.txts d (l.drop a.1)=Sp.txts d l) ?_ (0,[]) ⟨Bj _,rfl⟩
 rintro⟨i,acc⟩ ⟨hi,hacc⟩ ih
 simp only at hi hacc ih
 refine Eo (by delta lp45_0;exact rfl) ?_
 rcases D7 i l.length with h' | h'
 ·obtain⟨x,hx,hd,hm⟩:=L4 h'
  rw[hd,J9]at hacc
  have hlen:=congrArg List.length hacc
  simp only[Al]at hlen
  have hr:=Qv x
  have ht:=Ayy x
  have a1:Ah .add acc (x.txt d)=some (.str (acc++x.txt d)):=Ai (by omega) rfl
  simp only[go_sem,hlm,Hs h',Ch,hx,hr,ht]
  refine Ax (h x hm) (by simp only[Ar,A3,Y3,Lm x,Akg]) ?_
  simp only[go_sem,↓a1,Cr (show i<9223372036854775807 by omega)]
  exact C5 (ih (i+1,acc++x.txt d) (by simp;omega) ⟨by simp;omega,by simp only;rw[Bl];exact hacc⟩) rfl
 ·obtain rfl:i=l.length:=by omega
  rw[E9 h',show Sp.txts d []=[] by rw[Sp.txts],Ds]at hacc
  rw[<-hacc]
  simp only[go_sem,hlm,Is h']
  exact E6 rfl
theorem M9(d:Nat)(s:Sp):s.txt d=Es d++(B6 s++if Bk s.op then 32::123::10::(Sp.txts (d+1) s.body++((if s.els.isEmpty then [] else Es d++125::32::101::108::115::101::32::123::10::Sp.txts (d+1) s.els)++(Es d++[125,10]))) else [59,10]):=by
 obtain⟨op,line,nm,arg,iz,it,idx,ex,bz,bt,body,ez,et,els⟩:=s
 rw[Sp.txt]
theorem V1(d:Nat):∀ {l:List Sp} {x:Sp},x∈l->(x.txt d).length<=(Sp.txts d l).length
 | y::l,x,h=>by
  rw[J9,Al]
  rcases Bm.1 h with rfl | h
  ·omega
  ·have:=V1 d h;omega
theorem Ql(l:List Sp)(d:Nat):l.length<=(Sp.txts d l).length:=by
 induction l with
 | nil=>simp
 | cons x l ih=>
  rw[J9,Al,M9]
  simp only[Al,Ag]
  split
  ·simp;omega
  ·simp;omega
theorem Aoi{s:Sp}(h:CnS s):∀ (d:Nat),(s.txt d).length<=100000000000000->Fn TT PT 84 [.agg s.row,.int .i64 (d:Int)] (.str (s.txt d)):=by
 induction h with
 | @mk s h1 h2 h3 h4 h5 h6 h7 h8 h9 ihb ihe=>
  intro d hl
  have hs:CnS s:=.mk h1 h2 h3 h4 h5 h6 h7 h8 h9
  rw[M9]at hl ⊢
  simp only[Al,Im]at hl
  have hh:=Aoh hs (by omega)
  have hi:=Ams d (by omega)
  have hset:=Lm s
  have hop:=h1
  generalize hH:B6 s=H at hl hh ⊢
  have g1:(s.op<1)=False:=eq_false (by omega)
  have g2:(15<s.op)=False:=eq_false (by omega)
  have mx:max (d:Int) 0=(d:Int):=by omega
  refine Bz T84 rfl ?_
  rw[Mz,Au]at hh hset ⊢
  simp only[Bg,Bf]at hh hset ⊢
  cases hb:Bk s.op
  ·have g3:(s.op<2)=True/\(s.op<2)=True\/(s.op<2)=False/\(8<s.op)=True:=by
    unfold Bk at hb
    by_cases hlt:s.op<2
    ·exact .inl ⟨eq_true hlt,eq_true hlt⟩
    ·refine .inr ⟨eq_false hlt,eq_true ?_⟩
     have:¬ s.op<=8:=fun h8=>by
      rw[decide_eq_true (by omega),decide_eq_true h8]at hb
      cases hb
     omega
   simp only[F3,hb]at hh
   have a1:Ah .add (Es d) (H++[59])=some (.str (Es d++(H++[59]))):=Ai (by simp[Im];omega) rfl
   have a2:Ah .add (Es d++(H++[59])) [10]=some (.str (Es d++(H++[59,10]))):=Ai (by simp[Im];omega) (by simp)
   rcases g3 with⟨g3,g4⟩ | ⟨g3,g4⟩
   all_goals
    simp only[go_sem,g1,g2,mx]
    refine Ax hi (by simp only[go_sem]) ?_
    simp only[go_sem]
    refine Ax hh (by simp only[go_sem]) ?_
    simp only[go_sem,↓a1,↓a2,g3,g4]
    exact A9 rfl (by simp)
  ·rw[hb]at hl
   rw[if_pos rfl]at hl ⊢
   simp only[Ag,Al,Im,Br]at hl
   have hle:=Ql s.body (d+1)
   have hbd:=Zq s.bz s.bt (d+1) s.body (fun x hx=>ihb x hx (d+1) (by have:=V1 (d+1) hx;omega)) (by omega) (by omega)
   have hle2:=Ql s.els (d+1)
   have g3:(s.op<2)=False/\(8<s.op)=False:=by
    unfold Bk at hb
    simp only[Ad,decide_eq_true_eq]at hb
    exact⟨eq_false (by omega),eq_false (by omega)⟩
   obtain⟨g3,g4⟩:=g3
   simp only[F3,hb,if_true]at hh
   have hil:=Im d
   have hinc:=Cr (show d<9223372036854775807 by omega)
   have hbn:(s.body.map Sp.row).length=s.body.length:=Cd ..
   have hen:(s.els.map Sp.row).length=s.els.length:=Cd ..
   generalize hT:Es d=T at hl hi hil ⊢
   generalize hBB:Sp.txts (d+1) s.body=B at hl hbd hle ⊢
   have a1:Ah .add T (H++[32,123])=some (.str (T++(H++[32,123]))):=Ai (by simp;omega) rfl
   have a2:Ah .add (T++(H++[32,123])) [10]=some (.str (T++(H++[32,123,10]))):=Ai (by simp;omega) (by simp)
   have a3:Ah .add (T++(H++[32,123,10])) B=some (.str (T++(H++32::123::10::B))):=Ai (by simp;omega) (by simp)
   have a4:Ah .add (T++(H++32::123::10::B)) T=some (.str (T++(H++32::123::10::(B++T)))):=Ai (by simp;omega) (by simp)
   cases hels:s.els with
   | nil=>
    rw[hels]at hl hen hh
    simp only[Be]at hh
    have e0:((0:Int)<((([]:List Sp).map Sp.row).length:Int))=False:=eq_false (by simp)
    have a5:Ah .add (T++(H++32::123::10::(B++T))) [125,10]=some (.str (T++(H++32::123::10::(B++(T++[125,10]))))):=Ai (by simp;omega) (by simp)
    simp only[go_sem,g1,g2,mx]
    refine Ax hi (by simp only[go_sem]) ?_
    simp only[go_sem]
    refine Ax hh (by simp only[go_sem]) ?_
    simp only[go_sem,↓a1,↓a2,g3,g4,hinc]
    refine Ax hbd (by simp only[go_sem]) ?_
    simp only[go_sem,↓a3,Int.reduceLT,↓a4,↓a5]
    exact A9 rfl (by simp)
   | cons y ys=>
    rw[hels]at hl hen hle2 hh
    simp only[Ao]at hh
    have hed:=Zq s.ez s.et (d+1) (y::ys) (fun x hx=>ihe x (by rw[hels];exact hx) (d+1) (by have:=V1 (d+1) hx;simp at hl;omega)) (by simp at hl;omega) (by simp at hl;omega)
    simp only[Ao]at hed
    have e0:((0:Int)<((ys.length+1:Nat):Int))=True:=eq_true (by omega)
    generalize hEE:Sp.txts (d+1) (y::ys)=E at hl hed hle2 ⊢
    simp only[List.isEmpty_cons,Dr,if_false,Al,Ag]at hl
    have a5:Ah .add (T++(H++32::123::10::(B++T))) [125,32,101,108,115,101,32,123,10]=some (.str (T++(H++32::123::10::(B++(T++[125,32,101,108,115,101,32,123,10]))))):=Ai (by simp;omega) (by simp)
    have a6:Ah .add (T++(H++32::123::10::(B++(T++[125,32,101,108,115,101,32,123,10])))) E=some (.str (T++(H++32::123::10::(B++(T++125::32::101::108::115::101::32::123::10::E))))):=Ai (by simp;omega) (by simp)
    have a7:Ah .add (T++(H++32::123::10::(B++(T++125::32::101::108::115::101::32::123::10::E)))) T=some (.str (T++(H++32::123::10::(B++(T++125::32::101::108::115::101::32::123::10::(E++T)))))):=Ai (by simp;omega) (by simp)
    have a8:Ah .add (T++(H++32::123::10::(B++(T++125::32::101::108::115::101::32::123::10::(E++T))))) [125,10]=some (.str (T++(H++32::123::10::(B++(T++125::32::101::108::115::101::32::123::10::(E++(T++[125,10]))))))):=Ai (by simp;omega) (by simp)
    simp only[go_sem,g1,g2,mx]
    refine Ax hi (by simp only[go_sem]) ?_
    simp only[go_sem]
    refine Ax hh (by simp only[go_sem]) ?_
    simp only[go_sem,↓a1,↓a2,g3,g4,hinc]
    refine Ax hbd (by simp only[go_sem]) ?_
    simp only[go_sem,↓a3,Cd,e0,↓a4,↓a5,hinc]
    refine Ax hed (by simp only[go_sem,Ao]) ?_
    simp only[go_sem,↓a6,↓a7,↓a8]
    exact A9 rfl (by simp)
end Go.Proofs.YtlehfgdhebapeaaGreatDoor.KM
