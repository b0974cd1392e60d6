/- Walks: the reference's texts of statements. -/
import Derived.Test.YtcoeikinocflnaaGreatDoorGb
set_option linter.all false
namespace Go.Proofs.YtcoeikinocflnaaGreatDoor.KM
open Go
theorem Wv(s:Sp):s.row.length=11:=by rw[Qv,A9];rfl
theorem Jb(s:Sp):Dj (.agg s.row)=true:=by
 rw[Qv,A9]
 simp only[go_sem]
theorem A1c(s:Sp):s.row.take 11=s.row:=Of (by rw[Wv];omega)
theorem Anx(d:Nat)(hd:d<=100000000000000):Fn TT PT 126 [.int .i64 (d:Int)] (.str (Di d)):=by
 refine Ch T126 rfl ?_
 simp only[go_sem]
 refine Cr (α:=Nat) (fun i=>d - i) (fun i=>[(0,.int .i64 (d:Int)),(3,.str (Di i)),(4,.int .i64 (i:Int))]) (fun _=>[]) (fun i=>i<=d) ?_ 0 (A5 _)
 rintro i hi ih
 refine Ct (by delta lp126_0;exact rfl) ?_
 rcases B3 i d with h | h
 ·have a1:Ao .add (Di i) [32,32]=some (.str (Di (i+1))):=As (by simp[Di];omega) (by
   unfold Di
   rw[show 2*(i+1)=2*i+2 by omega,<-List.replicate_append_replicate]
   rfl)
  simp only[go_sem,Cb h,↓a1,Bq (show i<9223372036854775807 by omega)]
  exact Bd (ih (i+1) (by omega) (by omega)) rfl
 ·obtain rfl:i=d:=by omega
  simp only[go_sem,D5 h]
  exact H0 rfl
theorem I1(d:Nat):(Di d).length=2*d:=by simp[Di]
def Fp(op:Int):List UInt8:=if A8 op then [32,123] else [59]
theorem Ap7(l:List Xp):(El l).length<=(match l with | a::_=>a.txt.length+2 | []=>0):=by
 cases l<;>simp[El]
theorem Ap8{s:Sp}(h:CnS s)(hl:(Bv s).length<=100000000000000):Fn TT PT 127 [.agg s.row] (.str (Bv s++Fp s.op)):=by
 obtain⟨h1,h2,h3,h4,h5,-,-,-,-⟩:=h
 obtain⟨op,line,nm,arg,iz,it,idx,ex,bz,bt,body,ez,et,els⟩:=s
 simp only at h1 h2 h3 h4 h5 hl ⊢
 rw[Qv]
 simp only
 have hw:op=1\/op=2\/op=3\/op=4\/op=5\/op=6\/op=7\/op=8\/op=9\/op=10\/op=11\/op=12\/op=13\/op=14\/op=15:=by omega
 refine Ch T127 rfl ?_
 rw[A9]
 rcases hw with rfl | hw
 ·have hx:=Ta (h5 (.inl rfl))
  simp only[Bv,if_true,Aj,Af]at hl ⊢
  have hx:=hx (by omega)
  rw[A9]at hx
  cases idx with
  | nil=>
   simp only[El,Cf]at hl ⊢
   have a1:Ao .add nm []=some (.str nm):=As (by simp;omega) (by simp)
   have a2:Ao .add nm [32,61,32]=some (.str (nm++[32,61,32])):=As (by simp;omega) rfl
   have a3:Ao .add (nm++[32,61,32]) ex.txt=some (.str (nm++32::61::32::ex.txt)):=As (by simp;omega) (by simp)
   have a4:Ao .add (nm++32::61::32::ex.txt) [59]=some (.str (nm++32::61::32::(ex.txt++[59]))):=As (by simp;omega) (by simp)
   simp only[go_sem,Int.reduceBEq,Int.reduceLT]
   refine Ax (by kernel_rfl) ?_
   simp only[go_sem,↓a1,↓a2]
   refine Cm hx (by simp only[go_sem]) ?_
   simp only[go_sem,↓a3,↓a4]
   exact B0 rfl (by simp[Fp,A8])
  | cons a r=>
   have ha:=Ta (h4 a Dm)
   simp only[El,Af,Aj]at hl ⊢
   have ha:=ha (by omega)
   rw[A9]at ha
   have r0:r=[]:=by simpa using h2
   subst r0
   have a1:Ao .add [91] a.txt=some (.str (91::a.txt)):=As (by simp;omega) rfl
   have a2:Ao .add (91::a.txt) [93]=some (.str (91::(a.txt++[93]))):=As (by simp;omega) (by simp)
   have a3:Ao .add nm (91::(a.txt++[93]))=some (.str (nm++91::(a.txt++[93]))):=As (by simp;omega) rfl
   have a4:Ao .add (nm++91::(a.txt++[93])) [32,61,32]=some (.str (nm++91::(a.txt++[93,32,61,32]))):=As (by simp;omega) (by simp)
   have a5:Ao .add (nm++91::(a.txt++[93,32,61,32])) ex.txt=some (.str (nm++91::(a.txt++93::32::61::32::ex.txt))):=As (by simp;omega) (by simp)
   have a6:Ao .add (nm++91::(a.txt++93::32::61::32::ex.txt)) [59]=some (.str (nm++91::(a.txt++93::32::61::32::(ex.txt++[59])))):=As (by simp;omega) (by simp)
   simp only[A1,Cy]
   rw[A9 a]
   simp only[go_sem,Int.reduceBEq,Int.reduceLT]
   refine An ha (by simp only[go_sem]) ?_
   simp only[go_sem,↓a1,↓a2]
   refine Ax (by kernel_rfl) ?_
   simp only[go_sem,↓a3,↓a4]
   refine Cm hx (by simp only[go_sem]) ?_
   simp only[go_sem,↓a5,↓a6]
   exact B0 rfl (by simp[Fp,A8])
 rcases hw with rfl | hw
 ·simp only[Bv,Bt,Fp,A8]at hl ⊢
  simp at hl
  have hx:=Ta (h5 (by omega)) (by omega)
  rw[A9]at hx
  have a1:Ao .add ([105,102,32]) (ex.txt)=some (.str (105::102::32::ex.txt)):=As (by simp;try omega) (by simp)
  have a2:Ao .add (105::102::32::ex.txt) ([32,123])=some (.str (105::102::32::(ex.txt++[32,123]))):=As (by simp;try omega) (by simp)
  simp only[go_sem,Int.reduceBEq,Int.reduceLT]
  refine An hx (by simp only[go_sem]) ?_
  simp only[go_sem,↓a1,↓a2]
  exact B0 rfl (by simp)
 rcases hw with rfl | hw
 ·simp only[Bv,Bt,Fp,A8]at hl ⊢
  simp at hl
  have hx:=Ta (h5 (by omega)) (by omega)
  rw[A9]at hx
  have a1:Ao .add ([119,104,105,108,101,32]) (ex.txt)=some (.str (119::104::105::108::101::32::ex.txt)):=As (by simp;try omega) (by simp)
  have a2:Ao .add (119::104::105::108::101::32::ex.txt) ([32,123])=some (.str (119::104::105::108::101::32::(ex.txt++[32,123]))):=As (by simp;try omega) (by simp)
  simp only[go_sem,Int.reduceBEq,Int.reduceLT]
  refine An hx (by simp only[go_sem]) ?_
  simp only[go_sem,↓a1,↓a2]
  exact B0 rfl (by simp)
 rcases hw with rfl | hw
 ·simp only[Bv,Bt,Fp,A8]at hl ⊢
  simp at hl
  have a1:Ao .add ([108,111,99,107,32]) (nm)=some (.str (108::111::99::107::32::nm)):=As (by simp;try omega) (by simp)
  have a2:Ao .add (108::111::99::107::32::nm) ([32,123])=some (.str (108::111::99::107::32::(nm++[32,123]))):=As (by simp;try omega) (by simp)
  simp only[go_sem,Int.reduceBEq,Int.reduceLT,↓a1,↓a2]
  exact B0 rfl (by simp)
 rcases hw with rfl | hw
 ·simp only[Bv,Bt,Fp,A8]at hl ⊢
  simp at hl
  have a1:Ao .add ([114,101,97,100,32]) (nm)=some (.str (114::101::97::100::32::nm)):=As (by simp;try omega) (by simp)
  have a2:Ao .add (114::101::97::100::32::nm) ([32,123])=some (.str (114::101::97::100::32::(nm++[32,123]))):=As (by simp;try omega) (by simp)
  simp only[go_sem,Int.reduceBEq,Int.reduceLT,↓a1,↓a2]
  exact B0 rfl (by simp)
 rcases hw with rfl | hw
 ·simp only[Bv,Bt,Fp,A8]at hl ⊢
  simp at hl
  have a1:Ao .add ([119,114,105,116,101,32]) (nm)=some (.str (119::114::105::116::101::32::nm)):=As (by simp;try omega) (by simp)
  have a2:Ao .add (119::114::105::116::101::32::nm) ([32,123])=some (.str (119::114::105::116::101::32::(nm++[32,123]))):=As (by simp;try omega) (by simp)
  simp only[go_sem,Int.reduceBEq,Int.reduceLT,↓a1,↓a2]
  exact B0 rfl (by simp)
 rcases hw with rfl | hw
 ·simp only[Bv,Bt,Fp,A8]at hl ⊢
  simp at hl
  simp only[go_sem,Int.reduceBEq,Int.reduceLT]
  exact B0 rfl (by simp)
 rcases hw with rfl | hw
 ·simp only[Bv,Bt,Fp,A8]at hl ⊢
  simp at hl
  simp only[go_sem,Int.reduceBEq,Int.reduceLT]
  exact B0 rfl (by simp)
 rcases hw with rfl | hw
 ·simp only[Bv,Bt,Fp,A8]at hl ⊢
  simp at hl
  have a1:Ao .add ([119,97,105,116,32]) (nm)=some (.str (119::97::105::116::32::nm)):=As (by simp;try omega) (by simp)
  have a2:Ao .add (119::97::105::116::32::nm) ([59])=some (.str (119::97::105::116::32::(nm++[59]))):=As (by simp;try omega) (by simp)
  simp only[go_sem,Int.reduceBEq,Int.reduceLT,↓a1,↓a2]
  exact B0 rfl (by simp)
 rcases hw with rfl | hw
 ·simp only[Bv,Bt,Fp,A8]at hl ⊢
  simp at hl
  have a1:Ao .add ([110,111,116,105,102,121,32]) (nm)=some (.str (110::111::116::105::102::121::32::nm)):=As (by simp;try omega) (by simp)
  have a2:Ao .add (110::111::116::105::102::121::32::nm) ([59])=some (.str (110::111::116::105::102::121::32::(nm++[59]))):=As (by simp;try omega) (by simp)
  simp only[go_sem,Int.reduceBEq,Int.reduceLT,↓a1,↓a2]
  exact B0 rfl (by simp)
 rcases hw with rfl | hw
 ·simp only[Bv,Bt,Fp,A8]at hl ⊢
  simp at hl
  have a1:Ao .add ([110,111,116,105,102,121,97,108,108,32]) (nm)=some (.str (110::111::116::105::102::121::97::108::108::32::nm)):=As (by simp;try omega) (by simp)
  have a2:Ao .add (110::111::116::105::102::121::97::108::108::32::nm) ([59])=some (.str (110::111::116::105::102::121::97::108::108::32::(nm++[59]))):=As (by simp;try omega) (by simp)
  simp only[go_sem,Int.reduceBEq,Int.reduceLT,↓a1,↓a2]
  exact B0 rfl (by simp)
 rcases hw with rfl | hw
 ·simp only[Bv,Bt,Fp,A8]at hl ⊢
  simp at hl
  have a1:Ao .add ([115,112,97,119,110,32]) (nm)=some (.str (115::112::97::119::110::32::nm)):=As (by simp;try omega) (by simp)
  have a2:Ao .add (115::112::97::119::110::32::nm) ([59])=some (.str (115::112::97::119::110::32::(nm++[59]))):=As (by simp;try omega) (by simp)
  simp only[go_sem,Int.reduceBEq,Int.reduceLT,↓a1,↓a2]
  exact B0 rfl (by simp)
 rcases hw with rfl | hw
 ·simp only[Bv,Bt,Fp,A8]at hl ⊢
  simp at hl
  have a1:Ao .add ([106,111,105,110,32]) (nm)=some (.str (106::111::105::110::32::nm)):=As (by simp;try omega) (by simp)
  have a2:Ao .add (106::111::105::110::32::nm) ([59])=some (.str (106::111::105::110::32::(nm++[59]))):=As (by simp;try omega) (by simp)
  simp only[go_sem,Int.reduceBEq,Int.reduceLT,↓a1,↓a2]
  exact B0 rfl (by simp)
 rcases hw with rfl | hw
 ·simp only[Bv,Bt,Fp,A8]at hl ⊢
  simp at hl
  have hx:=Ta (h5 (by omega)) (by omega)
  rw[A9]at hx
  have a1:Ao .add ([115,101,116,32]) (nm)=some (.str (115::101::116::32::nm)):=As (by simp;try omega) (by simp)
  have a2:Ao .add (115::101::116::32::nm) ([32])=some (.str (115::101::116::32::(nm++[32]))):=As (by simp;try omega) (by simp)
  have a3:Ao .add (115::101::116::32::(nm++[32])) (ex.txt)=some (.str (115::101::116::32::(nm++32::ex.txt))):=As (by simp;try omega) (by simp)
  have a4:Ao .add (115::101::116::32::(nm++32::ex.txt)) ([59])=some (.str (115::101::116::32::(nm++32::(ex.txt++[59])))):=As (by simp;try omega) (by simp)
  simp only[go_sem,Int.reduceBEq,Int.reduceLT]
  refine Ax (by kernel_rfl) ?_
  simp only[go_sem,↓a1,↓a2]
  refine Cm hx (by simp only[go_sem]) ?_
  simp only[go_sem,↓a3,↓a4]
  exact B0 rfl (by simp)
 subst hw
 simp only[Bv,Bt,Fp,A8]at hl ⊢
 simp at hl
 have a1:Ao .add ([103,101,116,32]) (nm)=some (.str (103::101::116::32::nm)):=As (by simp;try omega) (by simp)
 have a2:Ao .add (103::101::116::32::nm) ([32])=some (.str (103::101::116::32::(nm++[32]))):=As (by simp;try omega) (by simp)
 have a3:Ao .add (103::101::116::32::(nm++[32])) (arg)=some (.str (103::101::116::32::(nm++32::arg))):=As (by simp;try omega) (by simp)
 have a4:Ao .add (103::101::116::32::(nm++32::arg)) ([59])=some (.str (103::101::116::32::(nm++32::(arg++[59])))):=As (by simp;try omega) (by simp)
 simp only[go_sem,Int.reduceBEq,Int.reduceLT,↓a1,↓a2,↓a3,↓a4]
 exact B0 rfl (by simp)
theorem J5(d:Nat)(x:Sp)(l:List Sp):Sp.txts d (x::l)=x.txt d++Sp.txts d l:=by rw[Sp.txts]
theorem Afs(z:Bool)(t d:Nat)(l:List Sp)(h:∀ s∈l,Fn TT PT 91 [.agg s.row,.int .i64 (d:Int)] (.str (s.txt d)))(hl:(Sp.txts d l).length<=100000000000000)(hll:l.length<=9223372036854775806):Fn TT PT 49 [SL z t (l.map Sp.row),.int .i64 (d:Int)] (.str (Sp.txts d l)):=by
 refine Ch T49 rfl ?_
 have hlm:(l.map Sp.row).length=l.length:=Bg ..
 simp only[go_sem]
 refine Cr (α:=Nat × List UInt8) (fun a=>l.length - a.1) (fun a=>[(0,SL z t (l.map Sp.row)),(1,.int .i64 (d:Int)),(5,.str a.2),(6,.int .i64 (a.1:Int))]) (fun _=>[]) (fun a=>a.1<=l.length/\a.2++Sp.txts d (l.drop a.1)=Sp.txts d l) ?_ (0,[]) ⟨A5 _,rfl⟩
 rintro⟨i,acc⟩ ⟨hi,hacc⟩ ih
 simp only at hi hacc ih
 refine Ct (by delta lp49_0;exact rfl) ?_
 rcases B3 i l.length with h' | h'
 ·obtain⟨x,hx,hd,hm⟩:=Eu h'
  rw[hd,J5]at hacc
  have hlen:=congrArg List.length hacc
  simp only[Aj]at hlen
  have hr:=Wv x
  have ht:=A1c x
  have a1:Ao .add acc (x.txt d)=some (.str (acc++x.txt d)):=As (by omega) rfl
  simp only[go_sem,hlm,Cb h',A7,hx,hr,ht]
  refine An (h x hm) (by simp only[Am,Av,Y6,Jb x,Ak9]) ?_
  simp only[go_sem,↓a1,Bq (show i<9223372036854775807 by omega)]
  exact Bd (ih (i+1,acc++x.txt d) (by simp;omega) ⟨by simp;omega,by simp only;rw[Bz];exact hacc⟩) rfl
 ·obtain rfl:i=l.length:=by omega
  rw[J1 h',show Sp.txts d []=[] by rw[Sp.txts],Cx]at hacc
  rw[<-hacc]
  simp only[go_sem,hlm,D5 h']
  exact H0 rfl
theorem Ig(d:Nat)(s:Sp):s.txt d=Di d++(Bv s++if A8 s.op then 32::123::10::(Sp.txts (d+1) s.body++((if s.els.isEmpty then [] else Di d++125::32::101::108::115::101::32::123::10::Sp.txts (d+1) s.els)++(Di d++[125,10]))) else [59,10]):=by
 obtain⟨op,line,nm,arg,iz,it,idx,ex,bz,bt,body,ez,et,els⟩:=s
 rw[Sp.txt]
theorem Wg(d:Nat):∀ {l:List Sp} {x:Sp},x∈l->(x.txt d).length<=(Sp.txts d l).length
 | y::l,x,h=>by
  rw[J5,Aj]
  rcases Br.1 h with rfl | h
  ·omega
  ·have:=Wg d h;omega
theorem V6(l:List Sp)(d:Nat):l.length<=(Sp.txts d l).length:=by
 induction l with
 | nil=>simp
 | cons x l ih=>
  rw[J5,Aj,Ig]
  simp only[Aj,Af]
  split
  ·simp;omega
  ·simp;omega
theorem Anz{s:Sp}(h:CnS s):∀ (d:Nat) (D:Int),max D 0=(d:Int)->(s.txt d).length<=100000000000000->Fn TT PT 91 [.agg s.row,.int .i64 D] (.str (s.txt d)):=by
 induction h with
 | @mk s h1 h2 h3 h4 h5 h6 h7 h8 h9 ihb ihe=>
  intro d D mx hl
  have hs:CnS s:=.mk h1 h2 h3 h4 h5 h6 h7 h8 h9
  rw[Ig]at hl ⊢
  simp only[Aj,I1]at hl
  have hh:=Ap8 hs (by omega)
  have hi:=Anx d (by omega)
  have hset:=Jb s
  have hop:=h1
  generalize hH:Bv s=H at hl hh ⊢
  have g1:(s.op<1)=False:=eq_false (by omega)
  have g2:(15<s.op)=False:=eq_false (by omega)
  refine Ch T91 rfl ?_
  rw[Qv,A9]at hh hset ⊢
  simp only[Cq,Bw]at hh hset ⊢
  cases hb:A8 s.op
  ·have g3:(s.op<2)=True/\(s.op<2)=True\/(s.op<2)=False/\(8<s.op)=True:=by
    unfold A8 at hb
    by_cases hlt:s.op<2
    ·exact .inl ⟨eq_true hlt,eq_true hlt⟩
    ·refine .inr ⟨eq_false hlt,eq_true ?_⟩
     have:¬ s.op<=8:=fun h8=>by
      rw[decide_eq_true (by omega),decide_eq_true h8]at hb
      cases hb
     omega
   simp only[Fp,hb]at hh
   have a1:Ao .add (Di d) (H++[59])=some (.str (Di d++(H++[59]))):=As (by simp[I1];omega) rfl
   have a2:Ao .add (Di d++(H++[59])) [10]=some (.str (Di d++(H++[59,10]))):=As (by simp[I1];omega) (by simp)
   rcases g3 with⟨g3,g4⟩ | ⟨g3,g4⟩
   all_goals
    simp only[go_sem,g1,g2,mx]
    refine An hi (by simp only[go_sem]) ?_
    simp only[go_sem]
    refine An hh (by simp only[go_sem]) ?_
    simp only[go_sem,↓a1,↓a2,g3,g4]
    exact B0 rfl (by simp)
  ·rw[hb]at hl
   rw[if_pos rfl]at hl ⊢
   simp only[Af,Aj,I1,Cf]at hl
   have hle:=V6 s.body (d+1)
   have hbd:=Afs s.bz s.bt (d+1) s.body (fun x hx=>ihb x hx (d+1) _ (by omega) (by have:=Wg (d+1) hx;omega)) (by omega) (by omega)
   have hle2:=V6 s.els (d+1)
   have g3:(s.op<2)=False/\(8<s.op)=False:=by
    unfold A8 at hb
    simp only[Ae,decide_eq_true_eq]at hb
    exact⟨eq_false (by omega),eq_false (by omega)⟩
   obtain⟨g3,g4⟩:=g3
   simp only[Fp,hb,if_true]at hh
   have hil:=I1 d
   have hinc:=Bq (show d<9223372036854775807 by omega)
   have hbn:(s.body.map Sp.row).length=s.body.length:=Bg ..
   have hen:(s.els.map Sp.row).length=s.els.length:=Bg ..
   generalize hT:Di d=T at hl hi hil ⊢
   generalize hBB:Sp.txts (d+1) s.body=B at hl hbd hle ⊢
   have a1:Ao .add T (H++[32,123])=some (.str (T++(H++[32,123]))):=As (by simp;omega) rfl
   have a2:Ao .add (T++(H++[32,123])) [10]=some (.str (T++(H++[32,123,10]))):=As (by simp;omega) (by simp)
   have a3:Ao .add (T++(H++[32,123,10])) B=some (.str (T++(H++32::123::10::B))):=As (by simp;omega) (by simp)
   have a4:Ao .add (T++(H++32::123::10::B)) T=some (.str (T++(H++32::123::10::(B++T)))):=As (by simp;omega) (by simp)
   cases hels:s.els with
   | nil=>
    rw[hels]at hl hen hh
    simp only[Cy]at hh
    have e0:((0:Int)<((([]:List Sp).map Sp.row).length:Int))=False:=eq_false (by simp)
    have a5:Ao .add (T++(H++32::123::10::(B++T))) [125,10]=some (.str (T++(H++32::123::10::(B++(T++[125,10]))))):=As (by simp;omega) (by simp)
    simp only[go_sem,g1,g2,mx]
    refine An hi (by simp only[go_sem]) ?_
    simp only[go_sem]
    refine An hh (by simp only[go_sem]) ?_
    simp only[go_sem,↓a1,↓a2,g3,g4,hinc]
    refine An hbd (by simp only[go_sem]) ?_
    simp only[go_sem,↓a3,Int.reduceLT,↓a4,↓a5]
    exact B0 rfl (by simp)
   | cons y ys=>
    rw[hels]at hl hen hle2 hh
    simp only[A1]at hh
    have hed:=Afs s.ez s.et (d+1) (y::ys) (fun x hx=>ihe x (by rw[hels];exact hx) (d+1) _ (by omega) (by have:=Wg (d+1) hx;simp at hl;omega)) (by simp at hl;omega) (by simp at hl;omega)
    simp only[A1]at hed
    have e0:((0:Int)<((ys.length+1:Nat):Int))=True:=eq_true (by omega)
    generalize hEE:Sp.txts (d+1) (y::ys)=E at hl hed hle2 ⊢
    simp only[List.isEmpty_cons,Eh,if_false,Aj,Af]at hl
    have a5:Ao .add (T++(H++32::123::10::(B++T))) [125,32,101,108,115,101,32,123,10]=some (.str (T++(H++32::123::10::(B++(T++[125,32,101,108,115,101,32,123,10]))))):=As (by simp;omega) (by simp)
    have a6:Ao .add (T++(H++32::123::10::(B++(T++[125,32,101,108,115,101,32,123,10])))) E=some (.str (T++(H++32::123::10::(B++(T++125::32::101::108::115::101::32::123::10::E))))):=As (by simp;omega) (by simp)
    have a7:Ao .add (T++(H++32::123::10::(B++(T++125::32::101::108::115::101::32::123::10::E)))) T=some (.str (T++(H++32::123::10::(B++(T++125::32::101::108::115::101::32::123::10::(E++T)))))):=As (by simp;omega) (by simp)
    have a8:Ao .add (T++(H++32::123::10::(B++(T++125::32::101::108::115::101::32::123::10::(E++T))))) [125,10]=some (.str (T++(H++32::123::10::(B++(T++125::32::101::108::115::101::32::123::10::(E++(T++[125,10]))))))):=As (by simp;omega) (by simp)
    simp only[go_sem,g1,g2,mx]
    refine An hi (by simp only[go_sem]) ?_
    simp only[go_sem]
    refine An hh (by simp only[go_sem]) ?_
    simp only[go_sem,↓a1,↓a2,g3,g4,hinc]
    refine An hbd (by simp only[go_sem]) ?_
    simp only[go_sem,↓a3,Bg,e0,↓a4,↓a5,hinc]
    refine An hed (by simp only[go_sem,A1]) ?_
    simp only[go_sem,↓a6,↓a7,↓a8]
    exact B0 rfl (by simp)
theorem Ap9{s:Sp}(h:CnS s)(d:Nat)(hl:(s.txt d).length<=100000000000000):Fn TT PT 91 [.agg s.row,.int .i64 (d:Int)] (.str (s.txt d)):=Anz h d _ (by omega) hl
end Go.Proofs.YtcoeikinocflnaaGreatDoor.KM
