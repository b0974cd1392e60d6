/- Walks: the reference's texts of statements. -/
import Derived.Test.YtphikjgngompaabGreatDoorLd
set_option linter.all false
namespace Go.Proofs.YtphikjgngompaabGreatDoor.KM
open Go
def A9k(x:Xp):x.row.length=4:=by simp[Bi]
theorem O3(s:Sp):s.row.length=11:=by simp[Sz,Bi]
def Hc(s:Sp):Da (.agg s.row)=true:=by
 rw[Sz,Bi];simp only[go_sem]
def Bqh(s:Sp):s.row.take 11=s.row:=Ic (by grind[O3])
def A53(d:Nat)(hd:d<=100000000000000):Fn TT PT 104 [iV (d:Int)] (.str (Ee d)):=by
 refine Bg T104 rfl ?_;simp only[go_sem];refine Bk (α:=Nat) (fun i=>d - i) (fun i=>[(0,iV (d:Int)),(3,.str (Ee i)),(4,iV (i:Int))]) (fun _=>[]) (fun i=>i<=d) ?_ 0 (Ax _);rintro i hi ih;refine Bd Bjy ?_;rcases Bh i d with h | h
 .have a1:Al .add (Ee i) [32,32]=some (.str (Ee (i+1))):=Ap (by grind[Ee]) (by
   grind[Ee,List.replicate_append_replicate])
  simp only[go_sem,Az h,↓a1,A2 (show i<9223372036854775807 by omega)];exact Av (ih (i+1) AA AA) rfl
 .obtain rfl:i=d:=by omega
  simp only[go_sem,Bl h];exact Fw rfl
theorem Lk(d:Nat):(Ee d).length=2*d:=by simp[Ee]
def Il(op:Int):List UInt8:=if Bv op then [32,123] else [59]
theorem Akp(l:List Xp):(E6 l).length<=(match l with | a::_=>a.txt.length+2 | []=>0):=by
 grind[E6]
def A9l{s:Sp}(h:CnS s)(hl:(Cp s).length<=100000000000000):Fn TT PT 105 [.agg s.row] (.str (Cp s++Il s.op)):=by
 obtain⟨h1,h2,h3,h4,h5,-,-,-,-⟩:=h;obtain⟨op,line,nm,arg,iz,it,idx,ex,bz,bt,body,ez,et,els⟩:=s;simp only at h1 h2 h3 h4 h5 hl ⊢;rw[Sz];simp only;have hw:op=1\/op=2\/op=3\/op=4\/op=5\/op=6\/op=7\/op=8\/op=9\/op=10\/op=11\/op=12\/op=13\/op=14\/op=15:=by omega
 refine Bg T105 rfl ?_;rw[Bi];rcases hw with rfl | hw
 .have hx:=Aac (h5 (.inl rfl));simp only[Cp,if_true,Aq,An]at hl ⊢;have hx:=hx AA;rw[Bi]at hx
  cases idx with
  | nil=>
   simp only[E6,Dc]at hl ⊢;have a1:Al .add nm []=some (.str nm):=Ap AA AE;have a2:Al .add nm [32,61,32]=some (.str (nm++[32,61,32])):=Ap (by grind) rfl;have a3:Al .add (nm++[32,61,32]) ex.txt=some (.str (nm++32::61::32::ex.txt)):=Ap (by grind) AE;have a4:Al .add (nm++32::61::32::ex.txt) [59]=some (.str (nm++32::61::32::(ex.txt++[59]))):=Ap (by grind) AE;simp only[go_sem,Int.reduceBEq,Int.reduceLT];refine Af AD ?_;simp only[go_sem,↓a1,↓a2];refine Bf hx AB ?_;simp only[go_sem,↓a3,↓a4];exact Ah rfl (by simp[Il,Bv])
  | cons a r=>
   have ha:=Aac (h4 a B4);simp only[E6,An,Aq]at hl ⊢;have ha:=ha AA;rw[Bi]at ha;have r0:r=[]:=by simpa using h2
   subst r0;have a1:Al .add [91] a.txt=some (.str (91::a.txt)):=Ap (by grind) rfl;have a2:Al .add (91::a.txt) [93]=some (.str (91::(a.txt++[93]))):=Ap (by grind) AE;have a3:Al .add nm (91::(a.txt++[93]))=some (.str (nm++91::(a.txt++[93]))):=Ap (by grind) rfl;have a4:Al .add (nm++91::(a.txt++[93])) [32,61,32]=some (.str (nm++91::(a.txt++[93,32,61,32]))):=Ap (by grind) AE;have a5:Al .add (nm++91::(a.txt++[93,32,61,32])) ex.txt=some (.str (nm++91::(a.txt++93::32::61::32::ex.txt))):=Ap (by grind) AE;have a6:Al .add (nm++91::(a.txt++93::32::61::32::ex.txt)) [59]=some (.str (nm++91::(a.txt++93::32::61::32::(ex.txt++[59])))):=Ap (by grind) AE;simp only[Aw,B0];rw[Bi a];simp only[go_sem,Int.reduceBEq,Int.reduceLT];refine Ab ha AB ?_;simp only[go_sem,↓a1,↓a2];refine Af AD ?_;simp only[go_sem,↓a3,↓a4];refine Bf hx AB ?_;simp only[go_sem,↓a5,↓a6];exact Ah rfl (by simp[Il,Bv])
 rcases hw with rfl | hw
 .simp only[Cp,Co,Il,Bv]at hl ⊢;simp at hl;have hx:=Aac (h5 AA) AA;rw[Bi]at hx;have a1:Al .add ([105,102,32]) (ex.txt)=some (.str (105::102::32::ex.txt)):=Ap (by grind) AE;have a2:Al .add (105::102::32::ex.txt) ([32,123])=some (.str (105::102::32::(ex.txt++[32,123]))):=Ap (by grind) AE;simp only[go_sem,Int.reduceBEq,Int.reduceLT];refine Ab hx AB ?_;simp only[go_sem,↓a1,↓a2];exact Ah rfl AE
 rcases hw with rfl | hw
 .simp only[Cp,Co,Il,Bv]at hl ⊢;simp at hl;have hx:=Aac (h5 AA) AA;rw[Bi]at hx;have a1:Al .add ([119,104,105,108,101,32]) (ex.txt)=some (.str (119::104::105::108::101::32::ex.txt)):=Ap AJ AE;have a2:Al .add (119::104::105::108::101::32::ex.txt) ([32,123])=some (.str (119::104::105::108::101::32::(ex.txt++[32,123]))):=Ap AJ AE;simp only[go_sem,Int.reduceBEq,Int.reduceLT];refine Ab hx AB ?_;simp only[go_sem,↓a1,↓a2];exact Ah rfl AE
 rcases hw with rfl | hw
 .simp only[Cp,Co,Il,Bv]at hl ⊢;simp at hl;have a1:Al .add ([108,111,99,107,32]) (nm)=some (.str (108::111::99::107::32::nm)):=Ap AJ AE;have a2:Al .add (108::111::99::107::32::nm) ([32,123])=some (.str (108::111::99::107::32::(nm++[32,123]))):=Ap (by grind) AE;simp only[go_sem,Int.reduceBEq,Int.reduceLT,↓a1,↓a2];exact Ah rfl AE
 rcases hw with rfl | hw
 .simp only[Cp,Co,Il,Bv]at hl ⊢;simp at hl;have a1:Al .add ([114,101,97,100,32]) (nm)=some (.str (114::101::97::100::32::nm)):=Ap AJ AE;have a2:Al .add (114::101::97::100::32::nm) ([32,123])=some (.str (114::101::97::100::32::(nm++[32,123]))):=Ap (by grind) AE;simp only[go_sem,Int.reduceBEq,Int.reduceLT,↓a1,↓a2];exact Ah rfl AE
 rcases hw with rfl | hw
 .simp only[Cp,Co,Il,Bv]at hl ⊢;simp at hl;have a1:Al .add ([119,114,105,116,101,32]) (nm)=some (.str (119::114::105::116::101::32::nm)):=Ap AJ AE;have a2:Al .add (119::114::105::116::101::32::nm) ([32,123])=some (.str (119::114::105::116::101::32::(nm++[32,123]))):=Ap AJ AE;simp only[go_sem,Int.reduceBEq,Int.reduceLT,↓a1,↓a2];exact Ah rfl AE
 rcases hw with rfl | hw
 .simp only[Cp,Co,Il,Bv]at hl ⊢;simp at hl;simp only[go_sem,Int.reduceBEq,Int.reduceLT];exact Ah rfl AE
 rcases hw with rfl | hw
 .simp only[Cp,Co,Il,Bv]at hl ⊢;simp at hl;simp only[go_sem,Int.reduceBEq,Int.reduceLT];exact Ah rfl AE
 rcases hw with rfl | hw
 .simp only[Cp,Co,Il,Bv]at hl ⊢;simp at hl;have a1:Al .add ([119,97,105,116,32]) (nm)=some (.str (119::97::105::116::32::nm)):=Ap AJ AE;have a2:Al .add (119::97::105::116::32::nm) ([59])=some (.str (119::97::105::116::32::(nm++[59]))):=Ap (by grind) AE;simp only[go_sem,Int.reduceBEq,Int.reduceLT,↓a1,↓a2];exact Ah rfl AE
 rcases hw with rfl | hw
 .simp only[Cp,Co,Il,Bv]at hl ⊢;simp at hl;have a1:Al .add ([110,111,116,105,102,121,32]) (nm)=some (.str (110::111::116::105::102::121::32::nm)):=Ap AJ AE;have a2:Al .add (110::111::116::105::102::121::32::nm) ([59])=some (.str (110::111::116::105::102::121::32::(nm++[59]))):=Ap AJ AE;simp only[go_sem,Int.reduceBEq,Int.reduceLT,↓a1,↓a2];exact Ah rfl AE
 rcases hw with rfl | hw
 .simp only[Cp,Co,Il,Bv]at hl ⊢;simp at hl;have a1:Al .add ([110,111,116,105,102,121,97,108,108,32]) (nm)=some (.str (110::111::116::105::102::121::97::108::108::32::nm)):=Ap AJ AE;have a2:Al .add (110::111::116::105::102::121::97::108::108::32::nm) ([59])=some (.str (110::111::116::105::102::121::97::108::108::32::(nm++[59]))):=Ap AJ AE;simp only[go_sem,Int.reduceBEq,Int.reduceLT,↓a1,↓a2];exact Ah rfl AE
 rcases hw with rfl | hw
 .simp only[Cp,Co,Il,Bv]at hl ⊢;simp at hl;have a1:Al .add ([115,112,97,119,110,32]) (nm)=some (.str (115::112::97::119::110::32::nm)):=Ap AJ AE;have a2:Al .add (115::112::97::119::110::32::nm) ([59])=some (.str (115::112::97::119::110::32::(nm++[59]))):=Ap AJ AE;simp only[go_sem,Int.reduceBEq,Int.reduceLT,↓a1,↓a2];exact Ah rfl AE
 rcases hw with rfl | hw
 .simp only[Cp,Co,Il,Bv]at hl ⊢;simp at hl;have a1:Al .add ([106,111,105,110,32]) (nm)=some (.str (106::111::105::110::32::nm)):=Ap AJ AE;have a2:Al .add (106::111::105::110::32::nm) ([59])=some (.str (106::111::105::110::32::(nm++[59]))):=Ap (by grind) AE;simp only[go_sem,Int.reduceBEq,Int.reduceLT,↓a1,↓a2];exact Ah rfl AE
 rcases hw with rfl | hw
 .simp only[Cp,Co,Il,Bv]at hl ⊢;simp at hl;have hx:=Aac (h5 AA) AA;rw[Bi]at hx;have a1:Al .add ([115,101,116,32]) (nm)=some (.str (115::101::116::32::nm)):=Ap (by grind) AE;have a2:Al .add (115::101::116::32::nm) ([32])=some (.str (115::101::116::32::(nm++[32]))):=Ap (by grind) AE;have a3:Al .add (115::101::116::32::(nm++[32])) (ex.txt)=some (.str (115::101::116::32::(nm++32::ex.txt))):=Ap (by grind) AE;have a4:Al .add (115::101::116::32::(nm++32::ex.txt)) ([59])=some (.str (115::101::116::32::(nm++32::(ex.txt++[59])))):=Ap (by grind) AE;simp only[go_sem,Int.reduceBEq,Int.reduceLT];refine Af AD ?_;simp only[go_sem,↓a1,↓a2];refine Bf hx AB ?_;simp only[go_sem,↓a3,↓a4];exact Ah rfl AE
 subst hw;simp only[Cp,Co,Il,Bv]at hl ⊢;simp at hl;have a1:Al .add ([103,101,116,32]) (nm)=some (.str (103::101::116::32::nm)):=Ap (by grind) AE;have a2:Al .add (103::101::116::32::nm) ([32])=some (.str (103::101::116::32::(nm++[32]))):=Ap (by grind) AE;have a3:Al .add (103::101::116::32::(nm++[32])) (arg)=some (.str (103::101::116::32::(nm++32::arg))):=Ap (by grind) AE;have a4:Al .add (103::101::116::32::(nm++32::arg)) ([59])=some (.str (103::101::116::32::(nm++32::(arg++[59])))):=Ap (by grind) AE;simp only[go_sem,Int.reduceBEq,Int.reduceLT,↓a1,↓a2,↓a3,↓a4];exact Ah rfl AE
theorem Oz(d:Nat)(x:Sp)(l:List Sp):Sp.txts d (x::l)=x.txt d++Sp.txts d l:=by rw[Sp.txts]
def Ajs(z:Bool)(t d:Nat)(l:List Sp)(h:∀ s∈l,Fn TT PT 63 [.agg s.row,iV (d:Int)] (.str (s.txt d)))(hl:(Sp.txts d l).length<=100000000000000)(qB:l.length<=9223372036854775806):Fn TT PT 32 [SL z t (l.map Sp.row),iV (d:Int)] (.str (Sp.txts d l)):=by
 refine Bg T32 rfl ?_;have qi:(l.map Sp.row).length=l.length:=Ar ..;simp only[go_sem];refine Bk (α:=Nat × List UInt8) (fun a=>l.length - a.1) (fun a=>[(0,SL z t (l.map Sp.row)),(1,iV (d:Int)),(5,.str a.2),(6,iV (a.1:Int))]) (fun _=>[]) (fun a=>a.1<=l.length/\a.2++Sp.txts d (l.drop a.1)=Sp.txts d l) ?_ (0,[]) ⟨Ax _,rfl⟩;rintro⟨i,qa⟩ ⟨hi,qe⟩ ih;simp only at hi qe ih;refine Bd Bo5 ?_;rcases Bh i l.length with h' | h'
 .obtain⟨x,hx,hd,hm⟩:=Br h';rw[hd,Oz]at qe;have qk:=congrArg List.length qe;simp only[Aq]at qk;have hr:=O3 x;have ht:=Bqh x;have a1:Al .add qa (x.txt d)=some (.str (qa++x.txt d)):=Ap AA rfl;simp only[go_sem,qi,Az h',Au,hx,hr,ht];refine Ab (h x hm) (by simp[Hc,A1b]) ?_;simp only[go_sem,↓a1,A2 (show i<9223372036854775807 by omega)];exact Av (ih (i+1,qa++x.txt d) AA ⟨by omega,by grind⟩) rfl
 .obtain rfl:i=l.length:=by omega
  rw[D1 h',show Sp.txts d []=[] by rw[Sp.txts],Cc]at qe;rw[<-qe];simp only[go_sem,qi,Bl h'];exact Fw rfl
theorem N1(d:Nat)(s:Sp):s.txt d=Ee d++(Cp s++if Bv s.op then 32::123::10::(Sp.txts (d+1) s.body++((if s.els.isEmpty then [] else Ee d++125::32::101::108::115::101::32::123::10::Sp.txts (d+1) s.els)++(Ee d++[125,10]))) else [59,10]):=by
 obtain⟨op,line,nm,arg,iz,it,idx,ex,bz,bt,body,ez,et,els⟩:=s;rw[Sp.txt]
def Zz(d:Nat):∀ {l:List Sp} {x:Sp},x∈l->(x.txt d).length<=(Sp.txts d l).length
 | y::l,x,h=>by
  rw[Oz,Aq];rcases Bp.1 h with rfl | h
  .omega
  .have:=Zz d h;omega
theorem Zu(l:List Sp)(d:Nat):l.length<=(Sp.txts d l).length:=by
 induction l with
 | nil=>simp
 | cons x l ih=>
  grind[Oz,N1]
def A54{s:Sp}(h:CnS s):∀ (d:Nat) (D:Int),max D 0=(d:Int)->(s.txt d).length<=100000000000000->Fn TT PT 63 [.agg s.row,iV D] (.str (s.txt d)):=by
 induction h with
 | @mk s h1 h2 h3 h4 h5 h6 h7 h8 h9 ihb ihe=>
  intro d D mx hl;have hs:CnS s:=.mk h1 h2 h3 h4 h5 h6 h7 h8 h9;rw[N1]at hl ⊢;simp only[Aq,Lk]at hl;have hh:=A9l hs AA;have hi:=A53 d AA;have qf:=Hc s;have qH:=h1;generalize hH:Cp s=H at hl hh ⊢;have g1:(s.op<1)=False:=eq_false AA;have g2:(15<s.op)=False:=eq_false AA;refine Bg T63 rfl ?_;rw[Sz,Bi]at hh qf ⊢;simp only[Bq,Ba]at hh qf ⊢;cases hb:Bv s.op
  .have g3:(s.op<2)=True/\(s.op<2)=True\/(s.op<2)=False/\(8<s.op)=True:=by
    unfold Bv at hb;by_cases qG:s.op<2
    .grind
    .grind
   simp only[Il,hb]at hh;have a1:Al .add (Ee d) (H++[59])=some (.str (Ee d++(H++[59]))):=Ap (by grind[Lk]) rfl;have a2:Al .add (Ee d++(H++[59])) [10]=some (.str (Ee d++(H++[59,10]))):=Ap (by grind[Lk]) AE;rcases g3 with⟨g3,g4⟩ | ⟨g3,g4⟩
   all_goals
    simp only[go_sem,g1,g2,mx];refine Ab hi AB ?_;simp only[go_sem];refine Ab hh (by grind) ?_;simp only[go_sem,↓a1,↓a2,g3,g4];exact Ah rfl AE
  .rw[hb]at hl;rw[if_pos rfl]at hl ⊢;simp only[An,Aq,Lk,Dc]at hl;have qA:=Zu s.body (d+1);have ql:=Ajs s.bz s.bt (d+1) s.body (fun x hx=>ihb x hx (d+1) _ AA (by have:=Zz (d+1) hx;omega)) AA AA;have qj:=Zu s.els (d+1)
   have g3:(s.op<2)=False/\(8<s.op)=False:=by
    unfold Bv at hb;simp only[Ai,decide_eq_true_eq]at hb;exact⟨eq_false AA,eq_false AA⟩
   obtain⟨g3,g4⟩:=g3;simp only[Il,hb,if_true]at hh;have qq:=Lk d;have qd:=A2 (show d<9223372036854775807 by omega);have qg:(s.body.map Sp.row).length=s.body.length:=Ar ..;have qt:(s.els.map Sp.row).length=s.els.length:=Ar ..;generalize hT:Ee d=T at hl hi qq ⊢;generalize qE:Sp.txts (d+1) s.body=B at hl ql qA ⊢;have a1:Al .add T (H++[32,123])=some (.str (T++(H++[32,123]))):=Ap (by grind) rfl;have a2:Al .add (T++(H++[32,123])) [10]=some (.str (T++(H++[32,123,10]))):=Ap (by grind) AE;have a3:Al .add (T++(H++[32,123,10])) B=some (.str (T++(H++32::123::10::B))):=Ap (by grind) AE;have a4:Al .add (T++(H++32::123::10::B)) T=some (.str (T++(H++32::123::10::(B++T)))):=Ap (by grind) AE
   cases hels:s.els with
   | nil=>
    rw[hels]at hl qt hh;simp only[B0]at hh;have e0:((0:Int)<((([]:List Sp).map Sp.row).length:Int))=False:=eq_false AE;have a5:Al .add (T++(H++32::123::10::(B++T))) [125,10]=some (.str (T++(H++32::123::10::(B++(T++[125,10]))))):=Ap (by grind) AE;simp only[go_sem,g1,g2,mx];refine Ab hi AB ?_;simp only[go_sem];refine Ab hh (by grind) ?_;simp only[go_sem,↓a1,↓a2,g3,g4,qd];refine Ab ql AB ?_;simp only[go_sem,↓a3,Int.reduceLT,↓a4,↓a5];exact Ah rfl AE
   | cons y ys=>
    rw[hels]at hl qt qj hh;simp only[Aw]at hh;have qo:=Ajs s.ez s.et (d+1) (y::ys) (fun x hx=>ihe x (by grind) (d+1) _ AA (by have:=Zz (d+1) hx;simp at hl;omega)) (by simp at hl;omega) (by simp at hl;omega);simp only[Aw]at qo;have e0:((0:Int)<((ys.length+1:Nat):Int))=True:=eq_true AA;generalize qF:Sp.txts (d+1) (y::ys)=E at hl qo qj ⊢;simp only[List.isEmpty_cons,Hg,if_false,Aq,An]at hl;have a5:Al .add (T++(H++32::123::10::(B++T))) [125,32,101,108,115,101,32,123,10]=some (.str (T++(H++32::123::10::(B++(T++[125,32,101,108,115,101,32,123,10]))))):=Ap AQ AE;have a6:Al .add (T++(H++32::123::10::(B++(T++[125,32,101,108,115,101,32,123,10])))) E=some (.str (T++(H++32::123::10::(B++(T++125::32::101::108::115::101::32::123::10::E))))):=Ap AQ AE;have a7:Al .add (T++(H++32::123::10::(B++(T++125::32::101::108::115::101::32::123::10::E)))) T=some (.str (T++(H++32::123::10::(B++(T++125::32::101::108::115::101::32::123::10::(E++T)))))):=Ap AQ AE;have a8:Al .add (T++(H++32::123::10::(B++(T++125::32::101::108::115::101::32::123::10::(E++T))))) [125,10]=some (.str (T++(H++32::123::10::(B++(T++125::32::101::108::115::101::32::123::10::(E++(T++[125,10]))))))):=Ap AQ AE;simp only[go_sem,g1,g2,mx];refine Ab hi AB ?_;simp only[go_sem];refine Ab hh (by grind) ?_;simp only[go_sem,↓a1,↓a2,g3,g4,qd];refine Ab ql AB ?_;simp only[go_sem,↓a3,Ar,e0,↓a4,↓a5,qd];refine Ab qo (by simp only[go_sem,Aw]) ?_;simp only[go_sem,↓a6,↓a7,↓a8];exact Ah rfl AE
def At0{s:Sp}(h:CnS s)(d:Nat)(hl:(s.txt d).length<=100000000000000):Fn TT PT 63 [.agg s.row,iV (d:Int)] (.str (s.txt d)):=A54 h d _ AA hl
def J8{vs:List V}{σ:St}{v:V}(h:vs.all Da=true)(he:V.tup vs=v):FR (.tup vs) σ v:=he ▸ Gt h
def Ayw{s0 s:St}{b:Nat}{l:List UInt8}(h:WB s0 s b l):∃ s',We 213 5 [.ptr b 0 0] s=some (.str l,s'):=by
 obtain⟨⟨u,hu⟩,-⟩:=h
 grind[Bke]
def Aad{x:Xp}(h:Cn x)(hl:x.txt.length<=10000000000000):Fn TT PT 214 [.agg x.row] (.str x.txt):=by
 have qf:=Dw x;refine Bg T214 rfl ?_
 have w0:WB [.row x.row 96 0 0,.row [.nilp,.nils] 213 0 0] [.row x.row 96 0 0,.row [.nilp,.nils] 213 0 0] 1 []:=by
  refine Atz (u:=.nils) ⟨.nilp,rfl,.inl rfl,D3⟩ ?_;exact Jh (Jl (s:=[]) (fun _ h=>by cases h) (by rw[Bi];simp only[go_sem])) AU
 obtain⟨s1,q1,v1⟩:=A9j h _ 1 [] w0 (by grind);obtain⟨s2,qw⟩:=Ayw v1;rw[Ba]at qw;rw[Bi]at q1 qf ⊢;simp only[go_sem];refine Ca q1 ?_;simp only[go_sem];refine Jg (.spec T156 rfl rfl qw) ?_;simp only[go_sem];exact Fw rfl
def A9m{s:Sp}(h:CnS s)(hl:(Cp s).length<=10000000000000):Fn TT PT 188 [.agg s.row] (.tup [.str (Cp s),.bool (Bv s.op)]):=by
 obtain⟨h1,h2,h3,h4,h5,-,-,-,-⟩:=h;obtain⟨op,line,nm,arg,iz,it,idx,ex,bz,bt,body,ez,et,els⟩:=s;simp only at h1 h2 h3 h4 h5 hl ⊢;rw[Sz];simp only;have hw:op=1\/op=2\/op=3\/op=4\/op=5\/op=6\/op=7\/op=8\/op=9\/op=10\/op=11\/op=12\/op=13\/op=14\/op=15:=by omega
 refine Bg T188 rfl ?_;rw[Bi];rcases hw with rfl | hw
 .have hx:=Aad (h5 (.inl rfl));simp only[Cp,if_true,Aq,An]at hl ⊢;have hx:=hx AA;rw[Bi]at hx
  cases idx with
  | nil=>
   simp only[E6,Dc]at hl ⊢;have a2:Al .add nm [32,61,32]=some (.str (nm++[32,61,32])):=Ap (by grind) rfl;have a3:Al .add (nm++[32,61,32]) ex.txt=some (.str (nm++32::61::32::ex.txt)):=Ap (by grind) AE;simp only[go_sem,Int.reduceBEq,Int.reduceLT,↓a2];refine Ab hx AB ?_;simp only[go_sem,↓a3];exact J8 rfl (by simp[Bv])
  | cons a r=>
   have ha:=Aad (h4 a B4);simp only[E6,An,Aq]at hl ⊢;have ha:=ha AA;rw[Bi]at ha;have r0:r=[]:=by simpa using h2
   subst r0;have a1:Al .add [91] a.txt=some (.str (91::a.txt)):=Ap (by grind) rfl;have a2:Al .add (91::a.txt) [93]=some (.str (91::(a.txt++[93]))):=Ap (by grind) AE;have a3:Al .add nm (91::(a.txt++[93]))=some (.str (nm++91::(a.txt++[93]))):=Ap (by grind) rfl;have a4:Al .add (nm++91::(a.txt++[93])) [32,61,32]=some (.str (nm++91::(a.txt++[93,32,61,32]))):=Ap (by grind) AE;have a5:Al .add (nm++91::(a.txt++[93,32,61,32])) ex.txt=some (.str (nm++91::(a.txt++93::32::61::32::ex.txt))):=Ap (by grind) AE;simp only[Aw,B0];rw[Bi a];simp only[go_sem,Int.reduceBEq,Int.reduceLT];refine Ab ha AB ?_;simp only[go_sem,↓a1,↓a2,↓a3,↓a4];refine Ab hx AB ?_;simp only[go_sem,↓a5];exact J8 rfl (by simp[Bv])
 rcases hw with rfl | hw
 .simp only[Cp,Co,Bv]at hl ⊢;simp at hl;have hx:=Aad (h5 AA) AA;rw[Bi]at hx;have a1:Al .add ([105,102,32]) (ex.txt)=some (.str (105::102::32::ex.txt)):=Ap (by grind) AE;simp only[go_sem,Int.reduceBEq,Int.reduceLT];refine Ab hx AB ?_;simp only[go_sem,↓a1];exact J8 rfl AE
 rcases hw with rfl | hw
 .simp only[Cp,Co,Bv]at hl ⊢;simp at hl;have hx:=Aad (h5 AA) AA;rw[Bi]at hx;have a1:Al .add ([119,104,105,108,101,32]) (ex.txt)=some (.str (119::104::105::108::101::32::ex.txt)):=Ap AJ AE;simp only[go_sem,Int.reduceBEq,Int.reduceLT];refine Ab hx AB ?_;simp only[go_sem,↓a1];exact J8 rfl AE
 rcases hw with rfl | hw
 .simp only[Cp,Co,Bv]at hl ⊢;simp at hl;have a1:Al .add ([108,111,99,107,32]) (nm)=some (.str (108::111::99::107::32::nm)):=Ap AJ AE;simp only[go_sem,Int.reduceBEq,Int.reduceLT,↓a1];exact J8 rfl AE
 rcases hw with rfl | hw
 .simp only[Cp,Co,Bv]at hl ⊢;simp at hl;have a1:Al .add ([114,101,97,100,32]) (nm)=some (.str (114::101::97::100::32::nm)):=Ap AJ AE;simp only[go_sem,Int.reduceBEq,Int.reduceLT,↓a1];exact J8 rfl AE
 rcases hw with rfl | hw
 .simp only[Cp,Co,Bv]at hl ⊢;simp at hl;have a1:Al .add ([119,114,105,116,101,32]) (nm)=some (.str (119::114::105::116::101::32::nm)):=Ap AJ AE;simp only[go_sem,Int.reduceBEq,Int.reduceLT,↓a1];exact J8 rfl AE
 rcases hw with rfl | hw
 .simp only[Cp,Co,Bv]at hl ⊢;simp at hl;simp only[go_sem,Int.reduceBEq,Int.reduceLT];exact J8 rfl AE
 rcases hw with rfl | hw
 .simp only[Cp,Co,Bv]at hl ⊢;simp at hl;simp only[go_sem,Int.reduceBEq,Int.reduceLT];exact J8 rfl AE
 rcases hw with rfl | hw
 .simp only[Cp,Co,Bv]at hl ⊢;simp at hl;have a1:Al .add ([119,97,105,116,32]) (nm)=some (.str (119::97::105::116::32::nm)):=Ap AJ AE;simp only[go_sem,Int.reduceBEq,Int.reduceLT,↓a1];exact J8 rfl AE
 rcases hw with rfl | hw
 .simp only[Cp,Co,Bv]at hl ⊢;simp at hl;have a1:Al .add ([110,111,116,105,102,121,32]) (nm)=some (.str (110::111::116::105::102::121::32::nm)):=Ap AJ AE;simp only[go_sem,Int.reduceBEq,Int.reduceLT,↓a1];exact J8 rfl AE
 rcases hw with rfl | hw
 .simp only[Cp,Co,Bv]at hl ⊢;simp at hl;have a1:Al .add ([110,111,116,105,102,121,97,108,108,32]) (nm)=some (.str (110::111::116::105::102::121::97::108::108::32::nm)):=Ap AJ AE;simp only[go_sem,Int.reduceBEq,Int.reduceLT,↓a1];exact J8 rfl AE
 rcases hw with rfl | hw
 .simp only[Cp,Co,Bv]at hl ⊢;simp at hl;have a1:Al .add ([115,112,97,119,110,32]) (nm)=some (.str (115::112::97::119::110::32::nm)):=Ap AJ AE;simp only[go_sem,Int.reduceBEq,Int.reduceLT,↓a1];exact J8 rfl AE
 rcases hw with rfl | hw
 .simp only[Cp,Co,Bv]at hl ⊢;simp at hl;have a1:Al .add ([106,111,105,110,32]) (nm)=some (.str (106::111::105::110::32::nm)):=Ap AJ AE;simp only[go_sem,Int.reduceBEq,Int.reduceLT,↓a1];exact J8 rfl AE
 rcases hw with rfl | hw
 .simp only[Cp,Co,Bv]at hl ⊢;simp at hl;have hx:=Aad (h5 AA) AA;rw[Bi]at hx;have a1:Al .add ([115,101,116,32]) (nm)=some (.str (115::101::116::32::nm)):=Ap (by grind) AE;have a2:Al .add (115::101::116::32::nm) ([32])=some (.str (115::101::116::32::(nm++[32]))):=Ap (by grind) AE;have a3:Al .add (115::101::116::32::(nm++[32])) (ex.txt)=some (.str (115::101::116::32::(nm++32::ex.txt))):=Ap (by grind) AE;simp only[go_sem,Int.reduceBEq,Int.reduceLT];refine Af AD ?_;simp only[go_sem,↓a1,↓a2];refine Bf hx AB ?_;simp only[go_sem,↓a3];exact J8 rfl AE
 subst hw;simp only[Cp,Co,Bv]at hl ⊢;simp at hl;have a1:Al .add ([103,101,116,32]) (nm)=some (.str (103::101::116::32::nm)):=Ap (by grind) AE;have a2:Al .add (103::101::116::32::nm) ([32])=some (.str (103::101::116::32::(nm++[32]))):=Ap (by grind) AE;have a3:Al .add (103::101::116::32::(nm++[32])) (arg)=some (.str (103::101::116::32::(nm++32::arg))):=Ap (by grind) AE;simp only[go_sem,Int.reduceBEq,Int.reduceLT,↓a1,↓a2,↓a3];exact J8 rfl AE
mutual
def Sp.sz:Sp->Nat
 | ⟨_,_,_,_,_,_,_,_,_,_,body,_,_,els⟩=>1+Sp.szs body+Sp.szs els
def Sp.szs:List Sp->Nat
 | []=>0
 | x::l=>x.sz+Sp.szs l
end
theorem Mc(s:Sp):s.sz=1+Sp.szs s.body+Sp.szs s.els:=by
 obtain⟨op,line,nm,arg,iz,it,idx,ex,bz,bt,body,ez,et,els⟩:=s;rw[Sp.sz]
def Aav:∀ {l:List Sp} {x:Sp},x∈l->x.sz<=Sp.szs l
 | y::l,x,h=>by
  rw[Sp.szs];rcases Bp.1 h with rfl | h
  .omega
  .have:=Aav h;omega
def Beo(d:Nat)(h:d<=1073741823):Yz [.str [32,32],iV (d:Int)]=some (.str (Ee d)):=by
 unfold Yz;simp only;rw[if_pos (by grind)];congr 2;unfold Ee;rw[Nr];clear h
 induction d with
 | zero=>rfl
 | succ d ih=>
  grind[Lib.repeatL]
def Fl(x:Sp):x.row=[iV x.op,iV x.line,.str x.nm,.str x.arg,SL x.iz x.it (x.idx.map Xp.row),iV x.ex.op,iV x.ex.n,.str x.ex.nm,SL x.ex.z x.ex.t (x.ex.l.map Xp.row),SL x.bz x.bt (x.body.map Sp.row),SL x.ez x.et (x.els.map Sp.row)]:=by
 simp[Sz,Bi]
def Wr(x:Sp):Prop:=∀ (s:St) (b:Nat) (l:List UInt8) (d:Nat),WB s s b l->l.length+(x.txt d).length<=10000000000000->d+x.sz<=1073741823->∃ s',Th TT PT 155 [.ptr b 0 0,.agg x.row,iV (d:Int)] s (.tup []) s'/\WB s s' b (l++x.txt d)
def Amr{s0 s:St}{b:Nat}{l:List UInt8}(h:WB s0 s b l)(x:Sp):WB s0 (s++[.row x.row 98 0 0]) b l:=N0 h (by
 have:=Hc x
 exact this)
def A9n{K:List It}{Q:Env->St->Prop}{A6:V}{j4 b d:Nat}{z:Bool}{t:Nat}{L:List Sp}{s0 s:St}{l:List UInt8}(hW:∀ x∈L,Wr x)(h:WB s0 s b l)(hl:l.length+(Sp.txts (d+1) L).length<=10000000000000)(hd:d+1+Sp.szs L<=1073741823)(hn:L.length<=1000000000000000)
  (hk:∀ s',WB s0 s' b (l++Sp.txts (d+1) L)->W TT PT K [(0,.ptr b 0 0),(2,iV (d:Int)),(4,.ptr j4 0 0),(6,A6),(35,SL z t (L.map Sp.row)),(36,iV (L.length:Int)),(37,iV (L.length:Int))] s' Q) :
  W TT PT (.l [0,2,4,6,35,36,37] lp155_0::.b 0::K) [(0,.ptr b 0 0),(2,iV (d:Int)),(4,.ptr j4 0 0),(6,A6),(35,SL z t (L.map Sp.row)),(36,iV (L.length:Int)),(37,iV 0)] s Q:=by
 refine Bk (α:=Nat × St × List UInt8) (fun a=>L.length - a.1) (fun a=>[(0,.ptr b 0 0),(2,iV (d:Int)),(4,.ptr j4 0 0),(6,A6),(35,SL z t (L.map Sp.row)),(36,iV (L.length:Int)),(37,iV (a.1:Int))]) (fun a=>a.2.1) (fun a=>a.1<=L.length/\WB s0 a.2.1 b a.2.2/\a.2.2++Sp.txts (d+1) (L.drop a.1)=l++Sp.txts (d+1) L) ?_ (0,s,l) ⟨Ax _,h,rfl⟩;rintro⟨i,s1,c⟩ ⟨hi,hw,hc⟩ ih;simp only at hi hw hc ih;refine Bd Bj6 ?_;have qc:=congrArg List.length hc;simp only[Aq]at qc;rcases Bh i L.length with h' | h'
 .obtain⟨x,hx,qn,hm⟩:=Br h';rw[qn,Oz]at hc qc;rw[Aq]at qc;have qs:=Aav hm;obtain⟨s2,e2⟩:∃ s2,s2=s1++[Ob.row x.row 98 0 0]:=⟨_,rfl⟩;have w2:WB s0 s2 b c:=by rw[e2];exact Amr hw x
  have k2:s2[s1.length]?=some (.row x.row 98 0 0):=by rw[e2,F6 (Aj _),Is];rfl
  obtain⟨s3,q3,v3⟩:=hW x hm s2 b c (d+1) (Vn w2) AA AA;have qb:=Fl x;rw[qb]at e2 k2 q3;rw[e2]at q3 k2;simp only[go_sem,Az h',Au,hx,qb,A2 (show d<9223372036854775807 by omega)];refine Ca q3 ?_;simp only[go_sem,A2 (show i<9223372036854775807 by omega)];exact Av (ih (i+1,s3,c++x.txt (d+1)) AA ⟨by omega,Li w2 v3,by grind⟩) rfl
 .obtain rfl:i=L.length:=by omega
  rw[D1 h',show Sp.txts (d+1) []=[] by rw[Sp.txts],Cc]at hc;subst hc;simp only[go_sem,Bl h'];exact hk s1 hw
def A9o{K:List It}{Q:Env->St->Prop}{A6:V}{b d:Nat}{z:Bool}{t:Nat}{L:List Sp}{s0 s:St}{l:List UInt8}(hW:∀ x∈L,Wr x)(h:WB s0 s b l)(hl:l.length+(Sp.txts (d+1) L).length<=10000000000000)(hd:d+1+Sp.szs L<=1073741823)(hn:L.length<=1000000000000000)
  (hk:∀ s',WB s0 s' b (l++Sp.txts (d+1) L)->W TT PT K [(0,.ptr b 0 0),(2,iV (d:Int)),(6,A6),(57,SL z t (L.map Sp.row)),(58,iV (L.length:Int)),(59,iV (L.length:Int))] s' Q) :
  W TT PT (.l [0,2,6,57,58,59] lp155_1::.b 2::K) [(0,.ptr b 0 0),(2,iV (d:Int)),(6,A6),(57,SL z t (L.map Sp.row)),(58,iV (L.length:Int)),(59,iV 0)] s Q:=by
 refine Bk (α:=Nat × St × List UInt8) (fun a=>L.length - a.1) (fun a=>[(0,.ptr b 0 0),(2,iV (d:Int)),(6,A6),(57,SL z t (L.map Sp.row)),(58,iV (L.length:Int)),(59,iV (a.1:Int))]) (fun a=>a.2.1) (fun a=>a.1<=L.length/\WB s0 a.2.1 b a.2.2/\a.2.2++Sp.txts (d+1) (L.drop a.1)=l++Sp.txts (d+1) L) ?_ (0,s,l) ⟨Ax _,h,rfl⟩;rintro⟨i,s1,c⟩ ⟨hi,hw,hc⟩ ih;simp only at hi hw hc ih;refine Bd Bj7 ?_;have qc:=congrArg List.length hc;simp only[Aq]at qc;rcases Bh i L.length with h' | h'
 .obtain⟨x,hx,qn,hm⟩:=Br h';rw[qn,Oz]at hc qc;rw[Aq]at qc;have qs:=Aav hm;obtain⟨s2,e2⟩:∃ s2,s2=s1++[Ob.row x.row 98 0 0]:=⟨_,rfl⟩;have w2:WB s0 s2 b c:=by rw[e2];exact Amr hw x
  have k2:s2[s1.length]?=some (.row x.row 98 0 0):=by rw[e2,F6 (Aj _),Is];rfl
  obtain⟨s3,q3,v3⟩:=hW x hm s2 b c (d+1) (Vn w2) AA AA;have qb:=Fl x;rw[qb]at e2 k2 q3;rw[e2]at q3 k2;simp only[go_sem,Az h',Au,hx,qb,A2 (show d<9223372036854775807 by omega)];refine Ca q3 ?_;simp only[go_sem,A2 (show i<9223372036854775807 by omega)];exact Av (ih (i+1,s3,c++x.txt (d+1)) AA ⟨by omega,Li w2 v3,by grind⟩) rfl
 .obtain rfl:i=L.length:=by omega
  rw[D1 h',show Sp.txts (d+1) []=[] by rw[Sp.txts],Cc]at hc;subst hc;simp only[go_sem,Bl h'];exact hk s1 hw
def A9p{x:Sp}(h:CnS x):Wr x:=by
 induction h with
 | @mk x h1 h2 h3 h4 h5 h6 h7 h8 h9 ihb ihe=>
  intro s b l d h hl hd;have hs:CnS x:=.mk h1 h2 h3 h4 h5 h6 h7 h8 h9;rw[Mc]at hd
  have qg:s.length≠b:=by
   obtain⟨⟨u,p,hb,-⟩,-⟩:=h;have:=(Ao.1 hb).1;omega
  rw[N1]at hl ⊢;simp only[Aq,Lk]at hl;have hh:=A9m hs AA;have qh:=Beo d AA;have qf:=Hc x;have g0:(1073741823<(d:Int))=False:=eq_false AA;have qq:=Lk d;generalize hH:Cp x=H at hl hh ⊢;generalize hT:Ee d=T at hl qh qq ⊢;refine V9 T155 rfl ?_ rfl rfl (fun σ1 h=>⟨h.2.2.1,h.2.1⟩);obtain⟨s1,e1⟩:∃ s1,s1=s++[Ob.row x.row 98 0 0]:=⟨_,rfl⟩;have w1:WB s s1 b l:=by rw[e1];exact Amr h x
  have k1:s1[s.length]?=some (.row x.row 98 0 0):=by rw[e1,F6 (Aj _),Is];rfl
  have qb:=Fl x;obtain⟨s2,q2,w2,v2⟩:=Hh w1 T AA;have k2:=v2.2.2.2 s.length _ _ _ _ qg AG k1;obtain⟨s3,q3,w3,v3⟩:=Hh w2 H (by grind);have k3:=v3.2.2.2 s.length _ _ _ _ qg AG k2;rw[qb]at e1 k2 k3 hh ⊢;rw[e1]at q2;cases hb:Bv x.op
  .rw[hb]at hh hl;simp only[Hg,if_false,An,Dc]at hl ⊢;obtain⟨s4,q4,w4,v4⟩:=Hh w3 [59,10] (by grind);simp only[go_sem,g0];refine Fm P186 AB qh ?_;simp only[go_sem];refine Ca q2 ?_;simp only[go_sem,k2];refine Ab hh (by grind) ?_;simp only[go_sem];refine Ca q3 ?_;simp only[go_sem];refine Ca q4 ?_;simp only[go_sem];exact⟨rfl,by grind⟩
  .rw[hb]at hh hl;simp only[if_true,An,Aq,Dc]at hl ⊢;have lb:=Zu x.body (d+1);have le:=Zu x.els (d+1);have qm:(x.body.map Sp.row).length=x.body.length:=Ar ..;have qp:(x.els.map Sp.row).length=x.els.length:=Ar ..;obtain⟨s4,q4,w4,v4⟩:=Hh w3 [32,123,10] (by grind);have k4:=v4.2.2.2 s.length _ _ _ _ qg AG k3;simp only[go_sem,g0];refine Fm P186 AB qh ?_;simp only[go_sem];refine Ca q2 ?_;simp only[go_sem,k2];refine Ab hh (by grind) ?_;simp only[go_sem];refine Ca q3 ?_;simp only[go_sem];refine Ca q4 ?_;simp only[go_sem,k4,qm];refine A9n (d:=d) (L:=x.body) (l:=l++T++H++[32,123,10]) ihb (Vn w4) (by grind) AA AA fun s5 w5=>?_
   have k5:=w5.2.2.2 s.length _ _ _ _ qg AG k4;have qy:=Li w4 w5
   cases hels:x.els with
   | nil=>
    have e0:((0:Int)<((([]:List Sp).map Sp.row).length:Int))=False:=eq_false AE;rw[hels]at k5 hl;simp only[B0]at k5;obtain⟨s6,q6,w6,v6⟩:=Hh qy T (by grind);obtain⟨s7,q7,w7,v7⟩:=Hh w6 [125,10] (by grind);simp only[go_sem,k5,Int.reduceLT];refine Ca q6 ?_;simp only[go_sem];refine Ca q7 ?_;simp only[go_sem];exact⟨rfl,by grind⟩
   | cons y ys=>
    rw[hels]at k5 hl le hd qp ihe;have e0:((0:Int)<((ys.length+1:Nat):Int))=True:=eq_true AA;simp only[List.isEmpty_cons,Hg,if_false,An,Aq]at hl ⊢;obtain⟨s6,q6,w6,v6⟩:=Hh qy T (by grind);have k6:=v6.2.2.2 s.length _ _ _ _ qg AG k5;obtain⟨s7,q7,w7,v7⟩:=Hh w6 [125,32,101,108,115,101,32,123,10] (by grind);have k7:=v7.2.2.2 s.length _ _ _ _ qg AG k6;simp only[go_sem,k5,Ar,An,e0];refine Ca q6 ?_;simp only[go_sem];refine Ca q7 ?_;simp only[go_sem,k7,Ar,An];refine A9o (d:=d) (L:=y::ys) (l:=l++T++H++[32,123,10]++Sp.txts (d+1) x.body++T++[125,32,101,108,115,101,32,123,10]) ihe (Vn w7) (by grind) AA AA fun s8 w8=>?_
    obtain⟨s9,q9,w9,v9⟩:=Hh (Li w7 w8) T AQ;obtain⟨qI,qD,qK,qJ⟩:=Hh w9 [125,10] AQ;simp only[go_sem];refine Ca q9 ?_;simp only[go_sem];refine Ca qD ?_;simp only[go_sem];exact⟨rfl,by simp_all⟩
theorem Ayx:∀ (k u:Nat),(Ij k u).length<=k
 | 0,_=>by simp[Ij]
 | k+1,u=>by
  have:=Ayx k (u / 10)
  grind[Ij]
def Xv(n:Int):(B3 n).length<=21:=by
 grind[B3,Ayx]
def A9q{d:Dp}(h:CnD d)(hn:d.nm.length<=100000000000000)(ho:d.kind=5->d.on.length<=100000000000000):Fn TT PT 31 [.agg d.row] (.str (De d++[59,10])):=by
 obtain⟨⟨k1,k2⟩,⟨h0,h1,h2⟩,i1,i2,h3⟩:=h;obtain⟨kind,line,nm,size,init,on⟩:=d;simp only at k1 k2 h0 h1 h2 i1 i2 h3 hn ho;unfold Dp.row;simp only;have l1:=Xv size;have l2:=Xv init;have hk:kind=1\/kind=2\/kind=3\/kind=4\/kind=5\/kind=6:=by omega
 have qs:(size=0/\((0:Int)<0)=False/\True)\/(size≠0/\((0:Int)<size)=True/\Yl [iV size]=some (.str (B3 size))):=by
  by_cases hz:size=0
  .grind
  .exact .inr ⟨hz,eq_true AA,by unfold Yl;grind⟩
 have qv:(init=0/\((0:Int) != 0)=false/\True)\/(init≠0/\(init != 0)=true/\Qx [iV init,iV 10]=some (.str (B3 init))):=by
  by_cases hz:init=0
  .grind
  .simp_all [Qx]
 rcases hk with rfl | hk
 .rcases qs with⟨rfl,z1,z2⟩ | ⟨z0,z1,z2⟩<;>rcases qv with⟨rfl,n1,n2⟩ | ⟨n0,n1,n2⟩
  .refine Bg T31 rfl ?_;have a1:Al .add ([118,97,114,32]) (nm)=some (.str (118::97::114::32::nm)):=Ap (by grind) AE;have a2:Al .add (118::97::114::32::nm) ([59,10])=some (.str (118::97::114::32::(nm++[59,10]))):=Ap (by grind) AE;simp only[go_sem,Int.reduceLT,Int.reduceBEq,gt_iff_lt,z1,n1];refine Af AD ?_;simp only[go_sem,↓a1,↓a2];simp only[go_sem,z1,n1,Int.reduceBEq,↓a1,↓a2];exact Ah rfl (by simp[De,Jw])
  .refine Bg T31 rfl ?_;have a1:Al .add ([118,97,114,32]) (nm)=some (.str (118::97::114::32::nm)):=Ap (by grind) AE;have a2:Al .add (118::97::114::32::nm) ([32,61,32])=some (.str (118::97::114::32::(nm++[32,61,32]))):=Ap (by grind) AE;have a3:Al .add (118::97::114::32::(nm++[32,61,32])) (B3 init)=some (.str (118::97::114::32::(nm++32::61::32::B3 init))):=Ap AJ AE;have a4:Al .add (118::97::114::32::(nm++32::61::32::B3 init)) ([59,10])=some (.str (118::97::114::32::(nm++32::61::32::(B3 init++[59,10])))):=Ap AJ AE;simp only[go_sem,Int.reduceLT,Int.reduceBEq,gt_iff_lt,z1,n1];refine Af AD ?_;simp only[go_sem,↓a1,↓a2,↓a3,↓a4];simp only[go_sem,z1,n1,Int.reduceBEq,↓a1,↓a2,↓a3,↓a4];refine Fm P62 AB n2 ?_;simp only[go_sem,z1,n1,Int.reduceBEq,↓a1,↓a2,↓a3,↓a4];exact Ah rfl (by simp[De,Jw,n0])
  .refine Bg T31 rfl ?_;have a1:Al .add ([118,97,114,32]) (nm)=some (.str (118::97::114::32::nm)):=Ap (by grind) AE;have a2:Al .add (118::97::114::32::nm) ([91])=some (.str (118::97::114::32::(nm++[91]))):=Ap (by grind) AE;have c1:Al .add (118::97::114::32::(nm++[91])) (B3 size)=some (.str (118::97::114::32::(nm++91::B3 size))):=Ap (by grind) AE;have c2:Al .add (118::97::114::32::(nm++91::B3 size)) [93]=some (.str (118::97::114::32::(nm++91::(B3 size++[93])))):=Ap (by grind) AE;have a3:Al .add (118::97::114::32::(nm++91::(B3 size++[93]))) ([59,10])=some (.str (118::97::114::32::(nm++91::(B3 size++[93,59,10])))):=Ap (by grind) AE;simp only[go_sem,Int.reduceLT,Int.reduceBEq,gt_iff_lt,z1,n1];refine Af AD ?_;simp only[go_sem,↓a1,↓a2,↓c1,↓c2,↓a3];simp only[go_sem,z1,↓a1,↓a2,↓c1,↓c2,↓a3];refine Fm P61 AB z2 ?_;simp only[go_sem,z1,n1,Int.reduceBEq,↓a1,↓a2,↓c1,↓c2,↓a3];exact Ah rfl (by simp[De,Jw,z0])
  .refine Bg T31 rfl ?_;have a1:Al .add ([118,97,114,32]) (nm)=some (.str (118::97::114::32::nm)):=Ap (by grind) AE;have a2:Al .add (118::97::114::32::nm) ([91])=some (.str (118::97::114::32::(nm++[91]))):=Ap (by grind) AE;have c1:Al .add (118::97::114::32::(nm++[91])) (B3 size)=some (.str (118::97::114::32::(nm++91::B3 size))):=Ap (by grind) AE;have c2:Al .add (118::97::114::32::(nm++91::B3 size)) [93]=some (.str (118::97::114::32::(nm++91::(B3 size++[93])))):=Ap (by grind) AE;have a3:Al .add (118::97::114::32::(nm++91::(B3 size++[93]))) ([32,61,32])=some (.str (118::97::114::32::(nm++91::(B3 size++[93,32,61,32])))):=Ap (by grind) AE;have a4:Al .add (118::97::114::32::(nm++91::(B3 size++[93,32,61,32]))) (B3 init)=some (.str (118::97::114::32::(nm++91::(B3 size++93::32::61::32::B3 init)))):=Ap AJ AE;have a5:Al .add (118::97::114::32::(nm++91::(B3 size++93::32::61::32::B3 init))) ([59,10])=some (.str (118::97::114::32::(nm++91::(B3 size++93::32::61::32::(B3 init++[59,10]))))):=Ap AJ AE;simp only[go_sem,Int.reduceLT,Int.reduceBEq,gt_iff_lt,z1,n1];refine Af AD ?_;simp only[go_sem,↓a1,↓a2,↓c1,↓c2,↓a3,↓a4,↓a5];simp only[go_sem,z1,↓a1,↓a2,↓c1,↓c2,↓a3,↓a4,↓a5];refine Fm P61 AB z2 ?_;simp only[go_sem,z1,n1,Int.reduceBEq,↓a1,↓a2,↓c1,↓c2,↓a3,↓a4,↓a5];refine Fm P62 AB n2 ?_;simp only[go_sem,z1,n1,Int.reduceBEq,↓a1,↓a2,↓c1,↓c2,↓a3,↓a4,↓a5];exact Ah rfl (by simp_all [De,Jw])
 rcases hk with rfl | hk
 .obtain rfl:size=0:=h2 AA;have z1:((0:Int)<0)=False:=eq_false AA;rcases qv with⟨rfl,n1,n2⟩ | ⟨n0,n1,n2⟩
  .refine Bg T31 rfl ?_;have a1:Al .add ([118,111,108,97,116,105,108,101,32]) (nm)=some (.str (118::111::108::97::116::105::108::101::32::nm)):=Ap AJ AE;have a2:Al .add (118::111::108::97::116::105::108::101::32::nm) ([59,10])=some (.str (118::111::108::97::116::105::108::101::32::(nm++[59,10]))):=Ap AJ AE;simp only[go_sem,Int.reduceLT,Int.reduceBEq,gt_iff_lt,z1,n1];refine Af AD ?_;simp only[go_sem,↓a1,↓a2];simp only[go_sem,z1,n1,Int.reduceBEq,↓a1,↓a2];exact Ah rfl (by simp[De,Jw])
  .refine Bg T31 rfl ?_;have a1:Al .add ([118,111,108,97,116,105,108,101,32]) (nm)=some (.str (118::111::108::97::116::105::108::101::32::nm)):=Ap AJ AE;have a2:Al .add (118::111::108::97::116::105::108::101::32::nm) ([32,61,32])=some (.str (118::111::108::97::116::105::108::101::32::(nm++[32,61,32]))):=Ap AJ AE;have a3:Al .add (118::111::108::97::116::105::108::101::32::(nm++[32,61,32])) (B3 init)=some (.str (118::111::108::97::116::105::108::101::32::(nm++32::61::32::B3 init))):=Ap AJ AE;have a4:Al .add (118::111::108::97::116::105::108::101::32::(nm++32::61::32::B3 init)) ([59,10])=some (.str (118::111::108::97::116::105::108::101::32::(nm++32::61::32::(B3 init++[59,10])))):=Ap AJ AE;simp only[go_sem,Int.reduceLT,Int.reduceBEq,gt_iff_lt,z1,n1];refine Af AD ?_;simp only[go_sem,↓a1,↓a2,↓a3,↓a4];simp only[go_sem,z1,n1,Int.reduceBEq,↓a1,↓a2,↓a3,↓a4];refine Fm P62 AB n2 ?_;simp only[go_sem,z1,n1,Int.reduceBEq,↓a1,↓a2,↓a3,↓a4];exact Ah rfl (by simp[De,Jw,n0])
 rcases hk with rfl | hk
 .obtain rfl:size=0:=h2 AA;obtain rfl:init=0:=h3 AA AA;have z1:((0:Int)<0)=False:=eq_false AA;have n1:((0:Int) != 0)=false:=by decide
  refine Bg T31 rfl ?_;have a1:Al .add ([109,117,116,101,120,32]) (nm)=some (.str (109::117::116::101::120::32::nm)):=Ap AJ AE;have a2:Al .add (109::117::116::101::120::32::nm) ([59,10])=some (.str (109::117::116::101::120::32::(nm++[59,10]))):=Ap AJ AE;simp only[go_sem,Int.reduceLT,Int.reduceBEq,gt_iff_lt,z1,n1];refine Af AD ?_;simp only[go_sem,↓a1,↓a2];simp only[go_sem,z1,n1,Int.reduceBEq,↓a1,↓a2];exact Ah rfl (by simp[De])
 rcases hk with rfl | hk
 .obtain rfl:size=0:=h2 AA;obtain rfl:init=0:=h3 AA AA;have z1:((0:Int)<0)=False:=eq_false AA;have n1:((0:Int) != 0)=false:=by decide
  refine Bg T31 rfl ?_;have a1:Al .add ([114,119,108,111,99,107,32]) (nm)=some (.str (114::119::108::111::99::107::32::nm)):=Ap AJ AE;have a2:Al .add (114::119::108::111::99::107::32::nm) ([59,10])=some (.str (114::119::108::111::99::107::32::(nm++[59,10]))):=Ap AJ AE;simp only[go_sem,Int.reduceLT,Int.reduceBEq,gt_iff_lt,z1,n1];refine Af AD ?_;simp only[go_sem,↓a1,↓a2];simp only[go_sem,z1,n1,Int.reduceBEq,↓a1,↓a2];exact Ah rfl (by simp[De])
 rcases hk with rfl | hk
 .have ho:=ho rfl;obtain rfl:size=0:=h2 AA;obtain rfl:init=0:=h3 AA AA;have z1:((0:Int)<0)=False:=eq_false AA;have n1:((0:Int) != 0)=false:=by decide
  refine Bg T31 rfl ?_;have a1:Al .add ([99,111,110,100,32]) (nm)=some (.str (99::111::110::100::32::nm)):=Ap AJ AE;have a2:Al .add (99::111::110::100::32::nm) ([32])=some (.str (99::111::110::100::32::(nm++[32]))):=Ap (by grind) AE;have a3:Al .add (99::111::110::100::32::(nm++[32])) (on)=some (.str (99::111::110::100::32::(nm++32::on))):=Ap AJ AE;have a4:Al .add (99::111::110::100::32::(nm++32::on)) ([59,10])=some (.str (99::111::110::100::32::(nm++32::(on++[59,10])))):=Ap AJ AE;simp only[go_sem,Int.reduceLT,Int.reduceBEq,gt_iff_lt,z1,n1];refine Af AD ?_;simp only[go_sem,↓a1,↓a2,↓a3,↓a4];simp only[go_sem,z1,n1,Int.reduceBEq,↓a1,↓a2,↓a3,↓a4];exact Ah rfl (by simp[De])
 subst hk;obtain rfl:size=0:=h2 AA;obtain rfl:init=0:=h3 AA AA;have z1:((0:Int)<0)=False:=eq_false AA;have n1:((0:Int) != 0)=false:=by decide
 refine Bg T31 rfl ?_;have a1:Al .add ([102,117,116,117,114,101,32]) (nm)=some (.str (102::117::116::117::114::101::32::nm)):=Ap AJ AE;have a2:Al .add (102::117::116::117::114::101::32::nm) ([59,10])=some (.str (102::117::116::117::114::101::32::(nm++[59,10]))):=Ap AJ AE;simp only[go_sem,Int.reduceLT,Int.reduceBEq,gt_iff_lt,z1,n1];refine Af AD ?_;simp only[go_sem,↓a1,↓a2];simp only[go_sem,z1,n1,Int.reduceBEq,↓a1,↓a2];exact Ah rfl (by simp[De])
def A9r{d:Dp}(h:1<=d.kind/\d.kind<=6):d.nm.length<=(De d).length/\(d.kind=5->d.on.length<=(De d).length):=by
 unfold De
 grind
def jr:List (List UInt8)->List UInt8
 | []=>[]
 | a::l=>44::32::(a++jr l)
theorem Alr:∀ (a:List UInt8) (l:List (List UInt8)),En (a::l)=a++jr l
 | a,[]=>by simp[En,jr]
 | a,b::l=>by rw[En,Alr b l,jr]
def Uo(l:List (List UInt8))(k:Nat):List UInt8:=if k=0 then En l else jr (l.drop k)
def A36(l:List (List UInt8)):l.length<=(En l).length+1:=by
 have:∀ l:List (List UInt8),l.length<=(jr l).length:=fun l=>by
  induction l with
  | nil=>simp
  | cons a l ih=>grind[jr]
 cases l with
 | nil=>simp
 | cons a l=>grind[Alr]
def Ai4{α:Type}(f:α->List UInt8)(hf:∀ x,1<=(f x).length):∀ l:List α,l.length<=((l.map f).flatten).length
 | []=>by simp
 | y::l=>by
  have:=Ai4 f hf l
  grind
def A55{K:List It}{Q:Env->St->Prop}{A C:V}{l:List (List UInt8)}{z:Bool}{u j0:Nat}{nm:List UInt8}{line:Int}{B:V}{s:St}(hs:s[j0]?=some (.row [.str nm,iV line,SL z u (l.map fun x=>[V.str x]),B] 84 0 0))(qa:List UInt8)(hl:qa.length+(En l).length<=100000000000000)
  (h:W TT PT K [(1,A),(3,.str (qa++En l)),(5,C),(6,.ptr j0 0 0),(7,iV (l.length:Int))] s Q) :
  W TT PT (.l [1,3,5,6,7] lp12_1::.b 4::K) [(1,A),(3,.str qa),(5,C),(6,.ptr j0 0 0),(7,iV 0)] s Q:=by
 have qB:=A36 l;have qi:(l.map fun x=>[V.str x]).length=l.length:=Ar ..;refine Bk (α:=Nat × List UInt8) (fun a=>l.length - a.1) (fun a=>[(1,A),(3,.str a.2),(5,C),(6,.ptr j0 0 0),(7,iV (a.1:Int))]) (fun _=>s) (fun a=>a.1<=l.length/\a.2++Uo l a.1=qa++En l) ?_ (0,qa) ⟨Ax _,rfl⟩;rintro⟨i,c⟩ ⟨hi,hc⟩ ih;simp only at hi hc ih;refine Bd Boi ?_;have qc:=congrArg List.length hc;simp only[Aq]at qc;rcases Bh i l.length with h' | h'
 .obtain⟨x,hx,hd,hm⟩:=Br h';have qd:=A2 (show i<9223372036854775807 by omega);by_cases qu:i=0
  .subst qu;have f0:((0:Int)<((0:Nat):Int))=False:=eq_false AA;have qz:((0:Int)<0)=False:=eq_false AA;have f1:((0:Int)<(l.length:Int))=True:=eq_true AA;have qC:l=x::l.drop 1:=by simpa using hd
   have hj:Uo l 0=x++jr (l.drop 1):=by
    unfold Uo;rw[if_pos rfl]
    conv=>lhs;rw[qC]
    exact Alr x _
   rw[hj]at hc qc;rw[Aq]at qc;have a1:Al .add c x=some (.str (c++x)):=Ap AA rfl;simp only[go_sem,hs,qi,f1,f0,qz,Au,hx,↓a1,qd];refine Av (ih (1,c++x) AA ⟨by omega,?_⟩) rfl;simp only;rw[<-hc,Bt];rfl
  .have f0:((0:Int)<(i:Int))=True:=eq_true AA
   have hj:Uo l i=44::32::(x++jr (l.drop (i+1))):=by
    unfold Uo;rw[if_neg qu,hd,jr]
   rw[hj]at hc qc;simp only[An,Aq]at qc;have a1:Al .add c [44,32]=some (.str (c++[44,32])):=Ap (by grind) rfl;have a2:Al .add (c++[44,32]) x=some (.str (c++44::32::x)):=Ap (by grind) AE;simp only[go_sem,hs,qi,Az h',f0,↓a1];simp only[go_sem,hs,Au,hx,↓a2,qd];refine Av (ih (i+1,c++44::32::x) AA ⟨by omega,?_⟩) rfl
   simp_all [Uo]
 .obtain rfl:i=l.length:=by omega
  have hj:Uo l l.length=[]:=by
   unfold Uo
   split
   .rename_i h0;rw[List.eq_nil_of_length_eq_zero h0];rfl
   .rw[D1 h'];rfl
  rw[hj,Cc]at hc;subst hc;simp only[go_sem,hs,qi,Bl h'];exact h
def At1{p:Gp}(h:CnG p)(hl:(Ff p).length<=100000000000000):Fn TT PT 12 [.agg p.row] (.str (Ff p)):=by
 obtain⟨hD,hT⟩:=h;obtain⟨dz,dt,decls,tz,tt,thrs⟩:=p;simp only at hD hT;unfold Ff at hl ⊢;simp only at hl ⊢;unfold Gp.row;simp only;have n1:(decls.map Dp.row).length=decls.length:=Ar ..;have n2:(thrs.map Tp.row).length=thrs.length:=Ar ..;rw[Aq]at hl;have c1:=Ai4 (fun d=>De d++[59,10]) (fun x=>by simp) decls;have c2:=Ai4 D9 (fun x=>by simp[D9]) thrs;refine Bg T12 rfl ?_;simp only[go_sem];refine Bk (α:=Nat × List UInt8) (fun a=>decls.length - a.1) (fun a=>[(1,.ptr 0 0 0),(3,.str a.2),(4,iV (a.1:Int))]) (fun _=>[.row [SL dz dt (decls.map Dp.row),SL tz tt (thrs.map Tp.row)] 29 0 0]) (fun a=>a.1<=decls.length/\a.2++((decls.drop a.1).map fun d=>De d++[59,10]).flatten=(decls.map fun d=>De d++[59,10]).flatten) ?_ (0,[]) ⟨Ax _,rfl⟩;rintro⟨i,qa⟩ ⟨hi,hc⟩ ih;simp only at hi hc ih;refine Bd Boh ?_;have qc:=congrArg List.length hc;simp only[Aq]at qc;rcases Bh i decls.length with h' | h'
 .obtain⟨x,hx,hd,hm⟩:=Br h';rw[hd,Aw,Fd]at hc qc;simp only[Aq,An,Dc]at qc;obtain⟨e1,e2⟩:=A9r (hD x hm).kind;have hf:=A9q (hD x hm) AA (fun h5=>by omega);have a1:Al .add qa (De x++[59,10])=some (.str (qa++(De x++[59,10]))):=Ap (by grind) rfl;have qb:x.row=[iV x.kind,iV x.line,.str x.nm,iV x.size,iV x.init,.str x.on]:=rfl;rw[qb]at hf;simp only[go_sem,n1,Az h',Au,hx,qb];refine Ab hf AB ?_;simp only[go_sem,↓a1,A2 (show i<9223372036854775807 by omega)];refine Av (ih (i+1,qa++(De x++[59,10])) AA ⟨by omega,?_⟩) rfl
  grind
 .obtain rfl:i=decls.length:=by omega
  rw[D1 h']at hc;simp only[B0,Zg,Cc]at hc;subst hc;clear ih;simp only[go_sem,n1,Bl h'];refine Bk (α:=Nat × List UInt8 × St) (fun a=>thrs.length - a.1) (fun a=>[(1,.ptr 0 0 0),(3,.str a.2.1),(5,iV (a.1:Int))]) (fun a=>a.2.2) (fun a=>a.1<=thrs.length/\a.2.1++((thrs.drop a.1).map D9).flatten=(decls.map fun d=>De d++[59,10]).flatten++(thrs.map D9).flatten/\a.2.2[0]?=some (.row [SL dz dt (decls.map Dp.row),SL tz tt (thrs.map Tp.row)] 29 0 0)) ?_ (0,_,_) ⟨Ax _,rfl,rfl⟩;rintro⟨i,qa,s⟩ ⟨hi,hc,hs⟩ ih;simp only at hi hc hs ih;refine Bd Boj ?_;have qc:=congrArg List.length hc;simp only[Aq]at qc;rcases Bh i thrs.length with h' | h'
  .obtain⟨x,hx,hd,hm⟩:=Br h';rw[hd,Aw,Fd]at hc qc;rw[Aq]at qc;have qx:=hT x hm;obtain⟨nm,line,lz,lt,locals,bz,bt,body⟩:=x;simp only at qx
   have qk:(D9 ⟨nm,line,lz,lt,locals,bz,bt,body⟩).length=nm.length+(En locals).length+(Sp.txts 1 body).length+14:=by
    simp[D9];omega
   have hb:=Ajs bz bt 1 body (fun q hq=>At0 (qx q hq) 1 (by have:=Zz 1 hq;omega)) AA (by grind[Zu]);obtain⟨s',qr⟩:∃ s',s'=s++[Ob.row [.str nm,iV line,SL lz lt (locals.map fun x=>[V.str x]),SL bz bt (body.map Sp.row)] 84 0 0]:=⟨_,rfl⟩;have k1:s'[s.length]?=some (.row [.str nm,iV line,SL lz lt (locals.map fun x=>[V.str x]),SL bz bt (body.map Sp.row)] 84 0 0):=by rw[qr,F6 (Aj _),Is];rfl
   have k0:s'[0]?=some (.row [SL dz dt (decls.map Dp.row),SL tz tt (thrs.map Tp.row)] 29 0 0):=by rw[qr];exact By hs
   have qb:Tp.row ⟨nm,line,lz,lt,locals,bz,bt,body⟩=[.str nm,iV line,SL lz lt (locals.map fun x=>[V.str x]),SL bz bt (body.map Sp.row)]:=rfl;have a1:Al .add qa [116,104,114,101,97,100,32]=some (.str (qa++[116,104,114,101,97,100,32])):=Ap (by grind) rfl;have a2:Al .add (qa++[116,104,114,101,97,100,32]) nm=some (.str (qa++116::104::114::101::97::100::32::nm)):=Ap (by grind) AE;have a3:Al .add (qa++116::104::114::101::97::100::32::nm) [40]=some (.str (qa++116::104::114::101::97::100::32::(nm++[40]))):=Ap (by grind) AE;simp only[go_sem,hs,n2,Az h',Au,hx,qb,↓a1,↓a2,↓a3];rw[<-qr];refine A55 k1 _ AQ ?_;rw[show qa++116::104::114::101::97::100::32::(nm++[40])++En locals=qa++116::104::114::101::97::100::32::(nm++40::En locals) by simp];have a4:Al .add (qa++116::104::114::101::97::100::32::(nm++40::En locals)) [41,32,123,10]=some (.str (qa++116::104::114::101::97::100::32::(nm++40::(En locals++[41,32,123,10])))):=Ap AQ AE;have a5:Al .add (qa++116::104::114::101::97::100::32::(nm++40::(En locals++[41,32,123,10]))) (Sp.txts 1 body)=some (.str (qa++116::104::114::101::97::100::32::(nm++40::(En locals++41::32::123::10::Sp.txts 1 body)))):=Ap AQ AE;have a6:Al .add (qa++116::104::114::101::97::100::32::(nm++40::(En locals++41::32::123::10::Sp.txts 1 body))) [125,10]=some (.str (qa++116::104::114::101::97::100::32::(nm++40::(En locals++41::32::123::10::(Sp.txts 1 body++[125,10]))))):=Ap AQ AE;simp only[go_sem,k1,↓a4];refine Ab hb AB ?_;simp only[go_sem,↓a5,↓a6,A2 (show i<9223372036854775807 by omega)];refine Av (ih (i+1,qa++D9 ⟨nm,line,lz,lt,locals,bz,bt,body⟩,s') AA ⟨by omega,by grind,k0⟩) (by simp[D9];rfl)
  .obtain rfl:i=thrs.length:=by omega
   rw[D1 h']at hc;simp only[B0,Zg,Cc]at hc;subst hc;simp only[go_sem,hs,n2,Bl h'];exact Fw rfl
/-! shapes -/
def shH(op n:Int)(nm:List UInt8)(k:Nat):Bool:=
 Y9 op==(k:Int)&&((op==2||op==3)==!(nm==[])&&((!(op==2||op==3)||Bm nm)&&(decide (0<=n)&&(op==1||n==0))))
mutual
def Hv:Xp->Bool
 | ⟨op,n,nm,_,_,l⟩=>shH op n nm l.length&&Ahw l
def Ahw:List Xp->Bool
 | []=>true
 | x::l=>Hv x&&Ahw l
end
def At2:∀ l:List Xp,Ahw l=l.all Hv
 | []=>rfl
 | x::l=>by rw[Ahw,At2 l];rfl
def Bep(x:Xp):Hv x=(shH x.op x.n x.nm x.l.length&&x.l.all Hv):=by
 rw[<-At2];cases x;rfl
def Agb(x:Xp):Bool:=x.op==0&&(x.n==0&&(x.nm==[]&&x.l.isEmpty))
def Aow(s:Sp):Bool:=
 decide (1<=s.op)&&(decide (s.op<=15)&&((if F8 s.op then s.nm==[] else Bm s.nm)&&((if s.op=15 then Bm s.arg else s.arg==[]) &&
  (decide (s.idx.length<=1)&&((s.op==1||s.idx.isEmpty)&&(s.idx.all Hv&&((if Ek s.op then Hv s.ex else Agb s.ex) &&
   ((Bv s.op||s.body.isEmpty)&&(s.op==2||s.els.isEmpty)))))))))
mutual
def Pv:Sp->Bool
 | ⟨op,line,nm,arg,iz,it,idx,ex,bz,bt,body,ez,et,els⟩=>Aow ⟨op,line,nm,arg,iz,it,idx,ex,bz,bt,body,ez,et,els⟩&&(Ly body&&Ly els)
def Ly:List Sp->Bool
 | []=>true
 | x::l=>Pv x&&Ly l
end
def At3:∀ l:List Sp,Ly l=l.all Pv
 | []=>rfl
 | x::l=>by rw[Ly,At3 l];rfl
def Beq(s:Sp):Pv s=(Aow s&&(Ly s.body&&Ly s.els)):=by
 cases s;rfl
def Wm(d:Dp):Bool:=
 decide (1<=d.kind)&&(decide (d.kind<=6)&&(Bm d.nm&&(decide (0<=d.size)&&((d.kind==1||d.size==0)&&((if d.kind=5 then Bm d.on else d.on==[]) &&
  (decide (-9223372036854775808<d.init)&&(d.init==0||(d.kind==1||d.kind==2))))))))
def shT(t:Tp):Bool:=t.locals.all Bm&&(Bm t.nm&&Ly t.body)
def shG(p:Gp):Bool:=p.decls.all Wm&&(p.thrs.all shT&&!p.thrs.isEmpty)
/-! what is in range -/
/-! bulk -/
def Aff(z:Bool)(t:Nat)(rows:List (List V)):(SL z t rows).bulk=Cy rows+1:=by
 unfold SL
 split
 .rename_i h;rw[h.2];simp[V.bulk,Cy]
 .simp[V.bulk]
theorem G8(x:Xp):C3 x.row=4+x.nm.length+Cy (x.l.map Xp.row):=by
 rw[Bi];simp only[C3,V.bulk,Aff];omega
theorem N9(s:Sp):C3 s.row=7+s.nm.length+s.arg.length+Cy (s.idx.map Xp.row)+C3 s.ex.row+Cy (s.body.map Sp.row)+Cy (s.els.map Sp.row):=by
 rw[Sz];simp only[Air,C3,V.bulk,Aff];omega
theorem Bqi(d:Dp):C3 d.row=6+d.nm.length+d.on.length:=by
 simp only[Dp.row,C3,V.bulk];omega
theorem Ab1(t:Tp):C3 t.row=4+t.nm.length+Cy (t.locals.map fun s=>[V.str s])+Cy (t.body.map Sp.row):=by
 simp only[Tp.row,C3,V.bulk,Aff];omega
def Anw(p:Gp):C3 p.row=2+Cy (p.decls.map Dp.row)+Cy (p.thrs.map Tp.row):=by
 simp only[Gp.row,C3,Aff];omega
theorem J9{α:Type}{f:α->List V}:∀ {l:List α} {x:α},x∈l->C3 (f x)<=Cy (l.map f)
 | y::l,x,h=>by
  rw[Aw,Cy];rcases Bp.1 h with rfl | h
  .omega
  .have:=J9 (f:=f) h;omega
def L9{α:Type}{f:α->List V}(hf:∀ x,1<=C3 (f x)):∀ l:List α,l.length<=Cy (l.map f)
 | []=>by simp
 | x::l=>by
  rw[Aw,Cy,An];have:=L9 hf l;have:=hf x;omega
