/- Walks: the reference's texts of statements. -/
import Derived.Test.YthlbbjcbmojocacGreatDoorYa
set_option linter.all false
namespace Go.Proofs.YthlbbjcbmojocacGreatDoor.KM
open Go
def A21(x:Xp):x.row.length=4:=by rw[Bf];rfl
def Nf(s:Sp):s.row.length=11:=by rw[Q4,Bf];rfl
def Gu(s:Sp):Dl (.agg s.row)=true:=by
 rw[Q4,Bf];simp only[go_sem]
def Bib(s:Sp):s.row.take 11=s.row:=Kz (by rw[Nf];omega)
def A0d(d:Nat)(hd:d<=100000000000000):Fn TT PT 122 [iV (d:Int)] (.str (El d)):=by
 refine Bo T122 rfl ?_;simp only[go_sem];refine Bn (α:=Nat) (fun i=>d - i) (fun i=>[(0,iV (d:Int)),(3,.str (El i)),(4,iV (i:Int))]) (fun _=>[]) (fun i=>i<=d) ?_ 0 (Au _);rintro i hi ih;refine Bl Bbw ?_;rcases Be i d with h | h
 .have a1:Ao .add (El i) [32,32]=some (.str (El (i+1))):=Aq (by simp[El];omega) (by
   unfold El;rw[show 2*(i+1)=2*i+2 by omega,<-List.replicate_append_replicate]
   rfl)
  simp only[go_sem,A0 h,↓a1,A2 (show i<9223372036854775807 by omega)];exact As (ih (i+1) (by omega) (by omega)) rfl
 .obtain rfl:i=d:=by omega
  simp only[go_sem,Bq h];exact Gm rfl
def Jv(d:Nat):(El d).length=2*d:=by simp[El]
def Ht(op:Int):List UInt8:=if B4 op then [32,123] else [59]
def Apz(l:List Xp):(F4 l).length<=(match l with | a::_=>a.txt.length+2 | []=>0):=by
 cases l<;>simp[F4]
def A22{s:Sp}(h:CnS s)(hl:(Cv s).length<=100000000000000):Fn TT PT 123 [.agg s.row] (.str (Cv s++Ht s.op)):=by
 obtain⟨h1,h2,h3,h4,h5,-,-,-,-⟩:=h;obtain⟨op,line,nm,arg,iz,it,idx,ex,bz,bt,body,ez,et,els⟩:=s;simp only at h1 h2 h3 h4 h5 hl ⊢;rw[Q4];simp only;have hw:op=1\/op=2\/op=3\/op=4\/op=5\/op=6\/op=7\/op=8\/op=9\/op=10\/op=11\/op=12\/op=13\/op=14\/op=15:=by omega
 refine Bo T123 rfl ?_;rw[Bf];rcases hw with rfl | hw
 .have hx:=Yg (h5 (.inl rfl));simp only[Cv,if_true,Al,Am]at hl ⊢;have hx:=hx (by omega);rw[Bf]at hx
  cases idx with
  | nil=>
   simp only[F4,C9]at hl ⊢;have a1:Ao .add nm []=some (.str nm):=Aq (by simp;omega) (by simp);have a2:Ao .add nm [32,61,32]=some (.str (nm++[32,61,32])):=Aq (by simp;omega) rfl;have a3:Ao .add (nm++[32,61,32]) ex.txt=some (.str (nm++32::61::32::ex.txt)):=Aq (by simp;omega) (by simp);have a4:Ao .add (nm++32::61::32::ex.txt) [59]=some (.str (nm++32::61::32::(ex.txt++[59]))):=Aq (by simp;omega) (by simp);simp only[go_sem,Int.reduceBEq,Int.reduceLT];refine Ag (by kernel_rfl) ?_;simp only[go_sem,↓a1,↓a2];refine Bk hx (by simp only[go_sem]) ?_;simp only[go_sem,↓a3,↓a4];exact An rfl (by simp[Ht,B4])
  | cons a r=>
   have ha:=Yg (h4 a C5);simp only[F4,Am,Al]at hl ⊢;have ha:=ha (by omega);rw[Bf]at ha;have r0:r=[]:=by simpa using h2
   subst r0;have a1:Ao .add [91] a.txt=some (.str (91::a.txt)):=Aq (by simp;omega) rfl;have a2:Ao .add (91::a.txt) [93]=some (.str (91::(a.txt++[93]))):=Aq (by simp;omega) (by simp);have a3:Ao .add nm (91::(a.txt++[93]))=some (.str (nm++91::(a.txt++[93]))):=Aq (by simp;omega) rfl;have a4:Ao .add (nm++91::(a.txt++[93])) [32,61,32]=some (.str (nm++91::(a.txt++[93,32,61,32]))):=Aq (by simp;omega) (by simp);have a5:Ao .add (nm++91::(a.txt++[93,32,61,32])) ex.txt=some (.str (nm++91::(a.txt++93::32::61::32::ex.txt))):=Aq (by simp;omega) (by simp);have a6:Ao .add (nm++91::(a.txt++93::32::61::32::ex.txt)) [59]=some (.str (nm++91::(a.txt++93::32::61::32::(ex.txt++[59])))):=Aq (by simp;omega) (by simp);simp only[Bb,B7];rw[Bf a];simp only[go_sem,Int.reduceBEq,Int.reduceLT];refine Ad ha (by simp only[go_sem]) ?_;simp only[go_sem,↓a1,↓a2];refine Ag (by kernel_rfl) ?_;simp only[go_sem,↓a3,↓a4];refine Bk hx (by simp only[go_sem]) ?_;simp only[go_sem,↓a5,↓a6];exact An rfl (by simp[Ht,B4])
 rcases hw with rfl | hw
 .simp only[Cv,C8,Ht,B4]at hl ⊢;simp at hl;have hx:=Yg (h5 (by omega)) (by omega);rw[Bf]at hx;have a1:Ao .add ([105,102,32]) (ex.txt)=some (.str (105::102::32::ex.txt)):=Aq (by simp;try omega) (by simp);have a2:Ao .add (105::102::32::ex.txt) ([32,123])=some (.str (105::102::32::(ex.txt++[32,123]))):=Aq (by simp;try omega) (by simp);simp only[go_sem,Int.reduceBEq,Int.reduceLT];refine Ad hx (by simp only[go_sem]) ?_;simp only[go_sem,↓a1,↓a2];exact An rfl (by simp)
 rcases hw with rfl | hw
 .simp only[Cv,C8,Ht,B4]at hl ⊢;simp at hl;have hx:=Yg (h5 (by omega)) (by omega);rw[Bf]at hx;have a1:Ao .add ([119,104,105,108,101,32]) (ex.txt)=some (.str (119::104::105::108::101::32::ex.txt)):=Aq (by simp;try omega) (by simp);have a2:Ao .add (119::104::105::108::101::32::ex.txt) ([32,123])=some (.str (119::104::105::108::101::32::(ex.txt++[32,123]))):=Aq (by simp;try omega) (by simp);simp only[go_sem,Int.reduceBEq,Int.reduceLT];refine Ad hx (by simp only[go_sem]) ?_;simp only[go_sem,↓a1,↓a2];exact An rfl (by simp)
 rcases hw with rfl | hw
 .simp only[Cv,C8,Ht,B4]at hl ⊢;simp at hl;have a1:Ao .add ([108,111,99,107,32]) (nm)=some (.str (108::111::99::107::32::nm)):=Aq (by simp;try omega) (by simp);have a2:Ao .add (108::111::99::107::32::nm) ([32,123])=some (.str (108::111::99::107::32::(nm++[32,123]))):=Aq (by simp;try omega) (by simp);simp only[go_sem,Int.reduceBEq,Int.reduceLT,↓a1,↓a2];exact An rfl (by simp)
 rcases hw with rfl | hw
 .simp only[Cv,C8,Ht,B4]at hl ⊢;simp at hl;have a1:Ao .add ([114,101,97,100,32]) (nm)=some (.str (114::101::97::100::32::nm)):=Aq (by simp;try omega) (by simp);have a2:Ao .add (114::101::97::100::32::nm) ([32,123])=some (.str (114::101::97::100::32::(nm++[32,123]))):=Aq (by simp;try omega) (by simp);simp only[go_sem,Int.reduceBEq,Int.reduceLT,↓a1,↓a2];exact An rfl (by simp)
 rcases hw with rfl | hw
 .simp only[Cv,C8,Ht,B4]at hl ⊢;simp at hl;have a1:Ao .add ([119,114,105,116,101,32]) (nm)=some (.str (119::114::105::116::101::32::nm)):=Aq (by simp;try omega) (by simp);have a2:Ao .add (119::114::105::116::101::32::nm) ([32,123])=some (.str (119::114::105::116::101::32::(nm++[32,123]))):=Aq (by simp;try omega) (by simp);simp only[go_sem,Int.reduceBEq,Int.reduceLT,↓a1,↓a2];exact An rfl (by simp)
 rcases hw with rfl | hw
 .simp only[Cv,C8,Ht,B4]at hl ⊢;simp at hl;simp only[go_sem,Int.reduceBEq,Int.reduceLT];exact An rfl (by simp)
 rcases hw with rfl | hw
 .simp only[Cv,C8,Ht,B4]at hl ⊢;simp at hl;simp only[go_sem,Int.reduceBEq,Int.reduceLT];exact An rfl (by simp)
 rcases hw with rfl | hw
 .simp only[Cv,C8,Ht,B4]at hl ⊢;simp at hl;have a1:Ao .add ([119,97,105,116,32]) (nm)=some (.str (119::97::105::116::32::nm)):=Aq (by simp;try omega) (by simp);have a2:Ao .add (119::97::105::116::32::nm) ([59])=some (.str (119::97::105::116::32::(nm++[59]))):=Aq (by simp;try omega) (by simp);simp only[go_sem,Int.reduceBEq,Int.reduceLT,↓a1,↓a2];exact An rfl (by simp)
 rcases hw with rfl | hw
 .simp only[Cv,C8,Ht,B4]at hl ⊢;simp at hl;have a1:Ao .add ([110,111,116,105,102,121,32]) (nm)=some (.str (110::111::116::105::102::121::32::nm)):=Aq (by simp;try omega) (by simp);have a2:Ao .add (110::111::116::105::102::121::32::nm) ([59])=some (.str (110::111::116::105::102::121::32::(nm++[59]))):=Aq (by simp;try omega) (by simp);simp only[go_sem,Int.reduceBEq,Int.reduceLT,↓a1,↓a2];exact An rfl (by simp)
 rcases hw with rfl | hw
 .simp only[Cv,C8,Ht,B4]at hl ⊢;simp at hl;have a1:Ao .add ([110,111,116,105,102,121,97,108,108,32]) (nm)=some (.str (110::111::116::105::102::121::97::108::108::32::nm)):=Aq (by simp;try omega) (by simp);have a2:Ao .add (110::111::116::105::102::121::97::108::108::32::nm) ([59])=some (.str (110::111::116::105::102::121::97::108::108::32::(nm++[59]))):=Aq (by simp;try omega) (by simp);simp only[go_sem,Int.reduceBEq,Int.reduceLT,↓a1,↓a2];exact An rfl (by simp)
 rcases hw with rfl | hw
 .simp only[Cv,C8,Ht,B4]at hl ⊢;simp at hl;have a1:Ao .add ([115,112,97,119,110,32]) (nm)=some (.str (115::112::97::119::110::32::nm)):=Aq (by simp;try omega) (by simp);have a2:Ao .add (115::112::97::119::110::32::nm) ([59])=some (.str (115::112::97::119::110::32::(nm++[59]))):=Aq (by simp;try omega) (by simp);simp only[go_sem,Int.reduceBEq,Int.reduceLT,↓a1,↓a2];exact An rfl (by simp)
 rcases hw with rfl | hw
 .simp only[Cv,C8,Ht,B4]at hl ⊢;simp at hl;have a1:Ao .add ([106,111,105,110,32]) (nm)=some (.str (106::111::105::110::32::nm)):=Aq (by simp;try omega) (by simp);have a2:Ao .add (106::111::105::110::32::nm) ([59])=some (.str (106::111::105::110::32::(nm++[59]))):=Aq (by simp;try omega) (by simp);simp only[go_sem,Int.reduceBEq,Int.reduceLT,↓a1,↓a2];exact An rfl (by simp)
 rcases hw with rfl | hw
 .simp only[Cv,C8,Ht,B4]at hl ⊢;simp at hl;have hx:=Yg (h5 (by omega)) (by omega);rw[Bf]at hx;have a1:Ao .add ([115,101,116,32]) (nm)=some (.str (115::101::116::32::nm)):=Aq (by simp;try omega) (by simp);have a2:Ao .add (115::101::116::32::nm) ([32])=some (.str (115::101::116::32::(nm++[32]))):=Aq (by simp;try omega) (by simp);have a3:Ao .add (115::101::116::32::(nm++[32])) (ex.txt)=some (.str (115::101::116::32::(nm++32::ex.txt))):=Aq (by simp;try omega) (by simp);have a4:Ao .add (115::101::116::32::(nm++32::ex.txt)) ([59])=some (.str (115::101::116::32::(nm++32::(ex.txt++[59])))):=Aq (by simp;try omega) (by simp);simp only[go_sem,Int.reduceBEq,Int.reduceLT];refine Ag (by kernel_rfl) ?_;simp only[go_sem,↓a1,↓a2];refine Bk hx (by simp only[go_sem]) ?_;simp only[go_sem,↓a3,↓a4];exact An rfl (by simp)
 subst hw;simp only[Cv,C8,Ht,B4]at hl ⊢;simp at hl;have a1:Ao .add ([103,101,116,32]) (nm)=some (.str (103::101::116::32::nm)):=Aq (by simp;try omega) (by simp);have a2:Ao .add (103::101::116::32::nm) ([32])=some (.str (103::101::116::32::(nm++[32]))):=Aq (by simp;try omega) (by simp);have a3:Ao .add (103::101::116::32::(nm++[32])) (arg)=some (.str (103::101::116::32::(nm++32::arg))):=Aq (by simp;try omega) (by simp);have a4:Ao .add (103::101::116::32::(nm++32::arg)) ([59])=some (.str (103::101::116::32::(nm++32::(arg++[59])))):=Aq (by simp;try omega) (by simp);simp only[go_sem,Int.reduceBEq,Int.reduceLT,↓a1,↓a2,↓a3,↓a4];exact An rfl (by simp)
def Nc(d:Nat)(x:Sp)(l:List Sp):Sp.txts d (x::l)=x.txt d++Sp.txts d l:=by rw[Sp.txts]
def Ag5(z:Bool)(t d:Nat)(l:List Sp)(h:∀ s∈l,Fn TT PT 74 [.agg s.row,iV (d:Int)] (.str (s.txt d)))(hl:(Sp.txts d l).length<=100000000000000)(qM:l.length<=9223372036854775806):Fn TT PT 43 [SL z t (l.map Sp.row),iV (d:Int)] (.str (Sp.txts d l)):=by
 refine Bo T43 rfl ?_;have qC:(l.map Sp.row).length=l.length:=Ap ..;simp only[go_sem];refine Bn (α:=Nat × List UInt8) (fun a=>l.length - a.1) (fun a=>[(0,SL z t (l.map Sp.row)),(1,iV (d:Int)),(5,.str a.2),(6,iV (a.1:Int))]) (fun _=>[]) (fun a=>a.1<=l.length/\a.2++Sp.txts d (l.drop a.1)=Sp.txts d l) ?_ (0,[]) ⟨Au _,rfl⟩;rintro⟨i,qs⟩ ⟨hi,qg⟩ ih;simp only at hi qg ih;refine Bl Bg6 ?_;rcases Be i l.length with h' | h'
 .obtain⟨x,hx,hd,hm⟩:=By h';rw[hd,Nc]at qg;have qy:=congrArg List.length qg;simp only[Al]at qy;have hr:=Nf x;have ht:=Bib x;have a1:Ao .add qs (x.txt d)=some (.str (qs++x.txt d)):=Aq (by omega) rfl;simp only[go_sem,qC,A0 h',Aj,hx,hr,ht];refine Ad (h x hm) (by simp only[Aw,Bi,U5,Gu x,Av6]) ?_;simp only[go_sem,↓a1,A2 (show i<9223372036854775807 by omega)];exact As (ih (i+1,qs++x.txt d) (by simp;omega) ⟨by simp;omega,by simp only;rw[Da];exact qg⟩) rfl
 .obtain rfl:i=l.length:=by omega
  rw[Fo h',show Sp.txts d []=[] by rw[Sp.txts],B3]at qg;rw[<-qg];simp only[go_sem,qC,Bq h'];exact Gm rfl
def Lr(d:Nat)(s:Sp):s.txt d=El d++(Cv s++if B4 s.op then 32::123::10::(Sp.txts (d+1) s.body++((if s.els.isEmpty then [] else El d++125::32::101::108::115::101::32::123::10::Sp.txts (d+1) s.els)++(El d++[125,10]))) else [59,10]):=by
 obtain⟨op,line,nm,arg,iz,it,idx,ex,bz,bt,body,ez,et,els⟩:=s;rw[Sp.txt]
def X7(d:Nat):∀ {l:List Sp} {x:Sp},x∈l->(x.txt d).length<=(Sp.txts d l).length
 | y::l,x,h=>by
  rw[Nc,Al];rcases Bj.1 h with rfl | h
  .omega
  .have:=X7 d h;omega
def X2(l:List Sp)(d:Nat):l.length<=(Sp.txts d l).length:=by
 induction l with
 | nil=>simp
 | cons x l ih=>
  rw[Nc,Al,Lr];simp only[Al,Am]
  split
  .simp;omega
  .simp;omega
def A0e{s:Sp}(h:CnS s):∀ (d:Nat) (D:Int),max D 0=(d:Int)->(s.txt d).length<=100000000000000->Fn TT PT 74 [.agg s.row,iV D] (.str (s.txt d)):=by
 induction h with
 | @mk s h1 h2 h3 h4 h5 h6 h7 h8 h9 ihb ihe=>
  intro d D mx hl;have hs:CnS s:=.mk h1 h2 h3 h4 h5 h6 h7 h8 h9;rw[Lr]at hl ⊢;simp only[Al,Jv]at hl;have hh:=A22 hs (by omega);have hi:=A0d d (by omega);have qc:=Gu s;have qf:=h1;generalize hH:Cv s=H at hl hh ⊢;have g1:(s.op<1)=False:=eq_false (by omega);have g2:(15<s.op)=False:=eq_false (by omega);refine Bo T74 rfl ?_;rw[Q4,Bf]at hh qc ⊢;simp only[Hz,Cr]at hh qc ⊢;cases hb:B4 s.op
  .have g3:(s.op<2)=True/\(s.op<2)=True\/(s.op<2)=False/\(8<s.op)=True:=by
    unfold B4 at hb;by_cases qn:s.op<2
    .exact .inl ⟨eq_true qn,eq_true qn⟩
    .refine .inr ⟨eq_false qn,eq_true ?_⟩
     have:¬ s.op<=8:=fun h8=>by
      rw[decide_eq_true (by omega),decide_eq_true h8]at hb;cases hb
     omega
   simp only[Ht,hb]at hh;have a1:Ao .add (El d) (H++[59])=some (.str (El d++(H++[59]))):=Aq (by simp[Jv];omega) rfl;have a2:Ao .add (El d++(H++[59])) [10]=some (.str (El d++(H++[59,10]))):=Aq (by simp[Jv];omega) (by simp);rcases g3 with⟨g3,g4⟩ | ⟨g3,g4⟩
   all_goals
    simp only[go_sem,g1,g2,mx];refine Ad hi (by simp only[go_sem]) ?_;simp only[go_sem];refine Ad hh (by simp only[go_sem]) ?_;simp only[go_sem,↓a1,↓a2,g3,g4];exact An rfl (by simp)
  .rw[hb]at hl;rw[if_pos rfl]at hl ⊢;simp only[Am,Al,Jv,C9]at hl;have qh:=X2 s.body (d+1);have qt:=Ag5 s.bz s.bt (d+1) s.body (fun x hx=>ihb x hx (d+1) _ (by omega) (by have:=X7 (d+1) hx;omega)) (by omega) (by omega);have qo:=X2 s.els (d+1)
   have g3:(s.op<2)=False/\(8<s.op)=False:=by
    unfold B4 at hb;simp only[Af,decide_eq_true_eq]at hb;exact⟨eq_false (by omega),eq_false (by omega)⟩
   obtain⟨g3,g4⟩:=g3;simp only[Ht,hb,if_true]at hh;have qr:=Jv d;have qj:=A2 (show d<9223372036854775807 by omega);have qa:(s.body.map Sp.row).length=s.body.length:=Ap ..;have qB:(s.els.map Sp.row).length=s.els.length:=Ap ..;generalize hT:El d=T at hl hi qr ⊢;generalize qK:Sp.txts (d+1) s.body=B at hl qt qh ⊢;have a1:Ao .add T (H++[32,123])=some (.str (T++(H++[32,123]))):=Aq (by simp;omega) rfl;have a2:Ao .add (T++(H++[32,123])) [10]=some (.str (T++(H++[32,123,10]))):=Aq (by simp;omega) (by simp);have a3:Ao .add (T++(H++[32,123,10])) B=some (.str (T++(H++32::123::10::B))):=Aq (by simp;omega) (by simp);have a4:Ao .add (T++(H++32::123::10::B)) T=some (.str (T++(H++32::123::10::(B++T)))):=Aq (by simp;omega) (by simp)
   cases hels:s.els with
   | nil=>
    rw[hels]at hl qB hh;simp only[B7]at hh;have e0:((0:Int)<((([]:List Sp).map Sp.row).length:Int))=False:=eq_false (by simp);have a5:Ao .add (T++(H++32::123::10::(B++T))) [125,10]=some (.str (T++(H++32::123::10::(B++(T++[125,10]))))):=Aq (by simp;omega) (by simp);simp only[go_sem,g1,g2,mx];refine Ad hi (by simp only[go_sem]) ?_;simp only[go_sem];refine Ad hh (by simp only[go_sem]) ?_;simp only[go_sem,↓a1,↓a2,g3,g4,qj];refine Ad qt (by simp only[go_sem]) ?_;simp only[go_sem,↓a3,Int.reduceLT,↓a4,↓a5];exact An rfl (by simp)
   | cons y ys=>
    rw[hels]at hl qB qo hh;simp only[Bb]at hh;have qw:=Ag5 s.ez s.et (d+1) (y::ys) (fun x hx=>ihe x (by rw[hels];exact hx) (d+1) _ (by omega) (by have:=X7 (d+1) hx;simp at hl;omega)) (by simp at hl;omega) (by simp at hl;omega);simp only[Bb]at qw;have e0:((0:Int)<((ys.length+1:Nat):Int))=True:=eq_true (by omega);generalize qL:Sp.txts (d+1) (y::ys)=E at hl qw qo ⊢;simp only[List.isEmpty_cons,F6,if_false,Al,Am]at hl;have a5:Ao .add (T++(H++32::123::10::(B++T))) [125,32,101,108,115,101,32,123,10]=some (.str (T++(H++32::123::10::(B++(T++[125,32,101,108,115,101,32,123,10]))))):=Aq (by simp;omega) (by simp);have a6:Ao .add (T++(H++32::123::10::(B++(T++[125,32,101,108,115,101,32,123,10])))) E=some (.str (T++(H++32::123::10::(B++(T++125::32::101::108::115::101::32::123::10::E))))):=Aq (by simp;omega) (by simp);have a7:Ao .add (T++(H++32::123::10::(B++(T++125::32::101::108::115::101::32::123::10::E)))) T=some (.str (T++(H++32::123::10::(B++(T++125::32::101::108::115::101::32::123::10::(E++T)))))):=Aq (by simp;omega) (by simp);have a8:Ao .add (T++(H++32::123::10::(B++(T++125::32::101::108::115::101::32::123::10::(E++T))))) [125,10]=some (.str (T++(H++32::123::10::(B++(T++125::32::101::108::115::101::32::123::10::(E++(T++[125,10]))))))):=Aq (by simp;omega) (by simp);simp only[go_sem,g1,g2,mx];refine Ad hi (by simp only[go_sem]) ?_;simp only[go_sem];refine Ad hh (by simp only[go_sem]) ?_;simp only[go_sem,↓a1,↓a2,g3,g4,qj];refine Ad qt (by simp only[go_sem]) ?_;simp only[go_sem,↓a3,Ap,e0,↓a4,↓a5,qj];refine Ad qw (by simp only[go_sem,Bb]) ?_;simp only[go_sem,↓a6,↓a7,↓a8];exact An rfl (by simp)
def Ap0{s:Sp}(h:CnS s)(d:Nat)(hl:(s.txt d).length<=100000000000000):Fn TT PT 74 [.agg s.row,iV (d:Int)] (.str (s.txt d)):=A0e h d _ (by omega) hl
def WB(s0 s:St)(b:Nat)(l:List UInt8):Prop:=(∃ u,BL s b u l)/\Cl s/\s0.length<=s.length/\∀ (j:Nat) (cs:List V) (e g z:Nat),j≠b->e≠5->s0[j]?=some (.row cs e g z)->s[j]?=some (.row cs e g z)
def Ap1{s:St}{b:Nat}{u:V}{l:List UInt8}(h:BL s b u l)(hc:Cl s):WB s s b l:=⟨⟨u,h⟩,hc,Ai _,fun _ _ _ _ _ _ _ h=>h⟩
def Js{s0 s1 s2:St}{b:Nat}{l l':List UInt8}(h1:WB s0 s1 b l)(h2:WB s1 s2 b l'):WB s0 s2 b l':=
 ⟨h2.1,h2.2.1,Cw h1.2.2.1 h2.2.2.1,fun j cs e g z hj he h=>h2.2.2.2 j cs e g z hj he (h1.2.2.2 j cs e g z hj he h)⟩
def Mi{s0 s:St}{b:Nat}{l:List UInt8}{cs:List V}{t:Nat}(h:WB s0 s b l)(hr:cs.all V.rowB=true):WB s0 (s++[.row cs t 0 0]) b l:=by
 obtain⟨⟨u,h1⟩,h2,h3,h4⟩:=h;refine⟨⟨u,A7i h1⟩,Iu h2 hr,by simp;omega,fun j cs e g z hj he h=>Bx (h4 j cs e g z hj he h)⟩
def Tq{s0 s:St}{b:Nat}{l:List UInt8}(h:WB s0 s b l):WB s s b l:=⟨h.1,h.2.1,Ai _,fun _ _ _ _ _ _ _ h=>h⟩
def Gx{s0 s:St}{b:Nat}{l:List UInt8}(h:WB s0 s b l)(t:List UInt8)(hb:l.length+t.length<=100000000000000):∃ s',Th TT PT 195 [.ptr b 0 0,.str t] s (.tup [iV (t.length:Int),.nili]) s'/\WB s0 s' b (l++t)/\WB s s' b (l++t):=by
 obtain⟨⟨u,h1⟩,h2,h3,h4⟩:=h;obtain⟨s',u',q1,q2,q3,q4,q5⟩:=A2v t h1 h2 hb
 have hw:WB s s' b (l++t):=by
  refine⟨⟨u',q2⟩,q3,q4,fun j cs e g z hj he hs=>?_⟩;rw[q5 j hj ?_ (Ak.1 hs).1]
  .exact hs
  .intro hm;obtain⟨p,-,-,hg⟩:=h1;rcases hg with⟨rfl,-⟩ | ⟨-,i,g',rfl,ho,-⟩
   .simp[V.refs]at hm
   .simp[V.refs]at hm;subst hm;rw[ho]at hs;simp at hs;exact he hs.2.1.symm
 exact⟨s',q1,Js ⟨⟨u,h1⟩,h2,h3,h4⟩ hw,hw⟩
def Uh{T:Nat->Option AF}{pr:Nat->Option (List V->Option V)}{f p:Nat}{res:List AR}{body:AC}{vs:List V}{v:V}{σ:St}{R:St->Prop}(hT:T f=some ⟨p,res,true,body,none⟩)(hl:vs.length=p)
  (h:W T pr [.c body] (Dd 0 vs) σ (Hd fun e' σ1=>Cd e' σ1 res=some v/\R σ1)) (hr:v.refs=[]) (ho:Cm v=true) (hR:∀ σ1,R σ1->σ.length<=σ1.length/\Cl σ1):∃ σ',Th T pr f vs σ v σ'/\R σ':=by
 obtain⟨e',σ1,hE,qz,h1⟩:=h;obtain⟨h2,h3⟩:=hR σ1 h1;exact⟨σ1,Ai3 hT hl ⟨e',σ1,hE,qz,rfl⟩ hr ho h2 h3,h1⟩
def Abo{x a:Xp}{i:Nat}(h:x.l[i]?=some a)(hi:i<2):Fn TT PT 245 [.agg x.row,iV (i:Int)] (.agg a.row):=by
 have qr:=(Ak.1 h).1;rw[Bf x];have qc:=Du a;have hn:(x.l.map Xp.row).length=x.l.length:=Ap ..;have g1:((x.l.length:Int)<=(i:Int))=False:=eq_false (by omega);refine Bo T245 rfl ?_;rw[Bf a]at qc ⊢;have qb:a.row=[iV a.op,iV a.n,.str a.nm,SL a.z a.t (a.l.map Xp.row)]:=Bf a;simp only[go_sem,hn,g1,Aj,h,qb];exact Gm qc
def Ado{x:Xp}(ho:1<=x.op/\x.op<=18){s0 s:St}{b:Nat}{l:List UInt8}(hx:∀ (s:St) (l:List UInt8),WB s s b l->l.length+x.txt.length<=10000000000000->∃ s',Th TT PT 234 [.ptr b 0 0,.agg x.row] s (.tup []) s'/\WB s s' b (l++x.txt))(qd:Int)(h:WB s0 s b l)(hl:l.length+(D7 (x.op,x.txt) qd).length<=10000000000000):
  ∃ s',Th TT PT 244 [.ptr b 0 0,.agg x.row,iV qd] s (.tup []) s'/\WB s s' b (l++D7 (x.op,x.txt) qd):=by
 have qf:=Wt ho;have qc:=Du x;have qq:=Tq h;refine Uh T244 rfl ?_ rfl rfl (fun σ1 h=>⟨h.2.2.1,h.2.1⟩);rw[Bf]at hx qc ⊢;have qb:([iV x.op,iV x.n,.str x.nm,SL x.z x.t (x.l.map Xp.row)]).all V.rowB=true:=qc;obtain⟨s1,e1⟩:∃ s1,s1=s++[Ob.row [iV x.op,iV x.n,.str x.nm,SL x.z x.t (x.l.map Xp.row)] 102 0 0]:=⟨_,rfl⟩;have w1:WB s s1 b l:=by rw[e1];exact Mi qq qb
 have k1:s1[s.length]?=some (.row [iV x.op,iV x.n,.str x.nm,SL x.z x.t (x.l.map Xp.row)] 102 0 0):=by rw[e1,Co (Ai _),Gf];rfl
 have qa:s.length≠b:=by
  obtain⟨⟨u,p,hb,-⟩,-⟩:=h;have:=(Ak.1 hb).1;omega
 unfold D7 at hl ⊢;by_cases qn:Bw x.op<qd
 .have f:(qd<=Bw x.op)=False:=eq_false (by omega);rw[if_pos qn]at hl ⊢;simp only[Am,Al,C9]at hl;obtain⟨s2,q2,w2,v2⟩:=Gx w1 [40] (by simp;omega);obtain⟨s3,q3,v3⟩:=hx s2 (l++[40]) (Tq w2) (by simp;omega);obtain⟨s4,q4,w4,v4⟩:=Gx (Js w2 v3) [41] (by simp;omega);have k2:=v2.2.2.2 s.length _ _ _ _ qa (by decide) k1;simp only[go_sem];refine Ad qf (by simp only[go_sem]) ?_;simp only[go_sem,f];rw[e1]at q2;refine Ck q2 ?_;simp only[go_sem,k2];refine Ck q3 ?_;simp only[go_sem];refine Ck q4 ?_;simp only[go_sem];exact⟨rfl,by have:=w4;simpa using this⟩
 .have f:(qd<=Bw x.op)=True:=eq_true (by omega);rw[if_neg qn]at hl ⊢;obtain⟨s3,q3,v3⟩:=hx s1 l (Tq w1) (by simp only at hl;omega);rw[e1]at q3;simp only[go_sem];refine Ad qf (by simp only[go_sem]) ?_;simp only[go_sem,f];refine Ck q3 ?_;simp only[go_sem];exact⟨rfl,Js w1 v3⟩
def A23{x:Xp}(h:Cn x):∀ (s:St) (b:Nat) (l:List UInt8),WB s s b l->l.length+x.txt.length<=10000000000000->∃ s',Th TT PT 234 [.ptr b 0 0,.agg x.row] s (.tup []) s'/\WB s s' b (l++x.txt):=by
 induction h with
 | @num n nm z t hn=>
  intro s b l h hl;rw[Fq]at hl ⊢;simp only[B7,Ed,if_true]at hl ⊢
  have qa:s.length≠b:=by
   obtain⟨⟨u,p,hb,-⟩,-⟩:=h;have:=(Ak.1 hb).1;omega
  have qf:=Wt (op:=1) (by omega);have hf:Oz [iV n,iV 10]=some (.str (C2 n)):=by unfold Oz;exact if_pos hn
  refine Uh T234 rfl ?_ rfl rfl (fun σ1 h=>⟨h.2.2.1,h.2.1⟩);rw[Bf];obtain⟨s1,e1⟩:∃ s1,s1=s++[Ob.row [iV 1,iV n,.str nm,SL z t []] 102 0 0,Ob.row [.str (Cs 1),iV (Bw 1)] 296 0 0]:=⟨_,rfl⟩
  have w1:WB s s1 b l:=by
   have:=Mi (Mi h (t:=102) (cs:=[iV 1,iV n,.str nm,SL z t []]) (by simp only[go_sem])) (t:=296) (cs:=[.str (Cs 1),iV (Bw 1)]) rfl;rw[e1];simpa using this
  obtain⟨s2,q2,w2,v2⟩:=Gx w1 (C2 n) (by omega);rw[e1]at q2;simp only[B7];simp only[go_sem];refine Ad qf (by simp only[go_sem]) ?_;simp only[go_sem,Int.reduceBEq];refine F7 P73 (by simp only[go_sem]) hf ?_;simp only[go_sem];refine Ck q2 ?_;simp only[go_sem];exact⟨rfl,w2⟩
 | @name n nm z t=>
  intro s b l h hl;rw[Fq]at hl ⊢;simp only[B7,Ed,show((2:Int)=1)=False from eq_false (by omega),if_false,if_true]at hl ⊢
  have qa:s.length≠b:=by
   obtain⟨⟨u,p,hb,-⟩,-⟩:=h;have:=(Ak.1 hb).1;omega
  have qf:=Wt (op:=2) (by omega);refine Uh T234 rfl ?_ rfl rfl (fun σ1 h=>⟨h.2.2.1,h.2.1⟩);rw[Bf];obtain⟨s1,e1⟩:∃ s1,s1=s++[Ob.row [iV 2,iV n,.str nm,SL z t []] 102 0 0,Ob.row [.str (Cs 2),iV (Bw 2)] 296 0 0]:=⟨_,rfl⟩
  have w1:WB s s1 b l:=by
   have:=Mi (Mi h (t:=102) (cs:=[iV 2,iV n,.str nm,SL z t []]) (by simp only[go_sem])) (t:=296) (cs:=[.str (Cs 2),iV (Bw 2)]) rfl;rw[e1];simpa using this
  obtain⟨s2,q2,w2,v2⟩:=Gx w1 nm (by omega);rw[e1]at q2;simp only[B7];have lv:(Bw 2==7)=true:=by decide
  simp only[go_sem];refine Ad qf (by simp only[go_sem]) ?_;simp only[go_sem,Int.reduceBEq,lv];refine Ck q2 ?_;simp only[go_sem];exact⟨rfl,w2⟩
 | @idx n nm z t a ha ih=>
  intro s b l h hl;rw[Fq]at hl ⊢;simp only[Bb,B7,Ed,show((3:Int)=1)=False from eq_false (by omega),show((3:Int)=2)=False from eq_false (by omega),if_false,if_true]at hl ⊢;have hl:l.length+nm.length+a.txt.length+2<=10000000000000:=by simp at hl;omega
  have qa:s.length≠b:=by
   obtain⟨⟨u,p,hb,-⟩,-⟩:=h;have:=(Ak.1 hb).1;omega
  have qf:=Wt (op:=3) (by omega);have qe:=Abo (x:=⟨3,n,nm,z,t,[a]⟩) (a:=a) (i:=0) rfl (by omega);refine Uh T234 rfl ?_ rfl rfl (fun σ1 h=>⟨h.2.2.1,h.2.1⟩);rw[Bf]at qe ⊢;simp only[Bb,B7]at qe ⊢;obtain⟨s1,e1⟩:∃ s1,s1=s++[Ob.row [iV 3,iV n,.str nm,SL z t [a.row]] 102 0 0,Ob.row [.str (Cs 3),iV (Bw 3)] 296 0 0]:=⟨_,rfl⟩
  have w1:WB s s1 b l:=by
   have:=Mi (Mi h (t:=102) (cs:=[iV 3,iV n,.str nm,SL z t [a.row]]) (by simp only[go_sem])) (t:=296) (cs:=[.str (Cs 3),iV (Bw 3)]) rfl;rw[e1];simpa using this
  have k1:s1[s.length]?=some (.row [iV 3,iV n,.str nm,SL z t [a.row]] 102 0 0):=by rw[e1,Co (Ai _),Gf];rfl
  obtain⟨s2,q2,w2,v2⟩:=Gx w1 nm (by omega);obtain⟨s3,q3,w3,v3⟩:=Gx w2 [91] (by simp;omega);have k3:=(Js v2 v3).2.2.2 s.length _ _ _ _ qa (by decide) k1
  have qh:D7 (a.op,a.txt) 1=a.txt:=by
   unfold D7;have:=(Adn (Rn ha)).2.1;exact if_neg (by simp only;omega)
  obtain⟨s4,q4,v4⟩:=Ado (Rn ha) (fun s l h hl=>ih s b l h hl) 1 w3 (by rw[qh];simp;omega);rw[qh]at v4;obtain⟨s5,q5,w5,v5⟩:=Gx (Js w3 v4) [93] (by simp;omega);rw[e1]at q2;have qA:=Du a;simp only[go_sem];refine Ad qf (by simp only[go_sem]) ?_;simp only[go_sem,Int.reduceBEq];refine Ck q2 ?_;simp only[go_sem];refine Ck q3 ?_;simp only[go_sem,k3];refine Ad qe (by simp only[go_sem]) ?_;simp only[go_sem];refine Ck q4 ?_;simp only[go_sem];refine Ck q5 ?_;simp only[go_sem];exact⟨rfl,by have:=w5;simpa using this⟩
 | @un op n nm z t a qp ha ih=>
  intro s b l h hl;have ho:1<=op/\op<=18:=by omega
  have qD:Bw op=6:=by rcases qp with rfl | rfl<;>rfl
  rw[Fq]at hl ⊢
  have e0:Ed op n nm [(a.op,a.txt)]=Cs op++D7 (a.op,a.txt) 6:=by
   unfold Ed;rw[if_neg (by omega),if_neg (by omega)];simp only;rw[if_neg (by omega)]
  simp only[Bb,B7,e0,Al]at hl ⊢;obtain⟨p1,p2⟩:=Nh (a.op,a.txt) 6;simp only at p1
  have qa:s.length≠b:=by
   obtain⟨⟨u,p,hb,-⟩,-⟩:=h;have:=(Ak.1 hb).1;omega
  have qf:=Wt ho;rw[qD]at qf;have qe:=Abo (x:=⟨op,n,nm,z,t,[a]⟩) (a:=a) (i:=0) rfl (by omega);refine Uh T234 rfl ?_ rfl rfl (fun σ1 h=>⟨h.2.2.1,h.2.1⟩);rw[Bf]at qe ⊢;simp only[Bb,B7]at qe ⊢;obtain⟨s1,e1⟩:∃ s1,s1=s++[Ob.row [iV op,iV n,.str nm,SL z t [a.row]] 102 0 0,Ob.row [.str (Cs op),iV 6] 296 0 0]:=⟨_,rfl⟩
  have w1:WB s s1 b l:=by
   have:=Mi (Mi h (t:=102) (cs:=[iV op,iV n,.str nm,SL z t [a.row]]) (by simp only[go_sem])) (t:=296) (cs:=[.str (Cs op),iV 6]) rfl;rw[e1];simpa using this
  have k1:s1[s.length]?=some (.row [iV op,iV n,.str nm,SL z t [a.row]] 102 0 0):=by rw[e1,Co (Ai _),Gf];rfl
  obtain⟨s2,q2,w2,v2⟩:=Gx w1 (Cs op) (by omega);have k2:=v2.2.2.2 s.length _ _ _ _ qa (by decide) k1;obtain⟨s3,q3,v3⟩:=Ado (Rn ha) (fun s l h hl=>ih s b l h hl) 6 w2 (by simp;omega);rw[e1]at q2;have b1:(op==1)=false:=by simp;omega
  have b3:(op==3)=false:=by simp;omega
  simp only[go_sem];refine Ad qf (by simp only[go_sem]) ?_;simp only[go_sem,Int.reduceBEq,b1,b3];refine Ck q2 ?_;simp only[go_sem,k2];refine Ad qe (by simp only[go_sem]) ?_;simp only[go_sem];refine Ck q3 ?_;simp only[go_sem];exact⟨rfl,by have:=Js w2 v3;simpa using this⟩
 | @bin op n nm z t a c qp ha hc iha ihc=>
  intro s b l h hl;have ho:1<=op/\op<=18:=by omega
  obtain⟨qN,qP,qQ⟩:=Adn ho
  have qD:Bw op<6:=by
   obtain⟨i,hi,rfl⟩:=Zh ho;have:((List.range 18).all fun i=>decide (5<=i->Bw ((i:Int)+1)<6))=true:=by decide
   exact of_decide_eq_true (Bp.1 this i (E1.2 hi)) (by omega)
  rw[Fq]at hl ⊢
  have e0:Ed op n nm [(a.op,a.txt),(c.op,c.txt)]=D7 (a.op,a.txt) (Ho op)++32::(Cs op++32::D7 (c.op,c.txt) (Bw op+1)):=by
   unfold Ed;rw[if_neg (by omega),if_neg (by omega)]
  simp only[Bb,B7,e0,Al,Am]at hl ⊢
  have qa:s.length≠b/\s.length+1≠b:=by
   obtain⟨⟨u,p,hb,-⟩,-⟩:=h;have:=(Ak.1 hb).1;omega
  have qf:=Wt ho;have qk:=Abo (x:=⟨op,n,nm,z,t,[a,c]⟩) (a:=a) (i:=0) rfl (by omega);have ql:=Abo (x:=⟨op,n,nm,z,t,[a,c]⟩) (a:=c) (i:=1) rfl (by omega);refine Uh T234 rfl ?_ rfl rfl (fun σ1 h=>⟨h.2.2.1,h.2.1⟩);rw[Bf]at qk ql ⊢;simp only[Bb,B7]at qk ql ⊢;obtain⟨s1,e1⟩:∃ s1,s1=s++[Ob.row [iV op,iV n,.str nm,SL z t [a.row,c.row]] 102 0 0,Ob.row [.str (Cs op),iV (Bw op)] 296 0 0]:=⟨_,rfl⟩
  have w1:WB s s1 b l:=by
   have:=Mi (Mi h (t:=102) (cs:=[iV op,iV n,.str nm,SL z t [a.row,c.row]]) (by simp only[go_sem])) (t:=296) (cs:=[.str (Cs op),iV (Bw op)]) rfl;rw[e1];simpa using this
  have k1:s1[s.length]?=some (.row [iV op,iV n,.str nm,SL z t [a.row,c.row]] 102 0 0):=by rw[e1,Co (Ai _),Gf];rfl
  have m1:s1[s.length+1]?=some (.row [.str (Cs op),iV (Bw op)] 296 0 0):=by rw[e1,Co (by omega),Nat.add_sub_cancel_left];rfl
  have qh:Ho op=(if(Bw op==3)=true then 4 else Bw op):=by unfold Ho;simp
  obtain⟨s2,q2,v2⟩:=Ado (Rn ha) (fun s l h hl=>iha s b l h hl) (Ho op) w1 (by omega);have k2:=v2.2.2.2 s.length _ _ _ _ qa.1 (by decide) k1;have m2:=v2.2.2.2 (s.length+1) _ _ _ _ qa.2 (by decide) m1;obtain⟨s3,q3,w3,v3⟩:=Gx v2 [32] (by simp;omega);have k3:=v3.2.2.2 s.length _ _ _ _ qa.1 (by decide) k2;have m3:=v3.2.2.2 (s.length+1) _ _ _ _ qa.2 (by decide) m2;obtain⟨s4,q4,w4,v4⟩:=Gx v3 (Cs op) (by simp;omega);have k4:=v4.2.2.2 s.length _ _ _ _ qa.1 (by decide) k3;have m4:=v4.2.2.2 (s.length+1) _ _ _ _ qa.2 (by decide) m3;obtain⟨s5,q5,w5,v5⟩:=Gx v4 [32] (by simp;omega);have k5:=v5.2.2.2 s.length _ _ _ _ qa.1 (by decide) k4;have m5:=v5.2.2.2 (s.length+1) _ _ _ _ qa.2 (by decide) m4;obtain⟨s6,q6,v6⟩:=Ado (Rn hc) (fun s l h hl=>ihc s b l h hl) (Bw op+1) v5 (by simp;omega);rw[e1]at q2;have b1:(op==1)=false:=by simp;omega
  have b3:(op==3)=false:=by simp;omega
  have b7:(Bw op==7)=false:=by simp;omega
  have b6:(Bw op==6)=false:=by simp;omega
  have wi:IntKind.i64.wrap (Bw op+1)=Bw op+1:=Ch (by omega)
  have qG:WB s s6 b (l++(D7 (a.op,a.txt) (Ho op)++32::(Cs op++32::D7 (c.op,c.txt) (Bw op+1)))):=by
   have:=Js w1 (Js v2 (Js v3 (Js v4 (Js v5 v6))));simpa using this
  cases h3:(Bw op==3)
  all_goals
   rw[h3]at qh;simp only[if_true,if_false,F6]at qh;rw[qh]at q2;simp only[go_sem];refine Ad qf (by simp only[go_sem]) ?_;simp only[go_sem,Int.reduceBEq,b1,b3,b7,b6,h3];refine Ad qk (by simp only[go_sem]) ?_;simp only[go_sem];refine Ck q2 ?_;simp only[go_sem];refine Ck q3 ?_;simp only[go_sem,m3];refine Ck q4 ?_;simp only[go_sem];refine Ck q5 ?_;simp only[go_sem];refine Ag (by kernel_rfl) ?_;simp only[go_sem,k5];refine Bk ql (by simp only[go_sem]) ?_;simp only[go_sem,m5,wi];refine Adh q6 (by repeat (first | exact trivial | refine⟨.inl (by rfl),?_⟩ | refine⟨by rfl,?_⟩ | refine⟨.inr ⟨by rfl,by rfl⟩,?_⟩)) (by repeat (first | exact trivial | refine⟨.inl (by rfl),?_⟩ | refine⟨by rfl,?_⟩ | refine⟨.inr ⟨by rfl,by rfl⟩,?_⟩)) ?_;simp only[go_sem];exact⟨rfl,qG⟩
def I6{vs:List V}{σ:St}{v:V}(h:vs.all Dl=true)(he:V.tup vs=v):FR (.tup vs) σ v:=he ▸ Hk h
def Atz{s0 s:St}{b:Nat}{l:List UInt8}(h:WB s0 s b l):∃ s',Un 219 5 [.ptr b 0 0] s=some (.str l,s'):=by
 obtain⟨⟨u,hu⟩,-⟩:=h;exact Bce hu
def Yh{x:Xp}(h:Cn x)(hl:x.txt.length<=10000000000000):Fn TT PT 220 [.agg x.row] (.str x.txt):=by
 have qc:=Du x;refine Bo T220 rfl ?_
 have w0:WB [.row x.row 102 0 0,.row [.nilp,.nils] 219 0 0] [.row x.row 102 0 0,.row [.nilp,.nils] 219 0 0] 1 []:=by
  refine Ap1 (u:=.nils) ⟨.nilp,rfl,.inl rfl,D5⟩ ?_;exact I8 (Iu (s:=[]) (fun _ h=>by cases h) (by rw[Bf];simp only[go_sem])) (by simp[Ob.refs,Ah,V.refs])
 obtain⟨s1,q1,v1⟩:=A23 h _ 1 [] w0 (by simpa using hl);obtain⟨s2,qE⟩:=Atz v1;rw[Cr]at qE;rw[Bf]at q1 qc ⊢;simp only[go_sem];refine Ck q1 ?_;simp only[go_sem];refine Ju (.spec T169 rfl rfl qE) ?_;simp only[go_sem];exact Gm rfl
def A24{s:Sp}(h:CnS s)(hl:(Cv s).length<=10000000000000):Fn TT PT 196 [.agg s.row] (.tup [.str (Cv s),.bool (B4 s.op)]):=by
 obtain⟨h1,h2,h3,h4,h5,-,-,-,-⟩:=h;obtain⟨op,line,nm,arg,iz,it,idx,ex,bz,bt,body,ez,et,els⟩:=s;simp only at h1 h2 h3 h4 h5 hl ⊢;rw[Q4];simp only;have hw:op=1\/op=2\/op=3\/op=4\/op=5\/op=6\/op=7\/op=8\/op=9\/op=10\/op=11\/op=12\/op=13\/op=14\/op=15:=by omega
 refine Bo T196 rfl ?_;rw[Bf];rcases hw with rfl | hw
 .have hx:=Yh (h5 (.inl rfl));simp only[Cv,if_true,Al,Am]at hl ⊢;have hx:=hx (by omega);rw[Bf]at hx
  cases idx with
  | nil=>
   simp only[F4,C9]at hl ⊢;have a2:Ao .add nm [32,61,32]=some (.str (nm++[32,61,32])):=Aq (by simp;omega) rfl;have a3:Ao .add (nm++[32,61,32]) ex.txt=some (.str (nm++32::61::32::ex.txt)):=Aq (by simp;omega) (by simp);simp only[go_sem,Int.reduceBEq,Int.reduceLT,↓a2];refine Ad hx (by simp only[go_sem]) ?_;simp only[go_sem,↓a3];exact I6 rfl (by simp[B4])
  | cons a r=>
   have ha:=Yh (h4 a C5);simp only[F4,Am,Al]at hl ⊢;have ha:=ha (by omega);rw[Bf]at ha;have r0:r=[]:=by simpa using h2
   subst r0;have a1:Ao .add [91] a.txt=some (.str (91::a.txt)):=Aq (by simp;omega) rfl;have a2:Ao .add (91::a.txt) [93]=some (.str (91::(a.txt++[93]))):=Aq (by simp;omega) (by simp);have a3:Ao .add nm (91::(a.txt++[93]))=some (.str (nm++91::(a.txt++[93]))):=Aq (by simp;omega) rfl;have a4:Ao .add (nm++91::(a.txt++[93])) [32,61,32]=some (.str (nm++91::(a.txt++[93,32,61,32]))):=Aq (by simp;omega) (by simp);have a5:Ao .add (nm++91::(a.txt++[93,32,61,32])) ex.txt=some (.str (nm++91::(a.txt++93::32::61::32::ex.txt))):=Aq (by simp;omega) (by simp);simp only[Bb,B7];rw[Bf a];simp only[go_sem,Int.reduceBEq,Int.reduceLT];refine Ad ha (by simp only[go_sem]) ?_;simp only[go_sem,↓a1,↓a2,↓a3,↓a4];refine Ad hx (by simp only[go_sem]) ?_;simp only[go_sem,↓a5];exact I6 rfl (by simp[B4])
 rcases hw with rfl | hw
 .simp only[Cv,C8,B4]at hl ⊢;simp at hl;have hx:=Yh (h5 (by omega)) (by omega);rw[Bf]at hx;have a1:Ao .add ([105,102,32]) (ex.txt)=some (.str (105::102::32::ex.txt)):=Aq (by simp;try omega) (by simp);simp only[go_sem,Int.reduceBEq,Int.reduceLT];refine Ad hx (by simp only[go_sem]) ?_;simp only[go_sem,↓a1];exact I6 rfl (by simp)
 rcases hw with rfl | hw
 .simp only[Cv,C8,B4]at hl ⊢;simp at hl;have hx:=Yh (h5 (by omega)) (by omega);rw[Bf]at hx;have a1:Ao .add ([119,104,105,108,101,32]) (ex.txt)=some (.str (119::104::105::108::101::32::ex.txt)):=Aq (by simp;try omega) (by simp);simp only[go_sem,Int.reduceBEq,Int.reduceLT];refine Ad hx (by simp only[go_sem]) ?_;simp only[go_sem,↓a1];exact I6 rfl (by simp)
 rcases hw with rfl | hw
 .simp only[Cv,C8,B4]at hl ⊢;simp at hl;have a1:Ao .add ([108,111,99,107,32]) (nm)=some (.str (108::111::99::107::32::nm)):=Aq (by simp;try omega) (by simp);simp only[go_sem,Int.reduceBEq,Int.reduceLT,↓a1];exact I6 rfl (by simp)
 rcases hw with rfl | hw
 .simp only[Cv,C8,B4]at hl ⊢;simp at hl;have a1:Ao .add ([114,101,97,100,32]) (nm)=some (.str (114::101::97::100::32::nm)):=Aq (by simp;try omega) (by simp);simp only[go_sem,Int.reduceBEq,Int.reduceLT,↓a1];exact I6 rfl (by simp)
 rcases hw with rfl | hw
 .simp only[Cv,C8,B4]at hl ⊢;simp at hl;have a1:Ao .add ([119,114,105,116,101,32]) (nm)=some (.str (119::114::105::116::101::32::nm)):=Aq (by simp;try omega) (by simp);simp only[go_sem,Int.reduceBEq,Int.reduceLT,↓a1];exact I6 rfl (by simp)
 rcases hw with rfl | hw
 .simp only[Cv,C8,B4]at hl ⊢;simp at hl;simp only[go_sem,Int.reduceBEq,Int.reduceLT];exact I6 rfl (by simp)
 rcases hw with rfl | hw
 .simp only[Cv,C8,B4]at hl ⊢;simp at hl;simp only[go_sem,Int.reduceBEq,Int.reduceLT];exact I6 rfl (by simp)
 rcases hw with rfl | hw
 .simp only[Cv,C8,B4]at hl ⊢;simp at hl;have a1:Ao .add ([119,97,105,116,32]) (nm)=some (.str (119::97::105::116::32::nm)):=Aq (by simp;try omega) (by simp);simp only[go_sem,Int.reduceBEq,Int.reduceLT,↓a1];exact I6 rfl (by simp)
 rcases hw with rfl | hw
 .simp only[Cv,C8,B4]at hl ⊢;simp at hl;have a1:Ao .add ([110,111,116,105,102,121,32]) (nm)=some (.str (110::111::116::105::102::121::32::nm)):=Aq (by simp;try omega) (by simp);simp only[go_sem,Int.reduceBEq,Int.reduceLT,↓a1];exact I6 rfl (by simp)
 rcases hw with rfl | hw
 .simp only[Cv,C8,B4]at hl ⊢;simp at hl;have a1:Ao .add ([110,111,116,105,102,121,97,108,108,32]) (nm)=some (.str (110::111::116::105::102::121::97::108::108::32::nm)):=Aq (by simp;try omega) (by simp);simp only[go_sem,Int.reduceBEq,Int.reduceLT,↓a1];exact I6 rfl (by simp)
 rcases hw with rfl | hw
 .simp only[Cv,C8,B4]at hl ⊢;simp at hl;have a1:Ao .add ([115,112,97,119,110,32]) (nm)=some (.str (115::112::97::119::110::32::nm)):=Aq (by simp;try omega) (by simp);simp only[go_sem,Int.reduceBEq,Int.reduceLT,↓a1];exact I6 rfl (by simp)
 rcases hw with rfl | hw
 .simp only[Cv,C8,B4]at hl ⊢;simp at hl;have a1:Ao .add ([106,111,105,110,32]) (nm)=some (.str (106::111::105::110::32::nm)):=Aq (by simp;try omega) (by simp);simp only[go_sem,Int.reduceBEq,Int.reduceLT,↓a1];exact I6 rfl (by simp)
 rcases hw with rfl | hw
 .simp only[Cv,C8,B4]at hl ⊢;simp at hl;have hx:=Yh (h5 (by omega)) (by omega);rw[Bf]at hx;have a1:Ao .add ([115,101,116,32]) (nm)=some (.str (115::101::116::32::nm)):=Aq (by simp;try omega) (by simp);have a2:Ao .add (115::101::116::32::nm) ([32])=some (.str (115::101::116::32::(nm++[32]))):=Aq (by simp;try omega) (by simp);have a3:Ao .add (115::101::116::32::(nm++[32])) (ex.txt)=some (.str (115::101::116::32::(nm++32::ex.txt))):=Aq (by simp;try omega) (by simp);simp only[go_sem,Int.reduceBEq,Int.reduceLT];refine Ag (by kernel_rfl) ?_;simp only[go_sem,↓a1,↓a2];refine Bk hx (by simp only[go_sem]) ?_;simp only[go_sem,↓a3];exact I6 rfl (by simp)
 subst hw;simp only[Cv,C8,B4]at hl ⊢;simp at hl;have a1:Ao .add ([103,101,116,32]) (nm)=some (.str (103::101::116::32::nm)):=Aq (by simp;try omega) (by simp);have a2:Ao .add (103::101::116::32::nm) ([32])=some (.str (103::101::116::32::(nm++[32]))):=Aq (by simp;try omega) (by simp);have a3:Ao .add (103::101::116::32::(nm++[32])) (arg)=some (.str (103::101::116::32::(nm++32::arg))):=Aq (by simp;try omega) (by simp);simp only[go_sem,Int.reduceBEq,Int.reduceLT,↓a1,↓a2,↓a3];exact I6 rfl (by simp)
mutual
def Sp.sz:Sp->Nat
 | ⟨_,_,_,_,_,_,_,_,_,_,body,_,_,els⟩=>1+Sp.szs body+Sp.szs els
def Sp.szs:List Sp->Nat
 | []=>0
 | x::l=>x.sz+Sp.szs l
end
def Mm(s:Sp):s.sz=1+Sp.szs s.body+Sp.szs s.els:=by
 obtain⟨op,line,nm,arg,iz,it,idx,ex,bz,bt,body,ez,et,els⟩:=s;rw[Sp.sz]
def Y1:∀ {l:List Sp} {x:Sp},x∈l->x.sz<=Sp.szs l
 | y::l,x,h=>by
  rw[Sp.szs];rcases Bj.1 h with rfl | h
  .omega
  .have:=Y1 h;omega
def A7q(d:Nat)(h:d<=1073741823):W7 [.str [32,32],iV (d:Int)]=some (.str (El d)):=by
 unfold W7;simp only;rw[if_pos (by simp;omega)];congr 2;unfold El;rw[Md];clear h
 induction d with
 | zero=>rfl
 | succ d ih=>
  rw[Lib.repeatL,ih,show 2*(d+1)=2+2*d by omega,<-List.replicate_append_replicate];rfl
def Fg(x:Sp):x.row=[iV x.op,iV x.line,.str x.nm,.str x.arg,SL x.iz x.it (x.idx.map Xp.row),iV x.ex.op,iV x.ex.n,.str x.ex.nm,SL x.ex.z x.ex.t (x.ex.l.map Xp.row),SL x.bz x.bt (x.body.map Sp.row),SL x.ez x.et (x.els.map Sp.row)]:=by
 rw[Q4,Bf];rfl
def Wr(x:Sp):Prop:=∀ (s:St) (b:Nat) (l:List UInt8) (d:Nat),WB s s b l->l.length+(x.txt d).length<=10000000000000->d+x.sz<=1073741823->∃ s',Th TT PT 168 [.ptr b 0 0,.agg x.row,iV (d:Int)] s (.tup []) s'/\WB s s' b (l++x.txt d)
def Ajb{s0 s:St}{b:Nat}{l:List UInt8}(h:WB s0 s b l)(x:Sp):WB s0 (s++[.row x.row 104 0 0]) b l:=Mi h (by
 have:=Gu x
 exact this)
def A25{K:List It}{Q:Env->St->Prop}{A6:V}{j4 b d:Nat}{z:Bool}{t:Nat}{L:List Sp}{s0 s:St}{l:List UInt8}(hW:∀ x∈L,Wr x)(h:WB s0 s b l)(hl:l.length+(Sp.txts (d+1) L).length<=10000000000000)(hd:d+1+Sp.szs L<=1073741823)(hn:L.length<=1000000000000000)
  (hk:∀ s',WB s0 s' b (l++Sp.txts (d+1) L)->W TT PT K [(0,.ptr b 0 0),(2,iV (d:Int)),(4,.ptr j4 0 0),(6,A6),(35,SL z t (L.map Sp.row)),(36,iV (L.length:Int)),(37,iV (L.length:Int))] s' Q) :
  W TT PT (.l [0,2,4,6,35,36,37] lp168_0::.b 0::K) [(0,.ptr b 0 0),(2,iV (d:Int)),(4,.ptr j4 0 0),(6,A6),(35,SL z t (L.map Sp.row)),(36,iV (L.length:Int)),(37,iV 0)] s Q:=by
 refine Bn (α:=Nat × St × List UInt8) (fun a=>L.length - a.1) (fun a=>[(0,.ptr b 0 0),(2,iV (d:Int)),(4,.ptr j4 0 0),(6,A6),(35,SL z t (L.map Sp.row)),(36,iV (L.length:Int)),(37,iV (a.1:Int))]) (fun a=>a.2.1) (fun a=>a.1<=L.length/\WB s0 a.2.1 b a.2.2/\a.2.2++Sp.txts (d+1) (L.drop a.1)=l++Sp.txts (d+1) L) ?_ (0,s,l) ⟨Au _,h,rfl⟩;rintro⟨i,s1,c⟩ ⟨hi,hw,hc⟩ ih;simp only at hi hw hc ih;refine Bl Bb4 ?_;have qi:=congrArg List.length hc;simp only[Al]at qi;rcases Be i L.length with h' | h'
 .obtain⟨x,hx,qv,hm⟩:=By h';rw[qv,Nc]at hc qi;rw[Al]at qi;have qH:=Y1 hm;obtain⟨s2,e2⟩:∃ s2,s2=s1++[Ob.row x.row 104 0 0]:=⟨_,rfl⟩;have w2:WB s0 s2 b c:=by rw[e2];exact Ajb hw x
  have k2:s2[s1.length]?=some (.row x.row 104 0 0):=by rw[e2,Co (Ai _),Gf];rfl
  obtain⟨s3,q3,v3⟩:=hW x hm s2 b c (d+1) (Tq w2) (by omega) (by omega);have qb:=Fg x;rw[qb]at e2 k2 q3;rw[e2]at q3 k2;simp only[go_sem,A0 h',Aj,hx,qb,A2 (show d<9223372036854775807 by omega)];refine Ck q3 ?_;simp only[go_sem,A2 (show i<9223372036854775807 by omega)];exact As (ih (i+1,s3,c++x.txt (d+1)) (by simp;omega) ⟨by simp;omega,Js w2 v3,by simp only;rw[Da];exact hc⟩) rfl
 .obtain rfl:i=L.length:=by omega
  rw[Fo h',show Sp.txts (d+1) []=[] by rw[Sp.txts],B3]at hc;subst hc;simp only[go_sem,Bq h'];exact hk s1 hw
def A26{K:List It}{Q:Env->St->Prop}{A6:V}{b d:Nat}{z:Bool}{t:Nat}{L:List Sp}{s0 s:St}{l:List UInt8}(hW:∀ x∈L,Wr x)(h:WB s0 s b l)(hl:l.length+(Sp.txts (d+1) L).length<=10000000000000)(hd:d+1+Sp.szs L<=1073741823)(hn:L.length<=1000000000000000)
  (hk:∀ s',WB s0 s' b (l++Sp.txts (d+1) L)->W TT PT K [(0,.ptr b 0 0),(2,iV (d:Int)),(6,A6),(57,SL z t (L.map Sp.row)),(58,iV (L.length:Int)),(59,iV (L.length:Int))] s' Q) :
  W TT PT (.l [0,2,6,57,58,59] lp168_1::.b 2::K) [(0,.ptr b 0 0),(2,iV (d:Int)),(6,A6),(57,SL z t (L.map Sp.row)),(58,iV (L.length:Int)),(59,iV 0)] s Q:=by
 refine Bn (α:=Nat × St × List UInt8) (fun a=>L.length - a.1) (fun a=>[(0,.ptr b 0 0),(2,iV (d:Int)),(6,A6),(57,SL z t (L.map Sp.row)),(58,iV (L.length:Int)),(59,iV (a.1:Int))]) (fun a=>a.2.1) (fun a=>a.1<=L.length/\WB s0 a.2.1 b a.2.2/\a.2.2++Sp.txts (d+1) (L.drop a.1)=l++Sp.txts (d+1) L) ?_ (0,s,l) ⟨Au _,h,rfl⟩;rintro⟨i,s1,c⟩ ⟨hi,hw,hc⟩ ih;simp only at hi hw hc ih;refine Bl Bb5 ?_;have qi:=congrArg List.length hc;simp only[Al]at qi;rcases Be i L.length with h' | h'
 .obtain⟨x,hx,qv,hm⟩:=By h';rw[qv,Nc]at hc qi;rw[Al]at qi;have qH:=Y1 hm;obtain⟨s2,e2⟩:∃ s2,s2=s1++[Ob.row x.row 104 0 0]:=⟨_,rfl⟩;have w2:WB s0 s2 b c:=by rw[e2];exact Ajb hw x
  have k2:s2[s1.length]?=some (.row x.row 104 0 0):=by rw[e2,Co (Ai _),Gf];rfl
  obtain⟨s3,q3,v3⟩:=hW x hm s2 b c (d+1) (Tq w2) (by omega) (by omega);have qb:=Fg x;rw[qb]at e2 k2 q3;rw[e2]at q3 k2;simp only[go_sem,A0 h',Aj,hx,qb,A2 (show d<9223372036854775807 by omega)];refine Ck q3 ?_;simp only[go_sem,A2 (show i<9223372036854775807 by omega)];exact As (ih (i+1,s3,c++x.txt (d+1)) (by simp;omega) ⟨by simp;omega,Js w2 v3,by simp only;rw[Da];exact hc⟩) rfl
 .obtain rfl:i=L.length:=by omega
  rw[Fo h',show Sp.txts (d+1) []=[] by rw[Sp.txts],B3]at hc;subst hc;simp only[go_sem,Bq h'];exact hk s1 hw
def A27{x:Sp}(h:CnS x):Wr x:=by
 induction h with
 | @mk x h1 h2 h3 h4 h5 h6 h7 h8 h9 ihb ihe=>
  intro s b l d h hl hd;have hs:CnS x:=.mk h1 h2 h3 h4 h5 h6 h7 h8 h9;rw[Mm]at hd
  have qa:s.length≠b:=by
   obtain⟨⟨u,p,hb,-⟩,-⟩:=h;have:=(Ak.1 hb).1;omega
  rw[Lr]at hl ⊢;simp only[Al,Jv]at hl;have hh:=A24 hs (by omega);have qm:=A7q d (by omega);have qc:=Gu x;have g0:(1073741823<(d:Int))=False:=eq_false (by omega);have qr:=Jv d;generalize hH:Cv x=H at hl hh ⊢;generalize hT:El d=T at hl qm qr ⊢;refine Uh T168 rfl ?_ rfl rfl (fun σ1 h=>⟨h.2.2.1,h.2.1⟩);obtain⟨s1,e1⟩:∃ s1,s1=s++[Ob.row x.row 104 0 0]:=⟨_,rfl⟩;have w1:WB s s1 b l:=by rw[e1];exact Ajb h x
  have k1:s1[s.length]?=some (.row x.row 104 0 0):=by rw[e1,Co (Ai _),Gf];rfl
  have qb:=Fg x;obtain⟨s2,q2,w2,v2⟩:=Gx w1 T (by omega);have k2:=v2.2.2.2 s.length _ _ _ _ qa (by decide) k1;obtain⟨s3,q3,w3,v3⟩:=Gx w2 H (by simp;omega);have k3:=v3.2.2.2 s.length _ _ _ _ qa (by decide) k2;rw[qb]at e1 k2 k3 hh ⊢;rw[e1]at q2;cases hb:B4 x.op
  .rw[hb]at hh hl;simp only[F6,if_false,Am,C9]at hl ⊢;obtain⟨s4,q4,w4,v4⟩:=Gx w3 [59,10] (by simp;omega);simp only[go_sem,g0];refine F7 P194 (by simp only[go_sem]) qm ?_;simp only[go_sem];refine Ck q2 ?_;simp only[go_sem,k2];refine Ad hh (by simp only[go_sem]) ?_;simp only[go_sem];refine Ck q3 ?_;simp only[go_sem];refine Ck q4 ?_;simp only[go_sem];exact⟨rfl,by simpa using w4⟩
  .rw[hb]at hh hl;simp only[if_true,Am,Al,C9]at hl ⊢;have lb:=X2 x.body (d+1);have le:=X2 x.els (d+1);have qu:(x.body.map Sp.row).length=x.body.length:=Ap ..;have qx:(x.els.map Sp.row).length=x.els.length:=Ap ..;obtain⟨s4,q4,w4,v4⟩:=Gx w3 [32,123,10] (by simp;omega);have k4:=v4.2.2.2 s.length _ _ _ _ qa (by decide) k3;simp only[go_sem,g0];refine F7 P194 (by simp only[go_sem]) qm ?_;simp only[go_sem];refine Ck q2 ?_;simp only[go_sem,k2];refine Ad hh (by simp only[go_sem]) ?_;simp only[go_sem];refine Ck q3 ?_;simp only[go_sem];refine Ck q4 ?_;simp only[go_sem,k4,qu];refine A25 (d:=d) (L:=x.body) (l:=l++T++H++[32,123,10]) ihb (Tq w4) (by simp;omega) (by omega) (by omega) fun s5 w5=>?_
   have k5:=w5.2.2.2 s.length _ _ _ _ qa (by decide) k4;have qF:=Js w4 w5
   cases hels:x.els with
   | nil=>
    have e0:((0:Int)<((([]:List Sp).map Sp.row).length:Int))=False:=eq_false (by simp);rw[hels]at k5 hl;simp only[B7]at k5;obtain⟨s6,q6,w6,v6⟩:=Gx qF T (by simp;omega);obtain⟨s7,q7,w7,v7⟩:=Gx w6 [125,10] (by simp;omega);simp only[go_sem,k5,Int.reduceLT];refine Ck q6 ?_;simp only[go_sem];refine Ck q7 ?_;simp only[go_sem];exact⟨rfl,by simpa using w7⟩
   | cons y ys=>
    rw[hels]at k5 hl le hd qx ihe;have e0:((0:Int)<((ys.length+1:Nat):Int))=True:=eq_true (by omega);simp only[List.isEmpty_cons,F6,if_false,Am,Al]at hl ⊢;obtain⟨s6,q6,w6,v6⟩:=Gx qF T (by simp;omega);have k6:=v6.2.2.2 s.length _ _ _ _ qa (by decide) k5;obtain⟨s7,q7,w7,v7⟩:=Gx w6 [125,32,101,108,115,101,32,123,10] (by simp;omega);have k7:=v7.2.2.2 s.length _ _ _ _ qa (by decide) k6;simp only[go_sem,k5,Ap,Am,e0];refine Ck q6 ?_;simp only[go_sem];refine Ck q7 ?_;simp only[go_sem,k7,Ap,Am];refine A26 (d:=d) (L:=y::ys) (l:=l++T++H++[32,123,10]++Sp.txts (d+1) x.body++T++[125,32,101,108,115,101,32,123,10]) ihe (Tq w7) (by simp;omega) (by omega) (by omega) fun s8 w8=>?_
    obtain⟨s9,q9,w9,v9⟩:=Gx (Js w7 w8) T (by simp;omega);obtain⟨qO,qI,qJ,qR⟩:=Gx w9 [125,10] (by simp;omega);simp only[go_sem];refine Ck q9 ?_;simp only[go_sem];refine Ck qI ?_;simp only[go_sem];exact⟨rfl,by simpa using qJ⟩
