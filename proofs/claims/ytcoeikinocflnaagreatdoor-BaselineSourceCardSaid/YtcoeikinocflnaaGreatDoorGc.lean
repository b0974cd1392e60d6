/- Walks: the reference's texts of statements. -/
import Derived.Test.YtcoeikinocflnaaGreatDoorGa
set_option linter.all false
namespace Go.Proofs.YtcoeikinocflnaaGreatDoor.KM
open Go
theorem Aqh(x:Xp):x.row.length=4:=by rw[Ax];rfl
theorem Lp(s:Sp):s.row.length=11:=by rw[Np,Ax];rfl
theorem Fi(s:Sp):Da (.agg s.row)=true:=by
 rw[Np,Ax];simp only[go_sem]
theorem A1l(s:Sp):s.row.take 11=s.row:=Jf (by rw[Lp];omega)
theorem Aor(d:Nat)(hd:d<=100000000000000):Fn TT PT 126 [.int .i64 (d:Int)] (.str (Dr d)):=by
 refine Bn T126 rfl ?_;simp only[go_sem];refine B9 (α:=Nat) (fun i=>d - i) (fun i=>[(0,.int .i64 (d:Int)),(3,.str (Dr i)),(4,.int .i64 (i:Int))]) (fun _=>[]) (fun i=>i<=d) ?_ 0 (A2 _);rintro i hi ih;refine Ca (by delta lp126_0;exact rfl) ?_;rcases Bx i d with h | h
 ·have a1:Ai .add (Dr i) [32,32]=some (.str (Dr (i+1))):=Ak (by simp[Dr];omega) (by
   unfold Dr;rw[show 2*(i+1)=2*i+2 by omega,<-List.replicate_append_replicate]
   rfl)
  simp only[go_sem,B7 h,↓a1,Bg (show i<9223372036854775807 by omega)];exact Bi (ih (i+1) (by omega) (by omega)) rfl
 ·obtain rfl:i=d:=by omega
  simp only[go_sem,Cr h];exact Ek rfl
theorem Hx(d:Nat):(Dr d).length=2*d:=by simp[Dr]
def F7(op:Int):List UInt8:=if Bq op then [32,123] else [59]
theorem Ahi(l:List Xp):(En l).length<=(match l with | a::_=>a.txt.length+2 | []=>0):=by
 cases l<;>simp[En]
theorem Aqi{s:Sp}(h:CnS s)(hl:(Ce s).length<=100000000000000):Fn TT PT 127 [.agg s.row] (.str (Ce s++F7 s.op)):=by
 obtain⟨h1,h2,h3,h4,h5,-,-,-,-⟩:=h;obtain⟨op,line,nm,arg,iz,it,idx,ex,bz,bt,body,ez,et,els⟩:=s;simp only at h1 h2 h3 h4 h5 hl ⊢;rw[Np];simp only;have hw:op=1\/op=2\/op=3\/op=4\/op=5\/op=6\/op=7\/op=8\/op=9\/op=10\/op=11\/op=12\/op=13\/op=14\/op=15:=by omega
 refine Bn T127 rfl ?_;rw[Ax];rcases hw with rfl | hw
 ·have hx:=Ty (h5 (.inl rfl));simp only[Ce,if_true,Ao,Am]at hl ⊢;have hx:=hx (by omega);rw[Ax]at hx
  cases idx with
  | nil=>
   simp only[En,Cx]at hl ⊢;have a1:Ai .add nm []=some (.str nm):=Ak (by simp;omega) (by simp);have a2:Ai .add nm [32,61,32]=some (.str (nm++[32,61,32])):=Ak (by simp;omega) rfl;have a3:Ai .add (nm++[32,61,32]) ex.txt=some (.str (nm++32::61::32::ex.txt)):=Ak (by simp;omega) (by simp);have a4:Ai .add (nm++32::61::32::ex.txt) [59]=some (.str (nm++32::61::32::(ex.txt++[59]))):=Ak (by simp;omega) (by simp);simp only[go_sem,Int.reduceBEq,Int.reduceLT];refine Ag (by kernel_rfl) ?_;simp only[go_sem,↓a1,↓a2];refine Bf hx (by simp only[go_sem]) ?_;simp only[go_sem,↓a3,↓a4];exact An rfl (by simp[F7,Bq])
  | cons a r=>
   have ha:=Ty (h4 a Ec);simp only[En,Am,Ao]at hl ⊢;have ha:=ha (by omega);rw[Ax]at ha;have r0:r=[]:=by simpa using h2
   subst r0;have a1:Ai .add [91] a.txt=some (.str (91::a.txt)):=Ak (by simp;omega) rfl;have a2:Ai .add (91::a.txt) [93]=some (.str (91::(a.txt++[93]))):=Ak (by simp;omega) (by simp);have a3:Ai .add nm (91::(a.txt++[93]))=some (.str (nm++91::(a.txt++[93]))):=Ak (by simp;omega) rfl;have a4:Ai .add (nm++91::(a.txt++[93])) [32,61,32]=some (.str (nm++91::(a.txt++[93,32,61,32]))):=Ak (by simp;omega) (by simp);have a5:Ai .add (nm++91::(a.txt++[93,32,61,32])) ex.txt=some (.str (nm++91::(a.txt++93::32::61::32::ex.txt))):=Ak (by simp;omega) (by simp);have a6:Ai .add (nm++91::(a.txt++93::32::61::32::ex.txt)) [59]=some (.str (nm++91::(a.txt++93::32::61::32::(ex.txt++[59])))):=Ak (by simp;omega) (by simp);simp only[Ba,Bs];rw[Ax a];simp only[go_sem,Int.reduceBEq,Int.reduceLT];refine Ad ha (by simp only[go_sem]) ?_;simp only[go_sem,↓a1,↓a2];refine Ag (by kernel_rfl) ?_;simp only[go_sem,↓a3,↓a4];refine Bf hx (by simp only[go_sem]) ?_;simp only[go_sem,↓a5,↓a6];exact An rfl (by simp[F7,Bq])
 rcases hw with rfl | hw
 ·simp only[Ce,Cu,F7,Bq]at hl ⊢;simp at hl;have hx:=Ty (h5 (by omega)) (by omega);rw[Ax]at hx;have a1:Ai .add ([105,102,32]) (ex.txt)=some (.str (105::102::32::ex.txt)):=Ak (by simp;try omega) (by simp);have a2:Ai .add (105::102::32::ex.txt) ([32,123])=some (.str (105::102::32::(ex.txt++[32,123]))):=Ak (by simp;try omega) (by simp);simp only[go_sem,Int.reduceBEq,Int.reduceLT];refine Ad hx (by simp only[go_sem]) ?_;simp only[go_sem,↓a1,↓a2];exact An rfl (by simp)
 rcases hw with rfl | hw
 ·simp only[Ce,Cu,F7,Bq]at hl ⊢;simp at hl;have hx:=Ty (h5 (by omega)) (by omega);rw[Ax]at hx;have a1:Ai .add ([119,104,105,108,101,32]) (ex.txt)=some (.str (119::104::105::108::101::32::ex.txt)):=Ak (by simp;try omega) (by simp);have a2:Ai .add (119::104::105::108::101::32::ex.txt) ([32,123])=some (.str (119::104::105::108::101::32::(ex.txt++[32,123]))):=Ak (by simp;try omega) (by simp);simp only[go_sem,Int.reduceBEq,Int.reduceLT];refine Ad hx (by simp only[go_sem]) ?_;simp only[go_sem,↓a1,↓a2];exact An rfl (by simp)
 rcases hw with rfl | hw
 ·simp only[Ce,Cu,F7,Bq]at hl ⊢;simp at hl;have a1:Ai .add ([108,111,99,107,32]) (nm)=some (.str (108::111::99::107::32::nm)):=Ak (by simp;try omega) (by simp);have a2:Ai .add (108::111::99::107::32::nm) ([32,123])=some (.str (108::111::99::107::32::(nm++[32,123]))):=Ak (by simp;try omega) (by simp);simp only[go_sem,Int.reduceBEq,Int.reduceLT,↓a1,↓a2];exact An rfl (by simp)
 rcases hw with rfl | hw
 ·simp only[Ce,Cu,F7,Bq]at hl ⊢;simp at hl;have a1:Ai .add ([114,101,97,100,32]) (nm)=some (.str (114::101::97::100::32::nm)):=Ak (by simp;try omega) (by simp);have a2:Ai .add (114::101::97::100::32::nm) ([32,123])=some (.str (114::101::97::100::32::(nm++[32,123]))):=Ak (by simp;try omega) (by simp);simp only[go_sem,Int.reduceBEq,Int.reduceLT,↓a1,↓a2];exact An rfl (by simp)
 rcases hw with rfl | hw
 ·simp only[Ce,Cu,F7,Bq]at hl ⊢;simp at hl;have a1:Ai .add ([119,114,105,116,101,32]) (nm)=some (.str (119::114::105::116::101::32::nm)):=Ak (by simp;try omega) (by simp);have a2:Ai .add (119::114::105::116::101::32::nm) ([32,123])=some (.str (119::114::105::116::101::32::(nm++[32,123]))):=Ak (by simp;try omega) (by simp);simp only[go_sem,Int.reduceBEq,Int.reduceLT,↓a1,↓a2];exact An rfl (by simp)
 rcases hw with rfl | hw
 ·simp only[Ce,Cu,F7,Bq]at hl ⊢;simp at hl;simp only[go_sem,Int.reduceBEq,Int.reduceLT];exact An rfl (by simp)
 rcases hw with rfl | hw
 ·simp only[Ce,Cu,F7,Bq]at hl ⊢;simp at hl;simp only[go_sem,Int.reduceBEq,Int.reduceLT];exact An rfl (by simp)
 rcases hw with rfl | hw
 ·simp only[Ce,Cu,F7,Bq]at hl ⊢;simp at hl;have a1:Ai .add ([119,97,105,116,32]) (nm)=some (.str (119::97::105::116::32::nm)):=Ak (by simp;try omega) (by simp);have a2:Ai .add (119::97::105::116::32::nm) ([59])=some (.str (119::97::105::116::32::(nm++[59]))):=Ak (by simp;try omega) (by simp);simp only[go_sem,Int.reduceBEq,Int.reduceLT,↓a1,↓a2];exact An rfl (by simp)
 rcases hw with rfl | hw
 ·simp only[Ce,Cu,F7,Bq]at hl ⊢;simp at hl;have a1:Ai .add ([110,111,116,105,102,121,32]) (nm)=some (.str (110::111::116::105::102::121::32::nm)):=Ak (by simp;try omega) (by simp);have a2:Ai .add (110::111::116::105::102::121::32::nm) ([59])=some (.str (110::111::116::105::102::121::32::(nm++[59]))):=Ak (by simp;try omega) (by simp);simp only[go_sem,Int.reduceBEq,Int.reduceLT,↓a1,↓a2];exact An rfl (by simp)
 rcases hw with rfl | hw
 ·simp only[Ce,Cu,F7,Bq]at hl ⊢;simp at hl;have a1:Ai .add ([110,111,116,105,102,121,97,108,108,32]) (nm)=some (.str (110::111::116::105::102::121::97::108::108::32::nm)):=Ak (by simp;try omega) (by simp);have a2:Ai .add (110::111::116::105::102::121::97::108::108::32::nm) ([59])=some (.str (110::111::116::105::102::121::97::108::108::32::(nm++[59]))):=Ak (by simp;try omega) (by simp);simp only[go_sem,Int.reduceBEq,Int.reduceLT,↓a1,↓a2];exact An rfl (by simp)
 rcases hw with rfl | hw
 ·simp only[Ce,Cu,F7,Bq]at hl ⊢;simp at hl;have a1:Ai .add ([115,112,97,119,110,32]) (nm)=some (.str (115::112::97::119::110::32::nm)):=Ak (by simp;try omega) (by simp);have a2:Ai .add (115::112::97::119::110::32::nm) ([59])=some (.str (115::112::97::119::110::32::(nm++[59]))):=Ak (by simp;try omega) (by simp);simp only[go_sem,Int.reduceBEq,Int.reduceLT,↓a1,↓a2];exact An rfl (by simp)
 rcases hw with rfl | hw
 ·simp only[Ce,Cu,F7,Bq]at hl ⊢;simp at hl;have a1:Ai .add ([106,111,105,110,32]) (nm)=some (.str (106::111::105::110::32::nm)):=Ak (by simp;try omega) (by simp);have a2:Ai .add (106::111::105::110::32::nm) ([59])=some (.str (106::111::105::110::32::(nm++[59]))):=Ak (by simp;try omega) (by simp);simp only[go_sem,Int.reduceBEq,Int.reduceLT,↓a1,↓a2];exact An rfl (by simp)
 rcases hw with rfl | hw
 ·simp only[Ce,Cu,F7,Bq]at hl ⊢;simp at hl;have hx:=Ty (h5 (by omega)) (by omega);rw[Ax]at hx;have a1:Ai .add ([115,101,116,32]) (nm)=some (.str (115::101::116::32::nm)):=Ak (by simp;try omega) (by simp);have a2:Ai .add (115::101::116::32::nm) ([32])=some (.str (115::101::116::32::(nm++[32]))):=Ak (by simp;try omega) (by simp);have a3:Ai .add (115::101::116::32::(nm++[32])) (ex.txt)=some (.str (115::101::116::32::(nm++32::ex.txt))):=Ak (by simp;try omega) (by simp);have a4:Ai .add (115::101::116::32::(nm++32::ex.txt)) ([59])=some (.str (115::101::116::32::(nm++32::(ex.txt++[59])))):=Ak (by simp;try omega) (by simp);simp only[go_sem,Int.reduceBEq,Int.reduceLT];refine Ag (by kernel_rfl) ?_;simp only[go_sem,↓a1,↓a2];refine Bf hx (by simp only[go_sem]) ?_;simp only[go_sem,↓a3,↓a4];exact An rfl (by simp)
 subst hw;simp only[Ce,Cu,F7,Bq]at hl ⊢;simp at hl;have a1:Ai .add ([103,101,116,32]) (nm)=some (.str (103::101::116::32::nm)):=Ak (by simp;try omega) (by simp);have a2:Ai .add (103::101::116::32::nm) ([32])=some (.str (103::101::116::32::(nm++[32]))):=Ak (by simp;try omega) (by simp);have a3:Ai .add (103::101::116::32::(nm++[32])) (arg)=some (.str (103::101::116::32::(nm++32::arg))):=Ak (by simp;try omega) (by simp);have a4:Ai .add (103::101::116::32::(nm++32::arg)) ([59])=some (.str (103::101::116::32::(nm++32::(arg++[59])))):=Ak (by simp;try omega) (by simp);simp only[go_sem,Int.reduceBEq,Int.reduceLT,↓a1,↓a2,↓a3,↓a4];exact An rfl (by simp)
theorem J6(d:Nat)(x:Sp)(l:List Sp):Sp.txts d (x::l)=x.txt d++Sp.txts d l:=by rw[Sp.txts]
theorem Aaw(z:Bool)(t d:Nat)(l:List Sp)(h:∀ s∈l,Fn TT PT 91 [.agg s.row,.int .i64 (d:Int)] (.str (s.txt d)))(hl:(Sp.txts d l).length<=100000000000000)(hll:l.length<=9223372036854775806):Fn TT PT 49 [SL z t (l.map Sp.row),.int .i64 (d:Int)] (.str (Sp.txts d l)):=by
 refine Bn T49 rfl ?_;have hlm:(l.map Sp.row).length=l.length:=Bl ..;simp only[go_sem];refine B9 (α:=Nat × List UInt8) (fun a=>l.length - a.1) (fun a=>[(0,SL z t (l.map Sp.row)),(1,.int .i64 (d:Int)),(5,.str a.2),(6,.int .i64 (a.1:Int))]) (fun _=>[]) (fun a=>a.1<=l.length/\a.2++Sp.txts d (l.drop a.1)=Sp.txts d l) ?_ (0,[]) ⟨A2 _,rfl⟩;rintro⟨i,acc⟩ ⟨hi,hacc⟩ ih;simp only at hi hacc ih;refine Ca (by delta lp49_0;exact rfl) ?_;rcases Bx i l.length with h' | h'
 ·obtain⟨x,hx,hd,hm⟩:=Dd h';rw[hd,J6]at hacc;have hlen:=congrArg List.length hacc;simp only[Ao]at hlen;have hr:=Lp x;have ht:=A1l x;have a1:Ai .add acc (x.txt d)=some (.str (acc++x.txt d)):=Ak (by omega) rfl;simp only[go_sem,hlm,B7 h',Bb,hx,hr,ht];refine Ad (h x hm) (by simp only[Au,A1,S8,Fi x,Al6]) ?_;simp only[go_sem,↓a1,Bg (show i<9223372036854775807 by omega)];exact Bi (ih (i+1,acc++x.txt d) (by simp;omega) ⟨by simp;omega,by simp only;rw[E4];exact hacc⟩) rfl
 ·obtain rfl:i=l.length:=by omega
  rw[Fk h',show Sp.txts d []=[] by rw[Sp.txts],Cw]at hacc;rw[<-hacc];simp only[go_sem,hlm,Cr h'];exact Ek rfl
theorem I0(d:Nat)(s:Sp):s.txt d=Dr d++(Ce s++if Bq s.op then 32::123::10::(Sp.txts (d+1) s.body++((if s.els.isEmpty then [] else Dr d++125::32::101::108::115::101::32::123::10::Sp.txts (d+1) s.els)++(Dr d++[125,10]))) else [59,10]):=by
 obtain⟨op,line,nm,arg,iz,it,idx,ex,bz,bt,body,ez,et,els⟩:=s;rw[Sp.txt]
theorem To(d:Nat):∀ {l:List Sp} {x:Sp},x∈l->(x.txt d).length<=(Sp.txts d l).length
 | y::l,x,h=>by
  rw[J6,Ao];rcases Be.1 h with rfl | h
  ·omega
  ·have:=To d h;omega
theorem Ti(l:List Sp)(d:Nat):l.length<=(Sp.txts d l).length:=by
 induction l with
 | nil=>simp
 | cons x l ih=>
  rw[J6,Ao,I0];simp only[Ao,Am]
  split
  ·simp;omega
  ·simp;omega
theorem Aos{s:Sp}(h:CnS s):∀ (d:Nat) (D:Int),max D 0=(d:Int)->(s.txt d).length<=100000000000000->Fn TT PT 91 [.agg s.row,.int .i64 D] (.str (s.txt d)):=by
 induction h with
 | @mk s h1 h2 h3 h4 h5 h6 h7 h8 h9 ihb ihe=>
  intro d D mx hl;have hs:CnS s:=.mk h1 h2 h3 h4 h5 h6 h7 h8 h9;rw[I0]at hl ⊢;simp only[Ao,Hx]at hl;have hh:=Aqi hs (by omega);have hi:=Aor d (by omega);have hset:=Fi s;have hop:=h1;generalize hH:Ce s=H at hl hh ⊢;have g1:(s.op<1)=False:=eq_false (by omega);have g2:(15<s.op)=False:=eq_false (by omega);refine Bn T91 rfl ?_;rw[Np,Ax]at hh hset ⊢;simp only[Ox,Es]at hh hset ⊢;cases hb:Bq s.op
  ·have g3:(s.op<2)=True/\(s.op<2)=True\/(s.op<2)=False/\(8<s.op)=True:=by
    unfold Bq at hb;by_cases hlt:s.op<2
    ·exact .inl ⟨eq_true hlt,eq_true hlt⟩
    ·refine .inr ⟨eq_false hlt,eq_true ?_⟩
     have:¬ s.op<=8:=fun h8=>by
      rw[decide_eq_true (by omega),decide_eq_true h8]at hb;cases hb
     omega
   simp only[F7,hb]at hh;have a1:Ai .add (Dr d) (H++[59])=some (.str (Dr d++(H++[59]))):=Ak (by simp[Hx];omega) rfl;have a2:Ai .add (Dr d++(H++[59])) [10]=some (.str (Dr d++(H++[59,10]))):=Ak (by simp[Hx];omega) (by simp);rcases g3 with⟨g3,g4⟩ | ⟨g3,g4⟩
   all_goals
    simp only[go_sem,g1,g2,mx];refine Ad hi (by simp only[go_sem]) ?_;simp only[go_sem];refine Ad hh (by simp only[go_sem]) ?_;simp only[go_sem,↓a1,↓a2,g3,g4];exact An rfl (by simp)
  ·rw[hb]at hl;rw[if_pos rfl]at hl ⊢;simp only[Am,Ao,Hx,Cx]at hl;have hle:=Ti s.body (d+1);have hbd:=Aaw s.bz s.bt (d+1) s.body (fun x hx=>ihb x hx (d+1) _ (by omega) (by have:=To (d+1) hx;omega)) (by omega) (by omega);have hle2:=Ti s.els (d+1)
   have g3:(s.op<2)=False/\(8<s.op)=False:=by
    unfold Bq at hb;simp only[Af,decide_eq_true_eq]at hb;exact⟨eq_false (by omega),eq_false (by omega)⟩
   obtain⟨g3,g4⟩:=g3;simp only[F7,hb,if_true]at hh;have hil:=Hx d;have hinc:=Bg (show d<9223372036854775807 by omega);have hbn:(s.body.map Sp.row).length=s.body.length:=Bl ..;have hen:(s.els.map Sp.row).length=s.els.length:=Bl ..;generalize hT:Dr d=T at hl hi hil ⊢;generalize hBB:Sp.txts (d+1) s.body=B at hl hbd hle ⊢;have a1:Ai .add T (H++[32,123])=some (.str (T++(H++[32,123]))):=Ak (by simp;omega) rfl;have a2:Ai .add (T++(H++[32,123])) [10]=some (.str (T++(H++[32,123,10]))):=Ak (by simp;omega) (by simp);have a3:Ai .add (T++(H++[32,123,10])) B=some (.str (T++(H++32::123::10::B))):=Ak (by simp;omega) (by simp);have a4:Ai .add (T++(H++32::123::10::B)) T=some (.str (T++(H++32::123::10::(B++T)))):=Ak (by simp;omega) (by simp)
   cases hels:s.els with
   | nil=>
    rw[hels]at hl hen hh;simp only[Bs]at hh;have e0:((0:Int)<((([]:List Sp).map Sp.row).length:Int))=False:=eq_false (by simp);have a5:Ai .add (T++(H++32::123::10::(B++T))) [125,10]=some (.str (T++(H++32::123::10::(B++(T++[125,10]))))):=Ak (by simp;omega) (by simp);simp only[go_sem,g1,g2,mx];refine Ad hi (by simp only[go_sem]) ?_;simp only[go_sem];refine Ad hh (by simp only[go_sem]) ?_;simp only[go_sem,↓a1,↓a2,g3,g4,hinc];refine Ad hbd (by simp only[go_sem]) ?_;simp only[go_sem,↓a3,Int.reduceLT,↓a4,↓a5];exact An rfl (by simp)
   | cons y ys=>
    rw[hels]at hl hen hle2 hh;simp only[Ba]at hh;have hed:=Aaw s.ez s.et (d+1) (y::ys) (fun x hx=>ihe x (by rw[hels];exact hx) (d+1) _ (by omega) (by have:=To (d+1) hx;simp at hl;omega)) (by simp at hl;omega) (by simp at hl;omega);simp only[Ba]at hed;have e0:((0:Int)<((ys.length+1:Nat):Int))=True:=eq_true (by omega);generalize hEE:Sp.txts (d+1) (y::ys)=E at hl hed hle2 ⊢;simp only[List.isEmpty_cons,Er,if_false,Ao,Am]at hl;have a5:Ai .add (T++(H++32::123::10::(B++T))) [125,32,101,108,115,101,32,123,10]=some (.str (T++(H++32::123::10::(B++(T++[125,32,101,108,115,101,32,123,10]))))):=Ak (by simp;omega) (by simp);have a6:Ai .add (T++(H++32::123::10::(B++(T++[125,32,101,108,115,101,32,123,10])))) E=some (.str (T++(H++32::123::10::(B++(T++125::32::101::108::115::101::32::123::10::E))))):=Ak (by simp;omega) (by simp);have a7:Ai .add (T++(H++32::123::10::(B++(T++125::32::101::108::115::101::32::123::10::E)))) T=some (.str (T++(H++32::123::10::(B++(T++125::32::101::108::115::101::32::123::10::(E++T)))))):=Ak (by simp;omega) (by simp);have a8:Ai .add (T++(H++32::123::10::(B++(T++125::32::101::108::115::101::32::123::10::(E++T))))) [125,10]=some (.str (T++(H++32::123::10::(B++(T++125::32::101::108::115::101::32::123::10::(E++(T++[125,10]))))))):=Ak (by simp;omega) (by simp);simp only[go_sem,g1,g2,mx];refine Ad hi (by simp only[go_sem]) ?_;simp only[go_sem];refine Ad hh (by simp only[go_sem]) ?_;simp only[go_sem,↓a1,↓a2,g3,g4,hinc];refine Ad hbd (by simp only[go_sem]) ?_;simp only[go_sem,↓a3,Bl,e0,↓a4,↓a5,hinc];refine Ad hed (by simp only[go_sem,Ba]) ?_;simp only[go_sem,↓a6,↓a7,↓a8];exact An rfl (by simp)
theorem Ahj{s:Sp}(h:CnS s)(d:Nat)(hl:(s.txt d).length<=100000000000000):Fn TT PT 91 [.agg s.row,.int .i64 (d:Int)] (.str (s.txt d)):=Aos h d _ (by omega) hl
