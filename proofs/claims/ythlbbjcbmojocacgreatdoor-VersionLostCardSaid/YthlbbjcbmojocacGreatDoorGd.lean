/- Walks: the reference's texts of declarations and programs. -/
import Derived.Test.YthlbbjcbmojocacGreatDoorGc
import Derived.Lib.ParseIntB
set_option linter.all false
namespace Go.Proofs.YthlbbjcbmojocacGreatDoor.KM
open Go
def Ajc:∀ (k u:Nat),(Ny k u).length<=k
 | 0,_=>by simp[Ny]
 | k+1,u=>by
  have:=Ajc k (u / 10);unfold Ny
  split
  .simp
  .simp;omega
def V3(n:Int):(C2 n).length<=21:=by
 unfold C2
 split
 .have:=Ajc 20 n.natAbs;simp;omega
 .have:=Ajc 20 n.toNat
  omega
def A28{d:Dp}(h:CnD d)(hn:d.nm.length<=100000000000000)(ho:d.kind=5->d.on.length<=100000000000000):Fn TT PT 42 [.agg d.row] (.str (Fu d++[59,10])):=by
 obtain⟨⟨k1,k2⟩,⟨h0,h1,h2⟩,i1,i2,h3⟩:=h;obtain⟨kind,line,nm,size,init,on⟩:=d;simp only at k1 k2 h0 h1 h2 i1 i2 h3 hn ho;unfold Dp.row;simp only;have l1:=V3 size;have l2:=V3 init;have hk:kind=1\/kind=2\/kind=3\/kind=4\/kind=5\/kind=6:=by omega
 have qw:(size=0/\((0:Int)<0)=False/\True)\/(size≠0/\((0:Int)<size)=True/\Ws [iV size]=some (.str (C2 size))):=by
  by_cases hz:size=0
  .exact .inl ⟨hz,eq_false (by omega),trivial⟩
  .exact .inr ⟨hz,eq_true (by omega),by unfold Ws;exact if_pos ⟨by omega,h1⟩⟩
 have qn:(init=0/\((0:Int) != 0)=false/\True)\/(init≠0/\(init != 0)=true/\Oz [iV init,iV 10]=some (.str (C2 init))):=by
  by_cases hz:init=0
  .exact .inl ⟨hz,by decide,trivial⟩
  .exact .inr ⟨hz,by simp[hz],by unfold Oz;exact if_pos ⟨i1,i2⟩⟩
 rcases hk with rfl | hk
 .rcases qw with⟨rfl,z1,z2⟩ | ⟨z0,z1,z2⟩<;>rcases qn with⟨rfl,n1,n2⟩ | ⟨n0,n1,n2⟩
  .refine Bo T42 rfl ?_;have a1:Ao .add ([118,97,114,32]) (nm)=some (.str (118::97::114::32::nm)):=Aq (by simp;try omega) (by simp);have a2:Ao .add (118::97::114::32::nm) ([59,10])=some (.str (118::97::114::32::(nm++[59,10]))):=Aq (by simp;try omega) (by simp);simp only[go_sem,Int.reduceLT,Int.reduceBEq,gt_iff_lt,z1,n1];refine Ag (by kernel_rfl) ?_;simp only[go_sem,↓a1,↓a2];simp only[go_sem,z1,n1,Int.reduceBEq,↓a1,↓a2];exact An rfl (by simp[Fu,Lb])
  .refine Bo T42 rfl ?_;have a1:Ao .add ([118,97,114,32]) (nm)=some (.str (118::97::114::32::nm)):=Aq (by simp;try omega) (by simp);have a2:Ao .add (118::97::114::32::nm) ([32,61,32])=some (.str (118::97::114::32::(nm++[32,61,32]))):=Aq (by simp;try omega) (by simp);have a3:Ao .add (118::97::114::32::(nm++[32,61,32])) (C2 init)=some (.str (118::97::114::32::(nm++32::61::32::C2 init))):=Aq (by simp;try omega) (by simp);have a4:Ao .add (118::97::114::32::(nm++32::61::32::C2 init)) ([59,10])=some (.str (118::97::114::32::(nm++32::61::32::(C2 init++[59,10])))):=Aq (by simp;try omega) (by simp);simp only[go_sem,Int.reduceLT,Int.reduceBEq,gt_iff_lt,z1,n1];refine Ag (by kernel_rfl) ?_;simp only[go_sem,↓a1,↓a2,↓a3,↓a4];simp only[go_sem,z1,n1,Int.reduceBEq,↓a1,↓a2,↓a3,↓a4];refine F7 P73 (by simp only[go_sem]) n2 ?_;simp only[go_sem,z1,n1,Int.reduceBEq,↓a1,↓a2,↓a3,↓a4];exact An rfl (by simp[Fu,Lb,n0])
  .refine Bo T42 rfl ?_;have a1:Ao .add ([118,97,114,32]) (nm)=some (.str (118::97::114::32::nm)):=Aq (by simp;try omega) (by simp);have a2:Ao .add (118::97::114::32::nm) ([91])=some (.str (118::97::114::32::(nm++[91]))):=Aq (by simp;try omega) (by simp);have c1:Ao .add (118::97::114::32::(nm++[91])) (C2 size)=some (.str (118::97::114::32::(nm++91::C2 size))):=Aq (by simp;try omega) (by simp);have c2:Ao .add (118::97::114::32::(nm++91::C2 size)) [93]=some (.str (118::97::114::32::(nm++91::(C2 size++[93])))):=Aq (by simp;try omega) (by simp);have a3:Ao .add (118::97::114::32::(nm++91::(C2 size++[93]))) ([59,10])=some (.str (118::97::114::32::(nm++91::(C2 size++[93,59,10])))):=Aq (by simp;try omega) (by simp);simp only[go_sem,Int.reduceLT,Int.reduceBEq,gt_iff_lt,z1,n1];refine Ag (by kernel_rfl) ?_;simp only[go_sem,↓a1,↓a2,↓c1,↓c2,↓a3];simp only[go_sem,z1,↓a1,↓a2,↓c1,↓c2,↓a3];refine F7 P72 (by simp only[go_sem]) z2 ?_;simp only[go_sem,z1,n1,Int.reduceBEq,↓a1,↓a2,↓c1,↓c2,↓a3];exact An rfl (by simp[Fu,Lb,z0])
  .refine Bo T42 rfl ?_;have a1:Ao .add ([118,97,114,32]) (nm)=some (.str (118::97::114::32::nm)):=Aq (by simp;try omega) (by simp);have a2:Ao .add (118::97::114::32::nm) ([91])=some (.str (118::97::114::32::(nm++[91]))):=Aq (by simp;try omega) (by simp);have c1:Ao .add (118::97::114::32::(nm++[91])) (C2 size)=some (.str (118::97::114::32::(nm++91::C2 size))):=Aq (by simp;try omega) (by simp);have c2:Ao .add (118::97::114::32::(nm++91::C2 size)) [93]=some (.str (118::97::114::32::(nm++91::(C2 size++[93])))):=Aq (by simp;try omega) (by simp);have a3:Ao .add (118::97::114::32::(nm++91::(C2 size++[93]))) ([32,61,32])=some (.str (118::97::114::32::(nm++91::(C2 size++[93,32,61,32])))):=Aq (by simp;try omega) (by simp);have a4:Ao .add (118::97::114::32::(nm++91::(C2 size++[93,32,61,32]))) (C2 init)=some (.str (118::97::114::32::(nm++91::(C2 size++93::32::61::32::C2 init)))):=Aq (by simp;try omega) (by simp);have a5:Ao .add (118::97::114::32::(nm++91::(C2 size++93::32::61::32::C2 init))) ([59,10])=some (.str (118::97::114::32::(nm++91::(C2 size++93::32::61::32::(C2 init++[59,10]))))):=Aq (by simp;try omega) (by simp);simp only[go_sem,Int.reduceLT,Int.reduceBEq,gt_iff_lt,z1,n1];refine Ag (by kernel_rfl) ?_;simp only[go_sem,↓a1,↓a2,↓c1,↓c2,↓a3,↓a4,↓a5];simp only[go_sem,z1,↓a1,↓a2,↓c1,↓c2,↓a3,↓a4,↓a5];refine F7 P72 (by simp only[go_sem]) z2 ?_;simp only[go_sem,z1,n1,Int.reduceBEq,↓a1,↓a2,↓c1,↓c2,↓a3,↓a4,↓a5];refine F7 P73 (by simp only[go_sem]) n2 ?_;simp only[go_sem,z1,n1,Int.reduceBEq,↓a1,↓a2,↓c1,↓c2,↓a3,↓a4,↓a5];exact An rfl (by simp[Fu,Lb,z0,n0])
 rcases hk with rfl | hk
 .obtain rfl:size=0:=h2 (by omega);have z1:((0:Int)<0)=False:=eq_false (by omega);rcases qn with⟨rfl,n1,n2⟩ | ⟨n0,n1,n2⟩
  .refine Bo T42 rfl ?_;have a1:Ao .add ([118,111,108,97,116,105,108,101,32]) (nm)=some (.str (118::111::108::97::116::105::108::101::32::nm)):=Aq (by simp;try omega) (by simp);have a2:Ao .add (118::111::108::97::116::105::108::101::32::nm) ([59,10])=some (.str (118::111::108::97::116::105::108::101::32::(nm++[59,10]))):=Aq (by simp;try omega) (by simp);simp only[go_sem,Int.reduceLT,Int.reduceBEq,gt_iff_lt,z1,n1];refine Ag (by kernel_rfl) ?_;simp only[go_sem,↓a1,↓a2];simp only[go_sem,z1,n1,Int.reduceBEq,↓a1,↓a2];exact An rfl (by simp[Fu,Lb])
  .refine Bo T42 rfl ?_;have a1:Ao .add ([118,111,108,97,116,105,108,101,32]) (nm)=some (.str (118::111::108::97::116::105::108::101::32::nm)):=Aq (by simp;try omega) (by simp);have a2:Ao .add (118::111::108::97::116::105::108::101::32::nm) ([32,61,32])=some (.str (118::111::108::97::116::105::108::101::32::(nm++[32,61,32]))):=Aq (by simp;try omega) (by simp);have a3:Ao .add (118::111::108::97::116::105::108::101::32::(nm++[32,61,32])) (C2 init)=some (.str (118::111::108::97::116::105::108::101::32::(nm++32::61::32::C2 init))):=Aq (by simp;try omega) (by simp);have a4:Ao .add (118::111::108::97::116::105::108::101::32::(nm++32::61::32::C2 init)) ([59,10])=some (.str (118::111::108::97::116::105::108::101::32::(nm++32::61::32::(C2 init++[59,10])))):=Aq (by simp;try omega) (by simp);simp only[go_sem,Int.reduceLT,Int.reduceBEq,gt_iff_lt,z1,n1];refine Ag (by kernel_rfl) ?_;simp only[go_sem,↓a1,↓a2,↓a3,↓a4];simp only[go_sem,z1,n1,Int.reduceBEq,↓a1,↓a2,↓a3,↓a4];refine F7 P73 (by simp only[go_sem]) n2 ?_;simp only[go_sem,z1,n1,Int.reduceBEq,↓a1,↓a2,↓a3,↓a4];exact An rfl (by simp[Fu,Lb,n0])
 rcases hk with rfl | hk
 .obtain rfl:size=0:=h2 (by omega);obtain rfl:init=0:=h3 (by omega) (by omega);have z1:((0:Int)<0)=False:=eq_false (by omega);have n1:((0:Int) != 0)=false:=by decide
  refine Bo T42 rfl ?_;have a1:Ao .add ([109,117,116,101,120,32]) (nm)=some (.str (109::117::116::101::120::32::nm)):=Aq (by simp;try omega) (by simp);have a2:Ao .add (109::117::116::101::120::32::nm) ([59,10])=some (.str (109::117::116::101::120::32::(nm++[59,10]))):=Aq (by simp;try omega) (by simp);simp only[go_sem,Int.reduceLT,Int.reduceBEq,gt_iff_lt,z1,n1];refine Ag (by kernel_rfl) ?_;simp only[go_sem,↓a1,↓a2];simp only[go_sem,z1,n1,Int.reduceBEq,↓a1,↓a2];exact An rfl (by simp[Fu,Lb])
 rcases hk with rfl | hk
 .obtain rfl:size=0:=h2 (by omega);obtain rfl:init=0:=h3 (by omega) (by omega);have z1:((0:Int)<0)=False:=eq_false (by omega);have n1:((0:Int) != 0)=false:=by decide
  refine Bo T42 rfl ?_;have a1:Ao .add ([114,119,108,111,99,107,32]) (nm)=some (.str (114::119::108::111::99::107::32::nm)):=Aq (by simp;try omega) (by simp);have a2:Ao .add (114::119::108::111::99::107::32::nm) ([59,10])=some (.str (114::119::108::111::99::107::32::(nm++[59,10]))):=Aq (by simp;try omega) (by simp);simp only[go_sem,Int.reduceLT,Int.reduceBEq,gt_iff_lt,z1,n1];refine Ag (by kernel_rfl) ?_;simp only[go_sem,↓a1,↓a2];simp only[go_sem,z1,n1,Int.reduceBEq,↓a1,↓a2];exact An rfl (by simp[Fu,Lb])
 rcases hk with rfl | hk
 .have ho:=ho rfl;obtain rfl:size=0:=h2 (by omega);obtain rfl:init=0:=h3 (by omega) (by omega);have z1:((0:Int)<0)=False:=eq_false (by omega);have n1:((0:Int) != 0)=false:=by decide
  refine Bo T42 rfl ?_;have a1:Ao .add ([99,111,110,100,32]) (nm)=some (.str (99::111::110::100::32::nm)):=Aq (by simp;try omega) (by simp);have a2:Ao .add (99::111::110::100::32::nm) ([32])=some (.str (99::111::110::100::32::(nm++[32]))):=Aq (by simp;try omega) (by simp);have a3:Ao .add (99::111::110::100::32::(nm++[32])) (on)=some (.str (99::111::110::100::32::(nm++32::on))):=Aq (by simp;try omega) (by simp);have a4:Ao .add (99::111::110::100::32::(nm++32::on)) ([59,10])=some (.str (99::111::110::100::32::(nm++32::(on++[59,10])))):=Aq (by simp;try omega) (by simp);simp only[go_sem,Int.reduceLT,Int.reduceBEq,gt_iff_lt,z1,n1];refine Ag (by kernel_rfl) ?_;simp only[go_sem,↓a1,↓a2,↓a3,↓a4];simp only[go_sem,z1,n1,Int.reduceBEq,↓a1,↓a2,↓a3,↓a4];exact An rfl (by simp[Fu,Lb])
 subst hk;obtain rfl:size=0:=h2 (by omega);obtain rfl:init=0:=h3 (by omega) (by omega);have z1:((0:Int)<0)=False:=eq_false (by omega);have n1:((0:Int) != 0)=false:=by decide
 refine Bo T42 rfl ?_;have a1:Ao .add ([102,117,116,117,114,101,32]) (nm)=some (.str (102::117::116::117::114::101::32::nm)):=Aq (by simp;try omega) (by simp);have a2:Ao .add (102::117::116::117::114::101::32::nm) ([59,10])=some (.str (102::117::116::117::114::101::32::(nm++[59,10]))):=Aq (by simp;try omega) (by simp);simp only[go_sem,Int.reduceLT,Int.reduceBEq,gt_iff_lt,z1,n1];refine Ag (by kernel_rfl) ?_;simp only[go_sem,↓a1,↓a2];simp only[go_sem,z1,n1,Int.reduceBEq,↓a1,↓a2];exact An rfl (by simp[Fu,Lb])
def A29{d:Dp}(h:1<=d.kind/\d.kind<=6):d.nm.length<=(Fu d).length/\(d.kind=5->d.on.length<=(Fu d).length):=by
 unfold Fu;refine⟨?_,fun h5=>?_⟩
 .repeat' split
  all_goals simp
  all_goals omega
 .rw[if_neg (by omega),if_neg (by omega),if_neg (by omega),if_neg (by omega),if_pos h5];simp;omega
def jr:List (List UInt8)->List UInt8
 | []=>[]
 | a::l=>44::32::(a++jr l)
def Aik:∀ (a:List UInt8) (l:List (List UInt8)),Fb (a::l)=a++jr l
 | a,[]=>by simp[Fb,jr]
 | a,b::l=>by rw[Fb,Aik b l,jr]
def R8(l:List (List UInt8))(k:Nat):List UInt8:=if k=0 then Fb l else jr (l.drop k)
def Ayq(l:List (List UInt8)):l.length<=(Fb l).length+1:=by
 have:∀ l:List (List UInt8),l.length<=(jr l).length:=fun l=>by
  induction l with
  | nil=>simp
  | cons a l ih=>simp[jr];omega
 cases l with
 | nil=>simp
 | cons a l=>rw[Aik];have:=this l;simp;omega
def Agh{α:Type}(f:α->List UInt8)(hf:∀ x,1<=(f x).length):∀ l:List α,l.length<=((l.map f).flatten).length
 | []=>by simp
 | y::l=>by
  have:=Agh f hf l;have:=hf y;rw[Bb,Dv,Al,Am];omega
def A0f{K:List It}{Q:Env->St->Prop}{A C:V}{l:List (List UInt8)}{z:Bool}{u j0:Nat}{nm:List UInt8}{line:Int}{B:V}{s:St}(hs:s[j0]?=some (.row [.str nm,iV line,SL z u (l.map fun x=>[V.str x]),B] 90 0 0))(qa:List UInt8)(hl:qa.length+(Fb l).length<=100000000000000)
  (h:W TT PT K [(1,A),(3,.str (qa++Fb l)),(5,C),(6,.ptr j0 0 0),(7,iV (l.length:Int))] s Q) :
  W TT PT (.l [1,3,5,6,7] lp15_1::.b 4::K) [(1,A),(3,.str qa),(5,C),(6,.ptr j0 0 0),(7,iV 0)] s Q:=by
 have qB:=Ayq l;have qk:(l.map fun x=>[V.str x]).length=l.length:=Ap ..;refine Bn (α:=Nat × List UInt8) (fun a=>l.length - a.1) (fun a=>[(1,A),(3,.str a.2),(5,C),(6,.ptr j0 0 0),(7,iV (a.1:Int))]) (fun _=>s) (fun a=>a.1<=l.length/\a.2++R8 l a.1=qa++Fb l) ?_ (0,qa) ⟨Au _,rfl⟩;rintro⟨i,c⟩ ⟨hi,hc⟩ ih;simp only at hi hc ih;refine Bl Bgg ?_;have qc:=congrArg List.length hc;simp only[Al]at qc;rcases Be i l.length with h' | h'
 .obtain⟨x,hx,hd,hm⟩:=By h';have qf:=A2 (show i<9223372036854775807 by omega);by_cases qm:i=0
  .subst qm;have f0:((0:Int)<((0:Nat):Int))=False:=eq_false (by omega);have qs:((0:Int)<0)=False:=eq_false (by omega);have f1:((0:Int)<(l.length:Int))=True:=eq_true (by omega);have qx:l=x::l.drop 1:=by simpa using hd
   have hj:R8 l 0=x++jr (l.drop 1):=by
    unfold R8;rw[if_pos rfl]
    conv=>lhs;rw[qx]
    exact Aik x _
   rw[hj]at hc qc;rw[Al]at qc;have a1:Ao .add c x=some (.str (c++x)):=Aq (by omega) rfl;simp only[go_sem,hs,qk,f1,f0,qs,Aj,hx,↓a1,qf];refine As (ih (1,c++x) (by simp;omega) ⟨by simp;omega,?_⟩) rfl;simp only;rw[<-hc,Da];rfl
  .have f0:((0:Int)<(i:Int))=True:=eq_true (by omega)
   have hj:R8 l i=44::32::(x++jr (l.drop (i+1))):=by
    unfold R8;rw[if_neg qm,hd,jr]
   rw[hj]at hc qc;simp only[Am,Al]at qc;have a1:Ao .add c [44,32]=some (.str (c++[44,32])):=Aq (by simp;omega) rfl;have a2:Ao .add (c++[44,32]) x=some (.str (c++44::32::x)):=Aq (by simp;omega) (by simp);simp only[go_sem,hs,qk,A0 h',f0,↓a1];simp only[go_sem,hs,Aj,hx,↓a2,qf];refine As (ih (i+1,c++44::32::x) (by simp;omega) ⟨by simp;omega,?_⟩) rfl;simp only;rw[<-hc];unfold R8;rw[if_neg (by omega)];simp
 .obtain rfl:i=l.length:=by omega
  have hj:R8 l l.length=[]:=by
   unfold R8
   split
   .rename_i h0;rw[Afo h0];rfl
   .rw[Fo h'];rfl
  rw[hj,B3]at hc;subst hc;simp only[go_sem,hs,qk,Bq h'];exact h
def Ap2{p:Gp}(h:CnG p)(hl:(Hp p).length<=100000000000000):Fn TT PT 15 [.agg p.row] (.str (Hp p)):=by
 obtain⟨hD,hT⟩:=h;obtain⟨dz,dt,decls,tz,tt,thrs⟩:=p;simp only at hD hT;unfold Hp at hl ⊢;simp only at hl ⊢;unfold Gp.row;simp only;have n1:(decls.map Dp.row).length=decls.length:=Ap ..;have n2:(thrs.map Tp.row).length=thrs.length:=Ap ..;rw[Al]at hl;have c1:=Agh (fun d=>Fu d++[59,10]) (fun x=>by simp) decls;have c2:=Agh Fj (fun x=>by simp[Fj]) thrs;refine Bo T15 rfl ?_;simp only[go_sem];refine Bn (α:=Nat × List UInt8) (fun a=>decls.length - a.1) (fun a=>[(1,.ptr 0 0 0),(3,.str a.2),(4,iV (a.1:Int))]) (fun _=>[.row [SL dz dt (decls.map Dp.row),SL tz tt (thrs.map Tp.row)] 29 0 0]) (fun a=>a.1<=decls.length/\a.2++((decls.drop a.1).map fun d=>Fu d++[59,10]).flatten=(decls.map fun d=>Fu d++[59,10]).flatten) ?_ (0,[]) ⟨Au _,rfl⟩;rintro⟨i,qa⟩ ⟨hi,hc⟩ ih;simp only at hi hc ih;refine Bl Bgf ?_;have qc:=congrArg List.length hc;simp only[Al]at qc;rcases Be i decls.length with h' | h'
 .obtain⟨x,hx,hd,hm⟩:=By h';rw[hd,Bb,Dv]at hc qc;simp only[Al,Am,C9]at qc;obtain⟨e1,e2⟩:=A29 (hD x hm).kind;have hf:=A28 (hD x hm) (by omega) (fun h5=>by have:=e2 h5;omega);have a1:Ao .add qa (Fu x++[59,10])=some (.str (qa++(Fu x++[59,10]))):=Aq (by simp;omega) rfl;have qd:x.row=[iV x.kind,iV x.line,.str x.nm,iV x.size,iV x.init,.str x.on]:=rfl;rw[qd]at hf;simp only[go_sem,n1,A0 h',Aj,hx,qd];refine Ad hf (by simp only[go_sem]) ?_;simp only[go_sem,↓a1,A2 (show i<9223372036854775807 by omega)];refine As (ih (i+1,qa++(Fu x++[59,10])) (by simp;omega) ⟨by simp;omega,?_⟩) rfl;simp only;rw[Da];exact hc
 .obtain rfl:i=decls.length:=by omega
  rw[Fo h']at hc;simp only[B7,Aa6,B3]at hc;subst hc;clear ih;simp only[go_sem,n1,Bq h'];refine Bn (α:=Nat × List UInt8 × St) (fun a=>thrs.length - a.1) (fun a=>[(1,.ptr 0 0 0),(3,.str a.2.1),(5,iV (a.1:Int))]) (fun a=>a.2.2) (fun a=>a.1<=thrs.length/\a.2.1++((thrs.drop a.1).map Fj).flatten=(decls.map fun d=>Fu d++[59,10]).flatten++(thrs.map Fj).flatten/\a.2.2[0]?=some (.row [SL dz dt (decls.map Dp.row),SL tz tt (thrs.map Tp.row)] 29 0 0)) ?_ (0,_,_) ⟨Au _,rfl,rfl⟩;rintro⟨i,qa,s⟩ ⟨hi,hc,hs⟩ ih;simp only at hi hc hs ih;refine Bl Bgh ?_;have qc:=congrArg List.length hc;simp only[Al]at qc;rcases Be i thrs.length with h' | h'
  .obtain⟨x,hx,hd,hm⟩:=By h';rw[hd,Bb,Dv]at hc qc;rw[Al]at qc;have qp:=hT x hm;obtain⟨nm,line,lz,lt,locals,bz,bt,body⟩:=x;simp only at qp
   have qv:(Fj ⟨nm,line,lz,lt,locals,bz,bt,body⟩).length=nm.length+(Fb locals).length+(Sp.txts 1 body).length+14:=by
    simp[Fj];omega
   have hb:=Ag5 bz bt 1 body (fun q hq=>Ap0 (qp q hq) 1 (by have:=X7 1 hq;omega)) (by omega) (by have:=X2 body 1;omega);obtain⟨s',ql⟩:∃ s',s'=s++[Ob.row [.str nm,iV line,SL lz lt (locals.map fun x=>[V.str x]),SL bz bt (body.map Sp.row)] 90 0 0]:=⟨_,rfl⟩;have k1:s'[s.length]?=some (.row [.str nm,iV line,SL lz lt (locals.map fun x=>[V.str x]),SL bz bt (body.map Sp.row)] 90 0 0):=by rw[ql,Co (Ai _),Gf];rfl
   have k0:s'[0]?=some (.row [SL dz dt (decls.map Dp.row),SL tz tt (thrs.map Tp.row)] 29 0 0):=by rw[ql];exact Bx hs
   have qd:Tp.row ⟨nm,line,lz,lt,locals,bz,bt,body⟩=[.str nm,iV line,SL lz lt (locals.map fun x=>[V.str x]),SL bz bt (body.map Sp.row)]:=rfl;have a1:Ao .add qa [116,104,114,101,97,100,32]=some (.str (qa++[116,104,114,101,97,100,32])):=Aq (by simp;omega) rfl;have a2:Ao .add (qa++[116,104,114,101,97,100,32]) nm=some (.str (qa++116::104::114::101::97::100::32::nm)):=Aq (by simp;omega) (by simp);have a3:Ao .add (qa++116::104::114::101::97::100::32::nm) [40]=some (.str (qa++116::104::114::101::97::100::32::(nm++[40]))):=Aq (by simp;omega) (by simp);simp only[go_sem,hs,n2,A0 h',Aj,hx,qd,↓a1,↓a2,↓a3];rw[<-ql];refine A0f k1 _ (by simp;omega) ?_;rw[show qa++116::104::114::101::97::100::32::(nm++[40])++Fb locals=qa++116::104::114::101::97::100::32::(nm++40::Fb locals) by simp];have a4:Ao .add (qa++116::104::114::101::97::100::32::(nm++40::Fb locals)) [41,32,123,10]=some (.str (qa++116::104::114::101::97::100::32::(nm++40::(Fb locals++[41,32,123,10])))):=Aq (by simp;omega) (by simp);have a5:Ao .add (qa++116::104::114::101::97::100::32::(nm++40::(Fb locals++[41,32,123,10]))) (Sp.txts 1 body)=some (.str (qa++116::104::114::101::97::100::32::(nm++40::(Fb locals++41::32::123::10::Sp.txts 1 body)))):=Aq (by simp;omega) (by simp);have a6:Ao .add (qa++116::104::114::101::97::100::32::(nm++40::(Fb locals++41::32::123::10::Sp.txts 1 body))) [125,10]=some (.str (qa++116::104::114::101::97::100::32::(nm++40::(Fb locals++41::32::123::10::(Sp.txts 1 body++[125,10]))))):=Aq (by simp;omega) (by simp);simp only[go_sem,k1,↓a4];refine Ad hb (by simp only[go_sem]) ?_;simp only[go_sem,↓a5,↓a6,A2 (show i<9223372036854775807 by omega)];refine As (ih (i+1,qa++Fj ⟨nm,line,lz,lt,locals,bz,bt,body⟩,s') (by simp;omega) ⟨by simp;omega,by simp only;rw[Da];exact hc,k0⟩) (by simp[Fj];rfl)
  .obtain rfl:i=thrs.length:=by omega
   rw[Fo h']at hc;simp only[B7,Aa6,B3]at hc;subst hc;simp only[go_sem,hs,n2,Bq h'];exact Gm rfl
def A7r(n:Int):(Lb n).length<=24:=by
 have:=V3 n;unfold Lb
 split
 .simp
 .simp only[Am];omega
def Awt{d:Dp}(h1:d.nm.length<=12)(h2:d.on.length<=12):(Fu d).length<=80:=by
 have a1:=A7r d.init;have a2:=V3 d.size
 have a3:(if d.size=0 then [] else 91::(C2 d.size++[93])).length<=23:=by
  split
  .simp
  .simp;omega
 unfold Fu
 split
 .simp only[Al,Am,C9];omega
 split
 .simp only[Al,Am,C9];omega
 split
 .simp only[Al,Am,C9];omega
 split
 .simp only[Al,Am,C9];omega
 split
 .simp only[Al,Am,C9];omega
 .simp only[Al,Am,C9];omega
def Aoa(a:List UInt8)(l:List (List UInt8)):(Fb (a::l)).length<=a.length+2+(Fb l).length:=by
 cases l with
 | nil=>simp[Fb]
 | cons b l=>simp only[Fb,Al,Am];omega
def Fz{v:V}(h:v.rowB=true):v.cellB=true:=by cases v<;>simp[V.rowB]at h<;>rfl
def Ago{v:V}(h:v.cellB=true):v.cells=[v]/\[v].all V.cellB=true:=⟨by cases v<;>simp[V.cellB]at h<;>rfl,by simp only[Aw,Bi,h];rfl⟩
def L5(s:List UInt8):List V:=[.str s]
def At0{s s':St}{m m' e e' qq n:Nat}{u w:V}{ys:List (List V)}(he:e≠e')(hu:u=.nils\/∃ i g cs,u=.sl i g 0 n m true/\s[i]?=some (.row cs e g 0))(h:GW s m' e' qq w ys)(hf:∀ j,(∀ i g,u=.sl i g 0 n m true->j≠i)->j<s.length->s'[j]?=s[j]?):GW s' m' e' qq w ys:=by
 rcases h with h | ⟨hn,j,g,rfl,ho,qo⟩
 .exact .inl h
 .refine .inr ⟨hn,j,g,rfl,?_,qo⟩;rw[hf j ?_ (Ak.1 ho).1]
  .exact ho
  .rintro i g' rfl rfl;rcases hu with hu | ⟨i,g2,cs,hu,hs⟩
   .cases hu
   .cases hu;rw[hs]at ho;cases ho;exact he rfl
def At1{s:St}{m e lo:Nat}{u:V}{xs:List (List V)}(h:GW s m e lo u xs):u=.nils\/∃ i g cs,u=.sl i g 0 xs.length m true/\s[i]?=some (.row cs e g 0):=by
 rcases h with⟨h,-⟩ | ⟨-,i,g,h,ho,-⟩
 .exact .inl h
 .exact .inr ⟨i,g,_,h,ho⟩
def Tr(z:Bool)(t:Nat)(xs:List (List V)):(SL z t xs).rowB=true:=by
 unfold SL
 split<;>rfl
def Ap3(x:Tp):x.row.all V.rowB=true:=by
 unfold Tp.row;simp only[Aw,Bi,Tr];rfl
def Aby(D:List Dp):∀ r∈D.map Dp.row,r.length=6:=by intro r hr;obtain⟨x,-,rfl⟩:=Ct.1 hr;rfl
def Ag6(D:List Dp):∀ r∈D.map Dp.row,r.all V.rowB=true:=by intro r hr;obtain⟨x,-,rfl⟩:=Ct.1 hr;rfl
def Tb(D:List Tp):∀ r∈D.map Tp.row,r.length=4:=by intro r hr;obtain⟨x,-,rfl⟩:=Ct.1 hr;rfl
def Abz(D:List Tp):∀ r∈D.map Tp.row,r.all V.rowB=true:=by intro r hr;obtain⟨x,-,rfl⟩:=Ct.1 hr;exact Ap3 x
structure Tk where
 kind:Int
 text:List UInt8
 line:Int
def Tk.row(t:Tk):List V:=[iV t.kind,.str t.text,iV t.line]
def Tk.zero:Tk:=⟨0,[],0⟩
def I0(c:UInt8):Bool:=Lz c.toNat
def Fx(c:UInt8):Bool:=R6 c.toNat
def Nz(c:UInt8):Bool:=Mz c.toNat
def twoS:List (List UInt8):=[[124,124],[38,38],[61,61],[33,61],[60,61],[62,61]]
def oneS:List UInt8:=[60,62,43,45,42,47,37,33,61,40,41,91,93,123,125,44,59]
def greatS:List UInt8:=[57,50,50,51,51,55,50,48,51,54,56,53,52,55,55,53,56,48,55]
def J1(l:List UInt8):Nat:=
 if decide (2<=l.length)&&twoS.elem (l.take 2) then 2 else
 match l with
 | c::_=>if oneS.elem c then 1 else 0
 | []=>0
def P0(w:List UInt8):Bool:=
 let d:=w.dropWhile (·==48)
 !(decide (19<d.length)||(decide (d.length=19)&&Op.bytesLess greatS d))
def E6(c:UInt8)(r:List UInt8):List UInt8:=c::r.takeWhile Nz
def Et(c:UInt8)(r:List UInt8):List UInt8:=c::r.takeWhile Fx
def Ui:List UInt8->Bool
 | d::_=>I0 d||d==95
 | []=>false
def Mn:List UInt8->Option (Int × List UInt8)
 | []=>none
 | c::r=>
  if I0 c then(if 12<(E6 c r).length then none else some (if Hv (E6 c r) then 3 else 1,E6 c r))
  else if Fx c then(if Ui (r.dropWhile Fx) then none else if P0 (Et c r) then some (2,Et c r) else none)
  else if J1 (c::r)=0 then none else some (4,(c::r).take (J1 (c::r)))
def Ej:Nat->Int->List UInt8->Option (List Tk)
 | _,_,[]=>some []
 | 0,_,_::_=>none
 | n+1,ln,c::r=>
  if c=10 then Ej n (ln+1) r
  else if c=32\/c=9\/c=13 then Ej n ln r
  else if c=47/\r.head?=some 47 then Ej n ln ((c::r).dropWhile (· != 10))
  else match Mn (c::r) with
  | none=>none
  | some (k,w)=>(Ej n ln ((c::r).drop w.length)).map fun l=>⟨k,w,ln⟩::l
/-! expressions -/
def Ax(s:List UInt8):List Tk->Bool
 | t::_=>(t.kind==3||t.kind==4)&&t.text==s
 | []=>false
def opTab:List (List UInt8 × Int × Int):=[([124,124],18,1),([38,38],17,2),([61,61],11,3),([33,61],12,3),([60],13,3),([60,61],14,3),([62],15,3),([62,61],16,3),([43],6,4),([45],7,4),([42],8,5),([47],9,5),([37],10,5)]
def I2(s:List UInt8):Int × Int:=(opTab.lookup s).getD (0,0)
def Hu(qb:Nat):List Tk->Int
 | t::_=>if t.kind=4 then(if(I2 t.text).2=(qb:Int) then(I2 t.text).1 else 0) else 0
 | []=>0
def Jh(w:List UInt8):Int:=
 match Lib.parseIntB 64 w with
 | .ok v=>v
 | _=>0
def L7(op:Int)(x y:Xp):Xp:=⟨op,0,[],true,1,[x,y]⟩
def O5(op:Int)(x:Xp):Xp:=⟨op,0,[],true,1,[x]⟩
mutual
def pe:Nat->Nat->List Tk->Option (Xp × List Tk)
 | 0,_,_=>none
 | n+1,qb,ts=>if 5<qb then pu n ts else
  match pe n (qb+1) ts with
  | none=>none
  | some (x,r)=>lp n qb x r
def lp:Nat->Nat->Xp->List Tk->Option (Xp × List Tk)
 | 0,_,_,_=>none
 | n+1,qb,x,ts=>if Hu qb ts=0 then some (x,ts) else
  match pe n (qb+1) ts.tail with
  | none=>none
  | some (y,r)=>if qb=3 then some (L7 (Hu qb ts) x y,r) else lp n qb (L7 (Hu qb ts) x y) r
def pu:Nat->List Tk->Option (Xp × List Tk)
 | 0,_=>none
 | n+1,ts=>if Ax [45] ts then(match pu n ts.tail with
   | none=>none
   | some (x,r)=>some (O5 4 x,r))
  else if Ax [33] ts then(match pu n ts.tail with
   | none=>none
   | some (x,r)=>some (O5 5 x,r))
  else pp n ts
def pp:Nat->List Tk->Option (Xp × List Tk)
 | 0,_=>none
 | _+1,[]=>none
 | n+1,t::ts=>if t.kind=2 then some (⟨1,Jh t.text,[],true,0,[]⟩,ts)
  else if t.kind=1 then
   (if Ax [91] ts then(match pe n 1 ts.tail with
    | none=>none
    | some (x,r)=>if Ax [93] r then some (⟨3,0,t.text,true,1,[x]⟩,r.tail) else none)
   else some (⟨2,0,t.text,true,0,[]⟩,ts))
  else if Ax [40] (t::ts) then(match pe n 1 ts with
   | none=>none
   | some (x,r)=>if Ax [41] r then some (x,r.tail) else none)
  else none
end
/-! statements -/
def wordTab:List (List UInt8 × Int):=[([105,102],2),([119,104,105,108,101],3),([108,111,99,107],4),([114,101,97,100],5),([119,114,105,116,101],6),([116,114,97,110,115,97,99,116,105,111,110],7),([97,116,111,109,105,99],8),([119,97,105,116],9),([110,111,116,105,102,121],10),([110,111,116,105,102,121,97,108,108],11),([115,112,97,119,110],12),([106,111,105,110],13),([115,101,116],14),([103,101,116],15)]
def Ek(s:List UInt8):Int:=(wordTab.lookup s).getD 0
def Df:List Tk->Option (List UInt8 × List Tk)
 | t::ts=>if t.kind=1 then some (t.text,ts) else none
 | []=>none
def Hf:List Tk->Option (Int × List Tk)
 | t::ts=>if t.kind=2 then some (Jh t.text,ts) else none
 | []=>none
def D4(s:List UInt8)(ts:List Tk):Option (List Tk):=if Ax s ts then some ts.tail else none
def Ar(op line:Int):Sp:=⟨op,line,[],[],true,0,[],Xp.zero,true,0,[],true,0,[]⟩
def Alg(n:Nat)(ts:List Tk):Option (List Xp × List Tk):=
 if Ax [91] ts then
  match pe n 1 ts.tail with
  | none=>none
  | some (x,r)=>(D4 [93] r).map fun r=>([x],r)
 else some ([],ts)
def Up(n:Nat)(line:Int)(ts:List Tk):Option (Sp × List Tk):=
 match Df ts with
 | none=>none
 | some (nm,ts)=>
  match Alg n ts with
  | none=>none
  | some (ix,ts)=>
   match D4 [61] ts with
   | none=>none
   | some ts=>
    match pe n 1 ts with
    | none=>none
    | some (x,ts)=>(D4 [59] ts).map fun ts=>({ Ar 1 line with nm:=nm,it:=ix.length,idx:=ix,ex:=x },ts)
mutual
def Ij:Nat->List Tk->Option (Sp × List Tk)
 | 0,_=>none
 | _+1,[]=>none
 | n+1,t::ts=>
  if t.kind=1 then Up n t.line (t::ts)
  else if t.kind=3 then
   (if Ek t.text=0 then none
   else if Ek t.text=2\/Ek t.text=3 then
    (match pe n 1 ts with
    | none=>none
    | some (x,ts)=>
     match Fm n ts with
     | none=>none
     | some (b,ts)=>
      if Ek t.text=2/\Ax [101,108,115,101] ts=true then
       (match Fm n ts.tail with
       | none=>none
       | some (e,ts)=>some ({ Ar (Ek t.text) t.line with ex:=x,body:=b,els:=e },ts))
      else some ({ Ar (Ek t.text) t.line with ex:=x,body:=b },ts))
   else if Ek t.text=7\/Ek t.text=8 then
    (match Fm n ts with
    | none=>none
    | some (b,ts)=>some ({ Ar (Ek t.text) t.line with body:=b },ts))
   else
    (match Df ts with
    | none=>none
    | some (nm,ts)=>
     if Ek t.text=4\/Ek t.text=5\/Ek t.text=6 then
      (match Fm n ts with
      | none=>none
      | some (b,ts)=>some ({ Ar (Ek t.text) t.line with nm:=nm,body:=b },ts))
     else if Ek t.text=14 then
      (match pe n 1 ts with
      | none=>none
      | some (x,ts)=>(D4 [59] ts).map fun ts=>({ Ar (Ek t.text) t.line with nm:=nm,ex:=x },ts))
     else if Ek t.text=15 then
      (match Df ts with
      | none=>none
      | some (ar,ts)=>(D4 [59] ts).map fun ts=>({ Ar (Ek t.text) t.line with nm:=nm,arg:=ar },ts))
     else(D4 [59] ts).map fun ts=>({ Ar (Ek t.text) t.line with nm:=nm },ts)))
  else none
def Fm:Nat->List Tk->Option (List Sp × List Tk)
 | 0,_=>none
 | n+1,ts=>if Ax [123] ts then Ky n ts.tail else none
def Ky:Nat->List Tk->Option (List Sp × List Tk)
 | 0,_=>none
 | n+1,ts=>if Ax [125] ts then some ([],ts.tail) else
  match Ij n ts with
  | none=>none
  | some (s,r)=>
   match Ky n r with
   | none=>none
   | some (l,r)=>some (s::l,r)
end
/-! declarations, threads, programs -/
def declTab:List (List UInt8 × Int):=[([118,97,114],1),([118,111,108,97,116,105,108,101],2),([109,117,116,101,120],3),([114,119,108,111,99,107],4),([99,111,110,100],5),([102,117,116,117,114,101],6)]
def Hc(s:List UInt8):Int:=(declTab.lookup s).getD 0
def Wu(ts:List Tk):Option (Int × List Tk):=
 if Ax [91] ts then
  match Hf ts.tail with
  | none=>none
  | some (n,r)=>if n=0 then none else(D4 [93] r).map fun r=>(n,r)
 else some (0,ts)
def Ro(ts:List Tk):Option (Int × List Tk):=
 if Ax [61] ts then
  if Ax [45] ts.tail then(Hf ts.tail.tail).map fun p=>(-p.1,p.2) else Hf ts.tail
 else some (0,ts)
def Uj:List Tk->Option (Dp × List Tk)
 | []=>none
 | t::ts=>
  match Df ts with
  | none=>none
  | some (nm,ts)=>
   if Hc t.text=1 then
    (match Wu ts with
    | none=>none
    | some (sz,ts)=>
       match Ro ts with
       | none=>none
       | some (i,ts)=>(D4 [59] ts).map fun ts=>(⟨1,t.line,nm,sz,i,[]⟩,ts))
   else if Hc t.text=2 then
    (match Ro ts with
    | none=>none
    | some (i,ts)=>(D4 [59] ts).map fun ts=>(⟨2,t.line,nm,0,i,[]⟩,ts))
   else if Hc t.text=5 then
    (match Df ts with
    | none=>none
    | some (on,ts)=>(D4 [59] ts).map fun ts=>(⟨5,t.line,nm,0,0,on⟩,ts))
   else(D4 [59] ts).map fun ts=>(⟨Hc t.text,t.line,nm,0,0,[]⟩,ts)
def Rg:List Tk->Bool
 | t::_=>t.kind==3&&Hc t.text != 0
 | []=>false
def Lu:Nat->List Tk->Option (List Dp × List Tk)
 | 0,_=>none
 | n+1,ts=>if Rg ts then
   (match Uj ts with
   | none=>none
   | some (d,r)=>
    match Lu n r with
    | none=>none
    | some (l,r)=>some (d::l,r))
  else some ([],ts)
def L8:Nat->List Tk->Option (List (List UInt8) × List Tk)
 | 0,_=>none
 | n+1,ts=>
  match Df ts with
  | none=>none
  | some (nm,ts)=>
   if Ax [44] ts then
    (match L8 n ts.tail with
    | none=>none
    | some (l,r)=>some (nm::l,r))
   else(D4 [41] ts).map fun ts=>([nm],ts)
def Aka(n:Nat)(ts:List Tk):Option (List (List UInt8) × List Tk):=if Ax [41] ts then some ([],ts.tail) else L8 n ts
def Uq(n:Nat):List Tk->Option (Tp × List Tk)
 | []=>none
 | t::ts=>
  match Df ts with
  | none=>none
  | some (nm,ts)=>
   match D4 [40] ts with
   | none=>none
   | some ts=>
    match Aka n ts with
    | none=>none
    | some (l,ts)=>
       match Fm n ts with
       | none=>none
       | some (b,ts)=>some (⟨nm,t.line,true,0,l,true,0,b⟩,ts)
def Ae7:List UInt8:=[116,104,114,101,97,100]
def Lw(m:Nat):Nat->List Tk->Option (List Tp × List Tk)
 | 0,_=>none
 | n+1,ts=>if Ax Ae7 ts then
   (match Uq m ts with
   | none=>none
   | some (t,r)=>
    match Lw m n r with
    | none=>none
    | some (l,r)=>some (t::l,r))
  else some ([],ts)
def Mr(k:Nat):Nat:=10*k+20
def Z1(ts:List Tk):Option (Gp × List Tk):=
 match Lu (ts.length+1) ts with
 | none=>none
 | some (ds,r)=>
  match Lw (Mr ts.length) (ts.length+1) r with
  | none=>none
  | some (l,r)=>if l.isEmpty then none else some (⟨true,0,ds,true,0,l⟩,r)
def Nn(s:List UInt8):Option Gp:=
 if 4096<s.length then none else
 match Ej s.length 1 s with
 | none=>none
 | some ts=>
  match Z1 ts with
  | some (p,[])=>some p
  | _=>none
/-! the rows' flags say nothing -/
mutual
def Aei:Xp->Xp->Bool
 | ⟨op,n,nm,_,_,l⟩,⟨op',n',nm',_,_,l'⟩=>op==op'&&(n==n'&&(nm==nm'&&Tw l l'))
def Tw:List Xp->List Xp->Bool
 | [],[]=>true
 | x::l,y::l'=>Aei x y&&Tw l l'
 | [],_::_=>false
 | _::_,[]=>false
end
abbrev Kt:=Int × List UInt8
def Ae8(o:Int × List Kt)(qg:Int):List Kt:=if Bw o.1<qg then(4,[40])::(o.2++[(4,[41])]) else o.2
def Avm(op n:Int)(nm:List UInt8)(ts:List (Int × List Kt)):List Kt:=
 if op=1 then [(2,C2 n)] else if op=2 then [(1,nm)] else
 match ts with
 | [a]=>if op=3 then(1,nm)::(4,[91])::(a.2++[(4,[93])]) else(4,Cs op)::Ae8 a 6
 | [a,b]=>Ae8 a (Ho op)++(4,Cs op)::Ae8 b (Bw op+1)
 | _=>[]
mutual
def Xp.toks:Xp->List Kt
 | ⟨op,n,nm,_,_,l⟩=>Avm op n nm (Xp.tokss l)
def Xp.tokss:List Xp->List (Int × List Kt)
 | []=>[]
 | x::l=>(x.op,x.toks)::Xp.tokss l
end
inductive ShE:Xp->Prop
 | num {n:Int} {z:Bool} {t:Nat}:0<=n/\n<=9223372036854775807->ShE ⟨1,n,[],z,t,[]⟩
 | name {nm:List UInt8} {z:Bool} {t:Nat}:Cc nm=true->ShE ⟨2,0,nm,z,t,[]⟩
 | idx {nm:List UInt8} {z:Bool} {t:Nat} {a:Xp}:Cc nm=true->ShE a->ShE ⟨3,0,nm,z,t,[a]⟩
 | un {op:Int} {z:Bool} {t:Nat} {a:Xp}:op=4\/op=5->ShE a->ShE ⟨op,0,[],z,t,[a]⟩
 | bin {op:Int} {z:Bool} {t:Nat} {a b:Xp}:6<=op/\op<=18->ShE a->ShE b->ShE ⟨op,0,[],z,t,[a,b]⟩
def A3a:((List.range 18).all fun i=>decide ((Cs ((i:Int)+1)).length<=2/\1<=Bw ((i:Int)+1)/\Bw ((i:Int)+1)<=7))=true:=by decide
def A7s{op:Int}(h:1<=op/\op<=18):∃ i:Nat,i<18/\op=(i:Int)+1:=⟨(op - 1).toNat,by omega,by omega⟩
def Ar8{op:Int}(h:1<=op/\op<=18):(Cs op).length<=2/\1<=Bw op/\Bw op<=7:=by
 obtain⟨i,hi,rfl⟩:=A7s h;exact of_decide_eq_true (Bp.1 A3a i (E1.2 hi))
def At2{x:Xp}(h:ShE x):Cn x:=by
 induction h with
 | num h=>exact .num (by omega)
 | name _=>exact .name
 | idx _ _ ih=>exact .idx ih
 | un h _ ih=>exact .un h ih
 | bin h _ _ ih1 ih2=>exact .bin h ih1 ih2
/-! what a shaped program has -/
def At3(x:Xp):Prop:=x.op=0/\x.n=0/\x.nm=[]/\x.l=[]
def Gg(op:Int):Bool:=op==2||(op==3||(op==7||op==8))
def Ei(op:Int):Bool:=op==1||(op==2||(op==3||op==14))
inductive ShS:Sp->Prop
 | mk {s:Sp}:1<=s.op/\s.op<=15->(Gg s.op=true->s.nm=[])->(Gg s.op=false->Cc s.nm=true)->(s.op=15->Cc s.arg=true)->(s.op≠15->s.arg=[]) ->
   s.idx.length<=1->(s.op≠1->s.idx=[])->(∀ x∈s.idx,ShE x)->(Ei s.op=true->ShE s.ex)->(Ei s.op=false->At3 s.ex) ->
   (B4 s.op=false->s.body=[])->(s.op≠2->s.els=[])->(∀ x∈s.body,ShS x)->(∀ x∈s.els,ShS x)->ShS s
structure ShD (d:Dp):Prop where
 kind:1<=d.kind/\d.kind<=6
 nm:Cc d.nm=true
 size:0<=d.size/\d.size<=9223372036854775807/\(d.kind≠1->d.size=0)
 init : -9223372036854775808<d.init/\d.init<=9223372036854775807/\(d.kind≠1->d.kind≠2->d.init=0)
 on:(d.kind=5->Cc d.on=true)/\(d.kind≠5->d.on=[])
structure ShG (p:Gp):Prop where
 decls:∀ d∈p.decls,ShD d
 nms:∀ t∈p.thrs,Cc t.nm=true
 locs:∀ t∈p.thrs,∀ s∈t.locals,Cc s=true
 thrs:∀ t∈p.thrs,∀ s∈t.body,ShS s
 some:p.thrs≠[]
def Ajd{s:Sp}(h:ShS s):CnS s:=by
 induction h with
 | mk h1 h2 h3 h4 h5 h6 h7 h8 h9 h10 h11 h12 h13 h14 ih1 ih2=>
  refine .mk h1 h6 h7 (fun x hx=>At2 (h8 x hx)) (fun hv=>At2 (h9 ?_)) h11 h12 ih1 ih2
  rcases hv with h | h | h | h<;>rw[h]<;>rfl
def Aje{p:Gp}(h:ShG p):CnG p:=⟨fun d hd=>let h:=h.decls d hd;⟨h.kind,h.size,by have:=h.init;omega,by have:=h.init;omega,h.init.2.2⟩,fun t ht s hs=>Ajd (h.thrs t ht s hs)⟩
/-! equal apart from lines -/
mutual
def Akb:Sp->Sp->Bool
 | ⟨op,_,nm,arg,_,_,idx,ex,_,_,body,_,_,els⟩,⟨op',_,nm',arg',_,_,idx',ex',_,_,body',_,_,els'⟩=>op==op'&&(nm==nm'&&(arg==arg'&&(Aei ex ex'&&(Tw idx idx'&&(Zi body body'&&Zi els els')))))
def Zi:List Sp->List Sp->Bool
 | [],[]=>true
 | x::l,y::l'=>Akb x y&&Zi l l'
 | [],_::_=>false
 | _::_,[]=>false
end
/-! tokens -/
def Bjy(l:List Xp):List Kt:=match l with
 | a::_=>(4,[91])::(a.toks++[(4,[93])])
 | []=>[]
def Bic(s:Sp):List Kt:=
 if s.op=1 then(1,s.nm)::(Bjy s.idx++(4,[61])::s.ex.toks)
 else if s.op=2\/s.op=3 then(3,C8 s.op)::s.ex.toks
 else if s.op=7\/s.op=8 then [(3,C8 s.op)]
 else if s.op=14 then(3,C8 s.op)::(1,s.nm)::s.ex.toks
 else if s.op=15 then [(3,C8 s.op),(1,s.nm),(1,s.arg)]
 else [(3,C8 s.op),(1,s.nm)]
def Bid:List UInt8:=[101,108,115,101]
mutual
def Sp.toks:Sp->List Kt
 | ⟨op,line,nm,arg,iz,it,idx,ex,bz,bt,body,ez,et,els⟩=>
  Bic ⟨op,line,nm,arg,iz,it,idx,ex,bz,bt,body,ez,et,els⟩ ++
   if B4 op then(4,[123])::(Sp.tokss body++(4,[125])::(if els.isEmpty then [] else(3,Bid)::(4,[123])::(Sp.tokss els++[(4,[125])]))) else [(4,[59])]
def Sp.tokss:List Sp->List Kt
 | []=>[]
 | x::l=>x.toks++Sp.tokss l
end
def Y2(p:UInt8->Bool):∀ l:List UInt8,(l.dropWhile p).length<=l.length
 | []=>Ai _
 | c::r=>by
  rw[Aa2]
  split
  .exact Nat.le_succ_of_le (Y2 p r)
  .exact Ai _
def Ar9{c:UInt8}{r:List UInt8}(h:J1 (c::r)≠0):1<=J1 (c::r)/\J1 (c::r)<=(c::r).length:=by
 unfold J1 at h ⊢
 split
 .rename_i h1;simp only[Af,decide_eq_true_eq]at h1;exact⟨by omega,h1.1⟩
 .simp only[Am]
  split
  .omega
  .rename_i h1 h2;rw[if_neg h1]at h;simp only[if_neg h2]at h;exact absurd rfl h
def Abp{c:UInt8}{r:List UInt8}{k:Int}{w:List UInt8}(h:Mn (c::r)=some (k,w)):1<=w.length/\∃ q,c::r=w++q:=by
 unfold Mn at h;simp only at h
 split at h
 .split at h
  .cases h
  .cases h;exact⟨by simp[E6],r.dropWhile Nz,by simp[E6,List.takeWhile_append_dropWhile]⟩
 .split at h
  .split at h
   .cases h
   .split at h
    .cases h;exact⟨by simp[Et],r.dropWhile Fx,by simp[Et,List.takeWhile_append_dropWhile]⟩
    .cases h
  .split at h
   .cases h
   .rename_i hs;have:=Ar9 hs;cases h;exact⟨by rw[Eg];omega,(c::r).drop (J1 (c::r)),(Gq _ _).symm⟩
def Yi:∀ (n m:Nat) (ln:Int) (l:List UInt8),l.length<=n->l.length<=m->Ej n ln l=Ej m ln l
 | n,m,ln,[],_,_=>by cases n<;>cases m<;>rfl
 | 0,_,_,_::_,h,_=>by simp at h
 | _+1,0,_,_::_,_,h=>by simp at h
 | n+1,m+1,ln,c::r,h1,h2=>by
  rw[Am]at h1 h2;unfold Ej;by_cases e1:c=10
  .rw[if_pos e1,if_pos e1];exact Yi n m _ r (by omega) (by omega)
  rw[if_neg e1,if_neg e1];by_cases e2:c=32\/c=9\/c=13
  .rw[if_pos e2,if_pos e2];exact Yi n m _ r (by omega) (by omega)
  rw[if_neg e2,if_neg e2];by_cases e3:c=47/\r.head?=some 47
  .rw[if_pos e3,if_pos e3]
   have hd:((c::r).dropWhile (· != 10)).length<=r.length:=by
    rw[Aa2,if_pos (by simp[e1])];exact Y2 _ r
   exact Yi n m _ _ (by omega) (by omega)
  rw[if_neg e3,if_neg e3]
  cases hf:Mn (c::r) with
  | none=>rfl
  | some p=>
   obtain⟨k,w⟩:=p;have hw:=(Abp hf).1;simp only;rw[Yi n m ln _ (by rw[D1,Am];omega) (by rw[D1,Am];omega)]
def cons(ks:List Kt)(o:Option (List Kt)):Option (List Kt):=o.map fun l=>ks++l
def Vk(c:UInt8)(r:List UInt8):Mn (c::r)=if I0 c then(if 12<(E6 c r).length then none else some (if Hv (E6 c r) then 3 else 1,E6 c r))
  else if Fx c then(if Ui (r.dropWhile Fx) then none else if P0 (Et c r) then some (2,Et c r) else none)
  else if J1 (c::r)=0 then none else some (4,(c::r).take (J1 (c::r))):=rfl
def A0g:((List.range 256).all fun n=>!Lz n||(decide (n≠10)&&(decide (n≠32)&&(decide (n≠9)&&(decide (n≠13)&&(decide (n≠47)&&(decide (n≠61)&&Mz n)))))))=true:=by decide +kernel
def Wv{c:UInt8}{n:Nat}(hn:n<256)(h:c.toNat≠n):c≠UInt8.ofNat n:=by
 intro e;subst e;exact h (by simp[UInt8.toNat_ofNat,Xo hn])
def A7t{c:UInt8}(h:I0 c=true):(c≠10/\c≠32/\c≠9/\c≠13)/\c≠47/\c≠61/\Nz c=true:=by
 have:=Bp.1 A0g c.toNat (E1.2 c.toNat_lt);unfold I0 at h;rw[h]at this;simp only[Ay,U6,Af,decide_eq_true_eq]at this;obtain⟨a1,a2,a3,a4,a5,a6,a7⟩:=this;exact⟨⟨Wv (n:=10) (by decide) a1,Wv (n:=32) (by decide) a2,Wv (n:=9) (by decide) a3,Wv (n:=13) (by decide) a4⟩,Wv (n:=47) (by decide) a5,Wv (n:=61) (by decide) a6,a7⟩
def A3b{l:List UInt8}(h:Cc l=true):∃ c cs,l=c::cs/\I0 c=true/\(∀ d∈cs,Nz d=true)/\(c::cs).length<=12/\Hv l=false:=by
 unfold Cc at h;simp only[Af,decide_eq_true_eq,K0,Bp,E1]at h;obtain⟨h1,h2,h3,h4⟩:=h
 cases l with
 | nil=>simp at h1
 | cons c cs=>
  refine⟨c,cs,rfl,?_,fun d hd=>?_,h2,h3⟩
  .have:=h4 0 (by simp);unfold N3 at this;simpa[I0] using this
  .obtain⟨i,hi,rfl⟩:=Afr.1 hd;have:=h4 (i+1) (by simp;omega);unfold N3 at this;simp only[List.getD_cons_succ]at this;rw[Av,Bc hi]at this;simp only[Xq]at this;unfold Nz Mz;simp only[Il,Af]at this ⊢;rcases this with h | ⟨-,h | h⟩
   .exact .inl h
   .exact .inr (.inr h)
   .exact .inr (.inl h)
def A7u{op:Int}{z:Bool}{t:Nat}{a b:Xp}(h:6<=op/\op<=18):Xp.txt ⟨op,0,[],z,t,[a,b]⟩=D7 (a.op,a.txt) (Ho op)++32::(Cs op++32::D7 (b.op,b.txt) (Bw op+1)):=by
 simp only[Xp.txt,Xp.txts,Ed];rw[if_neg (by omega),if_neg (by omega)]
def Bck{op:Int}{z:Bool}{t:Nat}{a:Xp}(h:op=4\/op=5):Xp.txt ⟨op,0,[],z,t,[a]⟩=Cs op++D7 (a.op,a.txt) 6/\Xp.toks ⟨op,0,[],z,t,[a]⟩=(4,Cs op)::Ae8 (a.op,a.toks) 6:=by
 simp only[Xp.txt,Xp.txts,Ed,Xp.toks,Xp.tokss,Avm];rw[if_neg (by omega),if_neg (by omega),if_neg (by omega),if_neg (by omega),if_neg (by omega),if_neg (by omega)];exact⟨rfl,rfl⟩
def Hg(qa:Nat)(l:List UInt8):Nat:=l.foldl (fun a c=>a*10+(c.toNat - 48)) qa
def J7(l:List UInt8):Prop:=∀ c∈l,Fx c=true
def We(qa:Nat):Hg qa []=qa:=rfl
def Adp(qa:Nat)(c:UInt8)(r:List UInt8):Hg qa (c::r)=Hg (qa*10+(c.toNat - 48)) r:=by unfold Hg;rw[List.foldl_cons]
def Tx{c:UInt8}{l:List UInt8}(h:J7 (c::l)):J7 l:=fun d hd=>h d (C4 _ hd)
def Bcl{c:UInt8}(h:Fx c=true):48<=c.toNat/\c.toNat<=57:=by
 unfold Fx R6 at h;simpa using h
def Wf{c:UInt8}{l:List UInt8}(h:J7 (c::l)):48<=c.toNat/\c.toNat<=57:=Bcl (h c C5)
def Y3:∀ (l:List UInt8) (qa:Nat),qa*10 ^ l.length<=Hg qa l
 | [],qa=>by rw[We];simp
 | c::l,qa=>by
  have:=Y3 l (qa*10+(c.toNat - 48));have h1:qa*10*10 ^ l.length<=(qa*10+(c.toNat - 48))*10 ^ l.length:=Fp _ (by omega);have e:qa*10 ^ (l.length+1)=qa*10*10 ^ l.length:=by rw[Nat.pow_succ,U8 (10 ^ l.length),Nat.mul_assoc]
  rw[Am,e];exact Cw h1 this
def Acx:∀ (l:List UInt8) (qa:Nat),J7 l->Hg qa l<(qa+1)*10 ^ l.length
 | [],qa,_=>by rw[We];simp
 | c::l,qa,h=>by
  have:=Acx l (qa*10+(c.toNat - 48)) (Tx h);have hc:=Wf h;have h1:(qa*10+(c.toNat - 48)+1)*10 ^ l.length<=(qa*10+10)*10 ^ l.length:=Fp _ (by omega);have e:(qa+1)*10 ^ (l.length+1)=(qa*10+10)*10 ^ l.length:=by rw[Nat.pow_succ,U8 (10 ^ l.length),<-Nat.mul_assoc,show(qa+1)*10=qa*10+10 by omega]
  rw[Am,e];exact Pa this h1
def Ap4:∀ (a b:List UInt8) (qa:Nat),J7 a->J7 b->a.length=b.length->Op.bytesLess a b=decide (Hg qa a<Hg qa b)
 | [],[],qa,_,_,_=>by simp[Op.bytesLess]
 | [],_::_,_,_,_,h=>by simp at h
 | _::_,[],_,_,_,h=>by simp at h
 | x::a,y::b,qa,ha,hb,h=>by
  have hx:=Wf ha;have hy:=Wf hb;have hl:a.length=b.length:=by simpa using h
  simp only[Op.bytesLess];by_cases h1:x<y
  .have qt:x.toNat<y.toNat:=h1;rw[decide_eq_true h1,Bool.true_or]
   symm
   rw[decide_eq_true_eq];have p1:=Acx a (qa*10+(x.toNat - 48)) (Tx ha);have p2:=Y3 b (qa*10+(y.toNat - 48));have p3:(qa*10+(x.toNat - 48)+1)*10 ^ a.length<=(qa*10+(y.toNat - 48))*10 ^ a.length:=Fp _ (by omega);simp only[Adp,We];rw[hl]at p1 p3;omega
  .rw[decide_eq_false h1,U6];have qt:y.toNat<=x.toNat:=Nat.le_of_not_lt h1;by_cases h2:x=y
   .subst h2;rw[beq_self_eq_true,Xv];exact Ap4 a b _ (Tx ha) (Tx hb) hl
   .have qy:y.toNat<x.toNat:=by
     have:x.toNat≠y.toNat:=fun e=>h2 (UInt8.toNat_inj.1 e)
     omega
    rw[beq_eq_false_iff_ne.2 h2,Qu]
    symm
    rw[decide_eq_false_iff_not];have p1:=Acx b (qa*10+(y.toNat - 48)) (Tx hb);have p2:=Y3 a (qa*10+(x.toNat - 48));have p3:(qa*10+(y.toNat - 48)+1)*10 ^ b.length<=(qa*10+(x.toNat - 48))*10 ^ b.length:=Fp _ (by omega);simp only[Adp,We];rw[hl]at p2;omega
def Ap5:∀ (l:List UInt8),Hg 0 (l.dropWhile (·==48))=Hg 0 l
 | []=>rfl
 | c::l=>by
  rw[Aa2]
  split
  .rename_i h;have hc:c=48:=by simpa using h
   subst hc;rw[Ap5 l];rfl
  .rfl
def Aob:∀ {l:List UInt8},J7 l->J7 (l.dropWhile (·==48))/\∀ c r,l.dropWhile (·==48)=c::r->49<=c.toNat
 | [],_=>⟨fun _ h=>by simp at h,fun c r h=>by simp at h⟩
 | c::l,h=>by
  rw[Aa2]
  split
  .exact Aob (Tx h)
  .rename_i hc;refine⟨h,fun d r e=>?_⟩;cases e;have:=Wf h;have h2:c.toNat≠48:=fun e=>hc (by simp[UInt8.toNat_inj.1 (show c.toNat=(48:UInt8).toNat from e)])
   omega
def Aoc{w:List UInt8}(h:J7 w):P0 w=decide (Hg 0 w<=9223372036854775807):=by
 obtain⟨h1,h2⟩:=Aob h;rw[<-Ap5 w];unfold P0;simp only;generalize w.dropWhile (·==48)=d at h1 h2 ⊢;have hg:Hg 0 greatS=9223372036854775807:=by decide
 have qu:J7 greatS:=fun c hc=>by
  have:greatS.all Fx=true:=by decide
  exact Bp.1 this c hc
 by_cases hl:19<d.length
 .rw[decide_eq_true hl,Bool.true_or,Ay]
  symm
  rw[decide_eq_false_iff_not]
  match d,hl,h1,h2 with
  | c::r,hl,h1,h2=>
   have hc:=h2 c r rfl;have qo:=Y3 r (0*10+(c.toNat - 48));simp only[Adp,We];have:10 ^ 19<=10 ^ r.length:=Nat.pow_le_pow_right (by decide) (by simp at hl;omega);have h3:1*10 ^ r.length<=(0*10+(c.toNat - 48))*10 ^ r.length:=Fp _ (by omega);omega
 .rw[decide_eq_false hl,U6];by_cases qi:d.length=19
  .rw[decide_eq_true qi,Xv,Ap4 greatS d 0 qu h1 (by rw[qi];rfl),hg];by_cases hv:9223372036854775807<Hg 0 d
   .rw[decide_eq_true hv]
    symm
    rw[Ay,decide_eq_false_iff_not];omega
   .rw[decide_eq_false hv]
    symm
    rw[A1,decide_eq_true_eq];omega
  .rw[decide_eq_false qi,Qu,A1]
   symm
   rw[decide_eq_true_eq];have qA:=Acx d 0 h1;have:10 ^ d.length<=10 ^ 18:=Nat.pow_le_pow_right (by decide) (by omega);omega
def A7v(l:List UInt8)(qa:Nat):qa<=Hg qa l:=by
 have:=Y3 l qa;have h:1<=10 ^ l.length:=Nat.one_le_pow _ _ (by decide);have:=Nat.mul_le_mul_left qa h;omega
def pum:∀ (l:List UInt8) (qa:Nat),J7 l->Hg qa l<=18446744073709551615->Lib.parseUintM 18446744073709551615 qa l=.ok (Hg qa l)
 | [],_,_,_=>rfl
 | c::l,qa,h,hv=>by
  have hc:=Wf h;have qz:=A7v l (qa*10+(c.toNat - 48));simp only[Adp,We]at hv ⊢;rw[Lib.parseUintM,if_pos hc,if_neg (by omega),if_neg (by omega)];exact pum l _ (Tx h) hv
def Awu{c:UInt8}{l:List UInt8}(h:J7 (c::l))(hv:Hg 0 (c::l)<=9223372036854775807):Lib.parseIntB 64 (c::l)=.ok (Hg 0 (c::l):Int):=by
 have hc:=Wf h;have hp:=pum (c::l) 0 h (by omega);unfold Lib.parseIntB;simp only;rw[if_neg (by omega)];unfold Lib.parseUintB;rw[if_neg (by simp),show(2 ^ 64 - 1:Nat)=18446744073709551615 by decide,hp];simp only;rw[if_neg (by omega),if_neg (by omega),if_neg (by omega)]
def Ap6{c:UInt8}{l:List UInt8}(h:J7 (c::l))(hv:Hg 0 (c::l)<=9223372036854775807):Jh (c::l)=(Hg 0 (c::l):Int):=by
 unfold Jh;rw[Awu h hv]
/-! declarations -/
/-! threads -/
/-! equal expressions have the same tokens and texts -/
mutual
theorem Ag7:∀ (x y:Xp),Aei x y=true->x.op=y.op/\x.toks=y.toks/\x.txt=y.txt
 | ⟨op,n,nm,z,t,l⟩,⟨op',n',nm',z',t',l'⟩,h=>by
  simp only[Aei,Af,beq_iff_eq]at h;obtain⟨rfl,rfl,rfl,h⟩:=h;obtain⟨h1,h2⟩:=Amy l l' h;simp only[Xp.toks,Xp.txt,h1,h2];exact⟨trivial,trivial,trivial⟩
theorem Amy:∀ (l l':List Xp),Tw l l'=true->Xp.tokss l=Xp.tokss l'/\Xp.txts l=Xp.txts l'
 | [],[],_=>⟨rfl,rfl⟩
 | x::l,y::l',h=>by
  simp only[Tw,Af]at h;obtain⟨h1,h2,h3⟩:=Ag7 x y h.1;obtain⟨h4,h5⟩:=Amy l l' h.2;simp only[Xp.tokss,Xp.txts,h1,h2,h3,h4,h5];exact⟨trivial,trivial⟩
 | [],_::_,h=>by cases h
 | _::_,[],h=>by cases h
end
def A7w(s:List UInt8):I2 s=(0,0)\/((6<=(I2 s).1/\(I2 s).1<=18)/\(I2 s).2=Bw (I2 s).1):=by
 unfold I2
 cases h:opTab.lookup s with
 | none=>exact .inl rfl
 | some p=>
  have hm:∃ k,(k,p)∈opTab:=by
   revert h;generalize opTab=l
   induction l with
   | nil=>intro h;cases h
   | cons q l ih=>
    intro h;obtain⟨k,v⟩:=q;rw[Aa8]at h
    split at h
    .cases h;exact⟨k,C5⟩
    .obtain⟨k',hk⟩:=ih h;exact⟨k',C4 _ hk⟩
  obtain⟨k,hk⟩:=hm;have qj:(opTab.all fun q=>decide ((6<=q.2.1/\q.2.1<=18)/\q.2.2=Bw q.2.1))=true:=by decide
  exact .inr (by simpa using Bp.1 qj _ hk)
def A3c{qb:Nat}{ts:List Tk}(h:Hu qb ts≠0):(6<=Hu qb ts/\Hu qb ts<=18)/\Bw (Hu qb ts)=qb/\ts.length=ts.tail.length+1:=by
 cases ts with
 | nil=>exact absurd rfl h
 | cons t ts=>
  simp only[Hu]at h ⊢
  split at h
  .split at h
   .rename_i h1 h2;rw[if_pos h1,if_pos h2];rcases A7w t.text with e | e
    .rw[e]at h;exact absurd rfl h
    .exact⟨e.1,by rw[<-e.2,h2],by simp⟩
   .exact absurd rfl h
  .exact absurd rfl h
/-! parentheses -/
def flatB(l:List UInt8):Prop:=∀ c∈l,c≠40/\c≠41
