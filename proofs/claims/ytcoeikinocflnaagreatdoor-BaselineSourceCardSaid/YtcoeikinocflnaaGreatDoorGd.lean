/- Walks: the reference's texts of declarations and programs. -/
import Derived.Test.YtcoeikinocflnaaGreatDoorGc
set_option linter.all false
namespace Go.Proofs.YtcoeikinocflnaaGreatDoor.KM
open Go
theorem Acf:∀ (k u:Nat),(Ld k u).length<=k
 | 0,_=>by simp[Ld]
 | k+1,u=>by
  have:=Acf k (u / 10);unfold Ld
  split
  ·simp
  ·simp;omega
theorem Rc(n:Int):(Cm n).length<=21:=by
 unfold Cm
 split
 ·have:=Acf 20 n.natAbs;simp;omega
 ·have:=Acf 20 n.toNat
  omega
theorem Aqj{d:Dp}(h:CnD d)(hn:d.nm.length<=100000000000000)(ho:d.kind=5->d.on.length<=100000000000000):Fn TT PT 48 [.agg d.row] (.str (Eh d++[59,10])):=by
 obtain⟨⟨k1,k2⟩,⟨h0,h1,h2⟩,i1,i2,h3⟩:=h;obtain⟨kind,line,nm,size,init,on⟩:=d;simp only at k1 k2 h0 h1 h2 i1 i2 h3 hn ho;unfold Dp.row;simp only;have l1:=Rc size;have l2:=Rc init;have hk:kind=1\/kind=2\/kind=3\/kind=4\/kind=5\/kind=6:=by omega
 have hsz:(size=0/\((0:Int)<0)=False/\True)\/(size≠0/\((0:Int)<size)=True/\Rz [.int .i64 size]=some (.str (Cm size))):=by
  by_cases hz:size=0
  ·exact .inl ⟨hz,eq_false (by omega),trivial⟩
  ·exact .inr ⟨hz,eq_true (by omega),by unfold Rz;exact if_pos ⟨by omega,h1⟩⟩
 have hin:(init=0/\((0:Int) != 0)=false/\True)\/(init≠0/\(init != 0)=true/\L9 [.int .i64 init,.int .i64 10]=some (.str (Cm init))):=by
  by_cases hz:init=0
  ·exact .inl ⟨hz,by decide,trivial⟩
  ·exact .inr ⟨hz,by simp[hz],by unfold L9;exact if_pos ⟨i1,i2⟩⟩
 rcases hk with rfl | hk
 ·rcases hsz with⟨rfl,z1,z2⟩ | ⟨z0,z1,z2⟩<;>rcases hin with⟨rfl,n1,n2⟩ | ⟨n0,n1,n2⟩
  ·refine Bn T48 rfl ?_;have a1:Ai .add ([118,97,114,32]) (nm)=some (.str (118::97::114::32::nm)):=Ak (by simp;try omega) (by simp);have a2:Ai .add (118::97::114::32::nm) ([59,10])=some (.str (118::97::114::32::(nm++[59,10]))):=Ak (by simp;try omega) (by simp);simp only[go_sem,Int.reduceLT,Int.reduceBEq,gt_iff_lt,z1,n1];refine Ag (by kernel_rfl) ?_;simp only[go_sem,↓a1,↓a2];simp only[go_sem,z1,n1,Int.reduceBEq,↓a1,↓a2];exact An rfl (by simp[Eh,Im])
  ·refine Bn T48 rfl ?_;have a1:Ai .add ([118,97,114,32]) (nm)=some (.str (118::97::114::32::nm)):=Ak (by simp;try omega) (by simp);have a2:Ai .add (118::97::114::32::nm) ([32,61,32])=some (.str (118::97::114::32::(nm++[32,61,32]))):=Ak (by simp;try omega) (by simp);have a3:Ai .add (118::97::114::32::(nm++[32,61,32])) (Cm init)=some (.str (118::97::114::32::(nm++32::61::32::Cm init))):=Ak (by simp;try omega) (by simp);have a4:Ai .add (118::97::114::32::(nm++32::61::32::Cm init)) ([59,10])=some (.str (118::97::114::32::(nm++32::61::32::(Cm init++[59,10])))):=Ak (by simp;try omega) (by simp);simp only[go_sem,Int.reduceLT,Int.reduceBEq,gt_iff_lt,z1,n1];refine Ag (by kernel_rfl) ?_;simp only[go_sem,↓a1,↓a2,↓a3,↓a4];simp only[go_sem,z1,n1,Int.reduceBEq,↓a1,↓a2,↓a3,↓a4];refine E6 P90 (by simp only[go_sem]) n2 ?_;simp only[go_sem,z1,n1,Int.reduceBEq,↓a1,↓a2,↓a3,↓a4];exact An rfl (by simp[Eh,Im,n0])
  ·refine Bn T48 rfl ?_;have a1:Ai .add ([118,97,114,32]) (nm)=some (.str (118::97::114::32::nm)):=Ak (by simp;try omega) (by simp);have a2:Ai .add (118::97::114::32::nm) ([91])=some (.str (118::97::114::32::(nm++[91]))):=Ak (by simp;try omega) (by simp);have c1:Ai .add (118::97::114::32::(nm++[91])) (Cm size)=some (.str (118::97::114::32::(nm++91::Cm size))):=Ak (by simp;try omega) (by simp);have c2:Ai .add (118::97::114::32::(nm++91::Cm size)) [93]=some (.str (118::97::114::32::(nm++91::(Cm size++[93])))):=Ak (by simp;try omega) (by simp);have a3:Ai .add (118::97::114::32::(nm++91::(Cm size++[93]))) ([59,10])=some (.str (118::97::114::32::(nm++91::(Cm size++[93,59,10])))):=Ak (by simp;try omega) (by simp);simp only[go_sem,Int.reduceLT,Int.reduceBEq,gt_iff_lt,z1,n1];refine Ag (by kernel_rfl) ?_;simp only[go_sem,↓a1,↓a2,↓c1,↓c2,↓a3];simp only[go_sem,z1,↓a1,↓a2,↓c1,↓c2,↓a3];refine E6 P89 (by simp only[go_sem]) z2 ?_;simp only[go_sem,z1,n1,Int.reduceBEq,↓a1,↓a2,↓c1,↓c2,↓a3];exact An rfl (by simp[Eh,Im,z0])
  ·refine Bn T48 rfl ?_;have a1:Ai .add ([118,97,114,32]) (nm)=some (.str (118::97::114::32::nm)):=Ak (by simp;try omega) (by simp);have a2:Ai .add (118::97::114::32::nm) ([91])=some (.str (118::97::114::32::(nm++[91]))):=Ak (by simp;try omega) (by simp);have c1:Ai .add (118::97::114::32::(nm++[91])) (Cm size)=some (.str (118::97::114::32::(nm++91::Cm size))):=Ak (by simp;try omega) (by simp);have c2:Ai .add (118::97::114::32::(nm++91::Cm size)) [93]=some (.str (118::97::114::32::(nm++91::(Cm size++[93])))):=Ak (by simp;try omega) (by simp);have a3:Ai .add (118::97::114::32::(nm++91::(Cm size++[93]))) ([32,61,32])=some (.str (118::97::114::32::(nm++91::(Cm size++[93,32,61,32])))):=Ak (by simp;try omega) (by simp);have a4:Ai .add (118::97::114::32::(nm++91::(Cm size++[93,32,61,32]))) (Cm init)=some (.str (118::97::114::32::(nm++91::(Cm size++93::32::61::32::Cm init)))):=Ak (by simp;try omega) (by simp);have a5:Ai .add (118::97::114::32::(nm++91::(Cm size++93::32::61::32::Cm init))) ([59,10])=some (.str (118::97::114::32::(nm++91::(Cm size++93::32::61::32::(Cm init++[59,10]))))):=Ak (by simp;try omega) (by simp);simp only[go_sem,Int.reduceLT,Int.reduceBEq,gt_iff_lt,z1,n1];refine Ag (by kernel_rfl) ?_;simp only[go_sem,↓a1,↓a2,↓c1,↓c2,↓a3,↓a4,↓a5];simp only[go_sem,z1,↓a1,↓a2,↓c1,↓c2,↓a3,↓a4,↓a5];refine E6 P89 (by simp only[go_sem]) z2 ?_;simp only[go_sem,z1,n1,Int.reduceBEq,↓a1,↓a2,↓c1,↓c2,↓a3,↓a4,↓a5];refine E6 P90 (by simp only[go_sem]) n2 ?_;simp only[go_sem,z1,n1,Int.reduceBEq,↓a1,↓a2,↓c1,↓c2,↓a3,↓a4,↓a5];exact An rfl (by simp[Eh,Im,z0,n0])
 rcases hk with rfl | hk
 ·obtain rfl:size=0:=h2 (by omega);have z1:((0:Int)<0)=False:=eq_false (by omega);rcases hin with⟨rfl,n1,n2⟩ | ⟨n0,n1,n2⟩
  ·refine Bn T48 rfl ?_;have a1:Ai .add ([118,111,108,97,116,105,108,101,32]) (nm)=some (.str (118::111::108::97::116::105::108::101::32::nm)):=Ak (by simp;try omega) (by simp);have a2:Ai .add (118::111::108::97::116::105::108::101::32::nm) ([59,10])=some (.str (118::111::108::97::116::105::108::101::32::(nm++[59,10]))):=Ak (by simp;try omega) (by simp);simp only[go_sem,Int.reduceLT,Int.reduceBEq,gt_iff_lt,z1,n1];refine Ag (by kernel_rfl) ?_;simp only[go_sem,↓a1,↓a2];simp only[go_sem,z1,n1,Int.reduceBEq,↓a1,↓a2];exact An rfl (by simp[Eh,Im])
  ·refine Bn T48 rfl ?_;have a1:Ai .add ([118,111,108,97,116,105,108,101,32]) (nm)=some (.str (118::111::108::97::116::105::108::101::32::nm)):=Ak (by simp;try omega) (by simp);have a2:Ai .add (118::111::108::97::116::105::108::101::32::nm) ([32,61,32])=some (.str (118::111::108::97::116::105::108::101::32::(nm++[32,61,32]))):=Ak (by simp;try omega) (by simp);have a3:Ai .add (118::111::108::97::116::105::108::101::32::(nm++[32,61,32])) (Cm init)=some (.str (118::111::108::97::116::105::108::101::32::(nm++32::61::32::Cm init))):=Ak (by simp;try omega) (by simp);have a4:Ai .add (118::111::108::97::116::105::108::101::32::(nm++32::61::32::Cm init)) ([59,10])=some (.str (118::111::108::97::116::105::108::101::32::(nm++32::61::32::(Cm init++[59,10])))):=Ak (by simp;try omega) (by simp);simp only[go_sem,Int.reduceLT,Int.reduceBEq,gt_iff_lt,z1,n1];refine Ag (by kernel_rfl) ?_;simp only[go_sem,↓a1,↓a2,↓a3,↓a4];simp only[go_sem,z1,n1,Int.reduceBEq,↓a1,↓a2,↓a3,↓a4];refine E6 P90 (by simp only[go_sem]) n2 ?_;simp only[go_sem,z1,n1,Int.reduceBEq,↓a1,↓a2,↓a3,↓a4];exact An rfl (by simp[Eh,Im,n0])
 rcases hk with rfl | hk
 ·obtain rfl:size=0:=h2 (by omega);obtain rfl:init=0:=h3 (by omega) (by omega);have z1:((0:Int)<0)=False:=eq_false (by omega);have n1:((0:Int) != 0)=false:=by decide
  refine Bn T48 rfl ?_;have a1:Ai .add ([109,117,116,101,120,32]) (nm)=some (.str (109::117::116::101::120::32::nm)):=Ak (by simp;try omega) (by simp);have a2:Ai .add (109::117::116::101::120::32::nm) ([59,10])=some (.str (109::117::116::101::120::32::(nm++[59,10]))):=Ak (by simp;try omega) (by simp);simp only[go_sem,Int.reduceLT,Int.reduceBEq,gt_iff_lt,z1,n1];refine Ag (by kernel_rfl) ?_;simp only[go_sem,↓a1,↓a2];simp only[go_sem,z1,n1,Int.reduceBEq,↓a1,↓a2];exact An rfl (by simp[Eh,Im])
 rcases hk with rfl | hk
 ·obtain rfl:size=0:=h2 (by omega);obtain rfl:init=0:=h3 (by omega) (by omega);have z1:((0:Int)<0)=False:=eq_false (by omega);have n1:((0:Int) != 0)=false:=by decide
  refine Bn T48 rfl ?_;have a1:Ai .add ([114,119,108,111,99,107,32]) (nm)=some (.str (114::119::108::111::99::107::32::nm)):=Ak (by simp;try omega) (by simp);have a2:Ai .add (114::119::108::111::99::107::32::nm) ([59,10])=some (.str (114::119::108::111::99::107::32::(nm++[59,10]))):=Ak (by simp;try omega) (by simp);simp only[go_sem,Int.reduceLT,Int.reduceBEq,gt_iff_lt,z1,n1];refine Ag (by kernel_rfl) ?_;simp only[go_sem,↓a1,↓a2];simp only[go_sem,z1,n1,Int.reduceBEq,↓a1,↓a2];exact An rfl (by simp[Eh,Im])
 rcases hk with rfl | hk
 ·have ho:=ho rfl;obtain rfl:size=0:=h2 (by omega);obtain rfl:init=0:=h3 (by omega) (by omega);have z1:((0:Int)<0)=False:=eq_false (by omega);have n1:((0:Int) != 0)=false:=by decide
  refine Bn T48 rfl ?_;have a1:Ai .add ([99,111,110,100,32]) (nm)=some (.str (99::111::110::100::32::nm)):=Ak (by simp;try omega) (by simp);have a2:Ai .add (99::111::110::100::32::nm) ([32])=some (.str (99::111::110::100::32::(nm++[32]))):=Ak (by simp;try omega) (by simp);have a3:Ai .add (99::111::110::100::32::(nm++[32])) (on)=some (.str (99::111::110::100::32::(nm++32::on))):=Ak (by simp;try omega) (by simp);have a4:Ai .add (99::111::110::100::32::(nm++32::on)) ([59,10])=some (.str (99::111::110::100::32::(nm++32::(on++[59,10])))):=Ak (by simp;try omega) (by simp);simp only[go_sem,Int.reduceLT,Int.reduceBEq,gt_iff_lt,z1,n1];refine Ag (by kernel_rfl) ?_;simp only[go_sem,↓a1,↓a2,↓a3,↓a4];simp only[go_sem,z1,n1,Int.reduceBEq,↓a1,↓a2,↓a3,↓a4];exact An rfl (by simp[Eh,Im])
 subst hk;obtain rfl:size=0:=h2 (by omega);obtain rfl:init=0:=h3 (by omega) (by omega);have z1:((0:Int)<0)=False:=eq_false (by omega);have n1:((0:Int) != 0)=false:=by decide
 refine Bn T48 rfl ?_;have a1:Ai .add ([102,117,116,117,114,101,32]) (nm)=some (.str (102::117::116::117::114::101::32::nm)):=Ak (by simp;try omega) (by simp);have a2:Ai .add (102::117::116::117::114::101::32::nm) ([59,10])=some (.str (102::117::116::117::114::101::32::(nm++[59,10]))):=Ak (by simp;try omega) (by simp);simp only[go_sem,Int.reduceLT,Int.reduceBEq,gt_iff_lt,z1,n1];refine Ag (by kernel_rfl) ?_;simp only[go_sem,↓a1,↓a2];simp only[go_sem,z1,n1,Int.reduceBEq,↓a1,↓a2];exact An rfl (by simp[Eh,Im])
theorem Aqk{d:Dp}(h:1<=d.kind/\d.kind<=6):d.nm.length<=(Eh d).length/\(d.kind=5->d.on.length<=(Eh d).length):=by
 unfold Eh;refine⟨?_,fun h5=>?_⟩
 ·repeat' split
  all_goals simp
  all_goals omega
 ·rw[if_neg (by omega),if_neg (by omega),if_neg (by omega),if_neg (by omega),if_pos h5];simp;omega
def jr:List (List UInt8)->List UInt8
 | []=>[]
 | a::l=>44::32::(a++jr l)
theorem Abv:∀ (a:List UInt8) (l:List (List UInt8)),D8 (a::l)=a++jr l
 | a,[]=>by simp[D8,jr]
 | a,b::l=>by rw[D8,Abv b l,jr]
def On(l:List (List UInt8))(k:Nat):List UInt8:=if k=0 then D8 l else jr (l.drop k)
theorem Ans(l:List (List UInt8)):l.length<=(D8 l).length+1:=by
 have:∀ l:List (List UInt8),l.length<=(jr l).length:=fun l=>by
  induction l with
  | nil=>simp
  | cons a l ih=>simp[jr];omega
 cases l with
 | nil=>simp
 | cons a l=>rw[Abv];have:=this l;simp;omega
theorem Aag{α:Type}(f:α->List UInt8)(hf:∀ x,1<=(f x).length):∀ l:List α,l.length<=((l.map f).flatten).length
 | []=>by simp
 | y::l=>by
  have:=Aag f hf l;have:=hf y;rw[Ba,E9,Ao,Am];omega
theorem Aot{K:List It}{Q:Env->St->Prop}{A C:V}{l:List (List UInt8)}{z:Bool}{u j0:Nat}{nm:List UInt8}{line:Int}{B:V}{s:St}(hs:s[j0]?=some (.row [.str nm,.int .i64 line,SL z u (l.map fun x=>[V.str x]),B] 91 0 0))(acc:List UInt8)(hl:acc.length+(D8 l).length<=100000000000000)
  (h:W TT PT K [(1,A),(3,.str (acc++D8 l)),(5,C),(6,.ptr j0 0 0),(7,.int .i64 (l.length:Int))] s Q) :
  W TT PT (.l [1,3,5,6,7] lp17_1::.b 4::K) [(1,A),(3,.str acc),(5,C),(6,.ptr j0 0 0),(7,.int .i64 0)] s Q:=by
 have hll:=Ans l;have hlm:(l.map fun x=>[V.str x]).length=l.length:=Bl ..;refine B9 (α:=Nat × List UInt8) (fun a=>l.length - a.1) (fun a=>[(1,A),(3,.str a.2),(5,C),(6,.ptr j0 0 0),(7,.int .i64 (a.1:Int))]) (fun _=>s) (fun a=>a.1<=l.length/\a.2++On l a.1=acc++D8 l) ?_ (0,acc) ⟨A2 _,rfl⟩;rintro⟨i,c⟩ ⟨hi,hc⟩ ih;simp only at hi hc ih;refine Ca (by delta lp17_1;exact rfl) ?_;have hcl:=congrArg List.length hc;simp only[Ao]at hcl;rcases Bx i l.length with h' | h'
 ·obtain⟨x,hx,hd,hm⟩:=Dd h';have hinc:=Bg (show i<9223372036854775807 by omega);by_cases hi0:i=0
  ·subst hi0;have f0:((0:Int)<((0:Nat):Int))=False:=eq_false (by omega);have f0':((0:Int)<0)=False:=eq_false (by omega);have f1:((0:Int)<(l.length:Int))=True:=eq_true (by omega);have hxl:l=x::l.drop 1:=by simpa using hd
   have hj:On l 0=x++jr (l.drop 1):=by
    unfold On;rw[if_pos rfl]
    conv=>lhs;rw[hxl]
    exact Abv x _
   rw[hj]at hc hcl;rw[Ao]at hcl;have a1:Ai .add c x=some (.str (c++x)):=Ak (by omega) rfl;simp only[go_sem,hs,hlm,f1,f0,f0',Bb,hx,↓a1,hinc];refine Bi (ih (1,c++x) (by simp;omega) ⟨by simp;omega,?_⟩) rfl;simp only;rw[<-hc,E4];rfl
  ·have f0:((0:Int)<(i:Int))=True:=eq_true (by omega)
   have hj:On l i=44::32::(x++jr (l.drop (i+1))):=by
    unfold On;rw[if_neg hi0,hd,jr]
   rw[hj]at hc hcl;simp only[Am,Ao]at hcl;have a1:Ai .add c [44,32]=some (.str (c++[44,32])):=Ak (by simp;omega) rfl;have a2:Ai .add (c++[44,32]) x=some (.str (c++44::32::x)):=Ak (by simp;omega) (by simp);simp only[go_sem,hs,hlm,B7 h',f0,↓a1];simp only[go_sem,hs,Bb,hx,↓a2,hinc];refine Bi (ih (i+1,c++44::32::x) (by simp;omega) ⟨by simp;omega,?_⟩) rfl;simp only;rw[<-hc];unfold On;rw[if_neg (by omega)];simp
 ·obtain rfl:i=l.length:=by omega
  have hj:On l l.length=[]:=by
   unfold On
   split
   ·rename_i h0;rw[Zp h0];rfl
   ·rw[Fk h'];rfl
  rw[hj,Cw]at hc;subst hc;simp only[go_sem,hs,hlm,Cr h'];exact h
theorem Aql{p:Gp}(h:CnG p)(hl:(Js p).length<=100000000000000):Fn TT PT 17 [.agg p.row] (.str (Js p)):=by
 obtain⟨hD,hT⟩:=h;obtain⟨dz,dt,decls,tz,tt,thrs⟩:=p;simp only at hD hT;unfold Js at hl ⊢;simp only at hl ⊢;unfold Gp.row;simp only;have n1:(decls.map Dp.row).length=decls.length:=Bl ..;have n2:(thrs.map Tp.row).length=thrs.length:=Bl ..;rw[Ao]at hl;have c1:=Aag (fun d=>Eh d++[59,10]) (fun x=>by simp) decls;have c2:=Aag E7 (fun x=>by simp[E7]) thrs;refine Bn T17 rfl ?_;simp only[go_sem];refine B9 (α:=Nat × List UInt8) (fun a=>decls.length - a.1) (fun a=>[(1,.ptr 0 0 0),(3,.str a.2),(4,.int .i64 (a.1:Int))]) (fun _=>[.row [SL dz dt (decls.map Dp.row),SL tz tt (thrs.map Tp.row)] 27 0 0]) (fun a=>a.1<=decls.length/\a.2++((decls.drop a.1).map fun d=>Eh d++[59,10]).flatten=(decls.map fun d=>Eh d++[59,10]).flatten) ?_ (0,[]) ⟨A2 _,rfl⟩;rintro⟨i,acc⟩ ⟨hi,hc⟩ ih;simp only at hi hc ih;refine Ca (by delta lp17_0;exact rfl) ?_;have hcl:=congrArg List.length hc;simp only[Ao]at hcl;rcases Bx i decls.length with h' | h'
 ·obtain⟨x,hx,hd,hm⟩:=Dd h';rw[hd,Ba,E9]at hc hcl;simp only[Ao,Am,Cx]at hcl;obtain⟨e1,e2⟩:=Aqk (hD x hm).kind;have hf:=Aqj (hD x hm) (by omega) (fun h5=>by have:=e2 h5;omega);have a1:Ai .add acc (Eh x++[59,10])=some (.str (acc++(Eh x++[59,10]))):=Ak (by simp;omega) rfl;have hrow:x.row=[.int .i64 x.kind,.int .i64 x.line,.str x.nm,.int .i64 x.size,.int .i64 x.init,.str x.on]:=rfl;rw[hrow]at hf;simp only[go_sem,n1,B7 h',Bb,hx,hrow];refine Ad hf (by simp only[go_sem]) ?_;simp only[go_sem,↓a1,Bg (show i<9223372036854775807 by omega)];refine Bi (ih (i+1,acc++(Eh x++[59,10])) (by simp;omega) ⟨by simp;omega,?_⟩) rfl;simp only;rw[E4];exact hc
 ·obtain rfl:i=decls.length:=by omega
  rw[Fk h']at hc;simp only[Bs,Zz,Cw]at hc;subst hc;clear ih;simp only[go_sem,n1,Cr h'];refine B9 (α:=Nat × List UInt8 × St) (fun a=>thrs.length - a.1) (fun a=>[(1,.ptr 0 0 0),(3,.str a.2.1),(5,.int .i64 (a.1:Int))]) (fun a=>a.2.2) (fun a=>a.1<=thrs.length/\a.2.1++((thrs.drop a.1).map E7).flatten=(decls.map fun d=>Eh d++[59,10]).flatten++(thrs.map E7).flatten/\a.2.2[0]?=some (.row [SL dz dt (decls.map Dp.row),SL tz tt (thrs.map Tp.row)] 27 0 0)) ?_ (0,_,_) ⟨A2 _,rfl,rfl⟩;rintro⟨i,acc,s⟩ ⟨hi,hc,hs⟩ ih;simp only at hi hc hs ih;refine Ca (by delta lp17_2;exact rfl) ?_;have hcl:=congrArg List.length hc;simp only[Ao]at hcl;rcases Bx i thrs.length with h' | h'
  ·obtain⟨x,hx,hd,hm⟩:=Dd h';rw[hd,Ba,E9]at hc hcl;rw[Ao]at hcl;have hth:=hT x hm;obtain⟨nm,line,lz,lt,locals,bz,bt,body⟩:=x;simp only at hth
   have hlen:(E7 ⟨nm,line,lz,lt,locals,bz,bt,body⟩).length=nm.length+(D8 locals).length+(Sp.txts 1 body).length+14:=by
    simp[E7];omega
   have hb:=Aaw bz bt 1 body (fun q hq=>Ahj (hth q hq) 1 (by have:=To 1 hq;omega)) (by omega) (by have:=Ti body 1;omega);obtain⟨s',hs'⟩:∃ s',s'=s++[Ob.row [.str nm,.int .i64 line,SL lz lt (locals.map fun x=>[V.str x]),SL bz bt (body.map Sp.row)] 91 0 0]:=⟨_,rfl⟩;have k1:s'[s.length]?=some (.row [.str nm,.int .i64 line,SL lz lt (locals.map fun x=>[V.str x]),SL bz bt (body.map Sp.row)] 91 0 0):=by rw[hs',Cf (Ah _),Ir];rfl
   have k0:s'[0]?=some (.row [SL dz dt (decls.map Dp.row),SL tz tt (thrs.map Tp.row)] 27 0 0):=by rw[hs'];exact Br hs
   have hrow:Tp.row ⟨nm,line,lz,lt,locals,bz,bt,body⟩=[.str nm,.int .i64 line,SL lz lt (locals.map fun x=>[V.str x]),SL bz bt (body.map Sp.row)]:=rfl;have a1:Ai .add acc [116,104,114,101,97,100,32]=some (.str (acc++[116,104,114,101,97,100,32])):=Ak (by simp;omega) rfl;have a2:Ai .add (acc++[116,104,114,101,97,100,32]) nm=some (.str (acc++116::104::114::101::97::100::32::nm)):=Ak (by simp;omega) (by simp);have a3:Ai .add (acc++116::104::114::101::97::100::32::nm) [40]=some (.str (acc++116::104::114::101::97::100::32::(nm++[40]))):=Ak (by simp;omega) (by simp);simp only[go_sem,hs,n2,B7 h',Bb,hx,hrow,↓a1,↓a2,↓a3];rw[<-hs'];refine Aot k1 _ (by simp;omega) ?_;rw[show acc++116::104::114::101::97::100::32::(nm++[40])++D8 locals=acc++116::104::114::101::97::100::32::(nm++40::D8 locals) by simp];have a4:Ai .add (acc++116::104::114::101::97::100::32::(nm++40::D8 locals)) [41,32,123,10]=some (.str (acc++116::104::114::101::97::100::32::(nm++40::(D8 locals++[41,32,123,10])))):=Ak (by simp;omega) (by simp);have a5:Ai .add (acc++116::104::114::101::97::100::32::(nm++40::(D8 locals++[41,32,123,10]))) (Sp.txts 1 body)=some (.str (acc++116::104::114::101::97::100::32::(nm++40::(D8 locals++41::32::123::10::Sp.txts 1 body)))):=Ak (by simp;omega) (by simp);have a6:Ai .add (acc++116::104::114::101::97::100::32::(nm++40::(D8 locals++41::32::123::10::Sp.txts 1 body))) [125,10]=some (.str (acc++116::104::114::101::97::100::32::(nm++40::(D8 locals++41::32::123::10::(Sp.txts 1 body++[125,10]))))):=Ak (by simp;omega) (by simp);simp only[go_sem,k1,↓a4];refine Ad hb (by simp only[go_sem]) ?_;simp only[go_sem,↓a5,↓a6,Bg (show i<9223372036854775807 by omega)];refine Bi (ih (i+1,acc++E7 ⟨nm,line,lz,lt,locals,bz,bt,body⟩,s') (by simp;omega) ⟨by simp;omega,by simp only;rw[E4];exact hc,k0⟩) (by simp[E7];rfl)
  ·obtain rfl:i=thrs.length:=by omega
   rw[Fk h']at hc;simp only[Bs,Zz,Cw]at hc;subst hc;simp only[go_sem,hs,n2,Cr h'];exact Ek rfl
