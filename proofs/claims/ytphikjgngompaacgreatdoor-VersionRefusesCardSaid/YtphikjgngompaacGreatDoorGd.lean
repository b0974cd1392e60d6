/- Walks: the reference's texts of declarations and programs. -/
import Derived.Test.YtphikjgngompaacGreatDoorLm
import Derived.Test.YtphikjgngompaacGreatDoorCa
set_option linter.all false
namespace Go.Proofs.YtphikjgngompaacGreatDoor.KM
open Go
theorem Awn:∀ (k u:Nat),(O2 k u).length<=k
 | 0,_=>by simp[O2]
 | k+1,u=>by
  have:=Awn k (u / 10)
  grind[O2]
def Wj(n:Int):(Cy n).length<=21:=by
 grind[Cy,Awn]
def A6x{d:Dp}(h:CnD d)(hn:d.nm.length<=100000000000000)(ho:d.kind=5->d.on.length<=100000000000000):Fn TT PT 35 [.agg d.row] (.str (F5 d++[59,10])):=by
 obtain⟨⟨k1,k2⟩,⟨h0,h1,h2⟩,i1,i2,h3⟩:=h;obtain⟨kind,line,nm,size,init,on⟩:=d;simp only at k1 k2 h0 h1 h2 i1 i2 h3 hn ho;unfold Dp.row;simp only;have l1:=Wj size;have l2:=Wj init;have hk:kind=1\/kind=2\/kind=3\/kind=4\/kind=5\/kind=6:=by omega
 have qw:(size=0/\((0:Int)<0)=False/\True)\/(size≠0/\((0:Int)<size)=True/\W2 [iV size]=some (.str (Cy size))):=by
  by_cases hz:size=0
  .grind
  .exact .inr ⟨hz,eq_true AA,by unfold W2;grind⟩
 have qA:(init=0/\((0:Int) != 0)=false/\True)\/(init≠0/\(init != 0)=true/\Pz [iV init,iV 10]=some (.str (Cy init))):=by
  by_cases hz:init=0
  .grind
  .simp_all [Pz]
 rcases hk with rfl | hk
 .rcases qw with⟨rfl,z1,z2⟩ | ⟨z0,z1,z2⟩<;>rcases qA with⟨rfl,n1,n2⟩ | ⟨n0,n1,n2⟩
  .refine Bg T35 rfl ?_;have a1:Ap .add ([118,97,114,32]) (nm)=some (.str (118::97::114::32::nm)):=Ar (by grind) AE;have a2:Ap .add (118::97::114::32::nm) ([59,10])=some (.str (118::97::114::32::(nm++[59,10]))):=Ar (by grind) AE;simp only[go_sem,Int.reduceLT,Int.reduceBEq,gt_iff_lt,z1,n1];refine Ad AD ?_;simp only[go_sem,↓a1,↓a2];simp only[go_sem,z1,n1,Int.reduceBEq,↓a1,↓a2];exact Ae rfl (by simp[F5,Pt])
  .refine Bg T35 rfl ?_;have a1:Ap .add ([118,97,114,32]) (nm)=some (.str (118::97::114::32::nm)):=Ar (by grind) AE;have a2:Ap .add (118::97::114::32::nm) ([32,61,32])=some (.str (118::97::114::32::(nm++[32,61,32]))):=Ar (by grind) AE;have a3:Ap .add (118::97::114::32::(nm++[32,61,32])) (Cy init)=some (.str (118::97::114::32::(nm++32::61::32::Cy init))):=Ar AJ AE;have a4:Ap .add (118::97::114::32::(nm++32::61::32::Cy init)) ([59,10])=some (.str (118::97::114::32::(nm++32::61::32::(Cy init++[59,10])))):=Ar AJ AE;simp only[go_sem,Int.reduceLT,Int.reduceBEq,gt_iff_lt,z1,n1];refine Ad AD ?_;simp only[go_sem,↓a1,↓a2,↓a3,↓a4];simp only[go_sem,z1,n1,Int.reduceBEq,↓a1,↓a2,↓a3,↓a4];refine Fu P68 AB n2 ?_;simp only[go_sem,z1,n1,Int.reduceBEq,↓a1,↓a2,↓a3,↓a4];exact Ae rfl (by simp[F5,Pt,n0])
  .refine Bg T35 rfl ?_;have a1:Ap .add ([118,97,114,32]) (nm)=some (.str (118::97::114::32::nm)):=Ar (by grind) AE;have a2:Ap .add (118::97::114::32::nm) ([91])=some (.str (118::97::114::32::(nm++[91]))):=Ar (by grind) AE;have c1:Ap .add (118::97::114::32::(nm++[91])) (Cy size)=some (.str (118::97::114::32::(nm++91::Cy size))):=Ar (by grind) AE;have c2:Ap .add (118::97::114::32::(nm++91::Cy size)) [93]=some (.str (118::97::114::32::(nm++91::(Cy size++[93])))):=Ar (by grind) AE;have a3:Ap .add (118::97::114::32::(nm++91::(Cy size++[93]))) ([59,10])=some (.str (118::97::114::32::(nm++91::(Cy size++[93,59,10])))):=Ar (by grind) AE;simp only[go_sem,Int.reduceLT,Int.reduceBEq,gt_iff_lt,z1,n1];refine Ad AD ?_;simp only[go_sem,↓a1,↓a2,↓c1,↓c2,↓a3];simp only[go_sem,z1,↓a1,↓a2,↓c1,↓c2,↓a3];refine Fu P67 AB z2 ?_;simp only[go_sem,z1,n1,Int.reduceBEq,↓a1,↓a2,↓c1,↓c2,↓a3];exact Ae rfl (by simp[F5,Pt,z0])
  .refine Bg T35 rfl ?_;have a1:Ap .add ([118,97,114,32]) (nm)=some (.str (118::97::114::32::nm)):=Ar (by grind) AE;have a2:Ap .add (118::97::114::32::nm) ([91])=some (.str (118::97::114::32::(nm++[91]))):=Ar (by grind) AE;have c1:Ap .add (118::97::114::32::(nm++[91])) (Cy size)=some (.str (118::97::114::32::(nm++91::Cy size))):=Ar (by grind) AE;have c2:Ap .add (118::97::114::32::(nm++91::Cy size)) [93]=some (.str (118::97::114::32::(nm++91::(Cy size++[93])))):=Ar (by grind) AE;have a3:Ap .add (118::97::114::32::(nm++91::(Cy size++[93]))) ([32,61,32])=some (.str (118::97::114::32::(nm++91::(Cy size++[93,32,61,32])))):=Ar (by grind) AE;have a4:Ap .add (118::97::114::32::(nm++91::(Cy size++[93,32,61,32]))) (Cy init)=some (.str (118::97::114::32::(nm++91::(Cy size++93::32::61::32::Cy init)))):=Ar AJ AE;have a5:Ap .add (118::97::114::32::(nm++91::(Cy size++93::32::61::32::Cy init))) ([59,10])=some (.str (118::97::114::32::(nm++91::(Cy size++93::32::61::32::(Cy init++[59,10]))))):=Ar AJ AE;simp only[go_sem,Int.reduceLT,Int.reduceBEq,gt_iff_lt,z1,n1];refine Ad AD ?_;simp only[go_sem,↓a1,↓a2,↓c1,↓c2,↓a3,↓a4,↓a5];simp only[go_sem,z1,↓a1,↓a2,↓c1,↓c2,↓a3,↓a4,↓a5];refine Fu P67 AB z2 ?_;simp only[go_sem,z1,n1,Int.reduceBEq,↓a1,↓a2,↓c1,↓c2,↓a3,↓a4,↓a5];refine Fu P68 AB n2 ?_;simp only[go_sem,z1,n1,Int.reduceBEq,↓a1,↓a2,↓c1,↓c2,↓a3,↓a4,↓a5];exact Ae rfl (by simp_all [F5,Pt])
 rcases hk with rfl | hk
 .obtain rfl:size=0:=h2 AA;have z1:((0:Int)<0)=False:=eq_false AA;rcases qA with⟨rfl,n1,n2⟩ | ⟨n0,n1,n2⟩
  .refine Bg T35 rfl ?_;have a1:Ap .add ([118,111,108,97,116,105,108,101,32]) (nm)=some (.str (118::111::108::97::116::105::108::101::32::nm)):=Ar AJ AE;have a2:Ap .add (118::111::108::97::116::105::108::101::32::nm) ([59,10])=some (.str (118::111::108::97::116::105::108::101::32::(nm++[59,10]))):=Ar AJ AE;simp only[go_sem,Int.reduceLT,Int.reduceBEq,gt_iff_lt,z1,n1];refine Ad AD ?_;simp only[go_sem,↓a1,↓a2];simp only[go_sem,z1,n1,Int.reduceBEq,↓a1,↓a2];exact Ae rfl (by simp[F5,Pt])
  .refine Bg T35 rfl ?_;have a1:Ap .add ([118,111,108,97,116,105,108,101,32]) (nm)=some (.str (118::111::108::97::116::105::108::101::32::nm)):=Ar AJ AE;have a2:Ap .add (118::111::108::97::116::105::108::101::32::nm) ([32,61,32])=some (.str (118::111::108::97::116::105::108::101::32::(nm++[32,61,32]))):=Ar AJ AE;have a3:Ap .add (118::111::108::97::116::105::108::101::32::(nm++[32,61,32])) (Cy init)=some (.str (118::111::108::97::116::105::108::101::32::(nm++32::61::32::Cy init))):=Ar AJ AE;have a4:Ap .add (118::111::108::97::116::105::108::101::32::(nm++32::61::32::Cy init)) ([59,10])=some (.str (118::111::108::97::116::105::108::101::32::(nm++32::61::32::(Cy init++[59,10])))):=Ar AJ AE;simp only[go_sem,Int.reduceLT,Int.reduceBEq,gt_iff_lt,z1,n1];refine Ad AD ?_;simp only[go_sem,↓a1,↓a2,↓a3,↓a4];simp only[go_sem,z1,n1,Int.reduceBEq,↓a1,↓a2,↓a3,↓a4];refine Fu P68 AB n2 ?_;simp only[go_sem,z1,n1,Int.reduceBEq,↓a1,↓a2,↓a3,↓a4];exact Ae rfl (by simp[F5,Pt,n0])
 rcases hk with rfl | hk
 .obtain rfl:size=0:=h2 AA;obtain rfl:init=0:=h3 AA AA;have z1:((0:Int)<0)=False:=eq_false AA;have n1:((0:Int) != 0)=false:=by decide
  refine Bg T35 rfl ?_;have a1:Ap .add ([109,117,116,101,120,32]) (nm)=some (.str (109::117::116::101::120::32::nm)):=Ar AJ AE;have a2:Ap .add (109::117::116::101::120::32::nm) ([59,10])=some (.str (109::117::116::101::120::32::(nm++[59,10]))):=Ar AJ AE;simp only[go_sem,Int.reduceLT,Int.reduceBEq,gt_iff_lt,z1,n1];refine Ad AD ?_;simp only[go_sem,↓a1,↓a2];simp only[go_sem,z1,n1,Int.reduceBEq,↓a1,↓a2];exact Ae rfl (by simp[F5])
 rcases hk with rfl | hk
 .obtain rfl:size=0:=h2 AA;obtain rfl:init=0:=h3 AA AA;have z1:((0:Int)<0)=False:=eq_false AA;have n1:((0:Int) != 0)=false:=by decide
  refine Bg T35 rfl ?_;have a1:Ap .add ([114,119,108,111,99,107,32]) (nm)=some (.str (114::119::108::111::99::107::32::nm)):=Ar AJ AE;have a2:Ap .add (114::119::108::111::99::107::32::nm) ([59,10])=some (.str (114::119::108::111::99::107::32::(nm++[59,10]))):=Ar AJ AE;simp only[go_sem,Int.reduceLT,Int.reduceBEq,gt_iff_lt,z1,n1];refine Ad AD ?_;simp only[go_sem,↓a1,↓a2];simp only[go_sem,z1,n1,Int.reduceBEq,↓a1,↓a2];exact Ae rfl (by simp[F5])
 rcases hk with rfl | hk
 .have ho:=ho rfl;obtain rfl:size=0:=h2 AA;obtain rfl:init=0:=h3 AA AA;have z1:((0:Int)<0)=False:=eq_false AA;have n1:((0:Int) != 0)=false:=by decide
  refine Bg T35 rfl ?_;have a1:Ap .add ([99,111,110,100,32]) (nm)=some (.str (99::111::110::100::32::nm)):=Ar AJ AE;have a2:Ap .add (99::111::110::100::32::nm) ([32])=some (.str (99::111::110::100::32::(nm++[32]))):=Ar (by grind) AE;have a3:Ap .add (99::111::110::100::32::(nm++[32])) (on)=some (.str (99::111::110::100::32::(nm++32::on))):=Ar AJ AE;have a4:Ap .add (99::111::110::100::32::(nm++32::on)) ([59,10])=some (.str (99::111::110::100::32::(nm++32::(on++[59,10])))):=Ar AJ AE;simp only[go_sem,Int.reduceLT,Int.reduceBEq,gt_iff_lt,z1,n1];refine Ad AD ?_;simp only[go_sem,↓a1,↓a2,↓a3,↓a4];simp only[go_sem,z1,n1,Int.reduceBEq,↓a1,↓a2,↓a3,↓a4];exact Ae rfl (by simp[F5])
 subst hk;obtain rfl:size=0:=h2 AA;obtain rfl:init=0:=h3 AA AA;have z1:((0:Int)<0)=False:=eq_false AA;have n1:((0:Int) != 0)=false:=by decide
 refine Bg T35 rfl ?_;have a1:Ap .add ([102,117,116,117,114,101,32]) (nm)=some (.str (102::117::116::117::114::101::32::nm)):=Ar AJ AE;have a2:Ap .add (102::117::116::117::114::101::32::nm) ([59,10])=some (.str (102::117::116::117::114::101::32::(nm++[59,10]))):=Ar AJ AE;simp only[go_sem,Int.reduceLT,Int.reduceBEq,gt_iff_lt,z1,n1];refine Ad AD ?_;simp only[go_sem,↓a1,↓a2];simp only[go_sem,z1,n1,Int.reduceBEq,↓a1,↓a2];exact Ae rfl (by simp[F5])
def A6y{d:Dp}(h:1<=d.kind/\d.kind<=6):d.nm.length<=(F5 d).length/\(d.kind=5->d.on.length<=(F5 d).length):=by
 unfold F5
 grind
def jr:List (List UInt8)->List UInt8
 | []=>[]
 | a::l=>44::32::(a++jr l)
theorem Ajs:∀ (a:List UInt8) (l:List (List UInt8)),Fh (a::l)=a++jr l
 | a,[]=>by simp[Fh,jr]
 | a,b::l=>by rw[Fh,Ajs b l,jr]
def S8(l:List (List UInt8))(k:Nat):List UInt8:=if k=0 then Fh l else jr (l.drop k)
def A1v(l:List (List UInt8)):l.length<=(Fh l).length+1:=by
 have:∀ l:List (List UInt8),l.length<=(jr l).length:=fun l=>by
  induction l with
  | nil=>simp
  | cons a l ih=>grind[jr]
 cases l with
 | nil=>simp
 | cons a l=>grind[Ajs]
def Ahj{α:Type}(f:α->List UInt8)(hf:∀ x,1<=(f x).length):∀ l:List α,l.length<=((l.map f).flatten).length
 | []=>by simp
 | y::l=>by
  have:=Ahj f hf l
  grind
def A3s{K:List It}{Q:Env->St->Prop}{A C:V}{l:List (List UInt8)}{z:Bool}{u j0:Nat}{nm:List UInt8}{line:Int}{B:V}{s:St}(hs:s[j0]?=some (.row [.str nm,iV line,SL z u (l.map fun x=>[V.str x]),B] 86 0 0))(qb:List UInt8)(hl:qb.length+(Fh l).length<=100000000000000)
  (h:W TT PT K [(1,A),(3,.str (qb++Fh l)),(5,C),(6,.ptr j0 0 0),(7,iV (l.length:Int))] s Q) :
  W TT PT (.l [1,3,5,6,7] lp11_1::.b 4::K) [(1,A),(3,.str qb),(5,C),(6,.ptr j0 0 0),(7,iV 0)] s Q:=by
 have qQ:=A1v l;have qt:(l.map fun x=>[V.str x]).length=l.length:=Av ..;refine Bb (α:=Nat × List UInt8) (fun a=>l.length - a.1) (fun a=>[(1,A),(3,.str a.2),(5,C),(6,.ptr j0 0 0),(7,iV (a.1:Int))]) (fun _=>s) (fun a=>a.1<=l.length/\a.2++S8 l a.1=qb++Fh l) ?_ (0,qb) ⟨As _,rfl⟩;rintro⟨i,c⟩ ⟨hi,hc⟩ ih;simp only at hi hc ih;refine Ay Bj2 ?_;have qe:=congrArg List.length hc;simp only[Aj]at qe;rcases Az i l.length with h' | h'
 .obtain⟨x,hx,hd,hm⟩:=Bk h';have ql:=Aw (show i<9223372036854775807 by omega);by_cases qy:i=0
  .subst qy;have f0:((0:Int)<((0:Nat):Int))=False:=eq_false AA;have qF:((0:Int)<0)=False:=eq_false AA;have f1:((0:Int)<(l.length:Int))=True:=eq_true AA;have qJ:l=x::l.drop 1:=by simpa using hd
   have hj:S8 l 0=x++jr (l.drop 1):=by
    unfold S8;rw[if_pos rfl]
    conv=>lhs;rw[qJ]
    exact Ajs x _
   rw[hj]at hc qe;rw[Aj]at qe;have a1:Ap .add c x=some (.str (c++x)):=Ar AA rfl;simp only[go_sem,hs,qt,f1,f0,qF,Ak,hx,↓a1,ql];refine Ai (ih (1,c++x) AA ⟨by omega,?_⟩) rfl;simp only;rw[<-hc,Dm];rfl
  .have f0:((0:Int)<(i:Int))=True:=eq_true AA
   have hj:S8 l i=44::32::(x++jr (l.drop (i+1))):=by
    unfold S8;rw[if_neg qy,hd,jr]
   rw[hj]at hc qe;simp only[Be,Aj]at qe;have a1:Ap .add c [44,32]=some (.str (c++[44,32])):=Ar (by grind) rfl;have a2:Ap .add (c++[44,32]) x=some (.str (c++44::32::x)):=Ar (by grind) AE;simp only[go_sem,hs,qt,Aq h',f0,↓a1];simp only[go_sem,hs,Ak,hx,↓a2,ql];refine Ai (ih (i+1,c++44::32::x) AA ⟨by omega,?_⟩) rfl
   simp_all [S8]
 .obtain rfl:i=l.length:=by omega
  have hj:S8 l l.length=[]:=by
   unfold S8
   split
   .rename_i h0;rw[List.eq_nil_of_length_eq_zero h0];rfl
   .rw[D4 h'];rfl
  rw[hj,Bz]at hc;subst hc;simp only[go_sem,hs,qt,Bj h'];exact h
def Ar2{p:Gp}(h:CnG p)(hl:(Il p).length<=100000000000000):Fn TT PT 11 [.agg p.row] (.str (Il p)):=by
 obtain⟨hD,hT⟩:=h;obtain⟨dz,dt,decls,tz,tt,thrs⟩:=p;simp only at hD hT;unfold Il at hl ⊢;simp only at hl ⊢;unfold Gp.row;simp only;have n1:(decls.map Dp.row).length=decls.length:=Av ..;have n2:(thrs.map Tp.row).length=thrs.length:=Av ..;rw[Aj]at hl;have c1:=Ahj (fun d=>F5 d++[59,10]) (fun x=>by simp) decls;have c2:=Ahj Fx (fun x=>by simp[Fx]) thrs;refine Bg T11 rfl ?_;simp only[go_sem];refine Bb (α:=Nat × List UInt8) (fun a=>decls.length - a.1) (fun a=>[(1,.ptr 0 0 0),(3,.str a.2),(4,iV (a.1:Int))]) (fun _=>[.row [SL dz dt (decls.map Dp.row),SL tz tt (thrs.map Tp.row)] 34 0 0]) (fun a=>a.1<=decls.length/\a.2++((decls.drop a.1).map fun d=>F5 d++[59,10]).flatten=(decls.map fun d=>F5 d++[59,10]).flatten) ?_ (0,[]) ⟨As _,rfl⟩;rintro⟨i,qb⟩ ⟨hi,hc⟩ ih;simp only at hi hc ih;refine Ay Bj1 ?_;have qe:=congrArg List.length hc;simp only[Aj]at qe;rcases Az i decls.length with h' | h'
 .obtain⟨x,hx,hd,hm⟩:=Bk h';rw[hd,Bh,Gv]at hc qe;simp only[Aj,Be,Dn]at qe;obtain⟨e1,e2⟩:=A6y (hD x hm).kind;have hf:=A6x (hD x hm) AA (fun h5=>by omega);have a1:Ap .add qb (F5 x++[59,10])=some (.str (qb++(F5 x++[59,10]))):=Ar (by grind) rfl;have qa:x.row=[iV x.kind,iV x.line,.str x.nm,iV x.size,iV x.init,.str x.on]:=rfl;rw[qa]at hf;simp only[go_sem,n1,Aq h',Ak,hx,qa];refine Ab hf AB ?_;simp only[go_sem,↓a1,Aw (show i<9223372036854775807 by omega)];refine Ai (ih (i+1,qb++(F5 x++[59,10])) AA ⟨by omega,?_⟩) rfl
  grind
 .obtain rfl:i=decls.length:=by omega
  rw[D4 h']at hc;simp only[B0,Abu,Bz]at hc;subst hc;clear ih;simp only[go_sem,n1,Bj h'];refine Bb (α:=Nat × List UInt8 × St) (fun a=>thrs.length - a.1) (fun a=>[(1,.ptr 0 0 0),(3,.str a.2.1),(5,iV (a.1:Int))]) (fun a=>a.2.2) (fun a=>a.1<=thrs.length/\a.2.1++((thrs.drop a.1).map Fx).flatten=(decls.map fun d=>F5 d++[59,10]).flatten++(thrs.map Fx).flatten/\a.2.2[0]?=some (.row [SL dz dt (decls.map Dp.row),SL tz tt (thrs.map Tp.row)] 34 0 0)) ?_ (0,_,_) ⟨As _,rfl,rfl⟩;rintro⟨i,qb,s⟩ ⟨hi,hc,hs⟩ ih;simp only at hi hc hs ih;refine Ay Bj3 ?_;have qe:=congrArg List.length hc;simp only[Aj]at qe;rcases Az i thrs.length with h' | h'
  .obtain⟨x,hx,hd,hm⟩:=Bk h';rw[hd,Bh,Gv]at hc qe;rw[Aj]at qe;have qD:=hT x hm;obtain⟨nm,line,lz,lt,locals,bz,bt,body⟩:=x;simp only at qD
   have qI:(Fx ⟨nm,line,lz,lt,locals,bz,bt,body⟩).length=nm.length+(Fh locals).length+(Sp.txts 1 body).length+14:=by
    simp[Fx];omega
   have hb:=Ah8 bz bt 1 body (fun q hq=>Ar1 (qD q hq) 1 (by have:=Yh 1 hq;omega)) AA (by grind[Yc]);obtain⟨s',qv⟩:∃ s',s'=s++[Ob.row [.str nm,iV line,SL lz lt (locals.map fun x=>[V.str x]),SL bz bt (body.map Sp.row)] 86 0 0]:=⟨_,rfl⟩;have k1:s'[s.length]?=some (.row [.str nm,iV line,SL lz lt (locals.map fun x=>[V.str x]),SL bz bt (body.map Sp.row)] 86 0 0):=by rw[qv,Fk (Am _),Iu];rfl
   have k0:s'[0]?=some (.row [SL dz dt (decls.map Dp.row),SL tz tt (thrs.map Tp.row)] 34 0 0):=by rw[qv];exact Bt hs
   have qa:Tp.row ⟨nm,line,lz,lt,locals,bz,bt,body⟩=[.str nm,iV line,SL lz lt (locals.map fun x=>[V.str x]),SL bz bt (body.map Sp.row)]:=rfl;have a1:Ap .add qb [116,104,114,101,97,100,32]=some (.str (qb++[116,104,114,101,97,100,32])):=Ar (by grind) rfl;have a2:Ap .add (qb++[116,104,114,101,97,100,32]) nm=some (.str (qb++116::104::114::101::97::100::32::nm)):=Ar (by grind) AE;have a3:Ap .add (qb++116::104::114::101::97::100::32::nm) [40]=some (.str (qb++116::104::114::101::97::100::32::(nm++[40]))):=Ar (by grind) AE;simp only[go_sem,hs,n2,Aq h',Ak,hx,qa,↓a1,↓a2,↓a3];rw[<-qv];refine A3s k1 _ AP ?_;rw[show qb++116::104::114::101::97::100::32::(nm++[40])++Fh locals=qb++116::104::114::101::97::100::32::(nm++40::Fh locals) by simp];have a4:Ap .add (qb++116::104::114::101::97::100::32::(nm++40::Fh locals)) [41,32,123,10]=some (.str (qb++116::104::114::101::97::100::32::(nm++40::(Fh locals++[41,32,123,10])))):=Ar AP AE;have a5:Ap .add (qb++116::104::114::101::97::100::32::(nm++40::(Fh locals++[41,32,123,10]))) (Sp.txts 1 body)=some (.str (qb++116::104::114::101::97::100::32::(nm++40::(Fh locals++41::32::123::10::Sp.txts 1 body)))):=Ar AP AE;have a6:Ap .add (qb++116::104::114::101::97::100::32::(nm++40::(Fh locals++41::32::123::10::Sp.txts 1 body))) [125,10]=some (.str (qb++116::104::114::101::97::100::32::(nm++40::(Fh locals++41::32::123::10::(Sp.txts 1 body++[125,10]))))):=Ar AP AE;simp only[go_sem,k1,↓a4];refine Ab hb AB ?_;simp only[go_sem,↓a5,↓a6,Aw (show i<9223372036854775807 by omega)];refine Ai (ih (i+1,qb++Fx ⟨nm,line,lz,lt,locals,bz,bt,body⟩,s') AA ⟨by omega,by grind,k0⟩) (by simp[Fx];rfl)
  .obtain rfl:i=thrs.length:=by omega
   rw[D4 h']at hc;simp only[B0,Abu,Bz]at hc;subst hc;simp only[go_sem,hs,n2,Bj h'];exact Gs rfl
def WB(s0 s:St)(b:Nat)(l:List UInt8):Prop:=(∃ u,BL s b u l)/\Cl s/\s0.length<=s.length/\∀ (j:Nat) (cs:List V) (e g z:Nat),j≠b->e≠5->s0[j]?=some (.row cs e g z)->s[j]?=some (.row cs e g z)
def Ar3{s:St}{b:Nat}{u:V}{l:List UInt8}(h:BL s b u l)(hc:Cl s):WB s s b l:=⟨⟨u,h⟩,hc,Am _,fun _ _ _ _ _ _ _ h=>h⟩
theorem K3{s0 s1 s2:St}{b:Nat}{l l':List UInt8}(h1:WB s0 s1 b l)(h2:WB s1 s2 b l'):WB s0 s2 b l':=
 ⟨h2.1,h2.2.1,Dd h1.2.2.1 h2.2.2.1,fun j cs e g z hj he h=>h2.2.2.2 j cs e g z hj he (h1.2.2.2 j cs e g z hj he h)⟩
def M4{s0 s:St}{b:Nat}{l:List UInt8}{cs:List V}{t:Nat}(h:WB s0 s b l)(hr:cs.all V.rowB=true):WB s0 (s++[.row cs t 0 0]) b l:=by
 obtain⟨⟨u,h1⟩,h2,h3,h4⟩:=h;refine⟨⟨u,Ba9 h1⟩,Jf h2 hr,by grind,fun j cs e g z hj he h=>Bt (h4 j cs e g z hj he h)⟩
def Ud{s0 s:St}{b:Nat}{l:List UInt8}(h:WB s0 s b l):WB s s b l:=⟨h.1,h.2.1,Am _,fun _ _ _ _ _ _ _ h=>h⟩
def Hl{s0 s:St}{b:Nat}{l:List UInt8}(h:WB s0 s b l)(t:List UInt8)(hb:l.length+t.length<=100000000000000):∃ s',Th TT PT 193 [.ptr b 0 0,.str t] s (.tup [iV (t.length:Int),.nili]) s'/\WB s0 s' b (l++t)/\WB s s' b (l++t):=by
 obtain⟨⟨u,h1⟩,h2,h3,h4⟩:=h;obtain⟨s',u',q1,q2,q3,q4,q5⟩:=A6o t h1 h2 hb
 have hw:WB s s' b (l++t):=by
  refine⟨⟨u',q2⟩,q3,q4,fun j cs e g z hj he hs=>?_⟩;rw[q5 j hj ?_ (An.1 hs).1]
  .exact hs
  .intro hm;obtain⟨p,-,-,hg⟩:=h1;rcases hg with⟨rfl,-⟩ | ⟨-,i,g',rfl,ho,-⟩
   .grind[V.refs]
   grind[V.refs]
 exact⟨s',q1,K3 ⟨⟨u,h1⟩,h2,h3,h4⟩ hw,hw⟩
def U0{T:Nat->Option AF}{pr:Nat->Option (List V->Option V)}{f p:Nat}{res:List AR}{body:AC}{vs:List V}{v:V}{σ:St}{R:St->Prop}(hT:T f=some ⟨p,res,true,body,none⟩)(hl:vs.length=p)
  (h:W T pr [.c body] (C7 0 vs) σ (Hd fun e' σ1=>Ca e' σ1 res=some v/\R σ1)) (hr:v.refs=[]) (ho:Cd v=true) (hR:∀ σ1,R σ1->σ.length<=σ1.length/\Cl σ1):∃ σ',Th T pr f vs σ v σ'/\R σ':=by
 obtain⟨e',σ1,hE,qu,h1⟩:=h;obtain⟨h2,h3⟩:=hR σ1 h1;exact⟨σ1,Aee hT hl ⟨e',σ1,hE,qu,rfl⟩ hr ho h2 h3,h1⟩
def Aci{x a:Xp}{i:Nat}(h:x.l[i]?=some a)(hi:i<2):Fn TT PT 244 [.agg x.row,iV (i:Int)] (.agg a.row):=by
 have qz:=(An.1 h).1;rw[Bi x];have qd:=Dy a;have hn:(x.l.map Xp.row).length=x.l.length:=Av ..;have g1:((x.l.length:Int)<=(i:Int))=False:=eq_false AA;refine Bg T244 rfl ?_;rw[Bi a]at qd ⊢;have qa:a.row=(xR a):=Bi a;simp only[go_sem,hn,g1,Ak,h,qa];exact Gs qd
def Aeo{x:Xp}(ho:1<=x.op/\x.op<=18){s0 s:St}{b:Nat}{l:List UInt8}(hx:∀ (s:St) (l:List UInt8),WB s s b l->l.length+x.txt.length<=10000000000000->∃ s',Th TT PT 233 [.ptr b 0 0,.agg x.row] s (.tup []) s'/\WB s s' b (l++x.txt))(qf:Int)(h:WB s0 s b l)(hl:l.length+(Eh (x.op,x.txt) qf).length<=10000000000000):
  ∃ s',Th TT PT 243 [.ptr b 0 0,.agg x.row,iV qf] s (.tup []) s'/\WB s s' b (l++Eh (x.op,x.txt) qf):=by
 have qh:=W5 ho;have qd:=Dy x;have qp:=Ud h;refine U0 T243 rfl ?_ rfl rfl (fun σ1 h=>⟨h.2.2.1,h.2.1⟩);rw[Bi]at hx qd ⊢;have qa:([iV x.op,iV x.n,.str x.nm,SL x.z x.t (x.l.map Xp.row)]).all V.rowB=true:=qd;obtain⟨s1,e1⟩:∃ s1,s1=s++[xO x]:=⟨_,rfl⟩;have w1:WB s s1 b l:=by rw[e1];exact M4 qp qa
 have k1:s1[s.length]?=some (xO x):=by rw[e1,Fk (Am _),Iu];rfl
 have qc:s.length≠b:=by
  obtain⟨⟨u,p,hb,-⟩,-⟩:=h;have:=(An.1 hb).1;omega
 unfold Eh at hl ⊢;by_cases qB:Bu x.op<qf
 .have f:(qf<=Bu x.op)=False:=eq_false AA;rw[if_pos qB]at hl ⊢;simp only[Be,Aj,Dn]at hl;obtain⟨s2,q2,w2,v2⟩:=Hl w1 [40] (by grind);obtain⟨s3,q3,v3⟩:=hx s2 (l++[40]) (Ud w2) (by grind);obtain⟨s4,q4,w4,v4⟩:=Hl (K3 w2 v3) [41] (by grind);have k2:=v2.2.2.2 s.length _ _ _ _ qc AM k1;simp only[go_sem];refine Ab qh AB ?_;simp only[go_sem,f];rw[e1]at q2;refine Bv q2 ?_;simp only[go_sem,k2];refine Bv q3 ?_;simp only[go_sem];refine Bv q4 ?_;simp only[go_sem];exact⟨rfl,by grind⟩
 .have f:(qf<=Bu x.op)=True:=eq_true AA;rw[if_neg qB]at hl ⊢;obtain⟨s3,q3,v3⟩:=hx s1 l (Ud w1) AA;rw[e1]at q3;simp only[go_sem];refine Ab qh AB ?_;simp only[go_sem,f];refine Bv q3 ?_;simp only[go_sem];exact⟨rfl,K3 w1 v3⟩
def A6z{x:Xp}(h:Cn x):∀ (s:St) (b:Nat) (l:List UInt8),WB s s b l->l.length+x.txt.length<=10000000000000->∃ s',Th TT PT 233 [.ptr b 0 0,.agg x.row] s (.tup []) s'/\WB s s' b (l++x.txt):=by
 induction h with
 | @num n nm z t hn=>
  intro s b l h hl;rw[F2]at hl ⊢;simp only[B0,Em,if_true]at hl ⊢
  have qc:s.length≠b:=by
   obtain⟨⟨u,p,hb,-⟩,-⟩:=h;have:=(An.1 hb).1;omega
  have qh:=W5 (op:=1) AA;have hf:Pz [iV n,iV 10]=some (.str (Cy n)):=by unfold Pz;exact if_pos hn
  refine U0 T233 rfl ?_ rfl rfl (fun σ1 h=>⟨h.2.2.1,h.2.1⟩);rw[Bi];obtain⟨s1,e1⟩:∃ s1,s1=s++[Ob.row [iV 1,iV n,.str nm,SL z t []] 98 0 0,Ob.row [.str (Cr 1),iV (Bu 1)] 291 0 0]:=⟨_,rfl⟩
  have w1:WB s s1 b l:=by
   have:=M4 (M4 h (t:=98) (cs:=[iV 1,iV n,.str nm,SL z t []]) AB) (t:=291) (cs:=[.str (Cr 1),iV (Bu 1)]) rfl;rw[e1];simpa using this
  obtain⟨s2,q2,w2,v2⟩:=Hl w1 (Cy n) AA;rw[e1]at q2;simp only[B0];simp only[go_sem];refine Ab qh AB ?_;simp only[go_sem,Int.reduceBEq];refine Fu P68 AB hf ?_;simp only[go_sem];refine Bv q2 ?_;simp only[go_sem];exact⟨rfl,w2⟩
 | @name n nm z t=>
  intro s b l h hl;rw[F2]at hl ⊢;simp only[B0,Em,show((2:Int)=1)=False from eq_false AA,if_false,if_true]at hl ⊢
  have qc:s.length≠b:=by
   obtain⟨⟨u,p,hb,-⟩,-⟩:=h;have:=(An.1 hb).1;omega
  have qh:=W5 (op:=2) AA;refine U0 T233 rfl ?_ rfl rfl (fun σ1 h=>⟨h.2.2.1,h.2.1⟩);rw[Bi];obtain⟨s1,e1⟩:∃ s1,s1=s++[Ob.row [iV 2,iV n,.str nm,SL z t []] 98 0 0,Ob.row [.str (Cr 2),iV (Bu 2)] 291 0 0]:=⟨_,rfl⟩
  have w1:WB s s1 b l:=by
   have:=M4 (M4 h (t:=98) (cs:=[iV 2,iV n,.str nm,SL z t []]) AB) (t:=291) (cs:=[.str (Cr 2),iV (Bu 2)]) rfl;rw[e1];simpa using this
  obtain⟨s2,q2,w2,v2⟩:=Hl w1 nm AA;rw[e1]at q2;simp only[B0];have lv:(Bu 2==7)=true:=by decide
  simp only[go_sem];refine Ab qh AB ?_;simp only[go_sem,Int.reduceBEq,lv];refine Bv q2 ?_;simp only[go_sem];exact⟨rfl,w2⟩
 | @idx n nm z t a ha ih=>
  intro s b l h hl;rw[F2]at hl ⊢;simp only[Bh,B0,Em,show((3:Int)=1)=False from eq_false AA,show((3:Int)=2)=False from eq_false AA,if_false,if_true]at hl ⊢;have hl:l.length+nm.length+a.txt.length+2<=10000000000000:=by simp at hl;omega
  have qc:s.length≠b:=by
   obtain⟨⟨u,p,hb,-⟩,-⟩:=h;have:=(An.1 hb).1;omega
  have qh:=W5 (op:=3) AA;have qg:=Aci (x:=⟨3,n,nm,z,t,[a]⟩) (a:=a) (i:=0) rfl AA;refine U0 T233 rfl ?_ rfl rfl (fun σ1 h=>⟨h.2.2.1,h.2.1⟩);rw[Bi]at qg ⊢;simp only[Bh,B0]at qg ⊢;obtain⟨s1,e1⟩:∃ s1,s1=s++[Ob.row [iV 3,iV n,.str nm,SL z t [a.row]] 98 0 0,Ob.row [.str (Cr 3),iV (Bu 3)] 291 0 0]:=⟨_,rfl⟩
  have w1:WB s s1 b l:=by
   have:=M4 (M4 h (t:=98) (cs:=[iV 3,iV n,.str nm,SL z t [a.row]]) AB) (t:=291) (cs:=[.str (Cr 3),iV (Bu 3)]) rfl;rw[e1];simpa using this
  have k1:s1[s.length]?=some (.row [iV 3,iV n,.str nm,SL z t [a.row]] 98 0 0):=by rw[e1,Fk (Am _),Iu];rfl
  obtain⟨s2,q2,w2,v2⟩:=Hl w1 nm AA;obtain⟨s3,q3,w3,v3⟩:=Hl w2 [91] (by grind);have k3:=(K3 v2 v3).2.2.2 s.length _ _ _ _ qc AM k1
  have qm:Eh (a.op,a.txt) 1=a.txt:=by
   unfold Eh;have:=(Aen (Su ha)).2.1;exact if_neg (by grind)
  obtain⟨s4,q4,v4⟩:=Aeo (Su ha) (fun s l h hl=>ih s b l h hl) 1 w3 (by grind);rw[qm]at v4;obtain⟨s5,q5,w5,v5⟩:=Hl (K3 w3 v4) [93] (by grind);rw[e1]at q2;have qx:=Dy a;simp only[go_sem];refine Ab qh AB ?_;simp only[go_sem,Int.reduceBEq];refine Bv q2 ?_;simp only[go_sem];refine Bv q3 ?_;simp only[go_sem,k3];refine Ab qg AB ?_;simp only[go_sem];refine Bv q4 ?_;simp only[go_sem];refine Bv q5 ?_;simp only[go_sem];exact⟨rfl,by grind⟩
 | @un op n nm z t a qn ha ih=>
  intro s b l h hl;have ho:1<=op/\op<=18:=by omega
  have qC:Bu op=6:=by rcases qn with rfl | rfl<;>rfl
  rw[F2]at hl ⊢
  have e0:Em op n nm [(a.op,a.txt)]=Cr op++Eh (a.op,a.txt) 6:=by
   unfold Em;rw[if_neg AA,if_neg AA];simp only;rw[if_neg AA]
  simp only[Bh,B0,e0,Aj]at hl ⊢;obtain⟨p1,p2⟩:=N9 (a.op,a.txt) 6;simp only at p1
  have qc:s.length≠b:=by
   obtain⟨⟨u,p,hb,-⟩,-⟩:=h;have:=(An.1 hb).1;omega
  have qh:=W5 ho;rw[qC]at qh;have qg:=Aci (x:=⟨op,n,nm,z,t,[a]⟩) (a:=a) (i:=0) rfl AA;refine U0 T233 rfl ?_ rfl rfl (fun σ1 h=>⟨h.2.2.1,h.2.1⟩);rw[Bi]at qg ⊢;simp only[Bh,B0]at qg ⊢;obtain⟨s1,e1⟩:∃ s1,s1=s++[Ob.row [iV op,iV n,.str nm,SL z t [a.row]] 98 0 0,Ob.row [.str (Cr op),iV 6] 291 0 0]:=⟨_,rfl⟩
  have w1:WB s s1 b l:=by
   have:=M4 (M4 h (t:=98) (cs:=[iV op,iV n,.str nm,SL z t [a.row]]) AB) (t:=291) (cs:=[.str (Cr op),iV 6]) rfl;rw[e1];simpa using this
  have k1:s1[s.length]?=some (.row [iV op,iV n,.str nm,SL z t [a.row]] 98 0 0):=by rw[e1,Fk (Am _),Iu];rfl
  obtain⟨s2,q2,w2,v2⟩:=Hl w1 (Cr op) AA;have k2:=v2.2.2.2 s.length _ _ _ _ qc AM k1;obtain⟨s3,q3,v3⟩:=Aeo (Su ha) (fun s l h hl=>ih s b l h hl) 6 w2 (by grind);rw[e1]at q2;have b1:(op==1)=false:=by simp;omega
  have b3:(op==3)=false:=by simp;omega
  simp only[go_sem];refine Ab qh AB ?_;simp only[go_sem,Int.reduceBEq,b1,b3];refine Bv q2 ?_;simp only[go_sem,k2];refine Ab qg AB ?_;simp only[go_sem];refine Bv q3 ?_;simp only[go_sem];exact⟨rfl,by grind[K3]⟩
 | @bin op n nm z t a c qn ha hc iha ihc=>
  intro s b l h hl;have ho:1<=op/\op<=18:=by omega
  obtain⟨qR,qT,qU⟩:=Aen ho
  have qC:Bu op<6:=by
   obtain⟨i,hi,rfl⟩:=Z7 ho;have:((List.range 18).all fun i=>decide (5<=i->Bu ((i:Int)+1)<6))=true:=by decide
   exact of_decide_eq_true (Cc.1 this i (Hi.2 hi)) AA
  rw[F2]at hl ⊢
  have e0:Em op n nm [(a.op,a.txt),(c.op,c.txt)]=Eh (a.op,a.txt) (Ik op)++32::(Cr op++32::Eh (c.op,c.txt) (Bu op+1)):=by
   unfold Em;rw[if_neg AA,if_neg AA]
  simp only[Bh,B0,e0,Aj,Be]at hl ⊢
  have qc:s.length≠b/\s.length+1≠b:=by
   obtain⟨⟨u,p,hb,-⟩,-⟩:=h;have:=(An.1 hb).1;omega
  have qh:=W5 ho;have qi:=Aci (x:=⟨op,n,nm,z,t,[a,c]⟩) (a:=a) (i:=0) rfl AA;have qj:=Aci (x:=⟨op,n,nm,z,t,[a,c]⟩) (a:=c) (i:=1) rfl AA;refine U0 T233 rfl ?_ rfl rfl (fun σ1 h=>⟨h.2.2.1,h.2.1⟩);rw[Bi]at qi qj ⊢;simp only[Bh,B0]at qi qj ⊢;obtain⟨s1,e1⟩:∃ s1,s1=s++[Ob.row [iV op,iV n,.str nm,SL z t [a.row,c.row]] 98 0 0,Ob.row [.str (Cr op),iV (Bu op)] 291 0 0]:=⟨_,rfl⟩
  have w1:WB s s1 b l:=by
   have:=M4 (M4 h (t:=98) (cs:=[iV op,iV n,.str nm,SL z t [a.row,c.row]]) AB) (t:=291) (cs:=[.str (Cr op),iV (Bu op)]) rfl;rw[e1];simpa using this
  have k1:s1[s.length]?=some (.row [iV op,iV n,.str nm,SL z t [a.row,c.row]] 98 0 0):=by rw[e1,Fk (Am _),Iu];rfl
  have m1:s1[s.length+1]?=some (.row [.str (Cr op),iV (Bu op)] 291 0 0):=by rw[e1,Fk AA,Nat.add_sub_cancel_left];rfl
  have qm:Ik op=(if(Bu op==3)=true then 4 else Bu op):=by unfold Ik;simp
  obtain⟨s2,q2,v2⟩:=Aeo (Su ha) (fun s l h hl=>iha s b l h hl) (Ik op) w1 AA;have k2:=v2.2.2.2 s.length _ _ _ _ qc.1 AM k1;have m2:=v2.2.2.2 (s.length+1) _ _ _ _ qc.2 AM m1;obtain⟨s3,q3,w3,v3⟩:=Hl v2 [32] (by grind);have k3:=v3.2.2.2 s.length _ _ _ _ qc.1 AM k2;have m3:=v3.2.2.2 (s.length+1) _ _ _ _ qc.2 AM m2;obtain⟨s4,q4,w4,v4⟩:=Hl v3 (Cr op) (by grind);have k4:=v4.2.2.2 s.length _ _ _ _ qc.1 AM k3;have m4:=v4.2.2.2 (s.length+1) _ _ _ _ qc.2 AM m3;obtain⟨s5,q5,w5,v5⟩:=Hl v4 [32] (by grind);have k5:=v5.2.2.2 s.length _ _ _ _ qc.1 AM k4;have m5:=v5.2.2.2 (s.length+1) _ _ _ _ qc.2 AM m4;obtain⟨s6,q6,v6⟩:=Aeo (Su hc) (fun s l h hl=>ihc s b l h hl) (Bu op+1) v5 (by grind);rw[e1]at q2;have b1:(op==1)=false:=by simp;omega
  have b3:(op==3)=false:=by simp;omega
  have b7:(Bu op==7)=false:=by simp;omega
  have b6:(Bu op==6)=false:=by simp;omega
  have wi:IntKind.i64.wrap (Bu op+1)=Bu op+1:=Bo AA
  have qG:WB s s6 b (l++(Eh (a.op,a.txt) (Ik op)++32::(Cr op++32::Eh (c.op,c.txt) (Bu op+1)))):=by
   have:=K3 w1 (K3 v2 (K3 v3 (K3 v4 (K3 v5 v6))));simpa using this
  cases h3:(Bu op==3)
  all_goals
   rw[h3]at qm;simp only[if_true,if_false,Hz]at qm;rw[qm]at q2;simp only[go_sem];refine Ab qh AB ?_;simp only[go_sem,Int.reduceBEq,b1,b3,b7,b6,h3];refine Ab qi AB ?_;simp only[go_sem];refine Bv q2 ?_;simp only[go_sem];refine Bv q3 ?_;simp only[go_sem,m3];refine Bv q4 ?_;simp only[go_sem];refine Bv q5 ?_;simp only[go_sem];refine Ad AD ?_;simp only[go_sem,k5];refine Ax qj AB ?_;simp only[go_sem,m5,wi];refine Z1 q6 (by repeat (first | exact trivial | refine⟨.inl AH,?_⟩ | refine⟨by rfl,?_⟩ | refine⟨.inr ⟨by rfl,by rfl⟩,?_⟩)) (by repeat (first | exact trivial | refine⟨.inl AH,?_⟩ | refine⟨by rfl,?_⟩ | refine⟨.inr ⟨by rfl,by rfl⟩,?_⟩)) ?_;simp only[go_sem];exact⟨rfl,qG⟩
def Jx{vs:List V}{σ:St}{v:V}(h:vs.all De=true)(he:V.tup vs=v):FR (.tup vs) σ v:=he ▸ Fq h
def Awo{s0 s:St}{b:Nat}{l:List UInt8}(h:WB s0 s b l):∃ s',U4 208 5 [.ptr b 0 0] s=some (.str l,s'):=by
 obtain⟨⟨u,hu⟩,-⟩:=h
 grind[Bgp]
def Yz{x:Xp}(h:Cn x)(hl:x.txt.length<=10000000000000):Fn TT PT 219 [.agg x.row] (.str x.txt):=by
 have qd:=Dy x;refine Bg T219 rfl ?_
 have w0:WB [.row x.row 98 0 0,.row [.nilp,.nils] 208 0 0] [.row x.row 98 0 0,.row [.nilp,.nils] 208 0 0] 1 []:=by
  refine Ar3 (u:=.nils) ⟨.nilp,rfl,.inl rfl,Dr⟩ ?_;exact Mk (Jf (s:=[]) (fun _ h=>by cases h) (by rw[Bi];simp only[go_sem])) AT
 obtain⟨s1,q1,v1⟩:=A6z h _ 1 [] w0 (by grind);obtain⟨s2,qo⟩:=Awo v1;rw[Ct]at qo;rw[Bi]at q1 qd ⊢;simp only[go_sem];refine Bv q1 ?_;simp only[go_sem];refine Jz (.spec T162 rfl rfl qo) ?_;simp only[go_sem];exact Gs rfl
def A60{s:Sp}(h:CnS s)(hl:(Cu s).length<=10000000000000):Fn TT PT 194 [.agg s.row] (.tup [.str (Cu s),.bool (B6 s.op)]):=by
 obtain⟨h1,h2,h3,h4,h5,-,-,-,-⟩:=h;obtain⟨op,line,nm,arg,iz,it,idx,ex,bz,bt,body,ez,et,els⟩:=s;simp only at h1 h2 h3 h4 h5 hl ⊢;rw[Ru];simp only;have hw:op=1\/op=2\/op=3\/op=4\/op=5\/op=6\/op=7\/op=8\/op=9\/op=10\/op=11\/op=12\/op=13\/op=14\/op=15:=by omega
 refine Bg T194 rfl ?_;rw[Bi];rcases hw with rfl | hw
 .have hx:=Yz (h5 (.inl rfl));simp only[Cu,if_true,Aj,Be]at hl ⊢;have hx:=hx AA;rw[Bi]at hx
  cases idx with
  | nil=>
   simp only[F6,Dn]at hl ⊢;have a2:Ap .add nm [32,61,32]=some (.str (nm++[32,61,32])):=Ar (by grind) rfl;have a3:Ap .add (nm++[32,61,32]) ex.txt=some (.str (nm++32::61::32::ex.txt)):=Ar (by grind) AE;simp only[go_sem,Int.reduceBEq,Int.reduceLT,↓a2];refine Ab hx AB ?_;simp only[go_sem,↓a3];exact Jx rfl (by simp[B6])
  | cons a r=>
   have ha:=Yz (h4 a Cz);simp only[F6,Be,Aj]at hl ⊢;have ha:=ha AA;rw[Bi]at ha;have r0:r=[]:=by simpa using h2
   subst r0;have a1:Ap .add [91] a.txt=some (.str (91::a.txt)):=Ar (by grind) rfl;have a2:Ap .add (91::a.txt) [93]=some (.str (91::(a.txt++[93]))):=Ar (by grind) AE;have a3:Ap .add nm (91::(a.txt++[93]))=some (.str (nm++91::(a.txt++[93]))):=Ar (by grind) rfl;have a4:Ap .add (nm++91::(a.txt++[93])) [32,61,32]=some (.str (nm++91::(a.txt++[93,32,61,32]))):=Ar (by grind) AE;have a5:Ap .add (nm++91::(a.txt++[93,32,61,32])) ex.txt=some (.str (nm++91::(a.txt++93::32::61::32::ex.txt))):=Ar (by grind) AE;simp only[Bh,B0];rw[Bi a];simp only[go_sem,Int.reduceBEq,Int.reduceLT];refine Ab ha AB ?_;simp only[go_sem,↓a1,↓a2,↓a3,↓a4];refine Ab hx AB ?_;simp only[go_sem,↓a5];exact Jx rfl (by simp[B6])
 rcases hw with rfl | hw
 .simp only[Cu,C9,B6]at hl ⊢;simp at hl;have hx:=Yz (h5 AA) AA;rw[Bi]at hx;have a1:Ap .add ([105,102,32]) (ex.txt)=some (.str (105::102::32::ex.txt)):=Ar (by grind) AE;simp only[go_sem,Int.reduceBEq,Int.reduceLT];refine Ab hx AB ?_;simp only[go_sem,↓a1];exact Jx rfl AE
 rcases hw with rfl | hw
 .simp only[Cu,C9,B6]at hl ⊢;simp at hl;have hx:=Yz (h5 AA) AA;rw[Bi]at hx;have a1:Ap .add ([119,104,105,108,101,32]) (ex.txt)=some (.str (119::104::105::108::101::32::ex.txt)):=Ar AJ AE;simp only[go_sem,Int.reduceBEq,Int.reduceLT];refine Ab hx AB ?_;simp only[go_sem,↓a1];exact Jx rfl AE
 rcases hw with rfl | hw
 .simp only[Cu,C9,B6]at hl ⊢;simp at hl;have a1:Ap .add ([108,111,99,107,32]) (nm)=some (.str (108::111::99::107::32::nm)):=Ar AJ AE;simp only[go_sem,Int.reduceBEq,Int.reduceLT,↓a1];exact Jx rfl AE
 rcases hw with rfl | hw
 .simp only[Cu,C9,B6]at hl ⊢;simp at hl;have a1:Ap .add ([114,101,97,100,32]) (nm)=some (.str (114::101::97::100::32::nm)):=Ar AJ AE;simp only[go_sem,Int.reduceBEq,Int.reduceLT,↓a1];exact Jx rfl AE
 rcases hw with rfl | hw
 .simp only[Cu,C9,B6]at hl ⊢;simp at hl;have a1:Ap .add ([119,114,105,116,101,32]) (nm)=some (.str (119::114::105::116::101::32::nm)):=Ar AJ AE;simp only[go_sem,Int.reduceBEq,Int.reduceLT,↓a1];exact Jx rfl AE
 rcases hw with rfl | hw
 .simp only[Cu,C9,B6]at hl ⊢;simp at hl;simp only[go_sem,Int.reduceBEq,Int.reduceLT];exact Jx rfl AE
 rcases hw with rfl | hw
 .simp only[Cu,C9,B6]at hl ⊢;simp at hl;simp only[go_sem,Int.reduceBEq,Int.reduceLT];exact Jx rfl AE
 rcases hw with rfl | hw
 .simp only[Cu,C9,B6]at hl ⊢;simp at hl;have a1:Ap .add ([119,97,105,116,32]) (nm)=some (.str (119::97::105::116::32::nm)):=Ar AJ AE;simp only[go_sem,Int.reduceBEq,Int.reduceLT,↓a1];exact Jx rfl AE
 rcases hw with rfl | hw
 .simp only[Cu,C9,B6]at hl ⊢;simp at hl;have a1:Ap .add ([110,111,116,105,102,121,32]) (nm)=some (.str (110::111::116::105::102::121::32::nm)):=Ar AJ AE;simp only[go_sem,Int.reduceBEq,Int.reduceLT,↓a1];exact Jx rfl AE
 rcases hw with rfl | hw
 .simp only[Cu,C9,B6]at hl ⊢;simp at hl;have a1:Ap .add ([110,111,116,105,102,121,97,108,108,32]) (nm)=some (.str (110::111::116::105::102::121::97::108::108::32::nm)):=Ar AJ AE;simp only[go_sem,Int.reduceBEq,Int.reduceLT,↓a1];exact Jx rfl AE
 rcases hw with rfl | hw
 .simp only[Cu,C9,B6]at hl ⊢;simp at hl;have a1:Ap .add ([115,112,97,119,110,32]) (nm)=some (.str (115::112::97::119::110::32::nm)):=Ar AJ AE;simp only[go_sem,Int.reduceBEq,Int.reduceLT,↓a1];exact Jx rfl AE
 rcases hw with rfl | hw
 .simp only[Cu,C9,B6]at hl ⊢;simp at hl;have a1:Ap .add ([106,111,105,110,32]) (nm)=some (.str (106::111::105::110::32::nm)):=Ar AJ AE;simp only[go_sem,Int.reduceBEq,Int.reduceLT,↓a1];exact Jx rfl AE
 rcases hw with rfl | hw
 .simp only[Cu,C9,B6]at hl ⊢;simp at hl;have hx:=Yz (h5 AA) AA;rw[Bi]at hx;have a1:Ap .add ([115,101,116,32]) (nm)=some (.str (115::101::116::32::nm)):=Ar (by grind) AE;have a2:Ap .add (115::101::116::32::nm) ([32])=some (.str (115::101::116::32::(nm++[32]))):=Ar (by grind) AE;have a3:Ap .add (115::101::116::32::(nm++[32])) (ex.txt)=some (.str (115::101::116::32::(nm++32::ex.txt))):=Ar (by grind) AE;simp only[go_sem,Int.reduceBEq,Int.reduceLT];refine Ad AD ?_;simp only[go_sem,↓a1,↓a2];refine Ax hx AB ?_;simp only[go_sem,↓a3];exact Jx rfl AE
 subst hw;simp only[Cu,C9,B6]at hl ⊢;simp at hl;have a1:Ap .add ([103,101,116,32]) (nm)=some (.str (103::101::116::32::nm)):=Ar (by grind) AE;have a2:Ap .add (103::101::116::32::nm) ([32])=some (.str (103::101::116::32::(nm++[32]))):=Ar (by grind) AE;have a3:Ap .add (103::101::116::32::(nm++[32])) (arg)=some (.str (103::101::116::32::(nm++32::arg))):=Ar (by grind) AE;simp only[go_sem,Int.reduceBEq,Int.reduceLT,↓a1,↓a2,↓a3];exact Jx rfl AE
mutual
def Sp.sz:Sp->Nat
 | ⟨_,_,_,_,_,_,_,_,_,_,body,_,_,els⟩=>1+Sp.szs body+Sp.szs els
def Sp.szs:List Sp->Nat
 | []=>0
 | x::l=>x.sz+Sp.szs l
end
theorem Lh(s:Sp):s.sz=1+Sp.szs s.body+Sp.szs s.els:=by
 obtain⟨op,line,nm,arg,iz,it,idx,ex,bz,bt,body,ez,et,els⟩:=s;rw[Sp.sz]
def Zl:∀ {l:List Sp} {x:Sp},x∈l->x.sz<=Sp.szs l
 | y::l,x,h=>by
  rw[Sp.szs];rcases B7.1 h with rfl | h
  .omega
  .have:=Zl h;omega
def Bbl(d:Nat)(h:d<=1073741823):Xj [.str [32,32],iV (d:Int)]=some (.str (Et d)):=by
 unfold Xj;simp only;rw[if_pos (by grind)];congr 2;unfold Et;rw[Mv];clear h
 induction d with
 | zero=>rfl
 | succ d ih=>
  grind[Lib.repeatL]
def Fr(x:Sp):x.row=[iV x.op,iV x.line,.str x.nm,.str x.arg,SL x.iz x.it (x.idx.map Xp.row),iV x.ex.op,iV x.ex.n,.str x.ex.nm,SL x.ex.z x.ex.t (x.ex.l.map Xp.row),SL x.bz x.bt (x.body.map Sp.row),SL x.ez x.et (x.els.map Sp.row)]:=by
 simp[Ru,Bi]
def Wr(x:Sp):Prop:=∀ (s:St) (b:Nat) (l:List UInt8) (d:Nat),WB s s b l->l.length+(x.txt d).length<=10000000000000->d+x.sz<=1073741823->∃ s',Th TT PT 161 [.ptr b 0 0,.agg x.row,iV (d:Int)] s (.tup []) s'/\WB s s' b (l++x.txt d)
def Aku{s0 s:St}{b:Nat}{l:List UInt8}(h:WB s0 s b l)(x:Sp):WB s0 (s++[.row x.row 100 0 0]) b l:=M4 h (by
 have:=He x
 exact this)
def A61{K:List It}{Q:Env->St->Prop}{A6:V}{j4 b d:Nat}{z:Bool}{t:Nat}{L:List Sp}{s0 s:St}{l:List UInt8}(hW:∀ x∈L,Wr x)(h:WB s0 s b l)(hl:l.length+(Sp.txts (d+1) L).length<=10000000000000)(hd:d+1+Sp.szs L<=1073741823)(hn:L.length<=1000000000000000)
  (hk:∀ s',WB s0 s' b (l++Sp.txts (d+1) L)->W TT PT K [(0,.ptr b 0 0),(2,iV (d:Int)),(4,.ptr j4 0 0),(6,A6),(35,SL z t (L.map Sp.row)),(36,iV (L.length:Int)),(37,iV (L.length:Int))] s' Q) :
  W TT PT (.l [0,2,4,6,35,36,37] lp161_0::.b 0::K) [(0,.ptr b 0 0),(2,iV (d:Int)),(4,.ptr j4 0 0),(6,A6),(35,SL z t (L.map Sp.row)),(36,iV (L.length:Int)),(37,iV 0)] s Q:=by
 refine Bb (α:=Nat × St × List UInt8) (fun a=>L.length - a.1) (fun a=>[(0,.ptr b 0 0),(2,iV (d:Int)),(4,.ptr j4 0 0),(6,A6),(35,SL z t (L.map Sp.row)),(36,iV (L.length:Int)),(37,iV (a.1:Int))]) (fun a=>a.2.1) (fun a=>a.1<=L.length/\WB s0 a.2.1 b a.2.2/\a.2.2++Sp.txts (d+1) (L.drop a.1)=l++Sp.txts (d+1) L) ?_ (0,s,l) ⟨As _,h,rfl⟩;rintro⟨i,s1,c⟩ ⟨hi,hw,hc⟩ ih;simp only at hi hw hc ih;refine Ay Bga ?_;have qe:=congrArg List.length hc;simp only[Aj]at qe;rcases Az i L.length with h' | h'
 .obtain⟨x,hx,qr,hm⟩:=Bk h';rw[qr,N2]at hc qe;rw[Aj]at qe;have qw:=Zl hm;obtain⟨s2,e2⟩:∃ s2,s2=s1++[Ob.row x.row 100 0 0]:=⟨_,rfl⟩;have w2:WB s0 s2 b c:=by rw[e2];exact Aku hw x
  have k2:s2[s1.length]?=some (.row x.row 100 0 0):=by rw[e2,Fk (Am _),Iu];rfl
  obtain⟨s3,q3,v3⟩:=hW x hm s2 b c (d+1) (Ud w2) AA AA;have qa:=Fr x;rw[qa]at e2 k2 q3;rw[e2]at q3 k2;simp only[go_sem,Aq h',Ak,hx,qa,Aw (show d<9223372036854775807 by omega)];refine Bv q3 ?_;simp only[go_sem,Aw (show i<9223372036854775807 by omega)];exact Ai (ih (i+1,s3,c++x.txt (d+1)) AA ⟨by omega,K3 w2 v3,by grind⟩) rfl
 .obtain rfl:i=L.length:=by omega
  rw[D4 h',show Sp.txts (d+1) []=[] by rw[Sp.txts],Bz]at hc;subst hc;simp only[go_sem,Bj h'];exact hk s1 hw
def A62{K:List It}{Q:Env->St->Prop}{A6:V}{b d:Nat}{z:Bool}{t:Nat}{L:List Sp}{s0 s:St}{l:List UInt8}(hW:∀ x∈L,Wr x)(h:WB s0 s b l)(hl:l.length+(Sp.txts (d+1) L).length<=10000000000000)(hd:d+1+Sp.szs L<=1073741823)(hn:L.length<=1000000000000000)
  (hk:∀ s',WB s0 s' b (l++Sp.txts (d+1) L)->W TT PT K [(0,.ptr b 0 0),(2,iV (d:Int)),(6,A6),(57,SL z t (L.map Sp.row)),(58,iV (L.length:Int)),(59,iV (L.length:Int))] s' Q) :
  W TT PT (.l [0,2,6,57,58,59] lp161_1::.b 2::K) [(0,.ptr b 0 0),(2,iV (d:Int)),(6,A6),(57,SL z t (L.map Sp.row)),(58,iV (L.length:Int)),(59,iV 0)] s Q:=by
 refine Bb (α:=Nat × St × List UInt8) (fun a=>L.length - a.1) (fun a=>[(0,.ptr b 0 0),(2,iV (d:Int)),(6,A6),(57,SL z t (L.map Sp.row)),(58,iV (L.length:Int)),(59,iV (a.1:Int))]) (fun a=>a.2.1) (fun a=>a.1<=L.length/\WB s0 a.2.1 b a.2.2/\a.2.2++Sp.txts (d+1) (L.drop a.1)=l++Sp.txts (d+1) L) ?_ (0,s,l) ⟨As _,h,rfl⟩;rintro⟨i,s1,c⟩ ⟨hi,hw,hc⟩ ih;simp only at hi hw hc ih;refine Ay Bgb ?_;have qe:=congrArg List.length hc;simp only[Aj]at qe;rcases Az i L.length with h' | h'
 .obtain⟨x,hx,qr,hm⟩:=Bk h';rw[qr,N2]at hc qe;rw[Aj]at qe;have qw:=Zl hm;obtain⟨s2,e2⟩:∃ s2,s2=s1++[Ob.row x.row 100 0 0]:=⟨_,rfl⟩;have w2:WB s0 s2 b c:=by rw[e2];exact Aku hw x
  have k2:s2[s1.length]?=some (.row x.row 100 0 0):=by rw[e2,Fk (Am _),Iu];rfl
  obtain⟨s3,q3,v3⟩:=hW x hm s2 b c (d+1) (Ud w2) AA AA;have qa:=Fr x;rw[qa]at e2 k2 q3;rw[e2]at q3 k2;simp only[go_sem,Aq h',Ak,hx,qa,Aw (show d<9223372036854775807 by omega)];refine Bv q3 ?_;simp only[go_sem,Aw (show i<9223372036854775807 by omega)];exact Ai (ih (i+1,s3,c++x.txt (d+1)) AA ⟨by omega,K3 w2 v3,by grind⟩) rfl
 .obtain rfl:i=L.length:=by omega
  rw[D4 h',show Sp.txts (d+1) []=[] by rw[Sp.txts],Bz]at hc;subst hc;simp only[go_sem,Bj h'];exact hk s1 hw
def A63{x:Sp}(h:CnS x):Wr x:=by
 induction h with
 | @mk x h1 h2 h3 h4 h5 h6 h7 h8 h9 ihb ihe=>
  intro s b l d h hl hd;have hs:CnS x:=.mk h1 h2 h3 h4 h5 h6 h7 h8 h9;rw[Lh]at hd
  have qc:s.length≠b:=by
   obtain⟨⟨u,p,hb,-⟩,-⟩:=h;have:=(An.1 hb).1;omega
  rw[M3]at hl ⊢;simp only[Aj,K4]at hl;have hh:=A60 hs AA;have qk:=Bbl d AA;have qd:=He x;have g0:(1073741823<(d:Int))=False:=eq_false AA;have qz:=K4 d;generalize hH:Cu x=H at hl hh ⊢;generalize hT:Et d=T at hl qk qz ⊢;refine U0 T161 rfl ?_ rfl rfl (fun σ1 h=>⟨h.2.2.1,h.2.1⟩);obtain⟨s1,e1⟩:∃ s1,s1=s++[Ob.row x.row 100 0 0]:=⟨_,rfl⟩;have w1:WB s s1 b l:=by rw[e1];exact Aku h x
  have k1:s1[s.length]?=some (.row x.row 100 0 0):=by rw[e1,Fk (Am _),Iu];rfl
  have qa:=Fr x;obtain⟨s2,q2,w2,v2⟩:=Hl w1 T AA;have k2:=v2.2.2.2 s.length _ _ _ _ qc AM k1;obtain⟨s3,q3,w3,v3⟩:=Hl w2 H (by grind);have k3:=v3.2.2.2 s.length _ _ _ _ qc AM k2;rw[qa]at e1 k2 k3 hh ⊢;rw[e1]at q2;cases hb:B6 x.op
  .rw[hb]at hh hl;simp only[Hz,if_false,Be,Dn]at hl ⊢;obtain⟨s4,q4,w4,v4⟩:=Hl w3 [59,10] (by grind);simp only[go_sem,g0];refine Fu P192 AB qk ?_;simp only[go_sem];refine Bv q2 ?_;simp only[go_sem,k2];refine Ab hh (by grind) ?_;simp only[go_sem];refine Bv q3 ?_;simp only[go_sem];refine Bv q4 ?_;simp only[go_sem];exact⟨rfl,by grind⟩
  .rw[hb]at hh hl;simp only[if_true,Be,Aj,Dn]at hl ⊢;have lb:=Yc x.body (d+1);have le:=Yc x.els (d+1);have qq:(x.body.map Sp.row).length=x.body.length:=Av ..;have qs:(x.els.map Sp.row).length=x.els.length:=Av ..;obtain⟨s4,q4,w4,v4⟩:=Hl w3 [32,123,10] (by grind);have k4:=v4.2.2.2 s.length _ _ _ _ qc AM k3;simp only[go_sem,g0];refine Fu P192 AB qk ?_;simp only[go_sem];refine Bv q2 ?_;simp only[go_sem,k2];refine Ab hh (by grind) ?_;simp only[go_sem];refine Bv q3 ?_;simp only[go_sem];refine Bv q4 ?_;simp only[go_sem,k4,qq];refine A61 (d:=d) (L:=x.body) (l:=l++T++H++[32,123,10]) ihb (Ud w4) (by grind) AA AA fun s5 w5=>?_
   have k5:=w5.2.2.2 s.length _ _ _ _ qc AM k4;have qE:=K3 w4 w5
   cases hels:x.els with
   | nil=>
    have e0:((0:Int)<((([]:List Sp).map Sp.row).length:Int))=False:=eq_false AE;rw[hels]at k5 hl;simp only[B0]at k5;obtain⟨s6,q6,w6,v6⟩:=Hl qE T (by grind);obtain⟨s7,q7,w7,v7⟩:=Hl w6 [125,10] (by grind);simp only[go_sem,k5,Int.reduceLT];refine Bv q6 ?_;simp only[go_sem];refine Bv q7 ?_;simp only[go_sem];exact⟨rfl,by grind⟩
   | cons y ys=>
    rw[hels]at k5 hl le hd qs ihe;have e0:((0:Int)<((ys.length+1:Nat):Int))=True:=eq_true AA;simp only[List.isEmpty_cons,Hz,if_false,Be,Aj]at hl ⊢;obtain⟨s6,q6,w6,v6⟩:=Hl qE T (by grind);have k6:=v6.2.2.2 s.length _ _ _ _ qc AM k5;obtain⟨s7,q7,w7,v7⟩:=Hl w6 [125,32,101,108,115,101,32,123,10] (by grind);have k7:=v7.2.2.2 s.length _ _ _ _ qc AM k6;simp only[go_sem,k5,Av,Be,e0];refine Bv q6 ?_;simp only[go_sem];refine Bv q7 ?_;simp only[go_sem,k7,Av,Be];refine A62 (d:=d) (L:=y::ys) (l:=l++T++H++[32,123,10]++Sp.txts (d+1) x.body++T++[125,32,101,108,115,101,32,123,10]) ihe (Ud w7) (by grind) AA AA fun s8 w8=>?_
    obtain⟨s9,q9,w9,v9⟩:=Hl (K3 w7 w8) T AP;obtain⟨qS,qK,qW,qV⟩:=Hl w9 [125,10] AP;simp only[go_sem];refine Bv q9 ?_;simp only[go_sem];refine Bv qK ?_;simp only[go_sem];exact⟨rfl,by simp_all⟩
def A3t{x:Sp}(h:CnS x)(d:Nat)(D:Int)(g0:max D 0=(d:Int))(hl:(x.txt d).length<=10000000000000)(hd:d+x.sz<=1073741823):Fn TT PT 124 [.agg x.row,iV D] (.str (x.txt d)):=by
 have qd:=He x;refine Bg T124 rfl ?_
 have w0:WB [.row x.row 100 0 0,.row [.nilp,.nils] 208 0 0] [.row x.row 100 0 0,.row [.nilp,.nils] 208 0 0] 1 []:=by
  refine Ar3 (u:=.nils) ⟨.nilp,rfl,.inl rfl,Dr⟩ ?_;exact Mk (Jf (s:=[]) (fun _ h=>by cases h) qd) AT
 obtain⟨s1,q1,v1⟩:=A63 h _ 1 [] d w0 (by simpa using hl) hd;obtain⟨s2,qo⟩:=Awo v1;rw[Ct]at qo;have qa:=Fr x;rw[qa]at q1 qd ⊢;simp only[go_sem,g0];refine Bv q1 ?_;simp only[go_sem];refine Jz (.spec T162 rfl rfl qo) ?_;simp only[go_sem];exact Gs rfl
def A64{x:Sp}(h:CnS x)(d:Nat)(hl:(x.txt d).length<=10000000000000)(hd:d+x.sz<=1073741823):Fn TT PT 124 [.agg x.row,iV (d:Int)] (.str (x.txt d)):=A3t h d _ AA hl hd
def Hf(l:List UInt8):Nat:=l.count 10
def Jg(a b:List UInt8):Hf (a++b)=Hf a+Hf b:=List.count_append
def K5(c:UInt8)(l:List UInt8):Hf (c::l)=Hf l+if c=10 then 1 else 0:=by
 unfold Hf;rw[List.count_cons]
 by_cases h:c=10<;>simp[h]
def Bbm{l:List UInt8}(h:∀ c∈l,c≠10):Hf l=0:=List.count_eq_zero.2 fun hm=>h 10 hm rfl
mutual
def Sp.lns:Sp->Nat
 | ⟨op,_,_,_,_,_,_,_,_,_,body,_,_,els⟩=>1+(if B6 op then 1+Sp.lnss body else 0)+(if els.isEmpty then 0 else 1+Sp.lnss els)
def Sp.lnss:List Sp->Nat
 | []=>0
 | x::l=>x.lns+Sp.lnss l
end
def Bgx{l:List UInt8}{j:Nat}(h:Jt l j=true):l.getD j 0≠10:=fun e=>by
 unfold Jt at h;rw[e]at h
 cases j<;>simp[Lz,Q6]at h
def Afq{l:List UInt8}(h:B3 l=true):Hf l=0:=by
 refine Bbm fun c hc=>?_
 obtain⟨i,hi,rfl⟩:=Mu hc;unfold B3 at h;simp only[Al,Cc]at h;have:=Bgx (h.2.2.2 i (Hi.2 hi))
 rwa [Fl,Cb hi]at this
def Akv:∀ (k u:Nat),Hf (O2 k u)=0
 | 0,_=>rfl
 | k+1,u=>by
  have hd:∀ n,n<10->Hf [UInt8.ofNat (48+n)]=0:=by decide
  unfold O2
  split
  .exact hd u AA
  .rw[Jg,Akv k,hd _ AA]
def Bbn(n:Int):Hf (Cy n)=0:=by
 unfold Cy
 split
 .rw[K5,Akv];decide
 .exact Akv _ _
def Aye(op:Int):Hf (Cr op)=0:=by
 unfold Cr
 split<;>decide
def Akw{o:Int × List UInt8}(h:Hf o.2=0)(v:Int):Hf (Eh o v)=0:=by
 unfold Eh
 split
 .rw[K5,Jg,h];decide
 .exact h
def Awp{x:Xp}(h:ShE x):Hf x.txt=0:=by
 induction h with
 | num h=>
  rw[F2];simp only[Em,if_pos];exact Bbn _
 | name h=>
  rw[F2];simp only[Em];exact Afq h
 | idx hn ha ih=>
  rw[F2];simp only[Em,Bh,B0];simp only[Int.reduceEq,if_false,if_true];rw[Jg,K5,Jg,Afq hn,ih];decide
 | @un op z t a ho ha ih=>
  rw[F2];simp only[Em,Bh,B0];rw[if_neg AA,if_neg AA,if_neg AA,Jg,Aye,Akw ih]
 | @bin op z t a b ho ha hb iha ihb=>
  rw[F2];simp only[Em,Bh,B0];rw[if_neg AA,if_neg AA,Jg,K5,Jg,K5,Aye,Akw iha,Akw ihb];decide
def Zm(op:Int):Hf (C9 op)=0:=by
 unfold C9
 split<;>decide
def Bbo{s:Sp}(h:ShS s):Hf (Cu s)=0:=by
 obtain⟨h1,h2,h3,h4,h5,h6,h7,h8,h9,qL,qM,qN,qO,qP⟩:=h
 have hn:Hf s.nm=0:=by
  cases e:Gx s.op
  .exact Afq (h3 e)
  .rw[h2 e];rfl
 have ha:Hf s.arg=0:=by
  by_cases e:s.op=15
  .exact Afq (h4 e)
  .rw[h5 e];rfl
 have hx:Fe s.op=true->Hf s.ex.txt=0:=fun e=>Awp (h9 e)
 have hi:Hf (F6 s.idx)=0:=by
  unfold F6
  split
  .rename_i a r e;rw[K5,Jg,Awp (h8 a (by rw[e];simp))];decide
  .rfl
 unfold Cu
 split
 .rename_i e;rw[Jg,Jg,K5,K5,K5,hn,hi,hx (by rw[e];rfl)];decide
 split
 .rename_i e;rw[Jg,K5,Zm,hx (by rcases e with e | e<;>rw[e]<;>rfl)];decide
 split
 .exact Zm _
 split
 .rename_i e;rw[Jg,K5,Jg,K5,Zm,hn,hx (by rw[e];rfl)];decide
 split
 .rw[Jg,K5,Jg,K5,Zm,hn,ha];decide
 .rw[Jg,K5,Zm,hn];decide
def ixU(c:UInt8):∀ (a r:List UInt8),c ∉ a->Lib.index (a++c::r) [c]=(a.length:Int)/\Lib.indexByte (a++c::r) c=(a.length:Int)
 | [],r,_=>by
  have hp:List.isPrefixOf [c] (c::r)=true:=by simp[List.isPrefixOf]
  constructor
  .rw[Ct];unfold Lib.index;rw[hp];rfl
  .rw[Ct,Lib.indexByte];simp
 | b::a,r,h=>by
  have hb:(c==b)=false:=by simp at h ⊢;exact h.1
  have qH:(b==c)=false:=by simp at h ⊢;exact fun e=>h.1 e.symm
  obtain⟨h1,h2⟩:=ixU c a r (by simp at h;exact h.2);have hp:List.isPrefixOf [c] (b::(a++c::r))=false:=by simp[List.isPrefixOf]at hb ⊢;exact hb
  have hn:((a.length:Int) == -1)=false:=by simp
  constructor
  .rw[Mw];unfold Lib.index;rw[hp,h1];simp only[Hz,if_false,hn,Be];omega
  .rw[Mw,Lib.indexByte,h2];simp only[qH,Hz,if_false,hn,Be];omega
def Boh{c:UInt8}{a r:List UInt8}(h:c ∉ a):Lib.cut (a++c::r) [c]=(a,r,true):=by
 have hi:=(ixU c a r h).1;unfold Lib.cut;rw[hi,if_pos AA];simp
def Ee(s:Sp):List UInt8:=Cu s++if B6 s.op then [32,123] else [59]
mutual
def Sp.hds:Sp->List (List UInt8)
 | ⟨op,line,nm,arg,iz,it,idx,ex,bz,bt,body,ez,et,els⟩=>Ee ⟨op,line,nm,arg,iz,it,idx,ex,bz,bt,body,ez,et,els⟩::(Sp.hdss body++Sp.hdss els)
def Sp.hdss:List Sp->List (List UInt8)
 | []=>[]
 | x::l=>x.hds++Sp.hdss l
end
theorem Awq(s:Sp):s.hds=Ee s::(Sp.hdss s.body++Sp.hdss s.els):=by
 cases s;rw[Sp.hds]
mutual
theorem Bbp:∀ s:Sp,s.hds.length=s.sz
 | ⟨op,line,nm,arg,iz,it,idx,ex,bz,bt,body,ez,et,els⟩=>by
  rw[Awq,Lh];simp only[Be,Aj];rw[Jb body,Jb els];omega
theorem Jb:∀ l:List Sp,(Sp.hdss l).length=Sp.szs l
 | []=>rfl
 | x::l=>by rw[Sp.hdss,Sp.szs,Aj,Bbp x,Jb l]
end
def Auk{s:Sp}(h:ShS s):(10:UInt8) ∉ Ee s:=by
 have h0:Hf (Ee s)=0:=by
  unfold Ee;rw[Jg,Bbo h]
  split<;>decide
 exact List.count_eq_zero.1 h0
def Amz(s:Sp):∃ r,s.txt 0=Ee s++10::r:=by
 rw[M3];unfold Ee
 split
 .exact⟨Sp.txts (0+1) s.body++((if s.els.isEmpty then [] else Et 0++125::32::101::108::115::101::32::123::10::Sp.txts (0+1) s.els)++(Et 0++[125,10])),by simp[Et]⟩
 .exact⟨[],by simp[Et]⟩
def I2(s:Sp):Sp:=⟨s.op,s.line,s.nm,s.arg,s.iz,s.it,s.idx,s.ex,true,0,[],true,0,[]⟩
def A3u(s:Sp):Ee (I2 s)=Ee s:=rfl
def Bbq{s:Sp}(h:CnS s):CnS (I2 s):=by
 cases h with
 | mk h1 h2 h3 h4 h5 h6 h7 h8 h9=>exact .mk h1 h2 h3 h4 h5 (fun _=>rfl) (fun _=>rfl) (fun x hx=>by cases hx) (fun x hx=>by cases hx)
def A65(s:Sp):(∃ r,(I2 s).txt 0=Ee s++10::r)/\((I2 s).txt 0).length<=(Ee s).length+10:=by
 refine⟨A3u s ▸ Amz (I2 s),?_⟩;rw[M3];unfold Ee;have:(I2 s).op=s.op:=rfl;have h2:Cu (I2 s)=Cu s:=rfl;rw[this,h2]
 split
 .simp[Et,I2,Sp.txts]
 .simp[Et]
mutual
theorem A66:∀ (s:Sp) (d d':Nat),d<=d'->(s.txt d).length<=(s.txt d').length
 | ⟨op,line,nm,arg,iz,it,idx,ex,bz,bt,body,ez,et,els⟩,d,d',h=>by
  have h1:=V2 body (d+1) (d'+1) AA;have h2:=V2 els (d+1) (d'+1) AA;rw[M3,M3];simp only[Aj,K4]
  split
  .cases els<;>simp[K4]at h2 ⊢<;>omega
  .simp;omega
theorem V2:∀ (l:List Sp) (d d':Nat),d<=d'->(Sp.txts d l).length<=(Sp.txts d' l).length
 | [],_,_,_=>by simp[Sp.txts]
 | x::l,d,d',h=>by
  have h1:=A66 x d d' h;have h2:=V2 l d d' h;rw[N2,N2,Aj,Aj];omega
end
def Aul(s:Sp):(Ee s).length+1<=(s.txt 0).length:=by
 obtain⟨r,hr⟩:=Amz s;rw[hr];simp
def Bbr{s:Sp}(h:B6 s.op=true):(Ee s).length+(Sp.txts 0 s.body).length+(Sp.txts 0 s.els).length<=(s.txt 0).length:=by
 have h1:=V2 s.body 0 1 AA;have h2:=V2 s.els 0 1 AA;rw[M3,if_pos h];unfold Ee;rw[if_pos h]
 cases he:s.els with
 | nil=>rw[he]at h2;simp[Et,Sp.txts]at h2 ⊢;omega
 | cons a l=>rw[he]at h2;simp[Et]at h2 ⊢;omega
