/- Walks: the reference's texts of declarations and programs. -/
import Derived.Test.YtlehfgdhebapeaaGreatDoorGc
set_option linter.all false
namespace Go.Proofs.YtlehfgdhebapeaaGreatDoor.KM
open Go
theorem Abg:∀ (k u:Nat),(Gw k u).length<=k
 | 0,_=>by simp[Gw]
 | k+1,u=>by
  have:=Abg k (u / 10)
  unfold Gw
  split
  ·simp
  ·simp;omega
theorem L5(n:Int):(A4 n).length<=21:=by
 unfold A4
 split
 ·have:=Abg 20 n.natAbs
  simp;omega
 ·have:=Abg 20 n.toNat
  omega
theorem Aoj{d:Dp}(h:CnD d)(hn:d.nm.length<=100000000000000)(ho:d.kind=5->d.on.length<=100000000000000):Fn TT PT 44 [.agg d.row] (.str (Bq d++[59,10])):=by
 obtain⟨⟨k1,k2⟩,⟨h0,h1,h2⟩,i1,i2,h3⟩:=h
 obtain⟨kind,line,nm,size,init,on⟩:=d
 simp only at k1 k2 h0 h1 h2 i1 i2 h3 hn ho
 unfold Dp.row
 simp only
 have l1:=L5 size
 have l2:=L5 init
 have hk:kind=1\/kind=2\/kind=3\/kind=4\/kind=5\/kind=6:=by omega
 have hsz:(size=0/\((0:Int)<0)=False/\True)\/(size≠0/\((0:Int)<size)=True/\Nt [.int .i64 size]=some (.str (A4 size))):=by
  by_cases hz:size=0
  ·exact .inl ⟨hz,eq_false (by omega),trivial⟩
  ·exact .inr ⟨hz,eq_true (by omega),by unfold Nt;exact if_pos ⟨by omega,h1⟩⟩
 have hin:(init=0/\((0:Int) != 0)=false/\True)\/(init≠0/\(init != 0)=true/\Jb [.int .i64 init,.int .i64 10]=some (.str (A4 init))):=by
  by_cases hz:init=0
  ·exact .inl ⟨hz,by decide,trivial⟩
  ·exact .inr ⟨hz,by simp[hz],by unfold Jb;exact if_pos ⟨i1,i2⟩⟩
 rcases hk with rfl | hk
 ·rcases hsz with⟨rfl,z1,z2⟩ | ⟨z0,z1,z2⟩<;>rcases hin with⟨rfl,n1,n2⟩ | ⟨n0,n1,n2⟩
  ·refine Bz T44 rfl ?_
   have a1:Ah .add ([118,97,114,32]) (nm)=some (.str (118::97::114::32::nm)):=Ai (by simp;try omega) (by simp)
   have a2:Ah .add (118::97::114::32::nm) ([59,10])=some (.str (118::97::114::32::(nm++[59,10]))):=Ai (by simp;try omega) (by simp)
   simp only[go_sem,Int.reduceLT,Int.reduceBEq,gt_iff_lt,z1,n1]
   refine A2 (by kernel_rfl) ?_
   simp only[go_sem,↓a1,↓a2]
   simp only[go_sem,z1,n1,Int.reduceBEq,↓a1,↓a2]
   exact A9 rfl (by simp[Bq,Dl])
  ·refine Bz T44 rfl ?_
   have a1:Ah .add ([118,97,114,32]) (nm)=some (.str (118::97::114::32::nm)):=Ai (by simp;try omega) (by simp)
   have a2:Ah .add (118::97::114::32::nm) ([32,61,32])=some (.str (118::97::114::32::(nm++[32,61,32]))):=Ai (by simp;try omega) (by simp)
   have a3:Ah .add (118::97::114::32::(nm++[32,61,32])) (A4 init)=some (.str (118::97::114::32::(nm++32::61::32::A4 init))):=Ai (by simp;try omega) (by simp)
   have a4:Ah .add (118::97::114::32::(nm++32::61::32::A4 init)) ([59,10])=some (.str (118::97::114::32::(nm++32::61::32::(A4 init++[59,10])))):=Ai (by simp;try omega) (by simp)
   simp only[go_sem,Int.reduceLT,Int.reduceBEq,gt_iff_lt,z1,n1]
   refine A2 (by kernel_rfl) ?_
   simp only[go_sem,↓a1,↓a2,↓a3,↓a4]
   simp only[go_sem,z1,n1,Int.reduceBEq,↓a1,↓a2,↓a3,↓a4]
   refine Ef P83 (by simp only[go_sem]) n2 ?_
   simp only[go_sem,z1,n1,Int.reduceBEq,↓a1,↓a2,↓a3,↓a4]
   exact A9 rfl (by simp[Bq,Dl,n0])
  ·refine Bz T44 rfl ?_
   have a1:Ah .add ([118,97,114,32]) (nm)=some (.str (118::97::114::32::nm)):=Ai (by simp;try omega) (by simp)
   have a2:Ah .add (118::97::114::32::nm) ([91])=some (.str (118::97::114::32::(nm++[91]))):=Ai (by simp;try omega) (by simp)
   have c1:Ah .add (118::97::114::32::(nm++[91])) (A4 size)=some (.str (118::97::114::32::(nm++91::A4 size))):=Ai (by simp;try omega) (by simp)
   have c2:Ah .add (118::97::114::32::(nm++91::A4 size)) [93]=some (.str (118::97::114::32::(nm++91::(A4 size++[93])))):=Ai (by simp;try omega) (by simp)
   have a3:Ah .add (118::97::114::32::(nm++91::(A4 size++[93]))) ([59,10])=some (.str (118::97::114::32::(nm++91::(A4 size++[93,59,10])))):=Ai (by simp;try omega) (by simp)
   simp only[go_sem,Int.reduceLT,Int.reduceBEq,gt_iff_lt,z1,n1]
   refine A2 (by kernel_rfl) ?_
   simp only[go_sem,↓a1,↓a2,↓c1,↓c2,↓a3]
   simp only[go_sem,z1,↓a1,↓a2,↓c1,↓c2,↓a3]
   refine Ef P70 (by simp only[go_sem]) z2 ?_
   simp only[go_sem,z1,n1,Int.reduceBEq,↓a1,↓a2,↓c1,↓c2,↓a3]
   exact A9 rfl (by simp[Bq,Dl,z0])
  ·refine Bz T44 rfl ?_
   have a1:Ah .add ([118,97,114,32]) (nm)=some (.str (118::97::114::32::nm)):=Ai (by simp;try omega) (by simp)
   have a2:Ah .add (118::97::114::32::nm) ([91])=some (.str (118::97::114::32::(nm++[91]))):=Ai (by simp;try omega) (by simp)
   have c1:Ah .add (118::97::114::32::(nm++[91])) (A4 size)=some (.str (118::97::114::32::(nm++91::A4 size))):=Ai (by simp;try omega) (by simp)
   have c2:Ah .add (118::97::114::32::(nm++91::A4 size)) [93]=some (.str (118::97::114::32::(nm++91::(A4 size++[93])))):=Ai (by simp;try omega) (by simp)
   have a3:Ah .add (118::97::114::32::(nm++91::(A4 size++[93]))) ([32,61,32])=some (.str (118::97::114::32::(nm++91::(A4 size++[93,32,61,32])))):=Ai (by simp;try omega) (by simp)
   have a4:Ah .add (118::97::114::32::(nm++91::(A4 size++[93,32,61,32]))) (A4 init)=some (.str (118::97::114::32::(nm++91::(A4 size++93::32::61::32::A4 init)))):=Ai (by simp;try omega) (by simp)
   have a5:Ah .add (118::97::114::32::(nm++91::(A4 size++93::32::61::32::A4 init))) ([59,10])=some (.str (118::97::114::32::(nm++91::(A4 size++93::32::61::32::(A4 init++[59,10]))))):=Ai (by simp;try omega) (by simp)
   simp only[go_sem,Int.reduceLT,Int.reduceBEq,gt_iff_lt,z1,n1]
   refine A2 (by kernel_rfl) ?_
   simp only[go_sem,↓a1,↓a2,↓c1,↓c2,↓a3,↓a4,↓a5]
   simp only[go_sem,z1,↓a1,↓a2,↓c1,↓c2,↓a3,↓a4,↓a5]
   refine Ef P70 (by simp only[go_sem]) z2 ?_
   simp only[go_sem,z1,n1,Int.reduceBEq,↓a1,↓a2,↓c1,↓c2,↓a3,↓a4,↓a5]
   refine Ef P83 (by simp only[go_sem]) n2 ?_
   simp only[go_sem,z1,n1,Int.reduceBEq,↓a1,↓a2,↓c1,↓c2,↓a3,↓a4,↓a5]
   exact A9 rfl (by simp[Bq,Dl,z0,n0])
 rcases hk with rfl | hk
 ·obtain rfl:size=0:=h2 (by omega)
  have z1:((0:Int)<0)=False:=eq_false (by omega)
  rcases hin with⟨rfl,n1,n2⟩ | ⟨n0,n1,n2⟩
  ·refine Bz T44 rfl ?_
   have a1:Ah .add ([118,111,108,97,116,105,108,101,32]) (nm)=some (.str (118::111::108::97::116::105::108::101::32::nm)):=Ai (by simp;try omega) (by simp)
   have a2:Ah .add (118::111::108::97::116::105::108::101::32::nm) ([59,10])=some (.str (118::111::108::97::116::105::108::101::32::(nm++[59,10]))):=Ai (by simp;try omega) (by simp)
   simp only[go_sem,Int.reduceLT,Int.reduceBEq,gt_iff_lt,z1,n1]
   refine A2 (by kernel_rfl) ?_
   simp only[go_sem,↓a1,↓a2]
   simp only[go_sem,z1,n1,Int.reduceBEq,↓a1,↓a2]
   exact A9 rfl (by simp[Bq,Dl])
  ·refine Bz T44 rfl ?_
   have a1:Ah .add ([118,111,108,97,116,105,108,101,32]) (nm)=some (.str (118::111::108::97::116::105::108::101::32::nm)):=Ai (by simp;try omega) (by simp)
   have a2:Ah .add (118::111::108::97::116::105::108::101::32::nm) ([32,61,32])=some (.str (118::111::108::97::116::105::108::101::32::(nm++[32,61,32]))):=Ai (by simp;try omega) (by simp)
   have a3:Ah .add (118::111::108::97::116::105::108::101::32::(nm++[32,61,32])) (A4 init)=some (.str (118::111::108::97::116::105::108::101::32::(nm++32::61::32::A4 init))):=Ai (by simp;try omega) (by simp)
   have a4:Ah .add (118::111::108::97::116::105::108::101::32::(nm++32::61::32::A4 init)) ([59,10])=some (.str (118::111::108::97::116::105::108::101::32::(nm++32::61::32::(A4 init++[59,10])))):=Ai (by simp;try omega) (by simp)
   simp only[go_sem,Int.reduceLT,Int.reduceBEq,gt_iff_lt,z1,n1]
   refine A2 (by kernel_rfl) ?_
   simp only[go_sem,↓a1,↓a2,↓a3,↓a4]
   simp only[go_sem,z1,n1,Int.reduceBEq,↓a1,↓a2,↓a3,↓a4]
   refine Ef P83 (by simp only[go_sem]) n2 ?_
   simp only[go_sem,z1,n1,Int.reduceBEq,↓a1,↓a2,↓a3,↓a4]
   exact A9 rfl (by simp[Bq,Dl,n0])
 rcases hk with rfl | hk
 ·obtain rfl:size=0:=h2 (by omega)
  obtain rfl:init=0:=h3 (by omega) (by omega)
  have z1:((0:Int)<0)=False:=eq_false (by omega)
  have n1:((0:Int) != 0)=false:=by decide
  refine Bz T44 rfl ?_
  have a1:Ah .add ([109,117,116,101,120,32]) (nm)=some (.str (109::117::116::101::120::32::nm)):=Ai (by simp;try omega) (by simp)
  have a2:Ah .add (109::117::116::101::120::32::nm) ([59,10])=some (.str (109::117::116::101::120::32::(nm++[59,10]))):=Ai (by simp;try omega) (by simp)
  simp only[go_sem,Int.reduceLT,Int.reduceBEq,gt_iff_lt,z1,n1]
  refine A2 (by kernel_rfl) ?_
  simp only[go_sem,↓a1,↓a2]
  simp only[go_sem,z1,n1,Int.reduceBEq,↓a1,↓a2]
  exact A9 rfl (by simp[Bq,Dl])
 rcases hk with rfl | hk
 ·obtain rfl:size=0:=h2 (by omega)
  obtain rfl:init=0:=h3 (by omega) (by omega)
  have z1:((0:Int)<0)=False:=eq_false (by omega)
  have n1:((0:Int) != 0)=false:=by decide
  refine Bz T44 rfl ?_
  have a1:Ah .add ([114,119,108,111,99,107,32]) (nm)=some (.str (114::119::108::111::99::107::32::nm)):=Ai (by simp;try omega) (by simp)
  have a2:Ah .add (114::119::108::111::99::107::32::nm) ([59,10])=some (.str (114::119::108::111::99::107::32::(nm++[59,10]))):=Ai (by simp;try omega) (by simp)
  simp only[go_sem,Int.reduceLT,Int.reduceBEq,gt_iff_lt,z1,n1]
  refine A2 (by kernel_rfl) ?_
  simp only[go_sem,↓a1,↓a2]
  simp only[go_sem,z1,n1,Int.reduceBEq,↓a1,↓a2]
  exact A9 rfl (by simp[Bq,Dl])
 rcases hk with rfl | hk
 ·have ho:=ho rfl
  obtain rfl:size=0:=h2 (by omega)
  obtain rfl:init=0:=h3 (by omega) (by omega)
  have z1:((0:Int)<0)=False:=eq_false (by omega)
  have n1:((0:Int) != 0)=false:=by decide
  refine Bz T44 rfl ?_
  have a1:Ah .add ([99,111,110,100,32]) (nm)=some (.str (99::111::110::100::32::nm)):=Ai (by simp;try omega) (by simp)
  have a2:Ah .add (99::111::110::100::32::nm) ([32])=some (.str (99::111::110::100::32::(nm++[32]))):=Ai (by simp;try omega) (by simp)
  have a3:Ah .add (99::111::110::100::32::(nm++[32])) (on)=some (.str (99::111::110::100::32::(nm++32::on))):=Ai (by simp;try omega) (by simp)
  have a4:Ah .add (99::111::110::100::32::(nm++32::on)) ([59,10])=some (.str (99::111::110::100::32::(nm++32::(on++[59,10])))):=Ai (by simp;try omega) (by simp)
  simp only[go_sem,Int.reduceLT,Int.reduceBEq,gt_iff_lt,z1,n1]
  refine A2 (by kernel_rfl) ?_
  simp only[go_sem,↓a1,↓a2,↓a3,↓a4]
  simp only[go_sem,z1,n1,Int.reduceBEq,↓a1,↓a2,↓a3,↓a4]
  exact A9 rfl (by simp[Bq,Dl])
 subst hk
 obtain rfl:size=0:=h2 (by omega)
 obtain rfl:init=0:=h3 (by omega) (by omega)
 have z1:((0:Int)<0)=False:=eq_false (by omega)
 have n1:((0:Int) != 0)=false:=by decide
 refine Bz T44 rfl ?_
 have a1:Ah .add ([102,117,116,117,114,101,32]) (nm)=some (.str (102::117::116::117::114::101::32::nm)):=Ai (by simp;try omega) (by simp)
 have a2:Ah .add (102::117::116::117::114::101::32::nm) ([59,10])=some (.str (102::117::116::117::114::101::32::(nm++[59,10]))):=Ai (by simp;try omega) (by simp)
 simp only[go_sem,Int.reduceLT,Int.reduceBEq,gt_iff_lt,z1,n1]
 refine A2 (by kernel_rfl) ?_
 simp only[go_sem,↓a1,↓a2]
 simp only[go_sem,z1,n1,Int.reduceBEq,↓a1,↓a2]
 exact A9 rfl (by simp[Bq,Dl])
theorem Af8{d:Dp}(h:1<=d.kind/\d.kind<=6):d.nm.length<=(Bq d).length/\(d.kind=5->d.on.length<=(Bq d).length):=by
 unfold Bq
 refine⟨?_,fun h5=>?_⟩
 ·repeat' split
  all_goals simp
  all_goals omega
 ·rw[if_neg (by omega),if_neg (by omega),if_neg (by omega),if_neg (by omega),if_pos h5]
  simp
  omega
def jr:List (List UInt8)->List UInt8
 | []=>[]
 | a::l=>44::32::(a++jr l)
theorem Aar:∀ (a:List UInt8) (l:List (List UInt8)),Ca (a::l)=a++jr l
 | a,[]=>by simp[Ca,jr]
 | a,b::l=>by rw[Ca,Aar b l,jr]
def Oi(l:List (List UInt8))(k:Nat):List UInt8:=if k=0 then Ca l else jr (l.drop k)
theorem Ad9(l:List (List UInt8)):l.length<=(Ca l).length+1:=by
 have:∀ l:List (List UInt8),l.length<=(jr l).length:=fun l=>by
  induction l with
  | nil=>simp
  | cons a l ih=>simp[jr];omega
 cases l with
 | nil=>simp
 | cons a l=>rw[Aar];have:=this l;simp;omega
theorem Sz{α:Type}(f:α->List UInt8)(hf:∀ x,1<=(f x).length):∀ l:List α,l.length<=((l.map f).flatten).length
 | []=>by simp
 | y::l=>by
  have:=Sz f hf l
  have:=hf y
  rw[Ao,Df,Al,Ag]
  omega
theorem Amt{K:List It}{Q:Env->St->Prop}{A C:V}{l:List (List UInt8)}{z:Bool}{u j0:Nat}{nm:List UInt8}{line:Int}{B:V}{s:St}(hs:s[j0]?=some (.row [.str nm,.int .i64 line,SL z u (l.map fun x=>[V.str x]),B] 80 0 0))(acc:List UInt8)(hl:acc.length+(Ca l).length<=100000000000000)
  (h:W TT PT K [(1,A),(3,.str (acc++Ca l)),(5,C),(6,.ptr j0 0 0),(7,.int .i64 (l.length:Int))] s Q) :
  W TT PT (.l [1,3,5,6,7] lp13_1::.b 4::K) [(1,A),(3,.str acc),(5,C),(6,.ptr j0 0 0),(7,.int .i64 0)] s Q:=by
 have hll:=Ad9 l
 have hlm:(l.map fun x=>[V.str x]).length=l.length:=Cd ..
 refine En (α:=Nat × List UInt8) (fun a=>l.length - a.1) (fun a=>[(1,A),(3,.str a.2),(5,C),(6,.ptr j0 0 0),(7,.int .i64 (a.1:Int))]) (fun _=>s) (fun a=>a.1<=l.length/\a.2++Oi l a.1=acc++Ca l) ?_ (0,acc) ⟨Bj _,rfl⟩
 rintro⟨i,c⟩ ⟨hi,hc⟩ ih
 simp only at hi hc ih
 refine Eo (by delta lp13_1;exact rfl) ?_
 have hcl:=congrArg List.length hc
 simp only[Al]at hcl
 rcases D7 i l.length with h' | h'
 ·obtain⟨x,hx,hd,hm⟩:=L4 h'
  have hinc:=Cr (show i<9223372036854775807 by omega)
  by_cases hi0:i=0
  ·subst hi0
   have f0:((0:Int)<((0:Nat):Int))=False:=eq_false (by omega)
   have f0':((0:Int)<0)=False:=eq_false (by omega)
   have f1:((0:Int)<(l.length:Int))=True:=eq_true (by omega)
   have hxl:l=x::l.drop 1:=by simpa using hd
   have hj:Oi l 0=x++jr (l.drop 1):=by
    unfold Oi
    rw[if_pos rfl]
    conv=>lhs;rw[hxl]
    exact Aar x _
   rw[hj]at hc hcl
   rw[Al]at hcl
   have a1:Ah .add c x=some (.str (c++x)):=Ai (by omega) rfl
   simp only[go_sem,hs,hlm,f1,f0,f0',Ch,hx,↓a1,hinc]
   refine C5 (ih (1,c++x) (by simp;omega) ⟨by simp;omega,?_⟩) rfl
   simp only
   rw[<-hc,Bl]
   rfl
  ·have f0:((0:Int)<(i:Int))=True:=eq_true (by omega)
   have hj:Oi l i=44::32::(x++jr (l.drop (i+1))):=by
    unfold Oi
    rw[if_neg hi0,hd,jr]
   rw[hj]at hc hcl
   simp only[Ag,Al]at hcl
   have a1:Ah .add c [44,32]=some (.str (c++[44,32])):=Ai (by simp;omega) rfl
   have a2:Ah .add (c++[44,32]) x=some (.str (c++44::32::x)):=Ai (by simp;omega) (by simp)
   simp only[go_sem,hs,hlm,Hs h',f0,↓a1]
   simp only[go_sem,hs,Ch,hx,↓a2,hinc]
   refine C5 (ih (i+1,c++44::32::x) (by simp;omega) ⟨by simp;omega,?_⟩) rfl
   simp only
   rw[<-hc]
   unfold Oi
   rw[if_neg (by omega)]
   simp
 ·obtain rfl:i=l.length:=by omega
  have hj:Oi l l.length=[]:=by
   unfold Oi
   split
   ·rename_i h0
    rw[Se h0]
    rfl
   ·rw[E9 h']
    rfl
  rw[hj,Ds]at hc
  subst hc
  simp only[go_sem,hs,hlm,Is h']
  exact h
theorem Aok{p:Gp}(h:CnG p)(hl:(D4 p).length<=100000000000000):Fn TT PT 13 [.agg p.row] (.str (D4 p)):=by
 obtain⟨hD,hT⟩:=h
 obtain⟨dz,dt,decls,tz,tt,thrs⟩:=p
 simp only at hD hT
 unfold D4 at hl ⊢
 simp only at hl ⊢
 unfold Gp.row
 simp only
 have n1:(decls.map Dp.row).length=decls.length:=Cd ..
 have n2:(thrs.map Tp.row).length=thrs.length:=Cd ..
 rw[Al]at hl
 have c1:=Sz (fun d=>Bq d++[59,10]) (fun x=>by simp) decls
 have c2:=Sz Cs (fun x=>by simp[Cs]) thrs
 refine Bz T13 rfl ?_
 simp only[go_sem]
 refine En (α:=Nat × List UInt8) (fun a=>decls.length - a.1) (fun a=>[(1,.ptr 0 0 0),(3,.str a.2),(4,.int .i64 (a.1:Int))]) (fun _=>[.row [SL dz dt (decls.map Dp.row),SL tz tt (thrs.map Tp.row)] 26 0 0]) (fun a=>a.1<=decls.length/\a.2++((decls.drop a.1).map fun d=>Bq d++[59,10]).flatten=(decls.map fun d=>Bq d++[59,10]).flatten) ?_ (0,[]) ⟨Bj _,rfl⟩
 rintro⟨i,acc⟩ ⟨hi,hc⟩ ih
 simp only at hi hc ih
 refine Eo (by delta lp13_0;exact rfl) ?_
 have hcl:=congrArg List.length hc
 simp only[Al]at hcl
 rcases D7 i decls.length with h' | h'
 ·obtain⟨x,hx,hd,hm⟩:=L4 h'
  rw[hd,Ao,Df]at hc hcl
  simp only[Al,Ag,Br]at hcl
  obtain⟨e1,e2⟩:=Af8 (hD x hm).kind
  have hf:=Aoj (hD x hm) (by omega) (fun h5=>by have:=e2 h5;omega)
  have a1:Ah .add acc (Bq x++[59,10])=some (.str (acc++(Bq x++[59,10]))):=Ai (by simp;omega) rfl
  have hrow:x.row=[.int .i64 x.kind,.int .i64 x.line,.str x.nm,.int .i64 x.size,.int .i64 x.init,.str x.on]:=rfl
  rw[hrow]at hf
  simp only[go_sem,n1,Hs h',Ch,hx,hrow]
  refine Ax hf (by simp only[go_sem]) ?_
  simp only[go_sem,↓a1,Cr (show i<9223372036854775807 by omega)]
  refine C5 (ih (i+1,acc++(Bq x++[59,10])) (by simp;omega) ⟨by simp;omega,?_⟩) rfl
  simp only
  rw[Bl]
  exact hc
 ·obtain rfl:i=decls.length:=by omega
  rw[E9 h']at hc
  simp only[Be,Sk,Ds]at hc
  subst hc
  clear ih
  simp only[go_sem,n1,Is h']
  refine En (α:=Nat × List UInt8 × St) (fun a=>thrs.length - a.1) (fun a=>[(1,.ptr 0 0 0),(3,.str a.2.1),(5,.int .i64 (a.1:Int))]) (fun a=>a.2.2) (fun a=>a.1<=thrs.length/\a.2.1++((thrs.drop a.1).map Cs).flatten=(decls.map fun d=>Bq d++[59,10]).flatten++(thrs.map Cs).flatten/\a.2.2[0]?=some (.row [SL dz dt (decls.map Dp.row),SL tz tt (thrs.map Tp.row)] 26 0 0)) ?_ (0,_,_) ⟨Bj _,rfl,rfl⟩
  rintro⟨i,acc,s⟩ ⟨hi,hc,hs⟩ ih
  simp only at hi hc hs ih
  refine Eo (by delta lp13_2;exact rfl) ?_
  have hcl:=congrArg List.length hc
  simp only[Al]at hcl
  rcases D7 i thrs.length with h' | h'
  ·obtain⟨x,hx,hd,hm⟩:=L4 h'
   rw[hd,Ao,Df]at hc hcl
   rw[Al]at hcl
   have hth:=hT x hm
   obtain⟨nm,line,lz,lt,locals,bz,bt,body⟩:=x
   simp only at hth
   have hlen:(Cs ⟨nm,line,lz,lt,locals,bz,bt,body⟩).length=nm.length+(Ca locals).length+(Sp.txts 1 body).length+14:=by
    simp[Cs]
    omega
   have hb:=Zq bz bt 1 body (fun q hq=>Aoi (hth q hq) 1 (by have:=V1 1 hq;omega)) (by omega) (by have:=Ql body 1;omega)
   obtain⟨s',hs'⟩:∃ s',s'=s++[Ob.row [.str nm,.int .i64 line,SL lz lt (locals.map fun x=>[V.str x]),SL bz bt (body.map Sp.row)] 80 0 0]:=⟨_,rfl⟩
   have k1:s'[s.length]?=some (.row [.str nm,.int .i64 line,SL lz lt (locals.map fun x=>[V.str x]),SL bz bt (body.map Sp.row)] 80 0 0):=by rw[hs',B1 (Af _),Hm];rfl
   have k0:s'[0]?=some (.row [SL dz dt (decls.map Dp.row),SL tz tt (thrs.map Tp.row)] 26 0 0):=by rw[hs'];exact Bv hs
   have hrow:Tp.row ⟨nm,line,lz,lt,locals,bz,bt,body⟩=[.str nm,.int .i64 line,SL lz lt (locals.map fun x=>[V.str x]),SL bz bt (body.map Sp.row)]:=rfl
   have a1:Ah .add acc [116,104,114,101,97,100,32]=some (.str (acc++[116,104,114,101,97,100,32])):=Ai (by simp;omega) rfl
   have a2:Ah .add (acc++[116,104,114,101,97,100,32]) nm=some (.str (acc++116::104::114::101::97::100::32::nm)):=Ai (by simp;omega) (by simp)
   have a3:Ah .add (acc++116::104::114::101::97::100::32::nm) [40]=some (.str (acc++116::104::114::101::97::100::32::(nm++[40]))):=Ai (by simp;omega) (by simp)
   simp only[go_sem,hs,n2,Hs h',Ch,hx,hrow,↓a1,↓a2,↓a3]
   rw[<-hs']
   refine Amt k1 _ (by simp;omega) ?_
   rw[show acc++116::104::114::101::97::100::32::(nm++[40])++Ca locals=acc++116::104::114::101::97::100::32::(nm++40::Ca locals) by simp]
   have a4:Ah .add (acc++116::104::114::101::97::100::32::(nm++40::Ca locals)) [41,32,123,10]=some (.str (acc++116::104::114::101::97::100::32::(nm++40::(Ca locals++[41,32,123,10])))):=Ai (by simp;omega) (by simp)
   have a5:Ah .add (acc++116::104::114::101::97::100::32::(nm++40::(Ca locals++[41,32,123,10]))) (Sp.txts 1 body)=some (.str (acc++116::104::114::101::97::100::32::(nm++40::(Ca locals++41::32::123::10::Sp.txts 1 body)))):=Ai (by simp;omega) (by simp)
   have a6:Ah .add (acc++116::104::114::101::97::100::32::(nm++40::(Ca locals++41::32::123::10::Sp.txts 1 body))) [125,10]=some (.str (acc++116::104::114::101::97::100::32::(nm++40::(Ca locals++41::32::123::10::(Sp.txts 1 body++[125,10]))))):=Ai (by simp;omega) (by simp)
   simp only[go_sem,k1,↓a4]
   refine Ax hb (by simp only[go_sem]) ?_
   simp only[go_sem,↓a5,↓a6,Cr (show i<9223372036854775807 by omega)]
   refine C5 (ih (i+1,acc++Cs ⟨nm,line,lz,lt,locals,bz,bt,body⟩,s') (by simp;omega) ⟨by simp;omega,by simp only;rw[Bl];exact hc,k0⟩) (by simp[Cs];rfl)
  ·obtain rfl:i=thrs.length:=by omega
   rw[E9 h']at hc
   simp only[Be,Sk,Ds]at hc
   subst hc
   simp only[go_sem,hs,n2,Is h']
   exact E6 rfl
end Go.Proofs.YtlehfgdhebapeaaGreatDoor.KM
