/- Walks: programs as the static rules see them. -/
import Derived.Test.YtcoeikinocflnaaGreatDoorIe
import Derived.Test.YtcoeikinocflnaaGreatDoorMj
set_option linter.all false
namespace Go.Proofs.YtcoeikinocflnaaGreatDoor.KM
open Go
def Sw(v:V):Prop:=∃ e ln:Int,v=.tup [.int .i64 e,.int .i64 ln]
set_option maxHeartbeats 4000000 in
theorem Aox(z:Bool)(t:Nat)(l:List Dp)(hl:l.length<=1000000000):∃ v,Fn TT PT 94 [SL z t (l.map Dp.row)] v/\Sw v:=by
 have n1:(l.map Dp.row).length=l.length:=Bl ..;refine K5 T94 rfl ?_;simp only[go_sem];refine B9 (α:=Nat × St × Int × Int × Int × Int) (fun a=>l.length - a.1) (fun a=>[(0,SL z t (l.map Dp.row)),(4,.int .i64 a.2.2.1),(5,.int .i64 a.2.2.2.1),(6,.int .i64 a.2.2.2.2.1),(7,.int .i64 a.2.2.2.2.2),(8,.int .i64 (a.1:Int))]) (fun a=>a.2.1) (fun a=>a.1<=l.length) ?_ (0,[],0,0,0,0) (A2 _);rintro⟨i,s,c4,c5,c6,c7⟩ hi ih;simp only at hi ih;refine Ca (by delta lp94_0;exact rfl) ?_;have fin:∀ (s:St) (e ln:Int),∃ v,some (V.tup [.int .i64 e,.int .i64 ln])=some v/\(Cc v=true/\v.refs=[]/\Dw [] v=some v)/\Sw v:=fun _ e ln=>⟨_,rfl,⟨rfl,rfl,rfl⟩,e,ln,rfl⟩
 rcases Bx i l.length with h' | h';rotate_left
 ·simp only[go_sem,n1,Cr h'];exact fin [] _ _
 obtain⟨x,hx,-,-⟩:=Dd h';have hrow:x.row=[.int .i64 x.kind,.int .i64 x.line,.str x.nm,.int .i64 x.size,.int .i64 x.init,.str x.on]:=rfl;obtain⟨z2,t2,hcut⟩:=W0 z t 6 (l.map Dp.row) .i64 i (by omega);rw[<-Z7]at hcut;have hd:=Rm z2 t2 (l.take i) x.nm (by rw[F2];omega);have ho:=Rm z2 t2 (l.take i) x.on (by rw[F2];omega);simp only[go_sem,n1,B7 h',Bb,hx,hrow];refine Ag (by kernel_rfl) ?_;simp only[go_sem,hcut];refine Bf hd (by simp only[go_sem]) ?_;by_cases g1:0<=Bk (fun d:Dp=>d.nm==x.nm) (l.take i)
 ·have f1:(0<=Bk (fun d:Dp=>d.nm==x.nm) (l.take i))=True:=eq_true g1;simp only[go_sem,f1,ge_iff_le];refine Ag (by kernel_rfl) ?_;simp only[go_sem];exact fin [] _ _
 have f1:(0<=Bk (fun d:Dp=>d.nm==x.nm) (l.take i))=False:=eq_false g1;by_cases g2:4<x.size
 ·have f2:((4:Int)<x.size)=True:=eq_true g2;simp only[go_sem,f1,ge_iff_le,gt_iff_lt,f2];refine Ag (by kernel_rfl) ?_;simp only[go_sem];exact fin [] _ _
 have f2:((4:Int)<x.size)=False:=eq_false g2;by_cases h1:x.kind=1
 ·have q1:(x.kind==1)=true:=by simp[h1]
  have q2:(x.kind==2)=false:=by simp[h1]
  have q3:(x.kind==3)=false:=by simp[h1]
  have q4:(x.kind==4)=false:=by simp[h1]
  have q5:(x.kind==5)=false:=by simp[h1]
  by_cases u4:12<(IntKind.i64.wrap (c4+max x.size 1))
  ·have t4:((12:Int)<(IntKind.i64.wrap (c4+max x.size 1)))=True:=eq_true u4;simp only[go_sem,f1,ge_iff_le,gt_iff_lt,f2,q1,q2,q3,q4,q5,t4];refine Ag (by kernel_rfl) ?_;simp only[go_sem];exact fin [] _ _
  have t4:((12:Int)<(IntKind.i64.wrap (c4+max x.size 1)))=False:=eq_false u4;by_cases u5:4<c5
  ·have t5:((4:Int)<c5)=True:=eq_true u5;simp only[go_sem,f1,ge_iff_le,gt_iff_lt,f2,q1,q2,q3,q4,q5,t4,t5];refine Ag (by kernel_rfl) ?_;simp only[go_sem];exact fin [] _ _
  have t5:((4:Int)<c5)=False:=eq_false u5;by_cases u6:2<c6
  ·have t6:((2:Int)<c6)=True:=eq_true u6;simp only[go_sem,f1,ge_iff_le,gt_iff_lt,f2,q1,q2,q3,q4,q5,t4,t5,t6];refine Ag (by kernel_rfl) ?_;simp only[go_sem];exact fin [] _ _
  have t6:((2:Int)<c6)=False:=eq_false u6;by_cases u7:2<c7
  ·have t7:((2:Int)<c7)=True:=eq_true u7;simp only[go_sem,f1,ge_iff_le,gt_iff_lt,f2,q1,q2,q3,q4,q5,t4,t5,t6,t7];refine Ag (by kernel_rfl) ?_;simp only[go_sem];exact fin [] _ _
  have t7:((2:Int)<c7)=False:=eq_false u7;simp only[go_sem,f1,ge_iff_le,gt_iff_lt,f2,q1,q2,q3,q4,q5,t4,t5,t6,t7,Bg (show i<9223372036854775807 by omega)];exact Bi (ih (i+1,_,(IntKind.i64.wrap (c4+max x.size 1)),c5,c6,c7) (by simp only;omega) h') rfl
 by_cases h2:x.kind=2
 ·have q1:(x.kind==1)=false:=by simp[h2]
  have q2:(x.kind==2)=true:=by simp[h2]
  have q3:(x.kind==3)=false:=by simp[h2]
  have q4:(x.kind==4)=false:=by simp[h2]
  have q5:(x.kind==5)=false:=by simp[h2]
  by_cases u4:12<(IntKind.i64.wrap (c4+max x.size 1))
  ·have t4:((12:Int)<(IntKind.i64.wrap (c4+max x.size 1)))=True:=eq_true u4;simp only[go_sem,f1,ge_iff_le,gt_iff_lt,f2,q1,q2,q3,q4,q5,t4];refine Ag (by kernel_rfl) ?_;simp only[go_sem];exact fin [] _ _
  have t4:((12:Int)<(IntKind.i64.wrap (c4+max x.size 1)))=False:=eq_false u4;by_cases u5:4<c5
  ·have t5:((4:Int)<c5)=True:=eq_true u5;simp only[go_sem,f1,ge_iff_le,gt_iff_lt,f2,q1,q2,q3,q4,q5,t4,t5];refine Ag (by kernel_rfl) ?_;simp only[go_sem];exact fin [] _ _
  have t5:((4:Int)<c5)=False:=eq_false u5;by_cases u6:2<c6
  ·have t6:((2:Int)<c6)=True:=eq_true u6;simp only[go_sem,f1,ge_iff_le,gt_iff_lt,f2,q1,q2,q3,q4,q5,t4,t5,t6];refine Ag (by kernel_rfl) ?_;simp only[go_sem];exact fin [] _ _
  have t6:((2:Int)<c6)=False:=eq_false u6;by_cases u7:2<c7
  ·have t7:((2:Int)<c7)=True:=eq_true u7;simp only[go_sem,f1,ge_iff_le,gt_iff_lt,f2,q1,q2,q3,q4,q5,t4,t5,t6,t7];refine Ag (by kernel_rfl) ?_;simp only[go_sem];exact fin [] _ _
  have t7:((2:Int)<c7)=False:=eq_false u7;simp only[go_sem,f1,ge_iff_le,gt_iff_lt,f2,q1,q2,q3,q4,q5,t4,t5,t6,t7,Bg (show i<9223372036854775807 by omega)];exact Bi (ih (i+1,_,(IntKind.i64.wrap (c4+max x.size 1)),c5,c6,c7) (by simp only;omega) h') rfl
 by_cases h3:x.kind=3
 ·have q1:(x.kind==1)=false:=by simp[h3]
  have q2:(x.kind==2)=false:=by simp[h3]
  have q3:(x.kind==3)=true:=by simp[h3]
  have q4:(x.kind==4)=false:=by simp[h3]
  have q5:(x.kind==5)=false:=by simp[h3]
  by_cases u4:12<c4
  ·have t4:((12:Int)<c4)=True:=eq_true u4;simp only[go_sem,f1,ge_iff_le,gt_iff_lt,f2,q1,q2,q3,q4,q5,t4];refine Ag (by kernel_rfl) ?_;simp only[go_sem];exact fin [] _ _
  have t4:((12:Int)<c4)=False:=eq_false u4;by_cases u5:4<(IntKind.i64.wrap (c5+1))
  ·have t5:((4:Int)<(IntKind.i64.wrap (c5+1)))=True:=eq_true u5;simp only[go_sem,f1,ge_iff_le,gt_iff_lt,f2,q1,q2,q3,q4,q5,t4,t5];refine Ag (by kernel_rfl) ?_;simp only[go_sem];exact fin [] _ _
  have t5:((4:Int)<(IntKind.i64.wrap (c5+1)))=False:=eq_false u5;by_cases u6:2<c6
  ·have t6:((2:Int)<c6)=True:=eq_true u6;simp only[go_sem,f1,ge_iff_le,gt_iff_lt,f2,q1,q2,q3,q4,q5,t4,t5,t6];refine Ag (by kernel_rfl) ?_;simp only[go_sem];exact fin [] _ _
  have t6:((2:Int)<c6)=False:=eq_false u6;by_cases u7:2<c7
  ·have t7:((2:Int)<c7)=True:=eq_true u7;simp only[go_sem,f1,ge_iff_le,gt_iff_lt,f2,q1,q2,q3,q4,q5,t4,t5,t6,t7];refine Ag (by kernel_rfl) ?_;simp only[go_sem];exact fin [] _ _
  have t7:((2:Int)<c7)=False:=eq_false u7;simp only[go_sem,f1,ge_iff_le,gt_iff_lt,f2,q1,q2,q3,q4,q5,t4,t5,t6,t7,Bg (show i<9223372036854775807 by omega)];exact Bi (ih (i+1,_,c4,(IntKind.i64.wrap (c5+1)),c6,c7) (by simp only;omega) h') rfl
 by_cases h4:x.kind=4
 ·have q1:(x.kind==1)=false:=by simp[h4]
  have q2:(x.kind==2)=false:=by simp[h4]
  have q3:(x.kind==3)=false:=by simp[h4]
  have q4:(x.kind==4)=true:=by simp[h4]
  have q5:(x.kind==5)=false:=by simp[h4]
  by_cases u4:12<c4
  ·have t4:((12:Int)<c4)=True:=eq_true u4;simp only[go_sem,f1,ge_iff_le,gt_iff_lt,f2,q1,q2,q3,q4,q5,t4];refine Ag (by kernel_rfl) ?_;simp only[go_sem];exact fin [] _ _
  have t4:((12:Int)<c4)=False:=eq_false u4;by_cases u5:4<(IntKind.i64.wrap (c5+1))
  ·have t5:((4:Int)<(IntKind.i64.wrap (c5+1)))=True:=eq_true u5;simp only[go_sem,f1,ge_iff_le,gt_iff_lt,f2,q1,q2,q3,q4,q5,t4,t5];refine Ag (by kernel_rfl) ?_;simp only[go_sem];exact fin [] _ _
  have t5:((4:Int)<(IntKind.i64.wrap (c5+1)))=False:=eq_false u5;by_cases u6:2<c6
  ·have t6:((2:Int)<c6)=True:=eq_true u6;simp only[go_sem,f1,ge_iff_le,gt_iff_lt,f2,q1,q2,q3,q4,q5,t4,t5,t6];refine Ag (by kernel_rfl) ?_;simp only[go_sem];exact fin [] _ _
  have t6:((2:Int)<c6)=False:=eq_false u6;by_cases u7:2<c7
  ·have t7:((2:Int)<c7)=True:=eq_true u7;simp only[go_sem,f1,ge_iff_le,gt_iff_lt,f2,q1,q2,q3,q4,q5,t4,t5,t6,t7];refine Ag (by kernel_rfl) ?_;simp only[go_sem];exact fin [] _ _
  have t7:((2:Int)<c7)=False:=eq_false u7;simp only[go_sem,f1,ge_iff_le,gt_iff_lt,f2,q1,q2,q3,q4,q5,t4,t5,t6,t7,Bg (show i<9223372036854775807 by omega)];exact Bi (ih (i+1,_,c4,(IntKind.i64.wrap (c5+1)),c6,c7) (by simp only;omega) h') rfl
 by_cases h5:x.kind=5
 ·have q1:(x.kind==1)=false:=by simp[h5]
  have q2:(x.kind==2)=false:=by simp[h5]
  have q3:(x.kind==3)=false:=by simp[h5]
  have q4:(x.kind==4)=false:=by simp[h5]
  have q5:(x.kind==5)=true:=by simp[h5]
  by_cases u4:12<c4
  ·have t4:((12:Int)<c4)=True:=eq_true u4;simp only[go_sem,f1,ge_iff_le,gt_iff_lt,f2,q1,q2,q3,q4,q5,t4];refine Ag (by kernel_rfl) ?_;simp only[go_sem];exact fin [] _ _
  have t4:((12:Int)<c4)=False:=eq_false u4;by_cases u5:4<c5
  ·have t5:((4:Int)<c5)=True:=eq_true u5;simp only[go_sem,f1,ge_iff_le,gt_iff_lt,f2,q1,q2,q3,q4,q5,t4,t5];refine Ag (by kernel_rfl) ?_;simp only[go_sem];exact fin [] _ _
  have t5:((4:Int)<c5)=False:=eq_false u5;by_cases u6:2<(IntKind.i64.wrap (c6+1))
  ·have t6:((2:Int)<(IntKind.i64.wrap (c6+1)))=True:=eq_true u6;simp only[go_sem,f1,ge_iff_le,gt_iff_lt,f2,q1,q2,q3,q4,q5,t4,t5,t6];refine Ag (by kernel_rfl) ?_;simp only[go_sem];exact fin [] _ _
  have t6:((2:Int)<(IntKind.i64.wrap (c6+1)))=False:=eq_false u6;by_cases u7:2<c7
  ·have t7:((2:Int)<c7)=True:=eq_true u7;simp only[go_sem,f1,ge_iff_le,gt_iff_lt,f2,q1,q2,q3,q4,q5,t4,t5,t6,t7];refine Ag (by kernel_rfl) ?_;simp only[go_sem];exact fin [] _ _
  have t7:((2:Int)<c7)=False:=eq_false u7;simp only[go_sem,f1,ge_iff_le,gt_iff_lt,f2,q1,q2,q3,q4,q5,t4,t5,t6,t7,Bg (show i<9223372036854775807 by omega)];refine Ag (by kernel_rfl) ?_;simp only[go_sem,hcut];refine Bf ho (by simp only[go_sem]) ?_;by_cases g3:0<=Bk (fun d:Dp=>d.nm==x.on) (l.take i)
  ·have g4:=(Xt (fun d:Dp=>d.nm==x.on) (l.take i)).2;obtain⟨k,hk⟩:∃ k:Nat,Bk (fun d:Dp=>d.nm==x.on) (l.take i)=k:=⟨_,(Zu g3).symm⟩;rw[hk,F2]at g4;obtain⟨y,hy,-,-⟩:=Dd (l:=l) (i:=k) (by omega);have hyr:y.row=[.int .i64 y.kind,.int .i64 y.line,.str y.nm,.int .i64 y.size,.int .i64 y.init,.str y.on]:=rfl;have f3:((k:Int)<0)=False:=eq_false (by omega);rw[hk];cases q3b:(y.kind==3)
   ·simp only[go_sem,f3,Bb,hy,hyr,q3b,bne,Av];refine Ag (by kernel_rfl) ?_;simp only[go_sem];exact fin [] _ _
   ·simp only[go_sem,f3,Bb,hy,hyr,q3b,bne,Ap,Bg (show i<9223372036854775807 by omega)];exact Bi (ih (i+1,_,c4,c5,(IntKind.i64.wrap (c6+1)),c7) (by simp only;omega) h') rfl
  ·rw[Akk g3];simp only[go_sem,Int.reduceLT,Int.reduceNeg];refine Ag (by kernel_rfl) ?_;simp only[go_sem];exact fin [] _ _
 have q1:(x.kind==1)=false:=by simp[h1]
 have q2:(x.kind==2)=false:=by simp[h2]
 have q3:(x.kind==3)=false:=by simp[h3]
 have q4:(x.kind==4)=false:=by simp[h4]
 have q5:(x.kind==5)=false:=by simp[h5]
 by_cases u4:12<c4
 ·have t4:((12:Int)<c4)=True:=eq_true u4;simp only[go_sem,f1,ge_iff_le,gt_iff_lt,f2,q1,q2,q3,q4,q5,t4];refine Ag (by kernel_rfl) ?_;simp only[go_sem];exact fin [] _ _
 have t4:((12:Int)<c4)=False:=eq_false u4;by_cases u5:4<c5
 ·have t5:((4:Int)<c5)=True:=eq_true u5;simp only[go_sem,f1,ge_iff_le,gt_iff_lt,f2,q1,q2,q3,q4,q5,t4,t5];refine Ag (by kernel_rfl) ?_;simp only[go_sem];exact fin [] _ _
 have t5:((4:Int)<c5)=False:=eq_false u5;by_cases u6:2<c6
 ·have t6:((2:Int)<c6)=True:=eq_true u6;simp only[go_sem,f1,ge_iff_le,gt_iff_lt,f2,q1,q2,q3,q4,q5,t4,t5,t6];refine Ag (by kernel_rfl) ?_;simp only[go_sem];exact fin [] _ _
 have t6:((2:Int)<c6)=False:=eq_false u6;by_cases u7:2<(IntKind.i64.wrap (c7+1))
 ·have t7:((2:Int)<(IntKind.i64.wrap (c7+1)))=True:=eq_true u7;simp only[go_sem,f1,ge_iff_le,gt_iff_lt,f2,q1,q2,q3,q4,q5,t4,t5,t6,t7];refine Ag (by kernel_rfl) ?_;simp only[go_sem];exact fin [] _ _
 have t7:((2:Int)<(IntKind.i64.wrap (c7+1)))=False:=eq_false u7;simp only[go_sem,f1,ge_iff_le,gt_iff_lt,f2,q1,q2,q3,q4,q5,t4,t5,t6,t7,Bg (show i<9223372036854775807 by omega)];exact Bi (ih (i+1,_,c4,c5,c6,(IntKind.i64.wrap (c7+1))) (by simp only;omega) h') rfl
set_option maxHeartbeats 4000000 in
theorem Anc{p:Gp}(hp:LnG p):∃ v,Fn TT PT 95 [.agg p.row] v/\Sw v:=by
 obtain⟨dz,dt,decls,tz,tt,thrs⟩:=p;obtain⟨h1,h2,h3⟩:=hp;simp only at h1 h2 h3 ⊢;unfold Gp.row;simp only;have n1:(decls.map Dp.row).length=decls.length:=Bl ..;have n2:(thrs.map Tp.row).length=thrs.length:=Bl ..;refine K5 T95 rfl ?_;have fin:∀ (s:St) (e ln:Int),∃ v,some (V.tup [.int .i64 e,.int .i64 ln])=some v/\(Cc v=true/\v.refs=[]/\Dw [] v=some v)/\Sw v:=fun _ e ln=>⟨_,rfl,⟨rfl,rfl,rfl⟩,e,ln,rfl⟩
 simp only[go_sem];refine B9 (α:=Nat × St) (fun a=>thrs.length - a.1) (fun a=>[(1,.ptr 0 0 0),(4,.int .i64 (a.1:Int))]) (fun a=>a.2) (fun a=>a.1<=thrs.length/\a.2[0]?=some (.row [SL dz dt (decls.map Dp.row),SL tz tt (thrs.map Tp.row)] 27 0 0)) ?_ (0,_) ⟨A2 _,rfl⟩;rintro⟨i,s⟩ ⟨hi,hs⟩ ih;simp only at hi hs ih;refine Ca (by delta lp95_0;exact rfl) ?_;rcases Bx i thrs.length with h' | h'
 ·obtain⟨x,hx,-,-⟩:=Dd h';have hrow:x.row=[.str x.nm,.int .i64 x.line,SL x.lz x.lt (x.locals.map fun s=>[V.str s]),SL x.bz x.bt (x.body.map Sp.row)]:=rfl;obtain⟨s',hs'⟩:∃ s',s'=s++[Ob.row [.str x.nm,.int .i64 x.line,SL x.lz x.lt (x.locals.map fun s=>[V.str s]),SL x.bz x.bt (x.body.map Sp.row)] 91 0 0]:=⟨_,rfl⟩;have k1:s'[s.length]?=some (.row [.str x.nm,.int .i64 x.line,SL x.lz x.lt (x.locals.map fun s=>[V.str s]),SL x.bz x.bt (x.body.map Sp.row)] 91 0 0):=by rw[hs',Cf (Ah _),Ir];rfl
  have k0:s'[0]?=some (.row [SL dz dt (decls.map Dp.row),SL tz tt (thrs.map Tp.row)] 27 0 0):=by rw[hs'];exact Br hs
  have hd:=Rm dz dt decls x.nm (by omega);obtain⟨z2,t2,hcut⟩:=W0 tz tt 4 (thrs.map Tp.row) .i64 i (by omega);rw[<-Z7]at hcut;have ht:=Yc z2 t2 (thrs.take i) x.nm (by rw[F2];omega);simp only[go_sem,hs,n2,B7 h',Bb,hx,hrow];rw[<-hs'];refine Ag (by kernel_rfl) ?_;simp only[go_sem,k0,k1];refine Bf hd (by simp only[go_sem]) ?_;by_cases g1:0<=Bk (fun d:Dp=>d.nm==x.nm) decls
  ·have f1:(0<=Bk (fun d:Dp=>d.nm==x.nm) decls)=True:=eq_true g1;simp only[go_sem,f1,ge_iff_le];refine Ag (by kernel_rfl) ?_;simp only[go_sem,k1];exact fin [] _ _
  have f1:(0<=Bk (fun d:Dp=>d.nm==x.nm) decls)=False:=eq_false g1;simp only[go_sem,f1,ge_iff_le,k0,k1,hcut];refine Bf ht (by simp only[go_sem]) ?_;by_cases g2:0<=Bk (fun d:Tp=>d.nm==x.nm) (thrs.take i)
  ·have f2:(0<=Bk (fun d:Tp=>d.nm==x.nm) (thrs.take i))=True:=eq_true g2;simp only[go_sem,f2,ge_iff_le];refine Ag (by kernel_rfl) ?_;simp only[go_sem,k1];exact fin [] _ _
  have f2:(0<=Bk (fun d:Tp=>d.nm==x.nm) (thrs.take i))=False:=eq_false g2;simp only[go_sem,f2,ge_iff_le,Bg (show i<9223372036854775807 by omega)];exact Bi (ih (i+1,s') (by simp only;omega) ⟨h',k0⟩) rfl
 simp only[go_sem,hs,n2,Cr h'];clear ih;refine B9 (α:=Nat × St) (fun a=>thrs.length - a.1) (fun a=>[(1,.ptr 0 0 0),(6,.int .i64 (a.1:Int))]) (fun a=>a.2) (fun a=>a.1<=thrs.length/\a.2[0]?=some (.row [SL dz dt (decls.map Dp.row),SL tz tt (thrs.map Tp.row)] 27 0 0)) ?_ (0,s) ⟨A2 _,hs⟩;clear hs hi h' i s;rintro⟨i,s⟩ ⟨hi,hs⟩ ih;simp only at hi hs ih;refine Ca (by delta lp95_2;exact rfl) ?_;rcases Bx i thrs.length with h' | h';rotate_left
 ·simp only[go_sem,hs,n2,Cr h'];exact fin [] _ _
 obtain⟨x,hx,-,hm⟩:=Dd h';have hloc:=h3 x hm;have n3:(x.locals.map fun s=>[V.str s]).length=x.locals.length:=Bl ..;have hrow:x.row=[.str x.nm,.int .i64 x.line,SL x.lz x.lt (x.locals.map fun s=>[V.str s]),SL x.bz x.bt (x.body.map Sp.row)]:=rfl;obtain⟨s',hs'⟩:∃ s',s'=s++[Ob.row [.str x.nm,.int .i64 x.line,SL x.lz x.lt (x.locals.map fun s=>[V.str s]),SL x.bz x.bt (x.body.map Sp.row)] 91 0 0]:=⟨_,rfl⟩;have k1:s'[s.length]?=some (.row [.str x.nm,.int .i64 x.line,SL x.lz x.lt (x.locals.map fun s=>[V.str s]),SL x.bz x.bt (x.body.map Sp.row)] 91 0 0):=by rw[hs',Cf (Ah _),Ir];rfl
 have k0:s'[0]?=some (.row [SL dz dt (decls.map Dp.row),SL tz tt (thrs.map Tp.row)] 27 0 0):=by rw[hs'];exact Br hs
 by_cases g4:4<x.locals.length
 ·have f4:((4:Int)<(x.locals.length:Int))=True:=eq_true (by omega);simp only[go_sem,hs,n2,B7 h',Bb,hx,hrow];rw[<-hs'];simp only[go_sem,k1,n3,gt_iff_lt,f4];refine Ag (by kernel_rfl) ?_;simp only[go_sem,k1];exact fin [] _ _
 have f4:((4:Int)<(x.locals.length:Int))=False:=eq_false (by omega);simp only[go_sem,hs,n2,B7 h',Bb,hx,hrow];rw[<-hs'];simp only[go_sem,k1,n3,gt_iff_lt,f4];refine B9 (α:=Nat) (fun k=>x.locals.length - k) (fun k=>[(1,.ptr 0 0 0),(6,.int .i64 (i:Int)),(7,.ptr s.length 0 0),(8,.int .i64 (k:Int))]) (fun _=>s') (fun k=>k<=x.locals.length) ?_ 0 (A2 _);rintro k hk jh;refine Ca (by delta lp95_1;exact rfl) ?_;rcases Bx k x.locals.length with g' | g';rotate_left
 ·simp only[go_sem,k1,n3,Cr g',Bg (show i<9223372036854775807 by omega)];exact Bi (ih (i+1,s') (by simp only;omega) ⟨h',k0⟩) rfl
 obtain⟨y,hy,-,-⟩:=Dd g';have hd:=Rm dz dt decls y (by omega);have ht:=Yc tz tt thrs y (by omega);obtain⟨z2,t2,hcut⟩:=W0 x.lz x.lt 1 (x.locals.map fun s=>[V.str s]) .i64 k (by omega);rw[<-Z7]at hcut;have ha:=Rl z2 t2 (x.locals.take k) y (by rw[F2];omega);simp only[go_sem,k1,k0,n3,B7 g',Bb,hy];refine Ad hd (by simp only[go_sem]) ?_;by_cases g1:0<=Bk (fun d:Dp=>d.nm==y) decls
 ·have f1:(0<=Bk (fun d:Dp=>d.nm==y) decls)=True:=eq_true g1;simp only[go_sem,f1,ge_iff_le];refine Ag (by kernel_rfl) ?_;simp only[go_sem,k1];exact fin [] _ _
 have f1:(0<=Bk (fun d:Dp=>d.nm==y) decls)=False:=eq_false g1;simp only[go_sem,f1,ge_iff_le,k0,k1];refine Ad ht (by simp only[go_sem]) ?_;by_cases g2:0<=Bk (fun d:Tp=>d.nm==y) thrs
 ·have f2:(0<=Bk (fun d:Tp=>d.nm==y) thrs)=True:=eq_true g2;simp only[go_sem,f2,ge_iff_le];refine Ag (by kernel_rfl) ?_;simp only[go_sem,k1];exact fin [] _ _
 have f2:(0<=Bk (fun d:Tp=>d.nm==y) thrs)=False:=eq_false g2;simp only[go_sem,f2,ge_iff_le,k1,hcut];refine Ad ha (by simp only[go_sem]) ?_;by_cases g3:0<=Bk (·==y) (x.locals.take k)
 ·have f3:(0<=Bk (·==y) (x.locals.take k))=True:=eq_true g3;simp only[go_sem,f3,ge_iff_le];refine Ag (by kernel_rfl) ?_;simp only[go_sem,k1];exact fin [] _ _
 have f3:(0<=Bk (·==y) (x.locals.take k))=False:=eq_false g3;simp only[go_sem,f3,ge_iff_le,Bg (show k<9223372036854775807 by omega)];exact Bi (jh (k+1) (by omega) g') rfl
