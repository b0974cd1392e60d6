/- Walks: the law of the keys of programs of source texts. -/
import Derived.Test.YtcoeikinocflnaaGreatDoorUd
import Derived.Test.YtcoeikinocflnaaGreatDoorIo
import Derived.Test.YtcoeikinocflnaaGreatDoorLu
import Derived.Test.YtcoeikinocflnaaGreatDoorPa
set_option linter.all false
namespace Go.Proofs.YtcoeikinocflnaaGreatDoor.KM
open Go
theorem Afv(nm:List UInt8):∀ (X P:List (List UInt8)),∀ r∈E0 nm P X,∃ nm ln n,r=Gm nm ln n
 | [],_,r,hr=>by cases hr
 | x::X,P,r,hr=>by
  rw[E0]at hr;rcases Be.1 hr with rfl | hr
  ·exact⟨_,_,_,rfl⟩
  ·exact Afv nm X _ r hr
theorem Afw{p:Gp}:∀ r∈Jx p,∃ nm ln n,r=Gm nm ln n:=fun r hr=>by
 obtain⟨l,hl,hr⟩:=Wc.1 hr;obtain⟨t,-,rfl⟩:=D6.1 hl;exact Afv _ _ _ r hr
def Zh:List V:=[.str [],.str [],.int .i64 0]
def Aef(p:Gp)(i:Int):V:=if 0<=i/\i<(Jx p).length then .tup [.agg ((Jx p).getD i.toNat Zh),.bool true] else .tup [.agg Zh,.bool false]
set_option maxHeartbeats 1000000 in
theorem Ay3{p:Gp}(h:PX p)(i:Int):Fn TT PT 21 [.agg p.row,.int .i64 i] (Aef p i):=by
 have hk:=Ar0 h;have hps:=Py p;have hpr:=Px p;rw[hpr]at hk hps ⊢;refine Bn T21 rfl ?_;unfold Aef;by_cases h0:i<0
 ·rw[if_neg (by omega)];have f1:(i<0)=True:=eq_true h0;simp only[go_sem];refine Ad hk (by simp only[go_sem]) ?_;simp only[go_sem,f1];exact Ie rfl
 have f1:(i<0)=False:=eq_false h0;by_cases h1:(Jx p).length<=i
 ·rw[if_neg (by omega)];have f2:(((Jx p).length:Int)<=i)=True:=eq_true h1;simp only[go_sem];refine Ad hk (by simp only[go_sem]) ?_;simp only[go_sem,f1,f2,ge_iff_le];exact Ie rfl
 have f2:(((Jx p).length:Int)<=i)=False:=eq_false h1;obtain⟨k,rfl⟩:∃ k:Nat,i=k:=⟨i.toNat,by omega⟩;rw[if_pos (by omega),Mf];obtain⟨r,hr⟩:∃ r,(Jx p)[k]?=some r:=⟨_,A0 (by omega)⟩;obtain⟨nm,ln,n,rfl⟩:=Afw r (Gq hr);have hg:(Jx p).getD k Zh=Gm nm ln n:=by rw[Aq,hr];rfl
 rw[hg];unfold Gm at hr ⊢;simp only[go_sem];refine Ad hk (by simp only[go_sem]) ?_;simp only[go_sem,f1,f2,ge_iff_le,hr];exact Ie rfl
theorem Abk(nm ln:List UInt8)(n:Int):Vh [2,2,1] (.agg [.str nm,.str ln,.int .i64 n]) (.agg [.str nm,.str ln,.int .i64 n])=some true:=by
 simp[Vh,Ii,Zi]
set_option maxHeartbeats 1000000 in
theorem Ar1(L:List Tp)(hL:L.length<=100000000)(hs:∀ t∈L,Sp.szs t.body<=10000)(z1 z2:Bool)(t1 t2:Nat):Fn TT PT 22 [SL z1 t1 (L.map C8),SL z2 t2 (L.map C8)] (.bool true):=by
 have hll:(L.map C8).length=L.length:=Bl ..;refine Bn T22 rfl ?_;simp only[go_sem,hll,bne_self_eq_false];refine B9 (α:=Nat) (fun i=>L.length - i) (fun i=>[(0,SL z1 t1 (L.map C8)),(1,SL z2 t2 (L.map C8)),(13,.int .i64 (L.length:Int)),(14,.int .i64 (i:Int))]) (fun _=>[]) (fun i=>i<=L.length) ?_ 0 (A2 _);intro i hi ih;refine Ca (by delta lp22_1;exact rfl) ?_;rcases Bx i L.length with h' | h';rotate_left
 ·simp only[go_sem,Cr h'];exact An rfl rfl
 obtain⟨x,hx,hd,hm⟩:=Dd h';have hxs:=hs x hm;have hXs:=Iy x.body;have hlr:C8 x=[SL true 0 ((Sp.hdss x.body).map fun x=>[V.str x])]:=rfl;have hXl:((Sp.hdss x.body).map fun x=>[V.str x]).length=(Sp.hdss x.body).length:=Bl ..;generalize Sp.hdss x.body=X at *;simp only[go_sem,B7 h'];refine Ag (by kernel_rfl) ?_;simp only[go_sem,Bb,hx,hlr,hXl];have bz:(((X.length:Int)) != (X.length:Int))=false:=bne_self_eq_false _;simp only[go_sem,bz,Bb,hx,hlr,hXl];refine B9 (α:=Nat) (fun k=>X.length - k) (fun k=>[(0,SL z1 t1 (L.map C8)),(1,SL z2 t2 (L.map C8)),(5,.int .i64 (i:Int)),(13,.int .i64 (L.length:Int)),(14,.int .i64 (i:Int)),(32,.int .i64 (X.length:Int)),(33,.int .i64 (k:Int))]) (fun _=>[]) (fun k=>k<=X.length) ?_ 0 (A2 _);intro k hk jh;refine Ca (by delta lp22_0;exact rfl) ?_;rcases Bx k X.length with h3 | h3
 ·obtain⟨y,hy,-,-⟩:=Dd h3;simp only[go_sem,B7 h3];refine Ag (by kernel_rfl) ?_;simp only[go_sem,Bb,hx,hlr,hy];simp only[go_sem,beq_self_eq_true,Ap,Bg (show k<9223372036854775807 by omega)];exact Bi (jh (k+1) (by omega) h3) rfl
 ·simp only[go_sem,Cr h3,Bg (show i<9223372036854775807 by omega)];exact Bi (ih (i+1) (by omega) h') rfl
theorem Ar2{s:List UInt8}{g:Gp}(h:Rk s=some g):PX g:=by
 obtain⟨a,b,c⟩:=Ane h;exact A1z a b fun t ht=>by have:=c t ht;omega
set_option maxHeartbeats 4000000 in
theorem Am1(z:Bool)(t:Nat)(l:List UInt8)(at' how c:Nat)(site:Int)(hat:at'<65536)(hc:c<256)(hl:l.length<=9223372036854775807):Fn TT PT 3 [SL z t (Bz l),.int .u16 at',.int .u16 how,.int .u8 c,.int .i64 site] (.bool true):=by
 refine Bn T3 rfl ?_;obtain⟨p,q1,ok⟩:=Arm z t l hl;have hlen:=ok.len;have q2:=Aql (Axz ok.sh) (by omega);have hpr:=Px p;have hps:=Py p;rw[hpr]at q1 q2 hps;obtain⟨sp,q3,hsp⟩:=Aoq (Js p) at' how c (by omega) hat hc;obtain⟨v,q4,hv⟩:=Arr sp;simp only[go_sem];refine Ad q1 (by simp only[go_sem]) ?_;simp only[go_sem];refine Ad q2 (by simp only[go_sem]) ?_;simp only[go_sem];refine Ad q3 (by simp only[go_sem]) ?_;simp only[go_sem];unfold PaR at hv
 cases hpa:Rk sp with
 | none=>
  rw[hpa]at hv;obtain⟨e,ln,he,rfl⟩:=hv;have ne:(e != 0)=true:=by simp[he]
  refine Ad q4 (by simp only[go_sem]) ?_;simp only[go_sem,ne];refine Ad Aif (by simp only[go_sem]) ?_;simp only[go_sem];exact An rfl rfl
 | some g=>
  rw[hpa]at hv;simp only at hv;subst hv;have px:=Ar2 hpa;have hgr:=Px g;have hgs:=Py g;have q5:=Arz px;obtain⟨zr,q6⟩:=Agp px;have q7:=Agq px;have q8:=Ar1 g.thrs px.few px.sz false zr 0 0;have qk:=Ay3 px;have hkl:=Aa5 g.thrs;have hsum:=Uq px.sz;have hfew:=px.few
  have hKl:(Jx g).length<=100000000*10000:=by
   have h3:g.thrs.length*10000<=100000000*10000:=Eo _ hfew;show((g.thrs.map fun t=>E0 t.nm [] (Sp.hdss t.body)).flatten).length<=_;omega
  have hKf:=Afw (p:=g);rw[hgr]at q4 hgs q5 q6 q7 qk;obtain⟨hy1,hy2⟩:(SL g.dz g.dt (g.decls.map Dp.row)).cellB=true/\(SL g.tz g.tt (g.thrs.map Tp.row)).cellB=true:=⟨Abr ..,Abr ..⟩;unfold Aef at qk;generalize hK:Jx g=K at *;have w1:IntKind.i64.wrap ((K.length:Int)+1)=((K.length+1:Nat):Int):=by rw[Ef (by omega)];rfl
  have f0:(((K.length+1:Nat):Int)=0)=False:=eq_false (by omega);refine Ad q4 (by simp only[go_sem]) ?_;simp only[go_sem,hy1,hy2,bne_self_eq_false];refine Ad q5 (by simp only[go_sem]) ?_;simp only[go_sem,w1,f0,not_false_eq_true];generalize site.tmod ((K.length+1:Nat):Int)=r2;refine B9 (α:=Nat × St) (fun a=>2 - a.1) (fun a=>[(11,.ptr 0 0 0),(14,SL true 0 K),(43,.lst 1 [[.int .i64 site],[.int .i64 r2]]),(44,.int .i64 2),(45,.int .i64 (a.1:Int))]) (fun a=>a.2) (fun a=>a.1<=2/\a.2[0]?=some (.row [SL g.dz g.dt (g.decls.map Dp.row),SL g.tz g.tt (g.thrs.map Tp.row)] 27 0 0)) ?_ (0,_) ⟨A2 _,rfl⟩;rintro⟨i,s⟩ ⟨hi,hs⟩ ih;simp only at hi hs ih;refine Ca (by delta lp3_0;exact rfl) ?_;rcases Bx i 2 with h' | h';rotate_left
  ·obtain rfl:i=2:=by omega
   simp only[go_sem,Cp,Int.reduceLT];refine Ag (by kernel_rfl) ?_;simp only[go_sem,hs];refine Bf q7 (by simp only[go_sem]) ?_;simp only[go_sem,hs];refine Bf q6 (by simp only[go_sem]) ?_;simp only[go_sem];refine Bf q8 (by simp only[go_sem]) ?_;simp only[go_sem];refine Bf Aif (by simp only[go_sem]) ?_;simp only[go_sem];exact An rfl rfl
  obtain⟨iv,hiv⟩:∃ iv:Int,([[V.int .i64 site],[V.int .i64 r2]]:List (List V))[i]?=some [.int .i64 iv]:=by
   rcases(show i=0\/i=1 by omega) with rfl | rfl
   ·exact⟨site,rfl⟩
   ·exact⟨r2,rfl⟩
  have f2:((i:Int)<2)=True:=eq_true (by omega);have qkv:=qk iv;have hn:(s++([]:St)).length=s.length:=by simp
  by_cases hin:0<=iv/\iv<K.length
  ·rw[if_pos hin]at qkv;obtain⟨k,rfl⟩:∃ k:Nat,iv=k:=⟨iv.toNat,by omega⟩;obtain⟨r,hr⟩:∃ r,K[k]?=some r:=⟨_,A0 (by omega)⟩;obtain⟨nm,ln,n,rfl⟩:=hKf r (Gq hr);rw[Mf,Aq,hr]at qkv;simp only[Wa]at qkv;unfold Gm at qkv hr;have g1:(0<=(k:Int))=True:=eq_true (by omega);have g2:((k:Int)<(K.length:Int))=True:=eq_true (by omega);obtain⟨s',e'⟩:∃ s':St,s'=s++[.row [.str nm,.str ln,.int .i64 (n:Int)] 39 0 0]:=⟨_,rfl⟩;have k17:s'[s.length]?=some (.row [.str nm,.str ln,.int .i64 (n:Int)] 39 0 0):=by rw[e'];simp
   have hs':s'[0]?=some (.row [SL g.dz g.dt (g.decls.map Dp.row),SL g.tz g.tt (g.thrs.map Tp.row)] 27 0 0):=by rw[e'];exact Br hs
   simp only[go_sem,f2,hiv,hs];refine Ad qkv (by simp only[go_sem]) ?_;simp only[go_sem,ge_iff_le,g1,g2];rw[<-e'];have b1:(!(true==true))=false:=rfl;refine Ag (by kernel_rfl) ?_;simp only[go_sem,k17,hr,Ap,beq_self_eq_true,Av,bne_self_eq_false,Abk];simp only[go_sem,Bg (show i<9223372036854775807 by omega)];exact Bi (ih (i+1,s') (by simp only;omega) ⟨h',hs'⟩) rfl
  ·rw[if_neg hin]at qkv;unfold Zh at qkv;simp only[go_sem,f2,hiv,hs];refine Ad qkv (by simp only[go_sem]) ?_;obtain⟨s',e'⟩:∃ s':St,s'=s++[.row [.str [],.str [],.int .i64 0] 39 0 0]:=⟨_,rfl⟩;have k17:s'[s.length]?=some (.row [.str [],.str [],.int .i64 0] 39 0 0):=by rw[e'];simp
   have hs':s'[0]?=some (.row [SL g.dz g.dt (g.decls.map Dp.row),SL g.tz g.tt (g.thrs.map Tp.row)] 27 0 0):=by rw[e'];exact Br hs
   have hc2:¬ 0<=iv\/(0<=iv/\¬ iv<(K.length:Int)):=by omega
   rcases hc2 with g1 | ⟨g1,g2⟩
   ·have g1:(0<=iv)=False:=eq_false g1;simp only[go_sem,ge_iff_le,g1];rw[<-e'];refine Ag (by kernel_rfl) ?_;simp only[go_sem,k17,Ap,beq_self_eq_true,Av,bne_self_eq_false,Abk];simp only[go_sem,Bg (show i<9223372036854775807 by omega)];exact Bi (ih (i+1,s') (by simp only;omega) ⟨h',hs'⟩) rfl
   ·have g1:(0<=iv)=True:=eq_true g1;have g2:(iv<(K.length:Int))=False:=eq_false g2;simp only[go_sem,ge_iff_le,g1,g2];rw[<-e'];refine Ag (by kernel_rfl) ?_;simp only[go_sem,k17,Ap,beq_self_eq_true,Av,bne_self_eq_false,Abk];simp only[go_sem,Bg (show i<9223372036854775807 by omega)];exact Bi (ih (i+1,s') (by simp only;omega) ⟨h',hs'⟩) rfl
