/- Walks: which programs are shaped: programs. -/
import Derived.Test.YtcoeikinocflnaaGreatDoorMh
set_option linter.all false
namespace Go.Proofs.YtcoeikinocflnaaGreatDoor.KM
open Go
set_option maxHeartbeats 1000000 in
theorem Ax9(p:Gp)(hb:Ct p.row<=1000000000):Fn TT PT 93 [.agg p.row] (.bool (Zn p)):=by
 obtain⟨dz,dt,decls,tz,tt,thrs⟩:=p;rw[Add]at hb;simp only at hb;have b1:=Ib (f:=Dp.row) (fun x=>by rw[A1o];omega) decls;have b2:=Ib (f:=Tp.row) (fun x=>by rw[Vb];omega) thrs;have n1:(decls.map Dp.row).length=decls.length:=Bl ..;have n2:(thrs.map Tp.row).length=thrs.length:=Bl ..;obtain⟨R,hR⟩:∃ b,b=Zn ⟨dz,dt,decls,tz,tt,thrs⟩:=⟨_,rfl⟩;rw[<-hR];unfold Zn at hR;simp only at hR;unfold Gp.row;simp only;refine Bn T93 rfl ?_;simp only[go_sem];refine B9 (α:=Nat) (fun i=>decls.length - i) (fun i=>[(1,.ptr 0 0 0),(3,.int .i64 (i:Int))]) (fun _=>[.row [SL dz dt (decls.map Dp.row),SL tz tt (thrs.map Tp.row)] 27 0 0]) (fun i=>i<=decls.length/\decls.all P8=(decls.drop i).all P8) ?_ 0 ⟨A2 _,rfl⟩;rintro i ⟨hi,hc⟩ ih;refine Ca (by delta lp93_0;exact rfl) ?_;rcases Bx i decls.length with h' | h'
 ·obtain⟨x,hx,hd,hm⟩:=Dd h';rw[hd,Au]at hc;have hf:=Ax3 x;have hrow:x.row=[.int .i64 x.kind,.int .i64 x.line,.str x.nm,.int .i64 x.size,.int .i64 x.init,.str x.on]:=rfl;rw[hrow]at hf;cases hx1:P8 x
  ·rw[hx1]at hf hc;obtain rfl:R=false:=by rw[hR,hc];rfl
   simp only[go_sem,n1,B7 h',Bb,hx,hrow];refine Ad hf (by simp only[go_sem]) ?_;simp only[go_sem,Av];exact An rfl rfl
  ·rw[hx1]at hf hc;simp only[go_sem,n1,B7 h',Bb,hx,hrow];refine Ad hf (by simp only[go_sem]) ?_;simp only[go_sem,Ap,Bg (show i<9223372036854775807 by omega)];exact Bi (ih (i+1) (by omega) ⟨h',by simpa using hc⟩) rfl
 ·rw[Fk h']at hc;rw[hc]at hR;clear ih hc hi;simp only[go_sem,n1,Cr h'];refine B9 (α:=Nat × St) (fun a=>thrs.length - a.1) (fun a=>[(1,.ptr 0 0 0),(4,.int .i64 (a.1:Int))]) (fun a=>a.2) (fun a=>a.1<=thrs.length/\a.2[0]?=some (.row [SL dz dt (decls.map Dp.row),SL tz tt (thrs.map Tp.row)] 27 0 0)/\thrs.all Vq=(thrs.drop a.1).all Vq) ?_ (0,_) ⟨A2 _,rfl,rfl⟩;rintro⟨i,s⟩ ⟨hi,hs,hc⟩ ih;simp only at hi hc hs ih;refine Ca (by delta lp93_2;exact rfl) ?_;rcases Bx i thrs.length with h' | h'
  ·obtain⟨x,hx,hd,hm⟩:=Dd h';rw[hd,Au]at hc;have hbt:=Hf (f:=Tp.row) hm;obtain⟨nm,line,lz,lt,locals,bz,bt,body⟩:=x;rw[Vb]at hbt;simp only at hbt;have b3:=Ib (f:=fun s=>[V.str s]) (fun x=>by simp only[Ct,V.bulk];omega) locals;have b4:=Ib (f:=Sp.row) (fun x=>by rw[Ju];omega) body;have n3:(locals.map fun s=>[V.str s]).length=locals.length:=Bl ..;have hRf:Vq ⟨nm,line,lz,lt,locals,bz,bt,body⟩=false->R=false:=fun h=>by rw[hR,hc,h];rfl
   have hsh:Vq ⟨nm,line,lz,lt,locals,bz,bt,body⟩=(locals.all Bv&&(Bv nm&&H5 body)):=rfl;have hrow:Tp.row ⟨nm,line,lz,lt,locals,bz,bt,body⟩=[.str nm,.int .i64 line,SL lz lt (locals.map fun x=>[V.str x]),SL bz bt (body.map Sp.row)]:=rfl;obtain⟨s',hs'⟩:∃ s',s'=s++[Ob.row [.str nm,.int .i64 line,SL lz lt (locals.map fun x=>[V.str x]),SL bz bt (body.map Sp.row)] 91 0 0]:=⟨_,rfl⟩;have k1:s'[s.length]?=some (.row [.str nm,.int .i64 line,SL lz lt (locals.map fun x=>[V.str x]),SL bz bt (body.map Sp.row)] 91 0 0):=by rw[hs',Cf (Ah _),Ir];rfl
   have k0:s'[0]?=some (.row [SL dz dt (decls.map Dp.row),SL tz tt (thrs.map Tp.row)] 27 0 0):=by rw[hs'];exact Br hs
   simp only[go_sem,hs,n2,B7 h',Bb,hx,hrow];rw[<-hs'];refine B9 (α:=Nat) (fun k=>locals.length - k) (fun k=>[(1,.ptr 0 0 0),(4,.int .i64 (i:Int)),(5,.ptr s.length 0 0),(6,.int .i64 (k:Int))]) (fun _=>s') (fun k=>k<=locals.length/\locals.all Bv=(locals.drop k).all Bv) ?_ 0 ⟨A2 _,rfl⟩;rintro k ⟨hk,hl⟩ jh;refine Ca (by delta lp93_1;exact rfl) ?_;rcases Bx k locals.length with g' | g'
   ·obtain⟨y,hy,hyd,hym⟩:=Dd g';rw[hyd,Au]at hl;have hf:=O9 y;cases hy1:Bv y
    ·rw[hy1]at hf hl;obtain rfl:=hRf (by rw[hsh,hl];rfl);simp only[go_sem,k1,n3,B7 g',Bb,hy];refine Ad hf (by simp only[go_sem]) ?_;simp only[go_sem,Av];exact An rfl rfl
    ·rw[hy1]at hf hl;simp only[go_sem,k1,n3,B7 g',Bb,hy];refine Ad hf (by simp only[go_sem]) ?_;simp only[go_sem,Ap,Bg (show k<9223372036854775807 by omega)];exact Bi (jh (k+1) (by omega) ⟨g',by simpa using hl⟩) rfl
   ·rw[Fk g']at hl;clear jh;have hf1:=O9 nm;have hf2:=Aaz bz bt body (by omega) fun y hy=>Ack 1000000000 y (by have:=Hf (f:=Sp.row) hy;omega) (Ah _)
    cases hn1:Bv nm
    ·rw[hn1]at hf1;obtain rfl:=hRf (by rw[hsh,hn1];simp);simp only[go_sem,k1,n3,Cr g'];refine Ad hf1 (by simp only[go_sem]) ?_;simp only[go_sem,Av];exact An rfl rfl
    ·rw[hn1]at hf1;cases hb1:H5 body
     ·rw[hb1]at hf2;obtain rfl:=hRf (by rw[hsh,hb1];simp);simp only[go_sem,k1,n3,Cr g'];refine Ad hf1 (by simp only[go_sem]) ?_;simp only[go_sem,Ap,k1];refine Ad hf2 (by simp only[go_sem]) ?_;simp only[go_sem,Av];exact An rfl rfl
     ·rw[hb1]at hf2;simp only[go_sem,k1,n3,Cr g'];refine Ad hf1 (by simp only[go_sem]) ?_;simp only[go_sem,Ap,k1];refine Ad hf2 (by simp only[go_sem]) ?_;simp only[go_sem,Ap,Bg (show i<9223372036854775807 by omega)];refine Bi (ih (i+1,s') (by simp;omega) ⟨by simp;omega,k0,?_⟩) rfl;simp only;rw[hc,hsh,hl,hn1,hb1];simp
  ·rw[Fk h']at hc;rw[hc]at hR;by_cases hn:thrs.length=0
   ·obtain rfl:R=false:=by
     rw[hR,V0.1 hn];rfl
    have f1:((0:Int)<(thrs.length:Int))=False:=eq_false (by omega);simp only[go_sem,hs,n2,Cr h',gt_iff_lt,f1];exact An rfl rfl
   ·obtain rfl:R=true:=by
     rw[hR]
     cases thrs with
     | nil=>exact absurd rfl hn
     | cons a l=>rfl
    have f1:((0:Int)<(thrs.length:Int))=True:=eq_true (by omega);simp only[go_sem,hs,n2,Cr h',gt_iff_lt,f1];exact An rfl rfl
