/- Walks: the keys of programs, both sides. -/
import Derived.Test.YtcoeikinocflnaaGreatDoorUc
set_option linter.all false
namespace Go.Proofs.YtcoeikinocflnaaGreatDoor.KM
open Go
/-! maps -/
def fk(s:List UInt8):List (List UInt8 × V)->Option V
 | []=>none
 | (k,v)::r=>if k==s then some v else fk s r
theorem Aju(s:List UInt8):∀ (kvs:List (List UInt8 × V)) (i:Nat),(Fv s kvs i).map Prod.snd=fk s kvs
 | [],_=>rfl
 | (k,v)::r,i=>by
  rw[Fv,fk]
  split
  ·rfl
  ·exact Aju s r (i+1)
theorem Aih(s:List UInt8)(v:V):∀ (kvs:List (List UInt8 × V)) (i j:Nat) (w:V),Fv s kvs i=some (j,w)->i<=j/\∀ s',fk s' (kvs.set (j - i) (s,v))=if s'=s then some v else fk s' kvs
 | [],_,_,_,h=>by cases h
 | (k,x)::r,i,j,w,h=>by
  rw[Fv]at h
  split at h
  ·rename_i hk;cases h;refine⟨Ah _,fun s'=>?_⟩;have hk:=eq_of_beq hk;rw[Ir,List.set_cons_zero,fk,fk,hk];by_cases e:s'=s
   ·rw[if_pos e,if_pos (by simp[e])]
   ·have e2:(s==s')=false:=by simp;exact fun h=>e h.symm
    rw[e2];simp[e]
  ·rename_i hk;obtain⟨h1,h2⟩:=Aih s v r (i+1) j w h;refine⟨by omega,fun s'=>?_⟩;obtain⟨m,hm⟩:∃ m,j - i=m+1:=⟨j - i - 1,by omega⟩;rw[hm,Zv,fk,fk,show m=j - (i+1) by omega,h2 s'];by_cases e:s'=s
   ·subst e;have:(k==s')=false:=by simpa using hk
    rw[this];simp
   ·simp[e]
theorem Agr(s:List UInt8)(v:V):∀ (kvs:List (List UInt8 × V)) (i:Nat),Fv s kvs i=none->∀ s',fk s' (kvs++[(s,v)])=if s'=s then some v else fk s' kvs
 | [],_,_,s'=>by
  rw[Es,fk,fk,fk];by_cases e:s'=s
  ·rw[if_pos e,if_pos (by simp[e])]
  ·have e2:(s==s')=false:=by simp;exact fun h=>e h.symm
   rw[e2];simp[e]
 | (k,x)::r,i,h,s'=>by
  rw[Fv]at h
  split at h
  ·cases h
  ·rename_i hk;rw[Ox,fk,fk,Agr s v r (i+1) h s'];by_cases e:s'=s
   ·subst e;have:(k==s')=false:=by simpa using hk
    rw[this];simp
   ·simp[e]
def Vx(kvs:List (List UInt8 × V))(X:List (List UInt8)):Prop:=∀ s,fk s kvs=if X.count s=0 then none else some (.int .i64 (X.count s:Int))
theorem Ay1:Vx [] []:=fun _=>rfl
theorem Ajv{kvs kvs':List (List UInt8 × V)}{X:List (List UInt8)}{s:List UInt8}(h:Vx kvs X)(hs:∀ s',fk s' kvs'=if s'=s then some (.int .i64 ((X.count s+1:Nat):Int)) else fk s' kvs):Vx kvs' (X++[s]):=fun s'=>by
 rw[hs s',List.count_append];by_cases e:s'=s
 ·subst e;simp
 ·have:[s].count s'=0:=List.count_eq_zero.2 fun hm=>e (Ey.1 hm)
  rw[if_neg e,this,Lj];exact h s'
theorem Ay2{kvs:List (List UInt8 × V)}{X:List (List UInt8)}(h:Vx kvs X)(s:List UInt8):(Fv s kvs 0=none/\X.count s=0)\/∃ j,Fv s kvs 0=some (j,.int .i64 (X.count s:Int)):=by
 have h1:=Aju s kvs 0;rw[h s]at h1
 cases hf:Fv s kvs 0 with
 | none=>
  rw[hf]at h1;left;refine⟨rfl,?_⟩;by_cases e:X.count s=0
  ·exact e
  ·rw[if_neg e]at h1;cases h1
 | some p=>
  rw[hf]at h1;by_cases e:X.count s=0
  ·rw[if_pos e]at h1;cases h1
  ·rw[if_neg e]at h1;obtain⟨j,w⟩:=p;cases h1;exact .inr ⟨j,rfl⟩
/-! keys -/
theorem Ags(nm:List UInt8):∀ (X P:List (List UInt8)) (k:Nat) (x:List UInt8),X[k]?=some x->(E0 nm P X)[k]?=some (Gm nm x ((P++X.take k).count x))
 | [],_,_,_,h=>by simp at h
 | y::X,P,0,x,h=>by
  simp at h;subst h;simp[E0]
 | y::X,P,k+1,x,h=>by
  rw[E0,Sx,Ags nm X (P++[y]) k x (by simpa using h)];simp
theorem Aft{nm:List UInt8}{X:List (List UInt8)}{k:Nat}{x:List UInt8}(h:X[k]?=some x):(E0 nm [] X).take k++[Gm nm x ((X.take k).count x)]=(E0 nm [] X).take (k+1):=by
 have:=Ags nm X [] k x h;rw[Es]at this;rw[Ql,this];rfl
theorem Uq{L:List Tp}(h:∀ t∈L,Sp.szs t.body<=10000):(L.map fun t=>Sp.szs t.body).sum<=L.length*10000:=by
 induction L with
 | nil=>simp
 | cons a l ih=>
  have h1:=h a (by simp);have h2:=ih fun t ht=>h t (by simp[ht])
  rw[Ba,List.sum_cons,Am,D9];omega
def K9(L:List Tp):List (List V):=(L.map fun t=>E0 t.nm [] (Sp.hdss t.body)).flatten
theorem Afu{L:List Tp}{i:Nat}{x:Tp}(h:L[i]?=some x):K9 (L.take (i+1))=K9 (L.take i)++E0 x.nm [] (Sp.hdss x.body):=by
 unfold K9;rw[Ql,h];simp
set_option maxHeartbeats 4000000 in
theorem Arz{p:Gp}(h:PX p):Fn TT PT 20 [.agg p.row] (SL true 0 (Jx p)):=by
 obtain⟨zL,hL⟩:=Agp h;have hps:=Py p;have hpr:=Px p;have hfew:=h.few;have hsum:=Uq h.sz;have hll:(p.thrs.map C8).length=p.thrs.length:=Bl ..;rw[hpr]at hL hps ⊢;refine Bn T20 rfl ?_;simp only[go_sem];refine Ad hL (by simp only[go_sem]) ?_;simp only[go_sem,hll];refine B9 (α:=Nat × St × V) (fun a=>p.thrs.length - a.1) (fun a=>[(1,.ptr 0 0 0),(3,a.2.2),(12,SL zL 0 (p.thrs.map C8)),(13,.int .i64 (p.thrs.length:Int)),(14,.int .i64 (a.1:Int))]) (fun a=>a.2.1) (fun a=>a.1<=p.thrs.length/\GW a.2.1 3 39 1 a.2.2 (K9 (p.thrs.take a.1))/\a.2.1[0]?=some (.row [SL p.dz p.dt (p.decls.map Dp.row),SL p.tz p.tt (p.thrs.map Tp.row)] 27 0 0)) ?_ (0,_,.nils) ⟨A2 _,F4,rfl⟩;rintro⟨i,s,u⟩ ⟨hi,hg,hs⟩ ih;simp only at hi hg hs ih;refine Ca (by delta lp20_2;exact rfl) ?_;rcases Bx i p.thrs.length with h' | h';rotate_left
 ·have hi2:i=p.thrs.length:=by omega
  subst hi2;rw[Dc]at hg;simp only[go_sem,Cr h'];exact Ac9 hg (by omega) (fun r hr=>(Rh _ r hr).1) (fun r hr=>(Rh _ r hr).2)
 obtain⟨x,hx,hd,hm⟩:=Dd h';have hrow:=Vg x;have hxsz:=h.sz x hm;have hlr:C8 x=[SL true 0 ((Sp.hdss x.body).map fun x=>[V.str x])]:=rfl;have hXl:((Sp.hdss x.body).map fun x=>[V.str x]).length=(Sp.hdss x.body).length:=Bl ..;have hXs:=Iy x.body;have htk:=Afu hx
 have hcnt:(K9 (p.thrs.take i)).length<=100000000*10000:=by
  have h1:=Aa5 (p.thrs.take i);have h2:=Uq (L:=p.thrs.take i) fun t ht=>h.sz t (Qi ht)
  have h3:(p.thrs.take i).length*10000<=100000000*10000:=Eo _ (by rw[F2];omega);unfold K9;omega
 generalize hX:Sp.hdss x.body=X at *;simp only[go_sem,B7 h',Bb,hx,hlr,hX,hXl];refine B9 (α:=Nat × St × V) (fun a=>X.length - a.1) (fun a=>[(1,.ptr 0 0 0),(3,a.2.2),(4,.int .i64 (i:Int)),(5,SL true 0 (X.map fun x=>[V.str x])),(12,SL zL 0 (p.thrs.map C8)),(13,.int .i64 (p.thrs.length:Int)),(14,.int .i64 (i:Int)),(19,SL true 0 (X.map fun x=>[V.str x])),(20,.int .i64 (X.length:Int)),(21,.int .i64 (a.1:Int))]) (fun a=>a.2.1) (fun a=>a.1<=X.length/\GW a.2.1 3 39 1 a.2.2 (K9 (p.thrs.take i)++(E0 x.nm [] X).take a.1)/\a.2.1[0]?=some (.row [SL p.dz p.dt (p.decls.map Dp.row),SL p.tz p.tt (p.thrs.map Tp.row)] 27 0 0)) ?_ (0,s,u) ⟨A2 _,by simpa using hg,hs⟩;clear hg hs u s;rintro⟨k,s,u⟩ ⟨hk,hg,hs⟩ jh;simp only at hk hg hs jh;refine Ca (by delta lp20_1;exact rfl) ?_;rcases Bx k X.length with h3 | h3;rotate_left
 ·rw[show(E0 x.nm [] X).take k=E0 x.nm [] X from Jf (by rw[Q1];omega),<-htk]at hg;simp only[go_sem,Cr h3,Bg (show i<9223372036854775807 by omega)];exact Bi (ih (i+1,s,u) (by simp only;omega) ⟨h',hg,hs⟩) rfl
 obtain⟨y,hy,-,-⟩:=Dd h3;obtain⟨z2,t2,hcut⟩:=W0 true 0 1 (X.map fun x=>[V.str x]) .i64 k (by rw[Bl];omega);rw[<-Z7]at hcut;have hkl:((X.take k).map fun x=>[V.str x]).length=k:=by rw[Bl,F2];omega
 simp only[go_sem,B7 h3,Bb,hy,hcut,hkl];refine B9 (α:=Nat) (fun j=>k - j) (fun j=>[(1,.ptr 0 0 0),(3,u),(4,.int .i64 (i:Int)),(5,SL true 0 (X.map fun x=>[V.str x])),(7,.str y),(8,.int .i64 (((X.take j).count y:Nat):Int)),(12,SL zL 0 (p.thrs.map C8)),(13,.int .i64 (p.thrs.length:Int)),(14,.int .i64 (i:Int)),(19,SL true 0 (X.map fun x=>[V.str x])),(20,.int .i64 (X.length:Int)),(21,.int .i64 (k:Int)),(28,SL z2 t2 ((X.take k).map fun x=>[V.str x])),(29,.int .i64 (k:Int)),(30,.int .i64 (j:Int))]) (fun _=>s) (fun j=>j<=k) ?_ 0 (A2 _);rintro j hj kh;have hcj:(X.take j).count y<=k:=Cj List.count_le_length (by rw[F2];omega);refine Ca (by delta lp20_0;exact rfl) ?_;rcases Bx j k with h4 | h4
 ·obtain⟨w,hw⟩:∃ w,X[j]?=some w:=⟨_,A0 (by omega)⟩;have hwt:(X.take k)[j]?=some w:=by rw[Ep,if_pos h4];exact hw
  have hcs:(X.take (j+1)).count y=(X.take j).count y+(if w=y then 1 else 0):=by
   rw[Ql,hw,List.count_append]
   by_cases e:w=y<;>simp[e]
  by_cases e:w=y
  ·have f1:(w==y)=true:=by simp[e]
   rw[if_pos e]at hcs;have w1:IntKind.i64.wrap ((((X.take j).count y:Nat):Int)+1)=(((X.take (j+1)).count y:Nat):Int):=by rw[Ef (by omega),hcs];rfl
   simp only[go_sem,B7 h4,Bb,hwt,f1,w1,Bg (show j<9223372036854775807 by omega)];exact Bi (kh (j+1) (by omega) h4) rfl
  ·have f1:(w==y)=false:=by simp[e]
   rw[if_neg e]at hcs;have hcs2:(X.take j).count y=(X.take (j+1)).count y:=by omega
   rw[hcs2];simp only[go_sem,B7 h4,Bb,hwt,f1,Bg (show j<9223372036854775807 by omega)];exact Bi (kh (j+1) (by omega) h4) rfl
 obtain rfl:j=k:=by omega
 have hkt:=Aft (nm:=x.nm) hy
 obtain⟨u',s',ha,g',l',kp,rf,-⟩:=Un (bytes:=40) (y:=.lst 1 [Gm x.nm y ((X.take j).count y)]) (ys:=[Gm x.nm y ((X.take j).count y)]) hg (by have:=(Ar.1 hs).1;omega) rfl (by omega) (fun r hr=>by
  rcases Cq.1 hr with hr | hr
  ·exact(Rh _ r hr).1
  ·exact(X4 _ _ _ r (Qi hr)).1) (by simp[Gm]) (by simp[Gm,V.rowB]) (by rw[Ao,F2,Q1];simp only[Hr];omega)
 rw[E4,hkt]at g';have hs':=(kp 0 (Ar.1 hs).1 fun e=>by have:=(Et hg 0 e).1;omega).trans hs;have hcell:=D2 g';unfold Gm at ha;simp only[go_sem,Cr h4,hs,Bb,hx,hrow,ha,Bg (show j<9223372036854775807 by omega)];exact Bi (jh (j+1,s',u') (by simp only;omega) ⟨h3,g',hs'⟩) rfl
set_option maxHeartbeats 4000000 in
theorem Ar0{p:Gp}(h:PX p):Fn TT PT 56 [.agg p.row] (SL true 0 (Jx p)):=by
 have hL:=Agq h;have hps:=Py p;have hpr:=Px p;have hfew:=h.few;have hsum:=Uq h.sz;have hll:(p.thrs.map C8).length=p.thrs.length:=Bl ..;rw[hpr]at hL hps ⊢;refine Bn T56 rfl ?_;simp only[go_sem];refine Ad hL (by simp only[go_sem]) ?_;simp only[go_sem,hll];refine B9 (α:=Nat × St × V) (fun a=>p.thrs.length - a.1) (fun a=>[(1,.ptr 0 0 0),(3,a.2.2),(10,.lst 0 (p.thrs.map C8)),(11,.int .i64 (p.thrs.length:Int)),(12,.int .i64 (a.1:Int))]) (fun a=>a.2.1) (fun a=>a.1<=p.thrs.length/\GW a.2.1 3 39 1 a.2.2 (K9 (p.thrs.take a.1))/\a.2.1[0]?=some (.row [SL p.dz p.dt (p.decls.map Dp.row),SL p.tz p.tt (p.thrs.map Tp.row)] 27 0 0)) ?_ (0,_,.nils) ⟨A2 _,F4,rfl⟩;rintro⟨i,s,u⟩ ⟨hi,hg,hs⟩ ih;simp only at hi hg hs ih;refine Ca (by delta lp56_1;exact rfl) ?_;rcases Bx i p.thrs.length with h' | h';rotate_left
 ·have hi2:i=p.thrs.length:=by omega
  subst hi2;rw[Dc]at hg;simp only[go_sem,Cr h'];exact Ac9 hg (by omega) (fun r hr=>(Rh _ r hr).1) (fun r hr=>(Rh _ r hr).2)
 obtain⟨x,hx,hd,hm⟩:=Dd h';have hrow:=Vg x;have hxsz:=h.sz x hm;have hlr:C8 x=[SL true 0 ((Sp.hdss x.body).map fun x=>[V.str x])]:=rfl;have hXl:((Sp.hdss x.body).map fun x=>[V.str x]).length=(Sp.hdss x.body).length:=Bl ..;have hXs:=Iy x.body;have htk:=Afu hx
 have hcnt:(K9 (p.thrs.take i)).length<=100000000*10000:=by
  have h1:=Aa5 (p.thrs.take i);have h2:=Uq (L:=p.thrs.take i) fun t ht=>h.sz t (Qi ht)
  have h3:(p.thrs.take i).length*10000<=100000000*10000:=Eo _ (by rw[F2];omega);unfold K9;omega
 generalize hX:Sp.hdss x.body=X at *;have hs0:0<s.length:=(Ar.1 hs).1;have hul:∀ j∈u.refs,1<=j/\j<s.length:=Et hg;simp only[go_sem,B7 h',Bb,hx,hlr,hX,hXl];have hm0:(s++([.map []]:St))[s.length]?=some (.map []):=by simp
 refine B9 (α:=Nat × St × V × List (List UInt8 × V)) (fun a=>X.length - a.1) (fun a=>[(1,.ptr 0 0 0),(3,a.2.2.1),(4,.int .i64 (i:Int)),(6,.mp s.length),(10,.lst 0 (p.thrs.map C8)),(11,.int .i64 (p.thrs.length:Int)),(12,.int .i64 (i:Int)),(18,SL true 0 (X.map fun x=>[V.str x])),(19,.int .i64 (X.length:Int)),(20,.int .i64 (a.1:Int))]) (fun a=>a.2.1) (fun a=>a.1<=X.length/\(GW a.2.1 3 39 1 a.2.2.1 (K9 (p.thrs.take i)++(E0 x.nm [] X).take a.1)/\s.length ∉ a.2.2.1.refs)/\a.2.1[0]?=some (.row [SL p.dz p.dt (p.decls.map Dp.row),SL p.tz p.tt (p.thrs.map Tp.row)] 27 0 0)/\a.2.1[s.length]?=some (.map a.2.2.2)/\Vx a.2.2.2 (X.take a.1)) ?_ (0,s++([.map []]:St),u,[]) ⟨A2 _,⟨by simpa using Pd hg,fun e=>by have:=(hul _ e).2;omega⟩,Br hs,hm0,by simpa using Ay1⟩;generalize hn:s.length=n at *;clear hg hs hul hm0 u hn s;rintro⟨k,s,u,kvs⟩ ⟨hk,⟨hg,hnu⟩,hs,hmap,hkv⟩ jh;simp only at hk hg hnu hs hmap hkv jh;refine Ca (by delta lp56_0;exact rfl) ?_;rcases Bx k X.length with h3 | h3;rotate_left
 ·rw[show(E0 x.nm [] X).take k=E0 x.nm [] X from Jf (by rw[Q1];omega),<-htk]at hg;simp only[go_sem,Cr h3,Bg (show i<9223372036854775807 by omega)];exact Bi (ih (i+1,s,u) (by simp only;omega) ⟨h',hg,hs⟩) rfl
 obtain⟨y,hy,-,-⟩:=Dd h3;have hkt:=Aft (nm:=x.nm) hy;have hl0:=(Ar.1 hs).1;have hln:=(Ar.1 hmap).1;have hck:(X.take k).count y<=k:=Cj List.count_le_length (by rw[F2];omega)
 obtain⟨u',s',ha,g',l',kp,rf,-⟩:=Un (bytes:=40) (y:=.lst 1 [Gm x.nm y ((X.take k).count y)]) (ys:=[Gm x.nm y ((X.take k).count y)]) hg (by omega) rfl (by omega) (fun r hr=>by
  rcases Cq.1 hr with hr | hr
  ·exact(Rh _ r hr).1
  ·exact(X4 _ _ _ r (Qi hr)).1) (by simp[Gm]) (by simp[Gm,V.rowB]) (by rw[Ao,F2,Q1];simp only[Hr];omega)
 rw[E4,hkt]at g';have hs':=(kp 0 hl0 fun e=>by have:=(Et hg 0 e).1;omega).trans hs;have hmap':=(kp n hln hnu).trans hmap;have hcell:=D2 g'
 have hnu':n ∉ u'.refs:=fun e=>by
  rcases rf n e with h8 | h8
  ·exact hnu h8
  ·omega
 have hn0:n≠0:=fun e=>by rw[e,hs]at hmap;cases hmap
 have w1:IntKind.i64.wrap ((((X.take k).count y:Nat):Int)+1)=(((X.take k).count y+1:Nat):Int):=by rw[Ef (by omega)];rfl
 have fb:∀ n:Int,(V.int .i64 n).flatB=true:=fun _=>rfl
 have htk2:X.take k++[y]=X.take (k+1):=by rw[Ql,hy];rfl
 unfold Gm at ha;rcases Ay2 hkv y with⟨hf,h0⟩ | ⟨j,hf⟩
 ·have hkv':=Ajv (s:=y) hkv (Agr y (.int .i64 (((X.take k).count y+1:Nat):Int)) kvs 0 hf);rw[htk2]at hkv';rw[h0]at ha w1 hkv';rw[Int.natCast_zero]at ha w1;simp only[go_sem,B7 h3,Bb,hy];refine Ag (by kernel_rfl) ?_;simp only[go_sem,hs,hmap,hf,Bb,hx,hrow];simp only[go_sem,ha];refine Ay ?_;simp only[go_sem,hmap',hf,w1,fb,Bg (show k<9223372036854775807 by omega)];exact Bi (jh (k+1,s'.set n (.map (kvs++[(y,.int .i64 1)])),u',kvs++[(y,.int .i64 1)]) (by simp only;omega) ⟨h3,⟨Mx g' fun q hq=>Bc fun(e:n=q)=>hnu' (by rw[e];exact hq),hnu'⟩,by rw[Bc hn0];exact hs',B8 (by omega),hkv'⟩) rfl
 ·have hkv':=Ajv (s:=y) hkv (by have:=(Aih y (.int .i64 (((X.take k).count y+1:Nat):Int)) kvs 0 j _ hf).2;rw[Aac]at this;exact this);rw[htk2]at hkv';simp only[go_sem,B7 h3,Bb,hy];refine Ag (by kernel_rfl) ?_;simp only[go_sem,hs,hmap,hf,Bb,hx,hrow];simp only[go_sem,ha];refine Ay ?_;simp only[go_sem,hmap',hf,w1,fb,Bg (show k<9223372036854775807 by omega)];exact Bi (jh (k+1,s'.set n (.map (kvs.set j (y,.int .i64 (((X.take k).count y+1:Nat):Int)))),u',kvs.set j (y,.int .i64 (((X.take k).count y+1:Nat):Int))) (by simp only;omega) ⟨h3,⟨Mx g' fun q hq=>Bc fun(e:n=q)=>hnu' (by rw[e];exact hq),hnu'⟩,by rw[Bc hn0];exact hs',B8 (by omega),hkv'⟩) rfl
