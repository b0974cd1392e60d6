/- Walks: lists of sites compared, programs of assignments; the laws of lines and of length. -/
import Derived.Test.YtcoeikinocflnaaGreatDoorVc
import Derived.Test.YtcoeikinocflnaaGreatDoorUa
import Derived.Test.YtcoeikinocflnaaGreatDoorLv
set_option linter.all false
namespace Go.Proofs.YtcoeikinocflnaaGreatDoor.KM
open Go
theorem Jl{s:List UInt8}{g:Gp}(h:M8 s=some g):PY g:=by
 obtain⟨a,b,c⟩:=Ama h
 exact⟨A1f a b fun t ht=>by have:=c t ht;omega,c⟩
set_option maxHeartbeats 1000000 in
theorem Aji(z1 z2:Bool)(t1 t2:Nat)(l:List Int)(hl:l.length<=1000000000000000):Fn TT PT 26 [SL z1 t1 (C3 l),SL z2 t2 (C3 l)] (.bool true):=by
 refine Ch T26 rfl ?_
 have hll:=Qq l
 simp only[go_sem,hll,bne_self_eq_false]
 refine Cr (α:=Nat) (fun i=>l.length - i) (fun i=>[(0,SL z1 t1 (C3 l)),(1,SL z2 t2 (C3 l)),(12,.int .i64 (l.length:Int)),(13,.int .i64 (i:Int))]) (fun _=>[]) (fun i=>i<=l.length) ?_ 0 (A5 _)
 intro i hi ih
 refine Ct (by delta lp26_0;exact rfl) ?_
 rcases B3 i l.length with h' | h'
 ·obtain⟨x,hx,-,-⟩:=Eu h'
  have hxr:(C3 l)[i]?=some [.int .i64 x]:=by unfold C3;rw[A7,hx];rfl
  simp only[go_sem,Cb h']
  refine Ax (by kernel_rfl) ?_
  simp only[go_sem,hxr,bne_self_eq_false]
  simp only[go_sem,Bq (show i<9223372036854775807 by omega)]
  exact Bd (ih (i+1) (by omega) h') rfl
 ·simp only[go_sem,D5 h']
  exact B0 rfl rfl
def E1(l:List UInt8):List Nat:=(l.take 20).map fun c=>c.toNat % 4
theorem Rc(l:List UInt8):∀ d∈E1 l,d<=9:=fun d hd=>by
 obtain⟨c,-,rfl⟩:=Dc.1 hd
 omega
theorem O0(l:List UInt8):(E1 l).length<=20:=by
 unfold E1
 rw[Bg,Gm]
 omega
theorem A2r(c:UInt8):([[V.str [48]],[V.str [49]],[V.str [50]],[V.str [51]]]:List (List V))[c.toNat % 4]?=some [.str (Cz ((c.toNat % 4:Nat):Int))]:=by
 have:c.toNat % 4=0\/c.toNat % 4=1\/c.toNat % 4=2\/c.toNat % 4=3:=by omega
 rcases this with h | h | h | h<;>rw[h]<;>rfl
set_option maxHeartbeats 2000000 in
theorem Qr(z:Bool)(t:Nat)(l:List UInt8)(hl:l.length<=9223372036854775807):Fn TT PT 31 [SL z t (A4 l)] (.str (Fq (E1 l))):=by
 refine Ch T31 rfl ?_
 have hll:(A4 l).length=l.length:=by unfold A4;rw[Bg]
 have hD:∀ k,((((l.take 20).take k).map fun c=>c.toNat % 4).map Ff).flatten.length<=140:=fun k=>by
  rw[Aar fun d hd=>by obtain⟨c,-,rfl⟩:=Dc.1 hd;omega]
  rw[Bg,Gm,Gm]
  omega
 simp only[go_sem,hll]
 refine Cr (α:=Nat) (fun i=>l.length - i) (fun i=>[(3,.str (K6++((((l.take 20).take i).map fun c=>c.toNat % 4).map Ff).flatten)),(6,SL z t (A4 l)),(7,.int .i64 (l.length:Int)),(8,.int .i64 (i:Int))]) (fun _=>[]) (fun i=>i<=l.length) ?_ 0 (A5 _)
 intro i hi ih
 refine Ct (by delta lp31_0;exact rfl) ?_
 rcases B3 i l.length with h' | h'
 rotate_left
 ·have hi2:(l.take 20).take i=l.take 20:=Of (by rw[Gm];omega)
  rw[hi2]
  have hD2:=hD i
  rw[hi2]at hD2
  have hfin:K6++(((l.take 20).map fun c=>c.toNat % 4).map Ff).flatten++[125]=Fq (E1 l):=by
   unfold Fq E1
   rw[Bz]
  have a1:Ao .add (K6++(((l.take 20).map fun c=>c.toNat % 4).map Ff).flatten) [125]=some (.str (Fq (E1 l))):=As (by simp only[Aj,K6,Af,Cf];omega) hfin
  simp only[go_sem,D5 h',↓a1]
  exact B0 rfl rfl
 obtain⟨c,hc,-,-⟩:=Eu h'
 have hcr:(A4 l)[i]?=some [.int .u8 (c.toNat:Int)]:=by unfold A4;rw[A7,hc];rfl
 have i1:IntKind.i64.wrap ((i:Int)+1)=((i+1:Nat):Int):=Bq (by omega)
 by_cases h20:i<20
 ·have f1:((i:Int)<20)=True:=eq_true (by omega)
  have f2:((c.toNat:Int)).tmod 4=((c.toNat % 4:Nat):Int):=by rw[Int.tmod_eq_emod_of_nonneg (by omega)];rfl
  have hdg:=A2r c
  have htk:((((l.take 20).take (i+1)).map fun c=>c.toNat % 4).map Ff).flatten=((((l.take 20).take i).map fun c=>c.toNat % 4).map Ff).flatten++Ff (c.toNat % 4):=by
   have hc2:(l.take 20)[i]?=some c:=by rw[D9,if_pos h20];exact hc
   rw[Ok,hc2]
   simp
  have l1:=hD i
  have l2:=Aky (d:=c.toNat % 4) (by omega)
  have hB:Ff (c.toNat % 4)=[120,32,61,32]++(Cz ((c.toNat % 4:Nat):Int)++[59,32]):=rfl
  generalize Cz ((c.toNat % 4:Nat):Int)=dg at hdg l2 hB
  have hih:=ih (i+1) (by omega) h'
  simp only[htk]at hih
  have a1:Ao .add [120,32,61,32] dg=some (.str (120::32::61::32::dg)):=As (by simp only[Af,Cf];omega) rfl
  have a2:Ao .add (120::32::61::32::dg) [59,32]=some (.str (Ff (c.toNat % 4))):=As (by simp only[Af,Cf];omega) (by rw[hB];rfl)
  have hBl:(Ff (c.toNat % 4)).length=7:=by rw[hB];simp;omega
  generalize((((l.take 20).take i).map fun c=>c.toNat % 4).map Ff).flatten=F at *
  generalize Ff (c.toNat % 4)=B at *
  have a3:Ao .add (K6++F) B=some (.str (K6++(F++B))):=As (by simp only[Aj,K6,Af,Cf];omega) (Bz ..)
  simp only[go_sem,Cb h',hcr,f1,f2,hdg,i1,↓a1,↓a2,↓a3]
  exact Bd hih rfl
 ·have f1:((i:Int)<20)=False:=eq_false (by omega)
  have htk:(l.take 20).take (i+1)=(l.take 20).take i:=by rw[Vt,Vt,Nat.min_eq_right (by omega),Nat.min_eq_right (by omega)]
  simp only[go_sem,Cb h',hcr,f1,i1]
  have:=ih (i+1) (by omega) h'
  simp only[htk]at this
  exact Bd this rfl
set_option maxHeartbeats 2000000 in
theorem Ae2{p q:Gp}(hp:PY p)(hq:PY q):Fn TT PT 32 [.agg p.row,.agg q.row] (.int .i64 (((H2 p q).filter fun n=>decide (0<=n)).length:Int)):=by
 have hm:=Aab hp hq
 have hml:(H2 p q).length<=1000000000000:=by rw[Ae1];have h1:(Fe (Gc p)).length=(Uz p).length:=S1 p.thrs;have:=Q2 hp.px;omega
 have hps:=Nu p
 have hqs:=Nu q
 have hpr:=G7 p
 have hqr:=G7 q
 rw[hpr]at hm hps ⊢
 rw[hqr]at hm hqs ⊢
 generalize H2 p q=L at *
 have hLl:=Qq L
 refine Ch T32 rfl ?_
 simp only[go_sem]
 refine An hm (by simp only[go_sem]) ?_
 simp only[go_sem,hLl]
 refine Cr (α:=Nat) (fun i=>L.length - i) (fun i=>[(5,.int .i64 (((L.take i).filter fun n=>decide (0<=n)).length:Int)),(10,SL true 0 (C3 L)),(11,.int .i64 (L.length:Int)),(12,.int .i64 (i:Int))]) (fun _=>[.row [SL p.dz p.dt (p.decls.map Dp.row),SL p.tz p.tt (p.thrs.map Tp.row)] 27 0 0,.row [SL q.dz q.dt (q.decls.map Dp.row),SL q.tz q.tt (q.thrs.map Tp.row)] 27 0 0]) (fun i=>i<=L.length) ?_ 0 (A5 _)
 intro i hi ih
 refine Ct (by delta lp32_0;exact rfl) ?_
 rcases B3 i L.length with h' | h'
 rotate_left
 ·obtain rfl:i=L.length:=by omega
  rw[C6]
  simp only[go_sem,D5 h']
  exact B0 rfl rfl
 obtain⟨v,hv,-,-⟩:=Eu h'
 have hvr:(C3 L)[i]?=some [.int .i64 v]:=by unfold C3;rw[A7,hv];rfl
 have i1:IntKind.i64.wrap ((i:Int)+1)=((i+1:Nat):Int):=Bq (by omega)
 have hih:=ih (i+1) (by omega) h'
 have hfl:((L.take i).filter fun n=>decide (0<=n)).length<=i:=Eo (List.length_filter_le _ _) (by rw[Gm];omega)
 rw[Ok,hv,Yw,List.filter_append,Aj]at hih
 generalize((L.take i).filter fun n=>decide (0<=n)).length=n at *
 by_cases h0:0<=v
 ·have f1:decide (0<=v)=true:=by simp[h0]
  have n1:IntKind.i64.wrap ((n:Int)+1)=((n+1:Nat):Int):=Bq (by omega)
  rw[Y1,f1,if_pos rfl]at hih
  simp only[go_sem,Cb h',hvr,f1,n1,i1]
  exact Bd hih rfl
 ·have f1:decide (0<=v)=false:=by simp[h0]
  rw[Y1,f1,if_neg (by simp)]at hih
  simp only[go_sem,Cb h',hvr,f1,i1]
  exact Bd hih rfl
theorem A1g:([118,97,114,32,120,59,32,116,104,114,101,97,100,32,109,97,105,110,40,41,32,123,32,120,32,61,32,49,59,32,120,32,61,32,50,59,32,125]:List UInt8)=Fq [1,2]:=by rfl
theorem A1h:([118,97,114,32,120,59,32,116,104,114,101,97,100,32,109,97,105,110,40,41,32,123,32,120,32,61,32,51,59,32,120,32,61,32,49,59,32,120,32,61,32,50,59,32,125]:List UInt8)=Fq [3,1,2]:=by rfl
theorem Af8{l m:List Nat}{p q:Gp}(hp:L8 (H9 l) p=true)(hq:L8 (H9 m) q=true):H2 p q=Ey [(Ma,l.map fun d=>Bn (Da d))] [(Ma,m.map fun d=>Bn (Da d))]:=by
 obtain⟨t,h1,h2,h3⟩:=Afy hp
 obtain⟨u,g1,g2,g3⟩:=Afy hq
 unfold H2 Gc
 rw[h1,g1]
 simp only[A1,Cy,h2,h3,g2,g3]
theorem M5{s:List UInt8}{g:Gp}{v:V}(h:M8 s=some g)(hv:Yq s v):v=.tup [.agg g.row,.int .i64 0,.int .i64 0]:=by
 unfold Yq at hv
 rw[h]at hv
 exact hv
theorem Au8{a b c:List UInt8}(h1:a≠c)(h2:b≠c)(h3:a≠b):Bx 0 [a,b] [c,a,b]=[1,2]:=by
 have l1:Bm [b] [b]=1:=by simp[G0,Hr]
 have l2:Bm [a,b] [c,a,b]=2:=by simp[G0,Hr,Ij,h1,h2,h3]
 have e1:Iq a [b] [c,a,b]=some 1:=by simp[Iq,N3,List.range_succ,List.range_zero,l1,l2,h1.symm]
 have e2:Iq b [] [b]=some 0:=Aq0 b []
 rw[Bx,e1]
 simp only[Vl,Mm]
 rw[Bx,e2]
 simp[Bx]
theorem A1i:Bn (Da 1)=[120,32,61,32,49,59]:=by kernel_rfl
theorem A1j:Bn (Da 2)=[120,32,61,32,50,59]:=by kernel_rfl
theorem A1k:Bn (Da 3)=[120,32,61,32,51,59]:=by kernel_rfl
theorem A1l:Ey [(Ma,([1,2]:List Nat).map fun d=>Bn (Da d))] [(Ma,([3,1,2]:List Nat).map fun d=>Bn (Da d))]=[1,2]:=by
 simp only[A1,Cy,A1i,A1j,A1k]
 rw[Zg,show Ey ([]:List (List UInt8 × List (List UInt8))) [(Ma,[[120,32,61,32,51,59],[120,32,61,32,49,59],[120,32,61,32,50,59]])]=[] from rfl,Cx]
 unfold Hu Ga
 rw[G6,if_pos rfl]
 simp only[P3]
 rw[Au8 (by decide) (by decide) (by decide)]
 rfl
set_option maxHeartbeats 2000000 in
theorem Ae3:Fn TT PT 29 [] (.bool true):=by
 obtain⟨p,hp,sp⟩:=Mr (l:=[1,2]) (by decide) (by decide)
 obtain⟨q,hq,sq⟩:=Mr (l:=[3,1,2]) (by decide) (by decide)
 obtain⟨v,q1,hv⟩:=Mx (Fq [1,2])
 obtain⟨w,q2,hw⟩:=Mx (Fq [3,1,2])
 rw[M5 hp hv]at q1
 rw[M5 hq hw]at q2
 rw[<-A1g]at q1
 rw[<-A1h]at q2
 have hm:=Aab (Jl hp) (Jl hq)
 rw[Af8 sp sq,A1l]at hm
 have hs:=Aji true false 0 1 [1,2] (by decide)
 rw[show SL false 1 (C3 [1,2])=.lst 1 [[.int .i64 1],[.int .i64 2]] from rfl]at hs
 have hpr:=G7 p
 have hqr:=G7 q
 rw[hpr]at q1 hm
 rw[hqr]at q2 hm
 refine Ch T29 rfl ?_
 simp only[go_sem]
 refine An q1 (by simp only[go_sem]) ?_
 simp only[go_sem]
 refine An q2 (by simp only[go_sem]) ?_
 simp only[go_sem,beq_self_eq_true]
 refine An hm (by simp only[go_sem]) ?_
 simp only[go_sem]
 refine An hs (by simp only[go_sem]) ?_
 simp only[go_sem]
 exact B0 rfl rfl
set_option maxHeartbeats 2000000 in
theorem Al1(z1 z2:Bool)(t1 t2:Nat)(l m:List UInt8)(hl:l.length<=9223372036854775807)(hm:m.length<=9223372036854775807):Fn TT PT 6 [SL z1 t1 (A4 l),SL z2 t2 (A4 m)] (.bool true):=by
 have c1:=Qr z1 t1 l hl
 have c2:=Qr z2 t2 m hm
 obtain⟨p,hp,sp⟩:=Mr (Rc l) (O0 l)
 obtain⟨q,hq,sq⟩:=Mr (Rc m) (O0 m)
 obtain⟨v,q1,hv⟩:=Mx (Fq (E1 l))
 obtain⟨w,q2,hw⟩:=Mx (Fq (E1 m))
 rw[M5 hp hv]at q1
 rw[M5 hq hw]at q2
 have g1:=Aab (Jl hp) (Jl hq)
 have g2:=Aoy (Jl hp) (Jl hq)
 have hml:(H2 p q).length<=1000000000000:=by rw[Ae1];have h1:(Fe (Gc p)).length=(Uz p).length:=S1 p.thrs;have:=Q2 (Jl hp).px;omega
 have g3:=Aji true true 0 0 (H2 p q) (by omega)
 have hpr:=G7 p
 have hqr:=G7 q
 rw[hpr]at q1 g1 g2
 rw[hqr]at q2 g1 g2
 refine Ch T6 rfl ?_
 simp only[go_sem]
 refine An c1 (by simp only[go_sem]) ?_
 simp only[go_sem]
 refine An q1 (by simp only[go_sem]) ?_
 simp only[go_sem]
 refine An c2 (by simp only[go_sem]) ?_
 simp only[go_sem]
 refine An q2 (by simp only[go_sem]) ?_
 simp only[go_sem,bne_self_eq_false]
 refine Ax (by kernel_rfl) ?_
 simp only[go_sem]
 refine Cm g1 (by simp only[go_sem]) ?_
 simp only[go_sem]
 refine Cm g2 (by simp only[go_sem]) ?_
 simp only[go_sem]
 refine Cm g3 (by simp only[go_sem]) ?_
 simp only[go_sem]
 refine Cm Ae3 (by simp only[go_sem]) ?_
 simp only[go_sem]
 exact B0 rfl rfl
theorem Ajj(l:List UInt8):E1 (l.take 19++[3])=E1 (l.take 19)++[3]:=by
 unfold E1
 rw[Of (by rw[Aj,Gm,Mi];omega),Vt,Nat.min_eq_right (by omega),Hj]
 rfl
theorem Af9{l m:List Nat}{p q:Gp}(hp:L8 (H9 l) p=true)(hq:L8 (H9 m) q=true):((H2 p q).filter fun n=>decide (0<=n)).length=Bm (l.map fun d=>Bn (Da d)) (m.map fun d=>Bn (Da d)):=by
 rw[Af8 hp hq,Amx]
theorem Aeh(l:List UInt8)(k:Nat):(A4 l).take k=A4 (l.take k):=by unfold A4;rw[List.map_take]
theorem Wa(l:List UInt8):∀ r∈A4 l,r.length=1:=fun r hr=>by obtain⟨x,-,rfl⟩:=Dc.1 hr;rfl
theorem Zs(l:List UInt8):∀ r∈A4 l,r.all V.rowB=true:=fun r hr=>by obtain⟨x,-,rfl⟩:=Dc.1 hr;rfl
theorem Ak0{s:St}{lo:Nat}(hlo:lo<=s.length)(z:Bool)(t:Nat)(l:List UInt8)(hl:l.length<=19):∃ u1 s1 u2 s2,Fm 1 (1,5) .nils (SL z t (A4 l)) s=some (u1,s1)/\Fm 1 (1,5) u1 (.lst 1 [[.int .u8 3]]) s1=some (u2,s2)/\OVs s2 [u2] [SL true 0 (A4 (l++[3]))]/\s.length<=s2.length/\∀ j,j<s.length->s2[j]?=s[j]?:=by
 obtain⟨u1,s1,a1,g1,l1,k1,r1,-⟩:=Xg (σ:=s) (m:=1) (e:=5) (lo:=lo) (bytes:=1) (y:=SL z t (A4 l)) (ys:=A4 l) Fy hlo (Aie ..) (by omega) (fun r hr=>by cases hr) (Wa l) (Zs l) (by rw[J4];simp only[Cf];omega)
 rw[Bw]at g1
 obtain⟨u2,s2,a2,g2,l2,k2,-,-⟩:=Xg (bytes:=1) (y:=.lst 1 [[.int .u8 3]]) (ys:=A4 [3]) g1 (by omega) rfl (by omega) (Wa l) (Wa [3]) (Zs [3]) (by rw[J4,J4];simp only[Af,Cf];omega)
 have e:A4 l++A4 [3]=A4 (l++[3]):=by unfold A4;rw[Hj]
 rw[e]at g2
 refine⟨u1,s1,u2,s2,a1,a2,.cons (Aa0 (Rm g2 (by omega) (Wa _) (Zs _)) (Ep g2)) .nil,by omega,fun j hj=>?_⟩
 rw[k2 j (by omega) fun h=>?_,k1 j hj (by simp[V.refs])]
 rcases r1 j h with h | h
 ·simp[V.refs]at h
 ·omega
set_option maxHeartbeats 4000000 in
theorem Alu(z1 z2:Bool)(t1 t2:Nat)(l m:List UInt8)(hl:l.length<=9223372036854775807)(hm:m.length<=9223372036854775807):Fn TT PT 9 [SL z1 t1 (A4 l),SL z2 t2 (A4 m)] (.bool true):=by
 have hll:=J4 l
 have hml:=J4 m
 have e1:min (l.length:Int) 19=((min l.length 19:Nat):Int):=by omega
 have e2:min (m.length:Int) 19=((min m.length 19:Nat):Int):=by omega
 obtain⟨y1,x1,k1⟩:=Afl z1 t1 1 (A4 l) .i64 (min l.length 19) (by rw[hll];omega)
 obtain⟨y2,x2,k2⟩:=Afl z2 t2 1 (A4 m) .i64 (min m.length 19) (by rw[hml];omega)
 rw[Aeh,show l.take (min l.length 19)=l.take 19 by rw[Nat.min_comm,<-Vt,C6]]at k1
 rw[Aeh,show m.take (min m.length 19)=m.take 19 by rw[Nat.min_comm,<-Vt,C6]]at k2
 have d1:=Ajj l
 have d2:=Ajj m
 have n1:(l.take 19).length<=19:=by rw[Gm];omega
 have n2:(m.take 19).length<=19:=by rw[Gm];omega
 generalize l.take 19=L at *
 generalize m.take 19=M at *
 have c1:=Qr y1 x1 L (by omega)
 have c2:=Qr y2 x2 M (by omega)
 have c3:=Qr true 0 (L++[3]) (by rw[Aj,Mi];omega)
 have c4:=Qr true 0 (M++[3]) (by rw[Aj,Mi];omega)
 obtain⟨a,ha,sa⟩:=Mr (Rc L) (O0 L)
 obtain⟨b,hb,sb⟩:=Mr (Rc M) (O0 M)
 obtain⟨c,hc,sc⟩:=Mr (Rc (L++[3])) (O0 (L++[3]))
 obtain⟨d,hd,sd⟩:=Mr (Rc (M++[3])) (O0 (M++[3]))
 obtain⟨v1,q1,hv1⟩:=Mx (Fq (E1 L))
 obtain⟨v2,q2,hv2⟩:=Mx (Fq (E1 M))
 obtain⟨v3,q3,hv3⟩:=Mx (Fq (E1 (L++[3])))
 obtain⟨v4,q4,hv4⟩:=Mx (Fq (E1 (M++[3])))
 rw[M5 ha hv1]at q1
 rw[M5 hb hv2]at q2
 rw[M5 hc hv3]at q3
 rw[M5 hd hv4]at q4
 have g1:=Ae2 (Jl ha) (Jl hb)
 have g2:=Ae2 (Jl hc) (Jl hd)
 rw[Af9 sa sb]at g1
 rw[Af9 sc sd,d1,d2,Hj,Hj,Vn,Rb]at g2
 have hn:Bm ((E1 L).map fun d=>Bn (Da d)) ((E1 M).map fun d=>Bn (Da d))<=20:=by
  have h1:=(Uj ((E1 L).map fun d=>Bn (Da d)) ((E1 M).map fun d=>Bn (Da d))).1
  have h2:=O0 L
  rw[Bg]at h1
  omega
 generalize Bm ((E1 L).map fun d=>Bn (Da d)) ((E1 M).map fun d=>Bn (Da d))=n at *
 have har:=G7 a
 have hbr:=G7 b
 have hcr:=G7 c
 have hdr:=G7 d
 rw[har]at q1 g1
 rw[hbr]at q2 g1
 rw[hcr]at q3 g2
 rw[hdr]at q4 g2
 refine Ch T9 rfl ?_
 simp only[go_sem]
 refine Ax (by kernel_rfl) ?_
 simp only[go_sem,hll,hml,e1,e2,k1,k2]
 refine An c1 (by simp only[go_sem]) ?_
 simp only[go_sem]
 refine An q1 (by simp only[go_sem]) ?_
 simp only[go_sem]
 refine An c2 (by simp only[go_sem]) ?_
 simp only[go_sem]
 refine An q2 (by simp only[go_sem]) ?_
 obtain⟨u1,s1,u2,s2,p1,p2,o2,l2,f2⟩:=Ak0 (s:=[.row [SL a.dz a.dt (a.decls.map Dp.row),SL a.tz a.tt (a.thrs.map Tp.row)] 27 0 0,.row [SL b.dz b.dt (b.decls.map Dp.row),SL b.tz b.tt (b.thrs.map Tp.row)] 27 0 0]) (lo:=2) (Ah _) y1 x1 L n1
 simp only[go_sem,p1,p2]
 refine Akn o2 c3 rfl ?_
 simp only[go_sem]
 refine An q3 (by simp only[go_sem]) ?_
 obtain⟨s3,e3⟩:∃ s3:St,s3=s2++[.row [SL c.dz c.dt (c.decls.map Dp.row),SL c.tz c.tt (c.thrs.map Tp.row)] 27 0 0]:=⟨_,rfl⟩
 obtain⟨u3,s4,u4,s5,p3,p4,o5,l5,f5⟩:=Ak0 (s:=s3) (lo:=s3.length) (Ah _) y2 x2 M n2
 have hs3:s3.length=s2.length+1:=by rw[e3];simp
 simp only[go_sem]
 rw[<-e3]
 simp only[go_sem,p3,p4]
 refine Akn o5 c4 rfl ?_
 simp only[go_sem]
 refine An q4 (by simp only[go_sem]) ?_
 simp only[go_sem]
 obtain⟨s6,e6⟩:∃ s6:St,s6=s5++[.row [SL d.dz d.dt (d.decls.map Dp.row),SL d.tz d.tt (d.thrs.map Tp.row)] 27 0 0]:=⟨_,rfl⟩
 have r5:∀ j,j<s3.length->s6[j]?=s3[j]?:=fun j hj=>by rw[e6,B8 (by omega),f5 j hj]
 have r2:∀ j,j<s2.length->s6[j]?=s2[j]?:=fun j hj=>by rw[r5 j (by omega),e3,B8 hj]
 have l2':2<=s2.length:=l2
 have z0:s6[0]?=some (.row [SL a.dz a.dt (a.decls.map Dp.row),SL a.tz a.tt (a.thrs.map Tp.row)] 27 0 0):=by rw[r2 0 (by omega),f2 0 (by simp)];rfl
 have z1':s6[1]?=some (.row [SL b.dz b.dt (b.decls.map Dp.row),SL b.tz b.tt (b.thrs.map Tp.row)] 27 0 0):=by rw[r2 1 (by omega),f2 1 (by simp)];rfl
 have z2':s6[s2.length]?=some (.row [SL c.dz c.dt (c.decls.map Dp.row),SL c.tz c.tt (c.thrs.map Tp.row)] 27 0 0):=by rw[r5 _ (by omega),e3];simp
 have z3:s6[s5.length]?=some (.row [SL d.dz d.dt (d.decls.map Dp.row),SL d.tz d.tt (d.thrs.map Tp.row)] 27 0 0):=by rw[e6];simp
 have w1:IntKind.i64.wrap ((n:Int)+1)=((n+1:Nat):Int):=Bq (by omega)
 rw[<-e6]
 refine Ax (by kernel_rfl) ?_
 simp only[go_sem,z0,z1',z2',z3]
 refine Cm g2 (by simp only[go_sem]) ?_
 simp only[go_sem,z0,z1',z2',z3]
 refine Cm g1 (by simp only[go_sem]) ?_
 simp only[go_sem,w1,beq_self_eq_true]
 refine Cm Ae3 (by simp only[go_sem]) ?_
 simp only[go_sem]
 exact B0 rfl rfl
end Go.Proofs.YtcoeikinocflnaaGreatDoor.KM
