/- Walks: the program's texts of statements. -/
import Derived.Test.YtcoeikinocflnaaGreatDoorGf
import Derived.Test.YtcoeikinocflnaaGreatDoorGc
set_option linter.all false
namespace Go.Proofs.YtcoeikinocflnaaGreatDoor.KM
open Go
mutual
def Sp.sz:Sp->Nat
 | ⟨_,_,_,_,_,_,_,_,_,_,body,_,_,els⟩=>1+Sp.szs body+Sp.szs els
def Sp.szs:List Sp->Nat
 | []=>0
 | x::l=>x.sz+Sp.szs l
end
theorem L3(s:Sp):s.sz=1+Sp.szs s.body+Sp.szs s.els:=by
 obtain⟨op,line,nm,arg,iz,it,idx,ex,bz,bt,body,ez,et,els⟩:=s
 rw[Sp.sz]
theorem Tw:∀ {l:List Sp} {x:Sp},x∈l->x.sz<=Sp.szs l
 | y::l,x,h=>by
  rw[Sp.szs]
  rcases Br.1 h with rfl | h
  ·omega
  ·have:=Tw h;omega
theorem Atr(d:Nat)(h:d<=1073741823):R6 [.str [32,32],.int .i64 (d:Int)]=some (.str (Di d)):=by
 unfold R6
 simp only
 rw[if_pos (by simp;omega)]
 congr 2
 unfold Di
 rw[Sh]
 clear h
 induction d with
 | zero=>rfl
 | succ d ih=>
  rw[Lib.repeatL,ih,show 2*(d+1)=2+2*d by omega,<-List.replicate_append_replicate]
  rfl
theorem Fk(x:Sp):x.row=[.int .i64 x.op,.int .i64 x.line,.str x.nm,.str x.arg,SL x.iz x.it (x.idx.map Xp.row),.int .i64 x.ex.op,.int .i64 x.ex.n,.str x.ex.nm,SL x.ex.z x.ex.t (x.ex.l.map Xp.row),SL x.bz x.bt (x.body.map Sp.row),SL x.ez x.et (x.els.map Sp.row)]:=by
 rw[Qv,A9]
 rfl
def Wr(x:Sp):Prop:=∀ (s:St) (b:Nat) (l:List UInt8) (d:Nat),WB s s b l->l.length+(x.txt d).length<=10000000000000->d+x.sz<=1073741823->∃ s',Th TT PT 141 [.ptr b 0 0,.agg x.row,.int .i64 (d:Int)] s (.tup []) s'/\WB s s' b (l++x.txt d)
theorem Abp{s0 s:St}{b:Nat}{l:List UInt8}(h:WB s0 s b l)(x:Sp):WB s0 (s++[.row x.row 105 0 0]) b l:=I2 h (by
 have:=Jb x
 exact this)
theorem Aqe{K:List It}{Q:Env->St->Prop}{A6:V}{j4 b d:Nat}{z:Bool}{t:Nat}{L:List Sp}{s0 s:St}{l:List UInt8}(hW:∀ x∈L,Wr x)(h:WB s0 s b l)(hl:l.length+(Sp.txts (d+1) L).length<=10000000000000)(hd:d+1+Sp.szs L<=1073741823)(hn:L.length<=1000000000000000)
  (hk:∀ s',WB s0 s' b (l++Sp.txts (d+1) L)->W TT PT K [(0,.ptr b 0 0),(2,.int .i64 (d:Int)),(4,.ptr j4 0 0),(6,A6),(35,SL z t (L.map Sp.row)),(36,.int .i64 (L.length:Int)),(37,.int .i64 (L.length:Int))] s' Q) :
  W TT PT (.l [0,2,4,6,35,36,37] lp141_0::.b 0::K) [(0,.ptr b 0 0),(2,.int .i64 (d:Int)),(4,.ptr j4 0 0),(6,A6),(35,SL z t (L.map Sp.row)),(36,.int .i64 (L.length:Int)),(37,.int .i64 0)] s Q:=by
 refine Cr (α:=Nat × St × List UInt8) (fun a=>L.length - a.1) (fun a=>[(0,.ptr b 0 0),(2,.int .i64 (d:Int)),(4,.ptr j4 0 0),(6,A6),(35,SL z t (L.map Sp.row)),(36,.int .i64 (L.length:Int)),(37,.int .i64 (a.1:Int))]) (fun a=>a.2.1) (fun a=>a.1<=L.length/\WB s0 a.2.1 b a.2.2/\a.2.2++Sp.txts (d+1) (L.drop a.1)=l++Sp.txts (d+1) L) ?_ (0,s,l) ⟨A5 _,h,rfl⟩
 rintro⟨i,s1,c⟩ ⟨hi,hw,hc⟩ ih
 simp only at hi hw hc ih
 refine Ct (by delta lp141_0;exact rfl) ?_
 have hcl:=congrArg List.length hc
 simp only[Aj]at hcl
 rcases B3 i L.length with h' | h'
 ·obtain⟨x,hx,hdr,hm⟩:=Eu h'
  rw[hdr,J5]at hc hcl
  rw[Aj]at hcl
  have hsz:=Tw hm
  obtain⟨s2,e2⟩:∃ s2,s2=s1++[Ob.row x.row 105 0 0]:=⟨_,rfl⟩
  have w2:WB s0 s2 b c:=by rw[e2];exact Abp hw x
  have k2:s2[s1.length]?=some (.row x.row 105 0 0):=by rw[e2,By (Ah _),Gq];rfl
  obtain⟨s3,q3,v3⟩:=hW x hm s2 b c (d+1) (O4 w2) (by omega) (by omega)
  have hrow:=Fk x
  rw[hrow]at e2 k2 q3
  rw[e2]at q3 k2
  simp only[go_sem,Cb h',A7,hx,hrow,Bq (show d<9223372036854775807 by omega)]
  refine Dg q3 ?_
  simp only[go_sem,Bq (show i<9223372036854775807 by omega)]
  exact Bd (ih (i+1,s3,c++x.txt (d+1)) (by simp;omega) ⟨by simp;omega,Hl w2 v3,by simp only;rw[Bz];exact hc⟩) rfl
 ·obtain rfl:i=L.length:=by omega
  rw[J1 h',show Sp.txts (d+1) []=[] by rw[Sp.txts],Cx]at hc
  subst hc
  simp only[go_sem,D5 h']
  exact hk s1 hw
theorem Aqf{K:List It}{Q:Env->St->Prop}{A6:V}{b d:Nat}{z:Bool}{t:Nat}{L:List Sp}{s0 s:St}{l:List UInt8}(hW:∀ x∈L,Wr x)(h:WB s0 s b l)(hl:l.length+(Sp.txts (d+1) L).length<=10000000000000)(hd:d+1+Sp.szs L<=1073741823)(hn:L.length<=1000000000000000)
  (hk:∀ s',WB s0 s' b (l++Sp.txts (d+1) L)->W TT PT K [(0,.ptr b 0 0),(2,.int .i64 (d:Int)),(6,A6),(57,SL z t (L.map Sp.row)),(58,.int .i64 (L.length:Int)),(59,.int .i64 (L.length:Int))] s' Q) :
  W TT PT (.l [0,2,6,57,58,59] lp141_1::.b 2::K) [(0,.ptr b 0 0),(2,.int .i64 (d:Int)),(6,A6),(57,SL z t (L.map Sp.row)),(58,.int .i64 (L.length:Int)),(59,.int .i64 0)] s Q:=by
 refine Cr (α:=Nat × St × List UInt8) (fun a=>L.length - a.1) (fun a=>[(0,.ptr b 0 0),(2,.int .i64 (d:Int)),(6,A6),(57,SL z t (L.map Sp.row)),(58,.int .i64 (L.length:Int)),(59,.int .i64 (a.1:Int))]) (fun a=>a.2.1) (fun a=>a.1<=L.length/\WB s0 a.2.1 b a.2.2/\a.2.2++Sp.txts (d+1) (L.drop a.1)=l++Sp.txts (d+1) L) ?_ (0,s,l) ⟨A5 _,h,rfl⟩
 rintro⟨i,s1,c⟩ ⟨hi,hw,hc⟩ ih
 simp only at hi hw hc ih
 refine Ct (by delta lp141_1;exact rfl) ?_
 have hcl:=congrArg List.length hc
 simp only[Aj]at hcl
 rcases B3 i L.length with h' | h'
 ·obtain⟨x,hx,hdr,hm⟩:=Eu h'
  rw[hdr,J5]at hc hcl
  rw[Aj]at hcl
  have hsz:=Tw hm
  obtain⟨s2,e2⟩:∃ s2,s2=s1++[Ob.row x.row 105 0 0]:=⟨_,rfl⟩
  have w2:WB s0 s2 b c:=by rw[e2];exact Abp hw x
  have k2:s2[s1.length]?=some (.row x.row 105 0 0):=by rw[e2,By (Ah _),Gq];rfl
  obtain⟨s3,q3,v3⟩:=hW x hm s2 b c (d+1) (O4 w2) (by omega) (by omega)
  have hrow:=Fk x
  rw[hrow]at e2 k2 q3
  rw[e2]at q3 k2
  simp only[go_sem,Cb h',A7,hx,hrow,Bq (show d<9223372036854775807 by omega)]
  refine Dg q3 ?_
  simp only[go_sem,Bq (show i<9223372036854775807 by omega)]
  exact Bd (ih (i+1,s3,c++x.txt (d+1)) (by simp;omega) ⟨by simp;omega,Hl w2 v3,by simp only;rw[Bz];exact hc⟩) rfl
 ·obtain rfl:i=L.length:=by omega
  rw[J1 h',show Sp.txts (d+1) []=[] by rw[Sp.txts],Cx]at hc
  subst hc
  simp only[go_sem,D5 h']
  exact hk s1 hw
theorem Aqg{x:Sp}(h:CnS x):Wr x:=by
 induction h with
 | @mk x h1 h2 h3 h4 h5 h6 h7 h8 h9 ihb ihe=>
  intro s b l d h hl hd
  have hs:CnS x:=.mk h1 h2 h3 h4 h5 h6 h7 h8 h9
  rw[L3]at hd
  have hbn:s.length≠b:=by
   obtain⟨⟨u,p,hb,-⟩,-⟩:=h
   have:=(Au.1 hb).1
   omega
  rw[Ig]at hl ⊢
  simp only[Aj,I1]at hl
  have hh:=Aqd hs (by omega)
  have hrep:=Atr d (by omega)
  have hset:=Jb x
  have g0:(1073741823<(d:Int))=False:=eq_false (by omega)
  have hil:=I1 d
  generalize hH:Bv x=H at hl hh ⊢
  generalize hT:Di d=T at hl hrep hil ⊢
  refine Pi T141 rfl ?_ rfl rfl (fun σ1 h=>⟨h.2.2.1,h.2.1⟩)
  obtain⟨s1,e1⟩:∃ s1,s1=s++[Ob.row x.row 105 0 0]:=⟨_,rfl⟩
  have w1:WB s s1 b l:=by rw[e1];exact Abp h x
  have k1:s1[s.length]?=some (.row x.row 105 0 0):=by rw[e1,By (Ah _),Gq];rfl
  have hrow:=Fk x
  obtain⟨s2,q2,w2,v2⟩:=E5 w1 T (by omega)
  have k2:=v2.2.2.2 s.length _ _ _ _ hbn (by decide) k1
  obtain⟨s3,q3,w3,v3⟩:=E5 w2 H (by simp;omega)
  have k3:=v3.2.2.2 s.length _ _ _ _ hbn (by decide) k2
  rw[hrow]at e1 k2 k3 hh ⊢
  rw[e1]at q2
  cases hb:A8 x.op
  ·rw[hb]at hh hl
   simp only[Eh,if_false,Af,Cf]at hl ⊢
   obtain⟨s4,q4,w4,v4⟩:=E5 w3 [59,10] (by simp;omega)
   simp only[go_sem,g0]
   refine F2 P185 (by simp only[go_sem]) hrep ?_
   simp only[go_sem]
   refine Dg q2 ?_
   simp only[go_sem,k2]
   refine An hh (by simp only[go_sem]) ?_
   simp only[go_sem]
   refine Dg q3 ?_
   simp only[go_sem]
   refine Dg q4 ?_
   simp only[go_sem]
   exact⟨rfl,by simpa using w4⟩
  ·rw[hb]at hh hl
   simp only[if_true,Af,Aj,Cf]at hl ⊢
   have lb:=V6 x.body (d+1)
   have le:=V6 x.els (d+1)
   have hbn':(x.body.map Sp.row).length=x.body.length:=Bg ..
   have hen':(x.els.map Sp.row).length=x.els.length:=Bg ..
   obtain⟨s4,q4,w4,v4⟩:=E5 w3 [32,123,10] (by simp;omega)
   have k4:=v4.2.2.2 s.length _ _ _ _ hbn (by decide) k3
   simp only[go_sem,g0]
   refine F2 P185 (by simp only[go_sem]) hrep ?_
   simp only[go_sem]
   refine Dg q2 ?_
   simp only[go_sem,k2]
   refine An hh (by simp only[go_sem]) ?_
   simp only[go_sem]
   refine Dg q3 ?_
   simp only[go_sem]
   refine Dg q4 ?_
   simp only[go_sem,k4,hbn']
   refine Aqe (d:=d) (L:=x.body) (l:=l++T++H++[32,123,10]) ihb (O4 w4) (by simp;omega) (by omega) (by omega) fun s5 w5=>?_
   have k5:=w5.2.2.2 s.length _ _ _ _ hbn (by decide) k4
   have w5':=Hl w4 w5
   cases hels:x.els with
   | nil=>
    have e0:((0:Int)<((([]:List Sp).map Sp.row).length:Int))=False:=eq_false (by simp)
    rw[hels]at k5 hl
    simp only[Cy]at k5
    obtain⟨s6,q6,w6,v6⟩:=E5 w5' T (by simp;omega)
    obtain⟨s7,q7,w7,v7⟩:=E5 w6 [125,10] (by simp;omega)
    simp only[go_sem,k5,Int.reduceLT]
    refine Dg q6 ?_
    simp only[go_sem]
    refine Dg q7 ?_
    simp only[go_sem]
    exact⟨rfl,by simpa using w7⟩
   | cons y ys=>
    rw[hels]at k5 hl le hd hen' ihe
    have e0:((0:Int)<((ys.length+1:Nat):Int))=True:=eq_true (by omega)
    simp only[List.isEmpty_cons,Eh,if_false,Af,Aj]at hl ⊢
    obtain⟨s6,q6,w6,v6⟩:=E5 w5' T (by simp;omega)
    have k6:=v6.2.2.2 s.length _ _ _ _ hbn (by decide) k5
    obtain⟨s7,q7,w7,v7⟩:=E5 w6 [125,32,101,108,115,101,32,123,10] (by simp;omega)
    have k7:=v7.2.2.2 s.length _ _ _ _ hbn (by decide) k6
    simp only[go_sem,k5,Bg,Af,e0]
    refine Dg q6 ?_
    simp only[go_sem]
    refine Dg q7 ?_
    simp only[go_sem,k7,Bg,Af]
    refine Aqf (d:=d) (L:=y::ys) (l:=l++T++H++[32,123,10]++Sp.txts (d+1) x.body++T++[125,32,101,108,115,101,32,123,10]) ihe (O4 w7) (by simp;omega) (by omega) (by omega) fun s8 w8=>?_
    obtain⟨s9,q9,w9,v9⟩:=E5 (Hl w7 w8) T (by simp;omega)
    obtain⟨s10,q10,w10,v10⟩:=E5 w9 [125,10] (by simp;omega)
    simp only[go_sem]
    refine Dg q9 ?_
    simp only[go_sem]
    refine Dg q10 ?_
    simp only[go_sem]
    exact⟨rfl,by simpa using w10⟩
theorem Abq:∀ (k u:Nat),(Fo k u).length<=k
 | 0,_=>by simp[Fo]
 | k+1,u=>by
  have:=Abq k (u / 10)
  unfold Fo
  split
  ·simp
  ·simp;omega
theorem Aa5(n:Int):(Cz n).length<=21:=by
 unfold Cz
 split
 ·have:=Abq 20 n.natAbs
  simp;omega
 ·have:=Abq 20 n.toNat
  omega
end Go.Proofs.YtcoeikinocflnaaGreatDoor.KM
