/- Walks: the program's texts of expressions and heads of statements. -/
import Derived.Test.YtcoeikinocflnaaGreatDoorYu
import Derived.Test.YtcoeikinocflnaaGreatDoorGc
set_option linter.all false
namespace Go.Proofs.YtcoeikinocflnaaGreatDoor.KM
open Go
theorem He{vs:List V}{σ:St}{v:V}(h:vs.all Da=true)(he:V.tup vs=v):FR (.tup vs) σ v:=he ▸ Ie h
theorem Akb{s0 s:St}{b:Nat}{l:List UInt8}(h:WB s0 s b l):∃ s',P3 192 5 [.ptr b 0 0] s=some (.str l,s'):=by
 obtain⟨⟨u,hu⟩,-⟩:=h;exact Axy hu
theorem Tz{x:Xp}(h:Cn x)(hl:x.txt.length<=10000000000000):Fn TT PT 225 [.agg x.row] (.str x.txt):=by
 have hset:=C7 x;refine Bn T225 rfl ?_
 have w0:WB [.row x.row 103 0 0,.row [.nilp,.nils] 192 0 0] [.row x.row 103 0 0,.row [.nilp,.nils] 192 0 0] 1 []:=by
  refine Ahk (u:=.nils) ⟨.nilp,rfl,.inl rfl,F4⟩ ?_;exact Pe (Gv (s:=[]) (fun _ h=>by cases h) (by rw[Ax];simp only[go_sem])) (by simp[Ob.refs,Aj,V.refs])
 obtain⟨s1,q1,v1⟩:=Aqo h _ 1 [] w0 (by simpa using hl);obtain⟨s2,hs2⟩:=Akb v1;rw[Es]at hs2;rw[Ax]at q1 hset ⊢;simp only[go_sem];refine B5 q1 ?_;simp only[go_sem];refine Lq (.spec T142 rfl rfl hs2) ?_;simp only[go_sem];exact Ek rfl
theorem Aqp{s:Sp}(h:CnS s)(hl:(Ce s).length<=10000000000000):Fn TT PT 187 [.agg s.row] (.tup [.str (Ce s),.bool (Bq s.op)]):=by
 obtain⟨h1,h2,h3,h4,h5,-,-,-,-⟩:=h;obtain⟨op,line,nm,arg,iz,it,idx,ex,bz,bt,body,ez,et,els⟩:=s;simp only at h1 h2 h3 h4 h5 hl ⊢;rw[Np];simp only;have hw:op=1\/op=2\/op=3\/op=4\/op=5\/op=6\/op=7\/op=8\/op=9\/op=10\/op=11\/op=12\/op=13\/op=14\/op=15:=by omega
 refine Bn T187 rfl ?_;rw[Ax];rcases hw with rfl | hw
 ·have hx:=Tz (h5 (.inl rfl));simp only[Ce,if_true,Ao,Am]at hl ⊢;have hx:=hx (by omega);rw[Ax]at hx
  cases idx with
  | nil=>
   simp only[En,Cx]at hl ⊢;have a2:Ai .add nm [32,61,32]=some (.str (nm++[32,61,32])):=Ak (by simp;omega) rfl;have a3:Ai .add (nm++[32,61,32]) ex.txt=some (.str (nm++32::61::32::ex.txt)):=Ak (by simp;omega) (by simp);simp only[go_sem,Int.reduceBEq,Int.reduceLT,↓a2];refine Ad hx (by simp only[go_sem]) ?_;simp only[go_sem,↓a3];exact He rfl (by simp[Bq])
  | cons a r=>
   have ha:=Tz (h4 a Ec);simp only[En,Am,Ao]at hl ⊢;have ha:=ha (by omega);rw[Ax]at ha;have r0:r=[]:=by simpa using h2
   subst r0;have a1:Ai .add [91] a.txt=some (.str (91::a.txt)):=Ak (by simp;omega) rfl;have a2:Ai .add (91::a.txt) [93]=some (.str (91::(a.txt++[93]))):=Ak (by simp;omega) (by simp);have a3:Ai .add nm (91::(a.txt++[93]))=some (.str (nm++91::(a.txt++[93]))):=Ak (by simp;omega) rfl;have a4:Ai .add (nm++91::(a.txt++[93])) [32,61,32]=some (.str (nm++91::(a.txt++[93,32,61,32]))):=Ak (by simp;omega) (by simp);have a5:Ai .add (nm++91::(a.txt++[93,32,61,32])) ex.txt=some (.str (nm++91::(a.txt++93::32::61::32::ex.txt))):=Ak (by simp;omega) (by simp);simp only[Ba,Bs];rw[Ax a];simp only[go_sem,Int.reduceBEq,Int.reduceLT];refine Ad ha (by simp only[go_sem]) ?_;simp only[go_sem,↓a1,↓a2,↓a3,↓a4];refine Ad hx (by simp only[go_sem]) ?_;simp only[go_sem,↓a5];exact He rfl (by simp[Bq])
 rcases hw with rfl | hw
 ·simp only[Ce,Cu,Bq]at hl ⊢;simp at hl;have hx:=Tz (h5 (by omega)) (by omega);rw[Ax]at hx;have a1:Ai .add ([105,102,32]) (ex.txt)=some (.str (105::102::32::ex.txt)):=Ak (by simp;try omega) (by simp);simp only[go_sem,Int.reduceBEq,Int.reduceLT];refine Ad hx (by simp only[go_sem]) ?_;simp only[go_sem,↓a1];exact He rfl (by simp)
 rcases hw with rfl | hw
 ·simp only[Ce,Cu,Bq]at hl ⊢;simp at hl;have hx:=Tz (h5 (by omega)) (by omega);rw[Ax]at hx;have a1:Ai .add ([119,104,105,108,101,32]) (ex.txt)=some (.str (119::104::105::108::101::32::ex.txt)):=Ak (by simp;try omega) (by simp);simp only[go_sem,Int.reduceBEq,Int.reduceLT];refine Ad hx (by simp only[go_sem]) ?_;simp only[go_sem,↓a1];exact He rfl (by simp)
 rcases hw with rfl | hw
 ·simp only[Ce,Cu,Bq]at hl ⊢;simp at hl;have a1:Ai .add ([108,111,99,107,32]) (nm)=some (.str (108::111::99::107::32::nm)):=Ak (by simp;try omega) (by simp);simp only[go_sem,Int.reduceBEq,Int.reduceLT,↓a1];exact He rfl (by simp)
 rcases hw with rfl | hw
 ·simp only[Ce,Cu,Bq]at hl ⊢;simp at hl;have a1:Ai .add ([114,101,97,100,32]) (nm)=some (.str (114::101::97::100::32::nm)):=Ak (by simp;try omega) (by simp);simp only[go_sem,Int.reduceBEq,Int.reduceLT,↓a1];exact He rfl (by simp)
 rcases hw with rfl | hw
 ·simp only[Ce,Cu,Bq]at hl ⊢;simp at hl;have a1:Ai .add ([119,114,105,116,101,32]) (nm)=some (.str (119::114::105::116::101::32::nm)):=Ak (by simp;try omega) (by simp);simp only[go_sem,Int.reduceBEq,Int.reduceLT,↓a1];exact He rfl (by simp)
 rcases hw with rfl | hw
 ·simp only[Ce,Cu,Bq]at hl ⊢;simp at hl;simp only[go_sem,Int.reduceBEq,Int.reduceLT];exact He rfl (by simp)
 rcases hw with rfl | hw
 ·simp only[Ce,Cu,Bq]at hl ⊢;simp at hl;simp only[go_sem,Int.reduceBEq,Int.reduceLT];exact He rfl (by simp)
 rcases hw with rfl | hw
 ·simp only[Ce,Cu,Bq]at hl ⊢;simp at hl;have a1:Ai .add ([119,97,105,116,32]) (nm)=some (.str (119::97::105::116::32::nm)):=Ak (by simp;try omega) (by simp);simp only[go_sem,Int.reduceBEq,Int.reduceLT,↓a1];exact He rfl (by simp)
 rcases hw with rfl | hw
 ·simp only[Ce,Cu,Bq]at hl ⊢;simp at hl;have a1:Ai .add ([110,111,116,105,102,121,32]) (nm)=some (.str (110::111::116::105::102::121::32::nm)):=Ak (by simp;try omega) (by simp);simp only[go_sem,Int.reduceBEq,Int.reduceLT,↓a1];exact He rfl (by simp)
 rcases hw with rfl | hw
 ·simp only[Ce,Cu,Bq]at hl ⊢;simp at hl;have a1:Ai .add ([110,111,116,105,102,121,97,108,108,32]) (nm)=some (.str (110::111::116::105::102::121::97::108::108::32::nm)):=Ak (by simp;try omega) (by simp);simp only[go_sem,Int.reduceBEq,Int.reduceLT,↓a1];exact He rfl (by simp)
 rcases hw with rfl | hw
 ·simp only[Ce,Cu,Bq]at hl ⊢;simp at hl;have a1:Ai .add ([115,112,97,119,110,32]) (nm)=some (.str (115::112::97::119::110::32::nm)):=Ak (by simp;try omega) (by simp);simp only[go_sem,Int.reduceBEq,Int.reduceLT,↓a1];exact He rfl (by simp)
 rcases hw with rfl | hw
 ·simp only[Ce,Cu,Bq]at hl ⊢;simp at hl;have a1:Ai .add ([106,111,105,110,32]) (nm)=some (.str (106::111::105::110::32::nm)):=Ak (by simp;try omega) (by simp);simp only[go_sem,Int.reduceBEq,Int.reduceLT,↓a1];exact He rfl (by simp)
 rcases hw with rfl | hw
 ·simp only[Ce,Cu,Bq]at hl ⊢;simp at hl;have hx:=Tz (h5 (by omega)) (by omega);rw[Ax]at hx;have a1:Ai .add ([115,101,116,32]) (nm)=some (.str (115::101::116::32::nm)):=Ak (by simp;try omega) (by simp);have a2:Ai .add (115::101::116::32::nm) ([32])=some (.str (115::101::116::32::(nm++[32]))):=Ak (by simp;try omega) (by simp);have a3:Ai .add (115::101::116::32::(nm++[32])) (ex.txt)=some (.str (115::101::116::32::(nm++32::ex.txt))):=Ak (by simp;try omega) (by simp);simp only[go_sem,Int.reduceBEq,Int.reduceLT];refine Ag (by kernel_rfl) ?_;simp only[go_sem,↓a1,↓a2];refine Bf hx (by simp only[go_sem]) ?_;simp only[go_sem,↓a3];exact He rfl (by simp)
 subst hw;simp only[Ce,Cu,Bq]at hl ⊢;simp at hl;have a1:Ai .add ([103,101,116,32]) (nm)=some (.str (103::101::116::32::nm)):=Ak (by simp;try omega) (by simp);have a2:Ai .add (103::101::116::32::nm) ([32])=some (.str (103::101::116::32::(nm++[32]))):=Ak (by simp;try omega) (by simp);have a3:Ai .add (103::101::116::32::(nm++[32])) (arg)=some (.str (103::101::116::32::(nm++32::arg))):=Ak (by simp;try omega) (by simp);simp only[go_sem,Int.reduceBEq,Int.reduceLT,↓a1,↓a2,↓a3];exact He rfl (by simp)
mutual
def Sp.sz:Sp->Nat
 | ⟨_,_,_,_,_,_,_,_,_,_,body,_,_,els⟩=>1+Sp.szs body+Sp.szs els
def Sp.szs:List Sp->Nat
 | []=>0
 | x::l=>x.sz+Sp.szs l
end
theorem Jp(s:Sp):s.sz=1+Sp.szs s.body+Sp.szs s.els:=by
 obtain⟨op,line,nm,arg,iz,it,idx,ex,bz,bt,body,ez,et,els⟩:=s;rw[Sp.sz]
theorem Uj:∀ {l:List Sp} {x:Sp},x∈l->x.sz<=Sp.szs l
 | y::l,x,h=>by
  rw[Sp.szs];rcases Be.1 h with rfl | h
  ·omega
  ·have:=Uj h;omega
theorem Aua(d:Nat)(h:d<=1073741823):Si [.str [32,32],.int .i64 (d:Int)]=some (.str (Dr d)):=by
 unfold Si;simp only;rw[if_pos (by simp;omega)];congr 2;unfold Dr;rw[Mf];clear h
 induction d with
 | zero=>rfl
 | succ d ih=>
  rw[Lib.repeatL,ih,show 2*(d+1)=2+2*d by omega,<-List.replicate_append_replicate];rfl
theorem Eg(x:Sp):x.row=[.int .i64 x.op,.int .i64 x.line,.str x.nm,.str x.arg,SL x.iz x.it (x.idx.map Xp.row),.int .i64 x.ex.op,.int .i64 x.ex.n,.str x.ex.nm,SL x.ex.z x.ex.t (x.ex.l.map Xp.row),SL x.bz x.bt (x.body.map Sp.row),SL x.ez x.et (x.els.map Sp.row)]:=by
 rw[Np,Ax];rfl
def Wr(x:Sp):Prop:=∀ (s:St) (b:Nat) (l:List UInt8) (d:Nat),WB s s b l->l.length+(x.txt d).length<=10000000000000->d+x.sz<=1073741823->∃ s',Th TT PT 141 [.ptr b 0 0,.agg x.row,.int .i64 (d:Int)] s (.tup []) s'/\WB s s' b (l++x.txt d)
theorem Acg{s0 s:St}{b:Nat}{l:List UInt8}(h:WB s0 s b l)(x:Sp):WB s0 (s++[.row x.row 105 0 0]) b l:=Jm h (by
 have:=Fi x
 exact this)
theorem Aqq{K:List It}{Q:Env->St->Prop}{A6:V}{j4 b d:Nat}{z:Bool}{t:Nat}{L:List Sp}{s0 s:St}{l:List UInt8}(hW:∀ x∈L,Wr x)(h:WB s0 s b l)(hl:l.length+(Sp.txts (d+1) L).length<=10000000000000)(hd:d+1+Sp.szs L<=1073741823)(hn:L.length<=1000000000000000)
  (hk:∀ s',WB s0 s' b (l++Sp.txts (d+1) L)->W TT PT K [(0,.ptr b 0 0),(2,.int .i64 (d:Int)),(4,.ptr j4 0 0),(6,A6),(35,SL z t (L.map Sp.row)),(36,.int .i64 (L.length:Int)),(37,.int .i64 (L.length:Int))] s' Q) :
  W TT PT (.l [0,2,4,6,35,36,37] lp141_0::.b 0::K) [(0,.ptr b 0 0),(2,.int .i64 (d:Int)),(4,.ptr j4 0 0),(6,A6),(35,SL z t (L.map Sp.row)),(36,.int .i64 (L.length:Int)),(37,.int .i64 0)] s Q:=by
 refine B9 (α:=Nat × St × List UInt8) (fun a=>L.length - a.1) (fun a=>[(0,.ptr b 0 0),(2,.int .i64 (d:Int)),(4,.ptr j4 0 0),(6,A6),(35,SL z t (L.map Sp.row)),(36,.int .i64 (L.length:Int)),(37,.int .i64 (a.1:Int))]) (fun a=>a.2.1) (fun a=>a.1<=L.length/\WB s0 a.2.1 b a.2.2/\a.2.2++Sp.txts (d+1) (L.drop a.1)=l++Sp.txts (d+1) L) ?_ (0,s,l) ⟨A2 _,h,rfl⟩;rintro⟨i,s1,c⟩ ⟨hi,hw,hc⟩ ih;simp only at hi hw hc ih;refine Ca (by delta lp141_0;exact rfl) ?_;have hcl:=congrArg List.length hc;simp only[Ao]at hcl;rcases Bx i L.length with h' | h'
 ·obtain⟨x,hx,hdr,hm⟩:=Dd h';rw[hdr,J6]at hc hcl;rw[Ao]at hcl;have hsz:=Uj hm;obtain⟨s2,e2⟩:∃ s2,s2=s1++[Ob.row x.row 105 0 0]:=⟨_,rfl⟩;have w2:WB s0 s2 b c:=by rw[e2];exact Acg hw x
  have k2:s2[s1.length]?=some (.row x.row 105 0 0):=by rw[e2,Cf (Ah _),Ir];rfl
  obtain⟨s3,q3,v3⟩:=hW x hm s2 b c (d+1) (Pf w2) (by omega) (by omega);have hrow:=Eg x;rw[hrow]at e2 k2 q3;rw[e2]at q3 k2;simp only[go_sem,B7 h',Bb,hx,hrow,Bg (show d<9223372036854775807 by omega)];refine B5 q3 ?_;simp only[go_sem,Bg (show i<9223372036854775807 by omega)];exact Bi (ih (i+1,s3,c++x.txt (d+1)) (by simp;omega) ⟨by simp;omega,Hv w2 v3,by simp only;rw[E4];exact hc⟩) rfl
 ·obtain rfl:i=L.length:=by omega
  rw[Fk h',show Sp.txts (d+1) []=[] by rw[Sp.txts],Cw]at hc;subst hc;simp only[go_sem,Cr h'];exact hk s1 hw
theorem Aqr{K:List It}{Q:Env->St->Prop}{A6:V}{b d:Nat}{z:Bool}{t:Nat}{L:List Sp}{s0 s:St}{l:List UInt8}(hW:∀ x∈L,Wr x)(h:WB s0 s b l)(hl:l.length+(Sp.txts (d+1) L).length<=10000000000000)(hd:d+1+Sp.szs L<=1073741823)(hn:L.length<=1000000000000000)
  (hk:∀ s',WB s0 s' b (l++Sp.txts (d+1) L)->W TT PT K [(0,.ptr b 0 0),(2,.int .i64 (d:Int)),(6,A6),(57,SL z t (L.map Sp.row)),(58,.int .i64 (L.length:Int)),(59,.int .i64 (L.length:Int))] s' Q) :
  W TT PT (.l [0,2,6,57,58,59] lp141_1::.b 2::K) [(0,.ptr b 0 0),(2,.int .i64 (d:Int)),(6,A6),(57,SL z t (L.map Sp.row)),(58,.int .i64 (L.length:Int)),(59,.int .i64 0)] s Q:=by
 refine B9 (α:=Nat × St × List UInt8) (fun a=>L.length - a.1) (fun a=>[(0,.ptr b 0 0),(2,.int .i64 (d:Int)),(6,A6),(57,SL z t (L.map Sp.row)),(58,.int .i64 (L.length:Int)),(59,.int .i64 (a.1:Int))]) (fun a=>a.2.1) (fun a=>a.1<=L.length/\WB s0 a.2.1 b a.2.2/\a.2.2++Sp.txts (d+1) (L.drop a.1)=l++Sp.txts (d+1) L) ?_ (0,s,l) ⟨A2 _,h,rfl⟩;rintro⟨i,s1,c⟩ ⟨hi,hw,hc⟩ ih;simp only at hi hw hc ih;refine Ca (by delta lp141_1;exact rfl) ?_;have hcl:=congrArg List.length hc;simp only[Ao]at hcl;rcases Bx i L.length with h' | h'
 ·obtain⟨x,hx,hdr,hm⟩:=Dd h';rw[hdr,J6]at hc hcl;rw[Ao]at hcl;have hsz:=Uj hm;obtain⟨s2,e2⟩:∃ s2,s2=s1++[Ob.row x.row 105 0 0]:=⟨_,rfl⟩;have w2:WB s0 s2 b c:=by rw[e2];exact Acg hw x
  have k2:s2[s1.length]?=some (.row x.row 105 0 0):=by rw[e2,Cf (Ah _),Ir];rfl
  obtain⟨s3,q3,v3⟩:=hW x hm s2 b c (d+1) (Pf w2) (by omega) (by omega);have hrow:=Eg x;rw[hrow]at e2 k2 q3;rw[e2]at q3 k2;simp only[go_sem,B7 h',Bb,hx,hrow,Bg (show d<9223372036854775807 by omega)];refine B5 q3 ?_;simp only[go_sem,Bg (show i<9223372036854775807 by omega)];exact Bi (ih (i+1,s3,c++x.txt (d+1)) (by simp;omega) ⟨by simp;omega,Hv w2 v3,by simp only;rw[E4];exact hc⟩) rfl
 ·obtain rfl:i=L.length:=by omega
  rw[Fk h',show Sp.txts (d+1) []=[] by rw[Sp.txts],Cw]at hc;subst hc;simp only[go_sem,Cr h'];exact hk s1 hw
theorem Aqs{x:Sp}(h:CnS x):Wr x:=by
 induction h with
 | @mk x h1 h2 h3 h4 h5 h6 h7 h8 h9 ihb ihe=>
  intro s b l d h hl hd;have hs:CnS x:=.mk h1 h2 h3 h4 h5 h6 h7 h8 h9;rw[Jp]at hd
  have hbn:s.length≠b:=by
   obtain⟨⟨u,p,hb,-⟩,-⟩:=h;have:=(Ar.1 hb).1;omega
  rw[I0]at hl ⊢;simp only[Ao,Hx]at hl;have hh:=Aqp hs (by omega);have hrep:=Aua d (by omega);have hset:=Fi x;have g0:(1073741823<(d:Int))=False:=eq_false (by omega);have hil:=Hx d;generalize hH:Ce x=H at hl hh ⊢;generalize hT:Dr d=T at hl hrep hil ⊢;refine Ps T141 rfl ?_ rfl rfl (fun σ1 h=>⟨h.2.2.1,h.2.1⟩);obtain⟨s1,e1⟩:∃ s1,s1=s++[Ob.row x.row 105 0 0]:=⟨_,rfl⟩;have w1:WB s s1 b l:=by rw[e1];exact Acg h x
  have k1:s1[s.length]?=some (.row x.row 105 0 0):=by rw[e1,Cf (Ah _),Ir];rfl
  have hrow:=Eg x;obtain⟨s2,q2,w2,v2⟩:=Fm w1 T (by omega);have k2:=v2.2.2.2 s.length _ _ _ _ hbn (by decide) k1;obtain⟨s3,q3,w3,v3⟩:=Fm w2 H (by simp;omega);have k3:=v3.2.2.2 s.length _ _ _ _ hbn (by decide) k2;rw[hrow]at e1 k2 k3 hh ⊢;rw[e1]at q2;cases hb:Bq x.op
  ·rw[hb]at hh hl;simp only[Er,if_false,Am,Cx]at hl ⊢;obtain⟨s4,q4,w4,v4⟩:=Fm w3 [59,10] (by simp;omega);simp only[go_sem,g0];refine E6 P185 (by simp only[go_sem]) hrep ?_;simp only[go_sem];refine B5 q2 ?_;simp only[go_sem,k2];refine Ad hh (by simp only[go_sem]) ?_;simp only[go_sem];refine B5 q3 ?_;simp only[go_sem];refine B5 q4 ?_;simp only[go_sem];exact⟨rfl,by simpa using w4⟩
  ·rw[hb]at hh hl;simp only[if_true,Am,Ao,Cx]at hl ⊢;have lb:=Ti x.body (d+1);have le:=Ti x.els (d+1);have hbn':(x.body.map Sp.row).length=x.body.length:=Bl ..;have hen':(x.els.map Sp.row).length=x.els.length:=Bl ..;obtain⟨s4,q4,w4,v4⟩:=Fm w3 [32,123,10] (by simp;omega);have k4:=v4.2.2.2 s.length _ _ _ _ hbn (by decide) k3;simp only[go_sem,g0];refine E6 P185 (by simp only[go_sem]) hrep ?_;simp only[go_sem];refine B5 q2 ?_;simp only[go_sem,k2];refine Ad hh (by simp only[go_sem]) ?_;simp only[go_sem];refine B5 q3 ?_;simp only[go_sem];refine B5 q4 ?_;simp only[go_sem,k4,hbn'];refine Aqq (d:=d) (L:=x.body) (l:=l++T++H++[32,123,10]) ihb (Pf w4) (by simp;omega) (by omega) (by omega) fun s5 w5=>?_
   have k5:=w5.2.2.2 s.length _ _ _ _ hbn (by decide) k4;have w5':=Hv w4 w5
   cases hels:x.els with
   | nil=>
    have e0:((0:Int)<((([]:List Sp).map Sp.row).length:Int))=False:=eq_false (by simp);rw[hels]at k5 hl;simp only[Bs]at k5;obtain⟨s6,q6,w6,v6⟩:=Fm w5' T (by simp;omega);obtain⟨s7,q7,w7,v7⟩:=Fm w6 [125,10] (by simp;omega);simp only[go_sem,k5,Int.reduceLT];refine B5 q6 ?_;simp only[go_sem];refine B5 q7 ?_;simp only[go_sem];exact⟨rfl,by simpa using w7⟩
   | cons y ys=>
    rw[hels]at k5 hl le hd hen' ihe;have e0:((0:Int)<((ys.length+1:Nat):Int))=True:=eq_true (by omega);simp only[List.isEmpty_cons,Er,if_false,Am,Ao]at hl ⊢;obtain⟨s6,q6,w6,v6⟩:=Fm w5' T (by simp;omega);have k6:=v6.2.2.2 s.length _ _ _ _ hbn (by decide) k5;obtain⟨s7,q7,w7,v7⟩:=Fm w6 [125,32,101,108,115,101,32,123,10] (by simp;omega);have k7:=v7.2.2.2 s.length _ _ _ _ hbn (by decide) k6;simp only[go_sem,k5,Bl,Am,e0];refine B5 q6 ?_;simp only[go_sem];refine B5 q7 ?_;simp only[go_sem,k7,Bl,Am];refine Aqr (d:=d) (L:=y::ys) (l:=l++T++H++[32,123,10]++Sp.txts (d+1) x.body++T++[125,32,101,108,115,101,32,123,10]) ihe (Pf w7) (by simp;omega) (by omega) (by omega) fun s8 w8=>?_
    obtain⟨s9,q9,w9,v9⟩:=Fm (Hv w7 w8) T (by simp;omega);obtain⟨s10,q10,w10,v10⟩:=Fm w9 [125,10] (by simp;omega);simp only[go_sem];refine B5 q9 ?_;simp only[go_sem];refine B5 q10 ?_;simp only[go_sem];exact⟨rfl,by simpa using w10⟩
