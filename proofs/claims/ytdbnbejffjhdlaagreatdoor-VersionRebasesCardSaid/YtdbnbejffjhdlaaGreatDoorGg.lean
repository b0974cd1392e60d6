/- Walks: the program's texts of statements. -/
import Derived.Test.YtdbnbejffjhdlaaGreatDoorZc
import Derived.Lib.ParseIntB
set_option linter.all false
namespace Go.Proofs.YtdbnbejffjhdlaaGreatDoor.KM
open Go
mutual
def Sp.sz:Sp->Nat
 | ⟨_,_,_,_,_,_,_,_,_,_,body,_,_,els⟩=>1+Sp.szs body+Sp.szs els
def Sp.szs:List Sp->Nat
 | []=>0
 | x::l=>x.sz+Sp.szs l
end
theorem Nk(s:Sp):s.sz=1+Sp.szs s.body+Sp.szs s.els:=by
 obtain⟨op,line,nm,arg,iz,it,idx,ex,bz,bt,body,ez,et,els⟩:=s;rw[Sp.sz]
def Zz:∀ {l:List Sp} {x:Sp},x∈l->x.sz<=Sp.szs l
 | y::l,x,h=>by
  rw[Sp.szs];rcases Bo.1 h with rfl | h
  .omega
  .have:=Zz h;omega
def Bb3(d:Nat)(h:d<=1073741823):X4 [.str [32,32],iV (d:Int)]=some (.str (Ep d)):=by
 unfold X4;simp only;rw[if_pos (by grind)];congr 2;unfold Ep;rw[J0];clear h
 induction d with
 | zero=>rfl
 | succ d ih=>
  grind[Lib.repeatL]
def Fq(x:Sp):x.row=[iV x.op,iV x.line,.str x.nm,.str x.arg,SL x.iz x.it (x.idx.map Xp.row),iV x.ex.op,iV x.ex.n,.str x.ex.nm,SL x.ex.z x.ex.t (x.ex.l.map Xp.row),SL x.bz x.bt (x.body.map Sp.row),SL x.ez x.et (x.els.map Sp.row)]:=by
 simp[Sc,Bj]
def Wr(x:Sp):Prop:=∀ (s:St) (b:Nat) (l:List UInt8) (d:Nat),WB s s b l->l.length+(x.txt d).length<=10000000000000->d+x.sz<=1073741823->∃ s',Th TT PT 165 [.ptr b 0 0,.agg x.row,iV (d:Int)] s (.tup []) s'/\WB s s' b (l++x.txt d)
def Ak7{s0 s:St}{b:Nat}{l:List UInt8}(h:WB s0 s b l)(x:Sp):WB s0 (s++[.row x.row 104 0 0]) b l:=Nf h (by
 have:=Hg x
 exact this)
def A7f{K:List It}{Q:Env->St->Prop}{A6:V}{j4 b d:Nat}{z:Bool}{t:Nat}{L:List Sp}{s0 s:St}{l:List UInt8}(hW:∀ x∈L,Wr x)(h:WB s0 s b l)(hl:l.length+(Sp.txts (d+1) L).length<=10000000000000)(hd:d+1+Sp.szs L<=1073741823)(hn:L.length<=1000000000000000)
  (hk:∀ s',WB s0 s' b (l++Sp.txts (d+1) L)->W TT PT K [(0,.ptr b 0 0),(2,iV (d:Int)),(4,.ptr j4 0 0),(6,A6),(35,SL z t (L.map Sp.row)),(36,iV (L.length:Int)),(37,iV (L.length:Int))] s' Q) :
  W TT PT (.l [0,2,4,6,35,36,37] lp165_0::.b 0::K) [(0,.ptr b 0 0),(2,iV (d:Int)),(4,.ptr j4 0 0),(6,A6),(35,SL z t (L.map Sp.row)),(36,iV (L.length:Int)),(37,iV 0)] s Q:=by
 refine Bh (α:=Nat × St × List UInt8) (fun a=>L.length - a.1) (fun a=>[(0,.ptr b 0 0),(2,iV (d:Int)),(4,.ptr j4 0 0),(6,A6),(35,SL z t (L.map Sp.row)),(36,iV (L.length:Int)),(37,iV (a.1:Int))]) (fun a=>a.2.1) (fun a=>a.1<=L.length/\WB s0 a.2.1 b a.2.2/\a.2.2++Sp.txts (d+1) (L.drop a.1)=l++Sp.txts (d+1) L) ?_ (0,s,l) ⟨Av _,h,rfl⟩;rintro⟨i,s1,c⟩ ⟨hi,hw,hc⟩ ih;simp only at hi hw hc ih;refine Az Bgr ?_;have qc:=congrArg List.length hc;simp only[Aq]at qc;rcases Bb i L.length with h' | h'
 .obtain⟨x,hx,qm,hm⟩:=Bl h';rw[qm,Oj]at hc qc;rw[Aq]at qc;have qq:=Zz hm;obtain⟨s2,e2⟩:∃ s2,s2=s1++[Ob.row x.row 104 0 0]:=⟨_,rfl⟩;have w2:WB s0 s2 b c:=by rw[e2];exact Ak7 hw x
  have k2:s2[s1.length]?=some (.row x.row 104 0 0):=by rw[e2,Fd (An _),Hl];rfl
  obtain⟨s3,q3,v3⟩:=hW x hm s2 b c (d+1) (Uw w2) AA AA;have qb:=Fq x;rw[qb]at e2 k2 q3;rw[e2]at q3 k2;simp only[go_sem,Ar h',Ai,hx,qb,Ay (show d<9223372036854775807 by omega)];refine B8 q3 ?_;simp only[go_sem,Ay (show i<9223372036854775807 by omega)];exact Am (ih (i+1,s3,c++x.txt (d+1)) AA ⟨by omega,K8 w2 v3,by grind⟩) rfl
 .obtain rfl:i=L.length:=by omega
  rw[Dt h',show Sp.txts (d+1) []=[] by rw[Sp.txts],Bw]at hc;subst hc;simp only[go_sem,Bi h'];exact hk s1 hw
def A7g{K:List It}{Q:Env->St->Prop}{A6:V}{b d:Nat}{z:Bool}{t:Nat}{L:List Sp}{s0 s:St}{l:List UInt8}(hW:∀ x∈L,Wr x)(h:WB s0 s b l)(hl:l.length+(Sp.txts (d+1) L).length<=10000000000000)(hd:d+1+Sp.szs L<=1073741823)(hn:L.length<=1000000000000000)
  (hk:∀ s',WB s0 s' b (l++Sp.txts (d+1) L)->W TT PT K [(0,.ptr b 0 0),(2,iV (d:Int)),(6,A6),(57,SL z t (L.map Sp.row)),(58,iV (L.length:Int)),(59,iV (L.length:Int))] s' Q) :
  W TT PT (.l [0,2,6,57,58,59] lp165_1::.b 2::K) [(0,.ptr b 0 0),(2,iV (d:Int)),(6,A6),(57,SL z t (L.map Sp.row)),(58,iV (L.length:Int)),(59,iV 0)] s Q:=by
 refine Bh (α:=Nat × St × List UInt8) (fun a=>L.length - a.1) (fun a=>[(0,.ptr b 0 0),(2,iV (d:Int)),(6,A6),(57,SL z t (L.map Sp.row)),(58,iV (L.length:Int)),(59,iV (a.1:Int))]) (fun a=>a.2.1) (fun a=>a.1<=L.length/\WB s0 a.2.1 b a.2.2/\a.2.2++Sp.txts (d+1) (L.drop a.1)=l++Sp.txts (d+1) L) ?_ (0,s,l) ⟨Av _,h,rfl⟩;rintro⟨i,s1,c⟩ ⟨hi,hw,hc⟩ ih;simp only at hi hw hc ih;refine Az Bgs ?_;have qc:=congrArg List.length hc;simp only[Aq]at qc;rcases Bb i L.length with h' | h'
 .obtain⟨x,hx,qm,hm⟩:=Bl h';rw[qm,Oj]at hc qc;rw[Aq]at qc;have qq:=Zz hm;obtain⟨s2,e2⟩:∃ s2,s2=s1++[Ob.row x.row 104 0 0]:=⟨_,rfl⟩;have w2:WB s0 s2 b c:=by rw[e2];exact Ak7 hw x
  have k2:s2[s1.length]?=some (.row x.row 104 0 0):=by rw[e2,Fd (An _),Hl];rfl
  obtain⟨s3,q3,v3⟩:=hW x hm s2 b c (d+1) (Uw w2) AA AA;have qb:=Fq x;rw[qb]at e2 k2 q3;rw[e2]at q3 k2;simp only[go_sem,Ar h',Ai,hx,qb,Ay (show d<9223372036854775807 by omega)];refine B8 q3 ?_;simp only[go_sem,Ay (show i<9223372036854775807 by omega)];exact Am (ih (i+1,s3,c++x.txt (d+1)) AA ⟨by omega,K8 w2 v3,by grind⟩) rfl
 .obtain rfl:i=L.length:=by omega
  rw[Dt h',show Sp.txts (d+1) []=[] by rw[Sp.txts],Bw]at hc;subst hc;simp only[go_sem,Bi h'];exact hk s1 hw
def A7h{x:Sp}(h:CnS x):Wr x:=by
 induction h with
 | @mk x h1 h2 h3 h4 h5 h6 h7 h8 h9 ihb ihe=>
  intro s b l d h hl hd;have hs:CnS x:=.mk h1 h2 h3 h4 h5 h6 h7 h8 h9;rw[Nk]at hd
  have qg:s.length≠b:=by
   obtain⟨⟨u,p,hb,-⟩,-⟩:=h;have:=(Al.1 hb).1;omega
  rw[Nd]at hl ⊢;simp only[Aq,K9]at hl;have hh:=A7e hs AA;have qf:=Bb3 d AA;have qE:=Hg x;have g0:(1073741823<(d:Int))=False:=eq_false AA;have qC:=K9 d;generalize hH:Ct x=H at hl hh ⊢;generalize hT:Ep d=T at hl qf qC ⊢;refine Ve T165 rfl ?_ rfl rfl (fun σ1 h=>⟨h.2.2.1,h.2.1⟩);obtain⟨s1,e1⟩:∃ s1,s1=s++[Ob.row x.row 104 0 0]:=⟨_,rfl⟩;have w1:WB s s1 b l:=by rw[e1];exact Ak7 h x
  have k1:s1[s.length]?=some (.row x.row 104 0 0):=by rw[e1,Fd (An _),Hl];rfl
  have qb:=Fq x;obtain⟨s2,q2,w2,v2⟩:=Ho w1 T AA;have k2:=v2.2.2.2 s.length _ _ _ _ qg AP k1;obtain⟨s3,q3,w3,v3⟩:=Ho w2 H (by grind);have k3:=v3.2.2.2 s.length _ _ _ _ qg AP k2;rw[qb]at e1 k2 k3 hh ⊢;rw[e1]at q2;cases hb:B3 x.op
  .rw[hb]at hh hl;simp only[Hj,if_false,Bg,Dq]at hl ⊢;obtain⟨s4,q4,w4,v4⟩:=Ho w3 [59,10] (by grind);simp only[go_sem,g0];refine Fu P196 AB qf ?_;simp only[go_sem];refine B8 q2 ?_;simp only[go_sem,k2];refine Ab hh (by grind) ?_;simp only[go_sem];refine B8 q3 ?_;simp only[go_sem];refine B8 q4 ?_;simp only[go_sem];exact⟨rfl,by grind⟩
  .rw[hb]at hh hl;simp only[if_true,Bg,Aq,Dq]at hl ⊢;have lb:=Yw x.body (d+1);have le:=Yw x.els (d+1);have ql:(x.body.map Sp.row).length=x.body.length:=Aj ..;have qn:(x.els.map Sp.row).length=x.els.length:=Aj ..;obtain⟨s4,q4,w4,v4⟩:=Ho w3 [32,123,10] (by grind);have k4:=v4.2.2.2 s.length _ _ _ _ qg AP k3;simp only[go_sem,g0];refine Fu P196 AB qf ?_;simp only[go_sem];refine B8 q2 ?_;simp only[go_sem,k2];refine Ab hh (by grind) ?_;simp only[go_sem];refine B8 q3 ?_;simp only[go_sem];refine B8 q4 ?_;simp only[go_sem,k4,ql];refine A7f (d:=d) (L:=x.body) (l:=l++T++H++[32,123,10]) ihb (Uw w4) (by grind) AA AA fun s5 w5=>?_
   have k5:=w5.2.2.2 s.length _ _ _ _ qg AP k4;have qx:=K8 w4 w5
   cases hels:x.els with
   | nil=>
    have e0:((0:Int)<((([]:List Sp).map Sp.row).length:Int))=False:=eq_false AE;rw[hels]at k5 hl;simp only[Bz]at k5;obtain⟨s6,q6,w6,v6⟩:=Ho qx T (by grind);obtain⟨s7,q7,w7,v7⟩:=Ho w6 [125,10] (by grind);simp only[go_sem,k5,Int.reduceLT];refine B8 q6 ?_;simp only[go_sem];refine B8 q7 ?_;simp only[go_sem];exact⟨rfl,by grind⟩
   | cons y ys=>
    rw[hels]at k5 hl le hd qn ihe;have e0:((0:Int)<((ys.length+1:Nat):Int))=True:=eq_true AA;simp only[List.isEmpty_cons,Hj,if_false,Bg,Aq]at hl ⊢;obtain⟨s6,q6,w6,v6⟩:=Ho qx T (by grind);have k6:=v6.2.2.2 s.length _ _ _ _ qg AP k5;obtain⟨s7,q7,w7,v7⟩:=Ho w6 [125,32,101,108,115,101,32,123,10] (by grind);have k7:=v7.2.2.2 s.length _ _ _ _ qg AP k6;simp only[go_sem,k5,Aj,Bg,e0];refine B8 q6 ?_;simp only[go_sem];refine B8 q7 ?_;simp only[go_sem,k7,Aj,Bg];refine A7g (d:=d) (L:=y::ys) (l:=l++T++H++[32,123,10]++Sp.txts (d+1) x.body++T++[125,32,101,108,115,101,32,123,10]) ihe (Uw w7) (by grind) AA AA fun s8 w8=>?_
    obtain⟨s9,q9,w9,v9⟩:=Ho (K8 w7 w8) T AJ;obtain⟨qL,qG,qN,qM⟩:=Ho w9 [125,10] AJ;simp only[go_sem];refine B8 q9 ?_;simp only[go_sem];refine B8 qG ?_;simp only[go_sem];exact⟨rfl,by simp_all⟩
theorem Awx:∀ (k u:Nat),(O6 k u).length<=k
 | 0,_=>by simp[O6]
 | k+1,u=>by
  have:=Awx k (u / 10)
  grind[O6]
def W2(n:Int):(C0 n).length<=21:=by
 grind[C0,Awx]
def A7i{d:Dp}(h:CnD d)(hn:d.nm.length<=100000000000000)(ho:d.kind=5->d.on.length<=100000000000000):Fn TT PT 38 [.agg d.row] (.str (F6 d++[59,10])):=by
 obtain⟨⟨k1,k2⟩,⟨h0,h1,h2⟩,i1,i2,h3⟩:=h;obtain⟨kind,line,nm,size,init,on⟩:=d;simp only at k1 k2 h0 h1 h2 i1 i2 h3 hn ho;unfold Dp.row;simp only;have l1:=W2 size;have l2:=W2 init;have hk:kind=1\/kind=2\/kind=3\/kind=4\/kind=5\/kind=6:=by omega
 have qq:(size=0/\((0:Int)<0)=False/\True)\/(size≠0/\((0:Int)<size)=True/\Xq [iV size]=some (.str (C0 size))):=by
  by_cases hz:size=0
  .grind
  .exact .inr ⟨hz,eq_true AA,by unfold Xq;grind⟩
 have qs:(init=0/\((0:Int) != 0)=false/\True)\/(init≠0/\(init != 0)=true/\P9 [iV init,iV 10]=some (.str (C0 init))):=by
  by_cases hz:init=0
  .grind
  .simp_all [P9]
 rcases hk with rfl | hk
 .rcases qq with⟨rfl,z1,z2⟩ | ⟨z0,z1,z2⟩<;>rcases qs with⟨rfl,n1,n2⟩ | ⟨n0,n1,n2⟩
  .refine Bc T38 rfl ?_;have a1:Ap .add ([118,97,114,32]) (nm)=some (.str (118::97::114::32::nm)):=As (by grind) AE;have a2:Ap .add (118::97::114::32::nm) ([59,10])=some (.str (118::97::114::32::(nm++[59,10]))):=As (by grind) AE;simp only[go_sem,Int.reduceLT,Int.reduceBEq,gt_iff_lt,z1,n1];refine Ad AD ?_;simp only[go_sem,↓a1,↓a2];simp only[go_sem,z1,n1,Int.reduceBEq,↓a1,↓a2];exact Ae rfl (by simp[F6,P4])
  .refine Bc T38 rfl ?_;have a1:Ap .add ([118,97,114,32]) (nm)=some (.str (118::97::114::32::nm)):=As (by grind) AE;have a2:Ap .add (118::97::114::32::nm) ([32,61,32])=some (.str (118::97::114::32::(nm++[32,61,32]))):=As (by grind) AE;have a3:Ap .add (118::97::114::32::(nm++[32,61,32])) (C0 init)=some (.str (118::97::114::32::(nm++32::61::32::C0 init))):=As AL AE;have a4:Ap .add (118::97::114::32::(nm++32::61::32::C0 init)) ([59,10])=some (.str (118::97::114::32::(nm++32::61::32::(C0 init++[59,10])))):=As AL AE;simp only[go_sem,Int.reduceLT,Int.reduceBEq,gt_iff_lt,z1,n1];refine Ad AD ?_;simp only[go_sem,↓a1,↓a2,↓a3,↓a4];simp only[go_sem,z1,n1,Int.reduceBEq,↓a1,↓a2,↓a3,↓a4];refine Fu P72 AB n2 ?_;simp only[go_sem,z1,n1,Int.reduceBEq,↓a1,↓a2,↓a3,↓a4];exact Ae rfl (by simp[F6,P4,n0])
  .refine Bc T38 rfl ?_;have a1:Ap .add ([118,97,114,32]) (nm)=some (.str (118::97::114::32::nm)):=As (by grind) AE;have a2:Ap .add (118::97::114::32::nm) ([91])=some (.str (118::97::114::32::(nm++[91]))):=As (by grind) AE;have c1:Ap .add (118::97::114::32::(nm++[91])) (C0 size)=some (.str (118::97::114::32::(nm++91::C0 size))):=As (by grind) AE;have c2:Ap .add (118::97::114::32::(nm++91::C0 size)) [93]=some (.str (118::97::114::32::(nm++91::(C0 size++[93])))):=As (by grind) AE;have a3:Ap .add (118::97::114::32::(nm++91::(C0 size++[93]))) ([59,10])=some (.str (118::97::114::32::(nm++91::(C0 size++[93,59,10])))):=As (by grind) AE;simp only[go_sem,Int.reduceLT,Int.reduceBEq,gt_iff_lt,z1,n1];refine Ad AD ?_;simp only[go_sem,↓a1,↓a2,↓c1,↓c2,↓a3];simp only[go_sem,z1,↓a1,↓a2,↓c1,↓c2,↓a3];refine Fu P71 AB z2 ?_;simp only[go_sem,z1,n1,Int.reduceBEq,↓a1,↓a2,↓c1,↓c2,↓a3];exact Ae rfl (by simp[F6,P4,z0])
  .refine Bc T38 rfl ?_;have a1:Ap .add ([118,97,114,32]) (nm)=some (.str (118::97::114::32::nm)):=As (by grind) AE;have a2:Ap .add (118::97::114::32::nm) ([91])=some (.str (118::97::114::32::(nm++[91]))):=As (by grind) AE;have c1:Ap .add (118::97::114::32::(nm++[91])) (C0 size)=some (.str (118::97::114::32::(nm++91::C0 size))):=As (by grind) AE;have c2:Ap .add (118::97::114::32::(nm++91::C0 size)) [93]=some (.str (118::97::114::32::(nm++91::(C0 size++[93])))):=As (by grind) AE;have a3:Ap .add (118::97::114::32::(nm++91::(C0 size++[93]))) ([32,61,32])=some (.str (118::97::114::32::(nm++91::(C0 size++[93,32,61,32])))):=As (by grind) AE;have a4:Ap .add (118::97::114::32::(nm++91::(C0 size++[93,32,61,32]))) (C0 init)=some (.str (118::97::114::32::(nm++91::(C0 size++93::32::61::32::C0 init)))):=As AL AE;have a5:Ap .add (118::97::114::32::(nm++91::(C0 size++93::32::61::32::C0 init))) ([59,10])=some (.str (118::97::114::32::(nm++91::(C0 size++93::32::61::32::(C0 init++[59,10]))))):=As AL AE;simp only[go_sem,Int.reduceLT,Int.reduceBEq,gt_iff_lt,z1,n1];refine Ad AD ?_;simp only[go_sem,↓a1,↓a2,↓c1,↓c2,↓a3,↓a4,↓a5];simp only[go_sem,z1,↓a1,↓a2,↓c1,↓c2,↓a3,↓a4,↓a5];refine Fu P71 AB z2 ?_;simp only[go_sem,z1,n1,Int.reduceBEq,↓a1,↓a2,↓c1,↓c2,↓a3,↓a4,↓a5];refine Fu P72 AB n2 ?_;simp only[go_sem,z1,n1,Int.reduceBEq,↓a1,↓a2,↓c1,↓c2,↓a3,↓a4,↓a5];exact Ae rfl (by simp_all [F6,P4])
 rcases hk with rfl | hk
 .obtain rfl:size=0:=h2 AA;have z1:((0:Int)<0)=False:=eq_false AA;rcases qs with⟨rfl,n1,n2⟩ | ⟨n0,n1,n2⟩
  .refine Bc T38 rfl ?_;have a1:Ap .add ([118,111,108,97,116,105,108,101,32]) (nm)=some (.str (118::111::108::97::116::105::108::101::32::nm)):=As AL AE;have a2:Ap .add (118::111::108::97::116::105::108::101::32::nm) ([59,10])=some (.str (118::111::108::97::116::105::108::101::32::(nm++[59,10]))):=As AL AE;simp only[go_sem,Int.reduceLT,Int.reduceBEq,gt_iff_lt,z1,n1];refine Ad AD ?_;simp only[go_sem,↓a1,↓a2];simp only[go_sem,z1,n1,Int.reduceBEq,↓a1,↓a2];exact Ae rfl (by simp[F6,P4])
  .refine Bc T38 rfl ?_;have a1:Ap .add ([118,111,108,97,116,105,108,101,32]) (nm)=some (.str (118::111::108::97::116::105::108::101::32::nm)):=As AL AE;have a2:Ap .add (118::111::108::97::116::105::108::101::32::nm) ([32,61,32])=some (.str (118::111::108::97::116::105::108::101::32::(nm++[32,61,32]))):=As AL AE;have a3:Ap .add (118::111::108::97::116::105::108::101::32::(nm++[32,61,32])) (C0 init)=some (.str (118::111::108::97::116::105::108::101::32::(nm++32::61::32::C0 init))):=As AL AE;have a4:Ap .add (118::111::108::97::116::105::108::101::32::(nm++32::61::32::C0 init)) ([59,10])=some (.str (118::111::108::97::116::105::108::101::32::(nm++32::61::32::(C0 init++[59,10])))):=As AL AE;simp only[go_sem,Int.reduceLT,Int.reduceBEq,gt_iff_lt,z1,n1];refine Ad AD ?_;simp only[go_sem,↓a1,↓a2,↓a3,↓a4];simp only[go_sem,z1,n1,Int.reduceBEq,↓a1,↓a2,↓a3,↓a4];refine Fu P72 AB n2 ?_;simp only[go_sem,z1,n1,Int.reduceBEq,↓a1,↓a2,↓a3,↓a4];exact Ae rfl (by simp[F6,P4,n0])
 rcases hk with rfl | hk
 .obtain rfl:size=0:=h2 AA;obtain rfl:init=0:=h3 AA AA;have z1:((0:Int)<0)=False:=eq_false AA;have n1:((0:Int) != 0)=false:=by decide
  refine Bc T38 rfl ?_;have a1:Ap .add ([109,117,116,101,120,32]) (nm)=some (.str (109::117::116::101::120::32::nm)):=As AL AE;have a2:Ap .add (109::117::116::101::120::32::nm) ([59,10])=some (.str (109::117::116::101::120::32::(nm++[59,10]))):=As AL AE;simp only[go_sem,Int.reduceLT,Int.reduceBEq,gt_iff_lt,z1,n1];refine Ad AD ?_;simp only[go_sem,↓a1,↓a2];simp only[go_sem,z1,n1,Int.reduceBEq,↓a1,↓a2];exact Ae rfl (by simp[F6])
 rcases hk with rfl | hk
 .obtain rfl:size=0:=h2 AA;obtain rfl:init=0:=h3 AA AA;have z1:((0:Int)<0)=False:=eq_false AA;have n1:((0:Int) != 0)=false:=by decide
  refine Bc T38 rfl ?_;have a1:Ap .add ([114,119,108,111,99,107,32]) (nm)=some (.str (114::119::108::111::99::107::32::nm)):=As AL AE;have a2:Ap .add (114::119::108::111::99::107::32::nm) ([59,10])=some (.str (114::119::108::111::99::107::32::(nm++[59,10]))):=As AL AE;simp only[go_sem,Int.reduceLT,Int.reduceBEq,gt_iff_lt,z1,n1];refine Ad AD ?_;simp only[go_sem,↓a1,↓a2];simp only[go_sem,z1,n1,Int.reduceBEq,↓a1,↓a2];exact Ae rfl (by simp[F6])
 rcases hk with rfl | hk
 .have ho:=ho rfl;obtain rfl:size=0:=h2 AA;obtain rfl:init=0:=h3 AA AA;have z1:((0:Int)<0)=False:=eq_false AA;have n1:((0:Int) != 0)=false:=by decide
  refine Bc T38 rfl ?_;have a1:Ap .add ([99,111,110,100,32]) (nm)=some (.str (99::111::110::100::32::nm)):=As AL AE;have a2:Ap .add (99::111::110::100::32::nm) ([32])=some (.str (99::111::110::100::32::(nm++[32]))):=As (by grind) AE;have a3:Ap .add (99::111::110::100::32::(nm++[32])) (on)=some (.str (99::111::110::100::32::(nm++32::on))):=As AL AE;have a4:Ap .add (99::111::110::100::32::(nm++32::on)) ([59,10])=some (.str (99::111::110::100::32::(nm++32::(on++[59,10])))):=As AL AE;simp only[go_sem,Int.reduceLT,Int.reduceBEq,gt_iff_lt,z1,n1];refine Ad AD ?_;simp only[go_sem,↓a1,↓a2,↓a3,↓a4];simp only[go_sem,z1,n1,Int.reduceBEq,↓a1,↓a2,↓a3,↓a4];exact Ae rfl (by simp[F6])
 subst hk;obtain rfl:size=0:=h2 AA;obtain rfl:init=0:=h3 AA AA;have z1:((0:Int)<0)=False:=eq_false AA;have n1:((0:Int) != 0)=false:=by decide
 refine Bc T38 rfl ?_;have a1:Ap .add ([102,117,116,117,114,101,32]) (nm)=some (.str (102::117::116::117::114::101::32::nm)):=As AL AE;have a2:Ap .add (102::117::116::117::114::101::32::nm) ([59,10])=some (.str (102::117::116::117::114::101::32::(nm++[59,10]))):=As AL AE;simp only[go_sem,Int.reduceLT,Int.reduceBEq,gt_iff_lt,z1,n1];refine Ad AD ?_;simp only[go_sem,↓a1,↓a2];simp only[go_sem,z1,n1,Int.reduceBEq,↓a1,↓a2];exact Ae rfl (by simp[F6])
def A7j{d:Dp}(h:1<=d.kind/\d.kind<=6):d.nm.length<=(F6 d).length/\(d.kind=5->d.on.length<=(F6 d).length):=by
 unfold F6
 grind
def jr:List (List UInt8)->List UInt8
 | []=>[]
 | a::l=>44::32::(a++jr l)
theorem Aka:∀ (a:List UInt8) (l:List (List UInt8)),Fj (a::l)=a++jr l
 | a,[]=>by simp[Fj,jr]
 | a,b::l=>by rw[Fj,Aka b l,jr]
def Tq(l:List (List UInt8))(k:Nat):List UInt8:=if k=0 then Fj l else jr (l.drop k)
def A16(l:List (List UInt8)):l.length<=(Fj l).length+1:=by
 have:∀ l:List (List UInt8),l.length<=(jr l).length:=fun l=>by
  induction l with
  | nil=>simp
  | cons a l ih=>grind[jr]
 cases l with
 | nil=>simp
 | cons a l=>grind[Aka]
def Ahz{α:Type}(f:α->List UInt8)(hf:∀ x,1<=(f x).length):∀ l:List α,l.length<=((l.map f).flatten).length
 | []=>by simp
 | y::l=>by
  have:=Ahz f hf l
  grind
def A39{K:List It}{Q:Env->St->Prop}{A C:V}{l:List (List UInt8)}{z:Bool}{u j0:Nat}{nm:List UInt8}{line:Int}{B:V}{s:St}(hs:s[j0]?=some (.row [.str nm,iV line,SL z u (l.map fun x=>[V.str x]),B] 90 0 0))(qa:List UInt8)(hl:qa.length+(Fj l).length<=100000000000000)
  (h:W TT PT K [(1,A),(3,.str (qa++Fj l)),(5,C),(6,.ptr j0 0 0),(7,iV (l.length:Int))] s Q) :
  W TT PT (.l [1,3,5,6,7] lp12_1::.b 4::K) [(1,A),(3,.str qa),(5,C),(6,.ptr j0 0 0),(7,iV 0)] s Q:=by
 have qK:=A16 l;have qo:(l.map fun x=>[V.str x]).length=l.length:=Aj ..;refine Bh (α:=Nat × List UInt8) (fun a=>l.length - a.1) (fun a=>[(1,A),(3,.str a.2),(5,C),(6,.ptr j0 0 0),(7,iV (a.1:Int))]) (fun _=>s) (fun a=>a.1<=l.length/\a.2++Tq l a.1=qa++Fj l) ?_ (0,qa) ⟨Av _,rfl⟩;rintro⟨i,c⟩ ⟨hi,hc⟩ ih;simp only at hi hc ih;refine Az Bks ?_;have qc:=congrArg List.length hc;simp only[Aq]at qc;rcases Bb i l.length with h' | h'
 .obtain⟨x,hx,hd,hm⟩:=Bl h';have qh:=Ay (show i<9223372036854775807 by omega);by_cases qr:i=0
  .subst qr;have f0:((0:Int)<((0:Nat):Int))=False:=eq_false AA;have qy:((0:Int)<0)=False:=eq_false AA;have f1:((0:Int)<(l.length:Int))=True:=eq_true AA;have qF:l=x::l.drop 1:=by simpa using hd
   have hj:Tq l 0=x++jr (l.drop 1):=by
    unfold Tq;rw[if_pos rfl]
    conv=>lhs;rw[qF]
    exact Aka x _
   rw[hj]at hc qc;rw[Aq]at qc;have a1:Ap .add c x=some (.str (c++x)):=As AA rfl;simp only[go_sem,hs,qo,f1,f0,qy,Ai,hx,↓a1,qh];refine Am (ih (1,c++x) AA ⟨by omega,?_⟩) rfl;simp only;rw[<-hc,Dk];rfl
  .have f0:((0:Int)<(i:Int))=True:=eq_true AA
   have hj:Tq l i=44::32::(x++jr (l.drop (i+1))):=by
    unfold Tq;rw[if_neg qr,hd,jr]
   rw[hj]at hc qc;simp only[Bg,Aq]at qc;have a1:Ap .add c [44,32]=some (.str (c++[44,32])):=As (by grind) rfl;have a2:Ap .add (c++[44,32]) x=some (.str (c++44::32::x)):=As (by grind) AE;simp only[go_sem,hs,qo,Ar h',f0,↓a1];simp only[go_sem,hs,Ai,hx,↓a2,qh];refine Am (ih (i+1,c++44::32::x) AA ⟨by omega,?_⟩) rfl
   simp_all [Tq]
 .obtain rfl:i=l.length:=by omega
  have hj:Tq l l.length=[]:=by
   unfold Tq
   split
   .rename_i h0;rw[List.eq_nil_of_length_eq_zero h0];rfl
   .rw[Dt h'];rfl
  rw[hj,Bw]at hc;subst hc;simp only[go_sem,hs,qo,Bi h'];exact h
def Ash{p:Gp}(h:CnG p)(hl:(Ij p).length<=100000000000000):Fn TT PT 12 [.agg p.row] (.str (Ij p)):=by
 obtain⟨hD,hT⟩:=h;obtain⟨dz,dt,decls,tz,tt,thrs⟩:=p;simp only at hD hT;unfold Ij at hl ⊢;simp only at hl ⊢;unfold Gp.row;simp only;have n1:(decls.map Dp.row).length=decls.length:=Aj ..;have n2:(thrs.map Tp.row).length=thrs.length:=Aj ..;rw[Aq]at hl;have c1:=Ahz (fun d=>F6 d++[59,10]) (fun x=>by simp) decls;have c2:=Ahz Fw (fun x=>by simp[Fw]) thrs;refine Bc T12 rfl ?_;simp only[go_sem];refine Bh (α:=Nat × List UInt8) (fun a=>decls.length - a.1) (fun a=>[(1,.ptr 0 0 0),(3,.str a.2),(4,iV (a.1:Int))]) (fun _=>[.row [SL dz dt (decls.map Dp.row),SL tz tt (thrs.map Tp.row)] 29 0 0]) (fun a=>a.1<=decls.length/\a.2++((decls.drop a.1).map fun d=>F6 d++[59,10]).flatten=(decls.map fun d=>F6 d++[59,10]).flatten) ?_ (0,[]) ⟨Av _,rfl⟩;rintro⟨i,qa⟩ ⟨hi,hc⟩ ih;simp only at hi hc ih;refine Az Bkr ?_;have qc:=congrArg List.length hc;simp only[Aq]at qc;rcases Bb i decls.length with h' | h'
 .obtain⟨x,hx,hd,hm⟩:=Bl h';rw[hd,A2,Fe]at hc qc;simp only[Aq,Bg,Dq]at qc;obtain⟨e1,e2⟩:=A7j (hD x hm).kind;have hf:=A7i (hD x hm) AA (fun h5=>by omega);have a1:Ap .add qa (F6 x++[59,10])=some (.str (qa++(F6 x++[59,10]))):=As (by grind) rfl;have qb:x.row=[iV x.kind,iV x.line,.str x.nm,iV x.size,iV x.init,.str x.on]:=rfl;rw[qb]at hf;simp only[go_sem,n1,Ar h',Ai,hx,qb];refine Ab hf AB ?_;simp only[go_sem,↓a1,Ay (show i<9223372036854775807 by omega)];refine Am (ih (i+1,qa++(F6 x++[59,10])) AA ⟨by omega,?_⟩) rfl
  grind
 .obtain rfl:i=decls.length:=by omega
  rw[Dt h']at hc;simp only[Bz,Acc,Bw]at hc;subst hc;clear ih;simp only[go_sem,n1,Bi h'];refine Bh (α:=Nat × List UInt8 × St) (fun a=>thrs.length - a.1) (fun a=>[(1,.ptr 0 0 0),(3,.str a.2.1),(5,iV (a.1:Int))]) (fun a=>a.2.2) (fun a=>a.1<=thrs.length/\a.2.1++((thrs.drop a.1).map Fw).flatten=(decls.map fun d=>F6 d++[59,10]).flatten++(thrs.map Fw).flatten/\a.2.2[0]?=some (.row [SL dz dt (decls.map Dp.row),SL tz tt (thrs.map Tp.row)] 29 0 0)) ?_ (0,_,_) ⟨Av _,rfl,rfl⟩;rintro⟨i,qa,s⟩ ⟨hi,hc,hs⟩ ih;simp only at hi hc hs ih;refine Az Bkt ?_;have qc:=congrArg List.length hc;simp only[Aq]at qc;rcases Bb i thrs.length with h' | h'
  .obtain⟨x,hx,hd,hm⟩:=Bl h';rw[hd,A2,Fe]at hc qc;rw[Aq]at qc;have qu:=hT x hm;obtain⟨nm,line,lz,lt,locals,bz,bt,body⟩:=x;simp only at qu
   have qD:(Fw ⟨nm,line,lz,lt,locals,bz,bt,body⟩).length=nm.length+(Fj locals).length+(Sp.txts 1 body).length+14:=by
    simp[Fw];omega
   have hb:=Ain bz bt 1 body (fun q hq=>Asf (qu q hq) 1 (by have:=Y3 1 hq;omega)) AA (by grind[Yw]);obtain⟨s',qp⟩:∃ s',s'=s++[Ob.row [.str nm,iV line,SL lz lt (locals.map fun x=>[V.str x]),SL bz bt (body.map Sp.row)] 90 0 0]:=⟨_,rfl⟩;have k1:s'[s.length]?=some (.row [.str nm,iV line,SL lz lt (locals.map fun x=>[V.str x]),SL bz bt (body.map Sp.row)] 90 0 0):=by rw[qp,Fd (An _),Hl];rfl
   have k0:s'[0]?=some (.row [SL dz dt (decls.map Dp.row),SL tz tt (thrs.map Tp.row)] 29 0 0):=by rw[qp];exact Bs hs
   have qb:Tp.row ⟨nm,line,lz,lt,locals,bz,bt,body⟩=[.str nm,iV line,SL lz lt (locals.map fun x=>[V.str x]),SL bz bt (body.map Sp.row)]:=rfl;have a1:Ap .add qa [116,104,114,101,97,100,32]=some (.str (qa++[116,104,114,101,97,100,32])):=As (by grind) rfl;have a2:Ap .add (qa++[116,104,114,101,97,100,32]) nm=some (.str (qa++116::104::114::101::97::100::32::nm)):=As (by grind) AE;have a3:Ap .add (qa++116::104::114::101::97::100::32::nm) [40]=some (.str (qa++116::104::114::101::97::100::32::(nm++[40]))):=As (by grind) AE;simp only[go_sem,hs,n2,Ar h',Ai,hx,qb,↓a1,↓a2,↓a3];rw[<-qp];refine A39 k1 _ AJ ?_;rw[show qa++116::104::114::101::97::100::32::(nm++[40])++Fj locals=qa++116::104::114::101::97::100::32::(nm++40::Fj locals) by simp];have a4:Ap .add (qa++116::104::114::101::97::100::32::(nm++40::Fj locals)) [41,32,123,10]=some (.str (qa++116::104::114::101::97::100::32::(nm++40::(Fj locals++[41,32,123,10])))):=As AJ AE;have a5:Ap .add (qa++116::104::114::101::97::100::32::(nm++40::(Fj locals++[41,32,123,10]))) (Sp.txts 1 body)=some (.str (qa++116::104::114::101::97::100::32::(nm++40::(Fj locals++41::32::123::10::Sp.txts 1 body)))):=As AJ AE;have a6:Ap .add (qa++116::104::114::101::97::100::32::(nm++40::(Fj locals++41::32::123::10::Sp.txts 1 body))) [125,10]=some (.str (qa++116::104::114::101::97::100::32::(nm++40::(Fj locals++41::32::123::10::(Sp.txts 1 body++[125,10]))))):=As AJ AE;simp only[go_sem,k1,↓a4];refine Ab hb AB ?_;simp only[go_sem,↓a5,↓a6,Ay (show i<9223372036854775807 by omega)];refine Am (ih (i+1,qa++Fw ⟨nm,line,lz,lt,locals,bz,bt,body⟩,s') AA ⟨by omega,by grind,k0⟩) (by simp[Fw];rfl)
  .obtain rfl:i=thrs.length:=by omega
   rw[Dt h']at hc;simp only[Bz,Acc,Bw]at hc;subst hc;simp only[go_sem,hs,n2,Bi h'];exact F5 rfl
def Bb4(n:Int):(P4 n).length<=24:=by
 have:=W2 n;unfold P4
 split
 .simp
 .simp only[Bg];omega
def Azv{d:Dp}(h1:d.nm.length<=12)(h2:d.on.length<=12):(F6 d).length<=80:=by
 have a1:=Bb4 d.init;have a2:=W2 d.size
 have a3:(if d.size=0 then [] else 91::(C0 d.size++[93])).length<=23:=by
  split
  .simp
  .simp;omega
 unfold F6
 split
 .simp only[Aq,Bg,Dq];omega
 split
 .simp only[Aq,Bg,Dq];omega
 split
 .simp only[Aq,Bg,Dq];omega
 split
 .simp only[Aq,Bg,Dq];omega
 split
 .simp only[Aq,Bg,Dq];omega
 .simp only[Aq,Bg,Dq];omega
def Aqf(a:List UInt8)(l:List (List UInt8)):(Fj (a::l)).length<=a.length+2+(Fj l).length:=by
 cases l with
 | nil=>simp[Fj]
 | cons b l=>simp only[Fj,Aq,Bg];omega
theorem Gb{v:V}(h:v.rowB=true):v.cellB=true:=by cases v<;>simp[V.rowB]at h<;>rfl
def Ah5{v:V}(h:v.cellB=true):v.cells=[v]/\[v].all V.cellB=true:=⟨by cases v<;>simp[V.cellB]at h<;>rfl,by simp only[Bp,Ce,h];rfl⟩
def Mw(s:List UInt8):List V:=[.str s]
def Awy{s s':St}{m m' e e' qv n:Nat}{u w:V}{ys:List (List V)}(he:e≠e')(hu:u=.nils\/∃ i g cs,u=.sl i g 0 n m true/\s[i]?=some (.row cs e g 0))(h:GW s m' e' qv w ys)(hf:∀ j,(∀ i g,u=.sl i g 0 n m true->j≠i)->j<s.length->s'[j]?=s[j]?):GW s' m' e' qv w ys:=by
 rcases h with h | ⟨hn,j,g,rfl,ho,qt⟩
 .exact .inl h
 .refine .inr ⟨hn,j,g,rfl,?_,qt⟩;rw[hf j ?_ (Al.1 ho).1]
  .exact ho
  .rintro i g' rfl rfl;rcases hu with hu | ⟨i,g2,cs,hu,hs⟩
   .cases hu
   .cases hu;rw[hs]at ho;cases ho;exact he rfl
def Awz{s:St}{m e lo:Nat}{u:V}{xs:List (List V)}(h:GW s m e lo u xs):u=.nils\/∃ i g cs,u=.sl i g 0 xs.length m true/\s[i]?=some (.row cs e g 0):=by
 rcases h with⟨h,-⟩ | ⟨-,i,g,h,ho,-⟩
 .exact .inl h
 .exact .inr ⟨i,g,_,h,ho⟩
def Ux(z:Bool)(t:Nat)(xs:List (List V)):(SL z t xs).rowB=true:=by
 unfold SL
 split<;>rfl
def Asi(x:Tp):x.row.all V.rowB=true:=by
 unfold Tp.row;simp only[Bp,Ce,Ux];rfl
def Ac8(D:List Dp):∀ r∈D.map Dp.row,r.length=6:=by intro r hr;obtain⟨x,-,rfl⟩:=Cs.1 hr;rfl
def Aio(D:List Dp):∀ r∈D.map Dp.row,r.all V.rowB=true:=by intro r hr;obtain⟨x,-,rfl⟩:=Cs.1 hr;rfl
def Ui(D:List Tp):∀ r∈D.map Tp.row,r.length=4:=by intro r hr;obtain⟨x,-,rfl⟩:=Cs.1 hr;rfl
def Ac9(D:List Tp):∀ r∈D.map Tp.row,r.all V.rowB=true:=by intro r hr;obtain⟨x,-,rfl⟩:=Cs.1 hr;exact Asi x
structure Tk where
 kind:Int
 text:List UInt8
 line:Int
def Tk.row(t:Tk):List V:=[iV t.kind,.str t.text,iV t.line]
def Tk.zero:Tk:=⟨0,[],0⟩
def Jt(c:UInt8):Bool:=Md c.toNat
def F8(c:UInt8):Bool:=Rk c.toNat
def O7(c:UInt8):Bool:=Nx c.toNat
def twoS:List (List UInt8):=[[124,124],[38,38],[61,61],[33,61],[60,61],[62,61]]
def oneS:List UInt8:=[60,62,43,45,42,47,37,33,61,40,41,91,93,123,125,44,59]
def greatS:List UInt8:=[57,50,50,51,51,55,50,48,51,54,56,53,52,55,55,53,56,48,55]
def Lz(l:List UInt8):Nat:=
 if decide (2<=l.length)&&twoS.elem (l.take 2) then 2 else
 match l with
 | c::_=>if oneS.elem c then 1 else 0
 | []=>0
def Re(w:List UInt8):Bool:=
 let d:=w.dropWhile (·==48)
 !(decide (19<d.length)||(decide (d.length=19)&&Op.bytesLess greatS d))
def E7(c:UInt8)(r:List UInt8):List UInt8:=c::r.takeWhile O7
def Ew(c:UInt8)(r:List UInt8):List UInt8:=c::r.takeWhile F8
def Vf:List UInt8->Bool
 | d::_=>Jt d||d==95
 | []=>false
def Nl:List UInt8->Option (Int × List UInt8)
 | []=>none
 | c::r=>
  if Jt c then(if 12<(E7 c r).length then none else some (if Hx (E7 c r) then 3 else 1,E7 c r))
  else if F8 c then(if Vf (r.dropWhile F8) then none else if Re (Ew c r) then some (2,Ew c r) else none)
  else if Lz (c::r)=0 then none else some (4,(c::r).take (Lz (c::r)))
def En:Nat->Int->List UInt8->Option (List Tk)
 | _,_,[]=>some []
 | 0,_,_::_=>none
 | n+1,ln,c::r=>
  if c=10 then En n (ln+1) r
  else if c=32\/c=9\/c=13 then En n ln r
  else if c=47/\r.head?=some 47 then En n ln ((c::r).dropWhile (· != 10))
  else match Nl (c::r) with
  | none=>none
  | some (k,w)=>(En n ln ((c::r).drop w.length)).map fun l=>⟨k,w,ln⟩::l
/-! expressions -/
def A1(s:List UInt8):List Tk->Bool
 | t::_=>(t.kind==3||t.kind==4)&&t.text==s
 | []=>false
def opTab:List (List UInt8 × Int × Int):=[([124,124],18,1),([38,38],17,2),([61,61],11,3),([33,61],12,3),([60],13,3),([60,61],14,3),([62],15,3),([62,61],16,3),([43],6,4),([45],7,4),([42],8,5),([47],9,5),([37],10,5)]
def Jy(s:List UInt8):Int × Int:=(opTab.lookup s).getD (0,0)
def I6(qd:Nat):List Tk->Int
 | t::_=>if t.kind=4 then(if(Jy t.text).2=(qd:Int) then(Jy t.text).1 else 0) else 0
 | []=>0
def K1(w:List UInt8):Int:=
 match Lib.parseIntB 64 w with
 | .ok v=>v
 | _=>0
def Mx(op:Int)(x y:Xp):Xp:=⟨op,0,[],true,1,[x,y]⟩
def Rq(op:Int)(x:Xp):Xp:=⟨op,0,[],true,1,[x]⟩
mutual
def pe:Nat->Nat->List Tk->Option (Xp × List Tk)
 | 0,_,_=>none
 | n+1,qd,ts=>if 5<qd then pu n ts else
  match pe n (qd+1) ts with
  | none=>none
  | some (x,r)=>lp n qd x r
def lp:Nat->Nat->Xp->List Tk->Option (Xp × List Tk)
 | 0,_,_,_=>none
 | n+1,qd,x,ts=>if I6 qd ts=0 then some (x,ts) else
  match pe n (qd+1) ts.tail with
  | none=>none
  | some (y,r)=>if qd=3 then some (Mx (I6 qd ts) x y,r) else lp n qd (Mx (I6 qd ts) x y) r
def pu:Nat->List Tk->Option (Xp × List Tk)
 | 0,_=>none
 | n+1,ts=>if A1 [45] ts then(match pu n ts.tail with
   | none=>none
   | some (x,r)=>some (Rq 4 x,r))
  else if A1 [33] ts then(match pu n ts.tail with
   | none=>none
   | some (x,r)=>some (Rq 5 x,r))
  else pp n ts
def pp:Nat->List Tk->Option (Xp × List Tk)
 | 0,_=>none
 | _+1,[]=>none
 | n+1,t::ts=>if t.kind=2 then some (⟨1,K1 t.text,[],true,0,[]⟩,ts)
  else if t.kind=1 then
   (if A1 [91] ts then(match pe n 1 ts.tail with
    | none=>none
    | some (x,r)=>if A1 [93] r then some (⟨3,0,t.text,true,1,[x]⟩,r.tail) else none)
   else some (⟨2,0,t.text,true,0,[]⟩,ts))
  else if A1 [40] (t::ts) then(match pe n 1 ts with
   | none=>none
   | some (x,r)=>if A1 [41] r then some (x,r.tail) else none)
  else none
end
/-! statements -/
def wordTab:List (List UInt8 × Int):=[([105,102],2),([119,104,105,108,101],3),([108,111,99,107],4),([114,101,97,100],5),([119,114,105,116,101],6),([116,114,97,110,115,97,99,116,105,111,110],7),([97,116,111,109,105,99],8),([119,97,105,116],9),([110,111,116,105,102,121],10),([110,111,116,105,102,121,97,108,108],11),([115,112,97,119,110],12),([106,111,105,110],13),([115,101,116],14),([103,101,116],15)]
def Eo(s:List UInt8):Int:=(wordTab.lookup s).getD 0
def Dh:List Tk->Option (List UInt8 × List Tk)
 | t::ts=>if t.kind=1 then some (t.text,ts) else none
 | []=>none
def Ic:List Tk->Option (Int × List Tk)
 | t::ts=>if t.kind=2 then some (K1 t.text,ts) else none
 | []=>none
def Eb(s:List UInt8)(ts:List Tk):Option (List Tk):=if A1 s ts then some ts.tail else none
def Au(op line:Int):Sp:=⟨op,line,[],[],true,0,[],Xp.zero,true,0,[],true,0,[]⟩
def AM{p:Prop}(h:p:=by simp[Au]):p:=h
def Anf(n:Nat)(ts:List Tk):Option (List Xp × List Tk):=
 if A1 [91] ts then
  match pe n 1 ts.tail with
  | none=>none
  | some (x,r)=>(Eb [93] r).map fun r=>([x],r)
 else some ([],ts)
def Vn(n:Nat)(line:Int)(ts:List Tk):Option (Sp × List Tk):=
 match Dh ts with
 | none=>none
 | some (nm,ts)=>
  match Anf n ts with
  | none=>none
  | some (ix,ts)=>
   match Eb [61] ts with
   | none=>none
   | some ts=>
    match pe n 1 ts with
    | none=>none
    | some (x,ts)=>(Eb [59] ts).map fun ts=>({ Au 1 line with nm:=nm,it:=ix.length,idx:=ix,ex:=x },ts)
mutual
def I8:Nat->List Tk->Option (Sp × List Tk)
 | 0,_=>none
 | _+1,[]=>none
 | n+1,t::ts=>
  if t.kind=1 then Vn n t.line (t::ts)
  else if t.kind=3 then
   (if Eo t.text=0 then none
   else if Eo t.text=2\/Eo t.text=3 then
    (match pe n 1 ts with
    | none=>none
    | some (x,ts)=>
     match Fz n ts with
     | none=>none
     | some (b,ts)=>
      if Eo t.text=2/\A1 [101,108,115,101] ts=true then
       (match Fz n ts.tail with
       | none=>none
       | some (e,ts)=>some ({ Au (Eo t.text) t.line with ex:=x,body:=b,els:=e },ts))
      else some ({ Au (Eo t.text) t.line with ex:=x,body:=b },ts))
   else if Eo t.text=7\/Eo t.text=8 then
    (match Fz n ts with
    | none=>none
    | some (b,ts)=>some ({ Au (Eo t.text) t.line with body:=b },ts))
   else
    (match Dh ts with
    | none=>none
    | some (nm,ts)=>
     if Eo t.text=4\/Eo t.text=5\/Eo t.text=6 then
      (match Fz n ts with
      | none=>none
      | some (b,ts)=>some ({ Au (Eo t.text) t.line with nm:=nm,body:=b },ts))
     else if Eo t.text=14 then
      (match pe n 1 ts with
      | none=>none
      | some (x,ts)=>(Eb [59] ts).map fun ts=>({ Au (Eo t.text) t.line with nm:=nm,ex:=x },ts))
     else if Eo t.text=15 then
      (match Dh ts with
      | none=>none
      | some (ar,ts)=>(Eb [59] ts).map fun ts=>({ Au (Eo t.text) t.line with nm:=nm,arg:=ar },ts))
     else(Eb [59] ts).map fun ts=>({ Au (Eo t.text) t.line with nm:=nm },ts)))
  else none
def Fz:Nat->List Tk->Option (List Sp × List Tk)
 | 0,_=>none
 | n+1,ts=>if A1 [123] ts then Ln n ts.tail else none
def Ln:Nat->List Tk->Option (List Sp × List Tk)
 | 0,_=>none
 | n+1,ts=>if A1 [125] ts then some ([],ts.tail) else
  match I8 n ts with
  | none=>none
  | some (s,r)=>
   match Ln n r with
   | none=>none
   | some (l,r)=>some (s::l,r)
end
/-! declarations, threads, programs -/
def declTab:List (List UInt8 × Int):=[([118,97,114],1),([118,111,108,97,116,105,108,101],2),([109,117,116,101,120],3),([114,119,108,111,99,107],4),([99,111,110,100],5),([102,117,116,117,114,101],6)]
def H9(s:List UInt8):Int:=(declTab.lookup s).getD 0
def Xs(ts:List Tk):Option (Int × List Tk):=
 if A1 [91] ts then
  match Ic ts.tail with
  | none=>none
  | some (n,r)=>if n=0 then none else(Eb [93] r).map fun r=>(n,r)
 else some (0,ts)
def Ta(ts:List Tk):Option (Int × List Tk):=
 if A1 [61] ts then
  if A1 [45] ts.tail then(Ic ts.tail.tail).map fun p=>(-p.1,p.2) else Ic ts.tail
 else some (0,ts)
def Vg:List Tk->Option (Dp × List Tk)
 | []=>none
 | t::ts=>
  match Dh ts with
  | none=>none
  | some (nm,ts)=>
   if H9 t.text=1 then
    (match Xs ts with
    | none=>none
    | some (sz,ts)=>
       match Ta ts with
       | none=>none
       | some (i,ts)=>(Eb [59] ts).map fun ts=>(⟨1,t.line,nm,sz,i,[]⟩,ts))
   else if H9 t.text=2 then
    (match Ta ts with
    | none=>none
    | some (i,ts)=>(Eb [59] ts).map fun ts=>(⟨2,t.line,nm,0,i,[]⟩,ts))
   else if H9 t.text=5 then
    (match Dh ts with
    | none=>none
    | some (on,ts)=>(Eb [59] ts).map fun ts=>(⟨5,t.line,nm,0,0,on⟩,ts))
   else(Eb [59] ts).map fun ts=>(⟨H9 t.text,t.line,nm,0,0,[]⟩,ts)
def Sz:List Tk->Bool
 | t::_=>t.kind==3&&H9 t.text != 0
 | []=>false
def Mr:Nat->List Tk->Option (List Dp × List Tk)
 | 0,_=>none
 | n+1,ts=>if Sz ts then
   (match Vg ts with
   | none=>none
   | some (d,r)=>
    match Mr n r with
    | none=>none
    | some (l,r)=>some (d::l,r))
  else some ([],ts)
def Ny:Nat->List Tk->Option (List (List UInt8) × List Tk)
 | 0,_=>none
 | n+1,ts=>
  match Dh ts with
  | none=>none
  | some (nm,ts)=>
   if A1 [44] ts then
    (match Ny n ts.tail with
    | none=>none
    | some (l,r)=>some (nm::l,r))
   else(Eb [41] ts).map fun ts=>([nm],ts)
def Amb(n:Nat)(ts:List Tk):Option (List (List UInt8) × List Tk):=if A1 [41] ts then some ([],ts.tail) else Ny n ts
def Vo(n:Nat):List Tk->Option (Tp × List Tk)
 | []=>none
 | t::ts=>
  match Dh ts with
  | none=>none
  | some (nm,ts)=>
   match Eb [40] ts with
   | none=>none
   | some ts=>
    match Amb n ts with
    | none=>none
    | some (l,ts)=>
       match Fz n ts with
       | none=>none
       | some (b,ts)=>some (⟨nm,t.line,true,0,l,true,0,b⟩,ts)
def Agt:List UInt8:=[116,104,114,101,97,100]
def Mt(m:Nat):Nat->List Tk->Option (List Tp × List Tk)
 | 0,_=>none
 | n+1,ts=>if A1 Agt ts then
   (match Vo m ts with
   | none=>none
   | some (t,r)=>
    match Mt m n r with
    | none=>none
    | some (l,r)=>some (t::l,r))
  else some ([],ts)
def Nr(k:Nat):Nat:=10*k+20
def Aa6(ts:List Tk):Option (Gp × List Tk):=
 match Mr (ts.length+1) ts with
 | none=>none
 | some (ds,r)=>
  match Mt (Nr ts.length) (ts.length+1) r with
  | none=>none
  | some (l,r)=>if l.isEmpty then none else some (⟨true,0,ds,true,0,l⟩,r)
def Ox(s:List UInt8):Option Gp:=
 if 4096<s.length then none else
 match En s.length 1 s with
 | none=>none
 | some ts=>
  match Aa6 ts with
  | some (p,[])=>some p
  | _=>none
/-! the rows' flags say nothing -/
mutual
def Af5:Xp->Xp->Bool
 | ⟨op,n,nm,_,_,l⟩,⟨op',n',nm',_,_,l'⟩=>op==op'&&(n==n'&&(nm==nm'&&U3 l l'))
def U3:List Xp->List Xp->Bool
 | [],[]=>true
 | x::l,y::l'=>Af5 x y&&U3 l l'
 | [],_::_=>false
 | _::_,[]=>false
end
abbrev Kt:=Int × List UInt8
def Agu(o:Int × List Kt)(qi:Int):List Kt:=if Bu o.1<qi then(4,[40])::(o.2++[(4,[41])]) else o.2
def Ayp(op n:Int)(nm:List UInt8)(ts:List (Int × List Kt)):List Kt:=
 if op=1 then [(2,C0 n)] else if op=2 then [(1,nm)] else
 match ts with
 | [a]=>if op=3 then(1,nm)::(4,[91])::(a.2++[(4,[93])]) else(4,Cq op)::Agu a 6
 | [a,b]=>Agu a (Ii op)++(4,Cq op)::Agu b (Bu op+1)
 | _=>[]
mutual
def Xp.toks:Xp->List Kt
 | ⟨op,n,nm,_,_,l⟩=>Ayp op n nm (Xp.tokss l)
def Xp.tokss:List Xp->List (Int × List Kt)
 | []=>[]
 | x::l=>(x.op,x.toks)::Xp.tokss l
end
inductive ShE:Xp->Prop
 | num {n:Int} {z:Bool} {t:Nat}:0<=n/\n<=9223372036854775807->ShE ⟨1,n,[],z,t,[]⟩
 | name {nm:List UInt8} {z:Bool} {t:Nat}:B0 nm=true->ShE ⟨2,0,nm,z,t,[]⟩
 | idx {nm:List UInt8} {z:Bool} {t:Nat} {a:Xp}:B0 nm=true->ShE a->ShE ⟨3,0,nm,z,t,[a]⟩
 | un {op:Int} {z:Bool} {t:Nat} {a:Xp}:op=4\/op=5->ShE a->ShE ⟨op,0,[],z,t,[a]⟩
 | bin {op:Int} {z:Bool} {t:Nat} {a b:Xp}:6<=op/\op<=18->ShE a->ShE b->ShE ⟨op,0,[],z,t,[a,b]⟩
def A7k:((List.range 18).all fun i=>decide ((Cq ((i:Int)+1)).length<=2/\1<=Bu ((i:Int)+1)/\Bu ((i:Int)+1)<=7))=true:=by decide
def Bb5{op:Int}(h:1<=op/\op<=18):∃ i:Nat,i<18/\op=(i:Int)+1:=⟨(op - 1).toNat,by omega,by omega⟩
theorem Au5{op:Int}(h:1<=op/\op<=18):(Cq op).length<=2/\1<=Bu op/\Bu op<=7:=by
 obtain⟨i,hi,rfl⟩:=Bb5 h;exact of_decide_eq_true (B6.1 A7k i (Gw.2 hi))
def Aw0{x:Xp}(h:ShE x):Cn x:=by
 induction h with
 | num h=>exact .num AA
 | name _=>exact .name
 | idx _ _ ih=>exact .idx ih
 | un h _ ih=>exact .un h ih
 | bin h _ _ ih1 ih2=>exact .bin h ih1 ih2
/-! what a shaped program has -/
def Aw1(x:Xp):Prop:=x.op=0/\x.n=0/\x.nm=[]/\x.l=[]
def Gx(op:Int):Bool:=op==2||(op==3||(op==7||op==8))
def Fg(op:Int):Bool:=op==1||(op==2||(op==3||op==14))
inductive ShS:Sp->Prop
 | mk {s:Sp}:1<=s.op/\s.op<=15->(Gx s.op=true->s.nm=[])->(Gx s.op=false->B0 s.nm=true)->(s.op=15->B0 s.arg=true)->(s.op≠15->s.arg=[]) ->
   s.idx.length<=1->(s.op≠1->s.idx=[])->(∀ x∈s.idx,ShE x)->(Fg s.op=true->ShE s.ex)->(Fg s.op=false->Aw1 s.ex) ->
   (B3 s.op=false->s.body=[])->(s.op≠2->s.els=[])->(∀ x∈s.body,ShS x)->(∀ x∈s.els,ShS x)->ShS s
structure ShD (d:Dp):Prop where
 kind:1<=d.kind/\d.kind<=6
 nm:B0 d.nm=true
 size:0<=d.size/\d.size<=9223372036854775807/\(d.kind≠1->d.size=0)
 init : -9223372036854775808<d.init/\d.init<=9223372036854775807/\(d.kind≠1->d.kind≠2->d.init=0)
 on:(d.kind=5->B0 d.on=true)/\(d.kind≠5->d.on=[])
structure ShG (p:Gp):Prop where
 decls:∀ d∈p.decls,ShD d
 nms:∀ t∈p.thrs,B0 t.nm=true
 locs:∀ t∈p.thrs,∀ s∈t.locals,B0 s=true
 thrs:∀ t∈p.thrs,∀ s∈t.body,ShS s
 some:p.thrs≠[]
def Ak8{s:Sp}(h:ShS s):CnS s:=by
 induction h with
 | mk h1 h2 h3 h4 h5 h6 h7 h8 h9 h10 h11 h12 h13 h14 ih1 ih2=>
  refine .mk h1 h6 h7 (fun x hx=>Aw0 (h8 x hx)) (fun hv=>Aw0 (h9 ?_)) h11 h12 ih1 ih2
  rcases hv with h | h | h | h<;>rw[h]<;>rfl
def Ak9{p:Gp}(h:ShG p):CnG p:=⟨fun d hd=>let h:=h.decls d hd;⟨h.kind,h.size,by have:=h.init;omega,by have:=h.init;omega,h.init.2.2⟩,fun t ht s hs=>Ak8 (h.thrs t ht s hs)⟩
/-! equal apart from lines -/
mutual
def Amc:Sp->Sp->Bool
 | ⟨op,_,nm,arg,_,_,idx,ex,_,_,body,_,_,els⟩,⟨op',_,nm',arg',_,_,idx',ex',_,_,body',_,_,els'⟩=>op==op'&&(nm==nm'&&(arg==arg'&&(Af5 ex ex'&&(U3 idx idx'&&(Aam body body'&&Aam els els')))))
def Aam:List Sp->List Sp->Bool
 | [],[]=>true
 | x::l,y::l'=>Amc x y&&Aam l l'
 | [],_::_=>false
 | _::_,[]=>false
end
/-! tokens -/
def Boz(l:List Xp):List Kt:=match l with
 | a::_=>(4,[91])::(a.toks++[(4,[93])])
 | []=>[]
def Bnb(s:Sp):List Kt:=
 if s.op=1 then(1,s.nm)::(Boz s.idx++(4,[61])::s.ex.toks)
 else if s.op=2\/s.op=3 then(3,C7 s.op)::s.ex.toks
 else if s.op=7\/s.op=8 then [(3,C7 s.op)]
 else if s.op=14 then(3,C7 s.op)::(1,s.nm)::s.ex.toks
 else if s.op=15 then [(3,C7 s.op),(1,s.nm),(1,s.arg)]
 else [(3,C7 s.op),(1,s.nm)]
def Bnc:List UInt8:=[101,108,115,101]
mutual
def Sp.toks:Sp->List Kt
 | ⟨op,line,nm,arg,iz,it,idx,ex,bz,bt,body,ez,et,els⟩=>
  Bnb ⟨op,line,nm,arg,iz,it,idx,ex,bz,bt,body,ez,et,els⟩ ++
   if B3 op then(4,[123])::(Sp.tokss body++(4,[125])::(if els.isEmpty then [] else(3,Bnc)::(4,[123])::(Sp.tokss els++[(4,[125])]))) else [(4,[59])]
def Sp.tokss:List Sp->List Kt
 | []=>[]
 | x::l=>x.toks++Sp.tokss l
end
theorem Z0(p:UInt8->Bool):∀ l:List UInt8,(l.dropWhile p).length<=l.length
 | []=>An _
 | c::r=>by
  rw[Ab6]
  split
  .exact Nat.le_succ_of_le (Z0 p r)
  omega
theorem Au6{c:UInt8}{r:List UInt8}(h:Lz (c::r)≠0):1<=Lz (c::r)/\Lz (c::r)<=(c::r).length:=by
 unfold Lz at h ⊢
 grind
def Acy{c:UInt8}{r:List UInt8}{k:Int}{w:List UInt8}(h:Nl (c::r)=some (k,w)):1<=w.length/\∃ q,c::r=w++q:=by
 unfold Nl at h;simp only at h
 split at h
 .split at h
  .cases h
  .cases h;exact⟨by simp[E7],r.dropWhile O7,by simp[E7]⟩
 .split at h
  .split at h
   .cases h
   .split at h
    .cases h;exact⟨by simp[Ew],r.dropWhile F8,by simp[Ew]⟩
    grind
  .split at h
   .cases h
   grind[Au6,List.take_append_drop]
def Zf:∀ (n m:Nat) (ln:Int) (l:List UInt8),l.length<=n->l.length<=m->En n ln l=En m ln l
 | n,m,ln,[],_,_=>by cases n<;>cases m<;>rfl
 | 0,_,_,_::_,h,_=>by simp at h
 | _+1,0,_,_::_,_,h=>by simp at h
 | n+1,m+1,ln,c::r,h1,h2=>by
  rw[Bg]at h1 h2;unfold En;by_cases e1:c=10
  .rw[if_pos e1,if_pos e1];exact Zf n m _ r AA AA
  rw[if_neg e1,if_neg e1];by_cases e2:c=32\/c=9\/c=13
  .rw[if_pos e2,if_pos e2];exact Zf n m _ r AA AA
  rw[if_neg e2,if_neg e2];by_cases e3:c=47/\r.head?=some 47
  .rw[if_pos e3,if_pos e3]
   have hd:((c::r).dropWhile (· != 10)).length<=r.length:=by
    rw[Ab6,if_pos (by simp[e1])];exact Z0 _ r
   exact Zf n m _ _ AA AA
  rw[if_neg e3,if_neg e3]
  cases hf:Nl (c::r) with
  | none=>rfl
  | some p=>
   obtain⟨k,w⟩:=p;have hw:=(Acy hf).1;simp only;rw[Zf n m ln _ (by grind) (by grind)]
def cons(ks:List Kt)(o:Option (List Kt)):Option (List Kt):=o.map fun l=>ks++l
def Wk(c:UInt8)(r:List UInt8):Nl (c::r)=if Jt c then(if 12<(E7 c r).length then none else some (if Hx (E7 c r) then 3 else 1,E7 c r))
  else if F8 c then(if Vf (r.dropWhile F8) then none else if Re (Ew c r) then some (2,Ew c r) else none)
  else if Lz (c::r)=0 then none else some (4,(c::r).take (Lz (c::r))):=rfl
def A4a:((List.range 256).all fun n=>!Md n||(decide (n≠10)&&(decide (n≠32)&&(decide (n≠9)&&(decide (n≠13)&&(decide (n≠47)&&(decide (n≠61)&&Nx n)))))))=true:=by decide +kernel
def Xt{c:UInt8}{n:Nat}(hn:n<256)(h:c.toNat≠n):c≠UInt8.ofNat n:=by
 intro e
 simp_all
theorem Bb6{c:UInt8}(h:Jt c=true):(c≠10/\c≠32/\c≠9/\c≠13)/\c≠47/\c≠61/\O7 c=true:=by
 have:=B6.1 A4a c.toNat (Gw.2 c.toNat_lt);unfold Jt at h;rw[h]at this;simp only[Ba,Aci,Ak,decide_eq_true_eq]at this;obtain⟨a1,a2,a3,a4,a5,a6,a7⟩:=this;exact⟨⟨Xt (n:=10) AP a1,Xt (n:=32) AP a2,Xt (n:=9) AP a3,Xt (n:=13) AP a4⟩,Xt (n:=47) AP a5,Xt (n:=61) AP a6,a7⟩
def A7l{l:List UInt8}(h:B0 l=true):∃ c cs,l=c::cs/\Jt c=true/\(∀ d∈cs,O7 d=true)/\(c::cs).length<=12/\Hx l=false:=by
 unfold B0 at h;simp only[Ak,decide_eq_true_eq,N8,B6,Gw]at h;obtain⟨h1,h2,h3,h4⟩:=h
 cases l with
 | nil=>grind
 | cons c cs=>
  refine⟨c,cs,rfl,?_,fun d hd=>?_,h2,h3⟩
  .grind[Jx,Jt]
  .obtain⟨i,hi,rfl⟩:=List.mem_iff_getElem.1 hd;have:=h4 (i+1) (by grind);unfold Jx at this;simp only[List.getD_cons_succ]at this;rw[E0,Cd hi]at this;simp only[V2]at this;unfold O7 Nx
   grind
def Bb7{op:Int}{z:Bool}{t:Nat}{a b:Xp}(h:6<=op/\op<=18):Xp.txt ⟨op,0,[],z,t,[a,b]⟩=Ec (a.op,a.txt) (Ii op)++32::(Cq op++32::Ec (b.op,b.txt) (Bu op+1)):=by
 simp only[Xp.txt,Xp.txts,Eh]
 grind
def Bg8{op:Int}{z:Bool}{t:Nat}{a:Xp}(h:op=4\/op=5):Xp.txt ⟨op,0,[],z,t,[a]⟩=Cq op++Ec (a.op,a.txt) 6/\Xp.toks ⟨op,0,[],z,t,[a]⟩=(4,Cq op)::Agu (a.op,a.toks) 6:=by
 simp only[Xp.txt,Xp.txts,Eh,Xp.toks,Xp.tokss,Ayp]
 grind
def Io(qa:Nat)(l:List UInt8):Nat:=l.foldl (fun a c=>a*10+(c.toNat - 48)) qa
def Lj(l:List UInt8):Prop:=∀ c∈l,F8 c=true
theorem Ae8(qa:Nat):Io qa []=qa:=rfl
theorem Ae9(qa:Nat)(c:UInt8)(r:List UInt8):Io qa (c::r)=Io (qa*10+(c.toNat - 48)) r:=by grind[Io]
def U4{c:UInt8}{l:List UInt8}(h:Lj (c::l)):Lj l:=fun d hd=>h d (Db _ hd)
def Bg9{c:UInt8}(h:F8 c=true):48<=c.toNat/\c.toNat<=57:=by
 grind[F8,Rk]
def Xd{c:UInt8}{l:List UInt8}(h:Lj (c::l)):48<=c.toNat/\c.toNat<=57:=Bg9 (h c Cr)
def Z1:∀ (l:List UInt8) (qa:Nat),qa*10 ^ l.length<=Io qa l
 | [],qa=>by grind[Ae8]
 | c::l,qa=>by
  have:=Z1 l (qa*10+(c.toNat - 48));have h1:qa*10*10 ^ l.length<=(qa*10+(c.toNat - 48))*10 ^ l.length:=Fl _ AA;have e:qa*10 ^ (l.length+1)=qa*10*10 ^ l.length:=by rw[Nat.pow_succ,Ahv (10 ^ l.length),Nat.mul_assoc]
  rw[Bg,e];exact Dc h1 this
def Aef:∀ (l:List UInt8) (qa:Nat),Lj l->Io qa l<(qa+1)*10 ^ l.length
 | [],qa,_=>by grind[Ae8]
 | c::l,qa,h=>by
  have:=Aef l (qa*10+(c.toNat - 48)) (U4 h);have hc:=Xd h;have h1:(qa*10+(c.toNat - 48)+1)*10 ^ l.length<=(qa*10+10)*10 ^ l.length:=Fl _ AA;have e:(qa+1)*10 ^ (l.length+1)=(qa*10+10)*10 ^ l.length:=by rw[Nat.pow_succ,Ahv (10 ^ l.length),<-Nat.mul_assoc,show(qa+1)*10=qa*10+10 by omega]
  rw[Bg,e];exact Pd this h1
def Asj:∀ (a b:List UInt8) (qa:Nat),Lj a->Lj b->a.length=b.length->Op.bytesLess a b=decide (Io qa a<Io qa b)
 | [],[],qa,_,_,_=>by simp[Op.bytesLess]
 | [],_::_,_,_,_,h=>by simp at h
 | _::_,[],_,_,_,h=>by simp at h
 | x::a,y::b,qa,ha,hb,h=>by
  have hx:=Xd ha;have hy:=Xd hb;have hl:a.length=b.length:=by simpa using h
  simp only[Op.bytesLess];by_cases h1:x<y
  .have qz:x.toNat<y.toNat:=h1;rw[decide_eq_true h1,Bool.true_or]
   symm
   rw[decide_eq_true_eq];have p1:=Aef a (qa*10+(x.toNat - 48)) (U4 ha);have p2:=Z1 b (qa*10+(y.toNat - 48));have p3:(qa*10+(x.toNat - 48)+1)*10 ^ a.length<=(qa*10+(y.toNat - 48))*10 ^ a.length:=Fl _ AA
   grind[Ae9]
  .rw[decide_eq_false h1,Aci];have qz:y.toNat<=x.toNat:=Nat.le_of_not_lt h1;by_cases h2:x=y
   .subst h2;rw[beq_self_eq_true,Acg];exact Asj a b _ (U4 ha) (U4 hb) hl
   .have qH:y.toNat<x.toNat:=by
     have:x.toNat≠y.toNat:=fun e=>h2 (UInt8.toNat_inj.1 e)
     omega
    rw[beq_eq_false_iff_ne.2 h2,V7]
    symm
    rw[decide_eq_false_iff_not];have p1:=Aef b (qa*10+(y.toNat - 48)) (U4 hb);have p2:=Z1 a (qa*10+(x.toNat - 48));have p3:(qa*10+(y.toNat - 48)+1)*10 ^ b.length<=(qa*10+(x.toNat - 48))*10 ^ b.length:=Fl _ AA
    grind[Ae9]
def Ask:∀ (l:List UInt8),Io 0 (l.dropWhile (·==48))=Io 0 l
 | []=>rfl
 | c::l=>by
  rw[Ab6]
  split
  .rename_i h;have hc:c=48:=by simpa using h
   subst hc;rw[Ask l];rfl
  .rfl
def Aqg:∀ {l:List UInt8},Lj l->Lj (l.dropWhile (·==48))/\∀ c r,l.dropWhile (·==48)=c::r->49<=c.toNat
 | [],_=>⟨fun _ h=>by simp at h,fun c r h=>by simp at h⟩
 | c::l,h=>by
  rw[Ab6]
  split
  .exact Aqg (U4 h)
  .rename_i hc;refine⟨h,fun d r e=>?_⟩;cases e;have:=Xd h;have h2:c.toNat≠48:=fun e=>hc (by simp[UInt8.toNat_inj.1 (show c.toNat=(48:UInt8).toNat from e)])
   omega
def Aqh{w:List UInt8}(h:Lj w):Re w=decide (Io 0 w<=9223372036854775807):=by
 obtain⟨h1,h2⟩:=Aqg h;rw[<-Ask w];unfold Re;simp only;generalize w.dropWhile (·==48)=d at h1 h2 ⊢;have hg:Io 0 greatS=9223372036854775807:=by decide
 have qB:Lj greatS:=fun c hc=>by
  have:greatS.all F8=true:=by decide
  grind
 by_cases hl:19<d.length
 .rw[decide_eq_true hl,Bool.true_or,Ba]
  symm
  rw[decide_eq_false_iff_not]
  match d,hl,h1,h2 with
  | c::r,hl,h1,h2=>
   have hc:=h2 c r rfl;have qt:=Z1 r (0*10+(c.toNat - 48));simp only[Ae9,Ae8];have:10 ^ 19<=10 ^ r.length:=Nat.pow_le_pow_right AP (by grind);have h3:1*10 ^ r.length<=(0*10+(c.toNat - 48))*10 ^ r.length:=Fl _ AA;omega
 .rw[decide_eq_false hl,Aci];by_cases qk:d.length=19
  .rw[decide_eq_true qk,Acg,Asj greatS d 0 qB h1 (by rw[qk];rfl),hg]
   grind
  .rw[decide_eq_false qk,V7,Bd]
   symm
   rw[decide_eq_true_eq];have qJ:=Aef d 0 h1;have:10 ^ d.length<=10 ^ 18:=Nat.pow_le_pow_right AP AA;omega
def Bb8(l:List UInt8)(qa:Nat):qa<=Io qa l:=by
 have:=Z1 l qa;have h:1<=10 ^ l.length:=Nat.one_le_pow _ _ AP;have:=Nat.mul_le_mul_left qa h;omega
def pum:∀ (l:List UInt8) (qa:Nat),Lj l->Io qa l<=18446744073709551615->Lib.parseUintM 18446744073709551615 qa l=.ok (Io qa l)
 | [],_,_,_=>rfl
 | c::l,qa,h,hv=>by
  have hc:=Xd h;have qI:=Bb8 l (qa*10+(c.toNat - 48));simp only[Ae9,Ae8]at hv ⊢;rw[Lib.parseUintM,if_pos hc,if_neg AA,if_neg AA];exact pum l _ (U4 h) hv
theorem Azw{c:UInt8}{l:List UInt8}(h:Lj (c::l))(hv:Io 0 (c::l)<=9223372036854775807):Lib.parseIntB 64 (c::l)=.ok (Io 0 (c::l):Int):=by
 have hc:=Xd h;have hp:=pum (c::l) 0 h AA;unfold Lib.parseIntB;simp only;rw[if_neg AA];unfold Lib.parseUintB
 grind
theorem Asl{c:UInt8}{l:List UInt8}(h:Lj (c::l))(hv:Io 0 (c::l)<=9223372036854775807):K1 (c::l)=(Io 0 (c::l):Int):=by
 grind[K1,Azw]
/-! declarations -/
/-! threads -/
/-! equal expressions have the same tokens and texts -/
mutual
theorem Aip:∀ (x y:Xp),Af5 x y=true->x.op=y.op/\x.toks=y.toks/\x.txt=y.txt
 | ⟨op,n,nm,z,t,l⟩,⟨op',n',nm',z',t',l'⟩,h=>by
  simp only[Af5,Ak,beq_iff_eq]at h;obtain⟨rfl,rfl,rfl,h⟩:=h;obtain⟨h1,h2⟩:=Ao4 l l' h
  simp_all [Xp.toks,Xp.txt]
theorem Ao4:∀ (l l':List Xp),U3 l l'=true->Xp.tokss l=Xp.tokss l'/\Xp.txts l=Xp.txts l'
 | [],[],_=>⟨rfl,rfl⟩
 | x::l,y::l',h=>by
  simp only[U3,Ak]at h;obtain⟨h1,h2,h3⟩:=Aip x y h.1;obtain⟨h4,h5⟩:=Ao4 l l' h.2
  simp_all [Xp.tokss,Xp.txts]
 | [],_::_,h=>by cases h
 | _::_,[],h=>by cases h
end
/-! what is parsed has no more tokens than its text needs -/
def Bb9(s:List UInt8):Jy s=(0,0)\/((6<=(Jy s).1/\(Jy s).1<=18)/\(Jy s).2=Bu (Jy s).1):=by
 unfold Jy
 cases h:opTab.lookup s with
 | none=>grind
 | some p=>
  have hm:∃ k,(k,p)∈opTab:=by
   revert h;generalize opTab=l
   induction l with
   | nil=>grind
   | cons q l ih=>
    grind
  obtain⟨k,hk⟩:=hm;have qA:(opTab.all fun q=>decide ((6<=q.2.1/\q.2.1<=18)/\q.2.2=Bu q.2.1))=true:=by decide
  grind
def A7m{qd:Nat}{ts:List Tk}(h:I6 qd ts≠0):(6<=I6 qd ts/\I6 qd ts<=18)/\Bu (I6 qd ts)=qd/\ts.length=ts.tail.length+1:=by
 cases ts with
 | nil=>exact absurd rfl h
 | cons t ts=>
  simp only[I6]at h ⊢
  split at h
  .split at h
   .rename_i h1 h2;rw[if_pos h1,if_pos h2];rcases Bb9 t.text with e | e
    .grind
    grind
   omega
  omega
/-! parentheses -/
def flatB(l:List UInt8):Prop:=∀ c∈l,c≠40/\c≠41
