/- Effects in drawn regions, their checks done by themselves; lists. -/
import Derived.Test.YtlehfgdhebapeaaGreatDoorA5
import Derived.Test.YtlehfgdhebapeaaGreatDoorGf
import Derived.Test.YtlehfgdhebapeaaGreatDoorGd
set_option linter.all false
namespace Go.Proofs.YtlehfgdhebapeaaGreatDoor.KM
open Go
theorem rd1{s:St}{ob k off x:Nat}{cs:List V}{v:V}{e:Env}(q:s[ob]?=some (.row cs k 0 0))(he:e.get x=.ptr ob 0 off)(hc:cs[off]?=some v):Ae (.load 1 true (.t x)) e s=some (v,s):=by
 simp only[Ae,Ac,he,G9,q]
 have hl:=(Ay.1 hc).1
 rw[if_pos ⟨trivial,by omega⟩,show(cs.drop off).take 1=[v] by
  rw[Gq hl,Om,Vh]
  have:=(Ay.1 hc).2
  rw[this]]
 rfl
theorem Fw{s:St}{ob off x:Nat}{v:V}{e:Env}(he:e.get x=.ptr ob 0 off)(h:∃ cs k,s[ob]?=some (.row cs k 0 0)/\cs[off]?=some v):Ae (.load 1 true (.t x)) e s=some (v,s):=by
 obtain⟨cs,k,q,hc⟩:=h
 exact rd1 q he hc
theorem Lq{s:St}{off x:Nat}{cs:List V}{v:V}{e:Env}(he:e.get x=.imm cs off)(hc:cs[off]?=some v):Ae (.load 1 true (.t x)) e s=some (v,s):=by
 simp only[Ae,Ac,he,G9]
 have hl:=(Ay.1 hc).1
 have hd:(cs.drop off).take 1=[v]:=by
  rw[Gq hl,Om,Vh]
  have:=(Ay.1 hc).2
  rw[this]
 rw[hd]
 simp[Fm]
 omega
theorem Fh{s:St}{ob k x n:Nat}{cs:List V}{e:Env}(q:s[ob]?=some (.row cs k 0 0))(he:e.get x=.ptr ob 0 0)(hn:cs.length=n):Ae (.load n false (.t x)) e s=some (.agg cs,s):=by
 subst hn
 simp only[Ae,Ac,he,G9,q]
 simp[Fm]
theorem Ln{s:St}{x n:Nat}{cs:List V}{e:Env}(he:e.get x=.imm cs 0)(hn:cs.length=n):Ae (.load n false (.t x)) e s=some (.agg cs,s):=by
 subst hn
 simp only[Ae,Ac,he,G9]
 simp[Fm]
section
variable {T:Nat->Option AF} {pr:Nat->Option (List V->Option V)} {deps:List (List Nat)} {n m:Nat} {e:Env} {σ:St} {fs:Fs} {ls:Ls} {K:Env->St->Fs->Ls->Prop} {i:AI}
theorem Aq{v:V}{σ1:St}(h:K (e.putO i.dst v) σ1 ((m,σ,σ1)::fs) ls)(h1:Lo deps n m fs:=by repeat (first | exact trivial | refine⟨.inl (by rfl),?_⟩ | refine⟨by rfl,?_⟩ | refine⟨.inr ⟨by rfl,by rfl⟩,?_⟩ | refine⟨.inr ⟨by(first | exact Lq rfl rfl | exact Ln rfl (by rfl) | exact Fw rfl ⟨_,_,by assumption,by rfl⟩ | exact Fw rfl ⟨_,_,Bv (by assumption),by rfl⟩ | exact Fh (by assumption) rfl (by rfl) | exact Fh (Bv (by assumption)) rfl (by rfl)),by(first | exact Lq rfl rfl | exact Ln rfl (by rfl) | exact Fw rfl ⟨_,_,by assumption,by rfl⟩ | exact Fw rfl ⟨_,_,Bv (by assumption),by rfl⟩ | exact Fh (by assumption) rfl (by rfl) | exact Fh (Bv (by assumption)) rfl (by rfl))⟩,?_⟩))(h2:Lp deps n m σ σ1 ls:=by repeat (first | exact trivial | refine⟨.inl (by rfl),?_⟩ | refine⟨by rfl,?_⟩ | refine⟨.inr ⟨by rfl,by rfl⟩,?_⟩ | refine⟨.inr ⟨by(first | exact Lq rfl rfl | exact Ln rfl (by rfl) | exact Fw rfl ⟨_,_,by assumption,by rfl⟩ | exact Fw rfl ⟨_,_,Bv (by assumption),by rfl⟩ | exact Fh (by assumption) rfl (by rfl) | exact Fh (Bv (by assumption)) rfl (by rfl)),by(first | exact Lq rfl rfl | exact Ln rfl (by rfl) | exact Fw rfl ⟨_,_,by assumption,by rfl⟩ | exact Fw rfl ⟨_,_,Bv (by assumption),by rfl⟩ | exact Fh (by assumption) rfl (by rfl) | exact Fh (Bv (by assumption)) rfl (by rfl))⟩,?_⟩)):Iv deps n m i .ef v σ1 e σ fs ls K:=⟨h1,h2,h⟩
theorem Fr{v:V}{σ1:St}(h:K (e.putO i.dst v) σ fs ((m,fun s=>Ae i.op e s=some (v,s))::ls))(h1:R6 deps n m (fun s=>Ae i.op e s=some (v,s)) fs:=by repeat (first | exact trivial | refine⟨.inl (by rfl),?_⟩ | refine⟨by rfl,?_⟩ | refine⟨.inr ⟨by rfl,by rfl⟩,?_⟩ | refine⟨.inr ⟨by(first | exact Lq rfl rfl | exact Ln rfl (by rfl) | exact Fw rfl ⟨_,_,by assumption,by rfl⟩ | exact Fw rfl ⟨_,_,Bv (by assumption),by rfl⟩ | exact Fh (by assumption) rfl (by rfl) | exact Fh (Bv (by assumption)) rfl (by rfl)),by(first | exact Lq rfl rfl | exact Ln rfl (by rfl) | exact Fw rfl ⟨_,_,by assumption,by rfl⟩ | exact Fw rfl ⟨_,_,Bv (by assumption),by rfl⟩ | exact Fh (by assumption) rfl (by rfl) | exact Fh (Bv (by assumption)) rfl (by rfl))⟩,?_⟩)):Iv deps n m i .rd v σ1 e σ fs ls K:=⟨h1,h⟩
theorem Dx{f:Nat}{vs:List V}{v:V}{σ1:St}(hf:Bc T pr f vs σ v σ1)(h:K (e.putO i.dst v) σ1 ((m,σ,σ1)::fs) ls)(h1:Lo deps n m fs:=by repeat (first | exact trivial | refine⟨.inl (by rfl),?_⟩ | refine⟨by rfl,?_⟩ | refine⟨.inr ⟨by rfl,by rfl⟩,?_⟩ | refine⟨.inr ⟨by(first | exact Lq rfl rfl | exact Ln rfl (by rfl) | exact Fw rfl ⟨_,_,by assumption,by rfl⟩ | exact Fw rfl ⟨_,_,Bv (by assumption),by rfl⟩ | exact Fh (by assumption) rfl (by rfl) | exact Fh (Bv (by assumption)) rfl (by rfl)),by(first | exact Lq rfl rfl | exact Ln rfl (by rfl) | exact Fw rfl ⟨_,_,by assumption,by rfl⟩ | exact Fw rfl ⟨_,_,Bv (by assumption),by rfl⟩ | exact Fh (by assumption) rfl (by rfl) | exact Fh (Bv (by assumption)) rfl (by rfl))⟩,?_⟩))(h2:Lp deps n m σ σ1 ls:=by repeat (first | exact trivial | refine⟨.inl (by rfl),?_⟩ | refine⟨by rfl,?_⟩ | refine⟨.inr ⟨by rfl,by rfl⟩,?_⟩ | refine⟨.inr ⟨by(first | exact Lq rfl rfl | exact Ln rfl (by rfl) | exact Fw rfl ⟨_,_,by assumption,by rfl⟩ | exact Fw rfl ⟨_,_,Bv (by assumption),by rfl⟩ | exact Fh (by assumption) rfl (by rfl) | exact Fh (Bv (by assumption)) rfl (by rfl)),by(first | exact Lq rfl rfl | exact Ln rfl (by rfl) | exact Fw rfl ⟨_,_,by assumption,by rfl⟩ | exact Fw rfl ⟨_,_,Bv (by assumption),by rfl⟩ | exact Fh (by assumption) rfl (by rfl) | exact Fh (Bv (by assumption)) rfl (by rfl))⟩,?_⟩)):Fq T pr deps n m i (.call f vs) e σ fs ls K:=.inr (.inr ⟨v,σ1,.any hf,h1,h2,h⟩)
end
theorem Arp{n:Int}(h : -9223372036854775808<=n/\n<=9223372036854775807):Fn TT PT 71 [.int .i64 n] (.str (Dl n)):=by
 refine Bz T71 rfl ?_
 by_cases hz:n=0
 ·subst hz
  simp only[go_sem,Int.reduceBEq]
  exact A9 rfl rfl
 ·have b:(n==0)=false:=by simp[hz]
  have hf:Jb [.int .i64 n,.int .i64 10]=some (.str (A4 n)):=by unfold Jb;exact if_pos h
  have hl:=L5 n
  have a1:Ah .add [32,61,32] (A4 n)=some (.str (32::61::32::A4 n)):=Ai (by simp;omega) rfl
  simp only[go_sem,b]
  refine Ef P83 (by simp only[go_sem]) hf ?_
  simp only[go_sem,↓a1]
  exact A9 rfl (by simp[Dl,hz])
theorem Aos{d:Dp}(h:CnD d)(hn:d.nm.length<=100000000000000)(ho:d.kind=5->d.on.length<=100000000000000):Fn TT PT 35 [.agg d.row] (.str (Bq d)):=by
 obtain⟨⟨k1,k2⟩,⟨h0,h1,h2⟩,i1,i2,h3⟩:=h
 obtain⟨kind,line,nm,size,init,on⟩:=d
 simp only at k1 k2 h0 h1 h2 i1 i2 h3 hn ho
 unfold Dp.row
 simp only
 have hk:kind=1\/kind=2\/kind=3\/kind=4\/kind=5\/kind=6:=by omega
 have hin:=Arp ⟨i1,i2⟩
 have l1:=L5 size
 have l2:(Dl init).length<=24:=by
  unfold Dl
  have:=L5 init
  split<;>simp
  omega
 refine Bz T35 rfl ?_
 rcases hk with rfl | hk
 ·by_cases hz:size=0
  ·subst hz
   have a1:Ah .add [118,97,114,32] nm=some (.str (118::97::114::32::nm)):=Ai (by simp;omega) rfl
   have a2:Ah .add (118::97::114::32::nm) (Dl init)=some (.str (118::97::114::32::(nm++Dl init))):=Ai (by simp;omega) rfl
   have n1:((0:Int) != 0)=false:=by decide
   simp only[go_sem,Int.reduceBEq,n1,↓a1]
   refine Ax hin (by simp only[go_sem]) ?_
   simp only[go_sem,↓a2]
   exact A9 rfl (by simp[Bq])
  ·have n1:(size != 0)=true:=by simp[hz]
   have hf:Nt [.int .i64 size]=some (.str (A4 size)):=by unfold Nt;exact if_pos ⟨by omega,h1⟩
   have a1:Ah .add [118,97,114,32] nm=some (.str (118::97::114::32::nm)):=Ai (by simp;omega) rfl
   have a2:Ah .add [91] (A4 size)=some (.str (91::A4 size)):=Ai (by simp;omega) rfl
   have a3:Ah .add (91::A4 size) [93]=some (.str (91::(A4 size++[93]))):=Ai (by simp;omega) rfl
   have a4:Ah .add (118::97::114::32::nm) (91::(A4 size++[93]))=some (.str (118::97::114::32::(nm++91::(A4 size++[93])))):=Ai (by simp;omega) rfl
   have a5:Ah .add (118::97::114::32::(nm++91::(A4 size++[93]))) (Dl init)=some (.str (118::97::114::32::(nm++91::(A4 size++93::Dl init)))):=Ai (by simp;omega) (by simp)
   simp only[go_sem,Int.reduceBEq,n1,↓a1]
   refine Ef P70 (by simp only[go_sem]) hf ?_
   simp only[go_sem,↓a2,↓a3,↓a4]
   refine Ax hin (by simp only[go_sem]) ?_
   simp only[go_sem,↓a5]
   exact A9 rfl (by simp[Bq,hz])
 rcases hk with rfl | hk
 ·have a1:Ah .add [118,111,108,97,116,105,108,101,32] nm=some (.str (118::111::108::97::116::105::108::101::32::nm)):=Ai (by simp;omega) rfl
  have a2:Ah .add (118::111::108::97::116::105::108::101::32::nm) (Dl init)=some (.str (118::111::108::97::116::105::108::101::32::(nm++Dl init))):=Ai (by simp;omega) rfl
  simp only[go_sem,Int.reduceBEq]
  refine A2 (by kernel_rfl) ?_
  simp only[go_sem,↓a1]
  refine C6 hin (by simp only[go_sem]) ?_
  simp only[go_sem,↓a2]
  exact A9 rfl (by simp[Bq])
 rcases hk with rfl | hk
 ·have a1:Ah .add [109,117,116,101,120,32] nm=some (.str (109::117::116::101::120::32::nm)):=Ai (by simp;omega) rfl
  simp only[go_sem,Int.reduceBEq,↓a1]
  exact A9 rfl (by simp[Bq])
 rcases hk with rfl | hk
 ·have a1:Ah .add [114,119,108,111,99,107,32] nm=some (.str (114::119::108::111::99::107::32::nm)):=Ai (by simp;omega) rfl
  simp only[go_sem,Int.reduceBEq,↓a1]
  exact A9 rfl (by simp[Bq])
 rcases hk with rfl | rfl
 ·have ho:=ho rfl
  have a1:Ah .add [99,111,110,100,32] nm=some (.str (99::111::110::100::32::nm)):=Ai (by simp;omega) rfl
  have a2:Ah .add (99::111::110::100::32::nm) [32]=some (.str (99::111::110::100::32::(nm++[32]))):=Ai (by simp;omega) rfl
  have a3:Ah .add (99::111::110::100::32::(nm++[32])) on=some (.str (99::111::110::100::32::(nm++32::on))):=Ai (by simp;omega) (by simp)
  simp only[go_sem,Int.reduceBEq,↓a1,↓a2,↓a3]
  exact A9 rfl (by simp[Bq])
 ·have a1:Ah .add [102,117,116,117,114,101,32] nm=some (.str (102::117::116::117::114::101::32::nm)):=Ai (by simp;omega) rfl
  simp only[go_sem,Int.reduceBEq,↓a1]
  exact A9 rfl (by simp[Bq])
theorem Aga:∀ l:List (List UInt8),Lib.join l [44,32]=Ca l
 | []=>rfl
 | [a]=>by simp[Lib.join,Ca,List.intercalate]
 | a::b::l=>by
  have h:=Aga (b::l)
  rw[Ca,<-h]
  simp[Lib.join,List.intercalate]
theorem Aot(z:Bool)(t:Nat)(l:List (List UInt8))(h:(Ca l).length<=10000000000000):Rk [SL z t (l.map fun s=>[V.str s]),.str [44,32]]=some (.str (Ca l)):=by
 have hll:=Ad9 l
 unfold SL
 split
 ·rename_i hc
  have:l=[]:=by
   cases l
   ·rfl
   ·simp at hc
  subst this
  rfl
 ·unfold Rk
  simp only[Ads,Cc,Aga,Cd]
  exact if_pos ⟨by omega,by omega⟩
theorem Arq{K:List It}{Q:Env->St->Prop}{C D E:V}{b:Nat}{z:Bool}{t:Nat}{L:List Sp}{s0 s:St}{l:List UInt8}(hW:∀ x∈L,Wr x)(h:WB s0 s b l)(hl:l.length+(Sp.txts 1 L).length<=10000000000000)(hd:1+Sp.szs L<=1073741823)(hn:L.length<=1000000000000000)
  (hk:∀ s',WB s0 s' b (l++Sp.txts 1 L)->W TT PT K [(3,.ptr b 0 0),(23,C),(24,D),(25,E),(40,SL z t (L.map Sp.row)),(41,.int .i64 (L.length:Int)),(42,.int .i64 (L.length:Int))] s' Q) :
  W TT PT (.l [3,23,24,25,40,41,42] lp9_1::.b 4::K) [(3,.ptr b 0 0),(23,C),(24,D),(25,E),(40,SL z t (L.map Sp.row)),(41,.int .i64 (L.length:Int)),(42,.int .i64 0)] s Q:=by
 refine En (α:=Nat × St × List UInt8) (fun a=>L.length - a.1) (fun a=>[(3,.ptr b 0 0),(23,C),(24,D),(25,E),(40,SL z t (L.map Sp.row)),(41,.int .i64 (L.length:Int)),(42,.int .i64 (a.1:Int))]) (fun a=>a.2.1) (fun a=>a.1<=L.length/\WB s0 a.2.1 b a.2.2/\a.2.2++Sp.txts 1 (L.drop a.1)=l++Sp.txts 1 L) ?_ (0,s,l) ⟨Bj _,h,rfl⟩
 rintro⟨i,s1,c⟩ ⟨hi,hw,hc⟩ ih
 simp only at hi hw hc ih
 refine Eo (by delta lp9_1;exact rfl) ?_
 have hcl:=congrArg List.length hc
 simp only[Al]at hcl
 rcases D7 i L.length with h' | h'
 ·obtain⟨x,hx,hdr,hm⟩:=L4 h'
  rw[hdr,J9]at hc hcl
  rw[Al]at hcl
  have hsz:=T0 hm
  obtain⟨s2,e2⟩:∃ s2,s2=s1++[Ob.row x.row 92 0 0]:=⟨_,rfl⟩
  have w2:WB s0 s2 b c:=by rw[e2];exact Xh hw x
  have k2:s2[s1.length]?=some (.row x.row 92 0 0):=by rw[e2,B1 (Af _),Hm];rfl
  obtain⟨s3,q3,v3⟩:=hW x hm s2 b c 1 (Na w2) (by omega) (by omega)
  have hrow:=Cp x
  rw[hrow]at e2 k2 q3
  rw[e2]at q3 k2
  rw[Vf]at q3
  simp only[go_sem,Hs h',Ch,hx,hrow]
  refine Cg q3 ?_
  simp only[go_sem,Cr (show i<9223372036854775807 by omega)]
  exact C5 (ih (i+1,s3,c++x.txt 1) (by simp;omega) ⟨by simp;omega,G4 w2 v3,by simp only;rw[Bl];exact hc⟩) rfl
 ·obtain rfl:i=L.length:=by omega
  rw[E9 h',show Sp.txts 1 []=[] by rw[Sp.txts],Ds]at hc
  subst hc
  simp only[go_sem,Is h']
  exact hk s1 hw
theorem Agb{p:Gp}(h:CnG p)(hl:(D4 p).length<=10000000000000)(hz:∀ t∈p.thrs,Sp.szs t.body<=1073741822):Fn TT PT 9 [.agg p.row] (.str (D4 p)):=by
 obtain⟨hD,hT⟩:=h
 obtain⟨dz,dt,decls,tz,tt,thrs⟩:=p
 simp only at hD hT hz
 unfold D4 at hl ⊢
 simp only at hl ⊢
 unfold Gp.row
 simp only
 have n1:(decls.map Dp.row).length=decls.length:=Cd ..
 have n2:(thrs.map Tp.row).length=thrs.length:=Cd ..
 rw[Al]at hl
 have c1:=Sz (fun d=>Bq d++[59,10]) (fun x=>by simp) decls
 have c2:=Sz Cs (fun x=>by simp[Cs]) thrs
 refine Bz T9 rfl ?_
 obtain⟨s0,e0⟩:∃ s0:St,s0=[.row [SL dz dt (decls.map Dp.row),SL tz tt (thrs.map Tp.row)] 26 0 0,.row [.nilp,.nils] 84 0 0]:=⟨_,rfl⟩
 have w0:WB s0 s0 1 []:=by
  subst e0
  refine Af9 (u:=.nils) ⟨.nilp,rfl,.inl rfl,Gc⟩ ?_
  exact Ww (Abh (s:=[]) (fun _ h=>by cases h) (by simp only[go_sem])) (by simp[Ob.refs,Aw,V.refs])
 have k0:s0[0]?=some (.row [SL dz dt (decls.map Dp.row),SL tz tt (thrs.map Tp.row)] 26 0 0):=by subst e0;rfl
 simp only[go_sem,n1]
 rw[<-e0]
 clear e0
 refine En (α:=Nat × St × List UInt8) (fun a=>decls.length - a.1) (fun a=>[(1,.ptr 0 0 0),(3,.ptr 1 0 0),(11,SL dz dt (decls.map Dp.row)),(12,.int .i64 (decls.length:Int)),(13,.int .i64 (a.1:Int))]) (fun a=>a.2.1) (fun a=>a.1<=decls.length/\WB s0 a.2.1 1 a.2.2/\a.2.2++((decls.drop a.1).map fun d=>Bq d++[59,10]).flatten=(decls.map fun d=>Bq d++[59,10]).flatten) ?_ (0,s0,[]) ⟨Bj _,w0,rfl⟩
 rintro⟨i,s1,c⟩ ⟨hi,hw,hc⟩ ih
 simp only at hi hw hc ih
 refine Eo (by delta lp9_0;exact rfl) ?_
 have hcl:=congrArg List.length hc
 simp only[Al]at hcl
 rcases D7 i decls.length with h' | h'
 ·obtain⟨x,hx,hd,hm⟩:=L4 h'
  rw[hd,Ao,Df]at hc hcl
  simp only[Al,Ag,Br]at hcl
  obtain⟨e1,e2⟩:=Af8 (hD x hm).kind
  have hf:=Aos (hD x hm) (by omega) (fun h5=>by have:=e2 h5;omega)
  obtain⟨s2,e2⟩:∃ s2,s2=s1++[Ob.row x.row 75 0 0]:=⟨_,rfl⟩
  have w2:WB s0 s2 1 c:=by rw[e2];exact H0 hw (by unfold Dp.row;rfl)
  obtain⟨s3,q3,w3,v3⟩:=D0 w2 (Bq x) (by omega)
  obtain⟨s4,q4,w4,v4⟩:=D0 w3 [59,10] (by simp;omega)
  have hrow:x.row=[.int .i64 x.kind,.int .i64 x.line,.str x.nm,.int .i64 x.size,.int .i64 x.init,.str x.on]:=rfl
  rw[hrow]at e2 hf
  rw[e2]at q3
  simp only[go_sem,Hs h',Ch,hx,hrow]
  refine Ax hf (by simp only[go_sem]) ?_
  simp only[go_sem]
  refine Cg q3 ?_
  simp only[go_sem]
  refine Cg q4 ?_
  simp only[go_sem,Cr (show i<9223372036854775807 by omega)]
  exact C5 (ih (i+1,s4,c++Bq x++[59,10]) (by simp;omega) ⟨by simp;omega,w4,by simp only;simpa using hc⟩) rfl
 ·obtain rfl:i=decls.length:=by omega
  rw[E9 h']at hc
  simp only[Be,Sk,Ds]at hc
  subst hc
  clear ih
  have k1:=hw.2.2.2 0 _ _ _ _ (by decide) (by decide) k0
  simp only[go_sem,k1,n2,Is h']
  refine En (α:=Nat × St × List UInt8) (fun a=>thrs.length - a.1) (fun a=>[(3,.ptr 1 0 0),(23,SL tz tt (thrs.map Tp.row)),(24,.int .i64 (thrs.length:Int)),(25,.int .i64 (a.1:Int))]) (fun a=>a.2.1) (fun a=>a.1<=thrs.length/\WB s0 a.2.1 1 a.2.2/\a.2.2++((thrs.drop a.1).map Cs).flatten=(decls.map fun d=>Bq d++[59,10]).flatten++(thrs.map Cs).flatten) ?_ (0,s1,_) ⟨Bj _,hw,rfl⟩
  rintro⟨i,s2,c⟩ ⟨hi,hw2,hc⟩ ih
  simp only at hi hw2 hc ih
  refine Eo (by delta lp9_2;exact rfl) ?_
  have hcl:=congrArg List.length hc
  simp only[Al]at hcl
  rcases D7 i thrs.length with h' | h'
  ·obtain⟨x,hx,hd,hm⟩:=L4 h'
   rw[hd,Ao,Df]at hc hcl
   rw[Al]at hcl
   have hth:=hT x hm
   have hzx:=hz x hm
   obtain⟨nm,line,lz,lt,locals,bz,bt,body⟩:=x
   simp only at hth hzx
   have hlen:(Cs ⟨nm,line,lz,lt,locals,bz,bt,body⟩).length=nm.length+(Ca locals).length+(Sp.txts 1 body).length+14:=by
    simp[Cs]
    omega
   have hbn:s2.length≠1:=by
    have:=hw2.2.2.1
    have:=(Ay.1 hw2.1.choose_spec.choose_spec.1).1
    omega
   have hbl:(body.map Sp.row).length=body.length:=Cd ..
   have hlb:=Ql body 1
   obtain⟨s3,e3⟩:∃ s3,s3=s2++[Ob.row [.str nm,.int .i64 line,SL lz lt (locals.map fun x=>[V.str x]),SL bz bt (body.map Sp.row)] 80 0 0]:=⟨_,rfl⟩
   have w3:WB s0 s3 1 c:=by rw[e3];exact H0 hw2 (by simp only[go_sem])
   have k3:s3[s2.length]?=some (.row [.str nm,.int .i64 line,SL lz lt (locals.map fun x=>[V.str x]),SL bz bt (body.map Sp.row)] 80 0 0):=by rw[e3,B1 (Af _),Hm];rfl
   obtain⟨s4,q4,w4,v4⟩:=D0 w3 [116,104,114,101,97,100,32] (by simp;omega)
   have k4:=v4.2.2.2 s2.length _ _ _ _ hbn (by decide) k3
   obtain⟨s5,q5,w5,v5⟩:=D0 w4 nm (by simp;omega)
   have k5:=v5.2.2.2 s2.length _ _ _ _ hbn (by decide) k4
   obtain⟨s6,q6,w6,v6⟩:=D0 w5 [40] (by simp;omega)
   have k6:=v6.2.2.2 s2.length _ _ _ _ hbn (by decide) k5
   obtain⟨s7,q7,w7,v7⟩:=D0 w6 (Ca locals) (by simp;omega)
   have k7:=v7.2.2.2 s2.length _ _ _ _ hbn (by decide) k6
   obtain⟨s8,q8,w8,v8⟩:=D0 w7 [41,32,123,10] (by simp;omega)
   have k8:=v8.2.2.2 s2.length _ _ _ _ hbn (by decide) k7
   have hrow:Tp.row ⟨nm,line,lz,lt,locals,bz,bt,body⟩=[.str nm,.int .i64 line,SL lz lt (locals.map fun x=>[V.str x]),SL bz bt (body.map Sp.row)]:=rfl
   have hj:=Aot lz lt locals (by omega)
   rw[e3]at q4
   simp only[go_sem,Hs h',Ch,hx,hrow]
   refine Cg q4 ?_
   simp only[go_sem,k4]
   refine Cg q5 ?_
   simp only[go_sem]
   refine Cg q6 ?_
   simp only[go_sem,k6]
   refine Ef P36 (by simp only[go_sem]) hj ?_
   simp only[go_sem]
   refine Cg q7 ?_
   simp only[go_sem]
   refine Cg q8 ?_
   simp only[go_sem,k8,hbl]
   refine Arq (L:=body) (fun y hy=>Aor (hth y hy)) w8 (by simp;omega) (by omega) (by omega) fun s9 w9=>?_
   obtain⟨s10,q10,w10,v10⟩:=D0 w9 [125,10] (by simp;omega)
   simp only[go_sem]
   refine Cg q10 ?_
   simp only[go_sem,Cr (show i<9223372036854775807 by omega)]
   refine C5 (ih (i+1,s10,c++Cs ⟨nm,line,lz,lt,locals,bz,bt,body⟩) (by simp;omega) ⟨by simp;omega,by simpa[Cs] using w10,by simp only;rw[Bl];exact hc⟩) rfl
  ·obtain rfl:i=thrs.length:=by omega
   rw[E9 h']at hc
   simp only[Be,Sk,Ds]at hc
   subst hc
   obtain⟨s3,hs3⟩:=Ai6 hw2
   simp only[go_sem,Is h']
   refine M8 (.spec T38 rfl rfl hs3) ?_
   simp only[go_sem]
   exact E6 rfl
end Go.Proofs.YtlehfgdhebapeaaGreatDoor.KM
