/- Plain: parsed programs are shaped, and their texts are not too long. -/
import Derived.Test.YtcoeikinocflnaaGreatDoorLi
set_option linter.all false
namespace Go.Proofs.YtcoeikinocflnaaGreatDoor.KM
open Go
def Nc(C:Nat)(ts r:List Tk):Prop:=r <:+ ts/\r.length<=ts.length/\wt C r<=wt C ts
theorem Lx{C:Nat}{ts r:List Tk}(h:Vs C ts r):Nc C ts r:=⟨h.1,by have:=h.2.1;omega,by have:=h.2.2;omega⟩
theorem Iv{C:Nat}{a b c:List Tk}(h:Nc C a b)(h':Nc C b c):Nc C a c:=⟨h'.1.trans h.1,Cj h'.2.1 h.2.1,Cj h'.2.2 h.2.2⟩
theorem Ah2{C:Nat}(a:List Tk):Nc C a a:=⟨Z0 _,Ah _,Ah _⟩
theorem Adg{s:List UInt8}{ts:List Tk}(C:Nat)(h:As s ts=true):Nc C ts ts.tail:=by
 obtain⟨h1,h2,h3⟩:=Jo (C:=C) h;exact⟨h1,by omega,by omega⟩
theorem Ara{C:Nat}{ts r:List Tk}{n:Int}(ht:De ts)(h:R6 ts=some (n,r)):(0<=n/\n<=9223372036854775807)/\Nc C ts r:=by
 unfold R6 at h
 split at h
 ·rename_i hs;have u:=Adg C hs
  split at h
  ·cases h
  rename_i m q hq;obtain⟨n1,n2⟩:=Xg (C:=C) (C0 ht u.1) hq
  split at h
  ·cases h
  simp only[Bm]at h;obtain⟨t3,h3,h⟩:=h;cases h;exact⟨n1,Iv (Iv u (Lx n2)) (Lx (Ix h3))⟩
 ·cases h;exact⟨by omega,Ah2 _⟩
theorem Ah3{C:Nat}{ts r:List Tk}{n:Int}(ht:De ts)(h:N5 ts=some (n,r)):(-9223372036854775808<n/\n<=9223372036854775807)/\Nc C ts r:=by
 unfold N5 at h
 split at h
 ·rename_i hs;have u:=Adg C hs
  split at h
  ·rename_i hs2;have u2:=Adg C hs2;simp only[Bm]at h;obtain⟨p,hp,h⟩:=h;obtain⟨m,q⟩:=p;cases h;obtain⟨n1,n2⟩:=Xg (C:=C) (C0 (C0 ht u.1) u2.1) hp;exact⟨by simp only;omega,Iv (Iv u u2) (Lx n2)⟩
  ·obtain⟨n1,n2⟩:=Xg (C:=C) (C0 ht u.1) h;exact⟨by omega,Iv u (Lx n2)⟩
 ·cases h;exact⟨by omega,Ah2 _⟩
def DQ(C:Nat)(ts:List Tk)(d:Dp)(r:List Tk):Prop:=ShD d/\r <:+ ts/\r.length<ts.length/\(Eh d).length+2+wt C r<=wt C ts
theorem Y1{C:Nat}(hC:100<=C){t:Tk}{ts r:List Tk}{d:Dp}(h:ShD d)(hl:Nc C ts r):DQ C (t::ts) d r:=by
 have h1:=Pw h.nm
 have h2:d.on.length<=12:=by
  by_cases hk:d.kind=5
  ·exact Pw (h.on.1 hk)
  ·rw[h.on.2 hk];exact A2 _
 have h3:=Ama h1 h2;have h4:=Ph C t ts;exact⟨h,hl.1.trans (Oz t ts),by have:=hl.2.1;simp only[Am];omega,by have:=hl.2.2;omega⟩
theorem Ae6{C:Nat}(hC:100<=C){ts r:List Tk}{d:Dp}(ht:De ts)(hd:Nw ts=true)(h:Pu ts=some (d,r)):DQ C ts d r:=by
 cases ts with
 | nil=>cases h
 | cons t ts=>
  have hk:1<=Fw t.text/\Fw t.text<=6:=by
   simp only[Nw,Af,bne_iff_ne]at hd;rcases Ah1 t.text with h | h
   ·exact absurd h hd.2
   ·exact h
  have htl:=C0 ht (Oz t ts);rw[Pu]at h;generalize Fw t.text=w at h hk
  split at h
  ·cases h
  rename_i nm t1 hn;obtain⟨n1,n2⟩:=O7 (C:=C) htl hn;have n2:=Lx n2;have ht1:=C0 htl n2.1
  split at h
  ·split at h
   ·cases h
   rename_i sz t2 hs;obtain⟨s1,s2⟩:=Ara (C:=C) ht1 hs
   split at h
   ·cases h
   rename_i i t3 hi;obtain⟨i1,i2⟩:=Ah3 (C:=C) (C0 ht1 s2.1) hi;simp only[Bm]at h;obtain⟨t4,h4,h⟩:=h;cases h;exact Y1 hC ⟨by simp,n1,by simp;exact s1,⟨i1.1,i1.2,by simp⟩,by simp⟩ (Iv (Iv (Iv n2 s2) i2) (Lx (Ix h4)))
  split at h
  ·split at h
   ·cases h
   rename_i i t3 hi;obtain⟨i1,i2⟩:=Ah3 (C:=C) ht1 hi;simp only[Bm]at h;obtain⟨t4,h4,h⟩:=h;cases h;exact Y1 hC ⟨by simp,n1,by simp,⟨i1.1,i1.2,by simp⟩,by simp⟩ (Iv (Iv n2 i2) (Lx (Ix h4)))
  split at h
  ·split at h
   ·cases h
   rename_i on t3 hi;obtain⟨i1,i2⟩:=O7 (C:=C) ht1 hi;simp only[Bm]at h;obtain⟨t4,h4,h⟩:=h;cases h;exact Y1 hC ⟨by simp,n1,by simp,by simp,by simpa using i1⟩ (Iv (Iv n2 (Lx i2)) (Lx (Ix h4)))
  ·rename_i q1 q2 q5;simp only[Bm]at h;obtain⟨t4,h4,h⟩:=h;cases h;exact Y1 hC ⟨hk,n1,⟨by simp,by simp,fun _=>rfl⟩,⟨by simp,by simp,fun _ _=>rfl⟩,fun h=>absurd h q5,fun _=>rfl⟩ (Iv n2 (Lx (Ix h4)))
theorem Aez{C:Nat}(hC:100<=C):∀ (n:Nat) (ts:List Tk) (l:List Dp) (r:List Tk),De ts->I2 n ts=some (l,r)->(∀ d∈l,ShD d)/\r <:+ ts/\((l.map fun d=>Eh d++[59,10]).flatten).length+wt C r<=wt C ts
 | 0,ts,l,r,ht,h=>by cases h
 | n+1,ts,l,r,ht,h=>by
  rw[I2]at h
  split at h
  ·rename_i hd
   split at h
   ·cases h
   rename_i d q hq;obtain⟨d1,d2,d3,d4⟩:=Ae6 hC ht hd hq
   split at h
   ·cases h
   rename_i l' q' hq';obtain⟨e1,e2,e3⟩:=Aez hC n _ _ _ (C0 ht d2) hq';cases h;refine⟨fun x hx=>?_,e2.trans d2,?_⟩
   ·rcases Be.1 hx with rfl | hx
    ·exact d1
    ·exact e1 x hx
   ·simp only[Ba,E9,Ao,Am,Cx]at e3 ⊢;omega
  ·cases h;exact⟨by simp,Z0 _,by simp⟩
theorem Afl{C:Nat}(hC:100<=C):∀ (n:Nat) (ts:List Tk) (l:List (List UInt8)) (r:List Tk),De ts->I9 n ts=some (l,r)->(∀ s∈l,Bv s=true)/\r <:+ ts/\r.length<ts.length/\(D8 l).length+wt C r<=wt C ts
 | 0,ts,l,r,ht,h=>by cases h
 | n+1,ts,l,r,ht,h=>by
  rw[I9]at h
  split at h
  ·cases h
  rename_i nm t1 hn;obtain⟨n1,n2,n3,n4⟩:=O7 (C:=C) ht hn;have n5:=Pw n1
  split at h
  ·rename_i hs;obtain⟨u1,u2,u3⟩:=Jo (C:=C) hs
   split at h
   ·cases h
   rename_i l' q hq;obtain⟨e1,e2,e3,e4⟩:=Afl hC n _ _ _ (C0 (C0 ht n2) u1) hq;cases h;have:=Agj nm l';refine⟨fun x hx=>?_,(e2.trans u1).trans n2,by omega,by omega⟩;rcases Be.1 hx with rfl | hx
   ·exact n1
   ·exact e1 x hx
  ·simp only[Bm]at h;obtain⟨t4,h4,h⟩:=h;cases h;obtain⟨d1,d2,d3⟩:=Ix (C:=C) h4;refine⟨fun x hx=>?_,d1.trans n2,by omega,by simp only[D8];omega⟩;simp at hx;subst hx;exact n1
def ThQ(M C:Nat)(ts:List Tk)(t:Tp)(r:List Tk):Prop:=Bv t.nm=true/\(∀ s∈t.locals,Bv s=true)/\(∀ s∈t.body,ShS s)/\r <:+ ts/\r.length<ts.length/\Sp.szs t.body<=ts.length/\(E7 t).length+wt C r<=wt C ts
theorem Afm{M C:Nat}(hC:100+8*M<=C){n:Nat}{ts r:List Tk}{t:Tp}(ht:De ts)(hM:ts.length<=M)(h:P5 n ts=some (t,r)):ThQ M C ts t r:=by
 cases ts with
 | nil=>cases h
 | cons t0 ts=>
  have hw:=Ph C t0 ts;have hsf:=Oz t0 ts;have htl:=C0 ht hsf;rw[Am]at hM;rw[P5]at h
  split at h
  ·cases h
  rename_i nm t1 hn;obtain⟨n1,n2,n3,n4⟩:=O7 (C:=C) htl hn;have n5:=Pw n1;have ht1:=C0 htl n2
  split at h
  ·cases h
  rename_i t2 h2;obtain⟨c1,c2,c3⟩:=Ix (C:=C) h2;have ht2:=C0 ht1 c1
  split at h
  ·cases h
  rename_i l t3 hl
  have hloc:(∀ s∈l,Bv s=true)/\t3 <:+ t2/\t3.length<=t2.length/\(D8 l).length+wt C t3<=wt C t2:=by
   unfold Ada at hl
   split at hl
   ·rename_i hs;obtain⟨u1,u2,u3⟩:=Jo (C:=C) hs;cases hl;exact⟨by simp,u1,by omega,by simp only[D8,Cx];omega⟩
   ·obtain⟨e1,e2,e3,e4⟩:=Afl (C:=C) (by omega) n _ _ _ ht2 hl;exact⟨e1,e2,by omega,e4⟩
  obtain⟨l1,l2,l3,l4⟩:=hloc
  split at h
  ·cases h
  rename_i b t4 hb;obtain⟨b1,b2,b3,b4,b5⟩:=(Xh hC n).2.1 _ _ _ (C0 ht2 l2) hb;cases h;have:=b5 1 (by omega);refine⟨n1,l1,b1,(((b2.trans l2).trans c1).trans n2).trans hsf,by simp only[Am];omega,by simp only[Am];omega,?_⟩;unfold E7;simp only[Ao,Am,Cx];omega
theorem Ae7{M C:Nat}(hC:100+8*M<=C)(m:Nat):∀ (n:Nat) (ts:List Tk) (l:List Tp) (r:List Tk),De ts->ts.length<=M->I4 m n ts=some (l,r) ->
  (∀ t∈l,Bv t.nm=true)/\(∀ t∈l,∀ s∈t.locals,Bv s=true)/\(∀ t∈l,∀ s∈t.body,ShS s)/\(∀ t∈l,Sp.szs t.body<=M)/\((l.map E7).flatten).length+wt C r<=wt C ts
 | 0,ts,l,r,ht,hM,h=>by cases h
 | n+1,ts,l,r,ht,hM,h=>by
  rw[I4]at h
  split at h
  ·split at h
   ·cases h
   rename_i t q hq;obtain⟨d1,d2,d3,d4,d5,d6,d7⟩:=Afm hC ht hM hq
   split at h
   ·cases h
   rename_i l' q' hq';obtain⟨e1,e2,e3,e4,e5⟩:=Ae7 hC m n _ _ _ (C0 ht d4) (by omega) hq';cases h;refine⟨fun x hx=>?_,fun x hx=>?_,fun x hx=>?_,fun x hx=>?_,?_⟩
   ·rcases Be.1 hx with rfl | hx
    ·exact d1
    ·exact e1 x hx
   ·rcases Be.1 hx with rfl | hx
    ·exact d2
    ·exact e2 x hx
   ·rcases Be.1 hx with rfl | hx
    ·exact d3
    ·exact e3 x hx
   ·rcases Be.1 hx with rfl | hx
    ·omega
    ·exact e4 x hx
   ·simp only[Ba,E9,Ao];omega
  ·cases h;exact⟨by simp,by simp,by simp,by simp,by simp⟩
theorem Q6:∀ (n:Nat) (ln:Int) (l:List UInt8) (ts:List Tk),Dn n ln l=some ts->ts.length<=l.length
 | n,ln,[],ts,h=>by
  have:Dn n ln []=some []:=by cases n<;>rfl
  rw[this]at h;cases h;exact Ah _
 | 0,ln,c::r,ts,h=>by cases h
 | n+1,ln,c::r,ts,h=>by
  rw[Dn]at h
  split at h
  ·have:=Q6 n _ _ _ h;simp only[Am];omega
  ·split at h
   ·have:=Q6 n _ _ _ h;simp only[Am];omega
   ·split at h
    ·have h1:=Q6 n _ _ _ h;have h2:=Uk (· != 10) (c::r);omega
    ·split at h
     ·cases h
     ·rename_i k w hf;simp only[Bm]at h;obtain⟨l,hl,rfl⟩:=h;obtain⟨h1,q,h2⟩:=Wv hf;have h3:=Q6 n _ _ _ hl;rw[D0]at h3;have:(c::r).length=w.length+q.length:=by rw[h2,Ao]
      simp only[Am]at this h3 ⊢;omega
theorem Ane{s:List UInt8}{p:Gp}(h:Rk s=some p):ShG p/\(Js p).length<=1000000000/\∀ t∈p.thrs,Sp.szs t.body<=4096:=by
 unfold Rk at h
 split at h
 ·cases h
 rename_i hs
 split at h
 ·cases h
 rename_i ts ht;have hl:=Q6 _ _ _ _ ht;have hok:=Re _ _ _ _ ht
 split at h
 rotate_left
 ·cases h
 rename_i p' hp;cases h;unfold Va at hp
 split at hp
 ·cases hp
 rename_i ds r hd;obtain⟨d1,d2,d3⟩:=Aez (C:=100+8*4096) (by omega) _ _ _ _ hok hd
 split at hp
 ·cases hp
 rename_i l r2 hth;obtain⟨t1,t2,t3,t4,t5⟩:=Ae7 (M:=4096) (C:=100+8*4096) (Ah _) _ _ _ _ _ (C0 hok d2) (by have:=d2.length_le;omega) hth
 split at hp
 ·cases hp
 rename_i hne;cases hp;refine⟨⟨d1,t1,t2,t3,by simpa using hne⟩,?_,t4⟩;unfold Js;rw[Ao];simp only;have:wt (100+8*4096) ts<=(100+8*4096)*4096:=Nat.mul_le_mul_left _ (by omega);omega
/-! programs that are equal apart from lines have one text -/
theorem Arb:∀ {l l':List Xp},Pk l l'=true->En l=En l'
 | [],[],_=>rfl
 | x::l,y::l',h=>by
  simp only[Pk,Af]at h;simp only[En,(Aa2 x y h.1).2.2]
 | [],_::_,h=>by cases h
 | _::_,[],h=>by cases h
mutual
theorem Aut:∀ (s s':Sp),Adb s s'=true->∀ d,s.txt d=s'.txt d
 | ⟨op,line,nm,arg,iz,it,idx,ex,bz,bt,body,ez,et,els⟩,⟨op',line',nm',arg',iz',it',idx',ex',bz',bt',body',ez',et',els'⟩,h,d=>by
  simp only[Adb,Af,beq_iff_eq]at h;obtain⟨rfl,rfl,rfl,hx,hi,hb,he⟩:=h;have h1:=(Aa2 ex ex' hx).2.2;have h2:=Arb hi;have h3:=Abg body body' hb (d+1);have h4:=Abg els els' he (d+1);rw[I0,I0];simp only[Ce,h1,h2,h3.1,h4.1,h4.2]
theorem Abg:∀ (l l':List Sp),Ux l l'=true->∀ d,Sp.txts d l=Sp.txts d l'/\l.isEmpty=l'.isEmpty
 | [],[],_,d=>⟨rfl,rfl⟩
 | x::l,y::l',h,d=>by
  simp only[Ux,Af]at h;rw[J6,J6,Aut x y h.1 d,(Abg l l' h.2 d).1];exact⟨rfl,rfl⟩
 | [],_::_,h,_=>by cases h
 | _::_,[],h,_=>by cases h
end
theorem Ao0:((List.range 256).all fun i=>match (H0 (Jz TT PT 300) af114 [.int .u8 (i:Int)] []).bind fun p=>Dw p.2 p.1 with
  | some (.bool b)=>b==I6 i
  | _=>false)=true:=by kernel_rfl
theorem Lm(c:UInt8):Fn TT PT 114 [.int .u8 (c.toNat:Int)] (.bool (G8 c)):=by
 have hr:=Bd.1 Ao0 c.toNat (Fc.2 c.toNat_lt)
 split at hr
 ·rename_i b hv;rw[show G8 c=b from(beq_iff_eq.1 hr).symm];exact Mo Na T114 rfl rfl hv
 ·cases hr
theorem Ao1:((List.range 256).all fun i=>match (H0 (Jz TT PT 300) af116 [.int .u8 (i:Int)] []).bind fun p=>Dw p.2 p.1 with
  | some (.bool b)=>b==Om i
  | _=>false)=true:=by kernel_rfl
theorem Nq(c:UInt8):Fn TT PT 116 [.int .u8 (c.toNat:Int)] (.bool (Ei c)):=by
 have hr:=Bd.1 Ao1 c.toNat (Fc.2 c.toNat_lt)
 split at hr
 ·rename_i b hv;rw[show Ei c=b from(beq_iff_eq.1 hr).symm];exact Mo Na T116 rfl rfl hv
 ·cases hr
theorem Vd{p:UInt8->Bool}:∀ l:List UInt8,(∀ i,i<(l.takeWhile p).length->∃ x,l[i]?=some x/\p x=true)/\((l.takeWhile p).length<l.length->∃ x,l[(l.takeWhile p).length]?=some x/\p x=false)/\(l.takeWhile p).length<=l.length/\l.take (l.takeWhile p).length=l.takeWhile p
 | []=>⟨fun i h=>by simp at h,fun h=>by simp at h,by simp,rfl⟩
 | c::l=>by
  obtain⟨h1,h2,h3,h4⟩:=Vd (p:=p) l;rw[V5];by_cases hc:p c=true
  ·rw[if_pos hc];refine⟨fun i hi=>?_,fun h=>?_,by simp;omega,by simp[h4]⟩
   ·cases i with
    | zero=>exact⟨c,rfl,hc⟩
    | succ i=>simpa using h1 i (by simp at hi;omega)
   ·simpa using h2 (by simp at h;omega)
  ·rw[if_neg hc];exact⟨fun i h=>by simp at h,fun _=>⟨c,rfl,by simpa using hc⟩,by simp,rfl⟩
theorem Fp{vs:List V}{σ:St}{v:V}(h:vs.all Da=true)(he:V.tup vs=v):FR (.tup vs) σ v:=he ▸ Ie h
theorem Og(c:UInt8)(n:Nat)(hn:n<256):(((c.toNat:Int))==(n:Int))=(c==UInt8.ofNat n):=by
 by_cases h:c=UInt8.ofNat n
 ·subst h;simp[UInt8.toNat_ofNat,S3 hn]
 ·have:(c.toNat:Int)≠n:=fun e=>h (by
   have:c.toNat=n:=by omega
   exact UInt8.toNat_inj.1 (by rw[this];simp[UInt8.toNat_ofNat,S3 hn]))
  rw[beq_eq_false_iff_ne.2 h,beq_eq_false_iff_ne.2 this]
theorem Akp(c:UInt8):Le c=(G8 c||(Ei c||c==95)):=by
 unfold Le J0 G8 Ei;congr 2;have:=Og c 95 (by decide);rw[show(c==95)=(c==UInt8.ofNat 95) from rfl,<-this];by_cases h:c.toNat=95
 ·rw[h];rfl
 ·rw[beq_eq_false_iff_ne.2 h];exact(beq_eq_false_iff_ne.2 (by omega)).symm
theorem nn(i:Nat):(0<=(i:Int))=True:=eq_true (Int.natCast_nonneg i)
theorem Alo(s:List UInt8)(i:Nat)(h:i<=s.length):Oj (.str s) none (some (.int .i64 (i:Int)))=some (.str (s.take i)):=by
 rw[show Oj (.str s) none (some (.int .i64 (i:Int)))=(Dm none 0).bind fun a=>(Dm (some (.int .i64 (i:Int))) s.length).bind fun b=>if a<=b/\b<=s.length then some (V.str ((s.take b).drop a)) else none from rfl];have e:Dm (some (.int .i64 (i:Int))) s.length=some i:=by simp[Dm]
 rw[e];simp only[Dm,Cz];rw[if_pos ⟨A2 _,h⟩,O0]
set_option maxHeartbeats 2000000 in
theorem Auu(c:UInt8)(r:List UInt8)(hl:(c::r).length<=4096):Fn TT PT 115 [.str (c::r)] (if 12<(D4 c r).length then .tup [.agg (Tk.row Tk.zero),.int .i64 2] else .tup [.agg (Tk.row ⟨if F9 (D4 c r) then 3 else 1,D4 c r,0⟩),.int .i64 0]):=by
 obtain⟨w1,w2,w3,w4⟩:=Vd (p:=Le) r;have hW:(c::r).take (D4 c r).length=D4 c r:=by simp[D4,w4]
 have hWl:(D4 c r).length=(r.takeWhile Le).length+1:=by simp[D4]
 rw[Am]at hl;generalize hn:(D4 c r).length=n at hW hWl ⊢;refine Bn T115 rfl ?_;simp only[go_sem];refine B9 (α:=Nat) (fun i=>n - i) (fun i=>[(0,.str (c::r)),(2,.ptr 0 0 0),(4,.int .i64 (i:Int))]) (fun _=>[.row [.int .i64 0,.str [],.int .i64 0] 137 0 0]) (fun i=>1<=i/\i<=n) ?_ 1 ⟨by omega,by omega⟩;rintro i ⟨h1,h2⟩ ih;refine Ca (by delta lp115_0;exact rfl) ?_;by_cases hi:i<n
 ·obtain⟨x,x1,x2⟩:=w1 (i - 1) (by omega)
  have x3:(c::r)[i]?=some x:=by
   obtain⟨j,rfl⟩:∃ j,i=j+1:=⟨i - 1,by omega⟩;simpa using x1
  have g1:decide ((i:Int)<((r.length+1:Nat):Int))=true:=by simp;omega
  have e95:((x.toNat:Int)==95)=(x==95):=Og x 95 (by decide);have lt1:=B7 (show i<r.length+1 by omega);have hin:=Bg (show i<9223372036854775807 by omega);rw[Akp]at x2;by_cases hL:G8 x=true
  ·simp only[go_sem,lt1,nn,x3];refine Ad (Lm x) (by simp only[go_sem]) ?_;simp only[go_sem,hL,hin];exact Bi (ih (i+1) (by omega) (by omega)) rfl
  ·have hL:G8 x=false:=by simpa using hL
   by_cases hD:Ei x=true
   ·simp only[go_sem,lt1,nn,x3];refine Ad (Lm x) (by simp only[go_sem]) ?_;simp only[go_sem,hL,nn,x3];refine Ad (Nq x) (by simp only[go_sem]) ?_;simp only[go_sem,hD,hin];exact Bi (ih (i+1) (by omega) (by omega)) rfl
   ·have hD:Ei x=false:=by simpa using hD
    rw[hL,hD]at x2;simp only[Ta]at x2;simp only[go_sem,lt1,nn,x3];refine Ad (Lm x) (by simp only[go_sem]) ?_;simp only[go_sem,hL,nn,x3];refine Ad (Nq x) (by simp only[go_sem]) ?_;simp only[go_sem,hD,nn,x3,e95,x2,hin];exact Bi (ih (i+1) (by omega) (by omega)) rfl
 ·obtain rfl:i=n:=by omega
  have gi:(i<=r.length+1)=True:=eq_true (by omega)
  have hcut:Oj (.str (c::r)) none (some (.int .i64 (i:Int)))=some (.str (D4 c r)):=by
   rw[Alo _ _ (by simp;omega),hW]
  by_cases hb:i<r.length+1
  ·obtain⟨x,x1,x2⟩:=w2 (by omega);have x3:(c::r)[i]?=some x:=by rw[hWl];simpa using x1
   have e95:((x.toNat:Int)==95)=(x==95):=Og x 95 (by decide);have lt1:=B7 (show i<r.length+1 by omega);rw[Akp]at x2;simp only[Bool.or_eq_false_iff]at x2;obtain⟨hL,hD,h9⟩:=x2;simp only[go_sem,lt1,nn,x3];refine Ad (Lm x) (by simp only[go_sem]) ?_;simp only[go_sem,hL,nn,x3];refine Ad (Nq x) (by simp only[go_sem]) ?_;simp only[go_sem,hD,nn,x3,e95,h9];by_cases h12:12<i
   ·have f12:decide ((12:Int)<(i:Int))=true:=by simp;omega
    rw[if_pos h12];simp only[go_sem,gt_iff_lt,f12];exact Fp (by simp only[go_sem]) rfl
   ·have f12:decide ((12:Int)<(i:Int))=false:=by simp;omega
    rw[if_neg h12];simp only[go_sem,gt_iff_lt,f12,nn,gi,hW,A2,true_and,if_true,Cz];refine E6 P166 rfl (by rfl) ?_;cases hk:F9 (D4 c r)
    ·simp only[go_sem,hk,nn,gi,hW,A2,true_and,if_true,Cz];exact Fp (by simp only[go_sem]) rfl
    ·simp only[go_sem,hk,nn,gi,hW,A2,true_and,if_true,Cz];exact Fp (by simp only[go_sem]) rfl
  ·simp only[go_sem,Cr (show r.length+1<=i by omega)];by_cases h12:12<i
   ·have f12:decide ((12:Int)<(i:Int))=true:=by simp;omega
    rw[if_pos h12];simp only[go_sem,gt_iff_lt,f12];exact Fp (by simp only[go_sem]) rfl
   ·have f12:decide ((12:Int)<(i:Int))=false:=by simp;omega
    rw[if_neg h12];simp only[go_sem,gt_iff_lt,f12,nn,gi,hW,A2,true_and,if_true,Cz];refine E6 P166 rfl (by rfl) ?_;cases hk:F9 (D4 c r)
    ·simp only[go_sem,hk,nn,gi,hW,A2,true_and,if_true,Cz];exact Fp (by simp only[go_sem]) rfl
    ·simp only[go_sem,hk,nn,gi,hW,A2,true_and,if_true,Cz];exact Fp (by simp only[go_sem]) rfl
