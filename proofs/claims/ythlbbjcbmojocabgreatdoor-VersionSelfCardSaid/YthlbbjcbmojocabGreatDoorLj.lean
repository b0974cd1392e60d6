/- Plain: parsed programs are shaped, and their texts are not too long. -/
import Derived.Test.YthlbbjcbmojocabGreatDoorLh
import Derived.Lib.Join
set_option linter.all false
namespace Go.Proofs.YthlbbjcbmojocabGreatDoor.KM
open Go
def Pm(C:Nat)(ts r:List Tk):Prop:=r <:+ ts/\r.length<=ts.length/\wt C r<=wt C ts
def Ns{C:Nat}{ts r:List Tk}(h:Y3 C ts r):Pm C ts r:=⟨h.1,by have:=h.2.1;omega,by have:=h.2.2;omega⟩
def K1{C:Nat}{a b c:List Tk}(h:Pm C a b)(h':Pm C b c):Pm C a c:=⟨h'.1.trans h.1,Cz h'.2.1 h.2.1,Cz h'.2.2 h.2.2⟩
def Am7{C:Nat}(a:List Tk):Pm C a a:=⟨Adt _,Ai _,Ai _⟩
def Ahu{s:List UInt8}{ts:List Tk}(C:Nat)(h:Ao s ts=true):Pm C ts ts.tail:=by
 obtain⟨h1,h2,h3⟩:=Lu (C:=C) h;exact⟨h1,by omega,by omega⟩
def Ayd{C:Nat}{ts r:List Tk}{n:Int}(ht:Dv ts)(h:Qt ts=some (n,r)):(0<=n/\n<=9223372036854775807)/\Pm C ts r:=by
 unfold Qt at h
 split at h
 .rename_i hs;have u:=Ahu C hs
  split at h
  .cases h
  rename_i m q hq;obtain⟨n1,n2⟩:=Aaz (C:=C) (C9 ht u.1) hq
  split at h
  .cases h
  simp only[Bo]at h;obtain⟨t3,h3,h⟩:=h;cases h;exact⟨n1,K1 (K1 u (Ns n2)) (Ns (K3 h3))⟩
 .cases h;exact⟨by omega,Am7 _⟩
def Am8{C:Nat}{ts r:List Tk}{n:Int}(ht:Dv ts)(h:N0 ts=some (n,r)):(-9223372036854775808<n/\n<=9223372036854775807)/\Pm C ts r:=by
 unfold N0 at h
 split at h
 .rename_i hs;have u:=Ahu C hs
  split at h
  .rename_i qF;have u2:=Ahu C qF;simp only[Bo]at h;obtain⟨p,hp,h⟩:=h;obtain⟨m,q⟩:=p;cases h;obtain⟨n1,n2⟩:=Aaz (C:=C) (C9 (C9 ht u.1) u2.1) hp;exact⟨by simp only;omega,K1 (K1 u u2) (Ns n2)⟩
  .obtain⟨n1,n2⟩:=Aaz (C:=C) (C9 ht u.1) h;exact⟨by omega,K1 u (Ns n2)⟩
 .cases h;exact⟨by omega,Am7 _⟩
def DQ(C:Nat)(ts:List Tk)(d:Dp)(r:List Tk):Prop:=ShD d/\r <:+ ts/\r.length<ts.length/\(Dc d).length+2+wt C r<=wt C ts
def Acw{C:Nat}(hC:100<=C){t:Tk}{ts r:List Tk}{d:Dp}(h:ShD d)(hl:Pm C ts r):DQ C (t::ts) d r:=by
 have h1:=Sn h.nm
 have h2:d.on.length<=12:=by
  by_cases hk:d.kind=5
  .exact Sn (h.on.1 hk)
  .rw[h.on.2 hk];exact A0 _
 have h3:=Asp h1 h2;have h4:=R8 C t ts;exact⟨h,hl.1.trans (Rn t ts),by have:=hl.2.1;simp only[Ah];omega,by have:=hl.2.2;omega⟩
def Ajv{C:Nat}(hC:100<=C){ts r:List Tk}{d:Dp}(ht:Dv ts)(hd:Lx ts=true)(h:O8 ts=some (d,r)):DQ C ts d r:=by
 cases ts with
 | nil=>cases h
 | cons t ts=>
  have hk:1<=F7 t.text/\F7 t.text<=6:=by
   simp only[Lx,Af,bne_iff_ne]at hd;rcases Am6 t.text with h | h
   .exact absurd h hd.2
   .exact h
  have qz:=C9 ht (Rn t ts);rw[O8]at h;generalize F7 t.text=w at h hk
  split at h
  .cases h
  rename_i nm t1 hn;obtain⟨n1,n2⟩:=Rw (C:=C) qz hn;have n2:=Ns n2;have qt:=C9 qz n2.1
  split at h
  .split at h
   .cases h
   rename_i sz t2 hs;obtain⟨s1,s2⟩:=Ayd (C:=C) qt hs
   split at h
   .cases h
   rename_i i t3 hi;obtain⟨i1,i2⟩:=Am8 (C:=C) (C9 qt s2.1) hi;simp only[Bo]at h;obtain⟨t4,h4,h⟩:=h;cases h;exact Acw hC ⟨by simp,n1,by simp;exact s1,⟨i1.1,i1.2,by simp⟩,by simp⟩ (K1 (K1 (K1 n2 s2) i2) (Ns (K3 h4)))
  split at h
  .split at h
   .cases h
   rename_i i t3 hi;obtain⟨i1,i2⟩:=Am8 (C:=C) qt hi;simp only[Bo]at h;obtain⟨t4,h4,h⟩:=h;cases h;exact Acw hC ⟨by simp,n1,by simp,⟨i1.1,i1.2,by simp⟩,by simp⟩ (K1 (K1 n2 i2) (Ns (K3 h4)))
  split at h
  .split at h
   .cases h
   rename_i on t3 hi;obtain⟨i1,i2⟩:=Rw (C:=C) qt hi;simp only[Bo]at h;obtain⟨t4,h4,h⟩:=h;cases h;exact Acw hC ⟨by simp,n1,by simp,by simp,by simpa using i1⟩ (K1 (K1 n2 (Ns i2)) (Ns (K3 h4)))
  .rename_i q1 q2 q5;simp only[Bo]at h;obtain⟨t4,h4,h⟩:=h;cases h;exact Acw hC ⟨hk,n1,⟨by simp,by simp,fun _=>rfl⟩,⟨by simp,by simp,fun _ _=>rfl⟩,fun h=>absurd h q5,fun _=>rfl⟩ (K1 n2 (Ns (K3 h4)))
def Ajn{C:Nat}(hC:100<=C):∀ (n:Nat) (ts:List Tk) (l:List Dp) (r:List Tk),Dv ts->Iu n ts=some (l,r)->(∀ d∈l,ShD d)/\r <:+ ts/\((l.map fun d=>Dc d++[59,10]).flatten).length+wt C r<=wt C ts
 | 0,ts,l,r,ht,h=>by cases h
 | n+1,ts,l,r,ht,h=>by
  rw[Iu]at h
  split at h
  .rename_i hd
   split at h
   .cases h
   rename_i d q hq;obtain⟨d1,d2,d3,d4⟩:=Ajv hC ht hd hq
   split at h
   .cases h
   rename_i l' q' qO;obtain⟨e1,e2,e3⟩:=Ajn hC n _ _ _ (C9 ht d2) qO;cases h;refine⟨fun x hx=>?_,e2.trans d2,?_⟩
   .rcases Bi.1 hx with rfl | hx
    .exact d1
    .exact e1 x hx
   .simp only[Aw,D3,Aj,Ah,C8]at e3 ⊢;omega
  .cases h;exact⟨by simp,Adt _,by simp⟩
def Akf{C:Nat}(hC:100<=C):∀ (n:Nat) (ts:List Tk) (l:List (List UInt8)) (r:List Tk),Dv ts->Iz n ts=some (l,r)->(∀ s∈l,Bv s=true)/\r <:+ ts/\r.length<ts.length/\(Ed l).length+wt C r<=wt C ts
 | 0,ts,l,r,ht,h=>by cases h
 | n+1,ts,l,r,ht,h=>by
  rw[Iz]at h
  split at h
  .cases h
  rename_i nm t1 hn;obtain⟨n1,n2,n3,n4⟩:=Rw (C:=C) ht hn;have n5:=Sn n1
  split at h
  .rename_i hs;obtain⟨u1,u2,u3⟩:=Lu (C:=C) hs
   split at h
   .cases h
   rename_i l' q hq;obtain⟨e1,e2,e3,e4⟩:=Akf hC n _ _ _ (C9 (C9 ht n2) u1) hq;cases h;have:=Alg nm l';refine⟨fun x hx=>?_,(e2.trans u1).trans n2,by omega,by omega⟩;rcases Bi.1 hx with rfl | hx
   .exact n1
   .exact e1 x hx
  .simp only[Bo]at h;obtain⟨t4,h4,h⟩:=h;cases h;obtain⟨d1,d2,d3⟩:=K3 (C:=C) h4;refine⟨fun x hx=>?_,d1.trans n2,by omega,by simp only[Ed];omega⟩;simp at hx;subst hx;exact n1
def ThQ(M C:Nat)(ts:List Tk)(t:Tp)(r:List Tk):Prop:=Bv t.nm=true/\(∀ s∈t.locals,Bv s=true)/\(∀ s∈t.body,ShS s)/\r <:+ ts/\r.length<ts.length/\Sp.szs t.body<=ts.length/\(D1 t).length+wt C r<=wt C ts
def Akg{M C:Nat}(hC:100+8*M<=C){n:Nat}{ts r:List Tk}{t:Tp}(ht:Dv ts)(hM:ts.length<=M)(h:Pi n ts=some (t,r)):ThQ M C ts t r:=by
 cases ts with
 | nil=>cases h
 | cons t0 ts=>
  have hw:=R8 C t0 ts;have qZ:=Rn t0 ts;have qz:=C9 ht qZ;rw[Ah]at hM;rw[Pi]at h
  split at h
  .cases h
  rename_i nm t1 hn;obtain⟨n1,n2,n3,n4⟩:=Rw (C:=C) qz hn;have n5:=Sn n1;have qt:=C9 qz n2
  split at h
  .cases h
  rename_i t2 h2;obtain⟨c1,c2,c3⟩:=K3 (C:=C) h2;have ja:=C9 qt c1
  split at h
  .cases h
  rename_i l t3 hl
  have qM:(∀ s∈l,Bv s=true)/\t3 <:+ t2/\t3.length<=t2.length/\(Ed l).length+wt C t3<=wt C t2:=by
   unfold Yk at hl
   split at hl
   .rename_i hs;obtain⟨u1,u2,u3⟩:=Lu (C:=C) hs;cases hl;exact⟨by simp,u1,by omega,by simp only[Ed,C8];omega⟩
   .obtain⟨e1,e2,e3,e4⟩:=Akf (C:=C) (by omega) n _ _ _ ja hl;exact⟨e1,e2,by omega,e4⟩
  obtain⟨l1,l2,l3,l4⟩:=qM
  split at h
  .cases h
  rename_i b t4 hb;obtain⟨b1,b2,b3,b4,b5⟩:=(Aa0 hC n).2.1 _ _ _ (C9 ja l2) hb;cases h;have:=b5 1 (by omega);refine⟨n1,l1,b1,(((b2.trans l2).trans c1).trans n2).trans qZ,by simp only[Ah];omega,by simp only[Ah];omega,?_⟩;unfold D1;simp only[Aj,Ah,C8];omega
def Ajw{M C:Nat}(hC:100+8*M<=C)(m:Nat):∀ (n:Nat) (ts:List Tk) (l:List Tp) (r:List Tk),Dv ts->ts.length<=M->Ix m n ts=some (l,r) ->
  (∀ t∈l,Bv t.nm=true)/\(∀ t∈l,∀ s∈t.locals,Bv s=true)/\(∀ t∈l,∀ s∈t.body,ShS s)/\(∀ t∈l,Sp.szs t.body<=M)/\((l.map D1).flatten).length+wt C r<=wt C ts
 | 0,ts,l,r,ht,hM,h=>by cases h
 | n+1,ts,l,r,ht,hM,h=>by
  rw[Ix]at h
  split at h
  .split at h
   .cases h
   rename_i t q hq;obtain⟨d1,d2,d3,d4,d5,d6,d7⟩:=Akg hC ht hM hq
   split at h
   .cases h
   rename_i l' q' qO;obtain⟨e1,e2,e3,e4,e5⟩:=Ajw hC m n _ _ _ (C9 ht d4) (by omega) qO;cases h;refine⟨fun x hx=>?_,fun x hx=>?_,fun x hx=>?_,fun x hx=>?_,?_⟩
   .rcases Bi.1 hx with rfl | hx
    .exact d1
    .exact e1 x hx
   .rcases Bi.1 hx with rfl | hx
    .exact d2
    .exact e2 x hx
   .rcases Bi.1 hx with rfl | hx
    .exact d3
    .exact e3 x hx
   .rcases Bi.1 hx with rfl | hx
    .omega
    .exact e4 x hx
   .simp only[Aw,D3,Aj];omega
  .cases h;exact⟨by simp,by simp,by simp,by simp,by simp⟩
def Ul:∀ (n:Nat) (ln:Int) (l:List UInt8) (ts:List Tk),C0 n ln l=some ts->ts.length<=l.length
 | n,ln,[],ts,h=>by
  have:C0 n ln []=some []:=by cases n<;>rfl
  rw[this]at h;cases h;exact Ai _
 | 0,ln,c::r,ts,h=>by cases h
 | n+1,ln,c::r,ts,h=>by
  rw[C0]at h
  split at h
  .have:=Ul n _ _ _ h;simp only[Ah];omega
  .split at h
   .have:=Ul n _ _ _ h;simp only[Ah];omega
   .split at h
    .have h1:=Ul n _ _ _ h;have h2:=Xq (· != 10) (c::r);omega
    .split at h
     .cases h
     .rename_i k w hf;simp only[Bo]at h;obtain⟨l,hl,rfl⟩:=h;obtain⟨h1,q,h2⟩:=Wq hf;have h3:=Ul n _ _ _ hl;rw[Dx]at h3;have:(c::r).length=w.length+q.length:=by rw[h2,Aj]
      simp only[Ah]at this h3 ⊢;omega
def Atw{s:List UInt8}{p:Gp}(h:Jd s=some p):ShG p/\(Fe p).length<=1000000000/\∀ t∈p.thrs,Sp.szs t.body<=4096:=by
 unfold Jd at h
 split at h
 .cases h
 rename_i hs
 split at h
 .cases h
 rename_i ts ht;have hl:=Ul _ _ _ _ ht;have qW:=Uu _ _ _ _ ht
 split at h
 rotate_left
 .cases h
 rename_i p' hp;cases h;unfold Sl at hp
 split at hp
 .cases hp
 rename_i ds r hd;obtain⟨d1,d2,d3⟩:=Ajn (C:=100+8*4096) (by omega) _ _ _ _ qW hd
 split at hp
 .cases hp
 rename_i l r2 jo;obtain⟨t1,t2,t3,t4,t5⟩:=Ajw (M:=4096) (C:=100+8*4096) (Ai _) _ _ _ _ _ (C9 qW d2) (by have:=d2.length_le;omega) jo
 split at hp
 .cases hp
 rename_i jl;cases hp;refine⟨⟨d1,t1,t2,t3,by simpa using jl⟩,?_,t4⟩;unfold Fe;rw[Aj];simp only;have:wt (100+8*4096) ts<=(100+8*4096)*4096:=Nat.mul_le_mul_left _ (by omega);omega
/-! programs that are equal apart from lines have one text -/
def Aye:∀ {l l':List Xp},H6 l l'=true->E7 l=E7 l'
 | [],[],_=>rfl
 | x::l,y::l',h=>by
  simp only[H6,Af]at h;simp only[E7,(Aeu x y h.1).2.2]
 | [],_::_,h=>by cases h
 | _::_,[],h=>by cases h
mutual
theorem A2q:∀ (s s':Sp),Vh s s'=true->∀ d,s.txt d=s'.txt d
 | ⟨op,line,nm,arg,iz,it,idx,ex,bz,bt,body,ez,et,els⟩,⟨op',line',nm',arg',iz',it',idx',ex',bz',bt',body',ez',et',els'⟩,h,d=>by
  simp only[Vh,Af,beq_iff_eq]at h;obtain⟨rfl,rfl,rfl,hx,hi,hb,he⟩:=h;have h1:=(Aeu ex ex' hx).2.2;have h2:=Aye hi;have h3:=Afh body body' hb (d+1);have h4:=Afh els els' he (d+1);rw[K6,K6];simp only[Cm,h1,h2,h3.1,h4.1,h4.2]
theorem Afh:∀ (l l':List Sp),Ly l l'=true->∀ d,Sp.txts d l=Sp.txts d l'/\l.isEmpty=l'.isEmpty
 | [],[],_,d=>⟨rfl,rfl⟩
 | x::l,y::l',h,d=>by
  simp only[Ly,Af]at h;rw[Ml,Ml,A2q x y h.1 d,(Afh l l' h.2 d).1];exact⟨rfl,rfl⟩
 | [],_::_,h,_=>by cases h
 | _::_,[],h,_=>by cases h
end
def Av0:((List.range 256).all fun i=>match (Jy (M8 TT PT 300) af52 [.int .u8 (i:Int)] []).bind fun p=>Es p.2 p.1 with
  | some (.bool b)=>b==J7 i
  | _=>false)=true:=by kernel_rfl
def Ni(c:UInt8):Fn TT PT 52 [.int .u8 (c.toNat:Int)] (.bool (F1 c)):=by
 have hr:=Bh.1 Av0 c.toNat (En.2 c.toNat_lt)
 split at hr
 .rename_i b hv;rw[show F1 c=b from(beq_iff_eq.1 hr).symm];exact P7 Rc T52 rfl rfl hv
 .cases hr
def Av1:((List.range 256).all fun i=>match (Jy (M8 TT PT 300) af54 [.int .u8 (i:Int)] []).bind fun p=>Es p.2 p.1 with
  | some (.bool b)=>b==M9 i
  | _=>false)=true:=by kernel_rfl
def P3(c:UInt8):Fn TT PT 54 [.int .u8 (c.toNat:Int)] (.bool (Dw c)):=by
 have hr:=Bh.1 Av1 c.toNat (En.2 c.toNat_lt)
 split at hr
 .rename_i b hv;rw[show Dw c=b from(beq_iff_eq.1 hr).symm];exact P7 Rc T54 rfl rfl hv
 .cases hr
def Yn{p:UInt8->Bool}:∀ l:List UInt8,(∀ i,i<(l.takeWhile p).length->∃ x,l[i]?=some x/\p x=true)/\((l.takeWhile p).length<l.length->∃ x,l[(l.takeWhile p).length]?=some x/\p x=false)/\(l.takeWhile p).length<=l.length/\l.take (l.takeWhile p).length=l.takeWhile p
 | []=>⟨fun i h=>by simp at h,fun h=>by simp at h,by simp,rfl⟩
 | c::l=>by
  obtain⟨h1,h2,h3,h4⟩:=Yn (p:=p) l;rw[Td];by_cases hc:p c=true
  .rw[if_pos hc];refine⟨fun i hi=>?_,fun h=>?_,by simp;omega,by simp[h4]⟩
   .cases i with
    | zero=>exact⟨c,rfl,hc⟩
    | succ i=>simpa using h1 i (by simp at hi;omega)
   .simpa using h2 (by simp at h;omega)
  .rw[if_neg hc];exact⟨fun i h=>by simp at h,fun _=>⟨c,rfl,by simpa using hc⟩,by simp,rfl⟩
def Gi{vs:List V}{σ:St}{v:V}(h:vs.all Ds=true)(he:V.tup vs=v):FR (.tup vs) σ v:=he ▸ Js h
def Qz(c:UInt8)(n:Nat)(hn:n<256):(((c.toNat:Int))==(n:Int))=(c==UInt8.ofNat n):=by
 by_cases h:c=UInt8.ofNat n
 .subst h;simp[UInt8.toNat_ofNat,Tj hn]
 .have:(c.toNat:Int)≠n:=fun e=>h (by
   have:c.toNat=n:=by omega
   exact UInt8.toNat_inj.1 (by rw[this];simp[UInt8.toNat_ofNat,Tj hn]))
  rw[beq_eq_false_iff_ne.2 h,beq_eq_false_iff_ne.2 this]
def Aqu(c:UInt8):Gw c=(F1 c||(Dw c||c==95)):=by
 unfold Gw Jj F1 Dw;congr 2;have:=Qz c 95 (by decide);rw[show(c==95)=(c==UInt8.ofNat 95) from rfl,<-this];by_cases h:c.toNat=95
 .rw[h];rfl
 .rw[beq_eq_false_iff_ne.2 h];exact(beq_eq_false_iff_ne.2 (by omega)).symm
def nn(i:Nat):(0<=(i:Int))=True:=eq_true (Int.natCast_nonneg i)
def Ar0(s:List UInt8)(i:Nat)(h:i<=s.length):Q6 (.str s) none (some (iV (i:Int)))=some (.str (s.take i)):=by
 rw[show Q6 (.str s) none (some (iV (i:Int)))=(Eb none 0).bind fun a=>(Eb (some (iV (i:Int))) s.length).bind fun b=>if a<=b/\b<=s.length then some (V.str ((s.take b).drop a)) else none from rfl];have e:Eb (some (iV (i:Int))) s.length=some i:=by simp[Eb]
 rw[e];simp only[Eb,C7];rw[if_pos ⟨A0 _,h⟩,Ll]
set_option maxHeartbeats 2000000 in
def A2r(c:UInt8)(r:List UInt8)(hl:(c::r).length<=4096):Fn TT PT 53 [.str (c::r)] (if 12<(El c r).length then .tup [.agg (Tk.row Tk.zero),iV 2] else .tup [.agg (Tk.row ⟨if Gc (El c r) then 3 else 1,El c r,0⟩),iV 0]):=by
 obtain⟨w1,w2,w3,w4⟩:=Yn (p:=Gw) r;have hW:(c::r).take (El c r).length=El c r:=by simp[El,w4]
 have qv:(El c r).length=(r.takeWhile Gw).length+1:=by simp[El]
 rw[Ah]at hl;generalize hn:(El c r).length=n at hW qv ⊢;refine Bz T53 rfl ?_;simp only[go_sem];refine B3 (α:=Nat) (fun i=>n - i) (fun i=>[(0,.str (c::r)),(2,.ptr 0 0 0),(4,iV (i:Int))]) (fun _=>[.row [iV 0,.str [],iV 0] 90 0 0]) (fun i=>1<=i/\i<=n) ?_ 1 ⟨by omega,by omega⟩;rintro i ⟨h1,h2⟩ ih;refine B4 (by delta lp53_0;exact rfl) ?_;by_cases hi:i<n
 .obtain⟨x,x1,x2⟩:=w1 (i - 1) (by omega)
  have x3:(c::r)[i]?=some x:=by
   obtain⟨j,rfl⟩:∃ j,i=j+1:=⟨i - 1,by omega⟩;simpa using x1
  have g1:decide ((i:Int)<((r.length+1:Nat):Int))=true:=by simp;omega
  have qr:((x.toNat:Int)==95)=(x==95):=Qz x 95 (by decide);have qc:=Bx (show i<r.length+1 by omega);have qg:=Bk (show i<9223372036854775807 by omega);rw[Aqu]at x2;by_cases hL:F1 x=true
  .simp only[go_sem,qc,nn,x3];refine Ad (Ni x) (by simp only[go_sem]) ?_;simp only[go_sem,hL,qg];exact Bg (ih (i+1) (by omega) (by omega)) rfl
  .have hL:F1 x=false:=by simpa using hL
   by_cases hD:Dw x=true
   .simp only[go_sem,qc,nn,x3];refine Ad (Ni x) (by simp only[go_sem]) ?_;simp only[go_sem,hL,nn,x3];refine Ad (P3 x) (by simp only[go_sem]) ?_;simp only[go_sem,hD,qg];exact Bg (ih (i+1) (by omega) (by omega)) rfl
   .have hD:Dw x=false:=by simpa using hD
    rw[hL,hD]at x2;simp only[Tq]at x2;simp only[go_sem,qc,nn,x3];refine Ad (Ni x) (by simp only[go_sem]) ?_;simp only[go_sem,hL,nn,x3];refine Ad (P3 x) (by simp only[go_sem]) ?_;simp only[go_sem,hD,nn,x3,qr,x2,qg];exact Bg (ih (i+1) (by omega) (by omega)) rfl
 .obtain rfl:i=n:=by omega
  have gi:(i<=r.length+1)=True:=eq_true (by omega)
  have qI:Q6 (.str (c::r)) none (some (iV (i:Int)))=some (.str (El c r)):=by
   rw[Ar0 _ _ (by simp;omega),hW]
  by_cases hb:i<r.length+1
  .obtain⟨x,x1,x2⟩:=w2 (by omega);have x3:(c::r)[i]?=some x:=by rw[qv];simpa using x1
   have qr:((x.toNat:Int)==95)=(x==95):=Qz x 95 (by decide);have qc:=Bx (show i<r.length+1 by omega);rw[Aqu]at x2;simp only[Adn]at x2;obtain⟨hL,hD,h9⟩:=x2;simp only[go_sem,qc,nn,x3];refine Ad (Ni x) (by simp only[go_sem]) ?_;simp only[go_sem,hL,nn,x3];refine Ad (P3 x) (by simp only[go_sem]) ?_;simp only[go_sem,hD,nn,x3,qr,h9];by_cases qj:12<i
   .have ql:decide ((12:Int)<(i:Int))=true:=by simp;omega
    rw[if_pos qj];simp only[go_sem,gt_iff_lt,ql];exact Gi (by simp only[go_sem]) rfl
   .have ql:decide ((12:Int)<(i:Int))=false:=by simp;omega
    rw[if_neg qj];simp only[go_sem,gt_iff_lt,ql,nn,gi,hW,A0,true_and,if_true,C7];refine F0 P82 rfl (by rfl) ?_;cases hk:Gc (El c r)
    .simp only[go_sem,hk,nn,gi,hW,A0,true_and,if_true,C7];exact Gi (by simp only[go_sem]) rfl
    .simp only[go_sem,hk,nn,gi,hW,A0,true_and,if_true,C7];exact Gi (by simp only[go_sem]) rfl
  .simp only[go_sem,Ck (show r.length+1<=i by omega)];by_cases qj:12<i
   .have ql:decide ((12:Int)<(i:Int))=true:=by simp;omega
    rw[if_pos qj];simp only[go_sem,gt_iff_lt,ql];exact Gi (by simp only[go_sem]) rfl
   .have ql:decide ((12:Int)<(i:Int))=false:=by simp;omega
    rw[if_neg qj];simp only[go_sem,gt_iff_lt,ql,nn,gi,hW,A0,true_and,if_true,C7];refine F0 P82 rfl (by rfl) ?_;cases hk:Gc (El c r)
    .simp only[go_sem,hk,nn,gi,hW,A0,true_and,if_true,C7];exact Gi (by simp only[go_sem]) rfl
    .simp only[go_sem,hk,nn,gi,hW,A0,true_and,if_true,C7];exact Gi (by simp only[go_sem]) rfl
def A2s(l:List UInt8)(c:UInt8):decide (0<=Lib.indexByte l c)=l.elem c:=by
 induction l with
 | nil=>rfl
 | cons b l ih=>
  have hg:=Lib.indexByte_ge l c;rw[Lib.indexByte,List.elem_cons];by_cases h:b=c
  .subst h;simp
  .have h1:(b==c)=false:=by simp[h]
   have h2:(c==b)=false:=by simp[Ne.symm h]
   simp only[h1,h2,Ez,if_false,Tq,<-ih];by_cases h3:Lib.indexByte l c = -1
   .rw[h3];rfl
   .have h4:(Lib.indexByte l c == -1)=false:=by simp[h3]
    rw[h4];simp only[Ez,if_false];rw[decide_eq_decide];omega
def Ape:∀ l:List UInt8,(Lib.indexByte l 10 = -1/\(l.takeWhile (· != 10)).length=l.length)\/Lib.indexByte l 10=((l.takeWhile (· != 10)).length:Int)
 | []=>.inl ⟨rfl,rfl⟩
 | b::l=>by
  have ih:=Ape l;rw[Lib.indexByte,Td];by_cases h:b=10
  .subst h;exact .inr (by simp)
  .have h1:(b==10)=false:=by simp[h]
   have h2:(b != 10)=true:=by simp[h]
   simp only[h1,h2,Ez,if_false,if_true,Ah];rcases ih with⟨h3,h4⟩ | h3
   .rw[h3,h4];exact .inl ⟨rfl,rfl⟩
   .have h4:(Lib.indexByte l 10 == -1)=false:=by rw[h3,beq_eq_false_iff_ne];omega
    rw[h4,h3];exact .inr (by simp)
def Af7(p:UInt8->Bool):∀ l:List UInt8,l.drop (l.takeWhile p).length=l.dropWhile p
 | []=>rfl
 | c::l=>by
  rw[Td,Tc];cases p c
  .rfl
  .simp only[if_true,Ah,Zf];exact Af7 p l
def Aqv:∀ a b:List UInt8,(!(Op.bytesLess a b||a==b))=Op.bytesLess b a
 | [],[]=>rfl
 | [],b::y=>by simp[Op.bytesLess]
 | a::x,[]=>by simp[Op.bytesLess]
 | a::x,b::y=>by
  have ih:=Aqv x y;simp only[Op.bytesLess,List.cons_beq_cons,<-ih];by_cases h:a=b
  .subst h;have h1:¬ a<a:=UInt8.lt_irrefl a;simp[h1]
  .have h1:(a==b)=false:=by simp[h]
   have h2:(b==a)=false:=by simp[Ne.symm h]
   rw[h1,h2];have h5:a.toNat≠b.toNat:=fun e=>h (UInt8.toNat_inj.1 e)
   rcases(show a<b\/b<a by rw[UInt8.lt_iff_toNat_lt,UInt8.lt_iff_toNat_lt];omega) with h3 | h3
   .have h4:¬ b<a:=UInt8.lt_asymm h3;simp[h3,h4]
   .have h4:¬ a<b:=UInt8.lt_asymm h3;simp[h3,h4]
def Auo(l:List UInt8)(hl:l.length<=4096):Fn TT PT 32 [.str l] (iV ((l.takeWhile (· != 10)).length:Int)):=by
 refine Bz T32 rfl ?_;have hg:=Lib.indexByte_ge l 10;have ht:=Yn (p:=(· != 10)) l;have q:Rb [.str l,.int .u8 10]=some (iV (Lib.indexByte l 10)):=rfl;rcases Ape l with⟨h1,h2⟩ | h1
 .rw[h1]at q;rw[h2];simp only[go_sem];refine F0 P50 (by simp only[go_sem]) q ?_;simp only[go_sem,ge_iff_le];exact Ap rfl rfl
 .rw[h1]at q;generalize(l.takeWhile (· != 10)).length=n at q;have f1:((0:Int)<=(n:Int))=True:=eq_true (by omega);simp only[go_sem];refine F0 P50 (by simp only[go_sem]) q ?_;simp only[go_sem,ge_iff_le,f1];exact Ap rfl rfl
def Ayf(c:UInt8)(r:List UInt8)(hl:(c::r).length<=4096):Fn TT PT 56 [.str (c::r)] (iV (G9 (c::r):Int)):=by
 have q:Rb [.str oneS,.int .u8 (c.toNat:Int)]=some (iV (Lib.indexByte oneS c)):=by
  simp only[Rb,Rl,Nat.toUInt8_eq,UInt8.ofNat_toNat]
 have jg:=A2s oneS c;have qN:∀ b:Bool,oneS.elem c=b->decide (0<=Lib.indexByte oneS c)=b:=fun b h=>jg.trans h
 rw[Ah]at hl;refine Bz T56 rfl ?_
 have qB:∀ b:Bool,oneS.elem c=b->(0<=Lib.indexByte oneS c)=(b=true):=fun b h=>by
  have:=qN b h;cases b
  .simp only[decide_eq_false_iff_not]at this
   exact eq_false this |>.trans (by simp)
  .simp only[decide_eq_true_eq]at this
   exact eq_true this |>.trans (by simp)
 have i0:(c::r)[0]?=some c:=rfl;have hk:∀ b:Bool,oneS.elem c=b->((0<=Lib.indexByte oneS c)=(b=true)):=qB;unfold G9;by_cases h2:2<=r.length+1
 .have g2:((2:Int)<=((r.length+1:Nat):Int))=True:=eq_true (by omega);have g3:(2<=r.length+1)=True:=eq_true h2;have d2:decide (2<=(c::r).length)=true:=by simp;omega
  rw[d2,Adw];generalize hw:(c::r).take 2=w;by_cases a1:w=[124,124]
  .rw[a1]at hw ⊢;have e1:(([124,124]:List UInt8)==[124,124])=true:=by decide
   simp only[go_sem,ge_iff_le,g2,g3,hw,e1];exact Ap rfl rfl
  have e1:(w==[124,124])=false:=by simp[a1]
  by_cases a2:w=[38,38]
  .rw[a2]at hw ⊢;rw[a2]at e1;have e2:(([38,38]:List UInt8)==[38,38])=true:=by decide
   simp only[go_sem,ge_iff_le,g2,g3,hw,e1,e2];exact Ap rfl rfl
  have e2:(w==[38,38])=false:=by simp[a2]
  by_cases a3:w=[61,61]
  .rw[a3]at hw ⊢;rw[a3]at e1;rw[a3]at e2;have e3:(([61,61]:List UInt8)==[61,61])=true:=by decide
   simp only[go_sem,ge_iff_le,g2,g3,hw,e1,e2,e3];exact Ap rfl rfl
  have e3:(w==[61,61])=false:=by simp[a3]
  by_cases a4:w=[33,61]
  .rw[a4]at hw ⊢;rw[a4]at e1;rw[a4]at e2;rw[a4]at e3;have e4:(([33,61]:List UInt8)==[33,61])=true:=by decide
   simp only[go_sem,ge_iff_le,g2,g3,hw,e1,e2,e3,e4];exact Ap rfl rfl
  have e4:(w==[33,61])=false:=by simp[a4]
  by_cases a5:w=[60,61]
  .rw[a5]at hw ⊢;rw[a5]at e1;rw[a5]at e2;rw[a5]at e3;rw[a5]at e4;have e5:(([60,61]:List UInt8)==[60,61])=true:=by decide
   simp only[go_sem,ge_iff_le,g2,g3,hw,e1,e2,e3,e4,e5];exact Ap rfl rfl
  have e5:(w==[60,61])=false:=by simp[a5]
  by_cases a6:w=[62,61]
  .rw[a6]at hw ⊢;rw[a6]at e1;rw[a6]at e2;rw[a6]at e3;rw[a6]at e4;rw[a6]at e5;have e6:(([62,61]:List UInt8)==[62,61])=true:=by decide
   simp only[go_sem,ge_iff_le,g2,g3,hw,e1,e2,e3,e4,e5,e6];exact Ap rfl rfl
  have e6:(w==[62,61])=false:=by simp[a6]
  have en:twoS.elem w=false:=by simp[twoS,a1,a2,a3,a4,a5,a6]
  rw[en];cases hb:oneS.elem c
  all_goals
   have f:=hk _ hb;simp only[go_sem,ge_iff_le,g2,g3,hw,e1,e2,e3,e4,e5,e6,i0];refine F0 P50 (by simp only[go_sem]) q ?_;simp only[go_sem,ge_iff_le,f];exact Ap rfl (by rw[hb];rfl)
 .have g2:((2:Int)<=((r.length+1:Nat):Int))=False:=eq_false (by omega);have d2:decide (2<=(c::r).length)=false:=decide_eq_false (by rw[Ah];omega);rw[d2,Tn];cases hb:oneS.elem c
  all_goals
   have f:=hk _ hb;simp only[go_sem,ge_iff_le,g2,i0];refine F0 P50 (by simp only[go_sem]) q ?_;simp only[go_sem,ge_iff_le,f];exact Ap rfl (by rw[hb];rfl)
def A2t(c:UInt8)(r:List UInt8)(hc:Dw c=true)(hl:(c::r).length<=4096):Fn TT PT 55 [.str (c::r)] (if O7 (r.dropWhile Dw) then .tup [.agg (Tk.row Tk.zero),iV 3] else if Nz (Ee c r) then .tup [.agg (Tk.row ⟨2,Ee c r,0⟩),iV 0] else .tup [.agg (Tk.row Tk.zero),iV 3]):=by
 obtain⟨w1,w2,w3,w4⟩:=Yn (p:=Dw) r;have hd:=Af7 Dw r;have hW:(c::r).take (Ee c r).length=Ee c r:=by simp[Ee,w4]
 have qv:(Ee c r).length=(r.takeWhile Dw).length+1:=by simp[Ee]
 rw[Ah]at hl;generalize hn:(Ee c r).length=n at hW qv ⊢;refine Bz T55 rfl ?_;simp only[go_sem];refine B3 (α:=Nat) (fun i=>n - i) (fun i=>[(0,.str (c::r)),(2,.ptr 0 0 0),(4,iV (i:Int))]) (fun _=>[.row [iV 0,.str [],iV 0] 90 0 0]) (fun i=>1<=i/\i<=n) ?_ 1 ⟨by omega,by omega⟩;rintro i ⟨h1,h2⟩ ih;refine B4 (by delta lp55_0;exact rfl) ?_;by_cases hi:i<n
 .obtain⟨x,x1,x2⟩:=w1 (i - 1) (by omega)
  have x3:(c::r)[i]?=some x:=by
   obtain⟨j,rfl⟩:∃ j,i=j+1:=⟨i - 1,by omega⟩;simpa using x1
  have qc:=Bx (show i<r.length+1 by omega);have qg:=Bk (show i<9223372036854775807 by omega);simp only[go_sem,qc,nn,x3];refine Ad (P3 x) (by simp only[go_sem]) ?_;simp only[go_sem,x2,qg];exact Bg (ih (i+1) (by omega) (by omega)) rfl
 .obtain rfl:i=n:=by omega
  have gi:(i<=r.length+1)=True:=eq_true (by omega)
  have qI:Q6 (.str (c::r)) none (some (iV (i:Int)))=some (.str (Ee c r)):=by
   rw[Ar0 _ _ (by simp;omega),hW]
  have qy:Nz (Ee c r)=!(decide (19<((Ee c r).dropWhile (·==48)).length)||(decide (((Ee c r).dropWhile (·==48)).length=19)&&Op.bytesLess greatS ((Ee c r).dropWhile (·==48)))):=rfl;have q:V2 [.str (Ee c r),.str [48]]=some (.str ((Ee c r).dropWhile (·==48))):=rfl;generalize(Ee c r).dropWhile (·==48)=d at qy q
  have qx:(i<r.length+1/\∃ x,(c::r)[i]?=some x/\Dw x=false/\O7 (r.dropWhile Dw)=(F1 x||x==95))\/(r.length+1<=i/\O7 (r.dropWhile Dw)=false):=by
   by_cases hb:i<r.length+1
   .obtain⟨x,x1,x2⟩:=w2 (by omega);have x3:(c::r)[i]?=some x:=by rw[qv];simpa using x1
    refine .inl ⟨hb,x,x3,x2,?_⟩;rw[<-hd,Gr (Aq.1 x1).1,(Aq.1 x1).2];rfl
   .refine .inr ⟨by omega,?_⟩;rw[<-hd,Ge (by omega)];rfl
  have q:V2 [.str (Ee c r),.str [48]]=some (.str d):=q;have qE:(!(Op.bytesLess d [57,50,50,51,51,55,50,48,51,54,56,53,52,55,55,53,56,48,55]||d==[57,50,50,51,51,55,50,48,51,54,56,53,52,55,55,53,56,48,55]))=Op.bytesLess greatS d:=Aqv d greatS
  have tail:∀ b:Bool,Nz (Ee c r)=b->(b=true/\decide (19<(d.length:Int))=false/\(((d.length:Int)==19)=false\/(((d.length:Int)==19)=true/\Op.bytesLess greatS d=false)))\/(b=false/\(decide (19<(d.length:Int))=true\/(decide (19<(d.length:Int))=false/\((d.length:Int)==19)=true/\Op.bytesLess greatS d=true))):=fun b hb=>by
   have k1:decide (19<(d.length:Int))=decide (19<d.length):=by rw[decide_eq_decide];omega
   have k2:((d.length:Int)==19)=decide (d.length=19):=by
    rw[Bool.eq_iff_iff,beq_iff_eq,decide_eq_true_eq];omega
   rw[k1,k2];rw[qy]at hb;subst hb
   cases decide (19<d.length)<;>cases decide (d.length=19)<;>cases Op.bytesLess greatS d<;>simp
  rcases qx with⟨hb,x,x3,hD,hg⟩ | ⟨hb,hg⟩
  .have qc:=Bx hb;have qr:((x.toNat:Int)==95)=(x==95):=Qz x 95 (by decide);simp only[go_sem,qc,nn,x3];refine Ad (P3 x) (by simp only[go_sem]) ?_;simp only[go_sem,hD,qc,nn,x3];refine Ad (Ni x) (by simp only[go_sem]) ?_;rw[hg];cases hL:F1 x
   .cases h9:(x==95)
    .simp only[go_sem,nn,x3,qr,h9,gi,hW,A0,true_and,if_true,C7];refine F0 P83 (by simp only[go_sem]) q ?_;rcases tail _ rfl with⟨hb,k1,k2 | ⟨k2,k3⟩⟩ | ⟨hb,k1 | ⟨k1,k2,k3⟩⟩
     all_goals rw[hb]
     .simp only[go_sem,gt_iff_lt,k1,k2,nn,gi,hW,A0,true_and,if_true,C7];exact Gi (by simp only[go_sem]) rfl
     .simp only[go_sem,gt_iff_lt,k1,k2,qE,k3,nn,gi,hW,A0,true_and,if_true,C7];exact Gi (by simp only[go_sem]) rfl
     .simp only[go_sem,gt_iff_lt,k1];exact Gi (by simp only[go_sem]) rfl
     .simp only[go_sem,gt_iff_lt,k1,k2,qE,k3];exact Gi (by simp only[go_sem]) rfl
    .simp only[go_sem,nn,x3,qr,h9];exact Gi (by simp only[go_sem]) rfl
   .simp only[go_sem];exact Gi (by simp only[go_sem]) rfl
  .rw[hg];simp only[go_sem,Ck hb,nn,gi,hW,A0,true_and,if_true,C7];refine F0 P83 (by simp only[go_sem]) q ?_;rcases tail _ rfl with⟨hb,k1,k2 | ⟨k2,k3⟩⟩ | ⟨hb,k1 | ⟨k1,k2,k3⟩⟩
   all_goals rw[hb]
   .simp only[go_sem,gt_iff_lt,k1,k2,nn,gi,hW,A0,true_and,if_true,C7];exact Gi (by simp only[go_sem]) rfl
   .simp only[go_sem,gt_iff_lt,k1,k2,qE,k3,nn,gi,hW,A0,true_and,if_true,C7];exact Gi (by simp only[go_sem]) rfl
   .simp only[go_sem,gt_iff_lt,k1];exact Gi (by simp only[go_sem]) rfl
   .simp only[go_sem,gt_iff_lt,k1,k2,qE,k3];exact Gi (by simp only[go_sem]) rfl
def Ayg(c:UInt8)(r:List UInt8)(hl:(c::r).length<=4096):∃ e:Int,e≠0/\Fn TT PT 33 [.str (c::r)] (match Is (c::r) with
  | some (k,w)=>.tup [.agg (Tk.row ⟨k,w,0⟩),.int .i64 0]
  | none=>.tup [.agg (Tk.row Tk.zero),.int .i64 e]):=by
 have i0:(c::r)[0]?=some c:=rfl;have hT:TT 33=some af33:=by rfl
 cases hL:F1 c
 .cases hD:Dw c
  .have hs:=Ayf c r hl;by_cases h0:G9 (c::r)=0
   .have hf:Is (c::r)=none:=by rw[Nh,if_neg (by rw[hL];decide),if_neg (by rw[hD];decide),if_pos h0]
    rw[hf];have e0:((G9 (c::r):Int)==0)=true:=by rw[h0];rfl
    refine⟨3,by decide,Bz T33 rfl ?_⟩;simp only[go_sem,i0];refine Ad (Ni c) (by simp only[go_sem]) ?_;simp only[go_sem,hL];refine Ad (P3 c) (by simp only[go_sem]) ?_;simp only[go_sem,hD];refine Ad hs (by simp only[go_sem]) ?_;simp only[go_sem,e0];exact Gi (by simp only[go_sem]) rfl
   .have hf:Is (c::r)=some (4,(c::r).take (G9 (c::r))):=by rw[Nh,if_neg (by rw[hL];decide),if_neg (by rw[hD];decide),if_neg h0]
    rw[hf];have qK:=(Ao6 h0).2;rw[Ah]at qK;generalize G9 (c::r)=n at hs h0 qK ⊢;have e0:((n:Int)==0)=false:=by rw[beq_eq_false_iff_ne];omega
    have gi:(n<=r.length+1)=True:=eq_true qK;generalize hw:(c::r).take n=w;refine⟨3,by decide,Bz T33 rfl ?_⟩;simp only[go_sem,i0];refine Ad (Ni c) (by simp only[go_sem]) ?_;simp only[go_sem,hL];refine Ad (P3 c) (by simp only[go_sem]) ?_;simp only[go_sem,hD];refine Ad hs (by simp only[go_sem]) ?_;simp only[go_sem,e0,nn,gi,hw,A0,true_and,if_true,C7];exact Gi (by simp only[go_sem]) rfl
  .have hs:=A2t c r hD hl;have jd:F1 c≠true:=by rw[hL];decide
   refine⟨3,by decide,Bz T33 rfl ?_⟩
   have hf:Is (c::r)=if O7 (r.dropWhile Dw) then none else if Nz (Ee c r) then some (2,Ee c r) else none:=by rw[Nh,if_neg jd,if_pos hD]
   rw[hf]
   cases hg:O7 (r.dropWhile Dw)<;>cases hk:Nz (Ee c r)
   all_goals
    rw[hg]at hs;rw[hk]at hs;simp only[Ez,if_false,if_true,Tk.row,Tk.zero]at hs ⊢;simp only[go_sem,i0];refine Ad (Ni c) (by simp only[go_sem]) ?_;simp only[go_sem,hL];refine Ad (P3 c) (by simp only[go_sem]) ?_;simp only[go_sem,hD];refine Ad hs (by simp only[go_sem]) ?_;simp only[go_sem];exact Gi (by simp only[go_sem]) rfl
 .have hs:=A2r c r hl;refine⟨2,by decide,Bz T33 rfl ?_⟩
  have hf:Is (c::r)=if 12<(El c r).length then none else some (if Gc (El c r) then 3 else 1,El c r):=by rw[Nh,if_pos hL]
  rw[hf];by_cases qj:12<(El c r).length
  .rw[if_pos qj]at hs ⊢;simp only[Tk.row,Tk.zero]at hs ⊢;simp only[go_sem,i0];refine Ad (Ni c) (by simp only[go_sem]) ?_;simp only[go_sem,hL];refine Ad hs (by simp only[go_sem]) ?_;simp only[go_sem];exact Gi (by simp only[go_sem]) rfl
  .rw[if_neg qj]at hs ⊢;simp only[Tk.row]at hs ⊢;generalize(if Gc (El c r)=true then(3:Int) else 1)=k at hs ⊢;simp only[go_sem,i0];refine Ad (Ni c) (by simp only[go_sem]) ?_;simp only[go_sem,hL];refine Ad hs (by simp only[go_sem]) ?_;simp only[go_sem];exact Gi (by simp only[go_sem]) rfl
/-! the whole text -/
def Ahv{f p:Nat}{res:List AR}{body:AC}{vs:List V}{R:V->Prop}(hT:TT f=some ⟨p,res,false,body,none⟩)(hl:vs.length=p)(h:W TT PT [.c body] (Da 0 vs) [] (Hd fun e' σ1=>∃ v,FQ res v e' σ1/\R v)):∃ v,Fn TT PT f vs v/\R v:=by
 obtain⟨e',σ',hE,v,hq,hR⟩:=h;exact⟨v,Bz hT hl ⟨e',σ',hE,hq⟩,hR⟩
def A6x{σ:St}{m e i g:Nat}{xs:List (List V)}{w y:Int}(ho:σ[i]?=some (.row xs.flatten e g 0))(hm:0<m)(hl:∀ r∈xs,r.length=m)(hr:∀ r∈xs,r.all V.rowB=true):
  FR (.tup [.sl i g 0 xs.length m true,iV w,iV y]) σ (.tup [.lst 0 xs,iV w,iV y]):=by
 obtain⟨hi,jm⟩:=Aq.1 ho;have hx:Am xs.flatten=[]:=K0 (Mn hr);have h0:ren 0 [i] i=0:=by simp[ren,List.findIdx_cons]
 refine .inr ⟨[i],?_,?_⟩
 .simp only[Hz,Cq,Iq,V.refs,Am,As,Bd,V.cellB,Cy];simp[Ey,jm,Ob.refs,hx,hi]
 .simp only[Lj,ho,Zg,Aw,B6,Ob.ren,Agt i _ (Mn hr),V.ren,Hq,h0,Es,Jq];have ha:OV [Ob.row xs.flatten e g 0] (V.sl 0 g 0 xs.length m true) (.lst 0 xs):=Abe (Vd (i:=0) (g:=g) (e:=e) (z:=0) (w:=true) rfl hm hl hr) rfl;have jb:∀ n:Int,OV [Ob.row xs.flatten e g 0] (iV n) (iV n):=fun n=>Ju rfl
  exact congrArg (Option.map V.tup) (Xn (.cons ha (.cons (jb w) (.cons (jb y) .nil))) fun j hj=>Ui _ _ _ _ (Zh.2 hj))
def A6y{σ:St}{m e lo:Nat}{u:V}{w y:Int}{xs:List (List V)}(h:GW σ m e lo u xs)(hm:0<m)(hl:∀ r∈xs,r.length=m)(hr:∀ r∈xs,r.all V.rowB=true):
  FR (.tup [u,iV w,iV y]) σ (.tup [SL true 0 xs,iV w,iV y]):=by
 rcases h with⟨rfl,rfl⟩ | ⟨hn,i,g,rfl,ho,jv⟩
 .exact Js rfl
 .rw[Ahs hn];exact A6x ho hm hl hr
def A6z(c:UInt8)(r:List UInt8):Lib.hasPrefix (c::r) [47,47]=decide (c=47/\r.head?=some 47):=by
 unfold Lib.hasPrefix
 cases r with
 | nil=>simp[List.isPrefixOf]
 | cons d r=>
  simp only[List.isPrefixOf,Wh,List.head?_cons,Oh]
  by_cases h1:c=47<;>by_cases h2:d=47<;>simp[h1,h2]<;>exact fun h=>absurd h.symm (by assumption)
def Ahw(s:List UInt8)(v:V):Prop:=match (if 4096<s.length then none else C0 s.length 1 s) with
 | some L=>v=.tup [SL true 0 (L.map Tk.row),.int .i64 0,.int .i64 0]
 | none=>∃ e ln:Int,e≠0/\v=.tup [.nils,.int .i64 e,.int .i64 ln]
def A60(t:Tk):t.row.length=3:=rfl
def A61(t:Tk):t.row.all V.rowB=true:=rfl
def A2u(s:List UInt8):∃ v,Fn TT PT 17 [.str s] v/\Ahw s v:=by
 refine Ahv T17 rfl ?_;unfold Ahw;by_cases qw:4096<s.length
 .have f1:((4096:Int)<(s.length:Int))=True:=eq_true (by omega);rw[if_pos qw];simp only[go_sem,gt_iff_lt,f1];exact⟨_,Js (by rfl),2,0,by decide,rfl⟩
 .have f1:((4096:Int)<(s.length:Int))=False:=eq_false (by omega);rw[if_neg qw];simp only[go_sem,gt_iff_lt,f1];refine B3 (α:=Nat × Nat × V × List Tk × St) (fun a=>s.length - a.1) (fun a=>[(0,.str s),(5,a.2.2.1),(6,iV (a.2.1:Int)),(7,iV (a.1:Int))]) (fun a=>a.2.2.2.2) (fun a=>a.1<=s.length/\a.2.1<=a.1+1/\a.2.2.2.1.length<=a.1/\GW a.2.2.2.2 3 90 0 a.2.2.1 (a.2.2.2.1.map Tk.row)/\C0 s.length 1 s=(C0 s.length (a.2.1:Int) (s.drop a.1)).map (a.2.2.2.1++·)) ?_ (0,1,.nils,[],[]) ⟨A0 _,Ai _,Ai _,Gk,by simp⟩;rintro⟨i,ln,u,L,σ⟩ ⟨hi,jj,hL,hg,qb⟩ ih;simp only at hi jj hL hg qb ih
  have qY:∀ r∈L.map Tk.row,r.length=3:=by
   intro r hr;obtain⟨x,-,rfl⟩:=De.1 hr;exact A60 x
  have jn:∀ r∈L.map Tk.row,r.all V.rowB=true:=by
   intro r hr;obtain⟨x,-,rfl⟩:=De.1 hr;exact A61 x
  refine B4 (by delta lp17_0;exact rfl) ?_;by_cases hc:i<s.length
  .obtain⟨c,r,qf⟩:∃ c r,s.drop i=c::r:=by
    rw[Gr hc];exact⟨_,_,rfl⟩
   have x3:s[i]?=some c:=by
    have:=congrArg (·[0]?) qf;simpa using this
   have qL:(c::r).length=s.length - i:=by rw[<-qf,Dx]
   have qX:s.drop (i+1)=r:=by
    have:=congrArg List.tail qf;simpa[List.tail_drop] using this
   have qc:=Bx hc;have gi:(i<=s.length)=True:=eq_true hi;have qk:((c.toNat:Int)==10)=(c==UInt8.ofNat 10):=Qz c 10 (by decide);have qp:((c.toNat:Int)==32)=(c==UInt8.ofNat 32):=Qz c 32 (by decide);have e9:((c.toNat:Int)==9)=(c==UInt8.ofNat 9):=Qz c 9 (by decide);have qA:((c.toNat:Int)==13)=(c==UInt8.ofNat 13):=Qz c 13 (by decide);have qg:=Bk (show i<9223372036854775807 by omega);have qJ:=Bk (show ln<9223372036854775807 by omega);obtain⟨k,hk⟩:∃ k,s.length=k+1:=⟨s.length - 1,by omega⟩;rw[Ah]at qL
   have qe:C0 s.length (ln:Int) (s.drop i)=if c=10 then C0 k ((ln:Int)+1) r else if c=32\/c=9\/c=13 then C0 k (ln:Int) r else if c=47/\r.head?=some 47 then C0 k (ln:Int) ((c::r).dropWhile (· != 10)) else match Is (c::r) with
     | none=>none
     | some (q,w)=>(C0 k (ln:Int) ((c::r).drop w.length)).map fun l=>⟨q,w,(ln:Int)⟩::l:=by rw[hk,qf];rfl
   have any:∀ (n:Int) (l:List UInt8),l.length<=k->C0 k n l=C0 s.length n l:=fun n l h=>Uj _ _ n l h (by omega)
   by_cases qu:c=10
   .have qi:(c==UInt8.ofNat 10)=true:=by rw[qu];rfl
    rw[if_pos qu,any _ _ (by omega)]at qe;simp only[go_sem,qc,nn,x3,qk,qi,qg,qJ];refine Bg (ih (i+1,ln+1,u,L,σ) (by simp;omega) ⟨by simp;omega,by simp;omega,by simp;omega,hg,?_⟩) rfl;simp only;rw[qX,qb,qe];rfl
   .have qi:(c==UInt8.ofNat 10)=false:=by rw[beq_eq_false_iff_ne];exact qu
    rw[if_neg qu]at qe;by_cases qo:c=32\/c=9\/c=13
    .rw[if_pos qo,any _ _ (by omega)]at qe
     have next:W TT PT _ [(0,.str s),(5,u),(6,iV (ln:Int)),(7,iV ((i+1:Nat):Int))] σ _:=ih (i+1,ln,u,L,σ) (by simp;omega) ⟨by simp;omega,by simp;omega,by simp;omega,hg,by simp only;rw[qX,qb,qe]⟩
     rcases qo with rfl | rfl | rfl
     .simp only[go_sem,qc,nn,x3,qk,qi,qp,(show((32:UInt8)==UInt8.ofNat 32)=true from rfl),qg]
      exact Bg next rfl
     .simp only[go_sem,qc,nn,x3,qk,qi,qp,e9,(show((9:UInt8)==UInt8.ofNat 32)=false from rfl),(show((9:UInt8)==UInt8.ofNat 9)=true from rfl),qg]
      exact Bg next rfl
     .simp only[go_sem,qc,nn,x3,qk,qi,qp,e9,qA,(show((13:UInt8)==UInt8.ofNat 32)=false from rfl),(show((13:UInt8)==UInt8.ofNat 9)=false from rfl),(show((13:UInt8)==UInt8.ofNat 13)=true from rfl),qg]
      exact Bg next rfl
    .rw[if_neg qo]at qe;simp only[not_or]at qo;have qH:(c==UInt8.ofNat 32)=false:=by rw[beq_eq_false_iff_ne];exact qo.1
     have b9:(c==UInt8.ofNat 9)=false:=by rw[beq_eq_false_iff_ne];exact qo.2.1
     have qG:(c==UInt8.ofNat 13)=false:=by rw[beq_eq_false_iff_ne];exact qo.2.2
     have q:Y1 [.str (c::r),.str [47,47]]=some (.bool (decide (c=47/\r.head?=some 47))):=by rw[<-A6z];rfl
     by_cases qD:c=47/\r.head?=some 47
     .rw[if_pos qD]at qe;rw[decide_eq_true qD]at q;have hd:=Xq (· != 10) (c::r);have qS:=Auo (c::r) (by rw[Ah];omega);have qT:=Af7 (· != 10) (c::r)
      have qU:1<=((c::r).takeWhile (· != 10)).length:=by
       rw[Td,if_pos (by simp[qu])];simp
      have qV:((c::r).takeWhile (· != 10)).length<=(c::r).length:=(Yn (c::r)).2.2.1
      have jk:((c::r).dropWhile (· != 10)).length<=k:=by
       rw[<-qT,Dx,Ah];omega
      rw[any _ _ jk,<-qT]at qe;rw[Ah]at qV;generalize((c::r).takeWhile (· != 10)).length=n at qS qe qU qV;have qm:IntKind.i64.wrap ((i:Int)+(n:Int))=((i+n:Nat):Int):=by rw[Ec (by omega)];omega
      simp only[go_sem,qc,nn,x3,qk,qi,qp,qH,e9,b9,qA,qG,gi,qf,A0,Ai,D8,true_and,if_true,C7];refine F0 P31 (by simp only[go_sem]) q ?_;simp only[go_sem,nn,gi,qf,A0,Ai,D8,true_and,if_true,C7];refine Ad qS (by simp only[go_sem]) ?_;simp only[go_sem,qm];refine Bg (ih (i+n,ln,u,L,σ) (by simp;omega) ⟨by simp;omega,by simp;omega,by simp;omega,hg,?_⟩) rfl;simp only;rw[qb,qe,<-qf,Oj]
     .rw[if_neg qD]at qe;rw[decide_eq_false qD]at q;obtain⟨e,he,qs⟩:=Ayg c r (by rw[Ah];omega);have qP:∀ a:Ob,(σ++[a])[σ.length]?=some a:=fun a=>by simp
      have jc:∀ a b:Ob,(σ++[a]).set σ.length b=σ++[b]:=fun a b=>by simp[Jn]
      cases hf:Is (c::r) with
      | none=>
       rw[hf]at qs qe;simp only[Tk.row,Tk.zero]at qs;have ne:(e != 0)=true:=by simp[he]
       have qb:C0 s.length 1 s=none:=by rw[qb,qe];rfl
       rw[qb];simp only[go_sem,qc,nn,x3,qk,qi,qp,qH,e9,b9,qA,qG,gi,qf,A0,Ai,D8,true_and,if_true,C7];refine F0 P31 (by simp only[go_sem]) q ?_;simp only[go_sem,nn,gi,qf,A0,Ai,D8,true_and,if_true,C7];refine Ad qs (by simp only[go_sem]) ?_;simp only[go_sem,qP,jc,ne];exact⟨_,Js (by rfl),e,_,he,rfl⟩
      | some p=>
       obtain⟨kd,w⟩:=p;rw[hf]at qs qe;simp only[Tk.row]at qs qe;obtain⟨jx,qq,jp⟩:=Wq hf
       have jy:w.length+qq.length=r.length+1:=by
        have:=congrArg List.length jp;simp at this;omega
       have qm:IntKind.i64.wrap ((i:Int)+(w.length:Int))=((i+w.length:Nat):Int):=by rw[Ec (by omega)];omega
       have ne:((0:Int) != 0)=false:=by decide
       have jf:GW (σ++[.row [iV kd,.str w,iV (ln:Int)] 90 0 0]) 3 90 0 u (L.map Tk.row):=P8 hg;obtain⟨u',σ',ha,je,ju,jh,-⟩:=Sa (bytes:=32) (y:=.lst 1 [[iV kd,.str w,iV (ln:Int)]]) (ys:=[[iV kd,.str w,iV (ln:Int)]]) jf (A0 _) rfl (by omega) qY (by simp) (by simp;omega)
       have ji:σ'[σ.length]?=some (.row [iV kd,.str w,iV (ln:Int)] 90 0 0):=by
        rw[jh σ.length ?_ (by simp)]
        .exact qP _
        .intro j g hj jt;rcases hg with⟨rfl,-⟩ | ⟨-,j',g',rfl,ho,-⟩
         .cases hj
         .cases hj;have:=(Aq.1 ho).1;omega
       have qR:=Dq hg;rw[any _ _ (by rw[Dx,Ah];omega)]at qe;simp only[go_sem,qc,nn,x3,qk,qi,qp,qH,e9,b9,qA,qG,gi,qf,A0,Ai,D8,true_and,if_true,C7];refine F0 P31 (by simp only[go_sem]) q ?_;simp only[go_sem,nn,gi,qf,A0,Ai,D8,true_and,if_true,C7];refine Ad qs (by simp only[go_sem]) ?_;simp only[go_sem,qP,jc,ne,ha,ji,qm];refine Bg (ih (i+w.length,ln,u',L++[⟨kd,w,(ln:Int)⟩],σ') (by simp;omega) ⟨by simp;omega,by simp;omega,by simp;omega,by simpa[Tk.row] using je,?_⟩) rfl;simp only;rw[qb,qe,<-Oj,qf]
       cases C0 s.length (ln:Int) ((c::r).drop w.length) with
       | none=>rfl
       | some l=>simp
  .have js:i=s.length:=by omega
   simp only[go_sem,Ck (show s.length<=i by omega)]
   have hz:C0 s.length (ln:Int) (s.drop i)=some []:=by
    rw[Ge (by omega)]
    cases s.length<;>rfl
   rw[hz]at qb;rw[qb];refine⟨_,A6y hg (by omega) qY jn,?_⟩;simp
def Y4{s:St}{ob k off x:Nat}{cs:List V}{v:V}{e:Env}(q:s[ob]?=some (.row cs k 0 0))(he:e.get x=.ptr ob 0 off)(hc:cs[off]?=some v):Ae (.load 1 true (.t x)) e s=some (v,s):=by
 simp only[Ae,Ac,he,H9,q];have hl:=(Aq.1 hc).1
 rw[if_pos ⟨trivial,by omega⟩,show(cs.drop off).take 1=[v] by
  rw[Gr hl,Tb,Zs];have:=(Aq.1 hc).2
  rw[this]]
 rfl
def Eg{s:St}{ob off x:Nat}{v:V}{e:Env}(he:e.get x=.ptr ob 0 off)(h:∃ cs k,s[ob]?=some (.row cs k 0 0)/\cs[off]?=some v):Ae (.load 1 true (.t x)) e s=some (v,s):=by
 obtain⟨cs,k,q,hc⟩:=h;exact Y4 q he hc
def I4{s:St}{off x:Nat}{cs:List V}{v:V}{e:Env}(he:e.get x=.imm cs off)(hc:cs[off]?=some v):Ae (.load 1 true (.t x)) e s=some (v,s):=by
 simp only[Ae,Ac,he,H9];have hl:=(Aq.1 hc).1
 have hd:(cs.drop off).take 1=[v]:=by
  rw[Gr hl,Tb,Zs];have:=(Aq.1 hc).2;rw[this]
 rw[hd];simp[Gl];omega
def Eh{s:St}{ob k x n:Nat}{cs:List V}{e:Env}(q:s[ob]?=some (.row cs k 0 0))(he:e.get x=.ptr ob 0 0)(hn:cs.length=n):Ae (.load n false (.t x)) e s=some (.agg cs,s):=by
 subst hn;simp only[Ae,Ac,he,H9,q];simp[Gl]
def N6{s:St}{x n:Nat}{cs:List V}{e:Env}(he:e.get x=.imm cs 0)(hn:cs.length=n):Ae (.load n false (.t x)) e s=some (.agg cs,s):=by
 subst hn;simp only[Ae,Ac,he,H9];simp[Gl]
section
variable {T:Nat->Option AF} {pr:Nat->Option (List V->Option V)} {qd:List (List Nat)} {n m:Nat} {e:Env} {σ:St} {fs:Fs} {ls:Ls} {K:Env->St->Fs->Ls->Prop} {i:AI}
def Az{v:V}{σ1:St}(h:K (e.putO i.dst v) σ1 ((m,σ,σ1)::fs) ls)(h1:N8 qd n m fs:=by repeat (first | exact trivial | refine⟨.inl (by rfl),?_⟩ | refine⟨by rfl,?_⟩ | refine⟨.inr ⟨by rfl,by rfl⟩,?_⟩ | refine⟨.inr ⟨by(first | exact I4 rfl rfl | exact N6 rfl (by rfl) | exact Eg rfl ⟨_,_,by assumption,by rfl⟩ | exact Eg rfl ⟨_,_,B5 (by assumption),by rfl⟩ | exact Eh (by assumption) rfl (by rfl) | exact Eh (B5 (by assumption)) rfl (by rfl)),by(first | exact I4 rfl rfl | exact N6 rfl (by rfl) | exact Eg rfl ⟨_,_,by assumption,by rfl⟩ | exact Eg rfl ⟨_,_,B5 (by assumption),by rfl⟩ | exact Eh (by assumption) rfl (by rfl) | exact Eh (B5 (by assumption)) rfl (by rfl))⟩,?_⟩))(h2:N9 qd n m σ σ1 ls:=by repeat (first | exact trivial | refine⟨.inl (by rfl),?_⟩ | refine⟨by rfl,?_⟩ | refine⟨.inr ⟨by rfl,by rfl⟩,?_⟩ | refine⟨.inr ⟨by(first | exact I4 rfl rfl | exact N6 rfl (by rfl) | exact Eg rfl ⟨_,_,by assumption,by rfl⟩ | exact Eg rfl ⟨_,_,B5 (by assumption),by rfl⟩ | exact Eh (by assumption) rfl (by rfl) | exact Eh (B5 (by assumption)) rfl (by rfl)),by(first | exact I4 rfl rfl | exact N6 rfl (by rfl) | exact Eg rfl ⟨_,_,by assumption,by rfl⟩ | exact Eg rfl ⟨_,_,B5 (by assumption),by rfl⟩ | exact Eh (by assumption) rfl (by rfl) | exact Eh (B5 (by assumption)) rfl (by rfl))⟩,?_⟩)):J8 qd n m i .ef v σ1 e σ fs ls K:=⟨h1,h2,h⟩
def wgR{v:V}{σ1:St}(h:K (e.putO i.dst v) σ fs ((m,fun s=>Ae i.op e s=some (v,s))::ls))(h1:Vz qd n m (fun s=>Ae i.op e s=some (v,s)) fs:=by repeat (first | exact trivial | refine⟨.inl (by rfl),?_⟩ | refine⟨by rfl,?_⟩ | refine⟨.inr ⟨by rfl,by rfl⟩,?_⟩ | refine⟨.inr ⟨by(first | exact I4 rfl rfl | exact N6 rfl (by rfl) | exact Eg rfl ⟨_,_,by assumption,by rfl⟩ | exact Eg rfl ⟨_,_,B5 (by assumption),by rfl⟩ | exact Eh (by assumption) rfl (by rfl) | exact Eh (B5 (by assumption)) rfl (by rfl)),by(first | exact I4 rfl rfl | exact N6 rfl (by rfl) | exact Eg rfl ⟨_,_,by assumption,by rfl⟩ | exact Eg rfl ⟨_,_,B5 (by assumption),by rfl⟩ | exact Eh (by assumption) rfl (by rfl) | exact Eh (B5 (by assumption)) rfl (by rfl))⟩,?_⟩)):J8 qd n m i .rd v σ1 e σ fs ls K:=⟨h1,h⟩
def Gy{f:Nat}{vs:List V}{v:V}{σ1:St}(hf:Bt T pr f vs σ v σ1)(h:K (e.putO i.dst v) σ1 ((m,σ,σ1)::fs) ls)(h1:N8 qd n m fs:=by repeat (first | exact trivial | refine⟨.inl (by rfl),?_⟩ | refine⟨by rfl,?_⟩ | refine⟨.inr ⟨by rfl,by rfl⟩,?_⟩ | refine⟨.inr ⟨by(first | exact I4 rfl rfl | exact N6 rfl (by rfl) | exact Eg rfl ⟨_,_,by assumption,by rfl⟩ | exact Eg rfl ⟨_,_,B5 (by assumption),by rfl⟩ | exact Eh (by assumption) rfl (by rfl) | exact Eh (B5 (by assumption)) rfl (by rfl)),by(first | exact I4 rfl rfl | exact N6 rfl (by rfl) | exact Eg rfl ⟨_,_,by assumption,by rfl⟩ | exact Eg rfl ⟨_,_,B5 (by assumption),by rfl⟩ | exact Eh (by assumption) rfl (by rfl) | exact Eh (B5 (by assumption)) rfl (by rfl))⟩,?_⟩))(h2:N9 qd n m σ σ1 ls:=by repeat (first | exact trivial | refine⟨.inl (by rfl),?_⟩ | refine⟨by rfl,?_⟩ | refine⟨.inr ⟨by rfl,by rfl⟩,?_⟩ | refine⟨.inr ⟨by(first | exact I4 rfl rfl | exact N6 rfl (by rfl) | exact Eg rfl ⟨_,_,by assumption,by rfl⟩ | exact Eg rfl ⟨_,_,B5 (by assumption),by rfl⟩ | exact Eh (by assumption) rfl (by rfl) | exact Eh (B5 (by assumption)) rfl (by rfl)),by(first | exact I4 rfl rfl | exact N6 rfl (by rfl) | exact Eg rfl ⟨_,_,by assumption,by rfl⟩ | exact Eg rfl ⟨_,_,B5 (by assumption),by rfl⟩ | exact Eh (by assumption) rfl (by rfl) | exact Eh (B5 (by assumption)) rfl (by rfl))⟩,?_⟩)):Gx T pr qd n m i (.call f vs) e σ fs ls K:=.inr (.inr ⟨v,σ1,.any hf,h1,h2,h⟩)
end
open Go Go.RowKit Go.Sort
variable {G:List (Nat × List V)}
def Av2{x:Sp}(h:CnS x)(d:Nat)(D:Int)(g0:max D 0=(d:Int))(hl:(x.txt d).length<=10000000000000)(hd:d+x.sz<=1073741823):Fn TT PT 49 [.agg x.row,iV D] (.str (x.txt d)):=by
 have qh:=Ga x;refine Bz T49 rfl ?_
 have w0:WB [.row x.row 78 0 0,.row [.nilp,.nils] 132 0 0] [.row x.row 78 0 0,.row [.nilp,.nils] 132 0 0] 1 []:=by
  refine Amr (u:=.nils) ⟨.nilp,rfl,.inl rfl,Gk⟩ ?_;exact R5 (H5 (s:=[]) (fun _ h=>by cases h) qh) (by simp[Ob.refs,Am,V.refs])
 obtain⟨s1,q1,v1⟩:=Ax4 h _ 1 [] d w0 (by simpa using hl) hd;obtain⟨s2,qF⟩:=Aqm v1;rw[Bf]at qF;have qn:=E4 x;rw[qn]at q1 qh ⊢;simp only[go_sem,g0];refine Cg q1 ?_;simp only[go_sem];refine Nn (.spec T80 rfl rfl qF) ?_;simp only[go_sem];exact G6 rfl
def Ayh{x:Sp}(h:CnS x)(d:Nat)(hl:(x.txt d).length<=10000000000000)(hd:d+x.sz<=1073741823):Fn TT PT 49 [.agg x.row,iV (d:Int)] (.str (x.txt d)):=Av2 h d _ (by omega) hl hd
def TS(s:St)(b:Nat):Prop:=∃ (z:Bool) (t:Nat) (l:List UInt8) (qa:Nat),s[b]?=some (.row [SL z t (Be l),iV (qa:Int)] 69 0 0)/\qa<=l.length/\l.length<=9223372036854775807
def TW(s σ:St)(b:Nat):Prop:=s.length<=σ.length/\(∀ i,i<s.length->i≠b->σ[i]?=s[i]?)/\TS σ b/\b<s.length
def Lb{s:St}{b:Nat}(h:TS s b):b<s.length:=by
 obtain⟨z,t,l,a,h,-⟩:=h;exact(Aq.1 h).1
def A2v{s:St}{b:Nat}(h:TS s b):TW s s b:=⟨Ai _,fun _ _ _=>rfl,h,Lb h⟩
def A2w{s l:St}{b:Nat}(h:TS s b):TS (s++l) b:=by
 obtain⟨z,t,r,a,h,h'⟩:=h;exact⟨z,t,r,a,B5 h,h'⟩
def Akh{z:Bool}{t:Nat}{l:List UInt8}{a:Int}{T:Nat}:(Ob.row [SL z t (Be l),iV a] T 0 0).refs=[]:=by
 unfold SL
 split<;>rfl
def Aqw{T:Nat->Option AF}{pr:Nat->Option (List V->Option V)}{f p:Nat}{res:List AR}{thr:Bool}{body:AC}{vs:List V}{σ:St}{R:V->St->Prop}(hT:T f=some ⟨p,res,thr,body,none⟩)(hl:vs.length=p)
  (h:W T pr [.c body] (Da 0 vs) σ (Hd fun e' σ1=>∃ v,Ch e' σ1 res=some v/\(Cq v=true/\v.refs=[])/\(∀ i ob,i<σ.length->σ1[i]?=some ob->σ[i]?=some ob\/Ey σ.length [] ob.refs=true)/\R v (σ1.take σ.length))):∃ v σ',Bt T pr f vs σ v σ'/\R v σ':=by
 obtain⟨e',σ1,hE,v,hr,⟨h1,h2⟩,h3,h4⟩:=h;exact⟨v,_,⟨_,hT,rfl,.fn hT rfl hl hE hr h1 (by rw[h2];rfl) h3⟩,h4⟩
def A2x{s σ:St}{b:Nat}(h:TW s σ b):∀ i ob,i<s.length->σ[i]?=some ob->s[i]?=some ob\/Ey s.length [] ob.refs=true:=by
 intro i ob hi ho;by_cases hb:i=b
 .subst hb;obtain⟨z,t,l,a,h1,-⟩:=h.2.2.1;rw[ho]at h1;cases h1;exact .inr (by rw[Akh];rfl)
 .rw[h.2.1 i hi hb]at ho;exact .inl ho
def Pn(l:List UInt8)(a n:Nat):Nat:=if a<l.length/\1<=n then((l[a]?).getD 0).toNat % n else 0
def S6(l:List UInt8)(a n:Nat):Nat:=if a<l.length/\1<=n then a+1 else a
def Lv{s:St}{b:Nat}{x:Ob}(h:s[b]?=some x):s.set b x=s:=by
 refine Tg fun i=>?_
 by_cases hi:b=i
 .subst hi;rw[Ci (Aq.1 h).1,h]
 .rw[Bj hi]
def Apf{s:St}{b t:Nat}{z:Bool}{l:List UInt8}{qa:Nat}(hs:s[b]?=some (.row [SL z t (Be l),iV (qa:Int)] 69 0 0))(h1:qa<=l.length)(h2:l.length<=9223372036854775807)(n:Nat)(hn:n<=1000000000):
  Bt TT PT 23 [.ptr b 0 0,iV (n:Int)] s (iV (Pn l qa n:Int)) (s.set b (.row [SL z t (Be l),iV (S6 l qa n:Int)] 69 0 0)):=by
 have hw:TW s s b:=A2v ⟨z,t,l,qa,hs,h1,h2⟩;have qC:(Be l).length=l.length:=by simp[Be]
 suffices hh:∃ v s',Bt TT PT 23 [.ptr b 0 0,iV (n:Int)] s v s'/\v=iV (Pn l qa n:Int)/\s'=(s.set b (.row [SL z t (Be l),iV (S6 l qa n:Int)] 69 0 0)) by
  obtain⟨v,s',h3,rfl,rfl⟩:=hh;exact h3
 refine Aqw T23 rfl ?_
 have qB:¬ (qa<l.length/\1<=n)->iV 0=iV (Pn l qa n:Int)/\s.take s.length=(s.set b (.row [SL z t (Be l),iV (S6 l qa n:Int)] 69 0 0)):=fun h=>by
  unfold Pn S6;rw[if_neg h,if_neg h,Lv hs,D8];exact⟨rfl,rfl⟩
 by_cases hg:l.length<=qa
 .have f1:((l.length:Int)<=(qa:Int))=True:=eq_true (by omega);simp only[go_sem];refine Ag (by kernel_rfl) ?_;simp only[go_sem,hs,qC,f1];exact⟨_,rfl,⟨rfl,rfl⟩,fun i ob _ h=>.inl h,qB (by omega)⟩
 .have f1:((l.length:Int)<=(qa:Int))=False:=eq_false (by omega);by_cases qU:n<1
  .have f2:((n:Int)<1)=True:=eq_true (by omega);simp only[go_sem];refine Ag (by kernel_rfl) ?_;simp only[go_sem,hs,qC,f1,f2];exact⟨_,rfl,⟨rfl,rfl⟩,fun i ob _ h=>.inl h,qB (by omega)⟩
  .have f2:((n:Int)<1)=False:=eq_false (by omega);simp only[go_sem];refine Ag (by kernel_rfl) ?_;simp only[go_sem,hs,qC,f1,f2];have hx:∃ c:UInt8,l[qa]?=some c:=⟨_,A2 (by omega)⟩;obtain⟨c,hc⟩:=hx;have qn:(Be l)[qa]?=some [.int .u8 (c.toNat:Int)]:=by unfold Be;rw[Av,hc];rfl
   have e1:IntKind.i64.wrap ((qa:Int)+1)=((qa+1:Nat):Int):=by rw[Ec (by omega)];rfl
   have qQ:=Lb hw.2.2.1;have k1:(s.set b (.row [SL z t (Be l),iV ((qa+1:Nat):Int)] 69 0 0))[b]?=some (.row [SL z t (Be l),iV ((qa+1:Nat):Int)] 69 0 0):=by rw[Ci qQ]
   have e2:IntKind.i64.wrap (((qa+1:Nat):Int) - 1)=(qa:Int):=by rw[Ec (by omega)];omega
   have f3:((n:Int)=0)=False:=eq_false (by omega);have jq:c.toNat<256:=c.toNat_lt;have e3:IntKind.i64.wrap (c.toNat:Int)=(c.toNat:Int):=Ec (by omega);have e4:((c.toNat:Int).tmod (n:Int))=((c.toNat % n:Nat):Int):=by rw[Int.tmod_eq_emod_of_nonneg (by omega)];rfl
   simp only[go_sem,e1];refine Ag (by kernel_rfl) ?_;simp only[go_sem,k1,e2,qC,qn,f3,not_false_eq_true,e3,e4]
   have qh:TW s (s.set b (.row [SL z t (Be l),iV ((qa+1:Nat):Int)] 69 0 0)) b:=
    ⟨by simp,fun i hi hb=>by rw[Bj (Ne.symm hb)],⟨z,t,l,qa+1,k1,by omega,h2⟩,qQ⟩
   refine⟨_,rfl,⟨rfl,rfl⟩,A2x qh,?_,?_⟩
   .unfold Pn;rw[if_pos (by omega),hc];rfl
   .unfold S6;rw[if_pos (by omega),Mi (by simp)]
def Ayi(l:List UInt8)(a n:Nat):(Pn l a n<n\/Pn l a n=0)/\Pn l a n<=255:=by
 unfold Pn
 split
 .rename_i h;have hm:=Pt ((l[a]?).getD 0).toNat (show 0<n by omega);have jw:=Nat.mod_le ((l[a]?).getD 0).toNat n;have:=((l[a]?).getD 0).toNat_lt;omega
 .omega
def Bar{l:List UInt8}{a:Nat}(n:Nat)(h:a<=l.length):S6 l a n<=l.length:=by
 unfold S6
 split<;>omega
def Am9{s:St}{b:Nat}(h:TS s b)(n:Nat)(hn:n<=1000000000):∃ (r:Nat) (s':St),Bt TT PT 23 [.ptr b 0 0,iV (n:Int)] s (iV (r:Int)) s'/\TW s s' b/\s'.length=s.length/\(r<n\/r=0)/\r<=255/\∀ z,Bt TT PT 23 [.ptr b 0 0,iV (n:Int)] (s++[z]) (iV (r:Int)) (s'++[z]):=by
 have hb:=Lb h;obtain⟨z,t,l,qa,hs,h1,h2⟩:=h;have hx:=Apf hs h1 h2 n hn;obtain⟨b1,b2⟩:=Ayi l qa n;refine⟨_,_,hx,⟨by simp,fun i hi hb=>by rw[Bj (Ne.symm hb)],⟨z,t,l,_,Ci hb,Bar n h1,h2⟩,hb⟩,by simp,b1,b2,fun z'=>?_⟩;have:=Apf (B5 (l:=[z']) hs) h1 h2 n hn;rw[V9 _ _ hb]at this;exact this
def Sw{τ:St}{i x t n:Nat}{cs:List V}{e:Env}(h:τ[i]?=some (.row cs t 0 0))(h1:e.get x=.ptr i 0 0)(hn:cs.length=n):Ch e τ [AR.cell x n false]=some (.agg cs):=by
 subst hn;simp only[Ch,F5,h1,H9,h];simp[Gl]
def A62{cs:List V}(h:Ds (.agg cs)=true):Cq (.agg cs)=true/\(V.agg cs).refs=[]:=⟨Xm h,Ua h⟩
def J9(nm:List UInt8):Prop:=Bv nm=true/\nm.length<=4
def Xb(l:List (List UInt8))(hl:(l.all fun x=>Bv x&&decide (x.length<=4))=true){j:Nat}(hj:j<l.length):∃ nm,(l.map fun x=>[V.str x])[j]?=some [.str nm]/\J9 nm:=by
 refine⟨l[j],by rw[Av,A2 hj];rfl,?_⟩;have:=Bh.1 hl l[j] (Fj _);simp only[Af,decide_eq_true_eq]at this;exact this
def Ayj(nm:List UInt8):Fn TT PT 68 [.str nm] (.agg (Xp.row ⟨2,0,nm,true,0,[]⟩)):=by
 refine Bz T68 rfl ?_;simp only[go_sem];exact G6 rfl
def Apg(op:Int)(a c:Xp):Fn TT PT 67 [iV op,.agg a.row,.agg c.row] (.agg (Xp.row ⟨op,0,[],true,1,[a,c]⟩)):=by
 have ha:=Dm a;have hc:=Dm c;refine Bz T67 rfl ?_;rw[Bb ⟨op,0,[],true,1,[a,c]⟩];simp only[Aw,B6];rw[Bb a,Bb c]at *;simp only[go_sem];exact G6 (by simp only[go_sem])
def EB:Nat->Nat
 | 0=>22
 | d+1=>2*EB d+10
def Acx(d:Nat):22<=EB d:=by
 cases d with
 | zero=>exact Ai _
 | succ d=>
  have:∀ d,22<=EB d:=fun d=>by
   induction d with
   | zero=>exact Ai _
   | succ d ih=>simp only[EB];omega
  exact this (d+1)
def Aph{d:Nat}(h:d≠0):EB d=2*EB (d - 1)+10:=by
 cases d with
 | zero=>exact absurd rfl h
 | succ d=>rfl
def Api(op:Int):(By op).length<=2:=by
 unfold By
 split<;>simp
