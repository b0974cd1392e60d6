/- Walks: the parser's declarations. -/
import Derived.Test.YtphikjgngompaacGreatDoorLr
set_option linter.all false
namespace Go.Proofs.YtphikjgngompaacGreatDoor.KM
open Go
structure RdU (s:St) (m o:Nat) (z:Bool) (t:Nat) (A:List Tk) (S:Nat->List V->St):Prop where
 low:m<s.length
 lowo:o<s.length
 ne:m≠o
 eq:∀ p r,S p r=(s.set m (RO z t A p)).set o (.row r 82 0 0)
 len:∀ p r,(S p r).length=s.length
 get:∀ (p:Nat) (r:List V) (l:St),(S p r++l)[m]?=some (.row [SL z t (A.map Tk.row),iV (p:Int)] 76 0 0)
 get0:∀ (p:Nat) (r:List V),(S p r)[m]?=some (.row [SL z t (A.map Tk.row),iV (p:Int)] 76 0 0)
 set:∀ (p q:Nat) (r:List V) (l:St),(S p r++l).set m (.row [SL z t (A.map Tk.row),iV (q:Int)] 76 0 0)=S q r++l
 set0:∀ (p q:Nat) (r:List V),(S p r).set m (.row [SL z t (A.map Tk.row),iV (q:Int)] 76 0 0)=S q r
 go:∀ (p:Nat) (r:List V) (l:St),(S p r++l)[o]?=some (.row r 82 0 0)
 go0:∀ (p:Nat) (r:List V),(S p r)[o]?=some (.row r 82 0 0)
 so:∀ (p:Nat) (r r':List V) (l:St),(S p r++l).set o (.row r' 82 0 0)=S p r'++l
 so0:∀ (p:Nat) (r r':List V),(S p r).set o (.row r' 82 0 0)=S p r'
 n0:∀ (p:Nat) (r:List V) (a:Ob) (l:St),(S p r++a::l)[s.length]?=some a
 n1:∀ (p:Nat) (r:List V) (a b:Ob) (l:St),(S p r++a::b::l)[s.length+1]?=some b
 u0:∀ (p:Nat) (r:List V) (a x:Ob) (l:St),(S p r++a::l).set s.length x=S p r++x::l
 u1:∀ (p:Nat) (r:List V) (a b x:Ob) (l:St),(S p r++a::b::l).set (s.length+1) x=S p r++a::x::l
def P9{s:St}{m o:Nat}{z:Bool}{t:Nat}{A:List Tk}{S:Nat->List V->St}(h:RdU s m o z t A S):=And.intro h.len (And.intro h.get (And.intro h.get0 (And.intro h.set (And.intro h.set0 (And.intro h.go (And.intro h.go0 (And.intro h.so (And.intro h.so0 (And.intro h.n0 (And.intro h.n1 (And.intro h.u0 (h.u1))))))))))))
def Bcl{s:St}{m o:Nat}(z:Bool)(t:Nat)(A:List Tk)(hm:m<s.length)(ho:o<s.length)(qv:m≠o):RdU s m o z t A (fun p r=>(s.set m (RO z t A p)).set o (.row r 82 0 0)):=by
 have hl:∀ p r,((s.set m (RO z t A p)).set o (.row r 82 0 0)).length=s.length:=fun p r=>by simp
 have hg:∀ (p:Nat) (r:List V),((s.set m (RO z t A p)).set o (.row r 82 0 0))[m]?=some (RO z t A p):=fun p r=>by
  grind
 have jc:∀ (p:Nat) (r:List V),((s.set m (RO z t A p)).set o (.row r 82 0 0))[o]?=some (.row r 82 0 0):=fun p r=>Cf (by grind)
 have hs:∀ p q r,((s.set m (RO z t A p)).set o (.row r 82 0 0)).set m (RO z t A q)=(s.set m (RO z t A q)).set o (.row r 82 0 0):=fun p q r=>by
  simp_all [List.set_comm,Ne.symm]
 have jE:∀ p r r',((s.set m (RO z t A p)).set o (.row r 82 0 0)).set o (.row r' 82 0 0)=(s.set m (RO z t A p)).set o (.row r' 82 0 0):=fun p r r'=>by simp_all
 refine⟨hm,ho,qv,fun _ _=>rfl,hl,fun p r l=>Bt (hg p r),fun p r=>hg p r,fun p q r l=>?_,fun p q r=>hs p q r,fun p r l=>Bt (jc p r),fun p r=>jc p r,fun p r r' l=>?_,fun p r r'=>jE p r r',fun p r a l=>?_,fun p r a b l=>?_,fun p r a x l=>?_,fun p r a b x l=>?_⟩
 .rw[Agv _ _ (by grind)];exact congrArg (·++l) (hs p q r)
 .grind
 .grind
 .grind
 .simp_all
 simp_all
def RU2(f:Nat)(s:St)(m o:Nat)(z:Bool)(t:Nat)(A:List Tk)(R:V->Nat->List V->Prop):Prop:=∃ v p' r',Bw TT PT f [.ptr m 0 0,.ptr o 0 0] s v ((s.set m (RO z t A p')).set o (.row r' 82 0 0))/\p'<=A.length/\R v p' r'
def Aym{z:Bool}{t:Nat}{A:List Tk}{f m o q:Nat}{res:List AR}{thr:Bool}{body:AC}{s:St}{r0:List V}{R:V->Nat->List V->Prop}(hT:TT f=some ⟨2,res,thr,body,none⟩)(hs:s[m]?=some (RO z t A q))(ho:s[o]?=some (.row r0 82 0 0))(qv:m≠o)
  (h:∀ S,RdU s m o z t A S->W TT PT [.c body] (C7 0 [.ptr m 0 0,.ptr o 0 0]) (S q r0) (Hd fun e' σ1=>∃ v p' r' l,Ca e' σ1 res=some v/\(Cd v=true/\v.refs=[])/\σ1=S p' r'++l/\p'<=A.length/\r'.all V.rowB=true/\R v p' r')):RU2 f s m o z t A R:=by
 have hm:=(An.1 hs).1;have jy:=(An.1 ho).1;have h:=h _ (Bcl z t A hm jy qv);rw[Asr hs ho]at h;obtain⟨e',σ1,hE,v,p',r',l,hr,⟨h1,h2⟩,rfl,h3,h5,h4⟩:=h;have ji:((s.set m (RO z t A p')).set o (.row r' 82 0 0)++l).take s.length=(s.set m (RO z t A p')).set o (.row r' 82 0 0):=by rw[Agt AE,Ky AE]
 refine⟨v,p',r',?_,h3,h4⟩
 have:=Ev.fn hT rfl rfl hE hr h1 (by rw[h2];rfl) (fun i ob hi qD=>by
  rw[Ex (by grind)]at qD;by_cases hb:o=i
  .subst hb;rw[Cf (by grind)]at qD;cases qD;exact .inr (by simp only[Ob.refs];rw[F0 h5];rfl)
  .rw[B4 hb]at qD;by_cases hb:m=i
   .subst hb;rw[Cf hm]at qD;cases qD;exact .inr (by rw[Ad3];rfl)
   grind)
 rw[ji]at this;exact⟨_,hT,rfl,this⟩
def Pj{S:Nat->List V->St}{A:List Tk}{R:V->Nat->List V->Prop}{e:Env}{res:List AR}{v:V}{p:Nat}{r:List V}(hr:Ca e (S p r) res=some v)(hv:Cd v=true/\v.refs=[])(hp:p<=A.length)(hb:r.all V.rowB=true)(hR:R v p r):
  ∃ v p' r' l',Ca e (S p r) res=some v/\(Cd v=true/\v.refs=[])/\S p r=S p' r'++l'/\p'<=A.length/\r'.all V.rowB=true/\R v p' r':=⟨v,p,r,[],hr,hv,(Bz _).symm,hp,hb,hR⟩
def Ae3{s:St}{m o:Nat}{z:Bool}{t:Nat}{A:List Tk}{S:Nat->List V->St}(hS:RdU s m o z t A S){p:Nat}{r:List V}(hA:A.length<=1000000){w:List UInt8}(h:A0 w (A.drop p)=true):Bw TT PT 106 [.ptr m 0 0,.str w] (S p r) (.bool true) (S (p+1) r):=by
 have:=Sy (hS.get0 p r) hA h;rw[show(S p r).set m (RO z t A (p+1))=S (p+1) r from hS.set0 p (p+1) r]at this;exact this
def Ae4{s:St}{m o:Nat}{z:Bool}{t:Nat}{A:List Tk}{S:Nat->List V->St}(hS:RdU s m o z t A S){p:Nat}{r:List V}(hA:A.length<=1000000)(hp:p<=A.length){w:List UInt8}(h:A0 w (A.drop p)=false):Bw TT PT 106 [.ptr m 0 0,.str w] (S p r) (.bool false) (S p r):=Sz (hS.get0 p r) hA hp h
def Ak2{s:St}{m o:Nat}{z:Bool}{t:Nat}{A:List Tk}{S:Nat->List V->St}(hS:RdU s m o z t A S){p:Nat}{r:List V}(hA:OkA A)(hp:p<=A.length){w:Int}{q:List Tk}(h:H9 (A.drop p)=some (w,q)):Bw TT PT 147 [.ptr m 0 0] (S p r) (.tup [iV w,.bool true]) (S (p+1) r)/\p<A.length/\A.drop (p+1)=q:=by
 obtain⟨h1,h2⟩:=(Ae2 (hS.get0 p r) (by have:=hA.len;omega) hp hA.num).1 w q h;rw[show(S p r).set m (RO z t A (p+1))=S (p+1) r from hS.set0 p (p+1) r]at h1
 grind
def Ak3{s:St}{m o:Nat}{z:Bool}{t:Nat}{A:List Tk}{S:Nat->List V->St}(hS:RdU s m o z t A S){p:Nat}{r:List V}(hA:OkA A)(hp:p<=A.length)(h:H9 (A.drop p)=none):Bw TT PT 147 [.ptr m 0 0] (S p r) (.tup [iV 0,.bool false]) (S p r):=(Ae2 (hS.get0 p r) (by have:=hA.len;omega) hp hA.num).2 h
def Ae5{d0 d1 d2 d3 d4 d5:V}(h:[d0,d1,d2,d3,d4,d5].all V.rowB=true):(d0.cellB&&(d1.cellB&&(d2.cellB&&(d3.cellB&&(d4.cellB&&d5.cellB)))))=true:=by
 simp_all [Pg]
def Am1(r:List V):Prop:=∃ c0 c1 c2 c3 c4 c5:V,r=[c0,c1,c2,c3,c4,c5]/\r.all V.rowB=true
def A15{s:St}{m o:Nat}{z:Bool}{t:Nat}{A:List Tk}{p:Nat}{k ln:Int}{nm:List UInt8}(hA:OkA A)(hT:D9 A)(hs:s[m]?=some (RO z t A p))(ho:s[o]?=some (.row [iV k,iV ln,.str nm,iV 0,iV 0,.str []] 82 0 0))(qv:m≠o)(hp:p<=A.length):
  RU2 104 s m o z t A (fun v q r=>match W3 (A.drop p) with
   | some (n,ts)=>v=.bool true/\r=[.int .i64 k,.int .i64 ln,.str nm,.int .i64 n,.int .i64 0,.str []]/\A.drop q=ts
   | none=>v=.bool false/\Am1 r):=by
 refine Aym T104 hs ho qv fun S hS=>?_
 have hl:A.length<=1000000:=by have:=hA.len;omega
 have qb:=hS;have hm:=hS.low;have jw:=hS.lowo;unfold W3;by_cases qB:A0 [91] (A.drop p)=true
 .rw[if_pos qB,<-Eo];have c1:=Ae3 qb (r:=[iV k,iV ln,.str nm,iV 0,iV 0,.str []]) hl qB;have qm:=Ek qB
  cases hn:H9 (A.drop (p+1)) with
  | none=>
   have c2:=Ak3 qb (r:=[iV k,iV ln,.str nm,iV 0,iV 0,.str []]) hA qm hn;have Zq:=P9 hS;obtain⟨-,-,-,-,qa,get,get0,set,set0,go,go0,so,so0,n0,n1,u0,u1⟩:=hS;simp only[go_sem,Zq,LZ];refine Aa c1 ?_;simp only[go_sem,Zq,LZ];refine Aa c2 ?_;simp only[go_sem,Zq,LZ];exact Pj rfl ⟨rfl,rfl⟩ qm rfl ⟨rfl,_,_,_,_,_,_,rfl,rfl⟩
  | some nt=>
   obtain⟨n,ts⟩:=nt;obtain⟨c2,qn,h3⟩:=Ak2 qb (r:=[iV k,iV ln,.str nm,iV 0,iV 0,.str []]) hA qm hn;simp only;by_cases h0:n=0
   .have b0:(n==0)=true:=by simp[h0]
    rw[if_pos h0];have wd:IntKind.i64.wrap (((p+1+1:Nat):Int) - 1)=((p+1:Nat):Int):=by rw[Bo AA];omega
    have Zq:=P9 hS;obtain⟨-,-,-,-,qa,get,get0,set,set0,go,go0,so,so0,n0,n1,u0,u1⟩:=hS;simp only[go_sem,Zq,LZ];refine Aa c1 ?_;simp only[go_sem,Zq,LZ];refine Aa c2 ?_;simp only[go_sem,Zq,LZ,b0,wd];exact Pj rfl ⟨rfl,rfl⟩ qm rfl ⟨rfl,_,_,_,_,_,_,rfl,rfl⟩
   .have b0:(n==0)=false:=by simp[h0]
    rw[if_neg h0,<-h3];unfold Ea;by_cases qC:A0 [93] (A.drop (p+1+1))=true
    .rw[if_pos qC,<-Eo];have c3:=Ae3 qb (r:=[iV k,iV ln,.str nm,iV n,iV 0,.str []]) hl qC;have qj:=Ek qC;have Zq:=P9 hS;obtain⟨-,-,-,-,qa,get,get0,set,set0,go,go0,so,so0,n0,n1,u0,u1⟩:=hS;simp only[go_sem,Zq,LZ];refine Aa c1 ?_;simp only[go_sem,Zq,LZ];refine Aa c2 ?_;simp only[go_sem,Zq,LZ,b0];refine Aa c3 ?_;simp only[go_sem,Zq,LZ];exact Pj rfl ⟨rfl,rfl⟩ qj rfl ⟨rfl,rfl,rfl⟩
    .have qC:A0 [93] (A.drop (p+1+1))=false:=by simpa using qC
     rw[if_neg AA];have c3:=Ae4 qb (r:=[iV k,iV ln,.str nm,iV n,iV 0,.str []]) hl (Is qn) qC;have Zq:=P9 hS;obtain⟨-,-,-,-,qa,get,get0,set,set0,go,go0,so,so0,n0,n1,u0,u1⟩:=hS;simp only[go_sem,Zq,LZ];refine Aa c1 ?_;simp only[go_sem,Zq,LZ];refine Aa c2 ?_;simp only[go_sem,Zq,LZ,b0];refine Aa c3 ?_;simp only[go_sem,Zq,LZ];exact Pj rfl ⟨rfl,rfl⟩ (Is qn) rfl ⟨rfl,_,_,_,_,_,_,rfl,rfl⟩
 .have qB:A0 [91] (A.drop p)=false:=by simpa using qB
  rw[if_neg AA];have c1:=Ae4 qb (r:=[iV k,iV ln,.str nm,iV 0,iV 0,.str []]) hl hp qB;have Zq:=P9 hS;obtain⟨-,-,-,-,qa,get,get0,set,set0,go,go0,so,so0,n0,n1,u0,u1⟩:=hS;simp only[go_sem,Zq,LZ];refine Aa c1 ?_;simp only[go_sem,Zq,LZ];exact Pj rfl ⟨rfl,rfl⟩ hp rfl ⟨rfl,rfl,rfl⟩
def Aoz{s:St}{m o:Nat}{z:Bool}{t:Nat}{A:List Tk}{p:Nat}{k ln sz:Int}{nm:List UInt8}(hA:OkA A)(hT:D9 A)(hs:s[m]?=some (RO z t A p))(ho:s[o]?=some (.row [iV k,iV ln,.str nm,iV sz,iV 0,.str []] 82 0 0))(qv:m≠o)(hp:p<=A.length):
  RU2 105 s m o z t A (fun v q r=>match Sq (A.drop p) with
   | some (n,ts)=>v=.bool true/\r=[.int .i64 k,.int .i64 ln,.str nm,.int .i64 sz,.int .i64 n,.str []]/\A.drop q=ts
   | none=>v=.bool false/\Am1 r):=by
 refine Aym T105 hs ho qv fun S hS=>?_
 have hl:A.length<=1000000:=by have:=hA.len;omega
 have qb:=hS;have hm:=hS.low;have jw:=hS.lowo;unfold Sq;by_cases qA:A0 [61] (A.drop p)=true
 .rw[if_pos qA,<-Eo];have c1:=Ae3 qb (r:=[iV k,iV ln,.str nm,iV sz,iV 0,.str []]) hl qA;have qm:=Ek qA;by_cases qz:A0 [45] (A.drop (p+1))=true
  .rw[if_pos qz,<-Eo];have c2:=Ae3 qb (r:=[iV k,iV ln,.str nm,iV sz,iV 0,.str []]) hl qz;have qn:=Ek qz
   cases hn:H9 (A.drop (p+1+1)) with
   | none=>
    have c3:=Ak3 qb (r:=[iV k,iV ln,.str nm,iV sz,iV 0,.str []]) hA qn hn;have Zq:=P9 hS;obtain⟨-,-,-,-,qa,get,get0,set,set0,go,go0,so,so0,n0,n1,u0,u1⟩:=hS;simp only[go_sem,Zq,LZ];refine Aa c1 ?_;simp only[go_sem,Zq,LZ];refine Aa c2 ?_;simp only[go_sem,Zq,LZ];refine Aa c3 ?_;simp only[go_sem,Zq,LZ];exact Pj rfl ⟨rfl,rfl⟩ qn rfl ⟨rfl,_,_,_,_,_,_,rfl,rfl⟩
   | some nt=>
    obtain⟨n,ts⟩:=nt;obtain⟨c3,qj,h3⟩:=Ak2 qb (r:=[iV k,iV ln,.str nm,iV sz,iV 0,.str []]) hA qn hn;have hb:=(Adf (C:=0) (Dq hT (Abv _ _)) hn).1;have wn:IntKind.i64.wrap (0 - n) = -n:=by rw[Bo AA];omega
    simp only[I9];rw[<-h3];have Zq:=P9 hS;obtain⟨-,-,-,-,qa,get,get0,set,set0,go,go0,so,so0,n0,n1,u0,u1⟩:=hS;simp only[go_sem,Zq,LZ];refine Aa c1 ?_;simp only[go_sem,Zq,LZ];refine Aa c2 ?_;simp only[go_sem,Zq,LZ];refine Aa c3 ?_;simp only[go_sem,Zq,LZ,wn];exact Pj rfl ⟨rfl,rfl⟩ qj rfl ⟨rfl,rfl,rfl⟩
  .have qz:A0 [45] (A.drop (p+1))=false:=by simpa using qz
   rw[if_neg AA];have c2:=Ae4 qb (r:=[iV k,iV ln,.str nm,iV sz,iV 0,.str []]) hl qm qz
   cases hn:H9 (A.drop (p+1)) with
   | none=>
    have c3:=Ak3 qb (r:=[iV k,iV ln,.str nm,iV sz,iV 0,.str []]) hA qm hn;have Zq:=P9 hS;obtain⟨-,-,-,-,qa,get,get0,set,set0,go,go0,so,so0,n0,n1,u0,u1⟩:=hS;simp only[go_sem,Zq,LZ];refine Aa c1 ?_;simp only[go_sem,Zq,LZ];refine Aa c2 ?_;simp only[go_sem,Zq,LZ];refine Aa c3 ?_;simp only[go_sem,Zq,LZ];exact Pj rfl ⟨rfl,rfl⟩ qm rfl ⟨rfl,_,_,_,_,_,_,rfl,rfl⟩
   | some nt=>
    obtain⟨n,ts⟩:=nt;obtain⟨c3,qj,h3⟩:=Ak2 qb (r:=[iV k,iV ln,.str nm,iV sz,iV 0,.str []]) hA qm hn;simp only;rw[<-h3];have Zq:=P9 hS;obtain⟨-,-,-,-,qa,get,get0,set,set0,go,go0,so,so0,n0,n1,u0,u1⟩:=hS;simp only[go_sem,Zq,LZ];refine Aa c1 ?_;simp only[go_sem,Zq,LZ];refine Aa c2 ?_;simp only[go_sem,Zq,LZ];refine Aa c3 ?_;simp only[go_sem,Zq,LZ];exact Pj rfl ⟨rfl,rfl⟩ qj rfl ⟨rfl,rfl,rfl⟩
 .have qA:A0 [61] (A.drop p)=false:=by simpa using qA
  rw[if_neg AA];have c1:=Ae4 qb (r:=[iV k,iV ln,.str nm,iV sz,iV 0,.str []]) hl hp qA;have Zq:=P9 hS;obtain⟨-,-,-,-,qa,get,get0,set,set0,go,go0,so,so0,n0,n1,u0,u1⟩:=hS;simp only[go_sem,Zq,LZ];refine Aa c1 ?_;simp only[go_sem,Zq,LZ];exact Pj rfl ⟨rfl,rfl⟩ hp rfl ⟨rfl,rfl,rfl⟩
def An8(w:List UInt8):Fn TT PT 63 [.str w] (iV (H6 w)):=by
 refine Bg T63 rfl ?_;by_cases a1:w=[118,97,114]
 .subst a1;have e1:(([118,97,114]:List UInt8)==[118,97,114])=true:=by decide
  simp only[go_sem,e1];exact Ae rfl rfl
 have e1:(w==[118,97,114])=false:=by simp[a1]
 by_cases a2:w=[118,111,108,97,116,105,108,101]
 .subst a2;have e2:(([118,111,108,97,116,105,108,101]:List UInt8)==[118,111,108,97,116,105,108,101])=true:=by decide
  simp only[go_sem,e1,e2];exact Ae rfl rfl
 have e2:(w==[118,111,108,97,116,105,108,101])=false:=by simp[a2]
 by_cases a3:w=[109,117,116,101,120]
 .subst a3;have e3:(([109,117,116,101,120]:List UInt8)==[109,117,116,101,120])=true:=by decide
  simp only[go_sem,e1,e2,e3];exact Ae rfl rfl
 have e3:(w==[109,117,116,101,120])=false:=by simp[a3]
 by_cases a4:w=[114,119,108,111,99,107]
 .subst a4;have e4:(([114,119,108,111,99,107]:List UInt8)==[114,119,108,111,99,107])=true:=by decide
  simp only[go_sem,e1,e2,e3,e4];exact Ae rfl rfl
 have e4:(w==[114,119,108,111,99,107])=false:=by simp[a4]
 by_cases a5:w=[99,111,110,100]
 .subst a5;have e5:(([99,111,110,100]:List UInt8)==[99,111,110,100])=true:=by decide
  simp only[go_sem,e1,e2,e3,e4,e5];exact Ae rfl rfl
 have e5:(w==[99,111,110,100])=false:=by simp[a5]
 by_cases a6:w=[102,117,116,117,114,101]
 .subst a6;have e6:(([102,117,116,117,114,101]:List UInt8)==[102,117,116,117,114,101])=true:=by decide
  simp only[go_sem,e1,e2,e3,e4,e5,e6];exact Ae rfl rfl
 have e6:(w==[102,117,116,117,114,101])=false:=by simp[a6]
 have hz:H6 w=0:=by
  unfold H6 declTab;simp only[Ag2,e1,e2,e3,e4,e5,e6];rfl
 rw[hz];simp only[go_sem,e1,e2,e3,e4,e5,e6];exact Ae rfl rfl
def PRd(A:List Tk)(o:Option (Dp × List Tk))(v:V)(p':Nat):Prop:=match o with
 | some (x,r)=>v=.tup [.agg x.row,.bool true]/\A.drop p'=r
 | none=>∃ r:List V,Am1 r/\v=.tup [.agg r,.bool false]
def Ak4{s:St}{m:Nat}{z:Bool}{t:Nat}{A:List Tk}{S:Nat->St}(hS:RdS s m z t A S){f p:Nat}{a b:Ob}{r0:List V}{R:V->Nat->List V->Prop}(h:RU2 f (S p++[a,b,.row r0 82 0 0]) m (s.length+2) z t A R):
  ∃ v q r',Bw TT PT f [.ptr m 0 0,.ptr (s.length+2) 0 0] (S p++[a,b,.row r0 82 0 0]) v (S q++[a,b,.row r' 82 0 0])/\q<=A.length/\R v q r':=by
 obtain⟨v,q,r',h1,h2,h3⟩:=h;rw[show(S p++[a,b,.row r0 82 0 0]).set m (RO z t A q)=S q++[a,b,.row r0 82 0 0] from hS.set p q _,hS.u2]at h1
 grind
set_option maxHeartbeats 4000000 in
def A16{s:St}{m:Nat}{z:Bool}{t:Nat}{A:List Tk}{p:Nat}(hA:OkA A)(hT:D9 A)(hs:s[m]?=some (RO z t A p))(hp:p<=A.length)(hd:Sf (A.drop p)=true):RT 64 [] s m z t A (PRd A (Uz (A.drop p))):=by
 have qm:p<A.length:=by
  rcases Az p A.length with h | h
  .exact h
  .rw[(K7 h).1]at hd;cases hd
 refine Lu T64 rfl hs fun S hS=>?_
 have hl:A.length<=1000000:=by have:=hA.len;omega
 have qb:=hS;have hm:=hS.low;have qw:p+1<=A.length:=qm;have qh:=Sh (hS.get p [zO]) hl hp;have qc:=Aw (show p<9223372036854775807 by omega);have qe:=An8 (Ag A p).text
 have hk:1<=H6 (Ag A p).text/\H6 (Ag A p).text<=6:=by
  rw[Mn qm]at hd;simp only[Sf,Al,bne_iff_ne]at hd;rcases Asd (Ag A p).text with h | h
  .omega
  .exact h
 rw[Mn qm,Uz];generalize H6 (Ag A p).text=k at qe hk
 cases hn:Dg (A.drop (p+1)) with
 | none=>
  have c1:=Aa3 qb (p:=p+1) [zO,Bn (Ag A p),.row [iV k,iV (Ag A p).line,.str [],iV 0,iV 0,.str []] 82 0 0] hl qw hn;have Zq:=Dv hS;obtain⟨-,-,qa,get,get0,set,set0,n0,n1,n2,u0,u1,u2⟩:=hS;have g1:=n1 (p+1) zO (Bn (Ag A p)) [];have g2:=n1 (p+1) zO (Bn (Ag A p)) [zO];simp only[go_sem,Zq,LZ];refine Aa qh ?_;simp only[go_sem,Zq,LZ,qc];refine Ad AD ?_;simp only[go_sem,Zq,LZ];refine Ax qe rfl ?_;simp only[go_sem,Zq,LZ];refine Bd ?_;simp only[go_sem,Zq,LZ];refine Bd ?_;simp only[go_sem,Zq,LZ];refine Aa c1 ?_;simp only[go_sem,Zq,LZ];exact Cg (v:=.tup [.agg _,.bool false]) (Ch (n0 _ _ _) rfl rfl rfl) (Cw rfl) qw ⟨_,⟨_,_,_,_,_,_,rfl,rfl⟩,rfl⟩
 | some nt=>
  obtain⟨nm,ts⟩:=nt;obtain⟨c1,qu,h3⟩:=Agh qb (p:=p+1) [zO,Bn (Ag A p),.row [iV k,iV (Ag A p).line,.str [],iV 0,iV 0,.str []] 82 0 0] hl qw hn;simp only;rw[<-h3];have qk:p+1+1<=A.length:=qu;have qR:k=1\/k=2\/k=5\/k=3\/k=4\/k=6:=by omega
  rcases qR with rfl | rfl | rfl | qR
  .rw[if_pos rfl];obtain⟨v2,q2,r2,d1,d2,d3⟩:=Ak4 qb (a:=zO) (b:=Bn (Ag A p)) (A15 (k:=1) (ln:=(Ag A p).line) (nm:=nm) hA hT (hS.get (p+1+1) _) (hS.n2 (p+1+1) _ _ _ _) AA qk)
   cases hsz:W3 (A.drop (p+1+1)) with
   | none=>
    rw[hsz]at d3;obtain⟨rfl,e0,e1,e2,e3,e4,e5,rfl,hb⟩:=d3;have Zq:=Dv hS;obtain⟨-,-,qa,get,get0,set,set0,n0,n1,n2,u0,u1,u2⟩:=hS;have g1:=n1 (p+1) zO (Bn (Ag A p)) [];have g2:=n1 (p+1) zO (Bn (Ag A p)) [zO];simp only[go_sem,Zq,LZ];refine Aa qh ?_;simp only[go_sem,Zq,LZ,qc];refine Ad AD ?_;simp only[go_sem,Zq,LZ];refine Ax qe rfl ?_;simp only[go_sem,Zq,LZ];refine Bd ?_;simp only[go_sem,Zq,LZ];refine Bd ?_;simp only[go_sem,Zq,LZ];refine Aa c1 ?_;simp only[go_sem,Zq,LZ,Int.reduceBEq];refine Aa d1 ?_;simp only[go_sem,Zq,LZ,Int.reduceBEq];refine Ad AD ?_;simp only[go_sem,Zq,LZ,Ae5 hb];refine Bd ?_;simp only[go_sem,Zq,LZ];exact Cg (v:=.tup [.agg [e0,e1,e2,e3,e4,e5],.bool false]) (Ch (n0 _ _ _) rfl rfl rfl) (Cw hb) d2 ⟨_,⟨_,_,_,_,_,_,rfl,hb⟩,rfl⟩
   | some st=>
    obtain⟨qE,t1⟩:=st;rw[hsz]at d3;obtain⟨rfl,rfl,d3⟩:=d3;simp only;rw[<-d3];obtain⟨v4,q4,r4,f1,f2,f3⟩:=Ak4 qb (a:=zO) (b:=Bn (Ag A p)) (Aoz (k:=1) (ln:=(Ag A p).line) (nm:=nm) (sz:=qE) hA hT (hS.get q2 _) (hS.n2 q2 _ _ _ _) AA d2)
    cases hin:Sq (A.drop q2) with
    | none=>
     rw[hin]at f3;obtain⟨rfl,e0,e1,e2,e3,e4,e5,rfl,hb⟩:=f3;have Zq:=Dv hS;obtain⟨-,-,qa,get,get0,set,set0,n0,n1,n2,u0,u1,u2⟩:=hS;have g1:=n1 (p+1) zO (Bn (Ag A p)) [];have g2:=n1 (p+1) zO (Bn (Ag A p)) [zO];simp only[go_sem,Zq,LZ];refine Aa qh ?_;simp only[go_sem,Zq,LZ,qc];refine Ad AD ?_;simp only[go_sem,Zq,LZ];refine Ax qe rfl ?_;simp only[go_sem,Zq,LZ];refine Bd ?_;simp only[go_sem,Zq,LZ];refine Bd ?_;simp only[go_sem,Zq,LZ];refine Aa c1 ?_;simp only[go_sem,Zq,LZ,Int.reduceBEq];refine Aa d1 ?_;simp only[go_sem,Zq,LZ,Int.reduceBEq];refine Aa f1 ?_;simp only[go_sem,Zq,LZ,Int.reduceBEq];refine Ad AD ?_;simp only[go_sem,Zq,LZ,Ae5 hb];refine Bd ?_;simp only[go_sem,Zq,LZ];exact Cg (v:=.tup [.agg [e0,e1,e2,e3,e4,e5],.bool false]) (Ch (n0 _ _ _) rfl rfl rfl) (Cw hb) f2 ⟨_,⟨_,_,_,_,_,_,rfl,hb⟩,rfl⟩
    | some it=>
     obtain⟨i1,t2⟩:=it;rw[hin]at f3;obtain⟨rfl,rfl,f3⟩:=f3;simp only;rw[<-f3];unfold Ea;by_cases qd:A0 [59] (A.drop q4)=true
     .rw[if_pos qd,<-Eo];have cz:=Li qb [zO,Bn (Ag A p),.row [iV 1,iV (Ag A p).line,.str nm,iV qE,iV i1,.str []] 82 0 0] hl qd;have qg:=Ek qd;have Zq:=Dv hS;obtain⟨-,-,qa,get,get0,set,set0,n0,n1,n2,u0,u1,u2⟩:=hS;have g1:=n1 (p+1) zO (Bn (Ag A p)) [];have g2:=n1 (p+1) zO (Bn (Ag A p)) [zO];simp only[go_sem,Zq,LZ];refine Aa qh ?_;simp only[go_sem,Zq,LZ,qc];refine Ad AD ?_;simp only[go_sem,Zq,LZ];refine Ax qe rfl ?_;simp only[go_sem,Zq,LZ];refine Bd ?_;simp only[go_sem,Zq,LZ];refine Bd ?_;simp only[go_sem,Zq,LZ];refine Aa c1 ?_;simp only[go_sem,Zq,LZ,Int.reduceBEq];refine Aa d1 ?_;simp only[go_sem,Zq,LZ,Int.reduceBEq];refine Aa f1 ?_;simp only[go_sem,Zq,LZ,Int.reduceBEq];have j1:=n2 q4 zO (Bn (Ag A p)) (.row [iV 1,iV (Ag A p).line,.str nm,iV qE,iV i1,.str []] 82 0 0) [];have j2:=n2 (q4+1) zO (Bn (Ag A p)) (.row [iV 1,iV (Ag A p).line,.str nm,iV qE,iV i1,.str []] 82 0 0) [];refine Ad AD ?_;simp only[go_sem,Zq,LZ];refine Ia cz ?_;simp only[go_sem,Zq,LZ];refine Bd ?_;simp only[go_sem,Zq,LZ];exact Cg (v:=.tup [.agg _,.bool true]) (Ch (n0 _ _ _) rfl rfl rfl) (Cw rfl) qg ⟨rfl,rfl⟩
     .have qd:A0 [59] (A.drop q4)=false:=by simpa using qd
      rw[if_neg AA];have cz:=J2 qb [zO,Bn (Ag A p),.row [iV 1,iV (Ag A p).line,.str nm,iV qE,iV i1,.str []] 82 0 0] hl f2 qd;have Zq:=Dv hS;obtain⟨-,-,qa,get,get0,set,set0,n0,n1,n2,u0,u1,u2⟩:=hS;have g1:=n1 (p+1) zO (Bn (Ag A p)) [];have g2:=n1 (p+1) zO (Bn (Ag A p)) [zO];simp only[go_sem,Zq,LZ];refine Aa qh ?_;simp only[go_sem,Zq,LZ,qc];refine Ad AD ?_;simp only[go_sem,Zq,LZ];refine Ax qe rfl ?_;simp only[go_sem,Zq,LZ];refine Bd ?_;simp only[go_sem,Zq,LZ];refine Bd ?_;simp only[go_sem,Zq,LZ];refine Aa c1 ?_;simp only[go_sem,Zq,LZ,Int.reduceBEq];refine Aa d1 ?_;simp only[go_sem,Zq,LZ,Int.reduceBEq];refine Aa f1 ?_;simp only[go_sem,Zq,LZ,Int.reduceBEq];have j1:=n2 q4 zO (Bn (Ag A p)) (.row [iV 1,iV (Ag A p).line,.str nm,iV qE,iV i1,.str []] 82 0 0) [];refine Ad AD ?_;simp only[go_sem,Zq,LZ];refine Ia cz ?_;simp only[go_sem,Zq,LZ];refine Bd ?_;simp only[go_sem,Zq,LZ];exact Cg (v:=.tup [.agg _,.bool false]) (Ch (n0 _ _ _) rfl rfl rfl) (Cw rfl) f2 ⟨_,⟨_,_,_,_,_,_,rfl,rfl⟩,rfl⟩
  .rw[if_neg AM,if_pos rfl];obtain⟨v4,q4,r4,f1,f2,f3⟩:=Ak4 qb (a:=zO) (b:=Bn (Ag A p)) (Aoz (k:=2) (ln:=(Ag A p).line) (nm:=nm) (sz:=0) hA hT (hS.get (p+1+1) _) (hS.n2 (p+1+1) _ _ _ _) AA qk)
   cases hin:Sq (A.drop (p+1+1)) with
   | none=>
    rw[hin]at f3;obtain⟨rfl,e0,e1,e2,e3,e4,e5,rfl,hb⟩:=f3;have Zq:=Dv hS;obtain⟨-,-,qa,get,get0,set,set0,n0,n1,n2,u0,u1,u2⟩:=hS;have g1:=n1 (p+1) zO (Bn (Ag A p)) [];have g2:=n1 (p+1) zO (Bn (Ag A p)) [zO];simp only[go_sem,Zq,LZ];refine Aa qh ?_;simp only[go_sem,Zq,LZ,qc];refine Ad AD ?_;simp only[go_sem,Zq,LZ];refine Ax qe rfl ?_;simp only[go_sem,Zq,LZ];refine Bd ?_;simp only[go_sem,Zq,LZ];refine Bd ?_;simp only[go_sem,Zq,LZ];refine Aa c1 ?_;simp only[go_sem,Zq,LZ,Int.reduceBEq];refine Aa f1 ?_;simp only[go_sem,Zq,LZ,Int.reduceBEq];refine Ad AD ?_;simp only[go_sem,Zq,LZ,Ae5 hb];refine Bd ?_;simp only[go_sem,Zq,LZ];exact Cg (v:=.tup [.agg [e0,e1,e2,e3,e4,e5],.bool false]) (Ch (n0 _ _ _) rfl rfl rfl) (Cw hb) f2 ⟨_,⟨_,_,_,_,_,_,rfl,hb⟩,rfl⟩
   | some it=>
    obtain⟨i1,t2⟩:=it;rw[hin]at f3;obtain⟨rfl,rfl,f3⟩:=f3;simp only;rw[<-f3];unfold Ea;by_cases qd:A0 [59] (A.drop q4)=true
    .rw[if_pos qd,<-Eo];have cz:=Li qb [zO,Bn (Ag A p),.row [iV 2,iV (Ag A p).line,.str nm,iV 0,iV i1,.str []] 82 0 0] hl qd;have qg:=Ek qd;have Zq:=Dv hS;obtain⟨-,-,qa,get,get0,set,set0,n0,n1,n2,u0,u1,u2⟩:=hS;have g1:=n1 (p+1) zO (Bn (Ag A p)) [];have g2:=n1 (p+1) zO (Bn (Ag A p)) [zO];simp only[go_sem,Zq,LZ];refine Aa qh ?_;simp only[go_sem,Zq,LZ,qc];refine Ad AD ?_;simp only[go_sem,Zq,LZ];refine Ax qe rfl ?_;simp only[go_sem,Zq,LZ];refine Bd ?_;simp only[go_sem,Zq,LZ];refine Bd ?_;simp only[go_sem,Zq,LZ];refine Aa c1 ?_;simp only[go_sem,Zq,LZ,Int.reduceBEq];refine Aa f1 ?_;simp only[go_sem,Zq,LZ,Int.reduceBEq];have j1:=n2 q4 zO (Bn (Ag A p)) (.row [iV 2,iV (Ag A p).line,.str nm,iV 0,iV i1,.str []] 82 0 0) [];have j2:=n2 (q4+1) zO (Bn (Ag A p)) (.row [iV 2,iV (Ag A p).line,.str nm,iV 0,iV i1,.str []] 82 0 0) [];refine Ad AD ?_;simp only[go_sem,Zq,LZ];refine Ia cz ?_;simp only[go_sem,Zq,LZ];refine Bd ?_;simp only[go_sem,Zq,LZ];exact Cg (v:=.tup [.agg _,.bool true]) (Ch (n0 _ _ _) rfl rfl rfl) (Cw rfl) qg ⟨rfl,rfl⟩
    .have qd:A0 [59] (A.drop q4)=false:=by simpa using qd
     rw[if_neg AA];have cz:=J2 qb [zO,Bn (Ag A p),.row [iV 2,iV (Ag A p).line,.str nm,iV 0,iV i1,.str []] 82 0 0] hl f2 qd;have Zq:=Dv hS;obtain⟨-,-,qa,get,get0,set,set0,n0,n1,n2,u0,u1,u2⟩:=hS;have g1:=n1 (p+1) zO (Bn (Ag A p)) [];have g2:=n1 (p+1) zO (Bn (Ag A p)) [zO];simp only[go_sem,Zq,LZ];refine Aa qh ?_;simp only[go_sem,Zq,LZ,qc];refine Ad AD ?_;simp only[go_sem,Zq,LZ];refine Ax qe rfl ?_;simp only[go_sem,Zq,LZ];refine Bd ?_;simp only[go_sem,Zq,LZ];refine Bd ?_;simp only[go_sem,Zq,LZ];refine Aa c1 ?_;simp only[go_sem,Zq,LZ,Int.reduceBEq];refine Aa f1 ?_;simp only[go_sem,Zq,LZ,Int.reduceBEq];have j1:=n2 q4 zO (Bn (Ag A p)) (.row [iV 2,iV (Ag A p).line,.str nm,iV 0,iV i1,.str []] 82 0 0) [];refine Ad AD ?_;simp only[go_sem,Zq,LZ];refine Ia cz ?_;simp only[go_sem,Zq,LZ];refine Bd ?_;simp only[go_sem,Zq,LZ];exact Cg (v:=.tup [.agg _,.bool false]) (Ch (n0 _ _ _) rfl rfl rfl) (Cw rfl) f2 ⟨_,⟨_,_,_,_,_,_,rfl,rfl⟩,rfl⟩
  .rw[if_neg AM,if_neg AM,if_pos rfl]
   cases hn2:Dg (A.drop (p+1+1)) with
   | none=>
    have f1:=Aa3 qb (p:=p+1+1) [zO,Bn (Ag A p),.row [iV 5,iV (Ag A p).line,.str nm,iV 0,iV 0,.str []] 82 0 0] hl qk hn2;have Zq:=Dv hS;obtain⟨-,-,qa,get,get0,set,set0,n0,n1,n2,u0,u1,u2⟩:=hS;have g1:=n1 (p+1) zO (Bn (Ag A p)) [];have g2:=n1 (p+1) zO (Bn (Ag A p)) [zO];simp only[go_sem,Zq,LZ];refine Aa qh ?_;simp only[go_sem,Zq,LZ,qc];refine Ad AD ?_;simp only[go_sem,Zq,LZ];refine Ax qe rfl ?_;simp only[go_sem,Zq,LZ];refine Bd ?_;simp only[go_sem,Zq,LZ];refine Bd ?_;simp only[go_sem,Zq,LZ];refine Aa c1 ?_;simp only[go_sem,Zq,LZ,Int.reduceBEq];refine Aa f1 ?_;simp only[go_sem,Zq,LZ,Int.reduceBEq];refine Ad AD ?_;simp only[go_sem,Zq,LZ];refine Bd ?_;simp only[go_sem,Zq,LZ];exact Cg (v:=.tup [.agg _,.bool false]) (Ch (n0 _ _ _) rfl rfl rfl) (Cw rfl) qk ⟨_,⟨_,_,_,_,_,_,rfl,rfl⟩,rfl⟩
   | some nt2=>
    obtain⟨on,t2⟩:=nt2;obtain⟨f1,qj,f3⟩:=Agh qb (p:=p+1+1) [zO,Bn (Ag A p),.row [iV 5,iV (Ag A p).line,.str nm,iV 0,iV 0,.str []] 82 0 0] hl qk hn2;have qI:p+1+1+1<=A.length:=qj;simp only;rw[<-f3];unfold Ea;by_cases qd:A0 [59] (A.drop (p+1+1+1))=true
    .rw[if_pos qd,<-Eo];have cz:=Li qb [zO,Bn (Ag A p),.row [iV 5,iV (Ag A p).line,.str nm,iV 0,iV 0,.str on] 82 0 0] hl qd;have qg:=Ek qd;have Zq:=Dv hS;obtain⟨-,-,qa,get,get0,set,set0,n0,n1,n2,u0,u1,u2⟩:=hS;have g1:=n1 (p+1) zO (Bn (Ag A p)) [];have g2:=n1 (p+1) zO (Bn (Ag A p)) [zO];simp only[go_sem,Zq,LZ];refine Aa qh ?_;simp only[go_sem,Zq,LZ,qc];refine Ad AD ?_;simp only[go_sem,Zq,LZ];refine Ax qe rfl ?_;simp only[go_sem,Zq,LZ];refine Bd ?_;simp only[go_sem,Zq,LZ];refine Bd ?_;simp only[go_sem,Zq,LZ];refine Aa c1 ?_;simp only[go_sem,Zq,LZ,Int.reduceBEq];refine Aa f1 ?_;simp only[go_sem,Zq,LZ,Int.reduceBEq];have j1:=n2 (p+1+1+1) zO (Bn (Ag A p)) (.row [iV 5,iV (Ag A p).line,.str nm,iV 0,iV 0,.str on] 82 0 0) [];have j2:=n2 ((p+1+1+1)+1) zO (Bn (Ag A p)) (.row [iV 5,iV (Ag A p).line,.str nm,iV 0,iV 0,.str on] 82 0 0) [];refine Ad AD ?_;simp only[go_sem,Zq,LZ];refine Ia cz ?_;simp only[go_sem,Zq,LZ];refine Bd ?_;simp only[go_sem,Zq,LZ];exact Cg (v:=.tup [.agg _,.bool true]) (Ch (n0 _ _ _) rfl rfl rfl) (Cw rfl) qg ⟨rfl,rfl⟩
    .have qd:A0 [59] (A.drop (p+1+1+1))=false:=by simpa using qd
     rw[if_neg AA];have cz:=J2 qb [zO,Bn (Ag A p),.row [iV 5,iV (Ag A p).line,.str nm,iV 0,iV 0,.str on] 82 0 0] hl qI qd;have Zq:=Dv hS;obtain⟨-,-,qa,get,get0,set,set0,n0,n1,n2,u0,u1,u2⟩:=hS;have g1:=n1 (p+1) zO (Bn (Ag A p)) [];have g2:=n1 (p+1) zO (Bn (Ag A p)) [zO];simp only[go_sem,Zq,LZ];refine Aa qh ?_;simp only[go_sem,Zq,LZ,qc];refine Ad AD ?_;simp only[go_sem,Zq,LZ];refine Ax qe rfl ?_;simp only[go_sem,Zq,LZ];refine Bd ?_;simp only[go_sem,Zq,LZ];refine Bd ?_;simp only[go_sem,Zq,LZ];refine Aa c1 ?_;simp only[go_sem,Zq,LZ,Int.reduceBEq];refine Aa f1 ?_;simp only[go_sem,Zq,LZ,Int.reduceBEq];have j1:=n2 (p+1+1+1) zO (Bn (Ag A p)) (.row [iV 5,iV (Ag A p).line,.str nm,iV 0,iV 0,.str on] 82 0 0) [];refine Ad AD ?_;simp only[go_sem,Zq,LZ];refine Ia cz ?_;simp only[go_sem,Zq,LZ];refine Bd ?_;simp only[go_sem,Zq,LZ];exact Cg (v:=.tup [.agg _,.bool false]) (Ch (n0 _ _ _) rfl rfl rfl) (Cw rfl) qI ⟨_,⟨_,_,_,_,_,_,rfl,rfl⟩,rfl⟩
  .rcases qR with rfl | rfl | rfl
   .rw[if_neg AM,if_neg AM,if_neg AM];unfold Ea;by_cases qd:A0 [59] (A.drop (p+1+1))=true
    .rw[if_pos qd,<-Eo];have cz:=Li qb [zO,Bn (Ag A p),.row [iV 3,iV (Ag A p).line,.str nm,iV 0,iV 0,.str []] 82 0 0] hl qd;have qg:=Ek qd;have Zq:=Dv hS;obtain⟨-,-,qa,get,get0,set,set0,n0,n1,n2,u0,u1,u2⟩:=hS;have g1:=n1 (p+1) zO (Bn (Ag A p)) [];have g2:=n1 (p+1) zO (Bn (Ag A p)) [zO];simp only[go_sem,Zq,LZ];refine Aa qh ?_;simp only[go_sem,Zq,LZ,qc];refine Ad AD ?_;simp only[go_sem,Zq,LZ];refine Ax qe rfl ?_;simp only[go_sem,Zq,LZ];refine Bd ?_;simp only[go_sem,Zq,LZ];refine Bd ?_;simp only[go_sem,Zq,LZ];refine Aa c1 ?_;simp only[go_sem,Zq,LZ,Int.reduceBEq];have j1:=n2 (p+1+1) zO (Bn (Ag A p)) (.row [iV 3,iV (Ag A p).line,.str nm,iV 0,iV 0,.str []] 82 0 0) [];have j2:=n2 ((p+1+1)+1) zO (Bn (Ag A p)) (.row [iV 3,iV (Ag A p).line,.str nm,iV 0,iV 0,.str []] 82 0 0) [];refine Ad AD ?_;simp only[go_sem,Zq,LZ];refine Ia cz ?_;simp only[go_sem,Zq,LZ];refine Bd ?_;simp only[go_sem,Zq,LZ];exact Cg (v:=.tup [.agg _,.bool true]) (Ch (n0 _ _ _) rfl rfl rfl) (Cw rfl) qg ⟨rfl,rfl⟩
    .have qd:A0 [59] (A.drop (p+1+1))=false:=by simpa using qd
     rw[if_neg AA];have cz:=J2 qb [zO,Bn (Ag A p),.row [iV 3,iV (Ag A p).line,.str nm,iV 0,iV 0,.str []] 82 0 0] hl qk qd;have Zq:=Dv hS;obtain⟨-,-,qa,get,get0,set,set0,n0,n1,n2,u0,u1,u2⟩:=hS;have g1:=n1 (p+1) zO (Bn (Ag A p)) [];have g2:=n1 (p+1) zO (Bn (Ag A p)) [zO];simp only[go_sem,Zq,LZ];refine Aa qh ?_;simp only[go_sem,Zq,LZ,qc];refine Ad AD ?_;simp only[go_sem,Zq,LZ];refine Ax qe rfl ?_;simp only[go_sem,Zq,LZ];refine Bd ?_;simp only[go_sem,Zq,LZ];refine Bd ?_;simp only[go_sem,Zq,LZ];refine Aa c1 ?_;simp only[go_sem,Zq,LZ,Int.reduceBEq];have j1:=n2 (p+1+1) zO (Bn (Ag A p)) (.row [iV 3,iV (Ag A p).line,.str nm,iV 0,iV 0,.str []] 82 0 0) [];refine Ad AD ?_;simp only[go_sem,Zq,LZ];refine Ia cz ?_;simp only[go_sem,Zq,LZ];refine Bd ?_;simp only[go_sem,Zq,LZ];exact Cg (v:=.tup [.agg _,.bool false]) (Ch (n0 _ _ _) rfl rfl rfl) (Cw rfl) qk ⟨_,⟨_,_,_,_,_,_,rfl,rfl⟩,rfl⟩
   .rw[if_neg AM,if_neg AM,if_neg AM];unfold Ea;by_cases qd:A0 [59] (A.drop (p+1+1))=true
    .rw[if_pos qd,<-Eo];have cz:=Li qb [zO,Bn (Ag A p),.row [iV 4,iV (Ag A p).line,.str nm,iV 0,iV 0,.str []] 82 0 0] hl qd;have qg:=Ek qd;have Zq:=Dv hS;obtain⟨-,-,qa,get,get0,set,set0,n0,n1,n2,u0,u1,u2⟩:=hS;have g1:=n1 (p+1) zO (Bn (Ag A p)) [];have g2:=n1 (p+1) zO (Bn (Ag A p)) [zO];simp only[go_sem,Zq,LZ];refine Aa qh ?_;simp only[go_sem,Zq,LZ,qc];refine Ad AD ?_;simp only[go_sem,Zq,LZ];refine Ax qe rfl ?_;simp only[go_sem,Zq,LZ];refine Bd ?_;simp only[go_sem,Zq,LZ];refine Bd ?_;simp only[go_sem,Zq,LZ];refine Aa c1 ?_;simp only[go_sem,Zq,LZ,Int.reduceBEq];have j1:=n2 (p+1+1) zO (Bn (Ag A p)) (.row [iV 4,iV (Ag A p).line,.str nm,iV 0,iV 0,.str []] 82 0 0) [];have j2:=n2 ((p+1+1)+1) zO (Bn (Ag A p)) (.row [iV 4,iV (Ag A p).line,.str nm,iV 0,iV 0,.str []] 82 0 0) [];refine Ad AD ?_;simp only[go_sem,Zq,LZ];refine Ia cz ?_;simp only[go_sem,Zq,LZ];refine Bd ?_;simp only[go_sem,Zq,LZ];exact Cg (v:=.tup [.agg _,.bool true]) (Ch (n0 _ _ _) rfl rfl rfl) (Cw rfl) qg ⟨rfl,rfl⟩
    .have qd:A0 [59] (A.drop (p+1+1))=false:=by simpa using qd
     rw[if_neg AA];have cz:=J2 qb [zO,Bn (Ag A p),.row [iV 4,iV (Ag A p).line,.str nm,iV 0,iV 0,.str []] 82 0 0] hl qk qd;have Zq:=Dv hS;obtain⟨-,-,qa,get,get0,set,set0,n0,n1,n2,u0,u1,u2⟩:=hS;have g1:=n1 (p+1) zO (Bn (Ag A p)) [];have g2:=n1 (p+1) zO (Bn (Ag A p)) [zO];simp only[go_sem,Zq,LZ];refine Aa qh ?_;simp only[go_sem,Zq,LZ,qc];refine Ad AD ?_;simp only[go_sem,Zq,LZ];refine Ax qe rfl ?_;simp only[go_sem,Zq,LZ];refine Bd ?_;simp only[go_sem,Zq,LZ];refine Bd ?_;simp only[go_sem,Zq,LZ];refine Aa c1 ?_;simp only[go_sem,Zq,LZ,Int.reduceBEq];have j1:=n2 (p+1+1) zO (Bn (Ag A p)) (.row [iV 4,iV (Ag A p).line,.str nm,iV 0,iV 0,.str []] 82 0 0) [];refine Ad AD ?_;simp only[go_sem,Zq,LZ];refine Ia cz ?_;simp only[go_sem,Zq,LZ];refine Bd ?_;simp only[go_sem,Zq,LZ];exact Cg (v:=.tup [.agg _,.bool false]) (Ch (n0 _ _ _) rfl rfl rfl) (Cw rfl) qk ⟨_,⟨_,_,_,_,_,_,rfl,rfl⟩,rfl⟩
   .rw[if_neg AM,if_neg AM,if_neg AM];unfold Ea;by_cases qd:A0 [59] (A.drop (p+1+1))=true
    .rw[if_pos qd,<-Eo];have cz:=Li qb [zO,Bn (Ag A p),.row [iV 6,iV (Ag A p).line,.str nm,iV 0,iV 0,.str []] 82 0 0] hl qd;have qg:=Ek qd;have Zq:=Dv hS;obtain⟨-,-,qa,get,get0,set,set0,n0,n1,n2,u0,u1,u2⟩:=hS;have g1:=n1 (p+1) zO (Bn (Ag A p)) [];have g2:=n1 (p+1) zO (Bn (Ag A p)) [zO];simp only[go_sem,Zq,LZ];refine Aa qh ?_;simp only[go_sem,Zq,LZ,qc];refine Ad AD ?_;simp only[go_sem,Zq,LZ];refine Ax qe rfl ?_;simp only[go_sem,Zq,LZ];refine Bd ?_;simp only[go_sem,Zq,LZ];refine Bd ?_;simp only[go_sem,Zq,LZ];refine Aa c1 ?_;simp only[go_sem,Zq,LZ,Int.reduceBEq];have j1:=n2 (p+1+1) zO (Bn (Ag A p)) (.row [iV 6,iV (Ag A p).line,.str nm,iV 0,iV 0,.str []] 82 0 0) [];have j2:=n2 ((p+1+1)+1) zO (Bn (Ag A p)) (.row [iV 6,iV (Ag A p).line,.str nm,iV 0,iV 0,.str []] 82 0 0) [];refine Ad AD ?_;simp only[go_sem,Zq,LZ];refine Ia cz ?_;simp only[go_sem,Zq,LZ];refine Bd ?_;simp only[go_sem,Zq,LZ];exact Cg (v:=.tup [.agg _,.bool true]) (Ch (n0 _ _ _) rfl rfl rfl) (Cw rfl) qg ⟨rfl,rfl⟩
    .have qd:A0 [59] (A.drop (p+1+1))=false:=by simpa using qd
     rw[if_neg AA];have cz:=J2 qb [zO,Bn (Ag A p),.row [iV 6,iV (Ag A p).line,.str nm,iV 0,iV 0,.str []] 82 0 0] hl qk qd;have Zq:=Dv hS;obtain⟨-,-,qa,get,get0,set,set0,n0,n1,n2,u0,u1,u2⟩:=hS;have g1:=n1 (p+1) zO (Bn (Ag A p)) [];have g2:=n1 (p+1) zO (Bn (Ag A p)) [zO];simp only[go_sem,Zq,LZ];refine Aa qh ?_;simp only[go_sem,Zq,LZ,qc];refine Ad AD ?_;simp only[go_sem,Zq,LZ];refine Ax qe rfl ?_;simp only[go_sem,Zq,LZ];refine Bd ?_;simp only[go_sem,Zq,LZ];refine Bd ?_;simp only[go_sem,Zq,LZ];refine Aa c1 ?_;simp only[go_sem,Zq,LZ,Int.reduceBEq];have j1:=n2 (p+1+1) zO (Bn (Ag A p)) (.row [iV 6,iV (Ag A p).line,.str nm,iV 0,iV 0,.str []] 82 0 0) [];refine Ad AD ?_;simp only[go_sem,Zq,LZ];refine Ia cz ?_;simp only[go_sem,Zq,LZ];refine Bd ?_;simp only[go_sem,Zq,LZ];exact Cg (v:=.tup [.agg _,.bool false]) (Ch (n0 _ _ _) rfl rfl rfl) (Cw rfl) qk ⟨_,⟨_,_,_,_,_,_,rfl,rfl⟩,rfl⟩
def Ahs:∀ (js:List Nat) (σ:St) (n:Nat),(∀ i∈js,n<=i)->∀ j,j<n->(σ.freeze js)[j]?=σ[j]?
 | [],_,_,_,_,_=>rfl
 | i::js,σ,n,h,j,hj=>by
  have hi:=h i Cz;simp only[St.freeze]
  split
  .rw[Ahs js _ n (fun k hk=>h k (Dl _ hk)) j hj,B4 AA]
  .exact Ahs js _ n (fun k hk=>h k (Dl _ hk)) j hj
def Aw6{z:Bool}{t:Nat}{A:List Tk}{f m q0:Nat}{res:List AR}{thr:Bool}{body:AC}{s:St}{R:V->Nat->Prop}(hT:TT f=some ⟨1,res,thr,body,none⟩)(hs:s[m]?=some (RO z t A q0))
  (h:∀ S,RdS s m z t A S->W TT PT [.c body] (C7 0 [.ptr m 0 0]) (S q0) (Hd fun e' σ1=>∃ vs qK q,Ca e' σ1 res=some (.tup vs)/\vs.all Ga=true/\OVs σ1 vs qK/\(∀ j∈Ah vs,s.length<=j)/\Ah qK=[]/\RW s σ1 m z t A q/\q<=A.length/\R (.tup qK) q)):RT f [] s m z t A R:=by
 have h:=h _ (Au5 z t A (An.1 hs).1);rw[Og hs]at h;obtain⟨e',σ1,hE,vs,qK,q,hr,jx,jz,je,jC,hw,hq,hR⟩:=h;have jt:=Ahs (Ah vs) σ1 s.length je;have qM:RW s (σ1.freeze (Ah vs)) m z t A q:=R6 hw (by rw[Qj];exact hw.1) jt;refine⟨_,q,?_,hq,hR⟩;rw[<-Au6 qM];refine Api hT rfl rfl ⟨e',σ1,hE,.tup vs,Ah vs,hr,jx,?_,?_,Au7 qM,rfl⟩
 .exact congrArg (Option.map V.tup) (R4 jz fun j hj=>hj)
 .show Ej s.length [] (Ah qK)=true;rw[jC];rfl
def Azr{s:St}{m:Nat}{z:Bool}{t:Nat}{A:List Tk}{S:Nat->St}(hS:RdS s m z t A S){p0:Nat}(hs:s[m]?=some (RO z t A p0))(q:Nat)(l:St):RW s (S q++l) m z t A q:=by
 rw[hS.eq];exact Ad5 (Qy (Aj2 hs) q)
def Qq{s σ:St}{m:Nat}{z:Bool}{t:Nat}{A:List Tk}{q j:Nat}{x:Ob}(h:RW s σ m z t A q)(hj:s.length<=j):RW s (σ.set j x) m z t A q:=by
 have:=h.2.2.2;exact R6 h (by rw[Ny];exact h.1) fun i hi=>B4 AA
def PRt(A:List Tk)(o:Option (Tp × List Tk))(v:V)(p':Nat):Prop:=match o with
 | some (x,r)=>v=.tup [.agg x.row,.bool true]/\A.drop p'=r
 | none=>∃ d0 d1 d2 d3:V,[d0,d1,d2,d3].all V.rowB=true/\v=.tup [.agg [d0,d1,d2,d3],.bool false]
def Aid(L:List (List UInt8)):(SL true 0 (L.map Mq)).rowB=true:=by
 unfold SL
 split<;>rfl
theorem Au8(z:Bool)(t:Nat)(xs:List (List V)):(SL z t xs).refs=[]:=by unfold SL;split<;>rfl
def Zr{σ:St}{e lo:Nat}{u:V}{L:List (List UInt8)}{nm:List UInt8}{ln:Int}{w:V}{b:Bool}(hg:GW σ 1 e lo u (L.map Mq))(hw:w.rowB=true):OVs σ [.agg [.str nm,iV ln,u,w],.bool b] [.agg [.str nm,iV ln,SL true 0 (L.map Mq),w],.bool b]:=
 .cons (Uj (.cons (Gb rfl) (.cons (Gb rfl) (.cons (J3 hg AA (by intro r hr;obtain⟨x,-,rfl⟩:=Di.1 hr;rfl) (by intro r hr;obtain⟨x,-,rfl⟩:=Di.1 hr;rfl)) (.cons (Gb hw) .nil))))) (.cons (Ig rfl) .nil)
def Aab{σ:St}{e lo:Nat}{u:V}{xs:List (List V)}{nm:List UInt8}{ln:Int}{w:V}{b:Bool}(hg:GW σ 1 e lo u xs)(hw:w.rowB=true):∀ j∈Ah [.agg [.str nm,iV ln,u,w],.bool b],lo<=j:=by
 have jG:=Qk hw;intro j hj;simp only[Ah,V.refs,jG,Bz,Ct]at hj;rcases hg with⟨rfl,-⟩ | ⟨-,i,g,rfl,-,je⟩
 .cases hj
 grind[V.refs]
def Aac{σ:St}{e lo:Nat}{u:V}{xs:List (List V)}{nm:List UInt8}{ln:Int}{w:V}{b:Bool}(hg:GW σ 1 e lo u xs)(hw:w.rowB=true):[V.agg [.str nm,iV ln,u,w],.bool b].all Ga=true:=by
 grind[B8,Pg,V.cellB,Ga]
def Aad{L:List (List UInt8)}{nm:List UInt8}{ln:Int}{w:V}{b:Bool}(hw:w.rowB=true):Ah [.agg [.str nm,iV ln,SL true 0 (L.map Mq),w],.bool b]=[]:=by
 simp_all [Ah,V.refs,Au8,Qk]
set_option maxHeartbeats 4000000 in
def A39{n:Nat}{s:St}{m:Nat}{z:Bool}{t:Nat}{A:List Tk}{p:Nat}(hA:OkA A)(hT:D9 A)(hs:s[m]?=some (RO z t A p))(hp:p<A.length)(hf:10*(A.length - p)+2<=n):RT 66 [] s m z t A (PRt A (U9 n (A.drop p))):=by
 have hl:A.length<=1000000:=by have:=hA.len;omega
 have hm:=(An.1 hs).1;refine Aw6 T66 hs fun S hS=>?_
 have qb:=hS;have qo:=Azr qb hs;have qh:=Sh (qb.get p [.row [.str [],iV 0,.nils,.nils] 86 0 0]) hl (Rl hp);have qc:=Aw (show p<9223372036854775807 by omega);have qw:p+1<=A.length:=hp;rw[Mn hp,U9];generalize ji:Ag A p=tk at qh
 cases hn:Dg (A.drop (p+1)) with
 | none=>
  have c1:=Aa3 qb (p:=p+1) [.row [.str [],iV 0,.nils,.nils] 86 0 0,.row [.str [],iV tk.line,.nils,.nils] 86 0 0] hl qw hn;have Zq:=Dv hS;obtain⟨-,-,qa,get,get0,set,set0,n0,n1,n2,u0,u1,u2⟩:=hS;simp only[go_sem,Zq,LZ];refine Aa qh ?_;simp only[go_sem,Zq,LZ,qc];refine Aa c1 ?_;simp only[go_sem,Zq,LZ];exact⟨_,_,_,Ch (n0 _ _ _) rfl rfl rfl,rfl,.cons (Ig rfl) (.cons (Ig rfl) .nil),(fun j hj=>by cases hj),rfl,qo _ _,qw,_,_,_,_,rfl,rfl⟩
 | some nt=>
  obtain⟨nm,ts⟩:=nt;obtain⟨c1,qu,h3⟩:=Agh qb (p:=p+1) [.row [.str [],iV 0,.nils,.nils] 86 0 0,.row [.str [],iV tk.line,.nils,.nils] 86 0 0] hl qw hn;simp only;rw[<-h3];unfold Ea;have qk:p+1+1<=A.length:=qu;by_cases qx:A0 [40] (A.drop (p+1+1))=true
  case neg=>
   have qx:A0 [40] (A.drop (p+1+1))=false:=by simpa using qx
   rw[if_neg AA];have c2:=J2 qb (p:=p+1+1) [.row [.str [],iV 0,.nils,.nils] 86 0 0,.row [.str nm,iV tk.line,.nils,.nils] 86 0 0] hl qk qx;have Zq:=Dv hS;obtain⟨-,-,qa,get,get0,set,set0,n0,n1,n2,u0,u1,u2⟩:=hS;simp only[go_sem,Zq,LZ];refine Aa qh ?_;simp only[go_sem,Zq,LZ,qc];refine Aa c1 ?_;simp only[go_sem,Zq,LZ];refine Aa c2 ?_;simp only[go_sem,Zq,LZ];exact⟨_,_,_,Ch (n0 _ _ _) rfl rfl rfl,rfl,.cons (Ig rfl) (.cons (Ig rfl) .nil),(fun j hj=>by cases hj),rfl,qo _ _,qk,_,_,_,_,rfl,rfl⟩
  rw[if_pos qx];simp only;rw[<-Eo];have c2:=Li qb (p:=p+1+1) [.row [.str [],iV 0,.nils,.nils] 86 0 0,.row [.str nm,iV tk.line,.nils,.nils] 86 0 0] hl qx;have qI:p+1+1+1<=A.length:=Ek qx;unfold Alv;by_cases qy:A0 [41] (A.drop (p+1+1+1))=true
  .rw[if_pos qy];simp only;rw[<-Eo];have c3:=Li qb (p:=p+1+1+1) [.row [.str [],iV 0,.nils,.nils] 86 0 0,.row [.str nm,iV tk.line,.nils,.nils] 86 0 0] hl qy;have jA:p+1+1+1+1<=A.length:=Ek qy;obtain⟨v,q,c4,hq,h4⟩:=Pn qb (p:=p+1+1+1+1) (l:=[.row [.str [],iV 0,.nils,.nils] 86 0 0,.row [.str nm,iV tk.line,.nils,.nils] 86 0 0]) fun hs=>(Ass n).2 _ m z t A _ hA hT hs jA AA
   have Zq:=Dv hS;obtain⟨-,-,qa,get,get0,set,set0,n0,n1,n2,u0,u1,u2⟩:=hS;simp only[go_sem,Zq,LZ];refine Aa qh ?_;simp only[go_sem,Zq,LZ,qc];refine Aa c1 ?_;simp only[go_sem,Zq,LZ];refine Aa c2 ?_;simp only[go_sem,Zq,LZ];refine Aa c3 ?_;simp only[go_sem,Zq,LZ];unfold PRb at h4
   cases hb:Fz n (A.drop (p+1+1+1+1)) with
   | none=>
    rw[hb]at h4;subst h4;refine Aa c4 ?_;simp only[go_sem,Zq,LZ];exact⟨_,_,_,Ch (n0 _ _ _) rfl rfl rfl,rfl,.cons (Ig rfl) (.cons (Ig rfl) .nil),(fun j hj=>by cases hj),rfl,qo _ _,hq,_,_,_,_,rfl,rfl⟩
   | some bt=>
    obtain⟨b,jI⟩:=bt;rw[hb]at h4;obtain⟨rfl,h4⟩:=h4;have qp:=Hm b;refine Aa c4 ?_;simp only[go_sem,Zq,LZ];exact⟨_,[.agg [.str nm,iV tk.line,.nils,SL true 0 (b.map Sp.row)],.bool true],_,Ch (n0 _ _ _) rfl rfl rfl,Aac (σ:=[]) (e:=0) (lo:=0) Dr qp,Zr (L:=[]) (e:=0) (lo:=0) Dr qp,Aab (σ:=[]) (e:=0) (lo:=s.length) (xs:=[]) Dr qp,Aad (L:=[]) qp,qo _ _,hq,rfl,h4⟩
  .have qy:A0 [41] (A.drop (p+1+1+1))=false:=by simpa using qy
   rw[if_neg AA];have c3:=J2 qb (p:=p+1+1+1) [.row [.str [],iV 0,.nils,.nils] 86 0 0,.row [.str nm,iV tk.line,.nils,.nils] 86 0 0] hl qI qy;have Zq:=Dv hS;obtain⟨-,-,qa,get,get0,set,set0,n0,n1,n2,u0,u1,u2⟩:=hS;simp only[go_sem,Zq,LZ];refine Aa qh ?_;simp only[go_sem,Zq,LZ,qc];refine Aa c1 ?_;simp only[go_sem,Zq,LZ];refine Aa c2 ?_;simp only[go_sem,Zq,LZ];refine Aa c3 ?_;simp only[go_sem,Zq,LZ];refine Bb (α:=Nat × Nat × V × List (List UInt8) × St) (fun a=>a.1) (fun a=>[(0,.ptr m 0 0),(2,.ptr s.length 0 0),(4,.ptr (s.length+1) 0 0)]) (fun a=>a.2.2.2.2) (fun a=>a.1<=n/\a.2.1<=A.length/\A.length - a.2.1<a.1/\RW s a.2.2.2.2 m z t A a.2.1/\a.2.2.2.2[s.length]?=some (.row [.str [],iV 0,.nils,.nils] 86 0 0)/\a.2.2.2.2[s.length+1]?=some (.row [.str nm,iV tk.line,a.2.2.1,.nils] 86 0 0)/\GW a.2.2.2.2 1 9 (s.length+2) a.2.2.1 (a.2.2.2.1.map Mq)/\Nl n (A.drop (p+1+1+1))=(Nl a.1 (A.drop a.2.1)).map (fun y=>(a.2.2.2.1++y.1,y.2))/\a.2.2.2.1.length<=a.2.1/\s.length+2<=a.2.2.2.2.length/\p+1<=a.2.1) ?_ (n,p+1+1+1,.nils,[],S (p+1+1+1)++[.row [.str [],iV 0,.nils,.nils] 86 0 0,.row [.str nm,iV tk.line,.nils,.nils] 86 0 0]) ⟨Am _,qI,by grind,qo _ _,n0 _ _ _,n1 _ _ _ _,Dr,by simp_all,by simp,by grind,by grind⟩;rintro⟨k,q,u,L,σ⟩ ⟨ju,hq,jp,hw,qZ,qW,hg,qf,jn,qr,jB⟩ ih;simp only at ju hq jp hw qZ qW hg qf jn qr jB ih;obtain⟨k,rfl⟩:∃ j,k=j+1:=⟨k - 1,by omega⟩;have jD:∀ r∈L.map Mq,r.length=1:=by intro r hr;obtain⟨x,-,rfl⟩:=Di.1 hr;rfl
   have jq:=B8 hg;have qN:∀ (τ:St) (ob:Ob),s.length+2<=τ.length->(τ.set (s.length+1) ob)[s.length+1]?=some ob:=fun τ ob h=>Cf AA
   have qL:∀ (τ:St) (ob:Ob),s.length+2<=τ.length->(τ.set s.length ob)[s.length]?=some ob:=fun τ ob h=>Cf AA
   refine Ay Blc ?_
   cases hnq:Dg (A.drop q) with
   | none=>
    have d1:=(W8 hw.2.2.1 hl hq).2 hnq;have ho:Nl (k+1) (A.drop q)=none:=by rw[Nl,hnq]
    rw[ho]at qf;rw[qf];simp only[go_sem];refine Aa d1 ?_;simp only[go_sem,qW,qZ,jq];exact⟨_,[.agg [.str nm,iV tk.line,SL true 0 ((L).map Mq),.nils],.bool false],q,Ch (qL _ _ (qr)) rfl rfl rfl,Aac hg rfl,Zr (Dw hg AA) rfl,(fun j hj=>by have:=Aab hg rfl j hj;omega),Aad rfl,Qq hw (Am _),hq,_,_,_,_,by simp only[B5,Dc,Aid];rfl,rfl⟩
   | some wr=>
    obtain⟨w,r⟩:=wr;obtain⟨d1,qT,jg⟩:=(W8 hw.2.2.1 hl hq).1 w r hnq
    have ho:Nl (k+1) (A.drop q)=if A0 [44] r then(match Nl k r.tail with
      | none=>none
      | some (l,r)=>some (w::l,r)) else(Ea [41] r).map fun ts=>([w],ts):=by
     rw[Nl,hnq];rfl
    rw[ho]at qf;have jj:=Qy hw (q+1);have ja:GW (σ.set m (RO z t A (q+1))) 1 9 (s.length+2) u (L.map Mq):=Dw hg AA;have jv:(σ.set m (RO z t A (q+1))).length=σ.length:=Ny;have jk:(σ.set m (RO z t A (q+1)))[s.length]?=some (.row [.str [],iV 0,.nils,.nils] 86 0 0):=by rw[B4 AA];exact qZ
    have qJ:(σ.set m (RO z t A (q+1)))[s.length+1]?=some (.row [.str nm,iV tk.line,u,.nils] 86 0 0):=by rw[B4 AA];exact qW
    generalize σ.set m (RO z t A (q+1))=τ1 at d1 jj ja jv jk qJ;obtain⟨u',τ2,ha,jb,jJ,-,qQ⟩:=Iz (bytes:=16) (y:=.lst 1 [[.str w]]) (ys:=[[.str w]]) ja AA rfl AA jD AE AP;have qM:RW s τ2 m z t A (q+1):=R6 jj AA fun j hj=>qQ j AA
    have qi:=B8 jb;obtain⟨qP,qO⟩:=Ahr qi;obtain⟨τ3,e3⟩:∃ τ:St,τ=τ2.set (s.length+1) (.row [.str nm,iV tk.line,u',.nils] 86 0 0):=⟨_,rfl⟩;have qs:RW s τ3 m z t A (q+1):=by rw[e3];exact R6 qM (by grind) fun j hj=>B4 AA
    have qF:GW τ3 1 9 (s.length+2) u' ((L++[w]).map Mq):=by rw[e3,Fm];exact Dw jb AA
    have jd:s.length+2<=τ3.length:=by rw[e3,Ny];omega
    have jl:τ3[s.length]?=some (.row [.str [],iV 0,.nils,.nils] 86 0 0):=by rw[e3,B4 AA,qQ _ AA];exact jk
    have jh:τ3[s.length+1]?=some (.row [.str nm,iV tk.line,u',.nils] 86 0 0):=by rw[e3];exact qN _ _ AA
    have qV:τ2[s.length+1]?=some (.row [.str nm,iV tk.line,u,.nils] 86 0 0):=by rw[qQ _ AA];exact qJ
    have qU:q+1<=A.length:=qT;by_cases qq:A0 [44] r=true
    .rw[if_pos qq]at qf;rw[<-jg]at qq qf;have d2:=Sy qs.2.2.1 hl qq;have qH:=Ek qq;rw[e3]at d2;simp only[go_sem];refine Aa d1 ?_;simp only[go_sem,qJ,ha,qV,qi,qP,qO];refine Aa d2 ?_;rw[<-e3];simp only[go_sem];refine Ai (ih (k,q+1+1,u',L++[w],τ3.set m (RO z t A (q+1+1))) AE ⟨by omega,qH,by grind,Qy qs _,by grind[List.getElem?_set_ne],by grind[List.getElem?_set_ne],Dw qF AA,?_,by simp;omega,by grind,by grind⟩) rfl;simp only;rw[qf,<-Eo]
     cases Nl k (A.drop (q+1+1)) with
     | none=>rfl
     | some y=>simp
    .have qq:A0 [44] r=false:=by simpa using qq
     rw[if_neg AA]at qf;rw[<-jg]at qq qf;have d2:=Sz qs.2.2.1 hl qU qq;rw[e3]at d2;unfold Ea at qf;by_cases ql:A0 [41] (A.drop (q+1))=true
     .rw[if_pos ql]at qf;simp only[I9]at qf;rw[qf];simp only;rw[<-Eo];have d3:=Sy qs.2.2.1 hl ql;have qG:=Ek ql;have jF:=Qy qs (q+1+1);obtain⟨v,q5,d4,jf,h5⟩:=(Ass n).2 (τ3.set m (RO z t A (q+1+1))) m z t A (q+1+1) hA hT jF.2.2.1 qG AA;rw[Vp]at d4;have qY:=Qy qs q5;have qt:GW (τ3.set m (RO z t A q5)) 1 9 (s.length+2) u' ((L++[w]).map Mq):=Dw qF AA;have qS:s.length+2<=(τ3.set m (RO z t A q5)).length:=by rw[Ny];exact jd
      have jH:(τ3.set m (RO z t A q5))[s.length]?=some (.row [.str [],iV 0,.nils,.nils] 86 0 0):=by rw[B4 AA];exact jl
      have qX:(τ3.set m (RO z t A q5))[s.length+1]?=some (.row [.str nm,iV tk.line,u',.nils] 86 0 0):=by rw[B4 AA];exact jh
      generalize τ3.set m (RO z t A q5)=τ5 at d4 qY qt qS jH qX;have jm:∀ ob:Ob,(τ5.set (s.length+1) ob)[s.length]?=some (.row [.str [],iV 0,.nils,.nils] 86 0 0):=fun ob=>by grind
      rw[e3]at d3;unfold PRb at h5;simp only[go_sem];refine Aa d1 ?_;simp only[go_sem,qJ,ha,qV,qi,qP,qO];refine Aa d2 ?_;simp only[go_sem];refine Aa d3 ?_;rw[<-e3];simp only[go_sem]
      cases hb:Fz n (A.drop (q+1+1)) with
      | none=>
       rw[hb]at h5;subst h5;refine Aa d4 ?_;simp only[go_sem,qX,qN _ _ qS,jm,qi];exact⟨_,[.agg [.str nm,iV tk.line,SL true 0 ((L++[w]).map Mq),.nils],.bool false],q5,Ch (qL _ _ (by grind)) rfl rfl rfl,Aac qt rfl,Zr (Dw (Dw qt AA) AA) rfl,(fun j hj=>by have:=Aab qt rfl j hj;omega),Aad rfl,Qq (Qq qY AA) (Am _),jf,_,_,_,_,by simp only[B5,Dc,Aid];rfl,rfl⟩
      | some bt=>
       obtain⟨b,jI⟩:=bt;rw[hb]at h5;obtain⟨rfl,h5⟩:=h5;have qp:=Hm b;have jo:=Pg qp;refine Aa d4 ?_;simp only[go_sem,qX,qN _ _ qS,jm,qi,jo];exact⟨_,[.agg [.str nm,iV tk.line,SL true 0 ((L++[w]).map Mq),SL true 0 (b.map Sp.row)],.bool true],q5,Ch (qL _ _ (by grind)) rfl rfl rfl,Aac qt qp,Zr (Dw (Dw qt AA) AA) qp,(fun j hj=>by have:=Aab qt qp j hj;omega),Aad qp,Qq (Qq qY AA) (Am _),jf,rfl,h5⟩
     .have ql:A0 [41] (A.drop (q+1))=false:=by simpa using ql
      rw[if_neg AA]at qf;simp only[Option.map_none]at qf;rw[qf];have d3:=Sz qs.2.2.1 hl qU ql;rw[e3]at d3;simp only[go_sem];refine Aa d1 ?_;simp only[go_sem,qJ,ha,qV,qi,qP,qO];refine Aa d2 ?_;simp only[go_sem];refine Aa d3 ?_;rw[<-e3];simp only[go_sem,jh,jl,qi];exact⟨_,[.agg [.str nm,iV tk.line,SL true 0 ((L++[w]).map Mq),.nils],.bool false],(q+1),Ch (qL _ _ (jd)) rfl rfl rfl,Aac qF rfl,Zr (Dw qF AA) rfl,(fun j hj=>by have:=Aab qF rfl j hj;omega),Aad rfl,Qq qs (Am _),qU,_,_,_,_,by simp only[B5,Dc,Aid];rfl,rfl⟩
