/- Walks: the parser's declarations. -/
import Derived.Test.YtdbnbejffjhdlaaGreatDoorLr
set_option linter.all false
namespace Go.Proofs.YtdbnbejffjhdlaaGreatDoor.KM
open Go
structure RdU (s:St) (m o:Nat) (z:Bool) (t:Nat) (A:List Tk) (S:Nat->List V->St):Prop where
 low:m<s.length
 lowo:o<s.length
 ne:m≠o
 eq:∀ p r,S p r=(s.set m (RO z t A p)).set o (.row r 86 0 0)
 len:∀ p r,(S p r).length=s.length
 get:∀ (p:Nat) (r:List V) (l:St),(S p r++l)[m]?=some (.row [SL z t (A.map Tk.row),iV (p:Int)] 80 0 0)
 get0:∀ (p:Nat) (r:List V),(S p r)[m]?=some (.row [SL z t (A.map Tk.row),iV (p:Int)] 80 0 0)
 set:∀ (p q:Nat) (r:List V) (l:St),(S p r++l).set m (.row [SL z t (A.map Tk.row),iV (q:Int)] 80 0 0)=S q r++l
 set0:∀ (p q:Nat) (r:List V),(S p r).set m (.row [SL z t (A.map Tk.row),iV (q:Int)] 80 0 0)=S q r
 go:∀ (p:Nat) (r:List V) (l:St),(S p r++l)[o]?=some (.row r 86 0 0)
 go0:∀ (p:Nat) (r:List V),(S p r)[o]?=some (.row r 86 0 0)
 so:∀ (p:Nat) (r r':List V) (l:St),(S p r++l).set o (.row r' 86 0 0)=S p r'++l
 so0:∀ (p:Nat) (r r':List V),(S p r).set o (.row r' 86 0 0)=S p r'
 n0:∀ (p:Nat) (r:List V) (a:Ob) (l:St),(S p r++a::l)[s.length]?=some a
 n1:∀ (p:Nat) (r:List V) (a b:Ob) (l:St),(S p r++a::b::l)[s.length+1]?=some b
 u0:∀ (p:Nat) (r:List V) (a x:Ob) (l:St),(S p r++a::l).set s.length x=S p r++x::l
 u1:∀ (p:Nat) (r:List V) (a b x:Ob) (l:St),(S p r++a::b::l).set (s.length+1) x=S p r++a::x::l
def Qn{s:St}{m o:Nat}{z:Bool}{t:Nat}{A:List Tk}{S:Nat->List V->St}(h:RdU s m o z t A S):=And.intro h.len (And.intro h.get (And.intro h.get0 (And.intro h.set (And.intro h.set0 (And.intro h.go (And.intro h.go0 (And.intro h.so (And.intro h.so0 (And.intro h.n0 (And.intro h.n1 (And.intro h.u0 (h.u1))))))))))))
def Bcs{s:St}{m o:Nat}(z:Bool)(t:Nat)(A:List Tk)(hm:m<s.length)(ho:o<s.length)(qq:m≠o):RdU s m o z t A (fun p r=>(s.set m (RO z t A p)).set o (.row r 86 0 0)):=by
 have hl:∀ p r,((s.set m (RO z t A p)).set o (.row r 86 0 0)).length=s.length:=fun p r=>by simp
 have hg:∀ (p:Nat) (r:List V),((s.set m (RO z t A p)).set o (.row r 86 0 0))[m]?=some (RO z t A p):=fun p r=>by
  rw[Bk (Ne.symm qq),Bv hm]
 have jc:∀ (p:Nat) (r:List V),((s.set m (RO z t A p)).set o (.row r 86 0 0))[o]?=some (.row r 86 0 0):=fun p r=>Bv (by simpa using ho)
 have hs:∀ p q r,((s.set m (RO z t A p)).set o (.row r 86 0 0)).set m (RO z t A q)=(s.set m (RO z t A q)).set o (.row r 86 0 0):=fun p q r=>by
  rw[List.set_comm _ _ (Ne.symm qq),Qs]
 have ji:∀ p r r',((s.set m (RO z t A p)).set o (.row r 86 0 0)).set o (.row r' 86 0 0)=(s.set m (RO z t A p)).set o (.row r' 86 0 0):=fun p r r'=>by rw[Qs]
 refine⟨hm,ho,qq,fun _ _=>rfl,hl,fun p r l=>Bs (hg p r),fun p r=>hg p r,fun p q r l=>?_,fun p q r=>hs p q r,fun p r l=>Bs (jc p r),fun p r=>jc p r,fun p r r' l=>?_,fun p r r'=>ji p r r',fun p r a l=>?_,fun p r a b l=>?_,fun p r a x l=>?_,fun p r a b x l=>?_⟩
 .rw[Ab2 _ _ (by simpa using hm)];exact congrArg (·++l) (hs p q r)
 .rw[Ab2 _ _ (by simpa using ho)];exact congrArg (·++l) (ji p r r')
 .rw[Fd AE];simp
 .rw[Fd AE];simp
 .rw[Qp _ _ AE];simp
 .rw[Qp _ _ AE];simp
def RU2(f:Nat)(s:St)(m o:Nat)(z:Bool)(t:Nat)(A:List Tk)(R:V->Nat->List V->Prop):Prop:=∃ v p' r',Bt TT PT f [.ptr m 0 0,.ptr o 0 0] s v ((s.set m (RO z t A p')).set o (.row r' 86 0 0))/\p'<=A.length/\R v p' r'
def Ays{z:Bool}{t:Nat}{A:List Tk}{f m o q:Nat}{res:List AR}{thr:Bool}{body:AC}{s:St}{r0:List V}{R:V->Nat->List V->Prop}(hT:TT f=some ⟨2,res,thr,body,none⟩)(hs:s[m]?=some (RO z t A q))(ho:s[o]?=some (.row r0 86 0 0))(qq:m≠o)
  (h:∀ S,RdU s m o z t A S->W TT PT [.c body] (C6 0 [.ptr m 0 0,.ptr o 0 0]) (S q r0) (Hd fun e' σ1=>∃ v p' r' l,Ca e' σ1 res=some v/\(Cb v=true/\v.refs=[])/\σ1=S p' r'++l/\p'<=A.length/\r'.all V.rowB=true/\R v p' r')):RU2 f s m o z t A R:=by
 have hm:=(Al.1 hs).1;have jf:=(Al.1 ho).1;have h:=h _ (Bcs z t A hm jf qq);rw[Ass hs ho]at h;obtain⟨e',σ1,hE,v,p',r',l,hr,⟨h1,h2⟩,rfl,h3,h5,h4⟩:=h;have jk:((s.set m (RO z t A p')).set o (.row r' 86 0 0)++l).take s.length=(s.set m (RO z t A p')).set o (.row r' 86 0 0):=by rw[Aha AE,I9 AE]
 refine⟨v,p',r',?_,h3,h4⟩
 have:=Ev.fn hT rfl rfl hE hr h1 (by rw[h2];rfl) (fun i ob hi qt=>by
  rw[C3 (by simpa using hi)]at qt;by_cases hb:o=i
  .subst hb;rw[Bv (by simpa using jf)]at qt;cases qt;exact .inr (by simp only[Ob.refs];rw[Ff h5];rfl)
  .rw[Bk hb]at qt;by_cases hb:m=i
   .subst hb;rw[Bv hm]at qt;cases qt;exact .inr (by rw[Aeg];rfl)
   .rw[Bk hb]at qt
    exact .inl qt)
 rw[jk]at this;exact⟨_,hT,rfl,this⟩
def Po{S:Nat->List V->St}{A:List Tk}{R:V->Nat->List V->Prop}{e:Env}{res:List AR}{v:V}{p:Nat}{r:List V}(hr:Ca e (S p r) res=some v)(hv:Cb v=true/\v.refs=[])(hp:p<=A.length)(hb:r.all V.rowB=true)(hR:R v p r):
  ∃ v p' r' l',Ca e (S p r) res=some v/\(Cb v=true/\v.refs=[])/\S p r=S p' r'++l'/\p'<=A.length/\r'.all V.rowB=true/\R v p' r':=⟨v,p,r,[],hr,hv,(Bw _).symm,hp,hb,hR⟩
def Afd{s:St}{m o:Nat}{z:Bool}{t:Nat}{A:List Tk}{S:Nat->List V->St}(hS:RdU s m o z t A S){p:Nat}{r:List V}(hA:A.length<=1000000){w:List UInt8}(h:A1 w (A.drop p)=true):Bt TT PT 110 [.ptr m 0 0,.str w] (S p r) (.bool true) (S (p+1) r):=by
 have:=Td (hS.get0 p r) hA h;rw[show(S p r).set m (RO z t A (p+1))=S (p+1) r from hS.set0 p (p+1) r]at this;exact this
def Afe{s:St}{m o:Nat}{z:Bool}{t:Nat}{A:List Tk}{S:Nat->List V->St}(hS:RdU s m o z t A S){p:Nat}{r:List V}(hA:A.length<=1000000)(hp:p<=A.length){w:List UInt8}(h:A1 w (A.drop p)=false):Bt TT PT 110 [.ptr m 0 0,.str w] (S p r) (.bool false) (S p r):=Te (hS.get0 p r) hA hp h
def Ala{s:St}{m o:Nat}{z:Bool}{t:Nat}{A:List Tk}{S:Nat->List V->St}(hS:RdU s m o z t A S){p:Nat}{r:List V}(hA:OkA A)(hp:p<=A.length){w:Int}{q:List Tk}(h:Ic (A.drop p)=some (w,q)):Bt TT PT 151 [.ptr m 0 0] (S p r) (.tup [iV w,.bool true]) (S (p+1) r)/\p<A.length/\A.drop (p+1)=q:=by
 obtain⟨h1,h2⟩:=(Afb (hS.get0 p r) (by have:=hA.len;omega) hp hA.num).1 w q h;rw[show(S p r).set m (RO z t A (p+1))=S (p+1) r from hS.set0 p (p+1) r]at h1;exact⟨h1,h2⟩
def Alb{s:St}{m o:Nat}{z:Bool}{t:Nat}{A:List Tk}{S:Nat->List V->St}(hS:RdU s m o z t A S){p:Nat}{r:List V}(hA:OkA A)(hp:p<=A.length)(h:Ic (A.drop p)=none):Bt TT PT 151 [.ptr m 0 0] (S p r) (.tup [iV 0,.bool false]) (S p r):=(Afb (hS.get0 p r) (by have:=hA.len;omega) hp hA.num).2 h
def Aff{d0 d1 d2 d3 d4 d5:V}(h:[d0,d1,d2,d3,d4,d5].all V.rowB=true):(d0.cellB&&(d1.cellB&&(d2.cellB&&(d3.cellB&&(d4.cellB&&d5.cellB)))))=true:=by
 simp only[Bp,Ce,Ak]at h;obtain⟨h0,h1,h2,h3,h4,h5,-⟩:=h;simp only[Gb h0,Gb h1,Gb h2,Gb h3,Gb h4,Gb h5,Ahr]
def Ang(r:List V):Prop:=∃ c0 c1 c2 c3 c4 c5:V,r=[c0,c1,c2,c3,c4,c5]/\r.all V.rowB=true
def A2a{s:St}{m o:Nat}{z:Bool}{t:Nat}{A:List Tk}{p:Nat}{k ln:Int}{nm:List UInt8}(hA:OkA A)(hT:D6 A)(hs:s[m]?=some (RO z t A p))(ho:s[o]?=some (.row [iV k,iV ln,.str nm,iV 0,iV 0,.str []] 86 0 0))(qq:m≠o)(hp:p<=A.length):
  RU2 108 s m o z t A (fun v q r=>match Xs (A.drop p) with
   | some (n,ts)=>v=.bool true/\r=[.int .i64 k,.int .i64 ln,.str nm,.int .i64 n,.int .i64 0,.str []]/\A.drop q=ts
   | none=>v=.bool false/\Ang r):=by
 refine Ays T108 hs ho qq fun S hS=>?_
 have hl:A.length<=1000000:=by have:=hA.len;omega
 have qc:=hS;have hm:=hS.low;have jy:=hS.lowo;unfold Xs;by_cases qx:A1 [91] (A.drop p)=true
 .rw[if_pos qx,<-Ek];have c1:=Afd qc (r:=[iV k,iV ln,.str nm,iV 0,iV 0,.str []]) hl qx;have qm:=Eg qx
  cases hn:Ic (A.drop (p+1)) with
  | none=>
   have c2:=Alb qc (r:=[iV k,iV ln,.str nm,iV 0,iV 0,.str []]) hA qm hn;have Zq:=Qn hS;obtain⟨-,-,-,-,qa,get,get0,set,set0,go,go0,so,so0,n0,n1,u0,u1⟩:=hS;simp only[go_sem,Zq,LZ];refine Aa c1 ?_;simp only[go_sem,Zq,LZ];refine Aa c2 ?_;simp only[go_sem,Zq,LZ];exact Po rfl ⟨rfl,rfl⟩ qm rfl ⟨rfl,_,_,_,_,_,_,rfl,rfl⟩
  | some nt=>
   obtain⟨n,ts⟩:=nt;obtain⟨c2,qn,h3⟩:=Ala qc (r:=[iV k,iV ln,.str nm,iV 0,iV 0,.str []]) hA qm hn;simp only;by_cases h0:n=0
   .have b0:(n==0)=true:=by simp[h0]
    rw[if_pos h0];have wd:IntKind.i64.wrap (((p+1+1:Nat):Int) - 1)=((p+1:Nat):Int):=by rw[B7 AA];omega
    have Zq:=Qn hS;obtain⟨-,-,-,-,qa,get,get0,set,set0,go,go0,so,so0,n0,n1,u0,u1⟩:=hS;simp only[go_sem,Zq,LZ];refine Aa c1 ?_;simp only[go_sem,Zq,LZ];refine Aa c2 ?_;simp only[go_sem,Zq,LZ,b0,wd];exact Po rfl ⟨rfl,rfl⟩ qm rfl ⟨rfl,_,_,_,_,_,_,rfl,rfl⟩
   .have b0:(n==0)=false:=by simp[h0]
    rw[if_neg h0,<-h3];unfold Eb;by_cases qy:A1 [93] (A.drop (p+1+1))=true
    .rw[if_pos qy,<-Ek];have c3:=Afd qc (r:=[iV k,iV ln,.str nm,iV n,iV 0,.str []]) hl qy;have qj:=Eg qy;have Zq:=Qn hS;obtain⟨-,-,-,-,qa,get,get0,set,set0,go,go0,so,so0,n0,n1,u0,u1⟩:=hS;simp only[go_sem,Zq,LZ];refine Aa c1 ?_;simp only[go_sem,Zq,LZ];refine Aa c2 ?_;simp only[go_sem,Zq,LZ,b0];refine Aa c3 ?_;simp only[go_sem,Zq,LZ];exact Po rfl ⟨rfl,rfl⟩ qj rfl ⟨rfl,rfl,rfl⟩
    .have qy:A1 [93] (A.drop (p+1+1))=false:=by simpa using qy
     rw[if_neg (by rw[qy];decide)];have c3:=Afe qc (r:=[iV k,iV ln,.str nm,iV n,iV 0,.str []]) hl (Ir qn) qy;have Zq:=Qn hS;obtain⟨-,-,-,-,qa,get,get0,set,set0,go,go0,so,so0,n0,n1,u0,u1⟩:=hS;simp only[go_sem,Zq,LZ];refine Aa c1 ?_;simp only[go_sem,Zq,LZ];refine Aa c2 ?_;simp only[go_sem,Zq,LZ,b0];refine Aa c3 ?_;simp only[go_sem,Zq,LZ];exact Po rfl ⟨rfl,rfl⟩ (Ir qn) rfl ⟨rfl,_,_,_,_,_,_,rfl,rfl⟩
 .have qx:A1 [91] (A.drop p)=false:=by simpa using qx
  rw[if_neg (by rw[qx];decide)];have c1:=Afe qc (r:=[iV k,iV ln,.str nm,iV 0,iV 0,.str []]) hl hp qx;have Zq:=Qn hS;obtain⟨-,-,-,-,qa,get,get0,set,set0,go,go0,so,so0,n0,n1,u0,u1⟩:=hS;simp only[go_sem,Zq,LZ];refine Aa c1 ?_;simp only[go_sem,Zq,LZ];exact Po rfl ⟨rfl,rfl⟩ hp rfl ⟨rfl,rfl,rfl⟩
def Ao9{s:St}{m o:Nat}{z:Bool}{t:Nat}{A:List Tk}{p:Nat}{k ln sz:Int}{nm:List UInt8}(hA:OkA A)(hT:D6 A)(hs:s[m]?=some (RO z t A p))(ho:s[o]?=some (.row [iV k,iV ln,.str nm,iV sz,iV 0,.str []] 86 0 0))(qq:m≠o)(hp:p<=A.length):
  RU2 109 s m o z t A (fun v q r=>match Ta (A.drop p) with
   | some (n,ts)=>v=.bool true/\r=[.int .i64 k,.int .i64 ln,.str nm,.int .i64 sz,.int .i64 n,.str []]/\A.drop q=ts
   | none=>v=.bool false/\Ang r):=by
 refine Ays T109 hs ho qq fun S hS=>?_
 have hl:A.length<=1000000:=by have:=hA.len;omega
 have qc:=hS;have hm:=hS.low;have jy:=hS.lowo;unfold Ta;by_cases qw:A1 [61] (A.drop p)=true
 .rw[if_pos qw,<-Ek];have c1:=Afd qc (r:=[iV k,iV ln,.str nm,iV sz,iV 0,.str []]) hl qw;have qm:=Eg qw;by_cases qv:A1 [45] (A.drop (p+1))=true
  .rw[if_pos qv,<-Ek];have c2:=Afd qc (r:=[iV k,iV ln,.str nm,iV sz,iV 0,.str []]) hl qv;have qn:=Eg qv
   cases hn:Ic (A.drop (p+1+1)) with
   | none=>
    have c3:=Alb qc (r:=[iV k,iV ln,.str nm,iV sz,iV 0,.str []]) hA qn hn;have Zq:=Qn hS;obtain⟨-,-,-,-,qa,get,get0,set,set0,go,go0,so,so0,n0,n1,u0,u1⟩:=hS;simp only[go_sem,Zq,LZ];refine Aa c1 ?_;simp only[go_sem,Zq,LZ];refine Aa c2 ?_;simp only[go_sem,Zq,LZ];refine Aa c3 ?_;simp only[go_sem,Zq,LZ];exact Po rfl ⟨rfl,rfl⟩ qn rfl ⟨rfl,_,_,_,_,_,_,rfl,rfl⟩
   | some nt=>
    obtain⟨n,ts⟩:=nt;obtain⟨c3,qj,h3⟩:=Ala qc (r:=[iV k,iV ln,.str nm,iV sz,iV 0,.str []]) hA qn hn;have hb:=(Adp (C:=0) (Dr hT (Acd _ _)) hn).1;have wn:IntKind.i64.wrap (0 - n) = -n:=by rw[B7 AA];omega
    simp only[Is];rw[<-h3];have Zq:=Qn hS;obtain⟨-,-,-,-,qa,get,get0,set,set0,go,go0,so,so0,n0,n1,u0,u1⟩:=hS;simp only[go_sem,Zq,LZ];refine Aa c1 ?_;simp only[go_sem,Zq,LZ];refine Aa c2 ?_;simp only[go_sem,Zq,LZ];refine Aa c3 ?_;simp only[go_sem,Zq,LZ,wn];exact Po rfl ⟨rfl,rfl⟩ qj rfl ⟨rfl,rfl,rfl⟩
  .have qv:A1 [45] (A.drop (p+1))=false:=by simpa using qv
   rw[if_neg (by rw[qv];decide)];have c2:=Afe qc (r:=[iV k,iV ln,.str nm,iV sz,iV 0,.str []]) hl qm qv
   cases hn:Ic (A.drop (p+1)) with
   | none=>
    have c3:=Alb qc (r:=[iV k,iV ln,.str nm,iV sz,iV 0,.str []]) hA qm hn;have Zq:=Qn hS;obtain⟨-,-,-,-,qa,get,get0,set,set0,go,go0,so,so0,n0,n1,u0,u1⟩:=hS;simp only[go_sem,Zq,LZ];refine Aa c1 ?_;simp only[go_sem,Zq,LZ];refine Aa c2 ?_;simp only[go_sem,Zq,LZ];refine Aa c3 ?_;simp only[go_sem,Zq,LZ];exact Po rfl ⟨rfl,rfl⟩ qm rfl ⟨rfl,_,_,_,_,_,_,rfl,rfl⟩
   | some nt=>
    obtain⟨n,ts⟩:=nt;obtain⟨c3,qj,h3⟩:=Ala qc (r:=[iV k,iV ln,.str nm,iV sz,iV 0,.str []]) hA qm hn;simp only;rw[<-h3];have Zq:=Qn hS;obtain⟨-,-,-,-,qa,get,get0,set,set0,go,go0,so,so0,n0,n1,u0,u1⟩:=hS;simp only[go_sem,Zq,LZ];refine Aa c1 ?_;simp only[go_sem,Zq,LZ];refine Aa c2 ?_;simp only[go_sem,Zq,LZ];refine Aa c3 ?_;simp only[go_sem,Zq,LZ];exact Po rfl ⟨rfl,rfl⟩ qj rfl ⟨rfl,rfl,rfl⟩
 .have qw:A1 [61] (A.drop p)=false:=by simpa using qw
  rw[if_neg (by rw[qw];decide)];have c1:=Afe qc (r:=[iV k,iV ln,.str nm,iV sz,iV 0,.str []]) hl hp qw;have Zq:=Qn hS;obtain⟨-,-,-,-,qa,get,get0,set,set0,go,go0,so,so0,n0,n1,u0,u1⟩:=hS;simp only[go_sem,Zq,LZ];refine Aa c1 ?_;simp only[go_sem,Zq,LZ];exact Po rfl ⟨rfl,rfl⟩ hp rfl ⟨rfl,rfl,rfl⟩
def Aom(w:List UInt8):Fn TT PT 67 [.str w] (iV (H9 w)):=by
 refine Bc T67 rfl ?_;by_cases a1:w=[118,97,114]
 .subst a1;have e1:(([118,97,114]:List UInt8)==[118,97,114])=true:=by decide
  simp only[go_sem,e1];exact Ae rfl rfl
 have e1:(w==[118,97,114])=false:=by simp[a1]
 by_cases a2:w=[118,111,108,97,116,105,108,101]
 .subst a2;have e2:(([118,111,108,97,116,105,108,101]:List UInt8)==[118,111,108,97,116,105,108,101])=true:=by decide
  simp only[go_sem,e1,e2];exact Ae rfl rfl
 have e2:(w==[118,111,108,97,116,105,108,101])=false:=by simp[a2]
 by_cases a3:w=[109,117,116,101,120]
 .subst a3;have e3:(([109,117,116,101,120]:List UInt8)==[109,117,116,101,120])=true:=by decide
  simp only[go_sem,e1,e2,e3];exact Ae rfl rfl
 have e3:(w==[109,117,116,101,120])=false:=by simp[a3]
 by_cases a4:w=[114,119,108,111,99,107]
 .subst a4;have e4:(([114,119,108,111,99,107]:List UInt8)==[114,119,108,111,99,107])=true:=by decide
  simp only[go_sem,e1,e2,e3,e4];exact Ae rfl rfl
 have e4:(w==[114,119,108,111,99,107])=false:=by simp[a4]
 by_cases a5:w=[99,111,110,100]
 .subst a5;have e5:(([99,111,110,100]:List UInt8)==[99,111,110,100])=true:=by decide
  simp only[go_sem,e1,e2,e3,e4,e5];exact Ae rfl rfl
 have e5:(w==[99,111,110,100])=false:=by simp[a5]
 by_cases a6:w=[102,117,116,117,114,101]
 .subst a6;have e6:(([102,117,116,117,114,101]:List UInt8)==[102,117,116,117,114,101])=true:=by decide
  simp only[go_sem,e1,e2,e3,e4,e5,e6];exact Ae rfl rfl
 have e6:(w==[102,117,116,117,114,101])=false:=by simp[a6]
 have hz:H9 w=0:=by
  unfold H9 declTab;simp only[Ahj,e1,e2,e3,e4,e5,e6];rfl
 rw[hz];simp only[go_sem,e1,e2,e3,e4,e5,e6];exact Ae rfl rfl
def PRd(A:List Tk)(o:Option (Dp × List Tk))(v:V)(p':Nat):Prop:=match o with
 | some (x,r)=>v=.tup [.agg x.row,.bool true]/\A.drop p'=r
 | none=>∃ r:List V,Ang r/\v=.tup [.agg r,.bool false]
def Alc{s:St}{m:Nat}{z:Bool}{t:Nat}{A:List Tk}{S:Nat->St}(hS:RdS s m z t A S){f p:Nat}{a b:Ob}{r0:List V}{R:V->Nat->List V->Prop}(h:RU2 f (S p++[a,b,.row r0 86 0 0]) m (s.length+2) z t A R):
  ∃ v q r',Bt TT PT f [.ptr m 0 0,.ptr (s.length+2) 0 0] (S p++[a,b,.row r0 86 0 0]) v (S q++[a,b,.row r' 86 0 0])/\q<=A.length/\R v q r':=by
 obtain⟨v,q,r',h1,h2,h3⟩:=h;rw[show(S p++[a,b,.row r0 86 0 0]).set m (RO z t A q)=S q++[a,b,.row r0 86 0 0] from hS.set p q _,hS.u2]at h1;exact⟨v,q,r',h1,h2,h3⟩
set_option maxHeartbeats 4000000 in
def A2b{s:St}{m:Nat}{z:Bool}{t:Nat}{A:List Tk}{p:Nat}(hA:OkA A)(hT:D6 A)(hs:s[m]?=some (RO z t A p))(hp:p<=A.length)(hd:Sz (A.drop p)=true):RT 68 [] s m z t A (PRd A (Vg (A.drop p))):=by
 have qm:p<A.length:=by
  rcases Bb p A.length with h | h
  .exact h
  .rw[(Lf h).1]at hd;cases hd
 refine L5 T68 rfl hs fun S hS=>?_
 have hl:A.length<=1000000:=by have:=hA.len;omega
 have qc:=hS;have hm:=hS.low;have qB:p+1<=A.length:=qm;have qh:=S0 (hS.get p [zO]) hl hp;have qd:=Ay (show p<9223372036854775807 by omega);have qe:=Aom (Ag A p).text
 have hk:1<=H9 (Ag A p).text/\H9 (Ag A p).text<=6:=by
  rw[Ms qm]at hd;simp only[Sz,Ak,bne_iff_ne]at hd;rcases Aso (Ag A p).text with h | h
  .exact absurd h hd.2
  .exact h
 rw[Ms qm,Vg];generalize H9 (Ag A p).text=k at qe hk
 cases hn:Dh (A.drop (p+1)) with
 | none=>
  have c1:=Abk qc (p:=p+1) [zO,Bn (Ag A p),.row [iV k,iV (Ag A p).line,.str [],iV 0,iV 0,.str []] 86 0 0] hl qB hn;have Zq:=Dx hS;obtain⟨-,-,qa,get,get0,set,set0,n0,n1,n2,u0,u1,u2⟩:=hS;have g1:=n1 (p+1) zO (Bn (Ag A p)) [];have g2:=n1 (p+1) zO (Bn (Ag A p)) [zO];simp only[go_sem,Zq,LZ];refine Aa qh ?_;simp only[go_sem,Zq,LZ,qd];refine Ad AD ?_;simp only[go_sem,Zq,LZ];refine Ax qe rfl ?_;simp only[go_sem,Zq,LZ];refine Be ?_;simp only[go_sem,Zq,LZ];refine Be ?_;simp only[go_sem,Zq,LZ];refine Aa c1 ?_;simp only[go_sem,Zq,LZ];exact Cf (v:=.tup [.agg _,.bool false]) (Cj (n0 _ _ _) rfl rfl rfl) (Cx rfl) qB ⟨_,⟨_,_,_,_,_,_,rfl,rfl⟩,rfl⟩
 | some nt=>
  obtain⟨nm,ts⟩:=nt;obtain⟨c1,qA,h3⟩:=Agv qc (p:=p+1) [zO,Bn (Ag A p),.row [iV k,iV (Ag A p).line,.str [],iV 0,iV 0,.str []] 86 0 0] hl qB hn;simp only;rw[<-h3];have qk:p+1+1<=A.length:=qA;have qR:k=1\/k=2\/k=5\/k=3\/k=4\/k=6:=by omega
  rcases qR with rfl | rfl | rfl | qR
  .rw[if_pos rfl];obtain⟨v2,q2,r2,d1,d2,d3⟩:=Alc qc (a:=zO) (b:=Bn (Ag A p)) (A2a (k:=1) (ln:=(Ag A p).line) (nm:=nm) hA hT (hS.get (p+1+1) _) (hS.n2 (p+1+1) _ _ _ _) AA qk)
   cases hsz:Xs (A.drop (p+1+1)) with
   | none=>
    rw[hsz]at d3;obtain⟨rfl,e0,e1,e2,e3,e4,e5,rfl,hb⟩:=d3;have Zq:=Dx hS;obtain⟨-,-,qa,get,get0,set,set0,n0,n1,n2,u0,u1,u2⟩:=hS;have g1:=n1 (p+1) zO (Bn (Ag A p)) [];have g2:=n1 (p+1) zO (Bn (Ag A p)) [zO];simp only[go_sem,Zq,LZ];refine Aa qh ?_;simp only[go_sem,Zq,LZ,qd];refine Ad AD ?_;simp only[go_sem,Zq,LZ];refine Ax qe rfl ?_;simp only[go_sem,Zq,LZ];refine Be ?_;simp only[go_sem,Zq,LZ];refine Be ?_;simp only[go_sem,Zq,LZ];refine Aa c1 ?_;simp only[go_sem,Zq,LZ,Int.reduceBEq];refine Aa d1 ?_;simp only[go_sem,Zq,LZ,Int.reduceBEq];refine Ad AD ?_;simp only[go_sem,Zq,LZ,Aff hb];refine Be ?_;simp only[go_sem,Zq,LZ];exact Cf (v:=.tup [.agg [e0,e1,e2,e3,e4,e5],.bool false]) (Cj (n0 _ _ _) rfl rfl rfl) (Cx hb) d2 ⟨_,⟨_,_,_,_,_,_,rfl,hb⟩,rfl⟩
   | some st=>
    obtain⟨qE,t1⟩:=st;rw[hsz]at d3;obtain⟨rfl,rfl,d3⟩:=d3;simp only;rw[<-d3];obtain⟨v4,q4,r4,f1,f2,f3⟩:=Alc qc (a:=zO) (b:=Bn (Ag A p)) (Ao9 (k:=1) (ln:=(Ag A p).line) (nm:=nm) (sz:=qE) hA hT (hS.get q2 _) (hS.n2 q2 _ _ _ _) AA d2)
    cases hin:Ta (A.drop q2) with
    | none=>
     rw[hin]at f3;obtain⟨rfl,e0,e1,e2,e3,e4,e5,rfl,hb⟩:=f3;have Zq:=Dx hS;obtain⟨-,-,qa,get,get0,set,set0,n0,n1,n2,u0,u1,u2⟩:=hS;have g1:=n1 (p+1) zO (Bn (Ag A p)) [];have g2:=n1 (p+1) zO (Bn (Ag A p)) [zO];simp only[go_sem,Zq,LZ];refine Aa qh ?_;simp only[go_sem,Zq,LZ,qd];refine Ad AD ?_;simp only[go_sem,Zq,LZ];refine Ax qe rfl ?_;simp only[go_sem,Zq,LZ];refine Be ?_;simp only[go_sem,Zq,LZ];refine Be ?_;simp only[go_sem,Zq,LZ];refine Aa c1 ?_;simp only[go_sem,Zq,LZ,Int.reduceBEq];refine Aa d1 ?_;simp only[go_sem,Zq,LZ,Int.reduceBEq];refine Aa f1 ?_;simp only[go_sem,Zq,LZ,Int.reduceBEq];refine Ad AD ?_;simp only[go_sem,Zq,LZ,Aff hb];refine Be ?_;simp only[go_sem,Zq,LZ];exact Cf (v:=.tup [.agg [e0,e1,e2,e3,e4,e5],.bool false]) (Cj (n0 _ _ _) rfl rfl rfl) (Cx hb) f2 ⟨_,⟨_,_,_,_,_,_,rfl,hb⟩,rfl⟩
    | some it=>
     obtain⟨i1,t2⟩:=it;rw[hin]at f3;obtain⟨rfl,rfl,f3⟩:=f3;simp only;rw[<-f3];unfold Eb;by_cases qb:A1 [59] (A.drop q4)=true
     .rw[if_pos qb,<-Ek];have cz:=Lu qc [zO,Bn (Ag A p),.row [iV 1,iV (Ag A p).line,.str nm,iV qE,iV i1,.str []] 86 0 0] hl qb;have qg:=Eg qb;have Zq:=Dx hS;obtain⟨-,-,qa,get,get0,set,set0,n0,n1,n2,u0,u1,u2⟩:=hS;have g1:=n1 (p+1) zO (Bn (Ag A p)) [];have g2:=n1 (p+1) zO (Bn (Ag A p)) [zO];simp only[go_sem,Zq,LZ];refine Aa qh ?_;simp only[go_sem,Zq,LZ,qd];refine Ad AD ?_;simp only[go_sem,Zq,LZ];refine Ax qe rfl ?_;simp only[go_sem,Zq,LZ];refine Be ?_;simp only[go_sem,Zq,LZ];refine Be ?_;simp only[go_sem,Zq,LZ];refine Aa c1 ?_;simp only[go_sem,Zq,LZ,Int.reduceBEq];refine Aa d1 ?_;simp only[go_sem,Zq,LZ,Int.reduceBEq];refine Aa f1 ?_;simp only[go_sem,Zq,LZ,Int.reduceBEq];have j1:=n2 q4 zO (Bn (Ag A p)) (.row [iV 1,iV (Ag A p).line,.str nm,iV qE,iV i1,.str []] 86 0 0) [];have j2:=n2 (q4+1) zO (Bn (Ag A p)) (.row [iV 1,iV (Ag A p).line,.str nm,iV qE,iV i1,.str []] 86 0 0) [];refine Ad AD ?_;simp only[go_sem,Zq,LZ];refine Id cz ?_;simp only[go_sem,Zq,LZ];refine Be ?_;simp only[go_sem,Zq,LZ];exact Cf (v:=.tup [.agg _,.bool true]) (Cj (n0 _ _ _) rfl rfl rfl) (Cx rfl) qg ⟨rfl,rfl⟩
     .have qb:A1 [59] (A.drop q4)=false:=by simpa using qb
      rw[if_neg (by rw[qb];decide)];have cz:=J8 qc [zO,Bn (Ag A p),.row [iV 1,iV (Ag A p).line,.str nm,iV qE,iV i1,.str []] 86 0 0] hl f2 qb;have Zq:=Dx hS;obtain⟨-,-,qa,get,get0,set,set0,n0,n1,n2,u0,u1,u2⟩:=hS;have g1:=n1 (p+1) zO (Bn (Ag A p)) [];have g2:=n1 (p+1) zO (Bn (Ag A p)) [zO];simp only[go_sem,Zq,LZ];refine Aa qh ?_;simp only[go_sem,Zq,LZ,qd];refine Ad AD ?_;simp only[go_sem,Zq,LZ];refine Ax qe rfl ?_;simp only[go_sem,Zq,LZ];refine Be ?_;simp only[go_sem,Zq,LZ];refine Be ?_;simp only[go_sem,Zq,LZ];refine Aa c1 ?_;simp only[go_sem,Zq,LZ,Int.reduceBEq];refine Aa d1 ?_;simp only[go_sem,Zq,LZ,Int.reduceBEq];refine Aa f1 ?_;simp only[go_sem,Zq,LZ,Int.reduceBEq];have j1:=n2 q4 zO (Bn (Ag A p)) (.row [iV 1,iV (Ag A p).line,.str nm,iV qE,iV i1,.str []] 86 0 0) [];refine Ad AD ?_;simp only[go_sem,Zq,LZ];refine Id cz ?_;simp only[go_sem,Zq,LZ];refine Be ?_;simp only[go_sem,Zq,LZ];exact Cf (v:=.tup [.agg _,.bool false]) (Cj (n0 _ _ _) rfl rfl rfl) (Cx rfl) f2 ⟨_,⟨_,_,_,_,_,_,rfl,rfl⟩,rfl⟩
  .rw[if_neg AP,if_pos rfl];obtain⟨v4,q4,r4,f1,f2,f3⟩:=Alc qc (a:=zO) (b:=Bn (Ag A p)) (Ao9 (k:=2) (ln:=(Ag A p).line) (nm:=nm) (sz:=0) hA hT (hS.get (p+1+1) _) (hS.n2 (p+1+1) _ _ _ _) AA qk)
   cases hin:Ta (A.drop (p+1+1)) with
   | none=>
    rw[hin]at f3;obtain⟨rfl,e0,e1,e2,e3,e4,e5,rfl,hb⟩:=f3;have Zq:=Dx hS;obtain⟨-,-,qa,get,get0,set,set0,n0,n1,n2,u0,u1,u2⟩:=hS;have g1:=n1 (p+1) zO (Bn (Ag A p)) [];have g2:=n1 (p+1) zO (Bn (Ag A p)) [zO];simp only[go_sem,Zq,LZ];refine Aa qh ?_;simp only[go_sem,Zq,LZ,qd];refine Ad AD ?_;simp only[go_sem,Zq,LZ];refine Ax qe rfl ?_;simp only[go_sem,Zq,LZ];refine Be ?_;simp only[go_sem,Zq,LZ];refine Be ?_;simp only[go_sem,Zq,LZ];refine Aa c1 ?_;simp only[go_sem,Zq,LZ,Int.reduceBEq];refine Aa f1 ?_;simp only[go_sem,Zq,LZ,Int.reduceBEq];refine Ad AD ?_;simp only[go_sem,Zq,LZ,Aff hb];refine Be ?_;simp only[go_sem,Zq,LZ];exact Cf (v:=.tup [.agg [e0,e1,e2,e3,e4,e5],.bool false]) (Cj (n0 _ _ _) rfl rfl rfl) (Cx hb) f2 ⟨_,⟨_,_,_,_,_,_,rfl,hb⟩,rfl⟩
   | some it=>
    obtain⟨i1,t2⟩:=it;rw[hin]at f3;obtain⟨rfl,rfl,f3⟩:=f3;simp only;rw[<-f3];unfold Eb;by_cases qb:A1 [59] (A.drop q4)=true
    .rw[if_pos qb,<-Ek];have cz:=Lu qc [zO,Bn (Ag A p),.row [iV 2,iV (Ag A p).line,.str nm,iV 0,iV i1,.str []] 86 0 0] hl qb;have qg:=Eg qb;have Zq:=Dx hS;obtain⟨-,-,qa,get,get0,set,set0,n0,n1,n2,u0,u1,u2⟩:=hS;have g1:=n1 (p+1) zO (Bn (Ag A p)) [];have g2:=n1 (p+1) zO (Bn (Ag A p)) [zO];simp only[go_sem,Zq,LZ];refine Aa qh ?_;simp only[go_sem,Zq,LZ,qd];refine Ad AD ?_;simp only[go_sem,Zq,LZ];refine Ax qe rfl ?_;simp only[go_sem,Zq,LZ];refine Be ?_;simp only[go_sem,Zq,LZ];refine Be ?_;simp only[go_sem,Zq,LZ];refine Aa c1 ?_;simp only[go_sem,Zq,LZ,Int.reduceBEq];refine Aa f1 ?_;simp only[go_sem,Zq,LZ,Int.reduceBEq];have j1:=n2 q4 zO (Bn (Ag A p)) (.row [iV 2,iV (Ag A p).line,.str nm,iV 0,iV i1,.str []] 86 0 0) [];have j2:=n2 (q4+1) zO (Bn (Ag A p)) (.row [iV 2,iV (Ag A p).line,.str nm,iV 0,iV i1,.str []] 86 0 0) [];refine Ad AD ?_;simp only[go_sem,Zq,LZ];refine Id cz ?_;simp only[go_sem,Zq,LZ];refine Be ?_;simp only[go_sem,Zq,LZ];exact Cf (v:=.tup [.agg _,.bool true]) (Cj (n0 _ _ _) rfl rfl rfl) (Cx rfl) qg ⟨rfl,rfl⟩
    .have qb:A1 [59] (A.drop q4)=false:=by simpa using qb
     rw[if_neg (by rw[qb];decide)];have cz:=J8 qc [zO,Bn (Ag A p),.row [iV 2,iV (Ag A p).line,.str nm,iV 0,iV i1,.str []] 86 0 0] hl f2 qb;have Zq:=Dx hS;obtain⟨-,-,qa,get,get0,set,set0,n0,n1,n2,u0,u1,u2⟩:=hS;have g1:=n1 (p+1) zO (Bn (Ag A p)) [];have g2:=n1 (p+1) zO (Bn (Ag A p)) [zO];simp only[go_sem,Zq,LZ];refine Aa qh ?_;simp only[go_sem,Zq,LZ,qd];refine Ad AD ?_;simp only[go_sem,Zq,LZ];refine Ax qe rfl ?_;simp only[go_sem,Zq,LZ];refine Be ?_;simp only[go_sem,Zq,LZ];refine Be ?_;simp only[go_sem,Zq,LZ];refine Aa c1 ?_;simp only[go_sem,Zq,LZ,Int.reduceBEq];refine Aa f1 ?_;simp only[go_sem,Zq,LZ,Int.reduceBEq];have j1:=n2 q4 zO (Bn (Ag A p)) (.row [iV 2,iV (Ag A p).line,.str nm,iV 0,iV i1,.str []] 86 0 0) [];refine Ad AD ?_;simp only[go_sem,Zq,LZ];refine Id cz ?_;simp only[go_sem,Zq,LZ];refine Be ?_;simp only[go_sem,Zq,LZ];exact Cf (v:=.tup [.agg _,.bool false]) (Cj (n0 _ _ _) rfl rfl rfl) (Cx rfl) f2 ⟨_,⟨_,_,_,_,_,_,rfl,rfl⟩,rfl⟩
  .rw[if_neg AP,if_neg AP,if_pos rfl]
   cases hn2:Dh (A.drop (p+1+1)) with
   | none=>
    have f1:=Abk qc (p:=p+1+1) [zO,Bn (Ag A p),.row [iV 5,iV (Ag A p).line,.str nm,iV 0,iV 0,.str []] 86 0 0] hl qk hn2;have Zq:=Dx hS;obtain⟨-,-,qa,get,get0,set,set0,n0,n1,n2,u0,u1,u2⟩:=hS;have g1:=n1 (p+1) zO (Bn (Ag A p)) [];have g2:=n1 (p+1) zO (Bn (Ag A p)) [zO];simp only[go_sem,Zq,LZ];refine Aa qh ?_;simp only[go_sem,Zq,LZ,qd];refine Ad AD ?_;simp only[go_sem,Zq,LZ];refine Ax qe rfl ?_;simp only[go_sem,Zq,LZ];refine Be ?_;simp only[go_sem,Zq,LZ];refine Be ?_;simp only[go_sem,Zq,LZ];refine Aa c1 ?_;simp only[go_sem,Zq,LZ,Int.reduceBEq];refine Aa f1 ?_;simp only[go_sem,Zq,LZ,Int.reduceBEq];refine Ad AD ?_;simp only[go_sem,Zq,LZ];refine Be ?_;simp only[go_sem,Zq,LZ];exact Cf (v:=.tup [.agg _,.bool false]) (Cj (n0 _ _ _) rfl rfl rfl) (Cx rfl) qk ⟨_,⟨_,_,_,_,_,_,rfl,rfl⟩,rfl⟩
   | some nt2=>
    obtain⟨on,t2⟩:=nt2;obtain⟨f1,qj,f3⟩:=Agv qc (p:=p+1+1) [zO,Bn (Ag A p),.row [iV 5,iV (Ag A p).line,.str nm,iV 0,iV 0,.str []] 86 0 0] hl qk hn2;have qI:p+1+1+1<=A.length:=qj;simp only;rw[<-f3];unfold Eb;by_cases qb:A1 [59] (A.drop (p+1+1+1))=true
    .rw[if_pos qb,<-Ek];have cz:=Lu qc [zO,Bn (Ag A p),.row [iV 5,iV (Ag A p).line,.str nm,iV 0,iV 0,.str on] 86 0 0] hl qb;have qg:=Eg qb;have Zq:=Dx hS;obtain⟨-,-,qa,get,get0,set,set0,n0,n1,n2,u0,u1,u2⟩:=hS;have g1:=n1 (p+1) zO (Bn (Ag A p)) [];have g2:=n1 (p+1) zO (Bn (Ag A p)) [zO];simp only[go_sem,Zq,LZ];refine Aa qh ?_;simp only[go_sem,Zq,LZ,qd];refine Ad AD ?_;simp only[go_sem,Zq,LZ];refine Ax qe rfl ?_;simp only[go_sem,Zq,LZ];refine Be ?_;simp only[go_sem,Zq,LZ];refine Be ?_;simp only[go_sem,Zq,LZ];refine Aa c1 ?_;simp only[go_sem,Zq,LZ,Int.reduceBEq];refine Aa f1 ?_;simp only[go_sem,Zq,LZ,Int.reduceBEq];have j1:=n2 (p+1+1+1) zO (Bn (Ag A p)) (.row [iV 5,iV (Ag A p).line,.str nm,iV 0,iV 0,.str on] 86 0 0) [];have j2:=n2 ((p+1+1+1)+1) zO (Bn (Ag A p)) (.row [iV 5,iV (Ag A p).line,.str nm,iV 0,iV 0,.str on] 86 0 0) [];refine Ad AD ?_;simp only[go_sem,Zq,LZ];refine Id cz ?_;simp only[go_sem,Zq,LZ];refine Be ?_;simp only[go_sem,Zq,LZ];exact Cf (v:=.tup [.agg _,.bool true]) (Cj (n0 _ _ _) rfl rfl rfl) (Cx rfl) qg ⟨rfl,rfl⟩
    .have qb:A1 [59] (A.drop (p+1+1+1))=false:=by simpa using qb
     rw[if_neg (by rw[qb];decide)];have cz:=J8 qc [zO,Bn (Ag A p),.row [iV 5,iV (Ag A p).line,.str nm,iV 0,iV 0,.str on] 86 0 0] hl qI qb;have Zq:=Dx hS;obtain⟨-,-,qa,get,get0,set,set0,n0,n1,n2,u0,u1,u2⟩:=hS;have g1:=n1 (p+1) zO (Bn (Ag A p)) [];have g2:=n1 (p+1) zO (Bn (Ag A p)) [zO];simp only[go_sem,Zq,LZ];refine Aa qh ?_;simp only[go_sem,Zq,LZ,qd];refine Ad AD ?_;simp only[go_sem,Zq,LZ];refine Ax qe rfl ?_;simp only[go_sem,Zq,LZ];refine Be ?_;simp only[go_sem,Zq,LZ];refine Be ?_;simp only[go_sem,Zq,LZ];refine Aa c1 ?_;simp only[go_sem,Zq,LZ,Int.reduceBEq];refine Aa f1 ?_;simp only[go_sem,Zq,LZ,Int.reduceBEq];have j1:=n2 (p+1+1+1) zO (Bn (Ag A p)) (.row [iV 5,iV (Ag A p).line,.str nm,iV 0,iV 0,.str on] 86 0 0) [];refine Ad AD ?_;simp only[go_sem,Zq,LZ];refine Id cz ?_;simp only[go_sem,Zq,LZ];refine Be ?_;simp only[go_sem,Zq,LZ];exact Cf (v:=.tup [.agg _,.bool false]) (Cj (n0 _ _ _) rfl rfl rfl) (Cx rfl) qI ⟨_,⟨_,_,_,_,_,_,rfl,rfl⟩,rfl⟩
  .rcases qR with rfl | rfl | rfl
   .rw[if_neg AP,if_neg AP,if_neg AP];unfold Eb;by_cases qb:A1 [59] (A.drop (p+1+1))=true
    .rw[if_pos qb,<-Ek];have cz:=Lu qc [zO,Bn (Ag A p),.row [iV 3,iV (Ag A p).line,.str nm,iV 0,iV 0,.str []] 86 0 0] hl qb;have qg:=Eg qb;have Zq:=Dx hS;obtain⟨-,-,qa,get,get0,set,set0,n0,n1,n2,u0,u1,u2⟩:=hS;have g1:=n1 (p+1) zO (Bn (Ag A p)) [];have g2:=n1 (p+1) zO (Bn (Ag A p)) [zO];simp only[go_sem,Zq,LZ];refine Aa qh ?_;simp only[go_sem,Zq,LZ,qd];refine Ad AD ?_;simp only[go_sem,Zq,LZ];refine Ax qe rfl ?_;simp only[go_sem,Zq,LZ];refine Be ?_;simp only[go_sem,Zq,LZ];refine Be ?_;simp only[go_sem,Zq,LZ];refine Aa c1 ?_;simp only[go_sem,Zq,LZ,Int.reduceBEq];have j1:=n2 (p+1+1) zO (Bn (Ag A p)) (.row [iV 3,iV (Ag A p).line,.str nm,iV 0,iV 0,.str []] 86 0 0) [];have j2:=n2 ((p+1+1)+1) zO (Bn (Ag A p)) (.row [iV 3,iV (Ag A p).line,.str nm,iV 0,iV 0,.str []] 86 0 0) [];refine Ad AD ?_;simp only[go_sem,Zq,LZ];refine Id cz ?_;simp only[go_sem,Zq,LZ];refine Be ?_;simp only[go_sem,Zq,LZ];exact Cf (v:=.tup [.agg _,.bool true]) (Cj (n0 _ _ _) rfl rfl rfl) (Cx rfl) qg ⟨rfl,rfl⟩
    .have qb:A1 [59] (A.drop (p+1+1))=false:=by simpa using qb
     rw[if_neg (by rw[qb];decide)];have cz:=J8 qc [zO,Bn (Ag A p),.row [iV 3,iV (Ag A p).line,.str nm,iV 0,iV 0,.str []] 86 0 0] hl qk qb;have Zq:=Dx hS;obtain⟨-,-,qa,get,get0,set,set0,n0,n1,n2,u0,u1,u2⟩:=hS;have g1:=n1 (p+1) zO (Bn (Ag A p)) [];have g2:=n1 (p+1) zO (Bn (Ag A p)) [zO];simp only[go_sem,Zq,LZ];refine Aa qh ?_;simp only[go_sem,Zq,LZ,qd];refine Ad AD ?_;simp only[go_sem,Zq,LZ];refine Ax qe rfl ?_;simp only[go_sem,Zq,LZ];refine Be ?_;simp only[go_sem,Zq,LZ];refine Be ?_;simp only[go_sem,Zq,LZ];refine Aa c1 ?_;simp only[go_sem,Zq,LZ,Int.reduceBEq];have j1:=n2 (p+1+1) zO (Bn (Ag A p)) (.row [iV 3,iV (Ag A p).line,.str nm,iV 0,iV 0,.str []] 86 0 0) [];refine Ad AD ?_;simp only[go_sem,Zq,LZ];refine Id cz ?_;simp only[go_sem,Zq,LZ];refine Be ?_;simp only[go_sem,Zq,LZ];exact Cf (v:=.tup [.agg _,.bool false]) (Cj (n0 _ _ _) rfl rfl rfl) (Cx rfl) qk ⟨_,⟨_,_,_,_,_,_,rfl,rfl⟩,rfl⟩
   .rw[if_neg AP,if_neg AP,if_neg AP];unfold Eb;by_cases qb:A1 [59] (A.drop (p+1+1))=true
    .rw[if_pos qb,<-Ek];have cz:=Lu qc [zO,Bn (Ag A p),.row [iV 4,iV (Ag A p).line,.str nm,iV 0,iV 0,.str []] 86 0 0] hl qb;have qg:=Eg qb;have Zq:=Dx hS;obtain⟨-,-,qa,get,get0,set,set0,n0,n1,n2,u0,u1,u2⟩:=hS;have g1:=n1 (p+1) zO (Bn (Ag A p)) [];have g2:=n1 (p+1) zO (Bn (Ag A p)) [zO];simp only[go_sem,Zq,LZ];refine Aa qh ?_;simp only[go_sem,Zq,LZ,qd];refine Ad AD ?_;simp only[go_sem,Zq,LZ];refine Ax qe rfl ?_;simp only[go_sem,Zq,LZ];refine Be ?_;simp only[go_sem,Zq,LZ];refine Be ?_;simp only[go_sem,Zq,LZ];refine Aa c1 ?_;simp only[go_sem,Zq,LZ,Int.reduceBEq];have j1:=n2 (p+1+1) zO (Bn (Ag A p)) (.row [iV 4,iV (Ag A p).line,.str nm,iV 0,iV 0,.str []] 86 0 0) [];have j2:=n2 ((p+1+1)+1) zO (Bn (Ag A p)) (.row [iV 4,iV (Ag A p).line,.str nm,iV 0,iV 0,.str []] 86 0 0) [];refine Ad AD ?_;simp only[go_sem,Zq,LZ];refine Id cz ?_;simp only[go_sem,Zq,LZ];refine Be ?_;simp only[go_sem,Zq,LZ];exact Cf (v:=.tup [.agg _,.bool true]) (Cj (n0 _ _ _) rfl rfl rfl) (Cx rfl) qg ⟨rfl,rfl⟩
    .have qb:A1 [59] (A.drop (p+1+1))=false:=by simpa using qb
     rw[if_neg (by rw[qb];decide)];have cz:=J8 qc [zO,Bn (Ag A p),.row [iV 4,iV (Ag A p).line,.str nm,iV 0,iV 0,.str []] 86 0 0] hl qk qb;have Zq:=Dx hS;obtain⟨-,-,qa,get,get0,set,set0,n0,n1,n2,u0,u1,u2⟩:=hS;have g1:=n1 (p+1) zO (Bn (Ag A p)) [];have g2:=n1 (p+1) zO (Bn (Ag A p)) [zO];simp only[go_sem,Zq,LZ];refine Aa qh ?_;simp only[go_sem,Zq,LZ,qd];refine Ad AD ?_;simp only[go_sem,Zq,LZ];refine Ax qe rfl ?_;simp only[go_sem,Zq,LZ];refine Be ?_;simp only[go_sem,Zq,LZ];refine Be ?_;simp only[go_sem,Zq,LZ];refine Aa c1 ?_;simp only[go_sem,Zq,LZ,Int.reduceBEq];have j1:=n2 (p+1+1) zO (Bn (Ag A p)) (.row [iV 4,iV (Ag A p).line,.str nm,iV 0,iV 0,.str []] 86 0 0) [];refine Ad AD ?_;simp only[go_sem,Zq,LZ];refine Id cz ?_;simp only[go_sem,Zq,LZ];refine Be ?_;simp only[go_sem,Zq,LZ];exact Cf (v:=.tup [.agg _,.bool false]) (Cj (n0 _ _ _) rfl rfl rfl) (Cx rfl) qk ⟨_,⟨_,_,_,_,_,_,rfl,rfl⟩,rfl⟩
   .rw[if_neg AP,if_neg AP,if_neg AP];unfold Eb;by_cases qb:A1 [59] (A.drop (p+1+1))=true
    .rw[if_pos qb,<-Ek];have cz:=Lu qc [zO,Bn (Ag A p),.row [iV 6,iV (Ag A p).line,.str nm,iV 0,iV 0,.str []] 86 0 0] hl qb;have qg:=Eg qb;have Zq:=Dx hS;obtain⟨-,-,qa,get,get0,set,set0,n0,n1,n2,u0,u1,u2⟩:=hS;have g1:=n1 (p+1) zO (Bn (Ag A p)) [];have g2:=n1 (p+1) zO (Bn (Ag A p)) [zO];simp only[go_sem,Zq,LZ];refine Aa qh ?_;simp only[go_sem,Zq,LZ,qd];refine Ad AD ?_;simp only[go_sem,Zq,LZ];refine Ax qe rfl ?_;simp only[go_sem,Zq,LZ];refine Be ?_;simp only[go_sem,Zq,LZ];refine Be ?_;simp only[go_sem,Zq,LZ];refine Aa c1 ?_;simp only[go_sem,Zq,LZ,Int.reduceBEq];have j1:=n2 (p+1+1) zO (Bn (Ag A p)) (.row [iV 6,iV (Ag A p).line,.str nm,iV 0,iV 0,.str []] 86 0 0) [];have j2:=n2 ((p+1+1)+1) zO (Bn (Ag A p)) (.row [iV 6,iV (Ag A p).line,.str nm,iV 0,iV 0,.str []] 86 0 0) [];refine Ad AD ?_;simp only[go_sem,Zq,LZ];refine Id cz ?_;simp only[go_sem,Zq,LZ];refine Be ?_;simp only[go_sem,Zq,LZ];exact Cf (v:=.tup [.agg _,.bool true]) (Cj (n0 _ _ _) rfl rfl rfl) (Cx rfl) qg ⟨rfl,rfl⟩
    .have qb:A1 [59] (A.drop (p+1+1))=false:=by simpa using qb
     rw[if_neg (by rw[qb];decide)];have cz:=J8 qc [zO,Bn (Ag A p),.row [iV 6,iV (Ag A p).line,.str nm,iV 0,iV 0,.str []] 86 0 0] hl qk qb;have Zq:=Dx hS;obtain⟨-,-,qa,get,get0,set,set0,n0,n1,n2,u0,u1,u2⟩:=hS;have g1:=n1 (p+1) zO (Bn (Ag A p)) [];have g2:=n1 (p+1) zO (Bn (Ag A p)) [zO];simp only[go_sem,Zq,LZ];refine Aa qh ?_;simp only[go_sem,Zq,LZ,qd];refine Ad AD ?_;simp only[go_sem,Zq,LZ];refine Ax qe rfl ?_;simp only[go_sem,Zq,LZ];refine Be ?_;simp only[go_sem,Zq,LZ];refine Be ?_;simp only[go_sem,Zq,LZ];refine Aa c1 ?_;simp only[go_sem,Zq,LZ,Int.reduceBEq];have j1:=n2 (p+1+1) zO (Bn (Ag A p)) (.row [iV 6,iV (Ag A p).line,.str nm,iV 0,iV 0,.str []] 86 0 0) [];refine Ad AD ?_;simp only[go_sem,Zq,LZ];refine Id cz ?_;simp only[go_sem,Zq,LZ];refine Be ?_;simp only[go_sem,Zq,LZ];exact Cf (v:=.tup [.agg _,.bool false]) (Cj (n0 _ _ _) rfl rfl rfl) (Cx rfl) qk ⟨_,⟨_,_,_,_,_,_,rfl,rfl⟩,rfl⟩
def Ah7:∀ (js:List Nat) (σ:St) (n:Nat),(∀ i∈js,n<=i)->∀ j,j<n->(σ.freeze js)[j]?=σ[j]?
 | [],_,_,_,_,_=>rfl
 | i::js,σ,n,h,j,hj=>by
  have hi:=h i Cr;simp only[St.freeze]
  split
  .rw[Ah7 js _ n (fun k hk=>h k (Db _ hk)) j hj,Bk AA]
  .exact Ah7 js _ n (fun k hk=>h k (Db _ hk)) j hj
def Aw5{z:Bool}{t:Nat}{A:List Tk}{f m q0:Nat}{res:List AR}{thr:Bool}{body:AC}{s:St}{R:V->Nat->Prop}(hT:TT f=some ⟨1,res,thr,body,none⟩)(hs:s[m]?=some (RO z t A q0))
  (h:∀ S,RdS s m z t A S->W TT PT [.c body] (C6 0 [.ptr m 0 0]) (S q0) (Hd fun e' σ1=>∃ vs qK q,Ca e' σ1 res=some (.tup vs)/\vs.all Gc=true/\OVs σ1 vs qK/\(∀ j∈Ah vs,s.length<=j)/\Ah qK=[]/\RW s σ1 m z t A q/\q<=A.length/\R (.tup qK) q)):RT f [] s m z t A R:=by
 have h:=h _ (Avc z t A (Al.1 hs).1);rw[Ot hs]at h;obtain⟨e',σ1,hE,vs,qK,q,hr,jz,jA,je,jD,hw,hq,hR⟩:=h;have jv:=Ah7 (Ah vs) σ1 s.length je;have qM:RW s (σ1.freeze (Ah vs)) m z t A q:=Sq hw (by rw[Qv];exact hw.1) jv;refine⟨_,q,?_,hq,hR⟩;rw[<-Avd qM];refine Apx hT rfl rfl ⟨e',σ1,hE,.tup vs,Ah vs,hr,jz,?_,?_,Ave qM,rfl⟩
 .exact congrArg (Option.map V.tup) (Sl jA fun j hj=>hj)
 .show Ef s.length [] (Ah qK)=true;rw[jD];rfl
def Azx{s:St}{m:Nat}{z:Bool}{t:Nat}{A:List Tk}{S:Nat->St}(hS:RdS s m z t A S){p0:Nat}(hs:s[m]?=some (RO z t A p0))(q:Nat)(l:St):RW s (S q++l) m z t A q:=by
 rw[hS.eq];exact Aei (Q9 (Ake hs) q)
def Q1{s σ:St}{m:Nat}{z:Bool}{t:Nat}{A:List Tk}{q j:Nat}{x:Ob}(h:RW s σ m z t A q)(hj:s.length<=j):RW s (σ.set j x) m z t A q:=by
 have:=h.2.2.2;exact Sq h (by rw[Jc];exact h.1) fun i hi=>Bk AA
def PRt(A:List Tk)(o:Option (Tp × List Tk))(v:V)(p':Nat):Prop:=match o with
 | some (x,r)=>v=.tup [.agg x.row,.bool true]/\A.drop p'=r
 | none=>∃ d0 d1 d2 d3:V,[d0,d1,d2,d3].all V.rowB=true/\v=.tup [.agg [d0,d1,d2,d3],.bool false]
def Air(L:List (List UInt8)):(SL true 0 (L.map Mw)).rowB=true:=by
 unfold SL
 split<;>rfl
def Avf(z:Bool)(t:Nat)(xs:List (List V)):(SL z t xs).refs=[]:=by unfold SL;split<;>rfl
def Z3{σ:St}{e lo:Nat}{u:V}{L:List (List UInt8)}{nm:List UInt8}{ln:Int}{w:V}{b:Bool}(hg:GW σ 1 e lo u (L.map Mw))(hw:w.rowB=true):OVs σ [.agg [.str nm,iV ln,u,w],.bool b] [.agg [.str nm,iV ln,SL true 0 (L.map Mw),w],.bool b]:=
 .cons (Sw (.cons (Em rfl) (.cons (Em rfl) (.cons (I1 hg AA (by intro r hr;obtain⟨x,-,rfl⟩:=Cs.1 hr;rfl) (by intro r hr;obtain⟨x,-,rfl⟩:=Cs.1 hr;rfl)) (.cons (Em hw) .nil))))) (.cons (H2 rfl) .nil)
def Aao{σ:St}{e lo:Nat}{u:V}{xs:List (List V)}{nm:List UInt8}{ln:Int}{w:V}{b:Bool}(hg:GW σ 1 e lo u xs)(hw:w.rowB=true):∀ j∈Ah [.agg [.str nm,iV ln,u,w],.bool b],lo<=j:=by
 have jG:=Pj hw;intro j hj;simp only[Ah,V.refs,jG,Bw,Ci]at hj;rcases hg with⟨rfl,-⟩ | ⟨-,i,g,rfl,-,je⟩
 .cases hj
 grind[V.refs]
def Aap{σ:St}{e lo:Nat}{u:V}{xs:List (List V)}{nm:List UInt8}{ln:Int}{w:V}{b:Bool}(hg:GW σ 1 e lo u xs)(hw:w.rowB=true):[V.agg [.str nm,iV ln,u,w],.bool b].all Gc=true:=by
 grind[Bx,Gb,V.cellB,Gc]
def Aaq{L:List (List UInt8)}{nm:List UInt8}{ln:Int}{w:V}{b:Bool}(hw:w.rowB=true):Ah [.agg [.str nm,iV ln,SL true 0 (L.map Mw),w],.bool b]=[]:=by
 simp_all [Ah,V.refs,Avf,Pj]
set_option maxHeartbeats 4000000 in
def A4h{n:Nat}{s:St}{m:Nat}{z:Bool}{t:Nat}{A:List Tk}{p:Nat}(hA:OkA A)(hT:D6 A)(hs:s[m]?=some (RO z t A p))(hp:p<A.length)(hf:10*(A.length - p)+2<=n):RT 70 [] s m z t A (PRt A (Vo n (A.drop p))):=by
 have hl:A.length<=1000000:=by have:=hA.len;omega
 have hm:=(Al.1 hs).1;refine Aw5 T70 hs fun S hS=>?_
 have qc:=hS;have qo:=Azx qc hs;have qh:=S0 (qc.get p [.row [.str [],iV 0,.nils,.nils] 90 0 0]) hl (Qt hp);have qd:=Ay (show p<9223372036854775807 by omega);have qB:p+1<=A.length:=hp;rw[Ms hp,Vo];generalize jk:Ag A p=tk at qh
 cases hn:Dh (A.drop (p+1)) with
 | none=>
  have c1:=Abk qc (p:=p+1) [.row [.str [],iV 0,.nils,.nils] 90 0 0,.row [.str [],iV tk.line,.nils,.nils] 90 0 0] hl qB hn;have Zq:=Dx hS;obtain⟨-,-,qa,get,get0,set,set0,n0,n1,n2,u0,u1,u2⟩:=hS;simp only[go_sem,Zq,LZ];refine Aa qh ?_;simp only[go_sem,Zq,LZ,qd];refine Aa c1 ?_;simp only[go_sem,Zq,LZ];exact⟨_,_,_,Cj (n0 _ _ _) rfl rfl rfl,rfl,.cons (H2 rfl) (.cons (H2 rfl) .nil),(fun j hj=>by cases hj),rfl,qo _ _,qB,_,_,_,_,rfl,rfl⟩
 | some nt=>
  obtain⟨nm,ts⟩:=nt;obtain⟨c1,qA,h3⟩:=Agv qc (p:=p+1) [.row [.str [],iV 0,.nils,.nils] 90 0 0,.row [.str [],iV tk.line,.nils,.nils] 90 0 0] hl qB hn;simp only;rw[<-h3];unfold Eb;have qk:p+1+1<=A.length:=qA;by_cases qC:A1 [40] (A.drop (p+1+1))=true
  case neg=>
   have qC:A1 [40] (A.drop (p+1+1))=false:=by simpa using qC
   rw[if_neg AA];have c2:=J8 qc (p:=p+1+1) [.row [.str [],iV 0,.nils,.nils] 90 0 0,.row [.str nm,iV tk.line,.nils,.nils] 90 0 0] hl qk qC;have Zq:=Dx hS;obtain⟨-,-,qa,get,get0,set,set0,n0,n1,n2,u0,u1,u2⟩:=hS;simp only[go_sem,Zq,LZ];refine Aa qh ?_;simp only[go_sem,Zq,LZ,qd];refine Aa c1 ?_;simp only[go_sem,Zq,LZ];refine Aa c2 ?_;simp only[go_sem,Zq,LZ];exact⟨_,_,_,Cj (n0 _ _ _) rfl rfl rfl,rfl,.cons (H2 rfl) (.cons (H2 rfl) .nil),(fun j hj=>by cases hj),rfl,qo _ _,qk,_,_,_,_,rfl,rfl⟩
  rw[if_pos qC];simp only;rw[<-Ek];have c2:=Lu qc (p:=p+1+1) [.row [.str [],iV 0,.nils,.nils] 90 0 0,.row [.str nm,iV tk.line,.nils,.nils] 90 0 0] hl qC;have qI:p+1+1+1<=A.length:=Eg qC;unfold Amb;by_cases qD:A1 [41] (A.drop (p+1+1+1))=true
  .rw[if_pos qD];simp only;rw[<-Ek];have c3:=Lu qc (p:=p+1+1+1) [.row [.str [],iV 0,.nils,.nils] 90 0 0,.row [.str nm,iV tk.line,.nils,.nils] 90 0 0] hl qD;have jB:p+1+1+1+1<=A.length:=Eg qD;obtain⟨v,q,c4,hq,h4⟩:=Pt qc (p:=p+1+1+1+1) (l:=[.row [.str [],iV 0,.nils,.nils] 90 0 0,.row [.str nm,iV tk.line,.nils,.nils] 90 0 0]) fun hs=>(Ast n).2 _ m z t A _ hA hT hs jB AA
   have Zq:=Dx hS;obtain⟨-,-,qa,get,get0,set,set0,n0,n1,n2,u0,u1,u2⟩:=hS;simp only[go_sem,Zq,LZ];refine Aa qh ?_;simp only[go_sem,Zq,LZ,qd];refine Aa c1 ?_;simp only[go_sem,Zq,LZ];refine Aa c2 ?_;simp only[go_sem,Zq,LZ];refine Aa c3 ?_;simp only[go_sem,Zq,LZ];unfold PRb at h4
   cases hb:Fz n (A.drop (p+1+1+1+1)) with
   | none=>
    rw[hb]at h4;subst h4;refine Aa c4 ?_;simp only[go_sem,Zq,LZ];exact⟨_,_,_,Cj (n0 _ _ _) rfl rfl rfl,rfl,.cons (H2 rfl) (.cons (H2 rfl) .nil),(fun j hj=>by cases hj),rfl,qo _ _,hq,_,_,_,_,rfl,rfl⟩
   | some bt=>
    obtain⟨b,jI⟩:=bt;rw[hb]at h4;obtain⟨rfl,h4⟩:=h4;have qp:=Hp b;refine Aa c4 ?_;simp only[go_sem,Zq,LZ];exact⟨_,[.agg [.str nm,iV tk.line,.nils,SL true 0 (b.map Sp.row)],.bool true],_,Cj (n0 _ _ _) rfl rfl rfl,Aap (σ:=[]) (e:=0) (lo:=0) De qp,Z3 (L:=[]) (e:=0) (lo:=0) De qp,Aao (σ:=[]) (e:=0) (lo:=s.length) (xs:=[]) De qp,Aaq (L:=[]) qp,qo _ _,hq,rfl,h4⟩
  .have qD:A1 [41] (A.drop (p+1+1+1))=false:=by simpa using qD
   rw[if_neg AA];have c3:=J8 qc (p:=p+1+1+1) [.row [.str [],iV 0,.nils,.nils] 90 0 0,.row [.str nm,iV tk.line,.nils,.nils] 90 0 0] hl qI qD;have Zq:=Dx hS;obtain⟨-,-,qa,get,get0,set,set0,n0,n1,n2,u0,u1,u2⟩:=hS;simp only[go_sem,Zq,LZ];refine Aa qh ?_;simp only[go_sem,Zq,LZ,qd];refine Aa c1 ?_;simp only[go_sem,Zq,LZ];refine Aa c2 ?_;simp only[go_sem,Zq,LZ];refine Aa c3 ?_;simp only[go_sem,Zq,LZ];refine Bh (α:=Nat × Nat × V × List (List UInt8) × St) (fun a=>a.1) (fun a=>[(0,.ptr m 0 0),(2,.ptr s.length 0 0),(4,.ptr (s.length+1) 0 0)]) (fun a=>a.2.2.2.2) (fun a=>a.1<=n/\a.2.1<=A.length/\A.length - a.2.1<a.1/\RW s a.2.2.2.2 m z t A a.2.1/\a.2.2.2.2[s.length]?=some (.row [.str [],iV 0,.nils,.nils] 90 0 0)/\a.2.2.2.2[s.length+1]?=some (.row [.str nm,iV tk.line,a.2.2.1,.nils] 90 0 0)/\GW a.2.2.2.2 1 9 (s.length+2) a.2.2.1 (a.2.2.2.1.map Mw)/\Ny n (A.drop (p+1+1+1))=(Ny a.1 (A.drop a.2.1)).map (fun y=>(a.2.2.2.1++y.1,y.2))/\a.2.2.2.1.length<=a.2.1/\s.length+2<=a.2.2.2.2.length/\p+1<=a.2.1) ?_ (n,p+1+1+1,.nils,[],S (p+1+1+1)++[.row [.str [],iV 0,.nils,.nils] 90 0 0,.row [.str nm,iV tk.line,.nils,.nils] 90 0 0]) ⟨An _,qI,by grind,qo _ _,n0 _ _ _,n1 _ _ _ _,De,by simp_all,by simp,by grind,by grind⟩;rintro⟨k,q,u,L,σ⟩ ⟨jw,hq,jt,hw,qZ,qW,hg,qf,jp,qs,jC⟩ ih;simp only at jw hq jt hw qZ qW hg qf jp qs jC ih;obtain⟨k,rfl⟩:∃ j,k=j+1:=⟨k - 1,by omega⟩;have jE:∀ r∈L.map Mw,r.length=1:=by intro r hr;obtain⟨x,-,rfl⟩:=Cs.1 hr;rfl
   have ju:=Bx hg;have qN:∀ (τ:St) (ob:Ob),s.length+2<=τ.length->(τ.set (s.length+1) ob)[s.length+1]?=some ob:=fun τ ob h=>Bv AA
   have qL:∀ (τ:St) (ob:Ob),s.length+2<=τ.length->(τ.set s.length ob)[s.length]?=some ob:=fun τ ob h=>Bv AA
   refine Az Bl3 ?_
   cases hnq:Dh (A.drop q) with
   | none=>
    have d1:=(Xu hw.2.2.1 hl hq).2 hnq;have ho:Ny (k+1) (A.drop q)=none:=by rw[Ny,hnq]
    rw[ho]at qf;rw[qf];simp only[go_sem];refine Aa d1 ?_;simp only[go_sem,qW,qZ,ju];exact⟨_,[.agg [.str nm,iV tk.line,SL true 0 ((L).map Mw),.nils],.bool false],q,Cj (qL _ _ (qs)) rfl rfl rfl,Aap hg rfl,Z3 (Dv hg AA) rfl,(fun j hj=>by have:=Aao hg rfl j hj;omega),Aaq rfl,Q1 hw (An _),hq,_,_,_,_,by simp only[Bp,Ce,Air];rfl,rfl⟩
   | some wr=>
    obtain⟨w,r⟩:=wr;obtain⟨d1,qT,jh⟩:=(Xu hw.2.2.1 hl hq).1 w r hnq
    have ho:Ny (k+1) (A.drop q)=if A1 [44] r then(match Ny k r.tail with
      | none=>none
      | some (l,r)=>some (w::l,r)) else(Eb [41] r).map fun ts=>([w],ts):=by
     rw[Ny,hnq];rfl
    rw[ho]at qf;have jl:=Q9 hw (q+1);have ja:GW (σ.set m (RO z t A (q+1))) 1 9 (s.length+2) u (L.map Mw):=Dv hg AA;have jx:(σ.set m (RO z t A (q+1))).length=σ.length:=Jc;have jm:(σ.set m (RO z t A (q+1)))[s.length]?=some (.row [.str [],iV 0,.nils,.nils] 90 0 0):=by rw[Bk AA];exact qZ
    have qJ:(σ.set m (RO z t A (q+1)))[s.length+1]?=some (.row [.str nm,iV tk.line,u,.nils] 90 0 0):=by rw[Bk AA];exact qW
    generalize σ.set m (RO z t A (q+1))=τ1 at d1 jl ja jx jm qJ;obtain⟨u',τ2,ha,jb,jJ,-,qQ⟩:=G9 (bytes:=16) (y:=.lst 1 [[.str w]]) (ys:=[[.str w]]) ja AA rfl AA jE AE AJ;have qM:RW s τ2 m z t A (q+1):=Sq jl AA fun j hj=>qQ j AA
    have qi:=Bx jb;obtain⟨qP,qO⟩:=Ah5 qi;obtain⟨τ3,e3⟩:∃ τ:St,τ=τ2.set (s.length+1) (.row [.str nm,iV tk.line,u',.nils] 90 0 0):=⟨_,rfl⟩;have qu:RW s τ3 m z t A (q+1):=by rw[e3];exact Sq qM (by grind) fun j hj=>Bk AA
    have qF:GW τ3 1 9 (s.length+2) u' ((L++[w]).map Mw):=by rw[e3,Dl];exact Dv jb AA
    have jd:s.length+2<=τ3.length:=by rw[e3,Jc];omega
    have jn:τ3[s.length]?=some (.row [.str [],iV 0,.nils,.nils] 90 0 0):=by rw[e3,Bk AA,qQ _ AA];exact jm
    have jj:τ3[s.length+1]?=some (.row [.str nm,iV tk.line,u',.nils] 90 0 0):=by rw[e3];exact qN _ _ AA
    have qV:τ2[s.length+1]?=some (.row [.str nm,iV tk.line,u,.nils] 90 0 0):=by rw[qQ _ AA];exact qJ
    have qU:q+1<=A.length:=qT;by_cases qr:A1 [44] r=true
    .rw[if_pos qr]at qf;rw[<-jh]at qr qf;have d2:=Td qu.2.2.1 hl qr;have qH:=Eg qr;rw[e3]at d2;simp only[go_sem];refine Aa d1 ?_;simp only[go_sem,qJ,ha,qV,qi,qP,qO];refine Aa d2 ?_;rw[<-e3];simp only[go_sem];refine Am (ih (k,q+1+1,u',L++[w],τ3.set m (RO z t A (q+1+1))) AE ⟨by omega,qH,by grind,Q9 qu _,by grind[List.getElem?_set_ne],by grind[List.getElem?_set_ne],Dv qF AA,?_,by simp;omega,by grind,by grind⟩) rfl;simp only;rw[qf,<-Ek]
     cases Ny k (A.drop (q+1+1)) with
     | none=>rfl
     | some y=>simp
    .have qr:A1 [44] r=false:=by simpa using qr
     rw[if_neg AA]at qf;rw[<-jh]at qr qf;have d2:=Te qu.2.2.1 hl qU qr;rw[e3]at d2;unfold Eb at qf;by_cases ql:A1 [41] (A.drop (q+1))=true
     .rw[if_pos ql]at qf;simp only[Is]at qf;rw[qf];simp only;rw[<-Ek];have d3:=Td qu.2.2.1 hl ql;have qG:=Eg ql;have jF:=Q9 qu (q+1+1);obtain⟨v,q5,d4,jg,h5⟩:=(Ast n).2 (τ3.set m (RO z t A (q+1+1))) m z t A (q+1+1) hA hT jF.2.2.1 qG AA;rw[Qs]at d4;have qY:=Q9 qu q5;have qz:GW (τ3.set m (RO z t A q5)) 1 9 (s.length+2) u' ((L++[w]).map Mw):=Dv qF AA;have qS:s.length+2<=(τ3.set m (RO z t A q5)).length:=by rw[Jc];exact jd
      have jH:(τ3.set m (RO z t A q5))[s.length]?=some (.row [.str [],iV 0,.nils,.nils] 90 0 0):=by rw[Bk AA];exact jn
      have qX:(τ3.set m (RO z t A q5))[s.length+1]?=some (.row [.str nm,iV tk.line,u',.nils] 90 0 0):=by rw[Bk AA];exact jj
      generalize τ3.set m (RO z t A q5)=τ5 at d4 qY qz qS jH qX;have jo:∀ ob:Ob,(τ5.set (s.length+1) ob)[s.length]?=some (.row [.str [],iV 0,.nils,.nils] 90 0 0):=fun ob=>by grind
      rw[e3]at d3;unfold PRb at h5;simp only[go_sem];refine Aa d1 ?_;simp only[go_sem,qJ,ha,qV,qi,qP,qO];refine Aa d2 ?_;simp only[go_sem];refine Aa d3 ?_;rw[<-e3];simp only[go_sem]
      cases hb:Fz n (A.drop (q+1+1)) with
      | none=>
       rw[hb]at h5;subst h5;refine Aa d4 ?_;simp only[go_sem,qX,qN _ _ qS,jo,qi];exact⟨_,[.agg [.str nm,iV tk.line,SL true 0 ((L++[w]).map Mw),.nils],.bool false],q5,Cj (qL _ _ (by grind)) rfl rfl rfl,Aap qz rfl,Z3 (Dv (Dv qz AA) AA) rfl,(fun j hj=>by have:=Aao qz rfl j hj;omega),Aaq rfl,Q1 (Q1 qY AA) (An _),jg,_,_,_,_,by simp only[Bp,Ce,Air];rfl,rfl⟩
      | some bt=>
       obtain⟨b,jI⟩:=bt;rw[hb]at h5;obtain⟨rfl,h5⟩:=h5;have qp:=Hp b;have jq:=Gb qp;refine Aa d4 ?_;simp only[go_sem,qX,qN _ _ qS,jo,qi,jq];exact⟨_,[.agg [.str nm,iV tk.line,SL true 0 ((L++[w]).map Mw),SL true 0 (b.map Sp.row)],.bool true],q5,Cj (qL _ _ (by grind)) rfl rfl rfl,Aap qz qp,Z3 (Dv (Dv qz AA) AA) qp,(fun j hj=>by have:=Aao qz qp j hj;omega),Aaq qp,Q1 (Q1 qY AA) (An _),jg,rfl,h5⟩
     .have ql:A1 [41] (A.drop (q+1))=false:=by simpa using ql
      rw[if_neg AA]at qf;simp only[Option.map_none]at qf;rw[qf];have d3:=Te qu.2.2.1 hl qU ql;rw[e3]at d3;simp only[go_sem];refine Aa d1 ?_;simp only[go_sem,qJ,ha,qV,qi,qP,qO];refine Aa d2 ?_;simp only[go_sem];refine Aa d3 ?_;rw[<-e3];simp only[go_sem,jj,jn,qi];exact⟨_,[.agg [.str nm,iV tk.line,SL true 0 ((L++[w]).map Mw),.nils],.bool false],(q+1),Cj (qL _ _ (jd)) rfl rfl rfl,Aap qF rfl,Z3 (Dv qF AA) rfl,(fun j hj=>by have:=Aao qF rfl j hj;omega),Aaq rfl,Q1 qu (An _),qU,_,_,_,_,by simp only[Bp,Ce,Air];rfl,rfl⟩
