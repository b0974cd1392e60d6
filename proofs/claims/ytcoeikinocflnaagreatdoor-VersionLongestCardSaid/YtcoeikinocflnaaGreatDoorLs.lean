/- Walks: the parser's declarations. -/
import Derived.Test.YtcoeikinocflnaaGreatDoorLr
set_option linter.all false
namespace Go.Proofs.YtcoeikinocflnaaGreatDoor.KM
open Go
structure RdU (s:St) (m o:Nat) (z:Bool) (t:Nat) (A:List Tk) (S:Nat->List V->St):Prop where
 low:m<s.length
 lowo:o<s.length
 ne:m≠o
 eq:∀ p r,S p r=(s.set m (RO z t A p)).set o (.row r 87 0 0)
 len:∀ p r,(S p r).length=s.length
 get:∀ (p:Nat) (r:List V) (l:St),(S p r++l)[m]?=some (.row [SL z t (A.map Tk.row),.int .i64 (p:Int)] 81 0 0)
 get0:∀ (p:Nat) (r:List V),(S p r)[m]?=some (.row [SL z t (A.map Tk.row),.int .i64 (p:Int)] 81 0 0)
 set:∀ (p q:Nat) (r:List V) (l:St),(S p r++l).set m (.row [SL z t (A.map Tk.row),.int .i64 (q:Int)] 81 0 0)=S q r++l
 set0:∀ (p q:Nat) (r:List V),(S p r).set m (.row [SL z t (A.map Tk.row),.int .i64 (q:Int)] 81 0 0)=S q r
 go:∀ (p:Nat) (r:List V) (l:St),(S p r++l)[o]?=some (.row r 87 0 0)
 go0:∀ (p:Nat) (r:List V),(S p r)[o]?=some (.row r 87 0 0)
 so:∀ (p:Nat) (r r':List V) (l:St),(S p r++l).set o (.row r' 87 0 0)=S p r'++l
 so0:∀ (p:Nat) (r r':List V),(S p r).set o (.row r' 87 0 0)=S p r'
 n0:∀ (p:Nat) (r:List V) (a:Ob) (l:St),(S p r++a::l)[s.length]?=some a
 n1:∀ (p:Nat) (r:List V) (a b:Ob) (l:St),(S p r++a::b::l)[s.length+1]?=some b
 u0:∀ (p:Nat) (r:List V) (a x:Ob) (l:St),(S p r++a::l).set s.length x=S p r++x::l
 u1:∀ (p:Nat) (r:List V) (a b x:Ob) (l:St),(S p r++a::b::l).set (s.length+1) x=S p r++a::x::l
def Lj{s:St}{m o:Nat}{z:Bool}{t:Nat}{A:List Tk}{S:Nat->List V->St}(h:RdU s m o z t A S):=And.intro h.len (And.intro h.get (And.intro h.get0 (And.intro h.set (And.intro h.set0 (And.intro h.go (And.intro h.go0 (And.intro h.so (And.intro h.so0 (And.intro h.n0 (And.intro h.n1 (And.intro h.u0 (h.u1))))))))))))
theorem Auk{s:St}{m o:Nat}(z:Bool)(t:Nat)(A:List Tk)(hm:m<s.length)(ho:o<s.length)(hne:m≠o):RdU s m o z t A (fun p r=>(s.set m (RO z t A p)).set o (.row r 87 0 0)):=by
 have hl:∀ p r,((s.set m (RO z t A p)).set o (.row r 87 0 0)).length=s.length:=fun p r=>by simp
 have hg:∀ (p:Nat) (r:List V),((s.set m (RO z t A p)).set o (.row r 87 0 0))[m]?=some (RO z t A p):=fun p r=>by
  rw[B5 (Ne.symm hne),Cw hm]
 have hgo:∀ (p:Nat) (r:List V),((s.set m (RO z t A p)).set o (.row r 87 0 0))[o]?=some (.row r 87 0 0):=fun p r=>Cw (by simpa using ho)
 have hs:∀ p q r,((s.set m (RO z t A p)).set o (.row r 87 0 0)).set m (RO z t A q)=(s.set m (RO z t A q)).set o (.row r 87 0 0):=fun p q r=>by
  rw[List.set_comm _ _ (Ne.symm hne),Oq]
 have hso:∀ p r r',((s.set m (RO z t A p)).set o (.row r 87 0 0)).set o (.row r' 87 0 0)=(s.set m (RO z t A p)).set o (.row r' 87 0 0):=fun p r r'=>by rw[Oq]
 refine⟨hm,ho,hne,fun _ _=>rfl,hl,fun p r l=>Dn (hg p r),fun p r=>hg p r,fun p q r l=>?_,fun p q r=>hs p q r,fun p r l=>Dn (hgo p r),fun p r=>hgo p r,fun p r r' l=>?_,fun p r r'=>hso p r r',fun p r a l=>?_,fun p r a b l=>?_,fun p r a x l=>?_,fun p r a b x l=>?_⟩
 ·rw[Vj _ _ (by simpa using hm)]
  exact congrArg (·++l) (hs p q r)
 ·rw[Vj _ _ (by simpa using ho)]
  exact congrArg (·++l) (hso p r r')
 ·rw[By (by simp)]
  simp
 ·rw[By (by simp)]
  simp
 ·rw[Hh _ _ (by simp)]
  simp
 ·rw[Hh _ _ (by simp)]
  simp
def Yp(f:Nat)(s:St)(m o:Nat)(z:Bool)(t:Nat)(A:List Tk)(R:V->Nat->List V->Prop):Prop:=∃ v p' r',Bk TT PT f [.ptr m 0 0,.ptr o 0 0] s v ((s.set m (RO z t A p')).set o (.row r' 87 0 0))/\p'<=A.length/\R v p' r'
theorem Akw{z:Bool}{t:Nat}{A:List Tk}{f m o q:Nat}{res:List AR}{thr:Bool}{body:AC}{s:St}{r0:List V}{R:V->Nat->List V->Prop}(hT:TT f=some ⟨2,res,thr,body,none⟩)(hs:s[m]?=some (RO z t A q))(ho:s[o]?=some (.row r0 87 0 0))(hne:m≠o)
  (h:∀ S,RdU s m o z t A S->W TT PT [.c body] (Df 0 [.ptr m 0 0,.ptr o 0 0]) (S q r0) (Hd fun e' σ1=>∃ v p' r' l,B2 e' σ1 res=some v/\(Cs v=true/\v.refs=[])/\σ1=S p' r'++l/\p'<=A.length/\r'.all V.rowB=true/\R v p' r')):Yp f s m o z t A R:=by
 have hm:=(Au.1 hs).1
 have hol:=(Au.1 ho).1
 have h:=h _ (Auk z t A hm hol hne)
 rw[Ahk hs ho]at h
 obtain⟨e',σ1,hE,v,p',r',l,hr,⟨h1,h2⟩,rfl,h3,h5,h4⟩:=h
 have htk:((s.set m (RO z t A p')).set o (.row r' 87 0 0)++l).take s.length=(s.set m (RO z t A p')).set o (.row r' 87 0 0):=by rw[List.take_append_of_le_length (by simp),Of (by simp)]
 refine⟨v,p',r',?_,h3,h4⟩
 have:=Ev.fn hT rfl rfl hE hr h1 (by rw[h2];rfl) (fun i ob hi hob=>by
  rw[B8 (by simpa using hi)]at hob
  by_cases hb:o=i
  ·subst hb
   rw[Cw (by simpa using hol)]at hob
   cases hob
   exact .inr (by simp only[Ob.refs];rw[Jk h5];rfl)
  ·rw[B5 hb]at hob
   by_cases hb:m=i
   ·subst hb
    rw[Cw hm]at hob
    cases hob
    exact .inr (by rw[Xb];rfl)
   ·rw[B5 hb]at hob
    exact .inl hob)
 rw[htk]at this
 exact⟨_,hT,rfl,this⟩
theorem Ky{S:Nat->List V->St}{A:List Tk}{R:V->Nat->List V->Prop}{e:Env}{res:List AR}{v:V}{p:Nat}{r:List V}(hr:B2 e (S p r) res=some v)(hv:Cs v=true/\v.refs=[])(hp:p<=A.length)(hb:r.all V.rowB=true)(hR:R v p r):
  ∃ v p' r' l',B2 e (S p r) res=some v/\(Cs v=true/\v.refs=[])/\S p r=S p' r'++l'/\p'<=A.length/\r'.all V.rowB=true/\R v p' r':=⟨v,p,r,[],hr,hv,(Cx _).symm,hp,hb,hR⟩
theorem Xt{s:St}{m o:Nat}{z:Bool}{t:Nat}{A:List Tk}{S:Nat->List V->St}(hS:RdU s m o z t A S){p:Nat}{r:List V}(hA:A.length<=1000000){w:List UInt8}(h:Ai w (A.drop p)=true):Bk TT PT 122 [.ptr m 0 0,.str w] (S p r) (.bool true) (S (p+1) r):=by
 have:=Nq (hS.get0 p r) hA h
 rw[show(S p r).set m (RO z t A (p+1))=S (p+1) r from hS.set0 p (p+1) r]at this
 exact this
theorem Xu{s:St}{m o:Nat}{z:Bool}{t:Nat}{A:List Tk}{S:Nat->List V->St}(hS:RdU s m o z t A S){p:Nat}{r:List V}(hA:A.length<=1000000)(hp:p<=A.length){w:List UInt8}(h:Ai w (A.drop p)=false):Bk TT PT 122 [.ptr m 0 0,.str w] (S p r) (.bool false) (S p r):=Nr (hS.get0 p r) hA hp h
theorem Abs{s:St}{m o:Nat}{z:Bool}{t:Nat}{A:List Tk}{S:Nat->List V->St}(hS:RdU s m o z t A S){p:Nat}{r:List V}(hA:OkA A)(hp:p<=A.length){w:Int}{q:List Tk}(h:E0 (A.drop p)=some (w,q)):Bk TT PT 168 [.ptr m 0 0] (S p r) (.tup [.int .i64 w,.bool true]) (S (p+1) r)/\p<A.length/\A.drop (p+1)=q:=by
 obtain⟨h1,h2⟩:=(Xs (hS.get0 p r) (by have:=hA.len;omega) hp hA.num).1 w q h
 rw[show(S p r).set m (RO z t A (p+1))=S (p+1) r from hS.set0 p (p+1) r]at h1
 exact⟨h1,h2⟩
theorem Abt{s:St}{m o:Nat}{z:Bool}{t:Nat}{A:List Tk}{S:Nat->List V->St}(hS:RdU s m o z t A S){p:Nat}{r:List V}(hA:OkA A)(hp:p<=A.length)(h:E0 (A.drop p)=none):Bk TT PT 168 [.ptr m 0 0] (S p r) (.tup [.int .i64 0,.bool false]) (S p r):=(Xs (hS.get0 p r) (by have:=hA.len;omega) hp hA.num).2 h
theorem Xv{d0 d1 d2 d3 d4 d5:V}(h:[d0,d1,d2,d3,d4,d5].all V.rowB=true):(d0.cellB&&(d1.cellB&&(d2.cellB&&(d3.cellB&&(d4.cellB&&d5.cellB)))))=true:=by
 simp only[Am,Av,Ae]at h
 obtain⟨h0,h1,h2,h3,h4,h5,-⟩:=h
 simp only[Eb h0,Eb h1,Eb h2,Eb h3,Eb h4,Eb h5,Vv]
def Adf(r:List V):Prop:=∃ c0 c1 c2 c3 c4 c5:V,r=[c0,c1,c2,c3,c4,c5]/\r.all V.rowB=true
theorem Amu{s:St}{m o:Nat}{z:Bool}{t:Nat}{A:List Tk}{p:Nat}{k ln:Int}{nm:List UInt8}(hA:OkA A)(hT:C0 A)(hs:s[m]?=some (RO z t A p))(ho:s[o]?=some (.row [.int .i64 k,.int .i64 ln,.str nm,.int .i64 0,.int .i64 0,.str []] 87 0 0))(hne:m≠o)(hp:p<=A.length):
  Yp 120 s m o z t A (fun v q r=>match Ni (A.drop p) with
   | some (n,ts)=>v=.bool true/\r=[.int .i64 k,.int .i64 ln,.str nm,.int .i64 n,.int .i64 0,.str []]/\A.drop q=ts
   | none=>v=.bool false/\Adf r):=by
 refine Akw T120 hs ho hne fun S hS=>?_
 have hl:A.length<=1000000:=by have:=hA.len;omega
 have hS':=hS
 have hm:=hS.low
 have hmo:=hS.lowo
 unfold Ni
 by_cases h91:Ai [91] (A.drop p)=true
 ·rw[if_pos h91,<-Dd]
  have c1:=Xt hS' (r:=[.int .i64 k,.int .i64 ln,.str nm,.int .i64 0,.int .i64 0,.str []]) hl h91
  have hlt:=C8 h91
  cases hn:E0 (A.drop (p+1)) with
  | none=>
   have c2:=Abt hS' (r:=[.int .i64 k,.int .i64 ln,.str nm,.int .i64 0,.int .i64 0,.str []]) hA hlt hn
   have Zq:=Lj hS
   obtain⟨-,-,-,-,hlen,get,get0,set,set0,go,go0,so,so0,n0,n1,u0,u1⟩:=hS
   simp only[go_sem,Zq,LZ]
   refine Ac c1 ?_
   simp only[go_sem,Zq,LZ]
   refine Ac c2 ?_
   simp only[go_sem,Zq,LZ]
   exact Ky rfl ⟨rfl,rfl⟩ hlt rfl ⟨rfl,_,_,_,_,_,_,rfl,rfl⟩
  | some nt=>
   obtain⟨n,ts⟩:=nt
   obtain⟨c2,hlt2,h3⟩:=Abs hS' (r:=[.int .i64 k,.int .i64 ln,.str nm,.int .i64 0,.int .i64 0,.str []]) hA hlt hn
   simp only
   by_cases h0:n=0
   ·have b0:(n==0)=true:=by simp[h0]
    rw[if_pos h0]
    have wd:IntKind.i64.wrap (((p+1+1:Nat):Int) - 1)=((p+1:Nat):Int):=by rw[Ed (by omega)];omega
    have Zq:=Lj hS
    obtain⟨-,-,-,-,hlen,get,get0,set,set0,go,go0,so,so0,n0,n1,u0,u1⟩:=hS
    simp only[go_sem,Zq,LZ]
    refine Ac c1 ?_
    simp only[go_sem,Zq,LZ]
    refine Ac c2 ?_
    simp only[go_sem,Zq,LZ,b0,wd]
    exact Ky rfl ⟨rfl,rfl⟩ hlt rfl ⟨rfl,_,_,_,_,_,_,rfl,rfl⟩
   ·have b0:(n==0)=false:=by simp[h0]
    rw[if_neg h0,<-h3]
    unfold Co
    by_cases h93:Ai [93] (A.drop (p+1+1))=true
    ·rw[if_pos h93,<-Dd]
     have c3:=Xt hS' (r:=[.int .i64 k,.int .i64 ln,.str nm,.int .i64 n,.int .i64 0,.str []]) hl h93
     have hlt3:=C8 h93
     have Zq:=Lj hS
     obtain⟨-,-,-,-,hlen,get,get0,set,set0,go,go0,so,so0,n0,n1,u0,u1⟩:=hS
     simp only[go_sem,Zq,LZ]
     refine Ac c1 ?_
     simp only[go_sem,Zq,LZ]
     refine Ac c2 ?_
     simp only[go_sem,Zq,LZ,b0]
     refine Ac c3 ?_
     simp only[go_sem,Zq,LZ]
     exact Ky rfl ⟨rfl,rfl⟩ hlt3 rfl ⟨rfl,rfl,rfl⟩
    ·have h93:Ai [93] (A.drop (p+1+1))=false:=by simpa using h93
     rw[if_neg (by rw[h93];decide)]
     have c3:=Xu hS' (r:=[.int .i64 k,.int .i64 ln,.str nm,.int .i64 n,.int .i64 0,.str []]) hl (Fu hlt2) h93
     have Zq:=Lj hS
     obtain⟨-,-,-,-,hlen,get,get0,set,set0,go,go0,so,so0,n0,n1,u0,u1⟩:=hS
     simp only[go_sem,Zq,LZ]
     refine Ac c1 ?_
     simp only[go_sem,Zq,LZ]
     refine Ac c2 ?_
     simp only[go_sem,Zq,LZ,b0]
     refine Ac c3 ?_
     simp only[go_sem,Zq,LZ]
     exact Ky rfl ⟨rfl,rfl⟩ (Fu hlt2) rfl ⟨rfl,_,_,_,_,_,_,rfl,rfl⟩
 ·have h91:Ai [91] (A.drop p)=false:=by simpa using h91
  rw[if_neg (by rw[h91];decide)]
  have c1:=Xu hS' (r:=[.int .i64 k,.int .i64 ln,.str nm,.int .i64 0,.int .i64 0,.str []]) hl hp h91
  have Zq:=Lj hS
  obtain⟨-,-,-,-,hlen,get,get0,set,set0,go,go0,so,so0,n0,n1,u0,u1⟩:=hS
  simp only[go_sem,Zq,LZ]
  refine Ac c1 ?_
  simp only[go_sem,Zq,LZ]
  exact Ky rfl ⟨rfl,rfl⟩ hp rfl ⟨rfl,rfl,rfl⟩
theorem Aey{s:St}{m o:Nat}{z:Bool}{t:Nat}{A:List Tk}{p:Nat}{k ln sz:Int}{nm:List UInt8}(hA:OkA A)(hT:C0 A)(hs:s[m]?=some (RO z t A p))(ho:s[o]?=some (.row [.int .i64 k,.int .i64 ln,.str nm,.int .i64 sz,.int .i64 0,.str []] 87 0 0))(hne:m≠o)(hp:p<=A.length):
  Yp 121 s m o z t A (fun v q r=>match La (A.drop p) with
   | some (n,ts)=>v=.bool true/\r=[.int .i64 k,.int .i64 ln,.str nm,.int .i64 sz,.int .i64 n,.str []]/\A.drop q=ts
   | none=>v=.bool false/\Adf r):=by
 refine Akw T121 hs ho hne fun S hS=>?_
 have hl:A.length<=1000000:=by have:=hA.len;omega
 have hS':=hS
 have hm:=hS.low
 have hmo:=hS.lowo
 unfold La
 by_cases h61:Ai [61] (A.drop p)=true
 ·rw[if_pos h61,<-Dd]
  have c1:=Xt hS' (r:=[.int .i64 k,.int .i64 ln,.str nm,.int .i64 sz,.int .i64 0,.str []]) hl h61
  have hlt:=C8 h61
  by_cases h45:Ai [45] (A.drop (p+1))=true
  ·rw[if_pos h45,<-Dd]
   have c2:=Xt hS' (r:=[.int .i64 k,.int .i64 ln,.str nm,.int .i64 sz,.int .i64 0,.str []]) hl h45
   have hlt2:=C8 h45
   cases hn:E0 (A.drop (p+1+1)) with
   | none=>
    have c3:=Abt hS' (r:=[.int .i64 k,.int .i64 ln,.str nm,.int .i64 sz,.int .i64 0,.str []]) hA hlt2 hn
    have Zq:=Lj hS
    obtain⟨-,-,-,-,hlen,get,get0,set,set0,go,go0,so,so0,n0,n1,u0,u1⟩:=hS
    simp only[go_sem,Zq,LZ]
    refine Ac c1 ?_
    simp only[go_sem,Zq,LZ]
    refine Ac c2 ?_
    simp only[go_sem,Zq,LZ]
    refine Ac c3 ?_
    simp only[go_sem,Zq,LZ]
    exact Ky rfl ⟨rfl,rfl⟩ hlt2 rfl ⟨rfl,_,_,_,_,_,_,rfl,rfl⟩
   | some nt=>
    obtain⟨n,ts⟩:=nt
    obtain⟨c3,hlt3,h3⟩:=Abs hS' (r:=[.int .i64 k,.int .i64 ln,.str nm,.int .i64 sz,.int .i64 0,.str []]) hA hlt2 hn
    have hb:=(Wx (C:=0) (B9 hT (Sj _ _)) hn).1
    have wn:IntKind.i64.wrap (0 - n) = -n:=by rw[Ed (by omega)];omega
    simp only[Et]
    rw[<-h3]
    have Zq:=Lj hS
    obtain⟨-,-,-,-,hlen,get,get0,set,set0,go,go0,so,so0,n0,n1,u0,u1⟩:=hS
    simp only[go_sem,Zq,LZ]
    refine Ac c1 ?_
    simp only[go_sem,Zq,LZ]
    refine Ac c2 ?_
    simp only[go_sem,Zq,LZ]
    refine Ac c3 ?_
    simp only[go_sem,Zq,LZ,wn]
    exact Ky rfl ⟨rfl,rfl⟩ hlt3 rfl ⟨rfl,rfl,rfl⟩
  ·have h45:Ai [45] (A.drop (p+1))=false:=by simpa using h45
   rw[if_neg (by rw[h45];decide)]
   have c2:=Xu hS' (r:=[.int .i64 k,.int .i64 ln,.str nm,.int .i64 sz,.int .i64 0,.str []]) hl hlt h45
   cases hn:E0 (A.drop (p+1)) with
   | none=>
    have c3:=Abt hS' (r:=[.int .i64 k,.int .i64 ln,.str nm,.int .i64 sz,.int .i64 0,.str []]) hA hlt hn
    have Zq:=Lj hS
    obtain⟨-,-,-,-,hlen,get,get0,set,set0,go,go0,so,so0,n0,n1,u0,u1⟩:=hS
    simp only[go_sem,Zq,LZ]
    refine Ac c1 ?_
    simp only[go_sem,Zq,LZ]
    refine Ac c2 ?_
    simp only[go_sem,Zq,LZ]
    refine Ac c3 ?_
    simp only[go_sem,Zq,LZ]
    exact Ky rfl ⟨rfl,rfl⟩ hlt rfl ⟨rfl,_,_,_,_,_,_,rfl,rfl⟩
   | some nt=>
    obtain⟨n,ts⟩:=nt
    obtain⟨c3,hlt3,h3⟩:=Abs hS' (r:=[.int .i64 k,.int .i64 ln,.str nm,.int .i64 sz,.int .i64 0,.str []]) hA hlt hn
    simp only
    rw[<-h3]
    have Zq:=Lj hS
    obtain⟨-,-,-,-,hlen,get,get0,set,set0,go,go0,so,so0,n0,n1,u0,u1⟩:=hS
    simp only[go_sem,Zq,LZ]
    refine Ac c1 ?_
    simp only[go_sem,Zq,LZ]
    refine Ac c2 ?_
    simp only[go_sem,Zq,LZ]
    refine Ac c3 ?_
    simp only[go_sem,Zq,LZ]
    exact Ky rfl ⟨rfl,rfl⟩ hlt3 rfl ⟨rfl,rfl,rfl⟩
 ·have h61:Ai [61] (A.drop p)=false:=by simpa using h61
  rw[if_neg (by rw[h61];decide)]
  have c1:=Xu hS' (r:=[.int .i64 k,.int .i64 ln,.str nm,.int .i64 sz,.int .i64 0,.str []]) hl hp h61
  have Zq:=Lj hS
  obtain⟨-,-,-,-,hlen,get,get0,set,set0,go,go0,so,so0,n0,n1,u0,u1⟩:=hS
  simp only[go_sem,Zq,LZ]
  refine Ac c1 ?_
  simp only[go_sem,Zq,LZ]
  exact Ky rfl ⟨rfl,rfl⟩ hp rfl ⟨rfl,rfl,rfl⟩
theorem Aee(w:List UInt8):Fn TT PT 85 [.str w] (.int .i64 (Ez w)):=by
 refine Ch T85 rfl ?_
 by_cases a1:w=[118,97,114]
 ·subst a1
  have e1:(([118,97,114]:List UInt8)==[118,97,114])=true:=by decide
  simp only[go_sem,e1]
  exact B0 rfl rfl
 have e1:(w==[118,97,114])=false:=by simp[a1]
 by_cases a2:w=[118,111,108,97,116,105,108,101]
 ·subst a2
  have e2:(([118,111,108,97,116,105,108,101]:List UInt8)==[118,111,108,97,116,105,108,101])=true:=by decide
  simp only[go_sem,e1,e2]
  exact B0 rfl rfl
 have e2:(w==[118,111,108,97,116,105,108,101])=false:=by simp[a2]
 by_cases a3:w=[109,117,116,101,120]
 ·subst a3
  have e3:(([109,117,116,101,120]:List UInt8)==[109,117,116,101,120])=true:=by decide
  simp only[go_sem,e1,e2,e3]
  exact B0 rfl rfl
 have e3:(w==[109,117,116,101,120])=false:=by simp[a3]
 by_cases a4:w=[114,119,108,111,99,107]
 ·subst a4
  have e4:(([114,119,108,111,99,107]:List UInt8)==[114,119,108,111,99,107])=true:=by decide
  simp only[go_sem,e1,e2,e3,e4]
  exact B0 rfl rfl
 have e4:(w==[114,119,108,111,99,107])=false:=by simp[a4]
 by_cases a5:w=[99,111,110,100]
 ·subst a5
  have e5:(([99,111,110,100]:List UInt8)==[99,111,110,100])=true:=by decide
  simp only[go_sem,e1,e2,e3,e4,e5]
  exact B0 rfl rfl
 have e5:(w==[99,111,110,100])=false:=by simp[a5]
 by_cases a6:w=[102,117,116,117,114,101]
 ·subst a6
  have e6:(([102,117,116,117,114,101]:List UInt8)==[102,117,116,117,114,101])=true:=by decide
  simp only[go_sem,e1,e2,e3,e4,e5,e6]
  exact B0 rfl rfl
 have e6:(w==[102,117,116,117,114,101])=false:=by simp[a6]
 have hz:Ez w=0:=by
  unfold Ez declTab
  simp only[Vq,e1,e2,e3,e4,e5,e6]
  rfl
 rw[hz]
 simp only[go_sem,e1,e2,e3,e4,e5,e6]
 exact B0 rfl rfl
def PRd(A:List Tk)(o:Option (Dp × List Tk))(v:V)(p':Nat):Prop:=match o with
 | some (x,r)=>v=.tup [.agg x.row,.bool true]/\A.drop p'=r
 | none=>∃ r:List V,Adf r/\v=.tup [.agg r,.bool false]
theorem Abu{s:St}{m:Nat}{z:Bool}{t:Nat}{A:List Tk}{S:Nat->St}(hS:RdS s m z t A S){f p:Nat}{a b:Ob}{r0:List V}{R:V->Nat->List V->Prop}(h:Yp f (S p++[a,b,.row r0 87 0 0]) m (s.length+2) z t A R):
  ∃ v q r',Bk TT PT f [.ptr m 0 0,.ptr (s.length+2) 0 0] (S p++[a,b,.row r0 87 0 0]) v (S q++[a,b,.row r' 87 0 0])/\q<=A.length/\R v q r':=by
 obtain⟨v,q,r',h1,h2,h3⟩:=h
 rw[show(S p++[a,b,.row r0 87 0 0]).set m (RO z t A q)=S q++[a,b,.row r0 87 0 0] from hS.set p q _,hS.u2]at h1
 exact⟨v,q,r',h1,h2,h3⟩
set_option maxHeartbeats 4000000 in
theorem Amv{s:St}{m:Nat}{z:Bool}{t:Nat}{A:List Tk}{p:Nat}(hA:OkA A)(hT:C0 A)(hs:s[m]?=some (RO z t A p))(hp:p<=A.length)(hd:I4 (A.drop p)=true):RT 86 [] s m z t A (PRd A (L7 (A.drop p))):=by
 have hlt:p<A.length:=by
  rcases B3 p A.length with h | h
  ·exact h
  ·rw[(Hs h).1]at hd;cases hd
 refine H8 T86 rfl hs fun S hS=>?_
 have hl:A.length<=1000000:=by have:=hA.len;omega
 have hS':=hS
 have hm:=hS.low
 have hp1:p+1<=A.length:=hlt
 have hnx:=Na (hS.get p [.row [.int .i64 0,.int .i64 0,.str [],.int .i64 0,.int .i64 0,.str []] 87 0 0]) hl hp
 have hinq:=Bq (show p<9223372036854775807 by omega)
 have hdec:=Aee (Aa A p).text
 have hk:1<=Ez (Aa A p).text/\Ez (Aa A p).text<=6:=by
  rw[Ii hlt]at hd
  simp only[I4,Ae,bne_iff_ne]at hd
  rcases Ahh (Aa A p).text with h | h
  ·exact absurd h hd.2
  ·exact h
 rw[Ii hlt,L7]
 generalize Ez (Aa A p).text=k at hdec hk
 cases hn:B4 (A.drop (p+1)) with
 | none=>
  have c1:=U4 hS' (p:=p+1) [.row [.int .i64 0,.int .i64 0,.str [],.int .i64 0,.int .i64 0,.str []] 87 0 0,.row [.int .i64 (Aa A p).kind,.str (Aa A p).text,.int .i64 (Aa A p).line] 137 0 0,.row [.int .i64 k,.int .i64 (Aa A p).line,.str [],.int .i64 0,.int .i64 0,.str []] 87 0 0] hl hp1 hn
  have Zq:=Ck hS
  obtain⟨-,-,hlen,get,get0,set,set0,n0,n1,n2,u0,u1,u2⟩:=hS
  have g1:=n1 (p+1) (.row [.int .i64 0,.int .i64 0,.str [],.int .i64 0,.int .i64 0,.str []] 87 0 0) (.row [.int .i64 (Aa A p).kind,.str (Aa A p).text,.int .i64 (Aa A p).line] 137 0 0) []
  have g2:=n1 (p+1) (.row [.int .i64 0,.int .i64 0,.str [],.int .i64 0,.int .i64 0,.str []] 87 0 0) (.row [.int .i64 (Aa A p).kind,.str (Aa A p).text,.int .i64 (Aa A p).line] 137 0 0) [.row [.int .i64 0,.int .i64 0,.str [],.int .i64 0,.int .i64 0,.str []] 87 0 0]
  simp only[go_sem,Zq,LZ]
  refine Ac hnx ?_
  simp only[go_sem,Zq,LZ,hinq]
  refine Ax (by kernel_rfl) ?_
  simp only[go_sem,Zq,LZ]
  refine Cm hdec rfl ?_
  simp only[go_sem,Zq,LZ]
  refine Bl ?_
  simp only[go_sem,Zq,LZ]
  refine Bl ?_
  simp only[go_sem,Zq,LZ]
  refine Ac c1 ?_
  simp only[go_sem,Zq,LZ]
  exact Bf (v:=.tup [.agg _,.bool false]) (Bh (n0 _ _ _) rfl rfl rfl) (Bu rfl) hp1 ⟨_,⟨_,_,_,_,_,_,rfl,rfl⟩,rfl⟩
 | some nt=>
  obtain⟨nm,ts⟩:=nt
  obtain⟨c1,hlt1,h3⟩:=Yj hS' (p:=p+1) [.row [.int .i64 0,.int .i64 0,.str [],.int .i64 0,.int .i64 0,.str []] 87 0 0,.row [.int .i64 (Aa A p).kind,.str (Aa A p).text,.int .i64 (Aa A p).line] 137 0 0,.row [.int .i64 k,.int .i64 (Aa A p).line,.str [],.int .i64 0,.int .i64 0,.str []] 87 0 0] hl hp1 hn
  simp only
  rw[<-h3]
  have hp2:p+1+1<=A.length:=hlt1
  have hk6:k=1\/k=2\/k=5\/k=3\/k=4\/k=6:=by omega
  rcases hk6 with rfl | rfl | rfl | hk6
  ·rw[if_pos rfl]
   obtain⟨v2,q2,r2,d1,d2,d3⟩:=Abu hS' (a:=.row [.int .i64 0,.int .i64 0,.str [],.int .i64 0,.int .i64 0,.str []] 87 0 0) (b:=.row [.int .i64 (Aa A p).kind,.str (Aa A p).text,.int .i64 (Aa A p).line] 137 0 0) (Amu (k:=1) (ln:=(Aa A p).line) (nm:=nm) hA hT (hS.get (p+1+1) _) (hS.n2 (p+1+1) _ _ _ _) (by omega) hp2)
   cases hsz:Ni (A.drop (p+1+1)) with
   | none=>
    rw[hsz]at d3
    obtain⟨rfl,e0,e1,e2,e3,e4,e5,rfl,hb⟩:=d3
    have Zq:=Ck hS
    obtain⟨-,-,hlen,get,get0,set,set0,n0,n1,n2,u0,u1,u2⟩:=hS
    have g1:=n1 (p+1) (.row [.int .i64 0,.int .i64 0,.str [],.int .i64 0,.int .i64 0,.str []] 87 0 0) (.row [.int .i64 (Aa A p).kind,.str (Aa A p).text,.int .i64 (Aa A p).line] 137 0 0) []
    have g2:=n1 (p+1) (.row [.int .i64 0,.int .i64 0,.str [],.int .i64 0,.int .i64 0,.str []] 87 0 0) (.row [.int .i64 (Aa A p).kind,.str (Aa A p).text,.int .i64 (Aa A p).line] 137 0 0) [.row [.int .i64 0,.int .i64 0,.str [],.int .i64 0,.int .i64 0,.str []] 87 0 0]
    simp only[go_sem,Zq,LZ]
    refine Ac hnx ?_
    simp only[go_sem,Zq,LZ,hinq]
    refine Ax (by kernel_rfl) ?_
    simp only[go_sem,Zq,LZ]
    refine Cm hdec rfl ?_
    simp only[go_sem,Zq,LZ]
    refine Bl ?_
    simp only[go_sem,Zq,LZ]
    refine Bl ?_
    simp only[go_sem,Zq,LZ]
    refine Ac c1 ?_
    simp only[go_sem,Zq,LZ,Int.reduceBEq]
    refine Ac d1 ?_
    simp only[go_sem,Zq,LZ,Int.reduceBEq]
    refine Ax (by kernel_rfl) ?_
    simp only[go_sem,Zq,LZ,Xv hb]
    refine Bl ?_
    simp only[go_sem,Zq,LZ]
    exact Bf (v:=.tup [.agg [e0,e1,e2,e3,e4,e5],.bool false]) (Bh (n0 _ _ _) rfl rfl rfl) (Bu hb) d2 ⟨_,⟨_,_,_,_,_,_,rfl,hb⟩,rfl⟩
   | some st=>
    obtain⟨n1',t1⟩:=st
    rw[hsz]at d3
    obtain⟨rfl,rfl,d3⟩:=d3
    simp only
    rw[<-d3]
    obtain⟨v4,q4,r4,f1,f2,f3⟩:=Abu hS' (a:=.row [.int .i64 0,.int .i64 0,.str [],.int .i64 0,.int .i64 0,.str []] 87 0 0) (b:=.row [.int .i64 (Aa A p).kind,.str (Aa A p).text,.int .i64 (Aa A p).line] 137 0 0) (Aey (k:=1) (ln:=(Aa A p).line) (nm:=nm) (sz:=n1') hA hT (hS.get q2 _) (hS.n2 q2 _ _ _ _) (by omega) d2)
    cases hin:La (A.drop q2) with
    | none=>
     rw[hin]at f3
     obtain⟨rfl,e0,e1,e2,e3,e4,e5,rfl,hb⟩:=f3
     have Zq:=Ck hS
     obtain⟨-,-,hlen,get,get0,set,set0,n0,n1,n2,u0,u1,u2⟩:=hS
     have g1:=n1 (p+1) (.row [.int .i64 0,.int .i64 0,.str [],.int .i64 0,.int .i64 0,.str []] 87 0 0) (.row [.int .i64 (Aa A p).kind,.str (Aa A p).text,.int .i64 (Aa A p).line] 137 0 0) []
     have g2:=n1 (p+1) (.row [.int .i64 0,.int .i64 0,.str [],.int .i64 0,.int .i64 0,.str []] 87 0 0) (.row [.int .i64 (Aa A p).kind,.str (Aa A p).text,.int .i64 (Aa A p).line] 137 0 0) [.row [.int .i64 0,.int .i64 0,.str [],.int .i64 0,.int .i64 0,.str []] 87 0 0]
     simp only[go_sem,Zq,LZ]
     refine Ac hnx ?_
     simp only[go_sem,Zq,LZ,hinq]
     refine Ax (by kernel_rfl) ?_
     simp only[go_sem,Zq,LZ]
     refine Cm hdec rfl ?_
     simp only[go_sem,Zq,LZ]
     refine Bl ?_
     simp only[go_sem,Zq,LZ]
     refine Bl ?_
     simp only[go_sem,Zq,LZ]
     refine Ac c1 ?_
     simp only[go_sem,Zq,LZ,Int.reduceBEq]
     refine Ac d1 ?_
     simp only[go_sem,Zq,LZ,Int.reduceBEq]
     refine Ac f1 ?_
     simp only[go_sem,Zq,LZ,Int.reduceBEq]
     refine Ax (by kernel_rfl) ?_
     simp only[go_sem,Zq,LZ,Xv hb]
     refine Bl ?_
     simp only[go_sem,Zq,LZ]
     exact Bf (v:=.tup [.agg [e0,e1,e2,e3,e4,e5],.bool false]) (Bh (n0 _ _ _) rfl rfl rfl) (Bu hb) f2 ⟨_,⟨_,_,_,_,_,_,rfl,hb⟩,rfl⟩
    | some it=>
     obtain⟨i1,t2⟩:=it
     rw[hin]at f3
     obtain⟨rfl,rfl,f3⟩:=f3
     simp only
     rw[<-f3]
     unfold Co
     by_cases h59:Ai [59] (A.drop q4)=true
     ·rw[if_pos h59,<-Dd]
      have cz:=H1 hS' [.row [.int .i64 0,.int .i64 0,.str [],.int .i64 0,.int .i64 0,.str []] 87 0 0,.row [.int .i64 (Aa A p).kind,.str (Aa A p).text,.int .i64 (Aa A p).line] 137 0 0,.row [.int .i64 1,.int .i64 (Aa A p).line,.str nm,.int .i64 n1',.int .i64 i1,.str []] 87 0 0] hl h59
      have hlt9:=C8 h59
      have Zq:=Ck hS
      obtain⟨-,-,hlen,get,get0,set,set0,n0,n1,n2,u0,u1,u2⟩:=hS
      have g1:=n1 (p+1) (.row [.int .i64 0,.int .i64 0,.str [],.int .i64 0,.int .i64 0,.str []] 87 0 0) (.row [.int .i64 (Aa A p).kind,.str (Aa A p).text,.int .i64 (Aa A p).line] 137 0 0) []
      have g2:=n1 (p+1) (.row [.int .i64 0,.int .i64 0,.str [],.int .i64 0,.int .i64 0,.str []] 87 0 0) (.row [.int .i64 (Aa A p).kind,.str (Aa A p).text,.int .i64 (Aa A p).line] 137 0 0) [.row [.int .i64 0,.int .i64 0,.str [],.int .i64 0,.int .i64 0,.str []] 87 0 0]
      simp only[go_sem,Zq,LZ]
      refine Ac hnx ?_
      simp only[go_sem,Zq,LZ,hinq]
      refine Ax (by kernel_rfl) ?_
      simp only[go_sem,Zq,LZ]
      refine Cm hdec rfl ?_
      simp only[go_sem,Zq,LZ]
      refine Bl ?_
      simp only[go_sem,Zq,LZ]
      refine Bl ?_
      simp only[go_sem,Zq,LZ]
      refine Ac c1 ?_
      simp only[go_sem,Zq,LZ,Int.reduceBEq]
      refine Ac d1 ?_
      simp only[go_sem,Zq,LZ,Int.reduceBEq]
      refine Ac f1 ?_
      simp only[go_sem,Zq,LZ,Int.reduceBEq]
      have j1:=n2 q4 (.row [.int .i64 0,.int .i64 0,.str [],.int .i64 0,.int .i64 0,.str []] 87 0 0) (.row [.int .i64 (Aa A p).kind,.str (Aa A p).text,.int .i64 (Aa A p).line] 137 0 0) (.row [.int .i64 1,.int .i64 (Aa A p).line,.str nm,.int .i64 n1',.int .i64 i1,.str []] 87 0 0) []
      have j2:=n2 (q4+1) (.row [.int .i64 0,.int .i64 0,.str [],.int .i64 0,.int .i64 0,.str []] 87 0 0) (.row [.int .i64 (Aa A p).kind,.str (Aa A p).text,.int .i64 (Aa A p).line] 137 0 0) (.row [.int .i64 1,.int .i64 (Aa A p).line,.str nm,.int .i64 n1',.int .i64 i1,.str []] 87 0 0) []
      refine Ax (by kernel_rfl) ?_
      simp only[go_sem,Zq,LZ]
      refine Je cz ?_
      simp only[go_sem,Zq,LZ]
      refine Bl ?_
      simp only[go_sem,Zq,LZ]
      exact Bf (v:=.tup [.agg _,.bool true]) (Bh (n0 _ _ _) rfl rfl rfl) (Bu rfl) hlt9 ⟨rfl,rfl⟩
     ·have h59:Ai [59] (A.drop q4)=false:=by simpa using h59
      rw[if_neg (by rw[h59];decide)]
      have cz:=Gz hS' [.row [.int .i64 0,.int .i64 0,.str [],.int .i64 0,.int .i64 0,.str []] 87 0 0,.row [.int .i64 (Aa A p).kind,.str (Aa A p).text,.int .i64 (Aa A p).line] 137 0 0,.row [.int .i64 1,.int .i64 (Aa A p).line,.str nm,.int .i64 n1',.int .i64 i1,.str []] 87 0 0] hl f2 h59
      have Zq:=Ck hS
      obtain⟨-,-,hlen,get,get0,set,set0,n0,n1,n2,u0,u1,u2⟩:=hS
      have g1:=n1 (p+1) (.row [.int .i64 0,.int .i64 0,.str [],.int .i64 0,.int .i64 0,.str []] 87 0 0) (.row [.int .i64 (Aa A p).kind,.str (Aa A p).text,.int .i64 (Aa A p).line] 137 0 0) []
      have g2:=n1 (p+1) (.row [.int .i64 0,.int .i64 0,.str [],.int .i64 0,.int .i64 0,.str []] 87 0 0) (.row [.int .i64 (Aa A p).kind,.str (Aa A p).text,.int .i64 (Aa A p).line] 137 0 0) [.row [.int .i64 0,.int .i64 0,.str [],.int .i64 0,.int .i64 0,.str []] 87 0 0]
      simp only[go_sem,Zq,LZ]
      refine Ac hnx ?_
      simp only[go_sem,Zq,LZ,hinq]
      refine Ax (by kernel_rfl) ?_
      simp only[go_sem,Zq,LZ]
      refine Cm hdec rfl ?_
      simp only[go_sem,Zq,LZ]
      refine Bl ?_
      simp only[go_sem,Zq,LZ]
      refine Bl ?_
      simp only[go_sem,Zq,LZ]
      refine Ac c1 ?_
      simp only[go_sem,Zq,LZ,Int.reduceBEq]
      refine Ac d1 ?_
      simp only[go_sem,Zq,LZ,Int.reduceBEq]
      refine Ac f1 ?_
      simp only[go_sem,Zq,LZ,Int.reduceBEq]
      have j1:=n2 q4 (.row [.int .i64 0,.int .i64 0,.str [],.int .i64 0,.int .i64 0,.str []] 87 0 0) (.row [.int .i64 (Aa A p).kind,.str (Aa A p).text,.int .i64 (Aa A p).line] 137 0 0) (.row [.int .i64 1,.int .i64 (Aa A p).line,.str nm,.int .i64 n1',.int .i64 i1,.str []] 87 0 0) []
      refine Ax (by kernel_rfl) ?_
      simp only[go_sem,Zq,LZ]
      refine Je cz ?_
      simp only[go_sem,Zq,LZ]
      refine Bl ?_
      simp only[go_sem,Zq,LZ]
      exact Bf (v:=.tup [.agg _,.bool false]) (Bh (n0 _ _ _) rfl rfl rfl) (Bu rfl) f2 ⟨_,⟨_,_,_,_,_,_,rfl,rfl⟩,rfl⟩
  ·rw[if_neg (by decide),if_pos rfl]
   obtain⟨v4,q4,r4,f1,f2,f3⟩:=Abu hS' (a:=.row [.int .i64 0,.int .i64 0,.str [],.int .i64 0,.int .i64 0,.str []] 87 0 0) (b:=.row [.int .i64 (Aa A p).kind,.str (Aa A p).text,.int .i64 (Aa A p).line] 137 0 0) (Aey (k:=2) (ln:=(Aa A p).line) (nm:=nm) (sz:=0) hA hT (hS.get (p+1+1) _) (hS.n2 (p+1+1) _ _ _ _) (by omega) hp2)
   cases hin:La (A.drop (p+1+1)) with
   | none=>
    rw[hin]at f3
    obtain⟨rfl,e0,e1,e2,e3,e4,e5,rfl,hb⟩:=f3
    have Zq:=Ck hS
    obtain⟨-,-,hlen,get,get0,set,set0,n0,n1,n2,u0,u1,u2⟩:=hS
    have g1:=n1 (p+1) (.row [.int .i64 0,.int .i64 0,.str [],.int .i64 0,.int .i64 0,.str []] 87 0 0) (.row [.int .i64 (Aa A p).kind,.str (Aa A p).text,.int .i64 (Aa A p).line] 137 0 0) []
    have g2:=n1 (p+1) (.row [.int .i64 0,.int .i64 0,.str [],.int .i64 0,.int .i64 0,.str []] 87 0 0) (.row [.int .i64 (Aa A p).kind,.str (Aa A p).text,.int .i64 (Aa A p).line] 137 0 0) [.row [.int .i64 0,.int .i64 0,.str [],.int .i64 0,.int .i64 0,.str []] 87 0 0]
    simp only[go_sem,Zq,LZ]
    refine Ac hnx ?_
    simp only[go_sem,Zq,LZ,hinq]
    refine Ax (by kernel_rfl) ?_
    simp only[go_sem,Zq,LZ]
    refine Cm hdec rfl ?_
    simp only[go_sem,Zq,LZ]
    refine Bl ?_
    simp only[go_sem,Zq,LZ]
    refine Bl ?_
    simp only[go_sem,Zq,LZ]
    refine Ac c1 ?_
    simp only[go_sem,Zq,LZ,Int.reduceBEq]
    refine Ac f1 ?_
    simp only[go_sem,Zq,LZ,Int.reduceBEq]
    refine Ax (by kernel_rfl) ?_
    simp only[go_sem,Zq,LZ,Xv hb]
    refine Bl ?_
    simp only[go_sem,Zq,LZ]
    exact Bf (v:=.tup [.agg [e0,e1,e2,e3,e4,e5],.bool false]) (Bh (n0 _ _ _) rfl rfl rfl) (Bu hb) f2 ⟨_,⟨_,_,_,_,_,_,rfl,hb⟩,rfl⟩
   | some it=>
    obtain⟨i1,t2⟩:=it
    rw[hin]at f3
    obtain⟨rfl,rfl,f3⟩:=f3
    simp only
    rw[<-f3]
    unfold Co
    by_cases h59:Ai [59] (A.drop q4)=true
    ·rw[if_pos h59,<-Dd]
     have cz:=H1 hS' [.row [.int .i64 0,.int .i64 0,.str [],.int .i64 0,.int .i64 0,.str []] 87 0 0,.row [.int .i64 (Aa A p).kind,.str (Aa A p).text,.int .i64 (Aa A p).line] 137 0 0,.row [.int .i64 2,.int .i64 (Aa A p).line,.str nm,.int .i64 0,.int .i64 i1,.str []] 87 0 0] hl h59
     have hlt9:=C8 h59
     have Zq:=Ck hS
     obtain⟨-,-,hlen,get,get0,set,set0,n0,n1,n2,u0,u1,u2⟩:=hS
     have g1:=n1 (p+1) (.row [.int .i64 0,.int .i64 0,.str [],.int .i64 0,.int .i64 0,.str []] 87 0 0) (.row [.int .i64 (Aa A p).kind,.str (Aa A p).text,.int .i64 (Aa A p).line] 137 0 0) []
     have g2:=n1 (p+1) (.row [.int .i64 0,.int .i64 0,.str [],.int .i64 0,.int .i64 0,.str []] 87 0 0) (.row [.int .i64 (Aa A p).kind,.str (Aa A p).text,.int .i64 (Aa A p).line] 137 0 0) [.row [.int .i64 0,.int .i64 0,.str [],.int .i64 0,.int .i64 0,.str []] 87 0 0]
     simp only[go_sem,Zq,LZ]
     refine Ac hnx ?_
     simp only[go_sem,Zq,LZ,hinq]
     refine Ax (by kernel_rfl) ?_
     simp only[go_sem,Zq,LZ]
     refine Cm hdec rfl ?_
     simp only[go_sem,Zq,LZ]
     refine Bl ?_
     simp only[go_sem,Zq,LZ]
     refine Bl ?_
     simp only[go_sem,Zq,LZ]
     refine Ac c1 ?_
     simp only[go_sem,Zq,LZ,Int.reduceBEq]
     refine Ac f1 ?_
     simp only[go_sem,Zq,LZ,Int.reduceBEq]
     have j1:=n2 q4 (.row [.int .i64 0,.int .i64 0,.str [],.int .i64 0,.int .i64 0,.str []] 87 0 0) (.row [.int .i64 (Aa A p).kind,.str (Aa A p).text,.int .i64 (Aa A p).line] 137 0 0) (.row [.int .i64 2,.int .i64 (Aa A p).line,.str nm,.int .i64 0,.int .i64 i1,.str []] 87 0 0) []
     have j2:=n2 (q4+1) (.row [.int .i64 0,.int .i64 0,.str [],.int .i64 0,.int .i64 0,.str []] 87 0 0) (.row [.int .i64 (Aa A p).kind,.str (Aa A p).text,.int .i64 (Aa A p).line] 137 0 0) (.row [.int .i64 2,.int .i64 (Aa A p).line,.str nm,.int .i64 0,.int .i64 i1,.str []] 87 0 0) []
     refine Ax (by kernel_rfl) ?_
     simp only[go_sem,Zq,LZ]
     refine Je cz ?_
     simp only[go_sem,Zq,LZ]
     refine Bl ?_
     simp only[go_sem,Zq,LZ]
     exact Bf (v:=.tup [.agg _,.bool true]) (Bh (n0 _ _ _) rfl rfl rfl) (Bu rfl) hlt9 ⟨rfl,rfl⟩
    ·have h59:Ai [59] (A.drop q4)=false:=by simpa using h59
     rw[if_neg (by rw[h59];decide)]
     have cz:=Gz hS' [.row [.int .i64 0,.int .i64 0,.str [],.int .i64 0,.int .i64 0,.str []] 87 0 0,.row [.int .i64 (Aa A p).kind,.str (Aa A p).text,.int .i64 (Aa A p).line] 137 0 0,.row [.int .i64 2,.int .i64 (Aa A p).line,.str nm,.int .i64 0,.int .i64 i1,.str []] 87 0 0] hl f2 h59
     have Zq:=Ck hS
     obtain⟨-,-,hlen,get,get0,set,set0,n0,n1,n2,u0,u1,u2⟩:=hS
     have g1:=n1 (p+1) (.row [.int .i64 0,.int .i64 0,.str [],.int .i64 0,.int .i64 0,.str []] 87 0 0) (.row [.int .i64 (Aa A p).kind,.str (Aa A p).text,.int .i64 (Aa A p).line] 137 0 0) []
     have g2:=n1 (p+1) (.row [.int .i64 0,.int .i64 0,.str [],.int .i64 0,.int .i64 0,.str []] 87 0 0) (.row [.int .i64 (Aa A p).kind,.str (Aa A p).text,.int .i64 (Aa A p).line] 137 0 0) [.row [.int .i64 0,.int .i64 0,.str [],.int .i64 0,.int .i64 0,.str []] 87 0 0]
     simp only[go_sem,Zq,LZ]
     refine Ac hnx ?_
     simp only[go_sem,Zq,LZ,hinq]
     refine Ax (by kernel_rfl) ?_
     simp only[go_sem,Zq,LZ]
     refine Cm hdec rfl ?_
     simp only[go_sem,Zq,LZ]
     refine Bl ?_
     simp only[go_sem,Zq,LZ]
     refine Bl ?_
     simp only[go_sem,Zq,LZ]
     refine Ac c1 ?_
     simp only[go_sem,Zq,LZ,Int.reduceBEq]
     refine Ac f1 ?_
     simp only[go_sem,Zq,LZ,Int.reduceBEq]
     have j1:=n2 q4 (.row [.int .i64 0,.int .i64 0,.str [],.int .i64 0,.int .i64 0,.str []] 87 0 0) (.row [.int .i64 (Aa A p).kind,.str (Aa A p).text,.int .i64 (Aa A p).line] 137 0 0) (.row [.int .i64 2,.int .i64 (Aa A p).line,.str nm,.int .i64 0,.int .i64 i1,.str []] 87 0 0) []
     refine Ax (by kernel_rfl) ?_
     simp only[go_sem,Zq,LZ]
     refine Je cz ?_
     simp only[go_sem,Zq,LZ]
     refine Bl ?_
     simp only[go_sem,Zq,LZ]
     exact Bf (v:=.tup [.agg _,.bool false]) (Bh (n0 _ _ _) rfl rfl rfl) (Bu rfl) f2 ⟨_,⟨_,_,_,_,_,_,rfl,rfl⟩,rfl⟩
  ·rw[if_neg (by decide),if_neg (by decide),if_pos rfl]
   cases hn2:B4 (A.drop (p+1+1)) with
   | none=>
    have f1:=U4 hS' (p:=p+1+1) [.row [.int .i64 0,.int .i64 0,.str [],.int .i64 0,.int .i64 0,.str []] 87 0 0,.row [.int .i64 (Aa A p).kind,.str (Aa A p).text,.int .i64 (Aa A p).line] 137 0 0,.row [.int .i64 5,.int .i64 (Aa A p).line,.str nm,.int .i64 0,.int .i64 0,.str []] 87 0 0] hl hp2 hn2
    have Zq:=Ck hS
    obtain⟨-,-,hlen,get,get0,set,set0,n0,n1,n2,u0,u1,u2⟩:=hS
    have g1:=n1 (p+1) (.row [.int .i64 0,.int .i64 0,.str [],.int .i64 0,.int .i64 0,.str []] 87 0 0) (.row [.int .i64 (Aa A p).kind,.str (Aa A p).text,.int .i64 (Aa A p).line] 137 0 0) []
    have g2:=n1 (p+1) (.row [.int .i64 0,.int .i64 0,.str [],.int .i64 0,.int .i64 0,.str []] 87 0 0) (.row [.int .i64 (Aa A p).kind,.str (Aa A p).text,.int .i64 (Aa A p).line] 137 0 0) [.row [.int .i64 0,.int .i64 0,.str [],.int .i64 0,.int .i64 0,.str []] 87 0 0]
    simp only[go_sem,Zq,LZ]
    refine Ac hnx ?_
    simp only[go_sem,Zq,LZ,hinq]
    refine Ax (by kernel_rfl) ?_
    simp only[go_sem,Zq,LZ]
    refine Cm hdec rfl ?_
    simp only[go_sem,Zq,LZ]
    refine Bl ?_
    simp only[go_sem,Zq,LZ]
    refine Bl ?_
    simp only[go_sem,Zq,LZ]
    refine Ac c1 ?_
    simp only[go_sem,Zq,LZ,Int.reduceBEq]
    refine Ac f1 ?_
    simp only[go_sem,Zq,LZ,Int.reduceBEq]
    refine Ax (by kernel_rfl) ?_
    simp only[go_sem,Zq,LZ]
    refine Bl ?_
    simp only[go_sem,Zq,LZ]
    exact Bf (v:=.tup [.agg _,.bool false]) (Bh (n0 _ _ _) rfl rfl rfl) (Bu rfl) hp2 ⟨_,⟨_,_,_,_,_,_,rfl,rfl⟩,rfl⟩
   | some nt2=>
    obtain⟨on,t2⟩:=nt2
    obtain⟨f1,hlt3,f3⟩:=Yj hS' (p:=p+1+1) [.row [.int .i64 0,.int .i64 0,.str [],.int .i64 0,.int .i64 0,.str []] 87 0 0,.row [.int .i64 (Aa A p).kind,.str (Aa A p).text,.int .i64 (Aa A p).line] 137 0 0,.row [.int .i64 5,.int .i64 (Aa A p).line,.str nm,.int .i64 0,.int .i64 0,.str []] 87 0 0] hl hp2 hn2
    have hp3:p+1+1+1<=A.length:=hlt3
    simp only
    rw[<-f3]
    unfold Co
    by_cases h59:Ai [59] (A.drop (p+1+1+1))=true
    ·rw[if_pos h59,<-Dd]
     have cz:=H1 hS' [.row [.int .i64 0,.int .i64 0,.str [],.int .i64 0,.int .i64 0,.str []] 87 0 0,.row [.int .i64 (Aa A p).kind,.str (Aa A p).text,.int .i64 (Aa A p).line] 137 0 0,.row [.int .i64 5,.int .i64 (Aa A p).line,.str nm,.int .i64 0,.int .i64 0,.str on] 87 0 0] hl h59
     have hlt9:=C8 h59
     have Zq:=Ck hS
     obtain⟨-,-,hlen,get,get0,set,set0,n0,n1,n2,u0,u1,u2⟩:=hS
     have g1:=n1 (p+1) (.row [.int .i64 0,.int .i64 0,.str [],.int .i64 0,.int .i64 0,.str []] 87 0 0) (.row [.int .i64 (Aa A p).kind,.str (Aa A p).text,.int .i64 (Aa A p).line] 137 0 0) []
     have g2:=n1 (p+1) (.row [.int .i64 0,.int .i64 0,.str [],.int .i64 0,.int .i64 0,.str []] 87 0 0) (.row [.int .i64 (Aa A p).kind,.str (Aa A p).text,.int .i64 (Aa A p).line] 137 0 0) [.row [.int .i64 0,.int .i64 0,.str [],.int .i64 0,.int .i64 0,.str []] 87 0 0]
     simp only[go_sem,Zq,LZ]
     refine Ac hnx ?_
     simp only[go_sem,Zq,LZ,hinq]
     refine Ax (by kernel_rfl) ?_
     simp only[go_sem,Zq,LZ]
     refine Cm hdec rfl ?_
     simp only[go_sem,Zq,LZ]
     refine Bl ?_
     simp only[go_sem,Zq,LZ]
     refine Bl ?_
     simp only[go_sem,Zq,LZ]
     refine Ac c1 ?_
     simp only[go_sem,Zq,LZ,Int.reduceBEq]
     refine Ac f1 ?_
     simp only[go_sem,Zq,LZ,Int.reduceBEq]
     have j1:=n2 (p+1+1+1) (.row [.int .i64 0,.int .i64 0,.str [],.int .i64 0,.int .i64 0,.str []] 87 0 0) (.row [.int .i64 (Aa A p).kind,.str (Aa A p).text,.int .i64 (Aa A p).line] 137 0 0) (.row [.int .i64 5,.int .i64 (Aa A p).line,.str nm,.int .i64 0,.int .i64 0,.str on] 87 0 0) []
     have j2:=n2 ((p+1+1+1)+1) (.row [.int .i64 0,.int .i64 0,.str [],.int .i64 0,.int .i64 0,.str []] 87 0 0) (.row [.int .i64 (Aa A p).kind,.str (Aa A p).text,.int .i64 (Aa A p).line] 137 0 0) (.row [.int .i64 5,.int .i64 (Aa A p).line,.str nm,.int .i64 0,.int .i64 0,.str on] 87 0 0) []
     refine Ax (by kernel_rfl) ?_
     simp only[go_sem,Zq,LZ]
     refine Je cz ?_
     simp only[go_sem,Zq,LZ]
     refine Bl ?_
     simp only[go_sem,Zq,LZ]
     exact Bf (v:=.tup [.agg _,.bool true]) (Bh (n0 _ _ _) rfl rfl rfl) (Bu rfl) hlt9 ⟨rfl,rfl⟩
    ·have h59:Ai [59] (A.drop (p+1+1+1))=false:=by simpa using h59
     rw[if_neg (by rw[h59];decide)]
     have cz:=Gz hS' [.row [.int .i64 0,.int .i64 0,.str [],.int .i64 0,.int .i64 0,.str []] 87 0 0,.row [.int .i64 (Aa A p).kind,.str (Aa A p).text,.int .i64 (Aa A p).line] 137 0 0,.row [.int .i64 5,.int .i64 (Aa A p).line,.str nm,.int .i64 0,.int .i64 0,.str on] 87 0 0] hl hp3 h59
     have Zq:=Ck hS
     obtain⟨-,-,hlen,get,get0,set,set0,n0,n1,n2,u0,u1,u2⟩:=hS
     have g1:=n1 (p+1) (.row [.int .i64 0,.int .i64 0,.str [],.int .i64 0,.int .i64 0,.str []] 87 0 0) (.row [.int .i64 (Aa A p).kind,.str (Aa A p).text,.int .i64 (Aa A p).line] 137 0 0) []
     have g2:=n1 (p+1) (.row [.int .i64 0,.int .i64 0,.str [],.int .i64 0,.int .i64 0,.str []] 87 0 0) (.row [.int .i64 (Aa A p).kind,.str (Aa A p).text,.int .i64 (Aa A p).line] 137 0 0) [.row [.int .i64 0,.int .i64 0,.str [],.int .i64 0,.int .i64 0,.str []] 87 0 0]
     simp only[go_sem,Zq,LZ]
     refine Ac hnx ?_
     simp only[go_sem,Zq,LZ,hinq]
     refine Ax (by kernel_rfl) ?_
     simp only[go_sem,Zq,LZ]
     refine Cm hdec rfl ?_
     simp only[go_sem,Zq,LZ]
     refine Bl ?_
     simp only[go_sem,Zq,LZ]
     refine Bl ?_
     simp only[go_sem,Zq,LZ]
     refine Ac c1 ?_
     simp only[go_sem,Zq,LZ,Int.reduceBEq]
     refine Ac f1 ?_
     simp only[go_sem,Zq,LZ,Int.reduceBEq]
     have j1:=n2 (p+1+1+1) (.row [.int .i64 0,.int .i64 0,.str [],.int .i64 0,.int .i64 0,.str []] 87 0 0) (.row [.int .i64 (Aa A p).kind,.str (Aa A p).text,.int .i64 (Aa A p).line] 137 0 0) (.row [.int .i64 5,.int .i64 (Aa A p).line,.str nm,.int .i64 0,.int .i64 0,.str on] 87 0 0) []
     refine Ax (by kernel_rfl) ?_
     simp only[go_sem,Zq,LZ]
     refine Je cz ?_
     simp only[go_sem,Zq,LZ]
     refine Bl ?_
     simp only[go_sem,Zq,LZ]
     exact Bf (v:=.tup [.agg _,.bool false]) (Bh (n0 _ _ _) rfl rfl rfl) (Bu rfl) hp3 ⟨_,⟨_,_,_,_,_,_,rfl,rfl⟩,rfl⟩
  ·rcases hk6 with rfl | rfl | rfl
   ·rw[if_neg (by decide),if_neg (by decide),if_neg (by decide)]
    unfold Co
    by_cases h59:Ai [59] (A.drop (p+1+1))=true
    ·rw[if_pos h59,<-Dd]
     have cz:=H1 hS' [.row [.int .i64 0,.int .i64 0,.str [],.int .i64 0,.int .i64 0,.str []] 87 0 0,.row [.int .i64 (Aa A p).kind,.str (Aa A p).text,.int .i64 (Aa A p).line] 137 0 0,.row [.int .i64 3,.int .i64 (Aa A p).line,.str nm,.int .i64 0,.int .i64 0,.str []] 87 0 0] hl h59
     have hlt9:=C8 h59
     have Zq:=Ck hS
     obtain⟨-,-,hlen,get,get0,set,set0,n0,n1,n2,u0,u1,u2⟩:=hS
     have g1:=n1 (p+1) (.row [.int .i64 0,.int .i64 0,.str [],.int .i64 0,.int .i64 0,.str []] 87 0 0) (.row [.int .i64 (Aa A p).kind,.str (Aa A p).text,.int .i64 (Aa A p).line] 137 0 0) []
     have g2:=n1 (p+1) (.row [.int .i64 0,.int .i64 0,.str [],.int .i64 0,.int .i64 0,.str []] 87 0 0) (.row [.int .i64 (Aa A p).kind,.str (Aa A p).text,.int .i64 (Aa A p).line] 137 0 0) [.row [.int .i64 0,.int .i64 0,.str [],.int .i64 0,.int .i64 0,.str []] 87 0 0]
     simp only[go_sem,Zq,LZ]
     refine Ac hnx ?_
     simp only[go_sem,Zq,LZ,hinq]
     refine Ax (by kernel_rfl) ?_
     simp only[go_sem,Zq,LZ]
     refine Cm hdec rfl ?_
     simp only[go_sem,Zq,LZ]
     refine Bl ?_
     simp only[go_sem,Zq,LZ]
     refine Bl ?_
     simp only[go_sem,Zq,LZ]
     refine Ac c1 ?_
     simp only[go_sem,Zq,LZ,Int.reduceBEq]
     have j1:=n2 (p+1+1) (.row [.int .i64 0,.int .i64 0,.str [],.int .i64 0,.int .i64 0,.str []] 87 0 0) (.row [.int .i64 (Aa A p).kind,.str (Aa A p).text,.int .i64 (Aa A p).line] 137 0 0) (.row [.int .i64 3,.int .i64 (Aa A p).line,.str nm,.int .i64 0,.int .i64 0,.str []] 87 0 0) []
     have j2:=n2 ((p+1+1)+1) (.row [.int .i64 0,.int .i64 0,.str [],.int .i64 0,.int .i64 0,.str []] 87 0 0) (.row [.int .i64 (Aa A p).kind,.str (Aa A p).text,.int .i64 (Aa A p).line] 137 0 0) (.row [.int .i64 3,.int .i64 (Aa A p).line,.str nm,.int .i64 0,.int .i64 0,.str []] 87 0 0) []
     refine Ax (by kernel_rfl) ?_
     simp only[go_sem,Zq,LZ]
     refine Je cz ?_
     simp only[go_sem,Zq,LZ]
     refine Bl ?_
     simp only[go_sem,Zq,LZ]
     exact Bf (v:=.tup [.agg _,.bool true]) (Bh (n0 _ _ _) rfl rfl rfl) (Bu rfl) hlt9 ⟨rfl,rfl⟩
    ·have h59:Ai [59] (A.drop (p+1+1))=false:=by simpa using h59
     rw[if_neg (by rw[h59];decide)]
     have cz:=Gz hS' [.row [.int .i64 0,.int .i64 0,.str [],.int .i64 0,.int .i64 0,.str []] 87 0 0,.row [.int .i64 (Aa A p).kind,.str (Aa A p).text,.int .i64 (Aa A p).line] 137 0 0,.row [.int .i64 3,.int .i64 (Aa A p).line,.str nm,.int .i64 0,.int .i64 0,.str []] 87 0 0] hl hp2 h59
     have Zq:=Ck hS
     obtain⟨-,-,hlen,get,get0,set,set0,n0,n1,n2,u0,u1,u2⟩:=hS
     have g1:=n1 (p+1) (.row [.int .i64 0,.int .i64 0,.str [],.int .i64 0,.int .i64 0,.str []] 87 0 0) (.row [.int .i64 (Aa A p).kind,.str (Aa A p).text,.int .i64 (Aa A p).line] 137 0 0) []
     have g2:=n1 (p+1) (.row [.int .i64 0,.int .i64 0,.str [],.int .i64 0,.int .i64 0,.str []] 87 0 0) (.row [.int .i64 (Aa A p).kind,.str (Aa A p).text,.int .i64 (Aa A p).line] 137 0 0) [.row [.int .i64 0,.int .i64 0,.str [],.int .i64 0,.int .i64 0,.str []] 87 0 0]
     simp only[go_sem,Zq,LZ]
     refine Ac hnx ?_
     simp only[go_sem,Zq,LZ,hinq]
     refine Ax (by kernel_rfl) ?_
     simp only[go_sem,Zq,LZ]
     refine Cm hdec rfl ?_
     simp only[go_sem,Zq,LZ]
     refine Bl ?_
     simp only[go_sem,Zq,LZ]
     refine Bl ?_
     simp only[go_sem,Zq,LZ]
     refine Ac c1 ?_
     simp only[go_sem,Zq,LZ,Int.reduceBEq]
     have j1:=n2 (p+1+1) (.row [.int .i64 0,.int .i64 0,.str [],.int .i64 0,.int .i64 0,.str []] 87 0 0) (.row [.int .i64 (Aa A p).kind,.str (Aa A p).text,.int .i64 (Aa A p).line] 137 0 0) (.row [.int .i64 3,.int .i64 (Aa A p).line,.str nm,.int .i64 0,.int .i64 0,.str []] 87 0 0) []
     refine Ax (by kernel_rfl) ?_
     simp only[go_sem,Zq,LZ]
     refine Je cz ?_
     simp only[go_sem,Zq,LZ]
     refine Bl ?_
     simp only[go_sem,Zq,LZ]
     exact Bf (v:=.tup [.agg _,.bool false]) (Bh (n0 _ _ _) rfl rfl rfl) (Bu rfl) hp2 ⟨_,⟨_,_,_,_,_,_,rfl,rfl⟩,rfl⟩
   ·rw[if_neg (by decide),if_neg (by decide),if_neg (by decide)]
    unfold Co
    by_cases h59:Ai [59] (A.drop (p+1+1))=true
    ·rw[if_pos h59,<-Dd]
     have cz:=H1 hS' [.row [.int .i64 0,.int .i64 0,.str [],.int .i64 0,.int .i64 0,.str []] 87 0 0,.row [.int .i64 (Aa A p).kind,.str (Aa A p).text,.int .i64 (Aa A p).line] 137 0 0,.row [.int .i64 4,.int .i64 (Aa A p).line,.str nm,.int .i64 0,.int .i64 0,.str []] 87 0 0] hl h59
     have hlt9:=C8 h59
     have Zq:=Ck hS
     obtain⟨-,-,hlen,get,get0,set,set0,n0,n1,n2,u0,u1,u2⟩:=hS
     have g1:=n1 (p+1) (.row [.int .i64 0,.int .i64 0,.str [],.int .i64 0,.int .i64 0,.str []] 87 0 0) (.row [.int .i64 (Aa A p).kind,.str (Aa A p).text,.int .i64 (Aa A p).line] 137 0 0) []
     have g2:=n1 (p+1) (.row [.int .i64 0,.int .i64 0,.str [],.int .i64 0,.int .i64 0,.str []] 87 0 0) (.row [.int .i64 (Aa A p).kind,.str (Aa A p).text,.int .i64 (Aa A p).line] 137 0 0) [.row [.int .i64 0,.int .i64 0,.str [],.int .i64 0,.int .i64 0,.str []] 87 0 0]
     simp only[go_sem,Zq,LZ]
     refine Ac hnx ?_
     simp only[go_sem,Zq,LZ,hinq]
     refine Ax (by kernel_rfl) ?_
     simp only[go_sem,Zq,LZ]
     refine Cm hdec rfl ?_
     simp only[go_sem,Zq,LZ]
     refine Bl ?_
     simp only[go_sem,Zq,LZ]
     refine Bl ?_
     simp only[go_sem,Zq,LZ]
     refine Ac c1 ?_
     simp only[go_sem,Zq,LZ,Int.reduceBEq]
     have j1:=n2 (p+1+1) (.row [.int .i64 0,.int .i64 0,.str [],.int .i64 0,.int .i64 0,.str []] 87 0 0) (.row [.int .i64 (Aa A p).kind,.str (Aa A p).text,.int .i64 (Aa A p).line] 137 0 0) (.row [.int .i64 4,.int .i64 (Aa A p).line,.str nm,.int .i64 0,.int .i64 0,.str []] 87 0 0) []
     have j2:=n2 ((p+1+1)+1) (.row [.int .i64 0,.int .i64 0,.str [],.int .i64 0,.int .i64 0,.str []] 87 0 0) (.row [.int .i64 (Aa A p).kind,.str (Aa A p).text,.int .i64 (Aa A p).line] 137 0 0) (.row [.int .i64 4,.int .i64 (Aa A p).line,.str nm,.int .i64 0,.int .i64 0,.str []] 87 0 0) []
     refine Ax (by kernel_rfl) ?_
     simp only[go_sem,Zq,LZ]
     refine Je cz ?_
     simp only[go_sem,Zq,LZ]
     refine Bl ?_
     simp only[go_sem,Zq,LZ]
     exact Bf (v:=.tup [.agg _,.bool true]) (Bh (n0 _ _ _) rfl rfl rfl) (Bu rfl) hlt9 ⟨rfl,rfl⟩
    ·have h59:Ai [59] (A.drop (p+1+1))=false:=by simpa using h59
     rw[if_neg (by rw[h59];decide)]
     have cz:=Gz hS' [.row [.int .i64 0,.int .i64 0,.str [],.int .i64 0,.int .i64 0,.str []] 87 0 0,.row [.int .i64 (Aa A p).kind,.str (Aa A p).text,.int .i64 (Aa A p).line] 137 0 0,.row [.int .i64 4,.int .i64 (Aa A p).line,.str nm,.int .i64 0,.int .i64 0,.str []] 87 0 0] hl hp2 h59
     have Zq:=Ck hS
     obtain⟨-,-,hlen,get,get0,set,set0,n0,n1,n2,u0,u1,u2⟩:=hS
     have g1:=n1 (p+1) (.row [.int .i64 0,.int .i64 0,.str [],.int .i64 0,.int .i64 0,.str []] 87 0 0) (.row [.int .i64 (Aa A p).kind,.str (Aa A p).text,.int .i64 (Aa A p).line] 137 0 0) []
     have g2:=n1 (p+1) (.row [.int .i64 0,.int .i64 0,.str [],.int .i64 0,.int .i64 0,.str []] 87 0 0) (.row [.int .i64 (Aa A p).kind,.str (Aa A p).text,.int .i64 (Aa A p).line] 137 0 0) [.row [.int .i64 0,.int .i64 0,.str [],.int .i64 0,.int .i64 0,.str []] 87 0 0]
     simp only[go_sem,Zq,LZ]
     refine Ac hnx ?_
     simp only[go_sem,Zq,LZ,hinq]
     refine Ax (by kernel_rfl) ?_
     simp only[go_sem,Zq,LZ]
     refine Cm hdec rfl ?_
     simp only[go_sem,Zq,LZ]
     refine Bl ?_
     simp only[go_sem,Zq,LZ]
     refine Bl ?_
     simp only[go_sem,Zq,LZ]
     refine Ac c1 ?_
     simp only[go_sem,Zq,LZ,Int.reduceBEq]
     have j1:=n2 (p+1+1) (.row [.int .i64 0,.int .i64 0,.str [],.int .i64 0,.int .i64 0,.str []] 87 0 0) (.row [.int .i64 (Aa A p).kind,.str (Aa A p).text,.int .i64 (Aa A p).line] 137 0 0) (.row [.int .i64 4,.int .i64 (Aa A p).line,.str nm,.int .i64 0,.int .i64 0,.str []] 87 0 0) []
     refine Ax (by kernel_rfl) ?_
     simp only[go_sem,Zq,LZ]
     refine Je cz ?_
     simp only[go_sem,Zq,LZ]
     refine Bl ?_
     simp only[go_sem,Zq,LZ]
     exact Bf (v:=.tup [.agg _,.bool false]) (Bh (n0 _ _ _) rfl rfl rfl) (Bu rfl) hp2 ⟨_,⟨_,_,_,_,_,_,rfl,rfl⟩,rfl⟩
   ·rw[if_neg (by decide),if_neg (by decide),if_neg (by decide)]
    unfold Co
    by_cases h59:Ai [59] (A.drop (p+1+1))=true
    ·rw[if_pos h59,<-Dd]
     have cz:=H1 hS' [.row [.int .i64 0,.int .i64 0,.str [],.int .i64 0,.int .i64 0,.str []] 87 0 0,.row [.int .i64 (Aa A p).kind,.str (Aa A p).text,.int .i64 (Aa A p).line] 137 0 0,.row [.int .i64 6,.int .i64 (Aa A p).line,.str nm,.int .i64 0,.int .i64 0,.str []] 87 0 0] hl h59
     have hlt9:=C8 h59
     have Zq:=Ck hS
     obtain⟨-,-,hlen,get,get0,set,set0,n0,n1,n2,u0,u1,u2⟩:=hS
     have g1:=n1 (p+1) (.row [.int .i64 0,.int .i64 0,.str [],.int .i64 0,.int .i64 0,.str []] 87 0 0) (.row [.int .i64 (Aa A p).kind,.str (Aa A p).text,.int .i64 (Aa A p).line] 137 0 0) []
     have g2:=n1 (p+1) (.row [.int .i64 0,.int .i64 0,.str [],.int .i64 0,.int .i64 0,.str []] 87 0 0) (.row [.int .i64 (Aa A p).kind,.str (Aa A p).text,.int .i64 (Aa A p).line] 137 0 0) [.row [.int .i64 0,.int .i64 0,.str [],.int .i64 0,.int .i64 0,.str []] 87 0 0]
     simp only[go_sem,Zq,LZ]
     refine Ac hnx ?_
     simp only[go_sem,Zq,LZ,hinq]
     refine Ax (by kernel_rfl) ?_
     simp only[go_sem,Zq,LZ]
     refine Cm hdec rfl ?_
     simp only[go_sem,Zq,LZ]
     refine Bl ?_
     simp only[go_sem,Zq,LZ]
     refine Bl ?_
     simp only[go_sem,Zq,LZ]
     refine Ac c1 ?_
     simp only[go_sem,Zq,LZ,Int.reduceBEq]
     have j1:=n2 (p+1+1) (.row [.int .i64 0,.int .i64 0,.str [],.int .i64 0,.int .i64 0,.str []] 87 0 0) (.row [.int .i64 (Aa A p).kind,.str (Aa A p).text,.int .i64 (Aa A p).line] 137 0 0) (.row [.int .i64 6,.int .i64 (Aa A p).line,.str nm,.int .i64 0,.int .i64 0,.str []] 87 0 0) []
     have j2:=n2 ((p+1+1)+1) (.row [.int .i64 0,.int .i64 0,.str [],.int .i64 0,.int .i64 0,.str []] 87 0 0) (.row [.int .i64 (Aa A p).kind,.str (Aa A p).text,.int .i64 (Aa A p).line] 137 0 0) (.row [.int .i64 6,.int .i64 (Aa A p).line,.str nm,.int .i64 0,.int .i64 0,.str []] 87 0 0) []
     refine Ax (by kernel_rfl) ?_
     simp only[go_sem,Zq,LZ]
     refine Je cz ?_
     simp only[go_sem,Zq,LZ]
     refine Bl ?_
     simp only[go_sem,Zq,LZ]
     exact Bf (v:=.tup [.agg _,.bool true]) (Bh (n0 _ _ _) rfl rfl rfl) (Bu rfl) hlt9 ⟨rfl,rfl⟩
    ·have h59:Ai [59] (A.drop (p+1+1))=false:=by simpa using h59
     rw[if_neg (by rw[h59];decide)]
     have cz:=Gz hS' [.row [.int .i64 0,.int .i64 0,.str [],.int .i64 0,.int .i64 0,.str []] 87 0 0,.row [.int .i64 (Aa A p).kind,.str (Aa A p).text,.int .i64 (Aa A p).line] 137 0 0,.row [.int .i64 6,.int .i64 (Aa A p).line,.str nm,.int .i64 0,.int .i64 0,.str []] 87 0 0] hl hp2 h59
     have Zq:=Ck hS
     obtain⟨-,-,hlen,get,get0,set,set0,n0,n1,n2,u0,u1,u2⟩:=hS
     have g1:=n1 (p+1) (.row [.int .i64 0,.int .i64 0,.str [],.int .i64 0,.int .i64 0,.str []] 87 0 0) (.row [.int .i64 (Aa A p).kind,.str (Aa A p).text,.int .i64 (Aa A p).line] 137 0 0) []
     have g2:=n1 (p+1) (.row [.int .i64 0,.int .i64 0,.str [],.int .i64 0,.int .i64 0,.str []] 87 0 0) (.row [.int .i64 (Aa A p).kind,.str (Aa A p).text,.int .i64 (Aa A p).line] 137 0 0) [.row [.int .i64 0,.int .i64 0,.str [],.int .i64 0,.int .i64 0,.str []] 87 0 0]
     simp only[go_sem,Zq,LZ]
     refine Ac hnx ?_
     simp only[go_sem,Zq,LZ,hinq]
     refine Ax (by kernel_rfl) ?_
     simp only[go_sem,Zq,LZ]
     refine Cm hdec rfl ?_
     simp only[go_sem,Zq,LZ]
     refine Bl ?_
     simp only[go_sem,Zq,LZ]
     refine Bl ?_
     simp only[go_sem,Zq,LZ]
     refine Ac c1 ?_
     simp only[go_sem,Zq,LZ,Int.reduceBEq]
     have j1:=n2 (p+1+1) (.row [.int .i64 0,.int .i64 0,.str [],.int .i64 0,.int .i64 0,.str []] 87 0 0) (.row [.int .i64 (Aa A p).kind,.str (Aa A p).text,.int .i64 (Aa A p).line] 137 0 0) (.row [.int .i64 6,.int .i64 (Aa A p).line,.str nm,.int .i64 0,.int .i64 0,.str []] 87 0 0) []
     refine Ax (by kernel_rfl) ?_
     simp only[go_sem,Zq,LZ]
     refine Je cz ?_
     simp only[go_sem,Zq,LZ]
     refine Bl ?_
     simp only[go_sem,Zq,LZ]
     exact Bf (v:=.tup [.agg _,.bool false]) (Bh (n0 _ _ _) rfl rfl rfl) (Bu rfl) hp2 ⟨_,⟨_,_,_,_,_,_,rfl,rfl⟩,rfl⟩
end Go.Proofs.YtcoeikinocflnaaGreatDoor.KM
