/- Walks: the parser's statements. -/
import Derived.Test.YtcoeikinocflnaaGreatDoorLn
set_option linter.all false
namespace Go.Proofs.YtcoeikinocflnaaGreatDoor.KM
open Go
structure RdT (s:St) (m o:Nat) (z:Bool) (t:Nat) (A:List Tk) (S:Nat->List V->St):Prop where
 low:m<s.length
 lowo:o<s.length
 ne:m≠o
 eq:∀ p r,S p r=(s.set m (RO z t A p)).set o (.row r 105 0 0)
 len:∀ p r,(S p r).length=s.length
 get:∀ (p:Nat) (r:List V) (l:St),(S p r++l)[m]?=some (.row [SL z t (A.map Tk.row),.int .i64 (p:Int)] 81 0 0)
 get0:∀ (p:Nat) (r:List V),(S p r)[m]?=some (.row [SL z t (A.map Tk.row),.int .i64 (p:Int)] 81 0 0)
 set:∀ (p q:Nat) (r:List V) (l:St),(S p r++l).set m (.row [SL z t (A.map Tk.row),.int .i64 (q:Int)] 81 0 0)=S q r++l
 set0:∀ (p q:Nat) (r:List V),(S p r).set m (.row [SL z t (A.map Tk.row),.int .i64 (q:Int)] 81 0 0)=S q r
 go:∀ (p:Nat) (r:List V) (l:St),(S p r++l)[o]?=some (.row r 105 0 0)
 go0:∀ (p:Nat) (r:List V),(S p r)[o]?=some (.row r 105 0 0)
 so:∀ (p:Nat) (r r':List V) (l:St),(S p r++l).set o (.row r' 105 0 0)=S p r'++l
 so0:∀ (p:Nat) (r r':List V),(S p r).set o (.row r' 105 0 0)=S p r'
 n0:∀ (p:Nat) (r:List V) (a:Ob) (l:St),(S p r++a::l)[s.length]?=some a
 n1:∀ (p:Nat) (r:List V) (a b:Ob) (l:St),(S p r++a::b::l)[s.length+1]?=some b
 u0:∀ (p:Nat) (r:List V) (a x:Ob) (l:St),(S p r++a::l).set s.length x=S p r++x::l
 u1:∀ (p:Nat) (r:List V) (a b x:Ob) (l:St),(S p r++a::b::l).set (s.length+1) x=S p r++a::x::l
def Dx{s:St}{m o:Nat}{z:Bool}{t:Nat}{A:List Tk}{S:Nat->List V->St}(h:RdT s m o z t A S):=And.intro h.len (And.intro h.get (And.intro h.get0 (And.intro h.set (And.intro h.set0 (And.intro h.go (And.intro h.go0 (And.intro h.so (And.intro h.so0 (And.intro h.n0 (And.intro h.n1 (And.intro h.u0 (h.u1))))))))))))
theorem Aui{s:St}{m o:Nat}(z:Bool)(t:Nat)(A:List Tk)(hm:m<s.length)(ho:o<s.length)(hne:m≠o):RdT s m o z t A (fun p r=>(s.set m (RO z t A p)).set o (.row r 105 0 0)):=by
 have hl:∀ p r,((s.set m (RO z t A p)).set o (.row r 105 0 0)).length=s.length:=fun p r=>by simp
 have hg:∀ (p:Nat) (r:List V),((s.set m (RO z t A p)).set o (.row r 105 0 0))[m]?=some (RO z t A p):=fun p r=>by
  rw[B5 (Ne.symm hne),Cw hm]
 have hgo:∀ (p:Nat) (r:List V),((s.set m (RO z t A p)).set o (.row r 105 0 0))[o]?=some (.row r 105 0 0):=fun p r=>Cw (by simpa using ho)
 have hs:∀ p q r,((s.set m (RO z t A p)).set o (.row r 105 0 0)).set m (RO z t A q)=(s.set m (RO z t A q)).set o (.row r 105 0 0):=fun p q r=>by
  rw[List.set_comm _ _ (Ne.symm hne),Oq]
 have hso:∀ p r r',((s.set m (RO z t A p)).set o (.row r 105 0 0)).set o (.row r' 105 0 0)=(s.set m (RO z t A p)).set o (.row r' 105 0 0):=fun p r r'=>by rw[Oq]
 refine⟨hm,ho,hne,fun _ _=>rfl,hl,fun p r l=>Dn (hg p r),fun p r=>hg p r,fun p q r l=>?_,fun p q r=>hs p q r,fun p r l=>Dn (hgo p r),fun p r=>hgo p r,fun p r r' l=>?_,fun p r r'=>hso p r r',fun p r a l=>?_,fun p r a b l=>?_,fun p r a x l=>?_,fun p r a b x l=>?_⟩
 ·rw[Vj _ _ (by simpa using hm)]
  exact congrArg (·++l) (hs p q r)
 ·rw[Vj _ _ (by simpa using ho)]
  exact congrArg (·++l) (hso p r r')
 ·rw[By (by simp)]
  simp
 ·rw[By (by simp)]
  simp
 ·rw[Hh _ _ (by simp)]
  simp
 ·rw[Hh _ _ (by simp)]
  simp
def Li(f:Nat)(s:St)(m o:Nat)(z:Bool)(t:Nat)(A:List Tk)(R:V->Nat->List V->Prop):Prop:=∃ v p' r',Bk TT PT f [.ptr m 0 0,.ptr o 0 0] s v ((s.set m (RO z t A p')).set o (.row r' 105 0 0))/\p'<=A.length/\R v p' r'
theorem Ahk{s:St}{m o:Nat}{x y:Ob}(h:s[m]?=some x)(h':s[o]?=some y):(s.set m x).set o y=s:=by rw[Jn h,Jn h']
theorem Ns{z:Bool}{t:Nat}{A:List Tk}{f m o q:Nat}{res:List AR}{thr:Bool}{body:AC}{s:St}{r0:List V}{R:V->Nat->List V->Prop}(hT:TT f=some ⟨2,res,thr,body,none⟩)(hs:s[m]?=some (RO z t A q))(ho:s[o]?=some (.row r0 105 0 0))(hne:m≠o)
  (h:∀ S,RdT s m o z t A S->W TT PT [.c body] (Df 0 [.ptr m 0 0,.ptr o 0 0]) (S q r0) (Hd fun e' σ1=>∃ v p' r' l,B2 e' σ1 res=some v/\(Cs v=true/\v.refs=[])/\σ1=S p' r'++l/\p'<=A.length/\r'.all V.rowB=true/\R v p' r')):Li f s m o z t A R:=by
 have hm:=(Au.1 hs).1
 have hol:=(Au.1 ho).1
 have h:=h _ (Aui z t A hm hol hne)
 rw[Ahk hs ho]at h
 obtain⟨e',σ1,hE,v,p',r',l,hr,⟨h1,h2⟩,rfl,h3,h5,h4⟩:=h
 have htk:((s.set m (RO z t A p')).set o (.row r' 105 0 0)++l).take s.length=(s.set m (RO z t A p')).set o (.row r' 105 0 0):=by rw[List.take_append_of_le_length (by simp),Of (by simp)]
 refine⟨v,p',r',?_,h3,h4⟩
 have:=Ev.fn hT rfl rfl hE hr h1 (by rw[h2];rfl) (fun i ob hi hob=>by
  rw[B8 (by simpa using hi)]at hob
  by_cases hb:o=i
  ·subst hb
   rw[Cw (by simpa using hol)]at hob
   cases hob
   exact .inr (by simp only[Ob.refs];rw[Jk h5];rfl)
  ·rw[B5 hb]at hob
   by_cases hb:m=i
   ·subst hb
    rw[Cw hm]at hob
    cases hob
    exact .inr (by rw[Xb];rfl)
   ·rw[B5 hb]at hob
    exact .inl hob)
 rw[htk]at this
 exact⟨_,hT,rfl,this⟩
theorem Rg{S:Nat->List V->St}{A:List Tk}{R:V->Nat->List V->Prop}{e:Env}{res:List AR}{v:V}{p:Nat}{r:List V}{l:St}(hr:B2 e (S p r++l) res=some v)(hv:Cs v=true/\v.refs=[])(hp:p<=A.length)(hb:r.all V.rowB=true)(hR:R v p r):
  ∃ v p' r' l',B2 e (S p r++l) res=some v/\(Cs v=true/\v.refs=[])/\S p r++l=S p' r'++l'/\p'<=A.length/\r'.all V.rowB=true/\R v p' r':=⟨v,p,r,l,hr,hv,rfl,hp,hb,hR⟩
theorem D0{S:Nat->List V->St}{A:List Tk}{R:V->Nat->List V->Prop}{e:Env}{res:List AR}{v:V}{p:Nat}{r:List V}(hr:B2 e (S p r) res=some v)(hv:Cs v=true/\v.refs=[])(hp:p<=A.length)(hb:r.all V.rowB=true)(hR:R v p r):
  ∃ v p' r' l',B2 e (S p r) res=some v/\(Cs v=true/\v.refs=[])/\S p r=S p' r'++l'/\p'<=A.length/\r'.all V.rowB=true/\R v p' r':=⟨v,p,r,[],hr,hv,(Cx _).symm,hp,hb,hR⟩
theorem A1e{s:St}{m o:Nat}{z:Bool}{t:Nat}{A:List Tk}{S:Nat->List V->St}(hS:RdT s m o z t A S){f p:Nat}{r:List V}{av:List V}{l:St}{R:V->Nat->Prop}(h:(S p r++l)[m]?=some (RO z t A p)->RT f av (S p r++l) m z t A R):∃ v q,Bk TT PT f (.ptr m 0 0::av) (S p r++l) v (S q r++l)/\q<=A.length/\R v q:=by
 obtain⟨v,q,h1,h2,h3⟩:=h (hS.get p r l)
 rw[show(S p r++l).set m (RO z t A q)=S q r++l from hS.set p q r l]at h1
 exact⟨v,q,h1,h2,h3⟩
theorem Rh{s:St}{m o:Nat}{z:Bool}{t:Nat}{A:List Tk}{S:Nat->List V->St}(hS:RdT s m o z t A S){f p:Nat}{r:List V}{av:List V}{R:V->Nat->Prop}(h:(S p r)[m]?=some (RO z t A p)->RT f av (S p r) m z t A R):∃ v q,Bk TT PT f (.ptr m 0 0::av) (S p r) v (S q r)/\q<=A.length/\R v q:=by
 obtain⟨v,q,h1,h2,h3⟩:=h (hS.get0 p r)
 rw[show(S p r).set m (RO z t A q)=S q r from hS.set0 p q r]at h1
 exact⟨v,q,h1,h2,h3⟩
theorem Pb{s:St}{m o:Nat}{z:Bool}{t:Nat}{A:List Tk}{S:Nat->List V->St}(hS:RdT s m o z t A S){p:Nat}{r:List V}(hA:A.length<=1000000){w:List UInt8}(h:Ai w (A.drop p)=true):Bk TT PT 122 [.ptr m 0 0,.str w] (S p r) (.bool true) (S (p+1) r):=by
 have:=Nq (hS.get0 p r) hA h
 rw[show(S p r).set m (RO z t A (p+1))=S (p+1) r from hS.set0 p (p+1) r]at this
 exact this
theorem Pc{s:St}{m o:Nat}{z:Bool}{t:Nat}{A:List Tk}{S:Nat->List V->St}(hS:RdT s m o z t A S){p:Nat}{r:List V}(hA:A.length<=1000000)(hp:p<=A.length){w:List UInt8}(h:Ai w (A.drop p)=false):Bk TT PT 122 [.ptr m 0 0,.str w] (S p r) (.bool false) (S p r):=Nr (hS.get0 p r) hA hp h
theorem Aci{s:St}{m o:Nat}{z:Bool}{t:Nat}{A:List Tk}{S:Nat->List V->St}(hS:RdT s m o z t A S){p:Nat}{r:List V}(l:St)(hA:A.length<=1000000){w:List UInt8}(h:Ai w (A.drop p)=true):Bk TT PT 122 [.ptr m 0 0,.str w] (S p r++l) (.bool true) (S (p+1) r++l):=by
 have:=Nq (hS.get p r l) hA h
 rw[show(S p r++l).set m (RO z t A (p+1))=S (p+1) r++l from hS.set p (p+1) r l]at this
 exact this
theorem Acj{s:St}{m o:Nat}{z:Bool}{t:Nat}{A:List Tk}{S:Nat->List V->St}(hS:RdT s m o z t A S){p:Nat}{r:List V}(l:St)(hA:A.length<=1000000)(hp:p<=A.length){w:List UInt8}(h:Ai w (A.drop p)=false):Bk TT PT 122 [.ptr m 0 0,.str w] (S p r++l) (.bool false) (S p r++l):=Nr (hS.get p r l) hA hp h
theorem Ri{s:St}{m o:Nat}{z:Bool}{t:Nat}{A:List Tk}{S:Nat->List V->St}(hS:RdT s m o z t A S){p:Nat}{r:List V}(hA:A.length<=1000000)(hp:p<=A.length){w:List UInt8}{q:List Tk}(h:B4 (A.drop p)=some (w,q)):Bk TT PT 119 [.ptr m 0 0] (S p r) (.tup [.str w,.bool true]) (S (p+1) r)/\p<A.length/\A.drop (p+1)=q:=by
 obtain⟨h1,h2⟩:=(Ru (hS.get0 p r) hA hp).1 w q h
 rw[show(S p r).set m (RO z t A (p+1))=S (p+1) r from hS.set0 p (p+1) r]at h1
 exact⟨h1,h2⟩
theorem Rj{s:St}{m o:Nat}{z:Bool}{t:Nat}{A:List Tk}{S:Nat->List V->St}(hS:RdT s m o z t A S){p:Nat}{r:List V}(hA:A.length<=1000000)(hp:p<=A.length)(h:B4 (A.drop p)=none):Bk TT PT 119 [.ptr m 0 0] (S p r) (.tup [.str [],.bool false]) (S p r):=(Ru (hS.get0 p r) hA hp).2 h
/-! what is given back -/
def Vd(A:List Tk)(o:Option (List Sp × List Tk))(v:V)(p':Nat):Prop:=match o with
 | some (l,r)=>v=.tup [SL true 0 (l.map Sp.row),.bool true]/\A.drop p'=r
 | none=>v=.tup [.nils,.bool false]
def Pt(n:Nat):Prop:=∀ (s:St) (m:Nat) (z:Bool) (t:Nat) (A:List Tk) (p:Nat),OkA A->C0 A->s[m]?=some (RO z t A p)->p<=A.length->10*(A.length - p)+2<=n->RT 123 [] s m z t A (Vd A (Dw n (A.drop p)))
theorem Bb(l:List Sp):(SL true 0 (l.map Sp.row)).rowB=true:=by
 unfold SL
 split
 ·rfl
 ·rfl
theorem Z7{n:Nat}(hB:Pt n){s:St}{m o:Nat}{z:Bool}{t:Nat}{A:List Tk}{p:Nat}{c0 c1 c2 c3 c4 c5 c6 c7 c8 c9 c10:V}(hA:OkA A)(hT:C0 A)(hs:s[m]?=some (RO z t A p))(ho:s[o]?=some (.row [c0,c1,c2,c3,c4,c5,c6,c7,c8,c9,c10] 105 0 0))(hne:m≠o)(hp:p<=A.length)(hb:[c0,c1,c2,c3,c4,c5,c6,c7,c8,c9,c10].all V.rowB=true)(hf:10*(A.length - p)+2<=n):
  Li 237 s m o z t A (fun v q r=>match Dw n (A.drop p) with
   | some (l,ts)=>v=.bool true/\r=[c0,c1,c2,c3,c4,c5,c6,c7,c8,SL true 0 (l.map Sp.row),c10]/\A.drop q=ts
   | none=>v=.bool false/\r=[c0,c1,c2,c3,c4,c5,c6,c7,c8,.nils,c10]):=by
 refine Ns T237 hs ho hne fun S hS=>?_
 obtain⟨v,q,h1,h2,h3⟩:=Rh hS (r:=[c0,c1,c2,c3,c4,c5,c6,c7,c8,c9,c10]) fun hs=>hB _ m z t A p hA hT hs hp hf
 have Zq:=Dx hS
 obtain⟨-,-,-,-,hlen,get,get0,set,set0,go,go0,so,so0,n0,n1,u0,u1⟩:=hS
 simp only[Am,Av,Ae]at hb
 unfold Vd at h3
 simp only[go_sem,Zq,LZ]
 split at h3
 ·rename_i l ts hl
  obtain⟨rfl,h3⟩:=h3
  refine Ac h1 ?_
  simp only[go_sem,Zq,LZ]
  exact D0 rfl ⟨rfl,rfl⟩ h2 (by simp only[Am,Av,Ae,Bb];simp only[hb];trivial) ⟨rfl,rfl,h3⟩
 ·rename_i hl
  subst h3
  refine Ac h1 ?_
  simp only[go_sem,Zq,LZ]
  exact D0 rfl ⟨rfl,rfl⟩ h2 (by simp only[Am,Av,Ae,(show V.rowB V.nils=true from rfl)];simp only[hb];trivial) ⟨rfl,rfl⟩
theorem Bj(x:Xp):(SL x.z x.t (x.l.map Xp.row)).rowB=true:=by
 unfold SL
 split
 ·rfl
 ·rfl
def L9(r:List V):Prop:=∃ c0 c1 c2 c3 c4 c5 c6 c7 c8 c9 c10:V,r=[c0,c1,c2,c3,c4,c5,c6,c7,c8,c9,c10]/\r.all V.rowB=true
/-! the statements' own parts -/
def I7(n:Nat)(ts:List Tk):Option ((Xp × List Sp) × List Tk):=match pe n 1 ts with
 | none=>none
 | some (x,ts)=>match Dw n ts with
  | none=>none
  | some (b,ts)=>some ((x,b),ts)
def Uw(n:Nat)(ts:List Tk):Option ((Xp × List Sp × List Sp) × List Tk):=match I7 n ts with
 | none=>none
 | some ((x,b),ts)=>if Ai [101,108,115,101] ts=true then(match Dw n ts.tail with
   | none=>none
   | some (e,ts)=>some ((x,b,e),ts))
  else some ((x,b,[]),ts)
def Ve(n:Nat)(ts:List Tk):Option ((List UInt8 × List Sp) × List Tk):=match B4 ts with
 | none=>none
 | some (nm,ts)=>match Dw n ts with
  | none=>none
  | some (b,ts)=>some ((nm,b),ts)
def Vf(ts:List Tk):Option (List UInt8 × List Tk):=match B4 ts with
 | none=>none
 | some (nm,ts)=>(Co [59] ts).map fun ts=>(nm,ts)
def U5(n:Nat)(ts:List Tk):Option ((List UInt8 × Xp) × List Tk):=match B4 ts with
 | none=>none
 | some (nm,ts)=>match pe n 1 ts with
  | none=>none
  | some (x,ts)=>(Co [59] ts).map fun ts=>((nm,x),ts)
def U6(ts:List Tk):Option ((List UInt8 × List UInt8) × List Tk):=match B4 ts with
 | none=>none
 | some (nm,ts)=>match B4 ts with
  | none=>none
  | some (ar,ts)=>(Co [59] ts).map fun ts=>((nm,ar),ts)
theorem Aex{n:Nat}(hB:Pt n){s:St}{m o:Nat}{z:Bool}{t:Nat}{A:List Tk}{p:Nat}{op ln:Int}(hA:OkA A)(hT:C0 A)(hs:s[m]?=some (RO z t A p))(ho:s[o]?=some (.row [.int .i64 op,.int .i64 ln,.str [],.str [],.nils,.int .i64 0,.int .i64 0,.str [],.nils,.nils,.nils] 105 0 0))(hne:m≠o)(hp:p<=A.length)(hf:10*(A.length - p)+9<=n):
  Li 235 s m o z t A (fun v q r=>match I7 n (A.drop p) with
   | some ((x,b),ts)=>v=.bool true/\r=[.int .i64 op,.int .i64 ln,.str [],.str [],.nils,.int .i64 x.op,.int .i64 x.n,.str x.nm,SL x.z x.t (x.l.map Xp.row),SL true 0 (b.map Sp.row),.nils]/\A.drop q=ts
   | none=>v=.bool false/\L9 r):=by
 refine Ns T235 hs ho hne fun S hS=>?_
 have hl:A.length<=1000000:=by have:=hA.len;omega
 have hS':=hS
 have hm:=hS.low
 have hmo:=hS.lowo
 obtain⟨v,q,h1,h2,h3⟩:=Rh hS (r:=[.int .i64 op,.int .i64 ln,.str [],.str [],.nils,.int .i64 0,.int .i64 0,.str [],.nils,.nils,.nils]) fun hs=>Ow (Sz n).1 hA hs hp (by omega)
 unfold PR at h3
 have hqx:∀ x ts,pe n 1 (A.drop p)=some (x,ts)->I7 n (A.drop p)=match Dw n ts with
   | none=>none
   | some (b,ts)=>some ((x,b),ts):=fun x ts h=>by unfold I7;rw[h]
 have hqn:pe n 1 (A.drop p)=none->I7 n (A.drop p)=none:=fun h=>by unfold I7;rw[h]
 have hlt:=fun x ts (h:pe n 1 (A.drop p)=some (x,ts))=>(Rv n).1 _ _ _ _ h
 rw[C5]at hlt
 cases hx:pe n 1 (A.drop p) with
 | none=>
  rw[hx]at h3
  subst h3
  rw[hqn hx]
  have Zq:=Dx hS
  obtain⟨-,-,-,-,hlen,get,get0,set,set0,go,go0,so,so0,n0,n1,u0,u1⟩:=hS
  simp only[go_sem,Zq,LZ]
  refine Ac h1 ?_
  simp only[go_sem,Zq,LZ]
  exact D0 rfl ⟨rfl,rfl⟩ h2 (by simp only[Am,Av,Ae,Bb,Bj];simp only[V.rowB];trivial) ⟨rfl,_,_,_,_,_,_,_,_,_,_,_,rfl,by simp only[Am,Av,Ae,Bb,Bj];simp only[V.rowB];trivial⟩
 | some xr=>
  obtain⟨x,ts⟩:=xr
  rw[hx]at h3
  obtain⟨rfl,h3⟩:=h3
  have hxs:=E8 x
  have hr:=A9 x
  rw[hr]at h1 hxs
  rw[hqx x ts hx,<-h3]
  have hlt:=hlt x ts hx
  have htl:ts.length=A.length - q:=by rw[<-h3,C5]
  obtain⟨v2,q2,r2,k1,k2,k3⟩:=Z7 (c0:=.int .i64 op) (c1:=.int .i64 ln) (c2:=.str []) (c3:=.str []) (c4:=.nils) (c5:=.int .i64 x.op) (c6:=.int .i64 x.n) (c7:=.str x.nm) (c8:=SL x.z x.t (x.l.map Xp.row)) (c9:=.nils) (c10:=.nils) hB hA hT (hS'.get0 q _) (hS'.go0 q _) hne h2 (by simp only[Am,Av,Ae,Bb,Bj];simp only[V.rowB];trivial) (by omega)
  rw[show((S q [.int .i64 op,.int .i64 ln,.str [],.str [],.nils,.int .i64 x.op,.int .i64 x.n,.str x.nm,SL x.z x.t (x.l.map Xp.row),.nils,.nils]).set m (RO z t A q2)).set o (.row r2 105 0 0)=S q2 r2 from by rw[show(S q _).set m (RO z t A q2)=S q2 _ from hS'.set0 q q2 _,hS'.so0]]at k1
  have Zq:=Dx hS
  obtain⟨-,-,-,-,hlen,get,get0,set,set0,go,go0,so,so0,n0,n1,u0,u1⟩:=hS
  simp only[go_sem,Zq,LZ]
  refine Ac h1 ?_
  simp only[go_sem,Zq,LZ]
  refine Ac k1 ?_
  cases hb:Dw n (A.drop q) with
  | none=>
   rw[hb]at k3
   obtain⟨rfl,rfl⟩:=k3
   simp only[go_sem,Zq,LZ]
   exact D0 rfl ⟨rfl,rfl⟩ k2 (by simp only[Am,Av,Ae,Bb,Bj];simp only[V.rowB];trivial) ⟨rfl,_,_,_,_,_,_,_,_,_,_,_,rfl,by simp only[Am,Av,Ae,Bb,Bj];simp only[V.rowB];trivial⟩
  | some bl=>
   obtain⟨b,tl⟩:=bl
   rw[hb]at k3
   obtain⟨rfl,rfl,k3⟩:=k3
   simp only[go_sem,Zq,LZ]
   exact D0 rfl ⟨rfl,rfl⟩ k2 (by simp only[Am,Av,Ae,Bb,Bj];simp only[V.rowB];trivial) ⟨rfl,rfl,k3⟩
theorem Amt{n:Nat}(hB:Pt n){s:St}{m o:Nat}{z:Bool}{t:Nat}{A:List Tk}{p:Nat}{op ln:Int}(hA:OkA A)(hT:C0 A)(hs:s[m]?=some (RO z t A p))(ho:s[o]?=some (.row [.int .i64 op,.int .i64 ln,.str [],.str [],.nils,.int .i64 0,.int .i64 0,.str [],.nils,.nils,.nils] 105 0 0))(hne:m≠o)(hp:p<=A.length)(hf:10*(A.length - p)+9<=n):
  Li 234 s m o z t A (fun v q r=>match Uw n (A.drop p) with
   | some ((x,b,e),ts)=>v=.bool true/\r=[.int .i64 op,.int .i64 ln,.str [],.str [],.nils,.int .i64 x.op,.int .i64 x.n,.str x.nm,SL x.z x.t (x.l.map Xp.row),SL true 0 (b.map Sp.row),SL true 0 (e.map Sp.row)]/\A.drop q=ts
   | none=>v=.bool false/\L9 r):=by
 refine Ns T234 hs ho hne fun S hS=>?_
 have hl:A.length<=1000000:=by have:=hA.len;omega
 have hS':=hS
 have hm:=hS.low
 have hmo:=hS.lowo
 obtain⟨v1,q,r1,h1,h2,h3⟩:=Aex hB hA hT (hS'.get0 p _) (hS'.go0 p [.int .i64 op,.int .i64 ln,.str [],.str [],.nils,.int .i64 0,.int .i64 0,.str [],.nils,.nils,.nils]) hne hp hf
 rw[show((S p [.int .i64 op,.int .i64 ln,.str [],.str [],.nils,.int .i64 0,.int .i64 0,.str [],.nils,.nils,.nils]).set m (RO z t A q)).set o (.row r1 105 0 0)=S q r1 from by rw[show(S p _).set m (RO z t A q)=S q _ from hS'.set0 p q _,hS'.so0]]at h1
 have hlt:=fun x ts (h:pe n 1 (A.drop p)=some (x,ts))=>(Rv n).1 _ _ _ _ h
 rw[C5]at hlt
 unfold Uw
 cases hq:I7 n (A.drop p) with
 | none=>
  rw[hq]at h3
  obtain⟨rfl,hbad⟩:=h3
  have Zq:=Dx hS
  obtain⟨-,-,-,-,hlen,get,get0,set,set0,go,go0,so,so0,n0,n1,u0,u1⟩:=hS
  simp only[go_sem,Zq,LZ]
  refine Ac h1 ?_
  simp only[go_sem,Zq,LZ]
  exact D0 rfl ⟨rfl,rfl⟩ h2 (by obtain⟨_,_,_,_,_,_,_,_,_,_,_,-,hb⟩:=hbad;exact hb) ⟨rfl,hbad⟩
 | some xb=>
  obtain⟨⟨x,b⟩,ts⟩:=xb
  rw[hq]at h3
  obtain⟨rfl,rfl,h3⟩:=h3
  simp only
  rw[<-h3]
  have hts:A.length - q<A.length - p:=by
   unfold I7 at hq
   split at hq
   ·cases hq
   ·rename_i y t1 hy
    have:=hlt _ _ hy
    split at hq
    ·cases hq
    ·rename_i b' t2 hb'
     cases hq
     have h4:=((Wy (M:=0) (C:=100) (by omega) n).2.1 _ _ _ (B9 hT (by
      have:=((Qx (C:=25) (Ah _) n).1 _ _ _ _ (B9 hT (Sj p A)) hy).2.1
      exact this.trans (Sj p A))) hb').2.2.1
     have h5:(A.drop q).length=A.length - q:=C5
     rw[h3]at h5
     omega
  by_cases he:Ai [101,108,115,101] (A.drop q)=true
  ·rw[if_pos he,<-Dd]
   have ha:=Pb hS' (r:=[.int .i64 op,.int .i64 ln,.str [],.str [],.nils,.int .i64 x.op,.int .i64 x.n,.str x.nm,SL x.z x.t (x.l.map Xp.row),SL true 0 (b.map Sp.row),.nils]) hl he
   have hlt2:=C8 he
   obtain⟨v2,q2,k1,k2,k3⟩:=Rh hS' (p:=q+1) (r:=[.int .i64 op,.int .i64 ln,.str [],.str [],.nils,.int .i64 x.op,.int .i64 x.n,.str x.nm,SL x.z x.t (x.l.map Xp.row),SL true 0 (b.map Sp.row),.nils]) fun hs=>hB _ m z t A (q+1) hA hT hs (by omega) (by omega)
   unfold Vd at k3
   have Zq:=Dx hS
   obtain⟨-,-,-,-,hlen,get,get0,set,set0,go,go0,so,so0,n0,n1,u0,u1⟩:=hS
   simp only[go_sem,Zq,LZ]
   refine Ac h1 ?_
   simp only[go_sem,Zq,LZ]
   refine Ac ha ?_
   simp only[go_sem,Zq,LZ]
   cases hb:Dw n (A.drop (q+1)) with
   | none=>
    rw[hb]at k3
    subst k3
    refine Ac k1 ?_
    simp only[go_sem,Zq,LZ]
    exact D0 rfl ⟨rfl,rfl⟩ k2 (by simp only[Am,Av,Ae,Bb,Bj];simp only[V.rowB];trivial) ⟨rfl,_,_,_,_,_,_,_,_,_,_,_,rfl,by simp only[Am,Av,Ae,Bb,Bj];simp only[V.rowB];trivial⟩
   | some el=>
    obtain⟨e,tl⟩:=el
    rw[hb]at k3
    obtain⟨rfl,k3⟩:=k3
    refine Ac k1 ?_
    simp only[go_sem,Zq,LZ]
    exact D0 rfl ⟨rfl,rfl⟩ k2 (by simp only[Am,Av,Ae,Bb,Bj];simp only[V.rowB];trivial) ⟨rfl,rfl,k3⟩
  ·have he:Ai [101,108,115,101] (A.drop q)=false:=by simpa using he
   rw[if_neg (by rw[he];decide)]
   have ha:=Pc hS' (r:=[.int .i64 op,.int .i64 ln,.str [],.str [],.nils,.int .i64 x.op,.int .i64 x.n,.str x.nm,SL x.z x.t (x.l.map Xp.row),SL true 0 (b.map Sp.row),.nils]) hl h2 he
   have Zq:=Dx hS
   obtain⟨-,-,-,-,hlen,get,get0,set,set0,go,go0,so,so0,n0,n1,u0,u1⟩:=hS
   simp only[go_sem,Zq,LZ]
   refine Ac h1 ?_
   simp only[go_sem,Zq,LZ]
   refine Ac ha ?_
   simp only[go_sem,Zq,LZ]
   exact D0 rfl ⟨rfl,rfl⟩ h2 (by simp only[Am,Av,Ae,Bb,Bj];simp only[V.rowB];trivial) ⟨rfl,rfl,rfl⟩
theorem Aqv{n:Nat}(hB:Pt n){s:St}{m o:Nat}{z:Bool}{t:Nat}{A:List Tk}{p:Nat}{op ln:Int}(hA:OkA A)(hT:C0 A)(hs:s[m]?=some (RO z t A p))(ho:s[o]?=some (.row [.int .i64 op,.int .i64 ln,.str [],.str [],.nils,.int .i64 0,.int .i64 0,.str [],.nils,.nils,.nils] 105 0 0))(hne:m≠o)(hp:p<=A.length)(hf:10*(A.length - p)+9<=n):
  Li 236 s m o z t A (fun v q r=>match Ve n (A.drop p) with
   | some ((nm,b),ts)=>v=.bool true/\r=[.int .i64 op,.int .i64 ln,.str nm,.str [],.nils,.int .i64 0,.int .i64 0,.str [],.nils,SL true 0 (b.map Sp.row),.nils]/\A.drop q=ts
   | none=>v=.bool false/\L9 r):=by
 refine Ns T236 hs ho hne fun S hS=>?_
 have hl:A.length<=1000000:=by have:=hA.len;omega
 have hS':=hS
 have hm:=hS.low
 have hmo:=hS.lowo
 unfold Ve
 cases hn:B4 (A.drop p) with
 | none=>
  have h1:=Rj hS' (r:=[.int .i64 op,.int .i64 ln,.str [],.str [],.nils,.int .i64 0,.int .i64 0,.str [],.nils,.nils,.nils]) hl hp hn
  have Zq:=Dx hS
  obtain⟨-,-,-,-,hlen,get,get0,set,set0,go,go0,so,so0,n0,n1,u0,u1⟩:=hS
  simp only[go_sem,Zq,LZ]
  refine Ac h1 ?_
  simp only[go_sem,Zq,LZ]
  exact D0 rfl ⟨rfl,rfl⟩ hp (by simp only[Am,Av,Ae,Bb,Bj];simp only[V.rowB];trivial) ⟨rfl,_,_,_,_,_,_,_,_,_,_,_,rfl,by simp only[Am,Av,Ae,Bb,Bj];simp only[V.rowB];trivial⟩
 | some nt=>
  obtain⟨nm,ts⟩:=nt
  obtain⟨h1,hlt,h3⟩:=Ri hS' (r:=[.int .i64 op,.int .i64 ln,.str [],.str [],.nils,.int .i64 0,.int .i64 0,.str [],.nils,.nils,.nils]) hl hp hn
  simp only
  rw[<-h3]
  obtain⟨v2,q2,r2,k1,k2,k3⟩:=Z7 (c0:=.int .i64 op) (c1:=.int .i64 ln) (c2:=.str nm) (c3:=.str []) (c4:=.nils) (c5:=.int .i64 0) (c6:=.int .i64 0) (c7:=.str []) (c8:=.nils) (c9:=.nils) (c10:=.nils) hB hA hT (hS'.get0 (p+1) _) (hS'.go0 (p+1) _) hne (Fu hlt) (by simp only[Am,Av,Ae,Bb,Bj];simp only[V.rowB];trivial) (by omega)
  rw[show((S (p+1) [.int .i64 op,.int .i64 ln,.str nm,.str [],.nils,.int .i64 0,.int .i64 0,.str [],.nils,.nils,.nils]).set m (RO z t A q2)).set o (.row r2 105 0 0)=S q2 r2 from by rw[show(S (p+1) _).set m (RO z t A q2)=S q2 _ from hS'.set0 (p+1) q2 _,hS'.so0]]at k1
  have Zq:=Dx hS
  obtain⟨-,-,-,-,hlen,get,get0,set,set0,go,go0,so,so0,n0,n1,u0,u1⟩:=hS
  simp only[go_sem,Zq,LZ]
  refine Ac h1 ?_
  simp only[go_sem,Zq,LZ]
  refine Ac k1 ?_
  cases hb:Dw n (A.drop (p+1)) with
  | none=>
   rw[hb]at k3
   obtain⟨rfl,rfl⟩:=k3
   simp only[go_sem,Zq,LZ]
   exact D0 rfl ⟨rfl,rfl⟩ k2 (by simp only[Am,Av,Ae,Bb,Bj];simp only[V.rowB];trivial) ⟨rfl,_,_,_,_,_,_,_,_,_,_,_,rfl,by simp only[Am,Av,Ae,Bb,Bj];simp only[V.rowB];trivial⟩
  | some bl=>
   obtain⟨b,tl⟩:=bl
   rw[hb]at k3
   obtain⟨rfl,rfl,k3⟩:=k3
   simp only[go_sem,Zq,LZ]
   exact D0 rfl ⟨rfl,rfl⟩ k2 (by simp only[Am,Av,Ae,Bb,Bj];simp only[V.rowB];trivial) ⟨rfl,rfl,k3⟩
theorem Amb{n:Nat}{s:St}{m o:Nat}{z:Bool}{t:Nat}{A:List Tk}{p:Nat}{op ln:Int}(hA:OkA A)(hT:C0 A)(hs:s[m]?=some (RO z t A p))(ho:s[o]?=some (.row [.int .i64 op,.int .i64 ln,.str [],.str [],.nils,.int .i64 0,.int .i64 0,.str [],.nils,.nils,.nils] 105 0 0))(hne:m≠o)(hp:p<=A.length)(hf:10*(A.length - p)+9<=n):
  Li 238 s m o z t A (fun v q r=>match Vf (A.drop p) with
   | some (nm,ts)=>v=.bool true/\r=[.int .i64 op,.int .i64 ln,.str nm,.str [],.nils,.int .i64 0,.int .i64 0,.str [],.nils,.nils,.nils]/\A.drop q=ts
   | none=>v=.bool false/\L9 r):=by
 refine Ns T238 hs ho hne fun S hS=>?_
 have hl:A.length<=1000000:=by have:=hA.len;omega
 have hS':=hS
 have hm:=hS.low
 have hmo:=hS.lowo
 unfold Vf
 cases hn:B4 (A.drop p) with
 | none=>
  have h1:=Rj hS' (r:=[.int .i64 op,.int .i64 ln,.str [],.str [],.nils,.int .i64 0,.int .i64 0,.str [],.nils,.nils,.nils]) hl hp hn
  have Zq:=Dx hS
  obtain⟨-,-,-,-,hlen,get,get0,set,set0,go,go0,so,so0,n0,n1,u0,u1⟩:=hS
  simp only[go_sem,Zq,LZ]
  refine Ac h1 ?_
  simp only[go_sem,Zq,LZ]
  exact D0 rfl ⟨rfl,rfl⟩ hp (by simp only[Am,Av,Ae,Bb,Bj];simp only[V.rowB];trivial) ⟨rfl,_,_,_,_,_,_,_,_,_,_,_,rfl,by simp only[Am,Av,Ae,Bb,Bj];simp only[V.rowB];trivial⟩
 | some nt=>
  obtain⟨nm,ts⟩:=nt
  obtain⟨h1,hlt,h3⟩:=Ri hS' (r:=[.int .i64 op,.int .i64 ln,.str [],.str [],.nils,.int .i64 0,.int .i64 0,.str [],.nils,.nils,.nils]) hl hp hn
  simp only
  rw[<-h3]
  unfold Co
  by_cases he:Ai [59] (A.drop (p+1))=true
  ·rw[if_pos he,<-Dd]
   have ha:=Pb hS' (r:=[.int .i64 op,.int .i64 ln,.str nm,.str [],.nils,.int .i64 0,.int .i64 0,.str [],.nils,.nils,.nils]) hl he
   have hlt9:=C8 he
   have Zq:=Dx hS
   obtain⟨-,-,-,-,hlen,get,get0,set,set0,go,go0,so,so0,n0,n1,u0,u1⟩:=hS
   simp only[go_sem,Zq,LZ]
   refine Ac h1 ?_
   simp only[go_sem,Zq,LZ]
   refine Ac ha ?_
   simp only[go_sem,Zq,LZ]
   exact D0 rfl ⟨rfl,rfl⟩ (by omega) (by simp only[Am,Av,Ae,Bb,Bj];simp only[V.rowB];trivial) ⟨rfl,rfl,rfl⟩
  ·have he:Ai [59] (A.drop (p+1))=false:=by simpa using he
   rw[if_neg (by rw[he];decide)]
   have ha:=Pc hS' (r:=[.int .i64 op,.int .i64 ln,.str nm,.str [],.nils,.int .i64 0,.int .i64 0,.str [],.nils,.nils,.nils]) hl (Fu hlt) he
   have Zq:=Dx hS
   obtain⟨-,-,-,-,hlen,get,get0,set,set0,go,go0,so,so0,n0,n1,u0,u1⟩:=hS
   simp only[go_sem,Zq,LZ]
   refine Ac h1 ?_
   simp only[go_sem,Zq,LZ]
   refine Ac ha ?_
   simp only[go_sem,Zq,LZ]
   exact D0 rfl ⟨rfl,rfl⟩ (Fu hlt) (by simp only[Am,Av,Ae,Bb,Bj];simp only[V.rowB];trivial) ⟨rfl,_,_,_,_,_,_,_,_,_,_,_,rfl,by simp only[Am,Av,Ae,Bb,Bj];simp only[V.rowB];trivial⟩
theorem Aod{n:Nat}{s:St}{m o:Nat}{z:Bool}{t:Nat}{A:List Tk}{p:Nat}{op ln:Int}(hA:OkA A)(hT:C0 A)(hs:s[m]?=some (RO z t A p))(ho:s[o]?=some (.row [.int .i64 op,.int .i64 ln,.str [],.str [],.nils,.int .i64 0,.int .i64 0,.str [],.nils,.nils,.nils] 105 0 0))(hne:m≠o)(hp:p<=A.length)(hf:10*(A.length - p)+9<=n):
  Li 240 s m o z t A (fun v q r=>match U6 (A.drop p) with
   | some ((nm,ar),ts)=>v=.bool true/\r=[.int .i64 op,.int .i64 ln,.str nm,.str ar,.nils,.int .i64 0,.int .i64 0,.str [],.nils,.nils,.nils]/\A.drop q=ts
   | none=>v=.bool false/\L9 r):=by
 refine Ns T240 hs ho hne fun S hS=>?_
 have hl:A.length<=1000000:=by have:=hA.len;omega
 have hS':=hS
 have hm:=hS.low
 have hmo:=hS.lowo
 unfold U6
 cases hn:B4 (A.drop p) with
 | none=>
  have h1:=Rj hS' (r:=[.int .i64 op,.int .i64 ln,.str [],.str [],.nils,.int .i64 0,.int .i64 0,.str [],.nils,.nils,.nils]) hl hp hn
  have Zq:=Dx hS
  obtain⟨-,-,-,-,hlen,get,get0,set,set0,go,go0,so,so0,n0,n1,u0,u1⟩:=hS
  simp only[go_sem,Zq,LZ]
  refine Ac h1 ?_
  simp only[go_sem,Zq,LZ]
  exact D0 rfl ⟨rfl,rfl⟩ hp (by simp only[Am,Av,Ae,Bb,Bj];simp only[V.rowB];trivial) ⟨rfl,_,_,_,_,_,_,_,_,_,_,_,rfl,by simp only[Am,Av,Ae,Bb,Bj];simp only[V.rowB];trivial⟩
 | some nt=>
  obtain⟨nm,ts⟩:=nt
  obtain⟨h1,hlt,h3⟩:=Ri hS' (r:=[.int .i64 op,.int .i64 ln,.str [],.str [],.nils,.int .i64 0,.int .i64 0,.str [],.nils,.nils,.nils]) hl hp hn
  simp only
  rw[<-h3]
  cases hn2:B4 (A.drop (p+1)) with
  | none=>
   have k1:=Rj hS' (r:=[.int .i64 op,.int .i64 ln,.str nm,.str [],.nils,.int .i64 0,.int .i64 0,.str [],.nils,.nils,.nils]) hl (Fu hlt) hn2
   have Zq:=Dx hS
   obtain⟨-,-,-,-,hlen,get,get0,set,set0,go,go0,so,so0,n0,n1,u0,u1⟩:=hS
   simp only[go_sem,Zq,LZ]
   refine Ac h1 ?_
   simp only[go_sem,Zq,LZ]
   refine Ac k1 ?_
   simp only[go_sem,Zq,LZ]
   exact D0 rfl ⟨rfl,rfl⟩ (Fu hlt) (by simp only[Am,Av,Ae,Bb,Bj];simp only[V.rowB];trivial) ⟨rfl,_,_,_,_,_,_,_,_,_,_,_,rfl,by simp only[Am,Av,Ae,Bb,Bj];simp only[V.rowB];trivial⟩
  | some nt2=>
   obtain⟨ar,ts2⟩:=nt2
   obtain⟨k1,hlt2,k3⟩:=Ri hS' (r:=[.int .i64 op,.int .i64 ln,.str nm,.str [],.nils,.int .i64 0,.int .i64 0,.str [],.nils,.nils,.nils]) hl (Fu hlt) hn2
   simp only
   rw[<-k3]
   unfold Co
   by_cases he:Ai [59] (A.drop (p+1+1))=true
   ·rw[if_pos he,<-Dd]
    have ha:=Pb hS' (r:=[.int .i64 op,.int .i64 ln,.str nm,.str ar,.nils,.int .i64 0,.int .i64 0,.str [],.nils,.nils,.nils]) hl he
    have hlt9:=C8 he
    have Zq:=Dx hS
    obtain⟨-,-,-,-,hlen,get,get0,set,set0,go,go0,so,so0,n0,n1,u0,u1⟩:=hS
    simp only[go_sem,Zq,LZ]
    refine Ac h1 ?_
    simp only[go_sem,Zq,LZ]
    refine Ac k1 ?_
    simp only[go_sem,Zq,LZ]
    refine Ac ha ?_
    simp only[go_sem,Zq,LZ]
    exact D0 rfl ⟨rfl,rfl⟩ (by omega) (by simp only[Am,Av,Ae,Bb,Bj];simp only[V.rowB];trivial) ⟨rfl,rfl,rfl⟩
   ·have he:Ai [59] (A.drop (p+1+1))=false:=by simpa using he
    rw[if_neg (by rw[he];decide)]
    have ha:=Pc hS' (r:=[.int .i64 op,.int .i64 ln,.str nm,.str ar,.nils,.int .i64 0,.int .i64 0,.str [],.nils,.nils,.nils]) hl (Fu hlt2) he
    have Zq:=Dx hS
    obtain⟨-,-,-,-,hlen,get,get0,set,set0,go,go0,so,so0,n0,n1,u0,u1⟩:=hS
    simp only[go_sem,Zq,LZ]
    refine Ac h1 ?_
    simp only[go_sem,Zq,LZ]
    refine Ac k1 ?_
    simp only[go_sem,Zq,LZ]
    refine Ac ha ?_
    simp only[go_sem,Zq,LZ]
    exact D0 rfl ⟨rfl,rfl⟩ (Fu hlt2) (by simp only[Am,Av,Ae,Bb,Bj];simp only[V.rowB];trivial) ⟨rfl,_,_,_,_,_,_,_,_,_,_,_,rfl,by simp only[Am,Av,Ae,Bb,Bj];simp only[V.rowB];trivial⟩
theorem Aoe{n:Nat}{s:St}{m o:Nat}{z:Bool}{t:Nat}{A:List Tk}{p:Nat}{op ln:Int}(hA:OkA A)(hT:C0 A)(hs:s[m]?=some (RO z t A p))(ho:s[o]?=some (.row [.int .i64 op,.int .i64 ln,.str [],.str [],.nils,.int .i64 0,.int .i64 0,.str [],.nils,.nils,.nils] 105 0 0))(hne:m≠o)(hp:p<=A.length)(hf:10*(A.length - p)+9<=n):
  Li 239 s m o z t A (fun v q r=>match U5 n (A.drop p) with
   | some ((nm,x),ts)=>v=.bool true/\r=[.int .i64 op,.int .i64 ln,.str nm,.str [],.nils,.int .i64 x.op,.int .i64 x.n,.str x.nm,SL x.z x.t (x.l.map Xp.row),.nils,.nils]/\A.drop q=ts
   | none=>v=.bool false/\L9 r):=by
 refine Ns T239 hs ho hne fun S hS=>?_
 have hl:A.length<=1000000:=by have:=hA.len;omega
 have hS':=hS
 have hm:=hS.low
 have hmo:=hS.lowo
 unfold U5
 cases hn:B4 (A.drop p) with
 | none=>
  have h1:=Rj hS' (r:=[.int .i64 op,.int .i64 ln,.str [],.str [],.nils,.int .i64 0,.int .i64 0,.str [],.nils,.nils,.nils]) hl hp hn
  have Zq:=Dx hS
  obtain⟨-,-,-,-,hlen,get,get0,set,set0,go,go0,so,so0,n0,n1,u0,u1⟩:=hS
  simp only[go_sem,Zq,LZ]
  refine Ac h1 ?_
  simp only[go_sem,Zq,LZ]
  exact D0 rfl ⟨rfl,rfl⟩ hp (by simp only[Am,Av,Ae,Bb,Bj];simp only[V.rowB];trivial) ⟨rfl,_,_,_,_,_,_,_,_,_,_,_,rfl,by simp only[Am,Av,Ae,Bb,Bj];simp only[V.rowB];trivial⟩
 | some nt=>
  obtain⟨nm,ts⟩:=nt
  obtain⟨h1,hlt,h3⟩:=Ri hS' (r:=[.int .i64 op,.int .i64 ln,.str [],.str [],.nils,.int .i64 0,.int .i64 0,.str [],.nils,.nils,.nils]) hl hp hn
  simp only
  rw[<-h3]
  obtain⟨v,q,k1,k2,k3⟩:=Rh hS' (p:=p+1) (r:=[.int .i64 op,.int .i64 ln,.str nm,.str [],.nils,.int .i64 0,.int .i64 0,.str [],.nils,.nils,.nils]) fun hs=>Ow (Sz n).1 hA hs (Fu hlt) (by omega)
  unfold PR at k3
  cases hx:pe n 1 (A.drop (p+1)) with
  | none=>
   rw[hx]at k3
   subst k3
   have Zq:=Dx hS
   obtain⟨-,-,-,-,hlen,get,get0,set,set0,go,go0,so,so0,n0,n1,u0,u1⟩:=hS
   simp only[go_sem,Zq,LZ]
   refine Ac h1 ?_
   simp only[go_sem,Zq,LZ]
   refine Ac k1 ?_
   simp only[go_sem,Zq,LZ]
   exact D0 rfl ⟨rfl,rfl⟩ k2 (by simp only[Am,Av,Ae,Bb,Bj];simp only[V.rowB];trivial) ⟨rfl,_,_,_,_,_,_,_,_,_,_,_,rfl,by simp only[Am,Av,Ae,Bb,Bj];simp only[V.rowB];trivial⟩
  | some xr=>
   obtain⟨x,ts2⟩:=xr
   rw[hx]at k3
   obtain⟨rfl,k3⟩:=k3
   have hxs:=E8 x
   have hr:=A9 x
   rw[hr]at k1 hxs
   simp only
   rw[<-k3]
   unfold Co
   by_cases he:Ai [59] (A.drop q)=true
   ·rw[if_pos he,<-Dd]
    have ha:=Pb hS' (r:=[.int .i64 op,.int .i64 ln,.str nm,.str [],.nils,.int .i64 x.op,.int .i64 x.n,.str x.nm,SL x.z x.t (x.l.map Xp.row),.nils,.nils]) hl he
    have hlt9:=C8 he
    have Zq:=Dx hS
    obtain⟨-,-,-,-,hlen,get,get0,set,set0,go,go0,so,so0,n0,n1,u0,u1⟩:=hS
    simp only[go_sem,Zq,LZ]
    refine Ac h1 ?_
    simp only[go_sem,Zq,LZ]
    refine Ac k1 ?_
    simp only[go_sem,Zq,LZ]
    refine Ac ha ?_
    simp only[go_sem,Zq,LZ]
    exact D0 rfl ⟨rfl,rfl⟩ (by omega) (by simp only[Am,Av,Ae,Bb,Bj];simp only[V.rowB];trivial) ⟨rfl,rfl,rfl⟩
   ·have he:Ai [59] (A.drop q)=false:=by simpa using he
    rw[if_neg (by rw[he];decide)]
    have ha:=Pc hS' (r:=[.int .i64 op,.int .i64 ln,.str nm,.str [],.nils,.int .i64 x.op,.int .i64 x.n,.str x.nm,SL x.z x.t (x.l.map Xp.row),.nils,.nils]) hl k2 he
    have Zq:=Dx hS
    obtain⟨-,-,-,-,hlen,get,get0,set,set0,go,go0,so,so0,n0,n1,u0,u1⟩:=hS
    simp only[go_sem,Zq,LZ]
    refine Ac h1 ?_
    simp only[go_sem,Zq,LZ]
    refine Ac k1 ?_
    simp only[go_sem,Zq,LZ]
    refine Ac ha ?_
    simp only[go_sem,Zq,LZ]
    exact D0 rfl ⟨rfl,rfl⟩ k2 (by simp only[Am,Av,Ae,Bb,Bj];simp only[V.rowB];trivial) ⟨rfl,_,_,_,_,_,_,_,_,_,_,_,rfl,by simp only[Am,Av,Ae,Bb,Bj];simp only[V.rowB];trivial⟩
theorem Al0{n:Nat}{s:St}{m o:Nat}{z:Bool}{t:Nat}{A:List Tk}{p:Nat}{ln:Int}(hA:OkA A)(hT:C0 A)(hs:s[m]?=some (RO z t A p))(ho:s[o]?=some (.row [.int .i64 1,.int .i64 ln,.str [],.str [],.nils,.int .i64 0,.int .i64 0,.str [],.nils,.nils,.nils] 105 0 0))(hne:m≠o)(hp:p<=A.length)(hf:10*(A.length - p)+9<=n):
  Li 203 s m o z t A (fun v q r=>match Mc n ln (A.drop p) with
   | some (x,ts)=>v=.bool true/\r=x.row/\A.drop q=ts
   | none=>v=.bool false/\L9 r):=by
 refine Ns T203 hs ho hne fun S hS=>?_
 have hl:A.length<=1000000:=by have:=hA.len;omega
 have hS':=hS
 have hm:=hS.low
 have hmo:=hS.lowo
 unfold Mc
 cases hn:B4 (A.drop p) with
 | none=>
  have h1:=Rj hS' (r:=[.int .i64 1,.int .i64 ln,.str [],.str [],.nils,.int .i64 0,.int .i64 0,.str [],.nils,.nils,.nils]) hl hp hn
  have Zq:=Dx hS
  obtain⟨-,-,-,-,hlen,get,get0,set,set0,go,go0,so,so0,n0,n1,u0,u1⟩:=hS
  simp only[go_sem,Zq,LZ]
  refine Ac h1 ?_
  simp only[go_sem,Zq,LZ]
  exact D0 rfl ⟨rfl,rfl⟩ hp (by simp only[Am,Av,Ae,Bb,Bj];simp only[V.rowB];trivial) ⟨rfl,_,_,_,_,_,_,_,_,_,_,_,rfl,by simp only[Am,Av,Ae,Bb,Bj];simp only[V.rowB];trivial⟩
 | some nt=>
  obtain⟨nm,ts⟩:=nt
  obtain⟨h1,hlt,h3⟩:=Ri hS' (r:=[.int .i64 1,.int .i64 ln,.str [],.str [],.nils,.int .i64 0,.int .i64 0,.str [],.nils,.nils,.nils]) hl hp hn
  simp only
  rw[<-h3]
  unfold U2 Co
  by_cases h91:Ai [91] (A.drop (p+1))=true
  ·rw[if_pos h91,<-Dd]
   have hb:=Pb hS' (r:=[.int .i64 1,.int .i64 ln,.str nm,.str [],.nils,.int .i64 0,.int .i64 0,.str [],.nils,.nils,.nils]) hl h91
   have hlt2:=C8 h91
   obtain⟨v0,q0,j1,j2,j3⟩:=Rh hS' (p:=p+1+1) (r:=[.int .i64 1,.int .i64 ln,.str nm,.str [],.nils,.int .i64 0,.int .i64 0,.str [],.nils,.nils,.nils]) fun hs=>Ow (Sz n).1 hA hs (by omega) (by omega)
   unfold PR at j3
   have hple:=fun x ts (h:pe n 1 (A.drop (p+1+1))=some (x,ts))=>(Rv n).1 _ _ _ _ h
   rw[C5]at hple
   cases hy:pe n 1 (A.drop (p+1+1)) with
   | none=>
    rw[hy]at j3
    subst j3
    simp only
    have Zq:=Dx hS
    obtain⟨-,-,-,-,hlen,get,get0,set,set0,go,go0,so,so0,n0,n1,u0,u1⟩:=hS
    simp only[go_sem,Zq,LZ]
    refine Ac h1 ?_
    simp only[go_sem,Zq,LZ]
    refine Ac hb ?_
    simp only[go_sem,Zq,LZ]
    refine Ac j1 ?_
    simp only[go_sem,Zq,LZ]
    exact Rg rfl ⟨rfl,rfl⟩ j2 (by simp only[Am,Av,Ae,Bb,Bj];simp only[V.rowB];trivial) ⟨rfl,_,_,_,_,_,_,_,_,_,_,_,rfl,by simp only[Am,Av,Ae,Bb,Bj];simp only[V.rowB];trivial⟩
   | some yr=>
    obtain⟨y,ts8⟩:=yr
    rw[hy]at j3
    obtain⟨rfl,j3⟩:=j3
    have hys:=E8 y
    have hyr:=A9 y
    rw[hyr]at j1 hys
    have hple:=hple y ts8 hy
    have hq0:ts8.length=A.length - q0:=by rw[<-j3,C5]
    simp only
    rw[<-j3]
    by_cases h93:Ai [93] (A.drop q0)=true
    ·rw[if_pos h93]
     simp only[Et]
     rw[<-Dd]
     have hcb:=Aci hS' (r:=[.int .i64 1,.int .i64 ln,.str nm,.str [],.nils,.int .i64 0,.int .i64 0,.str [],.nils,.nils,.nils]) [.row [.int .i64 y.op,.int .i64 y.n,.str y.nm,SL y.z y.t (y.l.map Xp.row)] 103 0 0] hl h93
     have hlt3:=C8 h93
     by_cases h61:Ai [61] (A.drop (q0+1))=true
     ·rw[if_pos h61]
      simp only
      rw[<-Dd]
      have ha:=Aci hS' (r:=[.int .i64 1,.int .i64 ln,.str nm,.str [],.lst 1 [[.int .i64 y.op,.int .i64 y.n,.str y.nm,SL y.z y.t (y.l.map Xp.row)]],.int .i64 0,.int .i64 0,.str [],.nils,.nils,.nils]) [.row [.int .i64 y.op,.int .i64 y.n,.str y.nm,SL y.z y.t (y.l.map Xp.row)] 103 0 0] hl h61
      have hlt61:=C8 h61
      obtain⟨v,q,k1,k2,k3⟩:=A1e hS' (p:=(q0+1)+1) (r:=[.int .i64 1,.int .i64 ln,.str nm,.str [],.lst 1 [[.int .i64 y.op,.int .i64 y.n,.str y.nm,SL y.z y.t (y.l.map Xp.row)]],.int .i64 0,.int .i64 0,.str [],.nils,.nils,.nils]) (l:=[.row [.int .i64 y.op,.int .i64 y.n,.str y.nm,SL y.z y.t (y.l.map Xp.row)] 103 0 0]) fun hs=>Ow (Sz n).1 hA hs (Fu hlt61) (by omega)
      unfold PR at k3
      cases hx:pe n 1 (A.drop ((q0+1)+1)) with
      | none=>
       rw[hx]at k3
       subst k3
       simp only
       have Zq:=Dx hS
       obtain⟨-,-,-,-,hlen,get,get0,set,set0,go,go0,so,so0,n0,n1,u0,u1⟩:=hS
       simp only[go_sem,Zq,LZ]
       refine Ac h1 ?_
       simp only[go_sem,Zq,LZ]
       refine Ac hb ?_
       simp only[go_sem,Zq,LZ]
       refine Ac j1 ?_
       simp only[go_sem,Zq,LZ]
       refine Ac hcb ?_
       simp only[go_sem,Zq,LZ]
       refine Ac ha ?_
       simp only[go_sem,Zq,LZ]
       refine Ac k1 ?_
       simp only[go_sem,Zq,LZ]
       exact Rg rfl ⟨rfl,rfl⟩ k2 (by simp only[Am,Av,Ae,Bb,Bj];simp only[V.rowB];trivial) ⟨rfl,_,_,_,_,_,_,_,_,_,_,_,rfl,by simp only[Am,Av,Ae,Bb,Bj];simp only[V.rowB];trivial⟩
      | some xr=>
       obtain⟨x,ts9⟩:=xr
       rw[hx]at k3
       obtain⟨rfl,k3⟩:=k3
       have hxs:=E8 x
       have hr:=A9 x
       rw[hr]at k1 hxs
       simp only
       rw[<-k3]
       by_cases he:Ai [59] (A.drop q)=true
       ·rw[if_pos he,<-Dd]
        have hc:=Aci hS' (r:=[.int .i64 1,.int .i64 ln,.str nm,.str [],.lst 1 [[.int .i64 y.op,.int .i64 y.n,.str y.nm,SL y.z y.t (y.l.map Xp.row)]],.int .i64 x.op,.int .i64 x.n,.str x.nm,SL x.z x.t (x.l.map Xp.row),.nils,.nils]) [.row [.int .i64 y.op,.int .i64 y.n,.str y.nm,SL y.z y.t (y.l.map Xp.row)] 103 0 0] hl he
        have hlt9:=C8 he
        have Zq:=Dx hS
        obtain⟨-,-,-,-,hlen,get,get0,set,set0,go,go0,so,so0,n0,n1,u0,u1⟩:=hS
        simp only[go_sem,Zq,LZ]
        refine Ac h1 ?_
        simp only[go_sem,Zq,LZ]
        refine Ac hb ?_
        simp only[go_sem,Zq,LZ]
        refine Ac j1 ?_
        simp only[go_sem,Zq,LZ]
        refine Ac hcb ?_
        simp only[go_sem,Zq,LZ]
        refine Ac ha ?_
        simp only[go_sem,Zq,LZ]
        refine Ac k1 ?_
        simp only[go_sem,Zq,LZ]
        refine Ac hc ?_
        simp only[go_sem,Zq,LZ]
        exact Rg rfl ⟨rfl,rfl⟩ (by omega) (by simp only[Am,Av,Ae,Bb,Bj];simp only[V.rowB];trivial) ⟨rfl,by rw[Fk];simp only[A1,Cy,hyr];rfl,rfl⟩
       ·have he:Ai [59] (A.drop q)=false:=by simpa using he
        rw[if_neg (by rw[he];decide)]
        have hc:=Acj hS' (r:=[.int .i64 1,.int .i64 ln,.str nm,.str [],.lst 1 [[.int .i64 y.op,.int .i64 y.n,.str y.nm,SL y.z y.t (y.l.map Xp.row)]],.int .i64 x.op,.int .i64 x.n,.str x.nm,SL x.z x.t (x.l.map Xp.row),.nils,.nils]) [.row [.int .i64 y.op,.int .i64 y.n,.str y.nm,SL y.z y.t (y.l.map Xp.row)] 103 0 0] hl k2 he
        have Zq:=Dx hS
        obtain⟨-,-,-,-,hlen,get,get0,set,set0,go,go0,so,so0,n0,n1,u0,u1⟩:=hS
        simp only[go_sem,Zq,LZ]
        refine Ac h1 ?_
        simp only[go_sem,Zq,LZ]
        refine Ac hb ?_
        simp only[go_sem,Zq,LZ]
        refine Ac j1 ?_
        simp only[go_sem,Zq,LZ]
        refine Ac hcb ?_
        simp only[go_sem,Zq,LZ]
        refine Ac ha ?_
        simp only[go_sem,Zq,LZ]
        refine Ac k1 ?_
        simp only[go_sem,Zq,LZ]
        refine Ac hc ?_
        simp only[go_sem,Zq,LZ]
        exact Rg rfl ⟨rfl,rfl⟩ k2 (by simp only[Am,Av,Ae,Bb,Bj];simp only[V.rowB];trivial) ⟨rfl,_,_,_,_,_,_,_,_,_,_,_,rfl,by simp only[Am,Av,Ae,Bb,Bj];simp only[V.rowB];trivial⟩
     ·have h61:Ai [61] (A.drop (q0+1))=false:=by simpa using h61
      rw[if_neg (by rw[h61];decide)]
      simp only
      have ha:=Acj hS' (r:=[.int .i64 1,.int .i64 ln,.str nm,.str [],.lst 1 [[.int .i64 y.op,.int .i64 y.n,.str y.nm,SL y.z y.t (y.l.map Xp.row)]],.int .i64 0,.int .i64 0,.str [],.nils,.nils,.nils]) [.row [.int .i64 y.op,.int .i64 y.n,.str y.nm,SL y.z y.t (y.l.map Xp.row)] 103 0 0] hl (Fu hlt3) h61
      have Zq:=Dx hS
      obtain⟨-,-,-,-,hlen,get,get0,set,set0,go,go0,so,so0,n0,n1,u0,u1⟩:=hS
      simp only[go_sem,Zq,LZ]
      refine Ac h1 ?_
      simp only[go_sem,Zq,LZ]
      refine Ac hb ?_
      simp only[go_sem,Zq,LZ]
      refine Ac j1 ?_
      simp only[go_sem,Zq,LZ]
      refine Ac hcb ?_
      simp only[go_sem,Zq,LZ]
      refine Ac ha ?_
      simp only[go_sem,Zq,LZ]
      exact Rg rfl ⟨rfl,rfl⟩ (Fu hlt3) (by simp only[Am,Av,Ae,Bb,Bj];simp only[V.rowB];trivial) ⟨rfl,_,_,_,_,_,_,_,_,_,_,_,rfl,by simp only[Am,Av,Ae,Bb,Bj];simp only[V.rowB];trivial⟩
    ·have h93:Ai [93] (A.drop q0)=false:=by simpa using h93
     rw[if_neg (by rw[h93];decide)]
     simp only[Option.map_none]
     have hcb:=Acj hS' (r:=[.int .i64 1,.int .i64 ln,.str nm,.str [],.nils,.int .i64 0,.int .i64 0,.str [],.nils,.nils,.nils]) [.row [.int .i64 y.op,.int .i64 y.n,.str y.nm,SL y.z y.t (y.l.map Xp.row)] 103 0 0] hl j2 h93
     have Zq:=Dx hS
     obtain⟨-,-,-,-,hlen,get,get0,set,set0,go,go0,so,so0,n0,n1,u0,u1⟩:=hS
     simp only[go_sem,Zq,LZ]
     refine Ac h1 ?_
     simp only[go_sem,Zq,LZ]
     refine Ac hb ?_
     simp only[go_sem,Zq,LZ]
     refine Ac j1 ?_
     simp only[go_sem,Zq,LZ]
     refine Ac hcb ?_
     simp only[go_sem,Zq,LZ]
     exact Rg rfl ⟨rfl,rfl⟩ j2 (by simp only[Am,Av,Ae,Bb,Bj];simp only[V.rowB];trivial) ⟨rfl,_,_,_,_,_,_,_,_,_,_,_,rfl,by simp only[Am,Av,Ae,Bb,Bj];simp only[V.rowB];trivial⟩
  ·have h91:Ai [91] (A.drop (p+1))=false:=by simpa using h91
   rw[if_neg (by rw[h91];decide)]
   simp only
   have hb:=Pc hS' (r:=[.int .i64 1,.int .i64 ln,.str nm,.str [],.nils,.int .i64 0,.int .i64 0,.str [],.nils,.nils,.nils]) hl (Fu hlt) h91
   by_cases h61:Ai [61] (A.drop (p+1))=true
   ·rw[if_pos h61]
    simp only
    rw[<-Dd]
    have ha:=Pb hS' (r:=[.int .i64 1,.int .i64 ln,.str nm,.str [],.nils,.int .i64 0,.int .i64 0,.str [],.nils,.nils,.nils]) hl h61
    have hlt61:=C8 h61
    obtain⟨v,q,k1,k2,k3⟩:=Rh hS' (p:=(p+1)+1) (r:=[.int .i64 1,.int .i64 ln,.str nm,.str [],.nils,.int .i64 0,.int .i64 0,.str [],.nils,.nils,.nils]) fun hs=>Ow (Sz n).1 hA hs (Fu hlt61) (by omega)
    unfold PR at k3
    cases hx:pe n 1 (A.drop ((p+1)+1)) with
    | none=>
     rw[hx]at k3
     subst k3
     simp only
     have Zq:=Dx hS
     obtain⟨-,-,-,-,hlen,get,get0,set,set0,go,go0,so,so0,n0,n1,u0,u1⟩:=hS
     simp only[go_sem,Zq,LZ]
     refine Ac h1 ?_
     simp only[go_sem,Zq,LZ]
     refine Ac hb ?_
     simp only[go_sem,Zq,LZ]
     refine Ac ha ?_
     simp only[go_sem,Zq,LZ]
     refine Ac k1 ?_
     simp only[go_sem,Zq,LZ]
     exact D0 rfl ⟨rfl,rfl⟩ k2 (by simp only[Am,Av,Ae,Bb,Bj];simp only[V.rowB];trivial) ⟨rfl,_,_,_,_,_,_,_,_,_,_,_,rfl,by simp only[Am,Av,Ae,Bb,Bj];simp only[V.rowB];trivial⟩
    | some xr=>
     obtain⟨x,ts9⟩:=xr
     rw[hx]at k3
     obtain⟨rfl,k3⟩:=k3
     have hxs:=E8 x
     have hr:=A9 x
     rw[hr]at k1 hxs
     simp only
     rw[<-k3]
     by_cases he:Ai [59] (A.drop q)=true
     ·rw[if_pos he,<-Dd]
      have hc:=Pb hS' (r:=[.int .i64 1,.int .i64 ln,.str nm,.str [],.nils,.int .i64 x.op,.int .i64 x.n,.str x.nm,SL x.z x.t (x.l.map Xp.row),.nils,.nils]) hl he
      have hlt9:=C8 he
      have Zq:=Dx hS
      obtain⟨-,-,-,-,hlen,get,get0,set,set0,go,go0,so,so0,n0,n1,u0,u1⟩:=hS
      simp only[go_sem,Zq,LZ]
      refine Ac h1 ?_
      simp only[go_sem,Zq,LZ]
      refine Ac hb ?_
      simp only[go_sem,Zq,LZ]
      refine Ac ha ?_
      simp only[go_sem,Zq,LZ]
      refine Ac k1 ?_
      simp only[go_sem,Zq,LZ]
      refine Ac hc ?_
      simp only[go_sem,Zq,LZ]
      exact D0 rfl ⟨rfl,rfl⟩ (by omega) (by simp only[Am,Av,Ae,Bb,Bj];simp only[V.rowB];trivial) ⟨rfl,by rw[Fk];rfl,rfl⟩
     ·have he:Ai [59] (A.drop q)=false:=by simpa using he
      rw[if_neg (by rw[he];decide)]
      have hc:=Pc hS' (r:=[.int .i64 1,.int .i64 ln,.str nm,.str [],.nils,.int .i64 x.op,.int .i64 x.n,.str x.nm,SL x.z x.t (x.l.map Xp.row),.nils,.nils]) hl k2 he
      have Zq:=Dx hS
      obtain⟨-,-,-,-,hlen,get,get0,set,set0,go,go0,so,so0,n0,n1,u0,u1⟩:=hS
      simp only[go_sem,Zq,LZ]
      refine Ac h1 ?_
      simp only[go_sem,Zq,LZ]
      refine Ac hb ?_
      simp only[go_sem,Zq,LZ]
      refine Ac ha ?_
      simp only[go_sem,Zq,LZ]
      refine Ac k1 ?_
      simp only[go_sem,Zq,LZ]
      refine Ac hc ?_
      simp only[go_sem,Zq,LZ]
      exact D0 rfl ⟨rfl,rfl⟩ k2 (by simp only[Am,Av,Ae,Bb,Bj];simp only[V.rowB];trivial) ⟨rfl,_,_,_,_,_,_,_,_,_,_,_,rfl,by simp only[Am,Av,Ae,Bb,Bj];simp only[V.rowB];trivial⟩
   ·have h61:Ai [61] (A.drop (p+1))=false:=by simpa using h61
    rw[if_neg (by rw[h61];decide)]
    simp only
    have ha:=Pc hS' (r:=[.int .i64 1,.int .i64 ln,.str nm,.str [],.nils,.int .i64 0,.int .i64 0,.str [],.nils,.nils,.nils]) hl (Fu hlt) h61
    have Zq:=Dx hS
    obtain⟨-,-,-,-,hlen,get,get0,set,set0,go,go0,so,so0,n0,n1,u0,u1⟩:=hS
    simp only[go_sem,Zq,LZ]
    refine Ac h1 ?_
    simp only[go_sem,Zq,LZ]
    refine Ac hb ?_
    simp only[go_sem,Zq,LZ]
    refine Ac ha ?_
    simp only[go_sem,Zq,LZ]
    exact D0 rfl ⟨rfl,rfl⟩ (Fu hlt) (by simp only[Am,Av,Ae,Bb,Bj];simp only[V.rowB];trivial) ⟨rfl,_,_,_,_,_,_,_,_,_,_,_,rfl,by simp only[Am,Av,Ae,Bb,Bj];simp only[V.rowB];trivial⟩
end Go.Proofs.YtcoeikinocflnaaGreatDoor.KM
