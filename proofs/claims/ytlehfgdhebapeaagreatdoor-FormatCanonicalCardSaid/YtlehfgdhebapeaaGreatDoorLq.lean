/- Walks: the parser's statements. -/
import Derived.Test.YtlehfgdhebapeaaGreatDoorLn
import Derived.Test.YtlehfgdhebapeaaGreatDoorHc
set_option linter.all false
namespace Go.Proofs.YtlehfgdhebapeaaGreatDoor.KM
open Go
structure RdT (s:St) (m o:Nat) (z:Bool) (t:Nat) (A:List Tk) (S:Nat->List V->St):Prop where
 low:m<s.length
 lowo:o<s.length
 ne:m≠o
 eq:∀ p r,S p r=(s.set m (RO z t A p)).set o (.row r 92 0 0)
 len:∀ p r,(S p r).length=s.length
 get:∀ (p:Nat) (r:List V) (l:St),(S p r++l)[m]?=some (.row [SL z t (A.map Tk.row),.int .i64 (p:Int)] 100 0 0)
 get0:∀ (p:Nat) (r:List V),(S p r)[m]?=some (.row [SL z t (A.map Tk.row),.int .i64 (p:Int)] 100 0 0)
 set:∀ (p q:Nat) (r:List V) (l:St),(S p r++l).set m (.row [SL z t (A.map Tk.row),.int .i64 (q:Int)] 100 0 0)=S q r++l
 set0:∀ (p q:Nat) (r:List V),(S p r).set m (.row [SL z t (A.map Tk.row),.int .i64 (q:Int)] 100 0 0)=S q r
 go:∀ (p:Nat) (r:List V) (l:St),(S p r++l)[o]?=some (.row r 92 0 0)
 go0:∀ (p:Nat) (r:List V),(S p r)[o]?=some (.row r 92 0 0)
 so:∀ (p:Nat) (r r':List V) (l:St),(S p r++l).set o (.row r' 92 0 0)=S p r'++l
 so0:∀ (p:Nat) (r r':List V),(S p r).set o (.row r' 92 0 0)=S p r'
 n0:∀ (p:Nat) (r:List V) (a:Ob) (l:St),(S p r++a::l)[s.length]?=some a
 n1:∀ (p:Nat) (r:List V) (a b:Ob) (l:St),(S p r++a::b::l)[s.length+1]?=some b
 u0:∀ (p:Nat) (r:List V) (a x:Ob) (l:St),(S p r++a::l).set s.length x=S p r++x::l
 u1:∀ (p:Nat) (r:List V) (a b x:Ob) (l:St),(S p r++a::b::l).set (s.length+1) x=S p r++a::x::l
theorem Asv{s:St}{m o:Nat}(z:Bool)(t:Nat)(A:List Tk)(hm:m<s.length)(ho:o<s.length)(hne:m≠o):RdT s m o z t A (fun p r=>(s.set m (RO z t A p)).set o (.row r 92 0 0)):=by
 have hl:∀ p r,((s.set m (RO z t A p)).set o (.row r 92 0 0)).length=s.length:=fun p r=>by simp
 have hg:∀ (p:Nat) (r:List V),((s.set m (RO z t A p)).set o (.row r 92 0 0))[m]?=some (RO z t A p):=fun p r=>by
  rw[Bd (Ne.symm hne),A1 hm]
 have hgo:∀ (p:Nat) (r:List V),((s.set m (RO z t A p)).set o (.row r 92 0 0))[o]?=some (.row r 92 0 0):=fun p r=>A1 (by simpa using ho)
 have hs:∀ p q r,((s.set m (RO z t A p)).set o (.row r 92 0 0)).set m (RO z t A q)=(s.set m (RO z t A q)).set o (.row r 92 0 0):=fun p q r=>by
  rw[List.set_comm _ _ (Ne.symm hne),Sv]
 have hso:∀ p r r',((s.set m (RO z t A p)).set o (.row r 92 0 0)).set o (.row r' 92 0 0)=(s.set m (RO z t A p)).set o (.row r' 92 0 0):=fun p r r'=>by rw[Sv]
 refine⟨hm,ho,hne,fun _ _=>rfl,hl,fun p r l=>Bv (hg p r),fun p r=>hg p r,fun p q r l=>?_,fun p q r=>hs p q r,fun p r l=>Bv (hgo p r),fun p r=>hgo p r,fun p r r' l=>?_,fun p r r'=>hso p r r',fun p r a l=>?_,fun p r a b l=>?_,fun p r a x l=>?_,fun p r a b x l=>?_⟩
 ·rw[Sf _ _ (by simpa using hm)]
  exact congrArg (·++l) (hs p q r)
 ·rw[Sf _ _ (by simpa using ho)]
  exact congrArg (·++l) (hso p r r')
 ·rw[B1 (by simp)]
  simp
 ·rw[B1 (by simp)]
  simp
 ·rw[Ix _ _ (by simp)]
  simp
 ·rw[Ix _ _ (by simp)]
  simp
def Lr(f:Nat)(s:St)(m o:Nat)(z:Bool)(t:Nat)(A:List Tk)(R:V->Nat->List V->Prop):Prop:=∃ v p' r',Bc TT PT f [.ptr m 0 0,.ptr o 0 0] s v ((s.set m (RO z t A p')).set o (.row r' 92 0 0))/\p'<=A.length/\R v p' r'
theorem Agz{s:St}{m o:Nat}{x y:Ob}(h:s[m]?=some x)(h':s[o]?=some y):(s.set m x).set o y=s:=by rw[I1 h,I1 h']
theorem N6{z:Bool}{t:Nat}{A:List Tk}{f m o q:Nat}{res:List AR}{thr:Bool}{body:AC}{s:St}{r0:List V}{R:V->Nat->List V->Prop}(hT:TT f=some ⟨2,res,thr,body,none⟩)(hs:s[m]?=some (RO z t A q))(ho:s[o]?=some (.row r0 92 0 0))(hne:m≠o)
  (h:∀ S,RdT s m o z t A S->W TT PT [.c body] (Cu 0 [.ptr m 0 0,.ptr o 0 0]) (S q r0) (Hd fun e' σ1=>∃ v p' r' l,By e' σ1 res=some v/\(Cq v=true/\v.refs=[])/\σ1=S p' r'++l/\p'<=A.length/\r'.all V.rowB=true/\R v p' r')):Lr f s m o z t A R:=by
 have hm:=(Ay.1 hs).1
 have hol:=(Ay.1 ho).1
 have h:=h _ (Asv z t A hm hol hne)
 rw[Agz hs ho]at h
 obtain⟨e',σ1,hE,v,p',r',l,hr,⟨h1,h2⟩,rfl,h3,h5,h4⟩:=h
 have htk:((s.set m (RO z t A p')).set o (.row r' 92 0 0)++l).take s.length=(s.set m (RO z t A p')).set o (.row r' 92 0 0):=by rw[List.take_append_of_le_length (by simp),Px (by simp)]
 refine⟨v,p',r',?_,h3,h4⟩
 have:=Ev.fn hT rfl rfl hE hr h1 (by rw[h2];rfl) (fun i ob hi hob=>by
  rw[Ck (by simpa using hi)]at hob
  by_cases hb:o=i
  ·subst hb
   rw[A1 (by simpa using hol)]at hob
   cases hob
   exact .inr (by simp only[Ob.refs];rw[Lx h5];rfl)
  ·rw[Bd hb]at hob
   by_cases hb:m=i
   ·subst hb
    rw[A1 hm]at hob
    cases hob
    exact .inr (by rw[W5];rfl)
   ·rw[Bd hb]at hob
    exact .inl hob)
 rw[htk]at this
 exact⟨_,hT,rfl,this⟩
theorem Rd{S:Nat->List V->St}{A:List Tk}{R:V->Nat->List V->Prop}{e:Env}{res:List AR}{v:V}{p:Nat}{r:List V}{l:St}(hr:By e (S p r++l) res=some v)(hv:Cq v=true/\v.refs=[])(hp:p<=A.length)(hb:r.all V.rowB=true)(hR:R v p r):
  ∃ v p' r' l',By e (S p r++l) res=some v/\(Cq v=true/\v.refs=[])/\S p r++l=S p' r'++l'/\p'<=A.length/\r'.all V.rowB=true/\R v p' r':=⟨v,p,r,l,hr,hv,rfl,hp,hb,hR⟩
theorem D6{S:Nat->List V->St}{A:List Tk}{R:V->Nat->List V->Prop}{e:Env}{res:List AR}{v:V}{p:Nat}{r:List V}(hr:By e (S p r) res=some v)(hv:Cq v=true/\v.refs=[])(hp:p<=A.length)(hb:r.all V.rowB=true)(hR:R v p r):
  ∃ v p' r' l',By e (S p r) res=some v/\(Cq v=true/\v.refs=[])/\S p r=S p' r'++l'/\p'<=A.length/\r'.all V.rowB=true/\R v p' r':=⟨v,p,r,[],hr,hv,(Ds _).symm,hp,hb,hR⟩
theorem Aza{s:St}{m o:Nat}{z:Bool}{t:Nat}{A:List Tk}{S:Nat->List V->St}(hS:RdT s m o z t A S){f p:Nat}{r:List V}{av:List V}{l:St}{R:V->Nat->Prop}(h:(S p r++l)[m]?=some (RO z t A p)->RT f av (S p r++l) m z t A R):∃ v q,Bc TT PT f (.ptr m 0 0::av) (S p r++l) v (S q r++l)/\q<=A.length/\R v q:=by
 obtain⟨v,q,h1,h2,h3⟩:=h (hS.get p r l)
 rw[show(S p r++l).set m (RO z t A q)=S q r++l from hS.set p q r l]at h1
 exact⟨v,q,h1,h2,h3⟩
theorem Re{s:St}{m o:Nat}{z:Bool}{t:Nat}{A:List Tk}{S:Nat->List V->St}(hS:RdT s m o z t A S){f p:Nat}{r:List V}{av:List V}{R:V->Nat->Prop}(h:(S p r)[m]?=some (RO z t A p)->RT f av (S p r) m z t A R):∃ v q,Bc TT PT f (.ptr m 0 0::av) (S p r) v (S q r)/\q<=A.length/\R v q:=by
 obtain⟨v,q,h1,h2,h3⟩:=h (hS.get0 p r)
 rw[show(S p r).set m (RO z t A q)=S q r from hS.set0 p q r]at h1
 exact⟨v,q,h1,h2,h3⟩
theorem Pd{s:St}{m o:Nat}{z:Bool}{t:Nat}{A:List Tk}{S:Nat->List V->St}(hS:RdT s m o z t A S){p:Nat}{r:List V}(hA:A.length<=1000000){w:List UInt8}(h:Ak w (A.drop p)=true):Bc TT PT 125 [.ptr m 0 0,.str w] (S p r) (.bool true) (S (p+1) r):=by
 have:=N4 (hS.get0 p r) hA h
 rw[show(S p r).set m (RO z t A (p+1))=S (p+1) r from hS.set0 p (p+1) r]at this
 exact this
theorem Pe{s:St}{m o:Nat}{z:Bool}{t:Nat}{A:List Tk}{S:Nat->List V->St}(hS:RdT s m o z t A S){p:Nat}{r:List V}(hA:A.length<=1000000)(hp:p<=A.length){w:List UInt8}(h:Ak w (A.drop p)=false):Bc TT PT 125 [.ptr m 0 0,.str w] (S p r) (.bool false) (S p r):=N5 (hS.get0 p r) hA hp h
theorem Ab8{s:St}{m o:Nat}{z:Bool}{t:Nat}{A:List Tk}{S:Nat->List V->St}(hS:RdT s m o z t A S){p:Nat}{r:List V}(l:St)(hA:A.length<=1000000){w:List UInt8}(h:Ak w (A.drop p)=true):Bc TT PT 125 [.ptr m 0 0,.str w] (S p r++l) (.bool true) (S (p+1) r++l):=by
 have:=N4 (hS.get p r l) hA h
 rw[show(S p r++l).set m (RO z t A (p+1))=S (p+1) r++l from hS.set p (p+1) r l]at this
 exact this
theorem Ab9{s:St}{m o:Nat}{z:Bool}{t:Nat}{A:List Tk}{S:Nat->List V->St}(hS:RdT s m o z t A S){p:Nat}{r:List V}(l:St)(hA:A.length<=1000000)(hp:p<=A.length){w:List UInt8}(h:Ak w (A.drop p)=false):Bc TT PT 125 [.ptr m 0 0,.str w] (S p r++l) (.bool false) (S p r++l):=N5 (hS.get p r l) hA hp h
theorem Rf{s:St}{m o:Nat}{z:Bool}{t:Nat}{A:List Tk}{S:Nat->List V->St}(hS:RdT s m o z t A S){p:Nat}{r:List V}(hA:A.length<=1000000)(hp:p<=A.length){w:List UInt8}{q:List Tk}(h:B8 (A.drop p)=some (w,q)):Bc TT PT 122 [.ptr m 0 0] (S p r) (.tup [.str w,.bool true]) (S (p+1) r)/\p<A.length/\A.drop (p+1)=q:=by
 obtain⟨h1,h2⟩:=(Rp (hS.get0 p r) hA hp).1 w q h
 rw[show(S p r).set m (RO z t A (p+1))=S (p+1) r from hS.set0 p (p+1) r]at h1
 exact⟨h1,h2⟩
theorem Rg{s:St}{m o:Nat}{z:Bool}{t:Nat}{A:List Tk}{S:Nat->List V->St}(hS:RdT s m o z t A S){p:Nat}{r:List V}(hA:A.length<=1000000)(hp:p<=A.length)(h:B8 (A.drop p)=none):Bc TT PT 122 [.ptr m 0 0] (S p r) (.tup [.str [],.bool false]) (S p r):=(Rp (hS.get0 p r) hA hp).2 h
/-! what is given back -/
def U5(A:List Tk)(o:Option (List Sp × List Tk))(v:V)(p':Nat):Prop:=match o with
 | some (l,r)=>v=.tup [SL true 0 (l.map Sp.row),.bool true]/\A.drop p'=r
 | none=>v=.tup [.nils,.bool false]
def Pw(n:Nat):Prop:=∀ (s:St) (m:Nat) (z:Bool) (t:Nat) (A:List Tk) (p:Nat),OkA A->C0 A->s[m]?=some (RO z t A p)->p<=A.length->10*(A.length - p)+2<=n->RT 126 [] s m z t A (U5 A (Dy n (A.drop p)))
theorem Bo(l:List Sp):(SL true 0 (l.map Sp.row)).rowB=true:=by
 unfold SL
 split
 ·rfl
 ·rfl
theorem Zv{n:Nat}(hB:Pw n){s:St}{m o:Nat}{z:Bool}{t:Nat}{A:List Tk}{p:Nat}{c0 c1 c2 c3 c4 c5 c6 c7 c8 c9 c10:V}(hA:OkA A)(hT:C0 A)(hs:s[m]?=some (RO z t A p))(ho:s[o]?=some (.row [c0,c1,c2,c3,c4,c5,c6,c7,c8,c9,c10] 92 0 0))(hne:m≠o)(hp:p<=A.length)(hb:[c0,c1,c2,c3,c4,c5,c6,c7,c8,c9,c10].all V.rowB=true)(hf:10*(A.length - p)+2<=n):
  Lr 227 s m o z t A (fun v q r=>match Dy n (A.drop p) with
   | some (l,ts)=>v=.bool true/\r=[c0,c1,c2,c3,c4,c5,c6,c7,c8,SL true 0 (l.map Sp.row),c10]/\A.drop q=ts
   | none=>v=.bool false/\r=[c0,c1,c2,c3,c4,c5,c6,c7,c8,.nils,c10]):=by
 refine N6 T227 hs ho hne fun S hS=>?_
 obtain⟨v,q,h1,h2,h3⟩:=Re hS (r:=[c0,c1,c2,c3,c4,c5,c6,c7,c8,c9,c10]) fun hs=>hB _ m z t A p hA hT hs hp hf
 obtain⟨-,-,-,-,hlen,get,get0,set,set0,go,go0,so,so0,n0,n1,u0,u1⟩:=hS
 simp only[Ar,A3,Ad]at hb
 unfold U5 at h3
 simp only[go_sem,hlen,get,get0,set,set0,go,go0,so,so0,n0,n1,u0,u1,LZ]
 split at h3
 ·rename_i l ts hl
  obtain⟨rfl,h3⟩:=h3
  refine Ab h1 ?_
  simp only[go_sem,hlen,get,get0,set,set0,go,go0,so,so0,n0,n1,u0,u1,LZ]
  exact D6 rfl ⟨rfl,rfl⟩ h2 (by simp only[Ar,A3,Ad,Bo];simp only[hb];trivial) ⟨rfl,rfl,h3⟩
 ·rename_i hl
  subst h3
  refine Ab h1 ?_
  simp only[go_sem,hlen,get,get0,set,set0,go,go0,so,so0,n0,n1,u0,u1,LZ]
  exact D6 rfl ⟨rfl,rfl⟩ h2 (by simp only[Ar,A3,Ad,(show V.rowB V.nils=true from rfl)];simp only[hb];trivial) ⟨rfl,rfl⟩
theorem Bx(x:Xp):(SL x.z x.t (x.l.map Xp.row)).rowB=true:=by
 unfold SL
 split
 ·rfl
 ·rfl
def Mj(r:List V):Prop:=∃ c0 c1 c2 c3 c4 c5 c6 c7 c8 c9 c10:V,r=[c0,c1,c2,c3,c4,c5,c6,c7,c8,c9,c10]/\r.all V.rowB=true
/-! the statements' own parts -/
def I9(n:Nat)(ts:List Tk):Option ((Xp × List Sp) × List Tk):=match pe n 1 ts with
 | none=>none
 | some (x,ts)=>match Dy n ts with
  | none=>none
  | some (b,ts)=>some ((x,b),ts)
def Uu(n:Nat)(ts:List Tk):Option ((Xp × List Sp × List Sp) × List Tk):=match I9 n ts with
 | none=>none
 | some ((x,b),ts)=>if Ak [101,108,115,101] ts=true then(match Dy n ts.tail with
   | none=>none
   | some (e,ts)=>some ((x,b,e),ts))
  else some ((x,b,[]),ts)
def U6(n:Nat)(ts:List Tk):Option ((List UInt8 × List Sp) × List Tk):=match B8 ts with
 | none=>none
 | some (nm,ts)=>match Dy n ts with
  | none=>none
  | some (b,ts)=>some ((nm,b),ts)
def U7(ts:List Tk):Option (List UInt8 × List Tk):=match B8 ts with
 | none=>none
 | some (nm,ts)=>(Ct [59] ts).map fun ts=>(nm,ts)
def Uz(n:Nat)(ts:List Tk):Option ((List UInt8 × Xp) × List Tk):=match B8 ts with
 | none=>none
 | some (nm,ts)=>match pe n 1 ts with
  | none=>none
  | some (x,ts)=>(Ct [59] ts).map fun ts=>((nm,x),ts)
def U0(ts:List Tk):Option ((List UInt8 × List UInt8) × List Tk):=match B8 ts with
 | none=>none
 | some (nm,ts)=>match B8 ts with
  | none=>none
  | some (ar,ts)=>(Ct [59] ts).map fun ts=>((nm,ar),ts)
theorem Aei{n:Nat}(hB:Pw n){s:St}{m o:Nat}{z:Bool}{t:Nat}{A:List Tk}{p:Nat}{op ln:Int}(hA:OkA A)(hT:C0 A)(hs:s[m]?=some (RO z t A p))(ho:s[o]?=some (.row [.int .i64 op,.int .i64 ln,.str [],.str [],.nils,.int .i64 0,.int .i64 0,.str [],.nils,.nils,.nils] 92 0 0))(hne:m≠o)(hp:p<=A.length)(hf:10*(A.length - p)+9<=n):
  Lr 225 s m o z t A (fun v q r=>match I9 n (A.drop p) with
   | some ((x,b),ts)=>v=.bool true/\r=[.int .i64 op,.int .i64 ln,.str [],.str [],.nils,.int .i64 x.op,.int .i64 x.n,.str x.nm,SL x.z x.t (x.l.map Xp.row),SL true 0 (b.map Sp.row),.nils]/\A.drop q=ts
   | none=>v=.bool false/\Mj r):=by
 refine N6 T225 hs ho hne fun S hS=>?_
 have hl:A.length<=1000000:=by have:=hA.len;omega
 have hS':=hS
 have hm:=hS.low
 have hmo:=hS.lowo
 obtain⟨v,q,h1,h2,h3⟩:=Re hS (r:=[.int .i64 op,.int .i64 ln,.str [],.str [],.nils,.int .i64 0,.int .i64 0,.str [],.nils,.nils,.nils]) fun hs=>O0 (Tb n).1 hA hs hp (by omega)
 unfold PR at h3
 have hqx:∀ x ts,pe n 1 (A.drop p)=some (x,ts)->I9 n (A.drop p)=match Dy n ts with
   | none=>none
   | some (b,ts)=>some ((x,b),ts):=fun x ts h=>by unfold I9;rw[h]
 have hqn:pe n 1 (A.drop p)=none->I9 n (A.drop p)=none:=fun h=>by unfold I9;rw[h]
 have hlt:=fun x ts (h:pe n 1 (A.drop p)=some (x,ts))=>(Rq n).1 _ _ _ _ h
 rw[D5]at hlt
 cases hx:pe n 1 (A.drop p) with
 | none=>
  rw[hx]at h3
  subst h3
  rw[hqn hx]
  obtain⟨-,-,-,-,hlen,get,get0,set,set0,go,go0,so,so0,n0,n1,u0,u1⟩:=hS
  simp only[go_sem,hlen,get,get0,set,set0,go,go0,so,so0,n0,n1,u0,u1,LZ]
  refine Ab h1 ?_
  simp only[go_sem,hlen,get,get0,set,set0,go,go0,so,so0,n0,n1,u0,u1,LZ]
  exact D6 rfl ⟨rfl,rfl⟩ h2 (by simp only[Ar,A3,Ad,Bo,Bx];simp only[V.rowB];trivial) ⟨rfl,_,_,_,_,_,_,_,_,_,_,_,rfl,by simp only[Ar,A3,Ad,Bo,Bx];simp only[V.rowB];trivial⟩
 | some xr=>
  obtain⟨x,ts⟩:=xr
  rw[hx]at h3
  obtain⟨rfl,h3⟩:=h3
  have hxs:=Dn x
  have hr:=Au x
  rw[hr]at h1 hxs
  rw[hqx x ts hx,<-h3]
  have hlt:=hlt x ts hx
  have htl:ts.length=A.length - q:=by rw[<-h3,D5]
  obtain⟨v2,q2,r2,k1,k2,k3⟩:=Zv (c0:=.int .i64 op) (c1:=.int .i64 ln) (c2:=.str []) (c3:=.str []) (c4:=.nils) (c5:=.int .i64 x.op) (c6:=.int .i64 x.n) (c7:=.str x.nm) (c8:=SL x.z x.t (x.l.map Xp.row)) (c9:=.nils) (c10:=.nils) hB hA hT (hS'.get0 q _) (hS'.go0 q _) hne h2 (by simp only[Ar,A3,Ad,Bo,Bx];simp only[V.rowB];trivial) (by omega)
  rw[show((S q [.int .i64 op,.int .i64 ln,.str [],.str [],.nils,.int .i64 x.op,.int .i64 x.n,.str x.nm,SL x.z x.t (x.l.map Xp.row),.nils,.nils]).set m (RO z t A q2)).set o (.row r2 92 0 0)=S q2 r2 from by rw[show(S q _).set m (RO z t A q2)=S q2 _ from hS'.set0 q q2 _,hS'.so0]]at k1
  obtain⟨-,-,-,-,hlen,get,get0,set,set0,go,go0,so,so0,n0,n1,u0,u1⟩:=hS
  simp only[go_sem,hlen,get,get0,set,set0,go,go0,so,so0,n0,n1,u0,u1,LZ]
  refine Ab h1 ?_
  simp only[go_sem,hlen,get,get0,set,set0,go,go0,so,so0,n0,n1,u0,u1,LZ]
  refine Ab k1 ?_
  cases hb:Dy n (A.drop q) with
  | none=>
   rw[hb]at k3
   obtain⟨rfl,rfl⟩:=k3
   simp only[go_sem,hlen,get,get0,set,set0,go,go0,so,so0,n0,n1,u0,u1,LZ]
   exact D6 rfl ⟨rfl,rfl⟩ k2 (by simp only[Ar,A3,Ad,Bo,Bx];simp only[V.rowB];trivial) ⟨rfl,_,_,_,_,_,_,_,_,_,_,_,rfl,by simp only[Ar,A3,Ad,Bo,Bx];simp only[V.rowB];trivial⟩
  | some bl=>
   obtain⟨b,tl⟩:=bl
   rw[hb]at k3
   obtain⟨rfl,rfl,k3⟩:=k3
   simp only[go_sem,hlen,get,get0,set,set0,go,go0,so,so0,n0,n1,u0,u1,LZ]
   exact D6 rfl ⟨rfl,rfl⟩ k2 (by simp only[Ar,A3,Ad,Bo,Bx];simp only[V.rowB];trivial) ⟨rfl,rfl,k3⟩
theorem Al1{n:Nat}(hB:Pw n){s:St}{m o:Nat}{z:Bool}{t:Nat}{A:List Tk}{p:Nat}{op ln:Int}(hA:OkA A)(hT:C0 A)(hs:s[m]?=some (RO z t A p))(ho:s[o]?=some (.row [.int .i64 op,.int .i64 ln,.str [],.str [],.nils,.int .i64 0,.int .i64 0,.str [],.nils,.nils,.nils] 92 0 0))(hne:m≠o)(hp:p<=A.length)(hf:10*(A.length - p)+9<=n):
  Lr 224 s m o z t A (fun v q r=>match Uu n (A.drop p) with
   | some ((x,b,e),ts)=>v=.bool true/\r=[.int .i64 op,.int .i64 ln,.str [],.str [],.nils,.int .i64 x.op,.int .i64 x.n,.str x.nm,SL x.z x.t (x.l.map Xp.row),SL true 0 (b.map Sp.row),SL true 0 (e.map Sp.row)]/\A.drop q=ts
   | none=>v=.bool false/\Mj r):=by
 refine N6 T224 hs ho hne fun S hS=>?_
 have hl:A.length<=1000000:=by have:=hA.len;omega
 have hS':=hS
 have hm:=hS.low
 have hmo:=hS.lowo
 obtain⟨v1,q,r1,h1,h2,h3⟩:=Aei hB hA hT (hS'.get0 p _) (hS'.go0 p [.int .i64 op,.int .i64 ln,.str [],.str [],.nils,.int .i64 0,.int .i64 0,.str [],.nils,.nils,.nils]) hne hp hf
 rw[show((S p [.int .i64 op,.int .i64 ln,.str [],.str [],.nils,.int .i64 0,.int .i64 0,.str [],.nils,.nils,.nils]).set m (RO z t A q)).set o (.row r1 92 0 0)=S q r1 from by rw[show(S p _).set m (RO z t A q)=S q _ from hS'.set0 p q _,hS'.so0]]at h1
 have hlt:=fun x ts (h:pe n 1 (A.drop p)=some (x,ts))=>(Rq n).1 _ _ _ _ h
 rw[D5]at hlt
 unfold Uu
 cases hq:I9 n (A.drop p) with
 | none=>
  rw[hq]at h3
  obtain⟨rfl,hbad⟩:=h3
  obtain⟨-,-,-,-,hlen,get,get0,set,set0,go,go0,so,so0,n0,n1,u0,u1⟩:=hS
  simp only[go_sem,hlen,get,get0,set,set0,go,go0,so,so0,n0,n1,u0,u1,LZ]
  refine Ab h1 ?_
  simp only[go_sem,hlen,get,get0,set,set0,go,go0,so,so0,n0,n1,u0,u1,LZ]
  exact D6 rfl ⟨rfl,rfl⟩ h2 (by obtain⟨_,_,_,_,_,_,_,_,_,_,_,-,hb⟩:=hbad;exact hb) ⟨rfl,hbad⟩
 | some xb=>
  obtain⟨⟨x,b⟩,ts⟩:=xb
  rw[hq]at h3
  obtain⟨rfl,rfl,h3⟩:=h3
  simp only
  rw[<-h3]
  have hts:A.length - q<A.length - p:=by
   unfold I9 at hq
   split at hq
   ·cases hq
   ·rename_i y t1 hy
    have:=hlt _ _ hy
    split at hq
    ·cases hq
    ·rename_i b' t2 hb'
     cases hq
     have h4:=((Wl (M:=0) (C:=100) (by omega) n).2.1 _ _ _ (Ce hT (by
      have:=((Qx (C:=25) (Af _) n).1 _ _ _ _ (Ce hT (Sl p A)) hy).2.1
      exact this.trans (Sl p A))) hb').2.2.1
     have h5:(A.drop q).length=A.length - q:=D5
     rw[h3]at h5
     omega
  by_cases he:Ak [101,108,115,101] (A.drop q)=true
  ·rw[if_pos he,<-Dd]
   have ha:=Pd hS' (r:=[.int .i64 op,.int .i64 ln,.str [],.str [],.nils,.int .i64 x.op,.int .i64 x.n,.str x.nm,SL x.z x.t (x.l.map Xp.row),SL true 0 (b.map Sp.row),.nils]) hl he
   have hlt2:=Db he
   obtain⟨v2,q2,k1,k2,k3⟩:=Re hS' (p:=q+1) (r:=[.int .i64 op,.int .i64 ln,.str [],.str [],.nils,.int .i64 x.op,.int .i64 x.n,.str x.nm,SL x.z x.t (x.l.map Xp.row),SL true 0 (b.map Sp.row),.nils]) fun hs=>hB _ m z t A (q+1) hA hT hs (by omega) (by omega)
   unfold U5 at k3
   obtain⟨-,-,-,-,hlen,get,get0,set,set0,go,go0,so,so0,n0,n1,u0,u1⟩:=hS
   simp only[go_sem,hlen,get,get0,set,set0,go,go0,so,so0,n0,n1,u0,u1,LZ]
   refine Ab h1 ?_
   simp only[go_sem,hlen,get,get0,set,set0,go,go0,so,so0,n0,n1,u0,u1,LZ]
   refine Ab ha ?_
   simp only[go_sem,hlen,get,get0,set,set0,go,go0,so,so0,n0,n1,u0,u1,LZ]
   cases hb:Dy n (A.drop (q+1)) with
   | none=>
    rw[hb]at k3
    subst k3
    refine Ab k1 ?_
    simp only[go_sem,hlen,get,get0,set,set0,go,go0,so,so0,n0,n1,u0,u1,LZ]
    exact D6 rfl ⟨rfl,rfl⟩ k2 (by simp only[Ar,A3,Ad,Bo,Bx];simp only[V.rowB];trivial) ⟨rfl,_,_,_,_,_,_,_,_,_,_,_,rfl,by simp only[Ar,A3,Ad,Bo,Bx];simp only[V.rowB];trivial⟩
   | some el=>
    obtain⟨e,tl⟩:=el
    rw[hb]at k3
    obtain⟨rfl,k3⟩:=k3
    refine Ab k1 ?_
    simp only[go_sem,hlen,get,get0,set,set0,go,go0,so,so0,n0,n1,u0,u1,LZ]
    exact D6 rfl ⟨rfl,rfl⟩ k2 (by simp only[Ar,A3,Ad,Bo,Bx];simp only[V.rowB];trivial) ⟨rfl,rfl,k3⟩
  ·have he:Ak [101,108,115,101] (A.drop q)=false:=by simpa using he
   rw[if_neg (by rw[he];decide)]
   have ha:=Pe hS' (r:=[.int .i64 op,.int .i64 ln,.str [],.str [],.nils,.int .i64 x.op,.int .i64 x.n,.str x.nm,SL x.z x.t (x.l.map Xp.row),SL true 0 (b.map Sp.row),.nils]) hl h2 he
   obtain⟨-,-,-,-,hlen,get,get0,set,set0,go,go0,so,so0,n0,n1,u0,u1⟩:=hS
   simp only[go_sem,hlen,get,get0,set,set0,go,go0,so,so0,n0,n1,u0,u1,LZ]
   refine Ab h1 ?_
   simp only[go_sem,hlen,get,get0,set,set0,go,go0,so,so0,n0,n1,u0,u1,LZ]
   refine Ab ha ?_
   simp only[go_sem,hlen,get,get0,set,set0,go,go0,so,so0,n0,n1,u0,u1,LZ]
   exact D6 rfl ⟨rfl,rfl⟩ h2 (by simp only[Ar,A3,Ad,Bo,Bx];simp only[V.rowB];trivial) ⟨rfl,rfl,rfl⟩
theorem Apc{n:Nat}(hB:Pw n){s:St}{m o:Nat}{z:Bool}{t:Nat}{A:List Tk}{p:Nat}{op ln:Int}(hA:OkA A)(hT:C0 A)(hs:s[m]?=some (RO z t A p))(ho:s[o]?=some (.row [.int .i64 op,.int .i64 ln,.str [],.str [],.nils,.int .i64 0,.int .i64 0,.str [],.nils,.nils,.nils] 92 0 0))(hne:m≠o)(hp:p<=A.length)(hf:10*(A.length - p)+9<=n):
  Lr 226 s m o z t A (fun v q r=>match U6 n (A.drop p) with
   | some ((nm,b),ts)=>v=.bool true/\r=[.int .i64 op,.int .i64 ln,.str nm,.str [],.nils,.int .i64 0,.int .i64 0,.str [],.nils,SL true 0 (b.map Sp.row),.nils]/\A.drop q=ts
   | none=>v=.bool false/\Mj r):=by
 refine N6 T226 hs ho hne fun S hS=>?_
 have hl:A.length<=1000000:=by have:=hA.len;omega
 have hS':=hS
 have hm:=hS.low
 have hmo:=hS.lowo
 unfold U6
 cases hn:B8 (A.drop p) with
 | none=>
  have h1:=Rg hS' (r:=[.int .i64 op,.int .i64 ln,.str [],.str [],.nils,.int .i64 0,.int .i64 0,.str [],.nils,.nils,.nils]) hl hp hn
  obtain⟨-,-,-,-,hlen,get,get0,set,set0,go,go0,so,so0,n0,n1,u0,u1⟩:=hS
  simp only[go_sem,hlen,get,get0,set,set0,go,go0,so,so0,n0,n1,u0,u1,LZ]
  refine Ab h1 ?_
  simp only[go_sem,hlen,get,get0,set,set0,go,go0,so,so0,n0,n1,u0,u1,LZ]
  exact D6 rfl ⟨rfl,rfl⟩ hp (by simp only[Ar,A3,Ad,Bo,Bx];simp only[V.rowB];trivial) ⟨rfl,_,_,_,_,_,_,_,_,_,_,_,rfl,by simp only[Ar,A3,Ad,Bo,Bx];simp only[V.rowB];trivial⟩
 | some nt=>
  obtain⟨nm,ts⟩:=nt
  obtain⟨h1,hlt,h3⟩:=Rf hS' (r:=[.int .i64 op,.int .i64 ln,.str [],.str [],.nils,.int .i64 0,.int .i64 0,.str [],.nils,.nils,.nils]) hl hp hn
  simp only
  rw[<-h3]
  obtain⟨v2,q2,r2,k1,k2,k3⟩:=Zv (c0:=.int .i64 op) (c1:=.int .i64 ln) (c2:=.str nm) (c3:=.str []) (c4:=.nils) (c5:=.int .i64 0) (c6:=.int .i64 0) (c7:=.str []) (c8:=.nils) (c9:=.nils) (c10:=.nils) hB hA hT (hS'.get0 (p+1) _) (hS'.go0 (p+1) _) hne (F4 hlt) (by simp only[Ar,A3,Ad,Bo,Bx];simp only[V.rowB];trivial) (by omega)
  rw[show((S (p+1) [.int .i64 op,.int .i64 ln,.str nm,.str [],.nils,.int .i64 0,.int .i64 0,.str [],.nils,.nils,.nils]).set m (RO z t A q2)).set o (.row r2 92 0 0)=S q2 r2 from by rw[show(S (p+1) _).set m (RO z t A q2)=S q2 _ from hS'.set0 (p+1) q2 _,hS'.so0]]at k1
  obtain⟨-,-,-,-,hlen,get,get0,set,set0,go,go0,so,so0,n0,n1,u0,u1⟩:=hS
  simp only[go_sem,hlen,get,get0,set,set0,go,go0,so,so0,n0,n1,u0,u1,LZ]
  refine Ab h1 ?_
  simp only[go_sem,hlen,get,get0,set,set0,go,go0,so,so0,n0,n1,u0,u1,LZ]
  refine Ab k1 ?_
  cases hb:Dy n (A.drop (p+1)) with
  | none=>
   rw[hb]at k3
   obtain⟨rfl,rfl⟩:=k3
   simp only[go_sem,hlen,get,get0,set,set0,go,go0,so,so0,n0,n1,u0,u1,LZ]
   exact D6 rfl ⟨rfl,rfl⟩ k2 (by simp only[Ar,A3,Ad,Bo,Bx];simp only[V.rowB];trivial) ⟨rfl,_,_,_,_,_,_,_,_,_,_,_,rfl,by simp only[Ar,A3,Ad,Bo,Bx];simp only[V.rowB];trivial⟩
  | some bl=>
   obtain⟨b,tl⟩:=bl
   rw[hb]at k3
   obtain⟨rfl,rfl,k3⟩:=k3
   simp only[go_sem,hlen,get,get0,set,set0,go,go0,so,so0,n0,n1,u0,u1,LZ]
   exact D6 rfl ⟨rfl,rfl⟩ k2 (by simp only[Ar,A3,Ad,Bo,Bx];simp only[V.rowB];trivial) ⟨rfl,rfl,k3⟩
theorem Alh{n:Nat}{s:St}{m o:Nat}{z:Bool}{t:Nat}{A:List Tk}{p:Nat}{op ln:Int}(hA:OkA A)(hT:C0 A)(hs:s[m]?=some (RO z t A p))(ho:s[o]?=some (.row [.int .i64 op,.int .i64 ln,.str [],.str [],.nils,.int .i64 0,.int .i64 0,.str [],.nils,.nils,.nils] 92 0 0))(hne:m≠o)(hp:p<=A.length)(hf:10*(A.length - p)+9<=n):
  Lr 228 s m o z t A (fun v q r=>match U7 (A.drop p) with
   | some (nm,ts)=>v=.bool true/\r=[.int .i64 op,.int .i64 ln,.str nm,.str [],.nils,.int .i64 0,.int .i64 0,.str [],.nils,.nils,.nils]/\A.drop q=ts
   | none=>v=.bool false/\Mj r):=by
 refine N6 T228 hs ho hne fun S hS=>?_
 have hl:A.length<=1000000:=by have:=hA.len;omega
 have hS':=hS
 have hm:=hS.low
 have hmo:=hS.lowo
 unfold U7
 cases hn:B8 (A.drop p) with
 | none=>
  have h1:=Rg hS' (r:=[.int .i64 op,.int .i64 ln,.str [],.str [],.nils,.int .i64 0,.int .i64 0,.str [],.nils,.nils,.nils]) hl hp hn
  obtain⟨-,-,-,-,hlen,get,get0,set,set0,go,go0,so,so0,n0,n1,u0,u1⟩:=hS
  simp only[go_sem,hlen,get,get0,set,set0,go,go0,so,so0,n0,n1,u0,u1,LZ]
  refine Ab h1 ?_
  simp only[go_sem,hlen,get,get0,set,set0,go,go0,so,so0,n0,n1,u0,u1,LZ]
  exact D6 rfl ⟨rfl,rfl⟩ hp (by simp only[Ar,A3,Ad,Bo,Bx];simp only[V.rowB];trivial) ⟨rfl,_,_,_,_,_,_,_,_,_,_,_,rfl,by simp only[Ar,A3,Ad,Bo,Bx];simp only[V.rowB];trivial⟩
 | some nt=>
  obtain⟨nm,ts⟩:=nt
  obtain⟨h1,hlt,h3⟩:=Rf hS' (r:=[.int .i64 op,.int .i64 ln,.str [],.str [],.nils,.int .i64 0,.int .i64 0,.str [],.nils,.nils,.nils]) hl hp hn
  simp only
  rw[<-h3]
  unfold Ct
  by_cases he:Ak [59] (A.drop (p+1))=true
  ·rw[if_pos he,<-Dd]
   have ha:=Pd hS' (r:=[.int .i64 op,.int .i64 ln,.str nm,.str [],.nils,.int .i64 0,.int .i64 0,.str [],.nils,.nils,.nils]) hl he
   have hlt9:=Db he
   obtain⟨-,-,-,-,hlen,get,get0,set,set0,go,go0,so,so0,n0,n1,u0,u1⟩:=hS
   simp only[go_sem,hlen,get,get0,set,set0,go,go0,so,so0,n0,n1,u0,u1,LZ]
   refine Ab h1 ?_
   simp only[go_sem,hlen,get,get0,set,set0,go,go0,so,so0,n0,n1,u0,u1,LZ]
   refine Ab ha ?_
   simp only[go_sem,hlen,get,get0,set,set0,go,go0,so,so0,n0,n1,u0,u1,LZ]
   exact D6 rfl ⟨rfl,rfl⟩ (by omega) (by simp only[Ar,A3,Ad,Bo,Bx];simp only[V.rowB];trivial) ⟨rfl,rfl,rfl⟩
  ·have he:Ak [59] (A.drop (p+1))=false:=by simpa using he
   rw[if_neg (by rw[he];decide)]
   have ha:=Pe hS' (r:=[.int .i64 op,.int .i64 ln,.str nm,.str [],.nils,.int .i64 0,.int .i64 0,.str [],.nils,.nils,.nils]) hl (F4 hlt) he
   obtain⟨-,-,-,-,hlen,get,get0,set,set0,go,go0,so,so0,n0,n1,u0,u1⟩:=hS
   simp only[go_sem,hlen,get,get0,set,set0,go,go0,so,so0,n0,n1,u0,u1,LZ]
   refine Ab h1 ?_
   simp only[go_sem,hlen,get,get0,set,set0,go,go0,so,so0,n0,n1,u0,u1,LZ]
   refine Ab ha ?_
   simp only[go_sem,hlen,get,get0,set,set0,go,go0,so,so0,n0,n1,u0,u1,LZ]
   exact D6 rfl ⟨rfl,rfl⟩ (F4 hlt) (by simp only[Ar,A3,Ad,Bo,Bx];simp only[V.rowB];trivial) ⟨rfl,_,_,_,_,_,_,_,_,_,_,_,rfl,by simp only[Ar,A3,Ad,Bo,Bx];simp only[V.rowB];trivial⟩
theorem Am6{n:Nat}{s:St}{m o:Nat}{z:Bool}{t:Nat}{A:List Tk}{p:Nat}{op ln:Int}(hA:OkA A)(hT:C0 A)(hs:s[m]?=some (RO z t A p))(ho:s[o]?=some (.row [.int .i64 op,.int .i64 ln,.str [],.str [],.nils,.int .i64 0,.int .i64 0,.str [],.nils,.nils,.nils] 92 0 0))(hne:m≠o)(hp:p<=A.length)(hf:10*(A.length - p)+9<=n):
  Lr 230 s m o z t A (fun v q r=>match U0 (A.drop p) with
   | some ((nm,ar),ts)=>v=.bool true/\r=[.int .i64 op,.int .i64 ln,.str nm,.str ar,.nils,.int .i64 0,.int .i64 0,.str [],.nils,.nils,.nils]/\A.drop q=ts
   | none=>v=.bool false/\Mj r):=by
 refine N6 T230 hs ho hne fun S hS=>?_
 have hl:A.length<=1000000:=by have:=hA.len;omega
 have hS':=hS
 have hm:=hS.low
 have hmo:=hS.lowo
 unfold U0
 cases hn:B8 (A.drop p) with
 | none=>
  have h1:=Rg hS' (r:=[.int .i64 op,.int .i64 ln,.str [],.str [],.nils,.int .i64 0,.int .i64 0,.str [],.nils,.nils,.nils]) hl hp hn
  obtain⟨-,-,-,-,hlen,get,get0,set,set0,go,go0,so,so0,n0,n1,u0,u1⟩:=hS
  simp only[go_sem,hlen,get,get0,set,set0,go,go0,so,so0,n0,n1,u0,u1,LZ]
  refine Ab h1 ?_
  simp only[go_sem,hlen,get,get0,set,set0,go,go0,so,so0,n0,n1,u0,u1,LZ]
  exact D6 rfl ⟨rfl,rfl⟩ hp (by simp only[Ar,A3,Ad,Bo,Bx];simp only[V.rowB];trivial) ⟨rfl,_,_,_,_,_,_,_,_,_,_,_,rfl,by simp only[Ar,A3,Ad,Bo,Bx];simp only[V.rowB];trivial⟩
 | some nt=>
  obtain⟨nm,ts⟩:=nt
  obtain⟨h1,hlt,h3⟩:=Rf hS' (r:=[.int .i64 op,.int .i64 ln,.str [],.str [],.nils,.int .i64 0,.int .i64 0,.str [],.nils,.nils,.nils]) hl hp hn
  simp only
  rw[<-h3]
  cases hn2:B8 (A.drop (p+1)) with
  | none=>
   have k1:=Rg hS' (r:=[.int .i64 op,.int .i64 ln,.str nm,.str [],.nils,.int .i64 0,.int .i64 0,.str [],.nils,.nils,.nils]) hl (F4 hlt) hn2
   obtain⟨-,-,-,-,hlen,get,get0,set,set0,go,go0,so,so0,n0,n1,u0,u1⟩:=hS
   simp only[go_sem,hlen,get,get0,set,set0,go,go0,so,so0,n0,n1,u0,u1,LZ]
   refine Ab h1 ?_
   simp only[go_sem,hlen,get,get0,set,set0,go,go0,so,so0,n0,n1,u0,u1,LZ]
   refine Ab k1 ?_
   simp only[go_sem,hlen,get,get0,set,set0,go,go0,so,so0,n0,n1,u0,u1,LZ]
   exact D6 rfl ⟨rfl,rfl⟩ (F4 hlt) (by simp only[Ar,A3,Ad,Bo,Bx];simp only[V.rowB];trivial) ⟨rfl,_,_,_,_,_,_,_,_,_,_,_,rfl,by simp only[Ar,A3,Ad,Bo,Bx];simp only[V.rowB];trivial⟩
  | some nt2=>
   obtain⟨ar,ts2⟩:=nt2
   obtain⟨k1,hlt2,k3⟩:=Rf hS' (r:=[.int .i64 op,.int .i64 ln,.str nm,.str [],.nils,.int .i64 0,.int .i64 0,.str [],.nils,.nils,.nils]) hl (F4 hlt) hn2
   simp only
   rw[<-k3]
   unfold Ct
   by_cases he:Ak [59] (A.drop (p+1+1))=true
   ·rw[if_pos he,<-Dd]
    have ha:=Pd hS' (r:=[.int .i64 op,.int .i64 ln,.str nm,.str ar,.nils,.int .i64 0,.int .i64 0,.str [],.nils,.nils,.nils]) hl he
    have hlt9:=Db he
    obtain⟨-,-,-,-,hlen,get,get0,set,set0,go,go0,so,so0,n0,n1,u0,u1⟩:=hS
    simp only[go_sem,hlen,get,get0,set,set0,go,go0,so,so0,n0,n1,u0,u1,LZ]
    refine Ab h1 ?_
    simp only[go_sem,hlen,get,get0,set,set0,go,go0,so,so0,n0,n1,u0,u1,LZ]
    refine Ab k1 ?_
    simp only[go_sem,hlen,get,get0,set,set0,go,go0,so,so0,n0,n1,u0,u1,LZ]
    refine Ab ha ?_
    simp only[go_sem,hlen,get,get0,set,set0,go,go0,so,so0,n0,n1,u0,u1,LZ]
    exact D6 rfl ⟨rfl,rfl⟩ (by omega) (by simp only[Ar,A3,Ad,Bo,Bx];simp only[V.rowB];trivial) ⟨rfl,rfl,rfl⟩
   ·have he:Ak [59] (A.drop (p+1+1))=false:=by simpa using he
    rw[if_neg (by rw[he];decide)]
    have ha:=Pe hS' (r:=[.int .i64 op,.int .i64 ln,.str nm,.str ar,.nils,.int .i64 0,.int .i64 0,.str [],.nils,.nils,.nils]) hl (F4 hlt2) he
    obtain⟨-,-,-,-,hlen,get,get0,set,set0,go,go0,so,so0,n0,n1,u0,u1⟩:=hS
    simp only[go_sem,hlen,get,get0,set,set0,go,go0,so,so0,n0,n1,u0,u1,LZ]
    refine Ab h1 ?_
    simp only[go_sem,hlen,get,get0,set,set0,go,go0,so,so0,n0,n1,u0,u1,LZ]
    refine Ab k1 ?_
    simp only[go_sem,hlen,get,get0,set,set0,go,go0,so,so0,n0,n1,u0,u1,LZ]
    refine Ab ha ?_
    simp only[go_sem,hlen,get,get0,set,set0,go,go0,so,so0,n0,n1,u0,u1,LZ]
    exact D6 rfl ⟨rfl,rfl⟩ (F4 hlt2) (by simp only[Ar,A3,Ad,Bo,Bx];simp only[V.rowB];trivial) ⟨rfl,_,_,_,_,_,_,_,_,_,_,_,rfl,by simp only[Ar,A3,Ad,Bo,Bx];simp only[V.rowB];trivial⟩
theorem Am7{n:Nat}{s:St}{m o:Nat}{z:Bool}{t:Nat}{A:List Tk}{p:Nat}{op ln:Int}(hA:OkA A)(hT:C0 A)(hs:s[m]?=some (RO z t A p))(ho:s[o]?=some (.row [.int .i64 op,.int .i64 ln,.str [],.str [],.nils,.int .i64 0,.int .i64 0,.str [],.nils,.nils,.nils] 92 0 0))(hne:m≠o)(hp:p<=A.length)(hf:10*(A.length - p)+9<=n):
  Lr 229 s m o z t A (fun v q r=>match Uz n (A.drop p) with
   | some ((nm,x),ts)=>v=.bool true/\r=[.int .i64 op,.int .i64 ln,.str nm,.str [],.nils,.int .i64 x.op,.int .i64 x.n,.str x.nm,SL x.z x.t (x.l.map Xp.row),.nils,.nils]/\A.drop q=ts
   | none=>v=.bool false/\Mj r):=by
 refine N6 T229 hs ho hne fun S hS=>?_
 have hl:A.length<=1000000:=by have:=hA.len;omega
 have hS':=hS
 have hm:=hS.low
 have hmo:=hS.lowo
 unfold Uz
 cases hn:B8 (A.drop p) with
 | none=>
  have h1:=Rg hS' (r:=[.int .i64 op,.int .i64 ln,.str [],.str [],.nils,.int .i64 0,.int .i64 0,.str [],.nils,.nils,.nils]) hl hp hn
  obtain⟨-,-,-,-,hlen,get,get0,set,set0,go,go0,so,so0,n0,n1,u0,u1⟩:=hS
  simp only[go_sem,hlen,get,get0,set,set0,go,go0,so,so0,n0,n1,u0,u1,LZ]
  refine Ab h1 ?_
  simp only[go_sem,hlen,get,get0,set,set0,go,go0,so,so0,n0,n1,u0,u1,LZ]
  exact D6 rfl ⟨rfl,rfl⟩ hp (by simp only[Ar,A3,Ad,Bo,Bx];simp only[V.rowB];trivial) ⟨rfl,_,_,_,_,_,_,_,_,_,_,_,rfl,by simp only[Ar,A3,Ad,Bo,Bx];simp only[V.rowB];trivial⟩
 | some nt=>
  obtain⟨nm,ts⟩:=nt
  obtain⟨h1,hlt,h3⟩:=Rf hS' (r:=[.int .i64 op,.int .i64 ln,.str [],.str [],.nils,.int .i64 0,.int .i64 0,.str [],.nils,.nils,.nils]) hl hp hn
  simp only
  rw[<-h3]
  obtain⟨v,q,k1,k2,k3⟩:=Re hS' (p:=p+1) (r:=[.int .i64 op,.int .i64 ln,.str nm,.str [],.nils,.int .i64 0,.int .i64 0,.str [],.nils,.nils,.nils]) fun hs=>O0 (Tb n).1 hA hs (F4 hlt) (by omega)
  unfold PR at k3
  cases hx:pe n 1 (A.drop (p+1)) with
  | none=>
   rw[hx]at k3
   subst k3
   obtain⟨-,-,-,-,hlen,get,get0,set,set0,go,go0,so,so0,n0,n1,u0,u1⟩:=hS
   simp only[go_sem,hlen,get,get0,set,set0,go,go0,so,so0,n0,n1,u0,u1,LZ]
   refine Ab h1 ?_
   simp only[go_sem,hlen,get,get0,set,set0,go,go0,so,so0,n0,n1,u0,u1,LZ]
   refine Ab k1 ?_
   simp only[go_sem,hlen,get,get0,set,set0,go,go0,so,so0,n0,n1,u0,u1,LZ]
   exact D6 rfl ⟨rfl,rfl⟩ k2 (by simp only[Ar,A3,Ad,Bo,Bx];simp only[V.rowB];trivial) ⟨rfl,_,_,_,_,_,_,_,_,_,_,_,rfl,by simp only[Ar,A3,Ad,Bo,Bx];simp only[V.rowB];trivial⟩
  | some xr=>
   obtain⟨x,ts2⟩:=xr
   rw[hx]at k3
   obtain⟨rfl,k3⟩:=k3
   have hxs:=Dn x
   have hr:=Au x
   rw[hr]at k1 hxs
   simp only
   rw[<-k3]
   unfold Ct
   by_cases he:Ak [59] (A.drop q)=true
   ·rw[if_pos he,<-Dd]
    have ha:=Pd hS' (r:=[.int .i64 op,.int .i64 ln,.str nm,.str [],.nils,.int .i64 x.op,.int .i64 x.n,.str x.nm,SL x.z x.t (x.l.map Xp.row),.nils,.nils]) hl he
    have hlt9:=Db he
    obtain⟨-,-,-,-,hlen,get,get0,set,set0,go,go0,so,so0,n0,n1,u0,u1⟩:=hS
    simp only[go_sem,hlen,get,get0,set,set0,go,go0,so,so0,n0,n1,u0,u1,LZ]
    refine Ab h1 ?_
    simp only[go_sem,hlen,get,get0,set,set0,go,go0,so,so0,n0,n1,u0,u1,LZ]
    refine Ab k1 ?_
    simp only[go_sem,hlen,get,get0,set,set0,go,go0,so,so0,n0,n1,u0,u1,LZ]
    refine Ab ha ?_
    simp only[go_sem,hlen,get,get0,set,set0,go,go0,so,so0,n0,n1,u0,u1,LZ]
    exact D6 rfl ⟨rfl,rfl⟩ (by omega) (by simp only[Ar,A3,Ad,Bo,Bx];simp only[V.rowB];trivial) ⟨rfl,rfl,rfl⟩
   ·have he:Ak [59] (A.drop q)=false:=by simpa using he
    rw[if_neg (by rw[he];decide)]
    have ha:=Pe hS' (r:=[.int .i64 op,.int .i64 ln,.str nm,.str [],.nils,.int .i64 x.op,.int .i64 x.n,.str x.nm,SL x.z x.t (x.l.map Xp.row),.nils,.nils]) hl k2 he
    obtain⟨-,-,-,-,hlen,get,get0,set,set0,go,go0,so,so0,n0,n1,u0,u1⟩:=hS
    simp only[go_sem,hlen,get,get0,set,set0,go,go0,so,so0,n0,n1,u0,u1,LZ]
    refine Ab h1 ?_
    simp only[go_sem,hlen,get,get0,set,set0,go,go0,so,so0,n0,n1,u0,u1,LZ]
    refine Ab k1 ?_
    simp only[go_sem,hlen,get,get0,set,set0,go,go0,so,so0,n0,n1,u0,u1,LZ]
    refine Ab ha ?_
    simp only[go_sem,hlen,get,get0,set,set0,go,go0,so,so0,n0,n1,u0,u1,LZ]
    exact D6 rfl ⟨rfl,rfl⟩ k2 (by simp only[Ar,A3,Ad,Bo,Bx];simp only[V.rowB];trivial) ⟨rfl,_,_,_,_,_,_,_,_,_,_,_,rfl,by simp only[Ar,A3,Ad,Bo,Bx];simp only[V.rowB];trivial⟩
theorem Ak7{n:Nat}{s:St}{m o:Nat}{z:Bool}{t:Nat}{A:List Tk}{p:Nat}{ln:Int}(hA:OkA A)(hT:C0 A)(hs:s[m]?=some (RO z t A p))(ho:s[o]?=some (.row [.int .i64 1,.int .i64 ln,.str [],.str [],.nils,.int .i64 0,.int .i64 0,.str [],.nils,.nils,.nils] 92 0 0))(hne:m≠o)(hp:p<=A.length)(hf:10*(A.length - p)+9<=n):
  Lr 200 s m o z t A (fun v q r=>match Mk n ln (A.drop p) with
   | some (x,ts)=>v=.bool true/\r=x.row/\A.drop q=ts
   | none=>v=.bool false/\Mj r):=by
 refine N6 T200 hs ho hne fun S hS=>?_
 have hl:A.length<=1000000:=by have:=hA.len;omega
 have hS':=hS
 have hm:=hS.low
 have hmo:=hS.lowo
 unfold Mk
 cases hn:B8 (A.drop p) with
 | none=>
  have h1:=Rg hS' (r:=[.int .i64 1,.int .i64 ln,.str [],.str [],.nils,.int .i64 0,.int .i64 0,.str [],.nils,.nils,.nils]) hl hp hn
  obtain⟨-,-,-,-,hlen,get,get0,set,set0,go,go0,so,so0,n0,n1,u0,u1⟩:=hS
  simp only[go_sem,hlen,get,get0,set,set0,go,go0,so,so0,n0,n1,u0,u1,LZ]
  refine Ab h1 ?_
  simp only[go_sem,hlen,get,get0,set,set0,go,go0,so,so0,n0,n1,u0,u1,LZ]
  exact D6 rfl ⟨rfl,rfl⟩ hp (by simp only[Ar,A3,Ad,Bo,Bx];simp only[V.rowB];trivial) ⟨rfl,_,_,_,_,_,_,_,_,_,_,_,rfl,by simp only[Ar,A3,Ad,Bo,Bx];simp only[V.rowB];trivial⟩
 | some nt=>
  obtain⟨nm,ts⟩:=nt
  obtain⟨h1,hlt,h3⟩:=Rf hS' (r:=[.int .i64 1,.int .i64 ln,.str [],.str [],.nils,.int .i64 0,.int .i64 0,.str [],.nils,.nils,.nils]) hl hp hn
  simp only
  rw[<-h3]
  unfold Ux Ct
  by_cases h91:Ak [91] (A.drop (p+1))=true
  ·rw[if_pos h91,<-Dd]
   have hb:=Pd hS' (r:=[.int .i64 1,.int .i64 ln,.str nm,.str [],.nils,.int .i64 0,.int .i64 0,.str [],.nils,.nils,.nils]) hl h91
   have hlt2:=Db h91
   obtain⟨v0,q0,j1,j2,j3⟩:=Re hS' (p:=p+1+1) (r:=[.int .i64 1,.int .i64 ln,.str nm,.str [],.nils,.int .i64 0,.int .i64 0,.str [],.nils,.nils,.nils]) fun hs=>O0 (Tb n).1 hA hs (by omega) (by omega)
   unfold PR at j3
   have hple:=fun x ts (h:pe n 1 (A.drop (p+1+1))=some (x,ts))=>(Rq n).1 _ _ _ _ h
   rw[D5]at hple
   cases hy:pe n 1 (A.drop (p+1+1)) with
   | none=>
    rw[hy]at j3
    subst j3
    simp only
    obtain⟨-,-,-,-,hlen,get,get0,set,set0,go,go0,so,so0,n0,n1,u0,u1⟩:=hS
    simp only[go_sem,hlen,get,get0,set,set0,go,go0,so,so0,n0,n1,u0,u1,LZ]
    refine Ab h1 ?_
    simp only[go_sem,hlen,get,get0,set,set0,go,go0,so,so0,n0,n1,u0,u1,LZ]
    refine Ab hb ?_
    simp only[go_sem,hlen,get,get0,set,set0,go,go0,so,so0,n0,n1,u0,u1,LZ]
    refine Ab j1 ?_
    simp only[go_sem,hlen,get,get0,set,set0,go,go0,so,so0,n0,n1,u0,u1,LZ]
    exact Rd rfl ⟨rfl,rfl⟩ j2 (by simp only[Ar,A3,Ad,Bo,Bx];simp only[V.rowB];trivial) ⟨rfl,_,_,_,_,_,_,_,_,_,_,_,rfl,by simp only[Ar,A3,Ad,Bo,Bx];simp only[V.rowB];trivial⟩
   | some yr=>
    obtain⟨y,ts8⟩:=yr
    rw[hy]at j3
    obtain⟨rfl,j3⟩:=j3
    have hys:=Dn y
    have hyr:=Au y
    rw[hyr]at j1 hys
    have hple:=hple y ts8 hy
    have hq0:ts8.length=A.length - q0:=by rw[<-j3,D5]
    simp only
    rw[<-j3]
    by_cases h93:Ak [93] (A.drop q0)=true
    ·rw[if_pos h93]
     simp only[G1]
     rw[<-Dd]
     have hcb:=Ab8 hS' (r:=[.int .i64 1,.int .i64 ln,.str nm,.str [],.nils,.int .i64 0,.int .i64 0,.str [],.nils,.nils,.nils]) [.row [.int .i64 y.op,.int .i64 y.n,.str y.nm,SL y.z y.t (y.l.map Xp.row)] 40 0 0] hl h93
     have hlt3:=Db h93
     by_cases h61:Ak [61] (A.drop (q0+1))=true
     ·rw[if_pos h61]
      simp only
      rw[<-Dd]
      have ha:=Ab8 hS' (r:=[.int .i64 1,.int .i64 ln,.str nm,.str [],.lst 1 [[.int .i64 y.op,.int .i64 y.n,.str y.nm,SL y.z y.t (y.l.map Xp.row)]],.int .i64 0,.int .i64 0,.str [],.nils,.nils,.nils]) [.row [.int .i64 y.op,.int .i64 y.n,.str y.nm,SL y.z y.t (y.l.map Xp.row)] 40 0 0] hl h61
      have hlt61:=Db h61
      obtain⟨v,q,k1,k2,k3⟩:=Aza hS' (p:=(q0+1)+1) (r:=[.int .i64 1,.int .i64 ln,.str nm,.str [],.lst 1 [[.int .i64 y.op,.int .i64 y.n,.str y.nm,SL y.z y.t (y.l.map Xp.row)]],.int .i64 0,.int .i64 0,.str [],.nils,.nils,.nils]) (l:=[.row [.int .i64 y.op,.int .i64 y.n,.str y.nm,SL y.z y.t (y.l.map Xp.row)] 40 0 0]) fun hs=>O0 (Tb n).1 hA hs (F4 hlt61) (by omega)
      unfold PR at k3
      cases hx:pe n 1 (A.drop ((q0+1)+1)) with
      | none=>
       rw[hx]at k3
       subst k3
       simp only
       obtain⟨-,-,-,-,hlen,get,get0,set,set0,go,go0,so,so0,n0,n1,u0,u1⟩:=hS
       simp only[go_sem,hlen,get,get0,set,set0,go,go0,so,so0,n0,n1,u0,u1,LZ]
       refine Ab h1 ?_
       simp only[go_sem,hlen,get,get0,set,set0,go,go0,so,so0,n0,n1,u0,u1,LZ]
       refine Ab hb ?_
       simp only[go_sem,hlen,get,get0,set,set0,go,go0,so,so0,n0,n1,u0,u1,LZ]
       refine Ab j1 ?_
       simp only[go_sem,hlen,get,get0,set,set0,go,go0,so,so0,n0,n1,u0,u1,LZ]
       refine Ab hcb ?_
       simp only[go_sem,hlen,get,get0,set,set0,go,go0,so,so0,n0,n1,u0,u1,LZ]
       refine Ab ha ?_
       simp only[go_sem,hlen,get,get0,set,set0,go,go0,so,so0,n0,n1,u0,u1,LZ]
       refine Ab k1 ?_
       simp only[go_sem,hlen,get,get0,set,set0,go,go0,so,so0,n0,n1,u0,u1,LZ]
       exact Rd rfl ⟨rfl,rfl⟩ k2 (by simp only[Ar,A3,Ad,Bo,Bx];simp only[V.rowB];trivial) ⟨rfl,_,_,_,_,_,_,_,_,_,_,_,rfl,by simp only[Ar,A3,Ad,Bo,Bx];simp only[V.rowB];trivial⟩
      | some xr=>
       obtain⟨x,ts9⟩:=xr
       rw[hx]at k3
       obtain⟨rfl,k3⟩:=k3
       have hxs:=Dn x
       have hr:=Au x
       rw[hr]at k1 hxs
       simp only
       rw[<-k3]
       by_cases he:Ak [59] (A.drop q)=true
       ·rw[if_pos he,<-Dd]
        have hc:=Ab8 hS' (r:=[.int .i64 1,.int .i64 ln,.str nm,.str [],.lst 1 [[.int .i64 y.op,.int .i64 y.n,.str y.nm,SL y.z y.t (y.l.map Xp.row)]],.int .i64 x.op,.int .i64 x.n,.str x.nm,SL x.z x.t (x.l.map Xp.row),.nils,.nils]) [.row [.int .i64 y.op,.int .i64 y.n,.str y.nm,SL y.z y.t (y.l.map Xp.row)] 40 0 0] hl he
        have hlt9:=Db he
        obtain⟨-,-,-,-,hlen,get,get0,set,set0,go,go0,so,so0,n0,n1,u0,u1⟩:=hS
        simp only[go_sem,hlen,get,get0,set,set0,go,go0,so,so0,n0,n1,u0,u1,LZ]
        refine Ab h1 ?_
        simp only[go_sem,hlen,get,get0,set,set0,go,go0,so,so0,n0,n1,u0,u1,LZ]
        refine Ab hb ?_
        simp only[go_sem,hlen,get,get0,set,set0,go,go0,so,so0,n0,n1,u0,u1,LZ]
        refine Ab j1 ?_
        simp only[go_sem,hlen,get,get0,set,set0,go,go0,so,so0,n0,n1,u0,u1,LZ]
        refine Ab hcb ?_
        simp only[go_sem,hlen,get,get0,set,set0,go,go0,so,so0,n0,n1,u0,u1,LZ]
        refine Ab ha ?_
        simp only[go_sem,hlen,get,get0,set,set0,go,go0,so,so0,n0,n1,u0,u1,LZ]
        refine Ab k1 ?_
        simp only[go_sem,hlen,get,get0,set,set0,go,go0,so,so0,n0,n1,u0,u1,LZ]
        refine Ab hc ?_
        simp only[go_sem,hlen,get,get0,set,set0,go,go0,so,so0,n0,n1,u0,u1,LZ]
        exact Rd rfl ⟨rfl,rfl⟩ (by omega) (by simp only[Ar,A3,Ad,Bo,Bx];simp only[V.rowB];trivial) ⟨rfl,by rw[Cp];simp only[Ao,Be,hyr];rfl,rfl⟩
       ·have he:Ak [59] (A.drop q)=false:=by simpa using he
        rw[if_neg (by rw[he];decide)]
        have hc:=Ab9 hS' (r:=[.int .i64 1,.int .i64 ln,.str nm,.str [],.lst 1 [[.int .i64 y.op,.int .i64 y.n,.str y.nm,SL y.z y.t (y.l.map Xp.row)]],.int .i64 x.op,.int .i64 x.n,.str x.nm,SL x.z x.t (x.l.map Xp.row),.nils,.nils]) [.row [.int .i64 y.op,.int .i64 y.n,.str y.nm,SL y.z y.t (y.l.map Xp.row)] 40 0 0] hl k2 he
        obtain⟨-,-,-,-,hlen,get,get0,set,set0,go,go0,so,so0,n0,n1,u0,u1⟩:=hS
        simp only[go_sem,hlen,get,get0,set,set0,go,go0,so,so0,n0,n1,u0,u1,LZ]
        refine Ab h1 ?_
        simp only[go_sem,hlen,get,get0,set,set0,go,go0,so,so0,n0,n1,u0,u1,LZ]
        refine Ab hb ?_
        simp only[go_sem,hlen,get,get0,set,set0,go,go0,so,so0,n0,n1,u0,u1,LZ]
        refine Ab j1 ?_
        simp only[go_sem,hlen,get,get0,set,set0,go,go0,so,so0,n0,n1,u0,u1,LZ]
        refine Ab hcb ?_
        simp only[go_sem,hlen,get,get0,set,set0,go,go0,so,so0,n0,n1,u0,u1,LZ]
        refine Ab ha ?_
        simp only[go_sem,hlen,get,get0,set,set0,go,go0,so,so0,n0,n1,u0,u1,LZ]
        refine Ab k1 ?_
        simp only[go_sem,hlen,get,get0,set,set0,go,go0,so,so0,n0,n1,u0,u1,LZ]
        refine Ab hc ?_
        simp only[go_sem,hlen,get,get0,set,set0,go,go0,so,so0,n0,n1,u0,u1,LZ]
        exact Rd rfl ⟨rfl,rfl⟩ k2 (by simp only[Ar,A3,Ad,Bo,Bx];simp only[V.rowB];trivial) ⟨rfl,_,_,_,_,_,_,_,_,_,_,_,rfl,by simp only[Ar,A3,Ad,Bo,Bx];simp only[V.rowB];trivial⟩
     ·have h61:Ak [61] (A.drop (q0+1))=false:=by simpa using h61
      rw[if_neg (by rw[h61];decide)]
      simp only
      have ha:=Ab9 hS' (r:=[.int .i64 1,.int .i64 ln,.str nm,.str [],.lst 1 [[.int .i64 y.op,.int .i64 y.n,.str y.nm,SL y.z y.t (y.l.map Xp.row)]],.int .i64 0,.int .i64 0,.str [],.nils,.nils,.nils]) [.row [.int .i64 y.op,.int .i64 y.n,.str y.nm,SL y.z y.t (y.l.map Xp.row)] 40 0 0] hl (F4 hlt3) h61
      obtain⟨-,-,-,-,hlen,get,get0,set,set0,go,go0,so,so0,n0,n1,u0,u1⟩:=hS
      simp only[go_sem,hlen,get,get0,set,set0,go,go0,so,so0,n0,n1,u0,u1,LZ]
      refine Ab h1 ?_
      simp only[go_sem,hlen,get,get0,set,set0,go,go0,so,so0,n0,n1,u0,u1,LZ]
      refine Ab hb ?_
      simp only[go_sem,hlen,get,get0,set,set0,go,go0,so,so0,n0,n1,u0,u1,LZ]
      refine Ab j1 ?_
      simp only[go_sem,hlen,get,get0,set,set0,go,go0,so,so0,n0,n1,u0,u1,LZ]
      refine Ab hcb ?_
      simp only[go_sem,hlen,get,get0,set,set0,go,go0,so,so0,n0,n1,u0,u1,LZ]
      refine Ab ha ?_
      simp only[go_sem,hlen,get,get0,set,set0,go,go0,so,so0,n0,n1,u0,u1,LZ]
      exact Rd rfl ⟨rfl,rfl⟩ (F4 hlt3) (by simp only[Ar,A3,Ad,Bo,Bx];simp only[V.rowB];trivial) ⟨rfl,_,_,_,_,_,_,_,_,_,_,_,rfl,by simp only[Ar,A3,Ad,Bo,Bx];simp only[V.rowB];trivial⟩
    ·have h93:Ak [93] (A.drop q0)=false:=by simpa using h93
     rw[if_neg (by rw[h93];decide)]
     simp only[Option.map_none]
     have hcb:=Ab9 hS' (r:=[.int .i64 1,.int .i64 ln,.str nm,.str [],.nils,.int .i64 0,.int .i64 0,.str [],.nils,.nils,.nils]) [.row [.int .i64 y.op,.int .i64 y.n,.str y.nm,SL y.z y.t (y.l.map Xp.row)] 40 0 0] hl j2 h93
     obtain⟨-,-,-,-,hlen,get,get0,set,set0,go,go0,so,so0,n0,n1,u0,u1⟩:=hS
     simp only[go_sem,hlen,get,get0,set,set0,go,go0,so,so0,n0,n1,u0,u1,LZ]
     refine Ab h1 ?_
     simp only[go_sem,hlen,get,get0,set,set0,go,go0,so,so0,n0,n1,u0,u1,LZ]
     refine Ab hb ?_
     simp only[go_sem,hlen,get,get0,set,set0,go,go0,so,so0,n0,n1,u0,u1,LZ]
     refine Ab j1 ?_
     simp only[go_sem,hlen,get,get0,set,set0,go,go0,so,so0,n0,n1,u0,u1,LZ]
     refine Ab hcb ?_
     simp only[go_sem,hlen,get,get0,set,set0,go,go0,so,so0,n0,n1,u0,u1,LZ]
     exact Rd rfl ⟨rfl,rfl⟩ j2 (by simp only[Ar,A3,Ad,Bo,Bx];simp only[V.rowB];trivial) ⟨rfl,_,_,_,_,_,_,_,_,_,_,_,rfl,by simp only[Ar,A3,Ad,Bo,Bx];simp only[V.rowB];trivial⟩
  ·have h91:Ak [91] (A.drop (p+1))=false:=by simpa using h91
   rw[if_neg (by rw[h91];decide)]
   simp only
   have hb:=Pe hS' (r:=[.int .i64 1,.int .i64 ln,.str nm,.str [],.nils,.int .i64 0,.int .i64 0,.str [],.nils,.nils,.nils]) hl (F4 hlt) h91
   by_cases h61:Ak [61] (A.drop (p+1))=true
   ·rw[if_pos h61]
    simp only
    rw[<-Dd]
    have ha:=Pd hS' (r:=[.int .i64 1,.int .i64 ln,.str nm,.str [],.nils,.int .i64 0,.int .i64 0,.str [],.nils,.nils,.nils]) hl h61
    have hlt61:=Db h61
    obtain⟨v,q,k1,k2,k3⟩:=Re hS' (p:=(p+1)+1) (r:=[.int .i64 1,.int .i64 ln,.str nm,.str [],.nils,.int .i64 0,.int .i64 0,.str [],.nils,.nils,.nils]) fun hs=>O0 (Tb n).1 hA hs (F4 hlt61) (by omega)
    unfold PR at k3
    cases hx:pe n 1 (A.drop ((p+1)+1)) with
    | none=>
     rw[hx]at k3
     subst k3
     simp only
     obtain⟨-,-,-,-,hlen,get,get0,set,set0,go,go0,so,so0,n0,n1,u0,u1⟩:=hS
     simp only[go_sem,hlen,get,get0,set,set0,go,go0,so,so0,n0,n1,u0,u1,LZ]
     refine Ab h1 ?_
     simp only[go_sem,hlen,get,get0,set,set0,go,go0,so,so0,n0,n1,u0,u1,LZ]
     refine Ab hb ?_
     simp only[go_sem,hlen,get,get0,set,set0,go,go0,so,so0,n0,n1,u0,u1,LZ]
     refine Ab ha ?_
     simp only[go_sem,hlen,get,get0,set,set0,go,go0,so,so0,n0,n1,u0,u1,LZ]
     refine Ab k1 ?_
     simp only[go_sem,hlen,get,get0,set,set0,go,go0,so,so0,n0,n1,u0,u1,LZ]
     exact D6 rfl ⟨rfl,rfl⟩ k2 (by simp only[Ar,A3,Ad,Bo,Bx];simp only[V.rowB];trivial) ⟨rfl,_,_,_,_,_,_,_,_,_,_,_,rfl,by simp only[Ar,A3,Ad,Bo,Bx];simp only[V.rowB];trivial⟩
    | some xr=>
     obtain⟨x,ts9⟩:=xr
     rw[hx]at k3
     obtain⟨rfl,k3⟩:=k3
     have hxs:=Dn x
     have hr:=Au x
     rw[hr]at k1 hxs
     simp only
     rw[<-k3]
     by_cases he:Ak [59] (A.drop q)=true
     ·rw[if_pos he,<-Dd]
      have hc:=Pd hS' (r:=[.int .i64 1,.int .i64 ln,.str nm,.str [],.nils,.int .i64 x.op,.int .i64 x.n,.str x.nm,SL x.z x.t (x.l.map Xp.row),.nils,.nils]) hl he
      have hlt9:=Db he
      obtain⟨-,-,-,-,hlen,get,get0,set,set0,go,go0,so,so0,n0,n1,u0,u1⟩:=hS
      simp only[go_sem,hlen,get,get0,set,set0,go,go0,so,so0,n0,n1,u0,u1,LZ]
      refine Ab h1 ?_
      simp only[go_sem,hlen,get,get0,set,set0,go,go0,so,so0,n0,n1,u0,u1,LZ]
      refine Ab hb ?_
      simp only[go_sem,hlen,get,get0,set,set0,go,go0,so,so0,n0,n1,u0,u1,LZ]
      refine Ab ha ?_
      simp only[go_sem,hlen,get,get0,set,set0,go,go0,so,so0,n0,n1,u0,u1,LZ]
      refine Ab k1 ?_
      simp only[go_sem,hlen,get,get0,set,set0,go,go0,so,so0,n0,n1,u0,u1,LZ]
      refine Ab hc ?_
      simp only[go_sem,hlen,get,get0,set,set0,go,go0,so,so0,n0,n1,u0,u1,LZ]
      exact D6 rfl ⟨rfl,rfl⟩ (by omega) (by simp only[Ar,A3,Ad,Bo,Bx];simp only[V.rowB];trivial) ⟨rfl,by rw[Cp];rfl,rfl⟩
     ·have he:Ak [59] (A.drop q)=false:=by simpa using he
      rw[if_neg (by rw[he];decide)]
      have hc:=Pe hS' (r:=[.int .i64 1,.int .i64 ln,.str nm,.str [],.nils,.int .i64 x.op,.int .i64 x.n,.str x.nm,SL x.z x.t (x.l.map Xp.row),.nils,.nils]) hl k2 he
      obtain⟨-,-,-,-,hlen,get,get0,set,set0,go,go0,so,so0,n0,n1,u0,u1⟩:=hS
      simp only[go_sem,hlen,get,get0,set,set0,go,go0,so,so0,n0,n1,u0,u1,LZ]
      refine Ab h1 ?_
      simp only[go_sem,hlen,get,get0,set,set0,go,go0,so,so0,n0,n1,u0,u1,LZ]
      refine Ab hb ?_
      simp only[go_sem,hlen,get,get0,set,set0,go,go0,so,so0,n0,n1,u0,u1,LZ]
      refine Ab ha ?_
      simp only[go_sem,hlen,get,get0,set,set0,go,go0,so,so0,n0,n1,u0,u1,LZ]
      refine Ab k1 ?_
      simp only[go_sem,hlen,get,get0,set,set0,go,go0,so,so0,n0,n1,u0,u1,LZ]
      refine Ab hc ?_
      simp only[go_sem,hlen,get,get0,set,set0,go,go0,so,so0,n0,n1,u0,u1,LZ]
      exact D6 rfl ⟨rfl,rfl⟩ k2 (by simp only[Ar,A3,Ad,Bo,Bx];simp only[V.rowB];trivial) ⟨rfl,_,_,_,_,_,_,_,_,_,_,_,rfl,by simp only[Ar,A3,Ad,Bo,Bx];simp only[V.rowB];trivial⟩
   ·have h61:Ak [61] (A.drop (p+1))=false:=by simpa using h61
    rw[if_neg (by rw[h61];decide)]
    simp only
    have ha:=Pe hS' (r:=[.int .i64 1,.int .i64 ln,.str nm,.str [],.nils,.int .i64 0,.int .i64 0,.str [],.nils,.nils,.nils]) hl (F4 hlt) h61
    obtain⟨-,-,-,-,hlen,get,get0,set,set0,go,go0,so,so0,n0,n1,u0,u1⟩:=hS
    simp only[go_sem,hlen,get,get0,set,set0,go,go0,so,so0,n0,n1,u0,u1,LZ]
    refine Ab h1 ?_
    simp only[go_sem,hlen,get,get0,set,set0,go,go0,so,so0,n0,n1,u0,u1,LZ]
    refine Ab hb ?_
    simp only[go_sem,hlen,get,get0,set,set0,go,go0,so,so0,n0,n1,u0,u1,LZ]
    refine Ab ha ?_
    simp only[go_sem,hlen,get,get0,set,set0,go,go0,so,so0,n0,n1,u0,u1,LZ]
    exact D6 rfl ⟨rfl,rfl⟩ (F4 hlt) (by simp only[Ar,A3,Ad,Bo,Bx];simp only[V.rowB];trivial) ⟨rfl,_,_,_,_,_,_,_,_,_,_,_,rfl,by simp only[Ar,A3,Ad,Bo,Bx];simp only[V.rowB];trivial⟩
end Go.Proofs.YtlehfgdhebapeaaGreatDoor.KM
