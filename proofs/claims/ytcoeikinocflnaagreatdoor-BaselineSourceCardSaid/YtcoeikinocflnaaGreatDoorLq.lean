/- Walks: the parser's statements. -/
import Derived.Test.YtcoeikinocflnaaGreatDoorLn
set_option linter.all false
namespace Go.Proofs.YtcoeikinocflnaaGreatDoor.KM
open Go
structure RdT (s:St) (m o:Nat) (z:Bool) (t:Nat) (A:List Tk) (S:Nat->List V->St):Prop where
 low:m<s.length
 lowo:o<s.length
 ne:m≠o
 eq:∀ p r,S p r=(s.set m (RO z t A p)).set o (.row r 105 0 0)
 len:∀ p r,(S p r).length=s.length
 get:∀ (p:Nat) (r:List V) (l:St),(S p r++l)[m]?=some (.row [SL z t (A.map Tk.row),.int .i64 (p:Int)] 81 0 0)
 get0:∀ (p:Nat) (r:List V),(S p r)[m]?=some (.row [SL z t (A.map Tk.row),.int .i64 (p:Int)] 81 0 0)
 set:∀ (p q:Nat) (r:List V) (l:St),(S p r++l).set m (.row [SL z t (A.map Tk.row),.int .i64 (q:Int)] 81 0 0)=S q r++l
 set0:∀ (p q:Nat) (r:List V),(S p r).set m (.row [SL z t (A.map Tk.row),.int .i64 (q:Int)] 81 0 0)=S q r
 go:∀ (p:Nat) (r:List V) (l:St),(S p r++l)[o]?=some (.row r 105 0 0)
 go0:∀ (p:Nat) (r:List V),(S p r)[o]?=some (.row r 105 0 0)
 so:∀ (p:Nat) (r r':List V) (l:St),(S p r++l).set o (.row r' 105 0 0)=S p r'++l
 so0:∀ (p:Nat) (r r':List V),(S p r).set o (.row r' 105 0 0)=S p r'
 n0:∀ (p:Nat) (r:List V) (a:Ob) (l:St),(S p r++a::l)[s.length]?=some a
 n1:∀ (p:Nat) (r:List V) (a b:Ob) (l:St),(S p r++a::b::l)[s.length+1]?=some b
 u0:∀ (p:Nat) (r:List V) (a x:Ob) (l:St),(S p r++a::l).set s.length x=S p r++x::l
 u1:∀ (p:Nat) (r:List V) (a b x:Ob) (l:St),(S p r++a::b::l).set (s.length+1) x=S p r++a::x::l
def D5{s:St}{m o:Nat}{z:Bool}{t:Nat}{A:List Tk}{S:Nat->List V->St}(h:RdT s m o z t A S):=And.intro h.len (And.intro h.get (And.intro h.get0 (And.intro h.set (And.intro h.set0 (And.intro h.go (And.intro h.go0 (And.intro h.so (And.intro h.so0 (And.intro h.n0 (And.intro h.n1 (And.intro h.u0 (h.u1))))))))))))
theorem Au7{s:St}{m o:Nat}(z:Bool)(t:Nat)(A:List Tk)(hm:m<s.length)(ho:o<s.length)(hne:m≠o):RdT s m o z t A (fun p r=>(s.set m (RO z t A p)).set o (.row r 105 0 0)):=by
 have hl:∀ p r,((s.set m (RO z t A p)).set o (.row r 105 0 0)).length=s.length:=fun p r=>by simp
 have hg:∀ (p:Nat) (r:List V),((s.set m (RO z t A p)).set o (.row r 105 0 0))[m]?=some (RO z t A p):=fun p r=>by
  rw[Bc (Ne.symm hne),B8 hm]
 have hgo:∀ (p:Nat) (r:List V),((s.set m (RO z t A p)).set o (.row r 105 0 0))[o]?=some (.row r 105 0 0):=fun p r=>B8 (by simpa using ho)
 have hs:∀ p q r,((s.set m (RO z t A p)).set o (.row r 105 0 0)).set m (RO z t A q)=(s.set m (RO z t A q)).set o (.row r 105 0 0):=fun p q r=>by
  rw[List.set_comm _ _ (Ne.symm hne),Td]
 have hso:∀ p r r',((s.set m (RO z t A p)).set o (.row r 105 0 0)).set o (.row r' 105 0 0)=(s.set m (RO z t A p)).set o (.row r' 105 0 0):=fun p r r'=>by rw[Td]
 refine⟨hm,ho,hne,fun _ _=>rfl,hl,fun p r l=>Br (hg p r),fun p r=>hg p r,fun p q r l=>?_,fun p q r=>hs p q r,fun p r l=>Br (hgo p r),fun p r=>hgo p r,fun p r r' l=>?_,fun p r r'=>hso p r r',fun p r a l=>?_,fun p r a b l=>?_,fun p r a x l=>?_,fun p r a b x l=>?_⟩
 ·rw[Sy _ _ (by simpa using hm)];exact congrArg (·++l) (hs p q r)
 ·rw[Sy _ _ (by simpa using ho)];exact congrArg (·++l) (hso p r r')
 ·rw[Cf (by simp)];simp
 ·rw[Cf (by simp)];simp
 ·rw[Jg _ _ (by simp)];simp
 ·rw[Jg _ _ (by simp)];simp
def Md(f:Nat)(s:St)(m o:Nat)(z:Bool)(t:Nat)(A:List Tk)(R:V->Nat->List V->Prop):Prop:=∃ v p' r',Bp TT PT f [.ptr m 0 0,.ptr o 0 0] s v ((s.set m (RO z t A p')).set o (.row r' 105 0 0))/\p'<=A.length/\R v p' r'
theorem Ah9{s:St}{m o:Nat}{x y:Ob}(h:s[m]?=some x)(h':s[o]?=some y):(s.set m x).set o y=s:=by rw[Jn h,Jn h']
theorem Oh{z:Bool}{t:Nat}{A:List Tk}{f m o q:Nat}{res:List AR}{thr:Bool}{body:AC}{s:St}{r0:List V}{R:V->Nat->List V->Prop}(hT:TT f=some ⟨2,res,thr,body,none⟩)(hs:s[m]?=some (RO z t A q))(ho:s[o]?=some (.row r0 105 0 0))(hne:m≠o)
  (h:∀ S,RdT s m o z t A S->W TT PT [.c body] (C2 0 [.ptr m 0 0,.ptr o 0 0]) (S q r0) (Hd fun e' σ1=>∃ v p' r' l,B6 e' σ1 res=some v/\(Cc v=true/\v.refs=[])/\σ1=S p' r'++l/\p'<=A.length/\r'.all V.rowB=true/\R v p' r')):Md f s m o z t A R:=by
 have hm:=(Ar.1 hs).1;have hol:=(Ar.1 ho).1;have h:=h _ (Au7 z t A hm hol hne);rw[Ah9 hs ho]at h;obtain⟨e',σ1,hE,v,p',r',l,hr,⟨h1,h2⟩,rfl,h3,h5,h4⟩:=h;have htk:((s.set m (RO z t A p')).set o (.row r' 105 0 0)++l).take s.length=(s.set m (RO z t A p')).set o (.row r' 105 0 0):=by rw[List.take_append_of_le_length (by simp),Jf (by simp)]
 refine⟨v,p',r',?_,h3,h4⟩
 have:=Ev.fn hT rfl rfl hE hr h1 (by rw[h2];rfl) (fun i ob hi hob=>by
  rw[Co (by simpa using hi)]at hob;by_cases hb:o=i
  ·subst hb;rw[B8 (by simpa using hol)]at hob;cases hob;exact .inr (by simp only[Ob.refs];rw[Iu h5];rfl)
  ·rw[Bc hb]at hob;by_cases hb:m=i
   ·subst hb;rw[B8 hm]at hob;cases hob;exact .inr (by rw[Xy];rfl)
   ·rw[Bc hb]at hob
    exact .inl hob)
 rw[htk]at this;exact⟨_,hT,rfl,this⟩
theorem Rr{S:Nat->List V->St}{A:List Tk}{R:V->Nat->List V->Prop}{e:Env}{res:List AR}{v:V}{p:Nat}{r:List V}{l:St}(hr:B6 e (S p r++l) res=some v)(hv:Cc v=true/\v.refs=[])(hp:p<=A.length)(hb:r.all V.rowB=true)(hR:R v p r):
  ∃ v p' r' l',B6 e (S p r++l) res=some v/\(Cc v=true/\v.refs=[])/\S p r++l=S p' r'++l'/\p'<=A.length/\r'.all V.rowB=true/\R v p' r':=⟨v,p,r,l,hr,hv,rfl,hp,hb,hR⟩
theorem Ea{S:Nat->List V->St}{A:List Tk}{R:V->Nat->List V->Prop}{e:Env}{res:List AR}{v:V}{p:Nat}{r:List V}(hr:B6 e (S p r) res=some v)(hv:Cc v=true/\v.refs=[])(hp:p<=A.length)(hb:r.all V.rowB=true)(hR:R v p r):
  ∃ v p' r' l',B6 e (S p r) res=some v/\(Cc v=true/\v.refs=[])/\S p r=S p' r'++l'/\p'<=A.length/\r'.all V.rowB=true/\R v p' r':=⟨v,p,r,[],hr,hv,(Cw _).symm,hp,hb,hR⟩
theorem A1x{s:St}{m o:Nat}{z:Bool}{t:Nat}{A:List Tk}{S:Nat->List V->St}(hS:RdT s m o z t A S){f p:Nat}{r:List V}{av:List V}{l:St}{R:V->Nat->Prop}(h:(S p r++l)[m]?=some (RO z t A p)->RT f av (S p r++l) m z t A R):∃ v q,Bp TT PT f (.ptr m 0 0::av) (S p r++l) v (S q r++l)/\q<=A.length/\R v q:=by
 obtain⟨v,q,h1,h2,h3⟩:=h (hS.get p r l);rw[show(S p r++l).set m (RO z t A q)=S q r++l from hS.set p q r l]at h1;exact⟨v,q,h1,h2,h3⟩
theorem Rt{s:St}{m o:Nat}{z:Bool}{t:Nat}{A:List Tk}{S:Nat->List V->St}(hS:RdT s m o z t A S){f p:Nat}{r:List V}{av:List V}{R:V->Nat->Prop}(h:(S p r)[m]?=some (RO z t A p)->RT f av (S p r) m z t A R):∃ v q,Bp TT PT f (.ptr m 0 0::av) (S p r) v (S q r)/\q<=A.length/\R v q:=by
 obtain⟨v,q,h1,h2,h3⟩:=h (hS.get0 p r);rw[show(S p r).set m (RO z t A q)=S q r from hS.set0 p q r]at h1;exact⟨v,q,h1,h2,h3⟩
theorem Pm{s:St}{m o:Nat}{z:Bool}{t:Nat}{A:List Tk}{S:Nat->List V->St}(hS:RdT s m o z t A S){p:Nat}{r:List V}(hA:A.length<=1000000){w:List UInt8}(h:As w (A.drop p)=true):Bp TT PT 122 [.ptr m 0 0,.str w] (S p r) (.bool true) (S (p+1) r):=by
 have:=N8 (hS.get0 p r) hA h;rw[show(S p r).set m (RO z t A (p+1))=S (p+1) r from hS.set0 p (p+1) r]at this;exact this
theorem Pn{s:St}{m o:Nat}{z:Bool}{t:Nat}{A:List Tk}{S:Nat->List V->St}(hS:RdT s m o z t A S){p:Nat}{r:List V}(hA:A.length<=1000000)(hp:p<=A.length){w:List UInt8}(h:As w (A.drop p)=false):Bp TT PT 122 [.ptr m 0 0,.str w] (S p r) (.bool false) (S p r):=N9 (hS.get0 p r) hA hp h
theorem Adk{s:St}{m o:Nat}{z:Bool}{t:Nat}{A:List Tk}{S:Nat->List V->St}(hS:RdT s m o z t A S){p:Nat}{r:List V}(l:St)(hA:A.length<=1000000){w:List UInt8}(h:As w (A.drop p)=true):Bp TT PT 122 [.ptr m 0 0,.str w] (S p r++l) (.bool true) (S (p+1) r++l):=by
 have:=N8 (hS.get p r l) hA h;rw[show(S p r++l).set m (RO z t A (p+1))=S (p+1) r++l from hS.set p (p+1) r l]at this;exact this
theorem Adl{s:St}{m o:Nat}{z:Bool}{t:Nat}{A:List Tk}{S:Nat->List V->St}(hS:RdT s m o z t A S){p:Nat}{r:List V}(l:St)(hA:A.length<=1000000)(hp:p<=A.length){w:List UInt8}(h:As w (A.drop p)=false):Bp TT PT 122 [.ptr m 0 0,.str w] (S p r++l) (.bool false) (S p r++l):=N9 (hS.get p r l) hA hp h
theorem Ru{s:St}{m o:Nat}{z:Bool}{t:Nat}{A:List Tk}{S:Nat->List V->St}(hS:RdT s m o z t A S){p:Nat}{r:List V}(hA:A.length<=1000000)(hp:p<=A.length){w:List UInt8}{q:List Tk}(h:Cy (A.drop p)=some (w,q)):Bp TT PT 119 [.ptr m 0 0] (S p r) (.tup [.str w,.bool true]) (S (p+1) r)/\p<A.length/\A.drop (p+1)=q:=by
 obtain⟨h1,h2⟩:=(R8 (hS.get0 p r) hA hp).1 w q h;rw[show(S p r).set m (RO z t A (p+1))=S (p+1) r from hS.set0 p (p+1) r]at h1;exact⟨h1,h2⟩
theorem Rv{s:St}{m o:Nat}{z:Bool}{t:Nat}{A:List Tk}{S:Nat->List V->St}(hS:RdT s m o z t A S){p:Nat}{r:List V}(hA:A.length<=1000000)(hp:p<=A.length)(h:Cy (A.drop p)=none):Bp TT PT 119 [.ptr m 0 0] (S p r) (.tup [.str [],.bool false]) (S p r):=(R8 (hS.get0 p r) hA hp).2 h
/-! what is given back -/
def Vu(A:List Tk)(o:Option (List Sp × List Tk))(v:V)(p':Nat):Prop:=match o with
 | some (l,r)=>v=.tup [SL true 0 (l.map Sp.row),.bool true]/\A.drop p'=r
 | none=>v=.tup [.nils,.bool false]
def Qh(n:Nat):Prop:=∀ (s:St) (m:Nat) (z:Bool) (t:Nat) (A:List Tk) (p:Nat),OkA A->De A->s[m]?=some (RO z t A p)->p<=A.length->10*(A.length - p)+2<=n->RT 123 [] s m z t A (Vu A (Eb n (A.drop p)))
theorem Bu(l:List Sp):(SL true 0 (l.map Sp.row)).rowB=true:=by
 unfold SL
 split
 ·rfl
 ·rfl
theorem Aa3{n:Nat}(hB:Qh n){s:St}{m o:Nat}{z:Bool}{t:Nat}{A:List Tk}{p:Nat}{c0 c1 c2 c3 c4 c5 c6 c7 c8 c9 c10:V}(hA:OkA A)(hT:De A)(hs:s[m]?=some (RO z t A p))(ho:s[o]?=some (.row [c0,c1,c2,c3,c4,c5,c6,c7,c8,c9,c10] 105 0 0))(hne:m≠o)(hp:p<=A.length)(hb:[c0,c1,c2,c3,c4,c5,c6,c7,c8,c9,c10].all V.rowB=true)(hf:10*(A.length - p)+2<=n):
  Md 237 s m o z t A (fun v q r=>match Eb n (A.drop p) with
   | some (l,ts)=>v=.bool true/\r=[c0,c1,c2,c3,c4,c5,c6,c7,c8,SL true 0 (l.map Sp.row),c10]/\A.drop q=ts
   | none=>v=.bool false/\r=[c0,c1,c2,c3,c4,c5,c6,c7,c8,.nils,c10]):=by
 refine Oh T237 hs ho hne fun S hS=>?_
 obtain⟨v,q,h1,h2,h3⟩:=Rt hS (r:=[c0,c1,c2,c3,c4,c5,c6,c7,c8,c9,c10]) fun hs=>hB _ m z t A p hA hT hs hp hf
 have Zq:=D5 hS;obtain⟨-,-,-,-,hlen,get,get0,set,set0,go,go0,so,so0,n0,n1,u0,u1⟩:=hS;simp only[Au,A1,Af]at hb;unfold Vu at h3;simp only[go_sem,Zq,LZ]
 split at h3
 ·rename_i l ts hl;obtain⟨rfl,h3⟩:=h3;refine Ac h1 ?_;simp only[go_sem,Zq,LZ];exact Ea rfl ⟨rfl,rfl⟩ h2 (by simp only[Au,A1,Af,Bu];simp only[hb];trivial) ⟨rfl,rfl,h3⟩
 ·rename_i hl;subst h3;refine Ac h1 ?_;simp only[go_sem,Zq,LZ];exact Ea rfl ⟨rfl,rfl⟩ h2 (by simp only[Au,A1,Af,(show V.rowB V.nils=true from rfl)];simp only[hb];trivial) ⟨rfl,rfl⟩
theorem B4(x:Xp):(SL x.z x.t (x.l.map Xp.row)).rowB=true:=by
 unfold SL
 split
 ·rfl
 ·rfl
def M4(r:List V):Prop:=∃ c0 c1 c2 c3 c4 c5 c6 c7 c8 c9 c10:V,r=[c0,c1,c2,c3,c4,c5,c6,c7,c8,c9,c10]/\r.all V.rowB=true
/-! the statements' own parts -/
def Jw(n:Nat)(ts:List Tk):Option ((Xp × List Sp) × List Tk):=match pe n 1 ts with
 | none=>none
 | some (x,ts)=>match Eb n ts with
  | none=>none
  | some (b,ts)=>some ((x,b),ts)
def Vf(n:Nat)(ts:List Tk):Option ((Xp × List Sp × List Sp) × List Tk):=match Jw n ts with
 | none=>none
 | some ((x,b),ts)=>if As [101,108,115,101] ts=true then(match Eb n ts.tail with
   | none=>none
   | some (e,ts)=>some ((x,b,e),ts))
  else some ((x,b,[]),ts)
def Vv(n:Nat)(ts:List Tk):Option ((List UInt8 × List Sp) × List Tk):=match Cy ts with
 | none=>none
 | some (nm,ts)=>match Eb n ts with
  | none=>none
  | some (b,ts)=>some ((nm,b),ts)
def Vw(ts:List Tk):Option (List UInt8 × List Tk):=match Cy ts with
 | none=>none
 | some (nm,ts)=>(Df [59] ts).map fun ts=>(nm,ts)
def Vm(n:Nat)(ts:List Tk):Option ((List UInt8 × Xp) × List Tk):=match Cy ts with
 | none=>none
 | some (nm,ts)=>match pe n 1 ts with
  | none=>none
  | some (x,ts)=>(Df [59] ts).map fun ts=>((nm,x),ts)
def Vn(ts:List Tk):Option ((List UInt8 × List UInt8) × List Tk):=match Cy ts with
 | none=>none
 | some (nm,ts)=>match Cy ts with
  | none=>none
  | some (ar,ts)=>(Df [59] ts).map fun ts=>((nm,ar),ts)
theorem Afq{n:Nat}(hB:Qh n){s:St}{m o:Nat}{z:Bool}{t:Nat}{A:List Tk}{p:Nat}{op ln:Int}(hA:OkA A)(hT:De A)(hs:s[m]?=some (RO z t A p))(ho:s[o]?=some (.row [.int .i64 op,.int .i64 ln,.str [],.str [],.nils,.int .i64 0,.int .i64 0,.str [],.nils,.nils,.nils] 105 0 0))(hne:m≠o)(hp:p<=A.length)(hf:10*(A.length - p)+9<=n):
  Md 235 s m o z t A (fun v q r=>match Jw n (A.drop p) with
   | some ((x,b),ts)=>v=.bool true/\r=[.int .i64 op,.int .i64 ln,.str [],.str [],.nils,.int .i64 x.op,.int .i64 x.n,.str x.nm,SL x.z x.t (x.l.map Xp.row),SL true 0 (b.map Sp.row),.nils]/\A.drop q=ts
   | none=>v=.bool false/\M4 r):=by
 refine Oh T235 hs ho hne fun S hS=>?_
 have hl:A.length<=1000000:=by have:=hA.len;omega
 have hS':=hS;have hm:=hS.low;have hmo:=hS.lowo;obtain⟨v,q,h1,h2,h3⟩:=Rt hS (r:=[.int .i64 op,.int .i64 ln,.str [],.str [],.nils,.int .i64 0,.int .i64 0,.str [],.nils,.nils,.nils]) fun hs=>O8 (Tr n).1 hA hs hp (by omega)
 unfold PR at h3
 have hqx:∀ x ts,pe n 1 (A.drop p)=some (x,ts)->Jw n (A.drop p)=match Eb n ts with
   | none=>none
   | some (b,ts)=>some ((x,b),ts):=fun x ts h=>by unfold Jw;rw[h]
 have hqn:pe n 1 (A.drop p)=none->Jw n (A.drop p)=none:=fun h=>by unfold Jw;rw[h]
 have hlt:=fun x ts (h:pe n 1 (A.drop p)=some (x,ts))=>(R9 n).1 _ _ _ _ h
 rw[D0]at hlt
 cases hx:pe n 1 (A.drop p) with
 | none=>
  rw[hx]at h3;subst h3;rw[hqn hx];have Zq:=D5 hS;obtain⟨-,-,-,-,hlen,get,get0,set,set0,go,go0,so,so0,n0,n1,u0,u1⟩:=hS;simp only[go_sem,Zq,LZ];refine Ac h1 ?_;simp only[go_sem,Zq,LZ];exact Ea rfl ⟨rfl,rfl⟩ h2 (by simp only[Au,A1,Af,Bu,B4];simp only[V.rowB];trivial) ⟨rfl,_,_,_,_,_,_,_,_,_,_,_,rfl,by simp only[Au,A1,Af,Bu,B4];simp only[V.rowB];trivial⟩
 | some xr=>
  obtain⟨x,ts⟩:=xr;rw[hx]at h3;obtain⟨rfl,h3⟩:=h3;have hxs:=C7 x;have hr:=Ax x;rw[hr]at h1 hxs;rw[hqx x ts hx,<-h3];have hlt:=hlt x ts hx;have htl:ts.length=A.length - q:=by rw[<-h3,D0]
  obtain⟨v2,q2,r2,k1,k2,k3⟩:=Aa3 (c0:=.int .i64 op) (c1:=.int .i64 ln) (c2:=.str []) (c3:=.str []) (c4:=.nils) (c5:=.int .i64 x.op) (c6:=.int .i64 x.n) (c7:=.str x.nm) (c8:=SL x.z x.t (x.l.map Xp.row)) (c9:=.nils) (c10:=.nils) hB hA hT (hS'.get0 q _) (hS'.go0 q _) hne h2 (by simp only[Au,A1,Af,Bu,B4];simp only[V.rowB];trivial) (by omega);rw[show((S q [.int .i64 op,.int .i64 ln,.str [],.str [],.nils,.int .i64 x.op,.int .i64 x.n,.str x.nm,SL x.z x.t (x.l.map Xp.row),.nils,.nils]).set m (RO z t A q2)).set o (.row r2 105 0 0)=S q2 r2 from by rw[show(S q _).set m (RO z t A q2)=S q2 _ from hS'.set0 q q2 _,hS'.so0]]at k1;have Zq:=D5 hS;obtain⟨-,-,-,-,hlen,get,get0,set,set0,go,go0,so,so0,n0,n1,u0,u1⟩:=hS;simp only[go_sem,Zq,LZ];refine Ac h1 ?_;simp only[go_sem,Zq,LZ];refine Ac k1 ?_
  cases hb:Eb n (A.drop q) with
  | none=>
   rw[hb]at k3;obtain⟨rfl,rfl⟩:=k3;simp only[go_sem,Zq,LZ];exact Ea rfl ⟨rfl,rfl⟩ k2 (by simp only[Au,A1,Af,Bu,B4];simp only[V.rowB];trivial) ⟨rfl,_,_,_,_,_,_,_,_,_,_,_,rfl,by simp only[Au,A1,Af,Bu,B4];simp only[V.rowB];trivial⟩
  | some bl=>
   obtain⟨b,tl⟩:=bl;rw[hb]at k3;obtain⟨rfl,rfl,k3⟩:=k3;simp only[go_sem,Zq,LZ];exact Ea rfl ⟨rfl,rfl⟩ k2 (by simp only[Au,A1,Af,Bu,B4];simp only[V.rowB];trivial) ⟨rfl,rfl,k3⟩
theorem Anx{n:Nat}(hB:Qh n){s:St}{m o:Nat}{z:Bool}{t:Nat}{A:List Tk}{p:Nat}{op ln:Int}(hA:OkA A)(hT:De A)(hs:s[m]?=some (RO z t A p))(ho:s[o]?=some (.row [.int .i64 op,.int .i64 ln,.str [],.str [],.nils,.int .i64 0,.int .i64 0,.str [],.nils,.nils,.nils] 105 0 0))(hne:m≠o)(hp:p<=A.length)(hf:10*(A.length - p)+9<=n):
  Md 234 s m o z t A (fun v q r=>match Vf n (A.drop p) with
   | some ((x,b,e),ts)=>v=.bool true/\r=[.int .i64 op,.int .i64 ln,.str [],.str [],.nils,.int .i64 x.op,.int .i64 x.n,.str x.nm,SL x.z x.t (x.l.map Xp.row),SL true 0 (b.map Sp.row),SL true 0 (e.map Sp.row)]/\A.drop q=ts
   | none=>v=.bool false/\M4 r):=by
 refine Oh T234 hs ho hne fun S hS=>?_
 have hl:A.length<=1000000:=by have:=hA.len;omega
 have hS':=hS;have hm:=hS.low;have hmo:=hS.lowo;obtain⟨v1,q,r1,h1,h2,h3⟩:=Afq hB hA hT (hS'.get0 p _) (hS'.go0 p [.int .i64 op,.int .i64 ln,.str [],.str [],.nils,.int .i64 0,.int .i64 0,.str [],.nils,.nils,.nils]) hne hp hf;rw[show((S p [.int .i64 op,.int .i64 ln,.str [],.str [],.nils,.int .i64 0,.int .i64 0,.str [],.nils,.nils,.nils]).set m (RO z t A q)).set o (.row r1 105 0 0)=S q r1 from by rw[show(S p _).set m (RO z t A q)=S q _ from hS'.set0 p q _,hS'.so0]]at h1;have hlt:=fun x ts (h:pe n 1 (A.drop p)=some (x,ts))=>(R9 n).1 _ _ _ _ h
 rw[D0]at hlt;unfold Vf
 cases hq:Jw n (A.drop p) with
 | none=>
  rw[hq]at h3;obtain⟨rfl,hbad⟩:=h3;have Zq:=D5 hS;obtain⟨-,-,-,-,hlen,get,get0,set,set0,go,go0,so,so0,n0,n1,u0,u1⟩:=hS;simp only[go_sem,Zq,LZ];refine Ac h1 ?_;simp only[go_sem,Zq,LZ];exact Ea rfl ⟨rfl,rfl⟩ h2 (by obtain⟨_,_,_,_,_,_,_,_,_,_,_,-,hb⟩:=hbad;exact hb) ⟨rfl,hbad⟩
 | some xb=>
  obtain⟨⟨x,b⟩,ts⟩:=xb;rw[hq]at h3;obtain⟨rfl,rfl,h3⟩:=h3;simp only;rw[<-h3]
  have hts:A.length - q<A.length - p:=by
   unfold Jw at hq
   split at hq
   ·cases hq
   ·rename_i y t1 hy;have:=hlt _ _ hy
    split at hq
    ·cases hq
    ·rename_i b' t2 hb';cases hq
     have h4:=((Xh (M:=0) (C:=100) (by omega) n).2.1 _ _ _ (C0 hT (by
      have:=((Q5 (C:=25) (Ah _) n).1 _ _ _ _ (C0 hT (S4 p A)) hy).2.1
      exact this.trans (S4 p A))) hb').2.2.1
     have h5:(A.drop q).length=A.length - q:=D0;rw[h3]at h5;omega
  by_cases he:As [101,108,115,101] (A.drop q)=true
  ·rw[if_pos he,<-Dj];have ha:=Pm hS' (r:=[.int .i64 op,.int .i64 ln,.str [],.str [],.nils,.int .i64 x.op,.int .i64 x.n,.str x.nm,SL x.z x.t (x.l.map Xp.row),SL true 0 (b.map Sp.row),.nils]) hl he;have hlt2:=Dh he;obtain⟨v2,q2,k1,k2,k3⟩:=Rt hS' (p:=q+1) (r:=[.int .i64 op,.int .i64 ln,.str [],.str [],.nils,.int .i64 x.op,.int .i64 x.n,.str x.nm,SL x.z x.t (x.l.map Xp.row),SL true 0 (b.map Sp.row),.nils]) fun hs=>hB _ m z t A (q+1) hA hT hs (by omega) (by omega)
   unfold Vu at k3;have Zq:=D5 hS;obtain⟨-,-,-,-,hlen,get,get0,set,set0,go,go0,so,so0,n0,n1,u0,u1⟩:=hS;simp only[go_sem,Zq,LZ];refine Ac h1 ?_;simp only[go_sem,Zq,LZ];refine Ac ha ?_;simp only[go_sem,Zq,LZ]
   cases hb:Eb n (A.drop (q+1)) with
   | none=>
    rw[hb]at k3;subst k3;refine Ac k1 ?_;simp only[go_sem,Zq,LZ];exact Ea rfl ⟨rfl,rfl⟩ k2 (by simp only[Au,A1,Af,Bu,B4];simp only[V.rowB];trivial) ⟨rfl,_,_,_,_,_,_,_,_,_,_,_,rfl,by simp only[Au,A1,Af,Bu,B4];simp only[V.rowB];trivial⟩
   | some el=>
    obtain⟨e,tl⟩:=el;rw[hb]at k3;obtain⟨rfl,k3⟩:=k3;refine Ac k1 ?_;simp only[go_sem,Zq,LZ];exact Ea rfl ⟨rfl,rfl⟩ k2 (by simp only[Au,A1,Af,Bu,B4];simp only[V.rowB];trivial) ⟨rfl,rfl,k3⟩
  ·have he:As [101,108,115,101] (A.drop q)=false:=by simpa using he
   rw[if_neg (by rw[he];decide)];have ha:=Pn hS' (r:=[.int .i64 op,.int .i64 ln,.str [],.str [],.nils,.int .i64 x.op,.int .i64 x.n,.str x.nm,SL x.z x.t (x.l.map Xp.row),SL true 0 (b.map Sp.row),.nils]) hl h2 he;have Zq:=D5 hS;obtain⟨-,-,-,-,hlen,get,get0,set,set0,go,go0,so,so0,n0,n1,u0,u1⟩:=hS;simp only[go_sem,Zq,LZ];refine Ac h1 ?_;simp only[go_sem,Zq,LZ];refine Ac ha ?_;simp only[go_sem,Zq,LZ];exact Ea rfl ⟨rfl,rfl⟩ h2 (by simp only[Au,A1,Af,Bu,B4];simp only[V.rowB];trivial) ⟨rfl,rfl,rfl⟩
theorem Arn{n:Nat}(hB:Qh n){s:St}{m o:Nat}{z:Bool}{t:Nat}{A:List Tk}{p:Nat}{op ln:Int}(hA:OkA A)(hT:De A)(hs:s[m]?=some (RO z t A p))(ho:s[o]?=some (.row [.int .i64 op,.int .i64 ln,.str [],.str [],.nils,.int .i64 0,.int .i64 0,.str [],.nils,.nils,.nils] 105 0 0))(hne:m≠o)(hp:p<=A.length)(hf:10*(A.length - p)+9<=n):
  Md 236 s m o z t A (fun v q r=>match Vv n (A.drop p) with
   | some ((nm,b),ts)=>v=.bool true/\r=[.int .i64 op,.int .i64 ln,.str nm,.str [],.nils,.int .i64 0,.int .i64 0,.str [],.nils,SL true 0 (b.map Sp.row),.nils]/\A.drop q=ts
   | none=>v=.bool false/\M4 r):=by
 refine Oh T236 hs ho hne fun S hS=>?_
 have hl:A.length<=1000000:=by have:=hA.len;omega
 have hS':=hS;have hm:=hS.low;have hmo:=hS.lowo;unfold Vv
 cases hn:Cy (A.drop p) with
 | none=>
  have h1:=Rv hS' (r:=[.int .i64 op,.int .i64 ln,.str [],.str [],.nils,.int .i64 0,.int .i64 0,.str [],.nils,.nils,.nils]) hl hp hn;have Zq:=D5 hS;obtain⟨-,-,-,-,hlen,get,get0,set,set0,go,go0,so,so0,n0,n1,u0,u1⟩:=hS;simp only[go_sem,Zq,LZ];refine Ac h1 ?_;simp only[go_sem,Zq,LZ];exact Ea rfl ⟨rfl,rfl⟩ hp (by simp only[Au,A1,Af,Bu,B4];simp only[V.rowB];trivial) ⟨rfl,_,_,_,_,_,_,_,_,_,_,_,rfl,by simp only[Au,A1,Af,Bu,B4];simp only[V.rowB];trivial⟩
 | some nt=>
  obtain⟨nm,ts⟩:=nt;obtain⟨h1,hlt,h3⟩:=Ru hS' (r:=[.int .i64 op,.int .i64 ln,.str [],.str [],.nils,.int .i64 0,.int .i64 0,.str [],.nils,.nils,.nils]) hl hp hn;simp only;rw[<-h3];obtain⟨v2,q2,r2,k1,k2,k3⟩:=Aa3 (c0:=.int .i64 op) (c1:=.int .i64 ln) (c2:=.str nm) (c3:=.str []) (c4:=.nils) (c5:=.int .i64 0) (c6:=.int .i64 0) (c7:=.str []) (c8:=.nils) (c9:=.nils) (c10:=.nils) hB hA hT (hS'.get0 (p+1) _) (hS'.go0 (p+1) _) hne (Ga hlt) (by simp only[Au,A1,Af,Bu,B4];simp only[V.rowB];trivial) (by omega);rw[show((S (p+1) [.int .i64 op,.int .i64 ln,.str nm,.str [],.nils,.int .i64 0,.int .i64 0,.str [],.nils,.nils,.nils]).set m (RO z t A q2)).set o (.row r2 105 0 0)=S q2 r2 from by rw[show(S (p+1) _).set m (RO z t A q2)=S q2 _ from hS'.set0 (p+1) q2 _,hS'.so0]]at k1;have Zq:=D5 hS;obtain⟨-,-,-,-,hlen,get,get0,set,set0,go,go0,so,so0,n0,n1,u0,u1⟩:=hS;simp only[go_sem,Zq,LZ];refine Ac h1 ?_;simp only[go_sem,Zq,LZ];refine Ac k1 ?_
  cases hb:Eb n (A.drop (p+1)) with
  | none=>
   rw[hb]at k3;obtain⟨rfl,rfl⟩:=k3;simp only[go_sem,Zq,LZ];exact Ea rfl ⟨rfl,rfl⟩ k2 (by simp only[Au,A1,Af,Bu,B4];simp only[V.rowB];trivial) ⟨rfl,_,_,_,_,_,_,_,_,_,_,_,rfl,by simp only[Au,A1,Af,Bu,B4];simp only[V.rowB];trivial⟩
  | some bl=>
   obtain⟨b,tl⟩:=bl;rw[hb]at k3;obtain⟨rfl,rfl,k3⟩:=k3;simp only[go_sem,Zq,LZ];exact Ea rfl ⟨rfl,rfl⟩ k2 (by simp only[Au,A1,Af,Bu,B4];simp only[V.rowB];trivial) ⟨rfl,rfl,k3⟩
theorem Anf{n:Nat}{s:St}{m o:Nat}{z:Bool}{t:Nat}{A:List Tk}{p:Nat}{op ln:Int}(hA:OkA A)(hT:De A)(hs:s[m]?=some (RO z t A p))(ho:s[o]?=some (.row [.int .i64 op,.int .i64 ln,.str [],.str [],.nils,.int .i64 0,.int .i64 0,.str [],.nils,.nils,.nils] 105 0 0))(hne:m≠o)(hp:p<=A.length)(hf:10*(A.length - p)+9<=n):
  Md 238 s m o z t A (fun v q r=>match Vw (A.drop p) with
   | some (nm,ts)=>v=.bool true/\r=[.int .i64 op,.int .i64 ln,.str nm,.str [],.nils,.int .i64 0,.int .i64 0,.str [],.nils,.nils,.nils]/\A.drop q=ts
   | none=>v=.bool false/\M4 r):=by
 refine Oh T238 hs ho hne fun S hS=>?_
 have hl:A.length<=1000000:=by have:=hA.len;omega
 have hS':=hS;have hm:=hS.low;have hmo:=hS.lowo;unfold Vw
 cases hn:Cy (A.drop p) with
 | none=>
  have h1:=Rv hS' (r:=[.int .i64 op,.int .i64 ln,.str [],.str [],.nils,.int .i64 0,.int .i64 0,.str [],.nils,.nils,.nils]) hl hp hn;have Zq:=D5 hS;obtain⟨-,-,-,-,hlen,get,get0,set,set0,go,go0,so,so0,n0,n1,u0,u1⟩:=hS;simp only[go_sem,Zq,LZ];refine Ac h1 ?_;simp only[go_sem,Zq,LZ];exact Ea rfl ⟨rfl,rfl⟩ hp (by simp only[Au,A1,Af,Bu,B4];simp only[V.rowB];trivial) ⟨rfl,_,_,_,_,_,_,_,_,_,_,_,rfl,by simp only[Au,A1,Af,Bu,B4];simp only[V.rowB];trivial⟩
 | some nt=>
  obtain⟨nm,ts⟩:=nt;obtain⟨h1,hlt,h3⟩:=Ru hS' (r:=[.int .i64 op,.int .i64 ln,.str [],.str [],.nils,.int .i64 0,.int .i64 0,.str [],.nils,.nils,.nils]) hl hp hn;simp only;rw[<-h3];unfold Df;by_cases he:As [59] (A.drop (p+1))=true
  ·rw[if_pos he,<-Dj];have ha:=Pm hS' (r:=[.int .i64 op,.int .i64 ln,.str nm,.str [],.nils,.int .i64 0,.int .i64 0,.str [],.nils,.nils,.nils]) hl he;have hlt9:=Dh he;have Zq:=D5 hS;obtain⟨-,-,-,-,hlen,get,get0,set,set0,go,go0,so,so0,n0,n1,u0,u1⟩:=hS;simp only[go_sem,Zq,LZ];refine Ac h1 ?_;simp only[go_sem,Zq,LZ];refine Ac ha ?_;simp only[go_sem,Zq,LZ];exact Ea rfl ⟨rfl,rfl⟩ (by omega) (by simp only[Au,A1,Af,Bu,B4];simp only[V.rowB];trivial) ⟨rfl,rfl,rfl⟩
  ·have he:As [59] (A.drop (p+1))=false:=by simpa using he
   rw[if_neg (by rw[he];decide)];have ha:=Pn hS' (r:=[.int .i64 op,.int .i64 ln,.str nm,.str [],.nils,.int .i64 0,.int .i64 0,.str [],.nils,.nils,.nils]) hl (Ga hlt) he;have Zq:=D5 hS;obtain⟨-,-,-,-,hlen,get,get0,set,set0,go,go0,so,so0,n0,n1,u0,u1⟩:=hS;simp only[go_sem,Zq,LZ];refine Ac h1 ?_;simp only[go_sem,Zq,LZ];refine Ac ha ?_;simp only[go_sem,Zq,LZ];exact Ea rfl ⟨rfl,rfl⟩ (Ga hlt) (by simp only[Au,A1,Af,Bu,B4];simp only[V.rowB];trivial) ⟨rfl,_,_,_,_,_,_,_,_,_,_,_,rfl,by simp only[Au,A1,Af,Bu,B4];simp only[V.rowB];trivial⟩
theorem Ao7{n:Nat}{s:St}{m o:Nat}{z:Bool}{t:Nat}{A:List Tk}{p:Nat}{op ln:Int}(hA:OkA A)(hT:De A)(hs:s[m]?=some (RO z t A p))(ho:s[o]?=some (.row [.int .i64 op,.int .i64 ln,.str [],.str [],.nils,.int .i64 0,.int .i64 0,.str [],.nils,.nils,.nils] 105 0 0))(hne:m≠o)(hp:p<=A.length)(hf:10*(A.length - p)+9<=n):
  Md 240 s m o z t A (fun v q r=>match Vn (A.drop p) with
   | some ((nm,ar),ts)=>v=.bool true/\r=[.int .i64 op,.int .i64 ln,.str nm,.str ar,.nils,.int .i64 0,.int .i64 0,.str [],.nils,.nils,.nils]/\A.drop q=ts
   | none=>v=.bool false/\M4 r):=by
 refine Oh T240 hs ho hne fun S hS=>?_
 have hl:A.length<=1000000:=by have:=hA.len;omega
 have hS':=hS;have hm:=hS.low;have hmo:=hS.lowo;unfold Vn
 cases hn:Cy (A.drop p) with
 | none=>
  have h1:=Rv hS' (r:=[.int .i64 op,.int .i64 ln,.str [],.str [],.nils,.int .i64 0,.int .i64 0,.str [],.nils,.nils,.nils]) hl hp hn;have Zq:=D5 hS;obtain⟨-,-,-,-,hlen,get,get0,set,set0,go,go0,so,so0,n0,n1,u0,u1⟩:=hS;simp only[go_sem,Zq,LZ];refine Ac h1 ?_;simp only[go_sem,Zq,LZ];exact Ea rfl ⟨rfl,rfl⟩ hp (by simp only[Au,A1,Af,Bu,B4];simp only[V.rowB];trivial) ⟨rfl,_,_,_,_,_,_,_,_,_,_,_,rfl,by simp only[Au,A1,Af,Bu,B4];simp only[V.rowB];trivial⟩
 | some nt=>
  obtain⟨nm,ts⟩:=nt;obtain⟨h1,hlt,h3⟩:=Ru hS' (r:=[.int .i64 op,.int .i64 ln,.str [],.str [],.nils,.int .i64 0,.int .i64 0,.str [],.nils,.nils,.nils]) hl hp hn;simp only;rw[<-h3]
  cases hn2:Cy (A.drop (p+1)) with
  | none=>
   have k1:=Rv hS' (r:=[.int .i64 op,.int .i64 ln,.str nm,.str [],.nils,.int .i64 0,.int .i64 0,.str [],.nils,.nils,.nils]) hl (Ga hlt) hn2;have Zq:=D5 hS;obtain⟨-,-,-,-,hlen,get,get0,set,set0,go,go0,so,so0,n0,n1,u0,u1⟩:=hS;simp only[go_sem,Zq,LZ];refine Ac h1 ?_;simp only[go_sem,Zq,LZ];refine Ac k1 ?_;simp only[go_sem,Zq,LZ];exact Ea rfl ⟨rfl,rfl⟩ (Ga hlt) (by simp only[Au,A1,Af,Bu,B4];simp only[V.rowB];trivial) ⟨rfl,_,_,_,_,_,_,_,_,_,_,_,rfl,by simp only[Au,A1,Af,Bu,B4];simp only[V.rowB];trivial⟩
  | some nt2=>
   obtain⟨ar,ts2⟩:=nt2;obtain⟨k1,hlt2,k3⟩:=Ru hS' (r:=[.int .i64 op,.int .i64 ln,.str nm,.str [],.nils,.int .i64 0,.int .i64 0,.str [],.nils,.nils,.nils]) hl (Ga hlt) hn2;simp only;rw[<-k3];unfold Df;by_cases he:As [59] (A.drop (p+1+1))=true
   ·rw[if_pos he,<-Dj];have ha:=Pm hS' (r:=[.int .i64 op,.int .i64 ln,.str nm,.str ar,.nils,.int .i64 0,.int .i64 0,.str [],.nils,.nils,.nils]) hl he;have hlt9:=Dh he;have Zq:=D5 hS;obtain⟨-,-,-,-,hlen,get,get0,set,set0,go,go0,so,so0,n0,n1,u0,u1⟩:=hS;simp only[go_sem,Zq,LZ];refine Ac h1 ?_;simp only[go_sem,Zq,LZ];refine Ac k1 ?_;simp only[go_sem,Zq,LZ];refine Ac ha ?_;simp only[go_sem,Zq,LZ];exact Ea rfl ⟨rfl,rfl⟩ (by omega) (by simp only[Au,A1,Af,Bu,B4];simp only[V.rowB];trivial) ⟨rfl,rfl,rfl⟩
   ·have he:As [59] (A.drop (p+1+1))=false:=by simpa using he
    rw[if_neg (by rw[he];decide)];have ha:=Pn hS' (r:=[.int .i64 op,.int .i64 ln,.str nm,.str ar,.nils,.int .i64 0,.int .i64 0,.str [],.nils,.nils,.nils]) hl (Ga hlt2) he;have Zq:=D5 hS;obtain⟨-,-,-,-,hlen,get,get0,set,set0,go,go0,so,so0,n0,n1,u0,u1⟩:=hS;simp only[go_sem,Zq,LZ];refine Ac h1 ?_;simp only[go_sem,Zq,LZ];refine Ac k1 ?_;simp only[go_sem,Zq,LZ];refine Ac ha ?_;simp only[go_sem,Zq,LZ];exact Ea rfl ⟨rfl,rfl⟩ (Ga hlt2) (by simp only[Au,A1,Af,Bu,B4];simp only[V.rowB];trivial) ⟨rfl,_,_,_,_,_,_,_,_,_,_,_,rfl,by simp only[Au,A1,Af,Bu,B4];simp only[V.rowB];trivial⟩
theorem Ao8{n:Nat}{s:St}{m o:Nat}{z:Bool}{t:Nat}{A:List Tk}{p:Nat}{op ln:Int}(hA:OkA A)(hT:De A)(hs:s[m]?=some (RO z t A p))(ho:s[o]?=some (.row [.int .i64 op,.int .i64 ln,.str [],.str [],.nils,.int .i64 0,.int .i64 0,.str [],.nils,.nils,.nils] 105 0 0))(hne:m≠o)(hp:p<=A.length)(hf:10*(A.length - p)+9<=n):
  Md 239 s m o z t A (fun v q r=>match Vm n (A.drop p) with
   | some ((nm,x),ts)=>v=.bool true/\r=[.int .i64 op,.int .i64 ln,.str nm,.str [],.nils,.int .i64 x.op,.int .i64 x.n,.str x.nm,SL x.z x.t (x.l.map Xp.row),.nils,.nils]/\A.drop q=ts
   | none=>v=.bool false/\M4 r):=by
 refine Oh T239 hs ho hne fun S hS=>?_
 have hl:A.length<=1000000:=by have:=hA.len;omega
 have hS':=hS;have hm:=hS.low;have hmo:=hS.lowo;unfold Vm
 cases hn:Cy (A.drop p) with
 | none=>
  have h1:=Rv hS' (r:=[.int .i64 op,.int .i64 ln,.str [],.str [],.nils,.int .i64 0,.int .i64 0,.str [],.nils,.nils,.nils]) hl hp hn;have Zq:=D5 hS;obtain⟨-,-,-,-,hlen,get,get0,set,set0,go,go0,so,so0,n0,n1,u0,u1⟩:=hS;simp only[go_sem,Zq,LZ];refine Ac h1 ?_;simp only[go_sem,Zq,LZ];exact Ea rfl ⟨rfl,rfl⟩ hp (by simp only[Au,A1,Af,Bu,B4];simp only[V.rowB];trivial) ⟨rfl,_,_,_,_,_,_,_,_,_,_,_,rfl,by simp only[Au,A1,Af,Bu,B4];simp only[V.rowB];trivial⟩
 | some nt=>
  obtain⟨nm,ts⟩:=nt;obtain⟨h1,hlt,h3⟩:=Ru hS' (r:=[.int .i64 op,.int .i64 ln,.str [],.str [],.nils,.int .i64 0,.int .i64 0,.str [],.nils,.nils,.nils]) hl hp hn;simp only;rw[<-h3];obtain⟨v,q,k1,k2,k3⟩:=Rt hS' (p:=p+1) (r:=[.int .i64 op,.int .i64 ln,.str nm,.str [],.nils,.int .i64 0,.int .i64 0,.str [],.nils,.nils,.nils]) fun hs=>O8 (Tr n).1 hA hs (Ga hlt) (by omega)
  unfold PR at k3
  cases hx:pe n 1 (A.drop (p+1)) with
  | none=>
   rw[hx]at k3;subst k3;have Zq:=D5 hS;obtain⟨-,-,-,-,hlen,get,get0,set,set0,go,go0,so,so0,n0,n1,u0,u1⟩:=hS;simp only[go_sem,Zq,LZ];refine Ac h1 ?_;simp only[go_sem,Zq,LZ];refine Ac k1 ?_;simp only[go_sem,Zq,LZ];exact Ea rfl ⟨rfl,rfl⟩ k2 (by simp only[Au,A1,Af,Bu,B4];simp only[V.rowB];trivial) ⟨rfl,_,_,_,_,_,_,_,_,_,_,_,rfl,by simp only[Au,A1,Af,Bu,B4];simp only[V.rowB];trivial⟩
  | some xr=>
   obtain⟨x,ts2⟩:=xr;rw[hx]at k3;obtain⟨rfl,k3⟩:=k3;have hxs:=C7 x;have hr:=Ax x;rw[hr]at k1 hxs;simp only;rw[<-k3];unfold Df;by_cases he:As [59] (A.drop q)=true
   ·rw[if_pos he,<-Dj];have ha:=Pm hS' (r:=[.int .i64 op,.int .i64 ln,.str nm,.str [],.nils,.int .i64 x.op,.int .i64 x.n,.str x.nm,SL x.z x.t (x.l.map Xp.row),.nils,.nils]) hl he;have hlt9:=Dh he;have Zq:=D5 hS;obtain⟨-,-,-,-,hlen,get,get0,set,set0,go,go0,so,so0,n0,n1,u0,u1⟩:=hS;simp only[go_sem,Zq,LZ];refine Ac h1 ?_;simp only[go_sem,Zq,LZ];refine Ac k1 ?_;simp only[go_sem,Zq,LZ];refine Ac ha ?_;simp only[go_sem,Zq,LZ];exact Ea rfl ⟨rfl,rfl⟩ (by omega) (by simp only[Au,A1,Af,Bu,B4];simp only[V.rowB];trivial) ⟨rfl,rfl,rfl⟩
   ·have he:As [59] (A.drop q)=false:=by simpa using he
    rw[if_neg (by rw[he];decide)];have ha:=Pn hS' (r:=[.int .i64 op,.int .i64 ln,.str nm,.str [],.nils,.int .i64 x.op,.int .i64 x.n,.str x.nm,SL x.z x.t (x.l.map Xp.row),.nils,.nils]) hl k2 he;have Zq:=D5 hS;obtain⟨-,-,-,-,hlen,get,get0,set,set0,go,go0,so,so0,n0,n1,u0,u1⟩:=hS;simp only[go_sem,Zq,LZ];refine Ac h1 ?_;simp only[go_sem,Zq,LZ];refine Ac k1 ?_;simp only[go_sem,Zq,LZ];refine Ac ha ?_;simp only[go_sem,Zq,LZ];exact Ea rfl ⟨rfl,rfl⟩ k2 (by simp only[Au,A1,Af,Bu,B4];simp only[V.rowB];trivial) ⟨rfl,_,_,_,_,_,_,_,_,_,_,_,rfl,by simp only[Au,A1,Af,Bu,B4];simp only[V.rowB];trivial⟩
theorem Amz{n:Nat}{s:St}{m o:Nat}{z:Bool}{t:Nat}{A:List Tk}{p:Nat}{ln:Int}(hA:OkA A)(hT:De A)(hs:s[m]?=some (RO z t A p))(ho:s[o]?=some (.row [.int .i64 1,.int .i64 ln,.str [],.str [],.nils,.int .i64 0,.int .i64 0,.str [],.nils,.nils,.nils] 105 0 0))(hne:m≠o)(hp:p<=A.length)(hf:10*(A.length - p)+9<=n):
  Md 203 s m o z t A (fun v q r=>match P4 n ln (A.drop p) with
   | some (x,ts)=>v=.bool true/\r=x.row/\A.drop q=ts
   | none=>v=.bool false/\M4 r):=by
 refine Oh T203 hs ho hne fun S hS=>?_
 have hl:A.length<=1000000:=by have:=hA.len;omega
 have hS':=hS;have hm:=hS.low;have hmo:=hS.lowo;unfold P4
 cases hn:Cy (A.drop p) with
 | none=>
  have h1:=Rv hS' (r:=[.int .i64 1,.int .i64 ln,.str [],.str [],.nils,.int .i64 0,.int .i64 0,.str [],.nils,.nils,.nils]) hl hp hn;have Zq:=D5 hS;obtain⟨-,-,-,-,hlen,get,get0,set,set0,go,go0,so,so0,n0,n1,u0,u1⟩:=hS;simp only[go_sem,Zq,LZ];refine Ac h1 ?_;simp only[go_sem,Zq,LZ];exact Ea rfl ⟨rfl,rfl⟩ hp (by simp only[Au,A1,Af,Bu,B4];simp only[V.rowB];trivial) ⟨rfl,_,_,_,_,_,_,_,_,_,_,_,rfl,by simp only[Au,A1,Af,Bu,B4];simp only[V.rowB];trivial⟩
 | some nt=>
  obtain⟨nm,ts⟩:=nt;obtain⟨h1,hlt,h3⟩:=Ru hS' (r:=[.int .i64 1,.int .i64 ln,.str [],.str [],.nils,.int .i64 0,.int .i64 0,.str [],.nils,.nils,.nils]) hl hp hn;simp only;rw[<-h3];unfold Aeb Df;by_cases h91:As [91] (A.drop (p+1))=true
  ·rw[if_pos h91,<-Dj];have hb:=Pm hS' (r:=[.int .i64 1,.int .i64 ln,.str nm,.str [],.nils,.int .i64 0,.int .i64 0,.str [],.nils,.nils,.nils]) hl h91;have hlt2:=Dh h91;obtain⟨v0,q0,j1,j2,j3⟩:=Rt hS' (p:=p+1+1) (r:=[.int .i64 1,.int .i64 ln,.str nm,.str [],.nils,.int .i64 0,.int .i64 0,.str [],.nils,.nils,.nils]) fun hs=>O8 (Tr n).1 hA hs (by omega) (by omega)
   unfold PR at j3;have hple:=fun x ts (h:pe n 1 (A.drop (p+1+1))=some (x,ts))=>(R9 n).1 _ _ _ _ h
   rw[D0]at hple
   cases hy:pe n 1 (A.drop (p+1+1)) with
   | none=>
    rw[hy]at j3;subst j3;simp only;have Zq:=D5 hS;obtain⟨-,-,-,-,hlen,get,get0,set,set0,go,go0,so,so0,n0,n1,u0,u1⟩:=hS;simp only[go_sem,Zq,LZ];refine Ac h1 ?_;simp only[go_sem,Zq,LZ];refine Ac hb ?_;simp only[go_sem,Zq,LZ];refine Ac j1 ?_;simp only[go_sem,Zq,LZ];exact Rr rfl ⟨rfl,rfl⟩ j2 (by simp only[Au,A1,Af,Bu,B4];simp only[V.rowB];trivial) ⟨rfl,_,_,_,_,_,_,_,_,_,_,_,rfl,by simp only[Au,A1,Af,Bu,B4];simp only[V.rowB];trivial⟩
   | some yr=>
    obtain⟨y,ts8⟩:=yr;rw[hy]at j3;obtain⟨rfl,j3⟩:=j3;have hys:=C7 y;have hyr:=Ax y;rw[hyr]at j1 hys;have hple:=hple y ts8 hy;have hq0:ts8.length=A.length - q0:=by rw[<-j3,D0]
    simp only;rw[<-j3];by_cases h93:As [93] (A.drop q0)=true
    ·rw[if_pos h93];simp only[Ha];rw[<-Dj];have hcb:=Adk hS' (r:=[.int .i64 1,.int .i64 ln,.str nm,.str [],.nils,.int .i64 0,.int .i64 0,.str [],.nils,.nils,.nils]) [.row [.int .i64 y.op,.int .i64 y.n,.str y.nm,SL y.z y.t (y.l.map Xp.row)] 103 0 0] hl h93;have hlt3:=Dh h93;by_cases h61:As [61] (A.drop (q0+1))=true
     ·rw[if_pos h61];simp only;rw[<-Dj];have ha:=Adk hS' (r:=[.int .i64 1,.int .i64 ln,.str nm,.str [],.lst 1 [[.int .i64 y.op,.int .i64 y.n,.str y.nm,SL y.z y.t (y.l.map Xp.row)]],.int .i64 0,.int .i64 0,.str [],.nils,.nils,.nils]) [.row [.int .i64 y.op,.int .i64 y.n,.str y.nm,SL y.z y.t (y.l.map Xp.row)] 103 0 0] hl h61;have hlt61:=Dh h61;obtain⟨v,q,k1,k2,k3⟩:=A1x hS' (p:=(q0+1)+1) (r:=[.int .i64 1,.int .i64 ln,.str nm,.str [],.lst 1 [[.int .i64 y.op,.int .i64 y.n,.str y.nm,SL y.z y.t (y.l.map Xp.row)]],.int .i64 0,.int .i64 0,.str [],.nils,.nils,.nils]) (l:=[.row [.int .i64 y.op,.int .i64 y.n,.str y.nm,SL y.z y.t (y.l.map Xp.row)] 103 0 0]) fun hs=>O8 (Tr n).1 hA hs (Ga hlt61) (by omega)
      unfold PR at k3
      cases hx:pe n 1 (A.drop ((q0+1)+1)) with
      | none=>
       rw[hx]at k3;subst k3;simp only;have Zq:=D5 hS;obtain⟨-,-,-,-,hlen,get,get0,set,set0,go,go0,so,so0,n0,n1,u0,u1⟩:=hS;simp only[go_sem,Zq,LZ];refine Ac h1 ?_;simp only[go_sem,Zq,LZ];refine Ac hb ?_;simp only[go_sem,Zq,LZ];refine Ac j1 ?_;simp only[go_sem,Zq,LZ];refine Ac hcb ?_;simp only[go_sem,Zq,LZ];refine Ac ha ?_;simp only[go_sem,Zq,LZ];refine Ac k1 ?_;simp only[go_sem,Zq,LZ];exact Rr rfl ⟨rfl,rfl⟩ k2 (by simp only[Au,A1,Af,Bu,B4];simp only[V.rowB];trivial) ⟨rfl,_,_,_,_,_,_,_,_,_,_,_,rfl,by simp only[Au,A1,Af,Bu,B4];simp only[V.rowB];trivial⟩
      | some xr=>
       obtain⟨x,ts9⟩:=xr;rw[hx]at k3;obtain⟨rfl,k3⟩:=k3;have hxs:=C7 x;have hr:=Ax x;rw[hr]at k1 hxs;simp only;rw[<-k3];by_cases he:As [59] (A.drop q)=true
       ·rw[if_pos he,<-Dj];have hc:=Adk hS' (r:=[.int .i64 1,.int .i64 ln,.str nm,.str [],.lst 1 [[.int .i64 y.op,.int .i64 y.n,.str y.nm,SL y.z y.t (y.l.map Xp.row)]],.int .i64 x.op,.int .i64 x.n,.str x.nm,SL x.z x.t (x.l.map Xp.row),.nils,.nils]) [.row [.int .i64 y.op,.int .i64 y.n,.str y.nm,SL y.z y.t (y.l.map Xp.row)] 103 0 0] hl he;have hlt9:=Dh he;have Zq:=D5 hS;obtain⟨-,-,-,-,hlen,get,get0,set,set0,go,go0,so,so0,n0,n1,u0,u1⟩:=hS;simp only[go_sem,Zq,LZ];refine Ac h1 ?_;simp only[go_sem,Zq,LZ];refine Ac hb ?_;simp only[go_sem,Zq,LZ];refine Ac j1 ?_;simp only[go_sem,Zq,LZ];refine Ac hcb ?_;simp only[go_sem,Zq,LZ];refine Ac ha ?_;simp only[go_sem,Zq,LZ];refine Ac k1 ?_;simp only[go_sem,Zq,LZ];refine Ac hc ?_;simp only[go_sem,Zq,LZ];exact Rr rfl ⟨rfl,rfl⟩ (by omega) (by simp only[Au,A1,Af,Bu,B4];simp only[V.rowB];trivial) ⟨rfl,by rw[Eg];simp only[Ba,Bs,hyr];rfl,rfl⟩
       ·have he:As [59] (A.drop q)=false:=by simpa using he
        rw[if_neg (by rw[he];decide)];have hc:=Adl hS' (r:=[.int .i64 1,.int .i64 ln,.str nm,.str [],.lst 1 [[.int .i64 y.op,.int .i64 y.n,.str y.nm,SL y.z y.t (y.l.map Xp.row)]],.int .i64 x.op,.int .i64 x.n,.str x.nm,SL x.z x.t (x.l.map Xp.row),.nils,.nils]) [.row [.int .i64 y.op,.int .i64 y.n,.str y.nm,SL y.z y.t (y.l.map Xp.row)] 103 0 0] hl k2 he;have Zq:=D5 hS;obtain⟨-,-,-,-,hlen,get,get0,set,set0,go,go0,so,so0,n0,n1,u0,u1⟩:=hS;simp only[go_sem,Zq,LZ];refine Ac h1 ?_;simp only[go_sem,Zq,LZ];refine Ac hb ?_;simp only[go_sem,Zq,LZ];refine Ac j1 ?_;simp only[go_sem,Zq,LZ];refine Ac hcb ?_;simp only[go_sem,Zq,LZ];refine Ac ha ?_;simp only[go_sem,Zq,LZ];refine Ac k1 ?_;simp only[go_sem,Zq,LZ];refine Ac hc ?_;simp only[go_sem,Zq,LZ];exact Rr rfl ⟨rfl,rfl⟩ k2 (by simp only[Au,A1,Af,Bu,B4];simp only[V.rowB];trivial) ⟨rfl,_,_,_,_,_,_,_,_,_,_,_,rfl,by simp only[Au,A1,Af,Bu,B4];simp only[V.rowB];trivial⟩
     ·have h61:As [61] (A.drop (q0+1))=false:=by simpa using h61
      rw[if_neg (by rw[h61];decide)];simp only;have ha:=Adl hS' (r:=[.int .i64 1,.int .i64 ln,.str nm,.str [],.lst 1 [[.int .i64 y.op,.int .i64 y.n,.str y.nm,SL y.z y.t (y.l.map Xp.row)]],.int .i64 0,.int .i64 0,.str [],.nils,.nils,.nils]) [.row [.int .i64 y.op,.int .i64 y.n,.str y.nm,SL y.z y.t (y.l.map Xp.row)] 103 0 0] hl (Ga hlt3) h61;have Zq:=D5 hS;obtain⟨-,-,-,-,hlen,get,get0,set,set0,go,go0,so,so0,n0,n1,u0,u1⟩:=hS;simp only[go_sem,Zq,LZ];refine Ac h1 ?_;simp only[go_sem,Zq,LZ];refine Ac hb ?_;simp only[go_sem,Zq,LZ];refine Ac j1 ?_;simp only[go_sem,Zq,LZ];refine Ac hcb ?_;simp only[go_sem,Zq,LZ];refine Ac ha ?_;simp only[go_sem,Zq,LZ];exact Rr rfl ⟨rfl,rfl⟩ (Ga hlt3) (by simp only[Au,A1,Af,Bu,B4];simp only[V.rowB];trivial) ⟨rfl,_,_,_,_,_,_,_,_,_,_,_,rfl,by simp only[Au,A1,Af,Bu,B4];simp only[V.rowB];trivial⟩
    ·have h93:As [93] (A.drop q0)=false:=by simpa using h93
     rw[if_neg (by rw[h93];decide)];simp only[Option.map_none];have hcb:=Adl hS' (r:=[.int .i64 1,.int .i64 ln,.str nm,.str [],.nils,.int .i64 0,.int .i64 0,.str [],.nils,.nils,.nils]) [.row [.int .i64 y.op,.int .i64 y.n,.str y.nm,SL y.z y.t (y.l.map Xp.row)] 103 0 0] hl j2 h93;have Zq:=D5 hS;obtain⟨-,-,-,-,hlen,get,get0,set,set0,go,go0,so,so0,n0,n1,u0,u1⟩:=hS;simp only[go_sem,Zq,LZ];refine Ac h1 ?_;simp only[go_sem,Zq,LZ];refine Ac hb ?_;simp only[go_sem,Zq,LZ];refine Ac j1 ?_;simp only[go_sem,Zq,LZ];refine Ac hcb ?_;simp only[go_sem,Zq,LZ];exact Rr rfl ⟨rfl,rfl⟩ j2 (by simp only[Au,A1,Af,Bu,B4];simp only[V.rowB];trivial) ⟨rfl,_,_,_,_,_,_,_,_,_,_,_,rfl,by simp only[Au,A1,Af,Bu,B4];simp only[V.rowB];trivial⟩
  ·have h91:As [91] (A.drop (p+1))=false:=by simpa using h91
   rw[if_neg (by rw[h91];decide)];simp only;have hb:=Pn hS' (r:=[.int .i64 1,.int .i64 ln,.str nm,.str [],.nils,.int .i64 0,.int .i64 0,.str [],.nils,.nils,.nils]) hl (Ga hlt) h91;by_cases h61:As [61] (A.drop (p+1))=true
   ·rw[if_pos h61];simp only;rw[<-Dj];have ha:=Pm hS' (r:=[.int .i64 1,.int .i64 ln,.str nm,.str [],.nils,.int .i64 0,.int .i64 0,.str [],.nils,.nils,.nils]) hl h61;have hlt61:=Dh h61;obtain⟨v,q,k1,k2,k3⟩:=Rt hS' (p:=(p+1)+1) (r:=[.int .i64 1,.int .i64 ln,.str nm,.str [],.nils,.int .i64 0,.int .i64 0,.str [],.nils,.nils,.nils]) fun hs=>O8 (Tr n).1 hA hs (Ga hlt61) (by omega)
    unfold PR at k3
    cases hx:pe n 1 (A.drop ((p+1)+1)) with
    | none=>
     rw[hx]at k3;subst k3;simp only;have Zq:=D5 hS;obtain⟨-,-,-,-,hlen,get,get0,set,set0,go,go0,so,so0,n0,n1,u0,u1⟩:=hS;simp only[go_sem,Zq,LZ];refine Ac h1 ?_;simp only[go_sem,Zq,LZ];refine Ac hb ?_;simp only[go_sem,Zq,LZ];refine Ac ha ?_;simp only[go_sem,Zq,LZ];refine Ac k1 ?_;simp only[go_sem,Zq,LZ];exact Ea rfl ⟨rfl,rfl⟩ k2 (by simp only[Au,A1,Af,Bu,B4];simp only[V.rowB];trivial) ⟨rfl,_,_,_,_,_,_,_,_,_,_,_,rfl,by simp only[Au,A1,Af,Bu,B4];simp only[V.rowB];trivial⟩
    | some xr=>
     obtain⟨x,ts9⟩:=xr;rw[hx]at k3;obtain⟨rfl,k3⟩:=k3;have hxs:=C7 x;have hr:=Ax x;rw[hr]at k1 hxs;simp only;rw[<-k3];by_cases he:As [59] (A.drop q)=true
     ·rw[if_pos he,<-Dj];have hc:=Pm hS' (r:=[.int .i64 1,.int .i64 ln,.str nm,.str [],.nils,.int .i64 x.op,.int .i64 x.n,.str x.nm,SL x.z x.t (x.l.map Xp.row),.nils,.nils]) hl he;have hlt9:=Dh he;have Zq:=D5 hS;obtain⟨-,-,-,-,hlen,get,get0,set,set0,go,go0,so,so0,n0,n1,u0,u1⟩:=hS;simp only[go_sem,Zq,LZ];refine Ac h1 ?_;simp only[go_sem,Zq,LZ];refine Ac hb ?_;simp only[go_sem,Zq,LZ];refine Ac ha ?_;simp only[go_sem,Zq,LZ];refine Ac k1 ?_;simp only[go_sem,Zq,LZ];refine Ac hc ?_;simp only[go_sem,Zq,LZ];exact Ea rfl ⟨rfl,rfl⟩ (by omega) (by simp only[Au,A1,Af,Bu,B4];simp only[V.rowB];trivial) ⟨rfl,by rw[Eg];rfl,rfl⟩
     ·have he:As [59] (A.drop q)=false:=by simpa using he
      rw[if_neg (by rw[he];decide)];have hc:=Pn hS' (r:=[.int .i64 1,.int .i64 ln,.str nm,.str [],.nils,.int .i64 x.op,.int .i64 x.n,.str x.nm,SL x.z x.t (x.l.map Xp.row),.nils,.nils]) hl k2 he;have Zq:=D5 hS;obtain⟨-,-,-,-,hlen,get,get0,set,set0,go,go0,so,so0,n0,n1,u0,u1⟩:=hS;simp only[go_sem,Zq,LZ];refine Ac h1 ?_;simp only[go_sem,Zq,LZ];refine Ac hb ?_;simp only[go_sem,Zq,LZ];refine Ac ha ?_;simp only[go_sem,Zq,LZ];refine Ac k1 ?_;simp only[go_sem,Zq,LZ];refine Ac hc ?_;simp only[go_sem,Zq,LZ];exact Ea rfl ⟨rfl,rfl⟩ k2 (by simp only[Au,A1,Af,Bu,B4];simp only[V.rowB];trivial) ⟨rfl,_,_,_,_,_,_,_,_,_,_,_,rfl,by simp only[Au,A1,Af,Bu,B4];simp only[V.rowB];trivial⟩
   ·have h61:As [61] (A.drop (p+1))=false:=by simpa using h61
    rw[if_neg (by rw[h61];decide)];simp only;have ha:=Pn hS' (r:=[.int .i64 1,.int .i64 ln,.str nm,.str [],.nils,.int .i64 0,.int .i64 0,.str [],.nils,.nils,.nils]) hl (Ga hlt) h61;have Zq:=D5 hS;obtain⟨-,-,-,-,hlen,get,get0,set,set0,go,go0,so,so0,n0,n1,u0,u1⟩:=hS;simp only[go_sem,Zq,LZ];refine Ac h1 ?_;simp only[go_sem,Zq,LZ];refine Ac hb ?_;simp only[go_sem,Zq,LZ];refine Ac ha ?_;simp only[go_sem,Zq,LZ];exact Ea rfl ⟨rfl,rfl⟩ (Ga hlt) (by simp only[Au,A1,Af,Bu,B4];simp only[V.rowB];trivial) ⟨rfl,_,_,_,_,_,_,_,_,_,_,_,rfl,by simp only[Au,A1,Af,Bu,B4];simp only[V.rowB];trivial⟩
