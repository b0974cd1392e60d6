/- Walks: the parser's statements. -/
import Derived.Test.YthlbbjcbmojocabGreatDoorLk
set_option linter.all false
namespace Go.Proofs.YthlbbjcbmojocabGreatDoor.KM
open Go
structure RdT (s:St) (m o:Nat) (z:Bool) (t:Nat) (A:List Tk) (S:Nat->List V->St):Prop where
 low:m<s.length
 lowo:o<s.length
 ne:m≠o
 eq:∀ p r,S p r=(s.set m (RO z t A p)).set o (.row r 78 0 0)
 len:∀ p r,(S p r).length=s.length
 get:∀ (p:Nat) (r:List V) (l:St),(S p r++l)[m]?=some (.row [SL z t (A.map Tk.row),iV (p:Int)] 58 0 0)
 get0:∀ (p:Nat) (r:List V),(S p r)[m]?=some (.row [SL z t (A.map Tk.row),iV (p:Int)] 58 0 0)
 set:∀ (p q:Nat) (r:List V) (l:St),(S p r++l).set m (.row [SL z t (A.map Tk.row),iV (q:Int)] 58 0 0)=S q r++l
 set0:∀ (p q:Nat) (r:List V),(S p r).set m (.row [SL z t (A.map Tk.row),iV (q:Int)] 58 0 0)=S q r
 go:∀ (p:Nat) (r:List V) (l:St),(S p r++l)[o]?=some (.row r 78 0 0)
 go0:∀ (p:Nat) (r:List V),(S p r)[o]?=some (.row r 78 0 0)
 so:∀ (p:Nat) (r r':List V) (l:St),(S p r++l).set o (.row r' 78 0 0)=S p r'++l
 so0:∀ (p:Nat) (r r':List V),(S p r).set o (.row r' 78 0 0)=S p r'
 n0:∀ (p:Nat) (r:List V) (a:Ob) (l:St),(S p r++a::l)[s.length]?=some a
 n1:∀ (p:Nat) (r:List V) (a b:Ob) (l:St),(S p r++a::b::l)[s.length+1]?=some b
 u0:∀ (p:Nat) (r:List V) (a x:Ob) (l:St),(S p r++a::l).set s.length x=S p r++x::l
 u1:∀ (p:Nat) (r:List V) (a b x:Ob) (l:St),(S p r++a::b::l).set (s.length+1) x=S p r++a::x::l
def Ew{s:St}{m o:Nat}{z:Bool}{t:Nat}{A:List Tk}{S:Nat->List V->St}(h:RdT s m o z t A S):=And.intro h.len (And.intro h.get (And.intro h.get0 (And.intro h.set (And.intro h.set0 (And.intro h.go (And.intro h.go0 (And.intro h.so (And.intro h.so0 (And.intro h.n0 (And.intro h.n1 (And.intro h.u0 (h.u1))))))))))))
def A24{s:St}{m o:Nat}(z:Bool)(t:Nat)(A:List Tk)(hm:m<s.length)(ho:o<s.length)(qc:m≠o):RdT s m o z t A (fun p r=>(s.set m (RO z t A p)).set o (.row r 78 0 0)):=by
 have hl:∀ p r,((s.set m (RO z t A p)).set o (.row r 78 0 0)).length=s.length:=fun p r=>by simp
 have hg:∀ (p:Nat) (r:List V),((s.set m (RO z t A p)).set o (.row r 78 0 0))[m]?=some (RO z t A p):=fun p r=>by
  rw[Bj (Ne.symm qc),Ci hm]
 have qr:∀ (p:Nat) (r:List V),((s.set m (RO z t A p)).set o (.row r 78 0 0))[o]?=some (.row r 78 0 0):=fun p r=>Ci (by simpa using ho)
 have hs:∀ p q r,((s.set m (RO z t A p)).set o (.row r 78 0 0)).set m (RO z t A q)=(s.set m (RO z t A q)).set o (.row r 78 0 0):=fun p q r=>by
  rw[List.set_comm _ _ (Ne.symm qc),Wk]
 have qt:∀ p r r',((s.set m (RO z t A p)).set o (.row r 78 0 0)).set o (.row r' 78 0 0)=(s.set m (RO z t A p)).set o (.row r' 78 0 0):=fun p r r'=>by rw[Wk]
 refine⟨hm,ho,qc,fun _ _=>rfl,hl,fun p r l=>B5 (hg p r),fun p r=>hg p r,fun p q r l=>?_,fun p q r=>hs p q r,fun p r l=>B5 (qr p r),fun p r=>qr p r,fun p r r' l=>?_,fun p r r'=>qt p r r',fun p r a l=>?_,fun p r a b l=>?_,fun p r a x l=>?_,fun p r a b x l=>?_⟩
 .rw[V9 _ _ (by simpa using hm)];exact congrArg (·++l) (hs p q r)
 .rw[V9 _ _ (by simpa using ho)];exact congrArg (·++l) (qt p r r')
 .rw[Cd (by simp)];simp
 .rw[Cd (by simp)];simp
 .rw[Jn _ _ (by simp)];simp
 .rw[Jn _ _ (by simp)];simp
def Of(f:Nat)(s:St)(m o:Nat)(z:Bool)(t:Nat)(A:List Tk)(R:V->Nat->List V->Prop):Prop:=∃ v p' r',Bt TT PT f [.ptr m 0 0,.ptr o 0 0] s v ((s.set m (RO z t A p')).set o (.row r' 78 0 0))/\p'<=A.length/\R v p' r'
def Ana{s:St}{m o:Nat}{x y:Ob}(h:s[m]?=some x)(h':s[o]?=some y):(s.set m x).set o y=s:=by rw[Lv h,Lv h']
def Q2{z:Bool}{t:Nat}{A:List Tk}{f m o q:Nat}{res:List AR}{thr:Bool}{body:AC}{s:St}{r0:List V}{R:V->Nat->List V->Prop}(hT:TT f=some ⟨2,res,thr,body,none⟩)(hs:s[m]?=some (RO z t A q))(ho:s[o]?=some (.row r0 78 0 0))(qc:m≠o)
  (h:∀ S,RdT s m o z t A S->W TT PT [.c body] (Da 0 [.ptr m 0 0,.ptr o 0 0]) (S q r0) (Hd fun e' σ1=>∃ v p' r' l,Ch e' σ1 res=some v/\(Cq v=true/\v.refs=[])/\σ1=S p' r'++l/\p'<=A.length/\r'.all V.rowB=true/\R v p' r')):Of f s m o z t A R:=by
 have hm:=(Aq.1 hs).1;have qs:=(Aq.1 ho).1;have h:=h _ (A24 z t A hm qs qc);rw[Ana hs ho]at h;obtain⟨e',σ1,hE,v,p',r',l,hr,⟨h1,h2⟩,rfl,h3,h5,h4⟩:=h;have qz:((s.set m (RO z t A p')).set o (.row r' 78 0 0)++l).take s.length=(s.set m (RO z t A p')).set o (.row r' 78 0 0):=by rw[List.take_append_of_le_length (by simp),Mi (by simp)]
 refine⟨v,p',r',?_,h3,h4⟩
 have:=Ev.fn hT rfl rfl hE hr h1 (by rw[h2];rfl) (fun i ob hi qi=>by
  rw[Ca (by simpa using hi)]at qi;by_cases hb:o=i
  .subst hb;rw[Ci (by simpa using qs)]at qi;cases qi;exact .inr (by simp only[Ob.refs];rw[K0 h5];rfl)
  .rw[Bj hb]at qi;by_cases hb:m=i
   .subst hb;rw[Ci hm]at qi;cases qi;exact .inr (by rw[Abj];rfl)
   .rw[Bj hb]at qi
    exact .inl qi)
 rw[qz]at this;exact⟨_,hT,rfl,this⟩
def U3{S:Nat->List V->St}{A:List Tk}{R:V->Nat->List V->Prop}{e:Env}{res:List AR}{v:V}{p:Nat}{r:List V}{l:St}(hr:Ch e (S p r++l) res=some v)(hv:Cq v=true/\v.refs=[])(hp:p<=A.length)(hb:r.all V.rowB=true)(hR:R v p r):
  ∃ v p' r' l',Ch e (S p r++l) res=some v/\(Cq v=true/\v.refs=[])/\S p r++l=S p' r'++l'/\p'<=A.length/\r'.all V.rowB=true/\R v p' r':=⟨v,p,r,l,hr,hv,rfl,hp,hb,hR⟩
def E3{S:Nat->List V->St}{A:List Tk}{R:V->Nat->List V->Prop}{e:Env}{res:List AR}{v:V}{p:Nat}{r:List V}(hr:Ch e (S p r) res=some v)(hv:Cq v=true/\v.refs=[])(hp:p<=A.length)(hb:r.all V.rowB=true)(hR:R v p r):
  ∃ v p' r' l',Ch e (S p r) res=some v/\(Cq v=true/\v.refs=[])/\S p r=S p' r'++l'/\p'<=A.length/\r'.all V.rowB=true/\R v p' r':=⟨v,p,r,[],hr,hv,(Cy _).symm,hp,hb,hR⟩
def Bau{s:St}{m o:Nat}{z:Bool}{t:Nat}{A:List Tk}{S:Nat->List V->St}(hS:RdT s m o z t A S){f p:Nat}{r:List V}{av:List V}{l:St}{R:V->Nat->Prop}(h:(S p r++l)[m]?=some (RO z t A p)->RT f av (S p r++l) m z t A R):∃ v q,Bt TT PT f (.ptr m 0 0::av) (S p r++l) v (S q r++l)/\q<=A.length/\R v q:=by
 obtain⟨v,q,h1,h2,h3⟩:=h (hS.get p r l);rw[show(S p r++l).set m (RO z t A q)=S q r++l from hS.set p q r l]at h1;exact⟨v,q,h1,h2,h3⟩
def U4{s:St}{m o:Nat}{z:Bool}{t:Nat}{A:List Tk}{S:Nat->List V->St}(hS:RdT s m o z t A S){f p:Nat}{r:List V}{av:List V}{R:V->Nat->Prop}(h:(S p r)[m]?=some (RO z t A p)->RT f av (S p r) m z t A R):∃ v q,Bt TT PT f (.ptr m 0 0::av) (S p r) v (S q r)/\q<=A.length/\R v q:=by
 obtain⟨v,q,h1,h2,h3⟩:=h (hS.get0 p r);rw[show(S p r).set m (RO z t A q)=S q r from hS.set0 p q r]at h1;exact⟨v,q,h1,h2,h3⟩
def Sd{s:St}{m o:Nat}{z:Bool}{t:Nat}{A:List Tk}{S:Nat->List V->St}(hS:RdT s m o z t A S){p:Nat}{r:List V}(hA:A.length<=1000000){w:List UInt8}(h:Ao w (A.drop p)=true):Bt TT PT 60 [.ptr m 0 0,.str w] (S p r) (.bool true) (S (p+1) r):=by
 have:=Q0 (hS.get0 p r) hA h;rw[show(S p r).set m (RO z t A (p+1))=S (p+1) r from hS.set0 p (p+1) r]at this;exact this
def Se{s:St}{m o:Nat}{z:Bool}{t:Nat}{A:List Tk}{S:Nat->List V->St}(hS:RdT s m o z t A S){p:Nat}{r:List V}(hA:A.length<=1000000)(hp:p<=A.length){w:List UInt8}(h:Ao w (A.drop p)=false):Bt TT PT 60 [.ptr m 0 0,.str w] (S p r) (.bool false) (S p r):=Q1 (hS.get0 p r) hA hp h
def Ahy{s:St}{m o:Nat}{z:Bool}{t:Nat}{A:List Tk}{S:Nat->List V->St}(hS:RdT s m o z t A S){p:Nat}{r:List V}(l:St)(hA:A.length<=1000000){w:List UInt8}(h:Ao w (A.drop p)=true):Bt TT PT 60 [.ptr m 0 0,.str w] (S p r++l) (.bool true) (S (p+1) r++l):=by
 have:=Q0 (hS.get p r l) hA h;rw[show(S p r++l).set m (RO z t A (p+1))=S (p+1) r++l from hS.set p (p+1) r l]at this;exact this
def Ahz{s:St}{m o:Nat}{z:Bool}{t:Nat}{A:List Tk}{S:Nat->List V->St}(hS:RdT s m o z t A S){p:Nat}{r:List V}(l:St)(hA:A.length<=1000000)(hp:p<=A.length){w:List UInt8}(h:Ao w (A.drop p)=false):Bt TT PT 60 [.ptr m 0 0,.str w] (S p r++l) (.bool false) (S p r++l):=Q1 (hS.get p r l) hA hp h
def U5{s:St}{m o:Nat}{z:Bool}{t:Nat}{A:List Tk}{S:Nat->List V->St}(hS:RdT s m o z t A S){p:Nat}{r:List V}(hA:A.length<=1000000)(hp:p<=A.length){w:List UInt8}{q:List Tk}(h:C4 (A.drop p)=some (w,q)):Bt TT PT 57 [.ptr m 0 0] (S p r) (.tup [.str w,.bool true]) (S (p+1) r)/\p<A.length/\A.drop (p+1)=q:=by
 obtain⟨h1,h2⟩:=(Vl (hS.get0 p r) hA hp).1 w q h;rw[show(S p r).set m (RO z t A (p+1))=S (p+1) r from hS.set0 p (p+1) r]at h1;exact⟨h1,h2⟩
def U6{s:St}{m o:Nat}{z:Bool}{t:Nat}{A:List Tk}{S:Nat->List V->St}(hS:RdT s m o z t A S){p:Nat}{r:List V}(hA:A.length<=1000000)(hp:p<=A.length)(h:C4 (A.drop p)=none):Bt TT PT 57 [.ptr m 0 0] (S p r) (.tup [.str [],.bool false]) (S p r):=(Vl (hS.get0 p r) hA hp).2 h
/-! what is given back -/
def Y5(A:List Tk)(o:Option (List Sp × List Tk))(v:V)(p':Nat):Prop:=match o with
 | some (l,r)=>v=.tup [SL true 0 (l.map Sp.row),.bool true]/\A.drop p'=r
 | none=>v=.tup [.nils,.bool false]
def S7(n:Nat):Prop:=∀ (s:St) (m:Nat) (z:Bool) (t:Nat) (A:List Tk) (p:Nat),OkA A->Dv A->s[m]?=some (RO z t A p)->p<=A.length->10*(A.length - p)+2<=n->RT 61 [] s m z t A (Y5 A (Eu n (A.drop p)))
def B8(l:List Sp):(SL true 0 (l.map Sp.row)).rowB=true:=by
 unfold SL
 split
 .rfl
 .rfl
def Aev{n:Nat}(hB:S7 n){s:St}{m o:Nat}{z:Bool}{t:Nat}{A:List Tk}{p:Nat}{c0 c1 c2 c3 c4 c5 c6 c7 c8 c9 c10:V}(hA:OkA A)(hT:Dv A)(hs:s[m]?=some (RO z t A p))(ho:s[o]?=some (.row [c0,c1,c2,c3,c4,c5,c6,c7,c8,c9,c10] 78 0 0))(qc:m≠o)(hp:p<=A.length)(hb:[c0,c1,c2,c3,c4,c5,c6,c7,c8,c9,c10].all V.rowB=true)(hf:10*(A.length - p)+2<=n):
  Of 143 s m o z t A (fun v q r=>match Eu n (A.drop p) with
   | some (l,ts)=>v=.bool true/\r=[c0,c1,c2,c3,c4,c5,c6,c7,c8,SL true 0 (l.map Sp.row),c10]/\A.drop q=ts
   | none=>v=.bool false/\r=[c0,c1,c2,c3,c4,c5,c6,c7,c8,.nils,c10]):=by
 refine Q2 T143 hs ho qc fun S hS=>?_
 obtain⟨v,q,h1,h2,h3⟩:=U4 hS (r:=[c0,c1,c2,c3,c4,c5,c6,c7,c8,c9,c10]) fun hs=>hB _ m z t A p hA hT hs hp hf
 have Zq:=Ew hS;obtain⟨-,-,-,-,qa,get,get0,set,set0,go,go0,so,so0,n0,n1,u0,u1⟩:=hS;simp only[As,Bd,Af]at hb;unfold Y5 at h3;simp only[go_sem,Zq,LZ]
 split at h3
 .rename_i l ts hl;obtain⟨rfl,h3⟩:=h3;refine Ab h1 ?_;simp only[go_sem,Zq,LZ];exact E3 rfl ⟨rfl,rfl⟩ h2 (by simp only[As,Bd,Af,B8];simp only[hb];trivial) ⟨rfl,rfl,h3⟩
 .rename_i hl;subst h3;refine Ab h1 ?_;simp only[go_sem,Zq,LZ];exact E3 rfl ⟨rfl,rfl⟩ h2 (by simp only[As,Bd,Af,(show V.rowB V.nils=true from rfl)];simp only[hb];trivial) ⟨rfl,rfl⟩
def Cf(x:Xp):(SL x.z x.t (x.l.map Xp.row)).rowB=true:=by
 unfold SL
 split
 .rfl
 .rfl
def Pa(r:List V):Prop:=∃ c0 c1 c2 c3 c4 c5 c6 c7 c8 c9 c10:V,r=[c0,c1,c2,c3,c4,c5,c6,c7,c8,c9,c10]/\r.all V.rowB=true
/-! the statements' own parts -/
def L8(n:Nat)(ts:List Tk):Option ((Xp × List Sp) × List Tk):=match pe n 1 ts with
 | none=>none
 | some (x,ts)=>match Eu n ts with
  | none=>none
  | some (b,ts)=>some ((x,b),ts)
def Yo(n:Nat)(ts:List Tk):Option ((Xp × List Sp × List Sp) × List Tk):=match L8 n ts with
 | none=>none
 | some ((x,b),ts)=>if Ao [101,108,115,101] ts=true then(match Eu n ts.tail with
   | none=>none
   | some (e,ts)=>some ((x,b,e),ts))
  else some ((x,b,[]),ts)
def Y6(n:Nat)(ts:List Tk):Option ((List UInt8 × List Sp) × List Tk):=match C4 ts with
 | none=>none
 | some (nm,ts)=>match Eu n ts with
  | none=>none
  | some (b,ts)=>some ((nm,b),ts)
def Y7(ts:List Tk):Option (List UInt8 × List Tk):=match C4 ts with
 | none=>none
 | some (nm,ts)=>(Dn [59] ts).map fun ts=>(nm,ts)
def Yx(n:Nat)(ts:List Tk):Option ((List UInt8 × Xp) × List Tk):=match C4 ts with
 | none=>none
 | some (nm,ts)=>match pe n 1 ts with
  | none=>none
  | some (x,ts)=>(Dn [59] ts).map fun ts=>((nm,x),ts)
def Yy(ts:List Tk):Option ((List UInt8 × List UInt8) × List Tk):=match C4 ts with
 | none=>none
 | some (nm,ts)=>match C4 ts with
  | none=>none
  | some (ar,ts)=>(Dn [59] ts).map fun ts=>((nm,ar),ts)
def Aki{n:Nat}(hB:S7 n){s:St}{m o:Nat}{z:Bool}{t:Nat}{A:List Tk}{p:Nat}{op ln:Int}(hA:OkA A)(hT:Dv A)(hs:s[m]?=some (RO z t A p))(ho:s[o]?=some (.row [iV op,iV ln,.str [],.str [],.nils,iV 0,iV 0,.str [],.nils,.nils,.nils] 78 0 0))(qc:m≠o)(hp:p<=A.length)(hf:10*(A.length - p)+9<=n):
  Of 141 s m o z t A (fun v q r=>match L8 n (A.drop p) with
   | some ((x,b),ts)=>v=.bool true/\r=[.int .i64 op,.int .i64 ln,.str [],.str [],.nils,.int .i64 x.op,.int .i64 x.n,.str x.nm,SL x.z x.t (x.l.map Xp.row),SL true 0 (b.map Sp.row),.nils]/\A.drop q=ts
   | none=>v=.bool false/\Pa r):=by
 refine Q2 T141 hs ho qc fun S hS=>?_
 have hl:A.length<=1000000:=by have:=hA.len;omega
 have qb:=hS;have hm:=hS.low;have qo:=hS.lowo;obtain⟨v,q,h1,h2,h3⟩:=U4 hS (r:=[iV op,iV ln,.str [],.str [],.nils,iV 0,iV 0,.str [],.nils,.nils,.nils]) fun hs=>Rx (Wz n).1 hA hs hp (by omega)
 unfold PR at h3
 have qy:∀ x ts,pe n 1 (A.drop p)=some (x,ts)->L8 n (A.drop p)=match Eu n ts with
   | none=>none
   | some (b,ts)=>some ((x,b),ts):=fun x ts h=>by unfold L8;rw[h]
 have qx:pe n 1 (A.drop p)=none->L8 n (A.drop p)=none:=fun h=>by unfold L8;rw[h]
 have qd:=fun x ts (h:pe n 1 (A.drop p)=some (x,ts))=>(Vm n).1 _ _ _ _ h
 rw[Dx]at qd
 cases hx:pe n 1 (A.drop p) with
 | none=>
  rw[hx]at h3;subst h3;rw[qx hx];have Zq:=Ew hS;obtain⟨-,-,-,-,qa,get,get0,set,set0,go,go0,so,so0,n0,n1,u0,u1⟩:=hS;simp only[go_sem,Zq,LZ];refine Ab h1 ?_;simp only[go_sem,Zq,LZ];exact E3 rfl ⟨rfl,rfl⟩ h2 (by simp only[As,Bd,Af,B8,Cf];simp only[V.rowB];trivial) ⟨rfl,_,_,_,_,_,_,_,_,_,_,_,rfl,by simp only[As,Bd,Af,B8,Cf];simp only[V.rowB];trivial⟩
 | some xr=>
  obtain⟨x,ts⟩:=xr;rw[hx]at h3;obtain⟨rfl,h3⟩:=h3;have qm:=Dm x;have hr:=Bb x;rw[hr]at h1 qm;rw[qy x ts hx,<-h3];have qd:=qd x ts hx;have qE:ts.length=A.length - q:=by rw[<-h3,Dx]
  obtain⟨v2,q2,r2,k1,k2,k3⟩:=Aev (c0:=iV op) (c1:=iV ln) (c2:=.str []) (c3:=.str []) (c4:=.nils) (c5:=iV x.op) (c6:=iV x.n) (c7:=.str x.nm) (c8:=SL x.z x.t (x.l.map Xp.row)) (c9:=.nils) (c10:=.nils) hB hA hT (qb.get0 q _) (qb.go0 q _) qc h2 (by simp only[As,Bd,Af,B8,Cf];simp only[V.rowB];trivial) (by omega);rw[show((S q [iV op,iV ln,.str [],.str [],.nils,iV x.op,iV x.n,.str x.nm,SL x.z x.t (x.l.map Xp.row),.nils,.nils]).set m (RO z t A q2)).set o (.row r2 78 0 0)=S q2 r2 from by rw[show(S q _).set m (RO z t A q2)=S q2 _ from qb.set0 q q2 _,qb.so0]]at k1;have Zq:=Ew hS;obtain⟨-,-,-,-,qa,get,get0,set,set0,go,go0,so,so0,n0,n1,u0,u1⟩:=hS;simp only[go_sem,Zq,LZ];refine Ab h1 ?_;simp only[go_sem,Zq,LZ];refine Ab k1 ?_
  cases hb:Eu n (A.drop q) with
  | none=>
   rw[hb]at k3;obtain⟨rfl,rfl⟩:=k3;simp only[go_sem,Zq,LZ];exact E3 rfl ⟨rfl,rfl⟩ k2 (by simp only[As,Bd,Af,B8,Cf];simp only[V.rowB];trivial) ⟨rfl,_,_,_,_,_,_,_,_,_,_,_,rfl,by simp only[As,Bd,Af,B8,Cf];simp only[V.rowB];trivial⟩
  | some bl=>
   obtain⟨b,tl⟩:=bl;rw[hb]at k3;obtain⟨rfl,rfl,k3⟩:=k3;simp only[go_sem,Zq,LZ];exact E3 rfl ⟨rfl,rfl⟩ k2 (by simp only[As,Bd,Af,B8,Cf];simp only[V.rowB];trivial) ⟨rfl,rfl,k3⟩
def Aup{n:Nat}(hB:S7 n){s:St}{m o:Nat}{z:Bool}{t:Nat}{A:List Tk}{p:Nat}{op ln:Int}(hA:OkA A)(hT:Dv A)(hs:s[m]?=some (RO z t A p))(ho:s[o]?=some (.row [iV op,iV ln,.str [],.str [],.nils,iV 0,iV 0,.str [],.nils,.nils,.nils] 78 0 0))(qc:m≠o)(hp:p<=A.length)(hf:10*(A.length - p)+9<=n):
  Of 140 s m o z t A (fun v q r=>match Yo n (A.drop p) with
   | some ((x,b,e),ts)=>v=.bool true/\r=[.int .i64 op,.int .i64 ln,.str [],.str [],.nils,.int .i64 x.op,.int .i64 x.n,.str x.nm,SL x.z x.t (x.l.map Xp.row),SL true 0 (b.map Sp.row),SL true 0 (e.map Sp.row)]/\A.drop q=ts
   | none=>v=.bool false/\Pa r):=by
 refine Q2 T140 hs ho qc fun S hS=>?_
 have hl:A.length<=1000000:=by have:=hA.len;omega
 have qb:=hS;have hm:=hS.low;have qo:=hS.lowo;obtain⟨v1,q,r1,h1,h2,h3⟩:=Aki hB hA hT (qb.get0 p _) (qb.go0 p [iV op,iV ln,.str [],.str [],.nils,iV 0,iV 0,.str [],.nils,.nils,.nils]) qc hp hf;rw[show((S p [iV op,iV ln,.str [],.str [],.nils,iV 0,iV 0,.str [],.nils,.nils,.nils]).set m (RO z t A q)).set o (.row r1 78 0 0)=S q r1 from by rw[show(S p _).set m (RO z t A q)=S q _ from qb.set0 p q _,qb.so0]]at h1;have qd:=fun x ts (h:pe n 1 (A.drop p)=some (x,ts))=>(Vm n).1 _ _ _ _ h
 rw[Dx]at qd;unfold Yo
 cases hq:L8 n (A.drop p) with
 | none=>
  rw[hq]at h3;obtain⟨rfl,qp⟩:=h3;have Zq:=Ew hS;obtain⟨-,-,-,-,qa,get,get0,set,set0,go,go0,so,so0,n0,n1,u0,u1⟩:=hS;simp only[go_sem,Zq,LZ];refine Ab h1 ?_;simp only[go_sem,Zq,LZ];exact E3 rfl ⟨rfl,rfl⟩ h2 (by obtain⟨_,_,_,_,_,_,_,_,_,_,_,-,hb⟩:=qp;exact hb) ⟨rfl,qp⟩
 | some xb=>
  obtain⟨⟨x,b⟩,ts⟩:=xb;rw[hq]at h3;obtain⟨rfl,rfl,h3⟩:=h3;simp only;rw[<-h3]
  have qF:A.length - q<A.length - p:=by
   unfold L8 at hq
   split at hq
   .cases hq
   .rename_i y t1 hy;have:=qd _ _ hy
    split at hq
    .cases hq
    .rename_i b' t2 qw;cases hq
     have h4:=((Aa0 (M:=0) (C:=100) (by omega) n).2.1 _ _ _ (C9 hT (by
      have:=((Uk (C:=25) (Ai _) n).1 _ _ _ _ (C9 hT (We p A)) hy).2.1
      exact this.trans (We p A))) qw).2.2.1
     have h5:(A.drop q).length=A.length - q:=Dx;rw[h3]at h5;omega
  by_cases he:Ao [101,108,115,101] (A.drop q)=true
  .rw[if_pos he,<-D9];have ha:=Sd qb (r:=[iV op,iV ln,.str [],.str [],.nils,iV x.op,iV x.n,.str x.nm,SL x.z x.t (x.l.map Xp.row),SL true 0 (b.map Sp.row),.nils]) hl he;have qg:=D5 he;obtain⟨v2,q2,k1,k2,k3⟩:=U4 qb (p:=q+1) (r:=[iV op,iV ln,.str [],.str [],.nils,iV x.op,iV x.n,.str x.nm,SL x.z x.t (x.l.map Xp.row),SL true 0 (b.map Sp.row),.nils]) fun hs=>hB _ m z t A (q+1) hA hT hs (by omega) (by omega)
   unfold Y5 at k3;have Zq:=Ew hS;obtain⟨-,-,-,-,qa,get,get0,set,set0,go,go0,so,so0,n0,n1,u0,u1⟩:=hS;simp only[go_sem,Zq,LZ];refine Ab h1 ?_;simp only[go_sem,Zq,LZ];refine Ab ha ?_;simp only[go_sem,Zq,LZ]
   cases hb:Eu n (A.drop (q+1)) with
   | none=>
    rw[hb]at k3;subst k3;refine Ab k1 ?_;simp only[go_sem,Zq,LZ];exact E3 rfl ⟨rfl,rfl⟩ k2 (by simp only[As,Bd,Af,B8,Cf];simp only[V.rowB];trivial) ⟨rfl,_,_,_,_,_,_,_,_,_,_,_,rfl,by simp only[As,Bd,Af,B8,Cf];simp only[V.rowB];trivial⟩
   | some el=>
    obtain⟨e,tl⟩:=el;rw[hb]at k3;obtain⟨rfl,k3⟩:=k3;refine Ab k1 ?_;simp only[go_sem,Zq,LZ];exact E3 rfl ⟨rfl,rfl⟩ k2 (by simp only[As,Bd,Af,B8,Cf];simp only[V.rowB];trivial) ⟨rfl,rfl,k3⟩
  .have he:Ao [101,108,115,101] (A.drop q)=false:=by simpa using he
   rw[if_neg (by rw[he];decide)];have ha:=Se qb (r:=[iV op,iV ln,.str [],.str [],.nils,iV x.op,iV x.n,.str x.nm,SL x.z x.t (x.l.map Xp.row),SL true 0 (b.map Sp.row),.nils]) hl h2 he;have Zq:=Ew hS;obtain⟨-,-,-,-,qa,get,get0,set,set0,go,go0,so,so0,n0,n1,u0,u1⟩:=hS;simp only[go_sem,Zq,LZ];refine Ab h1 ?_;simp only[go_sem,Zq,LZ];refine Ab ha ?_;simp only[go_sem,Zq,LZ];exact E3 rfl ⟨rfl,rfl⟩ h2 (by simp only[As,Bd,Af,B8,Cf];simp only[V.rowB];trivial) ⟨rfl,rfl,rfl⟩
def Aym{n:Nat}(hB:S7 n){s:St}{m o:Nat}{z:Bool}{t:Nat}{A:List Tk}{p:Nat}{op ln:Int}(hA:OkA A)(hT:Dv A)(hs:s[m]?=some (RO z t A p))(ho:s[o]?=some (.row [iV op,iV ln,.str [],.str [],.nils,iV 0,iV 0,.str [],.nils,.nils,.nils] 78 0 0))(qc:m≠o)(hp:p<=A.length)(hf:10*(A.length - p)+9<=n):
  Of 142 s m o z t A (fun v q r=>match Y6 n (A.drop p) with
   | some ((nm,b),ts)=>v=.bool true/\r=[.int .i64 op,.int .i64 ln,.str nm,.str [],.nils,.int .i64 0,.int .i64 0,.str [],.nils,SL true 0 (b.map Sp.row),.nils]/\A.drop q=ts
   | none=>v=.bool false/\Pa r):=by
 refine Q2 T142 hs ho qc fun S hS=>?_
 have hl:A.length<=1000000:=by have:=hA.len;omega
 have qb:=hS;have hm:=hS.low;have qo:=hS.lowo;unfold Y6
 cases hn:C4 (A.drop p) with
 | none=>
  have h1:=U6 qb (r:=[iV op,iV ln,.str [],.str [],.nils,iV 0,iV 0,.str [],.nils,.nils,.nils]) hl hp hn;have Zq:=Ew hS;obtain⟨-,-,-,-,qa,get,get0,set,set0,go,go0,so,so0,n0,n1,u0,u1⟩:=hS;simp only[go_sem,Zq,LZ];refine Ab h1 ?_;simp only[go_sem,Zq,LZ];exact E3 rfl ⟨rfl,rfl⟩ hp (by simp only[As,Bd,Af,B8,Cf];simp only[V.rowB];trivial) ⟨rfl,_,_,_,_,_,_,_,_,_,_,_,rfl,by simp only[As,Bd,Af,B8,Cf];simp only[V.rowB];trivial⟩
 | some nt=>
  obtain⟨nm,ts⟩:=nt;obtain⟨h1,qd,h3⟩:=U5 qb (r:=[iV op,iV ln,.str [],.str [],.nils,iV 0,iV 0,.str [],.nils,.nils,.nils]) hl hp hn;simp only;rw[<-h3];obtain⟨v2,q2,r2,k1,k2,k3⟩:=Aev (c0:=iV op) (c1:=iV ln) (c2:=.str nm) (c3:=.str []) (c4:=.nils) (c5:=iV 0) (c6:=iV 0) (c7:=.str []) (c8:=.nils) (c9:=.nils) (c10:=.nils) hB hA hT (qb.get0 (p+1) _) (qb.go0 (p+1) _) qc (Hf qd) (by simp only[As,Bd,Af,B8,Cf];simp only[V.rowB];trivial) (by omega);rw[show((S (p+1) [iV op,iV ln,.str nm,.str [],.nils,iV 0,iV 0,.str [],.nils,.nils,.nils]).set m (RO z t A q2)).set o (.row r2 78 0 0)=S q2 r2 from by rw[show(S (p+1) _).set m (RO z t A q2)=S q2 _ from qb.set0 (p+1) q2 _,qb.so0]]at k1;have Zq:=Ew hS;obtain⟨-,-,-,-,qa,get,get0,set,set0,go,go0,so,so0,n0,n1,u0,u1⟩:=hS;simp only[go_sem,Zq,LZ];refine Ab h1 ?_;simp only[go_sem,Zq,LZ];refine Ab k1 ?_
  cases hb:Eu n (A.drop (p+1)) with
  | none=>
   rw[hb]at k3;obtain⟨rfl,rfl⟩:=k3;simp only[go_sem,Zq,LZ];exact E3 rfl ⟨rfl,rfl⟩ k2 (by simp only[As,Bd,Af,B8,Cf];simp only[V.rowB];trivial) ⟨rfl,_,_,_,_,_,_,_,_,_,_,_,rfl,by simp only[As,Bd,Af,B8,Cf];simp only[V.rowB];trivial⟩
  | some bl=>
   obtain⟨b,tl⟩:=bl;rw[hb]at k3;obtain⟨rfl,rfl,k3⟩:=k3;simp only[go_sem,Zq,LZ];exact E3 rfl ⟨rfl,rfl⟩ k2 (by simp only[As,Bd,Af,B8,Cf];simp only[V.rowB];trivial) ⟨rfl,rfl,k3⟩
def Atx{n:Nat}{s:St}{m o:Nat}{z:Bool}{t:Nat}{A:List Tk}{p:Nat}{op ln:Int}(hA:OkA A)(hT:Dv A)(hs:s[m]?=some (RO z t A p))(ho:s[o]?=some (.row [iV op,iV ln,.str [],.str [],.nils,iV 0,iV 0,.str [],.nils,.nils,.nils] 78 0 0))(qc:m≠o)(hp:p<=A.length)(hf:10*(A.length - p)+9<=n):
  Of 144 s m o z t A (fun v q r=>match Y7 (A.drop p) with
   | some (nm,ts)=>v=.bool true/\r=[.int .i64 op,.int .i64 ln,.str nm,.str [],.nils,.int .i64 0,.int .i64 0,.str [],.nils,.nils,.nils]/\A.drop q=ts
   | none=>v=.bool false/\Pa r):=by
 refine Q2 T144 hs ho qc fun S hS=>?_
 have hl:A.length<=1000000:=by have:=hA.len;omega
 have qb:=hS;have hm:=hS.low;have qo:=hS.lowo;unfold Y7
 cases hn:C4 (A.drop p) with
 | none=>
  have h1:=U6 qb (r:=[iV op,iV ln,.str [],.str [],.nils,iV 0,iV 0,.str [],.nils,.nils,.nils]) hl hp hn;have Zq:=Ew hS;obtain⟨-,-,-,-,qa,get,get0,set,set0,go,go0,so,so0,n0,n1,u0,u1⟩:=hS;simp only[go_sem,Zq,LZ];refine Ab h1 ?_;simp only[go_sem,Zq,LZ];exact E3 rfl ⟨rfl,rfl⟩ hp (by simp only[As,Bd,Af,B8,Cf];simp only[V.rowB];trivial) ⟨rfl,_,_,_,_,_,_,_,_,_,_,_,rfl,by simp only[As,Bd,Af,B8,Cf];simp only[V.rowB];trivial⟩
 | some nt=>
  obtain⟨nm,ts⟩:=nt;obtain⟨h1,qd,h3⟩:=U5 qb (r:=[iV op,iV ln,.str [],.str [],.nils,iV 0,iV 0,.str [],.nils,.nils,.nils]) hl hp hn;simp only;rw[<-h3];unfold Dn;by_cases he:Ao [59] (A.drop (p+1))=true
  .rw[if_pos he,<-D9];have ha:=Sd qb (r:=[iV op,iV ln,.str nm,.str [],.nils,iV 0,iV 0,.str [],.nils,.nils,.nils]) hl he;have qh:=D5 he;have Zq:=Ew hS;obtain⟨-,-,-,-,qa,get,get0,set,set0,go,go0,so,so0,n0,n1,u0,u1⟩:=hS;simp only[go_sem,Zq,LZ];refine Ab h1 ?_;simp only[go_sem,Zq,LZ];refine Ab ha ?_;simp only[go_sem,Zq,LZ];exact E3 rfl ⟨rfl,rfl⟩ (by omega) (by simp only[As,Bd,Af,B8,Cf];simp only[V.rowB];trivial) ⟨rfl,rfl,rfl⟩
  .have he:Ao [59] (A.drop (p+1))=false:=by simpa using he
   rw[if_neg (by rw[he];decide)];have ha:=Se qb (r:=[iV op,iV ln,.str nm,.str [],.nils,iV 0,iV 0,.str [],.nils,.nils,.nils]) hl (Hf qd) he;have Zq:=Ew hS;obtain⟨-,-,-,-,qa,get,get0,set,set0,go,go0,so,so0,n0,n1,u0,u1⟩:=hS;simp only[go_sem,Zq,LZ];refine Ab h1 ?_;simp only[go_sem,Zq,LZ];refine Ab ha ?_;simp only[go_sem,Zq,LZ];exact E3 rfl ⟨rfl,rfl⟩ (Hf qd) (by simp only[As,Bd,Af,B8,Cf];simp only[V.rowB];trivial) ⟨rfl,_,_,_,_,_,_,_,_,_,_,_,rfl,by simp only[As,Bd,Af,B8,Cf];simp only[V.rowB];trivial⟩
def Av3{n:Nat}{s:St}{m o:Nat}{z:Bool}{t:Nat}{A:List Tk}{p:Nat}{op ln:Int}(hA:OkA A)(hT:Dv A)(hs:s[m]?=some (RO z t A p))(ho:s[o]?=some (.row [iV op,iV ln,.str [],.str [],.nils,iV 0,iV 0,.str [],.nils,.nils,.nils] 78 0 0))(qc:m≠o)(hp:p<=A.length)(hf:10*(A.length - p)+9<=n):
  Of 146 s m o z t A (fun v q r=>match Yy (A.drop p) with
   | some ((nm,ar),ts)=>v=.bool true/\r=[.int .i64 op,.int .i64 ln,.str nm,.str ar,.nils,.int .i64 0,.int .i64 0,.str [],.nils,.nils,.nils]/\A.drop q=ts
   | none=>v=.bool false/\Pa r):=by
 refine Q2 T146 hs ho qc fun S hS=>?_
 have hl:A.length<=1000000:=by have:=hA.len;omega
 have qb:=hS;have hm:=hS.low;have qo:=hS.lowo;unfold Yy
 cases hn:C4 (A.drop p) with
 | none=>
  have h1:=U6 qb (r:=[iV op,iV ln,.str [],.str [],.nils,iV 0,iV 0,.str [],.nils,.nils,.nils]) hl hp hn;have Zq:=Ew hS;obtain⟨-,-,-,-,qa,get,get0,set,set0,go,go0,so,so0,n0,n1,u0,u1⟩:=hS;simp only[go_sem,Zq,LZ];refine Ab h1 ?_;simp only[go_sem,Zq,LZ];exact E3 rfl ⟨rfl,rfl⟩ hp (by simp only[As,Bd,Af,B8,Cf];simp only[V.rowB];trivial) ⟨rfl,_,_,_,_,_,_,_,_,_,_,_,rfl,by simp only[As,Bd,Af,B8,Cf];simp only[V.rowB];trivial⟩
 | some nt=>
  obtain⟨nm,ts⟩:=nt;obtain⟨h1,qd,h3⟩:=U5 qb (r:=[iV op,iV ln,.str [],.str [],.nils,iV 0,iV 0,.str [],.nils,.nils,.nils]) hl hp hn;simp only;rw[<-h3]
  cases hn2:C4 (A.drop (p+1)) with
  | none=>
   have k1:=U6 qb (r:=[iV op,iV ln,.str nm,.str [],.nils,iV 0,iV 0,.str [],.nils,.nils,.nils]) hl (Hf qd) hn2;have Zq:=Ew hS;obtain⟨-,-,-,-,qa,get,get0,set,set0,go,go0,so,so0,n0,n1,u0,u1⟩:=hS;simp only[go_sem,Zq,LZ];refine Ab h1 ?_;simp only[go_sem,Zq,LZ];refine Ab k1 ?_;simp only[go_sem,Zq,LZ];exact E3 rfl ⟨rfl,rfl⟩ (Hf qd) (by simp only[As,Bd,Af,B8,Cf];simp only[V.rowB];trivial) ⟨rfl,_,_,_,_,_,_,_,_,_,_,_,rfl,by simp only[As,Bd,Af,B8,Cf];simp only[V.rowB];trivial⟩
  | some nt2=>
   obtain⟨ar,qB⟩:=nt2;obtain⟨k1,qg,k3⟩:=U5 qb (r:=[iV op,iV ln,.str nm,.str [],.nils,iV 0,iV 0,.str [],.nils,.nils,.nils]) hl (Hf qd) hn2;simp only;rw[<-k3];unfold Dn;by_cases he:Ao [59] (A.drop (p+1+1))=true
   .rw[if_pos he,<-D9];have ha:=Sd qb (r:=[iV op,iV ln,.str nm,.str ar,.nils,iV 0,iV 0,.str [],.nils,.nils,.nils]) hl he;have qh:=D5 he;have Zq:=Ew hS;obtain⟨-,-,-,-,qa,get,get0,set,set0,go,go0,so,so0,n0,n1,u0,u1⟩:=hS;simp only[go_sem,Zq,LZ];refine Ab h1 ?_;simp only[go_sem,Zq,LZ];refine Ab k1 ?_;simp only[go_sem,Zq,LZ];refine Ab ha ?_;simp only[go_sem,Zq,LZ];exact E3 rfl ⟨rfl,rfl⟩ (by omega) (by simp only[As,Bd,Af,B8,Cf];simp only[V.rowB];trivial) ⟨rfl,rfl,rfl⟩
   .have he:Ao [59] (A.drop (p+1+1))=false:=by simpa using he
    rw[if_neg (by rw[he];decide)];have ha:=Se qb (r:=[iV op,iV ln,.str nm,.str ar,.nils,iV 0,iV 0,.str [],.nils,.nils,.nils]) hl (Hf qg) he;have Zq:=Ew hS;obtain⟨-,-,-,-,qa,get,get0,set,set0,go,go0,so,so0,n0,n1,u0,u1⟩:=hS;simp only[go_sem,Zq,LZ];refine Ab h1 ?_;simp only[go_sem,Zq,LZ];refine Ab k1 ?_;simp only[go_sem,Zq,LZ];refine Ab ha ?_;simp only[go_sem,Zq,LZ];exact E3 rfl ⟨rfl,rfl⟩ (Hf qg) (by simp only[As,Bd,Af,B8,Cf];simp only[V.rowB];trivial) ⟨rfl,_,_,_,_,_,_,_,_,_,_,_,rfl,by simp only[As,Bd,Af,B8,Cf];simp only[V.rowB];trivial⟩
def Av4{n:Nat}{s:St}{m o:Nat}{z:Bool}{t:Nat}{A:List Tk}{p:Nat}{op ln:Int}(hA:OkA A)(hT:Dv A)(hs:s[m]?=some (RO z t A p))(ho:s[o]?=some (.row [iV op,iV ln,.str [],.str [],.nils,iV 0,iV 0,.str [],.nils,.nils,.nils] 78 0 0))(qc:m≠o)(hp:p<=A.length)(hf:10*(A.length - p)+9<=n):
  Of 145 s m o z t A (fun v q r=>match Yx n (A.drop p) with
   | some ((nm,x),ts)=>v=.bool true/\r=[.int .i64 op,.int .i64 ln,.str nm,.str [],.nils,.int .i64 x.op,.int .i64 x.n,.str x.nm,SL x.z x.t (x.l.map Xp.row),.nils,.nils]/\A.drop q=ts
   | none=>v=.bool false/\Pa r):=by
 refine Q2 T145 hs ho qc fun S hS=>?_
 have hl:A.length<=1000000:=by have:=hA.len;omega
 have qb:=hS;have hm:=hS.low;have qo:=hS.lowo;unfold Yx
 cases hn:C4 (A.drop p) with
 | none=>
  have h1:=U6 qb (r:=[iV op,iV ln,.str [],.str [],.nils,iV 0,iV 0,.str [],.nils,.nils,.nils]) hl hp hn;have Zq:=Ew hS;obtain⟨-,-,-,-,qa,get,get0,set,set0,go,go0,so,so0,n0,n1,u0,u1⟩:=hS;simp only[go_sem,Zq,LZ];refine Ab h1 ?_;simp only[go_sem,Zq,LZ];exact E3 rfl ⟨rfl,rfl⟩ hp (by simp only[As,Bd,Af,B8,Cf];simp only[V.rowB];trivial) ⟨rfl,_,_,_,_,_,_,_,_,_,_,_,rfl,by simp only[As,Bd,Af,B8,Cf];simp only[V.rowB];trivial⟩
 | some nt=>
  obtain⟨nm,ts⟩:=nt;obtain⟨h1,qd,h3⟩:=U5 qb (r:=[iV op,iV ln,.str [],.str [],.nils,iV 0,iV 0,.str [],.nils,.nils,.nils]) hl hp hn;simp only;rw[<-h3];obtain⟨v,q,k1,k2,k3⟩:=U4 qb (p:=p+1) (r:=[iV op,iV ln,.str nm,.str [],.nils,iV 0,iV 0,.str [],.nils,.nils,.nils]) fun hs=>Rx (Wz n).1 hA hs (Hf qd) (by omega)
  unfold PR at k3
  cases hx:pe n 1 (A.drop (p+1)) with
  | none=>
   rw[hx]at k3;subst k3;have Zq:=Ew hS;obtain⟨-,-,-,-,qa,get,get0,set,set0,go,go0,so,so0,n0,n1,u0,u1⟩:=hS;simp only[go_sem,Zq,LZ];refine Ab h1 ?_;simp only[go_sem,Zq,LZ];refine Ab k1 ?_;simp only[go_sem,Zq,LZ];exact E3 rfl ⟨rfl,rfl⟩ k2 (by simp only[As,Bd,Af,B8,Cf];simp only[V.rowB];trivial) ⟨rfl,_,_,_,_,_,_,_,_,_,_,_,rfl,by simp only[As,Bd,Af,B8,Cf];simp only[V.rowB];trivial⟩
  | some xr=>
   obtain⟨x,qB⟩:=xr;rw[hx]at k3;obtain⟨rfl,k3⟩:=k3;have qm:=Dm x;have hr:=Bb x;rw[hr]at k1 qm;simp only;rw[<-k3];unfold Dn;by_cases he:Ao [59] (A.drop q)=true
   .rw[if_pos he,<-D9];have ha:=Sd qb (r:=[iV op,iV ln,.str nm,.str [],.nils,iV x.op,iV x.n,.str x.nm,SL x.z x.t (x.l.map Xp.row),.nils,.nils]) hl he;have qh:=D5 he;have Zq:=Ew hS;obtain⟨-,-,-,-,qa,get,get0,set,set0,go,go0,so,so0,n0,n1,u0,u1⟩:=hS;simp only[go_sem,Zq,LZ];refine Ab h1 ?_;simp only[go_sem,Zq,LZ];refine Ab k1 ?_;simp only[go_sem,Zq,LZ];refine Ab ha ?_;simp only[go_sem,Zq,LZ];exact E3 rfl ⟨rfl,rfl⟩ (by omega) (by simp only[As,Bd,Af,B8,Cf];simp only[V.rowB];trivial) ⟨rfl,rfl,rfl⟩
   .have he:Ao [59] (A.drop q)=false:=by simpa using he
    rw[if_neg (by rw[he];decide)];have ha:=Se qb (r:=[iV op,iV ln,.str nm,.str [],.nils,iV x.op,iV x.n,.str x.nm,SL x.z x.t (x.l.map Xp.row),.nils,.nils]) hl k2 he;have Zq:=Ew hS;obtain⟨-,-,-,-,qa,get,get0,set,set0,go,go0,so,so0,n0,n1,u0,u1⟩:=hS;simp only[go_sem,Zq,LZ];refine Ab h1 ?_;simp only[go_sem,Zq,LZ];refine Ab k1 ?_;simp only[go_sem,Zq,LZ];refine Ab ha ?_;simp only[go_sem,Zq,LZ];exact E3 rfl ⟨rfl,rfl⟩ k2 (by simp only[As,Bd,Af,B8,Cf];simp only[V.rowB];trivial) ⟨rfl,_,_,_,_,_,_,_,_,_,_,_,rfl,by simp only[As,Bd,Af,B8,Cf];simp only[V.rowB];trivial⟩
def Atl{n:Nat}{s:St}{m o:Nat}{z:Bool}{t:Nat}{A:List Tk}{p:Nat}{ln:Int}(hA:OkA A)(hT:Dv A)(hs:s[m]?=some (RO z t A p))(ho:s[o]?=some (.row [iV 1,iV ln,.str [],.str [],.nils,iV 0,iV 0,.str [],.nils,.nils,.nils] 78 0 0))(qc:m≠o)(hp:p<=A.length)(hf:10*(A.length - p)+9<=n):
  Of 110 s m o z t A (fun v q r=>match Ph n ln (A.drop p) with
   | some (x,ts)=>v=.bool true/\r=x.row/\A.drop q=ts
   | none=>v=.bool false/\Pa r):=by
 refine Q2 T110 hs ho qc fun S hS=>?_
 have hl:A.length<=1000000:=by have:=hA.len;omega
 have qb:=hS;have hm:=hS.low;have qo:=hS.lowo;unfold Ph
 cases hn:C4 (A.drop p) with
 | none=>
  have h1:=U6 qb (r:=[iV 1,iV ln,.str [],.str [],.nils,iV 0,iV 0,.str [],.nils,.nils,.nils]) hl hp hn;have Zq:=Ew hS;obtain⟨-,-,-,-,qa,get,get0,set,set0,go,go0,so,so0,n0,n1,u0,u1⟩:=hS;simp only[go_sem,Zq,LZ];refine Ab h1 ?_;simp only[go_sem,Zq,LZ];exact E3 rfl ⟨rfl,rfl⟩ hp (by simp only[As,Bd,Af,B8,Cf];simp only[V.rowB];trivial) ⟨rfl,_,_,_,_,_,_,_,_,_,_,_,rfl,by simp only[As,Bd,Af,B8,Cf];simp only[V.rowB];trivial⟩
 | some nt=>
  obtain⟨nm,ts⟩:=nt;obtain⟨h1,qd,h3⟩:=U5 qb (r:=[iV 1,iV ln,.str [],.str [],.nils,iV 0,iV 0,.str [],.nils,.nils,.nils]) hl hp hn;simp only;rw[<-h3];unfold Yv Dn;by_cases qj:Ao [91] (A.drop (p+1))=true
  .rw[if_pos qj,<-D9];have hb:=Sd qb (r:=[iV 1,iV ln,.str nm,.str [],.nils,iV 0,iV 0,.str [],.nils,.nils,.nils]) hl qj;have qg:=D5 qj;obtain⟨v0,q0,j1,j2,j3⟩:=U4 qb (p:=p+1+1) (r:=[iV 1,iV ln,.str nm,.str [],.nils,iV 0,iV 0,.str [],.nils,.nils,.nils]) fun hs=>Rx (Wz n).1 hA hs (by omega) (by omega)
   unfold PR at j3;have ql:=fun x ts (h:pe n 1 (A.drop (p+1+1))=some (x,ts))=>(Vm n).1 _ _ _ _ h
   rw[Dx]at ql
   cases hy:pe n 1 (A.drop (p+1+1)) with
   | none=>
    rw[hy]at j3;subst j3;simp only;have Zq:=Ew hS;obtain⟨-,-,-,-,qa,get,get0,set,set0,go,go0,so,so0,n0,n1,u0,u1⟩:=hS;simp only[go_sem,Zq,LZ];refine Ab h1 ?_;simp only[go_sem,Zq,LZ];refine Ab hb ?_;simp only[go_sem,Zq,LZ];refine Ab j1 ?_;simp only[go_sem,Zq,LZ];exact U3 rfl ⟨rfl,rfl⟩ j2 (by simp only[As,Bd,Af,B8,Cf];simp only[V.rowB];trivial) ⟨rfl,_,_,_,_,_,_,_,_,_,_,_,rfl,by simp only[As,Bd,Af,B8,Cf];simp only[V.rowB];trivial⟩
   | some yr=>
    obtain⟨y,qv⟩:=yr;rw[hy]at j3;obtain⟨rfl,j3⟩:=j3;have qA:=Dm y;have qu:=Bb y;rw[qu]at j1 qA;have ql:=ql y qv hy;have qD:qv.length=A.length - q0:=by rw[<-j3,Dx]
    simp only;rw[<-j3];by_cases qk:Ao [93] (A.drop q0)=true
    .rw[if_pos qk];simp only[Fr];rw[<-D9];have qn:=Ahy qb (r:=[iV 1,iV ln,.str nm,.str [],.nils,iV 0,iV 0,.str [],.nils,.nils,.nils]) [.row [iV y.op,iV y.n,.str y.nm,SL y.z y.t (y.l.map Xp.row)] 76 0 0] hl qk;have qq:=D5 qk;by_cases qe:Ao [61] (A.drop (q0+1))=true
     .rw[if_pos qe];simp only;rw[<-D9];have ha:=Ahy qb (r:=[iV 1,iV ln,.str nm,.str [],.lst 1 [[iV y.op,iV y.n,.str y.nm,SL y.z y.t (y.l.map Xp.row)]],iV 0,iV 0,.str [],.nils,.nils,.nils]) [.row [iV y.op,iV y.n,.str y.nm,SL y.z y.t (y.l.map Xp.row)] 76 0 0] hl qe;have qf:=D5 qe;obtain⟨v,q,k1,k2,k3⟩:=Bau qb (p:=(q0+1)+1) (r:=[iV 1,iV ln,.str nm,.str [],.lst 1 [[iV y.op,iV y.n,.str y.nm,SL y.z y.t (y.l.map Xp.row)]],iV 0,iV 0,.str [],.nils,.nils,.nils]) (l:=[.row [iV y.op,iV y.n,.str y.nm,SL y.z y.t (y.l.map Xp.row)] 76 0 0]) fun hs=>Rx (Wz n).1 hA hs (Hf qf) (by omega)
      unfold PR at k3
      cases hx:pe n 1 (A.drop ((q0+1)+1)) with
      | none=>
       rw[hx]at k3;subst k3;simp only;have Zq:=Ew hS;obtain⟨-,-,-,-,qa,get,get0,set,set0,go,go0,so,so0,n0,n1,u0,u1⟩:=hS;simp only[go_sem,Zq,LZ];refine Ab h1 ?_;simp only[go_sem,Zq,LZ];refine Ab hb ?_;simp only[go_sem,Zq,LZ];refine Ab j1 ?_;simp only[go_sem,Zq,LZ];refine Ab qn ?_;simp only[go_sem,Zq,LZ];refine Ab ha ?_;simp only[go_sem,Zq,LZ];refine Ab k1 ?_;simp only[go_sem,Zq,LZ];exact U3 rfl ⟨rfl,rfl⟩ k2 (by simp only[As,Bd,Af,B8,Cf];simp only[V.rowB];trivial) ⟨rfl,_,_,_,_,_,_,_,_,_,_,_,rfl,by simp only[As,Bd,Af,B8,Cf];simp only[V.rowB];trivial⟩
      | some xr=>
       obtain⟨x,qC⟩:=xr;rw[hx]at k3;obtain⟨rfl,k3⟩:=k3;have qm:=Dm x;have hr:=Bb x;rw[hr]at k1 qm;simp only;rw[<-k3];by_cases he:Ao [59] (A.drop q)=true
       .rw[if_pos he,<-D9];have hc:=Ahy qb (r:=[iV 1,iV ln,.str nm,.str [],.lst 1 [[iV y.op,iV y.n,.str y.nm,SL y.z y.t (y.l.map Xp.row)]],iV x.op,iV x.n,.str x.nm,SL x.z x.t (x.l.map Xp.row),.nils,.nils]) [.row [iV y.op,iV y.n,.str y.nm,SL y.z y.t (y.l.map Xp.row)] 76 0 0] hl he;have qh:=D5 he;have Zq:=Ew hS;obtain⟨-,-,-,-,qa,get,get0,set,set0,go,go0,so,so0,n0,n1,u0,u1⟩:=hS;simp only[go_sem,Zq,LZ];refine Ab h1 ?_;simp only[go_sem,Zq,LZ];refine Ab hb ?_;simp only[go_sem,Zq,LZ];refine Ab j1 ?_;simp only[go_sem,Zq,LZ];refine Ab qn ?_;simp only[go_sem,Zq,LZ];refine Ab ha ?_;simp only[go_sem,Zq,LZ];refine Ab k1 ?_;simp only[go_sem,Zq,LZ];refine Ab hc ?_;simp only[go_sem,Zq,LZ];exact U3 rfl ⟨rfl,rfl⟩ (by omega) (by simp only[As,Bd,Af,B8,Cf];simp only[V.rowB];trivial) ⟨rfl,by rw[E4];simp only[Aw,B6,qu];rfl,rfl⟩
       .have he:Ao [59] (A.drop q)=false:=by simpa using he
        rw[if_neg (by rw[he];decide)];have hc:=Ahz qb (r:=[iV 1,iV ln,.str nm,.str [],.lst 1 [[iV y.op,iV y.n,.str y.nm,SL y.z y.t (y.l.map Xp.row)]],iV x.op,iV x.n,.str x.nm,SL x.z x.t (x.l.map Xp.row),.nils,.nils]) [.row [iV y.op,iV y.n,.str y.nm,SL y.z y.t (y.l.map Xp.row)] 76 0 0] hl k2 he;have Zq:=Ew hS;obtain⟨-,-,-,-,qa,get,get0,set,set0,go,go0,so,so0,n0,n1,u0,u1⟩:=hS;simp only[go_sem,Zq,LZ];refine Ab h1 ?_;simp only[go_sem,Zq,LZ];refine Ab hb ?_;simp only[go_sem,Zq,LZ];refine Ab j1 ?_;simp only[go_sem,Zq,LZ];refine Ab qn ?_;simp only[go_sem,Zq,LZ];refine Ab ha ?_;simp only[go_sem,Zq,LZ];refine Ab k1 ?_;simp only[go_sem,Zq,LZ];refine Ab hc ?_;simp only[go_sem,Zq,LZ];exact U3 rfl ⟨rfl,rfl⟩ k2 (by simp only[As,Bd,Af,B8,Cf];simp only[V.rowB];trivial) ⟨rfl,_,_,_,_,_,_,_,_,_,_,_,rfl,by simp only[As,Bd,Af,B8,Cf];simp only[V.rowB];trivial⟩
     .have qe:Ao [61] (A.drop (q0+1))=false:=by simpa using qe
      rw[if_neg (by rw[qe];decide)];simp only;have ha:=Ahz qb (r:=[iV 1,iV ln,.str nm,.str [],.lst 1 [[iV y.op,iV y.n,.str y.nm,SL y.z y.t (y.l.map Xp.row)]],iV 0,iV 0,.str [],.nils,.nils,.nils]) [.row [iV y.op,iV y.n,.str y.nm,SL y.z y.t (y.l.map Xp.row)] 76 0 0] hl (Hf qq) qe;have Zq:=Ew hS;obtain⟨-,-,-,-,qa,get,get0,set,set0,go,go0,so,so0,n0,n1,u0,u1⟩:=hS;simp only[go_sem,Zq,LZ];refine Ab h1 ?_;simp only[go_sem,Zq,LZ];refine Ab hb ?_;simp only[go_sem,Zq,LZ];refine Ab j1 ?_;simp only[go_sem,Zq,LZ];refine Ab qn ?_;simp only[go_sem,Zq,LZ];refine Ab ha ?_;simp only[go_sem,Zq,LZ];exact U3 rfl ⟨rfl,rfl⟩ (Hf qq) (by simp only[As,Bd,Af,B8,Cf];simp only[V.rowB];trivial) ⟨rfl,_,_,_,_,_,_,_,_,_,_,_,rfl,by simp only[As,Bd,Af,B8,Cf];simp only[V.rowB];trivial⟩
    .have qk:Ao [93] (A.drop q0)=false:=by simpa using qk
     rw[if_neg (by rw[qk];decide)];simp only[Option.map_none];have qn:=Ahz qb (r:=[iV 1,iV ln,.str nm,.str [],.nils,iV 0,iV 0,.str [],.nils,.nils,.nils]) [.row [iV y.op,iV y.n,.str y.nm,SL y.z y.t (y.l.map Xp.row)] 76 0 0] hl j2 qk;have Zq:=Ew hS;obtain⟨-,-,-,-,qa,get,get0,set,set0,go,go0,so,so0,n0,n1,u0,u1⟩:=hS;simp only[go_sem,Zq,LZ];refine Ab h1 ?_;simp only[go_sem,Zq,LZ];refine Ab hb ?_;simp only[go_sem,Zq,LZ];refine Ab j1 ?_;simp only[go_sem,Zq,LZ];refine Ab qn ?_;simp only[go_sem,Zq,LZ];exact U3 rfl ⟨rfl,rfl⟩ j2 (by simp only[As,Bd,Af,B8,Cf];simp only[V.rowB];trivial) ⟨rfl,_,_,_,_,_,_,_,_,_,_,_,rfl,by simp only[As,Bd,Af,B8,Cf];simp only[V.rowB];trivial⟩
  .have qj:Ao [91] (A.drop (p+1))=false:=by simpa using qj
   rw[if_neg (by rw[qj];decide)];simp only;have hb:=Se qb (r:=[iV 1,iV ln,.str nm,.str [],.nils,iV 0,iV 0,.str [],.nils,.nils,.nils]) hl (Hf qd) qj;by_cases qe:Ao [61] (A.drop (p+1))=true
   .rw[if_pos qe];simp only;rw[<-D9];have ha:=Sd qb (r:=[iV 1,iV ln,.str nm,.str [],.nils,iV 0,iV 0,.str [],.nils,.nils,.nils]) hl qe;have qf:=D5 qe;obtain⟨v,q,k1,k2,k3⟩:=U4 qb (p:=(p+1)+1) (r:=[iV 1,iV ln,.str nm,.str [],.nils,iV 0,iV 0,.str [],.nils,.nils,.nils]) fun hs=>Rx (Wz n).1 hA hs (Hf qf) (by omega)
    unfold PR at k3
    cases hx:pe n 1 (A.drop ((p+1)+1)) with
    | none=>
     rw[hx]at k3;subst k3;simp only;have Zq:=Ew hS;obtain⟨-,-,-,-,qa,get,get0,set,set0,go,go0,so,so0,n0,n1,u0,u1⟩:=hS;simp only[go_sem,Zq,LZ];refine Ab h1 ?_;simp only[go_sem,Zq,LZ];refine Ab hb ?_;simp only[go_sem,Zq,LZ];refine Ab ha ?_;simp only[go_sem,Zq,LZ];refine Ab k1 ?_;simp only[go_sem,Zq,LZ];exact E3 rfl ⟨rfl,rfl⟩ k2 (by simp only[As,Bd,Af,B8,Cf];simp only[V.rowB];trivial) ⟨rfl,_,_,_,_,_,_,_,_,_,_,_,rfl,by simp only[As,Bd,Af,B8,Cf];simp only[V.rowB];trivial⟩
    | some xr=>
     obtain⟨x,qC⟩:=xr;rw[hx]at k3;obtain⟨rfl,k3⟩:=k3;have qm:=Dm x;have hr:=Bb x;rw[hr]at k1 qm;simp only;rw[<-k3];by_cases he:Ao [59] (A.drop q)=true
     .rw[if_pos he,<-D9];have hc:=Sd qb (r:=[iV 1,iV ln,.str nm,.str [],.nils,iV x.op,iV x.n,.str x.nm,SL x.z x.t (x.l.map Xp.row),.nils,.nils]) hl he;have qh:=D5 he;have Zq:=Ew hS;obtain⟨-,-,-,-,qa,get,get0,set,set0,go,go0,so,so0,n0,n1,u0,u1⟩:=hS;simp only[go_sem,Zq,LZ];refine Ab h1 ?_;simp only[go_sem,Zq,LZ];refine Ab hb ?_;simp only[go_sem,Zq,LZ];refine Ab ha ?_;simp only[go_sem,Zq,LZ];refine Ab k1 ?_;simp only[go_sem,Zq,LZ];refine Ab hc ?_;simp only[go_sem,Zq,LZ];exact E3 rfl ⟨rfl,rfl⟩ (by omega) (by simp only[As,Bd,Af,B8,Cf];simp only[V.rowB];trivial) ⟨rfl,by rw[E4];rfl,rfl⟩
     .have he:Ao [59] (A.drop q)=false:=by simpa using he
      rw[if_neg (by rw[he];decide)];have hc:=Se qb (r:=[iV 1,iV ln,.str nm,.str [],.nils,iV x.op,iV x.n,.str x.nm,SL x.z x.t (x.l.map Xp.row),.nils,.nils]) hl k2 he;have Zq:=Ew hS;obtain⟨-,-,-,-,qa,get,get0,set,set0,go,go0,so,so0,n0,n1,u0,u1⟩:=hS;simp only[go_sem,Zq,LZ];refine Ab h1 ?_;simp only[go_sem,Zq,LZ];refine Ab hb ?_;simp only[go_sem,Zq,LZ];refine Ab ha ?_;simp only[go_sem,Zq,LZ];refine Ab k1 ?_;simp only[go_sem,Zq,LZ];refine Ab hc ?_;simp only[go_sem,Zq,LZ];exact E3 rfl ⟨rfl,rfl⟩ k2 (by simp only[As,Bd,Af,B8,Cf];simp only[V.rowB];trivial) ⟨rfl,_,_,_,_,_,_,_,_,_,_,_,rfl,by simp only[As,Bd,Af,B8,Cf];simp only[V.rowB];trivial⟩
   .have qe:Ao [61] (A.drop (p+1))=false:=by simpa using qe
    rw[if_neg (by rw[qe];decide)];simp only;have ha:=Se qb (r:=[iV 1,iV ln,.str nm,.str [],.nils,iV 0,iV 0,.str [],.nils,.nils,.nils]) hl (Hf qd) qe;have Zq:=Ew hS;obtain⟨-,-,-,-,qa,get,get0,set,set0,go,go0,so,so0,n0,n1,u0,u1⟩:=hS;simp only[go_sem,Zq,LZ];refine Ab h1 ?_;simp only[go_sem,Zq,LZ];refine Ab hb ?_;simp only[go_sem,Zq,LZ];refine Ab ha ?_;simp only[go_sem,Zq,LZ];exact E3 rfl ⟨rfl,rfl⟩ (Hf qd) (by simp only[As,Bd,Af,B8,Cf];simp only[V.rowB];trivial) ⟨rfl,_,_,_,_,_,_,_,_,_,_,_,rfl,by simp only[As,Bd,Af,B8,Cf];simp only[V.rowB];trivial⟩
