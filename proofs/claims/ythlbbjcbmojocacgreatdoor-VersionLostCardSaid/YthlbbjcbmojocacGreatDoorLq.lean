/- Walks: the parser's statements. -/
import Derived.Test.YthlbbjcbmojocacGreatDoorLl
set_option linter.all false
namespace Go.Proofs.YthlbbjcbmojocacGreatDoor.KM
open Go
structure RdT (s:St) (m o:Nat) (z:Bool) (t:Nat) (A:List Tk) (S:Nat->List V->St):Prop where
 low:m<s.length
 lowo:o<s.length
 ne:m≠o
 eq:∀ p r,S p r=(s.set m (RO z t A p)).set o (.row r 104 0 0)
 len:∀ p r,(S p r).length=s.length
 get:∀ (p:Nat) (r:List V) (l:St),(S p r++l)[m]?=some (.row [SL z t (A.map Tk.row),iV (p:Int)] 80 0 0)
 get0:∀ (p:Nat) (r:List V),(S p r)[m]?=some (.row [SL z t (A.map Tk.row),iV (p:Int)] 80 0 0)
 set:∀ (p q:Nat) (r:List V) (l:St),(S p r++l).set m (.row [SL z t (A.map Tk.row),iV (q:Int)] 80 0 0)=S q r++l
 set0:∀ (p q:Nat) (r:List V),(S p r).set m (.row [SL z t (A.map Tk.row),iV (q:Int)] 80 0 0)=S q r
 go:∀ (p:Nat) (r:List V) (l:St),(S p r++l)[o]?=some (.row r 104 0 0)
 go0:∀ (p:Nat) (r:List V),(S p r)[o]?=some (.row r 104 0 0)
 so:∀ (p:Nat) (r r':List V) (l:St),(S p r++l).set o (.row r' 104 0 0)=S p r'++l
 so0:∀ (p:Nat) (r r':List V),(S p r).set o (.row r' 104 0 0)=S p r'
 n0:∀ (p:Nat) (r:List V) (a:Ob) (l:St),(S p r++a::l)[s.length]?=some a
 n1:∀ (p:Nat) (r:List V) (a b:Ob) (l:St),(S p r++a::b::l)[s.length+1]?=some b
 u0:∀ (p:Nat) (r:List V) (a x:Ob) (l:St),(S p r++a::l).set s.length x=S p r++x::l
 u1:∀ (p:Nat) (r:List V) (a b x:Ob) (l:St),(S p r++a::b::l).set (s.length+1) x=S p r++a::x::l
def E9{s:St}{m o:Nat}{z:Bool}{t:Nat}{A:List Tk}{S:Nat->List V->St}(h:RdT s m o z t A S):=And.intro h.len (And.intro h.get (And.intro h.get0 (And.intro h.set (And.intro h.set0 (And.intro h.go (And.intro h.go0 (And.intro h.so (And.intro h.so0 (And.intro h.n0 (And.intro h.n1 (And.intro h.u0 (h.u1))))))))))))
def A8e{s:St}{m o:Nat}(z:Bool)(t:Nat)(A:List Tk)(hm:m<s.length)(ho:o<s.length)(qc:m≠o):RdT s m o z t A (fun p r=>(s.set m (RO z t A p)).set o (.row r 104 0 0)):=by
 have hl:∀ p r,((s.set m (RO z t A p)).set o (.row r 104 0 0)).length=s.length:=fun p r=>by simp
 have hg:∀ (p:Nat) (r:List V),((s.set m (RO z t A p)).set o (.row r 104 0 0))[m]?=some (RO z t A p):=fun p r=>by
  rw[Bh (Ne.symm qc),B5 hm]
 have qr:∀ (p:Nat) (r:List V),((s.set m (RO z t A p)).set o (.row r 104 0 0))[o]?=some (.row r 104 0 0):=fun p r=>B5 (by simpa using ho)
 have hs:∀ p q r,((s.set m (RO z t A p)).set o (.row r 104 0 0)).set m (RO z t A q)=(s.set m (RO z t A q)).set o (.row r 104 0 0):=fun p q r=>by
  rw[List.set_comm _ _ (Ne.symm qc),Qv]
 have qt:∀ p r r',((s.set m (RO z t A p)).set o (.row r 104 0 0)).set o (.row r' 104 0 0)=(s.set m (RO z t A p)).set o (.row r' 104 0 0):=fun p r r'=>by rw[Qv]
 refine⟨hm,ho,qc,fun _ _=>rfl,hl,fun p r l=>Bx (hg p r),fun p r=>hg p r,fun p q r l=>?_,fun p q r=>hs p q r,fun p r l=>Bx (qr p r),fun p r=>qr p r,fun p r r' l=>?_,fun p r r'=>qt p r r',fun p r a l=>?_,fun p r a b l=>?_,fun p r a x l=>?_,fun p r a b x l=>?_⟩
 .rw[Xi _ _ (by simpa using hm)];exact congrArg (·++l) (hs p q r)
 .rw[Xi _ _ (by simpa using ho)];exact congrArg (·++l) (qt p r r')
 .rw[Co (by simp)];simp
 .rw[Co (by simp)];simp
 .rw[I3 _ _ (by simp)];simp
 .rw[I3 _ _ (by simp)];simp
def O6(f:Nat)(s:St)(m o:Nat)(z:Bool)(t:Nat)(A:List Tk)(R:V->Nat->List V->Prop):Prop:=∃ v p' r',Bv TT PT f [.ptr m 0 0,.ptr o 0 0] s v ((s.set m (RO z t A p')).set o (.row r' 104 0 0))/\p'<=A.length/\R v p' r'
def Aqd{s:St}{m o:Nat}{x y:Ob}(h:s[m]?=some x)(h':s[o]?=some y):(s.set m x).set o y=s:=by rw[Mk h,Mk h']
def Ru{z:Bool}{t:Nat}{A:List Tk}{f m o q:Nat}{res:List AR}{thr:Bool}{body:AC}{s:St}{r0:List V}{R:V->Nat->List V->Prop}(hT:TT f=some ⟨2,res,thr,body,none⟩)(hs:s[m]?=some (RO z t A q))(ho:s[o]?=some (.row r0 104 0 0))(qc:m≠o)
  (h:∀ S,RdT s m o z t A S->W TT PT [.c body] (Dd 0 [.ptr m 0 0,.ptr o 0 0]) (S q r0) (Hd fun e' σ1=>∃ v p' r' l,Cd e' σ1 res=some v/\(Cm v=true/\v.refs=[])/\σ1=S p' r'++l/\p'<=A.length/\r'.all V.rowB=true/\R v p' r')):O6 f s m o z t A R:=by
 have hm:=(Ak.1 hs).1;have qs:=(Ak.1 ho).1;have h:=h _ (A8e z t A hm qs qc);rw[Aqd hs ho]at h;obtain⟨e',σ1,hE,v,p',r',l,hr,⟨h1,h2⟩,rfl,h3,h5,h4⟩:=h;have qz:((s.set m (RO z t A p')).set o (.row r' 104 0 0)++l).take s.length=(s.set m (RO z t A p')).set o (.row r' 104 0 0):=by rw[List.take_append_of_le_length (by simp),Kz (by simp)]
 refine⟨v,p',r',?_,h3,h4⟩
 have:=Ev.fn hT rfl rfl hE hr h1 (by rw[h2];rfl) (fun i ob hi qi=>by
  rw[B6 (by simpa using hi)]at qi;by_cases hb:o=i
  .subst hb;rw[B5 (by simpa using qs)]at qi;cases qi;exact .inr (by simp only[Ob.refs];rw[G8 h5];rfl)
  .rw[Bh hb]at qi;by_cases hb:m=i
   .subst hb;rw[B5 hm]at qi;cases qi;exact .inr (by rw[Acy];rfl)
   .rw[Bh hb]at qi
    exact .inl qi)
 rw[qz]at this;exact⟨_,hT,rfl,this⟩
def Wg{S:Nat->List V->St}{A:List Tk}{R:V->Nat->List V->Prop}{e:Env}{res:List AR}{v:V}{p:Nat}{r:List V}{l:St}(hr:Cd e (S p r++l) res=some v)(hv:Cm v=true/\v.refs=[])(hp:p<=A.length)(hb:r.all V.rowB=true)(hR:R v p r):
  ∃ v p' r' l',Cd e (S p r++l) res=some v/\(Cm v=true/\v.refs=[])/\S p r++l=S p' r'++l'/\p'<=A.length/\r'.all V.rowB=true/\R v p' r':=⟨v,p,r,l,hr,hv,rfl,hp,hb,hR⟩
def Fe{S:Nat->List V->St}{A:List Tk}{R:V->Nat->List V->Prop}{e:Env}{res:List AR}{v:V}{p:Nat}{r:List V}(hr:Cd e (S p r) res=some v)(hv:Cm v=true/\v.refs=[])(hp:p<=A.length)(hb:r.all V.rowB=true)(hR:R v p r):
  ∃ v p' r' l',Cd e (S p r) res=some v/\(Cm v=true/\v.refs=[])/\S p r=S p' r'++l'/\p'<=A.length/\r'.all V.rowB=true/\R v p' r':=⟨v,p,r,[],hr,hv,(B3 _).symm,hp,hb,hR⟩
def Bih{s:St}{m o:Nat}{z:Bool}{t:Nat}{A:List Tk}{S:Nat->List V->St}(hS:RdT s m o z t A S){f p:Nat}{r:List V}{av:List V}{l:St}{R:V->Nat->Prop}(h:(S p r++l)[m]?=some (RO z t A p)->RT f av (S p r++l) m z t A R):∃ v q,Bv TT PT f (.ptr m 0 0::av) (S p r++l) v (S q r++l)/\q<=A.length/\R v q:=by
 obtain⟨v,q,h1,h2,h3⟩:=h (hS.get p r l);rw[show(S p r++l).set m (RO z t A q)=S q r++l from hS.set p q r l]at h1;exact⟨v,q,h1,h2,h3⟩
def Wh{s:St}{m o:Nat}{z:Bool}{t:Nat}{A:List Tk}{S:Nat->List V->St}(hS:RdT s m o z t A S){f p:Nat}{r:List V}{av:List V}{R:V->Nat->Prop}(h:(S p r)[m]?=some (RO z t A p)->RT f av (S p r) m z t A R):∃ v q,Bv TT PT f (.ptr m 0 0::av) (S p r) v (S q r)/\q<=A.length/\R v q:=by
 obtain⟨v,q,h1,h2,h3⟩:=h (hS.get0 p r);rw[show(S p r).set m (RO z t A q)=S q r from hS.set0 p q r]at h1;exact⟨v,q,h1,h2,h3⟩
def Ty{s:St}{m o:Nat}{z:Bool}{t:Nat}{A:List Tk}{S:Nat->List V->St}(hS:RdT s m o z t A S){p:Nat}{r:List V}(hA:A.length<=1000000){w:List UInt8}(h:Ax w (A.drop p)=true):Bv TT PT 118 [.ptr m 0 0,.str w] (S p r) (.bool true) (S (p+1) r):=by
 have:=Rr (hS.get0 p r) hA h;rw[show(S p r).set m (RO z t A (p+1))=S (p+1) r from hS.set0 p (p+1) r]at this;exact this
def Tz{s:St}{m o:Nat}{z:Bool}{t:Nat}{A:List Tk}{S:Nat->List V->St}(hS:RdT s m o z t A S){p:Nat}{r:List V}(hA:A.length<=1000000)(hp:p<=A.length){w:List UInt8}(h:Ax w (A.drop p)=false):Bv TT PT 118 [.ptr m 0 0,.str w] (S p r) (.bool false) (S p r):=Rt (hS.get0 p r) hA hp h
def Akg{s:St}{m o:Nat}{z:Bool}{t:Nat}{A:List Tk}{S:Nat->List V->St}(hS:RdT s m o z t A S){p:Nat}{r:List V}(l:St)(hA:A.length<=1000000){w:List UInt8}(h:Ax w (A.drop p)=true):Bv TT PT 118 [.ptr m 0 0,.str w] (S p r++l) (.bool true) (S (p+1) r++l):=by
 have:=Rr (hS.get p r l) hA h;rw[show(S p r++l).set m (RO z t A (p+1))=S (p+1) r++l from hS.set p (p+1) r l]at this;exact this
def Akh{s:St}{m o:Nat}{z:Bool}{t:Nat}{A:List Tk}{S:Nat->List V->St}(hS:RdT s m o z t A S){p:Nat}{r:List V}(l:St)(hA:A.length<=1000000)(hp:p<=A.length){w:List UInt8}(h:Ax w (A.drop p)=false):Bv TT PT 118 [.ptr m 0 0,.str w] (S p r++l) (.bool false) (S p r++l):=Rt (hS.get p r l) hA hp h
def Wi{s:St}{m o:Nat}{z:Bool}{t:Nat}{A:List Tk}{S:Nat->List V->St}(hS:RdT s m o z t A S){p:Nat}{r:List V}(hA:A.length<=1000000)(hp:p<=A.length){w:List UInt8}{q:List Tk}(h:Df (A.drop p)=some (w,q)):Bv TT PT 115 [.ptr m 0 0] (S p r) (.tup [.str w,.bool true]) (S (p+1) r)/\p<A.length/\A.drop (p+1)=q:=by
 obtain⟨h1,h2⟩:=(Ww (hS.get0 p r) hA hp).1 w q h;rw[show(S p r).set m (RO z t A (p+1))=S (p+1) r from hS.set0 p (p+1) r]at h1;exact⟨h1,h2⟩
def Wj{s:St}{m o:Nat}{z:Bool}{t:Nat}{A:List Tk}{S:Nat->List V->St}(hS:RdT s m o z t A S){p:Nat}{r:List V}(hA:A.length<=1000000)(hp:p<=A.length)(h:Df (A.drop p)=none):Bv TT PT 115 [.ptr m 0 0] (S p r) (.tup [.str [],.bool false]) (S p r):=(Ww (hS.get0 p r) hA hp).2 h
/-! what is given back -/
def PRb(A:List Tk)(o:Option (List Sp × List Tk))(v:V)(p':Nat):Prop:=match o with
 | some (l,r)=>v=.tup [SL true 0 (l.map Sp.row),.bool true]/\A.drop p'=r
 | none=>v=.tup [.nils,.bool false]
def Ux(n:Nat):Prop:=∀ (s:St) (m:Nat) (z:Bool) (t:Nat) (A:List Tk) (p:Nat),OkA A->D2 A->s[m]?=some (RO z t A p)->p<=A.length->10*(A.length - p)+2<=n->RT 119 [] s m z t A (PRb A (Fm n (A.drop p)))
def Cb(l:List Sp):(SL true 0 (l.map Sp.row)).rowB=true:=by
 unfold SL
 split
 .rfl
 .rfl
def Ag8{n:Nat}(hB:Ux n){s:St}{m o:Nat}{z:Bool}{t:Nat}{A:List Tk}{p:Nat}{c0 c1 c2 c3 c4 c5 c6 c7 c8 c9 c10:V}(hA:OkA A)(hT:D2 A)(hs:s[m]?=some (RO z t A p))(ho:s[o]?=some (.row [c0,c1,c2,c3,c4,c5,c6,c7,c8,c9,c10] 104 0 0))(qc:m≠o)(hp:p<=A.length)(hb:[c0,c1,c2,c3,c4,c5,c6,c7,c8,c9,c10].all V.rowB=true)(hf:10*(A.length - p)+2<=n):
  O6 206 s m o z t A (fun v q r=>match Fm n (A.drop p) with
   | some (l,ts)=>v=.bool true/\r=[c0,c1,c2,c3,c4,c5,c6,c7,c8,SL true 0 (l.map Sp.row),c10]/\A.drop q=ts
   | none=>v=.bool false/\r=[c0,c1,c2,c3,c4,c5,c6,c7,c8,.nils,c10]):=by
 refine Ru T206 hs ho qc fun S hS=>?_
 obtain⟨v,q,h1,h2,h3⟩:=Wh hS (r:=[c0,c1,c2,c3,c4,c5,c6,c7,c8,c9,c10]) fun hs=>hB _ m z t A p hA hT hs hp hf
 have Zq:=E9 hS;obtain⟨-,-,-,-,qa,get,get0,set,set0,go,go0,so,so0,n0,n1,u0,u1⟩:=hS;simp only[Aw,Bi,Af]at hb;unfold PRb at h3;simp only[go_sem,Zq,LZ]
 split at h3
 .rename_i l ts hl;obtain⟨rfl,h3⟩:=h3;refine Ac h1 ?_;simp only[go_sem,Zq,LZ];exact Fe rfl ⟨rfl,rfl⟩ h2 (by simp only[Aw,Bi,Af,Cb];simp only[hb];trivial) ⟨rfl,rfl,h3⟩
 .rename_i hl;subst h3;refine Ac h1 ?_;simp only[go_sem,Zq,LZ];exact Fe rfl ⟨rfl,rfl⟩ h2 (by simp only[Aw,Bi,Af,(show V.rowB V.nils=true from rfl)];simp only[hb];trivial) ⟨rfl,rfl⟩
def Cj(x:Xp):(SL x.z x.t (x.l.map Xp.row)).rowB=true:=by
 unfold SL
 split
 .rfl
 .rfl
def P3(r:List V):Prop:=∃ c0 c1 c2 c3 c4 c5 c6 c7 c8 c9 c10:V,r=[c0,c1,c2,c3,c4,c5,c6,c7,c8,c9,c10]/\r.all V.rowB=true
/-! the statements' own parts -/
def Mt(n:Nat)(ts:List Tk):Option ((Xp × List Sp) × List Tk):=match pe n 1 ts with
 | none=>none
 | some (x,ts)=>match Fm n ts with
  | none=>none
  | some (b,ts)=>some ((x,b),ts)
def Z3(n:Nat)(ts:List Tk):Option ((Xp × List Sp × List Sp) × List Tk):=match Mt n ts with
 | none=>none
 | some ((x,b),ts)=>if Ax [101,108,115,101] ts=true then(match Fm n ts.tail with
   | none=>none
   | some (e,ts)=>some ((x,b,e),ts))
  else some ((x,b,[]),ts)
def qNB(n:Nat)(ts:List Tk):Option ((List UInt8 × List Sp) × List Tk):=match Df ts with
 | none=>none
 | some (nm,ts)=>match Fm n ts with
  | none=>none
  | some (b,ts)=>some ((nm,b),ts)
def qNm(ts:List Tk):Option (List UInt8 × List Tk):=match Df ts with
 | none=>none
 | some (nm,ts)=>(D4 [59] ts).map fun ts=>(nm,ts)
def Aah(n:Nat)(ts:List Tk):Option ((List UInt8 × Xp) × List Tk):=match Df ts with
 | none=>none
 | some (nm,ts)=>match pe n 1 ts with
  | none=>none
  | some (x,ts)=>(D4 [59] ts).map fun ts=>((nm,x),ts)
def Aai(ts:List Tk):Option ((List UInt8 × List UInt8) × List Tk):=match Df ts with
 | none=>none
 | some (nm,ts)=>match Df ts with
  | none=>none
  | some (ar,ts)=>(D4 [59] ts).map fun ts=>((nm,ar),ts)
def Am2{n:Nat}(hB:Ux n){s:St}{m o:Nat}{z:Bool}{t:Nat}{A:List Tk}{p:Nat}{op ln:Int}(hA:OkA A)(hT:D2 A)(hs:s[m]?=some (RO z t A p))(ho:s[o]?=some (.row [iV op,iV ln,.str [],.str [],.nils,iV 0,iV 0,.str [],.nils,.nils,.nils] 104 0 0))(qc:m≠o)(hp:p<=A.length)(hf:10*(A.length - p)+9<=n):
  O6 204 s m o z t A (fun v q r=>match Mt n (A.drop p) with
   | some ((x,b),ts)=>v=.bool true/\r=[.int .i64 op,.int .i64 ln,.str [],.str [],.nils,.int .i64 x.op,.int .i64 x.n,.str x.nm,SL x.z x.t (x.l.map Xp.row),SL true 0 (b.map Sp.row),.nils]/\A.drop q=ts
   | none=>v=.bool false/\P3 r):=by
 refine Ru T204 hs ho qc fun S hS=>?_
 have hl:A.length<=1000000:=by have:=hA.len;omega
 have qb:=hS;have hm:=hS.low;have qo:=hS.lowo;obtain⟨v,q,h1,h2,h3⟩:=Wh hS (r:=[iV op,iV ln,.str [],.str [],.nils,iV 0,iV 0,.str [],.nils,.nils,.nils]) fun hs=>Td (X8 n).1 hA hs hp (by omega)
 unfold PR at h3
 have qy:∀ x ts,pe n 1 (A.drop p)=some (x,ts)->Mt n (A.drop p)=match Fm n ts with
   | none=>none
   | some (b,ts)=>some ((x,b),ts):=fun x ts h=>by unfold Mt;rw[h]
 have qx:pe n 1 (A.drop p)=none->Mt n (A.drop p)=none:=fun h=>by unfold Mt;rw[h]
 have qd:=fun x ts (h:pe n 1 (A.drop p)=some (x,ts))=>(Wx n).1 _ _ _ _ h
 rw[D1]at qd
 cases hx:pe n 1 (A.drop p) with
 | none=>
  rw[hx]at h3;subst h3;rw[qx hx];have Zq:=E9 hS;obtain⟨-,-,-,-,qa,get,get0,set,set0,go,go0,so,so0,n0,n1,u0,u1⟩:=hS;simp only[go_sem,Zq,LZ];refine Ac h1 ?_;simp only[go_sem,Zq,LZ];exact Fe rfl ⟨rfl,rfl⟩ h2 (by simp only[Aw,Bi,Af,Cb,Cj];simp only[V.rowB];trivial) ⟨rfl,_,_,_,_,_,_,_,_,_,_,_,rfl,by simp only[Aw,Bi,Af,Cb,Cj];simp only[V.rowB];trivial⟩
 | some xr=>
  obtain⟨x,ts⟩:=xr;rw[hx]at h3;obtain⟨rfl,h3⟩:=h3;have qm:=Du x;have hr:=Bf x;rw[hr]at h1 qm;rw[qy x ts hx,<-h3];have qd:=qd x ts hx;have qE:ts.length=A.length - q:=by rw[<-h3,D1]
  obtain⟨v2,q2,r2,k1,k2,k3⟩:=Ag8 (c0:=iV op) (c1:=iV ln) (c2:=.str []) (c3:=.str []) (c4:=.nils) (c5:=iV x.op) (c6:=iV x.n) (c7:=.str x.nm) (c8:=SL x.z x.t (x.l.map Xp.row)) (c9:=.nils) (c10:=.nils) hB hA hT (qb.get0 q _) (qb.go0 q _) qc h2 (by simp only[Aw,Bi,Af,Cb,Cj];simp only[V.rowB];trivial) (by omega);rw[show((S q [iV op,iV ln,.str [],.str [],.nils,iV x.op,iV x.n,.str x.nm,SL x.z x.t (x.l.map Xp.row),.nils,.nils]).set m (RO z t A q2)).set o (.row r2 104 0 0)=S q2 r2 from by rw[show(S q _).set m (RO z t A q2)=S q2 _ from qb.set0 q q2 _,qb.so0]]at k1;have Zq:=E9 hS;obtain⟨-,-,-,-,qa,get,get0,set,set0,go,go0,so,so0,n0,n1,u0,u1⟩:=hS;simp only[go_sem,Zq,LZ];refine Ac h1 ?_;simp only[go_sem,Zq,LZ];refine Ac k1 ?_
  cases hb:Fm n (A.drop q) with
  | none=>
   rw[hb]at k3;obtain⟨rfl,rfl⟩:=k3;simp only[go_sem,Zq,LZ];exact Fe rfl ⟨rfl,rfl⟩ k2 (by simp only[Aw,Bi,Af,Cb,Cj];simp only[V.rowB];trivial) ⟨rfl,_,_,_,_,_,_,_,_,_,_,_,rfl,by simp only[Aw,Bi,Af,Cb,Cj];simp only[V.rowB];trivial⟩
  | some bl=>
   obtain⟨b,tl⟩:=bl;rw[hb]at k3;obtain⟨rfl,rfl,k3⟩:=k3;simp only[go_sem,Zq,LZ];exact Fe rfl ⟨rfl,rfl⟩ k2 (by simp only[Aw,Bi,Af,Cb,Cj];simp only[V.rowB];trivial) ⟨rfl,rfl,k3⟩
def Ayt{n:Nat}(hB:Ux n){s:St}{m o:Nat}{z:Bool}{t:Nat}{A:List Tk}{p:Nat}{op ln:Int}(hA:OkA A)(hT:D2 A)(hs:s[m]?=some (RO z t A p))(ho:s[o]?=some (.row [iV op,iV ln,.str [],.str [],.nils,iV 0,iV 0,.str [],.nils,.nils,.nils] 104 0 0))(qc:m≠o)(hp:p<=A.length)(hf:10*(A.length - p)+9<=n):
  O6 203 s m o z t A (fun v q r=>match Z3 n (A.drop p) with
   | some ((x,b,e),ts)=>v=.bool true/\r=[.int .i64 op,.int .i64 ln,.str [],.str [],.nils,.int .i64 x.op,.int .i64 x.n,.str x.nm,SL x.z x.t (x.l.map Xp.row),SL true 0 (b.map Sp.row),SL true 0 (e.map Sp.row)]/\A.drop q=ts
   | none=>v=.bool false/\P3 r):=by
 refine Ru T203 hs ho qc fun S hS=>?_
 have hl:A.length<=1000000:=by have:=hA.len;omega
 have qb:=hS;have hm:=hS.low;have qo:=hS.lowo;obtain⟨v1,q,r1,h1,h2,h3⟩:=Am2 hB hA hT (qb.get0 p _) (qb.go0 p [iV op,iV ln,.str [],.str [],.nils,iV 0,iV 0,.str [],.nils,.nils,.nils]) qc hp hf;rw[show((S p [iV op,iV ln,.str [],.str [],.nils,iV 0,iV 0,.str [],.nils,.nils,.nils]).set m (RO z t A q)).set o (.row r1 104 0 0)=S q r1 from by rw[show(S p _).set m (RO z t A q)=S q _ from qb.set0 p q _,qb.so0]]at h1;have qd:=fun x ts (h:pe n 1 (A.drop p)=some (x,ts))=>(Wx n).1 _ _ _ _ h
 rw[D1]at qd;unfold Z3
 cases hq:Mt n (A.drop p) with
 | none=>
  rw[hq]at h3;obtain⟨rfl,qp⟩:=h3;have Zq:=E9 hS;obtain⟨-,-,-,-,qa,get,get0,set,set0,go,go0,so,so0,n0,n1,u0,u1⟩:=hS;simp only[go_sem,Zq,LZ];refine Ac h1 ?_;simp only[go_sem,Zq,LZ];exact Fe rfl ⟨rfl,rfl⟩ h2 (by obtain⟨_,_,_,_,_,_,_,_,_,_,_,-,hb⟩:=qp;exact hb) ⟨rfl,qp⟩
 | some xb=>
  obtain⟨⟨x,b⟩,ts⟩:=xb;rw[hq]at h3;obtain⟨rfl,rfl,h3⟩:=h3;simp only;rw[<-h3]
  have qF:A.length - q<A.length - p:=by
   unfold Mt at hq
   split at hq
   .cases hq
   .rename_i y t1 hy;have:=qd _ _ hy
    split at hq
    .cases hq
    .rename_i b' t2 qw;cases hq
     have h4:=((Acf (M:=0) (C:=100) (by omega) n).2.1 _ _ _ (Dg hT (by
      have:=((Vs (C:=25) (Ai _) n).1 _ _ _ _ (Dg hT (Xs p A)) hy).2.1
      exact this.trans (Xs p A))) qw).2.2.1
     have h5:(A.drop q).length=A.length - q:=D1;rw[h3]at h5;omega
  by_cases he:Ax [101,108,115,101] (A.drop q)=true
  .rw[if_pos he,<-Eh];have ha:=Ty qb (r:=[iV op,iV ln,.str [],.str [],.nils,iV x.op,iV x.n,.str x.nm,SL x.z x.t (x.l.map Xp.row),SL true 0 (b.map Sp.row),.nils]) hl he;have qg:=Ec he;obtain⟨v2,q2,k1,k2,k3⟩:=Wh qb (p:=q+1) (r:=[iV op,iV ln,.str [],.str [],.nils,iV x.op,iV x.n,.str x.nm,SL x.z x.t (x.l.map Xp.row),SL true 0 (b.map Sp.row),.nils]) fun hs=>hB _ m z t A (q+1) hA hT hs (by omega) (by omega)
   unfold PRb at k3;have Zq:=E9 hS;obtain⟨-,-,-,-,qa,get,get0,set,set0,go,go0,so,so0,n0,n1,u0,u1⟩:=hS;simp only[go_sem,Zq,LZ];refine Ac h1 ?_;simp only[go_sem,Zq,LZ];refine Ac ha ?_;simp only[go_sem,Zq,LZ]
   cases hb:Fm n (A.drop (q+1)) with
   | none=>
    rw[hb]at k3;subst k3;refine Ac k1 ?_;simp only[go_sem,Zq,LZ];exact Fe rfl ⟨rfl,rfl⟩ k2 (by simp only[Aw,Bi,Af,Cb,Cj];simp only[V.rowB];trivial) ⟨rfl,_,_,_,_,_,_,_,_,_,_,_,rfl,by simp only[Aw,Bi,Af,Cb,Cj];simp only[V.rowB];trivial⟩
   | some el=>
    obtain⟨e,tl⟩:=el;rw[hb]at k3;obtain⟨rfl,k3⟩:=k3;refine Ac k1 ?_;simp only[go_sem,Zq,LZ];exact Fe rfl ⟨rfl,rfl⟩ k2 (by simp only[Aw,Bi,Af,Cb,Cj];simp only[V.rowB];trivial) ⟨rfl,rfl,k3⟩
  .have he:Ax [101,108,115,101] (A.drop q)=false:=by simpa using he
   rw[if_neg (by rw[he];decide)];have ha:=Tz qb (r:=[iV op,iV ln,.str [],.str [],.nils,iV x.op,iV x.n,.str x.nm,SL x.z x.t (x.l.map Xp.row),SL true 0 (b.map Sp.row),.nils]) hl h2 he;have Zq:=E9 hS;obtain⟨-,-,-,-,qa,get,get0,set,set0,go,go0,so,so0,n0,n1,u0,u1⟩:=hS;simp only[go_sem,Zq,LZ];refine Ac h1 ?_;simp only[go_sem,Zq,LZ];refine Ac ha ?_;simp only[go_sem,Zq,LZ];exact Fe rfl ⟨rfl,rfl⟩ h2 (by simp only[Aw,Bi,Af,Cb,Cj];simp only[V.rowB];trivial) ⟨rfl,rfl,rfl⟩
def A3n{n:Nat}(hB:Ux n){s:St}{m o:Nat}{z:Bool}{t:Nat}{A:List Tk}{p:Nat}{op ln:Int}(hA:OkA A)(hT:D2 A)(hs:s[m]?=some (RO z t A p))(ho:s[o]?=some (.row [iV op,iV ln,.str [],.str [],.nils,iV 0,iV 0,.str [],.nils,.nils,.nils] 104 0 0))(qc:m≠o)(hp:p<=A.length)(hf:10*(A.length - p)+9<=n):
  O6 205 s m o z t A (fun v q r=>match qNB n (A.drop p) with
   | some ((nm,b),ts)=>v=.bool true/\r=[.int .i64 op,.int .i64 ln,.str nm,.str [],.nils,.int .i64 0,.int .i64 0,.str [],.nils,SL true 0 (b.map Sp.row),.nils]/\A.drop q=ts
   | none=>v=.bool false/\P3 r):=by
 refine Ru T205 hs ho qc fun S hS=>?_
 have hl:A.length<=1000000:=by have:=hA.len;omega
 have qb:=hS;have hm:=hS.low;have qo:=hS.lowo;unfold qNB
 cases hn:Df (A.drop p) with
 | none=>
  have h1:=Wj qb (r:=[iV op,iV ln,.str [],.str [],.nils,iV 0,iV 0,.str [],.nils,.nils,.nils]) hl hp hn;have Zq:=E9 hS;obtain⟨-,-,-,-,qa,get,get0,set,set0,go,go0,so,so0,n0,n1,u0,u1⟩:=hS;simp only[go_sem,Zq,LZ];refine Ac h1 ?_;simp only[go_sem,Zq,LZ];exact Fe rfl ⟨rfl,rfl⟩ hp (by simp only[Aw,Bi,Af,Cb,Cj];simp only[V.rowB];trivial) ⟨rfl,_,_,_,_,_,_,_,_,_,_,_,rfl,by simp only[Aw,Bi,Af,Cb,Cj];simp only[V.rowB];trivial⟩
 | some nt=>
  obtain⟨nm,ts⟩:=nt;obtain⟨h1,qd,h3⟩:=Wi qb (r:=[iV op,iV ln,.str [],.str [],.nils,iV 0,iV 0,.str [],.nils,.nils,.nils]) hl hp hn;simp only;rw[<-h3];obtain⟨v2,q2,r2,k1,k2,k3⟩:=Ag8 (c0:=iV op) (c1:=iV ln) (c2:=.str nm) (c3:=.str []) (c4:=.nils) (c5:=iV 0) (c6:=iV 0) (c7:=.str []) (c8:=.nils) (c9:=.nils) (c10:=.nils) hB hA hT (qb.get0 (p+1) _) (qb.go0 (p+1) _) qc (Hy qd) (by simp only[Aw,Bi,Af,Cb,Cj];simp only[V.rowB];trivial) (by omega);rw[show((S (p+1) [iV op,iV ln,.str nm,.str [],.nils,iV 0,iV 0,.str [],.nils,.nils,.nils]).set m (RO z t A q2)).set o (.row r2 104 0 0)=S q2 r2 from by rw[show(S (p+1) _).set m (RO z t A q2)=S q2 _ from qb.set0 (p+1) q2 _,qb.so0]]at k1;have Zq:=E9 hS;obtain⟨-,-,-,-,qa,get,get0,set,set0,go,go0,so,so0,n0,n1,u0,u1⟩:=hS;simp only[go_sem,Zq,LZ];refine Ac h1 ?_;simp only[go_sem,Zq,LZ];refine Ac k1 ?_
  cases hb:Fm n (A.drop (p+1)) with
  | none=>
   rw[hb]at k3;obtain⟨rfl,rfl⟩:=k3;simp only[go_sem,Zq,LZ];exact Fe rfl ⟨rfl,rfl⟩ k2 (by simp only[Aw,Bi,Af,Cb,Cj];simp only[V.rowB];trivial) ⟨rfl,_,_,_,_,_,_,_,_,_,_,_,rfl,by simp only[Aw,Bi,Af,Cb,Cj];simp only[V.rowB];trivial⟩
  | some bl=>
   obtain⟨b,tl⟩:=bl;rw[hb]at k3;obtain⟨rfl,rfl,k3⟩:=k3;simp only[go_sem,Zq,LZ];exact Fe rfl ⟨rfl,rfl⟩ k2 (by simp only[Aw,Bi,Af,Cb,Cj];simp only[V.rowB];trivial) ⟨rfl,rfl,k3⟩
def Ax0{n:Nat}{s:St}{m o:Nat}{z:Bool}{t:Nat}{A:List Tk}{p:Nat}{op ln:Int}(hA:OkA A)(hT:D2 A)(hs:s[m]?=some (RO z t A p))(ho:s[o]?=some (.row [iV op,iV ln,.str [],.str [],.nils,iV 0,iV 0,.str [],.nils,.nils,.nils] 104 0 0))(qc:m≠o)(hp:p<=A.length)(hf:10*(A.length - p)+9<=n):
  O6 207 s m o z t A (fun v q r=>match qNm (A.drop p) with
   | some (nm,ts)=>v=.bool true/\r=[.int .i64 op,.int .i64 ln,.str nm,.str [],.nils,.int .i64 0,.int .i64 0,.str [],.nils,.nils,.nils]/\A.drop q=ts
   | none=>v=.bool false/\P3 r):=by
 refine Ru T207 hs ho qc fun S hS=>?_
 have hl:A.length<=1000000:=by have:=hA.len;omega
 have qb:=hS;have hm:=hS.low;have qo:=hS.lowo;unfold qNm
 cases hn:Df (A.drop p) with
 | none=>
  have h1:=Wj qb (r:=[iV op,iV ln,.str [],.str [],.nils,iV 0,iV 0,.str [],.nils,.nils,.nils]) hl hp hn;have Zq:=E9 hS;obtain⟨-,-,-,-,qa,get,get0,set,set0,go,go0,so,so0,n0,n1,u0,u1⟩:=hS;simp only[go_sem,Zq,LZ];refine Ac h1 ?_;simp only[go_sem,Zq,LZ];exact Fe rfl ⟨rfl,rfl⟩ hp (by simp only[Aw,Bi,Af,Cb,Cj];simp only[V.rowB];trivial) ⟨rfl,_,_,_,_,_,_,_,_,_,_,_,rfl,by simp only[Aw,Bi,Af,Cb,Cj];simp only[V.rowB];trivial⟩
 | some nt=>
  obtain⟨nm,ts⟩:=nt;obtain⟨h1,qd,h3⟩:=Wi qb (r:=[iV op,iV ln,.str [],.str [],.nils,iV 0,iV 0,.str [],.nils,.nils,.nils]) hl hp hn;simp only;rw[<-h3];unfold D4;by_cases he:Ax [59] (A.drop (p+1))=true
  .rw[if_pos he,<-Eh];have ha:=Ty qb (r:=[iV op,iV ln,.str nm,.str [],.nils,iV 0,iV 0,.str [],.nils,.nils,.nils]) hl he;have qh:=Ec he;have Zq:=E9 hS;obtain⟨-,-,-,-,qa,get,get0,set,set0,go,go0,so,so0,n0,n1,u0,u1⟩:=hS;simp only[go_sem,Zq,LZ];refine Ac h1 ?_;simp only[go_sem,Zq,LZ];refine Ac ha ?_;simp only[go_sem,Zq,LZ];exact Fe rfl ⟨rfl,rfl⟩ (by omega) (by simp only[Aw,Bi,Af,Cb,Cj];simp only[V.rowB];trivial) ⟨rfl,rfl,rfl⟩
  .have he:Ax [59] (A.drop (p+1))=false:=by simpa using he
   rw[if_neg (by rw[he];decide)];have ha:=Tz qb (r:=[iV op,iV ln,.str nm,.str [],.nils,iV 0,iV 0,.str [],.nils,.nils,.nils]) hl (Hy qd) he;have Zq:=E9 hS;obtain⟨-,-,-,-,qa,get,get0,set,set0,go,go0,so,so0,n0,n1,u0,u1⟩:=hS;simp only[go_sem,Zq,LZ];refine Ac h1 ?_;simp only[go_sem,Zq,LZ];refine Ac ha ?_;simp only[go_sem,Zq,LZ];exact Fe rfl ⟨rfl,rfl⟩ (Hy qd) (by simp only[Aw,Bi,Af,Cb,Cj];simp only[V.rowB];trivial) ⟨rfl,_,_,_,_,_,_,_,_,_,_,_,rfl,by simp only[Aw,Bi,Af,Cb,Cj];simp only[V.rowB];trivial⟩
def A0l{n:Nat}{s:St}{m o:Nat}{z:Bool}{t:Nat}{A:List Tk}{p:Nat}{op ln:Int}(hA:OkA A)(hT:D2 A)(hs:s[m]?=some (RO z t A p))(ho:s[o]?=some (.row [iV op,iV ln,.str [],.str [],.nils,iV 0,iV 0,.str [],.nils,.nils,.nils] 104 0 0))(qc:m≠o)(hp:p<=A.length)(hf:10*(A.length - p)+9<=n):
  O6 209 s m o z t A (fun v q r=>match Aai (A.drop p) with
   | some ((nm,ar),ts)=>v=.bool true/\r=[.int .i64 op,.int .i64 ln,.str nm,.str ar,.nils,.int .i64 0,.int .i64 0,.str [],.nils,.nils,.nils]/\A.drop q=ts
   | none=>v=.bool false/\P3 r):=by
 refine Ru T209 hs ho qc fun S hS=>?_
 have hl:A.length<=1000000:=by have:=hA.len;omega
 have qb:=hS;have hm:=hS.low;have qo:=hS.lowo;unfold Aai
 cases hn:Df (A.drop p) with
 | none=>
  have h1:=Wj qb (r:=[iV op,iV ln,.str [],.str [],.nils,iV 0,iV 0,.str [],.nils,.nils,.nils]) hl hp hn;have Zq:=E9 hS;obtain⟨-,-,-,-,qa,get,get0,set,set0,go,go0,so,so0,n0,n1,u0,u1⟩:=hS;simp only[go_sem,Zq,LZ];refine Ac h1 ?_;simp only[go_sem,Zq,LZ];exact Fe rfl ⟨rfl,rfl⟩ hp (by simp only[Aw,Bi,Af,Cb,Cj];simp only[V.rowB];trivial) ⟨rfl,_,_,_,_,_,_,_,_,_,_,_,rfl,by simp only[Aw,Bi,Af,Cb,Cj];simp only[V.rowB];trivial⟩
 | some nt=>
  obtain⟨nm,ts⟩:=nt;obtain⟨h1,qd,h3⟩:=Wi qb (r:=[iV op,iV ln,.str [],.str [],.nils,iV 0,iV 0,.str [],.nils,.nils,.nils]) hl hp hn;simp only;rw[<-h3]
  cases hn2:Df (A.drop (p+1)) with
  | none=>
   have k1:=Wj qb (r:=[iV op,iV ln,.str nm,.str [],.nils,iV 0,iV 0,.str [],.nils,.nils,.nils]) hl (Hy qd) hn2;have Zq:=E9 hS;obtain⟨-,-,-,-,qa,get,get0,set,set0,go,go0,so,so0,n0,n1,u0,u1⟩:=hS;simp only[go_sem,Zq,LZ];refine Ac h1 ?_;simp only[go_sem,Zq,LZ];refine Ac k1 ?_;simp only[go_sem,Zq,LZ];exact Fe rfl ⟨rfl,rfl⟩ (Hy qd) (by simp only[Aw,Bi,Af,Cb,Cj];simp only[V.rowB];trivial) ⟨rfl,_,_,_,_,_,_,_,_,_,_,_,rfl,by simp only[Aw,Bi,Af,Cb,Cj];simp only[V.rowB];trivial⟩
  | some nt2=>
   obtain⟨ar,qB⟩:=nt2;obtain⟨k1,qg,k3⟩:=Wi qb (r:=[iV op,iV ln,.str nm,.str [],.nils,iV 0,iV 0,.str [],.nils,.nils,.nils]) hl (Hy qd) hn2;simp only;rw[<-k3];unfold D4;by_cases he:Ax [59] (A.drop (p+1+1))=true
   .rw[if_pos he,<-Eh];have ha:=Ty qb (r:=[iV op,iV ln,.str nm,.str ar,.nils,iV 0,iV 0,.str [],.nils,.nils,.nils]) hl he;have qh:=Ec he;have Zq:=E9 hS;obtain⟨-,-,-,-,qa,get,get0,set,set0,go,go0,so,so0,n0,n1,u0,u1⟩:=hS;simp only[go_sem,Zq,LZ];refine Ac h1 ?_;simp only[go_sem,Zq,LZ];refine Ac k1 ?_;simp only[go_sem,Zq,LZ];refine Ac ha ?_;simp only[go_sem,Zq,LZ];exact Fe rfl ⟨rfl,rfl⟩ (by omega) (by simp only[Aw,Bi,Af,Cb,Cj];simp only[V.rowB];trivial) ⟨rfl,rfl,rfl⟩
   .have he:Ax [59] (A.drop (p+1+1))=false:=by simpa using he
    rw[if_neg (by rw[he];decide)];have ha:=Tz qb (r:=[iV op,iV ln,.str nm,.str ar,.nils,iV 0,iV 0,.str [],.nils,.nils,.nils]) hl (Hy qg) he;have Zq:=E9 hS;obtain⟨-,-,-,-,qa,get,get0,set,set0,go,go0,so,so0,n0,n1,u0,u1⟩:=hS;simp only[go_sem,Zq,LZ];refine Ac h1 ?_;simp only[go_sem,Zq,LZ];refine Ac k1 ?_;simp only[go_sem,Zq,LZ];refine Ac ha ?_;simp only[go_sem,Zq,LZ];exact Fe rfl ⟨rfl,rfl⟩ (Hy qg) (by simp only[Aw,Bi,Af,Cb,Cj];simp only[V.rowB];trivial) ⟨rfl,_,_,_,_,_,_,_,_,_,_,_,rfl,by simp only[Aw,Bi,Af,Cb,Cj];simp only[V.rowB];trivial⟩
def A0m{n:Nat}{s:St}{m o:Nat}{z:Bool}{t:Nat}{A:List Tk}{p:Nat}{op ln:Int}(hA:OkA A)(hT:D2 A)(hs:s[m]?=some (RO z t A p))(ho:s[o]?=some (.row [iV op,iV ln,.str [],.str [],.nils,iV 0,iV 0,.str [],.nils,.nils,.nils] 104 0 0))(qc:m≠o)(hp:p<=A.length)(hf:10*(A.length - p)+9<=n):
  O6 208 s m o z t A (fun v q r=>match Aah n (A.drop p) with
   | some ((nm,x),ts)=>v=.bool true/\r=[.int .i64 op,.int .i64 ln,.str nm,.str [],.nils,.int .i64 x.op,.int .i64 x.n,.str x.nm,SL x.z x.t (x.l.map Xp.row),.nils,.nils]/\A.drop q=ts
   | none=>v=.bool false/\P3 r):=by
 refine Ru T208 hs ho qc fun S hS=>?_
 have hl:A.length<=1000000:=by have:=hA.len;omega
 have qb:=hS;have hm:=hS.low;have qo:=hS.lowo;unfold Aah
 cases hn:Df (A.drop p) with
 | none=>
  have h1:=Wj qb (r:=[iV op,iV ln,.str [],.str [],.nils,iV 0,iV 0,.str [],.nils,.nils,.nils]) hl hp hn;have Zq:=E9 hS;obtain⟨-,-,-,-,qa,get,get0,set,set0,go,go0,so,so0,n0,n1,u0,u1⟩:=hS;simp only[go_sem,Zq,LZ];refine Ac h1 ?_;simp only[go_sem,Zq,LZ];exact Fe rfl ⟨rfl,rfl⟩ hp (by simp only[Aw,Bi,Af,Cb,Cj];simp only[V.rowB];trivial) ⟨rfl,_,_,_,_,_,_,_,_,_,_,_,rfl,by simp only[Aw,Bi,Af,Cb,Cj];simp only[V.rowB];trivial⟩
 | some nt=>
  obtain⟨nm,ts⟩:=nt;obtain⟨h1,qd,h3⟩:=Wi qb (r:=[iV op,iV ln,.str [],.str [],.nils,iV 0,iV 0,.str [],.nils,.nils,.nils]) hl hp hn;simp only;rw[<-h3];obtain⟨v,q,k1,k2,k3⟩:=Wh qb (p:=p+1) (r:=[iV op,iV ln,.str nm,.str [],.nils,iV 0,iV 0,.str [],.nils,.nils,.nils]) fun hs=>Td (X8 n).1 hA hs (Hy qd) (by omega)
  unfold PR at k3
  cases hx:pe n 1 (A.drop (p+1)) with
  | none=>
   rw[hx]at k3;subst k3;have Zq:=E9 hS;obtain⟨-,-,-,-,qa,get,get0,set,set0,go,go0,so,so0,n0,n1,u0,u1⟩:=hS;simp only[go_sem,Zq,LZ];refine Ac h1 ?_;simp only[go_sem,Zq,LZ];refine Ac k1 ?_;simp only[go_sem,Zq,LZ];exact Fe rfl ⟨rfl,rfl⟩ k2 (by simp only[Aw,Bi,Af,Cb,Cj];simp only[V.rowB];trivial) ⟨rfl,_,_,_,_,_,_,_,_,_,_,_,rfl,by simp only[Aw,Bi,Af,Cb,Cj];simp only[V.rowB];trivial⟩
  | some xr=>
   obtain⟨x,qB⟩:=xr;rw[hx]at k3;obtain⟨rfl,k3⟩:=k3;have qm:=Du x;have hr:=Bf x;rw[hr]at k1 qm;simp only;rw[<-k3];unfold D4;by_cases he:Ax [59] (A.drop q)=true
   .rw[if_pos he,<-Eh];have ha:=Ty qb (r:=[iV op,iV ln,.str nm,.str [],.nils,iV x.op,iV x.n,.str x.nm,SL x.z x.t (x.l.map Xp.row),.nils,.nils]) hl he;have qh:=Ec he;have Zq:=E9 hS;obtain⟨-,-,-,-,qa,get,get0,set,set0,go,go0,so,so0,n0,n1,u0,u1⟩:=hS;simp only[go_sem,Zq,LZ];refine Ac h1 ?_;simp only[go_sem,Zq,LZ];refine Ac k1 ?_;simp only[go_sem,Zq,LZ];refine Ac ha ?_;simp only[go_sem,Zq,LZ];exact Fe rfl ⟨rfl,rfl⟩ (by omega) (by simp only[Aw,Bi,Af,Cb,Cj];simp only[V.rowB];trivial) ⟨rfl,rfl,rfl⟩
   .have he:Ax [59] (A.drop q)=false:=by simpa using he
    rw[if_neg (by rw[he];decide)];have ha:=Tz qb (r:=[iV op,iV ln,.str nm,.str [],.nils,iV x.op,iV x.n,.str x.nm,SL x.z x.t (x.l.map Xp.row),.nils,.nils]) hl k2 he;have Zq:=E9 hS;obtain⟨-,-,-,-,qa,get,get0,set,set0,go,go0,so,so0,n0,n1,u0,u1⟩:=hS;simp only[go_sem,Zq,LZ];refine Ac h1 ?_;simp only[go_sem,Zq,LZ];refine Ac k1 ?_;simp only[go_sem,Zq,LZ];refine Ac ha ?_;simp only[go_sem,Zq,LZ];exact Fe rfl ⟨rfl,rfl⟩ k2 (by simp only[Aw,Bi,Af,Cb,Cj];simp only[V.rowB];trivial) ⟨rfl,_,_,_,_,_,_,_,_,_,_,_,rfl,by simp only[Aw,Bi,Af,Cb,Cj];simp only[V.rowB];trivial⟩
def Axn{n:Nat}{s:St}{m o:Nat}{z:Bool}{t:Nat}{A:List Tk}{p:Nat}{ln:Int}(hA:OkA A)(hT:D2 A)(hs:s[m]?=some (RO z t A p))(ho:s[o]?=some (.row [iV 1,iV ln,.str [],.str [],.nils,iV 0,iV 0,.str [],.nils,.nils,.nils] 104 0 0))(qc:m≠o)(hp:p<=A.length)(hf:10*(A.length - p)+9<=n):
  O6 178 s m o z t A (fun v q r=>match Up n ln (A.drop p) with
   | some (x,ts)=>v=.bool true/\r=x.row/\A.drop q=ts
   | none=>v=.bool false/\P3 r):=by
 refine Ru T178 hs ho qc fun S hS=>?_
 have hl:A.length<=1000000:=by have:=hA.len;omega
 have qb:=hS;have hm:=hS.low;have qo:=hS.lowo;unfold Up
 cases hn:Df (A.drop p) with
 | none=>
  have h1:=Wj qb (r:=[iV 1,iV ln,.str [],.str [],.nils,iV 0,iV 0,.str [],.nils,.nils,.nils]) hl hp hn;have Zq:=E9 hS;obtain⟨-,-,-,-,qa,get,get0,set,set0,go,go0,so,so0,n0,n1,u0,u1⟩:=hS;simp only[go_sem,Zq,LZ];refine Ac h1 ?_;simp only[go_sem,Zq,LZ];exact Fe rfl ⟨rfl,rfl⟩ hp (by simp only[Aw,Bi,Af,Cb,Cj];simp only[V.rowB];trivial) ⟨rfl,_,_,_,_,_,_,_,_,_,_,_,rfl,by simp only[Aw,Bi,Af,Cb,Cj];simp only[V.rowB];trivial⟩
 | some nt=>
  obtain⟨nm,ts⟩:=nt;obtain⟨h1,qd,h3⟩:=Wi qb (r:=[iV 1,iV ln,.str [],.str [],.nils,iV 0,iV 0,.str [],.nils,.nils,.nils]) hl hp hn;simp only;rw[<-h3];unfold Alg D4;by_cases qj:Ax [91] (A.drop (p+1))=true
  .rw[if_pos qj,<-Eh];have hb:=Ty qb (r:=[iV 1,iV ln,.str nm,.str [],.nils,iV 0,iV 0,.str [],.nils,.nils,.nils]) hl qj;have qg:=Ec qj;obtain⟨v0,q0,j1,j2,j3⟩:=Wh qb (p:=p+1+1) (r:=[iV 1,iV ln,.str nm,.str [],.nils,iV 0,iV 0,.str [],.nils,.nils,.nils]) fun hs=>Td (X8 n).1 hA hs (by omega) (by omega)
   unfold PR at j3;have ql:=fun x ts (h:pe n 1 (A.drop (p+1+1))=some (x,ts))=>(Wx n).1 _ _ _ _ h
   rw[D1]at ql
   cases hy:pe n 1 (A.drop (p+1+1)) with
   | none=>
    rw[hy]at j3;subst j3;simp only;have Zq:=E9 hS;obtain⟨-,-,-,-,qa,get,get0,set,set0,go,go0,so,so0,n0,n1,u0,u1⟩:=hS;simp only[go_sem,Zq,LZ];refine Ac h1 ?_;simp only[go_sem,Zq,LZ];refine Ac hb ?_;simp only[go_sem,Zq,LZ];refine Ac j1 ?_;simp only[go_sem,Zq,LZ];exact Wg rfl ⟨rfl,rfl⟩ j2 (by simp only[Aw,Bi,Af,Cb,Cj];simp only[V.rowB];trivial) ⟨rfl,_,_,_,_,_,_,_,_,_,_,_,rfl,by simp only[Aw,Bi,Af,Cb,Cj];simp only[V.rowB];trivial⟩
   | some yr=>
    obtain⟨y,qv⟩:=yr;rw[hy]at j3;obtain⟨rfl,j3⟩:=j3;have qA:=Du y;have qu:=Bf y;rw[qu]at j1 qA;have ql:=ql y qv hy;have qD:qv.length=A.length - q0:=by rw[<-j3,D1]
    simp only;rw[<-j3];by_cases qk:Ax [93] (A.drop q0)=true
    .rw[if_pos qk];simp only[Gb];rw[<-Eh];have qn:=Akg qb (r:=[iV 1,iV ln,.str nm,.str [],.nils,iV 0,iV 0,.str [],.nils,.nils,.nils]) [.row [iV y.op,iV y.n,.str y.nm,SL y.z y.t (y.l.map Xp.row)] 102 0 0] hl qk;have qq:=Ec qk;by_cases qe:Ax [61] (A.drop (q0+1))=true
     .rw[if_pos qe];simp only;rw[<-Eh];have ha:=Akg qb (r:=[iV 1,iV ln,.str nm,.str [],.lst 1 [[iV y.op,iV y.n,.str y.nm,SL y.z y.t (y.l.map Xp.row)]],iV 0,iV 0,.str [],.nils,.nils,.nils]) [.row [iV y.op,iV y.n,.str y.nm,SL y.z y.t (y.l.map Xp.row)] 102 0 0] hl qe;have qf:=Ec qe;obtain⟨v,q,k1,k2,k3⟩:=Bih qb (p:=(q0+1)+1) (r:=[iV 1,iV ln,.str nm,.str [],.lst 1 [[iV y.op,iV y.n,.str y.nm,SL y.z y.t (y.l.map Xp.row)]],iV 0,iV 0,.str [],.nils,.nils,.nils]) (l:=[.row [iV y.op,iV y.n,.str y.nm,SL y.z y.t (y.l.map Xp.row)] 102 0 0]) fun hs=>Td (X8 n).1 hA hs (Hy qf) (by omega)
      unfold PR at k3
      cases hx:pe n 1 (A.drop ((q0+1)+1)) with
      | none=>
       rw[hx]at k3;subst k3;simp only;have Zq:=E9 hS;obtain⟨-,-,-,-,qa,get,get0,set,set0,go,go0,so,so0,n0,n1,u0,u1⟩:=hS;simp only[go_sem,Zq,LZ];refine Ac h1 ?_;simp only[go_sem,Zq,LZ];refine Ac hb ?_;simp only[go_sem,Zq,LZ];refine Ac j1 ?_;simp only[go_sem,Zq,LZ];refine Ac qn ?_;simp only[go_sem,Zq,LZ];refine Ac ha ?_;simp only[go_sem,Zq,LZ];refine Ac k1 ?_;simp only[go_sem,Zq,LZ];exact Wg rfl ⟨rfl,rfl⟩ k2 (by simp only[Aw,Bi,Af,Cb,Cj];simp only[V.rowB];trivial) ⟨rfl,_,_,_,_,_,_,_,_,_,_,_,rfl,by simp only[Aw,Bi,Af,Cb,Cj];simp only[V.rowB];trivial⟩
      | some xr=>
       obtain⟨x,qC⟩:=xr;rw[hx]at k3;obtain⟨rfl,k3⟩:=k3;have qm:=Du x;have hr:=Bf x;rw[hr]at k1 qm;simp only;rw[<-k3];by_cases he:Ax [59] (A.drop q)=true
       .rw[if_pos he,<-Eh];have hc:=Akg qb (r:=[iV 1,iV ln,.str nm,.str [],.lst 1 [[iV y.op,iV y.n,.str y.nm,SL y.z y.t (y.l.map Xp.row)]],iV x.op,iV x.n,.str x.nm,SL x.z x.t (x.l.map Xp.row),.nils,.nils]) [.row [iV y.op,iV y.n,.str y.nm,SL y.z y.t (y.l.map Xp.row)] 102 0 0] hl he;have qh:=Ec he;have Zq:=E9 hS;obtain⟨-,-,-,-,qa,get,get0,set,set0,go,go0,so,so0,n0,n1,u0,u1⟩:=hS;simp only[go_sem,Zq,LZ];refine Ac h1 ?_;simp only[go_sem,Zq,LZ];refine Ac hb ?_;simp only[go_sem,Zq,LZ];refine Ac j1 ?_;simp only[go_sem,Zq,LZ];refine Ac qn ?_;simp only[go_sem,Zq,LZ];refine Ac ha ?_;simp only[go_sem,Zq,LZ];refine Ac k1 ?_;simp only[go_sem,Zq,LZ];refine Ac hc ?_;simp only[go_sem,Zq,LZ];exact Wg rfl ⟨rfl,rfl⟩ (by omega) (by simp only[Aw,Bi,Af,Cb,Cj];simp only[V.rowB];trivial) ⟨rfl,by rw[Fg];simp only[Bb,B7,qu];rfl,rfl⟩
       .have he:Ax [59] (A.drop q)=false:=by simpa using he
        rw[if_neg (by rw[he];decide)];have hc:=Akh qb (r:=[iV 1,iV ln,.str nm,.str [],.lst 1 [[iV y.op,iV y.n,.str y.nm,SL y.z y.t (y.l.map Xp.row)]],iV x.op,iV x.n,.str x.nm,SL x.z x.t (x.l.map Xp.row),.nils,.nils]) [.row [iV y.op,iV y.n,.str y.nm,SL y.z y.t (y.l.map Xp.row)] 102 0 0] hl k2 he;have Zq:=E9 hS;obtain⟨-,-,-,-,qa,get,get0,set,set0,go,go0,so,so0,n0,n1,u0,u1⟩:=hS;simp only[go_sem,Zq,LZ];refine Ac h1 ?_;simp only[go_sem,Zq,LZ];refine Ac hb ?_;simp only[go_sem,Zq,LZ];refine Ac j1 ?_;simp only[go_sem,Zq,LZ];refine Ac qn ?_;simp only[go_sem,Zq,LZ];refine Ac ha ?_;simp only[go_sem,Zq,LZ];refine Ac k1 ?_;simp only[go_sem,Zq,LZ];refine Ac hc ?_;simp only[go_sem,Zq,LZ];exact Wg rfl ⟨rfl,rfl⟩ k2 (by simp only[Aw,Bi,Af,Cb,Cj];simp only[V.rowB];trivial) ⟨rfl,_,_,_,_,_,_,_,_,_,_,_,rfl,by simp only[Aw,Bi,Af,Cb,Cj];simp only[V.rowB];trivial⟩
     .have qe:Ax [61] (A.drop (q0+1))=false:=by simpa using qe
      rw[if_neg (by rw[qe];decide)];simp only;have ha:=Akh qb (r:=[iV 1,iV ln,.str nm,.str [],.lst 1 [[iV y.op,iV y.n,.str y.nm,SL y.z y.t (y.l.map Xp.row)]],iV 0,iV 0,.str [],.nils,.nils,.nils]) [.row [iV y.op,iV y.n,.str y.nm,SL y.z y.t (y.l.map Xp.row)] 102 0 0] hl (Hy qq) qe;have Zq:=E9 hS;obtain⟨-,-,-,-,qa,get,get0,set,set0,go,go0,so,so0,n0,n1,u0,u1⟩:=hS;simp only[go_sem,Zq,LZ];refine Ac h1 ?_;simp only[go_sem,Zq,LZ];refine Ac hb ?_;simp only[go_sem,Zq,LZ];refine Ac j1 ?_;simp only[go_sem,Zq,LZ];refine Ac qn ?_;simp only[go_sem,Zq,LZ];refine Ac ha ?_;simp only[go_sem,Zq,LZ];exact Wg rfl ⟨rfl,rfl⟩ (Hy qq) (by simp only[Aw,Bi,Af,Cb,Cj];simp only[V.rowB];trivial) ⟨rfl,_,_,_,_,_,_,_,_,_,_,_,rfl,by simp only[Aw,Bi,Af,Cb,Cj];simp only[V.rowB];trivial⟩
    .have qk:Ax [93] (A.drop q0)=false:=by simpa using qk
     rw[if_neg (by rw[qk];decide)];simp only[Option.map_none];have qn:=Akh qb (r:=[iV 1,iV ln,.str nm,.str [],.nils,iV 0,iV 0,.str [],.nils,.nils,.nils]) [.row [iV y.op,iV y.n,.str y.nm,SL y.z y.t (y.l.map Xp.row)] 102 0 0] hl j2 qk;have Zq:=E9 hS;obtain⟨-,-,-,-,qa,get,get0,set,set0,go,go0,so,so0,n0,n1,u0,u1⟩:=hS;simp only[go_sem,Zq,LZ];refine Ac h1 ?_;simp only[go_sem,Zq,LZ];refine Ac hb ?_;simp only[go_sem,Zq,LZ];refine Ac j1 ?_;simp only[go_sem,Zq,LZ];refine Ac qn ?_;simp only[go_sem,Zq,LZ];exact Wg rfl ⟨rfl,rfl⟩ j2 (by simp only[Aw,Bi,Af,Cb,Cj];simp only[V.rowB];trivial) ⟨rfl,_,_,_,_,_,_,_,_,_,_,_,rfl,by simp only[Aw,Bi,Af,Cb,Cj];simp only[V.rowB];trivial⟩
  .have qj:Ax [91] (A.drop (p+1))=false:=by simpa using qj
   rw[if_neg (by rw[qj];decide)];simp only;have hb:=Tz qb (r:=[iV 1,iV ln,.str nm,.str [],.nils,iV 0,iV 0,.str [],.nils,.nils,.nils]) hl (Hy qd) qj;by_cases qe:Ax [61] (A.drop (p+1))=true
   .rw[if_pos qe];simp only;rw[<-Eh];have ha:=Ty qb (r:=[iV 1,iV ln,.str nm,.str [],.nils,iV 0,iV 0,.str [],.nils,.nils,.nils]) hl qe;have qf:=Ec qe;obtain⟨v,q,k1,k2,k3⟩:=Wh qb (p:=(p+1)+1) (r:=[iV 1,iV ln,.str nm,.str [],.nils,iV 0,iV 0,.str [],.nils,.nils,.nils]) fun hs=>Td (X8 n).1 hA hs (Hy qf) (by omega)
    unfold PR at k3
    cases hx:pe n 1 (A.drop ((p+1)+1)) with
    | none=>
     rw[hx]at k3;subst k3;simp only;have Zq:=E9 hS;obtain⟨-,-,-,-,qa,get,get0,set,set0,go,go0,so,so0,n0,n1,u0,u1⟩:=hS;simp only[go_sem,Zq,LZ];refine Ac h1 ?_;simp only[go_sem,Zq,LZ];refine Ac hb ?_;simp only[go_sem,Zq,LZ];refine Ac ha ?_;simp only[go_sem,Zq,LZ];refine Ac k1 ?_;simp only[go_sem,Zq,LZ];exact Fe rfl ⟨rfl,rfl⟩ k2 (by simp only[Aw,Bi,Af,Cb,Cj];simp only[V.rowB];trivial) ⟨rfl,_,_,_,_,_,_,_,_,_,_,_,rfl,by simp only[Aw,Bi,Af,Cb,Cj];simp only[V.rowB];trivial⟩
    | some xr=>
     obtain⟨x,qC⟩:=xr;rw[hx]at k3;obtain⟨rfl,k3⟩:=k3;have qm:=Du x;have hr:=Bf x;rw[hr]at k1 qm;simp only;rw[<-k3];by_cases he:Ax [59] (A.drop q)=true
     .rw[if_pos he,<-Eh];have hc:=Ty qb (r:=[iV 1,iV ln,.str nm,.str [],.nils,iV x.op,iV x.n,.str x.nm,SL x.z x.t (x.l.map Xp.row),.nils,.nils]) hl he;have qh:=Ec he;have Zq:=E9 hS;obtain⟨-,-,-,-,qa,get,get0,set,set0,go,go0,so,so0,n0,n1,u0,u1⟩:=hS;simp only[go_sem,Zq,LZ];refine Ac h1 ?_;simp only[go_sem,Zq,LZ];refine Ac hb ?_;simp only[go_sem,Zq,LZ];refine Ac ha ?_;simp only[go_sem,Zq,LZ];refine Ac k1 ?_;simp only[go_sem,Zq,LZ];refine Ac hc ?_;simp only[go_sem,Zq,LZ];exact Fe rfl ⟨rfl,rfl⟩ (by omega) (by simp only[Aw,Bi,Af,Cb,Cj];simp only[V.rowB];trivial) ⟨rfl,by rw[Fg];rfl,rfl⟩
     .have he:Ax [59] (A.drop q)=false:=by simpa using he
      rw[if_neg (by rw[he];decide)];have hc:=Tz qb (r:=[iV 1,iV ln,.str nm,.str [],.nils,iV x.op,iV x.n,.str x.nm,SL x.z x.t (x.l.map Xp.row),.nils,.nils]) hl k2 he;have Zq:=E9 hS;obtain⟨-,-,-,-,qa,get,get0,set,set0,go,go0,so,so0,n0,n1,u0,u1⟩:=hS;simp only[go_sem,Zq,LZ];refine Ac h1 ?_;simp only[go_sem,Zq,LZ];refine Ac hb ?_;simp only[go_sem,Zq,LZ];refine Ac ha ?_;simp only[go_sem,Zq,LZ];refine Ac k1 ?_;simp only[go_sem,Zq,LZ];refine Ac hc ?_;simp only[go_sem,Zq,LZ];exact Fe rfl ⟨rfl,rfl⟩ k2 (by simp only[Aw,Bi,Af,Cb,Cj];simp only[V.rowB];trivial) ⟨rfl,_,_,_,_,_,_,_,_,_,_,_,rfl,by simp only[Aw,Bi,Af,Cb,Cj];simp only[V.rowB];trivial⟩
   .have qe:Ax [61] (A.drop (p+1))=false:=by simpa using qe
    rw[if_neg (by rw[qe];decide)];simp only;have ha:=Tz qb (r:=[iV 1,iV ln,.str nm,.str [],.nils,iV 0,iV 0,.str [],.nils,.nils,.nils]) hl (Hy qd) qe;have Zq:=E9 hS;obtain⟨-,-,-,-,qa,get,get0,set,set0,go,go0,so,so0,n0,n1,u0,u1⟩:=hS;simp only[go_sem,Zq,LZ];refine Ac h1 ?_;simp only[go_sem,Zq,LZ];refine Ac hb ?_;simp only[go_sem,Zq,LZ];refine Ac ha ?_;simp only[go_sem,Zq,LZ];exact Fe rfl ⟨rfl,rfl⟩ (Hy qd) (by simp only[Aw,Bi,Af,Cb,Cj];simp only[V.rowB];trivial) ⟨rfl,_,_,_,_,_,_,_,_,_,_,_,rfl,by simp only[Aw,Bi,Af,Cb,Cj];simp only[V.rowB];trivial⟩
