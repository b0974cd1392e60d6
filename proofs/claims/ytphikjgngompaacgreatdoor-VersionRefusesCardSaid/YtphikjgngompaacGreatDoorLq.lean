/- Walks: the parser's statements. -/
import Derived.Test.YtphikjgngompaacGreatDoorLk
set_option linter.all false
namespace Go.Proofs.YtphikjgngompaacGreatDoor.KM
open Go
structure RdT (s:St) (m o:Nat) (z:Bool) (t:Nat) (A:List Tk) (S:Nat->List V->St):Prop where
 low:m<s.length
 lowo:o<s.length
 ne:m≠o
 eq:∀ p r,S p r=(s.set m (RO z t A p)).set o (.row r 100 0 0)
 len:∀ p r,(S p r).length=s.length
 get:∀ (p:Nat) (r:List V) (l:St),(S p r++l)[m]?=some (.row [SL z t (A.map Tk.row),iV (p:Int)] 76 0 0)
 get0:∀ (p:Nat) (r:List V),(S p r)[m]?=some (.row [SL z t (A.map Tk.row),iV (p:Int)] 76 0 0)
 set:∀ (p q:Nat) (r:List V) (l:St),(S p r++l).set m (.row [SL z t (A.map Tk.row),iV (q:Int)] 76 0 0)=S q r++l
 set0:∀ (p q:Nat) (r:List V),(S p r).set m (.row [SL z t (A.map Tk.row),iV (q:Int)] 76 0 0)=S q r
 go:∀ (p:Nat) (r:List V) (l:St),(S p r++l)[o]?=some (.row r 100 0 0)
 go0:∀ (p:Nat) (r:List V),(S p r)[o]?=some (.row r 100 0 0)
 so:∀ (p:Nat) (r r':List V) (l:St),(S p r++l).set o (.row r' 100 0 0)=S p r'++l
 so0:∀ (p:Nat) (r r':List V),(S p r).set o (.row r' 100 0 0)=S p r'
 n0:∀ (p:Nat) (r:List V) (a:Ob) (l:St),(S p r++a::l)[s.length]?=some a
 n1:∀ (p:Nat) (r:List V) (a b:Ob) (l:St),(S p r++a::b::l)[s.length+1]?=some b
 u0:∀ (p:Nat) (r:List V) (a x:Ob) (l:St),(S p r++a::l).set s.length x=S p r++x::l
 u1:∀ (p:Nat) (r:List V) (a b x:Ob) (l:St),(S p r++a::b::l).set (s.length+1) x=S p r++a::x::l
def Fd{s:St}{m o:Nat}{z:Bool}{t:Nat}{A:List Tk}{S:Nat->List V->St}(h:RdT s m o z t A S):=And.intro h.len (And.intro h.get (And.intro h.get0 (And.intro h.set (And.intro h.set0 (And.intro h.go (And.intro h.go0 (And.intro h.so (And.intro h.so0 (And.intro h.n0 (And.intro h.n1 (And.intro h.u0 (h.u1))))))))))))
def Bcj{s:St}{m o:Nat}(z:Bool)(t:Nat)(A:List Tk)(hm:m<s.length)(ho:o<s.length)(qc:m≠o):RdT s m o z t A (fun p r=>(s.set m (RO z t A p)).set o (.row r 100 0 0)):=by
 have hl:∀ p r,((s.set m (RO z t A p)).set o (.row r 100 0 0)).length=s.length:=fun p r=>by simp
 have hg:∀ (p:Nat) (r:List V),((s.set m (RO z t A p)).set o (.row r 100 0 0))[m]?=some (RO z t A p):=fun p r=>by
  grind
 have qr:∀ (p:Nat) (r:List V),((s.set m (RO z t A p)).set o (.row r 100 0 0))[o]?=some (.row r 100 0 0):=fun p r=>Cf (by grind)
 have hs:∀ p q r,((s.set m (RO z t A p)).set o (.row r 100 0 0)).set m (RO z t A q)=(s.set m (RO z t A q)).set o (.row r 100 0 0):=fun p q r=>by
  simp_all [List.set_comm,Ne.symm]
 have qy:∀ p r r',((s.set m (RO z t A p)).set o (.row r 100 0 0)).set o (.row r' 100 0 0)=(s.set m (RO z t A p)).set o (.row r' 100 0 0):=fun p r r'=>by simp_all
 refine⟨hm,ho,qc,fun _ _=>rfl,hl,fun p r l=>Bt (hg p r),fun p r=>hg p r,fun p q r l=>?_,fun p q r=>hs p q r,fun p r l=>Bt (qr p r),fun p r=>qr p r,fun p r r' l=>?_,fun p r r'=>qy p r r',fun p r a l=>?_,fun p r a b l=>?_,fun p r a x l=>?_,fun p r a b x l=>?_⟩
 .rw[Agv _ _ (by grind)];exact congrArg (·++l) (hs p q r)
 .grind
 .grind
 .grind
 .simp_all
 simp_all
def P8(f:Nat)(s:St)(m o:Nat)(z:Bool)(t:Nat)(A:List Tk)(R:V->Nat->List V->Prop):Prop:=∃ v p' r',Bw TT PT f [.ptr m 0 0,.ptr o 0 0] s v ((s.set m (RO z t A p')).set o (.row r' 100 0 0))/\p'<=A.length/\R v p' r'
def Asr{s:St}{m o:Nat}{x y:Ob}(h:s[m]?=some x)(h':s[o]?=some y):(s.set m x).set o y=s:=by grind[Og]
def S0{z:Bool}{t:Nat}{A:List Tk}{f m o q:Nat}{res:List AR}{thr:Bool}{body:AC}{s:St}{r0:List V}{R:V->Nat->List V->Prop}(hT:TT f=some ⟨2,res,thr,body,none⟩)(hs:s[m]?=some (RO z t A q))(ho:s[o]?=some (.row r0 100 0 0))(qc:m≠o)
  (h:∀ S,RdT s m o z t A S->W TT PT [.c body] (C7 0 [.ptr m 0 0,.ptr o 0 0]) (S q r0) (Hd fun e' σ1=>∃ v p' r' l,Ca e' σ1 res=some v/\(Cd v=true/\v.refs=[])/\σ1=S p' r'++l/\p'<=A.length/\r'.all V.rowB=true/\R v p' r')):P8 f s m o z t A R:=by
 have hm:=(An.1 hs).1;have qv:=(An.1 ho).1;have h:=h _ (Bcj z t A hm qv qc);rw[Asr hs ho]at h;obtain⟨e',σ1,hE,v,p',r',l,hr,⟨h1,h2⟩,rfl,h3,h5,h4⟩:=h;have qz:((s.set m (RO z t A p')).set o (.row r' 100 0 0)++l).take s.length=(s.set m (RO z t A p')).set o (.row r' 100 0 0):=by rw[Agt AE,Ky AE]
 refine⟨v,p',r',?_,h3,h4⟩
 have:=Ev.fn hT rfl rfl hE hr h1 (by rw[h2];rfl) (fun i ob hi qo=>by
  rw[Ex (by grind)]at qo;by_cases hb:o=i
  .subst hb;rw[Cf (by grind)]at qo;cases qo;exact .inr (by simp only[Ob.refs];rw[F0 h5];rfl)
  .rw[B4 hb]at qo;by_cases hb:m=i
   .subst hb;rw[Cf hm]at qo;cases qo;exact .inr (by rw[Ad3];rfl)
   grind)
 rw[qz]at this;exact⟨_,hT,rfl,this⟩
def Ww{S:Nat->List V->St}{A:List Tk}{R:V->Nat->List V->Prop}{e:Env}{res:List AR}{v:V}{p:Nat}{r:List V}{l:St}(hr:Ca e (S p r++l) res=some v)(hv:Cd v=true/\v.refs=[])(hp:p<=A.length)(hb:r.all V.rowB=true)(hR:R v p r):
  ∃ v p' r' l',Ca e (S p r++l) res=some v/\(Cd v=true/\v.refs=[])/\S p r++l=S p' r'++l'/\p'<=A.length/\r'.all V.rowB=true/\R v p' r':=⟨v,p,r,l,hr,hv,rfl,hp,hb,hR⟩
def Fp{S:Nat->List V->St}{A:List Tk}{R:V->Nat->List V->Prop}{e:Env}{res:List AR}{v:V}{p:Nat}{r:List V}(hr:Ca e (S p r) res=some v)(hv:Cd v=true/\v.refs=[])(hp:p<=A.length)(hb:r.all V.rowB=true)(hR:R v p r):
  ∃ v p' r' l',Ca e (S p r) res=some v/\(Cd v=true/\v.refs=[])/\S p r=S p' r'++l'/\p'<=A.length/\r'.all V.rowB=true/\R v p' r':=⟨v,p,r,[],hr,hv,(Bz _).symm,hp,hb,hR⟩
def Bmy{s:St}{m o:Nat}{z:Bool}{t:Nat}{A:List Tk}{S:Nat->List V->St}(hS:RdT s m o z t A S){f p:Nat}{r:List V}{av:List V}{l:St}{R:V->Nat->Prop}(h:(S p r++l)[m]?=some (RO z t A p)->RT f av (S p r++l) m z t A R):∃ v q,Bw TT PT f (.ptr m 0 0::av) (S p r++l) v (S q r++l)/\q<=A.length/\R v q:=by
 obtain⟨v,q,h1,h2,h3⟩:=h (hS.get p r l);rw[show(S p r++l).set m (RO z t A q)=S q r++l from hS.set p q r l]at h1
 grind
def Wx{s:St}{m o:Nat}{z:Bool}{t:Nat}{A:List Tk}{S:Nat->List V->St}(hS:RdT s m o z t A S){f p:Nat}{r:List V}{av:List V}{R:V->Nat->Prop}(h:(S p r)[m]?=some (RO z t A p)->RT f av (S p r) m z t A R):∃ v q,Bw TT PT f (.ptr m 0 0::av) (S p r) v (S q r)/\q<=A.length/\R v q:=by
 obtain⟨v,q,h1,h2,h3⟩:=h (hS.get0 p r);rw[show(S p r).set m (RO z t A q)=S q r from hS.set0 p q r]at h1
 grind
def Uq{s:St}{m o:Nat}{z:Bool}{t:Nat}{A:List Tk}{S:Nat->List V->St}(hS:RdT s m o z t A S){p:Nat}{r:List V}(hA:A.length<=1000000){w:List UInt8}(h:A0 w (A.drop p)=true):Bw TT PT 106 [.ptr m 0 0,.str w] (S p r) (.bool true) (S (p+1) r):=by
 have:=Sy (hS.get0 p r) hA h;rw[show(S p r).set m (RO z t A (p+1))=S (p+1) r from hS.set0 p (p+1) r]at this;exact this
def Ur{s:St}{m o:Nat}{z:Bool}{t:Nat}{A:List Tk}{S:Nat->List V->St}(hS:RdT s m o z t A S){p:Nat}{r:List V}(hA:A.length<=1000000)(hp:p<=A.length){w:List UInt8}(h:A0 w (A.drop p)=false):Bw TT PT 106 [.ptr m 0 0,.str w] (S p r) (.bool false) (S p r):=Sz (hS.get0 p r) hA hp h
def Al5{s:St}{m o:Nat}{z:Bool}{t:Nat}{A:List Tk}{S:Nat->List V->St}(hS:RdT s m o z t A S){p:Nat}{r:List V}(l:St)(hA:A.length<=1000000){w:List UInt8}(h:A0 w (A.drop p)=true):Bw TT PT 106 [.ptr m 0 0,.str w] (S p r++l) (.bool true) (S (p+1) r++l):=by
 have:=Sy (hS.get p r l) hA h;rw[show(S p r++l).set m (RO z t A (p+1))=S (p+1) r++l from hS.set p (p+1) r l]at this;exact this
def Al6{s:St}{m o:Nat}{z:Bool}{t:Nat}{A:List Tk}{S:Nat->List V->St}(hS:RdT s m o z t A S){p:Nat}{r:List V}(l:St)(hA:A.length<=1000000)(hp:p<=A.length){w:List UInt8}(h:A0 w (A.drop p)=false):Bw TT PT 106 [.ptr m 0 0,.str w] (S p r++l) (.bool false) (S p r++l):=Sz (hS.get p r l) hA hp h
def Wy{s:St}{m o:Nat}{z:Bool}{t:Nat}{A:List Tk}{S:Nat->List V->St}(hS:RdT s m o z t A S){p:Nat}{r:List V}(hA:A.length<=1000000)(hp:p<=A.length){w:List UInt8}{q:List Tk}(h:Dg (A.drop p)=some (w,q)):Bw TT PT 103 [.ptr m 0 0] (S p r) (.tup [.str w,.bool true]) (S (p+1) r)/\p<A.length/\A.drop (p+1)=q:=by
 obtain⟨h1,h2⟩:=(W8 (hS.get0 p r) hA hp).1 w q h;rw[show(S p r).set m (RO z t A (p+1))=S (p+1) r from hS.set0 p (p+1) r]at h1
 grind
def Wz{s:St}{m o:Nat}{z:Bool}{t:Nat}{A:List Tk}{S:Nat->List V->St}(hS:RdT s m o z t A S){p:Nat}{r:List V}(hA:A.length<=1000000)(hp:p<=A.length)(h:Dg (A.drop p)=none):Bw TT PT 103 [.ptr m 0 0] (S p r) (.tup [.str [],.bool false]) (S p r):=(W8 (hS.get0 p r) hA hp).2 h
/-! what is given back -/
def PRb(A:List Tk)(o:Option (List Sp × List Tk))(v:V)(p':Nat):Prop:=match o with
 | some (l,r)=>v=.tup [SL true 0 (l.map Sp.row),.bool true]/\A.drop p'=r
 | none=>v=.tup [.nils,.bool false]
def Vf(n:Nat):Prop:=∀ (s:St) (m:Nat) (z:Bool) (t:Nat) (A:List Tk) (p:Nat),OkA A->D9 A->s[m]?=some (RO z t A p)->p<=A.length->10*(A.length - p)+2<=n->RT 107 [] s m z t A (PRb A (Fz n (A.drop p)))
def Hm(l:List Sp):(SL true 0 (l.map Sp.row)).rowB=true:=by
 unfold SL
 split
 .rfl
 .rfl
def Aic{n:Nat}(hB:Vf n){s:St}{m o:Nat}{z:Bool}{t:Nat}{A:List Tk}{p:Nat}{c0 c1 c2 c3 c4 c5 c6 c7 c8 c9 c10:V}(hA:OkA A)(hT:D9 A)(hs:s[m]?=some (RO z t A p))(ho:s[o]?=some (.row [c0,c1,c2,c3,c4,c5,c6,c7,c8,c9,c10] 100 0 0))(qc:m≠o)(hp:p<=A.length)(hb:[c0,c1,c2,c3,c4,c5,c6,c7,c8,c9,c10].all V.rowB=true)(hf:10*(A.length - p)+2<=n):
  P8 205 s m o z t A (fun v q r=>match Fz n (A.drop p) with
   | some (l,ts)=>v=.bool true/\r=[c0,c1,c2,c3,c4,c5,c6,c7,c8,SL true 0 (l.map Sp.row),c10]/\A.drop q=ts
   | none=>v=.bool false/\r=[c0,c1,c2,c3,c4,c5,c6,c7,c8,.nils,c10]):=by
 refine S0 T205 hs ho qc fun S hS=>?_
 obtain⟨v,q,h1,h2,h3⟩:=Wx hS (r:=[c0,c1,c2,c3,c4,c5,c6,c7,c8,c9,c10]) fun hs=>hB _ m z t A p hA hT hs hp hf
 have Zq:=Fd hS;obtain⟨-,-,-,-,qa,get,get0,set,set0,go,go0,so,so0,n0,n1,u0,u1⟩:=hS;simp only[B5,Dc,Al]at hb;unfold PRb at h3;simp only[go_sem,Zq,LZ]
 split at h3
 .rename_i l ts hl;obtain⟨rfl,h3⟩:=h3;refine Aa h1 ?_;simp only[go_sem,Zq,LZ];exact Fp rfl ⟨rfl,rfl⟩ h2 (by simp_all [Hm]) ⟨rfl,rfl,h3⟩
 .rename_i hl;subst h3;refine Aa h1 ?_;simp only[go_sem,Zq,LZ];exact Fp rfl ⟨rfl,rfl⟩ h2 (by simp only[B5,Dc,Al,(show V.rowB V.nils=true from rfl)];grind) ⟨rfl,rfl⟩
def I0(x:Xp):(SL x.z x.t (x.l.map Xp.row)).rowB=true:=by
 unfold SL
 split
 .rfl
 .rfl
def Q4(r:List V):Prop:=∃ c0 c1 c2 c3 c4 c5 c6 c7 c8 c9 c10:V,r=[c0,c1,c2,c3,c4,c5,c6,c7,c8,c9,c10]/\r.all V.rowB=true
/-! the statements' own parts -/
def Ni(n:Nat)(ts:List Tk):Option ((Xp × List Sp) × List Tk):=match pe n 1 ts with
 | none=>none
 | some (x,ts)=>match Fz n ts with
  | none=>none
  | some (b,ts)=>some ((x,b),ts)
def Aau(n:Nat)(ts:List Tk):Option ((Xp × List Sp × List Sp) × List Tk):=match Ni n ts with
 | none=>none
 | some ((x,b),ts)=>if A0 [101,108,115,101] ts=true then(match Fz n ts.tail with
   | none=>none
   | some (e,ts)=>some ((x,b,e),ts))
  else some ((x,b,[]),ts)
def qNB(n:Nat)(ts:List Tk):Option ((List UInt8 × List Sp) × List Tk):=match Dg ts with
 | none=>none
 | some (nm,ts)=>match Fz n ts with
  | none=>none
  | some (b,ts)=>some ((nm,b),ts)
def qNm(ts:List Tk):Option (List UInt8 × List Tk):=match Dg ts with
 | none=>none
 | some (nm,ts)=>(Ea [59] ts).map fun ts=>(nm,ts)
def Aa4(n:Nat)(ts:List Tk):Option ((List UInt8 × Xp) × List Tk):=match Dg ts with
 | none=>none
 | some (nm,ts)=>match pe n 1 ts with
  | none=>none
  | some (x,ts)=>(Ea [59] ts).map fun ts=>((nm,x),ts)
def Aa5(ts:List Tk):Option ((List UInt8 × List UInt8) × List Tk):=match Dg ts with
 | none=>none
 | some (nm,ts)=>match Dg ts with
  | none=>none
  | some (ar,ts)=>(Ea [59] ts).map fun ts=>((nm,ar),ts)
def Aoy{n:Nat}(hB:Vf n){s:St}{m o:Nat}{z:Bool}{t:Nat}{A:List Tk}{p:Nat}{op ln:Int}(hA:OkA A)(hT:D9 A)(hs:s[m]?=some (RO z t A p))(ho:s[o]?=some (sP op ln [] []))(qc:m≠o)(hp:p<=A.length)(hf:10*(A.length - p)+9<=n):
  P8 203 s m o z t A (fun v q r=>match Ni n (A.drop p) with
   | some ((x,b),ts)=>v=.bool true/\r=[.int .i64 op,.int .i64 ln,.str [],.str [],.nils,.int .i64 x.op,.int .i64 x.n,.str x.nm,SL x.z x.t (x.l.map Xp.row),SL true 0 (b.map Sp.row),.nils]/\A.drop q=ts
   | none=>v=.bool false/\Q4 r):=by
 refine S0 T203 hs ho qc fun S hS=>?_
 have hl:A.length<=1000000:=by have:=hA.len;omega
 have qb:=hS;have hm:=hS.low;have qn:=hS.lowo;obtain⟨v,q,h1,h2,h3⟩:=Wx hS (r:=(sZ op ln [] [])) fun hs=>Tu (Yi n).1 hA hs hp AA
 unfold PR at h3
 have qx:∀ x ts,pe n 1 (A.drop p)=some (x,ts)->Ni n (A.drop p)=match Fz n ts with
   | none=>none
   | some (b,ts)=>some ((x,b),ts):=fun x ts h=>by grind[Ni]
 have qw:pe n 1 (A.drop p)=none->Ni n (A.drop p)=none:=fun h=>by grind[Ni]
 have qd:=fun x ts (h:pe n 1 (A.drop p)=some (x,ts))=>(W9 n).1 _ _ _ _ h
 rw[Gi]at qd
 cases hx:pe n 1 (A.drop p) with
 | none=>
  rw[hx]at h3;subst h3;rw[qw hx];have Zq:=Fd hS;obtain⟨-,-,-,-,qa,get,get0,set,set0,go,go0,so,so0,n0,n1,u0,u1⟩:=hS;simp only[go_sem,Zq,LZ];refine Aa h1 ?_;simp only[go_sem,Zq,LZ];exact Fp rfl ⟨rfl,rfl⟩ h2 AN ⟨rfl,_,_,_,_,_,_,_,_,_,_,_,rfl,by simp[V.rowB]⟩
 | some xr=>
  obtain⟨x,ts⟩:=xr;rw[hx]at h3;obtain⟨rfl,h3⟩:=h3;have qj:=Dy x;have hr:=Bi x;rw[hr]at h1 qj;rw[qx x ts hx,<-h3];have qd:=qd x ts hx;have qE:ts.length=A.length - q:=by rw[<-h3,Gi]
  obtain⟨v2,q2,r2,k1,k2,k3⟩:=Aic (c0:=iV op) (c1:=iV ln) (c2:=.str []) (c3:=.str []) (c4:=.nils) (c5:=iV x.op) (c6:=iV x.n) (c7:=.str x.nm) (c8:=SL x.z x.t (x.l.map Xp.row)) (c9:=.nils) (c10:=.nils) hB hA hT (qb.get0 q _) (qb.go0 q _) qc h2 (by simp only[B5,Dc,Al,Hm,I0];grind[V.rowB]) AA;rw[show((S q [iV op,iV ln,.str [],.str [],.nils,iV x.op,iV x.n,.str x.nm,SL x.z x.t (x.l.map Xp.row),.nils,.nils]).set m (RO z t A q2)).set o (.row r2 100 0 0)=S q2 r2 from by rw[show(S q _).set m (RO z t A q2)=S q2 _ from qb.set0 q q2 _,qb.so0]]at k1;have Zq:=Fd hS;obtain⟨-,-,-,-,qa,get,get0,set,set0,go,go0,so,so0,n0,n1,u0,u1⟩:=hS;simp only[go_sem,Zq,LZ];refine Aa h1 ?_;simp only[go_sem,Zq,LZ];refine Aa k1 ?_
  cases hb:Fz n (A.drop q) with
  | none=>
   rw[hb]at k3;obtain⟨rfl,rfl⟩:=k3;simp only[go_sem,Zq,LZ];exact Fp rfl ⟨rfl,rfl⟩ k2 (by simp only[B5,Dc,Al,Hm,I0];grind[V.rowB]) ⟨rfl,_,_,_,_,_,_,_,_,_,_,_,rfl,by simp only[B5,Dc,Al,Hm,I0];grind[V.rowB]⟩
  | some bl=>
   obtain⟨b,tl⟩:=bl;rw[hb]at k3;obtain⟨rfl,rfl,k3⟩:=k3;simp only[go_sem,Zq,LZ];exact Fp rfl ⟨rfl,rfl⟩ k2 (by simp only[B5,Dc,Al,Hm,I0];grind[V.rowB]) ⟨rfl,rfl,k3⟩
def A14{n:Nat}(hB:Vf n){s:St}{m o:Nat}{z:Bool}{t:Nat}{A:List Tk}{p:Nat}{op ln:Int}(hA:OkA A)(hT:D9 A)(hs:s[m]?=some (RO z t A p))(ho:s[o]?=some (sP op ln [] []))(qc:m≠o)(hp:p<=A.length)(hf:10*(A.length - p)+9<=n):
  P8 202 s m o z t A (fun v q r=>match Aau n (A.drop p) with
   | some ((x,b,e),ts)=>v=.bool true/\r=[.int .i64 op,.int .i64 ln,.str [],.str [],.nils,.int .i64 x.op,.int .i64 x.n,.str x.nm,SL x.z x.t (x.l.map Xp.row),SL true 0 (b.map Sp.row),SL true 0 (e.map Sp.row)]/\A.drop q=ts
   | none=>v=.bool false/\Q4 r):=by
 refine S0 T202 hs ho qc fun S hS=>?_
 have hl:A.length<=1000000:=by have:=hA.len;omega
 have qb:=hS;have hm:=hS.low;have qn:=hS.lowo;obtain⟨v1,q,r1,h1,h2,h3⟩:=Aoy hB hA hT (qb.get0 p _) (qb.go0 p (sZ op ln [] [])) qc hp hf;rw[show((S p (sZ op ln [] [])).set m (RO z t A q)).set o (.row r1 100 0 0)=S q r1 from by rw[show(S p _).set m (RO z t A q)=S q _ from qb.set0 p q _,qb.so0]]at h1;have qd:=fun x ts (h:pe n 1 (A.drop p)=some (x,ts))=>(W9 n).1 _ _ _ _ h
 rw[Gi]at qd;unfold Aau
 cases hq:Ni n (A.drop p) with
 | none=>
  rw[hq]at h3;obtain⟨rfl,qp⟩:=h3;have Zq:=Fd hS;obtain⟨-,-,-,-,qa,get,get0,set,set0,go,go0,so,so0,n0,n1,u0,u1⟩:=hS;simp only[go_sem,Zq,LZ];refine Aa h1 ?_;simp only[go_sem,Zq,LZ];exact Fp rfl ⟨rfl,rfl⟩ h2 (by obtain⟨_,_,_,_,_,_,_,_,_,_,_,-,hb⟩:=qp;exact hb) ⟨rfl,qp⟩
 | some xb=>
  obtain⟨⟨x,b⟩,ts⟩:=xb;rw[hq]at h3;obtain⟨rfl,rfl,h3⟩:=h3;simp only;rw[<-h3]
  have qF:A.length - q<A.length - p:=by
   unfold Ni at hq
   split at hq
   .cases hq
   .rename_i y t1 hy;have:=qd _ _ hy
    split at hq
    .cases hq
    .rename_i b' t2 qu;cases hq
     have h4:=((Adg (M:=0) (C:=100) AA n).2.1 _ _ _ (Dq hT (by
      have:=((Wb (C:=25) (Am _) n).1 _ _ _ _ (Dq hT (Abv p A)) hy).2.1
      grind[List.drop_suffix])) qu).2.2.1
     grind
  by_cases he:A0 [101,108,115,101] (A.drop q)=true
  .rw[if_pos he,<-Eo];have ha:=Uq qb (r:=[iV op,iV ln,.str [],.str [],.nils,iV x.op,iV x.n,.str x.nm,SL x.z x.t (x.l.map Xp.row),SL true 0 (b.map Sp.row),.nils]) hl he;have qg:=Ek he;obtain⟨v2,q2,k1,k2,k3⟩:=Wx qb (p:=q+1) (r:=[iV op,iV ln,.str [],.str [],.nils,iV x.op,iV x.n,.str x.nm,SL x.z x.t (x.l.map Xp.row),SL true 0 (b.map Sp.row),.nils]) fun hs=>hB _ m z t A (q+1) hA hT hs AA AA
   unfold PRb at k3;have Zq:=Fd hS;obtain⟨-,-,-,-,qa,get,get0,set,set0,go,go0,so,so0,n0,n1,u0,u1⟩:=hS;simp only[go_sem,Zq,LZ];refine Aa h1 ?_;simp only[go_sem,Zq,LZ];refine Aa ha ?_;simp only[go_sem,Zq,LZ]
   cases hb:Fz n (A.drop (q+1)) with
   | none=>
    rw[hb]at k3;subst k3;refine Aa k1 ?_;simp only[go_sem,Zq,LZ];exact Fp rfl ⟨rfl,rfl⟩ k2 (by simp only[B5,Dc,Al,Hm,I0];grind[V.rowB]) ⟨rfl,_,_,_,_,_,_,_,_,_,_,_,rfl,by simp only[B5,Dc,Al,Hm,I0];grind[V.rowB]⟩
   | some el=>
    obtain⟨e,tl⟩:=el;rw[hb]at k3;obtain⟨rfl,k3⟩:=k3;refine Aa k1 ?_;simp only[go_sem,Zq,LZ];exact Fp rfl ⟨rfl,rfl⟩ k2 (by simp only[B5,Dc,Al,Hm,I0];grind[V.rowB]) ⟨rfl,rfl,k3⟩
  .have he:A0 [101,108,115,101] (A.drop q)=false:=by simpa using he
   rw[if_neg AA];have ha:=Ur qb (r:=[iV op,iV ln,.str [],.str [],.nils,iV x.op,iV x.n,.str x.nm,SL x.z x.t (x.l.map Xp.row),SL true 0 (b.map Sp.row),.nils]) hl h2 he;have Zq:=Fd hS;obtain⟨-,-,-,-,qa,get,get0,set,set0,go,go0,so,so0,n0,n1,u0,u1⟩:=hS;simp only[go_sem,Zq,LZ];refine Aa h1 ?_;simp only[go_sem,Zq,LZ];refine Aa ha ?_;simp only[go_sem,Zq,LZ];exact Fp rfl ⟨rfl,rfl⟩ h2 (by simp only[B5,Dc,Al,Hm,I0];grind[V.rowB]) ⟨rfl,rfl,rfl⟩
def A7y{n:Nat}(hB:Vf n){s:St}{m o:Nat}{z:Bool}{t:Nat}{A:List Tk}{p:Nat}{op ln:Int}(hA:OkA A)(hT:D9 A)(hs:s[m]?=some (RO z t A p))(ho:s[o]?=some (sP op ln [] []))(qc:m≠o)(hp:p<=A.length)(hf:10*(A.length - p)+9<=n):
  P8 204 s m o z t A (fun v q r=>match qNB n (A.drop p) with
   | some ((nm,b),ts)=>v=.bool true/\r=[.int .i64 op,.int .i64 ln,.str nm,.str [],.nils,.int .i64 0,.int .i64 0,.str [],.nils,SL true 0 (b.map Sp.row),.nils]/\A.drop q=ts
   | none=>v=.bool false/\Q4 r):=by
 refine S0 T204 hs ho qc fun S hS=>?_
 have hl:A.length<=1000000:=by have:=hA.len;omega
 have qb:=hS;have hm:=hS.low;have qn:=hS.lowo;unfold qNB
 cases hn:Dg (A.drop p) with
 | none=>
  have h1:=Wz qb (r:=(sZ op ln [] [])) hl hp hn;have Zq:=Fd hS;obtain⟨-,-,-,-,qa,get,get0,set,set0,go,go0,so,so0,n0,n1,u0,u1⟩:=hS;simp only[go_sem,Zq,LZ];refine Aa h1 ?_;simp only[go_sem,Zq,LZ];exact Fp rfl ⟨rfl,rfl⟩ hp AN ⟨rfl,_,_,_,_,_,_,_,_,_,_,_,rfl,by simp[V.rowB]⟩
 | some nt=>
  obtain⟨nm,ts⟩:=nt;obtain⟨h1,qd,h3⟩:=Wy qb (r:=(sZ op ln [] [])) hl hp hn;simp only;rw[<-h3];obtain⟨v2,q2,r2,k1,k2,k3⟩:=Aic (c0:=iV op) (c1:=iV ln) (c2:=.str nm) (c3:=.str []) (c4:=.nils) (c5:=iV 0) (c6:=iV 0) (c7:=.str []) (c8:=.nils) (c9:=.nils) (c10:=.nils) hB hA hT (qb.get0 (p+1) _) (qb.go0 (p+1) _) qc (Is qd) AN AA;rw[show((S (p+1) (sZ op ln nm [])).set m (RO z t A q2)).set o (.row r2 100 0 0)=S q2 r2 from by rw[show(S (p+1) _).set m (RO z t A q2)=S q2 _ from qb.set0 (p+1) q2 _,qb.so0]]at k1;have Zq:=Fd hS;obtain⟨-,-,-,-,qa,get,get0,set,set0,go,go0,so,so0,n0,n1,u0,u1⟩:=hS;simp only[go_sem,Zq,LZ];refine Aa h1 ?_;simp only[go_sem,Zq,LZ];refine Aa k1 ?_
  cases hb:Fz n (A.drop (p+1)) with
  | none=>
   rw[hb]at k3;obtain⟨rfl,rfl⟩:=k3;simp only[go_sem,Zq,LZ];exact Fp rfl ⟨rfl,rfl⟩ k2 AN ⟨rfl,_,_,_,_,_,_,_,_,_,_,_,rfl,by simp[V.rowB]⟩
  | some bl=>
   obtain⟨b,tl⟩:=bl;rw[hb]at k3;obtain⟨rfl,rfl,k3⟩:=k3;simp only[go_sem,Zq,LZ];exact Fp rfl ⟨rfl,rfl⟩ k2 (by simp only[B5,Dc,Al,Hm,I0];grind[V.rowB]) ⟨rfl,rfl,k3⟩
def A0z{n:Nat}{s:St}{m o:Nat}{z:Bool}{t:Nat}{A:List Tk}{p:Nat}{op ln:Int}(hA:OkA A)(hT:D9 A)(hs:s[m]?=some (RO z t A p))(ho:s[o]?=some (sP op ln [] []))(qc:m≠o)(hp:p<=A.length)(hf:10*(A.length - p)+9<=n):
  P8 206 s m o z t A (fun v q r=>match qNm (A.drop p) with
   | some (nm,ts)=>v=.bool true/\r=(sZ op ln nm [])/\A.drop q=ts
   | none=>v=.bool false/\Q4 r):=by
 refine S0 T206 hs ho qc fun S hS=>?_
 have hl:A.length<=1000000:=by have:=hA.len;omega
 have qb:=hS;have hm:=hS.low;have qn:=hS.lowo;unfold qNm
 cases hn:Dg (A.drop p) with
 | none=>
  have h1:=Wz qb (r:=(sZ op ln [] [])) hl hp hn;have Zq:=Fd hS;obtain⟨-,-,-,-,qa,get,get0,set,set0,go,go0,so,so0,n0,n1,u0,u1⟩:=hS;simp only[go_sem,Zq,LZ];refine Aa h1 ?_;simp only[go_sem,Zq,LZ];exact Fp rfl ⟨rfl,rfl⟩ hp AN ⟨rfl,_,_,_,_,_,_,_,_,_,_,_,rfl,by simp[V.rowB]⟩
 | some nt=>
  obtain⟨nm,ts⟩:=nt;obtain⟨h1,qd,h3⟩:=Wy qb (r:=(sZ op ln [] [])) hl hp hn;simp only;rw[<-h3];unfold Ea;by_cases he:A0 [59] (A.drop (p+1))=true
  .rw[if_pos he,<-Eo];have ha:=Uq qb (r:=(sZ op ln nm [])) hl he;have qh:=Ek he;have Zq:=Fd hS;obtain⟨-,-,-,-,qa,get,get0,set,set0,go,go0,so,so0,n0,n1,u0,u1⟩:=hS;simp only[go_sem,Zq,LZ];refine Aa h1 ?_;simp only[go_sem,Zq,LZ];refine Aa ha ?_;simp only[go_sem,Zq,LZ];exact Fp rfl ⟨rfl,rfl⟩ AA AN ⟨rfl,rfl,rfl⟩
  .have he:A0 [59] (A.drop (p+1))=false:=by simpa using he
   rw[if_neg AA];have ha:=Ur qb (r:=(sZ op ln nm [])) hl (Is qd) he;have Zq:=Fd hS;obtain⟨-,-,-,-,qa,get,get0,set,set0,go,go0,so,so0,n0,n1,u0,u1⟩:=hS;simp only[go_sem,Zq,LZ];refine Aa h1 ?_;simp only[go_sem,Zq,LZ];refine Aa ha ?_;simp only[go_sem,Zq,LZ];exact Fp rfl ⟨rfl,rfl⟩ (Is qd) AN ⟨rfl,_,_,_,_,_,_,_,_,_,_,_,rfl,by simp[V.rowB]⟩
def A37{n:Nat}{s:St}{m o:Nat}{z:Bool}{t:Nat}{A:List Tk}{p:Nat}{op ln:Int}(hA:OkA A)(hT:D9 A)(hs:s[m]?=some (RO z t A p))(ho:s[o]?=some (sP op ln [] []))(qc:m≠o)(hp:p<=A.length)(hf:10*(A.length - p)+9<=n):
  P8 208 s m o z t A (fun v q r=>match Aa5 (A.drop p) with
   | some ((nm,ar),ts)=>v=.bool true/\r=(sZ op ln nm ar)/\A.drop q=ts
   | none=>v=.bool false/\Q4 r):=by
 refine S0 T208 hs ho qc fun S hS=>?_
 have hl:A.length<=1000000:=by have:=hA.len;omega
 have qb:=hS;have hm:=hS.low;have qn:=hS.lowo;unfold Aa5
 cases hn:Dg (A.drop p) with
 | none=>
  have h1:=Wz qb (r:=(sZ op ln [] [])) hl hp hn;have Zq:=Fd hS;obtain⟨-,-,-,-,qa,get,get0,set,set0,go,go0,so,so0,n0,n1,u0,u1⟩:=hS;simp only[go_sem,Zq,LZ];refine Aa h1 ?_;simp only[go_sem,Zq,LZ];exact Fp rfl ⟨rfl,rfl⟩ hp AN ⟨rfl,_,_,_,_,_,_,_,_,_,_,_,rfl,by simp[V.rowB]⟩
 | some nt=>
  obtain⟨nm,ts⟩:=nt;obtain⟨h1,qd,h3⟩:=Wy qb (r:=(sZ op ln [] [])) hl hp hn;simp only;rw[<-h3]
  cases hn2:Dg (A.drop (p+1)) with
  | none=>
   have k1:=Wz qb (r:=(sZ op ln nm [])) hl (Is qd) hn2;have Zq:=Fd hS;obtain⟨-,-,-,-,qa,get,get0,set,set0,go,go0,so,so0,n0,n1,u0,u1⟩:=hS;simp only[go_sem,Zq,LZ];refine Aa h1 ?_;simp only[go_sem,Zq,LZ];refine Aa k1 ?_;simp only[go_sem,Zq,LZ];exact Fp rfl ⟨rfl,rfl⟩ (Is qd) AN ⟨rfl,_,_,_,_,_,_,_,_,_,_,_,rfl,by simp[V.rowB]⟩
  | some nt2=>
   obtain⟨ar,qB⟩:=nt2;obtain⟨k1,qg,k3⟩:=Wy qb (r:=(sZ op ln nm [])) hl (Is qd) hn2;simp only;rw[<-k3];unfold Ea;by_cases he:A0 [59] (A.drop (p+1+1))=true
   .rw[if_pos he,<-Eo];have ha:=Uq qb (r:=(sZ op ln nm ar)) hl he;have qh:=Ek he;have Zq:=Fd hS;obtain⟨-,-,-,-,qa,get,get0,set,set0,go,go0,so,so0,n0,n1,u0,u1⟩:=hS;simp only[go_sem,Zq,LZ];refine Aa h1 ?_;simp only[go_sem,Zq,LZ];refine Aa k1 ?_;simp only[go_sem,Zq,LZ];refine Aa ha ?_;simp only[go_sem,Zq,LZ];exact Fp rfl ⟨rfl,rfl⟩ AA AN ⟨rfl,rfl,rfl⟩
   .have he:A0 [59] (A.drop (p+1+1))=false:=by simpa using he
    rw[if_neg AA];have ha:=Ur qb (r:=(sZ op ln nm ar)) hl (Is qg) he;have Zq:=Fd hS;obtain⟨-,-,-,-,qa,get,get0,set,set0,go,go0,so,so0,n0,n1,u0,u1⟩:=hS;simp only[go_sem,Zq,LZ];refine Aa h1 ?_;simp only[go_sem,Zq,LZ];refine Aa k1 ?_;simp only[go_sem,Zq,LZ];refine Aa ha ?_;simp only[go_sem,Zq,LZ];exact Fp rfl ⟨rfl,rfl⟩ (Is qg) AN ⟨rfl,_,_,_,_,_,_,_,_,_,_,_,rfl,by simp[V.rowB]⟩
def A38{n:Nat}{s:St}{m o:Nat}{z:Bool}{t:Nat}{A:List Tk}{p:Nat}{op ln:Int}(hA:OkA A)(hT:D9 A)(hs:s[m]?=some (RO z t A p))(ho:s[o]?=some (sP op ln [] []))(qc:m≠o)(hp:p<=A.length)(hf:10*(A.length - p)+9<=n):
  P8 207 s m o z t A (fun v q r=>match Aa4 n (A.drop p) with
   | some ((nm,x),ts)=>v=.bool true/\r=[.int .i64 op,.int .i64 ln,.str nm,.str [],.nils,.int .i64 x.op,.int .i64 x.n,.str x.nm,SL x.z x.t (x.l.map Xp.row),.nils,.nils]/\A.drop q=ts
   | none=>v=.bool false/\Q4 r):=by
 refine S0 T207 hs ho qc fun S hS=>?_
 have hl:A.length<=1000000:=by have:=hA.len;omega
 have qb:=hS;have hm:=hS.low;have qn:=hS.lowo;unfold Aa4
 cases hn:Dg (A.drop p) with
 | none=>
  have h1:=Wz qb (r:=(sZ op ln [] [])) hl hp hn;have Zq:=Fd hS;obtain⟨-,-,-,-,qa,get,get0,set,set0,go,go0,so,so0,n0,n1,u0,u1⟩:=hS;simp only[go_sem,Zq,LZ];refine Aa h1 ?_;simp only[go_sem,Zq,LZ];exact Fp rfl ⟨rfl,rfl⟩ hp AN ⟨rfl,_,_,_,_,_,_,_,_,_,_,_,rfl,by simp[V.rowB]⟩
 | some nt=>
  obtain⟨nm,ts⟩:=nt;obtain⟨h1,qd,h3⟩:=Wy qb (r:=(sZ op ln [] [])) hl hp hn;simp only;rw[<-h3];obtain⟨v,q,k1,k2,k3⟩:=Wx qb (p:=p+1) (r:=(sZ op ln nm [])) fun hs=>Tu (Yi n).1 hA hs (Is qd) AA
  unfold PR at k3
  cases hx:pe n 1 (A.drop (p+1)) with
  | none=>
   rw[hx]at k3;subst k3;have Zq:=Fd hS;obtain⟨-,-,-,-,qa,get,get0,set,set0,go,go0,so,so0,n0,n1,u0,u1⟩:=hS;simp only[go_sem,Zq,LZ];refine Aa h1 ?_;simp only[go_sem,Zq,LZ];refine Aa k1 ?_;simp only[go_sem,Zq,LZ];exact Fp rfl ⟨rfl,rfl⟩ k2 AN ⟨rfl,_,_,_,_,_,_,_,_,_,_,_,rfl,by simp[V.rowB]⟩
  | some xr=>
   obtain⟨x,qB⟩:=xr;rw[hx]at k3;obtain⟨rfl,k3⟩:=k3;have qj:=Dy x;have hr:=Bi x;rw[hr]at k1 qj;simp only;rw[<-k3];unfold Ea;by_cases he:A0 [59] (A.drop q)=true
   .rw[if_pos he,<-Eo];have ha:=Uq qb (r:=[iV op,iV ln,.str nm,.str [],.nils,iV x.op,iV x.n,.str x.nm,SL x.z x.t (x.l.map Xp.row),.nils,.nils]) hl he;have qh:=Ek he;have Zq:=Fd hS;obtain⟨-,-,-,-,qa,get,get0,set,set0,go,go0,so,so0,n0,n1,u0,u1⟩:=hS;simp only[go_sem,Zq,LZ];refine Aa h1 ?_;simp only[go_sem,Zq,LZ];refine Aa k1 ?_;simp only[go_sem,Zq,LZ];refine Aa ha ?_;simp only[go_sem,Zq,LZ];exact Fp rfl ⟨rfl,rfl⟩ AA (by simp only[B5,Dc,Al,Hm,I0];grind[V.rowB]) ⟨rfl,rfl,rfl⟩
   .have he:A0 [59] (A.drop q)=false:=by simpa using he
    rw[if_neg AA];have ha:=Ur qb (r:=[iV op,iV ln,.str nm,.str [],.nils,iV x.op,iV x.n,.str x.nm,SL x.z x.t (x.l.map Xp.row),.nils,.nils]) hl k2 he;have Zq:=Fd hS;obtain⟨-,-,-,-,qa,get,get0,set,set0,go,go0,so,so0,n0,n1,u0,u1⟩:=hS;simp only[go_sem,Zq,LZ];refine Aa h1 ?_;simp only[go_sem,Zq,LZ];refine Aa k1 ?_;simp only[go_sem,Zq,LZ];refine Aa ha ?_;simp only[go_sem,Zq,LZ];exact Fp rfl ⟨rfl,rfl⟩ k2 (by simp only[B5,Dc,Al,Hm,I0];grind[V.rowB]) ⟨rfl,_,_,_,_,_,_,_,_,_,_,_,rfl,by simp only[B5,Dc,Al,Hm,I0];grind[V.rowB]⟩
def A0j{n:Nat}{s:St}{m o:Nat}{z:Bool}{t:Nat}{A:List Tk}{p:Nat}{ln:Int}(hA:OkA A)(hT:D9 A)(hs:s[m]?=some (RO z t A p))(ho:s[o]?=some (sP 1 ln [] []))(qc:m≠o)(hp:p<=A.length)(hf:10*(A.length - p)+9<=n):
  P8 178 s m o z t A (fun v q r=>match U8 n ln (A.drop p) with
   | some (x,ts)=>v=.bool true/\r=x.row/\A.drop q=ts
   | none=>v=.bool false/\Q4 r):=by
 refine S0 T178 hs ho qc fun S hS=>?_
 have hl:A.length<=1000000:=by have:=hA.len;omega
 have qb:=hS;have hm:=hS.low;have qn:=hS.lowo;unfold U8
 cases hn:Dg (A.drop p) with
 | none=>
  have h1:=Wz qb (r:=(sZ 1 ln [] [])) hl hp hn;have Zq:=Fd hS;obtain⟨-,-,-,-,qa,get,get0,set,set0,go,go0,so,so0,n0,n1,u0,u1⟩:=hS;simp only[go_sem,Zq,LZ];refine Aa h1 ?_;simp only[go_sem,Zq,LZ];exact Fp rfl ⟨rfl,rfl⟩ hp AN ⟨rfl,_,_,_,_,_,_,_,_,_,_,_,rfl,by simp[V.rowB]⟩
 | some nt=>
  obtain⟨nm,ts⟩:=nt;obtain⟨h1,qd,h3⟩:=Wy qb (r:=(sZ 1 ln [] [])) hl hp hn;simp only;rw[<-h3];unfold Amy Ea;by_cases qk:A0 [91] (A.drop (p+1))=true
  .rw[if_pos qk,<-Eo];have hb:=Uq qb (r:=(sZ 1 ln nm [])) hl qk;have qg:=Ek qk;obtain⟨v0,q0,j1,j2,j3⟩:=Wx qb (p:=p+1+1) (r:=(sZ 1 ln nm [])) fun hs=>Tu (Yi n).1 hA hs AA AA
   unfold PR at j3;have qi:=fun x ts (h:pe n 1 (A.drop (p+1+1))=some (x,ts))=>(W9 n).1 _ _ _ _ h
   rw[Gi]at qi
   cases hy:pe n 1 (A.drop (p+1+1)) with
   | none=>
    rw[hy]at j3;subst j3;simp only;have Zq:=Fd hS;obtain⟨-,-,-,-,qa,get,get0,set,set0,go,go0,so,so0,n0,n1,u0,u1⟩:=hS;simp only[go_sem,Zq,LZ];refine Aa h1 ?_;simp only[go_sem,Zq,LZ];refine Aa hb ?_;simp only[go_sem,Zq,LZ];refine Aa j1 ?_;simp only[go_sem,Zq,LZ];exact Ww rfl ⟨rfl,rfl⟩ j2 AN ⟨rfl,_,_,_,_,_,_,_,_,_,_,_,rfl,by simp[V.rowB]⟩
   | some yr=>
    obtain⟨y,qt⟩:=yr;rw[hy]at j3;obtain⟨rfl,j3⟩:=j3;have qA:=Dy y;have qs:=Bi y;rw[qs]at j1 qA;have qi:=qi y qt hy;have qD:qt.length=A.length - q0:=by rw[<-j3,Gi]
    simp only;rw[<-j3];by_cases ql:A0 [93] (A.drop q0)=true
    .rw[if_pos ql];simp only[I9];rw[<-Eo];have qm:=Al5 qb (r:=(sZ 1 ln nm [])) [xO y] hl ql;have qq:=Ek ql;by_cases qe:A0 [61] (A.drop (q0+1))=true
     .rw[if_pos qe];simp only;rw[<-Eo];have ha:=Al5 qb (r:=[iV 1,iV ln,.str nm,.str [],.lst 1 [(xR y)],iV 0,iV 0,.str [],.nils,.nils,.nils]) [xO y] hl qe;have qf:=Ek qe;obtain⟨v,q,k1,k2,k3⟩:=Bmy qb (p:=(q0+1)+1) (r:=[iV 1,iV ln,.str nm,.str [],.lst 1 [(xR y)],iV 0,iV 0,.str [],.nils,.nils,.nils]) (l:=[xO y]) fun hs=>Tu (Yi n).1 hA hs (Is qf) AA
      unfold PR at k3
      cases hx:pe n 1 (A.drop ((q0+1)+1)) with
      | none=>
       rw[hx]at k3;subst k3;simp only;have Zq:=Fd hS;obtain⟨-,-,-,-,qa,get,get0,set,set0,go,go0,so,so0,n0,n1,u0,u1⟩:=hS;simp only[go_sem,Zq,LZ];refine Aa h1 ?_;simp only[go_sem,Zq,LZ];refine Aa hb ?_;simp only[go_sem,Zq,LZ];refine Aa j1 ?_;simp only[go_sem,Zq,LZ];refine Aa qm ?_;simp only[go_sem,Zq,LZ];refine Aa ha ?_;simp only[go_sem,Zq,LZ];refine Aa k1 ?_;simp only[go_sem,Zq,LZ];exact Ww rfl ⟨rfl,rfl⟩ k2 AN ⟨rfl,_,_,_,_,_,_,_,_,_,_,_,rfl,by simp[V.rowB]⟩
      | some xr=>
       obtain⟨x,qC⟩:=xr;rw[hx]at k3;obtain⟨rfl,k3⟩:=k3;have qj:=Dy x;have hr:=Bi x;rw[hr]at k1 qj;simp only;rw[<-k3];by_cases he:A0 [59] (A.drop q)=true
       .rw[if_pos he,<-Eo];have hc:=Al5 qb (r:=[iV 1,iV ln,.str nm,.str [],.lst 1 [(xR y)],iV x.op,iV x.n,.str x.nm,SL x.z x.t (x.l.map Xp.row),.nils,.nils]) [xO y] hl he;have qh:=Ek he;have Zq:=Fd hS;obtain⟨-,-,-,-,qa,get,get0,set,set0,go,go0,so,so0,n0,n1,u0,u1⟩:=hS;simp only[go_sem,Zq,LZ];refine Aa h1 ?_;simp only[go_sem,Zq,LZ];refine Aa hb ?_;simp only[go_sem,Zq,LZ];refine Aa j1 ?_;simp only[go_sem,Zq,LZ];refine Aa qm ?_;simp only[go_sem,Zq,LZ];refine Aa ha ?_;simp only[go_sem,Zq,LZ];refine Aa k1 ?_;simp only[go_sem,Zq,LZ];refine Aa hc ?_;simp only[go_sem,Zq,LZ];exact Ww rfl ⟨rfl,rfl⟩ AA (by simp only[B5,Dc,Al,Hm,I0];grind[V.rowB]) ⟨rfl,by rw[Fr];simp only[Bh,B0,qs];rfl,rfl⟩
       .have he:A0 [59] (A.drop q)=false:=by simpa using he
        rw[if_neg AA];have hc:=Al6 qb (r:=[iV 1,iV ln,.str nm,.str [],.lst 1 [(xR y)],iV x.op,iV x.n,.str x.nm,SL x.z x.t (x.l.map Xp.row),.nils,.nils]) [xO y] hl k2 he;have Zq:=Fd hS;obtain⟨-,-,-,-,qa,get,get0,set,set0,go,go0,so,so0,n0,n1,u0,u1⟩:=hS;simp only[go_sem,Zq,LZ];refine Aa h1 ?_;simp only[go_sem,Zq,LZ];refine Aa hb ?_;simp only[go_sem,Zq,LZ];refine Aa j1 ?_;simp only[go_sem,Zq,LZ];refine Aa qm ?_;simp only[go_sem,Zq,LZ];refine Aa ha ?_;simp only[go_sem,Zq,LZ];refine Aa k1 ?_;simp only[go_sem,Zq,LZ];refine Aa hc ?_;simp only[go_sem,Zq,LZ];exact Ww rfl ⟨rfl,rfl⟩ k2 (by simp only[B5,Dc,Al,Hm,I0];grind[V.rowB]) ⟨rfl,_,_,_,_,_,_,_,_,_,_,_,rfl,by simp only[B5,Dc,Al,Hm,I0];grind[V.rowB]⟩
     .have qe:A0 [61] (A.drop (q0+1))=false:=by simpa using qe
      rw[if_neg AA];simp only;have ha:=Al6 qb (r:=[iV 1,iV ln,.str nm,.str [],.lst 1 [(xR y)],iV 0,iV 0,.str [],.nils,.nils,.nils]) [xO y] hl (Is qq) qe;have Zq:=Fd hS;obtain⟨-,-,-,-,qa,get,get0,set,set0,go,go0,so,so0,n0,n1,u0,u1⟩:=hS;simp only[go_sem,Zq,LZ];refine Aa h1 ?_;simp only[go_sem,Zq,LZ];refine Aa hb ?_;simp only[go_sem,Zq,LZ];refine Aa j1 ?_;simp only[go_sem,Zq,LZ];refine Aa qm ?_;simp only[go_sem,Zq,LZ];refine Aa ha ?_;simp only[go_sem,Zq,LZ];exact Ww rfl ⟨rfl,rfl⟩ (Is qq) AN ⟨rfl,_,_,_,_,_,_,_,_,_,_,_,rfl,by simp[V.rowB]⟩
    .have ql:A0 [93] (A.drop q0)=false:=by simpa using ql
     rw[if_neg AA];simp only[Option.map_none];have qm:=Al6 qb (r:=(sZ 1 ln nm [])) [xO y] hl j2 ql;have Zq:=Fd hS;obtain⟨-,-,-,-,qa,get,get0,set,set0,go,go0,so,so0,n0,n1,u0,u1⟩:=hS;simp only[go_sem,Zq,LZ];refine Aa h1 ?_;simp only[go_sem,Zq,LZ];refine Aa hb ?_;simp only[go_sem,Zq,LZ];refine Aa j1 ?_;simp only[go_sem,Zq,LZ];refine Aa qm ?_;simp only[go_sem,Zq,LZ];exact Ww rfl ⟨rfl,rfl⟩ j2 AN ⟨rfl,_,_,_,_,_,_,_,_,_,_,_,rfl,by simp[V.rowB]⟩
  .have qk:A0 [91] (A.drop (p+1))=false:=by simpa using qk
   rw[if_neg AA];simp only;have hb:=Ur qb (r:=(sZ 1 ln nm [])) hl (Is qd) qk;by_cases qe:A0 [61] (A.drop (p+1))=true
   .rw[if_pos qe];simp only;rw[<-Eo];have ha:=Uq qb (r:=(sZ 1 ln nm [])) hl qe;have qf:=Ek qe;obtain⟨v,q,k1,k2,k3⟩:=Wx qb (p:=(p+1)+1) (r:=(sZ 1 ln nm [])) fun hs=>Tu (Yi n).1 hA hs (Is qf) AA
    unfold PR at k3
    cases hx:pe n 1 (A.drop ((p+1)+1)) with
    | none=>
     rw[hx]at k3;subst k3;simp only;have Zq:=Fd hS;obtain⟨-,-,-,-,qa,get,get0,set,set0,go,go0,so,so0,n0,n1,u0,u1⟩:=hS;simp only[go_sem,Zq,LZ];refine Aa h1 ?_;simp only[go_sem,Zq,LZ];refine Aa hb ?_;simp only[go_sem,Zq,LZ];refine Aa ha ?_;simp only[go_sem,Zq,LZ];refine Aa k1 ?_;simp only[go_sem,Zq,LZ];exact Fp rfl ⟨rfl,rfl⟩ k2 AN ⟨rfl,_,_,_,_,_,_,_,_,_,_,_,rfl,by simp[V.rowB]⟩
    | some xr=>
     obtain⟨x,qC⟩:=xr;rw[hx]at k3;obtain⟨rfl,k3⟩:=k3;have qj:=Dy x;have hr:=Bi x;rw[hr]at k1 qj;simp only;rw[<-k3];by_cases he:A0 [59] (A.drop q)=true
     .rw[if_pos he,<-Eo];have hc:=Uq qb (r:=[iV 1,iV ln,.str nm,.str [],.nils,iV x.op,iV x.n,.str x.nm,SL x.z x.t (x.l.map Xp.row),.nils,.nils]) hl he;have qh:=Ek he;have Zq:=Fd hS;obtain⟨-,-,-,-,qa,get,get0,set,set0,go,go0,so,so0,n0,n1,u0,u1⟩:=hS;simp only[go_sem,Zq,LZ];refine Aa h1 ?_;simp only[go_sem,Zq,LZ];refine Aa hb ?_;simp only[go_sem,Zq,LZ];refine Aa ha ?_;simp only[go_sem,Zq,LZ];refine Aa k1 ?_;simp only[go_sem,Zq,LZ];refine Aa hc ?_;simp only[go_sem,Zq,LZ];exact Fp rfl ⟨rfl,rfl⟩ AA (by simp only[B5,Dc,Al,Hm,I0];grind[V.rowB]) ⟨rfl,by rw[Fr];rfl,rfl⟩
     .have he:A0 [59] (A.drop q)=false:=by simpa using he
      rw[if_neg AA];have hc:=Ur qb (r:=[iV 1,iV ln,.str nm,.str [],.nils,iV x.op,iV x.n,.str x.nm,SL x.z x.t (x.l.map Xp.row),.nils,.nils]) hl k2 he;have Zq:=Fd hS;obtain⟨-,-,-,-,qa,get,get0,set,set0,go,go0,so,so0,n0,n1,u0,u1⟩:=hS;simp only[go_sem,Zq,LZ];refine Aa h1 ?_;simp only[go_sem,Zq,LZ];refine Aa hb ?_;simp only[go_sem,Zq,LZ];refine Aa ha ?_;simp only[go_sem,Zq,LZ];refine Aa k1 ?_;simp only[go_sem,Zq,LZ];refine Aa hc ?_;simp only[go_sem,Zq,LZ];exact Fp rfl ⟨rfl,rfl⟩ k2 (by simp only[B5,Dc,Al,Hm,I0];grind[V.rowB]) ⟨rfl,_,_,_,_,_,_,_,_,_,_,_,rfl,by simp only[B5,Dc,Al,Hm,I0];grind[V.rowB]⟩
   .have qe:A0 [61] (A.drop (p+1))=false:=by simpa using qe
    rw[if_neg AA];simp only;have ha:=Ur qb (r:=(sZ 1 ln nm [])) hl (Is qd) qe;have Zq:=Fd hS;obtain⟨-,-,-,-,qa,get,get0,set,set0,go,go0,so,so0,n0,n1,u0,u1⟩:=hS;simp only[go_sem,Zq,LZ];refine Aa h1 ?_;simp only[go_sem,Zq,LZ];refine Aa hb ?_;simp only[go_sem,Zq,LZ];refine Aa ha ?_;simp only[go_sem,Zq,LZ];exact Fp rfl ⟨rfl,rfl⟩ (Is qd) AN ⟨rfl,_,_,_,_,_,_,_,_,_,_,_,rfl,by simp[V.rowB]⟩
