/- Walks: the parser's statements. -/
import Derived.Test.YtphikjgngompaabGreatDoorLm
set_option linter.all false
namespace Go.Proofs.YtphikjgngompaabGreatDoor.KM
open Go
structure RdT (s:St) (m o:Nat) (z:Bool) (t:Nat) (A:List Tk) (S:Nat->List V->St):Prop where
 low:m<s.length
 lowo:o<s.length
 ne:m≠o
 eq:∀ p r,S p r=(s.set m (RO z t A p)).set o (.row r 98 0 0)
 len:∀ p r,(S p r).length=s.length
 get:∀ (p:Nat) (r:List V) (l:St),(S p r++l)[m]?=some (.row [SL z t (A.map Tk.row),iV (p:Int)] 74 0 0)
 get0:∀ (p:Nat) (r:List V),(S p r)[m]?=some (.row [SL z t (A.map Tk.row),iV (p:Int)] 74 0 0)
 set:∀ (p q:Nat) (r:List V) (l:St),(S p r++l).set m (.row [SL z t (A.map Tk.row),iV (q:Int)] 74 0 0)=S q r++l
 set0:∀ (p q:Nat) (r:List V),(S p r).set m (.row [SL z t (A.map Tk.row),iV (q:Int)] 74 0 0)=S q r
 go:∀ (p:Nat) (r:List V) (l:St),(S p r++l)[o]?=some (.row r 98 0 0)
 go0:∀ (p:Nat) (r:List V),(S p r)[o]?=some (.row r 98 0 0)
 so:∀ (p:Nat) (r r':List V) (l:St),(S p r++l).set o (.row r' 98 0 0)=S p r'++l
 so0:∀ (p:Nat) (r r':List V),(S p r).set o (.row r' 98 0 0)=S p r'
 n0:∀ (p:Nat) (r:List V) (a:Ob) (l:St),(S p r++a::l)[s.length]?=some a
 n1:∀ (p:Nat) (r:List V) (a b:Ob) (l:St),(S p r++a::b::l)[s.length+1]?=some b
 u0:∀ (p:Nat) (r:List V) (a x:Ob) (l:St),(S p r++a::l).set s.length x=S p r++x::l
 u1:∀ (p:Nat) (r:List V) (a b x:Ob) (l:St),(S p r++a::b::l).set (s.length+1) x=S p r++a::x::l
def Fc{s:St}{m o:Nat}{z:Bool}{t:Nat}{A:List Tk}{S:Nat->List V->St}(h:RdT s m o z t A S):=And.intro h.len (And.intro h.get (And.intro h.get0 (And.intro h.set (And.intro h.set0 (And.intro h.go (And.intro h.go0 (And.intro h.so (And.intro h.so0 (And.intro h.n0 (And.intro h.n1 (And.intro h.u0 (h.u1))))))))))))
def Bgk{s:St}{m o:Nat}(z:Bool)(t:Nat)(A:List Tk)(hm:m<s.length)(ho:o<s.length)(qc:m≠o):RdT s m o z t A (fun p r=>(s.set m (RO z t A p)).set o (.row r 98 0 0)):=by
 have hl:∀ p r,((s.set m (RO z t A p)).set o (.row r 98 0 0)).length=s.length:=fun p r=>by simp
 have hg:∀ (p:Nat) (r:List V),((s.set m (RO z t A p)).set o (.row r 98 0 0))[m]?=some (RO z t A p):=fun p r=>by
  grind
 have qr:∀ (p:Nat) (r:List V),((s.set m (RO z t A p)).set o (.row r 98 0 0))[o]?=some (.row r 98 0 0):=fun p r=>Cr (by grind)
 have hs:∀ p q r,((s.set m (RO z t A p)).set o (.row r 98 0 0)).set m (RO z t A q)=(s.set m (RO z t A q)).set o (.row r 98 0 0):=fun p q r=>by
  simp_all [List.set_comm,Ne.symm]
 have qy:∀ p r r',((s.set m (RO z t A p)).set o (.row r 98 0 0)).set o (.row r' 98 0 0)=(s.set m (RO z t A p)).set o (.row r' 98 0 0):=fun p r r'=>by simp_all
 refine⟨hm,ho,qc,fun _ _=>rfl,hl,fun p r l=>By (hg p r),fun p r=>hg p r,fun p q r l=>?_,fun p q r=>hs p q r,fun p r l=>By (qr p r),fun p r=>qr p r,fun p r r' l=>?_,fun p r r'=>qy p r r',fun p r a l=>?_,fun p r a b l=>?_,fun p r a x l=>?_,fun p r a b x l=>?_⟩
 .rw[Aie _ _ (by grind)];exact congrArg (·++l) (hs p q r)
 .grind
 .grind
 .grind
 .simp_all
 simp_all
def Q3(f:Nat)(s:St)(m o:Nat)(z:Bool)(t:Nat)(A:List Tk)(R:V->Nat->List V->Prop):Prop:=∃ v p' r',Bw TT PT f [.ptr m 0 0,.ptr o 0 0] s v ((s.set m (RO z t A p')).set o (.row r' 98 0 0))/\p'<=A.length/\R v p' r'
def Avc{s:St}{m o:Nat}{x y:Ob}(h:s[m]?=some x)(h':s[o]?=some y):(s.set m x).set o y=s:=by grind[O8]
def Uj{z:Bool}{t:Nat}{A:List Tk}{f m o q:Nat}{res:List AR}{thr:Bool}{body:AC}{s:St}{r0:List V}{R:V->Nat->List V->Prop}(hT:TT f=some ⟨2,res,thr,body,none⟩)(hs:s[m]?=some (RO z t A q))(ho:s[o]?=some (.row r0 98 0 0))(qc:m≠o)
  (h:∀ S,RdT s m o z t A S->W TT PT [.c body] (C4 0 [.ptr m 0 0,.ptr o 0 0]) (S q r0) (Hd fun e' σ1=>∃ v p' r' l,Cd e' σ1 res=some v/\(Ci v=true/\v.refs=[])/\σ1=S p' r'++l/\p'<=A.length/\r'.all V.rowB=true/\R v p' r')):Q3 f s m o z t A R:=by
 have hm:=(Ao.1 hs).1;have qv:=(Ao.1 ho).1;have h:=h _ (Bgk z t A hm qv qc);rw[Avc hs ho]at h;obtain⟨e',σ1,hE,v,p',r',l,hr,⟨h1,h2⟩,rfl,h3,h5,h4⟩:=h;have qz:((s.set m (RO z t A p')).set o (.row r' 98 0 0)++l).take s.length=(s.set m (RO z t A p')).set o (.row r' 98 0 0):=by rw[Aia AE,Ic AE]
 refine⟨v,p',r',?_,h3,h4⟩
 have:=Ev.fn hT rfl rfl hE hr h1 (by rw[h2];rfl) (fun i ob hi qo=>by
  rw[Es (by grind)]at qo;by_cases hb:o=i
  .subst hb;rw[Cr (by grind)]at qo;cases qo;exact .inr (by simp only[Ob.refs];rw[Ft h5];rfl)
  .rw[Ce hb]at qo;by_cases hb:m=i
   .subst hb;rw[Cr hm]at qo;cases qo;exact .inr (by rw[Afr];rfl)
   grind)
 rw[qz]at this;exact⟨_,hT,rfl,this⟩
def Ye{S:Nat->List V->St}{A:List Tk}{R:V->Nat->List V->Prop}{e:Env}{res:List AR}{v:V}{p:Nat}{r:List V}{l:St}(hr:Cd e (S p r++l) res=some v)(hv:Ci v=true/\v.refs=[])(hp:p<=A.length)(hb:r.all V.rowB=true)(hR:R v p r):
  ∃ v p' r' l',Cd e (S p r++l) res=some v/\(Ci v=true/\v.refs=[])/\S p r++l=S p' r'++l'/\p'<=A.length/\r'.all V.rowB=true/\R v p' r':=⟨v,p,r,l,hr,hv,rfl,hp,hb,hR⟩
def Fj{S:Nat->List V->St}{A:List Tk}{R:V->Nat->List V->Prop}{e:Env}{res:List AR}{v:V}{p:Nat}{r:List V}(hr:Cd e (S p r) res=some v)(hv:Ci v=true/\v.refs=[])(hp:p<=A.length)(hb:r.all V.rowB=true)(hR:R v p r):
  ∃ v p' r' l',Cd e (S p r) res=some v/\(Ci v=true/\v.refs=[])/\S p r=S p' r'++l'/\p'<=A.length/\r'.all V.rowB=true/\R v p' r':=⟨v,p,r,[],hr,hv,(Cc _).symm,hp,hb,hR⟩
def Bqy{s:St}{m o:Nat}{z:Bool}{t:Nat}{A:List Tk}{S:Nat->List V->St}(hS:RdT s m o z t A S){f p:Nat}{r:List V}{av:List V}{l:St}{R:V->Nat->Prop}(h:(S p r++l)[m]?=some (RO z t A p)->RT f av (S p r++l) m z t A R):∃ v q,Bw TT PT f (.ptr m 0 0::av) (S p r++l) v (S q r++l)/\q<=A.length/\R v q:=by
 obtain⟨v,q,h1,h2,h3⟩:=h (hS.get p r l);rw[show(S p r++l).set m (RO z t A q)=S q r++l from hS.set p q r l]at h1
 grind
def Yf{s:St}{m o:Nat}{z:Bool}{t:Nat}{A:List Tk}{S:Nat->List V->St}(hS:RdT s m o z t A S){f p:Nat}{r:List V}{av:List V}{R:V->Nat->Prop}(h:(S p r)[m]?=some (RO z t A p)->RT f av (S p r) m z t A R):∃ v q,Bw TT PT f (.ptr m 0 0::av) (S p r) v (S q r)/\q<=A.length/\R v q:=by
 obtain⟨v,q,h1,h2,h3⟩:=h (hS.get0 p r);rw[show(S p r).set m (RO z t A q)=S q r from hS.set0 p q r]at h1
 grind
def Vx{s:St}{m o:Nat}{z:Bool}{t:Nat}{A:List Tk}{S:Nat->List V->St}(hS:RdT s m o z t A S){p:Nat}{r:List V}(hA:A.length<=1000000){w:List UInt8}(h:As w (A.drop p)=true):Bw TT PT 100 [.ptr m 0 0,.str w] (S p r) (.bool true) (S (p+1) r):=by
 have:=Uh (hS.get0 p r) hA h;rw[show(S p r).set m (RO z t A (p+1))=S (p+1) r from hS.set0 p (p+1) r]at this;exact this
def Vy{s:St}{m o:Nat}{z:Bool}{t:Nat}{A:List Tk}{S:Nat->List V->St}(hS:RdT s m o z t A S){p:Nat}{r:List V}(hA:A.length<=1000000)(hp:p<=A.length){w:List UInt8}(h:As w (A.drop p)=false):Bw TT PT 100 [.ptr m 0 0,.str w] (S p r) (.bool false) (S p r):=Ui (hS.get0 p r) hA hp h
def An5{s:St}{m o:Nat}{z:Bool}{t:Nat}{A:List Tk}{S:Nat->List V->St}(hS:RdT s m o z t A S){p:Nat}{r:List V}(l:St)(hA:A.length<=1000000){w:List UInt8}(h:As w (A.drop p)=true):Bw TT PT 100 [.ptr m 0 0,.str w] (S p r++l) (.bool true) (S (p+1) r++l):=by
 have:=Uh (hS.get p r l) hA h;rw[show(S p r++l).set m (RO z t A (p+1))=S (p+1) r++l from hS.set p (p+1) r l]at this;exact this
def An6{s:St}{m o:Nat}{z:Bool}{t:Nat}{A:List Tk}{S:Nat->List V->St}(hS:RdT s m o z t A S){p:Nat}{r:List V}(l:St)(hA:A.length<=1000000)(hp:p<=A.length){w:List UInt8}(h:As w (A.drop p)=false):Bw TT PT 100 [.ptr m 0 0,.str w] (S p r++l) (.bool false) (S p r++l):=Ui (hS.get p r l) hA hp h
def Yg{s:St}{m o:Nat}{z:Bool}{t:Nat}{A:List Tk}{S:Nat->List V->St}(hS:RdT s m o z t A S){p:Nat}{r:List V}(hA:A.length<=1000000)(hp:p<=A.length){w:List UInt8}{q:List Tk}(h:C6 (A.drop p)=some (w,q)):Bw TT PT 97 [.ptr m 0 0] (S p r) (.tup [.str w,.bool true]) (S (p+1) r)/\p<A.length/\A.drop (p+1)=q:=by
 obtain⟨h1,h2⟩:=(Yr (hS.get0 p r) hA hp).1 w q h;rw[show(S p r).set m (RO z t A (p+1))=S (p+1) r from hS.set0 p (p+1) r]at h1
 grind
def Yh{s:St}{m o:Nat}{z:Bool}{t:Nat}{A:List Tk}{S:Nat->List V->St}(hS:RdT s m o z t A S){p:Nat}{r:List V}(hA:A.length<=1000000)(hp:p<=A.length)(h:C6 (A.drop p)=none):Bw TT PT 97 [.ptr m 0 0] (S p r) (.tup [.str [],.bool false]) (S p r):=(Yr (hS.get0 p r) hA hp).2 h
/-! what is given back -/
def PRb(A:List Tk)(o:Option (List Sp × List Tk))(v:V)(p':Nat):Prop:=match o with
 | some (l,r)=>v=.tup [SL true 0 (l.map Sp.row),.bool true]/\A.drop p'=r
 | none=>v=.tup [.nils,.bool false]
def Wo(n:Nat):Prop:=∀ (s:St) (m:Nat) (z:Bool) (t:Nat) (A:List Tk) (p:Nat),OkA A->D5 A->s[m]?=some (RO z t A p)->p<=A.length->10*(A.length - p)+2<=n->RT 101 [] s m z t A (PRb A (Fb n (A.drop p)))
def Hi(l:List Sp):(SL true 0 (l.map Sp.row)).rowB=true:=by
 unfold SL
 split
 .rfl
 .rfl
def Aj4{n:Nat}(hB:Wo n){s:St}{m o:Nat}{z:Bool}{t:Nat}{A:List Tk}{p:Nat}{c0 c1 c2 c3 c4 c5 c6 c7 c8 c9 c10:V}(hA:OkA A)(hT:D5 A)(hs:s[m]?=some (RO z t A p))(ho:s[o]?=some (.row [c0,c1,c2,c3,c4,c5,c6,c7,c8,c9,c10] 98 0 0))(qc:m≠o)(hp:p<=A.length)(hb:[c0,c1,c2,c3,c4,c5,c6,c7,c8,c9,c10].all V.rowB=true)(hf:10*(A.length - p)+2<=n):
  Q3 200 s m o z t A (fun v q r=>match Fb n (A.drop p) with
   | some (l,ts)=>v=.bool true/\r=[c0,c1,c2,c3,c4,c5,c6,c7,c8,SL true 0 (l.map Sp.row),c10]/\A.drop q=ts
   | none=>v=.bool false/\r=[c0,c1,c2,c3,c4,c5,c6,c7,c8,.nils,c10]):=by
 refine Uj T200 hs ho qc fun S hS=>?_
 obtain⟨v,q,h1,h2,h3⟩:=Yf hS (r:=[c0,c1,c2,c3,c4,c5,c6,c7,c8,c9,c10]) fun hs=>hB _ m z t A p hA hT hs hp hf
 have Zq:=Fc hS;obtain⟨-,-,-,-,qa,get,get0,set,set0,go,go0,so,so0,n0,n1,u0,u1⟩:=hS;simp only[B5,Db,Ai]at hb;unfold PRb at h3;simp only[go_sem,Zq,LZ]
 split at h3
 .rename_i l ts hl;obtain⟨rfl,h3⟩:=h3;refine Aa h1 ?_;simp only[go_sem,Zq,LZ];exact Fj rfl ⟨rfl,rfl⟩ h2 (by simp_all [Hi]) ⟨rfl,rfl,h3⟩
 .rename_i hl;subst h3;refine Aa h1 ?_;simp only[go_sem,Zq,LZ];exact Fj rfl ⟨rfl,rfl⟩ h2 (by simp only[B5,Db,Ai,(show V.rowB V.nils=true from rfl)];grind) ⟨rfl,rfl⟩
def I2(x:Xp):(SL x.z x.t (x.l.map Xp.row)).rowB=true:=by
 unfold SL
 split
 .rfl
 .rfl
def R7(r:List V):Prop:=∃ c0 c1 c2 c3 c4 c5 c6 c7 c8 c9 c10:V,r=[c0,c1,c2,c3,c4,c5,c6,c7,c8,c9,c10]/\r.all V.rowB=true
/-! the statements' own parts -/
def Oi(n:Nat)(ts:List Tk):Option ((Xp × List Sp) × List Tk):=match pe n 1 ts with
 | none=>none
 | some (x,ts)=>match Fb n ts with
  | none=>none
  | some (b,ts)=>some ((x,b),ts)
def Ab6(n:Nat)(ts:List Tk):Option ((Xp × List Sp × List Sp) × List Tk):=match Oi n ts with
 | none=>none
 | some ((x,b),ts)=>if As [101,108,115,101] ts=true then(match Fb n ts.tail with
   | none=>none
   | some (e,ts)=>some ((x,b,e),ts))
  else some ((x,b,[]),ts)
def qNB(n:Nat)(ts:List Tk):Option ((List UInt8 × List Sp) × List Tk):=match C6 ts with
 | none=>none
 | some (nm,ts)=>match Fb n ts with
  | none=>none
  | some (b,ts)=>some ((nm,b),ts)
def qNm(ts:List Tk):Option (List UInt8 × List Tk):=match C6 ts with
 | none=>none
 | some (nm,ts)=>(Dv [59] ts).map fun ts=>(nm,ts)
def Ack(n:Nat)(ts:List Tk):Option ((List UInt8 × Xp) × List Tk):=match C6 ts with
 | none=>none
 | some (nm,ts)=>match pe n 1 ts with
  | none=>none
  | some (x,ts)=>(Dv [59] ts).map fun ts=>((nm,x),ts)
def Acl(ts:List Tk):Option ((List UInt8 × List UInt8) × List Tk):=match C6 ts with
 | none=>none
 | some (nm,ts)=>match C6 ts with
  | none=>none
  | some (ar,ts)=>(Dv [59] ts).map fun ts=>((nm,ar),ts)
def Aqx{n:Nat}(hB:Wo n){s:St}{m o:Nat}{z:Bool}{t:Nat}{A:List Tk}{p:Nat}{op ln:Int}(hA:OkA A)(hT:D5 A)(hs:s[m]?=some (RO z t A p))(ho:s[o]?=some (sP op ln [] []))(qc:m≠o)(hp:p<=A.length)(hf:10*(A.length - p)+9<=n):
  Q3 198 s m o z t A (fun v q r=>match Oi n (A.drop p) with
   | some ((x,b),ts)=>v=.bool true/\r=[.int .i64 op,.int .i64 ln,.str [],.str [],.nils,.int .i64 x.op,.int .i64 x.n,.str x.nm,SL x.z x.t (x.l.map Xp.row),SL true 0 (b.map Sp.row),.nils]/\A.drop q=ts
   | none=>v=.bool false/\R7 r):=by
 refine Uj T198 hs ho qc fun S hS=>?_
 have hl:A.length<=1000000:=by have:=hA.len;omega
 have qb:=hS;have hm:=hS.low;have qn:=hS.lowo;obtain⟨v,q,h1,h2,h3⟩:=Yf hS (r:=(sZ op ln [] [])) fun hs=>Vc (Z2 n).1 hA hs hp AA
 unfold PR at h3
 have qx:∀ x ts,pe n 1 (A.drop p)=some (x,ts)->Oi n (A.drop p)=match Fb n ts with
   | none=>none
   | some (b,ts)=>some ((x,b),ts):=fun x ts h=>by grind[Oi]
 have qw:pe n 1 (A.drop p)=none->Oi n (A.drop p)=none:=fun h=>by grind[Oi]
 have qd:=fun x ts (h:pe n 1 (A.drop p)=some (x,ts))=>(Ys n).1 _ _ _ _ h
 rw[Gz]at qd
 cases hx:pe n 1 (A.drop p) with
 | none=>
  rw[hx]at h3;subst h3;rw[qw hx];have Zq:=Fc hS;obtain⟨-,-,-,-,qa,get,get0,set,set0,go,go0,so,so0,n0,n1,u0,u1⟩:=hS;simp only[go_sem,Zq,LZ];refine Aa h1 ?_;simp only[go_sem,Zq,LZ];exact Fj rfl ⟨rfl,rfl⟩ h2 AN ⟨rfl,_,_,_,_,_,_,_,_,_,_,_,rfl,by simp[V.rowB]⟩
 | some xr=>
  obtain⟨x,ts⟩:=xr;rw[hx]at h3;obtain⟨rfl,h3⟩:=h3;have qj:=Dw x;have hr:=Bi x;rw[hr]at h1 qj;rw[qx x ts hx,<-h3];have qd:=qd x ts hx;have qE:ts.length=A.length - q:=by rw[<-h3,Gz]
  obtain⟨v2,q2,r2,k1,k2,k3⟩:=Aj4 (c0:=iV op) (c1:=iV ln) (c2:=.str []) (c3:=.str []) (c4:=.nils) (c5:=iV x.op) (c6:=iV x.n) (c7:=.str x.nm) (c8:=SL x.z x.t (x.l.map Xp.row)) (c9:=.nils) (c10:=.nils) hB hA hT (qb.get0 q _) (qb.go0 q _) qc h2 (by simp only[B5,Db,Ai,Hi,I2];grind[V.rowB]) AA;rw[show((S q [iV op,iV ln,.str [],.str [],.nils,iV x.op,iV x.n,.str x.nm,SL x.z x.t (x.l.map Xp.row),.nils,.nils]).set m (RO z t A q2)).set o (.row r2 98 0 0)=S q2 r2 from by rw[show(S q _).set m (RO z t A q2)=S q2 _ from qb.set0 q q2 _,qb.so0]]at k1;have Zq:=Fc hS;obtain⟨-,-,-,-,qa,get,get0,set,set0,go,go0,so,so0,n0,n1,u0,u1⟩:=hS;simp only[go_sem,Zq,LZ];refine Aa h1 ?_;simp only[go_sem,Zq,LZ];refine Aa k1 ?_
  cases hb:Fb n (A.drop q) with
  | none=>
   rw[hb]at k3;obtain⟨rfl,rfl⟩:=k3;simp only[go_sem,Zq,LZ];exact Fj rfl ⟨rfl,rfl⟩ k2 (by simp only[B5,Db,Ai,Hi,I2];grind[V.rowB]) ⟨rfl,_,_,_,_,_,_,_,_,_,_,_,rfl,by simp only[B5,Db,Ai,Hi,I2];grind[V.rowB]⟩
  | some bl=>
   obtain⟨b,tl⟩:=bl;rw[hb]at k3;obtain⟨rfl,rfl,k3⟩:=k3;simp only[go_sem,Zq,LZ];exact Fj rfl ⟨rfl,rfl⟩ k2 (by simp only[B5,Db,Ai,Hi,I2];grind[V.rowB]) ⟨rfl,rfl,k3⟩
def A4m{n:Nat}(hB:Wo n){s:St}{m o:Nat}{z:Bool}{t:Nat}{A:List Tk}{p:Nat}{op ln:Int}(hA:OkA A)(hT:D5 A)(hs:s[m]?=some (RO z t A p))(ho:s[o]?=some (sP op ln [] []))(qc:m≠o)(hp:p<=A.length)(hf:10*(A.length - p)+9<=n):
  Q3 197 s m o z t A (fun v q r=>match Ab6 n (A.drop p) with
   | some ((x,b,e),ts)=>v=.bool true/\r=[.int .i64 op,.int .i64 ln,.str [],.str [],.nils,.int .i64 x.op,.int .i64 x.n,.str x.nm,SL x.z x.t (x.l.map Xp.row),SL true 0 (b.map Sp.row),SL true 0 (e.map Sp.row)]/\A.drop q=ts
   | none=>v=.bool false/\R7 r):=by
 refine Uj T197 hs ho qc fun S hS=>?_
 have hl:A.length<=1000000:=by have:=hA.len;omega
 have qb:=hS;have hm:=hS.low;have qn:=hS.lowo;obtain⟨v1,q,r1,h1,h2,h3⟩:=Aqx hB hA hT (qb.get0 p _) (qb.go0 p (sZ op ln [] [])) qc hp hf;rw[show((S p (sZ op ln [] [])).set m (RO z t A q)).set o (.row r1 98 0 0)=S q r1 from by rw[show(S p _).set m (RO z t A q)=S q _ from qb.set0 p q _,qb.so0]]at h1;have qd:=fun x ts (h:pe n 1 (A.drop p)=some (x,ts))=>(Ys n).1 _ _ _ _ h
 rw[Gz]at qd;unfold Ab6
 cases hq:Oi n (A.drop p) with
 | none=>
  rw[hq]at h3;obtain⟨rfl,qp⟩:=h3;have Zq:=Fc hS;obtain⟨-,-,-,-,qa,get,get0,set,set0,go,go0,so,so0,n0,n1,u0,u1⟩:=hS;simp only[go_sem,Zq,LZ];refine Aa h1 ?_;simp only[go_sem,Zq,LZ];exact Fj rfl ⟨rfl,rfl⟩ h2 (by obtain⟨_,_,_,_,_,_,_,_,_,_,_,-,hb⟩:=qp;exact hb) ⟨rfl,qp⟩
 | some xb=>
  obtain⟨⟨x,b⟩,ts⟩:=xb;rw[hq]at h3;obtain⟨rfl,rfl,h3⟩:=h3;simp only;rw[<-h3]
  have qF:A.length - q<A.length - p:=by
   unfold Oi at hq
   split at hq
   .cases hq
   .rename_i y t1 hy;have:=qd _ _ hy
    split at hq
    .cases hq
    .rename_i b' t2 qu;cases hq
     have h4:=((Ae1 (M:=0) (C:=100) AA n).2.1 _ _ _ (Di hT (by
      have:=((Xo (C:=25) (Aj _) n).1 _ _ _ _ (Di hT (Ade p A)) hy).2.1
      grind[List.drop_suffix])) qu).2.2.1
     grind
  by_cases he:As [101,108,115,101] (A.drop q)=true
  .rw[if_pos he,<-Eh];have ha:=Vx qb (r:=[iV op,iV ln,.str [],.str [],.nils,iV x.op,iV x.n,.str x.nm,SL x.z x.t (x.l.map Xp.row),SL true 0 (b.map Sp.row),.nils]) hl he;have qg:=Ec he;obtain⟨v2,q2,k1,k2,k3⟩:=Yf qb (p:=q+1) (r:=[iV op,iV ln,.str [],.str [],.nils,iV x.op,iV x.n,.str x.nm,SL x.z x.t (x.l.map Xp.row),SL true 0 (b.map Sp.row),.nils]) fun hs=>hB _ m z t A (q+1) hA hT hs AA AA
   unfold PRb at k3;have Zq:=Fc hS;obtain⟨-,-,-,-,qa,get,get0,set,set0,go,go0,so,so0,n0,n1,u0,u1⟩:=hS;simp only[go_sem,Zq,LZ];refine Aa h1 ?_;simp only[go_sem,Zq,LZ];refine Aa ha ?_;simp only[go_sem,Zq,LZ]
   cases hb:Fb n (A.drop (q+1)) with
   | none=>
    rw[hb]at k3;subst k3;refine Aa k1 ?_;simp only[go_sem,Zq,LZ];exact Fj rfl ⟨rfl,rfl⟩ k2 (by simp only[B5,Db,Ai,Hi,I2];grind[V.rowB]) ⟨rfl,_,_,_,_,_,_,_,_,_,_,_,rfl,by simp only[B5,Db,Ai,Hi,I2];grind[V.rowB]⟩
   | some el=>
    obtain⟨e,tl⟩:=el;rw[hb]at k3;obtain⟨rfl,k3⟩:=k3;refine Aa k1 ?_;simp only[go_sem,Zq,LZ];exact Fj rfl ⟨rfl,rfl⟩ k2 (by simp only[B5,Db,Ai,Hi,I2];grind[V.rowB]) ⟨rfl,rfl,k3⟩
  .have he:As [101,108,115,101] (A.drop q)=false:=by simpa using he
   rw[if_neg AA];have ha:=Vy qb (r:=[iV op,iV ln,.str [],.str [],.nils,iV x.op,iV x.n,.str x.nm,SL x.z x.t (x.l.map Xp.row),SL true 0 (b.map Sp.row),.nils]) hl h2 he;have Zq:=Fc hS;obtain⟨-,-,-,-,qa,get,get0,set,set0,go,go0,so,so0,n0,n1,u0,u1⟩:=hS;simp only[go_sem,Zq,LZ];refine Aa h1 ?_;simp only[go_sem,Zq,LZ];refine Aa ha ?_;simp only[go_sem,Zq,LZ];exact Fj rfl ⟨rfl,rfl⟩ h2 (by simp only[B5,Db,Ai,Hi,I2];grind[V.rowB]) ⟨rfl,rfl,rfl⟩
def Bba{n:Nat}(hB:Wo n){s:St}{m o:Nat}{z:Bool}{t:Nat}{A:List Tk}{p:Nat}{op ln:Int}(hA:OkA A)(hT:D5 A)(hs:s[m]?=some (RO z t A p))(ho:s[o]?=some (sP op ln [] []))(qc:m≠o)(hp:p<=A.length)(hf:10*(A.length - p)+9<=n):
  Q3 199 s m o z t A (fun v q r=>match qNB n (A.drop p) with
   | some ((nm,b),ts)=>v=.bool true/\r=[.int .i64 op,.int .i64 ln,.str nm,.str [],.nils,.int .i64 0,.int .i64 0,.str [],.nils,SL true 0 (b.map Sp.row),.nils]/\A.drop q=ts
   | none=>v=.bool false/\R7 r):=by
 refine Uj T199 hs ho qc fun S hS=>?_
 have hl:A.length<=1000000:=by have:=hA.len;omega
 have qb:=hS;have hm:=hS.low;have qn:=hS.lowo;unfold qNB
 cases hn:C6 (A.drop p) with
 | none=>
  have h1:=Yh qb (r:=(sZ op ln [] [])) hl hp hn;have Zq:=Fc hS;obtain⟨-,-,-,-,qa,get,get0,set,set0,go,go0,so,so0,n0,n1,u0,u1⟩:=hS;simp only[go_sem,Zq,LZ];refine Aa h1 ?_;simp only[go_sem,Zq,LZ];exact Fj rfl ⟨rfl,rfl⟩ hp AN ⟨rfl,_,_,_,_,_,_,_,_,_,_,_,rfl,by simp[V.rowB]⟩
 | some nt=>
  obtain⟨nm,ts⟩:=nt;obtain⟨h1,qd,h3⟩:=Yg qb (r:=(sZ op ln [] [])) hl hp hn;simp only;rw[<-h3];obtain⟨v2,q2,r2,k1,k2,k3⟩:=Aj4 (c0:=iV op) (c1:=iV ln) (c2:=.str nm) (c3:=.str []) (c4:=.nils) (c5:=iV 0) (c6:=iV 0) (c7:=.str []) (c8:=.nils) (c9:=.nils) (c10:=.nils) hB hA hT (qb.get0 (p+1) _) (qb.go0 (p+1) _) qc (Ip qd) AN AA;rw[show((S (p+1) (sZ op ln nm [])).set m (RO z t A q2)).set o (.row r2 98 0 0)=S q2 r2 from by rw[show(S (p+1) _).set m (RO z t A q2)=S q2 _ from qb.set0 (p+1) q2 _,qb.so0]]at k1;have Zq:=Fc hS;obtain⟨-,-,-,-,qa,get,get0,set,set0,go,go0,so,so0,n0,n1,u0,u1⟩:=hS;simp only[go_sem,Zq,LZ];refine Aa h1 ?_;simp only[go_sem,Zq,LZ];refine Aa k1 ?_
  cases hb:Fb n (A.drop (p+1)) with
  | none=>
   rw[hb]at k3;obtain⟨rfl,rfl⟩:=k3;simp only[go_sem,Zq,LZ];exact Fj rfl ⟨rfl,rfl⟩ k2 AN ⟨rfl,_,_,_,_,_,_,_,_,_,_,_,rfl,by simp[V.rowB]⟩
  | some bl=>
   obtain⟨b,tl⟩:=bl;rw[hb]at k3;obtain⟨rfl,rfl,k3⟩:=k3;simp only[go_sem,Zq,LZ];exact Fj rfl ⟨rfl,rfl⟩ k2 (by simp only[B5,Db,Ai,Hi,I2];grind[V.rowB]) ⟨rfl,rfl,k3⟩
def A3i{n:Nat}{s:St}{m o:Nat}{z:Bool}{t:Nat}{A:List Tk}{p:Nat}{op ln:Int}(hA:OkA A)(hT:D5 A)(hs:s[m]?=some (RO z t A p))(ho:s[o]?=some (sP op ln [] []))(qc:m≠o)(hp:p<=A.length)(hf:10*(A.length - p)+9<=n):
  Q3 201 s m o z t A (fun v q r=>match qNm (A.drop p) with
   | some (nm,ts)=>v=.bool true/\r=(sZ op ln nm [])/\A.drop q=ts
   | none=>v=.bool false/\R7 r):=by
 refine Uj T201 hs ho qc fun S hS=>?_
 have hl:A.length<=1000000:=by have:=hA.len;omega
 have qb:=hS;have hm:=hS.low;have qn:=hS.lowo;unfold qNm
 cases hn:C6 (A.drop p) with
 | none=>
  have h1:=Yh qb (r:=(sZ op ln [] [])) hl hp hn;have Zq:=Fc hS;obtain⟨-,-,-,-,qa,get,get0,set,set0,go,go0,so,so0,n0,n1,u0,u1⟩:=hS;simp only[go_sem,Zq,LZ];refine Aa h1 ?_;simp only[go_sem,Zq,LZ];exact Fj rfl ⟨rfl,rfl⟩ hp AN ⟨rfl,_,_,_,_,_,_,_,_,_,_,_,rfl,by simp[V.rowB]⟩
 | some nt=>
  obtain⟨nm,ts⟩:=nt;obtain⟨h1,qd,h3⟩:=Yg qb (r:=(sZ op ln [] [])) hl hp hn;simp only;rw[<-h3];unfold Dv;by_cases he:As [59] (A.drop (p+1))=true
  .rw[if_pos he,<-Eh];have ha:=Vx qb (r:=(sZ op ln nm [])) hl he;have qh:=Ec he;have Zq:=Fc hS;obtain⟨-,-,-,-,qa,get,get0,set,set0,go,go0,so,so0,n0,n1,u0,u1⟩:=hS;simp only[go_sem,Zq,LZ];refine Aa h1 ?_;simp only[go_sem,Zq,LZ];refine Aa ha ?_;simp only[go_sem,Zq,LZ];exact Fj rfl ⟨rfl,rfl⟩ AA AN ⟨rfl,rfl,rfl⟩
  .have he:As [59] (A.drop (p+1))=false:=by simpa using he
   rw[if_neg AA];have ha:=Vy qb (r:=(sZ op ln nm [])) hl (Ip qd) he;have Zq:=Fc hS;obtain⟨-,-,-,-,qa,get,get0,set,set0,go,go0,so,so0,n0,n1,u0,u1⟩:=hS;simp only[go_sem,Zq,LZ];refine Aa h1 ?_;simp only[go_sem,Zq,LZ];refine Aa ha ?_;simp only[go_sem,Zq,LZ];exact Fj rfl ⟨rfl,rfl⟩ (Ip qd) AN ⟨rfl,_,_,_,_,_,_,_,_,_,_,_,rfl,by simp[V.rowB]⟩
def A66{n:Nat}{s:St}{m o:Nat}{z:Bool}{t:Nat}{A:List Tk}{p:Nat}{op ln:Int}(hA:OkA A)(hT:D5 A)(hs:s[m]?=some (RO z t A p))(ho:s[o]?=some (sP op ln [] []))(qc:m≠o)(hp:p<=A.length)(hf:10*(A.length - p)+9<=n):
  Q3 203 s m o z t A (fun v q r=>match Acl (A.drop p) with
   | some ((nm,ar),ts)=>v=.bool true/\r=(sZ op ln nm ar)/\A.drop q=ts
   | none=>v=.bool false/\R7 r):=by
 refine Uj T203 hs ho qc fun S hS=>?_
 have hl:A.length<=1000000:=by have:=hA.len;omega
 have qb:=hS;have hm:=hS.low;have qn:=hS.lowo;unfold Acl
 cases hn:C6 (A.drop p) with
 | none=>
  have h1:=Yh qb (r:=(sZ op ln [] [])) hl hp hn;have Zq:=Fc hS;obtain⟨-,-,-,-,qa,get,get0,set,set0,go,go0,so,so0,n0,n1,u0,u1⟩:=hS;simp only[go_sem,Zq,LZ];refine Aa h1 ?_;simp only[go_sem,Zq,LZ];exact Fj rfl ⟨rfl,rfl⟩ hp AN ⟨rfl,_,_,_,_,_,_,_,_,_,_,_,rfl,by simp[V.rowB]⟩
 | some nt=>
  obtain⟨nm,ts⟩:=nt;obtain⟨h1,qd,h3⟩:=Yg qb (r:=(sZ op ln [] [])) hl hp hn;simp only;rw[<-h3]
  cases hn2:C6 (A.drop (p+1)) with
  | none=>
   have k1:=Yh qb (r:=(sZ op ln nm [])) hl (Ip qd) hn2;have Zq:=Fc hS;obtain⟨-,-,-,-,qa,get,get0,set,set0,go,go0,so,so0,n0,n1,u0,u1⟩:=hS;simp only[go_sem,Zq,LZ];refine Aa h1 ?_;simp only[go_sem,Zq,LZ];refine Aa k1 ?_;simp only[go_sem,Zq,LZ];exact Fj rfl ⟨rfl,rfl⟩ (Ip qd) AN ⟨rfl,_,_,_,_,_,_,_,_,_,_,_,rfl,by simp[V.rowB]⟩
  | some nt2=>
   obtain⟨ar,qB⟩:=nt2;obtain⟨k1,qg,k3⟩:=Yg qb (r:=(sZ op ln nm [])) hl (Ip qd) hn2;simp only;rw[<-k3];unfold Dv;by_cases he:As [59] (A.drop (p+1+1))=true
   .rw[if_pos he,<-Eh];have ha:=Vx qb (r:=(sZ op ln nm ar)) hl he;have qh:=Ec he;have Zq:=Fc hS;obtain⟨-,-,-,-,qa,get,get0,set,set0,go,go0,so,so0,n0,n1,u0,u1⟩:=hS;simp only[go_sem,Zq,LZ];refine Aa h1 ?_;simp only[go_sem,Zq,LZ];refine Aa k1 ?_;simp only[go_sem,Zq,LZ];refine Aa ha ?_;simp only[go_sem,Zq,LZ];exact Fj rfl ⟨rfl,rfl⟩ AA AN ⟨rfl,rfl,rfl⟩
   .have he:As [59] (A.drop (p+1+1))=false:=by simpa using he
    rw[if_neg AA];have ha:=Vy qb (r:=(sZ op ln nm ar)) hl (Ip qg) he;have Zq:=Fc hS;obtain⟨-,-,-,-,qa,get,get0,set,set0,go,go0,so,so0,n0,n1,u0,u1⟩:=hS;simp only[go_sem,Zq,LZ];refine Aa h1 ?_;simp only[go_sem,Zq,LZ];refine Aa k1 ?_;simp only[go_sem,Zq,LZ];refine Aa ha ?_;simp only[go_sem,Zq,LZ];exact Fj rfl ⟨rfl,rfl⟩ (Ip qg) AN ⟨rfl,_,_,_,_,_,_,_,_,_,_,_,rfl,by simp[V.rowB]⟩
def A67{n:Nat}{s:St}{m o:Nat}{z:Bool}{t:Nat}{A:List Tk}{p:Nat}{op ln:Int}(hA:OkA A)(hT:D5 A)(hs:s[m]?=some (RO z t A p))(ho:s[o]?=some (sP op ln [] []))(qc:m≠o)(hp:p<=A.length)(hf:10*(A.length - p)+9<=n):
  Q3 202 s m o z t A (fun v q r=>match Ack n (A.drop p) with
   | some ((nm,x),ts)=>v=.bool true/\r=[.int .i64 op,.int .i64 ln,.str nm,.str [],.nils,.int .i64 x.op,.int .i64 x.n,.str x.nm,SL x.z x.t (x.l.map Xp.row),.nils,.nils]/\A.drop q=ts
   | none=>v=.bool false/\R7 r):=by
 refine Uj T202 hs ho qc fun S hS=>?_
 have hl:A.length<=1000000:=by have:=hA.len;omega
 have qb:=hS;have hm:=hS.low;have qn:=hS.lowo;unfold Ack
 cases hn:C6 (A.drop p) with
 | none=>
  have h1:=Yh qb (r:=(sZ op ln [] [])) hl hp hn;have Zq:=Fc hS;obtain⟨-,-,-,-,qa,get,get0,set,set0,go,go0,so,so0,n0,n1,u0,u1⟩:=hS;simp only[go_sem,Zq,LZ];refine Aa h1 ?_;simp only[go_sem,Zq,LZ];exact Fj rfl ⟨rfl,rfl⟩ hp AN ⟨rfl,_,_,_,_,_,_,_,_,_,_,_,rfl,by simp[V.rowB]⟩
 | some nt=>
  obtain⟨nm,ts⟩:=nt;obtain⟨h1,qd,h3⟩:=Yg qb (r:=(sZ op ln [] [])) hl hp hn;simp only;rw[<-h3];obtain⟨v,q,k1,k2,k3⟩:=Yf qb (p:=p+1) (r:=(sZ op ln nm [])) fun hs=>Vc (Z2 n).1 hA hs (Ip qd) AA
  unfold PR at k3
  cases hx:pe n 1 (A.drop (p+1)) with
  | none=>
   rw[hx]at k3;subst k3;have Zq:=Fc hS;obtain⟨-,-,-,-,qa,get,get0,set,set0,go,go0,so,so0,n0,n1,u0,u1⟩:=hS;simp only[go_sem,Zq,LZ];refine Aa h1 ?_;simp only[go_sem,Zq,LZ];refine Aa k1 ?_;simp only[go_sem,Zq,LZ];exact Fj rfl ⟨rfl,rfl⟩ k2 AN ⟨rfl,_,_,_,_,_,_,_,_,_,_,_,rfl,by simp[V.rowB]⟩
  | some xr=>
   obtain⟨x,qB⟩:=xr;rw[hx]at k3;obtain⟨rfl,k3⟩:=k3;have qj:=Dw x;have hr:=Bi x;rw[hr]at k1 qj;simp only;rw[<-k3];unfold Dv;by_cases he:As [59] (A.drop q)=true
   .rw[if_pos he,<-Eh];have ha:=Vx qb (r:=[iV op,iV ln,.str nm,.str [],.nils,iV x.op,iV x.n,.str x.nm,SL x.z x.t (x.l.map Xp.row),.nils,.nils]) hl he;have qh:=Ec he;have Zq:=Fc hS;obtain⟨-,-,-,-,qa,get,get0,set,set0,go,go0,so,so0,n0,n1,u0,u1⟩:=hS;simp only[go_sem,Zq,LZ];refine Aa h1 ?_;simp only[go_sem,Zq,LZ];refine Aa k1 ?_;simp only[go_sem,Zq,LZ];refine Aa ha ?_;simp only[go_sem,Zq,LZ];exact Fj rfl ⟨rfl,rfl⟩ AA (by simp only[B5,Db,Ai,Hi,I2];grind[V.rowB]) ⟨rfl,rfl,rfl⟩
   .have he:As [59] (A.drop q)=false:=by simpa using he
    rw[if_neg AA];have ha:=Vy qb (r:=[iV op,iV ln,.str nm,.str [],.nils,iV x.op,iV x.n,.str x.nm,SL x.z x.t (x.l.map Xp.row),.nils,.nils]) hl k2 he;have Zq:=Fc hS;obtain⟨-,-,-,-,qa,get,get0,set,set0,go,go0,so,so0,n0,n1,u0,u1⟩:=hS;simp only[go_sem,Zq,LZ];refine Aa h1 ?_;simp only[go_sem,Zq,LZ];refine Aa k1 ?_;simp only[go_sem,Zq,LZ];refine Aa ha ?_;simp only[go_sem,Zq,LZ];exact Fj rfl ⟨rfl,rfl⟩ k2 (by simp only[B5,Db,Ai,Hi,I2];grind[V.rowB]) ⟨rfl,_,_,_,_,_,_,_,_,_,_,_,rfl,by simp only[B5,Db,Ai,Hi,I2];grind[V.rowB]⟩
def A2x{n:Nat}{s:St}{m o:Nat}{z:Bool}{t:Nat}{A:List Tk}{p:Nat}{ln:Int}(hA:OkA A)(hT:D5 A)(hs:s[m]?=some (RO z t A p))(ho:s[o]?=some (sP 1 ln [] []))(qc:m≠o)(hp:p<=A.length)(hf:10*(A.length - p)+9<=n):
  Q3 170 s m o z t A (fun v q r=>match Sb n ln (A.drop p) with
   | some (x,ts)=>v=.bool true/\r=x.row/\A.drop q=ts
   | none=>v=.bool false/\R7 r):=by
 refine Uj T170 hs ho qc fun S hS=>?_
 have hl:A.length<=1000000:=by have:=hA.len;omega
 have qb:=hS;have hm:=hS.low;have qn:=hS.lowo;unfold Sb
 cases hn:C6 (A.drop p) with
 | none=>
  have h1:=Yh qb (r:=(sZ 1 ln [] [])) hl hp hn;have Zq:=Fc hS;obtain⟨-,-,-,-,qa,get,get0,set,set0,go,go0,so,so0,n0,n1,u0,u1⟩:=hS;simp only[go_sem,Zq,LZ];refine Aa h1 ?_;simp only[go_sem,Zq,LZ];exact Fj rfl ⟨rfl,rfl⟩ hp AN ⟨rfl,_,_,_,_,_,_,_,_,_,_,_,rfl,by simp[V.rowB]⟩
 | some nt=>
  obtain⟨nm,ts⟩:=nt;obtain⟨h1,qd,h3⟩:=Yg qb (r:=(sZ 1 ln [] [])) hl hp hn;simp only;rw[<-h3];unfold Ach Dv;by_cases qk:As [91] (A.drop (p+1))=true
  .rw[if_pos qk,<-Eh];have hb:=Vx qb (r:=(sZ 1 ln nm [])) hl qk;have qg:=Ec qk;obtain⟨v0,q0,j1,j2,j3⟩:=Yf qb (p:=p+1+1) (r:=(sZ 1 ln nm [])) fun hs=>Vc (Z2 n).1 hA hs AA AA
   unfold PR at j3;have qi:=fun x ts (h:pe n 1 (A.drop (p+1+1))=some (x,ts))=>(Ys n).1 _ _ _ _ h
   rw[Gz]at qi
   cases hy:pe n 1 (A.drop (p+1+1)) with
   | none=>
    rw[hy]at j3;subst j3;simp only;have Zq:=Fc hS;obtain⟨-,-,-,-,qa,get,get0,set,set0,go,go0,so,so0,n0,n1,u0,u1⟩:=hS;simp only[go_sem,Zq,LZ];refine Aa h1 ?_;simp only[go_sem,Zq,LZ];refine Aa hb ?_;simp only[go_sem,Zq,LZ];refine Aa j1 ?_;simp only[go_sem,Zq,LZ];exact Ye rfl ⟨rfl,rfl⟩ j2 AN ⟨rfl,_,_,_,_,_,_,_,_,_,_,_,rfl,by simp[V.rowB]⟩
   | some yr=>
    obtain⟨y,qt⟩:=yr;rw[hy]at j3;obtain⟨rfl,j3⟩:=j3;have qA:=Dw y;have qs:=Bi y;rw[qs]at j1 qA;have qi:=qi y qt hy;have qD:qt.length=A.length - q0:=by rw[<-j3,Gz]
    simp only;rw[<-j3];by_cases ql:As [93] (A.drop q0)=true
    .rw[if_pos ql];simp only[Ir];rw[<-Eh];have qm:=An5 qb (r:=(sZ 1 ln nm [])) [xO y] hl ql;have qq:=Ec ql;by_cases qe:As [61] (A.drop (q0+1))=true
     .rw[if_pos qe];simp only;rw[<-Eh];have ha:=An5 qb (r:=[iV 1,iV ln,.str nm,.str [],.lst 1 [(xR y)],iV 0,iV 0,.str [],.nils,.nils,.nils]) [xO y] hl qe;have qf:=Ec qe;obtain⟨v,q,k1,k2,k3⟩:=Bqy qb (p:=(q0+1)+1) (r:=[iV 1,iV ln,.str nm,.str [],.lst 1 [(xR y)],iV 0,iV 0,.str [],.nils,.nils,.nils]) (l:=[xO y]) fun hs=>Vc (Z2 n).1 hA hs (Ip qf) AA
      unfold PR at k3
      cases hx:pe n 1 (A.drop ((q0+1)+1)) with
      | none=>
       rw[hx]at k3;subst k3;simp only;have Zq:=Fc hS;obtain⟨-,-,-,-,qa,get,get0,set,set0,go,go0,so,so0,n0,n1,u0,u1⟩:=hS;simp only[go_sem,Zq,LZ];refine Aa h1 ?_;simp only[go_sem,Zq,LZ];refine Aa hb ?_;simp only[go_sem,Zq,LZ];refine Aa j1 ?_;simp only[go_sem,Zq,LZ];refine Aa qm ?_;simp only[go_sem,Zq,LZ];refine Aa ha ?_;simp only[go_sem,Zq,LZ];refine Aa k1 ?_;simp only[go_sem,Zq,LZ];exact Ye rfl ⟨rfl,rfl⟩ k2 AN ⟨rfl,_,_,_,_,_,_,_,_,_,_,_,rfl,by simp[V.rowB]⟩
      | some xr=>
       obtain⟨x,qC⟩:=xr;rw[hx]at k3;obtain⟨rfl,k3⟩:=k3;have qj:=Dw x;have hr:=Bi x;rw[hr]at k1 qj;simp only;rw[<-k3];by_cases he:As [59] (A.drop q)=true
       .rw[if_pos he,<-Eh];have hc:=An5 qb (r:=[iV 1,iV ln,.str nm,.str [],.lst 1 [(xR y)],iV x.op,iV x.n,.str x.nm,SL x.z x.t (x.l.map Xp.row),.nils,.nils]) [xO y] hl he;have qh:=Ec he;have Zq:=Fc hS;obtain⟨-,-,-,-,qa,get,get0,set,set0,go,go0,so,so0,n0,n1,u0,u1⟩:=hS;simp only[go_sem,Zq,LZ];refine Aa h1 ?_;simp only[go_sem,Zq,LZ];refine Aa hb ?_;simp only[go_sem,Zq,LZ];refine Aa j1 ?_;simp only[go_sem,Zq,LZ];refine Aa qm ?_;simp only[go_sem,Zq,LZ];refine Aa ha ?_;simp only[go_sem,Zq,LZ];refine Aa k1 ?_;simp only[go_sem,Zq,LZ];refine Aa hc ?_;simp only[go_sem,Zq,LZ];exact Ye rfl ⟨rfl,rfl⟩ AA (by simp only[B5,Db,Ai,Hi,I2];grind[V.rowB]) ⟨rfl,by rw[Fl];simp only[Aw,B0,qs];rfl,rfl⟩
       .have he:As [59] (A.drop q)=false:=by simpa using he
        rw[if_neg AA];have hc:=An6 qb (r:=[iV 1,iV ln,.str nm,.str [],.lst 1 [(xR y)],iV x.op,iV x.n,.str x.nm,SL x.z x.t (x.l.map Xp.row),.nils,.nils]) [xO y] hl k2 he;have Zq:=Fc hS;obtain⟨-,-,-,-,qa,get,get0,set,set0,go,go0,so,so0,n0,n1,u0,u1⟩:=hS;simp only[go_sem,Zq,LZ];refine Aa h1 ?_;simp only[go_sem,Zq,LZ];refine Aa hb ?_;simp only[go_sem,Zq,LZ];refine Aa j1 ?_;simp only[go_sem,Zq,LZ];refine Aa qm ?_;simp only[go_sem,Zq,LZ];refine Aa ha ?_;simp only[go_sem,Zq,LZ];refine Aa k1 ?_;simp only[go_sem,Zq,LZ];refine Aa hc ?_;simp only[go_sem,Zq,LZ];exact Ye rfl ⟨rfl,rfl⟩ k2 (by simp only[B5,Db,Ai,Hi,I2];grind[V.rowB]) ⟨rfl,_,_,_,_,_,_,_,_,_,_,_,rfl,by simp only[B5,Db,Ai,Hi,I2];grind[V.rowB]⟩
     .have qe:As [61] (A.drop (q0+1))=false:=by simpa using qe
      rw[if_neg AA];simp only;have ha:=An6 qb (r:=[iV 1,iV ln,.str nm,.str [],.lst 1 [(xR y)],iV 0,iV 0,.str [],.nils,.nils,.nils]) [xO y] hl (Ip qq) qe;have Zq:=Fc hS;obtain⟨-,-,-,-,qa,get,get0,set,set0,go,go0,so,so0,n0,n1,u0,u1⟩:=hS;simp only[go_sem,Zq,LZ];refine Aa h1 ?_;simp only[go_sem,Zq,LZ];refine Aa hb ?_;simp only[go_sem,Zq,LZ];refine Aa j1 ?_;simp only[go_sem,Zq,LZ];refine Aa qm ?_;simp only[go_sem,Zq,LZ];refine Aa ha ?_;simp only[go_sem,Zq,LZ];exact Ye rfl ⟨rfl,rfl⟩ (Ip qq) AN ⟨rfl,_,_,_,_,_,_,_,_,_,_,_,rfl,by simp[V.rowB]⟩
    .have ql:As [93] (A.drop q0)=false:=by simpa using ql
     rw[if_neg AA];simp only[Option.map_none];have qm:=An6 qb (r:=(sZ 1 ln nm [])) [xO y] hl j2 ql;have Zq:=Fc hS;obtain⟨-,-,-,-,qa,get,get0,set,set0,go,go0,so,so0,n0,n1,u0,u1⟩:=hS;simp only[go_sem,Zq,LZ];refine Aa h1 ?_;simp only[go_sem,Zq,LZ];refine Aa hb ?_;simp only[go_sem,Zq,LZ];refine Aa j1 ?_;simp only[go_sem,Zq,LZ];refine Aa qm ?_;simp only[go_sem,Zq,LZ];exact Ye rfl ⟨rfl,rfl⟩ j2 AN ⟨rfl,_,_,_,_,_,_,_,_,_,_,_,rfl,by simp[V.rowB]⟩
  .have qk:As [91] (A.drop (p+1))=false:=by simpa using qk
   rw[if_neg AA];simp only;have hb:=Vy qb (r:=(sZ 1 ln nm [])) hl (Ip qd) qk;by_cases qe:As [61] (A.drop (p+1))=true
   .rw[if_pos qe];simp only;rw[<-Eh];have ha:=Vx qb (r:=(sZ 1 ln nm [])) hl qe;have qf:=Ec qe;obtain⟨v,q,k1,k2,k3⟩:=Yf qb (p:=(p+1)+1) (r:=(sZ 1 ln nm [])) fun hs=>Vc (Z2 n).1 hA hs (Ip qf) AA
    unfold PR at k3
    cases hx:pe n 1 (A.drop ((p+1)+1)) with
    | none=>
     rw[hx]at k3;subst k3;simp only;have Zq:=Fc hS;obtain⟨-,-,-,-,qa,get,get0,set,set0,go,go0,so,so0,n0,n1,u0,u1⟩:=hS;simp only[go_sem,Zq,LZ];refine Aa h1 ?_;simp only[go_sem,Zq,LZ];refine Aa hb ?_;simp only[go_sem,Zq,LZ];refine Aa ha ?_;simp only[go_sem,Zq,LZ];refine Aa k1 ?_;simp only[go_sem,Zq,LZ];exact Fj rfl ⟨rfl,rfl⟩ k2 AN ⟨rfl,_,_,_,_,_,_,_,_,_,_,_,rfl,by simp[V.rowB]⟩
    | some xr=>
     obtain⟨x,qC⟩:=xr;rw[hx]at k3;obtain⟨rfl,k3⟩:=k3;have qj:=Dw x;have hr:=Bi x;rw[hr]at k1 qj;simp only;rw[<-k3];by_cases he:As [59] (A.drop q)=true
     .rw[if_pos he,<-Eh];have hc:=Vx qb (r:=[iV 1,iV ln,.str nm,.str [],.nils,iV x.op,iV x.n,.str x.nm,SL x.z x.t (x.l.map Xp.row),.nils,.nils]) hl he;have qh:=Ec he;have Zq:=Fc hS;obtain⟨-,-,-,-,qa,get,get0,set,set0,go,go0,so,so0,n0,n1,u0,u1⟩:=hS;simp only[go_sem,Zq,LZ];refine Aa h1 ?_;simp only[go_sem,Zq,LZ];refine Aa hb ?_;simp only[go_sem,Zq,LZ];refine Aa ha ?_;simp only[go_sem,Zq,LZ];refine Aa k1 ?_;simp only[go_sem,Zq,LZ];refine Aa hc ?_;simp only[go_sem,Zq,LZ];exact Fj rfl ⟨rfl,rfl⟩ AA (by simp only[B5,Db,Ai,Hi,I2];grind[V.rowB]) ⟨rfl,by rw[Fl];rfl,rfl⟩
     .have he:As [59] (A.drop q)=false:=by simpa using he
      rw[if_neg AA];have hc:=Vy qb (r:=[iV 1,iV ln,.str nm,.str [],.nils,iV x.op,iV x.n,.str x.nm,SL x.z x.t (x.l.map Xp.row),.nils,.nils]) hl k2 he;have Zq:=Fc hS;obtain⟨-,-,-,-,qa,get,get0,set,set0,go,go0,so,so0,n0,n1,u0,u1⟩:=hS;simp only[go_sem,Zq,LZ];refine Aa h1 ?_;simp only[go_sem,Zq,LZ];refine Aa hb ?_;simp only[go_sem,Zq,LZ];refine Aa ha ?_;simp only[go_sem,Zq,LZ];refine Aa k1 ?_;simp only[go_sem,Zq,LZ];refine Aa hc ?_;simp only[go_sem,Zq,LZ];exact Fj rfl ⟨rfl,rfl⟩ k2 (by simp only[B5,Db,Ai,Hi,I2];grind[V.rowB]) ⟨rfl,_,_,_,_,_,_,_,_,_,_,_,rfl,by simp only[B5,Db,Ai,Hi,I2];grind[V.rowB]⟩
   .have qe:As [61] (A.drop (p+1))=false:=by simpa using qe
    rw[if_neg AA];simp only;have ha:=Vy qb (r:=(sZ 1 ln nm [])) hl (Ip qd) qe;have Zq:=Fc hS;obtain⟨-,-,-,-,qa,get,get0,set,set0,go,go0,so,so0,n0,n1,u0,u1⟩:=hS;simp only[go_sem,Zq,LZ];refine Aa h1 ?_;simp only[go_sem,Zq,LZ];refine Aa hb ?_;simp only[go_sem,Zq,LZ];refine Aa ha ?_;simp only[go_sem,Zq,LZ];exact Fj rfl ⟨rfl,rfl⟩ (Ip qd) AN ⟨rfl,_,_,_,_,_,_,_,_,_,_,_,rfl,by simp[V.rowB]⟩
