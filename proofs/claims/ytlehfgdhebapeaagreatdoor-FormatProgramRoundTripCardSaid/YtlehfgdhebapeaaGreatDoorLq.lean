/- Walks: the parser's statements. -/
import Derived.Test.YtlehfgdhebapeaaGreatDoorLn
import Derived.Test.YtlehfgdhebapeaaGreatDoorHc
set_option linter.all false
namespace Go.Proofs.YtlehfgdhebapeaaGreatDoor.KM
open Go
structure RdT (s:St) (m o:Nat) (z:Bool) (t:Nat) (A:List Tk) (S:Nat→List V→St):Prop where
 low:m<s.length
 lowo:o<s.length
 ne:m≠o
 eq:∀ p r,S p r=(s.set m (RO z t A p)).set o (.row r 92 0 0)
 len:∀ p r,(S p r).length=s.length
 get:∀ (p:Nat) (r:List V) (l:St),(S p r++l)[m]?=some (.row [SL z t (A.map Tk.row),.int .i64 (p:Int)] 100 0 0)
 get0:∀ (p:Nat) (r:List V),(S p r)[m]?=some (.row [SL z t (A.map Tk.row),.int .i64 (p:Int)] 100 0 0)
 set:∀ (p q:Nat) (r:List V) (l:St),(S p r++l).set m (.row [SL z t (A.map Tk.row),.int .i64 (q:Int)] 100 0 0)=S q r++l
 set0:∀ (p q:Nat) (r:List V),(S p r).set m (.row [SL z t (A.map Tk.row),.int .i64 (q:Int)] 100 0 0)=S q r
 go:∀ (p:Nat) (r:List V) (l:St),(S p r++l)[o]?=some (.row r 92 0 0)
 go0:∀ (p:Nat) (r:List V),(S p r)[o]?=some (.row r 92 0 0)
 so:∀ (p:Nat) (r r':List V) (l:St),(S p r++l).set o (.row r' 92 0 0)=S p r'++l
 so0:∀ (p:Nat) (r r':List V),(S p r).set o (.row r' 92 0 0)=S p r'
 n0:∀ (p:Nat) (r:List V) (a:Ob) (l:St),(S p r++a::l)[s.length]?=some a
 n1:∀ (p:Nat) (r:List V) (a b:Ob) (l:St),(S p r++a::b::l)[s.length+1]?=some b
 u0:∀ (p:Nat) (r:List V) (a x:Ob) (l:St),(S p r++a::l).set s.length x=S p r++x::l
 u1:∀ (p:Nat) (r:List V) (a b x:Ob) (l:St),(S p r++a::b::l).set (s.length+1) x=S p r++a::x::l
theorem rs_open{s:St}{m o:Nat}(z:Bool)(t:Nat)(A:List Tk)(hm:m<s.length)(ho:o<s.length)(hne:m≠o):RdT s m o z t A (fun p r=>(s.set m (RO z t A p)).set o (.row r 92 0 0)):=by
 have hl:∀ p r,((s.set m (RO z t A p)).set o (.row r 92 0 0)).length=s.length:=fun p r=>by simp
 have hg:∀ (p:Nat) (r:List V),((s.set m (RO z t A p)).set o (.row r 92 0 0))[m]?=some (RO z t A p):=fun p r=>by
  rw[List.getElem?_set_ne (Ne.symm hne),List.getElem?_set_self hm]
 have hgo:∀ (p:Nat) (r:List V),((s.set m (RO z t A p)).set o (.row r 92 0 0))[o]?=some (.row r 92 0 0):=fun p r=>List.getElem?_set_self (by simpa using ho)
 have hs:∀ p q r,((s.set m (RO z t A p)).set o (.row r 92 0 0)).set m (RO z t A q)=(s.set m (RO z t A q)).set o (.row r 92 0 0):=fun p q r=>by
  rw[List.set_comm _ _ (Ne.symm hne),List.set_set]
 have hso:∀ p r r',((s.set m (RO z t A p)).set o (.row r 92 0 0)).set o (.row r' 92 0 0)=(s.set m (RO z t A p)).set o (.row r' 92 0 0):=fun p r r'=>by rw[List.set_set]
 refine⟨hm,ho,hne,fun _ _=>rfl,hl,fun p r l=>get_app_some (hg p r),fun p r=>hg p r,fun p q r l=>?_,fun p q r=>hs p q r,fun p r l=>get_app_some (hgo p r),fun p r=>hgo p r,fun p r r' l=>?_,fun p r r'=>hso p r r',fun p r a l=>?_,fun p r a b l=>?_,fun p r a x l=>?_,fun p r a b x l=>?_⟩
 ·rw[List.set_append_left _ _ (by simpa using hm)]
  exact congrArg (·++l) (hs p q r)
 ·rw[List.set_append_left _ _ (by simpa using ho)]
  exact congrArg (·++l) (hso p r r')
 ·rw[List.getElem?_append_right (by simp)]
  simp
 ·rw[List.getElem?_append_right (by simp)]
  simp
 ·rw[List.set_append_right _ _ (by simp)]
  simp
 ·rw[List.set_append_right _ _ (by simp)]
  simp
def RS2(f:Nat)(s:St)(m o:Nat)(z:Bool)(t:Nat)(A:List Tk)(R:V→Nat→List V→Prop):Prop:=∃ v p' r',ThP TT PT f [.ptr m 0 0,.ptr o 0 0] s v ((s.set m (RO z t A p')).set o (.row r' 92 0 0))∧p'≤A.length∧R v p' r'
theorem st_same2{s:St}{m o:Nat}{x y:Ob}(h:s[m]?=some x)(h':s[o]?=some y):(s.set m x).set o y=s:=by rw[st_same h,st_same h']
theorem rs_go{z:Bool}{t:Nat}{A:List Tk}{f m o q:Nat}{res:List AR}{thr:Bool}{body:AC}{s:St}{r0:List V}{R:V→Nat→List V→Prop}(hT:TT f=some ⟨2,res,thr,body,none⟩)(hs:s[m]?=some (RO z t A q))(ho:s[o]?=some (.row r0 92 0 0))(hne:m≠o)
  (h:∀ S,RdT s m o z t A S→W TT PT [.c body] (parEnv 0 [.ptr m 0 0,.ptr o 0 0]) (S q r0) (Hd fun e' σ1=>∃ v p' r' l,resV e' σ1 res=some v∧(okRes v=true∧v.refs=[])∧σ1=S p' r'++l∧p'≤A.length∧r'.all V.rowB=true∧R v p' r')):RS2 f s m o z t A R:=by
 have hm:=(List.getElem?_eq_some_iff.1 hs).1
 have hol:=(List.getElem?_eq_some_iff.1 ho).1
 have h:=h _ (rs_open z t A hm hol hne)
 rw[st_same2 hs ho]at h
 obtain⟨e',σ1,hE,v,p',r',l,hr,⟨h1,h2⟩,rfl,h3,h5,h4⟩:=h
 have htk:((s.set m (RO z t A p')).set o (.row r' 92 0 0)++l).take s.length=(s.set m (RO z t A p')).set o (.row r' 92 0 0):=by rw[List.take_append_of_le_length (by simp),List.take_of_length_le (by simp)]
 refine⟨v,p',r',?_,h3,h4⟩
 have:=Ev.fn hT rfl rfl hE hr h1 (by rw[h2];rfl) (fun i ob hi hob=>by
  rw[List.getElem?_append_left (by simpa using hi)]at hob
  by_cases hb:o=i
  ·subst hb
   rw[List.getElem?_set_self (by simpa using hol)]at hob
   cases hob
   exact .inr (by simp only[Ob.refs];rw[refsL_row h5];rfl)
  ·rw[List.getElem?_set_ne hb]at hob
   by_cases hb:m=i
   ·subst hb
    rw[List.getElem?_set_self hm]at hob
    cases hob
    exact .inr (by rw[ro_refs];rfl)
   ·rw[List.getElem?_set_ne hb]at hob
    exact .inl hob)
 rw[htk]at this
 exact⟨_,hT,rfl,this⟩
theorem rs_end{S:Nat→List V→St}{A:List Tk}{R:V→Nat→List V→Prop}{e:Env}{res:List AR}{v:V}{p:Nat}{r:List V}{l:St}(hr:resV e (S p r++l) res=some v)(hv:okRes v=true∧v.refs=[])(hp:p≤A.length)(hb:r.all V.rowB=true)(hR:R v p r):
  ∃ v p' r' l',resV e (S p r++l) res=some v∧(okRes v=true∧v.refs=[])∧S p r++l=S p' r'++l'∧p'≤A.length∧r'.all V.rowB=true∧R v p' r':=⟨v,p,r,l,hr,hv,rfl,hp,hb,hR⟩
theorem rs_end0{S:Nat→List V→St}{A:List Tk}{R:V→Nat→List V→Prop}{e:Env}{res:List AR}{v:V}{p:Nat}{r:List V}(hr:resV e (S p r) res=some v)(hv:okRes v=true∧v.refs=[])(hp:p≤A.length)(hb:r.all V.rowB=true)(hR:R v p r):
  ∃ v p' r' l',resV e (S p r) res=some v∧(okRes v=true∧v.refs=[])∧S p r=S p' r'++l'∧p'≤A.length∧r'.all V.rowB=true∧R v p' r':=⟨v,p,r,[],hr,hv,(List.append_nil _).symm,hp,hb,hR⟩
theorem rt_in{s:St}{m o:Nat}{z:Bool}{t:Nat}{A:List Tk}{S:Nat→List V→St}(hS:RdT s m o z t A S){f p:Nat}{r:List V}{av:List V}{l:St}{R:V→Nat→Prop}(h:(S p r++l)[m]?=some (RO z t A p)→RT f av (S p r++l) m z t A R):∃ v q,ThP TT PT f (.ptr m 0 0::av) (S p r++l) v (S q r++l)∧q≤A.length∧R v q:=by
 obtain⟨v,q,h1,h2,h3⟩:=h (hS.get p r l)
 rw[show(S p r++l).set m (RO z t A q)=S q r++l from hS.set p q r l]at h1
 exact⟨v,q,h1,h2,h3⟩
theorem rt_in0{s:St}{m o:Nat}{z:Bool}{t:Nat}{A:List Tk}{S:Nat→List V→St}(hS:RdT s m o z t A S){f p:Nat}{r:List V}{av:List V}{R:V→Nat→Prop}(h:(S p r)[m]?=some (RO z t A p)→RT f av (S p r) m z t A R):∃ v q,ThP TT PT f (.ptr m 0 0::av) (S p r) v (S q r)∧q≤A.length∧R v q:=by
 obtain⟨v,q,h1,h2,h3⟩:=h (hS.get0 p r)
 rw[show(S p r).set m (RO z t A q)=S q r from hS.set0 p q r]at h1
 exact⟨v,q,h1,h2,h3⟩
theorem at_in0{s:St}{m o:Nat}{z:Bool}{t:Nat}{A:List Tk}{S:Nat→List V→St}(hS:RdT s m o z t A S){p:Nat}{r:List V}(hA:A.length≤1000000){w:List UInt8}(h:isT w (A.drop p)=true):ThP TT PT 125 [.ptr m 0 0,.str w] (S p r) (.bool true) (S (p+1) r):=by
 have:=acc_t (hS.get0 p r) hA h
 rw[show(S p r).set m (RO z t A (p+1))=S (p+1) r from hS.set0 p (p+1) r]at this
 exact this
theorem af_in0{s:St}{m o:Nat}{z:Bool}{t:Nat}{A:List Tk}{S:Nat→List V→St}(hS:RdT s m o z t A S){p:Nat}{r:List V}(hA:A.length≤1000000)(hp:p≤A.length){w:List UInt8}(h:isT w (A.drop p)=false):ThP TT PT 125 [.ptr m 0 0,.str w] (S p r) (.bool false) (S p r):=acc_f (hS.get0 p r) hA hp h
theorem at_in{s:St}{m o:Nat}{z:Bool}{t:Nat}{A:List Tk}{S:Nat→List V→St}(hS:RdT s m o z t A S){p:Nat}{r:List V}(l:St)(hA:A.length≤1000000){w:List UInt8}(h:isT w (A.drop p)=true):ThP TT PT 125 [.ptr m 0 0,.str w] (S p r++l) (.bool true) (S (p+1) r++l):=by
 have:=acc_t (hS.get p r l) hA h
 rw[show(S p r++l).set m (RO z t A (p+1))=S (p+1) r++l from hS.set p (p+1) r l]at this
 exact this
theorem af_in{s:St}{m o:Nat}{z:Bool}{t:Nat}{A:List Tk}{S:Nat→List V→St}(hS:RdT s m o z t A S){p:Nat}{r:List V}(l:St)(hA:A.length≤1000000)(hp:p≤A.length){w:List UInt8}(h:isT w (A.drop p)=false):ThP TT PT 125 [.ptr m 0 0,.str w] (S p r++l) (.bool false) (S p r++l):=acc_f (hS.get p r l) hA hp h
theorem nt_in0{s:St}{m o:Nat}{z:Bool}{t:Nat}{A:List Tk}{S:Nat→List V→St}(hS:RdT s m o z t A S){p:Nat}{r:List V}(hA:A.length≤1000000)(hp:p≤A.length){w:List UInt8}{q:List Tk}(h:pName (A.drop p)=some (w,q)):ThP TT PT 122 [.ptr m 0 0] (S p r) (.tup [.str w,.bool true]) (S (p+1) r)∧p<A.length∧A.drop (p+1)=q:=by
 obtain⟨h1,h2⟩:=(nm_th (hS.get0 p r) hA hp).1 w q h
 rw[show(S p r).set m (RO z t A (p+1))=S (p+1) r from hS.set0 p (p+1) r]at h1
 exact⟨h1,h2⟩
theorem nf_in0{s:St}{m o:Nat}{z:Bool}{t:Nat}{A:List Tk}{S:Nat→List V→St}(hS:RdT s m o z t A S){p:Nat}{r:List V}(hA:A.length≤1000000)(hp:p≤A.length)(h:pName (A.drop p)=none):ThP TT PT 122 [.ptr m 0 0] (S p r) (.tup [.str [],.bool false]) (S p r):=(nm_th (hS.get0 p r) hA hp).2 h
/-! what is given back -/
def PRb(A:List Tk)(o:Option (List Sp × List Tk))(v:V)(p':Nat):Prop:=match o with
 | some (l,r)=>v=.tup [SL true 0 (l.map Sp.row),.bool true]∧A.drop p'=r
 | none=>v=.tup [.nils,.bool false]
def PBl(n:Nat):Prop:=∀ (s:St) (m:Nat) (z:Bool) (t:Nat) (A:List Tk) (p:Nat),OkA A→TokOk A→s[m]?=some (RO z t A p)→p≤A.length→10*(A.length - p)+2≤n→RT 126 [] s m z t A (PRb A (pbl n (A.drop p)))
theorem rows_set(l:List Sp):(SL true 0 (l.map Sp.row)).rowB=true:=by
 unfold SL
 split
 ·rfl
 ·rfl
theorem pblk_step{n:Nat}(hB:PBl n){s:St}{m o:Nat}{z:Bool}{t:Nat}{A:List Tk}{p:Nat}{c0 c1 c2 c3 c4 c5 c6 c7 c8 c9 c10:V}(hA:OkA A)(hT:TokOk A)(hs:s[m]?=some (RO z t A p))(ho:s[o]?=some (.row [c0,c1,c2,c3,c4,c5,c6,c7,c8,c9,c10] 92 0 0))(hne:m≠o)(hp:p≤A.length)(hb:[c0,c1,c2,c3,c4,c5,c6,c7,c8,c9,c10].all V.rowB=true)(hf:10*(A.length - p)+2≤n):
  RS2 227 s m o z t A (fun v q r=>match pbl n (A.drop p) with
   | some (l,ts)=>v=.bool true∧r=[c0,c1,c2,c3,c4,c5,c6,c7,c8,SL true 0 (l.map Sp.row),c10]∧A.drop q=ts
   | none=>v=.bool false∧r=[c0,c1,c2,c3,c4,c5,c6,c7,c8,.nils,c10]):=by
 refine rs_go T227 hs ho hne fun S hS=>?_
 obtain⟨v,q,h1,h2,h3⟩:=rt_in0 hS (r:=[c0,c1,c2,c3,c4,c5,c6,c7,c8,c9,c10]) fun hs=>hB _ m z t A p hA hT hs hp hf
 obtain⟨-,-,-,-,hlen,get,get0,set,set0,go,go0,so,so0,n0,n1,u0,u1⟩:=hS
 simp only[List.all_cons,List.all_nil,Bool.and_eq_true]at hb
 unfold PRb at h3
 simp only[go_sem,hlen,get,get0,set,set0,go,go0,so,so0,n0,n1,u0,u1,LZ]
 split at h3
 ·rename_i l ts hl
  obtain⟨rfl,h3⟩:=h3
  refine wx_any h1 ?_
  simp only[go_sem,hlen,get,get0,set,set0,go,go0,so,so0,n0,n1,u0,u1,LZ]
  exact rs_end0 rfl ⟨rfl,rfl⟩ h2 (by simp only[List.all_cons,List.all_nil,Bool.and_eq_true,rows_set];simp only[hb];trivial) ⟨rfl,rfl,h3⟩
 ·rename_i hl
  subst h3
  refine wx_any h1 ?_
  simp only[go_sem,hlen,get,get0,set,set0,go,go0,so,so0,n0,n1,u0,u1,LZ]
  exact rs_end0 rfl ⟨rfl,rfl⟩ h2 (by simp only[List.all_cons,List.all_nil,Bool.and_eq_true,(show V.rowB V.nils=true from rfl)];simp only[hb];trivial) ⟨rfl,rfl⟩
theorem xs_set(x:Xp):(SL x.z x.t (x.l.map Xp.row)).rowB=true:=by
 unfold SL
 split
 ·rfl
 ·rfl
def Bad11(r:List V):Prop:=∃ c0 c1 c2 c3 c4 c5 c6 c7 c8 c9 c10:V,r=[c0,c1,c2,c3,c4,c5,c6,c7,c8,c9,c10]∧r.all V.rowB=true
/-! the statements' own parts -/
def qLoop(n:Nat)(ts:List Tk):Option ((Xp × List Sp) × List Tk):=match pe n 1 ts with
 | none=>none
 | some (x,ts)=>match pbl n ts with
  | none=>none
  | some (b,ts)=>some ((x,b),ts)
def qCond(n:Nat)(ts:List Tk):Option ((Xp × List Sp × List Sp) × List Tk):=match qLoop n ts with
 | none=>none
 | some ((x,b),ts)=>if isT [101,108,115,101] ts=true then(match pbl n ts.tail with
   | none=>none
   | some (e,ts)=>some ((x,b,e),ts))
  else some ((x,b,[]),ts)
def qNB(n:Nat)(ts:List Tk):Option ((List UInt8 × List Sp) × List Tk):=match pName ts with
 | none=>none
 | some (nm,ts)=>match pbl n ts with
  | none=>none
  | some (b,ts)=>some ((nm,b),ts)
def qNm(ts:List Tk):Option (List UInt8 × List Tk):=match pName ts with
 | none=>none
 | some (nm,ts)=>(pTok [59] ts).map fun ts=>(nm,ts)
def qSet(n:Nat)(ts:List Tk):Option ((List UInt8 × Xp) × List Tk):=match pName ts with
 | none=>none
 | some (nm,ts)=>match pe n 1 ts with
  | none=>none
  | some (x,ts)=>(pTok [59] ts).map fun ts=>((nm,x),ts)
def qGet(ts:List Tk):Option ((List UInt8 × List UInt8) × List Tk):=match pName ts with
 | none=>none
 | some (nm,ts)=>match pName ts with
  | none=>none
  | some (ar,ts)=>(pTok [59] ts).map fun ts=>((nm,ar),ts)
theorem ploop_step{n:Nat}(hB:PBl n){s:St}{m o:Nat}{z:Bool}{t:Nat}{A:List Tk}{p:Nat}{op ln:Int}(hA:OkA A)(hT:TokOk A)(hs:s[m]?=some (RO z t A p))(ho:s[o]?=some (.row [.int .i64 op,.int .i64 ln,.str [],.str [],.nils,.int .i64 0,.int .i64 0,.str [],.nils,.nils,.nils] 92 0 0))(hne:m≠o)(hp:p≤A.length)(hf:10*(A.length - p)+9≤n):
  RS2 225 s m o z t A (fun v q r=>match qLoop n (A.drop p) with
   | some ((x,b),ts)=>v=.bool true∧r=[.int .i64 op,.int .i64 ln,.str [],.str [],.nils,.int .i64 x.op,.int .i64 x.n,.str x.nm,SL x.z x.t (x.l.map Xp.row),SL true 0 (b.map Sp.row),.nils]∧A.drop q=ts
   | none=>v=.bool false∧Bad11 r):=by
 refine rs_go T225 hs ho hne fun S hS=>?_
 have hl:A.length≤1000000:=by have:=hA.len;omega
 have hS':=hS
 have hm:=hS.low
 have hmo:=hS.lowo
 obtain⟨v,q,h1,h2,h3⟩:=rt_in0 hS (r:=[.int .i64 op,.int .i64 ln,.str [],.str [],.nils,.int .i64 0,.int .i64 0,.str [],.nils,.nils,.nils]) fun hs=>pexp_step (pexpr_all n).1 hA hs hp (by omega)
 unfold PR at h3
 have hqx:∀ x ts,pe n 1 (A.drop p)=some (x,ts)→qLoop n (A.drop p)=match pbl n ts with
   | none=>none
   | some (b,ts)=>some ((x,b),ts):=fun x ts h=>by unfold qLoop;rw[h]
 have hqn:pe n 1 (A.drop p)=none→qLoop n (A.drop p)=none:=fun h=>by unfold qLoop;rw[h]
 have hlt:=fun x ts (h:pe n 1 (A.drop p)=some (x,ts))=>(pe_lt n).1 _ _ _ _ h
 rw[List.length_drop]at hlt
 cases hx:pe n 1 (A.drop p) with
 | none=>
  rw[hx]at h3
  subst h3
  rw[hqn hx]
  obtain⟨-,-,-,-,hlen,get,get0,set,set0,go,go0,so,so0,n0,n1,u0,u1⟩:=hS
  simp only[go_sem,hlen,get,get0,set,set0,go,go0,so,so0,n0,n1,u0,u1,LZ]
  refine wx_any h1 ?_
  simp only[go_sem,hlen,get,get0,set,set0,go,go0,so,so0,n0,n1,u0,u1,LZ]
  exact rs_end0 rfl ⟨rfl,rfl⟩ h2 (by simp only[List.all_cons,List.all_nil,Bool.and_eq_true,rows_set,xs_set];simp only[V.rowB];trivial) ⟨rfl,_,_,_,_,_,_,_,_,_,_,_,rfl,by simp only[List.all_cons,List.all_nil,Bool.and_eq_true,rows_set,xs_set];simp only[V.rowB];trivial⟩
 | some xr=>
  obtain⟨x,ts⟩:=xr
  rw[hx]at h3
  obtain⟨rfl,h3⟩:=h3
  have hxs:=xset x
  have hr:=xrow_def x
  rw[hr]at h1 hxs
  rw[hqx x ts hx,←h3]
  have hlt:=hlt x ts hx
  have htl:ts.length=A.length - q:=by rw[←h3,List.length_drop]
  obtain⟨v2,q2,r2,k1,k2,k3⟩:=pblk_step (c0:=.int .i64 op) (c1:=.int .i64 ln) (c2:=.str []) (c3:=.str []) (c4:=.nils) (c5:=.int .i64 x.op) (c6:=.int .i64 x.n) (c7:=.str x.nm) (c8:=SL x.z x.t (x.l.map Xp.row)) (c9:=.nils) (c10:=.nils) hB hA hT (hS'.get0 q _) (hS'.go0 q _) hne h2 (by simp only[List.all_cons,List.all_nil,Bool.and_eq_true,rows_set,xs_set];simp only[V.rowB];trivial) (by omega)
  rw[show((S q [.int .i64 op,.int .i64 ln,.str [],.str [],.nils,.int .i64 x.op,.int .i64 x.n,.str x.nm,SL x.z x.t (x.l.map Xp.row),.nils,.nils]).set m (RO z t A q2)).set o (.row r2 92 0 0)=S q2 r2 from by rw[show(S q _).set m (RO z t A q2)=S q2 _ from hS'.set0 q q2 _,hS'.so0]]at k1
  obtain⟨-,-,-,-,hlen,get,get0,set,set0,go,go0,so,so0,n0,n1,u0,u1⟩:=hS
  simp only[go_sem,hlen,get,get0,set,set0,go,go0,so,so0,n0,n1,u0,u1,LZ]
  refine wx_any h1 ?_
  simp only[go_sem,hlen,get,get0,set,set0,go,go0,so,so0,n0,n1,u0,u1,LZ]
  refine wx_any k1 ?_
  cases hb:pbl n (A.drop q) with
  | none=>
   rw[hb]at k3
   obtain⟨rfl,rfl⟩:=k3
   simp only[go_sem,hlen,get,get0,set,set0,go,go0,so,so0,n0,n1,u0,u1,LZ]
   exact rs_end0 rfl ⟨rfl,rfl⟩ k2 (by simp only[List.all_cons,List.all_nil,Bool.and_eq_true,rows_set,xs_set];simp only[V.rowB];trivial) ⟨rfl,_,_,_,_,_,_,_,_,_,_,_,rfl,by simp only[List.all_cons,List.all_nil,Bool.and_eq_true,rows_set,xs_set];simp only[V.rowB];trivial⟩
  | some bl=>
   obtain⟨b,tl⟩:=bl
   rw[hb]at k3
   obtain⟨rfl,rfl,k3⟩:=k3
   simp only[go_sem,hlen,get,get0,set,set0,go,go0,so,so0,n0,n1,u0,u1,LZ]
   exact rs_end0 rfl ⟨rfl,rfl⟩ k2 (by simp only[List.all_cons,List.all_nil,Bool.and_eq_true,rows_set,xs_set];simp only[V.rowB];trivial) ⟨rfl,rfl,k3⟩
theorem pcond_step{n:Nat}(hB:PBl n){s:St}{m o:Nat}{z:Bool}{t:Nat}{A:List Tk}{p:Nat}{op ln:Int}(hA:OkA A)(hT:TokOk A)(hs:s[m]?=some (RO z t A p))(ho:s[o]?=some (.row [.int .i64 op,.int .i64 ln,.str [],.str [],.nils,.int .i64 0,.int .i64 0,.str [],.nils,.nils,.nils] 92 0 0))(hne:m≠o)(hp:p≤A.length)(hf:10*(A.length - p)+9≤n):
  RS2 224 s m o z t A (fun v q r=>match qCond n (A.drop p) with
   | some ((x,b,e),ts)=>v=.bool true∧r=[.int .i64 op,.int .i64 ln,.str [],.str [],.nils,.int .i64 x.op,.int .i64 x.n,.str x.nm,SL x.z x.t (x.l.map Xp.row),SL true 0 (b.map Sp.row),SL true 0 (e.map Sp.row)]∧A.drop q=ts
   | none=>v=.bool false∧Bad11 r):=by
 refine rs_go T224 hs ho hne fun S hS=>?_
 have hl:A.length≤1000000:=by have:=hA.len;omega
 have hS':=hS
 have hm:=hS.low
 have hmo:=hS.lowo
 obtain⟨v1,q,r1,h1,h2,h3⟩:=ploop_step hB hA hT (hS'.get0 p _) (hS'.go0 p [.int .i64 op,.int .i64 ln,.str [],.str [],.nils,.int .i64 0,.int .i64 0,.str [],.nils,.nils,.nils]) hne hp hf
 rw[show((S p [.int .i64 op,.int .i64 ln,.str [],.str [],.nils,.int .i64 0,.int .i64 0,.str [],.nils,.nils,.nils]).set m (RO z t A q)).set o (.row r1 92 0 0)=S q r1 from by rw[show(S p _).set m (RO z t A q)=S q _ from hS'.set0 p q _,hS'.so0]]at h1
 have hlt:=fun x ts (h:pe n 1 (A.drop p)=some (x,ts))=>(pe_lt n).1 _ _ _ _ h
 rw[List.length_drop]at hlt
 unfold qCond
 cases hq:qLoop n (A.drop p) with
 | none=>
  rw[hq]at h3
  obtain⟨rfl,hbad⟩:=h3
  obtain⟨-,-,-,-,hlen,get,get0,set,set0,go,go0,so,so0,n0,n1,u0,u1⟩:=hS
  simp only[go_sem,hlen,get,get0,set,set0,go,go0,so,so0,n0,n1,u0,u1,LZ]
  refine wx_any h1 ?_
  simp only[go_sem,hlen,get,get0,set,set0,go,go0,so,so0,n0,n1,u0,u1,LZ]
  exact rs_end0 rfl ⟨rfl,rfl⟩ h2 (by obtain⟨_,_,_,_,_,_,_,_,_,_,_,-,hb⟩:=hbad;exact hb) ⟨rfl,hbad⟩
 | some xb=>
  obtain⟨⟨x,b⟩,ts⟩:=xb
  rw[hq]at h3
  obtain⟨rfl,rfl,h3⟩:=h3
  simp only
  rw[←h3]
  have hts:A.length - q<A.length - p:=by
   unfold qLoop at hq
   split at hq
   ·cases hq
   ·rename_i y t1 hy
    have:=hlt _ _ hy
    split at hq
    ·cases hq
    ·rename_i b' t2 hb'
     cases hq
     have h4:=((ps_shape (M:=0) (C:=100) (by omega) n).2.1 _ _ _ (tok_suf hT (by
      have:=((pe_shape (C:=25) (Nat.le_refl _) n).1 _ _ _ _ (tok_suf hT (List.drop_suffix p A)) hy).2.1
      exact this.trans (List.drop_suffix p A))) hb').2.2.1
     have h5:(A.drop q).length=A.length - q:=List.length_drop
     rw[h3]at h5
     omega
  by_cases he:isT [101,108,115,101] (A.drop q)=true
  ·rw[if_pos he,←drop_succ]
   have ha:=at_in0 hS' (r:=[.int .i64 op,.int .i64 ln,.str [],.str [],.nils,.int .i64 x.op,.int .i64 x.n,.str x.nm,SL x.z x.t (x.l.map Xp.row),SL true 0 (b.map Sp.row),.nils]) hl he
   have hlt2:=isT_lt he
   obtain⟨v2,q2,k1,k2,k3⟩:=rt_in0 hS' (p:=q+1) (r:=[.int .i64 op,.int .i64 ln,.str [],.str [],.nils,.int .i64 x.op,.int .i64 x.n,.str x.nm,SL x.z x.t (x.l.map Xp.row),SL true 0 (b.map Sp.row),.nils]) fun hs=>hB _ m z t A (q+1) hA hT hs (by omega) (by omega)
   unfold PRb at k3
   obtain⟨-,-,-,-,hlen,get,get0,set,set0,go,go0,so,so0,n0,n1,u0,u1⟩:=hS
   simp only[go_sem,hlen,get,get0,set,set0,go,go0,so,so0,n0,n1,u0,u1,LZ]
   refine wx_any h1 ?_
   simp only[go_sem,hlen,get,get0,set,set0,go,go0,so,so0,n0,n1,u0,u1,LZ]
   refine wx_any ha ?_
   simp only[go_sem,hlen,get,get0,set,set0,go,go0,so,so0,n0,n1,u0,u1,LZ]
   cases hb:pbl n (A.drop (q+1)) with
   | none=>
    rw[hb]at k3
    subst k3
    refine wx_any k1 ?_
    simp only[go_sem,hlen,get,get0,set,set0,go,go0,so,so0,n0,n1,u0,u1,LZ]
    exact rs_end0 rfl ⟨rfl,rfl⟩ k2 (by simp only[List.all_cons,List.all_nil,Bool.and_eq_true,rows_set,xs_set];simp only[V.rowB];trivial) ⟨rfl,_,_,_,_,_,_,_,_,_,_,_,rfl,by simp only[List.all_cons,List.all_nil,Bool.and_eq_true,rows_set,xs_set];simp only[V.rowB];trivial⟩
   | some el=>
    obtain⟨e,tl⟩:=el
    rw[hb]at k3
    obtain⟨rfl,k3⟩:=k3
    refine wx_any k1 ?_
    simp only[go_sem,hlen,get,get0,set,set0,go,go0,so,so0,n0,n1,u0,u1,LZ]
    exact rs_end0 rfl ⟨rfl,rfl⟩ k2 (by simp only[List.all_cons,List.all_nil,Bool.and_eq_true,rows_set,xs_set];simp only[V.rowB];trivial) ⟨rfl,rfl,k3⟩
  ·have he:isT [101,108,115,101] (A.drop q)=false:=by simpa using he
   rw[if_neg (by rw[he];decide)]
   have ha:=af_in0 hS' (r:=[.int .i64 op,.int .i64 ln,.str [],.str [],.nils,.int .i64 x.op,.int .i64 x.n,.str x.nm,SL x.z x.t (x.l.map Xp.row),SL true 0 (b.map Sp.row),.nils]) hl h2 he
   obtain⟨-,-,-,-,hlen,get,get0,set,set0,go,go0,so,so0,n0,n1,u0,u1⟩:=hS
   simp only[go_sem,hlen,get,get0,set,set0,go,go0,so,so0,n0,n1,u0,u1,LZ]
   refine wx_any h1 ?_
   simp only[go_sem,hlen,get,get0,set,set0,go,go0,so,so0,n0,n1,u0,u1,LZ]
   refine wx_any ha ?_
   simp only[go_sem,hlen,get,get0,set,set0,go,go0,so,so0,n0,n1,u0,u1,LZ]
   exact rs_end0 rfl ⟨rfl,rfl⟩ h2 (by simp only[List.all_cons,List.all_nil,Bool.and_eq_true,rows_set,xs_set];simp only[V.rowB];trivial) ⟨rfl,rfl,rfl⟩
theorem pnb_step{n:Nat}(hB:PBl n){s:St}{m o:Nat}{z:Bool}{t:Nat}{A:List Tk}{p:Nat}{op ln:Int}(hA:OkA A)(hT:TokOk A)(hs:s[m]?=some (RO z t A p))(ho:s[o]?=some (.row [.int .i64 op,.int .i64 ln,.str [],.str [],.nils,.int .i64 0,.int .i64 0,.str [],.nils,.nils,.nils] 92 0 0))(hne:m≠o)(hp:p≤A.length)(hf:10*(A.length - p)+9≤n):
  RS2 226 s m o z t A (fun v q r=>match qNB n (A.drop p) with
   | some ((nm,b),ts)=>v=.bool true∧r=[.int .i64 op,.int .i64 ln,.str nm,.str [],.nils,.int .i64 0,.int .i64 0,.str [],.nils,SL true 0 (b.map Sp.row),.nils]∧A.drop q=ts
   | none=>v=.bool false∧Bad11 r):=by
 refine rs_go T226 hs ho hne fun S hS=>?_
 have hl:A.length≤1000000:=by have:=hA.len;omega
 have hS':=hS
 have hm:=hS.low
 have hmo:=hS.lowo
 unfold qNB
 cases hn:pName (A.drop p) with
 | none=>
  have h1:=nf_in0 hS' (r:=[.int .i64 op,.int .i64 ln,.str [],.str [],.nils,.int .i64 0,.int .i64 0,.str [],.nils,.nils,.nils]) hl hp hn
  obtain⟨-,-,-,-,hlen,get,get0,set,set0,go,go0,so,so0,n0,n1,u0,u1⟩:=hS
  simp only[go_sem,hlen,get,get0,set,set0,go,go0,so,so0,n0,n1,u0,u1,LZ]
  refine wx_any h1 ?_
  simp only[go_sem,hlen,get,get0,set,set0,go,go0,so,so0,n0,n1,u0,u1,LZ]
  exact rs_end0 rfl ⟨rfl,rfl⟩ hp (by simp only[List.all_cons,List.all_nil,Bool.and_eq_true,rows_set,xs_set];simp only[V.rowB];trivial) ⟨rfl,_,_,_,_,_,_,_,_,_,_,_,rfl,by simp only[List.all_cons,List.all_nil,Bool.and_eq_true,rows_set,xs_set];simp only[V.rowB];trivial⟩
 | some nt=>
  obtain⟨nm,ts⟩:=nt
  obtain⟨h1,hlt,h3⟩:=nt_in0 hS' (r:=[.int .i64 op,.int .i64 ln,.str [],.str [],.nils,.int .i64 0,.int .i64 0,.str [],.nils,.nils,.nils]) hl hp hn
  simp only
  rw[←h3]
  obtain⟨v2,q2,r2,k1,k2,k3⟩:=pblk_step (c0:=.int .i64 op) (c1:=.int .i64 ln) (c2:=.str nm) (c3:=.str []) (c4:=.nils) (c5:=.int .i64 0) (c6:=.int .i64 0) (c7:=.str []) (c8:=.nils) (c9:=.nils) (c10:=.nils) hB hA hT (hS'.get0 (p+1) _) (hS'.go0 (p+1) _) hne (Nat.succ_le_of_lt hlt) (by simp only[List.all_cons,List.all_nil,Bool.and_eq_true,rows_set,xs_set];simp only[V.rowB];trivial) (by omega)
  rw[show((S (p+1) [.int .i64 op,.int .i64 ln,.str nm,.str [],.nils,.int .i64 0,.int .i64 0,.str [],.nils,.nils,.nils]).set m (RO z t A q2)).set o (.row r2 92 0 0)=S q2 r2 from by rw[show(S (p+1) _).set m (RO z t A q2)=S q2 _ from hS'.set0 (p+1) q2 _,hS'.so0]]at k1
  obtain⟨-,-,-,-,hlen,get,get0,set,set0,go,go0,so,so0,n0,n1,u0,u1⟩:=hS
  simp only[go_sem,hlen,get,get0,set,set0,go,go0,so,so0,n0,n1,u0,u1,LZ]
  refine wx_any h1 ?_
  simp only[go_sem,hlen,get,get0,set,set0,go,go0,so,so0,n0,n1,u0,u1,LZ]
  refine wx_any k1 ?_
  cases hb:pbl n (A.drop (p+1)) with
  | none=>
   rw[hb]at k3
   obtain⟨rfl,rfl⟩:=k3
   simp only[go_sem,hlen,get,get0,set,set0,go,go0,so,so0,n0,n1,u0,u1,LZ]
   exact rs_end0 rfl ⟨rfl,rfl⟩ k2 (by simp only[List.all_cons,List.all_nil,Bool.and_eq_true,rows_set,xs_set];simp only[V.rowB];trivial) ⟨rfl,_,_,_,_,_,_,_,_,_,_,_,rfl,by simp only[List.all_cons,List.all_nil,Bool.and_eq_true,rows_set,xs_set];simp only[V.rowB];trivial⟩
  | some bl=>
   obtain⟨b,tl⟩:=bl
   rw[hb]at k3
   obtain⟨rfl,rfl,k3⟩:=k3
   simp only[go_sem,hlen,get,get0,set,set0,go,go0,so,so0,n0,n1,u0,u1,LZ]
   exact rs_end0 rfl ⟨rfl,rfl⟩ k2 (by simp only[List.all_cons,List.all_nil,Bool.and_eq_true,rows_set,xs_set];simp only[V.rowB];trivial) ⟨rfl,rfl,k3⟩
theorem pnamed_step{n:Nat}{s:St}{m o:Nat}{z:Bool}{t:Nat}{A:List Tk}{p:Nat}{op ln:Int}(hA:OkA A)(hT:TokOk A)(hs:s[m]?=some (RO z t A p))(ho:s[o]?=some (.row [.int .i64 op,.int .i64 ln,.str [],.str [],.nils,.int .i64 0,.int .i64 0,.str [],.nils,.nils,.nils] 92 0 0))(hne:m≠o)(hp:p≤A.length)(hf:10*(A.length - p)+9≤n):
  RS2 228 s m o z t A (fun v q r=>match qNm (A.drop p) with
   | some (nm,ts)=>v=.bool true∧r=[.int .i64 op,.int .i64 ln,.str nm,.str [],.nils,.int .i64 0,.int .i64 0,.str [],.nils,.nils,.nils]∧A.drop q=ts
   | none=>v=.bool false∧Bad11 r):=by
 refine rs_go T228 hs ho hne fun S hS=>?_
 have hl:A.length≤1000000:=by have:=hA.len;omega
 have hS':=hS
 have hm:=hS.low
 have hmo:=hS.lowo
 unfold qNm
 cases hn:pName (A.drop p) with
 | none=>
  have h1:=nf_in0 hS' (r:=[.int .i64 op,.int .i64 ln,.str [],.str [],.nils,.int .i64 0,.int .i64 0,.str [],.nils,.nils,.nils]) hl hp hn
  obtain⟨-,-,-,-,hlen,get,get0,set,set0,go,go0,so,so0,n0,n1,u0,u1⟩:=hS
  simp only[go_sem,hlen,get,get0,set,set0,go,go0,so,so0,n0,n1,u0,u1,LZ]
  refine wx_any h1 ?_
  simp only[go_sem,hlen,get,get0,set,set0,go,go0,so,so0,n0,n1,u0,u1,LZ]
  exact rs_end0 rfl ⟨rfl,rfl⟩ hp (by simp only[List.all_cons,List.all_nil,Bool.and_eq_true,rows_set,xs_set];simp only[V.rowB];trivial) ⟨rfl,_,_,_,_,_,_,_,_,_,_,_,rfl,by simp only[List.all_cons,List.all_nil,Bool.and_eq_true,rows_set,xs_set];simp only[V.rowB];trivial⟩
 | some nt=>
  obtain⟨nm,ts⟩:=nt
  obtain⟨h1,hlt,h3⟩:=nt_in0 hS' (r:=[.int .i64 op,.int .i64 ln,.str [],.str [],.nils,.int .i64 0,.int .i64 0,.str [],.nils,.nils,.nils]) hl hp hn
  simp only
  rw[←h3]
  unfold pTok
  by_cases he:isT [59] (A.drop (p+1))=true
  ·rw[if_pos he,←drop_succ]
   have ha:=at_in0 hS' (r:=[.int .i64 op,.int .i64 ln,.str nm,.str [],.nils,.int .i64 0,.int .i64 0,.str [],.nils,.nils,.nils]) hl he
   have hlt9:=isT_lt he
   obtain⟨-,-,-,-,hlen,get,get0,set,set0,go,go0,so,so0,n0,n1,u0,u1⟩:=hS
   simp only[go_sem,hlen,get,get0,set,set0,go,go0,so,so0,n0,n1,u0,u1,LZ]
   refine wx_any h1 ?_
   simp only[go_sem,hlen,get,get0,set,set0,go,go0,so,so0,n0,n1,u0,u1,LZ]
   refine wx_any ha ?_
   simp only[go_sem,hlen,get,get0,set,set0,go,go0,so,so0,n0,n1,u0,u1,LZ]
   exact rs_end0 rfl ⟨rfl,rfl⟩ (by omega) (by simp only[List.all_cons,List.all_nil,Bool.and_eq_true,rows_set,xs_set];simp only[V.rowB];trivial) ⟨rfl,rfl,rfl⟩
  ·have he:isT [59] (A.drop (p+1))=false:=by simpa using he
   rw[if_neg (by rw[he];decide)]
   have ha:=af_in0 hS' (r:=[.int .i64 op,.int .i64 ln,.str nm,.str [],.nils,.int .i64 0,.int .i64 0,.str [],.nils,.nils,.nils]) hl (Nat.succ_le_of_lt hlt) he
   obtain⟨-,-,-,-,hlen,get,get0,set,set0,go,go0,so,so0,n0,n1,u0,u1⟩:=hS
   simp only[go_sem,hlen,get,get0,set,set0,go,go0,so,so0,n0,n1,u0,u1,LZ]
   refine wx_any h1 ?_
   simp only[go_sem,hlen,get,get0,set,set0,go,go0,so,so0,n0,n1,u0,u1,LZ]
   refine wx_any ha ?_
   simp only[go_sem,hlen,get,get0,set,set0,go,go0,so,so0,n0,n1,u0,u1,LZ]
   exact rs_end0 rfl ⟨rfl,rfl⟩ (Nat.succ_le_of_lt hlt) (by simp only[List.all_cons,List.all_nil,Bool.and_eq_true,rows_set,xs_set];simp only[V.rowB];trivial) ⟨rfl,_,_,_,_,_,_,_,_,_,_,_,rfl,by simp only[List.all_cons,List.all_nil,Bool.and_eq_true,rows_set,xs_set];simp only[V.rowB];trivial⟩
theorem pget_step{n:Nat}{s:St}{m o:Nat}{z:Bool}{t:Nat}{A:List Tk}{p:Nat}{op ln:Int}(hA:OkA A)(hT:TokOk A)(hs:s[m]?=some (RO z t A p))(ho:s[o]?=some (.row [.int .i64 op,.int .i64 ln,.str [],.str [],.nils,.int .i64 0,.int .i64 0,.str [],.nils,.nils,.nils] 92 0 0))(hne:m≠o)(hp:p≤A.length)(hf:10*(A.length - p)+9≤n):
  RS2 230 s m o z t A (fun v q r=>match qGet (A.drop p) with
   | some ((nm,ar),ts)=>v=.bool true∧r=[.int .i64 op,.int .i64 ln,.str nm,.str ar,.nils,.int .i64 0,.int .i64 0,.str [],.nils,.nils,.nils]∧A.drop q=ts
   | none=>v=.bool false∧Bad11 r):=by
 refine rs_go T230 hs ho hne fun S hS=>?_
 have hl:A.length≤1000000:=by have:=hA.len;omega
 have hS':=hS
 have hm:=hS.low
 have hmo:=hS.lowo
 unfold qGet
 cases hn:pName (A.drop p) with
 | none=>
  have h1:=nf_in0 hS' (r:=[.int .i64 op,.int .i64 ln,.str [],.str [],.nils,.int .i64 0,.int .i64 0,.str [],.nils,.nils,.nils]) hl hp hn
  obtain⟨-,-,-,-,hlen,get,get0,set,set0,go,go0,so,so0,n0,n1,u0,u1⟩:=hS
  simp only[go_sem,hlen,get,get0,set,set0,go,go0,so,so0,n0,n1,u0,u1,LZ]
  refine wx_any h1 ?_
  simp only[go_sem,hlen,get,get0,set,set0,go,go0,so,so0,n0,n1,u0,u1,LZ]
  exact rs_end0 rfl ⟨rfl,rfl⟩ hp (by simp only[List.all_cons,List.all_nil,Bool.and_eq_true,rows_set,xs_set];simp only[V.rowB];trivial) ⟨rfl,_,_,_,_,_,_,_,_,_,_,_,rfl,by simp only[List.all_cons,List.all_nil,Bool.and_eq_true,rows_set,xs_set];simp only[V.rowB];trivial⟩
 | some nt=>
  obtain⟨nm,ts⟩:=nt
  obtain⟨h1,hlt,h3⟩:=nt_in0 hS' (r:=[.int .i64 op,.int .i64 ln,.str [],.str [],.nils,.int .i64 0,.int .i64 0,.str [],.nils,.nils,.nils]) hl hp hn
  simp only
  rw[←h3]
  cases hn2:pName (A.drop (p+1)) with
  | none=>
   have k1:=nf_in0 hS' (r:=[.int .i64 op,.int .i64 ln,.str nm,.str [],.nils,.int .i64 0,.int .i64 0,.str [],.nils,.nils,.nils]) hl (Nat.succ_le_of_lt hlt) hn2
   obtain⟨-,-,-,-,hlen,get,get0,set,set0,go,go0,so,so0,n0,n1,u0,u1⟩:=hS
   simp only[go_sem,hlen,get,get0,set,set0,go,go0,so,so0,n0,n1,u0,u1,LZ]
   refine wx_any h1 ?_
   simp only[go_sem,hlen,get,get0,set,set0,go,go0,so,so0,n0,n1,u0,u1,LZ]
   refine wx_any k1 ?_
   simp only[go_sem,hlen,get,get0,set,set0,go,go0,so,so0,n0,n1,u0,u1,LZ]
   exact rs_end0 rfl ⟨rfl,rfl⟩ (Nat.succ_le_of_lt hlt) (by simp only[List.all_cons,List.all_nil,Bool.and_eq_true,rows_set,xs_set];simp only[V.rowB];trivial) ⟨rfl,_,_,_,_,_,_,_,_,_,_,_,rfl,by simp only[List.all_cons,List.all_nil,Bool.and_eq_true,rows_set,xs_set];simp only[V.rowB];trivial⟩
  | some nt2=>
   obtain⟨ar,ts2⟩:=nt2
   obtain⟨k1,hlt2,k3⟩:=nt_in0 hS' (r:=[.int .i64 op,.int .i64 ln,.str nm,.str [],.nils,.int .i64 0,.int .i64 0,.str [],.nils,.nils,.nils]) hl (Nat.succ_le_of_lt hlt) hn2
   simp only
   rw[←k3]
   unfold pTok
   by_cases he:isT [59] (A.drop (p+1+1))=true
   ·rw[if_pos he,←drop_succ]
    have ha:=at_in0 hS' (r:=[.int .i64 op,.int .i64 ln,.str nm,.str ar,.nils,.int .i64 0,.int .i64 0,.str [],.nils,.nils,.nils]) hl he
    have hlt9:=isT_lt he
    obtain⟨-,-,-,-,hlen,get,get0,set,set0,go,go0,so,so0,n0,n1,u0,u1⟩:=hS
    simp only[go_sem,hlen,get,get0,set,set0,go,go0,so,so0,n0,n1,u0,u1,LZ]
    refine wx_any h1 ?_
    simp only[go_sem,hlen,get,get0,set,set0,go,go0,so,so0,n0,n1,u0,u1,LZ]
    refine wx_any k1 ?_
    simp only[go_sem,hlen,get,get0,set,set0,go,go0,so,so0,n0,n1,u0,u1,LZ]
    refine wx_any ha ?_
    simp only[go_sem,hlen,get,get0,set,set0,go,go0,so,so0,n0,n1,u0,u1,LZ]
    exact rs_end0 rfl ⟨rfl,rfl⟩ (by omega) (by simp only[List.all_cons,List.all_nil,Bool.and_eq_true,rows_set,xs_set];simp only[V.rowB];trivial) ⟨rfl,rfl,rfl⟩
   ·have he:isT [59] (A.drop (p+1+1))=false:=by simpa using he
    rw[if_neg (by rw[he];decide)]
    have ha:=af_in0 hS' (r:=[.int .i64 op,.int .i64 ln,.str nm,.str ar,.nils,.int .i64 0,.int .i64 0,.str [],.nils,.nils,.nils]) hl (Nat.succ_le_of_lt hlt2) he
    obtain⟨-,-,-,-,hlen,get,get0,set,set0,go,go0,so,so0,n0,n1,u0,u1⟩:=hS
    simp only[go_sem,hlen,get,get0,set,set0,go,go0,so,so0,n0,n1,u0,u1,LZ]
    refine wx_any h1 ?_
    simp only[go_sem,hlen,get,get0,set,set0,go,go0,so,so0,n0,n1,u0,u1,LZ]
    refine wx_any k1 ?_
    simp only[go_sem,hlen,get,get0,set,set0,go,go0,so,so0,n0,n1,u0,u1,LZ]
    refine wx_any ha ?_
    simp only[go_sem,hlen,get,get0,set,set0,go,go0,so,so0,n0,n1,u0,u1,LZ]
    exact rs_end0 rfl ⟨rfl,rfl⟩ (Nat.succ_le_of_lt hlt2) (by simp only[List.all_cons,List.all_nil,Bool.and_eq_true,rows_set,xs_set];simp only[V.rowB];trivial) ⟨rfl,_,_,_,_,_,_,_,_,_,_,_,rfl,by simp only[List.all_cons,List.all_nil,Bool.and_eq_true,rows_set,xs_set];simp only[V.rowB];trivial⟩
theorem pset_step{n:Nat}{s:St}{m o:Nat}{z:Bool}{t:Nat}{A:List Tk}{p:Nat}{op ln:Int}(hA:OkA A)(hT:TokOk A)(hs:s[m]?=some (RO z t A p))(ho:s[o]?=some (.row [.int .i64 op,.int .i64 ln,.str [],.str [],.nils,.int .i64 0,.int .i64 0,.str [],.nils,.nils,.nils] 92 0 0))(hne:m≠o)(hp:p≤A.length)(hf:10*(A.length - p)+9≤n):
  RS2 229 s m o z t A (fun v q r=>match qSet n (A.drop p) with
   | some ((nm,x),ts)=>v=.bool true∧r=[.int .i64 op,.int .i64 ln,.str nm,.str [],.nils,.int .i64 x.op,.int .i64 x.n,.str x.nm,SL x.z x.t (x.l.map Xp.row),.nils,.nils]∧A.drop q=ts
   | none=>v=.bool false∧Bad11 r):=by
 refine rs_go T229 hs ho hne fun S hS=>?_
 have hl:A.length≤1000000:=by have:=hA.len;omega
 have hS':=hS
 have hm:=hS.low
 have hmo:=hS.lowo
 unfold qSet
 cases hn:pName (A.drop p) with
 | none=>
  have h1:=nf_in0 hS' (r:=[.int .i64 op,.int .i64 ln,.str [],.str [],.nils,.int .i64 0,.int .i64 0,.str [],.nils,.nils,.nils]) hl hp hn
  obtain⟨-,-,-,-,hlen,get,get0,set,set0,go,go0,so,so0,n0,n1,u0,u1⟩:=hS
  simp only[go_sem,hlen,get,get0,set,set0,go,go0,so,so0,n0,n1,u0,u1,LZ]
  refine wx_any h1 ?_
  simp only[go_sem,hlen,get,get0,set,set0,go,go0,so,so0,n0,n1,u0,u1,LZ]
  exact rs_end0 rfl ⟨rfl,rfl⟩ hp (by simp only[List.all_cons,List.all_nil,Bool.and_eq_true,rows_set,xs_set];simp only[V.rowB];trivial) ⟨rfl,_,_,_,_,_,_,_,_,_,_,_,rfl,by simp only[List.all_cons,List.all_nil,Bool.and_eq_true,rows_set,xs_set];simp only[V.rowB];trivial⟩
 | some nt=>
  obtain⟨nm,ts⟩:=nt
  obtain⟨h1,hlt,h3⟩:=nt_in0 hS' (r:=[.int .i64 op,.int .i64 ln,.str [],.str [],.nils,.int .i64 0,.int .i64 0,.str [],.nils,.nils,.nils]) hl hp hn
  simp only
  rw[←h3]
  obtain⟨v,q,k1,k2,k3⟩:=rt_in0 hS' (p:=p+1) (r:=[.int .i64 op,.int .i64 ln,.str nm,.str [],.nils,.int .i64 0,.int .i64 0,.str [],.nils,.nils,.nils]) fun hs=>pexp_step (pexpr_all n).1 hA hs (Nat.succ_le_of_lt hlt) (by omega)
  unfold PR at k3
  cases hx:pe n 1 (A.drop (p+1)) with
  | none=>
   rw[hx]at k3
   subst k3
   obtain⟨-,-,-,-,hlen,get,get0,set,set0,go,go0,so,so0,n0,n1,u0,u1⟩:=hS
   simp only[go_sem,hlen,get,get0,set,set0,go,go0,so,so0,n0,n1,u0,u1,LZ]
   refine wx_any h1 ?_
   simp only[go_sem,hlen,get,get0,set,set0,go,go0,so,so0,n0,n1,u0,u1,LZ]
   refine wx_any k1 ?_
   simp only[go_sem,hlen,get,get0,set,set0,go,go0,so,so0,n0,n1,u0,u1,LZ]
   exact rs_end0 rfl ⟨rfl,rfl⟩ k2 (by simp only[List.all_cons,List.all_nil,Bool.and_eq_true,rows_set,xs_set];simp only[V.rowB];trivial) ⟨rfl,_,_,_,_,_,_,_,_,_,_,_,rfl,by simp only[List.all_cons,List.all_nil,Bool.and_eq_true,rows_set,xs_set];simp only[V.rowB];trivial⟩
  | some xr=>
   obtain⟨x,ts2⟩:=xr
   rw[hx]at k3
   obtain⟨rfl,k3⟩:=k3
   have hxs:=xset x
   have hr:=xrow_def x
   rw[hr]at k1 hxs
   simp only
   rw[←k3]
   unfold pTok
   by_cases he:isT [59] (A.drop q)=true
   ·rw[if_pos he,←drop_succ]
    have ha:=at_in0 hS' (r:=[.int .i64 op,.int .i64 ln,.str nm,.str [],.nils,.int .i64 x.op,.int .i64 x.n,.str x.nm,SL x.z x.t (x.l.map Xp.row),.nils,.nils]) hl he
    have hlt9:=isT_lt he
    obtain⟨-,-,-,-,hlen,get,get0,set,set0,go,go0,so,so0,n0,n1,u0,u1⟩:=hS
    simp only[go_sem,hlen,get,get0,set,set0,go,go0,so,so0,n0,n1,u0,u1,LZ]
    refine wx_any h1 ?_
    simp only[go_sem,hlen,get,get0,set,set0,go,go0,so,so0,n0,n1,u0,u1,LZ]
    refine wx_any k1 ?_
    simp only[go_sem,hlen,get,get0,set,set0,go,go0,so,so0,n0,n1,u0,u1,LZ]
    refine wx_any ha ?_
    simp only[go_sem,hlen,get,get0,set,set0,go,go0,so,so0,n0,n1,u0,u1,LZ]
    exact rs_end0 rfl ⟨rfl,rfl⟩ (by omega) (by simp only[List.all_cons,List.all_nil,Bool.and_eq_true,rows_set,xs_set];simp only[V.rowB];trivial) ⟨rfl,rfl,rfl⟩
   ·have he:isT [59] (A.drop q)=false:=by simpa using he
    rw[if_neg (by rw[he];decide)]
    have ha:=af_in0 hS' (r:=[.int .i64 op,.int .i64 ln,.str nm,.str [],.nils,.int .i64 x.op,.int .i64 x.n,.str x.nm,SL x.z x.t (x.l.map Xp.row),.nils,.nils]) hl k2 he
    obtain⟨-,-,-,-,hlen,get,get0,set,set0,go,go0,so,so0,n0,n1,u0,u1⟩:=hS
    simp only[go_sem,hlen,get,get0,set,set0,go,go0,so,so0,n0,n1,u0,u1,LZ]
    refine wx_any h1 ?_
    simp only[go_sem,hlen,get,get0,set,set0,go,go0,so,so0,n0,n1,u0,u1,LZ]
    refine wx_any k1 ?_
    simp only[go_sem,hlen,get,get0,set,set0,go,go0,so,so0,n0,n1,u0,u1,LZ]
    refine wx_any ha ?_
    simp only[go_sem,hlen,get,get0,set,set0,go,go0,so,so0,n0,n1,u0,u1,LZ]
    exact rs_end0 rfl ⟨rfl,rfl⟩ k2 (by simp only[List.all_cons,List.all_nil,Bool.and_eq_true,rows_set,xs_set];simp only[V.rowB];trivial) ⟨rfl,_,_,_,_,_,_,_,_,_,_,_,rfl,by simp only[List.all_cons,List.all_nil,Bool.and_eq_true,rows_set,xs_set];simp only[V.rowB];trivial⟩
theorem passign_step{n:Nat}{s:St}{m o:Nat}{z:Bool}{t:Nat}{A:List Tk}{p:Nat}{ln:Int}(hA:OkA A)(hT:TokOk A)(hs:s[m]?=some (RO z t A p))(ho:s[o]?=some (.row [.int .i64 1,.int .i64 ln,.str [],.str [],.nils,.int .i64 0,.int .i64 0,.str [],.nils,.nils,.nils] 92 0 0))(hne:m≠o)(hp:p≤A.length)(hf:10*(A.length - p)+9≤n):
  RS2 200 s m o z t A (fun v q r=>match pAsg n ln (A.drop p) with
   | some (x,ts)=>v=.bool true∧r=x.row∧A.drop q=ts
   | none=>v=.bool false∧Bad11 r):=by
 refine rs_go T200 hs ho hne fun S hS=>?_
 have hl:A.length≤1000000:=by have:=hA.len;omega
 have hS':=hS
 have hm:=hS.low
 have hmo:=hS.lowo
 unfold pAsg
 cases hn:pName (A.drop p) with
 | none=>
  have h1:=nf_in0 hS' (r:=[.int .i64 1,.int .i64 ln,.str [],.str [],.nils,.int .i64 0,.int .i64 0,.str [],.nils,.nils,.nils]) hl hp hn
  obtain⟨-,-,-,-,hlen,get,get0,set,set0,go,go0,so,so0,n0,n1,u0,u1⟩:=hS
  simp only[go_sem,hlen,get,get0,set,set0,go,go0,so,so0,n0,n1,u0,u1,LZ]
  refine wx_any h1 ?_
  simp only[go_sem,hlen,get,get0,set,set0,go,go0,so,so0,n0,n1,u0,u1,LZ]
  exact rs_end0 rfl ⟨rfl,rfl⟩ hp (by simp only[List.all_cons,List.all_nil,Bool.and_eq_true,rows_set,xs_set];simp only[V.rowB];trivial) ⟨rfl,_,_,_,_,_,_,_,_,_,_,_,rfl,by simp only[List.all_cons,List.all_nil,Bool.and_eq_true,rows_set,xs_set];simp only[V.rowB];trivial⟩
 | some nt=>
  obtain⟨nm,ts⟩:=nt
  obtain⟨h1,hlt,h3⟩:=nt_in0 hS' (r:=[.int .i64 1,.int .i64 ln,.str [],.str [],.nils,.int .i64 0,.int .i64 0,.str [],.nils,.nils,.nils]) hl hp hn
  simp only
  rw[←h3]
  unfold pIdx pTok
  by_cases h91:isT [91] (A.drop (p+1))=true
  ·rw[if_pos h91,←drop_succ]
   have hb:=at_in0 hS' (r:=[.int .i64 1,.int .i64 ln,.str nm,.str [],.nils,.int .i64 0,.int .i64 0,.str [],.nils,.nils,.nils]) hl h91
   have hlt2:=isT_lt h91
   obtain⟨v0,q0,j1,j2,j3⟩:=rt_in0 hS' (p:=p+1+1) (r:=[.int .i64 1,.int .i64 ln,.str nm,.str [],.nils,.int .i64 0,.int .i64 0,.str [],.nils,.nils,.nils]) fun hs=>pexp_step (pexpr_all n).1 hA hs (by omega) (by omega)
   unfold PR at j3
   have hple:=fun x ts (h:pe n 1 (A.drop (p+1+1))=some (x,ts))=>(pe_lt n).1 _ _ _ _ h
   rw[List.length_drop]at hple
   cases hy:pe n 1 (A.drop (p+1+1)) with
   | none=>
    rw[hy]at j3
    subst j3
    simp only
    obtain⟨-,-,-,-,hlen,get,get0,set,set0,go,go0,so,so0,n0,n1,u0,u1⟩:=hS
    simp only[go_sem,hlen,get,get0,set,set0,go,go0,so,so0,n0,n1,u0,u1,LZ]
    refine wx_any h1 ?_
    simp only[go_sem,hlen,get,get0,set,set0,go,go0,so,so0,n0,n1,u0,u1,LZ]
    refine wx_any hb ?_
    simp only[go_sem,hlen,get,get0,set,set0,go,go0,so,so0,n0,n1,u0,u1,LZ]
    refine wx_any j1 ?_
    simp only[go_sem,hlen,get,get0,set,set0,go,go0,so,so0,n0,n1,u0,u1,LZ]
    exact rs_end rfl ⟨rfl,rfl⟩ j2 (by simp only[List.all_cons,List.all_nil,Bool.and_eq_true,rows_set,xs_set];simp only[V.rowB];trivial) ⟨rfl,_,_,_,_,_,_,_,_,_,_,_,rfl,by simp only[List.all_cons,List.all_nil,Bool.and_eq_true,rows_set,xs_set];simp only[V.rowB];trivial⟩
   | some yr=>
    obtain⟨y,ts8⟩:=yr
    rw[hy]at j3
    obtain⟨rfl,j3⟩:=j3
    have hys:=xset y
    have hyr:=xrow_def y
    rw[hyr]at j1 hys
    have hple:=hple y ts8 hy
    have hq0:ts8.length=A.length - q0:=by rw[←j3,List.length_drop]
    simp only
    rw[←j3]
    by_cases h93:isT [93] (A.drop q0)=true
    ·rw[if_pos h93]
     simp only[Option.map_some]
     rw[←drop_succ]
     have hcb:=at_in hS' (r:=[.int .i64 1,.int .i64 ln,.str nm,.str [],.nils,.int .i64 0,.int .i64 0,.str [],.nils,.nils,.nils]) [.row [.int .i64 y.op,.int .i64 y.n,.str y.nm,SL y.z y.t (y.l.map Xp.row)] 40 0 0] hl h93
     have hlt3:=isT_lt h93
     by_cases h61:isT [61] (A.drop (q0+1))=true
     ·rw[if_pos h61]
      simp only
      rw[←drop_succ]
      have ha:=at_in hS' (r:=[.int .i64 1,.int .i64 ln,.str nm,.str [],.lst 1 [[.int .i64 y.op,.int .i64 y.n,.str y.nm,SL y.z y.t (y.l.map Xp.row)]],.int .i64 0,.int .i64 0,.str [],.nils,.nils,.nils]) [.row [.int .i64 y.op,.int .i64 y.n,.str y.nm,SL y.z y.t (y.l.map Xp.row)] 40 0 0] hl h61
      have hlt61:=isT_lt h61
      obtain⟨v,q,k1,k2,k3⟩:=rt_in hS' (p:=(q0+1)+1) (r:=[.int .i64 1,.int .i64 ln,.str nm,.str [],.lst 1 [[.int .i64 y.op,.int .i64 y.n,.str y.nm,SL y.z y.t (y.l.map Xp.row)]],.int .i64 0,.int .i64 0,.str [],.nils,.nils,.nils]) (l:=[.row [.int .i64 y.op,.int .i64 y.n,.str y.nm,SL y.z y.t (y.l.map Xp.row)] 40 0 0]) fun hs=>pexp_step (pexpr_all n).1 hA hs (Nat.succ_le_of_lt hlt61) (by omega)
      unfold PR at k3
      cases hx:pe n 1 (A.drop ((q0+1)+1)) with
      | none=>
       rw[hx]at k3
       subst k3
       simp only
       obtain⟨-,-,-,-,hlen,get,get0,set,set0,go,go0,so,so0,n0,n1,u0,u1⟩:=hS
       simp only[go_sem,hlen,get,get0,set,set0,go,go0,so,so0,n0,n1,u0,u1,LZ]
       refine wx_any h1 ?_
       simp only[go_sem,hlen,get,get0,set,set0,go,go0,so,so0,n0,n1,u0,u1,LZ]
       refine wx_any hb ?_
       simp only[go_sem,hlen,get,get0,set,set0,go,go0,so,so0,n0,n1,u0,u1,LZ]
       refine wx_any j1 ?_
       simp only[go_sem,hlen,get,get0,set,set0,go,go0,so,so0,n0,n1,u0,u1,LZ]
       refine wx_any hcb ?_
       simp only[go_sem,hlen,get,get0,set,set0,go,go0,so,so0,n0,n1,u0,u1,LZ]
       refine wx_any ha ?_
       simp only[go_sem,hlen,get,get0,set,set0,go,go0,so,so0,n0,n1,u0,u1,LZ]
       refine wx_any k1 ?_
       simp only[go_sem,hlen,get,get0,set,set0,go,go0,so,so0,n0,n1,u0,u1,LZ]
       exact rs_end rfl ⟨rfl,rfl⟩ k2 (by simp only[List.all_cons,List.all_nil,Bool.and_eq_true,rows_set,xs_set];simp only[V.rowB];trivial) ⟨rfl,_,_,_,_,_,_,_,_,_,_,_,rfl,by simp only[List.all_cons,List.all_nil,Bool.and_eq_true,rows_set,xs_set];simp only[V.rowB];trivial⟩
      | some xr=>
       obtain⟨x,ts9⟩:=xr
       rw[hx]at k3
       obtain⟨rfl,k3⟩:=k3
       have hxs:=xset x
       have hr:=xrow_def x
       rw[hr]at k1 hxs
       simp only
       rw[←k3]
       by_cases he:isT [59] (A.drop q)=true
       ·rw[if_pos he,←drop_succ]
        have hc:=at_in hS' (r:=[.int .i64 1,.int .i64 ln,.str nm,.str [],.lst 1 [[.int .i64 y.op,.int .i64 y.n,.str y.nm,SL y.z y.t (y.l.map Xp.row)]],.int .i64 x.op,.int .i64 x.n,.str x.nm,SL x.z x.t (x.l.map Xp.row),.nils,.nils]) [.row [.int .i64 y.op,.int .i64 y.n,.str y.nm,SL y.z y.t (y.l.map Xp.row)] 40 0 0] hl he
        have hlt9:=isT_lt he
        obtain⟨-,-,-,-,hlen,get,get0,set,set0,go,go0,so,so0,n0,n1,u0,u1⟩:=hS
        simp only[go_sem,hlen,get,get0,set,set0,go,go0,so,so0,n0,n1,u0,u1,LZ]
        refine wx_any h1 ?_
        simp only[go_sem,hlen,get,get0,set,set0,go,go0,so,so0,n0,n1,u0,u1,LZ]
        refine wx_any hb ?_
        simp only[go_sem,hlen,get,get0,set,set0,go,go0,so,so0,n0,n1,u0,u1,LZ]
        refine wx_any j1 ?_
        simp only[go_sem,hlen,get,get0,set,set0,go,go0,so,so0,n0,n1,u0,u1,LZ]
        refine wx_any hcb ?_
        simp only[go_sem,hlen,get,get0,set,set0,go,go0,so,so0,n0,n1,u0,u1,LZ]
        refine wx_any ha ?_
        simp only[go_sem,hlen,get,get0,set,set0,go,go0,so,so0,n0,n1,u0,u1,LZ]
        refine wx_any k1 ?_
        simp only[go_sem,hlen,get,get0,set,set0,go,go0,so,so0,n0,n1,u0,u1,LZ]
        refine wx_any hc ?_
        simp only[go_sem,hlen,get,get0,set,set0,go,go0,so,so0,n0,n1,u0,u1,LZ]
        exact rs_end rfl ⟨rfl,rfl⟩ (by omega) (by simp only[List.all_cons,List.all_nil,Bool.and_eq_true,rows_set,xs_set];simp only[V.rowB];trivial) ⟨rfl,by rw[srow11];simp only[List.map_cons,List.map_nil,hyr];rfl,rfl⟩
       ·have he:isT [59] (A.drop q)=false:=by simpa using he
        rw[if_neg (by rw[he];decide)]
        have hc:=af_in hS' (r:=[.int .i64 1,.int .i64 ln,.str nm,.str [],.lst 1 [[.int .i64 y.op,.int .i64 y.n,.str y.nm,SL y.z y.t (y.l.map Xp.row)]],.int .i64 x.op,.int .i64 x.n,.str x.nm,SL x.z x.t (x.l.map Xp.row),.nils,.nils]) [.row [.int .i64 y.op,.int .i64 y.n,.str y.nm,SL y.z y.t (y.l.map Xp.row)] 40 0 0] hl k2 he
        obtain⟨-,-,-,-,hlen,get,get0,set,set0,go,go0,so,so0,n0,n1,u0,u1⟩:=hS
        simp only[go_sem,hlen,get,get0,set,set0,go,go0,so,so0,n0,n1,u0,u1,LZ]
        refine wx_any h1 ?_
        simp only[go_sem,hlen,get,get0,set,set0,go,go0,so,so0,n0,n1,u0,u1,LZ]
        refine wx_any hb ?_
        simp only[go_sem,hlen,get,get0,set,set0,go,go0,so,so0,n0,n1,u0,u1,LZ]
        refine wx_any j1 ?_
        simp only[go_sem,hlen,get,get0,set,set0,go,go0,so,so0,n0,n1,u0,u1,LZ]
        refine wx_any hcb ?_
        simp only[go_sem,hlen,get,get0,set,set0,go,go0,so,so0,n0,n1,u0,u1,LZ]
        refine wx_any ha ?_
        simp only[go_sem,hlen,get,get0,set,set0,go,go0,so,so0,n0,n1,u0,u1,LZ]
        refine wx_any k1 ?_
        simp only[go_sem,hlen,get,get0,set,set0,go,go0,so,so0,n0,n1,u0,u1,LZ]
        refine wx_any hc ?_
        simp only[go_sem,hlen,get,get0,set,set0,go,go0,so,so0,n0,n1,u0,u1,LZ]
        exact rs_end rfl ⟨rfl,rfl⟩ k2 (by simp only[List.all_cons,List.all_nil,Bool.and_eq_true,rows_set,xs_set];simp only[V.rowB];trivial) ⟨rfl,_,_,_,_,_,_,_,_,_,_,_,rfl,by simp only[List.all_cons,List.all_nil,Bool.and_eq_true,rows_set,xs_set];simp only[V.rowB];trivial⟩
     ·have h61:isT [61] (A.drop (q0+1))=false:=by simpa using h61
      rw[if_neg (by rw[h61];decide)]
      simp only
      have ha:=af_in hS' (r:=[.int .i64 1,.int .i64 ln,.str nm,.str [],.lst 1 [[.int .i64 y.op,.int .i64 y.n,.str y.nm,SL y.z y.t (y.l.map Xp.row)]],.int .i64 0,.int .i64 0,.str [],.nils,.nils,.nils]) [.row [.int .i64 y.op,.int .i64 y.n,.str y.nm,SL y.z y.t (y.l.map Xp.row)] 40 0 0] hl (Nat.succ_le_of_lt hlt3) h61
      obtain⟨-,-,-,-,hlen,get,get0,set,set0,go,go0,so,so0,n0,n1,u0,u1⟩:=hS
      simp only[go_sem,hlen,get,get0,set,set0,go,go0,so,so0,n0,n1,u0,u1,LZ]
      refine wx_any h1 ?_
      simp only[go_sem,hlen,get,get0,set,set0,go,go0,so,so0,n0,n1,u0,u1,LZ]
      refine wx_any hb ?_
      simp only[go_sem,hlen,get,get0,set,set0,go,go0,so,so0,n0,n1,u0,u1,LZ]
      refine wx_any j1 ?_
      simp only[go_sem,hlen,get,get0,set,set0,go,go0,so,so0,n0,n1,u0,u1,LZ]
      refine wx_any hcb ?_
      simp only[go_sem,hlen,get,get0,set,set0,go,go0,so,so0,n0,n1,u0,u1,LZ]
      refine wx_any ha ?_
      simp only[go_sem,hlen,get,get0,set,set0,go,go0,so,so0,n0,n1,u0,u1,LZ]
      exact rs_end rfl ⟨rfl,rfl⟩ (Nat.succ_le_of_lt hlt3) (by simp only[List.all_cons,List.all_nil,Bool.and_eq_true,rows_set,xs_set];simp only[V.rowB];trivial) ⟨rfl,_,_,_,_,_,_,_,_,_,_,_,rfl,by simp only[List.all_cons,List.all_nil,Bool.and_eq_true,rows_set,xs_set];simp only[V.rowB];trivial⟩
    ·have h93:isT [93] (A.drop q0)=false:=by simpa using h93
     rw[if_neg (by rw[h93];decide)]
     simp only[Option.map_none]
     have hcb:=af_in hS' (r:=[.int .i64 1,.int .i64 ln,.str nm,.str [],.nils,.int .i64 0,.int .i64 0,.str [],.nils,.nils,.nils]) [.row [.int .i64 y.op,.int .i64 y.n,.str y.nm,SL y.z y.t (y.l.map Xp.row)] 40 0 0] hl j2 h93
     obtain⟨-,-,-,-,hlen,get,get0,set,set0,go,go0,so,so0,n0,n1,u0,u1⟩:=hS
     simp only[go_sem,hlen,get,get0,set,set0,go,go0,so,so0,n0,n1,u0,u1,LZ]
     refine wx_any h1 ?_
     simp only[go_sem,hlen,get,get0,set,set0,go,go0,so,so0,n0,n1,u0,u1,LZ]
     refine wx_any hb ?_
     simp only[go_sem,hlen,get,get0,set,set0,go,go0,so,so0,n0,n1,u0,u1,LZ]
     refine wx_any j1 ?_
     simp only[go_sem,hlen,get,get0,set,set0,go,go0,so,so0,n0,n1,u0,u1,LZ]
     refine wx_any hcb ?_
     simp only[go_sem,hlen,get,get0,set,set0,go,go0,so,so0,n0,n1,u0,u1,LZ]
     exact rs_end rfl ⟨rfl,rfl⟩ j2 (by simp only[List.all_cons,List.all_nil,Bool.and_eq_true,rows_set,xs_set];simp only[V.rowB];trivial) ⟨rfl,_,_,_,_,_,_,_,_,_,_,_,rfl,by simp only[List.all_cons,List.all_nil,Bool.and_eq_true,rows_set,xs_set];simp only[V.rowB];trivial⟩
  ·have h91:isT [91] (A.drop (p+1))=false:=by simpa using h91
   rw[if_neg (by rw[h91];decide)]
   simp only
   have hb:=af_in0 hS' (r:=[.int .i64 1,.int .i64 ln,.str nm,.str [],.nils,.int .i64 0,.int .i64 0,.str [],.nils,.nils,.nils]) hl (Nat.succ_le_of_lt hlt) h91
   by_cases h61:isT [61] (A.drop (p+1))=true
   ·rw[if_pos h61]
    simp only
    rw[←drop_succ]
    have ha:=at_in0 hS' (r:=[.int .i64 1,.int .i64 ln,.str nm,.str [],.nils,.int .i64 0,.int .i64 0,.str [],.nils,.nils,.nils]) hl h61
    have hlt61:=isT_lt h61
    obtain⟨v,q,k1,k2,k3⟩:=rt_in0 hS' (p:=(p+1)+1) (r:=[.int .i64 1,.int .i64 ln,.str nm,.str [],.nils,.int .i64 0,.int .i64 0,.str [],.nils,.nils,.nils]) fun hs=>pexp_step (pexpr_all n).1 hA hs (Nat.succ_le_of_lt hlt61) (by omega)
    unfold PR at k3
    cases hx:pe n 1 (A.drop ((p+1)+1)) with
    | none=>
     rw[hx]at k3
     subst k3
     simp only
     obtain⟨-,-,-,-,hlen,get,get0,set,set0,go,go0,so,so0,n0,n1,u0,u1⟩:=hS
     simp only[go_sem,hlen,get,get0,set,set0,go,go0,so,so0,n0,n1,u0,u1,LZ]
     refine wx_any h1 ?_
     simp only[go_sem,hlen,get,get0,set,set0,go,go0,so,so0,n0,n1,u0,u1,LZ]
     refine wx_any hb ?_
     simp only[go_sem,hlen,get,get0,set,set0,go,go0,so,so0,n0,n1,u0,u1,LZ]
     refine wx_any ha ?_
     simp only[go_sem,hlen,get,get0,set,set0,go,go0,so,so0,n0,n1,u0,u1,LZ]
     refine wx_any k1 ?_
     simp only[go_sem,hlen,get,get0,set,set0,go,go0,so,so0,n0,n1,u0,u1,LZ]
     exact rs_end0 rfl ⟨rfl,rfl⟩ k2 (by simp only[List.all_cons,List.all_nil,Bool.and_eq_true,rows_set,xs_set];simp only[V.rowB];trivial) ⟨rfl,_,_,_,_,_,_,_,_,_,_,_,rfl,by simp only[List.all_cons,List.all_nil,Bool.and_eq_true,rows_set,xs_set];simp only[V.rowB];trivial⟩
    | some xr=>
     obtain⟨x,ts9⟩:=xr
     rw[hx]at k3
     obtain⟨rfl,k3⟩:=k3
     have hxs:=xset x
     have hr:=xrow_def x
     rw[hr]at k1 hxs
     simp only
     rw[←k3]
     by_cases he:isT [59] (A.drop q)=true
     ·rw[if_pos he,←drop_succ]
      have hc:=at_in0 hS' (r:=[.int .i64 1,.int .i64 ln,.str nm,.str [],.nils,.int .i64 x.op,.int .i64 x.n,.str x.nm,SL x.z x.t (x.l.map Xp.row),.nils,.nils]) hl he
      have hlt9:=isT_lt he
      obtain⟨-,-,-,-,hlen,get,get0,set,set0,go,go0,so,so0,n0,n1,u0,u1⟩:=hS
      simp only[go_sem,hlen,get,get0,set,set0,go,go0,so,so0,n0,n1,u0,u1,LZ]
      refine wx_any h1 ?_
      simp only[go_sem,hlen,get,get0,set,set0,go,go0,so,so0,n0,n1,u0,u1,LZ]
      refine wx_any hb ?_
      simp only[go_sem,hlen,get,get0,set,set0,go,go0,so,so0,n0,n1,u0,u1,LZ]
      refine wx_any ha ?_
      simp only[go_sem,hlen,get,get0,set,set0,go,go0,so,so0,n0,n1,u0,u1,LZ]
      refine wx_any k1 ?_
      simp only[go_sem,hlen,get,get0,set,set0,go,go0,so,so0,n0,n1,u0,u1,LZ]
      refine wx_any hc ?_
      simp only[go_sem,hlen,get,get0,set,set0,go,go0,so,so0,n0,n1,u0,u1,LZ]
      exact rs_end0 rfl ⟨rfl,rfl⟩ (by omega) (by simp only[List.all_cons,List.all_nil,Bool.and_eq_true,rows_set,xs_set];simp only[V.rowB];trivial) ⟨rfl,by rw[srow11];rfl,rfl⟩
     ·have he:isT [59] (A.drop q)=false:=by simpa using he
      rw[if_neg (by rw[he];decide)]
      have hc:=af_in0 hS' (r:=[.int .i64 1,.int .i64 ln,.str nm,.str [],.nils,.int .i64 x.op,.int .i64 x.n,.str x.nm,SL x.z x.t (x.l.map Xp.row),.nils,.nils]) hl k2 he
      obtain⟨-,-,-,-,hlen,get,get0,set,set0,go,go0,so,so0,n0,n1,u0,u1⟩:=hS
      simp only[go_sem,hlen,get,get0,set,set0,go,go0,so,so0,n0,n1,u0,u1,LZ]
      refine wx_any h1 ?_
      simp only[go_sem,hlen,get,get0,set,set0,go,go0,so,so0,n0,n1,u0,u1,LZ]
      refine wx_any hb ?_
      simp only[go_sem,hlen,get,get0,set,set0,go,go0,so,so0,n0,n1,u0,u1,LZ]
      refine wx_any ha ?_
      simp only[go_sem,hlen,get,get0,set,set0,go,go0,so,so0,n0,n1,u0,u1,LZ]
      refine wx_any k1 ?_
      simp only[go_sem,hlen,get,get0,set,set0,go,go0,so,so0,n0,n1,u0,u1,LZ]
      refine wx_any hc ?_
      simp only[go_sem,hlen,get,get0,set,set0,go,go0,so,so0,n0,n1,u0,u1,LZ]
      exact rs_end0 rfl ⟨rfl,rfl⟩ k2 (by simp only[List.all_cons,List.all_nil,Bool.and_eq_true,rows_set,xs_set];simp only[V.rowB];trivial) ⟨rfl,_,_,_,_,_,_,_,_,_,_,_,rfl,by simp only[List.all_cons,List.all_nil,Bool.and_eq_true,rows_set,xs_set];simp only[V.rowB];trivial⟩
   ·have h61:isT [61] (A.drop (p+1))=false:=by simpa using h61
    rw[if_neg (by rw[h61];decide)]
    simp only
    have ha:=af_in0 hS' (r:=[.int .i64 1,.int .i64 ln,.str nm,.str [],.nils,.int .i64 0,.int .i64 0,.str [],.nils,.nils,.nils]) hl (Nat.succ_le_of_lt hlt) h61
    obtain⟨-,-,-,-,hlen,get,get0,set,set0,go,go0,so,so0,n0,n1,u0,u1⟩:=hS
    simp only[go_sem,hlen,get,get0,set,set0,go,go0,so,so0,n0,n1,u0,u1,LZ]
    refine wx_any h1 ?_
    simp only[go_sem,hlen,get,get0,set,set0,go,go0,so,so0,n0,n1,u0,u1,LZ]
    refine wx_any hb ?_
    simp only[go_sem,hlen,get,get0,set,set0,go,go0,so,so0,n0,n1,u0,u1,LZ]
    refine wx_any ha ?_
    simp only[go_sem,hlen,get,get0,set,set0,go,go0,so,so0,n0,n1,u0,u1,LZ]
    exact rs_end0 rfl ⟨rfl,rfl⟩ (Nat.succ_le_of_lt hlt) (by simp only[List.all_cons,List.all_nil,Bool.and_eq_true,rows_set,xs_set];simp only[V.rowB];trivial) ⟨rfl,_,_,_,_,_,_,_,_,_,_,_,rfl,by simp only[List.all_cons,List.all_nil,Bool.and_eq_true,rows_set,xs_set];simp only[V.rowB];trivial⟩
end Go.Proofs.YtlehfgdhebapeaaGreatDoor.KM
