/- Walks: the parser's reader. -/
import Derived.Test.YtlehfgdhebapeaaGreatDoorLa
import Derived.Test.YtlehfgdhebapeaaGreatDoorLh
import Derived.Test.YtlehfgdhebapeaaGreatDoorHa
import Derived.Test.YtlehfgdhebapeaaGreatDoorHb
set_option linter.all false
namespace Go.Proofs.YtlehfgdhebapeaaGreatDoor.KM
open Go
def RO(z:Bool)(t:Nat)(A:List Tk)(p:Nat):Ob:=.row [SL z t (A.map Tk.row),.int .i64 (p:Int)] 100 0 0
theorem ro_refs(z:Bool)(t:Nat)(A:List Tk)(p:Nat):(RO z t A p).refs=[]:=by
 unfold RO SL
 split<;>rfl
structure RdS (s:St) (m:Nat) (z:Bool) (t:Nat) (A:List Tk) (S:Nat→St):Prop where
 low:m<s.length
 eq:∀ p,S p=s.set m (RO z t A p)
 len:∀ p,(S p).length=s.length
 get:∀ (p:Nat) (l:St),(S p++l)[m]?=some (.row [SL z t (A.map Tk.row),.int .i64 (p:Int)] 100 0 0)
 get0:∀ (p:Nat),(S p)[m]?=some (.row [SL z t (A.map Tk.row),.int .i64 (p:Int)] 100 0 0)
 set:∀ (p q:Nat) (l:St),(S p++l).set m (.row [SL z t (A.map Tk.row),.int .i64 (q:Int)] 100 0 0)=S q++l
 set0:∀ (p q:Nat),(S p).set m (.row [SL z t (A.map Tk.row),.int .i64 (q:Int)] 100 0 0)=S q
 n0:∀ (p:Nat) (a:Ob) (l:St),(S p++a::l)[s.length]?=some a
 n1:∀ (p:Nat) (a b:Ob) (l:St),(S p++a::b::l)[s.length+1]?=some b
 n2:∀ (p:Nat) (a b c:Ob) (l:St),(S p++a::b::c::l)[s.length+2]?=some c
 u0:∀ (p:Nat) (a x:Ob) (l:St),(S p++a::l).set s.length x=S p++x::l
 u1:∀ (p:Nat) (a b x:Ob) (l:St),(S p++a::b::l).set (s.length+1) x=S p++a::x::l
 u2:∀ (p:Nat) (a b c x:Ob) (l:St),(S p++a::b::c::l).set (s.length+2) x=S p++a::b::x::l
theorem rd_open{s:St}{m:Nat}(z:Bool)(t:Nat)(A:List Tk)(hm:m<s.length):RdS s m z t A (fun p=>s.set m (RO z t A p)):=by
 have hl:∀ p,(s.set m (RO z t A p)).length=s.length:=fun p=>by simp
 have hs:∀ p q,(s.set m (RO z t A p)).set m (RO z t A q)=s.set m (RO z t A q):=fun p q=>by rw[List.set_set]
 refine⟨hm,fun _=>rfl,hl,fun p l=>?_,fun p=>?_,fun p q l=>?_,fun p q=>hs p q,fun p a l=>?_,fun p a b l=>?_,fun p a b c l=>?_,fun p a x l=>?_,fun p a b x l=>?_,fun p a b c x l=>?_⟩
 ·exact get_app_some (List.getElem?_set_self hm)
 ·exact List.getElem?_set_self hm
 ·rw[List.set_append_left _ _ (by simpa using hm)]
  exact congrArg (·++l) (hs p q)
 ·rw[List.getElem?_append_right (by simp)]
  simp
 ·rw[List.getElem?_append_right (by simp)]
  simp
 ·rw[List.getElem?_append_right (by simp)]
  simp
 ·rw[List.set_append_right _ _ (by simp)]
  simp
 ·rw[List.set_append_right _ _ (by simp)]
  simp
 ·rw[List.set_append_right _ _ (by simp)]
  simp
def RT(f:Nat)(av:List V)(s:St)(m:Nat)(z:Bool)(t:Nat)(A:List Tk)(R:V→Nat→Prop):Prop:=∃ v p',ThP TT PT f (.ptr m 0 0::av) s v (s.set m (RO z t A p'))∧p'≤A.length∧R v p'
theorem rt_go{z:Bool}{t:Nat}{A:List Tk}{f p m q:Nat}{res:List AR}{thr:Bool}{body:AC}{av:List V}{s:St}{R:V→Nat→Prop}(hT:TT f=some ⟨p,res,thr,body,none⟩)(hl:(V.ptr m 0 0::av).length=p)(hs:s[m]?=some (RO z t A q))
  (h:∀ S,RdS s m z t A S→W TT PT [.c body] (parEnv 0 (.ptr m 0 0::av)) (S q) (Hd fun e' σ1=>∃ v p' l,resV e' σ1 res=some v∧(okRes v=true∧v.refs=[])∧σ1=S p'++l∧p'≤A.length∧R v p')):RT f av s m z t A R:=by
 have hm:=(List.getElem?_eq_some_iff.1 hs).1
 have h:=h _ (rd_open z t A hm)
 rw[st_same hs]at h
 obtain⟨e',σ1,hE,v,p',l,hr,⟨h1,h2⟩,rfl,h3,h4⟩:=h
 have htk:(s.set m (RO z t A p')++l).take s.length=s.set m (RO z t A p'):=by rw[List.take_append_of_le_length (by simp),List.take_of_length_le (by simp)]
 refine⟨v,p',?_,h3,h4⟩
 have:=Ev.fn hT rfl hl hE hr h1 (by rw[h2];rfl) (fun i ob hi ho=>by
  rw[List.getElem?_append_left (by simpa using hi)]at ho
  by_cases hb:m=i
  ·subst hb
   rw[List.getElem?_set_self hm]at ho
   cases ho
   exact .inr (by rw[ro_refs];rfl)
  ·rw[List.getElem?_set_ne hb]at ho
   exact .inl ho)
 rw[htk]at this
 exact⟨_,hT,rfl,this⟩
theorem rt_end{S:Nat→St}{A:List Tk}{R:V→Nat→Prop}{e:Env}{res:List AR}{v:V}{p:Nat}{l:St}(hr:resV e (S p++l) res=some v)(hv:okRes v=true∧v.refs=[])(hp:p≤A.length)(hR:R v p):
  ∃ v p' l',resV e (S p++l) res=some v∧(okRes v=true∧v.refs=[])∧S p++l=S p'++l'∧p'≤A.length∧R v p':=⟨v,p,l,hr,hv,rfl,hp,hR⟩
theorem rt_end0{S:Nat→St}{A:List Tk}{R:V→Nat→Prop}{e:Env}{res:List AR}{v:V}{p:Nat}(hr:resV e (S p) res=some v)(hv:okRes v=true∧v.refs=[])(hp:p≤A.length)(hR:R v p):
  ∃ v p' l',resV e (S p) res=some v∧(okRes v=true∧v.refs=[])∧S p=S p'++l'∧p'≤A.length∧R v p':=⟨v,p,[],hr,hv,(List.append_nil _).symm,hp,hR⟩
theorem rt_use{s:St}{m:Nat}{z:Bool}{t:Nat}{A:List Tk}{S:Nat→St}(hS:RdS s m z t A S){f p:Nat}{av:List V}{l:St}{R:V→Nat→Prop}(h:(S p++l)[m]?=some (RO z t A p)→RT f av (S p++l) m z t A R):∃ v q,ThP TT PT f (.ptr m 0 0::av) (S p++l) v (S q++l)∧q≤A.length∧R v q:=by
 obtain⟨v,q,h1,h2,h3⟩:=h (hS.get p l)
 have e:(S p++l).set m (RO z t A q)=S q++l:=hS.set p q l
 rw[e]at h1
 exact⟨v,q,h1,h2,h3⟩
theorem rt_exact{f:Nat}{av:List V}{s:St}{m:Nat}{z:Bool}{t:Nat}{A:List Tk}{w:V}{q:Nat}(h:RT f av s m z t A (fun v p'=>v=w∧p'=q)):ThP TT PT f (.ptr m 0 0::av) s w (s.set m (RO z t A q)):=by
 obtain⟨v,p',h1,-,rfl,rfl⟩:=h
 exact h1
theorem res2{τ:St}{i x y n t:Nat}{cs:List V}{e:Env}{v:V}(h:τ[i]?=some (.row cs t 0 0))(h1:e.get x=.ptr i 0 0)(hn:cs.length=n)(h2:e.get y=v):resV e τ [AR.cell x n false,AR.tmp y]=some (.tup [.agg cs,v]):=by
 subst hn h2
 simp only[resV,resOne,List.mapM_cons,List.mapM_nil,h1,loadV,h]
 simp[mkOne]
/-! tokens -/
def tokAt(A:List Tk)(p:Nat):Tk:=(A[p]?).getD Tk.zero
theorem isT_at(w:List UInt8)(A:List Tk)(p:Nat):isT w (A.drop p)=(((tokAt A p).kind==3||(tokAt A p).kind==4)&&(tokAt A p).text==w):=by
 unfold tokAt
 cases h:A[p]? with
 | none=>
  rw[List.drop_eq_nil_of_le (by simpa using h)]
  simp[isT,Tk.zero]
 | some x=>
  rw[List.drop_eq_getElem_cons (List.getElem?_eq_some_iff.1 h).1,(List.getElem?_eq_some_iff.1 h).2]
  rfl
theorem toks_n(A:List Tk):(A.map Tk.row).length=A.length:=List.length_map ..
theorem tok_get{A:List Tk}{p:Nat}{x:Tk}(h:A[p]?=some x):(A.map Tk.row)[p]?=some [.int .i64 x.kind,.str x.text,.int .i64 x.line]:=by rw[List.getElem?_map,h];rfl
theorem nxt_th{s:St}{m:Nat}{z:Bool}{t:Nat}{A:List Tk}{p:Nat}(hs:s[m]?=some (RO z t A p))(hA:A.length≤1000000)(hp:p≤A.length):ThP TT PT 78 [.ptr m 0 0] s (.agg [.int .i64 (tokAt A p).kind,.str (tokAt A p).text,.int .i64 (tokAt A p).line]) s:=by
 suffices h:RT 78 [] s m z t A (fun v p'=>v=.agg [.int .i64 (tokAt A p).kind,.str (tokAt A p).text,.int .i64 (tokAt A p).line]∧p'=p) by
  have:=rt_exact h
  rw[st_same hs]at this
  exact this
 refine rt_go T78 rfl hs fun S hS=>?_
 obtain⟨-,-,hlen,get,get0,set,set0,n0,n1,n2,u0,u1,u2⟩:=hS
 unfold tokAt
 by_cases h:A.length≤p
 ·have g:((A.length:Int)≤(p:Int))=True:=eq_true (by omega)
  have e:A[p]?=none:=by simpa using h
  simp only[go_sem,hlen,get,get0,set,set0,n0,n1,n2,u0,u1,u2,LZ]
  refine w_drw (by kernel_rfl) ?_
  simp only[go_sem,hlen,get,get0,set,set0,n0,n1,n2,u0,u1,u2,LZ,toks_n,ge_iff_le,g]
  refine rt_end (v:=.agg [.int .i64 0,.str [],.int .i64 0]) (resN (n0 _ _ _) rfl rfl) ⟨rfl,rfl⟩ hp ⟨?_,rfl⟩
  rw[e]
  rfl
 ·have g:((A.length:Int)≤(p:Int))=False:=eq_false (by omega)
  obtain⟨x,hx⟩:∃ x,A[p]?=some x:=⟨_,List.getElem?_eq_getElem (by omega)⟩
  have hx':=tok_get hx
  simp only[go_sem,hlen,get,get0,set,set0,n0,n1,n2,u0,u1,u2,LZ]
  refine w_drw (by kernel_rfl) ?_
  simp only[go_sem,hlen,get,get0,set,set0,n0,n1,n2,u0,u1,u2,LZ,toks_n,ge_iff_le,g]
  refine w_drw (by kernel_rfl) ?_
  simp only[go_sem,hlen,get,get0,set,set0,n0,n1,n2,u0,u1,u2,LZ,toks_n,hx']
  refine wgE ?_
  simp only[go_sem,hlen,get,get0,set,set0,n0,n1,n2,u0,u1,u2,LZ]
  refine rt_end (v:=.agg [.int .i64 x.kind,.str x.text,.int .i64 x.line]) (resN (n0 _ _ _) rfl rfl) ⟨rfl,rfl⟩ hp ⟨?_,rfl⟩
  rw[hx]
  rfl
theorem at_th{s:St}{m:Nat}{z:Bool}{t:Nat}{A:List Tk}{p:Nat}(hs:s[m]?=some (RO z t A p))(hA:A.length≤1000000)(hp:p≤A.length)(w:List UInt8):ThP TT PT 81 [.ptr m 0 0,.str w] s (.bool (isT w (A.drop p))) s:=by
 suffices h:RT 81 [.str w] s m z t A (fun v p'=>v=.bool (isT w (A.drop p))∧p'=p) by
  have:=rt_exact h
  rw[st_same hs]at this
  exact this
 refine rt_go T81 rfl hs fun S hS=>?_
 have hn:=nxt_th (hS.get0 p) hA hp
 obtain⟨-,-,hlen,get,get0,set,set0,n0,n1,n2,u0,u1,u2⟩:=hS
 rw[isT_at]
 generalize tokAt A p=x at hn
 obtain⟨k,tx,ln⟩:=x
 simp only at hn ⊢
 simp only[go_sem,hlen,get,get0,set,set0,n0,n1,n2,u0,u1,u2,LZ]
 refine wx_any hn ?_
 simp only[go_sem,hlen,get,get0,set,set0,n0,n1,n2,u0,u1,u2,LZ]
 cases h3:(k==3)<;>cases h4:(k==4)<;>cases hw:(tx==w)
 all_goals
  simp only[go_sem,hlen,get,get0,set,set0,n0,n1,n2,u0,u1,u2,LZ,h3,h4,hw]
  exact rt_end rfl ⟨rfl,rfl⟩ hp ⟨rfl,rfl⟩
theorem drop_succ{A:List Tk}{p:Nat}:A.drop (p+1)=(A.drop p).tail:=by rw[List.tail_drop]
theorem isT_lt{w:List UInt8}{A:List Tk}{p:Nat}(h:isT w (A.drop p)=true):p<A.length:=by
 rcases Nat.lt_or_ge p A.length with h' | h'
 ·exact h'
 ·rw[List.drop_eq_nil_of_le h']at h;cases h
theorem acc_t{s:St}{m:Nat}{z:Bool}{t:Nat}{A:List Tk}{p:Nat}(hs:s[m]?=some (RO z t A p))(hA:A.length≤1000000){w:List UInt8}(h:isT w (A.drop p)=true):ThP TT PT 125 [.ptr m 0 0,.str w] s (.bool true) (s.set m (RO z t A (p+1))):=by
 have hlt:=isT_lt h
 refine rt_exact (A:=A) (z:=z) (t:=t) (rt_go T125 rfl hs fun S hS=>?_)
 have ha:=at_th (hS.get0 p) hA (by omega) w
 rw[h]at ha
 have hin:=inc64 (show p<9223372036854775807 by omega)
 obtain⟨-,-,hlen,get,get0,set,set0,n0,n1,n2,u0,u1,u2⟩:=hS
 simp only[go_sem,hlen,get,get0,set,set0,n0,n1,n2,u0,u1,u2,LZ]
 refine wx_any ha ?_
 simp only[go_sem,hlen,get,get0,set,set0,n0,n1,n2,u0,u1,u2,LZ,hin]
 exact rt_end0 rfl ⟨rfl,rfl⟩ (by omega) ⟨rfl,rfl⟩
theorem acc_f{s:St}{m:Nat}{z:Bool}{t:Nat}{A:List Tk}{p:Nat}(hs:s[m]?=some (RO z t A p))(hA:A.length≤1000000)(hp:p≤A.length){w:List UInt8}(h:isT w (A.drop p)=false):ThP TT PT 125 [.ptr m 0 0,.str w] s (.bool false) s:=by
 suffices h:ThP TT PT 125 [.ptr m 0 0,.str w] s (.bool false) (s.set m (RO z t A p)) by
  rw[st_same hs]at h
  exact h
 refine rt_exact (A:=A) (z:=z) (t:=t) (rt_go T125 rfl hs fun S hS=>?_)
 have ha:=at_th (hS.get0 p) hA hp w
 rw[h]at ha
 obtain⟨-,-,hlen,get,get0,set,set0,n0,n1,n2,u0,u1,u2⟩:=hS
 simp only[go_sem,hlen,get,get0,set,set0,n0,n1,n2,u0,u1,u2,LZ]
 refine wx_any ha ?_
 simp only[go_sem,hlen,get,get0,set,set0,n0,n1,n2,u0,u1,u2,LZ]
 exact rt_end0 rfl ⟨rfl,rfl⟩ hp ⟨rfl,rfl⟩
/-! the same, in the states of a reader's function -/
theorem acc_ts{s:St}{m:Nat}{z:Bool}{t:Nat}{A:List Tk}{S:Nat→St}(hS:RdS s m z t A S){p:Nat}(l:St)(hA:A.length≤1000000){w:List UInt8}(h:isT w (A.drop p)=true):ThP TT PT 125 [.ptr m 0 0,.str w] (S p++l) (.bool true) (S (p+1)++l):=by
 have:=acc_t (hS.get p l) hA h
 rw[show(S p++l).set m (RO z t A (p+1))=S (p+1)++l from hS.set p (p+1) l]at this
 exact this
theorem acc_fs{s:St}{m:Nat}{z:Bool}{t:Nat}{A:List Tk}{S:Nat→St}(hS:RdS s m z t A S){p:Nat}(l:St)(hA:A.length≤1000000)(hp:p≤A.length){w:List UInt8}(h:isT w (A.drop p)=false):ThP TT PT 125 [.ptr m 0 0,.str w] (S p++l) (.bool false) (S p++l):=acc_f (hS.get p l) hA hp h
theorem tok_at{A:List Tk}{p:Nat}(h:p<A.length):A.drop p=tokAt A p::A.drop (p+1):=by
 unfold tokAt
 rw[List.drop_eq_getElem_cons h,List.getElem?_eq_getElem h]
 rfl
theorem tok_z{A:List Tk}{p:Nat}(h:A.length≤p):A.drop p=[]∧tokAt A p=Tk.zero:=by
 unfold tokAt
 rw[List.drop_eq_nil_of_le h,List.getElem?_eq_none h]
 exact⟨rfl,rfl⟩
theorem kind_lt{A:List Tk}{p:Nat}(h:(tokAt A p).kind≠0):p<A.length:=by
 rcases Nat.lt_or_ge p A.length with h' | h'
 ·exact h'
 ·rw[(tok_z h').2]at h;exact absurd rfl h
theorem nm_th{s:St}{m:Nat}{z:Bool}{t:Nat}{A:List Tk}{p:Nat}(hs:s[m]?=some (RO z t A p))(hA:A.length≤1000000)(hp:p≤A.length):
  (∀ w r,pName (A.drop p)=some (w,r)→ThP TT PT 122 [.ptr m 0 0] s (.tup [.str w,.bool true]) (s.set m (RO z t A (p+1)))∧p<A.length∧A.drop (p+1)=r)∧(pName (A.drop p)=none→ThP TT PT 122 [.ptr m 0 0] s (.tup [.str [],.bool false]) s):=by
 have hk:∀ b:Bool,((tokAt A p).kind==1)=b→ThP TT PT 122 [.ptr m 0 0] s (.tup [.str (if b then(tokAt A p).text else []),.bool b]) (s.set m (RO z t A (if b then p+1 else p))):=fun b hb=>by
  have hlt:b=true→p<A.length:=fun h=>kind_lt (by subst h;simp at hb;omega)
  refine rt_exact (A:=A) (z:=z) (t:=t) (rt_go T122 rfl hs fun S hS=>?_)
  have hn:=nxt_th (hS.get0 p) hA hp
  have hne:((tokAt A p).kind != 1)=!b:=by rw[bne,hb]
  obtain⟨-,-,hlen,get,get0,set,set0,n0,n1,n2,u0,u1,u2⟩:=hS
  cases b
  ·simp only[go_sem,hlen,get,get0,set,set0,n0,n1,n2,u0,u1,u2,LZ]
   refine wx_any hn ?_
   simp only[go_sem,hlen,get,get0,set,set0,n0,n1,n2,u0,u1,u2,LZ,hne,Bool.not_false,Bool.not_true]
   exact rt_end rfl ⟨rfl,rfl⟩ hp ⟨rfl,rfl⟩
  ·have hin:=inc64 (show p<9223372036854775807 by omega)
   simp only[go_sem,hlen,get,get0,set,set0,n0,n1,n2,u0,u1,u2,LZ]
   refine wx_any hn ?_
   simp only[go_sem,hlen,get,get0,set,set0,n0,n1,n2,u0,u1,u2,LZ,hne,hin,Bool.not_false,Bool.not_true]
   exact rt_end rfl ⟨rfl,rfl⟩ (hlt rfl) ⟨rfl,rfl⟩
 refine⟨fun w r h=>?_,fun h=>?_⟩
 ·have hlt:p<A.length:=by
   rcases Nat.lt_or_ge p A.length with h' | h'
   ·exact h'
   ·rw[(tok_z h').1]at h;cases h
  rw[tok_at hlt]at h
  simp only[pName]at h
  split at h
  ·rename_i h1
   cases h
   have:=hk true (by simp[h1])
   exact⟨this,hlt,rfl⟩
  ·cases h
 ·have hb:((tokAt A p).kind==1)=false:=by
   rcases Nat.lt_or_ge p A.length with h' | h'
   ·rw[tok_at h']at h
    simp only[pName]at h
    split at h
    ·cases h
    ·rename_i h1;simpa using h1
   ·rw[(tok_z h').2];rfl
  have:=hk false hb
  simp only[Bool.false_eq_true,if_false]at this
  rw[st_same hs]at this
  exact this
theorem num_th{s:St}{m:Nat}{z:Bool}{t:Nat}{A:List Tk}{p:Nat}(hs:s[m]?=some (RO z t A p))(hA:A.length≤1000000)(hp:p≤A.length)(hN:∀ t∈A,t.kind=2→Lib.parseIntB 64 t.text=.ok (numV t.text)∧t.text.length≤4096):
  (∀ w r,pNum (A.drop p)=some (w,r)→ThP TT PT 161 [.ptr m 0 0] s (.tup [.int .i64 w,.bool true]) (s.set m (RO z t A (p+1)))∧p<A.length∧A.drop (p+1)=r)∧(pNum (A.drop p)=none→ThP TT PT 161 [.ptr m 0 0] s (.tup [.int .i64 0,.bool false]) s):=by
 have hk:∀ b:Bool,((tokAt A p).kind==2)=b→ThP TT PT 161 [.ptr m 0 0] s (.tup [.int .i64 (if b then numV (tokAt A p).text else 0),.bool b]) (s.set m (RO z t A (if b then p+1 else p))):=fun b hb=>by
  have hlt:b=true→p<A.length:=fun h=>kind_lt (by subst h;simp at hb;omega)
  refine rt_exact (A:=A) (z:=z) (t:=t) (rt_go T161 rfl hs fun S hS=>?_)
  have hn:=nxt_th (hS.get0 p) hA hp
  have hne:((tokAt A p).kind != 2)=!b:=by rw[bne,hb]
  obtain⟨-,-,hlen,get,get0,set,set0,n0,n1,n2,u0,u1,u2⟩:=hS
  cases b
  ·simp only[go_sem,hlen,get,get0,set,set0,n0,n1,n2,u0,u1,u2,LZ]
   refine wx_any hn ?_
   simp only[go_sem,hlen,get,get0,set,set0,n0,n1,n2,u0,u1,u2,LZ,hne,Bool.not_false,Bool.not_true]
   exact rt_end rfl ⟨rfl,rfl⟩ hp ⟨rfl,rfl⟩
  ·have hin:=inc64 (show p<9223372036854775807 by omega)
   have hmem:tokAt A p∈A:=by
    have h:=hlt rfl
    unfold tokAt
    rw[List.getElem?_eq_getElem h]
    exact List.getElem_mem h
   obtain⟨hv,hl⟩:=hN _ hmem (by simpa using hb)
   have q:piS [.str (tokAt A p).text,.int .i64 10,.int .i64 64]=some (.tup [.int .i64 (numV (tokAt A p).text),.nili]):=by
    simp only[piS]
    rw[if_pos (by omega),hv]
   simp only[go_sem,hlen,get,get0,set,set0,n0,n1,n2,u0,u1,u2,LZ]
   refine wx_any hn ?_
   simp only[go_sem,hlen,get,get0,set,set0,n0,n1,n2,u0,u1,u2,LZ,hne,Bool.not_false,Bool.not_true]
   refine wx_pr P199 (by simp only[go_sem]) q ?_
   simp only[go_sem,hlen,get,get0,set,set0,n0,n1,n2,u0,u1,u2,LZ,hin]
   exact rt_end rfl ⟨rfl,rfl⟩ (hlt rfl) ⟨rfl,rfl⟩
 refine⟨fun w r h=>?_,fun h=>?_⟩
 ·have hlt:p<A.length:=by
   rcases Nat.lt_or_ge p A.length with h' | h'
   ·exact h'
   ·rw[(tok_z h').1]at h;cases h
  rw[tok_at hlt]at h
  simp only[pNum]at h
  split at h
  ·rename_i h1
   cases h
   have:=hk true (by simp[h1])
   exact⟨this,hlt,rfl⟩
  ·cases h
 ·have hb:((tokAt A p).kind==2)=false:=by
   rcases Nat.lt_or_ge p A.length with h' | h'
   ·rw[tok_at h']at h
    simp only[pNum]at h
    split at h
    ·cases h
    ·rename_i h1;simpa using h1
   ·rw[(tok_z h').2];rfl
  have:=hk false hb
  simp only[Bool.false_eq_true,if_false]at this
  rw[st_same hs]at this
  exact this
/-! operators -/
theorem bop_runs:(opTab.all fun p=>match (bodyF (runD TT PT 300) af169 [.str p.1] []).bind fun q=>back q.2 q.1 with
  | some (.tup [.int .i64 a,.int .i64 b])=>a==(opT p.1).1&&b==(opT p.1).2
  | _=>false)=true:=by kernel_rfl
theorem bop_fn(w:List UInt8):Fn TT PT 169 [.str w] (.tup [.int .i64 (opT w).1,.int .i64 (opT w).2]):=by
 by_cases hm:∃ p∈opTab,p.1=w
 ·obtain⟨p,hp,rfl⟩:=hm
  have hr:=List.all_eq_true.1 bop_runs p hp
  split at hr
  ·rename_i a b hv
   simp only[Bool.and_eq_true,beq_iff_eq]at hr
   rw[←hr.1,←hr.2]
   exact run_fnD hSt T169 rfl rfl hv
  ·cases hr
 ·have hne:∀ p∈opTab,(w==p.1)=false:=fun p hp=>by
   rw[beq_eq_false_iff_ne]
   exact fun h=>hm ⟨p,hp,h.symm⟩
  have h0:opT w=(0,0):=by
   unfold opT
   have:opTab.lookup w=none:=by
    rw[List.lookup_eq_none_iff]
    exact fun p hp=>by rw[bne,hne p hp];rfl
   rw[this]
   rfl
  rw[h0]
  simp only[opTab,List.mem_cons,List.not_mem_nil,or_false,forall_eq_or_imp,forall_eq]at hne
  obtain⟨a1,a2,a3,a4,a5,a6,a7,a8,a9,a10,a11,a12,a13⟩:=hne
  refine Fn_go T169 rfl ?_
  simp only[go_sem,a1,a2,a3,a4,a5,a6,a7,a8,a9,a10,a11,a12,a13]
  exact fr_tup rfl
theorem oper_th{s:St}{m:Nat}{z:Bool}{t:Nat}{A:List Tk}{p:Nat}(hs:s[m]?=some (RO z t A p))(hA:A.length≤1000000)(hp:p≤A.length)(lvl:Nat):ThP TT PT 131 [.ptr m 0 0,.int .i64 (lvl:Int)] s (.int .i64 (opAt lvl (A.drop p))) s:=by
 suffices h:ThP TT PT 131 [.ptr m 0 0,.int .i64 (lvl:Int)] s (.int .i64 (opAt lvl (A.drop p))) (s.set m (RO z t A p)) by
  rw[st_same hs]at h
  exact h
 have ho:opAt lvl (A.drop p)=if(tokAt A p).kind=4 then(if(opT (tokAt A p).text).2=(lvl:Int) then(opT (tokAt A p).text).1 else 0) else 0:=by
  rcases Nat.lt_or_ge p A.length with h' | h'
  ·rw[tok_at h'];rfl
  ·rw[(tok_z h').1,(tok_z h').2];rfl
 rw[ho]
 refine rt_exact (A:=A) (z:=z) (t:=t) (rt_go T131 rfl hs fun S hS=>?_)
 have hn:=nxt_th (hS.get0 p) hA hp
 have hb:=bop_fn (tokAt A p).text
 generalize opT (tokAt A p).text=o at hb ⊢
 obtain⟨o1,o2⟩:=o
 simp only at hb ⊢
 obtain⟨-,-,hlen,get,get0,set,set0,n0,n1,n2,u0,u1,u2⟩:=hS
 by_cases h4:(tokAt A p).kind=4
 ·have g4:((tokAt A p).kind != 4)=false:=by simp[h4]
  rw[if_pos h4]
  by_cases hl:o2=(lvl:Int)
  ·have gl:(o2 != (lvl:Int))=false:=by simp[hl]
   rw[if_pos hl]
   simp only[go_sem,hlen,get,get0,set,set0,n0,n1,n2,u0,u1,u2,LZ]
   refine wx_any hn ?_
   simp only[go_sem,hlen,get,get0,set,set0,n0,n1,n2,u0,u1,u2,LZ,g4]
   refine wx_fn hb (by simp only[go_sem]) ?_
   simp only[go_sem,hlen,get,get0,set,set0,n0,n1,n2,u0,u1,u2,LZ,gl]
   exact rt_end rfl ⟨rfl,rfl⟩ hp ⟨rfl,rfl⟩
  ·have gl:(o2 != (lvl:Int))=true:=by simp[hl]
   rw[if_neg hl]
   simp only[go_sem,hlen,get,get0,set,set0,n0,n1,n2,u0,u1,u2,LZ]
   refine wx_any hn ?_
   simp only[go_sem,hlen,get,get0,set,set0,n0,n1,n2,u0,u1,u2,LZ,g4]
   refine wx_fn hb (by simp only[go_sem]) ?_
   simp only[go_sem,hlen,get,get0,set,set0,n0,n1,n2,u0,u1,u2,LZ,gl]
   exact rt_end rfl ⟨rfl,rfl⟩ hp ⟨rfl,rfl⟩
 ·have g4:((tokAt A p).kind != 4)=true:=by simp[h4]
  rw[if_neg h4]
  simp only[go_sem,hlen,get,get0,set,set0,n0,n1,n2,u0,u1,u2,LZ]
  refine wx_any hn ?_
  simp only[go_sem,hlen,get,get0,set,set0,n0,n1,n2,u0,u1,u2,LZ,g4]
  exact rt_end rfl ⟨rfl,rfl⟩ hp ⟨rfl,rfl⟩
end Go.Proofs.YtlehfgdhebapeaaGreatDoor.KM
