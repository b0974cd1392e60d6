/- Walks: the parser's reader. -/
import Derived.Test.YtcoeikinocflnaaGreatDoorLa
import Derived.Test.YtcoeikinocflnaaGreatDoorLh
import Derived.Test.YtcoeikinocflnaaGreatDoorQt
set_option linter.all false
namespace Go.Proofs.YtcoeikinocflnaaGreatDoor.KM
open Go
def RO(z:Bool)(t:Nat)(A:List Tk)(p:Nat):Ob:=.row [SL z t (A.map Tk.row),.int .i64 (p:Int)] 81 0 0
theorem Xb(z:Bool)(t:Nat)(A:List Tk)(p:Nat):(RO z t A p).refs=[]:=by
 unfold RO SL
 split<;>rfl
structure RdS (s:St) (m:Nat) (z:Bool) (t:Nat) (A:List Tk) (S:Nat->St):Prop where
 low:m<s.length
 eq:∀ p,S p=s.set m (RO z t A p)
 len:∀ p,(S p).length=s.length
 get:∀ (p:Nat) (l:St),(S p++l)[m]?=some (.row [SL z t (A.map Tk.row),.int .i64 (p:Int)] 81 0 0)
 get0:∀ (p:Nat),(S p)[m]?=some (.row [SL z t (A.map Tk.row),.int .i64 (p:Int)] 81 0 0)
 set:∀ (p q:Nat) (l:St),(S p++l).set m (.row [SL z t (A.map Tk.row),.int .i64 (q:Int)] 81 0 0)=S q++l
 set0:∀ (p q:Nat),(S p).set m (.row [SL z t (A.map Tk.row),.int .i64 (q:Int)] 81 0 0)=S q
 n0:∀ (p:Nat) (a:Ob) (l:St),(S p++a::l)[s.length]?=some a
 n1:∀ (p:Nat) (a b:Ob) (l:St),(S p++a::b::l)[s.length+1]?=some b
 n2:∀ (p:Nat) (a b c:Ob) (l:St),(S p++a::b::c::l)[s.length+2]?=some c
 u0:∀ (p:Nat) (a x:Ob) (l:St),(S p++a::l).set s.length x=S p++x::l
 u1:∀ (p:Nat) (a b x:Ob) (l:St),(S p++a::b::l).set (s.length+1) x=S p++a::x::l
 u2:∀ (p:Nat) (a b c x:Ob) (l:St),(S p++a::b::c::l).set (s.length+2) x=S p++a::b::x::l
def Ck{s:St}{m:Nat}{z:Bool}{t:Nat}{A:List Tk}{S:Nat->St}(h:RdS s m z t A S):=And.intro h.len (And.intro h.get (And.intro h.get0 (And.intro h.set (And.intro h.set0 (And.intro h.n0 (And.intro h.n1 (And.intro h.n2 (And.intro h.u0 (And.intro h.u1 (h.u2))))))))))
theorem Aiz{s:St}{m:Nat}(z:Bool)(t:Nat)(A:List Tk)(hm:m<s.length):RdS s m z t A (fun p=>s.set m (RO z t A p)):=by
 have hl:∀ p,(s.set m (RO z t A p)).length=s.length:=fun p=>by simp
 have hs:∀ p q,(s.set m (RO z t A p)).set m (RO z t A q)=s.set m (RO z t A q):=fun p q=>by rw[Oq]
 refine⟨hm,fun _=>rfl,hl,fun p l=>?_,fun p=>?_,fun p q l=>?_,fun p q=>hs p q,fun p a l=>?_,fun p a b l=>?_,fun p a b c l=>?_,fun p a x l=>?_,fun p a b x l=>?_,fun p a b c x l=>?_⟩
 ·exact Dn (Cw hm)
 ·exact Cw hm
 ·rw[Vj _ _ (by simpa using hm)]
  exact congrArg (·++l) (hs p q)
 ·rw[By (by simp)]
  simp
 ·rw[By (by simp)]
  simp
 ·rw[By (by simp)]
  simp
 ·rw[Hh _ _ (by simp)]
  simp
 ·rw[Hh _ _ (by simp)]
  simp
 ·rw[Hh _ _ (by simp)]
  simp
def RT(f:Nat)(av:List V)(s:St)(m:Nat)(z:Bool)(t:Nat)(A:List Tk)(R:V->Nat->Prop):Prop:=∃ v p',Bk TT PT f (.ptr m 0 0::av) s v (s.set m (RO z t A p'))/\p'<=A.length/\R v p'
theorem H8{z:Bool}{t:Nat}{A:List Tk}{f p m q:Nat}{res:List AR}{thr:Bool}{body:AC}{av:List V}{s:St}{R:V->Nat->Prop}(hT:TT f=some ⟨p,res,thr,body,none⟩)(hl:(V.ptr m 0 0::av).length=p)(hs:s[m]?=some (RO z t A q))
  (h:∀ S,RdS s m z t A S->W TT PT [.c body] (Df 0 (.ptr m 0 0::av)) (S q) (Hd fun e' σ1=>∃ v p' l,B2 e' σ1 res=some v/\(Cs v=true/\v.refs=[])/\σ1=S p'++l/\p'<=A.length/\R v p')):RT f av s m z t A R:=by
 have hm:=(Au.1 hs).1
 have h:=h _ (Aiz z t A hm)
 rw[Jn hs]at h
 obtain⟨e',σ1,hE,v,p',l,hr,⟨h1,h2⟩,rfl,h3,h4⟩:=h
 have htk:(s.set m (RO z t A p')++l).take s.length=s.set m (RO z t A p'):=by rw[List.take_append_of_le_length (by simp),Of (by simp)]
 refine⟨v,p',?_,h3,h4⟩
 have:=Ev.fn hT rfl hl hE hr h1 (by rw[h2];rfl) (fun i ob hi ho=>by
  rw[B8 (by simpa using hi)]at ho
  by_cases hb:m=i
  ·subst hb
   rw[Cw hm]at ho
   cases ho
   exact .inr (by rw[Xb];rfl)
  ·rw[B5 hb]at ho
   exact .inl ho)
 rw[htk]at this
 exact⟨_,hT,rfl,this⟩
theorem Bf{S:Nat->St}{A:List Tk}{R:V->Nat->Prop}{e:Env}{res:List AR}{v:V}{p:Nat}{l:St}(hr:B2 e (S p++l) res=some v)(hv:Cs v=true/\v.refs=[])(hp:p<=A.length)(hR:R v p):
  ∃ v p' l',B2 e (S p++l) res=some v/\(Cs v=true/\v.refs=[])/\S p++l=S p'++l'/\p'<=A.length/\R v p':=⟨v,p,l,hr,hv,rfl,hp,hR⟩
theorem T2{S:Nat->St}{A:List Tk}{R:V->Nat->Prop}{e:Env}{res:List AR}{v:V}{p:Nat}(hr:B2 e (S p) res=some v)(hv:Cs v=true/\v.refs=[])(hp:p<=A.length)(hR:R v p):
  ∃ v p' l',B2 e (S p) res=some v/\(Cs v=true/\v.refs=[])/\S p=S p'++l'/\p'<=A.length/\R v p':=⟨v,p,[],hr,hv,(Cx _).symm,hp,hR⟩
theorem K4{s:St}{m:Nat}{z:Bool}{t:Nat}{A:List Tk}{S:Nat->St}(hS:RdS s m z t A S){f p:Nat}{av:List V}{l:St}{R:V->Nat->Prop}(h:(S p++l)[m]?=some (RO z t A p)->RT f av (S p++l) m z t A R):∃ v q,Bk TT PT f (.ptr m 0 0::av) (S p++l) v (S q++l)/\q<=A.length/\R v q:=by
 obtain⟨v,q,h1,h2,h3⟩:=h (hS.get p l)
 have e:(S p++l).set m (RO z t A q)=S q++l:=hS.set p q l
 rw[e]at h1
 exact⟨v,q,h1,h2,h3⟩
theorem Oz{f:Nat}{av:List V}{s:St}{m:Nat}{z:Bool}{t:Nat}{A:List Tk}{w:V}{q:Nat}(h:RT f av s m z t A (fun v p'=>v=w/\p'=q)):Bk TT PT f (.ptr m 0 0::av) s w (s.set m (RO z t A q)):=by
 obtain⟨v,p',h1,-,rfl,rfl⟩:=h
 exact h1
theorem Bh{τ:St}{i x y n t:Nat}{cs:List V}{e:Env}{v:V}(h:τ[i]?=some (.row cs t 0 0))(h1:e.get x=.ptr i 0 0)(hn:cs.length=n)(h2:e.get y=v):B2 e τ [AR.cell x n false,AR.tmp y]=some (.tup [.agg cs,v]):=by
 subst hn h2
 simp only[B2,Ew,Hk,Y5,h1,Dr,h]
 simp[E7]
/-! tokens -/
def Aa(A:List Tk)(p:Nat):Tk:=(A[p]?).getD Tk.zero
theorem Ax7(w:List UInt8)(A:List Tk)(p:Nat):Ai w (A.drop p)=(((Aa A p).kind==3||(Aa A p).kind==4)&&(Aa A p).text==w):=by
 unfold Aa
 cases h:A[p]? with
 | none=>
  rw[J1 (by simpa using h)]
  simp[Ai,Tk.zero]
 | some x=>
  rw[Fg (Au.1 h).1,(Au.1 h).2]
  rfl
theorem K5(A:List Tk):(A.map Tk.row).length=A.length:=Bg ..
theorem Aba{A:List Tk}{p:Nat}{x:Tk}(h:A[p]?=some x):(A.map Tk.row)[p]?=some [.int .i64 x.kind,.str x.text,.int .i64 x.line]:=by rw[A7,h];rfl
theorem Na{s:St}{m:Nat}{z:Bool}{t:Nat}{A:List Tk}{p:Nat}(hs:s[m]?=some (RO z t A p))(hA:A.length<=1000000)(hp:p<=A.length):Bk TT PT 84 [.ptr m 0 0] s (.agg [.int .i64 (Aa A p).kind,.str (Aa A p).text,.int .i64 (Aa A p).line]) s:=by
 suffices h:RT 84 [] s m z t A (fun v p'=>v=.agg [.int .i64 (Aa A p).kind,.str (Aa A p).text,.int .i64 (Aa A p).line]/\p'=p) by
  have:=Oz h
  rw[Jn hs]at this
  exact this
 refine H8 T84 rfl hs fun S hS=>?_
 have Zq:=Ck hS
 obtain⟨-,-,hlen,get,get0,set,set0,n0,n1,n2,u0,u1,u2⟩:=hS
 unfold Aa
 by_cases h:A.length<=p
 ·have g:((A.length:Int)<=(p:Int))=True:=eq_true (by omega)
  have e:A[p]?=none:=by simpa using h
  simp only[go_sem,Zq,LZ]
  refine Ax (by kernel_rfl) ?_
  simp only[go_sem,Zq,LZ,K5,ge_iff_le,g]
  refine Bf (v:=.agg [.int .i64 0,.str [],.int .i64 0]) (Ald (n0 _ _ _) rfl rfl) ⟨rfl,rfl⟩ hp ⟨?_,rfl⟩
  rw[e]
  rfl
 ·have g:((A.length:Int)<=(p:Int))=False:=eq_false (by omega)
  obtain⟨x,hx⟩:∃ x,A[p]?=some x:=⟨_,Aw (by omega)⟩
  have hx':=Aba hx
  simp only[go_sem,Zq,LZ]
  refine Ax (by kernel_rfl) ?_
  simp only[go_sem,Zq,LZ,K5,ge_iff_le,g]
  refine Ax (by kernel_rfl) ?_
  simp only[go_sem,Zq,LZ,K5,hx']
  refine Bl ?_
  simp only[go_sem,Zq,LZ]
  refine Bf (v:=.agg [.int .i64 x.kind,.str x.text,.int .i64 x.line]) (Ald (n0 _ _ _) rfl rfl) ⟨rfl,rfl⟩ hp ⟨?_,rfl⟩
  rw[hx]
  rfl
theorem Acg{s:St}{m:Nat}{z:Bool}{t:Nat}{A:List Tk}{p:Nat}(hs:s[m]?=some (RO z t A p))(hA:A.length<=1000000)(hp:p<=A.length)(w:List UInt8):Bk TT PT 87 [.ptr m 0 0,.str w] s (.bool (Ai w (A.drop p))) s:=by
 suffices h:RT 87 [.str w] s m z t A (fun v p'=>v=.bool (Ai w (A.drop p))/\p'=p) by
  have:=Oz h
  rw[Jn hs]at this
  exact this
 refine H8 T87 rfl hs fun S hS=>?_
 have hn:=Na (hS.get0 p) hA hp
 have Zq:=Ck hS
 obtain⟨-,-,hlen,get,get0,set,set0,n0,n1,n2,u0,u1,u2⟩:=hS
 rw[Ax7]
 generalize Aa A p=x at hn
 obtain⟨k,tx,ln⟩:=x
 simp only at hn ⊢
 simp only[go_sem,Zq,LZ]
 refine Ac hn ?_
 simp only[go_sem,Zq,LZ]
 cases h3:(k==3)<;>cases h4:(k==4)<;>cases hw:(tx==w)
 all_goals
  simp only[go_sem,Zq,LZ,h3,h4,hw]
  exact Bf rfl ⟨rfl,rfl⟩ hp ⟨rfl,rfl⟩
theorem Dd{A:List Tk}{p:Nat}:A.drop (p+1)=(A.drop p).tail:=by rw[List.tail_drop]
theorem C8{w:List UInt8}{A:List Tk}{p:Nat}(h:Ai w (A.drop p)=true):p<A.length:=by
 rcases B3 p A.length with h' | h'
 ·exact h'
 ·rw[J1 h']at h;cases h
theorem Nq{s:St}{m:Nat}{z:Bool}{t:Nat}{A:List Tk}{p:Nat}(hs:s[m]?=some (RO z t A p))(hA:A.length<=1000000){w:List UInt8}(h:Ai w (A.drop p)=true):Bk TT PT 122 [.ptr m 0 0,.str w] s (.bool true) (s.set m (RO z t A (p+1))):=by
 have hlt:=C8 h
 refine Oz (A:=A) (z:=z) (t:=t) (H8 T122 rfl hs fun S hS=>?_)
 have ha:=Acg (hS.get0 p) hA (by omega) w
 rw[h]at ha
 have hin:=Bq (show p<9223372036854775807 by omega)
 have Zq:=Ck hS
 obtain⟨-,-,hlen,get,get0,set,set0,n0,n1,n2,u0,u1,u2⟩:=hS
 simp only[go_sem,Zq,LZ]
 refine Ac ha ?_
 simp only[go_sem,Zq,LZ,hin]
 exact T2 rfl ⟨rfl,rfl⟩ (by omega) ⟨rfl,rfl⟩
theorem Nr{s:St}{m:Nat}{z:Bool}{t:Nat}{A:List Tk}{p:Nat}(hs:s[m]?=some (RO z t A p))(hA:A.length<=1000000)(hp:p<=A.length){w:List UInt8}(h:Ai w (A.drop p)=false):Bk TT PT 122 [.ptr m 0 0,.str w] s (.bool false) s:=by
 suffices h:Bk TT PT 122 [.ptr m 0 0,.str w] s (.bool false) (s.set m (RO z t A p)) by
  rw[Jn hs]at h
  exact h
 refine Oz (A:=A) (z:=z) (t:=t) (H8 T122 rfl hs fun S hS=>?_)
 have ha:=Acg (hS.get0 p) hA hp w
 rw[h]at ha
 have Zq:=Ck hS
 obtain⟨-,-,hlen,get,get0,set,set0,n0,n1,n2,u0,u1,u2⟩:=hS
 simp only[go_sem,Zq,LZ]
 refine Ac ha ?_
 simp only[go_sem,Zq,LZ]
 exact T2 rfl ⟨rfl,rfl⟩ hp ⟨rfl,rfl⟩
/-! the same, in the states of a reader's function -/
theorem H1{s:St}{m:Nat}{z:Bool}{t:Nat}{A:List Tk}{S:Nat->St}(hS:RdS s m z t A S){p:Nat}(l:St)(hA:A.length<=1000000){w:List UInt8}(h:Ai w (A.drop p)=true):Bk TT PT 122 [.ptr m 0 0,.str w] (S p++l) (.bool true) (S (p+1)++l):=by
 have:=Nq (hS.get p l) hA h
 rw[show(S p++l).set m (RO z t A (p+1))=S (p+1)++l from hS.set p (p+1) l]at this
 exact this
theorem Gz{s:St}{m:Nat}{z:Bool}{t:Nat}{A:List Tk}{S:Nat->St}(hS:RdS s m z t A S){p:Nat}(l:St)(hA:A.length<=1000000)(hp:p<=A.length){w:List UInt8}(h:Ai w (A.drop p)=false):Bk TT PT 122 [.ptr m 0 0,.str w] (S p++l) (.bool false) (S p++l):=Nr (hS.get p l) hA hp h
theorem Ii{A:List Tk}{p:Nat}(h:p<A.length):A.drop p=Aa A p::A.drop (p+1):=by
 unfold Aa
 rw[Fg h,Aw h]
 rfl
theorem Hs{A:List Tk}{p:Nat}(h:A.length<=p):A.drop p=[]/\Aa A p=Tk.zero:=by
 unfold Aa
 rw[J1 h,Oh h]
 exact⟨rfl,rfl⟩
theorem Xc{A:List Tk}{p:Nat}(h:(Aa A p).kind≠0):p<A.length:=by
 rcases B3 p A.length with h' | h'
 ·exact h'
 ·rw[(Hs h').2]at h;exact absurd rfl h
theorem Ru{s:St}{m:Nat}{z:Bool}{t:Nat}{A:List Tk}{p:Nat}(hs:s[m]?=some (RO z t A p))(hA:A.length<=1000000)(hp:p<=A.length):
  (∀ w r,B4 (A.drop p)=some (w,r)->Bk TT PT 119 [.ptr m 0 0] s (.tup [.str w,.bool true]) (s.set m (RO z t A (p+1)))/\p<A.length/\A.drop (p+1)=r)/\(B4 (A.drop p)=none->Bk TT PT 119 [.ptr m 0 0] s (.tup [.str [],.bool false]) s):=by
 have hk:∀ b:Bool,((Aa A p).kind==1)=b->Bk TT PT 119 [.ptr m 0 0] s (.tup [.str (if b then(Aa A p).text else []),.bool b]) (s.set m (RO z t A (if b then p+1 else p))):=fun b hb=>by
  have hlt:b=true->p<A.length:=fun h=>Xc (by subst h;simp at hb;omega)
  refine Oz (A:=A) (z:=z) (t:=t) (H8 T119 rfl hs fun S hS=>?_)
  have hn:=Na (hS.get0 p) hA hp
  have hne:((Aa A p).kind != 1)=!b:=by rw[bne,hb]
  have Zq:=Ck hS
  obtain⟨-,-,hlen,get,get0,set,set0,n0,n1,n2,u0,u1,u2⟩:=hS
  cases b
  ·simp only[go_sem,Zq,LZ]
   refine Ac hn ?_
   simp only[go_sem,Zq,LZ,hne,P4,Lm]
   exact Bf rfl ⟨rfl,rfl⟩ hp ⟨rfl,rfl⟩
  ·have hin:=Bq (show p<9223372036854775807 by omega)
   simp only[go_sem,Zq,LZ]
   refine Ac hn ?_
   simp only[go_sem,Zq,LZ,hne,hin,P4,Lm]
   exact Bf rfl ⟨rfl,rfl⟩ (hlt rfl) ⟨rfl,rfl⟩
 refine⟨fun w r h=>?_,fun h=>?_⟩
 ·have hlt:p<A.length:=by
   rcases B3 p A.length with h' | h'
   ·exact h'
   ·rw[(Hs h').1]at h;cases h
  rw[Ii hlt]at h
  simp only[B4]at h
  split at h
  ·rename_i h1
   cases h
   have:=hk true (by simp[h1])
   exact⟨this,hlt,rfl⟩
  ·cases h
 ·have hb:((Aa A p).kind==1)=false:=by
   rcases B3 p A.length with h' | h'
   ·rw[Ii h']at h
    simp only[B4]at h
    split at h
    ·cases h
    ·rename_i h1;simpa using h1
   ·rw[(Hs h').2];rfl
  have:=hk false hb
  simp only[Eh,if_false]at this
  rw[Jn hs]at this
  exact this
theorem Xs{s:St}{m:Nat}{z:Bool}{t:Nat}{A:List Tk}{p:Nat}(hs:s[m]?=some (RO z t A p))(hA:A.length<=1000000)(hp:p<=A.length)(hN:∀ t∈A,t.kind=2->Lib.parseIntB 64 t.text=.ok (Gj t.text)/\t.text.length<=4096):
  (∀ w r,E0 (A.drop p)=some (w,r)->Bk TT PT 168 [.ptr m 0 0] s (.tup [.int .i64 w,.bool true]) (s.set m (RO z t A (p+1)))/\p<A.length/\A.drop (p+1)=r)/\(E0 (A.drop p)=none->Bk TT PT 168 [.ptr m 0 0] s (.tup [.int .i64 0,.bool false]) s):=by
 have hk:∀ b:Bool,((Aa A p).kind==2)=b->Bk TT PT 168 [.ptr m 0 0] s (.tup [.int .i64 (if b then Gj (Aa A p).text else 0),.bool b]) (s.set m (RO z t A (if b then p+1 else p))):=fun b hb=>by
  have hlt:b=true->p<A.length:=fun h=>Xc (by subst h;simp at hb;omega)
  refine Oz (A:=A) (z:=z) (t:=t) (H8 T168 rfl hs fun S hS=>?_)
  have hn:=Na (hS.get0 p) hA hp
  have hne:((Aa A p).kind != 2)=!b:=by rw[bne,hb]
  have Zq:=Ck hS
  obtain⟨-,-,hlen,get,get0,set,set0,n0,n1,n2,u0,u1,u2⟩:=hS
  cases b
  ·simp only[go_sem,Zq,LZ]
   refine Ac hn ?_
   simp only[go_sem,Zq,LZ,hne,P4,Lm]
   exact Bf rfl ⟨rfl,rfl⟩ hp ⟨rfl,rfl⟩
  ·have hin:=Bq (show p<9223372036854775807 by omega)
   have hmem:Aa A p∈A:=by
    have h:=hlt rfl
    unfold Aa
    rw[Aw h]
    exact Fh h
   obtain⟨hv,hl⟩:=hN _ hmem (by simpa using hb)
   have q:Sa [.str (Aa A p).text,.int .i64 10,.int .i64 64]=some (.tup [.int .i64 (Gj (Aa A p).text),.nili]):=by
    simp only[Sa]
    rw[if_pos (by omega),hv]
   simp only[go_sem,Zq,LZ]
   refine Ac hn ?_
   simp only[go_sem,Zq,LZ,hne,P4,Lm]
   refine F2 P202 (by simp only[go_sem]) q ?_
   simp only[go_sem,Zq,LZ,hin]
   exact Bf rfl ⟨rfl,rfl⟩ (hlt rfl) ⟨rfl,rfl⟩
 refine⟨fun w r h=>?_,fun h=>?_⟩
 ·have hlt:p<A.length:=by
   rcases B3 p A.length with h' | h'
   ·exact h'
   ·rw[(Hs h').1]at h;cases h
  rw[Ii hlt]at h
  simp only[E0]at h
  split at h
  ·rename_i h1
   cases h
   have:=hk true (by simp[h1])
   exact⟨this,hlt,rfl⟩
  ·cases h
 ·have hb:((Aa A p).kind==2)=false:=by
   rcases B3 p A.length with h' | h'
   ·rw[Ii h']at h
    simp only[E0]at h
    split at h
    ·cases h
    ·rename_i h1;simpa using h1
   ·rw[(Hs h').2];rfl
  have:=hk false hb
  simp only[Eh,if_false]at this
  rw[Jn hs]at this
  exact this
/-! operators -/
theorem Aqr:(opTab.all fun p=>match (Il (Le TT PT 300) af270 [.str p.1] []).bind fun q=>Ef q.2 q.1 with
  | some (.tup [.int .i64 a,.int .i64 b])=>a==(En p.1).1&&b==(En p.1).2
  | _=>false)=true:=by kernel_rfl
theorem Ax8(w:List UInt8):Fn TT PT 270 [.str w] (.tup [.int .i64 (En w).1,.int .i64 (En w).2]):=by
 by_cases hm:∃ p∈opTab,p.1=w
 ·obtain⟨p,hp,rfl⟩:=hm
  have hr:=A3.1 Aqr p hp
  split at hr
  ·rename_i a b hv
   simp only[Ae,beq_iff_eq]at hr
   rw[<-hr.1,<-hr.2]
   exact Tt Vb T270 rfl rfl hv
  ·cases hr
 ·have hne:∀ p∈opTab,(w==p.1)=false:=fun p hp=>by
   rw[beq_eq_false_iff_ne]
   exact fun h=>hm ⟨p,hp,h.symm⟩
  have h0:En w=(0,0):=by
   unfold En
   have:opTab.lookup w=none:=by
    rw[List.lookup_eq_none_iff]
    exact fun p hp=>by rw[bne,hne p hp];rfl
   rw[this]
   rfl
  rw[h0]
  simp only[opTab,Br,Mk,or_false,forall_eq_or_imp,forall_eq]at hne
  obtain⟨a1,a2,a3,a4,a5,a6,a7,a8,a9,a10,a11,a12,a13⟩:=hne
  refine Ch T270 rfl ?_
  simp only[go_sem,a1,a2,a3,a4,a5,a6,a7,a8,a9,a10,a11,a12,a13]
  exact Jq rfl
theorem At9{s:St}{m:Nat}{z:Bool}{t:Nat}{A:List Tk}{p:Nat}(hs:s[m]?=some (RO z t A p))(hA:A.length<=1000000)(hp:p<=A.length)(lvl:Nat):Bk TT PT 268 [.ptr m 0 0,.int .i64 (lvl:Int)] s (.int .i64 (Fa lvl (A.drop p))) s:=by
 suffices h:Bk TT PT 268 [.ptr m 0 0,.int .i64 (lvl:Int)] s (.int .i64 (Fa lvl (A.drop p))) (s.set m (RO z t A p)) by
  rw[Jn hs]at h
  exact h
 have ho:Fa lvl (A.drop p)=if(Aa A p).kind=4 then(if(En (Aa A p).text).2=(lvl:Int) then(En (Aa A p).text).1 else 0) else 0:=by
  rcases B3 p A.length with h' | h'
  ·rw[Ii h'];rfl
  ·rw[(Hs h').1,(Hs h').2];rfl
 rw[ho]
 refine Oz (A:=A) (z:=z) (t:=t) (H8 T268 rfl hs fun S hS=>?_)
 have hn:=Na (hS.get0 p) hA hp
 have hb:=Ax8 (Aa A p).text
 generalize En (Aa A p).text=o at hb ⊢
 obtain⟨o1,o2⟩:=o
 simp only at hb ⊢
 have Zq:=Ck hS
 obtain⟨-,-,hlen,get,get0,set,set0,n0,n1,n2,u0,u1,u2⟩:=hS
 by_cases h4:(Aa A p).kind=4
 ·have g4:((Aa A p).kind != 4)=false:=by simp[h4]
  rw[if_pos h4]
  by_cases hl:o2=(lvl:Int)
  ·have gl:(o2 != (lvl:Int))=false:=by simp[hl]
   rw[if_pos hl]
   simp only[go_sem,Zq,LZ]
   refine Ac hn ?_
   simp only[go_sem,Zq,LZ,g4]
   refine An hb (by simp only[go_sem]) ?_
   simp only[go_sem,Zq,LZ,gl]
   exact Bf rfl ⟨rfl,rfl⟩ hp ⟨rfl,rfl⟩
  ·have gl:(o2 != (lvl:Int))=true:=by simp[hl]
   rw[if_neg hl]
   simp only[go_sem,Zq,LZ]
   refine Ac hn ?_
   simp only[go_sem,Zq,LZ,g4]
   refine An hb (by simp only[go_sem]) ?_
   simp only[go_sem,Zq,LZ,gl]
   exact Bf rfl ⟨rfl,rfl⟩ hp ⟨rfl,rfl⟩
 ·have g4:((Aa A p).kind != 4)=true:=by simp[h4]
  rw[if_neg h4]
  simp only[go_sem,Zq,LZ]
  refine Ac hn ?_
  simp only[go_sem,Zq,LZ,g4]
  exact Bf rfl ⟨rfl,rfl⟩ hp ⟨rfl,rfl⟩
end Go.Proofs.YtcoeikinocflnaaGreatDoor.KM
