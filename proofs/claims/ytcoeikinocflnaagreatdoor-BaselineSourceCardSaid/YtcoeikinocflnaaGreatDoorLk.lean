/- Walks: the parser's reader. -/
import Derived.Test.YtcoeikinocflnaaGreatDoorLd
import Derived.Test.YtcoeikinocflnaaGreatDoorQt
set_option linter.all false
namespace Go.Proofs.YtcoeikinocflnaaGreatDoor.KM
open Go
def RO(z:Bool)(t:Nat)(A:List Tk)(p:Nat):Ob:=.row [SL z t (A.map Tk.row),.int .i64 (p:Int)] 81 0 0
theorem Xy(z:Bool)(t:Nat)(A:List Tk)(p:Nat):(RO z t A p).refs=[]:=by
 unfold RO SL
 split<;>rfl
structure RdS (s:St) (m:Nat) (z:Bool) (t:Nat) (A:List Tk) (S:Nat->St):Prop where
 low:m<s.length
 eq:∀ p,S p=s.set m (RO z t A p)
 len:∀ p,(S p).length=s.length
 get:∀ (p:Nat) (l:St),(S p++l)[m]?=some (.row [SL z t (A.map Tk.row),.int .i64 (p:Int)] 81 0 0)
 get0:∀ (p:Nat),(S p)[m]?=some (.row [SL z t (A.map Tk.row),.int .i64 (p:Int)] 81 0 0)
 set:∀ (p q:Nat) (l:St),(S p++l).set m (.row [SL z t (A.map Tk.row),.int .i64 (q:Int)] 81 0 0)=S q++l
 set0:∀ (p q:Nat),(S p).set m (.row [SL z t (A.map Tk.row),.int .i64 (q:Int)] 81 0 0)=S q
 n0:∀ (p:Nat) (a:Ob) (l:St),(S p++a::l)[s.length]?=some a
 n1:∀ (p:Nat) (a b:Ob) (l:St),(S p++a::b::l)[s.length+1]?=some b
 n2:∀ (p:Nat) (a b c:Ob) (l:St),(S p++a::b::c::l)[s.length+2]?=some c
 u0:∀ (p:Nat) (a x:Ob) (l:St),(S p++a::l).set s.length x=S p++x::l
 u1:∀ (p:Nat) (a b x:Ob) (l:St),(S p++a::b::l).set (s.length+1) x=S p++a::x::l
 u2:∀ (p:Nat) (a b c x:Ob) (l:St),(S p++a::b::c::l).set (s.length+2) x=S p++a::b::x::l
def C4{s:St}{m:Nat}{z:Bool}{t:Nat}{A:List Tk}{S:Nat->St}(h:RdS s m z t A S):=And.intro h.len (And.intro h.get (And.intro h.get0 (And.intro h.set (And.intro h.set0 (And.intro h.n0 (And.intro h.n1 (And.intro h.n2 (And.intro h.u0 (And.intro h.u1 (h.u2))))))))))
theorem Aje{s:St}{m:Nat}(z:Bool)(t:Nat)(A:List Tk)(hm:m<s.length):RdS s m z t A (fun p=>s.set m (RO z t A p)):=by
 have hl:∀ p,(s.set m (RO z t A p)).length=s.length:=fun p=>by simp
 have hs:∀ p q,(s.set m (RO z t A p)).set m (RO z t A q)=s.set m (RO z t A q):=fun p q=>by rw[Td]
 refine⟨hm,fun _=>rfl,hl,fun p l=>?_,fun p=>?_,fun p q l=>?_,fun p q=>hs p q,fun p a l=>?_,fun p a b l=>?_,fun p a b c l=>?_,fun p a x l=>?_,fun p a b x l=>?_,fun p a b c x l=>?_⟩
 ·exact Br (B8 hm)
 ·exact B8 hm
 ·rw[Sy _ _ (by simpa using hm)];exact congrArg (·++l) (hs p q)
 ·rw[Cf (by simp)];simp
 ·rw[Cf (by simp)];simp
 ·rw[Cf (by simp)];simp
 ·rw[Jg _ _ (by simp)];simp
 ·rw[Jg _ _ (by simp)];simp
 ·rw[Jg _ _ (by simp)];simp
def RT(f:Nat)(av:List V)(s:St)(m:Nat)(z:Bool)(t:Nat)(A:List Tk)(R:V->Nat->Prop):Prop:=∃ v p',Bp TT PT f (.ptr m 0 0::av) s v (s.set m (RO z t A p'))/\p'<=A.length/\R v p'
theorem Io{z:Bool}{t:Nat}{A:List Tk}{f p m q:Nat}{res:List AR}{thr:Bool}{body:AC}{av:List V}{s:St}{R:V->Nat->Prop}(hT:TT f=some ⟨p,res,thr,body,none⟩)(hl:(V.ptr m 0 0::av).length=p)(hs:s[m]?=some (RO z t A q))
  (h:∀ S,RdS s m z t A S->W TT PT [.c body] (C2 0 (.ptr m 0 0::av)) (S q) (Hd fun e' σ1=>∃ v p' l,B6 e' σ1 res=some v/\(Cc v=true/\v.refs=[])/\σ1=S p'++l/\p'<=A.length/\R v p')):RT f av s m z t A R:=by
 have hm:=(Ar.1 hs).1;have h:=h _ (Aje z t A hm);rw[Jn hs]at h;obtain⟨e',σ1,hE,v,p',l,hr,⟨h1,h2⟩,rfl,h3,h4⟩:=h;have htk:(s.set m (RO z t A p')++l).take s.length=s.set m (RO z t A p'):=by rw[List.take_append_of_le_length (by simp),Jf (by simp)]
 refine⟨v,p',?_,h3,h4⟩
 have:=Ev.fn hT rfl hl hE hr h1 (by rw[h2];rfl) (fun i ob hi ho=>by
  rw[Co (by simpa using hi)]at ho;by_cases hb:m=i
  ·subst hb;rw[B8 hm]at ho;cases ho;exact .inr (by rw[Xy];rfl)
  ·rw[Bc hb]at ho
   exact .inl ho)
 rw[htk]at this;exact⟨_,hT,rfl,this⟩
theorem By{S:Nat->St}{A:List Tk}{R:V->Nat->Prop}{e:Env}{res:List AR}{v:V}{p:Nat}{l:St}(hr:B6 e (S p++l) res=some v)(hv:Cc v=true/\v.refs=[])(hp:p<=A.length)(hR:R v p):
  ∃ v p' l',B6 e (S p++l) res=some v/\(Cc v=true/\v.refs=[])/\S p++l=S p'++l'/\p'<=A.length/\R v p':=⟨v,p,l,hr,hv,rfl,hp,hR⟩
theorem Um{S:Nat->St}{A:List Tk}{R:V->Nat->Prop}{e:Env}{res:List AR}{v:V}{p:Nat}(hr:B6 e (S p) res=some v)(hv:Cc v=true/\v.refs=[])(hp:p<=A.length)(hR:R v p):
  ∃ v p' l',B6 e (S p) res=some v/\(Cc v=true/\v.refs=[])/\S p=S p'++l'/\p'<=A.length/\R v p':=⟨v,p,[],hr,hv,(Cw _).symm,hp,hR⟩
theorem Lv{s:St}{m:Nat}{z:Bool}{t:Nat}{A:List Tk}{S:Nat->St}(hS:RdS s m z t A S){f p:Nat}{av:List V}{l:St}{R:V->Nat->Prop}(h:(S p++l)[m]?=some (RO z t A p)->RT f av (S p++l) m z t A R):∃ v q,Bp TT PT f (.ptr m 0 0::av) (S p++l) v (S q++l)/\q<=A.length/\R v q:=by
 obtain⟨v,q,h1,h2,h3⟩:=h (hS.get p l);have e:(S p++l).set m (RO z t A q)=S q++l:=hS.set p q l;rw[e]at h1;exact⟨v,q,h1,h2,h3⟩
theorem Pa{f:Nat}{av:List V}{s:St}{m:Nat}{z:Bool}{t:Nat}{A:List Tk}{w:V}{q:Nat}(h:RT f av s m z t A (fun v p'=>v=w/\p'=q)):Bp TT PT f (.ptr m 0 0::av) s w (s.set m (RO z t A q)):=by
 obtain⟨v,p',h1,-,rfl,rfl⟩:=h;exact h1
theorem B0{τ:St}{i x y n t:Nat}{cs:List V}{e:Env}{v:V}(h:τ[i]?=some (.row cs t 0 0))(h1:e.get x=.ptr i 0 0)(hn:cs.length=n)(h2:e.get y=v):B6 e τ [AR.cell x n false,AR.tmp y]=some (.tup [.agg cs,v]):=by
 subst hn h2;simp only[B6,Fe,Hs,Wg,h1,Gy,h];simp[Fq]
/-! tokens -/
def Aa(A:List Tk)(p:Nat):Tk:=(A[p]?).getD Tk.zero
theorem Ayc(w:List UInt8)(A:List Tk)(p:Nat):As w (A.drop p)=(((Aa A p).kind==3||(Aa A p).kind==4)&&(Aa A p).text==w):=by
 unfold Aa
 cases h:A[p]? with
 | none=>
  rw[Fk (by simpa using h)];simp[As,Tk.zero]
 | some x=>
  rw[Je (Ar.1 h).1,(Ar.1 h).2];rfl
theorem Lw(A:List Tk):(A.map Tk.row).length=A.length:=Bl ..
theorem Abz{A:List Tk}{p:Nat}{x:Tk}(h:A[p]?=some x):(A.map Tk.row)[p]?=some [.int .i64 x.kind,.str x.text,.int .i64 x.line]:=by rw[Bb,h];rfl
theorem Nx{s:St}{m:Nat}{z:Bool}{t:Nat}{A:List Tk}{p:Nat}(hs:s[m]?=some (RO z t A p))(hA:A.length<=1000000)(hp:p<=A.length):Bp TT PT 84 [.ptr m 0 0] s (.agg [.int .i64 (Aa A p).kind,.str (Aa A p).text,.int .i64 (Aa A p).line]) s:=by
 suffices h:RT 84 [] s m z t A (fun v p'=>v=.agg [.int .i64 (Aa A p).kind,.str (Aa A p).text,.int .i64 (Aa A p).line]/\p'=p) by
  have:=Pa h;rw[Jn hs]at this;exact this
 refine Io T84 rfl hs fun S hS=>?_
 have Zq:=C4 hS;obtain⟨-,-,hlen,get,get0,set,set0,n0,n1,n2,u0,u1,u2⟩:=hS;unfold Aa;by_cases h:A.length<=p
 ·have g:((A.length:Int)<=(p:Int))=True:=eq_true (by omega);have e:A[p]?=none:=by simpa using h
  simp only[go_sem,Zq,LZ];refine Ag (by kernel_rfl) ?_;simp only[go_sem,Zq,LZ,Lw,ge_iff_le,g];refine By (v:=.agg [.int .i64 0,.str [],.int .i64 0]) (Sj (n0 _ _ _) rfl rfl) ⟨rfl,rfl⟩ hp ⟨?_,rfl⟩;rw[e];rfl
 ·have g:((A.length:Int)<=(p:Int))=False:=eq_false (by omega);obtain⟨x,hx⟩:∃ x,A[p]?=some x:=⟨_,A0 (by omega)⟩;have hx':=Abz hx;simp only[go_sem,Zq,LZ];refine Ag (by kernel_rfl) ?_;simp only[go_sem,Zq,LZ,Lw,ge_iff_le,g];refine Ag (by kernel_rfl) ?_;simp only[go_sem,Zq,LZ,Lw,hx'];refine Ay ?_;simp only[go_sem,Zq,LZ];refine By (v:=.agg [.int .i64 x.kind,.str x.text,.int .i64 x.line]) (Sj (n0 _ _ _) rfl rfl) ⟨rfl,rfl⟩ hp ⟨?_,rfl⟩;rw[hx];rfl
theorem Adf{s:St}{m:Nat}{z:Bool}{t:Nat}{A:List Tk}{p:Nat}(hs:s[m]?=some (RO z t A p))(hA:A.length<=1000000)(hp:p<=A.length)(w:List UInt8):Bp TT PT 87 [.ptr m 0 0,.str w] s (.bool (As w (A.drop p))) s:=by
 suffices h:RT 87 [.str w] s m z t A (fun v p'=>v=.bool (As w (A.drop p))/\p'=p) by
  have:=Pa h;rw[Jn hs]at this;exact this
 refine Io T87 rfl hs fun S hS=>?_
 have hn:=Nx (hS.get0 p) hA hp;have Zq:=C4 hS;obtain⟨-,-,hlen,get,get0,set,set0,n0,n1,n2,u0,u1,u2⟩:=hS;rw[Ayc];generalize Aa A p=x at hn;obtain⟨k,tx,ln⟩:=x;simp only at hn ⊢;simp only[go_sem,Zq,LZ];refine Ac hn ?_;simp only[go_sem,Zq,LZ]
 cases h3:(k==3)<;>cases h4:(k==4)<;>cases hw:(tx==w)
 all_goals
  simp only[go_sem,Zq,LZ,h3,h4,hw];exact By rfl ⟨rfl,rfl⟩ hp ⟨rfl,rfl⟩
theorem Dj{A:List Tk}{p:Nat}:A.drop (p+1)=(A.drop p).tail:=by rw[List.tail_drop]
theorem Dh{w:List UInt8}{A:List Tk}{p:Nat}(h:As w (A.drop p)=true):p<A.length:=by
 rcases Bx p A.length with h' | h'
 ·exact h'
 ·rw[Fk h']at h;cases h
theorem N8{s:St}{m:Nat}{z:Bool}{t:Nat}{A:List Tk}{p:Nat}(hs:s[m]?=some (RO z t A p))(hA:A.length<=1000000){w:List UInt8}(h:As w (A.drop p)=true):Bp TT PT 122 [.ptr m 0 0,.str w] s (.bool true) (s.set m (RO z t A (p+1))):=by
 have hlt:=Dh h;refine Pa (A:=A) (z:=z) (t:=t) (Io T122 rfl hs fun S hS=>?_);have ha:=Adf (hS.get0 p) hA (by omega) w;rw[h]at ha;have hin:=Bg (show p<9223372036854775807 by omega);have Zq:=C4 hS;obtain⟨-,-,hlen,get,get0,set,set0,n0,n1,n2,u0,u1,u2⟩:=hS;simp only[go_sem,Zq,LZ];refine Ac ha ?_;simp only[go_sem,Zq,LZ,hin];exact Um rfl ⟨rfl,rfl⟩ (by omega) ⟨rfl,rfl⟩
theorem N9{s:St}{m:Nat}{z:Bool}{t:Nat}{A:List Tk}{p:Nat}(hs:s[m]?=some (RO z t A p))(hA:A.length<=1000000)(hp:p<=A.length){w:List UInt8}(h:As w (A.drop p)=false):Bp TT PT 122 [.ptr m 0 0,.str w] s (.bool false) s:=by
 suffices h:Bp TT PT 122 [.ptr m 0 0,.str w] s (.bool false) (s.set m (RO z t A p)) by
  rw[Jn hs]at h;exact h
 refine Pa (A:=A) (z:=z) (t:=t) (Io T122 rfl hs fun S hS=>?_);have ha:=Adf (hS.get0 p) hA hp w;rw[h]at ha;have Zq:=C4 hS;obtain⟨-,-,hlen,get,get0,set,set0,n0,n1,n2,u0,u1,u2⟩:=hS;simp only[go_sem,Zq,LZ];refine Ac ha ?_;simp only[go_sem,Zq,LZ];exact Um rfl ⟨rfl,rfl⟩ hp ⟨rfl,rfl⟩
/-! the same, in the states of a reader's function -/
theorem Ih{s:St}{m:Nat}{z:Bool}{t:Nat}{A:List Tk}{S:Nat->St}(hS:RdS s m z t A S){p:Nat}(l:St)(hA:A.length<=1000000){w:List UInt8}(h:As w (A.drop p)=true):Bp TT PT 122 [.ptr m 0 0,.str w] (S p++l) (.bool true) (S (p+1)++l):=by
 have:=N8 (hS.get p l) hA h;rw[show(S p++l).set m (RO z t A (p+1))=S (p+1)++l from hS.set p (p+1) l]at this;exact this
theorem Hk{s:St}{m:Nat}{z:Bool}{t:Nat}{A:List Tk}{S:Nat->St}(hS:RdS s m z t A S){p:Nat}(l:St)(hA:A.length<=1000000)(hp:p<=A.length){w:List UInt8}(h:As w (A.drop p)=false):Bp TT PT 122 [.ptr m 0 0,.str w] (S p++l) (.bool false) (S p++l):=N9 (hS.get p l) hA hp h
theorem I3{A:List Tk}{p:Nat}(h:p<A.length):A.drop p=Aa A p::A.drop (p+1):=by
 unfold Aa;rw[Je h,A0 h];rfl
theorem H2{A:List Tk}{p:Nat}(h:A.length<=p):A.drop p=[]/\Aa A p=Tk.zero:=by
 unfold Aa;rw[Fk h,Ou h];exact⟨rfl,rfl⟩
theorem Xz{A:List Tk}{p:Nat}(h:(Aa A p).kind≠0):p<A.length:=by
 rcases Bx p A.length with h' | h'
 ·exact h'
 ·rw[(H2 h').2]at h;exact absurd rfl h
theorem R8{s:St}{m:Nat}{z:Bool}{t:Nat}{A:List Tk}{p:Nat}(hs:s[m]?=some (RO z t A p))(hA:A.length<=1000000)(hp:p<=A.length):
  (∀ w r,Cy (A.drop p)=some (w,r)->Bp TT PT 119 [.ptr m 0 0] s (.tup [.str w,.bool true]) (s.set m (RO z t A (p+1)))/\p<A.length/\A.drop (p+1)=r)/\(Cy (A.drop p)=none->Bp TT PT 119 [.ptr m 0 0] s (.tup [.str [],.bool false]) s):=by
 have hk:∀ b:Bool,((Aa A p).kind==1)=b->Bp TT PT 119 [.ptr m 0 0] s (.tup [.str (if b then(Aa A p).text else []),.bool b]) (s.set m (RO z t A (if b then p+1 else p))):=fun b hb=>by
  have hlt:b=true->p<A.length:=fun h=>Xz (by subst h;simp at hb;omega)
  refine Pa (A:=A) (z:=z) (t:=t) (Io T119 rfl hs fun S hS=>?_);have hn:=Nx (hS.get0 p) hA hp;have hne:((Aa A p).kind != 1)=!b:=by rw[bne,hb]
  have Zq:=C4 hS;obtain⟨-,-,hlen,get,get0,set,set0,n0,n1,n2,u0,u1,u2⟩:=hS;cases b
  ·simp only[go_sem,Zq,LZ];refine Ac hn ?_;simp only[go_sem,Zq,LZ,hne,Av,Ap];exact By rfl ⟨rfl,rfl⟩ hp ⟨rfl,rfl⟩
  ·have hin:=Bg (show p<9223372036854775807 by omega);simp only[go_sem,Zq,LZ];refine Ac hn ?_;simp only[go_sem,Zq,LZ,hne,hin,Av,Ap];exact By rfl ⟨rfl,rfl⟩ (hlt rfl) ⟨rfl,rfl⟩
 refine⟨fun w r h=>?_,fun h=>?_⟩
 ·have hlt:p<A.length:=by
   rcases Bx p A.length with h' | h'
   ·exact h'
   ·rw[(H2 h').1]at h;cases h
  rw[I3 hlt]at h;simp only[Cy]at h
  split at h
  ·rename_i h1;cases h;have:=hk true (by simp[h1]);exact⟨this,hlt,rfl⟩
  ·cases h
 ·have hb:((Aa A p).kind==1)=false:=by
   rcases Bx p A.length with h' | h'
   ·rw[I3 h']at h;simp only[Cy]at h
    split at h
    ·cases h
    ·rename_i h1;simpa using h1
   ·rw[(H2 h').2];rfl
  have:=hk false hb;simp only[Er,if_false]at this;rw[Jn hs]at this;exact this
theorem Ye{s:St}{m:Nat}{z:Bool}{t:Nat}{A:List Tk}{p:Nat}(hs:s[m]?=some (RO z t A p))(hA:A.length<=1000000)(hp:p<=A.length)(hN:∀ t∈A,t.kind=2->Lib.parseIntB 64 t.text=.ok (Hm t.text)/\t.text.length<=4096):
  (∀ w r,Fy (A.drop p)=some (w,r)->Bp TT PT 168 [.ptr m 0 0] s (.tup [.int .i64 w,.bool true]) (s.set m (RO z t A (p+1)))/\p<A.length/\A.drop (p+1)=r)/\(Fy (A.drop p)=none->Bp TT PT 168 [.ptr m 0 0] s (.tup [.int .i64 0,.bool false]) s):=by
 have hk:∀ b:Bool,((Aa A p).kind==2)=b->Bp TT PT 168 [.ptr m 0 0] s (.tup [.int .i64 (if b then Hm (Aa A p).text else 0),.bool b]) (s.set m (RO z t A (if b then p+1 else p))):=fun b hb=>by
  have hlt:b=true->p<A.length:=fun h=>Xz (by subst h;simp at hb;omega)
  refine Pa (A:=A) (z:=z) (t:=t) (Io T168 rfl hs fun S hS=>?_);have hn:=Nx (hS.get0 p) hA hp;have hne:((Aa A p).kind != 2)=!b:=by rw[bne,hb]
  have Zq:=C4 hS;obtain⟨-,-,hlen,get,get0,set,set0,n0,n1,n2,u0,u1,u2⟩:=hS;cases b
  ·simp only[go_sem,Zq,LZ];refine Ac hn ?_;simp only[go_sem,Zq,LZ,hne,Av,Ap];exact By rfl ⟨rfl,rfl⟩ hp ⟨rfl,rfl⟩
  ·have hin:=Bg (show p<9223372036854775807 by omega)
   have hmem:Aa A p∈A:=by
    have h:=hlt rfl;unfold Aa;rw[A0 h];exact Fa h
   obtain⟨hv,hl⟩:=hN _ hmem (by simpa using hb)
   have q:Ss [.str (Aa A p).text,.int .i64 10,.int .i64 64]=some (.tup [.int .i64 (Hm (Aa A p).text),.nili]):=by
    simp only[Ss];rw[if_pos (by omega),hv]
   simp only[go_sem,Zq,LZ];refine Ac hn ?_;simp only[go_sem,Zq,LZ,hne,Av,Ap];refine E6 P202 (by simp only[go_sem]) q ?_;simp only[go_sem,Zq,LZ,hin];exact By rfl ⟨rfl,rfl⟩ (hlt rfl) ⟨rfl,rfl⟩
 refine⟨fun w r h=>?_,fun h=>?_⟩
 ·have hlt:p<A.length:=by
   rcases Bx p A.length with h' | h'
   ·exact h'
   ·rw[(H2 h').1]at h;cases h
  rw[I3 hlt]at h;simp only[Fy]at h
  split at h
  ·rename_i h1;cases h;have:=hk true (by simp[h1]);exact⟨this,hlt,rfl⟩
  ·cases h
 ·have hb:((Aa A p).kind==2)=false:=by
   rcases Bx p A.length with h' | h'
   ·rw[I3 h']at h;simp only[Fy]at h
    split at h
    ·cases h
    ·rename_i h1;simpa using h1
   ·rw[(H2 h').2];rfl
  have:=hk false hb;simp only[Er,if_false]at this;rw[Jn hs]at this;exact this
/-! operators -/
theorem Aq8:(opTab.all fun p=>match (H0 (Jz TT PT 300) af270 [.str p.1] []).bind fun q=>Dw q.2 q.1 with
  | some (.tup [.int .i64 a,.int .i64 b])=>a==(G9 p.1).1&&b==(G9 p.1).2
  | _=>false)=true:=by kernel_rfl
theorem Ayd(w:List UInt8):Fn TT PT 270 [.str w] (.tup [.int .i64 (G9 w).1,.int .i64 (G9 w).2]):=by
 by_cases hm:∃ p∈opTab,p.1=w
 ·obtain⟨p,hp,rfl⟩:=hm;have hr:=Bd.1 Aq8 p hp
  split at hr
  ·rename_i a b hv;simp only[Af,beq_iff_eq]at hr;rw[<-hr.1,<-hr.2];exact Mo Na T270 rfl rfl hv
  ·cases hr
 ·have hne:∀ p∈opTab,(w==p.1)=false:=fun p hp=>by
   rw[beq_eq_false_iff_ne];exact fun h=>hm ⟨p,hp,h.symm⟩
  have h0:G9 w=(0,0):=by
   unfold G9
   have:opTab.lookup w=none:=by
    rw[List.lookup_eq_none_iff];exact fun p hp=>by rw[bne,hne p hp];rfl
   rw[this];rfl
  rw[h0];simp only[opTab,Be,Oy,or_false,forall_eq_or_imp,forall_eq]at hne;obtain⟨a1,a2,a3,a4,a5,a6,a7,a8,a9,a10,a11,a12,a13⟩:=hne;refine Bn T270 rfl ?_;simp only[go_sem,a1,a2,a3,a4,a5,a6,a7,a8,a9,a10,a11,a12,a13];exact Ie rfl
theorem Aup{s:St}{m:Nat}{z:Bool}{t:Nat}{A:List Tk}{p:Nat}(hs:s[m]?=some (RO z t A p))(hA:A.length<=1000000)(hp:p<=A.length)(lvl:Nat):Bp TT PT 268 [.ptr m 0 0,.int .i64 (lvl:Int)] s (.int .i64 (F8 lvl (A.drop p))) s:=by
 suffices h:Bp TT PT 268 [.ptr m 0 0,.int .i64 (lvl:Int)] s (.int .i64 (F8 lvl (A.drop p))) (s.set m (RO z t A p)) by
  rw[Jn hs]at h;exact h
 have ho:F8 lvl (A.drop p)=if(Aa A p).kind=4 then(if(G9 (Aa A p).text).2=(lvl:Int) then(G9 (Aa A p).text).1 else 0) else 0:=by
  rcases Bx p A.length with h' | h'
  ·rw[I3 h'];rfl
  ·rw[(H2 h').1,(H2 h').2];rfl
 rw[ho];refine Pa (A:=A) (z:=z) (t:=t) (Io T268 rfl hs fun S hS=>?_);have hn:=Nx (hS.get0 p) hA hp;have hb:=Ayd (Aa A p).text;generalize G9 (Aa A p).text=o at hb ⊢;obtain⟨o1,o2⟩:=o;simp only at hb ⊢;have Zq:=C4 hS;obtain⟨-,-,hlen,get,get0,set,set0,n0,n1,n2,u0,u1,u2⟩:=hS;by_cases h4:(Aa A p).kind=4
 ·have g4:((Aa A p).kind != 4)=false:=by simp[h4]
  rw[if_pos h4];by_cases hl:o2=(lvl:Int)
  ·have gl:(o2 != (lvl:Int))=false:=by simp[hl]
   rw[if_pos hl];simp only[go_sem,Zq,LZ];refine Ac hn ?_;simp only[go_sem,Zq,LZ,g4];refine Ad hb (by simp only[go_sem]) ?_;simp only[go_sem,Zq,LZ,gl];exact By rfl ⟨rfl,rfl⟩ hp ⟨rfl,rfl⟩
  ·have gl:(o2 != (lvl:Int))=true:=by simp[hl]
   rw[if_neg hl];simp only[go_sem,Zq,LZ];refine Ac hn ?_;simp only[go_sem,Zq,LZ,g4];refine Ad hb (by simp only[go_sem]) ?_;simp only[go_sem,Zq,LZ,gl];exact By rfl ⟨rfl,rfl⟩ hp ⟨rfl,rfl⟩
 ·have g4:((Aa A p).kind != 4)=true:=by simp[h4]
  rw[if_neg h4];simp only[go_sem,Zq,LZ];refine Ac hn ?_;simp only[go_sem,Zq,LZ,g4];exact By rfl ⟨rfl,rfl⟩ hp ⟨rfl,rfl⟩
