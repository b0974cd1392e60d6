/- Walks: the parser's reader. -/
import Derived.Test.YthlbbjcbmojocabGreatDoorLj
set_option linter.all false
namespace Go.Proofs.YthlbbjcbmojocabGreatDoor.KM
open Go
def RO(z:Bool)(t:Nat)(A:List Tk)(p:Nat):Ob:=.row [SL z t (A.map Tk.row),iV (p:Int)] 58 0 0
def Abj(z:Bool)(t:Nat)(A:List Tk)(p:Nat):(RO z t A p).refs=[]:=by
 unfold RO SL
 split<;>rfl
structure RdS (s:St) (m:Nat) (z:Bool) (t:Nat) (A:List Tk) (S:Nat->St):Prop where
 low:m<s.length
 eq:∀ p,S p=s.set m (RO z t A p)
 len:∀ p,(S p).length=s.length
 get:∀ (p:Nat) (l:St),(S p++l)[m]?=some (.row [SL z t (A.map Tk.row),iV (p:Int)] 58 0 0)
 get0:∀ (p:Nat),(S p)[m]?=some (.row [SL z t (A.map Tk.row),iV (p:Int)] 58 0 0)
 set:∀ (p q:Nat) (l:St),(S p++l).set m (.row [SL z t (A.map Tk.row),iV (q:Int)] 58 0 0)=S q++l
 set0:∀ (p q:Nat),(S p).set m (.row [SL z t (A.map Tk.row),iV (q:Int)] 58 0 0)=S q
 n0:∀ (p:Nat) (a:Ob) (l:St),(S p++a::l)[s.length]?=some a
 n1:∀ (p:Nat) (a b:Ob) (l:St),(S p++a::b::l)[s.length+1]?=some b
 n2:∀ (p:Nat) (a b c:Ob) (l:St),(S p++a::b::c::l)[s.length+2]?=some c
 u0:∀ (p:Nat) (a x:Ob) (l:St),(S p++a::l).set s.length x=S p++x::l
 u1:∀ (p:Nat) (a b x:Ob) (l:St),(S p++a::b::l).set (s.length+1) x=S p++a::x::l
 u2:∀ (p:Nat) (a b c x:Ob) (l:St),(S p++a::b::c::l).set (s.length+2) x=S p++a::b::x::l
def Di{s:St}{m:Nat}{z:Bool}{t:Nat}{A:List Tk}{S:Nat->St}(h:RdS s m z t A S):=And.intro h.len (And.intro h.get (And.intro h.get0 (And.intro h.set (And.intro h.set0 (And.intro h.n0 (And.intro h.n1 (And.intro h.n2 (And.intro h.u0 (And.intro h.u1 (h.u2))))))))))
def Apj{s:St}{m:Nat}(z:Bool)(t:Nat)(A:List Tk)(hm:m<s.length):RdS s m z t A (fun p=>s.set m (RO z t A p)):=by
 have hl:∀ p,(s.set m (RO z t A p)).length=s.length:=fun p=>by simp
 have hs:∀ p q,(s.set m (RO z t A p)).set m (RO z t A q)=s.set m (RO z t A q):=fun p q=>by rw[Wk]
 refine⟨hm,fun _=>rfl,hl,fun p l=>?_,fun p=>?_,fun p q l=>?_,fun p q=>hs p q,fun p a l=>?_,fun p a b l=>?_,fun p a b c l=>?_,fun p a x l=>?_,fun p a b x l=>?_,fun p a b c x l=>?_⟩
 .exact B5 (Ci hm)
 .exact Ci hm
 .rw[V9 _ _ (by simpa using hm)];exact congrArg (·++l) (hs p q)
 .rw[Cd (by simp)];simp
 .rw[Cd (by simp)];simp
 .rw[Cd (by simp)];simp
 .rw[Jn _ _ (by simp)];simp
 .rw[Jn _ _ (by simp)];simp
 .rw[Jn _ _ (by simp)];simp
def RT(f:Nat)(av:List V)(s:St)(m:Nat)(z:Bool)(t:Nat)(A:List Tk)(R:V->Nat->Prop):Prop:=∃ v p',Bt TT PT f (.ptr m 0 0::av) s v (s.set m (RO z t A p'))/\p'<=A.length/\R v p'
def J4{z:Bool}{t:Nat}{A:List Tk}{f p m q:Nat}{res:List AR}{thr:Bool}{body:AC}{av:List V}{s:St}{R:V->Nat->Prop}(hT:TT f=some ⟨p,res,thr,body,none⟩)(hl:(V.ptr m 0 0::av).length=p)(hs:s[m]?=some (RO z t A q))
  (h:∀ S,RdS s m z t A S->W TT PT [.c body] (Da 0 (.ptr m 0 0::av)) (S q) (Hd fun e' σ1=>∃ v p' l,Ch e' σ1 res=some v/\(Cq v=true/\v.refs=[])/\σ1=S p'++l/\p'<=A.length/\R v p')):RT f av s m z t A R:=by
 have hm:=(Aq.1 hs).1;have h:=h _ (Apj z t A hm);rw[Lv hs]at h;obtain⟨e',σ1,hE,v,p',l,hr,⟨h1,h2⟩,rfl,h3,h4⟩:=h;have qT:(s.set m (RO z t A p')++l).take s.length=s.set m (RO z t A p'):=by rw[List.take_append_of_le_length (by simp),Mi (by simp)]
 refine⟨v,p',?_,h3,h4⟩
 have:=Ev.fn hT rfl hl hE hr h1 (by rw[h2];rfl) (fun i ob hi ho=>by
  rw[Ca (by simpa using hi)]at ho;by_cases hb:m=i
  .subst hb;rw[Ci hm]at ho;cases ho;exact .inr (by rw[Abj];rfl)
  .rw[Bj hb]at ho
   exact .inl ho)
 rw[qT]at this;exact⟨_,hT,rfl,this⟩
def Cb{S:Nat->St}{A:List Tk}{R:V->Nat->Prop}{e:Env}{res:List AR}{v:V}{p:Nat}{l:St}(hr:Ch e (S p++l) res=some v)(hv:Cq v=true/\v.refs=[])(hp:p<=A.length)(hR:R v p):
  ∃ v p' l',Ch e (S p++l) res=some v/\(Cq v=true/\v.refs=[])/\S p++l=S p'++l'/\p'<=A.length/\R v p':=⟨v,p,l,hr,hv,rfl,hp,hR⟩
def Xt{S:Nat->St}{A:List Tk}{R:V->Nat->Prop}{e:Env}{res:List AR}{v:V}{p:Nat}(hr:Ch e (S p) res=some v)(hv:Cq v=true/\v.refs=[])(hp:p<=A.length)(hR:R v p):
  ∃ v p' l',Ch e (S p) res=some v/\(Cq v=true/\v.refs=[])/\S p=S p'++l'/\p'<=A.length/\R v p':=⟨v,p,[],hr,hv,(Cy _).symm,hp,hR⟩
def Nt{s:St}{m:Nat}{z:Bool}{t:Nat}{A:List Tk}{S:Nat->St}(hS:RdS s m z t A S){f p:Nat}{av:List V}{l:St}{R:V->Nat->Prop}(h:(S p++l)[m]?=some (RO z t A p)->RT f av (S p++l) m z t A R):∃ v q,Bt TT PT f (.ptr m 0 0::av) (S p++l) v (S q++l)/\q<=A.length/\R v q:=by
 obtain⟨v,q,h1,h2,h3⟩:=h (hS.get p l);have e:(S p++l).set m (RO z t A q)=S q++l:=hS.set p q l;rw[e]at h1;exact⟨v,q,h1,h2,h3⟩
def Ry{f:Nat}{av:List V}{s:St}{m:Nat}{z:Bool}{t:Nat}{A:List Tk}{w:V}{q:Nat}(h:RT f av s m z t A (fun v p'=>v=w/\p'=q)):Bt TT PT f (.ptr m 0 0::av) s w (s.set m (RO z t A q)):=by
 obtain⟨v,p',h1,-,rfl,rfl⟩:=h;exact h1
def Cc{τ:St}{i x y n t:Nat}{cs:List V}{e:Env}{v:V}(h:τ[i]?=some (.row cs t 0 0))(h1:e.get x=.ptr i 0 0)(hn:cs.length=n)(h2:e.get y=v):Ch e τ [AR.cell x n false,AR.tmp y]=some (.tup [.agg cs,v]):=by
 subst hn h2;simp only[Ch,F5,Ik,Zu,h1,H9,h];simp[Gl]
/-! tokens -/
def Aa(A:List Tk)(p:Nat):Tk:=(A[p]?).getD Tk.zero
def A63(w:List UInt8)(A:List Tk)(p:Nat):Ao w (A.drop p)=(((Aa A p).kind==3||(Aa A p).kind==4)&&(Aa A p).text==w):=by
 unfold Aa
 cases h:A[p]? with
 | none=>
  rw[Ge (by simpa using h)];simp[Ao,Tk.zero]
 | some x=>
  rw[Gr (Aq.1 h).1,(Aq.1 h).2];rfl
def Nu(A:List Tk):(A.map Tk.row).length=A.length:=Ba ..
def Af8{A:List Tk}{p:Nat}{x:Tk}(h:A[p]?=some x):(A.map Tk.row)[p]?=some [iV x.kind,.str x.text,iV x.line]:=by rw[Av,h];rfl
def Qn{s:St}{m:Nat}{z:Bool}{t:Nat}{A:List Tk}{p:Nat}(hs:s[m]?=some (RO z t A p))(hA:A.length<=1000000)(hp:p<=A.length):Bt TT PT 34 [.ptr m 0 0] s (.agg [iV (Aa A p).kind,.str (Aa A p).text,iV (Aa A p).line]) s:=by
 suffices h:RT 34 [] s m z t A (fun v p'=>v=.agg [iV (Aa A p).kind,.str (Aa A p).text,iV (Aa A p).line]/\p'=p) by
  have:=Ry h;rw[Lv hs]at this;exact this
 refine J4 T34 rfl hs fun S hS=>?_
 have Zq:=Di hS;obtain⟨-,-,qa,get,get0,set,set0,n0,n1,n2,u0,u1,u2⟩:=hS;unfold Aa;by_cases h:A.length<=p
 .have g:((A.length:Int)<=(p:Int))=True:=eq_true (by omega);have e:A[p]?=none:=by simpa using h
  simp only[go_sem,Zq,LZ];refine Ag (by kernel_rfl) ?_;simp only[go_sem,Zq,LZ,Nu,ge_iff_le,g];refine Cb (v:=.agg [iV 0,.str [],iV 0]) (Sw (n0 _ _ _) rfl rfl) ⟨rfl,rfl⟩ hp ⟨?_,rfl⟩;rw[e];rfl
 .have g:((A.length:Int)<=(p:Int))=False:=eq_false (by omega);obtain⟨x,hx⟩:∃ x,A[p]?=some x:=⟨_,A2 (by omega)⟩;have qm:=Af8 hx;simp only[go_sem,Zq,LZ];refine Ag (by kernel_rfl) ?_;simp only[go_sem,Zq,LZ,Nu,ge_iff_le,g];refine Ag (by kernel_rfl) ?_;simp only[go_sem,Zq,LZ,Nu,qm];refine Az ?_;simp only[go_sem,Zq,LZ];refine Cb (v:=.agg [iV x.kind,.str x.text,iV x.line]) (Sw (n0 _ _ _) rfl rfl) ⟨rfl,rfl⟩ hp ⟨?_,rfl⟩;rw[hx];rfl
def Ahx{s:St}{m:Nat}{z:Bool}{t:Nat}{A:List Tk}{p:Nat}(hs:s[m]?=some (RO z t A p))(hA:A.length<=1000000)(hp:p<=A.length)(w:List UInt8):Bt TT PT 37 [.ptr m 0 0,.str w] s (.bool (Ao w (A.drop p))) s:=by
 suffices h:RT 37 [.str w] s m z t A (fun v p'=>v=.bool (Ao w (A.drop p))/\p'=p) by
  have:=Ry h;rw[Lv hs]at this;exact this
 refine J4 T37 rfl hs fun S hS=>?_
 have hn:=Qn (hS.get0 p) hA hp;have Zq:=Di hS;obtain⟨-,-,qa,get,get0,set,set0,n0,n1,n2,u0,u1,u2⟩:=hS;rw[A63];generalize Aa A p=x at hn;obtain⟨k,tx,ln⟩:=x;simp only at hn ⊢;simp only[go_sem,Zq,LZ];refine Ab hn ?_;simp only[go_sem,Zq,LZ]
 cases h3:(k==3)<;>cases h4:(k==4)<;>cases hw:(tx==w)
 all_goals
  simp only[go_sem,Zq,LZ,h3,h4,hw];exact Cb rfl ⟨rfl,rfl⟩ hp ⟨rfl,rfl⟩
def D9{A:List Tk}{p:Nat}:A.drop (p+1)=(A.drop p).tail:=by rw[List.tail_drop]
def D5{w:List UInt8}{A:List Tk}{p:Nat}(h:Ao w (A.drop p)=true):p<A.length:=by
 rcases Bu p A.length with h' | h'
 .exact h'
 .rw[Ge h']at h;cases h
def Q0{s:St}{m:Nat}{z:Bool}{t:Nat}{A:List Tk}{p:Nat}(hs:s[m]?=some (RO z t A p))(hA:A.length<=1000000){w:List UInt8}(h:Ao w (A.drop p)=true):Bt TT PT 60 [.ptr m 0 0,.str w] s (.bool true) (s.set m (RO z t A (p+1))):=by
 have qd:=D5 h;refine Ry (A:=A) (z:=z) (t:=t) (J4 T60 rfl hs fun S hS=>?_);have ha:=Ahx (hS.get0 p) hA (by omega) w;rw[h]at ha;have qj:=Bk (show p<9223372036854775807 by omega);have Zq:=Di hS;obtain⟨-,-,qa,get,get0,set,set0,n0,n1,n2,u0,u1,u2⟩:=hS;simp only[go_sem,Zq,LZ];refine Ab ha ?_;simp only[go_sem,Zq,LZ,qj];exact Xt rfl ⟨rfl,rfl⟩ (by omega) ⟨rfl,rfl⟩
def Q1{s:St}{m:Nat}{z:Bool}{t:Nat}{A:List Tk}{p:Nat}(hs:s[m]?=some (RO z t A p))(hA:A.length<=1000000)(hp:p<=A.length){w:List UInt8}(h:Ao w (A.drop p)=false):Bt TT PT 60 [.ptr m 0 0,.str w] s (.bool false) s:=by
 suffices h:Bt TT PT 60 [.ptr m 0 0,.str w] s (.bool false) (s.set m (RO z t A p)) by
  rw[Lv hs]at h;exact h
 refine Ry (A:=A) (z:=z) (t:=t) (J4 T60 rfl hs fun S hS=>?_);have ha:=Ahx (hS.get0 p) hA hp w;rw[h]at ha;have Zq:=Di hS;obtain⟨-,-,qa,get,get0,set,set0,n0,n1,n2,u0,u1,u2⟩:=hS;simp only[go_sem,Zq,LZ];refine Ab ha ?_;simp only[go_sem,Zq,LZ];exact Xt rfl ⟨rfl,rfl⟩ hp ⟨rfl,rfl⟩
/-! the same, in the states of a reader's function -/
def Jv{s:St}{m:Nat}{z:Bool}{t:Nat}{A:List Tk}{S:Nat->St}(hS:RdS s m z t A S){p:Nat}(l:St)(hA:A.length<=1000000){w:List UInt8}(h:Ao w (A.drop p)=true):Bt TT PT 60 [.ptr m 0 0,.str w] (S p++l) (.bool true) (S (p+1)++l):=by
 have:=Q0 (hS.get p l) hA h;rw[show(S p++l).set m (RO z t A (p+1))=S (p+1)++l from hS.set p (p+1) l]at this;exact this
def Iv{s:St}{m:Nat}{z:Bool}{t:Nat}{A:List Tk}{S:Nat->St}(hS:RdS s m z t A S){p:Nat}(l:St)(hA:A.length<=1000000)(hp:p<=A.length){w:List UInt8}(h:Ao w (A.drop p)=false):Bt TT PT 60 [.ptr m 0 0,.str w] (S p++l) (.bool false) (S p++l):=Q1 (hS.get p l) hA hp h
def K9{A:List Tk}{p:Nat}(h:p<A.length):A.drop p=Aa A p::A.drop (p+1):=by
 unfold Aa;rw[Gr h,A2 h];rfl
def Jg{A:List Tk}{p:Nat}(h:A.length<=p):A.drop p=[]/\Aa A p=Tk.zero:=by
 unfold Aa;rw[Ge h,Ri h];exact⟨rfl,rfl⟩
def Abk{A:List Tk}{p:Nat}(h:(Aa A p).kind≠0):p<A.length:=by
 rcases Bu p A.length with h' | h'
 .exact h'
 .rw[(Jg h').2]at h;exact absurd rfl h
def Vl{s:St}{m:Nat}{z:Bool}{t:Nat}{A:List Tk}{p:Nat}(hs:s[m]?=some (RO z t A p))(hA:A.length<=1000000)(hp:p<=A.length):
  (∀ w r,C4 (A.drop p)=some (w,r)->Bt TT PT 57 [.ptr m 0 0] s (.tup [.str w,.bool true]) (s.set m (RO z t A (p+1)))/\p<A.length/\A.drop (p+1)=r)/\(C4 (A.drop p)=none->Bt TT PT 57 [.ptr m 0 0] s (.tup [.str [],.bool false]) s):=by
 have hk:∀ b:Bool,((Aa A p).kind==1)=b->Bt TT PT 57 [.ptr m 0 0] s (.tup [.str (if b then(Aa A p).text else []),.bool b]) (s.set m (RO z t A (if b then p+1 else p))):=fun b hb=>by
  have qd:b=true->p<A.length:=fun h=>Abk (by subst h;simp at hb;omega)
  refine Ry (A:=A) (z:=z) (t:=t) (J4 T57 rfl hs fun S hS=>?_);have hn:=Qn (hS.get0 p) hA hp;have qg:((Aa A p).kind != 1)=!b:=by rw[bne,hb]
  have Zq:=Di hS;obtain⟨-,-,qa,get,get0,set,set0,n0,n1,n2,u0,u1,u2⟩:=hS;cases b
  .simp only[go_sem,Zq,LZ];refine Ab hn ?_;simp only[go_sem,Zq,LZ,qg,Ax,Ar];exact Cb rfl ⟨rfl,rfl⟩ hp ⟨rfl,rfl⟩
  .have qj:=Bk (show p<9223372036854775807 by omega);simp only[go_sem,Zq,LZ];refine Ab hn ?_;simp only[go_sem,Zq,LZ,qg,qj,Ax,Ar];exact Cb rfl ⟨rfl,rfl⟩ (qd rfl) ⟨rfl,rfl⟩
 refine⟨fun w r h=>?_,fun h=>?_⟩
 .have qd:p<A.length:=by
   rcases Bu p A.length with h' | h'
   .exact h'
   .rw[(Jg h').1]at h;cases h
  rw[K9 qd]at h;simp only[C4]at h
  split at h
  .rename_i h1;cases h;have:=hk true (by simp[h1]);exact⟨this,qd,rfl⟩
  .cases h
 .have hb:((Aa A p).kind==1)=false:=by
   rcases Bu p A.length with h' | h'
   .rw[K9 h']at h;simp only[C4]at h
    split at h
    .cases h
    .rename_i h1;simpa using h1
   .rw[(Jg h').2];rfl
  have:=hk false hb;simp only[Ez,if_false]at this;rw[Lv hs]at this;exact this
def Ab6{s:St}{m:Nat}{z:Bool}{t:Nat}{A:List Tk}{p:Nat}(hs:s[m]?=some (RO z t A p))(hA:A.length<=1000000)(hp:p<=A.length)(hN:∀ t∈A,t.kind=2->Lib.parseIntB 64 t.text=.ok (Id t.text)/\t.text.length<=4096):
  (∀ w r,Gb (A.drop p)=some (w,r)->Bt TT PT 84 [.ptr m 0 0] s (.tup [iV w,.bool true]) (s.set m (RO z t A (p+1)))/\p<A.length/\A.drop (p+1)=r)/\(Gb (A.drop p)=none->Bt TT PT 84 [.ptr m 0 0] s (.tup [iV 0,.bool false]) s):=by
 have hk:∀ b:Bool,((Aa A p).kind==2)=b->Bt TT PT 84 [.ptr m 0 0] s (.tup [iV (if b then Id (Aa A p).text else 0),.bool b]) (s.set m (RO z t A (if b then p+1 else p))):=fun b hb=>by
  have qd:b=true->p<A.length:=fun h=>Abk (by subst h;simp at hb;omega)
  refine Ry (A:=A) (z:=z) (t:=t) (J4 T84 rfl hs fun S hS=>?_);have hn:=Qn (hS.get0 p) hA hp;have qg:((Aa A p).kind != 2)=!b:=by rw[bne,hb]
  have Zq:=Di hS;obtain⟨-,-,qa,get,get0,set,set0,n0,n1,n2,u0,u1,u2⟩:=hS;cases b
  .simp only[go_sem,Zq,LZ];refine Ab hn ?_;simp only[go_sem,Zq,LZ,qg,Ax,Ar];exact Cb rfl ⟨rfl,rfl⟩ hp ⟨rfl,rfl⟩
  .have qj:=Bk (show p<9223372036854775807 by omega)
   have qu:Aa A p∈A:=by
    have h:=qd rfl;unfold Aa;rw[A2 h];exact Fj h
   obtain⟨hv,hl⟩:=hN _ qu (by simpa using hb)
   have q:V3 [.str (Aa A p).text,iV 10,iV 64]=some (.tup [iV (Id (Aa A p).text),.nili]):=by
    simp only[V3];rw[if_pos (by omega),hv]
   simp only[go_sem,Zq,LZ];refine Ab hn ?_;simp only[go_sem,Zq,LZ,qg,Ax,Ar];refine F0 P109 (by simp only[go_sem]) q ?_;simp only[go_sem,Zq,LZ,qj];exact Cb rfl ⟨rfl,rfl⟩ (qd rfl) ⟨rfl,rfl⟩
 refine⟨fun w r h=>?_,fun h=>?_⟩
 .have qd:p<A.length:=by
   rcases Bu p A.length with h' | h'
   .exact h'
   .rw[(Jg h').1]at h;cases h
  rw[K9 qd]at h;simp only[Gb]at h
  split at h
  .rename_i h1;cases h;have:=hk true (by simp[h1]);exact⟨this,qd,rfl⟩
  .cases h
 .have hb:((Aa A p).kind==2)=false:=by
   rcases Bu p A.length with h' | h'
   .rw[K9 h']at h;simp only[Gb]at h
    split at h
    .cases h
    .rename_i h1;simpa using h1
   .rw[(Jg h').2];rfl
  have:=hk false hb;simp only[Ez,if_false]at this;rw[Lv hs]at this;exact this
/-! operators -/
def Ayk:(opTab.all fun p=>match (Jy (M8 TT PT 300) af176 [.str p.1] []).bind fun q=>Es q.2 q.1 with
  | some (.tup [.int .i64 a,.int .i64 b])=>a==(Fx p.1).1&&b==(Fx p.1).2
  | _=>false)=true:=by kernel_rfl
def A64(w:List UInt8):Fn TT PT 176 [.str w] (.tup [iV (Fx w).1,iV (Fx w).2]):=by
 by_cases hm:∃ p∈opTab,p.1=w
 .obtain⟨p,hp,rfl⟩:=hm;have hr:=Bh.1 Ayk p hp
  split at hr
  .rename_i a b hv;simp only[Af,beq_iff_eq]at hr;rw[<-hr.1,<-hr.2];exact P7 Rc T176 rfl rfl hv
  .cases hr
 .have qg:∀ p∈opTab,(w==p.1)=false:=fun p hp=>by
   rw[beq_eq_false_iff_ne];exact fun h=>hm ⟨p,hp,h.symm⟩
  have h0:Fx w=(0,0):=by
   unfold Fx
   have:opTab.lookup w=none:=by
    rw[List.lookup_eq_none_iff];exact fun p hp=>by rw[bne,qg p hp];rfl
   rw[this];rfl
  rw[h0];simp only[opTab,Bi,Lk,or_false,forall_eq_or_imp,forall_eq]at qg;obtain⟨a1,a2,a3,a4,a5,a6,a7,a8,a9,qJ,qK,qL,qM⟩:=qg;refine Bz T176 rfl ?_;simp only[go_sem,a1,a2,a3,a4,a5,a6,a7,a8,a9,qJ,qK,qL,qM];exact Js rfl
def A2y{s:St}{m:Nat}{z:Bool}{t:Nat}{A:List Tk}{p:Nat}(hs:s[m]?=some (RO z t A p))(hA:A.length<=1000000)(hp:p<=A.length)(lvl:Nat):Bt TT PT 174 [.ptr m 0 0,iV (lvl:Int)] s (iV (Gn lvl (A.drop p))) s:=by
 suffices h:Bt TT PT 174 [.ptr m 0 0,iV (lvl:Int)] s (iV (Gn lvl (A.drop p))) (s.set m (RO z t A p)) by
  rw[Lv hs]at h;exact h
 have ho:Gn lvl (A.drop p)=if(Aa A p).kind=4 then(if(Fx (Aa A p).text).2=(lvl:Int) then(Fx (Aa A p).text).1 else 0) else 0:=by
  rcases Bu p A.length with h' | h'
  .rw[K9 h'];rfl
  .rw[(Jg h').1,(Jg h').2];rfl
 rw[ho];refine Ry (A:=A) (z:=z) (t:=t) (J4 T174 rfl hs fun S hS=>?_);have hn:=Qn (hS.get0 p) hA hp;have hb:=A64 (Aa A p).text;generalize Fx (Aa A p).text=o at hb ⊢;obtain⟨o1,o2⟩:=o;simp only at hb ⊢;have Zq:=Di hS;obtain⟨-,-,qa,get,get0,set,set0,n0,n1,n2,u0,u1,u2⟩:=hS;by_cases h4:(Aa A p).kind=4
 .have g4:((Aa A p).kind != 4)=false:=by simp[h4]
  rw[if_pos h4];by_cases hl:o2=(lvl:Int)
  .have gl:(o2 != (lvl:Int))=false:=by simp[hl]
   rw[if_pos hl];simp only[go_sem,Zq,LZ];refine Ab hn ?_;simp only[go_sem,Zq,LZ,g4];refine Ad hb (by simp only[go_sem]) ?_;simp only[go_sem,Zq,LZ,gl];exact Cb rfl ⟨rfl,rfl⟩ hp ⟨rfl,rfl⟩
  .have gl:(o2 != (lvl:Int))=true:=by simp[hl]
   rw[if_neg hl];simp only[go_sem,Zq,LZ];refine Ab hn ?_;simp only[go_sem,Zq,LZ,g4];refine Ad hb (by simp only[go_sem]) ?_;simp only[go_sem,Zq,LZ,gl];exact Cb rfl ⟨rfl,rfl⟩ hp ⟨rfl,rfl⟩
 .have g4:((Aa A p).kind != 4)=true:=by simp[h4]
  rw[if_neg h4];simp only[go_sem,Zq,LZ];refine Ab hn ?_;simp only[go_sem,Zq,LZ,g4];exact Cb rfl ⟨rfl,rfl⟩ hp ⟨rfl,rfl⟩
def Aa1{s:List UInt8}{ts:List Tk}(h:Ao s ts=true):ts.tail.length+1=ts.length:=by
 cases ts with
 | nil=>cases h
 | cons t r=>rfl
def A2z{lvl:Nat}{ts:List Tk}(h:Gn lvl ts≠0):ts.tail.length+1=ts.length:=by
 cases ts with
 | nil=>exact absurd rfl h
 | cons t r=>rfl
def Vm:∀ n,(∀ lvl ts x r,pe n lvl ts=some (x,r)->r.length<ts.length)/\(∀ lvl x0 ts x r,lp n lvl x0 ts=some (x,r)->r.length<=ts.length) /\
  (∀ ts x r,pu n ts=some (x,r)->r.length<ts.length)/\(∀ ts x r,pp n ts=some (x,r)->r.length<ts.length)
 | 0=>⟨fun _ _ _ _ h=>by simp[pe]at h,fun _ _ _ _ _ h=>by simp[lp]at h,fun _ _ _ h=>by simp[pu]at h,fun _ _ _ h=>by simp[pp]at h⟩
 | n+1=>by
  obtain⟨qo,qH,qI,qW⟩:=Vm n;refine⟨fun lvl ts x r h=>?_,fun lvl x0 ts x r h=>?_,fun ts x r h=>?_,fun ts x r h=>?_⟩
  .rw[pe]at h
   split at h
   .exact qI ts x r h
   .split at h
    .cases h
    .rename_i y q hy;have a:=qo _ _ _ _ hy;have b:=qH _ _ _ _ _ h;omega
  .rw[lp]at h
   split at h
   .cases h;exact Ai _
   .rename_i ho;have t:=A2z ho
    split at h
    .cases h
    .rename_i y q hy;have a:=qo _ _ _ _ hy
     split at h
     .cases h;omega
     .have b:=qH _ _ _ _ _ h;omega
  .have un:∀ (op:Int) s,Ao s ts=true->(match pu n ts.tail with
     | none=>none
     | some (x,r)=>some (Mc op x,r))=some (x,r)->r.length<ts.length:=fun op s hs h=>by
    have t:=Aa1 hs
    split at h
    .cases h
    .rename_i y q hy;cases h;have a:=qI _ _ _ hy;omega
   rw[pu]at h
   split at h
   .rename_i hs;exact un 4 _ hs h
   .split at h
    .rename_i hs;exact un 5 _ hs h
    .exact qW ts x r h
  .cases ts with
   | nil=>simp[pp]at h
   | cons t ts=>
    rw[Ah];rw[pp]at h
    split at h
    .cases h;omega
    .split at h
     .split at h
      .rename_i hs;have t:=Aa1 hs
       split at h
       .cases h
       .rename_i y q hy;have a:=qo _ _ _ _ hy
        split at h
        .rename_i qw;have u:=Aa1 qw;cases h;omega
        .cases h
      .cases h;omega
     .split at h
      .split at h
       .cases h
       .rename_i y q hy;have a:=qo _ _ _ _ hy
        split at h
        .rename_i qw;have u:=Aa1 qw;cases h;omega
        .cases h
      .cases h
structure OkA (A:List Tk):Prop where
 len:A.length<=4096
 num:∀ t∈A,t.kind=2->Lib.parseIntB 64 t.text=.ok (Id t.text)/\t.text.length<=4096
def PR(A:List Tk)(o:Option (Xp × List Tk))(v:V)(p':Nat):Prop:=match o with
 | some (x,r)=>v=.tup [.agg x.row,.bool true]/\A.drop p'=r
 | none=>v=.tup [.agg [.int .i64 0,.int .i64 0,.str [],.nils],.bool false]
def PE(n:Nat):Prop:=∀ (lvl:Nat) (s:St) (m:Nat) (z:Bool) (t:Nat) (A:List Tk) (p:Nat),OkA A->s[m]?=some (RO z t A p)->p<=A.length->1<=lvl->lvl<=6->8*(A.length - p)+7<=n+lvl ->
 RT 163 [iV (lvl:Int)] s m z t A (PR A (pe n lvl (A.drop p)))
def PU(n:Nat):Prop:=∀ (s:St) (m:Nat) (z:Bool) (t:Nat) (A:List Tk) (p:Nat),OkA A->s[m]?=some (RO z t A p)->p<=A.length->8*(A.length - p)<=n->RT 173 [] s m z t A (PR A (pu n (A.drop p)))
def PP(n:Nat):Prop:=∀ (s:St) (m:Nat) (z:Bool) (t:Nat) (A:List Tk) (p:Nat),OkA A->s[m]?=some (RO z t A p)->p<=A.length->8*(A.length - p)<=n+1->RT 175 [] s m z t A (PR A (pp n (A.drop p)))
def Cv{cs:List V}{b:Bool}(h:Ds (.agg cs)=true):Cq (.tup [.agg cs,.bool b])=true/\(V.tup [.agg cs,.bool b]).refs=[]:=by
 have h1:=Xm h;have h2:=Ua h;have qO:cs.all V.cellB=true:=h1;have qP:Am cs=[]:=h2;refine⟨?_,?_⟩
 .show((cs.all V.cellB)&&_)=true;rw[qO];rfl
 .show Am cs++_=[];rw[qP];rfl
def Rx{n:Nat}(h:PE n){s:St}{m:Nat}{z:Bool}{t:Nat}{A:List Tk}{p:Nat}(hA:OkA A)(hs:s[m]?=some (RO z t A p))(hp:p<=A.length)(hb:8*(A.length - p)+6<=n):RT 139 [] s m z t A (PR A (pe n 1 (A.drop p))):=by
 refine J4 T139 rfl hs fun S hS=>?_
 obtain⟨v,q,h1,h2,h3⟩:=Nt hS (l:=[.row [iV 0,iV 0,.str [],.nils] 76 0 0]) fun hs=>h 1 _ m z t A p hA hs hp (by omega) (by omega) (by omega)
 have hm:=hS.low;have Zq:=Di hS;obtain⟨-,-,qa,get,get0,set,set0,n0,n1,n2,u0,u1,u2⟩:=hS;rw[Int.natCast_one]at h1;simp only[go_sem,Zq,LZ];unfold PR at h3 ⊢
 split at h3
 .rename_i x r ho;obtain⟨rfl,h3⟩:=h3;have hx:=Dm x;have hr:=Bb x;rw[hr]at h1 hx ⊢;refine Ab h1 ?_;simp only[go_sem,Zq,LZ];exact Cb (v:=.tup [.agg _,.bool true]) (Cc (n0 _ _ _) rfl rfl rfl) (Cv hx) h2 ⟨rfl,h3⟩
 .subst h3;refine Ab h1 ?_;simp only[go_sem,Zq,LZ];exact Cb (v:=.tup [.agg _,.bool false]) (Cc (n0 _ _ _) rfl rfl rfl) (Cv rfl) h2 rfl
def Ac9{s:St}{m:Nat}{z:Bool}{t:Nat}{A:List Tk}{S:Nat->St}(hS:RdS s m z t A S){p:Nat}(l:St)(hl:A.length<=1000000)(hp:p<=A.length){w:List UInt8}{r:List Tk}(h:C4 (A.drop p)=some (w,r)):Bt TT PT 57 [.ptr m 0 0] (S p++l) (.tup [.str w,.bool true]) (S (p+1)++l)/\p<A.length/\A.drop (p+1)=r:=by
 obtain⟨h1,h2⟩:=(Vl (hS.get p l) hl hp).1 w r h;rw[show(S p++l).set m (RO z t A (p+1))=S (p+1)++l from hS.set p (p+1) l]at h1;exact⟨h1,h2⟩
def Yw{s:St}{m:Nat}{z:Bool}{t:Nat}{A:List Tk}{S:Nat->St}(hS:RdS s m z t A S){p:Nat}(l:St)(hl:A.length<=1000000)(hp:p<=A.length)(h:C4 (A.drop p)=none):Bt TT PT 57 [.ptr m 0 0] (S p++l) (.tup [.str [],.bool false]) (S p++l):=(Vl (hS.get p l) hl hp).2 h
def Bas{s:St}{m:Nat}{z:Bool}{t:Nat}{A:List Tk}{S:Nat->St}(hS:RdS s m z t A S){p:Nat}(l:St)(hA:OkA A)(hp:p<=A.length){w:Int}{r:List Tk}(h:Gb (A.drop p)=some (w,r)):Bt TT PT 84 [.ptr m 0 0] (S p++l) (.tup [iV w,.bool true]) (S (p+1)++l)/\p<A.length/\A.drop (p+1)=r:=by
 obtain⟨h1,h2⟩:=(Ab6 (hS.get p l) (by have:=hA.len;omega) hp hA.num).1 w r h;rw[show(S p++l).set m (RO z t A (p+1))=S (p+1)++l from hS.set p (p+1) l]at h1;exact⟨h1,h2⟩
def Ar1{s:St}{m:Nat}{z:Bool}{t:Nat}{A:List Tk}{S:Nat->St}(hS:RdS s m z t A S){p:Nat}(l:St)(hA:OkA A)(hp:p<=A.length)(h:Gb (A.drop p)=none):Bt TT PT 84 [.ptr m 0 0] (S p++l) (.tup [iV 0,.bool false]) (S p++l):=(Ab6 (hS.get p l) (by have:=hA.len;omega) hp hA.num).2 h
def A20{n:Nat}(hE:∀ k,k<n->PE k):PP n:=by
 intro s m z t A p hA hs hp hb;refine J4 T175 rfl hs fun S hS=>?_
 have hl:A.length<=1000000:=by have:=hA.len;omega
 have qb:=hS;have hm:=hS.low;have Zq:=Di hS;obtain⟨-,-,qa,get,get0,set,set0,n0,n1,n2,u0,u1,u2⟩:=hS;rcases Bu p A.length with qd | qR
 .obtain⟨k,rfl⟩:∃ k,n=k+1:=⟨n - 1,by omega⟩;have hd:=K9 qd;by_cases h2:(Aa A p).kind=2
  .have hq:Gb (A.drop p)=some (Id (Aa A p).text,A.drop (p+1)):=by rw[hd];simp only[Gb];rw[if_pos h2]
   obtain⟨c1,-,-⟩:=Bas qb [.row [iV 0,iV 0,.str [],.nils] 76 0 0] hA hp hq;have ho:pp (k+1) (A.drop p)=some (⟨1,Id (Aa A p).text,[],true,0,[]⟩,A.drop (p+1)):=by rw[hd,pp,if_pos h2]
   rw[ho];simp only[go_sem,Zq,LZ];refine Ab c1 ?_;simp only[go_sem,Zq,LZ];exact Cb (v:=.tup [.agg _,.bool true]) (Cc (n0 _ _ _) rfl rfl rfl) (Cv rfl) qd ⟨rfl,rfl⟩
  .have hq:Gb (A.drop p)=none:=by rw[hd];simp only[Gb];rw[if_neg h2]
   have c1:=Ar1 qb [.row [iV 0,iV 0,.str [],.nils] 76 0 0] hA hp hq;by_cases h1:(Aa A p).kind=1
   .have hn:C4 (A.drop p)=some ((Aa A p).text,A.drop (p+1)):=by rw[hd];simp only[C4];rw[if_pos h1]
    obtain⟨c2,-,-⟩:=Ac9 qb [.row [iV 0,iV 0,.str [],.nils] 76 0 0] hl hp hn;by_cases qi:Ao [91] (A.drop (p+1))=true
    .have c3:=Jv qb [.row [iV 0,iV 0,.str [],.nils] 76 0 0] hl qi;have ql:=D5 qi;obtain⟨v,q,c4,qc,h3⟩:=Nt qb (l:=[.row [iV 0,iV 0,.str [],.nils] 76 0 0]) fun hs=>Rx (hE k (by omega)) (p:=p+1+1) hA hs (by omega) (by omega)
     have ho:pp (k+1) (A.drop p)=match pe k 1 (A.drop (p+1+1)) with
       | none=>none
       | some (x,r)=>if Ao [93] r then some (⟨3,0,(Aa A p).text,true,1,[x]⟩,r.tail) else none:=by
      rw[hd,pp,if_neg h2,if_pos h1,if_pos qi,<-D9];rfl
     rw[ho];simp only[go_sem,Zq,LZ];refine Ab c1 ?_;simp only[go_sem,Zq,LZ];refine Ab c2 ?_;simp only[go_sem,Zq,LZ];refine Ab c3 ?_;simp only[go_sem,Zq,LZ];unfold PR at h3
     split at h3
     .rename_i x r hx;obtain⟨rfl,h3⟩:=h3;have qe:=Dm x;have hr:=Bb x;rw[hr]at c4 qe;rw[hx];simp only;refine Ab c4 ?_;by_cases qf:Ao [93] r=true
      .rw[<-h3]at qf;have c5:=Jv qb [.row [iV 0,iV 0,.str [],.nils] 76 0 0,.row [iV x.op,iV x.n,.str x.nm,SL x.z x.t (x.l.map Xp.row)] 76 0 0] hl qf;rw[<-h3,if_pos qf];simp only[go_sem,Zq,LZ];refine Ab c5 ?_;simp only[go_sem,Zq,LZ];exact Cb (v:=.tup [.agg _,.bool true]) (Cc (n0 _ _ _) rfl rfl rfl) (Cv (by simp only[go_sem])) (D5 qf) ⟨by rw[Bb ⟨3,0,_,_,_,_⟩];simp only[Aw,B6,hr];rfl,D9⟩
      .have qf:Ao [93] (A.drop q)=false:=by rw[h3];simpa using qf
       have c5:=Iv qb [.row [iV 0,iV 0,.str [],.nils] 76 0 0,.row [iV x.op,iV x.n,.str x.nm,SL x.z x.t (x.l.map Xp.row)] 76 0 0] hl qc qf;rw[<-h3,if_neg (by rw[qf];decide)];simp only[go_sem,Zq,LZ];refine Ab c5 ?_;simp only[go_sem,Zq,LZ];exact Cb (v:=.tup [.agg _,.bool false]) (Cc (n0 _ _ _) rfl rfl rfl) (Cv rfl) qc rfl
     .rename_i hx;subst h3;rw[hx];simp only;refine Ab c4 ?_;simp only[go_sem,Zq,LZ];exact Cb (v:=.tup [.agg _,.bool false]) (Cc (n0 _ _ _) rfl rfl rfl) (Cv rfl) qc rfl
    .have qi:Ao [91] (A.drop (p+1))=false:=by simpa using qi
     have c3:=Iv qb [.row [iV 0,iV 0,.str [],.nils] 76 0 0] hl (Hf qd) qi;have ho:pp (k+1) (A.drop p)=some (⟨2,0,(Aa A p).text,true,0,[]⟩,A.drop (p+1)):=by rw[hd,pp,if_neg h2,if_pos h1,if_neg (by rw[qi];decide)]
     rw[ho];simp only[go_sem,Zq,LZ];refine Ab c1 ?_;simp only[go_sem,Zq,LZ];refine Ab c2 ?_;simp only[go_sem,Zq,LZ];refine Ab c3 ?_;simp only[go_sem,Zq,LZ];exact Cb (v:=.tup [.agg _,.bool true]) (Cc (n0 _ _ _) rfl rfl rfl) (Cv rfl) qd ⟨rfl,rfl⟩
   .have hn:C4 (A.drop p)=none:=by rw[hd];simp only[C4];rw[if_neg h1]
    have c2:=Yw qb [.row [iV 0,iV 0,.str [],.nils] 76 0 0] hl hp hn;by_cases qh:Ao [40] (A.drop p)=true
    .have c3:=Jv qb [.row [iV 0,iV 0,.str [],.nils] 76 0 0] hl qh;obtain⟨v,q,c4,qc,h3⟩:=Nt qb (l:=[.row [iV 0,iV 0,.str [],.nils] 76 0 0]) fun hs=>Rx (hE k (by omega)) (p:=p+1) hA hs (by omega) (by omega)
     have ho:pp (k+1) (A.drop p)=match pe k 1 (A.drop (p+1)) with
       | none=>none
       | some (x,r)=>if Ao [41] r then some (x,r.tail) else none:=by
      rw[hd]at qh ⊢;rw[pp,if_neg h2,if_neg h1,if_pos qh];rfl
     rw[ho];simp only[go_sem,Zq,LZ];refine Ab c1 ?_;simp only[go_sem,Zq,LZ];refine Ab c2 ?_;simp only[go_sem,Zq,LZ];refine Ab c3 ?_;simp only[go_sem,Zq,LZ];unfold PR at h3
     split at h3
     .rename_i x r hx;obtain⟨rfl,h3⟩:=h3;have qe:=Dm x;have hr:=Bb x;rw[hr]at c4 qe;rw[hx];simp only;refine Ab c4 ?_;by_cases qf:Ao [41] r=true
      .rw[<-h3]at qf;have c5:=Jv qb [.row [iV 0,iV 0,.str [],.nils] 76 0 0,.row [iV x.op,iV x.n,.str x.nm,SL x.z x.t (x.l.map Xp.row)] 76 0 0] hl qf;rw[<-h3,if_pos qf];simp only[go_sem,Zq,LZ];refine Ab c5 ?_;simp only[go_sem,Zq,LZ];exact Cb (v:=.tup [.agg _,.bool true]) (Cc (n0 _ _ _) rfl rfl rfl) (Cv qe) (D5 qf) ⟨by rw[hr],D9⟩
      .have qf:Ao [41] (A.drop q)=false:=by rw[h3];simpa using qf
       have c5:=Iv qb [.row [iV 0,iV 0,.str [],.nils] 76 0 0,.row [iV x.op,iV x.n,.str x.nm,SL x.z x.t (x.l.map Xp.row)] 76 0 0] hl qc qf;rw[<-h3,if_neg (by rw[qf];decide)];simp only[go_sem,Zq,LZ];refine Ab c5 ?_;simp only[go_sem,Zq,LZ];exact Cb (v:=.tup [.agg _,.bool false]) (Cc (n0 _ _ _) rfl rfl rfl) (Cv rfl) qc rfl
     .rename_i hx;subst h3;rw[hx];simp only;refine Ab c4 ?_;simp only[go_sem,Zq,LZ];exact Cb (v:=.tup [.agg _,.bool false]) (Cc (n0 _ _ _) rfl rfl rfl) (Cv rfl) qc rfl
    .have qh:Ao [40] (A.drop p)=false:=by simpa using qh
     have c3:=Iv qb [.row [iV 0,iV 0,.str [],.nils] 76 0 0] hl hp qh
     have ho:pp (k+1) (A.drop p)=none:=by
      rw[hd]at qh ⊢;rw[pp,if_neg h2,if_neg h1,if_neg (by rw[qh];decide)]
     rw[ho];simp only[go_sem,Zq,LZ];refine Ab c1 ?_;simp only[go_sem,Zq,LZ];refine Ab c2 ?_;simp only[go_sem,Zq,LZ];refine Ab c3 ?_;simp only[go_sem,Zq,LZ];exact Cb (v:=.tup [.agg _,.bool false]) (Cc (n0 _ _ _) rfl rfl rfl) (Cv rfl) hp rfl
 .have hd:=(Jg qR).1
  have ho:pp n (A.drop p)=none:=by
   rw[hd]
   cases n<;>simp[pp]
  rw[ho];have c1:=Ar1 qb [.row [iV 0,iV 0,.str [],.nils] 76 0 0] hA hp (by rw[hd];rfl);have c2:=Yw qb [.row [iV 0,iV 0,.str [],.nils] 76 0 0] hl hp (by rw[hd];rfl);have c3:=Iv qb [.row [iV 0,iV 0,.str [],.nils] 76 0 0] hl hp (w:=[40]) (by rw[hd];rfl);simp only[go_sem,Zq,LZ];refine Ab c1 ?_;simp only[go_sem,Zq,LZ];refine Ab c2 ?_;simp only[go_sem,Zq,LZ];refine Ab c3 ?_;simp only[go_sem,Zq,LZ];exact Cb (v:=.tup [.agg _,.bool false]) (Cc (n0 _ _ _) rfl rfl rfl) (Cv rfl) hp rfl
def A21{n:Nat}(hU:∀ k,k<n->PU k)(hP:∀ k,k<=n->PP k):PU n:=by
 intro s m z t A p hA hs hp hb;refine J4 T173 rfl hs fun S hS=>?_
 have hl:A.length<=1000000:=by have:=hA.len;omega
 have qb:=hS;have hm:=hS.low;have Zq:=Di hS;obtain⟨-,-,qa,get,get0,set,set0,n0,n1,n2,u0,u1,u2⟩:=hS
 have prim:∀ k,8*(A.length - p)<=k+1->k<=n->Ao [45] (A.drop p)=false->Ao [33] (A.drop p)=false->pu n (A.drop p)=pp k (A.drop p)->W TT PT [.c af173.body] (Da 0 [.ptr m 0 0]) (S p) (Hd fun e' σ1=>∃ v p' l,Ch e' σ1 [.cell 2 4 false,.tmp 3]=some v/\(Cq v=true/\v.refs=[])/\σ1=S p'++l/\p'<=A.length/\PR A (pu n (A.drop p)) v p'):=by
  intro k hk qs h4 h5 ho;have qp:=Iv qb [.row [iV 0,iV 0,.str [],.nils] 76 0 0] hl hp h4;have qN:=Iv qb [.row [iV 0,iV 0,.str [],.nils] 76 0 0] hl hp h5;obtain⟨v,q,c4,qc,h3⟩:=Nt qb (l:=[.row [iV 0,iV 0,.str [],.nils] 76 0 0]) fun hs=>hP k qs _ m z t A p hA hs hp hk
  rw[ho];unfold af173;simp only[go_sem,Zq,LZ];refine Ab qp ?_;simp only[go_sem,Zq,LZ];refine Ab qN ?_;simp only[go_sem,Zq,LZ];unfold PR at h3 ⊢
  split at h3
  .rename_i x r hx;obtain⟨rfl,h3⟩:=h3;have qe:=Dm x;have hr:=Bb x;rw[hr]at c4 qe;rw[hr];refine Ab c4 ?_;simp only[go_sem,Zq,LZ];exact Cb (v:=.tup [.agg _,.bool true]) (Cc (n0 _ _ _) rfl rfl rfl) (Cv qe) qc ⟨rfl,h3⟩
  .rename_i hx;subst h3;refine Ab c4 ?_;simp only[go_sem,Zq,LZ];exact Cb (v:=.tup [.agg _,.bool false]) (Cc (n0 _ _ _) rfl rfl rfl) (Cv rfl) qc rfl
 rcases n with _ | k
 .have hd:=(Jg (A:=A) (p:=p) (by omega)).1;refine prim 0 (by omega) (Ai _) (by rw[hd];rfl) (by rw[hd];rfl) ?_;rw[hd];simp[pu,pp]
 .by_cases h4:Ao [45] (A.drop p)=true
  .have qd:=D5 h4;have cA:=Jv qb [.row [iV 0,iV 0,.str [],.nils] 76 0 0] hl h4;obtain⟨v,q,c4,qc,h3⟩:=Nt qb (l:=[.row [iV 0,iV 0,.str [],.nils] 76 0 0]) fun hs=>hU k (by omega) _ m z t A (p+1) hA hs (by omega) (by omega)
   have ho:pu (k+1) (A.drop p)=match pu k (A.drop (p+1)) with
     | none=>none
     | some (x,r)=>some (Mc 4 x,r):=by
    rw[pu,if_pos h4,<-D9];rfl
   rw[ho];simp only[go_sem,Zq,LZ];refine Ab cA ?_;simp only[go_sem,Zq,LZ];unfold PR at h3
   split at h3
   .rename_i x r hx;obtain⟨rfl,h3⟩:=h3;have qe:=Dm x;have hr:=Bb x;rw[hr]at c4 qe;rw[hx];simp only;refine Ab c4 ?_;simp only[go_sem,Zq,LZ];exact Cb (v:=.tup [.agg _,.bool true]) (Cc (n0 _ _ _) rfl rfl rfl) (Cv (by simp only[go_sem])) qc ⟨by unfold Mc;rw[Bb ⟨4,0,_,_,_,_⟩];simp only[Aw,B6,hr];rfl,h3⟩
   .rename_i hx;subst h3;rw[hx];simp only;refine Ab c4 ?_;simp only[go_sem,Zq,LZ];exact Cb (v:=.tup [.agg _,.bool false]) (Cc (n0 _ _ _) rfl rfl rfl) (Cv rfl) qc rfl
  .have h4:Ao [45] (A.drop p)=false:=by simpa using h4
   have qp:=Iv qb [.row [iV 0,iV 0,.str [],.nils] 76 0 0] hl hp h4;by_cases h5:Ao [33] (A.drop p)=true
   .have qd:=D5 h5;have cA:=Jv qb [.row [iV 0,iV 0,.str [],.nils] 76 0 0] hl h5;obtain⟨v,q,c4,qc,h3⟩:=Nt qb (l:=[.row [iV 0,iV 0,.str [],.nils] 76 0 0]) fun hs=>hU k (by omega) _ m z t A (p+1) hA hs (by omega) (by omega)
    have ho:pu (k+1) (A.drop p)=match pu k (A.drop (p+1)) with
      | none=>none
      | some (x,r)=>some (Mc 5 x,r):=by
     rw[pu,if_neg (by rw[h4];decide),if_pos h5,<-D9];rfl
    rw[ho];simp only[go_sem,Zq,LZ];refine Ab qp ?_;simp only[go_sem,Zq,LZ];refine Ab cA ?_;simp only[go_sem,Zq,LZ];unfold PR at h3
    split at h3
    .rename_i x r hx;obtain⟨rfl,h3⟩:=h3;have qe:=Dm x;have hr:=Bb x;rw[hr]at c4 qe;rw[hx];simp only;refine Ab c4 ?_;simp only[go_sem,Zq,LZ];exact Cb (v:=.tup [.agg _,.bool true]) (Cc (n0 _ _ _) rfl rfl rfl) (Cv (by simp only[go_sem])) qc ⟨by unfold Mc;rw[Bb ⟨5,0,_,_,_,_⟩];simp only[Aw,B6,hr];rfl,h3⟩
    .rename_i hx;subst h3;rw[hx];simp only;refine Ab c4 ?_;simp only[go_sem,Zq,LZ];exact Cb (v:=.tup [.agg _,.bool false]) (Cc (n0 _ _ _) rfl rfl rfl) (Cv rfl) qc rfl
   .have h5:Ao [33] (A.drop p)=false:=by simpa using h5
    exact prim k hb (by omega) h4 h5 (by rw[pu,if_neg (by rw[h4];decide),if_neg (by rw[h5];decide)])
def A22{n:Nat}(hE:∀ k,k<n->PE k)(hU:∀ k,k<n->PU k):PE n:=by
 intro lvl s m z t A p hA hs hp h1 h6 hb;obtain⟨n,rfl⟩:∃ k,n=k+1:=⟨n - 1,by omega⟩;refine J4 T163 rfl hs fun S hS=>?_
 have hl:A.length<=1000000:=by have:=hA.len;omega
 have qb:=hS;have hm:=hS.low;have Zq:=Di hS;obtain⟨-,-,qa,get,get0,set,set0,n0,n1,n2,u0,u1,u2⟩:=hS;by_cases h5:5<lvl
 .have f5:((5:Int)<(lvl:Int))=True:=eq_true (by omega);have ho:pe (n+1) lvl (A.drop p)=pu n (A.drop p):=by rw[pe,if_pos h5]
  obtain⟨v,q,c4,qc,h3⟩:=Nt qb (l:=[.row [iV 0,iV 0,.str [],.nils] 76 0 0]) fun hs=>hU n (by omega) _ m z t A p hA hs hp (by omega)
  rw[ho];simp only[go_sem,Zq,LZ,gt_iff_lt,f5];unfold PR at h3 ⊢
  split at h3
  .rename_i x r hx;obtain⟨rfl,h3⟩:=h3;have qe:=Dm x;have hr:=Bb x;rw[hr]at c4 qe;rw[hr];refine Ab c4 ?_;simp only[go_sem,Zq,LZ];exact Cb (v:=.tup [.agg _,.bool true]) (Cc (n0 _ _ _) rfl rfl rfl) (Cv qe) qc ⟨rfl,h3⟩
  .rename_i hx;subst h3;refine Ab c4 ?_;simp only[go_sem,Zq,LZ];exact Cb (v:=.tup [.agg _,.bool false]) (Cc (n0 _ _ _) rfl rfl rfl) (Cv rfl) qc rfl
 .have f5:((5:Int)<(lvl:Int))=False:=eq_false (by omega);have qk:=Bk (show lvl<9223372036854775807 by omega);obtain⟨v,q,c4,qc,h3⟩:=Nt qb (l:=[.row [iV 0,iV 0,.str [],.nils] 76 0 0]) fun hs=>hE n (by omega) (lvl+1) _ m z t A p hA hs hp (by omega) (by omega) (by omega)
  have ho:pe (n+1) lvl (A.drop p)=match pe n (lvl+1) (A.drop p) with
    | none=>none
    | some (x,r)=>lp n lvl x r:=by
   rw[pe,if_neg h5];rfl
  rw[ho];simp only[go_sem,Zq,LZ,gt_iff_lt,f5,qk];unfold PR at h3
  split at h3
  rotate_left
  .rename_i hx;subst h3;rw[hx];simp only;refine Ab c4 ?_;simp only[go_sem,Zq,LZ];exact Cb (v:=.tup [.agg _,.bool false]) (Cc (n0 _ _ _) rfl rfl rfl) (Cv rfl) qc rfl
  .rename_i x r hx;obtain⟨rfl,h3⟩:=h3;have qe:=Dm x;have hr:=Bb x;rw[hr]at c4 qe;rw[hx];simp only;have qd:=(Vm n).1 _ _ _ _ hx;rw[Dx]at qd;have qX:r.length=A.length - q:=by rw[<-h3,Dx]
   refine Ab c4 ?_;simp only[go_sem,Zq,LZ];refine B3 (α:=Nat × Nat × Xp × St) (fun a=>a.1) (fun a=>[(0,.ptr m 0 0),(1,iV (lvl:Int)),(4,.ptr s.length 0 0),(6,.ptr (s.length+1) 0 0)]) (fun a=>S a.2.1++.row [iV 0,iV 0,.str [],.nils] 76 0 0::.row [iV a.2.2.1.op,iV a.2.2.1.n,.str a.2.2.1.nm,SL a.2.2.1.z a.2.2.1.t (a.2.2.1.l.map Xp.row)] 76 0 0::a.2.2.2) (fun a=>a.1<=n/\a.2.1<=A.length/\lp a.1 lvl a.2.2.1 (A.drop a.2.1)=lp n lvl x r/\8*(A.length - a.2.1)+6<=a.1+lvl) ?_ (n,q,x,[]) ⟨Ai _,qc,by rw[h3],by simp only;omega⟩;rintro⟨k,q,x,J⟩ ⟨qs,hq,qn,qQ⟩ ih;simp only at qs hq qn qQ ih;refine B4 (by delta lp163_0;exact rfl) ?_;rw[<-qn];obtain⟨k,rfl⟩:∃ j,k=j+1:=⟨k - 1,by omega⟩;have qe:=Dm x;have hr:=Bb x;rw[hr]at qe;obtain⟨X,hX⟩:∃ X:List V,X=[iV x.op,iV x.n,.str x.nm,SL x.z x.t (x.l.map Xp.row)]:=⟨_,rfl⟩;have co:=A2y (get q (.row [iV 0,iV 0,.str [],.nils] 76 0 0::.row [iV x.op,iV x.n,.str x.nm,SL x.z x.t (x.l.map Xp.row)] 76 0 0::J)) hl hq lvl
   have nJ:∀ (q:Nat) (a b c:Ob),(S q++a::b::(J++[c]))[s.length+(J.length+1+1)]?=some c:=fun q a b c=>by
    rw[Cd (by rw[qa];omega),qa,show s.length+(J.length+1+1) - s.length=J.length+1+1 by omega,Jm,Jm,Cd (Ai _),Hh];rfl
   have uJ:∀ (q:Nat) (a b c d:Ob),(S q++a::b::(J++[c])).set (s.length+(J.length+1+1)) d=S q++a::b::(J++[d]):=fun q a b c d=>by
    rw[Jn _ _ (by rw[qa];omega),qa,show s.length+(J.length+1+1) - s.length=J.length+1+1 by omega,Ado,Ado,Jn _ _ (Ai _),Hh];rfl
   by_cases h0:Gn lvl (A.drop q)=0
   .have ho:lp (k+1) lvl x (A.drop q)=some (x,A.drop q):=by rw[lp,if_pos h0]
    rw[h0]at co;rw[ho];simp only[go_sem,Zq,LZ];refine Ab co ?_;simp only[go_sem,Zq,LZ,Int.reduceBEq];exact Cb (v:=.tup [.agg _,.bool true]) (Cc (n0 _ _ _) rfl rfl rfl) (Cv qe) hq ⟨by rw[hr],rfl⟩
   .have qv:q<A.length:=by
     rcases Bu q A.length with h | h
     .exact h
     .rw[(Jg h).1]at h0;exact absurd rfl h0
    have b0:(Gn lvl (A.drop q)==0)=false:=by simp[h0]
    have qr:=Bk (show q<9223372036854775807 by omega);obtain⟨v,q2,c4,qc,h3⟩:=Nt qb (p:=q+1) (l:=.row [iV 0,iV 0,.str [],.nils] 76 0 0::.row [iV x.op,iV x.n,.str x.nm,SL x.z x.t (x.l.map Xp.row)] 76 0 0::J) fun hs=>hE k (by omega) (lvl+1) _ m z t A (q+1) hA hs qv (by omega) (by omega) (by omega)
    have ho:lp (k+1) lvl x (A.drop q)=match pe k (lvl+1) (A.drop (q+1)) with
      | none=>none
      | some (y,r)=>if lvl=3 then some (Ie (Gn lvl (A.drop q)) x y,r) else lp k lvl (Ie (Gn lvl (A.drop q)) x y) r:=by
     rw[lp,if_neg h0,<-D9];rfl
    generalize Gn lvl (A.drop q)=op at co b0 ho;simp only[go_sem,Zq,LZ];refine Ab co ?_;simp only[go_sem,Zq,LZ,b0,qr,qk];unfold PR at h3
    split at h3
    .rename_i y r2 hy;obtain⟨rfl,h3⟩:=h3;have qV:=Dm y;have qx:=Bb y;rw[qx]at c4 qV;rw[hy]at ho;simp only at ho;have ql:=(Vm k).1 _ _ _ _ hy;rw[Dx]at ql;have qS:r2.length=A.length - q2:=by rw[<-h3,Dx]
     refine Ab c4 ?_
     have qB:Xp.row (Ie op x y)=[iV op,iV 0,.str [],.lst 1 [[iV x.op,iV x.n,.str x.nm,SL x.z x.t (x.l.map Xp.row)],[iV y.op,iV y.n,.str y.nm,SL y.z y.t (y.l.map Xp.row)]]]:=by
      unfold Ie;rw[Bb ⟨op,0,_,_,_,_⟩];simp only[Aw,B6,hr,qx];rfl
     have qC:=Dm (Ie op x y);rw[qB]at qC;by_cases qt:lvl=3
     .have b3:((lvl:Int)==3)=true:=by rw[qt];rfl
      rw[if_pos qt]at ho;rw[ho];simp only[go_sem,Zq,LZ,nJ,uJ,b3];exact Cb (v:=.tup [.agg _,.bool true]) (Cc (n0 _ _ _) rfl rfl rfl) (Cv qC) qc ⟨by rw[qB],h3⟩
     .have b3:((lvl:Int)==3)=false:=by rw[beq_eq_false_iff_ne];omega
      rw[if_neg qt]at ho;rw[ho];simp only[go_sem,Zq,LZ,nJ,uJ,b3];have:=ih (k,q2,Ie op x y,J++[.row [iV y.op,iV y.n,.str y.nm,SL y.z y.t (y.l.map Xp.row)] 76 0 0]) (by simp) ⟨by simp only;omega,qc,by simp only;rw[h3,<-qn,ho],by simp only;omega⟩;have e:lp k lvl (Ie op x y) r2=_:=ho.symm.trans qn;rw[e];simp only[Ie,Aw,B6,hr,qx]at this;exact this
    .rename_i hy;subst h3;rw[hy]at ho;simp only at ho;rw[ho];refine Ab c4 ?_;simp only[go_sem,Zq,LZ,nJ,uJ];exact Cb (v:=.tup [.agg _,.bool false]) (Cc (n0 _ _ _) rfl rfl rfl) (Cv rfl) qc rfl
def Wz:∀ n,PE n/\PU n:=by
 intro n
 induction n using Nat.strongRecOn with
 | ind n ih=>
  exact⟨A22 (fun k hk=>(ih k hk).1) (fun k hk=>(ih k hk).2),A21 (fun k hk=>(ih k hk).2) (fun k hk=>A20 fun j hj=>(ih j (by omega)).1)⟩
def Xc:∀ (n:Nat) (ln:Int) (l:List UInt8) (ts:List Tk),C0 n ln l=some ts->∀ t∈ts,t.kind=2->Lib.parseIntB 64 t.text=.ok (Id t.text)/\t.text.length<=l.length
 | n,ln,[],ts,h=>by
  have:C0 n ln []=some []:=by cases n<;>rfl
  rw[this]at h;cases h;intro t ht;cases ht
 | 0,ln,c::r,ts,h=>by cases h
 | n+1,ln,c::r,ts,h=>by
  rw[C0]at h
  have up:∀ {l':List UInt8} {ts':List Tk},l'.length<=(c::r).length->(∀ t∈ts',t.kind=2->Lib.parseIntB 64 t.text=.ok (Id t.text)/\t.text.length<=l'.length)->∀ t∈ts',t.kind=2->Lib.parseIntB 64 t.text=.ok (Id t.text)/\t.text.length<=(c::r).length:=
   fun hl h t ht hk=>⟨(h t ht hk).1,Cz (h t ht hk).2 hl⟩
  split at h
  .exact up (by simp) (Xc n _ _ _ h)
  .split at h
   .exact up (by simp) (Xc n _ _ _ h)
   .split at h
    .exact up (Xq _ _) (Xc n _ _ _ h)
    .split at h
     .cases h
     .rename_i k w hf;simp only[Bo]at h;obtain⟨l,hl,rfl⟩:=h;intro t ht;rcases Bi.1 ht with rfl | ht
      .intro qF;simp only at qF;subst qF;obtain⟨-,q,hq⟩:=Wq hf;have qU:w.length<=(c::r).length:=by rw[hq];simp
       refine⟨?_,qU⟩;rw[Nh]at hf;simp only
       split at hf
       .split at hf
        .cases hf
        .simp only[Oh,Prod.mk.injEq]at hf;obtain⟨hf,-⟩:=hf
         split at hf<;>omega
       .split at hf
        .rename_i hc
         split at hf
         .cases hf
         .split at hf
          .rename_i qG;cases hf
           have hd:I0 (Ee c r):=fun d hd=>by
            rcases Bi.1 hd with rfl | hd
            .exact hc
            .exact Ab5 hd
           rw[Aes hd]at qG;have hv:=of_decide_eq_true qG;have h1:=Afg hd hv;have h2:=Asq hd hv;unfold Ee at hv ⊢;rw[h1,h2]
          .cases hf
        .split at hf
         .cases hf
         .simp only[Oh,Prod.mk.injEq]at hf;omega
      .exact up (by rw[Dx];omega) (Xc n _ _ _ hl) t ht
def Ayl{s:List UInt8}{L:List Tk}(hs:s.length<=4096)(h:C0 s.length 1 s=some L):OkA L:=
 ⟨Cz (Ul _ _ _ _ h) hs,fun t ht hk=>by
  obtain⟨h1,h2⟩:=Xc _ _ _ _ h t ht hk
  exact⟨h1,Cz h2 hs⟩⟩
def A23{s:St}{m:Nat}{z:Bool}{t:Nat}{A:List Tk}{p:Nat}(hs:s[m]?=some (RO z t A p))(hA:A.length<=1000000)(hp:p<=A.length):∃ n:Int,Bt TT PT 19 [.ptr m 0 0] s (iV n) s:=by
 suffices h:RT 19 [] s m z t A (fun v p'=>(∃ n:Int,v=iV n)/\p'=p) by
  obtain⟨v,p',h1,-,⟨n,rfl⟩,rfl⟩:=h;rw[Lv hs]at h1;exact⟨n,h1⟩
 refine J4 T19 rfl hs fun S hS=>?_
 have Zq:=Di hS;obtain⟨-,-,qa,get,get0,set,set0,n0,n1,n2,u0,u1,u2⟩:=hS;by_cases h0:A.length=0
 .have b0:((A.length:Int)==0)=true:=by rw[h0];rfl
  simp only[go_sem,Zq,LZ,Nu,b0];exact Xt rfl ⟨rfl,rfl⟩ hp ⟨⟨_,rfl⟩,rfl⟩
 .have b0:((A.length:Int)==0)=false:=by rw[beq_eq_false_iff_ne];omega
  by_cases h1:A.length<=p
  .have f1:((A.length:Int)<=(p:Int))=True:=eq_true (by omega);have e1:IntKind.i64.wrap ((A.length:Int) - 1)=((A.length - 1:Nat):Int):=by rw[Ec (by omega)];omega
   obtain⟨x,hx⟩:∃ x,A[A.length - 1]?=some x:=⟨_,A2 (by omega)⟩;have qm:=Af8 hx;simp only[go_sem,Zq,LZ,Nu,b0,ge_iff_le,f1,e1,qm];exact Xt rfl ⟨rfl,rfl⟩ hp ⟨⟨_,rfl⟩,rfl⟩
  .have f1:((A.length:Int)<=(p:Int))=False:=eq_false (by omega);obtain⟨x,hx⟩:∃ x,A[p]?=some x:=⟨_,A2 (by omega)⟩;have qm:=Af8 hx;simp only[go_sem,Zq,LZ,Nu,b0,ge_iff_le,f1];refine Ag (by kernel_rfl) ?_;simp only[go_sem,Zq,LZ,Nu,qm];exact Xt rfl ⟨rfl,rfl⟩ hp ⟨⟨_,rfl⟩,rfl⟩
/-! SameExpr -/
/-! the maker -/
def ZB:Nat->Nat
 | 0=>1
 | k+1=>1+4*ZB k
def SB(k:Nat)(x:Sp):Prop:=ShS x/\x.sz<=ZB k/\∀ d,d+k<=100->(x.txt d).length<=1000*ZB k
def X7{k:Nat}:∀ {l:List Sp},(∀ x∈l,SB k x)->Sp.szs l<=l.length*ZB k
 | [],_=>by simp[Sp.szs]
 | x::l,h=>by
  have h1:=X7 (fun y hy=>h y (Cs _ hy));obtain⟨-,h3,-⟩:=h x Cx;rw[Sp.szs,Ah,Ng];omega
def Ab7{k d:Nat}:∀ {l:List Sp},(∀ x∈l,SB k x)->d+k<=100->(Sp.txts d l).length<=l.length*(1000*ZB k)
 | [],_,_=>by simp[Sp.txts]
 | x::l,h,hd=>by
  have h1:=Ab7 (fun y hy=>h y (Cs _ hy)) hd;obtain⟨-,-,h4⟩:=h x Cx;have h4:=h4 d hd;rw[Ml,Aj,Ah,Ng];omega
def A65{s:Sp}(h1:s.nm.length<=4)(h2:s.arg.length<=4)(h3:(E7 s.idx).length<=56)(h4:s.op=1\/s.op=2\/s.op=3\/s.op=14->s.ex.txt.length<=118):(Cm s).length<=300:=by
 have hw:(Cj s.op).length<=11:=by
  unfold Cj
  split<;>simp
 unfold Cm
 repeat' split
 all_goals simp
 all_goals omega
def Bat{k:Nat}{x:Sp}(h1:1<=x.op/\x.op<=15)(h2:x.idx.length<=1)(h3:x.op≠1->x.idx=[])(h4:∀ y∈x.idx,ShE y/\y.txt.length<=54)(h5:(x.op=1\/x.op=2\/x.op=3\/x.op=14)->ShE x.ex/\x.ex.txt.length<=118)(qy:Dy x.op=false->U0 x.ex)(h6:(Ft x.op=true/\x.nm=[])\/(Ft x.op=false/\J9 x.nm))(h7:(x.op≠15/\x.arg=[])\/(x.op=15/\J9 x.arg))
  (h8:Bn x.op=false->x.body=[]) (qq:x.op≠2->x.els=[]) (h9:Bn x.op=true->k≠0/\x.body.length<=3/\x.els.length<=1/\(∀ y∈x.body,SB (k - 1) y)/\∀ y∈x.els,SB (k - 1) y):SB k x:=by
 have hi:(E7 x.idx).length<=56:=by
  refine Cz (Amp _) ?_
  cases hx:x.idx with
  | nil=>simp
  | cons a r=>
   have:=(h4 a (by rw[hx];exact Cx)).2;simp only;omega
 have l6:x.nm.length<=4:=by
  rcases h6 with⟨-,h⟩ | ⟨-,-,h⟩
  .rw[h];exact A0 _
  .exact h
 have l7:x.arg.length<=4:=by
  rcases h7 with⟨-,h⟩ | ⟨-,-,h⟩
  .rw[h];exact A0 _
  .exact h
 have g1:Ft x.op=true->x.nm=[]:=fun h=>by
  rcases h6 with⟨-,h'⟩ | ⟨h',-⟩
  .exact h'
  .rw[h]at h';cases h'
 have g2:Ft x.op=false->Bv x.nm=true:=fun h=>by
  rcases h6 with⟨h',-⟩ | ⟨-,h',-⟩
  .rw[h]at h';cases h'
  .exact h'
 have g3:x.op=15->Bv x.arg=true:=fun h=>by
  rcases h7 with⟨h',-⟩ | ⟨-,h',-⟩
  .exact absurd h h'
  .exact h'
 have g4:x.op≠15->x.arg=[]:=fun h=>by
  rcases h7 with⟨-,h'⟩ | ⟨h',-⟩
  .exact h'
  .exact absurd h' h
 have g5:Dy x.op=true->ShE x.ex:=fun h=>(h5 (by
  simp only[Dy,Ij,beq_iff_eq]at h
  exact h)).1
 have hh:=A65 l6 l7 hi (fun h=>(h5 h).2);cases hb:Bn x.op
 .have qz:=h8 hb
  have qD:x.els=[]:=by
   refine qq fun h=>?_
   rw[h]at hb;cases hb
  have hz:1<=ZB k:=by cases k<;>simp[ZB]
  refine⟨.mk h1 g1 g2 g3 g4 h2 h3 (fun y hy=>(h4 y hy).1) g5 qy h8 qq (by rw[qz];simp) (by rw[qD];simp),?_,fun d hd=>?_⟩
  .rw[Lw,qz,qD];simp[Sp.szs];omega
  .rw[K6,hb];simp only[Aj,Ja,Ez,if_false,Ah,C8];omega
 .obtain⟨hk,qA,qE,hB,hE⟩:=h9 hb;obtain⟨k,rfl⟩:∃ j,k=j+1:=⟨k - 1,by omega⟩;rw[Nat.add_sub_cancel]at hB hE;refine⟨.mk h1 g1 g2 g3 g4 h2 h3 (fun y hy=>(h4 y hy).1) g5 qy h8 qq (fun y hy=>(hB y hy).1) (fun y hy=>(hE y hy).1),?_,fun d hd=>?_⟩
  .have h1:=X7 hB;have h2:=X7 hE;have h3:=Fq (ZB k) qA;have h4:=Fq (ZB k) qE;rw[Lw,ZB];omega
  .have h1:=Ab7 (d:=d+1) hB (by omega);have h2:=Ab7 (d:=d+1) hE (by omega);have h3:=Fq (1000*ZB k) qA;have h4:=Fq (1000*ZB k) qE;rw[K6,hb]
   have h5:(if x.els.isEmpty=true then [] else D6 d++125::32::101::108::115::101::32::123::10::Sp.txts (d+1) x.els).length<=2*d+9+(Sp.txts (d+1) x.els).length:=by
    split
    .simp
    .simp[Ja];omega
   simp only[Aj,Ja,if_true,Ah,C8,ZB];omega
