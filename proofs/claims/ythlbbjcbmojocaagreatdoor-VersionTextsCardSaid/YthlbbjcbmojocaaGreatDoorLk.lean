/- Walks: the parser's reader. -/
import Derived.Test.YthlbbjcbmojocaaGreatDoorLg
set_option linter.all false
namespace Go.Proofs.YthlbbjcbmojocaaGreatDoor.KM
open Go
def RO(z:Bool)(t:Nat)(A:List Tk)(p:Nat):Ob:=.row [SL z t (A.map Tk.row),iV (p:Int)] 79 0 0
def Z5(z:Bool)(t:Nat)(A:List Tk)(p:Nat):(RO z t A p).refs=[]:=by
 unfold RO SL
 split<;>rfl
structure RdS (s:St) (m:Nat) (z:Bool) (t:Nat) (A:List Tk) (S:Nat->St):Prop where
 low:m<s.length
 eq:∀ p,S p=s.set m (RO z t A p)
 len:∀ p,(S p).length=s.length
 get:∀ (p:Nat) (l:St),(S p++l)[m]?=some (.row [SL z t (A.map Tk.row),iV (p:Int)] 79 0 0)
 get0:∀ (p:Nat),(S p)[m]?=some (.row [SL z t (A.map Tk.row),iV (p:Int)] 79 0 0)
 set:∀ (p q:Nat) (l:St),(S p++l).set m (.row [SL z t (A.map Tk.row),iV (q:Int)] 79 0 0)=S q++l
 set0:∀ (p q:Nat),(S p).set m (.row [SL z t (A.map Tk.row),iV (q:Int)] 79 0 0)=S q
 n0:∀ (p:Nat) (a:Ob) (l:St),(S p++a::l)[s.length]?=some a
 n1:∀ (p:Nat) (a b:Ob) (l:St),(S p++a::b::l)[s.length+1]?=some b
 n2:∀ (p:Nat) (a b c:Ob) (l:St),(S p++a::b::c::l)[s.length+2]?=some c
 u0:∀ (p:Nat) (a x:Ob) (l:St),(S p++a::l).set s.length x=S p++x::l
 u1:∀ (p:Nat) (a b x:Ob) (l:St),(S p++a::b::l).set (s.length+1) x=S p++a::x::l
 u2:∀ (p:Nat) (a b c x:Ob) (l:St),(S p++a::b::c::l).set (s.length+2) x=S p++a::b::x::l
def Dc{s:St}{m:Nat}{z:Bool}{t:Nat}{A:List Tk}{S:Nat->St}(h:RdS s m z t A S):=And.intro h.len (And.intro h.get (And.intro h.get0 (And.intro h.set (And.intro h.set0 (And.intro h.n0 (And.intro h.n1 (And.intro h.n2 (And.intro h.u0 (And.intro h.u1 (h.u2))))))))))
def Am4{s:St}{m:Nat}(z:Bool)(t:Nat)(A:List Tk)(hm:m<s.length):RdS s m z t A (fun p=>s.set m (RO z t A p)):=by
 have hl:∀ p,(s.set m (RO z t A p)).length=s.length:=fun p=>by simp
 have hs:∀ p q,(s.set m (RO z t A p)).set m (RO z t A q)=s.set m (RO z t A q):=fun p q=>by rw[Qk]
 refine⟨hm,fun _=>rfl,hl,fun p l=>?_,fun p=>?_,fun p q l=>?_,fun p q=>hs p q,fun p a l=>?_,fun p a b l=>?_,fun p a b c l=>?_,fun p a x l=>?_,fun p a b x l=>?_,fun p a b c x l=>?_⟩
 .exact Bx (Cc hm)
 .exact Cc hm
 .rw[U1 _ _ (by simpa using hm)];exact congrArg (·++l) (hs p q)
 .rw[Cj (by simp)];simp
 .rw[Cj (by simp)];simp
 .rw[Cj (by simp)];simp
 .rw[Ie _ _ (by simp)];simp
 .rw[Ie _ _ (by simp)];simp
 .rw[Ie _ _ (by simp)];simp
def RT(f:Nat)(av:List V)(s:St)(m:Nat)(z:Bool)(t:Nat)(A:List Tk)(R:V->Nat->Prop):Prop:=∃ v p',Bt TT PT f (.ptr m 0 0::av) s v (s.set m (RO z t A p'))/\p'<=A.length/\R v p'
def Jd{z:Bool}{t:Nat}{A:List Tk}{f p m q:Nat}{res:List AR}{thr:Bool}{body:AC}{av:List V}{s:St}{R:V->Nat->Prop}(hT:TT f=some ⟨p,res,thr,body,none⟩)(hl:(V.ptr m 0 0::av).length=p)(hs:s[m]?=some (RO z t A q))
  (h:∀ S,RdS s m z t A S->W TT PT [.c body] (C6 0 (.ptr m 0 0::av)) (S q) (Hd fun e' σ1=>∃ v p' l,Cd e' σ1 res=some v/\(Ch v=true/\v.refs=[])/\σ1=S p'++l/\p'<=A.length/\R v p')):RT f av s m z t A R:=by
 have hm:=(Ap.1 hs).1;have h:=h _ (Am4 z t A hm);rw[K5 hs]at h;obtain⟨e',σ1,hE,v,p',l,hr,⟨h1,h2⟩,rfl,h3,h4⟩:=h;have qU:(s.set m (RO z t A p')++l).take s.length=s.set m (RO z t A p'):=by rw[List.take_append_of_le_length (by simp),Mj (by simp)]
 refine⟨v,p',?_,h3,h4⟩
 have:=Ev.fn hT rfl hl hE hr h1 (by rw[h2];rfl) (fun i ob hi ho=>by
  rw[Cg (by simpa using hi)]at ho;by_cases hb:m=i
  .subst hb;rw[Cc hm]at ho;cases ho;exact .inr (by rw[Z5];rfl)
  .rw[Bg hb]at ho
   exact .inl ho)
 rw[qU]at this;exact⟨_,hT,rfl,this⟩
def B6{S:Nat->St}{A:List Tk}{R:V->Nat->Prop}{e:Env}{res:List AR}{v:V}{p:Nat}{l:St}(hr:Cd e (S p++l) res=some v)(hv:Ch v=true/\v.refs=[])(hp:p<=A.length)(hR:R v p):
  ∃ v p' l',Cd e (S p++l) res=some v/\(Ch v=true/\v.refs=[])/\S p++l=S p'++l'/\p'<=A.length/\R v p':=⟨v,p,l,hr,hv,rfl,hp,hR⟩
def Wk{S:Nat->St}{A:List Tk}{R:V->Nat->Prop}{e:Env}{res:List AR}{v:V}{p:Nat}(hr:Cd e (S p) res=some v)(hv:Ch v=true/\v.refs=[])(hp:p<=A.length)(hR:R v p):
  ∃ v p' l',Cd e (S p) res=some v/\(Ch v=true/\v.refs=[])/\S p=S p'++l'/\p'<=A.length/\R v p':=⟨v,p,[],hr,hv,(Cm _).symm,hp,hR⟩
def Mx{s:St}{m:Nat}{z:Bool}{t:Nat}{A:List Tk}{S:Nat->St}(hS:RdS s m z t A S){f p:Nat}{av:List V}{l:St}{R:V->Nat->Prop}(h:(S p++l)[m]?=some (RO z t A p)->RT f av (S p++l) m z t A R):∃ v q,Bt TT PT f (.ptr m 0 0::av) (S p++l) v (S q++l)/\q<=A.length/\R v q:=by
 obtain⟨v,q,h1,h2,h3⟩:=h (hS.get p l);have e:(S p++l).set m (RO z t A q)=S q++l:=hS.set p q l;rw[e]at h1;exact⟨v,q,h1,h2,h3⟩
def Qt{f:Nat}{av:List V}{s:St}{m:Nat}{z:Bool}{t:Nat}{A:List Tk}{w:V}{q:Nat}(h:RT f av s m z t A (fun v p'=>v=w/\p'=q)):Bt TT PT f (.ptr m 0 0::av) s w (s.set m (RO z t A q)):=by
 obtain⟨v,p',h1,-,rfl,rfl⟩:=h;exact h1
def B7{τ:St}{i x y n t:Nat}{cs:List V}{e:Env}{v:V}(h:τ[i]?=some (.row cs t 0 0))(h1:e.get x=.ptr i 0 0)(hn:cs.length=n)(h2:e.get y=v):Cd e τ [AR.cell x n false,AR.tmp y]=some (.tup [.agg cs,v]):=by
 subst hn h2;simp only[Cd,Fw,Hy,Yj,h1,Hn,h];simp[Ga]
/-! tokens -/
def Aa(A:List Tk)(p:Nat):Tk:=(A[p]?).getD Tk.zero
def A30(w:List UInt8)(A:List Tk)(p:Nat):Ar w (A.drop p)=(((Aa A p).kind==3||(Aa A p).kind==4)&&(Aa A p).text==w):=by
 unfold Aa
 cases h:A[p]? with
 | none=>
  rw[F4 (by simpa using h)];simp[Ar,Tk.zero]
 | some x=>
  rw[Fv (Ap.1 h).1,(Ap.1 h).2];rfl
def My(A:List Tk):(A.map Tk.row).length=A.length:=Ba ..
def Aer{A:List Tk}{p:Nat}{x:Tk}(h:A[p]?=some x):(A.map Tk.row)[p]?=some [iV x.kind,.str x.text,iV x.line]:=by rw[Aq,h];rfl
def Pa{s:St}{m:Nat}{z:Bool}{t:Nat}{A:List Tk}{p:Nat}(hs:s[m]?=some (RO z t A p))(hA:A.length<=1000000)(hp:p<=A.length):Bt TT PT 46 [.ptr m 0 0] s (.agg [iV (Aa A p).kind,.str (Aa A p).text,iV (Aa A p).line]) s:=by
 suffices h:RT 46 [] s m z t A (fun v p'=>v=.agg [iV (Aa A p).kind,.str (Aa A p).text,iV (Aa A p).line]/\p'=p) by
  have:=Qt h;rw[K5 hs]at this;exact this
 refine Jd T46 rfl hs fun S hS=>?_
 have Zq:=Dc hS;obtain⟨-,-,qb,get,get0,set,set0,n0,n1,n2,u0,u1,u2⟩:=hS;unfold Aa;by_cases h:A.length<=p
 .have g:((A.length:Int)<=(p:Int))=True:=eq_true (by omega);have e:A[p]?=none:=by simpa using h
  simp only[go_sem,Zq,LZ];refine Ag (by kernel_rfl) ?_;simp only[go_sem,Zq,LZ,My,ge_iff_le,g];refine B6 (v:=.agg [iV 0,.str [],iV 0]) (Ro (n0 _ _ _) rfl rfl) ⟨rfl,rfl⟩ hp ⟨?_,rfl⟩;rw[e];rfl
 .have g:((A.length:Int)<=(p:Int))=False:=eq_false (by omega);obtain⟨x,hx⟩:∃ x,A[p]?=some x:=⟨_,A2 (by omega)⟩;have qn:=Aer hx;simp only[go_sem,Zq,LZ];refine Ag (by kernel_rfl) ?_;simp only[go_sem,Zq,LZ,My,ge_iff_le,g];refine Ag (by kernel_rfl) ?_;simp only[go_sem,Zq,LZ,My,qn];refine Az ?_;simp only[go_sem,Zq,LZ];refine B6 (v:=.agg [iV x.kind,.str x.text,iV x.line]) (Ro (n0 _ _ _) rfl rfl) ⟨rfl,rfl⟩ hp ⟨?_,rfl⟩;rw[hx];rfl
def Agd{s:St}{m:Nat}{z:Bool}{t:Nat}{A:List Tk}{p:Nat}(hs:s[m]?=some (RO z t A p))(hA:A.length<=1000000)(hp:p<=A.length)(w:List UInt8):Bt TT PT 49 [.ptr m 0 0,.str w] s (.bool (Ar w (A.drop p))) s:=by
 suffices h:RT 49 [.str w] s m z t A (fun v p'=>v=.bool (Ar w (A.drop p))/\p'=p) by
  have:=Qt h;rw[K5 hs]at this;exact this
 refine Jd T49 rfl hs fun S hS=>?_
 have hn:=Pa (hS.get0 p) hA hp;have Zq:=Dc hS;obtain⟨-,-,qb,get,get0,set,set0,n0,n1,n2,u0,u1,u2⟩:=hS;rw[A30];generalize Aa A p=x at hn;obtain⟨k,tx,ln⟩:=x;simp only at hn ⊢;simp only[go_sem,Zq,LZ];refine Ab hn ?_;simp only[go_sem,Zq,LZ]
 cases h3:(k==3)<;>cases h4:(k==4)<;>cases hw:(tx==w)
 all_goals
  simp only[go_sem,Zq,LZ,h3,h4,hw];exact B6 rfl ⟨rfl,rfl⟩ hp ⟨rfl,rfl⟩
def Dz{A:List Tk}{p:Nat}:A.drop (p+1)=(A.drop p).tail:=by rw[List.tail_drop]
def Dt{w:List UInt8}{A:List Tk}{p:Nat}(h:Ar w (A.drop p)=true):p<A.length:=by
 rcases Br p A.length with h' | h'
 .exact h'
 .rw[F4 h']at h;cases h
def Pj{s:St}{m:Nat}{z:Bool}{t:Nat}{A:List Tk}{p:Nat}(hs:s[m]?=some (RO z t A p))(hA:A.length<=1000000){w:List UInt8}(h:Ar w (A.drop p)=true):Bt TT PT 79 [.ptr m 0 0,.str w] s (.bool true) (s.set m (RO z t A (p+1))):=by
 have qe:=Dt h;refine Qt (A:=A) (z:=z) (t:=t) (Jd T79 rfl hs fun S hS=>?_);have ha:=Agd (hS.get0 p) hA (by omega) w;rw[h]at ha;have qk:=Bf (show p<9223372036854775807 by omega);have Zq:=Dc hS;obtain⟨-,-,qb,get,get0,set,set0,n0,n1,n2,u0,u1,u2⟩:=hS;simp only[go_sem,Zq,LZ];refine Ab ha ?_;simp only[go_sem,Zq,LZ,qk];exact Wk rfl ⟨rfl,rfl⟩ (by omega) ⟨rfl,rfl⟩
def Pk{s:St}{m:Nat}{z:Bool}{t:Nat}{A:List Tk}{p:Nat}(hs:s[m]?=some (RO z t A p))(hA:A.length<=1000000)(hp:p<=A.length){w:List UInt8}(h:Ar w (A.drop p)=false):Bt TT PT 79 [.ptr m 0 0,.str w] s (.bool false) s:=by
 suffices h:Bt TT PT 79 [.ptr m 0 0,.str w] s (.bool false) (s.set m (RO z t A p)) by
  rw[K5 hs]at h;exact h
 refine Qt (A:=A) (z:=z) (t:=t) (Jd T79 rfl hs fun S hS=>?_);have ha:=Agd (hS.get0 p) hA hp w;rw[h]at ha;have Zq:=Dc hS;obtain⟨-,-,qb,get,get0,set,set0,n0,n1,n2,u0,u1,u2⟩:=hS;simp only[go_sem,Zq,LZ];refine Ab ha ?_;simp only[go_sem,Zq,LZ];exact Wk rfl ⟨rfl,rfl⟩ hp ⟨rfl,rfl⟩
/-! the same, in the states of a reader's function -/
def I7{s:St}{m:Nat}{z:Bool}{t:Nat}{A:List Tk}{S:Nat->St}(hS:RdS s m z t A S){p:Nat}(l:St)(hA:A.length<=1000000){w:List UInt8}(h:Ar w (A.drop p)=true):Bt TT PT 79 [.ptr m 0 0,.str w] (S p++l) (.bool true) (S (p+1)++l):=by
 have:=Pj (hS.get p l) hA h;rw[show(S p++l).set m (RO z t A (p+1))=S (p+1)++l from hS.set p (p+1) l]at this;exact this
def H6{s:St}{m:Nat}{z:Bool}{t:Nat}{A:List Tk}{S:Nat->St}(hS:RdS s m z t A S){p:Nat}(l:St)(hA:A.length<=1000000)(hp:p<=A.length){w:List UInt8}(h:Ar w (A.drop p)=false):Bt TT PT 79 [.ptr m 0 0,.str w] (S p++l) (.bool false) (S p++l):=Pk (hS.get p l) hA hp h
def Jt{A:List Tk}{p:Nat}(h:p<A.length):A.drop p=Aa A p::A.drop (p+1):=by
 unfold Aa;rw[Fv h,A2 h];rfl
def Ir{A:List Tk}{p:Nat}(h:A.length<=p):A.drop p=[]/\Aa A p=Tk.zero:=by
 unfold Aa;rw[F4 h,P3 h];exact⟨rfl,rfl⟩
def Z6{A:List Tk}{p:Nat}(h:(Aa A p).kind≠0):p<A.length:=by
 rcases Br p A.length with h' | h'
 .exact h'
 .rw[(Ir h').2]at h;exact absurd rfl h
def Uf{s:St}{m:Nat}{z:Bool}{t:Nat}{A:List Tk}{p:Nat}(hs:s[m]?=some (RO z t A p))(hA:A.length<=1000000)(hp:p<=A.length):
  (∀ w r,C3 (A.drop p)=some (w,r)->Bt TT PT 76 [.ptr m 0 0] s (.tup [.str w,.bool true]) (s.set m (RO z t A (p+1)))/\p<A.length/\A.drop (p+1)=r)/\(C3 (A.drop p)=none->Bt TT PT 76 [.ptr m 0 0] s (.tup [.str [],.bool false]) s):=by
 have hk:∀ b:Bool,((Aa A p).kind==1)=b->Bt TT PT 76 [.ptr m 0 0] s (.tup [.str (if b then(Aa A p).text else []),.bool b]) (s.set m (RO z t A (if b then p+1 else p))):=fun b hb=>by
  have qe:b=true->p<A.length:=fun h=>Z6 (by subst h;simp at hb;omega)
  refine Qt (A:=A) (z:=z) (t:=t) (Jd T76 rfl hs fun S hS=>?_);have hn:=Pa (hS.get0 p) hA hp;have qh:((Aa A p).kind != 1)=!b:=by rw[bne,hb]
  have Zq:=Dc hS;obtain⟨-,-,qb,get,get0,set,set0,n0,n1,n2,u0,u1,u2⟩:=hS;cases b
  .simp only[go_sem,Zq,LZ];refine Ab hn ?_;simp only[go_sem,Zq,LZ,qh,Aw,Au];exact B6 rfl ⟨rfl,rfl⟩ hp ⟨rfl,rfl⟩
  .have qk:=Bf (show p<9223372036854775807 by omega);simp only[go_sem,Zq,LZ];refine Ab hn ?_;simp only[go_sem,Zq,LZ,qh,qk,Aw,Au];exact B6 rfl ⟨rfl,rfl⟩ (qe rfl) ⟨rfl,rfl⟩
 refine⟨fun w r h=>?_,fun h=>?_⟩
 .have qe:p<A.length:=by
   rcases Br p A.length with h' | h'
   .exact h'
   .rw[(Ir h').1]at h;cases h
  rw[Jt qe]at h;simp only[C3]at h
  split at h
  .rename_i h1;cases h;have:=hk true (by simp[h1]);exact⟨this,qe,rfl⟩
  .cases h
 .have hb:((Aa A p).kind==1)=false:=by
   rcases Br p A.length with h' | h'
   .rw[Jt h']at h;simp only[C3]at h
    split at h
    .cases h
    .rename_i h1;simpa using h1
   .rw[(Ir h').2];rfl
  have:=hk false hb;simp only[Fb,if_false]at this;rw[K5 hs]at this;exact this
def Aar{s:St}{m:Nat}{z:Bool}{t:Nat}{A:List Tk}{p:Nat}(hs:s[m]?=some (RO z t A p))(hA:A.length<=1000000)(hp:p<=A.length)(hN:∀ t∈A,t.kind=2->Lib.parseIntB 64 t.text=.ok (H9 t.text)/\t.text.length<=4096):
  (∀ w r,Gg (A.drop p)=some (w,r)->Bt TT PT 101 [.ptr m 0 0] s (.tup [iV w,.bool true]) (s.set m (RO z t A (p+1)))/\p<A.length/\A.drop (p+1)=r)/\(Gg (A.drop p)=none->Bt TT PT 101 [.ptr m 0 0] s (.tup [iV 0,.bool false]) s):=by
 have hk:∀ b:Bool,((Aa A p).kind==2)=b->Bt TT PT 101 [.ptr m 0 0] s (.tup [iV (if b then H9 (Aa A p).text else 0),.bool b]) (s.set m (RO z t A (if b then p+1 else p))):=fun b hb=>by
  have qe:b=true->p<A.length:=fun h=>Z6 (by subst h;simp at hb;omega)
  refine Qt (A:=A) (z:=z) (t:=t) (Jd T101 rfl hs fun S hS=>?_);have hn:=Pa (hS.get0 p) hA hp;have qh:((Aa A p).kind != 2)=!b:=by rw[bne,hb]
  have Zq:=Dc hS;obtain⟨-,-,qb,get,get0,set,set0,n0,n1,n2,u0,u1,u2⟩:=hS;cases b
  .simp only[go_sem,Zq,LZ];refine Ab hn ?_;simp only[go_sem,Zq,LZ,qh,Aw,Au];exact B6 rfl ⟨rfl,rfl⟩ hp ⟨rfl,rfl⟩
  .have qk:=Bf (show p<9223372036854775807 by omega)
   have qv:Aa A p∈A:=by
    have h:=qe rfl;unfold Aa;rw[A2 h];exact Fc h
   obtain⟨hv,hl⟩:=hN _ qv (by simpa using hb)
   have q:Uw [.str (Aa A p).text,iV 10,iV 64]=some (.tup [iV (H9 (Aa A p).text),.nili]):=by
    simp only[Uw];rw[if_pos (by omega),hv]
   simp only[go_sem,Zq,LZ];refine Ab hn ?_;simp only[go_sem,Zq,LZ,qh,Aw,Au];refine Ft P126 (by simp only[go_sem]) q ?_;simp only[go_sem,Zq,LZ,qk];exact B6 rfl ⟨rfl,rfl⟩ (qe rfl) ⟨rfl,rfl⟩
 refine⟨fun w r h=>?_,fun h=>?_⟩
 .have qe:p<A.length:=by
   rcases Br p A.length with h' | h'
   .exact h'
   .rw[(Ir h').1]at h;cases h
  rw[Jt qe]at h;simp only[Gg]at h
  split at h
  .rename_i h1;cases h;have:=hk true (by simp[h1]);exact⟨this,qe,rfl⟩
  .cases h
 .have hb:((Aa A p).kind==2)=false:=by
   rcases Br p A.length with h' | h'
   .rw[Jt h']at h;simp only[Gg]at h
    split at h
    .cases h
    .rename_i h1;simpa using h1
   .rw[(Ir h').2];rfl
  have:=hk false hb;simp only[Fb,if_false]at this;rw[K5 hs]at this;exact this
/-! operators -/
def Av8:(opTab.all fun p=>match (I9 (Mc TT PT 300) af179 [.str p.1] []).bind fun q=>Ei q.2 q.1 with
  | some (.tup [.int .i64 a,.int .i64 b])=>a==(Hs p.1).1&&b==(Hs p.1).2
  | _=>false)=true:=by kernel_rfl
def A31(w:List UInt8):Fn TT PT 179 [.str w] (.tup [iV (Hs w).1,iV (Hs w).2]):=by
 by_cases hm:∃ p∈opTab,p.1=w
 .obtain⟨p,hp,rfl⟩:=hm;have hr:=Bi.1 Av8 p hp
  split at hr
  .rename_i a b hv;simp only[Af,beq_iff_eq]at hr;rw[<-hr.1,<-hr.2];exact O4 Px T179 rfl rfl hv
  .cases hr
 .have qh:∀ p∈opTab,(w==p.1)=false:=fun p hp=>by
   rw[beq_eq_false_iff_ne];exact fun h=>hm ⟨p,hp,h.symm⟩
  have h0:Hs w=(0,0):=by
   unfold Hs
   have:opTab.lookup w=none:=by
    rw[List.lookup_eq_none_iff];exact fun p hp=>by rw[bne,qh p hp];rfl
   rw[this];rfl
  rw[h0];simp only[opTab,Bj,P9,or_false,forall_eq_or_imp,forall_eq]at qh;obtain⟨a1,a2,a3,a4,a5,a6,a7,a8,a9,qK,qL,qM,qN⟩:=qh;refine Bn T179 rfl ?_;simp only[go_sem,a1,a2,a3,a4,a5,a6,a7,a8,a9,qK,qL,qM,qN];exact I4 rfl
def Az5{s:St}{m:Nat}{z:Bool}{t:Nat}{A:List Tk}{p:Nat}(hs:s[m]?=some (RO z t A p))(hA:A.length<=1000000)(hp:p<=A.length)(qa:Nat):Bt TT PT 177 [.ptr m 0 0,iV (qa:Int)] s (iV (Gu qa (A.drop p))) s:=by
 suffices h:Bt TT PT 177 [.ptr m 0 0,iV (qa:Int)] s (iV (Gu qa (A.drop p))) (s.set m (RO z t A p)) by
  rw[K5 hs]at h;exact h
 have ho:Gu qa (A.drop p)=if(Aa A p).kind=4 then(if(Hs (Aa A p).text).2=(qa:Int) then(Hs (Aa A p).text).1 else 0) else 0:=by
  rcases Br p A.length with h' | h'
  .rw[Jt h'];rfl
  .rw[(Ir h').1,(Ir h').2];rfl
 rw[ho];refine Qt (A:=A) (z:=z) (t:=t) (Jd T177 rfl hs fun S hS=>?_);have hn:=Pa (hS.get0 p) hA hp;have hb:=A31 (Aa A p).text;generalize Hs (Aa A p).text=o at hb ⊢;obtain⟨o1,o2⟩:=o;simp only at hb ⊢;have Zq:=Dc hS;obtain⟨-,-,qb,get,get0,set,set0,n0,n1,n2,u0,u1,u2⟩:=hS;by_cases h4:(Aa A p).kind=4
 .have g4:((Aa A p).kind != 4)=false:=by simp[h4]
  rw[if_pos h4];by_cases hl:o2=(qa:Int)
  .have gl:(o2 != (qa:Int))=false:=by simp[hl]
   rw[if_pos hl];simp only[go_sem,Zq,LZ];refine Ab hn ?_;simp only[go_sem,Zq,LZ,g4];refine Ad hb (by simp only[go_sem]) ?_;simp only[go_sem,Zq,LZ,gl];exact B6 rfl ⟨rfl,rfl⟩ hp ⟨rfl,rfl⟩
  .have gl:(o2 != (qa:Int))=true:=by simp[hl]
   rw[if_neg hl];simp only[go_sem,Zq,LZ];refine Ab hn ?_;simp only[go_sem,Zq,LZ,g4];refine Ad hb (by simp only[go_sem]) ?_;simp only[go_sem,Zq,LZ,gl];exact B6 rfl ⟨rfl,rfl⟩ hp ⟨rfl,rfl⟩
 .have g4:((Aa A p).kind != 4)=true:=by simp[h4]
  rw[if_neg h4];simp only[go_sem,Zq,LZ];refine Ab hn ?_;simp only[go_sem,Zq,LZ,g4];exact B6 rfl ⟨rfl,rfl⟩ hp ⟨rfl,rfl⟩
def Zr{s:List UInt8}{ts:List Tk}(h:Ar s ts=true):ts.tail.length+1=ts.length:=by
 cases ts with
 | nil=>cases h
 | cons t r=>rfl
def Az6{qa:Nat}{ts:List Tk}(h:Gu qa ts≠0):ts.tail.length+1=ts.length:=by
 cases ts with
 | nil=>exact absurd rfl h
 | cons t r=>rfl
def Ug:∀ n,(∀ qa ts x r,pe n qa ts=some (x,r)->r.length<ts.length)/\(∀ qa x0 ts x r,lp n qa x0 ts=some (x,r)->r.length<=ts.length) /\
  (∀ ts x r,pu n ts=some (x,r)->r.length<ts.length)/\(∀ ts x r,pp n ts=some (x,r)->r.length<ts.length)
 | 0=>⟨fun _ _ _ _ h=>by simp[pe]at h,fun _ _ _ _ _ h=>by simp[lp]at h,fun _ _ _ h=>by simp[pu]at h,fun _ _ _ h=>by simp[pp]at h⟩
 | n+1=>by
  obtain⟨qp,qI,qJ,qX⟩:=Ug n;refine⟨fun qa ts x r h=>?_,fun qa x0 ts x r h=>?_,fun ts x r h=>?_,fun ts x r h=>?_⟩
  .rw[pe]at h
   split at h
   .exact qJ ts x r h
   .split at h
    .cases h
    .rename_i y q hy;have a:=qp _ _ _ _ hy;have b:=qI _ _ _ _ _ h;omega
  .rw[lp]at h
   split at h
   .cases h;exact Ah _
   .rename_i ho;have t:=Az6 ho
    split at h
    .cases h
    .rename_i y q hy;have a:=qp _ _ _ _ hy
     split at h
     .cases h;omega
     .have b:=qI _ _ _ _ _ h;omega
  .have un:∀ (op:Int) s,Ar s ts=true->(match pu n ts.tail with
     | none=>none
     | some (x,r)=>some (Nd op x,r))=some (x,r)->r.length<ts.length:=fun op s hs h=>by
    have t:=Zr hs
    split at h
    .cases h
    .rename_i y q hy;cases h;have a:=qJ _ _ _ hy;omega
   rw[pu]at h
   split at h
   .rename_i hs;exact un 4 _ hs h
   .split at h
    .rename_i hs;exact un 5 _ hs h
    .exact qX ts x r h
  .cases ts with
   | nil=>simp[pp]at h
   | cons t ts=>
    rw[Ak];rw[pp]at h
    split at h
    .cases h;omega
    .split at h
     .split at h
      .rename_i hs;have t:=Zr hs
       split at h
       .cases h
       .rename_i y q hy;have a:=qp _ _ _ _ hy
        split at h
        .rename_i qx;have u:=Zr qx;cases h;omega
        .cases h
      .cases h;omega
     .split at h
      .split at h
       .cases h
       .rename_i y q hy;have a:=qp _ _ _ _ hy
        split at h
        .rename_i qx;have u:=Zr qx;cases h;omega
        .cases h
      .cases h
structure OkA (A:List Tk):Prop where
 len:A.length<=4096
 num:∀ t∈A,t.kind=2->Lib.parseIntB 64 t.text=.ok (H9 t.text)/\t.text.length<=4096
def PR(A:List Tk)(o:Option (Xp × List Tk))(v:V)(p':Nat):Prop:=match o with
 | some (x,r)=>v=.tup [.agg x.row,.bool true]/\A.drop p'=r
 | none=>v=.tup [.agg [.int .i64 0,.int .i64 0,.str [],.nils],.bool false]
def PE(n:Nat):Prop:=∀ (qa:Nat) (s:St) (m:Nat) (z:Bool) (t:Nat) (A:List Tk) (p:Nat),OkA A->s[m]?=some (RO z t A p)->p<=A.length->1<=qa->qa<=6->8*(A.length - p)+7<=n+qa ->
 RT 166 [iV (qa:Int)] s m z t A (PR A (pe n qa (A.drop p)))
def PU(n:Nat):Prop:=∀ (s:St) (m:Nat) (z:Bool) (t:Nat) (A:List Tk) (p:Nat),OkA A->s[m]?=some (RO z t A p)->p<=A.length->8*(A.length - p)<=n->RT 176 [] s m z t A (PR A (pu n (A.drop p)))
def PP(n:Nat):Prop:=∀ (s:St) (m:Nat) (z:Bool) (t:Nat) (A:List Tk) (p:Nat),OkA A->s[m]?=some (RO z t A p)->p<=A.length->8*(A.length - p)<=n+1->RT 178 [] s m z t A (PR A (pp n (A.drop p)))
def Cq{cs:List V}{b:Bool}(h:Dg (.agg cs)=true):Ch (.tup [.agg cs,.bool b])=true/\(V.tup [.agg cs,.bool b]).refs=[]:=by
 have h1:=Wf h;have h2:=Sk h;have qP:cs.all V.cellB=true:=h1;have qQ:Al cs=[]:=h2;refine⟨?_,?_⟩
 .show((cs.all V.cellB)&&_)=true;rw[qP];rfl
 .show Al cs++_=[];rw[qQ];rfl
def Qs{n:Nat}(h:PE n){s:St}{m:Nat}{z:Bool}{t:Nat}{A:List Tk}{p:Nat}(hA:OkA A)(hs:s[m]?=some (RO z t A p))(hp:p<=A.length)(hb:8*(A.length - p)+6<=n):RT 145 [] s m z t A (PR A (pe n 1 (A.drop p))):=by
 refine Jd T145 rfl hs fun S hS=>?_
 obtain⟨v,q,h1,h2,h3⟩:=Mx hS (l:=[.row [iV 0,iV 0,.str [],.nils] 66 0 0]) fun hs=>h 1 _ m z t A p hA hs hp (by omega) (by omega) (by omega)
 have hm:=hS.low;have Zq:=Dc hS;obtain⟨-,-,qb,get,get0,set,set0,n0,n1,n2,u0,u1,u2⟩:=hS;rw[Int.natCast_one]at h1;simp only[go_sem,Zq,LZ];unfold PR at h3 ⊢
 split at h3
 .rename_i x r ho;obtain⟨rfl,h3⟩:=h3;have hx:=Df x;have hr:=A0 x;rw[hr]at h1 hx ⊢;refine Ab h1 ?_;simp only[go_sem,Zq,LZ];exact B6 (v:=.tup [.agg _,.bool true]) (B7 (n0 _ _ _) rfl rfl rfl) (Cq hx) h2 ⟨rfl,h3⟩
 .subst h3;refine Ab h1 ?_;simp only[go_sem,Zq,LZ];exact B6 (v:=.tup [.agg _,.bool false]) (B7 (n0 _ _ _) rfl rfl rfl) (Cq rfl) h2 rfl
def Abz{s:St}{m:Nat}{z:Bool}{t:Nat}{A:List Tk}{S:Nat->St}(hS:RdS s m z t A S){p:Nat}(l:St)(hl:A.length<=1000000)(hp:p<=A.length){w:List UInt8}{r:List Tk}(h:C3 (A.drop p)=some (w,r)):Bt TT PT 76 [.ptr m 0 0] (S p++l) (.tup [.str w,.bool true]) (S (p+1)++l)/\p<A.length/\A.drop (p+1)=r:=by
 obtain⟨h1,h2⟩:=(Uf (hS.get p l) hl hp).1 w r h;rw[show(S p++l).set m (RO z t A (p+1))=S (p+1)++l from hS.set p (p+1) l]at h1;exact⟨h1,h2⟩
def Xm{s:St}{m:Nat}{z:Bool}{t:Nat}{A:List Tk}{S:Nat->St}(hS:RdS s m z t A S){p:Nat}(l:St)(hl:A.length<=1000000)(hp:p<=A.length)(h:C3 (A.drop p)=none):Bt TT PT 76 [.ptr m 0 0] (S p++l) (.tup [.str [],.bool false]) (S p++l):=(Uf (hS.get p l) hl hp).2 h
def A7m{s:St}{m:Nat}{z:Bool}{t:Nat}{A:List Tk}{S:Nat->St}(hS:RdS s m z t A S){p:Nat}(l:St)(hA:OkA A)(hp:p<=A.length){w:Int}{r:List Tk}(h:Gg (A.drop p)=some (w,r)):Bt TT PT 101 [.ptr m 0 0] (S p++l) (.tup [iV w,.bool true]) (S (p+1)++l)/\p<A.length/\A.drop (p+1)=r:=by
 obtain⟨h1,h2⟩:=(Aar (hS.get p l) (by have:=hA.len;omega) hp hA.num).1 w r h;rw[show(S p++l).set m (RO z t A (p+1))=S (p+1)++l from hS.set p (p+1) l]at h1;exact⟨h1,h2⟩
def Apv{s:St}{m:Nat}{z:Bool}{t:Nat}{A:List Tk}{S:Nat->St}(hS:RdS s m z t A S){p:Nat}(l:St)(hA:OkA A)(hp:p<=A.length)(h:Gg (A.drop p)=none):Bt TT PT 101 [.ptr m 0 0] (S p++l) (.tup [iV 0,.bool false]) (S p++l):=(Aar (hS.get p l) (by have:=hA.len;omega) hp hA.num).2 h
def Az7{n:Nat}(hE:∀ k,k<n->PE k):PP n:=by
 intro s m z t A p hA hs hp hb;refine Jd T178 rfl hs fun S hS=>?_
 have hl:A.length<=1000000:=by have:=hA.len;omega
 have qc:=hS;have hm:=hS.low;have Zq:=Dc hS;obtain⟨-,-,qb,get,get0,set,set0,n0,n1,n2,u0,u1,u2⟩:=hS;rcases Br p A.length with qe | qS
 .obtain⟨k,rfl⟩:∃ k,n=k+1:=⟨n - 1,by omega⟩;have hd:=Jt qe;by_cases h2:(Aa A p).kind=2
  .have hq:Gg (A.drop p)=some (H9 (Aa A p).text,A.drop (p+1)):=by rw[hd];simp only[Gg];rw[if_pos h2]
   obtain⟨c1,-,-⟩:=A7m qc [.row [iV 0,iV 0,.str [],.nils] 66 0 0] hA hp hq;have ho:pp (k+1) (A.drop p)=some (⟨1,H9 (Aa A p).text,[],true,0,[]⟩,A.drop (p+1)):=by rw[hd,pp,if_pos h2]
   rw[ho];simp only[go_sem,Zq,LZ];refine Ab c1 ?_;simp only[go_sem,Zq,LZ];exact B6 (v:=.tup [.agg _,.bool true]) (B7 (n0 _ _ _) rfl rfl rfl) (Cq rfl) qe ⟨rfl,rfl⟩
  .have hq:Gg (A.drop p)=none:=by rw[hd];simp only[Gg];rw[if_neg h2]
   have c1:=Apv qc [.row [iV 0,iV 0,.str [],.nils] 66 0 0] hA hp hq;by_cases h1:(Aa A p).kind=1
   .have hn:C3 (A.drop p)=some ((Aa A p).text,A.drop (p+1)):=by rw[hd];simp only[C3];rw[if_pos h1]
    obtain⟨c2,-,-⟩:=Abz qc [.row [iV 0,iV 0,.str [],.nils] 66 0 0] hl hp hn;by_cases qj:Ar [91] (A.drop (p+1))=true
    .have c3:=I7 qc [.row [iV 0,iV 0,.str [],.nils] 66 0 0] hl qj;have qm:=Dt qj;obtain⟨v,q,c4,qd,h3⟩:=Mx qc (l:=[.row [iV 0,iV 0,.str [],.nils] 66 0 0]) fun hs=>Qs (hE k (by omega)) (p:=p+1+1) hA hs (by omega) (by omega)
     have ho:pp (k+1) (A.drop p)=match pe k 1 (A.drop (p+1+1)) with
       | none=>none
       | some (x,r)=>if Ar [93] r then some (⟨3,0,(Aa A p).text,true,1,[x]⟩,r.tail) else none:=by
      rw[hd,pp,if_neg h2,if_pos h1,if_pos qj,<-Dz];rfl
     rw[ho];simp only[go_sem,Zq,LZ];refine Ab c1 ?_;simp only[go_sem,Zq,LZ];refine Ab c2 ?_;simp only[go_sem,Zq,LZ];refine Ab c3 ?_;simp only[go_sem,Zq,LZ];unfold PR at h3
     split at h3
     .rename_i x r hx;obtain⟨rfl,h3⟩:=h3;have qf:=Df x;have hr:=A0 x;rw[hr]at c4 qf;rw[hx];simp only;refine Ab c4 ?_;by_cases qg:Ar [93] r=true
      .rw[<-h3]at qg;have c5:=I7 qc [.row [iV 0,iV 0,.str [],.nils] 66 0 0,.row [iV x.op,iV x.n,.str x.nm,SL x.z x.t (x.l.map Xp.row)] 66 0 0] hl qg;rw[<-h3,if_pos qg];simp only[go_sem,Zq,LZ];refine Ab c5 ?_;simp only[go_sem,Zq,LZ];exact B6 (v:=.tup [.agg _,.bool true]) (B7 (n0 _ _ _) rfl rfl rfl) (Cq (by simp only[go_sem])) (Dt qg) ⟨by rw[A0 ⟨3,0,_,_,_,_⟩];simp only[Bb,By,hr];rfl,Dz⟩
      .have qg:Ar [93] (A.drop q)=false:=by rw[h3];simpa using qg
       have c5:=H6 qc [.row [iV 0,iV 0,.str [],.nils] 66 0 0,.row [iV x.op,iV x.n,.str x.nm,SL x.z x.t (x.l.map Xp.row)] 66 0 0] hl qd qg;rw[<-h3,if_neg (by rw[qg];decide)];simp only[go_sem,Zq,LZ];refine Ab c5 ?_;simp only[go_sem,Zq,LZ];exact B6 (v:=.tup [.agg _,.bool false]) (B7 (n0 _ _ _) rfl rfl rfl) (Cq rfl) qd rfl
     .rename_i hx;subst h3;rw[hx];simp only;refine Ab c4 ?_;simp only[go_sem,Zq,LZ];exact B6 (v:=.tup [.agg _,.bool false]) (B7 (n0 _ _ _) rfl rfl rfl) (Cq rfl) qd rfl
    .have qj:Ar [91] (A.drop (p+1))=false:=by simpa using qj
     have c3:=H6 qc [.row [iV 0,iV 0,.str [],.nils] 66 0 0] hl (Gw qe) qj;have ho:pp (k+1) (A.drop p)=some (⟨2,0,(Aa A p).text,true,0,[]⟩,A.drop (p+1)):=by rw[hd,pp,if_neg h2,if_pos h1,if_neg (by rw[qj];decide)]
     rw[ho];simp only[go_sem,Zq,LZ];refine Ab c1 ?_;simp only[go_sem,Zq,LZ];refine Ab c2 ?_;simp only[go_sem,Zq,LZ];refine Ab c3 ?_;simp only[go_sem,Zq,LZ];exact B6 (v:=.tup [.agg _,.bool true]) (B7 (n0 _ _ _) rfl rfl rfl) (Cq rfl) qe ⟨rfl,rfl⟩
   .have hn:C3 (A.drop p)=none:=by rw[hd];simp only[C3];rw[if_neg h1]
    have c2:=Xm qc [.row [iV 0,iV 0,.str [],.nils] 66 0 0] hl hp hn;by_cases qi:Ar [40] (A.drop p)=true
    .have c3:=I7 qc [.row [iV 0,iV 0,.str [],.nils] 66 0 0] hl qi;obtain⟨v,q,c4,qd,h3⟩:=Mx qc (l:=[.row [iV 0,iV 0,.str [],.nils] 66 0 0]) fun hs=>Qs (hE k (by omega)) (p:=p+1) hA hs (by omega) (by omega)
     have ho:pp (k+1) (A.drop p)=match pe k 1 (A.drop (p+1)) with
       | none=>none
       | some (x,r)=>if Ar [41] r then some (x,r.tail) else none:=by
      rw[hd]at qi ⊢;rw[pp,if_neg h2,if_neg h1,if_pos qi];rfl
     rw[ho];simp only[go_sem,Zq,LZ];refine Ab c1 ?_;simp only[go_sem,Zq,LZ];refine Ab c2 ?_;simp only[go_sem,Zq,LZ];refine Ab c3 ?_;simp only[go_sem,Zq,LZ];unfold PR at h3
     split at h3
     .rename_i x r hx;obtain⟨rfl,h3⟩:=h3;have qf:=Df x;have hr:=A0 x;rw[hr]at c4 qf;rw[hx];simp only;refine Ab c4 ?_;by_cases qg:Ar [41] r=true
      .rw[<-h3]at qg;have c5:=I7 qc [.row [iV 0,iV 0,.str [],.nils] 66 0 0,.row [iV x.op,iV x.n,.str x.nm,SL x.z x.t (x.l.map Xp.row)] 66 0 0] hl qg;rw[<-h3,if_pos qg];simp only[go_sem,Zq,LZ];refine Ab c5 ?_;simp only[go_sem,Zq,LZ];exact B6 (v:=.tup [.agg _,.bool true]) (B7 (n0 _ _ _) rfl rfl rfl) (Cq qf) (Dt qg) ⟨by rw[hr],Dz⟩
      .have qg:Ar [41] (A.drop q)=false:=by rw[h3];simpa using qg
       have c5:=H6 qc [.row [iV 0,iV 0,.str [],.nils] 66 0 0,.row [iV x.op,iV x.n,.str x.nm,SL x.z x.t (x.l.map Xp.row)] 66 0 0] hl qd qg;rw[<-h3,if_neg (by rw[qg];decide)];simp only[go_sem,Zq,LZ];refine Ab c5 ?_;simp only[go_sem,Zq,LZ];exact B6 (v:=.tup [.agg _,.bool false]) (B7 (n0 _ _ _) rfl rfl rfl) (Cq rfl) qd rfl
     .rename_i hx;subst h3;rw[hx];simp only;refine Ab c4 ?_;simp only[go_sem,Zq,LZ];exact B6 (v:=.tup [.agg _,.bool false]) (B7 (n0 _ _ _) rfl rfl rfl) (Cq rfl) qd rfl
    .have qi:Ar [40] (A.drop p)=false:=by simpa using qi
     have c3:=H6 qc [.row [iV 0,iV 0,.str [],.nils] 66 0 0] hl hp qi
     have ho:pp (k+1) (A.drop p)=none:=by
      rw[hd]at qi ⊢;rw[pp,if_neg h2,if_neg h1,if_neg (by rw[qi];decide)]
     rw[ho];simp only[go_sem,Zq,LZ];refine Ab c1 ?_;simp only[go_sem,Zq,LZ];refine Ab c2 ?_;simp only[go_sem,Zq,LZ];refine Ab c3 ?_;simp only[go_sem,Zq,LZ];exact B6 (v:=.tup [.agg _,.bool false]) (B7 (n0 _ _ _) rfl rfl rfl) (Cq rfl) hp rfl
 .have hd:=(Ir qS).1
  have ho:pp n (A.drop p)=none:=by
   rw[hd]
   cases n<;>simp[pp]
  rw[ho];have c1:=Apv qc [.row [iV 0,iV 0,.str [],.nils] 66 0 0] hA hp (by rw[hd];rfl);have c2:=Xm qc [.row [iV 0,iV 0,.str [],.nils] 66 0 0] hl hp (by rw[hd];rfl);have c3:=H6 qc [.row [iV 0,iV 0,.str [],.nils] 66 0 0] hl hp (w:=[40]) (by rw[hd];rfl);simp only[go_sem,Zq,LZ];refine Ab c1 ?_;simp only[go_sem,Zq,LZ];refine Ab c2 ?_;simp only[go_sem,Zq,LZ];refine Ab c3 ?_;simp only[go_sem,Zq,LZ];exact B6 (v:=.tup [.agg _,.bool false]) (B7 (n0 _ _ _) rfl rfl rfl) (Cq rfl) hp rfl
def Az8{n:Nat}(hU:∀ k,k<n->PU k)(hP:∀ k,k<=n->PP k):PU n:=by
 intro s m z t A p hA hs hp hb;refine Jd T176 rfl hs fun S hS=>?_
 have hl:A.length<=1000000:=by have:=hA.len;omega
 have qc:=hS;have hm:=hS.low;have Zq:=Dc hS;obtain⟨-,-,qb,get,get0,set,set0,n0,n1,n2,u0,u1,u2⟩:=hS
 have prim:∀ k,8*(A.length - p)<=k+1->k<=n->Ar [45] (A.drop p)=false->Ar [33] (A.drop p)=false->pu n (A.drop p)=pp k (A.drop p)->W TT PT [.c af176.body] (C6 0 [.ptr m 0 0]) (S p) (Hd fun e' σ1=>∃ v p' l,Cd e' σ1 [.cell 2 4 false,.tmp 3]=some v/\(Ch v=true/\v.refs=[])/\σ1=S p'++l/\p'<=A.length/\PR A (pu n (A.drop p)) v p'):=by
  intro k hk qt h4 h5 ho;have qq:=H6 qc [.row [iV 0,iV 0,.str [],.nils] 66 0 0] hl hp h4;have qO:=H6 qc [.row [iV 0,iV 0,.str [],.nils] 66 0 0] hl hp h5;obtain⟨v,q,c4,qd,h3⟩:=Mx qc (l:=[.row [iV 0,iV 0,.str [],.nils] 66 0 0]) fun hs=>hP k qt _ m z t A p hA hs hp hk
  rw[ho];unfold af176;simp only[go_sem,Zq,LZ];refine Ab qq ?_;simp only[go_sem,Zq,LZ];refine Ab qO ?_;simp only[go_sem,Zq,LZ];unfold PR at h3 ⊢
  split at h3
  .rename_i x r hx;obtain⟨rfl,h3⟩:=h3;have qf:=Df x;have hr:=A0 x;rw[hr]at c4 qf;rw[hr];refine Ab c4 ?_;simp only[go_sem,Zq,LZ];exact B6 (v:=.tup [.agg _,.bool true]) (B7 (n0 _ _ _) rfl rfl rfl) (Cq qf) qd ⟨rfl,h3⟩
  .rename_i hx;subst h3;refine Ab c4 ?_;simp only[go_sem,Zq,LZ];exact B6 (v:=.tup [.agg _,.bool false]) (B7 (n0 _ _ _) rfl rfl rfl) (Cq rfl) qd rfl
 rcases n with _ | k
 .have hd:=(Ir (A:=A) (p:=p) (by omega)).1;refine prim 0 (by omega) (Ah _) (by rw[hd];rfl) (by rw[hd];rfl) ?_;rw[hd];simp[pu,pp]
 .by_cases h4:Ar [45] (A.drop p)=true
  .have qe:=Dt h4;have cA:=I7 qc [.row [iV 0,iV 0,.str [],.nils] 66 0 0] hl h4;obtain⟨v,q,c4,qd,h3⟩:=Mx qc (l:=[.row [iV 0,iV 0,.str [],.nils] 66 0 0]) fun hs=>hU k (by omega) _ m z t A (p+1) hA hs (by omega) (by omega)
   have ho:pu (k+1) (A.drop p)=match pu k (A.drop (p+1)) with
     | none=>none
     | some (x,r)=>some (Nd 4 x,r):=by
    rw[pu,if_pos h4,<-Dz];rfl
   rw[ho];simp only[go_sem,Zq,LZ];refine Ab cA ?_;simp only[go_sem,Zq,LZ];unfold PR at h3
   split at h3
   .rename_i x r hx;obtain⟨rfl,h3⟩:=h3;have qf:=Df x;have hr:=A0 x;rw[hr]at c4 qf;rw[hx];simp only;refine Ab c4 ?_;simp only[go_sem,Zq,LZ];exact B6 (v:=.tup [.agg _,.bool true]) (B7 (n0 _ _ _) rfl rfl rfl) (Cq (by simp only[go_sem])) qd ⟨by unfold Nd;rw[A0 ⟨4,0,_,_,_,_⟩];simp only[Bb,By,hr];rfl,h3⟩
   .rename_i hx;subst h3;rw[hx];simp only;refine Ab c4 ?_;simp only[go_sem,Zq,LZ];exact B6 (v:=.tup [.agg _,.bool false]) (B7 (n0 _ _ _) rfl rfl rfl) (Cq rfl) qd rfl
  .have h4:Ar [45] (A.drop p)=false:=by simpa using h4
   have qq:=H6 qc [.row [iV 0,iV 0,.str [],.nils] 66 0 0] hl hp h4;by_cases h5:Ar [33] (A.drop p)=true
   .have qe:=Dt h5;have cA:=I7 qc [.row [iV 0,iV 0,.str [],.nils] 66 0 0] hl h5;obtain⟨v,q,c4,qd,h3⟩:=Mx qc (l:=[.row [iV 0,iV 0,.str [],.nils] 66 0 0]) fun hs=>hU k (by omega) _ m z t A (p+1) hA hs (by omega) (by omega)
    have ho:pu (k+1) (A.drop p)=match pu k (A.drop (p+1)) with
      | none=>none
      | some (x,r)=>some (Nd 5 x,r):=by
     rw[pu,if_neg (by rw[h4];decide),if_pos h5,<-Dz];rfl
    rw[ho];simp only[go_sem,Zq,LZ];refine Ab qq ?_;simp only[go_sem,Zq,LZ];refine Ab cA ?_;simp only[go_sem,Zq,LZ];unfold PR at h3
    split at h3
    .rename_i x r hx;obtain⟨rfl,h3⟩:=h3;have qf:=Df x;have hr:=A0 x;rw[hr]at c4 qf;rw[hx];simp only;refine Ab c4 ?_;simp only[go_sem,Zq,LZ];exact B6 (v:=.tup [.agg _,.bool true]) (B7 (n0 _ _ _) rfl rfl rfl) (Cq (by simp only[go_sem])) qd ⟨by unfold Nd;rw[A0 ⟨5,0,_,_,_,_⟩];simp only[Bb,By,hr];rfl,h3⟩
    .rename_i hx;subst h3;rw[hx];simp only;refine Ab c4 ?_;simp only[go_sem,Zq,LZ];exact B6 (v:=.tup [.agg _,.bool false]) (B7 (n0 _ _ _) rfl rfl rfl) (Cq rfl) qd rfl
   .have h5:Ar [33] (A.drop p)=false:=by simpa using h5
    exact prim k hb (by omega) h4 h5 (by rw[pu,if_neg (by rw[h4];decide),if_neg (by rw[h5];decide)])
def Az9{n:Nat}(hE:∀ k,k<n->PE k)(hU:∀ k,k<n->PU k):PE n:=by
 intro qa s m z t A p hA hs hp h1 h6 hb;obtain⟨n,rfl⟩:∃ k,n=k+1:=⟨n - 1,by omega⟩;refine Jd T166 rfl hs fun S hS=>?_
 have hl:A.length<=1000000:=by have:=hA.len;omega
 have qc:=hS;have hm:=hS.low;have Zq:=Dc hS;obtain⟨-,-,qb,get,get0,set,set0,n0,n1,n2,u0,u1,u2⟩:=hS;by_cases h5:5<qa
 .have f5:((5:Int)<(qa:Int))=True:=eq_true (by omega);have ho:pe (n+1) qa (A.drop p)=pu n (A.drop p):=by rw[pe,if_pos h5]
  obtain⟨v,q,c4,qd,h3⟩:=Mx qc (l:=[.row [iV 0,iV 0,.str [],.nils] 66 0 0]) fun hs=>hU n (by omega) _ m z t A p hA hs hp (by omega)
  rw[ho];simp only[go_sem,Zq,LZ,gt_iff_lt,f5];unfold PR at h3 ⊢
  split at h3
  .rename_i x r hx;obtain⟨rfl,h3⟩:=h3;have qf:=Df x;have hr:=A0 x;rw[hr]at c4 qf;rw[hr];refine Ab c4 ?_;simp only[go_sem,Zq,LZ];exact B6 (v:=.tup [.agg _,.bool true]) (B7 (n0 _ _ _) rfl rfl rfl) (Cq qf) qd ⟨rfl,h3⟩
  .rename_i hx;subst h3;refine Ab c4 ?_;simp only[go_sem,Zq,LZ];exact B6 (v:=.tup [.agg _,.bool false]) (B7 (n0 _ _ _) rfl rfl rfl) (Cq rfl) qd rfl
 .have f5:((5:Int)<(qa:Int))=False:=eq_false (by omega);have ql:=Bf (show qa<9223372036854775807 by omega);obtain⟨v,q,c4,qd,h3⟩:=Mx qc (l:=[.row [iV 0,iV 0,.str [],.nils] 66 0 0]) fun hs=>hE n (by omega) (qa+1) _ m z t A p hA hs hp (by omega) (by omega) (by omega)
  have ho:pe (n+1) qa (A.drop p)=match pe n (qa+1) (A.drop p) with
    | none=>none
    | some (x,r)=>lp n qa x r:=by
   rw[pe,if_neg h5];rfl
  rw[ho];simp only[go_sem,Zq,LZ,gt_iff_lt,f5,ql];unfold PR at h3
  split at h3
  rotate_left
  .rename_i hx;subst h3;rw[hx];simp only;refine Ab c4 ?_;simp only[go_sem,Zq,LZ];exact B6 (v:=.tup [.agg _,.bool false]) (B7 (n0 _ _ _) rfl rfl rfl) (Cq rfl) qd rfl
  .rename_i x r hx;obtain⟨rfl,h3⟩:=h3;have qf:=Df x;have hr:=A0 x;rw[hr]at c4 qf;rw[hx];simp only;have qe:=(Ug n).1 _ _ _ _ hx;rw[Dn]at qe;have qY:r.length=A.length - q:=by rw[<-h3,Dn]
   refine Ab c4 ?_;simp only[go_sem,Zq,LZ];refine Bv (α:=Nat × Nat × Xp × St) (fun a=>a.1) (fun a=>[(0,.ptr m 0 0),(1,iV (qa:Int)),(4,.ptr s.length 0 0),(6,.ptr (s.length+1) 0 0)]) (fun a=>S a.2.1++.row [iV 0,iV 0,.str [],.nils] 66 0 0::.row [iV a.2.2.1.op,iV a.2.2.1.n,.str a.2.2.1.nm,SL a.2.2.1.z a.2.2.1.t (a.2.2.1.l.map Xp.row)] 66 0 0::a.2.2.2) (fun a=>a.1<=n/\a.2.1<=A.length/\lp a.1 qa a.2.2.1 (A.drop a.2.1)=lp n qa x r/\8*(A.length - a.2.1)+6<=a.1+qa) ?_ (n,q,x,[]) ⟨Ah _,qd,by rw[h3],by simp only;omega⟩;rintro⟨k,q,x,J⟩ ⟨qt,hq,qo,qR⟩ ih;simp only at qt hq qo qR ih;refine Bw (by delta lp166_0;exact rfl) ?_;rw[<-qo];obtain⟨k,rfl⟩:∃ j,k=j+1:=⟨k - 1,by omega⟩;have qf:=Df x;have hr:=A0 x;rw[hr]at qf;obtain⟨X,hX⟩:∃ X:List V,X=[iV x.op,iV x.n,.str x.nm,SL x.z x.t (x.l.map Xp.row)]:=⟨_,rfl⟩;have co:=Az5 (get q (.row [iV 0,iV 0,.str [],.nils] 66 0 0::.row [iV x.op,iV x.n,.str x.nm,SL x.z x.t (x.l.map Xp.row)] 66 0 0::J)) hl hq qa
   have nJ:∀ (q:Nat) (a b c:Ob),(S q++a::b::(J++[c]))[s.length+(J.length+1+1)]?=some c:=fun q a b c=>by
    rw[Cj (by rw[qb];omega),qb,show s.length+(J.length+1+1) - s.length=J.length+1+1 by omega,J6,J6,Cj (Ah _),Gc];rfl
   have uJ:∀ (q:Nat) (a b c d:Ob),(S q++a::b::(J++[c])).set (s.length+(J.length+1+1)) d=S q++a::b::(J++[d]):=fun q a b c d=>by
    rw[Ie _ _ (by rw[qb];omega),qb,show s.length+(J.length+1+1) - s.length=J.length+1+1 by omega,Yb,Yb,Ie _ _ (Ah _),Gc];rfl
   by_cases h0:Gu qa (A.drop q)=0
   .have ho:lp (k+1) qa x (A.drop q)=some (x,A.drop q):=by rw[lp,if_pos h0]
    rw[h0]at co;rw[ho];simp only[go_sem,Zq,LZ];refine Ab co ?_;simp only[go_sem,Zq,LZ,Int.reduceBEq];exact B6 (v:=.tup [.agg _,.bool true]) (B7 (n0 _ _ _) rfl rfl rfl) (Cq qf) hq ⟨by rw[hr],rfl⟩
   .have qw:q<A.length:=by
     rcases Br q A.length with h | h
     .exact h
     .rw[(Ir h).1]at h0;exact absurd rfl h0
    have b0:(Gu qa (A.drop q)==0)=false:=by simp[h0]
    have qs:=Bf (show q<9223372036854775807 by omega);obtain⟨v,q2,c4,qd,h3⟩:=Mx qc (p:=q+1) (l:=.row [iV 0,iV 0,.str [],.nils] 66 0 0::.row [iV x.op,iV x.n,.str x.nm,SL x.z x.t (x.l.map Xp.row)] 66 0 0::J) fun hs=>hE k (by omega) (qa+1) _ m z t A (q+1) hA hs qw (by omega) (by omega) (by omega)
    have ho:lp (k+1) qa x (A.drop q)=match pe k (qa+1) (A.drop (q+1)) with
      | none=>none
      | some (y,r)=>if qa=3 then some (J0 (Gu qa (A.drop q)) x y,r) else lp k qa (J0 (Gu qa (A.drop q)) x y) r:=by
     rw[lp,if_neg h0,<-Dz];rfl
    generalize Gu qa (A.drop q)=op at co b0 ho;simp only[go_sem,Zq,LZ];refine Ab co ?_;simp only[go_sem,Zq,LZ,b0,qs,ql];unfold PR at h3
    split at h3
    .rename_i y r2 hy;obtain⟨rfl,h3⟩:=h3;have qW:=Df y;have qy:=A0 y;rw[qy]at c4 qW;rw[hy]at ho;simp only at ho;have qm:=(Ug k).1 _ _ _ _ hy;rw[Dn]at qm;have qT:r2.length=A.length - q2:=by rw[<-h3,Dn]
     refine Ab c4 ?_
     have qC:Xp.row (J0 op x y)=[iV op,iV 0,.str [],.lst 1 [[iV x.op,iV x.n,.str x.nm,SL x.z x.t (x.l.map Xp.row)],[iV y.op,iV y.n,.str y.nm,SL y.z y.t (y.l.map Xp.row)]]]:=by
      unfold J0;rw[A0 ⟨op,0,_,_,_,_⟩];simp only[Bb,By,hr,qy];rfl
     have qD:=Df (J0 op x y);rw[qC]at qD;by_cases qu:qa=3
     .have b3:((qa:Int)==3)=true:=by rw[qu];rfl
      rw[if_pos qu]at ho;rw[ho];simp only[go_sem,Zq,LZ,nJ,uJ,b3];exact B6 (v:=.tup [.agg _,.bool true]) (B7 (n0 _ _ _) rfl rfl rfl) (Cq qD) qd ⟨by rw[qC],h3⟩
     .have b3:((qa:Int)==3)=false:=by rw[beq_eq_false_iff_ne];omega
      rw[if_neg qu]at ho;rw[ho];simp only[go_sem,Zq,LZ,nJ,uJ,b3];have:=ih (k,q2,J0 op x y,J++[.row [iV y.op,iV y.n,.str y.nm,SL y.z y.t (y.l.map Xp.row)] 66 0 0]) (by simp) ⟨by simp only;omega,qd,by simp only;rw[h3,<-qo,ho],by simp only;omega⟩;have e:lp k qa (J0 op x y) r2=_:=ho.symm.trans qo;rw[e];simp only[J0,Bb,By,hr,qy]at this;exact this
    .rename_i hy;subst h3;rw[hy]at ho;simp only at ho;rw[ho];refine Ab c4 ?_;simp only[go_sem,Zq,LZ,nJ,uJ];exact B6 (v:=.tup [.agg _,.bool false]) (B7 (n0 _ _ _) rfl rfl rfl) (Cq rfl) qd rfl
def Vn:∀ n,PE n/\PU n:=by
 intro n
 induction n using Nat.strongRecOn with
 | ind n ih=>
  exact⟨Az9 (fun k hk=>(ih k hk).1) (fun k hk=>(ih k hk).2),Az8 (fun k hk=>(ih k hk).2) (fun k hk=>Az7 fun j hj=>(ih j (by omega)).1)⟩
def V0:∀ (n:Nat) (ln:Int) (l:List UInt8) (ts:List Tk),D3 n ln l=some ts->∀ t∈ts,t.kind=2->Lib.parseIntB 64 t.text=.ok (H9 t.text)/\t.text.length<=l.length
 | n,ln,[],ts,h=>by
  have:D3 n ln []=some []:=by cases n<;>rfl
  rw[this]at h;cases h;intro t ht;cases ht
 | 0,ln,c::r,ts,h=>by cases h
 | n+1,ln,c::r,ts,h=>by
  rw[D3]at h
  have up:∀ {l':List UInt8} {ts':List Tk},l'.length<=(c::r).length->(∀ t∈ts',t.kind=2->Lib.parseIntB 64 t.text=.ok (H9 t.text)/\t.text.length<=l'.length)->∀ t∈ts',t.kind=2->Lib.parseIntB 64 t.text=.ok (H9 t.text)/\t.text.length<=(c::r).length:=
   fun hl h t ht hk=>⟨(h t ht hk).1,Cv (h t ht hk).2 hl⟩
  split at h
  .exact up (by simp) (V0 n _ _ _ h)
  .split at h
   .exact up (by simp) (V0 n _ _ _ h)
   .split at h
    .exact up (Wi _ _) (V0 n _ _ _ h)
    .split at h
     .cases h
     .rename_i k w hf;simp only[Bm]at h;obtain⟨l,hl,rfl⟩:=h;intro t ht;rcases Bj.1 ht with rfl | ht
      .intro qG;simp only at qG;subst qG;obtain⟨-,q,hq⟩:=Yx hf;have qV:w.length<=(c::r).length:=by rw[hq];simp
       refine⟨?_,qV⟩;rw[Sm]at hf;simp only
       split at hf
       .split at hf
        .cases hf
        .simp only[Ye,Prod.mk.injEq]at hf;obtain⟨hf,-⟩:=hf
         split at hf<;>omega
       .split at hf
        .rename_i hc
         split at hf
         .cases hf
         .split at hf
          .rename_i qH;cases hf
           have hd:Iv (Ea c r):=fun d hd=>by
            rcases Bj.1 hd with rfl | hd
            .exact hc
            .exact Aaq hd
           rw[Ajp hd]at qH;have hv:=of_decide_eq_true qH;have h1:=Ak1 hd hv;have h2:=Aqj hd hv;unfold Ea at hv ⊢;rw[h1,h2]
          .cases hf
        .split at hf
         .cases hf
         .simp only[Ye,Prod.mk.injEq]at hf;omega
      .exact up (by rw[Dn];omega) (V0 n _ _ _ hl) t ht
def Av9{s:List UInt8}{L:List Tk}(hs:s.length<=4096)(h:D3 s.length 1 s=some L):OkA L:=
 ⟨Cv (Sx _ _ _ _ h) hs,fun t ht hk=>by
  obtain⟨h1,h2⟩:=V0 _ _ _ _ h t ht hk
  exact⟨h1,Cv h2 hs⟩⟩
def A0a{s:St}{m:Nat}{z:Bool}{t:Nat}{A:List Tk}{p:Nat}(hs:s[m]?=some (RO z t A p))(hA:A.length<=1000000)(hp:p<=A.length):∃ n:Int,Bt TT PT 29 [.ptr m 0 0] s (iV n) s:=by
 suffices h:RT 29 [] s m z t A (fun v p'=>(∃ n:Int,v=iV n)/\p'=p) by
  obtain⟨v,p',h1,-,⟨n,rfl⟩,rfl⟩:=h;rw[K5 hs]at h1;exact⟨n,h1⟩
 refine Jd T29 rfl hs fun S hS=>?_
 have Zq:=Dc hS;obtain⟨-,-,qb,get,get0,set,set0,n0,n1,n2,u0,u1,u2⟩:=hS;by_cases h0:A.length=0
 .have b0:((A.length:Int)==0)=true:=by rw[h0];rfl
  simp only[go_sem,Zq,LZ,My,b0];exact Wk rfl ⟨rfl,rfl⟩ hp ⟨⟨_,rfl⟩,rfl⟩
 .have b0:((A.length:Int)==0)=false:=by rw[beq_eq_false_iff_ne];omega
  by_cases h1:A.length<=p
  .have f1:((A.length:Int)<=(p:Int))=True:=eq_true (by omega);have e1:IntKind.i64.wrap ((A.length:Int) - 1)=((A.length - 1:Nat):Int):=by rw[C7 (by omega)];omega
   obtain⟨x,hx⟩:∃ x,A[A.length - 1]?=some x:=⟨_,A2 (by omega)⟩;have qn:=Aer hx;simp only[go_sem,Zq,LZ,My,b0,ge_iff_le,f1,e1,qn];exact Wk rfl ⟨rfl,rfl⟩ hp ⟨⟨_,rfl⟩,rfl⟩
  .have f1:((A.length:Int)<=(p:Int))=False:=eq_false (by omega);obtain⟨x,hx⟩:∃ x,A[p]?=some x:=⟨_,A2 (by omega)⟩;have qn:=Aer hx;simp only[go_sem,Zq,LZ,My,b0,ge_iff_le,f1];refine Ag (by kernel_rfl) ?_;simp only[go_sem,Zq,LZ,My,qn];exact Wk rfl ⟨rfl,rfl⟩ hp ⟨⟨_,rfl⟩,rfl⟩
/-! SameExpr -/
/-! the maker -/
def ZB:Nat->Nat
 | 0=>1
 | k+1=>1+4*ZB k
def SB(k:Nat)(x:Sp):Prop:=ShS x/\x.sz<=ZB k/\∀ d,d+k<=100->(x.txt d).length<=1000*ZB k
def W0{k:Nat}:∀ {l:List Sp},(∀ x∈l,SB k x)->Sp.szs l<=l.length*ZB k
 | [],_=>by simp[Sp.szs]
 | x::l,h=>by
  have h1:=W0 (fun y hy=>h y (Dj _ hy));obtain⟨-,h3,-⟩:=h x Dy;rw[Sp.szs,Ak,Mn];omega
def Aas{k d:Nat}:∀ {l:List Sp},(∀ x∈l,SB k x)->d+k<=100->(Sp.txts d l).length<=l.length*(1000*ZB k)
 | [],_,_=>by simp[Sp.txts]
 | x::l,h,hd=>by
  have h1:=Aas (fun y hy=>h y (Dj _ hy)) hd;obtain⟨-,-,h4⟩:=h x Dy;have h4:=h4 d hd;rw[Lo,Aj,Ak,Mn];omega
def A32{s:Sp}(h1:s.nm.length<=4)(h2:s.arg.length<=4)(h3:(Fa s.idx).length<=56)(h4:s.op=1\/s.op=2\/s.op=3\/s.op=14->s.ex.txt.length<=118):(Ck s).length<=300:=by
 have hw:(Cy s.op).length<=11:=by
  unfold Cy
  split<;>simp
 unfold Ck
 repeat' split
 all_goals simp
 all_goals omega
def A7n{k:Nat}{x:Sp}(h1:1<=x.op/\x.op<=15)(h2:x.idx.length<=1)(h3:x.op≠1->x.idx=[])(h4:∀ y∈x.idx,ShE y/\y.txt.length<=54)(h5:(x.op=1\/x.op=2\/x.op=3\/x.op=14)->ShE x.ex/\x.ex.txt.length<=118)(qz:D1 x.op=false->Aoi x.ex)(h6:(Fq x.op=true/\x.nm=[])\/(Fq x.op=false/\Ji x.nm))(h7:(x.op≠15/\x.arg=[])\/(x.op=15/\Ji x.arg))
  (h8:Bu x.op=false->x.body=[]) (qr:x.op≠2->x.els=[]) (h9:Bu x.op=true->k≠0/\x.body.length<=3/\x.els.length<=1/\(∀ y∈x.body,SB (k - 1) y)/\∀ y∈x.els,SB (k - 1) y):SB k x:=by
 have hi:(Fa x.idx).length<=56:=by
  refine Cv (Akv _) ?_
  cases hx:x.idx with
  | nil=>simp
  | cons a r=>
   have:=(h4 a (by rw[hx];exact Dy)).2;simp only;omega
 have l6:x.nm.length<=4:=by
  rcases h6 with⟨-,h⟩ | ⟨-,-,h⟩
  .rw[h];exact Ay _
  .exact h
 have l7:x.arg.length<=4:=by
  rcases h7 with⟨-,h⟩ | ⟨-,-,h⟩
  .rw[h];exact Ay _
  .exact h
 have g1:Fq x.op=true->x.nm=[]:=fun h=>by
  rcases h6 with⟨-,h'⟩ | ⟨h',-⟩
  .exact h'
  .rw[h]at h';cases h'
 have g2:Fq x.op=false->B3 x.nm=true:=fun h=>by
  rcases h6 with⟨h',-⟩ | ⟨-,h',-⟩
  .rw[h]at h';cases h'
  .exact h'
 have g3:x.op=15->B3 x.arg=true:=fun h=>by
  rcases h7 with⟨h',-⟩ | ⟨-,h',-⟩
  .exact absurd h h'
  .exact h'
 have g4:x.op≠15->x.arg=[]:=fun h=>by
  rcases h7 with⟨-,h'⟩ | ⟨h',-⟩
  .exact h'
  .exact absurd h' h
 have g5:D1 x.op=true->ShE x.ex:=fun h=>(h5 (by
  simp only[D1,Hx,beq_iff_eq]at h
  exact h)).1
 have hh:=A32 l6 l7 hi (fun h=>(h5 h).2);cases hb:Bu x.op
 .have qA:=h8 hb
  have qE:x.els=[]:=by
   refine qr fun h=>?_
   rw[h]at hb;cases hb
  have hz:1<=ZB k:=by cases k<;>simp[ZB]
  refine⟨.mk h1 g1 g2 g3 g4 h2 h3 (fun y hy=>(h4 y hy).1) g5 qz h8 qr (by rw[qA];simp) (by rw[qE];simp),?_,fun d hd=>?_⟩
  .rw[K6,qA,qE];simp[Sp.szs];omega
  .rw[Jq,hb];simp only[Aj,Im,Fb,if_false,Ak,C0];omega
 .obtain⟨hk,qB,qF,hB,hE⟩:=h9 hb;obtain⟨k,rfl⟩:∃ j,k=j+1:=⟨k - 1,by omega⟩;rw[Nat.add_sub_cancel]at hB hE;refine⟨.mk h1 g1 g2 g3 g4 h2 h3 (fun y hy=>(h4 y hy).1) g5 qz h8 qr (fun y hy=>(hB y hy).1) (fun y hy=>(hE y hy).1),?_,fun d hd=>?_⟩
  .have h1:=W0 hB;have h2:=W0 hE;have h3:=Fo (ZB k) qB;have h4:=Fo (ZB k) qF;rw[K6,ZB];omega
  .have h1:=Aas (d:=d+1) hB (by omega);have h2:=Aas (d:=d+1) hE (by omega);have h3:=Fo (1000*ZB k) qB;have h4:=Fo (1000*ZB k) qF;rw[Jq,hb]
   have h5:(if x.els.isEmpty=true then [] else D6 d++125::32::101::108::115::101::32::123::10::Sp.txts (d+1) x.els).length<=2*d+9+(Sp.txts (d+1) x.els).length:=by
    split
    .simp
    .simp[Im];omega
   simp only[Aj,Im,if_true,Ak,C0,ZB];omega
