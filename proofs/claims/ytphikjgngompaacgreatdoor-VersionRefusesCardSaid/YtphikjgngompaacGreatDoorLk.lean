/- Walks: the parser's reader. -/
import Derived.Test.YtphikjgngompaacGreatDoorHa
set_option linter.all false
namespace Go.Proofs.YtphikjgngompaacGreatDoor.KM
open Go
def RO(z:Bool)(t:Nat)(A:List Tk)(p:Nat):Ob:=.row [SL z t (A.map Tk.row),iV (p:Int)] 76 0 0
def Ad3(z:Bool)(t:Nat)(A:List Tk)(p:Nat):(RO z t A p).refs=[]:=by
 unfold RO SL
 split<;>rfl
structure RdS (s:St) (m:Nat) (z:Bool) (t:Nat) (A:List Tk) (S:Nat->St):Prop where
 low:m<s.length
 eq:∀ p,S p=s.set m (RO z t A p)
 len:∀ p,(S p).length=s.length
 get:∀ (p:Nat) (l:St),(S p++l)[m]?=some (.row [SL z t (A.map Tk.row),iV (p:Int)] 76 0 0)
 get0:∀ (p:Nat),(S p)[m]?=some (.row [SL z t (A.map Tk.row),iV (p:Int)] 76 0 0)
 set:∀ (p q:Nat) (l:St),(S p++l).set m (.row [SL z t (A.map Tk.row),iV (q:Int)] 76 0 0)=S q++l
 set0:∀ (p q:Nat),(S p).set m (.row [SL z t (A.map Tk.row),iV (q:Int)] 76 0 0)=S q
 n0:∀ (p:Nat) (a:Ob) (l:St),(S p++a::l)[s.length]?=some a
 n1:∀ (p:Nat) (a b:Ob) (l:St),(S p++a::b::l)[s.length+1]?=some b
 n2:∀ (p:Nat) (a b c:Ob) (l:St),(S p++a::b::c::l)[s.length+2]?=some c
 u0:∀ (p:Nat) (a x:Ob) (l:St),(S p++a::l).set s.length x=S p++x::l
 u1:∀ (p:Nat) (a b x:Ob) (l:St),(S p++a::b::l).set (s.length+1) x=S p++a::x::l
 u2:∀ (p:Nat) (a b c x:Ob) (l:St),(S p++a::b::c::l).set (s.length+2) x=S p++a::b::x::l
def Dv{s:St}{m:Nat}{z:Bool}{t:Nat}{A:List Tk}{S:Nat->St}(h:RdS s m z t A S):=And.intro h.len (And.intro h.get (And.intro h.get0 (And.intro h.set (And.intro h.set0 (And.intro h.n0 (And.intro h.n1 (And.intro h.n2 (And.intro h.u0 (And.intro h.u1 (h.u2))))))))))
def Au5{s:St}{m:Nat}(z:Bool)(t:Nat)(A:List Tk)(hm:m<s.length):RdS s m z t A (fun p=>s.set m (RO z t A p)):=by
 have hl:∀ p,(s.set m (RO z t A p)).length=s.length:=fun p=>by simp
 have hs:∀ p q,(s.set m (RO z t A p)).set m (RO z t A q)=s.set m (RO z t A q):=fun p q=>by simp_all
 refine⟨hm,fun _=>rfl,hl,fun p l=>?_,fun p=>?_,fun p q l=>?_,fun p q=>hs p q,fun p a l=>?_,fun p a b l=>?_,fun p a b c l=>?_,fun p a x l=>?_,fun p a b x l=>?_,fun p a b c x l=>?_⟩
 .exact Bt (Cf hm)
 .exact Cf hm
 .rw[Agv _ _ (by grind)];exact congrArg (·++l) (hs p q)
 .grind
 .grind
 .grind
 .simp_all
 .simp_all
 simp_all
def RT(f:Nat)(av:List V)(s:St)(m:Nat)(z:Bool)(t:Nat)(A:List Tk)(R:V->Nat->Prop):Prop:=∃ v p',Bw TT PT f (.ptr m 0 0::av) s v (s.set m (RO z t A p'))/\p'<=A.length/\R v p'
def Lu{z:Bool}{t:Nat}{A:List Tk}{f p m q:Nat}{res:List AR}{thr:Bool}{body:AC}{av:List V}{s:St}{R:V->Nat->Prop}(hT:TT f=some ⟨p,res,thr,body,none⟩)(hl:(V.ptr m 0 0::av).length=p)(hs:s[m]?=some (RO z t A q))
  (h:∀ S,RdS s m z t A S->W TT PT [.c body] (C7 0 (.ptr m 0 0::av)) (S q) (Hd fun e' σ1=>∃ v p' l,Ca e' σ1 res=some v/\(Cd v=true/\v.refs=[])/\σ1=S p'++l/\p'<=A.length/\R v p')):RT f av s m z t A R:=by
 have hm:=(An.1 hs).1;have h:=h _ (Au5 z t A hm);rw[Og hs]at h;obtain⟨e',σ1,hE,v,p',l,hr,⟨h1,h2⟩,rfl,h3,h4⟩:=h;have qK:(s.set m (RO z t A p')++l).take s.length=s.set m (RO z t A p'):=by rw[Agt AE,Ky AE]
 refine⟨v,p',?_,h3,h4⟩
 have:=Ev.fn hT rfl hl hE hr h1 (by rw[h2];rfl) (fun i ob hi ho=>by
  rw[Ex (by grind)]at ho;by_cases hb:m=i
  .subst hb;rw[Cf hm]at ho;cases ho;exact .inr (by rw[Ad3];rfl)
  grind)
 rw[qK]at this;exact⟨_,hT,rfl,this⟩
def Cg{S:Nat->St}{A:List Tk}{R:V->Nat->Prop}{e:Env}{res:List AR}{v:V}{p:Nat}{l:St}(hr:Ca e (S p++l) res=some v)(hv:Cd v=true/\v.refs=[])(hp:p<=A.length)(hR:R v p):
  ∃ v p' l',Ca e (S p++l) res=some v/\(Cd v=true/\v.refs=[])/\S p++l=S p'++l'/\p'<=A.length/\R v p':=⟨v,p,l,hr,hv,rfl,hp,hR⟩
def Zp{S:Nat->St}{A:List Tk}{R:V->Nat->Prop}{e:Env}{res:List AR}{v:V}{p:Nat}(hr:Ca e (S p) res=some v)(hv:Cd v=true/\v.refs=[])(hp:p<=A.length)(hR:R v p):
  ∃ v p' l',Ca e (S p) res=some v/\(Cd v=true/\v.refs=[])/\S p=S p'++l'/\p'<=A.length/\R v p':=⟨v,p,[],hr,hv,(Bz _).symm,hp,hR⟩
def Pn{s:St}{m:Nat}{z:Bool}{t:Nat}{A:List Tk}{S:Nat->St}(hS:RdS s m z t A S){f p:Nat}{av:List V}{l:St}{R:V->Nat->Prop}(h:(S p++l)[m]?=some (RO z t A p)->RT f av (S p++l) m z t A R):∃ v q,Bw TT PT f (.ptr m 0 0::av) (S p++l) v (S q++l)/\q<=A.length/\R v q:=by
 obtain⟨v,q,h1,h2,h3⟩:=h (hS.get p l);have e:(S p++l).set m (RO z t A q)=S q++l:=hS.set p q l
 grind
def Ua{f:Nat}{av:List V}{s:St}{m:Nat}{z:Bool}{t:Nat}{A:List Tk}{w:V}{q:Nat}(h:RT f av s m z t A (fun v p'=>v=w/\p'=q)):Bw TT PT f (.ptr m 0 0::av) s w (s.set m (RO z t A q)):=by
 obtain⟨v,p',h1,-,rfl,rfl⟩:=h;exact h1
def Ch{τ:St}{i x y n t:Nat}{cs:List V}{e:Env}{v:V}(h:τ[i]?=some (.row cs t 0 0))(h1:e.get x=.ptr i 0 0)(hn:cs.length=n)(h2:e.get y=v):Ca e τ [AR.cell x n false,AR.tmp y]=some (.tup [.agg cs,v]):=by
 subst hn h2
 simp_all [Ca,Gr,H3,Ht]
/-! tokens -/
def Ag(A:List Tk)(p:Nat):Tk:=(A[p]?).getD Tk.zero
abbrev tkR (t:Tk):List V:=[iV t.kind,.str t.text,iV t.line]
abbrev Bn (t:Tk):Ob:=.row (tkR t) 121 0 0
def Bhf(w:List UInt8)(A:List Tk)(p:Nat):A0 w (A.drop p)=(((Ag A p).kind==3||(Ag A p).kind==4)&&(Ag A p).text==w):=by
 grind[Ag,List.drop_eq_nil_of_le,A0,Tk.zero,List.drop_eq_getElem_cons]
def Po(A:List Tk):(A.map Tk.row).length=A.length:=Av ..
def Aj0{A:List Tk}{p:Nat}{x:Tk}(h:A[p]?=some x):(A.map Tk.row)[p]?=some [iV x.kind,.str x.text,iV x.line]:=by rw[Ak,h];rfl
def Sh{s:St}{m:Nat}{z:Bool}{t:Nat}{A:List Tk}{p:Nat}(hs:s[m]?=some (RO z t A p))(hA:A.length<=1000000)(hp:p<=A.length):Bw TT PT 62 [.ptr m 0 0] s (.agg (tkR (Ag A p))) s:=by
 suffices h:RT 62 [] s m z t A (fun v p'=>v=.agg (tkR (Ag A p))/\p'=p) by
  have:=Ua h;rw[Og hs]at this;exact this
 refine Lu T62 rfl hs fun S hS=>?_
 have Zq:=Dv hS;obtain⟨-,-,qc,get,get0,set,set0,n0,n1,n2,u0,u1,u2⟩:=hS;unfold Ag;by_cases h:A.length<=p
 .have g:((A.length:Int)<=(p:Int))=True:=eq_true AA;have e:A[p]?=none:=by simpa using h
  simp only[go_sem,Zq,LZ];refine Ad AD ?_;simp only[go_sem,Zq,LZ,Po,ge_iff_le,g];refine Cg (v:=.agg [iV 0,.str [],iV 0]) (Va (n0 _ _ _) rfl rfl) ⟨rfl,rfl⟩ hp ⟨?_,rfl⟩;rw[e];rfl
 .have g:((A.length:Int)<=(p:Int))=False:=eq_false AA;obtain⟨x,hx⟩:∃ x,A[p]?=some x:=⟨_,Cb AA⟩;have qn:=Aj0 hx;simp only[go_sem,Zq,LZ];refine Ad AD ?_;simp only[go_sem,Zq,LZ,Po,ge_iff_le,g];refine Ad AD ?_;simp only[go_sem,Zq,LZ,Po,qn];refine Bd ?_;simp only[go_sem,Zq,LZ];refine Cg (v:=.agg [iV x.kind,.str x.text,iV x.line]) (Va (n0 _ _ _) rfl rfl) ⟨rfl,rfl⟩ hp ⟨?_,rfl⟩
  grind
def Al4{s:St}{m:Nat}{z:Bool}{t:Nat}{A:List Tk}{p:Nat}(hs:s[m]?=some (RO z t A p))(hA:A.length<=1000000)(hp:p<=A.length)(w:List UInt8):Bw TT PT 65 [.ptr m 0 0,.str w] s (.bool (A0 w (A.drop p))) s:=by
 suffices h:RT 65 [.str w] s m z t A (fun v p'=>v=.bool (A0 w (A.drop p))/\p'=p) by
  have:=Ua h;rw[Og hs]at this;exact this
 refine Lu T65 rfl hs fun S hS=>?_
 have hn:=Sh (hS.get0 p) hA hp;have Zq:=Dv hS;obtain⟨-,-,qc,get,get0,set,set0,n0,n1,n2,u0,u1,u2⟩:=hS;rw[Bhf];generalize Ag A p=x at hn;obtain⟨k,tx,ln⟩:=x;simp only at hn ⊢;simp only[go_sem,Zq,LZ];refine Aa hn ?_;simp only[go_sem,Zq,LZ]
 cases h3:(k==3)<;>cases h4:(k==4)<;>cases hw:(tx==w)
 all_goals
  simp only[go_sem,Zq,LZ,h3,h4,hw];exact Cg rfl ⟨rfl,rfl⟩ hp ⟨rfl,rfl⟩
def Eo{A:List Tk}{p:Nat}:A.drop (p+1)=(A.drop p).tail:=by simp_all
def Ek{w:List UInt8}{A:List Tk}{p:Nat}(h:A0 w (A.drop p)=true):p<A.length:=by
 rcases Az p A.length with h' | h'
 .exact h'
 .rw[D4 h']at h;cases h
def Sy{s:St}{m:Nat}{z:Bool}{t:Nat}{A:List Tk}{p:Nat}(hs:s[m]?=some (RO z t A p))(hA:A.length<=1000000){w:List UInt8}(h:A0 w (A.drop p)=true):Bw TT PT 106 [.ptr m 0 0,.str w] s (.bool true) (s.set m (RO z t A (p+1))):=by
 have qf:=Ek h;refine Ua (A:=A) (z:=z) (t:=t) (Lu T106 rfl hs fun S hS=>?_);have ha:=Al4 (hS.get0 p) hA AA w;rw[h]at ha;have qk:=Aw (show p<9223372036854775807 by omega);have Zq:=Dv hS;obtain⟨-,-,qc,get,get0,set,set0,n0,n1,n2,u0,u1,u2⟩:=hS;simp only[go_sem,Zq,LZ];refine Aa ha ?_;simp only[go_sem,Zq,LZ,qk];exact Zp rfl ⟨rfl,rfl⟩ AA ⟨rfl,rfl⟩
def Sz{s:St}{m:Nat}{z:Bool}{t:Nat}{A:List Tk}{p:Nat}(hs:s[m]?=some (RO z t A p))(hA:A.length<=1000000)(hp:p<=A.length){w:List UInt8}(h:A0 w (A.drop p)=false):Bw TT PT 106 [.ptr m 0 0,.str w] s (.bool false) s:=by
 suffices h:Bw TT PT 106 [.ptr m 0 0,.str w] s (.bool false) (s.set m (RO z t A p)) by
  rw[Og hs]at h;exact h
 refine Ua (A:=A) (z:=z) (t:=t) (Lu T106 rfl hs fun S hS=>?_);have ha:=Al4 (hS.get0 p) hA hp w;rw[h]at ha;have Zq:=Dv hS;obtain⟨-,-,qc,get,get0,set,set0,n0,n1,n2,u0,u1,u2⟩:=hS;simp only[go_sem,Zq,LZ];refine Aa ha ?_;simp only[go_sem,Zq,LZ];exact Zp rfl ⟨rfl,rfl⟩ hp ⟨rfl,rfl⟩
/-! the same, in the states of a reader's function -/
def Li{s:St}{m:Nat}{z:Bool}{t:Nat}{A:List Tk}{S:Nat->St}(hS:RdS s m z t A S){p:Nat}(l:St)(hA:A.length<=1000000){w:List UInt8}(h:A0 w (A.drop p)=true):Bw TT PT 106 [.ptr m 0 0,.str w] (S p++l) (.bool true) (S (p+1)++l):=by
 have:=Sy (hS.get p l) hA h;rw[show(S p++l).set m (RO z t A (p+1))=S (p+1)++l from hS.set p (p+1) l]at this;exact this
def J2{s:St}{m:Nat}{z:Bool}{t:Nat}{A:List Tk}{S:Nat->St}(hS:RdS s m z t A S){p:Nat}(l:St)(hA:A.length<=1000000)(hp:p<=A.length){w:List UInt8}(h:A0 w (A.drop p)=false):Bw TT PT 106 [.ptr m 0 0,.str w] (S p++l) (.bool false) (S p++l):=Sz (hS.get p l) hA hp h
theorem Mn{A:List Tk}{p:Nat}(h:p<A.length):A.drop p=Ag A p::A.drop (p+1):=by
 grind[Ag,List.drop_eq_getElem_cons]
def K7{A:List Tk}{p:Nat}(h:A.length<=p):A.drop p=[]/\Ag A p=Tk.zero:=by
 unfold Ag
 simp_all
def Ad4{A:List Tk}{p:Nat}(h:(Ag A p).kind≠0):p<A.length:=by
 rcases Az p A.length with h' | h'
 .exact h'
 .rw[(K7 h').2]at h;exact absurd rfl h
def W8{s:St}{m:Nat}{z:Bool}{t:Nat}{A:List Tk}{p:Nat}(hs:s[m]?=some (RO z t A p))(hA:A.length<=1000000)(hp:p<=A.length):
  (∀ w r,Dg (A.drop p)=some (w,r)->Bw TT PT 103 [.ptr m 0 0] s (.tup [.str w,.bool true]) (s.set m (RO z t A (p+1)))/\p<A.length/\A.drop (p+1)=r)/\(Dg (A.drop p)=none->Bw TT PT 103 [.ptr m 0 0] s (.tup [.str [],.bool false]) s):=by
 have hk:∀ b:Bool,((Ag A p).kind==1)=b->Bw TT PT 103 [.ptr m 0 0] s (.tup [.str (if b then(Ag A p).text else []),.bool b]) (s.set m (RO z t A (if b then p+1 else p))):=fun b hb=>by
  have qf:b=true->p<A.length:=fun h=>Ad4 (by grind)
  refine Ua (A:=A) (z:=z) (t:=t) (Lu T103 rfl hs fun S hS=>?_);have hn:=Sh (hS.get0 p) hA hp;have qh:((Ag A p).kind != 1)=!b:=by rw[bne,hb]
  have Zq:=Dv hS;obtain⟨-,-,qc,get,get0,set,set0,n0,n1,n2,u0,u1,u2⟩:=hS;cases b
  .simp only[go_sem,Zq,LZ];refine Aa hn ?_;simp only[go_sem,Zq,LZ,qh,Bc,Ba];exact Cg rfl ⟨rfl,rfl⟩ hp ⟨rfl,rfl⟩
  .have qk:=Aw (show p<9223372036854775807 by omega);simp only[go_sem,Zq,LZ];refine Aa hn ?_;simp only[go_sem,Zq,LZ,qh,qk,Bc,Ba];exact Cg rfl ⟨rfl,rfl⟩ (qf rfl) ⟨rfl,rfl⟩
 refine⟨fun w r h=>?_,fun h=>?_⟩
 .have qf:p<A.length:=by
   rcases Az p A.length with h' | h'
   .exact h'
   .rw[(K7 h').1]at h;cases h
  rw[Mn qf]at h;simp only[Dg]at h
  grind
 .have hb:((Ag A p).kind==1)=false:=by
   rcases Az p A.length with h' | h'
   .grind[Mn,Dg]
   .rw[(K7 h').2];rfl
  have:=hk false hb;simp only[Hz,if_false]at this;rw[Og hs]at this;exact this
def Ae2{s:St}{m:Nat}{z:Bool}{t:Nat}{A:List Tk}{p:Nat}(hs:s[m]?=some (RO z t A p))(hA:A.length<=1000000)(hp:p<=A.length)(hN:∀ t∈A,t.kind=2->Lib.parseIntB 64 t.text=.ok (J6 t.text)/\t.text.length<=4096):
  (∀ w r,H9 (A.drop p)=some (w,r)->Bw TT PT 147 [.ptr m 0 0] s (.tup [iV w,.bool true]) (s.set m (RO z t A (p+1)))/\p<A.length/\A.drop (p+1)=r)/\(H9 (A.drop p)=none->Bw TT PT 147 [.ptr m 0 0] s (.tup [iV 0,.bool false]) s):=by
 have hk:∀ b:Bool,((Ag A p).kind==2)=b->Bw TT PT 147 [.ptr m 0 0] s (.tup [iV (if b then J6 (Ag A p).text else 0),.bool b]) (s.set m (RO z t A (if b then p+1 else p))):=fun b hb=>by
  have qf:b=true->p<A.length:=fun h=>Ad4 (by grind)
  refine Ua (A:=A) (z:=z) (t:=t) (Lu T147 rfl hs fun S hS=>?_);have hn:=Sh (hS.get0 p) hA hp;have qh:((Ag A p).kind != 2)=!b:=by rw[bne,hb]
  have Zq:=Dv hS;obtain⟨-,-,qc,get,get0,set,set0,n0,n1,n2,u0,u1,u2⟩:=hS;cases b
  .simp only[go_sem,Zq,LZ];refine Aa hn ?_;simp only[go_sem,Zq,LZ,qh,Bc,Ba];exact Cg rfl ⟨rfl,rfl⟩ hp ⟨rfl,rfl⟩
  .have qk:=Aw (show p<9223372036854775807 by omega)
   have qt:Ag A p∈A:=by
    have h:=qf rfl;unfold Ag;rw[Cb h];exact Nw h
   obtain⟨hv,hl⟩:=hN _ qt (by grind)
   have q:Xs [.str (Ag A p).text,iV 10,iV 64]=some (.tup [iV (J6 (Ag A p).text),.nili]):=by
    simp only[Xs];rw[if_pos AA,hv]
   simp only[go_sem,Zq,LZ];refine Aa hn ?_;simp only[go_sem,Zq,LZ,qh,Bc,Ba];refine Fu P177 AB q ?_;simp only[go_sem,Zq,LZ,qk];exact Cg rfl ⟨rfl,rfl⟩ (qf rfl) ⟨rfl,rfl⟩
 refine⟨fun w r h=>?_,fun h=>?_⟩
 .have qf:p<A.length:=by
   rcases Az p A.length with h' | h'
   .exact h'
   .rw[(K7 h').1]at h;cases h
  rw[Mn qf]at h;simp only[H9]at h
  grind
 .have hb:((Ag A p).kind==2)=false:=by
   rcases Az p A.length with h' | h'
   .grind[Mn,H9]
   .rw[(K7 h').2];rfl
  have:=hk false hb;simp only[Hz,if_false]at this;rw[Og hs]at this;exact this
/-! operators -/
def A7w:(opTab.all fun p=>match (Lm (Oz TT PT 300) af246 [.str p.1] []).bind fun q=>Eg q.2 q.1 with
  | some (.tup [.int .i64 a,.int .i64 b])=>a==(Ju p.1).1&&b==(Ju p.1).2
  | _=>false)=true:=by kernel_rfl
def Bhg(w:List UInt8):Fn TT PT 246 [.str w] (.tup [iV (Ju w).1,iV (Ju w).2]):=by
 by_cases hm:∃ p∈opTab,p.1=w
 .obtain⟨p,hp,rfl⟩:=hm;have hr:=Cc.1 A7w p hp
  split at hr
  .rename_i a b hv;simp only[Al,beq_iff_eq]at hr;rw[<-hr.1,<-hr.2];exact R2 Tb T246 rfl rfl hv
  .cases hr
 .have qh:∀ p∈opTab,(w==p.1)=false:=fun p hp=>by
   grind
  have h0:Ju w=(0,0):=by
   unfold Ju
   have:opTab.lookup w=none:=by
    rw[List.lookup_eq_none_iff];exact fun p hp=>by grind
   rw[this];rfl
  rw[h0];simp only[opTab,B7,Qi,or_false,forall_eq_or_imp,forall_eq]at qh;obtain⟨a1,a2,a3,a4,a5,a6,a7,a8,a9,qA,qB,qC,qD⟩:=qh;refine Bg T246 rfl ?_;simp only[go_sem,a1,a2,a3,a4,a5,a6,a7,a8,a9,qA,qB,qC,qD];exact Fq rfl
def Bce{s:St}{m:Nat}{z:Bool}{t:Nat}{A:List Tk}{p:Nat}(hs:s[m]?=some (RO z t A p))(hA:A.length<=1000000)(hp:p<=A.length)(qa:Nat):Bw TT PT 240 [.ptr m 0 0,iV (qa:Int)] s (iV (I5 qa (A.drop p))) s:=by
 suffices h:Bw TT PT 240 [.ptr m 0 0,iV (qa:Int)] s (iV (I5 qa (A.drop p))) (s.set m (RO z t A p)) by
  rw[Og hs]at h;exact h
 have ho:I5 qa (A.drop p)=if(Ag A p).kind=4 then(if(Ju (Ag A p).text).2=(qa:Int) then(Ju (Ag A p).text).1 else 0) else 0:=by
  rcases Az p A.length with h' | h'
  .rw[Mn h'];rfl
  .rw[(K7 h').1,(K7 h').2];rfl
 rw[ho];refine Ua (A:=A) (z:=z) (t:=t) (Lu T240 rfl hs fun S hS=>?_);have hn:=Sh (hS.get0 p) hA hp;have hb:=Bhg (Ag A p).text;generalize Ju (Ag A p).text=o at hb ⊢;obtain⟨o1,o2⟩:=o;simp only at hb ⊢;have Zq:=Dv hS;obtain⟨-,-,qc,get,get0,set,set0,n0,n1,n2,u0,u1,u2⟩:=hS;by_cases h4:(Ag A p).kind=4
 .have g4:((Ag A p).kind != 4)=false:=by simp[h4]
  rw[if_pos h4];by_cases hl:o2=(qa:Int)
  .have gl:(o2 != (qa:Int))=false:=by simp[hl]
   rw[if_pos hl];simp only[go_sem,Zq,LZ];refine Aa hn ?_;simp only[go_sem,Zq,LZ,g4];refine Ab hb AB ?_;simp only[go_sem,Zq,LZ,gl];exact Cg rfl ⟨rfl,rfl⟩ hp ⟨rfl,rfl⟩
  .have gl:(o2 != (qa:Int))=true:=by simp[hl]
   rw[if_neg hl];simp only[go_sem,Zq,LZ];refine Aa hn ?_;simp only[go_sem,Zq,LZ,g4];refine Ab hb AB ?_;simp only[go_sem,Zq,LZ,gl];exact Cg rfl ⟨rfl,rfl⟩ hp ⟨rfl,rfl⟩
 .have g4:((Ag A p).kind != 4)=true:=by simp[h4]
  rw[if_neg h4];simp only[go_sem,Zq,LZ];refine Aa hn ?_;simp only[go_sem,Zq,LZ,g4];exact Cg rfl ⟨rfl,rfl⟩ hp ⟨rfl,rfl⟩
def W9:∀ n,(∀ qa ts x r,pe n qa ts=some (x,r)->r.length<ts.length)/\(∀ qa x0 ts x r,lp n qa x0 ts=some (x,r)->r.length<=ts.length) /\
  (∀ ts x r,pu n ts=some (x,r)->r.length<ts.length)/\(∀ ts x r,pp n ts=some (x,r)->r.length<ts.length)
 | 0=>⟨fun _ _ _ _ h=>by grind[pe],fun _ _ _ _ _ h=>by grind[lp],fun _ _ _ h=>by grind[pu],fun _ _ _ h=>by grind[pp]⟩
 | n+1=>by
  obtain⟨qO,qP,qQ,qR⟩:=W9 n;refine⟨fun qa ts x r h=>?_,fun qa x0 ts x r h=>?_,fun ts x r h=>?_,fun ts x r h=>?_⟩
  .grind[pe]
  .rw[lp]at h
   grind
  .grind[pu]
  .cases ts with
   | nil=>grind[pp]
   | cons t ts=>
    grind[pp]
structure OkA (A:List Tk):Prop where
 len:A.length<=4096
 num:∀ t∈A,t.kind=2->Lib.parseIntB 64 t.text=.ok (J6 t.text)/\t.text.length<=4096
def PR(A:List Tk)(o:Option (Xp × List Tk))(v:V)(p':Nat):Prop:=match o with
 | some (x,r)=>v=.tup [.agg x.row,.bool true]/\A.drop p'=r
 | none=>v=.tup [.agg zX,.bool false]
def PE(n:Nat):Prop:=∀ (qa:Nat) (s:St) (m:Nat) (z:Bool) (t:Nat) (A:List Tk) (p:Nat),OkA A->s[m]?=some (RO z t A p)->p<=A.length->1<=qa->qa<=6->8*(A.length - p)+7<=n+qa ->
 RT 227 [iV (qa:Int)] s m z t A (PR A (pe n qa (A.drop p)))
def PU(n:Nat):Prop:=∀ (s:St) (m:Nat) (z:Bool) (t:Nat) (A:List Tk) (p:Nat),OkA A->s[m]?=some (RO z t A p)->p<=A.length->8*(A.length - p)<=n->RT 239 [] s m z t A (PR A (pu n (A.drop p)))
def PP(n:Nat):Prop:=∀ (s:St) (m:Nat) (z:Bool) (t:Nat) (A:List Tk) (p:Nat),OkA A->s[m]?=some (RO z t A p)->p<=A.length->8*(A.length - p)<=n+1->RT 245 [] s m z t A (PR A (pp n (A.drop p)))
def Cw{cs:List V}{b:Bool}(h:De (.agg cs)=true):Cd (.tup [.agg cs,.bool b])=true/\(V.tup [.agg cs,.bool b]).refs=[]:=by
 have h1:=Zd h;have h2:=Vz h;have qF:cs.all V.cellB=true:=h1;have qG:Ah cs=[]:=h2;refine⟨?_,?_⟩
 .show((cs.all V.cellB)&&_)=true;rw[qF];rfl
 .show Ah cs++_=[];rw[qG];rfl
def Tu{n:Nat}(h:PE n){s:St}{m:Nat}{z:Bool}{t:Nat}{A:List Tk}{p:Nat}(hA:OkA A)(hs:s[m]?=some (RO z t A p))(hp:p<=A.length)(hb:8*(A.length - p)+6<=n):RT 201 [] s m z t A (PR A (pe n 1 (A.drop p))):=by
 refine Lu T201 rfl hs fun S hS=>?_
 obtain⟨v,q,h1,h2,h3⟩:=Pn hS (l:=[zY]) fun hs=>h 1 _ m z t A p hA hs hp AA AA AA
 have hm:=hS.low;have Zq:=Dv hS;obtain⟨-,-,qc,get,get0,set,set0,n0,n1,n2,u0,u1,u2⟩:=hS;rw[Int.natCast_one]at h1;simp only[go_sem,Zq,LZ];unfold PR at h3 ⊢
 split at h3
 .rename_i x r ho;obtain⟨rfl,h3⟩:=h3;have hx:=Dy x;have hr:=Bi x;rw[hr]at h1 hx ⊢;refine Aa h1 ?_;simp only[go_sem,Zq,LZ];exact Cg (v:=.tup [.agg _,.bool true]) (Ch (n0 _ _ _) rfl rfl rfl) (Cw hx) h2 ⟨rfl,h3⟩
 .subst h3;refine Aa h1 ?_;simp only[go_sem,Zq,LZ];exact Cg (v:=.tup [.agg _,.bool false]) (Ch (n0 _ _ _) rfl rfl rfl) (Cw rfl) h2 rfl
def Agh{s:St}{m:Nat}{z:Bool}{t:Nat}{A:List Tk}{S:Nat->St}(hS:RdS s m z t A S){p:Nat}(l:St)(hl:A.length<=1000000)(hp:p<=A.length){w:List UInt8}{r:List Tk}(h:Dg (A.drop p)=some (w,r)):Bw TT PT 103 [.ptr m 0 0] (S p++l) (.tup [.str w,.bool true]) (S (p+1)++l)/\p<A.length/\A.drop (p+1)=r:=by
 obtain⟨h1,h2⟩:=(W8 (hS.get p l) hl hp).1 w r h;rw[show(S p++l).set m (RO z t A (p+1))=S (p+1)++l from hS.set p (p+1) l]at h1
 grind
def Aa3{s:St}{m:Nat}{z:Bool}{t:Nat}{A:List Tk}{S:Nat->St}(hS:RdS s m z t A S){p:Nat}(l:St)(hl:A.length<=1000000)(hp:p<=A.length)(h:Dg (A.drop p)=none):Bw TT PT 103 [.ptr m 0 0] (S p++l) (.tup [.str [],.bool false]) (S p++l):=(W8 (hS.get p l) hl hp).2 h
def Bmx{s:St}{m:Nat}{z:Bool}{t:Nat}{A:List Tk}{S:Nat->St}(hS:RdS s m z t A S){p:Nat}(l:St)(hA:OkA A)(hp:p<=A.length){w:Int}{r:List Tk}(h:H9 (A.drop p)=some (w,r)):Bw TT PT 147 [.ptr m 0 0] (S p++l) (.tup [iV w,.bool true]) (S (p+1)++l)/\p<A.length/\A.drop (p+1)=r:=by
 obtain⟨h1,h2⟩:=(Ae2 (hS.get p l) (by have:=hA.len;omega) hp hA.num).1 w r h;rw[show(S p++l).set m (RO z t A (p+1))=S (p+1)++l from hS.set p (p+1) l]at h1
 grind
def Ayl{s:St}{m:Nat}{z:Bool}{t:Nat}{A:List Tk}{S:Nat->St}(hS:RdS s m z t A S){p:Nat}(l:St)(hA:OkA A)(hp:p<=A.length)(h:H9 (A.drop p)=none):Bw TT PT 147 [.ptr m 0 0] (S p++l) (.tup [iV 0,.bool false]) (S p++l):=(Ae2 (hS.get p l) (by have:=hA.len;omega) hp hA.num).2 h
theorem Bcf{n:Nat}(hE:∀ k,k<n->PE k):PP n:=by
 intro s m z t A p hA hs hp hb;refine Lu T245 rfl hs fun S hS=>?_
 have hl:A.length<=1000000:=by have:=hA.len;omega
 have qb:=hS;have hm:=hS.low;have Zq:=Dv hS;obtain⟨-,-,qc,get,get0,set,set0,n0,n1,n2,u0,u1,u2⟩:=hS;rcases Az p A.length with qf | qI
 .obtain⟨k,rfl⟩:∃ k,n=k+1:=⟨n - 1,by omega⟩;have hd:=Mn qf;by_cases h2:(Ag A p).kind=2
  .have hq:H9 (A.drop p)=some (J6 (Ag A p).text,A.drop (p+1)):=by rw[hd];simp only[H9];rw[if_pos h2]
   obtain⟨c1,-,-⟩:=Bmx qb [zY] hA hp hq;have ho:pp (k+1) (A.drop p)=some (⟨1,J6 (Ag A p).text,[],true,0,[]⟩,A.drop (p+1)):=by rw[hd,pp,if_pos h2]
   rw[ho];simp only[go_sem,Zq,LZ];refine Aa c1 ?_;simp only[go_sem,Zq,LZ];exact Cg (v:=.tup [.agg _,.bool true]) (Ch (n0 _ _ _) rfl rfl rfl) (Cw rfl) qf ⟨rfl,rfl⟩
  .have hq:H9 (A.drop p)=none:=by rw[hd];simp only[H9];rw[if_neg h2]
   have c1:=Ayl qb [zY] hA hp hq;by_cases h1:(Ag A p).kind=1
   .have hn:Dg (A.drop p)=some ((Ag A p).text,A.drop (p+1)):=by rw[hd];simp only[Dg];rw[if_pos h1]
    obtain⟨c2,-,-⟩:=Agh qb [zY] hl hp hn;by_cases qj:A0 [91] (A.drop (p+1))=true
    .have c3:=Li qb [zY] hl qj;have qm:=Ek qj;obtain⟨v,q,c4,qd,h3⟩:=Pn qb (l:=[zY]) fun hs=>Tu (hE k AA) (p:=p+1+1) hA hs AA AA
     have ho:pp (k+1) (A.drop p)=match pe k 1 (A.drop (p+1+1)) with
       | none=>none
       | some (x,r)=>if A0 [93] r then some (⟨3,0,(Ag A p).text,true,1,[x]⟩,r.tail) else none:=by
      rw[hd,pp,if_neg h2,if_pos h1,if_pos qj,<-Eo];rfl
     rw[ho];simp only[go_sem,Zq,LZ];refine Aa c1 ?_;simp only[go_sem,Zq,LZ];refine Aa c2 ?_;simp only[go_sem,Zq,LZ];refine Aa c3 ?_;simp only[go_sem,Zq,LZ];unfold PR at h3
     split at h3
     .rename_i x r hx;obtain⟨rfl,h3⟩:=h3;have qe:=Dy x;have hr:=Bi x;rw[hr]at c4 qe;rw[hx];simp only;refine Aa c4 ?_;by_cases qg:A0 [93] r=true
      .rw[<-h3]at qg;have c5:=Li qb [zY,xO x] hl qg;rw[<-h3,if_pos qg];simp only[go_sem,Zq,LZ];refine Aa c5 ?_;simp only[go_sem,Zq,LZ];exact Cg (v:=.tup [.agg _,.bool true]) (Ch (n0 _ _ _) rfl rfl rfl) (Cw AB) (Ek qg) ⟨by rw[Bi ⟨3,0,_,_,_,_⟩];simp only[Bh,B0,hr];rfl,Eo⟩
      .have qg:A0 [93] (A.drop q)=false:=by rw[h3];simpa using qg
       have c5:=J2 qb [zY,xO x] hl qd qg;rw[<-h3,if_neg (by grind)];simp only[go_sem,Zq,LZ];refine Aa c5 ?_;simp only[go_sem,Zq,LZ];exact Cg (v:=.tup [.agg _,.bool false]) (Ch (n0 _ _ _) rfl rfl rfl) (Cw rfl) qd rfl
     .rename_i hx;subst h3;rw[hx];simp only;refine Aa c4 ?_;simp only[go_sem,Zq,LZ];exact Cg (v:=.tup [.agg _,.bool false]) (Ch (n0 _ _ _) rfl rfl rfl) (Cw rfl) qd rfl
    .have qj:A0 [91] (A.drop (p+1))=false:=by simpa using qj
     have c3:=J2 qb [zY] hl (Is qf) qj;have ho:pp (k+1) (A.drop p)=some (⟨2,0,(Ag A p).text,true,0,[]⟩,A.drop (p+1)):=by rw[hd,pp,if_neg h2,if_pos h1,if_neg AA]
     rw[ho];simp only[go_sem,Zq,LZ];refine Aa c1 ?_;simp only[go_sem,Zq,LZ];refine Aa c2 ?_;simp only[go_sem,Zq,LZ];refine Aa c3 ?_;simp only[go_sem,Zq,LZ];exact Cg (v:=.tup [.agg _,.bool true]) (Ch (n0 _ _ _) rfl rfl rfl) (Cw rfl) qf ⟨rfl,rfl⟩
   .have hn:Dg (A.drop p)=none:=by rw[hd];simp only[Dg];rw[if_neg h1]
    have c2:=Aa3 qb [zY] hl hp hn;by_cases qi:A0 [40] (A.drop p)=true
    .have c3:=Li qb [zY] hl qi;obtain⟨v,q,c4,qd,h3⟩:=Pn qb (l:=[zY]) fun hs=>Tu (hE k AA) (p:=p+1) hA hs AA AA
     have ho:pp (k+1) (A.drop p)=match pe k 1 (A.drop (p+1)) with
       | none=>none
       | some (x,r)=>if A0 [41] r then some (x,r.tail) else none:=by
      rw[hd]at qi ⊢;rw[pp,if_neg h2,if_neg h1,if_pos qi];rfl
     rw[ho];simp only[go_sem,Zq,LZ];refine Aa c1 ?_;simp only[go_sem,Zq,LZ];refine Aa c2 ?_;simp only[go_sem,Zq,LZ];refine Aa c3 ?_;simp only[go_sem,Zq,LZ];unfold PR at h3
     split at h3
     .rename_i x r hx;obtain⟨rfl,h3⟩:=h3;have qe:=Dy x;have hr:=Bi x;rw[hr]at c4 qe;rw[hx];simp only;refine Aa c4 ?_;by_cases qg:A0 [41] r=true
      .rw[<-h3]at qg;have c5:=Li qb [zY,xO x] hl qg;rw[<-h3,if_pos qg];simp only[go_sem,Zq,LZ];refine Aa c5 ?_;simp only[go_sem,Zq,LZ];exact Cg (v:=.tup [.agg _,.bool true]) (Ch (n0 _ _ _) rfl rfl rfl) (Cw qe) (Ek qg) ⟨by rw[hr],Eo⟩
      .have qg:A0 [41] (A.drop q)=false:=by rw[h3];simpa using qg
       have c5:=J2 qb [zY,xO x] hl qd qg;rw[<-h3,if_neg (by grind)];simp only[go_sem,Zq,LZ];refine Aa c5 ?_;simp only[go_sem,Zq,LZ];exact Cg (v:=.tup [.agg _,.bool false]) (Ch (n0 _ _ _) rfl rfl rfl) (Cw rfl) qd rfl
     .rename_i hx;subst h3;rw[hx];simp only;refine Aa c4 ?_;simp only[go_sem,Zq,LZ];exact Cg (v:=.tup [.agg _,.bool false]) (Ch (n0 _ _ _) rfl rfl rfl) (Cw rfl) qd rfl
    .have qi:A0 [40] (A.drop p)=false:=by simpa using qi
     have c3:=J2 qb [zY] hl hp qi
     have ho:pp (k+1) (A.drop p)=none:=by
      rw[hd]at qi ⊢;rw[pp,if_neg h2,if_neg h1,if_neg (by grind)]
     rw[ho];simp only[go_sem,Zq,LZ];refine Aa c1 ?_;simp only[go_sem,Zq,LZ];refine Aa c2 ?_;simp only[go_sem,Zq,LZ];refine Aa c3 ?_;simp only[go_sem,Zq,LZ];exact Cg (v:=.tup [.agg _,.bool false]) (Ch (n0 _ _ _) rfl rfl rfl) (Cw rfl) hp rfl
 .have hd:=(K7 qI).1
  have ho:pp n (A.drop p)=none:=by
   rw[hd]
   cases n<;>simp[pp]
  rw[ho];have c1:=Ayl qb [zY] hA hp (by rw[hd];rfl);have c2:=Aa3 qb [zY] hl hp (by rw[hd];rfl);have c3:=J2 qb [zY] hl hp (w:=[40]) (by rw[hd];rfl);simp only[go_sem,Zq,LZ];refine Aa c1 ?_;simp only[go_sem,Zq,LZ];refine Aa c2 ?_;simp only[go_sem,Zq,LZ];refine Aa c3 ?_;simp only[go_sem,Zq,LZ];exact Cg (v:=.tup [.agg _,.bool false]) (Ch (n0 _ _ _) rfl rfl rfl) (Cw rfl) hp rfl
theorem Bcg{n:Nat}(hU:∀ k,k<n->PU k)(hP:∀ k,k<=n->PP k):PU n:=by
 intro s m z t A p hA hs hp hb;refine Lu T239 rfl hs fun S hS=>?_
 have hl:A.length<=1000000:=by have:=hA.len;omega
 have qb:=hS;have hm:=hS.low;have Zq:=Dv hS;obtain⟨-,-,qc,get,get0,set,set0,n0,n1,n2,u0,u1,u2⟩:=hS
 have prim:∀ k,8*(A.length - p)<=k+1->k<=n->A0 [45] (A.drop p)=false->A0 [33] (A.drop p)=false->pu n (A.drop p)=pp k (A.drop p)->W TT PT [.c b239.body] (C7 0 [.ptr m 0 0]) (S p) (Hd fun e' σ1=>∃ v p' l,Ca e' σ1 [.cell 2 4 false,.tmp 3]=some v/\(Cd v=true/\v.refs=[])/\σ1=S p'++l/\p'<=A.length/\PR A (pu n (A.drop p)) v p'):=by
  intro k hk qq h4 h5 ho;have qo:=J2 qb [zY] hl hp h4;have qE:=J2 qb [zY] hl hp h5;obtain⟨v,q,c4,qd,h3⟩:=Pn qb (l:=[zY]) fun hs=>hP k qq _ m z t A p hA hs hp hk
  rw[ho];unfold b239 tX;simp only[go_sem,Zq,LZ];refine Aa qo ?_;simp only[go_sem,Zq,LZ];refine Aa qE ?_;simp only[go_sem,Zq,LZ];unfold PR at h3 ⊢
  split at h3
  .rename_i x r hx;obtain⟨rfl,h3⟩:=h3;have qe:=Dy x;have hr:=Bi x;rw[hr]at c4 qe;rw[hr];refine Aa c4 ?_;simp only[go_sem,Zq,LZ];exact Cg (v:=.tup [.agg _,.bool true]) (Ch (n0 _ _ _) rfl rfl rfl) (Cw qe) qd ⟨rfl,h3⟩
  .rename_i hx;subst h3;refine Aa c4 ?_;simp only[go_sem,Zq,LZ];exact Cg (v:=.tup [.agg _,.bool false]) (Ch (n0 _ _ _) rfl rfl rfl) (Cw rfl) qd rfl
 rcases n with _ | k
 .have hd:=(K7 (A:=A) (p:=p) AA).1;refine prim 0 AA (Am _) (by rw[hd];rfl) (by rw[hd];rfl) ?_
  grind[pu,pp]
 .by_cases h4:A0 [45] (A.drop p)=true
  .have qf:=Ek h4;have cA:=Li qb [zY] hl h4;obtain⟨v,q,c4,qd,h3⟩:=Pn qb (l:=[zY]) fun hs=>hU k AA _ m z t A (p+1) hA hs AA AA
   have ho:pu (k+1) (A.drop p)=match pu k (A.drop (p+1)) with
     | none=>none
     | some (x,r)=>some (Rb 4 x,r):=by
    rw[pu,if_pos h4,<-Eo];rfl
   rw[ho];simp only[go_sem,Zq,LZ];refine Aa cA ?_;simp only[go_sem,Zq,LZ];unfold PR at h3
   split at h3
   .rename_i x r hx;obtain⟨rfl,h3⟩:=h3;have qe:=Dy x;have hr:=Bi x;rw[hr]at c4 qe;rw[hx];simp only;refine Aa c4 ?_;simp only[go_sem,Zq,LZ];exact Cg (v:=.tup [.agg _,.bool true]) (Ch (n0 _ _ _) rfl rfl rfl) (Cw AB) qd ⟨by unfold Rb;rw[Bi ⟨4,0,_,_,_,_⟩];simp only[Bh,B0,hr];rfl,h3⟩
   .rename_i hx;subst h3;rw[hx];simp only;refine Aa c4 ?_;simp only[go_sem,Zq,LZ];exact Cg (v:=.tup [.agg _,.bool false]) (Ch (n0 _ _ _) rfl rfl rfl) (Cw rfl) qd rfl
  .have h4:A0 [45] (A.drop p)=false:=by simpa using h4
   have qo:=J2 qb [zY] hl hp h4;by_cases h5:A0 [33] (A.drop p)=true
   .have qf:=Ek h5;have cA:=Li qb [zY] hl h5;obtain⟨v,q,c4,qd,h3⟩:=Pn qb (l:=[zY]) fun hs=>hU k AA _ m z t A (p+1) hA hs AA AA
    have ho:pu (k+1) (A.drop p)=match pu k (A.drop (p+1)) with
      | none=>none
      | some (x,r)=>some (Rb 5 x,r):=by
     rw[pu,if_neg AA,if_pos h5,<-Eo];rfl
    rw[ho];simp only[go_sem,Zq,LZ];refine Aa qo ?_;simp only[go_sem,Zq,LZ];refine Aa cA ?_;simp only[go_sem,Zq,LZ];unfold PR at h3
    split at h3
    .rename_i x r hx;obtain⟨rfl,h3⟩:=h3;have qe:=Dy x;have hr:=Bi x;rw[hr]at c4 qe;rw[hx];simp only;refine Aa c4 ?_;simp only[go_sem,Zq,LZ];exact Cg (v:=.tup [.agg _,.bool true]) (Ch (n0 _ _ _) rfl rfl rfl) (Cw AB) qd ⟨by unfold Rb;rw[Bi ⟨5,0,_,_,_,_⟩];simp only[Bh,B0,hr];rfl,h3⟩
    .rename_i hx;subst h3;rw[hx];simp only;refine Aa c4 ?_;simp only[go_sem,Zq,LZ];exact Cg (v:=.tup [.agg _,.bool false]) (Ch (n0 _ _ _) rfl rfl rfl) (Cw rfl) qd rfl
   .have h5:A0 [33] (A.drop p)=false:=by simpa using h5
    exact prim k hb AA h4 h5 (by simp_all [pu])
theorem Bch{n:Nat}(hE:∀ k,k<n->PE k)(hU:∀ k,k<n->PU k):PE n:=by
 intro qa s m z t A p hA hs hp h1 h6 hb;obtain⟨n,rfl⟩:∃ k,n=k+1:=⟨n - 1,by omega⟩;refine Lu T227 rfl hs fun S hS=>?_
 have hl:A.length<=1000000:=by have:=hA.len;omega
 have qb:=hS;have hm:=hS.low;have Zq:=Dv hS;obtain⟨-,-,qc,get,get0,set,set0,n0,n1,n2,u0,u1,u2⟩:=hS;by_cases h5:5<qa
 .have f5:((5:Int)<(qa:Int))=True:=eq_true AA;have ho:pe (n+1) qa (A.drop p)=pu n (A.drop p):=by rw[pe,if_pos h5]
  obtain⟨v,q,c4,qd,h3⟩:=Pn qb (l:=[.row [iV 0,iV 0,.str [],.nils] 98 0 0]) fun hs=>hU n AA _ m z t A p hA hs hp AA
  rw[ho];simp only[go_sem,Zq,LZ,gt_iff_lt,f5];unfold PR at h3 ⊢
  split at h3
  .rename_i x r hx;obtain⟨rfl,h3⟩:=h3;have qe:=Dy x;have hr:=Bi x;rw[hr]at c4 qe;rw[hr];refine Aa c4 ?_;simp only[go_sem,Zq,LZ];exact Cg (v:=.tup [.agg _,.bool true]) (Ch (n0 _ _ _) rfl rfl rfl) (Cw qe) qd ⟨rfl,h3⟩
  .rename_i hx;subst h3;refine Aa c4 ?_;simp only[go_sem,Zq,LZ];exact Cg (v:=.tup [.agg _,.bool false]) (Ch (n0 _ _ _) rfl rfl rfl) (Cw rfl) qd rfl
 .have f5:((5:Int)<(qa:Int))=False:=eq_false AA;have ql:=Aw (show qa<9223372036854775807 by omega);obtain⟨v,q,c4,qd,h3⟩:=Pn qb (l:=[.row [iV 0,iV 0,.str [],.nils] 98 0 0]) fun hs=>hE n AA (qa+1) _ m z t A p hA hs hp AA AA AA
  have ho:pe (n+1) qa (A.drop p)=match pe n (qa+1) (A.drop p) with
    | none=>none
    | some (x,r)=>lp n qa x r:=by
   rw[pe,if_neg h5];rfl
  rw[ho];simp only[go_sem,Zq,LZ,gt_iff_lt,f5,ql];unfold PR at h3
  split at h3
  rotate_left
  .rename_i hx;subst h3;rw[hx];simp only;refine Aa c4 ?_;simp only[go_sem,Zq,LZ];exact Cg (v:=.tup [.agg _,.bool false]) (Ch (n0 _ _ _) rfl rfl rfl) (Cw rfl) qd rfl
  .rename_i x r hx;obtain⟨rfl,h3⟩:=h3;have qe:=Dy x;have hr:=Bi x;rw[hr]at c4 qe;rw[hx];simp only;have qf:=(W9 n).1 _ _ _ _ hx;rw[Gi]at qf;have qN:r.length=A.length - q:=by rw[<-h3,Gi]
   refine Aa c4 ?_;simp only[go_sem,Zq,LZ];refine Bb (α:=Nat × Nat × Xp × St) (fun a=>a.1) (fun a=>[(0,.ptr m 0 0),(1,iV (qa:Int)),(4,.ptr s.length 0 0),(6,.ptr (s.length+1) 0 0)]) (fun a=>S a.2.1++.row [iV 0,iV 0,.str [],.nils] 98 0 0::.row [iV a.2.2.1.op,iV a.2.2.1.n,.str a.2.2.1.nm,SL a.2.2.1.z a.2.2.1.t (a.2.2.1.l.map Xp.row)] 98 0 0::a.2.2.2) (fun a=>a.1<=n/\a.2.1<=A.length/\lp a.1 qa a.2.2.1 (A.drop a.2.1)=lp n qa x r/\8*(A.length - a.2.1)+6<=a.1+qa) ?_ (n,q,x,[]) ⟨Am _,qd,by rw[h3],by grind⟩;rintro⟨k,q,x,J⟩ ⟨qq,hq,qs,qH⟩ ih;simp only at qq hq qs qH ih;refine Ay Bgg ?_;rw[<-qs];obtain⟨k,rfl⟩:∃ j,k=j+1:=⟨k - 1,by omega⟩;have qe:=Dy x;have hr:=Bi x;rw[hr]at qe;obtain⟨X,hX⟩:∃ X:List V,X=[iV x.op,iV x.n,.str x.nm,SL x.z x.t (x.l.map Xp.row)]:=⟨_,rfl⟩;have co:=Bce (get q (.row [iV 0,iV 0,.str [],.nils] 98 0 0::.row [iV x.op,iV x.n,.str x.nm,SL x.z x.t (x.l.map Xp.row)] 98 0 0::J)) hl hq qa
   have nJ:∀ (q:Nat) (a b c:Ob),(S q++a::b::(J++[c]))[s.length+(J.length+1+1)]?=some c:=fun q a b c=>by
    rw[Fk (by grind),qc,show s.length+(J.length+1+1) - s.length=J.length+1+1 by omega,O7,O7,Fk (Am _),Iu];rfl
   have uJ:∀ (q:Nat) (a b c d:Ob),(S q++a::b::(J++[c])).set (s.length+(J.length+1+1)) d=S q++a::b::(J++[d]):=fun q a b c d=>by
    rw[List.set_append_right _ _ (by grind),qc,show s.length+(J.length+1+1) - s.length=J.length+1+1 by omega,List.set_cons_succ,List.set_cons_succ,List.set_append_right _ _ (Am _),Iu];rfl
   by_cases h0:I5 qa (A.drop q)=0
   .have ho:lp (k+1) qa x (A.drop q)=some (x,A.drop q):=by rw[lp,if_pos h0]
    rw[h0]at co;rw[ho];simp only[go_sem,Zq,LZ];refine Aa co ?_;simp only[go_sem,Zq,LZ,Int.reduceBEq];exact Cg (v:=.tup [.agg _,.bool true]) (Ch (n0 _ _ _) rfl rfl rfl) (Cw qe) hq ⟨by rw[hr],rfl⟩
   .have qu:q<A.length:=by
     rcases Az q A.length with h | h
     .exact h
     .rw[(K7 h).1]at h0;exact absurd rfl h0
    have b0:(I5 qa (A.drop q)==0)=false:=by simp[h0]
    have qp:=Aw (show q<9223372036854775807 by omega);obtain⟨v,q2,c4,qd,h3⟩:=Pn qb (p:=q+1) (l:=.row [iV 0,iV 0,.str [],.nils] 98 0 0::.row [iV x.op,iV x.n,.str x.nm,SL x.z x.t (x.l.map Xp.row)] 98 0 0::J) fun hs=>hE k AA (qa+1) _ m z t A (q+1) hA hs qu AA AA AA
    have ho:lp (k+1) qa x (A.drop q)=match pe k (qa+1) (A.drop (q+1)) with
      | none=>none
      | some (y,r)=>if qa=3 then some (Mp (I5 qa (A.drop q)) x y,r) else lp k qa (Mp (I5 qa (A.drop q)) x y) r:=by
     rw[lp,if_neg h0,<-Eo];rfl
    generalize I5 qa (A.drop q)=op at co b0 ho;simp only[go_sem,Zq,LZ];refine Aa co ?_;simp only[go_sem,Zq,LZ,b0,qp,ql];unfold PR at h3
    split at h3
    .rename_i y r2 hy;obtain⟨rfl,h3⟩:=h3;have qM:=Dy y;have qv:=Bi y;rw[qv]at c4 qM;rw[hy]at ho;simp only at ho;have qm:=(W9 k).1 _ _ _ _ hy;rw[Gi]at qm;have qJ:r2.length=A.length - q2:=by rw[<-h3,Gi]
     refine Aa c4 ?_
     have qw:Xp.row (Mp op x y)=[iV op,iV 0,.str [],.lst 1 [[iV x.op,iV x.n,.str x.nm,SL x.z x.t (x.l.map Xp.row)],[iV y.op,iV y.n,.str y.nm,SL y.z y.t (y.l.map Xp.row)]]]:=by
      unfold Mp;rw[Bi ⟨op,0,_,_,_,_⟩];simp only[Bh,B0,hr,qv];rfl
     have qx:=Dy (Mp op x y);rw[qw]at qx;by_cases qr:qa=3
     .have b3:((qa:Int)==3)=true:=by rw[qr];rfl
      rw[if_pos qr]at ho;rw[ho];simp only[go_sem,Zq,LZ,nJ,uJ,b3];exact Cg (v:=.tup [.agg _,.bool true]) (Ch (n0 _ _ _) rfl rfl rfl) (Cw qx) qd ⟨by rw[qw],h3⟩
     .have b3:((qa:Int)==3)=false:=by rw[beq_eq_false_iff_ne];omega
      rw[if_neg qr]at ho;rw[ho];simp only[go_sem,Zq,LZ,nJ,uJ,b3];have:=ih (k,q2,Mp op x y,J++[.row [iV y.op,iV y.n,.str y.nm,SL y.z y.t (y.l.map Xp.row)] 98 0 0]) AE ⟨by omega,qd,by grind,by grind⟩;have e:lp k qa (Mp op x y) r2=_:=ho.symm.trans qs;rw[e];simp only[Mp,Bh,B0,hr,qv]at this;exact this
    .rename_i hy;subst h3;rw[hy]at ho;simp only at ho;rw[ho];refine Aa c4 ?_;simp only[go_sem,Zq,LZ,nJ,uJ];exact Cg (v:=.tup [.agg _,.bool false]) (Ch (n0 _ _ _) rfl rfl rfl) (Cw rfl) qd rfl
def Yi:∀ n,PE n/\PU n:=by
 intro n
 induction n using Nat.strongRecOn with
 | ind n ih=>
  grind[Bch,Bcg,Bcf]
theorem Y5:∀ (n:Nat) (ln:Int) (l:List UInt8) (ts:List Tk),Er n ln l=some ts->∀ t∈ts,t.kind=2->Lib.parseIntB 64 t.text=.ok (J6 t.text)/\t.text.length<=l.length
 | n,ln,[],ts,h=>by
  grind[Er]
 | 0,ln,c::r,ts,h=>by cases h
 | n+1,ln,c::r,ts,h=>by
  rw[Er]at h
  have up:∀ {l':List UInt8} {ts':List Tk},l'.length<=(c::r).length->(∀ t∈ts',t.kind=2->Lib.parseIntB 64 t.text=.ok (J6 t.text)/\t.text.length<=l'.length)->∀ t∈ts',t.kind=2->Lib.parseIntB 64 t.text=.ok (J6 t.text)/\t.text.length<=(c::r).length:=
   fun hl h t ht hk=>⟨(h t ht hk).1,Dd (h t ht hk).2 hl⟩
  split at h
  .exact up AE (Y5 n _ _ _ h)
  .split at h
   .exact up AE (Y5 n _ _ _ h)
   .split at h
    .exact up (Zj _ _) (Y5 n _ _ _ h)
    .split at h
     .cases h
     .rename_i k w hf;simp only[Ci]at h;obtain⟨l,hl,rfl⟩:=h;intro t ht;rcases B7.1 ht with rfl | ht
      .intro qy;simp only at qy;subst qy;obtain⟨-,q,hq⟩:=Ach hf;have qL:w.length<=(c::r).length:=by rw[hq];simp
       refine⟨?_,qL⟩;rw[V1]at hf;simp only
       split at hf
       .grind
       .split at hf
        .rename_i hc
         split at hf
         .cases hf
         .split at hf
          .rename_i qz;cases hf
           have hd:La (Ez c r):=fun d hd=>by
            rcases B7.1 hd with rfl | hd
            .exact hc
            grind[Aes]
           rw[Ap2 hd]at qz;have hv:=of_decide_eq_true qz
           grind[Ar0,Azm,Ez]
          grind
        grind
      .exact up (by grind) (Y5 n _ _ _ hl) t ht
def A7x{s:List UInt8}{L:List Tk}(hs:s.length<=4096)(h:Er s.length 1 s=some L):OkA L:=
 ⟨Dd (Wc _ _ _ _ h) hs,fun t ht hk=>by
  grind[Y5]⟩
def Bci{s:St}{m:Nat}{z:Bool}{t:Nat}{A:List Tk}{p:Nat}(hs:s[m]?=some (RO z t A p))(hA:A.length<=1000000)(hp:p<=A.length):∃ n:Int,Bw TT PT 34 [.ptr m 0 0] s (iV n) s:=by
 suffices h:RT 34 [] s m z t A (fun v p'=>(∃ n:Int,v=iV n)/\p'=p) by
  obtain⟨v,p',h1,-,⟨n,rfl⟩,rfl⟩:=h
  grind[Og]
 refine Lu T34 rfl hs fun S hS=>?_
 have Zq:=Dv hS;obtain⟨-,-,qc,get,get0,set,set0,n0,n1,n2,u0,u1,u2⟩:=hS;by_cases h0:A.length=0
 .have b0:((A.length:Int)==0)=true:=by rw[h0];rfl
  simp only[go_sem,Zq,LZ,Po,b0];exact Zp rfl ⟨rfl,rfl⟩ hp ⟨⟨_,rfl⟩,rfl⟩
 .have b0:((A.length:Int)==0)=false:=by rw[beq_eq_false_iff_ne];omega
  by_cases h1:A.length<=p
  .have f1:((A.length:Int)<=(p:Int))=True:=eq_true AA;have e1:IntKind.i64.wrap ((A.length:Int) - 1)=((A.length - 1:Nat):Int):=by rw[Bo AA];omega
   obtain⟨x,hx⟩:∃ x,A[A.length - 1]?=some x:=⟨_,Cb AA⟩;have qn:=Aj0 hx;simp only[go_sem,Zq,LZ,Po,b0,ge_iff_le,f1,e1,qn];exact Zp rfl ⟨rfl,rfl⟩ hp ⟨⟨_,rfl⟩,rfl⟩
  .have f1:((A.length:Int)<=(p:Int))=False:=eq_false AA;obtain⟨x,hx⟩:∃ x,A[p]?=some x:=⟨_,Cb AA⟩;have qn:=Aj0 hx;simp only[go_sem,Zq,LZ,Po,b0,ge_iff_le,f1];refine Ad AD ?_;simp only[go_sem,Zq,LZ,Po,qn];exact Zp rfl ⟨rfl,rfl⟩ hp ⟨⟨_,rfl⟩,rfl⟩
/-! SameExpr -/
/-! the maker -/
