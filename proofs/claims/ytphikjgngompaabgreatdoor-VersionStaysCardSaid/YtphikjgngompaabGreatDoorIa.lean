/- Lists that grow and shrink at their end; what a struct and its lists may change. -/
import Derived.Test.YtphikjgngompaabGreatDoorA5
import Derived.Test.YtphikjgngompaabGreatDoorRows
import Derived.DataReads
import Derived.Test.YtphikjgngompaabGreatDoorShelf
import Derived.Lib.UnsafeStr
import Derived.Lib.ItoaLen
import Derived.Lib.Repeat
import Derived.Lib.Split
import Derived.Lib.Join
import Derived.Lib.SlicesCompact
set_option linter.all false
namespace Go.Proofs.YtphikjgngompaabGreatDoor.KM
open Go
def AD{p:Prop}(h:p:=by kernel_rfl):p:=h
def GS(σ:St)(m e:Nat)(u:V)(xs:List (List V)):Prop:=
 ((∀ r∈xs,r.length=m)/\∀ r∈xs,r.all V.rowB=true)/\((u=.nils/\xs=[])\/∃ i g r q,u=.sl i g 0 xs.length m true/\σ[i]?=some (.row (xs.flatten++r) e g 0)/\r.length=q*m/\r.all V.rowB=true)
def Abd{σ:St}{m e:Nat}:GS σ m e .nils []:=⟨⟨by simp,by simp⟩,.inl ⟨rfl,rfl⟩⟩
theorem Kz{σ:St}{m e:Nat}{u:V}{xs:List (List V)}(h:GS σ m e u xs):u.cellB=true:=by
 rcases h.2 with⟨rfl,-⟩ | ⟨i,g,r,q,rfl,-⟩<;>rfl
def Abe{σ:St}{m e:Nat}{u:V}{xs:List (List V)}(h:GS σ m e u xs):Nh u=some (.int .i64 (xs.length:Int)):=by
 rcases h.2 with⟨rfl,rfl⟩ | ⟨i,g,r,q,rfl,-⟩<;>rfl
theorem Cz{σ:St}{m e:Nat}{u:V}{xs:List (List V)}(h:GS σ m e u xs):∀ i∈u.refs,i<σ.length:=by
 rcases h.2 with⟨rfl,rfl⟩ | ⟨i,g,r,q,rfl,ho,-⟩
 .grind[V.refs]
 grind[V.refs]
def Ig{σ τ:St}{m e:Nat}{u:V}{xs:List (List V)}(h:GS σ m e u xs)(hk:∀ i∈u.refs,τ[i]?=σ[i]?):GS τ m e u xs:=by
 refine⟨h.1,?_⟩;rcases h.2 with h2 | ⟨i,g,r,q,rfl,ho,h2⟩
 .grind
 .exact .inr ⟨i,g,r,q,rfl,by grind[V.refs],h2⟩
theorem Zx{cs:List V}(h:cs.all V.rowB=true):Ag cs=[]:=Ft h
def Xt{σ:St}{m e bytes:Nat}{u:V}{xs:List (List V)}{row:List V}(h:GS σ m e u xs)(hm:0<m)(qH:row.length=m)(qt:row.all V.rowB=true)(hb:(xs.length+1)*bytes<=140737488355328):
  ∃ u' σ',Dt bytes (m,e) u (.lst 1 [row]) σ=some (u',σ')/\GS σ' m e u' (xs++[row])/\σ.length<=σ'.length/\(∀ j,j<σ.length->j ∉ u.refs->σ'[j]?=σ[j]?)/\(∀ j∈u'.refs,j∈u.refs\/σ.length<=j)/\(Cl σ->Cl σ'):=by
 obtain⟨⟨hl,hr⟩,h⟩:=h;have qx:([row].all fun r=>r.length==m)=true:=by simp[qH]
 have qE:∀ r∈xs++[row],r.length=m:=fun r hx=>by
  grind
 have qG:∀ r∈xs++[row],r.all V.rowB=true:=fun r hx=>by
  grind
 unfold Dt;simp only[Eu,C5];unfold Jz;rw[if_pos ⟨qx,hm⟩];rcases h with⟨rfl,rfl⟩ | ⟨i,g,r,q,rfl,ho,hq,qo⟩
 .simp only;rw[if_pos AA,if_neg AE];refine⟨_,_,rfl,⟨⟨qE,qG⟩,.inr ⟨σ.length,0,[],0,rfl,by simp,by simp,rfl⟩⟩,by simp,fun j hj _=>Es hj,fun j hj=>?_,fun hc=>Jh hc ?_⟩
  .grind[V.refs]
  grind[Ob.refs,Zx]
 .have hi:i<σ.length:=(Ao.1 ho).1;have hf:=Gg hl;have qm:(xs.flatten++r).length=xs.length*m+q*m:=by rw[Aq,hf,hq]
  simp only;rw[if_pos ⟨hb,trivial⟩];simp only[ho,if_true];rw[if_neg AE,if_pos ⟨trivial,trivial,trivial,Ax _⟩];have qF:(xs.length+[row].length)*m=xs.length*m+m:=by rw[Q6,G0]
  by_cases h0:q=0
  .subst h0;have qR:r=[]:=Zc.1 AA;subst qR;rw[if_neg AA,if_pos AA];refine⟨_,_,rfl,⟨⟨qE,qG⟩,.inr ⟨i,g+1,[],0,by grind,?_,by simp,rfl⟩⟩,by simp,fun j hj hn=>?_,fun j hj=>.inl hj,fun hc=>F9 hc ?_⟩
   .grind
   .grind[V.refs]
   grind[Ob.refs,Zx]
  .have jE:m<=q*m:=Nat.le_mul_of_pos_left m AA;rw[if_pos AA,qF];have e1:(xs.flatten++r).take (xs.length*m)=xs.flatten:=by rw[<-hf,Adh]
   have e2:(xs.flatten++r).drop (xs.length*m+m)=r.drop m:=by rw[<-hf,Wy,D1 AA,Ba,Nat.add_sub_cancel_left]
   rw[e1,e2];have jj:(r.drop m).all V.rowB=true:=Bu.2 fun c hc=>Bu.1 qo c (Ws hc)
   refine⟨_,_,rfl,⟨⟨qE,qG⟩,.inr ⟨i,g,r.drop m,q - 1,by grind,?_,?_,jj⟩⟩,by simp,fun j hj hn=>?_,fun j hj=>.inl hj,fun hc=>F9 hc ?_⟩
   .grind
   .simp_all [Nat.sub_mul]
   .grind[V.refs]
   grind[Ob.refs,Zx]
def Ayh{σ:St}{m e:Nat}{u:V}{xs:List (List V)}{row:List V}(h:GS σ m e u (xs++[row])):∃ u',Ha m u none (some (.int .i64 (xs.length:Int))) none=some u'/\GS σ m e u' xs/\u'.refs=u.refs:=by
 obtain⟨⟨hl,hr⟩,h⟩:=h;rcases h with⟨-,h⟩ | ⟨i,g,r,q,rfl,ho,hq,qo⟩
 .simp at h
 .refine⟨.sl i g 0 xs.length m true,?_,⟨⟨fun r hx=>hl r (Ac2 _ hx),fun r hx=>hr r (Ac2 _ hx)⟩,.inr ⟨i,g,row++r,q+1,rfl,?_,?_,?_⟩⟩,rfl⟩
  .simp[Ha,Dy]
  .grind
  .grind
  grind
def Bjd{σ:St}{m e:Nat}{u:V}{xs:List (List V)}{row:List V}{i:Nat}(h:GS σ m e u xs)(hi:xs[i]?=some row):∃ j g cs,u=.sl j g 0 xs.length m true/\σ[j]?=some (.row cs e g 0)/\i*m+m<=cs.length/\(cs.drop (i*m)).take m=row:=by
 obtain⟨⟨hl,hr⟩,h⟩:=h;have qM:=(Ao.1 hi).1;rcases h with⟨-,rfl⟩ | ⟨j,g,r,q,rfl,ho,hq,qo⟩
 .grind
 .have hf:=Gg hl;have qP:i*m+m<=xs.length*m:=by rw[<-G0];exact E0 m qM
  refine⟨j,g,_,rfl,ho,by grind,?_⟩
  have hs:xs=xs.take i++row::xs.drop (i+1):=by
   have h1:=Io qM;rw[(Ao.1 hi).2]at h1;rw[<-h1,Nn]
  have ht:(xs.take i).flatten.length=i*m:=by
   rw[Gg fun r hr=>hl r (Np hr),Iq,W0 AA]
  grind
theorem Ank{σ:St}{m e:Nat}{u:V}{xs:List (List V)}(h:GS σ m e u xs)(hm:0<m):∃ z,OC σ u (SL z 0 xs):=by
 obtain⟨⟨hl,hr⟩,h⟩:=h;rcases h with⟨rfl,rfl⟩ | ⟨i,g,r,q,rfl,ho,hq,qo⟩
 .exact⟨true,Fk rfl⟩
 .refine⟨false,fun js hj d=>?_⟩
  have hi:js.elem i=true:=by
   have:=hj i AS;simpa using this
  have hf:=Gg hl;unfold Fe;rw[if_neg AN];simp only[hi,if_true,ho];rw[if_pos ⟨trivial,hm,by grind⟩,Jf,<-hf,Adh,Vj fun c hc=>?_]
  .simp only[Ir,U5 hl];rfl
  grind[U4]
theorem Bje(a b c cells:List V)(h:c.length=cells.length):Qn (a++(c++b)) a.length cells=some (a++(cells++b)):=by
 unfold Qn
 grind
def Bjf{σ:St}{m e:Nat}{u:V}{xs:List (List V)}{r0 row:List V}(h:GS σ m e u (xs++[r0]))(qH:row.length=m)(qt:row.all V.rowB=true):∃ j g cs',u=.sl j g 0 (xs.length+1) m true/\j<σ.length/\(∀ τ:St,τ[j]?=σ[j]?->Rm τ m (.ptr j g (0+xs.length*m)) (.agg row)=some (τ.set j (.row cs' e g 0))/\(j<τ.length->GS (τ.set j (.row cs' e g 0)) m e u (xs++[row])))/\Ag cs'=[]:=by
 obtain⟨⟨hl,hr⟩,h⟩:=h;rcases h with⟨-,h⟩ | ⟨j,g,r,q,rfl,ho,hq,qo⟩
 .simp at h
 .have hf:=Gg fun r hx=>hl r (Ac2 _ hx)
  have qR:=hl r0 AE;have hx:xs.flatten.all V.rowB=true:=Id fun r hx=>hr r (Ac2 _ hx)
  have qc:row.all V.cellB=true:=Vs qt;have qh:(V.agg row).cells=row:=rfl;refine⟨j,g,xs.flatten++(row++r),by simp,(Ao.1 ho).1,fun τ hk=>⟨?_,fun hj=>⟨⟨fun r hx=>?_,fun r hx=>?_⟩,.inr ⟨j,g,r,q,by simp,?_,hq,qo⟩⟩⟩,?_⟩
  .simp only[Rm,hk,ho,qh];rw[if_pos ⟨trivial,Ax _,qH,qc⟩,Gf,<-hf]
   grind[Bje]
  .grind
  .grind
  .grind
  grind[Zx]
/-! what a struct and its lists may change -/
def fp(σ:St)(w:Nat):List Nat:=w::match σ[w]? with
 | some ob=>ob.refs
 | none=>[]
def Amg{σ:St}{w:Nat}{cs:List V}{t g z:Nat}(h:σ[w]?=some (.row cs t g z)):fp σ w=w::Ag cs:=by
 unfold fp;rw[h];rfl
def FW(w:Nat)(σ τ:St):Prop:=σ.length<=τ.length/\(∀ j,j<σ.length->j ∉ fp σ w->τ[j]?=σ[j]?)/\(∀ j∈fp τ w,j∈fp σ w\/σ.length<=j)
def Ali(w:Nat)(σ:St):FW w σ σ:=⟨Aj _,fun _ _ _=>rfl,fun _ h=>.inl h⟩
def Fv{w:Nat}{σ τ υ:St}(h:FW w σ τ)(h':FW w τ υ):FW w σ υ:=by
 refine⟨C8 h.1 h'.1,fun j hj hn=>?_,fun j hj=>?_⟩
 .rw[h'.2.1 j (by have:=h.1;omega) fun hm=>?_,h.2.1 j hj hn];rcases h.2.2 j hm with h2 | h2
  .grind
  .omega
 .rcases h'.2.2 j hj with h2 | h2
  .exact h.2.2 j h2
  .exact .inr (by have:=h.1;omega)
theorem Alj{w:Nat}{σ:St}(l:St)(hw:w<σ.length):FW w σ (σ++l):=by
 refine⟨by simp,fun j hj _=>Es hj,fun j hj=>?_⟩
 grind[fp]
def Ayi{w:Nat}{σ τ:St}{j:Nat}{x:Ob}(h:FW w σ τ)(hj:σ.length<=j)(hw:w<σ.length):FW w σ (τ.set j x):=by
 refine⟨by simpa using h.1,fun i hi hn=>?_,fun i hi=>?_⟩
 .rw[Ce AA];exact h.2.1 i hi hn
 .unfold fp at hi;rw[Ce AA]at hi;exact h.2.2 i hi
def Amh{w:Nat}{σ τ:St}{cs:List V}{t g z:Nat}(h:FW w σ τ)(hw:w<σ.length)(hc:∀ j∈Ag cs,j∈fp σ w\/σ.length<=j):FW w σ (τ.set w (.row cs t g z)):=by
 have hm:w∈fp σ w:=by unfold fp;exact B4
 refine⟨by simpa using h.1,fun i hi hn=>?_,fun i hi=>?_⟩
 .rw[Ce (fun e=>hn (by grind))];exact h.2.1 i hi hn
 .rw[Amg (Cr (by have:=h.1;omega))]at hi
  grind
def Ayj{w:Nat}{σ τ υ:St}{B:List Nat}(h:FW w σ τ)(hw:w<σ.length)(hl:τ.length<=υ.length)(hB:∀ j∈B,j∈fp σ w\/σ.length<=j)(hk:∀ j,j<τ.length->j ∉ B->υ[j]?=τ[j]?)(jl:w ∉ B):FW w σ υ:=by
 refine⟨C8 h.1 hl,fun i hi hn=>?_,fun i hi=>?_⟩
 .rw[hk i (by have:=h.1;omega) fun hm=>?_,h.2.1 i hi hn]
  grind
 .unfold fp at hi;rw[hk w (by have:=h.1;omega) jl]at hi;exact h.2.2 i hi
def Ja(w:World):Ey:=fun b=>match w.heap[b]? with
 | some (.cells c _ _)=>some c.size
 | _=>none
def A2t{w:World}{b o:Nat}{v:Value}(h:w.cell? ⟨b,o,none⟩=some v):∃ k,Ja w b=some k/\o<k:=by
 unfold World.cell? at h;unfold Ja
 grind
inductive HasT (P:Program):TypeId->List V->Prop
 | bool {t:TypeId} {b:Bool}:P.underlying t=some .bool->HasT P t [.bool b]
 | int {t:TypeId} {k:IntKind} {n:Int}:P.underlying t=some (.int k)->(Lit.int k n).wf=true->HasT P t [.int k n]
 | str {t:TypeId} {s:ByteArray}:P.underlying t=some .string->s.size<=maxLen->HasT P t [.str s.data.toList]
 | nils {t e:TypeId}:P.underlying t=some (.slice e)->HasT P t [.nils]
 | lst {t e:TypeId} {xs:List (List V)}:P.underlying t=some (.slice e)->xs.length<=maxLen->(∀ i,i<xs.length->HasT P e (xs.getD i []))->HasT P t [.lst 0 xs]
 | struct {t:TypeId} {fs:Array Field} (qa:List (List V)):P.underlying t=some (.struct fs)->qa.length=fs.size->(∀ i f,fs[i]?=some f->HasT P f.type (qa.getD i []))->HasT P t qa.flatten
 | array {t e:TypeId} {n:Nat} (qa:List (List V)):P.underlying t=some (.array n e)->qa.length=n->(∀ i,i<n->HasT P e (qa.getD i []))->HasT P t qa.flatten
mutual
def V.bulk:V->Nat
 | .str l=>l.length+1
 | .lst _ xs=>Cy xs+1
 | _=>1
def Cy:List (List V)->Nat
 | []=>0
 | r::rs=>C3 r+Cy rs
def C3:List V->Nat
 | []=>0
 | p::ps=>p.bulk+C3 ps
end
def Air(a b:List V):C3 (a++b)=C3 a+C3 b:=by
 induction a with
 | nil=>simp[C3]
 | cons x a ih=>grind[C3]
def Rq(P:Program):List Field->Nat->Nat->Bool
 | [],s,e=>s==e
 | f::fs,s,e=>f.offset==s&&Rq P fs (s+P.cellsOf f.type) e
def Bdo(P:Program)(ts:List TypeId):Bool:=ts.all fun t=>
 match P.underlying t with
 | some .bool | some (.int _) | some .string=>true
 | some (.slice e)=>ts.contains e&&decide (0<P.cellsOf e)
 | some (.struct fs)=>fs.toList.all (fun f=>ts.contains f.type)&&Rq P fs.toList 0 (P.cellsOf t)
 | some (.array n e)=>ts.contains e&&P.cellsOf t==n*P.cellsOf e
 | _=>false
def Arj{α β:Type}{f:α->Option β}:∀ {l:List α} {r:List β},l.mapM f=some r->r.length=l.length/\∀ i (hi:i<l.length),f l[i]=r[i]?
 | [],r,h=>by
  grind
 | a::l,r,h=>by
  rw[Le]at h
  cases ha:f a with
  | none=>grind
  | some b=>
   cases hl:l.mapM f with
   | none=>grind
   | some r'=>
    simp[ha,hl]at h;subst h;obtain⟨h1,h2⟩:=Arj hl
    grind
structure RowAt {H:Type} (P:Program) (w:World) (t:TypeId) (cs:List Value) (d:DataW H) (qb:List V):Prop where
 len:qb.length=cs.length
 rep:∀ j,j<cs.length->RepR (Ja w) w (qb.getD j .und) (cs.getD j undef)
 typ:HasT P t qb
 bulk:C3 qb<=Rows.uptoBulk d
def Apv{H:Type}:∀ (xs:List (List V)) (ds:List (DataW H)),xs.length=ds.length->(∀ i,i<xs.length->∀ d,ds[i]?=some d->C3 (xs.getD i [])<=Rows.uptoBulk d)->Cy xs<=Rows.uptoBulkAll ds
 | [],ds,_,_=>by simp[Cy]
 | x::xs,[],h,_=>by simp at h
 | x::xs,d::ds,h,hb=>by
  have h0:=hb 0 AE d rfl;have:=Apv xs ds (by grind) (fun i hi d' hd=>by simpa using hb (i+1) (by grind) d' (by grind))
  grind[Cy,Rows.uptoBulkAll]
def Aqd{α:Type}(a b:List α)(i:Nat)(d:α)(h:i<a.length):(a++b).getD i d=a.getD i d:=by
 grind
def Av9{Q:Nat->List V->Prop}:∀ (n:Nat),(∀ i,i<n->∃ r,Q i r)->∃ xs:List (List V),xs.length=n/\∀ i,i<n->Q i (xs.getD i [])
 | 0,_=>⟨[],rfl,fun i hi=>absurd hi AA⟩
 | n+1,h=>by
  obtain⟨xs,hl,hx⟩:=Av9 n (fun i hi=>h i AA);obtain⟨r,hr⟩:=h n AA;refine⟨xs++[r],by simp[hl],fun i hi=>?_⟩
  grind
def Aqe{H:Type}{P:Program}{w:World}{cs:List Value}{g:Field->Option (DataW H × List MemPlace)}:
  ∀ (fl:List Field) (s e:Nat) (xs:List (DataW H × List MemPlace)),Rq P fl s e=true->fl.mapM g=some xs->e<=cs.length ->
   (∀ f∈fl,∀ x,g f=some x->∃ qb,RowAt P w f.type ((cs.drop f.offset).take (P.cellsOf f.type)) x.1 qb) ->
   ∃ qa:List (List V),qa.length=fl.length/\s<=e/\qa.flatten.length=e - s/\(∀ i f,fl[i]?=some f->HasT P f.type (qa.getD i [])) /\
    (∀ j,j<e - s->RepR (Ja w) w (qa.flatten.getD j .und) (cs.getD (s+j) undef))/\C3 qa.flatten<=Rows.uptoBulkAll (xs.map (·.1))
 | [],s,e,xs,hc,hm,_,_=>by
  simp[Rq]at hc;simp at hm;subst hc hm;exact⟨[],rfl,Aj _,by simp,fun i f h=>by simp at h,fun j hj=>by omega,by simp[C3]⟩
 | f::fl,s,e,xs,hc,hm,he,hg=>by
  simp only[Rq,Ai,beq_iff_eq]at hc;rw[Le]at hm
  cases hf:g f with
  | none=>grind
  | some x=>
   cases hl:fl.mapM g with
   | none=>grind
   | some r=>
    simp[hf,hl]at hm;subst hm;obtain⟨qa,h1,h2,h3,h4,h5,h6⟩:=Aqe fl _ e r hc.2 hl he (fun f' jc=>hg f' (Cb _ jc));obtain⟨qb,hp⟩:=hg f (B4) x hf
    have qs:qb.length=P.cellsOf f.type:=by
     rw[hp.len,Iq,Gz,hc.1];omega
    refine⟨qb::qa,by simp[h1],by omega,by grind,fun i f' hi=>?_,fun j hj=>?_,?_⟩
    .cases i with
     | zero=>simp at hi;subst hi;simpa using hp.typ
     | succ i=>grind
    .rw[Fd];by_cases qC:j<P.cellsOf f.type
     .rw[Aqd _ _ _ _ AA];have:=hp.rep j (by grind)
      grind
     grind
    .rw[Fd,Air,Aw];simp only[Rows.uptoBulkAll];have:=hp.bulk;omega
def Ark{H:Type}{P:Program}{w:World}{cs:List Value}{e:TypeId}{g:Nat->Option (DataW H × List MemPlace)}(hg:∀ i x,g i=some x->∃ qb,RowAt P w e ((cs.drop (i*P.cellsOf e)).take (P.cellsOf e)) x.1 qb):
  ∀ (n s:Nat) (xs:List (DataW H × List MemPlace)),(List.range' s n).mapM g=some xs->(s+n)*P.cellsOf e<=cs.length ->
   ∃ qa:List (List V),qa.length=n/\qa.flatten.length=n*P.cellsOf e/\(∀ i,i<n->HasT P e (qa.getD i [])) /\
    (∀ j,j<n*P.cellsOf e->RepR (Ja w) w (qa.flatten.getD j .und) (cs.getD (s*P.cellsOf e+j) undef))/\C3 qa.flatten<=Rows.uptoBulkAll (xs.map (·.1))
 | 0,s,xs,hm,_=>by
  simp at hm;subst hm;exact⟨[],rfl,by simp,fun i hi=>by omega,fun j hj=>by omega,by simp[C3]⟩
 | n+1,s,xs,hm,hl=>by
  rw[List.range'_succ,Le]at hm
  cases hf:g s with
  | none=>grind
  | some x=>
   cases hr:(List.range' (s+1) n).mapM g with
   | none=>grind
   | some r=>
    simp[hf,hr]at hm;subst hm;have el:(s+(n+1))*P.cellsOf e=s*P.cellsOf e+P.cellsOf e+n*P.cellsOf e:=by rw[Ox,G0];omega
    have es:(s+1)*P.cellsOf e=s*P.cellsOf e+P.cellsOf e:=G0 ..;obtain⟨qa,h1,h3,h4,h5,h6⟩:=Ark hg n (s+1) r hr (by grind);obtain⟨qb,hp⟩:=hg s x hf
    have qs:qb.length=P.cellsOf e:=by
     rw[hp.len,Iq,Gz];omega
    have en:(n+1)*P.cellsOf e=n*P.cellsOf e+P.cellsOf e:=G0 ..;refine⟨qb::qa,by simp[h1],by grind,fun i hi=>?_,fun j hj=>?_,?_⟩
    .cases i with
     | zero=>simpa using hp.typ
     | succ i=>grind
    .rw[Fd];by_cases qC:j<P.cellsOf e
     .rw[Aqd _ _ _ _ AA];have:=hp.rep j (by grind)
      grind
     grind
    .rw[Fd,Air,Aw];simp only[Rows.uptoBulkAll];have:=hp.bulk;omega
def Bdp(a:Addr)(n m:Nat)(h:a.spot=none):(a.add n).add m=⟨a.block,a.off+n+m,none⟩:=by
 unfold Addr.add
 split<;>split<;>simp_all<;>(cases a;simp_all)
def Xk{H:Type}(qq:TypeId × Value->H)(P:Program)(w:World)(qd:Nat->Bool)(qf:Bool)(ts:List TypeId)(qw:Bdo P ts=true):
  ∀ (fuel:Nat) (t:TypeId) (cs:List Value) (d:DataW H) (ps:List MemPlace),t∈ts->DataW.trod qq P w 0 qd qf fuel t cs=some (d,ps)->∃ qb,RowAt P w t cs d qb
 | 0,_,_,_,_,_,h=>by simp_all [DataW.trod]
 | fuel+1,t,cs,d,ps,ht,h=>by
  have hp:=Bu.1 qw t ht;simp only[DataW.trod]at h
  split at h
  .rename_i b hu;simp at h;obtain⟨rfl,_⟩:=h
   exact⟨[.bool b],rfl,(fun j hj=>by
    obtain rfl:j=0:=by grind
    exact .bool),.bool hu,by simp[C3,V.bulk,Rows.uptoBulk]⟩
  .rename_i k k' n hu
   split at h
   .rename_i hk;simp at h;obtain⟨rfl,_⟩:=h;obtain⟨rfl,jm⟩:=hk
    exact⟨[.int k' n],rfl,(fun j hj=>by
    obtain rfl:j=0:=by grind
    exact .int),.int hu jm,by simp[C3,V.bulk,Rows.uptoBulk]⟩
   grind
  .grind
  .rename_i s hu
   split at h
   .rename_i hs;simp at h;obtain⟨rfl,_⟩:=h;have qp:s.data.toList.length=s.size:=by rw[Array.length_toList];rfl
    exact⟨[.str s.data.toList],rfl,(fun j hj=>by
     obtain rfl:j=0:=by grind
     have hh:RepR (Ja w) w (.str s.data.toList) (.string ⟨s.data.toList.toArray⟩):=.str AA
     simp_all),.str hu hs,by simp[C3,V.bulk,Rows.uptoBulk]⟩
   grind
  .grind
  .grind
  .rename_i e hu;simp at h;obtain⟨rfl,_⟩:=h
   exact⟨[.nils],rfl,(fun j hj=>by
    obtain rfl:j=0:=by grind
    exact .nils),.nils hu,by simp[C3,V.bulk,Rows.uptoBulk]⟩
  .rename_i e a len cap hu;rw[hu]at hp;simp only[Ai,decide_eq_true_eq,Ac1]at hp
   split at h
   .rename_i hc;obtain⟨_,jC,jb⟩:=hc
    cases hm:(List.range len).mapM (fun i=>(w.cells? 0 (a.add (i*P.cellsOf e)) (P.cellsOf e)).bind (DataW.trod qq P w 0 qd qf fuel e)) with
    | none=>grind
    | some elems=>
     simp only[hm,C5,Cf]at h;obtain⟨jp,_,h⟩:=h;simp at h;obtain⟨rfl,_⟩:=h;obtain⟨hl,qL⟩:=Arj hm;simp only[List.length_range]at hl qL
     have jo:∀ i,i<len->∃ r,(∃ cs' x,(∀ j,j<P.cellsOf e->w.cell? ((a.add (i*P.cellsOf e)).add j)=some (cs'.getD j undef))/\elems[i]?=some x/\cs'.length=P.cellsOf e/\RowAt P w e cs' x.1 r):=by
      intro i hi;have h1:=qL i AA;simp only[List.getElem_range]at h1;have qg:i<elems.length:=by omega
      cases qh:w.cells? 0 (a.add (i*P.cellsOf e)) (P.cellsOf e) with
      | none=>grind
      | some cs'=>
       obtain⟨_,qm,jw⟩:=World.cells?_some qh;rw[qh,C5,B9 qg]at h1;obtain⟨r,hr⟩:=Xk qq P w qd qf ts qw fuel e cs' _ _ hp.1 h1
       grind
     obtain⟨xs,jn,hx⟩:=Av9 len jo
     have qT:0<len->a.spot=none:=fun h0=>by
      grind[World.cell?_spot,Addr.add]
     have qc:∀ i j,i<len->j<P.cellsOf e->∃ v,w.cell? ⟨a.block,a.off+i*P.cellsOf e+j,none⟩=some v/\RepR (Ja w) w ((xs.getD i []).getD j .und) v:=by
      intro i j hi hj;obtain⟨cs',x,hc,_,qm,hr⟩:=hx i hi;have h1:=hc j hj;rw[Bdp _ _ _ (qT AA)]at h1;exact⟨_,h1,hr.rep j AA⟩
     refine⟨[.lst 0 xs],rfl,fun j hj=>?_,.lst hu AA (fun i hi=>?_),?_⟩
     .obtain rfl:j=0:=by grind
      show RepR (Ja w) w (.lst 0 xs) (.slice (some a) len cap);rw[<-jn];refine .lst (m:=P.cellsOf e) (fun i j=>(w.cell? ⟨a.block,a.off+i*P.cellsOf e+j,none⟩).getD undef) (fun h=>by omega) AA jb (fun h0=>⟨qT AA,?_⟩) (fun i hi=>?_) (fun i j hi hj=>?_) (fun i j hi hj=>?_)
      .obtain⟨v,hv,_⟩:=qc (xs.length - 1) (P.cellsOf e - 1) AA AA;obtain⟨k,hk,qg⟩:=A2t hv;refine⟨k,hk,?_⟩
       have:(xs.length - 1)*P.cellsOf e+P.cellsOf e=xs.length*P.cellsOf e:=by
        rw[<-G0];congr 1;omega
       omega
      .obtain⟨cs',x,_,_,qm,hr⟩:=hx i AA;rw[hr.len,qm]
      .grind
      grind
     .obtain⟨_,_,_,_,_,hr⟩:=hx i AA;exact hr.typ
     .simp only[C3,V.bulk,Rows.uptoBulk]
      have:=Apv xs (elems.map (·.1)) (by grind) (fun i hi d' hd=>by
       obtain⟨_,x,_,he,_,hr⟩:=hx i AA;simp[he]at hd;subst hd
       exact hr.bulk)
      omega
   grind
  .rename_i fs hu;rw[hu]at hp;simp only[Ai,Bu,Ac1]at hp
   split at h
   .rename_i qm;simp only[Cf]at h;obtain⟨xs,hm,h⟩:=h;simp at h;obtain⟨rfl,_⟩:=h;obtain⟨qa,h1,h2,h3,h4,h5,h6⟩:=Aqe (P:=P) (w:=w) (cs:=_) fs.toList 0 _ xs hp.2 hm AA (fun f hf x hx=>Xk qq P w qd qf ts qw fuel f.type _ x.1 x.2 (hp.1 f hf) hx);refine⟨qa.flatten,by omega,fun j hj=>by grind,.struct qa hu AA (fun i f hf=>h4 i f (by grind)),?_⟩
    grind[Rows.uptoBulk]
   grind
  .rename_i n e hu;rw[hu]at hp;simp only[Ai,beq_iff_eq,Ac1]at hp
   split at h
   .rename_i qm;simp only[Cf]at h;obtain⟨xs,hm,h⟩:=h;simp at h;obtain⟨rfl,_⟩:=h;rw[List.range_eq_range']at hm;obtain⟨qa,h1,h3,h4,h5,h6⟩:=Ark (P:=P) (w:=w) (e:=e) (cs:=_) (fun i x hx=>Xk qq P w qd qf ts qw fuel e _ x.1 x.2 hp.1 hx) n 0 xs hm (by grind);refine⟨qa.flatten,by omega,fun j hj=>by grind,.array qa hu h1 h4,?_⟩
    grind[Rows.uptoBulk]
   grind
  all_goals grind
section
open Go.RowKit
variable {P:Program} {G:List (Nat × List V)} {T:Nat->Option AF} {pr:Nat->Option (List V->Option V)}
def Ahn:V->Bool
 | .bool _ | .int _ _ | .str _=>true
 | _=>false
theorem A5i{κ:Ey}{w:World}{v:V}{u:Value}(h:Pb v u=true)(hf:Ahn v=true):RepR κ w v u:=by
 have h':RepC ⟨κ,[]⟩ w v u:=Adt h
 cases h' with
 | row h=>exact h
 | _=>cases hf
def Apr:∀ {vs:List V} {us:List Value},Iw vs us=true->vs.length=us.length/\∀ j,j<vs.length->Pb (vs.getD j .und) (us.getD j undef)=true
 | [],[],_=>⟨rfl,fun j hj=>absurd hj AE⟩
 | v::vs,u::us,h=>by
  simp only[Iw,Ai]at h;obtain⟨h1,h2⟩:=Apr h.2
  grind
def Yk(v:V)(u:Value):Prop:=(Pb v u=true/\Ahn v=true)\/(v=.ifc/\∃ t p,u=.iface t p)
def A5j{κ:Ey}{w:World}{v:V}{u:Value}(h:Yk v u):RepR κ w v u:=by
 rcases h with⟨h1,h2⟩ | ⟨rfl,t,p,rfl⟩
 .grind[A5i]
 .exact .ifc
theorem A23{r:List V}{us:List Value}(h:Iw r us=true)(hf:r.all Ahn=true):r.length=us.length/\∀ j,j<r.length->Yk (r.getD j .und) (us.getD j undef):=by
 obtain⟨h1,h2⟩:=Apr h;exact⟨h1,fun j hj=>.inl ⟨h2 j hj,Bu.1 hf _ (by grind)⟩⟩
def Aos(G:List (Nat × List V))(w:World):Prop:=∀ g r,(g,r)∈G->∃ us e fz,w.heap[g]?=some (.cells us e fz)/\r.length=us.toList.length/\∀ j,j<r.length->Yk (r.getD j .und) (us.toList.getD j undef)
def Brq{w:World}(h:Aos G w):Inv G w.heap.size ⟨Ja w,[]⟩ [] w where
 base:=Aj _
 len:=rfl
 nd:=W1
 low:=fun i p h=>by simp at h
 obj:=fun i ob p h=>by simp at h
 dom:=fun b k hk=>by
  grind[Ja]
 glob:=fun g r hg=>by
  obtain⟨us,e,fz,hh,hl,hj⟩:=h g r hg;have hk:Ja w g=some us.size:=by unfold Ja;rw[hh]
  have:=RepC.imm (γ:=⟨Ja w,[]⟩) (w:=w) (r:=r) (off:=0) (b:=g) (o:=0) (k:=us.size) (fun j=>us.toList.getD j undef) hk (by grind) (fun j qN=>by
    grind[World.cell?]) (fun j qN=>A5j (hj j qN))
  omega
 gsz:=fun g r hg=>by
  obtain⟨us,e,fz,hh,hl,hj⟩:=h g r hg
  grind[Ej]
def A5k{σ:St}{v:V}{b:Bool}(h:Ed σ v=some (.bool b)):v=.bool b:=by
 unfold Ed Ky at h
 split at h
 .simp_all
 .unfold Gq at h
  split at h
  .cases h
  .simp_all
  .unfold Fe at h
   grind[Option.map_eq_some_iff]
def A5l(hT:∀ f F,T f=some F->F.spec=none->Se P G f F=true)(hS:∀ f F s,T f=some F->F.spec=some s->Tq P G f s)(jh:∀ f s,pr f=some s->Iz P G f s){f:Nat}{vs:List V}{us:List Value}{w:World}(hf:Fn T pr f vs (.bool true))(hg:Aos G w)(hl:vs.length=us.length)
  (hr:∀ j,j<vs.length->RepV ⟨Ja w,[]⟩ w (vs.getD j .und) (us.getD j undef)):Calls P f us.toArray w fun e w'=>e=.returned (.bool true)/\Below w.heap.size w w':=by
 obtain⟨F,h1,h2,h3,v0,σ0,hE,hv⟩:=hf;have jk:=A5k hv;subst jk;refine(Az4 hT hS jh hE us w ⟨Ja w,[]⟩ w.heap.size hl hr (Brq hg)).mono ?_;rintro _ w' ⟨u,γ',rfl,hu,_,_,hb,_⟩;exact⟨by rw[Py (Bc rfl hu)],hb⟩
def Atb{H:Type}{w:World}{t:TypeId}{v:Value}{d:DataW H}{qb:List V}(h:RowAt P w t v.cells.toList d qb)(hv:v.cells=#[v]):∃ p,qb=[p]/\RepV ⟨Ja w,[]⟩ w p v:=by
 have hl:=h.len;rw[hv]at hl;obtain⟨p,rfl⟩:=List.length_eq_one_iff.1 (show qb.length=1 by omega);have:=h.rep 0 (by grind);rw[hv]at this;exact⟨p,rfl,C9 (.row (by grind))⟩
def Bdq{H:Type}{w:World}{t:TypeId}{cs:Array Value}{d:DataW H}{qb:List V}(h:RowAt P w t (Value.agg cs).cells.toList d qb):RepV ⟨Ja w,[]⟩ w (.agg qb) (.agg cs):=by
 have h1:qb.length=cs.toList.length:=h.len;have:=Rep1.agg (γ:=⟨Ja w,[]⟩) (w:=w) (cs:=qb) (us:=cs.toList) h1 (fun j hj=>.row (h.rep j (by rw[<-h.len];exact hj)));exact .one AA
end
open Go Go.RowKit Go.Shelf
def A2u(w:World)(g n b:Nat)(h:b≠g):(w.freeze ⟨g,0,none⟩ n).heap[b]?=w.heap[b]?:=by
 unfold World.freeze
 grind
def A24(w:World)(g n:Nat){qj:Array Value}{e:TypeId}{lo hi:Nat}(h:w.heap[g]?=some (.cells qj e (lo,hi))):∃ qU qn,(w.freeze ⟨g,0,none⟩ n).heap[g]?=some (.cells qj e (qU,qn))/\qn<=max hi n:=by
 unfold World.freeze
 grind
section
variable {P:Program} {ρ:Ren}
set_option maxHeartbeats 1000000 in
set_option maxRecDepth 100000 in
def A3u(L:Lays.n169 P ρ)(X:Builder.Extra P ρ)(b g cap:Nat)(qj:Array Value)(fz:Nat × Nat)(l:List UInt8)(w:World)(h0:l≠[])(qz:w.cell? ⟨b,1,none⟩=some (.slice (some ⟨g,0,none⟩) l.length cap))
  (hg:w.heap[g]?=some (.cells qj (ρ.t 5) fz)) (jD:l.length<=cap) (qh:l.length<=qj.size) (hm:l.length<=9223372036854775807) (qc:∀ j x,l[j]?=some x->w.cell? ((⟨g,0,none⟩:Addr).add j)=some (.int .u8 x.toNat)) :
  Calls P (ρ.f 169) #[.pointer (some ⟨b,0,none⟩)] w fun e w'=>e=.returned (.string ⟨l.toArray⟩)/\w'=w.drew.freeze ⟨g,0,none⟩ l.length:=by
 have jB:l.length≠0:=by simpa using h0
 have c1:w.drew.cell? ⟨b,1,none⟩=some (.slice (some ⟨g,0,none⟩) l.length cap):=qz
 have qW:(Builtin.unsafeSliceData_ #[(ρ.t 37)] (ρ.t 127) #[.slice (some ⟨g,0,none⟩) l.length cap]).run P w.drew=.ok (.pointer (some ⟨g,0,none⟩)) w.drew:=
  Lib.run_unsafeSliceData_row _ _ _ _ _ _ AA
 have qX:(Builtin.unsafeString_ #[(ρ.t 127),(ρ.t 3)] (ρ.t 9) #[.pointer (some ⟨g,0,none⟩),.int .i64 l.length]).run P w.drew=.ok (.string ⟨l.toArray⟩) (w.drew.freeze ⟨g,0,none⟩ l.length):=
  Lib.run_unsafeString_row w.drew (ρ.t 127) (ρ.t 3) (ρ.t 9) (ρ.t 5) L.t127 X.cellsByte g qj.size (by have jz:w.drew.heap[g]?=some (.cells qj (ρ.t 5) fz):=hg;grind[World.shape?]) l h0 qh hm qc
 have mixed:=L.mixed;have t72:=L.t72;have a72:=L.a72;have z72:=L.z72;have v72:=L.v72;have ju:=run_underlying L.t72;have t70:=L.t70;have a70:=L.a70;have z70:=L.z70;have v70:=L.v70;have jt:=run_underlying L.t70;have t37:=L.t37;have a37:=L.a37;have z37:=L.z37;have v37:=L.v37;have jq:=run_underlying L.t37;have t127:=L.t127;have a127:=L.a127;have z127:=L.z127;have v127:=L.v127;have qI:=run_underlying L.t127;have t3:=L.t3;have a3:=L.a3;have z3:=L.z3;have v3:=L.v3;have u3:=run_underlying L.t3;have t9:=L.t9;have a9:=L.a9;have z9:=L.z9;have v9:=L.v9;have u9:=run_underlying L.t9;have t5:=X.t5;have a5:=X.a5;have z5:=X.z5;have v5:=X.v5;have u5:=run_underlying X.t5
 go_enter L.f169,Body.n169_ntmps ρ
 go_wp2
 go_region_o
 all_goals (go_wp2;go_ret;simp_all)
set_option maxHeartbeats 1000000 in
set_option maxRecDepth 100000 in
def A3v(L:Lays.n169 P ρ)(X:Builder.Extra P ρ)(b:Nat)(w:World)(qz:w.cell? ⟨b,1,none⟩=some (.slice none 0 0)):
  Calls P (ρ.f 169) #[.pointer (some ⟨b,0,none⟩)] w fun e w'=>e=.returned (.string ⟨#[]⟩)/\w'=w.drew:=by
 have qX:=Any.unsafeString_none L X;have c1:w.drew.cell? ⟨b,1,none⟩=some (.slice none 0 0):=qz;have qW:(Builtin.unsafeSliceData_ #[(ρ.t 37)] (ρ.t 127) #[.slice none 0 0]).run P w.drew=.ok (.pointer none) w.drew:=rfl;have mixed:=L.mixed;have t72:=L.t72;have a72:=L.a72;have z72:=L.z72;have v72:=L.v72;have ju:=run_underlying L.t72;have t70:=L.t70;have a70:=L.a70;have z70:=L.z70;have v70:=L.v70;have jt:=run_underlying L.t70;have t37:=L.t37;have a37:=L.a37;have z37:=L.z37;have v37:=L.v37;have jq:=run_underlying L.t37;have t127:=L.t127;have a127:=L.a127;have z127:=L.z127;have v127:=L.v127;have qI:=run_underlying L.t127;have t3:=L.t3;have a3:=L.a3;have z3:=L.z3;have v3:=L.v3;have u3:=run_underlying L.t3;have t9:=L.t9;have a9:=L.a9;have z9:=L.z9;have v9:=L.v9;have u9:=run_underlying L.t9;have t5:=X.t5;have a5:=X.a5;have z5:=X.z5;have v5:=X.v5;have u5:=run_underlying X.t5
 go_enter L.f169,Body.n169_ntmps ρ
 go_wp2
 go_region_o
 all_goals (go_wp2;go_ret;exact⟨rfl,rfl⟩)
end
def A25(w:World)(b:Nat)(us:Array Value)(e:TypeId)(u:Value){fz:Nat × Nat}(h:w.heap[b]?=some (.cells us e fz)):w.setCell ⟨b,0,none⟩ u=w.setRow b (us.setIfInBounds 0 u):=by
 unfold World.setCell World.setRow;congr 1
 grind
def Apw:∀ {xs:List (List V)} {l:List UInt8},Vd xs=some l->l.length=xs.length/\∀ (j:Nat) x,l[j]?=some x->xs.getD j []=[.int .u8 (x.toNat:Int)]
 | [],l,h=>by
  simp[Vd]at h
  grind
 | r::xs,l,h=>by
  unfold Vd at h
  split at h
  .grind
  .rename_i n r' e;injection e with e1 e2;subst e1 e2
   split at h
   .rename_i hn;simp only[Cf]at h;obtain⟨l',h,rfl⟩:=h;obtain⟨g1,g2⟩:=Apw h
    grind[UInt8.toNat_ofNat']
   grind
  grind
/-! copyCheck -/
def Alk:Tryz.prog.underlying 211=some (.pointer 213):=by kernel_rfl
def Atc:(Tryz.prog.info? 213).map (·.size)=some 2:=by kernel_rfl
theorem Arl:Tryz.prog.cellsOf 213=2:=by kernel_rfl
def A8p:sameLayout Tryz.prog Tryz.prog.depth 213 213=true:=by kernel_rfl
def A5m:∃ d,Tryz.prog.depth=d+1:=⟨Tryz.prog.depth - 1,by kernel_rfl⟩
theorem A8q(n:Nat)(hn:1<=n):liesAt Tryz.prog Tryz.prog.depth 213 n 0 213 1=true:=by
 obtain⟨d,hd⟩:=A5m
 have hr:rowAt Tryz.prog (sameLayout Tryz.prog Tryz.prog.depth · 213) Tryz.prog.depth 213 n 0 1=true:=by
  have:=A8p;generalize hf:(fun x=>sameLayout Tryz.prog Tryz.prog.depth x 213)=f;have jd:f 213=true:=by rw[<-hf];exact this
  rw[hd];unfold rowAt;simp[Arl,jd,hn]
 grind[liesAt]
def Aqf:Tryz.prog.underlying 281=some .unsafePointer:=by kernel_rfl
set_option maxHeartbeats 1000000 in
set_option maxRecDepth 100000 in
def Bdr(b:Nat)(w:World)(h0:w.cell? ⟨b,0,none⟩=some (.pointer (some ⟨b,0,none⟩))):
  Calls Tryz.prog 213 #[.pointer (some ⟨b,0,none⟩)] w fun e w'=>e=.returned (.tuple #[])/\w'=w:=by
 obtain⟨j,hj,_⟩:=Cf.1 Atc
 go_enter Tryz.func213,Tryz.ntmps213
 go_wp2
 rw[Lib.run_neq_ptr_same w _ Alk hj]
 go_wp2
 go_end0
 grind
set_option maxHeartbeats 1000000 in
set_option maxRecDepth 100000 in
def A8r(b:Nat)(w:World)(h0:w.cell? ⟨b,0,none⟩=some (.pointer none))(n:Nat)(hn:2<=n)(qS:w.shape? b=some (213,n))(jy:w.frozen? ⟨b,0,none⟩=false):
  Calls Tryz.prog 213 #[.pointer (some ⟨b,0,none⟩)] w fun e w'=>e=.returned (.tuple #[])/\w'=w.setCell ⟨b,0,none⟩ (.pointer (some ⟨b,0,none⟩)):=by
 obtain⟨j,hj,qO⟩:=Cf.1 Atc
 go_enter Tryz.func213,Tryz.ntmps213
 go_wp2
 rw[Lib.run_to_unsafe w ⟨b,0,none⟩ Alk Aqf hj AA qS (by grind)];simp only[Result.andThen];rw[Oper.upon_value]
 go_wp2
 rw[run_callFunc_extern Tryz.func227 AD AD AD (e:=Extern.AbiNoEscape.same) AD];rw[Lib.run_noEscape];simp only[Result.andThen];rw[Oper.upon_value]
 go_wp2
 rw[Lib.run_from_unsafe w ⟨b,0,none⟩ Aqf Alk hj qS (by grind[Arl,A8q])];simp only[Result.andThen];rw[Oper.upon_value]
 go_wp2
 go_end0
 grind
/-! what they do -/
def Y5(tB:Nat):List V->St->Option (V × St)
 | [.ptr b g 0],σ=>match σ[b]? with
  | some (.row [.nilp,x] e g' 0)=>if g=g'/\e=tB then some (.tup [],σ.set b (.row [.ptr b g 0,x] e g 0)) else none
  | some (.row [.ptr b' g2 0,_] _ g' _)=>if g=g'/\b'=b/\g2=g then some (.tup [],σ) else none
  | _=>none
 | _,_=>none
def We(tB tE:Nat):List V->St->Option (V × St)
 | [.ptr b g 0],σ=>match σ[b]? with
  | some (.row [_,.nils] e g' _)=>if g=g'/\e=tB then some (.str [],σ) else none
  | some (.row [_,.sl i gi 0 len 1 _] e g' _)=>if g=g'/\e=tB/\0<len then(match σ[i]? with
   | some (.row cs e' qJ _)=>if gi=qJ/\e'=tE/\len<=cs.length then(Vd (Fg 1 len cs)).map fun l=>(.str l,σ.set i .dead) else none
   | _=>none) else none
  | _=>none
 | _,_=>none
section
variable {G:List (Nat × List V)} {N:Nat} {γ:Gh} {σ:St} {w:World}
def Inv.kill(h:Inv G N γ σ w){i k:Nat}{p:Nat × Nat}{cs:List V}{e g z:Nat}(hp:γ.O[i]?=some p)(ho:σ[i]?=some (.row cs e g z)):
  Inv G N γ (σ.set i .dead) (w.freeze ⟨p.1,0,none⟩ k)/\Ext γ w γ (w.freeze ⟨p.1,0,none⟩ k)/\Below N w (w.freeze ⟨p.1,0,none⟩ k):=by
 obtain⟨q,hq,h1,h2,h3,us,lo,hi,h4,h5,h6,h7⟩:=h.of ho;rw[hp]at hq;injection hq with hq;subst hq;obtain⟨qU,qn,f1,f2⟩:=A24 w p.1 k h4
 have qp:(w.freeze ⟨p.1,0,none⟩ k).heap.size=w.heap.size:=by unfold World.freeze;split<;>simp
 have hs:Ej (w.freeze ⟨p.1,0,none⟩ k) p.1=Ej w p.1:=by simp[Ej,f1,h4]
 have:=h.turn (w':=w.freeze ⟨p.1,0,none⟩ k) (p':=p) (ob':=.dead) (κ':=γ.κ) hp AA (fun b _ hb=>A2u w p.1 k b hb) (fun _ _ _=>rfl) (fun b k hk=>by rw[qp];exact h.dom b k hk) (fun z' hz=>⟨z',hz,Aj _,fun o _=>by grind[World.cell?]⟩) (Aj _) (fun _=>⟨rfl,hs⟩) (.inl rfl) (fun _=>by show p.1<_;grind);rw[Nw hp]at this;exact⟨this.1,this.2,Lib.below_freeze (Below.refl N w) (p:=⟨p.1,0,none⟩) (h.low i p hp) k⟩
end
def Bn7{G:List (Nat × List V)}:Tq Tryz.prog G 213 (Y5 213):=by
 refine⟨⟨Tryz.f213,_,by kernel_rfl,rfl,by decide⟩,fun args σ v σ' h us w γ N hl ha hI=>?_⟩;unfold Y5 at h
 split at h
 .rename_i b g
  match us,hl with
  | [u],_=>
  have hu:=ha 0 AE;obtain⟨b1,blk,g1,ql,hB,qP,qr⟩:=P4 (Bc rfl hu);have ql:u=.pointer (some ⟨b1,0,none⟩):=ql;subst ql
  split at h
  .rename_i x e g' hb
   split at h
   .rename_i qk;cases h;obtain⟨rfl,rfl⟩:=qk;obtain⟨p,hp,q1,q2,q3,us,lo,hi,q4,q5,q6,q7⟩:=hI.of hb;rw[hB]at hp;cases hp;have q1:g1=g:=q1;subst q1;obtain rfl:=qr rfl;have q4:w.heap[b1]?=some (.cells us 213 (lo,hi)):=q4;have q6:2<=us.size:=q6;have c0:us.getD 0 undef=.pointer none:=U7 (q7 0 AE);have c1:=q7 1 AE
    have qA:w.cell? ⟨b1,0,none⟩=some (.pointer none):=by
     simp[World.cell?,q4];have:us.getD 0 undef=us[0]:=by simp[Array.getD,show 0<us.size by omega]
     rw[<-c0,this];simp
    refine(A8r b1 w qA us.size q6 (by grind[World.shape?]) (by
     grind[World.frozen?])).mono ?_
    rintro e w' ⟨rfl,rfl⟩;rw[A25 w b1 us _ _ q4]
    obtain⟨i1,i2⟩:=hI.write (g':=g1) (us':=us.setIfInBounds 0 (.pointer (some ⟨b1,0,none⟩))) (cs':=[.ptr b g1 0,x]) hB hb q4 q5 (Aj _) (Ax _) AE q6 (fun o ho=>by omega) (fun j hj=>by
     match j,hj with
     | 0,_=>
      have:(us.setIfInBounds 0 (.pointer (some ⟨b1,0,none⟩))).getD 0 undef=.pointer (some ⟨b1,0,none⟩):=by simp[Array.getD_eq_getD_getElem?,show 0<us.size by omega]
      rw[this];exact .ptr hB (Aj _) (fun _=>rfl)
     | 1,_=>
      have:(us.setIfInBounds 0 (.pointer (some ⟨b1,0,none⟩))).getD 1 undef=us.getD 1 undef:=by simp[Array.getD_eq_getD_getElem?,Array.getElem?_setIfInBounds]
      grind)
    exact⟨_,_,rfl,.tup rfl (fun j hj=>by grind),i1,i2,Adi _ (hI.low _ _ hB),fun _ _=>rfl⟩
   grind
  .rename_i b' g2 x e g' z hb
   split at h
   .rename_i qk;cases h;obtain⟨rfl,rfl,rfl⟩:=qk;obtain⟨p,hp,q1,q2,q3,us,lo,hi,q4,q5,q6,q7⟩:=hI.of hb;rw[hB]at hp;cases hp;have q1:g1=g2:=q1;subst q1;obtain rfl:=qr rfl;have q4:w.heap[b1]?=some (.cells us e (lo,hi)):=q4;have q6:2<=us.size:=q6;obtain⟨b2,qV,g3,c0,qK,_,qy⟩:=P4 (q7 0 AE);rw[hB]at qK;cases qK;obtain rfl:=qy rfl
    have qA:w.cell? ⟨b2,0,none⟩=some (.pointer (some ⟨b2,0,none⟩)):=by
     simp[World.cell?,q4];have:us.getD 0 undef=us[0]:=by simp[Array.getD,show 0<us.size by omega]
     rw[<-c0,this];simp
    refine(Bdr b2 w qA).mono ?_;rintro e w' ⟨rfl,rfl⟩;exact⟨_,γ,rfl,.tup rfl (fun j hj=>by grind),hI,Ext.refl _ _,Below.refl _ _,fun _ _=>rfl⟩
   grind
  grind
 grind
def Bjg{G:List (Nat × List V)}:Tq Tryz.prog G 156 (We 213 5):=by
 refine⟨⟨Tryz.f156,_,by kernel_rfl,rfl,by decide⟩,fun args σ v σ' h us w γ N hl ha hI=>?_⟩;unfold We at h
 split at h
 .rename_i b g
  match us,hl with
  | [u],_=>
  have hu:=ha 0 AE;obtain⟨b1,blk,g1,ql,hB,qP,qr⟩:=P4 (Bc rfl hu);have ql:u=.pointer (some ⟨b1,0,none⟩):=ql;subst ql
  split at h
  .rename_i x e g' z hb
   split at h
   .rename_i qk;cases h;obtain⟨rfl,rfl⟩:=qk;obtain⟨p,hp,q1,q2,q3,us,lo,hi,q4,q5,q6,q7⟩:=hI.of hb;rw[hB]at hp;cases hp;have q1:g1=g:=q1;subst q1;obtain rfl:=qr rfl;have q4:w.heap[b1]?=some (.cells us 213 (lo,hi)):=q4;have q6:2<=us.size:=q6;have c1:us.getD 1 undef=.slice none 0 0:=M7 (q7 1 AE)
    have qu:w.cell? ⟨b1,1,none⟩=some (.slice none 0 0):=by
     simp[World.cell?,q4];have:us.getD 1 undef=us[1]:=by simp[Array.getD,show 1<us.size by omega]
     rw[<-c1,this];simp
    refine(A3v Tryz.lays169 Tryz.Builder_Extra_169 b1 w qu).mono ?_;rintro e w' ⟨rfl,rfl⟩;obtain⟨d1,d2⟩:=hI.drew;exact⟨_,γ,rfl,C9 (.row (.str (by grind))),d1,d2,(Below.refl N w).drew,fun _ _=>rfl⟩
   grind
  .rename_i x i gi len own e g' z hb
   split at h
   .rename_i qk;obtain⟨rfl,rfl,jg⟩:=qk
    split at h
    .rename_i cs e' qJ zi qn
     split at h
     .rename_i hc;obtain⟨rfl,rfl,qs⟩:=hc;simp only[Cf]at h;obtain⟨l,ji,h⟩:=h;cases h;obtain⟨p,hp,q1,q2,q3,us,lo,hi,q4,q5,q6,q7⟩:=hI.of hb;rw[hB]at hp;cases hp;have q1:g1=g:=q1;subst q1;obtain rfl:=qr rfl;have q4:w.heap[b1]?=some (.cells us 213 (lo,hi)):=q4;have q6:2<=us.size:=q6;obtain⟨bb,oo,cap,bk,gk,c1,k1,k2,k3,k4,k5,k6⟩:=Xr (q7 1 AE);have c1:us.getD 1 undef=.slice (some ⟨bb,oo,none⟩) len cap:=c1;obtain⟨p,hp,r1,r2,r3,vs,Mv,qv,r4,r5,r6,r7⟩:=hI.of qn;rw[k1]at hp;cases hp;have r1:gk=gi:=r1;subst r1;obtain⟨rfl,_⟩:=k6 rfl;obtain rfl:=k5 AA;have r4:w.heap[bb]?=some (.cells vs 5 (Mv,qv)):=r4;obtain⟨n1,n2⟩:=Apw ji;have qQ:l.length=len:=by rw[n1];simp[Aam]
      have qu:w.cell? ⟨b1,1,none⟩=some (.slice (some ⟨bb,0,none⟩) l.length cap):=by
       rw[qQ];simp[World.cell?,q4];have:us.getD 1 undef=us[1]:=by simp only[Array.getD];rw[dif_pos (show 1<us.size by omega)];rfl
       rw[<-c1,this];simp
      refine(A3u Tryz.lays169 Tryz.Builder_Extra_169 b1 bb cap vs (Mv,qv) l w (by grind) qu r4 AA AA (by grind[maxLen]) (fun j x hj=>?_)).mono ?_
      .have qC:j<len:=by rw[<-qQ];exact(Ao.1 hj).1
       have a1:=n2 j x hj;have a2:=r7 j AA
       have ja:cs.getD j .und=.int .u8 (x.toNat:Int):=by
        rw[Aam]at a1;have qB:j<cs.length:=by omega
        simp[Ef,qC,qB]at a1;rw[Ef,B9 qB];rw[List.take_one]at a1;simpa[qB] using a1
       rw[ja]at a2;have a3:=Et a2;rw[M8];have qO:j<vs.size:=by omega
       have:vs.getD j undef=vs[j]:=by simp[Array.getD,qO]
       grind[World.cell?]
      .rintro e w' ⟨rfl,rfl⟩;obtain⟨d1,d2⟩:=hI.drew;obtain⟨f1,f2,f3⟩:=d1.kill (k:=l.length) k1 qn;exact⟨_,γ,rfl,C9 (.row (.str AA)),f1,d2.trans f2,((Below.refl N w).drew).trans f3,fun _ _=>rfl⟩
     grind
    grind
   grind
  grind
 grind
open Go Go.RowKit Go.Sort
def gPow:List V:=Lib.pow10Tab.map fun z=>.int .u64 z
variable {G:List (Nat × List V)}
def A8s:Tryz.prog.globalNamed "internal/strconv.uint64pow10"=some 1:=by kernel_rfl
def Ayk{κ:Ey}{w:World}(h:∀ g r,(g,r)∈G->RepC ⟨κ,[]⟩ w (.imm r 0) (.pointer (some ⟨g,0,none⟩)))(hs:∀ g r,(g,r)∈G->Ej w g=some r.length)(qe:(1,gPow)∈G):
  Lib.TabIs Tryz.prog w "internal/strconv.uint64pow10" .u64 Lib.pow10Tab:=by
 have h1:=h _ _ qe;have h2:=hs _ _ qe;obtain⟨b,o,k,row,hu,h3,h4,h5,h6⟩:=Nx h1;simp at hu;obtain⟨rfl,rfl⟩:=hu;unfold Ej at h2
 split at h2
 .rename_i cs e fz hh;simp only[Adc]at h2;unfold Lib.TabIs World.var?;rw[A8s];simp only[C5,hh];congr 1;apply Array.ext
  .grind[gPow]
  .intro i je qv;have qg:i<gPow.length:=by omega
   have a1:=h5 i qg;have a2:=h6 i qg;have jf:i<Lib.pow10Tab.length:=by simpa[gPow] using qg
   rw[show gPow.getD i .und=.int .u64 Lib.pow10Tab[i] by grind[gPow]]at a2;have a3:=Et (γ:=⟨κ,[]⟩) (.row a2)
   grind[World.cell?]
 grind
def Sw{κ:Ey}{w w':World}{v:V}{u:Value}{e:Ending}(hd:∀ b k,κ b=some k->b<w.heap.size)(hv:∀ κ' w',RepV ⟨κ',[]⟩ w' v u)(h:e=.returned u/\Below w.heap.size w w'):
  ∃ u κ',e=.returned u/\RepV ⟨κ',[]⟩ w' v u/\Below w.heap.size w w'/\(∀ b,b<w.heap.size->κ' b=κ b)/\∀ b k,κ' b=some k->b<w'.heap.size:=
 ⟨_,κ,h.1,hv κ w',h.2,fun _ _=>rfl,fun b k hk=>Px (hd b k hk) h.2.size⟩
def Akg{κ:Ey}{w w':World}{l:List UInt8}{e:Ending}(hd:∀ b k,κ b=some k->b<w.heap.size)(hl:l.length<=maxLen)(h:e=.returned (.string ⟨l.toArray⟩)/\Below w.heap.size w w'):
  ∃ u κ',e=.returned u/\RepV ⟨κ',[]⟩ w' (.str l) u/\Below w.heap.size w w'/\(∀ b,b<w.heap.size->κ' b=κ b)/\∀ b k,κ' b=some k->b<w'.heap.size:=
 ⟨_,κ,h.1,C9 (.row (.str hl)),h.2,fun _ _=>rfl,fun b k hk=>Px (hd b k hk) h.2.size⟩
theorem Aqg(w:World)(k:Nat)(os:Array Obj):Below w.heap.size w (grow (w.drewN k) os):=
 ⟨rfl,rfl,rfl,by simp_all,fun k hk=>by grind[grow,World.drewN]⟩
/-! numerals, so that they can be run -/
def Ij:Nat->Nat->List UInt8
 | 0,_=>[]
 | k+1,u=>if u<10 then [UInt8.ofNat (48+u)] else Ij k (u / 10)++[UInt8.ofNat (48+u % 10)]
theorem Awa:∀ (k u:Nat),u<10 ^ (k+1)->Ij (k+1) u=Lib.decDigits u
 | 0,u,h=>by
  simp_all [Lib.decDigits,Ij]
 | k+1,u,h=>by
  rw[Lib.decDigits];unfold Ij
  split
  .rfl
  .rw[Awa k (u / 10) AA]
def B3(n:Int):List UInt8:=if n<0 then 45::Ij 20 n.natAbs else Ij 20 n.toNat
def Atd(n:Int)(h1 : -9223372036854775808<=n)(h2:n<=9223372036854775807):B3 n=Lib.itoa n:=by
 grind[B3,Lib.itoa,Awa]
def Qx:List V->Option V
 | [.int .i64 n,.int .i64 10]=>if -9223372036854775808<=n/\n<=9223372036854775807 then some (.str (B3 n)) else none
 | _=>none
def Yl:List V->Option V
 | [.int .i64 n]=>if -9223372036854775808<=n/\n<=9223372036854775807 then some (.str (B3 n)) else none
 | _=>none
def Yz:List V->Option V
 | [.str s,.int .i64 c]=>if 0<=c/\c<=9223372036854775807/\s.length*c.toNat<=140737488355328 then some (.str (Lib.repeatL s c.toNat)) else none
 | _=>none
def hpS:List V->Option V
 | [.str s,.str p]=>some (.bool (Lib.hasPrefix s p))
 | _=>none
def Wj{α:Type}{us:List α}(h:2=us.length):∃ a b,us=[a,b]:=by
 match us,h with
 | [a,b],_=>grind
def A1c{α:Type}{us:List α}(h:1=us.length):∃ a,us=[a]:=by
 match us,h with
 | [a],_=>grind
def Bjh(qe:(1,gPow)∈G):Iz Tryz.prog G 62 Qx:=by
 refine⟨⟨Tryz.f62,_,by kernel_rfl,rfl,by decide⟩,fun κ w vs us v hg hs hd hl ha h=>?_⟩;unfold Qx at h
 split at h
 .rename_i n
  split at h
  .rename_i hn;cases h;obtain⟨a,b,rfl⟩:=Wj hl;have h1:=Et (Hz rfl (ha 0 AE));have h2:=Et (Hz rfl (ha 1 AE));have h1:a=.int .i64 n:=h1;have h2:b=.int .i64 10:=h2;subst h1 h2;rw[Atd n hn.1 hn.2];refine(Tryz.strconv_FormatInt_10 n hn.1 hn.2 w (Ayk hg hs qe)).mono fun e w' hh=>Akg hd (by grind[Lib.itoa_length_le,maxLen]) ?_
   obtain⟨h,k,os,rfl⟩:=hh
   grind[Aqg]
  grind
 grind
def Bds(qe:(1,gPow)∈G):Iz Tryz.prog G 61 Yl:=by
 refine⟨⟨Tryz.f61,_,by kernel_rfl,rfl,by decide⟩,fun κ w vs us v hg hs hd hl ha h=>?_⟩;unfold Yl at h
 split at h
 .rename_i n
  split at h
  .rename_i hn;cases h;obtain⟨a,rfl⟩:=A1c hl;have h1:=Et (Hz rfl (ha 0 AE));have h1:a=.int .i64 n:=h1;subst h1;rw[Atd n hn.1 hn.2];refine(Tryz.strconv_Itoa n hn.1 hn.2 w (Ayk hg hs qe)).mono fun e w' hh=>Akg hd (by grind[Lib.itoa_length_le,maxLen]) ?_
   obtain⟨h,k,os,rfl⟩:=hh
   grind[Aqg]
  grind
 grind
def Bji:Iz Tryz.prog G 186 Yz:=by
 refine⟨⟨Tryz.f186,_,by kernel_rfl,rfl,by decide⟩,fun κ w vs us v hg hs hd hl ha h=>?_⟩;unfold Yz at h
 split at h
 .rename_i s c
  split at h
  .rename_i hc;cases h;obtain⟨a,b,rfl⟩:=Wj hl;have h1:=(G5 (Hz rfl (ha 0 AE))).1;have h2:=Et (Hz rfl (ha 1 AE));have h1:a=.string ⟨s.toArray⟩:=h1;have h2:b=.int .i64 c:=h2;obtain⟨n,rfl⟩:∃ n:Nat,c=n:=⟨c.toNat,by omega⟩;subst h1 h2;have jx:s.length*n<=140737488355328:=by simpa using hc.2.2
   have:=Tryz.strings_Repeat ⟨s.toArray⟩ n w AA (by grind[Na]);refine this.mono fun e w' hh=>Akg hd ?_ (by grind)
   grind[Lib.repeatL_length,maxLen]
  grind
 grind
def Bn8:Iz Tryz.prog G 53 hpS:=by
 refine⟨⟨Tryz.f53,_,by kernel_rfl,rfl,by decide⟩,fun κ w vs us v hg hs hd hl ha h=>?_⟩;unfold hpS at h
 split at h
 .rename_i s p;cases h;obtain⟨a,b,rfl⟩:=Wj hl;have h1:=(G5 (Hz rfl (ha 0 AE))).1;have h2:=(G5 (Hz rfl (ha 1 AE))).1;have h1:a=.string ⟨s.toArray⟩:=h1;have h2:b=.string ⟨p.toArray⟩:=h2;subst h1 h2;refine(Tryz.strings_HasPrefix ⟨s.toArray⟩ ⟨p.toArray⟩ w).mono ?_;rintro e w' ⟨rfl,rfl⟩;exact⟨_,κ,rfl,C9 (.row .bool),Below.refl _ _,fun _ _=>rfl,hd⟩
 grind
def Aho:List V->Option V
 | [.str a,.str b]=>some (.int .i64 (Lib.compareBytes a b))
 | _=>none
def Ur:List V->Option V
 | [.str s,.int .u8 c]=>some (.int .i64 (Lib.indexByte s c.toNat.toUInt8))
 | _=>none
def Acb:List V->Option V
 | [.str s,.str p]=>if s.length<4294967281 then some (.tup [.str (Lib.cut s p).1,.str (Lib.cut s p).2.1,.bool (Lib.cut s p).2.2]) else none
 | _=>none
def Y6:List V->Option V
 | [.str s,.str [c]]=>if c.toNat<128 then some (.str (Lib.trimLeftB s c)) else none
 | _=>none
def Y7:List V->Option V
 | [.str s,.int .i64 10,.int .i64 64]=>if s.length<=281474976710656 then(match Lib.parseIntB 64 s with
  | .ok v=>some (.tup [.int .i64 v,.nili])
  | Lib.NumEnd.syntax=>some (.tup [.int .i64 0,.ifc])
  | .range=>some (.tup [.int .i64 (Lib.intSat 64 s),.ifc])) else none
 | _=>none
def A1d{γ:Gh}{w:World}{vs:List V}{us:List Value}(h1:vs.length=us.length)(h2:∀ j,j<vs.length->RepC γ w (vs.getD j .und) (us.getD j undef)):RepV γ w (.tup vs) (.tuple us.toArray):=
 .tup h1 (fun j hj=>.cell (h2 j hj))
def Bjj:Iz Tryz.prog G 134 Aho:=by
 refine⟨⟨Tryz.f134,_,by kernel_rfl,rfl,by decide⟩,fun κ w vs us v hg hs hd hl ha h=>?_⟩;unfold Aho at h
 split at h
 .rename_i s p;cases h;obtain⟨a,b,rfl⟩:=Wj hl;have h1:=(G5 (Hz rfl (ha 0 AE))).1;have h2:=(G5 (Hz rfl (ha 1 AE))).1;have h1:a=.string ⟨s.toArray⟩:=h1;have h2:b=.string ⟨p.toArray⟩:=h2;subst h1 h2;refine(Tryz.strings_Compare ⟨s.toArray⟩ ⟨p.toArray⟩ w).mono ?_;rintro e w' ⟨rfl,rfl⟩;exact Sw hd (fun κ' w'=>C9 (.row .int)) ⟨rfl,Below.refl _ _⟩
 grind
def Bn9:Iz Tryz.prog G 91 Ur:=by
 refine⟨⟨Tryz.f91,_,by kernel_rfl,rfl,by decide⟩,fun κ w vs us v hg hs hd hl ha h=>?_⟩;unfold Ur at h
 split at h
 .rename_i s c;cases h;obtain⟨a,b,rfl⟩:=Wj hl;have h1:=(G5 (Hz rfl (ha 0 AE))).1;have h2:=Et (Hz rfl (ha 1 AE));have h1:a=.string ⟨s.toArray⟩:=h1;have h2:b=.int .u8 c:=h2;subst h1 h2;refine(Tryz.strings_IndexByte ⟨s.toArray⟩ c w).mono ?_;rintro e w' ⟨rfl,rfl⟩;exact Sw hd (fun κ' w'=>C9 (.row .int)) ⟨rfl,Below.refl _ _⟩
 grind
def A8t{κ:Ey}{w:World}{g:Nat}{m:Int}(h:∀ g r,(g,r)∈G->RepC ⟨κ,[]⟩ w (.imm r 0) (.pointer (some ⟨g,0,none⟩)))(qe:(g,[V.int .i64 m])∈G):w.cell? ⟨g,0,none⟩=some (.int .i64 m):=by
 obtain⟨b,o,k,row,hu,h3,h4,h5,h6⟩:=Nx (h _ _ qe);simp at hu;obtain⟨rfl,rfl⟩:=hu;have a1:=h5 0 AE;have a2:=h6 0 AE;have a3:=Et (γ:=⟨κ,[]⟩) (.row a2)
 grind
def Bdt(s p:List UInt8):(Lib.cut s p).1.length<=s.length/\(Lib.cut s p).2.1.length<=s.length:=by
 grind[Lib.cut]
def Bjk{m:Int}(qe:(2,[V.int .i64 m])∈G):Iz Tryz.prog G 118 Acb:=by
 refine⟨⟨Tryz.f118,_,by kernel_rfl,rfl,by decide⟩,fun κ w vs us v hg hs hd hl ha h=>?_⟩;unfold Acb at h
 split at h
 .rename_i s p
  split at h
  .rename_i qg;cases h;obtain⟨a,b,rfl⟩:=Wj hl;obtain⟨h1,hm⟩:=G5 (Hz rfl (ha 0 AE));have h2:=(G5 (Hz rfl (ha 1 AE))).1;have h1:a=.string ⟨s.toArray⟩:=h1;have h2:b=.string ⟨p.toArray⟩:=h2;subst h1 h2;refine(Tryz.strings_Cut ⟨s.toArray⟩ ⟨p.toArray⟩ m w (by grind[Na]) (A8t hg qe)).mono ?_;rintro e w' ⟨rfl,n,rfl⟩;obtain⟨c1,c2⟩:=Bdt s p;refine Sw hd (fun κ' w'=>A1d (us:=[.string ⟨(Lib.cut s p).1.toArray⟩,.string ⟨(Lib.cut s p).2.1.toArray⟩,.bool (Lib.cut s p).2.2]) rfl (fun j hj=>?_)) ⟨rfl,⟨rfl,rfl,rfl,Aj _,fun _ _=>rfl⟩⟩
   match j,hj with
   | 0,_=>exact .row (.str AA)
   | 1,_=>exact .row (.str AA)
   | 2,_=>exact .row .bool
  grind
 grind
def Boa:Iz Tryz.prog G 137 Y6:=by
 refine⟨⟨Tryz.f137,_,by kernel_rfl,rfl,by decide⟩,fun κ w vs us v hg hs hd hl ha h=>?_⟩;unfold Y6 at h
 split at h
 .rename_i s c
  split at h
  .rename_i qg;cases h;obtain⟨a,b,rfl⟩:=Wj hl;obtain⟨h1,hm⟩:=G5 (Hz rfl (ha 0 AE));have h2:=(G5 (Hz rfl (ha 1 AE))).1;have h1:a=.string ⟨s.toArray⟩:=h1;have h2:b=.string ⟨#[c]⟩:=h2;subst h1 h2;refine(Tryz.strings_TrimLeft_one ⟨s.toArray⟩ c qg w).mono ?_;rintro e w' ⟨rfl,rfl⟩;refine Sw hd (fun κ' w'=>C9 (.row (.str ?_))) ⟨rfl,Below.refl _ _⟩;exact C8 (List.dropWhile_sublist _).length_le hm
  grind
 grind
def Ayl{κ:Ey}{w:World}{g:Nat}{nm:String}(hn:Tryz.prog.globalNamed nm=some g)(h:∀ g r,(g,r)∈G->RepC ⟨κ,[]⟩ w (.imm r 0) (.pointer (some ⟨g,0,none⟩)))(hs:∀ g r,(g,r)∈G->Ej w g=some r.length)(qe:(g,[V.ifc])∈G):
  ∃ t p,w.var? Tryz.prog nm=some #[.iface t p]:=by
 obtain⟨b,o,k,row,hu,h3,h4,h5,h6⟩:=Nx (h _ _ qe);simp at hu;obtain⟨rfl,rfl⟩:=hu;have a1:=h5 0 AE;have a2:=h6 0 AE;obtain⟨t,p,a3⟩:=Aj9 (γ:=⟨κ,[]⟩) (.row a2);rw[a3]at a1;have h2:=hs _ _ qe;unfold Ej at h2
 split at h2
 .rename_i cs e fz hh;simp only[Adc,An,Dc,Gf]at h2;refine⟨t,p,?_⟩;unfold World.var?;rw[hn];simp only[C5,hh];congr 1;apply Array.ext
  .omega
  .intro i je qv;obtain rfl:i=0:=by omega
   grind[World.cell?]
 grind
def Awb:Tryz.prog.globalNamed "strconv.ErrSyntax"=some 7:=by kernel_rfl
def Awc:Tryz.prog.globalNamed "strconv.ErrRange"=some 8:=by kernel_rfl
def All{γ:Gh}{w:World}{n:Int}{v:V}{u:Value}(h:RepC γ w v u):RepV γ w (.tup [.int .i64 n,v]) (.tuple #[.int .i64 n,u]):=
 A1d (us:=[.int .i64 n,u]) rfl (fun j hj=>by
  match j,hj with
  | 0,_=>exact .row .int
  | 1,_=>exact h)
theorem A26(w:World)(e:TypeId)(t:ByteArray):Below w.heap.size w (Lib.bytesWorld w e t):=by
 unfold Lib.bytesWorld;refine Lib.below_freeze ?_ (p:=⟨w.heap.size,_,none⟩) (Aj _) _;exact(Below.refl _ w).drew.alloc (show w.heap.size<=w.drew.heap.size from Aj _) _
def Bob{α:Type}{us:List α}(h:3=us.length):∃ a b c,us=[a,b,c]:=by
 match us,h with
 | [a,b,c],_=>grind
def Boc(h1:(7,[V.ifc])∈G)(h2:(8,[V.ifc])∈G):Iz Tryz.prog G 169 Y7:=by
 refine⟨⟨Tryz.f169,_,by kernel_rfl,rfl,by decide⟩,fun κ w vs us v hg hs hd hl ha h=>?_⟩;unfold Y7 at h
 split at h
 .rename_i s
  split at h
  .rename_i qg;obtain⟨a,b,c,rfl⟩:=Bob hl;obtain⟨g1,hm⟩:=G5 (Hz rfl (ha 0 AE));have g2:=Et (Hz rfl (ha 1 AE));have g3:=Et (Hz rfl (ha 2 AE));have g1:a=.string ⟨s.toArray⟩:=g1;have g2:b=.int .i64 10:=g2;have g3:c=.int .i64 64:=g3;subst g1 g2 g3
   split at h
   .rename_i n hn;cases h;refine(Tryz.strconv_ParseInt_10_at64_ok ⟨s.toArray⟩ (by grind[Na]) n hn w).mono ?_;rintro e w' ⟨rfl,hw⟩;refine Sw hd (fun κ' w'=>All (.row .nili)) ⟨rfl,?_⟩;rcases hw with rfl | ⟨t,rfl⟩
    .grind[Below.refl]
    grind[A26]
   .rename_i hn;cases h;obtain⟨t,p,hv⟩:=Ayl Awb hg hs h1;refine(Tryz.strconv_ParseInt_10_at64_syntax_var ⟨s.toArray⟩ (by grind[Na]) hn t p w hv).mono ?_;rintro e w' ⟨N,rfl,_,_,hb⟩;exact Sw hd (fun κ' w'=>All .ifc) ⟨rfl,hb⟩
   .rename_i hn;cases h;obtain⟨t,p,hv⟩:=Ayl Awc hg hs h2;refine(Tryz.strconv_ParseInt_10_at64_range_var ⟨s.toArray⟩ (by grind[Na]) hn t p w hv).mono ?_;rintro e w' ⟨N,rfl,_,_,hb⟩;exact Sw hd (fun κ' w'=>All .ifc) ⟨rfl,hb⟩
  grind
 grind
open Go Go.RowKit Go.Sort
variable {G:List (Nat × List V)}
open Go Go.RowKit
def Dx(zs:List Int):List V:=zs.map (V.int .i64)
def Vt:List V->Option (List Int)
 | []=>some []
 | .int .i64 n::l=>(Vt l).map (n::·)
 | _=>none
def Ate:∀ zs:List Int,Vt (Dx zs)=some zs
 | []=>rfl
 | z::zs=>by
  have:=Ate zs
  grind[Dx,Vt]
def A5n{cs:List V}:∀ {zs:List Int},Vt cs=some zs->cs=Dx zs:=by
 induction cs with
 | nil=>intro zs h;cases h;rfl
 | cons c l ih=>
  intro zs h;unfold Vt at h
  split at h
  .grind
  .rename_i n l' e;cases e
   cases h1:Vt l with
   | none=>grind
   | some ys=>
    rw[h1]at h;cases h;rw[ih h1];rfl
  grind
section
variable {G:List (Nat × List V)} {N:Nat} {γ:Gh} {σ:St} {w:World}
def A5o(hI:Inv G N γ σ w){i g e b:Nat}{zs:List Int}(hO:γ.O[i]?=some (b,g))(ho:σ[i]?=some (.row (Dx zs) e g 0)):Sort.Holds (Value.int .i64) w b 0 zs.toArray:=by
 obtain⟨p,hp,h1,h2,h3,us,lo,hi,h4,h5,h6,h7⟩:=hI.of ho;rw[hO]at hp;cases hp;have h4:w.heap[b]?=some (.cells us e (lo,hi)):=h4;have h6:zs.length<=us.size:=by simpa[Dx] using h6
 intro j hj;have hj:j<zs.length:=by simpa using hj
 have h8:=h7 j (by grind[Dx]);have e1:(Dx zs).getD j .und=.int .i64 zs[j]:=by simp[Dx,hj]
 rw[e1]at h8;have e2:us.getD j undef=.int .i64 zs[j]:=Et h8;have e3:us.getD j undef=us[j]:=by simp[Array.getD,show j<us.size by omega]
 have e4:(zs.toArray[j]!)=zs[j]:=by rw[getElem!_pos zs.toArray j AA];simp
 constructor
 .simp[World.cell?,h4,Gf,show j<us.size by omega]
  grind
 .simp only[World.frozen?,h4,Gf]
  grind
def A3w(hI:Inv G N γ σ w){i g e b n:Nat}{zs zs':List Int}{os:Array Obj}(hO:γ.O[i]?=some (b,g))(ho:σ[i]?=some (.row (Dx zs) e g 0))(hl:zs'.length=zs.length):
  Inv G N γ (σ.set i (.row (Dx zs') e g 0)) (Sort.grow (Sort.putRow (Value.int .i64) (Sort.ahead w n) b 0 zs'.toArray) os)/\Ext γ w γ (Sort.grow (Sort.putRow (Value.int .i64) (Sort.ahead w n) b 0 zs'.toArray) os)/\Below N w (Sort.grow (Sort.putRow (Value.int .i64) (Sort.ahead w n) b 0 zs'.toArray) os):=by
 obtain⟨p,hp,h1,h2,h3,us,lo,hi,h4,h5,h6,h7⟩:=hI.of ho;rw[hO]at hp;cases hp;have h4:w.heap[b]?=some (.cells us e (lo,hi)):=h4;have h6:zs.length<=us.size:=by simpa[Dx] using h6
 have qp:(Sort.putCells (Value.int .i64) 0 zs'.toArray us).size=us.size:=by simp[Sort.putCells]
 have hc:∀ j,j<(Dx zs').length->RepC γ w ((Dx zs').getD j .und) ((Sort.putCells (Value.int .i64) 0 zs'.toArray us).getD j undef):=by
  intro j hj;have hj:j<zs'.length:=by simpa[Dx] using hj
  have e1:(Dx zs').getD j .und=.int .i64 zs'[j]:=by simp[Dx,hj]
  have e2:(Sort.putCells (Value.int .i64) 0 zs'.toArray us).getD j undef=.int .i64 zs'[j]:=by
   have e4:(zs'.toArray[j]!)=zs'[j]:=by rw[getElem!_pos zs'.toArray j AA];simp
   simp[Sort.putCells,Array.getD_eq_getD_getElem?,Array.getElem?_mapIdx,show j<us.size by omega,hj]
  rw[e1,e2];exact .row .int
 obtain⟨i1,i2⟩:=hI.write (g':=g) (us':=Sort.putCells (Value.int .i64) 0 zs'.toArray us) (cs':=Dx zs') hO ho h4 h5 (Aj _) (Ax _) qp (by grind[Dx]) (fun o ho=>by omega) hc;rw[Nw hO]at i1 i2;have hb:b<w.heap.size:=hI.oblt hO
 have qi:∀ k,k<(w.setRow b (Sort.putCells (Value.int .i64) 0 zs'.toArray us)).heap.size->(Sort.grow (Sort.putRow (Value.int .i64) (Sort.ahead w n) b 0 zs'.toArray) os).heap[k]?=(w.setRow b (Sort.putCells (Value.int .i64) 0 zs'.toArray us)).heap[k]?:=by
  intro k hk;have hk:k<w.heap.size:=by simpa[World.setRow] using hk
  rw[Sort.heap_grow_old _ _ (by simp_all)];simp only[Sort.putRow,Sort.mapBlock,Sort.ahead,Array.getElem?_modify];by_cases qD:b=k
  .subst qD;rw[setRow_heap w b us _ e _ h4,if_pos rfl,h4];rfl
  .rw[if_neg qD,setRow_other w b k _ (Ne.symm qD)]
 have hs:(w.setRow b (Sort.putCells (Value.int .i64) 0 zs'.toArray us)).heap.size<=(Sort.grow (Sort.putRow (Value.int .i64) (Sort.ahead w n) b 0 zs'.toArray) os).heap.size:=by
  simp[World.setRow,Sort.putRow,Sort.mapBlock,Sort.ahead]
 obtain⟨j1,j2⟩:=i1.more (κ':=γ.κ) qi hs (fun _ _=>rfl) (fun b k hk=>Px (i1.dom b k hk) hs);refine⟨j1,i2.trans j2,⟨rfl,rfl,rfl,?_,fun k hk=>?_⟩⟩
 .simp_all
 .have h9:=hI.base;rw[qi k (by grind[World.setRow]),setRow_other w b k _ (by have:=hI.low _ _ hO;omega)]
end
/-! what they do -/
def I5(zs:List Int):List Int:=zs.mergeSort fun x y=>decide (x<=y)
def Acc:List V->St->Option (V × St)
 | [.nils],σ=>some (.tup [],σ)
 | [.sl i g 0 len 1 _],σ=>match σ[i]? with
  | some (.row cs e g' 0)=>match Vt cs with
   | some zs=>if g=g'/\zs.length=len/\len<4611686018427387904 then some (.tup [],σ.set i (.row (Dx (I5 zs)) e g' 0)) else none
   | none=>none
  | _=>none
 | _,_=>none
def Ajo(zs:List Int):(I5 zs).length=zs.length:=List.length_mergeSort _
def A8u{γ:Gh}{w:World}{i g len m:Nat}{own:Bool}{u:Value}(h:RepC γ w (.sl i g 0 len m own) u):∃ blk g' b' o' cap,u=.slice (some ⟨b',o',none⟩) len cap/\γ.O[i]?=some (blk,g')/\g<=g'/\len<=cap/\cap<=maxLen/\(0<cap->o'=0)/\(g=g'->b'=blk/\(own=true->Ej w blk=some (0+cap*m))):=by
 cases h with
 | row h=>cases h
 | sl h1 h2 h3 h4 h5 h6=>grind
def Bjl{G:List (Nat × List V)}:Tq Tryz.prog G 46 Acc:=by
 refine⟨⟨Tryz.f46,_,by kernel_rfl,rfl,by decide⟩,fun args σ v σ' h us w γ N hl ha hI=>?_⟩;unfold Acc at h
 split at h
 .cases h
  match us,hl with
  | [u],_=>
  have hu:u=.slice none 0 0:=M7 (Bc rfl (ha 0 AE));subst hu;refine(Tryz.slices_Sort_int_none none 0 w).mono ?_;rintro e w' ⟨rfl,rfl⟩;exact⟨_,γ,rfl,.tup rfl (fun j hj=>by grind),hI,Ext.refl _ _,Below.refl _ _,fun _ _=>rfl⟩
 .rename_i i g len own
  match us,hl with
  | [u],_=>
  obtain⟨blk,g1,b',o',cap,rfl,hO,jA,qu,jv,qY,qZ⟩:=A8u (Bc rfl (ha 0 AE))
  split at h
  .rename_i cs e g' hi
   split at h
   .rename_i zs hz
    split at h
    .rename_i hc;cases h;obtain⟨rfl,rfl,qp⟩:=hc;have qh:=A5n hz;subst qh;obtain⟨p,hp,q1,-⟩:=hI.of hi;rw[hO]at hp;cases hp;have q1:g1=g:=q1;subst q1;obtain⟨rfl,-⟩:=qZ rfl;rcases Ww cap with h0 | h0
     .have hn:zs=[]:=Zc.1 AA;subst hn;subst h0;refine(Tryz.slices_Sort_int_none (some ⟨b',o',none⟩) 0 w).mono ?_;rintro e w' ⟨rfl,rfl⟩;rw[show I5 []=[] by simp[I5],Nw hi];exact⟨_,γ,rfl,.tup rfl (fun j hj=>by omega),hI,Ext.refl _ _,Below.refl _ _,fun _ _=>rfl⟩
     .obtain rfl:=qY h0;refine(Tryz.slices_Sort_int b' 0 cap zs w (A5o hI hO hi) (hI.oblt hO) qp).mono ?_;rintro e w' ⟨rfl,n,os,rfl⟩;obtain⟨i1,i2,i3⟩:=A3w (n:=n) (os:=os) (zs':=I5 zs) hI hO hi (Ajo zs);exact⟨_,γ,rfl,.tup rfl (fun j hj=>by grind),i1,i2,i3,fun _ _=>rfl⟩
    grind
   grind
  grind
 grind
