/- Lists that grow and shrink at their end; what a struct and its lists may change. -/
import Derived.Test.YtcoeikinocflnaaGreatDoorA5
set_option linter.all false
namespace Go.Proofs.YtcoeikinocflnaaGreatDoor.KM
open Go
def GS(σ:St)(m e:Nat)(u:V)(xs:List (List V)):Prop:=
 ((∀ r∈xs,r.length=m)/\∀ r∈xs,r.all V.rowB=true)/\((u=.nils/\xs=[])\/∃ i g r q,u=.sl i g 0 xs.length m true/\σ[i]?=some (.row (xs.flatten++r) e g 0)/\r.length=q*m/\r.all V.rowB=true)
theorem Uy{σ:St}{m e:Nat}:GS σ m e .nils []:=⟨⟨by simp,by simp⟩,.inl ⟨rfl,rfl⟩⟩
theorem Hg{σ:St}{m e:Nat}{u:V}{xs:List (List V)}(h:GS σ m e u xs):u.cellB=true:=by
 rcases h.2 with⟨rfl,-⟩ | ⟨i,g,r,q,rfl,-⟩<;>rfl
theorem Uz{σ:St}{m e:Nat}{u:V}{xs:List (List V)}(h:GS σ m e u xs):P0 u=some (.int .i64 (xs.length:Int)):=by
 rcases h.2 with⟨rfl,rfl⟩ | ⟨i,g,r,q,rfl,-⟩<;>rfl
theorem Ch{σ:St}{m e:Nat}{u:V}{xs:List (List V)}(h:GS σ m e u xs):∀ i∈u.refs,i<σ.length:=by
 rcases h.2 with⟨rfl,rfl⟩ | ⟨i,g,r,q,rfl,ho,-⟩
 ·intro i hi;simp[V.refs]at hi
 ·intro j hj;simp[V.refs]at hj;subst hj;exact(Ar.1 ho).1
theorem F5{σ τ:St}{m e:Nat}{u:V}{xs:List (List V)}(h:GS σ m e u xs)(hk:∀ i∈u.refs,τ[i]?=σ[i]?):GS τ m e u xs:=by
 refine⟨h.1,?_⟩;rcases h.2 with h2 | ⟨i,g,r,q,rfl,ho,h2⟩
 ·exact .inl h2
 ·exact .inr ⟨i,g,r,q,rfl,by rw[hk i (by simp[V.refs])];exact ho,h2⟩
theorem Ll{cs:List V}(h:cs.all V.rowB=true):Aj cs=[]:=Iu h
theorem Rd{σ:St}{m e bytes:Nat}{u:V}{xs:List (List V)}{row:List V}(h:GS σ m e u xs)(hm:0<m)(hrl:row.length=m)(hrow:row.all V.rowB=true)(hb:(xs.length+1)*bytes<=140737488355328):
  ∃ u' σ',Eu bytes (m,e) u (.lst 1 [row]) σ=some (u',σ')/\GS σ' m e u' (xs++[row])/\σ.length<=σ'.length/\(∀ j,j<σ.length->j ∉ u.refs->σ'[j]?=σ[j]?)/\(∀ j∈u'.refs,j∈u.refs\/σ.length<=j)/\(Cl σ->Cl σ'):=by
 obtain⟨⟨hl,hr⟩,h⟩:=h;have hall:([row].all fun r=>r.length==m)=true:=by simp[hrl]
 have hl2:∀ r∈xs++[row],r.length=m:=fun r hx=>by
  rcases Cq.1 hx with hx | hx
  ·exact hl r hx
  ·rw[Ey.1 hx];exact hrl
 have hr2:∀ r∈xs++[row],r.all V.rowB=true:=fun r hx=>by
  rcases Cq.1 hx with hx | hx
  ·exact hr r hx
  ·rw[Ey.1 hx];exact hrow
 unfold Eu;simp only[Ft,Cz];unfold I5;rw[if_pos ⟨hall,hm⟩];rcases h with⟨rfl,rfl⟩ | ⟨i,g,r,q,rfl,ho,hq,hrr⟩
 ·simp only;rw[if_pos (by simpa using hb),if_neg (by simp)];refine⟨_,_,rfl,⟨⟨hl2,hr2⟩,.inr ⟨σ.length,0,[],0,rfl,by simp,by simp,rfl⟩⟩,by simp,fun j hj _=>Co hj,fun j hj=>?_,fun hc=>Pe hc ?_⟩
  ·simp[V.refs]at hj;exact .inr (by omega)
  ·simp[Ob.refs,Ll hrow]
 ·have hi:i<σ.length:=(Ar.1 ho).1;have hf:=J7 hl;have hcl:(xs.flatten++r).length=xs.length*m+q*m:=by rw[Ao,hf,hq]
  simp only;rw[if_pos ⟨hb,trivial⟩];simp only[ho,if_true];rw[if_neg (by simp),if_pos ⟨trivial,trivial,trivial,A2 _⟩];have hmul:(xs.length+[row].length)*m=xs.length*m+m:=by rw[Hr,D9]
  by_cases h0:q=0
  ·subst h0;have hr0:r=[]:=V0.1 (by omega);subst hr0;rw[if_neg (by rw[hcl,hmul];omega),if_pos (by rw[hcl];omega)];refine⟨_,_,rfl,⟨⟨hl2,hr2⟩,.inr ⟨i,g+1,[],0,by rw[Ao],?_,by simp,rfl⟩⟩,by simp,fun j hj hn=>?_,fun j hj=>.inl hj,fun hc=>Ge hc ?_⟩
   ·rw[B8 hi];simp
   ·have:i≠j:=fun h=>hn (by subst h;simp[V.refs])
    rw[Bc this]
   ·simp only[Ob.refs,Cw];rw[Iw,Ll (J9 hr)];simp[Ll hrow]
  ·have hq1:m<=q*m:=Nat.le_mul_of_pos_left m (by omega);rw[if_pos (by rw[hcl,hmul];omega),hmul];have e1:(xs.flatten++r).take (xs.length*m)=xs.flatten:=by rw[<-hf,S6]
   have e2:(xs.flatten++r).drop (xs.length*m+m)=r.drop m:=by rw[<-hf,List.drop_append,Fk (by omega),Es,Nat.add_sub_cancel_left]
   rw[e1,e2];have hrd:(r.drop m).all V.rowB=true:=Bd.2 fun c hc=>Bd.1 hrr c (List.mem_of_mem_drop hc)
   refine⟨_,_,rfl,⟨⟨hl2,hr2⟩,.inr ⟨i,g,r.drop m,q - 1,by rw[Ao],?_,?_,hrd⟩⟩,by simp,fun j hj hn=>?_,fun j hj=>.inl hj,fun hc=>Ge hc ?_⟩
   ·rw[B8 hi];simp
   ·rw[D0,hq,Nat.sub_mul,Nat.one_mul]
   ·have:i≠j:=fun h=>hn (by subst h;simp[V.refs])
    rw[Bc this]
   ·simp only[Ob.refs];rw[Iw,Iw,Ll (J9 hr),Ll hrd];simp[Ll hrow]
theorem Aud(n d:Nat):Dm (some (.int .i64 (n:Int))) d=some n:=by
 unfold Dm;simp
theorem Akg{σ:St}{m e:Nat}{u:V}{xs:List (List V)}{row:List V}(h:GS σ m e u (xs++[row])):∃ u',M5 m u none (some (.int .i64 (xs.length:Int))) none=some u'/\GS σ m e u' xs/\u'.refs=u.refs:=by
 obtain⟨⟨hl,hr⟩,h⟩:=h;rcases h with⟨-,h⟩ | ⟨i,g,r,q,rfl,ho,hq,hrr⟩
 ·simp at h
 ·refine⟨.sl i g 0 xs.length m true,?_,⟨⟨fun r hx=>hl r (Ov _ hx),fun r hx=>hr r (Ov _ hx)⟩,.inr ⟨i,g,row++r,q+1,rfl,?_,?_,?_⟩⟩,rfl⟩
  ·simp only[M5,Aud,Dm];simp
  ·rw[ho];simp
  ·rw[Ao,hq,hl row (by simp),D9,Wk]
  ·rw[List.all_append,hr row (by simp),hrr];rfl
theorem Ax0{σ:St}{m e:Nat}{u:V}{xs:List (List V)}{row:List V}{i:Nat}(h:GS σ m e u xs)(hi:xs[i]?=some row):∃ j g cs,u=.sl j g 0 xs.length m true/\σ[j]?=some (.row cs e g 0)/\i*m+m<=cs.length/\(cs.drop (i*m)).take m=row:=by
 obtain⟨⟨hl,hr⟩,h⟩:=h;have hil:=(Ar.1 hi).1;rcases h with⟨-,rfl⟩ | ⟨j,g,r,q,rfl,ho,hq,hrr⟩
 ·simp at hi
 ·have hf:=J7 hl;have hle:i*m+m<=xs.length*m:=by rw[<-D9];exact Eo m hil
  refine⟨j,g,_,rfl,ho,by rw[Ao,hf];omega,?_⟩
  have hs:xs=xs.take i++row::xs.drop (i+1):=by
   have h1:=Je hil;rw[(Ar.1 hi).2]at h1;rw[<-h1,Lh]
  have ht:(xs.take i).flatten.length=i*m:=by
   rw[J7 fun r hr=>hl r (Qi hr),F2,Nat.min_eq_left (by omega)]
  have hrl:=hl row (Gq hi)
  conv=>lhs;rw[hs]
  rw[List.flatten_append,E9,E4,E4,<-ht,List.drop_left,<-hrl,S6]
theorem Adc{σ:St}{m e:Nat}{u:V}{xs:List (List V)}(h:GS σ m e u xs)(hm:0<m):∃ z,OC σ u (SL z 0 xs):=by
 obtain⟨⟨hl,hr⟩,h⟩:=h;rcases h with⟨rfl,rfl⟩ | ⟨i,g,r,q,rfl,ho,hq,hrr⟩
 ·exact⟨true,Hj rfl⟩
 ·refine⟨false,fun js hj d=>?_⟩
  have hi:js.elem i=true:=by
   have:=hj i (by simp[V.refs]);simpa using this
  have hf:=J7 hl;unfold Fd;rw[if_neg (by simp[V.rowB])];simp only[hi,if_true,ho];rw[if_pos ⟨trivial,hm,by rw[Ao,hf];omega⟩,O0,<-hf,S6,Pc fun c hc=>?_]
  ·simp only[Ha,Aai hl];rfl
  ·obtain⟨r,hrx,hcr⟩:=Wc.1 hc;exact O2 (Bd.1 (hr r hrx) c hcr)
theorem Ax1(a b c cells:List V)(h:c.length=cells.length):Ly (a++(c++b)) a.length cells=some (a++(cells++b)):=by
 unfold Ly;rw[if_pos (by simp only[Ao];omega),S6,<-E4 a c b,List.drop_append];rw[Fk (by simp only[Ao];omega),Es,Ao,<-h];simp
theorem Ax2{σ:St}{m e:Nat}{u:V}{xs:List (List V)}{r0 row:List V}(h:GS σ m e u (xs++[r0]))(hrl:row.length=m)(hrow:row.all V.rowB=true):∃ j g cs',u=.sl j g 0 (xs.length+1) m true/\j<σ.length/\(∀ τ:St,τ[j]?=σ[j]?->Mr τ m (.ptr j g (0+xs.length*m)) (.agg row)=some (τ.set j (.row cs' e g 0))/\(j<τ.length->GS (τ.set j (.row cs' e g 0)) m e u (xs++[row])))/\Aj cs'=[]:=by
 obtain⟨⟨hl,hr⟩,h⟩:=h;rcases h with⟨-,h⟩ | ⟨j,g,r,q,rfl,ho,hq,hrr⟩
 ·simp at h
 ·have hf:=J7 fun r hx=>hl r (Ov _ hx)
  have hr0:=hl r0 (by simp);have hx:xs.flatten.all V.rowB=true:=J9 fun r hx=>hr r (Ov _ hx)
  have hcell:row.all V.cellB=true:=Aj6 hrow;have hcs:(V.agg row).cells=row:=rfl;refine⟨j,g,xs.flatten++(row++r),by simp,(Ar.1 ho).1,fun τ hk=>⟨?_,fun hj=>⟨⟨fun r hx=>?_,fun r hx=>?_⟩,.inr ⟨j,g,r,q,by simp,?_,hq,hrr⟩⟩⟩,?_⟩
  ·simp only[Mr,hk,ho,hcs];rw[if_pos ⟨trivial,A2 _,hrl,hcell⟩,Ez,<-hf];have:(xs++[r0]).flatten++r=xs.flatten++(r0++r):=by simp
   rw[this,Ax1 _ _ _ _ (by omega)];rfl
  ·rcases Cq.1 hx with hx | hx
   ·exact hl r (Ov _ hx)
   ·rw[Ey.1 hx];exact hrl
  ·rcases Cq.1 hx with hx | hx
   ·exact hr r (Ov _ hx)
   ·rw[Ey.1 hx];exact hrow
  ·rw[B8 hj];simp
  ·rw[Iw,Iw,Ll hx,Ll hrow,Ll hrr];rfl
/-! what a struct and its lists may change -/
def fp(σ:St)(w:Nat):List Nat:=w::match σ[w]? with
 | some ob=>ob.refs
 | none=>[]
theorem Aci{σ:St}{w:Nat}{cs:List V}{t g z:Nat}(h:σ[w]?=some (.row cs t g z)):fp σ w=w::Aj cs:=by
 unfold fp;rw[h];rfl
def FW(w:Nat)(σ τ:St):Prop:=σ.length<=τ.length/\(∀ j,j<σ.length->j ∉ fp σ w->τ[j]?=σ[j]?)/\(∀ j∈fp τ w,j∈fp σ w\/σ.length<=j)
theorem Xq(w:Nat)(σ:St):FW w σ σ:=⟨Ah _,fun _ _ _=>rfl,fun _ h=>.inl h⟩
theorem Ee{w:Nat}{σ τ υ:St}(h:FW w σ τ)(h':FW w τ υ):FW w σ υ:=by
 refine⟨Cj h.1 h'.1,fun j hj hn=>?_,fun j hj=>?_⟩
 ·rw[h'.2.1 j (by have:=h.1;omega) fun hm=>?_,h.2.1 j hj hn];rcases h.2.2 j hm with h2 | h2
  ·exact hn h2
  ·omega
 ·rcases h'.2.2 j hj with h2 | h2
  ·exact h.2.2 j h2
  ·exact .inr (by have:=h.1;omega)
theorem Xr{w:Nat}{σ:St}(l:St)(hw:w<σ.length):FW w σ (σ++l):=by
 refine⟨by simp,fun j hj _=>Co hj,fun j hj=>?_⟩;unfold fp at hj ⊢;rw[Co hw]at hj;exact .inl hj
theorem Akh{w:Nat}{σ τ:St}{j:Nat}{x:Ob}(h:FW w σ τ)(hj:σ.length<=j)(hw:w<σ.length):FW w σ (τ.set j x):=by
 refine⟨by simpa using h.1,fun i hi hn=>?_,fun i hi=>?_⟩
 ·rw[Bc (by omega)];exact h.2.1 i hi hn
 ·unfold fp at hi;rw[Bc (by omega)]at hi;exact h.2.2 i hi
theorem Acj{w:Nat}{σ τ:St}{cs:List V}{t g z:Nat}(h:FW w σ τ)(hw:w<σ.length)(hc:∀ j∈Aj cs,j∈fp σ w\/σ.length<=j):FW w σ (τ.set w (.row cs t g z)):=by
 have hm:w∈fp σ w:=by unfold fp;exact Ec
 refine⟨by simpa using h.1,fun i hi hn=>?_,fun i hi=>?_⟩
 ·rw[Bc (fun e=>hn (by rw[<-e];exact hm))];exact h.2.1 i hi hn
 ·rw[Aci (B8 (by have:=h.1;omega))]at hi;rcases Be.1 hi with rfl | hi
  ·exact .inl hm
  ·exact hc i hi
theorem Aki{w:Nat}{σ τ υ:St}{B:List Nat}(h:FW w σ τ)(hw:w<σ.length)(hl:τ.length<=υ.length)(hB:∀ j∈B,j∈fp σ w\/σ.length<=j)(hk:∀ j,j<τ.length->j ∉ B->υ[j]?=τ[j]?)(hwB:w ∉ B):FW w σ υ:=by
 refine⟨Cj h.1 hl,fun i hi hn=>?_,fun i hi=>?_⟩
 ·rw[hk i (by have:=h.1;omega) fun hm=>?_,h.2.1 i hi hn];rcases hB i hm with h2 | h2
  ·exact hn h2
  ·omega
 ·unfold fp at hi;rw[hk w (by have:=h.1;omega) hwB]at hi;exact h.2.2 i hi
