/- What the row reads of an argument lies in memory as a value of the plain machine. -/
import Derived.Test.YtcoeikinocflnaaGreatDoorRows
import Derived.Test.YtcoeikinocflnaaGreatDoorA3
import Derived.DataReads
set_option linter.all false
namespace Go.Proofs.YtcoeikinocflnaaGreatDoor.KM
open Go
def G7(w:World):Dy:=fun b=>match w.heap[b]? with
 | some (.cells c _ _)=>some c.size
 | _=>none
theorem Amx{w:World}{b o:Nat}{v:Value}(h:w.cell? ⟨b,o,none⟩=some v):∃ k,G7 w b=some k/\o<k:=by
 unfold World.cell? at h;unfold G7
 split at h
 ·rename_i c e fz hh;simp only[Option.isSome_none,Er,if_false]at h;rw[hh];exact⟨c.size,rfl,(Array.getElem?_eq_some_iff.1 h).1⟩
 ·cases h
inductive HasT (P:Program):TypeId->List V->Prop
 | bool {t:TypeId} {b:Bool}:P.underlying t=some .bool->HasT P t [.bool b]
 | int {t:TypeId} {k:IntKind} {n:Int}:P.underlying t=some (.int k)->(Lit.int k n).wf=true->HasT P t [.int k n]
 | str {t:TypeId} {s:ByteArray}:P.underlying t=some .string->s.size<=maxLen->HasT P t [.str s.data.toList]
 | nils {t e:TypeId}:P.underlying t=some (.slice e)->HasT P t [.nils]
 | lst {t e:TypeId} {xs:List (List V)}:P.underlying t=some (.slice e)->xs.length<=maxLen->(∀ i,i<xs.length->HasT P e (xs.getD i []))->HasT P t [.lst 0 xs]
 | struct {t:TypeId} {fs:Array Field} (parts:List (List V)):P.underlying t=some (.struct fs)->parts.length=fs.size->(∀ i f,fs[i]?=some f->HasT P f.type (parts.getD i []))->HasT P t parts.flatten
 | array {t e:TypeId} {n:Nat} (parts:List (List V)):P.underlying t=some (.array n e)->parts.length=n->(∀ i,i<n->HasT P e (parts.getD i []))->HasT P t parts.flatten
mutual
def V.bulk:V->Nat
 | .str l=>l.length+1
 | .lst _ xs=>Ck xs+1
 | _=>1
def Ck:List (List V)->Nat
 | []=>0
 | r::rs=>Ct r+Ck rs
def Ct:List V->Nat
 | []=>0
 | p::ps=>p.bulk+Ct ps
end
theorem Z3(a b:List V):Ct (a++b)=Ct a+Ct b:=by
 induction a with
 | nil=>simp[Ct]
 | cons x a ih=>simp only[Ox,Ct,ih];omega
def Mv(P:Program):List Field->Nat->Nat->Bool
 | [],s,e=>s==e
 | f::fs,s,e=>f.offset==s&&Mv P fs (s+P.cellsOf f.type) e
def Aty(P:Program)(ts:List TypeId):Bool:=ts.all fun t=>
 match P.underlying t with
 | some .bool | some (.int _) | some .string=>true
 | some (.slice e)=>ts.contains e&&decide (0<P.cellsOf e)
 | some (.struct fs)=>fs.toList.all (fun f=>ts.contains f.type)&&Mv P fs.toList 0 (P.cellsOf t)
 | some (.array n e)=>ts.contains e&&P.cellsOf t==n*P.cellsOf e
 | _=>false
theorem Agd{α β:Type}{f:α->Option β}:∀ {l:List α} {r:List β},l.mapM f=some r->r.length=l.length/\∀ i (hi:i<l.length),f l[i]=r[i]?
 | [],r,h=>by
  simp at h;subst h;exact⟨rfl,fun i hi=>absurd hi (by simp)⟩
 | a::l,r,h=>by
  rw[Hs]at h
  cases ha:f a with
  | none=>simp[ha]at h
  | some b=>
   cases hl:l.mapM f with
   | none=>simp[ha,hl]at h
   | some r'=>
    simp[ha,hl]at h;subst h;obtain⟨h1,h2⟩:=Agd hl;refine⟨by simp[h1],fun i hi=>?_⟩
    cases i with
    | zero=>simpa using ha
    | succ i=>
     have:=h2 i (by simpa using hi);simpa using this
structure RowAt {H:Type} (P:Program) (w:World) (t:TypeId) (cs:List Value) (d:DataW H) (pcs:List V):Prop where
 len:pcs.length=cs.length
 rep:∀ j,j<cs.length->RepR (G7 w) w (pcs.getD j .und) (cs.getD j undef)
 typ:HasT P t pcs
 bulk:Ct pcs<=Rows.uptoBulk d
theorem Ae4{H:Type}:∀ (xs:List (List V)) (ds:List (DataW H)),xs.length=ds.length->(∀ i,i<xs.length->∀ d,ds[i]?=some d->Ct (xs.getD i [])<=Rows.uptoBulk d)->Ck xs<=Rows.uptoBulkAll ds
 | [],ds,_,_=>by simp[Ck]
 | x::xs,[],h,_=>by simp at h
 | x::xs,d::ds,h,hb=>by
  have h0:=hb 0 (by simp) d rfl;have:=Ae4 xs ds (by simpa using h) (fun i hi d' hd=>by simpa using hb (i+1) (by simpa using hi) d' (by simpa using hd));simp only[Ck,Rows.uptoBulkAll];simp at h0;omega
theorem Aaj{α:Type}(a b:List α)(i:Nat)(d:α)(h:i<a.length):(a++b).getD i d=a.getD i d:=by
 simp only[Aq,Co h]
theorem Aak{α:Type}(a b:List α)(i:Nat)(d:α)(h:a.length<=i):(a++b).getD i d=b.getD (i - a.length) d:=by
 simp only[Aq,Cf h]
theorem Ai3{Q:Nat->List V->Prop}:∀ (n:Nat),(∀ i,i<n->∃ r,Q i r)->∃ xs:List (List V),xs.length=n/\∀ i,i<n->Q i (xs.getD i [])
 | 0,_=>⟨[],rfl,fun i hi=>absurd hi (by omega)⟩
 | n+1,h=>by
  obtain⟨xs,hl,hx⟩:=Ai3 n (fun i hi=>h i (by omega));obtain⟨r,hr⟩:=h n (by omega);refine⟨xs++[r],by simp[hl],fun i hi=>?_⟩;by_cases hin:i<n
  ·have:=hx i hin
   rwa [Aaj _ _ _ _ (by omega)]
  ·obtain rfl:i=n:=by omega
   rw[Aak _ _ _ _ (by omega),hl];simpa using hr
theorem Afg{H:Type}{P:Program}{w:World}{cs:List Value}{g:Field->Option (DataW H × List MemPlace)}:
  ∀ (fl:List Field) (s e:Nat) (xs:List (DataW H × List MemPlace)),Mv P fl s e=true->fl.mapM g=some xs->e<=cs.length ->
   (∀ f∈fl,∀ x,g f=some x->∃ pcs,RowAt P w f.type ((cs.drop f.offset).take (P.cellsOf f.type)) x.1 pcs) ->
   ∃ parts:List (List V),parts.length=fl.length/\s<=e/\parts.flatten.length=e - s/\(∀ i f,fl[i]?=some f->HasT P f.type (parts.getD i [])) /\
    (∀ j,j<e - s->RepR (G7 w) w (parts.flatten.getD j .und) (cs.getD (s+j) undef))/\Ct parts.flatten<=Rows.uptoBulkAll (xs.map (·.1))
 | [],s,e,xs,hc,hm,_,_=>by
  simp[Mv]at hc;simp at hm;subst hc hm;exact⟨[],rfl,Ah _,by simp,fun i f h=>by simp at h,fun j hj=>by omega,by simp[Ct]⟩
 | f::fl,s,e,xs,hc,hm,he,hg=>by
  simp only[Mv,Af,beq_iff_eq]at hc;rw[Hs]at hm
  cases hf:g f with
  | none=>simp[hf]at hm
  | some x=>
   cases hl:fl.mapM g with
   | none=>simp[hf,hl]at hm
   | some r=>
    simp[hf,hl]at hm;subst hm;obtain⟨parts,h1,h2,h3,h4,h5,h6⟩:=Afg fl _ e r hc.2 hl he (fun f' hf'=>hg f' (Dz _ hf'));obtain⟨pcs,hp⟩:=hg f (Ec) x hf
    have hlen:pcs.length=P.cellsOf f.type:=by
     rw[hp.len,F2,D0,hc.1];omega
    refine⟨pcs::parts,by simp[h1],by omega,by simp only[E9,Ao,h3,hlen];omega,fun i f' hi=>?_,fun j hj=>?_,?_⟩
    ·cases i with
     | zero=>simp at hi;subst hi;simpa using hp.typ
     | succ i=>simpa using h4 i f' (by simpa using hi)
    ·rw[E9];by_cases hjl:j<P.cellsOf f.type
     ·rw[Aaj _ _ _ _ (by omega)];have:=hp.rep j (by rw[<-hp.len];omega)
      have e2:((cs.drop f.offset).take (P.cellsOf f.type)).getD j undef=cs.getD (s+j) undef:=by
       simp only[Aq,Ep,Iq,hc.1];rw[if_pos hjl]
      rwa [e2]at this
     ·rw[Aak _ _ _ _ (by omega),hlen];have:=h5 (j - P.cellsOf f.type) (by omega)
      rwa [show s+P.cellsOf f.type+(j - P.cellsOf f.type)=s+j by omega]at this
    ·rw[E9,Z3,Ba];simp only[Rows.uptoBulkAll];have:=hp.bulk;omega
theorem Age{H:Type}{P:Program}{w:World}{cs:List Value}{e:TypeId}{g:Nat->Option (DataW H × List MemPlace)}(hg:∀ i x,g i=some x->∃ pcs,RowAt P w e ((cs.drop (i*P.cellsOf e)).take (P.cellsOf e)) x.1 pcs):
  ∀ (n s:Nat) (xs:List (DataW H × List MemPlace)),(List.range' s n).mapM g=some xs->(s+n)*P.cellsOf e<=cs.length ->
   ∃ parts:List (List V),parts.length=n/\parts.flatten.length=n*P.cellsOf e/\(∀ i,i<n->HasT P e (parts.getD i [])) /\
    (∀ j,j<n*P.cellsOf e->RepR (G7 w) w (parts.flatten.getD j .und) (cs.getD (s*P.cellsOf e+j) undef))/\Ct parts.flatten<=Rows.uptoBulkAll (xs.map (·.1))
 | 0,s,xs,hm,_=>by
  simp at hm;subst hm;exact⟨[],rfl,by simp,fun i hi=>by omega,fun j hj=>by omega,by simp[Ct]⟩
 | n+1,s,xs,hm,hl=>by
  rw[Wb,Hs]at hm
  cases hf:g s with
  | none=>simp[hf]at hm
  | some x=>
   cases hr:(List.range' (s+1) n).mapM g with
   | none=>simp[hf,hr]at hm
   | some r=>
    simp[hf,hr]at hm;subst hm;have el:(s+(n+1))*P.cellsOf e=s*P.cellsOf e+P.cellsOf e+n*P.cellsOf e:=by rw[Lk,D9];omega
    have es:(s+1)*P.cellsOf e=s*P.cellsOf e+P.cellsOf e:=D9 ..;obtain⟨parts,h1,h3,h4,h5,h6⟩:=Age hg n (s+1) r hr (by rw[show s+1+n=s+(n+1) by omega];exact hl);obtain⟨pcs,hp⟩:=hg s x hf
    have hlen:pcs.length=P.cellsOf e:=by
     rw[hp.len,F2,D0];omega
    have en:(n+1)*P.cellsOf e=n*P.cellsOf e+P.cellsOf e:=D9 ..;refine⟨pcs::parts,by simp[h1],by simp only[E9,Ao,h3,hlen];omega,fun i hi=>?_,fun j hj=>?_,?_⟩
    ·cases i with
     | zero=>simpa using hp.typ
     | succ i=>simpa using h4 i (by omega)
    ·rw[E9];by_cases hjl:j<P.cellsOf e
     ·rw[Aaj _ _ _ _ (by omega)];have:=hp.rep j (by rw[<-hp.len];omega)
      have e2:((cs.drop (s*P.cellsOf e)).take (P.cellsOf e)).getD j undef=cs.getD (s*P.cellsOf e+j) undef:=by
       simp only[Aq,Ep,Iq];rw[if_pos hjl]
      rwa [e2]at this
     ·rw[Aak _ _ _ _ (by omega),hlen];have:=h5 (j - P.cellsOf e) (by omega)
      rwa [es,show s*P.cellsOf e+P.cellsOf e+(j - P.cellsOf e)=s*P.cellsOf e+j by omega]at this
    ·rw[E9,Z3,Ba];simp only[Rows.uptoBulkAll];have:=hp.bulk;omega
theorem Atz(a:Addr)(n m:Nat)(h:a.spot=none):(a.add n).add m=⟨a.block,a.off+n+m,none⟩:=by
 unfold Addr.add
 split<;>split<;>simp_all<;>(cases a;simp_all)
theorem Nn{H:Type}(enc:TypeId × Value->H)(P:Program)(w:World)(spare:Nat->Bool)(held:Bool)(ts:List TypeId)(hts:Aty P ts=true):
  ∀ (fuel:Nat) (t:TypeId) (cs:List Value) (d:DataW H) (ps:List MemPlace),t∈ts->DataW.trod enc P w 0 spare held fuel t cs=some (d,ps)->∃ pcs,RowAt P w t cs d pcs
 | 0,_,_,_,_,_,h=>by simp[DataW.trod]at h
 | fuel+1,t,cs,d,ps,ht,h=>by
  have hp:=Bd.1 hts t ht;simp only[DataW.trod]at h
  split at h
  ·rename_i b hu;simp at h;obtain⟨rfl,_⟩:=h
   exact⟨[.bool b],rfl,(fun j hj=>by
    obtain rfl:j=0:=by simpa using hj
    exact .bool),.bool hu,by simp[Ct,V.bulk,Rows.uptoBulk]⟩
  ·rename_i k k' n hu
   split at h
   ·rename_i hk;simp at h;obtain⟨rfl,_⟩:=h;obtain⟨rfl,hwf⟩:=hk
    exact⟨[.int k' n],rfl,(fun j hj=>by
    obtain rfl:j=0:=by simpa using hj
    exact .int),.int hu hwf,by simp[Ct,V.bulk,Rows.uptoBulk]⟩
   ·cases h
  ·rename_i hu;rw[hu]at hp;cases hp
  ·rename_i s hu
   split at h
   ·rename_i hs;simp at h;obtain⟨rfl,_⟩:=h;have hsz:s.data.toList.length=s.size:=by rw[Array.length_toList];rfl
    exact⟨[.str s.data.toList],rfl,(fun j hj=>by
     obtain rfl:j=0:=by simpa using hj
     have hh:RepR (G7 w) w (.str s.data.toList) (.string ⟨s.data.toList.toArray⟩):=.str (by omega)
     simpa using hh),.str hu hs,by simp[Ct,V.bulk,Rows.uptoBulk]⟩
   ·cases h
  ·rename_i hu;rw[hu]at hp;cases hp
  ·rename_i hu;rw[hu]at hp;cases hp
  ·rename_i e hu;simp at h;obtain⟨rfl,_⟩:=h
   exact⟨[.nils],rfl,(fun j hj=>by
    obtain rfl:j=0:=by simpa using hj
    exact .nils),.nils hu,by simp[Ct,V.bulk,Rows.uptoBulk]⟩
  ·rename_i e a len cap hu;rw[hu]at hp;simp only[Af,decide_eq_true_eq,V1]at hp
   split at h
   ·rename_i hc;obtain⟨_,hlc,hcm⟩:=hc
    cases hm:(List.range len).mapM (fun i=>(w.cells? 0 (a.add (i*P.cellsOf e)) (P.cellsOf e)).bind (DataW.trod enc P w 0 spare held fuel e)) with
    | none=>simp[hm]at h
    | some elems=>
     simp only[hm,Cz,Bm]at h;obtain⟨rest,_,h⟩:=h;simp at h;obtain⟨rfl,_⟩:=h;obtain⟨hl,hel⟩:=Agd hm;simp only[List.length_range]at hl hel
     have key:∀ i,i<len->∃ r,(∃ cs' x,(∀ j,j<P.cellsOf e->w.cell? ((a.add (i*P.cellsOf e)).add j)=some (cs'.getD j undef))/\elems[i]?=some x/\cs'.length=P.cellsOf e/\RowAt P w e cs' x.1 r):=by
      intro i hi;have h1:=hel i (by simpa using hi);simp only[List.getElem_range]at h1;have hlt:i<elems.length:=by omega
      cases hcs:w.cells? 0 (a.add (i*P.cellsOf e)) (P.cellsOf e) with
      | none=>rw[hcs]at h1;simp[hlt]at h1
      | some cs'=>
       obtain⟨_,hcl,hcc⟩:=World.cells?_some hcs;rw[hcs,Cz,A0 hlt]at h1;obtain⟨r,hr⟩:=Nn enc P w spare held ts hts fuel e cs' _ _ hp.1 h1;refine⟨r,cs',elems[i],fun j hj=>?_,A0 hlt,hcl,hr⟩;rw[hcc j hj];simp[hcl,hj]
     obtain⟨xs,hxl,hx⟩:=Ai3 len key
     have hsp:0<len->a.spot=none:=fun h0=>by
      obtain⟨cs',x,hcell,_⟩:=hx 0 h0;have h0':=hcell 0 hp.2;have:=World.cell?_spot h0';simpa[Addr.add] using this
     have hcell:∀ i j,i<len->j<P.cellsOf e->∃ v,w.cell? ⟨a.block,a.off+i*P.cellsOf e+j,none⟩=some v/\RepR (G7 w) w ((xs.getD i []).getD j .und) v:=by
      intro i j hi hj;obtain⟨cs',x,hc,_,hcl,hr⟩:=hx i hi;have h1:=hc j hj;rw[Atz _ _ _ (hsp (by omega))]at h1;exact⟨_,h1,hr.rep j (by omega)⟩
     refine⟨[.lst 0 xs],rfl,fun j hj=>?_,.lst hu (by omega) (fun i hi=>?_),?_⟩
     ·obtain rfl:j=0:=by simpa using hj
      show RepR (G7 w) w (.lst 0 xs) (.slice (some a) len cap);rw[<-hxl];refine .lst (m:=P.cellsOf e) (fun i j=>(w.cell? ⟨a.block,a.off+i*P.cellsOf e+j,none⟩).getD undef) (fun h=>by omega) (by omega) hcm (fun h0=>⟨hsp (by omega),?_⟩) (fun i hi=>?_) (fun i j hi hj=>?_) (fun i j hi hj=>?_)
      ·obtain⟨v,hv,_⟩:=hcell (xs.length - 1) (P.cellsOf e - 1) (by omega) (by omega);obtain⟨k,hk,hlt⟩:=Amx hv;refine⟨k,hk,?_⟩
       have:(xs.length - 1)*P.cellsOf e+P.cellsOf e=xs.length*P.cellsOf e:=by
        rw[<-D9];congr 1;omega
       have:=hp.2;omega
      ·obtain⟨cs',x,_,_,hcl,hr⟩:=hx i (by omega);rw[hr.len,hcl]
      ·obtain⟨v,hv,_⟩:=hcell i j (by omega) hj;rw[hv];rfl
      ·obtain⟨v,hv,hr⟩:=hcell i j (by omega) hj;rw[hv];exact hr
     ·obtain⟨_,_,_,_,_,hr⟩:=hx i (by omega);exact hr.typ
     ·simp only[Ct,V.bulk,Rows.uptoBulk]
      have:=Ae4 xs (elems.map (·.1)) (by simp;omega) (fun i hi d' hd=>by
       obtain⟨_,x,_,he,_,hr⟩:=hx i (by omega);simp[he]at hd;subst hd
       exact hr.bulk)
      omega
   ·cases h
  ·rename_i fs hu;rw[hu]at hp;simp only[Af,Bd,V1]at hp
   split at h
   ·rename_i hcl;simp only[Bm]at h;obtain⟨xs,hm,h⟩:=h;simp at h;obtain⟨rfl,_⟩:=h;obtain⟨parts,h1,h2,h3,h4,h5,h6⟩:=Afg (P:=P) (w:=w) (cs:=_) fs.toList 0 _ xs hp.2 hm (by omega) (fun f hf x hx=>Nn enc P w spare held ts hts fuel f.type _ x.1 x.2 (hp.1 f hf) hx);refine⟨parts.flatten,by omega,fun j hj=>by simpa using h5 j (by omega),.struct parts hu (by simpa using h1) (fun i f hf=>h4 i f (by simpa using hf)),?_⟩;simp only[Rows.uptoBulk];omega
   ·cases h
  ·rename_i n e hu;rw[hu]at hp;simp only[Af,beq_iff_eq,V1]at hp
   split at h
   ·rename_i hcl;simp only[Bm]at h;obtain⟨xs,hm,h⟩:=h;simp at h;obtain⟨rfl,_⟩:=h;rw[List.range_eq_range']at hm;obtain⟨parts,h1,h3,h4,h5,h6⟩:=Age (P:=P) (w:=w) (e:=e) (cs:=_) (fun i x hx=>Nn enc P w spare held ts hts fuel e _ x.1 x.2 hp.1 hx) n 0 xs hm (by rw[hcl,hp.2];simp);refine⟨parts.flatten,by rw[h3,hcl,hp.2],fun j hj=>by simpa using h5 j (by rw[<-hp.2,<-hcl];exact hj),.array parts hu h1 h4,?_⟩;simp only[Rows.uptoBulk];omega
   ·cases h
  all_goals first
   | (rename_i hu;rw[hu]at hp;cases hp)
   | cases h
section
open Go.RowKit
variable {P:Program} {G:List (Nat × List V)} {T:Nat->Option AF} {pr:Nat->Option (List V->Option V)}
def Za:V->Bool
 | .bool _ | .int _ _ | .str _=>true
 | _=>false
theorem Aok{κ:Dy}{w:World}{v:V}{u:Value}(h:K2 v u=true)(hf:Za v=true):RepR κ w v u:=by
 have h':RepC ⟨κ,[]⟩ w v u:=Wp h
 cases h' with
 | row h=>exact h
 | _=>cases hf
theorem Aey:∀ {vs:List V} {us:List Value},Gc vs us=true->vs.length=us.length/\∀ j,j<vs.length->K2 (vs.getD j .und) (us.getD j undef)=true
 | [],[],_=>⟨rfl,fun j hj=>absurd hj (by simp)⟩
 | v::vs,u::us,h=>by
  simp only[Gc,Af]at h;obtain⟨h1,h2⟩:=Aey h.2;refine⟨by simp[h1],fun j hj=>?_⟩
  cases j with
  | zero=>exact h.1
  | succ j=>simpa using h2 j (by simpa using hj)
def Ry(v:V)(u:Value):Prop:=(K2 v u=true/\Za v=true)\/(v=.ifc/\∃ t p,u=.iface t p)
theorem Aol{κ:Dy}{w:World}{v:V}{u:Value}(h:Ry v u):RepR κ w v u:=by
 rcases h with⟨h1,h2⟩ | ⟨rfl,t,p,rfl⟩
 ·exact Aok h1 h2
 ·exact .ifc
theorem Am5{r:List V}{us:List Value}(h:Gc r us=true)(hf:r.all Za=true):r.length=us.length/\∀ j,j<r.length->Ry (r.getD j .und) (us.getD j undef):=by
 obtain⟨h1,h2⟩:=Aey h;exact⟨h1,fun j hj=>.inl ⟨h2 j hj,Bd.1 hf _ (by rw[Aq,A0 hj];exact Fa hj)⟩⟩
def Ad9(G:List (Nat × List V))(w:World):Prop:=∀ g r,(g,r)∈G->∃ us e fz,w.heap[g]?=some (.cells us e fz)/\r.length=us.toList.length/\∀ j,j<r.length->Ry (r.getD j .und) (us.toList.getD j undef)
theorem A2n{w:World}(h:Ad9 G w):Inv G w.heap.size ⟨G7 w,[]⟩ [] w where
 base:=Ah _
 len:=rfl
 nd:=Qo
 low:=fun i p h=>by simp at h
 obj:=fun i ob p h=>by simp at h
 dom:=fun b k hk=>by
  have hk':G7 w b=some k:=hk;unfold G7 at hk'
  split at hk'
  ·rename_i hh;exact(Array.getElem?_eq_some_iff.1 hh).1
  ·cases hk'
 glob:=fun g r hg=>by
  obtain⟨us,e,fz,hh,hl,hj⟩:=h g r hg;have hk:G7 w g=some us.size:=by unfold G7;rw[hh]
  have:=RepC.imm (γ:=⟨G7 w,[]⟩) (w:=w) (r:=r) (off:=0) (b:=g) (o:=0) (k:=us.size) (fun j=>us.toList.getD j undef) hk (by simpa using Aaa hl) (fun j hj'=>by
    have hlt:j<us.size:=by simp at hl;omega
    simp[World.cell?,hh,Aq,hlt]) (fun j hj'=>Aol (hj j hj'))
  exact this
 gsz:=fun g r hg=>by
  obtain⟨us,e,fz,hh,hl,hj⟩:=h g r hg;exact⟨(Array.getElem?_eq_some_iff.1 hh).1,by simp[Dk,hh];simpa using hl.symm⟩
theorem Aom{σ:St}{v:V}{b:Bool}(h:Dw σ v=some (.bool b)):v=.bool b:=by
 unfold Dw Ic at h
 split at h
 ·simp only[Bm]at h;obtain⟨_,_,h⟩:=h;cases h
 ·unfold F3 at h
  split at h
  ·cases h
  ·simp only[Bm]at h;obtain⟨_,_,h⟩:=h;cases h
  ·unfold Fd at h
   split at h
   ·cases h;rfl
   ·split at h
    ·split at h
     ·split at h
      ·split at h
       ·simp only[Bm]at h;obtain⟨_,_,h⟩:=h;cases h
       ·cases h
      ·cases h
     ·cases h
    ·cases h
theorem Aon(hT:∀ f F,T f=some F->F.spec=none->M7 P G f F=true)(hS:∀ f F s,T f=some F->F.spec=some s->Rw P G f s)(hpr:∀ f s,pr f=some s->Hi P G f s){f:Nat}{vs:List V}{us:List Value}{w:World}(hf:Fn T pr f vs (.bool true))(hg:Ad9 G w)(hl:vs.length=us.length)
  (hr:∀ j,j<vs.length->RepV ⟨G7 w,[]⟩ w (vs.getD j .und) (us.getD j undef)):Calls P f us.toArray w fun e w'=>e=.returned (.bool true)/\Below w.heap.size w w':=by
 obtain⟨F,h1,h2,h3,v0,σ0,hE,hv⟩:=hf;have hv0:=Aom hv;subst hv0;refine(Ala hT hS hpr hE us w ⟨G7 w,[]⟩ w.heap.size hl hr (A2n hg)).mono ?_;rintro _ w' ⟨u,γ',rfl,hu,_,_,hb,_⟩;exact⟨by rw[Mj (Aw rfl hu)],hb⟩
theorem Tx{H:Type}{w:World}{t:TypeId}{v:Value}{d:DataW H}{pcs:List V}(h:RowAt P w t v.cells.toList d pcs)(hv:v.cells=#[v]):∃ p,pcs=[p]/\RepV ⟨G7 w,[]⟩ w p v:=by
 have hl:=h.len;rw[hv]at hl;obtain⟨p,rfl⟩:=Zs.1 (show pcs.length=1 by simpa using hl);have:=h.rep 0 (by rw[hv];simp);rw[hv]at this;exact⟨p,rfl,Cv (.row (by simpa using this))⟩
end
