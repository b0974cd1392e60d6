/- What the row reads of an argument lies in memory as a value of the plain machine. -/
import Derived.Test.YthlbbjcbmojocabGreatDoorRows
import Derived.DataReads
import Derived.Test.YthlbbjcbmojocabGreatDoorShelf
import Derived.Lib.UnsafeStr
import Derived.Lib.ItoaLen
import Derived.Lib.Repeat
import Derived.Lib.Split
import Derived.Test.YthlbbjcbmojocabGreatDoorA5
import Derived.Test.YthlbbjcbmojocabGreatDoorProg
import Derived.WalkSpells
import Derived.WalkLawsBesides
import Derived.BigQuiet
import Derived.BigGuardPart
import Derived.Lib.Hide
import Derived.LoopTactic
import Derived.Laws.RangeAny
set_option linter.all false
namespace Go.Proofs.YthlbbjcbmojocabGreatDoor.KM
open Go
def Hs(w:World):Em:=fun b=>match w.heap[b]? with
 | some (.cells c _ _)=>some c.size
 | _=>none
def Atj{w:World}{b o:Nat}{v:Value}(h:w.cell? ⟨b,o,none⟩=some v):∃ k,Hs w b=some k/\o<k:=by
 unfold World.cell? at h;unfold Hs
 split at h
 .rename_i c e fz hh;simp only[Option.isSome_none,Ez,if_false]at h;rw[hh];exact⟨c.size,rfl,(Array.getElem?_eq_some_iff.1 h).1⟩
 .cases h
inductive HasT (P:Program):TypeId->List V->Prop
 | bool {t:TypeId} {b:Bool}:P.underlying t=some .bool->HasT P t [.bool b]
 | int {t:TypeId} {k:IntKind} {n:Int}:P.underlying t=some (.int k)->(Lit.int k n).wf=true->HasT P t [.int k n]
 | str {t:TypeId} {s:ByteArray}:P.underlying t=some .string->s.size<=maxLen->HasT P t [.str s.data.toList]
 | nils {t e:TypeId}:P.underlying t=some (.slice e)->HasT P t [.nils]
 | lst {t e:TypeId} {xs:List (List V)}:P.underlying t=some (.slice e)->xs.length<=maxLen->(∀ i,i<xs.length->HasT P e (xs.getD i []))->HasT P t [.lst 0 xs]
 | struct {t:TypeId} {fs:Array Field} (qa:List (List V)):P.underlying t=some (.struct fs)->qa.length=fs.size->(∀ i f,fs[i]?=some f->HasT P f.type (qa.getD i []))->HasT P t qa.flatten
 | array {t e:TypeId} {n:Nat} (qa:List (List V)):P.underlying t=some (.array n e)->qa.length=n->(∀ i,i<n->HasT P e (qa.getD i []))->HasT P t qa.flatten
mutual
def V.bulk:V->Nat
 | .str l=>l.length+1
 | .lst _ xs=>Cw xs+1
 | _=>1
def Cw:List (List V)->Nat
 | []=>0
 | r::rs=>C2 r+Cw rs
def C2:List V->Nat
 | []=>0
 | p::ps=>p.bulk+C2 ps
end
def Adv(a b:List V):C2 (a++b)=C2 a+C2 b:=by
 induction a with
 | nil=>simp[C2]
 | cons x a ih=>simp only[Bq,C2,ih];omega
def O2(P:Program):List Field->Nat->Nat->Bool
 | [],s,e=>s==e
 | f::fs,s,e=>f.offset==s&&O2 P fs (s+P.cellsOf f.type) e
def A1p(P:Program)(ts:List TypeId):Bool:=ts.all fun t=>
 match P.underlying t with
 | some .bool | some (.int _) | some .string=>true
 | some (.slice e)=>ts.contains e&&decide (0<P.cellsOf e)
 | some (.struct fs)=>fs.toList.all (fun f=>ts.contains f.type)&&O2 P fs.toList 0 (P.cellsOf t)
 | some (.array n e)=>ts.contains e&&P.cellsOf t==n*P.cellsOf e
 | _=>false
def Ak9{α β:Type}{f:α->Option β}:∀ {l:List α} {r:List β},l.mapM f=some r->r.length=l.length/\∀ i (hi:i<l.length),f l[i]=r[i]?
 | [],r,h=>by
  simp at h;subst h;exact⟨rfl,fun i hi=>absurd hi (by simp)⟩
 | a::l,r,h=>by
  rw[Ik]at h
  cases ha:f a with
  | none=>simp[ha]at h
  | some b=>
   cases hl:l.mapM f with
   | none=>simp[ha,hl]at h
   | some r'=>
    simp[ha,hl]at h;subst h;obtain⟨h1,h2⟩:=Ak9 hl;refine⟨by simp[h1],fun i hi=>?_⟩
    cases i with
    | zero=>simpa using ha
    | succ i=>
     have:=h2 i (by simpa using hi);simpa using this
structure RowAt {H:Type} (P:Program) (w:World) (t:TypeId) (cs:List Value) (d:DataW H) (qe:List V):Prop where
 len:qe.length=cs.length
 rep:∀ j,j<cs.length->RepR (Hs w) w (qe.getD j .und) (cs.getD j undef)
 typ:HasT P t qe
 bulk:C2 qe<=Rows.uptoBulk d
def Ajs{H:Type}:∀ (xs:List (List V)) (ds:List (DataW H)),xs.length=ds.length->(∀ i,i<xs.length->∀ d,ds[i]?=some d->C2 (xs.getD i [])<=Rows.uptoBulk d)->Cw xs<=Rows.uptoBulkAll ds
 | [],ds,_,_=>by simp[Cw]
 | x::xs,[],h,_=>by simp at h
 | x::xs,d::ds,h,hb=>by
  have h0:=hb 0 (by simp) d rfl;have:=Ajs xs ds (by simpa using h) (fun i hi d' hd=>by simpa using hb (i+1) (by simpa using hi) d' (by simpa using hd));simp only[Cw,Rows.uptoBulkAll];simp at h0;omega
def Ad9{α:Type}(a b:List α)(i:Nat)(d:α)(h:i<a.length):(a++b).getD i d=a.getD i d:=by
 simp only[Au,Ca h]
def Aea{α:Type}(a b:List α)(i:Nat)(d:α)(h:a.length<=i):(a++b).getD i d=b.getD (i - a.length) d:=by
 simp only[Au,Cd h]
def Aot{Q:Nat->List V->Prop}:∀ (n:Nat),(∀ i,i<n->∃ r,Q i r)->∃ xs:List (List V),xs.length=n/\∀ i,i<n->Q i (xs.getD i [])
 | 0,_=>⟨[],rfl,fun i hi=>absurd hi (by omega)⟩
 | n+1,h=>by
  obtain⟨xs,hl,hx⟩:=Aot n (fun i hi=>h i (by omega));obtain⟨r,hr⟩:=h n (by omega);refine⟨xs++[r],by simp[hl],fun i hi=>?_⟩;by_cases qf:i<n
  .have:=hx i qf
   rwa [Ad9 _ _ _ _ (by omega)]
  .obtain rfl:i=n:=by omega
   rw[Aea _ _ _ _ (by omega),hl];simpa using hr
def Aj8{H:Type}{P:Program}{w:World}{cs:List Value}{g:Field->Option (DataW H × List MemPlace)}:
  ∀ (fl:List Field) (s e:Nat) (xs:List (DataW H × List MemPlace)),O2 P fl s e=true->fl.mapM g=some xs->e<=cs.length ->
   (∀ f∈fl,∀ x,g f=some x->∃ qe,RowAt P w f.type ((cs.drop f.offset).take (P.cellsOf f.type)) x.1 qe) ->
   ∃ qa:List (List V),qa.length=fl.length/\s<=e/\qa.flatten.length=e - s/\(∀ i f,fl[i]?=some f->HasT P f.type (qa.getD i [])) /\
    (∀ j,j<e - s->RepR (Hs w) w (qa.flatten.getD j .und) (cs.getD (s+j) undef))/\C2 qa.flatten<=Rows.uptoBulkAll (xs.map (·.1))
 | [],s,e,xs,hc,hm,_,_=>by
  simp[O2]at hc;simp at hm;subst hc hm;exact⟨[],rfl,Ai _,by simp,fun i f h=>by simp at h,fun j hj=>by omega,by simp[C2]⟩
 | f::fl,s,e,xs,hc,hm,he,hg=>by
  simp only[O2,Af,beq_iff_eq]at hc;rw[Ik]at hm
  cases hf:g f with
  | none=>simp[hf]at hm
  | some x=>
   cases hl:fl.mapM g with
   | none=>simp[hf,hl]at hm
   | some r=>
    simp[hf,hl]at hm;subst hm;obtain⟨qa,h1,h2,h3,h4,h5,h6⟩:=Aj8 fl _ e r hc.2 hl he (fun f' qY=>hg f' (Cs _ qY));obtain⟨qe,hp⟩:=hg f (Cx) x hf
    have qd:qe.length=P.cellsOf f.type:=by
     rw[hp.len,Gz,Dx,hc.1];omega
    refine⟨qe::qa,by simp[h1],by omega,by simp only[D3,Aj,h3,qd];omega,fun i f' hi=>?_,fun j hj=>?_,?_⟩
    .cases i with
     | zero=>simp at hi;subst hi;simpa using hp.typ
     | succ i=>simpa using h4 i f' (by simpa using hi)
    .rw[D3];by_cases qr:j<P.cellsOf f.type
     .rw[Ad9 _ _ _ _ (by omega)];have:=hp.rep j (by rw[<-hp.len];omega)
      have e2:((cs.drop f.offset).take (P.cellsOf f.type)).getD j undef=cs.getD (s+j) undef:=by
       simp only[Au,Fi,Ii,hc.1];rw[if_pos qr]
      rwa [e2]at this
     .rw[Aea _ _ _ _ (by omega),qd];have:=h5 (j - P.cellsOf f.type) (by omega)
      rwa [show s+P.cellsOf f.type+(j - P.cellsOf f.type)=s+j by omega]at this
    .rw[D3,Adv,Aw];simp only[Rows.uptoBulkAll];have:=hp.bulk;omega
def Ala{H:Type}{P:Program}{w:World}{cs:List Value}{e:TypeId}{g:Nat->Option (DataW H × List MemPlace)}(hg:∀ i x,g i=some x->∃ qe,RowAt P w e ((cs.drop (i*P.cellsOf e)).take (P.cellsOf e)) x.1 qe):
  ∀ (n s:Nat) (xs:List (DataW H × List MemPlace)),(List.range' s n).mapM g=some xs->(s+n)*P.cellsOf e<=cs.length ->
   ∃ qa:List (List V),qa.length=n/\qa.flatten.length=n*P.cellsOf e/\(∀ i,i<n->HasT P e (qa.getD i [])) /\
    (∀ j,j<n*P.cellsOf e->RepR (Hs w) w (qa.flatten.getD j .und) (cs.getD (s*P.cellsOf e+j) undef))/\C2 qa.flatten<=Rows.uptoBulkAll (xs.map (·.1))
 | 0,s,xs,hm,_=>by
  simp at hm;subst hm;exact⟨[],rfl,by simp,fun i hi=>by omega,fun j hj=>by omega,by simp[C2]⟩
 | n+1,s,xs,hm,hl=>by
  rw[Zk,Ik]at hm
  cases hf:g s with
  | none=>simp[hf]at hm
  | some x=>
   cases hr:(List.range' (s+1) n).mapM g with
   | none=>simp[hf,hr]at hm
   | some r=>
    simp[hf,hr]at hm;subst hm;have el:(s+(n+1))*P.cellsOf e=s*P.cellsOf e+P.cellsOf e+n*P.cellsOf e:=by rw[Ng,E1];omega
    have es:(s+1)*P.cellsOf e=s*P.cellsOf e+P.cellsOf e:=E1 ..;obtain⟨qa,h1,h3,h4,h5,h6⟩:=Ala hg n (s+1) r hr (by rw[show s+1+n=s+(n+1) by omega];exact hl);obtain⟨qe,hp⟩:=hg s x hf
    have qd:qe.length=P.cellsOf e:=by
     rw[hp.len,Gz,Dx];omega
    have en:(n+1)*P.cellsOf e=n*P.cellsOf e+P.cellsOf e:=E1 ..;refine⟨qe::qa,by simp[h1],by simp only[D3,Aj,h3,qd];omega,fun i hi=>?_,fun j hj=>?_,?_⟩
    .cases i with
     | zero=>simpa using hp.typ
     | succ i=>simpa using h4 i (by omega)
    .rw[D3];by_cases qr:j<P.cellsOf e
     .rw[Ad9 _ _ _ _ (by omega)];have:=hp.rep j (by rw[<-hp.len];omega)
      have e2:((cs.drop (s*P.cellsOf e)).take (P.cellsOf e)).getD j undef=cs.getD (s*P.cellsOf e+j) undef:=by
       simp only[Au,Fi,Ii];rw[if_pos qr]
      rwa [e2]at this
     .rw[Aea _ _ _ _ (by omega),qd];have:=h5 (j - P.cellsOf e) (by omega)
      rwa [es,show s*P.cellsOf e+P.cellsOf e+(j - P.cellsOf e)=s*P.cellsOf e+j by omega]at this
    .rw[D3,Adv,Aw];simp only[Rows.uptoBulkAll];have:=hp.bulk;omega
def A1q(a:Addr)(n m:Nat)(h:a.spot=none):(a.add n).add m=⟨a.block,a.off+n+m,none⟩:=by
 unfold Addr.add
 split<;>split<;>simp_all<;>(cases a;simp_all)
def W5{H:Type}(qn:TypeId × Value->H)(P:Program)(w:World)(qg:Nat->Bool)(qh:Bool)(ts:List TypeId)(qt:A1p P ts=true):
  ∀ (fuel:Nat) (t:TypeId) (cs:List Value) (d:DataW H) (ps:List MemPlace),t∈ts->DataW.trod qn P w 0 qg qh fuel t cs=some (d,ps)->∃ qe,RowAt P w t cs d qe
 | 0,_,_,_,_,_,h=>by simp[DataW.trod]at h
 | fuel+1,t,cs,d,ps,ht,h=>by
  have hp:=Bh.1 qt t ht;simp only[DataW.trod]at h
  split at h
  .rename_i b hu;simp at h;obtain⟨rfl,_⟩:=h
   exact⟨[.bool b],rfl,(fun j hj=>by
    obtain rfl:j=0:=by simpa using hj
    exact .bool),.bool hu,by simp[C2,V.bulk,Rows.uptoBulk]⟩
  .rename_i k k' n hu
   split at h
   .rename_i hk;simp at h;obtain⟨rfl,_⟩:=h;obtain⟨rfl,jf⟩:=hk
    exact⟨[.int k' n],rfl,(fun j hj=>by
    obtain rfl:j=0:=by simpa using hj
    exact .int),.int hu jf,by simp[C2,V.bulk,Rows.uptoBulk]⟩
   .cases h
  .rename_i hu;rw[hu]at hp;cases hp
  .rename_i s hu
   split at h
   .rename_i hs;simp at h;obtain⟨rfl,_⟩:=h;have qE:s.data.toList.length=s.size:=by rw[Array.length_toList];rfl
    exact⟨[.str s.data.toList],rfl,(fun j hj=>by
     obtain rfl:j=0:=by simpa using hj
     have hh:RepR (Hs w) w (.str s.data.toList) (.string ⟨s.data.toList.toArray⟩):=.str (by omega)
     simpa using hh),.str hu hs,by simp[C2,V.bulk,Rows.uptoBulk]⟩
   .cases h
  .rename_i hu;rw[hu]at hp;cases hp
  .rename_i hu;rw[hu]at hp;cases hp
  .rename_i e hu;simp at h;obtain⟨rfl,_⟩:=h
   exact⟨[.nils],rfl,(fun j hj=>by
    obtain rfl:j=0:=by simpa using hj
    exact .nils),.nils hu,by simp[C2,V.bulk,Rows.uptoBulk]⟩
  .rename_i e a len cap hu;rw[hu]at hp;simp only[Af,decide_eq_true_eq,Zc]at hp
   split at h
   .rename_i hc;obtain⟨_,jp,qW⟩:=hc
    cases hm:(List.range len).mapM (fun i=>(w.cells? 0 (a.add (i*P.cellsOf e)) (P.cellsOf e)).bind (DataW.trod qn P w 0 qg qh fuel e)) with
    | none=>simp[hm]at h
    | some elems=>
     simp only[hm,C7,Bo]at h;obtain⟨ji,_,h⟩:=h;simp at h;obtain⟨rfl,_⟩:=h;obtain⟨hl,qJ⟩:=Ak9 hm;simp only[List.length_range]at hl qJ
     have jh:∀ i,i<len->∃ r,(∃ cs' x,(∀ j,j<P.cellsOf e->w.cell? ((a.add (i*P.cellsOf e)).add j)=some (cs'.getD j undef))/\elems[i]?=some x/\cs'.length=P.cellsOf e/\RowAt P w e cs' x.1 r):=by
      intro i hi;have h1:=qJ i (by simpa using hi);simp only[Tf]at h1;have qb:i<elems.length:=by omega
      cases qp:w.cells? 0 (a.add (i*P.cellsOf e)) (P.cellsOf e) with
      | none=>rw[qp]at h1;simp[qb]at h1
      | some cs'=>
       obtain⟨_,qi,qU⟩:=World.cells?_some qp;rw[qp,C7,A2 qb]at h1;obtain⟨r,hr⟩:=W5 qn P w qg qh ts qt fuel e cs' _ _ hp.1 h1;refine⟨r,cs',elems[i],fun j hj=>?_,A2 qb,qi,hr⟩;rw[qU j hj];simp[qi,hj]
     obtain⟨xs,jg,hx⟩:=Aot len jh
     have qN:0<len->a.spot=none:=fun h0=>by
      obtain⟨cs',x,qc,_⟩:=hx 0 h0;have qQ:=qc 0 hp.2;have:=World.cell?_spot qQ;simpa[Addr.add] using this
     have qc:∀ i j,i<len->j<P.cellsOf e->∃ v,w.cell? ⟨a.block,a.off+i*P.cellsOf e+j,none⟩=some v/\RepR (Hs w) w ((xs.getD i []).getD j .und) v:=by
      intro i j hi hj;obtain⟨cs',x,hc,_,qi,hr⟩:=hx i hi;have h1:=hc j hj;rw[A1q _ _ _ (qN (by omega))]at h1;exact⟨_,h1,hr.rep j (by omega)⟩
     refine⟨[.lst 0 xs],rfl,fun j hj=>?_,.lst hu (by omega) (fun i hi=>?_),?_⟩
     .obtain rfl:j=0:=by simpa using hj
      show RepR (Hs w) w (.lst 0 xs) (.slice (some a) len cap);rw[<-jg];refine .lst (m:=P.cellsOf e) (fun i j=>(w.cell? ⟨a.block,a.off+i*P.cellsOf e+j,none⟩).getD undef) (fun h=>by omega) (by omega) qW (fun h0=>⟨qN (by omega),?_⟩) (fun i hi=>?_) (fun i j hi hj=>?_) (fun i j hi hj=>?_)
      .obtain⟨v,hv,_⟩:=qc (xs.length - 1) (P.cellsOf e - 1) (by omega) (by omega);obtain⟨k,hk,qb⟩:=Atj hv;refine⟨k,hk,?_⟩
       have:(xs.length - 1)*P.cellsOf e+P.cellsOf e=xs.length*P.cellsOf e:=by
        rw[<-E1];congr 1;omega
       have:=hp.2;omega
      .obtain⟨cs',x,_,_,qi,hr⟩:=hx i (by omega);rw[hr.len,qi]
      .obtain⟨v,hv,_⟩:=qc i j (by omega) hj;rw[hv];rfl
      .obtain⟨v,hv,hr⟩:=qc i j (by omega) hj;rw[hv];exact hr
     .obtain⟨_,_,_,_,_,hr⟩:=hx i (by omega);exact hr.typ
     .simp only[C2,V.bulk,Rows.uptoBulk]
      have:=Ajs xs (elems.map (·.1)) (by simp;omega) (fun i hi d' hd=>by
       obtain⟨_,x,_,he,_,hr⟩:=hx i (by omega);simp[he]at hd;subst hd
       exact hr.bulk)
      omega
   .cases h
  .rename_i fs hu;rw[hu]at hp;simp only[Af,Bh,Zc]at hp
   split at h
   .rename_i qi;simp only[Bo]at h;obtain⟨xs,hm,h⟩:=h;simp at h;obtain⟨rfl,_⟩:=h;obtain⟨qa,h1,h2,h3,h4,h5,h6⟩:=Aj8 (P:=P) (w:=w) (cs:=_) fs.toList 0 _ xs hp.2 hm (by omega) (fun f hf x hx=>W5 qn P w qg qh ts qt fuel f.type _ x.1 x.2 (hp.1 f hf) hx);refine⟨qa.flatten,by omega,fun j hj=>by simpa using h5 j (by omega),.struct qa hu (by simpa using h1) (fun i f hf=>h4 i f (by simpa using hf)),?_⟩;simp only[Rows.uptoBulk];omega
   .cases h
  .rename_i n e hu;rw[hu]at hp;simp only[Af,beq_iff_eq,Zc]at hp
   split at h
   .rename_i qi;simp only[Bo]at h;obtain⟨xs,hm,h⟩:=h;simp at h;obtain⟨rfl,_⟩:=h;rw[List.range_eq_range']at hm;obtain⟨qa,h1,h3,h4,h5,h6⟩:=Ala (P:=P) (w:=w) (e:=e) (cs:=_) (fun i x hx=>W5 qn P w qg qh ts qt fuel e _ x.1 x.2 hp.1 hx) n 0 xs hm (by rw[qi,hp.2];simp);refine⟨qa.flatten,by rw[h3,qi,hp.2],fun j hj=>by simpa using h5 j (by rw[<-hp.2,<-qi];exact hj),.array qa hu h1 h4,?_⟩;simp only[Rows.uptoBulk];omega
   .cases h
  all_goals first
   | (rename_i hu;rw[hu]at hp;cases hp)
   | cases h
section
open Go.RowKit
variable {P:Program} {G:List (Nat × List V)} {T:Nat->Option AF} {pr:Nat->Option (List V->Option V)}
def Ac8:V->Bool
 | .bool _ | .int _ _ | .str _=>true
 | _=>false
def Avk{κ:Em}{w:World}{v:V}{u:Value}(h:Mu v u=true)(hf:Ac8 v=true):RepR κ w v u:=by
 have h':RepC ⟨κ,[]⟩ w v u:=Z5 h
 cases h' with
 | row h=>exact h
 | _=>cases hf
def Ajl:∀ {vs:List V} {us:List Value},Hj vs us=true->vs.length=us.length/\∀ j,j<vs.length->Mu (vs.getD j .und) (us.getD j undef)=true
 | [],[],_=>⟨rfl,fun j hj=>absurd hj (by simp)⟩
 | v::vs,u::us,h=>by
  simp only[Hj,Af]at h;obtain⟨h1,h2⟩:=Ajl h.2;refine⟨by simp[h1],fun j hj=>?_⟩
  cases j with
  | zero=>exact h.1
  | succ j=>simpa using h2 j (by simpa using hj)
def Ve(v:V)(u:Value):Prop:=(Mu v u=true/\Ac8 v=true)\/(v=.ifc/\∃ t p,u=.iface t p)
def Avl{κ:Em}{w:World}{v:V}{u:Value}(h:Ve v u):RepR κ w v u:=by
 rcases h with⟨h1,h2⟩ | ⟨rfl,t,p,rfl⟩
 .exact Avk h1 h2
 .exact .ifc
def Atq{r:List V}{us:List Value}(h:Hj r us=true)(hf:r.all Ac8=true):r.length=us.length/\∀ j,j<r.length->Ve (r.getD j .und) (us.getD j undef):=by
 obtain⟨h1,h2⟩:=Ajl h;exact⟨h1,fun j hj=>.inl ⟨h2 j hj,Bh.1 hf _ (by rw[Au,A2 hj];exact Fj hj)⟩⟩
def Aiv(G:List (Nat × List V))(w:World):Prop:=∀ g r,(g,r)∈G->∃ us e fz,w.heap[g]?=some (.cells us e fz)/\r.length=us.toList.length/\∀ j,j<r.length->Ve (r.getD j .und) (us.toList.getD j undef)
def Bbp{w:World}(h:Aiv G w):Inv G w.heap.size ⟨Hs w,[]⟩ [] w where
 base:=Ai _
 len:=rfl
 nd:=Tm
 low:=fun i p h=>by simp at h
 obj:=fun i ob p h=>by simp at h
 dom:=fun b k hk=>by
  have qA:Hs w b=some k:=hk;unfold Hs at qA
  split at qA
  .rename_i hh;exact(Array.getElem?_eq_some_iff.1 hh).1
  .cases qA
 glob:=fun g r hg=>by
  obtain⟨us,e,fz,hh,hl,hj⟩:=h g r hg;have hk:Hs w g=some us.size:=by unfold Hs;rw[hh]
  have:=RepC.imm (γ:=⟨Hs w,[]⟩) (w:=w) (r:=r) (off:=0) (b:=g) (o:=0) (k:=us.size) (fun j=>us.toList.getD j undef) hk (by simpa using Adz hl) (fun j qK=>by
    have qb:j<us.size:=by simp at hl;omega
    simp[World.cell?,hh,Au,qb]) (fun j qK=>Avl (hj j qK))
  exact this
 gsz:=fun g r hg=>by
  obtain⟨us,e,fz,hh,hl,hj⟩:=h g r hg;exact⟨(Array.getElem?_eq_some_iff.1 hh).1,by simp[Ea,hh];simpa using hl.symm⟩
def Avm{σ:St}{v:V}{b:Bool}(h:Es σ v=some (.bool b)):v=.bool b:=by
 unfold Es Jq at h
 split at h
 .simp only[Bo]at h;obtain⟨_,_,h⟩:=h;cases h
 .unfold G0 at h
  split at h
  .cases h
  .simp only[Bo]at h;obtain⟨_,_,h⟩:=h;cases h
  .unfold Fk at h
   split at h
   .cases h;rfl
   .split at h
    .split at h
     .split at h
      .split at h
       .simp only[Bo]at h;obtain⟨_,_,h⟩:=h;cases h
       .cases h
      .cases h
     .cases h
    .cases h
def Alb(hT:∀ f F,T f=some F->F.spec=none->Pl P G f F=true)(hS:∀ f F s,T f=some F->F.spec=some s->Vb P G f s)(qD:∀ f s,pr f=some s->Ir P G f s){f:Nat}{vs:List V}{us:List Value}{w:World}(hf:Fn T pr f vs (.bool true))(hg:Aiv G w)(hl:vs.length=us.length)
  (hr:∀ j,j<vs.length->RepV ⟨Hs w,[]⟩ w (vs.getD j .und) (us.getD j undef)):Calls P f us.toArray w fun e w'=>e=.returned (.bool true)/\Below w.heap.size w w':=by
 obtain⟨F,h1,h2,h3,v0,σ0,hE,hv⟩:=hf;have je:=Avm hv;subst je;refine(Arq hT hS qD hE us w ⟨Hs w,[]⟩ w.heap.size hl hr (Bbp hg)).mono ?_;rintro _ w' ⟨u,γ',rfl,hu,_,_,hb,_⟩;exact⟨by rw[Oo (Ay rfl hu)],hb⟩
def Aou{H:Type}{w:World}{t:TypeId}{cs:Array Value}{d:DataW H}{qe:List V}(h:RowAt P w t (Value.agg cs).cells.toList d qe):RepV ⟨Hs w,[]⟩ w (.agg qe) (.agg cs):=by
 have h1:qe.length=cs.toList.length:=h.len;have:=Rep1.agg (γ:=⟨Hs w,[]⟩) (w:=w) (cs:=qe) (us:=cs.toList) h1 (fun j hj=>.row (h.rep j (by rw[<-h.len];exact hj)));exact .one (by simpa using this)
end
open Go Go.RowKit Go.Shelf
def Atk(w:World)(g n b:Nat)(h:b≠g):(w.freeze ⟨g,0,none⟩ n).heap[b]?=w.heap[b]?:=by
 unfold World.freeze
 split
 .rfl
 .simp only[Array.getElem?_modify];rw[if_neg (by exact fun e=>h e.symm)]
def Atr(w:World)(g n:Nat){qj:Array Value}{e:TypeId}{lo hi:Nat}(h:w.heap[g]?=some (.cells qj e (lo,hi))):∃ qO qm,(w.freeze ⟨g,0,none⟩ n).heap[g]?=some (.cells qj e (qO,qm))/\qm<=max hi n:=by
 unfold World.freeze
 split
 .exact⟨lo,hi,h,by omega⟩
 .simp only[Array.getElem?_modify,if_true,h,Fr]
  split
  .exact⟨_,_,rfl,by simp<;>omega⟩
  .exact⟨_,_,rfl,by simp<;>omega⟩
section
variable {P:Program} {ρ:Ren}
set_option maxHeartbeats 1000000 in
set_option maxRecDepth 100000 in
def Auf(L:Lays.n169 P ρ)(X:Builder.Extra P ρ)(b g cap:Nat)(qj:Array Value)(fz:Nat × Nat)(l:List UInt8)(w:World)(h0:l≠[])(qv:w.cell? ⟨b,1,none⟩=some (.slice (some ⟨g,0,none⟩) l.length cap))
  (hg:w.heap[g]?=some (.cells qj (ρ.t 5) fz)) (jq:l.length<=cap) (qp:l.length<=qj.size) (hm:l.length<=9223372036854775807) (qc:∀ j x,l[j]?=some x->w.cell? ((⟨g,0,none⟩:Addr).add j)=some (.int .u8 x.toNat)) :
  Calls P (ρ.f 169) #[.pointer (some ⟨b,0,none⟩)] w fun e w'=>e=.returned (.string ⟨l.toArray⟩)/\w'=w.drew.freeze ⟨g,0,none⟩ l.length:=by
 have jo:l.length≠0:=by simpa using h0
 have c1:w.drew.cell? ⟨b,1,none⟩=some (.slice (some ⟨g,0,none⟩) l.length cap):=qv
 have qR:(Builtin.unsafeSliceData_ #[(ρ.t 37)] (ρ.t 127) #[.slice (some ⟨g,0,none⟩) l.length cap]).run P w.drew=.ok (.pointer (some ⟨g,0,none⟩)) w.drew:=
  Lib.run_unsafeSliceData_row _ _ _ _ _ _ (by omega)
 have qS:(Builtin.unsafeString_ #[(ρ.t 127),(ρ.t 3)] (ρ.t 9) #[.pointer (some ⟨g,0,none⟩),.int .i64 l.length]).run P w.drew=.ok (.string ⟨l.toArray⟩) (w.drew.freeze ⟨g,0,none⟩ l.length):=
  Lib.run_unsafeString_row w.drew (ρ.t 127) (ρ.t 3) (ρ.t 9) (ρ.t 5) L.t127 X.cellsByte g qj.size (by have ja:w.drew.heap[g]?=some (.cells qj (ρ.t 5) fz):=hg;simp[World.shape?,ja]) l h0 qp hm qc
 have mixed:=L.mixed;have t72:=L.t72;have a72:=L.a72;have z72:=L.z72;have v72:=L.v72;have jl:=run_underlying L.t72;have t70:=L.t70;have a70:=L.a70;have z70:=L.z70;have v70:=L.v70;have jk:=run_underlying L.t70;have t37:=L.t37;have a37:=L.a37;have z37:=L.z37;have v37:=L.v37;have jj:=run_underlying L.t37;have t127:=L.t127;have a127:=L.a127;have z127:=L.z127;have v127:=L.v127;have qF:=run_underlying L.t127;have t3:=L.t3;have a3:=L.a3;have z3:=L.z3;have v3:=L.v3;have u3:=run_underlying L.t3;have t9:=L.t9;have a9:=L.a9;have z9:=L.z9;have v9:=L.v9;have u9:=run_underlying L.t9;have t5:=X.t5;have a5:=X.a5;have z5:=X.z5;have v5:=X.v5;have u5:=run_underlying X.t5
 go_enter L.f169,Body.n169_ntmps ρ
 go_wp2
 go_region_o
 all_goals (go_wp2;go_ret;exact⟨rfl,rfl⟩)
set_option maxHeartbeats 1000000 in
set_option maxRecDepth 100000 in
def Aug(L:Lays.n169 P ρ)(X:Builder.Extra P ρ)(b:Nat)(w:World)(qv:w.cell? ⟨b,1,none⟩=some (.slice none 0 0)):
  Calls P (ρ.f 169) #[.pointer (some ⟨b,0,none⟩)] w fun e w'=>e=.returned (.string ⟨#[]⟩)/\w'=w.drew:=by
 have qS:=Any.unsafeString_none L X;have c1:w.drew.cell? ⟨b,1,none⟩=some (.slice none 0 0):=qv;have qR:(Builtin.unsafeSliceData_ #[(ρ.t 37)] (ρ.t 127) #[.slice none 0 0]).run P w.drew=.ok (.pointer none) w.drew:=rfl;have mixed:=L.mixed;have t72:=L.t72;have a72:=L.a72;have z72:=L.z72;have v72:=L.v72;have jl:=run_underlying L.t72;have t70:=L.t70;have a70:=L.a70;have z70:=L.z70;have v70:=L.v70;have jk:=run_underlying L.t70;have t37:=L.t37;have a37:=L.a37;have z37:=L.z37;have v37:=L.v37;have jj:=run_underlying L.t37;have t127:=L.t127;have a127:=L.a127;have z127:=L.z127;have v127:=L.v127;have qF:=run_underlying L.t127;have t3:=L.t3;have a3:=L.a3;have z3:=L.z3;have v3:=L.v3;have u3:=run_underlying L.t3;have t9:=L.t9;have a9:=L.a9;have z9:=L.z9;have v9:=L.v9;have u9:=run_underlying L.t9;have t5:=X.t5;have a5:=X.a5;have z5:=X.z5;have v5:=X.v5;have u5:=run_underlying X.t5
 go_enter L.f169,Body.n169_ntmps ρ
 go_wp2
 go_region_o
 all_goals (go_wp2;go_ret;exact⟨rfl,rfl⟩)
end
def Ats(w:World)(b:Nat)(us:Array Value)(e:TypeId)(u:Value){fz:Nat × Nat}(h:w.heap[b]?=some (.cells us e fz)):w.setCell ⟨b,0,none⟩ u=w.setRow b (us.setIfInBounds 0 u):=by
 unfold World.setCell World.setRow;congr 1;apply Array.ext_getElem?;intro i;simp only[Array.getElem?_modify]
 split
 .rename_i hi;subst hi;rw[h];simp
 .rfl
def Ajt:∀ {xs:List (List V)} {l:List UInt8},Lp xs=some l->l.length=xs.length/\∀ (j:Nat) x,l[j]?=some x->xs.getD j []=[.int .u8 (x.toNat:Int)]
 | [],l,h=>by
  simp[Lp]at h;subst h;exact⟨rfl,fun j x hj=>by simp at hj⟩
 | r::xs,l,h=>by
  unfold Lp at h
  split at h
  .cases h;rename_i e;cases e
  .rename_i n r' e;injection e with e1 e2;subst e1 e2
   split at h
   .rename_i hn;simp only[Bo]at h;obtain⟨l',h,rfl⟩:=h;obtain⟨g1,g2⟩:=Ajt h;refine⟨by simp[g1],fun j x hj=>?_⟩
    cases j with
    | zero=>
     simp at hj
     have hx:((UInt8.ofNat n.toNat).toNat:Int)=n:=by
      rw[UInt8.toNat_ofNat'];have:n.toNat % 2 ^ 8=n.toNat:=Tj (by omega);omega
     rw[<-hj,hx];rfl
    | succ j=>exact g2 j x (by simpa using hj)
   .cases h
  .cases h
/-! copyCheck -/
def Afy:Tryz.prog.underlying 130=some (.pointer 132):=by kernel_rfl
def Amk:(Tryz.prog.info? 132).map (·.size)=some 2:=by kernel_rfl
def Alc:Tryz.prog.cellsOf 132=2:=by kernel_rfl
def Axo:sameLayout Tryz.prog Tryz.prog.depth 132 132=true:=by kernel_rfl
def Avn:∃ d,Tryz.prog.depth=d+1:=⟨Tryz.prog.depth - 1,by kernel_rfl⟩
def Axp(n:Nat)(hn:1<=n):liesAt Tryz.prog Tryz.prog.depth 132 n 0 132 1=true:=by
 obtain⟨d,hd⟩:=Avn
 have hr:rowAt Tryz.prog (sameLayout Tryz.prog Tryz.prog.depth · 132) Tryz.prog.depth 132 n 0 1=true:=by
  have:=Axo;generalize hf:(fun x=>sameLayout Tryz.prog Tryz.prog.depth x 132)=f;have qZ:f 132=true:=by rw[<-hf];exact this
  rw[hd];unfold rowAt;simp[Alc,qZ,hn]
 rw[hd];unfold liesAt;rw[hr];rfl
def Aj9:Tryz.prog.underlying 206=some .unsafePointer:=by kernel_rfl
set_option maxHeartbeats 1000000 in
set_option maxRecDepth 100000 in
def A1r(b:Nat)(w:World)(h0:w.cell? ⟨b,0,none⟩=some (.pointer (some ⟨b,0,none⟩))):
  Calls Tryz.prog 132 #[.pointer (some ⟨b,0,none⟩)] w fun e w'=>e=.returned (.tuple #[])/\w'=w:=by
 obtain⟨j,hj,_⟩:=Bo.1 Amk
 go_enter Tryz.func132,Tryz.ntmps132
 go_wp2
 rw[Lib.run_neq_ptr_same w _ Afy hj]
 go_wp2
 go_end0
 exact⟨rfl,rfl⟩
set_option maxHeartbeats 1000000 in
set_option maxRecDepth 100000 in
def Axq(b:Nat)(w:World)(h0:w.cell? ⟨b,0,none⟩=some (.pointer none))(n:Nat)(hn:2<=n)(qM:w.shape? b=some (132,n))(jm:w.frozen? ⟨b,0,none⟩=false):
  Calls Tryz.prog 132 #[.pointer (some ⟨b,0,none⟩)] w fun e w'=>e=.returned (.tuple #[])/\w'=w.setCell ⟨b,0,none⟩ (.pointer (some ⟨b,0,none⟩)):=by
 obtain⟨j,hj,qs⟩:=Bo.1 Amk
 go_enter Tryz.func132,Tryz.ntmps132
 go_wp2
 rw[Lib.run_to_unsafe w ⟨b,0,none⟩ Afy Aj9 hj (by rw[qs];decide) qM (by show 0<n;omega)];simp only[Result.andThen];rw[Oper.upon_value]
 go_wp2
 rw[run_callFunc_extern Tryz.func154 (by kernel_rfl) (by kernel_rfl) (by kernel_rfl) (e:=Extern.AbiNoEscape.same) (by kernel_rfl)];rw[Lib.run_noEscape];simp only[Result.andThen];rw[Oper.upon_value]
 go_wp2
 rw[Lib.run_from_unsafe w ⟨b,0,none⟩ Aj9 Afy hj qM (by rw[Alc];exact Axp _ (by omega))];simp only[Result.andThen];rw[Oper.upon_value]
 go_wp2
 go_end0
 exact⟨rfl,rfl⟩
/-! what they do -/
def V0(tB:Nat):List V->St->Option (V × St)
 | [.ptr b g 0],σ=>match σ[b]? with
  | some (.row [.nilp,x] e g' 0)=>if g=g'/\e=tB then some (.tup [],σ.set b (.row [.ptr b g 0,x] e g 0)) else none
  | some (.row [.ptr b' g2 0,_] _ g' _)=>if g=g'/\b'=b/\g2=g then some (.tup [],σ) else none
  | _=>none
 | _,_=>none
def Sv(tB tE:Nat):List V->St->Option (V × St)
 | [.ptr b g 0],σ=>match σ[b]? with
  | some (.row [_,.nils] e g' _)=>if g=g'/\e=tB then some (.str [],σ) else none
  | some (.row [_,.sl i gi 0 len 1 _] e g' _)=>if g=g'/\e=tB/\0<len then(match σ[i]? with
   | some (.row cs e' qG _)=>if gi=qG/\e'=tE/\len<=cs.length then(Lp (E6 1 len cs)).map fun l=>(.str l,σ.set i .dead) else none
   | _=>none) else none
  | _=>none
 | _,_=>none
section
variable {G:List (Nat × List V)} {N:Nat} {γ:Gh} {σ:St} {w:World}
def Inv.kill(h:Inv G N γ σ w){i k:Nat}{p:Nat × Nat}{cs:List V}{e g z:Nat}(hp:γ.O[i]?=some p)(ho:σ[i]?=some (.row cs e g z)):
  Inv G N γ (σ.set i .dead) (w.freeze ⟨p.1,0,none⟩ k)/\Ext γ w γ (w.freeze ⟨p.1,0,none⟩ k)/\Below N w (w.freeze ⟨p.1,0,none⟩ k):=by
 obtain⟨q,hq,h1,h2,h3,us,lo,hi,h4,h5,h6,h7⟩:=h.of ho;rw[hp]at hq;injection hq with hq;subst hq;obtain⟨qO,qm,f1,f2⟩:=Atr w p.1 k h4
 have qE:(w.freeze ⟨p.1,0,none⟩ k).heap.size=w.heap.size:=by unfold World.freeze;split<;>simp
 have hs:Ea (w.freeze ⟨p.1,0,none⟩ k) p.1=Ea w p.1:=by simp[Ea,f1,h4]
 have:=h.turn (w':=w.freeze ⟨p.1,0,none⟩ k) (p':=p) (ob':=.dead) (κ':=γ.κ) hp (by omega) (fun b _ hb=>Atk w p.1 k b hb) (fun _ _ _=>rfl) (fun b k hk=>by rw[qE];exact h.dom b k hk) (fun z' hz=>⟨z',hz,Ai _,fun o _=>by simp[World.cell?,f1,h4]⟩) (Ai _) (fun _=>⟨rfl,hs⟩) (.inl rfl) (fun _=>by show p.1<_;rw[qE];exact h.oblt hp);rw[Or hp]at this;exact⟨this.1,this.2,Lib.below_freeze (Below.refl N w) (p:=⟨p.1,0,none⟩) (h.low i p hp) k⟩
end
def A98{G:List (Nat × List V)}:Vb Tryz.prog G 132 (V0 132):=by
 refine⟨⟨Tryz.f132,_,by kernel_rfl,rfl,by decide⟩,fun args σ v σ' h us w γ N hl ha hI=>?_⟩;unfold V0 at h
 split at h
 .rename_i b g
  match us,hl with
  | [u],_=>
  have hu:=ha 0 (by simp);obtain⟨b1,blk,g1,ql,hB,jb,qo⟩:=Nk (Ay rfl hu);have ql:u=.pointer (some ⟨b1,0,none⟩):=ql;subst ql
  split at h
  .rename_i x e g' hb
   split at h
   .rename_i qk;cases h;obtain⟨rfl,rfl⟩:=qk;obtain⟨p,hp,q1,q2,q3,us,lo,hi,q4,q5,q6,q7⟩:=hI.of hb;rw[hB]at hp;cases hp;have q1:g1=g:=q1;subst q1;obtain rfl:=qo rfl;have q4:w.heap[b1]?=some (.cells us 132 (lo,hi)):=q4;have q6:2<=us.size:=q6;have c0:us.getD 0 undef=.pointer none:=Rr (q7 0 (by simp));have c1:=q7 1 (by simp)
    have qw:w.cell? ⟨b1,0,none⟩=some (.pointer none):=by
     simp[World.cell?,q4];have:us.getD 0 undef=us[0]:=by simp[Array.getD,show 0<us.size by omega]
     rw[<-c0,this];simp
    refine(Axq b1 w qw us.size q6 (by simp[World.shape?,q4]) (by
     simp only[World.frozen?,q4]
     rcases q5 with⟨a1,a2 | a2⟩<;>simp<;>omega)).mono ?_
    rintro e w' ⟨rfl,rfl⟩;rw[Ats w b1 us _ _ q4]
    obtain⟨i1,i2⟩:=hI.write (g':=g1) (us':=us.setIfInBounds 0 (.pointer (some ⟨b1,0,none⟩))) (cs':=[.ptr b g1 0,x]) hB hb q4 q5 (Ai _) (A0 _) (by simp) q6 (fun o ho=>by omega) (fun j hj=>by
     match j,hj with
     | 0,_=>
      have:(us.setIfInBounds 0 (.pointer (some ⟨b1,0,none⟩))).getD 0 undef=.pointer (some ⟨b1,0,none⟩):=by simp[Array.getD_eq_getD_getElem?,show 0<us.size by omega]
      rw[this];exact .ptr hB (Ai _) (fun _=>rfl)
     | 1,_=>
      have:(us.setIfInBounds 0 (.pointer (some ⟨b1,0,none⟩))).getD 1 undef=us.getD 1 undef:=by simp[Array.getD_eq_getD_getElem?,Array.getElem?_setIfInBounds]
      rw[this]
      exact c1)
    exact⟨_,_,rfl,.tup rfl (fun j hj=>by simp at hj),i1,i2,Zx _ (hI.low _ _ hB),fun _ _=>rfl⟩
   .cases h
  .rename_i b' g2 x e g' z hb
   split at h
   .rename_i qk;cases h;obtain⟨rfl,rfl,rfl⟩:=qk;obtain⟨p,hp,q1,q2,q3,us,lo,hi,q4,q5,q6,q7⟩:=hI.of hb;rw[hB]at hp;cases hp;have q1:g1=g2:=q1;subst q1;obtain rfl:=qo rfl;have q4:w.heap[b1]?=some (.cells us e (lo,hi)):=q4;have q6:2<=us.size:=q6;obtain⟨b2,qP,g3,c0,qH,_,qu⟩:=Nk (q7 0 (by simp));rw[hB]at qH;cases qH;obtain rfl:=qu rfl
    have qw:w.cell? ⟨b2,0,none⟩=some (.pointer (some ⟨b2,0,none⟩)):=by
     simp[World.cell?,q4];have:us.getD 0 undef=us[0]:=by simp[Array.getD,show 0<us.size by omega]
     rw[<-c0,this];simp
    refine(A1r b2 w qw).mono ?_;rintro e w' ⟨rfl,rfl⟩;exact⟨_,γ,rfl,.tup rfl (fun j hj=>by simp at hj),hI,Ext.refl _ _,Below.refl _ _,fun _ _=>rfl⟩
   .cases h
  .cases h
 .cases h
def A58{G:List (Nat × List V)}:Vb Tryz.prog G 80 (Sv 132 5):=by
 refine⟨⟨Tryz.f80,_,by kernel_rfl,rfl,by decide⟩,fun args σ v σ' h us w γ N hl ha hI=>?_⟩;unfold Sv at h
 split at h
 .rename_i b g
  match us,hl with
  | [u],_=>
  have hu:=ha 0 (by simp);obtain⟨b1,blk,g1,ql,hB,jb,qo⟩:=Nk (Ay rfl hu);have ql:u=.pointer (some ⟨b1,0,none⟩):=ql;subst ql
  split at h
  .rename_i x e g' z hb
   split at h
   .rename_i qk;cases h;obtain⟨rfl,rfl⟩:=qk;obtain⟨p,hp,q1,q2,q3,us,lo,hi,q4,q5,q6,q7⟩:=hI.of hb;rw[hB]at hp;cases hp;have q1:g1=g:=q1;subst q1;obtain rfl:=qo rfl;have q4:w.heap[b1]?=some (.cells us 132 (lo,hi)):=q4;have q6:2<=us.size:=q6;have c1:us.getD 1 undef=.slice none 0 0:=Ln (q7 1 (by simp))
    have qx:w.cell? ⟨b1,1,none⟩=some (.slice none 0 0):=by
     simp[World.cell?,q4];have:us.getD 1 undef=us[1]:=by simp[Array.getD,show 1<us.size by omega]
     rw[<-c1,this];simp
    refine(Aug Tryz.lays169 Tryz.Builder_Extra_169 b1 w qx).mono ?_;rintro e w' ⟨rfl,rfl⟩;obtain⟨d1,d2⟩:=hI.drew;exact⟨_,γ,rfl,C5 (.row (.str (by simp[maxLen]))),d1,d2,(Below.refl N w).drew,fun _ _=>rfl⟩
   .cases h
  .rename_i x i gi len own e g' z hb
   split at h
   .rename_i qk;obtain⟨rfl,rfl,jc⟩:=qk
    split at h
    .rename_i cs e' qG zi qm
     split at h
     .rename_i hc;obtain⟨rfl,rfl,qd⟩:=hc;simp only[Bo]at h;obtain⟨l,jd,h⟩:=h;cases h;obtain⟨p,hp,q1,q2,q3,us,lo,hi,q4,q5,q6,q7⟩:=hI.of hb;rw[hB]at hp;cases hp;have q1:g1=g:=q1;subst q1;obtain rfl:=qo rfl;have q4:w.heap[b1]?=some (.cells us 132 (lo,hi)):=q4;have q6:2<=us.size:=q6;obtain⟨bb,oo,cap,bk,gk,c1,k1,k2,k3,k4,k5,k6⟩:=Up (q7 1 (by simp));have c1:us.getD 1 undef=.slice (some ⟨bb,oo,none⟩) len cap:=c1;obtain⟨p,hp,r1,r2,r3,vs,S0,qq,r4,r5,r6,r7⟩:=hI.of qm;rw[k1]at hp;cases hp;have r1:gk=gi:=r1;subst r1;obtain⟨rfl,_⟩:=k6 rfl;obtain rfl:=k5 (by omega);have r4:w.heap[bb]?=some (.cells vs 5 (S0,qq)):=r4;obtain⟨n1,n2⟩:=Ajt jd;have qB:l.length=len:=by rw[n1];simp[Xi]
      have qx:w.cell? ⟨b1,1,none⟩=some (.slice (some ⟨bb,0,none⟩) l.length cap):=by
       rw[qB];simp[World.cell?,q4];have:us.getD 1 undef=us[1]:=by simp only[Array.getD];rw[dif_pos (show 1<us.size by omega)];rfl
       rw[<-c1,this];simp
      refine(Auf Tryz.lays169 Tryz.Builder_Extra_169 b1 bb cap vs (S0,qq) l w (by rintro rfl;simp at qB;omega) qx r4 (by omega) (by omega) (by unfold maxLen at k4;omega) (fun j x hj=>?_)).mono ?_
      .have qr:j<len:=by rw[<-qB];exact(Aq.1 hj).1
       have a1:=n2 j x hj;have a2:=r7 j (by omega)
       have qV:cs.getD j .und=.int .u8 (x.toNat:Int):=by
        rw[Xi]at a1;have qz:j<cs.length:=by omega
        simp[Au,qr,qz]at a1;rw[Au,A2 qz];rw[List.take_one]at a1;simpa[qz] using a1
       rw[qV]at a2;have a3:=Eo a2;rw[Jo];have qs:j<vs.size:=by omega
       have:vs.getD j undef=vs[j]:=by simp[Array.getD,qs]
       simp[World.cell?,r4,qs];rw[<-this];exact a3
      .rintro e w' ⟨rfl,rfl⟩;obtain⟨d1,d2⟩:=hI.drew;obtain⟨f1,f2,f3⟩:=d1.kill (k:=l.length) k1 qm;exact⟨_,γ,rfl,C5 (.row (.str (by omega))),f1,d2.trans f2,((Below.refl N w).drew).trans f3,fun _ _=>rfl⟩
     .cases h
    .cases h
   .cases h
  .cases h
 .cases h
open Go Go.RowKit Go.Sort
def gPow:List V:=Lib.pow10Tab.map fun z=>.int .u64 z
variable {G:List (Nat × List V)}
def Axr:Tryz.prog.globalNamed "internal/strconv.uint64pow10"=some 1:=by kernel_rfl
def Aqh{κ:Em}{w:World}(h:∀ g r,(g,r)∈G->RepC ⟨κ,[]⟩ w (.imm r 0) (.pointer (some ⟨g,0,none⟩)))(hs:∀ g r,(g,r)∈G->Ea w g=some r.length)(qf:(1,gPow)∈G):
  Lib.TabIs Tryz.prog w "internal/strconv.uint64pow10" .u64 Lib.pow10Tab:=by
 have h1:=h _ _ qf;have h2:=hs _ _ qf;obtain⟨b,o,k,row,hu,h3,h4,h5,h6⟩:=Lq h1;simp at hu;obtain⟨rfl,rfl⟩:=hu;unfold Ea at h2
 split at h2
 .rename_i cs e fz hh;simp only[Oh]at h2;unfold Lib.TabIs World.var?;rw[Axr];simp only[C7,hh];congr 1;apply Array.ext
  .rw[h2];simp[gPow]
  .intro i qy qq;have qb:i<gPow.length:=by omega
   have a1:=h5 i qb;have a2:=h6 i qb;have qC:i<Lib.pow10Tab.length:=by simpa[gPow] using qb
   rw[show gPow.getD i .und=.int .u64 Lib.pow10Tab[i] by simp[gPow,Au,qC]]at a2;have a3:=Eo (γ:=⟨κ,[]⟩) (.row a2);rw[a3]at a1;simp[World.cell?,hh,qy]at a1;simp[a1]
 .cases h2
def Ub{κ:Em}{w w':World}{v:V}{u:Value}{e:Ending}(hd:∀ b k,κ b=some k->b<w.heap.size)(hv:∀ κ' w',RepV ⟨κ',[]⟩ w' v u)(h:e=.returned u/\Below w.heap.size w w'):
  ∃ u κ',e=.returned u/\RepV ⟨κ',[]⟩ w' v u/\Below w.heap.size w w'/\(∀ b,b<w.heap.size->κ' b=κ b)/\∀ b k,κ' b=some k->b<w'.heap.size:=
 ⟨_,κ,h.1,hv κ w',h.2,fun _ _=>rfl,fun b k hk=>Te (hd b k hk) h.2.size⟩
def Afa{κ:Em}{w w':World}{l:List UInt8}{e:Ending}(hd:∀ b k,κ b=some k->b<w.heap.size)(hl:l.length<=maxLen)(h:e=.returned (.string ⟨l.toArray⟩)/\Below w.heap.size w w'):
  ∃ u κ',e=.returned u/\RepV ⟨κ',[]⟩ w' (.str l) u/\Below w.heap.size w w'/\(∀ b,b<w.heap.size->κ' b=κ b)/\∀ b k,κ' b=some k->b<w'.heap.size:=
 ⟨_,κ,h.1,C5 (.row (.str hl)),h.2,fun _ _=>rfl,fun b k hk=>Te (hd b k hk) h.2.size⟩
def Aka(w:World)(k:Nat)(os:Array Obj):Below w.heap.size w (grow (w.drewN k) os):=
 ⟨rfl,rfl,rfl,by simp[grow,World.drewN],fun k hk=>by simp[grow,World.drewN,Array.getElem?_append,hk]⟩
/-! numerals, so that they can be run -/
def Hb:Nat->Nat->List UInt8
 | 0,_=>[]
 | k+1,u=>if u<10 then [UInt8.ofNat (48+u)] else Hb k (u / 10)++[UInt8.ofNat (48+u % 10)]
def Afz:∀ (k u:Nat),u<10 ^ (k+1)->Hb (k+1) u=Lib.decDigits u
 | 0,u,h=>by
  rw[Lib.decDigits];unfold Hb;rw[if_pos (by simpa using h),dif_pos (by simpa using h)]
 | k+1,u,h=>by
  rw[Lib.decDigits];unfold Hb
  split
  .rfl
  .rw[Afz k (u / 10) (by rw[Ad3]at h;omega)]
def Bw(n:Int):List UInt8:=if n<0 then 45::Hb 20 n.natAbs else Hb 20 n.toNat
def Aml(n:Int)(h1 : -9223372036854775808<=n)(h2:n<=9223372036854775807):Bw n=Lib.itoa n:=by
 unfold Bw Lib.itoa
 split
 .rw[Afz 19 _ (by omega)]
 .rw[Afz 19 _ (by omega)]
def N5:List V->Option V
 | [.int .i64 n,.int .i64 10]=>if -9223372036854775808<=n/\n<=9223372036854775807 then some (.str (Bw n)) else none
 | _=>none
def Vf:List V->Option V
 | [.int .i64 n]=>if -9223372036854775808<=n/\n<=9223372036854775807 then some (.str (Bw n)) else none
 | _=>none
def Vv:List V->Option V
 | [.str s,.int .i64 c]=>if 0<=c/\c<=9223372036854775807/\s.length*c.toNat<=140737488355328 then some (.str (Lib.repeatL s c.toNat)) else none
 | _=>none
def Y1:List V->Option V
 | [.str s,.str p]=>some (.bool (Lib.hasPrefix s p))
 | _=>none
def V1{α:Type}{us:List α}(h:2=us.length):∃ a b,us=[a,b]:=by
 match us,h with
 | [a,b],_=>exact⟨a,b,rfl⟩
def Bbq{α:Type}{us:List α}(h:1=us.length):∃ a,us=[a]:=by
 match us,h with
 | [a],_=>exact⟨a,rfl⟩
def A59(qf:(1,gPow)∈G):Ir Tryz.prog G 40 N5:=by
 refine⟨⟨Tryz.f40,_,by kernel_rfl,rfl,by decide⟩,fun κ w vs us v hg hs hd hl ha h=>?_⟩;unfold N5 at h
 split at h
 .rename_i n
  split at h
  .rename_i hn;cases h;obtain⟨a,b,rfl⟩:=V1 hl;have h1:=Eo (H0 rfl (ha 0 (by simp)));have h2:=Eo (H0 rfl (ha 1 (by simp)));have h1:a=.int .i64 n:=h1;have h2:b=.int .i64 10:=h2;subst h1 h2;rw[Aml n hn.1 hn.2];refine(Tryz.strconv_FormatInt_10 n hn.1 hn.2 w (Aqh hg hs qf)).mono fun e w' hh=>Afa hd (by have:=Lib.itoa_length_le n hn.1 hn.2;unfold maxLen;omega) ?_
   obtain⟨h,k,os,rfl⟩:=hh;exact⟨h,Aka w k os⟩
  .cases h
 .cases h
def A1s(qf:(1,gPow)∈G):Ir Tryz.prog G 39 Vf:=by
 refine⟨⟨Tryz.f39,_,by kernel_rfl,rfl,by decide⟩,fun κ w vs us v hg hs hd hl ha h=>?_⟩;unfold Vf at h
 split at h
 .rename_i n
  split at h
  .rename_i hn;cases h;obtain⟨a,rfl⟩:=Bbq hl;have h1:=Eo (H0 rfl (ha 0 (by simp)));have h1:a=.int .i64 n:=h1;subst h1;rw[Aml n hn.1 hn.2];refine(Tryz.strconv_Itoa n hn.1 hn.2 w (Aqh hg hs qf)).mono fun e w' hh=>Afa hd (by have:=Lib.itoa_length_le n hn.1 hn.2;unfold maxLen;omega) ?_
   obtain⟨h,k,os,rfl⟩:=hh;exact⟨h,Aka w k os⟩
  .cases h
 .cases h
def A6a:Ir Tryz.prog G 101 Vv:=by
 refine⟨⟨Tryz.f101,_,by kernel_rfl,rfl,by decide⟩,fun κ w vs us v hg hs hd hl ha h=>?_⟩;unfold Vv at h
 split at h
 .rename_i s c
  split at h
  .rename_i hc;cases h;obtain⟨a,b,rfl⟩:=V1 hl;have h1:=(Gf (H0 rfl (ha 0 (by simp)))).1;have h2:=Eo (H0 rfl (ha 1 (by simp)));have h1:a=.string ⟨s.toArray⟩:=h1;have h2:b=.int .i64 c:=h2;obtain⟨n,rfl⟩:∃ n:Nat,c=n:=⟨c.toNat,by omega⟩;subst h1 h2;have qX:s.length*n<=140737488355328:=by simpa using hc.2.2
   have:=Tryz.strings_Repeat ⟨s.toArray⟩ n w (by omega) (by rw[I9];exact qX);refine this.mono fun e w' hh=>Afa hd ?_ (by simpa using hh)
   rw[Rl,Lib.repeatL_length,Ts];unfold maxLen;omega
  .cases h
 .cases h
def A99:Ir Tryz.prog G 31 Y1:=by
 refine⟨⟨Tryz.f31,_,by kernel_rfl,rfl,by decide⟩,fun κ w vs us v hg hs hd hl ha h=>?_⟩;unfold Y1 at h
 split at h
 .rename_i s p;cases h;obtain⟨a,b,rfl⟩:=V1 hl;have h1:=(Gf (H0 rfl (ha 0 (by simp)))).1;have h2:=(Gf (H0 rfl (ha 1 (by simp)))).1;have h1:a=.string ⟨s.toArray⟩:=h1;have h2:b=.string ⟨p.toArray⟩:=h2;subst h1 h2;refine(Tryz.strings_HasPrefix ⟨s.toArray⟩ ⟨p.toArray⟩ w).mono ?_;rintro e w' ⟨rfl,rfl⟩;exact⟨_,κ,rfl,C5 (.row .bool),Below.refl _ _,fun _ _=>rfl,hd⟩
 .cases h
def Rb:List V->Option V
 | [.str s,.int .u8 c]=>some (.int .i64 (Lib.indexByte s c.toNat.toUInt8))
 | _=>none
def Yu:List V->Option V
 | [.str s,.str p]=>if s.length<4294967281 then some (.tup [.str (Lib.cut s p).1,.str (Lib.cut s p).2.1,.bool (Lib.cut s p).2.2]) else none
 | _=>none
def V2:List V->Option V
 | [.str s,.str [c]]=>if c.toNat<128 then some (.str (Lib.trimLeftB s c)) else none
 | _=>none
def V3:List V->Option V
 | [.str s,.int .i64 10,.int .i64 64]=>if s.length<=281474976710656 then(match Lib.parseIntB 64 s with
  | .ok v=>some (.tup [.int .i64 v,.nili])
  | Lib.NumEnd.syntax=>some (.tup [.int .i64 0,.ifc])
  | .range=>some (.tup [.int .i64 (Lib.intSat 64 s),.ifc])) else none
 | _=>none
def Asm{γ:Gh}{w:World}{vs:List V}{us:List Value}(h1:vs.length=us.length)(h2:∀ j,j<vs.length->RepC γ w (vs.getD j .und) (us.getD j undef)):RepV γ w (.tup vs) (.tuple us.toArray):=
 .tup h1 (fun j hj=>.cell (h2 j hj))
def Baa:Ir Tryz.prog G 50 Rb:=by
 refine⟨⟨Tryz.f50,_,by kernel_rfl,rfl,by decide⟩,fun κ w vs us v hg hs hd hl ha h=>?_⟩;unfold Rb at h
 split at h
 .rename_i s c;cases h;obtain⟨a,b,rfl⟩:=V1 hl;have h1:=(Gf (H0 rfl (ha 0 (by simp)))).1;have h2:=Eo (H0 rfl (ha 1 (by simp)));have h1:a=.string ⟨s.toArray⟩:=h1;have h2:b=.int .u8 c:=h2;subst h1 h2;refine(Tryz.strings_IndexByte ⟨s.toArray⟩ c w).mono ?_;rintro e w' ⟨rfl,rfl⟩;exact Ub hd (fun κ' w'=>C5 (.row .int)) ⟨rfl,Below.refl _ _⟩
 .cases h
def Axs{κ:Em}{w:World}{g:Nat}{m:Int}(h:∀ g r,(g,r)∈G->RepC ⟨κ,[]⟩ w (.imm r 0) (.pointer (some ⟨g,0,none⟩)))(qf:(g,[V.int .i64 m])∈G):w.cell? ⟨g,0,none⟩=some (.int .i64 m):=by
 obtain⟨b,o,k,row,hu,h3,h4,h5,h6⟩:=Lq (h _ _ qf);simp at hu;obtain⟨rfl,rfl⟩:=hu;have a1:=h5 0 (by simp);have a2:=h6 0 (by simp);have a3:=Eo (γ:=⟨κ,[]⟩) (.row a2);rw[a3]at a1;exact a1
def A1t(s p:List UInt8):(Lib.cut s p).1.length<=s.length/\(Lib.cut s p).2.1.length<=s.length:=by
 unfold Lib.cut
 split<;>simp<;>omega
def A6b{m:Int}(qf:(2,[V.int .i64 m])∈G):Ir Tryz.prog G 48 Yu:=by
 refine⟨⟨Tryz.f48,_,by kernel_rfl,rfl,by decide⟩,fun κ w vs us v hg hs hd hl ha h=>?_⟩;unfold Yu at h
 split at h
 .rename_i s p
  split at h
  .rename_i qb;cases h;obtain⟨a,b,rfl⟩:=V1 hl;obtain⟨h1,hm⟩:=Gf (H0 rfl (ha 0 (by simp)));have h2:=(Gf (H0 rfl (ha 1 (by simp)))).1;have h1:a=.string ⟨s.toArray⟩:=h1;have h2:b=.string ⟨p.toArray⟩:=h2;subst h1 h2;refine(Tryz.strings_Cut ⟨s.toArray⟩ ⟨p.toArray⟩ m w (by rw[I9];exact qb) (Axs hg qf)).mono ?_;rintro e w' ⟨rfl,n,rfl⟩;obtain⟨c1,c2⟩:=A1t s p;refine Ub hd (fun κ' w'=>Asm (us:=[.string ⟨(Lib.cut s p).1.toArray⟩,.string ⟨(Lib.cut s p).2.1.toArray⟩,.bool (Lib.cut s p).2.2]) rfl (fun j hj=>?_)) ⟨rfl,⟨rfl,rfl,rfl,Ai _,fun _ _=>rfl⟩⟩
   match j,hj with
   | 0,_=>exact .row (.str (by show(Lib.cut s p).1.length<=_;omega))
   | 1,_=>exact .row (.str (by show(Lib.cut s p).2.1.length<=_;omega))
   | 2,_=>exact .row .bool
  .cases h
 .cases h
def Bab:Ir Tryz.prog G 83 V2:=by
 refine⟨⟨Tryz.f83,_,by kernel_rfl,rfl,by decide⟩,fun κ w vs us v hg hs hd hl ha h=>?_⟩;unfold V2 at h
 split at h
 .rename_i s c
  split at h
  .rename_i qb;cases h;obtain⟨a,b,rfl⟩:=V1 hl;obtain⟨h1,hm⟩:=Gf (H0 rfl (ha 0 (by simp)));have h2:=(Gf (H0 rfl (ha 1 (by simp)))).1;have h1:a=.string ⟨s.toArray⟩:=h1;have h2:b=.string ⟨#[c]⟩:=h2;subst h1 h2;refine(Tryz.strings_TrimLeft_one ⟨s.toArray⟩ c qb w).mono ?_;rintro e w' ⟨rfl,rfl⟩;refine Ub hd (fun κ' w'=>C5 (.row (.str ?_))) ⟨rfl,Below.refl _ _⟩;exact Cz (List.dropWhile_sublist _).length_le hm
  .cases h
 .cases h
def Aqi{κ:Em}{w:World}{g:Nat}{nm:String}(hn:Tryz.prog.globalNamed nm=some g)(h:∀ g r,(g,r)∈G->RepC ⟨κ,[]⟩ w (.imm r 0) (.pointer (some ⟨g,0,none⟩)))(hs:∀ g r,(g,r)∈G->Ea w g=some r.length)(qf:(g,[V.ifc])∈G):
  ∃ t p,w.var? Tryz.prog nm=some #[.iface t p]:=by
 obtain⟨b,o,k,row,hu,h3,h4,h5,h6⟩:=Lq (h _ _ qf);simp at hu;obtain⟨rfl,rfl⟩:=hu;have a1:=h5 0 (by simp);have a2:=h6 0 (by simp);obtain⟨t,p,a3⟩:=Ae3 (γ:=⟨κ,[]⟩) (.row a2);rw[a3]at a1;have h2:=hs _ _ qf;unfold Ea at h2
 split at h2
 .rename_i cs e fz hh;simp only[Oh,Ah,C8,Fc]at h2;refine⟨t,p,?_⟩;unfold World.var?;rw[hn];simp only[C7,hh];congr 1;apply Array.ext
  .rw[h2];rfl
  .intro i qy qq;obtain rfl:i=0:=by simp at qq;omega
   simp[World.cell?,hh,qy]at a1;simp[a1]
 .cases h2
def Aov:Tryz.prog.globalNamed "strconv.ErrSyntax"=some 7:=by kernel_rfl
def Aow:Tryz.prog.globalNamed "strconv.ErrRange"=some 8:=by kernel_rfl
def Af0{γ:Gh}{w:World}{n:Int}{v:V}{u:Value}(h:RepC γ w v u):RepV γ w (.tup [.int .i64 n,v]) (.tuple #[.int .i64 n,u]):=
 Asm (us:=[.int .i64 n,u]) rfl (fun j hj=>by
  match j,hj with
  | 0,_=>exact .row .int
  | 1,_=>exact h)
def Att(w:World)(e:TypeId)(t:ByteArray):Below w.heap.size w (Lib.bytesWorld w e t):=by
 unfold Lib.bytesWorld;refine Lib.below_freeze ?_ (p:=⟨w.heap.size,_,none⟩) (Ai _) _;exact(Below.refl _ w).drew.alloc (show w.heap.size<=w.drew.heap.size from Ai _) _
def Bac{α:Type}{us:List α}(h:3=us.length):∃ a b c,us=[a,b,c]:=by
 match us,h with
 | [a,b,c],_=>exact⟨a,b,c,rfl⟩
def Bad(h1:(7,[V.ifc])∈G)(h2:(8,[V.ifc])∈G):Ir Tryz.prog G 109 V3:=by
 refine⟨⟨Tryz.f109,_,by kernel_rfl,rfl,by decide⟩,fun κ w vs us v hg hs hd hl ha h=>?_⟩;unfold V3 at h
 split at h
 .rename_i s
  split at h
  .rename_i qb;obtain⟨a,b,c,rfl⟩:=Bac hl;obtain⟨g1,hm⟩:=Gf (H0 rfl (ha 0 (by simp)));have g2:=Eo (H0 rfl (ha 1 (by simp)));have g3:=Eo (H0 rfl (ha 2 (by simp)));have g1:a=.string ⟨s.toArray⟩:=g1;have g2:b=.int .i64 10:=g2;have g3:c=.int .i64 64:=g3;subst g1 g2 g3
   split at h
   .rename_i n hn;cases h;refine(Tryz.strconv_ParseInt_10_at64_ok ⟨s.toArray⟩ (by rw[I9];omega) n hn w).mono ?_;rintro e w' ⟨rfl,hw⟩;refine Ub hd (fun κ' w'=>Af0 (.row .nili)) ⟨rfl,?_⟩;rcases hw with rfl | ⟨t,rfl⟩
    .exact Below.refl _ _
    .exact Att w _ t
   .rename_i hn;cases h;obtain⟨t,p,hv⟩:=Aqi Aov hg hs h1;refine(Tryz.strconv_ParseInt_10_at64_syntax_var ⟨s.toArray⟩ (by rw[I9];exact qb) hn t p w hv).mono ?_;rintro e w' ⟨N,rfl,_,_,hb⟩;exact Ub hd (fun κ' w'=>Af0 .ifc) ⟨rfl,hb⟩
   .rename_i hn;cases h;obtain⟨t,p,hv⟩:=Aqi Aow hg hs h2;refine(Tryz.strconv_ParseInt_10_at64_range_var ⟨s.toArray⟩ (by rw[I9];exact qb) hn t p w hv).mono ?_;rintro e w' ⟨N,rfl,_,_,hb⟩;exact Ub hd (fun κ' w'=>Af0 .ifc) ⟨rfl,hb⟩
  .cases h
 .cases h
open Go Go.RowKit
def kwL:List (List UInt8):=[[118,97,114],[118,111,108,97,116,105,108,101],[109,117,116,101,120],[114,119,108,111,99,107],[99,111,110,100],[102,117,116,117,114,101],[116,104,114,101,97,100],[105,102],[101,108,115,101],[119,104,105,108,101],[108,111,99,107],[114,101,97,100],[119,114,105,116,101],[116,114,97,110,115,97,99,116,105,111,110],[97,116,111,109,105,99],[119,97,105,116],[110,111,116,105,102,121],[110,111,116,105,102,121,97,108,108],[115,112,97,119,110],[106,111,105,110],[115,101,116],[103,101,116]]
def gKw:List V:=kwL.map V.str
def Gc(l:List UInt8):Bool:=kwL.any fun k=>l==k
def J7(n:Nat):Bool:=(decide (97<=n)&&decide (n<=122))||(decide (65<=n)&&decide (n<=90))
def M9(n:Nat):Bool:=decide (48<=n)&&decide (n<=57)
def Jj(n:Nat):Bool:=J7 n||(M9 n||n==95)
def Nc(l:List UInt8)(j:Nat):Bool:=J7 (l.getD j 0).toNat||(decide (0<j)&&((l.getD j 0).toNat==95||M9 (l.getD j 0).toNat))
def Bv(l:List UInt8):Bool:=decide (1<=l.length)&&(decide (l.length<=12)&&(!Gc l&&(List.range l.length).all (Nc l)))
def kwS:List V->Option V
 | [.str l]=>some (.bool (Gc l))
 | _=>none
def A1u{l:List UInt8}(h:l.length<1):Bv l=false:=by
 unfold Bv;rw[decide_eq_false (by omega)];rfl
def A1v{l:List UInt8}(h:12<l.length):Bv l=false:=by
 unfold Bv;rw[decide_eq_false (show ¬ l.length<=12 by omega)];simp
def A1w{l:List UInt8}(h:Gc l=true):Bv l=false:=by
 unfold Bv;rw[h];simp
def Aqj{l:List UInt8}(h1:1<=l.length)(h2:l.length<=12)(h3:Gc l=false)(h4:∀ j,j<l.length->Nc l j=true):Bv l=true:=by
 unfold Bv;rw[decide_eq_true h1,decide_eq_true h2,h3,Bh.2 fun j hj=>h4 j (En.1 hj)];rfl
open Go Go.RowKit
def Auh{T:Nat->Option AF}{pr:Nat->Option (List V->Option V)}{P:Program}{G:List (Nat × List V)}(hT:∀ f F,T f=some F->F.spec=none->Pl P G f F=true)(hS:∀ f F s,T f=some F->F.spec=some s->Vb P G f s)(qD:∀ f s,pr f=some s->Ir P G f s)
  {f:Nat} {s:List V->Option V} (hf:∃ fn c,P.funcs[f]?=some fn/\fn.body=some c/\fn.name ≠ "runtime.NumGoroutine") (h:∀ vs v,s vs=some v->Fn T pr f vs v):Ir P G f s:=by
 refine⟨hf,fun κ w vs us v hg hs hd hl ha hv=>?_⟩;obtain⟨F,hF,h1,h2,v0,σ0,hE,hb⟩:=h vs v hv
 have hI:Inv G w.heap.size ⟨κ,[]⟩ [] w:=
  { base:=Ai _,len:=rfl,nd:=Tm,low:=fun i p h=>by simp at h,obj:=fun i ob p h=>by simp at h,dom:=hd,glob:=hg,
    gsz:=fun g r hm=>And.intro (by
     have:=hs g r hm;unfold Ea at this
     split at this
     .rename_i hh;exact(Array.getElem?_eq_some_iff.1 hh).1
     .cases this) (hs g r hm) }
 refine(Arq hT hS qD hE us w ⟨κ,[]⟩ w.heap.size hl (fun j hj=>.one (ha j hj)) hI).mono ?_;rintro e w1 ⟨u,γ',rfl,hu,qI,hx,qT,hk⟩;obtain⟨κ2,y1,y2,y3,y4,_⟩:=qI.freeze (Fw σ0 9 v0.refs.eraseDups);exact⟨u,κ2,rfl,Z2 qI y2 y4 hb hu [],qT,fun b qb=>(y3 b qb).trans (hk b qb),y1.dom⟩
/-! IsKeyword -/
def Aqk:AC:=.seq (.reg [] [o 7 (.bin .lss (.t 6) (.k (.int .i64 22)))]) (.seq (.cond (.t 7) [7] (.skip) (.exit 0)) (.seq (.blk 1 (.seq (.reg [8] [o 8 (.ida 22 1 true (.t 5) (.t 6)),o 4 (.mov (.t 8))]) (.seq (.reg [4,9,10] [o 9 (.mov (.t 0)),o 10 (.mov (.t 4)),o 11 (.bin .eql (.t 9) (.t 10))]) (.cond (.t 11) [11] (.seq (.reg [] [o 2 (.mov (.k (.bool true)))]) (.ret)) (.skip))))) (.reg [12] [o 12 (.bin .add (.t 6) (.k (.int .i64 1))),o 6 (.mov (.t 12))])))
def Asn:AF:=⟨1,[.tmp 2],false,.seq (.reg [2] [o 2 (.mov (.k (.bool false)))]) (.seq (.seq (.reg [] [o 5 (.load 22 false (.k (.imm gKw 0))),o 6 (.mov (.k (.int .i64 0)))]) (.blk 0 (.loop [0,5,6] Aqk))) (.seq (.reg [] [o 2 (.mov (.k (.bool false)))]) (.ret))),none⟩
def Y2(f:Nat):Option AF:=if f=82 then some Asn else none
def Bae{i:Nat}(h:i<22):(gKw.drop i).take 1=[.str (kwL.getD i [])]:=by
 have hl:i<kwL.length:=h;unfold gKw;rw[<-List.map_drop,Gr hl,Au,A2 hl];rfl
def Baf(l:List UInt8):Fn Y2 (fun _=>none) 82 [.str l] (.bool (Gc l)):=by
 refine Bz (show Y2 82=some _ from rfl) rfl ?_;have qd:gKw.length=22:=rfl;have hd:gKw.take 22=gKw:=rfl;generalize hg:gKw=g at qd hd;simp only[go_sem,Nat.reduceEqDiff,reduceIte,Nat.reduceAdd,Nat.reduceMul,Nat.reduceLeDiff,Int.reduceLT,Int.reduceLE,Int.reduceToNat,Int.reduceAdd,Int.reduceNeg,Int.reduceEq,qd,hd,Ai];refine B3 (fun i=>22 - i) (fun i:Nat=>[(0,.str l),(5,.agg g),(6,.int .i64 i)]) (fun _=>[]) (fun i=>i<=22/\∀ j,j<i->(l==kwL.getD j [])=false) ?_ 0 ⟨by omega,fun j hj=>by omega⟩;rintro i ⟨hi,qL⟩ ih;refine B4 (by delta Aqk;exact rfl) ?_;rcases Bu i 22 with h | h
 .have hk:=Bae h;rw[hg]at hk;have qb:decide ((i:Int)<22)=true:=by simp;omega
  have h0:((0:Int)<=i)=True:=eq_true (by omega);have h1:((i:Int)<22)=True:=eq_true (by omega);have h2:(i+1<=22)=True:=eq_true (by omega);simp only[go_sem,Nat.reduceEqDiff,reduceIte,Nat.reduceAdd,Nat.reduceMul,Nat.reduceLeDiff,Int.reduceLT,Int.reduceLE,Int.reduceToNat,Int.reduceAdd,Int.reduceNeg,Int.reduceEq,qb,h0,h1,h2,hk,qd];refine Arw (fun h3=>?_) (fun h3=>?_)
  .simp only[go_sem,Nat.reduceEqDiff,reduceIte,Nat.reduceAdd,Nat.reduceMul,Nat.reduceLeDiff,Int.reduceLT,Int.reduceLE,Int.reduceToNat,Int.reduceAdd,Int.reduceNeg,Int.reduceEq];refine Ap rfl ?_;unfold Gc;rw[Nf.2 ⟨kwL.getD i [],?_,h3⟩];have hl:i<kwL.length:=h;rw[Au,A2 hl];exact Fj hl
  .simp only[go_sem,Nat.reduceEqDiff,reduceIte,Nat.reduceAdd,Nat.reduceMul,Nat.reduceLeDiff,Int.reduceLT,Int.reduceLE,Int.reduceToNat,Int.reduceAdd,Int.reduceNeg,Int.reduceEq,Bk (show i<9223372036854775807 by omega)];refine Bg (ih (i+1) (by omega) ⟨by omega,fun j hj=>?_⟩) rfl;by_cases e:j=i
   .rw[e];exact h3
   .exact qL j (by omega)
 .have qb:decide ((i:Int)<22)=false:=by simp;omega
  simp only[go_sem,Nat.reduceEqDiff,reduceIte,Nat.reduceAdd,Nat.reduceMul,Nat.reduceLeDiff,Int.reduceLT,Int.reduceLE,Int.reduceToNat,Int.reduceAdd,Int.reduceNeg,Int.reduceEq,qb];refine Ap rfl ?_
  symm
  congr 1;unfold Gc;rw[<-Zn];intro ha;obtain⟨k,hk,he⟩:=Nf.1 ha;obtain⟨j,hj,rfl⟩:=Pq hk;have jn:j<22:=hj;have:=qL j (by omega);rw[Au,A2 hj]at this;exact absurd he (by simpa using this)
def Bbr:Pl Tryz.prog [(0,gKw)] 82 Asn=true:=by
 kernel_rfl
def Axt{P:Program}{G H:List (Nat × List V)}{f:Nat}{s:List V->Option V}(h:∀ p∈G,p∈H)(hp:Ir P G f s):Ir P H f s:=
 ⟨hp.1,fun κ w vs us v hg hs=>hp.2 κ w vs us v (fun g r hm=>hg g r (h _ hm)) fun g r hm=>hs g r (h _ hm)⟩
def Bag{G:List (Nat × List V)}(qf:(0,gKw)∈G):Ir Tryz.prog G 82 kwS:=by
 refine Axt (G:=[(0,gKw)]) (fun p hp=>by rw[E0.1 hp];exact qf) ?_;refine Auh (T:=Y2) (pr:=fun _=>none) ?_ ?_ (fun _ _ h=>by cases h) ⟨Tryz.f82,_,by kernel_rfl,rfl,by decide⟩ ?_
 .intro f F h _;unfold Y2 at h
  split at h
  .rename_i hf;cases h;subst hf;exact Bbr
  .cases h
 .intro f F s h hs;unfold Y2 at h
  split at h
  .cases h;cases hs
  .cases h
 .intro vs v h;unfold kwS at h
  split at h
  .cases h;exact Baf _
  .cases h
