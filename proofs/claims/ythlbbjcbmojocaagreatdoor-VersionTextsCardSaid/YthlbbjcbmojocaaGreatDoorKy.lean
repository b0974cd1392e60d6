/- What the row reads of an argument lies in memory as a value of the plain machine. -/
import Derived.Test.YthlbbjcbmojocaaGreatDoorRows
import Derived.DataReads
import Derived.Test.YthlbbjcbmojocaaGreatDoorShelf
import Derived.Lib.UnsafeStr
import Derived.Lib.ItoaLen
import Derived.Lib.Repeat
import Derived.Lib.Split
import Derived.Test.YthlbbjcbmojocaaGreatDoorA5
import Derived.Test.YthlbbjcbmojocaaGreatDoorProg
import Derived.WalkSpells
import Derived.WalkLawsBesides
import Derived.BigQuiet
import Derived.BigGuardPart
import Derived.Lib.Hide
import Derived.LoopTactic
import Derived.Laws.RangeAny
set_option linter.all false
namespace Go.Proofs.YthlbbjcbmojocaaGreatDoor.KM
open Go
def Gs(w:World):Ee:=fun b=>match w.heap[b]? with
 | some (.cells c _ _)=>some c.size
 | _=>none
def Ara{w:World}{b o:Nat}{v:Value}(h:w.cell? ⟨b,o,none⟩=some v):∃ k,Gs w b=some k/\o<k:=by
 unfold World.cell? at h;unfold Gs
 split at h
 .rename_i c e fz hh;simp only[Option.isSome_none,Fb,if_false]at h;rw[hh];exact⟨c.size,rfl,(Array.getElem?_eq_some_iff.1 h).1⟩
 .cases h
inductive HasT (P:Program):TypeId->List V->Prop
 | bool {t:TypeId} {b:Bool}:P.underlying t=some .bool->HasT P t [.bool b]
 | int {t:TypeId} {k:IntKind} {n:Int}:P.underlying t=some (.int k)->(Lit.int k n).wf=true->HasT P t [.int k n]
 | str {t:TypeId} {s:ByteArray}:P.underlying t=some .string->s.size<=maxLen->HasT P t [.str s.data.toList]
 | nils {t e:TypeId}:P.underlying t=some (.slice e)->HasT P t [.nils]
 | lst {t e:TypeId} {xs:List (List V)}:P.underlying t=some (.slice e)->xs.length<=maxLen->(∀ i,i<xs.length->HasT P e (xs.getD i []))->HasT P t [.lst 0 xs]
 | struct {t:TypeId} {fs:Array Field} (qa:List (List V)):P.underlying t=some (.struct fs)->qa.length=fs.size->(∀ i f,fs[i]?=some f->HasT P f.type (qa.getD i []))->HasT P t qa.flatten
 | array {t e:TypeId} {n:Nat} (qa:List (List V)):P.underlying t=some (.array n e)->qa.length=n->(∀ i,i<n->HasT P e (qa.getD i []))->HasT P t qa.flatten
mutual
def V.bulk:V->Nat
 | .str l=>l.length+1
 | .lst _ xs=>Cs xs+1
 | _=>1
def Cs:List (List V)->Nat
 | []=>0
 | r::rs=>Cx r+Cs rs
def Cx:List V->Nat
 | []=>0
 | p::ps=>p.bulk+Cx ps
end
def Acr(a b:List V):Cx (a++b)=Cx a+Cx b:=by
 induction a with
 | nil=>simp[Cx]
 | cons x a ih=>simp only[Ml,Cx,ih];omega
def N0(P:Program):List Field->Nat->Nat->Bool
 | [],s,e=>s==e
 | f::fs,s,e=>f.offset==s&&N0 P fs (s+P.cellsOf f.type) e
def Ay8(P:Program)(ts:List TypeId):Bool:=ts.all fun t=>
 match P.underlying t with
 | some .bool | some (.int _) | some .string=>true
 | some (.slice e)=>ts.contains e&&decide (0<P.cellsOf e)
 | some (.struct fs)=>fs.toList.all (fun f=>ts.contains f.type)&&N0 P fs.toList 0 (P.cellsOf t)
 | some (.array n e)=>ts.contains e&&P.cellsOf t==n*P.cellsOf e
 | _=>false
def Ajf{α β:Type}{f:α->Option β}:∀ {l:List α} {r:List β},l.mapM f=some r->r.length=l.length/\∀ i (hi:i<l.length),f l[i]=r[i]?
 | [],r,h=>by
  simp at h;subst h;exact⟨rfl,fun i hi=>absurd hi (by simp)⟩
 | a::l,r,h=>by
  rw[Hy]at h
  cases ha:f a with
  | none=>simp[ha]at h
  | some b=>
   cases hl:l.mapM f with
   | none=>simp[ha,hl]at h
   | some r'=>
    simp[ha,hl]at h;subst h;obtain⟨h1,h2⟩:=Ajf hl;refine⟨by simp[h1],fun i hi=>?_⟩
    cases i with
    | zero=>simpa using ha
    | succ i=>
     have:=h2 i (by simpa using hi);simpa using this
structure RowAt {H:Type} (P:Program) (w:World) (t:TypeId) (cs:List Value) (d:DataW H) (qb:List V):Prop where
 len:qb.length=cs.length
 rep:∀ j,j<cs.length->RepR (Gs w) w (qb.getD j .und) (cs.getD j undef)
 typ:HasT P t qb
 bulk:Cx qb<=Rows.uptoBulk d
def Ah5{H:Type}:∀ (xs:List (List V)) (ds:List (DataW H)),xs.length=ds.length->(∀ i,i<xs.length->∀ d,ds[i]?=some d->Cx (xs.getD i [])<=Rows.uptoBulk d)->Cs xs<=Rows.uptoBulkAll ds
 | [],ds,_,_=>by simp[Cs]
 | x::xs,[],h,_=>by simp at h
 | x::xs,d::ds,h,hb=>by
  have h0:=hb 0 (by simp) d rfl;have:=Ah5 xs ds (by simpa using h) (fun i hi d' hd=>by simpa using hb (i+1) (by simpa using hi) d' (by simpa using hd));simp only[Cs,Rows.uptoBulkAll];simp at h0;omega
def Ac8{α:Type}(a b:List α)(i:Nat)(d:α)(h:i<a.length):(a++b).getD i d=a.getD i d:=by
 simp only[As,Cg h]
def Ac9{α:Type}(a b:List α)(i:Nat)(d:α)(h:a.length<=i):(a++b).getD i d=b.getD (i - a.length) d:=by
 simp only[As,Cj h]
def Amo{Q:Nat->List V->Prop}:∀ (n:Nat),(∀ i,i<n->∃ r,Q i r)->∃ xs:List (List V),xs.length=n/\∀ i,i<n->Q i (xs.getD i [])
 | 0,_=>⟨[],rfl,fun i hi=>absurd hi (by omega)⟩
 | n+1,h=>by
  obtain⟨xs,hl,hx⟩:=Amo n (fun i hi=>h i (by omega));obtain⟨r,hr⟩:=h n (by omega);refine⟨xs++[r],by simp[hl],fun i hi=>?_⟩;by_cases qf:i<n
  .have:=hx i qf
   rwa [Ac8 _ _ _ _ (by omega)]
  .obtain rfl:i=n:=by omega
   rw[Ac9 _ _ _ _ (by omega),hl];simpa using hr
def Aik{H:Type}{P:Program}{w:World}{cs:List Value}{g:Field->Option (DataW H × List MemPlace)}:
  ∀ (fl:List Field) (s e:Nat) (xs:List (DataW H × List MemPlace)),N0 P fl s e=true->fl.mapM g=some xs->e<=cs.length ->
   (∀ f∈fl,∀ x,g f=some x->∃ qb,RowAt P w f.type ((cs.drop f.offset).take (P.cellsOf f.type)) x.1 qb) ->
   ∃ qa:List (List V),qa.length=fl.length/\s<=e/\qa.flatten.length=e - s/\(∀ i f,fl[i]?=some f->HasT P f.type (qa.getD i [])) /\
    (∀ j,j<e - s->RepR (Gs w) w (qa.flatten.getD j .und) (cs.getD (s+j) undef))/\Cx qa.flatten<=Rows.uptoBulkAll (xs.map (·.1))
 | [],s,e,xs,hc,hm,_,_=>by
  simp[N0]at hc;simp at hm;subst hc hm;exact⟨[],rfl,Ah _,by simp,fun i f h=>by simp at h,fun j hj=>by omega,by simp[Cx]⟩
 | f::fl,s,e,xs,hc,hm,he,hg=>by
  simp only[N0,Af,beq_iff_eq]at hc;rw[Hy]at hm
  cases hf:g f with
  | none=>simp[hf]at hm
  | some x=>
   cases hl:fl.mapM g with
   | none=>simp[hf,hl]at hm
   | some r=>
    simp[hf,hl]at hm;subst hm;obtain⟨qa,h1,h2,h3,h4,h5,h6⟩:=Aik fl _ e r hc.2 hl he (fun f' qY=>hg f' (Dj _ qY));obtain⟨qb,hp⟩:=hg f (Dy) x hf
    have qe:qb.length=P.cellsOf f.type:=by
     rw[hp.len,Hw,Dn,hc.1];omega
    refine⟨qb::qa,by simp[h1],by omega,by simp only[Ey,Aj,h3,qe];omega,fun i f' hi=>?_,fun j hj=>?_,?_⟩
    .cases i with
     | zero=>simp at hi;subst hi;simpa using hp.typ
     | succ i=>simpa using h4 i f' (by simpa using hi)
    .rw[Ey];by_cases qr:j<P.cellsOf f.type
     .rw[Ac8 _ _ _ _ (by omega)];have:=hp.rep j (by rw[<-hp.len];omega)
      have e2:((cs.drop f.offset).take (P.cellsOf f.type)).getD j undef=cs.getD (s+j) undef:=by
       simp only[As,Fj,Hv,hc.1];rw[if_pos qr]
      rwa [e2]at this
     .rw[Ac9 _ _ _ _ (by omega),qe];have:=h5 (j - P.cellsOf f.type) (by omega)
      rwa [show s+P.cellsOf f.type+(j - P.cellsOf f.type)=s+j by omega]at this
    .rw[Ey,Acr,Bb];simp only[Rows.uptoBulkAll];have:=hp.bulk;omega
def Ajg{H:Type}{P:Program}{w:World}{cs:List Value}{e:TypeId}{g:Nat->Option (DataW H × List MemPlace)}(hg:∀ i x,g i=some x->∃ qb,RowAt P w e ((cs.drop (i*P.cellsOf e)).take (P.cellsOf e)) x.1 qb):
  ∀ (n s:Nat) (xs:List (DataW H × List MemPlace)),(List.range' s n).mapM g=some xs->(s+n)*P.cellsOf e<=cs.length ->
   ∃ qa:List (List V),qa.length=n/\qa.flatten.length=n*P.cellsOf e/\(∀ i,i<n->HasT P e (qa.getD i [])) /\
    (∀ j,j<n*P.cellsOf e->RepR (Gs w) w (qa.flatten.getD j .und) (cs.getD (s*P.cellsOf e+j) undef))/\Cx qa.flatten<=Rows.uptoBulkAll (xs.map (·.1))
 | 0,s,xs,hm,_=>by
  simp at hm;subst hm;exact⟨[],rfl,by simp,fun i hi=>by omega,fun j hj=>by omega,by simp[Cx]⟩
 | n+1,s,xs,hm,hl=>by
  rw[Yf,Hy]at hm
  cases hf:g s with
  | none=>simp[hf]at hm
  | some x=>
   cases hr:(List.range' (s+1) n).mapM g with
   | none=>simp[hf,hr]at hm
   | some r=>
    simp[hf,hr]at hm;subst hm;have el:(s+(n+1))*P.cellsOf e=s*P.cellsOf e+P.cellsOf e+n*P.cellsOf e:=by rw[Mn,Ep];omega
    have es:(s+1)*P.cellsOf e=s*P.cellsOf e+P.cellsOf e:=Ep ..;obtain⟨qa,h1,h3,h4,h5,h6⟩:=Ajg hg n (s+1) r hr (by rw[show s+1+n=s+(n+1) by omega];exact hl);obtain⟨qb,hp⟩:=hg s x hf
    have qe:qb.length=P.cellsOf e:=by
     rw[hp.len,Hw,Dn];omega
    have en:(n+1)*P.cellsOf e=n*P.cellsOf e+P.cellsOf e:=Ep ..;refine⟨qb::qa,by simp[h1],by simp only[Ey,Aj,h3,qe];omega,fun i hi=>?_,fun j hj=>?_,?_⟩
    .cases i with
     | zero=>simpa using hp.typ
     | succ i=>simpa using h4 i (by omega)
    .rw[Ey];by_cases qr:j<P.cellsOf e
     .rw[Ac8 _ _ _ _ (by omega)];have:=hp.rep j (by rw[<-hp.len];omega)
      have e2:((cs.drop (s*P.cellsOf e)).take (P.cellsOf e)).getD j undef=cs.getD (s*P.cellsOf e+j) undef:=by
       simp only[As,Fj,Hv];rw[if_pos qr]
      rwa [e2]at this
     .rw[Ac9 _ _ _ _ (by omega),qe];have:=h5 (j - P.cellsOf e) (by omega)
      rwa [es,show s*P.cellsOf e+P.cellsOf e+(j - P.cellsOf e)=s*P.cellsOf e+j by omega]at this
    .rw[Ey,Acr,Bb];simp only[Rows.uptoBulkAll];have:=hp.bulk;omega
def Ay9(a:Addr)(n m:Nat)(h:a.spot=none):(a.add n).add m=⟨a.block,a.off+n+m,none⟩:=by
 unfold Addr.add
 split<;>split<;>simp_all<;>(cases a;simp_all)
def Nt{H:Type}(qn:TypeId × Value->H)(P:Program)(w:World)(qg:Nat->Bool)(qh:Bool)(ts:List TypeId)(qt:Ay8 P ts=true):
  ∀ (fuel:Nat) (t:TypeId) (cs:List Value) (d:DataW H) (ps:List MemPlace),t∈ts->DataW.trod qn P w 0 qg qh fuel t cs=some (d,ps)->∃ qb,RowAt P w t cs d qb
 | 0,_,_,_,_,_,h=>by simp[DataW.trod]at h
 | fuel+1,t,cs,d,ps,ht,h=>by
  have hp:=Bi.1 qt t ht;simp only[DataW.trod]at h
  split at h
  .rename_i b hu;simp at h;obtain⟨rfl,_⟩:=h
   exact⟨[.bool b],rfl,(fun j hj=>by
    obtain rfl:j=0:=by simpa using hj
    exact .bool),.bool hu,by simp[Cx,V.bulk,Rows.uptoBulk]⟩
  .rename_i k k' n hu
   split at h
   .rename_i hk;simp at h;obtain⟨rfl,_⟩:=h;obtain⟨rfl,jf⟩:=hk
    exact⟨[.int k' n],rfl,(fun j hj=>by
    obtain rfl:j=0:=by simpa using hj
    exact .int),.int hu jf,by simp[Cx,V.bulk,Rows.uptoBulk]⟩
   .cases h
  .rename_i hu;rw[hu]at hp;cases hp
  .rename_i s hu
   split at h
   .rename_i hs;simp at h;obtain⟨rfl,_⟩:=h;have qE:s.data.toList.length=s.size:=by rw[Array.length_toList];rfl
    exact⟨[.str s.data.toList],rfl,(fun j hj=>by
     obtain rfl:j=0:=by simpa using hj
     have hh:RepR (Gs w) w (.str s.data.toList) (.string ⟨s.data.toList.toArray⟩):=.str (by omega)
     simpa using hh),.str hu hs,by simp[Cx,V.bulk,Rows.uptoBulk]⟩
   .cases h
  .rename_i hu;rw[hu]at hp;cases hp
  .rename_i hu;rw[hu]at hp;cases hp
  .rename_i e hu;simp at h;obtain⟨rfl,_⟩:=h
   exact⟨[.nils],rfl,(fun j hj=>by
    obtain rfl:j=0:=by simpa using hj
    exact .nils),.nils hu,by simp[Cx,V.bulk,Rows.uptoBulk]⟩
  .rename_i e a len cap hu;rw[hu]at hp;simp only[Af,decide_eq_true_eq,X4]at hp
   split at h
   .rename_i hc;obtain⟨_,jp,qW⟩:=hc
    cases hm:(List.range len).mapM (fun i=>(w.cells? 0 (a.add (i*P.cellsOf e)) (P.cellsOf e)).bind (DataW.trod qn P w 0 qg qh fuel e)) with
    | none=>simp[hm]at h
    | some elems=>
     simp only[hm,C4,Bm]at h;obtain⟨ji,_,h⟩:=h;simp at h;obtain⟨rfl,_⟩:=h;obtain⟨hl,qJ⟩:=Ajf hm;simp only[List.length_range]at hl qJ
     have jh:∀ i,i<len->∃ r,(∃ cs' x,(∀ j,j<P.cellsOf e->w.cell? ((a.add (i*P.cellsOf e)).add j)=some (cs'.getD j undef))/\elems[i]?=some x/\cs'.length=P.cellsOf e/\RowAt P w e cs' x.1 r):=by
      intro i hi;have h1:=qJ i (by simpa using hi);simp only[Nh]at h1;have qc:i<elems.length:=by omega
      cases qp:w.cells? 0 (a.add (i*P.cellsOf e)) (P.cellsOf e) with
      | none=>rw[qp]at h1;simp[qc]at h1
      | some cs'=>
       obtain⟨_,qi,qU⟩:=World.cells?_some qp;rw[qp,C4,A2 qc]at h1;obtain⟨r,hr⟩:=Nt qn P w qg qh ts qt fuel e cs' _ _ hp.1 h1;refine⟨r,cs',elems[i],fun j hj=>?_,A2 qc,qi,hr⟩;rw[qU j hj];simp[qi,hj]
     obtain⟨xs,jg,hx⟩:=Amo len jh
     have qN:0<len->a.spot=none:=fun h0=>by
      obtain⟨cs',x,qd,_⟩:=hx 0 h0;have qQ:=qd 0 hp.2;have:=World.cell?_spot qQ;simpa[Addr.add] using this
     have qd:∀ i j,i<len->j<P.cellsOf e->∃ v,w.cell? ⟨a.block,a.off+i*P.cellsOf e+j,none⟩=some v/\RepR (Gs w) w ((xs.getD i []).getD j .und) v:=by
      intro i j hi hj;obtain⟨cs',x,hc,_,qi,hr⟩:=hx i hi;have h1:=hc j hj;rw[Ay9 _ _ _ (qN (by omega))]at h1;exact⟨_,h1,hr.rep j (by omega)⟩
     refine⟨[.lst 0 xs],rfl,fun j hj=>?_,.lst hu (by omega) (fun i hi=>?_),?_⟩
     .obtain rfl:j=0:=by simpa using hj
      show RepR (Gs w) w (.lst 0 xs) (.slice (some a) len cap);rw[<-jg];refine .lst (m:=P.cellsOf e) (fun i j=>(w.cell? ⟨a.block,a.off+i*P.cellsOf e+j,none⟩).getD undef) (fun h=>by omega) (by omega) qW (fun h0=>⟨qN (by omega),?_⟩) (fun i hi=>?_) (fun i j hi hj=>?_) (fun i j hi hj=>?_)
      .obtain⟨v,hv,_⟩:=qd (xs.length - 1) (P.cellsOf e - 1) (by omega) (by omega);obtain⟨k,hk,qc⟩:=Ara hv;refine⟨k,hk,?_⟩
       have:(xs.length - 1)*P.cellsOf e+P.cellsOf e=xs.length*P.cellsOf e:=by
        rw[<-Ep];congr 1;omega
       have:=hp.2;omega
      .obtain⟨cs',x,_,_,qi,hr⟩:=hx i (by omega);rw[hr.len,qi]
      .obtain⟨v,hv,_⟩:=qd i j (by omega) hj;rw[hv];rfl
      .obtain⟨v,hv,hr⟩:=qd i j (by omega) hj;rw[hv];exact hr
     .obtain⟨_,_,_,_,_,hr⟩:=hx i (by omega);exact hr.typ
     .simp only[Cx,V.bulk,Rows.uptoBulk]
      have:=Ah5 xs (elems.map (·.1)) (by simp;omega) (fun i hi d' hd=>by
       obtain⟨_,x,_,he,_,hr⟩:=hx i (by omega);simp[he]at hd;subst hd
       exact hr.bulk)
      omega
   .cases h
  .rename_i fs hu;rw[hu]at hp;simp only[Af,Bi,X4]at hp
   split at h
   .rename_i qi;simp only[Bm]at h;obtain⟨xs,hm,h⟩:=h;simp at h;obtain⟨rfl,_⟩:=h;obtain⟨qa,h1,h2,h3,h4,h5,h6⟩:=Aik (P:=P) (w:=w) (cs:=_) fs.toList 0 _ xs hp.2 hm (by omega) (fun f hf x hx=>Nt qn P w qg qh ts qt fuel f.type _ x.1 x.2 (hp.1 f hf) hx);refine⟨qa.flatten,by omega,fun j hj=>by simpa using h5 j (by omega),.struct qa hu (by simpa using h1) (fun i f hf=>h4 i f (by simpa using hf)),?_⟩;simp only[Rows.uptoBulk];omega
   .cases h
  .rename_i n e hu;rw[hu]at hp;simp only[Af,beq_iff_eq,X4]at hp
   split at h
   .rename_i qi;simp only[Bm]at h;obtain⟨xs,hm,h⟩:=h;simp at h;obtain⟨rfl,_⟩:=h;rw[List.range_eq_range']at hm;obtain⟨qa,h1,h3,h4,h5,h6⟩:=Ajg (P:=P) (w:=w) (e:=e) (cs:=_) (fun i x hx=>Nt qn P w qg qh ts qt fuel e _ x.1 x.2 hp.1 hx) n 0 xs hm (by rw[qi,hp.2];simp);refine⟨qa.flatten,by rw[h3,qi,hp.2],fun j hj=>by simpa using h5 j (by rw[<-hp.2,<-qi];exact hj),.array qa hu h1 h4,?_⟩;simp only[Rows.uptoBulk];omega
   .cases h
  all_goals first
   | (rename_i hu;rw[hu]at hp;cases hp)
   | cases h
section
open Go.RowKit
variable {P:Program} {G:List (Nat × List V)} {T:Nat->Option AF} {pr:Nat->Option (List V->Option V)}
def Abw:V->Bool
 | .bool _ | .int _ _ | .str _=>true
 | _=>false
def As9{κ:Ee}{w:World}{v:V}{u:Value}(h:Lx v u=true)(hf:Abw v=true):RepR κ w v u:=by
 have h':RepC ⟨κ,[]⟩ w v u:=Yr h
 cases h' with
 | row h=>exact h
 | _=>cases hf
def Ahy:∀ {vs:List V} {us:List Value},Gz vs us=true->vs.length=us.length/\∀ j,j<vs.length->Lx (vs.getD j .und) (us.getD j undef)=true
 | [],[],_=>⟨rfl,fun j hj=>absurd hj (by simp)⟩
 | v::vs,u::us,h=>by
  simp only[Gz,Af]at h;obtain⟨h1,h2⟩:=Ahy h.2;refine⟨by simp[h1],fun j hj=>?_⟩
  cases j with
  | zero=>exact h.1
  | succ j=>simpa using h2 j (by simpa using hj)
def Ua(v:V)(u:Value):Prop:=(Lx v u=true/\Abw v=true)\/(v=.ifc/\∃ t p,u=.iface t p)
def Ata{κ:Ee}{w:World}{v:V}{u:Value}(h:Ua v u):RepR κ w v u:=by
 rcases h with⟨h1,h2⟩ | ⟨rfl,t,p,rfl⟩
 .exact As9 h1 h2
 .exact .ifc
def Arh{r:List V}{us:List Value}(h:Gz r us=true)(hf:r.all Abw=true):r.length=us.length/\∀ j,j<r.length->Ua (r.getD j .und) (us.getD j undef):=by
 obtain⟨h1,h2⟩:=Ahy h;exact⟨h1,fun j hj=>.inl ⟨h2 j hj,Bi.1 hf _ (by rw[As,A2 hj];exact Fc hj)⟩⟩
def Ag9(G:List (Nat × List V))(w:World):Prop:=∀ g r,(g,r)∈G->∃ us e fz,w.heap[g]?=some (.cells us e fz)/\r.length=us.toList.length/\∀ j,j<r.length->Ua (r.getD j .und) (us.toList.getD j undef)
def A8i{w:World}(h:Ag9 G w):Inv G w.heap.size ⟨Gs w,[]⟩ [] w where
 base:=Ah _
 len:=rfl
 nd:=R7
 low:=fun i p h=>by simp at h
 obj:=fun i ob p h=>by simp at h
 dom:=fun b k hk=>by
  have qA:Gs w b=some k:=hk;unfold Gs at qA
  split at qA
  .rename_i hh;exact(Array.getElem?_eq_some_iff.1 hh).1
  .cases qA
 glob:=fun g r hg=>by
  obtain⟨us,e,fz,hh,hl,hj⟩:=h g r hg;have hk:Gs w g=some us.size:=by unfold Gs;rw[hh]
  have:=RepC.imm (γ:=⟨Gs w,[]⟩) (w:=w) (r:=r) (off:=0) (b:=g) (o:=0) (k:=us.size) (fun j=>us.toList.getD j undef) hk (by simpa using Ac0 hl) (fun j qK=>by
    have qc:j<us.size:=by simp at hl;omega
    simp[World.cell?,hh,As,qc]) (fun j qK=>Ata (hj j qK))
  exact this
 gsz:=fun g r hg=>by
  obtain⟨us,e,fz,hh,hl,hj⟩:=h g r hg;exact⟨(Array.getElem?_eq_some_iff.1 hh).1,by simp[D0,hh];simpa using hl.symm⟩
def Atb{σ:St}{v:V}{b:Bool}(h:Ei σ v=some (.bool b)):v=.bool b:=by
 unfold Ei I3 at h
 split at h
 .simp only[Bm]at h;obtain⟨_,_,h⟩:=h;cases h
 .unfold Gl at h
  split at h
  .cases h
  .simp only[Bm]at h;obtain⟨_,_,h⟩:=h;cases h
  .unfold Ff at h
   split at h
   .cases h;rfl
   .split at h
    .split at h
     .split at h
      .split at h
       .simp only[Bm]at h;obtain⟨_,_,h⟩:=h;cases h
       .cases h
      .cases h
     .cases h
    .cases h
def Ajh(hT:∀ f F,T f=some F->F.spec=none->Oi P G f F=true)(hS:∀ f F s,T f=some F->F.spec=some s->Tx P G f s)(qD:∀ f s,pr f=some s->H5 P G f s){f:Nat}{vs:List V}{us:List Value}{w:World}(hf:Fn T pr f vs (.bool true))(hg:Ag9 G w)(hl:vs.length=us.length)
  (hr:∀ j,j<vs.length->RepV ⟨Gs w,[]⟩ w (vs.getD j .und) (us.getD j undef)):Calls P f us.toArray w fun e w'=>e=.returned (.bool true)/\Below w.heap.size w w':=by
 obtain⟨F,h1,h2,h3,v0,σ0,hE,hv⟩:=hf;have je:=Atb hv;subst je;refine(Apg hT hS qD hE us w ⟨Gs w,[]⟩ w.heap.size hl hr (A8i hg)).mono ?_;rintro _ w' ⟨u,γ',rfl,hu,_,_,hb,_⟩;exact⟨by rw[Nn (Ax rfl hu)],hb⟩
def Zm{H:Type}{w:World}{t:TypeId}{v:Value}{d:DataW H}{qb:List V}(h:RowAt P w t v.cells.toList d qb)(hv:v.cells=#[v]):∃ p,qb=[p]/\RepV ⟨Gs w,[]⟩ w p v:=by
 have hl:=h.len;rw[hv]at hl;obtain⟨p,rfl⟩:=Acd.1 (show qb.length=1 by simpa using hl);have:=h.rep 0 (by rw[hv];simp);rw[hv]at this;exact⟨p,rfl,C1 (.row (by simpa using this))⟩
def Amp{H:Type}{w:World}{t:TypeId}{cs:Array Value}{d:DataW H}{qb:List V}(h:RowAt P w t (Value.agg cs).cells.toList d qb):RepV ⟨Gs w,[]⟩ w (.agg qb) (.agg cs):=by
 have h1:qb.length=cs.toList.length:=h.len;have:=Rep1.agg (γ:=⟨Gs w,[]⟩) (w:=w) (cs:=qb) (us:=cs.toList) h1 (fun j hj=>.row (h.rep j (by rw[<-h.len];exact hj)));exact .one (by simpa using this)
end
open Go Go.RowKit Go.Shelf
def Arb(w:World)(g n b:Nat)(h:b≠g):(w.freeze ⟨g,0,none⟩ n).heap[b]?=w.heap[b]?:=by
 unfold World.freeze
 split
 .rfl
 .simp only[Array.getElem?_modify];rw[if_neg (by exact fun e=>h e.symm)]
def Ari(w:World)(g n:Nat){qj:Array Value}{e:TypeId}{lo hi:Nat}(h:w.heap[g]?=some (.cells qj e (lo,hi))):∃ qO qm,(w.freeze ⟨g,0,none⟩ n).heap[g]?=some (.cells qj e (qO,qm))/\qm<=max hi n:=by
 unfold World.freeze
 split
 .exact⟨lo,hi,h,by omega⟩
 .simp only[Array.getElem?_modify,if_true,h,Fp]
  split
  .exact⟨_,_,rfl,by simp<;>omega⟩
  .exact⟨_,_,rfl,by simp<;>omega⟩
section
variable {P:Program} {ρ:Ren}
set_option maxHeartbeats 1000000 in
set_option maxRecDepth 100000 in
def Ar2(L:Lays.n169 P ρ)(X:Builder.Extra P ρ)(b g cap:Nat)(qj:Array Value)(fz:Nat × Nat)(l:List UInt8)(w:World)(h0:l≠[])(qv:w.cell? ⟨b,1,none⟩=some (.slice (some ⟨g,0,none⟩) l.length cap))
  (hg:w.heap[g]?=some (.cells qj (ρ.t 5) fz)) (jq:l.length<=cap) (qp:l.length<=qj.size) (hm:l.length<=9223372036854775807) (qd:∀ j x,l[j]?=some x->w.cell? ((⟨g,0,none⟩:Addr).add j)=some (.int .u8 x.toNat)) :
  Calls P (ρ.f 169) #[.pointer (some ⟨b,0,none⟩)] w fun e w'=>e=.returned (.string ⟨l.toArray⟩)/\w'=w.drew.freeze ⟨g,0,none⟩ l.length:=by
 have jo:l.length≠0:=by simpa using h0
 have c1:w.drew.cell? ⟨b,1,none⟩=some (.slice (some ⟨g,0,none⟩) l.length cap):=qv
 have qR:(Builtin.unsafeSliceData_ #[(ρ.t 37)] (ρ.t 127) #[.slice (some ⟨g,0,none⟩) l.length cap]).run P w.drew=.ok (.pointer (some ⟨g,0,none⟩)) w.drew:=
  Lib.run_unsafeSliceData_row _ _ _ _ _ _ (by omega)
 have qS:(Builtin.unsafeString_ #[(ρ.t 127),(ρ.t 3)] (ρ.t 9) #[.pointer (some ⟨g,0,none⟩),.int .i64 l.length]).run P w.drew=.ok (.string ⟨l.toArray⟩) (w.drew.freeze ⟨g,0,none⟩ l.length):=
  Lib.run_unsafeString_row w.drew (ρ.t 127) (ρ.t 3) (ρ.t 9) (ρ.t 5) L.t127 X.cellsByte g qj.size (by have ja:w.drew.heap[g]?=some (.cells qj (ρ.t 5) fz):=hg;simp[World.shape?,ja]) l h0 qp hm qd
 have mixed:=L.mixed;have t72:=L.t72;have a72:=L.a72;have z72:=L.z72;have v72:=L.v72;have jl:=run_underlying L.t72;have t70:=L.t70;have a70:=L.a70;have z70:=L.z70;have v70:=L.v70;have jk:=run_underlying L.t70;have t37:=L.t37;have a37:=L.a37;have z37:=L.z37;have v37:=L.v37;have jj:=run_underlying L.t37;have t127:=L.t127;have a127:=L.a127;have z127:=L.z127;have v127:=L.v127;have qF:=run_underlying L.t127;have t3:=L.t3;have a3:=L.a3;have z3:=L.z3;have v3:=L.v3;have u3:=run_underlying L.t3;have t9:=L.t9;have a9:=L.a9;have z9:=L.z9;have v9:=L.v9;have u9:=run_underlying L.t9;have t5:=X.t5;have a5:=X.a5;have z5:=X.z5;have v5:=X.v5;have u5:=run_underlying X.t5
 go_enter L.f169,Body.n169_ntmps ρ
 go_wp2
 go_region_o
 all_goals (go_wp2;go_ret;exact⟨rfl,rfl⟩)
set_option maxHeartbeats 1000000 in
set_option maxRecDepth 100000 in
def Ar3(L:Lays.n169 P ρ)(X:Builder.Extra P ρ)(b:Nat)(w:World)(qv:w.cell? ⟨b,1,none⟩=some (.slice none 0 0)):
  Calls P (ρ.f 169) #[.pointer (some ⟨b,0,none⟩)] w fun e w'=>e=.returned (.string ⟨#[]⟩)/\w'=w.drew:=by
 have qS:=Any.unsafeString_none L X;have c1:w.drew.cell? ⟨b,1,none⟩=some (.slice none 0 0):=qv;have qR:(Builtin.unsafeSliceData_ #[(ρ.t 37)] (ρ.t 127) #[.slice none 0 0]).run P w.drew=.ok (.pointer none) w.drew:=rfl;have mixed:=L.mixed;have t72:=L.t72;have a72:=L.a72;have z72:=L.z72;have v72:=L.v72;have jl:=run_underlying L.t72;have t70:=L.t70;have a70:=L.a70;have z70:=L.z70;have v70:=L.v70;have jk:=run_underlying L.t70;have t37:=L.t37;have a37:=L.a37;have z37:=L.z37;have v37:=L.v37;have jj:=run_underlying L.t37;have t127:=L.t127;have a127:=L.a127;have z127:=L.z127;have v127:=L.v127;have qF:=run_underlying L.t127;have t3:=L.t3;have a3:=L.a3;have z3:=L.z3;have v3:=L.v3;have u3:=run_underlying L.t3;have t9:=L.t9;have a9:=L.a9;have z9:=L.z9;have v9:=L.v9;have u9:=run_underlying L.t9;have t5:=X.t5;have a5:=X.a5;have z5:=X.z5;have v5:=X.v5;have u5:=run_underlying X.t5
 go_enter L.f169,Body.n169_ntmps ρ
 go_wp2
 go_region_o
 all_goals (go_wp2;go_ret;exact⟨rfl,rfl⟩)
end
def Arj(w:World)(b:Nat)(us:Array Value)(e:TypeId)(u:Value){fz:Nat × Nat}(h:w.heap[b]?=some (.cells us e fz)):w.setCell ⟨b,0,none⟩ u=w.setRow b (us.setIfInBounds 0 u):=by
 unfold World.setCell World.setRow;congr 1;apply Array.ext_getElem?;intro i;simp only[Array.getElem?_modify]
 split
 .rename_i hi;subst hi;rw[h];simp
 .rfl
def Ah6:∀ {xs:List (List V)} {l:List UInt8},I0 xs=some l->l.length=xs.length/\∀ (j:Nat) x,l[j]?=some x->xs.getD j []=[.int .u8 (x.toNat:Int)]
 | [],l,h=>by
  simp[I0]at h;subst h;exact⟨rfl,fun j x hj=>by simp at hj⟩
 | r::xs,l,h=>by
  unfold I0 at h
  split at h
  .cases h;rename_i e;cases e
  .rename_i n r' e;injection e with e1 e2;subst e1 e2
   split at h
   .rename_i hn;simp only[Bm]at h;obtain⟨l',h,rfl⟩:=h;obtain⟨g1,g2⟩:=Ah6 h;refine⟨by simp[g1],fun j x hj=>?_⟩
    cases j with
    | zero=>
     simp at hj
     have hx:((UInt8.ofNat n.toNat).toNat:Int)=n:=by
      rw[UInt8.toNat_ofNat'];have:n.toNat % 2 ^ 8=n.toNat:=U5 (by omega);omega
     rw[<-hj,hx];rfl
    | succ j=>exact g2 j x (by simpa using hj)
   .cases h
  .cases h
/-! copyCheck -/
def Ael:Tryz.prog.underlying 129=some (.pointer 131):=by kernel_rfl
def Akp:(Tryz.prog.info? 131).map (·.size)=some 2:=by kernel_rfl
def Aji:Tryz.prog.cellsOf 131=2:=by kernel_rfl
def Avf:sameLayout Tryz.prog Tryz.prog.depth 131 131=true:=by kernel_rfl
def Atc:∃ d,Tryz.prog.depth=d+1:=⟨Tryz.prog.depth - 1,by kernel_rfl⟩
def Avg(n:Nat)(hn:1<=n):liesAt Tryz.prog Tryz.prog.depth 131 n 0 131 1=true:=by
 obtain⟨d,hd⟩:=Atc
 have hr:rowAt Tryz.prog (sameLayout Tryz.prog Tryz.prog.depth · 131) Tryz.prog.depth 131 n 0 1=true:=by
  have:=Avf;generalize hf:(fun x=>sameLayout Tryz.prog Tryz.prog.depth x 131)=f;have qZ:f 131=true:=by rw[<-hf];exact this
  rw[hd];unfold rowAt;simp[Aji,qZ,hn]
 rw[hd];unfold liesAt;rw[hr];rfl
def Ail:Tryz.prog.underlying 205=some .unsafePointer:=by kernel_rfl
set_option maxHeartbeats 1000000 in
set_option maxRecDepth 100000 in
def Aza(b:Nat)(w:World)(h0:w.cell? ⟨b,0,none⟩=some (.pointer (some ⟨b,0,none⟩))):
  Calls Tryz.prog 135 #[.pointer (some ⟨b,0,none⟩)] w fun e w'=>e=.returned (.tuple #[])/\w'=w:=by
 obtain⟨j,hj,_⟩:=Bm.1 Akp
 go_enter Tryz.func135,Tryz.ntmps135
 go_wp2
 rw[Lib.run_neq_ptr_same w _ Ael hj]
 go_wp2
 go_end0
 exact⟨rfl,rfl⟩
set_option maxHeartbeats 1000000 in
set_option maxRecDepth 100000 in
def Avh(b:Nat)(w:World)(h0:w.cell? ⟨b,0,none⟩=some (.pointer none))(n:Nat)(hn:2<=n)(qM:w.shape? b=some (131,n))(jm:w.frozen? ⟨b,0,none⟩=false):
  Calls Tryz.prog 135 #[.pointer (some ⟨b,0,none⟩)] w fun e w'=>e=.returned (.tuple #[])/\w'=w.setCell ⟨b,0,none⟩ (.pointer (some ⟨b,0,none⟩)):=by
 obtain⟨j,hj,qs⟩:=Bm.1 Akp
 go_enter Tryz.func135,Tryz.ntmps135
 go_wp2
 rw[Lib.run_to_unsafe w ⟨b,0,none⟩ Ael Ail hj (by rw[qs];decide) qM (by show 0<n;omega)];simp only[Result.andThen];rw[Oper.upon_value]
 go_wp2
 rw[run_callFunc_extern Tryz.func157 (by kernel_rfl) (by kernel_rfl) (by kernel_rfl) (e:=Extern.AbiNoEscape.same) (by kernel_rfl)];rw[Lib.run_noEscape];simp only[Result.andThen];rw[Oper.upon_value]
 go_wp2
 rw[Lib.run_from_unsafe w ⟨b,0,none⟩ Ail Ael hj qM (by rw[Aji];exact Avg _ (by omega))];simp only[Result.andThen];rw[Oper.upon_value]
 go_wp2
 go_end0
 exact⟨rfl,rfl⟩
/-! what they do -/
def Ut(tB:Nat):List V->St->Option (V × St)
 | [.ptr b g 0],σ=>match σ[b]? with
  | some (.row [.nilp,x] e g' 0)=>if g=g'/\e=tB then some (.tup [],σ.set b (.row [.ptr b g 0,x] e g 0)) else none
  | some (.row [.ptr b' g2 0,_] _ g' _)=>if g=g'/\b'=b/\g2=g then some (.tup [],σ) else none
  | _=>none
 | _,_=>none
def Rl(tB tE:Nat):List V->St->Option (V × St)
 | [.ptr b g 0],σ=>match σ[b]? with
  | some (.row [_,.nils] e g' _)=>if g=g'/\e=tB then some (.str [],σ) else none
  | some (.row [_,.sl i gi 0 len 1 _] e g' _)=>if g=g'/\e=tB/\0<len then(match σ[i]? with
   | some (.row cs e' qG _)=>if gi=qG/\e'=tE/\len<=cs.length then(I0 (Eu 1 len cs)).map fun l=>(.str l,σ.set i .dead) else none
   | _=>none) else none
  | _=>none
 | _,_=>none
section
variable {G:List (Nat × List V)} {N:Nat} {γ:Gh} {σ:St} {w:World}
def Inv.kill(h:Inv G N γ σ w){i k:Nat}{p:Nat × Nat}{cs:List V}{e g z:Nat}(hp:γ.O[i]?=some p)(ho:σ[i]?=some (.row cs e g z)):
  Inv G N γ (σ.set i .dead) (w.freeze ⟨p.1,0,none⟩ k)/\Ext γ w γ (w.freeze ⟨p.1,0,none⟩ k)/\Below N w (w.freeze ⟨p.1,0,none⟩ k):=by
 obtain⟨q,hq,h1,h2,h3,us,lo,hi,h4,h5,h6,h7⟩:=h.of ho;rw[hp]at hq;injection hq with hq;subst hq;obtain⟨qO,qm,f1,f2⟩:=Ari w p.1 k h4
 have qE:(w.freeze ⟨p.1,0,none⟩ k).heap.size=w.heap.size:=by unfold World.freeze;split<;>simp
 have hs:D0 (w.freeze ⟨p.1,0,none⟩ k) p.1=D0 w p.1:=by simp[D0,f1,h4]
 have:=h.turn (w':=w.freeze ⟨p.1,0,none⟩ k) (p':=p) (ob':=.dead) (κ':=γ.κ) hp (by omega) (fun b _ hb=>Arb w p.1 k b hb) (fun _ _ _=>rfl) (fun b k hk=>by rw[qE];exact h.dom b k hk) (fun z' hz=>⟨z',hz,Ah _,fun o _=>by simp[World.cell?,f1,h4]⟩) (Ah _) (fun _=>⟨rfl,hs⟩) (.inl rfl) (fun _=>by show p.1<_;rw[qE];exact h.oblt hp);rw[Nq hp]at this;exact⟨this.1,this.2,Lib.below_freeze (Below.refl N w) (p:=⟨p.1,0,none⟩) (h.low i p hp) k⟩
end
def A64{G:List (Nat × List V)}:Tx Tryz.prog G 135 (Ut 131):=by
 refine⟨⟨Tryz.f135,_,by kernel_rfl,rfl,by decide⟩,fun args σ v σ' h us w γ N hl ha hI=>?_⟩;unfold Ut at h
 split at h
 .rename_i b g
  match us,hl with
  | [u],_=>
  have hu:=ha 0 (by simp);obtain⟨b1,blk,g1,ql,hB,jb,qo⟩:=Mq (Ax rfl hu);have ql:u=.pointer (some ⟨b1,0,none⟩):=ql;subst ql
  split at h
  .rename_i x e g' hb
   split at h
   .rename_i qk;cases h;obtain⟨rfl,rfl⟩:=qk;obtain⟨p,hp,q1,q2,q3,us,lo,hi,q4,q5,q6,q7⟩:=hI.of hb;rw[hB]at hp;cases hp;have q1:g1=g:=q1;subst q1;obtain rfl:=qo rfl;have q4:w.heap[b1]?=some (.cells us 131 (lo,hi)):=q4;have q6:2<=us.size:=q6;have c0:us.getD 0 undef=.pointer none:=Qn (q7 0 (by simp));have c1:=q7 1 (by simp)
    have qw:w.cell? ⟨b1,0,none⟩=some (.pointer none):=by
     simp[World.cell?,q4];have:us.getD 0 undef=us[0]:=by simp[Array.getD,show 0<us.size by omega]
     rw[<-c0,this];simp
    refine(Avh b1 w qw us.size q6 (by simp[World.shape?,q4]) (by
     simp only[World.frozen?,q4]
     rcases q5 with⟨a1,a2 | a2⟩<;>simp<;>omega)).mono ?_
    rintro e w' ⟨rfl,rfl⟩;rw[Arj w b1 us _ _ q4]
    obtain⟨i1,i2⟩:=hI.write (g':=g1) (us':=us.setIfInBounds 0 (.pointer (some ⟨b1,0,none⟩))) (cs':=[.ptr b g1 0,x]) hB hb q4 q5 (Ah _) (Ay _) (by simp) q6 (fun o ho=>by omega) (fun j hj=>by
     match j,hj with
     | 0,_=>
      have:(us.setIfInBounds 0 (.pointer (some ⟨b1,0,none⟩))).getD 0 undef=.pointer (some ⟨b1,0,none⟩):=by simp[Array.getD_eq_getD_getElem?,show 0<us.size by omega]
      rw[this];exact .ptr hB (Ah _) (fun _=>rfl)
     | 1,_=>
      have:(us.setIfInBounds 0 (.pointer (some ⟨b1,0,none⟩))).getD 1 undef=us.getD 1 undef:=by simp[Array.getD_eq_getD_getElem?,Array.getElem?_setIfInBounds]
      rw[this]
      exact c1)
    exact⟨_,_,rfl,.tup rfl (fun j hj=>by simp at hj),i1,i2,Yk _ (hI.low _ _ hB),fun _ _=>rfl⟩
   .cases h
  .rename_i b' g2 x e g' z hb
   split at h
   .rename_i qk;cases h;obtain⟨rfl,rfl,rfl⟩:=qk;obtain⟨p,hp,q1,q2,q3,us,lo,hi,q4,q5,q6,q7⟩:=hI.of hb;rw[hB]at hp;cases hp;have q1:g1=g2:=q1;subst q1;obtain rfl:=qo rfl;have q4:w.heap[b1]?=some (.cells us e (lo,hi)):=q4;have q6:2<=us.size:=q6;obtain⟨b2,qP,g3,c0,qH,_,qu⟩:=Mq (q7 0 (by simp));rw[hB]at qH;cases qH;obtain rfl:=qu rfl
    have qw:w.cell? ⟨b2,0,none⟩=some (.pointer (some ⟨b2,0,none⟩)):=by
     simp[World.cell?,q4];have:us.getD 0 undef=us[0]:=by simp[Array.getD,show 0<us.size by omega]
     rw[<-c0,this];simp
    refine(Aza b2 w qw).mono ?_;rintro e w' ⟨rfl,rfl⟩;exact⟨_,γ,rfl,.tup rfl (fun j hj=>by simp at hj),hI,Ext.refl _ _,Below.refl _ _,fun _ _=>rfl⟩
   .cases h
  .cases h
 .cases h
def A3i{G:List (Nat × List V)}:Tx Tryz.prog G 83 (Rl 131 5):=by
 refine⟨⟨Tryz.f83,_,by kernel_rfl,rfl,by decide⟩,fun args σ v σ' h us w γ N hl ha hI=>?_⟩;unfold Rl at h
 split at h
 .rename_i b g
  match us,hl with
  | [u],_=>
  have hu:=ha 0 (by simp);obtain⟨b1,blk,g1,ql,hB,jb,qo⟩:=Mq (Ax rfl hu);have ql:u=.pointer (some ⟨b1,0,none⟩):=ql;subst ql
  split at h
  .rename_i x e g' z hb
   split at h
   .rename_i qk;cases h;obtain⟨rfl,rfl⟩:=qk;obtain⟨p,hp,q1,q2,q3,us,lo,hi,q4,q5,q6,q7⟩:=hI.of hb;rw[hB]at hp;cases hp;have q1:g1=g:=q1;subst q1;obtain rfl:=qo rfl;have q4:w.heap[b1]?=some (.cells us 131 (lo,hi)):=q4;have q6:2<=us.size:=q6;have c1:us.getD 1 undef=.slice none 0 0:=Kz (q7 1 (by simp))
    have qx:w.cell? ⟨b1,1,none⟩=some (.slice none 0 0):=by
     simp[World.cell?,q4];have:us.getD 1 undef=us[1]:=by simp[Array.getD,show 1<us.size by omega]
     rw[<-c1,this];simp
    refine(Ar3 Tryz.lays169 Tryz.Builder_Extra_169 b1 w qx).mono ?_;rintro e w' ⟨rfl,rfl⟩;obtain⟨d1,d2⟩:=hI.drew;exact⟨_,γ,rfl,C1 (.row (.str (by simp[maxLen]))),d1,d2,(Below.refl N w).drew,fun _ _=>rfl⟩
   .cases h
  .rename_i x i gi len own e g' z hb
   split at h
   .rename_i qk;obtain⟨rfl,rfl,jc⟩:=qk
    split at h
    .rename_i cs e' qG zi qm
     split at h
     .rename_i hc;obtain⟨rfl,rfl,qe⟩:=hc;simp only[Bm]at h;obtain⟨l,jd,h⟩:=h;cases h;obtain⟨p,hp,q1,q2,q3,us,lo,hi,q4,q5,q6,q7⟩:=hI.of hb;rw[hB]at hp;cases hp;have q1:g1=g:=q1;subst q1;obtain rfl:=qo rfl;have q4:w.heap[b1]?=some (.cells us 131 (lo,hi)):=q4;have q6:2<=us.size:=q6;obtain⟨bb,oo,cap,bk,gk,c1,k1,k2,k3,k4,k5,k6⟩:=S8 (q7 1 (by simp));have c1:us.getD 1 undef=.slice (some ⟨bb,oo,none⟩) len cap:=c1;obtain⟨p,hp,r1,r2,r3,vs,Rt,qq,r4,r5,r6,r7⟩:=hI.of qm;rw[k1]at hp;cases hp;have r1:gk=gi:=r1;subst r1;obtain⟨rfl,_⟩:=k6 rfl;obtain rfl:=k5 (by omega);have r4:w.heap[bb]?=some (.cells vs 5 (Rt,qq)):=r4;obtain⟨n1,n2⟩:=Ah6 jd;have qB:l.length=len:=by rw[n1];simp[Wb]
      have qx:w.cell? ⟨b1,1,none⟩=some (.slice (some ⟨bb,0,none⟩) l.length cap):=by
       rw[qB];simp[World.cell?,q4];have:us.getD 1 undef=us[1]:=by simp only[Array.getD];rw[dif_pos (show 1<us.size by omega)];rfl
       rw[<-c1,this];simp
      refine(Ar2 Tryz.lays169 Tryz.Builder_Extra_169 b1 bb cap vs (Rt,qq) l w (by rintro rfl;simp at qB;omega) qx r4 (by omega) (by omega) (by unfold maxLen at k4;omega) (fun j x hj=>?_)).mono ?_
      .have qr:j<len:=by rw[<-qB];exact(Ap.1 hj).1
       have a1:=n2 j x hj;have a2:=r7 j (by omega)
       have qV:cs.getD j .und=.int .u8 (x.toNat:Int):=by
        rw[Wb]at a1;have qz:j<cs.length:=by omega
        simp[As,qr,qz]at a1;rw[As,A2 qz];rw[List.take_one]at a1;simpa[qz] using a1
       rw[qV]at a2;have a3:=Eg a2;rw[I1];have qs:j<vs.size:=by omega
       have:vs.getD j undef=vs[j]:=by simp[Array.getD,qs]
       simp[World.cell?,r4,qs];rw[<-this];exact a3
      .rintro e w' ⟨rfl,rfl⟩;obtain⟨d1,d2⟩:=hI.drew;obtain⟨f1,f2,f3⟩:=d1.kill (k:=l.length) k1 qm;exact⟨_,γ,rfl,C1 (.row (.str (by omega))),f1,d2.trans f2,((Below.refl N w).drew).trans f3,fun _ _=>rfl⟩
     .cases h
    .cases h
   .cases h
  .cases h
 .cases h
open Go Go.RowKit Go.Sort
def gPow:List V:=Lib.pow10Tab.map fun z=>.int .u64 z
variable {G:List (Nat × List V)}
def Avi:Tryz.prog.globalNamed "internal/strconv.uint64pow10"=some 0:=by kernel_rfl
def An8{κ:Ee}{w:World}(h:∀ g r,(g,r)∈G->RepC ⟨κ,[]⟩ w (.imm r 0) (.pointer (some ⟨g,0,none⟩)))(hs:∀ g r,(g,r)∈G->D0 w g=some r.length)(qf:(0,gPow)∈G):
  Lib.TabIs Tryz.prog w "internal/strconv.uint64pow10" .u64 Lib.pow10Tab:=by
 have h1:=h _ _ qf;have h2:=hs _ _ qf;obtain⟨b,o,k,row,hu,h3,h4,h5,h6⟩:=K1 h1;simp at hu;obtain⟨rfl,rfl⟩:=hu;unfold D0 at h2
 split at h2
 .rename_i cs e fz hh;simp only[Ye]at h2;unfold Lib.TabIs World.var?;rw[Avi];simp only[C4,hh];congr 1;apply Array.ext
  .rw[h2];simp[gPow]
  .intro i qy qq;have qc:i<gPow.length:=by omega
   have a1:=h5 i qc;have a2:=h6 i qc;have qC:i<Lib.pow10Tab.length:=by simpa[gPow] using qc
   rw[show gPow.getD i .und=.int .u64 Lib.pow10Tab[i] by simp[gPow,As,qC]]at a2;have a3:=Eg (γ:=⟨κ,[]⟩) (.row a2);rw[a3]at a1;simp[World.cell?,hh,qy]at a1;simp[a1]
 .cases h2
def Sl{κ:Ee}{w w':World}{v:V}{u:Value}{e:Ending}(hd:∀ b k,κ b=some k->b<w.heap.size)(hv:∀ κ' w',RepV ⟨κ',[]⟩ w' v u)(h:e=.returned u/\Below w.heap.size w w'):
  ∃ u κ',e=.returned u/\RepV ⟨κ',[]⟩ w' v u/\Below w.heap.size w w'/\(∀ b,b<w.heap.size->κ' b=κ b)/\∀ b k,κ' b=some k->b<w'.heap.size:=
 ⟨_,κ,h.1,hv κ w',h.2,fun _ _=>rfl,fun b k hk=>Rx (hd b k hk) h.2.size⟩
def Ad5{κ:Ee}{w w':World}{l:List UInt8}{e:Ending}(hd:∀ b k,κ b=some k->b<w.heap.size)(hl:l.length<=maxLen)(h:e=.returned (.string ⟨l.toArray⟩)/\Below w.heap.size w w'):
  ∃ u κ',e=.returned u/\RepV ⟨κ',[]⟩ w' (.str l) u/\Below w.heap.size w w'/\(∀ b,b<w.heap.size->κ' b=κ b)/\∀ b k,κ' b=some k->b<w'.heap.size:=
 ⟨_,κ,h.1,C1 (.row (.str hl)),h.2,fun _ _=>rfl,fun b k hk=>Rx (hd b k hk) h.2.size⟩
def Aim(w:World)(k:Nat)(os:Array Obj):Below w.heap.size w (grow (w.drewN k) os):=
 ⟨rfl,rfl,rfl,by simp[grow,World.drewN],fun k hk=>by simp[grow,World.drewN,Array.getElem?_append,hk]⟩
/-! numerals, so that they can be run -/
def Md:Nat->Nat->List UInt8
 | 0,_=>[]
 | k+1,u=>if u<10 then [UInt8.ofNat (48+u)] else Md k (u / 10)++[UInt8.ofNat (48+u % 10)]
def Aem:∀ (k u:Nat),u<10 ^ (k+1)->Md (k+1) u=Lib.decDigits u
 | 0,u,h=>by
  rw[Lib.decDigits];unfold Md;rw[if_pos (by simpa using h),dif_pos (by simpa using h)]
 | k+1,u,h=>by
  rw[Lib.decDigits];unfold Md
  split
  .rfl
  .rw[Aem k (u / 10) (by rw[Nat.pow_succ]at h;omega)]
def Ct(n:Int):List UInt8:=if n<0 then 45::Md 20 n.natAbs else Md 20 n.toNat
def Akq(n:Int)(h1 : -9223372036854775808<=n)(h2:n<=9223372036854775807):Ct n=Lib.itoa n:=by
 unfold Ct Lib.itoa
 split
 .rw[Aem 19 _ (by omega)]
 .rw[Aem 19 _ (by omega)]
def M8:List V->Option V
 | [.int .i64 n,.int .i64 10]=>if -9223372036854775808<=n/\n<=9223372036854775807 then some (.str (Ct n)) else none
 | _=>none
def Ub:List V->Option V
 | [.int .i64 n]=>if -9223372036854775808<=n/\n<=9223372036854775807 then some (.str (Ct n)) else none
 | _=>none
def Up:List V->Option V
 | [.str s,.int .i64 c]=>if 0<=c/\c<=9223372036854775807/\s.length*c.toNat<=140737488355328 then some (.str (Lib.repeatL s c.toNat)) else none
 | _=>none
def Xq:List V->Option V
 | [.str s,.str p]=>some (.bool (Lib.hasPrefix s p))
 | _=>none
def Uu{α:Type}{us:List α}(h:2=us.length):∃ a b,us=[a,b]:=by
 match us,h with
 | [a,b],_=>exact⟨a,b,rfl⟩
def A8j{α:Type}{us:List α}(h:1=us.length):∃ a,us=[a]:=by
 match us,h with
 | [a],_=>exact⟨a,rfl⟩
def A3j(qf:(0,gPow)∈G):H5 Tryz.prog G 35 M8:=by
 refine⟨⟨Tryz.f35,_,by kernel_rfl,rfl,by decide⟩,fun κ w vs us v hg hs hd hl ha h=>?_⟩;unfold M8 at h
 split at h
 .rename_i n
  split at h
  .rename_i hn;cases h;obtain⟨a,b,rfl⟩:=Uu hl;have h1:=Eg (Hg rfl (ha 0 (by simp)));have h2:=Eg (Hg rfl (ha 1 (by simp)));have h1:a=.int .i64 n:=h1;have h2:b=.int .i64 10:=h2;subst h1 h2;rw[Akq n hn.1 hn.2];refine(Tryz.strconv_FormatInt_10 n hn.1 hn.2 w (An8 hg hs qf)).mono fun e w' hh=>Ad5 hd (by have:=Lib.itoa_length_le n hn.1 hn.2;unfold maxLen;omega) ?_
   obtain⟨h,k,os,rfl⟩:=hh;exact⟨h,Aim w k os⟩
  .cases h
 .cases h
def Azb(qf:(0,gPow)∈G):H5 Tryz.prog G 34 Ub:=by
 refine⟨⟨Tryz.f34,_,by kernel_rfl,rfl,by decide⟩,fun κ w vs us v hg hs hd hl ha h=>?_⟩;unfold Ub at h
 split at h
 .rename_i n
  split at h
  .rename_i hn;cases h;obtain⟨a,rfl⟩:=A8j hl;have h1:=Eg (Hg rfl (ha 0 (by simp)));have h1:a=.int .i64 n:=h1;subst h1;rw[Akq n hn.1 hn.2];refine(Tryz.strconv_Itoa n hn.1 hn.2 w (An8 hg hs qf)).mono fun e w' hh=>Ad5 hd (by have:=Lib.itoa_length_le n hn.1 hn.2;unfold maxLen;omega) ?_
   obtain⟨h,k,os,rfl⟩:=hh;exact⟨h,Aim w k os⟩
  .cases h
 .cases h
def A3k:H5 Tryz.prog G 104 Up:=by
 refine⟨⟨Tryz.f104,_,by kernel_rfl,rfl,by decide⟩,fun κ w vs us v hg hs hd hl ha h=>?_⟩;unfold Up at h
 split at h
 .rename_i s c
  split at h
  .rename_i hc;cases h;obtain⟨a,b,rfl⟩:=Uu hl;have h1:=(F5 (Hg rfl (ha 0 (by simp)))).1;have h2:=Eg (Hg rfl (ha 1 (by simp)));have h1:a=.string ⟨s.toArray⟩:=h1;have h2:b=.int .i64 c:=h2;obtain⟨n,rfl⟩:∃ n:Nat,c=n:=⟨c.toNat,by omega⟩;subst h1 h2;have qX:s.length*n<=140737488355328:=by simpa using hc.2.2
   have:=Tryz.strings_Repeat ⟨s.toArray⟩ n w (by omega) (by rw[Il];exact qX);refine this.mono fun e w' hh=>Ad5 hd ?_ (by simpa using hh)
   rw[P8,Lib.repeatL_length,Sb];unfold maxLen;omega
  .cases h
 .cases h
def A65:H5 Tryz.prog G 43 Xq:=by
 refine⟨⟨Tryz.f43,_,by kernel_rfl,rfl,by decide⟩,fun κ w vs us v hg hs hd hl ha h=>?_⟩;unfold Xq at h
 split at h
 .rename_i s p;cases h;obtain⟨a,b,rfl⟩:=Uu hl;have h1:=(F5 (Hg rfl (ha 0 (by simp)))).1;have h2:=(F5 (Hg rfl (ha 1 (by simp)))).1;have h1:a=.string ⟨s.toArray⟩:=h1;have h2:b=.string ⟨p.toArray⟩:=h2;subst h1 h2;refine(Tryz.strings_HasPrefix ⟨s.toArray⟩ ⟨p.toArray⟩ w).mono ?_;rintro e w' ⟨rfl,rfl⟩;exact⟨_,κ,rfl,C1 (.row .bool),Below.refl _ _,fun _ _=>rfl,hd⟩
 .cases h
def Pw:List V->Option V
 | [.str s,.int .u8 c]=>some (.int .i64 (Lib.indexByte s c.toNat.toUInt8))
 | _=>none
def Xl:List V->Option V
 | [.str s,.str p]=>if s.length<4294967281 then some (.tup [.str (Lib.cut s p).1,.str (Lib.cut s p).2.1,.bool (Lib.cut s p).2.2]) else none
 | _=>none
def Uv:List V->Option V
 | [.str s,.str [c]]=>if c.toNat<128 then some (.str (Lib.trimLeftB s c)) else none
 | _=>none
def Uw:List V->Option V
 | [.str s,.int .i64 10,.int .i64 64]=>if s.length<=281474976710656 then(match Lib.parseIntB 64 s with
  | .ok v=>some (.tup [.int .i64 v,.nili])
  | Lib.NumEnd.syntax=>some (.tup [.int .i64 0,.ifc])
  | .range=>some (.tup [.int .i64 (Lib.intSat 64 s),.ifc])) else none
 | _=>none
def Aqf{γ:Gh}{w:World}{vs:List V}{us:List Value}(h1:vs.length=us.length)(h2:∀ j,j<vs.length->RepC γ w (vs.getD j .und) (us.getD j undef)):RepV γ w (.tup vs) (.tuple us.toArray):=
 .tup h1 (fun j hj=>.cell (h2 j hj))
def A66:H5 Tryz.prog G 53 Pw:=by
 refine⟨⟨Tryz.f53,_,by kernel_rfl,rfl,by decide⟩,fun κ w vs us v hg hs hd hl ha h=>?_⟩;unfold Pw at h
 split at h
 .rename_i s c;cases h;obtain⟨a,b,rfl⟩:=Uu hl;have h1:=(F5 (Hg rfl (ha 0 (by simp)))).1;have h2:=Eg (Hg rfl (ha 1 (by simp)));have h1:a=.string ⟨s.toArray⟩:=h1;have h2:b=.int .u8 c:=h2;subst h1 h2;refine(Tryz.strings_IndexByte ⟨s.toArray⟩ c w).mono ?_;rintro e w' ⟨rfl,rfl⟩;exact Sl hd (fun κ' w'=>C1 (.row .int)) ⟨rfl,Below.refl _ _⟩
 .cases h
def Avj{κ:Ee}{w:World}{g:Nat}{m:Int}(h:∀ g r,(g,r)∈G->RepC ⟨κ,[]⟩ w (.imm r 0) (.pointer (some ⟨g,0,none⟩)))(qf:(g,[V.int .i64 m])∈G):w.cell? ⟨g,0,none⟩=some (.int .i64 m):=by
 obtain⟨b,o,k,row,hu,h3,h4,h5,h6⟩:=K1 (h _ _ qf);simp at hu;obtain⟨rfl,rfl⟩:=hu;have a1:=h5 0 (by simp);have a2:=h6 0 (by simp);have a3:=Eg (γ:=⟨κ,[]⟩) (.row a2);rw[a3]at a1;exact a1
def Azc(s p:List UInt8):(Lib.cut s p).1.length<=s.length/\(Lib.cut s p).2.1.length<=s.length:=by
 unfold Lib.cut
 split<;>simp<;>omega
def A3l{m:Int}(qf:(2,[V.int .i64 m])∈G):H5 Tryz.prog G 51 Xl:=by
 refine⟨⟨Tryz.f51,_,by kernel_rfl,rfl,by decide⟩,fun κ w vs us v hg hs hd hl ha h=>?_⟩;unfold Xl at h
 split at h
 .rename_i s p
  split at h
  .rename_i qc;cases h;obtain⟨a,b,rfl⟩:=Uu hl;obtain⟨h1,hm⟩:=F5 (Hg rfl (ha 0 (by simp)));have h2:=(F5 (Hg rfl (ha 1 (by simp)))).1;have h1:a=.string ⟨s.toArray⟩:=h1;have h2:b=.string ⟨p.toArray⟩:=h2;subst h1 h2;refine(Tryz.strings_Cut ⟨s.toArray⟩ ⟨p.toArray⟩ m w (by rw[Il];exact qc) (Avj hg qf)).mono ?_;rintro e w' ⟨rfl,n,rfl⟩;obtain⟨c1,c2⟩:=Azc s p;refine Sl hd (fun κ' w'=>Aqf (us:=[.string ⟨(Lib.cut s p).1.toArray⟩,.string ⟨(Lib.cut s p).2.1.toArray⟩,.bool (Lib.cut s p).2.2]) rfl (fun j hj=>?_)) ⟨rfl,⟨rfl,rfl,rfl,Ah _,fun _ _=>rfl⟩⟩
   match j,hj with
   | 0,_=>exact .row (.str (by show(Lib.cut s p).1.length<=_;omega))
   | 1,_=>exact .row (.str (by show(Lib.cut s p).2.1.length<=_;omega))
   | 2,_=>exact .row .bool
  .cases h
 .cases h
def A67:H5 Tryz.prog G 100 Uv:=by
 refine⟨⟨Tryz.f100,_,by kernel_rfl,rfl,by decide⟩,fun κ w vs us v hg hs hd hl ha h=>?_⟩;unfold Uv at h
 split at h
 .rename_i s c
  split at h
  .rename_i qc;cases h;obtain⟨a,b,rfl⟩:=Uu hl;obtain⟨h1,hm⟩:=F5 (Hg rfl (ha 0 (by simp)));have h2:=(F5 (Hg rfl (ha 1 (by simp)))).1;have h1:a=.string ⟨s.toArray⟩:=h1;have h2:b=.string ⟨#[c]⟩:=h2;subst h1 h2;refine(Tryz.strings_TrimLeft_one ⟨s.toArray⟩ c qc w).mono ?_;rintro e w' ⟨rfl,rfl⟩;refine Sl hd (fun κ' w'=>C1 (.row (.str ?_))) ⟨rfl,Below.refl _ _⟩;exact Cv (List.dropWhile_sublist _).length_le hm
  .cases h
 .cases h
def An9{κ:Ee}{w:World}{g:Nat}{nm:String}(hn:Tryz.prog.globalNamed nm=some g)(h:∀ g r,(g,r)∈G->RepC ⟨κ,[]⟩ w (.imm r 0) (.pointer (some ⟨g,0,none⟩)))(hs:∀ g r,(g,r)∈G->D0 w g=some r.length)(qf:(g,[V.ifc])∈G):
  ∃ t p,w.var? Tryz.prog nm=some #[.iface t p]:=by
 obtain⟨b,o,k,row,hu,h3,h4,h5,h6⟩:=K1 (h _ _ qf);simp at hu;obtain⟨rfl,rfl⟩:=hu;have a1:=h5 0 (by simp);have a2:=h6 0 (by simp);obtain⟨t,p,a3⟩:=Ady (γ:=⟨κ,[]⟩) (.row a2);rw[a3]at a1;have h2:=hs _ _ qf;unfold D0 at h2
 split at h2
 .rename_i cs e fz hh;simp only[Ye,Ak,C0,Fe]at h2;refine⟨t,p,?_⟩;unfold World.var?;rw[hn];simp only[C4,hh];congr 1;apply Array.ext
  .rw[h2];rfl
  .intro i qy qq;obtain rfl:i=0:=by simp at qq;omega
   simp[World.cell?,hh,qy]at a1;simp[a1]
 .cases h2
def Amq:Tryz.prog.globalNamed "strconv.ErrSyntax"=some 7:=by kernel_rfl
def Amr:Tryz.prog.globalNamed "strconv.ErrRange"=some 8:=by kernel_rfl
def Aen{γ:Gh}{w:World}{n:Int}{v:V}{u:Value}(h:RepC γ w v u):RepV γ w (.tup [.int .i64 n,v]) (.tuple #[.int .i64 n,u]):=
 Aqf (us:=[.int .i64 n,u]) rfl (fun j hj=>by
  match j,hj with
  | 0,_=>exact .row .int
  | 1,_=>exact h)
def Ark(w:World)(e:TypeId)(t:ByteArray):Below w.heap.size w (Lib.bytesWorld w e t):=by
 unfold Lib.bytesWorld;refine Lib.below_freeze ?_ (p:=⟨w.heap.size,_,none⟩) (Ah _) _;exact(Below.refl _ w).drew.alloc (show w.heap.size<=w.drew.heap.size from Ah _) _
def A68{α:Type}{us:List α}(h:3=us.length):∃ a b c,us=[a,b,c]:=by
 match us,h with
 | [a,b,c],_=>exact⟨a,b,c,rfl⟩
def A69(h1:(7,[V.ifc])∈G)(h2:(8,[V.ifc])∈G):H5 Tryz.prog G 126 Uw:=by
 refine⟨⟨Tryz.f126,_,by kernel_rfl,rfl,by decide⟩,fun κ w vs us v hg hs hd hl ha h=>?_⟩;unfold Uw at h
 split at h
 .rename_i s
  split at h
  .rename_i qc;obtain⟨a,b,c,rfl⟩:=A68 hl;obtain⟨g1,hm⟩:=F5 (Hg rfl (ha 0 (by simp)));have g2:=Eg (Hg rfl (ha 1 (by simp)));have g3:=Eg (Hg rfl (ha 2 (by simp)));have g1:a=.string ⟨s.toArray⟩:=g1;have g2:b=.int .i64 10:=g2;have g3:c=.int .i64 64:=g3;subst g1 g2 g3
   split at h
   .rename_i n hn;cases h;refine(Tryz.strconv_ParseInt_10_at64_ok ⟨s.toArray⟩ (by rw[Il];omega) n hn w).mono ?_;rintro e w' ⟨rfl,hw⟩;refine Sl hd (fun κ' w'=>Aen (.row .nili)) ⟨rfl,?_⟩;rcases hw with rfl | ⟨t,rfl⟩
    .exact Below.refl _ _
    .exact Ark w _ t
   .rename_i hn;cases h;obtain⟨t,p,hv⟩:=An9 Amq hg hs h1;refine(Tryz.strconv_ParseInt_10_at64_syntax_var ⟨s.toArray⟩ (by rw[Il];exact qc) hn t p w hv).mono ?_;rintro e w' ⟨N,rfl,_,_,hb⟩;exact Sl hd (fun κ' w'=>Aen .ifc) ⟨rfl,hb⟩
   .rename_i hn;cases h;obtain⟨t,p,hv⟩:=An9 Amr hg hs h2;refine(Tryz.strconv_ParseInt_10_at64_range_var ⟨s.toArray⟩ (by rw[Il];exact qc) hn t p w hv).mono ?_;rintro e w' ⟨N,rfl,_,_,hb⟩;exact Sl hd (fun κ' w'=>Aen .ifc) ⟨rfl,hb⟩
  .cases h
 .cases h
open Go Go.RowKit
def kwL:List (List UInt8):=[[118,97,114],[118,111,108,97,116,105,108,101],[109,117,116,101,120],[114,119,108,111,99,107],[99,111,110,100],[102,117,116,117,114,101],[116,104,114,101,97,100],[105,102],[101,108,115,101],[119,104,105,108,101],[108,111,99,107],[114,101,97,100],[119,114,105,116,101],[116,114,97,110,115,97,99,116,105,111,110],[97,116,111,109,105,99],[119,97,105,116],[110,111,116,105,102,121],[110,111,116,105,102,121,97,108,108],[115,112,97,119,110],[106,111,105,110],[115,101,116],[103,101,116]]
def gKw:List V:=kwL.map V.str
def Gv(l:List UInt8):Bool:=kwL.any fun k=>l==k
def Jy(n:Nat):Bool:=(decide (97<=n)&&decide (n<=122))||(decide (65<=n)&&decide (n<=90))
def Pu(n:Nat):Bool:=decide (48<=n)&&decide (n<=57)
def Lf(n:Nat):Bool:=Jy n||(Pu n||n==95)
def Mh(l:List UInt8)(j:Nat):Bool:=Jy (l.getD j 0).toNat||(decide (0<j)&&((l.getD j 0).toNat==95||Pu (l.getD j 0).toNat))
def B3(l:List UInt8):Bool:=decide (1<=l.length)&&(decide (l.length<=12)&&(!Gv l&&(List.range l.length).all (Mh l)))
def kwS:List V->Option V
 | [.str l]=>some (.bool (Gv l))
 | _=>none
def Azd{l:List UInt8}(h:l.length<1):B3 l=false:=by
 unfold B3;rw[decide_eq_false (by omega)];rfl
def Aze{l:List UInt8}(h:12<l.length):B3 l=false:=by
 unfold B3;rw[decide_eq_false (show ¬ l.length<=12 by omega)];simp
def Azf{l:List UInt8}(h:Gv l=true):B3 l=false:=by
 unfold B3;rw[h];simp
def Aoa{l:List UInt8}(h1:1<=l.length)(h2:l.length<=12)(h3:Gv l=false)(h4:∀ j,j<l.length->Mh l j=true):B3 l=true:=by
 unfold B3;rw[decide_eq_true h1,decide_eq_true h2,h3,Bi.2 fun j hj=>h4 j (E5.1 hj)];rfl
open Go Go.RowKit
def Ar4{T:Nat->Option AF}{pr:Nat->Option (List V->Option V)}{P:Program}{G:List (Nat × List V)}(hT:∀ f F,T f=some F->F.spec=none->Oi P G f F=true)(hS:∀ f F s,T f=some F->F.spec=some s->Tx P G f s)(qD:∀ f s,pr f=some s->H5 P G f s)
  {f:Nat} {s:List V->Option V} (hf:∃ fn c,P.funcs[f]?=some fn/\fn.body=some c/\fn.name ≠ "runtime.NumGoroutine") (h:∀ vs v,s vs=some v->Fn T pr f vs v):H5 P G f s:=by
 refine⟨hf,fun κ w vs us v hg hs hd hl ha hv=>?_⟩;obtain⟨F,hF,h1,h2,v0,σ0,hE,hb⟩:=h vs v hv
 have hI:Inv G w.heap.size ⟨κ,[]⟩ [] w:=
  { base:=Ah _,len:=rfl,nd:=R7,low:=fun i p h=>by simp at h,obj:=fun i ob p h=>by simp at h,dom:=hd,glob:=hg,
    gsz:=fun g r hm=>And.intro (by
     have:=hs g r hm;unfold D0 at this
     split at this
     .rename_i hh;exact(Array.getElem?_eq_some_iff.1 hh).1
     .cases this) (hs g r hm) }
 refine(Apg hT hS qD hE us w ⟨κ,[]⟩ w.heap.size hl (fun j hj=>.one (ha j hj)) hI).mono ?_;rintro e w1 ⟨u,γ',rfl,hu,qI,hx,qT,hk⟩;obtain⟨κ2,y1,y2,y3,y4,_⟩:=qI.freeze (Fm σ0 9 v0.refs.eraseDups);exact⟨u,κ2,rfl,Yp qI y2 y4 hb hu [],qT,fun b qc=>(y3 b qc).trans (hk b qc),y1.dom⟩
/-! IsKeyword -/
def Aob:AC:=.seq (.reg [] [o 7 (.bin .lss (.t 6) (.k (.int .i64 22)))]) (.seq (.cond (.t 7) [7] (.skip) (.exit 0)) (.seq (.blk 1 (.seq (.reg [8] [o 8 (.ida 22 1 true (.t 5) (.t 6)),o 4 (.mov (.t 8))]) (.seq (.reg [4,9,10] [o 9 (.mov (.t 0)),o 10 (.mov (.t 4)),o 11 (.bin .eql (.t 9) (.t 10))]) (.cond (.t 11) [11] (.seq (.reg [] [o 2 (.mov (.k (.bool true)))]) (.ret)) (.skip))))) (.reg [12] [o 12 (.bin .add (.t 6) (.k (.int .i64 1))),o 6 (.mov (.t 12))])))
def Aqg:AF:=⟨1,[.tmp 2],false,.seq (.reg [2] [o 2 (.mov (.k (.bool false)))]) (.seq (.seq (.reg [] [o 5 (.load 22 false (.k (.imm gKw 0))),o 6 (.mov (.k (.int .i64 0)))]) (.blk 0 (.loop [0,5,6] Aob))) (.seq (.reg [] [o 2 (.mov (.k (.bool false)))]) (.ret))),none⟩
def Xr(f:Nat):Option AF:=if f=99 then some Aqg else none
def A7a{i:Nat}(h:i<22):(gKw.drop i).take 1=[.str (kwL.getD i [])]:=by
 have hl:i<kwL.length:=h;unfold gKw;rw[<-List.map_drop,Fv hl,As,A2 hl];rfl
def A7b(l:List UInt8):Fn Xr (fun _=>none) 99 [.str l] (.bool (Gv l)):=by
 refine Bn (show Xr 99=some _ from rfl) rfl ?_;have qe:gKw.length=22:=rfl;have hd:gKw.take 22=gKw:=rfl;generalize hg:gKw=g at qe hd;simp only[go_sem,Nat.reduceEqDiff,reduceIte,Nat.reduceAdd,Nat.reduceMul,Nat.reduceLeDiff,Int.reduceLT,Int.reduceLE,Int.reduceToNat,Int.reduceAdd,Int.reduceNeg,Int.reduceEq,qe,hd,Ah];refine Bv (fun i=>22 - i) (fun i:Nat=>[(0,.str l),(5,.agg g),(6,.int .i64 i)]) (fun _=>[]) (fun i=>i<=22/\∀ j,j<i->(l==kwL.getD j [])=false) ?_ 0 ⟨by omega,fun j hj=>by omega⟩;rintro i ⟨hi,qL⟩ ih;refine Bw (by delta Aob;exact rfl) ?_;rcases Br i 22 with h | h
 .have hk:=A7a h;rw[hg]at hk;have qc:decide ((i:Int)<22)=true:=by simp;omega
  have h0:((0:Int)<=i)=True:=eq_true (by omega);have h1:((i:Int)<22)=True:=eq_true (by omega);have h2:(i+1<=22)=True:=eq_true (by omega);simp only[go_sem,Nat.reduceEqDiff,reduceIte,Nat.reduceAdd,Nat.reduceMul,Nat.reduceLeDiff,Int.reduceLT,Int.reduceLE,Int.reduceToNat,Int.reduceAdd,Int.reduceNeg,Int.reduceEq,qc,h0,h1,h2,hk,qe];refine Apm (fun h3=>?_) (fun h3=>?_)
  .simp only[go_sem,Nat.reduceEqDiff,reduceIte,Nat.reduceAdd,Nat.reduceMul,Nat.reduceLeDiff,Int.reduceLT,Int.reduceLE,Int.reduceToNat,Int.reduceAdd,Int.reduceNeg,Int.reduceEq];refine Ao rfl ?_;unfold Gv;rw[Mk.2 ⟨kwL.getD i [],?_,h3⟩];have hl:i<kwL.length:=h;rw[As,A2 hl];exact Fc hl
  .simp only[go_sem,Nat.reduceEqDiff,reduceIte,Nat.reduceAdd,Nat.reduceMul,Nat.reduceLeDiff,Int.reduceLT,Int.reduceLE,Int.reduceToNat,Int.reduceAdd,Int.reduceNeg,Int.reduceEq,Bf (show i<9223372036854775807 by omega)];refine Bd (ih (i+1) (by omega) ⟨by omega,fun j hj=>?_⟩) rfl;by_cases e:j=i
   .rw[e];exact h3
   .exact qL j (by omega)
 .have qc:decide ((i:Int)<22)=false:=by simp;omega
  simp only[go_sem,Nat.reduceEqDiff,reduceIte,Nat.reduceAdd,Nat.reduceMul,Nat.reduceLeDiff,Int.reduceLT,Int.reduceLE,Int.reduceToNat,Int.reduceAdd,Int.reduceNeg,Int.reduceEq,qc];refine Ao rfl ?_
  symm
  congr 1;unfold Gv;rw[<-Yg];intro ha;obtain⟨k,hk,he⟩:=Mk.1 ha;obtain⟨j,hj,rfl⟩:=On hk;have jn:j<22:=hj;have:=qL j (by omega);rw[As,A2 hj]at this;exact absurd he (by simpa using this)
def A8k:Oi Tryz.prog [(1,gKw)] 99 Aqg=true:=by
 kernel_rfl
def Avk{P:Program}{G H:List (Nat × List V)}{f:Nat}{s:List V->Option V}(h:∀ p∈G,p∈H)(hp:H5 P G f s):H5 P H f s:=
 ⟨hp.1,fun κ w vs us v hg hs=>hp.2 κ w vs us v (fun g r hm=>hg g r (h _ hm)) fun g r hm=>hs g r (h _ hm)⟩
def A7c{G:List (Nat × List V)}(qf:(1,gKw)∈G):H5 Tryz.prog G 99 kwS:=by
 refine Avk (G:=[(1,gKw)]) (fun p hp=>by rw[E4.1 hp];exact qf) ?_;refine Ar4 (T:=Xr) (pr:=fun _=>none) ?_ ?_ (fun _ _ h=>by cases h) ⟨Tryz.f99,_,by kernel_rfl,rfl,by decide⟩ ?_
 .intro f F h _;unfold Xr at h
  split at h
  .rename_i hf;cases h;subst hf;exact A8k
  .cases h
 .intro f F s h hs;unfold Xr at h
  split at h
  .cases h;cases hs
  .cases h
 .intro vs v h;unfold kwS at h
  split at h
  .cases h;exact A7b _
  .cases h
