/- What the row reads of an argument lies in memory as a value of the plain machine. -/
import Derived.Test.YtphikjgngompaaaGreatDoorRows
import Derived.Test.YtphikjgngompaaaGreatDoorA3
import Derived.DataReads
import Derived.Test.YtphikjgngompaaaGreatDoorShelf
import Derived.Lib.UnsafeStr
import Derived.Lib.ItoaLen
import Derived.Lib.Repeat
import Derived.Lib.Split
import Derived.Lib.SlicesCompact
import Derived.Shelf.Spec.SlicesGrow
import Derived.Lib.Join
set_option linter.all false
namespace Go.Proofs.YtphikjgngompaaaGreatDoor.KM
open Go
def AD{p:Prop}(h:p:=by kernel_rfl):p:=h
def I4(w:World):Ez:=fun b=>match w.heap[b]? with
 | some (.cells c _ _)=>some c.size
 | _=>none
def A2v{w:World}{b o:Nat}{v:Value}(h:w.cell? ⟨b,o,none⟩=some v):∃ k,I4 w b=some k/\o<k:=by
 unfold World.cell? at h;unfold I4
 grind
inductive HasT (P:Program):TypeId->List V->Prop
 | bool {t:TypeId} {b:Bool}:P.underlying t=some .bool->HasT P t [.bool b]
 | int {t:TypeId} {k:IntKind} {n:Int}:P.underlying t=some (.int k)->(Lit.int k n).wf=true->HasT P t [.int k n]
 | str {t:TypeId} {s:ByteArray}:P.underlying t=some .string->s.size<=maxLen->HasT P t [.str s.data.toList]
 | nils {t e:TypeId}:P.underlying t=some (.slice e)->HasT P t [.nils]
 | lst {t e:TypeId} {xs:List (List V)}:P.underlying t=some (.slice e)->xs.length<=maxLen->(∀ i,i<xs.length->HasT P e (xs.getD i []))->HasT P t [.lst 0 xs]
 | struct {t:TypeId} {fs:Array Field} (qa:List (List V)):P.underlying t=some (.struct fs)->qa.length=fs.size->(∀ i f,fs[i]?=some f->HasT P f.type (qa.getD i []))->HasT P t qa.flatten
 | array {t e:TypeId} {n:Nat} (qa:List (List V)):P.underlying t=some (.array n e)->qa.length=n->(∀ i,i<n->HasT P e (qa.getD i []))->HasT P t qa.flatten
mutual
def V.bulk:V->Nat
 | .str l=>l.length+1
 | .lst _ xs=>Cz xs+1
 | _=>1
def Cz:List (List V)->Nat
 | []=>0
 | r::rs=>C5 r+Cz rs
def C5:List V->Nat
 | []=>0
 | p::ps=>p.bulk+C5 ps
end
def Aiw(a b:List V):C5 (a++b)=C5 a+C5 b:=by
 induction a with
 | nil=>simp[C5]
 | cons x a ih=>grind[C5]
def Rm(P:Program):List Field->Nat->Nat->Bool
 | [],s,e=>s==e
 | f::fs,s,e=>f.offset==s&&Rm P fs (s+P.cellsOf f.type) e
def Bdi(P:Program)(ts:List TypeId):Bool:=ts.all fun t=>
 match P.underlying t with
 | some .bool | some (.int _) | some .string=>true
 | some (.slice e)=>ts.contains e&&decide (0<P.cellsOf e)
 | some (.struct fs)=>fs.toList.all (fun f=>ts.contains f.type)&&Rm P fs.toList 0 (P.cellsOf t)
 | some (.array n e)=>ts.contains e&&P.cellsOf t==n*P.cellsOf e
 | _=>false
def Arm{α β:Type}{f:α->Option β}:∀ {l:List α} {r:List β},l.mapM f=some r->r.length=l.length/\∀ i (hi:i<l.length),f l[i]=r[i]?
 | [],r,h=>by
  grind
 | a::l,r,h=>by
  rw[Lc]at h
  cases ha:f a with
  | none=>grind
  | some b=>
   cases hl:l.mapM f with
   | none=>grind
   | some r'=>
    simp[ha,hl]at h;subst h;obtain⟨h1,h2⟩:=Arm hl
    grind
structure RowAt {H:Type} (P:Program) (w:World) (t:TypeId) (cs:List Value) (d:DataW H) (qb:List V):Prop where
 len:qb.length=cs.length
 rep:∀ j,j<cs.length->RepR (I4 w) w (qb.getD j .und) (cs.getD j undef)
 typ:HasT P t qb
 bulk:C5 qb<=Rows.uptoBulk d
def Apw{H:Type}:∀ (xs:List (List V)) (ds:List (DataW H)),xs.length=ds.length->(∀ i,i<xs.length->∀ d,ds[i]?=some d->C5 (xs.getD i [])<=Rows.uptoBulk d)->Cz xs<=Rows.uptoBulkAll ds
 | [],ds,_,_=>by simp[Cz]
 | x::xs,[],h,_=>by simp at h
 | x::xs,d::ds,h,hb=>by
  have h0:=hb 0 AE d rfl;have:=Apw xs ds (by grind) (fun i hi d' hd=>by simpa using hb (i+1) (by grind) d' (by grind))
  grind[Cz,Rows.uptoBulkAll]
def Aqe{α:Type}(a b:List α)(i:Nat)(d:α)(h:i<a.length):(a++b).getD i d=a.getD i d:=by
 grind
def Awa{Q:Nat->List V->Prop}:∀ (n:Nat),(∀ i,i<n->∃ r,Q i r)->∃ xs:List (List V),xs.length=n/\∀ i,i<n->Q i (xs.getD i [])
 | 0,_=>⟨[],rfl,fun i hi=>absurd hi AA⟩
 | n+1,h=>by
  obtain⟨xs,hl,hx⟩:=Awa n (fun i hi=>h i AA);obtain⟨r,hr⟩:=h n AA;refine⟨xs++[r],by simp[hl],fun i hi=>?_⟩
  grind
def Aqf{H:Type}{P:Program}{w:World}{cs:List Value}{g:Field->Option (DataW H × List MemPlace)}:
  ∀ (fl:List Field) (s e:Nat) (xs:List (DataW H × List MemPlace)),Rm P fl s e=true->fl.mapM g=some xs->e<=cs.length ->
   (∀ f∈fl,∀ x,g f=some x->∃ qb,RowAt P w f.type ((cs.drop f.offset).take (P.cellsOf f.type)) x.1 qb) ->
   ∃ qa:List (List V),qa.length=fl.length/\s<=e/\qa.flatten.length=e - s/\(∀ i f,fl[i]?=some f->HasT P f.type (qa.getD i [])) /\
    (∀ j,j<e - s->RepR (I4 w) w (qa.flatten.getD j .und) (cs.getD (s+j) undef))/\C5 qa.flatten<=Rows.uptoBulkAll (xs.map (·.1))
 | [],s,e,xs,hc,hm,_,_=>by
  simp[Rm]at hc;simp at hm;subst hc hm;exact⟨[],rfl,Ak _,by simp,fun i f h=>by simp at h,fun j hj=>by omega,by simp[C5]⟩
 | f::fl,s,e,xs,hc,hm,he,hg=>by
  simp only[Rm,Ai,beq_iff_eq]at hc;rw[Lc]at hm
  cases hf:g f with
  | none=>grind
  | some x=>
   cases hl:fl.mapM g with
   | none=>grind
   | some r=>
    simp[hf,hl]at hm;subst hm;obtain⟨qa,h1,h2,h3,h4,h5,h6⟩:=Aqf fl _ e r hc.2 hl he (fun f' qV=>hg f' (Ci _ qV));obtain⟨qb,hp⟩:=hg f (B7) x hf
    have ql:qb.length=P.cellsOf f.type:=by
     rw[hp.len,Ip,Hi,hc.1];omega
    refine⟨qb::qa,by simp[h1],by omega,by grind,fun i f' hi=>?_,fun j hj=>?_,?_⟩
    .cases i with
     | zero=>simp at hi;subst hi;simpa using hp.typ
     | succ i=>grind
    .rw[Fg];by_cases qE:j<P.cellsOf f.type
     .rw[Aqe _ _ _ _ AA];have:=hp.rep j (by grind)
      grind
     grind
    .rw[Fg,Aiw,Az];simp only[Rows.uptoBulkAll];have:=hp.bulk;omega
def Arn{H:Type}{P:Program}{w:World}{cs:List Value}{e:TypeId}{g:Nat->Option (DataW H × List MemPlace)}(hg:∀ i x,g i=some x->∃ qb,RowAt P w e ((cs.drop (i*P.cellsOf e)).take (P.cellsOf e)) x.1 qb):
  ∀ (n s:Nat) (xs:List (DataW H × List MemPlace)),(List.range' s n).mapM g=some xs->(s+n)*P.cellsOf e<=cs.length ->
   ∃ qa:List (List V),qa.length=n/\qa.flatten.length=n*P.cellsOf e/\(∀ i,i<n->HasT P e (qa.getD i [])) /\
    (∀ j,j<n*P.cellsOf e->RepR (I4 w) w (qa.flatten.getD j .und) (cs.getD (s*P.cellsOf e+j) undef))/\C5 qa.flatten<=Rows.uptoBulkAll (xs.map (·.1))
 | 0,s,xs,hm,_=>by
  simp at hm;subst hm;exact⟨[],rfl,by simp,fun i hi=>by omega,fun j hj=>by omega,by simp[C5]⟩
 | n+1,s,xs,hm,hl=>by
  rw[List.range'_succ,Lc]at hm
  cases hf:g s with
  | none=>grind
  | some x=>
   cases hr:(List.range' (s+1) n).mapM g with
   | none=>grind
   | some r=>
    simp[hf,hr]at hm;subst hm;have el:(s+(n+1))*P.cellsOf e=s*P.cellsOf e+P.cellsOf e+n*P.cellsOf e:=by rw[Oo,Gy];omega
    have es:(s+1)*P.cellsOf e=s*P.cellsOf e+P.cellsOf e:=Gy ..;obtain⟨qa,h1,h3,h4,h5,h6⟩:=Arn hg n (s+1) r hr (by grind);obtain⟨qb,hp⟩:=hg s x hf
    have ql:qb.length=P.cellsOf e:=by
     rw[hp.len,Ip,Hi];omega
    have en:(n+1)*P.cellsOf e=n*P.cellsOf e+P.cellsOf e:=Gy ..;refine⟨qb::qa,by simp[h1],by grind,fun i hi=>?_,fun j hj=>?_,?_⟩
    .cases i with
     | zero=>simpa using hp.typ
     | succ i=>grind
    .rw[Fg];by_cases qE:j<P.cellsOf e
     .rw[Aqe _ _ _ _ AA];have:=hp.rep j (by grind)
      grind
     grind
    .rw[Fg,Aiw,Az];simp only[Rows.uptoBulkAll];have:=hp.bulk;omega
def Bdj(a:Addr)(n m:Nat)(h:a.spot=none):(a.add n).add m=⟨a.block,a.off+n+m,none⟩:=by
 unfold Addr.add
 split<;>split<;>simp_all<;>(cases a;simp_all)
def Xj{H:Type}(qq:TypeId × Value->H)(P:Program)(w:World)(qc:Nat->Bool)(qf:Bool)(ts:List TypeId)(qw:Bdi P ts=true):
  ∀ (fuel:Nat) (t:TypeId) (cs:List Value) (d:DataW H) (ps:List MemPlace),t∈ts->DataW.trod qq P w 0 qc qf fuel t cs=some (d,ps)->∃ qb,RowAt P w t cs d qb
 | 0,_,_,_,_,_,h=>by simp_all [DataW.trod]
 | fuel+1,t,cs,d,ps,ht,h=>by
  have hp:=Bw.1 qw t ht;simp only[DataW.trod]at h
  split at h
  .rename_i b hu;simp at h;obtain⟨rfl,_⟩:=h
   exact⟨[.bool b],rfl,(fun j hj=>by
    obtain rfl:j=0:=by grind
    exact .bool),.bool hu,by simp[C5,V.bulk,Rows.uptoBulk]⟩
  .rename_i k k' n hu
   split at h
   .rename_i hk;simp at h;obtain⟨rfl,_⟩:=h;obtain⟨rfl,jh⟩:=hk
    exact⟨[.int k' n],rfl,(fun j hj=>by
    obtain rfl:j=0:=by grind
    exact .int),.int hu jh,by simp[C5,V.bulk,Rows.uptoBulk]⟩
   grind
  .grind
  .rename_i s hu
   split at h
   .rename_i hs;simp at h;obtain⟨rfl,_⟩:=h;have qj:s.data.toList.length=s.size:=by rw[Array.length_toList];rfl
    exact⟨[.str s.data.toList],rfl,(fun j hj=>by
     obtain rfl:j=0:=by grind
     have hh:RepR (I4 w) w (.str s.data.toList) (.string ⟨s.data.toList.toArray⟩):=.str AA
     simp_all),.str hu hs,by simp[C5,V.bulk,Rows.uptoBulk]⟩
   grind
  .grind
  .grind
  .rename_i e hu;simp at h;obtain⟨rfl,_⟩:=h
   exact⟨[.nils],rfl,(fun j hj=>by
    obtain rfl:j=0:=by grind
    exact .nils),.nils hu,by simp[C5,V.bulk,Rows.uptoBulk]⟩
  .rename_i e a len cap hu;rw[hu]at hp;simp only[Ai,decide_eq_true_eq,Ada]at hp
   split at h
   .rename_i hc;obtain⟨_,jv,qU⟩:=hc
    cases hm:(List.range len).mapM (fun i=>(w.cells? 0 (a.add (i*P.cellsOf e)) (P.cellsOf e)).bind (DataW.trod qq P w 0 qc qf fuel e)) with
    | none=>grind
    | some elems=>
     simp only[hm,C8,Ck]at h;obtain⟨jl,_,h⟩:=h;simp at h;obtain⟨rfl,_⟩:=h;obtain⟨hl,qJ⟩:=Arm hm;simp only[List.length_range]at hl qJ
     have jk:∀ i,i<len->∃ r,(∃ cs' x,(∀ j,j<P.cellsOf e->w.cell? ((a.add (i*P.cellsOf e)).add j)=some (cs'.getD j undef))/\elems[i]?=some x/\cs'.length=P.cellsOf e/\RowAt P w e cs' x.1 r):=by
      intro i hi;have h1:=qJ i AA;simp only[List.getElem_range]at h1;have qg:i<elems.length:=by omega
      cases qh:w.cells? 0 (a.add (i*P.cellsOf e)) (P.cellsOf e) with
      | none=>grind
      | some cs'=>
       obtain⟨_,qs,jp⟩:=World.cells?_some qh;rw[qh,C8,Ca qg]at h1;obtain⟨r,hr⟩:=Xj qq P w qc qf ts qw fuel e cs' _ _ hp.1 h1
       grind
     obtain⟨xs,ji,hx⟩:=Awa len jk
     have qO:0<len->a.spot=none:=fun h0=>by
      grind[World.cell?_spot,Addr.add]
     have qe:∀ i j,i<len->j<P.cellsOf e->∃ v,w.cell? ⟨a.block,a.off+i*P.cellsOf e+j,none⟩=some v/\RepR (I4 w) w ((xs.getD i []).getD j .und) v:=by
      intro i j hi hj;obtain⟨cs',x,hc,_,qs,hr⟩:=hx i hi;have h1:=hc j hj;rw[Bdj _ _ _ (qO AA)]at h1;exact⟨_,h1,hr.rep j AA⟩
     refine⟨[.lst 0 xs],rfl,fun j hj=>?_,.lst hu AA (fun i hi=>?_),?_⟩
     .obtain rfl:j=0:=by grind
      show RepR (I4 w) w (.lst 0 xs) (.slice (some a) len cap);rw[<-ji];refine .lst (m:=P.cellsOf e) (fun i j=>(w.cell? ⟨a.block,a.off+i*P.cellsOf e+j,none⟩).getD undef) (fun h=>by omega) AA qU (fun h0=>⟨qO AA,?_⟩) (fun i hi=>?_) (fun i j hi hj=>?_) (fun i j hi hj=>?_)
      .obtain⟨v,hv,_⟩:=qe (xs.length - 1) (P.cellsOf e - 1) AA AA;obtain⟨k,hk,qg⟩:=A2v hv;refine⟨k,hk,?_⟩
       have:(xs.length - 1)*P.cellsOf e+P.cellsOf e=xs.length*P.cellsOf e:=by
        rw[<-Gy];congr 1;omega
       omega
      .obtain⟨cs',x,_,_,qs,hr⟩:=hx i AA;rw[hr.len,qs]
      .grind
      grind
     .obtain⟨_,_,_,_,_,hr⟩:=hx i AA;exact hr.typ
     .simp only[C5,V.bulk,Rows.uptoBulk]
      have:=Apw xs (elems.map (·.1)) (by grind) (fun i hi d' hd=>by
       obtain⟨_,x,_,he,_,hr⟩:=hx i AA;simp[he]at hd;subst hd
       exact hr.bulk)
      omega
   grind
  .rename_i fs hu;rw[hu]at hp;simp only[Ai,Bw,Ada]at hp
   split at h
   .rename_i qs;simp only[Ck]at h;obtain⟨xs,hm,h⟩:=h;simp at h;obtain⟨rfl,_⟩:=h;obtain⟨qa,h1,h2,h3,h4,h5,h6⟩:=Aqf (P:=P) (w:=w) (cs:=_) fs.toList 0 _ xs hp.2 hm AA (fun f hf x hx=>Xj qq P w qc qf ts qw fuel f.type _ x.1 x.2 (hp.1 f hf) hx);refine⟨qa.flatten,by omega,fun j hj=>by grind,.struct qa hu AA (fun i f hf=>h4 i f (by grind)),?_⟩
    grind[Rows.uptoBulk]
   grind
  .rename_i n e hu;rw[hu]at hp;simp only[Ai,beq_iff_eq,Ada]at hp
   split at h
   .rename_i qs;simp only[Ck]at h;obtain⟨xs,hm,h⟩:=h;simp at h;obtain⟨rfl,_⟩:=h;rw[List.range_eq_range']at hm;obtain⟨qa,h1,h3,h4,h5,h6⟩:=Arn (P:=P) (w:=w) (e:=e) (cs:=_) (fun i x hx=>Xj qq P w qc qf ts qw fuel e _ x.1 x.2 hp.1 hx) n 0 xs hm (by grind);refine⟨qa.flatten,by omega,fun j hj=>by grind,.array qa hu h1 h4,?_⟩
    grind[Rows.uptoBulk]
   grind
  all_goals grind
section
open Go.RowKit
variable {P:Program} {G:List (Nat × List V)} {T:Nat->Option AF} {pr:Nat->Option (List V->Option V)}
def Ahu:V->Bool
 | .bool _ | .int _ _ | .str _=>true
 | _=>false
theorem A5c{κ:Ez}{w:World}{v:V}{u:Value}(h:O8 v u=true)(hf:Ahu v=true):RepR κ w v u:=by
 have h':RepC ⟨κ,[]⟩ w v u:=Ad1 h
 cases h' with
 | row h=>exact h
 | _=>cases hf
def Aps:∀ {vs:List V} {us:List Value},Ir vs us=true->vs.length=us.length/\∀ j,j<vs.length->O8 (vs.getD j .und) (us.getD j undef)=true
 | [],[],_=>⟨rfl,fun j hj=>absurd hj AE⟩
 | v::vs,u::us,h=>by
  simp only[Ir,Ai]at h;obtain⟨h1,h2⟩:=Aps h.2
  grind
def Ym(v:V)(u:Value):Prop:=(O8 v u=true/\Ahu v=true)\/(v=.ifc/\∃ t p,u=.iface t p)
def A5d{κ:Ez}{w:World}{v:V}{u:Value}(h:Ym v u):RepR κ w v u:=by
 rcases h with⟨h1,h2⟩ | ⟨rfl,t,p,rfl⟩
 .grind[A5c]
 .exact .ifc
theorem A25{r:List V}{us:List Value}(h:Ir r us=true)(hf:r.all Ahu=true):r.length=us.length/\∀ j,j<r.length->Ym (r.getD j .und) (us.getD j undef):=by
 obtain⟨h1,h2⟩:=Aps h;exact⟨h1,fun j hj=>.inl ⟨h2 j hj,Bw.1 hf _ (by grind)⟩⟩
def Aot(G:List (Nat × List V))(w:World):Prop:=∀ g r,(g,r)∈G->∃ us e fz,w.heap[g]?=some (.cells us e fz)/\r.length=us.toList.length/\∀ j,j<r.length->Ym (r.getD j .und) (us.toList.getD j undef)
def Brg{w:World}(h:Aot G w):Inv G w.heap.size ⟨I4 w,[]⟩ [] w where
 base:=Ak _
 len:=rfl
 nd:=Zo
 low:=fun i p h=>by simp at h
 obj:=fun i ob p h=>by simp at h
 dom:=fun b k hk=>by
  grind[I4]
 glob:=fun g r hg=>by
  obtain⟨us,e,fz,hh,hl,hj⟩:=h g r hg;have hk:I4 w g=some us.size:=by unfold I4;rw[hh]
  have:=RepC.imm (γ:=⟨I4 w,[]⟩) (w:=w) (r:=r) (off:=0) (b:=g) (o:=0) (k:=us.size) (fun j=>us.toList.getD j undef) hk (by grind) (fun j qK=>by
    grind[World.cell?]) (fun j qK=>A5d (hj j qK))
  omega
 gsz:=fun g r hg=>by
  obtain⟨us,e,fz,hh,hl,hj⟩:=h g r hg
  grind[El]
def A5e{σ:St}{v:V}{b:Bool}(h:Eg σ v=some (.bool b)):v=.bool b:=by
 unfold Eg J4 at h
 split at h
 .simp_all
 .unfold Gl at h
  split at h
  .cases h
  .simp_all
  .unfold Fc at h
   grind[Option.map_eq_some_iff]
def A5f(hT:∀ f F,T f=some F->F.spec=none->Sh P G f F=true)(hS:∀ f F s,T f=some F->F.spec=some s->Rr P G f s)(jc:∀ f s,pr f=some s->Iu P G f s){f:Nat}{vs:List V}{us:List Value}{w:World}(hf:Fn T pr f vs (.bool true))(hg:Aot G w)(hl:vs.length=us.length)
  (hr:∀ j,j<vs.length->RepV ⟨I4 w,[]⟩ w (vs.getD j .und) (us.getD j undef)):Calls P f us.toArray w fun e w'=>e=.returned (.bool true)/\Below w.heap.size w w':=by
 obtain⟨F,h1,h2,h3,v0,σ0,hE,hv⟩:=hf;have jg:=A5e hv;subst jg;refine(Az4 hT hS jc hE us w ⟨I4 w,[]⟩ w.heap.size hl hr (Brg hg)).mono ?_;rintro _ w' ⟨u,γ',rfl,hu,_,_,hb,_⟩;exact⟨by rw[Py (Ba rfl hu)],hb⟩
def Atd{H:Type}{w:World}{t:TypeId}{v:Value}{d:DataW H}{qb:List V}(h:RowAt P w t v.cells.toList d qb)(hv:v.cells=#[v]):∃ p,qb=[p]/\RepV ⟨I4 w,[]⟩ w p v:=by
 have hl:=h.len;rw[hv]at hl;obtain⟨p,rfl⟩:=List.length_eq_one_iff.1 (show qb.length=1 by omega);have:=h.rep 0 (by grind);rw[hv]at this;exact⟨p,rfl,C0 (.row (by grind))⟩
def Bdk{H:Type}{w:World}{t:TypeId}{cs:Array Value}{d:DataW H}{qb:List V}(h:RowAt P w t (Value.agg cs).cells.toList d qb):RepV ⟨I4 w,[]⟩ w (.agg qb) (.agg cs):=by
 have h1:qb.length=cs.toList.length:=h.len;have:=Rep1.agg (γ:=⟨I4 w,[]⟩) (w:=w) (cs:=qb) (us:=cs.toList) h1 (fun j hj=>.row (h.rep j (by rw[<-h.len];exact hj)));exact .one AA
end
open Go Go.RowKit Go.Shelf
def A2w(w:World)(g n b:Nat)(h:b≠g):(w.freeze ⟨g,0,none⟩ n).heap[b]?=w.heap[b]?:=by
 unfold World.freeze
 grind
def A26(w:World)(g n:Nat){qk:Array Value}{e:TypeId}{lo hi:Nat}(h:w.heap[g]?=some (.cells qk e (lo,hi))):∃ qP qp,(w.freeze ⟨g,0,none⟩ n).heap[g]?=some (.cells qk e (qP,qp))/\qp<=max hi n:=by
 unfold World.freeze
 grind
section
variable {P:Program} {ρ:Ren}
set_option maxHeartbeats 1000000 in
set_option maxRecDepth 100000 in
def A3u(L:Lays.n169 P ρ)(X:Builder.Extra P ρ)(b g cap:Nat)(qk:Array Value)(fz:Nat × Nat)(l:List UInt8)(w:World)(h0:l≠[])(qy:w.cell? ⟨b,1,none⟩=some (.slice (some ⟨g,0,none⟩) l.length cap))
  (hg:w.heap[g]?=some (.cells qk (ρ.t 5) fz)) (jw:l.length<=cap) (qh:l.length<=qk.size) (hm:l.length<=9223372036854775807) (qe:∀ j x,l[j]?=some x->w.cell? ((⟨g,0,none⟩:Addr).add j)=some (.int .u8 x.toNat)) :
  Calls P (ρ.f 169) #[.pointer (some ⟨b,0,none⟩)] w fun e w'=>e=.returned (.string ⟨l.toArray⟩)/\w'=w.drew.freeze ⟨g,0,none⟩ l.length:=by
 have ju:l.length≠0:=by simpa using h0
 have c1:w.drew.cell? ⟨b,1,none⟩=some (.slice (some ⟨g,0,none⟩) l.length cap):=qy
 have qR:(Builtin.unsafeSliceData_ #[(ρ.t 37)] (ρ.t 127) #[.slice (some ⟨g,0,none⟩) l.length cap]).run P w.drew=.ok (.pointer (some ⟨g,0,none⟩)) w.drew:=
  Lib.run_unsafeSliceData_row _ _ _ _ _ _ AA
 have qS:(Builtin.unsafeString_ #[(ρ.t 127),(ρ.t 3)] (ρ.t 9) #[.pointer (some ⟨g,0,none⟩),.int .i64 l.length]).run P w.drew=.ok (.string ⟨l.toArray⟩) (w.drew.freeze ⟨g,0,none⟩ l.length):=
  Lib.run_unsafeString_row w.drew (ρ.t 127) (ρ.t 3) (ρ.t 9) (ρ.t 5) L.t127 X.cellsByte g qk.size (by have jt:w.drew.heap[g]?=some (.cells qk (ρ.t 5) fz):=hg;grind[World.shape?]) l h0 qh hm qe
 have mixed:=L.mixed;have t72:=L.t72;have a72:=L.a72;have z72:=L.z72;have v72:=L.v72;have jo:=run_underlying L.t72;have t70:=L.t70;have a70:=L.a70;have z70:=L.z70;have v70:=L.v70;have jn:=run_underlying L.t70;have t37:=L.t37;have a37:=L.a37;have z37:=L.z37;have v37:=L.v37;have jm:=run_underlying L.t37;have t127:=L.t127;have a127:=L.a127;have z127:=L.z127;have v127:=L.v127;have qG:=run_underlying L.t127;have t3:=L.t3;have a3:=L.a3;have z3:=L.z3;have v3:=L.v3;have u3:=run_underlying L.t3;have t9:=L.t9;have a9:=L.a9;have z9:=L.z9;have v9:=L.v9;have u9:=run_underlying L.t9;have t5:=X.t5;have a5:=X.a5;have z5:=X.z5;have v5:=X.v5;have u5:=run_underlying X.t5
 go_enter L.f169,Body.n169_ntmps ρ
 go_wp2
 go_region_o
 all_goals (go_wp2;go_ret;simp_all)
set_option maxHeartbeats 1000000 in
set_option maxRecDepth 100000 in
def A3v(L:Lays.n169 P ρ)(X:Builder.Extra P ρ)(b:Nat)(w:World)(qy:w.cell? ⟨b,1,none⟩=some (.slice none 0 0)):
  Calls P (ρ.f 169) #[.pointer (some ⟨b,0,none⟩)] w fun e w'=>e=.returned (.string ⟨#[]⟩)/\w'=w.drew:=by
 have qS:=Any.unsafeString_none L X;have c1:w.drew.cell? ⟨b,1,none⟩=some (.slice none 0 0):=qy;have qR:(Builtin.unsafeSliceData_ #[(ρ.t 37)] (ρ.t 127) #[.slice none 0 0]).run P w.drew=.ok (.pointer none) w.drew:=rfl;have mixed:=L.mixed;have t72:=L.t72;have a72:=L.a72;have z72:=L.z72;have v72:=L.v72;have jo:=run_underlying L.t72;have t70:=L.t70;have a70:=L.a70;have z70:=L.z70;have v70:=L.v70;have jn:=run_underlying L.t70;have t37:=L.t37;have a37:=L.a37;have z37:=L.z37;have v37:=L.v37;have jm:=run_underlying L.t37;have t127:=L.t127;have a127:=L.a127;have z127:=L.z127;have v127:=L.v127;have qG:=run_underlying L.t127;have t3:=L.t3;have a3:=L.a3;have z3:=L.z3;have v3:=L.v3;have u3:=run_underlying L.t3;have t9:=L.t9;have a9:=L.a9;have z9:=L.z9;have v9:=L.v9;have u9:=run_underlying L.t9;have t5:=X.t5;have a5:=X.a5;have z5:=X.z5;have v5:=X.v5;have u5:=run_underlying X.t5
 go_enter L.f169,Body.n169_ntmps ρ
 go_wp2
 go_region_o
 all_goals (go_wp2;go_ret;exact⟨rfl,rfl⟩)
end
def A27(w:World)(b:Nat)(us:Array Value)(e:TypeId)(u:Value){fz:Nat × Nat}(h:w.heap[b]?=some (.cells us e fz)):w.setCell ⟨b,0,none⟩ u=w.setRow b (us.setIfInBounds 0 u):=by
 unfold World.setCell World.setRow;congr 1
 grind
def Apx:∀ {xs:List (List V)} {l:List UInt8},Vg xs=some l->l.length=xs.length/\∀ (j:Nat) x,l[j]?=some x->xs.getD j []=[.int .u8 (x.toNat:Int)]
 | [],l,h=>by
  simp[Vg]at h
  grind
 | r::xs,l,h=>by
  unfold Vg at h
  split at h
  .grind
  .rename_i n r' e;injection e with e1 e2;subst e1 e2
   split at h
   .rename_i hn;simp only[Ck]at h;obtain⟨l',h,rfl⟩:=h;obtain⟨g1,g2⟩:=Apx h
    grind[UInt8.toNat_ofNat']
   grind
  grind
/-! copyCheck -/
def Alj:Tryz.prog.underlying 216=some (.pointer 218):=by kernel_rfl
def Ate:(Tryz.prog.info? 218).map (·.size)=some 2:=by kernel_rfl
theorem Aro:Tryz.prog.cellsOf 218=2:=by kernel_rfl
def A8k:sameLayout Tryz.prog Tryz.prog.depth 218 218=true:=by kernel_rfl
def A5g:∃ d,Tryz.prog.depth=d+1:=⟨Tryz.prog.depth - 1,by kernel_rfl⟩
theorem A8l(n:Nat)(hn:1<=n):liesAt Tryz.prog Tryz.prog.depth 218 n 0 218 1=true:=by
 obtain⟨d,hd⟩:=A5g
 have hr:rowAt Tryz.prog (sameLayout Tryz.prog Tryz.prog.depth · 218) Tryz.prog.depth 218 n 0 1=true:=by
  have:=A8k;generalize hf:(fun x=>sameLayout Tryz.prog Tryz.prog.depth x 218)=f;have qW:f 218=true:=by rw[<-hf];exact this
  rw[hd];unfold rowAt;simp[Aro,qW,hn]
 grind[liesAt]
def Aqg:Tryz.prog.underlying 280=some .unsafePointer:=by kernel_rfl
set_option maxHeartbeats 1000000 in
set_option maxRecDepth 100000 in
def Bdl(b:Nat)(w:World)(h0:w.cell? ⟨b,0,none⟩=some (.pointer (some ⟨b,0,none⟩))):
  Calls Tryz.prog 212 #[.pointer (some ⟨b,0,none⟩)] w fun e w'=>e=.returned (.tuple #[])/\w'=w:=by
 obtain⟨j,hj,_⟩:=Ck.1 Ate
 go_enter Tryz.func212,Tryz.ntmps212
 go_wp2
 rw[Lib.run_neq_ptr_same w _ Alj hj]
 go_wp2
 go_end0
 grind
set_option maxHeartbeats 1000000 in
set_option maxRecDepth 100000 in
def A8m(b:Nat)(w:World)(h0:w.cell? ⟨b,0,none⟩=some (.pointer none))(n:Nat)(hn:2<=n)(qN:w.shape? b=some (218,n))(js:w.frozen? ⟨b,0,none⟩=false):
  Calls Tryz.prog 212 #[.pointer (some ⟨b,0,none⟩)] w fun e w'=>e=.returned (.tuple #[])/\w'=w.setCell ⟨b,0,none⟩ (.pointer (some ⟨b,0,none⟩)):=by
 obtain⟨j,hj,qL⟩:=Ck.1 Ate
 go_enter Tryz.func212,Tryz.ntmps212
 go_wp2
 rw[Lib.run_to_unsafe w ⟨b,0,none⟩ Alj Aqg hj AA qN (by grind)];simp only[Result.andThen];rw[Oper.upon_value]
 go_wp2
 rw[run_callFunc_extern Tryz.func226 AD AD AD (e:=Extern.AbiNoEscape.same) AD];rw[Lib.run_noEscape];simp only[Result.andThen];rw[Oper.upon_value]
 go_wp2
 rw[Lib.run_from_unsafe w ⟨b,0,none⟩ Aqg Alj hj qN (by grind[Aro,A8l])];simp only[Result.andThen];rw[Oper.upon_value]
 go_wp2
 go_end0
 grind
/-! what they do -/
def Y7(tB:Nat):List V->St->Option (V × St)
 | [.ptr b g 0],σ=>match σ[b]? with
  | some (.row [.nilp,x] e g' 0)=>if g=g'/\e=tB then some (.tup [],σ.set b (.row [.ptr b g 0,x] e g 0)) else none
  | some (.row [.ptr b' g2 0,_] _ g' _)=>if g=g'/\b'=b/\g2=g then some (.tup [],σ) else none
  | _=>none
 | _,_=>none
def Wh(tB tE:Nat):List V->St->Option (V × St)
 | [.ptr b g 0],σ=>match σ[b]? with
  | some (.row [_,.nils] e g' _)=>if g=g'/\e=tB then some (.str [],σ) else none
  | some (.row [_,.sl i gi 0 len 1 _] e g' _)=>if g=g'/\e=tB/\0<len then(match σ[i]? with
   | some (.row cs e' qH _)=>if gi=qH/\e'=tE/\len<=cs.length then(Vg (Fe 1 len cs)).map fun l=>(.str l,σ.set i .dead) else none
   | _=>none) else none
  | _=>none
 | _,_=>none
section
variable {G:List (Nat × List V)} {N:Nat} {γ:Gh} {σ:St} {w:World}
def Inv.kill(h:Inv G N γ σ w){i k:Nat}{p:Nat × Nat}{cs:List V}{e g z:Nat}(hp:γ.O[i]?=some p)(ho:σ[i]?=some (.row cs e g z)):
  Inv G N γ (σ.set i .dead) (w.freeze ⟨p.1,0,none⟩ k)/\Ext γ w γ (w.freeze ⟨p.1,0,none⟩ k)/\Below N w (w.freeze ⟨p.1,0,none⟩ k):=by
 obtain⟨q,hq,h1,h2,h3,us,lo,hi,h4,h5,h6,h7⟩:=h.of ho;rw[hp]at hq;injection hq with hq;subst hq;obtain⟨qP,qp,f1,f2⟩:=A26 w p.1 k h4
 have qj:(w.freeze ⟨p.1,0,none⟩ k).heap.size=w.heap.size:=by unfold World.freeze;split<;>simp
 have hs:El (w.freeze ⟨p.1,0,none⟩ k) p.1=El w p.1:=by simp[El,f1,h4]
 have:=h.turn (w':=w.freeze ⟨p.1,0,none⟩ k) (p':=p) (ob':=.dead) (κ':=γ.κ) hp AA (fun b _ hb=>A2w w p.1 k b hb) (fun _ _ _=>rfl) (fun b k hk=>by rw[qj];exact h.dom b k hk) (fun z' hz=>⟨z',hz,Ak _,fun o _=>by grind[World.cell?]⟩) (Ak _) (fun _=>⟨rfl,hs⟩) (.inl rfl) (fun _=>by show p.1<_;grind);rw[M4 hp]at this;exact⟨this.1,this.2,Lib.below_freeze (Below.refl N w) (p:=⟨p.1,0,none⟩) (h.low i p hp) k⟩
end
def Bnz{G:List (Nat × List V)}:Rr Tryz.prog G 212 (Y7 218):=by
 refine⟨⟨Tryz.f212,_,by kernel_rfl,rfl,by decide⟩,fun args σ v σ' h us w γ N hl ha hI=>?_⟩;unfold Y7 at h
 split at h
 .rename_i b g
  match us,hl with
  | [u],_=>
  have hu:=ha 0 AE;obtain⟨b1,blk,g1,qn,hB,qv,qr⟩:=P4 (Ba rfl hu);have qn:u=.pointer (some ⟨b1,0,none⟩):=qn;subst qn
  split at h
  .rename_i x e g' hb
   split at h
   .rename_i qm;cases h;obtain⟨rfl,rfl⟩:=qm;obtain⟨p,hp,q1,q2,q3,us,lo,hi,q4,q5,q6,q7⟩:=hI.of hb;rw[hB]at hp;cases hp;have q1:g1=g:=q1;subst q1;obtain rfl:=qr rfl;have q4:w.heap[b1]?=some (.cells us 218 (lo,hi)):=q4;have q6:2<=us.size:=q6;have c0:us.getD 0 undef=.pointer none:=Va (q7 0 AE);have c1:=q7 1 AE
    have qz:w.cell? ⟨b1,0,none⟩=some (.pointer none):=by
     simp[World.cell?,q4];have:us.getD 0 undef=us[0]:=by simp[Array.getD,show 0<us.size by omega]
     rw[<-c0,this];simp
    refine(A8m b1 w qz us.size q6 (by grind[World.shape?]) (by
     grind[World.frozen?])).mono ?_
    rintro e w' ⟨rfl,rfl⟩;rw[A27 w b1 us _ _ q4]
    obtain⟨i1,i2⟩:=hI.write (g':=g1) (us':=us.setIfInBounds 0 (.pointer (some ⟨b1,0,none⟩))) (cs':=[.ptr b g1 0,x]) hB hb q4 q5 (Ak _) (Ax _) AE q6 (fun o ho=>by omega) (fun j hj=>by
     match j,hj with
     | 0,_=>
      have:(us.setIfInBounds 0 (.pointer (some ⟨b1,0,none⟩))).getD 0 undef=.pointer (some ⟨b1,0,none⟩):=by simp[Array.getD_eq_getD_getElem?,show 0<us.size by omega]
      rw[this];exact .ptr hB (Ak _) (fun _=>rfl)
     | 1,_=>
      have:(us.setIfInBounds 0 (.pointer (some ⟨b1,0,none⟩))).getD 1 undef=us.getD 1 undef:=by simp[Array.getD_eq_getD_getElem?,Array.getElem?_setIfInBounds]
      grind)
    exact⟨_,_,rfl,.tup rfl (fun j hj=>by grind),i1,i2,Adq _ (hI.low _ _ hB),fun _ _=>rfl⟩
   grind
  .rename_i b' g2 x e g' z hb
   split at h
   .rename_i qm;cases h;obtain⟨rfl,rfl,rfl⟩:=qm;obtain⟨p,hp,q1,q2,q3,us,lo,hi,q4,q5,q6,q7⟩:=hI.of hb;rw[hB]at hp;cases hp;have q1:g1=g2:=q1;subst q1;obtain rfl:=qr rfl;have q4:w.heap[b1]?=some (.cells us e (lo,hi)):=q4;have q6:2<=us.size:=q6;obtain⟨b2,qQ,g3,c0,qI,_,qx⟩:=P4 (q7 0 AE);rw[hB]at qI;cases qI;obtain rfl:=qx rfl
    have qz:w.cell? ⟨b2,0,none⟩=some (.pointer (some ⟨b2,0,none⟩)):=by
     simp[World.cell?,q4];have:us.getD 0 undef=us[0]:=by simp[Array.getD,show 0<us.size by omega]
     rw[<-c0,this];simp
    refine(Bdl b2 w qz).mono ?_;rintro e w' ⟨rfl,rfl⟩;exact⟨_,γ,rfl,.tup rfl (fun j hj=>by grind),hI,Ext.refl _ _,Below.refl _ _,fun _ _=>rfl⟩
   grind
  grind
 grind
def Bi4{G:List (Nat × List V)}:Rr Tryz.prog G 162 (Wh 218 5):=by
 refine⟨⟨Tryz.f162,_,by kernel_rfl,rfl,by decide⟩,fun args σ v σ' h us w γ N hl ha hI=>?_⟩;unfold Wh at h
 split at h
 .rename_i b g
  match us,hl with
  | [u],_=>
  have hu:=ha 0 AE;obtain⟨b1,blk,g1,qn,hB,qv,qr⟩:=P4 (Ba rfl hu);have qn:u=.pointer (some ⟨b1,0,none⟩):=qn;subst qn
  split at h
  .rename_i x e g' z hb
   split at h
   .rename_i qm;cases h;obtain⟨rfl,rfl⟩:=qm;obtain⟨p,hp,q1,q2,q3,us,lo,hi,q4,q5,q6,q7⟩:=hI.of hb;rw[hB]at hp;cases hp;have q1:g1=g:=q1;subst q1;obtain rfl:=qr rfl;have q4:w.heap[b1]?=some (.cells us 218 (lo,hi)):=q4;have q6:2<=us.size:=q6;have c1:us.getD 1 undef=.slice none 0 0:=Ma (q7 1 AE)
    have qo:w.cell? ⟨b1,1,none⟩=some (.slice none 0 0):=by
     simp[World.cell?,q4];have:us.getD 1 undef=us[1]:=by simp[Array.getD,show 1<us.size by omega]
     rw[<-c1,this];simp
    refine(A3v Tryz.lays169 Tryz.Builder_Extra_169 b1 w qo).mono ?_;rintro e w' ⟨rfl,rfl⟩;obtain⟨d1,d2⟩:=hI.drew;exact⟨_,γ,rfl,C0 (.row (.str (by grind))),d1,d2,(Below.refl N w).drew,fun _ _=>rfl⟩
   grind
  .rename_i x i gi len own e g' z hb
   split at h
   .rename_i qm;obtain⟨rfl,rfl,jb⟩:=qm
    split at h
    .rename_i cs e' qH zi qp
     split at h
     .rename_i hc;obtain⟨rfl,rfl,ql⟩:=hc;simp only[Ck]at h;obtain⟨l,jd,h⟩:=h;cases h;obtain⟨p,hp,q1,q2,q3,us,lo,hi,q4,q5,q6,q7⟩:=hI.of hb;rw[hB]at hp;cases hp;have q1:g1=g:=q1;subst q1;obtain rfl:=qr rfl;have q4:w.heap[b1]?=some (.cells us 218 (lo,hi)):=q4;have q6:2<=us.size:=q6;obtain⟨bb,oo,cap,bk,gk,c1,k1,k2,k3,k4,k5,k6⟩:=Xq (q7 1 AE);have c1:us.getD 1 undef=.slice (some ⟨bb,oo,none⟩) len cap:=c1;obtain⟨p,hp,r1,r2,r3,vs,L5,qu,r4,r5,r6,r7⟩:=hI.of qp;rw[k1]at hp;cases hp;have r1:gk=gi:=r1;subst r1;obtain⟨rfl,_⟩:=k6 rfl;obtain rfl:=k5 AA;have r4:w.heap[bb]?=some (.cells vs 5 (L5,qu)):=r4;obtain⟨n1,n2⟩:=Apx jd;have qM:l.length=len:=by rw[n1];simp[Aau]
      have qo:w.cell? ⟨b1,1,none⟩=some (.slice (some ⟨bb,0,none⟩) l.length cap):=by
       rw[qM];simp[World.cell?,q4];have:us.getD 1 undef=us[1]:=by simp only[Array.getD];rw[dif_pos (show 1<us.size by omega)];rfl
       rw[<-c1,this];simp
      refine(A3u Tryz.lays169 Tryz.Builder_Extra_169 b1 bb cap vs (L5,qu) l w (by grind) qo r4 AA AA (by grind[maxLen]) (fun j x hj=>?_)).mono ?_
      .have qE:j<len:=by rw[<-qM];exact(Al.1 hj).1
       have a1:=n2 j x hj;have a2:=r7 j AA
       have qT:cs.getD j .und=.int .u8 (x.toNat:Int):=by
        rw[Aau]at a1;have qD:j<cs.length:=by omega
        simp[D3,qE,qD]at a1;rw[D3,Ca qD];rw[List.take_one]at a1;simpa[qD] using a1
       rw[qT]at a2;have a3:=Eu a2;rw[M5];have qL:j<vs.size:=by omega
       have:vs.getD j undef=vs[j]:=by simp[Array.getD,qL]
       grind[World.cell?]
      .rintro e w' ⟨rfl,rfl⟩;obtain⟨d1,d2⟩:=hI.drew;obtain⟨f1,f2,f3⟩:=d1.kill (k:=l.length) k1 qp;exact⟨_,γ,rfl,C0 (.row (.str AA)),f1,d2.trans f2,((Below.refl N w).drew).trans f3,fun _ _=>rfl⟩
     grind
    grind
   grind
  grind
 grind
open Go Go.RowKit Go.Sort
def gPow:List V:=Lib.pow10Tab.map fun z=>.int .u64 z
variable {G:List (Nat × List V)}
def A8n:Tryz.prog.globalNamed "internal/strconv.uint64pow10"=some 2:=by kernel_rfl
def Ayi{κ:Ez}{w:World}(h:∀ g r,(g,r)∈G->RepC ⟨κ,[]⟩ w (.imm r 0) (.pointer (some ⟨g,0,none⟩)))(hs:∀ g r,(g,r)∈G->El w g=some r.length)(qd:(2,gPow)∈G):
  Lib.TabIs Tryz.prog w "internal/strconv.uint64pow10" .u64 Lib.pow10Tab:=by
 have h1:=h _ _ qd;have h2:=hs _ _ qd;obtain⟨b,o,k,row,hu,h3,h4,h5,h6⟩:=Np h1;simp at hu;obtain⟨rfl,rfl⟩:=hu;unfold El at h2
 split at h2
 .rename_i cs e fz hh;simp only[Adj]at h2;unfold Lib.TabIs World.var?;rw[A8n];simp only[C8,hh];congr 1;apply Array.ext
  .grind[gPow]
  .intro i qZ qu;have qg:i<gPow.length:=by omega
   have a1:=h5 i qg;have a2:=h6 i qg;have ja:i<Lib.pow10Tab.length:=by simpa[gPow] using qg
   rw[show gPow.getD i .und=.int .u64 Lib.pow10Tab[i] by grind[gPow]]at a2;have a3:=Eu (γ:=⟨κ,[]⟩) (.row a2)
   grind[World.cell?]
 grind
def S0{κ:Ez}{w w':World}{v:V}{u:Value}{e:Ending}(hd:∀ b k,κ b=some k->b<w.heap.size)(hv:∀ κ' w',RepV ⟨κ',[]⟩ w' v u)(h:e=.returned u/\Below w.heap.size w w'):
  ∃ u κ',e=.returned u/\RepV ⟨κ',[]⟩ w' v u/\Below w.heap.size w w'/\(∀ b,b<w.heap.size->κ' b=κ b)/\∀ b k,κ' b=some k->b<w'.heap.size:=
 ⟨_,κ,h.1,hv κ w',h.2,fun _ _=>rfl,fun b k hk=>Px (hd b k hk) h.2.size⟩
def Akm{κ:Ez}{w w':World}{l:List UInt8}{e:Ending}(hd:∀ b k,κ b=some k->b<w.heap.size)(hl:l.length<=maxLen)(h:e=.returned (.string ⟨l.toArray⟩)/\Below w.heap.size w w'):
  ∃ u κ',e=.returned u/\RepV ⟨κ',[]⟩ w' (.str l) u/\Below w.heap.size w w'/\(∀ b,b<w.heap.size->κ' b=κ b)/\∀ b k,κ' b=some k->b<w'.heap.size:=
 ⟨_,κ,h.1,C0 (.row (.str hl)),h.2,fun _ _=>rfl,fun b k hk=>Px (hd b k hk) h.2.size⟩
theorem Aqh(w:World)(k:Nat)(os:Array Obj):Below w.heap.size w (grow (w.drewN k) os):=
 ⟨rfl,rfl,rfl,by simp_all,fun k hk=>by grind[grow,World.drewN]⟩
/-! numerals, so that they can be run -/
def Il:Nat->Nat->List UInt8
 | 0,_=>[]
 | k+1,u=>if u<10 then [UInt8.ofNat (48+u)] else Il k (u / 10)++[UInt8.ofNat (48+u % 10)]
theorem Awb:∀ (k u:Nat),u<10 ^ (k+1)->Il (k+1) u=Lib.decDigits u
 | 0,u,h=>by
  simp_all [Lib.decDigits,Il]
 | k+1,u,h=>by
  rw[Lib.decDigits];unfold Il
  split
  .rfl
  .rw[Awb k (u / 10) AA]
def B4(n:Int):List UInt8:=if n<0 then 45::Il 20 n.natAbs else Il 20 n.toNat
def Atf(n:Int)(h1 : -9223372036854775808<=n)(h2:n<=9223372036854775807):B4 n=Lib.itoa n:=by
 grind[B4,Lib.itoa,Awb]
def Qv:List V->Option V
 | [.int .i64 n,.int .i64 10]=>if -9223372036854775808<=n/\n<=9223372036854775807 then some (.str (B4 n)) else none
 | _=>none
def Yn:List V->Option V
 | [.int .i64 n]=>if -9223372036854775808<=n/\n<=9223372036854775807 then some (.str (B4 n)) else none
 | _=>none
def Y1:List V->Option V
 | [.str s,.int .i64 c]=>if 0<=c/\c<=9223372036854775807/\s.length*c.toNat<=140737488355328 then some (.str (Lib.repeatL s c.toNat)) else none
 | _=>none
def hpS:List V->Option V
 | [.str s,.str p]=>some (.bool (Lib.hasPrefix s p))
 | _=>none
def Wo{α:Type}{us:List α}(h:2=us.length):∃ a b,us=[a,b]:=by
 match us,h with
 | [a,b],_=>grind
def A1b{α:Type}{us:List α}(h:1=us.length):∃ a,us=[a]:=by
 match us,h with
 | [a],_=>grind
def Bi5(qd:(2,gPow)∈G):Iu Tryz.prog G 67 Qv:=by
 refine⟨⟨Tryz.f67,_,by kernel_rfl,rfl,by decide⟩,fun κ w vs us v hg hs hd hl ha h=>?_⟩;unfold Qv at h
 split at h
 .rename_i n
  split at h
  .rename_i hn;cases h;obtain⟨a,b,rfl⟩:=Wo hl;have h1:=Eu (Hx rfl (ha 0 AE));have h2:=Eu (Hx rfl (ha 1 AE));have h1:a=.int .i64 n:=h1;have h2:b=.int .i64 10:=h2;subst h1 h2;rw[Atf n hn.1 hn.2];refine(Tryz.strconv_FormatInt_10 n hn.1 hn.2 w (Ayi hg hs qd)).mono fun e w' hh=>Akm hd (by grind[Lib.itoa_length_le,maxLen]) ?_
   obtain⟨h,k,os,rfl⟩:=hh
   grind[Aqh]
  grind
 grind
def Bdm(qd:(2,gPow)∈G):Iu Tryz.prog G 66 Yn:=by
 refine⟨⟨Tryz.f66,_,by kernel_rfl,rfl,by decide⟩,fun κ w vs us v hg hs hd hl ha h=>?_⟩;unfold Yn at h
 split at h
 .rename_i n
  split at h
  .rename_i hn;cases h;obtain⟨a,rfl⟩:=A1b hl;have h1:=Eu (Hx rfl (ha 0 AE));have h1:a=.int .i64 n:=h1;subst h1;rw[Atf n hn.1 hn.2];refine(Tryz.strconv_Itoa n hn.1 hn.2 w (Ayi hg hs qd)).mono fun e w' hh=>Akm hd (by grind[Lib.itoa_length_le,maxLen]) ?_
   obtain⟨h,k,os,rfl⟩:=hh
   grind[Aqh]
  grind
 grind
def Bi6:Iu Tryz.prog G 187 Y1:=by
 refine⟨⟨Tryz.f187,_,by kernel_rfl,rfl,by decide⟩,fun κ w vs us v hg hs hd hl ha h=>?_⟩;unfold Y1 at h
 split at h
 .rename_i s c
  split at h
  .rename_i hc;cases h;obtain⟨a,b,rfl⟩:=Wo hl;have h1:=(G0 (Hx rfl (ha 0 AE))).1;have h2:=Eu (Hx rfl (ha 1 AE));have h1:a=.string ⟨s.toArray⟩:=h1;have h2:b=.int .i64 c:=h2;obtain⟨n,rfl⟩:∃ n:Nat,c=n:=⟨c.toNat,by omega⟩;subst h1 h2;have jq:s.length*n<=140737488355328:=by simpa using hc.2.2
   have:=Tryz.strings_Repeat ⟨s.toArray⟩ n w AA (by grind[M7]);refine this.mono fun e w' hh=>Akm hd ?_ (by grind)
   grind[Lib.repeatL_length,maxLen]
  grind
 grind
def Bn0:Iu Tryz.prog G 58 hpS:=by
 refine⟨⟨Tryz.f58,_,by kernel_rfl,rfl,by decide⟩,fun κ w vs us v hg hs hd hl ha h=>?_⟩;unfold hpS at h
 split at h
 .rename_i s p;cases h;obtain⟨a,b,rfl⟩:=Wo hl;have h1:=(G0 (Hx rfl (ha 0 AE))).1;have h2:=(G0 (Hx rfl (ha 1 AE))).1;have h1:a=.string ⟨s.toArray⟩:=h1;have h2:b=.string ⟨p.toArray⟩:=h2;subst h1 h2;refine(Tryz.strings_HasPrefix ⟨s.toArray⟩ ⟨p.toArray⟩ w).mono ?_;rintro e w' ⟨rfl,rfl⟩;exact⟨_,κ,rfl,C0 (.row .bool),Below.refl _ _,fun _ _=>rfl,hd⟩
 grind
def Ahv:List V->Option V
 | [.str a,.str b]=>some (.int .i64 (Lib.compareBytes a b))
 | _=>none
def Uu:List V->Option V
 | [.str s,.int .u8 c]=>some (.int .i64 (Lib.indexByte s c.toNat.toUInt8))
 | _=>none
def Acl:List V->Option V
 | [.str s,.str p]=>if s.length<4294967281 then some (.tup [.str (Lib.cut s p).1,.str (Lib.cut s p).2.1,.bool (Lib.cut s p).2.2]) else none
 | _=>none
def Y8:List V->Option V
 | [.str s,.str [c]]=>if c.toNat<128 then some (.str (Lib.trimLeftB s c)) else none
 | _=>none
def Y9:List V->Option V
 | [.str s,.int .i64 10,.int .i64 64]=>if s.length<=281474976710656 then(match Lib.parseIntB 64 s with
  | .ok v=>some (.tup [.int .i64 v,.nili])
  | Lib.NumEnd.syntax=>some (.tup [.int .i64 0,.ifc])
  | .range=>some (.tup [.int .i64 (Lib.intSat 64 s),.ifc])) else none
 | _=>none
def A1c{γ:Gh}{w:World}{vs:List V}{us:List Value}(h1:vs.length=us.length)(h2:∀ j,j<vs.length->RepC γ w (vs.getD j .und) (us.getD j undef)):RepV γ w (.tup vs) (.tuple us.toArray):=
 .tup h1 (fun j hj=>.cell (h2 j hj))
def Bi7:Iu Tryz.prog G 57 Ahv:=by
 refine⟨⟨Tryz.f57,_,by kernel_rfl,rfl,by decide⟩,fun κ w vs us v hg hs hd hl ha h=>?_⟩;unfold Ahv at h
 split at h
 .rename_i s p;cases h;obtain⟨a,b,rfl⟩:=Wo hl;have h1:=(G0 (Hx rfl (ha 0 AE))).1;have h2:=(G0 (Hx rfl (ha 1 AE))).1;have h1:a=.string ⟨s.toArray⟩:=h1;have h2:b=.string ⟨p.toArray⟩:=h2;subst h1 h2;refine(Tryz.strings_Compare ⟨s.toArray⟩ ⟨p.toArray⟩ w).mono ?_;rintro e w' ⟨rfl,rfl⟩;exact S0 hd (fun κ' w'=>C0 (.row .int)) ⟨rfl,Below.refl _ _⟩
 grind
def Bn1:Iu Tryz.prog G 102 Uu:=by
 refine⟨⟨Tryz.f102,_,by kernel_rfl,rfl,by decide⟩,fun κ w vs us v hg hs hd hl ha h=>?_⟩;unfold Uu at h
 split at h
 .rename_i s c;cases h;obtain⟨a,b,rfl⟩:=Wo hl;have h1:=(G0 (Hx rfl (ha 0 AE))).1;have h2:=Eu (Hx rfl (ha 1 AE));have h1:a=.string ⟨s.toArray⟩:=h1;have h2:b=.int .u8 c:=h2;subst h1 h2;refine(Tryz.strings_IndexByte ⟨s.toArray⟩ c w).mono ?_;rintro e w' ⟨rfl,rfl⟩;exact S0 hd (fun κ' w'=>C0 (.row .int)) ⟨rfl,Below.refl _ _⟩
 grind
def A8o{κ:Ez}{w:World}{g:Nat}{m:Int}(h:∀ g r,(g,r)∈G->RepC ⟨κ,[]⟩ w (.imm r 0) (.pointer (some ⟨g,0,none⟩)))(qd:(g,[V.int .i64 m])∈G):w.cell? ⟨g,0,none⟩=some (.int .i64 m):=by
 obtain⟨b,o,k,row,hu,h3,h4,h5,h6⟩:=Np (h _ _ qd);simp at hu;obtain⟨rfl,rfl⟩:=hu;have a1:=h5 0 AE;have a2:=h6 0 AE;have a3:=Eu (γ:=⟨κ,[]⟩) (.row a2)
 grind
def Bdn(s p:List UInt8):(Lib.cut s p).1.length<=s.length/\(Lib.cut s p).2.1.length<=s.length:=by
 grind[Lib.cut]
def Bi8{m:Int}(qd:(0,[V.int .i64 m])∈G):Iu Tryz.prog G 129 Acl:=by
 refine⟨⟨Tryz.f129,_,by kernel_rfl,rfl,by decide⟩,fun κ w vs us v hg hs hd hl ha h=>?_⟩;unfold Acl at h
 split at h
 .rename_i s p
  split at h
  .rename_i qg;cases h;obtain⟨a,b,rfl⟩:=Wo hl;obtain⟨h1,hm⟩:=G0 (Hx rfl (ha 0 AE));have h2:=(G0 (Hx rfl (ha 1 AE))).1;have h1:a=.string ⟨s.toArray⟩:=h1;have h2:b=.string ⟨p.toArray⟩:=h2;subst h1 h2;refine(Tryz.strings_Cut ⟨s.toArray⟩ ⟨p.toArray⟩ m w (by grind[M7]) (A8o hg qd)).mono ?_;rintro e w' ⟨rfl,n,rfl⟩;obtain⟨c1,c2⟩:=Bdn s p;refine S0 hd (fun κ' w'=>A1c (us:=[.string ⟨(Lib.cut s p).1.toArray⟩,.string ⟨(Lib.cut s p).2.1.toArray⟩,.bool (Lib.cut s p).2.2]) rfl (fun j hj=>?_)) ⟨rfl,⟨rfl,rfl,rfl,Ak _,fun _ _=>rfl⟩⟩
   match j,hj with
   | 0,_=>exact .row (.str AA)
   | 1,_=>exact .row (.str AA)
   | 2,_=>exact .row .bool
  grind
 grind
def Bn2:Iu Tryz.prog G 143 Y8:=by
 refine⟨⟨Tryz.f143,_,by kernel_rfl,rfl,by decide⟩,fun κ w vs us v hg hs hd hl ha h=>?_⟩;unfold Y8 at h
 split at h
 .rename_i s c
  split at h
  .rename_i qg;cases h;obtain⟨a,b,rfl⟩:=Wo hl;obtain⟨h1,hm⟩:=G0 (Hx rfl (ha 0 AE));have h2:=(G0 (Hx rfl (ha 1 AE))).1;have h1:a=.string ⟨s.toArray⟩:=h1;have h2:b=.string ⟨#[c]⟩:=h2;subst h1 h2;refine(Tryz.strings_TrimLeft_one ⟨s.toArray⟩ c qg w).mono ?_;rintro e w' ⟨rfl,rfl⟩;refine S0 hd (fun κ' w'=>C0 (.row (.str ?_))) ⟨rfl,Below.refl _ _⟩;exact C9 (List.dropWhile_sublist _).length_le hm
  grind
 grind
def Ayj{κ:Ez}{w:World}{g:Nat}{nm:String}(hn:Tryz.prog.globalNamed nm=some g)(h:∀ g r,(g,r)∈G->RepC ⟨κ,[]⟩ w (.imm r 0) (.pointer (some ⟨g,0,none⟩)))(hs:∀ g r,(g,r)∈G->El w g=some r.length)(qd:(g,[V.ifc])∈G):
  ∃ t p,w.var? Tryz.prog nm=some #[.iface t p]:=by
 obtain⟨b,o,k,row,hu,h3,h4,h5,h6⟩:=Np (h _ _ qd);simp at hu;obtain⟨rfl,rfl⟩:=hu;have a1:=h5 0 AE;have a2:=h6 0 AE;obtain⟨t,p,a3⟩:=Akf (γ:=⟨κ,[]⟩) (.row a2);rw[a3]at a1;have h2:=hs _ _ qd;unfold El at h2
 split at h2
 .rename_i cs e fz hh;simp only[Adj,Ao,Di,Gd]at h2;refine⟨t,p,?_⟩;unfold World.var?;rw[hn];simp only[C8,hh];congr 1;apply Array.ext
  .omega
  .intro i qZ qu;obtain rfl:i=0:=by omega
   grind[World.cell?]
 grind
def Awc:Tryz.prog.globalNamed "strconv.ErrSyntax"=some 7:=by kernel_rfl
def Awd:Tryz.prog.globalNamed "strconv.ErrRange"=some 8:=by kernel_rfl
def Alk{γ:Gh}{w:World}{n:Int}{v:V}{u:Value}(h:RepC γ w v u):RepV γ w (.tup [.int .i64 n,v]) (.tuple #[.int .i64 n,u]):=
 A1c (us:=[.int .i64 n,u]) rfl (fun j hj=>by
  match j,hj with
  | 0,_=>exact .row .int
  | 1,_=>exact h)
theorem A28(w:World)(e:TypeId)(t:ByteArray):Below w.heap.size w (Lib.bytesWorld w e t):=by
 unfold Lib.bytesWorld;refine Lib.below_freeze ?_ (p:=⟨w.heap.size,_,none⟩) (Ak _) _;exact(Below.refl _ w).drew.alloc (show w.heap.size<=w.drew.heap.size from Ak _) _
def Bn3{α:Type}{us:List α}(h:3=us.length):∃ a b c,us=[a,b,c]:=by
 match us,h with
 | [a,b,c],_=>grind
def Bn4(h1:(7,[V.ifc])∈G)(h2:(8,[V.ifc])∈G):Iu Tryz.prog G 170 Y9:=by
 refine⟨⟨Tryz.f170,_,by kernel_rfl,rfl,by decide⟩,fun κ w vs us v hg hs hd hl ha h=>?_⟩;unfold Y9 at h
 split at h
 .rename_i s
  split at h
  .rename_i qg;obtain⟨a,b,c,rfl⟩:=Bn3 hl;obtain⟨g1,hm⟩:=G0 (Hx rfl (ha 0 AE));have g2:=Eu (Hx rfl (ha 1 AE));have g3:=Eu (Hx rfl (ha 2 AE));have g1:a=.string ⟨s.toArray⟩:=g1;have g2:b=.int .i64 10:=g2;have g3:c=.int .i64 64:=g3;subst g1 g2 g3
   split at h
   .rename_i n hn;cases h;refine(Tryz.strconv_ParseInt_10_at64_ok ⟨s.toArray⟩ (by grind[M7]) n hn w).mono ?_;rintro e w' ⟨rfl,hw⟩;refine S0 hd (fun κ' w'=>Alk (.row .nili)) ⟨rfl,?_⟩;rcases hw with rfl | ⟨t,rfl⟩
    .grind[Below.refl]
    grind[A28]
   .rename_i hn;cases h;obtain⟨t,p,hv⟩:=Ayj Awc hg hs h1;refine(Tryz.strconv_ParseInt_10_at64_syntax_var ⟨s.toArray⟩ (by grind[M7]) hn t p w hv).mono ?_;rintro e w' ⟨N,rfl,_,_,hb⟩;exact S0 hd (fun κ' w'=>Alk .ifc) ⟨rfl,hb⟩
   .rename_i hn;cases h;obtain⟨t,p,hv⟩:=Ayj Awd hg hs h2;refine(Tryz.strconv_ParseInt_10_at64_range_var ⟨s.toArray⟩ (by grind[M7]) hn t p w hv).mono ?_;rintro e w' ⟨N,rfl,_,_,hb⟩;exact S0 hd (fun κ' w'=>Alk .ifc) ⟨rfl,hb⟩
  grind
 grind
open Go Go.RowKit
def Cv(zs:List Int):List V:=zs.map (V.int .i64)
def Tm:List V->Option (List Int)
 | []=>some []
 | .int .i64 n::l=>(Tm l).map (n::·)
 | _=>none
def Aew:∀ zs:List Int,Tm (Cv zs)=some zs
 | []=>rfl
 | z::zs=>by
  have:=Aew zs
  grind[Cv,Tm]
def Arp{cs:List V}:∀ {zs:List Int},Tm cs=some zs->cs=Cv zs:=by
 induction cs with
 | nil=>intro zs h;cases h;rfl
 | cons c l ih=>
  intro zs h;unfold Tm at h
  split at h
  .grind
  .rename_i n l' e;cases e
   cases h1:Tm l with
   | none=>grind
   | some ys=>
    rw[h1]at h;cases h;rw[ih h1];rfl
  grind
section
variable {G:List (Nat × List V)} {N:Nat} {γ:Gh} {σ:St} {w:World}
def Arq(hI:Inv G N γ σ w){i g e b:Nat}{zs:List Int}(hO:γ.O[i]?=some (b,g))(ho:σ[i]?=some (.row (Cv zs) e g 0)):Sort.Holds (Value.int .i64) w b 0 zs.toArray:=by
 obtain⟨p,hp,h1,h2,h3,us,lo,hi,h4,h5,h6,h7⟩:=hI.of ho;rw[hO]at hp;cases hp;have h4:w.heap[b]?=some (.cells us e (lo,hi)):=h4;have h6:zs.length<=us.size:=by simpa[Cv] using h6
 intro j hj;have hj:j<zs.length:=by simpa using hj
 have h8:=h7 j (by grind[Cv]);have e1:(Cv zs).getD j .und=.int .i64 zs[j]:=by simp[Cv,hj]
 rw[e1]at h8;have e2:us.getD j undef=.int .i64 zs[j]:=Eu h8;have e3:us.getD j undef=us[j]:=by simp[Array.getD,show j<us.size by omega]
 have e4:(zs.toArray[j]!)=zs[j]:=by rw[getElem!_pos zs.toArray j AA];simp
 constructor
 .simp[World.cell?,h4,Gd,show j<us.size by omega]
  grind
 .simp only[World.frozen?,h4,Gd]
  grind
def Aqi(hI:Inv G N γ σ w){i g e b n:Nat}{zs zs':List Int}{os:Array Obj}(hO:γ.O[i]?=some (b,g))(ho:σ[i]?=some (.row (Cv zs) e g 0))(hl:zs'.length=zs.length):
  Inv G N γ (σ.set i (.row (Cv zs') e g 0)) (Sort.grow (Sort.putRow (Value.int .i64) (Sort.ahead w n) b 0 zs'.toArray) os)/\Ext γ w γ (Sort.grow (Sort.putRow (Value.int .i64) (Sort.ahead w n) b 0 zs'.toArray) os)/\Below N w (Sort.grow (Sort.putRow (Value.int .i64) (Sort.ahead w n) b 0 zs'.toArray) os):=by
 obtain⟨p,hp,h1,h2,h3,us,lo,hi,h4,h5,h6,h7⟩:=hI.of ho;rw[hO]at hp;cases hp;have h4:w.heap[b]?=some (.cells us e (lo,hi)):=h4;have h6:zs.length<=us.size:=by simpa[Cv] using h6
 have qj:(Sort.putCells (Value.int .i64) 0 zs'.toArray us).size=us.size:=by simp[Sort.putCells]
 have hc:∀ j,j<(Cv zs').length->RepC γ w ((Cv zs').getD j .und) ((Sort.putCells (Value.int .i64) 0 zs'.toArray us).getD j undef):=by
  intro j hj;have hj:j<zs'.length:=by simpa[Cv] using hj
  have e1:(Cv zs').getD j .und=.int .i64 zs'[j]:=by simp[Cv,hj]
  have e2:(Sort.putCells (Value.int .i64) 0 zs'.toArray us).getD j undef=.int .i64 zs'[j]:=by
   have e4:(zs'.toArray[j]!)=zs'[j]:=by rw[getElem!_pos zs'.toArray j AA];simp
   simp[Sort.putCells,Array.getD_eq_getD_getElem?,Array.getElem?_mapIdx,show j<us.size by omega,hj]
  rw[e1,e2];exact .row .int
 obtain⟨i1,i2⟩:=hI.write (g':=g) (us':=Sort.putCells (Value.int .i64) 0 zs'.toArray us) (cs':=Cv zs') hO ho h4 h5 (Ak _) (Ax _) qj (by grind[Cv]) (fun o ho=>by omega) hc;rw[M4 hO]at i1 i2;have hb:b<w.heap.size:=hI.oblt hO
 have qi:∀ k,k<(w.setRow b (Sort.putCells (Value.int .i64) 0 zs'.toArray us)).heap.size->(Sort.grow (Sort.putRow (Value.int .i64) (Sort.ahead w n) b 0 zs'.toArray) os).heap[k]?=(w.setRow b (Sort.putCells (Value.int .i64) 0 zs'.toArray us)).heap[k]?:=by
  intro k hk;have hk:k<w.heap.size:=by simpa[World.setRow] using hk
  rw[Sort.heap_grow_old _ _ (by simp_all)];simp only[Sort.putRow,Sort.mapBlock,Sort.ahead,Array.getElem?_modify];by_cases qF:b=k
  .subst qF;rw[setRow_heap w b us _ e _ h4,if_pos rfl,h4];rfl
  .rw[if_neg qF,setRow_other w b k _ (Ne.symm qF)]
 have hs:(w.setRow b (Sort.putCells (Value.int .i64) 0 zs'.toArray us)).heap.size<=(Sort.grow (Sort.putRow (Value.int .i64) (Sort.ahead w n) b 0 zs'.toArray) os).heap.size:=by
  simp[World.setRow,Sort.putRow,Sort.mapBlock,Sort.ahead]
 obtain⟨j1,j2⟩:=i1.more (κ':=γ.κ) qi hs (fun _ _=>rfl) (fun b k hk=>Px (i1.dom b k hk) hs);refine⟨j1,i2.trans j2,⟨rfl,rfl,rfl,?_,fun k hk=>?_⟩⟩
 .simp_all
 .have h9:=hI.base;rw[qi k (by grind[World.setRow]),setRow_other w b k _ (by have:=hI.low _ _ hO;omega)]
end
/-! what they do -/
def Gt(zs:List Int):List Int:=zs.mergeSort fun x y=>decide (x<=y)
def Wi:List V->St->Option (V × St)
 | [.nils],σ=>some (.tup [],σ)
 | [.sl i g 0 len 1 _],σ=>match σ[i]? with
  | some (.row cs e g' 0)=>match Tm cs with
   | some zs=>if g=g'/\zs.length=len/\len<4611686018427387904 then some (.tup [],σ.set i (.row (Cv (Gt zs)) e g' 0)) else none
   | none=>none
  | _=>none
 | _,_=>none
def Acm:List V->St->Option (V × St)
 | [.nils],σ=>some (.nils,σ)
 | [.sl i g 0 len 1 _],σ=>match σ[i]? with
  | some (.row cs e g' 0)=>match Tm cs with
   | some zs=>if g=g'/\zs.length=len/\len<=9223372036854775807 then some (.sl i g 0 (Lib.compact zs).length 1 false,σ.set i (.row (Cv (Lib.compact zs++List.replicate (zs.length - (Lib.compact zs).length) 0)) e g' 0)) else none
   | none=>none
  | _=>none
 | _,_=>none
def Z3(zs:List Int):(Gt zs).length=zs.length:=List.length_mergeSort _
def Awe(zs:List Int):(Lib.compact zs).length<=zs.length:=by
 unfold Lib.compact Lib.compactUpTo;rw[Au];exact C9 (List.length_filter_le _ _) AE
def Atg{γ:Gh}{w:World}{i g len m:Nat}{own:Bool}{u:Value}(h:RepC γ w (.sl i g 0 len m own) u):∃ blk g' b' o' cap,u=.slice (some ⟨b',o',none⟩) len cap/\γ.O[i]?=some (blk,g')/\g<=g'/\len<=cap/\cap<=maxLen/\(0<cap->o'=0)/\(g=g'->b'=blk/\(own=true->El w blk=some (0+cap*m))):=by
 cases h with
 | row h=>cases h
 | sl h1 h2 h3 h4 h5 h6=>grind
def Bi9{G:List (Nat × List V)}:Rr Tryz.prog G 20 Wi:=by
 refine⟨⟨Tryz.f20,_,by kernel_rfl,rfl,by decide⟩,fun args σ v σ' h us w γ N hl ha hI=>?_⟩;unfold Wi at h
 split at h
 .cases h
  match us,hl with
  | [u],_=>
  have hu:u=.slice none 0 0:=Ma (Ba rfl (ha 0 AE));subst hu;refine(Tryz.slices_Sort_int_none none 0 w).mono ?_;rintro e w' ⟨rfl,rfl⟩;exact⟨_,γ,rfl,.tup rfl (fun j hj=>by grind),hI,Ext.refl _ _,Below.refl _ _,fun _ _=>rfl⟩
 .rename_i i g len own
  match us,hl with
  | [u],_=>
  obtain⟨blk,g1,b',o',cap,rfl,hO,qX,qo,qA,qB,qC⟩:=Atg (Ba rfl (ha 0 AE))
  split at h
  .rename_i cs e g' hi
   split at h
   .rename_i zs hz
    split at h
    .rename_i hc;cases h;obtain⟨rfl,rfl,qj⟩:=hc;have qh:=Arp hz;subst qh;obtain⟨p,hp,q1,-⟩:=hI.of hi;rw[hO]at hp;cases hp;have q1:g1=g:=q1;subst q1;obtain⟨rfl,-⟩:=qC rfl;rcases U1 cap with h0 | h0
     .have hn:zs=[]:=U0.1 AA;subst hn;subst h0;refine(Tryz.slices_Sort_int_none (some ⟨b',o',none⟩) 0 w).mono ?_;rintro e w' ⟨rfl,rfl⟩;rw[show Gt []=[] by simp[Gt],M4 hi];exact⟨_,γ,rfl,.tup rfl (fun j hj=>by omega),hI,Ext.refl _ _,Below.refl _ _,fun _ _=>rfl⟩
     .obtain rfl:=qB h0;refine(Tryz.slices_Sort_int b' 0 cap zs w (Arq hI hO hi) (hI.oblt hO) qj).mono ?_;rintro e w' ⟨rfl,n,os,rfl⟩;obtain⟨i1,i2,i3⟩:=Aqi (n:=n) (os:=os) (zs':=Gt zs) hI hO hi (Z3 zs);exact⟨_,γ,rfl,.tup rfl (fun j hj=>by grind),i1,i2,i3,fun _ _=>rfl⟩
    grind
   grind
  grind
 grind
def Bja{G:List (Nat × List V)}:Rr Tryz.prog G 21 Acm:=by
 refine⟨⟨Tryz.f21,_,by kernel_rfl,rfl,by decide⟩,fun args σ v σ' h us w γ N hl ha hI=>?_⟩;unfold Acm at h
 split at h
 .cases h
  match us,hl with
  | [u],_=>
  have hu:u=.slice none 0 0:=Ma (Ba rfl (ha 0 AE));subst hu;refine(Tryz.slices_Compact_int_empty none 0 w).mono ?_;rintro e w' ⟨rfl,rfl⟩;exact⟨_,γ,rfl,C0 (.row .nils),hI,Ext.refl _ _,Below.refl _ _,fun _ _=>rfl⟩
 .rename_i i g len own
  match us,hl with
  | [u],_=>
  obtain⟨blk,g1,b',o',cap,rfl,hO,qX,qo,qA,qB,qC⟩:=Atg (Ba rfl (ha 0 AE))
  split at h
  .rename_i cs e g' hi
   split at h
   .rename_i zs hz
    split at h
    .rename_i hc;cases h;obtain⟨rfl,rfl,qj⟩:=hc;have qh:=Arp hz;subst qh;obtain⟨p,hp,q1,-⟩:=hI.of hi;rw[hO]at hp;cases hp;have q1:g1=g:=q1;subst q1;obtain⟨rfl,-⟩:=qC rfl;have ql:=Awe zs;rcases U1 cap with h0 | h0
     .have hn:zs=[]:=U0.1 AA;subst hn;subst h0;refine(Tryz.slices_Compact_int_empty (some ⟨b',o',none⟩) 0 w).mono ?_;rintro e w' ⟨rfl,rfl⟩;rw[show Cv (Lib.compact []++List.replicate (([]:List Int).length - (Lib.compact []).length) 0)=Cv [] from rfl,M4 hi];exact⟨_,γ,rfl,C0 (.sl hO (Ak _) (Ak _) qA (fun h=>by omega) (fun _=>⟨rfl,fun h=>by cases h⟩)),hI,Ext.refl _ _,Below.refl _ _,fun _ _=>rfl⟩
     .obtain rfl:=qB h0;refine(Tryz.slices_Compact_int b' 0 cap zs w (Arq hI hO hi) qj qo).mono ?_;rintro e w' ⟨rfl,n,rfl⟩;obtain⟨i1,i2,i3⟩:=Aqi (n:=n) (os:=#[]) (zs':=Lib.compact zs++List.replicate (zs.length - (Lib.compact zs).length) 0) hI hO hi AQ;rw[Sort.grow_empty]at i1 i2 i3;exact⟨_,γ,rfl,C0 (.sl hO (Ak _) AA qA (fun _=>rfl) (fun _=>⟨rfl,fun h=>by cases h⟩)),i1,i2,i3,fun _ _=>rfl⟩
    .cases h
   .cases h
  .cases h
 .cases h
open Go Go.RowKit
def grow_ren:Go.Shelf.Ren:=⟨fun | 4=>138 | n=>n,fun | 22=>55 | 25=>3 | n=>n,fun | n=>n⟩
def Arr:Lays8.n4 Tryz.prog grow_ren where
 mixed:=by kernel_rfl
 f4:=⟨ "slices.Grow[[]int,int]",by decide,Tryz.func138.trans (congrArg some AD)⟩
 t0:=Tryz.underlying0
 a0:=Tryz.isAgg0
 z0:=Tryz.sizeOf0
 v0:=Tryz.zeroValue0
 t3:=Tryz.underlying3
 a3:=Tryz.isAgg3
 z3:=Tryz.sizeOf3
 v3:=Tryz.zeroValue3
 t4:=Tryz.underlying4
 a4:=Tryz.isAgg4
 z4:=Tryz.sizeOf4
 v4:=Tryz.zeroValue4
 t9:=Tryz.underlying9
 a9:=Tryz.isAgg9
 z9:=Tryz.sizeOf9
 v9:=Tryz.zeroValue9
 t20:=Tryz.underlying20
 a20:=Tryz.isAgg20
 z20:=Tryz.sizeOf20
 v20:=Tryz.zeroValue20
 t22:=Tryz.underlying55
 a22:=Tryz.isAgg55
 z22:=Tryz.sizeOf55
 v22:=Tryz.zeroValue55
theorem Awf(n:Nat):(Builtin.zeroCells #[.int .i64 0] n).size=n:=by simp[Builtin.zeroCells]
def Bjb{n j:Nat}(h:j<n):(Builtin.zeroCells #[.int .i64 0] n)[j]?=some (.int .i64 0):=by
 simp[Builtin.zeroCells,h,Nat.mod_one]
def Ab5:List V->St->Option (V × St)
 | [.nils,.int .i64 n],σ=>if n=0 then some (.nils,σ) else if 0<n/\n<=1000000 then some (.sl σ.length 0 0 0 1 true,σ++[.row (List.replicate n.toNat (.int .i64 0)) 3 0 0]) else none
 | _,_=>none
def Bdo{G:List (Nat × List V)}:Rr Tryz.prog G 138 Ab5:=by
 refine⟨⟨Tryz.f138,_,by kernel_rfl,rfl,by decide⟩,fun args σ v σ' h us w γ N hl ha hI=>?_⟩;unfold Ab5 at h
 split at h
 .rename_i n
  match us,hl with
  | [u1,u2],_=>
  have je:u1=.slice none 0 0:=Ma (Ba rfl (ha 0 AE));have jf:u2=.int .i64 n:=Eu (Ba rfl (ha 1 AE));subst je jf
  split at h
  .rename_i h0;cases h;subst h0;refine(Any8.slices_Grow_room Arr none 0 0 0 w AA AA AA AA).mono ?_;rintro e w' ⟨rfl,rfl⟩;exact⟨_,γ,rfl,C0 (.row .nils),hI,Ext.refl _ _,Below.refl _ _,fun _ _=>rfl⟩
  .split at h
   .rename_i hn hc;cases h;obtain⟨k,rfl⟩:∃ k:Nat,n=k:=⟨n.toNat,by omega⟩;rw[Nk];have hk:((Tryz.prog.info? 3).bind fun i=>if i.size=1/\i.bytes=8 then i.zero.map Value.cells else none)=some #[.int .i64 0]:=by kernel_rfl
    cases hi:Tryz.prog.info? 3 with
    | none=>grind
    | some i0=>
    rw[hi,C8]at hk
    split at hk
    rotate_left
    .cases hk
    rename_i jx
    cases hz:i0.zero with
    | none=>grind
    | some z=>
    rw[hz]at hk;have jj:z.cells=#[.int .i64 0]:=Lb hk;refine(Any8.slices_Grow_grow Arr i0 z hi hz AA none 0 0 k [] w AA AA (by grind) AA AE (fun _=>rfl) (fun a h=>by cases h)).mono ?_;rintro e w' ⟨rfl,rfl⟩;rw[jj];have qY:=grownCap_ge w (0+k) 0 (grow_ren.t 25);have qv:=grownCap_le_maxLen w (0+k) 0 (grow_ren.t 25) (by grind[maxLen]);generalize grownCap w (0+k) 0 (grow_ren.t 25)=cap at qY qv;obtain⟨d1,d2⟩:=hI.drew
    have qt:(([]:List Value).toArray++Builtin.zeroCells #[.int .i64 0] (0+k - 0)++Builtin.zeroCells #[.int .i64 0] (cap - (0+k))).size=cap:=by
     simp only[Array.size_append,Awf];simp;omega
    obtain⟨i1,i2⟩:=d1.newRow (([]:List Value).toArray++Builtin.zeroCells #[.int .i64 0] (0+k - 0)++Builtin.zeroCells #[.int .i64 0] (cap - (0+k))) 3 (List.replicate k (.int .i64 0)) (by grind) (fun j hj=>by
     rw[List.length_replicate]at hj;have e1:(List.replicate k (V.int .i64 0)).getD j .und=.int .i64 0:=by simp[hj]
     have e2:(([]:List Value).toArray++Builtin.zeroCells #[.int .i64 0] (0+k - 0)++Builtin.zeroCells #[.int .i64 0] (cap - (0+k))).getD j undef=.int .i64 0:=by
      rw[Array.getD_eq_getD_getElem?,Array.getElem?_append_left (by grind[Awf]),Array.getElem?_append_right AE];rw[show j - ([]:List Value).toArray.size=j from rfl,Bjb AA];rfl
     rw[e1,e2]
     exact .row .int)
    refine⟨_,_,rfl,C0 (Af5 (blk:=w.heap.size) (m:=1) ?_ ?_ (Ax _) qv),i1,d2.trans i2,?_,fun b hb=>Oq _ _ (by have:=hI.base;show b≠w.heap.size;omega)⟩
    .show(γ.O++[(w.heap.size,0)])[σ.length]?=_;rw[<-hI.len];simp
    .have:=Aac w.drew (([]:List Value).toArray++Builtin.zeroCells #[.int .i64 0] (0+k - 0)++Builtin.zeroCells #[.int .i64 0] (cap - (0+k))) 3 (0,0);rw[qt]at this;rw[Zx];exact this
    .exact((Below.refl N w).drew).alloc hI.base _
   grind
 grind
open Go Go.RowKit Go.Sort
variable {G:List (Nat × List V)}
