/- Walks: comparisons, keys. -/
import Derived.Test.YtcoeikinocflnaaGreatDoorNu
import Derived.Shelf.Vars
import Derived.Test.YtcoeikinocflnaaGreatDoorCards
import Derived.Test.YtcoeikinocflnaaGreatDoorTie
import Derived.ProofKit
import Derived.OpenShut
import Derived.Carry
import Derived.Deep.DeepHandedRow
import Derived.Lib.LaidTab
set_option linter.all false
namespace Go.Proofs.YtcoeikinocflnaaGreatDoor.KM
open Go
/-! keys -/
abbrev Key:=List UInt8 × List UInt8 × Int
def A27(k:Key):List V:=[.str k.1,.str k.2.1,.int .i64 k.2.2]
/-! entries -/
structure Ent where
 kind:Int
 sites:List Key
 seen:Int
 missed:Int
 z:Bool:=true
 t:Nat:=0
def Ent.sl(x:Ent):V:=SL x.z x.t (x.sites.map A27)
def Ent.row(x:Ent):List V:=[.int .i64 x.kind,x.sl,.int .i64 x.seen,.int .i64 x.missed]
end Go.Proofs.YtcoeikinocflnaaGreatDoor.KM
/- What every law's closing needs: listed tables, the post of a law that answers true and leaves its arguments. -/
namespace Go.Proofs.YtcoeikinocflnaaGreatDoor
open Go.ChangeShapes Go.WideShapes Go.ChangeAt Go.RowKit KM
mutual
def flatV{H:Type}:DataW H->List Value
 | .lit (.bool b)=>[.bool b]
 | .lit (.int k n)=>[.int k n]
 | .lit (.string l)=>[.string ⟨l.toArray⟩]
 | .agg ps=>Nz ps
 | _=>[]
def Nz{H:Type}:List (DataW H)->List Value
 | []=>[]
 | d::ds=>flatV d++Nz ds
end
def Acw(P:Program)(ts:List TypeId):Bool:=ts.all fun t=>
 match P.underlying t with
 | some .bool | some (.int _) | some .string=>P.cellsOf t==1
 | some (.struct fs)=>fs.toList.all (fun f=>ts.contains f.type)&&Mv P fs.toList 0 (P.cellsOf t)
 | some (.array n e)=>ts.contains e&&P.cellsOf t==n*P.cellsOf e
 | _=>false
theorem Ae9{H:Type}{P:Program}{cs:List Value}{g:Field->Option (DataW H × List MemPlace)}:
  ∀ (fl:List Field) (s e:Nat) (xs:List (DataW H × List MemPlace)),Mv P fl s e=true->fl.mapM g=some xs->e=cs.length ->
   (∀ f∈fl,∀ x,g f=some x->(cs.drop f.offset).take (P.cellsOf f.type)=flatV x.1)->cs.drop s=Nz (xs.map (·.1))
 | [],s,e,xs,hc,hm,he,_=>by
  simp[Mv]at hc;simp at hm;subst hc hm he;simp[Nz]
 | f::fl,s,e,xs,hc,hm,he,hg=>by
  simp only[Mv,Af,beq_iff_eq]at hc;rw[Hs]at hm
  cases hf:g f with
  | none=>simp[hf]at hm
  | some x=>
   cases hl:fl.mapM g with
   | none=>simp[hf,hl]at hm
   | some r=>
    simp[hf,hl]at hm;subst hm;have h1:=Ae9 fl _ e r hc.2 hl he (fun f' hf'=>hg f' (Dz _ hf'));have h2:=hg f (Ec) x hf;rw[hc.1]at h2;rw[Ba];simp only[Nz];rw[<-h1,<-h2,<-Qn];exact(Lh _ _).symm
theorem Afs{H:Type}{cs:List Value}{m:Nat}{g:Nat->Option (DataW H × List MemPlace)}(hg:∀ i x,g i=some x->(cs.drop (i*m)).take m=flatV x.1):
  ∀ (n s:Nat) (xs:List (DataW H × List MemPlace)),(List.range' s n).mapM g=some xs->cs.length=(s+n)*m->cs.drop (s*m)=Nz (xs.map (·.1))
 | 0,s,xs,hm,hl=>by
  simp at hm;subst hm;simp at hl;simp[Nz,hl]
 | n+1,s,xs,hm,hl=>by
  rw[Wb,Hs]at hm
  cases hf:g s with
  | none=>simp[hf]at hm
  | some x=>
   cases hr:(List.range' (s+1) n).mapM g with
   | none=>simp[hf,hr]at hm
   | some r=>
    simp[hf,hr]at hm;subst hm;have h1:=Afs hg n (s+1) r hr (by rw[hl];congr 1;omega);have h2:=hg s x hf;rw[Ba];simp only[Nz];rw[<-h1,<-h2,D9,<-Qn];exact(Lh _ _).symm
theorem Z9{H:Type}(enc:TypeId × Value->H)(P:Program)(w:World)(spare:Nat->Bool)(held:Bool)(ts:List TypeId)(hts:Acw P ts=true):
  ∀ (fuel:Nat) (t:TypeId) (cs:List Value) (d:DataW H) (ps:List MemPlace),t∈ts->DataW.trod enc P w 0 spare held fuel t cs=some (d,ps)->cs=flatV d
 | 0,_,_,_,_,_,h=>by simp[DataW.trod]at h
 | fuel+1,t,cs,d,ps,ht,h=>by
  have hp:=Bd.1 hts t ht;simp only[DataW.trod]at h
  split at h
  ·simp at h;obtain⟨rfl,_⟩:=h;rfl
  ·split at h
   ·rename_i hk;simp at h;obtain⟨rfl,_⟩:=h;obtain⟨rfl,_⟩:=hk;rfl
   ·cases h
  ·rename_i hu;rw[hu]at hp;cases hp
  ·split at h
   ·simp at h;obtain⟨rfl,_⟩:=h;simp[flatV]
   ·cases h
  ·rename_i hu;rw[hu]at hp;cases hp
  ·rename_i hu;rw[hu]at hp;cases hp
  ·rename_i hu;rw[hu]at hp;cases hp
  ·rename_i hu;rw[hu]at hp;cases hp
  ·rename_i fs hu;rw[hu]at hp;simp only[Af,Bd,V1]at hp
   split at h
   ·rename_i hcl;simp only[Bm]at h;obtain⟨xs,hm,h⟩:=h;simp at h;obtain⟨rfl,_⟩:=h;have:=Ae9 (P:=P) (cs:=_) fs.toList 0 _ xs hp.2 hm hcl.symm (fun f hf x hx=>Z9 enc P w spare held ts hts fuel f.type _ x.1 x.2 (hp.1 f hf) hx);simpa[flatV] using this
   ·cases h
  ·rename_i n e hu;rw[hu]at hp;simp only[Af,beq_iff_eq,V1]at hp
   split at h
   ·rename_i hcl;simp only[Bm]at h;obtain⟨xs,hm,h⟩:=h;simp at h;obtain⟨rfl,_⟩:=h;rw[List.range_eq_range']at hm;have:=Afs (cs:=_) (m:=P.cellsOf e) (fun i x hx=>Z9 enc P w spare held ts hts fuel e _ x.1 x.2 hp.1 hx) n 0 xs hm (by rw[hcl,hp.2];simp);simpa[flatV] using this
   ·cases h
  all_goals first
   | (rename_i hu;rw[hu]at hp;cases hp)
   | cases h
theorem Abi{P:Program}{w:World}{n:String}{d:DataW Unit}:∀ {laid:List (String × DataW Unit)} {ps:List MemPlace},DataW.LaidVars P w laid ps->(n,d)∈laid ->
  ∃ g t cs fuel p,P.globalNamed n=some g/\(P.globals[g]?).map (·.type)=some t/\w.var? P n=some cs/\DataW.trod (fun _=>()) P w 0 (fun _=>true) false fuel t cs.toList=some (d,p)
 | [],_,_,hm=>by cases hm
 | (n',d')::r,ps,h,hm=>by
  obtain⟨g,t,cs,fuel,p,q,h1,h2,h3,h4,h5,_⟩:=h;rcases Be.1 hm with e | hm
  ·injection e with e1 e2;subst e1 e2;exact⟨g,t,cs,fuel,p,h1,h2,h3,h4⟩
  ·exact Abi h5 hm
theorem Arx{P:Program}{w:World}{n:String}{d:DataW Unit}{g:Nat}{t:TypeId}{ts:List TypeId}{laid:List (String × DataW Unit)}(h:laidMet P laid w)(hm:(n,d)∈laid)
  (hg:P.globalNamed n=some g) (ht:(P.globals[g]?).map (·.type)=some t) (hts:Acw P ts=true) (hin:t∈ts):w.var? P n=some (flatV d).toArray:=by
 obtain⟨ps,h,_⟩:=h;obtain⟨g',t',cs,fuel,p,h1,h2,h3,h4⟩:=Abi h hm;obtain rfl:g'=g:=Nh (h1.symm.trans hg);obtain rfl:t'=t:=Nh (h2.symm.trans ht);rw[h3,<-Z9 _ P w _ _ ts hts fuel t' _ d p hin h4]
theorem Aew{H:Type}{enc:TypeId × Value->H}{P:Program}(hl:laidOutB P=true){W W':World}(hb:Below W.heap.size W W'){sp:Nat->Bool}:
  ∀ {ts:List TypeId} {vs:List Value} {ds:List (DataW H)} {ps:List MemPlace},(ts.all fun t=>P.readableRec t&&decide (t<P.types.size))=true->DataW.TrodAll enc P W 0 (fun _=>true) true ts vs ds ps ->
   (∀ x∈ps,x.block<W.heap.size)->(∀ x∈ps,sp x.block=true)->DataW.TrodAll enc P W' 0 sp true ts vs ds ps
 | [],[],[],_,_,h,_,_=>h
 | t::ts,v::vs,d::ds,ps,hr,h,hlt,hsp=>by
  obtain⟨p,q,h1,h2,rfl⟩:=h;simp only[Au,Af,decide_eq_true_eq]at hr;refine⟨p,q,WideElems.Trod_stays hl hr.1.1 hr.1.2 h1 (fun x hx=>hb.same (hlt x (by simp[hx]))) (fun x hx=>hsp x (by simp[hx])),?_,rfl⟩;exact Aew hl hb (by simpa using hr.2) h2 (fun x hx=>hlt x (by simp[hx])) (fun x hx=>hsp x (by simp[hx]))
 | [],_::_,_,_,_,h,_,_=>by simp[DataW.TrodAll]at h
 | [],[],_::_,_,_,h,_,_=>by simp[DataW.TrodAll]at h
 | _::_,[],_,_,_,h,_,_=>by simp[DataW.TrodAll]at h
 | _::_,_::_,[],_,_,h,_,_=>by simp[DataW.TrodAll]at h
theorem Ary{H:Type}{enc:TypeId × Value->H}{P:Program}{f:Func}{s:ChangeSpec}{apart fresh handsOn again:Bool}{W W':World}{args:Array Value}{ds gs:List (DataW H)}{before:List MemPlace}{tb:TypeId}
  (hW:DataW.Whole enc P f.params.toList s.vars apart W args.toList ds gs before) (hl:laidOutB P=true) (hts:(f.params.toList.all fun t=>P.readableRec t&&decide (t<P.types.size))=true)
  (hv:s.vars=[]) (hr:f.resultTypes=#[tb]) (hu:P.underlying tb=some .bool) (h1:(s.fn H (ds++gs)).results=[.lit (.bool true)]) (h2:(s.fn H (ds++gs)).args=ds) (h3:(s.fn H (ds++gs)).vars=[])
  (hb:Below W.heap.size W W'):s.post enc P f apart fresh handsOn again W args (.bool true) W':=by
 have hlt:∀ p∈before,p.block<W.heap.size:=fun p hp=>hW.lt p hp
 have hold:∀ p∈before,(fun b=>decide (b<W.heap.size)) p.block=true:=fun p hp=>by simpa using hlt p hp
 have hres:∀ (b:Nat) (sp:Nat->Bool) (hd:Bool),DataW.TrodAll enc P W' b sp hd f.resultTypes.toList ((Value.bool true).resultList f.resultTypes.size) (s.fn H (ds++gs)).results []:=fun b sp hd=>by
  rw[hr,h1];exact trodAll_cons_mk (shut_bool hu _) trodAll_mk0
 obtain⟨p,q,hA,hV,hps,hz,hn⟩:=id hW;have hg:gs=[]/\q=[]:=by rw[hv]at hV;exact trodVars_none hV
 obtain⟨rfl,rfl⟩:=hg
 have hargs:∀ sp:Nat->Bool,(∀ p∈before,sp p.block=true)->DataW.TrodAll enc P W' 0 sp true f.params.toList args.toList (s.fn H (ds++[])).args before:=fun sp hsp=>by
  rw[h2];rw[Cw]at hps;subst hps;exact Aew hl hb hts hA hlt hsp
 have hvars:∀ sp:Nat->Bool,DataW.TrodVars enc P W' sp s.vars (s.fn H (ds++[])).vars []:=fun sp=>by
  rw[hv,h3];rfl
 refine⟨ds,[],before,[],before,[],hW,hres _ _ _,hargs _ hold,hvars _,World.keptBut_mono (fun p hp=>⟨hp,.inr (by simpa using hp)⟩) (hb.frame (·∈before)),fun _=>?_⟩;refine⟨?_,_,_,([]++before)++[],⟨[]++before,[],trodAll_append (hargs _ (fun _ _=>rfl)) (hres _ _ _),hvars _,rfl,?_,?_⟩,?_⟩
 ·exact ok_one hr rfl (okWide_bool_mk hu _)
 ·intro b off hp;have hin:MemPlace.cell b off∈before:=by simpa using hp
  rw[hb.frozen (hlt _ hin)];exact hz b off hin
 ·intro ha;simpa using hn ha
 ·intro p hp _;simpa using hp
theorem Aid{P:Program}{w:World}{n:String}{g:Nat}{cs:Array Value}(h:w.var? P n=some cs)(hg:P.globalNamed n=some g):∃ e fz,w.heap[g]?=some (.cells cs e fz):=by
 unfold World.var? at h;rw[hg,Cz]at h
 split at h
 ·rename_i hh;injection h with h;subst h;exact⟨_,_,hh⟩
 ·cases h
theorem Ab6{P:Program}{w:World}{n:String}{d:DataW Unit}{g:Nat}{t:TypeId}{ts:List TypeId}{laid:List (String × DataW Unit)}{r:List V}(h:laidMet P laid w)(hm:(n,d)∈laid)
  (hg:P.globalNamed n=some g) (ht:(P.globals[g]?).map (·.type)=some t) (hts:Acw P ts=true) (hin:t∈ts) (hr:Gc r (flatV d)=true) (hf:r.all Za=true) :
  ∃ us e fz,w.heap[g]?=some (.cells us e fz)/\r.length=us.toList.length/\∀ j,j<r.length->Ry (r.getD j .und) (us.toList.getD j undef):=by
 obtain⟨e,fz,hh⟩:=Aid (Arx h hm hg ht hts hin) hg;obtain⟨h1,h2⟩:=Am5 hr hf;exact⟨_,e,fz,hh,h1,h2⟩
theorem Ajr{P:Program}{w:World}{n:String}{nm:String}{d:DataW Unit}{g:Nat}{t:TypeId}{ms:Array (String × TypeId)}{laid:List (String × DataW Unit)}(h:laidMet P laid w)(hm:(n,.iface nm d)∈laid)
  (hg:P.globalNamed n=some g) (ht:(P.globals[g]?).map (·.type)=some t) (hu:P.underlying t=some (.interface ms)) :
  ∃ us e fz,w.heap[g]?=some (.cells us e fz)/\[V.ifc].length=us.toList.length/\∀ j,j<[V.ifc].length->Ry ([V.ifc].getD j .und) (us.toList.getD j undef):=by
 obtain⟨ps,h,_⟩:=h;obtain⟨g',t',cs,fuel,p,h1,h2,h3,h4⟩:=Abi h hm;obtain rfl:g'=g:=Nh (h1.symm.trans hg);obtain rfl:t'=t:=Nh (h2.symm.trans ht);obtain⟨e,fz,hh⟩:=Aid h3 hg;refine⟨cs,e,fz,hh,?_⟩
 cases fuel with
 | zero=>simp[DataW.trod]at h4
 | succ fuel=>
  unfold DataW.trod at h4;rw[hu]at h4;generalize cs.toList=l at h4;rcases l with _ | ⟨x,_ | ⟨y,l⟩⟩
  ·simp at h4
  ·cases x with
   | iface u v=>
    refine⟨rfl,fun j hj=>.inr ?_⟩;obtain rfl:j=0:=by simp at hj;omega
    exact⟨rfl,_,_,rfl⟩
   | _=>simp at h4
  ·cases x<;>simp at h4
theorem Avh{P:Program}{w:World}{g:Nat}{t:TypeId}{zero:Array Value}
  (h:w.ShapedOpen P) (hg:g<P.globals.size)
  (h0:((begin P (fun _ _=>0) default).world.heap[g]?).bind Obj.row?=some (zero,t)) (hz:zero.size=1)
  (hb:P.buildable t=true) (hc:P.cellTypes P.depth t=some [t]) (hu:P.underlying t=some (.int .i64)) :
  ∃ m,∃ us e fz,w.heap[g]?=some (.cells us e fz)/\[V.int .i64 m].length=us.toList.length/\∀ j,j<[V.int .i64 m].length->Ry ([V.int .i64 m].getD j .und) (us.toList.getD j undef):=by
 obtain⟨m,hm⟩:=cell_of_shapedOpen_int h hg h0 hz hb hc hu;obtain⟨cs,hh,hs,_⟩:=h.1 g zero t hg h0;refine⟨m,cs,_,_,hh,by simp;omega,fun j hj=>.inl ?_⟩;obtain rfl:j=0:=by simp at hj;omega
 have:cs[0]?=some (.int .i64 m):=by simpa[World.cell?,hh] using hm
 have:cs.toList.getD 0 undef=.int .i64 m:=by rw[Aq,Array.getElem?_toList,this];rfl
 rw[this];exact⟨by simp[K2],rfl⟩
end Go.Proofs.YtcoeikinocflnaaGreatDoor
/- What every closing of this seat's laws needs: the tables, plain data out of what a row reads, the world of the witness. -/
namespace Go.Proofs.YtcoeikinocflnaaGreatDoor
open Go.ChangeShapes Go.WideShapes Go.ChangeAt Go.RowKit KM
theorem Am0:ownKnob Tryz.prog.godebug=none:=by kernel_rfl
theorem Abj{P:Program}{t:TypeId}{k:IntKind}{pcs:List V}(hu:P.underlying t=some (.int k))(h:HasT P t pcs):∃ n,pcs=[.int k n]/\(Lit.int k n).wf=true:=by
 cases h with
 | int hu' hw=>
  rw[hu]at hu';injection hu' with e;injection e with e;subst e;exact⟨_,rfl,hw⟩
 | _=>simp_all
theorem An2{P:Program}{t e:TypeId}{pcs:List V}(hu:P.underlying t=some (.slice e))(h:HasT P t pcs):pcs=[.nils]\/∃ xs,pcs=[.lst 0 xs]/\xs.length<=maxLen/\∀ i,i<xs.length->HasT P e (xs.getD i []):=by
 cases h with
 | nils _=>exact .inl rfl
 | lst hu' hl hT=>
  rw[hu]at hu';injection hu' with e;injection e with e;subst e;exact .inr ⟨_,rfl,hl,hT⟩
 | _=>simp_all
theorem Aie{α:Type}{f:α->List V}:∀ {xs:List (List V)},(∀ i,i<xs.length->∃ a,xs.getD i []=f a)->∃ l:List α,xs=l.map f
 | [],_=>⟨[],rfl⟩
 | x::xs,h=>by
  obtain⟨a,ha⟩:=h 0 (by simp);obtain⟨l,hl⟩:=Aie (xs:=xs) fun i hi=>h (i+1) (by simpa using hi)
  exact⟨a::l,by rw[hl];simp at ha;simp[ha]⟩
theorem Apb{P:Program}{t e:TypeId}{α:Type}{f:α->List V}{pcs:List V}(hu:P.underlying t=some (.slice e))(h:HasT P t pcs)(hf:∀ r,HasT P e r->∃ a,r=f a):∃ z u,∃ l:List α,pcs=[SL z u (l.map f)]/\l.length<=9223372036854775807:=by
 rcases An2 hu h with rfl | ⟨xs,rfl,hl,hT⟩
 ·exact⟨true,0,[],rfl,by simp⟩
 ·obtain⟨l,rfl⟩:=Aie (f:=f) fun i hi=>hf _ (hT i hi)
  exact⟨false,0,l,by simp[SL],by simpa[maxLen] using hl⟩
theorem Avi:Tryz.prog.globalNamed "interleave/format.operators"=some 9:=by kernel_rfl
theorem Ayz:Tryz.prog.globalNamed "interleave/token.keywords"=some 1:=by kernel_rfl
theorem Avj:Tryz.prog.globalNamed "internal/strconv.uint64pow10"=some 2:=by kernel_rfl
theorem Avk{w:World}{laid:List (String × DataW Unit)}(h:laidMet Tryz.prog laid w)(hs:w.ShapedOpen Tryz.prog)(h1:("interleave/format.operators",Rows.laid_interleave_format_operators)∈laid) (h2:("internal/strconv.uint64pow10",Rows.laid_internal_strconv_uint64pow10)∈laid)
  (h3:("interleave/token.keywords",Rows.laid_interleave_token_keywords)∈laid) (h4:("strconv.ErrSyntax",Rows.laid_strconv_ErrSyntax)∈laid) (h5:("strconv.ErrRange",Rows.laid_strconv_ErrRange)∈laid):∃ m,Ad9 (GT m) w:=by
 obtain⟨m,hm⟩:=Avh (g:=0) (zero:=#[.int .i64 0]) (t:=3) hs (of_decide_eq_true (by kernel_rfl)) (by kernel_rfl) rfl (by kernel_rfl) (by kernel_rfl) Tryz.underlying3;refine⟨m,fun g r hg=>?_⟩;simp only[GT,Be,Oy,or_false,Prod.mk.injEq]at hg
 rcases hg with⟨rfl,rfl⟩ | ⟨rfl,rfl⟩ | ⟨rfl,rfl⟩ | ⟨rfl,rfl⟩ | ⟨rfl,rfl⟩ | ⟨rfl,rfl⟩<;>first
  | exact hm
  | exact Ajr h h4 Ai4 (by kernel_rfl) Tryz.underlying231
  | exact Ajr h h5 Ai5 (by kernel_rfl) Tryz.underlying231
  | exact Ab6 (ts:=[3,9,301,315]) (t:=315) h h1 Avi (by kernel_rfl) (by kernel_rfl) (by decide) (by kernel_rfl) (by kernel_rfl)
  | exact Ab6 (ts:=[9,244]) (t:=244) h h3 Ayz (by kernel_rfl) (by kernel_rfl) (by decide) (by kernel_rfl) (by kernel_rfl)
  | exact Ab6 (ts:=[206,260]) (t:=260) h h2 Avj (by kernel_rfl) (by kernel_rfl) (by decide) (by kernel_rfl) (by kernel_rfl)
end Go.Proofs.YtcoeikinocflnaaGreatDoor
/- The world of the witness: the settled one, the listed variables holding what their initialisers lay. -/
namespace Go.Proofs.YtcoeikinocflnaaGreatDoor
open Go.ChangeShapes Go.WideShapes Go.ChangeAt Go.RowKit KM
theorem A1y{a b:Bool}(h1:a=true)(h2:b=true):(a&&b)=true:=by rw[h1,h2];rfl
def setRow(d:DataW Unit):Obj->Obj
 | .cells _ t frozen=>.cells (flatV d).toArray t frozen
 | o=>o
def Ak3(b:Nat):Obj->Obj
 | .cells _ t frozen=>.cells #[.iface 316 (.pointer (some ⟨b,0,none⟩))] t frozen
 | o=>o
def Ajs:DataW Unit->Array UInt8
 | .iface _ (.ptr (.agg [.lit (.string l)]))=>l.toArray
 | _=>#[]
noncomputable def holds0 (os:Os):Array Obj:=(World.holding Tryz.prog os ⟨#[],#[],[]⟩).heap
noncomputable def laidWorld (os:Os):World:=
 { World.holding Tryz.prog os ⟨#[],#[],[]⟩ with heap:=((((((((((holds0 os).modify 9 (setRow Rows.laid_interleave_format_operators)).modify 2 (setRow Rows.laid_internal_strconv_uint64pow10)).modify 3 (setRow Rows.laid_math_bits_deBruijn32tab)).modify 4 (setRow Rows.laid_math_bits_deBruijn64tab)).modify 6 (setRow Rows.laid_unicode_utf8_acceptRanges)).modify 1 (setRow Rows.laid_interleave_token_keywords)).modify 5 (setRow Rows.laid_unicode_utf8_first)).modify 8 (Ak3 (holds0 os).size)).modify 7 (Ak3 ((holds0 os).size+1))).push (.cells #[.string ⟨Ajs Rows.laid_strconv_ErrRange⟩] 318 (0,0)) |>.push (.cells #[.string ⟨Ajs Rows.laid_strconv_ErrSyntax⟩] 318 (0,0)) }
end Go.Proofs.YtcoeikinocflnaaGreatDoor
/- What a row reads: bytes. -/
namespace Go.Proofs.YtcoeikinocflnaaGreatDoor
open Go.ChangeShapes Go.WideShapes Go.ChangeAt Go.RowKit KM
theorem Alx{P:Program}{t:TypeId}{pcs:List V}(hu:P.underlying t=some (.int .u8))(h:HasT P t pcs):∃ n:Nat,n<256/\pcs=[.int .u8 (n:Int)]:=by
 obtain⟨n,rfl,hw⟩:=Abj hu h;simp only[Lit.wf,Af,decide_eq_true_eq]at hw;have h1:(0:Int)<=n:=hw.1;have h2:n<=255:=hw.2;refine⟨n.toNat,by omega,?_⟩;rw[Zu h1]
theorem Ak4{P:Program}{t:TypeId}{pcs:List V}(hu:P.underlying t=some (.int .u16))(h:HasT P t pcs):∃ n:Nat,n<65536/\pcs=[.int .u16 (n:Int)]:=by
 obtain⟨n,rfl,hw⟩:=Abj hu h;simp only[Lit.wf,Af,decide_eq_true_eq]at hw;have h1:(0:Int)<=n:=hw.1;have h2:n<=65535:=hw.2;refine⟨n.toNat,by omega,?_⟩;rw[Zu h1]
theorem Ay0{pcs:List V}(h:HasT Tryz.prog 22 pcs):∃ z u,∃ l:List UInt8,pcs=[SL z u (Bz l)]/\l.length<=9223372036854775807:=by
 obtain⟨z,u,l,rfl,hl⟩:=Apb (f:=fun c:UInt8=>[V.int .u8 (c.toNat:Int)]) Tryz.underlying22 h fun r hr=>by
  obtain⟨n,hn,rfl⟩:=Alx Tryz.underlying5 hr;exact⟨UInt8.ofNat n,by simp[S3 hn]⟩
 exact⟨z,u,l,rfl,hl⟩
end Go.Proofs.YtcoeikinocflnaaGreatDoor
/- awake answers true: by a run of the plain machine in the kernel. -/
namespace Go.Proofs.YtcoeikinocflnaaGreatDoor.KM
open Go
theorem Apc:((H0 (Jz TT PT 3000) af19 [] []).bind fun p=>Dw p.2 p.1)=some (.bool true):=by kernel_rfl
theorem Aif:Fn TT PT 19 [] (.bool true):=Mo Na T19 rfl rfl Apc
