/- Walks: comparisons, keys. -/
import Derived.Test.YthlbbjcbmojocaaGreatDoorNu
import Derived.Shelf.Vars
import Derived.Test.YthlbbjcbmojocaaGreatDoorCards
import Derived.Test.YthlbbjcbmojocaaGreatDoorTie
import Derived.ProofKit
import Derived.OpenShut
import Derived.Carry
import Derived.Deep.DeepHandedRow
import Derived.Lib.LaidTab
set_option linter.all false
namespace Go.Proofs.YthlbbjcbmojocaaGreatDoor.KM
open Go
/-! keys -/
abbrev Key:=List UInt8 × List UInt8 × Int
def A8w(k:Key):List V:=[.str k.1,.str k.2.1,.int .i64 k.2.2]
/-! entries -/
structure Ent where
 kind:Int
 sites:List Key
 seen:Int
 missed:Int
 z:Bool:=true
 t:Nat:=0
def Ent.sl(x:Ent):V:=SL x.z x.t (x.sites.map A8w)
def Ent.row(x:Ent):List V:=[.int .i64 x.kind,x.sl,.int .i64 x.seen,.int .i64 x.missed]
end Go.Proofs.YthlbbjcbmojocaaGreatDoor.KM
/- What every law's closing needs: listed tables, the post of a law that answers true and leaves its arguments. -/
namespace Go.Proofs.YthlbbjcbmojocaaGreatDoor
open Go.ChangeShapes Go.WideShapes Go.ChangeAt Go.RowKit KM
mutual
def flatV{H:Type}:DataW H->List Value
 | .lit (.bool b)=>[.bool b]
 | .lit (.int k n)=>[.int k n]
 | .lit (.string l)=>[.string ⟨l.toArray⟩]
 | .agg ps=>O8 ps
 | _=>[]
def O8{H:Type}:List (DataW H)->List Value
 | []=>[]
 | d::ds=>flatV d++O8 ds
end
def Afb(P:Program)(ts:List TypeId):Bool:=ts.all fun t=>
 match P.underlying t with
 | some .bool | some (.int _) | some .string=>P.cellsOf t==1
 | some (.struct fs)=>fs.toList.all (fun f=>ts.contains f.type)&&N0 P fs.toList 0 (P.cellsOf t)
 | some (.array n e)=>ts.contains e&&P.cellsOf t==n*P.cellsOf e
 | _=>false
def Ah7{H:Type}{P:Program}{cs:List Value}{g:Field->Option (DataW H × List MemPlace)}:
  ∀ (fl:List Field) (s e:Nat) (xs:List (DataW H × List MemPlace)),N0 P fl s e=true->fl.mapM g=some xs->e=cs.length ->
   (∀ f∈fl,∀ x,g f=some x->(cs.drop f.offset).take (P.cellsOf f.type)=flatV x.1)->cs.drop s=O8 (xs.map (·.1))
 | [],s,e,xs,hc,hm,he,_=>by
  simp[N0]at hc;simp at hm;subst hc hm he;simp[O8]
 | f::fl,s,e,xs,hc,hm,he,hg=>by
  simp only[N0,Af,beq_iff_eq]at hc;rw[Hy]at hm
  cases hf:g f with
  | none=>simp[hf]at hm
  | some x=>
   cases hl:fl.mapM g with
   | none=>simp[hf,hl]at hm
   | some r=>
    simp[hf,hl]at hm;subst hm;have h1:=Ah7 fl _ e r hc.2 hl he (fun f' qP=>hg f' (Dj _ qP));have h2:=hg f (Dy) x hf;rw[hc.1]at h2;rw[Bb];simp only[O8];rw[<-h1,<-h2,<-Ni];exact(J7 _ _).symm
def Ain{H:Type}{cs:List Value}{m:Nat}{g:Nat->Option (DataW H × List MemPlace)}(hg:∀ i x,g i=some x->(cs.drop (i*m)).take m=flatV x.1):
  ∀ (n s:Nat) (xs:List (DataW H × List MemPlace)),(List.range' s n).mapM g=some xs->cs.length=(s+n)*m->cs.drop (s*m)=O8 (xs.map (·.1))
 | 0,s,xs,hm,hl=>by
  simp at hm;subst hm;simp at hl;simp[O8,hl]
 | n+1,s,xs,hm,hl=>by
  rw[Yf,Hy]at hm
  cases hf:g s with
  | none=>simp[hf]at hm
  | some x=>
   cases hr:(List.range' (s+1) n).mapM g with
   | none=>simp[hf,hr]at hm
   | some r=>
    simp[hf,hr]at hm;subst hm;have h1:=Ain hg n (s+1) r hr (by rw[hl];congr 1;omega);have h2:=hg s x hf;rw[Bb];simp only[O8];rw[<-h1,<-h2,Ep,<-Ni];exact(J7 _ _).symm
def Acy{H:Type}(qg:TypeId × Value->H)(P:Program)(w:World)(qh:Nat->Bool)(qq:Bool)(ts:List TypeId)(ql:Afb P ts=true):
  ∀ (fuel:Nat) (t:TypeId) (cs:List Value) (d:DataW H) (ps:List MemPlace),t∈ts->DataW.trod qg P w 0 qh qq fuel t cs=some (d,ps)->cs=flatV d
 | 0,_,_,_,_,_,h=>by simp[DataW.trod]at h
 | fuel+1,t,cs,d,ps,ht,h=>by
  have hp:=Bi.1 ql t ht;simp only[DataW.trod]at h
  split at h
  .simp at h;obtain⟨rfl,_⟩:=h;rfl
  .split at h
   .rename_i hk;simp at h;obtain⟨rfl,_⟩:=h;obtain⟨rfl,_⟩:=hk;rfl
   .cases h
  .rename_i hu;rw[hu]at hp;cases hp
  .split at h
   .simp at h;obtain⟨rfl,_⟩:=h;simp[flatV]
   .cases h
  .rename_i hu;rw[hu]at hp;cases hp
  .rename_i hu;rw[hu]at hp;cases hp
  .rename_i hu;rw[hu]at hp;cases hp
  .rename_i hu;rw[hu]at hp;cases hp
  .rename_i fs hu;rw[hu]at hp;simp only[Af,Bi,X4]at hp
   split at h
   .rename_i qB;simp only[Bm]at h;obtain⟨xs,hm,h⟩:=h;simp at h;obtain⟨rfl,_⟩:=h;have:=Ah7 (P:=P) (cs:=_) fs.toList 0 _ xs hp.2 hm qB.symm (fun f hf x hx=>Acy qg P w qh qq ts ql fuel f.type _ x.1 x.2 (hp.1 f hf) hx);simpa[flatV] using this
   .cases h
  .rename_i n e hu;rw[hu]at hp;simp only[Af,beq_iff_eq,X4]at hp
   split at h
   .rename_i qB;simp only[Bm]at h;obtain⟨xs,hm,h⟩:=h;simp at h;obtain⟨rfl,_⟩:=h;rw[List.range_eq_range']at hm;have:=Ain (cs:=_) (m:=P.cellsOf e) (fun i x hx=>Acy qg P w qh qq ts ql fuel e _ x.1 x.2 hp.1 hx) n 0 xs hm (by rw[qB,hp.2];simp);simpa[flatV] using this
   .cases h
  all_goals first
   | (rename_i hu;rw[hu]at hp;cases hp)
   | cases h
def Ad6{P:Program}{w:World}{n:String}{d:DataW Unit}:∀ {qb:List (String × DataW Unit)} {ps:List MemPlace},DataW.LaidVars P w qb ps->(n,d)∈qb ->
  ∃ g t cs fuel p,P.globalNamed n=some g/\(P.globals[g]?).map (·.type)=some t/\w.var? P n=some cs/\DataW.trod (fun _=>()) P w 0 (fun _=>true) false fuel t cs.toList=some (d,p)
 | [],_,_,hm=>by cases hm
 | (n',d')::r,ps,h,hm=>by
  obtain⟨g,t,cs,fuel,p,q,h1,h2,h3,h4,h5,_⟩:=h;rcases Bj.1 hm with e | hm
  .injection e with e1 e2;subst e1 e2;exact⟨g,t,cs,fuel,p,h1,h2,h3,h4⟩
  .exact Ad6 h5 hm
def Avl{P:Program}{w:World}{n:String}{d:DataW Unit}{g:Nat}{t:TypeId}{ts:List TypeId}{qb:List (String × DataW Unit)}(h:laidMet P qb w)(hm:(n,d)∈qb)
  (hg:P.globalNamed n=some g) (ht:(P.globals[g]?).map (·.type)=some t) (ql:Afb P ts=true) (qs:t∈ts):w.var? P n=some (flatV d).toArray:=by
 obtain⟨ps,h,_⟩:=h;obtain⟨g',t',cs,fuel,p,h1,h2,h3,h4⟩:=Ad6 h hm;obtain rfl:g'=g:=J9 (h1.symm.trans hg);obtain rfl:t'=t:=J9 (h2.symm.trans ht);rw[h3,<-Acy _ P w _ _ ts ql fuel t' _ d p qs h4]
def Ahv{H:Type}{qg:TypeId × Value->H}{P:Program}(hl:laidOutB P=true){W W':World}(hb:Below W.heap.size W W'){sp:Nat->Bool}:
  ∀ {ts:List TypeId} {vs:List Value} {ds:List (DataW H)} {ps:List MemPlace},(ts.all fun t=>P.readableRec t&&decide (t<P.types.size))=true->DataW.TrodAll qg P W 0 (fun _=>true) true ts vs ds ps ->
   (∀ x∈ps,x.block<W.heap.size)->(∀ x∈ps,sp x.block=true)->DataW.TrodAll qg P W' 0 sp true ts vs ds ps
 | [],[],[],_,_,h,_,_=>h
 | t::ts,v::vs,d::ds,ps,hr,h,qi,qy=>by
  obtain⟨p,q,h1,h2,rfl⟩:=h;simp only[Av,Af,decide_eq_true_eq]at hr;refine⟨p,q,WideElems.Trod_stays hl hr.1.1 hr.1.2 h1 (fun x hx=>hb.same (qi x (by simp[hx]))) (fun x hx=>qy x (by simp[hx])),?_,rfl⟩;exact Ahv hl hb (by simpa using hr.2) h2 (fun x hx=>qi x (by simp[hx])) (fun x hx=>qy x (by simp[hx]))
 | [],_::_,_,_,_,h,_,_=>by simp[DataW.TrodAll]at h
 | [],[],_::_,_,_,h,_,_=>by simp[DataW.TrodAll]at h
 | _::_,[],_,_,_,h,_,_=>by simp[DataW.TrodAll]at h
 | _::_,_::_,[],_,_,h,_,_=>by simp[DataW.TrodAll]at h
def Akr{H:Type}{qg:TypeId × Value->H}{P:Program}{f:Func}{s:ChangeSpec}{qm qu qj qt:Bool}{W W':World}{args:Array Value}{ds gs:List (DataW H)}{qa:List MemPlace}{tb:TypeId}
  (hW:DataW.Whole qg P f.params.toList s.vars qm W args.toList ds gs qa) (hl:laidOutB P=true) (ql:(f.params.toList.all fun t=>P.readableRec t&&decide (t<P.types.size))=true)
  (hv:s.vars=[]) (hr:f.resultTypes=#[tb]) (hu:P.underlying tb=some .bool) (h1:(s.fn H (ds++gs)).results=[.lit (.bool true)]) (h2:(s.fn H (ds++gs)).args=ds) (h3:(s.fn H (ds++gs)).vars=[])
  (hb:Below W.heap.size W W'):s.post qg P f qm qu qj qt W args (.bool true) W':=by
 have qi:∀ p∈qa,p.block<W.heap.size:=fun p hp=>hW.lt p hp
 have qF:∀ p∈qa,(fun b=>decide (b<W.heap.size)) p.block=true:=fun p hp=>by simpa using qi p hp
 have qx:∀ (b:Nat) (sp:Nat->Bool) (hd:Bool),DataW.TrodAll qg P W' b sp hd f.resultTypes.toList ((Value.bool true).resultList f.resultTypes.size) (s.fn H (ds++gs)).results []:=fun b sp hd=>by
  rw[hr,h1];exact trodAll_cons_mk (shut_bool hu _) trodAll_mk0
 obtain⟨p,q,hA,hV,qL,hz,hn⟩:=id hW;have hg:gs=[]/\q=[]:=by rw[hv]at hV;exact trodVars_none hV
 obtain⟨rfl,rfl⟩:=hg
 have qn:∀ sp:Nat->Bool,(∀ p∈qa,sp p.block=true)->DataW.TrodAll qg P W' 0 sp true f.params.toList args.toList (s.fn H (ds++[])).args qa:=fun sp qy=>by
  rw[h2];rw[Cm]at qL;subst qL;exact Ahv hl hb ql hA qi qy
 have qo:∀ sp:Nat->Bool,DataW.TrodVars qg P W' sp s.vars (s.fn H (ds++[])).vars []:=fun sp=>by
  rw[hv,h3];rfl
 refine⟨ds,[],qa,[],qa,[],hW,qx _ _ _,qn _ qF,qo _,World.keptBut_mono (fun p hp=>⟨hp,.inr (by simpa using hp)⟩) (hb.frame (·∈qa)),fun _=>?_⟩;refine⟨?_,_,_,([]++qa)++[],⟨[]++qa,[],trodAll_append (qn _ (fun _ _=>rfl)) (qx _ _ _),qo _,rfl,?_,?_⟩,?_⟩
 .exact ok_one hr rfl (okWide_bool_mk hu _)
 .intro b off hp;have qs:MemPlace.cell b off∈qa:=by simpa using hp
  rw[hb.frozen (qi _ qs)];exact hz b off qs
 .intro ha;simpa using hn ha
 .intro p hp _;simpa using hp
def Aks{P:Program}{w:World}{n:String}{g:Nat}{cs:Array Value}(h:w.var? P n=some cs)(hg:P.globalNamed n=some g):∃ e fz,w.heap[g]?=some (.cells cs e fz):=by
 unfold World.var? at h;rw[hg,C4]at h
 split at h
 .rename_i hh;injection h with h;subst h;exact⟨_,_,hh⟩
 .cases h
def Aeo{P:Program}{w:World}{n:String}{d:DataW Unit}{g:Nat}{t:TypeId}{ts:List TypeId}{qb:List (String × DataW Unit)}{r:List V}(h:laidMet P qb w)(hm:(n,d)∈qb)
  (hg:P.globalNamed n=some g) (ht:(P.globals[g]?).map (·.type)=some t) (ql:Afb P ts=true) (qs:t∈ts) (hr:Gz r (flatV d)=true) (hf:r.all Abw=true) :
  ∃ us e fz,w.heap[g]?=some (.cells us e fz)/\r.length=us.toList.length/\∀ j,j<r.length->Ua (r.getD j .und) (us.toList.getD j undef):=by
 obtain⟨e,fz,hh⟩:=Aks (Avl h hm hg ht ql qs) hg;obtain⟨h1,h2⟩:=Arh hr hf;exact⟨_,e,fz,hh,h1,h2⟩
def Ams{P:Program}{w:World}{n:String}{nm:String}{d:DataW Unit}{g:Nat}{t:TypeId}{ms:Array (String × TypeId)}{qb:List (String × DataW Unit)}(h:laidMet P qb w)(hm:(n,.iface nm d)∈qb)
  (hg:P.globalNamed n=some g) (ht:(P.globals[g]?).map (·.type)=some t) (hu:P.underlying t=some (.interface ms)) :
  ∃ us e fz,w.heap[g]?=some (.cells us e fz)/\[V.ifc].length=us.toList.length/\∀ j,j<[V.ifc].length->Ua ([V.ifc].getD j .und) (us.toList.getD j undef):=by
 obtain⟨ps,h,_⟩:=h;obtain⟨g',t',cs,fuel,p,h1,h2,h3,h4⟩:=Ad6 h hm;obtain rfl:g'=g:=J9 (h1.symm.trans hg);obtain rfl:t'=t:=J9 (h2.symm.trans ht);obtain⟨e,fz,hh⟩:=Aks h3 hg;refine⟨cs,e,fz,hh,?_⟩
 cases fuel with
 | zero=>simp[DataW.trod]at h4
 | succ fuel=>
  unfold DataW.trod at h4;rw[hu]at h4;generalize cs.toList=l at h4;rcases l with _ | ⟨x,_ | ⟨y,l⟩⟩
  .simp at h4
  .cases x with
   | iface u v=>
    refine⟨rfl,fun j hj=>.inr ?_⟩;obtain rfl:j=0:=by simp at hj;omega
    exact⟨rfl,_,_,rfl⟩
   | _=>simp at h4
  .cases x<;>simp at h4
def Azg{P:Program}{w:World}{g:Nat}{t:TypeId}{zero:Array Value}
  (h:w.ShapedOpen P) (hg:g<P.globals.size)
  (h0:((begin P (fun _ _=>0) default).world.heap[g]?).bind Obj.row?=some (zero,t)) (hz:zero.size=1)
  (hb:P.buildable t=true) (hc:P.cellTypes P.depth t=some [t]) (hu:P.underlying t=some (.int .i64)) :
  ∃ m,∃ us e fz,w.heap[g]?=some (.cells us e fz)/\[V.int .i64 m].length=us.toList.length/\∀ j,j<[V.int .i64 m].length->Ua ([V.int .i64 m].getD j .und) (us.toList.getD j undef):=by
 obtain⟨m,hm⟩:=cell_of_shapedOpen_int h hg h0 hz hb hc hu;obtain⟨cs,hh,hs,_⟩:=h.1 g zero t hg h0;refine⟨m,cs,_,_,hh,by simp;omega,fun j hj=>.inl ?_⟩;obtain rfl:j=0:=by simp at hj;omega
 have:cs[0]?=some (.int .i64 m):=by simpa[World.cell?,hh] using hm
 have:cs.toList.getD 0 undef=.int .i64 m:=by rw[As,Array.getElem?_toList,this];rfl
 rw[this];exact⟨by simp[Lx],rfl⟩
end Go.Proofs.YthlbbjcbmojocaaGreatDoor
/- What every closing of this seat's laws needs: the tables, plain data out of what a row reads, the world of the witness. -/
namespace Go.Proofs.YthlbbjcbmojocaaGreatDoor
open Go.ChangeShapes Go.WideShapes Go.ChangeAt Go.RowKit KM
def Ahz:ownKnob Tryz.prog.godebug=none:=by kernel_rfl
def Akt{P:Program}{t:TypeId}{k:IntKind}{qd:List V}(hu:P.underlying t=some (.int k))(h:HasT P t qd):∃ n,qd=[.int k n]/\(Lit.int k n).wf=true:=by
 cases h with
 | int hu' hw=>
  rw[hu]at hu';injection hu' with e;injection e with e;subst e;exact⟨_,rfl,hw⟩
 | _=>simp_all
def Arl{P:Program}{t:TypeId}{fs:Array Field}{qd:List V}(hu:P.underlying t=some (.struct fs))(h:HasT P t qd):∃ parts:List (List V),qd=parts.flatten/\parts.length=fs.size/\∀ i f,fs[i]?=some f->HasT P f.type (parts.getD i []):=by
 cases h with
 | struct parts hu' hl hT=>
  rw[hu]at hu';injection hu' with e;injection e with e;subst e;exact⟨parts,rfl,hl,hT⟩
 | _=>simp_all
def Ar5{P:Program}{t e:TypeId}{qd:List V}(hu:P.underlying t=some (.slice e))(h:HasT P t qd):qd=[.nils]\/∃ xs,qd=[.lst 0 xs]/\xs.length<=maxLen/\∀ i,i<xs.length->HasT P e (xs.getD i []):=by
 cases h with
 | nils _=>exact .inl rfl
 | lst hu' hl hT=>
  rw[hu]at hu';injection hu' with e;injection e with e;subst e;exact .inr ⟨_,rfl,hl,hT⟩
 | _=>simp_all
def Aku{α:Type}{f:α->List V}:∀ {xs:List (List V)},(∀ i,i<xs.length->∃ a,xs.getD i []=f a)->∃ l:List α,xs=l.map f
 | [],_=>⟨[],rfl⟩
 | x::xs,h=>by
  obtain⟨a,ha⟩:=h 0 (by simp);obtain⟨l,hl⟩:=Aku (xs:=xs) fun i hi=>h (i+1) (by simpa using hi)
  exact⟨a::l,by rw[hl];simp at ha;simp[ha]⟩
def Atd{P:Program}{t e:TypeId}{α:Type}{f:α->List V}{qd:List V}(hu:P.underlying t=some (.slice e))(h:HasT P t qd)(hf:∀ r,HasT P e r->∃ a,r=f a):∃ z u,∃ l:List α,qd=[SL z u (l.map f)]/\l.length<=9223372036854775807:=by
 rcases Ar5 hu h with rfl | ⟨xs,rfl,hl,hT⟩
 .exact⟨true,0,[],rfl,by simp⟩
 .obtain⟨l,rfl⟩:=Aku (f:=f) fun i hi=>hf _ (hT i hi)
  exact⟨false,0,l,by simp[SL],by simpa[maxLen] using hl⟩
def A3o{α:Type}{ps:List (List α)}(h:ps.length=4):∃ a b c d,ps=[a,b,c,d]:=by
 match ps,h with
 | [a,b,c,d],_=>exact⟨a,b,c,d,rfl⟩
def Azh:Tryz.prog.globalNamed "interleave/format.operators"=some 9:=by kernel_rfl
def A3p:Tryz.prog.globalNamed "interleave/token.keywords"=some 1:=by kernel_rfl
def Azi:Tryz.prog.globalNamed "internal/strconv.uint64pow10"=some 0:=by kernel_rfl
def Amt{w:World}{qb:List (String × DataW Unit)}(h:laidMet Tryz.prog qb w)(hs:w.ShapedOpen Tryz.prog)(h1:("interleave/format.operators",Rows.laid_interleave_format_operators)∈qb) (h2:("internal/strconv.uint64pow10",Rows.laid_internal_strconv_uint64pow10)∈qb)
  (h3:("interleave/token.keywords",Rows.laid_interleave_token_keywords)∈qb) (h4:("strconv.ErrSyntax",Rows.laid_strconv_ErrSyntax)∈qb) (h5:("strconv.ErrRange",Rows.laid_strconv_ErrRange)∈qb):∃ m,Ag9 (GT m) w:=by
 obtain⟨m,hm⟩:=Azg (g:=2) (zero:=#[.int .i64 0]) (t:=3) hs (of_decide_eq_true (by kernel_rfl)) (by kernel_rfl) rfl (by kernel_rfl) (by kernel_rfl) Tryz.underlying3;refine⟨m,fun g r hg=>?_⟩;simp only[GT,Bj,P9,or_false,Prod.mk.injEq]at hg
 rcases hg with⟨rfl,rfl⟩ | ⟨rfl,rfl⟩ | ⟨rfl,rfl⟩ | ⟨rfl,rfl⟩ | ⟨rfl,rfl⟩ | ⟨rfl,rfl⟩<;>first
  | exact hm
  | exact Ams h h4 Amq (by kernel_rfl) Tryz.underlying155
  | exact Ams h h5 Amr (by kernel_rfl) Tryz.underlying155
  | exact Aeo (ts:=[3,9,220,234]) (t:=234) h h1 Azh (by kernel_rfl) (by kernel_rfl) (by decide) (by kernel_rfl) (by kernel_rfl)
  | exact Aeo (ts:=[9,175]) (t:=175) h h3 A3p (by kernel_rfl) (by kernel_rfl) (by decide) (by kernel_rfl) (by kernel_rfl)
  | exact Aeo (ts:=[135,161]) (t:=161) h h2 Azi (by kernel_rfl) (by kernel_rfl) (by decide) (by kernel_rfl) (by kernel_rfl)
end Go.Proofs.YthlbbjcbmojocaaGreatDoor
/- The world of the witness: the settled one, the listed variables holding what their initialisers lay. -/
namespace Go.Proofs.YthlbbjcbmojocaaGreatDoor
open Go.ChangeShapes Go.WideShapes Go.ChangeAt Go.RowKit KM
def Apq{a b:Bool}(h1:a=true)(h2:b=true):(a&&b)=true:=by rw[h1,h2];rfl
def setRow(d:DataW Unit):Obj->Obj
 | .cells _ t frozen=>.cells (flatV d).toArray t frozen
 | o=>o
def Aoc(b:Nat):Obj->Obj
 | .cells _ t frozen=>.cells #[.iface 235 (.pointer (some ⟨b,0,none⟩))] t frozen
 | o=>o
def Amu:DataW Unit->Array UInt8
 | .iface _ (.ptr (.agg [.lit (.string l)]))=>l.toArray
 | _=>#[]
noncomputable def holds0 (os:Os):Array Obj:=(World.holding Tryz.prog os ⟨#[],#[],[]⟩).heap
noncomputable def laidWorld (os:Os):World:=
 { World.holding Tryz.prog os ⟨#[],#[],[]⟩ with heap:=((((((((((holds0 os).modify 9 (setRow Rows.laid_interleave_format_operators)).modify 0 (setRow Rows.laid_internal_strconv_uint64pow10)).modify 3 (setRow Rows.laid_math_bits_deBruijn32tab)).modify 4 (setRow Rows.laid_math_bits_deBruijn64tab)).modify 6 (setRow Rows.laid_unicode_utf8_acceptRanges)).modify 1 (setRow Rows.laid_interleave_token_keywords)).modify 5 (setRow Rows.laid_unicode_utf8_first)).modify 8 (Aoc (holds0 os).size)).modify 7 (Aoc ((holds0 os).size+1))).push (.cells #[.string ⟨Amu Rows.laid_strconv_ErrRange⟩] 237 (0,0)) |>.push (.cells #[.string ⟨Amu Rows.laid_strconv_ErrSyntax⟩] 237 (0,0)) }
end Go.Proofs.YthlbbjcbmojocaaGreatDoor
/- What a row reads: bytes. -/
namespace Go.Proofs.YthlbbjcbmojocaaGreatDoor
open Go.ChangeShapes Go.WideShapes Go.ChangeAt Go.RowKit KM
def Apr{P:Program}{t:TypeId}{qd:List V}(hu:P.underlying t=some (.int .u8))(h:HasT P t qd):∃ n:Nat,n<256/\qd=[.int .u8 (n:Int)]:=by
 obtain⟨n,rfl,hw⟩:=Akt hu h;simp only[Lit.wf,Af,decide_eq_true_eq]at hw;have h1:(0:Int)<=n:=hw.1;have h2:n<=255:=hw.2;refine⟨n.toNat,by omega,?_⟩;rw[Acf h1]
def Aod{P:Program}{t:TypeId}{qd:List V}(hu:P.underlying t=some (.int .u16))(h:HasT P t qd):∃ n:Nat,n<65536/\qd=[.int .u16 (n:Int)]:=by
 obtain⟨n,rfl,hw⟩:=Akt hu h;simp only[Lit.wf,Af,decide_eq_true_eq]at hw;have h1:(0:Int)<=n:=hw.1;have h2:n<=65535:=hw.2;refine⟨n.toNat,by omega,?_⟩;rw[Acf h1]
def Afc{qd:List V}(h:HasT Tryz.prog 22 qd):∃ z u,∃ l:List UInt8,qd=[SL z u (Bh l)]/\l.length<=9223372036854775807:=by
 obtain⟨z,u,l,rfl,hl⟩:=Atd (f:=fun c:UInt8=>[V.int .u8 (c.toNat:Int)]) Tryz.underlying22 h fun r hr=>by
  obtain⟨n,hn,rfl⟩:=Apr Tryz.underlying5 hr;exact⟨UInt8.ofNat n,by simp[U5 hn]⟩
 exact⟨z,u,l,rfl,hl⟩
end Go.Proofs.YthlbbjcbmojocaaGreatDoor
/- Both versions' numbers out of what a row reads. -/
namespace Go.Proofs.YthlbbjcbmojocaaGreatDoor
open Go.ChangeShapes Go.WideShapes Go.ChangeAt Go.RowKit KM
def Ajj{P:Program}{t:TypeId}{qd:List V}(hu:P.underlying t=some .bool)(h:HasT P t qd):∃ b,qd=[.bool b]:=by
 cases h with
 | bool hu'=>exact⟨_,rfl⟩
 | _=>simp_all
structure PairP where
 z0:Bool
 t0:Nat
 a:List UInt8
 z1:Bool
 t1:Nat
 b:List UInt8
 z2:Bool
 t2:Nat
 c:List UInt8
 un:Bool
def PairP.row(x:PairP):List V:=[SL x.z0 x.t0 (Bh x.a),SL x.z1 x.t1 (Bh x.b),SL x.z2 x.t2 (Bh x.c),.bool x.un]
def Amv{qd:List V}(h:HasT Tryz.prog 24 qd):∃ x:PairP,qd=x.row/\x.a.length<=9223372036854775807/\x.b.length<=9223372036854775807/\x.c.length<=9223372036854775807:=by
 obtain⟨ps,rfl,hl,hT⟩:=Arl Tryz.underlying24 h;obtain⟨a,b,c,d,rfl⟩:=A3o hl;have h0:=hT 0 _ rfl;have h1:=hT 1 _ rfl;have h2:=hT 2 _ rfl;have h3:=hT 3 _ rfl;simp at h0 h1 h2 h3;obtain⟨z0,t0,l0,rfl,k0⟩:=Afc h0;obtain⟨z1,t1,l1,rfl,k1⟩:=Afc h1;obtain⟨z2,t2,l2,rfl,k2⟩:=Afc h2;obtain⟨un,rfl⟩:=Ajj Tryz.underlying4 h3;exact⟨⟨z0,t0,l0,z1,t1,l1,z2,t2,l2,un⟩,rfl,k0,k1,k2⟩
end Go.Proofs.YthlbbjcbmojocaaGreatDoor
/- awake answers true: by a run of the plain machine in the kernel. -/
namespace Go.Proofs.YthlbbjcbmojocaaGreatDoor.KM
open Go
/-! expressions -/
structure Xp where
 op:Int
 n:Int
 nm:List UInt8
 z:Bool
 t:Nat
 l:List Xp
mutual
def Xp.row:Xp->List V
 | ⟨op,n,nm,z,t,l⟩=>[.int .i64 op,.int .i64 n,.str nm,SL z t (Xp.rows l)]
def Xp.rows:List Xp->List (List V)
 | []=>[]
 | x::l=>x.row::Xp.rows l
end
def Ajk:∀ l:List Xp,Xp.rows l=l.map Xp.row
 | []=>rfl
 | x::l=>by rw[Xp.rows,Ajk l];rfl
def A0(x:Xp):x.row=[.int .i64 x.op,.int .i64 x.n,.str x.nm,SL x.z x.t (x.l.map Xp.row)]:=by
 rw[<-Ajk];cases x;rfl
def Xp.zero:Xp:=⟨0,0,[],true,0,[]⟩
def Ci(op:Int):List UInt8:=
 match op with
 | 4=>[45] | 5=>[33] | 6=>[43] | 7=>[45] | 8=>[42] | 9=>[47] | 10=>[37] | 11=>[61,61] | 12=>[33,61] | 13=>[60] | 14=>[60,61] | 15=>[62] | 16=>[62,61] | 17=>[38,38] | 18=>[124,124] | _=>[]
def Bo(op:Int):Int:=
 match op with
 | 4=>6 | 5=>6 | 6=>4 | 7=>4 | 8=>5 | 9=>5 | 10=>5 | 11=>3 | 12=>3 | 13=>3 | 14=>3 | 15=>3 | 16=>3 | 17=>2 | 18=>1 | _=>7
def Ux(op:Int):Int:=if op=1\/op=2 then 0 else if 3<=op/\op<=5 then 1 else if 6<=op/\op<=18 then 2 else -1
def Dr(o:Int × List UInt8)(qc:Int):List UInt8:=if Bo o.1<qc then 40::(o.2++[41]) else o.2
def Gq(op:Int):Int:=if Bo op=3 then 4 else Bo op
def Dv(op n:Int)(nm:List UInt8)(ts:List (Int × List UInt8)):List UInt8:=
 if op=1 then Ct n else if op=2 then nm else
 match ts with
 | [a]=>if op=3 then nm++91::(a.2++[93]) else Ci op++Dr a 6
 | [a,b]=>Dr a (Gq op)++32::(Ci op++32::Dr b (Bo op+1))
 | _=>[]
mutual
def Xp.txt:Xp->List UInt8
 | ⟨op,n,nm,_,_,l⟩=>Dv op n nm (Xp.txts l)
def Xp.txts:List Xp->List (Int × List UInt8)
 | []=>[]
 | x::l=>(x.op,x.txt)::Xp.txts l
end
def Ajl:∀ l:List Xp,Xp.txts l=l.map fun x=>(x.op,x.txt)
 | []=>rfl
 | x::l=>by rw[Xp.txts,Ajl l];rfl
def Ez(x:Xp):x.txt=Dv x.op x.n x.nm (x.l.map fun x=>(x.op,x.txt)):=by
 rw[<-Ajl];cases x;rfl
inductive Cn:Xp->Prop
 | num {n:Int} {nm:List UInt8} {z:Bool} {t:Nat} : -9223372036854775808<=n/\n<=9223372036854775807->Cn ⟨1,n,nm,z,t,[]⟩
 | name {n:Int} {nm:List UInt8} {z:Bool} {t:Nat}:Cn ⟨2,n,nm,z,t,[]⟩
 | idx {n:Int} {nm:List UInt8} {z:Bool} {t:Nat} {a:Xp}:Cn a->Cn ⟨3,n,nm,z,t,[a]⟩
 | un {op n:Int} {nm:List UInt8} {z:Bool} {t:Nat} {a:Xp}:op=4\/op=5->Cn a->Cn ⟨op,n,nm,z,t,[a]⟩
 | bin {op n:Int} {nm:List UInt8} {z:Bool} {t:Nat} {a b:Xp}:6<=op/\op<=18->Cn a->Cn b->Cn ⟨op,n,nm,z,t,[a,b]⟩
/-! statements -/
structure Sp where
 op:Int
 line:Int
 nm:List UInt8
 arg:List UInt8
 iz:Bool
 it:Nat
 idx:List Xp
 ex:Xp
 bz:Bool
 bt:Nat
 body:List Sp
 ez:Bool
 et:Nat
 els:List Sp
mutual
def Sp.row:Sp->List V
 | ⟨op,line,nm,arg,iz,it,idx,ex,bz,bt,body,ez,et,els⟩=>[.int .i64 op,.int .i64 line,.str nm,.str arg,SL iz it (idx.map Xp.row)]++ex.row++[SL bz bt (Sp.rows body),SL ez et (Sp.rows els)]
def Sp.rows:List Sp->List (List V)
 | []=>[]
 | x::l=>x.row::Sp.rows l
end
def Ado:∀ l:List Sp,Sp.rows l=l.map Sp.row
 | []=>rfl
 | x::l=>by rw[Sp.rows,Ado l];rfl
def Ox(s:Sp):s.row=[.int .i64 s.op,.int .i64 s.line,.str s.nm,.str s.arg,SL s.iz s.it (s.idx.map Xp.row)]++s.ex.row++[SL s.bz s.bt (s.body.map Sp.row),SL s.ez s.et (s.els.map Sp.row)]:=by
 rw[<-Ado,<-Ado];cases s;rfl
def Cy(op:Int):List UInt8:=
 match op with
 | 2=>[105,102] | 3=>[119,104,105,108,101] | 4=>[108,111,99,107] | 5=>[114,101,97,100] | 6=>[119,114,105,116,101] | 7=>[116,114,97,110,115,97,99,116,105,111,110] | 8=>[97,116,111,109,105,99] | 9=>[119,97,105,116] | 10=>[110,111,116,105,102,121] | 11=>[110,111,116,105,102,121,97,108,108] | 12=>[115,112,97,119,110] | 13=>[106,111,105,110] | 14=>[115,101,116] | 15=>[103,101,116] | _=>[]
def Fa(l:List Xp):List UInt8:=match l with
 | a::_=>91::(a.txt++[93])
 | []=>[]
def Ck(s:Sp):List UInt8:=
 if s.op=1 then s.nm++(Fa s.idx++32::61::32::s.ex.txt)
 else if s.op=2\/s.op=3 then Cy s.op++32::s.ex.txt
 else if s.op=7\/s.op=8 then Cy s.op
 else if s.op=14 then Cy s.op++32::(s.nm++32::s.ex.txt)
 else if s.op=15 then Cy s.op++32::(s.nm++32::s.arg)
 else Cy s.op++32::s.nm
def D6(d:Nat):List UInt8:=List.replicate (2*d) 32
def Bu(op:Int):Bool:=decide (2<=op)&&decide (op<=8)
mutual
def Sp.txt:Nat->Sp->List UInt8
 | d,⟨op,line,nm,arg,iz,it,idx,ex,bz,bt,body,ez,et,els⟩=>
  D6 d++(Ck ⟨op,line,nm,arg,iz,it,idx,ex,bz,bt,body,ez,et,els⟩ ++
   if Bu op then 32::123::10::(Sp.txts (d+1) body++((if els.isEmpty then [] else D6 d++125::32::101::108::115::101::32::123::10::Sp.txts (d+1) els)++(D6 d++[125,10]))) else [59,10])
def Sp.txts:Nat->List Sp->List UInt8
 | _,[]=>[]
 | d,x::l=>x.txt d++Sp.txts d l
end
inductive CnS:Sp->Prop
 | mk {s:Sp}:1<=s.op/\s.op<=15->s.idx.length<=1->(s.op≠1->s.idx=[])->(∀ x∈s.idx,Cn x)->((s.op=1\/s.op=2\/s.op=3\/s.op=14)->Cn s.ex)->(Bu s.op=false->s.body=[])->(s.op≠2->s.els=[])->(∀ x∈s.body,CnS x)->(∀ x∈s.els,CnS x)->CnS s
/-! declarations, threads, programs -/
structure Dp where
 kind:Int
 line:Int
 nm:List UInt8
 size:Int
 init:Int
 on:List UInt8
def Dp.row(d:Dp):List V:=[.int .i64 d.kind,.int .i64 d.line,.str d.nm,.int .i64 d.size,.int .i64 d.init,.str d.on]
def Jc(n:Int):List UInt8:=if n=0 then [] else 32::61::32::Ct n
def E1(d:Dp):List UInt8:=
 if d.kind=1 then [118,97,114,32]++(d.nm++((if d.size=0 then [] else 91::(Ct d.size++[93]))++Jc d.init))
 else if d.kind=2 then [118,111,108,97,116,105,108,101,32]++(d.nm++Jc d.init)
 else if d.kind=3 then [109,117,116,101,120,32]++d.nm
 else if d.kind=4 then [114,119,108,111,99,107,32]++d.nm
 else if d.kind=5 then [99,111,110,100,32]++(d.nm++32::d.on)
 else [102,117,116,117,114,101,32]++d.nm
structure CnD (d:Dp):Prop where
 kind:1<=d.kind/\d.kind<=6
 size:0<=d.size/\d.size<=9223372036854775807/\(d.kind≠1->d.size=0)
 init : -9223372036854775808<=d.init/\d.init<=9223372036854775807/\(d.kind≠1->d.kind≠2->d.init=0)
structure Tp where
 nm:List UInt8
 line:Int
 lz:Bool
 lt:Nat
 locals:List (List UInt8)
 bz:Bool
 bt:Nat
 body:List Sp
def Tp.row(t:Tp):List V:=[.str t.nm,.int .i64 t.line,SL t.lz t.lt (t.locals.map fun s=>[V.str s]),SL t.bz t.bt (t.body.map Sp.row)]
def Eo:List (List UInt8)->List UInt8
 | []=>[]
 | [a]=>a
 | a::b::l=>a++44::32::Eo (b::l)
def Ew(t:Tp):List UInt8:=[116,104,114,101,97,100,32]++(t.nm++40::(Eo t.locals++41::32::123::10::(Sp.txts 1 t.body++[125,10])))
structure Gp where
 dz:Bool
 dt:Nat
 decls:List Dp
 tz:Bool
 tt:Nat
 thrs:List Tp
def Gp.row(p:Gp):List V:=[SL p.dz p.dt (p.decls.map Dp.row),SL p.tz p.tt (p.thrs.map Tp.row)]
def Fy(p:Gp):List UInt8:=(p.decls.map fun d=>E1 d++[59,10]).flatten++(p.thrs.map Ew).flatten
structure CnG (p:Gp):Prop where
 decls:∀ d∈p.decls,CnD d
 thrs:∀ t∈p.thrs,∀ s∈t.body,CnS s
def Pf{x:Xp}(h:Cn x):1<=x.op/\x.op<=18:=by
 cases h with
 | num _=>exact⟨by simp,by simp⟩
 | name=>exact⟨by simp,by simp⟩
 | idx _=>exact⟨by simp,by simp⟩
 | un h _=>simp only;omega
 | bin h _ _=>simp only;omega
def Wy{op:Int}(h:1<=op/\op<=18):∃ i:Nat,i<18/\op=(i:Int)+1:=⟨(op - 1).toNat,by omega,by omega⟩
def Ate:((List.range 18).all fun i=>match (I9 (Mc TT PT 300) af113 [.int .i64 ((i:Int)+1)] []).bind fun p=>Ei p.2 p.1 with
  | some (.tup [.str s,.int .i64 n])=>s==Ci ((i:Int)+1)&&n==Bo ((i:Int)+1)
  | _=>false)=true:=by kernel_rfl
def Tc{op:Int}(h:1<=op/\op<=18):Fn TT PT 113 [.int .i64 op] (.tup [.str (Ci op),.int .i64 (Bo op)]):=by
 obtain⟨i,hi,rfl⟩:=Wy h;have hr:=Bi.1 Ate i (E5.2 hi)
 split at hr
 .rename_i s n hv;simp only[Af,beq_iff_eq]at hr;rw[<-hr.1,<-hr.2];exact O4 Px T113 rfl rfl hv
 .cases hr
def Azj:((List.range 18).all fun i=>match (I9 (Mc TT PT 300) af168 [.int .i64 ((i:Int)+1)] []).bind fun p=>Ei p.2 p.1 with
  | some (.agg [.str s,.int .i64 n])=>s==Ci ((i:Int)+1)&&n==Bo ((i:Int)+1)
  | _=>false)=true:=by kernel_rfl
def Uc{op:Int}(h:1<=op/\op<=18):Fn TT PT 168 [.int .i64 op] (.agg [.str (Ci op),.int .i64 (Bo op)]):=by
 obtain⟨i,hi,rfl⟩:=Wy h;have hr:=Bi.1 Azj i (E5.2 hi)
 split at hr
 .rename_i s n hv;simp only[Af,beq_iff_eq]at hr;rw[<-hr.1,<-hr.2];exact O4 Px T168 rfl rfl hv
 .cases hr
def Azk:((List.range 18).all fun i=>decide ((Ci ((i:Int)+1)).length<=2/\1<=Bo ((i:Int)+1)/\Bo ((i:Int)+1)<=7))=true:=by decide
def Aam{op:Int}(h:1<=op/\op<=18):(Ci op).length<=2/\1<=Bo op/\Bo op<=7:=by
 obtain⟨i,hi,rfl⟩:=Wy h;exact of_decide_eq_true (Bi.1 Azk i (E5.2 hi))
def Df(x:Xp):Dg (.agg x.row)=true:=by
 rw[A0];simp only[go_sem]
def Am{a b c:List UInt8}(h:a.length+b.length<=9223372036854775807)(hc:a++b=c):Ai .add a b=some (.str c):=by
 simp only[Ai];rw[if_pos h,hc]
def Lu(o:Int × List UInt8)(qc:Int):o.2.length<=(Dr o qc).length/\(Dr o qc).length<=o.2.length+2:=by
 unfold Dr
 split
 .simp only[Ak,Aj,C0];omega
 .omega
def Afd{x:Xp}(he:Fn TT PT 89 [.agg x.row] (.str x.txt))(ho:1<=x.op/\x.op<=18)(hl:x.txt.length<=1000000000000000)(qc:Int):Fn TT PT 114 [.agg x.row,.int .i64 qc] (.str (Dr (x.op,x.txt) qc)):=by
 have hs:=Tc ho;have qk:=Df x;rw[A0]at he qk ⊢;refine Bn T114 rfl ?_;have a1:Ai .add [40] x.txt=some (.str (40::x.txt)):=Am (by simp;omega) rfl;have a2:Ai .add (40::x.txt) [41]=some (.str (40::(x.txt++[41]))):=Am (by simp;omega) (by simp);unfold Dr;by_cases h:Bo x.op<qc
 .rw[if_pos h];have f:(Bo x.op<qc)=True:=eq_true h;simp only[go_sem];refine Ad hs (by simp only[go_sem]) ?_;simp only[go_sem,f];refine Ad he (by simp only[go_sem]) ?_;simp only[go_sem,↓a1,↓a2];exact E7 rfl
 .rw[if_neg h];have f:(Bo x.op<qc)=False:=eq_false h;simp only[go_sem];refine Ad hs (by simp only[go_sem]) ?_;simp only[go_sem,f];refine Ad he (by simp only[go_sem]) ?_;simp only[go_sem];exact E7 rfl
set_option maxHeartbeats 4000000 in
def Vw{x:Xp}(h:Cn x):x.txt.length<=1000000000000000->Fn TT PT 89 [.agg x.row] (.str x.txt):=by
 induction h with
 | @num n nm z t hn=>
  intro hl;have hs:=Tc (op:=1) (by omega);rw[A0,Ez];simp only[By,Dv,if_true];refine Bn T89 rfl ?_;have hf:M8 [.int .i64 n,.int .i64 10]=some (.str (Ct n)):=by unfold M8;exact if_pos hn
  simp only[go_sem];refine Ad hs (by simp only[go_sem]) ?_;simp only[go_sem,Int.reduceBEq];refine Ft P35 (by simp only[go_sem]) hf ?_;simp only[go_sem];exact E7 rfl
 | @name n nm z t=>
  intro hl;have hs:=Tc (op:=2) (by omega);rw[A0,Ez];simp only[By,Dv];refine Bn T89 rfl ?_;simp only[go_sem];refine Ad hs (by simp only[go_sem]) ?_;simp only[go_sem,Int.reduceBEq];exact E7 rfl
 | @idx n nm z t a ha ih=>
  intro hl;have hs:=Tc (op:=3) (by omega);rw[A0];rw[Ez]at hl ⊢;simp only[Bb,By,Dv]at hl ⊢;have hl:nm.length+a.txt.length+2<=1000000000000000:=by simp at hl;omega
  have hi:=ih (by omega);rw[A0 a]at hi ⊢;refine Bn T89 rfl ?_;simp only[go_sem];refine Ad hs (by simp only[go_sem]) ?_;simp only[go_sem,Int.reduceBEq];have a1:Ai .add nm [91]=some (.str (nm++[91])):=Am (by simp;omega) rfl;have a2:Ai .add (nm++[91]) a.txt=some (.str (nm++91::a.txt)):=Am (by simp;omega) (by simp);have a3:Ai .add (nm++91::a.txt) [93]=some (.str (nm++91::(a.txt++[93]))):=Am (by simp;omega) (by simp);refine Ag (by kernel_rfl) ?_;simp only[go_sem,↓a1];refine A1 hi (by simp only[go_sem]) ?_;simp only[go_sem,↓a2,↓a3];exact E7 rfl
 | @un op n nm z t a qG ha ih=>
  intro hl;have ho:1<=op/\op<=18:=by omega
  have hs:=Tc ho
  have qE:Bo op=6:=by rcases qG with rfl | rfl<;>rfl
  rw[qE]at hs;obtain⟨s1,-,-⟩:=Aam ho;rw[A0];rw[Ez]at hl ⊢
  have e1:Dv op n nm [(a.op,a.txt)]=Ci op++Dr (a.op,a.txt) 6:=by
   unfold Dv;rw[if_neg (by omega),if_neg (by omega)];simp only;rw[if_neg (by omega)]
  simp only[Bb,By,e1,Aj]at hl ⊢;obtain⟨p1,p2⟩:=Lu (a.op,a.txt) 6;have hi:=Afd (ih (by simp only at p1;omega)) (Pf ha) (by simp only at p1;omega) 6;rw[A0 a]at hi ⊢;refine Bn T89 rfl ?_;have b1:(op==1)=false:=by simp;omega
  have b2:(op==2)=false:=by simp;omega
  have b3:(op==3)=false:=by simp;omega
  simp only[go_sem];refine Ad hs (by simp only[go_sem]) ?_;simp only[go_sem,Int.reduceBEq,b1,b2,b3];refine Ad hi (by simp only[go_sem]) ?_;have a1:Ai .add (Ci op) (Dr (a.op,a.txt) 6)=some (.str (Ci op++Dr (a.op,a.txt) 6)):=Am (by omega) rfl;simp only[go_sem,↓a1];exact E7 rfl
 | @bin op n nm z t a b qG ha hb iha ihb=>
  intro hl;have ho:1<=op/\op<=18:=by omega
  have hs:=Tc ho;obtain⟨s1,s2,s3⟩:=Aam ho
  have qE:Bo op<6:=by
   obtain⟨i,hi,rfl⟩:=Wy ho;have:((List.range 18).all fun i=>decide (5<=i->Bo ((i:Int)+1)<6))=true:=by decide
   exact of_decide_eq_true (Bi.1 this i (E5.2 hi)) (by omega)
  rw[A0];rw[Ez]at hl ⊢
  have e1:Dv op n nm [(a.op,a.txt),(b.op,b.txt)]=Dr (a.op,a.txt) (Gq op)++32::(Ci op++32::Dr (b.op,b.txt) (Bo op+1)):=by
   unfold Dv;rw[if_neg (by omega),if_neg (by omega)]
  simp only[Bb,By,e1,Aj,Ak]at hl ⊢;obtain⟨p1,p2⟩:=Lu (a.op,a.txt) (Gq op);obtain⟨q1,q2⟩:=Lu (b.op,b.txt) (Bo op+1);simp only at p1 q1;have hi:=Afd (iha (by omega)) (Pf ha) (by omega) (Gq op);have hj:=Afd (ihb (by omega)) (Pf hb) (by omega) (Bo op+1);rw[A0 a]at hi ⊢;rw[A0 b]at hj ⊢;refine Bn T89 rfl ?_;have b1:(op==1)=false:=by simp;omega
  have b2:(op==2)=false:=by simp;omega
  have b3:(op==3)=false:=by simp;omega
  have b6:(Bo op==6)=false:=by simp;omega
  have f6:(Bo op<6)=True:=eq_true qE;have w1:IntKind.i64.wrap (Bo op+1)=Bo op+1:=C7 (by omega);generalize Dr (a.op,a.txt) (Gq op)=pa at hl hi p1 p2 ⊢;generalize Dr (b.op,b.txt) (Bo op+1)=pb at hl hj q1 q2 ⊢;have a1:Ai .add pa [32]=some (.str (pa++[32])):=Am (by simp;omega) rfl;have a2:Ai .add (pa++[32]) (Ci op)=some (.str (pa++32::Ci op)):=Am (by simp;omega) (by simp);have a3:Ai .add (pa++32::Ci op) [32]=some (.str (pa++32::(Ci op++[32]))):=Am (by simp;omega) (by simp);have a4:Ai .add (pa++32::(Ci op++[32])) pb=some (.str (pa++32::(Ci op++32::pb))):=Am (by simp;omega) (by simp);cases h3:(Bo op==3)
  all_goals
   have qv:Gq op=(if(Bo op==3)=true then 4 else Bo op):=by unfold Gq;simp
   rw[h3]at qv;simp only[if_true,if_false,Fb]at qv;rw[qv]at hi;simp only[go_sem];refine Ad hs (by simp only[go_sem]) ?_;simp only[go_sem,Int.reduceBEq,b1,b2,b3,b6,f6,h3];refine Ag (by kernel_rfl) ?_;simp only[go_sem];refine A1 hi (by simp only[go_sem]) ?_;simp only[go_sem,↓a1,↓a2,↓a3,w1];refine A1 hj (by simp only[go_sem]) ?_;simp only[go_sem,↓a4];exact E7 rfl
def Aps(a b:Nat):(a:Int).tmod (b:Int)=((a % b:Nat):Int):=(Int.ofNat_tmod a b).symm
def Ar6(k:IntKind)(n d:Nat):D2 (some (.int k (n:Int))) d=some n:=by
 simp only[D2];rw[if_pos (by omega),P8]
attribute [go_sem ↓] Ar6
attribute [go_sem] Ac2 Ay Int.natCast_nonneg
def Atf(s:List UInt8)(qp qe c:Nat)(hs:s.length<=100000000000)(qU:qp<65536)(hc:c<256):
  ∃ t,Fn TT PT 12 [.str s,.int .u16 qp,.int .u16 qe,.int .u8 c] (.str t)/\t.length<=2*s.length+1:=by
 have hb:I0 [[V.int .u8 (c:Int)]]=some [UInt8.ofNat c]:=by
  simp[I0];omega
 cases he:(s==[]);rotate_left
 .refine⟨[UInt8.ofNat c],Bn T12 rfl ?_,by simp⟩;simp only[go_sem,Int.reduceEq,he,hb];exact E7 rfl
 have qO:s≠[]:=by simpa using he
 have hp:0<s.length:=List.length_pos_iff.2 qO;have hz:((s.length:Int)=0)=False:=eq_false (by omega);have hi:qp % s.length<s.length:=Nm _ hp;have w1:IntKind.i64.wrap (qp:Int)=qp:=C7 (by omega);have r1:=Aps qp s.length;generalize qp % s.length=i at hi r1;have i1:=Bf (show i<9223372036854775807 by omega);have g1:(i<=s.length)=True:=eq_true (by omega);have g2:(i+1<=s.length)=True:=eq_true (by omega);have l1:(s.take i).length<=s.length:=by simp;omega
 have l2:(s.drop i).length<=s.length:=by simp
 have l3:(s.drop (i+1)).length+(s.take i).length+1=s.length:=by simp;omega
 have l4:(s.drop i).length+(s.take i).length=s.length:=by simp;omega
 generalize hA:s.take i=A at l1 l3 l4;generalize hB:s.drop i=B at l2 l4;generalize hC:s.drop (i+1)=C at l3;have k1:(A.length+1<=9223372036854775807)=True:=eq_true (by omega);have k2:(A.length+1+C.length<=9223372036854775807)=True:=eq_true (by omega);have k3:(A.length+1+B.length<=9223372036854775807)=True:=eq_true (by omega);have k4:(A.length+C.length<=9223372036854775807)=True:=eq_true (by omega);have k5:(s.length+B.length<=9223372036854775807)=True:=eq_true (by omega);have t6:(qe:Int).tmod 6=((qe % 6:Nat):Int):=Aps qe 6;have h6:qe % 6=0\/qe % 6=1\/qe % 6=2\/qe % 6=3\/qe % 6=4\/qe % 6=5:=by omega
 rcases h6 with h6 | h6 | h6 | h6 | h6 | h6
 .have r6:(qe:Int).tmod 6=0:=by rw[t6,h6];rfl
  refine⟨A++[UInt8.ofNat c]++C,Bn T12 rfl ?_,by simp;omega⟩;simp only[go_sem,Int.reduceEq,he,hz,w1,r1,r6,Int.reduceBEq,g1,g2,hA,hB,hC,k5,Ah,Cz];refine Ag (by kernel_rfl) ?_;simp only[go_sem,Int.reduceEq,hb,i1,g1,g2,hA,hB,hC,k1,k2,k3,k4,k5,Ah,Cz,Aj,Ak,C0];exact E7 rfl
 .have r6:(qe:Int).tmod 6=1:=by rw[t6,h6];rfl
  refine⟨A++[UInt8.ofNat c]++B,Bn T12 rfl ?_,by simp;omega⟩;simp only[go_sem,Int.reduceEq,he,hz,w1,r1,r6,Int.reduceBEq,g1,g2,hA,hB,hC,k5,Ah,Cz];refine Ag (by kernel_rfl) ?_;simp only[go_sem,Int.reduceEq,hb,i1,g1,g2,hA,hB,hC,k1,k2,k3,k4,k5,Ah,Cz,Aj,Ak,C0];exact E7 rfl
 .have r6:(qe:Int).tmod 6=2:=by rw[t6,h6];rfl
  refine⟨A++C,Bn T12 rfl ?_,by simp;omega⟩;simp only[go_sem,Int.reduceEq,he,hz,w1,r1,r6,Int.reduceBEq,g1,g2,hA,hB,hC,k5,Ah,Cz];refine Ag (by kernel_rfl) ?_;simp only[go_sem,Int.reduceEq,hb,i1,g1,g2,hA,hB,hC,k1,k2,k3,k4,k5,Ah,Cz,Aj,Ak,C0];exact E7 rfl
 .have r6:(qe:Int).tmod 6=3:=by rw[t6,h6];rfl
  refine⟨A,Bn T12 rfl ?_,by omega⟩;simp only[go_sem,Int.reduceEq,he,hz,w1,r1,r6,Int.reduceBEq,g1,g2,hA,hB,hC,k5,Ah,Cz];exact E7 rfl
 .have r6:(qe:Int).tmod 6=4:=by rw[t6,h6];rfl
  refine⟨s++B,Bn T12 rfl ?_,by simp;omega⟩;simp only[go_sem,Int.reduceEq,he,hz,w1,r1,r6,Int.reduceBEq,g1,g2,hA,hB,hC,k5,Ah,Cz];exact E7 rfl
 .have r6:(qe:Int).tmod 6=5:=by rw[t6,h6];rfl
  refine⟨s,Bn T12 rfl ?_,by omega⟩;simp only[go_sem,Int.reduceEq,he,hz,w1,r1,r6,Int.reduceBEq,g1,g2,hA,hB,hC,k5,Ah,Cz];exact E7 rfl
def Avm(x:Xp):x.row.length=4:=by rw[A0];rfl
def Lr(s:Sp):s.row.length=11:=by rw[Ox,A0];rfl
def F2(s:Sp):Dg (.agg s.row)=true:=by
 rw[Ox,A0];simp only[go_sem]
def A7i(s:Sp):s.row.take 11=s.row:=Mj (by rw[Lr];omega)
def Atg(d:Nat)(hd:d<=100000000000000):Fn TT PT 56 [.int .i64 (d:Int)] (.str (D6 d)):=by
 refine Bn T56 rfl ?_;simp only[go_sem];refine Bv (α:=Nat) (fun i=>d - i) (fun i=>[(0,.int .i64 (d:Int)),(3,.str (D6 i)),(4,.int .i64 (i:Int))]) (fun _=>[]) (fun i=>i<=d) ?_ 0 (Ay _);rintro i hi ih;refine Bw (by delta lp56_0;exact rfl) ?_;rcases Br i d with h | h
 .have a1:Ai .add (D6 i) [32,32]=some (.str (D6 (i+1))):=Am (by simp[D6];omega) (by
   unfold D6;rw[show 2*(i+1)=2*i+2 by omega,<-List.replicate_append_replicate]
   rfl)
  simp only[go_sem,Bp h,↓a1,Bf (show i<9223372036854775807 by omega)];exact Bd (ih (i+1) (by omega) (by omega)) rfl
 .obtain rfl:i=d:=by omega
  simp only[go_sem,Ce h];exact E7 rfl
def Im(d:Nat):(D6 d).length=2*d:=by simp[D6]
def Gt(op:Int):List UInt8:=if Bu op then [32,123] else [59]
def Akv(l:List Xp):(Fa l).length<=(match l with | a::_=>a.txt.length+2 | []=>0):=by
 cases l<;>simp[Fa]
def Avn{s:Sp}(h:CnS s)(hl:(Ck s).length<=100000000000000):Fn TT PT 57 [.agg s.row] (.str (Ck s++Gt s.op)):=by
 obtain⟨h1,h2,h3,h4,h5,-,-,-,-⟩:=h;obtain⟨op,line,nm,arg,iz,it,idx,ex,bz,bt,body,ez,et,els⟩:=s;simp only at h1 h2 h3 h4 h5 hl ⊢;rw[Ox];simp only;have hw:op=1\/op=2\/op=3\/op=4\/op=5\/op=6\/op=7\/op=8\/op=9\/op=10\/op=11\/op=12\/op=13\/op=14\/op=15:=by omega
 refine Bn T57 rfl ?_;rw[A0];rcases hw with rfl | hw
 .have hx:=Vw (h5 (.inl rfl));simp only[Ck,if_true,Aj,Ak]at hl ⊢;have hx:=hx (by omega);rw[A0]at hx
  cases idx with
  | nil=>
   simp only[Fa,C0]at hl ⊢;have a1:Ai .add nm []=some (.str nm):=Am (by simp;omega) (by simp);have a2:Ai .add nm [32,61,32]=some (.str (nm++[32,61,32])):=Am (by simp;omega) rfl;have a3:Ai .add (nm++[32,61,32]) ex.txt=some (.str (nm++32::61::32::ex.txt)):=Am (by simp;omega) (by simp);have a4:Ai .add (nm++32::61::32::ex.txt) [59]=some (.str (nm++32::61::32::(ex.txt++[59]))):=Am (by simp;omega) (by simp);simp only[go_sem,Int.reduceBEq,Int.reduceLT];refine Ag (by kernel_rfl) ?_;simp only[go_sem,↓a1,↓a2];refine A1 hx (by simp only[go_sem]) ?_;simp only[go_sem,↓a3,↓a4];exact Ao rfl (by simp[Gt,Bu])
  | cons a r=>
   have ha:=Vw (h4 a Dy);simp only[Fa,Ak,Aj]at hl ⊢;have ha:=ha (by omega);rw[A0]at ha;have r0:r=[]:=by simpa using h2
   subst r0;have a1:Ai .add [91] a.txt=some (.str (91::a.txt)):=Am (by simp;omega) rfl;have a2:Ai .add (91::a.txt) [93]=some (.str (91::(a.txt++[93]))):=Am (by simp;omega) (by simp);have a3:Ai .add nm (91::(a.txt++[93]))=some (.str (nm++91::(a.txt++[93]))):=Am (by simp;omega) rfl;have a4:Ai .add (nm++91::(a.txt++[93])) [32,61,32]=some (.str (nm++91::(a.txt++[93,32,61,32]))):=Am (by simp;omega) (by simp);have a5:Ai .add (nm++91::(a.txt++[93,32,61,32])) ex.txt=some (.str (nm++91::(a.txt++93::32::61::32::ex.txt))):=Am (by simp;omega) (by simp);have a6:Ai .add (nm++91::(a.txt++93::32::61::32::ex.txt)) [59]=some (.str (nm++91::(a.txt++93::32::61::32::(ex.txt++[59])))):=Am (by simp;omega) (by simp);simp only[Bb,By];rw[A0 a];simp only[go_sem,Int.reduceBEq,Int.reduceLT];refine Ad ha (by simp only[go_sem]) ?_;simp only[go_sem,↓a1,↓a2];refine Ag (by kernel_rfl) ?_;simp only[go_sem,↓a3,↓a4];refine A1 hx (by simp only[go_sem]) ?_;simp only[go_sem,↓a5,↓a6];exact Ao rfl (by simp[Gt,Bu])
 rcases hw with rfl | hw
 .simp only[Ck,Cy,Gt,Bu]at hl ⊢;simp at hl;have hx:=Vw (h5 (by omega)) (by omega);rw[A0]at hx;have a1:Ai .add ([105,102,32]) (ex.txt)=some (.str (105::102::32::ex.txt)):=Am (by simp;try omega) (by simp);have a2:Ai .add (105::102::32::ex.txt) ([32,123])=some (.str (105::102::32::(ex.txt++[32,123]))):=Am (by simp;try omega) (by simp);simp only[go_sem,Int.reduceBEq,Int.reduceLT];refine Ad hx (by simp only[go_sem]) ?_;simp only[go_sem,↓a1,↓a2];exact Ao rfl (by simp)
 rcases hw with rfl | hw
 .simp only[Ck,Cy,Gt,Bu]at hl ⊢;simp at hl;have hx:=Vw (h5 (by omega)) (by omega);rw[A0]at hx;have a1:Ai .add ([119,104,105,108,101,32]) (ex.txt)=some (.str (119::104::105::108::101::32::ex.txt)):=Am (by simp;try omega) (by simp);have a2:Ai .add (119::104::105::108::101::32::ex.txt) ([32,123])=some (.str (119::104::105::108::101::32::(ex.txt++[32,123]))):=Am (by simp;try omega) (by simp);simp only[go_sem,Int.reduceBEq,Int.reduceLT];refine Ad hx (by simp only[go_sem]) ?_;simp only[go_sem,↓a1,↓a2];exact Ao rfl (by simp)
 rcases hw with rfl | hw
 .simp only[Ck,Cy,Gt,Bu]at hl ⊢;simp at hl;have a1:Ai .add ([108,111,99,107,32]) (nm)=some (.str (108::111::99::107::32::nm)):=Am (by simp;try omega) (by simp);have a2:Ai .add (108::111::99::107::32::nm) ([32,123])=some (.str (108::111::99::107::32::(nm++[32,123]))):=Am (by simp;try omega) (by simp);simp only[go_sem,Int.reduceBEq,Int.reduceLT,↓a1,↓a2];exact Ao rfl (by simp)
 rcases hw with rfl | hw
 .simp only[Ck,Cy,Gt,Bu]at hl ⊢;simp at hl;have a1:Ai .add ([114,101,97,100,32]) (nm)=some (.str (114::101::97::100::32::nm)):=Am (by simp;try omega) (by simp);have a2:Ai .add (114::101::97::100::32::nm) ([32,123])=some (.str (114::101::97::100::32::(nm++[32,123]))):=Am (by simp;try omega) (by simp);simp only[go_sem,Int.reduceBEq,Int.reduceLT,↓a1,↓a2];exact Ao rfl (by simp)
 rcases hw with rfl | hw
 .simp only[Ck,Cy,Gt,Bu]at hl ⊢;simp at hl;have a1:Ai .add ([119,114,105,116,101,32]) (nm)=some (.str (119::114::105::116::101::32::nm)):=Am (by simp;try omega) (by simp);have a2:Ai .add (119::114::105::116::101::32::nm) ([32,123])=some (.str (119::114::105::116::101::32::(nm++[32,123]))):=Am (by simp;try omega) (by simp);simp only[go_sem,Int.reduceBEq,Int.reduceLT,↓a1,↓a2];exact Ao rfl (by simp)
 rcases hw with rfl | hw
 .simp only[Ck,Cy,Gt,Bu]at hl ⊢;simp at hl;simp only[go_sem,Int.reduceBEq,Int.reduceLT];exact Ao rfl (by simp)
 rcases hw with rfl | hw
 .simp only[Ck,Cy,Gt,Bu]at hl ⊢;simp at hl;simp only[go_sem,Int.reduceBEq,Int.reduceLT];exact Ao rfl (by simp)
 rcases hw with rfl | hw
 .simp only[Ck,Cy,Gt,Bu]at hl ⊢;simp at hl;have a1:Ai .add ([119,97,105,116,32]) (nm)=some (.str (119::97::105::116::32::nm)):=Am (by simp;try omega) (by simp);have a2:Ai .add (119::97::105::116::32::nm) ([59])=some (.str (119::97::105::116::32::(nm++[59]))):=Am (by simp;try omega) (by simp);simp only[go_sem,Int.reduceBEq,Int.reduceLT,↓a1,↓a2];exact Ao rfl (by simp)
 rcases hw with rfl | hw
 .simp only[Ck,Cy,Gt,Bu]at hl ⊢;simp at hl;have a1:Ai .add ([110,111,116,105,102,121,32]) (nm)=some (.str (110::111::116::105::102::121::32::nm)):=Am (by simp;try omega) (by simp);have a2:Ai .add (110::111::116::105::102::121::32::nm) ([59])=some (.str (110::111::116::105::102::121::32::(nm++[59]))):=Am (by simp;try omega) (by simp);simp only[go_sem,Int.reduceBEq,Int.reduceLT,↓a1,↓a2];exact Ao rfl (by simp)
 rcases hw with rfl | hw
 .simp only[Ck,Cy,Gt,Bu]at hl ⊢;simp at hl;have a1:Ai .add ([110,111,116,105,102,121,97,108,108,32]) (nm)=some (.str (110::111::116::105::102::121::97::108::108::32::nm)):=Am (by simp;try omega) (by simp);have a2:Ai .add (110::111::116::105::102::121::97::108::108::32::nm) ([59])=some (.str (110::111::116::105::102::121::97::108::108::32::(nm++[59]))):=Am (by simp;try omega) (by simp);simp only[go_sem,Int.reduceBEq,Int.reduceLT,↓a1,↓a2];exact Ao rfl (by simp)
 rcases hw with rfl | hw
 .simp only[Ck,Cy,Gt,Bu]at hl ⊢;simp at hl;have a1:Ai .add ([115,112,97,119,110,32]) (nm)=some (.str (115::112::97::119::110::32::nm)):=Am (by simp;try omega) (by simp);have a2:Ai .add (115::112::97::119::110::32::nm) ([59])=some (.str (115::112::97::119::110::32::(nm++[59]))):=Am (by simp;try omega) (by simp);simp only[go_sem,Int.reduceBEq,Int.reduceLT,↓a1,↓a2];exact Ao rfl (by simp)
 rcases hw with rfl | hw
 .simp only[Ck,Cy,Gt,Bu]at hl ⊢;simp at hl;have a1:Ai .add ([106,111,105,110,32]) (nm)=some (.str (106::111::105::110::32::nm)):=Am (by simp;try omega) (by simp);have a2:Ai .add (106::111::105::110::32::nm) ([59])=some (.str (106::111::105::110::32::(nm++[59]))):=Am (by simp;try omega) (by simp);simp only[go_sem,Int.reduceBEq,Int.reduceLT,↓a1,↓a2];exact Ao rfl (by simp)
 rcases hw with rfl | hw
 .simp only[Ck,Cy,Gt,Bu]at hl ⊢;simp at hl;have hx:=Vw (h5 (by omega)) (by omega);rw[A0]at hx;have a1:Ai .add ([115,101,116,32]) (nm)=some (.str (115::101::116::32::nm)):=Am (by simp;try omega) (by simp);have a2:Ai .add (115::101::116::32::nm) ([32])=some (.str (115::101::116::32::(nm++[32]))):=Am (by simp;try omega) (by simp);have a3:Ai .add (115::101::116::32::(nm++[32])) (ex.txt)=some (.str (115::101::116::32::(nm++32::ex.txt))):=Am (by simp;try omega) (by simp);have a4:Ai .add (115::101::116::32::(nm++32::ex.txt)) ([59])=some (.str (115::101::116::32::(nm++32::(ex.txt++[59])))):=Am (by simp;try omega) (by simp);simp only[go_sem,Int.reduceBEq,Int.reduceLT];refine Ag (by kernel_rfl) ?_;simp only[go_sem,↓a1,↓a2];refine A1 hx (by simp only[go_sem]) ?_;simp only[go_sem,↓a3,↓a4];exact Ao rfl (by simp)
 subst hw;simp only[Ck,Cy,Gt,Bu]at hl ⊢;simp at hl;have a1:Ai .add ([103,101,116,32]) (nm)=some (.str (103::101::116::32::nm)):=Am (by simp;try omega) (by simp);have a2:Ai .add (103::101::116::32::nm) ([32])=some (.str (103::101::116::32::(nm++[32]))):=Am (by simp;try omega) (by simp);have a3:Ai .add (103::101::116::32::(nm++[32])) (arg)=some (.str (103::101::116::32::(nm++32::arg))):=Am (by simp;try omega) (by simp);have a4:Ai .add (103::101::116::32::(nm++32::arg)) ([59])=some (.str (103::101::116::32::(nm++32::(arg++[59])))):=Am (by simp;try omega) (by simp);simp only[go_sem,Int.reduceBEq,Int.reduceLT,↓a1,↓a2,↓a3,↓a4];exact Ao rfl (by simp)
def Lo(d:Nat)(x:Sp)(l:List Sp):Sp.txts d (x::l)=x.txt d++Sp.txts d l:=by rw[Sp.txts]
def Adp(z:Bool)(t d:Nat)(l:List Sp)(h:∀ s∈l,Fn TT PT 36 [.agg s.row,.int .i64 (d:Int)] (.str (s.txt d)))(hl:(Sp.txts d l).length<=100000000000000)(qX:l.length<=9223372036854775806):Fn TT PT 20 [SL z t (l.map Sp.row),.int .i64 (d:Int)] (.str (Sp.txts d l)):=by
 refine Bn T20 rfl ?_;have qK:(l.map Sp.row).length=l.length:=Ba ..;simp only[go_sem];refine Bv (α:=Nat × List UInt8) (fun a=>l.length - a.1) (fun a=>[(0,SL z t (l.map Sp.row)),(1,.int .i64 (d:Int)),(5,.str a.2),(6,.int .i64 (a.1:Int))]) (fun _=>[]) (fun a=>a.1<=l.length/\a.2++Sp.txts d (l.drop a.1)=Sp.txts d l) ?_ (0,[]) ⟨Ay _,rfl⟩;rintro⟨i,qz⟩ ⟨hi,qf⟩ ih;simp only at hi qf ih;refine Bw (by delta lp20_0;exact rfl) ?_;rcases Br i l.length with h' | h'
 .obtain⟨x,hx,hd,hm⟩:=Cw h';rw[hd,Lo]at qf;have qD:=congrArg List.length qf;simp only[Aj]at qD;have hr:=Lr x;have ht:=A7i x;have a1:Ai .add qz (x.txt d)=some (.str (qz++x.txt d)):=Am (by omega) rfl;simp only[go_sem,qK,Bp h',Aq,hx,hr,ht];refine Ad (h x hm) (by simp only[Av,Be,U9,F2 x,Aqe]) ?_;simp only[go_sem,↓a1,Bf (show i<9223372036854775807 by omega)];exact Bd (ih (i+1,qz++x.txt d) (by simp;omega) ⟨by simp;omega,by simp only;rw[D9];exact qf⟩) rfl
 .obtain rfl:i=l.length:=by omega
  rw[F4 h',show Sp.txts d []=[] by rw[Sp.txts],Cm]at qf;rw[<-qf];simp only[go_sem,qK,Ce h'];exact E7 rfl
def Jq(d:Nat)(s:Sp):s.txt d=D6 d++(Ck s++if Bu s.op then 32::123::10::(Sp.txts (d+1) s.body++((if s.els.isEmpty then [] else D6 d++125::32::101::108::115::101::32::123::10::Sp.txts (d+1) s.els)++(D6 d++[125,10]))) else [59,10]):=by
 obtain⟨op,line,nm,arg,iz,it,idx,ex,bz,bt,body,ez,et,els⟩:=s;rw[Sp.txt]
def Vm(d:Nat):∀ {l:List Sp} {x:Sp},x∈l->(x.txt d).length<=(Sp.txts d l).length
 | y::l,x,h=>by
  rw[Lo,Aj];rcases Bj.1 h with rfl | h
  .omega
  .have:=Vm d h;omega
def Vg(l:List Sp)(d:Nat):l.length<=(Sp.txts d l).length:=by
 induction l with
 | nil=>simp
 | cons x l ih=>
  rw[Lo,Aj,Jq];simp only[Aj,Ak]
  split
  .simp;omega
  .simp;omega
def Ath{s:Sp}(h:CnS s):∀ (d:Nat) (D:Int),max D 0=(d:Int)->(s.txt d).length<=100000000000000->Fn TT PT 36 [.agg s.row,.int .i64 D] (.str (s.txt d)):=by
 induction h with
 | @mk s h1 h2 h3 h4 h5 h6 h7 h8 h9 ihb ihe=>
  intro d D mx hl;have hs:CnS s:=.mk h1 h2 h3 h4 h5 h6 h7 h8 h9;rw[Jq]at hl ⊢;simp only[Aj,Im]at hl;have hh:=Avn hs (by omega);have hi:=Atg d (by omega);have qk:=F2 s;have qG:=h1;generalize hH:Ck s=H at hl hh ⊢;have g1:(s.op<1)=False:=eq_false (by omega);have g2:(15<s.op)=False:=eq_false (by omega);refine Bn T36 rfl ?_;rw[Ox,A0]at hh qk ⊢;simp only[Ml,Fd]at hh qk ⊢;cases hb:Bu s.op
  .have g3:(s.op<2)=True/\(s.op<2)=True\/(s.op<2)=False/\(8<s.op)=True:=by
    unfold Bu at hb;by_cases qi:s.op<2
    .exact .inl ⟨eq_true qi,eq_true qi⟩
    .refine .inr ⟨eq_false qi,eq_true ?_⟩
     have:¬ s.op<=8:=fun h8=>by
      rw[decide_eq_true (by omega),decide_eq_true h8]at hb;cases hb
     omega
   simp only[Gt,hb]at hh;have a1:Ai .add (D6 d) (H++[59])=some (.str (D6 d++(H++[59]))):=Am (by simp[Im];omega) rfl;have a2:Ai .add (D6 d++(H++[59])) [10]=some (.str (D6 d++(H++[59,10]))):=Am (by simp[Im];omega) (by simp);rcases g3 with⟨g3,g4⟩ | ⟨g3,g4⟩
   all_goals
    simp only[go_sem,g1,g2,mx];refine Ad hi (by simp only[go_sem]) ?_;simp only[go_sem];refine Ad hh (by simp only[go_sem]) ?_;simp only[go_sem,↓a1,↓a2,g3,g4];exact Ao rfl (by simp)
  .rw[hb]at hl;rw[if_pos rfl]at hl ⊢;simp only[Ak,Aj,Im,C0]at hl;have qv:=Vg s.body (d+1);have qA:=Adp s.bz s.bt (d+1) s.body (fun x hx=>ihb x hx (d+1) _ (by omega) (by have:=Vm (d+1) hx;omega)) (by omega) (by omega);have qw:=Vg s.els (d+1)
   have g3:(s.op<2)=False/\(8<s.op)=False:=by
    unfold Bu at hb;simp only[Af,decide_eq_true_eq]at hb;exact⟨eq_false (by omega),eq_false (by omega)⟩
   obtain⟨g3,g4⟩:=g3;simp only[Gt,hb,if_true]at hh;have qQ:=Im d;have qr:=Bf (show d<9223372036854775807 by omega);have qV:(s.body.map Sp.row).length=s.body.length:=Ba ..;have qJ:(s.els.map Sp.row).length=s.els.length:=Ba ..;generalize hT:D6 d=T at hl hi qQ ⊢;generalize qS:Sp.txts (d+1) s.body=B at hl qA qv ⊢;have a1:Ai .add T (H++[32,123])=some (.str (T++(H++[32,123]))):=Am (by simp;omega) rfl;have a2:Ai .add (T++(H++[32,123])) [10]=some (.str (T++(H++[32,123,10]))):=Am (by simp;omega) (by simp);have a3:Ai .add (T++(H++[32,123,10])) B=some (.str (T++(H++32::123::10::B))):=Am (by simp;omega) (by simp);have a4:Ai .add (T++(H++32::123::10::B)) T=some (.str (T++(H++32::123::10::(B++T)))):=Am (by simp;omega) (by simp)
   cases hels:s.els with
   | nil=>
    rw[hels]at hl qJ hh;simp only[By]at hh;have e0:((0:Int)<((([]:List Sp).map Sp.row).length:Int))=False:=eq_false (by simp);have a5:Ai .add (T++(H++32::123::10::(B++T))) [125,10]=some (.str (T++(H++32::123::10::(B++(T++[125,10]))))):=Am (by simp;omega) (by simp);simp only[go_sem,g1,g2,mx];refine Ad hi (by simp only[go_sem]) ?_;simp only[go_sem];refine Ad hh (by simp only[go_sem]) ?_;simp only[go_sem,↓a1,↓a2,g3,g4,qr];refine Ad qA (by simp only[go_sem]) ?_;simp only[go_sem,↓a3,Int.reduceLT,↓a4,↓a5];exact Ao rfl (by simp)
   | cons y ys=>
    rw[hels]at hl qJ qw hh;simp only[Bb]at hh;have qC:=Adp s.ez s.et (d+1) (y::ys) (fun x hx=>ihe x (by rw[hels];exact hx) (d+1) _ (by omega) (by have:=Vm (d+1) hx;simp at hl;omega)) (by simp at hl;omega) (by simp at hl;omega);simp only[Bb]at qC;have e0:((0:Int)<((ys.length+1:Nat):Int))=True:=eq_true (by omega);generalize qT:Sp.txts (d+1) (y::ys)=E at hl qC qw ⊢;simp only[List.isEmpty_cons,Fb,if_false,Aj,Ak]at hl;have a5:Ai .add (T++(H++32::123::10::(B++T))) [125,32,101,108,115,101,32,123,10]=some (.str (T++(H++32::123::10::(B++(T++[125,32,101,108,115,101,32,123,10]))))):=Am (by simp;omega) (by simp);have a6:Ai .add (T++(H++32::123::10::(B++(T++[125,32,101,108,115,101,32,123,10])))) E=some (.str (T++(H++32::123::10::(B++(T++125::32::101::108::115::101::32::123::10::E))))):=Am (by simp;omega) (by simp);have a7:Ai .add (T++(H++32::123::10::(B++(T++125::32::101::108::115::101::32::123::10::E)))) T=some (.str (T++(H++32::123::10::(B++(T++125::32::101::108::115::101::32::123::10::(E++T)))))):=Am (by simp;omega) (by simp);have a8:Ai .add (T++(H++32::123::10::(B++(T++125::32::101::108::115::101::32::123::10::(E++T))))) [125,10]=some (.str (T++(H++32::123::10::(B++(T++125::32::101::108::115::101::32::123::10::(E++(T++[125,10]))))))):=Am (by simp;omega) (by simp);simp only[go_sem,g1,g2,mx];refine Ad hi (by simp only[go_sem]) ?_;simp only[go_sem];refine Ad hh (by simp only[go_sem]) ?_;simp only[go_sem,↓a1,↓a2,g3,g4,qr];refine Ad qA (by simp only[go_sem]) ?_;simp only[go_sem,↓a3,Ba,e0,↓a4,↓a5,qr];refine Ad qC (by simp only[go_sem,Bb]) ?_;simp only[go_sem,↓a6,↓a7,↓a8];exact Ao rfl (by simp)
def Akw{s:Sp}(h:CnS s)(d:Nat)(hl:(s.txt d).length<=100000000000000):Fn TT PT 36 [.agg s.row,.int .i64 (d:Int)] (.str (s.txt d)):=Ath h d _ (by omega) hl
def Y4(l:List UInt8):∀ r∈Bh l,r.length=1:=by
 intro r hr;obtain⟨c,_,rfl⟩:=Dq.1 hr;rfl
def Ati(a b:List UInt8):Bh (a++b)=Bh a++Bh b:=Ef ..
def Amw(a:List UInt8):(Bh a).length=a.length:=Ba ..
def Ahw:∀ l:List UInt8,I0 (Bh l)=some l
 | []=>rfl
 | c::l=>by
  have h:c.toNat<256:=c.toNat_lt;have:=Ahw l;simp only[Bh,Bb,I0]at this ⊢;rw[if_pos (by omega),this];simp
def Ajm(l:List UInt8):Al (Bh l).flatten=[]:=by
 refine Jk (Lq fun r hr=>?_);obtain⟨c,_,rfl⟩:=Dq.1 hr;rfl
def Avo(ty:Nat)(x:V)(l:List UInt8)(σ:St):Apj ty x (.str l) σ=D5 1 (1,ty) x (.lst 1 (Bh l)) σ:=rfl
def Atj{s:St}{j:Nat}{x:Ob}(h:s[j]?=some x):j<s.length:=(Ap.1 h).1
def BL(s:St)(b:Nat)(u:V)(l:List UInt8):Prop:=∃ p,s[b]?=some (.row [p,u] 131 0 0)/\(p=.nilp\/p=.ptr b 0 0)/\GW s 1 5 (b+1) u (Bh l)
def Azl{s:St}{b:Nat}{u:V}{l:List UInt8}(h:BL s b u l):∀ i∈u.refs,i<s.length:=by
 obtain⟨p,_,_,hg⟩:=h;exact Amm hg
def Azm{s J:St}{b:Nat}{u:V}{l:List UInt8}(h:BL s b u l):BL (s++J) b u l:=by
 obtain⟨p,h1,h2,h3⟩:=h;exact⟨p,Bx h1,h2,O5 h3⟩
def Hk{s:St}{cs:List V}{t:Nat}(h:Cl s)(hr:cs.all V.rowB=true):Cl (s++[.row cs t 0 0]):=Qy h (by simp only[Ob.refs,Jk hr];simp)
def Avp{s:St}{b:Nat}{u:V}{l:List UInt8}(t:List UInt8)(h:BL s b u l)(hc:Cl s)(hb:l.length+t.length<=100000000000000):
  ∃ s' u',Th TT PT 105 [.ptr b 0 0,.str t] s (.tup [.int .i64 (t.length:Int),.nili]) s'/\BL s' b u' (l++t)/\Cl s'/\s.length<=s'.length/\∀ j,j≠b->j ∉ u.refs->j<s.length->s'[j]?=s[j]?:=by
 have qM:=Azl h;obtain⟨p,hs,hp,hg⟩:=h;have qI:b<s.length:=Atj hs
 have h1:∃ s1,Ut 131 [.ptr b 0 0] s=some (.tup [],s1)/\s1[b]?=some (.row [.ptr b 0 0,u] 131 0 0)/\GW s1 1 5 (b+1) u (Bh l)/\s1.length=s.length/\Cl s1/\∀ j,j≠b->s1[j]?=s[j]?:=by
  rcases hp with rfl | rfl
  .refine⟨s.set b (.row [.ptr b 0 0,u] 131 0 0),?_,by rw[Cc qI],Fx hg (by omega),by simp,G5 hc ?_,fun j hj=>by rw[Bg (by omega)]⟩
   .simp[Ut,hs]
   .intro i hi;simp only[Ob.refs,Al,V.refs,Cm,Cr,E4]at hi;rcases hi with rfl | hi
    .exact qI
    .exact qM i hi
  .exact⟨s,by simp[Ut,hs],hs,hg,rfl,hc,fun _ _=>rfl⟩
 obtain⟨s1,e1,q1,g1,l1,c1,f1⟩:=h1;obtain⟨u2,s2,e2,g2,l2,fo,f2⟩:=Q5 (bytes:=1) (y:=.lst 1 (Bh t)) (ys:=Bh t) g1 (by omega) rfl (by omega) (Y4 l) (Y4 t) (by rw[Amw,Amw];omega);rw[<-Ati]at g2;have q2:=(f2 b (by omega)).trans q1;have c2:Cl s2/\∀ i∈u2.refs,i<s2.length:=⟨As8 g1 rfl e2 (Ajm l) (Ajm t) c1,Amm g2⟩
 have c3:Cl (s2.set b (.row [.ptr b 0 0,u2] 131 0 0)):=by
  refine G5 c2.1 ?_;intro i hi;simp only[Ob.refs,Al,V.refs,Cm,Cr,E4]at hi;rcases hi with rfl | hi
  .omega
  .exact c2.2 i hi
 refine⟨s2.set b (.row [.ptr b 0 0,u2] 131 0 0),u2,Afa T105 rfl ?_ rfl rfl (by simp;omega) c3,⟨.ptr b 0 0,by rw[Cc (by omega)],.inr rfl,Fx g2 (by omega)⟩,c3,by simp;omega,fun j hj hu hl=>?_⟩
 .simp only[go_sem];refine Ms (.spec T135 rfl rfl e1) ?_;simp only[go_sem,q1,Avo,e2,q2,A3h (Dk g2),Dk g2];exact⟨rfl,rfl⟩
 .rw[Bg (by omega),fo j ?_ (by omega),f1 j hj];intro i g hi qR;subst qR;exact hu (by rw[hi];simp[V.refs])
def A3q{s:St}{b:Nat}{u:V}{l:List UInt8}(h:BL s b u l):∃ s',Rl 131 5 [.ptr b 0 0] s=some (.str l,s'):=by
 obtain⟨p,hs,hp,hg⟩:=h;rcases hg with⟨rfl,hl⟩ | ⟨hn,i,g,rfl,ho,qY⟩
 .have:l=[]:=by simpa[Bh] using hl
  subst this;exact⟨s,by simp[Rl,hs]⟩
 .have qH:0<(Bh l).length:=List.length_pos_iff.2 hn;have qN:Eu 1 (Bh l).length (Bh l).flatten=Bh l:=Yv (Y4 l);have qW:=K0 (Y4 l);refine⟨s.set i .dead,?_⟩;simp only[Rl,hs,ho];rw[if_pos ⟨trivial,trivial,qH⟩,if_pos ⟨trivial,trivial,by omega⟩,qN,Ahw];rfl
