/- Walks: comparisons, keys. -/
import Derived.Test.YthlbbjcbmojocabGreatDoorNu
import Derived.Shelf.Vars
import Derived.Test.YthlbbjcbmojocabGreatDoorCards
import Derived.Test.YthlbbjcbmojocabGreatDoorTie
import Derived.ProofKit
import Derived.OpenShut
import Derived.Carry
import Derived.Deep.DeepHandedRow
import Derived.Lib.LaidTab
set_option linter.all false
namespace Go.Proofs.YthlbbjcbmojocabGreatDoor.KM
open Go
/-! keys -/
abbrev Key:=List UInt8 × List UInt8 × Int
def Bb3(k:Key):List V:=[.str k.1,.str k.2.1,.int .i64 k.2.2]
/-! entries -/
structure Ent where
 kind:Int
 sites:List Key
 seen:Int
 missed:Int
 z:Bool:=true
 t:Nat:=0
def Ent.sl(x:Ent):V:=SL x.z x.t (x.sites.map Bb3)
def Ent.row(x:Ent):List V:=[.int .i64 x.kind,x.sl,.int .i64 x.seen,.int .i64 x.missed]
end Go.Proofs.YthlbbjcbmojocabGreatDoor.KM
/- What every law's closing needs: listed tables, the post of a law that answers true and leaves its arguments. -/
namespace Go.Proofs.YthlbbjcbmojocabGreatDoor
open Go.ChangeShapes Go.WideShapes Go.ChangeAt Go.RowKit KM
mutual
def flatV{H:Type}:DataW H->List Value
 | .lit (.bool b)=>[.bool b]
 | .lit (.int k n)=>[.int k n]
 | .lit (.string l)=>[.string ⟨l.toArray⟩]
 | .agg ps=>Qk ps
 | _=>[]
def Qk{H:Type}:List (DataW H)->List Value
 | []=>[]
 | d::ds=>flatV d++Qk ds
end
def Agv(P:Program)(ts:List TypeId):Bool:=ts.all fun t=>
 match P.underlying t with
 | some .bool | some (.int _) | some .string=>P.cellsOf t==1
 | some (.struct fs)=>fs.toList.all (fun f=>ts.contains f.type)&&O2 P fs.toList 0 (P.cellsOf t)
 | some (.array n e)=>ts.contains e&&P.cellsOf t==n*P.cellsOf e
 | _=>false
def Aju{H:Type}{P:Program}{cs:List Value}{g:Field->Option (DataW H × List MemPlace)}:
  ∀ (fl:List Field) (s e:Nat) (xs:List (DataW H × List MemPlace)),O2 P fl s e=true->fl.mapM g=some xs->e=cs.length ->
   (∀ f∈fl,∀ x,g f=some x->(cs.drop f.offset).take (P.cellsOf f.type)=flatV x.1)->cs.drop s=Qk (xs.map (·.1))
 | [],s,e,xs,hc,hm,he,_=>by
  simp[O2]at hc;simp at hm;subst hc hm he;simp[Qk]
 | f::fl,s,e,xs,hc,hm,he,hg=>by
  simp only[O2,Af,beq_iff_eq]at hc;rw[Ik]at hm
  cases hf:g f with
  | none=>simp[hf]at hm
  | some x=>
   cases hl:fl.mapM g with
   | none=>simp[hf,hl]at hm
   | some r=>
    simp[hf,hl]at hm;subst hm;have h1:=Aju fl _ e r hc.2 hl he (fun f' qM=>hg f' (Cs _ qM));have h2:=hg f (Cx) x hf;rw[hc.1]at h2;rw[Aw];simp only[Qk];rw[<-h1,<-h2,<-Oj];exact(Li _ _).symm
def Akb{H:Type}{cs:List Value}{m:Nat}{g:Nat->Option (DataW H × List MemPlace)}(hg:∀ i x,g i=some x->(cs.drop (i*m)).take m=flatV x.1):
  ∀ (n s:Nat) (xs:List (DataW H × List MemPlace)),(List.range' s n).mapM g=some xs->cs.length=(s+n)*m->cs.drop (s*m)=Qk (xs.map (·.1))
 | 0,s,xs,hm,hl=>by
  simp at hm;subst hm;simp at hl;simp[Qk,hl]
 | n+1,s,xs,hm,hl=>by
  rw[Zk,Ik]at hm
  cases hf:g s with
  | none=>simp[hf]at hm
  | some x=>
   cases hr:(List.range' (s+1) n).mapM g with
   | none=>simp[hf,hr]at hm
   | some r=>
    simp[hf,hr]at hm;subst hm;have h1:=Akb hg n (s+1) r hr (by rw[hl];congr 1;omega);have h2:=hg s x hf;rw[Aw];simp only[Qk];rw[<-h1,<-h2,E1,<-Oj];exact(Li _ _).symm
def Ady{H:Type}(qf:TypeId × Value->H)(P:Program)(w:World)(qg:Nat->Bool)(qo:Bool)(ts:List TypeId)(qk:Agv P ts=true):
  ∀ (fuel:Nat) (t:TypeId) (cs:List Value) (d:DataW H) (ps:List MemPlace),t∈ts->DataW.trod qf P w 0 qg qo fuel t cs=some (d,ps)->cs=flatV d
 | 0,_,_,_,_,_,h=>by simp[DataW.trod]at h
 | fuel+1,t,cs,d,ps,ht,h=>by
  have hp:=Bh.1 qk t ht;simp only[DataW.trod]at h
  split at h
  .simp at h;obtain⟨rfl,_⟩:=h;rfl
  .split at h
   .rename_i hk;simp at h;obtain⟨rfl,_⟩:=h;obtain⟨rfl,_⟩:=hk;rfl
   .cases h
  .rename_i hu;rw[hu]at hp;cases hp
  .split at h
   .simp at h;obtain⟨rfl,_⟩:=h;simp[flatV]
   .cases h
  .rename_i hu;rw[hu]at hp;cases hp
  .rename_i hu;rw[hu]at hp;cases hp
  .rename_i hu;rw[hu]at hp;cases hp
  .rename_i hu;rw[hu]at hp;cases hp
  .rename_i fs hu;rw[hu]at hp;simp only[Af,Bh,Zc]at hp
   split at h
   .rename_i qz;simp only[Bo]at h;obtain⟨xs,hm,h⟩:=h;simp at h;obtain⟨rfl,_⟩:=h;have:=Aju (P:=P) (cs:=_) fs.toList 0 _ xs hp.2 hm qz.symm (fun f hf x hx=>Ady qf P w qg qo ts qk fuel f.type _ x.1 x.2 (hp.1 f hf) hx);simpa[flatV] using this
   .cases h
  .rename_i n e hu;rw[hu]at hp;simp only[Af,beq_iff_eq,Zc]at hp
   split at h
   .rename_i qz;simp only[Bo]at h;obtain⟨xs,hm,h⟩:=h;simp at h;obtain⟨rfl,_⟩:=h;rw[List.range_eq_range']at hm;have:=Akb (cs:=_) (m:=P.cellsOf e) (fun i x hx=>Ady qf P w qg qo ts qk fuel e _ x.1 x.2 hp.1 hx) n 0 xs hm (by rw[qz,hp.2];simp);simpa[flatV] using this
   .cases h
  all_goals first
   | (rename_i hu;rw[hu]at hp;cases hp)
   | cases h
def Afb{P:Program}{w:World}{n:String}{d:DataW Unit}:∀ {qb:List (String × DataW Unit)} {ps:List MemPlace},DataW.LaidVars P w qb ps->(n,d)∈qb ->
  ∃ g t cs fuel p,P.globalNamed n=some g/\(P.globals[g]?).map (·.type)=some t/\w.var? P n=some cs/\DataW.trod (fun _=>()) P w 0 (fun _=>true) false fuel t cs.toList=some (d,p)
 | [],_,_,hm=>by cases hm
 | (n',d')::r,ps,h,hm=>by
  obtain⟨g,t,cs,fuel,p,q,h1,h2,h3,h4,h5,_⟩:=h;rcases Bi.1 hm with e | hm
  .injection e with e1 e2;subst e1 e2;exact⟨g,t,cs,fuel,p,h1,h2,h3,h4⟩
  .exact Afb h5 hm
def Axu{P:Program}{w:World}{n:String}{d:DataW Unit}{g:Nat}{t:TypeId}{ts:List TypeId}{qb:List (String × DataW Unit)}(h:laidMet P qb w)(hm:(n,d)∈qb)
  (hg:P.globalNamed n=some g) (ht:(P.globals[g]?).map (·.type)=some t) (qk:Agv P ts=true) (qq:t∈ts):w.var? P n=some (flatV d).toArray:=by
 obtain⟨ps,h,_⟩:=h;obtain⟨g',t',cs,fuel,p,h1,h2,h3,h4⟩:=Afb h hm;obtain rfl:g'=g:=Ky (h1.symm.trans hg);obtain rfl:t'=t:=Ky (h2.symm.trans ht);rw[h3,<-Ady _ P w _ _ ts qk fuel t' _ d p qq h4]
def Aji{H:Type}{qf:TypeId × Value->H}{P:Program}(hl:laidOutB P=true){W W':World}(hb:Below W.heap.size W W'){sp:Nat->Bool}:
  ∀ {ts:List TypeId} {vs:List Value} {ds:List (DataW H)} {ps:List MemPlace},(ts.all fun t=>P.readableRec t&&decide (t<P.types.size))=true->DataW.TrodAll qf P W 0 (fun _=>true) true ts vs ds ps ->
   (∀ x∈ps,x.block<W.heap.size)->(∀ x∈ps,sp x.block=true)->DataW.TrodAll qf P W' 0 sp true ts vs ds ps
 | [],[],[],_,_,h,_,_=>h
 | t::ts,v::vs,d::ds,ps,hr,h,qh,qw=>by
  obtain⟨p,q,h1,h2,rfl⟩:=h;simp only[As,Af,decide_eq_true_eq]at hr;refine⟨p,q,WideElems.Trod_stays hl hr.1.1 hr.1.2 h1 (fun x hx=>hb.same (qh x (by simp[hx]))) (fun x hx=>qw x (by simp[hx])),?_,rfl⟩;exact Aji hl hb (by simpa using hr.2) h2 (fun x hx=>qh x (by simp[hx])) (fun x hx=>qw x (by simp[hx]))
 | [],_::_,_,_,_,h,_,_=>by simp[DataW.TrodAll]at h
 | [],[],_::_,_,_,h,_,_=>by simp[DataW.TrodAll]at h
 | _::_,[],_,_,_,h,_,_=>by simp[DataW.TrodAll]at h
 | _::_,_::_,[],_,_,h,_,_=>by simp[DataW.TrodAll]at h
def Amm{H:Type}{qf:TypeId × Value->H}{P:Program}{f:Func}{s:ChangeSpec}{ql qs qi qr:Bool}{W W':World}{args:Array Value}{ds gs:List (DataW H)}{qa:List MemPlace}{tb:TypeId}
  (hW:DataW.Whole qf P f.params.toList s.vars ql W args.toList ds gs qa) (hl:laidOutB P=true) (qk:(f.params.toList.all fun t=>P.readableRec t&&decide (t<P.types.size))=true)
  (hv:s.vars=[]) (hr:f.resultTypes=#[tb]) (hu:P.underlying tb=some .bool) (h1:(s.fn H (ds++gs)).results=[.lit (.bool true)]) (h2:(s.fn H (ds++gs)).args=ds) (h3:(s.fn H (ds++gs)).vars=[])
  (hb:Below W.heap.size W W'):s.post qf P f ql qs qi qr W args (.bool true) W':=by
 have qh:∀ p∈qa,p.block<W.heap.size:=fun p hp=>hW.lt p hp
 have qD:∀ p∈qa,(fun b=>decide (b<W.heap.size)) p.block=true:=fun p hp=>by simpa using qh p hp
 have qv:∀ (b:Nat) (sp:Nat->Bool) (hd:Bool),DataW.TrodAll qf P W' b sp hd f.resultTypes.toList ((Value.bool true).resultList f.resultTypes.size) (s.fn H (ds++gs)).results []:=fun b sp hd=>by
  rw[hr,h1];exact trodAll_cons_mk (shut_bool hu _) trodAll_mk0
 obtain⟨p,q,hA,hV,qJ,hz,hn⟩:=id hW;have hg:gs=[]/\q=[]:=by rw[hv]at hV;exact trodVars_none hV
 obtain⟨rfl,rfl⟩:=hg
 have qm:∀ sp:Nat->Bool,(∀ p∈qa,sp p.block=true)->DataW.TrodAll qf P W' 0 sp true f.params.toList args.toList (s.fn H (ds++[])).args qa:=fun sp qw=>by
  rw[h2];rw[Cy]at qJ;subst qJ;exact Aji hl hb qk hA qh qw
 have qn:∀ sp:Nat->Bool,DataW.TrodVars qf P W' sp s.vars (s.fn H (ds++[])).vars []:=fun sp=>by
  rw[hv,h3];rfl
 refine⟨ds,[],qa,[],qa,[],hW,qv _ _ _,qm _ qD,qn _,World.keptBut_mono (fun p hp=>⟨hp,.inr (by simpa using hp)⟩) (hb.frame (·∈qa)),fun _=>?_⟩;refine⟨?_,_,_,([]++qa)++[],⟨[]++qa,[],trodAll_append (qm _ (fun _ _=>rfl)) (qv _ _ _),qn _,rfl,?_,?_⟩,?_⟩
 .exact ok_one hr rfl (okWide_bool_mk hu _)
 .intro b off hp;have qq:MemPlace.cell b off∈qa:=by simpa using hp
  rw[hb.frozen (qh _ qq)];exact hz b off qq
 .intro ha;simpa using hn ha
 .intro p hp _;simpa using hp
def Amn{P:Program}{w:World}{n:String}{g:Nat}{cs:Array Value}(h:w.var? P n=some cs)(hg:P.globalNamed n=some g):∃ e fz,w.heap[g]?=some (.cells cs e fz):=by
 unfold World.var? at h;rw[hg,C7]at h
 split at h
 .rename_i hh;injection h with h;subst h;exact⟨_,_,hh⟩
 .cases h
def Af1{P:Program}{w:World}{n:String}{d:DataW Unit}{g:Nat}{t:TypeId}{ts:List TypeId}{qb:List (String × DataW Unit)}{r:List V}(h:laidMet P qb w)(hm:(n,d)∈qb)
  (hg:P.globalNamed n=some g) (ht:(P.globals[g]?).map (·.type)=some t) (qk:Agv P ts=true) (qq:t∈ts) (hr:Hj r (flatV d)=true) (hf:r.all Ac8=true) :
  ∃ us e fz,w.heap[g]?=some (.cells us e fz)/\r.length=us.toList.length/\∀ j,j<r.length->Ve (r.getD j .und) (us.toList.getD j undef):=by
 obtain⟨e,fz,hh⟩:=Amn (Axu h hm hg ht qk qq) hg;obtain⟨h1,h2⟩:=Atq hr hf;exact⟨_,e,fz,hh,h1,h2⟩
def Aox{P:Program}{w:World}{n:String}{nm:String}{d:DataW Unit}{g:Nat}{t:TypeId}{ms:Array (String × TypeId)}{qb:List (String × DataW Unit)}(h:laidMet P qb w)(hm:(n,.iface nm d)∈qb)
  (hg:P.globalNamed n=some g) (ht:(P.globals[g]?).map (·.type)=some t) (hu:P.underlying t=some (.interface ms)) :
  ∃ us e fz,w.heap[g]?=some (.cells us e fz)/\[V.ifc].length=us.toList.length/\∀ j,j<[V.ifc].length->Ve ([V.ifc].getD j .und) (us.toList.getD j undef):=by
 obtain⟨ps,h,_⟩:=h;obtain⟨g',t',cs,fuel,p,h1,h2,h3,h4⟩:=Afb h hm;obtain rfl:g'=g:=Ky (h1.symm.trans hg);obtain rfl:t'=t:=Ky (h2.symm.trans ht);obtain⟨e,fz,hh⟩:=Amn h3 hg;refine⟨cs,e,fz,hh,?_⟩
 cases fuel with
 | zero=>simp[DataW.trod]at h4
 | succ fuel=>
  unfold DataW.trod at h4;rw[hu]at h4;generalize cs.toList=l at h4;rcases l with _ | ⟨x,_ | ⟨y,l⟩⟩
  .simp at h4
  .cases x with
   | iface u v=>
    refine⟨rfl,fun j hj=>.inr ?_⟩;obtain rfl:j=0:=by simp at hj;omega
    exact⟨rfl,_,_,rfl⟩
   | _=>simp at h4
  .cases x<;>simp at h4
def A1x{P:Program}{w:World}{g:Nat}{t:TypeId}{zero:Array Value}
  (h:w.ShapedOpen P) (hg:g<P.globals.size)
  (h0:((begin P (fun _ _=>0) default).world.heap[g]?).bind Obj.row?=some (zero,t)) (hz:zero.size=1)
  (hb:P.buildable t=true) (hc:P.cellTypes P.depth t=some [t]) (hu:P.underlying t=some (.int .i64)) :
  ∃ m,∃ us e fz,w.heap[g]?=some (.cells us e fz)/\[V.int .i64 m].length=us.toList.length/\∀ j,j<[V.int .i64 m].length->Ve ([V.int .i64 m].getD j .und) (us.toList.getD j undef):=by
 obtain⟨m,hm⟩:=cell_of_shapedOpen_int h hg h0 hz hb hc hu;obtain⟨cs,hh,hs,_⟩:=h.1 g zero t hg h0;refine⟨m,cs,_,_,hh,by simp;omega,fun j hj=>.inl ?_⟩;obtain rfl:j=0:=by simp at hj;omega
 have:cs[0]?=some (.int .i64 m):=by simpa[World.cell?,hh] using hm
 have:cs.toList.getD 0 undef=.int .i64 m:=by rw[Au,Array.getElem?_toList,this];rfl
 rw[this];exact⟨by simp[Mu],rfl⟩
end Go.Proofs.YthlbbjcbmojocabGreatDoor
/- What every closing of this seat's laws needs: the tables, plain data out of what a row reads, the world of the witness. -/
namespace Go.Proofs.YthlbbjcbmojocabGreatDoor
open Go.ChangeShapes Go.WideShapes Go.ChangeAt Go.RowKit KM
def Ajm:ownKnob Tryz.prog.godebug=none:=by kernel_rfl
def Axv{P:Program}{t:TypeId}{k:IntKind}{qd:List V}(hu:P.underlying t=some (.int k))(h:HasT P t qd):∃ n,qd=[.int k n]/\(Lit.int k n).wf=true:=by
 cases h with
 | int hu' hw=>
  rw[hu]at hu';injection hu' with e;injection e with e;subst e;exact⟨_,rfl,hw⟩
 | _=>simp_all
def Atu{P:Program}{t:TypeId}{fs:Array Field}{qd:List V}(hu:P.underlying t=some (.struct fs))(h:HasT P t qd):∃ parts:List (List V),qd=parts.flatten/\parts.length=fs.size/\∀ i f,fs[i]?=some f->HasT P f.type (parts.getD i []):=by
 cases h with
 | struct parts hu' hl hT=>
  rw[hu]at hu';injection hu' with e;injection e with e;subst e;exact⟨parts,rfl,hl,hT⟩
 | _=>simp_all
def Aui{P:Program}{t e:TypeId}{qd:List V}(hu:P.underlying t=some (.slice e))(h:HasT P t qd):qd=[.nils]\/∃ xs,qd=[.lst 0 xs]/\xs.length<=maxLen/\∀ i,i<xs.length->HasT P e (xs.getD i []):=by
 cases h with
 | nils _=>exact .inl rfl
 | lst hu' hl hT=>
  rw[hu]at hu';injection hu' with e;injection e with e;subst e;exact .inr ⟨_,rfl,hl,hT⟩
 | _=>simp_all
def Amo{α:Type}{f:α->List V}:∀ {xs:List (List V)},(∀ i,i<xs.length->∃ a,xs.getD i []=f a)->∃ l:List α,xs=l.map f
 | [],_=>⟨[],rfl⟩
 | x::xs,h=>by
  obtain⟨a,ha⟩:=h 0 (by simp);obtain⟨l,hl⟩:=Amo (xs:=xs) fun i hi=>h (i+1) (by simpa using hi)
  exact⟨a::l,by rw[hl];simp at ha;simp[ha]⟩
def Avo{P:Program}{t e:TypeId}{α:Type}{f:α->List V}{qd:List V}(hu:P.underlying t=some (.slice e))(h:HasT P t qd)(hf:∀ r,HasT P e r->∃ a,r=f a):∃ z u,∃ l:List α,qd=[SL z u (l.map f)]/\l.length<=9223372036854775807:=by
 rcases Aui hu h with rfl | ⟨xs,rfl,hl,hT⟩
 .exact⟨true,0,[],rfl,by simp⟩
 .obtain⟨l,rfl⟩:=Amo (f:=f) fun i hi=>hf _ (hT i hi)
  exact⟨false,0,l,by simp[SL],by simpa[maxLen] using hl⟩
def A6e{α:Type}{ps:List (List α)}(h:ps.length=4):∃ a b c d,ps=[a,b,c,d]:=by
 match ps,h with
 | [a,b,c,d],_=>exact⟨a,b,c,d,rfl⟩
def A1y:Tryz.prog.globalNamed "interleave/format.operators"=some 9:=by kernel_rfl
def A6f:Tryz.prog.globalNamed "interleave/token.keywords"=some 0:=by kernel_rfl
def A1z:Tryz.prog.globalNamed "internal/strconv.uint64pow10"=some 1:=by kernel_rfl
def Aoy{w:World}{qb:List (String × DataW Unit)}(h:laidMet Tryz.prog qb w)(hs:w.ShapedOpen Tryz.prog)(h1:("interleave/format.operators",Rows.laid_interleave_format_operators)∈qb) (h2:("internal/strconv.uint64pow10",Rows.laid_internal_strconv_uint64pow10)∈qb)
  (h3:("interleave/token.keywords",Rows.laid_interleave_token_keywords)∈qb) (h4:("strconv.ErrSyntax",Rows.laid_strconv_ErrSyntax)∈qb) (h5:("strconv.ErrRange",Rows.laid_strconv_ErrRange)∈qb):∃ m,Aiv (GT m) w:=by
 obtain⟨m,hm⟩:=A1x (g:=2) (zero:=#[.int .i64 0]) (t:=3) hs (of_decide_eq_true (by kernel_rfl)) (by kernel_rfl) rfl (by kernel_rfl) (by kernel_rfl) Tryz.underlying3;refine⟨m,fun g r hg=>?_⟩;simp only[GT,Bi,Lk,or_false,Prod.mk.injEq]at hg
 rcases hg with⟨rfl,rfl⟩ | ⟨rfl,rfl⟩ | ⟨rfl,rfl⟩ | ⟨rfl,rfl⟩ | ⟨rfl,rfl⟩ | ⟨rfl,rfl⟩<;>first
  | exact hm
  | exact Aox h h4 Aov (by kernel_rfl) Tryz.underlying156
  | exact Aox h h5 Aow (by kernel_rfl) Tryz.underlying156
  | exact Af1 (ts:=[3,9,221,235]) (t:=235) h h1 A1y (by kernel_rfl) (by kernel_rfl) (by decide) (by kernel_rfl) (by kernel_rfl)
  | exact Af1 (ts:=[9,161]) (t:=161) h h3 A6f (by kernel_rfl) (by kernel_rfl) (by decide) (by kernel_rfl) (by kernel_rfl)
  | exact Af1 (ts:=[141,177]) (t:=177) h h2 A1z (by kernel_rfl) (by kernel_rfl) (by decide) (by kernel_rfl) (by kernel_rfl)
end Go.Proofs.YthlbbjcbmojocabGreatDoor
/- The world of the witness: the settled one, the listed variables holding what their initialisers lay. -/
namespace Go.Proofs.YthlbbjcbmojocabGreatDoor
open Go.ChangeShapes Go.WideShapes Go.ChangeAt Go.RowKit KM
def Arz{a b:Bool}(h1:a=true)(h2:b=true):(a&&b)=true:=by rw[h1,h2];rfl
def setRow(d:DataW Unit):Obj->Obj
 | .cells _ t frozen=>.cells (flatV d).toArray t frozen
 | o=>o
def Aql(b:Nat):Obj->Obj
 | .cells _ t frozen=>.cells #[.iface 236 (.pointer (some ⟨b,0,none⟩))] t frozen
 | o=>o
def Aoz:DataW Unit->Array UInt8
 | .iface _ (.ptr (.agg [.lit (.string l)]))=>l.toArray
 | _=>#[]
noncomputable def holds0 (os:Os):Array Obj:=(World.holding Tryz.prog os ⟨#[],#[],[]⟩).heap
noncomputable def laidWorld (os:Os):World:=
 { World.holding Tryz.prog os ⟨#[],#[],[]⟩ with heap:=((((((((((holds0 os).modify 9 (setRow Rows.laid_interleave_format_operators)).modify 1 (setRow Rows.laid_internal_strconv_uint64pow10)).modify 3 (setRow Rows.laid_math_bits_deBruijn32tab)).modify 4 (setRow Rows.laid_math_bits_deBruijn64tab)).modify 6 (setRow Rows.laid_unicode_utf8_acceptRanges)).modify 0 (setRow Rows.laid_interleave_token_keywords)).modify 5 (setRow Rows.laid_unicode_utf8_first)).modify 8 (Aql (holds0 os).size)).modify 7 (Aql ((holds0 os).size+1))).push (.cells #[.string ⟨Aoz Rows.laid_strconv_ErrRange⟩] 238 (0,0)) |>.push (.cells #[.string ⟨Aoz Rows.laid_strconv_ErrSyntax⟩] 238 (0,0)) }
end Go.Proofs.YthlbbjcbmojocabGreatDoor
/- What a row reads: bytes. -/
namespace Go.Proofs.YthlbbjcbmojocabGreatDoor
open Go.ChangeShapes Go.WideShapes Go.ChangeAt Go.RowKit KM
def Bam{P:Program}{t:TypeId}{qd:List V}(hu:P.underlying t=some (.int .u8))(h:HasT P t qd):∃ n:Nat,n<256/\qd=[.int .u8 (n:Int)]:=by
 obtain⟨n,rfl,hw⟩:=Axv hu h;simp only[Lit.wf,Af,decide_eq_true_eq]at hw;have h1:(0:Int)<=n:=hw.1;have h2:n<=255:=hw.2;refine⟨n.toNat,by omega,?_⟩;rw[Int.toNat_of_nonneg h1]
def Agw{qd:List V}(h:HasT Tryz.prog 22 qd):∃ z u,∃ l:List UInt8,qd=[SL z u (Be l)]/\l.length<=9223372036854775807:=by
 obtain⟨z,u,l,rfl,hl⟩:=Avo (f:=fun c:UInt8=>[V.int .u8 (c.toNat:Int)]) Tryz.underlying22 h fun r hr=>by
  obtain⟨n,hn,rfl⟩:=Bam Tryz.underlying5 hr;exact⟨UInt8.ofNat n,by simp[Tj hn]⟩
 exact⟨z,u,l,rfl,hl⟩
end Go.Proofs.YthlbbjcbmojocabGreatDoor
/- Both versions' numbers out of what a row reads. -/
namespace Go.Proofs.YthlbbjcbmojocabGreatDoor
open Go.ChangeShapes Go.WideShapes Go.ChangeAt Go.RowKit KM
def Avp{P:Program}{t:TypeId}{qd:List V}(hu:P.underlying t=some .bool)(h:HasT P t qd):∃ b,qd=[.bool b]:=by
 cases h with
 | bool hu'=>exact⟨_,rfl⟩
 | _=>simp_all
structure PairP where
 z0:Bool
 t0:Nat
 a:List UInt8
 z1:Bool
 t1:Nat
 b:List UInt8
 z2:Bool
 t2:Nat
 c:List UInt8
 un:Bool
def PairP.row(x:PairP):List V:=[SL x.z0 x.t0 (Be x.a),SL x.z1 x.t1 (Be x.b),SL x.z2 x.t2 (Be x.c),.bool x.un]
def Ao0{qd:List V}(h:HasT Tryz.prog 24 qd):∃ x:PairP,qd=x.row/\x.a.length<=9223372036854775807/\x.b.length<=9223372036854775807/\x.c.length<=9223372036854775807:=by
 obtain⟨ps,rfl,hl,hT⟩:=Atu Tryz.underlying24 h;obtain⟨a,b,c,d,rfl⟩:=A6e hl;have h0:=hT 0 _ rfl;have h1:=hT 1 _ rfl;have h2:=hT 2 _ rfl;have h3:=hT 3 _ rfl;simp at h0 h1 h2 h3;obtain⟨z0,t0,l0,rfl,k0⟩:=Agw h0;obtain⟨z1,t1,l1,rfl,k1⟩:=Agw h1;obtain⟨z2,t2,l2,rfl,k2⟩:=Agw h2;obtain⟨un,rfl⟩:=Avp Tryz.underlying4 h3;exact⟨⟨z0,t0,l0,z1,t1,l1,z2,t2,l2,un⟩,rfl,k0,k1,k2⟩
end Go.Proofs.YthlbbjcbmojocabGreatDoor
/- awake answers true: by a run of the plain machine in the kernel. -/
namespace Go.Proofs.YthlbbjcbmojocabGreatDoor.KM
open Go
/-! expressions -/
structure Xp where
 op:Int
 n:Int
 nm:List UInt8
 z:Bool
 t:Nat
 l:List Xp
mutual
def Xp.row:Xp->List V
 | ⟨op,n,nm,z,t,l⟩=>[.int .i64 op,.int .i64 n,.str nm,SL z t (Xp.rows l)]
def Xp.rows:List Xp->List (List V)
 | []=>[]
 | x::l=>x.row::Xp.rows l
end
def Ald:∀ l:List Xp,Xp.rows l=l.map Xp.row
 | []=>rfl
 | x::l=>by rw[Xp.rows,Ald l];rfl
def Bb(x:Xp):x.row=[.int .i64 x.op,.int .i64 x.n,.str x.nm,SL x.z x.t (x.l.map Xp.row)]:=by
 rw[<-Ald];cases x;rfl
def Xp.zero:Xp:=⟨0,0,[],true,0,[]⟩
def By(op:Int):List UInt8:=
 match op with
 | 4=>[45] | 5=>[33] | 6=>[43] | 7=>[45] | 8=>[42] | 9=>[47] | 10=>[37] | 11=>[61,61] | 12=>[33,61] | 13=>[60] | 14=>[60,61] | 15=>[62] | 16=>[62,61] | 17=>[38,38] | 18=>[124,124] | _=>[]
def A1(op:Int):Int:=
 match op with
 | 4=>6 | 5=>6 | 6=>4 | 7=>4 | 8=>5 | 9=>5 | 10=>5 | 11=>3 | 12=>3 | 13=>3 | 14=>3 | 15=>3 | 16=>3 | 17=>2 | 18=>1 | _=>7
def V4(op:Int):Int:=if op=1\/op=2 then 0 else if 3<=op/\op<=5 then 1 else if 6<=op/\op<=18 then 2 else -1
def Dh(o:Int × List UInt8)(qc:Int):List UInt8:=if A1 o.1<qc then 40::(o.2++[41]) else o.2
def Fu(op:Int):Int:=if A1 op=3 then 4 else A1 op
def Dr(op n:Int)(nm:List UInt8)(ts:List (Int × List UInt8)):List UInt8:=
 if op=1 then Bw n else if op=2 then nm else
 match ts with
 | [a]=>if op=3 then nm++91::(a.2++[93]) else By op++Dh a 6
 | [a,b]=>Dh a (Fu op)++32::(By op++32::Dh b (A1 op+1))
 | _=>[]
mutual
def Xp.txt:Xp->List UInt8
 | ⟨op,n,nm,_,_,l⟩=>Dr op n nm (Xp.txts l)
def Xp.txts:List Xp->List (Int × List UInt8)
 | []=>[]
 | x::l=>(x.op,x.txt)::Xp.txts l
end
def Ale:∀ l:List Xp,Xp.txts l=l.map fun x=>(x.op,x.txt)
 | []=>rfl
 | x::l=>by rw[Xp.txts,Ale l];rfl
def E9(x:Xp):x.txt=Dr x.op x.n x.nm (x.l.map fun x=>(x.op,x.txt)):=by
 rw[<-Ale];cases x;rfl
inductive Cn:Xp->Prop
 | num {n:Int} {nm:List UInt8} {z:Bool} {t:Nat} : -9223372036854775808<=n/\n<=9223372036854775807->Cn ⟨1,n,nm,z,t,[]⟩
 | name {n:Int} {nm:List UInt8} {z:Bool} {t:Nat}:Cn ⟨2,n,nm,z,t,[]⟩
 | idx {n:Int} {nm:List UInt8} {z:Bool} {t:Nat} {a:Xp}:Cn a->Cn ⟨3,n,nm,z,t,[a]⟩
 | un {op n:Int} {nm:List UInt8} {z:Bool} {t:Nat} {a:Xp}:op=4\/op=5->Cn a->Cn ⟨op,n,nm,z,t,[a]⟩
 | bin {op n:Int} {nm:List UInt8} {z:Bool} {t:Nat} {a b:Xp}:6<=op/\op<=18->Cn a->Cn b->Cn ⟨op,n,nm,z,t,[a,b]⟩
/-! statements -/
structure Sp where
 op:Int
 line:Int
 nm:List UInt8
 arg:List UInt8
 iz:Bool
 it:Nat
 idx:List Xp
 ex:Xp
 bz:Bool
 bt:Nat
 body:List Sp
 ez:Bool
 et:Nat
 els:List Sp
mutual
def Sp.row:Sp->List V
 | ⟨op,line,nm,arg,iz,it,idx,ex,bz,bt,body,ez,et,els⟩=>[.int .i64 op,.int .i64 line,.str nm,.str arg,SL iz it (idx.map Xp.row)]++ex.row++[SL bz bt (Sp.rows body),SL ez et (Sp.rows els)]
def Sp.rows:List Sp->List (List V)
 | []=>[]
 | x::l=>x.row::Sp.rows l
end
def Aep:∀ l:List Sp,Sp.rows l=l.map Sp.row
 | []=>rfl
 | x::l=>by rw[Sp.rows,Aep l];rfl
def Pz(s:Sp):s.row=[.int .i64 s.op,.int .i64 s.line,.str s.nm,.str s.arg,SL s.iz s.it (s.idx.map Xp.row)]++s.ex.row++[SL s.bz s.bt (s.body.map Sp.row),SL s.ez s.et (s.els.map Sp.row)]:=by
 rw[<-Aep,<-Aep];cases s;rfl
def Cj(op:Int):List UInt8:=
 match op with
 | 2=>[105,102] | 3=>[119,104,105,108,101] | 4=>[108,111,99,107] | 5=>[114,101,97,100] | 6=>[119,114,105,116,101] | 7=>[116,114,97,110,115,97,99,116,105,111,110] | 8=>[97,116,111,109,105,99] | 9=>[119,97,105,116] | 10=>[110,111,116,105,102,121] | 11=>[110,111,116,105,102,121,97,108,108] | 12=>[115,112,97,119,110] | 13=>[106,111,105,110] | 14=>[115,101,116] | 15=>[103,101,116] | _=>[]
def E7(l:List Xp):List UInt8:=match l with
 | a::_=>91::(a.txt++[93])
 | []=>[]
def Cm(s:Sp):List UInt8:=
 if s.op=1 then s.nm++(E7 s.idx++32::61::32::s.ex.txt)
 else if s.op=2\/s.op=3 then Cj s.op++32::s.ex.txt
 else if s.op=7\/s.op=8 then Cj s.op
 else if s.op=14 then Cj s.op++32::(s.nm++32::s.ex.txt)
 else if s.op=15 then Cj s.op++32::(s.nm++32::s.arg)
 else Cj s.op++32::s.nm
def D6(d:Nat):List UInt8:=List.replicate (2*d) 32
def Bn(op:Int):Bool:=decide (2<=op)&&decide (op<=8)
mutual
def Sp.txt:Nat->Sp->List UInt8
 | d,⟨op,line,nm,arg,iz,it,idx,ex,bz,bt,body,ez,et,els⟩=>
  D6 d++(Cm ⟨op,line,nm,arg,iz,it,idx,ex,bz,bt,body,ez,et,els⟩ ++
   if Bn op then 32::123::10::(Sp.txts (d+1) body++((if els.isEmpty then [] else D6 d++125::32::101::108::115::101::32::123::10::Sp.txts (d+1) els)++(D6 d++[125,10]))) else [59,10])
def Sp.txts:Nat->List Sp->List UInt8
 | _,[]=>[]
 | d,x::l=>x.txt d++Sp.txts d l
end
inductive CnS:Sp->Prop
 | mk {s:Sp}:1<=s.op/\s.op<=15->s.idx.length<=1->(s.op≠1->s.idx=[])->(∀ x∈s.idx,Cn x)->((s.op=1\/s.op=2\/s.op=3\/s.op=14)->Cn s.ex)->(Bn s.op=false->s.body=[])->(s.op≠2->s.els=[])->(∀ x∈s.body,CnS x)->(∀ x∈s.els,CnS x)->CnS s
/-! declarations, threads, programs -/
structure Dp where
 kind:Int
 line:Int
 nm:List UInt8
 size:Int
 init:Int
 on:List UInt8
def Dp.row(d:Dp):List V:=[.int .i64 d.kind,.int .i64 d.line,.str d.nm,.int .i64 d.size,.int .i64 d.init,.str d.on]
def Gm(n:Int):List UInt8:=if n=0 then [] else 32::61::32::Bw n
def Dc(d:Dp):List UInt8:=
 if d.kind=1 then [118,97,114,32]++(d.nm++((if d.size=0 then [] else 91::(Bw d.size++[93]))++Gm d.init))
 else if d.kind=2 then [118,111,108,97,116,105,108,101,32]++(d.nm++Gm d.init)
 else if d.kind=3 then [109,117,116,101,120,32]++d.nm
 else if d.kind=4 then [114,119,108,111,99,107,32]++d.nm
 else if d.kind=5 then [99,111,110,100,32]++(d.nm++32::d.on)
 else [102,117,116,117,114,101,32]++d.nm
structure CnD (d:Dp):Prop where
 kind:1<=d.kind/\d.kind<=6
 size:0<=d.size/\d.size<=9223372036854775807/\(d.kind≠1->d.size=0)
 init : -9223372036854775808<=d.init/\d.init<=9223372036854775807/\(d.kind≠1->d.kind≠2->d.init=0)
structure Tp where
 nm:List UInt8
 line:Int
 lz:Bool
 lt:Nat
 locals:List (List UInt8)
 bz:Bool
 bt:Nat
 body:List Sp
def Tp.row(t:Tp):List V:=[.str t.nm,.int .i64 t.line,SL t.lz t.lt (t.locals.map fun s=>[V.str s]),SL t.bz t.bt (t.body.map Sp.row)]
def Ed:List (List UInt8)->List UInt8
 | []=>[]
 | [a]=>a
 | a::b::l=>a++44::32::Ed (b::l)
def D1(t:Tp):List UInt8:=[116,104,114,101,97,100,32]++(t.nm++40::(Ed t.locals++41::32::123::10::(Sp.txts 1 t.body++[125,10])))
structure Gp where
 dz:Bool
 dt:Nat
 decls:List Dp
 tz:Bool
 tt:Nat
 thrs:List Tp
def Gp.row(p:Gp):List V:=[SL p.dz p.dt (p.decls.map Dp.row),SL p.tz p.tt (p.thrs.map Tp.row)]
def Fe(p:Gp):List UInt8:=(p.decls.map fun d=>Dc d++[59,10]).flatten++(p.thrs.map D1).flatten
structure CnG (p:Gp):Prop where
 decls:∀ d∈p.decls,CnD d
 thrs:∀ t∈p.thrs,∀ s∈t.body,CnS s
def Qs{x:Xp}(h:Cn x):1<=x.op/\x.op<=18:=by
 cases h with
 | num _=>exact⟨by simp,by simp⟩
 | name=>exact⟨by simp,by simp⟩
 | idx _=>exact⟨by simp,by simp⟩
 | un h _=>simp only;omega
 | bin h _ _=>simp only;omega
def X4{op:Int}(h:1<=op/\op<=18):∃ i:Nat,i<18/\op=(i:Int)+1:=⟨(op - 1).toNat,by omega,by omega⟩
def Avq:((List.range 18).all fun i=>match (Jy (M8 TT PT 300) af117 [.int .i64 ((i:Int)+1)] []).bind fun p=>Es p.2 p.1 with
  | some (.tup [.str s,.int .i64 n])=>s==By ((i:Int)+1)&&n==A1 ((i:Int)+1)
  | _=>false)=true:=by kernel_rfl
def Us{op:Int}(h:1<=op/\op<=18):Fn TT PT 117 [.int .i64 op] (.tup [.str (By op),.int .i64 (A1 op)]):=by
 obtain⟨i,hi,rfl⟩:=X4 h;have hr:=Bh.1 Avq i (En.2 hi)
 split at hr
 .rename_i s n hv;simp only[Af,beq_iff_eq]at hr;rw[<-hr.1,<-hr.2];exact P7 Rc T117 rfl rfl hv
 .cases hr
def A11:((List.range 18).all fun i=>match (Jy (M8 TT PT 300) af165 [.int .i64 ((i:Int)+1)] []).bind fun p=>Es p.2 p.1 with
  | some (.agg [.str s,.int .i64 n])=>s==By ((i:Int)+1)&&n==A1 ((i:Int)+1)
  | _=>false)=true:=by kernel_rfl
def Vg{op:Int}(h:1<=op/\op<=18):Fn TT PT 165 [.int .i64 op] (.agg [.str (By op),.int .i64 (A1 op)]):=by
 obtain⟨i,hi,rfl⟩:=X4 h;have hr:=Bh.1 A11 i (En.2 hi)
 split at hr
 .rename_i s n hv;simp only[Af,beq_iff_eq]at hr;rw[<-hr.1,<-hr.2];exact P7 Rc T165 rfl rfl hv
 .cases hr
def A12:((List.range 18).all fun i=>decide ((By ((i:Int)+1)).length<=2/\1<=A1 ((i:Int)+1)/\A1 ((i:Int)+1)<=7))=true:=by decide
def Ab0{op:Int}(h:1<=op/\op<=18):(By op).length<=2/\1<=A1 op/\A1 op<=7:=by
 obtain⟨i,hi,rfl⟩:=X4 h;exact of_decide_eq_true (Bh.1 A12 i (En.2 hi))
def Dm(x:Xp):Ds (.agg x.row)=true:=by
 rw[Bb];simp only[go_sem]
def An{a b c:List UInt8}(h:a.length+b.length<=9223372036854775807)(hc:a++b=c):Ak .add a b=some (.str c):=by
 simp only[Ak];rw[if_pos h,hc]
def Mq(o:Int × List UInt8)(qc:Int):o.2.length<=(Dh o qc).length/\(Dh o qc).length<=o.2.length+2:=by
 unfold Dh
 split
 .simp only[Ah,Aj,C8];omega
 .omega
def Agx{x:Xp}(he:Fn TT PT 90 [.agg x.row] (.str x.txt))(ho:1<=x.op/\x.op<=18)(hl:x.txt.length<=1000000000000000)(qc:Int):Fn TT PT 118 [.agg x.row,.int .i64 qc] (.str (Dh (x.op,x.txt) qc)):=by
 have hs:=Us ho;have qj:=Dm x;rw[Bb]at he qj ⊢;refine Bz T118 rfl ?_;have a1:Ak .add [40] x.txt=some (.str (40::x.txt)):=An (by simp;omega) rfl;have a2:Ak .add (40::x.txt) [41]=some (.str (40::(x.txt++[41]))):=An (by simp;omega) (by simp);unfold Dh;by_cases h:A1 x.op<qc
 .rw[if_pos h];have f:(A1 x.op<qc)=True:=eq_true h;simp only[go_sem];refine Ad hs (by simp only[go_sem]) ?_;simp only[go_sem,f];refine Ad he (by simp only[go_sem]) ?_;simp only[go_sem,↓a1,↓a2];exact G6 rfl
 .rw[if_neg h];have f:(A1 x.op<qc)=False:=eq_false h;simp only[go_sem];refine Ad hs (by simp only[go_sem]) ?_;simp only[go_sem,f];refine Ad he (by simp only[go_sem]) ?_;simp only[go_sem];exact G6 rfl
set_option maxHeartbeats 4000000 in
def W6{x:Xp}(h:Cn x):x.txt.length<=1000000000000000->Fn TT PT 90 [.agg x.row] (.str x.txt):=by
 induction h with
 | @num n nm z t hn=>
  intro hl;have hs:=Us (op:=1) (by omega);rw[Bb,E9];simp only[B6,Dr,if_true];refine Bz T90 rfl ?_;have hf:N5 [.int .i64 n,.int .i64 10]=some (.str (Bw n)):=by unfold N5;exact if_pos hn
  simp only[go_sem];refine Ad hs (by simp only[go_sem]) ?_;simp only[go_sem,Int.reduceBEq];refine F0 P40 (by simp only[go_sem]) hf ?_;simp only[go_sem];exact G6 rfl
 | @name n nm z t=>
  intro hl;have hs:=Us (op:=2) (by omega);rw[Bb,E9];simp only[B6,Dr];refine Bz T90 rfl ?_;simp only[go_sem];refine Ad hs (by simp only[go_sem]) ?_;simp only[go_sem,Int.reduceBEq];exact G6 rfl
 | @idx n nm z t a ha ih=>
  intro hl;have hs:=Us (op:=3) (by omega);rw[Bb];rw[E9]at hl ⊢;simp only[Aw,B6,Dr]at hl ⊢;have hl:nm.length+a.txt.length+2<=1000000000000000:=by simp at hl;omega
  have hi:=ih (by omega);rw[Bb a]at hi ⊢;refine Bz T90 rfl ?_;simp only[go_sem];refine Ad hs (by simp only[go_sem]) ?_;simp only[go_sem,Int.reduceBEq];have a1:Ak .add nm [91]=some (.str (nm++[91])):=An (by simp;omega) rfl;have a2:Ak .add (nm++[91]) a.txt=some (.str (nm++91::a.txt)):=An (by simp;omega) (by simp);have a3:Ak .add (nm++91::a.txt) [93]=some (.str (nm++91::(a.txt++[93]))):=An (by simp;omega) (by simp);refine Ag (by kernel_rfl) ?_;simp only[go_sem,↓a1];refine Bl hi (by simp only[go_sem]) ?_;simp only[go_sem,↓a2,↓a3];exact G6 rfl
 | @un op n nm z t a qE ha ih=>
  intro hl;have ho:1<=op/\op<=18:=by omega
  have hs:=Us ho
  have qC:A1 op=6:=by rcases qE with rfl | rfl<;>rfl
  rw[qC]at hs;obtain⟨s1,-,-⟩:=Ab0 ho;rw[Bb];rw[E9]at hl ⊢
  have e1:Dr op n nm [(a.op,a.txt)]=By op++Dh (a.op,a.txt) 6:=by
   unfold Dr;rw[if_neg (by omega),if_neg (by omega)];simp only;rw[if_neg (by omega)]
  simp only[Aw,B6,e1,Aj]at hl ⊢;obtain⟨p1,p2⟩:=Mq (a.op,a.txt) 6;have hi:=Agx (ih (by simp only at p1;omega)) (Qs ha) (by simp only at p1;omega) 6;rw[Bb a]at hi ⊢;refine Bz T90 rfl ?_;have b1:(op==1)=false:=by simp;omega
  have b2:(op==2)=false:=by simp;omega
  have b3:(op==3)=false:=by simp;omega
  simp only[go_sem];refine Ad hs (by simp only[go_sem]) ?_;simp only[go_sem,Int.reduceBEq,b1,b2,b3];refine Ad hi (by simp only[go_sem]) ?_;have a1:Ak .add (By op) (Dh (a.op,a.txt) 6)=some (.str (By op++Dh (a.op,a.txt) 6)):=An (by omega) rfl;simp only[go_sem,↓a1];exact G6 rfl
 | @bin op n nm z t a b qE ha hb iha ihb=>
  intro hl;have ho:1<=op/\op<=18:=by omega
  have hs:=Us ho;obtain⟨s1,s2,s3⟩:=Ab0 ho
  have qC:A1 op<6:=by
   obtain⟨i,hi,rfl⟩:=X4 ho;have:((List.range 18).all fun i=>decide (5<=i->A1 ((i:Int)+1)<6))=true:=by decide
   exact of_decide_eq_true (Bh.1 this i (En.2 hi)) (by omega)
  rw[Bb];rw[E9]at hl ⊢
  have e1:Dr op n nm [(a.op,a.txt),(b.op,b.txt)]=Dh (a.op,a.txt) (Fu op)++32::(By op++32::Dh (b.op,b.txt) (A1 op+1)):=by
   unfold Dr;rw[if_neg (by omega),if_neg (by omega)]
  simp only[Aw,B6,e1,Aj,Ah]at hl ⊢;obtain⟨p1,p2⟩:=Mq (a.op,a.txt) (Fu op);obtain⟨q1,q2⟩:=Mq (b.op,b.txt) (A1 op+1);simp only at p1 q1;have hi:=Agx (iha (by omega)) (Qs ha) (by omega) (Fu op);have hj:=Agx (ihb (by omega)) (Qs hb) (by omega) (A1 op+1);rw[Bb a]at hi ⊢;rw[Bb b]at hj ⊢;refine Bz T90 rfl ?_;have b1:(op==1)=false:=by simp;omega
  have b2:(op==2)=false:=by simp;omega
  have b3:(op==3)=false:=by simp;omega
  have b6:(A1 op==6)=false:=by simp;omega
  have f6:(A1 op<6)=True:=eq_true qC;have w1:IntKind.i64.wrap (A1 op+1)=A1 op+1:=Ec (by omega);generalize Dh (a.op,a.txt) (Fu op)=pa at hl hi p1 p2 ⊢;generalize Dh (b.op,b.txt) (A1 op+1)=pb at hl hj q1 q2 ⊢;have a1:Ak .add pa [32]=some (.str (pa++[32])):=An (by simp;omega) rfl;have a2:Ak .add (pa++[32]) (By op)=some (.str (pa++32::By op)):=An (by simp;omega) (by simp);have a3:Ak .add (pa++32::By op) [32]=some (.str (pa++32::(By op++[32]))):=An (by simp;omega) (by simp);have a4:Ak .add (pa++32::(By op++[32])) pb=some (.str (pa++32::(By op++32::pb))):=An (by simp;omega) (by simp);cases h3:(A1 op==3)
  all_goals
   have qt:Fu op=(if(A1 op==3)=true then 4 else A1 op):=by unfold Fu;simp
   rw[h3]at qt;simp only[if_true,if_false,Ez]at qt;rw[qt]at hi;simp only[go_sem];refine Ad hs (by simp only[go_sem]) ?_;simp only[go_sem,Int.reduceBEq,b1,b2,b3,b6,f6,h3];refine Ag (by kernel_rfl) ?_;simp only[go_sem];refine Bl hi (by simp only[go_sem]) ?_;simp only[go_sem,↓a1,↓a2,↓a3,w1];refine Bl hj (by simp only[go_sem]) ?_;simp only[go_sem,↓a4];exact G6 rfl
def Auj(k:IntKind)(n d:Nat):Eb (some (.int k (n:Int))) d=some n:=by
 simp only[Eb];rw[if_pos (by omega),Rl]
attribute [go_sem ↓] Auj
attribute [go_sem] Ad1 A0 Int.natCast_nonneg
def Axw(x:Xp):x.row.length=4:=by rw[Bb];rfl
def Mo(s:Sp):s.row.length=11:=by rw[Pz,Bb];rfl
def Ga(s:Sp):Ds (.agg s.row)=true:=by
 rw[Pz,Bb];simp only[go_sem]
def Ban(s:Sp):s.row.take 11=s.row:=Mi (by rw[Mo];omega)
def Avr(d:Nat)(hd:d<=100000000000000):Fn TT PT 64 [.int .i64 (d:Int)] (.str (D6 d)):=by
 refine Bz T64 rfl ?_;simp only[go_sem];refine B3 (α:=Nat) (fun i=>d - i) (fun i=>[(0,.int .i64 (d:Int)),(3,.str (D6 i)),(4,.int .i64 (i:Int))]) (fun _=>[]) (fun i=>i<=d) ?_ 0 (A0 _);rintro i hi ih;refine B4 (by delta lp64_0;exact rfl) ?_;rcases Bu i d with h | h
 .have a1:Ak .add (D6 i) [32,32]=some (.str (D6 (i+1))):=An (by simp[D6];omega) (by
   unfold D6;rw[show 2*(i+1)=2*i+2 by omega,<-List.replicate_append_replicate]
   rfl)
  simp only[go_sem,Bx h,↓a1,Bk (show i<9223372036854775807 by omega)];exact Bg (ih (i+1) (by omega) (by omega)) rfl
 .obtain rfl:i=d:=by omega
  simp only[go_sem,Ck h];exact G6 rfl
def Ja(d:Nat):(D6 d).length=2*d:=by simp[D6]
def Hc(op:Int):List UInt8:=if Bn op then [32,123] else [59]
def Amp(l:List Xp):(E7 l).length<=(match l with | a::_=>a.txt.length+2 | []=>0):=by
 cases l<;>simp[E7]
def Axx{s:Sp}(h:CnS s)(hl:(Cm s).length<=100000000000000):Fn TT PT 65 [.agg s.row] (.str (Cm s++Hc s.op)):=by
 obtain⟨h1,h2,h3,h4,h5,-,-,-,-⟩:=h;obtain⟨op,line,nm,arg,iz,it,idx,ex,bz,bt,body,ez,et,els⟩:=s;simp only at h1 h2 h3 h4 h5 hl ⊢;rw[Pz];simp only;have hw:op=1\/op=2\/op=3\/op=4\/op=5\/op=6\/op=7\/op=8\/op=9\/op=10\/op=11\/op=12\/op=13\/op=14\/op=15:=by omega
 refine Bz T65 rfl ?_;rw[Bb];rcases hw with rfl | hw
 .have hx:=W6 (h5 (.inl rfl));simp only[Cm,if_true,Aj,Ah]at hl ⊢;have hx:=hx (by omega);rw[Bb]at hx
  cases idx with
  | nil=>
   simp only[E7,C8]at hl ⊢;have a1:Ak .add nm []=some (.str nm):=An (by simp;omega) (by simp);have a2:Ak .add nm [32,61,32]=some (.str (nm++[32,61,32])):=An (by simp;omega) rfl;have a3:Ak .add (nm++[32,61,32]) ex.txt=some (.str (nm++32::61::32::ex.txt)):=An (by simp;omega) (by simp);have a4:Ak .add (nm++32::61::32::ex.txt) [59]=some (.str (nm++32::61::32::(ex.txt++[59]))):=An (by simp;omega) (by simp);simp only[go_sem,Int.reduceBEq,Int.reduceLT];refine Ag (by kernel_rfl) ?_;simp only[go_sem,↓a1,↓a2];refine Bl hx (by simp only[go_sem]) ?_;simp only[go_sem,↓a3,↓a4];exact Ap rfl (by simp[Hc,Bn])
  | cons a r=>
   have ha:=W6 (h4 a Cx);simp only[E7,Ah,Aj]at hl ⊢;have ha:=ha (by omega);rw[Bb]at ha;have r0:r=[]:=by simpa using h2
   subst r0;have a1:Ak .add [91] a.txt=some (.str (91::a.txt)):=An (by simp;omega) rfl;have a2:Ak .add (91::a.txt) [93]=some (.str (91::(a.txt++[93]))):=An (by simp;omega) (by simp);have a3:Ak .add nm (91::(a.txt++[93]))=some (.str (nm++91::(a.txt++[93]))):=An (by simp;omega) rfl;have a4:Ak .add (nm++91::(a.txt++[93])) [32,61,32]=some (.str (nm++91::(a.txt++[93,32,61,32]))):=An (by simp;omega) (by simp);have a5:Ak .add (nm++91::(a.txt++[93,32,61,32])) ex.txt=some (.str (nm++91::(a.txt++93::32::61::32::ex.txt))):=An (by simp;omega) (by simp);have a6:Ak .add (nm++91::(a.txt++93::32::61::32::ex.txt)) [59]=some (.str (nm++91::(a.txt++93::32::61::32::(ex.txt++[59])))):=An (by simp;omega) (by simp);simp only[Aw,B6];rw[Bb a];simp only[go_sem,Int.reduceBEq,Int.reduceLT];refine Ad ha (by simp only[go_sem]) ?_;simp only[go_sem,↓a1,↓a2];refine Ag (by kernel_rfl) ?_;simp only[go_sem,↓a3,↓a4];refine Bl hx (by simp only[go_sem]) ?_;simp only[go_sem,↓a5,↓a6];exact Ap rfl (by simp[Hc,Bn])
 rcases hw with rfl | hw
 .simp only[Cm,Cj,Hc,Bn]at hl ⊢;simp at hl;have hx:=W6 (h5 (by omega)) (by omega);rw[Bb]at hx;have a1:Ak .add ([105,102,32]) (ex.txt)=some (.str (105::102::32::ex.txt)):=An (by simp;try omega) (by simp);have a2:Ak .add (105::102::32::ex.txt) ([32,123])=some (.str (105::102::32::(ex.txt++[32,123]))):=An (by simp;try omega) (by simp);simp only[go_sem,Int.reduceBEq,Int.reduceLT];refine Ad hx (by simp only[go_sem]) ?_;simp only[go_sem,↓a1,↓a2];exact Ap rfl (by simp)
 rcases hw with rfl | hw
 .simp only[Cm,Cj,Hc,Bn]at hl ⊢;simp at hl;have hx:=W6 (h5 (by omega)) (by omega);rw[Bb]at hx;have a1:Ak .add ([119,104,105,108,101,32]) (ex.txt)=some (.str (119::104::105::108::101::32::ex.txt)):=An (by simp;try omega) (by simp);have a2:Ak .add (119::104::105::108::101::32::ex.txt) ([32,123])=some (.str (119::104::105::108::101::32::(ex.txt++[32,123]))):=An (by simp;try omega) (by simp);simp only[go_sem,Int.reduceBEq,Int.reduceLT];refine Ad hx (by simp only[go_sem]) ?_;simp only[go_sem,↓a1,↓a2];exact Ap rfl (by simp)
 rcases hw with rfl | hw
 .simp only[Cm,Cj,Hc,Bn]at hl ⊢;simp at hl;have a1:Ak .add ([108,111,99,107,32]) (nm)=some (.str (108::111::99::107::32::nm)):=An (by simp;try omega) (by simp);have a2:Ak .add (108::111::99::107::32::nm) ([32,123])=some (.str (108::111::99::107::32::(nm++[32,123]))):=An (by simp;try omega) (by simp);simp only[go_sem,Int.reduceBEq,Int.reduceLT,↓a1,↓a2];exact Ap rfl (by simp)
 rcases hw with rfl | hw
 .simp only[Cm,Cj,Hc,Bn]at hl ⊢;simp at hl;have a1:Ak .add ([114,101,97,100,32]) (nm)=some (.str (114::101::97::100::32::nm)):=An (by simp;try omega) (by simp);have a2:Ak .add (114::101::97::100::32::nm) ([32,123])=some (.str (114::101::97::100::32::(nm++[32,123]))):=An (by simp;try omega) (by simp);simp only[go_sem,Int.reduceBEq,Int.reduceLT,↓a1,↓a2];exact Ap rfl (by simp)
 rcases hw with rfl | hw
 .simp only[Cm,Cj,Hc,Bn]at hl ⊢;simp at hl;have a1:Ak .add ([119,114,105,116,101,32]) (nm)=some (.str (119::114::105::116::101::32::nm)):=An (by simp;try omega) (by simp);have a2:Ak .add (119::114::105::116::101::32::nm) ([32,123])=some (.str (119::114::105::116::101::32::(nm++[32,123]))):=An (by simp;try omega) (by simp);simp only[go_sem,Int.reduceBEq,Int.reduceLT,↓a1,↓a2];exact Ap rfl (by simp)
 rcases hw with rfl | hw
 .simp only[Cm,Cj,Hc,Bn]at hl ⊢;simp at hl;simp only[go_sem,Int.reduceBEq,Int.reduceLT];exact Ap rfl (by simp)
 rcases hw with rfl | hw
 .simp only[Cm,Cj,Hc,Bn]at hl ⊢;simp at hl;simp only[go_sem,Int.reduceBEq,Int.reduceLT];exact Ap rfl (by simp)
 rcases hw with rfl | hw
 .simp only[Cm,Cj,Hc,Bn]at hl ⊢;simp at hl;have a1:Ak .add ([119,97,105,116,32]) (nm)=some (.str (119::97::105::116::32::nm)):=An (by simp;try omega) (by simp);have a2:Ak .add (119::97::105::116::32::nm) ([59])=some (.str (119::97::105::116::32::(nm++[59]))):=An (by simp;try omega) (by simp);simp only[go_sem,Int.reduceBEq,Int.reduceLT,↓a1,↓a2];exact Ap rfl (by simp)
 rcases hw with rfl | hw
 .simp only[Cm,Cj,Hc,Bn]at hl ⊢;simp at hl;have a1:Ak .add ([110,111,116,105,102,121,32]) (nm)=some (.str (110::111::116::105::102::121::32::nm)):=An (by simp;try omega) (by simp);have a2:Ak .add (110::111::116::105::102::121::32::nm) ([59])=some (.str (110::111::116::105::102::121::32::(nm++[59]))):=An (by simp;try omega) (by simp);simp only[go_sem,Int.reduceBEq,Int.reduceLT,↓a1,↓a2];exact Ap rfl (by simp)
 rcases hw with rfl | hw
 .simp only[Cm,Cj,Hc,Bn]at hl ⊢;simp at hl;have a1:Ak .add ([110,111,116,105,102,121,97,108,108,32]) (nm)=some (.str (110::111::116::105::102::121::97::108::108::32::nm)):=An (by simp;try omega) (by simp);have a2:Ak .add (110::111::116::105::102::121::97::108::108::32::nm) ([59])=some (.str (110::111::116::105::102::121::97::108::108::32::(nm++[59]))):=An (by simp;try omega) (by simp);simp only[go_sem,Int.reduceBEq,Int.reduceLT,↓a1,↓a2];exact Ap rfl (by simp)
 rcases hw with rfl | hw
 .simp only[Cm,Cj,Hc,Bn]at hl ⊢;simp at hl;have a1:Ak .add ([115,112,97,119,110,32]) (nm)=some (.str (115::112::97::119::110::32::nm)):=An (by simp;try omega) (by simp);have a2:Ak .add (115::112::97::119::110::32::nm) ([59])=some (.str (115::112::97::119::110::32::(nm++[59]))):=An (by simp;try omega) (by simp);simp only[go_sem,Int.reduceBEq,Int.reduceLT,↓a1,↓a2];exact Ap rfl (by simp)
 rcases hw with rfl | hw
 .simp only[Cm,Cj,Hc,Bn]at hl ⊢;simp at hl;have a1:Ak .add ([106,111,105,110,32]) (nm)=some (.str (106::111::105::110::32::nm)):=An (by simp;try omega) (by simp);have a2:Ak .add (106::111::105::110::32::nm) ([59])=some (.str (106::111::105::110::32::(nm++[59]))):=An (by simp;try omega) (by simp);simp only[go_sem,Int.reduceBEq,Int.reduceLT,↓a1,↓a2];exact Ap rfl (by simp)
 rcases hw with rfl | hw
 .simp only[Cm,Cj,Hc,Bn]at hl ⊢;simp at hl;have hx:=W6 (h5 (by omega)) (by omega);rw[Bb]at hx;have a1:Ak .add ([115,101,116,32]) (nm)=some (.str (115::101::116::32::nm)):=An (by simp;try omega) (by simp);have a2:Ak .add (115::101::116::32::nm) ([32])=some (.str (115::101::116::32::(nm++[32]))):=An (by simp;try omega) (by simp);have a3:Ak .add (115::101::116::32::(nm++[32])) (ex.txt)=some (.str (115::101::116::32::(nm++32::ex.txt))):=An (by simp;try omega) (by simp);have a4:Ak .add (115::101::116::32::(nm++32::ex.txt)) ([59])=some (.str (115::101::116::32::(nm++32::(ex.txt++[59])))):=An (by simp;try omega) (by simp);simp only[go_sem,Int.reduceBEq,Int.reduceLT];refine Ag (by kernel_rfl) ?_;simp only[go_sem,↓a1,↓a2];refine Bl hx (by simp only[go_sem]) ?_;simp only[go_sem,↓a3,↓a4];exact Ap rfl (by simp)
 subst hw;simp only[Cm,Cj,Hc,Bn]at hl ⊢;simp at hl;have a1:Ak .add ([103,101,116,32]) (nm)=some (.str (103::101::116::32::nm)):=An (by simp;try omega) (by simp);have a2:Ak .add (103::101::116::32::nm) ([32])=some (.str (103::101::116::32::(nm++[32]))):=An (by simp;try omega) (by simp);have a3:Ak .add (103::101::116::32::(nm++[32])) (arg)=some (.str (103::101::116::32::(nm++32::arg))):=An (by simp;try omega) (by simp);have a4:Ak .add (103::101::116::32::(nm++32::arg)) ([59])=some (.str (103::101::116::32::(nm++32::(arg++[59])))):=An (by simp;try omega) (by simp);simp only[go_sem,Int.reduceBEq,Int.reduceLT,↓a1,↓a2,↓a3,↓a4];exact Ap rfl (by simp)
def Ml(d:Nat)(x:Sp)(l:List Sp):Sp.txts d (x::l)=x.txt d++Sp.txts d l:=by rw[Sp.txts]
def Aeq(z:Bool)(t d:Nat)(l:List Sp)(h:∀ s∈l,Fn TT PT 41 [.agg s.row,.int .i64 (d:Int)] (.str (s.txt d)))(hl:(Sp.txts d l).length<=100000000000000)(qT:l.length<=9223372036854775806):Fn TT PT 21 [SL z t (l.map Sp.row),.int .i64 (d:Int)] (.str (Sp.txts d l)):=by
 refine Bz T21 rfl ?_;have qI:(l.map Sp.row).length=l.length:=Ba ..;simp only[go_sem];refine B3 (α:=Nat × List UInt8) (fun a=>l.length - a.1) (fun a=>[(0,SL z t (l.map Sp.row)),(1,.int .i64 (d:Int)),(5,.str a.2),(6,.int .i64 (a.1:Int))]) (fun _=>[]) (fun a=>a.1<=l.length/\a.2++Sp.txts d (l.drop a.1)=Sp.txts d l) ?_ (0,[]) ⟨A0 _,rfl⟩;rintro⟨i,qx⟩ ⟨hi,qe⟩ ih;simp only at hi qe ih;refine B4 (by delta lp21_0;exact rfl) ?_;rcases Bu i l.length with h' | h'
 .obtain⟨x,hx,hd,hm⟩:=C3 h';rw[hd,Ml]at qe;have qB:=congrArg List.length qe;simp only[Aj]at qB;have hr:=Mo x;have ht:=Ban x;have a1:Ak .add qx (x.txt d)=some (.str (qx++x.txt d)):=An (by omega) rfl;simp only[go_sem,qI,Bx h',Av,hx,hr,ht];refine Ad (h x hm) (by simp only[As,Bd,Wh,Ga x,Asl]) ?_;simp only[go_sem,↓a1,Bk (show i<9223372036854775807 by omega)];exact Bg (ih (i+1,qx++x.txt d) (by simp;omega) ⟨by simp;omega,by simp only;rw[Br];exact qe⟩) rfl
 .obtain rfl:i=l.length:=by omega
  rw[Ge h',show Sp.txts d []=[] by rw[Sp.txts],Cy]at qe;rw[<-qe];simp only[go_sem,qI,Ck h'];exact G6 rfl
def K6(d:Nat)(s:Sp):s.txt d=D6 d++(Cm s++if Bn s.op then 32::123::10::(Sp.txts (d+1) s.body++((if s.els.isEmpty then [] else D6 d++125::32::101::108::115::101::32::123::10::Sp.txts (d+1) s.els)++(D6 d++[125,10]))) else [59,10]):=by
 obtain⟨op,line,nm,arg,iz,it,idx,ex,bz,bt,body,ez,et,els⟩:=s;rw[Sp.txt]
def Wx(d:Nat):∀ {l:List Sp} {x:Sp},x∈l->(x.txt d).length<=(Sp.txts d l).length
 | y::l,x,h=>by
  rw[Ml,Aj];rcases Bi.1 h with rfl | h
  .omega
  .have:=Wx d h;omega
def Wp(l:List Sp)(d:Nat):l.length<=(Sp.txts d l).length:=by
 induction l with
 | nil=>simp
 | cons x l ih=>
  rw[Ml,Aj,K6];simp only[Aj,Ah]
  split
  .simp;omega
  .simp;omega
def Avs{s:Sp}(h:CnS s):∀ (d:Nat) (D:Int),max D 0=(d:Int)->(s.txt d).length<=100000000000000->Fn TT PT 41 [.agg s.row,.int .i64 D] (.str (s.txt d)):=by
 induction h with
 | @mk s h1 h2 h3 h4 h5 h6 h7 h8 h9 ihb ihe=>
  intro d D mx hl;have hs:CnS s:=.mk h1 h2 h3 h4 h5 h6 h7 h8 h9;rw[K6]at hl ⊢;simp only[Aj,Ja]at hl;have hh:=Axx hs (by omega);have hi:=Avr d (by omega);have qj:=Ga s;have qE:=h1;generalize hH:Cm s=H at hl hh ⊢;have g1:(s.op<1)=False:=eq_false (by omega);have g2:(15<s.op)=False:=eq_false (by omega);refine Bz T41 rfl ?_;rw[Pz,Bb]at hh qj ⊢;simp only[Bq,Bf]at hh qj ⊢;cases hb:Bn s.op
  .have g3:(s.op<2)=True/\(s.op<2)=True\/(s.op<2)=False/\(8<s.op)=True:=by
    unfold Bn at hb;by_cases qh:s.op<2
    .exact .inl ⟨eq_true qh,eq_true qh⟩
    .refine .inr ⟨eq_false qh,eq_true ?_⟩
     have:¬ s.op<=8:=fun h8=>by
      rw[decide_eq_true (by omega),decide_eq_true h8]at hb;cases hb
     omega
   simp only[Hc,hb]at hh;have a1:Ak .add (D6 d) (H++[59])=some (.str (D6 d++(H++[59]))):=An (by simp[Ja];omega) rfl;have a2:Ak .add (D6 d++(H++[59])) [10]=some (.str (D6 d++(H++[59,10]))):=An (by simp[Ja];omega) (by simp);rcases g3 with⟨g3,g4⟩ | ⟨g3,g4⟩
   all_goals
    simp only[go_sem,g1,g2,mx];refine Ad hi (by simp only[go_sem]) ?_;simp only[go_sem];refine Ad hh (by simp only[go_sem]) ?_;simp only[go_sem,↓a1,↓a2,g3,g4];exact Ap rfl (by simp)
  .rw[hb]at hl;rw[if_pos rfl]at hl ⊢;simp only[Ah,Aj,Ja,C8]at hl;have qt:=Wp s.body (d+1);have qy:=Aeq s.bz s.bt (d+1) s.body (fun x hx=>ihb x hx (d+1) _ (by omega) (by have:=Wx (d+1) hx;omega)) (by omega) (by omega);have qu:=Wp s.els (d+1)
   have g3:(s.op<2)=False/\(8<s.op)=False:=by
    unfold Bn at hb;simp only[Af,decide_eq_true_eq]at hb;exact⟨eq_false (by omega),eq_false (by omega)⟩
   obtain⟨g3,g4⟩:=g3;simp only[Hc,hb,if_true]at hh;have qN:=Ja d;have qp:=Bk (show d<9223372036854775807 by omega);have qR:(s.body.map Sp.row).length=s.body.length:=Ba ..;have qH:(s.els.map Sp.row).length=s.els.length:=Ba ..;generalize hT:D6 d=T at hl hi qN ⊢;generalize qP:Sp.txts (d+1) s.body=B at hl qy qt ⊢;have a1:Ak .add T (H++[32,123])=some (.str (T++(H++[32,123]))):=An (by simp;omega) rfl;have a2:Ak .add (T++(H++[32,123])) [10]=some (.str (T++(H++[32,123,10]))):=An (by simp;omega) (by simp);have a3:Ak .add (T++(H++[32,123,10])) B=some (.str (T++(H++32::123::10::B))):=An (by simp;omega) (by simp);have a4:Ak .add (T++(H++32::123::10::B)) T=some (.str (T++(H++32::123::10::(B++T)))):=An (by simp;omega) (by simp)
   cases hels:s.els with
   | nil=>
    rw[hels]at hl qH hh;simp only[B6]at hh;have e0:((0:Int)<((([]:List Sp).map Sp.row).length:Int))=False:=eq_false (by simp);have a5:Ak .add (T++(H++32::123::10::(B++T))) [125,10]=some (.str (T++(H++32::123::10::(B++(T++[125,10]))))):=An (by simp;omega) (by simp);simp only[go_sem,g1,g2,mx];refine Ad hi (by simp only[go_sem]) ?_;simp only[go_sem];refine Ad hh (by simp only[go_sem]) ?_;simp only[go_sem,↓a1,↓a2,g3,g4,qp];refine Ad qy (by simp only[go_sem]) ?_;simp only[go_sem,↓a3,Int.reduceLT,↓a4,↓a5];exact Ap rfl (by simp)
   | cons y ys=>
    rw[hels]at hl qH qu hh;simp only[Aw]at hh;have qA:=Aeq s.ez s.et (d+1) (y::ys) (fun x hx=>ihe x (by rw[hels];exact hx) (d+1) _ (by omega) (by have:=Wx (d+1) hx;simp at hl;omega)) (by simp at hl;omega) (by simp at hl;omega);simp only[Aw]at qA;have e0:((0:Int)<((ys.length+1:Nat):Int))=True:=eq_true (by omega);generalize qQ:Sp.txts (d+1) (y::ys)=E at hl qA qu ⊢;simp only[List.isEmpty_cons,Ez,if_false,Aj,Ah]at hl;have a5:Ak .add (T++(H++32::123::10::(B++T))) [125,32,101,108,115,101,32,123,10]=some (.str (T++(H++32::123::10::(B++(T++[125,32,101,108,115,101,32,123,10]))))):=An (by simp;omega) (by simp);have a6:Ak .add (T++(H++32::123::10::(B++(T++[125,32,101,108,115,101,32,123,10])))) E=some (.str (T++(H++32::123::10::(B++(T++125::32::101::108::115::101::32::123::10::E))))):=An (by simp;omega) (by simp);have a7:Ak .add (T++(H++32::123::10::(B++(T++125::32::101::108::115::101::32::123::10::E)))) T=some (.str (T++(H++32::123::10::(B++(T++125::32::101::108::115::101::32::123::10::(E++T)))))):=An (by simp;omega) (by simp);have a8:Ak .add (T++(H++32::123::10::(B++(T++125::32::101::108::115::101::32::123::10::(E++T))))) [125,10]=some (.str (T++(H++32::123::10::(B++(T++125::32::101::108::115::101::32::123::10::(E++(T++[125,10]))))))):=An (by simp;omega) (by simp);simp only[go_sem,g1,g2,mx];refine Ad hi (by simp only[go_sem]) ?_;simp only[go_sem];refine Ad hh (by simp only[go_sem]) ?_;simp only[go_sem,↓a1,↓a2,g3,g4,qp];refine Ad qy (by simp only[go_sem]) ?_;simp only[go_sem,↓a3,Ba,e0,↓a4,↓a5,qp];refine Ad qA (by simp only[go_sem,Aw]) ?_;simp only[go_sem,↓a6,↓a7,↓a8];exact Ap rfl (by simp)
def Amq{s:Sp}(h:CnS s)(d:Nat)(hl:(s.txt d).length<=100000000000000):Fn TT PT 41 [.agg s.row,.int .i64 (d:Int)] (.str (s.txt d)):=Avs h d _ (by omega) hl
def Aah(l:List UInt8):∀ r∈Be l,r.length=1:=by
 intro r hr;obtain⟨c,_,rfl⟩:=De.1 hr;rfl
def Avt(a b:List UInt8):Be (a++b)=Be a++Be b:=Ei ..
def Ao1(a:List UInt8):(Be a).length=a.length:=Ba ..
def Ajj:∀ l:List UInt8,Lp (Be l)=some l
 | []=>rfl
 | c::l=>by
  have h:c.toNat<256:=c.toNat_lt;have:=Ajj l;simp only[Be,Aw,Lp]at this ⊢;rw[if_pos (by omega),this];simp
def Alf(l:List UInt8):Am (Be l).flatten=[]:=by
 refine K0 (Mn fun r hr=>?_);obtain⟨c,_,rfl⟩:=De.1 hr;rfl
def Axy(ty:Nat)(x:V)(l:List UInt8)(σ:St):Art ty x (.str l) σ=Ef 1 (1,ty) x (.lst 1 (Be l)) σ:=rfl
def Avu{s:St}{j:Nat}{x:Ob}(h:s[j]?=some x):j<s.length:=(Aq.1 h).1
def BL(s:St)(b:Nat)(u:V)(l:List UInt8):Prop:=∃ p,s[b]?=some (.row [p,u] 132 0 0)/\(p=.nilp\/p=.ptr b 0 0)/\GW s 1 5 (b+1) u (Be l)
def A13{s:St}{b:Nat}{u:V}{l:List UInt8}(h:BL s b u l):∀ i∈u.refs,i<s.length:=by
 obtain⟨p,_,_,hg⟩:=h;exact Aor hg
def A14{s J:St}{b:Nat}{u:V}{l:List UInt8}(h:BL s b u l):BL (s++J) b u l:=by
 obtain⟨p,h1,h2,h3⟩:=h;exact⟨p,B5 h1,h2,P8 h3⟩
def H5{s:St}{cs:List V}{t:Nat}(h:Cl s)(hr:cs.all V.rowB=true):Cl (s++[.row cs t 0 0]):=R5 h (by simp only[Ob.refs,K0 hr];simp)
def Axz{s:St}{b:Nat}{u:V}{l:List UInt8}(t:List UInt8)(h:BL s b u l)(hc:Cl s)(hb:l.length+t.length<=100000000000000):
  ∃ s' u',Th TT PT 102 [.ptr b 0 0,.str t] s (.tup [.int .i64 (t.length:Int),.nili]) s'/\BL s' b u' (l++t)/\Cl s'/\s.length<=s'.length/\∀ j,j≠b->j ∉ u.refs->j<s.length->s'[j]?=s[j]?:=by
 have qK:=A13 h;obtain⟨p,hs,hp,hg⟩:=h;have qG:b<s.length:=Avu hs
 have h1:∃ s1,V0 132 [.ptr b 0 0] s=some (.tup [],s1)/\s1[b]?=some (.row [.ptr b 0 0,u] 132 0 0)/\GW s1 1 5 (b+1) u (Be l)/\s1.length=s.length/\Cl s1/\∀ j,j≠b->s1[j]?=s[j]?:=by
  rcases hp with rfl | rfl
  .refine⟨s.set b (.row [.ptr b 0 0,u] 132 0 0),?_,by rw[Ci qG],F6 hg (by omega),by simp,Hl hc ?_,fun j hj=>by rw[Bj (by omega)]⟩
   .simp[V0,hs]
   .intro i hi;simp only[Ob.refs,Am,V.refs,Cy,Cr,E0]at hi;rcases hi with rfl | hi
    .exact qG
    .exact qK i hi
  .exact⟨s,by simp[V0,hs],hs,hg,rfl,hc,fun _ _=>rfl⟩
 obtain⟨s1,e1,q1,g1,l1,c1,f1⟩:=h1;obtain⟨u2,s2,e2,g2,l2,fo,f2⟩:=Sa (bytes:=1) (y:=.lst 1 (Be t)) (ys:=Be t) g1 (by omega) rfl (by omega) (Aah l) (Aah t) (by rw[Ao1,Ao1];omega);rw[<-Avt]at g2;have q2:=(f2 b (by omega)).trans q1;have c2:Cl s2/\∀ i∈u2.refs,i<s2.length:=⟨Avj g1 rfl e2 (Alf l) (Alf t) c1,Aor g2⟩
 have c3:Cl (s2.set b (.row [.ptr b 0 0,u2] 132 0 0)):=by
  refine Hl c2.1 ?_;intro i hi;simp only[Ob.refs,Am,V.refs,Cy,Cr,E0]at hi;rcases hi with rfl | hi
  .omega
  .exact c2.2 i hi
 refine⟨s2.set b (.row [.ptr b 0 0,u2] 132 0 0),u2,Agu T102 rfl ?_ rfl rfl (by simp;omega) c3,⟨.ptr b 0 0,by rw[Ci (by omega)],.inr rfl,F6 g2 (by omega)⟩,c3,by simp;omega,fun j hj hu hl=>?_⟩
 .simp only[go_sem];refine Nn (.spec T132 rfl rfl e1) ?_;simp only[go_sem,q1,Axy,e2,q2,A57 (Dq g2),Dq g2];exact⟨rfl,rfl⟩
 .rw[Bj (by omega),fo j ?_ (by omega),f1 j hj];intro i g hi qO;subst qO;exact hu (by rw[hi];simp[V.refs])
def A6g{s:St}{b:Nat}{u:V}{l:List UInt8}(h:BL s b u l):∃ s',Sv 132 5 [.ptr b 0 0] s=some (.str l,s'):=by
 obtain⟨p,hs,hp,hg⟩:=h;rcases hg with⟨rfl,hl⟩ | ⟨hn,i,g,rfl,ho,qU⟩
 .have:l=[]:=by simpa[Be] using hl
  subst this;exact⟨s,by simp[Sv,hs]⟩
 .have qF:0<(Be l).length:=List.length_pos_iff.2 hn;have qL:E6 1 (Be l).length (Be l).flatten=Be l:=Z9 (Aah l);have qS:=Lo (Aah l);refine⟨s.set i .dead,?_⟩;simp only[Sv,hs,ho];rw[if_pos ⟨trivial,trivial,qF⟩,if_pos ⟨trivial,trivial,by omega⟩,qL,Ajj];rfl
