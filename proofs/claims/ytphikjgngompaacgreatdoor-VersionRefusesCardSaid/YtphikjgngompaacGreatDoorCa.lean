/- What every law's closing needs: listed tables, the post of a law that answers true and leaves its arguments. -/
import Derived.Test.YtphikjgngompaacGreatDoorNu
import Derived.Shelf.Vars
import Derived.Test.YtphikjgngompaacGreatDoorCards
import Derived.Test.YtphikjgngompaacGreatDoorTie
import Derived.ProofKit
import Derived.OpenShut
import Derived.Carry
import Derived.Deep.DeepHandedRow
import Derived.Lib.LaidTab
import Derived.Lib.Join
set_option linter.all false
namespace Go.Proofs.YtphikjgngompaacGreatDoor
open Go.ChangeShapes Go.WideShapes Go.ChangeAt Go.RowKit KM
mutual
def flatV{H:Type}:DataW H->List Value
 | .lit (.bool b)=>[.bool b]
 | .lit (.int k n)=>[.int k n]
 | .lit (.string l)=>[.string ⟨l.toArray⟩]
 | .agg ps=>Se ps
 | _=>[]
def Se{H:Type}:List (DataW H)->List Value
 | []=>[]
 | d::ds=>flatV d++Se ds
end
def Akp(P:Program)(ts:List TypeId):Bool:=ts.all fun t=>
 match P.underlying t with
 | some .bool | some (.int _) | some .string=>P.cellsOf t==1
 | some (.struct fs)=>fs.toList.all (fun f=>ts.contains f.type)&&Qv P fs.toList 0 (P.cellsOf t)
 | some (.array n e)=>ts.contains e&&P.cellsOf t==n*P.cellsOf e
 | _=>false
def An5{H:Type}{P:Program}{cs:List Value}{g:Field->Option (DataW H × List MemPlace)}:
  ∀ (fl:List Field) (s e:Nat) (xs:List (DataW H × List MemPlace)),Qv P fl s e=true->fl.mapM g=some xs->e=cs.length ->
   (∀ f∈fl,∀ x,g f=some x->(cs.drop f.offset).take (P.cellsOf f.type)=flatV x.1)->cs.drop s=Se (xs.map (·.1))
 | [],s,e,xs,hc,hm,he,_=>by
  grind[Qv,Se]
 | f::fl,s,e,xs,hc,hm,he,hg=>by
  simp only[Qv,Al,beq_iff_eq]at hc;rw[Jv]at hm
  cases hf:g f with
  | none=>grind
  | some x=>
   cases hl:fl.mapM g with
   | none=>grind
   | some r=>
    simp[hf,hl]at hm;subst hm;have h1:=An5 fl _ e r hc.2 hl he (fun f' qL=>hg f' (Dl _ qL))
    grind[Se,List.drop_drop,List.take_append_drop]
def Aoo{H:Type}{cs:List Value}{m:Nat}{g:Nat->Option (DataW H × List MemPlace)}(hg:∀ i x,g i=some x->(cs.drop (i*m)).take m=flatV x.1):
  ∀ (n s:Nat) (xs:List (DataW H × List MemPlace)),(List.range' s n).mapM g=some xs->cs.length=(s+n)*m->cs.drop (s*m)=Se (xs.map (·.1))
 | 0,s,xs,hm,hl=>by
  grind[Se]
 | n+1,s,xs,hm,hl=>by
  rw[List.range'_succ,Jv]at hm
  cases hf:g s with
  | none=>grind
  | some x=>
   cases hr:(List.range' (s+1) n).mapM g with
   | none=>grind
   | some r=>
    simp[hf,hr]at hm;subst hm;have h1:=Aoo hg n (s+1) r hr (by grind)
    grind[Se,List.drop_drop,List.take_append_drop]
def Ahb{H:Type}(qe:TypeId × Value->H)(P:Program)(w:World)(qh:Nat->Bool)(qp:Bool)(ts:List TypeId)(qm:Akp P ts=true):
  ∀ (fuel:Nat) (t:TypeId) (cs:List Value) (d:DataW H) (ps:List MemPlace),t∈ts->DataW.trod qe P w 0 qh qp fuel t cs=some (d,ps)->cs=flatV d
 | 0,_,_,_,_,_,h=>by simp_all [DataW.trod]
 | fuel+1,t,cs,d,ps,ht,h=>by
  have hp:=Cc.1 qm t ht;simp only[DataW.trod]at h
  split at h
  .simp at h;obtain⟨rfl,_⟩:=h;rfl
  .split at h
   .rename_i hk;simp at h;obtain⟨rfl,_⟩:=h;obtain⟨rfl,_⟩:=hk;rfl
   grind
  .grind
  .split at h
   .simp at h;obtain⟨rfl,_⟩:=h;simp[flatV]
   grind
  .grind
  .grind
  .grind
  .grind
  .rename_i fs hu;rw[hu]at hp;simp only[Al,Cc,Abl]at hp
   split at h
   .rename_i qB;simp only[Ci]at h;obtain⟨xs,hm,h⟩:=h;simp at h;obtain⟨rfl,_⟩:=h;have:=An5 (P:=P) (cs:=_) fs.toList 0 _ xs hp.2 hm qB.symm (fun f hf x hx=>Ahb qe P w qh qp ts qm fuel f.type _ x.1 x.2 (hp.1 f hf) hx)
    grind[flatV]
   grind
  .rename_i n e hu;rw[hu]at hp;simp only[Al,beq_iff_eq,Abl]at hp
   split at h
   .rename_i qB;simp only[Ci]at h;obtain⟨xs,hm,h⟩:=h;simp at h;obtain⟨rfl,_⟩:=h;rw[List.range_eq_range']at hm;have:=Aoo (cs:=_) (m:=P.cellsOf e) (fun i x hx=>Ahb qe P w qh qp ts qm fuel e _ x.1 x.2 hp.1 hx) n 0 xs hm (by grind)
    grind[flatV]
   grind
  all_goals grind
def Aiu{P:Program}{w:World}{n:String}{d:DataW Unit}:∀ {qb:List (String × DataW Unit)} {ps:List MemPlace},DataW.LaidVars P w qb ps->(n,d)∈qb ->
  ∃ g t cs fuel p,P.globalNamed n=some g/\(P.globals[g]?).map (·.type)=some t/\w.var? P n=some cs/\DataW.trod (fun _=>()) P w 0 (fun _=>true) false fuel t cs.toList=some (d,p)
 | [],_,_,hm=>by cases hm
 | (n',d')::r,ps,h,hm=>by
  obtain⟨g,t,cs,fuel,p,q,h1,h2,h3,h4,h5,_⟩:=h;rcases B7.1 hm with e | hm
  .grind
  .exact Aiu h5 hm
def A6d{P:Program}{w:World}{n:String}{d:DataW Unit}{g:Nat}{t:TypeId}{ts:List TypeId}{qb:List (String × DataW Unit)}(h:laidMet P qb w)(hm:(n,d)∈qb)
  (hg:P.globalNamed n=some g) (ht:(P.globals[g]?).map (·.type)=some t) (qm:Akp P ts=true) (qf:t∈ts):w.var? P n=some (flatV d).toArray:=by
 obtain⟨ps,h,_⟩:=h;obtain⟨g',t',cs,fuel,p,h1,h2,h3,h4⟩:=Aiu h hm;obtain rfl:g'=g:=Nz (h1.symm.trans hg);obtain rfl:t'=t:=Nz (h2.symm.trans ht);rw[h3,<-Ahb _ P w _ _ ts qm fuel t' _ d p qf h4]
theorem Anr{H:Type}{qe:TypeId × Value->H}{P:Program}(hl:laidOutB P=true){W W':World}(hb:Below W.heap.size W W'){sp:Nat->Bool}:
  ∀ {ts:List TypeId} {vs:List Value} {ds:List (DataW H)} {ps:List MemPlace},(ts.all fun t=>P.readableRec t&&decide (t<P.types.size))=true->DataW.TrodAll qe P W 0 (fun _=>true) true ts vs ds ps ->
   (∀ x∈ps,x.block<W.heap.size)->(∀ x∈ps,sp x.block=true)->DataW.TrodAll qe P W' 0 sp true ts vs ds ps
 | [],[],[],_,_,h,_,_=>h
 | t::ts,v::vs,d::ds,ps,hr,h,ql,qz=>by
  obtain⟨p,q,h1,h2,rfl⟩:=h;simp only[B5,Al,decide_eq_true_eq]at hr;refine⟨p,q,WideElems.Trod_stays hl hr.1.1 hr.1.2 h1 (fun x hx=>hb.same (ql x (by simp[hx]))) (fun x hx=>qz x (by simp[hx])),?_,rfl⟩;exact Anr hl hb (by grind) h2 (fun x hx=>ql x (by simp[hx])) (fun x hx=>qz x (by simp[hx]))
 | [],_::_,_,_,_,h,_,_=>by grind[DataW.TrodAll]
 | [],[],_::_,_,_,h,_,_=>by grind[DataW.TrodAll]
 | _::_,[],_,_,_,h,_,_=>by grind[DataW.TrodAll]
 | _::_,_::_,[],_,_,h,_,_=>by grind[DataW.TrodAll]
def A6e{H:Type}{qe:TypeId × Value->H}{P:Program}{f:Func}{s:ChangeSpec}{qj qr qi qq:Bool}{W W':World}{args:Array Value}{ds gs:List (DataW H)}{qa:List MemPlace}{tb:TypeId}
  (hW:DataW.Whole qe P f.params.toList s.vars qj W args.toList ds gs qa) (hl:laidOutB P=true) (qm:(f.params.toList.all fun t=>P.readableRec t&&decide (t<P.types.size))=true)
  (hv:s.vars=[]) (hr:f.resultTypes=#[tb]) (hu:P.underlying tb=some .bool) (h1:(s.fn H (ds++gs)).results=[.lit (.bool true)]) (h2:(s.fn H (ds++gs)).args=ds) (h3:(s.fn H (ds++gs)).vars=[])
  (hb:Below W.heap.size W W'):s.post qe P f qj qr qi qq W args (.bool true) W':=by
 have ql:∀ p∈qa,p.block<W.heap.size:=fun p hp=>hW.lt p hp
 have qw:∀ p∈qa,(fun b=>decide (b<W.heap.size)) p.block=true:=fun p hp=>by grind
 have qu:∀ (b:Nat) (sp:Nat->Bool) (hd:Bool),DataW.TrodAll qe P W' b sp hd f.resultTypes.toList ((Value.bool true).resultList f.resultTypes.size) (s.fn H (ds++gs)).results []:=fun b sp hd=>by
  rw[hr,h1];exact trodAll_cons_mk (shut_bool hu _) trodAll_mk0
 obtain⟨p,q,hA,hV,qS,hz,hn⟩:=id hW;have hg:gs=[]/\q=[]:=by rw[hv]at hV;exact trodVars_none hV
 obtain⟨rfl,rfl⟩:=hg
 have qk:∀ sp:Nat->Bool,(∀ p∈qa,sp p.block=true)->DataW.TrodAll qe P W' 0 sp true f.params.toList args.toList (s.fn H (ds++[])).args qa:=fun sp qz=>by
  grind[Anr]
 have qn:∀ sp:Nat->Bool,DataW.TrodVars qe P W' sp s.vars (s.fn H (ds++[])).vars []:=fun sp=>by
  rw[hv,h3];rfl
 refine⟨ds,[],qa,[],qa,[],hW,qu _ _ _,qk _ qw,qn _,World.keptBut_mono (fun p hp=>⟨hp,.inr (by grind)⟩) (hb.frame (·∈qa)),fun _=>?_⟩;refine⟨?_,_,_,([]++qa)++[],⟨[]++qa,[],trodAll_append (qk _ (fun _ _=>rfl)) (qu _ _ _),qn _,rfl,?_,?_⟩,?_⟩
 .exact ok_one hr rfl (okWide_bool_mk hu _)
 .intro b off hp;have qf:MemPlace.cell b off∈qa:=by simpa using hp
  rw[hb.frozen (ql _ qf)];exact hz b off qf
 .grind
 grind
def Arq{P:Program}{w:World}{n:String}{g:Nat}{cs:Array Value}(h:w.var? P n=some cs)(hg:P.globalNamed n=some g):∃ e fz,w.heap[g]?=some (.cells cs e fz):=by
 grind[World.var?]
def Ajo{P:Program}{w:World}{n:String}{d:DataW Unit}{g:Nat}{t:TypeId}{ts:List TypeId}{qb:List (String × DataW Unit)}{r:List V}(h:laidMet P qb w)(hm:(n,d)∈qb)
  (hg:P.globalNamed n=some g) (ht:(P.globals[g]?).map (·.type)=some t) (qm:Akp P ts=true) (qf:t∈ts) (hr:Iv r (flatV d)=true) (hf:r.all Af3=true) :
  ∃ us e fz,w.heap[g]?=some (.cells us e fz)/\r.length=us.toList.length/\∀ j,j<r.length->W1 (r.getD j .und) (us.toList.getD j undef):=by
 obtain⟨e,fz,hh⟩:=Arq (A6d h hm hg ht qm qf) hg
 grind[A0o]
def Aub{P:Program}{w:World}{n:String}{nm:String}{d:DataW Unit}{g:Nat}{t:TypeId}{ms:Array (String × TypeId)}{qb:List (String × DataW Unit)}(h:laidMet P qb w)(hm:(n,.iface nm d)∈qb)
  (hg:P.globalNamed n=some g) (ht:(P.globals[g]?).map (·.type)=some t) (hu:P.underlying t=some (.interface ms)) :
  ∃ us e fz,w.heap[g]?=some (.cells us e fz)/\[V.ifc].length=us.toList.length/\∀ j,j<[V.ifc].length->W1 ([V.ifc].getD j .und) (us.toList.getD j undef):=by
 obtain⟨ps,h,_⟩:=h;obtain⟨g',t',cs,fuel,p,h1,h2,h3,h4⟩:=Aiu h hm;obtain rfl:g'=g:=Nz (h1.symm.trans hg);obtain rfl:t'=t:=Nz (h2.symm.trans ht);obtain⟨e,fz,hh⟩:=Arq h3 hg;refine⟨cs,e,fz,hh,?_⟩
 cases fuel with
 | zero=>simp_all [DataW.trod]
 | succ fuel=>
  unfold DataW.trod at h4;rw[hu]at h4;generalize cs.toList=l at h4;rcases l with _ | ⟨x,_ | ⟨y,l⟩⟩
  .grind
  .cases x with
   | iface u v=>
    refine⟨rfl,fun j hj=>.inr ?_⟩
    simp_all
   | _=>grind
  grind
def Bax{P:Program}{w:World}{g:Nat}{t:TypeId}{zero:Array Value}
  (h:w.ShapedOpen P) (hg:g<P.globals.size)
  (h0:((begin P (fun _ _=>0) default).world.heap[g]?).bind Obj.row?=some (zero,t)) (hz:zero.size=1)
  (hb:P.buildable t=true) (hc:P.cellTypes P.depth t=some [t]) (hu:P.underlying t=some (.int .i64)) :
  ∃ m,∃ us e fz,w.heap[g]?=some (.cells us e fz)/\[V.int .i64 m].length=us.toList.length/\∀ j,j<[V.int .i64 m].length->W1 ([V.int .i64 m].getD j .und) (us.toList.getD j undef):=by
 obtain⟨m,hm⟩:=cell_of_shapedOpen_int h hg h0 hz hb hc hu;obtain⟨cs,hh,hs,_⟩:=h.1 g zero t hg h0;refine⟨m,cs,_,_,hh,by grind,fun j hj=>.inl ?_⟩;obtain rfl:j=0:=by grind
 have:cs[0]?=some (.int .i64 m):=by simpa[World.cell?,hh] using hm
 have:cs.toList.getD 0 undef=.int .i64 m:=by rw[Fl,Array.getElem?_toList,this];rfl
 rw[this];exact⟨by simp[Oi],rfl⟩
end Go.Proofs.YtphikjgngompaacGreatDoor
/- Walks: comparisons, keys. -/
namespace Go.Proofs.YtphikjgngompaacGreatDoor.KM
open Go
def Aej(a:Int):Fn TT PT 139 [.int .i64 a] (.bool false):=by
 refine Bg T139 rfl ?_;simp only[go_sem];exact Ae rfl AE
def Zi(a b:Int):Fn TT PT 89 [.int .i64 a,.int .i64 b] (.int .i64 (Lib.compareInt a b)):=by
 refine Bg T89 rfl ?_;simp only[go_sem]
 first | refine Ab (Aej a) AG ?_ | refine Ax (Aej a) AG ?_
 simp only[go_sem]
 first | refine Ab (Aej b) AG ?_ | refine Ax (Aej b) AG ?_
 simp only[go_sem];refine Lp (fun h=>?_) (fun h=>?_)
 .simp only[go_sem,h];refine Ae rfl ?_
  grind[Lib.compareInt]
 .simp only[go_sem,h];refine Lp (fun h=>?_) (fun h=>?_)
  .simp only[go_sem,h];refine Ae rfl ?_
   simp_all [Lib.compareInt]
  .simp only[go_sem,h];refine Ae rfl ?_
   simp_all [Lib.compareInt,if_neg]
def Ra:List Int->Int
 | []=>0
 | a::r=>if a≠0 then a else Ra r
def Aek(t:Nat)(xs:List Int)(hn:xs.length<9223372036854775807):Fn TT PT 88 [.lst t (xs.map fun a=>[.int .i64 a])] (.int .i64 (Ra xs)):=by
 refine Bg T88 rfl ?_;simp only[go_sem,Av];refine Bb (fun i=>xs.length - i) (fun i:Nat=>[(3,.int .i64 0),(6,.lst t (xs.map fun a=>[.int .i64 a])),(7,.int .i64 xs.length),(8,.int .i64 i)]) (fun _=>[]) (fun i=>i<=xs.length/\Ra xs=Ra (xs.drop i)) ?_ 0 ⟨by omega,rfl⟩;rintro i ⟨hi,ho⟩ ih;refine Ay Bl1 ?_;rcases Az i xs.length with h | h
 .obtain⟨x,hx,hd,-⟩:=Bk h;rw[hd,Ra]at ho;simp only[go_sem,Aq h,hx,Ak];refine Lp (fun h2=>?_) (fun h2=>?_)
  .simp only[go_sem];refine Ae rfl ?_
   grind
  .simp only[go_sem,Aw (Nat.lt_trans h hn)];refine Ai (ih (i+1) AA ⟨by omega,?_⟩) rfl
   grind
 .simp only[go_sem,Bj h];refine Ae rfl ?_;rw[ho,D4 h];rfl
def R5(t u:Nat)(a b:Int):Fn TT PT 57 [.lst t [[.int .i64 a]],.lst u [[.int .i64 b]]] (.int .i64 (Lib.compareInt a b)):=by
 refine Bg T57 rfl ?_;simp only[go_sem];refine Ay Aya ?_;simp only[go_sem];refine Ad AD ?_;simp only[go_sem];refine Lp (fun h1=>?_) (fun h1=>?_)
 .simp only[go_sem];refine Ad AD ?_;simp only[go_sem];refine Lp (fun h2=>?_) (fun h2=>?_)
  .simp only[go_sem];simp at h2;exact Ae rfl (by grind[Lib.compareInt])
  .simp only[go_sem];simp at h1 h2;exact Ae rfl (by rw[Lib.compareInt,if_neg AA,if_pos AA])
 .simp only[go_sem];refine Ay Aya ?_;simp only[go_sem];simp at h1;exact Ae rfl (by simp_all [Lib.compareInt])
/-! keys -/
abbrev Bp:=List UInt8 × List UInt8 × Int
def Bl(k:Bp):List V:=[.str k.1,.str k.2.1,.int .i64 k.2.2]
def Mo(a b:Bp):Int:=if a.1≠b.1 then Lib.compareBytes a.1 b.1 else if a.2.1≠b.2.1 then Lib.compareBytes a.2.1 b.2.1 else Lib.compareInt a.2.2 b.2.2
def Arr(a b:Bp):Fn TT PT 58 [.agg (Bl a),.agg (Bl b)] (.int .i64 (Mo a b)):=by
 refine Bg T58 rfl ?_;unfold Bl;simp only[go_sem];refine Lp (fun h1=>?_) (fun h1=>?_)
 .simp only[go_sem]
  first | refine Fu P95 AG AH ?_ | refine Aec P95 AG AH ?_
  simp only[go_sem];refine Ae rfl ?_
  grind[Mo]
 .simp only[go_sem];refine Lp (fun h2=>?_) (fun h2=>?_)
  .simp only[go_sem]
   first | refine Fu P95 AG AH ?_ | refine Aec P95 AG AH ?_
   simp only[go_sem];refine Ae rfl ?_
   grind[Mo]
  .simp only[go_sem]
   first | refine Ab (R5 _ _ a.2.2 b.2.2) AG ?_ | refine Ax (R5 _ _ a.2.2 b.2.2) AG ?_
   simp only[go_sem];refine Ae rfl ?_
   grind[Mo]
theorem Auc:∀ l:List UInt8,Lib.compareBytes l l=0
 | []=>rfl
 | a::l=>by
  simp[Lib.compareBytes,Auc l]
theorem Aud:∀ {a b:List UInt8},Lib.compareBytes a b=0->a=b
 | [],[],_=>rfl
 | [],_::_,h=>by grind[Lib.compareBytes]
 | _::_,[],h=>by grind[Lib.compareBytes]
 | a::r,b::s,h=>by
  simp only[Lib.compareBytes]at h
  split at h
  .omega
  .split at h
   .omega
   .rename_i h1 h2;rw[Aud h]
    grind
def A6f(a b:Bp):Ra [Lib.compareBytes a.1 b.1,Lib.compareBytes a.2.1 b.2.1,Lib.compareInt a.2.2 b.2.2]=Mo a b:=by
 grind[Mo,Ra,Auc,Aud]
def Ars(a b:Bp):Fn TT PT 91 [.agg (Bl a),.agg (Bl b)] (.int .i64 (Mo a b)):=by
 refine Bg T91 rfl ?_;unfold Bl;simp only[go_sem];refine Ad AD ?_;simp only[go_sem]
 first | refine Fu P95 AG AH ?_ | refine Aec P95 AG AH ?_
 simp only[go_sem]
 first | refine Fu P95 AG AH ?_ | refine Aec P95 AG AH ?_
 simp only[go_sem]
 first | refine Ab (Zi a.2.2 b.2.2) AG ?_ | refine Ax (Zi a.2.2 b.2.2) AG ?_
 simp only[go_sem]
 first | refine Ab (Aek 1 [_,_,_] AE) AG ?_ | refine Ax (Aek 1 [_,_,_] AE) AG ?_
 simp only[go_sem];exact Ae rfl (by rw[A6f])
/-! entries -/
structure Ent where
 kind:Int
 sites:List Bp
 seen:Int
 missed:Int
 z:Bool:=true
 t:Nat:=0
def Ent.sl(x:Ent):V:=SL x.z x.t (x.sites.map Bl)
def Ent.row(x:Ent):List V:=[.int .i64 x.kind,x.sl,.int .i64 x.seen,.int .i64 x.missed]
def Gz:List Bp->List Bp->Int
 | [],[]=>0
 | [],_::_ => -1
 | _::_,[]=>1
 | a::r,b::s=>if Mo a b≠0 then Mo a b else Gz r s
def Bs(x y:Ent):Int:=if x.kind≠y.kind then Lib.compareInt x.kind y.kind else Gz x.sites y.sites
def Adt(x y:Ent)(hx:x.sites.length<=9223372036854775807)(hy:y.sites.length<=9223372036854775807):Fn TT PT 31 [.agg x.row,.agg y.row] (.int .i64 (Bs x y)):=by
 refine Bg T31 rfl ?_;unfold Ent.row Ent.sl;simp only[go_sem];refine Lp (fun h1=>?_) (fun h1=>?_)
 .simp only[go_sem]
  first | refine Ab (R5 _ _ _ _) AG ?_ | refine Ax (R5 _ _ _ _) AG ?_
  simp only[go_sem];simp at h1;exact Ae rfl (by grind[Bs])
 .simp only[go_sem];simp at h1;have he:Bs x y=Gz x.sites y.sites:=by simp[Bs,h1]
  rw[he]
  refine Bb (fun i=>x.sites.length - i) (fun i:Nat=>[(2,.ptr 0 0 0),(3,.ptr 1 0 0),(5,.int .i64 i)]) (fun _=>[.row [.int .i64 x.kind,SL x.z x.t (x.sites.map Bl),.int .i64 x.seen,.int .i64 x.missed] 30 0 0,.row [.int .i64 y.kind,SL y.z y.t (y.sites.map Bl),.int .i64 y.seen,.int .i64 y.missed] 30 0 0])
   (fun i=>i<=x.sites.length/\i<=y.sites.length/\Gz x.sites y.sites=Gz (x.sites.drop i) (y.sites.drop i)) ?_ 0 ⟨by omega,by omega,rfl⟩
  rintro i ⟨hi,qD,ho⟩ ih;refine Ay Bks ?_;rcases Az i x.sites.length with h | h
  .obtain⟨a,ha,qs,-⟩:=Bk h;rcases Az i y.sites.length with h2 | h2
   .obtain⟨b,hb,qo,-⟩:=Bk h2;rw[qs,qo,Gz]at ho;simp only[go_sem,Aq h,Aq h2,ha,hb,Ak,Av];refine Ad AD ?_;simp only[go_sem,Aq h,Aq h2,ha,hb,Ak,Av,Bl]
    first | refine Ab (Arr a b) AG ?_ | refine Ax (Arr a b) AG ?_
    simp only[go_sem];refine Lp (fun h3=>?_) (fun h3=>?_)
    .simp only[go_sem];simp at h3;exact Ae rfl (by grind)
    .simp only[go_sem,Aw (O8 h hx)];simp at h3;refine Ai (ih (i+1) AA ⟨by omega,by omega,by omega⟩) rfl
   .simp only[go_sem,Aq h,Bj h2,Av]
    first | refine Ab (R5 _ _ _ _) AG ?_ | refine Ax (R5 _ _ _ _) AG ?_
    simp only[go_sem];refine Ae rfl ?_;rw[ho,qs,D4 h2,Gz,Lib.compareInt,if_neg AA,if_pos AA]
  .simp only[go_sem,Bj h,Av]
   first | refine Ab (R5 _ _ _ _) AG ?_ | refine Ax (R5 _ _ _ _) AG ?_
   simp only[go_sem];refine Ae rfl ?_;rw[ho,D4 h];rcases Az i y.sites.length with h2 | h2
   .obtain⟨b,hb,qo,-⟩:=Bk h2;rw[qo,Gz,Lib.compareInt,if_pos AA]
   .rw[D4 h2,Gz,Lib.compareInt,if_neg AA,if_neg AA]
def Bmk(x y:Ent)(hx:x.sites.length<=9223372036854775807)(hy:y.sites.length<=9223372036854775807)(σ:St):
  Th TT PT 90 [x.sl,y.sl,.fn 91 [] []] σ (.int .i64 (Gz x.sites y.sites)) σ:=by
 refine Bi9 T90 rfl ?_;unfold Ent.sl;simp only[go_sem,Av]
 refine Bb (α:=Nat × St) (fun a=>x.sites.length - a.1) (fun a=>[(0,SL x.z x.t (x.sites.map Bl)),(1,SL y.z y.t (y.sites.map Bl)),(2,.fn 91 [] []),(11,SL x.z x.t (x.sites.map Bl)),(12,.int .i64 x.sites.length),(13,.int .i64 a.1)]) (fun a=>a.2)
   (fun a=>a.1<=x.sites.length/\a.1<=y.sites.length/\Gz x.sites y.sites=Gz (x.sites.drop a.1) (y.sites.drop a.1)/\∃ J,a.2=σ++J) ?_ (0,σ) ⟨by simp,by simp,rfl,[],by simp⟩
 rintro⟨i,s⟩ ⟨hi,qD,ho,J,hJ⟩ ih;simp only at hi qD ho hJ ih;refine Ay Bl2 ?_;rcases Az i x.sites.length with h | h
 .obtain⟨a,ha,qs,-⟩:=Bk h;rcases Az i y.sites.length with h2 | h2
  .obtain⟨b,hb,qo,-⟩:=Bk h2;rw[qs,qo,Gz]at ho;simp only[go_sem,Aq h,ha,Ak,Av,Bl,Bnp h2,hb]
   first | refine Ab (Ars a b) AG ?_ | refine Ax (Ars a b) AG ?_
   simp only[go_sem];refine Lp (fun h3=>?_) (fun h3=>?_)
   .simp only[go_sem];simp at h3;rw[ho,if_pos h3,hJ,Dm];exact Adq _ rfl
   .simp only[go_sem,Aw (O8 h hx)];simp at h3;refine Ai (ih (i+1,_) AA ⟨by omega,by omega,by grind,_,by simp only;rw[hJ,Dm]⟩) rfl
  .simp only[go_sem,Aq h,ha,Ak,Av,Bl,Bno h2];rw[ho,qs,D4 h2,Gz,hJ,Dm];exact Adq _ rfl
 .have hk:Gz x.sites y.sites=if x.sites.length<y.sites.length then -1 else 0:=by
   rw[ho,D4 h];rcases Az i y.sites.length with h2 | h2
   .obtain⟨b,hb,qo,-⟩:=Bk h2;rw[qo,Gz,if_pos AA]
   .rw[D4 h2,Gz,if_neg AA]
  simp only[go_sem,Bj h,Av];rw[hk,hJ];refine Lp (fun h2=>?_) (fun h2=>?_)
  .simp only[go_sem];rw[if_pos (by grind)];exact Adq _ rfl
  .simp only[go_sem];rw[if_neg (by grind)];exact Adq _ rfl
def A6g(x y:Ent):Ra [Lib.compareInt x.kind y.kind,Gz x.sites y.sites]=Bs x y:=by
 grind[Bs,Ra,Lib.compareInt]
def A1p(x y:Ent)(hx:x.sites.length<=9223372036854775807)(hy:y.sites.length<=9223372036854775807):Fn TT PT 51 [.agg x.row,.agg y.row] (.int .i64 (Bs x y)):=by
 refine Bg T51 rfl ?_;have cx:x.sl.cellB=true:=R3 ..;have cy:y.sl.cellB=true:=R3 ..;unfold Ent.row;simp only[go_sem,cx,cy];refine Ad AD ?_;simp only[go_sem]
 first | refine Ab (Zi x.kind y.kind) AG ?_ | refine Ax (Zi x.kind y.kind) AG ?_
 simp only[go_sem];refine Z1 (Bmk x y hx hy _) (by repeat (first | exact trivial | refine⟨.inl AH,?_⟩ | refine⟨by rfl,?_⟩ | refine⟨.inr ⟨by rfl,by rfl⟩,?_⟩)) (by repeat (first | exact trivial | refine⟨.inl AH,?_⟩ | refine⟨by rfl,?_⟩ | refine⟨.inr ⟨by rfl,by rfl⟩,?_⟩)) ?_;simp only[go_sem]
 first | refine Ab (Aek 1 [_,_] AE) AG ?_ | refine Ax (Aek 1 [_,_] AE) AG ?_
 simp only[go_sem];exact Ae rfl (by rw[A6g])
def Adu(x y:Ent)(hx:x.sites.length<=9223372036854775807)(hy:y.sites.length<=9223372036854775807):Fn TT PT 21 [.agg x.row,.agg y.row] (.bool (decide (Bs x y<0))):=by
 refine Bg T21 rfl ?_;have cx:x.sl.cellB=true:=R3 ..;have cy:y.sl.cellB=true:=R3 ..;have rx:x.sl.rowB=true:=Hq ..;have ry:y.sl.rowB=true:=Hq ..;unfold Ent.row;simp only[go_sem,cx,cy];refine Ab (A1p x y hx hy) (by simp only[go_sem,Ent.row,rx,ry]) ?_;simp only[go_sem];exact Gs rfl
abbrev eR (x:Ent) (w:V):List V:=[.int .i64 x.kind,w,.int .i64 x.seen,.int .i64 x.missed]
abbrev eO (x:Ent) (w:V):Ob:=.row (eR x w) 30 0 0
abbrev kR (k:Bp):List V:=[.str k.1,.str k.2.1,.int .i64 k.2.2]
end Go.Proofs.YtphikjgngompaacGreatDoor.KM
/- What every closing of this seat's laws needs: the tables, plain data out of what a row reads, the world of the witness. -/
namespace Go.Proofs.YtphikjgngompaacGreatDoor
open Go.ChangeShapes Go.WideShapes Go.ChangeAt Go.RowKit KM
def A0i:ownKnob Tryz.prog.godebug=none:=by kernel_rfl
def V8{P:Program}{t:TypeId}{k:IntKind}{qc:List V}(hu:P.underlying t=some (.int k))(h:HasT P t qc):∃ n,qc=[.int k n]/\(Lit.int k n).wf=true:=by
 cases h with
 | int hu' hw=>
  grind
 | _=>simp_all
def Art{P:Program}{t:TypeId}{qc:List V}(hu:P.underlying t=some .string)(h:HasT P t qc):∃ s:ByteArray,qc=[.str s.data.toList]/\s.size<=maxLen:=by
 cases h with
 | str hu' hs=>exact⟨_,rfl,hs⟩
 | _=>simp_all
def Ab9{P:Program}{t:TypeId}{fs:Array Field}{qc:List V}(hu:P.underlying t=some (.struct fs))(h:HasT P t qc):∃ parts:List (List V),qc=parts.flatten/\parts.length=fs.size/\∀ i f,fs[i]?=some f->HasT P f.type (parts.getD i []):=by
 cases h with
 | struct parts hu' hl hT=>
  grind
 | _=>simp_all
def A1q{P:Program}{t e:TypeId}{qc:List V}(hu:P.underlying t=some (.slice e))(h:HasT P t qc):qc=[.nils]\/∃ xs,qc=[.lst 0 xs]/\xs.length<=maxLen/\∀ i,i<xs.length->HasT P e (xs.getD i []):=by
 cases h with
 | nils _=>grind
 | lst hu' hl hT=>
  grind
 | _=>simp_all
def Aru{α:Type}{f:α->List V}:∀ {xs:List (List V)},(∀ i,i<xs.length->∃ a,xs.getD i []=f a)->∃ l:List α,xs=l.map f
 | [],_=>⟨[],rfl⟩
 | x::xs,h=>by
  obtain⟨a,ha⟩:=h 0 AE;obtain⟨l,hl⟩:=Aru (xs:=xs) fun i hi=>h (i+1) (by grind)
  exact⟨a::l,by grind⟩
def Ah5{P:Program}{t e:TypeId}{α:Type}{f:α->List V}{qc:List V}(hu:P.underlying t=some (.slice e))(h:HasT P t qc)(hf:∀ r,HasT P e r->∃ a,r=f a):∃ z u,∃ l:List α,qc=[SL z u (l.map f)]/\l.length<=9223372036854775807:=by
 rcases A1q hu h with rfl | ⟨xs,rfl,hl,hT⟩
 .exact⟨true,0,[],rfl,by simp⟩
 .obtain⟨l,rfl⟩:=Aru (f:=f) fun i hi=>hf _ (hT i hi)
  exact⟨false,0,l,by simp[SL],by grind[maxLen]⟩
def Bgj{α:Type}{ps:List (List α)}(h:ps.length=3):∃ a b c,ps=[a,b,c]:=by
 match ps,h with
 | [a,b,c],_=>exact⟨a,b,c,rfl⟩
def Awf{α:Type}{ps:List (List α)}(h:ps.length=4):∃ a b c d,ps=[a,b,c,d]:=by
 match ps,h with
 | [a,b,c,d],_=>grind
def Bgk{α:Type}{ps:List (List α)}(h:ps.length=2):∃ a b,ps=[a,b]:=by
 match ps,h with
 | [a,b],_=>exact⟨a,b,rfl⟩
def Bgl{qc:List V}(h:HasT Tryz.prog 57 qc):∃ k,qc=Bl k:=by
 obtain⟨ps,rfl,hl,hT⟩:=Ab9 Tryz.underlying57 h;obtain⟨a,b,c,rfl⟩:=Bgj hl;obtain⟨s,hs,-⟩:=Art Tryz.underlying9 (hT 0 _ rfl);obtain⟨u,hu,-⟩:=Art Tryz.underlying9 (hT 1 _ rfl);obtain⟨n,hn,-⟩:=V8 Tryz.underlying3 (hT 2 _ rfl);simp at hs hu hn;subst hs hu hn;exact⟨(s.data.toList,u.data.toList,n),rfl⟩
def Bgm{qc:List V}(h:HasT Tryz.prog 30 qc):∃ x:Ent,qc=x.row/\x.sites.length<=9223372036854775807:=by
 obtain⟨ps,rfl,hl,hT⟩:=Ab9 Tryz.underlying30 h;obtain⟨a,b,c,d,rfl⟩:=Awf hl;obtain⟨k,hk,-⟩:=V8 Tryz.underlying3 (hT 0 _ rfl);obtain⟨z,t,l,hb,qd⟩:=Ah5 (f:=Bl) Tryz.underlying28 (hT 1 _ rfl) fun r hr=>Bgl hr
 obtain⟨m,hm,-⟩:=V8 Tryz.underlying3 (hT 2 _ rfl);obtain⟨n,hn,-⟩:=V8 Tryz.underlying3 (hT 3 _ rfl);simp at hk hb hm hn;subst hk hb hm hn;exact⟨⟨k,l,m,n,z,t⟩,rfl,qd⟩
def Bay:Tryz.prog.globalNamed "interleave/format.operators"=some 9:=by kernel_rfl
def Bgn:Tryz.prog.globalNamed "interleave/token.keywords"=some 1:=by kernel_rfl
def Baz:Tryz.prog.globalNamed "internal/strconv.uint64pow10"=some 2:=by kernel_rfl
def Ba0{w:World}{qb:List (String × DataW Unit)}(h:laidMet Tryz.prog qb w)(hs:w.ShapedOpen Tryz.prog)(h1:("interleave/format.operators",Rows.laid_interleave_format_operators)∈qb) (h2:("internal/strconv.uint64pow10",Rows.laid_internal_strconv_uint64pow10)∈qb)
  (h3:("interleave/token.keywords",Rows.laid_interleave_token_keywords)∈qb) (h4:("strconv.ErrSyntax",Rows.laid_strconv_ErrSyntax)∈qb) (h5:("strconv.ErrRange",Rows.laid_strconv_ErrRange)∈qb):∃ m,Amu (GT m) w:=by
 obtain⟨m,hm⟩:=Bax (g:=0) (zero:=#[.int .i64 0]) (t:=3) hs (of_decide_eq_true AD) AD rfl AD AD Tryz.underlying3;refine⟨m,fun g r hg=>?_⟩;simp only[GT,B7,Qi,or_false,Prod.mk.injEq]at hg
 rcases hg with⟨rfl,rfl⟩ | ⟨rfl,rfl⟩ | ⟨rfl,rfl⟩ | ⟨rfl,rfl⟩ | ⟨rfl,rfl⟩ | ⟨rfl,rfl⟩<;>first
  | exact hm
  | exact Aub h h4 At9 AD Tryz.underlying227
  | exact Aub h h5 Aua AD Tryz.underlying227
  | exact Ajo (ts:=[3,9,291,299]) (t:=299) h h1 Bay AD AD AM AD AD
  | exact Ajo (ts:=[9,218]) (t:=218) h h3 Bgn AD AD AM AD AD
  | exact Ajo (ts:=[187,236]) (t:=236) h h2 Baz AD AD AM AD AD
end Go.Proofs.YtphikjgngompaacGreatDoor
/- The world of the witness: the settled one, the listed variables holding what their initialisers lay. -/
namespace Go.Proofs.YtphikjgngompaacGreatDoor
open Go.ChangeShapes Go.WideShapes Go.ChangeAt Go.RowKit KM
def Bml{a b:Bool}(h1:a=true)(h2:b=true):(a&&b)=true:=by rw[h1,h2];rfl
def setRow(d:DataW Unit):Obj->Obj
 | .cells _ t frozen=>.cells (flatV d).toArray t frozen
 | o=>o
def Awg(b:Nat):Obj->Obj
 | .cells _ t frozen=>.cells #[.iface 295 (.pointer (some ⟨b,0,none⟩))] t frozen
 | o=>o
def Aue:DataW Unit->Array UInt8
 | .iface _ (.ptr (.agg [.lit (.string l)]))=>l.toArray
 | _=>#[]
noncomputable def holds0 (os:Os):Array Obj:=(World.holding Tryz.prog os ⟨#[],#[],[]⟩).heap
noncomputable def laidWorld (os:Os):World:=
 { World.holding Tryz.prog os ⟨#[],#[],[]⟩ with heap:=((((((((((holds0 os).modify 9 (setRow Rows.laid_interleave_format_operators)).modify 2 (setRow Rows.laid_internal_strconv_uint64pow10)).modify 3 (setRow Rows.laid_math_bits_deBruijn32tab)).modify 4 (setRow Rows.laid_math_bits_deBruijn64tab)).modify 6 (setRow Rows.laid_unicode_utf8_acceptRanges)).modify 1 (setRow Rows.laid_interleave_token_keywords)).modify 5 (setRow Rows.laid_unicode_utf8_first)).modify 8 (Awg (holds0 os).size)).modify 7 (Awg ((holds0 os).size+1))).push (.cells #[.string ⟨Aue Rows.laid_strconv_ErrRange⟩] 297 (0,0)) |>.push (.cells #[.string ⟨Aue Rows.laid_strconv_ErrSyntax⟩] 297 (0,0)) }
end Go.Proofs.YtphikjgngompaacGreatDoor
/- What a row reads: bytes. -/
namespace Go.Proofs.YtphikjgngompaacGreatDoor
open Go.ChangeShapes Go.WideShapes Go.ChangeAt Go.RowKit KM
def Bmm{P:Program}{t:TypeId}{qc:List V}(hu:P.underlying t=some (.int .u8))(h:HasT P t qc):∃ n:Nat,n<256/\qc=[.int .u8 (n:Int)]:=by
 obtain⟨n,rfl,hw⟩:=V8 hu h;simp only[Lit.wf,Al,decide_eq_true_eq]at hw;have h1:(0:Int)<=n:=hw.1;have h2:n<=255:=hw.2;refine⟨n.toNat,by omega,?_⟩;rw[Abo h1]
def Akq{qc:List V}(h:HasT Tryz.prog 22 qc):∃ z u,∃ l:List UInt8,qc=[SL z u (By l)]/\l.length<=9223372036854775807:=by
 obtain⟨z,u,l,rfl,hl⟩:=Ah5 (f:=fun c:UInt8=>[V.int .u8 (c.toNat:Int)]) Tryz.underlying22 h fun r hr=>by
  obtain⟨n,hn,rfl⟩:=Bmm Tryz.underlying5 hr;exact⟨UInt8.ofNat n,by simp[Nat.mod_eq_of_lt hn]⟩
 exact⟨z,u,l,rfl,hl⟩
end Go.Proofs.YtphikjgngompaacGreatDoor
/- Both versions' numbers out of what a row reads. -/
namespace Go.Proofs.YtphikjgngompaacGreatDoor
open Go.ChangeShapes Go.WideShapes Go.ChangeAt Go.RowKit KM
def A3c{P:Program}{t:TypeId}{qc:List V}(hu:P.underlying t=some .bool)(h:HasT P t qc):∃ b,qc=[.bool b]:=by
 cases h with
 | bool hu'=>exact⟨_,rfl⟩
 | _=>simp_all
structure PairP where
 z0:Bool
 t0:Nat
 a:List UInt8
 z1:Bool
 t1:Nat
 b:List UInt8
 z2:Bool
 t2:Nat
 c:List UInt8
 un:Bool
def PairP.row(x:PairP):List V:=[SL x.z0 x.t0 (By x.a),SL x.z1 x.t1 (By x.b),SL x.z2 x.t2 (By x.c),.bool x.un]
def Ba1{qc:List V}(h:HasT Tryz.prog 24 qc):∃ x:PairP,qc=x.row/\x.a.length<=9223372036854775807/\x.b.length<=9223372036854775807/\x.c.length<=9223372036854775807:=by
 obtain⟨ps,rfl,hl,hT⟩:=Ab9 Tryz.underlying24 h;obtain⟨a,b,c,d,rfl⟩:=Awf hl;have h0:=hT 0 _ rfl;have h1:=hT 1 _ rfl;have h2:=hT 2 _ rfl;have h3:=hT 3 _ rfl;simp at h0 h1 h2 h3;obtain⟨z0,t0,l0,rfl,k0⟩:=Akq h0;obtain⟨z1,t1,l1,rfl,k1⟩:=Akq h1;obtain⟨z2,t2,l2,rfl,k2⟩:=Akq h2;obtain⟨un,rfl⟩:=A3c Tryz.underlying4 h3;exact⟨⟨z0,t0,l0,z1,t1,l1,z2,t2,l2,un⟩,rfl,k0,k1,k2⟩
end Go.Proofs.YtphikjgngompaacGreatDoor
/- awake answers true: by a run of the plain machine in the kernel. -/
namespace Go.Proofs.YtphikjgngompaacGreatDoor.KM
open Go
def Le(l:List Bp):∀ r∈l.map Bl,r.length=3:=by
 intro r hr;obtain⟨k,_,rfl⟩:=Di.1 hr;rfl
def Ql(l:List Bp):∀ r∈l.map Bl,r.all V.rowB=true:=by
 intro r hr;obtain⟨k,_,rfl⟩:=Di.1 hr;rfl
def Ba2(x:Ent):De (.agg x.row)=true:=by
 have:=Hq x.z x.t (x.sites.map Bl);simp only[go_sem,Ent.row,Ent.sl]
@[go_sem] theorem Wh (x:Ent):x.row=(eR x x.sl):=Bq rfl
@[go_sem] theorem Bph (x:Ent):x.sl.rowB=true:=Hq ..
@[go_sem] theorem Bo9 (x:Ent):x.sl.cellB=true:=R3 ..
@[go_sem] theorem Bo5 (x:Ent):x.sl.cells=[x.sl]:=Aq9 ..
@[go_sem] theorem Bpi (x:Ent):De x.sl=true:=Av2 ..
@[go_sem] theorem Bpj (x:Ent):Ly x.sl=some (.int .i64 (x.sites.length:Int)):=(Z2 ..).trans (by grind)
@[go_sem] theorem Bpa (x:Ent) (σ:St) (m:Nat):E5 σ m x.sl=some (x.sites.map Bl):=Ajh ..
def Ja(l:List Ent):∀ r∈l.map Ent.row,r.length=4:=by
 intro r hr;obtain⟨k,_,rfl⟩:=Di.1 hr;rfl
def Ba3(x:Ent):x.row.all V.rowB=true:=Ba2 x
def K1(l:List Ent):∀ r∈l.map Ent.row,r.all V.rowB=true:=by
 intro r hr;obtain⟨k,_,rfl⟩:=Di.1 hr;simp[Ba3]
def Gc(e:Ent):List Ent->Nat
 | []=>0
 | x::r=>if Bs x e<0 then Gc e r+1 else 0
theorem Apw(e:Ent):∀ l,Gc e l<=l.length
 | []=>Am _
 | x::r=>by
  simp only[Gc,Be];have:=Apw e r
  grind
def Lg(e:Ent)(l:List Ent):Bool:=match l[Gc e l]? with
 | some x=>Bs x e==0
 | none=>false
def I6(l:List Ent):Prop:=∀ x∈l,x.sites.length<=9223372036854775807
def A6h(z:Bool)(t:Nat)(l:List Ent)(e:Ent)(hl:l.length<=9223372036854775807)(ho:I6 l)(he:e.sites.length<=9223372036854775807):
  Fn TT PT 29 [SL z t (l.map Ent.row),.agg e.row] (.tup [.int .i64 (Gc e l:Int),.bool (Lg e l)]):=by
 refine Bg T29 rfl ?_;simp only[go_sem];refine Bb (fun i=>l.length - i) (fun i:Nat=>[(0,SL z t (l.map Ent.row)),(3,.ptr 0 0 0),(6,.int .i64 i)]) (fun _=>[.row e.row 30 0 0]) (fun i=>i<=l.length/\Gc e l=i+Gc e (l.drop i)) ?_ 0 ⟨by omega,by simp⟩;rintro i ⟨hi,hp⟩ ih;refine Ay Bkr ?_;rcases Az i l.length with h | h
 .obtain⟨x,hx,hd,hm⟩:=Bk h;rw[hd,Gc]at hp;simp only[go_sem];refine Ad AD ?_;simp only[go_sem,Aq h,Av,Ak,hx];refine Ax (Adt x e (ho x hm) he) AB ?_;simp only[go_sem];refine Lp (fun h3=>?_) (fun h3=>?_)
  .simp only[go_sem,Aw (O8 h hl)];refine Ai (ih (i+1) AA ⟨by omega,?_⟩) rfl
   grind
  .simp only[go_sem];rw[if_neg (by grind)]at hp;have qx:Gc e l=i:=by omega
   refine Ad AD ?_;simp only[go_sem,Aq h,Av,Ak,hx];refine Ax (Adt x e (ho x hm) he) AB ?_;simp only[go_sem];rw[Lg,qx,hx];exact Fq rfl
 .simp only[go_sem];refine Ad AD ?_;simp only[go_sem,Bj h,Av];have qx:Gc e l=i:=by rw[hp,D4 h,Gc];rfl
  refine Ad AD ?_;simp only[go_sem,Bj h,Av];rw[Lg,qx,List.getElem?_eq_none h];exact Fq rfl
def Ent.own(e:Ent):Ent:={ e with z:=true,t:=0 }
def Bgo{σ:St}{e lo:Nat}{u:V}{x:Ent}(h:GW σ 3 e lo u (x.sites.map Bl)):FR (.agg (eR x u)) σ (.agg x.own.row):=
 Bfd (pre:=[.int .i64 x.kind]) (post:=[.int .i64 x.seen,.int .i64 x.missed]) h AA (Le _) (Ql _) rfl rfl
def A3d(e:Ent)(he:e.sites.length<=1000000):Fn TT PT 27 [.agg e.row] (.agg e.own.row):=by
 obtain⟨u1,s1,e1,g1,l1,-,f1⟩:=Iz (lo:=2) (σ:=[eO e e.sl,.row [.int .i64 0,.nils,.int .i64 0,.int .i64 0] 30 0 0]) (m:=3) (e:=57) (bytes:=40) (y:=e.sl) (ys:=e.sites.map Bl) Dr AE (Ajh ..) AA AE (Le _) (by grind);have q0:=f1 0 AE;have q1:=f1 1 AE;rw[Ct]at g1;have hl:2<=s1.length:=l1
 match s1,q0,q1,hl with
 | a::b::J,q0,q1,_=>
 cases q0;cases q1;refine Bg T27 rfl ?_;simp only[go_sem,e1,Ok (B8 g1),B8 g1];exact Bgo (σ:=eO e u1::eO e u1::J) (Dw (j:=1) (x:=eO e u1) (Dw (j:=0) (x:=eO e u1) g1 AA) AA)
structure Lin {α:Type} (c:α->α->Int):Prop where
 zero:∀ x y,c x y=0↔x=y
 flip:∀ x y,c x y<0↔0<c y x
 trans:∀ x y z,c x y<0->c y z<0->c x z<0
def Lin.tri{α:Type}{c:α->α->Int}(h:Lin c)(x y:α):c x y<0\/x=y\/c y x<0:=by
 rcases Int.lt_trichotomy (c x y) 0 with h1 | h1 | h1
 .omega
 .exact .inr (.inl ((h.zero x y).1 h1))
 .exact .inr (.inr ((h.flip y x).2 h1))
def Lin.asym{α:Type}{c:α->α->Int}(h:Lin c){x y:α}(h1:c x y<0):¬ c y x<0:=fun h2=>by
 have:=(h.flip x y).1 h1;omega
def Afo{x y:Int}:Lib.compareInt x y<0↔x<y:=by
 grind[Lib.compareInt]
def Bmn{x y:Int}:0<Lib.compareInt x y↔y<x:=by
 grind[Lib.compareInt]
def Ba4{x y:Int}:Lib.compareInt x y=0↔x=y:=by
 grind[Lib.compareInt]
theorem Ajp:Lin Lib.compareInt where
 zero _ _:=Ba4
 flip _ _:=Afo.trans Bmn.symm
 trans _ _ _ h1 h2:=Afo.2 (Int.lt_trans (Afo.1 h1) (Afo.1 h2))
def H8{α:Type}(c:α->α->Int):List α->List α->Int
 | [],[]=>0
 | [],_::_ => -1
 | _::_,[]=>1
 | a::r,b::s=>if c a b≠0 then c a b else H8 c r s
theorem Aiv{α:Type}{c:α->α->Int}(h:Lin c):Lin (H8 c) where
 zero:=by
  intro x
  induction x with
  | nil=>intro y;cases y<;>simp[H8]
  | cons a r ih=>
   intro y
   cases y with
   | nil=>simp[H8]
   | cons b s=>
    simp only[H8];by_cases hc:c a b=0
    .have:=(h.zero a b).1 hc
     grind
    .have:a≠b:=fun e=>hc ((h.zero a b).2 e)
     grind
 flip:=by
  intro x
  induction x with
  | nil=>intro y;cases y<;>simp[H8]
  | cons a r ih=>
   intro y
   cases y with
   | nil=>simp[H8]
   | cons b s=>
    simp only[H8];by_cases hc:c a b=0
    .have:=(h.zero a b).1 hc
     grind
    .have qJ:c b a≠0:=fun e=>hc ((h.zero a b).2 ((h.zero b a).1 e).symm)
     simp[hc,qJ,h.flip a b]
 trans:=by
  intro x
  induction x with
  | nil=>
   intro y z
   cases y with
   | nil=>omega
   | cons b s=>cases z<;>simp[H8]
  | cons a r ih=>
   intro y z
   cases y with
   | nil=>simp[H8]
   | cons b s=>
    cases z with
    | nil=>simp[H8]
    | cons d u=>
     simp only[H8];by_cases h1:c a b=0
     .have:=(h.zero a b).1 h1
      grind
     .by_cases h2:c b d=0
      .have:=(h.zero b d).1 h2
       grind
      .simp only[ne_eq,h1,h2,not_false_eq_true,if_true];intro g1 g2;have g3:=h.trans a b d g1 g2;omega
def U6{α β:Type}[DecidableEq α](c:α->α->Int)(d:β->β->Int)(x y:α × β):Int:=if x.1≠y.1 then c x.1 y.1 else d x.2 y.2
theorem Arv{α β:Type}[DecidableEq α]{c:α->α->Int}{d:β->β->Int}(h:Lin c)(g:Lin d):Lin (U6 c d) where
 zero x y:=by
  unfold U6;obtain⟨a,b⟩:=x;obtain⟨a',b'⟩:=y;by_cases e:a=a'
  .subst e;simp[g.zero b b']
  .simp[e,h.zero a a']
 flip x y:=by
  unfold U6;by_cases e:x.1=y.1
  .simp[e,g.flip x.2 y.2]
  .have e':¬ y.1=x.1:=fun q=>e q.symm
   simp[e,e',h.flip x.1 y.1]
 trans x y z:=by
  unfold U6;by_cases e:x.1=y.1
  .by_cases e2:y.1=z.1
   .simp[e,e2];exact g.trans _ _ _
   grind
  .by_cases e2:y.1=z.1
   .grind
   .simp only[ne_eq,e,e2,not_false_eq_true,if_true];intro h1 h2;have h3:=h.trans _ _ _ h1 h2
    have:¬ x.1=z.1:=fun q=>by
     have:=(h.zero x.1 z.1).2 q;omega
    grind
def Ux(a b:UInt8):Int:=if a<b then -1 else if b<a then 1 else 0
theorem A6i:Lin Ux where
 zero x y:=by
  grind[Ux]
 flip x y:=by
  grind[Ux]
 trans x y z:=by
  grind[Ux]
def Awh:∀ a b:List UInt8,Lib.compareBytes a b=H8 Ux a b
 | [],[]=>rfl
 | [],_::_=>rfl
 | _::_,[]=>rfl
 | a::r,b::s=>by
  simp only[Lib.compareBytes,H8,Ux];by_cases h1:a<b
  .simp[h1]
  .by_cases h2:b<a
   .grind
   .simp[h1,h2,Awh r s]
theorem A3e:Lin Lib.compareBytes:=by
 have:Lib.compareBytes=H8 Ux:=by funext a b;exact Awh a b
 grind[Aiv,A6i]
theorem Ba5:Lin Mo:=by
 have:Mo=U6 Lib.compareBytes (U6 Lib.compareBytes Lib.compareInt):=by funext a b;rfl
 grind[Arv,A3e,Ajp]
def Arw:∀ a b,Gz a b=H8 Mo a b
 | [],[]=>rfl
 | [],_::_=>rfl
 | _::_,[]=>rfl
 | a::r,b::s=>by simp only[Gz,H8,Arw r s]
def A6j:Lin Gz:=by
 have:Gz=H8 Mo:=by funext a b;exact Arw a b
 grind[Aiv,Ba5]
def Ent.ks(x:Ent):Int × List Bp:=(x.kind,x.sites)
def Dk:Int × List Bp->Int × List Bp->Int:=U6 Lib.compareInt Gz
def lin_p:Lin Dk:=Arv Ajp A6j
def Un(x y:Ent):Bs x y=Dk x.ks y.ks:=rfl
def Asc(l:List Ent):Prop:=l.Pairwise fun x y=>Bs x y<0
section
variable {κ:Type} [DecidableEq κ] {c:κ->κ->Int}
def Ij(x y:κ × Int × Int):κ × Int × Int:=(x.1,max x.2.1 y.2.1,min x.2.2 y.2.2)
def En(c:κ->κ->Int)(y:κ × Int × Int):List (κ × Int × Int)->List (κ × Int × Int)
 | []=>[y]
 | x::l=>if c x.1 y.1<0 then x::En c y l else if x.1=y.1 then Ij x y::l else y::x::l
def Amx(c:κ->κ->Int)(L:List (κ × Int × Int)):List (κ × Int × Int):=L.foldl (fun s y=>En c y s) []
def U7(c:κ->κ->Int)(l:List (κ × Int × Int)):Prop:=l.Pairwise fun x y=>c x.1 y.1<0
theorem Aiw{y:κ × Int × Int}:∀ {l:List (κ × Int × Int)} {x:κ × Int × Int},x∈En c y l->x.1=y.1\/∃ z∈l,z.1=x.1
 | [],x,h=>by
  grind[En]
 | a::l,x,h=>by
  rw[En]at h
  split at h
  .rcases B7.1 h with rfl | h
   .grind
   .rcases Aiw h with h | ⟨z,hz,e⟩
    .grind
    grind
  .split at h
   .rcases B7.1 h with rfl | h
    .exact .inr ⟨a,Cz,rfl⟩
    grind
   grind
theorem Aix(hc:Lin c){y:κ × Int × Int}:∀ {l:List (κ × Int × Int)},U7 c l->U7 c (En c y l)
 | [],_=>by rw[En];exact List.pairwise_singleton _ _
 | a::l,h=>by
  unfold U7 at h ⊢;obtain⟨h1,h2⟩:=Qh.1 h;rw[En]
  split
  .rename_i qH;refine Qh.2 ⟨fun x hx=>?_,Aix hc h2⟩
   grind[Aiw]
  .rename_i qH
   split
   .exact Qh.2 ⟨fun x hx=>h1 x hx,h2⟩
   .rename_i qR
    have qF:c y.1 a.1<0:=by
     rcases hc.tri a.1 y.1 with h | h | h
     .omega
     .grind
     .exact h
    refine Qh.2 ⟨fun x hx=>?_,h⟩;rcases B7.1 hx with rfl | hx
    .exact qF
    .exact hc.trans _ _ _ qF (h1 x hx)
def A1r(x y z:κ × Int × Int):Ij (Ij x y) z=Ij (Ij x z) y:=by
 unfold Ij
 grind
def Aop{x y:κ × Int × Int}(h:x.1=y.1):Ij x y=Ij y x:=by
 grind[Ij]
theorem Apx(hc:Lin c)(y z:κ × Int × Int):∀ (l:List (κ × Int × Int)),U7 c l->En c y (En c z l)=En c z (En c y l)
 | [],_=>by
  simp only[En];rcases hc.tri y.1 z.1 with h | h | h
  .have h1:=hc.asym h
   grind
  .have h0:¬ c z.1 y.1<0:=by rw[h];exact fun e=>by have:=hc.asym e;omega
   simp_all [if_neg,Aop]
  .have h1:=hc.asym h
   grind
 | a::l,ha=>by
  have qG:∀ k:κ,¬ c k k<0:=fun k e=>hc.asym e e
  obtain⟨h1,h2⟩:=Qh.1 ha;have ih:=Apx hc y z l h2;by_cases ay:c a.1 y.1<0
  .by_cases az:c a.1 z.1<0
   .simp_all [En]
   .by_cases ez:a.1=z.1
    .simp_all [Ij,En,if_neg]
    .have za:c z.1 a.1<0:=by
      rcases hc.tri a.1 z.1 with h | h | h
      .omega
      .grind
      .exact h
     have zy:=hc.trans _ _ _ za ay
     simp_all [En,if_neg]
  .by_cases ey:a.1=y.1
   .by_cases az:c a.1 z.1<0
    .simp_all [Ij,En,if_neg]
    .by_cases ez:a.1=z.1
     .have n1:¬ c (Ij a z).1 y.1<0:=ay;have n2:¬ c (Ij a y).1 z.1<0:=az;have n3:(Ij a z).1=y.1:=ey;have n4:(Ij a y).1=z.1:=ez
      simp_all [En,if_neg,A1r]
     .have za:c z.1 a.1<0:=by
       rcases hc.tri a.1 z.1 with h | h | h
       .omega
       .grind
       .exact h
      simp_all [Ij,En,if_neg]
   .have ya:c y.1 a.1<0:=by
     rcases hc.tri a.1 y.1 with h | h | h
     .omega
     .grind
     .exact h
    by_cases az:c a.1 z.1<0
    .have yz:=hc.trans _ _ _ ya az
     simp_all [En,if_neg]
    .by_cases ez:a.1=z.1
     .simp_all [Ij,En,if_neg]
     .have za:c z.1 a.1<0:=by
       rcases hc.tri a.1 z.1 with h | h | h
       .omega
       .grind
       .exact h
      rcases hc.tri y.1 z.1 with h | h | h
      .have g1:=hc.asym h;have g2:¬ z.1=y.1:=fun e=>qG _ (by rw[e]at h;exact h)
       simp_all [En,if_neg]
      .simp_all [En,if_neg,Aop]
      .have g1:=hc.asym h;have g2:¬ y.1=z.1:=fun e=>qG _ (by rw[e]at h;exact h)
       simp_all [En,if_neg]
def A3f(hc:Lin c){L L':List (κ × Int × Int)}(h:L.Perm L'):∀ s,U7 c s->L.foldl (fun s y=>En c y s) s=L'.foldl (fun s y=>En c y s) s:=by
 induction h with
 | nil=>grind
 | cons x _ ih=>grind[Aix]
 | swap x y l=>grind[Apx]
 | trans _ _ ih1 ih2=>grind
def So(c:κ->κ->Int)(out:List (κ × Int × Int))(e:κ × Int × Int):List (κ × Int × Int):=match out.getLast? with
 | some x=>if c x.1 e.1<0 then out++[e] else out.dropLast++[Ij x e]
 | none=>[e]
def Arx(hc:Lin c){e:κ × Int × Int}:∀ {out:List (κ × Int × Int)},U7 c out->(∀ x∈out,¬ c e.1 x.1<0)->So c out e=En c e out
 | [],_,_=>rfl
 | [x],_,h=>by
  unfold So;simp only[List.getLast?_singleton,En];by_cases h1:c x.1 e.1<0
  .grind
  .have h2:x.1=e.1:=by
    rcases hc.tri x.1 e.1 with h3 | h3 | h3
    .omega
    .exact h3
    .grind
   grind
 | x::y::l,ha,h=>by
  obtain⟨h1,h2⟩:=Qh.1 ha;have ih:=Arx hc (e:=e) h2 fun z hz=>h z (Dl _ hz)
  have hx:c x.1 e.1<0:=by
   rcases hc.tri y.1 e.1 with h3 | h3 | h3
   .exact hc.trans _ _ _ (h1 y AE) h3
   .grind
   .grind
  rw[En,if_pos hx,<-ih];unfold So
  grind
def Auf(hc:Lin c):∀ (S out:List (κ × Int × Int)),U7 c out->(∀ x∈out,∀ y∈S,¬ c y.1 x.1<0)->(S.Pairwise fun x y=>¬ c y.1 x.1<0)->S.foldl (So c) out=S.foldl (fun s y=>En c y s) out
 | [],_,_,_,_=>rfl
 | e::S,out,ha,h,hs=>by
  obtain⟨h1,h2⟩:=Qh.1 hs;rw[Rj,Rj,Arx hc ha fun x hx=>h x hx e Cz];refine Auf hc S _ (Aix hc ha) (fun x hx y hy=>?_) h2
  grind[Aiw]
def Bof(hc:Lin c){L S:List (κ × Int × Int)}(hp:L.Perm S)(hs:S.Pairwise fun x y=>¬ c y.1 x.1<0):S.foldl (So c) []=Amx c L:=by
 unfold Amx;rw[Auf hc S [] List.Pairwise.nil (fun x hx=>by cases hx) hs,A3f hc hp [] List.Pairwise.nil]
end
section
variable {α κ:Type} {c:κ->κ->Int} {k:α->κ}
def Ec(c:κ->κ->Int)(k:α->κ)(l:List α):Prop:=l.Pairwise fun x y=>¬ c (k y) (k x)<0
def Bmo(hc:Lin c){x y z:κ}(h1:¬ c y x<0)(h2:¬ c z y<0):¬ c z x<0:=fun h=>by
 rcases hc.tri y z with h3 | h3 | h3
 .exact h1 (hc.trans _ _ _ h3 h)
 .rw[<-h3]at h;exact h1 h
 .exact h2 h3
structure InsI (c:κ->κ->Int) (k:α->κ) (P:List α) (x:α) (Q:List α):Prop where
 srt:Ec c k (P++Q)
 low:∀ q∈Q,c (k x) (k q)<0
def Ba6{P:List α}{x:α}(h:Ec c k P):InsI c k P x []:=⟨by rw[Bz];exact h,fun q hq=>by cases hq⟩
def A6k{P Q:List α}{p x:α}(h:InsI c k (P++[p]) x Q)(hx:c (k x) (k p)<0):InsI c k P x (p::Q):=by
 refine⟨?_,fun q hq=>?_⟩
 .have:=h.srt;rw[Dm]at this;exact this
 .rcases B7.1 hq with rfl | hq
  .exact hx
  .exact h.low q hq
def A3g(hc:Lin c){Q:List α}{x:α}(h:InsI c k [] x Q):Ec c k (x::Q):=
 Qh.2 ⟨fun q hq=>hc.asym (h.low q hq),h.srt⟩
def A6l(hc:Lin c){P Q:List α}{p x:α}(h:InsI c k (P++[p]) x Q)(hx:¬ c (k x) (k p)<0):Ec c k (P++[p]++x::Q):=by
 have h1:=h.srt;unfold Ec at h1 ⊢;rw[Vg]at h1 ⊢;obtain⟨a,b,d⟩:=h1;refine⟨a,Qh.2 ⟨fun q hq=>hc.asym (h.low q hq),b⟩,fun y hy z hz=>?_⟩;rcases B7.1 hz with rfl | hz
 .rcases Cs.1 hy with hy | hy
  .rw[Vg]at a;exact Bmo hc (a.2.2 y hy p AE) hx
  .rw[Hh.1 hy];exact hx
 .exact d y hy z hz
def A3h(P R:List α)(p x:α):(P++p::x::R).Perm (P++x::p::R):=List.Perm.append_left P (List.Perm.swap x p R)
/-! rotations -/
def G0(l:List Int)(i:Nat):List Int:=l.drop i++l.take i
def M7(lt:List Int->List Int->Bool)(l:List Int):List Nat->List Int->List Int
 | [],best=>best
 | i::is,best=>M7 lt l is (if lt (G0 l i) best then G0 l i else best)
def A3i(l:List Int):G0 l 0=l:=by simp[G0]
def A0t{lt:List Int->List Int->Bool}(h:∀ x,lt x x=false)(l:List Int)(is:List Nat):M7 lt l (0::is) l=M7 lt l is l:=by
 rw[M7,A3i,h];rfl
theorem Ty(l:List Int)(i:Nat):(G0 l i).length=l.length:=by
 unfold G0;rw[Aj,Gi,Ic];omega
def A6m{l:List Int}{i:Nat}{x:Int}(h:x∈G0 l i):x∈l:=by
 unfold G0 at h;rcases Cs.1 h with h | h
 .exact Xx h
 .exact Nu h
def Ahp{lt:List Int->List Int->Bool}{P:List Int->Prop}{l:List Int}(hr:∀ i,P (G0 l i)):∀ (is:List Nat) (b:List Int),P b->P (M7 lt l is b)
 | [],_,h=>h
 | i::is,b,h=>by
  rw[M7];refine Ahp hr is _ ?_
  split
  .exact hr i
  .exact h
end
structure Item where
 kind:Nat
 seen:Nat
 missed:Nat
 a:Nat
 b:Nat
 c:Nat
 d:Nat
def Item.ok(x:Item):Prop:=x.kind<256/\x.seen<256/\x.missed<256/\x.a<256/\x.b<256/\x.c<256/\x.d<256
def Item.row(x:Item):List V:=[.int .u8 x.kind,.int .u8 x.seen,.int .u8 x.missed,.int .u8 x.a,.int .u8 x.b,.int .u8 x.c,.int .u8 x.d]
def A3j(k:IntKind)(n d:Nat):Ed (some (.int k (n:Int))) d=some n:=by
 simp[Ed]
attribute [go_sem ↓] A3j
attribute [go_sem] Ab5 As X0
def F3{m j g off len i:Nat}{w:Bool}{k:IntKind}(h:i<len):Lx m (.sl j g off len m w) (.int k (i:Int))=some (.ptr j g (off+i*m)):=by
 simp_all [Lx]
@[go_sem] theorem Bpk (x:Item):x.row=[.int .u8 x.kind,.int .u8 x.seen,.int .u8 x.missed,.int .u8 x.a,.int .u8 x.b,.int .u8 x.c,.int .u8 x.d]:=Bq rfl
end Go.Proofs.YtphikjgngompaacGreatDoor.KM
/- Items, out of what a row reads (beside the numbers of both versions). -/
namespace Go.Proofs.YtphikjgngompaacGreatDoor
open Go.ChangeShapes Go.WideShapes Go.ChangeAt Go.RowKit KM
abbrev Azl:=Int × Bool × Nat × List Ent
def Ajq(x:Azl):List V:=[.int .i64 x.1,SL x.2.1 x.2.2.1 (x.2.2.2.map Ent.row)]
def Ba7{qc:List V}(h:HasT Tryz.prog 27 qc):∃ x:Azl,qc=Ajq x/\I6 x.2.2.2/\x.2.2.2.length<=9223372036854775807:=by
 obtain⟨ps,rfl,hl,hT⟩:=Ab9 Tryz.underlying27 h;obtain⟨a,b,rfl⟩:=Bgk hl;obtain⟨k,hk,-⟩:=V8 Tryz.underlying3 (hT 0 _ rfl)
 obtain⟨z,t,l,hb,qd⟩:=Ah5 (α:={ x:Ent // x.sites.length<=9223372036854775807 }) (f:=fun x=>x.1.row) Tryz.underlying25 (hT 1 _ rfl) fun r hr=>by
  obtain⟨x,hx,hl⟩:=Bgm hr;exact⟨⟨x,hl⟩,hx⟩
 simp at hk hb;subst hk hb;refine⟨(k,z,t,l.map (·.1)),by simp[Ajq,Ahd],fun x hx=>?_,by simpa using qd⟩;obtain⟨y,-,rfl⟩:=Di.1 hx;exact y.2
end Go.Proofs.YtphikjgngompaacGreatDoor
/- Lists of entries that are merged: plain. -/
namespace Go.Proofs.YtphikjgngompaacGreatDoor.KM
open Go
/-! entries that are added one by one -/
/-! changes -/
/-! a further run -/
def Acr(l:List UInt8):∀ r∈By l,r.length=1:=by
 intro r hr;obtain⟨c,_,rfl⟩:=Di.1 hr;rfl
def A3k(a b:List UInt8):By (a++b)=By a++By b:=Fm ..
def Aug(a:List UInt8):(By a).length=a.length:=Av ..
def Ans:∀ l:List UInt8,Tv (By l)=some l
 | []=>rfl
 | c::l=>by
  have h:c.toNat<256:=c.toNat_lt;have:=Ans l;simp only[By,Bh,Tv]at this ⊢;rw[if_pos AA,this];simp
def Apy(l:List UInt8):Ah (By l).flatten=[]:=by
 refine F0 (Hk fun r hr=>?_);obtain⟨c,_,rfl⟩:=Di.1 hr;rfl
def A6n(ty:Nat)(x:V)(l:List UInt8)(σ:St):Axt ty x (.str l) σ=Dx 1 (1,ty) x (.lst 1 (By l)) σ:=rfl
def A3l{s:St}{j:Nat}{x:Ob}(h:s[j]?=some x):j<s.length:=(An.1 h).1
def BL(s:St)(b:Nat)(u:V)(l:List UInt8):Prop:=∃ p,s[b]?=some (.row [p,u] 208 0 0)/\(p=.nilp\/p=.ptr b 0 0)/\GW s 1 5 (b+1) u (By l)
def Ba8{s:St}{b:Nat}{u:V}{l:List UInt8}(h:BL s b u l):∀ i∈u.refs,i<s.length:=by
 obtain⟨p,_,_,hg⟩:=h;exact F9 hg
def Ba9{s J:St}{b:Nat}{u:V}{l:List UInt8}(h:BL s b u l):BL (s++J) b u l:=by
 obtain⟨p,h1,h2,h3⟩:=h;exact⟨p,Bt h1,h2,Ix h3⟩
def Jf{s:St}{cs:List V}{t:Nat}(h:Cl s)(hr:cs.all V.rowB=true):Cl (s++[.row cs t 0 0]):=Mk h (by simp only[Ob.refs,F0 hr];simp)
def A6o{s:St}{b:Nat}{u:V}{l:List UInt8}(t:List UInt8)(h:BL s b u l)(hc:Cl s)(hb:l.length+t.length<=100000000000000):
  ∃ s' u',Th TT PT 193 [.ptr b 0 0,.str t] s (.tup [.int .i64 (t.length:Int),.nili]) s'/\BL s' b u' (l++t)/\Cl s'/\s.length<=s'.length/\∀ j,j≠b->j ∉ u.refs->j<s.length->s'[j]?=s[j]?:=by
 have qI:=Ba8 h;obtain⟨p,hs,hp,hg⟩:=h;have qA:b<s.length:=A3l hs
 have h1:∃ s1,Xq 208 [.ptr b 0 0] s=some (.tup [],s1)/\s1[b]?=some (.row [.ptr b 0 0,u] 208 0 0)/\GW s1 1 5 (b+1) u (By l)/\s1.length=s.length/\Cl s1/\∀ j,j≠b->s1[j]?=s[j]?:=by
  rcases hp with rfl | rfl
  .refine⟨s.set b (.row [.ptr b 0 0,u] 208 0 0),?_,by rw[Cf qA],Dw hg AA,by simp,F4 hc ?_,fun j hj=>by rw[B4 AA]⟩
   .simp[Xq,hs]
   .intro i hi;simp only[Ob.refs,Ah,V.refs,Bz,Cs,Hh]at hi;rcases hi with rfl | hi
    .exact qA
    .exact qI i hi
  .exact⟨s,by simp[Xq,hs],hs,hg,rfl,hc,fun _ _=>rfl⟩
 obtain⟨s1,e1,q1,g1,l1,c1,f1⟩:=h1;obtain⟨u2,s2,e2,g2,l2,fo,f2⟩:=Iz (bytes:=1) (y:=.lst 1 (By t)) (ys:=By t) g1 AA rfl AA (Acr l) (Acr t) (by rw[Aug,Aug];omega);rw[<-A3k]at g2;have q2:=(f2 b AA).trans q1;have c2:Cl s2/\∀ i∈u2.refs,i<s2.length:=⟨Apn g1 rfl e2 (Apy l) (Apy t) c1,F9 g2⟩
 have c3:Cl (s2.set b (.row [.ptr b 0 0,u2] 208 0 0)):=by
  refine F4 c2.1 ?_;intro i hi;simp only[Ob.refs,Ah,V.refs,Bz,Cs,Hh]at hi;rcases hi with rfl | hi
  .omega
  .exact c2.2 i hi
 refine⟨s2.set b (.row [.ptr b 0 0,u2] 208 0 0),u2,Aee T193 rfl ?_ rfl rfl AP c3,⟨.ptr b 0 0,by rw[Cf AA],.inr rfl,Dw g2 AA⟩,c3,by simp;omega,fun j hj hu hl=>?_⟩
 .simp only[go_sem];refine Jz (.spec T218 rfl rfl e1) ?_;simp only[go_sem,q1,A6n,e2,q2,Ok (B8 g2),B8 g2];exact⟨rfl,rfl⟩
 .rw[B4 AA,fo j ?_ AA,f1 j hj];intro i g hi qM;subst qM;exact hu (by rw[hi];simp[V.refs])
theorem Bgp{s:St}{b:Nat}{u:V}{l:List UInt8}(h:BL s b u l):∃ s',U4 208 5 [.ptr b 0 0] s=some (.str l,s'):=by
 obtain⟨p,hs,hp,hg⟩:=h;rcases hg with⟨rfl,hl⟩ | ⟨hn,i,g,rfl,ho,qQ⟩
 .have:l=[]:=by simpa[By] using hl
  subst this;exact⟨s,by simp[U4,hs]⟩
 .have qy:0<(By l).length:=Xy.2 hn;have qK:Fi 1 (By l).length (By l).flatten=By l:=Tm (Acr l);have qO:=Gj (Acr l);refine⟨s.set i .dead,?_⟩;simp only[U4,hs,ho];rw[if_pos ⟨trivial,trivial,qy⟩,if_pos ⟨trivial,trivial,by omega⟩,qK,Ans];rfl
open Go Go.RowKit Go.Sort
variable {G:List (Nat × List V)}
attribute [go_sem] Ab5 As X0
/-! interleaveref01 -/
noncomputable def runOneG (f:AF) (args:List V):Option V:=(Lm (Oz TT PT 60) f args []).bind fun p=>Eg p.2 p.1
def A0u:((List.range 256).all fun n=>match runOneG af140 [.int .u8 n] with
  | some v=>v.eqv (.bool (Lz n))
  | none=>false)=true:=by kernel_rfl
def A1s(n:Nat)(h:n<256):Fn TT PT 140 [.int .u8 n] (.bool (Lz n)):=by
 have:=Cc.1 A0u n (Hi.2 h)
 split at this
 .rename_i v hv;have e:=Z0 this;subst e;exact R2 Tb T140 rfl rfl hv
 .cases this
def A1t:((List.range 256).all fun n=>match runOneG af142 [.int .u8 n] with
  | some v=>v.eqv (.bool (Nj n))
  | none=>false)=true:=by kernel_rfl
def A6p(n:Nat)(h:n<256):Fn TT PT 142 [.int .u8 n] (.bool (Nj n)):=by
 have:=Cc.1 A1t n (Hi.2 h)
 split at this
 .rename_i v hv;have e:=Z0 this;subst e;exact R2 Tb T142 rfl rfl hv
 .cases this
def kwRows:List (List V):=kwL.map fun k=>[V.str k]
def A0v:Fn TT PT 169 [] (.lst 1 kwRows):=by
 have:(match runOneG af169 [] with
  | some v=>v.eqv (.lst 1 kwRows)
  | none=>false)=true:=by kernel_rfl
 split at this
 .rename_i v hv;have e:=Z0 this;subst e;exact R2 Tb T169 rfl rfl hv
 .cases this
def Awi(l:List UInt8):Fn TT PT 141 [.str l] (.bool (Hw l)):=by
 have qd:kwRows.length=22:=rfl
 have qt:∀ i,i<22->kwRows[i]?=some [.str (kwL.getD i [])]:=fun i hi=>by
  grind[kwRows]
 have hk:=A0v;generalize kwRows=g at qd qt hk;refine Bg T141 rfl ?_;simp only[go_sem];refine Ab hk rfl ?_;simp only[go_sem];refine Bb (fun i=>22 - i) (fun i:Nat=>[(0,.str l),(3,.lst 1 g),(4,.int .i64 i)]) (fun _=>[]) (fun i=>i<=22/\∀ j,j<i->(l==kwL.getD j [])=false) ?_ 0 ⟨by omega,fun j hj=>by omega⟩;rintro i ⟨hi,qE⟩ ih;refine Ay Bf8 ?_;rcases Az i 22 with h | h
 .have ql:decide ((i:Int)<22)=true:=by simp;omega
  simp only[go_sem,qd,ql,qt i h];refine Lp (fun h3=>?_) (fun h3=>?_)
  .simp only[go_sem];refine Ae rfl ?_;unfold Hw;rw[Pa.2 ⟨kwL.getD i [],?_,?_⟩]
   .have hl:i<kwL.length:=h
    grind
   grind
  .simp only[go_sem,Aw (show i<9223372036854775807 by omega)];refine Ai (ih (i+1) AA ⟨by omega,fun j hj=>?_⟩) rfl
   grind
 .have ql:decide ((i:Int)<22)=false:=by simp;omega
  simp only[go_sem,qd,ql];refine Ae rfl ?_
  symm
  congr 1;unfold Hw;rw[<-X3];intro ha;obtain⟨k,hk,he⟩:=Pa.1 ha;obtain⟨j,hj,rfl⟩:=Mu hk;have qP:j<22:=hj
  grind
theorem Aiy{l:List UInt8}(h0:0<l.length):((Lz (l.getD 0 0).toNat=true)/\∀ j,j<l.length->Nj (l.getD j 0).toNat=true)↔∀ j,j<l.length->Jt l j=true:=by
 have qT:∀ n,Nj n=true↔Lz n=true\/(n=95\/Q6 n=true):=fun n=>by
  unfold Nj
  grind
 have nm:∀ j,Jt l j=true↔Lz (l.getD j 0).toNat=true\/(0<j/\((l.getD j 0).toNat=95\/Q6 (l.getD j 0).toNat=true)):=fun j=>by
  simp[Jt]
 grind
def Rt(l:List UInt8):Fn TT PT 92 [.str l] (.bool (B3 l)):=by
 refine Bg T92 rfl ?_;cases h0:decide ((l.length:Int)<1);rotate_left
 .simp only[go_sem,h0];exact Ae rfl (by grind[Atw])
 have qv:0<l.length:=by simp at h0;omega
 cases h1:decide ((12:Int)<(l.length:Int));rotate_left
 .simp only[go_sem,h0,h1];exact Ae rfl (by grind[Atx])
 have hg:l[0]?=some (l.getD 0 0):=by rw[Fl,Cb qv];rfl
 have qg:=A1s (l.getD 0 0).toNat (l.getD 0 0).toNat_lt
 cases h2:Lz (l.getD 0 0).toNat
 .rw[h2]at qg;simp only[go_sem,h0,h1,hg];refine Ab qg rfl ?_;simp only[go_sem];refine Ae rfl ?_;rw[show B3 l=false from ?_];have:=mt (Aiy qv).2 (by grind)
  simp_all [B3]
 rw[h2]at qg;cases h3:Hw l;rotate_left
 .have hk:=Awi l;rw[h3]at hk;simp only[go_sem,h0,h1,hg];refine Ab qg rfl ?_;simp only[go_sem];refine Ab hk rfl ?_;simp only[go_sem];exact Ae rfl (by rw[Aty h3])
 have hk:=Awi l;rw[h3]at hk;simp only[go_sem,h0,h1,hg];refine Ab qg rfl ?_;simp only[go_sem];refine Ab hk rfl ?_;simp only[go_sem];refine Bb (fun i=>l.length - i) (fun i:Nat=>[(0,.str l),(3,.int .i64 i)]) (fun _=>[]) (fun i=>i<=l.length/\∀ j,j<i->Nj (l.getD j 0).toNat=true) ?_ 0 ⟨by omega,fun j hj=>by omega⟩;rintro i ⟨hi,qE⟩ ih;refine Ay Bl3 ?_;have qN:l.length<=12:=by simp at h1;omega
 rcases Az i l.length with h | h
 .have qC:l[i]?=some (l.getD i 0):=by rw[Fl,Cb h];rfl
  have qf:=A6p (l.getD i 0).toNat (l.getD i 0).toNat_lt
  cases h4:Nj (l.getD i 0).toNat
  .rw[h4]at qf;simp only[go_sem,Aq h,qC];refine Ab qf rfl ?_;simp only[go_sem];refine Ae rfl ?_;rw[show B3 l=false from ?_];rw[<-X3];intro hn;unfold B3 at hn;simp only[Al,Cc,Hi]at hn
   grind[Aiy]
  .rw[h4]at qf;simp only[go_sem,Aq h,qC];refine Ab qf rfl ?_;simp only[go_sem,Aw (show i<9223372036854775807 by omega)];refine Ai (ih (i+1) AA ⟨by omega,fun j hj=>?_⟩) rfl
   grind
 .simp only[go_sem,Bj h];refine Ae rfl ?_;rw[Akj AA qN h3 ((Aiy qv).1 ⟨h2,fun j hj=>qE j AA⟩)]
