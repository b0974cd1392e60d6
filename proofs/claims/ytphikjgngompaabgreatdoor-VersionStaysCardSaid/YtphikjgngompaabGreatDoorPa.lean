/- Walks: comparisons, keys. -/
import Derived.Test.YtphikjgngompaabGreatDoorNu
import Derived.Shelf.Vars
import Derived.Test.YtphikjgngompaabGreatDoorCards
import Derived.Test.YtphikjgngompaabGreatDoorTie
import Derived.ProofKit
import Derived.OpenShut
import Derived.Carry
import Derived.Deep.DeepHandedRow
import Derived.Lib.LaidTab
set_option linter.all false
namespace Go.Proofs.YtphikjgngompaabGreatDoor.KM
open Go
def Agc(a:Int):Fn TT PT 133 [.int .i64 a] (.bool false):=by
 refine Bg T133 rfl ?_;simp only[go_sem];exact Ah rfl AE
def Aaw(a b:Int):Fn TT PT 84 [.int .i64 a,.int .i64 b] (.int .i64 (Lib.compareInt a b)):=by
 refine Bg T84 rfl ?_;simp only[go_sem]
 first | refine Ab (Agc a) AH ?_ | refine Bf (Agc a) AH ?_
 simp only[go_sem]
 first | refine Ab (Agc b) AH ?_ | refine Bf (Agc b) AH ?_
 simp only[go_sem];refine Lq (fun h=>?_) (fun h=>?_)
 .simp only[go_sem,h];refine Ah rfl ?_
  grind[Lib.compareInt]
 .simp only[go_sem,h];refine Lq (fun h=>?_) (fun h=>?_)
  .simp only[go_sem,h];refine Ah rfl ?_
   simp_all [Lib.compareInt]
  .simp only[go_sem,h];refine Ah rfl ?_
   simp_all [Lib.compareInt,if_neg]
def Sh:List Int->Int
 | []=>0
 | a::r=>if a≠0 then a else Sh r
def Agd(t:Nat)(xs:List Int)(hn:xs.length<9223372036854775807):Fn TT PT 83 [.lst t (xs.map fun a=>[.int .i64 a])] (.int .i64 (Sh xs)):=by
 refine Bg T83 rfl ?_;simp only[go_sem,Ar];refine Bk (fun i=>xs.length - i) (fun i:Nat=>[(3,.int .i64 0),(6,.lst t (xs.map fun a=>[.int .i64 a])),(7,.int .i64 xs.length),(8,.int .i64 i)]) (fun _=>[]) (fun i=>i<=xs.length/\Sh xs=Sh (xs.drop i)) ?_ 0 ⟨by omega,rfl⟩;rintro i ⟨hi,ho⟩ ih;refine Bd Bp0 ?_;rcases Bh i xs.length with h | h
 .obtain⟨x,hx,hd,-⟩:=Br h;rw[hd,Sh]at ho;simp only[go_sem,Az h,hx,Au];refine Lq (fun h2=>?_) (fun h2=>?_)
  .simp only[go_sem];refine Ah rfl ?_
   grind
  .simp only[go_sem,A2 (Nat.lt_trans h hn)];refine Av (ih (i+1) AA ⟨by omega,?_⟩) rfl
   grind
 .simp only[go_sem,Bl h];refine Ah rfl ?_;rw[ho,D1 h];rfl
def Tb(t u:Nat)(a b:Int):Fn TT PT 88 [.lst t [[.int .i64 a]],.lst u [[.int .i64 b]]] (.int .i64 (Lib.compareInt a b)):=by
 refine Bg T88 rfl ?_;simp only[go_sem];refine Bd A0o ?_;simp only[go_sem];refine Af AD ?_;simp only[go_sem];refine Lq (fun h1=>?_) (fun h1=>?_)
 .simp only[go_sem];refine Af AD ?_;simp only[go_sem];refine Lq (fun h2=>?_) (fun h2=>?_)
  .simp only[go_sem];simp at h2;exact Ah rfl (by grind[Lib.compareInt])
  .simp only[go_sem];simp at h1 h2;exact Ah rfl (by rw[Lib.compareInt,if_neg AA,if_pos AA])
 .simp only[go_sem];refine Bd A0o ?_;simp only[go_sem];simp at h1;exact Ah rfl (by simp_all [Lib.compareInt])
/-! keys -/
abbrev Ak:=List UInt8 × List UInt8 × Int
def A0(k:Ak):List V:=[.str k.1,.str k.2.1,.int .i64 k.2.2]
def Nj(a b:Ak):Int:=if a.1≠b.1 then Lib.compareBytes a.1 b.1 else if a.2.1≠b.2.1 then Lib.compareBytes a.2.1 b.2.1 else Lib.compareInt a.2.2 b.2.2
def At4(a b:Ak):Fn TT PT 89 [.agg (A0 a),.agg (A0 b)] (.int .i64 (Nj a b)):=by
 refine Bg T89 rfl ?_;unfold A0;simp only[go_sem];refine Lq (fun h1=>?_) (fun h1=>?_)
 .simp only[go_sem]
  first | refine Fm P134 AH AK ?_ | refine Afy P134 AH AK ?_
  simp only[go_sem];refine Ah rfl ?_
  grind[Nj]
 .simp only[go_sem];refine Lq (fun h2=>?_) (fun h2=>?_)
  .simp only[go_sem]
   first | refine Fm P134 AH AK ?_ | refine Afy P134 AH AK ?_
   simp only[go_sem];refine Ah rfl ?_
   grind[Nj]
  .simp only[go_sem]
   first | refine Ab (Tb _ _ a.2.2 b.2.2) AH ?_ | refine Bf (Tb _ _ a.2.2 b.2.2) AH ?_
   simp only[go_sem];refine Ah rfl ?_
   grind[Nj]
theorem Awy:∀ l:List UInt8,Lib.compareBytes l l=0
 | []=>rfl
 | a::l=>by
  simp[Lib.compareBytes,Awy l]
theorem Awz:∀ {a b:List UInt8},Lib.compareBytes a b=0->a=b
 | [],[],_=>rfl
 | [],_::_,h=>by grind[Lib.compareBytes]
 | _::_,[],h=>by grind[Lib.compareBytes]
 | a::r,b::s,h=>by
  simp only[Lib.compareBytes]at h
  split at h
  .omega
  .split at h
   .omega
   .rename_i h1 h2;rw[Awz h]
    grind
def A9s(a b:Ak):Sh [Lib.compareBytes a.1 b.1,Lib.compareBytes a.2.1 b.2.1,Lib.compareInt a.2.2 b.2.2]=Nj a b:=by
 grind[Nj,Sh,Awy,Awz]
def At5(a b:Ak):Fn TT PT 86 [.agg (A0 a),.agg (A0 b)] (.int .i64 (Nj a b)):=by
 refine Bg T86 rfl ?_;unfold A0;simp only[go_sem];refine Af AD ?_;simp only[go_sem]
 first | refine Fm P134 AH AK ?_ | refine Afy P134 AH AK ?_
 simp only[go_sem]
 first | refine Fm P134 AH AK ?_ | refine Afy P134 AH AK ?_
 simp only[go_sem]
 first | refine Ab (Aaw a.2.2 b.2.2) AH ?_ | refine Bf (Aaw a.2.2 b.2.2) AH ?_
 simp only[go_sem]
 first | refine Ab (Agd 1 [_,_,_] AE) AH ?_ | refine Bf (Agd 1 [_,_,_] AE) AH ?_
 simp only[go_sem];exact Ah rfl (by rw[A9s])
/-! entries -/
structure Ent where
 kind:Int
 sites:List Ak
 seen:Int
 missed:Int
 z:Bool:=true
 t:Nat:=0
def Ent.sl(x:Ent):V:=SL x.z x.t (x.sites.map A0)
def Ent.row(x:Ent):List V:=[.int .i64 x.kind,x.sl,.int .i64 x.seen,.int .i64 x.missed]
def Gx:List Ak->List Ak->Int
 | [],[]=>0
 | [],_::_ => -1
 | _::_,[]=>1
 | a::r,b::s=>if Nj a b≠0 then Nj a b else Gx r s
def Cv(x y:Ent):Int:=if x.kind≠y.kind then Lib.compareInt x.kind y.kind else Gx x.sites y.sites
def Als(x y:Ent)(hx:x.sites.length<=9223372036854775807)(hy:y.sites.length<=9223372036854775807):Fn TT PT 52 [.agg x.row,.agg y.row] (.int .i64 (Cv x y)):=by
 refine Bg T52 rfl ?_;unfold Ent.row Ent.sl;simp only[go_sem];refine Lq (fun h1=>?_) (fun h1=>?_)
 .simp only[go_sem]
  first | refine Ab (Tb _ _ _ _) AH ?_ | refine Bf (Tb _ _ _ _) AH ?_
  simp only[go_sem];simp at h1;exact Ah rfl (by grind[Cv])
 .simp only[go_sem];simp at h1;have he:Cv x y=Gx x.sites y.sites:=by simp[Cv,h1]
  rw[he]
  refine Bk (fun i=>x.sites.length - i) (fun i:Nat=>[(2,.ptr 0 0 0),(3,.ptr 1 0 0),(5,.int .i64 i)]) (fun _=>[.row [.int .i64 x.kind,SL x.z x.t (x.sites.map A0),.int .i64 x.seen,.int .i64 x.missed] 43 0 0,.row [.int .i64 y.kind,SL y.z y.t (y.sites.map A0),.int .i64 y.seen,.int .i64 y.missed] 43 0 0])
   (fun i=>i<=x.sites.length/\i<=y.sites.length/\Gx x.sites y.sites=Gx (x.sites.drop i) (y.sites.drop i)) ?_ 0 ⟨by omega,by omega,rfl⟩
  rintro i ⟨hi,qE,ho⟩ ih;refine Bd Bpg ?_;rcases Bh i x.sites.length with h | h
  .obtain⟨a,ha,qt,-⟩:=Br h;rcases Bh i y.sites.length with h2 | h2
   .obtain⟨b,hb,qn,-⟩:=Br h2;rw[qt,qn,Gx]at ho;simp only[go_sem,Az h,Az h2,ha,hb,Au,Ar];refine Af AD ?_;simp only[go_sem,Az h,Az h2,ha,hb,Au,Ar,A0]
    first | refine Ab (At4 a b) AH ?_ | refine Bf (At4 a b) AH ?_
    simp only[go_sem];refine Lq (fun h3=>?_) (fun h3=>?_)
    .simp only[go_sem];simp at h3;exact Ah rfl (by grind)
    .simp only[go_sem,A2 (Px h hx)];simp at h3;refine Av (ih (i+1) AA ⟨by omega,by omega,by omega⟩) rfl
   .simp only[go_sem,Az h,Bl h2,Ar]
    first | refine Ab (Tb _ _ _ _) AH ?_ | refine Bf (Tb _ _ _ _) AH ?_
    simp only[go_sem];refine Ah rfl ?_;rw[ho,qt,D1 h2,Gx,Lib.compareInt,if_neg AA,if_pos AA]
  .simp only[go_sem,Bl h,Ar]
   first | refine Ab (Tb _ _ _ _) AH ?_ | refine Bf (Tb _ _ _ _) AH ?_
   simp only[go_sem];refine Ah rfl ?_;rw[ho,D1 h];rcases Bh i y.sites.length with h2 | h2
   .obtain⟨b,hb,qn,-⟩:=Br h2;rw[qn,Gx,Lib.compareInt,if_pos AA]
   .rw[D1 h2,Gx,Lib.compareInt,if_neg AA,if_neg AA]
def Bqj(x y:Ent)(hx:x.sites.length<=9223372036854775807)(hy:y.sites.length<=9223372036854775807)(σ:St):
  Th TT PT 85 [x.sl,y.sl,.fn 86 [] []] σ (.int .i64 (Gx x.sites y.sites)) σ:=by
 refine Bnp T85 rfl ?_;unfold Ent.sl;simp only[go_sem,Ar]
 refine Bk (α:=Nat × St) (fun a=>x.sites.length - a.1) (fun a=>[(0,SL x.z x.t (x.sites.map A0)),(1,SL y.z y.t (y.sites.map A0)),(2,.fn 86 [] []),(11,SL x.z x.t (x.sites.map A0)),(12,.int .i64 x.sites.length),(13,.int .i64 a.1)]) (fun a=>a.2)
   (fun a=>a.1<=x.sites.length/\a.1<=y.sites.length/\Gx x.sites y.sites=Gx (x.sites.drop a.1) (y.sites.drop a.1)/\∃ J,a.2=σ++J) ?_ (0,σ) ⟨by simp,by simp,rfl,[],by simp⟩
 rintro⟨i,s⟩ ⟨hi,qE,ho,J,hJ⟩ ih;simp only at hi qE ho hJ ih;refine Bd Bp1 ?_;rcases Bh i x.sites.length with h | h
 .obtain⟨a,ha,qt,-⟩:=Br h;rcases Bh i y.sites.length with h2 | h2
  .obtain⟨b,hb,qn,-⟩:=Br h2;rw[qt,qn,Gx]at ho;simp only[go_sem,Az h,ha,Au,Ar,A0,Bri h2,hb]
   first | refine Ab (At5 a b) AH ?_ | refine Bf (At5 a b) AH ?_
   simp only[go_sem];refine Lq (fun h3=>?_) (fun h3=>?_)
   .simp only[go_sem];simp at h3;rw[ho,if_pos h3,hJ,Bt];exact Ae9 _ rfl
   .simp only[go_sem,A2 (Px h hx)];simp at h3;refine Av (ih (i+1,_) AA ⟨by omega,by omega,by grind,_,by simp only;rw[hJ,Bt]⟩) rfl
  .simp only[go_sem,Az h,ha,Au,Ar,A0,Brh h2];rw[ho,qt,D1 h2,Gx,hJ,Bt];exact Ae9 _ rfl
 .have hk:Gx x.sites y.sites=if x.sites.length<y.sites.length then -1 else 0:=by
   rw[ho,D1 h];rcases Bh i y.sites.length with h2 | h2
   .obtain⟨b,hb,qn,-⟩:=Br h2;rw[qn,Gx,if_pos AA]
   .rw[D1 h2,Gx,if_neg AA]
  simp only[go_sem,Bl h,Ar];rw[hk,hJ];refine Lq (fun h2=>?_) (fun h2=>?_)
  .simp only[go_sem];rw[if_pos (by grind)];exact Ae9 _ rfl
  .simp only[go_sem];rw[if_neg (by grind)];exact Ae9 _ rfl
def A9t(x y:Ent):Sh [Lib.compareInt x.kind y.kind,Gx x.sites y.sites]=Cv x y:=by
 grind[Cv,Sh,Lib.compareInt]
def A37(x y:Ent)(hx:x.sites.length<=9223372036854775807)(hy:y.sites.length<=9223372036854775807):Fn TT PT 50 [.agg x.row,.agg y.row] (.int .i64 (Cv x y)):=by
 refine Bg T50 rfl ?_;have cx:x.sl.cellB=true:=S8 ..;have cy:y.sl.cellB=true:=S8 ..;unfold Ent.row;simp only[go_sem,cx,cy];refine Af AD ?_;simp only[go_sem]
 first | refine Ab (Aaw x.kind y.kind) AH ?_ | refine Bf (Aaw x.kind y.kind) AH ?_
 simp only[go_sem];refine Abb (Bqj x y hx hy _) (by repeat (first | exact trivial | refine⟨.inl AK,?_⟩ | refine⟨by rfl,?_⟩ | refine⟨.inr ⟨by rfl,by rfl⟩,?_⟩)) (by repeat (first | exact trivial | refine⟨.inl AK,?_⟩ | refine⟨by rfl,?_⟩ | refine⟨.inr ⟨by rfl,by rfl⟩,?_⟩)) ?_;simp only[go_sem]
 first | refine Ab (Agd 1 [_,_] AE) AH ?_ | refine Bf (Agd 1 [_,_] AE) AH ?_
 simp only[go_sem];exact Ah rfl (by rw[A9t])
def Afg(x y:Ent)(hx:x.sites.length<=9223372036854775807)(hy:y.sites.length<=9223372036854775807):Fn TT PT 24 [.agg x.row,.agg y.row] (.bool (decide (Cv x y<0))):=by
 refine Bg T24 rfl ?_;have cx:x.sl.cellB=true:=S8 ..;have cy:y.sl.cellB=true:=S8 ..;have rx:x.sl.rowB=true:=Hn ..;have ry:y.sl.rowB=true:=Hn ..;unfold Ent.row;simp only[go_sem,cx,cy];refine Ab (A37 x y hx hy) (by simp only[go_sem,Ent.row,rx,ry]) ?_;simp only[go_sem];exact Fw rfl
abbrev eR (x:Ent) (w:V):List V:=[.int .i64 x.kind,w,.int .i64 x.seen,.int .i64 x.missed]
abbrev eO (x:Ent) (w:V):Ob:=.row (eR x w) 43 0 0
abbrev kR (k:Ak):List V:=[.str k.1,.str k.2.1,.int .i64 k.2.2]
end Go.Proofs.YtphikjgngompaabGreatDoor.KM
/- What every law's closing needs: listed tables, the post of a law that answers true and leaves its arguments. -/
namespace Go.Proofs.YtphikjgngompaabGreatDoor
open Go.ChangeShapes Go.WideShapes Go.ChangeAt Go.RowKit KM
mutual
def flatV{H:Type}:DataW H->List Value
 | .lit (.bool b)=>[.bool b]
 | .lit (.int k n)=>[.int k n]
 | .lit (.string l)=>[.string ⟨l.toArray⟩]
 | .agg ps=>Ti ps
 | _=>[]
def Ti{H:Type}:List (DataW H)->List Value
 | []=>[]
 | d::ds=>flatV d++Ti ds
end
def Ams(P:Program)(ts:List TypeId):Bool:=ts.all fun t=>
 match P.underlying t with
 | some .bool | some (.int _) | some .string=>P.cellsOf t==1
 | some (.struct fs)=>fs.toList.all (fun f=>ts.contains f.type)&&Rq P fs.toList 0 (P.cellsOf t)
 | some (.array n e)=>ts.contains e&&P.cellsOf t==n*P.cellsOf e
 | _=>false
def Apz{H:Type}{P:Program}{cs:List Value}{g:Field->Option (DataW H × List MemPlace)}:
  ∀ (fl:List Field) (s e:Nat) (xs:List (DataW H × List MemPlace)),Rq P fl s e=true->fl.mapM g=some xs->e=cs.length ->
   (∀ f∈fl,∀ x,g f=some x->(cs.drop f.offset).take (P.cellsOf f.type)=flatV x.1)->cs.drop s=Ti (xs.map (·.1))
 | [],s,e,xs,hc,hm,he,_=>by
  grind[Rq,Ti]
 | f::fl,s,e,xs,hc,hm,he,hg=>by
  simp only[Rq,Ai,beq_iff_eq]at hc;rw[Le]at hm
  cases hf:g f with
  | none=>grind
  | some x=>
   cases hl:fl.mapM g with
   | none=>grind
   | some r=>
    simp[hf,hl]at hm;subst hm;have h1:=Apz fl _ e r hc.2 hl he (fun f' qK=>hg f' (Cb _ qK))
    grind[Ti,List.drop_drop,List.take_append_drop]
def Aqm{H:Type}{cs:List Value}{m:Nat}{g:Nat->Option (DataW H × List MemPlace)}(hg:∀ i x,g i=some x->(cs.drop (i*m)).take m=flatV x.1):
  ∀ (n s:Nat) (xs:List (DataW H × List MemPlace)),(List.range' s n).mapM g=some xs->cs.length=(s+n)*m->cs.drop (s*m)=Ti (xs.map (·.1))
 | 0,s,xs,hm,hl=>by
  grind[Ti]
 | n+1,s,xs,hm,hl=>by
  rw[List.range'_succ,Le]at hm
  cases hf:g s with
  | none=>grind
  | some x=>
   cases hr:(List.range' (s+1) n).mapM g with
   | none=>grind
   | some r=>
    simp[hf,hr]at hm;subst hm;have h1:=Aqm hg n (s+1) r hr (by grind)
    grind[Ti,List.drop_drop,List.take_append_drop]
def Aiw{H:Type}(qd:TypeId × Value->H)(P:Program)(w:World)(qg:Nat->Bool)(qo:Bool)(ts:List TypeId)(ql:Ams P ts=true):
  ∀ (fuel:Nat) (t:TypeId) (cs:List Value) (d:DataW H) (ps:List MemPlace),t∈ts->DataW.trod qd P w 0 qg qo fuel t cs=some (d,ps)->cs=flatV d
 | 0,_,_,_,_,_,h=>by simp_all [DataW.trod]
 | fuel+1,t,cs,d,ps,ht,h=>by
  have hp:=Bu.1 ql t ht;simp only[DataW.trod]at h
  split at h
  .simp at h;obtain⟨rfl,_⟩:=h;rfl
  .split at h
   .rename_i hk;simp at h;obtain⟨rfl,_⟩:=h;obtain⟨rfl,_⟩:=hk;rfl
   grind
  .grind
  .split at h
   .simp at h;obtain⟨rfl,_⟩:=h;simp[flatV]
   grind
  .grind
  .grind
  .grind
  .grind
  .rename_i fs hu;rw[hu]at hp;simp only[Ai,Bu,Ac1]at hp
   split at h
   .rename_i qC;simp only[Cf]at h;obtain⟨xs,hm,h⟩:=h;simp at h;obtain⟨rfl,_⟩:=h;have:=Apz (P:=P) (cs:=_) fs.toList 0 _ xs hp.2 hm qC.symm (fun f hf x hx=>Aiw qd P w qg qo ts ql fuel f.type _ x.1 x.2 (hp.1 f hf) hx)
    grind[flatV]
   grind
  .rename_i n e hu;rw[hu]at hp;simp only[Ai,beq_iff_eq,Ac1]at hp
   split at h
   .rename_i qC;simp only[Cf]at h;obtain⟨xs,hm,h⟩:=h;simp at h;obtain⟨rfl,_⟩:=h;rw[List.range_eq_range']at hm;have:=Aqm (cs:=_) (m:=P.cellsOf e) (fun i x hx=>Aiw qd P w qg qo ts ql fuel e _ x.1 x.2 hp.1 hx) n 0 xs hm (by grind)
    grind[flatV]
   grind
  all_goals grind
def Akq{P:Program}{w:World}{n:String}{d:DataW Unit}:∀ {qb:List (String × DataW Unit)} {ps:List MemPlace},DataW.LaidVars P w qb ps->(n,d)∈qb ->
  ∃ g t cs fuel p,P.globalNamed n=some g/\(P.globals[g]?).map (·.type)=some t/\w.var? P n=some cs/\DataW.trod (fun _=>()) P w 0 (fun _=>true) false fuel t cs.toList=some (d,p)
 | [],_,_,hm=>by cases hm
 | (n',d')::r,ps,h,hm=>by
  obtain⟨g,t,cs,fuel,p,q,h1,h2,h3,h4,h5,_⟩:=h;rcases Bp.1 hm with e | hm
  .grind
  .exact Akq h5 hm
def A9u{P:Program}{w:World}{n:String}{d:DataW Unit}{g:Nat}{t:TypeId}{ts:List TypeId}{qb:List (String × DataW Unit)}(h:laidMet P qb w)(hm:(n,d)∈qb)
  (hg:P.globalNamed n=some g) (ht:(P.globals[g]?).map (·.type)=some t) (ql:Ams P ts=true) (qe:t∈ts):w.var? P n=some (flatV d).toArray:=by
 obtain⟨ps,h,_⟩:=h;obtain⟨g',t',cs,fuel,p,h1,h2,h3,h4⟩:=Akq h hm;obtain rfl:g'=g:=M5 (h1.symm.trans hg);obtain rfl:t'=t:=M5 (h2.symm.trans ht);rw[h3,<-Aiw _ P w _ _ ts ql fuel t' _ d p qe h4]
theorem Apo{H:Type}{qd:TypeId × Value->H}{P:Program}(hl:laidOutB P=true){W W':World}(hb:Below W.heap.size W W'){sp:Nat->Bool}:
  ∀ {ts:List TypeId} {vs:List Value} {ds:List (DataW H)} {ps:List MemPlace},(ts.all fun t=>P.readableRec t&&decide (t<P.types.size))=true->DataW.TrodAll qd P W 0 (fun _=>true) true ts vs ds ps ->
   (∀ x∈ps,x.block<W.heap.size)->(∀ x∈ps,sp x.block=true)->DataW.TrodAll qd P W' 0 sp true ts vs ds ps
 | [],[],[],_,_,h,_,_=>h
 | t::ts,v::vs,d::ds,ps,hr,h,qh,qB=>by
  obtain⟨p,q,h1,h2,rfl⟩:=h;simp only[B5,Ai,decide_eq_true_eq]at hr;refine⟨p,q,WideElems.Trod_stays hl hr.1.1 hr.1.2 h1 (fun x hx=>hb.same (qh x (by simp[hx]))) (fun x hx=>qB x (by simp[hx])),?_,rfl⟩;exact Apo hl hb (by grind) h2 (fun x hx=>qh x (by simp[hx])) (fun x hx=>qB x (by simp[hx]))
 | [],_::_,_,_,_,h,_,_=>by grind[DataW.TrodAll]
 | [],[],_::_,_,_,h,_,_=>by grind[DataW.TrodAll]
 | _::_,[],_,_,_,h,_,_=>by grind[DataW.TrodAll]
 | _::_,_::_,[],_,_,h,_,_=>by grind[DataW.TrodAll]
def A9v{H:Type}{qd:TypeId × Value->H}{P:Program}{f:Func}{s:ChangeSpec}{qj qr qi qq:Bool}{W W':World}{args:Array Value}{ds gs:List (DataW H)}{qa:List MemPlace}{tb:TypeId}
  (hW:DataW.Whole qd P f.params.toList s.vars qj W args.toList ds gs qa) (hl:laidOutB P=true) (ql:(f.params.toList.all fun t=>P.readableRec t&&decide (t<P.types.size))=true)
  (hv:s.vars=[]) (hr:f.resultTypes=#[tb]) (hu:P.underlying tb=some .bool) (h1:(s.fn H (ds++gs)).results=[.lit (.bool true)]) (h2:(s.fn H (ds++gs)).args=ds) (h3:(s.fn H (ds++gs)).vars=[])
  (hb:Below W.heap.size W W'):s.post qd P f qj qr qi qq W args (.bool true) W':=by
 have qh:∀ p∈qa,p.block<W.heap.size:=fun p hp=>hW.lt p hp
 have qz:∀ p∈qa,(fun b=>decide (b<W.heap.size)) p.block=true:=fun p hp=>by grind
 have qw:∀ (b:Nat) (sp:Nat->Bool) (hd:Bool),DataW.TrodAll qd P W' b sp hd f.resultTypes.toList ((Value.bool true).resultList f.resultTypes.size) (s.fn H (ds++gs)).results []:=fun b sp hd=>by
  rw[hr,h1];exact trodAll_cons_mk (shut_bool hu _) trodAll_mk0
 obtain⟨p,q,hA,hV,qP,hz,hn⟩:=id hW;have hg:gs=[]/\q=[]:=by rw[hv]at hV;exact trodVars_none hV
 obtain⟨rfl,rfl⟩:=hg
 have qk:∀ sp:Nat->Bool,(∀ p∈qa,sp p.block=true)->DataW.TrodAll qd P W' 0 sp true f.params.toList args.toList (s.fn H (ds++[])).args qa:=fun sp qB=>by
  grind[Apo]
 have qm:∀ sp:Nat->Bool,DataW.TrodVars qd P W' sp s.vars (s.fn H (ds++[])).vars []:=fun sp=>by
  rw[hv,h3];rfl
 refine⟨ds,[],qa,[],qa,[],hW,qw _ _ _,qk _ qz,qm _,World.keptBut_mono (fun p hp=>⟨hp,.inr (by grind)⟩) (hb.frame (·∈qa)),fun _=>?_⟩;refine⟨?_,_,_,([]++qa)++[],⟨[]++qa,[],trodAll_append (qk _ (fun _ _=>rfl)) (qw _ _ _),qm _,rfl,?_,?_⟩,?_⟩
 .exact ok_one hr rfl (okWide_bool_mk hu _)
 .intro b off hp;have qe:MemPlace.cell b off∈qa:=by simpa using hp
  rw[hb.frozen (qh _ qe)];exact hz b off qe
 .grind
 grind
def At6{P:Program}{w:World}{n:String}{g:Nat}{cs:Array Value}(h:w.var? P n=some cs)(hg:P.globalNamed n=some g):∃ e fz,w.heap[g]?=some (.cells cs e fz):=by
 grind[World.var?]
def Alt{P:Program}{w:World}{n:String}{d:DataW Unit}{g:Nat}{t:TypeId}{ts:List TypeId}{qb:List (String × DataW Unit)}{r:List V}(h:laidMet P qb w)(hm:(n,d)∈qb)
  (hg:P.globalNamed n=some g) (ht:(P.globals[g]?).map (·.type)=some t) (ql:Ams P ts=true) (qe:t∈ts) (hr:Iw r (flatV d)=true) (hf:r.all Ahn=true) :
  ∃ us e fz,w.heap[g]?=some (.cells us e fz)/\r.length=us.toList.length/\∀ j,j<r.length->Yk (r.getD j .und) (us.toList.getD j undef):=by
 obtain⟨e,fz,hh⟩:=At6 (A9u h hm hg ht ql qe) hg
 grind[A23]
def Aw0{P:Program}{w:World}{n:String}{nm:String}{d:DataW Unit}{g:Nat}{t:TypeId}{ms:Array (String × TypeId)}{qb:List (String × DataW Unit)}(h:laidMet P qb w)(hm:(n,.iface nm d)∈qb)
  (hg:P.globalNamed n=some g) (ht:(P.globals[g]?).map (·.type)=some t) (hu:P.underlying t=some (.interface ms)) :
  ∃ us e fz,w.heap[g]?=some (.cells us e fz)/\[V.ifc].length=us.toList.length/\∀ j,j<[V.ifc].length->Yk ([V.ifc].getD j .und) (us.toList.getD j undef):=by
 obtain⟨ps,h,_⟩:=h;obtain⟨g',t',cs,fuel,p,h1,h2,h3,h4⟩:=Akq h hm;obtain rfl:g'=g:=M5 (h1.symm.trans hg);obtain rfl:t'=t:=M5 (h2.symm.trans ht);obtain⟨e,fz,hh⟩:=At6 h3 hg;refine⟨cs,e,fz,hh,?_⟩
 cases fuel with
 | zero=>simp_all [DataW.trod]
 | succ fuel=>
  unfold DataW.trod at h4;rw[hu]at h4;generalize cs.toList=l at h4;rcases l with _ | ⟨x,_ | ⟨y,l⟩⟩
  .grind
  .cases x with
   | iface u v=>
    refine⟨rfl,fun j hj=>.inr ?_⟩
    simp_all
   | _=>grind
  grind
def Ber{P:Program}{w:World}{g:Nat}{t:TypeId}{zero:Array Value}
  (h:w.ShapedOpen P) (hg:g<P.globals.size)
  (h0:((begin P (fun _ _=>0) default).world.heap[g]?).bind Obj.row?=some (zero,t)) (hz:zero.size=1)
  (hb:P.buildable t=true) (hc:P.cellTypes P.depth t=some [t]) (hu:P.underlying t=some (.int .i64)) :
  ∃ m,∃ us e fz,w.heap[g]?=some (.cells us e fz)/\[V.int .i64 m].length=us.toList.length/\∀ j,j<[V.int .i64 m].length->Yk ([V.int .i64 m].getD j .und) (us.toList.getD j undef):=by
 obtain⟨m,hm⟩:=cell_of_shapedOpen_int h hg h0 hz hb hc hu;obtain⟨cs,hh,hs,_⟩:=h.1 g zero t hg h0;refine⟨m,cs,_,_,hh,by grind,fun j hj=>.inl ?_⟩;obtain rfl:j=0:=by grind
 have:cs[0]?=some (.int .i64 m):=by simpa[World.cell?,hh] using hm
 have:cs.toList.getD 0 undef=.int .i64 m:=by rw[Ef,Array.getElem?_toList,this];rfl
 rw[this];exact⟨by simp[Pb],rfl⟩
end Go.Proofs.YtphikjgngompaabGreatDoor
/- What every closing of this seat's laws needs: the tables, plain data out of what a row reads, the world of the witness. -/
namespace Go.Proofs.YtphikjgngompaabGreatDoor
open Go.ChangeShapes Go.WideShapes Go.ChangeAt Go.RowKit KM
def A2v:ownKnob Tryz.prog.godebug=none:=by kernel_rfl
def A9w{P:Program}{t:TypeId}{k:IntKind}{qc:List V}(hu:P.underlying t=some (.int k))(h:HasT P t qc):∃ n,qc=[.int k n]/\(Lit.int k n).wf=true:=by
 cases h with
 | int hu' hw=>
  grind
 | _=>simp_all
def Ap0{P:Program}{t:TypeId}{fs:Array Field}{qc:List V}(hu:P.underlying t=some (.struct fs))(h:HasT P t qc):∃ parts:List (List V),qc=parts.flatten/\parts.length=fs.size/\∀ i f,fs[i]?=some f->HasT P f.type (parts.getD i []):=by
 cases h with
 | struct parts hu' hl hT=>
  grind
 | _=>simp_all
def A38{P:Program}{t e:TypeId}{qc:List V}(hu:P.underlying t=some (.slice e))(h:HasT P t qc):qc=[.nils]\/∃ xs,qc=[.lst 0 xs]/\xs.length<=maxLen/\∀ i,i<xs.length->HasT P e (xs.getD i []):=by
 cases h with
 | nils _=>grind
 | lst hu' hl hT=>
  grind
 | _=>simp_all
def At7{α:Type}{f:α->List V}:∀ {xs:List (List V)},(∀ i,i<xs.length->∃ a,xs.getD i []=f a)->∃ l:List α,xs=l.map f
 | [],_=>⟨[],rfl⟩
 | x::xs,h=>by
  obtain⟨a,ha⟩:=h 0 AE;obtain⟨l,hl⟩:=At7 (xs:=xs) fun i hi=>h (i+1) (by grind)
  exact⟨a::l,by grind⟩
def Aru{P:Program}{t e:TypeId}{α:Type}{f:α->List V}{qc:List V}(hu:P.underlying t=some (.slice e))(h:HasT P t qc)(hf:∀ r,HasT P e r->∃ a,r=f a):∃ z u,∃ l:List α,qc=[SL z u (l.map f)]/\l.length<=9223372036854775807:=by
 rcases A38 hu h with rfl | ⟨xs,rfl,hl,hT⟩
 .exact⟨true,0,[],rfl,by simp⟩
 .obtain⟨l,rfl⟩:=At7 (f:=f) fun i hi=>hf _ (hT i hi)
  exact⟨false,0,l,by simp[SL],by grind[maxLen]⟩
def Amt{α:Type}{ps:List (List α)}(h:ps.length=4):∃ a b c d,ps=[a,b,c,d]:=by
 match ps,h with
 | [a,b,c,d],_=>grind
def Bes:Tryz.prog.globalNamed "interleave/format.operators"=some 9:=by kernel_rfl
def Bkr:Tryz.prog.globalNamed "interleave/token.keywords"=some 0:=by kernel_rfl
def Bet:Tryz.prog.globalNamed "internal/strconv.uint64pow10"=some 1:=by kernel_rfl
def Beu{w:World}{qb:List (String × DataW Unit)}(h:laidMet Tryz.prog qb w)(hs:w.ShapedOpen Tryz.prog)(h1:("interleave/format.operators",Rows.laid_interleave_format_operators)∈qb) (h2:("internal/strconv.uint64pow10",Rows.laid_internal_strconv_uint64pow10)∈qb)
  (h3:("interleave/token.keywords",Rows.laid_interleave_token_keywords)∈qb) (h4:("strconv.ErrSyntax",Rows.laid_strconv_ErrSyntax)∈qb) (h5:("strconv.ErrRange",Rows.laid_strconv_ErrRange)∈qb):∃ m,Aos (GT m) w:=by
 obtain⟨m,hm⟩:=Ber (g:=2) (zero:=#[.int .i64 0]) (t:=3) hs (of_decide_eq_true AD) AD rfl AD AD Tryz.underlying3;refine⟨m,fun g r hg=>?_⟩;simp only[GT,Bp,L8,or_false,Prod.mk.injEq]at hg
 rcases hg with⟨rfl,rfl⟩ | ⟨rfl,rfl⟩ | ⟨rfl,rfl⟩ | ⟨rfl,rfl⟩ | ⟨rfl,rfl⟩ | ⟨rfl,rfl⟩<;>first
  | exact hm
  | exact Aw0 h h4 Awb AD Tryz.underlying231
  | exact Aw0 h h5 Awc AD Tryz.underlying231
  | exact Alt (ts:=[3,9,296,304]) (t:=304) h h1 Bes AD AD AG AD AD
  | exact Alt (ts:=[9,222]) (t:=222) h h3 Bkr AD AD AG AD AD
  | exact Alt (ts:=[191,240]) (t:=240) h h2 Bet AD AD AG AD AD
end Go.Proofs.YtphikjgngompaabGreatDoor
/- The world of the witness: the settled one, the listed variables holding what their initialisers lay. -/
namespace Go.Proofs.YtphikjgngompaabGreatDoor
open Go.ChangeShapes Go.WideShapes Go.ChangeAt Go.RowKit KM
def Bqk{a b:Bool}(h1:a=true)(h2:b=true):(a&&b)=true:=by rw[h1,h2];rfl
def setRow(d:DataW Unit):Obj->Obj
 | .cells _ t frozen=>.cells (flatV d).toArray t frozen
 | o=>o
def Ayy(b:Nat):Obj->Obj
 | .cells _ t frozen=>.cells #[.iface 300 (.pointer (some ⟨b,0,none⟩))] t frozen
 | o=>o
def Aw1:DataW Unit->Array UInt8
 | .iface _ (.ptr (.agg [.lit (.string l)]))=>l.toArray
 | _=>#[]
noncomputable def holds0 (os:Os):Array Obj:=(World.holding Tryz.prog os ⟨#[],#[],[]⟩).heap
noncomputable def laidWorld (os:Os):World:=
 { World.holding Tryz.prog os ⟨#[],#[],[]⟩ with heap:=((((((((((holds0 os).modify 9 (setRow Rows.laid_interleave_format_operators)).modify 1 (setRow Rows.laid_internal_strconv_uint64pow10)).modify 3 (setRow Rows.laid_math_bits_deBruijn32tab)).modify 4 (setRow Rows.laid_math_bits_deBruijn64tab)).modify 6 (setRow Rows.laid_unicode_utf8_acceptRanges)).modify 0 (setRow Rows.laid_interleave_token_keywords)).modify 5 (setRow Rows.laid_unicode_utf8_first)).modify 8 (Ayy (holds0 os).size)).modify 7 (Ayy ((holds0 os).size+1))).push (.cells #[.string ⟨Aw1 Rows.laid_strconv_ErrRange⟩] 302 (0,0)) |>.push (.cells #[.string ⟨Aw1 Rows.laid_strconv_ErrSyntax⟩] 302 (0,0)) }
end Go.Proofs.YtphikjgngompaabGreatDoor
/- What a row reads: bytes. -/
namespace Go.Proofs.YtphikjgngompaabGreatDoor
open Go.ChangeShapes Go.WideShapes Go.ChangeAt Go.RowKit KM
def R5{P:Program}{t:TypeId}{qc:List V}(hu:P.underlying t=some (.int .u8))(h:HasT P t qc):∃ n:Nat,n<256/\qc=[.int .u8 (n:Int)]:=by
 obtain⟨n,rfl,hw⟩:=A9w hu h;simp only[Lit.wf,Ai,decide_eq_true_eq]at hw;have h1:(0:Int)<=n:=hw.1;have h2:n<=255:=hw.2;refine⟨n.toNat,by omega,?_⟩;rw[Aif h1]
def Amu{qc:List V}(h:HasT Tryz.prog 22 qc):∃ z u,∃ l:List UInt8,qc=[SL z u (B6 l)]/\l.length<=9223372036854775807:=by
 obtain⟨z,u,l,rfl,hl⟩:=Aru (f:=fun c:UInt8=>[V.int .u8 (c.toNat:Int)]) Tryz.underlying22 h fun r hr=>by
  obtain⟨n,hn,rfl⟩:=R5 Tryz.underlying5 hr;exact⟨UInt8.ofNat n,by simp[Ain hn]⟩
 exact⟨z,u,l,rfl,hl⟩
end Go.Proofs.YtphikjgngompaabGreatDoor
/- Both versions' numbers out of what a row reads. -/
namespace Go.Proofs.YtphikjgngompaabGreatDoor
open Go.ChangeShapes Go.WideShapes Go.ChangeAt Go.RowKit KM
def A56{P:Program}{t:TypeId}{qc:List V}(hu:P.underlying t=some .bool)(h:HasT P t qc):∃ b,qc=[.bool b]:=by
 cases h with
 | bool hu'=>exact⟨_,rfl⟩
 | _=>simp_all
structure PairP where
 z0:Bool
 t0:Nat
 a:List UInt8
 z1:Bool
 t1:Nat
 b:List UInt8
 z2:Bool
 t2:Nat
 c:List UInt8
 un:Bool
def PairP.row(x:PairP):List V:=[SL x.z0 x.t0 (B6 x.a),SL x.z1 x.t1 (B6 x.b),SL x.z2 x.t2 (B6 x.c),.bool x.un]
def Bev{qc:List V}(h:HasT Tryz.prog 24 qc):∃ x:PairP,qc=x.row/\x.a.length<=9223372036854775807/\x.b.length<=9223372036854775807/\x.c.length<=9223372036854775807:=by
 obtain⟨ps,rfl,hl,hT⟩:=Ap0 Tryz.underlying24 h;obtain⟨a,b,c,d,rfl⟩:=Amt hl;have h0:=hT 0 _ rfl;have h1:=hT 1 _ rfl;have h2:=hT 2 _ rfl;have h3:=hT 3 _ rfl;simp at h0 h1 h2 h3;obtain⟨z0,t0,l0,rfl,k0⟩:=Amu h0;obtain⟨z1,t1,l1,rfl,k1⟩:=Amu h1;obtain⟨z2,t2,l2,rfl,k2⟩:=Amu h2;obtain⟨un,rfl⟩:=A56 Tryz.underlying4 h3;exact⟨⟨z0,t0,l0,z1,t1,l1,z2,t2,l2,un⟩,rfl,k0,k1,k2⟩
end Go.Proofs.YtphikjgngompaabGreatDoor
/- awake answers true: by a run of the plain machine in the kernel. -/
namespace Go.Proofs.YtphikjgngompaabGreatDoor.KM
open Go
def H0(l:List Ak):∀ r∈l.map A0,r.length=3:=by
 intro r hr;obtain⟨k,_,rfl⟩:=Cs.1 hr;rfl
theorem Nu(l:List Ak):∀ r∈l.map A0,r.all V.rowB=true:=by
 intro r hr;obtain⟨k,_,rfl⟩:=Cs.1 hr;rfl
def Bew(x:Ent):Da (.agg x.row)=true:=by
 have:=Hn x.z x.t (x.sites.map A0);simp only[go_sem,Ent.row,Ent.sl]
@[go_sem] theorem Vo (x:Ent):x.row=(eR x x.sl):=Bs rfl
@[go_sem] theorem Bs5 (x:Ent):x.sl.rowB=true:=Hn ..
@[go_sem] theorem Bsx (x:Ent):x.sl.cellB=true:=S8 ..
@[go_sem] theorem Bst (x:Ent):x.sl.cells=[x.sl]:=As9 ..
@[go_sem] theorem Bs6 (x:Ent):Da x.sl=true:=Abc ..
@[go_sem] theorem Bs7 (x:Ent):Nh x.sl=some (.int .i64 (x.sites.length:Int)):=(Afz ..).trans (by grind)
@[go_sem] theorem Bsy (x:Ent) (σ:St) (m:Nat):Eu σ m x.sl=some (x.sites.map A0):=Aar ..
theorem Gn(l:List Ent):∀ r∈l.map Ent.row,r.length=4:=by
 intro r hr;obtain⟨k,_,rfl⟩:=Cs.1 hr;rfl
def Bex(x:Ent):x.row.all V.rowB=true:=Bew x
def O1(l:List Ent):∀ r∈l.map Ent.row,r.all V.rowB=true:=by
 intro r hr;obtain⟨k,_,rfl⟩:=Cs.1 hr;simp[Bex]
def Dd(e:Ent):List Ent->Nat
 | []=>0
 | x::r=>if Cv x e<0 then Dd e r+1 else 0
theorem Ajt(e:Ent):∀ l,Dd e l<=l.length
 | []=>Aj _
 | x::r=>by
  simp only[Dd,An];have:=Ajt e r
  grind
def Ho(e:Ent)(l:List Ent):Bool:=match l[Dd e l]? with
 | some x=>Cv x e==0
 | none=>false
def Uu(l:List Ent):Prop:=∀ x∈l,x.sites.length<=9223372036854775807
def At8(z:Bool)(t:Nat)(l:List Ent)(e:Ent)(hl:l.length<=9223372036854775807)(ho:Uu l)(he:e.sites.length<=9223372036854775807):
  Fn TT PT 43 [SL z t (l.map Ent.row),.agg e.row] (.tup [.int .i64 (Dd e l:Int),.bool (Ho e l)]):=by
 refine Bg T43 rfl ?_;simp only[go_sem];refine Bk (fun i=>l.length - i) (fun i:Nat=>[(0,SL z t (l.map Ent.row)),(3,.ptr 0 0 0),(6,.int .i64 i)]) (fun _=>[.row e.row 43 0 0]) (fun i=>i<=l.length/\Dd e l=i+Dd e (l.drop i)) ?_ 0 ⟨by omega,by simp⟩;rintro i ⟨hi,hp⟩ ih;refine Bd Bpd ?_;rcases Bh i l.length with h | h
 .obtain⟨x,hx,hd,hm⟩:=Br h;rw[hd,Dd]at hp;simp only[go_sem];refine Af AD ?_;simp only[go_sem,Az h,Ar,Au,hx];refine Bf (Als x e (ho x hm) he) AB ?_;simp only[go_sem];refine Lq (fun h3=>?_) (fun h3=>?_)
  .simp only[go_sem,A2 (Px h hl)];refine Av (ih (i+1) AA ⟨by omega,?_⟩) rfl
   grind
  .simp only[go_sem];rw[if_neg (by grind)]at hp;have qA:Dd e l=i:=by omega
   refine Af AD ?_;simp only[go_sem,Az h,Ar,Au,hx];refine Bf (Als x e (ho x hm) he) AB ?_;simp only[go_sem];rw[Ho,qA,hx];exact Gt rfl
 .simp only[go_sem];refine Af AD ?_;simp only[go_sem,Bl h,Ar];have qA:Dd e l=i:=by rw[hp,D1 h,Dd];rfl
  refine Af AD ?_;simp only[go_sem,Bl h,Ar];rw[Ho,qA,List.getElem?_eq_none h];exact Gt rfl
def Ent.own(e:Ent):Ent:={ e with z:=true,t:=0 }
def Bks{σ:St}{e lo:Nat}{u:V}{x:Ent}(h:GW σ 3 e lo u (x.sites.map A0)):FR (.agg (eR x u)) σ (.agg x.own.row):=
 Bjc (pre:=[.int .i64 x.kind]) (post:=[.int .i64 x.seen,.int .i64 x.missed]) h AA (H0 _) (Nu _) rfl rfl
def A57(e:Ent)(he:e.sites.length<=1000000):Fn TT PT 73 [.agg e.row] (.agg e.own.row):=by
 obtain⟨u1,s1,e1,g1,l1,-,f1⟩:=I1 (lo:=2) (σ:=[eO e e.sl,.row [.int .i64 0,.nils,.int .i64 0,.int .i64 0] 43 0 0]) (m:=3) (e:=45) (bytes:=40) (y:=e.sl) (ys:=e.sites.map A0) D3 AE (Aar ..) AA AE (H0 _) (by grind);have q0:=f1 0 AE;have q1:=f1 1 AE;rw[Ba]at g1;have hl:2<=s1.length:=l1
 match s1,q0,q1,hl with
 | a::b::J,q0,q1,_=>
 cases q0;cases q1;refine Bg T73 rfl ?_;simp only[go_sem,e1,N3 (Cg g1),Cg g1];exact Bks (σ:=eO e u1::eO e u1::J) (D4 (j:=1) (x:=eO e u1) (D4 (j:=0) (x:=eO e u1) g1 AA) AA)
def Bey(z:Bool)(t:Nat)(l:List Ent)(i:Nat)(e:Ent)(hi:i<=l.length)(hl:l.length<=1000000)(he:e.sites.length<=1000000):
  Fn TT PT 44 [SL z t (l.map Ent.row),.int .i64 (i:Int),.agg e.row] (SL true 0 ((l.take i++e.own::l.drop i).map Ent.row)):=by
 have hc:=A57 e he;obtain⟨za,ta,ha⟩:=Xd z t 4 (l.map Ent.row) .i64 i (by grind);obtain⟨zb,tb,hb⟩:=A5h z t 4 (l.map Ent.row) .i64 i (by grind) (Gn _);rw[<-W4]at ha;rw[<-Aiv]at hb;obtain⟨u1,s1,e1,g1,l1,-,f1⟩:=I1 (lo:=1) (σ:=[.row e.row 43 0 0]) (m:=4) (e:=43) (bytes:=48) (y:=SL za ta ((l.take i).map Ent.row)) D3 AE (Aar ..) AA AE (Gn _) (by grind);rw[Ba]at g1;have q1:=f1 0 AE;obtain⟨u2,s2,e2,g2,l2,-,f2⟩:=I1 (m:=4) (e:=43) (bytes:=48) (y:=.sl s1.length 0 0 1 4 true) (ys:=[e.own.row]) (Ix (l:=[.row e.own.row 43 0 0]) g1) (by grind) (by simp only[Eu,Rf]<;>rfl) AA (Gn _) (by simp[Ent.row]) (by grind);rw[Aq]at l2
 have qv:∀ r∈(l.take i).map Ent.row++[e.own.row],r.length=4:=by
  intro r hr;rcases Cu.1 hr with h | h
  .grind[Gn]
  .simp at h;rw[h];rfl
 obtain⟨u3,s3,e3,g3,l3,-,f3⟩:=I1 (m:=4) (e:=43) (bytes:=48) (y:=SL zb tb ((l.drop i).map Ent.row)) g2 (by grind) (Aar ..) AA qv (Gn _) (by grind);have hw:((l.take i).map Ent.row++[e.own.row])++(l.drop i).map Ent.row=(l.take i++e.own::l.drop i).map Ent.row:=by simp
 rw[hw]at g3;refine Bg T44 rfl ?_;simp only[Vo]at e1 e2 q1;simp only[go_sem,ha,e1,q1];refine Ab hc AB ?_;simp only[go_sem,e2,hb,e3];exact Tr g3 AA (Gn _) (O1 _)
def K7(e':Ent)(l:List Ent):List Ent:=if Ho e' l then l else l.take (Dd e' l)++e'::l.drop (Dd e' l)
def Ai9(e:Ent):∀ l,Dd e.own l=Dd e l
 | []=>rfl
 | x::r=>by simp only[Dd,Ai9 e r];rfl
def A39(e:Ent)(l:List Ent):Ho e.own l=Ho e l:=by
 unfold Ho;rw[Ai9];rfl
def A58(l:List Ent)(e:Ent)(hl:l.length<=1000000)(ho:Uu l)(he:e.sites.length<=1000000):
  Fn TT PT 19 [SL true 0 (l.map Ent.row),.agg e.row] (SL true 0 ((K7 e.own l).map Ent.row)):=by
 have hp:=At8 true 0 l e AA ho AA;unfold K7;rw[A39,Ai9];by_cases h:Ho e l=true
 .rw[if_pos h];refine Bg T19 rfl ?_;rw[h]at hp;simp only[go_sem];refine Ab hp AB ?_;simp only[go_sem];exact Fw (Abc ..)
 .have hq:=Bey true 0 l (Dd e l) e (Ajt e l) hl he;rw[if_neg h];refine Bg T19 rfl ?_;rw[Wz]at h;rw[h]at hp;simp only[go_sem];refine Ab hp AB ?_;simp only[go_sem];refine Ab hq AB ?_;simp only[go_sem];exact Fw (Abc ..)
structure Lin {α:Type} (c:α->α->Int):Prop where
 zero:∀ x y,c x y=0↔x=y
 flip:∀ x y,c x y<0↔0<c y x
 trans:∀ x y z,c x y<0->c y z<0->c x z<0
def Lin.tri{α:Type}{c:α->α->Int}(h:Lin c)(x y:α):c x y<0\/x=y\/c y x<0:=by
 rcases Int.lt_trichotomy (c x y) 0 with h1 | h1 | h1
 .omega
 .exact .inr (.inl ((h.zero x y).1 h1))
 .exact .inr (.inr ((h.flip y x).2 h1))
def Lin.asym{α:Type}{c:α->α->Int}(h:Lin c){x y:α}(h1:c x y<0):¬ c y x<0:=fun h2=>by
 have:=(h.flip x y).1 h1;omega
def Aha{x y:Int}:Lib.compareInt x y<0↔x<y:=by
 grind[Lib.compareInt]
def Bql{x y:Int}:0<Lib.compareInt x y↔y<x:=by
 grind[Lib.compareInt]
def Bez{x y:Int}:Lib.compareInt x y=0↔x=y:=by
 grind[Lib.compareInt]
theorem Alu:Lin Lib.compareInt where
 zero _ _:=Bez
 flip _ _:=Aha.trans Bql.symm
 trans _ _ _ h1 h2:=Aha.2 (Int.lt_trans (Aha.1 h1) (Aha.1 h2))
def H9{α:Type}(c:α->α->Int):List α->List α->Int
 | [],[]=>0
 | [],_::_ => -1
 | _::_,[]=>1
 | a::r,b::s=>if c a b≠0 then c a b else H9 c r s
theorem Akr{α:Type}{c:α->α->Int}(h:Lin c):Lin (H9 c) where
 zero:=by
  intro x
  induction x with
  | nil=>intro y;cases y<;>simp[H9]
  | cons a r ih=>
   intro y
   cases y with
   | nil=>simp[H9]
   | cons b s=>
    simp only[H9];by_cases hc:c a b=0
    .have:=(h.zero a b).1 hc
     grind
    .have:a≠b:=fun e=>hc ((h.zero a b).2 e)
     grind
 flip:=by
  intro x
  induction x with
  | nil=>intro y;cases y<;>simp[H9]
  | cons a r ih=>
   intro y
   cases y with
   | nil=>simp[H9]
   | cons b s=>
    simp only[H9];by_cases hc:c a b=0
    .have:=(h.zero a b).1 hc
     grind
    .have qJ:c b a≠0:=fun e=>hc ((h.zero a b).2 ((h.zero b a).1 e).symm)
     simp[hc,qJ,h.flip a b]
 trans:=by
  intro x
  induction x with
  | nil=>
   intro y z
   cases y with
   | nil=>omega
   | cons b s=>cases z<;>simp[H9]
  | cons a r ih=>
   intro y z
   cases y with
   | nil=>simp[H9]
   | cons b s=>
    cases z with
    | nil=>simp[H9]
    | cons d u=>
     simp only[H9];by_cases h1:c a b=0
     .have:=(h.zero a b).1 h1
      grind
     .by_cases h2:c b d=0
      .have:=(h.zero b d).1 h2
       grind
      .simp only[ne_eq,h1,h2,not_false_eq_true,if_true];intro g1 g2;have g3:=h.trans a b d g1 g2;omega
def Wg{α β:Type}[DecidableEq α](c:α->α->Int)(d:β->β->Int)(x y:α × β):Int:=if x.1≠y.1 then c x.1 y.1 else d x.2 y.2
theorem At9{α β:Type}[DecidableEq α]{c:α->α->Int}{d:β->β->Int}(h:Lin c)(g:Lin d):Lin (Wg c d) where
 zero x y:=by
  unfold Wg;obtain⟨a,b⟩:=x;obtain⟨a',b'⟩:=y;by_cases e:a=a'
  .subst e;simp[g.zero b b']
  .simp[e,h.zero a a']
 flip x y:=by
  unfold Wg;by_cases e:x.1=y.1
  .simp[e,g.flip x.2 y.2]
  .have e':¬ y.1=x.1:=fun q=>e q.symm
   simp[e,e',h.flip x.1 y.1]
 trans x y z:=by
  unfold Wg;by_cases e:x.1=y.1
  .by_cases e2:y.1=z.1
   .simp[e,e2];exact g.trans _ _ _
   grind
  .by_cases e2:y.1=z.1
   .grind
   .simp only[ne_eq,e,e2,not_false_eq_true,if_true];intro h1 h2;have h3:=h.trans _ _ _ h1 h2
    have:¬ x.1=z.1:=fun q=>by
     have:=(h.zero x.1 z.1).2 q;omega
    grind
def Wa(a b:UInt8):Int:=if a<b then -1 else if b<a then 1 else 0
theorem A9x:Lin Wa where
 zero x y:=by
  grind[Wa]
 flip x y:=by
  grind[Wa]
 trans x y z:=by
  grind[Wa]
def Ayz:∀ a b:List UInt8,Lib.compareBytes a b=H9 Wa a b
 | [],[]=>rfl
 | [],_::_=>rfl
 | _::_,[]=>rfl
 | a::r,b::s=>by
  simp only[Lib.compareBytes,H9,Wa];by_cases h1:a<b
  .simp[h1]
  .by_cases h2:b<a
   .grind
   .simp[h1,h2,Ayz r s]
theorem A59:Lin Lib.compareBytes:=by
 have:Lib.compareBytes=H9 Wa:=by funext a b;exact Ayz a b
 grind[Akr,A9x]
theorem Be0:Lin Nj:=by
 have:Nj=Wg Lib.compareBytes (Wg Lib.compareBytes Lib.compareInt):=by funext a b;rfl
 grind[At9,A59,Alu]
def Aua:∀ a b,Gx a b=H9 Nj a b
 | [],[]=>rfl
 | [],_::_=>rfl
 | _::_,[]=>rfl
 | a::r,b::s=>by simp only[Gx,H9,Aua r s]
def A9y:Lin Gx:=by
 have:Gx=H9 Nj:=by funext a b;exact Aua a b
 grind[Akr,Be0]
def Ent.ks(x:Ent):Int × List Ak:=(x.kind,x.sites)
def Im:Int × List Ak->Int × List Ak->Int:=Wg Lib.compareInt Gx
def lin_p:Lin Im:=At9 Alu A9y
theorem Bkt(x y:Ent):Cv x y=Im x.ks y.ks:=rfl
def Hw(l:List Ent):Prop:=l.Pairwise fun x y=>Cv x y<0
def Aja(e:Ent):∀ {l:List Ent},Hw l->(∀ x∈l.take (Dd e l),Cv x e<0)/\∀ x∈l.drop (Dd e l),¬ Cv x e<0
 | [],_=>by grind
 | x::r,h=>by
  simp only[Dd];have hr:=Aja e (M0.1 h).2
  split
  .grind
  .rename_i hx;simp only[Adg,L8,false_implies,implies_true,true_and,Jf,Bp];rintro y (rfl | hy)
   .exact hx
   .intro qh;have h1:=(M0.1 h).1 y hy;exact hx (lin_p.trans x.ks y.ks e.ks h1 qh)
def A4a{e:Ent}{l:List Ent}(h:Hw l):Ho e l=true↔∃ x∈l,x.ks=e.ks:=by
 have hs:=Aja e h;unfold Ho;constructor
 .intro ht
  cases hx:l[Dd e l]? with
  | none=>grind
  | some x=>
   rw[hx]at ht;have hz:Cv x e=0:=by simpa using ht
   exact⟨x,F7 hx,(lin_p.zero _ _).1 hz⟩
 .rintro⟨x,hx,he⟩;have hz:Cv x e=0:=(lin_p.zero _ _).2 he;have hm:x∈l.take (Dd e l)++l.drop (Dd e l):=by rw[Nn];exact hx
  rcases Cu.1 hm with hm | hm
  .grind
  .cases hd:l.drop (Dd e l) with
   | nil=>grind
   | cons y r=>
    have hy:l[Dd e l]?=some y:=by
     have:(l.drop (Dd e l))[0]?=some y:=by rw[hd];rfl
     rwa [Aih,Nt]at this
    rw[hy];rw[hd]at hm;rcases Bp.1 hm with rfl | hm
    .grind
    .-- y is ahead of x,and not ahead of e
     have qQ:(y::r).Pairwise fun x y=>Cv x y<0:=by rw[<-hd];exact h.drop
     grind[List.pairwise_cons,Bkt]
def Aub{e:Ent}{l:List Ent}(h:Hw l):Hw (K7 e l):=by
 unfold K7
 split
 .exact h
 .rename_i ht;have hs:=Aja e h;have hn:∀ x∈l,x.ks≠e.ks:=fun x hx he=>ht ((A4a h).2 ⟨x,hx,he⟩)
  unfold Hw at h ⊢;rw[Zd,M0];refine⟨h.take,⟨fun y hy=>?_,h.drop⟩,fun x hx y hy=>?_⟩
  .rcases lin_p.tri e.ks y.ks with h1 | h1 | h1
   .exact h1
   .grind
   .exact absurd h1 (hs.2 y hy)
  .rcases Bp.1 hy with rfl | hy
   .grind
   grind[List.take_append_drop]
def Auc{e x:Ent}{l:List Ent}(h:x∈K7 e l):x=e\/x∈l:=by
 grind[K7]
theorem Aud{e:Ent}{l:List Ent}:(K7 e l).length<=l.length+1:=by
 grind[K7]
/-! entries that are added one by one -/
/-! changes -/
/-! a further run -/
def Hq(n:Nat):Ak:=((if n % 3=0 then [109,97,105,110] else if n % 3=1 then [116,49] else [65,95,57]),(if n / 3 % 3=0 then [120,32,61,32,49,59] else if n / 3 % 3=1 then [120,32,61,32,40,97,32,43,32,49,41,59] else [108,111,99,107,32,109,32,123]),((n / 9 % 3:Nat):Int))
noncomputable def runOne (f:AF) (args:List V):Option V:=(Lp (Oj TT PT 60) f args []).bind fun p=>Ed p.2 p.1
def A9z:((List.range 256).all fun n=>match runOne af42 [.int .u8 n] with
  | some v=>v.eqv (.agg (A0 (Hq n)))
  | none=>false)=true:=by kernel_rfl
def Be1(n:Nat)(h:n<256):Fn TT PT 42 [.int .u8 n] (.agg (A0 (Hq n))):=by
 have:=Bu.1 A9z n (Eg.2 h)
 split at this
 .rename_i v hv;have e:=X4 this;subst e;exact Rh Sf T42 rfl rfl hv
 .cases this
structure Item where
 kind:Nat
 seen:Nat
 missed:Nat
 a:Nat
 b:Nat
 c:Nat
 d:Nat
def Item.ok(x:Item):Prop:=x.kind<256/\x.seen<256/\x.missed<256/\x.a<256/\x.b<256/\x.c<256/\x.d<256
def Item.row(x:Item):List V:=[.int .u8 x.kind,.int .u8 x.seen,.int .u8 x.missed,.int .u8 x.a,.int .u8 x.b,.int .u8 x.c,.int .u8 x.d]
def Item.nums(x:Item):List Nat:=[x.a,x.b,x.c,x.d]
def Si(k:Nat):Nat:=if k % 4=0 then 2 else if k % 4=1 then 2+k / 4 % 3 else if k % 4=2 then 2 else 4
def Item.ent(x:Item):Ent:=⟨1+(x.kind % 4:Nat),(x.nums.take (Si x.kind)).map Hq,1+(x.seen % 9:Nat),(x.missed % 8:Nat),true,0⟩
def AT{p:Prop}(h:p:=by simp only[Item.ent];omega):p:=h
theorem X7(k:Nat):2<=Si k/\Si k<=4:=by
 grind[Si]
def Ab2(a b:Nat):(a:Int).tmod (b:Int)=((a % b:Nat):Int):=(Int.ofNat_tmod a b).symm
def Bqm(a b:Nat):(a:Int).tdiv (b:Int)=((a / b:Nat):Int):=(Int.ofNat_tdiv a b).symm
def A6a(k:IntKind)(n d:Nat):Dy (some (.int k (n:Int))) d=some n:=by
 simp[Dy]
attribute [go_sem ↓] A6a
attribute [go_sem] Adl Ax Ze
def Nb{m j g off len i:Nat}{w:Bool}{k:IntKind}(h:i<len):Mr m (.sl j g off len m w) (.int k (i:Int))=some (.ptr j g (off+i*m)):=by
 simp_all [Mr]
@[go_sem] theorem Aks (x:Item):x.row=[.int .u8 x.kind,.int .u8 x.seen,.int .u8 x.missed,.int .u8 x.a,.int .u8 x.b,.int .u8 x.c,.int .u8 x.d]:=Bs rfl
theorem A6b{l:List Nat}{j m:Nat}(h:l[j]?=some m):((l.take (j+1)).map Hq).map A0=((l.take j).map Hq).map A0++[A0 (Hq m)]:=by
 grind[List.take_succ]
def F3(l:List Item)(i:Nat):List Ent:=(l.take i).foldl (fun s x=>K7 x.ent s) []
def Arv{l:List Item}{i:Nat}{x:Item}(h:l[i]?=some x):F3 l (i+1)=K7 x.ent (F3 l i):=by
 grind[F3,List.take_succ]
def Aae(l:List Item):∀ i,(F3 l i).length<=i/\Hw (F3 l i)/\∀ e∈F3 l i,∃ x∈l,e=x.ent
 | 0=>by simp[F3,Hw]
 | i+1=>by
  obtain⟨h1,h2,h3⟩:=Aae l i
  cases hx:l[i]? with
  | none=>
   grind[F3,List.take_succ]
  | some x=>
   rw[Arv hx];refine⟨by grind[Aud],Aub h2,fun e he=>?_⟩;rcases Auc he with rfl | he
   .grind
   grind
theorem Xe(x:Item):x.ent.sites.length=Si x.kind:=by
 grind[X7,Item.ent,Item.nums]
end Go.Proofs.YtphikjgngompaabGreatDoor.KM
/- Items, out of what a row reads (beside the numbers of both versions). -/
namespace Go.Proofs.YtphikjgngompaabGreatDoor
open Go.ChangeShapes Go.WideShapes Go.ChangeAt Go.RowKit KM
def A4b{P:Program}{t e:TypeId}{n:Nat}{qc:List V}(hu:P.underlying t=some (.array n e))(h:HasT P t qc):∃ parts:List (List V),qc=parts.flatten/\parts.length=n/\∀ i,i<n->HasT P e (parts.getD i []):=by
 cases h with
 | array parts hu' hl hT=>
  rw[hu]at hu';injection hu' with e;injection e with e1 e2;subst e1 e2;exact⟨parts,rfl,hl,hT⟩
 | _=>simp_all
def Be2{qc:List V}(h:HasT Tryz.prog 109 qc):∃ x:{ x:KM.Item // x.ok },qc=x.1.row:=by
 obtain⟨ps,rfl,hl,hT⟩:=Ap0 Tryz.underlying109 h;obtain⟨a,b,c,d,rfl⟩:=Amt hl;obtain⟨n1,l1,h1⟩:=R5 Tryz.underlying5 (hT 0 _ rfl);obtain⟨n2,l2,h2⟩:=R5 Tryz.underlying5 (hT 1 _ rfl);obtain⟨n3,l3,h3⟩:=R5 Tryz.underlying5 (hT 2 _ rfl);obtain⟨qs,h4,qL,qx⟩:=A4b Tryz.underlying107 (hT 3 _ rfl);obtain⟨a4,b4,c4,d4,rfl⟩:=Amt qL;obtain⟨m1,k1,g1⟩:=R5 Tryz.underlying5 (qx 0 AA);obtain⟨m2,k2,g2⟩:=R5 Tryz.underlying5 (qx 1 AA);obtain⟨m3,k3,g3⟩:=R5 Tryz.underlying5 (qx 2 AA);obtain⟨m4,k4,g4⟩:=R5 Tryz.underlying5 (qx 3 AA);simp at h1 h2 h3 h4 g1 g2 g3 g4;subst h1 h2 h3 g1 g2 g3 g4;subst h4;exact⟨⟨⟨n1,n2,n3,m1,m2,m3,m4⟩,l1,l2,l3,k1,k2,k3,k4⟩,rfl⟩
def A90{qc:List V}(h:HasT Tryz.prog 25 qc):∃ z u,∃ l:List KM.Item,qc=[SL z u (l.map KM.Item.row)]/\l.length<=9223372036854775807/\∀ x∈l,x.ok:=by
 obtain⟨z,u,l,rfl,hl⟩:=Aru (α:={ x:KM.Item // x.ok }) (f:=fun x=>x.1.row) Tryz.underlying25 h fun r hr=>Be2 hr
 refine⟨z,u,l.map (·.1),by rw[Q9];rfl,by simpa using hl,fun x hx=>?_⟩;obtain⟨y,-,rfl⟩:=Cs.1 hx;exact y.2
end Go.Proofs.YtphikjgngompaabGreatDoor
/- Plain: entries that are put into an ascending list one by one, and entries that are sorted and then joined. -/
namespace Go.Proofs.YtphikjgngompaabGreatDoor.KM
section
variable {κ:Type} [DecidableEq κ] {c:κ->κ->Int}
def Ii(x y:κ × Int × Int):κ × Int × Int:=(x.1,max x.2.1 y.2.1,min x.2.2 y.2.2)
def Ea(c:κ->κ->Int)(y:κ × Int × Int):List (κ × Int × Int)->List (κ × Int × Int)
 | []=>[y]
 | x::l=>if c x.1 y.1<0 then x::Ea c y l else if x.1=y.1 then Ii x y::l else y::x::l
def Aox(c:κ->κ->Int)(L:List (κ × Int × Int)):List (κ × Int × Int):=L.foldl (fun s y=>Ea c y s) []
def Ps(c:κ->κ->Int)(l:List (κ × Int × Int)):Prop:=l.Pairwise fun x y=>c x.1 y.1<0
theorem Akt{y:κ × Int × Int}:∀ {l:List (κ × Int × Int)} {x:κ × Int × Int},x∈Ea c y l->x.1=y.1\/∃ z∈l,z.1=x.1
 | [],x,h=>by
  grind[Ea]
 | a::l,x,h=>by
  rw[Ea]at h
  split at h
  .rcases Bp.1 h with rfl | h
   .grind
   .rcases Akt h with h | ⟨z,hz,e⟩
    .grind
    grind
  .split at h
   .rcases Bp.1 h with rfl | h
    .exact .inr ⟨a,B4,rfl⟩
    grind
   grind
theorem Aes(hc:Lin c){y:κ × Int × Int}:∀ {l:List (κ × Int × Int)},Ps c l->Ps c (Ea c y l)
 | [],_=>by rw[Ea];exact List.pairwise_singleton _ _
 | a::l,h=>by
  unfold Ps at h ⊢;obtain⟨h1,h2⟩:=M0.1 h;rw[Ea]
  split
  .rename_i qI;refine M0.2 ⟨fun x hx=>?_,Aes hc h2⟩
   grind[Akt]
  .rename_i qI
   split
   .exact M0.2 ⟨fun x hx=>h1 x hx,h2⟩
   .rename_i qO
    have qG:c y.1 a.1<0:=by
     rcases hc.tri a.1 y.1 with h | h | h
     .omega
     .grind
     .exact h
    refine M0.2 ⟨fun x hx=>?_,h⟩;rcases Bp.1 hx with rfl | hx
    .exact qG
    .exact hc.trans _ _ _ qG (h1 x hx)
def A4c(x y z:κ × Int × Int):Ii (Ii x y) z=Ii (Ii x z) y:=by
 unfold Ii
 grind
def Aqn{x y:κ × Int × Int}(h:x.1=y.1):Ii x y=Ii y x:=by
 grind[Ii]
theorem Arw(hc:Lin c)(y z:κ × Int × Int):∀ (l:List (κ × Int × Int)),Ps c l->Ea c y (Ea c z l)=Ea c z (Ea c y l)
 | [],_=>by
  simp only[Ea];rcases hc.tri y.1 z.1 with h | h | h
  .have h1:=hc.asym h
   grind
  .have h0:¬ c z.1 y.1<0:=by rw[h];exact fun e=>by have:=hc.asym e;omega
   simp_all [if_neg,Aqn]
  .have h1:=hc.asym h
   grind
 | a::l,ha=>by
  have qH:∀ k:κ,¬ c k k<0:=fun k e=>hc.asym e e
  obtain⟨h1,h2⟩:=M0.1 ha;have ih:=Arw hc y z l h2;by_cases ay:c a.1 y.1<0
  .by_cases az:c a.1 z.1<0
   .simp_all [Ea]
   .by_cases ez:a.1=z.1
    .simp_all [Ii,Ea,if_neg]
    .have za:c z.1 a.1<0:=by
      rcases hc.tri a.1 z.1 with h | h | h
      .omega
      .grind
      .exact h
     have zy:=hc.trans _ _ _ za ay
     simp_all [Ea,if_neg]
  .by_cases ey:a.1=y.1
   .by_cases az:c a.1 z.1<0
    .simp_all [Ii,Ea,if_neg]
    .by_cases ez:a.1=z.1
     .have n1:¬ c (Ii a z).1 y.1<0:=ay;have n2:¬ c (Ii a y).1 z.1<0:=az;have n3:(Ii a z).1=y.1:=ey;have n4:(Ii a y).1=z.1:=ez
      simp_all [Ea,if_neg,A4c]
     .have za:c z.1 a.1<0:=by
       rcases hc.tri a.1 z.1 with h | h | h
       .omega
       .grind
       .exact h
      simp_all [Ii,Ea,if_neg]
   .have ya:c y.1 a.1<0:=by
     rcases hc.tri a.1 y.1 with h | h | h
     .omega
     .grind
     .exact h
    by_cases az:c a.1 z.1<0
    .have yz:=hc.trans _ _ _ ya az
     simp_all [Ea,if_neg]
    .by_cases ez:a.1=z.1
     .simp_all [Ii,Ea,if_neg]
     .have za:c z.1 a.1<0:=by
       rcases hc.tri a.1 z.1 with h | h | h
       .omega
       .grind
       .exact h
      rcases hc.tri y.1 z.1 with h | h | h
      .have g1:=hc.asym h;have g2:¬ z.1=y.1:=fun e=>qH _ (by rw[e]at h;exact h)
       simp_all [Ea,if_neg]
      .simp_all [Ea,if_neg,Aqn]
      .have g1:=hc.asym h;have g2:¬ y.1=z.1:=fun e=>qH _ (by rw[e]at h;exact h)
       simp_all [Ea,if_neg]
def Arx(hc:Lin c):∀ (L s:List (κ × Int × Int)),Ps c s->Ps c (L.foldl (fun s y=>Ea c y s) s)
 | [],_,h=>h
 | y::L,s,h=>Arx hc L _ (Aes hc h)
def A6c(hc:Lin c){L L':List (κ × Int × Int)}(h:L.Perm L'):∀ s,Ps c s->L.foldl (fun s y=>Ea c y s) s=L'.foldl (fun s y=>Ea c y s) s:=by
 induction h with
 | nil=>grind
 | cons x _ ih=>grind[Aes]
 | swap x y l=>grind[Arw]
 | trans _ _ ih1 ih2=>grind
def Ua(c:κ->κ->Int)(out:List (κ × Int × Int))(e:κ × Int × Int):List (κ × Int × Int):=match out.getLast? with
 | some x=>if c x.1 e.1<0 then out++[e] else out.dropLast++[Ii x e]
 | none=>[e]
def Aue(hc:Lin c){e:κ × Int × Int}:∀ {out:List (κ × Int × Int)},Ps c out->(∀ x∈out,¬ c e.1 x.1<0)->Ua c out e=Ea c e out
 | [],_,_=>rfl
 | [x],_,h=>by
  unfold Ua;simp only[List.getLast?_singleton,Ea];by_cases h1:c x.1 e.1<0
  .grind
  .have h2:x.1=e.1:=by
    rcases hc.tri x.1 e.1 with h3 | h3 | h3
    .omega
    .exact h3
    .grind
   grind
 | x::y::l,ha,h=>by
  obtain⟨h1,h2⟩:=M0.1 ha;have ih:=Aue hc (e:=e) h2 fun z hz=>h z (Cb _ hz)
  have hx:c x.1 e.1<0:=by
   rcases hc.tri y.1 e.1 with h3 | h3 | h3
   .exact hc.trans _ _ _ (h1 y AE) h3
   .grind
   .grind
  rw[Ea,if_pos hx,<-ih];unfold Ua
  grind
def Aw2(hc:Lin c):∀ (S out:List (κ × Int × Int)),Ps c out->(∀ x∈out,∀ y∈S,¬ c y.1 x.1<0)->(S.Pairwise fun x y=>¬ c y.1 x.1<0)->S.foldl (Ua c) out=S.foldl (fun s y=>Ea c y s) out
 | [],_,_,_,_=>rfl
 | e::S,out,ha,h,hs=>by
  obtain⟨h1,h2⟩:=M0.1 hs;rw[So,So,Aue hc ha fun x hx=>h x hx e B4];refine Aw2 hc S _ (Aes hc ha) (fun x hx y hy=>?_) h2
  grind[Akt]
def Bsa(hc:Lin c){L S:List (κ × Int × Int)}(hp:L.Perm S)(hs:S.Pairwise fun x y=>¬ c y.1 x.1<0):S.foldl (Ua c) []=Aox c L:=by
 unfold Aox;rw[Aw2 hc S [] List.Pairwise.nil (fun x hx=>by cases hx) hs,A6c hc hp [] List.Pairwise.nil]
end
section
variable {α κ:Type} {c:κ->κ->Int} {k:α->κ}
def Nl(c:κ->κ->Int)(k:α->κ)(l:List α):Prop:=l.Pairwise fun x y=>¬ c (k y) (k x)<0
def Bqn(hc:Lin c){x y z:κ}(h1:¬ c y x<0)(h2:¬ c z y<0):¬ c z x<0:=fun h=>by
 rcases hc.tri y z with h3 | h3 | h3
 .exact h1 (hc.trans _ _ _ h3 h)
 .rw[<-h3]at h;exact h1 h
 .exact h2 h3
structure InsI (c:κ->κ->Int) (k:α->κ) (P:List α) (x:α) (Q:List α):Prop where
 srt:Nl c k (P++Q)
 low:∀ q∈Q,c (k x) (k q)<0
def Be3{P:List α}{x:α}(h:Nl c k P):InsI c k P x []:=⟨by rw[Cc];exact h,fun q hq=>by cases hq⟩
def A91{P Q:List α}{p x:α}(h:InsI c k (P++[p]) x Q)(hx:c (k x) (k p)<0):InsI c k P x (p::Q):=by
 refine⟨?_,fun q hq=>?_⟩
 .have:=h.srt;rw[Bt]at this;exact this
 .rcases Bp.1 hq with rfl | hq
  .exact hx
  .exact h.low q hq
def A6d(hc:Lin c){Q:List α}{x:α}(h:InsI c k [] x Q):Nl c k (x::Q):=
 M0.2 ⟨fun q hq=>hc.asym (h.low q hq),h.srt⟩
def A92(hc:Lin c){P Q:List α}{p x:α}(h:InsI c k (P++[p]) x Q)(hx:¬ c (k x) (k p)<0):Nl c k (P++[p]++x::Q):=by
 have h1:=h.srt;unfold Nl at h1 ⊢;rw[Zd]at h1 ⊢;obtain⟨a,b,d⟩:=h1;refine⟨a,M0.2 ⟨fun q hq=>hc.asym (h.low q hq),b⟩,fun y hy z hz=>?_⟩;rcases Bp.1 hz with rfl | hz
 .rcases Cu.1 hy with hy | hy
  .rw[Zd]at a;exact Bqn hc (a.2.2 y hy p AE) hx
  .rw[Gm.1 hy];exact hx
 .exact d y hy z hz
def A6e(P R:List α)(p x:α):(P++p::x::R).Perm (P++x::p::R):=List.Perm.append_left P (List.Perm.swap x p R)
/-! rotations -/
def E7(l:List Int)(i:Nat):List Int:=l.drop i++l.take i
def N5(lt:List Int->List Int->Bool)(l:List Int):List Nat->List Int->List Int
 | [],best=>best
 | i::is,best=>N5 lt l is (if lt (E7 l i) best then E7 l i else best)
def A6f(l:List Int):E7 l 0=l:=by simp[E7]
theorem Aaf(l:List Int)(i:Nat):(E7 l i).length=l.length:=by
 unfold E7;rw[Aq,Gz,Iq];omega
def A93{l:List Int}{i:Nat}{x:Int}(h:x∈E7 l i):x∈l:=by
 unfold E7 at h;rcases Cu.1 h with h | h
 .exact Ws h
 .exact Np h
def Ajb{lt:List Int->List Int->Bool}{P:List Int->Prop}{l:List Int}(hr:∀ i,P (E7 l i)):∀ (is:List Nat) (b:List Int),P b->P (N5 lt l is b)
 | [],_,h=>h
 | i::is,b,h=>by
  rw[N5];refine Ajb hr is _ ?_
  split
  .exact hr i
  .exact h
end
attribute [go_sem] Adl Ax Ze
/-! interleaveref01 -/
noncomputable def runOneG (f:AF) (args:List V):Option V:=(Lp (Oj TT PT 60) f args []).bind fun p=>Ed p.2 p.1
def A3a:((List.range 256).all fun n=>match runOneG af145 [.int .u8 n] with
  | some v=>v.eqv (.bool (K6 n))
  | none=>false)=true:=by kernel_rfl
def A4d(n:Nat)(h:n<256):Fn TT PT 145 [.int .u8 n] (.bool (K6 n)):=by
 have:=Bu.1 A3a n (Eg.2 h)
 split at this
 .rename_i v hv;have e:=X4 this;subst e;exact Rh Sf T145 rfl rfl hv
 .cases this
def A4e:((List.range 256).all fun n=>match runOneG af147 [.int .u8 n] with
  | some v=>v.eqv (.bool (Lw n))
  | none=>false)=true:=by kernel_rfl
def A94(n:Nat)(h:n<256):Fn TT PT 147 [.int .u8 n] (.bool (Lw n)):=by
 have:=Bu.1 A4e n (Eg.2 h)
 split at this
 .rename_i v hv;have e:=X4 this;subst e;exact Rh Sf T147 rfl rfl hv
 .cases this
def kwRows:List (List V):=kwL.map fun k=>[V.str k]
def A3b:Fn TT PT 178 [] (.lst 1 kwRows):=by
 have:(match runOneG af178 [] with
  | some v=>v.eqv (.lst 1 kwRows)
  | none=>false)=true:=by kernel_rfl
 split at this
 .rename_i v hv;have e:=X4 this;subst e;exact Rh Sf T178 rfl rfl hv
 .cases this
def Ay0(l:List UInt8):Fn TT PT 146 [.str l] (.bool (Gk l)):=by
 have qp:kwRows.length=22:=rfl
 have qu:∀ i,i<22->kwRows[i]?=some [.str (kwL.getD i [])]:=fun i hi=>by
  grind[kwRows]
 have hk:=A3b;generalize kwRows=g at qp qu hk;refine Bg T146 rfl ?_;simp only[go_sem];refine Ab hk rfl ?_;simp only[go_sem];refine Bk (fun i=>22 - i) (fun i:Nat=>[(0,.str l),(3,.lst 1 g),(4,.int .i64 i)]) (fun _=>[]) (fun i=>i<=22/\∀ j,j<i->(l==kwL.getD j [])=false) ?_ 0 ⟨by omega,fun j hj=>by omega⟩;rintro i ⟨hi,qF⟩ ih;refine Bd Bj4 ?_;rcases Bh i 22 with h | h
 .have qh:decide ((i:Int)<22)=true:=by simp;omega
  simp only[go_sem,qp,qh,qu i h];refine Lq (fun h3=>?_) (fun h3=>?_)
  .simp only[go_sem];refine Ah rfl ?_;unfold Gk;rw[Ns.2 ⟨kwL.getD i [],?_,?_⟩]
   .have hl:i<kwL.length:=h
    grind
   grind
  .simp only[go_sem,A2 (show i<9223372036854775807 by omega)];refine Av (ih (i+1) AA ⟨by omega,fun j hj=>?_⟩) rfl
   grind
 .have qh:decide ((i:Int)<22)=false:=by simp;omega
  simp only[go_sem,qp,qh];refine Ah rfl ?_
  symm
  congr 1;unfold Gk;rw[<-Wz];intro ha;obtain⟨k,hk,he⟩:=Ns.1 ha;obtain⟨j,hj,rfl⟩:=Ou hk;have qN:j<22:=hj
  grind
theorem Aku{l:List UInt8}(h0:0<l.length):((K6 (l.getD 0 0).toNat=true)/\∀ j,j<l.length->Lw (l.getD j 0).toNat=true)↔∀ j,j<l.length->Jd l j=true:=by
 have qR:∀ n,Lw n=true↔K6 n=true\/(n=95\/Ms n=true):=fun n=>by
  unfold Lw
  grind
 have nm:∀ j,Jd l j=true↔K6 (l.getD j 0).toNat=true\/(0<j/\((l.getD j 0).toNat=95\/Ms (l.getD j 0).toNat=true)):=fun j=>by
  simp[Jd]
 grind
def Vf(l:List UInt8):Fn TT PT 112 [.str l] (.bool (Bm l)):=by
 refine Bg T112 rfl ?_;cases h0:decide ((l.length:Int)<1);rotate_left
 .simp only[go_sem,h0];exact Ah rfl (by grind[Awd])
 have qy:0<l.length:=by simp at h0;omega
 cases h1:decide ((12:Int)<(l.length:Int));rotate_left
 .simp only[go_sem,h0,h1];exact Ah rfl (by grind[Awe])
 have hg:l[0]?=some (l.getD 0 0):=by rw[Ef,B9 qy];rfl
 have qf:=A4d (l.getD 0 0).toNat (l.getD 0 0).toNat_lt
 cases h2:K6 (l.getD 0 0).toNat
 .rw[h2]at qf;simp only[go_sem,h0,h1,hg];refine Ab qf rfl ?_;simp only[go_sem];refine Ah rfl ?_;rw[show Bm l=false from ?_];have:=mt (Aku qy).2 (by grind)
  simp_all [Bm]
 rw[h2]at qf;cases h3:Gk l;rotate_left
 .have hk:=Ay0 l;rw[h3]at hk;simp only[go_sem,h0,h1,hg];refine Ab qf rfl ?_;simp only[go_sem];refine Ab hk rfl ?_;simp only[go_sem];exact Ah rfl (by rw[Awf h3])
 have hk:=Ay0 l;rw[h3]at hk;simp only[go_sem,h0,h1,hg];refine Ab qf rfl ?_;simp only[go_sem];refine Ab hk rfl ?_;simp only[go_sem];refine Bk (fun i=>l.length - i) (fun i:Nat=>[(0,.str l),(3,.int .i64 i)]) (fun _=>[]) (fun i=>i<=l.length/\∀ j,j<i->Lw (l.getD j 0).toNat=true) ?_ 0 ⟨by omega,fun j hj=>by omega⟩;rintro i ⟨hi,qF⟩ ih;refine Bd Bjz ?_;have qM:l.length<=12:=by simp at h1;omega
 rcases Bh i l.length with h | h
 .have qD:l[i]?=some (l.getD i 0):=by rw[Ef,B9 h];rfl
  have qe:=A94 (l.getD i 0).toNat (l.getD i 0).toNat_lt
  cases h4:Lw (l.getD i 0).toNat
  .rw[h4]at qe;simp only[go_sem,Az h,qD];refine Ab qe rfl ?_;simp only[go_sem];refine Ah rfl ?_;rw[show Bm l=false from ?_];rw[<-Wz];intro hn;unfold Bm at hn;simp only[Ai,Bu,Eg]at hn
   grind[Aku]
  .rw[h4]at qe;simp only[go_sem,Az h,qD];refine Ab qe rfl ?_;simp only[go_sem,A2 (show i<9223372036854775807 by omega)];refine Av (ih (i+1) AA ⟨by omega,fun j hj=>?_⟩) rfl
   grind
 .simp only[go_sem,Bl h];refine Ah rfl ?_;rw[Aml AA qM h3 ((Aku qy).1 ⟨h2,fun j hj=>qF j AA⟩)]
