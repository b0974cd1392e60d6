/- What every closing of this seat's laws needs: the tables, plain data out of what a row reads, the world of the witness. -/
import Derived.Test.YtcoeikinocflnaaGreatDoorPa
import Derived.Test.YtcoeikinocflnaaGreatDoorNa
import Derived.Test.YtcoeikinocflnaaGreatDoorA5
set_option linter.all false
namespace Go.Proofs.YtcoeikinocflnaaGreatDoor
open Go.ChangeShapes Go.WideShapes Go.ChangeAt Go.RowKit KM
theorem Ad3:ownKnob Tryz.prog.godebug=none:=by kernel_rfl
theorem Ap6{P:Program}{t:TypeId}{k:IntKind}{pcs:List V}(hu:P.underlying t=some (.int k))(h:HasT P t pcs):∃ n,pcs=[.int k n]/\(Lit.int k n).wf=true:=by
 cases h with
 | int hu' hw=>
  rw[hu]at hu'
  injection hu' with e
  injection e with e
  subst e
  exact⟨_,rfl,hw⟩
 | _=>simp_all
theorem Amp{P:Program}{t e:TypeId}{pcs:List V}(hu:P.underlying t=some (.slice e))(h:HasT P t pcs):pcs=[.nils]\/∃ xs,pcs=[.lst 0 xs]/\xs.length<=maxLen/\∀ i,i<xs.length->HasT P e (xs.getD i []):=by
 cases h with
 | nils _=>exact .inl rfl
 | lst hu' hl hT=>
  rw[hu]at hu'
  injection hu' with e
  injection e with e
  subst e
  exact .inr ⟨_,rfl,hl,hT⟩
 | _=>simp_all
theorem Ag2{α:Type}{f:α->List V}:∀ {xs:List (List V)},(∀ i,i<xs.length->∃ a,xs.getD i []=f a)->∃ l:List α,xs=l.map f
 | [],_=>⟨[],rfl⟩
 | x::xs,h=>by
  obtain⟨a,ha⟩:=h 0 (by simp)
  obtain⟨l,hl⟩:=Ag2 (xs:=xs) fun i hi=>h (i+1) (by simpa using hi)
  exact⟨a::l,by rw[hl];simp at ha;simp[ha]⟩
theorem Anv{P:Program}{t e:TypeId}{α:Type}{f:α->List V}{pcs:List V}(hu:P.underlying t=some (.slice e))(h:HasT P t pcs)(hf:∀ r,HasT P e r->∃ a,r=f a):∃ z u,∃ l:List α,pcs=[SL z u (l.map f)]/\l.length<=9223372036854775807:=by
 rcases Amp hu h with rfl | ⟨xs,rfl,hl,hT⟩
 ·exact⟨true,0,[],rfl,by simp⟩
 ·obtain⟨l,rfl⟩:=Ag2 (f:=f) fun i hi=>hf _ (hT i hi)
  exact⟨false,0,l,by simp[SL],by simpa[maxLen] using hl⟩
theorem Atl:Tryz.prog.globalNamed "interleave/format.operators"=some 9:=by kernel_rfl
theorem Axr:Tryz.prog.globalNamed "interleave/token.keywords"=some 1:=by kernel_rfl
theorem Atm:Tryz.prog.globalNamed "internal/strconv.uint64pow10"=some 2:=by kernel_rfl
theorem Aim{w:World}{laid:List (String × DataW Unit)}(h:laidMet Tryz.prog laid w)(hs:w.ShapedOpen Tryz.prog)(h1:("interleave/format.operators",Rows.laid_interleave_format_operators)∈laid) (h2:("internal/strconv.uint64pow10",Rows.laid_internal_strconv_uint64pow10)∈laid)
  (h3:("interleave/token.keywords",Rows.laid_interleave_token_keywords)∈laid) (h4:("strconv.ErrSyntax",Rows.laid_strconv_ErrSyntax)∈laid) (h5:("strconv.ErrRange",Rows.laid_strconv_ErrRange)∈laid):∃ m,Add (GT m) w:=by
 obtain⟨m,hm⟩:=Atk (g:=0) (zero:=#[.int .i64 0]) (t:=3) hs (of_decide_eq_true (by kernel_rfl)) (by kernel_rfl) rfl (by kernel_rfl) (by kernel_rfl) Tryz.underlying3
 refine⟨m,fun g r hg=>?_⟩
 simp only[GT,Br,Mk,or_false,Prod.mk.injEq]at hg
 rcases hg with⟨rfl,rfl⟩ | ⟨rfl,rfl⟩ | ⟨rfl,rfl⟩ | ⟨rfl,rfl⟩ | ⟨rfl,rfl⟩ | ⟨rfl,rfl⟩<;>first
  | exact hm
  | exact Ail h h4 Aij (by kernel_rfl) Tryz.underlying231
  | exact Ail h h5 Aik (by kernel_rfl) Tryz.underlying231
  | exact Aa4 (ts:=[3,9,301,315]) (t:=315) h h1 Atl (by kernel_rfl) (by kernel_rfl) (by decide) (by kernel_rfl) (by kernel_rfl)
  | exact Aa4 (ts:=[9,244]) (t:=244) h h3 Axr (by kernel_rfl) (by kernel_rfl) (by decide) (by kernel_rfl) (by kernel_rfl)
  | exact Aa4 (ts:=[206,260]) (t:=260) h h2 Atm (by kernel_rfl) (by kernel_rfl) (by decide) (by kernel_rfl) (by kernel_rfl)
end Go.Proofs.YtcoeikinocflnaaGreatDoor
/- The world of the witness: the settled one, the listed variables holding what their initialisers lay. -/
namespace Go.Proofs.YtcoeikinocflnaaGreatDoor
open Go.ChangeShapes Go.WideShapes Go.ChangeAt Go.RowKit KM
theorem Akq{a b:Bool}(h1:a=true)(h2:b=true):(a&&b)=true:=by rw[h1,h2];rfl
def setRow(d:DataW Unit):Obj->Obj
 | .cells _ t frozen=>.cells (flatV d).toArray t frozen
 | o=>o
def Ajx(b:Nat):Obj->Obj
 | .cells _ t frozen=>.cells #[.iface 316 (.pointer (some ⟨b,0,none⟩))] t frozen
 | o=>o
def Ain:DataW Unit->Array UInt8
 | .iface _ (.ptr (.agg [.lit (.string l)]))=>l.toArray
 | _=>#[]
noncomputable def holds0 (os:Os):Array Obj:=(World.holding Tryz.prog os ⟨#[],#[],[]⟩).heap
noncomputable def laidWorld (os:Os):World:=
 { World.holding Tryz.prog os ⟨#[],#[],[]⟩ with heap:=((((((((((holds0 os).modify 9 (setRow Rows.laid_interleave_format_operators)).modify 2 (setRow Rows.laid_internal_strconv_uint64pow10)).modify 3 (setRow Rows.laid_math_bits_deBruijn32tab)).modify 4 (setRow Rows.laid_math_bits_deBruijn64tab)).modify 6 (setRow Rows.laid_unicode_utf8_acceptRanges)).modify 1 (setRow Rows.laid_interleave_token_keywords)).modify 5 (setRow Rows.laid_unicode_utf8_first)).modify 8 (Ajx (holds0 os).size)).modify 7 (Ajx ((holds0 os).size+1))).push (.cells #[.string ⟨Ain Rows.laid_strconv_ErrRange⟩] 318 (0,0)) |>.push (.cells #[.string ⟨Ain Rows.laid_strconv_ErrSyntax⟩] 318 (0,0)) }
end Go.Proofs.YtcoeikinocflnaaGreatDoor
/- What a row reads: bytes. -/
namespace Go.Proofs.YtcoeikinocflnaaGreatDoor
open Go.ChangeShapes Go.WideShapes Go.ChangeAt Go.RowKit KM
theorem A1b{P:Program}{t:TypeId}{pcs:List V}(hu:P.underlying t=some (.int .u8))(h:HasT P t pcs):∃ n:Nat,n<256/\pcs=[.int .u8 (n:Int)]:=by
 obtain⟨n,rfl,hw⟩:=Ap6 hu h
 simp only[Lit.wf,Ae,decide_eq_true_eq]at hw
 have h1:(0:Int)<=n:=hw.1
 have h2:n<=255:=hw.2
 refine⟨n.toNat,by omega,?_⟩
 rw[Int.toNat_of_nonneg h1]
theorem Xm{pcs:List V}(h:HasT Tryz.prog 22 pcs):∃ z u,∃ l:List UInt8,pcs=[SL z u (A4 l)]/\l.length<=9223372036854775807:=by
 obtain⟨z,u,l,rfl,hl⟩:=Anv (f:=fun c:UInt8=>[V.int .u8 (c.toNat:Int)]) Tryz.underlying22 h fun r hr=>by
  obtain⟨n,hn,rfl⟩:=A1b Tryz.underlying5 hr
  exact⟨UInt8.ofNat n,by simp[P2 hn]⟩
 exact⟨z,u,l,rfl,hl⟩
end Go.Proofs.YtcoeikinocflnaaGreatDoor
/- Plain: programs as trees, their rows and texts. -/
namespace Go.Proofs.YtcoeikinocflnaaGreatDoor.KM
open Go
/-! expressions -/
structure Xp where
 op:Int
 n:Int
 nm:List UInt8
 z:Bool
 t:Nat
 l:List Xp
mutual
def Xp.row:Xp->List V
 | ⟨op,n,nm,z,t,l⟩=>[.int .i64 op,.int .i64 n,.str nm,SL z t (Xp.rows l)]
def Xp.rows:List Xp->List (List V)
 | []=>[]
 | x::l=>x.row::Xp.rows l
end
theorem Afq:∀ l:List Xp,Xp.rows l=l.map Xp.row
 | []=>rfl
 | x::l=>by rw[Xp.rows,Afq l];rfl
theorem A9(x:Xp):x.row=[.int .i64 x.op,.int .i64 x.n,.str x.nm,SL x.z x.t (x.l.map Xp.row)]:=by
 rw[<-Afq]
 cases x
 rfl
def Xp.zero:Xp:=⟨0,0,[],true,0,[]⟩
def Bp(op:Int):List UInt8:=
 match op with
 | 4=>[45] | 5=>[33] | 6=>[43] | 7=>[45] | 8=>[42] | 9=>[47] | 10=>[37] | 11=>[61,61] | 12=>[33,61] | 13=>[60] | 14=>[60,61] | 15=>[62] | 16=>[62,61] | 17=>[38,38] | 18=>[124,124] | _=>[]
def Ap(op:Int):Int:=
 match op with
 | 4=>6 | 5=>6 | 6=>4 | 7=>4 | 8=>5 | 9=>5 | 10=>5 | 11=>3 | 12=>3 | 13=>3 | 14=>3 | 15=>3 | 16=>3 | 17=>2 | 18=>1 | _=>7
def arE(op:Int):Int:=if op=1\/op=2 then 0 else if 3<=op/\op<=5 then 1 else if 6<=op/\op<=18 then 2 else -1
def Dt(o:Int × List UInt8)(level:Int):List UInt8:=if Ap o.1<level then 40::(o.2++[41]) else o.2
def Fb(op:Int):Int:=if Ap op=3 then 4 else Ap op
def D6(op n:Int)(nm:List UInt8)(ts:List (Int × List UInt8)):List UInt8:=
 if op=1 then Cz n else if op=2 then nm else
 match ts with
 | [a]=>if op=3 then nm++91::(a.2++[93]) else Bp op++Dt a 6
 | [a,b]=>Dt a (Fb op)++32::(Bp op++32::Dt b (Ap op+1))
 | _=>[]
mutual
def Xp.txt:Xp->List UInt8
 | ⟨op,n,nm,_,_,l⟩=>D6 op n nm (Xp.txts l)
def Xp.txts:List Xp->List (Int × List UInt8)
 | []=>[]
 | x::l=>(x.op,x.txt)::Xp.txts l
end
theorem Afr:∀ l:List Xp,Xp.txts l=l.map fun x=>(x.op,x.txt)
 | []=>rfl
 | x::l=>by rw[Xp.txts,Afr l];rfl
theorem Fw(x:Xp):x.txt=D6 x.op x.n x.nm (x.l.map fun x=>(x.op,x.txt)):=by
 rw[<-Afr]
 cases x
 rfl
inductive Cn:Xp->Prop
 | num {n:Int} {nm:List UInt8} {z:Bool} {t:Nat} : -9223372036854775808<=n/\n<=9223372036854775807->Cn ⟨1,n,nm,z,t,[]⟩
 | name {n:Int} {nm:List UInt8} {z:Bool} {t:Nat}:Cn ⟨2,n,nm,z,t,[]⟩
 | idx {n:Int} {nm:List UInt8} {z:Bool} {t:Nat} {a:Xp}:Cn a->Cn ⟨3,n,nm,z,t,[a]⟩
 | un {op n:Int} {nm:List UInt8} {z:Bool} {t:Nat} {a:Xp}:op=4\/op=5->Cn a->Cn ⟨op,n,nm,z,t,[a]⟩
 | bin {op n:Int} {nm:List UInt8} {z:Bool} {t:Nat} {a b:Xp}:6<=op/\op<=18->Cn a->Cn b->Cn ⟨op,n,nm,z,t,[a,b]⟩
/-! statements -/
structure Sp where
 op:Int
 line:Int
 nm:List UInt8
 arg:List UInt8
 iz:Bool
 it:Nat
 idx:List Xp
 ex:Xp
 bz:Bool
 bt:Nat
 body:List Sp
 ez:Bool
 et:Nat
 els:List Sp
mutual
def Sp.row:Sp->List V
 | ⟨op,line,nm,arg,iz,it,idx,ex,bz,bt,body,ez,et,els⟩=>[.int .i64 op,.int .i64 line,.str nm,.str arg,SL iz it (idx.map Xp.row)]++ex.row++[SL bz bt (Sp.rows body),SL ez et (Sp.rows els)]
def Sp.rows:List Sp->List (List V)
 | []=>[]
 | x::l=>x.row::Sp.rows l
end
theorem Z2:∀ l:List Sp,Sp.rows l=l.map Sp.row
 | []=>rfl
 | x::l=>by rw[Sp.rows,Z2 l];rfl
theorem Qv(s:Sp):s.row=[.int .i64 s.op,.int .i64 s.line,.str s.nm,.str s.arg,SL s.iz s.it (s.idx.map Xp.row)]++s.ex.row++[SL s.bz s.bt (s.body.map Sp.row),SL s.ez s.et (s.els.map Sp.row)]:=by
 rw[<-Z2,<-Z2]
 cases s
 rfl
def Bt(op:Int):List UInt8:=
 match op with
 | 2=>[105,102] | 3=>[119,104,105,108,101] | 4=>[108,111,99,107] | 5=>[114,101,97,100] | 6=>[119,114,105,116,101] | 7=>[116,114,97,110,115,97,99,116,105,111,110] | 8=>[97,116,111,109,105,99] | 9=>[119,97,105,116] | 10=>[110,111,116,105,102,121] | 11=>[110,111,116,105,102,121,97,108,108] | 12=>[115,112,97,119,110] | 13=>[106,111,105,110] | 14=>[115,101,116] | 15=>[103,101,116] | _=>[]
def El(l:List Xp):List UInt8:=match l with
 | a::_=>91::(a.txt++[93])
 | []=>[]
def Bv(s:Sp):List UInt8:=
 if s.op=1 then s.nm++(El s.idx++32::61::32::s.ex.txt)
 else if s.op=2\/s.op=3 then Bt s.op++32::s.ex.txt
 else if s.op=7\/s.op=8 then Bt s.op
 else if s.op=14 then Bt s.op++32::(s.nm++32::s.ex.txt)
 else if s.op=15 then Bt s.op++32::(s.nm++32::s.arg)
 else Bt s.op++32::s.nm
def Di(d:Nat):List UInt8:=List.replicate (2*d) 32
def A8(op:Int):Bool:=decide (2<=op)&&decide (op<=8)
mutual
def Sp.txt:Nat->Sp->List UInt8
 | d,⟨op,line,nm,arg,iz,it,idx,ex,bz,bt,body,ez,et,els⟩=>
  Di d++(Bv ⟨op,line,nm,arg,iz,it,idx,ex,bz,bt,body,ez,et,els⟩ ++
   if A8 op then 32::123::10::(Sp.txts (d+1) body++((if els.isEmpty then [] else Di d++125::32::101::108::115::101::32::123::10::Sp.txts (d+1) els)++(Di d++[125,10]))) else [59,10])
def Sp.txts:Nat->List Sp->List UInt8
 | _,[]=>[]
 | d,x::l=>x.txt d++Sp.txts d l
end
inductive CnS:Sp->Prop
 | mk {s:Sp}:1<=s.op/\s.op<=15->s.idx.length<=1->(s.op≠1->s.idx=[])->(∀ x∈s.idx,Cn x)->((s.op=1\/s.op=2\/s.op=3\/s.op=14)->Cn s.ex)->(A8 s.op=false->s.body=[])->(s.op≠2->s.els=[])->(∀ x∈s.body,CnS x)->(∀ x∈s.els,CnS x)->CnS s
/-! declarations, threads, programs -/
structure Dp where
 kind:Int
 line:Int
 nm:List UInt8
 size:Int
 init:Int
 on:List UInt8
def Dp.row(d:Dp):List V:=[.int .i64 d.kind,.int .i64 d.line,.str d.nm,.int .i64 d.size,.int .i64 d.init,.str d.on]
def X6(n:Int):List UInt8:=if n=0 then [] else 32::61::32::Cz n
def Up(d:Dp):List UInt8:=
 if d.kind=1 then [118,97,114,32]++(d.nm++((if d.size=0 then [] else 91::(Cz d.size++[93]))++X6 d.init))
 else if d.kind=2 then [118,111,108,97,116,105,108,101,32]++(d.nm++X6 d.init)
 else if d.kind=3 then [109,117,116,101,120,32]++d.nm
 else if d.kind=4 then [114,119,108,111,99,107,32]++d.nm
 else if d.kind=5 then [99,111,110,100,32]++(d.nm++32::d.on)
 else [102,117,116,117,114,101,32]++d.nm
structure Tp where
 nm:List UInt8
 line:Int
 lz:Bool
 lt:Nat
 locals:List (List UInt8)
 bz:Bool
 bt:Nat
 body:List Sp
def Tp.row(t:Tp):List V:=[.str t.nm,.int .i64 t.line,SL t.lz t.lt (t.locals.map fun s=>[V.str s]),SL t.bz t.bt (t.body.map Sp.row)]
def K8:List (List UInt8)->List UInt8
 | []=>[]
 | [a]=>a
 | a::b::l=>a++44::32::K8 (b::l)
def Ja(t:Tp):List UInt8:=[116,104,114,101,97,100,32]++(t.nm++40::(K8 t.locals++41::32::123::10::(Sp.txts 1 t.body++[125,10])))
structure Gp where
 dz:Bool
 dt:Nat
 decls:List Dp
 tz:Bool
 tt:Nat
 thrs:List Tp
def Gp.row(p:Gp):List V:=[SL p.dz p.dt (p.decls.map Dp.row),SL p.tz p.tt (p.thrs.map Tp.row)]
def Uq(p:Gp):List UInt8:=(p.decls.map fun d=>Up d++[59,10]).flatten++(p.thrs.map Ja).flatten
end Go.Proofs.YtcoeikinocflnaaGreatDoor.KM
