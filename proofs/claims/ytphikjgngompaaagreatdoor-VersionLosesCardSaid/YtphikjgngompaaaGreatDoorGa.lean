/- Plain: programs as trees, their rows and texts. -/
import Derived.Test.YtphikjgngompaaaGreatDoorIv
set_option linter.all false
namespace Go.Proofs.YtphikjgngompaaaGreatDoor.KM
open Go
/-! expressions -/
structure Xp where
 op:Int
 n:Int
 nm:List UInt8
 z:Bool
 t:Nat
 l:List Xp
mutual
def Xp.row:Xp->List V
 | ⟨op,n,nm,z,t,l⟩=>[.int .i64 op,.int .i64 n,.str nm,SL z t (Xp.rows l)]
def Xp.rows:List Xp->List (List V)
 | []=>[]
 | x::l=>x.row::Xp.rows l
end
def Arw:∀ l:List Xp,Xp.rows l=l.map Xp.row
 | []=>rfl
 | x::l=>by rw[Xp.rows,Arw l];rfl
theorem Bi(x:Xp):x.row=[iV x.op,iV x.n,.str x.nm,SL x.z x.t (x.l.map Xp.row)]:=by
 rw[<-Arw];cases x;rfl
def Xp.zero:Xp:=⟨0,0,[],true,0,[]⟩
def B0(op:Int):List UInt8:=
 match op with
 | 4=>[45] | 5=>[33] | 6=>[43] | 7=>[45] | 8=>[42] | 9=>[47] | 10=>[37] | 11=>[61,61] | 12=>[33,61] | 13=>[60] | 14=>[60,61] | 15=>[62] | 16=>[62,61] | 17=>[38,38] | 18=>[124,124] | _=>[]
def Bf(op:Int):Int:=
 match op with
 | 4=>6 | 5=>6 | 6=>4 | 7=>4 | 8=>5 | 9=>5 | 10=>5 | 11=>3 | 12=>3 | 13=>3 | 14=>3 | 15=>3 | 16=>3 | 17=>2 | 18=>1 | _=>7
def AV{p:Prop}(h:p:=by simp[Bf]):p:=h
def Zb(op:Int):Int:=if op=1\/op=2 then 0 else if 3<=op/\op<=5 then 1 else if 6<=op/\op<=18 then 2 else -1
def Dg(o:Int × List UInt8)(qa:Int):List UInt8:=if Bf o.1<qa then 40::(o.2++[41]) else o.2
def Gg(op:Int):Int:=if Bf op=3 then 4 else Bf op
def Dt(op n:Int)(nm:List UInt8)(ts:List (Int × List UInt8)):List UInt8:=
 if op=1 then B4 n else if op=2 then nm else
 match ts with
 | [a]=>if op=3 then nm++91::(a.2++[93]) else B0 op++Dg a 6
 | [a,b]=>Dg a (Gg op)++32::(B0 op++32::Dg b (Bf op+1))
 | _=>[]
mutual
def Xp.txt:Xp->List UInt8
 | ⟨op,n,nm,_,_,l⟩=>Dt op n nm (Xp.txts l)
def Xp.txts:List Xp->List (Int × List UInt8)
 | []=>[]
 | x::l=>(x.op,x.txt)::Xp.txts l
end
def Arx:∀ l:List Xp,Xp.txts l=l.map fun x=>(x.op,x.txt)
 | []=>rfl
 | x::l=>by rw[Xp.txts,Arx l];rfl
theorem Ek(x:Xp):x.txt=Dt x.op x.n x.nm (x.l.map fun x=>(x.op,x.txt)):=by
 rw[<-Arx];cases x;rfl
inductive Cn:Xp->Prop
 | num {n:Int} {nm:List UInt8} {z:Bool} {t:Nat} : -9223372036854775808<=n/\n<=9223372036854775807->Cn ⟨1,n,nm,z,t,[]⟩
 | name {n:Int} {nm:List UInt8} {z:Bool} {t:Nat}:Cn ⟨2,n,nm,z,t,[]⟩
 | idx {n:Int} {nm:List UInt8} {z:Bool} {t:Nat} {a:Xp}:Cn a->Cn ⟨3,n,nm,z,t,[a]⟩
 | un {op n:Int} {nm:List UInt8} {z:Bool} {t:Nat} {a:Xp}:op=4\/op=5->Cn a->Cn ⟨op,n,nm,z,t,[a]⟩
 | bin {op n:Int} {nm:List UInt8} {z:Bool} {t:Nat} {a b:Xp}:6<=op/\op<=18->Cn a->Cn b->Cn ⟨op,n,nm,z,t,[a,b]⟩
/-! statements -/
structure Sp where
 op:Int
 line:Int
 nm:List UInt8
 arg:List UInt8
 iz:Bool
 it:Nat
 idx:List Xp
 ex:Xp
 bz:Bool
 bt:Nat
 body:List Sp
 ez:Bool
 et:Nat
 els:List Sp
mutual
def Sp.row:Sp->List V
 | ⟨op,line,nm,arg,iz,it,idx,ex,bz,bt,body,ez,et,els⟩=>[.int .i64 op,.int .i64 line,.str nm,.str arg,SL iz it (idx.map Xp.row)]++ex.row++[SL bz bt (Sp.rows body),SL ez et (Sp.rows els)]
def Sp.rows:List Sp->List (List V)
 | []=>[]
 | x::l=>x.row::Sp.rows l
end
def Ajv:∀ l:List Sp,Sp.rows l=l.map Sp.row
 | []=>rfl
 | x::l=>by rw[Sp.rows,Ajv l];rfl
def S6(s:Sp):s.row=[iV s.op,iV s.line,.str s.nm,.str s.arg,SL s.iz s.it (s.idx.map Xp.row)]++s.ex.row++[SL s.bz s.bt (s.body.map Sp.row),SL s.ez s.et (s.els.map Sp.row)]:=by
 rw[<-Ajv,<-Ajv];cases s;rfl
def Cp(op:Int):List UInt8:=
 match op with
 | 2=>[105,102] | 3=>[119,104,105,108,101] | 4=>[108,111,99,107] | 5=>[114,101,97,100] | 6=>[119,114,105,116,101] | 7=>[116,114,97,110,115,97,99,116,105,111,110] | 8=>[97,116,111,109,105,99] | 9=>[119,97,105,116] | 10=>[110,111,116,105,102,121] | 11=>[110,111,116,105,102,121,97,108,108] | 12=>[115,112,97,119,110] | 13=>[106,111,105,110] | 14=>[115,101,116] | 15=>[103,101,116] | _=>[]
def E7(l:List Xp):List UInt8:=match l with
 | a::_=>91::(a.txt++[93])
 | []=>[]
def Cq(s:Sp):List UInt8:=
 if s.op=1 then s.nm++(E7 s.idx++32::61::32::s.ex.txt)
 else if s.op=2\/s.op=3 then Cp s.op++32::s.ex.txt
 else if s.op=7\/s.op=8 then Cp s.op
 else if s.op=14 then Cp s.op++32::(s.nm++32::s.ex.txt)
 else if s.op=15 then Cp s.op++32::(s.nm++32::s.arg)
 else Cp s.op++32::s.nm
def Eh(d:Nat):List UInt8:=List.replicate (2*d) 32
def Bv(op:Int):Bool:=decide (2<=op)&&decide (op<=8)
mutual
def Sp.txt:Nat->Sp->List UInt8
 | d,⟨op,line,nm,arg,iz,it,idx,ex,bz,bt,body,ez,et,els⟩=>
  Eh d++(Cq ⟨op,line,nm,arg,iz,it,idx,ex,bz,bt,body,ez,et,els⟩ ++
   if Bv op then 32::123::10::(Sp.txts (d+1) body++((if els.isEmpty then [] else Eh d++125::32::101::108::115::101::32::123::10::Sp.txts (d+1) els)++(Eh d++[125,10]))) else [59,10])
def Sp.txts:Nat->List Sp->List UInt8
 | _,[]=>[]
 | d,x::l=>x.txt d++Sp.txts d l
end
inductive CnS:Sp->Prop
 | mk {s:Sp}:1<=s.op/\s.op<=15->s.idx.length<=1->(s.op≠1->s.idx=[])->(∀ x∈s.idx,Cn x)->((s.op=1\/s.op=2\/s.op=3\/s.op=14)->Cn s.ex)->(Bv s.op=false->s.body=[])->(s.op≠2->s.els=[])->(∀ x∈s.body,CnS x)->(∀ x∈s.els,CnS x)->CnS s
/-! declarations, threads, programs -/
structure Dp where
 kind:Int
 line:Int
 nm:List UInt8
 size:Int
 init:Int
 on:List UInt8
def Dp.row(d:Dp):List V:=[iV d.kind,iV d.line,.str d.nm,iV d.size,iV d.init,.str d.on]
def Jp(n:Int):List UInt8:=if n=0 then [] else 32::61::32::B4 n
def De(d:Dp):List UInt8:=
 if d.kind=1 then [118,97,114,32]++(d.nm++((if d.size=0 then [] else 91::(B4 d.size++[93]))++Jp d.init))
 else if d.kind=2 then [118,111,108,97,116,105,108,101,32]++(d.nm++Jp d.init)
 else if d.kind=3 then [109,117,116,101,120,32]++d.nm
 else if d.kind=4 then [114,119,108,111,99,107,32]++d.nm
 else if d.kind=5 then [99,111,110,100,32]++(d.nm++32::d.on)
 else [102,117,116,117,114,101,32]++d.nm
structure CnD (d:Dp):Prop where
 kind:1<=d.kind/\d.kind<=6
 size:0<=d.size/\d.size<=9223372036854775807/\(d.kind≠1->d.size=0)
 init : -9223372036854775808<=d.init/\d.init<=9223372036854775807/\(d.kind≠1->d.kind≠2->d.init=0)
structure Tp where
 nm:List UInt8
 line:Int
 lz:Bool
 lt:Nat
 locals:List (List UInt8)
 bz:Bool
 bt:Nat
 body:List Sp
def Tp.row(t:Tp):List V:=[.str t.nm,iV t.line,SL t.lz t.lt (t.locals.map fun s=>[V.str s]),SL t.bz t.bt (t.body.map Sp.row)]
def Eo:List (List UInt8)->List UInt8
 | []=>[]
 | [a]=>a
 | a::b::l=>a++44::32::Eo (b::l)
def Ea(t:Tp):List UInt8:=[116,104,114,101,97,100,32]++(t.nm++40::(Eo t.locals++41::32::123::10::(Sp.txts 1 t.body++[125,10])))
structure Gp where
 dz:Bool
 dt:Nat
 decls:List Dp
 tz:Bool
 tt:Nat
 thrs:List Tp
def Gp.row(p:Gp):List V:=[SL p.dz p.dt (p.decls.map Dp.row),SL p.tz p.tt (p.thrs.map Tp.row)]
def Fd(p:Gp):List UInt8:=(p.decls.map fun d=>De d++[59,10]).flatten++(p.thrs.map Ea).flatten
structure CnG (p:Gp):Prop where
 decls:∀ d∈p.decls,CnD d
 thrs:∀ t∈p.thrs,∀ s∈t.body,CnS s
abbrev gR (p:Gp):List V:=[SL p.dz p.dt (p.decls.map Dp.row),SL p.tz p.tt (p.thrs.map Tp.row)]
abbrev gO (p:Gp):Ob:=.row (gR p) 29 0 0
abbrev wkR (p:Gp) (th:Int) (a b c:V):List V:=[SL p.dz p.dt (p.decls.map Dp.row),SL p.tz p.tt (p.thrs.map Tp.row),iV th,a,b,c]
abbrev E9 (p:Gp) (th:Int) (a b c:V):Ob:=.row (wkR p th a b c) 147 0 0
abbrev tR (x:Tp):List V:=[.str x.nm,iV x.line,SL x.lz x.lt (x.locals.map fun s=>[V.str s]),SL x.bz x.bt (x.body.map Sp.row)]
abbrev tO (x:Tp):Ob:=.row (tR x) 89 0 0
abbrev xR (x:Xp):List V:=[iV x.op,iV x.n,.str x.nm,SL x.z x.t (x.l.map Xp.row)]
abbrev xO (x:Xp):Ob:=.row (xR x) 101 0 0
abbrev sW (op line:Int) (nm arg:List UInt8) (iz:Bool) (it:Nat) (idx:List Xp) (xo xn:Int) (xm:List UInt8) (xz:Bool) (xt:Nat) (xl:List Xp) (bz:Bool) (bt:Nat) (body:List Sp) (ez:Bool) (et:Nat) (els:List Sp):List V:=[iV op,iV line,.str nm,.str arg,SL iz it (idx.map Xp.row),iV xo,iV xn,.str xm,SL xz xt (xl.map Xp.row),SL bz bt (body.map Sp.row),SL ez et (els.map Sp.row)]
abbrev sO (op line:Int) (nm arg:List UInt8) (iz:Bool) (it:Nat) (idx:List Xp) (xo xn:Int) (xm:List UInt8) (xz:Bool) (xt:Nat) (xl:List Xp) (bz:Bool) (bt:Nat) (body:List Sp) (ez:Bool) (et:Nat) (els:List Sp):Ob:=.row (sW op line nm arg iz it idx xo xn xm xz xt xl bz bt body ez et els) 103 0 0
abbrev sZ (op ln:Int) (nm arg:List UInt8):List V:=[iV op,iV ln,.str nm,.str arg,.nils,iV 0,iV 0,.str [],.nils,.nils,.nils]
abbrev sP (op ln:Int) (nm arg:List UInt8):Ob:=.row (sZ op ln nm arg) 103 0 0
abbrev zD:List V:=[iV 0,iV 0,.str [],iV 0,iV 0,.str []]
abbrev zO:Ob:=.row zD 85 0 0
abbrev zX:List V:=[iV 0,iV 0,.str [],.nils]
abbrev zY:Ob:=.row zX 101 0 0
abbrev mO (b:Nat) (th left:Int) (se tx ao lp:Bool) (u:V):Ob:=.row [.ptr b 0 0,iV th,iV left,.bool se,.bool tx,.bool ao,.bool lp,u] 96 0 0
def Tu{x:Xp}(h:Cn x):1<=x.op/\x.op<=18:=by
 cases h with
 | num _=>grind
 | name=>grind
 | idx _=>grind
 | un h _=>grind
 | bin h _ _=>grind
def Abm{op:Int}(h:1<=op/\op<=18):∃ i:Nat,i<18/\op=(i:Int)+1:=⟨(op - 1).toNat,by omega,by omega⟩
def A5r:((List.range 18).all fun i=>match (Ln (N5 TT PT 300) af177 [iV ((i:Int)+1)] []).bind fun p=>Eg p.2 p.1 with
  | some (.tup [.str s,.int .i64 n])=>s==B0 ((i:Int)+1)&&n==Bf ((i:Int)+1)
  | _=>false)=true:=by kernel_rfl
def Xs{op:Int}(h:1<=op/\op<=18):Fn TT PT 177 [iV op] (.tup [.str (B0 op),iV (Bf op)]):=by
 obtain⟨i,hi,rfl⟩:=Abm h;have hr:=Bw.1 A5r i (Ed.2 hi)
 split at hr
 .rename_i s n hv;simp only[Ai,beq_iff_eq]at hr;rw[<-hr.1,<-hr.2];exact Rd Si T177 rfl rfl hv
 .cases hr
def Bdz:((List.range 18).all fun i=>match (Ln (N5 TT PT 300) af236 [iV ((i:Int)+1)] []).bind fun p=>Eg p.2 p.1 with
  | some (.agg [.str s,.int .i64 n])=>s==B0 ((i:Int)+1)&&n==Bf ((i:Int)+1)
  | _=>false)=true:=by kernel_rfl
def Yo{op:Int}(h:1<=op/\op<=18):Fn TT PT 236 [iV op] (.agg [.str (B0 op),iV (Bf op)]):=by
 obtain⟨i,hi,rfl⟩:=Abm h;have hr:=Bw.1 Bdz i (Ed.2 hi)
 split at hr
 .rename_i s n hv;simp only[Ai,beq_iff_eq]at hr;rw[<-hr.1,<-hr.2];exact Rd Si T236 rfl rfl hv
 .cases hr
def Bd0:((List.range 18).all fun i=>decide ((B0 ((i:Int)+1)).length<=2/\1<=Bf ((i:Int)+1)/\Bf ((i:Int)+1)<=7))=true:=by decide
def Age{op:Int}(h:1<=op/\op<=18):(B0 op).length<=2/\1<=Bf op/\Bf op<=7:=by
 obtain⟨i,hi,rfl⟩:=Abm h;exact of_decide_eq_true (Bw.1 Bd0 i (Ed.2 hi))
theorem Dw(x:Xp):Dc (.agg x.row)=true:=by
 rw[Bi];simp only[go_sem]
def Ap{a b c:List UInt8}(h:a.length+b.length<=9223372036854775807)(hc:a++b=c):Am .add a b=some (.str c):=by
 simp_all [Am]
def O2(o:Int × List UInt8)(qa:Int):o.2.length<=(Dg o qa).length/\(Dg o qa).length<=o.2.length+2:=by
 grind[Dg]
def Amk{x:Xp}(he:Fn TT PT 150 [.agg x.row] (.str x.txt))(ho:1<=x.op/\x.op<=18)(hl:x.txt.length<=1000000000000000)(qa:Int):Fn TT PT 178 [.agg x.row,iV qa] (.str (Dg (x.op,x.txt) qa)):=by
 have hs:=Xs ho;have qg:=Dw x;rw[Bi]at he qg ⊢;refine Bj T178 rfl ?_;have a1:Am .add [40] x.txt=some (.str (40::x.txt)):=Ap (by grind) rfl;have a2:Am .add (40::x.txt) [41]=some (.str (40::(x.txt++[41]))):=Ap (by grind) AE;unfold Dg;by_cases h:Bf x.op<qa
 .rw[if_pos h];have f:(Bf x.op<qa)=True:=eq_true h;simp only[go_sem];refine Ab hs AB ?_;simp only[go_sem,f];refine Ab he (by grind) ?_;simp only[go_sem,↓a1,↓a2];exact F7 rfl
 .rw[if_neg h];have f:(Bf x.op<qa)=False:=eq_false h;simp only[go_sem];refine Ab hs AB ?_;simp only[go_sem,f];refine Ab he (by grind) ?_;simp only[go_sem];exact F7 rfl
set_option maxHeartbeats 4000000 in
def Aai{x:Xp}(h:Cn x):x.txt.length<=1000000000000000->Fn TT PT 150 [.agg x.row] (.str x.txt):=by
 induction h with
 | @num n nm z t hn=>
  intro hl;have hs:=Xs (op:=1) AA;rw[Bi,Ek];simp only[Bz,Dt,if_true];refine Bj T150 rfl ?_;have hf:Qv [iV n,iV 10]=some (.str (B4 n)):=by unfold Qv;exact if_pos hn
  simp only[go_sem];refine Ab hs AB ?_;simp only[go_sem,Int.reduceBEq];refine Fl P67 AB hf ?_;simp only[go_sem];exact F7 rfl
 | @name n nm z t=>
  intro hl;have hs:=Xs (op:=2) AA;rw[Bi,Ek];simp only[Bz,Dt];refine Bj T150 rfl ?_;simp only[go_sem];refine Ab hs AB ?_;simp only[go_sem,Int.reduceBEq];exact F7 rfl
 | @idx n nm z t a ha ih=>
  intro hl;have hs:=Xs (op:=3) AA;rw[Bi];rw[Ek]at hl ⊢;simp only[Az,Bz,Dt]at hl ⊢;have hl:nm.length+a.txt.length+2<=1000000000000000:=by simp at hl;omega
  have hi:=ih AA;rw[Bi a]at hi ⊢;refine Bj T150 rfl ?_;simp only[go_sem];refine Ab hs AB ?_;simp only[go_sem,Int.reduceBEq];have a1:Am .add nm [91]=some (.str (nm++[91])):=Ap (by grind) rfl;have a2:Am .add (nm++[91]) a.txt=some (.str (nm++91::a.txt)):=Ap (by grind) AE;have a3:Am .add (nm++91::a.txt) [93]=some (.str (nm++91::(a.txt++[93]))):=Ap (by grind) AE;refine Af AD ?_;simp only[go_sem,↓a1];refine Bg hi AB ?_;simp only[go_sem,↓a2,↓a3];exact F7 rfl
 | @un op n nm z t a qo ha ih=>
  intro hl;have ho:1<=op/\op<=18:=by omega
  have hs:=Xs ho
  have qn:Bf op=6:=by rcases qo with rfl | rfl<;>rfl
  rw[qn]at hs;obtain⟨s1,-,-⟩:=Age ho;rw[Bi];rw[Ek]at hl ⊢
  have e1:Dt op n nm [(a.op,a.txt)]=B0 op++Dg (a.op,a.txt) 6:=by
   unfold Dt;rw[if_neg AA,if_neg AA];simp only;rw[if_neg AA]
  simp only[Az,Bz,e1,Ar]at hl ⊢;obtain⟨p1,p2⟩:=O2 (a.op,a.txt) 6;have hi:=Amk (ih (by grind)) (Tu ha) (by grind) 6;rw[Bi a]at hi ⊢;refine Bj T150 rfl ?_;have b1:(op==1)=false:=by simp;omega
  have b2:(op==2)=false:=by simp;omega
  have b3:(op==3)=false:=by simp;omega
  simp only[go_sem];refine Ab hs AB ?_;simp only[go_sem,Int.reduceBEq,b1,b2,b3];refine Ab hi AB ?_;have a1:Am .add (B0 op) (Dg (a.op,a.txt) 6)=some (.str (B0 op++Dg (a.op,a.txt) 6)):=Ap AA rfl;simp only[go_sem,↓a1];exact F7 rfl
 | @bin op n nm z t a b qo ha hb iha ihb=>
  intro hl;have ho:1<=op/\op<=18:=by omega
  have hs:=Xs ho;obtain⟨s1,s2,s3⟩:=Age ho
  have qn:Bf op<6:=by
   obtain⟨i,hi,rfl⟩:=Abm ho;have:((List.range 18).all fun i=>decide (5<=i->Bf ((i:Int)+1)<6))=true:=by decide
   exact of_decide_eq_true (Bw.1 this i (Ed.2 hi)) AA
  rw[Bi];rw[Ek]at hl ⊢
  have e1:Dt op n nm [(a.op,a.txt),(b.op,b.txt)]=Dg (a.op,a.txt) (Gg op)++32::(B0 op++32::Dg (b.op,b.txt) (Bf op+1)):=by
   unfold Dt;rw[if_neg AA,if_neg AA]
  simp only[Az,Bz,e1,Ar,Ao]at hl ⊢;obtain⟨p1,p2⟩:=O2 (a.op,a.txt) (Gg op);obtain⟨q1,q2⟩:=O2 (b.op,b.txt) (Bf op+1);simp only at p1 q1;have hi:=Amk (iha AA) (Tu ha) AA (Gg op);have hj:=Amk (ihb AA) (Tu hb) AA (Bf op+1);rw[Bi a]at hi ⊢;rw[Bi b]at hj ⊢;refine Bj T150 rfl ?_;have b1:(op==1)=false:=by simp;omega
  have b2:(op==2)=false:=by simp;omega
  have b3:(op==3)=false:=by simp;omega
  have b6:(Bf op==6)=false:=by simp;omega
  have f6:(Bf op<6)=True:=eq_true qn;have w1:IntKind.i64.wrap (Bf op+1)=Bf op+1:=Cs AA;generalize Dg (a.op,a.txt) (Gg op)=pa at hl hi p1 p2 ⊢;generalize Dg (b.op,b.txt) (Bf op+1)=pb at hl hj q1 q2 ⊢;have a1:Am .add pa [32]=some (.str (pa++[32])):=Ap (by grind) rfl;have a2:Am .add (pa++[32]) (B0 op)=some (.str (pa++32::B0 op)):=Ap (by grind) AE;have a3:Am .add (pa++32::B0 op) [32]=some (.str (pa++32::(B0 op++[32]))):=Ap (by grind) AE;have a4:Am .add (pa++32::(B0 op++[32])) pb=some (.str (pa++32::(B0 op++32::pb))):=Ap (by grind) AE;cases h3:(Bf op==3)
  all_goals
   have qi:Gg op=(if(Bf op==3)=true then 4 else Bf op):=by unfold Gg;simp
   rw[h3]at qi;simp only[if_true,if_false,Hh]at qi;rw[qi]at hi;simp only[go_sem];refine Ab hs AB ?_;simp only[go_sem,Int.reduceBEq,b1,b2,b3,b6,f6,h3];refine Af AD ?_;simp only[go_sem];refine Bg hi AB ?_;simp only[go_sem,↓a1,↓a2,↓a3,w1];refine Bg hj AB ?_;simp only[go_sem,↓a4];exact F7 rfl
def A87(x:Xp):x.row.length=4:=by simp[Bi]
theorem Oz(s:Sp):s.row.length=11:=by simp[S6,Bi]
def Hc(s:Sp):Dc (.agg s.row)=true:=by
 rw[S6,Bi];simp only[go_sem]
def Bp4(s:Sp):s.row.take 11=s.row:=Jb (by grind[Oz])
def A5s(d:Nat)(hd:d<=100000000000000):Fn TT PT 115 [iV (d:Int)] (.str (Eh d)):=by
 refine Bj T115 rfl ?_;simp only[go_sem];refine Bk (α:=Nat) (fun i=>d - i) (fun i=>[(0,iV (d:Int)),(3,.str (Eh i)),(4,iV (i:Int))]) (fun _=>[]) (fun i=>i<=d) ?_ 0 (Ax _);rintro i hi ih;refine Bd Bjp ?_;rcases Bh i d with h | h
 .have a1:Am .add (Eh i) [32,32]=some (.str (Eh (i+1))):=Ap (by grind[Eh]) (by
   grind[Eh,List.replicate_append_replicate])
  simp only[go_sem,Ay h,↓a1,A1 (show i<9223372036854775807 by omega)];exact Aq (ih (i+1) AA AA) rfl
 .obtain rfl:i=d:=by omega
  simp only[go_sem,Bl h];exact F7 rfl
theorem Li(d:Nat):(Eh d).length=2*d:=by simp[Eh]
def Im(op:Int):List UInt8:=if Bv op then [32,123] else [59]
theorem Akr(l:List Xp):(E7 l).length<=(match l with | a::_=>a.txt.length+2 | []=>0):=by
 grind[E7]
def A88{s:Sp}(h:CnS s)(hl:(Cq s).length<=100000000000000):Fn TT PT 116 [.agg s.row] (.str (Cq s++Im s.op)):=by
 obtain⟨h1,h2,h3,h4,h5,-,-,-,-⟩:=h;obtain⟨op,line,nm,arg,iz,it,idx,ex,bz,bt,body,ez,et,els⟩:=s;simp only at h1 h2 h3 h4 h5 hl ⊢;rw[S6];simp only;have hw:op=1\/op=2\/op=3\/op=4\/op=5\/op=6\/op=7\/op=8\/op=9\/op=10\/op=11\/op=12\/op=13\/op=14\/op=15:=by omega
 refine Bj T116 rfl ?_;rw[Bi];rcases hw with rfl | hw
 .have hx:=Aai (h5 (.inl rfl));simp only[Cq,if_true,Ar,Ao]at hl ⊢;have hx:=hx AA;rw[Bi]at hx
  cases idx with
  | nil=>
   simp only[E7,Di]at hl ⊢;have a1:Am .add nm []=some (.str nm):=Ap AA AE;have a2:Am .add nm [32,61,32]=some (.str (nm++[32,61,32])):=Ap (by grind) rfl;have a3:Am .add (nm++[32,61,32]) ex.txt=some (.str (nm++32::61::32::ex.txt)):=Ap (by grind) AE;have a4:Am .add (nm++32::61::32::ex.txt) [59]=some (.str (nm++32::61::32::(ex.txt++[59]))):=Ap (by grind) AE;simp only[go_sem,Int.reduceBEq,Int.reduceLT];refine Af AD ?_;simp only[go_sem,↓a1,↓a2];refine Bg hx AB ?_;simp only[go_sem,↓a3,↓a4];exact Ah rfl (by simp[Im,Bv])
  | cons a r=>
   have ha:=Aai (h4 a B7);simp only[E7,Ao,Ar]at hl ⊢;have ha:=ha AA;rw[Bi]at ha;have r0:r=[]:=by simpa using h2
   subst r0;have a1:Am .add [91] a.txt=some (.str (91::a.txt)):=Ap (by grind) rfl;have a2:Am .add (91::a.txt) [93]=some (.str (91::(a.txt++[93]))):=Ap (by grind) AE;have a3:Am .add nm (91::(a.txt++[93]))=some (.str (nm++91::(a.txt++[93]))):=Ap (by grind) rfl;have a4:Am .add (nm++91::(a.txt++[93])) [32,61,32]=some (.str (nm++91::(a.txt++[93,32,61,32]))):=Ap (by grind) AE;have a5:Am .add (nm++91::(a.txt++[93,32,61,32])) ex.txt=some (.str (nm++91::(a.txt++93::32::61::32::ex.txt))):=Ap (by grind) AE;have a6:Am .add (nm++91::(a.txt++93::32::61::32::ex.txt)) [59]=some (.str (nm++91::(a.txt++93::32::61::32::(ex.txt++[59])))):=Ap (by grind) AE;simp only[Az,Bz];rw[Bi a];simp only[go_sem,Int.reduceBEq,Int.reduceLT];refine Ab ha AB ?_;simp only[go_sem,↓a1,↓a2];refine Af AD ?_;simp only[go_sem,↓a3,↓a4];refine Bg hx AB ?_;simp only[go_sem,↓a5,↓a6];exact Ah rfl (by simp[Im,Bv])
 rcases hw with rfl | hw
 .simp only[Cq,Cp,Im,Bv]at hl ⊢;simp at hl;have hx:=Aai (h5 AA) AA;rw[Bi]at hx;have a1:Am .add ([105,102,32]) (ex.txt)=some (.str (105::102::32::ex.txt)):=Ap (by grind) AE;have a2:Am .add (105::102::32::ex.txt) ([32,123])=some (.str (105::102::32::(ex.txt++[32,123]))):=Ap (by grind) AE;simp only[go_sem,Int.reduceBEq,Int.reduceLT];refine Ab hx AB ?_;simp only[go_sem,↓a1,↓a2];exact Ah rfl AE
 rcases hw with rfl | hw
 .simp only[Cq,Cp,Im,Bv]at hl ⊢;simp at hl;have hx:=Aai (h5 AA) AA;rw[Bi]at hx;have a1:Am .add ([119,104,105,108,101,32]) (ex.txt)=some (.str (119::104::105::108::101::32::ex.txt)):=Ap AJ AE;have a2:Am .add (119::104::105::108::101::32::ex.txt) ([32,123])=some (.str (119::104::105::108::101::32::(ex.txt++[32,123]))):=Ap AJ AE;simp only[go_sem,Int.reduceBEq,Int.reduceLT];refine Ab hx AB ?_;simp only[go_sem,↓a1,↓a2];exact Ah rfl AE
 rcases hw with rfl | hw
 .simp only[Cq,Cp,Im,Bv]at hl ⊢;simp at hl;have a1:Am .add ([108,111,99,107,32]) (nm)=some (.str (108::111::99::107::32::nm)):=Ap AJ AE;have a2:Am .add (108::111::99::107::32::nm) ([32,123])=some (.str (108::111::99::107::32::(nm++[32,123]))):=Ap (by grind) AE;simp only[go_sem,Int.reduceBEq,Int.reduceLT,↓a1,↓a2];exact Ah rfl AE
 rcases hw with rfl | hw
 .simp only[Cq,Cp,Im,Bv]at hl ⊢;simp at hl;have a1:Am .add ([114,101,97,100,32]) (nm)=some (.str (114::101::97::100::32::nm)):=Ap AJ AE;have a2:Am .add (114::101::97::100::32::nm) ([32,123])=some (.str (114::101::97::100::32::(nm++[32,123]))):=Ap (by grind) AE;simp only[go_sem,Int.reduceBEq,Int.reduceLT,↓a1,↓a2];exact Ah rfl AE
 rcases hw with rfl | hw
 .simp only[Cq,Cp,Im,Bv]at hl ⊢;simp at hl;have a1:Am .add ([119,114,105,116,101,32]) (nm)=some (.str (119::114::105::116::101::32::nm)):=Ap AJ AE;have a2:Am .add (119::114::105::116::101::32::nm) ([32,123])=some (.str (119::114::105::116::101::32::(nm++[32,123]))):=Ap AJ AE;simp only[go_sem,Int.reduceBEq,Int.reduceLT,↓a1,↓a2];exact Ah rfl AE
 rcases hw with rfl | hw
 .simp only[Cq,Cp,Im,Bv]at hl ⊢;simp at hl;simp only[go_sem,Int.reduceBEq,Int.reduceLT];exact Ah rfl AE
 rcases hw with rfl | hw
 .simp only[Cq,Cp,Im,Bv]at hl ⊢;simp at hl;simp only[go_sem,Int.reduceBEq,Int.reduceLT];exact Ah rfl AE
 rcases hw with rfl | hw
 .simp only[Cq,Cp,Im,Bv]at hl ⊢;simp at hl;have a1:Am .add ([119,97,105,116,32]) (nm)=some (.str (119::97::105::116::32::nm)):=Ap AJ AE;have a2:Am .add (119::97::105::116::32::nm) ([59])=some (.str (119::97::105::116::32::(nm++[59]))):=Ap (by grind) AE;simp only[go_sem,Int.reduceBEq,Int.reduceLT,↓a1,↓a2];exact Ah rfl AE
 rcases hw with rfl | hw
 .simp only[Cq,Cp,Im,Bv]at hl ⊢;simp at hl;have a1:Am .add ([110,111,116,105,102,121,32]) (nm)=some (.str (110::111::116::105::102::121::32::nm)):=Ap AJ AE;have a2:Am .add (110::111::116::105::102::121::32::nm) ([59])=some (.str (110::111::116::105::102::121::32::(nm++[59]))):=Ap AJ AE;simp only[go_sem,Int.reduceBEq,Int.reduceLT,↓a1,↓a2];exact Ah rfl AE
 rcases hw with rfl | hw
 .simp only[Cq,Cp,Im,Bv]at hl ⊢;simp at hl;have a1:Am .add ([110,111,116,105,102,121,97,108,108,32]) (nm)=some (.str (110::111::116::105::102::121::97::108::108::32::nm)):=Ap AJ AE;have a2:Am .add (110::111::116::105::102::121::97::108::108::32::nm) ([59])=some (.str (110::111::116::105::102::121::97::108::108::32::(nm++[59]))):=Ap AJ AE;simp only[go_sem,Int.reduceBEq,Int.reduceLT,↓a1,↓a2];exact Ah rfl AE
 rcases hw with rfl | hw
 .simp only[Cq,Cp,Im,Bv]at hl ⊢;simp at hl;have a1:Am .add ([115,112,97,119,110,32]) (nm)=some (.str (115::112::97::119::110::32::nm)):=Ap AJ AE;have a2:Am .add (115::112::97::119::110::32::nm) ([59])=some (.str (115::112::97::119::110::32::(nm++[59]))):=Ap AJ AE;simp only[go_sem,Int.reduceBEq,Int.reduceLT,↓a1,↓a2];exact Ah rfl AE
 rcases hw with rfl | hw
 .simp only[Cq,Cp,Im,Bv]at hl ⊢;simp at hl;have a1:Am .add ([106,111,105,110,32]) (nm)=some (.str (106::111::105::110::32::nm)):=Ap AJ AE;have a2:Am .add (106::111::105::110::32::nm) ([59])=some (.str (106::111::105::110::32::(nm++[59]))):=Ap (by grind) AE;simp only[go_sem,Int.reduceBEq,Int.reduceLT,↓a1,↓a2];exact Ah rfl AE
 rcases hw with rfl | hw
 .simp only[Cq,Cp,Im,Bv]at hl ⊢;simp at hl;have hx:=Aai (h5 AA) AA;rw[Bi]at hx;have a1:Am .add ([115,101,116,32]) (nm)=some (.str (115::101::116::32::nm)):=Ap (by grind) AE;have a2:Am .add (115::101::116::32::nm) ([32])=some (.str (115::101::116::32::(nm++[32]))):=Ap (by grind) AE;have a3:Am .add (115::101::116::32::(nm++[32])) (ex.txt)=some (.str (115::101::116::32::(nm++32::ex.txt))):=Ap (by grind) AE;have a4:Am .add (115::101::116::32::(nm++32::ex.txt)) ([59])=some (.str (115::101::116::32::(nm++32::(ex.txt++[59])))):=Ap (by grind) AE;simp only[go_sem,Int.reduceBEq,Int.reduceLT];refine Af AD ?_;simp only[go_sem,↓a1,↓a2];refine Bg hx AB ?_;simp only[go_sem,↓a3,↓a4];exact Ah rfl AE
 subst hw;simp only[Cq,Cp,Im,Bv]at hl ⊢;simp at hl;have a1:Am .add ([103,101,116,32]) (nm)=some (.str (103::101::116::32::nm)):=Ap (by grind) AE;have a2:Am .add (103::101::116::32::nm) ([32])=some (.str (103::101::116::32::(nm++[32]))):=Ap (by grind) AE;have a3:Am .add (103::101::116::32::(nm++[32])) (arg)=some (.str (103::101::116::32::(nm++32::arg))):=Ap (by grind) AE;have a4:Am .add (103::101::116::32::(nm++32::arg)) ([59])=some (.str (103::101::116::32::(nm++32::(arg++[59])))):=Ap (by grind) AE;simp only[go_sem,Int.reduceBEq,Int.reduceLT,↓a1,↓a2,↓a3,↓a4];exact Ah rfl AE
theorem Ou(d:Nat)(x:Sp)(l:List Sp):Sp.txts d (x::l)=x.txt d++Sp.txts d l:=by rw[Sp.txts]
def Ajw(z:Bool)(t d:Nat)(l:List Sp)(h:∀ s∈l,Fn TT PT 68 [.agg s.row,iV (d:Int)] (.str (s.txt d)))(hl:(Sp.txts d l).length<=100000000000000)(qw:l.length<=9223372036854775806):Fn TT PT 38 [SL z t (l.map Sp.row),iV (d:Int)] (.str (Sp.txts d l)):=by
 refine Bj T38 rfl ?_;have qh:(l.map Sp.row).length=l.length:=Au ..;simp only[go_sem];refine Bk (α:=Nat × List UInt8) (fun a=>l.length - a.1) (fun a=>[(0,SL z t (l.map Sp.row)),(1,iV (d:Int)),(5,.str a.2),(6,iV (a.1:Int))]) (fun _=>[]) (fun a=>a.1<=l.length/\a.2++Sp.txts d (l.drop a.1)=Sp.txts d l) ?_ (0,[]) ⟨Ax _,rfl⟩;rintro⟨i,qb⟩ ⟨hi,qe⟩ ih;simp only at hi qe ih;refine Bd Bo0 ?_;rcases Bh i l.length with h' | h'
 .obtain⟨x,hx,hd,hm⟩:=Bq h';rw[hd,Ou]at qe;have qk:=congrArg List.length qe;simp only[Ar]at qk;have hr:=Oz x;have ht:=Bp4 x;have a1:Am .add qb (x.txt d)=some (.str (qb++x.txt d)):=Ap AA rfl;simp only[go_sem,qh,Ay h',As,hx,hr,ht];refine Ab (h x hm) (by simp[Hc,A1a]) ?_;simp only[go_sem,↓a1,A1 (show i<9223372036854775807 by omega)];exact Aq (ih (i+1,qb++x.txt d) AA ⟨by omega,by grind⟩) rfl
 .obtain rfl:i=l.length:=by omega
  rw[Ec h',show Sp.txts d []=[] by rw[Sp.txts],B3]at qe;rw[<-qe];simp only[go_sem,qh,Bl h'];exact F7 rfl
theorem Ns(d:Nat)(s:Sp):s.txt d=Eh d++(Cq s++if Bv s.op then 32::123::10::(Sp.txts (d+1) s.body++((if s.els.isEmpty then [] else Eh d++125::32::101::108::115::101::32::123::10::Sp.txts (d+1) s.els)++(Eh d++[125,10]))) else [59,10]):=by
 obtain⟨op,line,nm,arg,iz,it,idx,ex,bz,bt,body,ez,et,els⟩:=s;rw[Sp.txt]
def Z4(d:Nat):∀ {l:List Sp} {x:Sp},x∈l->(x.txt d).length<=(Sp.txts d l).length
 | y::l,x,h=>by
  rw[Ou,Ar];rcases Bp.1 h with rfl | h
  .omega
  .have:=Z4 d h;omega
theorem Z0(l:List Sp)(d:Nat):l.length<=(Sp.txts d l).length:=by
 induction l with
 | nil=>simp
 | cons x l ih=>
  grind[Ou,Ns]
def A5t{s:Sp}(h:CnS s):∀ (d:Nat) (D:Int),max D 0=(d:Int)->(s.txt d).length<=100000000000000->Fn TT PT 68 [.agg s.row,iV D] (.str (s.txt d)):=by
 induction h with
 | @mk s h1 h2 h3 h4 h5 h6 h7 h8 h9 ihb ihe=>
  intro d D mx hl;have hs:CnS s:=.mk h1 h2 h3 h4 h5 h6 h7 h8 h9;rw[Ns]at hl ⊢;simp only[Ar,Li]at hl;have hh:=A88 hs AA;have hi:=A5s d AA;have qg:=Hc s;have qo:=h1;generalize hH:Cq s=H at hl hh ⊢;have g1:(s.op<1)=False:=eq_false AA;have g2:(15<s.op)=False:=eq_false AA;refine Bj T68 rfl ?_;rw[S6,Bi]at hh qg ⊢;simp only[Bt,Be]at hh qg ⊢;cases hb:Bv s.op
  .have g3:(s.op<2)=True/\(s.op<2)=True\/(s.op<2)=False/\(8<s.op)=True:=by
    unfold Bv at hb;by_cases qC:s.op<2
    .grind
    .grind
   simp only[Im,hb]at hh;have a1:Am .add (Eh d) (H++[59])=some (.str (Eh d++(H++[59]))):=Ap (by grind[Li]) rfl;have a2:Am .add (Eh d++(H++[59])) [10]=some (.str (Eh d++(H++[59,10]))):=Ap (by grind[Li]) AE;rcases g3 with⟨g3,g4⟩ | ⟨g3,g4⟩
   all_goals
    simp only[go_sem,g1,g2,mx];refine Ab hi AB ?_;simp only[go_sem];refine Ab hh (by grind) ?_;simp only[go_sem,↓a1,↓a2,g3,g4];exact Ah rfl AE
  .rw[hb]at hl;rw[if_pos rfl]at hl ⊢;simp only[Ao,Ar,Li,Di]at hl;have qi:=Z0 s.body (d+1);have ql:=Ajw s.bz s.bt (d+1) s.body (fun x hx=>ihb x hx (d+1) _ AA (by have:=Z4 (d+1) hx;omega)) AA AA;have qj:=Z0 s.els (d+1)
   have g3:(s.op<2)=False/\(8<s.op)=False:=by
    unfold Bv at hb;simp only[Ai,decide_eq_true_eq]at hb;exact⟨eq_false AA,eq_false AA⟩
   obtain⟨g3,g4⟩:=g3;simp only[Im,hb,if_true]at hh;have qv:=Li d;have qd:=A1 (show d<9223372036854775807 by omega);have qB:(s.body.map Sp.row).length=s.body.length:=Au ..;have qq:(s.els.map Sp.row).length=s.els.length:=Au ..;generalize hT:Eh d=T at hl hi qv ⊢;generalize qz:Sp.txts (d+1) s.body=B at hl ql qi ⊢;have a1:Am .add T (H++[32,123])=some (.str (T++(H++[32,123]))):=Ap (by grind) rfl;have a2:Am .add (T++(H++[32,123])) [10]=some (.str (T++(H++[32,123,10]))):=Ap (by grind) AE;have a3:Am .add (T++(H++[32,123,10])) B=some (.str (T++(H++32::123::10::B))):=Ap (by grind) AE;have a4:Am .add (T++(H++32::123::10::B)) T=some (.str (T++(H++32::123::10::(B++T)))):=Ap (by grind) AE
   cases hels:s.els with
   | nil=>
    rw[hels]at hl qq hh;simp only[Bz]at hh;have e0:((0:Int)<((([]:List Sp).map Sp.row).length:Int))=False:=eq_false AE;have a5:Am .add (T++(H++32::123::10::(B++T))) [125,10]=some (.str (T++(H++32::123::10::(B++(T++[125,10]))))):=Ap (by grind) AE;simp only[go_sem,g1,g2,mx];refine Ab hi AB ?_;simp only[go_sem];refine Ab hh (by grind) ?_;simp only[go_sem,↓a1,↓a2,g3,g4,qd];refine Ab ql AB ?_;simp only[go_sem,↓a3,Int.reduceLT,↓a4,↓a5];exact Ah rfl AE
   | cons y ys=>
    rw[hels]at hl qq qj hh;simp only[Az]at hh;have qm:=Ajw s.ez s.et (d+1) (y::ys) (fun x hx=>ihe x (by grind) (d+1) _ AA (by have:=Z4 (d+1) hx;simp at hl;omega)) (by simp at hl;omega) (by simp at hl;omega);simp only[Az]at qm;have e0:((0:Int)<((ys.length+1:Nat):Int))=True:=eq_true AA;generalize qA:Sp.txts (d+1) (y::ys)=E at hl qm qj ⊢;simp only[List.isEmpty_cons,Hh,if_false,Ar,Ao]at hl;have a5:Am .add (T++(H++32::123::10::(B++T))) [125,32,101,108,115,101,32,123,10]=some (.str (T++(H++32::123::10::(B++(T++[125,32,101,108,115,101,32,123,10]))))):=Ap AQ AE;have a6:Am .add (T++(H++32::123::10::(B++(T++[125,32,101,108,115,101,32,123,10])))) E=some (.str (T++(H++32::123::10::(B++(T++125::32::101::108::115::101::32::123::10::E))))):=Ap AQ AE;have a7:Am .add (T++(H++32::123::10::(B++(T++125::32::101::108::115::101::32::123::10::E)))) T=some (.str (T++(H++32::123::10::(B++(T++125::32::101::108::115::101::32::123::10::(E++T)))))):=Ap AQ AE;have a8:Am .add (T++(H++32::123::10::(B++(T++125::32::101::108::115::101::32::123::10::(E++T))))) [125,10]=some (.str (T++(H++32::123::10::(B++(T++125::32::101::108::115::101::32::123::10::(E++(T++[125,10]))))))):=Ap AQ AE;simp only[go_sem,g1,g2,mx];refine Ab hi AB ?_;simp only[go_sem];refine Ab hh (by grind) ?_;simp only[go_sem,↓a1,↓a2,g3,g4,qd];refine Ab ql AB ?_;simp only[go_sem,↓a3,Au,e0,↓a4,↓a5,qd];refine Ab qm (by simp only[go_sem,Az]) ?_;simp only[go_sem,↓a6,↓a7,↓a8];exact Ah rfl AE
def Ats{s:Sp}(h:CnS s)(d:Nat)(hl:(s.txt d).length<=100000000000000):Fn TT PT 68 [.agg s.row,iV (d:Int)] (.str (s.txt d)):=A5t h d _ AA hl
theorem Ayq:∀ (k u:Nat),(Il k u).length<=k
 | 0,_=>by simp[Il]
 | k+1,u=>by
  have:=Ayq k (u / 10)
  grind[Il]
def Xt(n:Int):(B4 n).length<=21:=by
 grind[B4,Ayq]
def A89{d:Dp}(h:CnD d)(hn:d.nm.length<=100000000000000)(ho:d.kind=5->d.on.length<=100000000000000):Fn TT PT 37 [.agg d.row] (.str (De d++[59,10])):=by
 obtain⟨⟨k1,k2⟩,⟨h0,h1,h2⟩,i1,i2,h3⟩:=h;obtain⟨kind,line,nm,size,init,on⟩:=d;simp only at k1 k2 h0 h1 h2 i1 i2 h3 hn ho;unfold Dp.row;simp only;have l1:=Xt size;have l2:=Xt init;have hk:kind=1\/kind=2\/kind=3\/kind=4\/kind=5\/kind=6:=by omega
 have qx:(size=0/\((0:Int)<0)=False/\True)\/(size≠0/\((0:Int)<size)=True/\Yn [iV size]=some (.str (B4 size))):=by
  by_cases hz:size=0
  .grind
  .exact .inr ⟨hz,eq_true AA,by unfold Yn;grind⟩
 have qs:(init=0/\((0:Int) != 0)=false/\True)\/(init≠0/\(init != 0)=true/\Qv [iV init,iV 10]=some (.str (B4 init))):=by
  by_cases hz:init=0
  .grind
  .simp_all [Qv]
 rcases hk with rfl | hk
 .rcases qx with⟨rfl,z1,z2⟩ | ⟨z0,z1,z2⟩<;>rcases qs with⟨rfl,n1,n2⟩ | ⟨n0,n1,n2⟩
  .refine Bj T37 rfl ?_;have a1:Am .add ([118,97,114,32]) (nm)=some (.str (118::97::114::32::nm)):=Ap (by grind) AE;have a2:Am .add (118::97::114::32::nm) ([59,10])=some (.str (118::97::114::32::(nm++[59,10]))):=Ap (by grind) AE;simp only[go_sem,Int.reduceLT,Int.reduceBEq,gt_iff_lt,z1,n1];refine Af AD ?_;simp only[go_sem,↓a1,↓a2];simp only[go_sem,z1,n1,Int.reduceBEq,↓a1,↓a2];exact Ah rfl (by simp[De,Jp])
  .refine Bj T37 rfl ?_;have a1:Am .add ([118,97,114,32]) (nm)=some (.str (118::97::114::32::nm)):=Ap (by grind) AE;have a2:Am .add (118::97::114::32::nm) ([32,61,32])=some (.str (118::97::114::32::(nm++[32,61,32]))):=Ap (by grind) AE;have a3:Am .add (118::97::114::32::(nm++[32,61,32])) (B4 init)=some (.str (118::97::114::32::(nm++32::61::32::B4 init))):=Ap AJ AE;have a4:Am .add (118::97::114::32::(nm++32::61::32::B4 init)) ([59,10])=some (.str (118::97::114::32::(nm++32::61::32::(B4 init++[59,10])))):=Ap AJ AE;simp only[go_sem,Int.reduceLT,Int.reduceBEq,gt_iff_lt,z1,n1];refine Af AD ?_;simp only[go_sem,↓a1,↓a2,↓a3,↓a4];simp only[go_sem,z1,n1,Int.reduceBEq,↓a1,↓a2,↓a3,↓a4];refine Fl P67 AB n2 ?_;simp only[go_sem,z1,n1,Int.reduceBEq,↓a1,↓a2,↓a3,↓a4];exact Ah rfl (by simp[De,Jp,n0])
  .refine Bj T37 rfl ?_;have a1:Am .add ([118,97,114,32]) (nm)=some (.str (118::97::114::32::nm)):=Ap (by grind) AE;have a2:Am .add (118::97::114::32::nm) ([91])=some (.str (118::97::114::32::(nm++[91]))):=Ap (by grind) AE;have c1:Am .add (118::97::114::32::(nm++[91])) (B4 size)=some (.str (118::97::114::32::(nm++91::B4 size))):=Ap (by grind) AE;have c2:Am .add (118::97::114::32::(nm++91::B4 size)) [93]=some (.str (118::97::114::32::(nm++91::(B4 size++[93])))):=Ap (by grind) AE;have a3:Am .add (118::97::114::32::(nm++91::(B4 size++[93]))) ([59,10])=some (.str (118::97::114::32::(nm++91::(B4 size++[93,59,10])))):=Ap (by grind) AE;simp only[go_sem,Int.reduceLT,Int.reduceBEq,gt_iff_lt,z1,n1];refine Af AD ?_;simp only[go_sem,↓a1,↓a2,↓c1,↓c2,↓a3];simp only[go_sem,z1,↓a1,↓a2,↓c1,↓c2,↓a3];refine Fl P66 AB z2 ?_;simp only[go_sem,z1,n1,Int.reduceBEq,↓a1,↓a2,↓c1,↓c2,↓a3];exact Ah rfl (by simp[De,Jp,z0])
  .refine Bj T37 rfl ?_;have a1:Am .add ([118,97,114,32]) (nm)=some (.str (118::97::114::32::nm)):=Ap (by grind) AE;have a2:Am .add (118::97::114::32::nm) ([91])=some (.str (118::97::114::32::(nm++[91]))):=Ap (by grind) AE;have c1:Am .add (118::97::114::32::(nm++[91])) (B4 size)=some (.str (118::97::114::32::(nm++91::B4 size))):=Ap (by grind) AE;have c2:Am .add (118::97::114::32::(nm++91::B4 size)) [93]=some (.str (118::97::114::32::(nm++91::(B4 size++[93])))):=Ap (by grind) AE;have a3:Am .add (118::97::114::32::(nm++91::(B4 size++[93]))) ([32,61,32])=some (.str (118::97::114::32::(nm++91::(B4 size++[93,32,61,32])))):=Ap (by grind) AE;have a4:Am .add (118::97::114::32::(nm++91::(B4 size++[93,32,61,32]))) (B4 init)=some (.str (118::97::114::32::(nm++91::(B4 size++93::32::61::32::B4 init)))):=Ap AJ AE;have a5:Am .add (118::97::114::32::(nm++91::(B4 size++93::32::61::32::B4 init))) ([59,10])=some (.str (118::97::114::32::(nm++91::(B4 size++93::32::61::32::(B4 init++[59,10]))))):=Ap AJ AE;simp only[go_sem,Int.reduceLT,Int.reduceBEq,gt_iff_lt,z1,n1];refine Af AD ?_;simp only[go_sem,↓a1,↓a2,↓c1,↓c2,↓a3,↓a4,↓a5];simp only[go_sem,z1,↓a1,↓a2,↓c1,↓c2,↓a3,↓a4,↓a5];refine Fl P66 AB z2 ?_;simp only[go_sem,z1,n1,Int.reduceBEq,↓a1,↓a2,↓c1,↓c2,↓a3,↓a4,↓a5];refine Fl P67 AB n2 ?_;simp only[go_sem,z1,n1,Int.reduceBEq,↓a1,↓a2,↓c1,↓c2,↓a3,↓a4,↓a5];exact Ah rfl (by simp_all [De,Jp])
 rcases hk with rfl | hk
 .obtain rfl:size=0:=h2 AA;have z1:((0:Int)<0)=False:=eq_false AA;rcases qs with⟨rfl,n1,n2⟩ | ⟨n0,n1,n2⟩
  .refine Bj T37 rfl ?_;have a1:Am .add ([118,111,108,97,116,105,108,101,32]) (nm)=some (.str (118::111::108::97::116::105::108::101::32::nm)):=Ap AJ AE;have a2:Am .add (118::111::108::97::116::105::108::101::32::nm) ([59,10])=some (.str (118::111::108::97::116::105::108::101::32::(nm++[59,10]))):=Ap AJ AE;simp only[go_sem,Int.reduceLT,Int.reduceBEq,gt_iff_lt,z1,n1];refine Af AD ?_;simp only[go_sem,↓a1,↓a2];simp only[go_sem,z1,n1,Int.reduceBEq,↓a1,↓a2];exact Ah rfl (by simp[De,Jp])
  .refine Bj T37 rfl ?_;have a1:Am .add ([118,111,108,97,116,105,108,101,32]) (nm)=some (.str (118::111::108::97::116::105::108::101::32::nm)):=Ap AJ AE;have a2:Am .add (118::111::108::97::116::105::108::101::32::nm) ([32,61,32])=some (.str (118::111::108::97::116::105::108::101::32::(nm++[32,61,32]))):=Ap AJ AE;have a3:Am .add (118::111::108::97::116::105::108::101::32::(nm++[32,61,32])) (B4 init)=some (.str (118::111::108::97::116::105::108::101::32::(nm++32::61::32::B4 init))):=Ap AJ AE;have a4:Am .add (118::111::108::97::116::105::108::101::32::(nm++32::61::32::B4 init)) ([59,10])=some (.str (118::111::108::97::116::105::108::101::32::(nm++32::61::32::(B4 init++[59,10])))):=Ap AJ AE;simp only[go_sem,Int.reduceLT,Int.reduceBEq,gt_iff_lt,z1,n1];refine Af AD ?_;simp only[go_sem,↓a1,↓a2,↓a3,↓a4];simp only[go_sem,z1,n1,Int.reduceBEq,↓a1,↓a2,↓a3,↓a4];refine Fl P67 AB n2 ?_;simp only[go_sem,z1,n1,Int.reduceBEq,↓a1,↓a2,↓a3,↓a4];exact Ah rfl (by simp[De,Jp,n0])
 rcases hk with rfl | hk
 .obtain rfl:size=0:=h2 AA;obtain rfl:init=0:=h3 AA AA;have z1:((0:Int)<0)=False:=eq_false AA;have n1:((0:Int) != 0)=false:=by decide
  refine Bj T37 rfl ?_;have a1:Am .add ([109,117,116,101,120,32]) (nm)=some (.str (109::117::116::101::120::32::nm)):=Ap AJ AE;have a2:Am .add (109::117::116::101::120::32::nm) ([59,10])=some (.str (109::117::116::101::120::32::(nm++[59,10]))):=Ap AJ AE;simp only[go_sem,Int.reduceLT,Int.reduceBEq,gt_iff_lt,z1,n1];refine Af AD ?_;simp only[go_sem,↓a1,↓a2];simp only[go_sem,z1,n1,Int.reduceBEq,↓a1,↓a2];exact Ah rfl (by simp[De])
 rcases hk with rfl | hk
 .obtain rfl:size=0:=h2 AA;obtain rfl:init=0:=h3 AA AA;have z1:((0:Int)<0)=False:=eq_false AA;have n1:((0:Int) != 0)=false:=by decide
  refine Bj T37 rfl ?_;have a1:Am .add ([114,119,108,111,99,107,32]) (nm)=some (.str (114::119::108::111::99::107::32::nm)):=Ap AJ AE;have a2:Am .add (114::119::108::111::99::107::32::nm) ([59,10])=some (.str (114::119::108::111::99::107::32::(nm++[59,10]))):=Ap AJ AE;simp only[go_sem,Int.reduceLT,Int.reduceBEq,gt_iff_lt,z1,n1];refine Af AD ?_;simp only[go_sem,↓a1,↓a2];simp only[go_sem,z1,n1,Int.reduceBEq,↓a1,↓a2];exact Ah rfl (by simp[De])
 rcases hk with rfl | hk
 .have ho:=ho rfl;obtain rfl:size=0:=h2 AA;obtain rfl:init=0:=h3 AA AA;have z1:((0:Int)<0)=False:=eq_false AA;have n1:((0:Int) != 0)=false:=by decide
  refine Bj T37 rfl ?_;have a1:Am .add ([99,111,110,100,32]) (nm)=some (.str (99::111::110::100::32::nm)):=Ap AJ AE;have a2:Am .add (99::111::110::100::32::nm) ([32])=some (.str (99::111::110::100::32::(nm++[32]))):=Ap (by grind) AE;have a3:Am .add (99::111::110::100::32::(nm++[32])) (on)=some (.str (99::111::110::100::32::(nm++32::on))):=Ap AJ AE;have a4:Am .add (99::111::110::100::32::(nm++32::on)) ([59,10])=some (.str (99::111::110::100::32::(nm++32::(on++[59,10])))):=Ap AJ AE;simp only[go_sem,Int.reduceLT,Int.reduceBEq,gt_iff_lt,z1,n1];refine Af AD ?_;simp only[go_sem,↓a1,↓a2,↓a3,↓a4];simp only[go_sem,z1,n1,Int.reduceBEq,↓a1,↓a2,↓a3,↓a4];exact Ah rfl (by simp[De])
 subst hk;obtain rfl:size=0:=h2 AA;obtain rfl:init=0:=h3 AA AA;have z1:((0:Int)<0)=False:=eq_false AA;have n1:((0:Int) != 0)=false:=by decide
 refine Bj T37 rfl ?_;have a1:Am .add ([102,117,116,117,114,101,32]) (nm)=some (.str (102::117::116::117::114::101::32::nm)):=Ap AJ AE;have a2:Am .add (102::117::116::117::114::101::32::nm) ([59,10])=some (.str (102::117::116::117::114::101::32::(nm++[59,10]))):=Ap AJ AE;simp only[go_sem,Int.reduceLT,Int.reduceBEq,gt_iff_lt,z1,n1];refine Af AD ?_;simp only[go_sem,↓a1,↓a2];simp only[go_sem,z1,n1,Int.reduceBEq,↓a1,↓a2];exact Ah rfl (by simp[De])
def A9a{d:Dp}(h:1<=d.kind/\d.kind<=6):d.nm.length<=(De d).length/\(d.kind=5->d.on.length<=(De d).length):=by
 unfold De
 grind
def jr:List (List UInt8)->List UInt8
 | []=>[]
 | a::l=>44::32::(a++jr l)
theorem Alm:∀ (a:List UInt8) (l:List (List UInt8)),Eo (a::l)=a++jr l
 | a,[]=>by simp[Eo,jr]
 | a,b::l=>by rw[Eo,Alm b l,jr]
def Uq(l:List (List UInt8))(k:Nat):List UInt8:=if k=0 then Eo l else jr (l.drop k)
def A34(l:List (List UInt8)):l.length<=(Eo l).length+1:=by
 have:∀ l:List (List UInt8),l.length<=(jr l).length:=fun l=>by
  induction l with
  | nil=>simp
  | cons a l ih=>grind[jr]
 cases l with
 | nil=>simp
 | cons a l=>grind[Alm]
def Ai8{α:Type}(f:α->List UInt8)(hf:∀ x,1<=(f x).length):∀ l:List α,l.length<=((l.map f).flatten).length
 | []=>by simp
 | y::l=>by
  have:=Ai8 f hf l
  grind
def A5u{K:List It}{Q:Env->St->Prop}{A C:V}{l:List (List UInt8)}{z:Bool}{u j0:Nat}{nm:List UInt8}{line:Int}{B:V}{s:St}(hs:s[j0]?=some (.row [.str nm,iV line,SL z u (l.map fun x=>[V.str x]),B] 89 0 0))(qb:List UInt8)(hl:qb.length+(Eo l).length<=100000000000000)
  (h:W TT PT K [(1,A),(3,.str (qb++Eo l)),(5,C),(6,.ptr j0 0 0),(7,iV (l.length:Int))] s Q) :
  W TT PT (.l [1,3,5,6,7] lp12_1::.b 4::K) [(1,A),(3,.str qb),(5,C),(6,.ptr j0 0 0),(7,iV 0)] s Q:=by
 have qw:=A34 l;have qh:(l.map fun x=>[V.str x]).length=l.length:=Au ..;refine Bk (α:=Nat × List UInt8) (fun a=>l.length - a.1) (fun a=>[(1,A),(3,.str a.2),(5,C),(6,.ptr j0 0 0),(7,iV (a.1:Int))]) (fun _=>s) (fun a=>a.1<=l.length/\a.2++Uq l a.1=qb++Eo l) ?_ (0,qb) ⟨Ax _,rfl⟩;rintro⟨i,c⟩ ⟨hi,hc⟩ ih;simp only at hi hc ih;refine Bd Bob ?_;have qc:=congrArg List.length hc;simp only[Ar]at qc;rcases Bh i l.length with h' | h'
 .obtain⟨x,hx,hd,hm⟩:=Bq h';have qd:=A1 (show i<9223372036854775807 by omega);by_cases qr:i=0
  .subst qr;have f0:((0:Int)<((0:Nat):Int))=False:=eq_false AA;have qu:((0:Int)<0)=False:=eq_false AA;have f1:((0:Int)<(l.length:Int))=True:=eq_true AA;have qy:l=x::l.drop 1:=by simpa using hd
   have hj:Uq l 0=x++jr (l.drop 1):=by
    unfold Uq;rw[if_pos rfl]
    conv=>lhs;rw[qy]
    exact Alm x _
   rw[hj]at hc qc;rw[Ar]at qc;have a1:Am .add c x=some (.str (c++x)):=Ap AA rfl;simp only[go_sem,hs,qh,f1,f0,qu,As,hx,↓a1,qd];refine Aq (ih (1,c++x) AA ⟨by omega,?_⟩) rfl;simp only;rw[<-hc,Br];rfl
  .have f0:((0:Int)<(i:Int))=True:=eq_true AA
   have hj:Uq l i=44::32::(x++jr (l.drop (i+1))):=by
    unfold Uq;rw[if_neg qr,hd,jr]
   rw[hj]at hc qc;simp only[Ao,Ar]at qc;have a1:Am .add c [44,32]=some (.str (c++[44,32])):=Ap (by grind) rfl;have a2:Am .add (c++[44,32]) x=some (.str (c++44::32::x)):=Ap (by grind) AE;simp only[go_sem,hs,qh,Ay h',f0,↓a1];simp only[go_sem,hs,As,hx,↓a2,qd];refine Aq (ih (i+1,c++44::32::x) AA ⟨by omega,?_⟩) rfl
   simp_all [Uq]
 .obtain rfl:i=l.length:=by omega
  have hj:Uq l l.length=[]:=by
   unfold Uq
   split
   .rename_i h0;rw[List.eq_nil_of_length_eq_zero h0];rfl
   .rw[Ec h'];rfl
  rw[hj,B3]at hc;subst hc;simp only[go_sem,hs,qh,Bl h'];exact h
def Att{p:Gp}(h:CnG p)(hl:(Fd p).length<=100000000000000):Fn TT PT 12 [.agg p.row] (.str (Fd p)):=by
 obtain⟨hD,hT⟩:=h;obtain⟨dz,dt,decls,tz,tt,thrs⟩:=p;simp only at hD hT;unfold Fd at hl ⊢;simp only at hl ⊢;unfold Gp.row;simp only;have n1:(decls.map Dp.row).length=decls.length:=Au ..;have n2:(thrs.map Tp.row).length=thrs.length:=Au ..;rw[Ar]at hl;have c1:=Ai8 (fun d=>De d++[59,10]) (fun x=>by simp) decls;have c2:=Ai8 Ea (fun x=>by simp[Ea]) thrs;refine Bj T12 rfl ?_;simp only[go_sem];refine Bk (α:=Nat × List UInt8) (fun a=>decls.length - a.1) (fun a=>[(1,.ptr 0 0 0),(3,.str a.2),(4,iV (a.1:Int))]) (fun _=>[.row [SL dz dt (decls.map Dp.row),SL tz tt (thrs.map Tp.row)] 29 0 0]) (fun a=>a.1<=decls.length/\a.2++((decls.drop a.1).map fun d=>De d++[59,10]).flatten=(decls.map fun d=>De d++[59,10]).flatten) ?_ (0,[]) ⟨Ax _,rfl⟩;rintro⟨i,qb⟩ ⟨hi,hc⟩ ih;simp only at hi hc ih;refine Bd Boa ?_;have qc:=congrArg List.length hc;simp only[Ar]at qc;rcases Bh i decls.length with h' | h'
 .obtain⟨x,hx,hd,hm⟩:=Bq h';rw[hd,Az,Fg]at hc qc;simp only[Ar,Ao,Di]at qc;obtain⟨e1,e2⟩:=A9a (hD x hm).kind;have hf:=A89 (hD x hm) AA (fun h5=>by omega);have a1:Am .add qb (De x++[59,10])=some (.str (qb++(De x++[59,10]))):=Ap (by grind) rfl;have qf:x.row=[iV x.kind,iV x.line,.str x.nm,iV x.size,iV x.init,.str x.on]:=rfl;rw[qf]at hf;simp only[go_sem,n1,Ay h',As,hx,qf];refine Ab hf AB ?_;simp only[go_sem,↓a1,A1 (show i<9223372036854775807 by omega)];refine Aq (ih (i+1,qb++(De x++[59,10])) AA ⟨by omega,?_⟩) rfl
  grind
 .obtain rfl:i=decls.length:=by omega
  rw[Ec h']at hc;simp only[Bz,Zl,B3]at hc;subst hc;clear ih;simp only[go_sem,n1,Bl h'];refine Bk (α:=Nat × List UInt8 × St) (fun a=>thrs.length - a.1) (fun a=>[(1,.ptr 0 0 0),(3,.str a.2.1),(5,iV (a.1:Int))]) (fun a=>a.2.2) (fun a=>a.1<=thrs.length/\a.2.1++((thrs.drop a.1).map Ea).flatten=(decls.map fun d=>De d++[59,10]).flatten++(thrs.map Ea).flatten/\a.2.2[0]?=some (.row [SL dz dt (decls.map Dp.row),SL tz tt (thrs.map Tp.row)] 29 0 0)) ?_ (0,_,_) ⟨Ax _,rfl,rfl⟩;rintro⟨i,qb,s⟩ ⟨hi,hc,hs⟩ ih;simp only at hi hc hs ih;refine Bd Boc ?_;have qc:=congrArg List.length hc;simp only[Ar]at qc;rcases Bh i thrs.length with h' | h'
  .obtain⟨x,hx,hd,hm⟩:=Bq h';rw[hd,Az,Fg]at hc qc;rw[Ar]at qc;have qt:=hT x hm;obtain⟨nm,line,lz,lt,locals,bz,bt,body⟩:=x;simp only at qt
   have qk:(Ea ⟨nm,line,lz,lt,locals,bz,bt,body⟩).length=nm.length+(Eo locals).length+(Sp.txts 1 body).length+14:=by
    simp[Ea];omega
   have hb:=Ajw bz bt 1 body (fun q hq=>Ats (qt q hq) 1 (by have:=Z4 1 hq;omega)) AA (by grind[Z0]);obtain⟨s',qp⟩:∃ s',s'=s++[Ob.row [.str nm,iV line,SL lz lt (locals.map fun x=>[V.str x]),SL bz bt (body.map Sp.row)] 89 0 0]:=⟨_,rfl⟩;have k1:s'[s.length]?=some (.row [.str nm,iV line,SL lz lt (locals.map fun x=>[V.str x]),SL bz bt (body.map Sp.row)] 89 0 0):=by rw[qp,Fz (Ak _),Id];rfl
   have k0:s'[0]?=some (.row [SL dz dt (decls.map Dp.row),SL tz tt (thrs.map Tp.row)] 29 0 0):=by rw[qp];exact Bs hs
   have qf:Tp.row ⟨nm,line,lz,lt,locals,bz,bt,body⟩=[.str nm,iV line,SL lz lt (locals.map fun x=>[V.str x]),SL bz bt (body.map Sp.row)]:=rfl;have a1:Am .add qb [116,104,114,101,97,100,32]=some (.str (qb++[116,104,114,101,97,100,32])):=Ap (by grind) rfl;have a2:Am .add (qb++[116,104,114,101,97,100,32]) nm=some (.str (qb++116::104::114::101::97::100::32::nm)):=Ap (by grind) AE;have a3:Am .add (qb++116::104::114::101::97::100::32::nm) [40]=some (.str (qb++116::104::114::101::97::100::32::(nm++[40]))):=Ap (by grind) AE;simp only[go_sem,hs,n2,Ay h',As,hx,qf,↓a1,↓a2,↓a3];rw[<-qp];refine A5u k1 _ AQ ?_;rw[show qb++116::104::114::101::97::100::32::(nm++[40])++Eo locals=qb++116::104::114::101::97::100::32::(nm++40::Eo locals) by simp];have a4:Am .add (qb++116::104::114::101::97::100::32::(nm++40::Eo locals)) [41,32,123,10]=some (.str (qb++116::104::114::101::97::100::32::(nm++40::(Eo locals++[41,32,123,10])))):=Ap AQ AE;have a5:Am .add (qb++116::104::114::101::97::100::32::(nm++40::(Eo locals++[41,32,123,10]))) (Sp.txts 1 body)=some (.str (qb++116::104::114::101::97::100::32::(nm++40::(Eo locals++41::32::123::10::Sp.txts 1 body)))):=Ap AQ AE;have a6:Am .add (qb++116::104::114::101::97::100::32::(nm++40::(Eo locals++41::32::123::10::Sp.txts 1 body))) [125,10]=some (.str (qb++116::104::114::101::97::100::32::(nm++40::(Eo locals++41::32::123::10::(Sp.txts 1 body++[125,10]))))):=Ap AQ AE;simp only[go_sem,k1,↓a4];refine Ab hb AB ?_;simp only[go_sem,↓a5,↓a6,A1 (show i<9223372036854775807 by omega)];refine Aq (ih (i+1,qb++Ea ⟨nm,line,lz,lt,locals,bz,bt,body⟩,s') AA ⟨by omega,by grind,k0⟩) (by simp[Ea];rfl)
  .obtain rfl:i=thrs.length:=by omega
   rw[Ec h']at hc;simp only[Bz,Zl,B3]at hc;subst hc;simp only[go_sem,hs,n2,Bl h'];exact F7 rfl
