/- Plain: programs as trees, their rows and texts. -/
import Derived.Test.YtlehfgdhebapeaaGreatDoorNa
import Derived.Test.YtlehfgdhebapeaaGreatDoorA5
import Derived.Test.YtlehfgdhebapeaaGreatDoorNu
set_option linter.all false
namespace Go.Proofs.YtlehfgdhebapeaaGreatDoor.KM
open Go
/-! expressions -/
structure Xp where
 op:Int
 n:Int
 nm:List UInt8
 z:Bool
 t:Nat
 l:List Xp
mutual
def Xp.row:Xp->List V
 | ⟨op,n,nm,z,t,l⟩=>[.int .i64 op,.int .i64 n,.str nm,SL z t (Xp.rows l)]
def Xp.rows:List Xp->List (List V)
 | []=>[]
 | x::l=>x.row::Xp.rows l
end
theorem Ae7:∀ l:List Xp,Xp.rows l=l.map Xp.row
 | []=>rfl
 | x::l=>by rw[Xp.rows,Ae7 l];rfl
theorem Au(x:Xp):x.row=[.int .i64 x.op,.int .i64 x.n,.str x.nm,SL x.z x.t (x.l.map Xp.row)]:=by
 rw[<-Ae7]
 cases x
 rfl
def Xp.zero:Xp:=⟨0,0,[],true,0,[]⟩
def Bh(op:Int):List UInt8:=
 match op with
 | 4=>[45] | 5=>[33] | 6=>[43] | 7=>[45] | 8=>[42] | 9=>[47] | 10=>[37] | 11=>[61,61] | 12=>[33,61] | 13=>[60] | 14=>[60,61] | 15=>[62] | 16=>[62,61] | 17=>[38,38] | 18=>[124,124] | _=>[]
def As(op:Int):Int:=
 match op with
 | 4=>6 | 5=>6 | 6=>4 | 7=>4 | 8=>5 | 9=>5 | 10=>5 | 11=>3 | 12=>3 | 13=>3 | 14=>3 | 15=>3 | 16=>3 | 17=>2 | 18=>1 | _=>7
def C3(o:Int × List UInt8)(level:Int):List UInt8:=if As o.1<level then 40::(o.2++[41]) else o.2
def Fe(op:Int):Int:=if As op=3 then 4 else As op
def Dk(op n:Int)(nm:List UInt8)(ts:List (Int × List UInt8)):List UInt8:=
 if op=1 then A4 n else if op=2 then nm else
 match ts with
 | [a]=>if op=3 then nm++91::(a.2++[93]) else Bh op++C3 a 6
 | [a,b]=>C3 a (Fe op)++32::(Bh op++32::C3 b (As op+1))
 | _=>[]
mutual
def Xp.txt:Xp->List UInt8
 | ⟨op,n,nm,_,_,l⟩=>Dk op n nm (Xp.txts l)
def Xp.txts:List Xp->List (Int × List UInt8)
 | []=>[]
 | x::l=>(x.op,x.txt)::Xp.txts l
end
theorem Ae8:∀ l:List Xp,Xp.txts l=l.map fun x=>(x.op,x.txt)
 | []=>rfl
 | x::l=>by rw[Xp.txts,Ae8 l];rfl
theorem F9(x:Xp):x.txt=Dk x.op x.n x.nm (x.l.map fun x=>(x.op,x.txt)):=by
 rw[<-Ae8]
 cases x
 rfl
inductive Cn:Xp->Prop
 | num {n:Int} {nm:List UInt8} {z:Bool} {t:Nat} : -9223372036854775808<=n/\n<=9223372036854775807->Cn ⟨1,n,nm,z,t,[]⟩
 | name {n:Int} {nm:List UInt8} {z:Bool} {t:Nat}:Cn ⟨2,n,nm,z,t,[]⟩
 | idx {n:Int} {nm:List UInt8} {z:Bool} {t:Nat} {a:Xp}:Cn a->Cn ⟨3,n,nm,z,t,[a]⟩
 | un {op n:Int} {nm:List UInt8} {z:Bool} {t:Nat} {a:Xp}:op=4\/op=5->Cn a->Cn ⟨op,n,nm,z,t,[a]⟩
 | bin {op n:Int} {nm:List UInt8} {z:Bool} {t:Nat} {a b:Xp}:6<=op/\op<=18->Cn a->Cn b->Cn ⟨op,n,nm,z,t,[a,b]⟩
/-! statements -/
structure Sp where
 op:Int
 line:Int
 nm:List UInt8
 arg:List UInt8
 iz:Bool
 it:Nat
 idx:List Xp
 ex:Xp
 bz:Bool
 bt:Nat
 body:List Sp
 ez:Bool
 et:Nat
 els:List Sp
mutual
def Sp.row:Sp->List V
 | ⟨op,line,nm,arg,iz,it,idx,ex,bz,bt,body,ez,et,els⟩=>[.int .i64 op,.int .i64 line,.str nm,.str arg,SL iz it (idx.map Xp.row)]++ex.row++[SL bz bt (Sp.rows body),SL ez et (Sp.rows els)]
def Sp.rows:List Sp->List (List V)
 | []=>[]
 | x::l=>x.row::Sp.rows l
end
theorem Zp:∀ l:List Sp,Sp.rows l=l.map Sp.row
 | []=>rfl
 | x::l=>by rw[Sp.rows,Zp l];rfl
theorem Mz(s:Sp):s.row=[.int .i64 s.op,.int .i64 s.line,.str s.nm,.str s.arg,SL s.iz s.it (s.idx.map Xp.row)]++s.ex.row++[SL s.bz s.bt (s.body.map Sp.row),SL s.ez s.et (s.els.map Sp.row)]:=by
 rw[<-Zp,<-Zp]
 cases s
 rfl
def B2(op:Int):List UInt8:=
 match op with
 | 2=>[105,102] | 3=>[119,104,105,108,101] | 4=>[108,111,99,107] | 5=>[114,101,97,100] | 6=>[119,114,105,116,101] | 7=>[116,114,97,110,115,97,99,116,105,111,110] | 8=>[97,116,111,109,105,99] | 9=>[119,97,105,116] | 10=>[110,111,116,105,102,121] | 11=>[110,111,116,105,102,121,97,108,108] | 12=>[115,112,97,119,110] | 13=>[106,111,105,110] | 14=>[115,101,116] | 15=>[103,101,116] | _=>[]
def Eh(l:List Xp):List UInt8:=match l with
 | a::_=>91::(a.txt++[93])
 | []=>[]
def B6(s:Sp):List UInt8:=
 if s.op=1 then s.nm++(Eh s.idx++32::61::32::s.ex.txt)
 else if s.op=2\/s.op=3 then B2 s.op++32::s.ex.txt
 else if s.op=7\/s.op=8 then B2 s.op
 else if s.op=14 then B2 s.op++32::(s.nm++32::s.ex.txt)
 else if s.op=15 then B2 s.op++32::(s.nm++32::s.arg)
 else B2 s.op++32::s.nm
def Es(d:Nat):List UInt8:=List.replicate (2*d) 32
def Bk(op:Int):Bool:=decide (2<=op)&&decide (op<=8)
mutual
def Sp.txt:Nat->Sp->List UInt8
 | d,⟨op,line,nm,arg,iz,it,idx,ex,bz,bt,body,ez,et,els⟩=>
  Es d++(B6 ⟨op,line,nm,arg,iz,it,idx,ex,bz,bt,body,ez,et,els⟩ ++
   if Bk op then 32::123::10::(Sp.txts (d+1) body++((if els.isEmpty then [] else Es d++125::32::101::108::115::101::32::123::10::Sp.txts (d+1) els)++(Es d++[125,10]))) else [59,10])
def Sp.txts:Nat->List Sp->List UInt8
 | _,[]=>[]
 | d,x::l=>x.txt d++Sp.txts d l
end
inductive CnS:Sp->Prop
 | mk {s:Sp}:1<=s.op/\s.op<=15->s.idx.length<=1->(s.op≠1->s.idx=[])->(∀ x∈s.idx,Cn x)->((s.op=1\/s.op=2\/s.op=3\/s.op=14)->Cn s.ex)->(Bk s.op=false->s.body=[])->(s.op≠2->s.els=[])->(∀ x∈s.body,CnS x)->(∀ x∈s.els,CnS x)->CnS s
/-! declarations, threads, programs -/
structure Dp where
 kind:Int
 line:Int
 nm:List UInt8
 size:Int
 init:Int
 on:List UInt8
def Dp.row(d:Dp):List V:=[.int .i64 d.kind,.int .i64 d.line,.str d.nm,.int .i64 d.size,.int .i64 d.init,.str d.on]
def Dl(n:Int):List UInt8:=if n=0 then [] else 32::61::32::A4 n
def Bq(d:Dp):List UInt8:=
 if d.kind=1 then [118,97,114,32]++(d.nm++((if d.size=0 then [] else 91::(A4 d.size++[93]))++Dl d.init))
 else if d.kind=2 then [118,111,108,97,116,105,108,101,32]++(d.nm++Dl d.init)
 else if d.kind=3 then [109,117,116,101,120,32]++d.nm
 else if d.kind=4 then [114,119,108,111,99,107,32]++d.nm
 else if d.kind=5 then [99,111,110,100,32]++(d.nm++32::d.on)
 else [102,117,116,117,114,101,32]++d.nm
structure CnD (d:Dp):Prop where
 kind:1<=d.kind/\d.kind<=6
 size:0<=d.size/\d.size<=9223372036854775807/\(d.kind≠1->d.size=0)
 init : -9223372036854775808<=d.init/\d.init<=9223372036854775807/\(d.kind≠1->d.kind≠2->d.init=0)
structure Tp where
 nm:List UInt8
 line:Int
 lz:Bool
 lt:Nat
 locals:List (List UInt8)
 bz:Bool
 bt:Nat
 body:List Sp
def Tp.row(t:Tp):List V:=[.str t.nm,.int .i64 t.line,SL t.lz t.lt (t.locals.map fun s=>[V.str s]),SL t.bz t.bt (t.body.map Sp.row)]
def Ca:List (List UInt8)->List UInt8
 | []=>[]
 | [a]=>a
 | a::b::l=>a++44::32::Ca (b::l)
def Cs(t:Tp):List UInt8:=[116,104,114,101,97,100,32]++(t.nm++40::(Ca t.locals++41::32::123::10::(Sp.txts 1 t.body++[125,10])))
structure Gp where
 dz:Bool
 dt:Nat
 decls:List Dp
 tz:Bool
 tt:Nat
 thrs:List Tp
def Gp.row(p:Gp):List V:=[SL p.dz p.dt (p.decls.map Dp.row),SL p.tz p.tt (p.thrs.map Tp.row)]
def D4(p:Gp):List UInt8:=(p.decls.map fun d=>Bq d++[59,10]).flatten++(p.thrs.map Cs).flatten
structure CnG (p:Gp):Prop where
 decls:∀ d∈p.decls,CnD d
 thrs:∀ t∈p.thrs,∀ s∈t.body,CnS s
theorem Nu{x:Xp}(h:Cn x):1<=x.op/\x.op<=18:=by
 cases h with
 | num _=>exact⟨by simp,by simp⟩
 | name=>exact⟨by simp,by simp⟩
 | idx _=>exact⟨by simp,by simp⟩
 | un h _=>simp only;omega
 | bin h _ _=>simp only;omega
theorem Uc{op:Int}(h:1<=op/\op<=18):∃ i:Nat,i<18/\op=(i:Int)+1:=⟨(op - 1).toNat,by omega,by omega⟩
theorem Amr:((List.range 18).all fun i=>match (H6 (J2 TT PT 300) af207 [.int .i64 ((i:Int)+1)] []).bind fun p=>Er p.2 p.1 with
  | some (.tup [.str s,.int .i64 n])=>s==Bh ((i:Int)+1)&&n==As ((i:Int)+1)
  | _=>false)=true:=by kernel_rfl
theorem Q5{op:Int}(h:1<=op/\op<=18):Fn TT PT 207 [.int .i64 op] (.tup [.str (Bh op),.int .i64 (As op)]):=by
 obtain⟨i,hi,rfl⟩:=Uc h
 have hr:=A5.1 Amr i (Ew.2 hi)
 split at hr
 ·rename_i s n hv
  simp only[Ad,beq_iff_eq]at hr
  rw[<-hr.1,<-hr.2]
  exact Q3 Sb T207 rfl rfl hv
 ·cases hr
theorem Ark:((List.range 18).all fun i=>match (H6 (J2 TT PT 300) af87 [.int .i64 ((i:Int)+1)] []).bind fun p=>Er p.2 p.1 with
  | some (.agg [.str s,.int .i64 n])=>s==Bh ((i:Int)+1)&&n==As ((i:Int)+1)
  | _=>false)=true:=by kernel_rfl
theorem Rl{op:Int}(h:1<=op/\op<=18):Fn TT PT 87 [.int .i64 op] (.agg [.str (Bh op),.int .i64 (As op)]):=by
 obtain⟨i,hi,rfl⟩:=Uc h
 have hr:=A5.1 Ark i (Ew.2 hi)
 split at hr
 ·rename_i s n hv
  simp only[Ad,beq_iff_eq]at hr
  rw[<-hr.1,<-hr.2]
  exact Q3 Sb T87 rfl rfl hv
 ·cases hr
theorem Arl:((List.range 18).all fun i=>decide ((Bh ((i:Int)+1)).length<=2/\1<=As ((i:Int)+1)/\As ((i:Int)+1)<=7))=true:=by decide
theorem Xf{op:Int}(h:1<=op/\op<=18):(Bh op).length<=2/\1<=As op/\As op<=7:=by
 obtain⟨i,hi,rfl⟩:=Uc h
 exact of_decide_eq_true (A5.1 Arl i (Ew.2 hi))
theorem Dn(x:Xp):C2 (.agg x.row)=true:=by
 rw[Au]
 simp only[go_sem]
theorem Ai{a b c:List UInt8}(h:a.length+b.length<=9223372036854775807)(hc:a++b=c):Ah .add a b=some (.str c):=by
 simp only[Ah]
 rw[if_pos h,hc]
theorem K5(o:Int × List UInt8)(level:Int):o.2.length<=(C3 o level).length/\(C3 o level).length<=o.2.length+2:=by
 unfold C3
 split
 ·simp only[Ag,Al,Br];omega
 ·omega
theorem Abf{x:Xp}(he:Fn TT PT 167 [.agg x.row] (.str x.txt))(ho:1<=x.op/\x.op<=18)(hl:x.txt.length<=1000000000000000)(level:Int):Fn TT PT 208 [.agg x.row,.int .i64 level] (.str (C3 (x.op,x.txt) level)):=by
 have hs:=Q5 ho
 have hset:=Dn x
 rw[Au]at he hset ⊢
 refine Bz T208 rfl ?_
 have a1:Ah .add [40] x.txt=some (.str (40::x.txt)):=Ai (by simp;omega) rfl
 have a2:Ah .add (40::x.txt) [41]=some (.str (40::(x.txt++[41]))):=Ai (by simp;omega) (by simp)
 unfold C3
 by_cases h:As x.op<level
 ·rw[if_pos h]
  have f:(As x.op<level)=True:=eq_true h
  simp only[go_sem]
  refine Ax hs (by simp only[go_sem]) ?_
  simp only[go_sem,f]
  refine Ax he (by simp only[go_sem]) ?_
  simp only[go_sem,↓a1,↓a2]
  exact E6 rfl
 ·rw[if_neg h]
  have f:(As x.op<level)=False:=eq_false h
  simp only[go_sem]
  refine Ax hs (by simp only[go_sem]) ?_
  simp only[go_sem,f]
  refine Ax he (by simp only[go_sem]) ?_
  simp only[go_sem]
  exact E6 rfl
set_option maxHeartbeats 4000000 in
theorem Tl{x:Xp}(h:Cn x):x.txt.length<=1000000000000000->Fn TT PT 167 [.agg x.row] (.str x.txt):=by
 induction h with
 | @num n nm z t hn=>
  intro hl
  have hs:=Q5 (op:=1) (by omega)
  rw[Au,F9]
  simp only[Be,Dk,if_true]
  refine Bz T167 rfl ?_
  have hf:Jb [.int .i64 n,.int .i64 10]=some (.str (A4 n)):=by unfold Jb;exact if_pos hn
  simp only[go_sem]
  refine Ax hs (by simp only[go_sem]) ?_
  simp only[go_sem,Int.reduceBEq]
  refine Ef P83 (by simp only[go_sem]) hf ?_
  simp only[go_sem]
  exact E6 rfl
 | @name n nm z t=>
  intro hl
  have hs:=Q5 (op:=2) (by omega)
  rw[Au,F9]
  simp only[Be,Dk]
  refine Bz T167 rfl ?_
  simp only[go_sem]
  refine Ax hs (by simp only[go_sem]) ?_
  simp only[go_sem,Int.reduceBEq]
  exact E6 rfl
 | @idx n nm z t a ha ih=>
  intro hl
  have hs:=Q5 (op:=3) (by omega)
  rw[Au]
  rw[F9]at hl ⊢
  simp only[Ao,Be,Dk]at hl ⊢
  have hl:nm.length+a.txt.length+2<=1000000000000000:=by simp at hl;omega
  have hi:=ih (by omega)
  rw[Au a]at hi ⊢
  refine Bz T167 rfl ?_
  simp only[go_sem]
  refine Ax hs (by simp only[go_sem]) ?_
  simp only[go_sem,Int.reduceBEq]
  have a1:Ah .add nm [91]=some (.str (nm++[91])):=Ai (by simp;omega) rfl
  have a2:Ah .add (nm++[91]) a.txt=some (.str (nm++91::a.txt)):=Ai (by simp;omega) (by simp)
  have a3:Ah .add (nm++91::a.txt) [93]=some (.str (nm++91::(a.txt++[93]))):=Ai (by simp;omega) (by simp)
  refine A2 (by kernel_rfl) ?_
  simp only[go_sem,↓a1]
  refine C6 hi (by simp only[go_sem]) ?_
  simp only[go_sem,↓a2,↓a3]
  exact E6 rfl
 | @un op n nm z t a hop ha ih=>
  intro hl
  have ho:1<=op/\op<=18:=by omega
  have hs:=Q5 ho
  have hlv:As op=6:=by rcases hop with rfl | rfl<;>rfl
  rw[hlv]at hs
  obtain⟨s1,-,-⟩:=Xf ho
  rw[Au]
  rw[F9]at hl ⊢
  have e1:Dk op n nm [(a.op,a.txt)]=Bh op++C3 (a.op,a.txt) 6:=by
   unfold Dk
   rw[if_neg (by omega),if_neg (by omega)]
   simp only
   rw[if_neg (by omega)]
  simp only[Ao,Be,e1,Al]at hl ⊢
  obtain⟨p1,p2⟩:=K5 (a.op,a.txt) 6
  have hi:=Abf (ih (by simp only at p1;omega)) (Nu ha) (by simp only at p1;omega) 6
  rw[Au a]at hi ⊢
  refine Bz T167 rfl ?_
  have b1:(op==1)=false:=by simp;omega
  have b2:(op==2)=false:=by simp;omega
  have b3:(op==3)=false:=by simp;omega
  simp only[go_sem]
  refine Ax hs (by simp only[go_sem]) ?_
  simp only[go_sem,Int.reduceBEq,b1,b2,b3]
  refine Ax hi (by simp only[go_sem]) ?_
  have a1:Ah .add (Bh op) (C3 (a.op,a.txt) 6)=some (.str (Bh op++C3 (a.op,a.txt) 6)):=Ai (by omega) rfl
  simp only[go_sem,↓a1]
  exact E6 rfl
 | @bin op n nm z t a b hop ha hb iha ihb=>
  intro hl
  have ho:1<=op/\op<=18:=by omega
  have hs:=Q5 ho
  obtain⟨s1,s2,s3⟩:=Xf ho
  have hlv:As op<6:=by
   obtain⟨i,hi,rfl⟩:=Uc ho
   have:((List.range 18).all fun i=>decide (5<=i->As ((i:Int)+1)<6))=true:=by decide
   exact of_decide_eq_true (A5.1 this i (Ew.2 hi)) (by omega)
  rw[Au]
  rw[F9]at hl ⊢
  have e1:Dk op n nm [(a.op,a.txt),(b.op,b.txt)]=C3 (a.op,a.txt) (Fe op)++32::(Bh op++32::C3 (b.op,b.txt) (As op+1)):=by
   unfold Dk
   rw[if_neg (by omega),if_neg (by omega)]
  simp only[Ao,Be,e1,Al,Ag]at hl ⊢
  obtain⟨p1,p2⟩:=K5 (a.op,a.txt) (Fe op)
  obtain⟨q1,q2⟩:=K5 (b.op,b.txt) (As op+1)
  simp only at p1 q1
  have hi:=Abf (iha (by omega)) (Nu ha) (by omega) (Fe op)
  have hj:=Abf (ihb (by omega)) (Nu hb) (by omega) (As op+1)
  rw[Au a]at hi ⊢
  rw[Au b]at hj ⊢
  refine Bz T167 rfl ?_
  have b1:(op==1)=false:=by simp;omega
  have b2:(op==2)=false:=by simp;omega
  have b3:(op==3)=false:=by simp;omega
  have b6:(As op==6)=false:=by simp;omega
  have f6:(As op<6)=True:=eq_true hlv
  have w1:IntKind.i64.wrap (As op+1)=As op+1:=B3 (by omega)
  generalize C3 (a.op,a.txt) (Fe op)=pa at hl hi p1 p2 ⊢
  generalize C3 (b.op,b.txt) (As op+1)=pb at hl hj q1 q2 ⊢
  have a1:Ah .add pa [32]=some (.str (pa++[32])):=Ai (by simp;omega) rfl
  have a2:Ah .add (pa++[32]) (Bh op)=some (.str (pa++32::Bh op)):=Ai (by simp;omega) (by simp)
  have a3:Ah .add (pa++32::Bh op) [32]=some (.str (pa++32::(Bh op++[32]))):=Ai (by simp;omega) (by simp)
  have a4:Ah .add (pa++32::(Bh op++[32])) pb=some (.str (pa++32::(Bh op++32::pb))):=Ai (by simp;omega) (by simp)
  cases h3:(As op==3)
  all_goals
   have hle:Fe op=(if(As op==3)=true then 4 else As op):=by unfold Fe;simp
   rw[h3]at hle
   simp only[if_true,if_false,Dr]at hle
   rw[hle]at hi
   simp only[go_sem]
   refine Ax hs (by simp only[go_sem]) ?_
   simp only[go_sem,Int.reduceBEq,b1,b2,b3,b6,f6,h3]
   refine A2 (by kernel_rfl) ?_
   simp only[go_sem]
   refine C6 hi (by simp only[go_sem]) ?_
   simp only[go_sem,↓a1,↓a2,↓a3,w1]
   refine C6 hj (by simp only[go_sem]) ?_
   simp only[go_sem,↓a4]
   exact E6 rfl
end Go.Proofs.YtlehfgdhebapeaaGreatDoor.KM
