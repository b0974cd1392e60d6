/- Plain: programs as trees, their rows and texts. -/
import Derived.Test.YtcoeikinocflnaaGreatDoorNu
set_option linter.all false
namespace Go.Proofs.YtcoeikinocflnaaGreatDoor.KM
open Go
/-! expressions -/
structure Xp where
 op:Int
 n:Int
 nm:List UInt8
 z:Bool
 t:Nat
 l:List Xp
mutual
def Xp.row:Xp->List V
 | ⟨op,n,nm,z,t,l⟩=>[.int .i64 op,.int .i64 n,.str nm,SL z t (Xp.rows l)]
def Xp.rows:List Xp->List (List V)
 | []=>[]
 | x::l=>x.row::Xp.rows l
end
theorem Agg:∀ l:List Xp,Xp.rows l=l.map Xp.row
 | []=>rfl
 | x::l=>by rw[Xp.rows,Agg l];rfl
theorem Ax(x:Xp):x.row=[.int .i64 x.op,.int .i64 x.n,.str x.nm,SL x.z x.t (x.l.map Xp.row)]:=by
 rw[<-Agg];cases x;rfl
def Xp.zero:Xp:=⟨0,0,[],true,0,[]⟩
def Cd(op:Int):List UInt8:=
 match op with
 | 4=>[45] | 5=>[33] | 6=>[43] | 7=>[45] | 8=>[42] | 9=>[47] | 10=>[37] | 11=>[61,61] | 12=>[33,61] | 13=>[60] | 14=>[60,61] | 15=>[62] | 16=>[62,61] | 17=>[38,38] | 18=>[124,124] | _=>[]
def Bj(op:Int):Int:=
 match op with
 | 4=>6 | 5=>6 | 6=>4 | 7=>4 | 8=>5 | 9=>5 | 10=>5 | 11=>3 | 12=>3 | 13=>3 | 14=>3 | 15=>3 | 16=>3 | 17=>2 | 18=>1 | _=>7
def Su(op:Int):Int:=if op=1\/op=2 then 0 else if 3<=op/\op<=5 then 1 else if 6<=op/\op<=18 then 2 else -1
def Dg(o:Int × List UInt8)(level:Int):List UInt8:=if Bj o.1<level then 40::(o.2++[41]) else o.2
def F6(op:Int):Int:=if Bj op=3 then 4 else Bj op
def Di(op n:Int)(nm:List UInt8)(ts:List (Int × List UInt8)):List UInt8:=
 if op=1 then Cm n else if op=2 then nm else
 match ts with
 | [a]=>if op=3 then nm++91::(a.2++[93]) else Cd op++Dg a 6
 | [a,b]=>Dg a (F6 op)++32::(Cd op++32::Dg b (Bj op+1))
 | _=>[]
mutual
def Xp.txt:Xp->List UInt8
 | ⟨op,n,nm,_,_,l⟩=>Di op n nm (Xp.txts l)
def Xp.txts:List Xp->List (Int × List UInt8)
 | []=>[]
 | x::l=>(x.op,x.txt)::Xp.txts l
end
theorem Agh:∀ l:List Xp,Xp.txts l=l.map fun x=>(x.op,x.txt)
 | []=>rfl
 | x::l=>by rw[Xp.txts,Agh l];rfl
theorem Ed(x:Xp):x.txt=Di x.op x.n x.nm (x.l.map fun x=>(x.op,x.txt)):=by
 rw[<-Agh];cases x;rfl
inductive Cn:Xp->Prop
 | num {n:Int} {nm:List UInt8} {z:Bool} {t:Nat} : -9223372036854775808<=n/\n<=9223372036854775807->Cn ⟨1,n,nm,z,t,[]⟩
 | name {n:Int} {nm:List UInt8} {z:Bool} {t:Nat}:Cn ⟨2,n,nm,z,t,[]⟩
 | idx {n:Int} {nm:List UInt8} {z:Bool} {t:Nat} {a:Xp}:Cn a->Cn ⟨3,n,nm,z,t,[a]⟩
 | un {op n:Int} {nm:List UInt8} {z:Bool} {t:Nat} {a:Xp}:op=4\/op=5->Cn a->Cn ⟨op,n,nm,z,t,[a]⟩
 | bin {op n:Int} {nm:List UInt8} {z:Bool} {t:Nat} {a b:Xp}:6<=op/\op<=18->Cn a->Cn b->Cn ⟨op,n,nm,z,t,[a,b]⟩
/-! statements -/
structure Sp where
 op:Int
 line:Int
 nm:List UInt8
 arg:List UInt8
 iz:Bool
 it:Nat
 idx:List Xp
 ex:Xp
 bz:Bool
 bt:Nat
 body:List Sp
 ez:Bool
 et:Nat
 els:List Sp
mutual
def Sp.row:Sp->List V
 | ⟨op,line,nm,arg,iz,it,idx,ex,bz,bt,body,ez,et,els⟩=>[.int .i64 op,.int .i64 line,.str nm,.str arg,SL iz it (idx.map Xp.row)]++ex.row++[SL bz bt (Sp.rows body),SL ez et (Sp.rows els)]
def Sp.rows:List Sp->List (List V)
 | []=>[]
 | x::l=>x.row::Sp.rows l
end
theorem Aav:∀ l:List Sp,Sp.rows l=l.map Sp.row
 | []=>rfl
 | x::l=>by rw[Sp.rows,Aav l];rfl
theorem Np(s:Sp):s.row=[.int .i64 s.op,.int .i64 s.line,.str s.nm,.str s.arg,SL s.iz s.it (s.idx.map Xp.row)]++s.ex.row++[SL s.bz s.bt (s.body.map Sp.row),SL s.ez s.et (s.els.map Sp.row)]:=by
 rw[<-Aav,<-Aav];cases s;rfl
def Cu(op:Int):List UInt8:=
 match op with
 | 2=>[105,102] | 3=>[119,104,105,108,101] | 4=>[108,111,99,107] | 5=>[114,101,97,100] | 6=>[119,114,105,116,101] | 7=>[116,114,97,110,115,97,99,116,105,111,110] | 8=>[97,116,111,109,105,99] | 9=>[119,97,105,116] | 10=>[110,111,116,105,102,121] | 11=>[110,111,116,105,102,121,97,108,108] | 12=>[115,112,97,119,110] | 13=>[106,111,105,110] | 14=>[115,101,116] | 15=>[103,101,116] | _=>[]
def En(l:List Xp):List UInt8:=match l with
 | a::_=>91::(a.txt++[93])
 | []=>[]
def Ce(s:Sp):List UInt8:=
 if s.op=1 then s.nm++(En s.idx++32::61::32::s.ex.txt)
 else if s.op=2\/s.op=3 then Cu s.op++32::s.ex.txt
 else if s.op=7\/s.op=8 then Cu s.op
 else if s.op=14 then Cu s.op++32::(s.nm++32::s.ex.txt)
 else if s.op=15 then Cu s.op++32::(s.nm++32::s.arg)
 else Cu s.op++32::s.nm
def Dr(d:Nat):List UInt8:=List.replicate (2*d) 32
def Bq(op:Int):Bool:=decide (2<=op)&&decide (op<=8)
mutual
def Sp.txt:Nat->Sp->List UInt8
 | d,⟨op,line,nm,arg,iz,it,idx,ex,bz,bt,body,ez,et,els⟩=>
  Dr d++(Ce ⟨op,line,nm,arg,iz,it,idx,ex,bz,bt,body,ez,et,els⟩ ++
   if Bq op then 32::123::10::(Sp.txts (d+1) body++((if els.isEmpty then [] else Dr d++125::32::101::108::115::101::32::123::10::Sp.txts (d+1) els)++(Dr d++[125,10]))) else [59,10])
def Sp.txts:Nat->List Sp->List UInt8
 | _,[]=>[]
 | d,x::l=>x.txt d++Sp.txts d l
end
inductive CnS:Sp->Prop
 | mk {s:Sp}:1<=s.op/\s.op<=15->s.idx.length<=1->(s.op≠1->s.idx=[])->(∀ x∈s.idx,Cn x)->((s.op=1\/s.op=2\/s.op=3\/s.op=14)->Cn s.ex)->(Bq s.op=false->s.body=[])->(s.op≠2->s.els=[])->(∀ x∈s.body,CnS x)->(∀ x∈s.els,CnS x)->CnS s
/-! declarations, threads, programs -/
structure Dp where
 kind:Int
 line:Int
 nm:List UInt8
 size:Int
 init:Int
 on:List UInt8
def Dp.row(d:Dp):List V:=[.int .i64 d.kind,.int .i64 d.line,.str d.nm,.int .i64 d.size,.int .i64 d.init,.str d.on]
def Im(n:Int):List UInt8:=if n=0 then [] else 32::61::32::Cm n
def Eh(d:Dp):List UInt8:=
 if d.kind=1 then [118,97,114,32]++(d.nm++((if d.size=0 then [] else 91::(Cm d.size++[93]))++Im d.init))
 else if d.kind=2 then [118,111,108,97,116,105,108,101,32]++(d.nm++Im d.init)
 else if d.kind=3 then [109,117,116,101,120,32]++d.nm
 else if d.kind=4 then [114,119,108,111,99,107,32]++d.nm
 else if d.kind=5 then [99,111,110,100,32]++(d.nm++32::d.on)
 else [102,117,116,117,114,101,32]++d.nm
structure CnD (d:Dp):Prop where
 kind:1<=d.kind/\d.kind<=6
 size:0<=d.size/\d.size<=9223372036854775807/\(d.kind≠1->d.size=0)
 init : -9223372036854775808<=d.init/\d.init<=9223372036854775807/\(d.kind≠1->d.kind≠2->d.init=0)
structure Tp where
 nm:List UInt8
 line:Int
 lz:Bool
 lt:Nat
 locals:List (List UInt8)
 bz:Bool
 bt:Nat
 body:List Sp
def Tp.row(t:Tp):List V:=[.str t.nm,.int .i64 t.line,SL t.lz t.lt (t.locals.map fun s=>[V.str s]),SL t.bz t.bt (t.body.map Sp.row)]
def D8:List (List UInt8)->List UInt8
 | []=>[]
 | [a]=>a
 | a::b::l=>a++44::32::D8 (b::l)
def E7(t:Tp):List UInt8:=[116,104,114,101,97,100,32]++(t.nm++40::(D8 t.locals++41::32::123::10::(Sp.txts 1 t.body++[125,10])))
structure Gp where
 dz:Bool
 dt:Nat
 decls:List Dp
 tz:Bool
 tt:Nat
 thrs:List Tp
def Gp.row(p:Gp):List V:=[SL p.dz p.dt (p.decls.map Dp.row),SL p.tz p.tt (p.thrs.map Tp.row)]
def Js(p:Gp):List UInt8:=(p.decls.map fun d=>Eh d++[59,10]).flatten++(p.thrs.map E7).flatten
structure CnG (p:Gp):Prop where
 decls:∀ d∈p.decls,CnD d
 thrs:∀ t∈p.thrs,∀ s∈t.body,CnS s
theorem N4{x:Xp}(h:Cn x):1<=x.op/\x.op<=18:=by
 cases h with
 | num _=>exact⟨by simp,by simp⟩
 | name=>exact⟨by simp,by simp⟩
 | idx _=>exact⟨by simp,by simp⟩
 | un h _=>simp only;omega
 | bin h _ _=>simp only;omega
theorem Uw{op:Int}(h:1<=op/\op<=18):∃ i:Nat,i<18/\op=(i:Int)+1:=⟨(op - 1).toNat,by omega,by omega⟩
theorem Aop:((List.range 18).all fun i=>match (H0 (Jz TT PT 300) af209 [.int .i64 ((i:Int)+1)] []).bind fun p=>Dw p.2 p.1 with
  | some (.tup [.str s,.int .i64 n])=>s==Cd ((i:Int)+1)&&n==Bj ((i:Int)+1)
  | _=>false)=true:=by kernel_rfl
theorem Rb{op:Int}(h:1<=op/\op<=18):Fn TT PT 209 [.int .i64 op] (.tup [.str (Cd op),.int .i64 (Bj op)]):=by
 obtain⟨i,hi,rfl⟩:=Uw h;have hr:=Bd.1 Aop i (Fc.2 hi)
 split at hr
 ·rename_i s n hv;simp only[Af,beq_iff_eq]at hr;rw[<-hr.1,<-hr.2];exact Mo Na T209 rfl rfl hv
 ·cases hr
theorem At6:((List.range 18).all fun i=>match (H0 (Jz TT PT 300) af259 [.int .i64 ((i:Int)+1)] []).bind fun p=>Dw p.2 p.1 with
  | some (.agg [.str s,.int .i64 n])=>s==Cd ((i:Int)+1)&&n==Bj ((i:Int)+1)
  | _=>false)=true:=by kernel_rfl
theorem R5{op:Int}(h:1<=op/\op<=18):Fn TT PT 259 [.int .i64 op] (.agg [.str (Cd op),.int .i64 (Bj op)]):=by
 obtain⟨i,hi,rfl⟩:=Uw h;have hr:=Bd.1 At6 i (Fc.2 hi)
 split at hr
 ·rename_i s n hv;simp only[Af,beq_iff_eq]at hr;rw[<-hr.1,<-hr.2];exact Mo Na T259 rfl rfl hv
 ·cases hr
theorem At7:((List.range 18).all fun i=>decide ((Cd ((i:Int)+1)).length<=2/\1<=Bj ((i:Int)+1)/\Bj ((i:Int)+1)<=7))=true:=by decide
theorem X8{op:Int}(h:1<=op/\op<=18):(Cd op).length<=2/\1<=Bj op/\Bj op<=7:=by
 obtain⟨i,hi,rfl⟩:=Uw h;exact of_decide_eq_true (Bd.1 At7 i (Fc.2 hi))
theorem C7(x:Xp):Da (.agg x.row)=true:=by
 rw[Ax];simp only[go_sem]
theorem Ak{a b c:List UInt8}(h:a.length+b.length<=9223372036854775807)(hc:a++b=c):Ai .add a b=some (.str c):=by
 simp only[Ai];rw[if_pos h,hc]
theorem Kz(o:Int × List UInt8)(level:Int):o.2.length<=(Dg o level).length/\(Dg o level).length<=o.2.length+2:=by
 unfold Dg
 split
 ·simp only[Am,Ao,Cx];omega
 ·omega
theorem Ace{x:Xp}(he:Fn TT PT 174 [.agg x.row] (.str x.txt))(ho:1<=x.op/\x.op<=18)(hl:x.txt.length<=1000000000000000)(level:Int):Fn TT PT 210 [.agg x.row,.int .i64 level] (.str (Dg (x.op,x.txt) level)):=by
 have hs:=Rb ho;have hset:=C7 x;rw[Ax]at he hset ⊢;refine Bn T210 rfl ?_;have a1:Ai .add [40] x.txt=some (.str (40::x.txt)):=Ak (by simp;omega) rfl;have a2:Ai .add (40::x.txt) [41]=some (.str (40::(x.txt++[41]))):=Ak (by simp;omega) (by simp);unfold Dg;by_cases h:Bj x.op<level
 ·rw[if_pos h];have f:(Bj x.op<level)=True:=eq_true h;simp only[go_sem];refine Ad hs (by simp only[go_sem]) ?_;simp only[go_sem,f];refine Ad he (by simp only[go_sem]) ?_;simp only[go_sem,↓a1,↓a2];exact Ek rfl
 ·rw[if_neg h];have f:(Bj x.op<level)=False:=eq_false h;simp only[go_sem];refine Ad hs (by simp only[go_sem]) ?_;simp only[go_sem,f];refine Ad he (by simp only[go_sem]) ?_;simp only[go_sem];exact Ek rfl
set_option maxHeartbeats 4000000 in
theorem Ty{x:Xp}(h:Cn x):x.txt.length<=1000000000000000->Fn TT PT 174 [.agg x.row] (.str x.txt):=by
 induction h with
 | @num n nm z t hn=>
  intro hl;have hs:=Rb (op:=1) (by omega);rw[Ax,Ed];simp only[Bs,Di,if_true];refine Bn T174 rfl ?_;have hf:L9 [.int .i64 n,.int .i64 10]=some (.str (Cm n)):=by unfold L9;exact if_pos hn
  simp only[go_sem];refine Ad hs (by simp only[go_sem]) ?_;simp only[go_sem,Int.reduceBEq];refine E6 P90 (by simp only[go_sem]) hf ?_;simp only[go_sem];exact Ek rfl
 | @name n nm z t=>
  intro hl;have hs:=Rb (op:=2) (by omega);rw[Ax,Ed];simp only[Bs,Di];refine Bn T174 rfl ?_;simp only[go_sem];refine Ad hs (by simp only[go_sem]) ?_;simp only[go_sem,Int.reduceBEq];exact Ek rfl
 | @idx n nm z t a ha ih=>
  intro hl;have hs:=Rb (op:=3) (by omega);rw[Ax];rw[Ed]at hl ⊢;simp only[Ba,Bs,Di]at hl ⊢;have hl:nm.length+a.txt.length+2<=1000000000000000:=by simp at hl;omega
  have hi:=ih (by omega);rw[Ax a]at hi ⊢;refine Bn T174 rfl ?_;simp only[go_sem];refine Ad hs (by simp only[go_sem]) ?_;simp only[go_sem,Int.reduceBEq];have a1:Ai .add nm [91]=some (.str (nm++[91])):=Ak (by simp;omega) rfl;have a2:Ai .add (nm++[91]) a.txt=some (.str (nm++91::a.txt)):=Ak (by simp;omega) (by simp);have a3:Ai .add (nm++91::a.txt) [93]=some (.str (nm++91::(a.txt++[93]))):=Ak (by simp;omega) (by simp);refine Ag (by kernel_rfl) ?_;simp only[go_sem,↓a1];refine Bf hi (by simp only[go_sem]) ?_;simp only[go_sem,↓a2,↓a3];exact Ek rfl
 | @un op n nm z t a hop ha ih=>
  intro hl;have ho:1<=op/\op<=18:=by omega
  have hs:=Rb ho
  have hlv:Bj op=6:=by rcases hop with rfl | rfl<;>rfl
  rw[hlv]at hs;obtain⟨s1,-,-⟩:=X8 ho;rw[Ax];rw[Ed]at hl ⊢
  have e1:Di op n nm [(a.op,a.txt)]=Cd op++Dg (a.op,a.txt) 6:=by
   unfold Di;rw[if_neg (by omega),if_neg (by omega)];simp only;rw[if_neg (by omega)]
  simp only[Ba,Bs,e1,Ao]at hl ⊢;obtain⟨p1,p2⟩:=Kz (a.op,a.txt) 6;have hi:=Ace (ih (by simp only at p1;omega)) (N4 ha) (by simp only at p1;omega) 6;rw[Ax a]at hi ⊢;refine Bn T174 rfl ?_;have b1:(op==1)=false:=by simp;omega
  have b2:(op==2)=false:=by simp;omega
  have b3:(op==3)=false:=by simp;omega
  simp only[go_sem];refine Ad hs (by simp only[go_sem]) ?_;simp only[go_sem,Int.reduceBEq,b1,b2,b3];refine Ad hi (by simp only[go_sem]) ?_;have a1:Ai .add (Cd op) (Dg (a.op,a.txt) 6)=some (.str (Cd op++Dg (a.op,a.txt) 6)):=Ak (by omega) rfl;simp only[go_sem,↓a1];exact Ek rfl
 | @bin op n nm z t a b hop ha hb iha ihb=>
  intro hl;have ho:1<=op/\op<=18:=by omega
  have hs:=Rb ho;obtain⟨s1,s2,s3⟩:=X8 ho
  have hlv:Bj op<6:=by
   obtain⟨i,hi,rfl⟩:=Uw ho;have:((List.range 18).all fun i=>decide (5<=i->Bj ((i:Int)+1)<6))=true:=by decide
   exact of_decide_eq_true (Bd.1 this i (Fc.2 hi)) (by omega)
  rw[Ax];rw[Ed]at hl ⊢
  have e1:Di op n nm [(a.op,a.txt),(b.op,b.txt)]=Dg (a.op,a.txt) (F6 op)++32::(Cd op++32::Dg (b.op,b.txt) (Bj op+1)):=by
   unfold Di;rw[if_neg (by omega),if_neg (by omega)]
  simp only[Ba,Bs,e1,Ao,Am]at hl ⊢;obtain⟨p1,p2⟩:=Kz (a.op,a.txt) (F6 op);obtain⟨q1,q2⟩:=Kz (b.op,b.txt) (Bj op+1);simp only at p1 q1;have hi:=Ace (iha (by omega)) (N4 ha) (by omega) (F6 op);have hj:=Ace (ihb (by omega)) (N4 hb) (by omega) (Bj op+1);rw[Ax a]at hi ⊢;rw[Ax b]at hj ⊢;refine Bn T174 rfl ?_;have b1:(op==1)=false:=by simp;omega
  have b2:(op==2)=false:=by simp;omega
  have b3:(op==3)=false:=by simp;omega
  have b6:(Bj op==6)=false:=by simp;omega
  have f6:(Bj op<6)=True:=eq_true hlv;have w1:IntKind.i64.wrap (Bj op+1)=Bj op+1:=Ef (by omega);generalize Dg (a.op,a.txt) (F6 op)=pa at hl hi p1 p2 ⊢;generalize Dg (b.op,b.txt) (Bj op+1)=pb at hl hj q1 q2 ⊢;have a1:Ai .add pa [32]=some (.str (pa++[32])):=Ak (by simp;omega) rfl;have a2:Ai .add (pa++[32]) (Cd op)=some (.str (pa++32::Cd op)):=Ak (by simp;omega) (by simp);have a3:Ai .add (pa++32::Cd op) [32]=some (.str (pa++32::(Cd op++[32]))):=Ak (by simp;omega) (by simp);have a4:Ai .add (pa++32::(Cd op++[32])) pb=some (.str (pa++32::(Cd op++32::pb))):=Ak (by simp;omega) (by simp);cases h3:(Bj op==3)
  all_goals
   have hle:F6 op=(if(Bj op==3)=true then 4 else Bj op):=by unfold F6;simp
   rw[h3]at hle;simp only[if_true,if_false,Er]at hle;rw[hle]at hi;simp only[go_sem];refine Ad hs (by simp only[go_sem]) ?_;simp only[go_sem,Int.reduceBEq,b1,b2,b3,b6,f6,h3];refine Ag (by kernel_rfl) ?_;simp only[go_sem];refine Bf hi (by simp only[go_sem]) ?_;simp only[go_sem,↓a1,↓a2,↓a3,w1];refine Bf hj (by simp only[go_sem]) ?_;simp only[go_sem,↓a4];exact Ek rfl
theorem Alk(a b:Nat):(a:Int).tmod (b:Int)=((a % b:Nat):Int):=(Int.ofNat_tmod a b).symm
theorem Anr(k:IntKind)(n d:Nat):Dm (some (.int k (n:Int))) d=some n:=by
 simp only[Dm];rw[if_pos (by omega),Mf]
attribute [go_sem ↓] Anr
attribute [go_sem] Aac A2 Int.natCast_nonneg
theorem Aoq(s:List UInt8)(at' how c:Nat)(hs:s.length<=100000000000)(hat:at'<65536)(hc:c<256):
  ∃ t,Fn TT PT 16 [.str s,.int .u16 at',.int .u16 how,.int .u8 c] (.str t)/\t.length<=2*s.length+1:=by
 have hb:H9 [[V.int .u8 (c:Int)]]=some [UInt8.ofNat c]:=by
  simp[H9];omega
 cases he:(s==[]);rotate_left
 ·refine⟨[UInt8.ofNat c],Bn T16 rfl ?_,by simp⟩;simp only[go_sem,Int.reduceEq,he,hb];exact Ek rfl
 have he':s≠[]:=by simpa using he
 have hp:0<s.length:=List.length_pos_iff.2 he';have hz:((s.length:Int)=0)=False:=eq_false (by omega);have hi:at' % s.length<s.length:=Mi _ hp;have w1:IntKind.i64.wrap (at':Int)=at':=Ef (by omega);have r1:=Alk at' s.length;generalize at' % s.length=i at hi r1;have i1:=Bg (show i<9223372036854775807 by omega);have g1:(i<=s.length)=True:=eq_true (by omega);have g2:(i+1<=s.length)=True:=eq_true (by omega);have l1:(s.take i).length<=s.length:=by simp;omega
 have l2:(s.drop i).length<=s.length:=by simp
 have l3:(s.drop (i+1)).length+(s.take i).length+1=s.length:=by simp;omega
 have l4:(s.drop i).length+(s.take i).length=s.length:=by simp;omega
 generalize hA:s.take i=A at l1 l3 l4;generalize hB:s.drop i=B at l2 l4;generalize hC:s.drop (i+1)=C at l3;have k1:(A.length+1<=9223372036854775807)=True:=eq_true (by omega);have k2:(A.length+1+C.length<=9223372036854775807)=True:=eq_true (by omega);have k3:(A.length+1+B.length<=9223372036854775807)=True:=eq_true (by omega);have k4:(A.length+C.length<=9223372036854775807)=True:=eq_true (by omega);have k5:(s.length+B.length<=9223372036854775807)=True:=eq_true (by omega);have t6:(how:Int).tmod 6=((how % 6:Nat):Int):=Alk how 6;have h6:how % 6=0\/how % 6=1\/how % 6=2\/how % 6=3\/how % 6=4\/how % 6=5:=by omega
 rcases h6 with h6 | h6 | h6 | h6 | h6 | h6
 ·have r6:(how:Int).tmod 6=0:=by rw[t6,h6];rfl
  refine⟨A++[UInt8.ofNat c]++C,Bn T16 rfl ?_,by simp;omega⟩;simp only[go_sem,Int.reduceEq,he,hz,w1,r1,r6,Int.reduceBEq,g1,g2,hA,hB,hC,k5,Ah,Dc];refine Ag (by kernel_rfl) ?_;simp only[go_sem,Int.reduceEq,hb,i1,g1,g2,hA,hB,hC,k1,k2,k3,k4,k5,Ah,Dc,Ao,Am,Cx];exact Ek rfl
 ·have r6:(how:Int).tmod 6=1:=by rw[t6,h6];rfl
  refine⟨A++[UInt8.ofNat c]++B,Bn T16 rfl ?_,by simp;omega⟩;simp only[go_sem,Int.reduceEq,he,hz,w1,r1,r6,Int.reduceBEq,g1,g2,hA,hB,hC,k5,Ah,Dc];refine Ag (by kernel_rfl) ?_;simp only[go_sem,Int.reduceEq,hb,i1,g1,g2,hA,hB,hC,k1,k2,k3,k4,k5,Ah,Dc,Ao,Am,Cx];exact Ek rfl
 ·have r6:(how:Int).tmod 6=2:=by rw[t6,h6];rfl
  refine⟨A++C,Bn T16 rfl ?_,by simp;omega⟩;simp only[go_sem,Int.reduceEq,he,hz,w1,r1,r6,Int.reduceBEq,g1,g2,hA,hB,hC,k5,Ah,Dc];refine Ag (by kernel_rfl) ?_;simp only[go_sem,Int.reduceEq,hb,i1,g1,g2,hA,hB,hC,k1,k2,k3,k4,k5,Ah,Dc,Ao,Am,Cx];exact Ek rfl
 ·have r6:(how:Int).tmod 6=3:=by rw[t6,h6];rfl
  refine⟨A,Bn T16 rfl ?_,by omega⟩;simp only[go_sem,Int.reduceEq,he,hz,w1,r1,r6,Int.reduceBEq,g1,g2,hA,hB,hC,k5,Ah,Dc];exact Ek rfl
 ·have r6:(how:Int).tmod 6=4:=by rw[t6,h6];rfl
  refine⟨s++B,Bn T16 rfl ?_,by simp;omega⟩;simp only[go_sem,Int.reduceEq,he,hz,w1,r1,r6,Int.reduceBEq,g1,g2,hA,hB,hC,k5,Ah,Dc];exact Ek rfl
 ·have r6:(how:Int).tmod 6=5:=by rw[t6,h6];rfl
  refine⟨s,Bn T16 rfl ?_,by omega⟩;simp only[go_sem,Int.reduceEq,he,hz,w1,r1,r6,Int.reduceBEq,g1,g2,hA,hB,hC,k5,Ah,Dc];exact Ek rfl
