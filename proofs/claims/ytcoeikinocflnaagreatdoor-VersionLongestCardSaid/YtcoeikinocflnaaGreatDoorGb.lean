/- Walks: the reference's texts of expressions. -/
import Derived.Test.YtcoeikinocflnaaGreatDoorCb
import Derived.Test.YtcoeikinocflnaaGreatDoorNu
set_option linter.all false
namespace Go.Proofs.YtcoeikinocflnaaGreatDoor.KM
open Go
theorem Nh{x:Xp}(h:Cn x):1<=x.op/\x.op<=18:=by
 cases h with
 | num _=>exact⟨by simp,by simp⟩
 | name=>exact⟨by simp,by simp⟩
 | idx _=>exact⟨by simp,by simp⟩
 | un h _=>simp only;omega
 | bin h _ _=>simp only;omega
theorem Uc{op:Int}(h:1<=op/\op<=18):∃ i:Nat,i<18/\op=(i:Int)+1:=⟨(op - 1).toNat,by omega,by omega⟩
theorem Anw:((List.range 18).all fun i=>match (Il (Le TT PT 300) af209 [.int .i64 ((i:Int)+1)] []).bind fun p=>Ef p.2 p.1 with
  | some (.tup [.str s,.int .i64 n])=>s==Bp ((i:Int)+1)&&n==Ap ((i:Int)+1)
  | _=>false)=true:=by kernel_rfl
theorem Q7{op:Int}(h:1<=op/\op<=18):Fn TT PT 209 [.int .i64 op] (.tup [.str (Bp op),.int .i64 (Ap op)]):=by
 obtain⟨i,hi,rfl⟩:=Uc h
 have hr:=A3.1 Anw i (Ej.2 hi)
 split at hr
 ·rename_i s n hv
  simp only[Ae,beq_iff_eq]at hr
  rw[<-hr.1,<-hr.2]
  exact Tt Vb T209 rfl rfl hv
 ·cases hr
theorem Atn:((List.range 18).all fun i=>match (Il (Le TT PT 300) af259 [.int .i64 ((i:Int)+1)] []).bind fun p=>Ef p.2 p.1 with
  | some (.agg [.str s,.int .i64 n])=>s==Bp ((i:Int)+1)&&n==Ap ((i:Int)+1)
  | _=>false)=true:=by kernel_rfl
theorem Ro{op:Int}(h:1<=op/\op<=18):Fn TT PT 259 [.int .i64 op] (.agg [.str (Bp op),.int .i64 (Ap op)]):=by
 obtain⟨i,hi,rfl⟩:=Uc h
 have hr:=A3.1 Atn i (Ej.2 hi)
 split at hr
 ·rename_i s n hv
  simp only[Ae,beq_iff_eq]at hr
  rw[<-hr.1,<-hr.2]
  exact Tt Vb T259 rfl rfl hv
 ·cases hr
theorem Ato:((List.range 18).all fun i=>decide ((Bp ((i:Int)+1)).length<=2/\1<=Ap ((i:Int)+1)/\Ap ((i:Int)+1)<=7))=true:=by decide
theorem Xn{op:Int}(h:1<=op/\op<=18):(Bp op).length<=2/\1<=Ap op/\Ap op<=7:=by
 obtain⟨i,hi,rfl⟩:=Uc h
 exact of_decide_eq_true (A3.1 Ato i (Ej.2 hi))
theorem E8(x:Xp):Dj (.agg x.row)=true:=by
 rw[A9]
 simp only[go_sem]
theorem As{a b c:List UInt8}(h:a.length+b.length<=9223372036854775807)(hc:a++b=c):Ao .add a b=some (.str c):=by
 simp only[Ao]
 rw[if_pos h,hc]
theorem O3(o:Int × List UInt8)(level:Int):o.2.length<=(Dt o level).length/\(Dt o level).length<=o.2.length+2:=by
 unfold Dt
 split
 ·simp only[Af,Aj,Cf];omega
 ·omega
theorem Abo{x:Xp}(he:Fn TT PT 174 [.agg x.row] (.str x.txt))(ho:1<=x.op/\x.op<=18)(hl:x.txt.length<=1000000000000000)(level:Int):Fn TT PT 210 [.agg x.row,.int .i64 level] (.str (Dt (x.op,x.txt) level)):=by
 have hs:=Q7 ho
 have hset:=E8 x
 rw[A9]at he hset ⊢
 refine Ch T210 rfl ?_
 have a1:Ao .add [40] x.txt=some (.str (40::x.txt)):=As (by simp;omega) rfl
 have a2:Ao .add (40::x.txt) [41]=some (.str (40::(x.txt++[41]))):=As (by simp;omega) (by simp)
 unfold Dt
 by_cases h:Ap x.op<level
 ·rw[if_pos h]
  have f:(Ap x.op<level)=True:=eq_true h
  simp only[go_sem]
  refine An hs (by simp only[go_sem]) ?_
  simp only[go_sem,f]
  refine An he (by simp only[go_sem]) ?_
  simp only[go_sem,↓a1,↓a2]
  exact H0 rfl
 ·rw[if_neg h]
  have f:(Ap x.op<level)=False:=eq_false h
  simp only[go_sem]
  refine An hs (by simp only[go_sem]) ?_
  simp only[go_sem,f]
  refine An he (by simp only[go_sem]) ?_
  simp only[go_sem]
  exact H0 rfl
set_option maxHeartbeats 4000000 in
theorem Ta{x:Xp}(h:Cn x):x.txt.length<=1000000000000000->Fn TT PT 174 [.agg x.row] (.str x.txt):=by
 induction h with
 | @num n nm z t hn=>
  intro hl
  have hs:=Q7 (op:=1) (by omega)
  rw[A9,Fw]
  simp only[Cy,D6,if_true]
  refine Ch T174 rfl ?_
  have hf:Ny [.int .i64 n,.int .i64 10]=some (.str (Cz n)):=by unfold Ny;exact if_pos hn
  simp only[go_sem]
  refine An hs (by simp only[go_sem]) ?_
  simp only[go_sem,Int.reduceBEq]
  refine F2 P90 (by simp only[go_sem]) hf ?_
  simp only[go_sem]
  exact H0 rfl
 | @name n nm z t=>
  intro hl
  have hs:=Q7 (op:=2) (by omega)
  rw[A9,Fw]
  simp only[Cy,D6]
  refine Ch T174 rfl ?_
  simp only[go_sem]
  refine An hs (by simp only[go_sem]) ?_
  simp only[go_sem,Int.reduceBEq]
  exact H0 rfl
 | @idx n nm z t a ha ih=>
  intro hl
  have hs:=Q7 (op:=3) (by omega)
  rw[A9]
  rw[Fw]at hl ⊢
  simp only[A1,Cy,D6]at hl ⊢
  have hl:nm.length+a.txt.length+2<=1000000000000000:=by simp at hl;omega
  have hi:=ih (by omega)
  rw[A9 a]at hi ⊢
  refine Ch T174 rfl ?_
  simp only[go_sem]
  refine An hs (by simp only[go_sem]) ?_
  simp only[go_sem,Int.reduceBEq]
  have a1:Ao .add nm [91]=some (.str (nm++[91])):=As (by simp;omega) rfl
  have a2:Ao .add (nm++[91]) a.txt=some (.str (nm++91::a.txt)):=As (by simp;omega) (by simp)
  have a3:Ao .add (nm++91::a.txt) [93]=some (.str (nm++91::(a.txt++[93]))):=As (by simp;omega) (by simp)
  refine Ax (by kernel_rfl) ?_
  simp only[go_sem,↓a1]
  refine Cm hi (by simp only[go_sem]) ?_
  simp only[go_sem,↓a2,↓a3]
  exact H0 rfl
 | @un op n nm z t a hop ha ih=>
  intro hl
  have ho:1<=op/\op<=18:=by omega
  have hs:=Q7 ho
  have hlv:Ap op=6:=by rcases hop with rfl | rfl<;>rfl
  rw[hlv]at hs
  obtain⟨s1,-,-⟩:=Xn ho
  rw[A9]
  rw[Fw]at hl ⊢
  have e1:D6 op n nm [(a.op,a.txt)]=Bp op++Dt (a.op,a.txt) 6:=by
   unfold D6
   rw[if_neg (by omega),if_neg (by omega)]
   simp only
   rw[if_neg (by omega)]
  simp only[A1,Cy,e1,Aj]at hl ⊢
  obtain⟨p1,p2⟩:=O3 (a.op,a.txt) 6
  have hi:=Abo (ih (by simp only at p1;omega)) (Nh ha) (by simp only at p1;omega) 6
  rw[A9 a]at hi ⊢
  refine Ch T174 rfl ?_
  have b1:(op==1)=false:=by simp;omega
  have b2:(op==2)=false:=by simp;omega
  have b3:(op==3)=false:=by simp;omega
  simp only[go_sem]
  refine An hs (by simp only[go_sem]) ?_
  simp only[go_sem,Int.reduceBEq,b1,b2,b3]
  refine An hi (by simp only[go_sem]) ?_
  have a1:Ao .add (Bp op) (Dt (a.op,a.txt) 6)=some (.str (Bp op++Dt (a.op,a.txt) 6)):=As (by omega) rfl
  simp only[go_sem,↓a1]
  exact H0 rfl
 | @bin op n nm z t a b hop ha hb iha ihb=>
  intro hl
  have ho:1<=op/\op<=18:=by omega
  have hs:=Q7 ho
  obtain⟨s1,s2,s3⟩:=Xn ho
  have hlv:Ap op<6:=by
   obtain⟨i,hi,rfl⟩:=Uc ho
   have:((List.range 18).all fun i=>decide (5<=i->Ap ((i:Int)+1)<6))=true:=by decide
   exact of_decide_eq_true (A3.1 this i (Ej.2 hi)) (by omega)
  rw[A9]
  rw[Fw]at hl ⊢
  have e1:D6 op n nm [(a.op,a.txt),(b.op,b.txt)]=Dt (a.op,a.txt) (Fb op)++32::(Bp op++32::Dt (b.op,b.txt) (Ap op+1)):=by
   unfold D6
   rw[if_neg (by omega),if_neg (by omega)]
  simp only[A1,Cy,e1,Aj,Af]at hl ⊢
  obtain⟨p1,p2⟩:=O3 (a.op,a.txt) (Fb op)
  obtain⟨q1,q2⟩:=O3 (b.op,b.txt) (Ap op+1)
  simp only at p1 q1
  have hi:=Abo (iha (by omega)) (Nh ha) (by omega) (Fb op)
  have hj:=Abo (ihb (by omega)) (Nh hb) (by omega) (Ap op+1)
  rw[A9 a]at hi ⊢
  rw[A9 b]at hj ⊢
  refine Ch T174 rfl ?_
  have b1:(op==1)=false:=by simp;omega
  have b2:(op==2)=false:=by simp;omega
  have b3:(op==3)=false:=by simp;omega
  have b6:(Ap op==6)=false:=by simp;omega
  have f6:(Ap op<6)=True:=eq_true hlv
  have w1:IntKind.i64.wrap (Ap op+1)=Ap op+1:=Ed (by omega)
  generalize Dt (a.op,a.txt) (Fb op)=pa at hl hi p1 p2 ⊢
  generalize Dt (b.op,b.txt) (Ap op+1)=pb at hl hj q1 q2 ⊢
  have a1:Ao .add pa [32]=some (.str (pa++[32])):=As (by simp;omega) rfl
  have a2:Ao .add (pa++[32]) (Bp op)=some (.str (pa++32::Bp op)):=As (by simp;omega) (by simp)
  have a3:Ao .add (pa++32::Bp op) [32]=some (.str (pa++32::(Bp op++[32]))):=As (by simp;omega) (by simp)
  have a4:Ao .add (pa++32::(Bp op++[32])) pb=some (.str (pa++32::(Bp op++32::pb))):=As (by simp;omega) (by simp)
  cases h3:(Ap op==3)
  all_goals
   have hle:Fb op=(if(Ap op==3)=true then 4 else Ap op):=by unfold Fb;simp
   rw[h3]at hle
   simp only[if_true,if_false,Eh]at hle
   rw[hle]at hi
   simp only[go_sem]
   refine An hs (by simp only[go_sem]) ?_
   simp only[go_sem,Int.reduceBEq,b1,b2,b3,b6,f6,h3]
   refine Ax (by kernel_rfl) ?_
   simp only[go_sem]
   refine Cm hi (by simp only[go_sem]) ?_
   simp only[go_sem,↓a1,↓a2,↓a3,w1]
   refine Cm hj (by simp only[go_sem]) ?_
   simp only[go_sem,↓a4]
   exact H0 rfl
end Go.Proofs.YtcoeikinocflnaaGreatDoor.KM
