/- awake answers true: by a run of the plain machine in the kernel. -/
import Derived.Test.YtdbnbejffjhdlaaGreatDoorNu
import Derived.Shelf.Vars
import Derived.Test.YtdbnbejffjhdlaaGreatDoorCards
import Derived.Test.YtdbnbejffjhdlaaGreatDoorTie
import Derived.ProofKit
import Derived.OpenShut
import Derived.Carry
import Derived.Deep.DeepHandedRow
import Derived.Lib.LaidTab
set_option linter.all false
namespace Go.Proofs.YtdbnbejffjhdlaaGreatDoor.KM
open Go
abbrev iV(n:Int):V:=.int .i64 n
def Ae4(a:Int):Fn TT PT 143 [.int .i64 a] (.bool false):=by
 refine Bc T143 rfl ?_;simp only[go_sem];exact Ae rfl AE
def Zy(a b:Int):Fn TT PT 94 [.int .i64 a,.int .i64 b] (.int .i64 (Lib.compareInt a b)):=by
 refine Bc T94 rfl ?_;simp only[go_sem]
 first | refine Ab (Ae4 a) AG ?_ | refine Ax (Ae4 a) AG ?_
 simp only[go_sem]
 first | refine Ab (Ae4 b) AG ?_ | refine Ax (Ae4 b) AG ?_
 simp only[go_sem];refine Le (fun h=>?_) (fun h=>?_)
 .simp only[go_sem,h];refine Ae rfl ?_
  grind[Lib.compareInt]
 .simp only[go_sem,h];refine Le (fun h=>?_) (fun h=>?_)
  .simp only[go_sem,h];refine Ae rfl ?_
   simp_all [Lib.compareInt]
  .simp only[go_sem,h];refine Ae rfl ?_
   simp_all [Lib.compareInt,if_neg]
def Rp:List Int->Int
 | []=>0
 | a::r=>if a≠0 then a else Rp r
def Ae5(t:Nat)(xs:List Int)(hn:xs.length<9223372036854775807):Fn TT PT 93 [.lst t (xs.map fun a=>[.int .i64 a])] (.int .i64 (Rp xs)):=by
 refine Bc T93 rfl ?_;simp only[go_sem,Aj];refine Bh (fun i=>xs.length - i) (fun i:Nat=>[(3,.int .i64 0),(6,.lst t (xs.map fun a=>[.int .i64 a])),(7,.int .i64 xs.length),(8,.int .i64 i)]) (fun _=>[]) (fun i=>i<=xs.length/\Rp xs=Rp (xs.drop i)) ?_ 0 ⟨by omega,rfl⟩;rintro i ⟨hi,ho⟩ ih;refine Az Bmn ?_;rcases Bb i xs.length with h | h
 .obtain⟨x,hx,hd,-⟩:=Bl h;rw[hd,Rp]at ho;simp only[go_sem,Ar h,hx,Ai];refine Le (fun h2=>?_) (fun h2=>?_)
  .simp only[go_sem];refine Ae rfl ?_
   grind
  .simp only[go_sem,Ay (Nat.lt_trans h hn)];refine Am (ih (i+1) AA ⟨by omega,?_⟩) rfl
   grind
 .simp only[go_sem,Bi h];refine Ae rfl ?_;rw[ho,Dt h];rfl
def Sm(t u:Nat)(a b:Int):Fn TT PT 61 [.lst t [[.int .i64 a]],.lst u [[.int .i64 b]]] (.int .i64 (Lib.compareInt a b)):=by
 refine Bc T61 rfl ?_;simp only[go_sem];refine Az Ayj ?_;simp only[go_sem];refine Ad AD ?_;simp only[go_sem];refine Le (fun h1=>?_) (fun h1=>?_)
 .simp only[go_sem];refine Ad AD ?_;simp only[go_sem];refine Le (fun h2=>?_) (fun h2=>?_)
  .simp only[go_sem];simp at h2;exact Ae rfl (by grind[Lib.compareInt])
  .simp only[go_sem];simp at h1 h2;exact Ae rfl (by rw[Lib.compareInt,if_neg AA,if_pos AA])
 .simp only[go_sem];refine Az Ayj ?_;simp only[go_sem];simp at h1;exact Ae rfl (by simp_all [Lib.compareInt])
/-! keys -/
abbrev A0:=List UInt8 × List UInt8 × Int
def Aw(k:A0):List V:=[.str k.1,.str k.2.1,.int .i64 k.2.2]
def Mv(a b:A0):Int:=if a.1≠b.1 then Lib.compareBytes a.1 b.1 else if a.2.1≠b.2.1 then Lib.compareBytes a.2.1 b.2.1 else Lib.compareInt a.2.2 b.2.2
def Arx(a b:A0):Fn TT PT 62 [.agg (Aw a),.agg (Aw b)] (.int .i64 (Mv a b)):=by
 refine Bc T62 rfl ?_;unfold Aw;simp only[go_sem];refine Le (fun h1=>?_) (fun h1=>?_)
 .simp only[go_sem]
  first | refine Fu P99 AG AK ?_ | refine Aey P99 AG AK ?_
  simp only[go_sem];refine Ae rfl ?_
  grind[Mv]
 .simp only[go_sem];refine Le (fun h2=>?_) (fun h2=>?_)
  .simp only[go_sem]
   first | refine Fu P99 AG AK ?_ | refine Aey P99 AG AK ?_
   simp only[go_sem];refine Ae rfl ?_
   grind[Mv]
  .simp only[go_sem]
   first | refine Ab (Sm _ _ a.2.2 b.2.2) AG ?_ | refine Ax (Sm _ _ a.2.2 b.2.2) AG ?_
   simp only[go_sem];refine Ae rfl ?_
   grind[Mv]
theorem Aus:∀ l:List UInt8,Lib.compareBytes l l=0
 | []=>rfl
 | a::l=>by
  simp[Lib.compareBytes,Aus l]
theorem Aut:∀ {a b:List UInt8},Lib.compareBytes a b=0->a=b
 | [],[],_=>rfl
 | [],_::_,h=>by grind[Lib.compareBytes]
 | _::_,[],h=>by grind[Lib.compareBytes]
 | a::r,b::s,h=>by
  simp only[Lib.compareBytes]at h
  split at h
  .omega
  .split at h
   .omega
   .rename_i h1 h2;rw[Aut h]
    grind
def A6r(a b:A0):Rp [Lib.compareBytes a.1 b.1,Lib.compareBytes a.2.1 b.2.1,Lib.compareInt a.2.2 b.2.2]=Mv a b:=by
 grind[Mv,Rp,Aus,Aut]
def Ary(a b:A0):Fn TT PT 96 [.agg (Aw a),.agg (Aw b)] (.int .i64 (Mv a b)):=by
 refine Bc T96 rfl ?_;unfold Aw;simp only[go_sem];refine Ad AD ?_;simp only[go_sem]
 first | refine Fu P99 AG AK ?_ | refine Aey P99 AG AK ?_
 simp only[go_sem]
 first | refine Fu P99 AG AK ?_ | refine Aey P99 AG AK ?_
 simp only[go_sem]
 first | refine Ab (Zy a.2.2 b.2.2) AG ?_ | refine Ax (Zy a.2.2 b.2.2) AG ?_
 simp only[go_sem]
 first | refine Ab (Ae5 1 [_,_,_] AE) AG ?_ | refine Ax (Ae5 1 [_,_,_] AE) AG ?_
 simp only[go_sem];exact Ae rfl (by rw[A6r])
/-! entries -/
structure Ent where
 kind:Int
 sites:List A0
 seen:Int
 missed:Int
 z:Bool:=true
 t:Nat:=0
def Ent.sl(x:Ent):V:=SL x.z x.t (x.sites.map Aw)
def Ent.row(x:Ent):List V:=[.int .i64 x.kind,x.sl,.int .i64 x.seen,.int .i64 x.missed]
def Gz:List A0->List A0->Int
 | [],[]=>0
 | [],_::_ => -1
 | _::_,[]=>1
 | a::r,b::s=>if Mv a b≠0 then Mv a b else Gz r s
def Cw(x y:Ent):Int:=if x.kind≠y.kind then Lib.compareInt x.kind y.kind else Gz x.sites y.sites
def Aea(x y:Ent)(hx:x.sites.length<=9223372036854775807)(hy:y.sites.length<=9223372036854775807):Fn TT PT 34 [.agg x.row,.agg y.row] (.int .i64 (Cw x y)):=by
 refine Bc T34 rfl ?_;unfold Ent.row Ent.sl;simp only[go_sem];refine Le (fun h1=>?_) (fun h1=>?_)
 .simp only[go_sem]
  first | refine Ab (Sm _ _ _ _) AG ?_ | refine Ax (Sm _ _ _ _) AG ?_
  simp only[go_sem];simp at h1;exact Ae rfl (by grind[Cw])
 .simp only[go_sem];simp at h1;have he:Cw x y=Gz x.sites y.sites:=by simp[Cw,h1]
  rw[he]
  refine Bh (fun i=>x.sites.length - i) (fun i:Nat=>[(2,.ptr 0 0 0),(3,.ptr 1 0 0),(5,.int .i64 i)]) (fun _=>[.row [.int .i64 x.kind,SL x.z x.t (x.sites.map Aw),.int .i64 x.seen,.int .i64 x.missed] 55 0 0,.row [.int .i64 y.kind,SL y.z y.t (y.sites.map Aw),.int .i64 y.seen,.int .i64 y.missed] 55 0 0])
   (fun i=>i<=x.sites.length/\i<=y.sites.length/\Gz x.sites y.sites=Gz (x.sites.drop i) (y.sites.drop i)) ?_ 0 ⟨by omega,by omega,rfl⟩
  rintro i ⟨hi,qG,ho⟩ ih;refine Az Blk ?_;rcases Bb i x.sites.length with h | h
  .obtain⟨a,ha,qt,-⟩:=Bl h;rcases Bb i y.sites.length with h2 | h2
   .obtain⟨b,hb,qn,-⟩:=Bl h2;rw[qt,qn,Gz]at ho;simp only[go_sem,Ar h,Ar h2,ha,hb,Ai,Aj];refine Ad AD ?_;simp only[go_sem,Ar h,Ar h2,ha,hb,Ai,Aj,Aw]
    first | refine Ab (Arx a b) AG ?_ | refine Ax (Arx a b) AG ?_
    simp only[go_sem];refine Le (fun h3=>?_) (fun h3=>?_)
    .simp only[go_sem];simp at h3;exact Ae rfl (by grind)
    .simp only[go_sem,Ay (Pd h hx)];simp at h3;refine Am (ih (i+1) AA ⟨by omega,by omega,by omega⟩) rfl
   .simp only[go_sem,Ar h,Bi h2,Aj]
    first | refine Ab (Sm _ _ _ _) AG ?_ | refine Ax (Sm _ _ _ _) AG ?_
    simp only[go_sem];refine Ae rfl ?_;rw[ho,qt,Dt h2,Gz,Lib.compareInt,if_neg AA,if_pos AA]
  .simp only[go_sem,Bi h,Aj]
   first | refine Ab (Sm _ _ _ _) AG ?_ | refine Ax (Sm _ _ _ _) AG ?_
   simp only[go_sem];refine Ae rfl ?_;rw[ho,Dt h];rcases Bb i y.sites.length with h2 | h2
   .obtain⟨b,hb,qn,-⟩:=Bl h2;rw[qn,Gz,Lib.compareInt,if_pos AA]
   .rw[Dt h2,Gz,Lib.compareInt,if_neg AA,if_neg AA]
def Bm4(x y:Ent)(hx:x.sites.length<=9223372036854775807)(hy:y.sites.length<=9223372036854775807)(σ:St):
  Th TT PT 95 [x.sl,y.sl,.fn 96 [] []] σ (.int .i64 (Gz x.sites y.sites)) σ:=by
 refine Bj0 T95 rfl ?_;unfold Ent.sl;simp only[go_sem,Aj]
 refine Bh (α:=Nat × St) (fun a=>x.sites.length - a.1) (fun a=>[(0,SL x.z x.t (x.sites.map Aw)),(1,SL y.z y.t (y.sites.map Aw)),(2,.fn 96 [] []),(11,SL x.z x.t (x.sites.map Aw)),(12,.int .i64 x.sites.length),(13,.int .i64 a.1)]) (fun a=>a.2)
   (fun a=>a.1<=x.sites.length/\a.1<=y.sites.length/\Gz x.sites y.sites=Gz (x.sites.drop a.1) (y.sites.drop a.1)/\∃ J,a.2=σ++J) ?_ (0,σ) ⟨by simp,by simp,rfl,[],by simp⟩
 rintro⟨i,s⟩ ⟨hi,qG,ho,J,hJ⟩ ih;simp only at hi qG ho hJ ih;refine Az Bmo ?_;rcases Bb i x.sites.length with h | h
 .obtain⟨a,ha,qt,-⟩:=Bl h;rcases Bb i y.sites.length with h2 | h2
  .obtain⟨b,hb,qn,-⟩:=Bl h2;rw[qt,qn,Gz]at ho;simp only[go_sem,Ar h,ha,Ai,Aj,Aw,Bn8 h2,hb]
   first | refine Ab (Ary a b) AG ?_ | refine Ax (Ary a b) AG ?_
   simp only[go_sem];refine Le (fun h3=>?_) (fun h3=>?_)
   .simp only[go_sem];simp at h3;rw[ho,if_pos h3,hJ,Dk];exact Ad8 _ rfl
   .simp only[go_sem,Ay (Pd h hx)];simp at h3;refine Am (ih (i+1,_) AA ⟨by omega,by omega,by grind,_,by simp only;rw[hJ,Dk]⟩) rfl
  .simp only[go_sem,Ar h,ha,Ai,Aj,Aw,Bn7 h2];rw[ho,qt,Dt h2,Gz,hJ,Dk];exact Ad8 _ rfl
 .have hk:Gz x.sites y.sites=if x.sites.length<y.sites.length then -1 else 0:=by
   rw[ho,Dt h];rcases Bb i y.sites.length with h2 | h2
   .obtain⟨b,hb,qn,-⟩:=Bl h2;rw[qn,Gz,if_pos AA]
   .rw[Dt h2,Gz,if_neg AA]
  simp only[go_sem,Bi h,Aj];rw[hk,hJ];refine Le (fun h2=>?_) (fun h2=>?_)
  .simp only[go_sem];rw[if_pos (by grind)];exact Ad8 _ rfl
  .simp only[go_sem];rw[if_neg (by grind)];exact Ad8 _ rfl
def A6s(x y:Ent):Rp [Lib.compareInt x.kind y.kind,Gz x.sites y.sites]=Cw x y:=by
 grind[Cw,Rp,Lib.compareInt]
def A1u(x y:Ent)(hx:x.sites.length<=9223372036854775807)(hy:y.sites.length<=9223372036854775807):Fn TT PT 56 [.agg x.row,.agg y.row] (.int .i64 (Cw x y)):=by
 refine Bc T56 rfl ?_;have cx:x.sl.cellB=true:=Sk ..;have cy:y.sl.cellB=true:=Sk ..;unfold Ent.row;simp only[go_sem,cx,cy];refine Ad AD ?_;simp only[go_sem]
 first | refine Ab (Zy x.kind y.kind) AG ?_ | refine Ax (Zy x.kind y.kind) AG ?_
 simp only[go_sem];refine Aaf (Bm4 x y hx hy _) (by repeat (first | exact trivial | refine⟨.inl AK,?_⟩ | refine⟨by rfl,?_⟩ | refine⟨.inr ⟨by rfl,by rfl⟩,?_⟩)) (by repeat (first | exact trivial | refine⟨.inl AK,?_⟩ | refine⟨by rfl,?_⟩ | refine⟨.inr ⟨by rfl,by rfl⟩,?_⟩)) ?_;simp only[go_sem]
 first | refine Ab (Ae5 1 [_,_] AE) AG ?_ | refine Ax (Ae5 1 [_,_] AE) AG ?_
 simp only[go_sem];exact Ae rfl (by rw[A6s])
def Aeb(x y:Ent)(hx:x.sites.length<=9223372036854775807)(hy:y.sites.length<=9223372036854775807):Fn TT PT 25 [.agg x.row,.agg y.row] (.bool (decide (Cw x y<0))):=by
 refine Bc T25 rfl ?_;have cx:x.sl.cellB=true:=Sk ..;have cy:y.sl.cellB=true:=Sk ..;have rx:x.sl.rowB=true:=G8 ..;have ry:y.sl.rowB=true:=G8 ..;unfold Ent.row;simp only[go_sem,cx,cy];refine Ab (A1u x y hx hy) (by simp only[go_sem,Ent.row,rx,ry]) ?_;simp only[go_sem];exact F5 rfl
abbrev eR (x:Ent) (w:V):List V:=[.int .i64 x.kind,w,.int .i64 x.seen,.int .i64 x.missed]
abbrev eO (x:Ent) (w:V):Ob:=.row (eR x w) 55 0 0
abbrev kR (k:A0):List V:=[.str k.1,.str k.2.1,.int .i64 k.2.2]
def G6(l:List A0):∀ r∈l.map Aw,r.length=3:=by
 intro r hr;obtain⟨k,_,rfl⟩:=Cs.1 hr;rfl
def Lp(l:List A0):∀ r∈l.map Aw,r.all V.rowB=true:=by
 intro r hr;obtain⟨k,_,rfl⟩:=Cs.1 hr;rfl
def Bbh(x:Ent):Df (.agg x.row)=true:=by
 have:=G8 x.z x.t (x.sites.map Aw);simp only[go_sem,Ent.row,Ent.sl]
@[go_sem] theorem Q0 (x:Ent):x.row=(eR x x.sl):=Bq rfl
@[go_sem] theorem Bpu (x:Ent):x.sl.rowB=true:=G8 ..
@[go_sem] theorem Bpm (x:Ent):x.sl.cellB=true:=Sk ..
@[go_sem] theorem Bpi (x:Ent):x.sl.cells=[x.sl]:=Arr ..
@[go_sem] theorem Bpv (x:Ent):Df x.sl=true:=Aag ..
@[go_sem] theorem Bpw (x:Ent):Mc x.sl=some (.int .i64 (x.sites.length:Int)):=(Aah ..).trans (by grind)
@[go_sem] theorem Bpn (x:Ent) (σ:St) (m:Nat):Eu σ m x.sl=some (x.sites.map Aw):=Zw ..
theorem Gk(l:List Ent):∀ r∈l.map Ent.row,r.length=4:=by
 intro r hr;obtain⟨k,_,rfl⟩:=Cs.1 hr;rfl
def Bbi(x:Ent):x.row.all V.rowB=true:=Bbh x
def J3(l:List Ent):∀ r∈l.map Ent.row,r.all V.rowB=true:=by
 intro r hr;obtain⟨k,_,rfl⟩:=Cs.1 hr;simp[Bbi]
def C9(e:Ent):List Ent->Nat
 | []=>0
 | x::r=>if Cw x e<0 then C9 e r+1 else 0
theorem Yz(e:Ent):∀ l,C9 e l<=l.length
 | []=>An _
 | x::r=>by
  simp only[C9,Bg];have:=Yz e r
  grind
def Gt(e:Ent)(l:List Ent):Bool:=match l[C9 e l]? with
 | some x=>Cw x e==0
 | none=>false
def K4(l:List Ent):Prop:=∀ x∈l,x.sites.length<=9223372036854775807
def Ai9(z:Bool)(t:Nat)(l:List Ent)(e:Ent)(hl:l.length<=9223372036854775807)(ho:K4 l)(he:e.sites.length<=9223372036854775807):
  Fn TT PT 32 [SL z t (l.map Ent.row),.agg e.row] (.tup [.int .i64 (C9 e l:Int),.bool (Gt e l)]):=by
 refine Bc T32 rfl ?_;simp only[go_sem];refine Bh (fun i=>l.length - i) (fun i:Nat=>[(0,SL z t (l.map Ent.row)),(3,.ptr 0 0 0),(6,.int .i64 i)]) (fun _=>[.row e.row 55 0 0]) (fun i=>i<=l.length/\C9 e l=i+C9 e (l.drop i)) ?_ 0 ⟨by omega,by simp⟩;rintro i ⟨hi,hp⟩ ih;refine Az Blj ?_;rcases Bb i l.length with h | h
 .obtain⟨x,hx,hd,hm⟩:=Bl h;rw[hd,C9]at hp;simp only[go_sem];refine Ad AD ?_;simp only[go_sem,Ar h,Aj,Ai,hx];refine Ax (Aea x e (ho x hm) he) AB ?_;simp only[go_sem];refine Le (fun h3=>?_) (fun h3=>?_)
  .simp only[go_sem,Ay (Pd h hl)];refine Am (ih (i+1) AA ⟨by omega,?_⟩) rfl
   grind
  .simp only[go_sem];rw[if_neg (by grind)]at hp;have qC:C9 e l=i:=by omega
   refine Ad AD ?_;simp only[go_sem,Ar h,Aj,Ai,hx];refine Ax (Aea x e (ho x hm) he) AB ?_;simp only[go_sem];rw[Gt,qC,hx];exact Fp rfl
 .simp only[go_sem];refine Ad AD ?_;simp only[go_sem,Bi h,Aj];have qC:C9 e l=i:=by rw[hp,Dt h,C9];rfl
  refine Ad AD ?_;simp only[go_sem,Bi h,Aj];rw[Gt,qC,Ahc h];exact Fp rfl
def Ent.own(e:Ent):Ent:={ e with z:=true,t:=0 }
def Bgz{σ:St}{e lo:Nat}{u:V}{x:Ent}(h:GW σ 3 e lo u (x.sites.map Aw)):FR (.agg (eR x u)) σ (.agg x.own.row):=
 Bf9 (pre:=[.int .i64 x.kind]) (post:=[.int .i64 x.seen,.int .i64 x.missed]) h AA (G6 _) (Lp _) rfl rfl
def Ap6(e:Ent)(he:e.sites.length<=1000000):Fn TT PT 30 [.agg e.row] (.agg e.own.row):=by
 obtain⟨u1,s1,e1,g1,l1,-,f1⟩:=G9 (lo:=2) (σ:=[eO e e.sl,.row [.int .i64 0,.nils,.int .i64 0,.int .i64 0] 55 0 0]) (m:=3) (e:=57) (bytes:=40) (y:=e.sl) (ys:=e.sites.map Aw) De AE (Zw ..) AA AE (G6 _) (by grind);have q0:=f1 0 AE;have q1:=f1 1 AE;rw[Ci]at g1;have hl:2<=s1.length:=l1
 match s1,q0,q1,hl with
 | a::b::J,q0,q1,_=>
 cases q0;cases q1;refine Bc T30 rfl ?_;simp only[go_sem,e1,Lc (Bx g1),Bx g1];exact Bgz (σ:=eO e u1::eO e u1::J) (Dv (j:=1) (x:=eO e u1) (Dv (j:=0) (x:=eO e u1) g1 AA) AA)
def Bbj(z:Bool)(t:Nat)(l:List Ent)(i:Nat)(e:Ent)(hi:i<=l.length)(hl:l.length<=1000000)(he:e.sites.length<=1000000):
  Fn TT PT 33 [SL z t (l.map Ent.row),.int .i64 (i:Int),.agg e.row] (SL true 0 ((l.take i++e.own::l.drop i).map Ent.row)):=by
 have hc:=Ap6 e he;obtain⟨za,ta,ha⟩:=Wi z t 4 (l.map Ent.row) .i64 i (by grind);obtain⟨zb,tb,hb⟩:=A3f z t 4 (l.map Ent.row) .i64 i (by grind) (Gk _);rw[<-R3]at ha;rw[<-Ach]at hb;obtain⟨u1,s1,e1,g1,l1,-,f1⟩:=G9 (lo:=1) (σ:=[.row e.row 55 0 0]) (m:=4) (e:=55) (bytes:=48) (y:=SL za ta ((l.take i).map Ent.row)) De AE (Zw ..) AA AE (Gk _) (by grind);rw[Ci]at g1;have q1:=f1 0 AE;obtain⟨u2,s2,e2,g2,l2,-,f2⟩:=G9 (m:=4) (e:=55) (bytes:=48) (y:=.sl s1.length 0 0 1 4 true) (ys:=[e.own.row]) (H0 (l:=[.row e.own.row 55 0 0]) g1) (by grind) (by simp only[Eu,Nc]<;>rfl) AA (Gk _) (by simp[Ent.row]) (by grind);rw[Aq]at l2
 have qv:∀ r∈(l.take i).map Ent.row++[e.own.row],r.length=4:=by
  intro r hr;rcases Ch.1 hr with h | h
  .grind[Gk]
  .simp at h;rw[h];rfl
 obtain⟨u3,s3,e3,g3,l3,-,f3⟩:=G9 (m:=4) (e:=55) (bytes:=48) (y:=SL zb tb ((l.drop i).map Ent.row)) g2 (by grind) (Zw ..) AA qv (Gk _) (by grind);have hw:((l.take i).map Ent.row++[e.own.row])++(l.drop i).map Ent.row=(l.take i++e.own::l.drop i).map Ent.row:=by simp
 rw[hw]at g3;refine Bc T33 rfl ?_;simp only[Q0]at e1 e2 q1;simp only[go_sem,ha,e1,q1];refine Ab hc AB ?_;simp only[go_sem,e2,hb,e3];exact Rb g3 AA (Gk _) (J3 _)
def K0(e':Ent)(l:List Ent):List Ent:=if Gt e' l then l else l.take (C9 e' l)++e'::l.drop (C9 e' l)
def Ah2(e:Ent):∀ l,C9 e.own l=C9 e l
 | []=>rfl
 | x::r=>by simp only[C9,Ah2 e r];rfl
def A1v(e:Ent)(l:List Ent):Gt e.own l=Gt e l:=by
 unfold Gt;rw[Ah2];rfl
def A3o(l:List Ent)(e:Ent)(hl:l.length<=1000000)(ho:K4 l)(he:e.sites.length<=1000000):
  Fn TT PT 19 [SL true 0 (l.map Ent.row),.agg e.row] (SL true 0 ((K0 e.own l).map Ent.row)):=by
 have hp:=Ai9 true 0 l e AA ho AA;unfold K0;rw[A1v,Ah2];by_cases h:Gt e l=true
 .rw[if_pos h];refine Bc T19 rfl ?_;rw[h]at hp;simp only[go_sem];refine Ab hp AB ?_;simp only[go_sem];exact F5 (Aag ..)
 .have hq:=Bbj true 0 l (C9 e l) e (Yz e l) hl he;rw[if_neg h];refine Bc T19 rfl ?_;rw[V3]at h;rw[h]at hp;simp only[go_sem];refine Ab hp AB ?_;simp only[go_sem];refine Ab hq AB ?_;simp only[go_sem];exact F5 (Aag ..)
structure Lin {α:Type} (c:α->α->Int):Prop where
 zero:∀ x y,c x y=0↔x=y
 flip:∀ x y,c x y<0↔0<c y x
 trans:∀ x y z,c x y<0->c y z<0->c x z<0
def Lin.tri{α:Type}{c:α->α->Int}(h:Lin c)(x y:α):c x y<0\/x=y\/c y x<0:=by
 rcases Int.lt_trichotomy (c x y) 0 with h1 | h1 | h1
 .omega
 .exact .inr (.inl ((h.zero x y).1 h1))
 .exact .inr (.inr ((h.flip y x).2 h1))
def Lin.asym{α:Type}{c:α->α->Int}(h:Lin c){x y:α}(h1:c x y<0):¬ c y x<0:=fun h2=>by
 have:=(h.flip x y).1 h1;omega
def Af4{x y:Int}:Lib.compareInt x y<0↔x<y:=by
 grind[Lib.compareInt]
def Bm5{x y:Int}:0<Lib.compareInt x y↔y<x:=by
 grind[Lib.compareInt]
def Bbk{x y:Int}:Lib.compareInt x y=0↔x=y:=by
 grind[Lib.compareInt]
theorem Aj3:Lin Lib.compareInt where
 zero _ _:=Bbk
 flip _ _:=Af4.trans Bm5.symm
 trans _ _ _ h1 h2:=Af4.2 (Int.lt_trans (Af4.1 h1) (Af4.1 h2))
def Ib{α:Type}(c:α->α->Int):List α->List α->Int
 | [],[]=>0
 | [],_::_ => -1
 | _::_,[]=>1
 | a::r,b::s=>if c a b≠0 then c a b else Ib c r s
theorem Aja{α:Type}{c:α->α->Int}(h:Lin c):Lin (Ib c) where
 zero:=by
  intro x
  induction x with
  | nil=>intro y;cases y<;>simp[Ib]
  | cons a r ih=>
   intro y
   cases y with
   | nil=>simp[Ib]
   | cons b s=>
    simp only[Ib];by_cases hc:c a b=0
    .have:=(h.zero a b).1 hc
     grind
    .have:a≠b:=fun e=>hc ((h.zero a b).2 e)
     grind
 flip:=by
  intro x
  induction x with
  | nil=>intro y;cases y<;>simp[Ib]
  | cons a r ih=>
   intro y
   cases y with
   | nil=>simp[Ib]
   | cons b s=>
    simp only[Ib];by_cases hc:c a b=0
    .have:=(h.zero a b).1 hc
     grind
    .have qK:c b a≠0:=fun e=>hc ((h.zero a b).2 ((h.zero b a).1 e).symm)
     simp[hc,qK,h.flip a b]
 trans:=by
  intro x
  induction x with
  | nil=>
   intro y z
   cases y with
   | nil=>omega
   | cons b s=>cases z<;>simp[Ib]
  | cons a r ih=>
   intro y z
   cases y with
   | nil=>simp[Ib]
   | cons b s=>
    cases z with
    | nil=>simp[Ib]
    | cons d u=>
     simp only[Ib];by_cases h1:c a b=0
     .have:=(h.zero a b).1 h1
      grind
     .by_cases h2:c b d=0
      .have:=(h.zero b d).1 h2
       grind
      .simp only[ne_eq,h1,h2,not_false_eq_true,if_true];intro g1 g2;have g3:=h.trans a b d g1 g2;omega
def Vm{α β:Type}[DecidableEq α](c:α->α->Int)(d:β->β->Int)(x y:α × β):Int:=if x.1≠y.1 then c x.1 y.1 else d x.2 y.2
theorem Arz{α β:Type}[DecidableEq α]{c:α->α->Int}{d:β->β->Int}(h:Lin c)(g:Lin d):Lin (Vm c d) where
 zero x y:=by
  unfold Vm;obtain⟨a,b⟩:=x;obtain⟨a',b'⟩:=y;by_cases e:a=a'
  .subst e;simp[g.zero b b']
  .simp[e,h.zero a a']
 flip x y:=by
  unfold Vm;by_cases e:x.1=y.1
  .simp[e,g.flip x.2 y.2]
  .have e':¬ y.1=x.1:=fun q=>e q.symm
   simp[e,e',h.flip x.1 y.1]
 trans x y z:=by
  unfold Vm;by_cases e:x.1=y.1
  .by_cases e2:y.1=z.1
   .simp[e,e2];exact g.trans _ _ _
   grind
  .by_cases e2:y.1=z.1
   .grind
   .simp only[ne_eq,e,e2,not_false_eq_true,if_true];intro h1 h2;have h3:=h.trans _ _ _ h1 h2
    have:¬ x.1=z.1:=fun q=>by
     have:=(h.zero x.1 z.1).2 q;omega
    grind
def Vd(a b:UInt8):Int:=if a<b then -1 else if b<a then 1 else 0
theorem A6t:Lin Vd where
 zero x y:=by
  grind[Vd]
 flip x y:=by
  grind[Vd]
 trans x y z:=by
  grind[Vd]
def Awp:∀ a b:List UInt8,Lib.compareBytes a b=Ib Vd a b
 | [],[]=>rfl
 | [],_::_=>rfl
 | _::_,[]=>rfl
 | a::r,b::s=>by
  simp only[Lib.compareBytes,Ib,Vd];by_cases h1:a<b
  .simp[h1]
  .by_cases h2:b<a
   .grind
   .simp[h1,h2,Awp r s]
theorem A3p:Lin Lib.compareBytes:=by
 have:Lib.compareBytes=Ib Vd:=by funext a b;exact Awp a b
 grind[Aja,A6t]
theorem Bbl:Lin Mv:=by
 have:Mv=Vm Lib.compareBytes (Vm Lib.compareBytes Lib.compareInt):=by funext a b;rfl
 grind[Arz,A3p,Aj3]
def Ar0:∀ a b,Gz a b=Ib Mv a b
 | [],[]=>rfl
 | [],_::_=>rfl
 | _::_,[]=>rfl
 | a::r,b::s=>by simp only[Gz,Ib,Ar0 r s]
def A6u:Lin Gz:=by
 have:Gz=Ib Mv:=by funext a b;exact Ar0 a b
 grind[Aja,Bbl]
def Ent.ks(x:Ent):Int × List A0:=(x.kind,x.sites)
def Js:Int × List A0->Int × List A0->Int:=Vm Lib.compareInt Gz
def lin_p:Lin Js:=Arz Aj3 A6u
theorem Bg0(x y:Ent):Cw x y=Js x.ks y.ks:=rfl
def Mz(l:List Ent):Prop:=l.Pairwise fun x y=>Cw x y<0
def Ah3(e:Ent):∀ {l:List Ent},Mz l->(∀ x∈l.take (C9 e l),Cw x e<0)/\∀ x∈l.drop (C9 e l),¬ Cw x e<0
 | [],_=>by grind
 | x::r,h=>by
  simp only[C9];have hr:=Ah3 e (Mh.1 h).2
  split
  .grind
  .rename_i hx;simp only[Ahn,Of,false_implies,implies_true,true_and,Jd,Bo];rintro y (rfl | hy)
   .exact hx
   .intro qe;have h1:=(Mh.1 h).1 y hy;exact hx (lin_p.trans x.ks y.ks e.ks h1 qe)
def A1w{e:Ent}{l:List Ent}(h:Mz l):Gt e l=true↔∃ x∈l,x.ks=e.ks:=by
 have hs:=Ah3 e h;unfold Gt;constructor
 .intro ht
  cases hx:l[C9 e l]? with
  | none=>grind
  | some x=>
   rw[hx]at ht;have hz:Cw x e=0:=by simpa using ht
   exact⟨x,F0 hx,(lin_p.zero _ _).1 hz⟩
 .rintro⟨x,hx,he⟩;have hz:Cw x e=0:=(lin_p.zero _ _).2 he;have hm:x∈l.take (C9 e l)++l.drop (C9 e l):=by rw[Ja];exact hx
  rcases Ch.1 hm with hm | hm
  .grind
  .cases hd:l.drop (C9 e l) with
   | nil=>grind
   | cons y r=>
    have hy:l[C9 e l]?=some y:=by
     have:(l.drop (C9 e l))[0]?=some y:=by rw[hd];rfl
     rwa [Ahf,Oh]at this
    rw[hy];rw[hd]at hm;rcases Bo.1 hm with rfl | hm
    .grind
    .-- y is ahead of x,and not ahead of e
     have qV:(y::r).Pairwise fun x y=>Cw x y<0:=by rw[<-hd];exact h.drop
     grind[List.pairwise_cons,Bg0]
def Ar1{e:Ent}{l:List Ent}(h:Mz l):Mz (K0 e l):=by
 unfold K0
 split
 .exact h
 .rename_i ht;have hs:=Ah3 e h;have hn:∀ x∈l,x.ks≠e.ks:=fun x hx he=>ht ((A1w h).2 ⟨x,hx,he⟩)
  unfold Mz at h ⊢;rw[Ab1,Mh];refine⟨h.take,⟨fun y hy=>?_,h.drop⟩,fun x hx y hy=>?_⟩
  .rcases lin_p.tri e.ks y.ks with h1 | h1 | h1
   .exact h1
   .grind
   .exact absurd h1 (hs.2 y hy)
  .rcases Bo.1 hy with rfl | hy
   .grind
   grind[List.take_append_drop]
def Ar2{e x:Ent}{l:List Ent}(h:x∈K0 e l):x=e\/x∈l:=by
 grind[K0]
def Ar3{e:Ent}{l:List Ent}:(K0 e l).length<=l.length+1:=by
 grind[K0]
def Nq(n:Nat):A0:=((if n % 3=0 then [109,97,105,110] else if n % 3=1 then [116,49] else [65,95,57]),(if n / 3 % 3=0 then [120,32,61,32,49,59] else if n / 3 % 3=1 then [120,32,61,32,40,97,32,43,32,49,41,59] else [108,111,99,107,32,109,32,123]),((n / 9 % 3:Nat):Int))
noncomputable def runOne (f:AF) (args:List V):Option V:=(Ld (Nv TT PT 60) f args []).bind fun p=>D8 p.2 p.1
def A6v:((List.range 256).all fun n=>match runOne af49 [.int .u8 n] with
  | some v=>v.eqv (.agg (Aw (Nq n)))
  | none=>false)=true:=by kernel_rfl
def Bbm(n:Nat)(h:n<256):Fn TT PT 49 [.int .u8 n] (.agg (Aw (Nq n))):=by
 have:=B6.1 A6v n (Gw.2 h)
 split at this
 .rename_i v hv;have e:=Xb this;subst e;exact Qz Ro T49 rfl rfl hv
 .cases this
structure Item where
 kind:Nat
 seen:Nat
 missed:Nat
 a:Nat
 b:Nat
 c:Nat
 d:Nat
def Item.ok(x:Item):Prop:=x.kind<256/\x.seen<256/\x.missed<256/\x.a<256/\x.b<256/\x.c<256/\x.d<256
def Item.row(x:Item):List V:=[.int .u8 x.kind,.int .u8 x.seen,.int .u8 x.missed,.int .u8 x.a,.int .u8 x.b,.int .u8 x.c,.int .u8 x.d]
def Item.nums(x:Item):List Nat:=[x.a,x.b,x.c,x.d]
def Tt(k:Nat):Nat:=if k % 4=0 then 2 else if k % 4=1 then 2+k / 4 % 3 else if k % 4=2 then 2 else 4
def Item.ent(x:Item):Ent:=⟨1+(x.kind % 4:Nat),(x.nums.take (Tt x.kind)).map Nq,1+(x.seen % 9:Nat),(x.missed % 8:Nat),true,0⟩
theorem Aai(k:Nat):2<=Tt k/\Tt k<=4:=by
 unfold Tt
 split
 .omega
 .split
  .omega
  .split<;>omega
def Aa3(a b:Nat):(a:Int).tmod (b:Int)=((a % b:Nat):Int):=(Int.ofNat_tmod a b).symm
def Bm6(a b:Nat):(a:Int).tdiv (b:Int)=((a / b:Nat):Int):=(Int.ofNat_tdiv a b).symm
def A3q(k:IntKind)(n d:Nat):Du (some (.int k (n:Int))) d=some n:=by
 simp only[Du];rw[if_pos AA,J0]
attribute [go_sem ↓] A3q
attribute [go_sem] Yr Av Yi
def Lt{m j g off len i:Nat}{w:Bool}{k:IntKind}(h:i<len):Mb m (.sl j g off len m w) (.int k (i:Int))=some (.ptr j g (off+i*m)):=by
 simp only[Mb];rw[if_pos ⟨by omega,by omega,trivial⟩,J0]
@[go_sem] theorem Ajb (x:Item):x.row=[.int .u8 x.kind,.int .u8 x.seen,.int .u8 x.missed,.int .u8 x.a,.int .u8 x.b,.int .u8 x.c,.int .u8 x.d]:=Bq rfl
def A3r{l:List Nat}{j m:Nat}(h:l[j]?=some m):((l.take (j+1)).map Nq).map Aw=((l.take j).map Nq).map Aw++[Aw (Nq m)]:=by
 rw[Aho,h];simp
def F7(l:List Item)(i:Nat):List Ent:=(l.take i).foldl (fun s x=>K0 x.ent s) []
def Ap7{l:List Item}{i:Nat}{x:Item}(h:l[i]?=some x):F7 l (i+1)=K0 x.ent (F7 l i):=by
 unfold F7;rw[Aho,h];simp[Acb]
def Adn(l:List Item):∀ i,(F7 l i).length<=i/\Mz (F7 l i)/\∀ e∈F7 l i,∃ x∈l,e=x.ent
 | 0=>by simp[F7,Mz]
 | i+1=>by
  obtain⟨h1,h2,h3⟩:=Adn l i
  cases hx:l[i]? with
  | none=>
   have:F7 l (i+1)=F7 l i:=by
    unfold F7;rw[Aho,hx];simp
   rw[this];exact⟨by omega,h2,h3⟩
  | some x=>
   rw[Ap7 hx];refine⟨by have:=Ar3 (e:=x.ent) (l:=F7 l i);omega,Ar1 h2,fun e he=>?_⟩;rcases Ar2 he with rfl | he
   .exact⟨x,F0 hx,rfl⟩
   .exact h3 e he
theorem Y0(x:Item):x.ent.sites.length=Tt x.kind:=by
 have:=Aai x.kind;simp[Item.ent,Item.nums];omega
end Go.Proofs.YtdbnbejffjhdlaaGreatDoor.KM
/- What every law's closing needs: listed tables, the post of a law that answers true and leaves its arguments. -/
namespace Go.Proofs.YtdbnbejffjhdlaaGreatDoor
open Go.ChangeShapes Go.WideShapes Go.ChangeAt Go.RowKit KM
mutual
def flatV{H:Type}:DataW H->List Value
 | .lit (.bool b)=>[.bool b]
 | .lit (.int k n)=>[.int k n]
 | .lit (.string l)=>[.string ⟨l.toArray⟩]
 | .agg ps=>Sx ps
 | _=>[]
def Sx{H:Type}:List (DataW H)->List Value
 | []=>[]
 | d::ds=>flatV d++Sx ds
end
def Ak1(P:Program)(ts:List TypeId):Bool:=ts.all fun t=>
 match P.underlying t with
 | some .bool | some (.int _) | some .string=>P.cellsOf t==1
 | some (.struct fs)=>fs.toList.all (fun f=>ts.contains f.type)&&Q7 P fs.toList 0 (P.cellsOf t)
 | some (.array n e)=>ts.contains e&&P.cellsOf t==n*P.cellsOf e
 | _=>false
def Aoi{H:Type}{P:Program}{cs:List Value}{g:Field->Option (DataW H × List MemPlace)}:
  ∀ (fl:List Field) (s e:Nat) (xs:List (DataW H × List MemPlace)),Q7 P fl s e=true->fl.mapM g=some xs->e=cs.length ->
   (∀ f∈fl,∀ x,g f=some x->(cs.drop f.offset).take (P.cellsOf f.type)=flatV x.1)->cs.drop s=Sx (xs.map (·.1))
 | [],s,e,xs,hc,hm,he,_=>by
  simp[Q7]at hc;simp at hm;subst hc hm he;simp[Sx]
 | f::fl,s,e,xs,hc,hm,he,hg=>by
  simp only[Q7,Ak,beq_iff_eq]at hc;rw[J1]at hm
  cases hf:g f with
  | none=>simp[hf]at hm
  | some x=>
   cases hl:fl.mapM g with
   | none=>simp[hf,hl]at hm
   | some r=>
    simp[hf,hl]at hm;subst hm;have h1:=Aoi fl _ e r hc.2 hl he (fun f' qM=>hg f' (Db _ qM));have h2:=hg f (Cr) x hf;rw[hc.1]at h2;rw[A2];simp only[Sx];rw[<-h1,<-h2,<-V6];exact(Ja _ _).symm
def Ao1{H:Type}{cs:List Value}{m:Nat}{g:Nat->Option (DataW H × List MemPlace)}(hg:∀ i x,g i=some x->(cs.drop (i*m)).take m=flatV x.1):
  ∀ (n s:Nat) (xs:List (DataW H × List MemPlace)),(List.range' s n).mapM g=some xs->cs.length=(s+n)*m->cs.drop (s*m)=Sx (xs.map (·.1))
 | 0,s,xs,hm,hl=>by
  simp at hm;subst hm;simp at hl;simp[Sx,hl]
 | n+1,s,xs,hm,hl=>by
  rw[List.range'_succ,J1]at hm
  cases hf:g s with
  | none=>simp[hf]at hm
  | some x=>
   cases hr:(List.range' (s+1) n).mapM g with
   | none=>simp[hf,hr]at hm
   | some r=>
    simp[hf,hr]at hm;subst hm;have h1:=Ao1 hg n (s+1) r hr (by rw[hl];congr 1;omega);have h2:=hg s x hf;rw[A2];simp only[Sx];rw[<-h1,<-h2,F1,<-V6];exact(Ja _ _).symm
def Ahs{H:Type}(qd:TypeId × Value->H)(P:Program)(w:World)(qh:Nat->Bool)(qo:Bool)(ts:List TypeId)(qj:Ak1 P ts=true):
  ∀ (fuel:Nat) (t:TypeId) (cs:List Value) (d:DataW H) (ps:List MemPlace),t∈ts->DataW.trod qd P w 0 qh qo fuel t cs=some (d,ps)->cs=flatV d
 | 0,_,_,_,_,_,h=>by simp[DataW.trod]at h
 | fuel+1,t,cs,d,ps,ht,h=>by
  have hp:=B6.1 qj t ht;simp only[DataW.trod]at h
  split at h
  .simp at h;obtain⟨rfl,_⟩:=h;rfl
  .split at h
   .rename_i hk;simp at h;obtain⟨rfl,_⟩:=h;obtain⟨rfl,_⟩:=hk;rfl
   .cases h
  .rename_i hu;rw[hu]at hp;cases hp
  .split at h
   .simp at h;obtain⟨rfl,_⟩:=h;simp[flatV]
   .cases h
  .rename_i hu;rw[hu]at hp;cases hp
  .rename_i hu;rw[hu]at hp;cases hp
  .rename_i hu;rw[hu]at hp;cases hp
  .rename_i hu;rw[hu]at hp;cases hp
  .rename_i fs hu;rw[hu]at hp;simp only[Ak,B6,Ab0]at hp
   split at h
   .rename_i qA;simp only[Cg]at h;obtain⟨xs,hm,h⟩:=h;simp at h;obtain⟨rfl,_⟩:=h;have:=Aoi (P:=P) (cs:=_) fs.toList 0 _ xs hp.2 hm qA.symm (fun f hf x hx=>Ahs qd P w qh qo ts qj fuel f.type _ x.1 x.2 (hp.1 f hf) hx);simpa[flatV] using this
   .cases h
  .rename_i n e hu;rw[hu]at hp;simp only[Ak,beq_iff_eq,Ab0]at hp
   split at h
   .rename_i qA;simp only[Cg]at h;obtain⟨xs,hm,h⟩:=h;simp at h;obtain⟨rfl,_⟩:=h;rw[List.range_eq_range']at hm;have:=Ao1 (cs:=_) (m:=P.cellsOf e) (fun i x hx=>Ahs qd P w qh qo ts qj fuel e _ x.1 x.2 hp.1 hx) n 0 xs hm (by rw[qA,hp.2];simp);simpa[flatV] using this
   .cases h
  all_goals first
   | (rename_i hu;rw[hu]at hp;cases hp)
   | cases h
def Ajc{P:Program}{w:World}{n:String}{d:DataW Unit}:∀ {qb:List (String × DataW Unit)} {ps:List MemPlace},DataW.LaidVars P w qb ps->(n,d)∈qb ->
  ∃ g t cs fuel p,P.globalNamed n=some g/\(P.globals[g]?).map (·.type)=some t/\w.var? P n=some cs/\DataW.trod (fun _=>()) P w 0 (fun _=>true) false fuel t cs.toList=some (d,p)
 | [],_,_,hm=>by cases hm
 | (n',d')::r,ps,h,hm=>by
  obtain⟨g,t,cs,fuel,p,q,h1,h2,h3,h4,h5,_⟩:=h;rcases Bo.1 hm with e | hm
  .injection e with e1 e2;subst e1 e2;exact⟨g,t,cs,fuel,p,h1,h2,h3,h4⟩
  .exact Ajc h5 hm
def A6w{P:Program}{w:World}{n:String}{d:DataW Unit}{g:Nat}{t:TypeId}{ts:List TypeId}{qb:List (String × DataW Unit)}(h:laidMet P qb w)(hm:(n,d)∈qb)
  (hg:P.globalNamed n=some g) (ht:(P.globals[g]?).map (·.type)=some t) (qj:Ak1 P ts=true) (qf:t∈ts):w.var? P n=some (flatV d).toArray:=by
 obtain⟨ps,h,_⟩:=h;obtain⟨g',t',cs,fuel,p,h1,h2,h3,h4⟩:=Ajc h hm;obtain rfl:g'=g:=Iu (h1.symm.trans hg);obtain rfl:t'=t:=Iu (h2.symm.trans ht);rw[h3,<-Ahs _ P w _ _ ts qj fuel t' _ d p qf h4]
def An8{H:Type}{qd:TypeId × Value->H}{P:Program}(hl:laidOutB P=true){W W':World}(hb:Below W.heap.size W W'){sp:Nat->Bool}:
  ∀ {ts:List TypeId} {vs:List Value} {ds:List (DataW H)} {ps:List MemPlace},(ts.all fun t=>P.readableRec t&&decide (t<P.types.size))=true->DataW.TrodAll qd P W 0 (fun _=>true) true ts vs ds ps ->
   (∀ x∈ps,x.block<W.heap.size)->(∀ x∈ps,sp x.block=true)->DataW.TrodAll qd P W' 0 sp true ts vs ds ps
 | [],[],[],_,_,h,_,_=>h
 | t::ts,v::vs,d::ds,ps,hr,h,qe,qy=>by
  obtain⟨p,q,h1,h2,rfl⟩:=h;simp only[Bp,Ak,decide_eq_true_eq]at hr;refine⟨p,q,WideElems.Trod_stays hl hr.1.1 hr.1.2 h1 (fun x hx=>hb.same (qe x (by simp[hx]))) (fun x hx=>qy x (by simp[hx])),?_,rfl⟩;exact An8 hl hb (by simpa using hr.2) h2 (fun x hx=>qe x (by simp[hx])) (fun x hx=>qy x (by simp[hx]))
 | [],_::_,_,_,_,h,_,_=>by simp[DataW.TrodAll]at h
 | [],[],_::_,_,_,h,_,_=>by simp[DataW.TrodAll]at h
 | _::_,[],_,_,_,h,_,_=>by simp[DataW.TrodAll]at h
 | _::_,_::_,[],_,_,h,_,_=>by simp[DataW.TrodAll]at h
def A6x{H:Type}{qd:TypeId × Value->H}{P:Program}{f:Func}{s:ChangeSpec}{qk qr qi qq:Bool}{W W':World}{args:Array Value}{ds gs:List (DataW H)}{qa:List MemPlace}{tb:TypeId}
  (hW:DataW.Whole qd P f.params.toList s.vars qk W args.toList ds gs qa) (hl:laidOutB P=true) (qj:(f.params.toList.all fun t=>P.readableRec t&&decide (t<P.types.size))=true)
  (hv:s.vars=[]) (hr:f.resultTypes=#[tb]) (hu:P.underlying tb=some .bool) (h1:(s.fn H (ds++gs)).results=[.lit (.bool true)]) (h2:(s.fn H (ds++gs)).args=ds) (h3:(s.fn H (ds++gs)).vars=[])
  (hb:Below W.heap.size W W'):s.post qd P f qk qr qi qq W args (.bool true) W':=by
 have qe:∀ p∈qa,p.block<W.heap.size:=fun p hp=>hW.lt p hp
 have qB:∀ p∈qa,(fun b=>decide (b<W.heap.size)) p.block=true:=fun p hp=>by simpa using qe p hp
 have qw:∀ (b:Nat) (sp:Nat->Bool) (hd:Bool),DataW.TrodAll qd P W' b sp hd f.resultTypes.toList ((Value.bool true).resultList f.resultTypes.size) (s.fn H (ds++gs)).results []:=fun b sp hd=>by
  rw[hr,h1];exact trodAll_cons_mk (shut_bool hu _) trodAll_mk0
 obtain⟨p,q,hA,hV,qI,hz,hn⟩:=id hW;have hg:gs=[]/\q=[]:=by rw[hv]at hV;exact trodVars_none hV
 obtain⟨rfl,rfl⟩:=hg
 have ql:∀ sp:Nat->Bool,(∀ p∈qa,sp p.block=true)->DataW.TrodAll qd P W' 0 sp true f.params.toList args.toList (s.fn H (ds++[])).args qa:=fun sp qy=>by
  rw[h2];rw[Bw]at qI;subst qI;exact An8 hl hb qj hA qe qy
 have qm:∀ sp:Nat->Bool,DataW.TrodVars qd P W' sp s.vars (s.fn H (ds++[])).vars []:=fun sp=>by
  rw[hv,h3];rfl
 refine⟨ds,[],qa,[],qa,[],hW,qw _ _ _,ql _ qB,qm _,World.keptBut_mono (fun p hp=>⟨hp,.inr (by simpa using hp)⟩) (hb.frame (·∈qa)),fun _=>?_⟩;refine⟨?_,_,_,([]++qa)++[],⟨[]++qa,[],trodAll_append (ql _ (fun _ _=>rfl)) (qw _ _ _),qm _,rfl,?_,?_⟩,?_⟩
 .exact ok_one hr rfl (okWide_bool_mk hu _)
 .intro b off hp;have qf:MemPlace.cell b off∈qa:=by simpa using hp
  rw[hb.frozen (qe _ qf)];exact hz b off qf
 .intro ha;simpa using hn ha
 .intro p hp _;simpa using hp
def Ar4{P:Program}{w:World}{n:String}{g:Nat}{cs:Array Value}(h:w.var? P n=some cs)(hg:P.globalNamed n=some g):∃ e fz,w.heap[g]?=some (.cells cs e fz):=by
 unfold World.var? at h;rw[hg,Cy]at h
 split at h
 .rename_i hh;injection h with h;subst h;exact⟨_,_,hh⟩
 .cases h
def Aj4{P:Program}{w:World}{n:String}{d:DataW Unit}{g:Nat}{t:TypeId}{ts:List TypeId}{qb:List (String × DataW Unit)}{r:List V}(h:laidMet P qb w)(hm:(n,d)∈qb)
  (hg:P.globalNamed n=some g) (ht:(P.globals[g]?).map (·.type)=some t) (qj:Ak1 P ts=true) (qf:t∈ts) (hr:Iv r (flatV d)=true) (hf:r.all Agr=true) :
  ∃ us e fz,w.heap[g]?=some (.cells us e fz)/\r.length=us.toList.length/\∀ j,j<r.length->Xo (r.getD j .und) (us.toList.getD j undef):=by
 obtain⟨e,fz,hh⟩:=Ar4 (A6w h hm hg ht qj qf) hg;obtain⟨h1,h2⟩:=A0z hr hf;exact⟨_,e,fz,hh,h1,h2⟩
def Auu{P:Program}{w:World}{n:String}{nm:String}{d:DataW Unit}{g:Nat}{t:TypeId}{ms:Array (String × TypeId)}{qb:List (String × DataW Unit)}(h:laidMet P qb w)(hm:(n,.iface nm d)∈qb)
  (hg:P.globalNamed n=some g) (ht:(P.globals[g]?).map (·.type)=some t) (hu:P.underlying t=some (.interface ms)) :
  ∃ us e fz,w.heap[g]?=some (.cells us e fz)/\[V.ifc].length=us.toList.length/\∀ j,j<[V.ifc].length->Xo ([V.ifc].getD j .und) (us.toList.getD j undef):=by
 obtain⟨ps,h,_⟩:=h;obtain⟨g',t',cs,fuel,p,h1,h2,h3,h4⟩:=Ajc h hm;obtain rfl:g'=g:=Iu (h1.symm.trans hg);obtain rfl:t'=t:=Iu (h2.symm.trans ht);obtain⟨e,fz,hh⟩:=Ar4 h3 hg;refine⟨cs,e,fz,hh,?_⟩
 cases fuel with
 | zero=>simp[DataW.trod]at h4
 | succ fuel=>
  unfold DataW.trod at h4;rw[hu]at h4;generalize cs.toList=l at h4;rcases l with _ | ⟨x,_ | ⟨y,l⟩⟩
  .simp at h4
  .cases x with
   | iface u v=>
    refine⟨rfl,fun j hj=>.inr ?_⟩;obtain rfl:j=0:=by simp at hj;omega
    exact⟨rfl,_,_,rfl⟩
   | _=>simp at h4
  .cases x<;>simp at h4
def Bbn{P:Program}{w:World}{g:Nat}{t:TypeId}{zero:Array Value}
  (h:w.ShapedOpen P) (hg:g<P.globals.size)
  (h0:((begin P (fun _ _=>0) default).world.heap[g]?).bind Obj.row?=some (zero,t)) (hz:zero.size=1)
  (hb:P.buildable t=true) (hc:P.cellTypes P.depth t=some [t]) (hu:P.underlying t=some (.int .i64)) :
  ∃ m,∃ us e fz,w.heap[g]?=some (.cells us e fz)/\[V.int .i64 m].length=us.toList.length/\∀ j,j<[V.int .i64 m].length->Xo ([V.int .i64 m].getD j .und) (us.toList.getD j undef):=by
 obtain⟨m,hm⟩:=cell_of_shapedOpen_int h hg h0 hz hb hc hu;obtain⟨cs,hh,hs,_⟩:=h.1 g zero t hg h0;refine⟨m,cs,_,_,hh,by simp;omega,fun j hj=>.inl ?_⟩;obtain rfl:j=0:=by simp at hj;omega
 have:cs[0]?=some (.int .i64 m):=by simpa[World.cell?,hh] using hm
 have:cs.toList.getD 0 undef=.int .i64 m:=by rw[E0,Array.getElem?_toList,this];rfl
 rw[this];exact⟨by simp[Ov],rfl⟩
end Go.Proofs.YtdbnbejffjhdlaaGreatDoor
/- What every closing of this seat's laws needs: the tables, plain data out of what a row reads, the world of the witness. -/
namespace Go.Proofs.YtdbnbejffjhdlaaGreatDoor
open Go.ChangeShapes Go.WideShapes Go.ChangeAt Go.RowKit KM
def A0s:ownKnob Tryz.prog.godebug=none:=by kernel_rfl
def A6y{P:Program}{t:TypeId}{k:IntKind}{qc:List V}(hu:P.underlying t=some (.int k))(h:HasT P t qc):∃ n,qc=[.int k n]/\(Lit.int k n).wf=true:=by
 cases h with
 | int hu' hw=>
  rw[hu]at hu';injection hu' with e;injection e with e;subst e;exact⟨_,rfl,hw⟩
 | _=>simp_all
def Aoj{P:Program}{t:TypeId}{fs:Array Field}{qc:List V}(hu:P.underlying t=some (.struct fs))(h:HasT P t qc):∃ parts:List (List V),qc=parts.flatten/\parts.length=fs.size/\∀ i f,fs[i]?=some f->HasT P f.type (parts.getD i []):=by
 cases h with
 | struct parts hu' hl hT=>
  rw[hu]at hu';injection hu' with e;injection e with e;subst e;exact⟨parts,rfl,hl,hT⟩
 | _=>simp_all
def A1x{P:Program}{t e:TypeId}{qc:List V}(hu:P.underlying t=some (.slice e))(h:HasT P t qc):qc=[.nils]\/∃ xs,qc=[.lst 0 xs]/\xs.length<=maxLen/\∀ i,i<xs.length->HasT P e (xs.getD i []):=by
 cases h with
 | nils _=>exact .inl rfl
 | lst hu' hl hT=>
  rw[hu]at hu';injection hu' with e;injection e with e;subst e;exact .inr ⟨_,rfl,hl,hT⟩
 | _=>simp_all
def Ar5{α:Type}{f:α->List V}:∀ {xs:List (List V)},(∀ i,i<xs.length->∃ a,xs.getD i []=f a)->∃ l:List α,xs=l.map f
 | [],_=>⟨[],rfl⟩
 | x::xs,h=>by
  obtain⟨a,ha⟩:=h 0 AE;obtain⟨l,hl⟩:=Ar5 (xs:=xs) fun i hi=>h (i+1) (by simpa using hi)
  exact⟨a::l,by rw[hl];simp at ha;simp[ha]⟩
def Ap8{P:Program}{t e:TypeId}{α:Type}{f:α->List V}{qc:List V}(hu:P.underlying t=some (.slice e))(h:HasT P t qc)(hf:∀ r,HasT P e r->∃ a,r=f a):∃ z u,∃ l:List α,qc=[SL z u (l.map f)]/\l.length<=9223372036854775807:=by
 rcases A1x hu h with rfl | ⟨xs,rfl,hl,hT⟩
 .exact⟨true,0,[],rfl,by simp⟩
 .obtain⟨l,rfl⟩:=Ar5 (f:=f) fun i hi=>hf _ (hT i hi)
  exact⟨false,0,l,by simp[SL],by simpa[maxLen] using hl⟩
def Ak2{α:Type}{ps:List (List α)}(h:ps.length=4):∃ a b c d,ps=[a,b,c,d]:=by
 match ps,h with
 | [a,b,c,d],_=>exact⟨a,b,c,d,rfl⟩
def Bbo:Tryz.prog.globalNamed "interleave/format.operators"=some 9:=by kernel_rfl
def Bg1:Tryz.prog.globalNamed "interleave/token.keywords"=some 1:=by kernel_rfl
def Bbp:Tryz.prog.globalNamed "internal/strconv.uint64pow10"=some 2:=by kernel_rfl
def Bbq{w:World}{qb:List (String × DataW Unit)}(h:laidMet Tryz.prog qb w)(hs:w.ShapedOpen Tryz.prog)(h1:("interleave/format.operators",Rows.laid_interleave_format_operators)∈qb) (h2:("internal/strconv.uint64pow10",Rows.laid_internal_strconv_uint64pow10)∈qb)
  (h3:("interleave/token.keywords",Rows.laid_interleave_token_keywords)∈qb) (h4:("strconv.ErrSyntax",Rows.laid_strconv_ErrSyntax)∈qb) (h5:("strconv.ErrRange",Rows.laid_strconv_ErrRange)∈qb):∃ m,Anc (GT m) w:=by
 obtain⟨m,hm⟩:=Bbn (g:=0) (zero:=#[.int .i64 0]) (t:=3) hs (of_decide_eq_true AD) AD rfl AD AD Tryz.underlying3;refine⟨m,fun g r hg=>?_⟩;simp only[GT,Bo,Of,or_false,Prod.mk.injEq]at hg
 rcases hg with⟨rfl,rfl⟩ | ⟨rfl,rfl⟩ | ⟨rfl,rfl⟩ | ⟨rfl,rfl⟩ | ⟨rfl,rfl⟩ | ⟨rfl,rfl⟩<;>first
  | exact hm
  | exact Auu h h4 Aul AD Tryz.underlying235
  | exact Auu h h5 Aum AD Tryz.underlying235
  | exact Aj4 (ts:=[3,9,299,307]) (t:=307) h h1 Bbo AD AD AP AD AD
  | exact Aj4 (ts:=[9,226]) (t:=226) h h3 Bg1 AD AD AP AD AD
  | exact Aj4 (ts:=[195,244]) (t:=244) h h2 Bbp AD AD AP AD AD
end Go.Proofs.YtdbnbejffjhdlaaGreatDoor
/- The world of the witness: the settled one, the listed variables holding what their initialisers lay. -/
namespace Go.Proofs.YtdbnbejffjhdlaaGreatDoor
open Go.ChangeShapes Go.WideShapes Go.ChangeAt Go.RowKit KM
def Bm7{a b:Bool}(h1:a=true)(h2:b=true):(a&&b)=true:=by rw[h1,h2];rfl
def setRow(d:DataW Unit):Obj->Obj
 | .cells _ t frozen=>.cells (flatV d).toArray t frozen
 | o=>o
def Awq(b:Nat):Obj->Obj
 | .cells _ t frozen=>.cells #[.iface 303 (.pointer (some ⟨b,0,none⟩))] t frozen
 | o=>o
def Auv:DataW Unit->Array UInt8
 | .iface _ (.ptr (.agg [.lit (.string l)]))=>l.toArray
 | _=>#[]
noncomputable def holds0 (os:Os):Array Obj:=(World.holding Tryz.prog os ⟨#[],#[],[]⟩).heap
noncomputable def laidWorld (os:Os):World:=
 { World.holding Tryz.prog os ⟨#[],#[],[]⟩ with heap:=((((((((((holds0 os).modify 9 (setRow Rows.laid_interleave_format_operators)).modify 2 (setRow Rows.laid_internal_strconv_uint64pow10)).modify 3 (setRow Rows.laid_math_bits_deBruijn32tab)).modify 4 (setRow Rows.laid_math_bits_deBruijn64tab)).modify 6 (setRow Rows.laid_unicode_utf8_acceptRanges)).modify 1 (setRow Rows.laid_interleave_token_keywords)).modify 5 (setRow Rows.laid_unicode_utf8_first)).modify 8 (Awq (holds0 os).size)).modify 7 (Awq ((holds0 os).size+1))).push (.cells #[.string ⟨Auv Rows.laid_strconv_ErrRange⟩] 305 (0,0)) |>.push (.cells #[.string ⟨Auv Rows.laid_strconv_ErrSyntax⟩] 305 (0,0)) }
end Go.Proofs.YtdbnbejffjhdlaaGreatDoor
/- What a row reads: bytes. -/
namespace Go.Proofs.YtdbnbejffjhdlaaGreatDoor
open Go.ChangeShapes Go.WideShapes Go.ChangeAt Go.RowKit KM
def Rd{P:Program}{t:TypeId}{qc:List V}(hu:P.underlying t=some (.int .u8))(h:HasT P t qc):∃ n:Nat,n<256/\qc=[.int .u8 (n:Int)]:=by
 obtain⟨n,rfl,hw⟩:=A6y hu h;simp only[Lit.wf,Ak,decide_eq_true_eq]at hw;have h1:(0:Int)<=n:=hw.1;have h2:n<=255:=hw.2;refine⟨n.toNat,by omega,?_⟩;rw[Ab5 h1]
def Ak3{qc:List V}(h:HasT Tryz.prog 22 qc):∃ z u,∃ l:List UInt8,qc=[SL z u (B4 l)]/\l.length<=9223372036854775807:=by
 obtain⟨z,u,l,rfl,hl⟩:=Ap8 (f:=fun c:UInt8=>[V.int .u8 (c.toNat:Int)]) Tryz.underlying22 h fun r hr=>by
  obtain⟨n,hn,rfl⟩:=Rd Tryz.underlying5 hr;exact⟨UInt8.ofNat n,by simp[Nat.mod_eq_of_lt hn]⟩
 exact⟨z,u,l,rfl,hl⟩
end Go.Proofs.YtdbnbejffjhdlaaGreatDoor
/- Both versions' numbers out of what a row reads. -/
namespace Go.Proofs.YtdbnbejffjhdlaaGreatDoor
open Go.ChangeShapes Go.WideShapes Go.ChangeAt Go.RowKit KM
def A3s{P:Program}{t:TypeId}{qc:List V}(hu:P.underlying t=some .bool)(h:HasT P t qc):∃ b,qc=[.bool b]:=by
 cases h with
 | bool hu'=>exact⟨_,rfl⟩
 | _=>simp_all
structure PairP where
 z0:Bool
 t0:Nat
 a:List UInt8
 z1:Bool
 t1:Nat
 b:List UInt8
 z2:Bool
 t2:Nat
 c:List UInt8
 un:Bool
def PairP.row(x:PairP):List V:=[SL x.z0 x.t0 (B4 x.a),SL x.z1 x.t1 (B4 x.b),SL x.z2 x.t2 (B4 x.c),.bool x.un]
def Bbr{qc:List V}(h:HasT Tryz.prog 24 qc):∃ x:PairP,qc=x.row/\x.a.length<=9223372036854775807/\x.b.length<=9223372036854775807/\x.c.length<=9223372036854775807:=by
 obtain⟨ps,rfl,hl,hT⟩:=Aoj Tryz.underlying24 h;obtain⟨a,b,c,d,rfl⟩:=Ak2 hl;have h0:=hT 0 _ rfl;have h1:=hT 1 _ rfl;have h2:=hT 2 _ rfl;have h3:=hT 3 _ rfl;simp at h0 h1 h2 h3;obtain⟨z0,t0,l0,rfl,k0⟩:=Ak3 h0;obtain⟨z1,t1,l1,rfl,k1⟩:=Ak3 h1;obtain⟨z2,t2,l2,rfl,k2⟩:=Ak3 h2;obtain⟨un,rfl⟩:=A3s Tryz.underlying4 h3;exact⟨⟨z0,t0,l0,z1,t1,l1,z2,t2,l2,un⟩,rfl,k0,k1,k2⟩
end Go.Proofs.YtdbnbejffjhdlaaGreatDoor
/- Items, out of what a row reads (beside the numbers of both versions). -/
namespace Go.Proofs.YtdbnbejffjhdlaaGreatDoor
open Go.ChangeShapes Go.WideShapes Go.ChangeAt Go.RowKit KM
def A1y{P:Program}{t e:TypeId}{n:Nat}{qc:List V}(hu:P.underlying t=some (.array n e))(h:HasT P t qc):∃ parts:List (List V),qc=parts.flatten/\parts.length=n/\∀ i,i<n->HasT P e (parts.getD i []):=by
 cases h with
 | array parts hu' hl hT=>
  rw[hu]at hu';injection hu' with e;injection e with e1 e2;subst e1 e2;exact⟨parts,rfl,hl,hT⟩
 | _=>simp_all
def Bbs{qc:List V}(h:HasT Tryz.prog 115 qc):∃ x:{ x:KM.Item // x.ok },qc=x.1.row:=by
 obtain⟨ps,rfl,hl,hT⟩:=Aoj Tryz.underlying115 h;obtain⟨a,b,c,d,rfl⟩:=Ak2 hl;obtain⟨n1,l1,h1⟩:=Rd Tryz.underlying5 (hT 0 _ rfl);obtain⟨n2,l2,h2⟩:=Rd Tryz.underlying5 (hT 1 _ rfl);obtain⟨n3,l3,h3⟩:=Rd Tryz.underlying5 (hT 2 _ rfl);obtain⟨qs,h4,qP,qx⟩:=A1y Tryz.underlying113 (hT 3 _ rfl);obtain⟨a4,b4,c4,d4,rfl⟩:=Ak2 qP;obtain⟨m1,k1,g1⟩:=Rd Tryz.underlying5 (qx 0 AA);obtain⟨m2,k2,g2⟩:=Rd Tryz.underlying5 (qx 1 AA);obtain⟨m3,k3,g3⟩:=Rd Tryz.underlying5 (qx 2 AA);obtain⟨m4,k4,g4⟩:=Rd Tryz.underlying5 (qx 3 AA);simp at h1 h2 h3 h4 g1 g2 g3 g4;subst h1 h2 h3 g1 g2 g3 g4;subst h4;exact⟨⟨⟨n1,n2,n3,m1,m2,m3,m4⟩,l1,l2,l3,k1,k2,k3,k4⟩,rfl⟩
def A6z{qc:List V}(h:HasT Tryz.prog 25 qc):∃ z u,∃ l:List KM.Item,qc=[SL z u (l.map KM.Item.row)]/\l.length<=9223372036854775807/\∀ x∈l,x.ok:=by
 obtain⟨z,u,l,rfl,hl⟩:=Ap8 (α:={ x:KM.Item // x.ok }) (f:=fun x=>x.1.row) Tryz.underlying25 h fun r hr=>Bbs hr
 refine⟨z,u,l.map (·.1),by rw[Yq];rfl,by simpa using hl,fun x hx=>?_⟩;obtain⟨y,-,rfl⟩:=Cs.1 hx;exact y.2
end Go.Proofs.YtdbnbejffjhdlaaGreatDoor
/- Walks: strings.Builder. -/
namespace Go.Proofs.YtdbnbejffjhdlaaGreatDoor.KM
open Go
def Ac7(l:List UInt8):∀ r∈B4 l,r.length=1:=by
 intro r hr;obtain⟨c,_,rfl⟩:=Cs.1 hr;rfl
def A3t(a b:List UInt8):B4 (a++b)=B4 a++B4 b:=Dl ..
def Auw(a:List UInt8):(B4 a).length=a.length:=Aj ..
def An9:∀ l:List UInt8,Un (B4 l)=some l
 | []=>rfl
 | c::l=>by
  have h:c.toNat<256:=c.toNat_lt;have:=An9 l;simp only[B4,A2,Un]at this ⊢;rw[if_pos AA,this];simp
def Ap9(l:List UInt8):Ah (B4 l).flatten=[]:=by
 refine Ff (Gl fun r hr=>?_);obtain⟨c,_,rfl⟩:=Cs.1 hr;rfl
def A60(ty:Nat)(x:V)(l:List UInt8)(σ:St):Ax5 ty x (.str l) σ=Dz 1 (1,ty) x (.lst 1 (B4 l)) σ:=rfl
def A3u{s:St}{j:Nat}{x:Ob}(h:s[j]?=some x):j<s.length:=(Al.1 h).1
def BL(s:St)(b:Nat)(u:V)(l:List UInt8):Prop:=∃ p,s[b]?=some (.row [p,u] 216 0 0)/\(p=.nilp\/p=.ptr b 0 0)/\GW s 1 5 (b+1) u (B4 l)
def Bbt{s:St}{b:Nat}{u:V}{l:List UInt8}(h:BL s b u l):∀ i∈u.refs,i<s.length:=by
 obtain⟨p,_,_,hg⟩:=h;exact Ee hg
def Bbu{s J:St}{b:Nat}{u:V}{l:List UInt8}(h:BL s b u l):BL (s++J) b u l:=by
 obtain⟨p,h1,h2,h3⟩:=h;exact⟨p,Bs h1,h2,H0 h3⟩
def Jj{s:St}{cs:List V}{t:Nat}(h:Cl s)(hr:cs.all V.rowB=true):Cl (s++[.row cs t 0 0]):=Jg h (by simp only[Ob.refs,Ff hr];simp)
def A61{s:St}{b:Nat}{u:V}{l:List UInt8}(t:List UInt8)(h:BL s b u l)(hc:Cl s)(hb:l.length+t.length<=100000000000000):
  ∃ s' u',Th TT PT 197 [.ptr b 0 0,.str t] s (.tup [.int .i64 (t.length:Int),.nili]) s'/\BL s' b u' (l++t)/\Cl s'/\s.length<=s'.length/\∀ j,j≠b->j ∉ u.refs->j<s.length->s'[j]?=s[j]?:=by
 have qJ:=Bbt h;obtain⟨p,hs,hp,hg⟩:=h;have qE:b<s.length:=A3u hs
 have h1:∃ s1,X9 216 [.ptr b 0 0] s=some (.tup [],s1)/\s1[b]?=some (.row [.ptr b 0 0,u] 216 0 0)/\GW s1 1 5 (b+1) u (B4 l)/\s1.length=s.length/\Cl s1/\∀ j,j≠b->s1[j]?=s[j]?:=by
  rcases hp with rfl | rfl
  .refine⟨s.set b (.row [.ptr b 0 0,u] 216 0 0),?_,by rw[Bv qE],Dv hg AA,by simp,Fi hc ?_,fun j hj=>by rw[Bk AA]⟩
   .simp[X9,hs]
   .intro i hi;simp only[Ob.refs,Ah,V.refs,Bw,Ch,D4]at hi;rcases hi with rfl | hi
    .exact qE
    .exact qJ i hi
  .exact⟨s,by simp[X9,hs],hs,hg,rfl,hc,fun _ _=>rfl⟩
 obtain⟨s1,e1,q1,g1,l1,c1,f1⟩:=h1;obtain⟨u2,s2,e2,g2,l2,fo,f2⟩:=G9 (bytes:=1) (y:=.lst 1 (B4 t)) (ys:=B4 t) g1 AA rfl AA (Ac7 l) (Ac7 t) (by rw[Auw,Auw];omega);rw[<-A3t]at g2;have q2:=(f2 b AA).trans q1;have c2:Cl s2/\∀ i∈u2.refs,i<s2.length:=⟨Aik g1 rfl e2 (Ap9 l) (Ap9 t) c1,Ee g2⟩
 have c3:Cl (s2.set b (.row [.ptr b 0 0,u2] 216 0 0)):=by
  refine Fi c2.1 ?_;intro i hi;simp only[Ob.refs,Ah,V.refs,Bw,Ch,D4]at hi;rcases hi with rfl | hi
  .omega
  .exact c2.2 i hi
 refine⟨s2.set b (.row [.ptr b 0 0,u2] 216 0 0),u2,Ae0 T197 rfl ?_ rfl rfl AJ c3,⟨.ptr b 0 0,by rw[Bv AA],.inr rfl,Dv g2 AA⟩,c3,by simp;omega,fun j hj hu hl=>?_⟩
 .simp only[go_sem];refine Jf (.spec T222 rfl rfl e1) ?_;simp only[go_sem,q1,A60,e2,q2,Lc (Bx g2),Bx g2];exact⟨rfl,rfl⟩
 .rw[Bk AA,fo j ?_ AA,f1 j hj];intro i g hi qO;subst qO;exact hu (by rw[hi];simp[V.refs])
theorem Bg2{s:St}{b:Nat}{u:V}{l:List UInt8}(h:BL s b u l):∃ s',Vl 216 5 [.ptr b 0 0] s=some (.str l,s'):=by
 obtain⟨p,hs,hp,hg⟩:=h;rcases hg with⟨rfl,hl⟩ | ⟨hn,i,g,rfl,ho,qU⟩
 .have:l=[]:=by simpa[B4] using hl
  subst this;exact⟨s,by simp[Vl,hs]⟩
 .have qD:0<(B4 l).length:=List.length_pos_iff.2 hn;have qL:Fk 1 (B4 l).length (B4 l).flatten=B4 l:=Ue (Ac7 l);have qR:=Ga (Ac7 l);refine⟨s.set i .dead,?_⟩;simp only[Vl,hs,ho];rw[if_pos ⟨trivial,trivial,qD⟩,if_pos ⟨trivial,trivial,by omega⟩,qL,An9];rfl
def Ar6(x:Ent)(m:Nat)(i:V):Mb m x.sl i=(Jw (x.sites.map Aw) i).bind fun r=>if r.length=m then some (.imm r 0) else none:=Aez ..
def Aa4(l:List UInt8):Bool:=decide (1<=l.length)&&decide (l.length<=1000)&&l.all fun c=>decide (32<=c.toNat)&&decide (c.toNat<=126)
def D9(k:A0):Bool:=B0 k.1&&Aa4 k.2.1&&decide (0<=k.2.2)&&decide (k.2.2<60)
def H8(k:Int)(n:Nat):Bool:=((k==1||k==3)&&n==2)||(k==2&&decide (2<=n)&&decide (n<=4))||(k==4&&n==4)
def Qh(e:Ent):Bool:=decide (1<=e.seen)&&decide (e.seen<=1073741824)&&decide (0<=e.missed)&&decide (e.missed<=7)
def Da(e:Ent):Bool:=H8 e.kind e.sites.length&&e.sites.all D9&&Qh e
def Hv(l:List Ent)(i:Nat):Bool:=match l[i]? with
 | some x=>Da x&&(match i with
  | 0=>true
  | j+1=>match l[j]? with
   | some p=>decide (Cw p x<0)
   | none=>false)
 | none=>false
def Q8(l:List Ent):Bool:=(List.range l.length).all (Hv l)
def H3(n:Int)(l:List Ent):Bool:=decide (0<=n)&&decide (n<=1073741824)&&decide (l.length<=64)&&Q8 l
theorem A62{l:List Ent}{i:Nat}(hi:i<l.length)(h:Hv l i=false):Q8 l=false:=by
 unfold Q8
 grind
theorem Ar7{l:List Ent}(h:∀ i,i<l.length->Hv l i=true):Q8 l=true:=by
 grind[Q8]
def Ao2{l:List Ent}:Q8 l=true↔∀ i,i<l.length->Hv l i=true:=⟨fun h i hi=>by
 grind[Q8],Ar7⟩
def A63{l:List Ent}{i:Nat}{x:Ent}(hx:l[i]?=some x)(h:Hv l i=true):Da x=true:=by
 simp_all [Hv]
def Bbv{l:List Ent}{i:Nat}{p x:Ent}(hp:l[i]?=some p)(hx:l[i+1]?=some x)(h:Hv l (i+1)=true):Cw p x<0:=by
 simp_all [Hv]
def Bg3{l:List Ent}(h:∀ i p x,l[i]?=some p->l[i+1]?=some x->Cw p x<0):Mz l:=by
 unfold Mz;rw[Abx];intro i j hi hj qS
 induction j with
 | zero=>omega
 | succ j ih=>
  have h1:Cw l[j] l[j+1]<0:=h j l[j] l[j+1] (Cd AA) (Cd hj);by_cases qN:i=j
  .grind
  .exact lin_p.trans l[i].ks l[j].ks l[j+1].ks (ih AA AA) h1
def A1z{l:List Ent}(h:Q8 l=true):Mz l:=
 Bg3 fun i p x hp hx=>Bbv hp hx (Ao2.1 h (i+1) (Al.1 hx).1)
def A11{l:List Ent}(h:Q8 l=true):∀ x∈l,Da x=true:=fun x hx=>by
 obtain⟨i,hi,rfl⟩:=M7 hx;exact A63 (Cd hi) (Ao2.1 h i hi)
def Qy{k:Int}{n:Nat}(h:H8 k n=true):n<=4/\2<=n:=by
 unfold H8 at h
 grind
/-! texts -/
attribute [go_sem] Yr Av Yi
/-! interleaveref01 -/
noncomputable def runOneG (f:AF) (args:List V):Option V:=(Ld (Nv TT PT 60) f args []).bind fun p=>D8 p.2 p.1
def A03:((List.range 256).all fun n=>match runOneG af144 [.int .u8 n] with
  | some v=>v.eqv (.bool (Md n))
  | none=>false)=true:=by kernel_rfl
def A12(n:Nat)(h:n<256):Fn TT PT 144 [.int .u8 n] (.bool (Md n)):=by
 have:=B6.1 A03 n (Gw.2 h)
 split at this
 .rename_i v hv;have e:=Xb this;subst e;exact Qz Ro T144 rfl rfl hv
 .cases this
def A13:((List.range 256).all fun n=>match runOneG af146 [.int .u8 n] with
  | some v=>v.eqv (.bool (Nx n))
  | none=>false)=true:=by kernel_rfl
def A64(n:Nat)(h:n<256):Fn TT PT 146 [.int .u8 n] (.bool (Nx n)):=by
 have:=B6.1 A13 n (Gw.2 h)
 split at this
 .rename_i v hv;have e:=Xb this;subst e;exact Qz Ro T146 rfl rfl hv
 .cases this
def kwRows:List (List V):=kwL.map fun k=>[V.str k]
def A04:Fn TT PT 173 [] (.lst 1 kwRows):=by
 have:(match runOneG af173 [] with
  | some v=>v.eqv (.lst 1 kwRows)
  | none=>false)=true:=by kernel_rfl
 split at this
 .rename_i v hv;have e:=Xb this;subst e;exact Qz Ro T173 rfl rfl hv
 .cases this
def Awr(l:List UInt8):Fn TT PT 145 [.str l] (.bool (Hx l)):=by
 have qp:kwRows.length=22:=rfl
 have qu:∀ i,i<22->kwRows[i]?=some [.str (kwL.getD i [])]:=fun i hi=>by
  grind[kwRows]
 have hk:=A04;generalize kwRows=g at qp qu hk;refine Bc T145 rfl ?_;simp only[go_sem];refine Ab hk rfl ?_;simp only[go_sem];refine Bh (fun i=>22 - i) (fun i:Nat=>[(0,.str l),(3,.lst 1 g),(4,.int .i64 i)]) (fun _=>[]) (fun i=>i<=22/\∀ j,j<i->(l==kwL.getD j [])=false) ?_ 0 ⟨by omega,fun j hj=>by omega⟩;rintro i ⟨hi,qH⟩ ih;refine Az Bgp ?_;rcases Bb i 22 with h | h
 .have qe:decide ((i:Int)<22)=true:=by simp;omega
  simp only[go_sem,qp,qe,qu i h];refine Le (fun h3=>?_) (fun h3=>?_)
  .simp only[go_sem];refine Ae rfl ?_;unfold Hx;rw[Ph.2 ⟨kwL.getD i [],?_,?_⟩]
   .have hl:i<kwL.length:=h
    grind
   grind
  .simp only[go_sem,Ay (show i<9223372036854775807 by omega)];refine Am (ih (i+1) AA ⟨by omega,fun j hj=>?_⟩) rfl
   grind
 .have qe:decide ((i:Int)<22)=false:=by simp;omega
  simp only[go_sem,qp,qe];refine Ae rfl ?_
  symm
  congr 1;unfold Hx;rw[<-V3];intro ha;obtain⟨k,hk,he⟩:=Ph.1 ha;obtain⟨j,hj,rfl⟩:=M7 hk;have qT:j<22:=hj
  grind
theorem Ajd{l:List UInt8}(h0:0<l.length):((Md (l.getD 0 0).toNat=true)/\∀ j,j<l.length->Nx (l.getD j 0).toNat=true)↔∀ j,j<l.length->Jx l j=true:=by
 have qW:∀ n,Nx n=true↔Md n=true\/(n=95\/Rk n=true):=fun n=>by
  unfold Nx
  grind
 have nm:∀ j,Jx l j=true↔Md (l.getD j 0).toNat=true\/(0<j/\((l.getD j 0).toNat=95\/Rk (l.getD j 0).toNat=true)):=fun j=>by
  simp[Jx]
 grind
def Sb(l:List UInt8):Fn TT PT 97 [.str l] (.bool (B0 l)):=by
 refine Bc T97 rfl ?_;cases h0:decide ((l.length:Int)<1);rotate_left
 .simp only[go_sem,h0];exact Ae rfl (by grind[Aun])
 have qz:0<l.length:=by simp at h0;omega
 cases h1:decide ((12:Int)<(l.length:Int));rotate_left
 .simp only[go_sem,h0,h1];exact Ae rfl (by grind[Auo])
 have hg:l[0]?=some (l.getD 0 0):=by rw[E0,Cd qz];rfl
 have qg:=A12 (l.getD 0 0).toNat (l.getD 0 0).toNat_lt
 cases h2:Md (l.getD 0 0).toNat
 .rw[h2]at qg;simp only[go_sem,h0,h1,hg];refine Ab qg rfl ?_;simp only[go_sem];refine Ae rfl ?_;rw[show B0 l=false from ?_];have:=mt (Ajd qz).2 (by grind)
  simp_all [B0]
 rw[h2]at qg;cases h3:Hx l;rotate_left
 .have hk:=Awr l;rw[h3]at hk;simp only[go_sem,h0,h1,hg];refine Ab qg rfl ?_;simp only[go_sem];refine Ab hk rfl ?_;simp only[go_sem];exact Ae rfl (by rw[Aup h3])
 have hk:=Awr l;rw[h3]at hk;simp only[go_sem,h0,h1,hg];refine Ab qg rfl ?_;simp only[go_sem];refine Ab hk rfl ?_;simp only[go_sem];refine Bh (fun i=>l.length - i) (fun i:Nat=>[(0,.str l),(3,.int .i64 i)]) (fun _=>[]) (fun i=>i<=l.length/\∀ j,j<i->Nx (l.getD j 0).toNat=true) ?_ 0 ⟨by omega,fun j hj=>by omega⟩;rintro i ⟨hi,qH⟩ ih;refine Az Bmp ?_;have qQ:l.length<=12:=by simp at h1;omega
 rcases Bb i l.length with h | h
 .have qF:l[i]?=some (l.getD i 0):=by rw[E0,Cd h];rfl
  have qf:=A64 (l.getD i 0).toNat (l.getD i 0).toNat_lt
  cases h4:Nx (l.getD i 0).toNat
  .rw[h4]at qf;simp only[go_sem,Ar h,qF];refine Ab qf rfl ?_;simp only[go_sem];refine Ae rfl ?_;rw[show B0 l=false from ?_];rw[<-V3];intro hn;unfold B0 at hn;simp only[Ak,B6,Gw]at hn
   grind[Ajd]
  .rw[h4]at qf;simp only[go_sem,Ar h,qF];refine Ab qf rfl ?_;simp only[go_sem,Ay (show i<9223372036854775807 by omega)];refine Am (ih (i+1) AA ⟨by omega,fun j hj=>?_⟩) rfl
   grind
 .simp only[go_sem,Bi h];refine Ae rfl ?_;rw[Ak0 AA qQ h3 ((Ajd qz).1 ⟨h2,fun j hj=>qH j AA⟩)]
