/- awake answers true: by a run of the plain machine in the kernel. -/
import Derived.Test.YthlbbjcbmojocacGreatDoorNu
import Derived.Shelf.Vars
import Derived.Test.YthlbbjcbmojocacGreatDoorCards
import Derived.Test.YthlbbjcbmojocacGreatDoorTie
import Derived.ProofKit
import Derived.OpenShut
import Derived.Carry
import Derived.Deep.DeepHandedRow
import Derived.Lib.LaidTab
set_option linter.all false
namespace Go.Proofs.YthlbbjcbmojocacGreatDoor.KM
open Go
abbrev iV(n:Int):V:=.int .i64 n
def Rb(t u:Nat)(a b:Int):Fn TT PT 37 [.lst t [[.int .i64 a]],.lst u [[.int .i64 b]]] (.int .i64 (Lib.compareInt a b)):=by
 refine Bo T37 rfl ?_;simp only[go_sem];refine Bl Avj ?_;simp only[go_sem];refine Ag (by kernel_rfl) ?_;simp only[go_sem];refine Ov (fun h1=>?_) (fun h1=>?_)
 .simp only[go_sem];refine Ag (by kernel_rfl) ?_;simp only[go_sem];refine Ov (fun h2=>?_) (fun h2=>?_)
  .simp only[go_sem];simp at h2;exact An rfl (by simp[Lib.compareInt,h2])
  .simp only[go_sem];simp at h1 h2;exact An rfl (by rw[Lib.compareInt,if_neg (by omega),if_pos (by omega)])
 .simp only[go_sem];refine Bl Avj ?_;simp only[go_sem];simp at h1;exact An rfl (by rw[Lib.compareInt,if_neg (by omega),if_neg (by omega)])
/-! keys -/
abbrev Bm:=List UInt8 × List UInt8 × Int
def Bd(k:Bm):List V:=[.str k.1,.str k.2.1,.int .i64 k.2.2]
def O0(a b:Bm):Int:=if a.1≠b.1 then Lib.compareBytes a.1 b.1 else if a.2.1≠b.2.1 then Lib.compareBytes a.2.1 b.2.1 else Lib.compareInt a.2.2 b.2.2
def App(a b:Bm):Fn TT PT 38 [.agg (Bd a),.agg (Bd b)] (.int .i64 (O0 a b)):=by
 refine Bo T38 rfl ?_;unfold Bd;simp only[go_sem];refine Ov (fun h1=>?_) (fun h1=>?_)
 .simp only[go_sem]
  first | refine F7 P63 (by first | rfl | simp only[go_sem]) (by rfl) ?_ | refine Ati P63 (by first | rfl | simp only[go_sem]) (by rfl) ?_
  simp only[go_sem];refine An rfl ?_;simp at h1;simp[O0,h1]
 .simp only[go_sem];refine Ov (fun h2=>?_) (fun h2=>?_)
  .simp only[go_sem]
   first | refine F7 P63 (by first | rfl | simp only[go_sem]) (by rfl) ?_ | refine Ati P63 (by first | rfl | simp only[go_sem]) (by rfl) ?_
   simp only[go_sem];refine An rfl ?_;simp at h1 h2;simp[O0,h1,h2]
  .simp only[go_sem]
   first | refine Ad (Rb _ _ a.2.2 b.2.2) (by first | rfl | simp only[go_sem]) ?_ | refine Bk (Rb _ _ a.2.2 b.2.2) (by first | rfl | simp only[go_sem]) ?_
   simp only[go_sem];refine An rfl ?_;simp at h1 h2;simp[O0,h1,h2]
/-! entries -/
structure Ent where
 kind:Int
 sites:List Bm
 seen:Int
 missed:Int
 z:Bool:=true
 t:Nat:=0
def Ent.sl(x:Ent):V:=SL x.z x.t (x.sites.map Bd)
def Ent.row(x:Ent):List V:=[.int .i64 x.kind,x.sl,.int .i64 x.seen,.int .i64 x.missed]
def Lg:List Bm->List Bm->Int
 | [],[]=>0
 | [],_::_ => -1
 | _::_,[]=>1
 | a::r,b::s=>if O0 a b≠0 then O0 a b else Lg r s
def Jf(x y:Ent):Int:=if x.kind≠y.kind then Lib.compareInt x.kind y.kind else Lg x.sites y.sites
def Ar0(x y:Ent)(hx:x.sites.length<=9223372036854775807)(hy:y.sites.length<=9223372036854775807):Fn TT PT 13 [.agg x.row,.agg y.row] (.int .i64 (Jf x y)):=by
 refine Bo T13 rfl ?_;unfold Ent.row Ent.sl;simp only[go_sem];refine Ov (fun h1=>?_) (fun h1=>?_)
 .simp only[go_sem]
  first | refine Ad (Rb _ _ _ _) (by first | rfl | simp only[go_sem]) ?_ | refine Bk (Rb _ _ _ _) (by first | rfl | simp only[go_sem]) ?_
  simp only[go_sem];simp at h1;exact An rfl (by simp[Jf,h1])
 .simp only[go_sem];simp at h1;have he:Jf x y=Lg x.sites y.sites:=by simp[Jf,h1]
  rw[he]
  refine Bn (fun i=>x.sites.length - i) (fun i:Nat=>[(2,.ptr 0 0 0),(3,.ptr 1 0 0),(5,.int .i64 i)]) (fun _=>[.row [.int .i64 x.kind,SL x.z x.t (x.sites.map Bd),.int .i64 x.seen,.int .i64 x.missed] 45 0 0,.row [.int .i64 y.kind,SL y.z y.t (y.sites.map Bd),.int .i64 y.seen,.int .i64 y.missed] 45 0 0])
   (fun i=>i<=x.sites.length/\i<=y.sites.length/\Lg x.sites y.sites=Lg (x.sites.drop i) (y.sites.drop i)) ?_ 0 ⟨by omega,by omega,rfl⟩
  rintro i ⟨hi,qT,ho⟩ ih;refine Bl Bge ?_;rcases Be i x.sites.length with h | h
  .obtain⟨a,ha,qH,-⟩:=By h;rcases Be i y.sites.length with h2 | h2
   .obtain⟨b,hb,qB,-⟩:=By h2;rw[qH,qB,Lg]at ho;simp only[go_sem,A0 h,A0 h2,ha,hb,Aj,Ap];refine Ag (by kernel_rfl) ?_;simp only[go_sem,A0 h,A0 h2,ha,hb,Aj,Ap,Bd]
    first | refine Ad (App a b) (by first | rfl | simp only[go_sem]) ?_ | refine Bk (App a b) (by first | rfl | simp only[go_sem]) ?_
    simp only[go_sem];refine Ov (fun h3=>?_) (fun h3=>?_)
    .simp only[go_sem];simp at h3;exact An rfl (by rw[ho,if_pos h3])
    .simp only[go_sem,A2 (Pa h hx)];simp at h3;refine As (ih (i+1) (by omega) ⟨by omega,by omega,by rw[ho,if_neg (by simp[h3])]⟩) rfl
   .simp only[go_sem,A0 h,Bq h2,Ap]
    first | refine Ad (Rb _ _ _ _) (by first | rfl | simp only[go_sem]) ?_ | refine Bk (Rb _ _ _ _) (by first | rfl | simp only[go_sem]) ?_
    simp only[go_sem];refine An rfl ?_;rw[ho,qH,Fo h2,Lg,Lib.compareInt,if_neg (by omega),if_pos (by omega)]
  .simp only[go_sem,Bq h,Ap]
   first | refine Ad (Rb _ _ _ _) (by first | rfl | simp only[go_sem]) ?_ | refine Bk (Rb _ _ _ _) (by first | rfl | simp only[go_sem]) ?_
   simp only[go_sem];refine An rfl ?_;rw[ho,Fo h];rcases Be i y.sites.length with h2 | h2
   .obtain⟨b,hb,qB,-⟩:=By h2;rw[qB,Lg,Lib.compareInt,if_pos (by omega)]
   .rw[Fo h2,Lg,Lib.compareInt,if_neg (by omega),if_neg (by omega)]
def H3(l:List Bm):∀ r∈l.map Bd,r.length=3:=by
 intro r hr;obtain⟨k,_,rfl⟩:=Ct.1 hr;rfl
def N7(l:List Bm):∀ r∈l.map Bd,r.all V.rowB=true:=by
 intro r hr;obtain⟨k,_,rfl⟩:=Ct.1 hr;rfl
def A64(x:Ent):Dl (.agg x.row)=true:=by
 have:=Is x.z x.t (x.sites.map Bd);simp only[go_sem,Ent.row,Ent.sl]
@[go_sem] theorem A65 (x:Ent):x.row=[.int .i64 x.kind,x.sl,.int .i64 x.seen,.int .i64 x.missed]:=Br rfl
@[go_sem] theorem Bko (x:Ent):x.sl.rowB=true:=Is ..
@[go_sem] theorem Bkj (x:Ent):x.sl.cellB=true:=Aia ..
@[go_sem] theorem Bkp (x:Ent):Mx x.sl=some (.int .i64 (x.sites.length:Int)):=(Atj ..).trans (by rw[Ap])
def Vj(l:List Ent):∀ r∈l.map Ent.row,r.length=4:=by
 intro r hr;obtain⟨k,_,rfl⟩:=Ct.1 hr;rfl
def A66(x:Ent):x.row.all V.rowB=true:=A64 x
def Azz(l:List Ent):∀ r∈l.map Ent.row,r.all V.rowB=true:=by
 intro r hr;obtain⟨k,_,rfl⟩:=Ct.1 hr;exact A66 k
def Es(e:Ent):List Ent->Nat
 | []=>0
 | x::r=>if Jf x e<0 then Es e r+1 else 0
def Abw(e:Ent):∀ l,Es e l<=l.length
 | []=>Ai _
 | x::r=>by
  simp only[Es,Am];have:=Abw e r
  split<;>omega
def Nm(e:Ent)(l:List Ent):Bool:=match l[Es e l]? with
 | some x=>Jf x e==0
 | none=>false
def okE(l:List Ent):Prop:=∀ x∈l,x.sites.length<=9223372036854775807
def Apq(z:Bool)(t:Nat)(l:List Ent)(e:Ent)(hl:l.length<=9223372036854775807)(ho:okE l)(he:e.sites.length<=9223372036854775807):
  Fn TT PT 54 [SL z t (l.map Ent.row),.agg e.row] (.tup [.int .i64 (Es e l:Int),.bool (Nm e l)]):=by
 refine Bo T54 rfl ?_;simp only[go_sem];refine Bn (fun i=>l.length - i) (fun i:Nat=>[(0,SL z t (l.map Ent.row)),(3,.ptr 0 0 0),(6,.int .i64 i)]) (fun _=>[.row e.row 45 0 0]) (fun i=>i<=l.length/\Es e l=i+Es e (l.drop i)) ?_ 0 ⟨by omega,by simp⟩;rintro i ⟨hi,hp⟩ ih;refine Bl Bhe ?_;rcases Be i l.length with h | h
 .obtain⟨x,hx,hd,hm⟩:=By h;rw[hd,Es]at hp;simp only[go_sem];refine Ag (by kernel_rfl) ?_;simp only[go_sem,A0 h,Ap,Aj,hx];refine Bk (Ar0 x e (ho x hm) he) (by simp only[go_sem]) ?_;simp only[go_sem];refine Ov (fun h3=>?_) (fun h3=>?_)
  .simp only[go_sem,A2 (Pa h hl)];refine As (ih (i+1) (by omega) ⟨by omega,?_⟩) rfl;rw[hp,if_pos (by simpa using h3)];omega
  .simp only[go_sem];rw[if_neg (by simpa using h3)]at hp;have qD:Es e l=i:=by omega
   refine Ag (by kernel_rfl) ?_;simp only[go_sem,A0 h,Ap,Aj,hx];refine Bk (Ar0 x e (ho x hm) he) (by simp only[go_sem]) ?_;simp only[go_sem];rw[Nm,qD,hx];exact Hk rfl
 .simp only[go_sem];refine Ag (by kernel_rfl) ?_;simp only[go_sem,Bq h,Ap];have qD:Es e l=i:=by rw[hp,Fo h,Es];rfl
  refine Ag (by kernel_rfl) ?_;simp only[go_sem,Bq h,Ap];rw[Nm,qD,O8 h];exact Hk rfl
def Ent.own(e:Ent):Ent:={ e with z:=true,t:=0 }
def Bcc{σ:St}{e lo:Nat}{u:V}{x:Ent}(h:GW σ 3 e lo u (x.sites.map Bd)):FR (.agg [.int .i64 x.kind,u,.int .i64 x.seen,.int .i64 x.missed]) σ (.agg x.own.row):=
 Bbl (pre:=[.int .i64 x.kind]) (post:=[.int .i64 x.seen,.int .i64 x.missed]) h (by omega) (H3 _) (N7 _) rfl rfl
def Az0(e:Ent)(he:e.sites.length<=1000000):Fn TT PT 84 [.agg e.row] (.agg e.own.row):=by
 obtain⟨u1,s1,e1,g1,l1,-,f1⟩:=Hl (lo:=2) (σ:=[.row [.int .i64 e.kind,e.sl,.int .i64 e.seen,.int .i64 e.missed] 45 0 0,.row [.int .i64 0,.nils,.int .i64 0,.int .i64 0] 45 0 0]) (m:=3) (e:=47) (bytes:=40) (y:=e.sl) (ys:=e.sites.map Bd) D5 (by simp) (Acu ..) (by omega) (by simp) (H3 _) (by simp;omega);have q0:=f1 0 (by simp);have q1:=f1 1 (by simp);rw[Cr]at g1;have hl:2<=s1.length:=l1
 match s1,q0,q1,hl with
 | a::b::J,q0,q1,_=>
 cases q0;cases q1;refine Bo T84 rfl ?_;simp only[go_sem,e1,Ok (Cu g1),Cu g1];exact Bcc (σ:=.row [.int .i64 e.kind,u1,.int .i64 e.seen,.int .i64 e.missed] 45 0 0::.row [.int .i64 e.kind,u1,.int .i64 e.seen,.int .i64 e.missed] 45 0 0::J) (Ft (j:=1) (x:=.row [.int .i64 e.kind,u1,.int .i64 e.seen,.int .i64 e.missed] 45 0 0) (Ft (j:=0) (x:=.row [.int .i64 e.kind,u1,.int .i64 e.seen,.int .i64 e.missed] 45 0 0) g1 (by omega)) (by omega))
def A67(z:Bool)(t:Nat)(l:List Ent)(i:Nat)(e:Ent)(hi:i<=l.length)(hl:l.length<=1000000)(he:e.sites.length<=1000000):
  Fn TT PT 55 [SL z t (l.map Ent.row),.int .i64 (i:Int),.agg e.row] (SL true 0 ((l.take i++e.own::l.drop i).map Ent.row)):=by
 have hc:=Az0 e he;obtain⟨za,ta,ha⟩:=Vi z t 4 (l.map Ent.row) .i64 i (by simpa using hi);obtain⟨zb,tb,hb⟩:=Azt z t 4 (l.map Ent.row) .i64 i (by simpa using hi) (Vj _);rw[<-Sw]at ha;rw[<-Aga]at hb;obtain⟨u1,s1,e1,g1,l1,-,f1⟩:=Hl (lo:=1) (σ:=[.row e.row 45 0 0]) (m:=4) (e:=45) (bytes:=48) (y:=SL za ta ((l.take i).map Ent.row)) D5 (by simp) (Acu ..) (by omega) (by simp) (Vj _) (by simp;omega);rw[Cr]at g1;have q1:=f1 0 (by simp);obtain⟨u2,s2,e2,g2,l2,-,f2⟩:=Hl (m:=4) (e:=45) (bytes:=48) (y:=.sl s1.length 0 0 1 4 true) (ys:=[e.own.row]) (Gk (l:=[.row e.own.row 45 0 0]) g1) (by simp at l1 ⊢<;>omega) (by simp only[Ea,Q3]<;>rfl) (by omega) (Vj _) (by simp[Ent.row]) (by simp;omega);rw[Al]at l2
 have qt:∀ r∈(l.take i).map Ent.row++[e.own.row],r.length=4:=by
  intro r hr;rcases B8.1 hr with h | h
  .exact Vj _ r h
  .simp at h;rw[h];rfl
 obtain⟨u3,s3,e3,g3,l3,-,f3⟩:=Hl (m:=4) (e:=45) (bytes:=48) (y:=SL zb tb ((l.drop i).map Ent.row)) g2 (by simp at l1;omega) (Acu ..) (by omega) qt (Vj _) (by simp;omega);have hw:((l.take i).map Ent.row++[e.own.row])++(l.drop i).map Ent.row=(l.take i++e.own::l.drop i).map Ent.row:=by simp
 rw[hw]at g3;refine Bo T55 rfl ?_;simp only[A65]at e1 e2 q1;simp only[go_sem,ha,e1,q1];refine Ad hc (by simp only[go_sem]) ?_;simp only[go_sem,e2,hb,e3];exact Ue g3 (by omega) (Vj _) (Azz _)
def Jg(e':Ent)(l:List Ent):List Ent:=if Nm e' l then l else l.take (Es e' l)++e'::l.drop (Es e' l)
def Agl(e:Ent):∀ l,Es e.own l=Es e l
 | []=>rfl
 | x::r=>by simp only[Es,Agl e r];rfl
def Ayi(e:Ent)(l:List Ent):Nm e.own l=Nm e l:=by
 unfold Nm;rw[Agl];rfl
def Az1(l:List Ent)(e:Ent)(hl:l.length<=1000000)(ho:okE l)(he:e.sites.length<=1000000):
  Fn TT PT 22 [SL true 0 (l.map Ent.row),.agg e.row] (SL true 0 ((Jg e.own l).map Ent.row)):=by
 have hp:=Apq true 0 l e (by omega) ho (by omega);unfold Jg;rw[Ayi,Agl];by_cases h:Nm e l=true
 .rw[if_pos h];refine Bo T22 rfl ?_;rw[h]at hp;simp only[go_sem];refine Ad hp (by simp only[go_sem]) ?_;simp only[go_sem];exact Gm (Adi ..)
 .have hq:=A67 true 0 l (Es e l) e (Abw e l) hl he;rw[if_neg h];refine Bo T22 rfl ?_;rw[Xr]at h;rw[h]at hp;simp only[go_sem];refine Ad hp (by simp only[go_sem]) ?_;simp only[go_sem];refine Ad hq (by simp only[go_sem]) ?_;simp only[go_sem];exact Gm (Adi ..)
structure Lin {α:Type} (c:α->α->Int):Prop where
 zero:∀ x y,c x y=0↔x=y
 flip:∀ x y,c x y<0↔0<c y x
 trans:∀ x y z,c x y<0->c y z<0->c x z<0
def Lin.tri{α:Type}{c:α->α->Int}(h:Lin c)(x y:α):c x y<0\/x=y\/c y x<0:=by
 rcases Int.lt_trichotomy (c x y) 0 with h1 | h1 | h1
 .exact .inl h1
 .exact .inr (.inl ((h.zero x y).1 h1))
 .exact .inr (.inr ((h.flip y x).2 h1))
def Aeg{x y:Int}:Lib.compareInt x y<0↔x<y:=by
 unfold Lib.compareInt
 split
 .simp[*]
 .split<;>omega
def Bh5{x y:Int}:0<Lib.compareInt x y↔y<x:=by
 unfold Lib.compareInt
 split
 .omega
 .split<;>omega
def A68{x y:Int}:Lib.compareInt x y=0↔x=y:=by
 unfold Lib.compareInt
 split
 .omega
 .split<;>omega
def Ar1:Lin Lib.compareInt where
 zero _ _:=A68
 flip _ _:=Aeg.trans Bh5.symm
 trans _ _ _ h1 h2:=Aeg.2 (Int.lt_trans (Aeg.1 h1) (Aeg.1 h2))
def Hs{α:Type}(c:α->α->Int):List α->List α->Int
 | [],[]=>0
 | [],_::_ => -1
 | _::_,[]=>1
 | a::r,b::s=>if c a b≠0 then c a b else Hs c r s
def Apr{α:Type}{c:α->α->Int}(h:Lin c):Lin (Hs c) where
 zero:=by
  intro x
  induction x with
  | nil=>intro y;cases y<;>simp[Hs]
  | cons a r ih=>
   intro y
   cases y with
   | nil=>simp[Hs]
   | cons b s=>
    simp only[Hs];by_cases hc:c a b=0
    .have:=(h.zero a b).1 hc;subst this;simp[hc,ih s]
    .have:a≠b:=fun e=>hc ((h.zero a b).2 e)
     simp[hc,this]
 flip:=by
  intro x
  induction x with
  | nil=>intro y;cases y<;>simp[Hs]
  | cons a r ih=>
   intro y
   cases y with
   | nil=>simp[Hs]
   | cons b s=>
    simp only[Hs];by_cases hc:c a b=0
    .have:=(h.zero a b).1 hc;subst this;simp[hc,ih s]
    .have qM:c b a≠0:=fun e=>hc ((h.zero a b).2 ((h.zero b a).1 e).symm)
     simp[hc,qM,h.flip a b]
 trans:=by
  intro x
  induction x with
  | nil=>
   intro y z
   cases y with
   | nil=>simp[Hs]
   | cons b s=>cases z<;>simp[Hs]
  | cons a r ih=>
   intro y z
   cases y with
   | nil=>simp[Hs]
   | cons b s=>
    cases z with
    | nil=>simp[Hs]
    | cons d u=>
     simp only[Hs];by_cases h1:c a b=0
     .have:=(h.zero a b).1 h1;subst this;by_cases h2:c a d=0
      .simp[h1,h2];exact ih s u
      .simp[h1,h2]
     .by_cases h2:c b d=0
      .have:=(h.zero b d).1 h2;subst this;simp[h1,h2]
       try exact fun h _=>h
      .simp only[ne_eq,h1,h2,not_false_eq_true,if_true];intro g1 g2;have g3:=h.trans a b d g1 g2;rw[if_pos (by omega)];exact g3
def Uo{α β:Type}[DecidableEq α](c:α->α->Int)(d:β->β->Int)(x y:α × β):Int:=if x.1≠y.1 then c x.1 y.1 else d x.2 y.2
def Ahq{α β:Type}[DecidableEq α]{c:α->α->Int}{d:β->β->Int}(h:Lin c)(g:Lin d):Lin (Uo c d) where
 zero x y:=by
  unfold Uo;obtain⟨a,b⟩:=x;obtain⟨a',b'⟩:=y;by_cases e:a=a'
  .subst e;simp[g.zero b b']
  .simp[e,h.zero a a']
 flip x y:=by
  unfold Uo;by_cases e:x.1=y.1
  .simp[e,g.flip x.2 y.2]
  .have e':¬ y.1=x.1:=fun q=>e q.symm
   simp[e,e',h.flip x.1 y.1]
 trans x y z:=by
  unfold Uo;by_cases e:x.1=y.1
  .by_cases e2:y.1=z.1
   .simp[e,e2];exact g.trans _ _ _
   .simp[e,e2]
  .by_cases e2:y.1=z.1
   .have:¬ x.1=z.1:=fun q=>e (q.trans e2.symm)
    simp only[ne_eq,e,e2,this,not_true_eq_false,not_false_eq_true,if_true,if_false];exact fun h _=>h
   .simp only[ne_eq,e,e2,not_false_eq_true,if_true];intro h1 h2;have h3:=h.trans _ _ _ h1 h2
    have:¬ x.1=z.1:=fun q=>by
     have:=(h.zero x.1 z.1).2 q;omega
    simp[this,h3]
def Ug(a b:UInt8):Int:=if a<b then -1 else if b<a then 1 else 0
def A2n:Lin Ug where
 zero x y:=by
  unfold Ug
  split
  .rename_i h;simp;intro e;subst e;exact UInt8.lt_irrefl _ h
  .split
   .rename_i h;simp;intro e;subst e;exact UInt8.lt_irrefl _ h
   .rename_i h1 h2;simp;exact UInt8.le_antisymm (UInt8.not_lt.1 h2) (UInt8.not_lt.1 h1)
 flip x y:=by
  unfold Ug;by_cases h1:x<y
  .have:¬ y<x:=fun h=>UInt8.lt_asymm h1 h
   simp[h1,this]
  .by_cases h2:y<x<;>simp[h1,h2]
 trans x y z:=by
  unfold Ug;by_cases h1:x<y
  .by_cases h2:y<z
   .simp[h1,h2,UInt8.lt_trans h1 h2]
   .by_cases h3:z<y<;>simp[h1,h2,h3]
  .by_cases h2:y<x<;>simp[h1,h2]
def Atu:∀ a b:List UInt8,Lib.compareBytes a b=Hs Ug a b
 | [],[]=>rfl
 | [],_::_=>rfl
 | _::_,[]=>rfl
 | a::r,b::s=>by
  simp only[Lib.compareBytes,Hs,Ug];by_cases h1:a<b
  .simp[h1]
  .by_cases h2:b<a
   .simp[h1,h2]
   .simp[h1,h2,Atu r s]
def An3:Lin Lib.compareBytes:=by
 have:Lib.compareBytes=Hs Ug:=by funext a b;exact Atu a b
 rw[this];exact Apr A2n
def A69:Lin O0:=by
 have:O0=Uo Lib.compareBytes (Uo Lib.compareBytes Lib.compareInt):=by funext a b;rfl
 rw[this];exact Ahq An3 (Ahq An3 Ar1)
def Aps:∀ a b,Lg a b=Hs O0 a b
 | [],[]=>rfl
 | [],_::_=>rfl
 | _::_,[]=>rfl
 | a::r,b::s=>by simp only[Lg,Hs,Aps r s]
def A2o:Lin Lg:=by
 have:Lg=Hs O0:=by funext a b;exact Aps a b
 rw[this];exact Apr A69
def Ent.ks(x:Ent):Int × List Bm:=(x.kind,x.sites)
def Aws:Int × List Bm->Int × List Bm->Int:=Uo Lib.compareInt Lg
def lin_p:Lin Aws:=Ahq Ar1 A2o
def Atv(x y:Ent):Jf x y=Aws x.ks y.ks:=rfl
def Qk(l:List Ent):Prop:=l.Pairwise fun x y=>Jf x y<0
def Agm(e:Ent):∀ {l:List Ent},Qk l->(∀ x∈l.take (Es e l),Jf x e<0)/\∀ x∈l.drop (Es e l),¬ Jf x e<0
 | [],_=>by simp[Es]
 | x::r,h=>by
  simp only[Es];have hr:=Agm e (Sm.1 h).2
  split
  .rename_i hx;simp only[Xk,Aa1,Bj]
   exact⟨fun y hy=>by rcases hy with rfl | hy;· exact hx
                      .exact hr.1 y hy,hr.2⟩
  .rename_i hx;simp only[Xu,Qs,false_implies,implies_true,true_and,I4,Bj];rintro y (rfl | hy)
   .exact hx
   .intro qe;have h1:=(Sm.1 h).1 y hy;exact hx (lin_p.trans x.ks y.ks e.ks h1 qe)
def Ayj{e:Ent}{l:List Ent}(h:Qk l):Nm e l=true↔∃ x∈l,x.ks=e.ks:=by
 have hs:=Agm e h;unfold Nm;constructor
 .intro ht
  cases hx:l[Es e l]? with
  | none=>rw[hx]at ht;cases ht
  | some x=>
   rw[hx]at ht;have hz:Jf x e=0:=by simpa using ht
   exact⟨x,Ge hx,(lin_p.zero _ _).1 hz⟩
 .rintro⟨x,hx,he⟩;have hz:Jf x e=0:=(lin_p.zero _ _).2 he;have hm:x∈l.take (Es e l)++l.drop (Es e l):=by rw[Gq];exact hx
  rcases B8.1 hm with hm | hm
  .have:=hs.1 x hm;omega
  .cases hd:l.drop (Es e l) with
   | nil=>rw[hd]at hm;cases hm
   | cons y r=>
    have hy:l[Es e l]?=some y:=by
     have:(l.drop (Es e l))[0]?=some y:=by rw[hd];rfl
     rwa [Hx,Ll]at this
    rw[hy];rw[hd]at hm;rcases Bj.1 hm with rfl | hm
    .simpa using hz
    .-- y is ahead of x,and not ahead of e
     have qF:(y::r).Pairwise fun x y=>Jf x y<0:=by rw[<-hd];exact h.drop
     have h1:=(Sm.1 qF).1 x hm;have h2:=hs.2 y (by rw[hd];exact C5);have:Jf y e=Jf y x:=by rw[Atv,Atv,he]
     omega
def Apt{e:Ent}{l:List Ent}(h:Qk l):Qk (Jg e l):=by
 unfold Jg
 split
 .exact h
 .rename_i ht;have hs:=Agm e h;have hn:∀ x∈l,x.ks≠e.ks:=fun x hx he=>ht ((Ayj h).2 ⟨x,hx,he⟩)
  unfold Qk at h ⊢;rw[Aay,Sm];refine⟨h.take,⟨fun y hy=>?_,h.drop⟩,fun x hx y hy=>?_⟩
  .rcases lin_p.tri e.ks y.ks with h1 | h1 | h1
   .exact h1
   .exact absurd h1.symm (hn y (Sf hy))
   .exact absurd h1 (hs.2 y hy)
  .rcases Bj.1 hy with rfl | hy
   .exact hs.1 x hx
   .have qF:(l.take (Es e l)++l.drop (Es e l)).Pairwise fun x y=>Jf x y<0:=by rw[Gq];exact h
    exact(Aay.1 qF).2.2 x hx y hy
def Apu{e x:Ent}{l:List Ent}(h:x∈Jg e l):x=e\/x∈l:=by
 unfold Jg at h
 split at h
 .exact .inr h
 .rcases B8.1 h with h | h
  .exact .inr (Ik h)
  .rcases Bj.1 h with h | h
   .exact .inl h
   .exact .inr (Sf h)
def Apv{e:Ent}{l:List Ent}:(Jg e l).length<=l.length+1:=by
 unfold Jg
 split
 .omega
 .have:=Abw e l;simp;omega
def Mq(n:Nat):Bm:=((if n % 3=0 then [109,97,105,110] else if n % 3=1 then [116,49] else [65,95,57]),(if n / 3 % 3=0 then [120,32,61,32,49,59] else if n / 3 % 3=1 then [120,32,61,32,40,97,32,43,32,49,41,59] else [108,111,99,107,32,109,32,123]),((n / 9 % 3:Nat):Int))
noncomputable def runOne (f:AF) (args:List V):Option V:=(Jz (Mw TT PT 60) f args []).bind fun p=>Ex p.2 p.1
def A2p:((List.range 256).all fun n=>match runOne af53 [.int .u8 n] with
  | some v=>v.eqv (.agg (Bd (Mq n)))
  | none=>false)=true:=by kernel_rfl
def A7a(n:Nat)(h:n<256):Fn TT PT 53 [.int .u8 n] (.agg (Bd (Mq n))):=by
 have:=Bp.1 A2p n (E1.2 h)
 split at this
 .rename_i v hv;have e:=Wc this;subst e;exact Pm Qj T53 rfl rfl hv
 .cases this
structure Item where
 kind:Nat
 seen:Nat
 missed:Nat
 a:Nat
 b:Nat
 c:Nat
 d:Nat
def Item.ok(x:Item):Prop:=x.kind<256/\x.seen<256/\x.missed<256/\x.a<256/\x.b<256/\x.c<256/\x.d<256
def Item.row(x:Item):List V:=[.int .u8 x.kind,.int .u8 x.seen,.int .u8 x.missed,.int .u8 x.a,.int .u8 x.b,.int .u8 x.c,.int .u8 x.d]
def Item.nums(x:Item):List Nat:=[x.a,x.b,x.c,x.d]
def Sa(k:Nat):Nat:=if k % 4=0 then 2 else if k % 4=1 then 2+k / 4 % 3 else if k % 4=2 then 2 else 4
def Item.ent(x:Item):Ent:=⟨1+(x.kind % 4:Nat),(x.nums.take (Sa x.kind)).map Mq,1+(x.seen % 9:Nat),(x.missed % 8:Nat),true,0⟩
def Zg(k:Nat):2<=Sa k/\Sa k<=4:=by
 unfold Sa
 split
 .omega
 .split
  .omega
  .split<;>omega
def Zz(a b:Nat):(a:Int).tmod (b:Int)=((a % b:Nat):Int):=(Int.ofNat_tmod a b).symm
def Bh6(a b:Nat):(a:Int).tdiv (b:Int)=((a / b:Nat):Int):=(Int.ofNat_tdiv a b).symm
def Ag3(k:IntKind)(n d:Nat):Dq (some (.int k (n:Int))) d=some n:=by
 simp only[Dq];rw[if_pos (by omega),Md]
attribute [go_sem ↓] Ag3
attribute [go_sem] U9 Au Afw
def Y0{m j g off len i:Nat}{w:Bool}{k:IntKind}(h:i<len):Ly m (.sl j g off len m w) (.int k (i:Int))=some (.ptr j g (off+i*m)):=by
 simp only[Ly];rw[if_pos ⟨by omega,by omega,trivial⟩,Md]
@[go_sem] theorem Ahr (x:Item):x.row=[.int .u8 x.kind,.int .u8 x.seen,.int .u8 x.missed,.int .u8 x.a,.int .u8 x.b,.int .u8 x.c,.int .u8 x.d]:=Br rfl
def Az2{l:List Nat}{j m:Nat}(h:l[j]?=some m):((l.take (j+1)).map Mq).map Bd=((l.take j).map Mq).map Bd++[Bd (Mq m)]:=by
 rw[Af8,h];simp
def Fw(l:List Item)(i:Nat):List Ent:=(l.take i).foldl (fun s x=>Jg x.ent s) []
def An4{l:List Item}{i:Nat}{x:Item}(h:l[i]?=some x):Fw l (i+1)=Jg x.ent (Fw l i):=by
 unfold Fw;rw[Af8,h];simp[List.foldl_append]
def Acc(l:List Item):∀ i,(Fw l i).length<=i/\Qk (Fw l i)/\∀ e∈Fw l i,∃ x∈l,e=x.ent
 | 0=>by simp[Fw,Qk]
 | i+1=>by
  obtain⟨h1,h2,h3⟩:=Acc l i
  cases hx:l[i]? with
  | none=>
   have:Fw l (i+1)=Fw l i:=by
    unfold Fw;rw[Af8,hx];simp
   rw[this];exact⟨by omega,h2,h3⟩
  | some x=>
   rw[An4 hx];refine⟨by have:=Apv (e:=x.ent) (l:=Fw l i);omega,Apt h2,fun e he=>?_⟩;rcases Apu he with rfl | he
   .exact⟨x,Ge hx,rfl⟩
   .exact h3 e he
def X5(x:Item):x.ent.sites.length=Sa x.kind:=by
 have:=Zg x.kind;simp[Item.ent,Item.nums];omega
end Go.Proofs.YthlbbjcbmojocacGreatDoor.KM
/- What every law's closing needs: listed tables, the post of a law that answers true and leaves its arguments. -/
namespace Go.Proofs.YthlbbjcbmojocacGreatDoor
open Go.ChangeShapes Go.WideShapes Go.ChangeAt Go.RowKit KM
mutual
def flatV{H:Type}:DataW H->List Value
 | .lit (.bool b)=>[.bool b]
 | .lit (.int k n)=>[.int k n]
 | .lit (.string l)=>[.string ⟨l.toArray⟩]
 | .agg ps=>Rf ps
 | _=>[]
def Rf{H:Type}:List (DataW H)->List Value
 | []=>[]
 | d::ds=>flatV d++Rf ds
end
def Ai7(P:Program)(ts:List TypeId):Bool:=ts.all fun t=>
 match P.underlying t with
 | some .bool | some (.int _) | some .string=>P.cellsOf t==1
 | some (.struct fs)=>fs.toList.all (fun f=>ts.contains f.type)&&Pu P fs.toList 0 (P.cellsOf t)
 | some (.array n e)=>ts.contains e&&P.cellsOf t==n*P.cellsOf e
 | _=>false
def Ame{H:Type}{P:Program}{cs:List Value}{g:Field->Option (DataW H × List MemPlace)}:
  ∀ (fl:List Field) (s e:Nat) (xs:List (DataW H × List MemPlace)),Pu P fl s e=true->fl.mapM g=some xs->e=cs.length ->
   (∀ f∈fl,∀ x,g f=some x->(cs.drop f.offset).take (P.cellsOf f.type)=flatV x.1)->cs.drop s=Rf (xs.map (·.1))
 | [],s,e,xs,hc,hm,he,_=>by
  simp[Pu]at hc;simp at hm;subst hc hm he;simp[Rf]
 | f::fl,s,e,xs,hc,hm,he,hg=>by
  simp only[Pu,Af,beq_iff_eq]at hc;rw[H0]at hm
  cases hf:g f with
  | none=>simp[hf]at hm
  | some x=>
   cases hl:fl.mapM g with
   | none=>simp[hf,hl]at hm
   | some r=>
    simp[hf,hl]at hm;subst hm;have h1:=Ame fl _ e r hc.2 hl he (fun f' qO=>hg f' (C4 _ qO));have h2:=hg f (C5) x hf;rw[hc.1]at h2;rw[Bb];simp only[Rf];rw[<-h1,<-h2,<-Pd];exact(Gq _ _).symm
def Amx{H:Type}{cs:List Value}{m:Nat}{g:Nat->Option (DataW H × List MemPlace)}(hg:∀ i x,g i=some x->(cs.drop (i*m)).take m=flatV x.1):
  ∀ (n s:Nat) (xs:List (DataW H × List MemPlace)),(List.range' s n).mapM g=some xs->cs.length=(s+n)*m->cs.drop (s*m)=Rf (xs.map (·.1))
 | 0,s,xs,hm,hl=>by
  simp at hm;subst hm;simp at hl;simp[Rf,hl]
 | n+1,s,xs,hm,hl=>by
  rw[Aa5,H0]at hm
  cases hf:g s with
  | none=>simp[hf]at hm
  | some x=>
   cases hr:(List.range' (s+1) n).mapM g with
   | none=>simp[hf,hr]at hm
   | some r=>
    simp[hf,hr]at hm;subst hm;have h1:=Amx hg n (s+1) r hr (by rw[hl];congr 1;omega);have h2:=hg s x hf;rw[Bb];simp only[Rf];rw[<-h1,<-h2,Ep,<-Pd];exact(Gq _ _).symm
def Agc{H:Type}(qd:TypeId × Value->H)(P:Program)(w:World)(qh:Nat->Bool)(qn:Bool)(ts:List TypeId)(qj:Ai7 P ts=true):
  ∀ (fuel:Nat) (t:TypeId) (cs:List Value) (d:DataW H) (ps:List MemPlace),t∈ts->DataW.trod qd P w 0 qh qn fuel t cs=some (d,ps)->cs=flatV d
 | 0,_,_,_,_,_,h=>by simp[DataW.trod]at h
 | fuel+1,t,cs,d,ps,ht,h=>by
  have hp:=Bp.1 qj t ht;simp only[DataW.trod]at h
  split at h
  .simp at h;obtain⟨rfl,_⟩:=h;rfl
  .split at h
   .rename_i hk;simp at h;obtain⟨rfl,_⟩:=h;obtain⟨rfl,_⟩:=hk;rfl
   .cases h
  .rename_i hu;rw[hu]at hp;cases hp
  .split at h
   .simp at h;obtain⟨rfl,_⟩:=h;simp[flatV]
   .cases h
  .rename_i hu;rw[hu]at hp;cases hp
  .rename_i hu;rw[hu]at hp;cases hp
  .rename_i hu;rw[hu]at hp;cases hp
  .rename_i hu;rw[hu]at hp;cases hp
  .rename_i fs hu;rw[hu]at hp;simp only[Af,Bp,Aax]at hp
   split at h
   .rename_i qA;simp only[Bu]at h;obtain⟨xs,hm,h⟩:=h;simp at h;obtain⟨rfl,_⟩:=h;have:=Ame (P:=P) (cs:=_) fs.toList 0 _ xs hp.2 hm qA.symm (fun f hf x hx=>Agc qd P w qh qn ts qj fuel f.type _ x.1 x.2 (hp.1 f hf) hx);simpa[flatV] using this
   .cases h
  .rename_i n e hu;rw[hu]at hp;simp only[Af,beq_iff_eq,Aax]at hp
   split at h
   .rename_i qA;simp only[Bu]at h;obtain⟨xs,hm,h⟩:=h;simp at h;obtain⟨rfl,_⟩:=h;rw[List.range_eq_range']at hm;have:=Amx (cs:=_) (m:=P.cellsOf e) (fun i x hx=>Agc qd P w qh qn ts qj fuel e _ x.1 x.2 hp.1 hx) n 0 xs hm (by rw[qA,hp.2];simp);simpa[flatV] using this
   .cases h
  all_goals first
   | (rename_i hu;rw[hu]at hp;cases hp)
   | cases h
def Ahs{P:Program}{w:World}{n:String}{d:DataW Unit}:∀ {qb:List (String × DataW Unit)} {ps:List MemPlace},DataW.LaidVars P w qb ps->(n,d)∈qb ->
  ∃ g t cs fuel p,P.globalNamed n=some g/\(P.globals[g]?).map (·.type)=some t/\w.var? P n=some cs/\DataW.trod (fun _=>()) P w 0 (fun _=>true) false fuel t cs.toList=some (d,p)
 | [],_,_,hm=>by cases hm
 | (n',d')::r,ps,h,hm=>by
  obtain⟨g,t,cs,fuel,p,q,h1,h2,h3,h4,h5,_⟩:=h;rcases Bj.1 hm with e | hm
  .injection e with e1 e2;subst e1 e2;exact⟨g,t,cs,fuel,p,h1,h2,h3,h4⟩
  .exact Ahs h5 hm
def A2q{P:Program}{w:World}{n:String}{d:DataW Unit}{g:Nat}{t:TypeId}{ts:List TypeId}{qb:List (String × DataW Unit)}(h:laidMet P qb w)(hm:(n,d)∈qb)
  (hg:P.globalNamed n=some g) (ht:(P.globals[g]?).map (·.type)=some t) (qj:Ai7 P ts=true) (qf:t∈ts):w.var? P n=some (flatV d).toArray:=by
 obtain⟨ps,h,_⟩:=h;obtain⟨g',t',cs,fuel,p,h1,h2,h3,h4⟩:=Ahs h hm;obtain rfl:g'=g:=Jo (h1.symm.trans hg);obtain rfl:t'=t:=Jo (h2.symm.trans ht);rw[h3,<-Agc _ P w _ _ ts qj fuel t' _ d p qf h4]
def Al3{H:Type}{qd:TypeId × Value->H}{P:Program}(hl:laidOutB P=true){W W':World}(hb:Below W.heap.size W W'){sp:Nat->Bool}:
  ∀ {ts:List TypeId} {vs:List Value} {ds:List (DataW H)} {ps:List MemPlace},(ts.all fun t=>P.readableRec t&&decide (t<P.types.size))=true->DataW.TrodAll qd P W 0 (fun _=>true) true ts vs ds ps ->
   (∀ x∈ps,x.block<W.heap.size)->(∀ x∈ps,sp x.block=true)->DataW.TrodAll qd P W' 0 sp true ts vs ds ps
 | [],[],[],_,_,h,_,_=>h
 | t::ts,v::vs,d::ds,ps,hr,h,qe,qz=>by
  obtain⟨p,q,h1,h2,rfl⟩:=h;simp only[Aw,Af,decide_eq_true_eq]at hr;refine⟨p,q,WideElems.Trod_stays hl hr.1.1 hr.1.2 h1 (fun x hx=>hb.same (qe x (by simp[hx]))) (fun x hx=>qz x (by simp[hx])),?_,rfl⟩;exact Al3 hl hb (by simpa using hr.2) h2 (fun x hx=>qe x (by simp[hx])) (fun x hx=>qz x (by simp[hx]))
 | [],_::_,_,_,_,h,_,_=>by simp[DataW.TrodAll]at h
 | [],[],_::_,_,_,h,_,_=>by simp[DataW.TrodAll]at h
 | _::_,[],_,_,_,h,_,_=>by simp[DataW.TrodAll]at h
 | _::_,_::_,[],_,_,h,_,_=>by simp[DataW.TrodAll]at h
def A2r{H:Type}{qd:TypeId × Value->H}{P:Program}{f:Func}{s:ChangeSpec}{qk qq qi qp:Bool}{W W':World}{args:Array Value}{ds gs:List (DataW H)}{qa:List MemPlace}{tb:TypeId}
  (hW:DataW.Whole qd P f.params.toList s.vars qk W args.toList ds gs qa) (hl:laidOutB P=true) (qj:(f.params.toList.all fun t=>P.readableRec t&&decide (t<P.types.size))=true)
  (hv:s.vars=[]) (hr:f.resultTypes=#[tb]) (hu:P.underlying tb=some .bool) (h1:(s.fn H (ds++gs)).results=[.lit (.bool true)]) (h2:(s.fn H (ds++gs)).args=ds) (h3:(s.fn H (ds++gs)).vars=[])
  (hb:Below W.heap.size W W'):s.post qd P f qk qq qi qp W args (.bool true) W':=by
 have qe:∀ p∈qa,p.block<W.heap.size:=fun p hp=>hW.lt p hp
 have qC:∀ p∈qa,(fun b=>decide (b<W.heap.size)) p.block=true:=fun p hp=>by simpa using qe p hp
 have qw:∀ (b:Nat) (sp:Nat->Bool) (hd:Bool),DataW.TrodAll qd P W' b sp hd f.resultTypes.toList ((Value.bool true).resultList f.resultTypes.size) (s.fn H (ds++gs)).results []:=fun b sp hd=>by
  rw[hr,h1];exact trodAll_cons_mk (shut_bool hu _) trodAll_mk0
 obtain⟨p,q,hA,hV,qJ,hz,hn⟩:=id hW;have hg:gs=[]/\q=[]:=by rw[hv]at hV;exact trodVars_none hV
 obtain⟨rfl,rfl⟩:=hg
 have ql:∀ sp:Nat->Bool,(∀ p∈qa,sp p.block=true)->DataW.TrodAll qd P W' 0 sp true f.params.toList args.toList (s.fn H (ds++[])).args qa:=fun sp qz=>by
  rw[h2];rw[B3]at qJ;subst qJ;exact Al3 hl hb qj hA qe qz
 have qm:∀ sp:Nat->Bool,DataW.TrodVars qd P W' sp s.vars (s.fn H (ds++[])).vars []:=fun sp=>by
  rw[hv,h3];rfl
 refine⟨ds,[],qa,[],qa,[],hW,qw _ _ _,ql _ qC,qm _,World.keptBut_mono (fun p hp=>⟨hp,.inr (by simpa using hp)⟩) (hb.frame (·∈qa)),fun _=>?_⟩;refine⟨?_,_,_,([]++qa)++[],⟨[]++qa,[],trodAll_append (ql _ (fun _ _=>rfl)) (qw _ _ _),qm _,rfl,?_,?_⟩,?_⟩
 .exact ok_one hr rfl (okWide_bool_mk hu _)
 .intro b off hp;have qf:MemPlace.cell b off∈qa:=by simpa using hp
  rw[hb.frozen (qe _ qf)];exact hz b off qf
 .intro ha;simpa using hn ha
 .intro p hp _;simpa using hp
def Apw{P:Program}{w:World}{n:String}{g:Nat}{cs:Array Value}(h:w.var? P n=some cs)(hg:P.globalNamed n=some g):∃ e fz,w.heap[g]?=some (.cells cs e fz):=by
 unfold World.var? at h;rw[hg,Db]at h
 split at h
 .rename_i hh;injection h with h;subst h;exact⟨_,_,hh⟩
 .cases h
def Aih{P:Program}{w:World}{n:String}{d:DataW Unit}{g:Nat}{t:TypeId}{ts:List TypeId}{qb:List (String × DataW Unit)}{r:List V}(h:laidMet P qb w)(hm:(n,d)∈qb)
  (hg:P.globalNamed n=some g) (ht:(P.globals[g]?).map (·.type)=some t) (qj:Ai7 P ts=true) (qf:t∈ts) (hr:H5 r (flatV d)=true) (hf:r.all Ae5=true) :
  ∃ us e fz,w.heap[g]?=some (.cells us e fz)/\r.length=us.toList.length/\∀ j,j<r.length->Wq (r.getD j .und) (us.toList.getD j undef):=by
 obtain⟨e,fz,hh⟩:=Apw (A2q h hm hg ht qj qf) hg;obtain⟨h1,h2⟩:=Axr hr hf;exact⟨_,e,fz,hh,h1,h2⟩
def Ar2{P:Program}{w:World}{n:String}{nm:String}{d:DataW Unit}{g:Nat}{t:TypeId}{ms:Array (String × TypeId)}{qb:List (String × DataW Unit)}(h:laidMet P qb w)(hm:(n,.iface nm d)∈qb)
  (hg:P.globalNamed n=some g) (ht:(P.globals[g]?).map (·.type)=some t) (hu:P.underlying t=some (.interface ms)) :
  ∃ us e fz,w.heap[g]?=some (.cells us e fz)/\[V.ifc].length=us.toList.length/\∀ j,j<[V.ifc].length->Wq ([V.ifc].getD j .und) (us.toList.getD j undef):=by
 obtain⟨ps,h,_⟩:=h;obtain⟨g',t',cs,fuel,p,h1,h2,h3,h4⟩:=Ahs h hm;obtain rfl:g'=g:=Jo (h1.symm.trans hg);obtain rfl:t'=t:=Jo (h2.symm.trans ht);obtain⟨e,fz,hh⟩:=Apw h3 hg;refine⟨cs,e,fz,hh,?_⟩
 cases fuel with
 | zero=>simp[DataW.trod]at h4
 | succ fuel=>
  unfold DataW.trod at h4;rw[hu]at h4;generalize cs.toList=l at h4;rcases l with _ | ⟨x,_ | ⟨y,l⟩⟩
  .simp at h4
  .cases x with
   | iface u v=>
    refine⟨rfl,fun j hj=>.inr ?_⟩;obtain rfl:j=0:=by simp at hj;omega
    exact⟨rfl,_,_,rfl⟩
   | _=>simp at h4
  .cases x<;>simp at h4
def A7b{P:Program}{w:World}{g:Nat}{t:TypeId}{zero:Array Value}
  (h:w.ShapedOpen P) (hg:g<P.globals.size)
  (h0:((begin P (fun _ _=>0) default).world.heap[g]?).bind Obj.row?=some (zero,t)) (hz:zero.size=1)
  (hb:P.buildable t=true) (hc:P.cellTypes P.depth t=some [t]) (hu:P.underlying t=some (.int .i64)) :
  ∃ m,∃ us e fz,w.heap[g]?=some (.cells us e fz)/\[V.int .i64 m].length=us.toList.length/\∀ j,j<[V.int .i64 m].length->Wq ([V.int .i64 m].getD j .und) (us.toList.getD j undef):=by
 obtain⟨m,hm⟩:=cell_of_shapedOpen_int h hg h0 hz hb hc hu;obtain⟨cs,hh,hs,_⟩:=h.1 g zero t hg h0;refine⟨m,cs,_,_,hh,by simp;omega,fun j hj=>.inl ?_⟩;obtain rfl:j=0:=by simp at hj;omega
 have:cs[0]?=some (.int .i64 m):=by simpa[World.cell?,hh] using hm
 have:cs.toList.getD 0 undef=.int .i64 m:=by rw[Av,Array.getElem?_toList,this];rfl
 rw[this];exact⟨by simp[Nk],rfl⟩
end Go.Proofs.YthlbbjcbmojocacGreatDoor
/- What every closing of this seat's laws needs: the tables, plain data out of what a row reads, the world of the witness. -/
namespace Go.Proofs.YthlbbjcbmojocacGreatDoor
open Go.ChangeShapes Go.WideShapes Go.ChangeAt Go.RowKit KM
def Axl:ownKnob Tryz.prog.godebug=none:=by kernel_rfl
def A2s{P:Program}{t:TypeId}{k:IntKind}{qc:List V}(hu:P.underlying t=some (.int k))(h:HasT P t qc):∃ n,qc=[.int k n]/\(Lit.int k n).wf=true:=by
 cases h with
 | int hu' hw=>
  rw[hu]at hu';injection hu' with e;injection e with e;subst e;exact⟨_,rfl,hw⟩
 | _=>simp_all
def Amf{P:Program}{t:TypeId}{fs:Array Field}{qc:List V}(hu:P.underlying t=some (.struct fs))(h:HasT P t qc):∃ parts:List (List V),qc=parts.flatten/\parts.length=fs.size/\∀ i f,fs[i]?=some f->HasT P f.type (parts.getD i []):=by
 cases h with
 | struct parts hu' hl hT=>
  rw[hu]at hu';injection hu' with e;injection e with e;subst e;exact⟨parts,rfl,hl,hT⟩
 | _=>simp_all
def Ayk{P:Program}{t e:TypeId}{qc:List V}(hu:P.underlying t=some (.slice e))(h:HasT P t qc):qc=[.nils]\/∃ xs,qc=[.lst 0 xs]/\xs.length<=maxLen/\∀ i,i<xs.length->HasT P e (xs.getD i []):=by
 cases h with
 | nils _=>exact .inl rfl
 | lst hu' hl hT=>
  rw[hu]at hu';injection hu' with e;injection e with e;subst e;exact .inr ⟨_,rfl,hl,hT⟩
 | _=>simp_all
def Apx{α:Type}{f:α->List V}:∀ {xs:List (List V)},(∀ i,i<xs.length->∃ a,xs.getD i []=f a)->∃ l:List α,xs=l.map f
 | [],_=>⟨[],rfl⟩
 | x::xs,h=>by
  obtain⟨a,ha⟩:=h 0 (by simp);obtain⟨l,hl⟩:=Apx (xs:=xs) fun i hi=>h (i+1) (by simpa using hi)
  exact⟨a::l,by rw[hl];simp at ha;simp[ha]⟩
def An5{P:Program}{t e:TypeId}{α:Type}{f:α->List V}{qc:List V}(hu:P.underlying t=some (.slice e))(h:HasT P t qc)(hf:∀ r,HasT P e r->∃ a,r=f a):∃ z u,∃ l:List α,qc=[SL z u (l.map f)]/\l.length<=9223372036854775807:=by
 rcases Ayk hu h with rfl | ⟨xs,rfl,hl,hT⟩
 .exact⟨true,0,[],rfl,by simp⟩
 .obtain⟨l,rfl⟩:=Apx (f:=f) fun i hi=>hf _ (hT i hi)
  exact⟨false,0,l,by simp[SL],by simpa[maxLen] using hl⟩
def Ai8{α:Type}{ps:List (List α)}(h:ps.length=4):∃ a b c d,ps=[a,b,c,d]:=by
 match ps,h with
 | [a,b,c,d],_=>exact⟨a,b,c,d,rfl⟩
def A7c:Tryz.prog.globalNamed "interleave/format.operators"=some 9:=by kernel_rfl
def Bcd:Tryz.prog.globalNamed "interleave/token.keywords"=some 1:=by kernel_rfl
def A7d:Tryz.prog.globalNamed "internal/strconv.uint64pow10"=some 2:=by kernel_rfl
def A7e{w:World}{qb:List (String × DataW Unit)}(h:laidMet Tryz.prog qb w)(hs:w.ShapedOpen Tryz.prog)(h1:("interleave/format.operators",Rows.laid_interleave_format_operators)∈qb) (h2:("internal/strconv.uint64pow10",Rows.laid_internal_strconv_uint64pow10)∈qb)
  (h3:("interleave/token.keywords",Rows.laid_interleave_token_keywords)∈qb) (h4:("strconv.ErrSyntax",Rows.laid_strconv_ErrSyntax)∈qb) (h5:("strconv.ErrRange",Rows.laid_strconv_ErrRange)∈qb):∃ m,Alf (GT m) w:=by
 obtain⟨m,hm⟩:=A7b (g:=0) (zero:=#[.int .i64 0]) (t:=3) hs (of_decide_eq_true (by kernel_rfl)) (by kernel_rfl) rfl (by kernel_rfl) (by kernel_rfl) Tryz.underlying3;refine⟨m,fun g r hg=>?_⟩;simp only[GT,Bj,Qs,or_false,Prod.mk.injEq]at hg
 rcases hg with⟨rfl,rfl⟩ | ⟨rfl,rfl⟩ | ⟨rfl,rfl⟩ | ⟨rfl,rfl⟩ | ⟨rfl,rfl⟩ | ⟨rfl,rfl⟩<;>first
  | exact hm
  | exact Ar2 h h4 Ary (by kernel_rfl) Tryz.underlying234
  | exact Ar2 h h5 Arz (by kernel_rfl) Tryz.underlying234
  | exact Aih (ts:=[3,9,296,304]) (t:=304) h h1 A7c (by kernel_rfl) (by kernel_rfl) (by decide) (by kernel_rfl) (by kernel_rfl)
  | exact Aih (ts:=[9,225]) (t:=225) h h3 Bcd (by kernel_rfl) (by kernel_rfl) (by decide) (by kernel_rfl) (by kernel_rfl)
  | exact Aih (ts:=[165,243]) (t:=243) h h2 A7d (by kernel_rfl) (by kernel_rfl) (by decide) (by kernel_rfl) (by kernel_rfl)
end Go.Proofs.YthlbbjcbmojocacGreatDoor
/- The world of the witness: the settled one, the listed variables holding what their initialisers lay. -/
namespace Go.Proofs.YthlbbjcbmojocacGreatDoor
open Go.ChangeShapes Go.WideShapes Go.ChangeAt Go.RowKit KM
def Bh7{a b:Bool}(h1:a=true)(h2:b=true):(a&&b)=true:=by rw[h1,h2];rfl
def setRow(d:DataW Unit):Obj->Obj
 | .cells _ t frozen=>.cells (flatV d).toArray t frozen
 | o=>o
def Atw(b:Nat):Obj->Obj
 | .cells _ t frozen=>.cells #[.iface 300 (.pointer (some ⟨b,0,none⟩))] t frozen
 | o=>o
def Ar3:DataW Unit->Array UInt8
 | .iface _ (.ptr (.agg [.lit (.string l)]))=>l.toArray
 | _=>#[]
noncomputable def holds0 (os:Os):Array Obj:=(World.holding Tryz.prog os ⟨#[],#[],[]⟩).heap
noncomputable def laidWorld (os:Os):World:=
 { World.holding Tryz.prog os ⟨#[],#[],[]⟩ with heap:=((((((((((holds0 os).modify 9 (setRow Rows.laid_interleave_format_operators)).modify 2 (setRow Rows.laid_internal_strconv_uint64pow10)).modify 3 (setRow Rows.laid_math_bits_deBruijn32tab)).modify 4 (setRow Rows.laid_math_bits_deBruijn64tab)).modify 6 (setRow Rows.laid_unicode_utf8_acceptRanges)).modify 1 (setRow Rows.laid_interleave_token_keywords)).modify 5 (setRow Rows.laid_unicode_utf8_first)).modify 8 (Atw (holds0 os).size)).modify 7 (Atw ((holds0 os).size+1))).push (.cells #[.string ⟨Ar3 Rows.laid_strconv_ErrRange⟩] 302 (0,0)) |>.push (.cells #[.string ⟨Ar3 Rows.laid_strconv_ErrSyntax⟩] 302 (0,0)) }
end Go.Proofs.YthlbbjcbmojocacGreatDoor
/- What a row reads: bytes. -/
namespace Go.Proofs.YthlbbjcbmojocacGreatDoor
open Go.ChangeShapes Go.WideShapes Go.ChangeAt Go.RowKit KM
def Pz{P:Program}{t:TypeId}{qc:List V}(hu:P.underlying t=some (.int .u8))(h:HasT P t qc):∃ n:Nat,n<256/\qc=[.int .u8 (n:Int)]:=by
 obtain⟨n,rfl,hw⟩:=A2s hu h;simp only[Lit.wf,Af,decide_eq_true_eq]at hw;have h1:(0:Int)<=n:=hw.1;have h2:n<=255:=hw.2;refine⟨n.toNat,by omega,?_⟩;rw[Aa0 h1]
def Ai9{qc:List V}(h:HasT Tryz.prog 22 qc):∃ z u,∃ l:List UInt8,qc=[SL z u (Bs l)]/\l.length<=9223372036854775807:=by
 obtain⟨z,u,l,rfl,hl⟩:=An5 (f:=fun c:UInt8=>[V.int .u8 (c.toNat:Int)]) Tryz.underlying22 h fun r hr=>by
  obtain⟨n,hn,rfl⟩:=Pz Tryz.underlying5 hr;exact⟨UInt8.ofNat n,by simp[Xo hn]⟩
 exact⟨z,u,l,rfl,hl⟩
end Go.Proofs.YthlbbjcbmojocacGreatDoor
/- Both versions' numbers out of what a row reads. -/
namespace Go.Proofs.YthlbbjcbmojocacGreatDoor
open Go.ChangeShapes Go.WideShapes Go.ChangeAt Go.RowKit KM
def Az3{P:Program}{t:TypeId}{qc:List V}(hu:P.underlying t=some .bool)(h:HasT P t qc):∃ b,qc=[.bool b]:=by
 cases h with
 | bool hu'=>exact⟨_,rfl⟩
 | _=>simp_all
structure PairP where
 z0:Bool
 t0:Nat
 a:List UInt8
 z1:Bool
 t1:Nat
 b:List UInt8
 z2:Bool
 t2:Nat
 c:List UInt8
 un:Bool
def PairP.row(x:PairP):List V:=[SL x.z0 x.t0 (Bs x.a),SL x.z1 x.t1 (Bs x.b),SL x.z2 x.t2 (Bs x.c),.bool x.un]
def A7f{qc:List V}(h:HasT Tryz.prog 24 qc):∃ x:PairP,qc=x.row/\x.a.length<=9223372036854775807/\x.b.length<=9223372036854775807/\x.c.length<=9223372036854775807:=by
 obtain⟨ps,rfl,hl,hT⟩:=Amf Tryz.underlying24 h;obtain⟨a,b,c,d,rfl⟩:=Ai8 hl;have h0:=hT 0 _ rfl;have h1:=hT 1 _ rfl;have h2:=hT 2 _ rfl;have h3:=hT 3 _ rfl;simp at h0 h1 h2 h3;obtain⟨z0,t0,l0,rfl,k0⟩:=Ai9 h0;obtain⟨z1,t1,l1,rfl,k1⟩:=Ai9 h1;obtain⟨z2,t2,l2,rfl,k2⟩:=Ai9 h2;obtain⟨un,rfl⟩:=Az3 Tryz.underlying4 h3;exact⟨⟨z0,t0,l0,z1,t1,l1,z2,t2,l2,un⟩,rfl,k0,k1,k2⟩
end Go.Proofs.YthlbbjcbmojocacGreatDoor
/- Items, out of what a row reads (beside the numbers of both versions). -/
namespace Go.Proofs.YthlbbjcbmojocacGreatDoor
open Go.ChangeShapes Go.WideShapes Go.ChangeAt Go.RowKit KM
def Ayl{P:Program}{t e:TypeId}{n:Nat}{qc:List V}(hu:P.underlying t=some (.array n e))(h:HasT P t qc):∃ parts:List (List V),qc=parts.flatten/\parts.length=n/\∀ i,i<n->HasT P e (parts.getD i []):=by
 cases h with
 | array parts hu' hl hT=>
  rw[hu]at hu';injection hu' with e;injection e with e1 e2;subst e1 e2;exact⟨parts,rfl,hl,hT⟩
 | _=>simp_all
def A7g{qc:List V}(h:HasT Tryz.prog 115 qc):∃ x:{ x:KM.Item // x.ok },qc=x.1.row:=by
 obtain⟨ps,rfl,hl,hT⟩:=Amf Tryz.underlying115 h;obtain⟨a,b,c,d,rfl⟩:=Ai8 hl;obtain⟨n1,l1,h1⟩:=Pz Tryz.underlying5 (hT 0 _ rfl);obtain⟨n2,l2,h2⟩:=Pz Tryz.underlying5 (hT 1 _ rfl);obtain⟨n3,l3,h3⟩:=Pz Tryz.underlying5 (hT 2 _ rfl);obtain⟨qs,h4,qQ,qy⟩:=Ayl Tryz.underlying113 (hT 3 _ rfl);obtain⟨a4,b4,c4,d4,rfl⟩:=Ai8 qQ;obtain⟨m1,k1,g1⟩:=Pz Tryz.underlying5 (qy 0 (by omega));obtain⟨m2,k2,g2⟩:=Pz Tryz.underlying5 (qy 1 (by omega));obtain⟨m3,k3,g3⟩:=Pz Tryz.underlying5 (qy 2 (by omega));obtain⟨m4,k4,g4⟩:=Pz Tryz.underlying5 (qy 3 (by omega));simp at h1 h2 h3 h4 g1 g2 g3 g4;subst h1 h2 h3 g1 g2 g3 g4;subst h4;exact⟨⟨⟨n1,n2,n3,m1,m2,m3,m4⟩,l1,l2,l3,k1,k2,k3,k4⟩,rfl⟩
def A2t{qc:List V}(h:HasT Tryz.prog 25 qc):∃ z u,∃ l:List KM.Item,qc=[SL z u (l.map KM.Item.row)]/\l.length<=9223372036854775807/\∀ x∈l,x.ok:=by
 obtain⟨z,u,l,rfl,hl⟩:=An5 (α:={ x:KM.Item // x.ok }) (f:=fun x=>x.1.row) Tryz.underlying25 h fun r hr=>A7g hr
 refine⟨z,u,l.map (·.1),by rw[Na];rfl,by simpa using hl,fun x hx=>?_⟩;obtain⟨y,-,rfl⟩:=Ct.1 hx;exact y.2
end Go.Proofs.YthlbbjcbmojocacGreatDoor
/- Walks: strings.Builder. -/
namespace Go.Proofs.YthlbbjcbmojocacGreatDoor.KM
open Go
def Abx(l:List UInt8):∀ r∈Bs l,r.length=1:=by
 intro r hr;obtain⟨c,_,rfl⟩:=Ct.1 hr;rfl
def Az4(a b:List UInt8):Bs (a++b)=Bs a++Bs b:=Dw ..
def Ar4(a:List UInt8):(Bs a).length=a.length:=Ap ..
def Al4:∀ l:List UInt8,Mf (Bs l)=some l
 | []=>rfl
 | c::l=>by
  have h:c.toNat<256:=c.toNat_lt;have:=Al4 l;simp only[Bs,Bb,Mf]at this ⊢;rw[if_pos (by omega),this];simp
def An6(l:List UInt8):Ah (Bs l).flatten=[]:=by
 refine G8 (Im fun r hr=>?_);obtain⟨c,_,rfl⟩:=Ct.1 hr;rfl
def A2u(ty:Nat)(x:V)(l:List UInt8)(σ:St):Au6 ty x (.str l) σ=D6 1 (1,ty) x (.lst 1 (Bs l)) σ:=rfl
def Az5{s:St}{j:Nat}{x:Ob}(h:s[j]?=some x):j<s.length:=(Ak.1 h).1
def BL(s:St)(b:Nat)(u:V)(l:List UInt8):Prop:=∃ p,s[b]?=some (.row [p,u] 219 0 0)/\(p=.nilp\/p=.ptr b 0 0)/\GW s 1 5 (b+1) u (Bs l)
def A7h{s:St}{b:Nat}{u:V}{l:List UInt8}(h:BL s b u l):∀ i∈u.refs,i<s.length:=by
 obtain⟨p,_,_,hg⟩:=h;exact H6 hg
def A7i{s J:St}{b:Nat}{u:V}{l:List UInt8}(h:BL s b u l):BL (s++J) b u l:=by
 obtain⟨p,h1,h2,h3⟩:=h;exact⟨p,Bx h1,h2,Gk h3⟩
def Iu{s:St}{cs:List V}{t:Nat}(h:Cl s)(hr:cs.all V.rowB=true):Cl (s++[.row cs t 0 0]):=I8 h (by simp only[Ob.refs,G8 hr];simp)
def A2v{s:St}{b:Nat}{u:V}{l:List UInt8}(t:List UInt8)(h:BL s b u l)(hc:Cl s)(hb:l.length+t.length<=100000000000000):
  ∃ s' u',Th TT PT 195 [.ptr b 0 0,.str t] s (.tup [.int .i64 (t.length:Int),.nili]) s'/\BL s' b u' (l++t)/\Cl s'/\s.length<=s'.length/\∀ j,j≠b->j ∉ u.refs->j<s.length->s'[j]?=s[j]?:=by
 have qL:=A7h h;obtain⟨p,hs,hp,hg⟩:=h;have qG:b<s.length:=Az5 hs
 have h1:∃ s1,Xb 219 [.ptr b 0 0] s=some (.tup [],s1)/\s1[b]?=some (.row [.ptr b 0 0,u] 219 0 0)/\GW s1 1 5 (b+1) u (Bs l)/\s1.length=s.length/\Cl s1/\∀ j,j≠b->s1[j]?=s[j]?:=by
  rcases hp with rfl | rfl
  .refine⟨s.set b (.row [.ptr b 0 0,u] 219 0 0),?_,by rw[B5 qG],Ft hg (by omega),by simp,Gc hc ?_,fun j hj=>by rw[Bh (by omega)]⟩
   .simp[Xb,hs]
   .intro i hi;simp only[Ob.refs,Ah,V.refs,B3,B8,Eo]at hi;rcases hi with rfl | hi
    .exact qG
    .exact qL i hi
  .exact⟨s,by simp[Xb,hs],hs,hg,rfl,hc,fun _ _=>rfl⟩
 obtain⟨s1,e1,q1,g1,l1,c1,f1⟩:=h1;obtain⟨u2,s2,e2,g2,l2,fo,f2⟩:=Hl (bytes:=1) (y:=.lst 1 (Bs t)) (ys:=Bs t) g1 (by omega) rfl (by omega) (Abx l) (Abx t) (by rw[Ar4,Ar4];omega);rw[<-Az4]at g2;have q2:=(f2 b (by omega)).trans q1;have c2:Cl s2/\∀ i∈u2.refs,i<s2.length:=⟨Ag1 g1 rfl e2 (An6 l) (An6 t) c1,H6 g2⟩
 have c3:Cl (s2.set b (.row [.ptr b 0 0,u2] 219 0 0)):=by
  refine Gc c2.1 ?_;intro i hi;simp only[Ob.refs,Ah,V.refs,B3,B8,Eo]at hi;rcases hi with rfl | hi
  .omega
  .exact c2.2 i hi
 refine⟨s2.set b (.row [.ptr b 0 0,u2] 219 0 0),u2,Ai3 T195 rfl ?_ rfl rfl (by simp;omega) c3,⟨.ptr b 0 0,by rw[B5 (by omega)],.inr rfl,Ft g2 (by omega)⟩,c3,by simp;omega,fun j hj hu hl=>?_⟩
 .simp only[go_sem];refine Ju (.spec T219 rfl rfl e1) ?_;simp only[go_sem,q1,A2u,e2,q2,Ok (Cu g2),Cu g2];exact⟨rfl,rfl⟩
 .rw[Bh (by omega),fo j ?_ (by omega),f1 j hj];intro i g hi qP;subst qP;exact hu (by rw[hi];simp[V.refs])
def Bce{s:St}{b:Nat}{u:V}{l:List UInt8}(h:BL s b u l):∃ s',Un 219 5 [.ptr b 0 0] s=some (.str l,s'):=by
 obtain⟨p,hs,hp,hg⟩:=h;rcases hg with⟨rfl,hl⟩ | ⟨hn,i,g,rfl,ho,qu⟩
 .have:l=[]:=by simpa[Bs] using hl
  subst this;exact⟨s,by simp[Un,hs]⟩
 .have qE:0<(Bs l).length:=List.length_pos_iff.2 hn;have qN:Fc 1 (Bs l).length (Bs l).flatten=Bs l:=S0 (Abx l);have qS:=Gw (Abx l);refine⟨s.set i .dead,?_⟩;simp only[Un,hs,ho];rw[if_pos ⟨trivial,trivial,qE⟩,if_pos ⟨trivial,trivial,by omega⟩,qN,Al4];rfl
/-! texts -/
attribute [go_sem] U9 Au Afw
/-! interleaveref01 -/
noncomputable def runOneG (f:AF) (args:List V):Option V:=(Jz (Mw TT PT 60) f args []).bind fun p=>Ex p.2 p.1
def Axv:((List.range 256).all fun n=>match runOneG af158 [.int .u8 n] with
  | some v=>v.eqv (.bool (Lz n))
  | none=>false)=true:=by kernel_rfl
def Aym(n:Nat)(h:n<256):Fn TT PT 158 [.int .u8 n] (.bool (Lz n)):=by
 have:=Bp.1 Axv n (E1.2 h)
 split at this
 .rename_i v hv;have e:=Wc this;subst e;exact Pm Qj T158 rfl rfl hv
 .cases this
def Ayn:((List.range 256).all fun n=>match runOneG af160 [.int .u8 n] with
  | some v=>v.eqv (.bool (Mz n))
  | none=>false)=true:=by kernel_rfl
def A2w(n:Nat)(h:n<256):Fn TT PT 160 [.int .u8 n] (.bool (Mz n)):=by
 have:=Bp.1 Ayn n (E1.2 h)
 split at this
 .rename_i v hv;have e:=Wc this;subst e;exact Pm Qj T160 rfl rfl hv
 .cases this
def kwRows:List (List V):=kwL.map fun k=>[V.str k]
def Axw:Fn TT PT 186 [] (.lst 1 kwRows):=by
 have:(match runOneG af186 [] with
  | some v=>v.eqv (.lst 1 kwRows)
  | none=>false)=true:=by kernel_rfl
 split at this
 .rename_i v hv;have e:=Wc this;subst e;exact Pm Qj T186 rfl rfl hv
 .cases this
def Atx(l:List UInt8):Fn TT PT 159 [.str l] (.bool (Hv l)):=by
 have qo:kwRows.length=22:=rfl
 have qr:∀ i,i<22->kwRows[i]?=some [.str (kwL.getD i [])]:=fun i hi=>by
  have hl:i<kwL.length:=hi;unfold kwRows;rw[Aj,Bc hl,Av,Bc hl];rfl
 have hk:=Axw;generalize kwRows=g at qo qr hk;refine Bo T159 rfl ?_;simp only[go_sem];refine Ad hk rfl ?_;simp only[go_sem];refine Bn (fun i=>22 - i) (fun i:Nat=>[(0,.str l),(3,.lst 1 g),(4,.int .i64 i)]) (fun _=>[]) (fun i=>i<=22/\∀ j,j<i->(l==kwL.getD j [])=false) ?_ 0 ⟨by omega,fun j hj=>by omega⟩;rintro i ⟨hi,qv⟩ ih;refine Bl Bb2 ?_;rcases Be i 22 with h | h
 .have qe:decide ((i:Int)<22)=true:=by simp;omega
  simp only[go_sem,qo,qe,qr i h];refine Ov (fun h3=>?_) (fun h3=>?_)
  .simp only[go_sem];refine An rfl ?_;unfold Hv;rw[N5.2 ⟨kwL.getD i [],?_,?_⟩]
   .have hl:i<kwL.length:=h;rw[Av,Bc hl];exact Fy hl
   .rw[<-h3,Bool.beq_comm]
  .simp only[go_sem,A2 (show i<9223372036854775807 by omega)];refine As (ih (i+1) (by omega) ⟨by omega,fun j hj=>?_⟩) rfl;by_cases e:j=i
   .rw[e,<-h3,Bool.beq_comm]
   .exact qv j (by omega)
 .have qe:decide ((i:Int)<22)=false:=by simp;omega
  simp only[go_sem,qo,qe];refine An rfl ?_
  symm
  congr 1;unfold Hv;rw[<-Xr];intro ha;obtain⟨k,hk,he⟩:=N5.1 ha;obtain⟨j,hj,rfl⟩:=Qq hk;have qU:j<22:=hj;have:=qv j (by omega);rw[Av,Bc hj]at this;exact absurd he (by simpa using this)
def Aht{l:List UInt8}(h0:0<l.length):((Lz (l.getD 0 0).toNat=true)/\∀ j,j<l.length->Mz (l.getD j 0).toNat=true)↔∀ j,j<l.length->N3 l j=true:=by
 have qK:∀ n,Mz n=true↔Lz n=true\/(n=95\/R6 n=true):=fun n=>by
  unfold Mz;simp only[Il,beq_iff_eq];constructor
  .rintro(h | h | h)
   .exact .inl h
   .exact .inr (.inr h)
   .exact .inr (.inl h)
  .rintro(h | h | h)
   .exact .inl h
   .exact .inr (.inr h)
   .exact .inr (.inl h)
 have nm:∀ j,N3 l j=true↔Lz (l.getD j 0).toNat=true\/(0<j/\((l.getD j 0).toNat=95\/R6 (l.getD j 0).toNat=true)):=fun j=>by
  unfold N3;simp only[Il,Af,decide_eq_true_eq,beq_iff_eq]
 constructor
 .rintro⟨h1,h2⟩ j hj;rw[nm];have:=(qK _).1 (h2 j hj);by_cases e:j=0
  .subst e;exact .inl h1
  .exact this.imp id fun h=>⟨by omega,h⟩
 .intro h;refine⟨?_,fun j hj=>?_⟩
  .have:=(nm 0).1 (h 0 h0);exact this.elim id fun h=>by omega
  .have:=(nm j).1 (h j hj);exact(qK _).2 (this.imp id fun h=>h.2)
def Tg(l:List UInt8):Fn TT PT 130 [.str l] (.bool (Cc l)):=by
 refine Bo T130 rfl ?_;cases h0:decide ((l.length:Int)<1);rotate_left
 .simp only[go_sem,h0];exact An rfl (by rw[A61 (by simp at h0;omega)])
 have qx:0<l.length:=by simp at h0;omega
 cases h1:decide ((12:Int)<(l.length:Int));rotate_left
 .simp only[go_sem,h0,h1];exact An rfl (by rw[A62 (by simp at h1;omega)])
 have hg:l[0]?=some (l.getD 0 0):=by rw[Av,Bc qx];rfl
 have qg:=Aym (l.getD 0 0).toNat (l.getD 0 0).toNat_lt
 cases h2:Lz (l.getD 0 0).toNat
 .rw[h2]at qg;simp only[go_sem,h0,h1,hg];refine Ad qg rfl ?_;simp only[go_sem];refine An rfl ?_;rw[show Cc l=false from ?_];have:=mt (Aht qx).2 (by rw[h2];simp);rw[<-Xr];intro hn;unfold Cc at hn;simp only[Af,Bp,E1]at hn;exact this hn.2.2.2
 rw[h2]at qg;cases h3:Hv l;rotate_left
 .have hk:=Atx l;rw[h3]at hk;simp only[go_sem,h0,h1,hg];refine Ad qg rfl ?_;simp only[go_sem];refine Ad hk rfl ?_;simp only[go_sem];exact An rfl (by rw[A63 h3])
 have hk:=Atx l;rw[h3]at hk;simp only[go_sem,h0,h1,hg];refine Ad qg rfl ?_;simp only[go_sem];refine Ad hk rfl ?_;simp only[go_sem];refine Bn (fun i=>l.length - i) (fun i:Nat=>[(0,.str l),(3,.int .i64 i)]) (fun _=>[]) (fun i=>i<=l.length/\∀ j,j<i->Mz (l.getD j 0).toNat=true) ?_ 0 ⟨by omega,fun j hj=>by omega⟩;rintro i ⟨hi,qv⟩ ih;refine Bl Bbx ?_;have qR:l.length<=12:=by simp at h1;omega
 rcases Be i l.length with h | h
 .have qI:l[i]?=some (l.getD i 0):=by rw[Av,Bc h];rfl
  have qf:=A2w (l.getD i 0).toNat (l.getD i 0).toNat_lt
  cases h4:Mz (l.getD i 0).toNat
  .rw[h4]at qf;simp only[go_sem,A0 h,qI];refine Ad qf rfl ?_;simp only[go_sem];refine An rfl ?_;rw[show Cc l=false from ?_];rw[<-Xr];intro hn;unfold Cc at hn;simp only[Af,Bp,E1]at hn;have:=((Aht qx).2 hn.2.2.2).2 i h;rw[h4]at this;cases this
  .rw[h4]at qf;simp only[go_sem,A0 h,qI];refine Ad qf rfl ?_;simp only[go_sem,A2 (show i<9223372036854775807 by omega)];refine As (ih (i+1) (by omega) ⟨by omega,fun j hj=>?_⟩) rfl;by_cases e:j=i
   .rw[e];exact h4
   .exact qv j (by omega)
 .simp only[go_sem,Bq h];refine An rfl ?_;rw[Ats (by omega) qR h3 ((Aht qx).1 ⟨h2,fun j hj=>qv j (by omega)⟩)]
/-! entries -/
/-! interleaveref39 -/
/-! changes -/
/-! a further run -/
def A7j{T:Nat->Option AF}{pr:Nat->Option (List V->Option V)}{f p:Nat}{res:List AR}{body:AC}{vs:List V}{v:V}{σ':St}(hT:T f=some ⟨p,res,false,body,none⟩)(hl:vs.length=p)
  (h:W T pr [.c body] (Dd 0 vs) [] (Hd fun e' σ1=>Cd e' σ1 res=some v/\σ1=σ')) (hr:∀ i∈v.refs,i<σ'.length) (ho:Cm v=true) (hc:Cl σ'):FnO T pr f vs v σ':=by
 obtain⟨F,h1,h2,h3⟩:=To hT hl h hr ho (Au _) hc;have e:=h1.symm.trans hT;cases e;exact⟨_,hT,rfl,rfl,h3⟩
def A7k{σ:St}{args:List V}(h:Ah args=[])(σ0:St):own σ args σ0=σ++σ0.map (Ob.ren (·+σ.length)):=by
 unfold own;rw[Yf h];rfl
def Acd{σ:St}{m e lo:Nat}{u:V}{xs:List (List V)}(h:GW σ m e lo u xs):Cm u=true:=by
 rcases h with⟨rfl,rfl⟩ | ⟨hn,i,g,rfl,ho,qu⟩<;>rfl
mutual
theorem A2x(ρ:Nat->Nat):∀ v:V,(v.ren ρ).refs=v.refs.map ρ
 | .ptr i g o=>rfl
 | .sl i g o l m w=>rfl
 | .mp i=>rfl
 | .fn f a c=>by simp only[V.ren,V.refs,X6 ρ a,X6 ρ c,Dw]
 | .agg cs=>by simp only[V.ren,V.refs,X6 ρ cs]
 | .tup cs=>by simp only[V.ren,V.refs,X6 ρ cs]
 | .und=>rfl
 | .skp=>rfl
 | .bool _=>rfl
 | .int _ _=>rfl
 | .str _=>rfl
 | .nili=>rfl
 | .ifc=>rfl
 | .nils=>rfl
 | .nilp=>rfl
 | .nilf=>rfl
 | .lst _ _=>rfl
 | .imm _ _=>rfl
theorem X6(ρ:Nat->Nat):∀ vs:List V,Ah (Fv ρ vs)=(Ah vs).map ρ
 | []=>rfl
 | v::r=>by simp only[Fv,Ah,A2x ρ v,X6 ρ r,Dw]
end
def Bcf{T:Nat->Option AF}{pr:Nat->Option (List V->Option V)}{f p:Nat}{res:List AR}{body:AC}{vs:List V}{P:V->St->Prop}(hT:T f=some ⟨p,res,false,body,none⟩)(hl:vs.length=p)
  (h:W T pr [.c body] (Dd 0 vs) [] (Hd fun e' σ1=>∃ v,Cd e' σ1 res=some v/\P v σ1)) (hP:∀ v s,P v s->Cl s/\Cm v=true/\∀ i∈v.refs,i<s.length):∃ v σ',FnO T pr f vs v σ'/\P v σ':=by
 obtain⟨e',σ1,hE,v,h1,h2⟩:=h;obtain⟨q1,q2,q3⟩:=hP _ _ h2;exact⟨v,σ1,A7j hT hl ⟨e',σ1,hE,h1,rfl⟩ q3 q2 q1,h2⟩
def Aii{σ σ':St}{m e lo:Nat}{u:V}{xs:List (List V)}(h:GW σ m e lo u xs)(hk:∀ j,j<σ.length->σ'[j]?=σ[j]?):GW σ' m e lo u xs:=by
 rcases h with h | ⟨hn,i,g,h,ho,qu⟩
 .exact .inl h
 .exact .inr ⟨hn,i,g,h,(hk i (Ak.1 ho).1).trans ho,qu⟩
def Aeh{σ:St}{m e lo Li:Nat}{u:V}{xs:List (List V)}(h:GW σ m e lo u xs)(hl:Li<=lo):GW σ m e Li u xs:=by
 rcases h with h | ⟨hn,i,g,h,ho,qu⟩
 .exact .inl h
 .exact .inr ⟨hn,i,g,h,ho,by omega⟩
def Bcg{σ:St}{m e lo:Nat}{u:V}{xs:List (List V)}(h:GW σ m e lo u xs):Mx u=some (.int .i64 (xs.length:Int)):=by
 rcases h with⟨rfl,rfl⟩ | ⟨hn,i,g,rfl,ho,qu⟩<;>rfl
