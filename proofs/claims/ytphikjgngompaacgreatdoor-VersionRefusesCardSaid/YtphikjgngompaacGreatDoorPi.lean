/- Walks: which values are baselines; the law BaselineValid. -/
import Derived.Test.YtphikjgngompaacGreatDoorLi
set_option linter.all false
namespace Go.Proofs.YtphikjgngompaacGreatDoor.KM
open Go
theorem V4{n:Int}{l:List Ent}(h:n<0\/1073741824<n\/64<l.length):Hr n l=false:=by
 rw[<-X3];intro hv;unfold Hr at hv
 grind
theorem Yl{n:Int}{l:List Ent}{i:Nat}(hi:i<l.length)(h:Hu l i=false):Hr n l=false:=by
 grind[Hr,A7i]
theorem Aqf{n:Int}{l:List Ent}(h1:0<=n)(h2:n<=1073741824)(h3:l.length<=64)(h:∀ i,i<l.length->Hu l i=true):Hr n l=true:=by
 grind[Hr,Asi]
theorem Ak8{l:List Ent}{x:Ent}(h:l[0]?=some x):Hu l 0=Da x:=by
 grind[Hu]
theorem Aag{l:List Ent}{j:Nat}{p x:Ent}(hp:l[j]?=some p)(h:l[j+1]?=some x):Hu l (j+1)=(Da x&&decide (Bs p x<0)):=by
 grind[Hu]
def Ayp{j:Nat}(h:j<9223372036854775807):IntKind.i64.wrap (((j+1:Nat):Int) - 1)=(j:Int):=by
 grind[Bo]
def As3(z:Bool)(t:Nat)(n:Int)(l:List Ent)(ho:I6 l):Fn TT PT 16 [.agg [iV n,SL z t (l.map Ent.row)]] (.bool (Hr n l)):=by
 refine Bg T16 rfl ?_;cases h1:decide (n<0);rotate_left
 .simp only[go_sem,h1];exact Ae rfl (by grind[V4])
 cases h2:decide (1073741824<n);rotate_left
 .simp only[go_sem,h1,h2];exact Ae rfl (by grind[V4])
 cases h3:decide ((64:Int)<(l.length:Int));rotate_left
 .simp only[go_sem,h1,h2,Av,h3];exact Ae rfl (by grind[V4])
 simp only[go_sem,h1,h2,Av,h3];simp at h1 h2 h3
 refine Bb (α:=Nat × St) (fun a=>l.length - a.1) (fun a=>[(1,.ptr 0 0 0),(20,SL z t (l.map Ent.row)),(21,iV l.length),(22,iV a.1)]) (fun a=>.row [iV n,SL z t (l.map Ent.row)] 27 0 0::a.2)
  (fun a=>a.1<=l.length/\∀ j,j<a.1->Hu l j=true) ?_ (0,[]) ⟨by simp,fun j hj=>by omega⟩
 rintro⟨i,s⟩ ⟨hi,qp⟩ ih;simp only at hi qp ih;refine Ay Bkc ?_;rcases Az i l.length with h | h
 .obtain⟨x,hx,-,hm⟩:=Bk h;have hv:=A31 x;cases hz:decide ((0:Int)<(i:Int))
  .obtain rfl:i=0:=by grind
   have h0:decide ((0:Int)<(l.length:Int))=true:=Aq h;simp only[go_sem,h0,Ak,hx];refine Ad AD ?_;simp only[go_sem];refine Ab hv AB ?_;cases hb:Da x
   .simp only[go_sem];exact Ae rfl (by grind[Yl,Ak8])
   .simp only[go_sem];refine Ai (ih (1,_) AA ⟨by omega,fun j hj=>?_⟩) rfl;obtain rfl:j=0:=by omega
    grind[Ak8]
  .obtain⟨j,rfl⟩:∃ j,i=j+1:=⟨i - 1,by grind⟩;obtain⟨p,hp,-,qt⟩:=Bk (show j<l.length by omega);have hl:=Adu p x (ho p qt) (ho x hm);have hd:=Ayp (show j<9223372036854775807 by omega);cases hc:decide (Bs p x<0)
   .rw[hc]at hl;simp only[go_sem,Aq h,Ak,hx];refine Ad AD ?_;simp only[go_sem,hz,hd,Ak,hp];refine Ax hl AB ?_;simp only[go_sem];exact Ae rfl (by grind[Yl,Aag])
   .rw[hc]at hl;simp only[go_sem,Aq h,Ak,hx];refine Ad AD ?_;simp only[go_sem,hz,hd,Ak,hp];refine Ax hl AB ?_;simp only[go_sem];refine Ab hv AB ?_;cases hb:Da x
    .simp only[go_sem];exact Ae rfl (by grind[Yl,Aag])
    .simp only[go_sem,Aw (show j+1<9223372036854775807 by omega)];refine Ai (ih (j+2,_) AA ⟨by omega,fun j' qW=>?_⟩) rfl
     grind[Aag]
 .simp only[go_sem,Bj h];exact Ae rfl (by grind[Aqf])
/-! interleaveref39 -/
def Sj(x:Ent)(n:Int)(l:List Ent)(qp:x.sites.all Eb=false->Hr n l=false)(L:V)(N I:Int)(s0:Ob)(k:List It)
  (h:x.sites.all Eb=true->∀ s,W TT PT k [(1,.ptr 0 0 0),(23,L),(24,iV N),(25,iV I),(102,x.sl),(103,iV x.sites.length),(104,iV x.sites.length)] (s0::s) (FQ [AR.tmp 2] (.bool (Hr n l)))) (hn:x.sites.length<=4) (s:St) :
  W TT PT (.l [1,23,24,25,102,103,104] lp23_0::.b 2::k) [(1,.ptr 0 0 0),(23,L),(24,iV N),(25,iV I),(102,x.sl),(103,iV x.sites.length),(104,iV 0)] (s0::s) (FQ [AR.tmp 2] (.bool (Hr n l))):=by
 refine Bb (α:=Nat × St) (fun a=>x.sites.length - a.1) (fun a=>[(1,.ptr 0 0 0),(23,L),(24,iV N),(25,iV I),(102,x.sl),(103,iV x.sites.length),(104,iV a.1)]) (fun a=>s0::a.2)
  (fun a=>a.1<=x.sites.length/\∀ (j:Nat) (k:Bp),j<a.1->x.sites[j]?=some k->Eb k=true) ?_ (0,s) ⟨by simp,fun j k hj=>by omega⟩
 rintro⟨i,s⟩ ⟨hi,qu⟩ ih;simp only at hi qu ih;refine Ay Bkg ?_;rcases Az i x.sites.length with h1 | h1
 .obtain⟨k,hx,-,-⟩:=Bk h1;have hv:=A7k k;simp only[Bl]at hv;simp only[go_sem,Aq h1,Ash,Ak,hx,Bl];refine Ab hv rfl ?_;cases hb:Eb k
  .simp only[go_sem];refine Ae rfl ?_
   grind
  .simp only[go_sem,Aw (show i<9223372036854775807 by omega)];refine Ai (ih (i+1,_) AA ⟨by omega,fun j k' hj qY=>?_⟩) rfl
   grind
 .obtain rfl:i=x.sites.length:=by omega
  simp only[go_sem,Bj h1];refine h ?_ s;rw[Cc];intro c hc;obtain⟨j,hj,rfl⟩:=Mu hc
  simp_all
def A79{l:List Ent}{i:Nat}{x:Ent}(hx:l[i]?=some x)(h:Da x=false):Hu l i=false:=by
 grind[Hu]
theorem R7{x:Ent}(h:P4 x=false):Da x=false:=by grind[Da]
def R8{x:Ent}(h:x.sites.all Eb=false):Da x=false:=by grind[Da]
def Ao4(k:Int):((k==1)=true/\(k==3)=false/\(k==2)=false/\(k==4)=false)\/((k==1)=false/\(k==3)=true/\(k==2)=false/\(k==4)=false)\/((k==1)=false/\(k==3)=false/\(k==2)=false/\(k==4)=true) \/
  ((k==1)=false/\(k==3)=false/\(k==2)=true/\(k==4)=false)\/((k==1)=false/\(k==3)=false/\(k==2)=false/\(k==4)=false):=by
 grind
set_option maxHeartbeats 4000000 in
def Aqg(z:Bool)(t:Nat)(n:Int)(l:List Ent)(ho:I6 l):Fn TT PT 23 [.agg [iV n,SL z t (l.map Ent.row)]] (.bool (Hr n l)):=by
 refine Bg T23 rfl ?_;cases h1:decide (n<0);rotate_left
 .simp only[go_sem,h1];exact Ae rfl (by grind[V4])
 cases h2:decide (1073741824<n);rotate_left
 .simp only[go_sem,h1,h2];exact Ae rfl (by grind[V4])
 cases h3:decide ((64:Int)<(l.length:Int));rotate_left
 .simp only[go_sem,h1,h2,Av,h3];exact Ae rfl (by grind[V4])
 simp only[go_sem,h1,h2,Av,h3];simp at h1 h2 h3
 refine Bb (α:=Nat × St) (fun a=>l.length - a.1) (fun a=>[(1,.ptr 0 0 0),(23,SL z t (l.map Ent.row)),(24,iV l.length),(25,iV a.1)]) (fun a=>.row [iV n,SL z t (l.map Ent.row)] 27 0 0::a.2)
  (fun a=>a.1<=l.length/\∀ j,j<a.1->Hu l j=true) ?_ (0,[]) ⟨by simp,fun j hj=>by omega⟩
 rintro⟨i,s⟩ ⟨hi,qp⟩ ih;simp only at hi qp ih;refine Ay Bkh ?_;rcases Az i l.length with h | h
 .obtain⟨x,hx,-,hm⟩:=Bk h;simp only[go_sem,Aq h,Ak,hx];have qd:Da x=false->Hr n l=false:=fun hb=>Yl h (A79 hx hb)
  have qc:Da x=true->Hu l i=true->∀ s',W TT PT [.b 1,.c (.reg [112] [o 112 (.bin .add (.t 25) (.k (iV 1))),o 25 (.mov (.t 112))]),.l [1,23,24,25] lp23_1,.b 0,.c (.seq (.reg [] [o 2 (.mov (.k (.bool true)))]) .ret)]
    [(1,.ptr 0 0 0),(23,SL z t (l.map Ent.row)),(24,iV l.length),(25,iV i),(102,x.sl),(103,iV x.sites.length),(104,iV x.sites.length)] (.row [iV n,SL z t (l.map Ent.row)] 27 0 0::s') (FQ [AR.tmp 2] (.bool (Hr n l))):=by
   intro _ qh s';simp only[go_sem,Aw (show i<9223372036854775807 by omega)];refine Ai (ih (i+1,s') AA ⟨by omega,fun j hj=>?_⟩) rfl;by_cases e:j=i
   .grind
   .grind
  cases hz:decide ((0:Int)<(i:Int))
  .have qV:i=0:=by simp at hz;omega
   have qh:Da x=true->Hu l i=true:=fun hb=>by grind[Ak8]
   cases m1:decide (x.seen<1);rotate_left
   .refine Ad AD ?_;simp only[go_sem,hz,m1];exact Ae rfl (by grind[R7,Na])
   cases m2:decide (1073741824<x.seen);rotate_left
   .refine Ad AD ?_;simp only[go_sem,hz,m1,m2];exact Ae rfl (by grind[R7,Na])
   cases m3:decide (x.missed<0);rotate_left
   .refine Ad AD ?_;simp only[go_sem,hz,m1,m2,m3];exact Ae rfl (by grind[R7,Na])
   cases m4:decide (7<x.missed);rotate_left
   .refine Ad AD ?_;simp only[go_sem,hz,m1,m2,m3,m4];exact Ae rfl (by grind[R7,Na])
   have qs:P4 x=true:=by simp at m1 m2 m3 m4;exact Ajw AA AA AA AA
   rcases Ao4 x.kind with⟨q1,q3,q2,q4⟩ | ⟨q1,q3,q2,q4⟩ | ⟨q1,q3,q2,q4⟩ | ⟨q1,q3,q2,q4⟩ | ⟨q1,q3,q2,q4⟩
   .cases e2:((x.sites.length:Int)==2)
    .refine Ad AD ?_;simp only[go_sem,hz,m1,m2,m3,m4,q1,q3,q2,q4,e2];exact Ae rfl (by grind[Hp,Hs])
    .refine Ad AD ?_;simp only[go_sem,hz,m1,m2,m3,m4,q1,q3,q2,q4,e2];have qe:Hc x.kind x.sites.length=true:=Nb (by grind);have qa:x.sites.all Eb=true->Da x=true:=fun ha=>by grind[Da]
     exact Sj x n l (fun hb=>qd (R8 hb)) _ _ _ _ _ (fun ha s'=>qc (qa ha) (qh (qa ha)) s') (Qo qe).1 _
   .cases e2:((x.sites.length:Int)==2)
    .refine Ad AD ?_;simp only[go_sem,hz,m1,m2,m3,m4,q1,q3,q2,q4,e2];exact Ae rfl (by grind[Hp,Hs])
    .refine Ad AD ?_;simp only[go_sem,hz,m1,m2,m3,m4,q1,q3,q2,q4,e2];have qe:Hc x.kind x.sites.length=true:=Nb (by grind);have qa:x.sites.all Eb=true->Da x=true:=fun ha=>by grind[Da]
     exact Sj x n l (fun hb=>qd (R8 hb)) _ _ _ _ _ (fun ha s'=>qc (qa ha) (qh (qa ha)) s') (Qo qe).1 _
   .cases e2:((x.sites.length:Int)==4)
    .refine Ad AD ?_;simp only[go_sem,hz,m1,m2,m3,m4,q1,q3,q2,q4,e2];exact Ae rfl (by grind[Hp,Hs])
    .refine Ad AD ?_;simp only[go_sem,hz,m1,m2,m3,m4,q1,q3,q2,q4,e2];have qe:Hc x.kind x.sites.length=true:=Nb (by grind);have qa:x.sites.all Eb=true->Da x=true:=fun ha=>by grind[Da]
     exact Sj x n l (fun hb=>qd (R8 hb)) _ _ _ _ _ (fun ha s'=>qc (qa ha) (qh (qa ha)) s') (Qo qe).1 _
   .cases e2:decide ((2:Int)<=(x.sites.length:Int))
    .refine Ad AD ?_;simp only[go_sem,hz,m1,m2,m3,m4,q1,q3,q2,q4,e2];exact Ae rfl (by grind[Hp,Hs])
    .cases e4:decide ((x.sites.length:Int)<=4)
     .refine Ad AD ?_;simp only[go_sem,hz,m1,m2,m3,m4,q1,q3,q2,q4,e2,e4];exact Ae rfl (by grind[Hp,Hs])
     .refine Ad AD ?_;simp only[go_sem,hz,m1,m2,m3,m4,q1,q3,q2,q4,e2,e4];have qe:Hc x.kind x.sites.length=true:=Nb (by grind);have qa:x.sites.all Eb=true->Da x=true:=fun ha=>by grind[Da]
      exact Sj x n l (fun hb=>qd (R8 hb)) _ _ _ _ _ (fun ha s'=>qc (qa ha) (qh (qa ha)) s') (Qo qe).1 _
   .refine Ad AD ?_;simp only[go_sem,hz,m1,m2,m3,m4,q1,q3,q2,q4];exact Ae rfl (by grind[Hp,Hs])
  .obtain⟨j,qI⟩:∃ j,i=j+1:=⟨i - 1,by grind⟩;obtain⟨p,hp,-,qt⟩:=Bk (show j<l.length by omega);have qb:=Adt p x (ho p qt) (ho x hm);have hd:IntKind.i64.wrap ((i:Int) - 1)=(j:Int):=by subst qI;exact Ayp AA
   cases hc:decide (0<=Bs p x);rotate_left
   .refine Ad AD ?_;simp only[go_sem,hz,hd,Ak,hp];refine Ax qb AB ?_;simp only[go_sem,hc];exact Ae rfl (by rw[Yl h (by simp_all [Aag])])
   have qh:Da x=true->Hu l i=true:=fun hb=>by simp_all [Aag]
   cases m1:decide (x.seen<1);rotate_left
   .refine Ad AD ?_;simp only[go_sem,hz,hd,Ak,hp];refine Ax qb AB ?_;simp only[go_sem,hc,m1];exact Ae rfl (by grind[R7,Na])
   cases m2:decide (1073741824<x.seen);rotate_left
   .refine Ad AD ?_;simp only[go_sem,hz,hd,Ak,hp];refine Ax qb AB ?_;simp only[go_sem,hc,m1,m2];exact Ae rfl (by grind[R7,Na])
   cases m3:decide (x.missed<0);rotate_left
   .refine Ad AD ?_;simp only[go_sem,hz,hd,Ak,hp];refine Ax qb AB ?_;simp only[go_sem,hc,m1,m2,m3];exact Ae rfl (by grind[R7,Na])
   cases m4:decide (7<x.missed);rotate_left
   .refine Ad AD ?_;simp only[go_sem,hz,hd,Ak,hp];refine Ax qb AB ?_;simp only[go_sem,hc,m1,m2,m3,m4];exact Ae rfl (by grind[R7,Na])
   have qs:P4 x=true:=by simp at m1 m2 m3 m4;exact Ajw AA AA AA AA
   rcases Ao4 x.kind with⟨q1,q3,q2,q4⟩ | ⟨q1,q3,q2,q4⟩ | ⟨q1,q3,q2,q4⟩ | ⟨q1,q3,q2,q4⟩ | ⟨q1,q3,q2,q4⟩
   .cases e2:((x.sites.length:Int)==2)
    .refine Ad AD ?_;simp only[go_sem,hz,hd,Ak,hp];refine Ax qb AB ?_;simp only[go_sem,hc,m1,m2,m3,m4,q1,q3,q2,q4,e2];exact Ae rfl (by grind[Hp,Hs])
    .refine Ad AD ?_;simp only[go_sem,hz,hd,Ak,hp];refine Ax qb AB ?_;simp only[go_sem,hc,m1,m2,m3,m4,q1,q3,q2,q4,e2];have qe:Hc x.kind x.sites.length=true:=Nb (by grind);have qa:x.sites.all Eb=true->Da x=true:=fun ha=>by grind[Da]
     exact Sj x n l (fun hb=>qd (R8 hb)) _ _ _ _ _ (fun ha s'=>qc (qa ha) (qh (qa ha)) s') (Qo qe).1 _
   .cases e2:((x.sites.length:Int)==2)
    .refine Ad AD ?_;simp only[go_sem,hz,hd,Ak,hp];refine Ax qb AB ?_;simp only[go_sem,hc,m1,m2,m3,m4,q1,q3,q2,q4,e2];exact Ae rfl (by grind[Hp,Hs])
    .refine Ad AD ?_;simp only[go_sem,hz,hd,Ak,hp];refine Ax qb AB ?_;simp only[go_sem,hc,m1,m2,m3,m4,q1,q3,q2,q4,e2];have qe:Hc x.kind x.sites.length=true:=Nb (by grind);have qa:x.sites.all Eb=true->Da x=true:=fun ha=>by grind[Da]
     exact Sj x n l (fun hb=>qd (R8 hb)) _ _ _ _ _ (fun ha s'=>qc (qa ha) (qh (qa ha)) s') (Qo qe).1 _
   .cases e2:((x.sites.length:Int)==4)
    .refine Ad AD ?_;simp only[go_sem,hz,hd,Ak,hp];refine Ax qb AB ?_;simp only[go_sem,hc,m1,m2,m3,m4,q1,q3,q2,q4,e2];exact Ae rfl (by grind[Hp,Hs])
    .refine Ad AD ?_;simp only[go_sem,hz,hd,Ak,hp];refine Ax qb AB ?_;simp only[go_sem,hc,m1,m2,m3,m4,q1,q3,q2,q4,e2];have qe:Hc x.kind x.sites.length=true:=Nb (by grind);have qa:x.sites.all Eb=true->Da x=true:=fun ha=>by grind[Da]
     exact Sj x n l (fun hb=>qd (R8 hb)) _ _ _ _ _ (fun ha s'=>qc (qa ha) (qh (qa ha)) s') (Qo qe).1 _
   .cases e2:decide ((2:Int)<=(x.sites.length:Int))
    .refine Ad AD ?_;simp only[go_sem,hz,hd,Ak,hp];refine Ax qb AB ?_;simp only[go_sem,hc,m1,m2,m3,m4,q1,q3,q2,q4,e2];exact Ae rfl (by grind[Hp,Hs])
    .cases e4:decide ((x.sites.length:Int)<=4)
     .refine Ad AD ?_;simp only[go_sem,hz,hd,Ak,hp];refine Ax qb AB ?_;simp only[go_sem,hc,m1,m2,m3,m4,q1,q3,q2,q4,e2,e4];exact Ae rfl (by grind[Hp,Hs])
     .refine Ad AD ?_;simp only[go_sem,hz,hd,Ak,hp];refine Ax qb AB ?_;simp only[go_sem,hc,m1,m2,m3,m4,q1,q3,q2,q4,e2,e4];have qe:Hc x.kind x.sites.length=true:=Nb (by grind);have qa:x.sites.all Eb=true->Da x=true:=fun ha=>by grind[Da]
      exact Sj x n l (fun hb=>qd (R8 hb)) _ _ _ _ _ (fun ha s'=>qc (qa ha) (qh (qa ha)) s') (Qo qe).1 _
   .refine Ad AD ?_;simp only[go_sem,hz,hd,Ak,hp];refine Ax qb AB ?_;simp only[go_sem,hc,m1,m2,m3,m4,q1,q3,q2,q4];exact Ae rfl (by grind[Hp,Hs])
 .simp only[go_sem,Bj h];exact Ae rfl (by grind[Aqf])
def Aah{z:Bool}{t:Nat}{xs:List (List V)}(h:xs≠[]):SL z t xs=.lst t xs:=by grind[SL]
def Axf{σ:St}{m e bytes:Nat}{y:V}{ys:List (List V)}(hy:E5 σ m y=some ys)(hn:ys≠[])(hm:0<m)(hl:∀ r∈ys,r.length=m)(hb:ys.length*bytes<=140737488355328):
  Dx bytes (m,e) (.lst 1 []) y σ=some (.sl σ.length 0 0 ys.length m true,σ++[.row ys.flatten e 0 0]):=by
 simp_all [Dx,Jm]
def A8a(z:Bool)(t:Nat)(l:List Bp)(hn:l≠[])(hb:l.length<=1000000):Fn TT PT 18 [SL z t (l.map Bl)] (SL true 0 (l.map Bl)):=by
 have qo:l.map Bl≠[]:=by simpa using hn
 have ha:=Axf (σ:=[]) (m:=3) (e:=57) (bytes:=40) (y:=.lst t (l.map Bl)) (ys:=l.map Bl) rfl qo AA (Le l) (by grind);rw[Aah qo];refine Bg T18 rfl ?_;simp only[go_sem,ha];exact Sn (m:=3) (e:=57) (lo:=0) (.inr ⟨qo,0,0,rfl,rfl,Am _⟩) AA (Le l) (Ql l)
def Qz{T:Nat->Option AF}{pr:Nat->Option (List V->Option V)}{f p:Nat}{res:List AR}{body:AC}{vs:List V}{v:V}{σ:St}{P:St->Prop}(hT:T f=some ⟨p,res,true,body,none⟩)(hl:vs.length=p)
  (h:W T pr [.c body] (C7 0 vs) σ (Hd fun e' σ1=>Ca e' σ1 res=some v/\P σ1)) (hr:v.refs=[]) (ho:Cd v=true) (hP:∀ s,P s->Cl s/\σ.length<=s.length):∃ σ',Th T pr f vs σ v σ'/\P σ':=by
 obtain⟨e',σ1,hE,h1,h2⟩:=h;exact⟨σ1,Aee hT hl ⟨e',σ1,hE,h1,rfl⟩ hr ho (hP _ h2).2 (hP _ h2).1,h2⟩
def Ui{s:St}{cs:List V}{t:Nat}(h:Cl s)(hr:cs.all V.rowB=true):Cl (s++[.row cs t 0 0]):=Mk h (by simp only[Ob.refs,F0 hr];simp)
def okV(x:Ent):Prop:=Da x=true
def An9{n:Int}{l:List Ent}(h:Hr n l=true):l.length<=64/\Asc l/\(∀ x∈l,okV x)/\0<=n/\n<=1073741824:=by
 unfold Hr at h;simp only[Al,decide_eq_true_eq]at h;exact⟨h.1.2,A12 h.2,A13 h.2,h.1.1.1,h.1.1.2⟩
/-! a further run -/
def A4e(l:List Ent):Ah (l.map Ent.row).flatten=[]:=F0 (Hk (K1 l))
def A4f{σ:St}{m e i g:Nat}{xs:List (List V)}{pre post:List V}{w:V}(ho:σ[i]?=some (.row xs.flatten e g 0))(hm:0<m)(hl:∀ r∈xs,r.length=m)(hr:∀ r∈xs,r.all V.rowB=true)(h1:pre.all V.rowB=true)(h2:post.all V.rowB=true)(hw:w.rowB=true):
  FR (.tup [.agg (pre++.sl i g 0 xs.length m true::post),w]) σ (.tup [.agg (pre++.lst 0 xs::post),w]):=by
 obtain⟨hi,qO⟩:=An.1 ho;have hx:Ah xs.flatten=[]:=F0 (Hk hr)
 have ql:Ah (pre++V.sl i g 0 xs.length m true::post)=[i]:=by
  rw[K2,F0 h1];simp only[Ah,F0 h2,V.refs,Ct,Bz]
 have h0:ren 0 [i] i=0:=by simp[ren,X1]
 have qv:w.refs=[]:=Qk hw
 have qi:Ga w=true:=by cases w<;>simp[V.rowB]at hw<;>rfl
 have qQ:w.ren (ren 0 [i])=w:=Yr _ w (by grind);refine .inr ⟨[i],?_,?_⟩
 .simp only[Hj,Cd,Ga,V.refs,Ah,ql,qv,Ag4,B5,Dc,Uk h1,Uk h2,V.cellB,qi,Bz];simp[Ej,qO,Ob.refs,hx,hi]
  grind[V.rowB]
 .simp only[Nv,ho,Rg,Bh,B0,Ob.ren,M6 i _ (Hk hr),V.ren,Aki,M6 i _ h1,Fw,M6 i _ h2,h0,qQ,Eg,Iw];have ha:OV [Ob.row xs.flatten e g 0] (.agg (pre++V.sl 0 g 0 xs.length m true::post)) (.agg (pre++.lst 0 xs::post)):=Uj (Atv (Ze h1) (.cons (Ps (i:=0) (g:=g) (e:=e) (z:=0) (w:=true) rfl hm hl hr) (Ze h2)));have qR:OV [Ob.row xs.flatten e g 0] w w:=Ig (by cases w<;>simp[V.rowB]at hw<;>rfl);exact congrArg (Option.map V.tup) (R4 (.cons ha (.cons qR .nil)) fun j hj=>Mh _ _ _ _ (O9.2 hj))
def Aih{σ:St}{m e lo:Nat}{u w:V}{xs:List (List V)}{pre post:List V}(h:GW σ m e lo u xs)(hm:0<m)(hl:∀ r∈xs,r.length=m)(hr:∀ r∈xs,r.all V.rowB=true)(h1:pre.all V.rowB=true)(h2:post.all V.rowB=true)(hw:w.rowB=true):
  FR (.tup [.agg (pre++u::post),w]) σ (.tup [.agg (pre++SL true 0 xs::post),w]):=by
 rcases h with⟨rfl,rfl⟩ | ⟨hn,i,g,rfl,ho,qg⟩
 .refine Fq ?_;simp only[B5,Dc,De,Ag4,h1,h2,Ag8,Ab0]
  grind[V.rowB]
 .rw[Sm hn];exact A4f ho hm hl hr h1 h2 hw
def Bhq{σ:St}{m e lo:Nat}{u:V}{xs:List (List V)}(h:GW σ m e lo u xs):Ly u=some (iV (xs.length:Int)):=by
 rcases h with⟨rfl,rfl⟩ | ⟨hn,i,g,rfl,ho,qg⟩<;>rfl
def Bcu{T:Nat->Option AF}{pr:Nat->Option (List V->Option V)}{f p:Nat}{res:List AR}{body:AC}{vs:List V}{v:V}{σ':St}(hT:T f=some ⟨p,res,false,body,none⟩)(hl:vs.length=p)
  (h:W T pr [.c body] (C7 0 vs) [] (Hd fun e' σ1=>Ca e' σ1 res=some v/\σ1=σ')) (hr:∀ i∈v.refs,i<σ'.length) (ho:Cd v=true) (hc:Cl σ'):Xl T pr f vs v σ':=by
 obtain⟨F,h1,h2,h3⟩:=Zf hT hl h hr ho (As _) hc;have e:=h1.symm.trans hT;cases e;exact⟨_,hT,rfl,rfl,h3⟩
def A8b{σ:St}{m e lo:Nat}{u:V}{xs:List (List V)}(h:GW σ m e lo u xs):Cd u=true:=by
 rcases h with⟨rfl,rfl⟩ | ⟨hn,i,g,rfl,ho,qg⟩<;>rfl
mutual
theorem A8c(ρ:Nat->Nat):∀ v:V,(v.ren ρ).refs=v.refs.map ρ
 | .ptr i g o=>rfl
 | .sl i g o l m w=>rfl
 | .mp i=>rfl
 | .fn f a c=>by simp only[V.ren,V.refs,Ym ρ a,Ym ρ c,Fm]
 | .agg cs=>by simp only[V.ren,V.refs,Ym ρ cs]
 | .tup cs=>by simp only[V.ren,V.refs,Ym ρ cs]
 | .und=>rfl
 | .skp=>rfl
 | .bool _=>rfl
 | .int _ _=>rfl
 | .str _=>rfl
 | .nili=>rfl
 | .ifc=>rfl
 | .nils=>rfl
 | .nilp=>rfl
 | .nilf=>rfl
 | .lst _ _=>rfl
 | .imm _ _=>rfl
theorem Ym(ρ:Nat->Nat):∀ vs:List V,Ah (Fw ρ vs)=(Ah vs).map ρ
 | []=>rfl
 | v::r=>by simp only[Fw,Ah,A8c ρ v,Ym ρ r,Fm]
end
def Bhr{T:Nat->Option AF}{pr:Nat->Option (List V->Option V)}{f p:Nat}{res:List AR}{body:AC}{vs:List V}{P:V->St->Prop}(hT:T f=some ⟨p,res,false,body,none⟩)(hl:vs.length=p)
  (h:W T pr [.c body] (C7 0 vs) [] (Hd fun e' σ1=>∃ v,Ca e' σ1 res=some v/\P v σ1)) (hP:∀ v s,P v s->Cl s/\Cd v=true/\∀ i∈v.refs,i<s.length):∃ v σ',Xl T pr f vs v σ'/\P v σ':=by
 obtain⟨e',σ1,hE,v,h1,h2⟩:=h;obtain⟨q1,q2,q3⟩:=hP _ _ h2;exact⟨v,σ1,Bcu hT hl ⟨e',σ1,hE,h1,rfl⟩ q3 q2 q1,h2⟩
def Aj4{σ σ':St}{m e lo:Nat}{u:V}{xs:List (List V)}(h:GW σ m e lo u xs)(hk:∀ j,j<σ.length->σ'[j]?=σ[j]?):GW σ' m e lo u xs:=by
 rcases h with h | ⟨hn,i,g,h,ho,qg⟩
 .exact .inl h
 .exact .inr ⟨hn,i,g,h,(hk i (An.1 ho).1).trans ho,qg⟩
theorem Afx{σ:St}{m e lo L7:Nat}{u:V}{xs:List (List V)}(h:GW σ m e lo u xs)(hl:L7<=lo):GW σ m e L7 u xs:=by
 rcases h with h | ⟨hn,i,g,h,ho,qg⟩
 .exact .inl h
 .exact .inr ⟨hn,i,g,h,ho,by omega⟩
def Aa6(σ:St)(v:V)(js:List Nat):Prop:=∀ i∈v.refs,i∈js/\∀ ob,σ[i]?=some ob->∀ j∈ob.refs,j∈js
def ON(σ:St)(v v':V):Prop:=∀ js:List Nat,Aa6 σ v js->∀ d,Fg σ js (d+3) v=some v'
def OW(σ:St)(v v':V):Prop:=∀ js:List Nat,Aa6 σ v js->Gy σ js v=some v'
inductive ONs (σ:St):List V->List V->Prop
 | nil:ONs σ [] []
 | cons {v v':V} {vs qf:List V}:ON σ v v'->ONs σ vs qf->ONs σ (v::vs) (v'::qf)
inductive OWs (σ:St):List V->List V->Prop
 | nil:OWs σ [] []
 | cons {v v':V} {vs qf:List V}:OW σ v v'->OWs σ vs qf->OWs σ (v::vs) (v'::qf)
def Xa{σ:St}{v v':V}(h:OC σ v v'):ON σ v v':=fun js hj d=>h js (fun i hi=>(hj i hi).1) (d+1)
def Ayq{σ:St}{v v':V}(h:OV σ v v'):OW σ v v':=fun js hj=>h js fun i hi=>(hj i hi).1
def Bm2{σ:St}{i g m e z:Nat}{w:Bool}{xs qq:List (List V)}(ho:σ[i]?=some (.row xs.flatten e g z))(hm:0<m)(hl:∀ r∈xs,r.length=m)(hc:OCs σ xs.flatten qq.flatten)(qZ:∀ r∈qq,r.length=m)(hn:qq.length=xs.length):
  ON σ (.sl i g 0 xs.length m w) (.lst 0 qq):=by
 intro js hj d
 have hi:js.elem i=true:=by
  have:=(hj i AQ).1;simpa using this
 have qJ:∀ j∈Ah xs.flatten,j∈js:=(hj i AQ).2 _ ho;have hf:=Gj hl;unfold Fg;rw[if_neg AN];simp only[hi,if_true,ho];rw[if_pos ⟨trivial,hm,by omega⟩,Mc,<-hf,Dh,Aji hc qJ]
 grind[Tm]
def Avl{σ:St}{js:List Nat}{d:Nat}:∀ {vs qf:List V},ONs σ vs qf->(∀ v∈vs,Aa6 σ v js)->vs.mapM (Fg σ js (d+3))=some qf
 | _,_,.nil,_=>rfl
 | _,_,.cons h hs,hj=>by
  rw[Jv,h js (hj _ Cz) d,Avl hs fun v hv=>hj v (Dl _ hv)];rfl
def Aj5{σ:St}{js:List Nat}:∀ {vs qf:List V},OWs σ vs qf->(∀ v∈vs,Aa6 σ v js)->vs.mapM (Gy σ js)=some qf
 | _,_,.nil,_=>rfl
 | _,_,.cons h hs,hj=>by
  rw[Jv,h js (hj _ Cz),Aj5 hs fun v hv=>hj v (Dl _ hv)];rfl
theorem Ad8:∀ {cs:List V} {c:V},c∈cs->∀ i∈c.refs,i∈Ah cs
 | _::cs,c,h,i,hi=>by
  simp only[Ah,Cs];rcases B7.1 h with rfl | h
  .grind
  .exact .inr (Ad8 h i hi)
def Axg{σ:St}{cs cs':List V}(h:ONs σ cs cs'):OW σ (.agg cs) (.agg cs'):=fun js hj=>by
 simp only[Gy];rw[Avl (d:=6) h fun v hv i hi=>hj i (Ad8 hv i hi)];rfl
def A8d(σ:St):∀ (d:Nat) (js:List Nat) (i:Nat),i∈js->∀ ob,σ[i]?=some ob->∀ j∈ob.refs,j∈Fy σ (d+1) js:=by
 intro d js i hi ob ho j hj;simp only[Fy];by_cases qX:j∈js
 .grind[Mh]
 .have qN:j∈(js.flatMap fun i=>match σ[i]? with
   | some ob=>ob.refs
   | none=>[]).filter fun i=>!js.elem i:=by
   rw[Rk];refine⟨List.mem_flatMap.2 ⟨i,hi,?_⟩,?_⟩
   .grind
   .grind
  rw[if_neg (by
   grind)]
  grind[Mh,List.mem_eraseDups]
def As4{σ:St}{v:V}{js:List Nat}(h:∀ i∈v.refs,i∈js):Aa6 σ v (Fy σ 9 js):=fun i hi=>⟨Mh σ 9 _ i (h i hi),fun ob ho j hj=>A8d σ 8 js i (h i hi) ob ho j hj⟩
def Bcv{σ:St}{vs qf:List V}(h:OWs σ vs qf):Dt σ vs=some qf:=Aj5 h fun v hv=>As4 fun i hi=>O9.2 (Ad8 hv i hi)
def A4g{T:Nat->Option AF}{pr:Nat->Option (List V->Option V)}{f:Nat}{vs us us':List V}{σ0:St}(h:Xl T pr f vs (.tup us) σ0)(ho:OWs σ0 us us'):Fn T pr f vs (.tup us'):=by
 obtain⟨F,h1,h2,h3,h4⟩:=h;refine⟨F,h1,h2,h3,_,_,h4,?_⟩;unfold Eg Iw;simp only;rw[Aj5 ho fun v hv=>As4 fun i hi=>O9.2 (by grind[V.refs,Ad8])];rfl
/-! entries whose sites are lists of their own -/
def Fb(p:V × Ent):List V:=(eR p.2 p.1)
def NG(s:St)(lo:Nat)(u:V)(L:List (V × Ent)):Prop:=GW s 4 30 lo u (L.map Fb)/\∀ p∈L,p.2.sites≠[]/\GW s 3 57 lo p.1 (p.2.sites.map Bl)
def Q8(L:List (V × Ent)):List (List V):=L.map fun p=>p.2.own.row
theorem Mf(L:List (V × Ent)):∀ r∈L.map Fb,r.length=4:=by
 intro r hr;obtain⟨p,-,rfl⟩:=Di.1 hr;rfl
def A8e(L:List (V × Ent)):∀ r∈Q8 L,r.length=4:=by
 intro r hr;obtain⟨p,-,rfl⟩:=Di.1 hr;rfl
def Axh{s:St}{lo:Nat}:∀ {L:List (V × Ent)},(∀ p∈L,p.2.sites≠[]/\GW s 3 57 lo p.1 (p.2.sites.map Bl))->OCs s (L.map Fb).flatten (Q8 L).flatten
 | [],_=>.nil
 | p::L,h=>by
  have h1:=J3 (h p Cz).2 AA (Le _) (Ql _);exact .cons (Gb rfl) (.cons h1 (.cons (Gb rfl) (.cons (Gb rfl) (Axh fun q hq=>h q (Dl _ hq)))))
def Ayr{s:St}{lo:Nat}{u:V}{L:List (V × Ent)}(h:NG s lo u L):ON s u (SL true 0 (Q8 L)):=by
 obtain⟨h1 | ⟨hn,i,g,rfl,ho,qg⟩,h2⟩:=h
 .obtain⟨rfl,h1⟩:=h1;obtain rfl:L=[]:=by simp_all
  exact Xa (Gb rfl)
 .have qM:Q8 L≠[]:=by
   intro e;apply hn;have:L=[]:=by simpa[Q8] using e
   rw[this];rfl
  rw[Sm qM];exact Bm2 ho AA (Mf L) (Axh h2) (A8e L) (by simp[Q8])
def Bm3{s:St}{lo:Nat}{u:V}{L:List (V × Ent)}(h:NG s lo u L)(n:Int):OW s (.agg [iV n,u]) (.agg [iV n,SL true 0 (Q8 L)]):=Axg (.cons (Xa (Gb rfl)) (.cons (Ayr h) .nil))
section
variable {Q:Env->St->Prop} {e:Env} {σ:St} {k:List It} {l:List AI} {kill:List Nat} {f:Nat} {args vs:List V} {v:V} {d:Option Nat}
def Bm4(hx:OWs σ args vs)(hf:Fn TT PT f vs v)(qH:v.flatV=true)(h:WR TT PT l kill k (e.putO d v) σ Q):WX TT PT (.call f args) d l kill k e σ Q:=
 Jz (.pure (Bcv hx) hf) (by unfold after;rw[if_pos qH];exact h)
end
theorem A4h(a:List V)(k:Nat):∀ i∈Ah (a.take k),i∈Ah a:=by
 grind[K2,List.take_append_drop]
theorem A4i(a:List V)(k:Nat):∀ i∈Ah (a.drop k),i∈Ah a:=by
 intro i hi;have:=K2 (a.take k) (a.drop k)
 simp_all
def Ahu{σ σ':St}{m e lo bytes:Nat}{u u' y:V}{xs ys:List (List V)}(h:GW σ m e lo u xs)(hy:E5 σ m y=some ys)(ha:Dx bytes (m,e) u y σ=some (u',σ'))(hx:∀ i∈Ah xs.flatten,i<σ.length)(hz:∀ i∈Ah ys.flatten,i<σ.length)(hc:Cl σ):Cl σ':=by
 unfold Dx at ha;simp only[hy,C5]at ha;unfold Jm at ha
 split at ha
 .rcases h with⟨rfl,rfl⟩ | ⟨hn,i,g,rfl,ho,qg⟩
  .simp only at ha
   split at ha
   .split at ha
    .grind
    .cases ha;exact Mk hc fun i hi=>Vl (hz i hi)
   grind
  .simp only at ha
   split at ha
   .simp only[ho,if_true]at ha
    grind[F4,Ob.refs,K2,A4h,A4i]
   grind
 grind
def Aj6{s:St}{lo:Nat}:∀ {L:List (V × Ent)},(∀ p∈L,p.2.sites≠[]/\GW s 3 57 lo p.1 (p.2.sites.map Bl))->∀ i∈Ah (L.map Fb).flatten,i<s.length
 | [],_,i,hi=>by cases hi
 | p::L,h,i,hi=>by
  simp only[Bh,Gv,K2,Fb,Ah,V.refs,Ct,Bz,Cs]at hi;rcases hi with hi | hi
  .exact F9 (h p Cz).2 i hi
  .exact Aj6 (fun q hq=>h q (Dl _ hq)) i AA
def As5{s s':St}{m m' e e' qw n:Nat}{u w:V}{ys:List (List V)}(he:e≠e')(hu:u=.nils\/∃ i g cs,u=.sl i g 0 n m true/\s[i]?=some (.row cs e g 0))(h:GW s m' e' qw w ys)(hf:∀ j,(∀ i g,u=.sl i g 0 n m true->j≠i)->j<s.length->s'[j]?=s[j]?):GW s' m' e' qw w ys:=by
 rcases h with h | ⟨hn,j,g,rfl,ho,qg⟩
 .exact .inl h
 .refine .inr ⟨hn,j,g,rfl,?_,qg⟩
  grind
def Aqh{s:St}{m e lo:Nat}{u:V}{xs:List (List V)}(h:GW s m e lo u xs):u=.nils\/∃ i g cs,u=.sl i g 0 xs.length m true/\s[i]?=some (.row cs e g 0):=by
 rcases h with⟨rfl,-⟩ | ⟨-,i,g,rfl,ho,-⟩
 .grind
 grind
/-! copies of entries, with lists of their own -/
/-! texts -/
def A4j(x:Ent):Bs x x=0:=(lin_p.zero x.ks x.ks).2 rfl
def As6(z z':Bool)(t t':Nat)(l:List Ent)(ho:I6 l)(hl:l.length<=1000000):Fn TT PT 9 [SL z t (l.map Ent.row),SL z' t' (l.map Ent.row)] (.bool true):=by
 refine Bg T9 rfl ?_;simp only[go_sem,Av,bne_self_eq_false];refine Bb (fun i=>l.length - i) (fun i:Nat=>[(0,SL z t (l.map Ent.row)),(1,SL z' t' (l.map Ent.row)),(12,iV l.length),(13,iV i)]) (fun _=>[]) (fun i=>i<=l.length) ?_ 0 AA;rintro i hi ih;refine Ay Bn3 ?_;rcases Az i l.length with h | h
 .obtain⟨x,hx,-,hm⟩:=Bk h;have hc:=Adt x x (ho x hm) (ho x hm);rw[A4j]at hc;simp only[Wh]at hc;simp only[go_sem,Aq h];refine Ad AD ?_;simp only[go_sem,Ak,hx];refine Ax hc AB ?_;simp only[go_sem,bne_self_eq_false,Ak,hx,Aw (show i<9223372036854775807 by omega)];exact Ai (ih (i+1) AA AA) rfl
 .simp only[go_sem,Bj h];exact Gs rfl
def A8f(z z':Bool)(t t':Nat)(n:Int)(l:List Ent)(ho:I6 l)(hl:l.length<=1000000):Fn TT PT 8 [.agg [iV n,SL z t (l.map Ent.row)],.agg [iV n,SL z' t' (l.map Ent.row)]] (.bool true):=by
 have hs:=As6 z z' t t' l ho hl;refine Bg T8 rfl ?_;simp only[go_sem,beq_self_eq_true];refine Ab hs AB ?_;simp only[go_sem];exact Gs rfl
def Bm5{σ:St}{v v':V}(h:ON σ v v')(hc:v.cellB=true):OW σ v v':=fun js hj=>by
 have:=h js hj 6;unfold Gy
 grind[Fg,V.rowB]
def A4k{m:Nat}{xs:List (List V)}(hl:∀ r∈xs,r.length=m){i:Nat}(hi:i<=xs.length):xs.flatten.drop (i*m)=(xs.drop i).flatten:=by
 have h1:xs.flatten=(xs.take i).flatten++(xs.drop i).flatten:=by rw[<-Abr,Hy]
 grind[Gj,List.length_take]
def A4l{m:Nat}{xs:List (List V)}(hl:∀ r∈xs,r.length=m){i:Nat}(hi:i<=xs.length):Fi m i xs.flatten=xs.take i:=by
 grind[List.take_append_drop,Acp]
def A4m{σ:St}{m e lo:Nat}{u:V}{xs:List (List V)}(h:GW σ m e lo u xs)(hl:∀ r∈xs,r.length=m){i:Nat}(hi:i<=xs.length):
  ∃ a,Io m u none (some (iV (i:Int))) none=some a/\∀ σ':St,(∀ j,j<σ.length->σ'[j]?=σ[j]?)->E5 σ' m a=some (xs.take i):=by
 rcases h with⟨rfl,rfl⟩ | ⟨hn,b,g,rfl,ho,qg⟩
 .obtain rfl:i=0:=by grind
  exact⟨.nils,rfl,fun _ _=>rfl⟩
 .refine⟨.sl b g (0+0*m) (i - 0) m true,?_,fun σ' hk=>?_⟩
  .grind[Io,Ed]
  .have:=(hk b (An.1 ho).1).trans ho;have hf:=Gj hl;have qK:i*m<=xs.length*m:=E4 m hi;simp only[E5,this]
   simp_all [A4l]
def A4n{σ:St}{m e lo:Nat}{u:V}{xs:List (List V)}(h:GW σ m e lo u xs)(hl:∀ r∈xs,r.length=m){i:Nat}(hi:i<=xs.length):
  ∃ a,Io m u (some (iV (i:Int))) none none=some a/\∀ σ':St,(∀ j,j<σ.length->σ'[j]?=σ[j]?)->E5 σ' m a=some (xs.drop i):=by
 rcases h with⟨rfl,rfl⟩ | ⟨hn,b,g,rfl,ho,qg⟩
 .obtain rfl:i=0:=by grind
  exact⟨.nils,rfl,fun _ _=>rfl⟩
 .refine⟨.sl b g (0+i*m) (xs.length - i) m true,?_,fun σ' hk=>?_⟩
  .grind[Io,Ed]
  .have:=(hk b (An.1 ho).1).trans ho;have hf:=Gj hl;have qK:i*m+(xs.length - i)*m=xs.length*m:=by rw[<-N0];congr 1;omega
   simp only[E5,this];rw[if_pos ⟨trivial,trivial,by omega⟩,Gw,A4k hl hi]
   grind[Tm,List.length_drop]
def Boo{τ:St}{i x t:Nat}{a b c d:V}{e:Env}(h:τ[i]?=some (.row [a,b,c,d] t 0 0))(h1:e.get x=.ptr i 0 0):Ca e τ [AR.cell x 4 false]=some (.agg [a,b,c,d]):=by
 simp only[Ca,Gr,h1,H3,h];rfl
def Bhs{a s:St}(h:∀ j,j<a.length->s[j]?=a[j]?):∃ J,s=a++J:=⟨s.drop a.length,Tf fun j=>by
 grind⟩
def A00{σ:St}{w:V}{x:Ent}(hc:Cl σ)(hw:∀ J:St,E5 (σ++J) 3 w=some (x.sites.map Bl))(qi:w.cellB=true)(qv:∀ i∈w.refs,i<σ.length)(hn:x.sites≠[])(hb:x.sites.length<=1000000):
  ∃ w' J,Bw TT PT 27 [.agg (eR x w)] σ (.agg (eR x w')) (σ++J)/\Cl (σ++J)/\GW (σ++J) 3 57 σ.length w' (x.sites.map Bl):=by
 have qo:x.sites.map Bl≠[]:=by simpa using hn
 obtain⟨w',s1,e1,g1,l1,-,f1⟩:=Iz (lo:=σ.length+2) (σ:=σ++[eO x w,.row [iV 0,.nils,iV 0,iV 0] 30 0 0]) (m:=3) (e:=57) (bytes:=40) (y:=w) (ys:=x.sites.map Bl) Dr AE (hw _) AA AE (Le _) (by grind);rw[Ct]at g1;have qj:=B8 g1
 have qE:Cl (σ++[eO x w,.row [iV 0,.nils,iV 0,iV 0] 30 0 0]):=by
  have:=Mk (ob:=eO x w) hc fun i hi=>by
   grind[Ob.refs,Ah,V.refs,Nat.lt_succ_of_lt]
  have:=Mk (ob:=.row [iV 0,.nils,iV 0,iV 0] 30 0 0) this AT;simpa using this
 have qF:Cl s1:=Apn (Dr (lo:=σ.length+2)) (hw _) e1 rfl (F0 (Hk (Ql _))) qE
 have hk:∃ J:St,s1=σ++[eO x w,.row [iV 0,.nils,iV 0,iV 0] 30 0 0]++J:=by
  exact Bhs fun j hj=>f1 j (by grind)
 obtain⟨J,rfl⟩:=hk
 have hS:∀ a b:Ob,((σ++[eO x w,Ob.row [iV 0,.nils,iV 0,iV 0] 30 0 0]++J).set σ.length a).set (σ.length+1) b=σ++(a::b::J):=fun a b=>by
  simp_all
 have g2:GW (σ++(eO x w'::eO x w'::J)) 3 57 (σ.length+2) w' (x.sites.map Bl):=by
  rw[<-hS];exact Dw (Dw g1 AA) AA
 have c2:Cl (σ++(eO x w'::eO x w'::J)):=by
  rw[<-hS];refine F4 (F4 qF fun i hi=>?_) fun i hi=>?_
  .simp only[Ob.refs,Ah,V.refs,Ct,Bz]at hi;exact F9 g1 i hi
  .rw[Ny];simp only[Ob.refs,Ah,V.refs,Ct,Bz]at hi;exact F9 g1 i hi
 refine⟨w',_,Zf T27 rfl ?_ (fun i hi=>?_) ?_ AE c2,c2,Afx g2 AA⟩
 .simp only[Dm,Mw,Ct]at e1;simp only[go_sem,Ok qi,qi,e1,Ok qj,qj];exact⟨Boo (Att _ _ 1) rfl,rfl⟩
 .simp only[V.refs,Ah,Ct,Bz]at hi;exact F9 g2 i hi
 .simp only[Cd,Ga,B5,Dc,Ag8,qj];rfl
def Bcw{σ:St}{lo:Nat}{u w:V}{L:List (V × Ent)}{x:Ent}{i:Nat}(hc:Cl σ)(hg:NG σ lo u L)(qg:lo<=σ.length)(hi:i<=L.length)(hb:L.length<=100000)(hw:GW σ 3 57 lo w (x.sites.map Bl))(hx:x.sites≠[])(qS:x.sites.length<=1000000):
  ∃ u' σ' w',Bw TT PT 30 [u,iV (i:Int),.agg (eR x w)] σ u' σ'/\Cl σ'/\σ.length<=σ'.length/\(∀ j,j<σ.length->σ'[j]?=σ[j]?)/\NG σ' lo u' (L.take i++(w',x)::L.drop i)/\∀ j∈w'.refs,σ.length<=j:=by
 have qi:=B8 hw;have hL:(L.map Fb).length=L.length:=Av ..;obtain⟨a,ha,ra⟩:=A4m hg.1 (Mf L) (i:=i) AA;obtain⟨b,qD,rb⟩:=A4n hg.1 (Mf L) (i:=i) AA;rw[<-Vo]at ra;rw[<-Ag9]at rb;have hr:∀ {L':List (V × Ent)},(∀ p∈L',p∈L)->∀ i∈Ah (L'.map Fb).flatten,i<σ.length:=fun qC=>Aj6 fun p hp=>hg.2 p (qC p hp)
 have c1:Cl (σ++[eO x w]):=Mk hc fun j hj=>by
  simp only[Ob.refs,Ah,V.refs,Ct,Bz]at hj;exact Vl (F9 hw j hj)
 have qx:=ra (σ++[eO x w]) fun j hj=>Ex hj
 obtain⟨u1,s1,e1,g1,l1,-,f1⟩:=Iz (lo:=σ.length+1) (σ:=σ++[eO x w]) (m:=4) (e:=30) (bytes:=48) (y:=a) Dr AE qx AA AE (Mf _) (by grind);rw[Ct]at g1;simp only[Aj,Be,Dn]at l1;have c2:Cl s1:=Ahu (Dr (lo:=σ.length+1)) qx e1 (by simp[Ah]) (fun j hj=>by grind) c1;have k1:∀ j,j<σ.length->s1[j]?=σ[j]?:=fun j hj=>(f1 j AA).trans (Ex hj)
 have q1:s1[σ.length]?=some (eO x w):=(f1 _ AA).trans (Tx ..);have qj:GW s1 3 57 lo w (x.sites.map Bl):=Aj4 hw k1
 obtain⟨w',J,qG,c3,g2⟩:=A00 (w:=w) (x:=x) c2 (fun J=>by
  rcases Ix (l:=J) qj with⟨rfl,h0⟩ | ⟨hn,ib,g,rfl,ho,-⟩
  .simp_all
  .simp only[E5,ho];have hf:=Gj (Le x.sites)
   rw[if_pos ⟨trivial,trivial,by omega⟩,Mc,Tm (Le _)]) qi (F9 qj) hx qS
 have qm:=B8 g2;have qn:=Ix (l:=J++[Ob.row (Fb (w',x)) 30 0 0]) g1
 have c4:Cl (s1++J++[Ob.row (Fb (w',x)) 30 0 0]):=Mk c3 fun j hj=>by
  simp only[Ob.refs,Fb,Ah,V.refs,Ct,Bz]at hj;exact Vl (F9 g2 j hj)
 rw[<-Dm]at qn;have qP:(s1++J++[Ob.row (Fb (w',x)) 30 0 0])[(s1++J).length]?=some (.row (Fb (w',x)) 30 0 0):=Tx ..
 have ry:E5 (s1++J++[Ob.row (Fb (w',x)) 30 0 0]) 4 (.sl (s1++J).length 0 0 1 4 true)=some [Fb (w',x)]:=by
  simp only[E5,qP];rfl
 obtain⟨u2,s2,e2,g3,l2,qz,f2⟩:=Iz (bytes:=48) qn (by grind) ry AA (Mf _) (Mf [(w',x)]) (by grind)
 have qT:∀ j∈Ah ((L.take i).map Fb).flatten,j<(s1++J++[Ob.row (Fb (w',x)) 30 0 0]).length:=fun j hj=>by
  have:=hr (L':=L.take i) (fun p hp=>Nu hp) j hj
  grind
 have qU:∀ j∈Ah [Fb (w',x)].flatten,j<(s1++J++[Ob.row (Fb (w',x)) 30 0 0]).length:=fun j hj=>by
  simp only[Gv,Abu,Bz,Fb,Ah,V.refs,Ct]at hj;have:=F9 g2 j hj
  grind
 have c5:Cl s2:=Ahu qn ry e2 qT qU c4;simp only[Aj,Be,Dn]at l2
 have k2:∀ j,j<σ.length->s2[j]?=σ[j]?:=fun j hj=>by
  grind
 have qB:GW s2 3 57 s1.length w' (x.sites.map Bl):=As5 AA (Aqh qn) (Ix g2) qz;have qy:=rb s2 k2
 have qk:∀ r∈(L.take i).map Fb++[Fb (w',x)],r.length=4:=fun r hr=>by
  rcases Cs.1 hr with h | h
  .grind[Mf]
  .rw[Hh.1 h];rfl
 obtain⟨u3,s3,e3,g4,l3,qA,f3⟩:=Iz (bytes:=48) g3 AA qy AA qk (Mf _) (by grind)
 have c6:Cl s3:=Ahu g3 qy e3 (fun j hj=>by
  rw[Abr,K2]at hj;rcases Cs.1 hj with h | h
  .grind
  grind) (fun j hj=>by have:=hr (L':=L.drop i) (fun p hp=>Xx hp) j hj;omega) c5
 have k3:∀ j,j<σ.length->s3[j]?=σ[j]?:=fun j hj=>(f3 j AA).trans (k2 j hj)
 have qr:GW s3 3 57 s1.length w' (x.sites.map Bl):=As5 AA (Aqh g3) qB qA;refine⟨u3,s3,w',Zf T30 rfl ?_ (F9 g4) (A8b g4) AA c6,c6,by omega,k3,⟨?_,?_⟩,fun j hj=>?_⟩
 rotate_right
 .rcases qr with⟨rfl,-⟩ | ⟨-,ib,gb,rfl,-,qL⟩
  .grind[V.refs]
  grind[V.refs]
 .simp only[Fb,Dm,Aj]at e2;simp only[go_sem,Ok qi,qi,ha,e1,q1];refine Aa qG ?_;simp only[go_sem,Ok qm,qm,e2,qD,e3];exact⟨rfl,rfl⟩
 .grind[Afx]
 .intro p hp;rcases Cs.1 hp with h | h
  .exact⟨(hg.2 p (Nu h)).1,Aj4 (hg.2 p (Nu h)).2 k3⟩
  .rcases B7.1 h with rfl | h
   .grind[Afx]
   .exact⟨(hg.2 p (Xx h)).1,Aj4 (hg.2 p (Xx h)).2 k3⟩
def Avm{L:List (V × Ent)}{l:List Ent}(h:L.map (·.2)=l)(ho:∀ x∈l,x.own=x):Q8 L=l.map Ent.row:=by
 grind[Q8,List.map_congr_left]
