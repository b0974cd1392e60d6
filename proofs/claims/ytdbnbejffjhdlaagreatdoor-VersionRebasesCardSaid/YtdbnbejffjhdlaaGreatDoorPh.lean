/- Walks: which values are baselines: keys, entries. -/
import Derived.Test.YtdbnbejffjhdlaaGreatDoorNw
set_option linter.all false
namespace Go.Proofs.YtdbnbejffjhdlaaGreatDoor.KM
open Go
def Aux{k:A0}(h:B0 k.1=false):D9 k=false:=by grind[D9]
theorem Auy{k:A0}(h:k.2.1.length<1):D9 k=false:=by grind[D9,Aa4]
theorem Auz{k:A0}(h:1000<k.2.1.length):D9 k=false:=by grind[D9,Aa4]
theorem Au0{k:A0}(h:k.2.2<0):D9 k=false:=by grind[D9]
theorem Au1{k:A0}(h:60<=k.2.2):D9 k=false:=by grind[D9]
theorem Aec{k:A0}{i:Nat}{c:UInt8}(hc:k.2.1[i]?=some c)(h:c.toNat<32\/126<c.toNat):D9 k=false:=by
 unfold D9 Aa4
 grind
def Au2{k:A0}(h1:B0 k.1=true)(h2:1<=k.2.1.length)(h3:k.2.1.length<=1000)(h4:0<=k.2.2)(h5:k.2.2<60)(h6:∀ (i:Nat) (c:UInt8),k.2.1[i]?=some c->32<=c.toNat/\c.toNat<=126):D9 k=true:=by
 unfold D9 Aa4
 have:(k.2.1.all fun c=>decide (32<=c.toNat)&&decide (c.toNat<=126))=true:=by
  rw[B6];intro c hc;obtain⟨i,hi,rfl⟩:=M7 hc;have:=h6 i _ (Cd hi);simp only[Ak,decide_eq_true_eq];exact this
 grind
def Bbw(k:A0):Fn TT PT 83 [.agg (Aw k)] (.bool (D9 k)):=by
 refine Bc T83 rfl ?_;unfold Aw;simp only[go_sem];refine Fu P129 rfl AK ?_;cases h0:B0 k.1
 .simp only[go_sem];exact Ae rfl (by rw[Aux h0])
 cases h1:decide ((k.2.1.length:Int)<1);rotate_left
 .simp only[go_sem,h1];exact Ae rfl (by grind[Auy])
 cases h2:decide ((1000:Int)<(k.2.1.length:Int));rotate_left
 .simp only[go_sem,h1,h2];exact Ae rfl (by grind[Auz])
 cases h3:decide (k.2.2<0);rotate_left
 .simp only[go_sem,h1,h2,h3];exact Ae rfl (by grind[Au0])
 cases h4:decide (60<=k.2.2);rotate_left
 .simp only[go_sem,h1,h2,h3,h4];exact Ae rfl (by grind[Au1])
 simp only[go_sem,h1,h2,h3,h4];simp at h1 h2 h3 h4;refine Bh (fun i=>k.2.1.length - i) (fun i:Nat=>[(1,.ptr 0 0 0),(32,iV k.2.1.length),(33,iV i)]) (fun _=>[.row (kR k) 57 0 0]) (fun i=>i<=k.2.1.length/\∀ (j:Nat) (c:UInt8),j<i->k.2.1[j]?=some c->32<=c.toNat/\c.toNat<=126) ?_ 0 ⟨by omega,fun j c hj=>by omega⟩;rintro i ⟨hi,qh⟩ ih;refine Az Bmh ?_;rcases Bb i k.2.1.length with h | h
 .obtain⟨c,hc,-,-⟩:=Bl h;cases h5:decide (((c.toNat:Nat):Int)<32);rotate_left
  .simp only[go_sem,Ar h,hc,h5];exact Ae rfl (by grind[Aec])
  cases h6:decide ((126:Int)<((c.toNat:Nat):Int));rotate_left
  .simp only[go_sem,Ar h,hc,h5,h6];exact Ae rfl (by grind[Aec])
  simp only[go_sem,Ar h,hc,h5,h6,Ay (show i<9223372036854775807 by omega)];simp at h5 h6;refine Am (ih (i+1) AA ⟨by omega,fun j c' hj qv=>?_⟩) rfl;by_cases e:j=i
  .grind
  .exact qh j c' AA qv
 .simp only[go_sem,Bi h];refine Ae rfl ?_;rw[Au2 h0 AA AA h3 h4 fun i' c hc=>qh i' c (by grind) hc]
def A65(k:A0):Fn TT PT 57 [.agg (Aw k)] (.bool (D9 k)):=by
 have hn:=Sb k.1;refine Bc T57 rfl ?_;unfold Aw;simp only[go_sem];refine Ab hn rfl ?_;cases h0:B0 k.1
 .simp only[go_sem];exact Ae rfl (by rw[Aux h0])
 cases h1:decide ((k.2.1.length:Int)<1);rotate_left
 .simp only[go_sem,h1];exact Ae rfl (by grind[Auy])
 cases h2:decide ((1000:Int)<(k.2.1.length:Int));rotate_left
 .simp only[go_sem,h1,h2];exact Ae rfl (by grind[Auz])
 cases h3:decide (k.2.2<0);rotate_left
 .simp only[go_sem,h1,h2,h3];exact Ae rfl (by grind[Au0])
 cases h4:decide (60<=k.2.2);rotate_left
 .simp only[go_sem,h1,h2,h3,h4];exact Ae rfl (by grind[Au1])
 simp only[go_sem,h1,h2,h3,h4];simp at h1 h2 h3 h4;refine Bh (fun i=>k.2.1.length - i) (fun i:Nat=>[(1,.ptr 0 0 0),(3,iV i)]) (fun _=>[.row (kR k) 57 0 0]) (fun i=>i<=k.2.1.length/\∀ (j:Nat) (c:UInt8),j<i->k.2.1[j]?=some c->32<=c.toNat/\c.toNat<=126) ?_ 0 ⟨by omega,fun j c hj=>by omega⟩;rintro i ⟨hi,qh⟩ ih;refine Az Bly ?_;rcases Bb i k.2.1.length with h | h
 .obtain⟨c,hc,-,-⟩:=Bl h;cases h5:decide (((c.toNat:Nat):Int)<32);rotate_left
  .simp only[go_sem,Ar h,hc,h5];exact Ae rfl (by grind[Aec])
  cases h6:decide ((126:Int)<((c.toNat:Nat):Int));rotate_left
  .simp only[go_sem,Ar h,hc,h5,h6];exact Ae rfl (by grind[Aec])
  simp only[go_sem,Ar h,hc,h5,h6,Ay (show i<9223372036854775807 by omega)];simp at h5 h6;refine Am (ih (i+1) AA ⟨by omega,fun j c' hj qv=>?_⟩) rfl;by_cases e:j=i
  .grind
  .exact qh j c' AA qv
 .simp only[go_sem,Bi h];refine Ae rfl ?_;rw[Au2 h0 AA AA h3 h4 fun i' c hc=>qh i' c (by grind) hc]
/-! entries -/
theorem Hq{x:Ent}(h:H8 x.kind x.sites.length=false):Da x=false:=by grind[Da]
theorem Bbx{x:Ent}{i:Nat}{k:A0}(hk:x.sites[i]?=some k)(h:D9 k=false):Da x=false:=by
 unfold Da
 grind
def Bg4{x:Ent}(h1:H8 x.kind x.sites.length=true)(h2:∀ (i:Nat) (k:A0),x.sites[i]?=some k->D9 k=true):Da x=Qh x:=by
 unfold Da
 have:x.sites.all D9=true:=by
  rw[B6];intro c hc;obtain⟨i,hi,rfl⟩:=M7 hc;exact h2 i _ (Cd hi)
 grind
theorem Ni{x:Ent}(h:x.seen<1\/1073741824<x.seen\/x.missed<0\/7<x.missed):Qh x=false:=by
 unfold Qh
 grind
theorem Aj5{x:Ent}(h1:1<=x.seen)(h2:x.seen<=1073741824)(h3:0<=x.missed)(h4:x.missed<=7):Qh x=true:=by
 grind[Qh]
theorem Ht{k:Int}{n:Nat}(h:¬ (((k=1\/k=3)/\n=2)\/(k=2/\2<=n/\n<=4)\/(k=4/\n=4))):H8 k n=false:=by
 simp_all [H8]
def Nj{k:Int}{n:Nat}(h:((k=1\/k=3)/\n=2)\/(k=2/\2<=n/\n<=4)\/(k=4/\n=4)):H8 k n=true:=by
 unfold H8
 grind
def Bg5{T:Nat->Option AF}{pr:Nat->Option (List V->Option V)}{a b:It}{c c':AC}{e:Env}{σ:St}{Q:Env->St->Prop}(hc:c=c')(h:W T pr [a,b,.c c'] e σ Q):W T pr [a,b,.c c] e σ Q:=hc ▸ h
noncomputable def last46:AC:=match b50.body with
 | .seq _ (.seq _ (.seq _ (.seq _ (.seq _ c))))=>c
 | c=>c
def Acq(x:Ent)(hk:H8 x.kind x.sites.length=true):W TT PT [.l [1,29,30,31] lp50_0,.b 1,.c last46] [(1,.ptr 0 0 0),(29,x.sl),(30,iV x.sites.length),(31,iV 0)]
  [eO x x.sl] (FQ [AR.tmp 2] (.bool (Da x))):=by
 have jt:=Qy hk;refine Bg5 (c:=last46) (by delta last46 b50 tX;exact rfl) ?_
 refine Bh (α:=Nat × St) (fun a=>x.sites.length - a.1) (fun a=>[(1,.ptr 0 0 0),(29,x.sl),(30,iV x.sites.length),(31,iV a.1)]) (fun a=>eO x x.sl::a.2)
  (fun a=>a.1<=x.sites.length/\∀ (j:Nat) (k:A0),j<a.1->x.sites[j]?=some k->D9 k=true) ?_ (0,[]) ⟨by simp,fun j k hj=>by omega⟩
 rintro⟨i,s⟩ ⟨hi,qh⟩ ih;simp only at hi qh ih;refine Az Blw ?_;rcases Bb i x.sites.length with h | h
 .obtain⟨k,hx,-,-⟩:=Bl h;have hv:=Bbw k;simp only[Aw]at hv;simp only[go_sem,Ar h,Ar6,Ai,hx,Aw];refine Ab hv rfl ?_;cases hb:D9 k
  .simp only[go_sem];exact Ae rfl (by grind[Bbx])
  .simp only[go_sem,Ay (show i<9223372036854775807 by omega)];refine Am (ih (i+1,_) AA ⟨by omega,fun j k' hj qW=>?_⟩) rfl
   grind
 .have ql:Da x=Qh x:=Bg4 hk fun j k hj=>qh j k (by grind) hj
  rw[ql];cases m1:decide (1<=x.seen)
  .simp only[go_sem,Bi h,m1];exact Ae rfl (by grind[Ni])
  cases m2:decide (x.seen<=1073741824)
  .simp only[go_sem,Bi h,m1,m2];exact Ae rfl (by grind[Ni])
  cases m3:decide (0<=x.missed)
  .simp only[go_sem,Bi h,m1,m2,m3];exact Ae rfl (by grind[Ni])
  cases m4:decide (x.missed<=7)
  .simp only[go_sem,Bi h,m1,m2,m3,m4];exact Ae rfl (by grind[Ni])
  simp only[go_sem,Bi h,m1,m2,m3,m4];simp at m1 m2 m3 m4;exact Ae rfl (by grind[Aj5])
def A3v(x:Ent):Fn TT PT 50 [.agg x.row] (.bool (Da x)):=by
 refine Bc T50 rfl ?_;unfold Ent.row;cases k1:(x.kind==1)
 .cases k3:(x.kind==3)
  .cases k2:(x.kind==2)
   .cases k4:(x.kind==4)
    .simp only[go_sem,k1,k2,k3,k4];exact Ae rfl (by grind[Hq,Ht])
    .cases n1:decide ((x.sites.length:Int)<4);rotate_left
     .simp only[go_sem,k1,k2,k3,k4,n1];exact Ae rfl (by grind[Hq,Ht])
     cases n2:decide ((4:Int)<(x.sites.length:Int));rotate_left
     .simp only[go_sem,k1,k2,k3,k4,n1,n2];exact Ae rfl (by grind[Hq,Ht])
     simp only[go_sem,k1,k2,k3,k4,n1,n2];exact Acq x (Nj (by grind))
   .cases n1:decide ((x.sites.length:Int)<2);rotate_left
    .simp only[go_sem,k1,k2,k3,n1];exact Ae rfl (by grind[Hq,Ht])
    cases n2:decide ((4:Int)<(x.sites.length:Int));rotate_left
    .simp only[go_sem,k1,k2,k3,n1,n2];exact Ae rfl (by grind[Hq,Ht])
    simp only[go_sem,k1,k2,k3,n1,n2];exact Acq x (Nj (by grind))
  .cases n1:decide ((x.sites.length:Int)<2);rotate_left
   .simp only[go_sem,k1,k3,n1];exact Ae rfl (by grind[Hq,Ht])
   cases n2:decide ((2:Int)<(x.sites.length:Int));rotate_left
   .simp only[go_sem,k1,k3,n1,n2];exact Ae rfl (by grind[Hq,Ht])
   simp only[go_sem,k1,k3,n1,n2];exact Acq x (Nj (by grind))
 .cases n1:decide ((x.sites.length:Int)<2);rotate_left
  .simp only[go_sem,k1,n1];exact Ae rfl (by grind[Hq,Ht])
  cases n2:decide ((2:Int)<(x.sites.length:Int));rotate_left
  .simp only[go_sem,k1,n1,n2];exact Ae rfl (by grind[Hq,Ht])
  simp only[go_sem,k1,n1,n2];exact Acq x (Nj (by grind))
theorem Wj{n:Int}{l:List Ent}(h:n<0\/1073741824<n\/64<l.length):H3 n l=false:=by
 rw[<-V3];intro hv;unfold H3 at hv
 grind
theorem Y1{n:Int}{l:List Ent}{i:Nat}(hi:i<l.length)(h:Hv l i=false):H3 n l=false:=by
 grind[H3,A62]
theorem Aqa{n:Int}{l:List Ent}(h1:0<=n)(h2:n<=1073741824)(h3:l.length<=64)(h:∀ i,i<l.length->Hv l i=true):H3 n l=true:=by
 grind[H3,Ar7]
theorem Ak4{l:List Ent}{x:Ent}(h:l[0]?=some x):Hv l 0=Da x:=by
 grind[Hv]
theorem Aaj{l:List Ent}{j:Nat}{p x:Ent}(hp:l[j]?=some p)(h:l[j+1]?=some x):Hv l (j+1)=(Da x&&decide (Cw p x<0)):=by
 grind[Hv]
def Ayl{j:Nat}(h:j<9223372036854775807):IntKind.i64.wrap (((j+1:Nat):Int) - 1)=(j:Int):=by
 grind[B7]
def Ar8(z:Bool)(t:Nat)(n:Int)(l:List Ent)(ho:K4 l):Fn TT PT 20 [.agg [iV n,SL z t (l.map Ent.row)]] (.bool (H3 n l)):=by
 refine Bc T20 rfl ?_;cases h1:decide (n<0);rotate_left
 .simp only[go_sem,h1];exact Ae rfl (by grind[Wj])
 cases h2:decide (1073741824<n);rotate_left
 .simp only[go_sem,h1,h2];exact Ae rfl (by grind[Wj])
 cases h3:decide ((64:Int)<(l.length:Int));rotate_left
 .simp only[go_sem,h1,h2,Aj,h3];exact Ae rfl (by grind[Wj])
 simp only[go_sem,h1,h2,Aj,h3];simp at h1 h2 h3
 refine Bh (α:=Nat × St) (fun a=>l.length - a.1) (fun a=>[(1,.ptr 0 0 0),(20,SL z t (l.map Ent.row)),(21,iV l.length),(22,iV a.1)]) (fun a=>.row [iV n,SL z t (l.map Ent.row)] 35 0 0::a.2)
  (fun a=>a.1<=l.length/\∀ j,j<a.1->Hv l j=true) ?_ (0,[]) ⟨by simp,fun j hj=>by omega⟩
 rintro⟨i,s⟩ ⟨hi,qh⟩ ih;simp only at hi qh ih;refine Az Bk7 ?_;rcases Bb i l.length with h | h
 .obtain⟨x,hx,-,hm⟩:=Bl h;have hv:=A3v x;cases hz:decide ((0:Int)<(i:Int))
  .obtain rfl:i=0:=by grind
   have h0:decide ((0:Int)<(l.length:Int))=true:=Ar h;simp only[go_sem,h0,Ai,hx];refine Ad AD ?_;simp only[go_sem];refine Ab hv AB ?_;cases hb:Da x
   .simp only[go_sem];exact Ae rfl (by grind[Y1,Ak4])
   .simp only[go_sem];refine Am (ih (1,_) AA ⟨by omega,fun j hj=>?_⟩) rfl;obtain rfl:j=0:=by omega
    grind[Ak4]
  .obtain⟨j,rfl⟩:∃ j,i=j+1:=⟨i - 1,by grind⟩;obtain⟨p,hp,-,qC⟩:=Bl (show j<l.length by omega);have hl:=Aeb p x (ho p qC) (ho x hm);have hd:=Ayl (show j<9223372036854775807 by omega);cases hc:decide (Cw p x<0)
   .rw[hc]at hl;simp only[go_sem,Ar h,Ai,hx];refine Ad AD ?_;simp only[go_sem,hz,hd,Ai,hp];refine Ax hl AB ?_;simp only[go_sem];exact Ae rfl (by grind[Y1,Aaj])
   .rw[hc]at hl;simp only[go_sem,Ar h,Ai,hx];refine Ad AD ?_;simp only[go_sem,hz,hd,Ai,hp];refine Ax hl AB ?_;simp only[go_sem];refine Ab hv AB ?_;cases hb:Da x
    .simp only[go_sem];exact Ae rfl (by grind[Y1,Aaj])
    .simp only[go_sem,Ay (show j+1<9223372036854775807 by omega)];refine Am (ih (j+2,_) AA ⟨by omega,fun j' jm=>?_⟩) rfl
     grind[Aaj]
 .simp only[go_sem,Bi h];exact Ae rfl (by grind[Aqa])
/-! interleaveref39 -/
def Sy(x:Ent)(n:Int)(l:List Ent)(qh:x.sites.all D9=false->H3 n l=false)(L:V)(N I:Int)(s0:Ob)(k:List It)
  (h:x.sites.all D9=true->∀ s,W TT PT k [(1,.ptr 0 0 0),(23,L),(24,iV N),(25,iV I),(102,x.sl),(103,iV x.sites.length),(104,iV x.sites.length)] (s0::s) (FQ [AR.tmp 2] (.bool (H3 n l)))) (hn:x.sites.length<=4) (s:St) :
  W TT PT (.l [1,23,24,25,102,103,104] lp27_0::.b 2::k) [(1,.ptr 0 0 0),(23,L),(24,iV N),(25,iV I),(102,x.sl),(103,iV x.sites.length),(104,iV 0)] (s0::s) (FQ [AR.tmp 2] (.bool (H3 n l))):=by
 refine Bh (α:=Nat × St) (fun a=>x.sites.length - a.1) (fun a=>[(1,.ptr 0 0 0),(23,L),(24,iV N),(25,iV I),(102,x.sl),(103,iV x.sites.length),(104,iV a.1)]) (fun a=>s0::a.2)
  (fun a=>a.1<=x.sites.length/\∀ (j:Nat) (k:A0),j<a.1->x.sites[j]?=some k->D9 k=true) ?_ (0,s) ⟨by simp,fun j k hj=>by omega⟩
 rintro⟨i,s⟩ ⟨hi,qF⟩ ih;simp only at hi qF ih;refine Az Blb ?_;rcases Bb i x.sites.length with h1 | h1
 .obtain⟨k,hx,-,-⟩:=Bl h1;have hv:=A65 k;simp only[Aw]at hv;simp only[go_sem,Ar h1,Ar6,Ai,hx,Aw];refine Ab hv rfl ?_;cases hb:D9 k
  .simp only[go_sem];refine Ae rfl ?_
   grind
  .simp only[go_sem,Ay (show i<9223372036854775807 by omega)];refine Am (ih (i+1,_) AA ⟨by omega,fun j k' hj qW=>?_⟩) rfl
   grind
 .obtain rfl:i=x.sites.length:=by omega
  simp only[go_sem,Bi h1];refine h ?_ s;rw[B6];intro c hc;obtain⟨j,hj,rfl⟩:=M7 hc
  simp_all
def A66{l:List Ent}{i:Nat}{x:Ent}(hx:l[i]?=some x)(h:Da x=false):Hv l i=false:=by
 grind[Hv]
theorem Sn{x:Ent}(h:Qh x=false):Da x=false:=by grind[Da]
def So{x:Ent}(h:x.sites.all D9=false):Da x=false:=by grind[Da]
def Ao3(k:Int):((k==1)=true/\(k==3)=false/\(k==2)=false/\(k==4)=false)\/((k==1)=false/\(k==3)=true/\(k==2)=false/\(k==4)=false)\/((k==1)=false/\(k==3)=false/\(k==2)=false/\(k==4)=true) \/
  ((k==1)=false/\(k==3)=false/\(k==2)=true/\(k==4)=false)\/((k==1)=false/\(k==3)=false/\(k==2)=false/\(k==4)=false):=by
 grind
set_option maxHeartbeats 4000000 in
def Aqb(z:Bool)(t:Nat)(n:Int)(l:List Ent)(ho:K4 l):Fn TT PT 27 [.agg [iV n,SL z t (l.map Ent.row)]] (.bool (H3 n l)):=by
 refine Bc T27 rfl ?_;cases h1:decide (n<0);rotate_left
 .simp only[go_sem,h1];exact Ae rfl (by grind[Wj])
 cases h2:decide (1073741824<n);rotate_left
 .simp only[go_sem,h1,h2];exact Ae rfl (by grind[Wj])
 cases h3:decide ((64:Int)<(l.length:Int));rotate_left
 .simp only[go_sem,h1,h2,Aj,h3];exact Ae rfl (by grind[Wj])
 simp only[go_sem,h1,h2,Aj,h3];simp at h1 h2 h3
 refine Bh (α:=Nat × St) (fun a=>l.length - a.1) (fun a=>[(1,.ptr 0 0 0),(23,SL z t (l.map Ent.row)),(24,iV l.length),(25,iV a.1)]) (fun a=>.row [iV n,SL z t (l.map Ent.row)] 35 0 0::a.2)
  (fun a=>a.1<=l.length/\∀ j,j<a.1->Hv l j=true) ?_ (0,[]) ⟨by simp,fun j hj=>by omega⟩
 rintro⟨i,s⟩ ⟨hi,qh⟩ ih;simp only at hi qh ih;refine Az Blc ?_;rcases Bb i l.length with h | h
 .obtain⟨x,hx,-,hm⟩:=Bl h;simp only[go_sem,Ar h,Ai,hx];have qd:Da x=false->H3 n l=false:=fun hb=>Y1 h (A66 hx hb)
  have qc:Da x=true->Hv l i=true->∀ s',W TT PT [.b 1,.c (.reg [112] [o 112 (.bin .add (.t 25) (.k (iV 1))),o 25 (.mov (.t 112))]),.l [1,23,24,25] lp27_1,.b 0,.c (.seq (.reg [] [o 2 (.mov (.k (.bool true)))]) .ret)]
    [(1,.ptr 0 0 0),(23,SL z t (l.map Ent.row)),(24,iV l.length),(25,iV i),(102,x.sl),(103,iV x.sites.length),(104,iV x.sites.length)] (.row [iV n,SL z t (l.map Ent.row)] 35 0 0::s') (FQ [AR.tmp 2] (.bool (H3 n l))):=by
   intro _ qj s';simp only[go_sem,Ay (show i<9223372036854775807 by omega)];refine Am (ih (i+1,s') AA ⟨by omega,fun j hj=>?_⟩) rfl;by_cases e:j=i
   .grind
   .grind
  cases hz:decide ((0:Int)<(i:Int))
  .have jl:i=0:=by simp at hz;omega
   have qj:Da x=true->Hv l i=true:=fun hb=>by grind[Ak4]
   cases m1:decide (x.seen<1);rotate_left
   .refine Ad AD ?_;simp only[go_sem,hz,m1];exact Ae rfl (by grind[Sn,Ni])
   cases m2:decide (1073741824<x.seen);rotate_left
   .refine Ad AD ?_;simp only[go_sem,hz,m1,m2];exact Ae rfl (by grind[Sn,Ni])
   cases m3:decide (x.missed<0);rotate_left
   .refine Ad AD ?_;simp only[go_sem,hz,m1,m2,m3];exact Ae rfl (by grind[Sn,Ni])
   cases m4:decide (7<x.missed);rotate_left
   .refine Ad AD ?_;simp only[go_sem,hz,m1,m2,m3,m4];exact Ae rfl (by grind[Sn,Ni])
   have qA:Qh x=true:=by simp at m1 m2 m3 m4;exact Aj5 AA AA AA AA
   rcases Ao3 x.kind with⟨q1,q3,q2,q4⟩ | ⟨q1,q3,q2,q4⟩ | ⟨q1,q3,q2,q4⟩ | ⟨q1,q3,q2,q4⟩ | ⟨q1,q3,q2,q4⟩
   .cases e2:((x.sites.length:Int)==2)
    .refine Ad AD ?_;simp only[go_sem,hz,m1,m2,m3,m4,q1,q3,q2,q4,e2];exact Ae rfl (by grind[Hq,Ht])
    .refine Ad AD ?_;simp only[go_sem,hz,m1,m2,m3,m4,q1,q3,q2,q4,e2];have qf:H8 x.kind x.sites.length=true:=Nj (by grind);have qa:x.sites.all D9=true->Da x=true:=fun ha=>by grind[Da]
     exact Sy x n l (fun hb=>qd (So hb)) _ _ _ _ _ (fun ha s'=>qc (qa ha) (qj (qa ha)) s') (Qy qf).1 _
   .cases e2:((x.sites.length:Int)==2)
    .refine Ad AD ?_;simp only[go_sem,hz,m1,m2,m3,m4,q1,q3,q2,q4,e2];exact Ae rfl (by grind[Hq,Ht])
    .refine Ad AD ?_;simp only[go_sem,hz,m1,m2,m3,m4,q1,q3,q2,q4,e2];have qf:H8 x.kind x.sites.length=true:=Nj (by grind);have qa:x.sites.all D9=true->Da x=true:=fun ha=>by grind[Da]
     exact Sy x n l (fun hb=>qd (So hb)) _ _ _ _ _ (fun ha s'=>qc (qa ha) (qj (qa ha)) s') (Qy qf).1 _
   .cases e2:((x.sites.length:Int)==4)
    .refine Ad AD ?_;simp only[go_sem,hz,m1,m2,m3,m4,q1,q3,q2,q4,e2];exact Ae rfl (by grind[Hq,Ht])
    .refine Ad AD ?_;simp only[go_sem,hz,m1,m2,m3,m4,q1,q3,q2,q4,e2];have qf:H8 x.kind x.sites.length=true:=Nj (by grind);have qa:x.sites.all D9=true->Da x=true:=fun ha=>by grind[Da]
     exact Sy x n l (fun hb=>qd (So hb)) _ _ _ _ _ (fun ha s'=>qc (qa ha) (qj (qa ha)) s') (Qy qf).1 _
   .cases e2:decide ((2:Int)<=(x.sites.length:Int))
    .refine Ad AD ?_;simp only[go_sem,hz,m1,m2,m3,m4,q1,q3,q2,q4,e2];exact Ae rfl (by grind[Hq,Ht])
    .cases e4:decide ((x.sites.length:Int)<=4)
     .refine Ad AD ?_;simp only[go_sem,hz,m1,m2,m3,m4,q1,q3,q2,q4,e2,e4];exact Ae rfl (by grind[Hq,Ht])
     .refine Ad AD ?_;simp only[go_sem,hz,m1,m2,m3,m4,q1,q3,q2,q4,e2,e4];have qf:H8 x.kind x.sites.length=true:=Nj (by grind);have qa:x.sites.all D9=true->Da x=true:=fun ha=>by grind[Da]
      exact Sy x n l (fun hb=>qd (So hb)) _ _ _ _ _ (fun ha s'=>qc (qa ha) (qj (qa ha)) s') (Qy qf).1 _
   .refine Ad AD ?_;simp only[go_sem,hz,m1,m2,m3,m4,q1,q3,q2,q4];exact Ae rfl (by grind[Hq,Ht])
  .obtain⟨j,qU⟩:∃ j,i=j+1:=⟨i - 1,by grind⟩;obtain⟨p,hp,-,qC⟩:=Bl (show j<l.length by omega);have qb:=Aea p x (ho p qC) (ho x hm);have hd:IntKind.i64.wrap ((i:Int) - 1)=(j:Int):=by subst qU;exact Ayl AA
   cases hc:decide (0<=Cw p x);rotate_left
   .refine Ad AD ?_;simp only[go_sem,hz,hd,Ai,hp];refine Ax qb AB ?_;simp only[go_sem,hc];exact Ae rfl (by rw[Y1 h (by simp_all [Aaj])])
   have qj:Da x=true->Hv l i=true:=fun hb=>by simp_all [Aaj]
   cases m1:decide (x.seen<1);rotate_left
   .refine Ad AD ?_;simp only[go_sem,hz,hd,Ai,hp];refine Ax qb AB ?_;simp only[go_sem,hc,m1];exact Ae rfl (by grind[Sn,Ni])
   cases m2:decide (1073741824<x.seen);rotate_left
   .refine Ad AD ?_;simp only[go_sem,hz,hd,Ai,hp];refine Ax qb AB ?_;simp only[go_sem,hc,m1,m2];exact Ae rfl (by grind[Sn,Ni])
   cases m3:decide (x.missed<0);rotate_left
   .refine Ad AD ?_;simp only[go_sem,hz,hd,Ai,hp];refine Ax qb AB ?_;simp only[go_sem,hc,m1,m2,m3];exact Ae rfl (by grind[Sn,Ni])
   cases m4:decide (7<x.missed);rotate_left
   .refine Ad AD ?_;simp only[go_sem,hz,hd,Ai,hp];refine Ax qb AB ?_;simp only[go_sem,hc,m1,m2,m3,m4];exact Ae rfl (by grind[Sn,Ni])
   have qA:Qh x=true:=by simp at m1 m2 m3 m4;exact Aj5 AA AA AA AA
   rcases Ao3 x.kind with⟨q1,q3,q2,q4⟩ | ⟨q1,q3,q2,q4⟩ | ⟨q1,q3,q2,q4⟩ | ⟨q1,q3,q2,q4⟩ | ⟨q1,q3,q2,q4⟩
   .cases e2:((x.sites.length:Int)==2)
    .refine Ad AD ?_;simp only[go_sem,hz,hd,Ai,hp];refine Ax qb AB ?_;simp only[go_sem,hc,m1,m2,m3,m4,q1,q3,q2,q4,e2];exact Ae rfl (by grind[Hq,Ht])
    .refine Ad AD ?_;simp only[go_sem,hz,hd,Ai,hp];refine Ax qb AB ?_;simp only[go_sem,hc,m1,m2,m3,m4,q1,q3,q2,q4,e2];have qf:H8 x.kind x.sites.length=true:=Nj (by grind);have qa:x.sites.all D9=true->Da x=true:=fun ha=>by grind[Da]
     exact Sy x n l (fun hb=>qd (So hb)) _ _ _ _ _ (fun ha s'=>qc (qa ha) (qj (qa ha)) s') (Qy qf).1 _
   .cases e2:((x.sites.length:Int)==2)
    .refine Ad AD ?_;simp only[go_sem,hz,hd,Ai,hp];refine Ax qb AB ?_;simp only[go_sem,hc,m1,m2,m3,m4,q1,q3,q2,q4,e2];exact Ae rfl (by grind[Hq,Ht])
    .refine Ad AD ?_;simp only[go_sem,hz,hd,Ai,hp];refine Ax qb AB ?_;simp only[go_sem,hc,m1,m2,m3,m4,q1,q3,q2,q4,e2];have qf:H8 x.kind x.sites.length=true:=Nj (by grind);have qa:x.sites.all D9=true->Da x=true:=fun ha=>by grind[Da]
     exact Sy x n l (fun hb=>qd (So hb)) _ _ _ _ _ (fun ha s'=>qc (qa ha) (qj (qa ha)) s') (Qy qf).1 _
   .cases e2:((x.sites.length:Int)==4)
    .refine Ad AD ?_;simp only[go_sem,hz,hd,Ai,hp];refine Ax qb AB ?_;simp only[go_sem,hc,m1,m2,m3,m4,q1,q3,q2,q4,e2];exact Ae rfl (by grind[Hq,Ht])
    .refine Ad AD ?_;simp only[go_sem,hz,hd,Ai,hp];refine Ax qb AB ?_;simp only[go_sem,hc,m1,m2,m3,m4,q1,q3,q2,q4,e2];have qf:H8 x.kind x.sites.length=true:=Nj (by grind);have qa:x.sites.all D9=true->Da x=true:=fun ha=>by grind[Da]
     exact Sy x n l (fun hb=>qd (So hb)) _ _ _ _ _ (fun ha s'=>qc (qa ha) (qj (qa ha)) s') (Qy qf).1 _
   .cases e2:decide ((2:Int)<=(x.sites.length:Int))
    .refine Ad AD ?_;simp only[go_sem,hz,hd,Ai,hp];refine Ax qb AB ?_;simp only[go_sem,hc,m1,m2,m3,m4,q1,q3,q2,q4,e2];exact Ae rfl (by grind[Hq,Ht])
    .cases e4:decide ((x.sites.length:Int)<=4)
     .refine Ad AD ?_;simp only[go_sem,hz,hd,Ai,hp];refine Ax qb AB ?_;simp only[go_sem,hc,m1,m2,m3,m4,q1,q3,q2,q4,e2,e4];exact Ae rfl (by grind[Hq,Ht])
     .refine Ad AD ?_;simp only[go_sem,hz,hd,Ai,hp];refine Ax qb AB ?_;simp only[go_sem,hc,m1,m2,m3,m4,q1,q3,q2,q4,e2,e4];have qf:H8 x.kind x.sites.length=true:=Nj (by grind);have qa:x.sites.all D9=true->Da x=true:=fun ha=>by grind[Da]
      exact Sy x n l (fun hb=>qd (So hb)) _ _ _ _ _ (fun ha s'=>qc (qa ha) (qj (qa ha)) s') (Qy qf).1 _
   .refine Ad AD ?_;simp only[go_sem,hz,hd,Ai,hp];refine Ax qb AB ?_;simp only[go_sem,hc,m1,m2,m3,m4,q1,q3,q2,q4];exact Ae rfl (by grind[Hq,Ht])
 .simp only[go_sem,Bi h];exact Ae rfl (by grind[Aqa])
/-! entries that are added one by one -/
/-! changes -/
/-! a further run -/
def Aak{z:Bool}{t:Nat}{xs:List (List V)}(h:xs≠[]):SL z t xs=.lst t xs:=by simp[SL,h]
def Aws{σ:St}{m e bytes:Nat}{y:V}{ys:List (List V)}(hy:Eu σ m y=some ys)(hn:ys≠[])(hm:0<m)(hl:∀ r∈ys,r.length=m)(hb:ys.length*bytes<=140737488355328):
  Dz bytes (m,e) (.lst 1 []) y σ=some (.sl σ.length 0 0 ys.length m true,σ++[.row ys.flatten e 0 0]):=by
 have ql:(ys.all fun r=>r.length==m)=true:=by
  rw[B6];intro r hr;simp[hl r hr]
 have he:ys.isEmpty=false:=by simpa using hn
 unfold Dz;simp only[hy,Cy];unfold Jr;simp only;rw[if_pos ⟨ql,hm⟩];simp[he,hb]
def A67(z:Bool)(t:Nat)(l:List A0)(hn:l≠[])(hb:l.length<=1000000):Fn TT PT 22 [SL z t (l.map Aw)] (SL true 0 (l.map Aw)):=by
 have qs:l.map Aw≠[]:=by simpa using hn
 have ha:=Aws (σ:=[]) (m:=3) (e:=57) (bytes:=40) (y:=.lst t (l.map Aw)) (ys:=l.map Aw) rfl qs AA (G6 l) AJ;rw[Aak qs];refine Bc T22 rfl ?_;simp only[go_sem,ha];exact Rb (m:=3) (e:=57) (lo:=0) (.inr ⟨qs,0,0,rfl,rfl,An _⟩) AA (G6 l) (Lp l)
def Xc{T:Nat->Option AF}{pr:Nat->Option (List V->Option V)}{f p:Nat}{res:List AR}{body:AC}{vs:List V}{v:V}{σ:St}{P:St->Prop}(hT:T f=some ⟨p,res,true,body,none⟩)(hl:vs.length=p)
  (h:W T pr [.c body] (C6 0 vs) σ (Hd fun e' σ1=>Ca e' σ1 res=some v/\P σ1)) (hr:v.refs=[]) (ho:Cb v=true) (hP:∀ s,P s->Cl s/\σ.length<=s.length):∃ σ',Th T pr f vs σ v σ'/\P σ':=by
 obtain⟨e',σ1,hE,h1,h2⟩:=h;exact⟨σ1,Ae0 hT hl ⟨e',σ1,hE,h1,rfl⟩ hr ho (hP _ h2).2 (hP _ h2).1,h2⟩
def Uv{s:St}{cs:List V}{t:Nat}(h:Cl s)(hr:cs.all V.rowB=true):Cl (s++[.row cs t 0 0]):=Jg h (by simp only[Ob.refs,Ff hr];simp)
def okV(x:Ent):Prop:=Da x=true
def A05{n:Int}{l:List Ent}(h:H3 n l=true):l.length<=64/\Mz l/\(∀ x∈l,okV x)/\0<=n/\n<=1073741824:=by
 unfold H3 at h;simp only[Ak,decide_eq_true_eq]at h;exact⟨h.1.2,A1z h.2,A11 h.2,h.1.1.1,h.1.1.2⟩
/-! a further run -/
def A3w(l:List Ent):Ah (l.map Ent.row).flatten=[]:=Ff (Gl (J3 l))
def A3x{σ:St}{m e i g:Nat}{xs:List (List V)}{pre post:List V}{w:V}(ho:σ[i]?=some (.row xs.flatten e g 0))(hm:0<m)(hl:∀ r∈xs,r.length=m)(hr:∀ r∈xs,r.all V.rowB=true)(h1:pre.all V.rowB=true)(h2:post.all V.rowB=true)(hw:w.rowB=true):
  FR (.tup [.agg (pre++.sl i g 0 xs.length m true::post),w]) σ (.tup [.agg (pre++.lst 0 xs::post),w]):=by
 obtain⟨hi,jb⟩:=Al.1 ho;have hx:Ah xs.flatten=[]:=Ff (Gl hr)
 have qp:Ah (pre++V.sl i g 0 xs.length m true::post)=[i]:=by
  rw[Hn,Ff h1];simp only[Ah,Ff h2,V.refs,Ci,Bw]
 have h0:ren 0 [i] i=0:=by simp[ren,Yk]
 have qD:w.refs=[]:=Pj hw
 have qi:Gc w=true:=by cases w<;>simp[V.rowB]at hw<;>rfl
 have jf:w.ren (ren 0 [i])=w:=Zb _ w (by rw[qD];simp);refine .inr ⟨[i],?_,?_⟩
 .simp only[Hm,Cb,Gc,V.refs,Ah,qp,qD,Ace,Bp,Ce,U1 h1,U1 h2,V.cellB,qi,Bw];simp[Ef,jb,Ob.refs,hx,hi]
  cases w<;>simp[V.rowB]at hw<;>rfl
 .simp only[Lo,ho,Rx,A2,Bz,Ob.ren,Nh i _ (Gl hr),V.ren,Akw,Nh i _ h1,E6,Nh i _ h2,h0,jf,D8,Iw];have ha:OV [Ob.row xs.flatten e g 0] (.agg (pre++V.sl 0 g 0 xs.length m true::post)) (.agg (pre++.lst 0 xs::post)):=Sw (Auh (Zx h1) (.cons (Pz (i:=0) (g:=g) (e:=e) (z:=0) (w:=true) rfl hm hl hr) (Zx h2)));have jg:OV [Ob.row xs.flatten e g 0] w w:=H2 (by cases w<;>simp[V.rowB]at hw<;>rfl);exact congrArg (Option.map V.tup) (Sl (.cons ha (.cons jg .nil)) fun j hj=>Ml _ _ _ _ (Pe.2 hj))
def Ail{σ:St}{m e lo:Nat}{u w:V}{xs:List (List V)}{pre post:List V}(h:GW σ m e lo u xs)(hm:0<m)(hl:∀ r∈xs,r.length=m)(hr:∀ r∈xs,r.all V.rowB=true)(h1:pre.all V.rowB=true)(h2:post.all V.rowB=true)(hw:w.rowB=true):
  FR (.tup [.agg (pre++u::post),w]) σ (.tup [.agg (pre++SL true 0 xs::post),w]):=by
 rcases h with⟨rfl,rfl⟩ | ⟨hn,i,g,rfl,ho,qe⟩
 .refine Fp ?_;simp only[Bp,Ce,Df,Ace,h1,h2,Yn,Acg]
  cases w<;>simp[V.rowB]at hw<;>rfl
 .rw[S7 hn];exact A3x ho hm hl hr h1 h2 hw
def Awt{σ:St}{m e lo:Nat}{u:V}{xs:List (List V)}(h:GW σ m e lo u xs):Mc u=some (iV (xs.length:Int)):=by
 rcases h with⟨rfl,rfl⟩ | ⟨hn,i,g,rfl,ho,qe⟩<;>rfl
def Bby{T:Nat->Option AF}{pr:Nat->Option (List V->Option V)}{f p:Nat}{res:List AR}{body:AC}{vs:List V}{v:V}{σ':St}(hT:T f=some ⟨p,res,false,body,none⟩)(hl:vs.length=p)
  (h:W T pr [.c body] (C6 0 vs) [] (Hd fun e' σ1=>Ca e' σ1 res=some v/\σ1=σ')) (hr:∀ i∈v.refs,i<σ'.length) (ho:Cb v=true) (hc:Cl σ'):Vt T pr f vs v σ':=by
 obtain⟨F,h1,h2,h3⟩:=Uu hT hl h hr ho (Av _) hc;have e:=h1.symm.trans hT;cases e;exact⟨_,hT,rfl,rfl,h3⟩
def Bbz{σ:St}{args:List V}(h:Ah args=[])(σ0:St):own σ args σ0=σ++σ0.map (Ob.ren (·+σ.length)):=by
 unfold own;rw[Za h];rfl
def Ado{σ:St}{m e lo:Nat}{u:V}{xs:List (List V)}(h:GW σ m e lo u xs):Cb u=true:=by
 rcases h with⟨rfl,rfl⟩ | ⟨hn,i,g,rfl,ho,qe⟩<;>rfl
mutual
theorem A68(ρ:Nat->Nat):∀ v:V,(v.ren ρ).refs=v.refs.map ρ
 | .ptr i g o=>rfl
 | .sl i g o l m w=>rfl
 | .mp i=>rfl
 | .fn f a c=>by simp only[V.ren,V.refs,Y2 ρ a,Y2 ρ c,Dl]
 | .agg cs=>by simp only[V.ren,V.refs,Y2 ρ cs]
 | .tup cs=>by simp only[V.ren,V.refs,Y2 ρ cs]
 | .und=>rfl
 | .skp=>rfl
 | .bool _=>rfl
 | .int _ _=>rfl
 | .str _=>rfl
 | .nili=>rfl
 | .ifc=>rfl
 | .nils=>rfl
 | .nilp=>rfl
 | .nilf=>rfl
 | .lst _ _=>rfl
 | .imm _ _=>rfl
theorem Y2(ρ:Nat->Nat):∀ vs:List V,Ah (E6 ρ vs)=(Ah vs).map ρ
 | []=>rfl
 | v::r=>by simp only[E6,Ah,A68 ρ v,Y2 ρ r,Dl]
end
def Awu{T:Nat->Option AF}{pr:Nat->Option (List V->Option V)}{f p:Nat}{res:List AR}{body:AC}{vs:List V}{P:V->St->Prop}(hT:T f=some ⟨p,res,false,body,none⟩)(hl:vs.length=p)
  (h:W T pr [.c body] (C6 0 vs) [] (Hd fun e' σ1=>∃ v,Ca e' σ1 res=some v/\P v σ1)) (hP:∀ v s,P v s->Cl s/\Cb v=true/\∀ i∈v.refs,i<s.length):∃ v σ',Vt T pr f vs v σ'/\P v σ':=by
 obtain⟨e',σ1,hE,v,h1,h2⟩:=h;obtain⟨q1,q2,q3⟩:=hP _ _ h2;exact⟨v,σ1,Bby hT hl ⟨e',σ1,hE,h1,rfl⟩ q3 q2 q1,h2⟩
def Aj6{σ σ':St}{m e lo:Nat}{u:V}{xs:List (List V)}(h:GW σ m e lo u xs)(hk:∀ j,j<σ.length->σ'[j]?=σ[j]?):GW σ' m e lo u xs:=by
 rcases h with h | ⟨hn,i,g,h,ho,qe⟩
 .exact .inl h
 .exact .inr ⟨hn,i,g,h,(hk i (Al.1 ho).1).trans ho,qe⟩
theorem Aa5{σ:St}{m e lo Mf:Nat}{u:V}{xs:List (List V)}(h:GW σ m e lo u xs)(hl:Mf<=lo):GW σ m e Mf u xs:=by
 rcases h with h | ⟨hn,i,g,h,ho,qe⟩
 .exact .inl h
 .exact .inr ⟨hn,i,g,h,ho,by omega⟩
def Abj(σ:St)(v:V)(js:List Nat):Prop:=∀ i∈v.refs,i∈js/\∀ ob,σ[i]?=some ob->∀ j∈ob.refs,j∈js
def ON(σ:St)(v v':V):Prop:=∀ js:List Nat,Abj σ v js->∀ d,Fh σ js (d+3) v=some v'
def OW(σ:St)(v v':V):Prop:=∀ js:List Nat,Abj σ v js->Gy σ js v=some v'
inductive ONs (σ:St):List V->List V->Prop
 | nil:ONs σ [] []
 | cons {v v':V} {vs qg:List V}:ON σ v v'->ONs σ vs qg->ONs σ (v::vs) (v'::qg)
inductive OWs (σ:St):List V->List V->Prop
 | nil:OWs σ [] []
 | cons {v v':V} {vs qg:List V}:OW σ v v'->OWs σ vs qg->OWs σ (v::vs) (v'::qg)
def P3{σ:St}{v v':V}(h:OC σ v v'):ON σ v v':=fun js hj d=>h js (fun i hi=>(hj i hi).1) (d+1)
def Aym{σ:St}{v v':V}(h:OV σ v v'):OW σ v v':=fun js hj=>h js fun i hi=>(hj i hi).1
def Bm8{σ:St}{i g m e z:Nat}{w:Bool}{xs qt:List (List V)}(ho:σ[i]?=some (.row xs.flatten e g z))(hm:0<m)(hl:∀ r∈xs,r.length=m)(hc:OCs σ xs.flatten qt.flatten)(jp:∀ r∈qt,r.length=m)(hn:qt.length=xs.length):
  ON σ (.sl i g 0 xs.length m w) (.lst 0 qt):=by
 intro js hj d
 have hi:js.elem i=true:=by
  have:=(hj i AS).1;simpa using this
 have qV:∀ j∈Ah xs.flatten,j∈js:=(hj i AS).2 _ ho;have hf:=Ga hl;unfold Fh;rw[if_neg AQ];simp only[hi,if_true,ho];rw[if_pos ⟨trivial,hm,by omega⟩,Jd,<-hf,Dg,Aj0 hc qV]
 grind[Ue]
def Au3{σ:St}{js:List Nat}{d:Nat}:∀ {vs qg:List V},ONs σ vs qg->(∀ v∈vs,Abj σ v js)->vs.mapM (Fh σ js (d+3))=some qg
 | _,_,.nil,_=>rfl
 | _,_,.cons h hs,hj=>by
  rw[J1,h js (hj _ Cr) d,Au3 hs fun v hv=>hj v (Db _ hv)];rfl
def Aj7{σ:St}{js:List Nat}:∀ {vs qg:List V},OWs σ vs qg->(∀ v∈vs,Abj σ v js)->vs.mapM (Gy σ js)=some qg
 | _,_,.nil,_=>rfl
 | _,_,.cons h hs,hj=>by
  rw[J1,h js (hj _ Cr),Aj7 hs fun v hv=>hj v (Db _ hv)];rfl
theorem Aed:∀ {cs:List V} {c:V},c∈cs->∀ i∈c.refs,i∈Ah cs
 | _::cs,c,h,i,hi=>by
  simp only[Ah,Ch];rcases Bo.1 h with rfl | h
  .grind
  .exact .inr (Aed h i hi)
def Ak5{σ:St}{cs cs':List V}(h:ONs σ cs cs'):OW σ (.agg cs) (.agg cs'):=fun js hj=>by
 simp only[Gy];rw[Au3 (d:=6) h fun v hv i hi=>hj i (Aed hv i hi)];rfl
def A69(σ:St):∀ (d:Nat) (js:List Nat) (i:Nat),i∈js->∀ ob,σ[i]?=some ob->∀ j∈ob.refs,j∈Fy σ (d+1) js:=by
 intro d js i hi ob ho j hj;simp only[Fy];by_cases jo:j∈js
 .grind[Ml]
 .have ja:j∈(js.flatMap fun i=>match σ[i]? with
   | some ob=>ob.refs
   | none=>[]).filter fun i=>!js.elem i:=by
   rw[Rz];refine⟨List.mem_flatMap.2 ⟨i,hi,?_⟩,?_⟩
   .grind
   .grind
  rw[if_neg (by
   grind)]
  grind[Ml,List.mem_eraseDups]
def Ar9{σ:St}{v:V}{js:List Nat}(h:∀ i∈v.refs,i∈js):Abj σ v (Fy σ 9 js):=fun i hi=>⟨Ml σ 9 _ i (h i hi),fun ob ho j hj=>A69 σ 8 js i (h i hi) ob ho j hj⟩
def Bb0{σ:St}{vs qg:List V}(h:OWs σ vs qg):Dw σ vs=some qg:=Aj7 h fun v hv=>Ar9 fun i hi=>Pe.2 (Aed hv i hi)
def A3y{T:Nat->Option AF}{pr:Nat->Option (List V->Option V)}{f:Nat}{vs us us':List V}{σ0:St}(h:Vt T pr f vs (.tup us) σ0)(ho:OWs σ0 us us'):Fn T pr f vs (.tup us'):=by
 obtain⟨F,h1,h2,h3,h4⟩:=h;refine⟨F,h1,h2,h3,_,_,h4,?_⟩;unfold D8 Iw;simp only;rw[Aj7 ho fun v hv=>Ar9 fun i hi=>Pe.2 (by grind[V.refs,Aed])];rfl
/-! entries whose sites are lists of their own -/
def Ea(p:V × Ent):List V:=(eR p.2 p.1)
def NG(s:St)(lo:Nat)(u:V)(L:List (V × Ent)):Prop:=GW s 4 55 lo u (L.map Ea)/\∀ p∈L,p.2.sites≠[]/\GW s 3 57 lo p.1 (p.2.sites.map Aw)
def Rl(L:List (V × Ent)):List (List V):=L.map fun p=>p.2.own.row
theorem Lq(L:List (V × Ent)):∀ r∈L.map Ea,r.length=4:=by
 intro r hr;obtain⟨p,-,rfl⟩:=Cs.1 hr;rfl
def A7a(L:List (V × Ent)):∀ r∈Rl L,r.length=4:=by
 intro r hr;obtain⟨p,-,rfl⟩:=Cs.1 hr;rfl
def Awv{s:St}{lo:Nat}:∀ {L:List (V × Ent)},(∀ p∈L,p.2.sites≠[]/\GW s 3 57 lo p.1 (p.2.sites.map Aw))->OCs s (L.map Ea).flatten (Rl L).flatten
 | [],_=>.nil
 | p::L,h=>by
  have h1:=I1 (h p Cr).2 AA (G6 _) (Lp _);exact .cons (Em rfl) (.cons h1 (.cons (Em rfl) (.cons (Em rfl) (Awv fun q hq=>h q (Db _ hq)))))
def Al9{s:St}{lo:Nat}{u:V}{L:List (V × Ent)}(h:NG s lo u L):ON s u (SL true 0 (Rl L)):=by
 obtain⟨h1 | ⟨hn,i,g,rfl,ho,qe⟩,h2⟩:=h
 .obtain⟨rfl,h1⟩:=h1;obtain rfl:L=[]:=by simp_all
  exact P3 (Em rfl)
 .have qZ:Rl L≠[]:=by
   intro e;apply hn;have:L=[]:=by simpa[Rl] using e
   rw[this];rfl
  rw[S7 qZ];exact Bm8 ho AA (Lq L) (Awv h2) (A7a L) (by simp[Rl])
def Bm9{s:St}{lo:Nat}{u:V}{L:List (V × Ent)}(h:NG s lo u L)(n:Int):OW s (.agg [iV n,u]) (.agg [iV n,SL true 0 (Rl L)]):=Ak5 (.cons (P3 (Em rfl)) (.cons (Al9 h) .nil))
section
variable {Q:Env->St->Prop} {e:Env} {σ:St} {k:List It} {l:List AI} {kill:List Nat} {f:Nat} {args vs:List V} {v:V} {d:Option Nat}
def Ama(hx:OWs σ args vs)(hf:Fn TT PT f vs v)(qT:v.flatV=true)(h:WR TT PT l kill k (e.putO d v) σ Q):WX TT PT (.call f args) d l kill k e σ Q:=
 Jf (.pure (Bb0 hx) hf) (by unfold after;rw[if_pos qT];exact h)
end
theorem A3z(a:List V)(k:Nat):∀ i∈Ah (a.take k),i∈Ah a:=by
 grind[Hn,List.take_append_drop]
theorem A30(a:List V)(k:Nat):∀ i∈Ah (a.drop k),i∈Ah a:=by
 intro i hi;have:=Hn (a.take k) (a.drop k)
 simp_all
def Ah4{σ σ':St}{m e lo bytes:Nat}{u u' y:V}{xs ys:List (List V)}(h:GW σ m e lo u xs)(hy:Eu σ m y=some ys)(ha:Dz bytes (m,e) u y σ=some (u',σ'))(hx:∀ i∈Ah xs.flatten,i<σ.length)(hz:∀ i∈Ah ys.flatten,i<σ.length)(hc:Cl σ):Cl σ':=by
 unfold Dz at ha;simp only[hy,Cy]at ha;unfold Jr at ha
 split at ha
 .rcases h with⟨rfl,rfl⟩ | ⟨hn,i,g,rfl,ho,qe⟩
  .simp only at ha
   split at ha
   .split at ha
    .grind
    .cases ha;exact Jg hc fun i hi=>Ty (hz i hi)
   grind
  .simp only at ha
   split at ha
   .simp only[ho,if_true]at ha
    grind[Fi,Ob.refs,Hn,A3z,A30]
   grind
 grind
def Aj8{s:St}{lo:Nat}:∀ {L:List (V × Ent)},(∀ p∈L,p.2.sites≠[]/\GW s 3 57 lo p.1 (p.2.sites.map Aw))->∀ i∈Ah (L.map Ea).flatten,i<s.length
 | [],_,i,hi=>by cases hi
 | p::L,h,i,hi=>by
  simp only[A2,Fe,Hn,Ea,Ah,V.refs,Ci,Bw,Ch]at hi;rcases hi with hi | hi
  .exact Ee (h p Cr).2 i hi
  .exact Aj8 (fun q hq=>h q (Db _ hq)) i AA
def Asa{s s':St}{m m' e e' qI n:Nat}{u w:V}{ys:List (List V)}(he:e≠e')(hu:u=.nils\/∃ i g cs,u=.sl i g 0 n m true/\s[i]?=some (.row cs e g 0))(h:GW s m' e' qI w ys)(hf:∀ j,(∀ i g,u=.sl i g 0 n m true->j≠i)->j<s.length->s'[j]?=s[j]?):GW s' m' e' qI w ys:=by
 rcases h with h | ⟨hn,j,g,rfl,ho,qe⟩
 .exact .inl h
 .refine .inr ⟨hn,j,g,rfl,?_,qe⟩
  grind
def Aqc{s:St}{m e lo:Nat}{u:V}{xs:List (List V)}(h:GW s m e lo u xs):u=.nils\/∃ i g cs,u=.sl i g 0 xs.length m true/\s[i]?=some (.row cs e g 0):=by
 rcases h with⟨rfl,-⟩ | ⟨-,i,g,rfl,ho,-⟩
 .grind
 grind
def Aee{s s':St}{lo:Nat}{u:V}{L:List (V × Ent)}(h:NG s lo u L)(hk:∀ j,lo<=j->j<s.length->s'[j]?=s[j]?):NG s' lo u L:=by
 have hg:∀ {m e:Nat} {w:V} {ys:List (List V)},GW s m e lo w ys->GW s' m e lo w ys:=by
  intro m e w ys hw;rcases hw with hw | ⟨hn,j,g,rfl,ho,qe⟩
  .exact .inl hw
  .exact .inr ⟨hn,j,g,rfl,(hk j qe (Al.1 ho).1).trans ho,qe⟩
 exact⟨hg h.1,fun p hp=>⟨(h.2 p hp).1,hg (h.2 p hp).2⟩⟩
def Bg6{s:St}{lo:Nat}:NG s lo .nils []:=⟨De,fun p hp=>by cases hp⟩
/-! copies of entries, with lists of their own -/
def A31(x:Ent):Cw x x=0:=(lin_p.zero x.ks x.ks).2 rfl
def Asb(z z':Bool)(t t':Nat)(l:List Ent)(ho:K4 l)(hl:l.length<=1000000):Fn TT PT 10 [SL z t (l.map Ent.row),SL z' t' (l.map Ent.row)] (.bool true):=by
 refine Bc T10 rfl ?_;simp only[go_sem,Aj,bne_self_eq_false];refine Bh (fun i=>l.length - i) (fun i:Nat=>[(0,SL z t (l.map Ent.row)),(1,SL z' t' (l.map Ent.row)),(12,iV l.length),(13,iV i)]) (fun _=>[]) (fun i=>i<=l.length) ?_ 0 AA;rintro i hi ih;refine Az Bkq ?_;rcases Bb i l.length with h | h
 .obtain⟨x,hx,-,hm⟩:=Bl h;have hc:=Aea x x (ho x hm) (ho x hm);rw[A31]at hc;simp only[Q0]at hc;simp only[go_sem,Ar h];refine Ad AD ?_;simp only[go_sem,Ai,hx];refine Ax hc AB ?_;simp only[go_sem,bne_self_eq_false,Ai,hx,Ay (show i<9223372036854775807 by omega)];exact Am (ih (i+1) AA AA) rfl
 .simp only[go_sem,Bi h];exact F5 rfl
def Asd(z z':Bool)(t t':Nat)(n:Int)(l:List Ent)(ho:K4 l)(hl:l.length<=1000000):Fn TT PT 9 [.agg [iV n,SL z t (l.map Ent.row)],.agg [iV n,SL z' t' (l.map Ent.row)]] (.bool true):=by
 have hs:=Asb z z' t t' l ho hl;refine Bc T9 rfl ?_;simp only[go_sem,beq_self_eq_true];refine Ab hs AB ?_;simp only[go_sem];exact F5 rfl
def A06(x:Item)(hx:x.ok){p n:Nat}(hp:0<p)(hn:n<=4)(A B C:V)(K S M:Int)(base:St)(k:List It)(Q:Env->St->Prop)
  (qz:∀ u s,Cl s->p+2<=s.length->(∀ j,j<p->s[j]?=base[j]?)->s[p+1]?=some (.row [iV K,u,iV S,iV M] 55 0 0)->GW s 3 57 (p+2) u (((x.nums.take n).map Nq).map Aw) ->
   W TT PT k [(3,.ptr 0 0 0),(6,.ptr (p+1) 0 0),(11,A),(12,B),(13,C),(49,.sl p 0 3 n 1 false),(50,iV n),(51,iV n)] s Q) :
  ∀ a:Nat × V × St,(a.1<=n/\Cl a.2.2/\p+2<=a.2.2.length/\(∀ j,j<p->a.2.2[j]?=base[j]?)/\a.2.2[p]?=some (.row x.row 115 0 0)/\a.2.2[p+1]?=some (.row [iV K,a.2.1,iV S,iV M] 55 0 0)/\GW a.2.2 3 57 (p+2) a.2.1 (((x.nums.take a.1).map Nq).map Aw)) ->
   W TT PT (.l [3,6,11,12,13,49,50,51] lp18_0::.b 2::k) [(3,.ptr 0 0 0),(6,.ptr (p+1) 0 0),(11,A),(12,B),(13,C),(49,.sl p 0 3 n 1 false),(50,iV n),(51,iV a.1)] a.2.2 Q:=by
 refine Bh (α:=Nat × V × St) (fun a=>n - a.1) _ _ _ ?_;rintro⟨j,u,s⟩ ⟨hj,qw,hl,h0,h1,h2,hg⟩ ih;simp only at hj qw hl h0 h1 h2 hg ih;refine Az Bk5 ?_;rcases Bb j n with h | h
 .obtain⟨m,hm,-,-⟩:=Bl (l:=x.nums) (i:=j) (by simp[Item.nums];omega)
  have qo:m<256:=by
   have:=F0 hm;simp[Item.nums]at this;unfold Item.ok at hx;omega
  have qH:Mf (some (.row x.row 115 0 0)) 0 1 true (3+j)=some (.int .u8 (m:Int)):=by
   have:j=0\/j=1\/j=2\/j=3:=by omega
   rcases this with rfl | rfl | rfl | rfl<;>simp[Item.nums]at hm<;>subst hm<;>rfl
  rw[Ajb]at qH h1;obtain⟨u1,s1,e1,g1,l1,-,f1⟩:=G9 (bytes:=40) (y:=.lst 1 [Aw (Nq m)]) (ys:=[Aw (Nq m)]) hg hl rfl AA (G6 _) (by simp[Aw]) AJ;have qx:Cl s1:=Aik hg rfl e1 (Ff (Gl (Lp _))) (by simp[Aw,Ah,V.refs]) qw
  have qy:Cl (s1.set (p+1) (.row [iV K,u1,iV S,iV M] 55 0 0)):=Fi qx fun i hi=>by
   simp only[Ob.refs,Ah,V.refs,Bw,Ci]at hi;exact Ee g1 i hi
  simp only[Aw]at e1;have q0:∀ j,j<p->s1[j]?=base[j]?:=fun j hj=>(f1 j AA).trans (h0 j hj)
  have q1:=(f1 p AA).trans h1;have q2:=(f1 (p+1) AA).trans h2;simp only[go_sem,Ar h,Lt h,h1,qH,Ajb];refine Ad AD ?_;simp only[go_sem,h2];refine Ax (Bbm m qo) rfl ?_;simp only[go_sem,e1,Aw];refine J6 (by repeat (first | exact trivial | refine⟨.inl AK,?_⟩ | refine⟨by rfl,?_⟩ | refine⟨.inr ⟨by rfl,by rfl⟩,?_⟩)) (by repeat (first | exact trivial | refine⟨.inl AK,?_⟩ | refine⟨by rfl,?_⟩ | refine⟨.inr ⟨by rfl,by rfl⟩,?_⟩)) ?_;simp only[go_sem,q2,Lc (Bx g1),Bx g1];refine J6 (by repeat (first | exact trivial | refine⟨.inl AK,?_⟩ | refine⟨by rfl,?_⟩ | refine⟨.inr ⟨by rfl,by rfl⟩,?_⟩)) (by repeat (first | exact trivial | refine⟨.inl AK,?_⟩ | refine⟨by rfl,?_⟩ | refine⟨.inr ⟨by rfl,by rfl⟩,?_⟩)) ?_;simp only[go_sem,Ay (show j<9223372036854775807 by omega)];have e2:∀ j,j<p->(s1.set (p+1) (.row [iV K,u1,iV S,iV M] 55 0 0))[j]?=base[j]?:=fun j hj=>by rw[Bk AA];exact q0 j hj
  refine Am (ih (j+1,u1,s1.set (p+1) (.row [iV K,u1,iV S,iV M] 55 0 0)) AJ ⟨by simp;omega,qy,by simp;omega,e2,?_,?_,?_⟩) rfl
  .simp only[Ajb];rw[Bk AA];exact q1
  .simp only;rw[Bv AA]
  .simp only;rw[A3r hm];exact Dv g1 AA
 .obtain rfl:j=n:=by omega
  simp only[go_sem,Bi h];exact qz u s qw hl h0 h2 hg
def Ayn{σ:St}{v v':V}(h:ON σ v v')(hc:v.cellB=true):OW σ v v':=fun js hj=>by
 have:=h js hj 6;unfold Gy
 grind[Fh,V.rowB]
def A32{m:Nat}{xs:List (List V)}(hl:∀ r∈xs,r.length=m){i:Nat}(hi:i<=xs.length):xs.flatten.drop (i*m)=(xs.drop i).flatten:=by
 have h1:xs.flatten=(xs.take i).flatten++(xs.drop i).flatten:=by rw[<-Yg,Ja]
 grind[Ga,List.length_take]
def A33{m:Nat}{xs:List (List V)}(hl:∀ r∈xs,r.length=m){i:Nat}(hi:i<=xs.length):Fk m i xs.flatten=xs.take i:=by
 grind[List.take_append_drop,Ac5]
def A34{σ:St}{m e lo:Nat}{u:V}{xs:List (List V)}(h:GW σ m e lo u xs)(hl:∀ r∈xs,r.length=m){i:Nat}(hi:i<=xs.length):
  ∃ a,Hf m u none (some (iV (i:Int))) none=some a/\∀ σ':St,(∀ j,j<σ.length->σ'[j]?=σ[j]?)->Eu σ' m a=some (xs.take i):=by
 rcases h with⟨rfl,rfl⟩ | ⟨hn,b,g,rfl,ho,qe⟩
 .obtain rfl:i=0:=by grind
  exact⟨.nils,rfl,fun _ _=>rfl⟩
 .refine⟨.sl b g (0+0*m) (i - 0) m true,?_,fun σ' hk=>?_⟩
  .grind[Hf,Du]
  .have:=(hk b (Al.1 ho).1).trans ho;have hf:=Ga hl;have qX:i*m<=xs.length*m:=Fl m hi;simp only[Eu,this]
   simp_all [A33]
def A35{σ:St}{m e lo:Nat}{u:V}{xs:List (List V)}(h:GW σ m e lo u xs)(hl:∀ r∈xs,r.length=m){i:Nat}(hi:i<=xs.length):
  ∃ a,Hf m u (some (iV (i:Int))) none none=some a/\∀ σ':St,(∀ j,j<σ.length->σ'[j]?=σ[j]?)->Eu σ' m a=some (xs.drop i):=by
 rcases h with⟨rfl,rfl⟩ | ⟨hn,b,g,rfl,ho,qe⟩
 .obtain rfl:i=0:=by grind
  exact⟨.nils,rfl,fun _ _=>rfl⟩
 .refine⟨.sl b g (0+i*m) (xs.length - i) m true,?_,fun σ' hk=>?_⟩
  .grind[Hf,Du]
  .have:=(hk b (Al.1 ho).1).trans ho;have hf:=Ga hl;have qX:i*m+(xs.length - i)*m=xs.length*m:=by rw[<-Qu];congr 1;omega
   simp only[Eu,this];rw[if_pos ⟨trivial,trivial,by omega⟩,F9,A32 hl hi]
   grind[Ue,List.length_drop]
def Boy{τ:St}{i x t:Nat}{a b c d:V}{e:Env}(h:τ[i]?=some (.row [a,b,c,d] t 0 0))(h1:e.get x=.ptr i 0 0):Ca e τ [AR.cell x 4 false]=some (.agg [a,b,c,d]):=by
 simp only[Ca,Gs,h1,H6,h];rfl
def Bg7{a s:St}(h:∀ j,j<a.length->s[j]?=a[j]?):∃ J,s=a++J:=⟨s.drop a.length,Tx fun j=>by
 grind⟩
def A07{σ:St}{w:V}{x:Ent}(hc:Cl σ)(hw:∀ J:St,Eu (σ++J) 3 w=some (x.sites.map Aw))(qi:w.cellB=true)(qD:∀ i∈w.refs,i<σ.length)(hn:x.sites≠[])(hb:x.sites.length<=1000000):
  ∃ w' J,Bt TT PT 30 [.agg (eR x w)] σ (.agg (eR x w')) (σ++J)/\Cl (σ++J)/\GW (σ++J) 3 57 σ.length w' (x.sites.map Aw):=by
 have qs:x.sites.map Aw≠[]:=by simpa using hn
 obtain⟨w',s1,e1,g1,l1,-,f1⟩:=G9 (lo:=σ.length+2) (σ:=σ++[eO x w,.row [iV 0,.nils,iV 0,iV 0] 55 0 0]) (m:=3) (e:=57) (bytes:=40) (y:=w) (ys:=x.sites.map Aw) De AE (hw _) AA AE (G6 _) (by grind);rw[Ci]at g1;have qk:=Bx g1
 have qQ:Cl (σ++[eO x w,.row [iV 0,.nils,iV 0,iV 0] 55 0 0]):=by
  have:=Jg (ob:=eO x w) hc fun i hi=>by
   grind[Ob.refs,Ah,V.refs,Nat.lt_succ_of_lt]
  have:=Jg (ob:=.row [iV 0,.nils,iV 0,iV 0] 55 0 0) this AT;simpa using this
 have qR:Cl s1:=Aik (De (lo:=σ.length+2)) (hw _) e1 rfl (Ff (Gl (Lp _))) qQ
 have hk:∃ J:St,s1=σ++[eO x w,.row [iV 0,.nils,iV 0,iV 0] 55 0 0]++J:=by
  exact Bg7 fun j hj=>f1 j (by grind)
 obtain⟨J,rfl⟩:=hk
 have hS:∀ a b:Ob,((σ++[eO x w,Ob.row [iV 0,.nils,iV 0,iV 0] 55 0 0]++J).set σ.length a).set (σ.length+1) b=σ++(a::b::J):=fun a b=>by
  simp_all
 have g2:GW (σ++(eO x w'::eO x w'::J)) 3 57 (σ.length+2) w' (x.sites.map Aw):=by
  rw[<-hS];exact Dv (Dv g1 AA) AA
 have c2:Cl (σ++(eO x w'::eO x w'::J)):=by
  rw[<-hS];refine Fi (Fi qR fun i hi=>?_) fun i hi=>?_
  .simp only[Ob.refs,Ah,V.refs,Ci,Bw]at hi;exact Ee g1 i hi
  .rw[Jc];simp only[Ob.refs,Ah,V.refs,Ci,Bw]at hi;exact Ee g1 i hi
 refine⟨w',_,Uu T30 rfl ?_ (fun i hi=>?_) ?_ AE c2,c2,Aa5 g2 AA⟩
 .simp only[Dk,Jb,Ci]at e1;simp only[go_sem,Lc qi,qi,e1,Lc qk,qk];exact⟨Boy (Ajy _ _ 1) rfl,rfl⟩
 .simp only[V.refs,Ah,Ci,Bw]at hi;exact Ee g2 i hi
 .simp only[Cb,Gc,Bp,Ce,Yn,qk];rfl
def Dj(L:List (V × Ent)):Prop:=L.Pairwise fun p q=>∀ i∈p.1.refs,i ∉ q.1.refs
def Au4{σ:St}{lo:Nat}{u w:V}{L:List (V × Ent)}{x:Ent}{i:Nat}(hc:Cl σ)(hg:NG σ lo u L)(qe:lo<=σ.length)(hi:i<=L.length)(hb:L.length<=100000)(hw:GW σ 3 57 lo w (x.sites.map Aw))(hx:x.sites≠[])(qE:x.sites.length<=1000000):
  ∃ u' σ' w',Bt TT PT 33 [u,iV (i:Int),.agg (eR x w)] σ u' σ'/\Cl σ'/\σ.length<=σ'.length/\(∀ j,j<σ.length->σ'[j]?=σ[j]?)/\NG σ' lo u' (L.take i++(w',x)::L.drop i)/\∀ j∈w'.refs,σ.length<=j:=by
 have qi:=Bx hw;have hL:(L.map Ea).length=L.length:=Aj ..;obtain⟨a,ha,ra⟩:=A34 hg.1 (Lq L) (i:=i) AA;obtain⟨b,qP,rb⟩:=A35 hg.1 (Lq L) (i:=i) AA;rw[<-R3]at ra;rw[<-Ach]at rb;have hr:∀ {L':List (V × Ent)},(∀ p∈L',p∈L)->∀ i∈Ah (L'.map Ea).flatten,i<σ.length:=fun qO=>Aj8 fun p hp=>hg.2 p (qO p hp)
 have c1:Cl (σ++[eO x w]):=Jg hc fun j hj=>by
  simp only[Ob.refs,Ah,V.refs,Ci,Bw]at hj;exact Ty (Ee hw j hj)
 have qJ:=ra (σ++[eO x w]) fun j hj=>C3 hj
 obtain⟨u1,s1,e1,g1,l1,-,f1⟩:=G9 (lo:=σ.length+1) (σ:=σ++[eO x w]) (m:=4) (e:=55) (bytes:=48) (y:=a) De AE qJ AA AE (Lq _) (by grind);rw[Ci]at g1;simp only[Aq,Bg,Dq]at l1;have c2:Cl s1:=Ah4 (De (lo:=σ.length+1)) qJ e1 (by simp[Ah]) (fun j hj=>by grind) c1;have k1:∀ j,j<σ.length->s1[j]?=σ[j]?:=fun j hj=>(f1 j AA).trans (C3 hj)
 have q1:s1[σ.length]?=some (eO x w):=(f1 _ AA).trans (Nc ..);have qk:GW s1 3 57 lo w (x.sites.map Aw):=Aj6 hw k1
 obtain⟨w',J,qS,c3,g2⟩:=A07 (w:=w) (x:=x) c2 (fun J=>by
  rcases H0 (l:=J) qk with⟨rfl,h0⟩ | ⟨hn,ib,g,rfl,ho,-⟩
  .simp_all
  .simp only[Eu,ho];have hf:=Ga (G6 x.sites)
   rw[if_pos ⟨trivial,trivial,by omega⟩,Jd,Ue (G6 _)]) qi (Ee qk) hx qE
 have qq:=Bx g2;have qr:=H0 (l:=J++[Ob.row (Ea (w',x)) 55 0 0]) g1
 have c4:Cl (s1++J++[Ob.row (Ea (w',x)) 55 0 0]):=Jg c3 fun j hj=>by
  simp only[Ob.refs,Ea,Ah,V.refs,Ci,Bw]at hj;exact Ty (Ee g2 j hj)
 rw[<-Dk]at qr;have jc:(s1++J++[Ob.row (Ea (w',x)) 55 0 0])[(s1++J).length]?=some (.row (Ea (w',x)) 55 0 0):=Nc ..
 have ry:Eu (s1++J++[Ob.row (Ea (w',x)) 55 0 0]) 4 (.sl (s1++J).length 0 0 1 4 true)=some [Ea (w',x)]:=by
  simp only[Eu,jc];rfl
 obtain⟨u2,s2,e2,g3,l2,qL,f2⟩:=G9 (bytes:=48) qr (by grind) ry AA (Lq _) (Lq [(w',x)]) (by grind)
 have ji:∀ j∈Ah ((L.take i).map Ea).flatten,j<(s1++J++[Ob.row (Ea (w',x)) 55 0 0]).length:=fun j hj=>by
  have:=hr (L':=L.take i) (fun p hp=>Jz hp) j hj
  grind
 have jj:∀ j∈Ah [Ea (w',x)].flatten,j<(s1++J++[Ob.row (Ea (w',x)) 55 0 0]).length:=fun j hj=>by
  simp only[Fe,Acc,Bw,Ea,Ah,V.refs,Ci]at hj;have:=Ee g2 j hj
  grind
 have c5:Cl s2:=Ah4 qr ry e2 ji jj c4;simp only[Aq,Bg,Dq]at l2
 have k2:∀ j,j<σ.length->s2[j]?=σ[j]?:=fun j hj=>by
  grind
 have qN:GW s2 3 57 s1.length w' (x.sites.map Aw):=Asa AA (Aqc qr) (H0 g2) qL;have qK:=rb s2 k2
 have qn:∀ r∈(L.take i).map Ea++[Ea (w',x)],r.length=4:=fun r hr=>by
  rcases Ch.1 hr with h | h
  .grind[Lq]
  .rw[D4.1 h];rfl
 obtain⟨u3,s3,e3,g4,l3,qM,f3⟩:=G9 (bytes:=48) g3 AA qK AA qn (Lq _) (by grind)
 have c6:Cl s3:=Ah4 g3 qK e3 (fun j hj=>by
  rw[Yg,Hn]at hj;rcases Ch.1 hj with h | h
  .grind
  grind) (fun j hj=>by have:=hr (L':=L.drop i) (fun p hp=>Vz hp) j hj;omega) c5
 have k3:∀ j,j<σ.length->s3[j]?=σ[j]?:=fun j hj=>(f3 j AA).trans (k2 j hj)
 have qu:GW s3 3 57 s1.length w' (x.sites.map Aw):=Asa AA (Aqc g3) qN qM;refine⟨u3,s3,w',Uu T33 rfl ?_ (Ee g4) (Ado g4) AA c6,c6,by omega,k3,⟨?_,?_⟩,fun j hj=>?_⟩
 rotate_right
 .rcases qu with⟨rfl,-⟩ | ⟨-,ib,gb,rfl,-,qY⟩
  .grind[V.refs]
  grind[V.refs]
 .simp only[Ea,Dk,Aq]at e2;simp only[go_sem,Lc qi,qi,ha,e1,q1];refine Aa qS ?_;simp only[go_sem,Lc qq,qq,e2,qP,e3];exact⟨rfl,rfl⟩
 .grind[Aa5]
 .intro p hp;rcases Ch.1 hp with h | h
  .exact⟨(hg.2 p (Jz h)).1,Aj6 (hg.2 p (Jz h)).2 k3⟩
  .rcases Bo.1 h with rfl | h
   .grind[Aa5]
   .exact⟨(hg.2 p (Vz h)).1,Aj6 (hg.2 p (Vz h)).2 k3⟩
def Aj9{L:List (V × Ent)}{l:List Ent}(h:L.map (·.2)=l)(ho:∀ x∈l,x.own=x):Rl L=l.map Ent.row:=by
 grind[Rl,List.map_congr_left]
def A14{σ:St}{lo:Nat}{u w:V}{L:List (V × Ent)}{l:List Ent}{x:Ent}(hc:Cl σ)(hg:NG σ lo u L)(qe:lo<=σ.length)(hL:L.map (·.2)=l)(qB:∀ y∈l,y.own=y)(jh:x.own=x)(hb:l.length<=100000)(ho:K4 l)
  (hw:GW σ 3 57 lo w (x.sites.map Aw)) (hx:x.sites≠[]) (qE:x.sites.length<=1000000) :
  ∃ u' σ' L',Bt TT PT 19 [u,.agg (eR x w)] σ u' σ'/\Cl σ'/\σ.length<=σ'.length/\(∀ j,j<σ.length->σ'[j]?=σ[j]?)/\NG σ' lo u' L'/\L'.map (·.2)=K0 x l/\(Dj L->Dj L'):=by
 have qi:=Bx hw;have je:=Bx hg.1;have jk:L.length=l.length:=by rw[<-hL,Aj]
 have hp:=Ai9 true 0 l x AA ho AA
 have c1:Cl (σ++[eO x w]):=Jg hc fun j hj=>by
  simp only[Ob.refs,Ah,V.refs,Ci,Bw]at hj;exact Ty (Ee hw j hj)
 have k1:∀ j,j<σ.length->(σ++[eO x w]:St)[j]?=σ[j]?:=fun j hj=>C3 hj
 have qm:NG (σ++[eO x w]) lo u L:=Aee hg fun j _ hj=>k1 j hj
 have qk:GW (σ++[eO x w]) 3 57 lo w (x.sites.map Aw):=H0 hw;have o1:=Ayn (Al9 qm) je;rw[Aj9 hL qB]at o1
 have oe:OW (σ++[eO x w]) (.agg (eR x w)) (.agg x.row):=by
  have:=Ak5 (σ:=σ++[eO x w]) (.cons (P3 (Em (v:=iV x.kind) rfl)) (.cons (P3 (I1 qk AA (G6 _) (Lp _))) (.cons (P3 (Em (v:=iV x.seen) rfl)) (.cons (P3 (Em (v:=iV x.missed) rfl)) .nil))));have e:x.row=x.own.row:=by rw[jh]
  rw[e];exact this
 have ju:(σ++[eO x w])[σ.length]?=some (eO x w):=Nc ..;unfold K0;cases ht:Gt x l
 .rw[ht]at hp;rw[if_neg AE];obtain⟨u',s2,w',jd,c2,l2,k2,g2,fr⟩:=Au4 (i:=C9 x l) c1 qm (by grind) (by grind[Yz]) AA qk hx qE;simp only[Aq,Bg,Dq]at l2 k2 fr;refine⟨u',s2,_,Uu T19 rfl ?_ (Ee g2.1) (Ado g2.1) AA c2,c2,by omega,fun j hj=>(k2 j AA).trans (k1 j hj),g2,?_,fun hd=>?_⟩
  .simp only[go_sem,Lc qi,qi];refine Ama (.cons o1 (.cons oe .nil)) hp rfl ?_;simp only[go_sem];refine Aa jd ?_;simp only[go_sem];exact⟨rfl,rfl⟩
  .simp_all
  .unfold Dj at hd ⊢;have qG:=hd;rw[<-Ja (C9 x l) L]at qG;obtain⟨d1,d2,d3⟩:=Ab1.1 qG;have jq:∀ p∈L,∀ j∈p.1.refs,j<σ.length:=fun p hp j hj=>Ee (hg.2 p hp).2 j hj
   refine Ab1.2 ⟨d1,Mh.2 ⟨fun q hq j hj jn=>?_,d2⟩,fun a ha b hb=>?_⟩
   .grind
   grind
 .rw[ht]at hp;rw[if_pos rfl];refine⟨u,_,L,Uu T19 rfl ?_ (Ee qm.1) (Ado qm.1) AE c1,c1,by simp,k1,qm,hL,id⟩;simp only[go_sem,Lc qi,qi];refine Ama (.cons o1 (.cons oe .nil)) hp rfl ?_;simp only[go_sem];exact⟨rfl,rfl⟩
