/- Walks: entries that are made of items; the law BaselineOrders. -/
import Derived.Test.YtphikjgngompaaaGreatDoorPg
set_option linter.all false
namespace Go.Proofs.YtphikjgngompaaaGreatDoor.KM
open Go
def Hs(n:Nat):Aj:=((if n % 3=0 then [109,97,105,110] else if n % 3=1 then [116,49] else [65,95,57]),(if n / 3 % 3=0 then [120,32,61,32,49,59] else if n / 3 % 3=1 then [120,32,61,32,40,97,32,43,32,49,41,59] else [108,111,99,107,32,109,32,123]),((n / 9 % 3:Nat):Int))
noncomputable def runOne (f:AF) (args:List V):Option V:=(Ln (N5 TT PT 60) f args []).bind fun p=>Eg p.2 p.1
def A98:((List.range 256).all fun n=>match runOne af48 [.int .u8 n] with
  | some v=>v.eqv (.agg (Aw (Hs n)))
  | none=>false)=true:=by kernel_rfl
def Be9(n:Nat)(h:n<256):Fn TT PT 48 [.int .u8 n] (.agg (Aw (Hs n))):=by
 have:=Bw.1 A98 n (Ed.2 h)
 split at this
 .rename_i v hv;have e:=X3 this;subst e;exact Rd Si T48 rfl rfl hv
 .cases this
structure Item where
 kind:Nat
 seen:Nat
 missed:Nat
 a:Nat
 b:Nat
 c:Nat
 d:Nat
def Item.ok(x:Item):Prop:=x.kind<256/\x.seen<256/\x.missed<256/\x.a<256/\x.b<256/\x.c<256/\x.d<256
def Item.row(x:Item):List V:=[.int .u8 x.kind,.int .u8 x.seen,.int .u8 x.missed,.int .u8 x.a,.int .u8 x.b,.int .u8 x.c,.int .u8 x.d]
def Item.nums(x:Item):List Nat:=[x.a,x.b,x.c,x.d]
def Sm(k:Nat):Nat:=if k % 4=0 then 2 else if k % 4=1 then 2+k / 4 % 3 else if k % 4=2 then 2 else 4
def Item.ent(x:Item):Ent:=⟨1+(x.kind % 4:Nat),(x.nums.take (Sm x.kind)).map Hs,1+(x.seen % 9:Nat),(x.missed % 8:Nat),true,0⟩
def AT{p:Prop}(h:p:=by simp only[Item.ent];omega):p:=h
theorem X9(k:Nat):2<=Sm k/\Sm k<=4:=by
 grind[Sm]
def Acc(a b:Nat):(a:Int).tmod (b:Int)=((a % b:Nat):Int):=(Int.ofNat_tmod a b).symm
def Bqc(a b:Nat):(a:Int).tdiv (b:Int)=((a / b:Nat):Int):=(Int.ofNat_tdiv a b).symm
def A6f(k:IntKind)(n d:Nat):Dz (some (.int k (n:Int))) d=some n:=by
 simp[Dz]
attribute [go_sem ↓] A6f
attribute [go_sem] Adu Ax Zi
def Md{m j g off len i:Nat}{w:Bool}{k:IntKind}(h:i<len):Lu m (.sl j g off len m w) (.int k (i:Int))=some (.ptr j g (off+i*m)):=by
 simp_all [Lu]
@[go_sem] theorem Ak0 (x:Item):x.row=[.int .u8 x.kind,.int .u8 x.seen,.int .u8 x.missed,.int .u8 x.a,.int .u8 x.b,.int .u8 x.c,.int .u8 x.d]:=Bu rfl
theorem A6g{l:List Nat}{j m:Nat}(h:l[j]?=some m):((l.take (j+1)).map Hs).map Aw=((l.take j).map Hs).map Aw++[Aw (Hs m)]:=by
 grind[List.take_succ]
def F3(l:List Item)(i:Nat):List Ent:=(l.take i).foldl (fun s x=>K1 x.ent s) []
def Ar2{l:List Item}{i:Nat}{x:Item}(h:l[i]?=some x):F3 l (i+1)=K1 x.ent (F3 l i):=by
 grind[F3,List.take_succ]
def Aap(l:List Item):∀ i,(F3 l i).length<=i/\Ps (F3 l i)/\∀ e∈F3 l i,∃ x∈l,e=x.ent
 | 0=>by simp[F3,Ps]
 | i+1=>by
  obtain⟨h1,h2,h3⟩:=Aap l i
  cases hx:l[i]? with
  | none=>
   grind[F3,List.take_succ]
  | some x=>
   rw[Ar2 hx];refine⟨by grind[At3],At1 h2,fun e he=>?_⟩;rcases At2 he with rfl | he
   .grind
   grind
theorem Xe(x:Item):x.ent.sites.length=Sm x.kind:=by
 grind[X9,Item.ent,Item.nums]
def A99(x:Ent)(m:Nat)(i:V):Lu m x.sl i=(Jy (x.sites.map Aw) i).bind fun r=>if r.length=m then some (.imm r 0) else none:=Abk ..
def N2(l:List UInt8):Bool:=decide (1<=l.length)&&decide (l.length<=1000)&&l.all fun c=>decide (32<=c.toNat)&&decide (c.toNat<=126)
def Fo(k:Aj):Bool:=Bm k.1&&N2 k.2.1&&decide (0<=k.2.2)&&decide (k.2.2<60)
def N3(k:Int)(n:Nat):Bool:=((k==1||k==3)&&n==2)||(k==2&&decide (2<=n)&&decide (n<=4))||(k==4&&n==4)
def Ur(e:Ent):Bool:=decide (1<=e.seen)&&decide (e.seen<=1073741824)&&decide (0<=e.missed)&&decide (e.missed<=7)
def I7(e:Ent):Bool:=N3 e.kind e.sites.length&&e.sites.all Fo&&Ur e
def Pq(l:List Ent)(i:Nat):Bool:=match l[i]? with
 | some x=>I7 x&&(match i with
  | 0=>true
  | j+1=>match l[j]? with
   | some p=>decide (C7 p x<0)
   | none=>false)
 | none=>false
def Ya(l:List Ent):Bool:=(List.range l.length).all (Pq l)
def Pc(n:Int)(l:List Ent):Bool:=decide (0<=n)&&decide (n<=1073741824)&&decide (l.length<=64)&&Ya l
theorem Baa{l:List Ent}{i:Nat}(hi:i<l.length)(h:Pq l i=false):Ya l=false:=by
 unfold Ya
 grind
theorem Auw{l:List Ent}(h:∀ i,i<l.length->Pq l i=true):Ya l=true:=by
 grind[Ya]
def A6h{l:List Ent}(h1:Ps l)(h2:∀ x∈l,I7 x=true):Ya l=true:=by
 refine Auw fun i hi=>?_
 unfold Pq;rw[Ca hi];simp only[h2 _ (Nl hi),W4]
 cases i with
 | zero=>rfl
 | succ j=>
  simp only;rw[Ca AA];simp only[decide_eq_true_eq];exact Uy.1 h1 j (j+1) AA hi AA
def Bab{k:Int}{n:Nat}(h:N3 k n=true):n<=4/\2<=n:=by
 unfold N3 at h
 grind
def Bfa{k:Aj}(h:Bm k.1=false):Fo k=false:=by grind[Fo]
theorem Bfb{k:Aj}(h:k.2.1.length<1):Fo k=false:=by grind[Fo,N2]
theorem Bfc{k:Aj}(h:1000<k.2.1.length):Fo k=false:=by grind[Fo,N2]
theorem Bfd{k:Aj}(h:k.2.2<0):Fo k=false:=by grind[Fo]
theorem Bfe{k:Aj}(h:60<=k.2.2):Fo k=false:=by grind[Fo]
theorem Axc{k:Aj}{i:Nat}{c:UInt8}(hc:k.2.1[i]?=some c)(h:c.toNat<32\/126<c.toNat):Fo k=false:=by
 unfold Fo N2
 grind
def Bff{k:Aj}(h1:Bm k.1=true)(h2:1<=k.2.1.length)(h3:k.2.1.length<=1000)(h4:0<=k.2.2)(h5:k.2.2<60)(h6:∀ (i:Nat) (c:UInt8),k.2.1[i]?=some c->32<=c.toNat/\c.toNat<=126):Fo k=true:=by
 unfold Fo N2
 have:(k.2.1.all fun c=>decide (32<=c.toNat)&&decide (c.toNat<=126))=true:=by
  rw[Bw];intro c hc;obtain⟨i,hi,rfl⟩:=Pw hc;have:=h6 i _ (Ca hi);simp only[Ai,decide_eq_true_eq];exact this
 grind
def Bfg(k:Aj):Fn TT PT 90 [.agg (Aw k)] (.bool (Fo k)):=by
 refine Bj T90 rfl ?_;unfold Aw;simp only[go_sem];refine Fl P137 rfl AK ?_;cases h0:Bm k.1
 .simp only[go_sem];exact Ah rfl (by rw[Bfa h0])
 cases h1:decide ((k.2.1.length:Int)<1);rotate_left
 .simp only[go_sem,h1];exact Ah rfl (by grind[Bfb])
 cases h2:decide ((1000:Int)<(k.2.1.length:Int));rotate_left
 .simp only[go_sem,h1,h2];exact Ah rfl (by grind[Bfc])
 cases h3:decide (k.2.2<0);rotate_left
 .simp only[go_sem,h1,h2,h3];exact Ah rfl (by grind[Bfd])
 cases h4:decide (60<=k.2.2);rotate_left
 .simp only[go_sem,h1,h2,h3,h4];exact Ah rfl (by grind[Bfe])
 simp only[go_sem,h1,h2,h3,h4];simp at h1 h2 h3 h4;refine Bk (fun i=>k.2.1.length - i) (fun i:Nat=>[(1,.ptr 0 0 0),(32,iV k.2.1.length),(33,iV i)]) (fun _=>[.row (kR k) 45 0 0]) (fun i=>i<=k.2.1.length/\∀ (j:Nat) (c:UInt8),j<i->k.2.1[j]?=some c->32<=c.toNat/\c.toNat<=126) ?_ 0 ⟨by omega,fun j c hj=>by omega⟩;rintro i ⟨hi,qe⟩ ih;refine Bd Bpp ?_;rcases Bh i k.2.1.length with h | h
 .obtain⟨c,hc,-,-⟩:=Bq h;cases h5:decide (((c.toNat:Nat):Int)<32);rotate_left
  .simp only[go_sem,Ay h,hc,h5];exact Ah rfl (by grind[Axc])
  cases h6:decide ((126:Int)<((c.toNat:Nat):Int));rotate_left
  .simp only[go_sem,Ay h,hc,h5,h6];exact Ah rfl (by grind[Axc])
  simp only[go_sem,Ay h,hc,h5,h6,A1 (show i<9223372036854775807 by omega)];simp at h5 h6;refine Aq (ih (i+1) AA ⟨by omega,fun j c' hj qs=>?_⟩) rfl;by_cases e:j=i
  .grind
  .exact qe j c' AA qs
 .simp only[go_sem,Bl h];refine Ah rfl ?_;rw[Bff h0 AA AA h3 h4 fun i' c hc=>qe i' c (by grind) hc]
/-! entries -/
theorem Rg{x:Ent}(h:N3 x.kind x.sites.length=false):I7 x=false:=by grind[I7]
theorem Bfh{x:Ent}{i:Nat}{k:Aj}(hk:x.sites[i]?=some k)(h:Fo k=false):I7 x=false:=by
 unfold I7
 grind
def Bk1{x:Ent}(h1:N3 x.kind x.sites.length=true)(h2:∀ (i:Nat) (k:Aj),x.sites[i]?=some k->Fo k=true):I7 x=Ur x:=by
 unfold I7
 have:x.sites.all Fo=true:=by
  rw[Bw];intro c hc;obtain⟨i,hi,rfl⟩:=Pw hc;exact h2 i _ (Ca hi)
 grind
theorem Agt{x:Ent}(h:x.seen<1\/1073741824<x.seen\/x.missed<0\/7<x.missed):Ur x=false:=by
 unfold Ur
 grind
theorem Axd{x:Ent}(h1:1<=x.seen)(h2:x.seen<=1073741824)(h3:0<=x.missed)(h4:x.missed<=7):Ur x=true:=by
 grind[Ur]
theorem Rp{k:Int}{n:Nat}(h:¬ (((k=1\/k=3)/\n=2)\/(k=2/\2<=n/\n<=4)\/(k=4/\n=4))):N3 k n=false:=by
 simp_all [N3]
def Abt{k:Int}{n:Nat}(h:((k=1\/k=3)/\n=2)\/(k=2/\2<=n/\n<=4)\/(k=4/\n=4)):N3 k n=true:=by
 unfold N3
 grind
def Bk2{T:Nat->Option AF}{pr:Nat->Option (List V->Option V)}{a b:It}{c c':AC}{e:Env}{σ:St}{Q:Env->St->Prop}(hc:c=c')(h:W T pr [a,b,.c c'] e σ Q):W T pr [a,b,.c c] e σ Q:=hc ▸ h
noncomputable def last46:AC:=match b53.body with
 | .seq _ (.seq _ (.seq _ (.seq _ (.seq _ c))))=>c
 | c=>c
def Ad0(x:Ent)(hk:N3 x.kind x.sites.length=true):W TT PT [.l [1,29,30,31] lp53_0,.b 1,.c last46] [(1,.ptr 0 0 0),(29,x.sl),(30,iV x.sites.length),(31,iV 0)]
  [eO x x.sl] (FQ [AR.tmp 2] (.bool (I7 x))):=by
 have jF:=Bab hk;refine Bk2 (c:=last46) (by delta last46 b53 tX;exact rfl) ?_
 refine Bk (α:=Nat × St) (fun a=>x.sites.length - a.1) (fun a=>[(1,.ptr 0 0 0),(29,x.sl),(30,iV x.sites.length),(31,iV a.1)]) (fun a=>eO x x.sl::a.2)
  (fun a=>a.1<=x.sites.length/\∀ (j:Nat) (k:Aj),j<a.1->x.sites[j]?=some k->Fo k=true) ?_ (0,[]) ⟨by simp,fun j k hj=>by omega⟩
 rintro⟨i,s⟩ ⟨hi,qe⟩ ih;simp only at hi qe ih;refine Bd Bo9 ?_;rcases Bh i x.sites.length with h | h
 .obtain⟨k,hx,-,-⟩:=Bq h;have hv:=Bfg k;simp only[Aw]at hv;simp only[go_sem,Ay h,A99,As,hx,Aw];refine Ab hv rfl ?_;cases hb:Fo k
  .simp only[go_sem];exact Ah rfl (by grind[Bfh])
  .simp only[go_sem,A1 (show i<9223372036854775807 by omega)];refine Aq (ih (i+1,_) AA ⟨by omega,fun j k' hj qy=>?_⟩) rfl
   grind
 .have qr:I7 x=Ur x:=Bk1 hk fun j k hj=>qe j k (by grind) hj
  rw[qr];cases m1:decide (1<=x.seen)
  .simp only[go_sem,Bl h,m1];exact Ah rfl (by grind[Agt])
  cases m2:decide (x.seen<=1073741824)
  .simp only[go_sem,Bl h,m1,m2];exact Ah rfl (by grind[Agt])
  cases m3:decide (0<=x.missed)
  .simp only[go_sem,Bl h,m1,m2,m3];exact Ah rfl (by grind[Agt])
  cases m4:decide (x.missed<=7)
  .simp only[go_sem,Bl h,m1,m2,m3,m4];exact Ah rfl (by grind[Agt])
  simp only[go_sem,Bl h,m1,m2,m3,m4];simp at m1 m2 m3 m4;exact Ah rfl (by grind[Axd])
def A6i(x:Ent):Fn TT PT 53 [.agg x.row] (.bool (I7 x)):=by
 refine Bj T53 rfl ?_;unfold Ent.row;cases k1:(x.kind==1)
 .cases k3:(x.kind==3)
  .cases k2:(x.kind==2)
   .cases k4:(x.kind==4)
    .simp only[go_sem,k1,k2,k3,k4];exact Ah rfl (by grind[Rg,Rp])
    .cases n1:decide ((x.sites.length:Int)<4);rotate_left
     .simp only[go_sem,k1,k2,k3,k4,n1];exact Ah rfl (by grind[Rg,Rp])
     cases n2:decide ((4:Int)<(x.sites.length:Int));rotate_left
     .simp only[go_sem,k1,k2,k3,k4,n1,n2];exact Ah rfl (by grind[Rg,Rp])
     simp only[go_sem,k1,k2,k3,k4,n1,n2];exact Ad0 x (Abt (by grind))
   .cases n1:decide ((x.sites.length:Int)<2);rotate_left
    .simp only[go_sem,k1,k2,k3,n1];exact Ah rfl (by grind[Rg,Rp])
    cases n2:decide ((4:Int)<(x.sites.length:Int));rotate_left
    .simp only[go_sem,k1,k2,k3,n1,n2];exact Ah rfl (by grind[Rg,Rp])
    simp only[go_sem,k1,k2,k3,n1,n2];exact Ad0 x (Abt (by grind))
  .cases n1:decide ((x.sites.length:Int)<2);rotate_left
   .simp only[go_sem,k1,k3,n1];exact Ah rfl (by grind[Rg,Rp])
   cases n2:decide ((2:Int)<(x.sites.length:Int));rotate_left
   .simp only[go_sem,k1,k3,n1,n2];exact Ah rfl (by grind[Rg,Rp])
   simp only[go_sem,k1,k3,n1,n2];exact Ad0 x (Abt (by grind))
 .cases n1:decide ((x.sites.length:Int)<2);rotate_left
  .simp only[go_sem,k1,n1];exact Ah rfl (by grind[Rg,Rp])
  cases n2:decide ((2:Int)<(x.sites.length:Int));rotate_left
  .simp only[go_sem,k1,n1,n2];exact Ah rfl (by grind[Rg,Rp])
  simp only[go_sem,k1,n1,n2];exact Ad0 x (Abt (by grind))
theorem Aj4{n:Int}{l:List Ent}(h:n<0\/1073741824<n\/64<l.length):Pc n l=false:=by
 rw[<-W1];intro hv;unfold Pc at hv
 grind
theorem Aj5{n:Int}{l:List Ent}{i:Nat}(hi:i<l.length)(h:Pq l i=false):Pc n l=false:=by
 grind[Pc,Baa]
theorem A6j{n:Int}{l:List Ent}(h1:0<=n)(h2:n<=1073741824)(h3:l.length<=64)(h:∀ i,i<l.length->Pq l i=true):Pc n l=true:=by
 grind[Pc,Auw]
theorem Azc{l:List Ent}{x:Ent}(h:l[0]?=some x):Pq l 0=I7 x:=by
 grind[Pq]
theorem Amv{l:List Ent}{j:Nat}{p x:Ent}(hp:l[j]?=some p)(h:l[j+1]?=some x):Pq l (j+1)=(I7 x&&decide (C7 p x<0)):=by
 grind[Pq]
def Bqd{j:Nat}(h:j<9223372036854775807):IntKind.i64.wrap (((j+1:Nat):Int) - 1)=(j:Int):=by
 grind[Cs]
def Bac(z:Bool)(t:Nat)(n:Int)(l:List Ent)(ho:Wp l):Fn TT PT 23 [.agg [iV n,SL z t (l.map Ent.row)]] (.bool (Pc n l)):=by
 refine Bj T23 rfl ?_;cases h1:decide (n<0);rotate_left
 .simp only[go_sem,h1];exact Ah rfl (by grind[Aj4])
 cases h2:decide (1073741824<n);rotate_left
 .simp only[go_sem,h1,h2];exact Ah rfl (by grind[Aj4])
 cases h3:decide ((64:Int)<(l.length:Int));rotate_left
 .simp only[go_sem,h1,h2,Au,h3];exact Ah rfl (by grind[Aj4])
 simp only[go_sem,h1,h2,Au,h3];simp at h1 h2 h3
 refine Bk (α:=Nat × St) (fun a=>l.length - a.1) (fun a=>[(1,.ptr 0 0 0),(20,SL z t (l.map Ent.row)),(21,iV l.length),(22,iV a.1)]) (fun a=>.row [iV n,SL z t (l.map Ent.row)] 35 0 0::a.2)
  (fun a=>a.1<=l.length/\∀ j,j<a.1->Pq l j=true) ?_ (0,[]) ⟨by simp,fun j hj=>by omega⟩
 rintro⟨i,s⟩ ⟨hi,qe⟩ ih;simp only at hi qe ih;refine Bd Boq ?_;rcases Bh i l.length with h | h
 .obtain⟨x,hx,-,hm⟩:=Bq h;have hv:=A6i x;cases hz:decide ((0:Int)<(i:Int))
  .obtain rfl:i=0:=by grind
   have h0:decide ((0:Int)<(l.length:Int))=true:=Ay h;simp only[go_sem,h0,As,hx];refine Af AD ?_;simp only[go_sem];refine Ab hv AB ?_;cases hb:I7 x
   .simp only[go_sem];exact Ah rfl (by grind[Aj5,Azc])
   .simp only[go_sem];refine Aq (ih (1,_) AA ⟨by omega,fun j hj=>?_⟩) rfl;obtain rfl:j=0:=by omega
    grind[Azc]
  .obtain⟨j,rfl⟩:∃ j,i=j+1:=⟨i - 1,by grind⟩;obtain⟨p,hp,-,jq⟩:=Bq (show j<l.length by omega);have hl:=Afk p x (ho p jq) (ho x hm);have hd:=Bqd (show j<9223372036854775807 by omega);cases hc:decide (C7 p x<0)
   .rw[hc]at hl;simp only[go_sem,Ay h,As,hx];refine Af AD ?_;simp only[go_sem,hz,hd,As,hp];refine Bg hl AB ?_;simp only[go_sem];exact Ah rfl (by grind[Aj5,Amv])
   .rw[hc]at hl;simp only[go_sem,Ay h,As,hx];refine Af AD ?_;simp only[go_sem,hz,hd,As,hp];refine Bg hl AB ?_;simp only[go_sem];refine Ab hv AB ?_;cases hb:I7 x
    .simp only[go_sem];exact Ah rfl (by grind[Aj5,Amv])
    .simp only[go_sem,A1 (show j+1<9223372036854775807 by omega)];refine Aq (ih (j+2,_) AA ⟨by omega,fun j' jB=>?_⟩) rfl
     grind[Amv]
 .simp only[go_sem,Bl h];exact Ah rfl (by grind[A6j])
/-! interleaveref39 -/
section
variable {κ:Type} [DecidableEq κ] {c:κ->κ->Int}
def Ij(x y:κ × Int × Int):κ × Int × Int:=(x.1,max x.2.1 y.2.1,min x.2.2 y.2.2)
def Ei(c:κ->κ->Int)(y:κ × Int × Int):List (κ × Int × Int)->List (κ × Int × Int)
 | []=>[y]
 | x::l=>if c x.1 y.1<0 then x::Ei c y l else if x.1=y.1 then Ij x y::l else y::x::l
def Aoy(c:κ->κ->Int)(L:List (κ × Int × Int)):List (κ × Int × Int):=L.foldl (fun s y=>Ei c y s) []
def Wm(c:κ->κ->Int)(l:List (κ × Int × Int)):Prop:=l.Pairwise fun x y=>c x.1 y.1<0
theorem Ak1{y:κ × Int × Int}:∀ {l:List (κ × Int × Int)} {x:κ × Int × Int},x∈Ei c y l->x.1=y.1\/∃ z∈l,z.1=x.1
 | [],x,h=>by
  grind[Ei]
 | a::l,x,h=>by
  rw[Ei]at h
  split at h
  .rcases Bp.1 h with rfl | h
   .grind
   .rcases Ak1 h with h | ⟨z,hz,e⟩
    .grind
    grind
  .split at h
   .rcases Bp.1 h with rfl | h
    .exact .inr ⟨a,B7,rfl⟩
    grind
   grind
theorem Ak2(hc:Lin c){y:κ × Int × Int}:∀ {l:List (κ × Int × Int)},Wm c l->Wm c (Ei c y l)
 | [],_=>by rw[Ei];exact Aii _ _
 | a::l,h=>by
  unfold Wm at h ⊢;obtain⟨h1,h2⟩:=K9.1 h;rw[Ei]
  split
  .rename_i qV;refine K9.2 ⟨fun x hx=>?_,Ak2 hc h2⟩
   grind[Ak1]
  .rename_i qV
   split
   .exact K9.2 ⟨fun x hx=>h1 x hx,h2⟩
   .rename_i jG
    have qH:c y.1 a.1<0:=by
     rcases hc.tri a.1 y.1 with h | h | h
     .omega
     .grind
     .exact h
    refine K9.2 ⟨fun x hx=>?_,h⟩;rcases Bp.1 hx with rfl | hx
    .exact qH
    .exact hc.trans _ _ _ qH (h1 x hx)
def A4f(x y z:κ × Int × Int):Ij (Ij x y) z=Ij (Ij x z) y:=by
 unfold Ij
 grind
def Aqs{x y:κ × Int × Int}(h:x.1=y.1):Ij x y=Ij y x:=by
 grind[Ij]
theorem Ar3(hc:Lin c)(y z:κ × Int × Int):∀ (l:List (κ × Int × Int)),Wm c l->Ei c y (Ei c z l)=Ei c z (Ei c y l)
 | [],_=>by
  simp only[Ei];rcases hc.tri y.1 z.1 with h | h | h
  .have h1:=hc.asym h
   grind
  .have h0:¬ c z.1 y.1<0:=by rw[h];exact fun e=>by have:=hc.asym e;omega
   simp_all [if_neg,Aqs]
  .have h1:=hc.asym h
   grind
 | a::l,ha=>by
  have qI:∀ k:κ,¬ c k k<0:=fun k e=>hc.asym e e
  obtain⟨h1,h2⟩:=K9.1 ha;have ih:=Ar3 hc y z l h2;by_cases ay:c a.1 y.1<0
  .by_cases az:c a.1 z.1<0
   .simp_all [Ei]
   .by_cases ez:a.1=z.1
    .simp_all [Ij,Ei,if_neg]
    .have za:c z.1 a.1<0:=by
      rcases hc.tri a.1 z.1 with h | h | h
      .omega
      .grind
      .exact h
     have zy:=hc.trans _ _ _ za ay
     simp_all [Ei,if_neg]
  .by_cases ey:a.1=y.1
   .by_cases az:c a.1 z.1<0
    .simp_all [Ij,Ei,if_neg]
    .by_cases ez:a.1=z.1
     .have n1:¬ c (Ij a z).1 y.1<0:=ay;have n2:¬ c (Ij a y).1 z.1<0:=az;have n3:(Ij a z).1=y.1:=ey;have n4:(Ij a y).1=z.1:=ez
      simp_all [Ei,if_neg,A4f]
     .have za:c z.1 a.1<0:=by
       rcases hc.tri a.1 z.1 with h | h | h
       .omega
       .grind
       .exact h
      simp_all [Ij,Ei,if_neg]
   .have ya:c y.1 a.1<0:=by
     rcases hc.tri a.1 y.1 with h | h | h
     .omega
     .grind
     .exact h
    by_cases az:c a.1 z.1<0
    .have yz:=hc.trans _ _ _ ya az
     simp_all [Ei,if_neg]
    .by_cases ez:a.1=z.1
     .simp_all [Ij,Ei,if_neg]
     .have za:c z.1 a.1<0:=by
       rcases hc.tri a.1 z.1 with h | h | h
       .omega
       .grind
       .exact h
      rcases hc.tri y.1 z.1 with h | h | h
      .have g1:=hc.asym h;have g2:¬ z.1=y.1:=fun e=>qI _ (by rw[e]at h;exact h)
       simp_all [Ei,if_neg]
      .simp_all [Ei,if_neg,Aqs]
      .have g1:=hc.asym h;have g2:¬ y.1=z.1:=fun e=>qI _ (by rw[e]at h;exact h)
       simp_all [Ei,if_neg]
def A6k(hc:Lin c){L L':List (κ × Int × Int)}(h:L.Perm L'):∀ s,Wm c s->L.foldl (fun s y=>Ei c y s) s=L'.foldl (fun s y=>Ei c y s) s:=by
 induction h with
 | nil=>grind
 | cons x _ ih=>grind[Ak2]
 | swap x y l=>grind[Ar3]
 | trans _ _ ih1 ih2=>grind
def Ui(c:κ->κ->Int)(out:List (κ × Int × Int))(e:κ × Int × Int):List (κ × Int × Int):=match out.getLast? with
 | some x=>if c x.1 e.1<0 then out++[e] else out.dropLast++[Ij x e]
 | none=>[e]
def Aux(hc:Lin c){e:κ × Int × Int}:∀ {out:List (κ × Int × Int)},Wm c out->(∀ x∈out,¬ c e.1 x.1<0)->Ui c out e=Ei c e out
 | [],_,_=>rfl
 | [x],_,h=>by
  unfold Ui;simp only[List.getLast?_singleton,Ei];by_cases h1:c x.1 e.1<0
  .grind
  .have h2:x.1=e.1:=by
    rcases hc.tri x.1 e.1 with h3 | h3 | h3
    .omega
    .exact h3
    .grind
   grind
 | x::y::l,ha,h=>by
  obtain⟨h1,h2⟩:=K9.1 ha;have ih:=Aux hc (e:=e) h2 fun z hz=>h z (Ci _ hz)
  have hx:c x.1 e.1<0:=by
   rcases hc.tri y.1 e.1 with h3 | h3 | h3
   .exact hc.trans _ _ _ (h1 y AE) h3
   .grind
   .grind
  rw[Ei,if_pos hx,<-ih];unfold Ui
  grind
def Axe(hc:Lin c):∀ (S out:List (κ × Int × Int)),Wm c out->(∀ x∈out,∀ y∈S,¬ c y.1 x.1<0)->(S.Pairwise fun x y=>¬ c y.1 x.1<0)->S.foldl (Ui c) out=S.foldl (fun s y=>Ei c y s) out
 | [],_,_,_,_=>rfl
 | e::S,out,ha,h,hs=>by
  obtain⟨h1,h2⟩:=K9.1 hs;rw[W2,W2,Aux hc ha fun x hx=>h x hx e B7];refine Axe hc S _ (Ak2 hc ha) (fun x hx y hy=>?_) h2
  grind[Ak1]
def Br5(hc:Lin c){L S:List (κ × Int × Int)}(hp:L.Perm S)(hs:S.Pairwise fun x y=>¬ c y.1 x.1<0):S.foldl (Ui c) []=Aoy c L:=by
 unfold Aoy;rw[Axe hc S [] List.Pairwise.nil (fun x hx=>by cases hx) hs,A6k hc hp [] List.Pairwise.nil]
end
section
variable {α κ:Type} {c:κ->κ->Int} {k:α->κ}
def Ng(c:κ->κ->Int)(k:α->κ)(l:List α):Prop:=l.Pairwise fun x y=>¬ c (k y) (k x)<0
def Bqe(hc:Lin c){x y z:κ}(h1:¬ c y x<0)(h2:¬ c z y<0):¬ c z x<0:=fun h=>by
 rcases hc.tri y z with h3 | h3 | h3
 .exact h1 (hc.trans _ _ _ h3 h)
 .rw[<-h3]at h;exact h1 h
 .exact h2 h3
structure InsI (c:κ->κ->Int) (k:α->κ) (P:List α) (x:α) (Q:List α):Prop where
 srt:Ng c k (P++Q)
 low:∀ q∈Q,c (k x) (k q)<0
def Bfi{P:List α}{x:α}(h:Ng c k P):InsI c k P x []:=⟨by rw[B3];exact h,fun q hq=>by cases hq⟩
def Bad{P Q:List α}{p x:α}(h:InsI c k (P++[p]) x Q)(hx:c (k x) (k p)<0):InsI c k P x (p::Q):=by
 refine⟨?_,fun q hq=>?_⟩
 .have:=h.srt;rw[Br]at this;exact this
 .rcases Bp.1 hq with rfl | hq
  .exact hx
  .exact h.low q hq
def A6l(hc:Lin c){Q:List α}{x:α}(h:InsI c k [] x Q):Ng c k (x::Q):=
 K9.2 ⟨fun q hq=>hc.asym (h.low q hq),h.srt⟩
def Bae(hc:Lin c){P Q:List α}{p x:α}(h:InsI c k (P++[p]) x Q)(hx:¬ c (k x) (k p)<0):Ng c k (P++[p]++x::Q):=by
 have h1:=h.srt;unfold Ng at h1 ⊢;rw[Zf]at h1 ⊢;obtain⟨a,b,d⟩:=h1;refine⟨a,K9.2 ⟨fun q hq=>hc.asym (h.low q hq),b⟩,fun y hy z hz=>?_⟩;rcases Bp.1 hz with rfl | hz
 .rcases Ct.1 hy with hy | hy
  .rw[Zf]at a;exact Bqe hc (a.2.2 y hy p AE) hx
  .rw[F5.1 hy];exact hx
 .exact d y hy z hz
def A6m(P R:List α)(p x:α):(P++p::x::R).Perm (P++x::p::R):=List.Perm.append_left P (List.Perm.swap x p R)
/-! rotations -/
def Mv(l:List Int)(i:Nat):List Int:=l.drop i++l.take i
def Vy(lt:List Int->List Int->Bool)(l:List Int):List Nat->List Int->List Int
 | [],best=>best
 | i::is,best=>Vy lt l is (if lt (Mv l i) best then Mv l i else best)
theorem Ae3(l:List Int)(i:Nat):(Mv l i).length=l.length:=by
 unfold Mv;rw[Ar,Hi,Ip];omega
def Baf{l:List Int}{i:Nat}{x:Int}(h:x∈Mv l i):x∈l:=by
 unfold Mv at h;rcases Ct.1 h with h | h
 .exact Zg h
 .exact Ni h
def Ajh{lt:List Int->List Int->Bool}{P:List Int->Prop}{l:List Int}(hr:∀ i,P (Mv l i)):∀ (is:List Nat) (b:List Int),P b->P (Vy lt l is b)
 | [],_,h=>h
 | i::is,b,h=>by
  rw[Vy];refine Ajh hr is _ ?_
  split
  .exact hr i
  .exact h
end
/-! entries that are added one by one -/
/-! changes -/
/-! a further run -/
def Agu{z:Bool}{t:Nat}{xs:List (List V)}(h:xs≠[]):SL z t xs=.lst t xs:=by grind[SL]
def Azd{σ:St}{m e bytes:Nat}{y:V}{ys:List (List V)}(hy:Ew σ m y=some ys)(hn:ys≠[])(hm:0<m)(hl:∀ r∈ys,r.length=m)(hb:ys.length*bytes<=140737488355328):
  Dv bytes (m,e) (.lst 1 []) y σ=some (.sl σ.length 0 0 ys.length m true,σ++[.row ys.flatten e 0 0]):=by
 simp_all [Dv,Js]
def Bag(z:Bool)(t:Nat)(l:List Aj)(hn:l≠[])(hb:l.length<=1000000):Fn TT PT 25 [SL z t (l.map Aw)] (SL true 0 (l.map Aw)):=by
 have qn:l.map Aw≠[]:=by simpa using hn
 have ha:=Azd (σ:=[]) (m:=3) (e:=45) (bytes:=40) (y:=.lst t (l.map Aw)) (ys:=l.map Aw) rfl qn AA (Gz l) (by grind);rw[Agu qn];refine Bj T25 rfl ?_;simp only[go_sem,ha];exact Ru (m:=3) (e:=45) (lo:=0) (.inr ⟨qn,0,0,rfl,rfl,Ak _⟩) AA (Gz l) (M3 l)
def Yb{T:Nat->Option AF}{pr:Nat->Option (List V->Option V)}{f p:Nat}{res:List AR}{body:AC}{vs:List V}{v:V}{σ:St}{P:St->Prop}(hT:T f=some ⟨p,res,true,body,none⟩)(hl:vs.length=p)
  (h:W T pr [.c body] (C6 0 vs) σ (Hd fun e' σ1=>Cd e' σ1 res=some v/\P σ1)) (hr:v.refs=[]) (ho:Cg v=true) (hP:∀ s,P s->Cl s/\σ.length<=s.length):∃ σ',Th T pr f vs σ v σ'/\P σ':=by
 obtain⟨e',σ1,hE,h1,h2⟩:=h;exact⟨σ1,Af9 hT hl ⟨e',σ1,hE,h1,rfl⟩ hr ho (hP _ h2).2 (hP _ h2).1,h2⟩
def Afw{s:St}{cs:List V}{t:Nat}(h:Cl s)(hr:cs.all V.rowB=true):Cl (s++[.row cs t 0 0]):=Jd h (by simp only[Ob.refs,Fr hr];simp)
def Zd(x:Ent):Prop:=I7 x=true
def Bfj{T:Nat->Option AF}{pr:Nat->Option (List V->Option V)}{f p:Nat}{res:List AR}{body:AC}{vs:List V}{v:V}{σ':St}(hT:T f=some ⟨p,res,false,body,none⟩)(hl:vs.length=p)
  (h:W T pr [.c body] (C6 0 vs) [] (Hd fun e' σ1=>Cd e' σ1 res=some v/\σ1=σ')) (hr:∀ i∈v.refs,i<σ'.length) (ho:Cg v=true) (hc:Cl σ'):FnO T pr f vs v σ':=by
 obtain⟨F,h1,h2,h3⟩:=Vp hT hl h hr ho (Ax _) hc;have e:=h1.symm.trans hT;cases e;exact⟨_,hT,rfl,rfl,h3⟩
def Bfk{σ:St}{args:List V}(h:Ag args=[])(σ0:St):own σ args σ0=σ++σ0.map (Ob.ren (·+σ.length)):=by
 unfold own;rw[Aaf h];rfl
def Ae4{σ:St}{m e lo:Nat}{u:V}{xs:List (List V)}(h:GW σ m e lo u xs):Cg u=true:=by
 rcases h with⟨rfl,rfl⟩ | ⟨hn,i,g,rfl,ho,qa⟩<;>rfl
mutual
theorem Bah(ρ:Nat->Nat):∀ v:V,(v.ren ρ).refs=v.refs.map ρ
 | .ptr i g o=>rfl
 | .sl i g o l m w=>rfl
 | .mp i=>rfl
 | .fn f a c=>by simp only[V.ren,V.refs,Z7 ρ a,Z7 ρ c,F0]
 | .agg cs=>by simp only[V.ren,V.refs,Z7 ρ cs]
 | .tup cs=>by simp only[V.ren,V.refs,Z7 ρ cs]
 | .und=>rfl
 | .skp=>rfl
 | .bool _=>rfl
 | .int _ _=>rfl
 | .str _=>rfl
 | .nili=>rfl
 | .ifc=>rfl
 | .nils=>rfl
 | .nilp=>rfl
 | .nilf=>rfl
 | .lst _ _=>rfl
 | .imm _ _=>rfl
theorem Z7(ρ:Nat->Nat):∀ vs:List V,Ag (Ff ρ vs)=(Ag vs).map ρ
 | []=>rfl
 | v::r=>by simp only[Ff,Ag,Bah ρ v,Z7 ρ r,F0]
end
def Bk3{T:Nat->Option AF}{pr:Nat->Option (List V->Option V)}{f p:Nat}{res:List AR}{body:AC}{vs:List V}{P:V->St->Prop}(hT:T f=some ⟨p,res,false,body,none⟩)(hl:vs.length=p)
  (h:W T pr [.c body] (C6 0 vs) [] (Hd fun e' σ1=>∃ v,Cd e' σ1 res=some v/\P v σ1)) (hP:∀ v s,P v s->Cl s/\Cg v=true/\∀ i∈v.refs,i<s.length):∃ v σ',FnO T pr f vs v σ'/\P v σ':=by
 obtain⟨e',σ1,hE,v,h1,h2⟩:=h;obtain⟨q1,q2,q3⟩:=hP _ _ h2;exact⟨v,σ1,Bfj hT hl ⟨e',σ1,hE,h1,rfl⟩ q3 q2 q1,h2⟩
def Alz{σ σ':St}{m e lo:Nat}{u:V}{xs:List (List V)}(h:GW σ m e lo u xs)(hk:∀ j,j<σ.length->σ'[j]?=σ[j]?):GW σ' m e lo u xs:=by
 rcases h with h | ⟨hn,i,g,h,ho,qa⟩
 .exact .inl h
 .exact .inr ⟨hn,i,g,h,(hk i (Al.1 ho).1).trans ho,qa⟩
theorem Ahm{σ:St}{m e lo L5:Nat}{u:V}{xs:List (List V)}(h:GW σ m e lo u xs)(hl:L5<=lo):GW σ m e L5 u xs:=by
 rcases h with h | ⟨hn,i,g,h,ho,qa⟩
 .exact .inl h
 .exact .inr ⟨hn,i,g,h,ho,by omega⟩
def Acs(σ:St)(v:V)(js:List Nat):Prop:=∀ i∈v.refs,i∈js/\∀ ob,σ[i]?=some ob->∀ j∈ob.refs,j∈js
def ON(σ:St)(v v':V):Prop:=∀ js:List Nat,Acs σ v js->∀ d,Fc σ js (d+3) v=some v'
def OW(σ:St)(v v':V):Prop:=∀ js:List Nat,Acs σ v js->Gl σ js v=some v'
inductive ONs (σ:St):List V->List V->Prop
 | nil:ONs σ [] []
 | cons {v v':V} {vs qb:List V}:ON σ v v'->ONs σ vs qb->ONs σ (v::vs) (v'::qb)
inductive OWs (σ:St):List V->List V->Prop
 | nil:OWs σ [] []
 | cons {v v':V} {vs qb:List V}:OW σ v v'->OWs σ vs qb->OWs σ (v::vs) (v'::qb)
def Acd{σ:St}{v v':V}(h:OC σ v v'):ON σ v v':=fun js hj d=>h js (fun i hi=>(hj i hi).1) (d+1)
def Bqf{σ:St}{i g m e z:Nat}{w:Bool}{xs qp:List (List V)}(ho:σ[i]?=some (.row xs.flatten e g z))(hm:0<m)(hl:∀ r∈xs,r.length=m)(hc:OCs σ xs.flatten qp.flatten)(jh:∀ r∈qp,r.length=m)(hn:qp.length=xs.length):
  ON σ (.sl i g 0 xs.length m w) (.lst 0 qp):=by
 intro js hj d
 have hi:js.elem i=true:=by
  have:=(hj i AS).1;simpa using this
 have je:∀ j∈Ag xs.flatten,j∈js:=(hj i AS).2 _ ho;have hf:=Ge hl;unfold Fc;rw[if_neg AN];simp only[hi,if_true,ho];rw[if_pos ⟨trivial,hm,by omega⟩,L9,<-hf,Db,Ali hc je]
 grind[U9]
def Axf{σ:St}{js:List Nat}{d:Nat}:∀ {vs qb:List V},ONs σ vs qb->(∀ v∈vs,Acs σ v js)->vs.mapM (Fc σ js (d+3))=some qb
 | _,_,.nil,_=>rfl
 | _,_,.cons h hs,hj=>by
  rw[Lc,h js (hj _ B7) d,Axf hs fun v hv=>hj v (Ci _ hv)];rfl
def Axg{σ:St}{js:List Nat}:∀ {vs qb:List V},OWs σ vs qb->(∀ v∈vs,Acs σ v js)->vs.mapM (Gl σ js)=some qb
 | _,_,.nil,_=>rfl
 | _,_,.cons h hs,hj=>by
  rw[Lc,h js (hj _ B7),Axg hs fun v hv=>hj v (Ci _ hv)];rfl
def Al0:∀ {cs:List V} {c:V},c∈cs->∀ i∈c.refs,i∈Ag cs
 | _::cs,c,h,i,hi=>by
  simp only[Ag,Ct];rcases Bp.1 h with rfl | h
  .grind
  .exact .inr (Al0 h i hi)
def Bk4{σ:St}{cs cs':List V}(h:ONs σ cs cs'):OW σ (.agg cs) (.agg cs'):=fun js hj=>by
 simp only[Gl];rw[Axf (d:=6) h fun v hv i hi=>hj i (Al0 hv i hi)];rfl
def Bai(σ:St):∀ (d:Nat) (js:List Nat) (i:Nat),i∈js->∀ ob,σ[i]?=some ob->∀ j∈ob.refs,j∈Fq σ (d+1) js:=by
 intro d js i hi ob ho j hj;simp only[Fq];by_cases jD:j∈js
 .grind[Nr]
 .have jl:j∈(js.flatMap fun i=>match σ[i]? with
   | some ob=>ob.refs
   | none=>[]).filter fun i=>!js.elem i:=by
   rw[Ol];refine⟨List.mem_flatMap.2 ⟨i,hi,?_⟩,?_⟩
   .grind
   .grind
  rw[if_neg (by
   grind)]
  grind[Nr,List.mem_eraseDups]
def Baj{σ:St}{v:V}{js:List Nat}(h:∀ i∈v.refs,i∈js):Acs σ v (Fq σ 9 js):=fun i hi=>⟨Nr σ 9 _ i (h i hi),fun ob ho j hj=>Bai σ 8 js i (h i hi) ob ho j hj⟩
def Bfl{σ:St}{vs qb:List V}(h:OWs σ vs qb):Dn σ vs=some qb:=Axg h fun v hv=>Baj fun i hi=>Ss.2 (Al0 hv i hi)
/-! entries whose sites are lists of their own -/
def Fx(p:V × Ent):List V:=(eR p.2 p.1)
def NG(s:St)(lo:Nat)(u:V)(L:List (V × Ent)):Prop:=GW s 4 43 lo u (L.map Fx)/\∀ p∈L,p.2.sites≠[]/\GW s 3 45 lo p.1 (p.2.sites.map Aw)
def Us(L:List (V × Ent)):List (List V):=L.map fun p=>p.2.own.row
theorem Ra(L:List (V × Ent)):∀ r∈L.map Fx,r.length=4:=by
 intro r hr;obtain⟨p,-,rfl⟩:=Cy.1 hr;rfl
def Bak(L:List (V × Ent)):∀ r∈Us L,r.length=4:=by
 intro r hr;obtain⟨p,-,rfl⟩:=Cy.1 hr;rfl
def Aze{s:St}{lo:Nat}:∀ {L:List (V × Ent)},(∀ p∈L,p.2.sites≠[]/\GW s 3 45 lo p.1 (p.2.sites.map Aw))->OCs s (L.map Fx).flatten (Us L).flatten
 | [],_=>.nil
 | p::L,h=>by
  have h1:=Mm (h p B7).2 AA (Gz _) (M3 _);exact .cons (Fj rfl) (.cons h1 (.cons (Fj rfl) (.cons (Fj rfl) (Aze fun q hq=>h q (Ci _ hq)))))
def Bqg{s:St}{lo:Nat}{u:V}{L:List (V × Ent)}(h:NG s lo u L):ON s u (SL true 0 (Us L)):=by
 obtain⟨h1 | ⟨hn,i,g,rfl,ho,qa⟩,h2⟩:=h
 .obtain⟨rfl,h1⟩:=h1;obtain rfl:L=[]:=by simp_all
  exact Acd (Fj rfl)
 .have jk:Us L≠[]:=by
   intro e;apply hn;have:L=[]:=by simpa[Us] using e
   rw[this];rfl
  rw[V6 jk];exact Bqf ho AA (Ra L) (Aze h2) (Bak L) (by simp[Us])
section
variable {Q:Env->St->Prop} {e:Env} {σ:St} {k:List It} {l:List AI} {kill:List Nat} {f:Nat} {args vs:List V} {v:V} {d:Option Nat}
def A0r(hx:OWs σ args vs)(hf:Fn TT PT f vs v)(ja:v.flatV=true)(h:WR TT PT l kill k (e.putO d v) σ Q):WX TT PT (.call f args) d l kill k e σ Q:=
 Ig (.pure (Bfl hx) hf) (by unfold after;rw[if_pos ja];exact h)
end
theorem A6n(a:List V)(k:Nat):∀ i∈Ag (a.take k),i∈Ag a:=by
 grind[Lf,List.take_append_drop]
theorem A6o(a:List V)(k:Nat):∀ i∈Ag (a.drop k),i∈Ag a:=by
 intro i hi;have:=Lf (a.take k) (a.drop k)
 simp_all
def Aji{σ σ':St}{m e lo bytes:Nat}{u u' y:V}{xs ys:List (List V)}(h:GW σ m e lo u xs)(hy:Ew σ m y=some ys)(ha:Dv bytes (m,e) u y σ=some (u',σ'))(hx:∀ i∈Ag xs.flatten,i<σ.length)(hz:∀ i∈Ag ys.flatten,i<σ.length)(hc:Cl σ):Cl σ':=by
 unfold Dv at ha;simp only[hy,C8]at ha;unfold Js at ha
 split at ha
 .rcases h with⟨rfl,rfl⟩ | ⟨hn,i,g,rfl,ho,qa⟩
  .simp only at ha
   split at ha
   .split at ha
    .grind
    .cases ha;exact Jd hc fun i hi=>U2 (hz i hi)
   grind
  .simp only at ha
   split at ha
   .simp only[ho,if_true]at ha
    grind[F8,Ob.refs,Lf,A6n,A6o]
   grind
 grind
def Axh{s:St}{lo:Nat}:∀ {L:List (V × Ent)},(∀ p∈L,p.2.sites≠[]/\GW s 3 45 lo p.1 (p.2.sites.map Aw))->∀ i∈Ag (L.map Fx).flatten,i<s.length
 | [],_,i,hi=>by cases hi
 | p::L,h,i,hi=>by
  simp only[Az,Fg,Lf,Fx,Ag,V.refs,Be,B3,Ct]at hi;rcases hi with hi | hi
  .exact Gn (h p B7).2 i hi
  .exact Axh (fun q hq=>h q (Ci _ hq)) i AA
def Auy{s s':St}{m m' e e' qJ n:Nat}{u w:V}{ys:List (List V)}(he:e≠e')(hu:u=.nils\/∃ i g cs,u=.sl i g 0 n m true/\s[i]?=some (.row cs e g 0))(h:GW s m' e' qJ w ys)(hf:∀ j,(∀ i g,u=.sl i g 0 n m true->j≠i)->j<s.length->s'[j]?=s[j]?):GW s' m' e' qJ w ys:=by
 rcases h with h | ⟨hn,j,g,rfl,ho,qa⟩
 .exact .inl h
 .refine .inr ⟨hn,j,g,rfl,?_,qa⟩
  grind
def Ar4{s:St}{m e lo:Nat}{u:V}{xs:List (List V)}(h:GW s m e lo u xs):u=.nils\/∃ i g cs,u=.sl i g 0 xs.length m true/\s[i]?=some (.row cs e g 0):=by
 rcases h with⟨rfl,-⟩ | ⟨-,i,g,rfl,ho,-⟩
 .grind
 grind
def Afx{s s':St}{lo:Nat}{u:V}{L:List (V × Ent)}(h:NG s lo u L)(hk:∀ j,lo<=j->j<s.length->s'[j]?=s[j]?):NG s' lo u L:=by
 have hg:∀ {m e:Nat} {w:V} {ys:List (List V)},GW s m e lo w ys->GW s' m e lo w ys:=by
  intro m e w ys hw;rcases hw with hw | ⟨hn,j,g,rfl,ho,qa⟩
  .exact .inl hw
  .exact .inr ⟨hn,j,g,rfl,(hk j qa (Al.1 ho).1).trans ho,qa⟩
 exact⟨hg h.1,fun p hp=>⟨(h.2 p hp).1,hg (h.2 p hp).2⟩⟩
def Bk5{s:St}{lo:Nat}:NG s lo .nils []:=⟨Ds,fun p hp=>by cases hp⟩
/-! copies of entries, with lists of their own -/
/-! a further run -/
def A6p{σ:St}{m e i g:Nat}{xs:List (List V)}{pre post:List V}{w:V}(ho:σ[i]?=some (.row xs.flatten e g 0))(hm:0<m)(hl:∀ r∈xs,r.length=m)(hr:∀ r∈xs,r.all V.rowB=true)(h1:pre.all V.rowB=true)(h2:post.all V.rowB=true)(hw:w.rowB=true):
  FR (.tup [.agg (pre++.sl i g 0 xs.length m true::post),w]) σ (.tup [.agg (pre++.lst 0 xs::post),w]):=by
 obtain⟨hi,jm⟩:=Al.1 ho;have hx:Ag xs.flatten=[]:=Fr (Ie hr)
 have qk:Ag (pre++V.sl i g 0 xs.length m true::post)=[i]:=by
  rw[Lf,Fr h1];simp only[Ag,Fr h2,V.refs,Be,B3]
 have h0:ren 0 [i] i=0:=by simp[ren,Adi]
 have qG:w.refs=[]:=Q8 hw
 have qc:Hp w=true:=by cases w<;>simp[V.rowB]at hw<;>rfl
 have ju:w.ren (ren 0 [i])=w:=Aag _ w (by grind);refine .inr ⟨[i],?_,?_⟩
 .simp only[Hw,Cg,Hp,V.refs,Ag,qk,qG,Aiu,B5,Dd,Vv h1,Vv h2,V.cellB,qc,B3];simp[En,jm,Ob.refs,hx,hi]
  grind[V.rowB]
 .simp only[Nj,ho,Q5,Az,Bz,Ob.ren,Pa i _ (Ie hr),V.ren,Amf,Pa i _ h1,Ff,Pa i _ h2,h0,ju,Eg,J4];have ha:OV [Ob.row xs.flatten e g 0] (.agg (pre++V.sl 0 g 0 xs.length m true::post)) (.agg (pre++.lst 0 xs::post)):=Tl (Av9 (Aa0 h1) (.cons (Rt (i:=0) (g:=g) (e:=e) (z:=0) (w:=true) rfl hm hl hr) (Aa0 h2)));have jv:OV [Ob.row xs.flatten e g 0] w w:=Iv (by cases w<;>simp[V.rowB]at hw<;>rfl);exact congrArg (Option.map V.tup) (Vn (.cons ha (.cons jv .nil)) fun j hj=>Nr _ _ _ _ (Ss.2 hj))
def Aj6{σ:St}{m e lo:Nat}{u w:V}{xs:List (List V)}{pre post:List V}(h:GW σ m e lo u xs)(hm:0<m)(hl:∀ r∈xs,r.length=m)(hr:∀ r∈xs,r.all V.rowB=true)(h1:pre.all V.rowB=true)(h2:post.all V.rowB=true)(hw:w.rowB=true):
  FR (.tup [.agg (pre++u::post),w]) σ (.tup [.agg (pre++SL true 0 xs::post),w]):=by
 rcases h with⟨rfl,rfl⟩ | ⟨hn,i,g,rfl,ho,qa⟩
 .refine Gr ?_;simp only[B5,Dd,Dc,Aiu,h1,h2,Adp,W4]
  grind[V.rowB]
 .rw[V6 hn];exact A6p ho hm hl hr h1 h2 hw
def Azf{σ:St}{m e lo:Nat}{u:V}{xs:List (List V)}(h:GW σ m e lo u xs):Mt u=some (iV (xs.length:Int)):=by
 rcases h with⟨rfl,rfl⟩ | ⟨hn,i,g,rfl,ho,qa⟩<;>rfl
def Bal(n:Nat):Fo (Hs n)=true:=by
 have h3:n / 9 % 3<3:=Ov _ AA;have a1:Bm [109,97,105,110]=true:=by decide +kernel
 have a2:Bm [116,49]=true:=by decide +kernel
 have a3:Bm [65,95,57]=true:=by decide +kernel
 have b1:N2 [120,32,61,32,49,59]=true:=by decide +kernel
 have b2:N2 [120,32,61,32,40,97,32,43,32,49,41,59]=true:=by decide +kernel
 have b3:N2 [108,111,99,107,32,109,32,123]=true:=by decide +kernel
 have k1:Bm (Hs n).1=true:=by
  simp only[Hs]
  split
  .exact a1
  .split
   .exact a2
   .exact a3
 have k2:N2 (Hs n).2.1=true:=by
  simp only[Hs]
  split
  .exact b1
  .split
   .exact b2
   .exact b3
 unfold Fo;rw[k1,k2,decide_eq_true (show 0<=(Hs n).2.2 by simp only[Hs];omega),decide_eq_true (show(Hs n).2.2<60 by simp only[Hs];omega)];rfl
def Bam(x:Item):Zd x.ent:=by
 have hn:=X9 x.kind;have hs:=Xe x
 have hk:x.ent.sites.all Fo=true:=by
  rw[Bw];intro k hk;simp only[Item.ent,Cy]at hk;obtain⟨m,_,rfl⟩:=hk;exact Bal m
 have qz:Ur x.ent=true:=Axd AT AT AT AT
 have jg:N3 x.ent.kind x.ent.sites.length=true:=by
  rw[hs];refine Abt ?_;have:x.kind % 4<4:=Ov _ AA;have h5:x.kind / 4 % 3<3:=Ov _ AA;simp only[Item.ent,Sm]
  split
  .omega
  .split
   .omega
   .split<;>omega
 unfold Zd I7;rw[jg,hk,qz];rfl
def Ban{n:Int}{l:List Ent}(h0:0<=n)(h1:n<=1073741824)(h2:l.length<=64)(h3:Ps l)(h4:∀ x∈l,Zd x):Pc n l=true:=by
 unfold Pc;rw[decide_eq_true h0,decide_eq_true h1,decide_eq_true h2,A6h h3 h4];rfl
/-! texts -/
def A6q(x:Ent):C7 x x=0:=(lin_p.zero x.ks x.ks).2 rfl
def A3g(x:Item)(hx:x.ok){p n:Nat}(hp:0<p)(hn:n<=4)(A B C:V)(K S M:Int)(base:St)(k:List It)(Q:Env->St->Prop)
  (qw:∀ u s,Cl s->p+2<=s.length->(∀ j,j<p->s[j]?=base[j]?)->s[p+1]?=some (.row [iV K,u,iV S,iV M] 43 0 0)->GW s 3 45 (p+2) u (((x.nums.take n).map Hs).map Aw) ->
   W TT PT k [(3,.ptr 0 0 0),(6,.ptr (p+1) 0 0),(11,A),(12,B),(13,C),(49,.sl p 0 3 n 1 false),(50,iV n),(51,iV n)] s Q) :
  ∀ a:Nat × V × St,(a.1<=n/\Cl a.2.2/\p+2<=a.2.2.length/\(∀ j,j<p->a.2.2[j]?=base[j]?)/\a.2.2[p]?=some (.row x.row 114 0 0)/\a.2.2[p+1]?=some (.row [iV K,a.2.1,iV S,iV M] 43 0 0)/\GW a.2.2 3 45 (p+2) a.2.1 (((x.nums.take a.1).map Hs).map Aw)) ->
   W TT PT (.l [3,6,11,12,13,49,50,51] lp18_0::.b 2::k) [(3,.ptr 0 0 0),(6,.ptr (p+1) 0 0),(11,A),(12,B),(13,C),(49,.sl p 0 3 n 1 false),(50,iV n),(51,iV a.1)] a.2.2 Q:=by
 refine Bk (α:=Nat × V × St) (fun a=>n - a.1) _ _ _ ?_;rintro⟨j,u,s⟩ ⟨hj,qt,hl,h0,h1,h2,hg⟩ ih;simp only at hj qt hl h0 h1 h2 hg ih;refine Bd Boo ?_;rcases Bh j n with h | h
 .obtain⟨m,hm,-,-⟩:=Bq (l:=x.nums) (i:=j) (by grind[Item.nums])
  have qj:m<256:=by
   have:=Gx hm;simp[Item.nums]at this;unfold Item.ok at hx;omega
  have qD:L5 (some (.row x.row 114 0 0)) 0 1 true (3+j)=some (.int .u8 (m:Int)):=by
   have:j=0\/j=1\/j=2\/j=3:=by omega
   rcases this with rfl | rfl | rfl | rfl<;>simp[Item.nums]at hm<;>subst hm<;>rfl
  rw[Ak0]at qD h1;obtain⟨u1,s1,e1,g1,l1,-,f1⟩:=Hz (bytes:=40) (y:=.lst 1 [Aw (Hs m)]) (ys:=[Aw (Hs m)]) hg hl rfl AA (Gz _) (by simp[Aw]) (by grind);have qu:Cl s1:=Ajs hg rfl e1 (Fr (Ie (M3 _))) (by simp[Aw,Ag,V.refs]) qt
  have qv:Cl (s1.set (p+1) (.row [iV K,u1,iV S,iV M] 43 0 0)):=F8 qu fun i hi=>by
   simp only[Ob.refs,Ag,V.refs,B3,Be]at hi;exact Gn g1 i hi
  simp only[Aw]at e1;have q0:∀ j,j<p->s1[j]?=base[j]?:=fun j hj=>(f1 j AA).trans (h0 j hj)
  have q1:=(f1 p AA).trans h1;have q2:=(f1 (p+1) AA).trans h2;simp only[go_sem,Ay h,Md h,h1,qD,Ak0];refine Af AD ?_;simp only[go_sem,h2];refine Bg (Be9 m qj) rfl ?_;simp only[go_sem,e1,Aw];refine Re (by repeat (first | exact trivial | refine⟨.inl AK,?_⟩ | refine⟨by rfl,?_⟩ | refine⟨.inr ⟨by rfl,by rfl⟩,?_⟩)) (by repeat (first | exact trivial | refine⟨.inl AK,?_⟩ | refine⟨by rfl,?_⟩ | refine⟨.inr ⟨by rfl,by rfl⟩,?_⟩)) ?_;simp only[go_sem,q2,Nv (Ce g1),Ce g1];refine Re (by repeat (first | exact trivial | refine⟨.inl AK,?_⟩ | refine⟨by rfl,?_⟩ | refine⟨.inr ⟨by rfl,by rfl⟩,?_⟩)) (by repeat (first | exact trivial | refine⟨.inl AK,?_⟩ | refine⟨by rfl,?_⟩ | refine⟨.inr ⟨by rfl,by rfl⟩,?_⟩)) ?_;simp only[go_sem,A1 (show j<9223372036854775807 by omega)];have e2:∀ j,j<p->(s1.set (p+1) (.row [iV K,u1,iV S,iV M] 43 0 0))[j]?=base[j]?:=fun j hj=>by grind
  refine Aq (ih (j+1,u1,s1.set (p+1) (.row [iV K,u1,iV S,iV M] 43 0 0)) AA ⟨by omega,qv,by grind,e2,?_,?_,?_⟩) rfl
  .grind[Ak0]
  .grind
  grind[A6g,D5]
 .obtain rfl:j=n:=by omega
  simp only[go_sem,Bl h];exact qw u s qt hl h0 h2 hg
def Bqh{σ:St}{v v':V}(h:ON σ v v')(hc:v.cellB=true):OW σ v v':=fun js hj=>by
 have:=h js hj 6;unfold Gl
 grind[Fc,V.rowB]
def A6r{m:Nat}{xs:List (List V)}(hl:∀ r∈xs,r.length=m){i:Nat}(hi:i<=xs.length):xs.flatten.drop (i*m)=(xs.drop i).flatten:=by
 have h1:xs.flatten=(xs.take i).flatten++(xs.drop i).flatten:=by rw[<-Adf,L8]
 grind[Ge,List.length_take]
def A6s{m:Nat}{xs:List (List V)}(hl:∀ r∈xs,r.length=m){i:Nat}(hi:i<=xs.length):Fe m i xs.flatten=xs.take i:=by
 grind[List.take_append_drop,Aee]
def A6t{σ:St}{m e lo:Nat}{u:V}{xs:List (List V)}(h:GW σ m e lo u xs)(hl:∀ r∈xs,r.length=m){i:Nat}(hi:i<=xs.length):
  ∃ a,Hb m u none (some (iV (i:Int))) none=some a/\∀ σ':St,(∀ j,j<σ.length->σ'[j]?=σ[j]?)->Ew σ' m a=some (xs.take i):=by
 rcases h with⟨rfl,rfl⟩ | ⟨hn,b,g,rfl,ho,qa⟩
 .obtain rfl:i=0:=by grind
  exact⟨.nils,rfl,fun _ _=>rfl⟩
 .refine⟨.sl b g (0+0*m) (i - 0) m true,?_,fun σ' hk=>?_⟩
  .grind[Hb,Dz]
  .have:=(hk b (Al.1 ho).1).trans ho;have hf:=Ge hl;have ji:i*m<=xs.length*m:=E1 m hi;simp only[Ew,this]
   simp_all [A6s]
def A6u{σ:St}{m e lo:Nat}{u:V}{xs:List (List V)}(h:GW σ m e lo u xs)(hl:∀ r∈xs,r.length=m){i:Nat}(hi:i<=xs.length):
  ∃ a,Hb m u (some (iV (i:Int))) none none=some a/\∀ σ':St,(∀ j,j<σ.length->σ'[j]?=σ[j]?)->Ew σ' m a=some (xs.drop i):=by
 rcases h with⟨rfl,rfl⟩ | ⟨hn,b,g,rfl,ho,qa⟩
 .obtain rfl:i=0:=by grind
  exact⟨.nils,rfl,fun _ _=>rfl⟩
 .refine⟨.sl b g (0+i*m) (xs.length - i) m true,?_,fun σ' hk=>?_⟩
  .grind[Hb,Dz]
  .have:=(hk b (Al.1 ho).1).trans ho;have hf:=Ge hl;have ji:i*m+(xs.length - i)*m=xs.length*m:=by rw[<-Oo];congr 1;omega
   simp only[Ew,this];rw[if_pos ⟨trivial,trivial,by omega⟩,Gd,A6r hl hi]
   grind[U9,List.length_drop]
def Br6{τ:St}{i x t:Nat}{a b c d:V}{e:Env}(h:τ[i]?=some (.row [a,b,c,d] t 0 0))(h1:e.get x=.ptr i 0 0):Cd e τ [AR.cell x 4 false]=some (.agg [a,b,c,d]):=by
 simp only[Cd,Gq,h1,Iz,h];rfl
def Bk6{a s:St}(h:∀ j,j<a.length->s[j]?=a[j]?):∃ J,s=a++J:=⟨s.drop a.length,W0 fun j=>by
 grind⟩
def A3h{σ:St}{w:V}{x:Ent}(hc:Cl σ)(hw:∀ J:St,Ew (σ++J) 3 w=some (x.sites.map Aw))(qc:w.cellB=true)(qG:∀ i∈w.refs,i<σ.length)(hn:x.sites≠[])(hb:x.sites.length<=1000000):
  ∃ w' J,Bx TT PT 78 [.agg (eR x w)] σ (.agg (eR x w')) (σ++J)/\Cl (σ++J)/\GW (σ++J) 3 45 σ.length w' (x.sites.map Aw):=by
 have qn:x.sites.map Aw≠[]:=by simpa using hn
 obtain⟨w',s1,e1,g1,l1,-,f1⟩:=Hz (lo:=σ.length+2) (σ:=σ++[eO x w,.row [iV 0,.nils,iV 0,iV 0] 43 0 0]) (m:=3) (e:=45) (bytes:=40) (y:=w) (ys:=x.sites.map Aw) Ds AE (hw _) AA AE (Gz _) (by grind);rw[Be]at g1;have qd:=Ce g1
 have qX:Cl (σ++[eO x w,.row [iV 0,.nils,iV 0,iV 0] 43 0 0]):=by
  have:=Jd (ob:=eO x w) hc fun i hi=>by
   grind[Ob.refs,Ag,V.refs,Nat.lt_succ_of_lt]
  have:=Jd (ob:=.row [iV 0,.nils,iV 0,iV 0] 43 0 0) this AU;simpa using this
 have qY:Cl s1:=Ajs (Ds (lo:=σ.length+2)) (hw _) e1 rfl (Fr (Ie (M3 _))) qX
 have hk:∃ J:St,s1=σ++[eO x w,.row [iV 0,.nils,iV 0,iV 0] 43 0 0]++J:=by
  exact Bk6 fun j hj=>f1 j (by grind)
 obtain⟨J,rfl⟩:=hk
 have hS:∀ a b:Ob,((σ++[eO x w,Ob.row [iV 0,.nils,iV 0,iV 0] 43 0 0]++J).set σ.length a).set (σ.length+1) b=σ++(a::b::J):=fun a b=>by
  simp_all
 have g2:GW (σ++(eO x w'::eO x w'::J)) 3 45 (σ.length+2) w' (x.sites.map Aw):=by
  rw[<-hS];exact D5 (D5 g1 AA) AA
 have c2:Cl (σ++(eO x w'::eO x w'::J)):=by
  rw[<-hS];refine F8 (F8 qY fun i hi=>?_) fun i hi=>?_
  .simp only[Ob.refs,Ag,V.refs,Be,B3]at hi;exact Gn g1 i hi
  .rw[U4];simp only[Ob.refs,Ag,V.refs,Be,B3]at hi;exact Gn g1 i hi
 refine⟨w',_,Vp T78 rfl ?_ (fun i hi=>?_) ?_ AE c2,c2,Ahm g2 AA⟩
 .simp only[Br,Bt,Be]at e1;simp only[go_sem,Nv qc,qc,e1,Nv qd,qd];exact⟨Br6 (Alh _ _ 1) rfl,rfl⟩
 .simp only[V.refs,Ag,Be,B3]at hi;exact Gn g2 i hi
 .simp only[Cg,Hp,B5,Dd,Adp,qd];rfl
def Dj(L:List (V × Ent)):Prop:=L.Pairwise fun p q=>∀ i∈p.1.refs,i ∉ q.1.refs
def Bfm{σ:St}{lo:Nat}{u w:V}{L:List (V × Ent)}{x:Ent}{i:Nat}(hc:Cl σ)(hg:NG σ lo u L)(qa:lo<=σ.length)(hi:i<=L.length)(hb:L.length<=100000)(hw:GW σ 3 45 lo w (x.sites.map Aw))(hx:x.sites≠[])(qA:x.sites.length<=1000000):
  ∃ u' σ' w',Bx TT PT 50 [u,iV (i:Int),.agg (eR x w)] σ u' σ'/\Cl σ'/\σ.length<=σ'.length/\(∀ j,j<σ.length->σ'[j]?=σ[j]?)/\NG σ' lo u' (L.take i++(w',x)::L.drop i)/\∀ j∈w'.refs,σ.length<=j:=by
 have qc:=Ce hw;have hL:(L.map Fx).length=L.length:=Au ..;obtain⟨a,ha,ra⟩:=A6t hg.1 (Ra L) (i:=i) AA;obtain⟨b,qW,rb⟩:=A6u hg.1 (Ra L) (i:=i) AA;rw[<-W5]at ra;rw[<-Aiz]at rb;have hr:∀ {L':List (V × Ent)},(∀ p∈L',p∈L)->∀ i∈Ag (L'.map Fx).flatten,i<σ.length:=fun qU=>Axh fun p hp=>hg.2 p (qU p hp)
 have c1:Cl (σ++[eO x w]):=Jd hc fun j hj=>by
  simp only[Ob.refs,Ag,V.refs,Be,B3]at hj;exact U2 (Gn hw j hj)
 have qK:=ra (σ++[eO x w]) fun j hj=>Eb hj
 obtain⟨u1,s1,e1,g1,l1,-,f1⟩:=Hz (lo:=σ.length+1) (σ:=σ++[eO x w]) (m:=4) (e:=43) (bytes:=48) (y:=a) Ds AE qK AA AE (Ra _) (by grind);rw[Be]at g1;simp only[Ar,Ao,Di]at l1;have c2:Cl s1:=Aji (Ds (lo:=σ.length+1)) qK e1 (by simp[Ag]) (fun j hj=>by grind) c1;have k1:∀ j,j<σ.length->s1[j]?=σ[j]?:=fun j hj=>(f1 j AA).trans (Eb hj)
 have q1:s1[σ.length]?=some (eO x w):=(f1 _ AA).trans (Oy ..);have qd:GW s1 3 45 lo w (x.sites.map Aw):=Alz hw k1
 obtain⟨w',J,qZ,c3,g2⟩:=A3h (w:=w) (x:=x) c2 (fun J=>by
  rcases Gm (l:=J) qd with⟨rfl,h0⟩ | ⟨hn,ib,g,rfl,ho,-⟩
  .simp_all
  .simp only[Ew,ho];have hf:=Ge (Gz x.sites)
   rw[if_pos ⟨trivial,trivial,by omega⟩,L9,U9 (Gz _)]) qc (Gn qd) hx qA
 have ql:=Ce g2;have qm:=Gm (l:=J++[Ob.row (Fx (w',x)) 43 0 0]) g1
 have c4:Cl (s1++J++[Ob.row (Fx (w',x)) 43 0 0]):=Jd c3 fun j hj=>by
  simp only[Ob.refs,Fx,Ag,V.refs,Be,B3]at hj;exact U2 (Gn g2 j hj)
 rw[<-Br]at qm;have jn:(s1++J++[Ob.row (Fx (w',x)) 43 0 0])[(s1++J).length]?=some (.row (Fx (w',x)) 43 0 0):=Oy ..
 have ry:Ew (s1++J++[Ob.row (Fx (w',x)) 43 0 0]) 4 (.sl (s1++J).length 0 0 1 4 true)=some [Fx (w',x)]:=by
  simp only[Ew,jn];rfl
 obtain⟨u2,s2,e2,g3,l2,qM,f2⟩:=Hz (bytes:=48) qm (by grind) ry AA (Ra _) (Ra [(w',x)]) (by grind)
 have jx:∀ j∈Ag ((L.take i).map Fx).flatten,j<(s1++J++[Ob.row (Fx (w',x)) 43 0 0]).length:=fun j hj=>by
  have:=hr (L':=L.take i) (fun p hp=>Ni hp) j hj
  grind
 have jy:∀ j∈Ag [Fx (w',x)].flatten,j<(s1++J++[Ob.row (Fx (w',x)) 43 0 0]).length:=fun j hj=>by
  simp only[Fg,Zl,B3,Fx,Ag,V.refs,Be]at hj;have:=Gn g2 j hj
  grind
 have c5:Cl s2:=Aji qm ry e2 jx jy c4;simp only[Ar,Ao,Di]at l2
 have k2:∀ j,j<σ.length->s2[j]?=σ[j]?:=fun j hj=>by
  grind
 have qO:GW s2 3 45 s1.length w' (x.sites.map Aw):=Auy AA (Ar4 qm) (Gm g2) qM;have qL:=rb s2 k2
 have qi:∀ r∈(L.take i).map Fx++[Fx (w',x)],r.length=4:=fun r hr=>by
  rcases Ct.1 hr with h | h
  .grind[Ra]
  .rw[F5.1 h];rfl
 obtain⟨u3,s3,e3,g4,l3,qN,f3⟩:=Hz (bytes:=48) g3 AA qL AA qi (Ra _) (by grind)
 have c6:Cl s3:=Aji g3 qL e3 (fun j hj=>by
  rw[Adf,Lf]at hj;rcases Ct.1 hj with h | h
  .grind
  grind) (fun j hj=>by have:=hr (L':=L.drop i) (fun p hp=>Zg hp) j hj;omega) c5
 have k3:∀ j,j<σ.length->s3[j]?=σ[j]?:=fun j hj=>(f3 j AA).trans (k2 j hj)
 have qq:GW s3 3 45 s1.length w' (x.sites.map Aw):=Auy AA (Ar4 g3) qO qN;refine⟨u3,s3,w',Vp T50 rfl ?_ (Gn g4) (Ae4 g4) AA c6,c6,by omega,k3,⟨?_,?_⟩,fun j hj=>?_⟩
 rotate_right
 .rcases qq with⟨rfl,-⟩ | ⟨-,ib,gb,rfl,-,jj⟩
  .grind[V.refs]
  grind[V.refs]
 .simp only[Fx,Br,Ar]at e2;simp only[go_sem,Nv qc,qc,ha,e1,q1];refine Aa qZ ?_;simp only[go_sem,Nv ql,ql,e2,qW,e3];exact⟨rfl,rfl⟩
 .grind[Ahm]
 .intro p hp;rcases Ct.1 hp with h | h
  .exact⟨(hg.2 p (Ni h)).1,Alz (hg.2 p (Ni h)).2 k3⟩
  .rcases Bp.1 h with rfl | h
   .grind[Ahm]
   .exact⟨(hg.2 p (Zg h)).1,Alz (hg.2 p (Zg h)).2 k3⟩
def Bfn{L:List (V × Ent)}{l:List Ent}(h:L.map (·.2)=l)(ho:∀ x∈l,x.own=x):Us L=l.map Ent.row:=by
 grind[Us,List.map_congr_left]
def A4g{σ:St}{lo:Nat}{u w:V}{L:List (V × Ent)}{l:List Ent}{x:Ent}(hc:Cl σ)(hg:NG σ lo u L)(qa:lo<=σ.length)(hL:L.map (·.2)=l)(qf:∀ y∈l,y.own=y)(qg:x.own=x)(hb:l.length<=100000)(ho:Wp l)
  (hw:GW σ 3 45 lo w (x.sites.map Aw)) (hx:x.sites≠[]) (qA:x.sites.length<=1000000) :
  ∃ u' σ' L',Bx TT PT 19 [u,.agg (eR x w)] σ u' σ'/\Cl σ'/\σ.length<=σ'.length/\(∀ j,j<σ.length->σ'[j]?=σ[j]?)/\NG σ' lo u' L'/\L'.map (·.2)=K1 x l/\(Dj L->Dj L'):=by
 have qc:=Ce hw;have qo:=Ce hg.1;have jA:L.length=l.length:=by rw[<-hL,Au]
 have hp:=Atx true 0 l x AA ho AA
 have c1:Cl (σ++[eO x w]):=Jd hc fun j hj=>by
  simp only[Ob.refs,Ag,V.refs,Be,B3]at hj;exact U2 (Gn hw j hj)
 have k1:∀ j,j<σ.length->(σ++[eO x w]:St)[j]?=σ[j]?:=fun j hj=>Eb hj
 have qh:NG (σ++[eO x w]) lo u L:=Afx hg fun j _ hj=>k1 j hj
 have qd:GW (σ++[eO x w]) 3 45 lo w (x.sites.map Aw):=Gm hw;have o1:=Bqh (Bqg qh) qo;rw[Bfn hL qf]at o1
 have oe:OW (σ++[eO x w]) (.agg (eR x w)) (.agg x.row):=by
  have:=Bk4 (σ:=σ++[eO x w]) (.cons (Acd (Fj (v:=iV x.kind) rfl)) (.cons (Acd (Mm qd AA (Gz _) (M3 _))) (.cons (Acd (Fj (v:=iV x.seen) rfl)) (.cons (Acd (Fj (v:=iV x.missed) rfl)) .nil))));have e:x.row=x.own.row:=by rw[qg]
  rw[e];exact this
 have jH:(σ++[eO x w])[σ.length]?=some (eO x w):=Oy ..;unfold K1;cases ht:Iw x l
 .rw[ht]at hp;rw[if_neg AE];obtain⟨u',s2,w',jt,c2,l2,k2,g2,fr⟩:=Bfm (i:=D0 x l) c1 qh (by grind) (by grind[Ajy]) AA qd hx qA;simp only[Ar,Ao,Di]at l2 k2 fr;refine⟨u',s2,_,Vp T19 rfl ?_ (Gn g2.1) (Ae4 g2.1) AA c2,c2,by omega,fun j hj=>(k2 j AA).trans (k1 j hj),g2,?_,fun hd=>?_⟩
  .simp only[go_sem,Nv qc,qc];refine A0r (.cons o1 (.cons oe .nil)) hp rfl ?_;simp only[go_sem];refine Aa jt ?_;simp only[go_sem];exact⟨rfl,rfl⟩
  .simp_all
  .unfold Dj at hd ⊢;have qC:=hd;rw[<-L8 (D0 x l) L]at qC;obtain⟨d1,d2,d3⟩:=Zf.1 qC;have jE:∀ p∈L,∀ j∈p.1.refs,j<σ.length:=fun p hp j hj=>Gn (hg.2 p hp).2 j hj
   refine Zf.2 ⟨d1,K9.2 ⟨fun q hq j hj jC=>?_,d2⟩,fun a ha b hb=>?_⟩
   .grind
   grind
 .rw[ht]at hp;rw[if_pos rfl];refine⟨u,_,L,Vp T19 rfl ?_ (Gn qh.1) (Ae4 qh.1) AE c1,c1,by simp,k1,qh,hL,id⟩;simp only[go_sem,Nv qc,qc];refine A0r (.cons o1 (.cons oe .nil)) hp rfl ?_;simp only[go_sem];exact⟨rfl,rfl⟩
def A0s(l:List Ent)(u:V)(s:St):Prop:=∃ L,NG s 1 u L/\L.map (·.2)=l/\Cl s/\Dj L
def A2x(z:Bool)(t:Nat)(l:List Item)(hl:l.length<=9223372036854775807)(jp:∀ x∈l,x.ok):∃ u σ0,FnO TT PT 18 [SL z t (l.map Item.row)] u σ0/\A0s (F3 l 20) u σ0:=by
 refine Bk3 (P:=A0s (F3 l 20)) T18 rfl ?_ (fun v s ⟨L,h,_,hc,_⟩=>⟨hc,Ae4 h.1,Gn h.1⟩);simp only[go_sem,Au]
 refine Bk (α:=Nat × V × List (V × Ent) × St) (fun a=>l.length - a.1) (fun a=>[(3,.ptr 0 0 0),(11,SL z t (l.map Item.row)),(12,iV l.length),(13,iV a.1)]) (fun a=>a.2.2.2)
  (fun a=>a.1<=l.length/\a.1<=20/\a.2.2.2[0]?=some (.row [iV 0,a.2.1] 35 0 0)/\NG a.2.2.2 1 a.2.1 a.2.2.1/\a.2.2.1.map (·.2)=F3 l a.1/\Cl a.2.2.2/\Dj a.2.2.1) ?_ (0,.nils,[],[.row [iV 0,.nils] 35 0 0]) ⟨by simp,by simp,rfl,Bk5,rfl,fun o ho i hi=>by grind[List.mem_singleton,Ob.refs,Ag,V.refs],List.Pairwise.nil⟩
 rintro⟨i,U,L,s⟩ ⟨hi,jc,h0,hG,hL,hC,hD⟩ ih;simp only at hi jc h0 hG hL hC hD ih;have hs:1<=s.length:=(Al.1 h0).1;obtain⟨jI,jJ,qF⟩:=Aap l i;refine Bd Bop ?_;rcases Bh i l.length with h | h
 .obtain⟨x,hx,-,hm⟩:=Bq h;have qg:=jp x hm;have hk:x.kind<256/\x.seen<256/\x.missed<256:=⟨qg.1,qg.2.1,qg.2.2.1⟩;have qR:Cl (s++[.row x.row 114 0 0]):=Jd hC (by simp[Item.row,Ob.refs,Ag,V.refs]);have qQ:∀ J,(s++J)[0]?=some (.row [iV 0,U] 35 0 0):=fun J=>Bs h0
  simp only[go_sem,Ay h,As,hx];refine Lo (fun h2=>?_) (fun h2=>?_)
  .simp only[go_sem,qQ]
   have:F3 l 20=F3 l i:=by
    have:i=20:=by simp at h2;omega
    rw[this]
   rw[this];exact⟨_,rfl,L,Afx hG fun j _ hj=>Eb hj,hL,qR,hD⟩
  .have jd:i<20:=by simp at h2;omega
   have w1:IntKind.i64.wrap (x.kind:Int)=x.kind:=Cs AA;have w2:IntKind.i64.wrap (x.seen:Int)=x.seen:=Cs AA;have w3:IntKind.i64.wrap (x.missed:Int)=x.missed:=Cs AA;have r1:(x.kind:Int).tmod 4=((x.kind % 4:Nat):Int):=Acc x.kind 4;have r2:(x.seen:Int).tmod 9=((x.seen % 9:Nat):Int):=Acc x.seen 9;have r3:(x.missed:Int).tmod 8=((x.missed % 8:Nat):Int):=Acc x.missed 8;have r4:(x.kind:Int).tdiv 4=((x.kind / 4:Nat):Int):=Bqc x.kind 4;have r5:((x.kind / 4:Nat):Int).tmod 3=((x.kind / 4 % 3:Nat):Int):=Acc (x.kind / 4) 3;have a1:IntKind.i64.wrap (1+((x.kind % 4:Nat):Int))=1+((x.kind % 4:Nat):Int):=Cs AA;have a2:IntKind.i64.wrap (1+((x.seen % 9:Nat):Int))=1+((x.seen % 9:Nat):Int):=Cs AA;have a3:IntKind.i64.wrap ((x.kind / 4:Nat):Int)=((x.kind / 4:Nat):Int):=Cs AA;have a4:IntKind.i64.wrap (2+((x.kind / 4 % 3:Nat):Int))=2+((x.kind / 4 % 3:Nat):Int):=Cs AA;have a5:IntKind.i64.wrap (1+((x.kind % 4:Nat):Int) - 1)=((x.kind % 4:Nat):Int):=by rw[Cs AA];omega
   have hn:=X9 x.kind
   have jf:([[iV 2],[iV (2+((x.kind / 4 % 3:Nat):Int))],[iV 2],[iV 4]]:List (List V))[x.kind % 4]?=some [iV ((Sm x.kind:Nat):Int)]:=by
    have:x.kind % 4=0\/x.kind % 4=1\/x.kind % 4=2\/x.kind % 4=3:=by omega
    unfold Sm
    rcases this with h | h | h | h<;>rw[h]<;>simp
   simp only[go_sem,w1,w2,w3,r1,r2,r3,r4,r5,a1,a2,a3,a4,a5,jf,hn.2];refine A3g x qg (p:=s.length) (n:=Sm x.kind) AA hn.2 _ _ _ (1+((x.kind % 4:Nat):Int)) (1+((x.seen % 9:Nat):Int)) ((x.missed % 8:Nat):Int) s _ _ ?_ (0,.nils,s++[.row x.row 114 0 0,.row [iV (1+((x.kind % 4:Nat):Int)),.nils,iV (1+((x.seen % 9:Nat):Int)),iV ((x.missed % 8:Nat):Int)] 43 0 0]) ⟨by simp,?_,by simp,fun j hj=>Eb hj,Oy _ _,Alh _ _ 1,Ds⟩;rotate_left
   .have c1:=Jd (ob:=.row x.row 114 0 0) hC (by simp[Item.row,Ob.refs,Ag,V.refs]);have c2:=Jd (ob:=.row [iV (1+((x.kind % 4:Nat):Int)),.nils,iV (1+((x.seen % 9:Nat):Int)),iV ((x.missed % 8:Nat):Int)] 43 0 0) c1 AU
    grind
   intro u s' qs jh qy qP jb;have qB:s'[0]?=some (.row [iV 0,U] 35 0 0):=(qy 0 AA).trans h0;have qT:NG s' 1 U L:=Afx hG fun j _ hj=>qy j hj
   have jo:Wp (F3 l i):=fun e he=>by obtain⟨y,-,rfl⟩:=qF e he;grind[Xe,X9]
   have qf:∀ y∈F3 l i,y.own=y:=fun e he=>by obtain⟨y,-,rfl⟩:=qF e he;rfl
   have jw:x.ent.sites≠[]:=by
    intro e;have:=Xe x;rw[e]at this;simp at this;omega
   have qE:=Ar2 (l:=l) (i:=i) hx;obtain⟨u',s2,L2,qx,c2,l2,k2,g2,jz,qS⟩:=A4g (w:=u) (x:=x.ent) qs qT AA hL qf rfl AA jo (Ahm jb AA) jw (by grind[Xe]);have q0:s2[0]?=some (.row [iV 0,U] 35 0 0):=(k2 0 AA).trans qB;have qo:=Ce g2.1;simp only[go_sem,qB,qP];refine Aa qx ?_;simp only[go_sem,q0,Nv qo,qo,A1 (show i<9223372036854775807 by omega)];refine Aq (ih (i+1,u',L2,_) AA ⟨by omega,by omega,?_,Afx g2 fun j hj _=>by grind,?_,F8 c2 ?_,qS hD⟩) rfl
   .grind
   .grind
   .intro j hj;simp only[Ob.refs,Ag,V.refs,B3,Be]at hj;exact Gn g2.1 j hj
 .simp only[go_sem,Bl h,h0]
  have:F3 l 20=F3 l i:=by
   unfold F3;rw[Jb h,Jb AA]
  rw[this];exact⟨_,rfl,L,hG,hL,hC,hD⟩
