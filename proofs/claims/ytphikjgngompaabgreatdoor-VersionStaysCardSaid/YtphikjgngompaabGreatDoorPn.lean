/- Which values are baselines: plain. -/
import Derived.Test.YtphikjgngompaabGreatDoorPa
import Derived.Test.YtphikjgngompaabGreatDoorLd
set_option linter.all false
namespace Go.Proofs.YtphikjgngompaabGreatDoor.KM
open Go
def Bas(x:Ent)(m:Nat)(i:V):Mr m x.sl i=(J6 (x.sites.map A0) i).bind fun r=>if r.length=m then some (.imm r 0) else none:=Af0 ..
def Of(l:List UInt8):Bool:=decide (1<=l.length)&&decide (l.length<=1000)&&l.all fun c=>decide (32<=c.toNat)&&decide (c.toNat<=126)
def E8(k:Ak):Bool:=Bm k.1&&Of k.2.1&&decide (0<=k.2.2)&&decide (k.2.2<60)
def Og(k:Int)(n:Nat):Bool:=((k==1||k==3)&&n==2)||(k==2&&decide (2<=n)&&decide (n<=4))||(k==4&&n==4)
def Qz(e:Ent):Bool:=decide (1<=e.seen)&&decide (e.seen<=1073741824)&&decide (0<=e.missed)&&decide (e.missed<=7)
def Gj(e:Ent):Bool:=Og e.kind e.sites.length&&e.sites.all E8&&Qz e
def K8(l:List Ent)(i:Nat):Bool:=match l[i]? with
 | some x=>Gj x&&(match i with
  | 0=>true
  | j+1=>match l[j]? with
   | some p=>decide (Cv p x<0)
   | none=>false)
 | none=>false
def Qj(l:List Ent):Bool:=(List.range l.length).all (K8 l)
def Md(n:Int)(l:List Ent):Bool:=decide (0<=n)&&decide (n<=1073741824)&&decide (l.length<=64)&&Qj l
theorem Bat{l:List Ent}{i:Nat}(hi:i<l.length)(h:K8 l i=false):Qj l=false:=by
 unfold Qj
 grind
theorem Akz{l:List Ent}(h:∀ i,i<l.length->K8 l i=true):Qj l=true:=by
 grind[Qj]
def Aqu{l:List Ent}:Qj l=true↔∀ i,i<l.length->K8 l i=true:=⟨fun h i hi=>by
 grind[Qj],Akz⟩
def Bau{l:List Ent}{i:Nat}{x:Ent}(hx:l[i]?=some x)(h:K8 l i=true):Gj x=true:=by
 simp_all [K8]
def Bfr{l:List Ent}{i:Nat}{p x:Ent}(hp:l[i]?=some p)(hx:l[i+1]?=some x)(h:K8 l (i+1)=true):Cv p x<0:=by
 simp_all [K8]
def Bla{l:List Ent}(h:∀ i p x,l[i]?=some p->l[i+1]?=some x->Cv p x<0):Hw l:=by
 unfold Hw;rw[Wp];intro i j hi hj jG
 induction j with
 | zero=>omega
 | succ j ih=>
  have h1:Cv l[j] l[j+1]<0:=h j l[j] l[j+1] (B9 AA) (B9 hj);by_cases jg:i=j
  .grind
  .exact lin_p.trans l[i].ks l[j].ks l[j+1].ks (ih AA AA) h1
def A4h{l:List Ent}(h:Qj l=true):Hw l:=
 Bla fun i p x hp hx=>Bfr hp hx (Aqu.1 h (i+1) (Ao.1 hx).1)
def A4i{l:List Ent}(h:Qj l=true):∀ x∈l,Gj x=true:=fun x hx=>by
 obtain⟨i,hi,rfl⟩:=Ou hx;exact Bau (B9 hi) (Aqu.1 h i hi)
def A6u{l:List Ent}(h1:Hw l)(h2:∀ x∈l,Gj x=true):Qj l=true:=by
 refine Akz fun i hi=>?_
 unfold K8;rw[B9 hi];simp only[h2 _ (M4 hi),W3]
 cases i with
 | zero=>rfl
 | succ j=>
  simp only;rw[B9 AA];simp only[decide_eq_true_eq];exact Wp.1 h1 j (j+1) AA hi AA
def Auz{k:Int}{n:Nat}(h:Og k n=true):n<=4/\2<=n:=by
 unfold Og at h
 grind
def Ak0{x:Ent}(h:Gj x=true):x.sites.length<=4/\2<=x.sites.length:=by
 unfold Gj at h;simp only[Ai]at h;exact Auz h.1.1
def Bfs{k:Ak}(h:Bm k.1=false):E8 k=false:=by grind[E8]
theorem Bft{k:Ak}(h:k.2.1.length<1):E8 k=false:=by grind[E8,Of]
theorem Bfu{k:Ak}(h:1000<k.2.1.length):E8 k=false:=by grind[E8,Of]
theorem Bfv{k:Ak}(h:k.2.2<0):E8 k=false:=by grind[E8]
theorem Bfw{k:Ak}(h:60<=k.2.2):E8 k=false:=by grind[E8]
theorem Axl{k:Ak}{i:Nat}{c:UInt8}(hc:k.2.1[i]?=some c)(h:c.toNat<32\/126<c.toNat):E8 k=false:=by
 unfold E8 Of
 grind
def Bfx{k:Ak}(h1:Bm k.1=true)(h2:1<=k.2.1.length)(h3:k.2.1.length<=1000)(h4:0<=k.2.2)(h5:k.2.2<60)(h6:∀ (i:Nat) (c:UInt8),k.2.1[i]?=some c->32<=c.toNat/\c.toNat<=126):E8 k=true:=by
 unfold E8 Of
 have:(k.2.1.all fun c=>decide (32<=c.toNat)&&decide (c.toNat<=126))=true:=by
  rw[Bu];intro c hc;obtain⟨i,hi,rfl⟩:=Ou hc;have:=h6 i _ (B9 hi);simp only[Ai,decide_eq_true_eq];exact this
 grind
def Bfy(k:Ak):Fn TT PT 51 [.agg (A0 k)] (.bool (E8 k)):=by
 refine Bg T51 rfl ?_;unfold A0;simp only[go_sem];refine Fm P87 rfl AK ?_;cases h0:Bm k.1
 .simp only[go_sem];exact Ah rfl (by rw[Bfs h0])
 cases h1:decide ((k.2.1.length:Int)<1);rotate_left
 .simp only[go_sem,h1];exact Ah rfl (by grind[Bft])
 cases h2:decide ((1000:Int)<(k.2.1.length:Int));rotate_left
 .simp only[go_sem,h1,h2];exact Ah rfl (by grind[Bfu])
 cases h3:decide (k.2.2<0);rotate_left
 .simp only[go_sem,h1,h2,h3];exact Ah rfl (by grind[Bfv])
 cases h4:decide (60<=k.2.2);rotate_left
 .simp only[go_sem,h1,h2,h3,h4];exact Ah rfl (by grind[Bfw])
 simp only[go_sem,h1,h2,h3,h4];simp at h1 h2 h3 h4;refine Bk (fun i=>k.2.1.length - i) (fun i:Nat=>[(1,.ptr 0 0 0),(32,iV k.2.1.length),(33,iV i)]) (fun _=>[.row (kR k) 45 0 0]) (fun i=>i<=k.2.1.length/\∀ (j:Nat) (c:UInt8),j<i->k.2.1[j]?=some c->32<=c.toNat/\c.toNat<=126) ?_ 0 ⟨by omega,fun j c hj=>by omega⟩;rintro i ⟨hi,qf⟩ ih;refine Bd Bpf ?_;rcases Bh i k.2.1.length with h | h
 .obtain⟨c,hc,-,-⟩:=Br h;cases h5:decide (((c.toNat:Nat):Int)<32);rotate_left
  .simp only[go_sem,Az h,hc,h5];exact Ah rfl (by grind[Axl])
  cases h6:decide ((126:Int)<((c.toNat:Nat):Int));rotate_left
  .simp only[go_sem,Az h,hc,h5,h6];exact Ah rfl (by grind[Axl])
  simp only[go_sem,Az h,hc,h5,h6,A2 (show i<9223372036854775807 by omega)];simp at h5 h6;refine Av (ih (i+1) AA ⟨by omega,fun j c' hj qu=>?_⟩) rfl;by_cases e:j=i
  .grind
  .exact qf j c' AA qu
 .simp only[go_sem,Bl h];refine Ah rfl ?_;rw[Bfx h0 AA AA h3 h4 fun i' c hc=>qf i' c (by grind) hc]
/-! entries -/
theorem Rk{x:Ent}(h:Og x.kind x.sites.length=false):Gj x=false:=by grind[Gj]
theorem Bfz{x:Ent}{i:Nat}{k:Ak}(hk:x.sites[i]?=some k)(h:E8 k=false):Gj x=false:=by
 unfold Gj
 grind
def Blb{x:Ent}(h1:Og x.kind x.sites.length=true)(h2:∀ (i:Nat) (k:Ak),x.sites[i]?=some k->E8 k=true):Gj x=Qz x:=by
 unfold Gj
 have:x.sites.all E8=true:=by
  rw[Bu];intro c hc;obtain⟨i,hi,rfl⟩:=Ou hc;exact h2 i _ (B9 hi)
 grind
theorem Agr{x:Ent}(h:x.seen<1\/1073741824<x.seen\/x.missed<0\/7<x.missed):Qz x=false:=by
 unfold Qz
 grind
theorem Axm{x:Ent}(h1:1<=x.seen)(h2:x.seen<=1073741824)(h3:0<=x.missed)(h4:x.missed<=7):Qz x=true:=by
 grind[Qz]
theorem Ru{k:Int}{n:Nat}(h:¬ (((k=1\/k=3)/\n=2)\/(k=2/\2<=n/\n<=4)\/(k=4/\n=4))):Og k n=false:=by
 simp_all [Og]
def Abm{k:Int}{n:Nat}(h:((k=1\/k=3)/\n=2)\/(k=2/\2<=n/\n<=4)\/(k=4/\n=4)):Og k n=true:=by
 unfold Og
 grind
def Blc{T:Nat->Option AF}{pr:Nat->Option (List V->Option V)}{a b:It}{c c':AC}{e:Env}{σ:St}{Q:Env->St->Prop}(hc:c=c')(h:W T pr [a,b,.c c'] e σ Q):W T pr [a,b,.c c] e σ Q:=hc ▸ h
noncomputable def last46:AC:=match b26.body with
 | .seq _ (.seq _ (.seq _ (.seq _ (.seq _ c))))=>c
 | c=>c
def Adr(x:Ent)(hk:Og x.kind x.sites.length=true):W TT PT [.l [1,29,30,31] lp26_0,.b 1,.c last46] [(1,.ptr 0 0 0),(29,x.sl),(30,iV x.sites.length),(31,iV 0)]
  [eO x x.sl] (FQ [AR.tmp 2] (.bool (Gj x))):=by
 have jL:=Auz hk;refine Blc (c:=last46) (by delta last46 b26 tX;exact rfl) ?_
 refine Bk (α:=Nat × St) (fun a=>x.sites.length - a.1) (fun a=>[(1,.ptr 0 0 0),(29,x.sl),(30,iV x.sites.length),(31,iV a.1)]) (fun a=>eO x x.sl::a.2)
  (fun a=>a.1<=x.sites.length/\∀ (j:Nat) (k:Ak),j<a.1->x.sites[j]?=some k->E8 k=true) ?_ (0,[]) ⟨by simp,fun j k hj=>by omega⟩
 rintro⟨i,s⟩ ⟨hi,qf⟩ ih;simp only at hi qf ih;refine Bd Bo0 ?_;rcases Bh i x.sites.length with h | h
 .obtain⟨k,hx,-,-⟩:=Br h;have hv:=Bfy k;simp only[A0]at hv;simp only[go_sem,Az h,Bas,Au,hx,A0];refine Ab hv rfl ?_;cases hb:E8 k
  .simp only[go_sem];exact Ah rfl (by grind[Bfz])
  .simp only[go_sem,A2 (show i<9223372036854775807 by omega)];refine Av (ih (i+1,_) AA ⟨by omega,fun j k' hj qA=>?_⟩) rfl
   grind
 .have qt:Gj x=Qz x:=Blb hk fun j k hj=>qf j k (by grind) hj
  rw[qt];cases m1:decide (1<=x.seen)
  .simp only[go_sem,Bl h,m1];exact Ah rfl (by grind[Agr])
  cases m2:decide (x.seen<=1073741824)
  .simp only[go_sem,Bl h,m1,m2];exact Ah rfl (by grind[Agr])
  cases m3:decide (0<=x.missed)
  .simp only[go_sem,Bl h,m1,m2,m3];exact Ah rfl (by grind[Agr])
  cases m4:decide (x.missed<=7)
  .simp only[go_sem,Bl h,m1,m2,m3,m4];exact Ah rfl (by grind[Agr])
  simp only[go_sem,Bl h,m1,m2,m3,m4];simp at m1 m2 m3 m4;exact Ah rfl (by grind[Axm])
def A6v(x:Ent):Fn TT PT 26 [.agg x.row] (.bool (Gj x)):=by
 refine Bg T26 rfl ?_;unfold Ent.row;cases k1:(x.kind==1)
 .cases k3:(x.kind==3)
  .cases k2:(x.kind==2)
   .cases k4:(x.kind==4)
    .simp only[go_sem,k1,k2,k3,k4];exact Ah rfl (by grind[Rk,Ru])
    .cases n1:decide ((x.sites.length:Int)<4);rotate_left
     .simp only[go_sem,k1,k2,k3,k4,n1];exact Ah rfl (by grind[Rk,Ru])
     cases n2:decide ((4:Int)<(x.sites.length:Int));rotate_left
     .simp only[go_sem,k1,k2,k3,k4,n1,n2];exact Ah rfl (by grind[Rk,Ru])
     simp only[go_sem,k1,k2,k3,k4,n1,n2];exact Adr x (Abm (by grind))
   .cases n1:decide ((x.sites.length:Int)<2);rotate_left
    .simp only[go_sem,k1,k2,k3,n1];exact Ah rfl (by grind[Rk,Ru])
    cases n2:decide ((4:Int)<(x.sites.length:Int));rotate_left
    .simp only[go_sem,k1,k2,k3,n1,n2];exact Ah rfl (by grind[Rk,Ru])
    simp only[go_sem,k1,k2,k3,n1,n2];exact Adr x (Abm (by grind))
  .cases n1:decide ((x.sites.length:Int)<2);rotate_left
   .simp only[go_sem,k1,k3,n1];exact Ah rfl (by grind[Rk,Ru])
   cases n2:decide ((2:Int)<(x.sites.length:Int));rotate_left
   .simp only[go_sem,k1,k3,n1,n2];exact Ah rfl (by grind[Rk,Ru])
   simp only[go_sem,k1,k3,n1,n2];exact Adr x (Abm (by grind))
 .cases n1:decide ((x.sites.length:Int)<2);rotate_left
  .simp only[go_sem,k1,n1];exact Ah rfl (by grind[Rk,Ru])
  cases n2:decide ((2:Int)<(x.sites.length:Int));rotate_left
  .simp only[go_sem,k1,n1,n2];exact Ah rfl (by grind[Rk,Ru])
  simp only[go_sem,k1,n1,n2];exact Adr x (Abm (by grind))
theorem Ajz{n:Int}{l:List Ent}(h:n<0\/1073741824<n\/64<l.length):Md n l=false:=by
 rw[<-Wz];intro hv;unfold Md at hv
 grind
theorem Aj0{n:Int}{l:List Ent}{i:Nat}(hi:i<l.length)(h:K8 l i=false):Md n l=false:=by
 grind[Md,Bat]
theorem A6w{n:Int}{l:List Ent}(h1:0<=n)(h2:n<=1073741824)(h3:l.length<=64)(h:∀ i,i<l.length->K8 l i=true):Md n l=true:=by
 grind[Md,Akz]
theorem Azl{l:List Ent}{x:Ent}(h:l[0]?=some x):K8 l 0=Gj x:=by
 grind[K8]
theorem Am2{l:List Ent}{j:Nat}{p x:Ent}(hp:l[j]?=some p)(h:l[j+1]?=some x):K8 l (j+1)=(Gj x&&decide (Cv p x<0)):=by
 grind[K8]
def Bqt{j:Nat}(h:j<9223372036854775807):IntKind.i64.wrap (((j+1:Nat):Int) - 1)=(j:Int):=by
 grind[Cm]
def Au0(z:Bool)(t:Nat)(n:Int)(l:List Ent)(ho:Uu l):Fn TT PT 8 [.agg [iV n,SL z t (l.map Ent.row)]] (.bool (Md n l)):=by
 refine Bg T8 rfl ?_;cases h1:decide (n<0);rotate_left
 .simp only[go_sem,h1];exact Ah rfl (by grind[Ajz])
 cases h2:decide (1073741824<n);rotate_left
 .simp only[go_sem,h1,h2];exact Ah rfl (by grind[Ajz])
 cases h3:decide ((64:Int)<(l.length:Int));rotate_left
 .simp only[go_sem,h1,h2,Ar,h3];exact Ah rfl (by grind[Ajz])
 simp only[go_sem,h1,h2,Ar,h3];simp at h1 h2 h3
 refine Bk (α:=Nat × St) (fun a=>l.length - a.1) (fun a=>[(1,.ptr 0 0 0),(20,SL z t (l.map Ent.row)),(21,iV l.length),(22,iV a.1)]) (fun a=>.row [iV n,SL z t (l.map Ent.row)] 35 0 0::a.2)
  (fun a=>a.1<=l.length/\∀ j,j<a.1->K8 l j=true) ?_ (0,[]) ⟨by simp,fun j hj=>by omega⟩
 rintro⟨i,s⟩ ⟨hi,qf⟩ ih;simp only at hi qf ih;refine Bd Brx ?_;rcases Bh i l.length with h | h
 .obtain⟨x,hx,-,hm⟩:=Br h;have hv:=A6v x;cases hz:decide ((0:Int)<(i:Int))
  .obtain rfl:i=0:=by grind
   have h0:decide ((0:Int)<(l.length:Int))=true:=Az h;simp only[go_sem,h0,Au,hx];refine Af AD ?_;simp only[go_sem];refine Ab hv AB ?_;cases hb:Gj x
   .simp only[go_sem];exact Ah rfl (by grind[Aj0,Azl])
   .simp only[go_sem];refine Av (ih (1,_) AA ⟨by omega,fun j hj=>?_⟩) rfl;obtain rfl:j=0:=by omega
    grind[Azl]
  .obtain⟨j,rfl⟩:∃ j,i=j+1:=⟨i - 1,by grind⟩;obtain⟨p,hp,-,jv⟩:=Br (show j<l.length by omega);have hl:=Afg p x (ho p jv) (ho x hm);have hd:=Bqt (show j<9223372036854775807 by omega);cases hc:decide (Cv p x<0)
   .rw[hc]at hl;simp only[go_sem,Az h,Au,hx];refine Af AD ?_;simp only[go_sem,hz,hd,Au,hp];refine Bf hl AB ?_;simp only[go_sem];exact Ah rfl (by grind[Aj0,Am2])
   .rw[hc]at hl;simp only[go_sem,Az h,Au,hx];refine Af AD ?_;simp only[go_sem,hz,hd,Au,hp];refine Bf hl AB ?_;simp only[go_sem];refine Ab hv AB ?_;cases hb:Gj x
    .simp only[go_sem];exact Ah rfl (by grind[Aj0,Am2])
    .simp only[go_sem,A2 (show j+1<9223372036854775807 by omega)];refine Av (ih (j+2,_) AA ⟨by omega,fun j' jH=>?_⟩) rfl
     grind[Am2]
 .simp only[go_sem,Bl h];exact Ah rfl (by grind[A6w])
/-! interleaveref39 -/
def Ags{z:Bool}{t:Nat}{xs:List (List V)}(h:xs≠[]):SL z t xs=.lst t xs:=by grind[SL]
def Azm{σ:St}{m e bytes:Nat}{y:V}{ys:List (List V)}(hy:Eu σ m y=some ys)(hn:ys≠[])(hm:0<m)(hl:∀ r∈ys,r.length=m)(hb:ys.length*bytes<=140737488355328):
  Dt bytes (m,e) (.lst 1 []) y σ=some (.sl σ.length 0 0 ys.length m true,σ++[.row ys.flatten e 0 0]):=by
 simp_all [Dt,Jz]
def Bav(z:Bool)(t:Nat)(l:List Ak)(hn:l≠[])(hb:l.length<=1000000):Fn TT PT 21 [SL z t (l.map A0)] (SL true 0 (l.map A0)):=by
 have qo:l.map A0≠[]:=by simpa using hn
 have ha:=Azm (σ:=[]) (m:=3) (e:=45) (bytes:=40) (y:=.lst t (l.map A0)) (ys:=l.map A0) rfl qo AA (H0 l) (by grind);rw[Ags qo];refine Bg T21 rfl ?_;simp only[go_sem,ha];exact Tr (m:=3) (e:=45) (lo:=0) (.inr ⟨qo,0,0,rfl,rfl,Aj _⟩) AA (H0 l) (Nu l)
def Yc{T:Nat->Option AF}{pr:Nat->Option (List V->Option V)}{f p:Nat}{res:List AR}{body:AC}{vs:List V}{v:V}{σ:St}{P:St->Prop}(hT:T f=some ⟨p,res,true,body,none⟩)(hl:vs.length=p)
  (h:W T pr [.c body] (C4 0 vs) σ (Hd fun e' σ1=>Cd e' σ1 res=some v/\P σ1)) (hr:v.refs=[]) (ho:Ci v=true) (hP:∀ s,P s->Cl s/\σ.length<=s.length):∃ σ',Th T pr f vs σ v σ'/\P σ':=by
 obtain⟨e',σ1,hE,h1,h2⟩:=h;exact⟨σ1,Af1 hT hl ⟨e',σ1,hE,h1,rfl⟩ hr ho (hP _ h2).2 (hP _ h2).1,h2⟩
def Afn{s:St}{cs:List V}{t:Nat}(h:Cl s)(hr:cs.all V.rowB=true):Cl (s++[.row cs t 0 0]):=Jh h (by simp only[Ob.refs,Ft hr];simp)
def Hx(x:Ent):Prop:=Gj x=true
def Al1{x:Ent}(h:Hx x):x.sites.length<=9223372036854775807:=by have:=Ak0 h;omega
def Bld{x:Ent}(h:Hx x):x.sites≠[]:=by
 have:=Ak0 h;intro e;rw[e]at this;simp at this
/-! texts -/
def Bf0{T:Nat->Option AF}{pr:Nat->Option (List V->Option V)}{f p:Nat}{res:List AR}{body:AC}{vs:List V}{v:V}{σ':St}(hT:T f=some ⟨p,res,false,body,none⟩)(hl:vs.length=p)
  (h:W T pr [.c body] (C4 0 vs) [] (Hd fun e' σ1=>Cd e' σ1 res=some v/\σ1=σ')) (hr:∀ i∈v.refs,i<σ'.length) (ho:Ci v=true) (hc:Cl σ'):FnO T pr f vs v σ':=by
 obtain⟨F,h1,h2,h3⟩:=Vm hT hl h hr ho (Ax _) hc;have e:=h1.symm.trans hT;cases e;exact⟨_,hT,rfl,rfl,h3⟩
def Bf1{σ:St}{args:List V}(h:Ag args=[])(σ0:St):own σ args σ0=σ++σ0.map (Ob.ren (·+σ.length)):=by
 unfold own;rw[Z6 h];rfl
def Aey{σ:St}{m e lo:Nat}{u:V}{xs:List (List V)}(h:GW σ m e lo u xs):Ci u=true:=by
 rcases h with⟨rfl,rfl⟩ | ⟨hn,i,g,rfl,ho,qb⟩<;>rfl
mutual
theorem Baw(ρ:Nat->Nat):∀ v:V,(v.ren ρ).refs=v.refs.map ρ
 | .ptr i g o=>rfl
 | .sl i g o l m w=>rfl
 | .mp i=>rfl
 | .fn f a c=>by simp only[V.ren,V.refs,Z1 ρ a,Z1 ρ c,Fz]
 | .agg cs=>by simp only[V.ren,V.refs,Z1 ρ cs]
 | .tup cs=>by simp only[V.ren,V.refs,Z1 ρ cs]
 | .und=>rfl
 | .skp=>rfl
 | .bool _=>rfl
 | .int _ _=>rfl
 | .str _=>rfl
 | .nili=>rfl
 | .ifc=>rfl
 | .nils=>rfl
 | .nilp=>rfl
 | .nilf=>rfl
 | .lst _ _=>rfl
 | .imm _ _=>rfl
theorem Z1(ρ:Nat->Nat):∀ vs:List V,Ag (Fh ρ vs)=(Ag vs).map ρ
 | []=>rfl
 | v::r=>by simp only[Fh,Ag,Baw ρ v,Z1 ρ r,Fz]
end
def Ble{T:Nat->Option AF}{pr:Nat->Option (List V->Option V)}{f p:Nat}{res:List AR}{body:AC}{vs:List V}{P:V->St->Prop}(hT:T f=some ⟨p,res,false,body,none⟩)(hl:vs.length=p)
  (h:W T pr [.c body] (C4 0 vs) [] (Hd fun e' σ1=>∃ v,Cd e' σ1 res=some v/\P v σ1)) (hP:∀ v s,P v s->Cl s/\Ci v=true/\∀ i∈v.refs,i<s.length):∃ v σ',FnO T pr f vs v σ'/\P v σ':=by
 obtain⟨e',σ1,hE,v,h1,h2⟩:=h;obtain⟨q1,q2,q3⟩:=hP _ _ h2;exact⟨v,σ1,Bf0 hT hl ⟨e',σ1,hE,h1,rfl⟩ q3 q2 q1,h2⟩
def Al2{σ σ':St}{m e lo:Nat}{u:V}{xs:List (List V)}(h:GW σ m e lo u xs)(hk:∀ j,j<σ.length->σ'[j]?=σ[j]?):GW σ' m e lo u xs:=by
 rcases h with h | ⟨hn,i,g,h,ho,qb⟩
 .exact .inl h
 .exact .inr ⟨hn,i,g,h,(hk i (Ao.1 ho).1).trans ho,qb⟩
theorem Ahh{σ:St}{m e lo Mv:Nat}{u:V}{xs:List (List V)}(h:GW σ m e lo u xs)(hl:Mv<=lo):GW σ m e Mv u xs:=by
 rcases h with h | ⟨hn,i,g,h,ho,qb⟩
 .exact .inl h
 .exact .inr ⟨hn,i,g,h,ho,by omega⟩
def Aci(σ:St)(v:V)(js:List Nat):Prop:=∀ i∈v.refs,i∈js/\∀ ob,σ[i]?=some ob->∀ j∈ob.refs,j∈js
def ON(σ:St)(v v':V):Prop:=∀ js:List Nat,Aci σ v js->∀ d,Fe σ js (d+3) v=some v'
def OW(σ:St)(v v':V):Prop:=∀ js:List Nat,Aci σ v js->Gq σ js v=some v'
inductive ONs (σ:St):List V->List V->Prop
 | nil:ONs σ [] []
 | cons {v v':V} {vs qc:List V}:ON σ v v'->ONs σ vs qc->ONs σ (v::vs) (v'::qc)
inductive OWs (σ:St):List V->List V->Prop
 | nil:OWs σ [] []
 | cons {v v':V} {vs qc:List V}:OW σ v v'->OWs σ vs qc->OWs σ (v::vs) (v'::qc)
def Ab5{σ:St}{v v':V}(h:OC σ v v'):ON σ v v':=fun js hj d=>h js (fun i hi=>(hj i hi).1) (d+1)
def Bqu{σ:St}{i g m e z:Nat}{w:Bool}{xs qq:List (List V)}(ho:σ[i]?=some (.row xs.flatten e g z))(hm:0<m)(hl:∀ r∈xs,r.length=m)(hc:OCs σ xs.flatten qq.flatten)(jk:∀ r∈qq,r.length=m)(hn:qq.length=xs.length):
  ON σ (.sl i g 0 xs.length m w) (.lst 0 qq):=by
 intro js hj d
 have hi:js.elem i=true:=by
  have:=(hj i AS).1;simpa using this
 have jh:∀ j∈Ag xs.flatten,j∈js:=(hj i AS).2 _ ho;have hf:=Gg hl;unfold Fe;rw[if_neg AN];simp only[hi,if_true,ho];rw[if_pos ⟨trivial,hm,by omega⟩,Jf,<-hf,Dq,Alh hc jh]
 grind[U5]
def Axn{σ:St}{js:List Nat}{d:Nat}:∀ {vs qc:List V},ONs σ vs qc->(∀ v∈vs,Aci σ v js)->vs.mapM (Fe σ js (d+3))=some qc
 | _,_,.nil,_=>rfl
 | _,_,.cons h hs,hj=>by
  rw[Le,h js (hj _ B4) d,Axn hs fun v hv=>hj v (Cb _ hv)];rfl
def Axo{σ:St}{js:List Nat}:∀ {vs qc:List V},OWs σ vs qc->(∀ v∈vs,Aci σ v js)->vs.mapM (Gq σ js)=some qc
 | _,_,.nil,_=>rfl
 | _,_,.cons h hs,hj=>by
  rw[Le,h js (hj _ B4),Axo hs fun v hv=>hj v (Cb _ hv)];rfl
def Al3:∀ {cs:List V} {c:V},c∈cs->∀ i∈c.refs,i∈Ag cs
 | _::cs,c,h,i,hi=>by
  simp only[Ag,Cu];rcases Bp.1 h with rfl | h
  .grind
  .exact .inr (Al3 h i hi)
def Blf{σ:St}{cs cs':List V}(h:ONs σ cs cs'):OW σ (.agg cs) (.agg cs'):=fun js hj=>by
 simp only[Gq];rw[Axn (d:=6) h fun v hv i hi=>hj i (Al3 hv i hi)];rfl
def Bax(σ:St):∀ (d:Nat) (js:List Nat) (i:Nat),i∈js->∀ ob,σ[i]?=some ob->∀ j∈ob.refs,j∈Fr σ (d+1) js:=by
 intro d js i hi ob ho j hj;simp only[Fr];by_cases jJ:j∈js
 .grind[Nz]
 .have jo:j∈(js.flatMap fun i=>match σ[i]? with
   | some ob=>ob.refs
   | none=>[]).filter fun i=>!js.elem i:=by
   rw[U0];refine⟨List.mem_flatMap.2 ⟨i,hi,?_⟩,?_⟩
   .grind
   .grind
  rw[if_neg (by
   grind)]
  grind[Nz,List.mem_eraseDups]
def Bay{σ:St}{v:V}{js:List Nat}(h:∀ i∈v.refs,i∈js):Aci σ v (Fr σ 9 js):=fun i hi=>⟨Nz σ 9 _ i (h i hi),fun ob ho j hj=>Bax σ 8 js i (h i hi) ob ho j hj⟩
def Bf2{σ:St}{vs qc:List V}(h:OWs σ vs qc):Dm σ vs=some qc:=Axo h fun v hv=>Bay fun i hi=>Sn.2 (Al3 hv i hi)
/-! entries whose sites are lists of their own -/
def Fy(p:V × Ent):List V:=(eR p.2 p.1)
def NG(s:St)(lo:Nat)(u:V)(L:List (V × Ent)):Prop:=GW s 4 43 lo u (L.map Fy)/\∀ p∈L,p.2.sites≠[]/\GW s 3 45 lo p.1 (p.2.sites.map A0)
def Up(L:List (V × Ent)):List (List V):=L.map fun p=>p.2.own.row
theorem Rd(L:List (V × Ent)):∀ r∈L.map Fy,r.length=4:=by
 intro r hr;obtain⟨p,-,rfl⟩:=Cs.1 hr;rfl
def Baz(L:List (V × Ent)):∀ r∈Up L,r.length=4:=by
 intro r hr;obtain⟨p,-,rfl⟩:=Cs.1 hr;rfl
def Azn{s:St}{lo:Nat}:∀ {L:List (V × Ent)},(∀ p∈L,p.2.sites≠[]/\GW s 3 45 lo p.1 (p.2.sites.map A0))->OCs s (L.map Fy).flatten (Up L).flatten
 | [],_=>.nil
 | p::L,h=>by
  have h1:=Mj (h p B4).2 AA (H0 _) (Nu _);exact .cons (Fk rfl) (.cons h1 (.cons (Fk rfl) (.cons (Fk rfl) (Azn fun q hq=>h q (Cb _ hq)))))
def Bqv{s:St}{lo:Nat}{u:V}{L:List (V × Ent)}(h:NG s lo u L):ON s u (SL true 0 (Up L)):=by
 obtain⟨h1 | ⟨hn,i,g,rfl,ho,qb⟩,h2⟩:=h
 .obtain⟨rfl,h1⟩:=h1;obtain rfl:L=[]:=by simp_all
  exact Ab5 (Fk rfl)
 .have jn:Up L≠[]:=by
   intro e;apply hn;have:L=[]:=by simpa[Up] using e
   rw[this];rfl
  rw[V3 jn];exact Bqu ho AA (Rd L) (Azn h2) (Baz L) (by simp[Up])
section
variable {Q:Env->St->Prop} {e:Env} {σ:St} {k:List It} {l:List AI} {kill:List Nat} {f:Nat} {args vs:List V} {v:V} {d:Option Nat}
def A0y(hx:OWs σ args vs)(hf:Fn TT PT f vs v)(jb:v.flatV=true)(h:WR TT PT l kill k (e.putO d v) σ Q):WX TT PT (.call f args) d l kill k e σ Q:=
 Jg (.pure (Bf2 hx) hf) (by unfold after;rw[if_pos jb];exact h)
end
theorem A6x(a:List V)(k:Nat):∀ i∈Ag (a.take k),i∈Ag a:=by
 grind[Lh,List.take_append_drop]
theorem A6y(a:List V)(k:Nat):∀ i∈Ag (a.drop k),i∈Ag a:=by
 intro i hi;have:=Lh (a.take k) (a.drop k)
 simp_all
def Ajd{σ σ':St}{m e lo bytes:Nat}{u u' y:V}{xs ys:List (List V)}(h:GW σ m e lo u xs)(hy:Eu σ m y=some ys)(ha:Dt bytes (m,e) u y σ=some (u',σ'))(hx:∀ i∈Ag xs.flatten,i<σ.length)(hz:∀ i∈Ag ys.flatten,i<σ.length)(hc:Cl σ):Cl σ':=by
 unfold Dt at ha;simp only[hy,C5]at ha;unfold Jz at ha
 split at ha
 .rcases h with⟨rfl,rfl⟩ | ⟨hn,i,g,rfl,ho,qb⟩
  .simp only at ha
   split at ha
   .split at ha
    .grind
    .cases ha;exact Jh hc fun i hi=>Uy (hz i hi)
   grind
  .simp only at ha
   split at ha
   .simp only[ho,if_true]at ha
    grind[F9,Ob.refs,Lh,A6x,A6y]
   grind
 grind
def Axp{s:St}{lo:Nat}:∀ {L:List (V × Ent)},(∀ p∈L,p.2.sites≠[]/\GW s 3 45 lo p.1 (p.2.sites.map A0))->∀ i∈Ag (L.map Fy).flatten,i<s.length
 | [],_,i,hi=>by cases hi
 | p::L,h,i,hi=>by
  simp only[Aw,Fd,Lh,Fy,Ag,V.refs,Ba,Cc,Cu]at hi;rcases hi with hi | hi
  .exact Gr (h p B4).2 i hi
  .exact Axp (fun q hq=>h q (Cb _ hq)) i AA
def Au1{s s':St}{m m' e e' qK n:Nat}{u w:V}{ys:List (List V)}(he:e≠e')(hu:u=.nils\/∃ i g cs,u=.sl i g 0 n m true/\s[i]?=some (.row cs e g 0))(h:GW s m' e' qK w ys)(hf:∀ j,(∀ i g,u=.sl i g 0 n m true->j≠i)->j<s.length->s'[j]?=s[j]?):GW s' m' e' qK w ys:=by
 rcases h with h | ⟨hn,j,g,rfl,ho,qb⟩
 .exact .inl h
 .refine .inr ⟨hn,j,g,rfl,?_,qb⟩
  grind
def Ar9{s:St}{m e lo:Nat}{u:V}{xs:List (List V)}(h:GW s m e lo u xs):u=.nils\/∃ i g cs,u=.sl i g 0 xs.length m true/\s[i]?=some (.row cs e g 0):=by
 rcases h with⟨rfl,-⟩ | ⟨-,i,g,rfl,ho,-⟩
 .grind
 grind
def Afo{s s':St}{lo:Nat}{u:V}{L:List (V × Ent)}(h:NG s lo u L)(hk:∀ j,lo<=j->j<s.length->s'[j]?=s[j]?):NG s' lo u L:=by
 have hg:∀ {m e:Nat} {w:V} {ys:List (List V)},GW s m e lo w ys->GW s' m e lo w ys:=by
  intro m e w ys hw;rcases hw with hw | ⟨hn,j,g,rfl,ho,qb⟩
  .exact .inl hw
  .exact .inr ⟨hn,j,g,rfl,(hk j qb (Ao.1 ho).1).trans ho,qb⟩
 exact⟨hg h.1,fun p hp=>⟨(h.2 p hp).1,hg (h.2 p hp).2⟩⟩
def Blg{s:St}{lo:Nat}:NG s lo .nils []:=⟨D3,fun p hp=>by cases hp⟩
/-! copies of entries, with lists of their own -/
def A3f{n:Int}{l:List Ent}(h:Md n l=true):l.length<=64/\Hw l/\(∀ x∈l,Hx x)/\0<=n/\n<=1073741824:=by
 unfold Md at h;simp only[Ai,decide_eq_true_eq]at h;exact⟨h.1.2,A4h h.2,A4i h.2,h.1.1.1,h.1.1.2⟩
/-! a further run -/
def A6z{σ:St}{m e i g:Nat}{xs:List (List V)}{pre post:List V}{w:V}(ho:σ[i]?=some (.row xs.flatten e g 0))(hm:0<m)(hl:∀ r∈xs,r.length=m)(hr:∀ r∈xs,r.all V.rowB=true)(h1:pre.all V.rowB=true)(h2:post.all V.rowB=true)(hw:w.rowB=true):
  FR (.tup [.agg (pre++.sl i g 0 xs.length m true::post),w]) σ (.tup [.agg (pre++.lst 0 xs::post),w]):=by
 obtain⟨hi,jp⟩:=Ao.1 ho;have hx:Ag xs.flatten=[]:=Ft (Id hr)
 have ql:Ag (pre++V.sl i g 0 xs.length m true::post)=[i]:=by
  rw[Lh,Ft h1];simp only[Ag,Ft h2,V.refs,Ba,Cc]
 have h0:ren 0 [i] i=0:=by simp[ren,Adb]
 have qJ:w.refs=[]:=Rb hw
 have qd:Hm w=true:=by cases w<;>simp[V.rowB]at hw<;>rfl
 have jx:w.ren (ren 0 [i])=w:=Z7 _ w (by grind);refine .inr ⟨[i],?_,?_⟩
 .simp only[Hy,Ci,Hm,V.refs,Ag,ql,qJ,Aip,B5,Db,Vs h1,Vs h2,V.cellB,qd,Cc];simp[El,jp,Ob.refs,hx,hi]
  grind[V.rowB]
 .simp only[Nq,ho,Ux,Aw,B0,Ob.ren,Pd i _ (Id hr),V.ren,Amf,Pd i _ h1,Fh,Pd i _ h2,h0,jx,Ed,Ky];have ha:OV [Ob.row xs.flatten e g 0] (.agg (pre++V.sl 0 g 0 xs.length m true::post)) (.agg (pre++.lst 0 xs::post)):=Tf (Av8 (Aas h1) (.cons (Rw (i:=0) (g:=g) (e:=e) (z:=0) (w:=true) rfl hm hl hr) (Aas h2)));have jy:OV [Ob.row xs.flatten e g 0] w w:=I0 (by cases w<;>simp[V.rowB]at hw<;>rfl);exact congrArg (Option.map V.tup) (Vk (.cons ha (.cons jy .nil)) fun j hj=>Nz _ _ _ _ (Sn.2 hj))
def Aj1{σ:St}{m e lo:Nat}{u w:V}{xs:List (List V)}{pre post:List V}(h:GW σ m e lo u xs)(hm:0<m)(hl:∀ r∈xs,r.length=m)(hr:∀ r∈xs,r.all V.rowB=true)(h1:pre.all V.rowB=true)(h2:post.all V.rowB=true)(hw:w.rowB=true):
  FR (.tup [.agg (pre++u::post),w]) σ (.tup [.agg (pre++SL true 0 xs::post),w]):=by
 rcases h with⟨rfl,rfl⟩ | ⟨hn,i,g,rfl,ho,qb⟩
 .refine Gt ?_;simp only[B5,Db,Da,Aip,h1,h2,Aiu,W3]
  grind[V.rowB]
 .rw[V3 hn];exact A6z ho hm hl hr h1 h2 hw
def Azo{σ:St}{m e lo:Nat}{u:V}{xs:List (List V)}(h:GW σ m e lo u xs):Nh u=some (iV (xs.length:Int)):=by
 rcases h with⟨rfl,rfl⟩ | ⟨hn,i,g,rfl,ho,qb⟩<;>rfl
def Ba0(n:Nat):E8 (Hq n)=true:=by
 have h3:n / 9 % 3<3:=O0 _ AA;have a1:Bm [109,97,105,110]=true:=by decide +kernel
 have a2:Bm [116,49]=true:=by decide +kernel
 have a3:Bm [65,95,57]=true:=by decide +kernel
 have b1:Of [120,32,61,32,49,59]=true:=by decide +kernel
 have b2:Of [120,32,61,32,40,97,32,43,32,49,41,59]=true:=by decide +kernel
 have b3:Of [108,111,99,107,32,109,32,123]=true:=by decide +kernel
 have k1:Bm (Hq n).1=true:=by
  simp only[Hq]
  split
  .exact a1
  .split
   .exact a2
   .exact a3
 have k2:Of (Hq n).2.1=true:=by
  simp only[Hq]
  split
  .exact b1
  .split
   .exact b2
   .exact b3
 unfold E8;rw[k1,k2,decide_eq_true (show 0<=(Hq n).2.2 by simp only[Hq];omega),decide_eq_true (show(Hq n).2.2<60 by simp only[Hq];omega)];rfl
def Ba1(x:Item):Hx x.ent:=by
 have hn:=X7 x.kind;have hs:=Xe x
 have hk:x.ent.sites.all E8=true:=by
  rw[Bu];intro k hk;simp only[Item.ent,Cs]at hk;obtain⟨m,_,rfl⟩:=hk;exact Ba0 m
 have qB:Qz x.ent=true:=Axm AT AT AT AT
 have jj:Og x.ent.kind x.ent.sites.length=true:=by
  rw[hs];refine Abm ?_;have:x.kind % 4<4:=O0 _ AA;have h5:x.kind / 4 % 3<3:=O0 _ AA;simp only[Item.ent,Si]
  split
  .omega
  .split
   .omega
   .split<;>omega
 unfold Hx Gj;rw[jj,hk,qB];rfl
def Au2{n:Int}{l:List Ent}(h0:0<=n)(h1:n<=1073741824)(h2:l.length<=64)(h3:Hw l)(h4:∀ x∈l,Hx x):Md n l=true:=by
 unfold Md;rw[decide_eq_true h0,decide_eq_true h1,decide_eq_true h2,A6u h3 h4];rfl
def A60(x:Ent):Cv x x=0:=(lin_p.zero x.ks x.ks).2 rfl
def Ba2(z z':Bool)(t t':Nat)(l:List Ent)(ho:Uu l)(hl:l.length<=1000000):Fn TT PT 27 [SL z t (l.map Ent.row),SL z' t' (l.map Ent.row)] (.bool true):=by
 refine Bg T27 rfl ?_;simp only[go_sem,Ar,bne_self_eq_false];refine Bk (fun i=>l.length - i) (fun i:Nat=>[(0,SL z t (l.map Ent.row)),(1,SL z' t' (l.map Ent.row)),(12,iV l.length),(13,iV i)]) (fun _=>[]) (fun i=>i<=l.length) ?_ 0 AA;rintro i hi ih;refine Bd Bo1 ?_;rcases Bh i l.length with h | h
 .obtain⟨x,hx,-,hm⟩:=Br h;have hc:=Als x x (ho x hm) (ho x hm);rw[A60]at hc;simp only[Vo]at hc;simp only[go_sem,Az h];refine Af AD ?_;simp only[go_sem,Au,hx];refine Bf hc AB ?_;simp only[go_sem,bne_self_eq_false,Au,hx,A2 (show i<9223372036854775807 by omega)];exact Av (ih (i+1) AA AA) rfl
 .simp only[go_sem,Bl h];exact Fw rfl
def Ba3(z z':Bool)(t t':Nat)(n:Int)(l:List Ent)(ho:Uu l)(hl:l.length<=1000000):Fn TT PT 10 [.agg [iV n,SL z t (l.map Ent.row)],.agg [iV n,SL z' t' (l.map Ent.row)]] (.bool true):=by
 have hs:=Ba2 z z' t t' l ho hl;refine Bg T10 rfl ?_;simp only[go_sem,beq_self_eq_true];refine Ab hs AB ?_;simp only[go_sem];exact Fw rfl
def A3g(x:Item)(hx:x.ok){p n:Nat}(hp:0<p)(hn:n<=4)(A B C:V)(K S M:Int)(base:St)(k:List It)(Q:Env->St->Prop)
  (qy:∀ u s,Cl s->p+2<=s.length->(∀ j,j<p->s[j]?=base[j]?)->s[p+1]?=some (.row [iV K,u,iV S,iV M] 43 0 0)->GW s 3 45 (p+2) u (((x.nums.take n).map Hq).map A0) ->
   W TT PT k [(3,.ptr 0 0 0),(6,.ptr (p+1) 0 0),(11,A),(12,B),(13,C),(49,.sl p 0 3 n 1 false),(50,iV n),(51,iV n)] s Q) :
  ∀ a:Nat × V × St,(a.1<=n/\Cl a.2.2/\p+2<=a.2.2.length/\(∀ j,j<p->a.2.2[j]?=base[j]?)/\a.2.2[p]?=some (.row x.row 109 0 0)/\a.2.2[p+1]?=some (.row [iV K,a.2.1,iV S,iV M] 43 0 0)/\GW a.2.2 3 45 (p+2) a.2.1 (((x.nums.take a.1).map Hq).map A0)) ->
   W TT PT (.l [3,6,11,12,13,49,50,51] lp18_0::.b 2::k) [(3,.ptr 0 0 0),(6,.ptr (p+1) 0 0),(11,A),(12,B),(13,C),(49,.sl p 0 3 n 1 false),(50,iV n),(51,iV a.1)] a.2.2 Q:=by
 refine Bk (α:=Nat × V × St) (fun a=>n - a.1) _ _ _ ?_;rintro⟨j,u,s⟩ ⟨hj,qv,hl,h0,h1,h2,hg⟩ ih;simp only at hj qv hl h0 h1 h2 hg ih;refine Bd Bov ?_;rcases Bh j n with h | h
 .obtain⟨m,hm,-,-⟩:=Br (l:=x.nums) (i:=j) (by grind[Item.nums])
  have qk:m<256:=by
   have:=F7 hm;simp[Item.nums]at this;unfold Item.ok at hx;omega
  have qG:Mv (some (.row x.row 109 0 0)) 0 1 true (3+j)=some (.int .u8 (m:Int)):=by
   have:j=0\/j=1\/j=2\/j=3:=by omega
   rcases this with rfl | rfl | rfl | rfl<;>simp[Item.nums]at hm<;>subst hm<;>rfl
  rw[Aks]at qG h1;obtain⟨u1,s1,e1,g1,l1,-,f1⟩:=I1 (bytes:=40) (y:=.lst 1 [A0 (Hq m)]) (ys:=[A0 (Hq m)]) hg hl rfl AA (H0 _) (by simp[A0]) (by grind);have qw:Cl s1:=Ajn hg rfl e1 (Ft (Id (Nu _))) (by simp[A0,Ag,V.refs]) qv
  have qx:Cl (s1.set (p+1) (.row [iV K,u1,iV S,iV M] 43 0 0)):=F9 qw fun i hi=>by
   simp only[Ob.refs,Ag,V.refs,Cc,Ba]at hi;exact Gr g1 i hi
  simp only[A0]at e1;have q0:∀ j,j<p->s1[j]?=base[j]?:=fun j hj=>(f1 j AA).trans (h0 j hj)
  have q1:=(f1 p AA).trans h1;have q2:=(f1 (p+1) AA).trans h2;simp only[go_sem,Az h,Nb h,h1,qG,Aks];refine Af AD ?_;simp only[go_sem,h2];refine Bf (Be1 m qk) rfl ?_;simp only[go_sem,e1,A0];refine Ri (by repeat (first | exact trivial | refine⟨.inl AK,?_⟩ | refine⟨by rfl,?_⟩ | refine⟨.inr ⟨by rfl,by rfl⟩,?_⟩)) (by repeat (first | exact trivial | refine⟨.inl AK,?_⟩ | refine⟨by rfl,?_⟩ | refine⟨.inr ⟨by rfl,by rfl⟩,?_⟩)) ?_;simp only[go_sem,q2,N3 (Cg g1),Cg g1];refine Ri (by repeat (first | exact trivial | refine⟨.inl AK,?_⟩ | refine⟨by rfl,?_⟩ | refine⟨.inr ⟨by rfl,by rfl⟩,?_⟩)) (by repeat (first | exact trivial | refine⟨.inl AK,?_⟩ | refine⟨by rfl,?_⟩ | refine⟨.inr ⟨by rfl,by rfl⟩,?_⟩)) ?_;simp only[go_sem,A2 (show j<9223372036854775807 by omega)];have e2:∀ j,j<p->(s1.set (p+1) (.row [iV K,u1,iV S,iV M] 43 0 0))[j]?=base[j]?:=fun j hj=>by grind
  refine Av (ih (j+1,u1,s1.set (p+1) (.row [iV K,u1,iV S,iV M] 43 0 0)) AA ⟨by omega,qx,by grind,e2,?_,?_,?_⟩) rfl
  .grind[Aks]
  .grind
  grind[A6b,D4]
 .obtain rfl:j=n:=by omega
  simp only[go_sem,Bl h];exact qy u s qv hl h0 h2 hg
def Bqw{σ:St}{v v':V}(h:ON σ v v')(hc:v.cellB=true):OW σ v v':=fun js hj=>by
 have:=h js hj 6;unfold Gq
 grind[Fe,V.rowB]
def A61{m:Nat}{xs:List (List V)}(hl:∀ r∈xs,r.length=m){i:Nat}(hi:i<=xs.length):xs.flatten.drop (i*m)=(xs.drop i).flatten:=by
 have h1:xs.flatten=(xs.take i).flatten++(xs.drop i).flatten:=by rw[<-Ac6,Nn]
 grind[Gg,List.length_take]
def A62{m:Nat}{xs:List (List V)}(hl:∀ r∈xs,r.length=m){i:Nat}(hi:i<=xs.length):Fg m i xs.flatten=xs.take i:=by
 grind[List.take_append_drop,Ad6]
def A63{σ:St}{m e lo:Nat}{u:V}{xs:List (List V)}(h:GW σ m e lo u xs)(hl:∀ r∈xs,r.length=m){i:Nat}(hi:i<=xs.length):
  ∃ a,Ha m u none (some (iV (i:Int))) none=some a/\∀ σ':St,(∀ j,j<σ.length->σ'[j]?=σ[j]?)->Eu σ' m a=some (xs.take i):=by
 rcases h with⟨rfl,rfl⟩ | ⟨hn,b,g,rfl,ho,qb⟩
 .obtain rfl:i=0:=by grind
  exact⟨.nils,rfl,fun _ _=>rfl⟩
 .refine⟨.sl b g (0+0*m) (i - 0) m true,?_,fun σ' hk=>?_⟩
  .grind[Ha,Dy]
  .have:=(hk b (Ao.1 ho).1).trans ho;have hf:=Gg hl;have jl:i*m<=xs.length*m:=E0 m hi;simp only[Eu,this]
   simp_all [A62]
def A64{σ:St}{m e lo:Nat}{u:V}{xs:List (List V)}(h:GW σ m e lo u xs)(hl:∀ r∈xs,r.length=m){i:Nat}(hi:i<=xs.length):
  ∃ a,Ha m u (some (iV (i:Int))) none none=some a/\∀ σ':St,(∀ j,j<σ.length->σ'[j]?=σ[j]?)->Eu σ' m a=some (xs.drop i):=by
 rcases h with⟨rfl,rfl⟩ | ⟨hn,b,g,rfl,ho,qb⟩
 .obtain rfl:i=0:=by grind
  exact⟨.nils,rfl,fun _ _=>rfl⟩
 .refine⟨.sl b g (0+i*m) (xs.length - i) m true,?_,fun σ' hk=>?_⟩
  .grind[Ha,Dy]
  .have:=(hk b (Ao.1 ho).1).trans ho;have hf:=Gg hl;have jl:i*m+(xs.length - i)*m=xs.length*m:=by rw[<-Ox];congr 1;omega
   simp only[Eu,this];rw[if_pos ⟨trivial,trivial,by omega⟩,Gf,A61 hl hi]
   grind[U5,List.length_drop]
def Bsf{τ:St}{i x t:Nat}{a b c d:V}{e:Env}(h:τ[i]?=some (.row [a,b,c,d] t 0 0))(h1:e.get x=.ptr i 0 0):Cd e τ [AR.cell x 4 false]=some (.agg [a,b,c,d]):=by
 simp only[Cd,Gs,h1,I4,h];rfl
def Blh{a s:St}(h:∀ j,j<a.length->s[j]?=a[j]?):∃ J,s=a++J:=⟨s.drop a.length,Wx fun j=>by
 grind⟩
def A3h{σ:St}{w:V}{x:Ent}(hc:Cl σ)(hw:∀ J:St,Eu (σ++J) 3 w=some (x.sites.map A0))(qd:w.cellB=true)(qJ:∀ i∈w.refs,i<σ.length)(hn:x.sites≠[])(hb:x.sites.length<=1000000):
  ∃ w' J,Bw TT PT 73 [.agg (eR x w)] σ (.agg (eR x w')) (σ++J)/\Cl (σ++J)/\GW (σ++J) 3 45 σ.length w' (x.sites.map A0):=by
 have qo:x.sites.map A0≠[]:=by simpa using hn
 obtain⟨w',s1,e1,g1,l1,-,f1⟩:=I1 (lo:=σ.length+2) (σ:=σ++[eO x w,.row [iV 0,.nils,iV 0,iV 0] 43 0 0]) (m:=3) (e:=45) (bytes:=40) (y:=w) (ys:=x.sites.map A0) D3 AE (hw _) AA AE (H0 _) (by grind);rw[Ba]at g1;have qe:=Cg g1
 have qY:Cl (σ++[eO x w,.row [iV 0,.nils,iV 0,iV 0] 43 0 0]):=by
  have:=Jh (ob:=eO x w) hc fun i hi=>by
   grind[Ob.refs,Ag,V.refs,Nat.lt_succ_of_lt]
  have:=Jh (ob:=.row [iV 0,.nils,iV 0,iV 0] 43 0 0) this AU;simpa using this
 have qZ:Cl s1:=Ajn (D3 (lo:=σ.length+2)) (hw _) e1 rfl (Ft (Id (Nu _))) qY
 have hk:∃ J:St,s1=σ++[eO x w,.row [iV 0,.nils,iV 0,iV 0] 43 0 0]++J:=by
  exact Blh fun j hj=>f1 j (by grind)
 obtain⟨J,rfl⟩:=hk
 have hS:∀ a b:Ob,((σ++[eO x w,Ob.row [iV 0,.nils,iV 0,iV 0] 43 0 0]++J).set σ.length a).set (σ.length+1) b=σ++(a::b::J):=fun a b=>by
  simp_all
 have g2:GW (σ++(eO x w'::eO x w'::J)) 3 45 (σ.length+2) w' (x.sites.map A0):=by
  rw[<-hS];exact D4 (D4 g1 AA) AA
 have c2:Cl (σ++(eO x w'::eO x w'::J)):=by
  rw[<-hS];refine F9 (F9 qZ fun i hi=>?_) fun i hi=>?_
  .simp only[Ob.refs,Ag,V.refs,Ba,Cc]at hi;exact Gr g1 i hi
  .rw[U1];simp only[Ob.refs,Ag,V.refs,Ba,Cc]at hi;exact Gr g1 i hi
 refine⟨w',_,Vm T73 rfl ?_ (fun i hi=>?_) ?_ AE c2,c2,Ahh g2 AA⟩
 .simp only[Bt,Bq,Ba]at e1;simp only[go_sem,N3 qd,qd,e1,N3 qe,qe];exact⟨Bsf (Alf _ _ 1) rfl,rfl⟩
 .simp only[V.refs,Ag,Ba,Cc]at hi;exact Gr g2 i hi
 .simp only[Ci,Hm,B5,Db,Aiu,qe];rfl
def Dj(L:List (V × Ent)):Prop:=L.Pairwise fun p q=>∀ i∈p.1.refs,i ∉ q.1.refs
def Bf3{σ:St}{lo:Nat}{u w:V}{L:List (V × Ent)}{x:Ent}{i:Nat}(hc:Cl σ)(hg:NG σ lo u L)(qb:lo<=σ.length)(hi:i<=L.length)(hb:L.length<=100000)(hw:GW σ 3 45 lo w (x.sites.map A0))(hx:x.sites≠[])(qC:x.sites.length<=1000000):
  ∃ u' σ' w',Bw TT PT 44 [u,iV (i:Int),.agg (eR x w)] σ u' σ'/\Cl σ'/\σ.length<=σ'.length/\(∀ j,j<σ.length->σ'[j]?=σ[j]?)/\NG σ' lo u' (L.take i++(w',x)::L.drop i)/\∀ j∈w'.refs,σ.length<=j:=by
 have qd:=Cg hw;have hL:(L.map Fy).length=L.length:=Ar ..;obtain⟨a,ha,ra⟩:=A63 hg.1 (Rd L) (i:=i) AA;obtain⟨b,qX,rb⟩:=A64 hg.1 (Rd L) (i:=i) AA;rw[<-W4]at ra;rw[<-Aiv]at rb;have hr:∀ {L':List (V × Ent)},(∀ p∈L',p∈L)->∀ i∈Ag (L'.map Fy).flatten,i<σ.length:=fun qW=>Axp fun p hp=>hg.2 p (qW p hp)
 have c1:Cl (σ++[eO x w]):=Jh hc fun j hj=>by
  simp only[Ob.refs,Ag,V.refs,Ba,Cc]at hj;exact Uy (Gr hw j hj)
 have qL:=ra (σ++[eO x w]) fun j hj=>Es hj
 obtain⟨u1,s1,e1,g1,l1,-,f1⟩:=I1 (lo:=σ.length+1) (σ:=σ++[eO x w]) (m:=4) (e:=43) (bytes:=48) (y:=a) D3 AE qL AA AE (Rd _) (by grind);rw[Ba]at g1;simp only[Aq,An,Dc]at l1;have c2:Cl s1:=Ajd (D3 (lo:=σ.length+1)) qL e1 (by simp[Ag]) (fun j hj=>by grind) c1;have k1:∀ j,j<σ.length->s1[j]?=σ[j]?:=fun j hj=>(f1 j AA).trans (Es hj)
 have q1:s1[σ.length]?=some (eO x w):=(f1 _ AA).trans (Rf ..);have qe:GW s1 3 45 lo w (x.sites.map A0):=Al2 hw k1
 obtain⟨w',J,ja,c3,g2⟩:=A3h (w:=w) (x:=x) c2 (fun J=>by
  rcases Ix (l:=J) qe with⟨rfl,h0⟩ | ⟨hn,ib,g,rfl,ho,-⟩
  .simp_all
  .simp only[Eu,ho];have hf:=Gg (H0 x.sites)
   rw[if_pos ⟨trivial,trivial,by omega⟩,Jf,U5 (H0 _)]) qd (Gr qe) hx qC
 have qm:=Cg g2;have qn:=Ix (l:=J++[Ob.row (Fy (w',x)) 43 0 0]) g1
 have c4:Cl (s1++J++[Ob.row (Fy (w',x)) 43 0 0]):=Jh c3 fun j hj=>by
  simp only[Ob.refs,Fy,Ag,V.refs,Ba,Cc]at hj;exact Uy (Gr g2 j hj)
 rw[<-Bt]at qn;have jq:(s1++J++[Ob.row (Fy (w',x)) 43 0 0])[(s1++J).length]?=some (.row (Fy (w',x)) 43 0 0):=Rf ..
 have ry:Eu (s1++J++[Ob.row (Fy (w',x)) 43 0 0]) 4 (.sl (s1++J).length 0 0 1 4 true)=some [Fy (w',x)]:=by
  simp only[Eu,jq];rfl
 obtain⟨u2,s2,e2,g3,l2,qN,f2⟩:=I1 (bytes:=48) qn (by grind) ry AA (Rd _) (Rd [(w',x)]) (by grind)
 have jA:∀ j∈Ag ((L.take i).map Fy).flatten,j<(s1++J++[Ob.row (Fy (w',x)) 43 0 0]).length:=fun j hj=>by
  have:=hr (L':=L.take i) (fun p hp=>Np hp) j hj
  grind
 have jB:∀ j∈Ag [Fy (w',x)].flatten,j<(s1++J++[Ob.row (Fy (w',x)) 43 0 0]).length:=fun j hj=>by
  simp only[Fd,Zg,Cc,Fy,Ag,V.refs,Ba]at hj;have:=Gr g2 j hj
  grind
 have c5:Cl s2:=Ajd qn ry e2 jA jB c4;simp only[Aq,An,Dc]at l2
 have k2:∀ j,j<σ.length->s2[j]?=σ[j]?:=fun j hj=>by
  grind
 have qP:GW s2 3 45 s1.length w' (x.sites.map A0):=Au1 AA (Ar9 qn) (Ix g2) qN;have qM:=rb s2 k2
 have qj:∀ r∈(L.take i).map Fy++[Fy (w',x)],r.length=4:=fun r hr=>by
  rcases Cu.1 hr with h | h
  .grind[Rd]
  .rw[Gm.1 h];rfl
 obtain⟨u3,s3,e3,g4,l3,qO,f3⟩:=I1 (bytes:=48) g3 AA qM AA qj (Rd _) (by grind)
 have c6:Cl s3:=Ajd g3 qM e3 (fun j hj=>by
  rw[Ac6,Lh]at hj;rcases Cu.1 hj with h | h
  .grind
  grind) (fun j hj=>by have:=hr (L':=L.drop i) (fun p hp=>Ws hp) j hj;omega) c5
 have k3:∀ j,j<σ.length->s3[j]?=σ[j]?:=fun j hj=>(f3 j AA).trans (k2 j hj)
 have qr:GW s3 3 45 s1.length w' (x.sites.map A0):=Au1 AA (Ar9 g3) qP qO;refine⟨u3,s3,w',Vm T44 rfl ?_ (Gr g4) (Aey g4) AA c6,c6,by omega,k3,⟨?_,?_⟩,fun j hj=>?_⟩
 rotate_right
 .rcases qr with⟨rfl,-⟩ | ⟨-,ib,gb,rfl,-,jm⟩
  .grind[V.refs]
  grind[V.refs]
 .simp only[Fy,Bt,Aq]at e2;simp only[go_sem,N3 qd,qd,ha,e1,q1];refine Aa ja ?_;simp only[go_sem,N3 qm,qm,e2,qX,e3];exact⟨rfl,rfl⟩
 .grind[Ahh]
 .intro p hp;rcases Cu.1 hp with h | h
  .exact⟨(hg.2 p (Np h)).1,Al2 (hg.2 p (Np h)).2 k3⟩
  .rcases Bp.1 h with rfl | h
   .grind[Ahh]
   .exact⟨(hg.2 p (Ws h)).1,Al2 (hg.2 p (Ws h)).2 k3⟩
def Bf4{L:List (V × Ent)}{l:List Ent}(h:L.map (·.2)=l)(ho:∀ x∈l,x.own=x):Up L=l.map Ent.row:=by
 grind[Up,List.map_congr_left]
def A4j{σ:St}{lo:Nat}{u w:V}{L:List (V × Ent)}{l:List Ent}{x:Ent}(hc:Cl σ)(hg:NG σ lo u L)(qb:lo<=σ.length)(hL:L.map (·.2)=l)(qg:∀ y∈l,y.own=y)(qh:x.own=x)(hb:l.length<=100000)(ho:Uu l)
  (hw:GW σ 3 45 lo w (x.sites.map A0)) (hx:x.sites≠[]) (qC:x.sites.length<=1000000) :
  ∃ u' σ' L',Bw TT PT 19 [u,.agg (eR x w)] σ u' σ'/\Cl σ'/\σ.length<=σ'.length/\(∀ j,j<σ.length->σ'[j]?=σ[j]?)/\NG σ' lo u' L'/\L'.map (·.2)=K7 x l/\(Dj L->Dj L'):=by
 have qd:=Cg hw;have qp:=Cg hg.1;have jD:L.length=l.length:=by rw[<-hL,Ar]
 have hp:=At8 true 0 l x AA ho AA
 have c1:Cl (σ++[eO x w]):=Jh hc fun j hj=>by
  simp only[Ob.refs,Ag,V.refs,Ba,Cc]at hj;exact Uy (Gr hw j hj)
 have k1:∀ j,j<σ.length->(σ++[eO x w]:St)[j]?=σ[j]?:=fun j hj=>Es hj
 have qi:NG (σ++[eO x w]) lo u L:=Afo hg fun j _ hj=>k1 j hj
 have qe:GW (σ++[eO x w]) 3 45 lo w (x.sites.map A0):=Ix hw;have o1:=Bqw (Bqv qi) qp;rw[Bf4 hL qg]at o1
 have oe:OW (σ++[eO x w]) (.agg (eR x w)) (.agg x.row):=by
  have:=Blf (σ:=σ++[eO x w]) (.cons (Ab5 (Fk (v:=iV x.kind) rfl)) (.cons (Ab5 (Mj qe AA (H0 _) (Nu _))) (.cons (Ab5 (Fk (v:=iV x.seen) rfl)) (.cons (Ab5 (Fk (v:=iV x.missed) rfl)) .nil))));have e:x.row=x.own.row:=by rw[qh]
  rw[e];exact this
 have jM:(σ++[eO x w])[σ.length]?=some (eO x w):=Rf ..;unfold K7;cases ht:Ho x l
 .rw[ht]at hp;rw[if_neg AE];obtain⟨u',s2,w',jw,c2,l2,k2,g2,fr⟩:=Bf3 (i:=Dd x l) c1 qi (by grind) (by grind[Ajt]) AA qe hx qC;simp only[Aq,An,Dc]at l2 k2 fr;refine⟨u',s2,_,Vm T19 rfl ?_ (Gr g2.1) (Aey g2.1) AA c2,c2,by omega,fun j hj=>(k2 j AA).trans (k1 j hj),g2,?_,fun hd=>?_⟩
  .simp only[go_sem,N3 qd,qd];refine A0y (.cons o1 (.cons oe .nil)) hp rfl ?_;simp only[go_sem];refine Aa jw ?_;simp only[go_sem];exact⟨rfl,rfl⟩
  .simp_all
  .unfold Dj at hd ⊢;have qF:=hd;rw[<-Nn (Dd x l) L]at qF;obtain⟨d1,d2,d3⟩:=Zd.1 qF;have jK:∀ p∈L,∀ j∈p.1.refs,j<σ.length:=fun p hp j hj=>Gr (hg.2 p hp).2 j hj
   refine Zd.2 ⟨d1,M0.2 ⟨fun q hq j hj jI=>?_,d2⟩,fun a ha b hb=>?_⟩
   .grind
   grind
 .rw[ht]at hp;rw[if_pos rfl];refine⟨u,_,L,Vm T19 rfl ?_ (Gr qi.1) (Aey qi.1) AE c1,c1,by simp,k1,qi,hL,id⟩;simp only[go_sem,N3 qd,qd];refine A0y (.cons o1 (.cons oe .nil)) hp rfl ?_;simp only[go_sem];exact⟨rfl,rfl⟩
def A0z(l:List Ent)(u:V)(s:St):Prop:=∃ L,NG s 1 u L/\L.map (·.2)=l/\Cl s/\Dj L
def A2w(z:Bool)(t:Nat)(l:List Item)(hl:l.length<=9223372036854775807)(ju:∀ x∈l,x.ok):∃ u σ0,FnO TT PT 18 [SL z t (l.map Item.row)] u σ0/\A0z (F3 l 20) u σ0:=by
 refine Ble (P:=A0z (F3 l 20)) T18 rfl ?_ (fun v s ⟨L,h,_,hc,_⟩=>⟨hc,Aey h.1,Gr h.1⟩);simp only[go_sem,Ar]
 refine Bk (α:=Nat × V × List (V × Ent) × St) (fun a=>l.length - a.1) (fun a=>[(3,.ptr 0 0 0),(11,SL z t (l.map Item.row)),(12,iV l.length),(13,iV a.1)]) (fun a=>a.2.2.2)
  (fun a=>a.1<=l.length/\a.1<=20/\a.2.2.2[0]?=some (.row [iV 0,a.2.1] 35 0 0)/\NG a.2.2.2 1 a.2.1 a.2.2.1/\a.2.2.1.map (·.2)=F3 l a.1/\Cl a.2.2.2/\Dj a.2.2.1) ?_ (0,.nils,[],[.row [iV 0,.nils] 35 0 0]) ⟨by simp,by simp,rfl,Blg,rfl,fun o ho i hi=>by grind[List.mem_singleton,Ob.refs,Ag,V.refs],List.Pairwise.nil⟩
 rintro⟨i,U,L,s⟩ ⟨hi,je,h0,hG,hL,hC,hD⟩ ih;simp only at hi je h0 hG hL hC hD ih;have hs:1<=s.length:=(Ao.1 h0).1;obtain⟨jN,jO,qI⟩:=Aae l i;refine Bd Bow ?_;rcases Bh i l.length with h | h
 .obtain⟨x,hx,-,hm⟩:=Br h;have qh:=ju x hm;have hk:x.kind<256/\x.seen<256/\x.missed<256:=⟨qh.1,qh.2.1,qh.2.2.1⟩;have qT:Cl (s++[.row x.row 109 0 0]):=Jh hC (by simp[Item.row,Ob.refs,Ag,V.refs]);have qS:∀ J,(s++J)[0]?=some (.row [iV 0,U] 35 0 0):=fun J=>By h0
  simp only[go_sem,Az h,Au,hx];refine Lq (fun h2=>?_) (fun h2=>?_)
  .simp only[go_sem,qS]
   have:F3 l 20=F3 l i:=by
    have:i=20:=by simp at h2;omega
    rw[this]
   rw[this];exact⟨_,rfl,L,Afo hG fun j _ hj=>Es hj,hL,qT,hD⟩
  .have jf:i<20:=by simp at h2;omega
   have w1:IntKind.i64.wrap (x.kind:Int)=x.kind:=Cm AA;have w2:IntKind.i64.wrap (x.seen:Int)=x.seen:=Cm AA;have w3:IntKind.i64.wrap (x.missed:Int)=x.missed:=Cm AA;have r1:(x.kind:Int).tmod 4=((x.kind % 4:Nat):Int):=Ab2 x.kind 4;have r2:(x.seen:Int).tmod 9=((x.seen % 9:Nat):Int):=Ab2 x.seen 9;have r3:(x.missed:Int).tmod 8=((x.missed % 8:Nat):Int):=Ab2 x.missed 8;have r4:(x.kind:Int).tdiv 4=((x.kind / 4:Nat):Int):=Bqm x.kind 4;have r5:((x.kind / 4:Nat):Int).tmod 3=((x.kind / 4 % 3:Nat):Int):=Ab2 (x.kind / 4) 3;have a1:IntKind.i64.wrap (1+((x.kind % 4:Nat):Int))=1+((x.kind % 4:Nat):Int):=Cm AA;have a2:IntKind.i64.wrap (1+((x.seen % 9:Nat):Int))=1+((x.seen % 9:Nat):Int):=Cm AA;have a3:IntKind.i64.wrap ((x.kind / 4:Nat):Int)=((x.kind / 4:Nat):Int):=Cm AA;have a4:IntKind.i64.wrap (2+((x.kind / 4 % 3:Nat):Int))=2+((x.kind / 4 % 3:Nat):Int):=Cm AA;have a5:IntKind.i64.wrap (1+((x.kind % 4:Nat):Int) - 1)=((x.kind % 4:Nat):Int):=by rw[Cm AA];omega
   have hn:=X7 x.kind
   have ji:([[iV 2],[iV (2+((x.kind / 4 % 3:Nat):Int))],[iV 2],[iV 4]]:List (List V))[x.kind % 4]?=some [iV ((Si x.kind:Nat):Int)]:=by
    have:x.kind % 4=0\/x.kind % 4=1\/x.kind % 4=2\/x.kind % 4=3:=by omega
    unfold Si
    rcases this with h | h | h | h<;>rw[h]<;>simp
   simp only[go_sem,w1,w2,w3,r1,r2,r3,r4,r5,a1,a2,a3,a4,a5,ji,hn.2];refine A3g x qh (p:=s.length) (n:=Si x.kind) AA hn.2 _ _ _ (1+((x.kind % 4:Nat):Int)) (1+((x.seen % 9:Nat):Int)) ((x.missed % 8:Nat):Int) s _ _ ?_ (0,.nils,s++[.row x.row 109 0 0,.row [iV (1+((x.kind % 4:Nat):Int)),.nils,iV (1+((x.seen % 9:Nat):Int)),iV ((x.missed % 8:Nat):Int)] 43 0 0]) ⟨by simp,?_,by simp,fun j hj=>Es hj,Rf _ _,Alf _ _ 1,D3⟩;rotate_left
   .have c1:=Jh (ob:=.row x.row 109 0 0) hC (by simp[Item.row,Ob.refs,Ag,V.refs]);have c2:=Jh (ob:=.row [iV (1+((x.kind % 4:Nat):Int)),.nils,iV (1+((x.seen % 9:Nat):Int)),iV ((x.missed % 8:Nat):Int)] 43 0 0) c1 AU
    grind
   intro u s' qu jk qA qE jc;have qD:s'[0]?=some (.row [iV 0,U] 35 0 0):=(qA 0 AA).trans h0;have qV:NG s' 1 U L:=Afo hG fun j _ hj=>qA j hj
   have jt:Uu (F3 l i):=fun e he=>by obtain⟨y,-,rfl⟩:=qI e he;grind[Xe,X7]
   have qg:∀ y∈F3 l i,y.own=y:=fun e he=>by obtain⟨y,-,rfl⟩:=qI e he;rfl
   have jz:x.ent.sites≠[]:=by
    intro e;have:=Xe x;rw[e]at this;simp at this;omega
   have qH:=Arv (l:=l) (i:=i) hx;obtain⟨u',s2,L2,qz,c2,l2,k2,g2,jC,qU⟩:=A4j (w:=u) (x:=x.ent) qu qV AA hL qg rfl AA jt (Ahh jc AA) jz (by grind[Xe]);have q0:s2[0]?=some (.row [iV 0,U] 35 0 0):=(k2 0 AA).trans qD;have qp:=Cg g2.1;simp only[go_sem,qD,qE];refine Aa qz ?_;simp only[go_sem,q0,N3 qp,qp,A2 (show i<9223372036854775807 by omega)];refine Av (ih (i+1,u',L2,_) AA ⟨by omega,by omega,?_,Afo g2 fun j hj _=>by grind,?_,F9 c2 ?_,qU hD⟩) rfl
   .grind
   .grind
   .intro j hj;simp only[Ob.refs,Ag,V.refs,Cc,Ba]at hj;exact Gr g2.1 j hj
 .simp only[go_sem,Bl h,h0]
  have:F3 l 20=F3 l i:=by
   unfold F3;rw[Ic h,Ic AA]
  rw[this];exact⟨_,rfl,L,hG,hL,hC,hD⟩
def He(qa:Nat)(l:List UInt8):Nat:=l.foldl (fun a c=>a*10+(c.toNat - 48)) qa
def K9(l:List UInt8):Prop:=∀ c∈l,Du c=true
theorem Abn(qa:Nat):He qa []=qa:=rfl
theorem Vv(qa:Nat)(c:UInt8)(r:List UInt8):He qa (c::r)=He (qa*10+(c.toNat - 48)) r:=by grind[He]
def Tl{c:UInt8}{l:List UInt8}(h:K9 (c::l)):K9 l:=fun d hd=>h d (Cb _ hd)
def Bli{c:UInt8}(h:Du c=true):48<=c.toNat/\c.toNat<=57:=by
 grind[Du,Ms]
def Yd{c:UInt8}{l:List UInt8}(h:K9 (c::l)):48<=c.toNat/\c.toNat<=57:=Bli (h c B4)
def Au3:∀ (l:List UInt8) (qa:Nat) (c:UInt8),He qa (l++[c])=He qa l*10+(c.toNat - 48)
 | [],_,_=>rfl
 | d::l,qa,c=>by rw[Bq,Vv,Vv];exact Au3 l _ c
def Aa2:∀ (l:List UInt8) (qa:Nat),qa*10 ^ l.length<=He qa l
 | [],qa=>by grind[Abn]
 | c::l,qa=>by
  have:=Aa2 l (qa*10+(c.toNat - 48));have h1:qa*10*10 ^ l.length<=(qa*10+(c.toNat - 48))*10 ^ l.length:=E0 _ AA;have e:qa*10 ^ (l.length+1)=qa*10*10 ^ l.length:=by rw[Nat.pow_succ,Aiy (10 ^ l.length),Nat.mul_assoc]
  rw[An,e];exact C8 h1 this
def Afp:∀ (l:List UInt8) (qa:Nat),K9 l->He qa l<(qa+1)*10 ^ l.length
 | [],qa,_=>by grind[Abn]
 | c::l,qa,h=>by
  have:=Afp l (qa*10+(c.toNat - 48)) (Tl h);have hc:=Yd h;have h1:(qa*10+(c.toNat - 48)+1)*10 ^ l.length<=(qa*10+10)*10 ^ l.length:=E0 _ AA;have e:(qa+1)*10 ^ (l.length+1)=(qa*10+10)*10 ^ l.length:=by rw[Nat.pow_succ,Aiy (10 ^ l.length),<-Nat.mul_assoc,show(qa+1)*10=qa*10+10 by omega]
  rw[An,e];exact Px this h1
def Au4:∀ (a b:List UInt8) (qa:Nat),K9 a->K9 b->a.length=b.length->Op.bytesLess a b=decide (He qa a<He qa b)
 | [],[],qa,_,_,_=>by simp[Op.bytesLess]
 | [],_::_,_,_,_,h=>by simp at h
 | _::_,[],_,_,_,h=>by simp at h
 | x::a,y::b,qa,ha,hb,h=>by
  have hx:=Yd ha;have hy:=Yd hb;have hl:a.length=b.length:=by simpa using h
  simp only[Op.bytesLess];by_cases h1:x<y
  .have qQ:x.toNat<y.toNat:=h1;rw[decide_eq_true h1,Bool.true_or]
   symm
   rw[decide_eq_true_eq];have p1:=Afp a (qa*10+(x.toNat - 48)) (Tl ha);have p2:=Aa2 b (qa*10+(y.toNat - 48));have p3:(qa*10+(x.toNat - 48)+1)*10 ^ a.length<=(qa*10+(y.toNat - 48))*10 ^ a.length:=E0 _ AA
   grind[Vv]
  .rw[decide_eq_false h1,Zl];have qQ:y.toNat<=x.toNat:=Nat.le_of_not_lt h1;by_cases h2:x=y
   .subst h2;rw[beq_self_eq_true,W3];exact Au4 a b _ (Tl ha) (Tl hb) hl
   .have qE:y.toNat<x.toNat:=by
     have:x.toNat≠y.toNat:=fun e=>h2 (UInt8.toNat_inj.1 e)
     omega
    rw[beq_eq_false_iff_ne.2 h2,W2]
    symm
    rw[decide_eq_false_iff_not];have p1:=Afp b (qa*10+(y.toNat - 48)) (Tl hb);have p2:=Aa2 a (qa*10+(x.toNat - 48));have p3:(qa*10+(y.toNat - 48)+1)*10 ^ b.length<=(qa*10+(x.toNat - 48))*10 ^ b.length:=E0 _ AA
    grind[Vv]
def Au5:∀ (l:List UInt8),He 0 (l.dropWhile (·==48))=He 0 l
 | []=>rfl
 | c::l=>by
  rw[Wt]
  split
  .rename_i h;have hc:c=48:=by simpa using h
   subst hc;rw[Au5 l];rfl
  .rfl
def Asa:∀ {l:List UInt8},K9 l->K9 (l.dropWhile (·==48))/\∀ c r,l.dropWhile (·==48)=c::r->49<=c.toNat
 | [],_=>⟨fun _ h=>by simp at h,fun c r h=>by simp at h⟩
 | c::l,h=>by
  rw[Wt]
  split
  .exact Asa (Tl h)
  .rename_i hc;refine⟨h,fun d r e=>?_⟩;cases e;have:=Yd h;have h2:c.toNat≠48:=fun e=>hc (by simp[UInt8.toNat_inj.1 (show c.toNat=(48:UInt8).toNat from e)])
   omega
def Aj2{w:List UInt8}(h:K9 w):Qq w=decide (He 0 w<=9223372036854775807):=by
 obtain⟨h1,h2⟩:=Asa h;rw[<-Au5 w];unfold Qq;simp only;generalize w.dropWhile (·==48)=d at h1 h2 ⊢;have hg:He 0 greatS=9223372036854775807:=by decide
 have jd:K9 greatS:=fun c hc=>by
  have:greatS.all Du=true:=by decide
  grind
 by_cases hl:19<d.length
 .rw[decide_eq_true hl,Bool.true_or,Ay]
  symm
  rw[decide_eq_false_iff_not]
  match d,hl,h1,h2 with
  | c::r,hl,h1,h2=>
   have hc:=h2 c r rfl;have qb:=Aa2 r (0*10+(c.toNat - 48));simp only[Vv,Abn];have:10 ^ 19<=10 ^ r.length:=Nat.pow_le_pow_right AG (by grind);have h3:1*10 ^ r.length<=(0*10+(c.toNat - 48))*10 ^ r.length:=E0 _ AA;omega
 .rw[decide_eq_false hl,Zl];by_cases qs:d.length=19
  .rw[decide_eq_true qs,W3,Au4 greatS d 0 jd h1 (by rw[qs];rfl),hg]
   grind
  .rw[decide_eq_false qs,W2,A1]
   symm
   rw[decide_eq_true_eq];have jF:=Afp d 0 h1;have:10 ^ d.length<=10 ^ 18:=Nat.pow_le_pow_right AG AA;omega
def Bf5(l:List UInt8)(qa:Nat):qa<=He qa l:=by
 have:=Aa2 l qa;have h:1<=10 ^ l.length:=Nat.one_le_pow _ _ AG;have:=Nat.mul_le_mul_left qa h;omega
def pum:∀ (l:List UInt8) (qa:Nat),K9 l->He qa l<=18446744073709551615->Lib.parseUintM 18446744073709551615 qa l=.ok (He qa l)
 | [],_,_,_=>rfl
 | c::l,qa,h,hv=>by
  have hc:=Yd h;have jE:=Bf5 l (qa*10+(c.toNat - 48));simp only[Vv,Abn]at hv ⊢;rw[Lib.parseUintM,if_pos hc,if_neg AA,if_neg AA];exact pum l _ (Tl h) hv
theorem A13{c:UInt8}{l:List UInt8}(h:K9 (c::l))(hv:He 0 (c::l)<=9223372036854775807):Lib.parseIntB 64 (c::l)=.ok (He 0 (c::l):Int):=by
 have hc:=Yd h;have hp:=pum (c::l) 0 h AA;unfold Lib.parseIntB;simp only;rw[if_neg AA];unfold Lib.parseUintB
 grind
theorem Ak1{c:UInt8}{l:List UInt8}(h:K9 (c::l))(hv:He 0 (c::l)<=9223372036854775807):J1 (c::l)=(He 0 (c::l):Int):=by
 grind[J1,A13]
def u8n{n:Nat}(h:n<256):(UInt8.ofNat n).toNat=n:=by simp[Ain h]
def Aj3:∀ (k u:Nat),K9 (Ij k u)/\(u<10 ^ k->He 0 (Ij k u)=u)/\(1<=k->Ij k u≠[])
 | 0,u=>⟨fun c h=>by simp[Ij]at h,fun h=>by simp at h;subst h;rfl,fun h=>by omega⟩
 | k+1,u=>by
  obtain⟨h1,h2,h3⟩:=Aj3 k (u / 10);unfold Ij
  split
  .rename_i hu;have e:(UInt8.ofNat (48+u)).toNat=48+u:=u8n AA;refine⟨fun c hc=>?_,fun _=>?_,fun _=>by simp⟩
   .rw[Gm]at hc;subst hc;unfold Du Ms;rw[e];simp;omega
   .simp only[Vv,Abn,e];omega
  .rename_i hu;have e:(UInt8.ofNat (48+u % 10)).toNat=48+u % 10:=u8n AA;refine⟨fun c hc=>?_,fun hk=>?_,fun _=>by simp⟩
   .rcases Cu.1 hc with hc | hc
    .exact h1 c hc
    .rw[Gm]at hc;subst hc;unfold Du Ms;rw[e];simp;omega
   .rw[Au3,h2 (by rw[Nat.pow_succ]at hk;omega),e];omega
def Axq{n:Int}(hn:0<=n):B3 n=Ij 20 n.toNat:=by
 unfold B3;rw[if_neg AA]
def Azp:Mk:=fun n hn=>by
 rw[Axq hn.1]
 obtain⟨h1,h2,h3⟩:=Aj3 20 n.toNat
 have qR:(10:Nat) ^ 20=100000000000000000000:=by decide
 have hv:=h2 AA
 match hd:Ij 20 n.toNat with
 | []=>exact absurd hd (h3 AG)
 | c::l=>
  rw[hd]at h1 hv;rw[Ak1 h1 AA,hv];omega
def Am3:Qt:=fun n hn=>by
 rw[Axq hn.1]
 obtain⟨h1,h2,h3⟩:=Aj3 20 n.toNat
 have qR:(10:Nat) ^ 20=100000000000000000000:=by decide
 have hv:=h2 AA;refine⟨?_,by rw[Aj2 h1,hv];simp;omega⟩
 match hd:Ij 20 n.toNat with
 | []=>exact absurd hd (h3 AG)
 | c::l=>
  rw[hd]at h1;exact⟨c,l,rfl,h1 c B4,Tl h1⟩
