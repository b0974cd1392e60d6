/- Plain: numerals. -/
import Derived.Test.YthlbbjcbmojocabGreatDoorLa
import Derived.Test.YthlbbjcbmojocabGreatDoorGe
set_option linter.all false
namespace Go.Proofs.YthlbbjcbmojocabGreatDoor.KM
open Go
def F2(qa:Nat)(l:List UInt8):Nat:=l.foldl (fun a c=>a*10+(c.toNat - 48)) qa
def I0(l:List UInt8):Prop:=∀ c∈l,Dw c=true
def Sb(qa:Nat):F2 qa []=qa:=rfl
def Sc(qa:Nat)(c:UInt8)(r:List UInt8):F2 qa (c::r)=F2 (qa*10+(c.toNat - 48)) r:=by unfold F2;rw[List.foldl_cons]
def Qm{c:UInt8}{l:List UInt8}(h:I0 (c::l)):I0 l:=fun d hd=>h d (Cs _ hd)
def A6r{c:UInt8}(h:Dw c=true):48<=c.toNat/\c.toNat<=57:=by
 unfold Dw M9 at h;simpa using h
def U2{c:UInt8}{l:List UInt8}(h:I0 (c::l)):48<=c.toNat/\c.toNat<=57:=A6r (h c Cx)
def Amz:∀ (l:List UInt8) (qa:Nat) (c:UInt8),F2 qa (l++[c])=F2 qa l*10+(c.toNat - 48)
 | [],_,_=>rfl
 | d::l,qa,c=>by rw[Bq,Sc,Sc];exact Amz l _ c
def Xr:∀ (l:List UInt8) (qa:Nat),qa*10 ^ l.length<=F2 qa l
 | [],qa=>by rw[Sb];simp
 | c::l,qa=>by
  have:=Xr l (qa*10+(c.toNat - 48));have h1:qa*10*10 ^ l.length<=(qa*10+(c.toNat - 48))*10 ^ l.length:=Fq _ (by omega);have e:qa*10 ^ (l.length+1)=qa*10*10 ^ l.length:=by rw[Ad3,Ts (10 ^ l.length),Nat.mul_assoc]
  rw[Ah,e];exact Cz h1 this
def Abi:∀ (l:List UInt8) (qa:Nat),I0 l->F2 qa l<(qa+1)*10 ^ l.length
 | [],qa,_=>by rw[Sb];simp
 | c::l,qa,h=>by
  have:=Abi l (qa*10+(c.toNat - 48)) (Qm h);have hc:=U2 h;have h1:(qa*10+(c.toNat - 48)+1)*10 ^ l.length<=(qa*10+10)*10 ^ l.length:=Fq _ (by omega);have e:(qa+1)*10 ^ (l.length+1)=(qa*10+10)*10 ^ l.length:=by rw[Ad3,Ts (10 ^ l.length),<-Nat.mul_assoc,show(qa+1)*10=qa*10+10 by omega]
  rw[Ah,e];exact Te this h1
def Am0:∀ (a b:List UInt8) (qa:Nat),I0 a->I0 b->a.length=b.length->Op.bytesLess a b=decide (F2 qa a<F2 qa b)
 | [],[],qa,_,_,_=>by simp[Op.bytesLess]
 | [],_::_,_,_,_,h=>by simp at h
 | _::_,[],_,_,_,h=>by simp at h
 | x::a,y::b,qa,ha,hb,h=>by
  have hx:=U2 ha;have hy:=U2 hb;have hl:a.length=b.length:=by simpa using h
  simp only[Op.bytesLess];by_cases h1:x<y
  .have qK:x.toNat<y.toNat:=h1;rw[decide_eq_true h1,Bool.true_or]
   symm
   rw[decide_eq_true_eq];have p1:=Abi a (qa*10+(x.toNat - 48)) (Qm ha);have p2:=Xr b (qa*10+(y.toNat - 48));have p3:(qa*10+(x.toNat - 48)+1)*10 ^ a.length<=(qa*10+(y.toNat - 48))*10 ^ a.length:=Fq _ (by omega);simp only[Sc,Sb];rw[hl]at p1 p3;omega
  .rw[decide_eq_false h1,Tq];have qK:y.toNat<=x.toNat:=Nat.le_of_not_lt h1;by_cases h2:x=y
   .subst h2;rw[beq_self_eq_true,Adw];exact Am0 a b _ (Qm ha) (Qm hb) hl
   .have qW:y.toNat<x.toNat:=by
     have:x.toNat≠y.toNat:=fun e=>h2 (UInt8.toNat_inj.1 e)
     omega
    rw[beq_eq_false_iff_ne.2 h2,Tn]
    symm
    rw[decide_eq_false_iff_not];have p1:=Abi b (qa*10+(y.toNat - 48)) (Qm hb);have p2:=Xr a (qa*10+(x.toNat - 48));have p3:(qa*10+(y.toNat - 48)+1)*10 ^ b.length<=(qa*10+(x.toNat - 48))*10 ^ b.length:=Fq _ (by omega);simp only[Sc,Sb];rw[hl]at p2;omega
def Am1:∀ (l:List UInt8),F2 0 (l.dropWhile (·==48))=F2 0 l
 | []=>rfl
 | c::l=>by
  rw[Tc]
  split
  .rename_i h;have hc:c=48:=by simpa using h
   subst hc;rw[Am1 l];rfl
  .rfl
def Ali:∀ {l:List UInt8},I0 l->I0 (l.dropWhile (·==48))/\∀ c r,l.dropWhile (·==48)=c::r->49<=c.toNat
 | [],_=>⟨fun _ h=>by simp at h,fun c r h=>by simp at h⟩
 | c::l,h=>by
  rw[Tc]
  split
  .exact Ali (Qm h)
  .rename_i hc;refine⟨h,fun d r e=>?_⟩;cases e;have:=U2 h;have h2:c.toNat≠48:=fun e=>hc (by simp[UInt8.toNat_inj.1 (show c.toNat=(48:UInt8).toNat from e)])
   omega
def Aes{w:List UInt8}(h:I0 w):Nz w=decide (F2 0 w<=9223372036854775807):=by
 obtain⟨h1,h2⟩:=Ali h;rw[<-Am1 w];unfold Nz;simp only;generalize w.dropWhile (·==48)=d at h1 h2 ⊢;have hg:F2 0 greatS=9223372036854775807:=by decide
 have qM:I0 greatS:=fun c hc=>by
  have:greatS.all Dw=true:=by decide
  exact Bh.1 this c hc
 by_cases hl:19<d.length
 .rw[decide_eq_true hl,Bool.true_or,Ar]
  symm
  rw[decide_eq_false_iff_not]
  match d,hl,h1,h2 with
  | c::r,hl,h1,h2=>
   have hc:=h2 c r rfl;have ja:=Xr r (0*10+(c.toNat - 48));simp only[Sc,Sb];have:10 ^ 19<=10 ^ r.length:=Nat.pow_le_pow_right (by decide) (by simp at hl;omega);have h3:1*10 ^ r.length<=(0*10+(c.toNat - 48))*10 ^ r.length:=Fq _ (by omega);omega
 .rw[decide_eq_false hl,Tq];by_cases qz:d.length=19
  .rw[decide_eq_true qz,Adw,Am0 greatS d 0 qM h1 (by rw[qz];rfl),hg];by_cases hv:9223372036854775807<F2 0 d
   .rw[decide_eq_true hv]
    symm
    rw[Ar,decide_eq_false_iff_not];omega
   .rw[decide_eq_false hv]
    symm
    rw[Ax,decide_eq_true_eq];omega
  .rw[decide_eq_false qz,Tn,Ax]
   symm
   rw[decide_eq_true_eq];have qY:=Abi d 0 h1;have:10 ^ d.length<=10 ^ 18:=Nat.pow_le_pow_right (by decide) (by omega);omega
def A2a(l:List UInt8)(qa:Nat):qa<=F2 qa l:=by
 have:=Xr l qa;have h:1<=10 ^ l.length:=Nat.one_le_pow _ _ (by decide);have:=Nat.mul_le_mul_left qa h;omega
def pum:∀ (l:List UInt8) (qa:Nat),I0 l->F2 qa l<=18446744073709551615->Lib.parseUintM 18446744073709551615 qa l=.ok (F2 qa l)
 | [],_,_,_=>rfl
 | c::l,qa,h,hv=>by
  have hc:=U2 h;have qX:=A2a l (qa*10+(c.toNat - 48));simp only[Sc,Sb]at hv ⊢;rw[Lib.parseUintM,if_pos hc,if_neg (by omega),if_neg (by omega)];exact pum l _ (Qm h) hv
def Asq{c:UInt8}{l:List UInt8}(h:I0 (c::l))(hv:F2 0 (c::l)<=9223372036854775807):Lib.parseIntB 64 (c::l)=.ok (F2 0 (c::l):Int):=by
 have hc:=U2 h;have hp:=pum (c::l) 0 h (by omega);unfold Lib.parseIntB;simp only;rw[if_neg (by omega)];unfold Lib.parseUintB;rw[if_neg (by simp),show(2 ^ 64 - 1:Nat)=18446744073709551615 by decide,hp];simp only;rw[if_neg (by omega),if_neg (by omega),if_neg (by omega)]
def Afg{c:UInt8}{l:List UInt8}(h:I0 (c::l))(hv:F2 0 (c::l)<=9223372036854775807):Id (c::l)=(F2 0 (c::l):Int):=by
 unfold Id;rw[Asq h hv]
def u8n{n:Nat}(h:n<256):(UInt8.ofNat n).toNat=n:=by simp[Tj h]
def Aet:∀ (k u:Nat),I0 (Hb k u)/\(u<10 ^ k->F2 0 (Hb k u)=u)/\(1<=k->Hb k u≠[])
 | 0,u=>⟨fun c h=>by simp[Hb]at h,fun h=>by simp at h;subst h;rfl,fun h=>by omega⟩
 | k+1,u=>by
  obtain⟨h1,h2,h3⟩:=Aet k (u / 10);unfold Hb
  split
  .rename_i hu;have e:(UInt8.ofNat (48+u)).toNat=48+u:=u8n (by omega);refine⟨fun c hc=>?_,fun _=>?_,fun _=>by simp⟩
   .rw[E0]at hc;subst hc;unfold Dw M9;rw[e];simp;omega
   .simp only[Sc,Sb,e];omega
  .rename_i hu;have e:(UInt8.ofNat (48+u % 10)).toNat=48+u % 10:=u8n (by omega);refine⟨fun c hc=>?_,fun hk=>?_,fun _=>by simp⟩
   .rcases Cr.1 hc with hc | hc
    .exact h1 c hc
    .rw[E0]at hc;subst hc;unfold Dw M9;rw[e];simp;omega
   .rw[Amz,h2 (by rw[Ad3]at hk;omega),e];omega
def Apb{n:Int}(hn:0<=n):Bw n=Hb 20 n.toNat:=by
 unfold Bw;rw[if_neg (by omega)]
def A6s:J2:=fun n hn=>by
 rw[Apb hn.1]
 obtain⟨h1,h2,h3⟩:=Aet 20 n.toNat
 have qL:(10:Nat) ^ 20=100000000000000000000:=by decide
 have hv:=h2 (by omega)
 match hd:Hb 20 n.toNat with
 | []=>exact absurd hd (h3 (by decide))
 | c::l=>
  rw[hd]at h1 hv;rw[Afg h1 (by omega),hv];omega
def A6t:N2:=fun n hn=>by
 rw[Apb hn.1]
 obtain⟨h1,h2,h3⟩:=Aet 20 n.toNat
 have qL:(10:Nat) ^ 20=100000000000000000000:=by decide
 have hv:=h2 (by omega);refine⟨?_,by rw[Aes h1,hv];simp;omega⟩
 match hd:Hb 20 n.toNat with
 | []=>exact absurd hd (h3 (by decide))
 | c::l=>
  rw[hd]at h1;exact⟨c,l,rfl,h1 c Cx,Qm h1⟩
def O9{w r:List UInt8}{c:UInt8}{cs:List UInt8}(e:w=c::cs)(h1:F1 c=true)(h2:cs.all Gw=true)(h3:w.length<=12)(hk:Gc w=true)(hr:Jf r):B0 (w++r)=cons [(3,w)] (B0 r):=by
 subst e;rw[Ao8 h1 (Bh.1 h2) h3 hr,hk];rfl
def A2b:((List.range 14).all fun i=>match Cj ((i:Int)+2) with
  | c::cs=>F1 c&&(cs.all Gw&&(decide ((c::cs).length<=12)&&Gc (c::cs)))
  | []=>false)=true:=by decide
def Xa{op:Int}(h:2<=op/\op<=15){r:List UInt8}(hr:Jf r):B0 (Cj op++r)=cons [(3,Cj op)] (B0 r):=by
 obtain⟨i,hi,rfl⟩:∃ i:Nat,i<14/\op=(i:Int)+2:=⟨(op - 2).toNat,by omega,by omega⟩;have:=Bh.1 A2b i (En.2 hi)
 split at this
 .rename_i c cs he;simp only[Af,decide_eq_true_eq]at this;rw[he];exact O9 rfl this.1 this.2.1 this.2.2.1 this.2.2.2 hr
 .cases this
def Hi(r:List UInt8):Jf (32::r):=Jr r (by decide)
def A2c(hd:N2){s:Sp}(h:ShS s):Tx (Cm s) (Vj s):=by
 obtain⟨op,line,nm,arg,iz,it,idx,ex,bz,bt,body,ez,et,els⟩:=s
 cases h with
 | mk h1 h2 h3 h4 h5 h6 h7 h8 h9 h10 h11 qu h13 qp=>
  simp only at h1 h2 h3 h4 h5 h6 h7 h8 h9 h10 h11 qu h13 qp;intro r hr;simp only[Cm,Vj];by_cases a:op=1
  .subst a;rw[if_pos rfl,if_pos rfl];have qt:=h3 rfl;have qs:=(Ab3 hd (h9 rfl)).1
   match hi:idx,h6 with
   | [],_=>
    simp only[E7,Vw,Bf,Br,Bq];rw[G5 qt (Hi _),Er,Aal,Er,qs r hr];simp only[E8,Bq,Bf]
   | [x],_=>
    have hx:=(Ab3 hd (h8 x (by simp))).1;simp only[E7,Vw,Bf,Br,Bq];rw[G5 qt (Jr _ (by decide)),F4 (by decide),hx _ (Jr _ (by decide)),F4 (by decide),Er,Aal,Er,qs r hr];simp only[E8,Bq,Bf]
   | _::_::_,h=>simp at h
  have qv:2<=op/\op<=15:=by omega
  rw[if_neg a,if_neg a];by_cases b:op=2\/op=3
  .rw[if_pos b,if_pos b];have qs:=(Ab3 hd (h9 (by rcases b with rfl | rfl<;>rfl))).1;simp only[Br,Bq];rw[Xa qv (Hi _),Er,qs r hr];simp only[E8,Bq,Bf]
  rw[if_neg b,if_neg b];by_cases c:op=7\/op=8
  .rw[if_pos c,if_pos c];exact Xa qv hr
  rw[if_neg c,if_neg c];have qt:=h3 (by unfold Ft;simp;omega);by_cases d:op=14
  .rw[if_pos d,if_pos d];have qs:=(Ab3 hd (h9 (by subst d;rfl))).1;simp only[Br,Bq];rw[Xa qv (Hi _),Er,G5 qt (Hi _),Er,qs r hr];simp only[E8,Bq,Bf]
  rw[if_neg d,if_neg d];by_cases e:op=15
  .rw[if_pos e,if_pos e];simp only[Br,Bq];rw[Xa qv (Hi _),Er,G5 qt (Hi _),Er,G5 (h4 e) hr];simp only[E8,Bq,Bf]
  rw[if_neg e,if_neg e];simp only[Br,Bq];rw[Xa qv (Hi _),Er,G5 qt hr];simp only[E8,Bq,Bf]
def Ab4{d:Nat}:∀ {l:List Sp},(∀ s∈l,∀ r,B0 (Sp.txt d s++r)=cons s.toks (B0 r))->∀ r,B0 (Sp.txts d l++r)=cons (Sp.tokss l) (B0 r)
 | [],_,r=>(W9 _).symm
 | s::l,h,r=>by
  simp only[Sp.txts,Sp.tokss,Br];rw[h s Cx,Ab4 (fun s hs=>h s (Cs _ hs)) r,E8]
def Xs(d:Nat)(r:List UInt8):B0 (D6 d++r)=B0 r:=A6n _ r
def A2d{r:List UInt8}(hr:Jf r):B0 (101::108::115::101::r)=cons [(3,Qv)] (B0 r):=O9 (w:=Qv) rfl (by decide) (by decide) (by decide) (by decide) hr
def A2e(hd:N2){s:Sp}(h:ShS s):∀ (d:Nat) (r:List UInt8),B0 (s.txt d++r)=cons s.toks (B0 r):=by
 induction h with
 | @mk s h1 h2 h3 h4 h5 h6 h7 h8 h9 h10 h11 qu h13 qp qm qg=>
  intro d r;have hh:=A2c hd (ShS.mk h1 h2 h3 h4 h5 h6 h7 h8 h9 h10 h11 qu h13 qp);obtain⟨op,line,nm,arg,iz,it,idx,ex,bz,bt,body,ez,et,els⟩:=s;simp only at h1 h2 h3 h4 h5 h6 h7 h8 h9 h10 h11 qu h13 qp qm qg;simp only[Sp.txt,Sp.toks];generalize Cm ⟨op,line,nm,arg,iz,it,idx,ex,bz,bt,body,ez,et,els⟩=H at hh ⊢;generalize Vj ⟨op,line,nm,arg,iz,it,idx,ex,bz,bt,body,ez,et,els⟩=K at hh ⊢;have i1:=Ab4 (d:=d+1) (l:=body) fun s hs r=>qm s hs (d+1) r
  have i2:=Ab4 (d:=d+1) (l:=els) fun s hs r=>qg s hs (d+1) r
  cases hb:Bn op
  .simp only[Ez,if_false,Br,Bq,Bf];rw[Xs,hh _ (Jr _ (by decide)),F4 (by decide),Qw];simp only[E8,Bq,Bf]
  .simp only[if_true,Br,Bq,Bf];rw[Xs,hh _ (Hi _),Er,F4 (by decide),Qw,i1];cases he:els.isEmpty
   .simp only[Ez,if_false,Br,Bq,Bf];rw[Xs,F4 (by decide),Er,A2d (Hi _),Er,F4 (by decide),Qw,i2,Xs,F4 (by decide),Qw];simp only[E8,Bq,Bf,Br]
   .simp only[if_true,Br,Bq,Bf];rw[Xs,F4 (by decide),Qw];simp only[E8,Bq,Bf,Br]
/-! declarations -/
def Qx(k:Int):List UInt8:=if k=1 then [118,97,114] else if k=2 then [118,111,108,97,116,105,108,101] else if k=3 then [109,117,116,101,120] else if k=4 then [114,119,108,111,99,107] else if k=5 then [99,111,110,100] else [102,117,116,117,114,101]
def M4(n:Int):List Kt:=if n=0 then [] else if n<0 then [(4,[61]),(4,[45]),(2,Bw (-n))] else [(4,[61]),(2,Bw n)]
def M5(n:Int):List Kt:=if n=0 then [] else [(4,[91]),(2,Bw n),(4,[93])]
def J3(d:Dp):List Kt:=(3,Qx d.kind)::(1,d.nm)::(M5 d.size++(M4 d.init++((if d.kind=5 then [(1,d.on)] else [])++[(4,[59])])))
def Ax9{n:Int}(h:n<0):Bw n=45::Bw (-n):=by
 unfold Bw;rw[if_pos h,if_neg (by omega),show(-n).toNat=n.natAbs by omega]
def Af5(hd:N2){n:Int}(hn : -9223372036854775808<n/\n<=9223372036854775807){r:List UInt8}(hr:Jf r):B0 (Gm n++r)=cons (M4 n) (B0 r):=by
 unfold Gm M4;by_cases h:n=0
 .rw[if_pos h,if_pos h];exact(W9 _).symm
 rw[if_neg h,if_neg h];by_cases h2:n<0
 .rw[if_pos h2,Ax9 h2];simp only[Bq];rw[Er,Aal,Er,F4 (by decide),Ab2 hd (by omega) hr];simp only[E8,Bq,Bf]
 .rw[if_neg h2];simp only[Bq];rw[Er,Aal,Er,Ab2 hd (by omega) hr];simp only[E8,Bq,Bf]
def Akd(n:Int){r:List UInt8}(hr:Jf r):Jf (Gm n++r):=by
 unfold Gm
 split
 .exact hr
 .exact Hi _
def A2f(hd:N2){d:Dp}(h:ShD d)(r:List UInt8):B0 (Dc d++59::10::r)=cons (J3 d) (B0 r):=by
 obtain⟨kind,line,nm,size,init,on⟩:=d;obtain⟨h1,h2,h3,h4,h5,h6⟩:=h;simp only at h1 h2 h3 h4 h5 h6;have qi:Jf (59::10::r):=Jr _ (by decide);have qr:B0 (59::10::r)=cons [(4,[59])] (B0 r):=by rw[F4 (by decide),Qw]
 have hw:kind=1\/kind=2\/kind=3\/kind=4\/kind=5\/kind=6:=by omega
 rcases hw with rfl | rfl | rfl | rfl | rfl | rfl
 .simp only[Dc,J3,Qx,if_true,Br,Bq,Bf];rw[show(118::97::114::32::(nm++((if size=0 then [] else 91::(Bw size++[93]))++(Gm init++59::10::r))))=[118,97,114]++32::(nm++((if size=0 then [] else 91::(Bw size++[93]))++(Gm init++59::10::r))) from rfl];rw[O9 rfl (by decide) (by decide) (by decide) (by decide) (Hi _),Er];by_cases hz:size=0
  .subst hz;simp only[if_true,Bf,M5];rw[G5 h2 (Akd _ qi),Af5 hd (by omega) qi,qr];simp[E8]
  .simp only[M5,hz,if_false,Br,Bq,Bf];rw[G5 h2 (Jr _ (by decide)),F4 (by decide),Ab2 hd (by omega) (Jr _ (by decide)),F4 (by decide),Af5 hd (by omega) qi,qr];simp[E8]
 .have hz:size=0:=h3.2.2 (by omega);subst hz;have e:Dc ⟨2,line,nm,0,init,on⟩++59::10::r=[118,111,108,97,116,105,108,101]++32::(nm++(Gm init++59::10::r)):=by simp[Dc]
  rw[e,O9 rfl (by decide) (by decide) (by decide) (by decide) (Hi _),Er,G5 h2 (Akd _ qi),Af5 hd (by omega) qi,qr];simp[E8,J3,Qx,M5]
 .have hz:size=0:=h3.2.2 (by omega);have hi:init=0:=h4.2.2 (by omega) (by omega);subst hz hi;have e:Dc ⟨3,line,nm,0,0,on⟩++59::10::r=[109,117,116,101,120]++32::(nm++59::10::r):=by simp[Dc]
  rw[e,O9 rfl (by decide) (by decide) (by decide) (by decide) (Hi _),Er,G5 h2 qi,qr];simp[E8,J3,Qx,M5,M4]
 .have hz:size=0:=h3.2.2 (by omega);have hi:init=0:=h4.2.2 (by omega) (by omega);subst hz hi;have e:Dc ⟨4,line,nm,0,0,on⟩++59::10::r=[114,119,108,111,99,107]++32::(nm++59::10::r):=by simp[Dc]
  rw[e,O9 rfl (by decide) (by decide) (by decide) (by decide) (Hi _),Er,G5 h2 qi,qr];simp[E8,J3,Qx,M5,M4]
 .have hz:size=0:=h3.2.2 (by omega);have hi:init=0:=h4.2.2 (by omega) (by omega);subst hz hi;have e:Dc ⟨5,line,nm,0,0,on⟩++59::10::r=[99,111,110,100]++32::(nm++32::(on++59::10::r)):=by simp[Dc]
  rw[e,O9 rfl (by decide) (by decide) (by decide) (by decide) (Hi _),Er,G5 h2 (Hi _),Er,G5 (h5 rfl) qi,qr];simp[E8,J3,Qx,M5,M4]
 .have hz:size=0:=h3.2.2 (by omega);have hi:init=0:=h4.2.2 (by omega) (by omega);subst hz hi;have e:Dc ⟨6,line,nm,0,0,on⟩++59::10::r=[102,117,116,117,114,101]++32::(nm++59::10::r):=by simp[Dc]
  rw[e,O9 rfl (by decide) (by decide) (by decide) (by decide) (Hi _),Er,G5 h2 qi,qr];simp[E8,J3,Qx,M5,M4]
def Ag3(qb:J2){n:Int}(hn:0<=n/\n<=9223372036854775807){ts:List Tk}{r:List Kt}(h:ts.map Tk.kt=(2,Bw n)::r):∃ qc,Gb ts=some (n,qc)/\qc.map Tk.kt=r:=by
 obtain⟨t,qc,rfl,h1,h2,h3⟩:=D4 h;exact⟨qc,by unfold Gb;simp only;rw[if_pos h1,h2,qb n hn],h3⟩
def A2g(qb:J2){n:Int}(hn:0<=n/\n<=9223372036854775807){ts:List Tk}{r:List Kt}(hr:Jl [91] r=false)(h:ts.map Tk.kt=M5 n++r):∃ qc,Qt ts=some (n,qc)/\qc.map Tk.kt=r:=by
 unfold M5 at h;unfold Qt;by_cases hz:n=0
 .rw[if_pos hz,Bf]at h;rw[if_neg (by rw[P9,h,hr];simp),hz];exact⟨ts,rfl,h⟩
 .rw[if_neg hz]at h;simp only[Bq,Bf]at h;obtain⟨t,qn,rfl,k1,k2,k3⟩:=D4 h;obtain⟨qo,a1,a2⟩:=Ag3 qb hn k3;obtain⟨qh,b1,b2⟩:=K8 a2;rw[if_pos (Nm (.inr rfl) k1 k2),Mk,a1];simp only;rw[if_neg hz,b1];exact⟨qh,rfl,b2⟩
def Apc(qb:J2){n:Int}(hn : -9223372036854775808<n/\n<=9223372036854775807){ts:List Tk}{r:List Kt}(hr:Jl [61] r=false)(h:ts.map Tk.kt=M4 n++r):∃ qc,N0 ts=some (n,qc)/\qc.map Tk.kt=r:=by
 unfold M4 at h;unfold N0;by_cases hz:n=0
 .rw[if_pos hz,Bf]at h;rw[if_neg (by rw[P9,h,hr];simp),hz];exact⟨ts,rfl,h⟩
 rw[if_neg hz]at h;by_cases hm:n<0
 .rw[if_pos hm]at h;simp only[Bq,Bf]at h;obtain⟨t,qn,rfl,k1,k2,k3⟩:=D4 h;obtain⟨t2,qo,rfl,k4,k5,k6⟩:=D4 k3;obtain⟨qh,a1,a2⟩:=Ag3 qb (by omega) k6;rw[if_pos (Nm (.inr rfl) k1 k2),Mk,if_pos (Nm (.inr rfl) k4 k5),Mk,a1];exact⟨qh,by simp,a2⟩
 .rw[if_neg hm]at h;simp only[Bq,Bf]at h;obtain⟨t,qn,rfl,k1,k2,k3⟩:=D4 h;obtain⟨t2,qo,rfl,k4,k5,k6⟩:=D4 k3;rw[if_pos (Nm (.inr rfl) k1 k2),Mk,if_neg (by rw[Sm (.inr k4)];simp)];obtain⟨qh,a1,a2⟩:=Ag3 qb (by omega) k3;exact⟨qh,a1,a2⟩
def A2h{k:Int}(h:1<=k/\k<=6):F7 (Qx k)=k:=by
 have hw:k=1\/k=2\/k=3\/k=4\/k=5\/k=6:=by omega
 rcases hw with rfl | rfl | rfl | rfl | rfl | rfl<;>rfl
def Aay{d d':Dp}(h1:d.kind=d'.kind)(h2:d.nm=d'.nm)(h3:d.size=d'.size)(h4:d.init=d'.init)(h5:d.on=d'.on):Yl d d'=true:=by
 unfold Yl;rw[h1,h2,h3,h4,h5];simp
def A2i(qb:J2){d:Dp}(h:ShD d){ts:List Tk}{r:List Kt}(hm:ts.map Tk.kt=J3 d++r):Lx ts=true/\∃ d' qc,O8 ts=some (d',qc)/\qc.map Tk.kt=r/\Yl d d'=true:=by
 obtain⟨kind,line,nm,size,init,on⟩:=d;obtain⟨h1,h2,h3,h4,h5,h6⟩:=h;simp only at h1 h2 h3 h4 h5 h6;simp only[J3,Bq,Br,Bf]at hm;obtain⟨t,qn,rfl,k1,k2,k3⟩:=D4 hm;obtain⟨qo,a1,a2⟩:=Mr k3;have qG:=A2h h1;refine⟨by simp only[Lx];rw[k1,k2,qG];simp;omega,?_⟩;simp only[O8,a1];rw[k2,qG];by_cases e1:kind=1
 .subst e1;rw[if_pos rfl];rw[if_neg (by decide),Bf]at a2
  obtain⟨qh,b1,b2⟩:=A2g qb (n:=size) (by omega) (by
   unfold M4
   split
   .rfl
   .split<;>rfl) a2
  obtain⟨qJ,c1,c2⟩:=Apc qb (n:=init) (by omega) rfl b2;obtain⟨qx,d1,d2⟩:=K8 c2;rw[b1];simp only;rw[c1];simp only;rw[d1];exact⟨_,_,rfl,d2,Aay rfl rfl rfl rfl (h6 (by decide))⟩
 have hz:size=0:=h3.2.2 e1;subst hz;rw[if_neg e1];simp only[M5,if_true,Bf]at a2;by_cases e2:kind=2
 .subst e2;rw[if_pos rfl];rw[if_neg (by decide),Bf]at a2;obtain⟨qJ,c1,c2⟩:=Apc qb (n:=init) (by omega) rfl a2;obtain⟨qx,d1,d2⟩:=K8 c2;rw[c1];simp only;rw[d1];exact⟨_,_,rfl,d2,Aay rfl rfl rfl rfl (h6 (by decide))⟩
 have hi:init=0:=h4.2.2 e1 e2;subst hi;rw[if_neg e2];simp only[M4,if_true,Bf]at a2;by_cases e5:kind=5
 .subst e5;rw[if_pos rfl];simp only[if_true,Bq,Bf]at a2;obtain⟨qh,b1,b2⟩:=Mr a2;obtain⟨qx,d1,d2⟩:=K8 b2;rw[b1];simp only;rw[d1];exact⟨_,_,rfl,d2,Aay rfl rfl rfl rfl rfl⟩
 .rw[if_neg e5];rw[if_neg e5,Bf]at a2;obtain⟨qx,d1,d2⟩:=K8 a2;rw[d1];exact⟨_,_,rfl,d2,Aay rfl rfl rfl rfl (h6 e5)⟩
def Am2(qb:J2){r:List Kt}(hr:r≠[]->∃ r',r=(3,Na)::r'):∀ {l:List Dp},(∀ d∈l,ShD d)->∀ {n:Nat} {ts:List Tk},ts.map Tk.kt=(l.map J3).flatten++r->l.length<n->∃ l' qc,Iu n ts=some (l',qc)/\qc.map Tk.kt=r/\l.length=l'.length/\((l.zip l').all fun p=>Yl p.1 p.2)=true
 | [],_,n,ts,hm,hn=>by
  obtain⟨n,rfl⟩:∃ k,n=k+1:=⟨n - 1,by omega⟩;simp only[B6,Zl,Bf]at hm;refine⟨[],ts,?_,hm,rfl,rfl⟩;rw[Iu,if_neg ?_]
  cases ts with
  | nil=>simp[Lx]
  | cons t ts=>
   obtain⟨r',e⟩:=hr (by rw[<-hm];simp);rw[e]at hm;obtain⟨t',qc,e2,k1,k2,k3⟩:=D4 hm;cases e2;simp only[Lx];rw[k2];rw[show F7 Na=0 from rfl];simp
 | d::l,h,n,ts,hm,hn=>by
  obtain⟨n,rfl⟩:∃ k,n=k+1:=⟨n - 1,by simp at hn;omega⟩;simp only[Aw,D3,Br]at hm;obtain⟨h1,d',qn,h2,h3,h4⟩:=A2i qb (h d Cx) hm;obtain⟨l',qo,a1,a2,a3,a4⟩:=Am2 qb hr (l:=l) (fun d hd=>h d (Cs _ hd)) (n:=n) h3 (by simp at hn;omega);refine⟨d'::l',qo,?_,a2,by simp[a3],by simp[h4];simpa using a4⟩;rw[Iu,if_pos h1,h2];simp only;rw[a1]
/-! threads -/
def Nb:List (List UInt8)->List Kt
 | []=>[]
 | [a]=>[(1,a)]
 | a::b::l=>(1,a)::(4,[44])::Nb (b::l)
def Ld(t:Tp):List Kt:=(3,Na)::(1,t.nm)::(4,[40])::(Nb t.locals++(4,[41])::(4,[123])::(Sp.tokss t.body++[(4,[125])]))
def Acv(p:Gp):List Kt:=(p.decls.map J3).flatten++(p.thrs.map Ld).flatten
def Aqs:∀ {l:List (List UInt8)},(∀ s∈l,Bv s=true)->∀ r,Jf r->B0 (Ed l++r)=cons (Nb l) (B0 r)
 | [],_,r,_=>(W9 _).symm
 | [a],h,r,hr=>G5 (h a (by simp)) hr
 | a::b::l,h,r,hr=>by
  simp only[Ed,Nb,Br,Bq];rw[G5 (h a (by simp)) (Jr _ (by decide)),F4 (by decide),Er,Aqs (l:=b::l) (fun s hs=>h s (Cs _ hs)) r hr];simp only[E8,Bq,Bf]
def A6u(hd:N2){t:Tp}(h1:Bv t.nm=true)(h2:∀ s∈t.locals,Bv s=true)(h3:∀ s∈t.body,ShS s)(r:List UInt8):B0 (D1 t++r)=cons (Ld t) (B0 r):=by
 have e:D1 t++r=Na++32::(t.nm++40::(Ed t.locals++41::32::123::10::(Sp.txts 1 t.body++125::10::r))):=by simp[D1,Na]
 rw[e,O9 (w:=Na) rfl (by decide) (by decide) (by decide) (by decide) (Hi _),Er,G5 h1 (Jr _ (by decide)),F4 (by decide),Aqs h2 _ (Jr _ (by decide)),F4 (by decide),Er,F4 (by decide),Qw,
  Ab4 (d:=1) (fun s hs r=>A2e hd (h3 s hs) 1 r),F4 (by decide),Qw]
 simp only[E8,Ld,Bq,Bf,Br]
def A2j(hd:N2){p:Gp}(h:ShG p):B0 (Fe p)=some (Acv p):=by
 have a:∀ (l:List Dp),(∀ d∈l,ShD d)->∀ r,B0 ((l.map fun d=>Dc d++[59,10]).flatten++r)=cons ((l.map J3).flatten) (B0 r):=by
  intro l
  induction l with
  | nil=>intro _ r;exact(W9 _).symm
  | cons d l ih=>
   intro hl r;simp only[Aw,D3,Br,Bq,Bf];rw[A2f hd (hl d Cx),ih (fun d hd=>hl d (Cs _ hd)),E8]
 have b:∀ (l:List Tp),(∀ t∈l,Bv t.nm=true)->(∀ t∈l,∀ s∈t.locals,Bv s=true)->(∀ t∈l,∀ s∈t.body,ShS s)->∀ r,B0 ((l.map D1).flatten++r)=cons ((l.map Ld).flatten) (B0 r):=by
  intro l
  induction l with
  | nil=>intro _ _ _ r;exact(W9 _).symm
  | cons t l ih=>
   intro h1 h2 h3 r;simp only[Aw,D3,Br];rw[A6u hd (h1 t Cx) (h2 t Cx) (h3 t Cx),ih (fun t ht=>h1 t (Cs _ ht)) (fun t ht=>h2 t (Cs _ ht)) (fun t ht=>h3 t (Cs _ ht)),E8]
 unfold Fe Acv;rw[a p.decls h.decls,show(p.thrs.map D1).flatten=(p.thrs.map D1).flatten++[] by simp,b p.thrs h.nms h.locs h.thrs,A6m];simp[cons]
def Aqt:∀ {l:List (List UInt8)},l≠[]->∀ {n:Nat} {ts:List Tk} {r:List Kt},ts.map Tk.kt=Nb l++(4,[41])::r->l.length<=n->∃ qc,Iz n ts=some (l,qc)/\qc.map Tk.kt=r
 | [],h,_,_,_,_,_=>absurd rfl h
 | [a],_,n,ts,r,hm,hn=>by
  obtain⟨n,rfl⟩:∃ k,n=k+1:=⟨n - 1,by simp at hn;omega⟩;obtain⟨qn,a1,a2⟩:=Mr (r:=(4,[41])::r) hm;obtain⟨qo,b1,b2⟩:=K8 a2;refine⟨qo,?_,b2⟩;rw[Iz,a1];simp only;rw[if_neg (by rw[P9,a2];simp[Jl]),b1];rfl
 | a::b::l,_,n,ts,r,hm,hn=>by
  obtain⟨n,rfl⟩:∃ k,n=k+1:=⟨n - 1,by simp at hn;omega⟩;obtain⟨qn,a1,a2⟩:=Mr (r:=(4,[44])::(Nb (b::l)++(4,[41])::r)) hm;obtain⟨t2,qo,rfl,k1,k2,k3⟩:=D4 a2;obtain⟨qh,b1,b2⟩:=Aqt (l:=b::l) (by simp) (n:=n) k3 (by simp at hn ⊢;omega);refine⟨qh,?_,b2⟩;rw[Iz,a1];simp only;rw[if_pos (Nm (.inr rfl) k1 k2),Mk,b1]
def A2k{l:List (List UInt8)}{n:Nat}{ts:List Tk}{r:List Kt}(hm:ts.map Tk.kt=Nb l++(4,[41])::r)(hn:l.length<=n):∃ qc,Yk n ts=some (l,qc)/\qc.map Tk.kt=r:=by
 unfold Yk;by_cases h:l=[]
 .subst h;obtain⟨t,qc,rfl,k1,k2,k3⟩:=D4 (r:=r) hm;rw[if_pos (Nm (.inr rfl) k1 k2)];exact⟨qc,rfl,k3⟩
 .obtain⟨qc,a1,a2⟩:=Aqt h hm hn;refine⟨qc,?_,a2⟩;rw[if_neg ?_,a1];rw[P9,hm]
  match l with
  | []=>exact absurd rfl h
  | [a]=>simp[Nb,Jl]
  | a::b::l=>simp[Nb,Jl]
def Aya{t t':Tp}(h1:t.nm=t'.nm)(h2:t.locals=t'.locals)(h3:Ly t.body t'.body=true):Vi t t'=true:=by
 unfold Vi;rw[h1,h2,h3];simp
def Am3:∀ l:List (List UInt8),l.length<=(Nb l).length
 | []=>Ai _
 | [a]=>Ai _
 | a::b::l=>by
  have:=Am3 (b::l);simp only[Nb,Ah]at this ⊢;omega
def A6v(qb:J2){t:Tp}(h:∀ s∈t.body,ShS s){n:Nat}{ts:List Tk}{r:List Kt}(hm:ts.map Tk.kt=Ld t++r)(hn:10*ts.length+2<=n):∃ t' qc,Pi n ts=some (t',qc)/\qc.map Tk.kt=r/\Vi t t'=true:=by
 have hl:=Gu hm;simp only[Ld,Bq,Br,Bf]at hm;obtain⟨t0,qn,rfl,k1,k2,k3⟩:=D4 hm;obtain⟨qo,a1,a2⟩:=Mr k3;obtain⟨qh,b1,b2⟩:=K8 a2;have qZ:=Am3 t.locals;simp only[Ld,Ah,Aj,C8]at hl;rw[Ah]at hn;obtain⟨qJ,c1,c2⟩:=A2k (n:=n) b2 (by omega);have qR:=Gu c2;simp only[Ah,Aj]at qR;obtain⟨l',qx,d1,d2,d3⟩:=W8 h (fun s hs=>A19 qb (h s hs)) (n:=n) c2 (by omega);refine⟨_,qx,?_,d2,Aya (t':=⟨t.nm,t0.line,true,0,t.locals,true,0,l'⟩) rfl rfl d3⟩;simp only[Pi,a1];rw[b1];simp only;rw[c1];simp only;rw[d1]
def Apd(qb:J2){m:Nat}:∀ {l:List Tp},(∀ t∈l,∀ s∈t.body,ShS s)->∀ {n:Nat} {ts:List Tk},ts.map Tk.kt=(l.map Ld).flatten->10*ts.length+2<=m->l.length<n->∃ l',Ix m n ts=some (l',[])/\l.length=l'.length/\((l.zip l').all fun p=>Vi p.1 p.2)=true
 | [],_,n,ts,hm,_,hn=>by
  obtain⟨n,rfl⟩:∃ k,n=k+1:=⟨n - 1,by omega⟩;have:ts=[]:=by simpa using hm
  subst this;exact⟨[],by rw[Ix,if_neg (by simp[Ao])],rfl,rfl⟩
 | t::l,h,n,ts,hm,hb,hn=>by
  obtain⟨n,rfl⟩:∃ k,n=k+1:=⟨n - 1,by simp at hn;omega⟩;simp only[Aw,D3]at hm;obtain⟨t',qn,a1,a2,a3⟩:=A6v qb (h t Cx) hm hb;have hl:=Gu hm;have qQ:=Gu a2;rw[Aj]at hl;obtain⟨l',b1,b2,b3⟩:=Apd qb (m:=m) (l:=l) (fun t ht=>h t (Cs _ ht)) (n:=n) a2 (by omega) (by simp at hn;omega);refine⟨t'::l',?_,by simp[b2],by simp[a3];simpa using b3⟩
  have qT:Ao Na ts=true:=by
   rw[P9,hm];simp[Ld,Jl]
  rw[Ix,if_pos qT,a1];simp only;rw[b1]
def Af6{α:Type}(f:α->List Kt)(hf:∀ x,1<=(f x).length):∀ l:List α,l.length<=((l.map f).flatten).length
 | []=>Ai _
 | x::l=>by
  have:=Af6 f hf l;have:=hf x;simp only[Aw,D3,Aj,Ah];omega
def A2l(qb:J2){p:Gp}(h:ShG p){ts:List Tk}(hm:ts.map Tk.kt=Acv p):∃ p',Sl ts=some (p',[])/\Ym p p'=true:=by
 have hl:=Gu hm;unfold Acv at hm hl;have g1:=Af6 J3 (fun d=>by simp[J3]) p.decls;have g2:=Af6 Ld (fun t=>by simp[Ld]) p.thrs;rw[Aj]at hl
 obtain⟨l1,qn,a1,a2,a3,a4⟩:=Am2 qb (r:=(p.thrs.map Ld).flatten) (fun qy=>by
  match hp:p.thrs with
  | []=>rw[hp]at qy;exact absurd rfl qy
  | t::l=>simp[Ld]) h.decls (n:=ts.length+1) hm (by omega)
 have qQ:=Gu a2;obtain⟨l2,b1,b2,b3⟩:=Apd qb (m:=J1 ts.length) (l:=p.thrs) h.thrs (n:=ts.length+1) a2 (by unfold J1;omega) (by omega)
 have qy:l2.isEmpty=false:=by
  cases l2 with
  | nil=>exact absurd (V8.1 b2) h.some
  | cons _ _=>rfl
 refine⟨⟨true,0,l1,true,0,l2⟩,?_,?_⟩
 .unfold Sl;rw[a1];simp only;rw[b1];simp only;rw[if_neg (by rw[qy];simp)]
 .unfold Ym;simp only[a3,b2,a4,b3,beq_self_eq_true,Zv]
def Aum(hd:N2)(qb:J2){p:Gp}(h:ShG p)(hl:(Fe p).length<=4096):∃ p',Jd (Fe p)=some p'/\Ym p p'=true:=by
 have hs:=A2j hd h;unfold B0 Rd at hs;obtain⟨ts,h1,h2⟩:=Bo.1 hs;obtain⟨p',h3,h4⟩:=A2l qb h h2;refine⟨p',?_,h4⟩;unfold Jd;rw[if_neg (by omega),h1];simp only;rw[h3]
/-! equal expressions have the same tokens and texts -/
mutual
theorem Aeu:∀ (x y:Xp),Gt x y=true->x.op=y.op/\x.toks=y.toks/\x.txt=y.txt
 | ⟨op,n,nm,z,t,l⟩,⟨op',n',nm',z',t',l'⟩,h=>by
  simp only[Gt,Af,beq_iff_eq]at h;obtain⟨rfl,rfl,rfl,h⟩:=h;obtain⟨h1,h2⟩:=Ake l l' h;simp only[Xp.toks,Xp.txt,h1,h2];exact⟨trivial,trivial,trivial⟩
theorem Ake:∀ (l l':List Xp),H6 l l'=true->Xp.tokss l=Xp.tokss l'/\Xp.txts l=Xp.txts l'
 | [],[],_=>⟨rfl,rfl⟩
 | x::l,y::l',h=>by
  simp only[H6,Af]at h;obtain⟨h1,h2,h3⟩:=Aeu x y h.1;obtain⟨h4,h5⟩:=Ake l l' h.2;simp only[Xp.tokss,Xp.txts,h1,h2,h3,h4,h5];exact⟨trivial,trivial⟩
 | [],_::_,h=>by cases h
 | _::_,[],h=>by cases h
end
/-! what is parsed has no more tokens than its text needs -/
def A2m(s:List UInt8):Fx s=(0,0)\/((6<=(Fx s).1/\(Fx s).1<=18)/\(Fx s).2=A1 (Fx s).1):=by
 unfold Fx
 cases h:opTab.lookup s with
 | none=>exact .inl rfl
 | some p=>
  have hm:∃ k,(k,p)∈opTab:=by
   revert h;generalize opTab=l
   induction l with
   | nil=>intro h;cases h
   | cons q l ih=>
    intro h;obtain⟨k,v⟩:=q;rw[Zo]at h
    split at h
    .cases h;exact⟨k,Cx⟩
    .obtain⟨k',hk⟩:=ih h;exact⟨k',Cs _ hk⟩
  obtain⟨k,hk⟩:=hm;have qA:(opTab.all fun q=>decide ((6<=q.2.1/\q.2.1<=18)/\q.2.2=A1 q.2.1))=true:=by decide
  exact .inr (by simpa using Bh.1 qA _ hk)
def Ayb{lvl:Nat}{ts:List Tk}(h:Gn lvl ts≠0):(6<=Gn lvl ts/\Gn lvl ts<=18)/\A1 (Gn lvl ts)=lvl/\ts.length=ts.tail.length+1:=by
 cases ts with
 | nil=>exact absurd rfl h
 | cons t ts=>
  simp only[Gn]at h ⊢
  split at h
  .split at h
   .rename_i h1 h2;rw[if_pos h1,if_pos h2];rcases A2m t.text with e | e
    .rw[e]at h;exact absurd rfl h
    .exact⟨e.1,by rw[<-e.2,h2],by simp⟩
   .exact absurd rfl h
  .exact absurd rfl h
/-! parentheses -/
def bd:Nat->List UInt8->Option Nat
 | d,[]=>some d
 | d,c::r=>if c=40 then bd (d+1) r else if c=41 then(if d<=1 then none else bd (d - 1) r) else bd d r
def flatB(l:List UInt8):Prop:=∀ c∈l,c≠40/\c≠41
def Ab5{p:UInt8->Bool}:∀ {l:List UInt8} {x:UInt8},x∈l.takeWhile p->p x=true
 | [],x,h=>by cases h
 | c::l,x,h=>by
  rw[Td]at h
  split at h
  .rename_i hc;rcases Bi.1 h with rfl | h
   .exact hc
   .exact Ab5 h
  .cases h
def Dv(ts:List Tk):Prop:=∀ t∈ts,(t.kind=1->Bv t.text=true)/\(t.kind=2->0<=Id t.text/\Id t.text<=9223372036854775807)
def C9{a b:List Tk}(h:Dv b)(hs:a <:+ b):Dv a:=fun t ht=>h t (hs.subset ht)
def wt(C:Nat)(ts:List Tk):Nat:=C*ts.length
def R8(C:Nat)(t:Tk)(ts:List Tk):wt C (t::ts)=C+wt C ts:=by unfold wt;rw[Ah,Nat.mul_add];omega
def Lu{s:List UInt8}{ts:List Tk}{C:Nat}(h:Ao s ts=true):ts.tail <:+ ts/\ts.tail.length+1=ts.length/\wt C ts=C+wt C ts.tail:=by
 cases ts with
 | nil=>cases h
 | cons t r=>exact⟨Rn t r,rfl,R8 C t r⟩
def A2n{lvl:Nat}{ts:List Tk}{C:Nat}(h:Gn lvl ts≠0):ts.tail <:+ ts/\ts.tail.length+1=ts.length/\wt C ts=C+wt C ts.tail:=by
 cases ts with
 | nil=>exact absurd rfl h
 | cons t r=>exact⟨Rn t r,rfl,R8 C t r⟩
def Sn{l:List UInt8}(h:Bv l=true):l.length<=12:=by
 obtain⟨c,cs,rfl,-,-,h,-⟩:=Afe h;exact h
def Avz{op:Int}(h:6<=op/\op<=18)(x y:Xp):(Ie op x y).txt.length<=x.txt.length+y.txt.length+8:=by
 unfold Ie;rw[Ao9 h];have h1:=(Mq (x.op,x.txt) (Fu op)).2;have h2:=(Mq (y.op,y.txt) (A1 op+1)).2;have h3:=(Abf (op:=op) ⟨by omega,by omega⟩).1;simp only at h1 h2;simp only[Aj,Ah];omega
def Ayc{op:Int}(h:op=4\/op=5)(x:Xp):(Mc op x).txt.length<=x.txt.length+4:=by
 unfold Mc;rw[(Aqr h).1];have h1:=(Mq (x.op,x.txt) 6).2;have h3:=(Abf (op:=op) ⟨by omega,by omega⟩).1;simp only at h1;simp only[Aj];omega
def XQ(C:Nat)(ts:List Tk)(x:Xp)(r:List Tk):Prop:=ShE x/\r <:+ ts/\r.length<ts.length/\x.txt.length+wt C r<=wt C ts
def Uk{C:Nat}(hC:25<=C):∀ n,(∀ lvl ts x r,Dv ts->pe n lvl ts=some (x,r)->XQ C ts x r) /\
  (∀ lvl x0 ts x r,Dv ts->ShE x0->lp n lvl x0 ts=some (x,r)->ShE x/\r <:+ ts/\r.length<=ts.length/\x.txt.length+wt C r<=x0.txt.length+wt C ts) /\
  (∀ ts x r,Dv ts->pu n ts=some (x,r)->XQ C ts x r)/\(∀ ts x r,Dv ts->pp n ts=some (x,r)->XQ C ts x r)
 | 0=>⟨fun _ _ _ _ _ h=>by simp[pe]at h,fun _ _ _ _ _ _ _ h=>by simp[lp]at h,fun _ _ _ _ h=>by simp[pu]at h,fun _ _ _ _ h=>by simp[pp]at h⟩
 | n+1=>by
  obtain⟨qm,qg,qw,qV⟩:=Uk hC n;refine⟨fun lvl ts x r ht h=>?_,fun lvl x0 ts x r ht h0 h=>?_,fun ts x r ht h=>?_,fun ts x r ht h=>?_⟩
  .rw[pe]at h
   split at h
   .exact qw ts x r ht h
   .split at h
    .cases h
    .rename_i y q hy;obtain⟨a1,a2,a3,a4⟩:=qm _ _ _ _ ht hy;obtain⟨b1,b2,b3,b4⟩:=qg _ _ _ _ _ (C9 ht a2) a1 h;exact⟨b1,b2.trans a2,by omega,by omega⟩
  .rw[lp]at h
   split at h
   .cases h;exact⟨h0,Adt _,Ai _,Ai _⟩
   .rename_i ho;obtain⟨t1,t2,t3⟩:=A2n (C:=C) ho;obtain⟨o1,-,-⟩:=Ayb ho
    split at h
    .cases h
    .rename_i y q hy;obtain⟨a1,a2,a3,a4⟩:=qm _ _ _ _ (C9 ht t1) hy;have hs:ShE (Ie (Gn lvl ts) x0 y):=.bin o1 h0 a1;have hb:=Avz o1 x0 y
     split at h
     .cases h;exact⟨hs,a2.trans t1,by omega,by omega⟩
     .obtain⟨b1,b2,b3,b4⟩:=qg _ _ _ _ _ (C9 (C9 ht t1) a2) hs h;exact⟨b1,(b2.trans a2).trans t1,by omega,by omega⟩
  .have un:∀ (op:Int),op=4\/op=5->∀ s,Ao s ts=true->(match pu n ts.tail with
     | none=>none
     | some (x,r)=>some (Mc op x,r))=some (x,r)->XQ C ts x r:=fun op ho s hs h=>by
    obtain⟨t1,t2,t3⟩:=Lu (C:=C) hs
    split at h
    .cases h
    .rename_i y q hy;cases h;obtain⟨a1,a2,a3,a4⟩:=qw _ _ _ (C9 ht t1) hy;have:=Ayc ho y;exact⟨.un ho a1,a2.trans t1,by omega,by omega⟩
   rw[pu]at h
   split at h
   .rename_i hs;exact un 4 (.inl rfl) _ hs h
   .split at h
    .rename_i hs;exact un 5 (.inr rfl) _ hs h
    .exact qV ts x r ht h
  .cases ts with
   | nil=>simp[pp]at h
   | cons t ts=>
    have hw:=R8 C t ts;have qd:=Rn t ts;have qq:=C9 ht qd;obtain⟨k1,k2⟩:=ht t Cx;rw[pp]at h
    split at h
    .rename_i hk;cases h;refine⟨.num (k2 hk),qd,by simp,?_⟩;have:=Ut (Id t.text);rw[E9];simp only[Dr,if_true];omega
    .split at h
     .rename_i hk;have hn:=k1 hk;have jb:=Sn hn
      split at h
      .rename_i hs;obtain⟨t1,t2,t3⟩:=Lu (C:=C) hs
       split at h
       .cases h
       .rename_i y q hy;obtain⟨a1,a2,a3,a4⟩:=qm _ _ _ _ (C9 qq t1) hy
        split at h
        .rename_i qB;obtain⟨u1,u2,u3⟩:=Lu (C:=C) qB;cases h;refine⟨.idx hn a1,((u1.trans a2).trans t1).trans qd,by simp only[Ah];omega,?_⟩;rw[E9];simp[Dr];omega
        .cases h
      .cases h;refine⟨.name hn,qd,by simp,?_⟩;rw[E9];simp only[Dr,show((2:Int)=1)=False from eq_false (by omega),if_false,if_true];omega
     .split at h
      .split at h
       .cases h
       .rename_i y q hy;obtain⟨a1,a2,a3,a4⟩:=qm _ _ _ _ qq hy
        split at h
        .rename_i qB;obtain⟨u1,u2,u3⟩:=Lu (C:=C) qB;cases h;exact⟨a1,(u1.trans a2).trans qd,by simp only[Ah];omega,by omega⟩
        .cases h
      .cases h
/-! scanning gives right tokens -/
def Uu:∀ (n:Nat) (ln:Int) (l:List UInt8) (ts:List Tk),C0 n ln l=some ts->Dv ts
 | n,ln,[],ts,h=>by
  have:C0 n ln []=some []:=by cases n<;>rfl
  rw[this]at h;cases h;intro t ht;cases ht
 | 0,ln,c::r,ts,h=>by cases h
 | n+1,ln,c::r,ts,h=>by
  rw[C0]at h
  split at h
  .exact Uu n _ _ _ h
  .split at h
   .exact Uu n _ _ _ h
   .split at h
    .exact Uu n _ _ _ h
    .split at h
     .cases h
     .rename_i k w hf;simp only[Bo]at h;obtain⟨l,hl,rfl⟩:=h;intro t ht;rcases Bi.1 ht with rfl | ht
      .rw[Nh]at hf;simp only
       split at hf
       .rename_i hc
        split at hf
        .cases hf
        .rename_i qu;cases hf;refine⟨fun hk=>?_,fun hk=>?_⟩
         .split at hk
          .cases hk
          .rename_i qP;refine Aqj (by simp[El]) (by omega) (by simpa using qP) fun j hj=>?_
           have qN:∀ d∈El c r,Gw d=true:=fun d hd=>by
            rcases Bi.1 hd with rfl | hd
            .exact(Af4 hc).2.2.2
            .exact Ab5 hd
           cases j with
           | zero=>
            have h1:J7 c.toNat=true:=hc;simp[Nc,El,h1]
           | succ j=>
            have hm:((El c r).getD (j+1) 0)∈El c r:=by rw[Au,A2 hj];exact Fj _
            have hi:=qN _ hm;unfold Gw Jj at hi;unfold Nc;simp only[Ij,Af,decide_eq_true_eq]at hi ⊢;rcases hi with h | h | h
            .exact .inl h
            .exact .inr ⟨by omega,.inr h⟩
            .exact .inr ⟨by omega,.inl h⟩
         .split at hk<;>cases hk
       .split at hf
        .rename_i hc
         split at hf
         .cases hf
         .split at hf
          .rename_i qH;cases hf;refine⟨(fun hk=>by cases hk),fun _=>?_⟩
           have hd:I0 (Ee c r):=fun d hd=>by
            rcases Bi.1 hd with rfl | hd
            .exact hc
            .exact Ab5 hd
           rw[Aes hd]at qH;have hv:=of_decide_eq_true qH;have:=Afg hd hv;unfold Ee at hv ⊢;rw[this];omega
          .cases hf
        .split at hf
         .cases hf
         .cases hf;exact⟨(fun hk=>by cases hk),(fun hk=>by cases hk)⟩
      .exact Uu n _ _ _ hl t ht
/-! statements -/
def Y3(C:Nat)(ts r:List Tk):Prop:=r <:+ ts/\r.length+1=ts.length/\wt C ts=C+wt C r
def Am4(C:Nat)(t:Tk)(r:List Tk):Y3 C (t::r) r:=⟨Rn t r,rfl,R8 C t r⟩
def Rw{C:Nat}{ts r:List Tk}{nm:List UInt8}(ht:Dv ts)(h:C4 ts=some (nm,r)):Bv nm=true/\Y3 C ts r:=by
 cases ts with
 | nil=>cases h
 | cons t ts=>
  unfold C4 at h;simp only at h
  split at h
  .rename_i hk;cases h;exact⟨(ht t Cx).1 hk,Am4 C t _⟩
  .cases h
def K3{C:Nat}{s:List UInt8}{ts r:List Tk}(h:Dn s ts=some r):Y3 C ts r:=by
 unfold Dn at h
 split at h
 .rename_i hs;cases h;obtain⟨h1,h2,h3⟩:=Lu (C:=C) hs;exact⟨h1,h2,h3⟩
 .cases h
def Aaz{C:Nat}{ts r:List Tk}{n:Int}(ht:Dv ts)(h:Gb ts=some (n,r)):(0<=n/\n<=9223372036854775807)/\Y3 C ts r:=by
 cases ts with
 | nil=>cases h
 | cons t ts=>
  unfold Gb at h;simp only at h
  split at h
  .rename_i hk;cases h;exact⟨(ht t Cx).2 hk,Am4 C t _⟩
  .cases h
def Aed:∀ {l:List (List UInt8 × Int)} {s:List UInt8} {v:Int},l.lookup s=some v->∃ a,(a,v)∈l
 | [],_,_,h=>by cases h
 | (a,w)::l,s,v,h=>by
  rw[Zo]at h
  split at h
  .cases h;exact⟨a,Cx⟩
  .obtain⟨b,hb⟩:=Aed h;exact⟨b,Cs _ hb⟩
def Am5(s:List UInt8):D0 s=0\/(2<=D0 s/\D0 s<=15):=by
 unfold D0
 cases h:wordTab.lookup s with
 | none=>exact .inl rfl
 | some v=>
  obtain⟨a,ha⟩:=Aed h;have:(wordTab.all fun p=>decide (2<=p.2/\p.2<=15))=true:=by decide
  exact .inr (of_decide_eq_true (Bh.1 this (a,v) ha))
def Am6(s:List UInt8):F7 s=0\/(1<=F7 s/\F7 s<=6):=by
 unfold F7
 cases h:declTab.lookup s with
 | none=>exact .inl rfl
 | some v=>
  obtain⟨a,ha⟩:=Aed h;have:(declTab.all fun p=>decide (1<=p.2/\p.2<=6))=true:=by decide
  exact .inr (of_decide_eq_true (Bh.1 this (a,v) ha))
def L7(s:Sp):Nat:=if Dy s.op then s.ex.txt.length else 0
def A2o(op:Int):(Cj op).length<=11:=by
 unfold Cj
 split<;>simp
def A2p(s:Sp):(Cm s).length<=20+s.nm.length+s.arg.length+(E7 s.idx).length+L7 s:=by
 have hw:=A2o s.op;unfold Cm L7 Dy;by_cases h1:s.op=1
 .simp[h1];omega
 by_cases h2:s.op=2
 .rw[h2]at hw;simp[h2];omega
 by_cases h3:s.op=3
 .rw[h3]at hw;simp[h3];omega
 by_cases qp:s.op=14
 .rw[qp]at hw;simp[qp];omega
 rw[if_neg h1,if_neg (by omega)]
 split
 .omega
 .try rw[if_neg qp]
  split
  .simp;omega
  .simp;omega
def A6w(d:Nat)(s:Sp):(s.txt d).length<=6*d+40+s.nm.length+s.arg.length+(E7 s.idx).length+L7 s+(if Bn s.op then(Sp.txts (d+1) s.body).length+(Sp.txts (d+1) s.els).length else 0):=by
 have hh:=A2p s;rw[K6]
 have h5:(if s.els.isEmpty=true then [] else D6 d++125::32::101::108::115::101::32::123::10::Sp.txts (d+1) s.els).length<=2*d+9+(Sp.txts (d+1) s.els).length:=by
  split
  .simp
  .simp[Ja];omega
 cases Bn s.op
 .simp only[Aj,Ja,Ez,if_false,Ah,C8];omega
 .simp only[Aj,Ja,if_true,Ah,C8];omega
def SQ(M C:Nat)(ts:List Tk)(s:Sp)(r:List Tk):Prop:=ShS s/\r <:+ ts/\r.length<ts.length/\s.sz+r.length<=ts.length/\∀ d,d+ts.length<=M->(s.txt d).length+wt C r<=wt C ts
def LQ(M C:Nat)(ts:List Tk)(l:List Sp)(r:List Tk):Prop:=(∀ s∈l,ShS s)/\r <:+ ts/\r.length<ts.length/\Sp.szs l+r.length<ts.length/\∀ d,d+ts.length<=M->(Sp.txts d l).length+wt C r<=wt C ts
def Qy{M C:Nat}(hC:100+8*M<=C){ts r:List Tk}{s:Sp}(hs:ShS s)(h1:r <:+ ts)(h2:r.length<ts.length)(h3:Sp.szs s.body+Sp.szs s.els+1+r.length<=ts.length)
  (h4:∀ d,d+ts.length<=M->C+(E7 s.idx).length+L7 s+((Sp.txts (d+1) s.body).length+(Sp.txts (d+1) s.els).length)+wt C r<=wt C ts):SQ M C ts s r:=by
 refine⟨hs,h1,h2,by rw[Lw];omega,fun d hd=>?_⟩;have h5:=h4 d hd;have h6:=A6w d s
 have h7:s.nm.length<=12/\s.arg.length<=12:=by
  cases hs with
  | mk a1 a2 a3 a4 a5 _ _ _ _ _ _ _ _ _=>
   constructor
   .cases hn:Ft s.op
    .exact Sn (a3 hn)
    .rw[a2 hn];exact A0 _
   .by_cases ha:s.op=15
    .exact Sn (a4 ha)
    .rw[a5 ha];exact A0 _
 have h8:(if Bn s.op then(Sp.txts (d+1) s.body).length+(Sp.txts (d+1) s.els).length else 0)<=(Sp.txts (d+1) s.body).length+(Sp.txts (d+1) s.els).length:=by
  split
  .exact Ai _
  .exact A0 _
 omega
def Aun{M C:Nat}(hC:100+8*M<=C){n:Nat}{line:Int}{ts:List Tk}{s:Sp}{r:List Tk}(ht:Dv ts)(h:Ph n line ts=some (s,r)):SQ M C ts s r:=by
 unfold Ph at h
 split at h
 .cases h
 rename_i nm t1 hn;obtain⟨n1,n2,n3,n4⟩:=Rw (C:=C) ht hn;have qj:=C9 ht n2
 split at h
 .cases h
 rename_i ix t2 hi
 have qO:ix.length<=1/\(∀ x∈ix,ShE x)/\t2 <:+ t1/\t2.length<=t1.length/\(E7 ix).length+wt C t2<=wt C t1:=by
  unfold Yv at hi
  split at hi
  .rename_i hs;obtain⟨u1,u2,u3⟩:=Lu (C:=C) hs
   split at hi
   .cases hi
   .rename_i x q hx;obtain⟨a1,a2,a3,a4⟩:=(Uk (C:=C) (by omega) n).1 _ _ _ _ (C9 qj u1) hx;simp only[Bo]at hi;obtain⟨q',hq,hi⟩:=hi;cases hi;obtain⟨b1,b2,b3⟩:=K3 (C:=C) hq;have:=Amp [x];simp only at this;exact⟨by simp,by simpa using a1,(b1.trans a2).trans u1,by omega,by omega⟩
  .cases hi;exact⟨by simp,by simp,Adt _,Ai _,by simp[E7]⟩
 obtain⟨i1,i2,i3,i4,i5⟩:=qO;have qC:=C9 qj i3
 split at h
 .cases h
 rename_i t3 h3;obtain⟨c1,c2,c3⟩:=K3 (C:=C) h3;have qS:=C9 qC c1
 split at h
 .cases h
 rename_i x t4 hx;obtain⟨a1,a2,a3,a4⟩:=(Uk (C:=C) (by omega) n).1 _ _ _ _ qS hx;simp only[Bo]at h;obtain⟨t5,h5,h⟩:=h;cases h;obtain⟨d1,d2,d3⟩:=K3 (C:=C) h5;refine Qy hC (.mk ⟨by simp[Al],by simp[Al]⟩ (by simp[Al,Ft]) (fun _=>n1) (by simp[Al]) (by simp[Al]) i1 (by simp[Al]) i2 (fun _=>a1) (by simp[Al,Dy]) (by simp[Al]) (by simp[Al]) (by simp[Al]) (by simp[Al])) ((((d1.trans a2).trans c1).trans i3).trans n2) (by omega) (by simp[Al,Sp.szs];omega) fun d hd=>?_
 simp only[Al,L7,Dy,Sp.txts,C8];simp;omega
def Aa0{M C:Nat}(hC:100+8*M<=C):∀ n,(∀ ts s r,Dv ts->Fh n ts=some (s,r)->SQ M C ts s r)/\(∀ ts l r,Dv ts->Eu n ts=some (l,r)->LQ (M+1) C ts l r)/\(∀ ts l r,Dv ts->Hv n ts=some (l,r)->LQ M C ts l r)
 | 0=>⟨fun _ _ _ _ h=>by simp[Fh]at h,fun _ _ _ _ h=>by simp[Eu]at h,fun _ _ _ _ h=>by simp[Hv]at h⟩
 | n+1=>by
  obtain⟨qm,qg,qw⟩:=Aa0 hC n;refine⟨fun ts s r ht h=>?_,fun ts l r ht h=>?_,fun ts l r ht h=>?_⟩
  .cases ts with
   | nil=>simp[Fh]at h
   | cons t ts=>
    have hw:=R8 C t ts;have qd:=Rn t ts;have qq:=C9 ht qd;rw[Fh]at h
    split at h
    .exact Aun hC ht h
    split at h
    rotate_left
    .cases h
    have hr:=Am5 t.text;generalize D0 t.text=w at h hr
    split at h
    .cases h
    split at h
    .rename_i qk
     split at h
     .cases h
     rename_i x t1 hx;obtain⟨a1,a2,a3,a4⟩:=(Uk (C:=C) (by omega) n).1 _ _ _ _ qq hx;have qj:=C9 qq a2
     split at h
     .cases h
     rename_i b t2 hb;obtain⟨b1,b2,b3,b4,b5⟩:=qg _ _ _ qj hb;have qC:=C9 qj b2
     split at h
     .rename_i qU;obtain⟨rfl,hs⟩:=qU;obtain⟨u1,u2,u3⟩:=Lu (C:=C) hs
      split at h
      .cases h
      rename_i e t3 he;obtain⟨e1,e2,e3,e4,e5⟩:=qg _ _ _ (C9 qC u1) he;cases h;refine Qy hC (.mk ⟨by simp[Al],by simp[Al]⟩ (by simp[Al]) (by simp[Al,Ft]) (by simp[Al]) (by simp[Al]) (by simp[Al]) (by simp[Al]) (by simp[Al]) (fun _=>a1) (by simp[Al,Dy]) (by simp[Al,Bn]) (by simp[Al]) b1 e1) ((((e2.trans u1).trans b2).trans a2).trans qd) (by simp only[Ah];omega) (by simp only[Ah];omega) fun d hd=>?_
      rw[Ah]at hd;have:=b5 (d+1) (by omega);have:=e5 (d+1) (by omega);simp only[Al,L7,Dy,E7,C8];simp;omega
     .cases h;refine Qy hC (.mk (by simp only[Al];omega) (by simp[Al]) (by rcases qk with rfl | rfl<;>simp[Al,Ft]) (by simp[Al];omega) (by simp[Al]) (by simp[Al]) (by simp[Al]) (by simp[Al]) (fun _=>a1) (by rcases qk with rfl | rfl<;>simp[Al,Dy]) (by rcases qk with rfl | rfl<;>simp[Al,Bn]) (by simp[Al]) b1 (by simp[Al])) ((b2.trans a2).trans qd) (by simp only[Ah];omega) (by simp only[Al,Ah,Sp.szs];omega) fun d hd=>?_
      rw[Ah]at hd;have:=b5 (d+1) (by omega)
      have:Dy w=true:=by rcases qk with rfl | rfl<;>rfl
      simp only[Al,L7,this,E7,C8,if_true,Sp.txts];omega
    .split at h
     .rename_i ql
      split at h
      .cases h
      rename_i b t2 hb;obtain⟨b1,b2,b3,b4,b5⟩:=qg _ _ _ qq hb;cases h;refine Qy hC (.mk (by simp only[Al];omega) (by simp[Al]) (by rcases ql with rfl | rfl<;>simp[Al,Ft]) (by simp[Al];omega) (by simp[Al]) (by simp[Al]) (by simp[Al]) (by simp[Al]) (by rcases ql with rfl | rfl<;>simp[Al,Dy]) (fun _=>⟨rfl,rfl,rfl,rfl⟩) (by rcases ql with rfl | rfl<;>simp[Al,Bn]) (by simp[Al]) b1 (by simp[Al])) (b2.trans qd) (by simp only[Ah];omega) (by simp only[Al,Ah,Sp.szs];omega) fun d hd=>?_
      rw[Ah]at hd;have:=b5 (d+1) (by omega)
      have:Dy w=false:=by rcases ql with rfl | rfl<;>rfl
      simp only[Al,L7,this,E7,C8,Ez,if_false,Sp.txts];omega
     .split at h
      .cases h
      rename_i nm t1 hn;obtain⟨n1,n2,n3,n4⟩:=Rw (C:=C) qq hn;have qj:=C9 qq n2
      split at h
      .rename_i qe
       split at h
       .cases h
       rename_i b t2 hb;obtain⟨b1,b2,b3,b4,b5⟩:=qg _ _ _ qj hb;cases h;refine Qy hC (.mk (by simp only[Al];omega) (by rcases qe with rfl | rfl | rfl<;>simp[Al,Ft]) (fun _=>n1) (by simp[Al];omega) (by simp[Al]) (by simp[Al]) (by simp[Al]) (by simp[Al]) (by rcases qe with rfl | rfl | rfl<;>simp[Al,Dy]) (fun _=>⟨rfl,rfl,rfl,rfl⟩) (by rcases qe with rfl | rfl | rfl<;>simp[Al,Bn]) (by simp[Al]) b1 (by simp[Al])) ((b2.trans n2).trans qd) (by simp only[Ah];omega) (by simp only[Al,Ah,Sp.szs];omega) fun d hd=>?_
       rw[Ah]at hd;have:=b5 (d+1) (by omega)
       have:Dy w=false:=by rcases qe with rfl | rfl | rfl<;>rfl
       simp only[Al,L7,this,E7,C8,Ez,if_false,Sp.txts];omega
      .split at h
       .rename_i qD;subst qD
        split at h
        .cases h
        rename_i x t2 hx;obtain⟨a1,a2,a3,a4⟩:=(Uk (C:=C) (by omega) n).1 _ _ _ _ qj hx;simp only[Bo]at h;obtain⟨t3,h3,h⟩:=h;cases h;obtain⟨d1,d2,d3⟩:=K3 (C:=C) h3;refine Qy hC (.mk ⟨by simp[Al],by simp[Al]⟩ (by simp[Al,Ft]) (fun _=>n1) (by simp[Al]) (by simp[Al]) (by simp[Al]) (by simp[Al]) (by simp[Al]) (fun _=>a1) (by simp[Al,Dy]) (by simp[Al]) (by simp[Al]) (by simp[Al]) (by simp[Al])) (((d1.trans a2).trans n2).trans qd) (by simp only[Ah];omega) (by simp only[Al,Ah,Sp.szs];omega) fun d hd=>?_
        simp only[Al,L7,Dy,E7,C8,Sp.txts];simp;omega
       .split at h
        .rename_i qE;subst qE
         split at h
         .cases h
         rename_i ar t2 ha;obtain⟨a1,a2,a3,a4⟩:=Rw (C:=C) qj ha;simp only[Bo]at h;obtain⟨t3,h3,h⟩:=h;cases h;obtain⟨d1,d2,d3⟩:=K3 (C:=C) h3;refine Qy hC (.mk ⟨by simp[Al],by simp[Al]⟩ (by simp[Al,Ft]) (fun _=>n1) (fun _=>a1) (by simp[Al]) (by simp[Al]) (by simp[Al]) (by simp[Al]) (by simp[Al,Dy]) (fun _=>⟨rfl,rfl,rfl,rfl⟩) (by simp[Al]) (by simp[Al]) (by simp[Al]) (by simp[Al])) (((d1.trans a2).trans n2).trans qd) (by simp only[Ah];omega) (by simp only[Al,Ah,Sp.szs];omega) fun d hd=>?_
         simp only[Al,L7,Dy,E7,C8,Sp.txts];simp;omega
        .simp only[Bo]at h;obtain⟨t3,h3,h⟩:=h;cases h;obtain⟨d1,d2,d3⟩:=K3 (C:=C) h3;have qF:w=9\/w=10\/w=11\/w=12\/w=13:=by omega
         refine Qy hC (.mk (by simp only[Al];omega) (by rcases qF with rfl | rfl | rfl | rfl | rfl<;>simp[Al,Ft]) (fun _=>n1) (by simp[Al];omega) (by simp[Al]) (by simp[Al]) (by simp[Al]) (by simp[Al]) (by rcases qF with rfl | rfl | rfl | rfl | rfl<;>simp[Al,Dy]) (fun _=>⟨rfl,rfl,rfl,rfl⟩) (by simp[Al]) (by simp[Al]) (by simp[Al]) (by simp[Al])) ((d1.trans n2).trans qd) (by simp only[Ah];omega) (by simp only[Al,Ah,Sp.szs];omega) fun d hd=>?_
         have:Dy w=false:=by rcases qF with rfl | rfl | rfl | rfl | rfl<;>rfl
         simp only[Al,L7,this,E7,C8,Ez,if_false,Sp.txts];omega
  .rw[Eu]at h
   split at h
   .rename_i hs;obtain⟨u1,u2,u3⟩:=Lu (C:=C) hs;obtain⟨b1,b2,b3,b4,b5⟩:=qw _ _ _ (C9 ht u1) h;exact⟨b1,b2.trans u1,by omega,by omega,fun d hd=>by have:=b5 d (by omega);omega⟩
   .cases h
  .rw[Hv]at h
   split at h
   .rename_i hs;obtain⟨u1,u2,u3⟩:=Lu (C:=C) hs;cases h;exact⟨by simp,u1,by omega,by simp only[Sp.szs];omega,fun d hd=>by simp only[Sp.txts,C8];omega⟩
   .split at h
    .cases h
    rename_i s t1 hs;obtain⟨a1,a2,a3,a4,a5⟩:=qm _ _ _ ht hs
    split at h
    .cases h
    rename_i l' t2 hl;obtain⟨b1,b2,b3,b4,b5⟩:=qw _ _ _ (C9 ht a2) hl;cases h;refine⟨fun x hx=>?_,b2.trans a2,by omega,by rw[Sp.szs];omega,fun d hd=>?_⟩
    .rcases Bi.1 hx with rfl | hx
     .exact a1
     .exact b1 x hx
    .have:=a5 d hd;have:=b5 d (by omega);rw[Ml,Aj];omega
