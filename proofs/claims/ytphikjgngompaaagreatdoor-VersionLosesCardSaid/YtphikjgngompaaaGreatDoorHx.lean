/- Rows of programs: lengths, settled cells; texts of declarations. -/
import Derived.Test.YtphikjgngompaaaGreatDoorMi
set_option linter.all false
namespace Go.Proofs.YtphikjgngompaaaGreatDoor.KM
open Go
def Be1(n:Int):(Jp n).length<=24:=by
 have:=Xt n;unfold Jp
 split
 .simp
 .simp only[Ao];omega
def A1y{d:Dp}(h1:d.nm.length<=12)(h2:d.on.length<=12):(De d).length<=80:=by
 have a1:=Be1 d.init;have a2:=Xt d.size
 have a3:(if d.size=0 then [] else 91::(B4 d.size++[93])).length<=23:=by
  split
  .simp
  .simp;omega
 unfold De
 split
 .simp only[Ar,Ao,Di];omega
 split
 .simp only[Ar,Ao,Di];omega
 split
 .simp only[Ar,Ao,Di];omega
 split
 .simp only[Ar,Ao,Di];omega
 split
 .simp only[Ar,Ao,Di];omega
 .simp only[Ar,Ao,Di];omega
def Ar1(a:List UInt8)(l:List (List UInt8)):(Eo (a::l)).length<=a.length+2+(Eo l).length:=by
 cases l with
 | nil=>simp[Eo]
 | cons b l=>simp only[Eo,Ar,Ao];omega
theorem P7{v:V}(h:v.rowB=true):v.cellB=true:=by cases v<;>simp[V.rowB]at h<;>rfl
def Ajg{v:V}(h:v.cellB=true):v.cells=[v]/\[v].all V.cellB=true:=⟨by cases v<;>simp[V.cellB]at h<;>rfl,by simp only[B5,Dd,h];rfl⟩
def Nf(s:List UInt8):List V:=[.str s]
def Ay7{s s':St}{m m' e e' qC n:Nat}{u w:V}{ys:List (List V)}(he:e≠e')(hu:u=.nils\/∃ i g cs,u=.sl i g 0 n m true/\s[i]?=some (.row cs e g 0))(h:GW s m' e' qC w ys)(hf:∀ j,(∀ i g,u=.sl i g 0 n m true->j≠i)->j<s.length->s'[j]?=s[j]?):GW s' m' e' qC w ys:=by
 rcases h with h | ⟨hn,j,g,rfl,ho,qI⟩
 .exact .inl h
 .refine .inr ⟨hn,j,g,rfl,?_,qI⟩;rw[hf j ?_ (Al.1 ho).1]
  .exact ho
  .rintro i g' rfl rfl;rcases hu with hu | ⟨i,g2,cs,hu,hs⟩
   .cases hu
   .cases hu;rw[hs]at ho;cases ho;exact he rfl
def Ay8{s:St}{m e lo:Nat}{u:V}{xs:List (List V)}(h:GW s m e lo u xs):u=.nils\/∃ i g cs,u=.sl i g 0 xs.length m true/\s[i]?=some (.row cs e g 0):=by
 rcases h with⟨h,-⟩ | ⟨-,i,g,h,ho,-⟩
 .exact .inl h
 .exact .inr ⟨i,g,_,h,ho⟩
theorem Vt(z:Bool)(t:Nat)(xs:List (List V)):(SL z t xs).rowB=true:=by
 unfold SL
 split<;>rfl
def Aun(x:Tp):x.row.all V.rowB=true:=by
 unfold Tp.row;simp only[B5,Dd,Vt];rfl
def Aej(D:List Dp):∀ r∈D.map Dp.row,r.length=6:=by intro r hr;obtain⟨x,-,rfl⟩:=Cy.1 hr;rfl
def Aj3(D:List Dp):∀ r∈D.map Dp.row,r.all V.rowB=true:=by intro r hr;obtain⟨x,-,rfl⟩:=Cy.1 hr;rfl
def Ve(D:List Tp):∀ r∈D.map Tp.row,r.length=4:=by intro r hr;obtain⟨x,-,rfl⟩:=Cy.1 hr;rfl
def Aek(D:List Tp):∀ r∈D.map Tp.row,r.all V.rowB=true:=by intro r hr;obtain⟨x,-,rfl⟩:=Cy.1 hr;exact Aun x
def Sk(C:Nat)(ts r:List Tk):Prop:=r <:+ ts/\r.length<=ts.length/\wt C r<=wt C ts
theorem Qi{C:Nat}{ts r:List Tk}(h:One C ts r):Sk C ts r:=⟨h.1,by have:=h.2.1;omega,by have:=h.2.2;omega⟩
theorem Nn{C:Nat}{a b c:List Tk}(h:Sk C a b)(h':Sk C b c):Sk C a c:=⟨h'.1.trans h.1,C9 h'.2.1 h.2.1,C9 h'.2.2 h.2.2⟩
theorem Auo{C:Nat}(a:List Tk):Sk C a a:=⟨List.suffix_refl _,Ak _,Ak _⟩
def An1{s:List UInt8}{ts:List Tk}(C:Nat)(h:Av s ts=true):Sk C ts ts.tail:=by
 obtain⟨h1,h2,h3⟩:=Nu (C:=C) h;exact⟨h1,by omega,by omega⟩
def A91{C:Nat}{ts r:List Tk}{n:Int}(ht:D7 ts)(h:Tv ts=some (n,r)):(0<=n/\n<=9223372036854775807)/\Sk C ts r:=by
 unfold Tv at h
 split at h
 .rename_i hs;have u:=An1 C hs
  split at h
  .cases h
  rename_i m q hq;obtain⟨n1,n2⟩:=Ae0 (C:=C) (Dk ht u.1) hq
  split at h
  .cases h
  simp only[Ck]at h;obtain⟨t3,h3,h⟩:=h;cases h;exact⟨n1,Nn (Nn u (Qi n2)) (Qi (M6 h3))⟩
 grind[Auo]
def Aup{C:Nat}{ts r:List Tk}{n:Int}(ht:D7 ts)(h:Qp ts=some (n,r)):(-9223372036854775808<n/\n<=9223372036854775807)/\Sk C ts r:=by
 unfold Qp at h
 split at h
 .rename_i hs;have u:=An1 C hs
  split at h
  .rename_i qq;have u2:=An1 C qq;simp only[Ck]at h;obtain⟨p,hp,h⟩:=h;obtain⟨m,q⟩:=p;cases h;obtain⟨n1,n2⟩:=Ae0 (C:=C) (Dk (Dk ht u.1) u2.1) hp
   grind[Nn,Qi]
  .obtain⟨n1,n2⟩:=Ae0 (C:=C) (Dk ht u.1) h
   grind[Nn,Qi]
 grind[Auo]
def DQ(C:Nat)(ts:List Tk)(d:Dp)(r:List Tk):Prop:=ShD d/\r <:+ ts/\r.length<ts.length/\(De d).length+2+wt C r<=wt C ts
def Ahj{C:Nat}(hC:100<=C){t:Tk}{ts r:List Tk}{d:Dp}(h:ShD d)(hl:Sk C ts r):DQ C (t::ts) d r:=by
 have h1:=We h.nm
 have h2:d.on.length<=12:=by
  by_cases hk:d.kind=5
  .exact We (h.on.1 hk)
  .rw[h.on.2 hk];grind
 have h3:=A1y h1 h2;have h4:=Vs C t ts;exact⟨h,hl.1.trans (U3 t ts),by have:=hl.2.1;grind,by have:=hl.2.2;omega⟩
def Ap0{C:Nat}(hC:100<=C){ts r:List Tk}{d:Dp}(ht:D7 ts)(hd:Nw ts=true)(h:R3 ts=some (d,r)):DQ C ts d r:=by
 cases ts with
 | nil=>cases h
 | cons t ts=>
  have hk:1<=G8 t.text/\G8 t.text<=6:=by
   simp only[Nw,Ai,bne_iff_ne]at hd;rcases Auj t.text with h | h
   .omega
   .exact h
  have qn:=Dk ht (U3 t ts);rw[R3]at h;generalize G8 t.text=w at h hk
  split at h
  .cases h
  rename_i nm t1 hn;obtain⟨n1,n2⟩:=Vd (C:=C) qn hn;have n2:=Qi n2;have qj:=Dk qn n2.1
  split at h
  .split at h
   .cases h
   rename_i sz t2 hs;obtain⟨s1,s2⟩:=A91 (C:=C) qj hs
   split at h
   .cases h
   rename_i i t3 hi;obtain⟨i1,i2⟩:=Aup (C:=C) (Dk qj s2.1) hi;simp only[Ck]at h;obtain⟨t4,h4,h⟩:=h;cases h;exact Ahj hC ⟨by simp,n1,by grind,⟨i1.1,i1.2,by simp⟩,by simp⟩ (Nn (Nn (Nn n2 s2) i2) (Qi (M6 h4)))
  split at h
  .split at h
   .cases h
   rename_i i t3 hi;obtain⟨i1,i2⟩:=Aup (C:=C) qj hi;simp only[Ck]at h;obtain⟨t4,h4,h⟩:=h;cases h;exact Ahj hC ⟨by simp,n1,by simp,⟨i1.1,i1.2,by simp⟩,by simp⟩ (Nn (Nn n2 i2) (Qi (M6 h4)))
  split at h
  .split at h
   .cases h
   rename_i on t3 hi;obtain⟨i1,i2⟩:=Vd (C:=C) qj hi;simp only[Ck]at h;obtain⟨t4,h4,h⟩:=h;cases h;exact Ahj hC ⟨by simp,n1,by simp,by simp,by grind⟩ (Nn (Nn n2 (Qi i2)) (Qi (M6 h4)))
  .rename_i q1 q2 q5;simp only[Ck]at h;obtain⟨t4,h4,h⟩:=h;cases h;exact Ahj hC ⟨hk,n1,⟨by simp,by simp,fun _=>rfl⟩,⟨by simp,by simp,fun _ _=>rfl⟩,fun h=>absurd h q5,fun _=>rfl⟩ (Nn n2 (Qi (M6 h4)))
def Apt{C:Nat}(hC:100<=C):∀ (n:Nat) (ts:List Tk) (l:List Dp) (r:List Tk),D7 ts->Lm n ts=some (l,r)->(∀ d∈l,ShD d)/\r <:+ ts/\((l.map fun d=>De d++[59,10]).flatten).length+wt C r<=wt C ts
 | 0,ts,l,r,ht,h=>by cases h
 | n+1,ts,l,r,ht,h=>by
  rw[Lm]at h
  split at h
  .rename_i hd
   split at h
   .cases h
   rename_i d q hq;obtain⟨d1,d2,d3,d4⟩:=Ap0 hC ht hd hq
   split at h
   .cases h
   rename_i l' q' qw;obtain⟨e1,e2,e3⟩:=Apt hC n _ _ _ (Dk ht d2) qw
   grind
  grind
def Aqo{C:Nat}(hC:100<=C):∀ (n:Nat) (ts:List Tk) (l:List (List UInt8)) (r:List Tk),D7 ts->Lw n ts=some (l,r)->(∀ s∈l,Bm s=true)/\r <:+ ts/\r.length<ts.length/\(Eo l).length+wt C r<=wt C ts
 | 0,ts,l,r,ht,h=>by cases h
 | n+1,ts,l,r,ht,h=>by
  rw[Lw]at h
  split at h
  .cases h
  rename_i nm t1 hn;obtain⟨n1,n2,n3,n4⟩:=Vd (C:=C) ht hn;have n5:=We n1
  split at h
  .rename_i hs;obtain⟨u1,u2,u3⟩:=Nu (C:=C) hs
   split at h
   .cases h
   rename_i l' q hq;obtain⟨e1,e2,e3,e4⟩:=Aqo hC n _ _ _ (Dk (Dk ht n2) u1) hq;cases h;have:=Ar1 nm l'
   grind
  .simp only[Ck]at h;obtain⟨t4,h4,h⟩:=h;cases h;obtain⟨d1,d2,d3⟩:=M6 (C:=C) h4
   grind[Eo]
def ThQ(M C:Nat)(ts:List Tk)(t:Tp)(r:List Tk):Prop:=Bm t.nm=true/\(∀ s∈t.locals,Bm s=true)/\(∀ s∈t.body,ShS s)/\r <:+ ts/\r.length<ts.length/\Sp.szs t.body<=ts.length/\(Ea t).length+wt C r<=wt C ts
def Aqp{M C:Nat}(hC:100+8*M<=C){n:Nat}{ts r:List Tk}{t:Tp}(ht:D7 ts)(hM:ts.length<=M)(h:Sf n ts=some (t,r)):ThQ M C ts t r:=by
 cases ts with
 | nil=>cases h
 | cons t0 ts=>
  have hw:=Vs C t0 ts;have qA:=U3 t0 ts;have qn:=Dk ht qA;rw[Ao]at hM;rw[Sf]at h
  split at h
  .cases h
  rename_i nm t1 hn;obtain⟨n1,n2,n3,n4⟩:=Vd (C:=C) qn hn;have n5:=We n1;have qj:=Dk qn n2
  split at h
  .cases h
  rename_i t2 h2;obtain⟨c1,c2,c3⟩:=M6 (C:=C) h2;have qB:=Dk qj c1
  split at h
  .cases h
  rename_i l t3 hl
  have qt:(∀ s∈l,Bm s=true)/\t3 <:+ t2/\t3.length<=t2.length/\(Eo l).length+wt C t3<=wt C t2:=by
   unfold Ab8 at hl
   split at hl
   .grind[Nu,Eo]
   .obtain⟨e1,e2,e3,e4⟩:=Aqo (C:=C) AA n _ _ _ qB hl
    grind
  obtain⟨l1,l2,l3,l4⟩:=qt
  split at h
  .cases h
  rename_i b t4 hb;obtain⟨b1,b2,b3,b4,b5⟩:=(Ae1 hC n).2.1 _ _ _ (Dk qB l2) hb;cases h;have:=b5 1 AA;refine⟨n1,l1,b1,(((b2.trans l2).trans c1).trans n2).trans qA,by grind,by grind,?_⟩
  grind[Ea,List.length_cons]
def Ap1{M C:Nat}(hC:100+8*M<=C)(m:Nat):∀ (n:Nat) (ts:List Tk) (l:List Tp) (r:List Tk),D7 ts->ts.length<=M->Lq m n ts=some (l,r) ->
  (∀ t∈l,Bm t.nm=true)/\(∀ t∈l,∀ s∈t.locals,Bm s=true)/\(∀ t∈l,∀ s∈t.body,ShS s)/\(∀ t∈l,Sp.szs t.body<=M)/\((l.map Ea).flatten).length+wt C r<=wt C ts
 | 0,ts,l,r,ht,hM,h=>by cases h
 | n+1,ts,l,r,ht,hM,h=>by
  rw[Lq]at h
  split at h
  .split at h
   .cases h
   rename_i t q hq;obtain⟨d1,d2,d3,d4,d5,d6,d7⟩:=Aqp hC ht hM hq
   split at h
   .cases h
   rename_i l' q' qw;obtain⟨e1,e2,e3,e4,e5⟩:=Ap1 hC m n _ _ _ (Dk ht d4) AA qw
   grind
  grind
def Xm:∀ (n:Nat) (ln:Int) (l:List UInt8) (ts:List Tk),C2 n ln l=some ts->ts.length<=l.length
 | n,ln,[],ts,h=>by
  simp_all [C2]
 | 0,ln,c::r,ts,h=>by cases h
 | n+1,ln,c::r,ts,h=>by
  rw[C2]at h
  split at h
  .have:=Xm n _ _ _ h
   grind
  .split at h
   .have:=Xm n _ _ _ h
    grind
   .split at h
    .have h1:=Xm n _ _ _ h
     grind[Aa2]
    .split at h
     .cases h
     .rename_i k w hf;simp only[Ck]at h;obtain⟨l,hl,rfl⟩:=h;obtain⟨h1,q,h2⟩:=Z1 hf;have h3:=Xm n _ _ _ hl
      grind
def Ap2{s:List UInt8}{p:Gp}(h:Jh s=some p):ShG p/\(Fd p).length<=1000000000/\∀ t∈p.thrs,Sp.szs t.body<=4096:=by
 unfold Jh at h
 split at h
 .cases h
 rename_i hs
 split at h
 .cases h
 rename_i ts ht;have hl:=Xm _ _ _ _ ht;have qz:=Xw _ _ _ _ ht
 split at h
 rotate_left
 .cases h
 rename_i p' hp;cases h;unfold V9 at hp
 split at hp
 .cases hp
 rename_i ds r hd;obtain⟨d1,d2,d3⟩:=Apt (C:=100+8*4096) AA _ _ _ _ qz hd
 split at hp
 .cases hp
 rename_i l r2 qK;obtain⟨t1,t2,t3,t4,t5⟩:=Ap1 (M:=4096) (C:=100+8*4096) (Ak _) _ _ _ _ _ (Dk qz d2) (by grind) qK
 split at hp
 .cases hp
 rename_i qf;cases hp;refine⟨⟨d1,t1,t2,t3,by grind⟩,?_,t4⟩
 grind[Fd,wt]
/-! programs that are equal apart from lines have one text -/
def Auq:∀ {l l':List Xp},Ji l l'=true->E7 l=E7 l'
 | [],[],_=>rfl
 | x::l,y::l',h=>by
  simp only[Ji,Ai]at h;simp only[E7,(Aei x y h.1).2.2]
 | [],_::_,h=>by cases h
 | _::_,[],h=>by cases h
mutual
theorem Be2:∀ (s s':Sp),Ty s s'=true->∀ d,s.txt d=s'.txt d
 | ⟨op,line,nm,arg,iz,it,idx,ex,bz,bt,body,ez,et,els⟩,⟨op',line',nm',arg',iz',it',idx',ex',bz',bt',body',ez',et',els'⟩,h,d=>by
  simp only[Ty,Ai,beq_iff_eq]at h;obtain⟨rfl,rfl,rfl,hx,hi,hb,he⟩:=h;have h1:=(Aei ex ex' hx).2.2;have h2:=Auq hi;have h3:=Akz body body' hb (d+1);have h4:=Akz els els' he (d+1)
  simp_all [Ns,Cq]
theorem Akz:∀ (l l':List Sp),Mf l l'=true->∀ d,Sp.txts d l=Sp.txts d l'/\l.isEmpty=l'.isEmpty
 | [],[],_,d=>⟨rfl,rfl⟩
 | x::l,y::l',h,d=>by
  simp only[Mf,Ai]at h;rw[Ou,Ou,Be2 x y h.1 d,(Akz l l' h.2 d).1]
  grind
 | [],_::_,h,_=>by cases h
 | _::_,[],h,_=>by cases h
end
def A6c{x:Sp}(h:CnS x)(d:Nat)(D:Int)(g0:max D 0=(d:Int))(hl:(x.txt d).length<=10000000000000)(hd:d+x.sz<=1073741823):Fn TT PT 130 [.agg x.row,iV D] (.str (x.txt d)):=by
 have qg:=Hc x;refine Bj T130 rfl ?_
 have w0:WB [.row x.row 103 0 0,.row [.nilp,.nils] 218 0 0] [.row x.row 103 0 0,.row [.nilp,.nils] 218 0 0] 1 []:=by
  refine At9 (u:=.nils) ⟨.nilp,rfl,.inl rfl,Ds⟩ ?_;exact Jd (Jg (s:=[]) (fun _ h=>by cases h) qg) AU
 obtain⟨s1,q1,v1⟩:=A9r h _ 1 [] d w0 (by simpa using hl) hd;obtain⟨s2,qq⟩:=Ayz v1;rw[Be]at qq;have qi:=Fk x;rw[qi]at q1 qg ⊢;simp only[go_sem,g0];refine Cb q1 ?_;simp only[go_sem];refine Ig (.spec T162 rfl rfl qq) ?_;simp only[go_sem];exact F7 rfl
def A92{x:Sp}(h:CnS x)(d:Nat)(hl:(x.txt d).length<=10000000000000)(hd:d+x.sz<=1073741823):Fn TT PT 130 [.agg x.row,iV (d:Int)] (.str (x.txt d)):=A6c h d _ AA hl hd
def TS(s:St)(b:Nat):Prop:=∃ (z:Bool) (t:Nat) (l:List UInt8) (qa:Nat),s[b]?=some (.row [SL z t (B6 l),iV (qa:Int)] 94 0 0)/\qa<=l.length/\l.length<=9223372036854775807
def TW(s σ:St)(b:Nat):Prop:=s.length<=σ.length/\(∀ i,i<s.length->i≠b->σ[i]?=s[i]?)/\TS σ b/\b<s.length
def Pk{s:St}{b:Nat}(h:TS s b):b<s.length:=by
 obtain⟨z,t,l,a,h,-⟩:=h;exact(Al.1 h).1
def Be3{s:St}{b:Nat}(h:TS s b):TW s s b:=⟨Ak _,fun _ _ _=>rfl,h,Pk h⟩
def Be4{s l:St}{b:Nat}(h:TS s b):TS (s++l) b:=by
 obtain⟨z,t,r,a,h,h'⟩:=h;exact⟨z,t,r,a,Bs h,h'⟩
theorem Aqq{z:Bool}{t:Nat}{l:List UInt8}{a:Int}{T:Nat}:(Ob.row [SL z t (B6 l),iV a] T 0 0).refs=[]:=by
 unfold SL
 split<;>rfl
def Ay9{T:Nat->Option AF}{pr:Nat->Option (List V->Option V)}{f p:Nat}{res:List AR}{thr:Bool}{body:AC}{vs:List V}{σ:St}{R:V->St->Prop}(hT:T f=some ⟨p,res,thr,body,none⟩)(hl:vs.length=p)
  (h:W T pr [.c body] (C6 0 vs) σ (Hd fun e' σ1=>∃ v,Cd e' σ1 res=some v/\(Cg v=true/\v.refs=[])/\(∀ i ob,i<σ.length->σ1[i]?=some ob->σ[i]?=some ob\/En σ.length [] ob.refs=true)/\R v (σ1.take σ.length))):∃ v σ',Bx T pr f vs σ v σ'/\R v σ':=by
 obtain⟨e',σ1,hE,v,hr,⟨h1,h2⟩,h3,h4⟩:=h;exact⟨v,_,⟨_,hT,rfl,.fn hT rfl hl hE hr h1 (by rw[h2];rfl) h3⟩,h4⟩
def Be5{s σ:St}{b:Nat}(h:TW s σ b):∀ i ob,i<s.length->σ[i]?=some ob->s[i]?=some ob\/En s.length [] ob.refs=true:=by
 intro i ob hi ho;by_cases hb:i=b
 .subst hb;obtain⟨z,t,l,a,h1,-⟩:=h.2.2.1;rw[ho]at h1;cases h1;exact .inr (by rw[Aqq];rfl)
 .rw[h.2.1 i hi hb]at ho;exact .inl ho
def Sl(l:List UInt8)(a n:Nat):Nat:=if a<l.length/\1<=n then((l[a]?).getD 0).toNat % n else 0
def Wu(l:List UInt8)(a n:Nat):Nat:=if a<l.length/\1<=n then a+1 else a
theorem O6{s:St}{b:Nat}{x:Ob}(h:s[b]?=some x):s.set b x=s:=by
 refine W0 fun i=>?_
 by_cases hi:b=i
 .subst hi;rw[Cm (Al.1 h).1,h]
 .rw[Cc hi]
def Aw7{s:St}{b t:Nat}{z:Bool}{l:List UInt8}{qa:Nat}(hs:s[b]?=some (.row [SL z t (B6 l),iV (qa:Int)] 94 0 0))(h1:qa<=l.length)(h2:l.length<=9223372036854775807)(n:Nat)(hn:n<=1000000000):
  Bx TT PT 40 [.ptr b 0 0,iV (n:Int)] s (iV (Sl l qa n:Int)) (s.set b (.row [SL z t (B6 l),iV (Wu l qa n:Int)] 94 0 0)):=by
 have hw:TW s s b:=Be3 ⟨z,t,l,qa,hs,h1,h2⟩;have qo:(B6 l).length=l.length:=by simp[B6]
 suffices hh:∃ v s',Bx TT PT 40 [.ptr b 0 0,iV (n:Int)] s v s'/\v=iV (Sl l qa n:Int)/\s'=(s.set b (.row [SL z t (B6 l),iV (Wu l qa n:Int)] 94 0 0)) by
  obtain⟨v,s',h3,rfl,rfl⟩:=hh;exact h3
 refine Ay9 T40 rfl ?_
 have qh:¬ (qa<l.length/\1<=n)->iV 0=iV (Sl l qa n:Int)/\s.take s.length=(s.set b (.row [SL z t (B6 l),iV (Wu l qa n:Int)] 94 0 0)):=fun h=>by
  unfold Sl Wu;rw[if_neg h,if_neg h,O6 hs,Db];exact⟨rfl,rfl⟩
 by_cases hg:l.length<=qa
 .have f1:((l.length:Int)<=(qa:Int))=True:=eq_true AA;simp only[go_sem];refine Af AD ?_;simp only[go_sem,hs,qo,f1];exact⟨_,rfl,⟨rfl,rfl⟩,fun i ob _ h=>.inl h,qh AA⟩
 .have f1:((l.length:Int)<=(qa:Int))=False:=eq_false AA;by_cases qS:n<1
  .have f2:((n:Int)<1)=True:=eq_true AA;simp only[go_sem];refine Af AD ?_;simp only[go_sem,hs,qo,f1,f2];exact⟨_,rfl,⟨rfl,rfl⟩,fun i ob _ h=>.inl h,qh AA⟩
  .have f2:((n:Int)<1)=False:=eq_false AA;simp only[go_sem];refine Af AD ?_;simp only[go_sem,hs,qo,f1,f2];have hx:∃ c:UInt8,l[qa]?=some c:=⟨_,Ca AA⟩;obtain⟨c,hc⟩:=hx;have qi:(B6 l)[qa]?=some [.int .u8 (c.toNat:Int)]:=by unfold B6;rw[As,hc];rfl
   have e1:IntKind.i64.wrap ((qa:Int)+1)=((qa+1:Nat):Int):=by rw[Cs AA];rfl
   have qy:=Pk hw.2.2.1;have k1:(s.set b (.row [SL z t (B6 l),iV ((qa+1:Nat):Int)] 94 0 0))[b]?=some (.row [SL z t (B6 l),iV ((qa+1:Nat):Int)] 94 0 0):=by rw[Cm qy]
   have e2:IntKind.i64.wrap (((qa+1:Nat):Int) - 1)=(qa:Int):=by rw[Cs AA];omega
   have f3:((n:Int)=0)=False:=eq_false AA;have qQ:c.toNat<256:=c.toNat_lt;have e3:IntKind.i64.wrap (c.toNat:Int)=(c.toNat:Int):=Cs AA;have e4:((c.toNat:Int).tmod (n:Int))=((c.toNat % n:Nat):Int):=by rw[Int.tmod_eq_emod_of_nonneg AA];rfl
   simp only[go_sem,e1];refine Af AD ?_;simp only[go_sem,k1,e2,qo,qi,f3,not_false_eq_true,e3,e4]
   have qg:TW s (s.set b (.row [SL z t (B6 l),iV ((qa+1:Nat):Int)] 94 0 0)) b:=
    ⟨by simp,fun i hi hb=>by rw[Cc (Ne.symm hb)],⟨z,t,l,qa+1,k1,by omega,h2⟩,qy⟩
   refine⟨_,rfl,⟨rfl,rfl⟩,Be5 qg,?_,?_⟩
   .unfold Sl;rw[if_pos AA,hc];rfl
   .unfold Wu;rw[if_pos AA,Jb AE]
def A93(l:List UInt8)(a n:Nat):(Sl l a n<n\/Sl l a n=0)/\Sl l a n<=255:=by
 unfold Sl
 split
 .rename_i h;have hm:=Ov ((l[a]?).getD 0).toNat (show 0<n by omega);have qR:=Nat.mod_le ((l[a]?).getD 0).toNat n;have:=((l[a]?).getD 0).toNat_lt;omega
 .omega
def Bqb{l:List UInt8}{a:Nat}(n:Nat)(h:a<=l.length):Wu l a n<=l.length:=by
 unfold Wu
 split<;>omega
def Aur{s:St}{b:Nat}(h:TS s b)(n:Nat)(hn:n<=1000000000):∃ (r:Nat) (s':St),Bx TT PT 40 [.ptr b 0 0,iV (n:Int)] s (iV (r:Int)) s'/\TW s s' b/\s'.length=s.length/\(r<n\/r=0)/\r<=255/\∀ z,Bx TT PT 40 [.ptr b 0 0,iV (n:Int)] (s++[z]) (iV (r:Int)) (s'++[z]):=by
 have hb:=Pk h;obtain⟨z,t,l,qa,hs,h1,h2⟩:=h;have hx:=Aw7 hs h1 h2 n hn;obtain⟨b1,b2⟩:=A93 l qa n;refine⟨_,_,hx,⟨by simp,fun i hi hb=>by rw[Cc (Ne.symm hb)],⟨z,t,l,_,Cm hb,Bqb n h1,h2⟩,hb⟩,by simp,b1,b2,fun z'=>?_⟩;have:=Aw7 (Bs (l:=[z']) hs) h1 h2 n hn;rw[Ail _ _ hb]at this;exact this
def Wl{τ:St}{i x t n:Nat}{cs:List V}{e:Env}(h:τ[i]?=some (.row cs t 0 0))(h1:e.get x=.ptr i 0 0)(hn:cs.length=n):Cd e τ [AR.cell x n false]=some (.agg cs):=by
 subst hn;simp only[Cd,Gq,h1,Iz,h];simp[Hr]
def Bkx{cs:List V}(h:Dc (.agg cs)=true):Cg (.agg cs)=true/\(V.agg cs).refs=[]:=⟨Aay h,Xc h⟩
def Mx(nm:List UInt8):Prop:=Bm nm=true/\nm.length<=4
def Aao(l:List (List UInt8))(hl:(l.all fun x=>Bm x&&decide (x.length<=4))=true){j:Nat}(hj:j<l.length):∃ nm,(l.map fun x=>[V.str x])[j]?=some [.str nm]/\Mx nm:=by
 refine⟨l[j],by rw[As,Ca hj];rfl,?_⟩;have:=Bw.1 hl l[j] (Nl _);simp only[Ai,decide_eq_true_eq]at this;exact this
def A94(nm:List UInt8):Fn TT PT 119 [.str nm] (.agg (Xp.row ⟨2,0,nm,true,0,[]⟩)):=by
 refine Bj T119 rfl ?_;simp only[go_sem];exact F7 rfl
def Aw8(op:Int)(a c:Xp):Fn TT PT 118 [iV op,.agg a.row,.agg c.row] (.agg (Xp.row ⟨op,0,[],true,1,[a,c]⟩)):=by
 have ha:=Dw a;have hc:=Dw c;refine Bj T118 rfl ?_;rw[Bi ⟨op,0,[],true,1,[a,c]⟩];simp only[Az,Bz];rw[Bi a,Bi c]at *;simp only[go_sem];exact F7 AB
def EB:Nat->Nat
 | 0=>22
 | d+1=>2*EB d+10
theorem Ahk(d:Nat):22<=EB d:=by
 cases d with
 | zero=>exact Ak _
 | succ d=>
  have:∀ d,22<=EB d:=fun d=>by
   induction d with
   | zero=>exact Ak _
   | succ d ih=>simp only[EB];omega
  exact this (d+1)
def Aw9{d:Nat}(h:d≠0):EB d=2*EB (d - 1)+10:=by
 cases d with
 | zero=>exact absurd rfl h
 | succ d=>rfl
def Axa(op:Int):(B0 op).length<=2:=by
 unfold B0
 split<;>simp
structure MKr (σ:St) (m b:Nat) (uH:V) (H:List (List UInt8)):Prop where
 row:∃ (th left:Int) (se tx ao lp:Bool),σ[m]?=some (mO b th left se tx ao lp uH)
 tape:TS σ b
 ne:m≠b
 h:GS σ 1 9 uH (H.map fun x=>[V.str x])
 hd:∀ j∈uH.refs,j≠m/\j≠b
 cl:Cl σ
theorem Mp{σ:St}{m b:Nat}{uH:V}{H:List (List UInt8)}(h:MKr σ m b uH H):m<σ.length:=by
 obtain⟨_,_,_,_,_,_,hr⟩:=h.row
 grind
def H6{σ:St}{m b:Nat}{uH:V}{H:List (List UInt8)}(h:MKr σ m b uH H):fp σ m=m::(b::uH.refs):=by
 obtain⟨_,_,_,_,_,_,hr⟩:=h.row;rw[Aml hr];simp[Ag,V.refs]
def Ro{σ τ:St}{m b:Nat}{uH:V}{H:List (List UInt8)}(h:MKr σ m b uH H)(hc:Cl τ)(hm:τ[m]?=σ[m]?)(hb:TS τ b)(hk:∀ i∈uH.refs,τ[i]?=σ[i]?):MKr τ m b uH H:=by
 obtain⟨a1,a2,a3,a4,a5,a6,hr⟩:=h.row;exact⟨⟨a1,a2,a3,a4,a5,a6,by grind⟩,hb,h.ne,Ii h.h hk,h.hd,hc⟩
def Aft{σ:St}{m b:Nat}{uH:V}{H:List (List UInt8)}(h:MKr σ m b uH H)(l:St)(hc:Cl (σ++l)):MKr (σ++l) m b uH H/\FW m σ (σ++l):=
 ⟨Ro h hc (Eb (Mp h)) (Be4 h.tape) fun i hi=>Eb (C1 h.h i hi),Alp _ (Mp h)⟩
def Be6{σ τ:St}{b:Nat}(hc:Cl σ)(hw:TW σ τ b)(hl:τ.length=σ.length):Cl τ:=by
 intro ob hm j hj;obtain⟨i,hi,rfl⟩:=Pw hm;by_cases hb:i=b
 .subst hb;obtain⟨z,t,l,a,h1,-⟩:=hw.2.2.1
  grind[Aqq]
 .have h2:=hw.2.1 i AA hb;rw[Ca hi,Ca AA]at h2;rw[Lb h2]at hj;rw[hl];exact hc _ (Nl _) j hj
def Rf{σ:St}{m b:Nat}{uH:V}{H:List (List UInt8)}(h:MKr σ m b uH H)(n:Nat)(N:Int)(hN:N=n)(hn:n<=1000000000):∃ (r:Nat) (σ':St),Bx TT PT 40 [.ptr b 0 0,iV N] σ (iV (r:Int)) σ'/\MKr σ' m b uH H/\FW m σ σ'/\σ'.length=σ.length/\(r<n\/r=0)/\σ'[m]?=σ[m]?:=by
 subst hN;obtain⟨r,σ',h1,h2,h3,h4,-,-⟩:=Aur h.tape n hn;have hf:=H6 h;have km:=h2.2.1 m (Mp h) h.ne;refine⟨r,σ',h1,Ro h (Be6 h.cl h2 h3) km h2.2.2.1 fun i hi=>h2.2.1 i (C1 h.h i hi) (h.hd i hi).2,⟨by omega,fun j hj hn=>h2.2.1 j hj fun e=>hn (by grind),fun j hj=>?_⟩,h3,h4,km⟩
 grind[fp]
def Aza{σ:St}{m b:Nat}{uH:V}{H:List (List UInt8)}(h:MKr σ m b uH H)(th left:Int)(se tx ao lp:Bool):MKr (σ.set m (mO b th left se tx ao lp uH)) m b uH H/\FW m σ (σ.set m (mO b th left se tx ao lp uH)):=by
 have hm:=Mp h;have hf:=H6 h;have qm:Ag [.ptr b 0 0,iV th,iV left,.bool se,.bool tx,.bool ao,.bool lp,uH]=b::uH.refs:=by simp[Ag,V.refs]
 refine⟨⟨⟨th,left,se,tx,ao,lp,Cm hm⟩,?_,h.ne,Ii h.h fun i hi=>Cc (Ne.symm (h.hd i hi).1),h.hd,F8 h.cl fun i hi=>?_⟩,Amm (Alo _ _) hm fun j hj=>?_⟩
 .obtain⟨z,t,l,a,h1,h2⟩:=h.tape;exact⟨z,t,l,a,by rw[Cc h.ne];exact h1,h2⟩
 .simp only[Ob.refs,qm,Bp]at hi;rcases hi with rfl | hi
  .exact Pk h.tape
  .exact C1 h.h i hi
 grind
def Agp{σ τ:St}{m b:Nat}{uH:V}{H:List (List UInt8)}{j:Nat}(h:MKr σ m b uH H)(hj:σ.length<=j):j ∉ fp σ m:=fun hm=>by
 rw[H6 h]at hm;simp only[Bp]at hm;rcases hm with rfl | rfl | hm
 .have:=Mp h;omega
 .have:=Pk h.tape;omega
 .have:=C1 h.h j hm;omega
def Je{σ τ:St}{m j:Nat}{x:Ob}(hw:FW m σ τ)(hj:σ[j]?=some x)(hn:j ∉ fp σ m):τ[j]?=some x/\j ∉ fp τ m:=by
 have hl:=(Al.1 hj).1;refine⟨by rw[hw.2.1 j hl hn];exact hj,fun hm=>?_⟩;rcases hw.2.2 j hm with h2 | h2
 .grind
 .omega
def Agq{T:Nat->Option AF}{pr:Nat->Option (List V->Option V)}{f:Nat}{vs:List V}{σ σ':St}{v:V}(h:Th T pr f vs σ v σ'):Bx T pr f vs σ v σ':=
 let ⟨F,h1,_,h2,h3⟩:=h
 ⟨F,h1,h2,h3⟩
def A6d{j:Nat}(hj:j<6):∃ op:Int,([[iV 6],[iV 7],[iV 8],[iV 11],[iV 13],[iV 17]]:List (List V))[j]?=some [iV op]/\(6<=op/\op<=18):=by
 rcases(show j=0\/j=1\/j=2\/j=3\/j=4\/j=5 by omega) with rfl | rfl | rfl | rfl | rfl | rfl
 .simp_all
 .simp_all
 .simp_all
 .simp_all
 .simp_all
 simp_all
def Be7(n:Int):Fn TT PT 44 [iV n] (.agg (Xp.row ⟨1,n,[],true,0,[]⟩)):=by
 refine Bj T44 rfl ?_;simp only[go_sem];exact F7 rfl
def Ahl(nm:List UInt8):Fn TT PT 119 [.str nm] (.agg [iV 2,iV 0,.str nm,.nils]):=by
 have h:=A94 nm;rw[Bi]at h;exact h
def Ah4(n:Int):Fn TT PT 44 [iV n] (.agg [iV 1,iV n,.str [],.nils]):=by
 have h:=Be7 n;rw[Bi]at h;exact h
def Pv:Nat->Nat
 | 0=>12
 | d+1=>2*Pv d+12
def MX(d:Nat)(x:Xp):Prop:=ShE x/\x.txt.length<=EB d/\C5 x.row<=Pv d
def MXp(d m b:Nat)(uH:V)(H:List (List UInt8))(σ:St):Prop:=∃ v σ',Th TT PT 117 [.ptr m 0 0,iV (d:Int)] σ v σ'/\(∃ x:Xp,v=.agg x.row/\MX d x)/\MKr σ' m b uH H/\FW m σ σ'
theorem Agr(d:Nat):12<=Pv d:=by
 cases d<;>simp[Pv]
def Aus{d:Nat}(h:d≠0):Pv d=2*Pv (d - 1)+12:=by
 cases d with
 | zero=>omega
 | succ d=>rfl
def Aqr{d:Nat}(hd:d<=5)(ih:∀ d',d≠0->d'<=d - 1->∀ σ m b uH H,MKr σ m b uH H->MXp d' m b uH H σ){σ:St}{m b:Nat}{uH:V}{H:List (List UInt8)}(h:MKr σ m b uH H):MXp d m b uH H σ:=by
 have qJ:=Mp h
 suffices hh:∃ v σ',Th TT PT 117 [.ptr m 0 0,iV (d:Int)] σ v σ'/\((∃ x:Xp,v=.agg x.row/\MX d x)/\MKr σ' m b uH H/\FW m σ σ') from hh
 refine Alx T117 rfl ?_;have z0:Cl (σ++[zY]):=Jg h.cl rfl;obtain⟨s1,e1⟩:∃ s1:St,s1=σ++[zY]:=⟨_,rfl⟩;obtain⟨h1,w1⟩:=Aft h [zY] z0;rw[<-e1]at h1 w1;have k1:s1[σ.length]?=some zY:=by rw[e1];simp
 have n1:σ.length ∉ fp s1 m:=fun hm=>by
  rw[H6 h1,<-H6 h]at hm;exact Agp (τ:=σ) h (Ak _) hm
 obtain⟨_,_,_,_,_,_,m1⟩:=h1.row;obtain⟨k,s2,q2,h2,w2,l2,r2,m2⟩:=Rf h1 10 10 rfl AA;have hk:k<10:=by omega
 obtain⟨k2,n2⟩:=Je w2 k1 n1;rw[m1]at m2;have qV:=m2;have qs:=Fu w1 w2;rw[e1]at q2 m1
 have qh:∀ (e:Env) (s:St) (x:Xp),e.get 4=.ptr σ.length 0 0->MX d x->MKr s m b uH H->FW m σ s->s[σ.length]?=some zY->σ.length ∉ fp s m ->
   ∃ v,Cd e (s.set σ.length (.row x.row 101 0 0)) [.cell 4 4 false]=some v/\(Cg v=true/\v.refs=[])/\(σ.length<=(s.set σ.length (.row x.row 101 0 0)).length/\Cl (s.set σ.length (.row x.row 101 0 0)))/\((∃ x:Xp,v=.agg x.row/\MX d x)/\MKr (s.set σ.length (.row x.row 101 0 0)) m b uH H/\FW m σ (s.set σ.length (.row x.row 101 0 0))):=fun e s x he hx hs hw hk hn=>by
  have hl:=(Al.1 hk).1;have hc:Cl (s.set σ.length (.row x.row 101 0 0)):=F8 hs.cl (by simp only[Ob.refs,Z5 (Dw x)];simp);rw[H6 hs]at hn;simp only[Bp,not_or]at hn;refine⟨.agg x.row,Wl (Cm hl) he (A87 x),Bkx (Dw x),⟨by grind,hc⟩,⟨x,rfl,hx⟩,Ro hs hc (Cc hn.1) ?_ (fun i hi=>Cc fun(e:σ.length=i)=>hn.2.2 (by grind)),Ayt hw (Ak _) qJ⟩;obtain⟨z,t,l,a,h1,h2⟩:=hs.tape;exact⟨z,t,l,a,by grind,h2⟩
 simp only[go_sem,m1];refine Aa q2 ?_;have qk:(k<2\/(¬ k<2/\d=0/\7<=k))\/(2<=k/\k<7)\/(d≠0/\k=7)\/(d≠0/\8<=k):=by omega
 rcases qk with hA | hB | hC | hD
 .obtain⟨j,s3,q3,h3,w3,l3,r3,m3⟩:=Rf h2 4 4 rfl AA;obtain⟨k3,n3⟩:=Je w3 k2 n2;rcases hA with h4 | ⟨h4,h0,qP⟩
  case' inl=>have f1:((k:Int)<2)=True:=eq_true AA
  case' inr=>have f1:((k:Int)<2)=False:=eq_false AA
  case' inr=>have f2:((d:Int)==0)=true:=by simp[h0]
  case' inr=>have f3:((7:Int)<=(k:Int))=True:=eq_true AA
  case' inl=>simp only[go_sem,m2,f1]
  case' inr=>simp only[go_sem,m2,f1,f2,f3,ge_iff_le]
  all_goals
   refine Aa q3 ?_;simp only[go_sem];refine Ab (Ah4 _) rfl ?_;simp only[go_sem,k3];have qc:Xp.row ⟨1,j,[],true,0,[]⟩=[iV 1,iV (j:Int),.str [],.nils]:=by rw[Bi];rfl
   rw[<-qc];refine qh _ s3 ⟨1,j,[],true,0,[]⟩ AK ⟨.num AA,?_,?_⟩ h3 (Fu qs w3) k3 n3
   .rw[Ek];have:=Xt (j:Int);have:=Ahk d;simp only[Dt,if_true];omega
   grind[G9,Agr,Cz]
 .obtain⟨j,s3,q3,h3,w3,l3,r3,m3⟩:=Rf h2 7 7 rfl AA;obtain⟨k3,n3⟩:=Je w3 k2 n2;obtain⟨nm,hn,qv⟩:=Aao [[97],[98],[120],[121],[118],[120],[121]] AD (j:=j) (by grind);simp only[Az,Bz]at hn;have f1:((k:Int)<2)=False:=eq_false AA;have f4:((k:Int)<7)=True:=eq_true AA;have f3:((7:Int)<=(k:Int))=False:=eq_false AA;cases f2:((d:Int)==0)
  all_goals
   simp only[go_sem,m2,f1,f2,f3,f4,ge_iff_le];refine Aa q3 ?_;simp only[go_sem,hn];refine Ab (Ahl nm) rfl ?_;simp only[go_sem,k3];have qc:Xp.row ⟨2,0,nm,true,0,[]⟩=[iV 2,iV 0,.str nm,.nils]:=by rw[Bi];rfl
   rw[<-qc];refine qh _ s3 ⟨2,0,nm,true,0,[]⟩ AK ⟨.name qv.1,?_,?_⟩ h3 (Fu qs w3) k3 n3
   .rw[Ek];have:=Ahk d;have:=qv.2;simp only[Dt,show((2:Int)=1)=False from eq_false AA,if_false,if_true];omega
   .rw[G9];have:=Agr d;have:=qv.2
    grind[Cz]
 .obtain⟨qd,rfl⟩:=hC;obtain⟨_,s3,q3,⟨x,rfl,hx⟩,h3,w3⟩:=ih 0 qd AA s2 m b uH H h2;obtain⟨k3,n3⟩:=Je w3 k2 n2;rw[show(((0:Nat):Int))=0 from rfl]at q3;have f2:((d:Int)==0)=false:=by simp[qd]
  have qx:=Dw x;have qr:=Bi x;rw[qr]at q3 qx;simp only[go_sem,m2,f2,C4,Int.reduceBEq,Int.reduceLT];refine Cb q3 ?_;simp only[go_sem,k3];have qc:Xp.row ⟨3,0,[113],true,1,[x]⟩=[iV 3,iV 0,.str [113],.lst 1 [(xR x)]]:=by rw[Bi];simp only[Az,Bz,qr];rfl
  rw[<-qc];refine qh _ s3 ⟨3,0,[113],true,1,[x]⟩ AK ⟨.idx AD hx.1,?_,?_⟩ h3 (Fu qs w3) k3 n3
  .rw[Ek];have:=Aw9 qd;have:=hx.2.1
   grind[EB,Ahk,Dt]
  .rw[G9];have:=Aus qd;have:=hx.2.2
   grind[Pv,Agr,Cz]
 .obtain⟨qd,h8⟩:=hD;obtain⟨j,s3,q3,h3,w3,l3,r3,m3⟩:=Rf h2 6 6 rfl AA;obtain⟨k3,n3⟩:=Je w3 k2 n2;obtain⟨op,ho,qT⟩:=A6d (j:=j) AA;obtain⟨_,s4,q4,⟨x,rfl,hx⟩,h4,w4⟩:=ih (d - 1) qd AA s3 m b uH H h3;obtain⟨k4,n4⟩:=Je w4 k3 n3;obtain⟨_,s5,q5,⟨y,rfl,hy⟩,h5,w5⟩:=ih (d - 1) qd AA s4 m b uH H h4;obtain⟨k5,n5⟩:=Je w5 k4 n4;have f1:((k:Int)<2)=False:=eq_false AA;have f2:((d:Int)==0)=false:=by simp[qd]
  have f4:((k:Int)<7)=False:=eq_false AA;have f5:((k:Int)==7)=false:=by simp;omega
  have e3:IntKind.i64.wrap ((d:Int) - 1)=((d - 1:Nat):Int):=by rw[Cs AA];omega
  have qp:=Aw8 op x y;have qx:=Dw x;have qO:=Dw y;have qr:=Bi x;have qN:=Bi y;have qc:Xp.row ⟨op,0,[],true,1,[x,y]⟩=[iV op,iV 0,.str [],.lst 1 [x.row,y.row]]:=by rw[Bi];rfl
  have qU:=qc;rw[qc]at qp;rw[qr]at q4 qx qp qc;rw[qN]at q5 qO qp qc;simp only[go_sem,m2,f1,f2,f4,f5];refine Af AD ?_;simp only[go_sem,m2];refine Ia q3 ?_;simp only[go_sem,ho];refine wgR ?_;simp only[go_sem,e3];refine Ia (Agq q4) ?_;simp only[go_sem,e3];refine Ia (Agq q5) ?_;simp only[go_sem];refine Bg qp AB ?_;simp only[go_sem,k5];refine Bc ?_;simp only[go_sem];rw[<-qc];refine qh _ s5 ⟨op,0,[],true,1,[x,y]⟩ AK ⟨.bin AA hx.1 hy.1,?_,?_⟩ h5 (Fu qs (Fu w3 (Fu w4 w5))) k5 n5
  .rw[Ek];have:=Aw9 qd;have h2:=(O2 (x.op,x.txt) (Gg op)).2;have qH:=(O2 (y.op,y.txt) (Bf op+1)).2;simp only at h2 qH;have h3:(B0 op).length<=2:=Axa _
   have h0:Dt op 0 [] [(x.op,x.txt),(y.op,y.txt)]=Dg (x.op,x.txt) (Gg op)++32::(B0 op++32::Dg (y.op,y.txt) (Bf op+1)):=by
    unfold Dt;rw[if_neg AA,if_neg AA]
   have:=hx.2.1;have:=hy.2.1
   grind
  .rw[G9];have:=Aus qd;have:=hx.2.2;have:=hy.2.2
   grind[Cz]
def Aut:∀ (d:Nat),d<=5->∀ (d':Nat),d'<=d->∀ (σ:St) (m b:Nat) (uH:V) (H:List (List UInt8)),MKr σ m b uH H->MXp d' m b uH H σ
 | 0,hd,d',hd',σ,m,b,uH,H,h=>by
  obtain rfl:d'=0:=by omega
  exact Aqr hd (fun _ h0 _=>absurd rfl h0) h
 | d+1,hd,d',hd',σ,m,b,uH,H,h=>Aqr AA (fun d2 h0 h2 σ m b uH H h=>Aut d AA d2 AA σ m b uH H h) h
def RO(z:Bool)(t:Nat)(A:List Tk)(p:Nat):Ob:=.row [SL z t (A.map Tk.row),iV (p:Int)] 79 0 0
def Afu(z:Bool)(t:Nat)(A:List Tk)(p:Nat):(RO z t A p).refs=[]:=by
 unfold RO SL
 split<;>rfl
structure RdS (s:St) (m:Nat) (z:Bool) (t:Nat) (A:List Tk) (S:Nat->St):Prop where
 low:m<s.length
 eq:∀ p,S p=s.set m (RO z t A p)
 len:∀ p,(S p).length=s.length
 get:∀ (p:Nat) (l:St),(S p++l)[m]?=some (.row [SL z t (A.map Tk.row),iV (p:Int)] 79 0 0)
 get0:∀ (p:Nat),(S p)[m]?=some (.row [SL z t (A.map Tk.row),iV (p:Int)] 79 0 0)
 set:∀ (p q:Nat) (l:St),(S p++l).set m (.row [SL z t (A.map Tk.row),iV (q:Int)] 79 0 0)=S q++l
 set0:∀ (p q:Nat),(S p).set m (.row [SL z t (A.map Tk.row),iV (q:Int)] 79 0 0)=S q
 n0:∀ (p:Nat) (a:Ob) (l:St),(S p++a::l)[s.length]?=some a
 n1:∀ (p:Nat) (a b:Ob) (l:St),(S p++a::b::l)[s.length+1]?=some b
 n2:∀ (p:Nat) (a b c:Ob) (l:St),(S p++a::b::c::l)[s.length+2]?=some c
 u0:∀ (p:Nat) (a x:Ob) (l:St),(S p++a::l).set s.length x=S p++x::l
 u1:∀ (p:Nat) (a b x:Ob) (l:St),(S p++a::b::l).set (s.length+1) x=S p++a::x::l
 u2:∀ (p:Nat) (a b c x:Ob) (l:St),(S p++a::b::c::l).set (s.length+2) x=S p++a::b::x::l
def Dr{s:St}{m:Nat}{z:Bool}{t:Nat}{A:List Tk}{S:Nat->St}(h:RdS s m z t A S):=And.intro h.len (And.intro h.get (And.intro h.get0 (And.intro h.set (And.intro h.set0 (And.intro h.n0 (And.intro h.n1 (And.intro h.n2 (And.intro h.u0 (And.intro h.u1 (h.u2))))))))))
def Axb{s:St}{m:Nat}(z:Bool)(t:Nat)(A:List Tk)(hm:m<s.length):RdS s m z t A (fun p=>s.set m (RO z t A p)):=by
 have hl:∀ p,(s.set m (RO z t A p)).length=s.length:=fun p=>by simp
 have hs:∀ p q,(s.set m (RO z t A p)).set m (RO z t A q)=s.set m (RO z t A q):=fun p q=>by simp_all
 refine⟨hm,fun _=>rfl,hl,fun p l=>?_,fun p=>?_,fun p q l=>?_,fun p q=>hs p q,fun p a l=>?_,fun p a b l=>?_,fun p a b c l=>?_,fun p a x l=>?_,fun p a b x l=>?_,fun p a b c x l=>?_⟩
 .exact Bs (Cm hm)
 .exact Cm hm
 .rw[Ail _ _ (by grind)];exact congrArg (·++l) (hs p q)
 .grind
 .grind
 .grind
 .simp_all
 .simp_all
 simp_all
def RT(f:Nat)(av:List V)(s:St)(m:Nat)(z:Bool)(t:Nat)(A:List Tk)(R:V->Nat->Prop):Prop:=∃ v p',Bx TT PT f (.ptr m 0 0::av) s v (s.set m (RO z t A p'))/\p'<=A.length/\R v p'
def Mq{z:Bool}{t:Nat}{A:List Tk}{f p m q:Nat}{res:List AR}{thr:Bool}{body:AC}{av:List V}{s:St}{R:V->Nat->Prop}(hT:TT f=some ⟨p,res,thr,body,none⟩)(hl:(V.ptr m 0 0::av).length=p)(hs:s[m]?=some (RO z t A q))
  (h:∀ S,RdS s m z t A S->W TT PT [.c body] (C6 0 (.ptr m 0 0::av)) (S q) (Hd fun e' σ1=>∃ v p' l,Cd e' σ1 res=some v/\(Cg v=true/\v.refs=[])/\σ1=S p'++l/\p'<=A.length/\R v p')):RT f av s m z t A R:=by
 have hm:=(Al.1 hs).1;have h:=h _ (Axb z t A hm);rw[O6 hs]at h;obtain⟨e',σ1,hE,v,p',l,hr,⟨h1,h2⟩,rfl,h3,h4⟩:=h;have qL:(s.set m (RO z t A p')++l).take s.length=s.set m (RO z t A p'):=by rw[Aih AE,Jb AE]
 refine⟨v,p',?_,h3,h4⟩
 have:=Ev.fn hT rfl hl hE hr h1 (by rw[h2];rfl) (fun i ob hi ho=>by
  rw[Eb (by grind)]at ho;by_cases hb:m=i
  .subst hb;rw[Cm hm]at ho;cases ho;exact .inr (by rw[Afu];rfl)
  grind)
 rw[qL]at this;exact⟨_,hT,rfl,this⟩
def Cf{S:Nat->St}{A:List Tk}{R:V->Nat->Prop}{e:Env}{res:List AR}{v:V}{p:Nat}{l:St}(hr:Cd e (S p++l) res=some v)(hv:Cg v=true/\v.refs=[])(hp:p<=A.length)(hR:R v p):
  ∃ v p' l',Cd e (S p++l) res=some v/\(Cg v=true/\v.refs=[])/\S p++l=S p'++l'/\p'<=A.length/\R v p':=⟨v,p,l,hr,hv,rfl,hp,hR⟩
def Aa6{S:Nat->St}{A:List Tk}{R:V->Nat->Prop}{e:Env}{res:List AR}{v:V}{p:Nat}(hr:Cd e (S p) res=some v)(hv:Cg v=true/\v.refs=[])(hp:p<=A.length)(hR:R v p):
  ∃ v p' l',Cd e (S p) res=some v/\(Cg v=true/\v.refs=[])/\S p=S p'++l'/\p'<=A.length/\R v p':=⟨v,p,[],hr,hv,(B3 _).symm,hp,hR⟩
def Qj{s:St}{m:Nat}{z:Bool}{t:Nat}{A:List Tk}{S:Nat->St}(hS:RdS s m z t A S){f p:Nat}{av:List V}{l:St}{R:V->Nat->Prop}(h:(S p++l)[m]?=some (RO z t A p)->RT f av (S p++l) m z t A R):∃ v q,Bx TT PT f (.ptr m 0 0::av) (S p++l) v (S q++l)/\q<=A.length/\R v q:=by
 obtain⟨v,q,h1,h2,h3⟩:=h (hS.get p l);have e:(S p++l).set m (RO z t A q)=S q++l:=hS.set p q l
 grind
def Vj{f:Nat}{av:List V}{s:St}{m:Nat}{z:Bool}{t:Nat}{A:List Tk}{w:V}{q:Nat}(h:RT f av s m z t A (fun v p'=>v=w/\p'=q)):Bx TT PT f (.ptr m 0 0::av) s w (s.set m (RO z t A q)):=by
 obtain⟨v,p',h1,-,rfl,rfl⟩:=h;exact h1
def Cj{τ:St}{i x y n t:Nat}{cs:List V}{e:Env}{v:V}(h:τ[i]?=some (.row cs t 0 0))(h1:e.get x=.ptr i 0 0)(hn:cs.length=n)(h2:e.get y=v):Cd e τ [AR.cell x n false,AR.tmp y]=some (.tup [.agg cs,v]):=by
 subst hn h2
 simp_all [Cd,Gq,Iz,Hr]
/-! tokens -/
def Ae(A:List Tk)(p:Nat):Tk:=(A[p]?).getD Tk.zero
abbrev tkR (t:Tk):List V:=[iV t.kind,.str t.text,iV t.line]
abbrev Bo (t:Tk):Ob:=.row (tkR t) 129 0 0
def Bky(w:List UInt8)(A:List Tk)(p:Nat):Av w (A.drop p)=(((Ae A p).kind==3||(Ae A p).kind==4)&&(Ae A p).text==w):=by
 grind[Ae,List.drop_eq_nil_of_le,Av,Tk.zero,List.drop_eq_getElem_cons]
def Qk(A:List Tk):(A.map Tk.row).length=A.length:=Au ..
def Aly{A:List Tk}{p:Nat}{x:Tk}(h:A[p]?=some x):(A.map Tk.row)[p]?=some [iV x.kind,.str x.text,iV x.line]:=by rw[As,h];rfl
def Tq{s:St}{m:Nat}{z:Bool}{t:Nat}{A:List Tk}{p:Nat}(hs:s[m]?=some (RO z t A p))(hA:A.length<=1000000)(hp:p<=A.length):Bx TT PT 61 [.ptr m 0 0] s (.agg (tkR (Ae A p))) s:=by
 suffices h:RT 61 [] s m z t A (fun v p'=>v=.agg (tkR (Ae A p))/\p'=p) by
  have:=Vj h;rw[O6 hs]at this;exact this
 refine Mq T61 rfl hs fun S hS=>?_
 have Zq:=Dr hS;obtain⟨-,-,qb,get,get0,set,set0,n0,n1,n2,u0,u1,u2⟩:=hS;unfold Ae;by_cases h:A.length<=p
 .have g:((A.length:Int)<=(p:Int))=True:=eq_true AA;have e:A[p]?=none:=by simpa using h
  simp only[go_sem,Zq,LZ];refine Af AD ?_;simp only[go_sem,Zq,LZ,Qk,ge_iff_le,g];refine Cf (v:=.agg [iV 0,.str [],iV 0]) (Wl (n0 _ _ _) rfl rfl) ⟨rfl,rfl⟩ hp ⟨?_,rfl⟩;rw[e];rfl
 .have g:((A.length:Int)<=(p:Int))=False:=eq_false AA;obtain⟨x,hx⟩:∃ x,A[p]?=some x:=⟨_,Ca AA⟩;have qM:=Aly hx;simp only[go_sem,Zq,LZ];refine Af AD ?_;simp only[go_sem,Zq,LZ,Qk,ge_iff_le,g];refine Af AD ?_;simp only[go_sem,Zq,LZ,Qk,qM];refine Bc ?_;simp only[go_sem,Zq,LZ];refine Cf (v:=.agg [iV x.kind,.str x.text,iV x.line]) (Wl (n0 _ _ _) rfl rfl) ⟨rfl,rfl⟩ hp ⟨?_,rfl⟩
  grind
def An2{s:St}{m:Nat}{z:Bool}{t:Nat}{A:List Tk}{p:Nat}(hs:s[m]?=some (RO z t A p))(hA:A.length<=1000000)(hp:p<=A.length)(w:List UInt8):Bx TT PT 64 [.ptr m 0 0,.str w] s (.bool (Av w (A.drop p))) s:=by
 suffices h:RT 64 [.str w] s m z t A (fun v p'=>v=.bool (Av w (A.drop p))/\p'=p) by
  have:=Vj h;rw[O6 hs]at this;exact this
 refine Mq T64 rfl hs fun S hS=>?_
 have hn:=Tq (hS.get0 p) hA hp;have Zq:=Dr hS;obtain⟨-,-,qb,get,get0,set,set0,n0,n1,n2,u0,u1,u2⟩:=hS;rw[Bky];generalize Ae A p=x at hn;obtain⟨k,tx,ln⟩:=x;simp only at hn ⊢;simp only[go_sem,Zq,LZ];refine Aa hn ?_;simp only[go_sem,Zq,LZ]
 cases h3:(k==3)<;>cases h4:(k==4)<;>cases hw:(tx==w)
 all_goals
  simp only[go_sem,Zq,LZ,h3,h4,hw];exact Cf rfl ⟨rfl,rfl⟩ hp ⟨rfl,rfl⟩
def Ej{A:List Tk}{p:Nat}:A.drop (p+1)=(A.drop p).tail:=by simp_all
def Ef{w:List UInt8}{A:List Tk}{p:Nat}(h:Av w (A.drop p)=true):p<A.length:=by
 rcases Bh p A.length with h' | h'
 .exact h'
 .rw[Ec h']at h;cases h
def Ug{s:St}{m:Nat}{z:Bool}{t:Nat}{A:List Tk}{p:Nat}(hs:s[m]?=some (RO z t A p))(hA:A.length<=1000000){w:List UInt8}(h:Av w (A.drop p)=true):Bx TT PT 111 [.ptr m 0 0,.str w] s (.bool true) (s.set m (RO z t A (p+1))):=by
 have qe:=Ef h;refine Vj (A:=A) (z:=z) (t:=t) (Mq T111 rfl hs fun S hS=>?_);have ha:=An2 (hS.get0 p) hA AA w;rw[h]at ha;have ql:=A1 (show p<9223372036854775807 by omega);have Zq:=Dr hS;obtain⟨-,-,qb,get,get0,set,set0,n0,n1,n2,u0,u1,u2⟩:=hS;simp only[go_sem,Zq,LZ];refine Aa ha ?_;simp only[go_sem,Zq,LZ,ql];exact Aa6 rfl ⟨rfl,rfl⟩ AA ⟨rfl,rfl⟩
def Uh{s:St}{m:Nat}{z:Bool}{t:Nat}{A:List Tk}{p:Nat}(hs:s[m]?=some (RO z t A p))(hA:A.length<=1000000)(hp:p<=A.length){w:List UInt8}(h:Av w (A.drop p)=false):Bx TT PT 111 [.ptr m 0 0,.str w] s (.bool false) s:=by
 suffices h:Bx TT PT 111 [.ptr m 0 0,.str w] s (.bool false) (s.set m (RO z t A p)) by
  rw[O6 hs]at h;exact h
 refine Vj (A:=A) (z:=z) (t:=t) (Mq T111 rfl hs fun S hS=>?_);have ha:=An2 (hS.get0 p) hA hp w;rw[h]at ha;have Zq:=Dr hS;obtain⟨-,-,qb,get,get0,set,set0,n0,n1,n2,u0,u1,u2⟩:=hS;simp only[go_sem,Zq,LZ];refine Aa ha ?_;simp only[go_sem,Zq,LZ];exact Aa6 rfl ⟨rfl,rfl⟩ hp ⟨rfl,rfl⟩
/-! the same, in the states of a reader's function -/
def Mh{s:St}{m:Nat}{z:Bool}{t:Nat}{A:List Tk}{S:Nat->St}(hS:RdS s m z t A S){p:Nat}(l:St)(hA:A.length<=1000000){w:List UInt8}(h:Av w (A.drop p)=true):Bx TT PT 111 [.ptr m 0 0,.str w] (S p++l) (.bool true) (S (p+1)++l):=by
 have:=Ug (hS.get p l) hA h;rw[show(S p++l).set m (RO z t A (p+1))=S (p+1)++l from hS.set p (p+1) l]at this;exact this
def J7{s:St}{m:Nat}{z:Bool}{t:Nat}{A:List Tk}{S:Nat->St}(hS:RdS s m z t A S){p:Nat}(l:St)(hA:A.length<=1000000)(hp:p<=A.length){w:List UInt8}(h:Av w (A.drop p)=false):Bx TT PT 111 [.ptr m 0 0,.str w] (S p++l) (.bool false) (S p++l):=Uh (hS.get p l) hA hp h
theorem Na{A:List Tk}{p:Nat}(h:p<A.length):A.drop p=Ae A p::A.drop (p+1):=by
 grind[Ae,List.drop_eq_getElem_cons]
def Lt{A:List Tk}{p:Nat}(h:A.length<=p):A.drop p=[]/\Ae A p=Tk.zero:=by
 unfold Ae
 simp_all
def Afv{A:List Tk}{p:Nat}(h:(Ae A p).kind≠0):p<A.length:=by
 rcases Bh p A.length with h' | h'
 .exact h'
 .rw[(Lt h').2]at h;exact absurd rfl h
def Yr{s:St}{m:Nat}{z:Bool}{t:Nat}{A:List Tk}{p:Nat}(hs:s[m]?=some (RO z t A p))(hA:A.length<=1000000)(hp:p<=A.length):
  (∀ w r,Da (A.drop p)=some (w,r)->Bx TT PT 108 [.ptr m 0 0] s (.tup [.str w,.bool true]) (s.set m (RO z t A (p+1)))/\p<A.length/\A.drop (p+1)=r)/\(Da (A.drop p)=none->Bx TT PT 108 [.ptr m 0 0] s (.tup [.str [],.bool false]) s):=by
 have hk:∀ b:Bool,((Ae A p).kind==1)=b->Bx TT PT 108 [.ptr m 0 0] s (.tup [.str (if b then(Ae A p).text else []),.bool b]) (s.set m (RO z t A (if b then p+1 else p))):=fun b hb=>by
  have qe:b=true->p<A.length:=fun h=>Afv (by grind)
  refine Vj (A:=A) (z:=z) (t:=t) (Mq T108 rfl hs fun S hS=>?_);have hn:=Tq (hS.get0 p) hA hp;have qf:((Ae A p).kind != 1)=!b:=by rw[bne,hb]
  have Zq:=Dr hS;obtain⟨-,-,qb,get,get0,set,set0,n0,n1,n2,u0,u1,u2⟩:=hS;cases b
  .simp only[go_sem,Zq,LZ];refine Aa hn ?_;simp only[go_sem,Zq,LZ,qf,A2,A0];exact Cf rfl ⟨rfl,rfl⟩ hp ⟨rfl,rfl⟩
  .have ql:=A1 (show p<9223372036854775807 by omega);simp only[go_sem,Zq,LZ];refine Aa hn ?_;simp only[go_sem,Zq,LZ,qf,ql,A2,A0];exact Cf rfl ⟨rfl,rfl⟩ (qe rfl) ⟨rfl,rfl⟩
 refine⟨fun w r h=>?_,fun h=>?_⟩
 .have qe:p<A.length:=by
   rcases Bh p A.length with h' | h'
   .exact h'
   .rw[(Lt h').1]at h;cases h
  rw[Na qe]at h;simp only[Da]at h
  grind
 .have hb:((Ae A p).kind==1)=false:=by
   rcases Bh p A.length with h' | h'
   .grind[Na,Da]
   .rw[(Lt h').2];rfl
  have:=hk false hb;simp only[Hh,if_false]at this;rw[O6 hs]at this;exact this
def Ags{s:St}{m:Nat}{z:Bool}{t:Nat}{A:List Tk}{p:Nat}(hs:s[m]?=some (RO z t A p))(hA:A.length<=1000000)(hp:p<=A.length)(hN:∀ t∈A,t.kind=2->Lib.parseIntB 64 t.text=.ok (Jv t.text)/\t.text.length<=4096):
  (∀ w r,He (A.drop p)=some (w,r)->Bx TT PT 144 [.ptr m 0 0] s (.tup [iV w,.bool true]) (s.set m (RO z t A (p+1)))/\p<A.length/\A.drop (p+1)=r)/\(He (A.drop p)=none->Bx TT PT 144 [.ptr m 0 0] s (.tup [iV 0,.bool false]) s):=by
 have hk:∀ b:Bool,((Ae A p).kind==2)=b->Bx TT PT 144 [.ptr m 0 0] s (.tup [iV (if b then Jv (Ae A p).text else 0),.bool b]) (s.set m (RO z t A (if b then p+1 else p))):=fun b hb=>by
  have qe:b=true->p<A.length:=fun h=>Afv (by grind)
  refine Vj (A:=A) (z:=z) (t:=t) (Mq T144 rfl hs fun S hS=>?_);have hn:=Tq (hS.get0 p) hA hp;have qf:((Ae A p).kind != 2)=!b:=by rw[bne,hb]
  have Zq:=Dr hS;obtain⟨-,-,qb,get,get0,set,set0,n0,n1,n2,u0,u1,u2⟩:=hS;cases b
  .simp only[go_sem,Zq,LZ];refine Aa hn ?_;simp only[go_sem,Zq,LZ,qf,A2,A0];exact Cf rfl ⟨rfl,rfl⟩ hp ⟨rfl,rfl⟩
  .have ql:=A1 (show p<9223372036854775807 by omega)
   have qu:Ae A p∈A:=by
    have h:=qe rfl;unfold Ae;rw[Ca h];exact Nl h
   obtain⟨hv,hl⟩:=hN _ qu (by grind)
   have q:Y9 [.str (Ae A p).text,iV 10,iV 64]=some (.tup [iV (Jv (Ae A p).text),.nili]):=by
    simp only[Y9];rw[if_pos AA,hv]
   simp only[go_sem,Zq,LZ];refine Aa hn ?_;simp only[go_sem,Zq,LZ,qf,A2,A0];refine Fl P170 AB q ?_;simp only[go_sem,Zq,LZ,ql];exact Cf rfl ⟨rfl,rfl⟩ (qe rfl) ⟨rfl,rfl⟩
 refine⟨fun w r h=>?_,fun h=>?_⟩
 .have qe:p<A.length:=by
   rcases Bh p A.length with h' | h'
   .exact h'
   .rw[(Lt h').1]at h;cases h
  rw[Na qe]at h;simp only[He]at h
  grind
 .have hb:((Ae A p).kind==2)=false:=by
   rcases Bh p A.length with h' | h'
   .grind[Na,He]
   .rw[(Lt h').2];rfl
  have:=hk false hb;simp only[Hh,if_false]at this;rw[O6 hs]at this;exact this
/-! operators -/
def A95:(opTab.all fun p=>match (Ln (N5 TT PT 300) af240 [.str p.1] []).bind fun q=>Eg q.2 q.1 with
  | some (.tup [.int .i64 a,.int .i64 b])=>a==(Gj p.1).1&&b==(Gj p.1).2
  | _=>false)=true:=by kernel_rfl
def Bkz(w:List UInt8):Fn TT PT 240 [.str w] (.tup [iV (Gj w).1,iV (Gj w).2]):=by
 by_cases hm:∃ p∈opTab,p.1=w
 .obtain⟨p,hp,rfl⟩:=hm;have hr:=Bw.1 A95 p hp
  split at hr
  .rename_i a b hv;simp only[Ai,beq_iff_eq]at hr;rw[<-hr.1,<-hr.2];exact Rd Si T240 rfl rfl hv
  .cases hr
 .have qf:∀ p∈opTab,(w==p.1)=false:=fun p hp=>by
   grind
  have h0:Gj w=(0,0):=by
   unfold Gj
   have:opTab.lookup w=none:=by
    rw[List.lookup_eq_none_iff];exact fun p hp=>by grind
   rw[this];rfl
  rw[h0];simp only[opTab,Bp,La,or_false,forall_eq_or_imp,forall_eq]at qf;obtain⟨a1,a2,a3,a4,a5,a6,a7,a8,a9,qD,qE,qF,qG⟩:=qf;refine Bj T240 rfl ?_;simp only[go_sem,a1,a2,a3,a4,a5,a6,a7,a8,a9,qD,qE,qF,qG];exact Gr rfl
def Be8{s:St}{m:Nat}{z:Bool}{t:Nat}{A:List Tk}{p:Nat}(hs:s[m]?=some (RO z t A p))(hA:A.length<=1000000)(hp:p<=A.length)(lvl:Nat):Bx TT PT 234 [.ptr m 0 0,iV (lvl:Int)] s (iV (H9 lvl (A.drop p))) s:=by
 suffices h:Bx TT PT 234 [.ptr m 0 0,iV (lvl:Int)] s (iV (H9 lvl (A.drop p))) (s.set m (RO z t A p)) by
  rw[O6 hs]at h;exact h
 have ho:H9 lvl (A.drop p)=if(Ae A p).kind=4 then(if(Gj (Ae A p).text).2=(lvl:Int) then(Gj (Ae A p).text).1 else 0) else 0:=by
  rcases Bh p A.length with h' | h'
  .rw[Na h'];rfl
  .rw[(Lt h').1,(Lt h').2];rfl
 rw[ho];refine Vj (A:=A) (z:=z) (t:=t) (Mq T234 rfl hs fun S hS=>?_);have hn:=Tq (hS.get0 p) hA hp;have hb:=Bkz (Ae A p).text;generalize Gj (Ae A p).text=o at hb ⊢;obtain⟨o1,o2⟩:=o;simp only at hb ⊢;have Zq:=Dr hS;obtain⟨-,-,qb,get,get0,set,set0,n0,n1,n2,u0,u1,u2⟩:=hS;by_cases h4:(Ae A p).kind=4
 .have g4:((Ae A p).kind != 4)=false:=by simp[h4]
  rw[if_pos h4];by_cases hl:o2=(lvl:Int)
  .have gl:(o2 != (lvl:Int))=false:=by simp[hl]
   rw[if_pos hl];simp only[go_sem,Zq,LZ];refine Aa hn ?_;simp only[go_sem,Zq,LZ,g4];refine Ab hb AB ?_;simp only[go_sem,Zq,LZ,gl];exact Cf rfl ⟨rfl,rfl⟩ hp ⟨rfl,rfl⟩
  .have gl:(o2 != (lvl:Int))=true:=by simp[hl]
   rw[if_neg hl];simp only[go_sem,Zq,LZ];refine Aa hn ?_;simp only[go_sem,Zq,LZ,g4];refine Ab hb AB ?_;simp only[go_sem,Zq,LZ,gl];exact Cf rfl ⟨rfl,rfl⟩ hp ⟨rfl,rfl⟩
 .have g4:((Ae A p).kind != 4)=true:=by simp[h4]
  rw[if_neg h4];simp only[go_sem,Zq,LZ];refine Aa hn ?_;simp only[go_sem,Zq,LZ,g4];exact Cf rfl ⟨rfl,rfl⟩ hp ⟨rfl,rfl⟩
