/- Walks: the keys of programs, both sides. -/
import Derived.Test.YtdbnbejffjhdlaaGreatDoorIo
set_option linter.all false
namespace Go.Proofs.YtdbnbejffjhdlaaGreatDoor.KM
open Go
/-! maps -/
def fk(s:List UInt8):List (List UInt8 × V)->Option V
 | []=>none
 | (k,v)::r=>if k==s then some v else fk s r
def Avq(s:List UInt8):∀ (kvs:List (List UInt8 × V)) (i:Nat),(H7 s kvs i).map Prod.snd=fk s kvs
 | [],_=>rfl
 | (k,v)::r,i=>by
  rw[H7,fk]
  split
  .rfl
  .exact Avq s r (i+1)
def Atc(s:List UInt8)(v:V):∀ (kvs:List (List UInt8 × V)) (i j:Nat) (w:V),H7 s kvs i=some (j,w)->i<=j/\∀ s',fk s' (kvs.set (j - i) (s,v))=if s'=s then some v else fk s' kvs
 | [],_,_,_,h=>by cases h
 | (k,x)::r,i,j,w,h=>by
  rw[H7]at h
  split at h
  .rename_i hk;cases h;refine⟨An _,fun s'=>?_⟩;have hk:=eq_of_beq hk;rw[Hl,Ab8,fk,fk,hk];by_cases e:s'=s
   .rw[if_pos e,if_pos (by simp[e])]
   .have e2:(s==s')=false:=by simp;exact fun h=>e h.symm
    rw[e2];simp[e]
  .rename_i hk;obtain⟨h1,h2⟩:=Atc s v r (i+1) j w h;refine⟨by omega,fun s'=>?_⟩;obtain⟨m,hm⟩:∃ m,j - i=m+1:=⟨j - i - 1,by omega⟩;rw[hm,Ahg,fk,fk,show m=j - (i+1) by omega,h2 s'];by_cases e:s'=s
   .subst e;have:(k==s')=false:=by simpa using hk
    rw[this];simp
   .simp[e]
def Aqm(s:List UInt8)(v:V):∀ (kvs:List (List UInt8 × V)) (i:Nat),H7 s kvs i=none->∀ s',fk s' (kvs++[(s,v)])=if s'=s then some v else fk s' kvs
 | [],_,_,s'=>by
  rw[Ci,fk,fk,fk];by_cases e:s'=s
  .rw[if_pos e,if_pos (by simp[e])]
  .have e2:(s==s')=false:=by simp;exact fun h=>e h.symm
   rw[e2];simp[e]
 | (k,x)::r,i,h,s'=>by
  rw[H7]at h
  split at h
  .cases h
  .rename_i hk;rw[Jb,fk,fk,Aqm s v r (i+1) h s'];by_cases e:s'=s
   .subst e;have:(k==s')=false:=by simpa using hk
    rw[this];simp
   .simp[e]
def KVs(kvs:List (List UInt8 × V))(X:List (List UInt8)):Prop:=∀ s,fk s kvs=if X.count s=0 then none else some (iV (X.count s:Int))
def Bh8:KVs [] []:=fun _=>rfl
def Avr{kvs kvs':List (List UInt8 × V)}{X:List (List UInt8)}{s:List UInt8}(h:KVs kvs X)(hs:∀ s',fk s' kvs'=if s'=s then some (iV ((X.count s+1:Nat):Int)) else fk s' kvs):KVs kvs' (X++[s]):=fun s'=>by
 rw[hs s',List.count_append];by_cases e:s'=s
 .subst e;simp
 .have:[s].count s'=0:=List.count_eq_zero.2 fun hm=>e (D4.1 hm)
  rw[if_neg e,this,Oh];exact h s'
def Bh9{kvs:List (List UInt8 × V)}{X:List (List UInt8)}(h:KVs kvs X)(s:List UInt8):(H7 s kvs 0=none/\X.count s=0)\/∃ j,H7 s kvs 0=some (j,iV (X.count s:Int)):=by
 have h1:=Avq s kvs 0;rw[h s]at h1
 cases hf:H7 s kvs 0 with
 | none=>
  rw[hf]at h1;left;refine⟨rfl,?_⟩;by_cases e:X.count s=0
  .exact e
  .rw[if_neg e]at h1;cases h1
 | some p=>
  rw[hf]at h1;by_cases e:X.count s=0
  .rw[if_pos e]at h1;cases h1
  .rw[if_neg e]at h1;obtain⟨j,w⟩:=p;cases h1;exact .inr ⟨j,rfl⟩
/-! keys -/
def Aqn(nm:List UInt8):∀ (X P:List (List UInt8)) (k:Nat) (x:List UInt8),X[k]?=some x->(Gf nm P X)[k]?=some (Ju nm x ((P++X.take k).count x))
 | [],_,_,_,h=>by simp at h
 | y::X,P,0,x,h=>by
  simp at h;subst h;simp[Gf]
 | y::X,P,k+1,x,h=>by
  rw[Gf,Pc,Aqn nm X (P++[y]) k x (by simpa using h)];simp
def Apd{nm:List UInt8}{X:List (List UInt8)}{k:Nat}{x:List UInt8}(h:X[k]?=some x):(Gf nm [] X).take k++[Ju nm x ((X.take k).count x)]=(Gf nm [] X).take (k+1):=by
 have:=Aqn nm X [] k x h;rw[Ci]at this;rw[Hk,this];rfl
def Z5{L:List Tp}(h:∀ t∈L,Sp.szs t.body<=10000):(L.map fun t=>Sp.szs t.body).sum<=L.length*10000:=by
 induction L with
 | nil=>simp
 | cons a l ih=>
  have h1:=h a AE;have h2:=ih fun t ht=>h t (by simp[ht])
  rw[A2,List.sum_cons,Bg,F1];omega
def O3(L:List Tp):List (List V):=(L.map fun t=>Gf t.nm [] (Sp.hdss t.body)).flatten
def Ape{L:List Tp}{i:Nat}{x:Tp}(h:L[i]?=some x):O3 (L.take (i+1))=O3 (L.take i)++Gf x.nm [] (Sp.hdss x.body):=by
 unfold O3;rw[Hk,h];simp
set_option maxHeartbeats 4000000 in
def Aji{p:Gp}(h:PX p):Fn TT PT 17 [.agg p.row] (SL true 0 (Ik p)):=by
 obtain⟨zL,hL⟩:=Aiv h;have qm:=P6 p;have ql:=D7 p;have qp:=h.few;have qI:=Z5 h.sz;have qn:(p.thrs.map Co).length=p.thrs.length:=Aj ..;rw[ql]at hL qm ⊢;refine Bc T17 rfl ?_;simp only[go_sem];refine Ab hL AB ?_;simp only[go_sem,qn];refine Bh (α:=Nat × St × V) (fun a=>p.thrs.length - a.1) (fun a=>[(1,.ptr 0 0 0),(3,a.2.2),(12,SL zL 0 (p.thrs.map Co)),(13,iV (p.thrs.length:Int)),(14,iV (a.1:Int))]) (fun a=>a.2.1) (fun a=>a.1<=p.thrs.length/\GW a.2.1 3 57 1 a.2.2 (O3 (p.thrs.take a.1))/\a.2.1[0]?=some (gO p)) ?_ (0,_,.nils) ⟨Av _,De,rfl⟩;rintro⟨i,s,u⟩ ⟨hi,hg,hs⟩ ih;simp only at hi hg hs ih;refine Az Bk4 ?_;rcases Bb i p.thrs.length with h' | h';rotate_left
 .have qr:i=p.thrs.length:=by omega
  subst qr;rw[Dg]at hg;simp only[go_sem,Bi h'];exact Rb hg AA (fun r hr=>(W7 _ r hr).1) (fun r hr=>(W7 _ r hr).2)
 obtain⟨x,hx,hd,hm⟩:=Bl h';have qg:=P5 x;have qJ:=h.sz x hm;have qF:Co x=[SL true 0 ((Sp.hdss x.body).map fun x=>[V.str x])]:=rfl;have qy:((Sp.hdss x.body).map fun x=>[V.str x]).length=(Sp.hdss x.body).length:=Aj ..;have qV:=Je x.body;have qs:=Ape hx
 have qB:(O3 (p.thrs.take i)).length<=100000000*10000:=by
  have h1:=Aix (p.thrs.take i);have h2:=Z5 (L:=p.thrs.take i) fun t ht=>h.sz t (Jz ht)
  have h3:(p.thrs.take i).length*10000<=100000000*10000:=Fl _ (by rw[D5];omega);unfold O3;omega
 generalize hX:Sp.hdss x.body=X at *;simp only[go_sem,Ar h',Ai,hx,qF,hX,qy];refine Bh (α:=Nat × St × V) (fun a=>X.length - a.1) (fun a=>[(1,.ptr 0 0 0),(3,a.2.2),(4,iV (i:Int)),(5,SL true 0 (X.map fun x=>[V.str x])),(12,SL zL 0 (p.thrs.map Co)),(13,iV (p.thrs.length:Int)),(14,iV (i:Int)),(19,SL true 0 (X.map fun x=>[V.str x])),(20,iV (X.length:Int)),(21,iV (a.1:Int))]) (fun a=>a.2.1) (fun a=>a.1<=X.length/\GW a.2.1 3 57 1 a.2.2 (O3 (p.thrs.take i)++(Gf x.nm [] X).take a.1)/\a.2.1[0]?=some (gO p)) ?_ (0,s,u) ⟨Av _,by simpa using hg,hs⟩;clear hg hs u s;rintro⟨k,s,u⟩ ⟨hk,hg,hs⟩ jh;simp only at hk hg hs jh;refine Az Bk3 ?_;rcases Bb k X.length with h3 | h3;rotate_left
 .rw[show(Gf x.nm [] X).take k=Gf x.nm [] X from I9 (by rw[Ul];omega),<-qs]at hg;simp only[go_sem,Bi h3,Ay (show i<9223372036854775807 by omega)];exact Am (ih (i+1,s,u) AH ⟨h',hg,hs⟩) rfl
 obtain⟨y,hy,-,-⟩:=Bl h3;obtain⟨z2,t2,qc⟩:=Wi true 0 1 (X.map fun x=>[V.str x]) .i64 k (by rw[Aj];omega);rw[<-R3]at qc;have qY:((X.take k).map fun x=>[V.str x]).length=k:=by rw[Aj,D5];omega
 simp only[go_sem,Ar h3,Ai,hy,qc,qY];refine Bh (α:=Nat) (fun j=>k - j) (fun j=>[(1,.ptr 0 0 0),(3,u),(4,iV (i:Int)),(5,SL true 0 (X.map fun x=>[V.str x])),(7,.str y),(8,iV (((X.take j).count y:Nat):Int)),(12,SL zL 0 (p.thrs.map Co)),(13,iV (p.thrs.length:Int)),(14,iV (i:Int)),(19,SL true 0 (X.map fun x=>[V.str x])),(20,iV (X.length:Int)),(21,iV (k:Int)),(28,SL z2 t2 ((X.take k).map fun x=>[V.str x])),(29,iV (k:Int)),(30,iV (j:Int))]) (fun _=>s) (fun j=>j<=k) ?_ 0 (Av _);rintro j hj kh;have jp:(X.take j).count y<=k:=Dc List.count_le_length (by rw[D5];omega);refine Az Bk2 ?_;rcases Bb j k with h4 | h4
 .obtain⟨w,hw⟩:∃ w,X[j]?=some w:=⟨_,Cd AA⟩;have qP:(X.take k)[j]?=some w:=by rw[V0,if_pos h4];exact hw
  have qC:(X.take (j+1)).count y=(X.take j).count y+(if w=y then 1 else 0):=by
   rw[Hk,hw,List.count_append]
   by_cases e:w=y<;>simp[e]
  by_cases e:w=y
  .have f1:(w==y)=true:=by simp[e]
   rw[if_pos e]at qC;have w1:IntKind.i64.wrap ((((X.take j).count y:Nat):Int)+1)=(((X.take (j+1)).count y:Nat):Int):=by rw[B7 AA,qC];rfl
   simp only[go_sem,Ar h4,Ai,qP,f1,w1,Ay (show j<9223372036854775807 by omega)];exact Am (kh (j+1) AA h4) rfl
  .have f1:(w==y)=false:=by simp[e]
   rw[if_neg e]at qC;have qD:(X.take j).count y=(X.take (j+1)).count y:=by omega
   rw[qD];simp only[go_sem,Ar h4,Ai,qP,f1,Ay (show j<9223372036854775807 by omega)];exact Am (kh (j+1) AA h4) rfl
 obtain rfl:j=k:=by omega
 have qE:=Apd (nm:=x.nm) hy
 obtain⟨u',s',ha,g',l',kp,rf,-⟩:=Mp (bytes:=40) (y:=.lst 1 [Ju x.nm y ((X.take j).count y)]) (ys:=[Ju x.nm y ((X.take j).count y)]) hg (by have:=(Al.1 hs).1;omega) rfl AA (fun r hr=>by
  rcases Ch.1 hr with hr | hr
  .exact(W7 _ r hr).1
  .exact(Aet _ _ _ r (Jz hr)).1) (by simp[Ju]) (by simp[Ju,V.rowB]) (by rw[Aq,D5,Ul];simp only[Hi];omega)
 rw[Dk,qE]at g';have qw:=(kp 0 (Al.1 hs).1 fun e=>by have:=(C1 hg 0 e).1;omega).trans hs;have qo:=Bx g';unfold Ju at ha;simp only[go_sem,Bi h4,hs,Ai,hx,qg,ha,Ay (show j<9223372036854775807 by omega)];exact Am (jh (j+1,s',u') AH ⟨h3,g',qw⟩) rfl
set_option maxHeartbeats 4000000 in
def Atd{p:Gp}(h:PX p):Fn TT PT 85 [.agg p.row] (SL true 0 (Ik p)):=by
 have hL:=Aiw h;have qm:=P6 p;have ql:=D7 p;have qp:=h.few;have qI:=Z5 h.sz;have qn:(p.thrs.map Co).length=p.thrs.length:=Aj ..;rw[ql]at hL qm ⊢;refine Bc T85 rfl ?_;simp only[go_sem];refine Ab hL AB ?_;simp only[go_sem,qn];refine Bh (α:=Nat × St × V) (fun a=>p.thrs.length - a.1) (fun a=>[(1,.ptr 0 0 0),(3,a.2.2),(10,.lst 0 (p.thrs.map Co)),(11,iV (p.thrs.length:Int)),(12,iV (a.1:Int))]) (fun a=>a.2.1) (fun a=>a.1<=p.thrs.length/\GW a.2.1 3 57 1 a.2.2 (O3 (p.thrs.take a.1))/\a.2.1[0]?=some (gO p)) ?_ (0,_,.nils) ⟨Av _,De,rfl⟩;rintro⟨i,s,u⟩ ⟨hi,hg,hs⟩ ih;simp only at hi hg hs ih;refine Az Bmk ?_;rcases Bb i p.thrs.length with h' | h';rotate_left
 .have qr:i=p.thrs.length:=by omega
  subst qr;rw[Dg]at hg;simp only[go_sem,Bi h'];exact Rb hg AA (fun r hr=>(W7 _ r hr).1) (fun r hr=>(W7 _ r hr).2)
 obtain⟨x,hx,hd,hm⟩:=Bl h';have qg:=P5 x;have qJ:=h.sz x hm;have qF:Co x=[SL true 0 ((Sp.hdss x.body).map fun x=>[V.str x])]:=rfl;have qy:((Sp.hdss x.body).map fun x=>[V.str x]).length=(Sp.hdss x.body).length:=Aj ..;have qV:=Je x.body;have qs:=Ape hx
 have qB:(O3 (p.thrs.take i)).length<=100000000*10000:=by
  have h1:=Aix (p.thrs.take i);have h2:=Z5 (L:=p.thrs.take i) fun t ht=>h.sz t (Jz ht)
  have h3:(p.thrs.take i).length*10000<=100000000*10000:=Fl _ (by rw[D5];omega);unfold O3;omega
 generalize hX:Sp.hdss x.body=X at *;have jt:0<s.length:=(Al.1 hs).1;have qN:∀ j∈u.refs,1<=j/\j<s.length:=C1 hg;simp only[go_sem,Ar h',Ai,hx,qF,hX,qy];have qK:(s++([.map []]:St))[s.length]?=some (.map []):=by simp
 refine Bh (α:=Nat × St × V × List (List UInt8 × V)) (fun a=>X.length - a.1) (fun a=>[(1,.ptr 0 0 0),(3,a.2.2.1),(4,iV (i:Int)),(6,.mp s.length),(10,.lst 0 (p.thrs.map Co)),(11,iV (p.thrs.length:Int)),(12,iV (i:Int)),(18,SL true 0 (X.map fun x=>[V.str x])),(19,iV (X.length:Int)),(20,iV (a.1:Int))]) (fun a=>a.2.1) (fun a=>a.1<=X.length/\(GW a.2.1 3 57 1 a.2.2.1 (O3 (p.thrs.take i)++(Gf x.nm [] X).take a.1)/\s.length ∉ a.2.2.1.refs)/\a.2.1[0]?=some (gO p)/\a.2.1[s.length]?=some (.map a.2.2.2)/\KVs a.2.2.2 (X.take a.1)) ?_ (0,s++([.map []]:St),u,[]) ⟨Av _,⟨by simpa using H0 hg,fun e=>by have:=(qN _ e).2;omega⟩,Bs hs,qK,by simpa using Bh8⟩;generalize hn:s.length=n at *;clear hg hs qN qK u hn s;rintro⟨k,s,u,kvs⟩ ⟨hk,⟨hg,qH⟩,hs,qa,qv⟩ jh;simp only at hk hg qH hs qa qv jh;refine Az Bmj ?_;rcases Bb k X.length with h3 | h3;rotate_left
 .rw[show(Gf x.nm [] X).take k=Gf x.nm [] X from I9 (by rw[Ul];omega),<-qs]at hg;simp only[go_sem,Bi h3,Ay (show i<9223372036854775807 by omega)];exact Am (ih (i+1,s,u) AH ⟨h',hg,hs⟩) rfl
 obtain⟨y,hy,-,-⟩:=Bl h3;have qE:=Apd (nm:=x.nm) hy;have qZ:=(Al.1 hs).1;have ja:=(Al.1 qa).1;have jq:(X.take k).count y<=k:=Dc List.count_le_length (by rw[D5];omega)
 obtain⟨u',s',ha,g',l',kp,rf,-⟩:=Mp (bytes:=40) (y:=.lst 1 [Ju x.nm y ((X.take k).count y)]) (ys:=[Ju x.nm y ((X.take k).count y)]) hg AA rfl AA (fun r hr=>by
  rcases Ch.1 hr with hr | hr
  .exact(W7 _ r hr).1
  .exact(Aet _ _ _ r (Jz hr)).1) (by simp[Ju]) (by simp[Ju,V.rowB]) (by rw[Aq,D5,Ul];simp only[Hi];omega)
 rw[Dk,qE]at g';have qw:=(kp 0 qZ fun e=>by have:=(C1 hg 0 e).1;omega).trans hs;have qh:=(kp n ja qH).trans qa;have qo:=Bx g'
 have qf:n ∉ u'.refs:=fun e=>by
  rcases rf n e with h8 | h8
  .exact qH h8
  .omega
 have qL:n≠0:=fun e=>by rw[e,hs]at qa;cases qa
 have w1:IntKind.i64.wrap ((((X.take k).count y:Nat):Int)+1)=(((X.take k).count y+1:Nat):Int):=by rw[B7 AA];rfl
 have fb:∀ n:Int,(iV n).flatB=true:=fun _=>rfl
 have qt:X.take k++[y]=X.take (k+1):=by rw[Hk,hy];rfl
 unfold Ju at ha;rcases Bh9 qv y with⟨hf,h0⟩ | ⟨j,hf⟩
 .have qb:=Avr (s:=y) qv (Aqm y (iV (((X.take k).count y+1:Nat):Int)) kvs 0 hf);rw[qt]at qb;rw[h0]at ha w1 qb;rw[Int.natCast_zero]at ha w1;simp only[go_sem,Ar h3,Ai,hy];refine Ad AD ?_;simp only[go_sem,hs,qa,hf,Ai,hx,qg];simp only[go_sem,ha];refine Be ?_;simp only[go_sem,qh,hf,w1,fb,Ay (show k<9223372036854775807 by omega)];exact Am (jh (k+1,s'.set n (.map (kvs++[(y,iV 1)])),u',kvs++[(y,iV 1)]) AH ⟨h3,⟨Gu g' fun q hq=>Bk fun(e:n=q)=>qf (by rw[e];exact hq),qf⟩,by rw[Bk qL];exact qw,Bv AA,qb⟩) rfl
 .have qb:=Avr (s:=y) qv (by have:=(Atc y (iV (((X.take k).count y+1:Nat):Int)) kvs 0 j _ hf).2;rw[Yr]at this;exact this);rw[qt]at qb;simp only[go_sem,Ar h3,Ai,hy];refine Ad AD ?_;simp only[go_sem,hs,qa,hf,Ai,hx,qg];simp only[go_sem,ha];refine Be ?_;simp only[go_sem,qh,hf,w1,fb,Ay (show k<9223372036854775807 by omega)];exact Am (jh (k+1,s'.set n (.map (kvs.set j (y,iV (((X.take k).count y+1:Nat):Int)))),u',kvs.set j (y,iV (((X.take k).count y+1:Nat):Int))) AH ⟨h3,⟨Gu g' fun q hq=>Bk fun(e:n=q)=>qf (by rw[e];exact hq),qf⟩,by rw[Bk qL];exact qw,Bv AA,qb⟩) rfl
def Apf(nm:List UInt8):∀ (X P:List (List UInt8)),∀ r∈Gf nm P X,∃ nm ln n,r=Ju nm ln n
 | [],_,r,hr=>by cases hr
 | x::X,P,r,hr=>by
  rw[Gf]at hr;rcases Bo.1 hr with rfl | hr
  .exact⟨_,_,_,rfl⟩
  .exact Apf nm X _ r hr
def A2d{p:Gp}:∀ r∈Ik p,∃ nm ln n,r=Ju nm ln n:=fun r hr=>by
 obtain⟨l,hl,hr⟩:=List.mem_flatten.1 hr;obtain⟨t,-,rfl⟩:=Cs.1 hl;exact Apf _ _ _ r hr
def Anj:List V:=[.str [],.str [],iV 0]
def Ag0(p:Gp)(i:Int):V:=if 0<=i/\i<(Ik p).length then .tup [.agg ((Ik p).getD i.toNat Anj),.bool true] else .tup [.agg Anj,.bool false]
set_option maxHeartbeats 1000000 in
def Bia{p:Gp}(h:PX p)(i:Int):Fn TT PT 54 [.agg p.row,iV i] (Ag0 p i):=by
 have hk:=Atd h;have qm:=P6 p;have ql:=D7 p;rw[ql]at hk qm ⊢;refine Bc T54 rfl ?_;unfold Ag0;by_cases h0:i<0
 .rw[if_neg AA];have f1:(i<0)=True:=eq_true h0;simp only[go_sem];refine Ab hk AB ?_;simp only[go_sem,f1];exact Fp rfl
 have f1:(i<0)=False:=eq_false h0;by_cases h1:(Ik p).length<=i
 .rw[if_neg AA];have f2:(((Ik p).length:Int)<=i)=True:=eq_true h1;simp only[go_sem];refine Ab hk AB ?_;simp only[go_sem,f1,f2,ge_iff_le];exact Fp rfl
 have f2:(((Ik p).length:Int)<=i)=False:=eq_false h1;obtain⟨k,rfl⟩:∃ k:Nat,i=k:=⟨i.toNat,by omega⟩;rw[if_pos AA,J0];obtain⟨r,hr⟩:∃ r,(Ik p)[k]?=some r:=⟨_,Cd AA⟩;obtain⟨nm,ln,n,rfl⟩:=A2d r (F0 hr);have hg:(Ik p).getD k Anj=Ju nm ln n:=by rw[E0,hr];rfl
 rw[hg];unfold Ju at hr ⊢;simp only[go_sem];refine Ab hk AB ?_;simp only[go_sem,f1,f2,ge_iff_le,hr];exact Fp rfl
section
variable {α:Type} [DecidableEq α]
def D3:List α->List α->Nat
 | [],_=>0
 | _::_,[]=>0
 | a::s,b::t=>if a=b then 1+D3 s t else max (D3 s (b::t)) (D3 (a::s) t)
theorem U7(t:List α):D3 [] t=0:=by rw[D3]
theorem Aav(s:List α):D3 s []=0:=by cases s<;>rw[D3]
theorem Pv(a b:α)(s t:List α):D3 (a::s) (b::t)=if a=b then 1+D3 s t else max (D3 s (b::t)) (D3 (a::s) t):=by rw[D3]
mutual
theorem Agd(a:α)(s t:List α):D3 s t<=D3 (a::s) t/\D3 (a::s) t<=D3 s t+1:=
 match s,t with
 | s,[]=>by grind[Aav]
 | [],b::t=>by
  have h:=Agd a [] t
  grind[U7,Pv]
 | c::s,b::t=>by
  have h1:=Agd a (c::s) t;have h2:=Amo b (c::s) t
  grind[Pv]
termination_by s.length+t.length
theorem Amo(b:α)(s t:List α):D3 s t<=D3 s (b::t)/\D3 s (b::t)<=D3 s t+1:=
 match s,t with
 | [],t=>by grind[U7]
 | a::s,[]=>by
  have h:=Amo b s []
  grind[Aav,Pv]
 | a::s,c::t=>by
  have h1:=Amo b s (c::t);have h2:=Agd a s (c::t)
  grind[Pv]
termination_by s.length+t.length
end
theorem Bc9(a b:α)(s t:List α):D3 (a::s) (b::t)=if a=b then max (max (D3 s (b::t)) (D3 (a::s) t)) (1+D3 s t) else max (D3 s (b::t)) (D3 (a::s) t):=by
 grind[Pv,Agd]
theorem Ate:∀ s:List α,D3 s s=s.length
 | []=>U7 _
 | a::s=>by rw[Pv,if_pos rfl,Ate s,Bg];omega
theorem Aft:∀ (s t:List α),D3 s t<=s.length/\D3 s t<=t.length
 | [],t=>by grind[U7]
 | a::s,[]=>by grind[Aav]
 | a::s,b::t=>by
  have h1:=Aft s t;have h2:=Aft s (b::t);have h3:=Aft (a::s) t
  grind[Pv]
termination_by s t=>s.length+t.length
def X6(a:α)(s t:List α)(k:Nat):Bool:=decide (t[k]?=some a)&&(1+D3 s (t.drop (k+1))==D3 (a::s) t)
def M5(a:α)(s t:List α):Option Nat:=(List.range t.length).find? (X6 a s t)
def Dn:Nat->List α->List α->List Int
 | _,[],_=>[]
 | j,a::s,t=>match M5 a s t with
  | some k=>((j+k:Nat):Int)::Dn (j+k+1) s (t.drop (k+1))
  | none => -1::Dn j s t
theorem Z6:∀ (s:List α) (j:Nat) (t:List α),(Dn j s t).length=s.length
 | [],_,_=>by grind[Dn]
 | a::s,j,t=>by
  rw[Dn]
  split
  .rw[Bg,Z6 s,Bg]
  .rw[Bg,Z6 s,Bg]
def Atf{a:α}{s t:List α}{k:Nat}(h:M5 a s t=some k):k<t.length/\t[k]?=some a/\1+D3 s (t.drop (k+1))=D3 (a::s) t:=by
 have h1:=List.find?_some h;have h2:=List.mem_of_find?_eq_some h
 simp_all [X6]
def A8j(a:α)(s:List α):M5 a s (a::s)=some 0:=by
 grind[M5,List.range_succ_eq_map,X6,Ate]
def Adv:∀ (s:List α) (j:Nat) (t:List α) (i:Nat) (n:Int),(Dn j s t)[i]?=some n->n = -1\/∃ k,n=((j+k:Nat):Int)/\k<t.length/\t[k]?=s[i]?/\∀ i' n',i'<i->(Dn j s t)[i']?=some n'->n'<n
 | [],_,_,i,n,h=>by grind[Dn]
 | a::s,j,t,i,n,h=>by
  rw[Dn]at h ⊢
  split at h
  .rename_i k hk;obtain⟨h1,h2,-⟩:=Atf hk
   cases i with
   | zero=>
    grind
   | succ i=>
    rw[Pc]at h;rcases Adv s (j+k+1) (t.drop (k+1)) i n h with h3 | ⟨m,rfl,h4,h5,h6⟩
    .omega
    grind
  .rename_i hk
   cases i with
   | zero=>grind
   | succ i=>
    rw[Pc]at h;rcases Adv s j t i n h with h3 | ⟨m,rfl,h4,h5,h6⟩
    .omega
    grind
end
section
variable {α β:Type} [DecidableEq α] [DecidableEq β]
def Cc(s t:List α)(i j:Nat):Nat:=D3 (s.drop i) (t.drop j)
theorem Bib(s t:List α)(j:Nat):Cc s t s.length j=0:=by grind[Cc,U7]
theorem Bic(s t:List α)(i:Nat):Cc s t i t.length=0:=by grind[Cc,Aav]
def A8k(s t:List α){i j:Nat}(hi:i<s.length)(hj:j<t.length):Cc s t i j=if s[i]=t[j] then max (max (Cc s t (i+1) j) (Cc s t i (j+1))) (1+Cc s t (i+1) (j+1)) else max (Cc s t (i+1) j) (Cc s t i (j+1)):=by
 grind[Cc,List.drop_eq_getElem_cons,Bc9]
def Bda(s t:List α){i j:Nat}(hi:i<s.length)(hj:j<t.length):Cc s t i j=if s[i]=t[j] then 1+Cc s t (i+1) (j+1) else max (Cc s t (i+1) j) (Cc s t i (j+1)):=by
 grind[Cc,List.drop_eq_getElem_cons,Pv]
def Aeu(s t:List α)(i j:Nat):Cc s t i j<=s.length/\Cc s t i j<=t.length:=by
 grind[Aft,Cc]
def Dm(s t:List α)(i j:Nat):List Int:=(List.range (t.length+1)).map fun k=>if j<=k then(Cc s t i k:Int) else 0
def Gv(s t:List α)(i:Nat):List Int:=(List.range (t.length+1)).map fun k=>(Cc s t i k:Int)
def Ll(s t:List α):List (List Int):=(List.range (s.length+1)).map (Gv s t)
def Se(s t:List α)(i j:Nat):(Dm s t i j).length=t.length+1:=by grind[Dm]
def Wv(s t:List α)(i:Nat):(Gv s t i).length=t.length+1:=by grind[Gv]
def Y5(s t:List α)(i:Nat):Dm s t i 0=Gv s t i:=by grind[Dm,Gv]
def Atg(s t:List α)(i:Nat):Dm s t i t.length=List.replicate (t.length+1) 0:=by
 unfold Dm;refine Ry AE fun k h1 h2=>?_
 grind[Bic]
def Ath(s t:List α):Gv s t s.length=List.replicate (t.length+1) 0:=by
 unfold Gv;refine Ry AE fun k h1 h2=>?_
 grind[Bib]
def Ajj(s t:List α){i j k:Nat}(hk:k<=t.length)(hj:j<=k):(Dm s t i j)[k]?=some (Cc s t i k:Int):=by
 grind[Dm]
def Sf(s t:List α){i k:Nat}(hk:k<=t.length):(Gv s t i)[k]?=some (Cc s t i k:Int):=by rw[<-Y5,Ajj s t hk (Av _)]
def Zk(s t:List α){i:Nat}(hi:i<=s.length):(Ll s t)[i]?=some (Gv s t i):=by
 grind[Ll]
def Ww(s t:List α){i j:Nat}(hj:j<t.length):(Dm s t i (j+1)).set j (Cc s t i j:Int)=Dm s t i j:=by
 unfold Dm;refine Ry AE fun k h1 h2=>?_
 grind
/-! the search for the next line -/
def O8(s t:List α)(i j k:Nat):Prop:=s[i]?=t[k]?/\1+Cc s t (i+1) (k+1)=Cc s t i j
def Bid{s t:List α}{i j k:Nat}(hi:i<s.length)(hj:j<=k)(hk:k<t.length)(h:O8 s t i j k)(hn:∀ k',j<=k'->k'<k->¬ O8 s t i j k'):M5 s[i] (s.drop (i+1)) (t.drop j)=some (k - j):=by
 have hc:∀ m,j+m<t.length->(X6 s[i] (s.drop (i+1)) (t.drop j) m=true↔O8 s t i j (j+m)):=fun m hm=>by
  unfold X6 O8 Cc;rw[<-Gr hi];simp only[Ak,decide_eq_true_eq,beq_iff_eq,Ahf,V6]
  grind
 grind[M5,List.find?_eq_some_iff_getElem]
def Avs{s t:List α}{i j k:Nat}(hi:i<s.length)(hj:j<=k)(hk:k<t.length)(h:O8 s t i j k)(hn:∀ k',j<=k'->k'<k->¬ O8 s t i j k'):Dn j (s.drop i) (t.drop j)=(k:Int)::Dn (k+1) (s.drop (i+1)) (t.drop (k+1)):=by
 rw[Gr hi,Dn,Bid hi hj hk h hn]
 grind[List.drop_drop]
def Ati{s t:List α}{i j:Nat}(hi:i<s.length)(hn:∀ k,j<=k->k<t.length->¬ O8 s t i j k):Dn j (s.drop i) (t.drop j) = -1::Dn j (s.drop (i+1)) (t.drop j):=by
 rw[Gr hi,Dn]
 have:M5 s[i] (s.drop (i+1)) (t.drop j)=none:=by
  cases he:M5 s[i] (s.drop (i+1)) (t.drop j) with
  | none=>rfl
  | some m=>
   obtain⟨h1,h2,h3⟩:=Atf he;rw[E3]at h1;refine absurd ?_ (hn (j+m) AA AA);rw[Ahf]at h2;rw[V6,<-Gr hi]at h3;exact⟨by grind,h3⟩
 rw[this]
theorem Avt:∀ (s:List α) (j:Nat),Dn j s []=List.replicate s.length (-1)
 | [],_=>by grind[Dn]
 | a::s,j=>by
  rw[Dn];have:M5 a s ([]:List α)=none:=by unfold M5;simp
  rw[this];simp only;rw[Avt s,Bg,Ab4]
/-! both programs -/
def Hc(nm:β):List (β × List α)->Nat × Option (List α)
 | []=>(0,none)
 | q::r=>if q.1=nm then(0,some q.2) else(q.2.length+(Hc nm r).1,(Hc nm r).2)
def Jm(b:Nat)(l:List Int):List Int:=l.map fun k=>if 0<=k then k+b else k
def Jv(p:β × List α)(Q:List (β × List α)):List Int:=Jm (Hc p.1 Q).1 (Dn 0 p.2 ((Hc p.1 Q).2.getD []))
def Ih(P Q:List (β × List α)):List Int:=P.flatMap fun p=>Jv p Q
def He(P:List (β × List α)):List (β × α):=P.flatMap fun p=>p.2.map fun x=>(p.1,x)
def A8l(p:β × List α)(Q:List (β × List α)):(Jv p Q).length=p.2.length:=by grind[Jv,Jm,Z6]
theorem Aqo{p:β × List α}{Q:List (β × List α)}(h:(Hc p.1 Q).2=none):Jv p Q=List.replicate p.2.length (-1):=by
 grind[Jv,Jm,Avt,List.map_replicate]
def Aon(p:β × List α)(P Q:List (β × List α)):Ih (p::P) Q=Jv p Q++Ih P Q:=by grind[Ih]
def Acz(p:β × List α)(P:List (β × List α)):He (p::P)=(p.2.map fun x=>(p.1,x))++He P:=by grind[He]
def Ah8:∀ P Q:List (β × List α),(Ih P Q).length=(He P).length
 | [],_=>rfl
 | p::P,Q=>by rw[Aon,Acz,Aq,Aq,A8l,Aj,Ah8 P Q]
def Apg{nm:β}:∀ {Q:List (β × List α)} {l:List α},(Hc nm Q).2=some l->∀ m x,l[m]?=some x->(He Q)[(Hc nm Q).1+m]?=some (nm,x)
 | [],l,h,m,x,hx=>by grind[Hc]
 | q::Q,l,h,m,x,hx=>by
  rw[Hc]at h ⊢;rw[Acz]
  split at h
  .grind
  .rename_i hq;rw[if_neg hq];simp only at h ⊢;rw[Fd (by grind),Aj,show q.2.length+(Hc nm Q).1+m - q.2.length=(Hc nm Q).1+m by omega];exact Apg h m x hx
def A4o{p:β × List α}{Q:List (β × List α)}{i:Nat}{n:Int}(h:(Jv p Q)[i]?=some n):n = -1\/∃ k:Nat,n=k/\(∃ x,p.2[i]?=some x/\(He Q)[k]?=some (p.1,x))/\∀ i' n',i'<i->(Jv p Q)[i']?=some n'->n'<n:=by
 cases hf:(Hc p.1 Q).2 with
 | none=>
  grind[Aqo]
 | some l=>
  unfold Jv Jm at h ⊢;rw[hf,V2]at h ⊢;rw[Ai]at h
  cases hm:(Dn 0 p.2 l)[i]? with
  | none=>grind
  | some m=>
   rw[hm,Is,Pg]at h;rcases Adv p.2 0 l i m hm with rfl | ⟨k,rfl,h1,h2,h3⟩
   .omega
   .rw[if_pos AA]at h;have hk:=Cd h1;refine .inr ⟨(Hc p.1 Q).1+k,by omega,⟨l[k],by grind,Apg hf k _ hk⟩,fun i' n' hi hn=>?_⟩
    grind
end
def N4(l:List Sp):Nat:=(Sp.txts 1 l).length
def Z7:N4 []=0:=rfl
def Wx(s:Sp)(l:List Sp):N4 (s::l)=(s.txt 1).length+N4 l:=by unfold N4;rw[Sp.txts,Aq]
def Z8:∀ a b:List Sp,N4 (a++b)=N4 a+N4 b
 | [],b=>by rw[Ci,Z7];omega
 | s::a,b=>by rw[Jb,Wx,Wx,Z8 a b];omega
def Adw{l:List Sp}{i:Nat}(h:i<l.length):N4 (l.take (i+1))=N4 (l.take i)+(l[i].txt 1).length:=by
 rw[Hk,Cd h,Pf,Z8,Wx,Z7];omega
structure EdB (l:List Sp) (i:Nat) (b:List Sp):Prop where
 mem:∀ s∈b,s∈l
 len:N4 b<=2*N4 (l.take i)
 cnt:b.length<=2*i
def A8m(l:List Sp):EdB l 0 []:=⟨fun _ h=>absurd h AE,(by simp[Z7]),Av _⟩
def A8n{l b:List Sp}{i:Nat}(h:EdB l i b)(hi:i<l.length):EdB l (i+1) b:=⟨h.mem,by have:=h.len;rw[Adw hi];omega,by have:=h.cnt;omega⟩
def Avu{l b:List Sp}{i:Nat}(h:EdB l i b)(hi:i<l.length):EdB l (i+1) (b++[l[i]]):=by
 refine⟨fun s hs=>?_,?_,?_⟩
 .rcases Ch.1 hs with hs | hs
  .exact h.mem s hs
  .rw[D4]at hs;rw[hs];exact N9 hi
 .have:=h.len;rw[Adw hi,Z8,Wx,Z7];omega
 .have:=h.cnt;simp;omega
def Bdb{l b:List Sp}{i:Nat}(h:EdB l i b)(hi:i<l.length):EdB l (i+1) ((b++[l[i]])++[l[i]]):=by
 refine⟨fun s hs=>?_,?_,?_⟩
 .rcases Ch.1 hs with hs | hs
  .exact(Avu h hi).mem s hs
  .rw[D4]at hs;rw[hs];exact N9 hi
 .have:=h.len;rw[Adw hi,Z8,Z8,Wx,Z7];omega
 .have:=h.cnt;simp;omega
def A4p{l b:List Sp}{i:Nat}(h:EdB l i b)(hi:i<l.length):EdB l (i+1) (l[i]::b):=by
 refine⟨fun s hs=>?_,?_,?_⟩
 .rcases Bo.1 hs with hs | hs
  .rw[hs];exact N9 hi
  .exact h.mem s hs
 .have:=h.len;rw[Adw hi,Wx];omega
 .have:=h.cnt;simp;omega
inductive EdT:List Tp->List Tp->Prop
 | nil:EdT [] []
 | cons {t t':Tp} {l l':List Tp}:t'.nm=t.nm->t'.locals=t.locals->EdB t.body t.body.length t'.body->EdT l l'->EdT (t::l) (t'::l')
def Avv:∀ {l l':List Tp} {t t':Tp},EdT l l'->t'.nm=t.nm->t'.locals=t.locals->EdB t.body t.body.length t'.body->EdT (l++[t]) (l'++[t'])
 | _,_,_,_,.nil,h1,h2,h3=>.cons h1 h2 h3 .nil
 | _,_,_,_,.cons a b c d,h1,h2,h3=>.cons a b c (Avv d h1 h2 h3)
def Akk:∀ {l l':List Tp},EdT l l'->((l'.map Fw).flatten).length<=2*((l.map Fw).flatten).length/\l'.length=l.length
 | _,_,.nil=>⟨An _,rfl⟩
 | _,_,.cons (t:=t) (t':=t') a b c d=>by
  obtain⟨h1,h2⟩:=Akk d;have h3:=c.len;rw[Dg]at h3;unfold N4 at h3;rw[A2,A2,Fe,Fe,Aq,Aq,Bg,Bg,h2]
  have h4:(Fw t').length<=2*(Fw t).length:=by
   unfold Fw;rw[a,b];simp only[Aq,Bg,Dq];omega
  exact⟨by omega,rfl⟩
def Axq:∀ {l l':List Tp},EdT l l'->(∀ t∈l,∀ s∈t.body,CnS s)->∀ t∈l',∀ s∈t.body,CnS s
 | _,_,.nil,_,t,ht,_,_=>by cases ht
 | _,_,.cons a b c d,h,t,ht,s,hs=>by
  rcases Bo.1 ht with rfl | ht
  .exact h _ Cr s (c.mem s hs)
  .exact Axq d (fun t ht=>h t (Db _ ht)) t ht s hs
def Bdc{p q:Gp}(hd:q.decls=p.decls)(ht:EdT p.thrs q.thrs)(hc:CnG p):CnG q/\(Ij q).length<=2*(Ij p).length:=by
 refine⟨⟨fun d h=>hc.decls d (hd ▸ h),Axq ht hc.thrs⟩,?_⟩;have:=(Akk ht).1;unfold Ij;rw[hd,Aq,Aq];omega
def A8o{g:V}{kill:List Nat}{x y R:AC}{i1 i2:Nat}{k:List It}{e:Env}{σ:St}{Q:Env->St->Prop}(P P2:Env->St->Prop)
  (h1:∀ R' k',(∀ e σ,P e σ->W TT PT (.c R'::.b i2::k') e σ Q)->(∀ e σ,P2 e σ->W TT PT k' e σ Q)->WC TT PT g kill x y (.b i1::.c R'::.b i2::k') e σ Q)
  (h2:∀ e σ,P e σ->W TT PT (.c R::.b i2::k) e σ Q) (h3:∀ e σ,P2 e σ->W TT PT k e σ Q):WC TT PT g kill x y (.b i1::.c R::.b i2::k) e σ Q:=h1 R k h2 h3
structure EW (p:Gp) (s:St) (u:V) (T:List Tp):Prop where
 z:s[1]?=some (.row [.nils,.nils] 29 0 0)
 o:s[2]?=some (.row [SL p.dz p.dt (p.decls.map Dp.row),u] 29 0 0)
 t:TS s 3
 g:GW s 4 90 4 u (T.map Tp.row)
def Alm{p:Gp}{s:St}{u:V}{T:List Tp}(h:EW p s u T):4<=s.length:=Mu h.t
def Aaw{p:Gp}{s s':St}{u:V}{T:List Tp}(h:EW p s u T)(ht:TS s' 3)(hk:∀ j,j<s.length->j≠3->(j=1\/j=2\/j∈u.refs)->s'[j]?=s[j]?):EW p s' u T:=by
 have hl:=Alm h
 exact⟨(hk 1 AA AA (.inl rfl)).trans h.z,(hk 2 AA AA (.inr (.inl rfl))).trans h.o,ht,Gu h.g fun j hj=>by
  obtain⟨a,b⟩:=C1 h.g j hj
  exact hk j b AA (.inr (.inr hj))⟩
def Z9{s s':St}{b:Nat}(h:TS s b)(hk:s'[b]?=s[b]?):TS s' b:=by
 obtain⟨z,t,l,a,h1,h2⟩:=h;exact⟨z,t,l,a,hk.trans h1,h2⟩
structure EX (p:Gp) (n:Nat) (x:Tp) (s:St) (u:V) (T:List Tp) (w:V) (B:List Sp):Prop where
 ew:EW p s u T
 n4:4<=n
 r:s[n]?=some (tO x)
 u:∀ j∈u.refs,j<n
 g:GW s 11 104 (n+1) w (B.map Sp.row)
def Aax{p:Gp}{n:Nat}{x:Tp}{s:St}{u w:V}{T:List Tp}{B:List Sp}(h:EX p n x s u T w B):n<s.length:=(Al.1 h.r).1
def Avw{p:Gp}{n:Nat}{x:Tp}{s:St}{u w:V}{T:List Tp}{B:List Sp}(h:EX p n x s u T w B)(l:St):EX p n x (s++l) u T w B:=
 ⟨Aaw h.ew (Z9 h.ew.t (C3 (Mu h.ew.t))) fun j hj _ _=>C3 hj,h.n4,Bs h.r,h.u,H0 h.g⟩
def Bdd{p:Gp}{n:Nat}{x:Tp}{s s':St}{u w:V}{T:List Tp}{B:List Sp}(h:EX p n x s u T w B)(hw:TW s s' 3):EX p n x s' u T w B:=by
 have hn:=Aax h;refine⟨Aaw h.ew hw.2.2.1 fun j hj h3 _=>hw.2.1 j hj h3,h.n4,(hw.2.1 n hn (by have:=h.n4;omega)).trans h.r,h.u,Gu h.g fun j hj=>?_⟩;obtain⟨a,b⟩:=C1 h.g j hj;exact hw.2.1 j b (by have:=h.n4;omega)
def Axr{p:Gp}{n:Nat}{x:Tp}{s:St}{u w:V}{T:List Tp}{B:List Sp}(h:EX p n x s u T w B)(y:Sp)(hb:B.length<=10000000):
  ∃ w' s',Dz 176 (11,104) w (.lst 1 [y.row]) s=some (w',s')/\EX p n x s' u T w' (B++[y])/\w'.cellB=true/\(∀ j,j<s.length->j ∉ w.refs->s'[j]?=s[j]?)/\∀ j∈w'.refs,j∈w.refs\/s.length<=j:=by
 have hn:=Aax h;have h4:=h.n4;obtain⟨w',s',a,g',l',k',r',-⟩:=Mp (bytes:=176) (y:=.lst 1 [y.row]) (ys:=[y].map Sp.row) h.g AA rfl AA (Uq B) (Uq [y]) (Ajh [y]) AJ;rw[<-Dl]at g';have hw:∀ j,j<=n->j ∉ w.refs:=fun j hj e=>by have:=(C1 h.g j e).1;omega
 refine⟨w',s',a,⟨Aaw h.ew (Z9 h.ew.t (k' 3 AA (hw 3 AA))) fun j hj _ qk=>k' j hj ?_,h4,(k' n hn (hw n (An _))).trans h.r,h.u,g'⟩,Bx g',k',r'⟩;rcases qk with rfl | rfl | qk
 .exact hw 1 AA
 .exact hw 2 AA
 .exact hw j (by have:=h.u j qk;omega)
def A8p{p:Gp}{n:Nat}{x:Tp}{s:St}{u w:V}{T:List Tp}{B:List Sp}(h:EX p n x s u T w B)(y:Sp)(hb:B.length<=10000000):
  ∃ s1 w' s',Dz 176 (11,104) (.lst 1 []) (.lst 1 [y.row]) s=some (.sl s.length 0 0 1 11 true,s1)/\Dz 176 (11,104) (.sl s.length 0 0 1 11 true) w s1=some (w',s')/\EX p n x s' u T w' (y::B)/\w'.cellB=true:=by
 have hn:=Aax h;have h4:=h.n4;have hy:=Ol y
 have e1:Dz 176 (11,104) (.lst 1 []) (.lst 1 [y.row]) s=some (.sl s.length 0 0 1 11 true,s++[.row y.row 104 0 0]):=by
  simp[Dz,Eu,Jr,hy]
 have h1:=Avw h [.row y.row 104 0 0];have g1:GW (s++([.row y.row 104 0 0]:St)) 11 104 (n+1) (.sl s.length 0 0 1 11 true) ([y].map Sp.row):=.inr ⟨by simp,s.length,0,rfl,by simp,by omega⟩;obtain⟨w',s',a,g',l',k',r',-⟩:=Mp (bytes:=176) (y:=w) (ys:=B.map Sp.row) g1 AJ (Bhy h1.g (Uq B)) AA (Uq [y]) (Uq B) (Ajh B) AJ;rw[<-Dl]at g';have hw:∀ j,j<s.length->j ∉ (V.sl s.length 0 0 1 11 true).refs:=fun j hj e=>by simp[V.refs]at e;omega
 have ju:(s++([.row y.row 104 0 0]:St)).length=s.length+1:=by simp
 refine⟨_,w',s',e1,a,⟨Aaw h1.ew (Z9 h1.ew.t (k' 3 AA (hw 3 AA))) fun j hj _ qk=>k' j hj ?_,h4,(k' n AA (hw n hn)).trans h1.r,h.u,g'⟩,Bx g'⟩;rcases qk with rfl | rfl | qk
 .exact hw 1 AA
 .exact hw 2 AA
 .exact hw j (by have:=h.u j qk;omega)
def Bie{p:Gp}{n:Nat}{x:Tp}{s:St}{u w:V}{T:List Tp}{B:List Sp}(h:EX p n x s u T w B)(hT:T.length<=1000000):
  ∃ s1 u' s2,Py 4 1 s [.str x.nm,iV x.line,SL x.lz x.lt (x.locals.map fun s=>[V.str s]),w]=some (.lst 1 [[.str x.nm,iV x.line,SL x.lz x.lt (x.locals.map fun s=>[V.str s]),SL true 0 (B.map Sp.row)]],s1) /\
   Dz 72 (4,90) u (.lst 1 [[.str x.nm,iV x.line,SL x.lz x.lt (x.locals.map fun s=>[V.str s]),SL true 0 (B.map Sp.row)]]) s1=some (u',s2)/\u'.cellB=true/\s2[2]?=some (.row [SL p.dz p.dt (p.decls.map Dp.row),u] 29 0 0) /\
   EW p (s2.set 2 (.row [SL p.dz p.dt (p.decls.map Dp.row),u'] 29 0 0)) u' (T++[⟨x.nm,x.line,x.lz,x.lt,x.locals,true,0,B⟩]):=by
 have hn:=Aax h;have h4:=h.n4;obtain⟨s1,e1,l1,f1,-⟩:=Aqk h.g (loc:=SL x.lz x.lt (x.locals.map fun s=>[V.str s])) (G8 ..) x.nm x.line;have hw:∀ j,j<=n->j ∉ w.refs:=fun j hj e=>by have:=(C1 h.g j e).1;omega
 have hx:Tp.row ⟨x.nm,x.line,x.lz,x.lt,x.locals,true,0,B⟩=[.str x.nm,iV x.line,SL x.lz x.lt (x.locals.map fun s=>[V.str s]),SL true 0 (B.map Sp.row)]:=rfl;have g1:GW s1 4 90 4 u (T.map Tp.row):=Gu h.ew.g fun i hi=>f1 i (hw i (by have:=h.u i hi;omega))
 obtain⟨u',s2,e2,g2,l2,k2,r2,-⟩:=Mp (bytes:=72) (y:=.lst 1 [Tp.row ⟨x.nm,x.line,x.lz,x.lt,x.locals,true,0,B⟩]) (ys:=[Tp.row ⟨x.nm,x.line,x.lz,x.lt,x.locals,true,0,B⟩]) g1 AA rfl AA (Ui T) (by simp;rfl) (fun r hr=>by rw[D4.1 hr,hx];simp only[Bp,Ce,G8];rfl) AJ;have hu:∀ j,j<4->j ∉ u.refs:=fun j hj e=>by have:=(C1 h.ew.g j e).1;omega
 have kk:∀ j,j<4->s2[j]?=s[j]?:=fun j hj=>(k2 j AA (hu j hj)).trans (f1 j (hw j AA))
 refine⟨s1,u',s2,e1,e2,Bx g2,(kk 2 AA).trans h.ew.o,?_,Bv AA,?_,?_⟩
 .rw[Bk AA,kk 1 AA];exact h.ew.z
 .exact Z9 h.ew.t ((Bk AA).trans (kk 3 AA))
 .rw[Dl,Ahh];exact Gu g2 fun j hj=>Bk fun e=>by have:=(C1 g2 j hj).1;omega
set_option maxHeartbeats 8000000 in
def Bde{p:Gp}(hp:OKp p)(z:Bool)(t:Nat)(l:List UInt8)(hl:l.length<=9223372036854775807):∃ q:Gp,Fn TT PT 14 [.agg p.row,SL z t (B4 l)] (.agg q.row)/\q.decls=p.decls/\EdT p.thrs q.thrs:=by
 have qm:=P6 p;have ql:=D7 p;have qp:=hp.few;have qn:=Yp l;have jb:(p.thrs.map Tp.row).length=p.thrs.length:=Aj ..;have e1:min (l.length:Int) 60=((min l.length 60:Nat):Int):=by omega
 obtain⟨z2,t2,qc⟩:=Wi z t 1 (B4 l) .i64 (min l.length 60) (by rw[qn];omega);rw[show(B4 l).take (min l.length 60)=B4 (l.take (min l.length 60)) by unfold B4;rw[R3]]at qc;rw[ql]at qm ⊢;refine Ayz T14 rfl ?_
 have w0:EW p [gO p,.row [.nils,.nils] 29 0 0,.row [SL p.dz p.dt (p.decls.map Dp.row),.nils] 29 0 0,.row [SL z2 t2 (B4 (l.take (min l.length 60))),iV 0] 95 0 0] .nils []:=
  ⟨rfl,rfl,⟨z2,t2,_,0,rfl,Av _,by rw[D5];omega⟩,De⟩
 simp only[go_sem,qn,e1,qc,jb];refine Bh (α:=Nat × St × V × List Tp) (fun a=>p.thrs.length - a.1) (fun a=>[(4,.ptr 1 0 0),(5,.ptr 2 0 0),(6,.ptr 3 0 0),(23,SL p.tz p.tt (p.thrs.map Tp.row)),(24,iV (p.thrs.length:Int)),(25,iV (a.1:Int))]) (fun a=>a.2.1) (fun a=>a.1<=p.thrs.length/\EW p a.2.1 a.2.2.1 a.2.2.2/\EdT (p.thrs.take a.1) a.2.2.2) ?_ (0,_,.nils,[]) ⟨Av _,w0,.nil⟩;clear w0;rintro⟨i,s,u,T⟩ ⟨hi,ew,hT⟩ ih;simp only at hi ew hT ih;have jn:T.length=i:=by rw[(Akk hT).2,D5];omega
 refine Az Bkx ?_;rcases Bb i p.thrs.length with qq | qq;rotate_left
 .have qr:i=p.thrs.length:=by omega
  rw[qr,Dg]at hT;have ho:=ew.o;have hz:=ew.z;have qd:=Alm ew;have hc:=Bx ew.g;obtain⟨qz,qA⟩:=Ji hc;simp only[go_sem,Bi qq,ho,hz,qz,qA,hc];have z5:(s.set 1 (.row [SL p.dz p.dt (p.decls.map Dp.row),u] 29 0 0))[1]?=some (.row [SL p.dz p.dt (p.decls.map Dp.row),u] 29 0 0):=Bv AA;refine⟨_,_,p.dz,p.dt,true,0,p.decls,T,Vp z5 rfl rfl,⟨Em (G8 ..),Sk ..⟩,⟨?_,hc⟩,rfl,hT⟩;exact I1 (Gu ew.g fun j hj=>Bk fun e=>by have:=(C1 ew.g j hj).1;omega) AA (Ui T) (Ac9 T)
 obtain⟨x,hx,-,jj⟩:=Bl qq;have jk:=P5 x;have qW:(x.body.map Sp.row).length=x.body.length:=Aj ..;have jw:=hp.siz x jj;have jv:=Afp x.body;have i1:IntKind.i64.wrap ((i:Int)+1)=((i+1:Nat):Int):=Ay AA;have qd:=Alm ew;obtain⟨s1,e1⟩:∃ s1:St,s1=s++[tO x]:=⟨_,rfl⟩
 have ex:EX p s.length x s1 u T .nils []:=by
  refine⟨Aaw ew (Z9 ew.t (by rw[e1];exact C3 (Mu ew.t))) fun j hj _ _=>by rw[e1];exact C3 hj,qd,by rw[e1];simp,fun j hj=>(C1 ew.g j hj).2,De⟩
 have qM:=ex.r;simp only[go_sem,Ar qq,Ai,hx,jk];rw[<-e1];simp only[go_sem,qM,qW];generalize s.length=n at *;clear qM e1 qd ew;clear s;refine Bh (α:=Nat × St × V × List Sp) (fun a=>x.body.length - a.1) (fun a=>[(4,.ptr 1 0 0),(5,.ptr 2 0 0),(6,.ptr 3 0 0),(8,.ptr n 0 0),(9,a.2.2.1),(23,SL p.tz p.tt (p.thrs.map Tp.row)),(24,iV (p.thrs.length:Int)),(25,iV (i:Int)),(30,SL x.bz x.bt (x.body.map Sp.row)),(31,iV (x.body.length:Int)),(32,iV (a.1:Int))]) (fun a=>a.2.1) (fun a=>a.1<=x.body.length/\EX p n x a.2.1 u T a.2.2.1 a.2.2.2/\EdB x.body a.1 a.2.2.2) ?_ (0,s1,.nils,[]) ⟨Av _,ex,A8m _⟩;clear ex;clear s1;rintro⟨k,s,w,B⟩ ⟨hk,ex,hB⟩ kh;simp only at hk ex hB kh;have qU:=hB.cnt;have qO:=Bx ex.g;refine Az Bkw ?_;rcases Bb k x.body.length with qe | qe;rotate_left
 .have qX:k=x.body.length:=by omega
  rw[qX]at hB;obtain⟨s1,u',s2,a1,a2,hc,a3,qR⟩:=Bie ex AA;obtain⟨qz,qA⟩:=Ji hc;obtain⟨jf,jg⟩:=Ji qO;have hr:=ex.r;have ho:=ex.ew.o;simp only[go_sem,Bi qe,hr,ho,jf,jg,qO,a1,a2,a3,qz,qA,hc,i1];refine Am (ih (i+1,_,u',_) AH ⟨qq,qR,?_⟩) rfl;have qs:p.thrs.take (i+1)=p.thrs.take i++[x]:=by rw[Hk,hx];rfl
  simp only[qs];exact Avv hT rfl rfl hB
 obtain⟨y,hy,-,-⟩:=Bl qe;have jl:x.body[k]=y:=(Al.1 hy).2;have b0:=A8n hB qe;have b1:=Avu hB qe;have b2:=Bdb hB qe;have b3:=A4p hB qe;rw[jl]at b1 b2 b3;have qi:=Fq y;have k1:IntKind.i64.wrap ((k:Int)+1)=((k+1:Nat):Int):=Ay AA;have qu:=Avw ex [.row y.row 104 0 0];obtain⟨s1,e1⟩:∃ s1:St,s1=s++[.row y.row 104 0 0]:=⟨_,rfl⟩;have r1:s1[s.length]?=some (.row y.row 104 0 0):=by rw[e1];simp
 rw[<-e1]at qu;obtain⟨r,s2,q2,tw,l2,-,-,-⟩:=Asr qu.ew.t 6 AA;have qj:=Bdd qu tw;have ji:s.length ∉ w.refs:=fun e=>by have:=(C1 ex.g _ e).2;omega
 have jd:s.length≠3:=by have:=Aax ex;have:=ex.n4;omega
 have r2:s2[s.length]?=some (.row y.row 104 0 0):=(tw.2.1 _ (Al.1 r1).1 jd).trans r1;rw[qi]at e1;have qQ:Bt TT PT 41 [.ptr 3 0 0,iV 6] s1 (iV (r:Int)) s2:=q2;simp only[go_sem,Ar qe,Ai,hy,qi];rw[<-e1];refine Aa qQ ?_;simp only[go_sem];generalize s.length=m at *;clear q2 qQ r1 e1 qu tw l2 ex;clear s1;clear s;refine A8o (fun e s'=>∃ w' B' X,e=(4,.ptr 1 0 0)::(5,.ptr 2 0 0)::(6,.ptr 3 0 0)::(8,.ptr n 0 0)::(9,w')::(23,SL p.tz p.tt (p.thrs.map Tp.row))::(24,iV (p.thrs.length:Int))::(25,iV (i:Int))::(30,SL x.bz x.bt (x.body.map Sp.row))::(31,iV (x.body.length:Int))::(32,iV (k:Int))::(11,.ptr m 0 0)::X/\EX p n x s' u T w' B'/\EdB x.body (k+1) (B'++[y])/\s'[m]?=some (.row y.row 104 0 0)/\B'.length<=3000000) (fun e s'=>∃ w' B' X,e=(4,.ptr 1 0 0)::(5,.ptr 2 0 0)::(6,.ptr 3 0 0)::(8,.ptr n 0 0)::(9,w')::(23,SL p.tz p.tt (p.thrs.map Tp.row))::(24,iV (p.thrs.length:Int))::(25,iV (i:Int))::(30,SL x.bz x.bt (x.body.map Sp.row))::(31,iV (x.body.length:Int))::(32,iV (k:Int))::X/\EX p n x s' u T w' B'/\EdB x.body (k+1) B') ?_ ?_ ?_;rotate_left
 .rintro _ s ⟨w',B',X,rfl,ex,qx,r3,qU⟩;obtain⟨w2,s2,a1,qj,hc,-,-⟩:=Axr ex y AA;rw[qi]at r3 a1;simp only[go_sem,r3,a1,k1];exact Am (kh (k+1,s2,w2,B'++[y]) AH ⟨qe,qj,qx⟩) rfl
 .rintro _ s ⟨w',B',X,rfl,ex,qx⟩;simp only[go_sem,k1];exact Am (kh (k+1,s,w',B') AH ⟨qe,ex,qx⟩) rfl
 intro R' k' hA hC;rw[qi]at r2;have one:∀ X,W TT PT (.c R'::.b 3::k') ((4,.ptr 1 0 0)::(5,.ptr 2 0 0)::(6,.ptr 3 0 0)::(8,.ptr n 0 0)::(9,w)::(23,SL p.tz p.tt (p.thrs.map Tp.row))::(24,iV (p.thrs.length:Int))::(25,iV (i:Int))::(30,SL x.bz x.bt (x.body.map Sp.row))::(31,iV (x.body.length:Int))::(32,iV (k:Int))::(11,.ptr m 0 0)::X) s2 _:=fun X=>hA _ _ ⟨w,B,X,rfl,qj,b1,by rw[qi];exact r2,by omega⟩
 have jc:m<s2.length:=(Al.1 r2).1
 have qG:Mc w=some (iV (B.length:Int)):=by
  have:=Bf8 (Aly qj.g)
  rwa [Aj]at this
 by_cases h1:r=1
 .have f1:((r:Int)==1)=true:=by simp[h1]
  by_cases ho:y.op=12
  .have f2:(y.op != 12)=false:=by simp[ho]
   simp only[go_sem,f1,r2,f2];exact one _
  .have f2:(y.op != 12)=true:=by simp[ho]
   simp only[go_sem,f1,r2,f2];exact hC _ _ ⟨w,B,_,rfl,qj,b0⟩
 have f1:((r:Int)==1)=false:=by rw[beq_eq_false_iff_ne];omega
 by_cases h2:r=2
 .have f2:((r:Int)==2)=true:=by simp[h2]
  by_cases ho:y.op=1
  .have f3:(y.op==1)=true:=by simp[ho]
   obtain⟨w3,s3,a1,qS,jo,k3,-⟩:=Axr qj y AA;have r3:=(k3 m jc ji).trans r2;rw[qi]at a1;simp only[go_sem,f1,f2,r2,f3,a1];exact hA _ _ ⟨w3,B++[y],_,rfl,qS,b2,by rw[qi];exact r3,by rw[Aq,Hi];omega⟩
  .have f3:(y.op==1)=false:=by simp[ho]
   simp only[go_sem,f1,f2,r2,f3];exact one _
 have f2:((r:Int)==2)=false:=by rw[beq_eq_false_iff_ne];omega
 by_cases h3:r=3;rotate_left
 .have f3:((r:Int)==3)=false:=by rw[beq_eq_false_iff_ne];omega
  simp only[go_sem,f1,f2,f3];exact one _
 have f3:((r:Int)==3)=true:=by simp[h3]
 by_cases jm:0<B.length;rotate_left
 .have f4:(0<(B.length:Int))=False:=eq_false AA;simp only[go_sem,f1,f2,f3,qG,f4];exact one _
 have f4:(0<(B.length:Int))=True:=eq_true AA;by_cases ho:y.op=1
 .have f5:(y.op==1)=true:=by simp[ho]
  obtain⟨s3,w4,s4,a1,a2,qT,-⟩:=A8p qj y AA;rw[qi]at a1;have f6:Py 11 0 s2 []=some (.lst 1 [],s2):=Awi rfl;simp only[go_sem,f1,f2,f3,qG,f4,r2,f5,f6,a1,a2];exact hC _ _ ⟨w4,y::B,_,rfl,qT,b3⟩
 .have f5:(y.op==1)=false:=by simp[ho]
  simp only[go_sem,f1,f2,f3,qG,f4,r2,f5];exact one _
def Bnn{p q:Gp}(hp:OKp p)(hd:q.decls=p.decls)(ht:EdT p.thrs q.thrs):CnG q/\(Ij q).length<=20000000000:=by
 obtain⟨a,b⟩:=Bdc hd ht (Ak9 hp.sh);exact⟨a,by have:=hp.len;omega⟩
section
variable {α β:Type} [DecidableEq α] [DecidableEq β]
theorem A4q(A B:List (β × List α)):(He (A++B)).length=(He A).length+(He B).length:=by grind[He]
def Ah9{nm:β}:∀ {A B:List (β × List α)},(∀ q∈A,q.1≠nm)->Hc nm (A++B)=((He A).length+(Hc nm B).1,(Hc nm B).2)
 | [],B,_=>by grind[He]
 | q::A,B,h=>by
  rw[Jb,Hc,if_neg (h q Cr),Ah9 fun r hr=>h r (Db _ hr),Acz,Aq,Aj]
  grind
def N5(nm:β)(Q:List (β × List α))(k:Nat):Prop:=∀ q∈Q.take k,q.1≠nm
def Atj(nm:β)(Q:List (β × List α)):N5 nm Q 0:=fun q hq=>by grind
def Atk{nm:β}{Q:List (β × List α)}{k:Nat}(h:N5 nm Q k){q:β × List α}(hq:Q[k]?=some q)(hn:q.1≠nm):N5 nm Q (k+1):=fun r hr=>by
 rw[Hk,hq]at hr;rcases Ch.1 hr with hr | hr
 .exact h r hr
 grind
def Gg(Q:List (β × List α))(k:Nat):Nat:=(He (Q.take k)).length
def Aia{Q:List (β × List α)}{k:Nat}{q:β × List α}(hq:Q[k]?=some q):Gg Q (k+1)=Gg Q k+q.2.length:=by
 grind[Gg,List.take_add_one,He]
def Zl(Q:List (β × List α))(k:Nat):Gg Q k<=(He Q).length:=by
 grind[Gg,A4q,List.take_append_drop]
def A4r{nm:β}{Q:List (β × List α)}{k:Nat}{q:β × List α}(h:N5 nm Q k)(hq:Q[k]?=some q)(hn:q.1=nm):Hc nm Q=(Gg Q k,some q.2):=by
 obtain⟨hk,he⟩:=Al.1 hq;have:=Ah9 (B:=Q.drop k) h;rw[Ja,Gr hk,he,Hc,if_pos hn]at this;exact this
theorem A2e{nm:β}{Q:List (β × List α)}(h:N5 nm Q Q.length):Hc nm Q=(Gg Q Q.length,none):=by
 have:=Ah9 (B:=[]) h
 grind[Hc,Gg]
inductive FoundR (nm:β) (Q:List (β × List α)) (k:Nat):Int->Nat->Prop
 | no:N5 nm Q k->FoundR nm Q k (-1) (Gg Q k)
 | yes {j:Nat} {q:β × List α}:j<k->N5 nm Q j->Q[j]?=some q->q.1=nm->FoundR nm Q k (j:Int) (Gg Q j)
def A2f(nm:β)(Q:List (β × List α)):FoundR nm Q 0 (-1) 0:=.no (Atj nm Q)
def A4s{nm:β}{Q:List (β × List α)}{k:Nat}{q:β × List α}(h:N5 nm Q k)(hq:Q[k]?=some q)(hn:q.1=nm):FoundR nm Q (k+1) (k:Int) (Gg Q k):=.yes (V4 k) h hq hn
def A2g{nm:β}{Q:List (β × List α)}{k j b:Nat}(h:FoundR nm Q k (j:Int) b):FoundR nm Q (k+1) (j:Int) b:=by
 generalize hf:(j:Int)=f at h
 cases h with
 | no h=>omega
 | yes h1 h2 h3 h4=>exact .yes AA h2 h3 h4
def A2h{nm:β}{Q:List (β × List α)}{k:Nat}{q:β × List α}(h:N5 nm Q k)(hq:Q[k]?=some q)(hn:q.1≠nm):FoundR nm Q (k+1) (-1) (Gg Q k+q.2.length):=by
 rw[<-Aia hq];exact .no (Atk h hq hn)
def Atl{nm:β}{s:List α}{Q:List (β × List α)}{k:Nat}{q:β × List α}(h:N5 nm Q k)(hq:Q[k]?=some q)(hn:q.1=nm):Jv (nm,s) Q=Jm (Gg Q k) (Dn 0 s q.2):=by
 unfold Jv;rw[A4r h hq hn,V2]
def Aqp{nm:β}{s:List α}{Q:List (β × List α)}(h:N5 nm Q Q.length):Jv (nm,s) Q=List.replicate s.length (-1)/\Jv (nm,s) Q=Jm (Gg Q Q.length) (Dn 0 s []):=by
 grind[A2e,Aqo,Jv]
def Aoo{P:List (β × List α)}{i:Nat}{p:β × List α}(Q:List (β × List α))(h:P[i]?=some p):Ih (P.take (i+1)) Q=Ih (P.take i) Q++Jv p Q:=by
 grind[Ih,List.take_add_one]
end
def H5(p:Gp):List (List UInt8 × List (List UInt8)):=p.thrs.map fun t=>(t.nm,Sp.hdss t.body)
def Fr(p q:Gp):List Int:=Ih (H5 p) (H5 q)
def Y6:∀ L:List Tp,(He (L.map fun t=>(t.nm,Sp.hdss t.body))).length=((L.map fun t=>Gf t.nm [] (Sp.hdss t.body)).flatten).length
 | []=>rfl
 | t::L=>by rw[A2,Acz,A2,Fe,Aq,Aq,Aj,Ul,Y6 L]
def Aph(p q:Gp):(Fr p q).length=(Ik p).length:=by
 unfold Fr;rw[Ah8];exact Y6 p.thrs
def Br(l:List Int):List V:=l.map fun x=>iV x
def Vq(R:List (List Int)):V:=.lst 0 (R.map fun r=>[.lst 0 (r.map fun x=>[iV x])])
def O9(L:List (Nat × List Int)):List V:=L.map fun p=>.sl p.1 0 0 p.2.length 1 true
def Aqq(l:List Int):Br l=(l.map fun x=>[iV x]).flatten:=by
 induction l with
 | nil=>rfl
 | cons a l ih=>rw[A2,Fe,<-ih];rfl
def Atm:∀ l:List V,Fk 1 l.length l=l.map fun x=>[x]
 | []=>rfl
 | a::l=>by rw[Bg,Fk,A2,Ahd,Jd,Atm l];rfl
def Aop{σ:St}{js:List Nat}{d:Nat}:∀ {L:List (Nat × List Int)},(∀ p∈L,∃ e z,σ[p.1]?=some (.row (Br p.2) e 0 z))->(∀ p∈L,p.1∈js) ->
  (O9 L).mapM (Fh σ js (d+2))=some (L.map fun p=>.lst 0 (p.2.map fun x=>[iV x]))
 | [],_,_=>rfl
 | p::L,h,hj=>by
  have ih:=Aop (d:=d) (fun q hq=>h q (Db _ hq)) fun q hq=>hj q (Db _ hq)
  obtain⟨e,z,ho⟩:=h p Cr;have hp:=hj p Cr;have h1:=Pz (xs:=p.2.map fun x=>[iV x]) (w:=true) (m:=1) (by rw[<-Aqq];exact ho) AA (fun r hr=>by grind) (fun r hr=>by obtain⟨x,-,rfl⟩:=Cs.1 hr;rfl);have h2:=h1 js (fun i hi=>by grind[V.refs]) d
  grind[O9]
def A2i{σ:St}{o e z:Nat}{js:List Nat}{d:Nat}{L:List (Nat × List Int)}(ho:σ[o]?=some (.row (O9 L) e 0 z))(h:∀ p∈L,∃ e z,σ[p.1]?=some (.row (Br p.2) e 0 z))(hj:∀ p∈L,p.1∈js)(je:o∈js):
  Fh σ js (d+3) (.sl o 0 0 L.length 1 true)=some (Vq (L.map fun p=>p.2)):=by
 have hl:(O9 L).length=L.length:=by unfold O9;rw[Aj]
 have he:js.elem o=true:=by simpa using je
 unfold Fh;rw[if_neg AQ];simp only[he,if_true,ho];rw[if_pos ⟨trivial,by omega,by omega⟩,Jd,Yu,<-hl,Dg,Aop h hj,Is];unfold Vq;have qd:(O9 L).length=(L.map fun p=>V.lst 0 (p.2.map fun x=>[iV x])).length:=by rw[hl,Aj]
 rw[qd,Atm,Yq,Yq];rfl
def Adx{R:List (List Int)}{i:Nat}{r:List Int}(h:R[i]?=some r):(R.map fun r=>[V.lst 0 (r.map fun x=>[iV x])])[i]?=some [.lst 0 (r.map fun x=>[iV x])]:=by
 grind
def Age{r:List Int}{j:Nat}{x:Int}(h:r[j]?=some x):(r.map fun x=>[iV x])[j]?=some [iV x]:=by
 grind
def A8q{r:List Int}{j:Nat}{x:Int}(h:r[j]?=some x):(Br r)[j]?=some (iV x):=by
 grind[Br]
def A8r(r:List Int)(j:Nat)(x:Int):(Br r).set j (iV x)=Br (r.set j x):=by
 grind[Br,List.map_set]
def Zm(n:Nat):List.replicate n (iV 0)=Br (List.replicate n 0):=by
 grind[Br,List.map_replicate]
def Axs{T:Nat->Option AF}{pr:Nat->Option (List V->Option V)}{f p:Nat}{res:List AR}{body:AC}{vs:List V}{R:List (List Int)}(hT:T f=some ⟨p,res,false,body,none⟩)(hl:vs.length=p)
  (h:W T pr [.c body] (C6 0 vs) [] (Hd fun e' σ1=>∃ (o e z:Nat) (L:List (Nat × List Int)),Ca e' σ1 res=some (.sl o 0 0 L.length 1 true)/\σ1[o]?=some (.row (O9 L) e 0 z)/\(∀ p∈L,∃ e z,σ1[p.1]?=some (.row (Br p.2) e 0 z))/\(L.map fun p=>p.2)=R)):Fn T pr f vs (Vq R):=by
 obtain⟨e',σ1,hE,o,e,z,L,hr,ho,hL,rfl⟩:=h;refine Apy hT rfl rfl hl ⟨e',σ1,hE,.sl o 0 0 L.length 1 true,o::L.map fun p=>p.1,hr,rfl,?_,rfl,rfl⟩;exact A2i (d:=6) ho hL (fun p hp=>Db _ (Cs.2 ⟨p,hp,rfl⟩)) Cr
variable {α:Type} [DecidableEq α]
/-! version.common: the rows from i on are there; row k is object 1 + (n - k) -/
def Rm(m b:Nat):V:=.sl b 0 0 (m+1) 1 true
def E8(n m i:Nat):List V:=(List.range (n+1)).map fun k=>if k<i then .nils else Rm m (1+(n - k))
def Fv(s t:List α)(k:Nat):List (List Int):=(List.range k).map fun d=>Gv s t (s.length - d)
def Gq(OT IT n m i:Nat)(R:List (List Int)):St:=.row (E8 n m i) OT 0 0::R.map fun r=>.row (Br r) IT 0 0
def Ady(n m i:Nat):(E8 n m i).length=n+1:=by grind[E8]
def A4t(n m:Nat):(List.replicate (n+1) V.nils).set n (Rm m 1)=E8 n m n:=by
 unfold E8;refine Ry AE fun k h1 h2=>?_
 grind
def A8s{n m i:Nat}(hi:i<n):(E8 n m (i+1)).set i (Rm m (1+(n - i)))=E8 n m i:=by
 unfold E8;refine Ry AE fun k h1 h2=>?_
 grind
def A8t{n m i k:Nat}(h:i<=k)(hk:k<=n):(E8 n m i)[k]?=some (Rm m (1+(n - k))):=by
 unfold E8
 grind
def Aiy(s t:List α)(k:Nat):(Fv s t k).length=k:=by grind[Fv]
def A2j(s t:List α)(k:Nat):Fv s t k++[Gv s t (s.length - k)]=Fv s t (k+1):=by
 grind[Fv,List.range_succ]
def Bdf(OT IT n m i:Nat)(R:List (List Int)):(Gq OT IT n m i R).length=1+R.length:=by grind[Gq]
def Bdg(OT IT n m i:Nat)(R:List (List Int))(r:List Int):Gq OT IT n m i R++[.row (Br r) IT 0 0]=Gq OT IT n m i (R++[r]):=by
 grind[Gq]
def Akl(OT IT n m i:Nat){R:List (List Int)}{k:Nat}{r:List Int}(h:R[k]?=some r):(Gq OT IT n m i R)[1+k]?=some (.row (Br r) IT 0 0):=by
 grind[Gq]
def Bdh(OT IT n m i:Nat)(R:List (List Int))(k:Nat)(r:List Int):(Gq OT IT n m i R).set (1+k) (.row (Br r) IT 0 0)=Gq OT IT n m i (R.set k r):=by
 grind[Gq,List.map_set]
def A2k(s t:List α){i:Nat}(hi:i<s.length)(r:List Int):(Fv s t (s.length - i)++[r])[s.length - (i+1)]?=some (Gv s t (i+1)):=by
 grind[Fv]
def A4u(s t:List α)(i:Nat)(r:List Int):(Fv s t (s.length - i)++[r])[s.length - i]?=some r:=by
 simp[Aiy]
def A4v(s t:List α)(i:Nat)(r r':List Int):(Fv s t (s.length - i)++[r]).set (s.length - i) r'=Fv s t (s.length - i)++[r']:=by
 simp[Aiy]
def A2l(s t:List α){i:Nat}(hi:i<=s.length):Fv s t (s.length - i)++[Gv s t i]=Fv s t (s.length - i+1):=by
 rw[<-A2j,show s.length - (s.length - i)=i by omega]
def vL(s t:List α):List (Nat × List Int):=(List.range (s.length+1)).map fun k=>(1+(s.length - k),Gv s t k)
def Bif(s t:List α):(vL s t).length=s.length+1:=by grind[vL]
def Big(s t:List α):((vL s t).map fun p=>p.2)=Ll s t:=by
 simp[vL,Ll]
def Bih(s t:List α):O9 (vL s t)=E8 s.length t.length 0:=by
 unfold O9 vL E8 Rm;simp[Wv]
def Bdi(OT IT:Nat)(s t:List α):∀ p∈vL s t,∃ e z,(Gq OT IT s.length t.length 0 (Fv s t (s.length+1)))[p.1]?=some (.row (Br p.2) e 0 z):=by
 intro p hp;unfold vL at hp;obtain⟨k,hk,rfl⟩:=Cs.1 hp;rw[Gw]at hk;refine⟨IT,0,Akl _ _ _ _ _ ?_⟩
 grind[Fv]
/-! the reference's common: all rows are there; row k is object 1 + k -/
def E9(n m i:Nat):List V:=(List.range (n+1)).map fun k=>if k<i then Rm m (1+k) else .nils
def Ei(s t:List α)(i j:Nat):List (List Int):=(List.range (s.length+1)).map fun k=>if k<i then Dm s t k t.length else if k=i then Dm s t i j else Gv s t k
def Ed(OT IT n m i:Nat)(R:List (List Int)):St:=.row (E9 n m i) OT 0 0::R.map fun r=>.row (Br r) IT 0 0
def Adz(n m i:Nat):(E9 n m i).length=n+1:=by grind[E9]
def A4w(n m:Nat):E9 n m 0=List.replicate (n+1) V.nils:=by
 unfold E9;refine Ry AE fun k h1 h2=>?_
 grind
def A8u{n m i:Nat}(hi:i<=n):(E9 n m i).set i (Rm m (1+i))=E9 n m (i+1):=by
 unfold E9;refine Ry AE fun k h1 h2=>?_
 grind
def A8v{n m k i:Nat}(hk:k<i)(hn:k<=n):(E9 n m i)[k]?=some (Rm m (1+k)):=by
 unfold E9
 grind
def Bdj(OT IT n m i:Nat)(R:List (List Int)):(Ed OT IT n m i R).length=1+R.length:=by grind[Ed]
def Bdk(OT IT n m i:Nat)(R:List (List Int))(r:List Int):Ed OT IT n m i R++[.row (Br r) IT 0 0]=Ed OT IT n m i (R++[r]):=by
 grind[Ed]
def Aaa(OT IT n m i:Nat){R:List (List Int)}{k:Nat}{r:List Int}(h:R[k]?=some r):(Ed OT IT n m i R)[1+k]?=some (.row (Br r) IT 0 0):=by
 grind[Ed]
def Avx(OT IT n m i:Nat)(R:List (List Int))(k:Nat)(r:List Int):(Ed OT IT n m i R).set (1+k) (.row (Br r) IT 0 0)=Ed OT IT n m i (R.set k r):=by
 grind[Ed,List.map_set]
def A4x(s t:List α)(i j:Nat):(Ei s t i j).length=s.length+1:=by grind[Ei]
def A1c(s t:List α):Ei s t s.length 0=List.replicate (s.length+1) (List.replicate (t.length+1) 0):=by
 unfold Ei;refine Ry AE fun k h1 h2=>?_
 rw[List.getElem_map,Ab9,List.getElem_replicate];simp at h2;by_cases h:k<s.length
 .simp_all [Atg]
 .have e:k=s.length:=by omega
  simp_all [Y5,Ath]
def A2m(s t:List α){i:Nat}(hi:i<s.length):Ei s t (i+1) 0=Ei s t i t.length:=by
 unfold Ei;refine List.map_congr_left fun k _=>?_
 by_cases h:k<i
 .grind
 .by_cases h2:k=i
  .grind
  .by_cases h3:k=i+1
   .subst h3;rw[if_neg AA,if_pos rfl,if_neg AA,if_neg AA,Y5]
   grind
def A4y(s t:List α){i j:Nat}(hi:i<=s.length):(Ei s t i j)[i]?=some (Dm s t i j):=by
 unfold Ei
 grind
def A2n(s t:List α){i j:Nat}(hi:i<s.length):(Ei s t i j)[i+1]?=some (Gv s t (i+1)):=by
 unfold Ei
 grind
def Aqr(s t:List α){i j:Nat}(hi:i<=s.length)(hj:j<t.length):(Ei s t i (j+1)).set i ((Dm s t i (j+1)).set j (Cc s t i j:Int))=Ei s t i j:=by
 rw[Ww s t hj];unfold Ei;refine Ry AE fun k h1 h2=>?_
 grind
def A2o(s t:List α):Ei s t 0 0=Ll s t:=by
 simp_all [Ei,Ll,Y5]
def rL(s t:List α):List (Nat × List Int):=(List.range (s.length+1)).map fun k=>(1+k,Gv s t k)
def Bii(s t:List α):(rL s t).length=s.length+1:=by grind[rL]
def Bij(s t:List α):((rL s t).map fun p=>p.2)=Ll s t:=by
 simp[rL,Ll]
def Bik(s t:List α):O9 (rL s t)=E9 s.length t.length (s.length+1):=by
 unfold O9 rL E9 Rm;simp[Wv]
def Bdl(OT IT i:Nat)(s t:List α):∀ p∈rL s t,∃ e z,(Ed OT IT s.length t.length i (Ll s t))[p.1]?=some (.row (Br p.2) e 0 z):=by
 intro p hp;unfold rL at hp;obtain⟨k,hk,rfl⟩:=Cs.1 hp;rw[Gw]at hk;exact⟨IT,0,Aaa _ _ _ _ _ (Zk s t AA)⟩
