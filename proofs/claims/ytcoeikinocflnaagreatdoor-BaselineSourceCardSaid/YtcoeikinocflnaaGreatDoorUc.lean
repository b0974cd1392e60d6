/- Walks: the lines of programs, both sides. -/
import Derived.Test.YtcoeikinocflnaaGreatDoorMm
set_option linter.all false
namespace Go.Proofs.YtcoeikinocflnaaGreatDoor.KM
open Go
def C8(t:Tp):List V:=[SL true 0 ((Sp.hdss t.body).map fun x=>[V.str x])]
theorem Aig{σ:St}{lo e:Nat}{u:V}{X:List (List UInt8)}(h:GW σ 1 e lo u (X.map fun x=>[V.str x])):
  ∃ σ',N2 1 1 σ [u]=some (.lst 1 [[SL true 0 (X.map fun x=>[V.str x])]],σ')/\σ'.length=σ.length/\(∀ j,j ∉ u.refs->σ'[j]?=σ[j]?)/\(Cl σ->Cl σ'):=by
 have hoc:=N3 h (by omega) (Aib X) (Aic X);have hr:Aj [u]=u.refs:=by simp[Aj]
 have hs2:=hoc (E3 σ 9 u.refs.eraseDups) (fun i hi=>Q4 σ 9 _ i (V7.2 hi)) 7;unfold N2;rw[hr];simp only[Hs,Wg,hs2];refine⟨_,rfl,Mg _ _,fun j hj=>Rp _ _ _ fun hm=>?_,Sa _ _⟩;rcases h with⟨rfl,-⟩ | ⟨hn,i,g,rfl,ho,hlo⟩
 ·simp[V.refs,E3]at hm
 ·have:E3 σ 9 (V.refs (.sl i g 0 (X.map fun x=>[V.str x]).length 1 true)).eraseDups=[i]:=by
   have e1:(V.refs (.sl i g 0 (X.map fun x=>[V.str x]).length 1 true)).eraseDups=[i]:=by simp[V.refs,List.eraseDups_cons]
   rw[e1];have hx:Aj (X.map fun x=>[V.str x]).flatten=[]:=Iu (J9 (Aic X));simp[E3,ho,Ob.refs,hx]
  rw[this]at hm;exact hj (by simpa[V.refs] using hm)
structure PX (p:Gp):Prop where
 few:p.thrs.length<=100000000
 tx:∀ t∈p.thrs,TxL t.body
 sz:∀ t∈p.thrs,Sp.szs t.body<=10000
theorem A1z{p:Gp}(h:ShG p)(hl:(Js p).length<=1000000000)(hs:∀ t∈p.thrs,Sp.szs t.body<=10000):PX p:=by
 have hflat:((p.thrs.map E7).flatten).length<=(Js p).length:=by unfold Js;simp
 have hmem:∀ (L:List Tp),10*L.length<=((L.map E7).flatten).length/\∀ t∈L,(E7 t).length<=((L.map E7).flatten).length:=fun L=>by
  induction L with
  | nil=>exact⟨by simp,fun t ht=>by cases ht⟩
  | cons a l ih=>
   have h1:10<=(E7 a).length:=by unfold E7;simp;omega
   refine⟨by simp;have:=ih.1;simp at this;omega,fun t ht=>?_⟩;rcases Be.1 ht with rfl | ht
   ·simp
   ·have:=ih.2 t ht;simp at this ⊢;omega
 refine⟨by have:=(hmem p.thrs).1;omega,fun t ht=>⟨h.thrs t ht,?_⟩,hs⟩;have h1:=(hmem p.thrs).2 t ht;have h2:=Q0 t.body 0 1 (by omega);have h3:(Sp.txts 1 t.body).length<=(E7 t).length:=by unfold E7;simp;omega
 omega
theorem Yr(L:List Tp):∀ r∈L.map C8,r.length=1:=fun r hr=>by obtain⟨x,-,rfl⟩:=D6.1 hr;rfl
theorem Ys(L:List Tp):∀ r∈L.map C8,r.all V.rowB=true:=fun r hr=>by
 obtain⟨x,-,rfl⟩:=D6.1 hr;simp only[C8,Au,A1,K4];rfl
theorem Px(x:Gp):x.row=[SL x.dz x.dt (x.decls.map Dp.row),SL x.tz x.tt (x.thrs.map Tp.row)]:=rfl
theorem Vg(t:Tp):t.row=[.str t.nm,.int .i64 t.line,SL t.lz t.lt (t.locals.map fun s=>[V.str s]),SL t.bz t.bt (t.body.map Sp.row)]:=rfl
theorem Py(x:Gp):x.row.all V.rowB=true:=by
 unfold Gp.row;simp only[Au,A1,K4];rfl
theorem Aly(x:Tp):x.row.all V.rowB=true:=by
 rw[Vg];simp only[Au,A1,K4];rfl
theorem Ajt{σ:St}{lo m e bytes:Nat}{u:V}{xs:List (List V)}{row:List V}(h:GV σ m e lo u xs)(hlo:lo<=σ.length)(hm:0<m)(hl:∀ r∈xs,r.length=m)(hrl:row.length=m)(hr:row.all V.rowB=true)(hb:(xs.length+1)*bytes<=140737488355328)(hc:Cl σ):
  ∃ u' σ',Eu bytes (m,e) u (.lst 1 [row]) σ=some (u',σ')/\GV σ' m e lo u' (xs++[row])/\u'.cellB=true/\σ.length<=σ'.length/\(∀ j,j<σ.length->j ∉ u.refs->σ'[j]?=σ[j]?)/\Cl σ':=by
 obtain⟨u',σ',h1,h2,h3,h4,-⟩:=Aj5 (bytes:=bytes) (y:=.lst 1 [row]) (ys:=[row]) h hlo rfl hm hl (fun r hr=>by rw[Ey.1 hr];exact hrl) hb
 obtain⟨-,h6⟩:=Yl h1 rfl (fun r hx=>by rw[Ey.1 hx];exact hr) (by
  rcases h with⟨rfl,-⟩ | ⟨i,g,rfl,-⟩
  ·exact .inl rfl
  ·exact .inr ⟨i,g,_,rfl⟩)
 refine⟨u',σ',h1,h2,Ai0 h2,h3,fun j hj hn=>h4 j (fun i g hu e=>hn ?_) hj,h6 hc⟩;rw[hu,e];simp[V.refs]
theorem Ak5{σ τ:St}{m e lo:Nat}{u:V}{xs:List (List V)}(h:GV σ m e lo u xs)(hk:∀ i∈u.refs,τ[i]?=σ[i]?):GV τ m e lo u xs:=by
 rcases h with h | ⟨i,g,h,ho,hlo⟩
 ·exact .inl h
 ·exact .inr ⟨i,g,h,by rw[hk i (by rw[h];simp[V.refs])];exact ho,hlo⟩
theorem Ak6{σ:St}{m e lo:Nat}{u:V}{xs:List (List V)}(h:GV σ m e lo u xs):∀ i∈u.refs,lo<=i/\i<σ.length:=by
 intro j hj;rcases h with⟨rfl,-⟩ | ⟨i,g,rfl,ho,hlo⟩
 ·simp[V.refs]at hj
 ·simp[V.refs]at hj;subst hj;exact⟨hlo,(Ar.1 ho).1⟩
set_option maxHeartbeats 4000000 in
theorem Agp{p:Gp}(h:PX p):∃ z,Fn TT PT 24 [.agg p.row] (SL z 0 (p.thrs.map C8)):=by
 have hlen:(p.thrs.map Tp.row).length=p.thrs.length:=Bl ..;have hps:=Py p;have hpr:=Px p;have hfew:=h.few;refine⟨true,Bn T24 rfl ?_⟩;have c0:Cl [.row p.row 27 0 0]:=Gv (s:=[]) (fun _ h=>by cases h) hps;rw[hpr]at c0 hps ⊢;simp only[go_sem,hlen];refine B9 (α:=Nat × St × V) (fun a=>p.thrs.length - a.1) (fun a=>[(3,a.2.2),(7,SL p.tz p.tt (p.thrs.map Tp.row)),(8,.int .i64 (p.thrs.length:Int)),(9,.int .i64 (a.1:Int))]) (fun a=>a.2.1) (fun a=>a.1<=p.thrs.length/\(GV a.2.1 1 88 1 a.2.2 ((p.thrs.take a.1).map C8)/\(a.1=0->a.2.2=.nils)/\(a.1≠0->a.2.2≠.nils))/\Cl a.2.1/\1<=a.2.1.length) ?_ (0,_,.nils) ⟨A2 _,⟨Axp,fun _=>rfl,fun h=>absurd rfl h⟩,c0,Ah _⟩;rintro⟨i,s,u⟩ ⟨hi,⟨hg,hu0,hu1⟩,hc,hs1⟩ ih;simp only at hi hg hu0 hu1 hc hs1 ih;refine Ca (by delta lp24_0;exact rfl) ?_;rcases Bx i p.thrs.length with h' | h';rotate_left
 ·have hi2:i=p.thrs.length:=by omega
  subst hi2;rw[Dc]at hg;simp only[go_sem,Cr h']
  have hgw:GW s 1 88 1 u (p.thrs.map C8):=by
   rcases hg with hg | hg
   ·exact .inl hg
   ·refine .inr ⟨fun e=>?_,hg⟩;have hn:p.thrs=[]:=List.map_eq_nil_iff.1 e;have hu:=hu0 (by rw[hn];rfl);obtain⟨i,g,hu',-⟩:=hg;rw[hu]at hu';cases hu'
  exact Ac9 hgw (by omega) (Yr _) (Ys _)
 obtain⟨x,hx,hd,hm⟩:=Dd h';have hrow:=Vg x;have hset:=Aly x;have hsz:=h.sz x hm;obtain⟨s1,e1⟩:∃ s1:St,s1=s++[.row x.row 91 0 0]:=⟨_,rfl⟩;have c1:Cl s1:=by rw[e1];exact Gv hc hset
 have l1:s1.length=s.length+1:=by rw[e1];simp
 obtain⟨v,s2,q2,G2⟩:=Ayx (h.tx x hm) s1.length s1 .nils [] x.bz x.bt F4 (Ah _) c1 (by simp;omega);rw[Es]at G2;obtain⟨s3,e3,l3,f3,c3⟩:=Aig G2.g;have hul:∀ j∈u.refs,j<s.length:=fun j hj=>(Ak6 hg j hj).2
 have kk:∀ j,j<s.length->s3[j]?=s[j]?:=fun j hj=>by
  rw[f3 j fun e=>by have:=(Et G2.g j e).1;omega,G2.kp j (by omega) (by simp[V.refs]),e1,Co hj]
 have hg3:GV s3 1 88 1 u ((p.thrs.take i).map C8):=Ak5 hg fun j hj=>kk j (hul j hj)
 have hvc:=D2 G2.g;obtain⟨hv1,hv2⟩:=Id hvc;obtain⟨u',s4,e4,g4,hcell,l4,k4,c4⟩:=Ajt (bytes:=24) (row:=C8 x) hg3 (by have:=G2.len;omega) (by omega) (Yr _) rfl (Ys [x] _ (by simp)) (by rw[Bl,F2];omega) (c3 G2.cl)
 have htk:(p.thrs.take i).map C8++[C8 x]=(p.thrs.take (i+1)).map C8:=by
  rw[Ql,hx];simp
 rw[htk]at g4;rw[show C8 x=[SL true 0 ((Sp.hdss x.body).map fun x=>[V.str x])] from rfl]at e4;rw[hrow]at e1;simp only[go_sem,B7 h',Bb,hx,hrow];rw[<-e1];refine Ac q2 ?_;simp only[go_sem,hv1,hv2,hvc,e3,e4,Bg (show i<9223372036854775807 by omega)];refine Bi (ih (i+1,s4,u') (by simp only;omega) ⟨h',⟨g4,fun h=>by simp at h,fun _ e=>?_⟩,c4,by have:=G2.len;have:=l3;simp only;omega⟩) rfl;rcases g4 with⟨-,g4⟩ | ⟨_,_,g4,-⟩
 ·rw[<-htk]at g4;simp at g4
 ·rw[g4]at e;cases e
set_option maxHeartbeats 4000000 in
theorem Agq{p:Gp}(h:PX p):Fn TT PT 23 [.agg p.row] (.lst 0 (p.thrs.map C8)):=by
 have hlen:(p.thrs.map Tp.row).length=p.thrs.length:=Bl ..;have hps:=Py p;have hpr:=Px p;have hfew:=h.few;refine Bn T23 rfl ?_;have c0:Cl [.row p.row 27 0 0,.row [] 88 0 0]:=Gv (s:=[.row p.row 27 0 0]) (Gv (s:=[]) (fun _ h=>by cases h) hps) rfl;rw[hpr]at c0 hps ⊢;have fmk:(0<=(p.thrs.length:Int))=True:=eq_true (by omega);have fmk2:(p.thrs.length*24<=140737488355328)=True:=eq_true (by omega);simp only[go_sem,hlen,fmk,fmk2,Mf,Int.toNat_zero,List.replicate_zero,Zz,Int.le_refl];refine B9 (α:=Nat × St × V) (fun a=>p.thrs.length - a.1) (fun a=>[(3,a.2.2),(11,SL p.tz p.tt (p.thrs.map Tp.row)),(12,.int .i64 (p.thrs.length:Int)),(13,.int .i64 (a.1:Int))]) (fun a=>a.2.1) (fun a=>a.1<=p.thrs.length/\(GV a.2.1 1 88 1 a.2.2 ((p.thrs.take a.1).map C8)/\a.2.2≠.nils)/\Cl a.2.1/\1<=a.2.1.length) ?_ (0,_,.sl 1 0 0 0 1 true) ⟨A2 _,⟨.inr ⟨1,0,rfl,rfl,Ah _⟩,fun h=>by cases h⟩,c0,by simp⟩;rintro⟨i,s,u⟩ ⟨hi,⟨hg,hu1⟩,hc,hs1⟩ ih;simp only at hi hg hu1 hc hs1 ih;refine Ca (by delta lp23_0;exact rfl) ?_;rcases Bx i p.thrs.length with h' | h';rotate_left
 ·have hi2:i=p.thrs.length:=by omega
  subst hi2;rw[Dc]at hg;simp only[go_sem,Cr h'];rcases hg with⟨e,-⟩ | ⟨i,g,rfl,ho,-⟩
  ·exact absurd e hu1
  ·exact Ali ho (by omega) (Yr _) (Ys _)
 obtain⟨x,hx,hd,hm⟩:=Dd h';have hrow:=Vg x;have hset:=Aly x;have hsz:=h.sz x hm;obtain⟨s1,e1⟩:∃ s1:St,s1=s++[.row x.row 91 0 0]:=⟨_,rfl⟩;have c1:Cl s1:=by rw[e1];exact Gv hc hset
 have l1:s1.length=s.length+1:=by rw[e1];simp
 obtain⟨v,s2,q2,G2⟩:=Ayy (h.tx x hm) s1.length s1 .nils [] x.bz x.bt F4 (Ah _) c1 (by simp;omega);rw[Es]at G2;obtain⟨s3,e3,l3,f3,c3⟩:=Aig G2.g;have hul:∀ j∈u.refs,j<s.length:=fun j hj=>(Ak6 hg j hj).2
 have kk:∀ j,j<s.length->s3[j]?=s[j]?:=fun j hj=>by
  rw[f3 j fun e=>by have:=(Et G2.g j e).1;omega,G2.kp j (by omega) (by simp[V.refs]),e1,Co hj]
 have hg3:GV s3 1 88 1 u ((p.thrs.take i).map C8):=Ak5 hg fun j hj=>kk j (hul j hj)
 have hvc:=D2 G2.g;obtain⟨hv1,hv2⟩:=Id hvc;obtain⟨u',s4,e4,g4,hcell,l4,k4,c4⟩:=Ajt (bytes:=24) (row:=C8 x) hg3 (by have:=G2.len;omega) (by omega) (Yr _) rfl (Ys [x] _ (by simp)) (by rw[Bl,F2];omega) (c3 G2.cl)
 have htk:(p.thrs.take i).map C8++[C8 x]=(p.thrs.take (i+1)).map C8:=by
  rw[Ql,hx];simp
 rw[htk]at g4;rw[show C8 x=[SL true 0 ((Sp.hdss x.body).map fun x=>[V.str x])] from rfl]at e4;rw[hrow]at e1;simp only[go_sem,B7 h',Bb,hx,hrow];rw[<-e1];refine Ac q2 ?_;simp only[go_sem,hv1,hv2,hvc,e3,e4,Bg (show i<9223372036854775807 by omega)];refine Bi (ih (i+1,s4,u') (by simp only;omega) ⟨h',⟨g4,fun e=>?_⟩,c4,by have:=G2.len;have:=l3;simp only;omega⟩) rfl;rcases g4 with⟨-,g4⟩ | ⟨_,_,g4,-⟩
 ·rw[<-htk]at g4;simp at g4
 ·rw[g4]at e;cases e
/-! keys -/
def Gm(nm ln:List UInt8)(n:Nat):List V:=[.str nm,.str ln,.int .i64 (n:Int)]
def E0(nm:List UInt8):List (List UInt8)->List (List UInt8)->List (List V)
 | _,[]=>[]
 | P,x::X=>Gm nm x (P.count x)::E0 nm (P++[x]) X
def Jx(p:Gp):List (List V):=(p.thrs.map fun t=>E0 t.nm [] (Sp.hdss t.body)).flatten
theorem Q1(nm:List UInt8):∀ (X P:List (List UInt8)),(E0 nm P X).length=X.length
 | [],_=>rfl
 | x::X,P=>by rw[E0,Am,Q1 nm X,Am]
theorem X4(nm:List UInt8):∀ (X P:List (List UInt8)),∀ r∈E0 nm P X,r.length=3/\r.all V.rowB=true
 | [],_,r,hr=>by cases hr
 | x::X,P,r,hr=>by
  rw[E0]at hr;rcases Be.1 hr with rfl | hr
  ·exact⟨rfl,rfl⟩
  ·exact X4 nm X _ r hr
theorem Rh(L:List Tp):∀ r∈(L.map fun t=>E0 t.nm [] (Sp.hdss t.body)).flatten,r.length=3/\r.all V.rowB=true:=fun r hr=>by
 obtain⟨l,hl,hr⟩:=Wc.1 hr;obtain⟨t,-,rfl⟩:=D6.1 hl;exact X4 _ _ _ r hr
theorem Aa5(L:List Tp):((L.map fun t=>E0 t.nm [] (Sp.hdss t.body)).flatten).length=(L.map fun t=>Sp.szs t.body).sum:=by
 induction L with
 | nil=>rfl
 | cons a l ih=>simp only[Ba,E9,Ao,Q1,Iy,ih,List.sum_cons]
