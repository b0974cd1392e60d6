/- Walks: the lines of programs, both sides. -/
import Derived.Test.YtcoeikinocflnaaGreatDoorUb
import Derived.Test.YtcoeikinocflnaaGreatDoorUg
import Derived.Test.YtcoeikinocflnaaGreatDoorLe
set_option linter.all false
namespace Go.Proofs.YtcoeikinocflnaaGreatDoor.KM
open Go
def B7(t:Tp):List V:=[SL true 0 ((Sp.hdss t.body).map fun x=>[V.str x])]
theorem Ahw{σ:St}{lo e:Nat}{u:V}{X:List (List UInt8)}(h:GW σ 1 e lo u (X.map fun x=>[V.str x])):
  ∃ σ',Um 1 1 σ [u]=some (.lst 1 [[SL true 0 (X.map fun x=>[V.str x])]],σ')/\σ'.length=σ.length/\(∀ j,j ∉ u.refs->σ'[j]?=σ[j]?)/\(Cl σ->Cl σ'):=by
 have hoc:=Rm h (by omega) (Ahu X) (Ahv X)
 have hr:Aq [u]=u.refs:=by simp[Aq]
 have hs2:=hoc (Fr σ 9 u.refs.eraseDups) (fun i hi=>S8 σ 9 _ i (Yv.2 hi)) 7
 unfold Um
 rw[hr]
 simp only[Hk,Y5,hs2]
 refine⟨_,rfl,Qi _ _,fun j hj=>Aby _ _ _ fun hm=>?_,Ack _ _⟩
 rcases h with⟨rfl,-⟩ | ⟨hn,i,g,rfl,ho,hlo⟩
 ·simp[V.refs,Fr]at hm
 ·have:Fr σ 9 (V.refs (.sl i g 0 (X.map fun x=>[V.str x]).length 1 true)).eraseDups=[i]:=by
   have e1:(V.refs (.sl i g 0 (X.map fun x=>[V.str x]).length 1 true)).eraseDups=[i]:=by simp[V.refs,List.eraseDups_cons]
   rw[e1]
   have hx:Aq (X.map fun x=>[V.str x]).flatten=[]:=Jk (Ox (Ahv X))
   simp[Fr,ho,Ob.refs,hx]
  rw[this]at hm
  exact hj (by simpa[V.refs] using hm)
structure PX (p:Gp):Prop where
 few:p.thrs.length<=100000000
 tx:∀ t∈p.thrs,TxL t.body
 sz:∀ t∈p.thrs,Sp.szs t.body<=10000
theorem A1f{p:Gp}(h:ShG p)(hl:(Uq p).length<=1000000000)(hs:∀ t∈p.thrs,Sp.szs t.body<=10000):PX p:=by
 have hflat:((p.thrs.map Ja).flatten).length<=(Uq p).length:=by unfold Uq;simp
 have hmem:∀ (L:List Tp),10*L.length<=((L.map Ja).flatten).length/\∀ t∈L,(Ja t).length<=((L.map Ja).flatten).length:=fun L=>by
  induction L with
  | nil=>exact⟨by simp,fun t ht=>by cases ht⟩
  | cons a l ih=>
   have h1:10<=(Ja a).length:=by unfold Ja;simp;omega
   refine⟨by simp;have:=ih.1;simp at this;omega,fun t ht=>?_⟩
   rcases Br.1 ht with rfl | ht
   ·simp
   ·have:=ih.2 t ht
    simp at this ⊢
    omega
 refine⟨by have:=(hmem p.thrs).1;omega,fun t ht=>⟨h.thrs t ht,?_⟩,hs⟩
 have h1:=(hmem p.thrs).2 t ht
 have h2:=Qn t.body 0 1 (by omega)
 have h3:(Sp.txts 1 t.body).length<=(Ja t).length:=by unfold Ja;simp;omega
 omega
theorem Xz(L:List Tp):∀ r∈L.map B7,r.length=1:=fun r hr=>by obtain⟨x,-,rfl⟩:=Dc.1 hr;rfl
theorem X0(L:List Tp):∀ r∈L.map B7,r.all V.rowB=true:=fun r hr=>by
 obtain⟨x,-,rfl⟩:=Dc.1 hr
 simp only[B7,Am,Av,Xk]
 rfl
theorem G7(x:Gp):x.row=[SL x.dz x.dt (x.decls.map Dp.row),SL x.tz x.tt (x.thrs.map Tp.row)]:=rfl
theorem Pm(t:Tp):t.row=[.str t.nm,.int .i64 t.line,SL t.lz t.lt (t.locals.map fun s=>[V.str s]),SL t.bz t.bt (t.body.map Sp.row)]:=rfl
theorem Nu(x:Gp):x.row.all V.rowB=true:=by
 unfold Gp.row
 simp only[Am,Av,Xk]
 rfl
theorem Akz(x:Tp):x.row.all V.rowB=true:=by
 rw[Pm]
 simp only[Am,Av,Xk]
 rfl
theorem Ajc{σ:St}{lo m e bytes:Nat}{u:V}{xs:List (List V)}{row:List V}(h:GV σ m e lo u xs)(hlo:lo<=σ.length)(hm:0<m)(hl:∀ r∈xs,r.length=m)(hrl:row.length=m)(hr:row.all V.rowB=true)(hb:(xs.length+1)*bytes<=140737488355328)(hc:Cl σ):
  ∃ u' σ',Fm bytes (m,e) u (.lst 1 [row]) σ=some (u',σ')/\GV σ' m e lo u' (xs++[row])/\u'.cellB=true/\σ.length<=σ'.length/\(∀ j,j<σ.length->j ∉ u.refs->σ'[j]?=σ[j]?)/\Cl σ':=by
 obtain⟨u',σ',h1,h2,h3,h4,-⟩:=Ajt (bytes:=bytes) (y:=.lst 1 [row]) (ys:=[row]) h hlo rfl hm hl (fun r hr=>by rw[Mj.1 hr];exact hrl) hb
 obtain⟨-,h6⟩:=Xx h1 rfl (fun r hx=>by rw[Mj.1 hx];exact hr) (by
  rcases h with⟨rfl,-⟩ | ⟨i,g,rfl,-⟩
  ·exact .inl rfl
  ·exact .inr ⟨i,g,_,rfl⟩)
 refine⟨u',σ',h1,h2,Aig h2,h3,fun j hj hn=>h4 j (fun i g hu e=>hn ?_) hj,h6 hc⟩
 rw[hu,e]
 simp[V.refs]
theorem Akc{σ τ:St}{m e lo:Nat}{u:V}{xs:List (List V)}(h:GV σ m e lo u xs)(hk:∀ i∈u.refs,τ[i]?=σ[i]?):GV τ m e lo u xs:=by
 rcases h with h | ⟨i,g,h,ho,hlo⟩
 ·exact .inl h
 ·exact .inr ⟨i,g,h,by rw[hk i (by rw[h];simp[V.refs])];exact ho,hlo⟩
theorem Akd{σ:St}{m e lo:Nat}{u:V}{xs:List (List V)}(h:GV σ m e lo u xs):∀ i∈u.refs,lo<=i/\i<σ.length:=by
 intro j hj
 rcases h with⟨rfl,-⟩ | ⟨i,g,rfl,ho,hlo⟩
 ·simp[V.refs]at hj
 ·simp[V.refs]at hj
  subst hj
  exact⟨hlo,(Au.1 ho).1⟩
set_option maxHeartbeats 4000000 in
theorem Af2{p:Gp}(h:PX p):∃ z,Fn TT PT 24 [.agg p.row] (SL z 0 (p.thrs.map B7)):=by
 have hlen:(p.thrs.map Tp.row).length=p.thrs.length:=Bg ..
 have hps:=Nu p
 have hpr:=G7 p
 have hfew:=h.few
 refine⟨true,Ch T24 rfl ?_⟩
 have c0:Cl [.row p.row 27 0 0]:=Jr (s:=[]) (fun _ h=>by cases h) hps
 rw[hpr]at c0 hps ⊢
 simp only[go_sem,hlen]
 refine Cr (α:=Nat × St × V) (fun a=>p.thrs.length - a.1) (fun a=>[(3,a.2.2),(7,SL p.tz p.tt (p.thrs.map Tp.row)),(8,.int .i64 (p.thrs.length:Int)),(9,.int .i64 (a.1:Int))]) (fun a=>a.2.1) (fun a=>a.1<=p.thrs.length/\(GV a.2.1 1 88 1 a.2.2 ((p.thrs.take a.1).map B7)/\(a.1=0->a.2.2=.nils)/\(a.1≠0->a.2.2≠.nils))/\Cl a.2.1/\1<=a.2.1.length) ?_ (0,_,.nils) ⟨A5 _,⟨Axg,fun _=>rfl,fun h=>absurd rfl h⟩,c0,Ah _⟩
 rintro⟨i,s,u⟩ ⟨hi,⟨hg,hu0,hu1⟩,hc,hs1⟩ ih
 simp only at hi hg hu0 hu1 hc hs1 ih
 refine Ct (by delta lp24_0;exact rfl) ?_
 rcases B3 i p.thrs.length with h' | h'
 rotate_left
 ·have hi2:i=p.thrs.length:=by omega
  subst hi2
  rw[C6]at hg
  simp only[go_sem,D5 h']
  have hgw:GW s 1 88 1 u (p.thrs.map B7):=by
   rcases hg with hg | hg
   ·exact .inl hg
   ·refine .inr ⟨fun e=>?_,hg⟩
    have hn:p.thrs=[]:=List.map_eq_nil_iff.1 e
    have hu:=hu0 (by rw[hn];rfl)
    obtain⟨i,g,hu',-⟩:=hg
    rw[hu]at hu'
    cases hu'
  exact Akp hgw (by omega) (Xz _) (X0 _)
 obtain⟨x,hx,hd,hm⟩:=Eu h'
 have hrow:=Pm x
 have hset:=Akz x
 have hsz:=h.sz x hm
 obtain⟨s1,e1⟩:∃ s1:St,s1=s++[.row x.row 91 0 0]:=⟨_,rfl⟩
 have c1:Cl s1:=by rw[e1];exact Jr hc hset
 have l1:s1.length=s.length+1:=by rw[e1];simp
 obtain⟨v,s2,q2,G2⟩:=Aym (h.tx x hm) s1.length s1 .nils [] x.bz x.bt Fy (Ah _) c1 (by simp;omega)
 rw[Bw]at G2
 obtain⟨s3,e3,l3,f3,c3⟩:=Ahw G2.g
 have hul:∀ j∈u.refs,j<s.length:=fun j hj=>(Akd hg j hj).2
 have kk:∀ j,j<s.length->s3[j]?=s[j]?:=fun j hj=>by
  rw[f3 j fun e=>by have:=(Nc G2.g j e).1;omega,G2.kp j (by omega) (by simp[V.refs]),e1,B8 hj]
 have hg3:GV s3 1 88 1 u ((p.thrs.take i).map B7):=Akc hg fun j hj=>kk j (hul j hj)
 have hvc:=Ep G2.g
 obtain⟨hv1,hv2⟩:=Ai9 hvc
 obtain⟨u',s4,e4,g4,hcell,l4,k4,c4⟩:=Ajc (bytes:=24) (row:=B7 x) hg3 (by have:=G2.len;omega) (by omega) (Xz _) rfl (X0 [x] _ (by simp)) (by rw[Bg,Gm];omega) (c3 G2.cl)
 have htk:(p.thrs.take i).map B7++[B7 x]=(p.thrs.take (i+1)).map B7:=by
  rw[Ok,hx]
  simp
 rw[htk]at g4
 rw[show B7 x=[SL true 0 ((Sp.hdss x.body).map fun x=>[V.str x])] from rfl]at e4
 rw[hrow]at e1
 simp only[go_sem,Cb h',A7,hx,hrow]
 rw[<-e1]
 refine Ac q2 ?_
 simp only[go_sem,hv1,hv2,hvc,e3,e4,Bq (show i<9223372036854775807 by omega)]
 refine Bd (ih (i+1,s4,u') (by simp only;omega) ⟨h',⟨g4,fun h=>by simp at h,fun _ e=>?_⟩,c4,by have:=G2.len;have:=l3;simp only;omega⟩) rfl
 rcases g4 with⟨-,g4⟩ | ⟨_,_,g4,-⟩
 ·rw[<-htk]at g4
  simp at g4
 ·rw[g4]at e
  cases e
set_option maxHeartbeats 4000000 in
theorem Af3{p:Gp}(h:PX p):Fn TT PT 23 [.agg p.row] (.lst 0 (p.thrs.map B7)):=by
 have hlen:(p.thrs.map Tp.row).length=p.thrs.length:=Bg ..
 have hps:=Nu p
 have hpr:=G7 p
 have hfew:=h.few
 refine Ch T23 rfl ?_
 have c0:Cl [.row p.row 27 0 0,.row [] 88 0 0]:=Jr (s:=[.row p.row 27 0 0]) (Jr (s:=[]) (fun _ h=>by cases h) hps) rfl
 rw[hpr]at c0 hps ⊢
 have fmk:(0<=(p.thrs.length:Int))=True:=eq_true (by omega)
 have fmk2:(p.thrs.length*24<=140737488355328)=True:=eq_true (by omega)
 simp only[go_sem,hlen,fmk,fmk2,Sh,Int.toNat_zero,List.replicate_zero,List.flatten_nil,P9]
 refine Cr (α:=Nat × St × V) (fun a=>p.thrs.length - a.1) (fun a=>[(3,a.2.2),(11,SL p.tz p.tt (p.thrs.map Tp.row)),(12,.int .i64 (p.thrs.length:Int)),(13,.int .i64 (a.1:Int))]) (fun a=>a.2.1) (fun a=>a.1<=p.thrs.length/\(GV a.2.1 1 88 1 a.2.2 ((p.thrs.take a.1).map B7)/\a.2.2≠.nils)/\Cl a.2.1/\1<=a.2.1.length) ?_ (0,_,.sl 1 0 0 0 1 true) ⟨A5 _,⟨.inr ⟨1,0,rfl,rfl,Ah _⟩,fun h=>by cases h⟩,c0,by simp⟩
 rintro⟨i,s,u⟩ ⟨hi,⟨hg,hu1⟩,hc,hs1⟩ ih
 simp only at hi hg hu1 hc hs1 ih
 refine Ct (by delta lp23_0;exact rfl) ?_
 rcases B3 i p.thrs.length with h' | h'
 rotate_left
 ·have hi2:i=p.thrs.length:=by omega
  subst hi2
  rw[C6]at hg
  simp only[go_sem,D5 h']
  rcases hg with⟨e,-⟩ | ⟨i,g,rfl,ho,-⟩
  ·exact absurd e hu1
  ·exact Acc ho (by omega) (Xz _) (X0 _)
 obtain⟨x,hx,hd,hm⟩:=Eu h'
 have hrow:=Pm x
 have hset:=Akz x
 have hsz:=h.sz x hm
 obtain⟨s1,e1⟩:∃ s1:St,s1=s++[.row x.row 91 0 0]:=⟨_,rfl⟩
 have c1:Cl s1:=by rw[e1];exact Jr hc hset
 have l1:s1.length=s.length+1:=by rw[e1];simp
 obtain⟨v,s2,q2,G2⟩:=Ayn (h.tx x hm) s1.length s1 .nils [] x.bz x.bt Fy (Ah _) c1 (by simp;omega)
 rw[Bw]at G2
 obtain⟨s3,e3,l3,f3,c3⟩:=Ahw G2.g
 have hul:∀ j∈u.refs,j<s.length:=fun j hj=>(Akd hg j hj).2
 have kk:∀ j,j<s.length->s3[j]?=s[j]?:=fun j hj=>by
  rw[f3 j fun e=>by have:=(Nc G2.g j e).1;omega,G2.kp j (by omega) (by simp[V.refs]),e1,B8 hj]
 have hg3:GV s3 1 88 1 u ((p.thrs.take i).map B7):=Akc hg fun j hj=>kk j (hul j hj)
 have hvc:=Ep G2.g
 obtain⟨hv1,hv2⟩:=Ai9 hvc
 obtain⟨u',s4,e4,g4,hcell,l4,k4,c4⟩:=Ajc (bytes:=24) (row:=B7 x) hg3 (by have:=G2.len;omega) (by omega) (Xz _) rfl (X0 [x] _ (by simp)) (by rw[Bg,Gm];omega) (c3 G2.cl)
 have htk:(p.thrs.take i).map B7++[B7 x]=(p.thrs.take (i+1)).map B7:=by
  rw[Ok,hx]
  simp
 rw[htk]at g4
 rw[show B7 x=[SL true 0 ((Sp.hdss x.body).map fun x=>[V.str x])] from rfl]at e4
 rw[hrow]at e1
 simp only[go_sem,Cb h',A7,hx,hrow]
 rw[<-e1]
 refine Ac q2 ?_
 simp only[go_sem,hv1,hv2,hvc,e3,e4,Bq (show i<9223372036854775807 by omega)]
 refine Bd (ih (i+1,s4,u') (by simp only;omega) ⟨h',⟨g4,fun e=>?_⟩,c4,by have:=G2.len;have:=l3;simp only;omega⟩) rfl
 rcases g4 with⟨-,g4⟩ | ⟨_,_,g4,-⟩
 ·rw[<-htk]at g4
  simp at g4
 ·rw[g4]at e
  cases e
/-! keys -/
def A2q(nm ln:List UInt8)(n:Nat):List V:=[.str nm,.str ln,.int .i64 (n:Int)]
def Rw(nm:List UInt8):List (List UInt8)->List (List UInt8)->List (List V)
 | _,[]=>[]
 | P,x::X=>A2q nm x (P.count x)::Rw nm (P++[x]) X
def Uz(p:Gp):List (List V):=(p.thrs.map fun t=>Rw t.nm [] (Sp.hdss t.body)).flatten
theorem Aaa(nm:List UInt8):∀ (X P:List (List UInt8)),(Rw nm P X).length=X.length
 | [],_=>rfl
 | x::X,P=>by rw[Rw,Af,Aaa nm X,Af]
theorem Aol(L:List Tp):((L.map fun t=>Rw t.nm [] (Sp.hdss t.body)).flatten).length=(L.map fun t=>Sp.szs t.body).sum:=by
 induction L with
 | nil=>rfl
 | cons a l ih=>simp only[A1,Ea,Aj,Aaa,Hm,ih,List.sum_cons]
def Gc(p:Gp):List (List UInt8 × List (List UInt8)):=p.thrs.map fun t=>(t.nm,Sp.hdss t.body)
def H2(p q:Gp):List Int:=Ey (Gc p) (Gc q)
theorem S1:∀ L:List Tp,(Fe (L.map fun t=>(t.nm,Sp.hdss t.body))).length=((L.map fun t=>Rw t.nm [] (Sp.hdss t.body)).flatten).length
 | []=>rfl
 | t::L=>by rw[A1,Zn,A1,Ea,Aj,Aj,Bg,Aaa,S1 L]
theorem Ae1(p q:Gp):(H2 p q).length=(Uz p).length:=by
 unfold H2
 rw[Zo]
 exact S1 p.thrs
/-! maps -/
/-! keys -/
theorem Auy{L:List Tp}(h:∀ t∈L,Sp.szs t.body<=10000):(L.map fun t=>Sp.szs t.body).sum<=L.length*10000:=by
 induction L with
 | nil=>simp
 | cons a l ih=>
  have h1:=h a (by simp)
  have h2:=ih fun t ht=>h t (by simp[ht])
  rw[A1,List.sum_cons,Af,Fi]
  omega
end Go.Proofs.YtcoeikinocflnaaGreatDoor.KM
