/- Walks: the lines of programs, both sides. -/
import Derived.Test.YthlbbjcbmojocabGreatDoorIn
set_option linter.all false
namespace Go.Proofs.YthlbbjcbmojocabGreatDoor.KM
open Go
def Dt(t:Tp):List V:=[SL true 0 ((Sp.hdss t.body).map fun x=>[V.str x])]
def Anu{σ:St}{lo e:Nat}{u:V}{X:List (List UInt8)}(h:GW σ 1 e lo u (X.map fun x=>[V.str x])):
  ∃ σ',Ny 1 1 σ [u]=some (.lst 1 [[SL true 0 (X.map fun x=>[V.str x])]],σ')/\σ'.length=σ.length/\(∀ j,j ∉ u.refs->σ'[j]?=σ[j]?)/\(Cl σ->Cl σ'):=by
 have jn:=O6 h (by omega) (Ans X) (Ant X);have hr:Am [u]=u.refs:=by simp[Am]
 have jq:=jn (Fw σ 9 u.refs.eraseDups) (fun i hi=>Ui σ 9 _ i (Zh.2 hi)) 7;unfold Ny;rw[hr];simp only[Ik,Zu,jq];refine⟨_,rfl,Om _ _,fun j hj=>U9 _ _ _ fun hm=>?_,Vn _ _⟩;rcases h with⟨rfl,-⟩ | ⟨hn,i,g,rfl,ho,qo⟩
 .simp[V.refs,Fw]at hm
 .have:Fw σ 9 (V.refs (.sl i g 0 (X.map fun x=>[V.str x]).length 1 true)).eraseDups=[i]:=by
   have e1:(V.refs (.sl i g 0 (X.map fun x=>[V.str x]).length 1 true)).eraseDups=[i]:=by simp[V.refs,List.eraseDups_cons]
   rw[e1];have hx:Am (X.map fun x=>[V.str x]).flatten=[]:=K0 (Mn (Ant X));simp[Fw,ho,Ob.refs,hx]
  rw[this]at hm;exact hj (by simpa[V.refs] using hm)
structure PX (p:Gp):Prop where
 few:p.thrs.length<=100000000
 tx:∀ t∈p.thrs,TxL t.body
 sz:∀ t∈p.thrs,Sp.szs t.body<=10000
def Ba0{p:Gp}(h:ShG p)(hl:(Fe p).length<=1000000000)(hs:∀ t∈p.thrs,Sp.szs t.body<=10000):PX p:=by
 have qJ:((p.thrs.map D1).flatten).length<=(Fe p).length:=by unfold Fe;simp
 have qr:∀ (L:List Tp),10*L.length<=((L.map D1).flatten).length/\∀ t∈L,(D1 t).length<=((L.map D1).flatten).length:=fun L=>by
  induction L with
  | nil=>exact⟨by simp,fun t ht=>by cases ht⟩
  | cons a l ih=>
   have h1:10<=(D1 a).length:=by unfold D1;simp;omega
   refine⟨by simp;have:=ih.1;simp at this;omega,fun t ht=>?_⟩;rcases Bi.1 ht with rfl | ht
   .simp
   .have:=ih.2 t ht;simp at this ⊢;omega
 refine⟨by have:=(qr p.thrs).1;omega,fun t ht=>⟨h.thrs t ht,?_⟩,hs⟩;have h1:=(qr p.thrs).2 t ht;have h2:=Uc t.body 0 1 (by omega);have h3:(Sp.txts 1 t.body).length<=(D1 t).length:=by unfold D1;simp;omega
 omega
def Acm(L:List Tp):∀ r∈L.map Dt,r.length=1:=fun r hr=>by obtain⟨x,-,rfl⟩:=De.1 hr;rfl
def Acn(L:List Tp):∀ r∈L.map Dt,r.all V.rowB=true:=fun r hr=>by
 obtain⟨x,-,rfl⟩:=De.1 hr;simp only[Dt,As,Bd,Jt];rfl
def Ha(x:Gp):x.row=[SL x.dz x.dt (x.decls.map Dp.row),SL x.tz x.tt (x.thrs.map Tp.row)]:=rfl
def Sq(t:Tp):t.row=[.str t.nm,iV t.line,SL t.lz t.lt (t.locals.map fun s=>[V.str s]),SL t.bz t.bt (t.body.map Sp.row)]:=rfl
def Vp(x:Gp):x.row.all V.rowB=true:=by
 unfold Gp.row;simp only[As,Bd,Jt];rfl
def Asb(x:Tp):x.row.all V.rowB=true:=by
 rw[Sq];simp only[As,Bd,Jt];rfl
def Apw{σ:St}{lo m e bytes:Nat}{u:V}{xs:List (List V)}{row:List V}(h:GV σ m e lo u xs)(qo:lo<=σ.length)(hm:0<m)(hl:∀ r∈xs,r.length=m)(jo:row.length=m)(hr:row.all V.rowB=true)(hb:(xs.length+1)*bytes<=140737488355328)(hc:Cl σ):
  ∃ u' σ',Ef bytes (m,e) u (.lst 1 [row]) σ=some (u',σ')/\GV σ' m e lo u' (xs++[row])/\u'.cellB=true/\σ.length<=σ'.length/\(∀ j,j<σ.length->j ∉ u.refs->σ'[j]?=σ[j]?)/\Cl σ':=by
 obtain⟨u',σ',h1,h2,h3,h4,-⟩:=Aqe (bytes:=bytes) (y:=.lst 1 [row]) (ys:=[row]) h qo rfl hm hl (fun r hr=>by rw[E0.1 hr];exact jo) hb
 obtain⟨-,h6⟩:=Acj h1 rfl (fun r hx=>by rw[E0.1 hx];exact hr) (by
  rcases h with⟨rfl,-⟩ | ⟨i,g,rfl,-⟩
  .exact .inl rfl
  .exact .inr ⟨i,g,_,rfl⟩)
 refine⟨u',σ',h1,h2,Aoq h2,h3,fun j hj hn=>h4 j (fun i g hu e=>hn ?_) hj,h6 hc⟩;rw[hu,e];simp[V.refs]
def Arh{σ τ:St}{m e lo:Nat}{u:V}{xs:List (List V)}(h:GV σ m e lo u xs)(hk:∀ i∈u.refs,τ[i]?=σ[i]?):GV τ m e lo u xs:=by
 rcases h with h | ⟨i,g,h,ho,qo⟩
 .exact .inl h
 .exact .inr ⟨i,g,h,by rw[hk i (by rw[h];simp[V.refs])];exact ho,qo⟩
def Ari{σ:St}{m e lo:Nat}{u:V}{xs:List (List V)}(h:GV σ m e lo u xs):∀ i∈u.refs,lo<=i/\i<σ.length:=by
 intro j hj;rcases h with⟨rfl,-⟩ | ⟨i,g,rfl,ho,qo⟩
 .simp[V.refs]at hj
 .simp[V.refs]at hj;subst hj;exact⟨qo,(Aq.1 ho).1⟩
set_option maxHeartbeats 4000000 in
def Awc{p:Gp}(h:PX p):∃ z,Fn TT PT 16 [.agg p.row] (SL z 0 (p.thrs.map Dt)):=by
 have qa:(p.thrs.map Tp.row).length=p.thrs.length:=Ba ..;have qe:=Vp p;have qm:=Ha p;have qj:=h.few;refine⟨true,Bz T16 rfl ?_⟩;have c0:Cl [.row p.row 28 0 0]:=H5 (s:=[]) (fun _ h=>by cases h) qe;rw[qm]at c0 qe ⊢;simp only[go_sem,qa];refine B3 (α:=Nat × St × V) (fun a=>p.thrs.length - a.1) (fun a=>[(3,a.2.2),(7,SL p.tz p.tt (p.thrs.map Tp.row)),(8,iV (p.thrs.length:Int)),(9,iV (a.1:Int))]) (fun a=>a.2.1) (fun a=>a.1<=p.thrs.length/\(GV a.2.1 1 48 1 a.2.2 ((p.thrs.take a.1).map Dt)/\(a.1=0->a.2.2=.nils)/\(a.1≠0->a.2.2≠.nils))/\Cl a.2.1/\1<=a.2.1.length) ?_ (0,_,.nils) ⟨A0 _,⟨A55,fun _=>rfl,fun h=>absurd rfl h⟩,c0,Ai _⟩;rintro⟨i,s,u⟩ ⟨hi,⟨hg,qN,qv⟩,hc,qF⟩ ih;simp only at hi hg qN qv hc qF ih;refine B4 (by delta lp16_0;exact rfl) ?_;rcases Bu i p.thrs.length with h' | h';rotate_left
 .have qk:i=p.thrs.length:=by omega
  subst qk;rw[D8]at hg;simp only[go_sem,Ck h']
  have jd:GW s 1 48 1 u (p.thrs.map Dt):=by
   rcases hg with hg | hg
   .exact .inl hg
   .refine .inr ⟨fun e=>?_,hg⟩;have hn:p.thrs=[]:=List.map_eq_nil_iff.1 e;have hu:=qN (by rw[hn];rfl);obtain⟨i,g,qM,-⟩:=hg;rw[hu]at qM;cases qM
  exact Aht jd (by omega) (Acm _) (Acn _)
 obtain⟨x,hx,hd,hm⟩:=C3 h';have qb:=Sq x;have qn:=Asb x;have jt:=h.sz x hm;obtain⟨s1,e1⟩:∃ s1:St,s1=s++[.row x.row 51 0 0]:=⟨_,rfl⟩;have c1:Cl s1:=by rw[e1];exact H5 hc qn
 have l1:s1.length=s.length+1:=by rw[e1];simp
 obtain⟨v,s2,q2,G2⟩:=A7s (h.tx x hm) s1.length s1 .nils [] x.bz x.bt Gk (Ai _) c1 (by simp;omega);rw[Bf]at G2;obtain⟨s3,e3,l3,f3,c3⟩:=Anu G2.g;have qG:∀ j∈u.refs,j<s.length:=fun j hj=>(Ari hg j hj).2
 have kk:∀ j,j<s.length->s3[j]?=s[j]?:=fun j hj=>by
  rw[f3 j fun e=>by have:=(Dz G2.g j e).1;omega,G2.kp j (by omega) (by simp[V.refs]),e1,Ca hj]
 have qD:GV s3 1 48 1 u ((p.thrs.take i).map Dt):=Arh hg fun j hj=>kk j (qG j hj)
 have qs:=Dq G2.g;obtain⟨qH,qI⟩:=H2 qs;obtain⟨u',s4,e4,g4,qg,l4,k4,c4⟩:=Apw (bytes:=24) (row:=Dt x) qD (by have:=G2.len;omega) (by omega) (Acm _) rfl (Acn [x] _ (by simp)) (by rw[Ba,Gz];omega) (c3 G2.cl)
 have qf:(p.thrs.take i).map Dt++[Dt x]=(p.thrs.take (i+1)).map Dt:=by
  rw[Mj,hx];simp
 rw[qf]at g4;rw[show Dt x=[SL true 0 ((Sp.hdss x.body).map fun x=>[V.str x])] from rfl]at e4;rw[qb]at e1;simp only[go_sem,Bx h',Av,hx,qb];rw[<-e1];refine Ab q2 ?_;simp only[go_sem,qH,qI,qs,e3,e4,Bk (show i<9223372036854775807 by omega)];refine Bg (ih (i+1,s4,u') (by simp only;omega) ⟨h',⟨g4,fun h=>by simp at h,fun _ e=>?_⟩,c4,by have:=G2.len;have:=l3;simp only;omega⟩) rfl;rcases g4 with⟨-,g4⟩ | ⟨_,_,g4,-⟩
 .rw[<-qf]at g4;simp at g4
 .rw[g4]at e;cases e
set_option maxHeartbeats 4000000 in
def Aln{p:Gp}(h:PX p):Fn TT PT 14 [.agg p.row] (.lst 0 (p.thrs.map Dt)):=by
 have qa:(p.thrs.map Tp.row).length=p.thrs.length:=Ba ..;have qe:=Vp p;have qm:=Ha p;have qj:=h.few;refine Bz T14 rfl ?_;have c0:Cl [.row p.row 28 0 0,.row [] 48 0 0]:=H5 (s:=[.row p.row 28 0 0]) (H5 (s:=[]) (fun _ h=>by cases h) qe) rfl;rw[qm]at c0 qe ⊢;have qW:(0<=(p.thrs.length:Int))=True:=eq_true (by omega);have qx:(p.thrs.length*24<=140737488355328)=True:=eq_true (by omega);simp only[go_sem,qa,qW,qx,Rl,Int.toNat_zero,List.replicate_zero,Zl,Ad8];refine B3 (α:=Nat × St × V) (fun a=>p.thrs.length - a.1) (fun a=>[(3,a.2.2),(11,SL p.tz p.tt (p.thrs.map Tp.row)),(12,iV (p.thrs.length:Int)),(13,iV (a.1:Int))]) (fun a=>a.2.1) (fun a=>a.1<=p.thrs.length/\(GV a.2.1 1 48 1 a.2.2 ((p.thrs.take a.1).map Dt)/\a.2.2≠.nils)/\Cl a.2.1/\1<=a.2.1.length) ?_ (0,_,.sl 1 0 0 0 1 true) ⟨A0 _,⟨.inr ⟨1,0,rfl,rfl,Ai _⟩,fun h=>by cases h⟩,c0,by simp⟩;rintro⟨i,s,u⟩ ⟨hi,⟨hg,qv⟩,hc,qF⟩ ih;simp only at hi hg qv hc qF ih;refine B4 (by delta lp14_0;exact rfl) ?_;rcases Bu i p.thrs.length with h' | h';rotate_left
 .have qk:i=p.thrs.length:=by omega
  subst qk;rw[D8]at hg;simp only[go_sem,Ck h'];rcases hg with⟨e,-⟩ | ⟨i,g,rfl,ho,-⟩
  .exact absurd e qv
  .exact Ahq ho (by omega) (Acm _) (Acn _)
 obtain⟨x,hx,hd,hm⟩:=C3 h';have qb:=Sq x;have qn:=Asb x;have jt:=h.sz x hm;obtain⟨s1,e1⟩:∃ s1:St,s1=s++[.row x.row 51 0 0]:=⟨_,rfl⟩;have c1:Cl s1:=by rw[e1];exact H5 hc qn
 have l1:s1.length=s.length+1:=by rw[e1];simp
 obtain⟨v,s2,q2,G2⟩:=A7t (h.tx x hm) s1.length s1 .nils [] x.bz x.bt Gk (Ai _) c1 (by simp;omega);rw[Bf]at G2;obtain⟨s3,e3,l3,f3,c3⟩:=Anu G2.g;have qG:∀ j∈u.refs,j<s.length:=fun j hj=>(Ari hg j hj).2
 have kk:∀ j,j<s.length->s3[j]?=s[j]?:=fun j hj=>by
  rw[f3 j fun e=>by have:=(Dz G2.g j e).1;omega,G2.kp j (by omega) (by simp[V.refs]),e1,Ca hj]
 have qD:GV s3 1 48 1 u ((p.thrs.take i).map Dt):=Arh hg fun j hj=>kk j (qG j hj)
 have qs:=Dq G2.g;obtain⟨qH,qI⟩:=H2 qs;obtain⟨u',s4,e4,g4,qg,l4,k4,c4⟩:=Apw (bytes:=24) (row:=Dt x) qD (by have:=G2.len;omega) (by omega) (Acm _) rfl (Acn [x] _ (by simp)) (by rw[Ba,Gz];omega) (c3 G2.cl)
 have qf:(p.thrs.take i).map Dt++[Dt x]=(p.thrs.take (i+1)).map Dt:=by
  rw[Mj,hx];simp
 rw[qf]at g4;rw[show Dt x=[SL true 0 ((Sp.hdss x.body).map fun x=>[V.str x])] from rfl]at e4;rw[qb]at e1;simp only[go_sem,Bx h',Av,hx,qb];rw[<-e1];refine Ab q2 ?_;simp only[go_sem,qH,qI,qs,e3,e4,Bk (show i<9223372036854775807 by omega)];refine Bg (ih (i+1,s4,u') (by simp only;omega) ⟨h',⟨g4,fun e=>?_⟩,c4,by have:=G2.len;have:=l3;simp only;omega⟩) rfl;rcases g4 with⟨-,g4⟩ | ⟨_,_,g4,-⟩
 .rw[<-qf]at g4;simp at g4
 .rw[g4]at e;cases e
/-! keys -/
def Hu(nm ln:List UInt8)(n:Nat):List V:=[.str nm,.str ln,iV (n:Int)]
def Fl(nm:List UInt8):List (List UInt8)->List (List UInt8)->List (List V)
 | _,[]=>[]
 | P,x::X=>Hu nm x (P.count x)::Fl nm (P++[x]) X
def Iy(p:Gp):List (List V):=(p.thrs.map fun t=>Fl t.nm [] (Sp.hdss t.body)).flatten
def Pw(nm:List UInt8):∀ (X P:List (List UInt8)),(Fl nm P X).length=X.length
 | [],_=>rfl
 | x::X,P=>by rw[Fl,Ah,Pw nm X,Ah]
def Agh(nm:List UInt8):∀ (X P:List (List UInt8)),∀ r∈Fl nm P X,r.length=3/\r.all V.rowB=true
 | [],_,r,hr=>by cases hr
 | x::X,P,r,hr=>by
  rw[Fl]at hr;rcases Bi.1 hr with rfl | hr
  .exact⟨rfl,rfl⟩
  .exact Agh nm X _ r hr
def Agi(L:List Tp):∀ r∈(L.map fun t=>Fl t.nm [] (Sp.hdss t.body)).flatten,r.length=3/\r.all V.rowB=true:=fun r hr=>by
 obtain⟨l,hl,hr⟩:=Zm.1 hr;obtain⟨t,-,rfl⟩:=De.1 hl;exact Agh _ _ _ r hr
def Alo(L:List Tp):((L.map fun t=>Fl t.nm [] (Sp.hdss t.body)).flatten).length=(L.map fun t=>Sp.szs t.body).sum:=by
 induction L with
 | nil=>rfl
 | cons a l ih=>simp only[Aw,D3,Aj,Pw,K4,ih,List.sum_cons]
/-! maps -/
/-! keys -/
def Alp(nm:List UInt8):∀ (X P:List (List UInt8)) (k:Nat) (x:List UInt8),X[k]?=some x->(Fl nm P X)[k]?=some (Hu nm x ((P++X.take k).count x))
 | [],_,_,_,h=>by simp at h
 | y::X,P,0,x,h=>by
  simp at h;subst h;simp[Fl]
 | y::X,P,k+1,x,h=>by
  rw[Fl,Jm,Alp nm X (P++[y]) k x (by simpa using h)];simp
def Auv{nm:List UInt8}{X:List (List UInt8)}{k:Nat}{x:List UInt8}(h:X[k]?=some x):(Fl nm [] X).take k++[Hu nm x ((X.take k).count x)]=(Fl nm [] X).take (k+1):=by
 have:=Alp nm X [] k x h;rw[Bf]at this;rw[Mj,this];rfl
def Agj{L:List Tp}(h:∀ t∈L,Sp.szs t.body<=10000):(L.map fun t=>Sp.szs t.body).sum<=L.length*10000:=by
 induction L with
 | nil=>simp
 | cons a l ih=>
  have h1:=h a (by simp);have h2:=ih fun t ht=>h t (by simp[ht])
  rw[Aw,List.sum_cons,Ah,E1];omega
def Ss(L:List Tp):List (List V):=(L.map fun t=>Fl t.nm [] (Sp.hdss t.body)).flatten
def Auw{L:List Tp}{i:Nat}{x:Tp}(h:L[i]?=some x):Ss (L.take (i+1))=Ss (L.take i)++Fl x.nm [] (Sp.hdss x.body):=by
 unfold Ss;rw[Mj,h];simp
set_option maxHeartbeats 4000000 in
def Afm{p:Gp}(h:PX p):Fn TT PT 8 [.agg p.row] (SL true 0 (Iy p)):=by
 obtain⟨zL,hL⟩:=Awc h;have qe:=Vp p;have qm:=Ha p;have qj:=h.few;have js:=Agj h.sz;have qu:(p.thrs.map Dt).length=p.thrs.length:=Ba ..;rw[qm]at hL qe ⊢;refine Bz T8 rfl ?_;simp only[go_sem];refine Ad hL (by simp only[go_sem]) ?_;simp only[go_sem,qu];refine B3 (α:=Nat × St × V) (fun a=>p.thrs.length - a.1) (fun a=>[(1,.ptr 0 0 0),(3,a.2.2),(12,SL zL 0 (p.thrs.map Dt)),(13,iV (p.thrs.length:Int)),(14,iV (a.1:Int))]) (fun a=>a.2.1) (fun a=>a.1<=p.thrs.length/\GW a.2.1 3 38 1 a.2.2 (Ss (p.thrs.take a.1))/\a.2.1[0]?=some (.row [SL p.dz p.dt (p.decls.map Dp.row),SL p.tz p.tt (p.thrs.map Tp.row)] 28 0 0)) ?_ (0,_,.nils) ⟨A0 _,Gk,rfl⟩;rintro⟨i,s,u⟩ ⟨hi,hg,hs⟩ ih;simp only at hi hg hs ih;refine B4 (by delta lp8_2;exact rfl) ?_;rcases Bu i p.thrs.length with h' | h';rotate_left
 .have qk:i=p.thrs.length:=by omega
  subst qk;rw[D8]at hg;simp only[go_sem,Ck h'];exact Aht hg (by omega) (fun r hr=>(Agi _ r hr).1) (fun r hr=>(Agi _ r hr).2)
 obtain⟨x,hx,hd,hm⟩:=C3 h';have qb:=Sq x;have jz:=h.sz x hm;have jj:Dt x=[SL true 0 ((Sp.hdss x.body).map fun x=>[V.str x])]:=rfl;have qY:((Sp.hdss x.body).map fun x=>[V.str x]).length=(Sp.hdss x.body).length:=Ba ..;have jD:=K4 x.body;have qf:=Auw hx
 have ja:(Ss (p.thrs.take i)).length<=100000000*10000:=by
  have h1:=Alo (p.thrs.take i);have h2:=Agj (L:=p.thrs.take i) fun t ht=>h.sz t (Zd ht)
  have h3:(p.thrs.take i).length*10000<=100000000*10000:=Fq _ (by rw[Gz];omega);unfold Ss;omega
 generalize hX:Sp.hdss x.body=X at *;simp only[go_sem,Bx h',Av,hx,jj,hX,qY];refine B3 (α:=Nat × St × V) (fun a=>X.length - a.1) (fun a=>[(1,.ptr 0 0 0),(3,a.2.2),(4,iV (i:Int)),(5,SL true 0 (X.map fun x=>[V.str x])),(12,SL zL 0 (p.thrs.map Dt)),(13,iV (p.thrs.length:Int)),(14,iV (i:Int)),(19,SL true 0 (X.map fun x=>[V.str x])),(20,iV (X.length:Int)),(21,iV (a.1:Int))]) (fun a=>a.2.1) (fun a=>a.1<=X.length/\GW a.2.1 3 38 1 a.2.2 (Ss (p.thrs.take i)++(Fl x.nm [] X).take a.1)/\a.2.1[0]?=some (.row [SL p.dz p.dt (p.decls.map Dp.row),SL p.tz p.tt (p.thrs.map Tp.row)] 28 0 0)) ?_ (0,s,u) ⟨A0 _,by simpa using hg,hs⟩;clear hg hs u s;rintro⟨k,s,u⟩ ⟨hk,hg,hs⟩ jh;simp only at hk hg hs jh;refine B4 (by delta lp8_1;exact rfl) ?_;rcases Bu k X.length with h3 | h3;rotate_left
 .rw[show(Fl x.nm [] X).take k=Fl x.nm [] X from Mi (by rw[Pw];omega),<-qf]at hg;simp only[go_sem,Ck h3,Bk (show i<9223372036854775807 by omega)];exact Bg (ih (i+1,s,u) (by simp only;omega) ⟨h',hg,hs⟩) rfl
 obtain⟨y,hy,-,-⟩:=C3 h3;obtain⟨z2,t2,qc⟩:=Ww true 0 1 (X.map fun x=>[V.str x]) .i64 k (by rw[Ba];omega);rw[<-Zw]at qc;have jf:((X.take k).map fun x=>[V.str x]).length=k:=by rw[Ba,Gz];omega
 simp only[go_sem,Bx h3,Av,hy,qc,jf];refine B3 (α:=Nat) (fun j=>k - j) (fun j=>[(1,.ptr 0 0 0),(3,u),(4,iV (i:Int)),(5,SL true 0 (X.map fun x=>[V.str x])),(7,.str y),(8,iV (((X.take j).count y:Nat):Int)),(12,SL zL 0 (p.thrs.map Dt)),(13,iV (p.thrs.length:Int)),(14,iV (i:Int)),(19,SL true 0 (X.map fun x=>[V.str x])),(20,iV (X.length:Int)),(21,iV (k:Int)),(28,SL z2 t2 ((X.take k).map fun x=>[V.str x])),(29,iV (k:Int)),(30,iV (j:Int))]) (fun _=>s) (fun j=>j<=k) ?_ 0 (A0 _);rintro j hj kh;have jF:(X.take j).count y<=k:=Cz List.count_le_length (by rw[Gz];omega);refine B4 (by delta lp8_0;exact rfl) ?_;rcases Bu j k with h4 | h4
 .obtain⟨w,hw⟩:∃ w,X[j]?=some w:=⟨_,A2 (by omega)⟩;have qP:(X.take k)[j]?=some w:=by rw[Fi,if_pos h4];exact hw
  have qB:(X.take (j+1)).count y=(X.take j).count y+(if w=y then 1 else 0):=by
   rw[Mj,hw,List.count_append]
   by_cases e:w=y<;>simp[e]
  by_cases e:w=y
  .have f1:(w==y)=true:=by simp[e]
   rw[if_pos e]at qB;have w1:IntKind.i64.wrap ((((X.take j).count y:Nat):Int)+1)=(((X.take (j+1)).count y:Nat):Int):=by rw[Ec (by omega),qB];rfl
   simp only[go_sem,Bx h4,Av,qP,f1,w1,Bk (show j<9223372036854775807 by omega)];exact Bg (kh (j+1) (by omega) h4) rfl
  .have f1:(w==y)=false:=by simp[e]
   rw[if_neg e]at qB;have qC:(X.take j).count y=(X.take (j+1)).count y:=by omega
   rw[qC];simp only[go_sem,Bx h4,Av,qP,f1,Bk (show j<9223372036854775807 by omega)];exact Bg (kh (j+1) (by omega) h4) rfl
 obtain rfl:j=k:=by omega
 have jg:=Auv (nm:=x.nm) hy
 obtain⟨u',s',ha,g',l',kp,rf,-⟩:=Qi (bytes:=40) (y:=.lst 1 [Hu x.nm y ((X.take j).count y)]) (ys:=[Hu x.nm y ((X.take j).count y)]) hg (by have:=(Aq.1 hs).1;omega) rfl (by omega) (fun r hr=>by
  rcases Cr.1 hr with hr | hr
  .exact(Agi _ r hr).1
  .exact(Agh _ _ _ r (Zd hr)).1) (by simp[Hu]) (by simp[Hu,V.rowB]) (by rw[Aj,Gz,Pw];simp only[Ih];omega)
 rw[Br,jg]at g';have jp:=(kp 0 (Aq.1 hs).1 fun e=>by have:=(Dz hg 0 e).1;omega).trans hs;have qg:=Dq g';unfold Hu at ha;simp only[go_sem,Ck h4,hs,Av,hx,qb,ha,Bk (show j<9223372036854775807 by omega)];exact Bg (jh (j+1,s',u') (by simp only;omega) ⟨h3,g',jp⟩) rfl
def Akn(nm:List UInt8):∀ (X P:List (List UInt8)),∀ r∈Fl nm P X,∃ nm ln n,r=Hu nm ln n
 | [],_,r,hr=>by cases hr
 | x::X,P,r,hr=>by
  rw[Fl]at hr;rcases Bi.1 hr with rfl | hr
  .exact⟨_,_,_,rfl⟩
  .exact Akn nm X _ r hr
def Aux{p:Gp}:∀ r∈Iy p,∃ nm ln n,r=Hu nm ln n:=fun r hr=>by
 obtain⟨l,hl,hr⟩:=Zm.1 hr;obtain⟨t,-,rfl⟩:=De.1 hl;exact Akn _ _ _ r hr
section
variable {α:Type} [DecidableEq α]
def Ex:List α->List α->Nat
 | [],_=>0
 | _::_,[]=>0
 | a::s,b::t=>if a=b then 1+Ex s t else max (Ex s (b::t)) (Ex (a::s) t)
def Nv(t:List α):Ex [] t=0:=by rw[Ex]
def Qp(s:List α):Ex s []=0:=by cases s<;>rw[Ex]
def O5(a b:α)(s t:List α):Ex (a::s) (b::t)=if a=b then 1+Ex s t else max (Ex s (b::t)) (Ex (a::s) t):=by rw[Ex]
mutual
theorem Ah5(a:α)(s t:List α):Ex s t<=Ex (a::s) t/\Ex (a::s) t<=Ex s t+1:=
 match s,t with
 | s,[]=>by rw[Qp,Qp];omega
 | [],b::t=>by
  have h:=Ah5 a [] t;rw[Nv]at h ⊢;rw[O5,Nv]
  split
  .omega
  .rw[Nv];omega
 | c::s,b::t=>by
  have h1:=Ah5 a (c::s) t;have h2:=Ah6 b (c::s) t;rw[O5 a b]
  split
  .omega
  .omega
termination_by s.length+t.length
theorem Ah6(b:α)(s t:List α):Ex s t<=Ex s (b::t)/\Ex s (b::t)<=Ex s t+1:=
 match s,t with
 | [],t=>by rw[Nv,Nv];omega
 | a::s,[]=>by
  have h:=Ah6 b s [];rw[Qp]at h ⊢;rw[O5,Qp]
  split
  .omega
  .rw[Qp];omega
 | a::s,c::t=>by
  have h1:=Ah6 b s (c::t);have h2:=Ah5 a s (c::t);rw[O5 a b]
  split
  .omega
  .omega
termination_by s.length+t.length
end
def Anv:∀ s:List α,Ex s s=s.length
 | []=>Nv _
 | a::s=>by rw[O5,if_pos rfl,Anv s,Ah];omega
def Aco:∀ (s t:List α),Ex s t<=s.length/\Ex s t<=t.length
 | [],t=>by rw[Nv];simp
 | a::s,[]=>by rw[Qp];simp
 | a::s,b::t=>by
  have h1:=Aco s t;have h2:=Aco s (b::t);have h3:=Aco (a::s) t;rw[O5];simp only[Ah]at *
  split<;>omega
termination_by s t=>s.length+t.length
def Sx(a:α)(s t:List α)(k:Nat):Bool:=decide (t[k]?=some a)&&(1+Ex s (t.drop (k+1))==Ex (a::s) t)
def Lh(a:α)(s t:List α):Option Nat:=(List.range t.length).find? (Sx a s t)
def Dj:Nat->List α->List α->List Int
 | _,[],_=>[]
 | j,a::s,t=>match Lh a s t with
  | some k=>((j+k:Nat):Int)::Dj (j+k+1) s (t.drop (k+1))
  | none => -1::Dj j s t
def Abw:∀ (s:List α) (j:Nat) (t:List α),(Dj j s t).length=s.length
 | [],_,_=>by rw[Dj];rfl
 | a::s,j,t=>by
  rw[Dj]
  split
  .rw[Ah,Abw s,Ah]
  .rw[Ah,Abw s,Ah]
def Anw{a:α}{s t:List α}{k:Nat}(h:Lh a s t=some k):k<t.length/\t[k]?=some a/\1+Ex s (t.drop (k+1))=Ex (a::s) t:=by
 have h1:=List.find?_some h;have h2:=List.mem_of_find?_eq_some h;unfold Sx at h1;simp only[Af,decide_eq_true_eq,beq_iff_eq]at h1;exact⟨En.1 h2,h1.1,h1.2⟩
def Anx(a:α)(s:List α):Lh a s (a::s)=some 0:=by
 unfold Lh;rw[Ah,List.range_succ_eq_map,List.find?_cons];have:Sx a s (a::s) 0=true:=by unfold Sx;simp[Anv];omega
 rw[this]
def Anz:∀ (s:List α) (j:Nat),Dj j s s=(List.range s.length).map fun i=>((j+i:Nat):Int)
 | [],_=>by rw[Dj];rfl
 | a::s,j=>by
  rw[Dj,Anx];simp only[Zf,Ll];rw[Anz s,Ah,List.range_succ_eq_map,Aw,Ol];congr 1;refine Wa fun i _=>?_
  simp only[Function.comp];omega
def Aa6:∀ (s:List α) (j:Nat) (t:List α) (i:Nat) (n:Int),(Dj j s t)[i]?=some n->n = -1\/∃ k,n=((j+k:Nat):Int)/\k<t.length/\t[k]?=s[i]?/\∀ i' n',i'<i->(Dj j s t)[i']?=some n'->n'<n
 | [],_,_,i,n,h=>by rw[Dj]at h;simp at h
 | a::s,j,t,i,n,h=>by
  rw[Dj]at h ⊢
  split at h
  .rename_i k hk;obtain⟨h1,h2,-⟩:=Anw hk
   cases i with
   | zero=>
    simp at h;exact .inr ⟨k,by omega,h1,by rw[h2];rfl,fun i' n' hi=>by omega⟩
   | succ i=>
    rw[Jm]at h;rcases Aa6 s (j+k+1) (t.drop (k+1)) i n h with h3 | ⟨m,rfl,h4,h5,h6⟩
    .exact .inl h3
    .rw[Dx]at h4;rw[Ii]at h5;refine .inr ⟨k+1+m,by omega,by omega,by rw[h5,Jm],fun i' n' hi hn=>?_⟩
     cases i' with
     | zero=>simp at hn;omega
     | succ i'=>rw[Jm]at hn;exact h6 i' n' (by omega) hn
  .rename_i hk
   cases i with
   | zero=>simp at h;exact .inl h.symm
   | succ i=>
    rw[Jm]at h;rcases Aa6 s j t i n h with h3 | ⟨m,rfl,h4,h5,h6⟩
    .exact .inl h3
    .refine .inr ⟨m,rfl,h4,by rw[h5,Jm],fun i' n' hi hn=>?_⟩
     cases i' with
     | zero=>simp at hn;omega
     | succ i'=>rw[Jm]at hn;exact h6 i' n' (by omega) hn
end
section
variable {α β:Type} [DecidableEq α] [DecidableEq β]
def D2(s t:List α)(i j:Nat):Nat:=Ex (s.drop i) (t.drop j)
def A7u(s t:List α)(j:Nat):D2 s t s.length j=0:=by unfold D2;rw[List.drop_length,Nv]
def A7v(s t:List α)(i:Nat):D2 s t i t.length=0:=by unfold D2;rw[List.drop_length,Qp]
def A3n(s t:List α){i j:Nat}(hi:i<s.length)(hj:j<t.length):D2 s t i j=if s[i]=t[j] then 1+D2 s t (i+1) (j+1) else max (D2 s t (i+1) j) (D2 s t i (j+1)):=by
 unfold D2;rw[Gr hi,Gr hj,O5]
def Apx(s t:List α)(i j:Nat):D2 s t i j<=s.length/\D2 s t i j<=t.length:=by
 have h:=Aco (s.drop i) (t.drop j);rw[Dx,Dx]at h;unfold D2;omega
def Fb(s t:List α)(i j:Nat):List Int:=(List.range (t.length+1)).map fun k=>if j<=k then(D2 s t i k:Int) else 0
def Ig(s t:List α)(i:Nat):List Int:=(List.range (t.length+1)).map fun k=>(D2 s t i k:Int)
def Sy(s t:List α):List (List Int):=(List.range (s.length+1)).map (Ig s t)
def Afn(s t:List α)(i j:Nat):(Fb s t i j).length=t.length+1:=by unfold Fb;simp
def Afo(s t:List α)(i:Nat):(Ig s t i).length=t.length+1:=by unfold Ig;simp
def Alq(s t:List α)(i:Nat):Fb s t i 0=Ig s t i:=by unfold Fb Ig;simp
def Ay9(s t:List α)(i:Nat):Fb s t i t.length=List.replicate (t.length+1) 0:=by
 unfold Fb;refine Zp (by simp) fun k h1 h2=>?_
 rw[Oi,Tf,List.getElem_replicate]
 split
 .have:k=t.length:=by simp at h2;omega
  rw[this,A7v];rfl
 .rfl
def Aza(s t:List α):Ig s t s.length=List.replicate (t.length+1) 0:=by
 unfold Ig;refine Zp (by simp) fun k h1 h2=>?_
 rw[Oi,Tf,List.getElem_replicate,A7u];rfl
def An0(s t:List α){i j k:Nat}(hk:k<=t.length)(hj:j<=k):(Fb s t i j)[k]?=some (D2 s t i k:Int):=by
 unfold Fb;rw[Av,Wb (by omega)];simp[hj]
def Aa7(s t:List α){i k:Nat}(hk:k<=t.length):(Ig s t i)[k]?=some (D2 s t i k:Int):=by rw[<-Alq,An0 s t hk (A0 _)]
def An1(s t:List α){i:Nat}(hi:i<=s.length):(Sy s t)[i]?=some (Ig s t i):=by
 unfold Sy;rw[Av,Wb (by omega)];rfl
def Azb(s t:List α){i j:Nat}(hj:j<t.length):(Fb s t i (j+1)).set j (D2 s t i j:Int)=Fb s t i j:=by
 unfold Fb;refine Zp (by simp) fun k h1 h2=>?_
 rw[Zj];rw[Oi,Oi,Tf];by_cases h:j=k
 .rw[if_pos h,if_pos (by omega),h]
 .rw[if_neg h];by_cases h':j<=k
  .rw[if_pos h',if_pos (by omega)]
  .rw[if_neg h',if_neg (by omega)]
/-! the search for the next line -/
def Pj(s t:List α)(i j k:Nat):Prop:=s[i]?=t[k]?/\1+D2 s t (i+1) (k+1)=D2 s t i j
def A7w{s t:List α}{i j k:Nat}(hi:i<s.length)(hj:j<=k)(hk:k<t.length)(h:Pj s t i j k)(hn:∀ k',j<=k'->k'<k->¬ Pj s t i j k'):Lh s[i] (s.drop (i+1)) (t.drop j)=some (k - j):=by
 have hc:∀ m,j+m<t.length->(Sx s[i] (s.drop (i+1)) (t.drop j) m=true↔Pj s t i j (j+m)):=fun m hm=>by
  unfold Sx Pj D2;rw[<-Gr hi];simp only[Af,decide_eq_true_eq,beq_iff_eq,Ii,Oj];rw[A2 hi,show j+(m+1)=j+m+1 from rfl];exact⟨fun h=>⟨h.1.symm,h.2⟩,fun h=>⟨h.1.symm,h.2⟩⟩
 unfold Lh;rw[List.find?_eq_some_iff_getElem];refine⟨(hc (k - j) (by omega)).2 (by rw[show j+(k - j)=k by omega];exact h),k - j,by simp;omega,by simp,fun m hm=>?_⟩;rw[Tf];have:=hn (j+m) (by omega) (by omega);rw[<-hc m (by omega)]at this;simpa using this
def A3o{s t:List α}{i j k:Nat}(hi:i<s.length)(hj:j<=k)(hk:k<t.length)(h:Pj s t i j k)(hn:∀ k',j<=k'->k'<k->¬ Pj s t i j k'):Dj j (s.drop i) (t.drop j)=(k:Int)::Dj (k+1) (s.drop (i+1)) (t.drop (k+1)):=by
 rw[Gr hi,Dj,A7w hi hj hk h hn];simp only;rw[Oj,show j+(k - j)=k by omega,show j+(k - j+1)=k+1 by omega]
def Azc{s t:List α}{i j:Nat}(hi:i<s.length)(hn:∀ k,j<=k->k<t.length->¬ Pj s t i j k):Dj j (s.drop i) (t.drop j) = -1::Dj j (s.drop (i+1)) (t.drop j):=by
 rw[Gr hi,Dj]
 have:Lh s[i] (s.drop (i+1)) (t.drop j)=none:=by
  cases he:Lh s[i] (s.drop (i+1)) (t.drop j) with
  | none=>rfl
  | some m=>
   obtain⟨h1,h2,h3⟩:=Anw he;rw[Dx]at h1;refine absurd ?_ (hn (j+m) (by omega) (by omega));rw[Ii]at h2;rw[Oj,<-Gr hi]at h3;exact⟨by rw[h2,A2 hi],h3⟩
 rw[this]
def Apy:∀ (s:List α) (j:Nat),Dj j s []=List.replicate s.length (-1)
 | [],_=>by rw[Dj];rfl
 | a::s,j=>by
  rw[Dj];have:Lh a s ([]:List α)=none:=by unfold Lh;simp
  rw[this];simp only;rw[Apy s,Ah,Ta]
/-! both programs -/
def Fg(nm:β):List (β × List α)->Nat × Option (List α)
 | []=>(0,none)
 | q::r=>if q.1=nm then(0,some q.2) else(q.2.length+(Fg nm r).1,(Fg nm r).2)
def Je(b:Nat)(l:List Int):List Int:=l.map fun k=>if 0<=k then k+b else k
def He(p:β × List α)(Q:List (β × List α)):List Int:=Je (Fg p.1 Q).1 (Dj 0 p.2 ((Fg p.1 Q).2.getD []))
def G8(P Q:List (β × List α)):List Int:=P.flatMap fun p=>He p Q
def C6(P:List (β × List α)):List (β × α):=P.flatMap fun p=>p.2.map fun x=>(p.1,x)
def R2(p:β × List α)(Q:List (β × List α)):(He p Q).length=p.2.length:=by unfold He Je;rw[Ba,Abw]
def Alr{p:β × List α}{Q:List (β × List α)}(h:(Fg p.1 Q).2=none):He p Q=List.replicate p.2.length (-1):=by
 unfold He Je;rw[h,Option.getD_none,Apy,List.map_replicate];rfl
def Z4(p:β × List α)(P Q:List (β × List α)):G8 (p::P) Q=He p Q++G8 P Q:=by unfold G8;rw[Ti]
def Ps(p:β × List α)(P:List (β × List α)):C6 (p::P)=(p.2.map fun x=>(p.1,x))++C6 P:=by unfold C6;rw[Ti]
def Aef:∀ P Q:List (β × List α),(G8 P Q).length=(C6 P).length
 | [],_=>rfl
 | p::P,Q=>by rw[Z4,Ps,Aj,Aj,R2,Ba,Aef P Q]
def Ako{nm:β}:∀ {Q:List (β × List α)} {l:List α},(Fg nm Q).2=some l->∀ m x,l[m]?=some x->(C6 Q)[(Fg nm Q).1+m]?=some (nm,x)
 | [],l,h,m,x,hx=>by simp[Fg]at h
 | q::Q,l,h,m,x,hx=>by
  rw[Fg]at h ⊢;rw[Ps]
  split at h
  .rename_i hq;rw[if_pos hq];simp only[Oh]at h;subst h;have:=Aq.1 hx;obtain⟨h1,h2⟩:=this;simp only[Fc];rw[Ca (by simpa using h1),Av,hx];simp[hq]
  .rename_i hq;rw[if_neg hq];simp only at h ⊢;rw[Cd (by simp;omega),Ba,show q.2.length+(Fg nm Q).1+m - q.2.length=(Fg nm Q).1+m by omega];exact Ako h m x hx
def Awd{p:β × List α}{Q:List (β × List α)}{i:Nat}{n:Int}(h:(He p Q)[i]?=some n):n = -1\/∃ k:Nat,n=k/\(∃ x,p.2[i]?=some x/\(C6 Q)[k]?=some (p.1,x))/\∀ i' n',i'<i->(He p Q)[i']?=some n'->n'<n:=by
 cases hf:(Fg p.1 Q).2 with
 | none=>
  rw[Alr hf]at h;exact .inl (List.eq_of_mem_replicate (Hx h))
 | some l=>
  unfold He Je at h ⊢;rw[hf,Rm]at h ⊢;rw[Av]at h
  cases hm:(Dj 0 p.2 l)[i]? with
  | none=>rw[hm]at h;simp at h
  | some m=>
   rw[hm,Fr,Oh]at h;rcases Aa6 p.2 0 l i m hm with rfl | ⟨k,rfl,h1,h2,h3⟩
   .exact .inl h.symm
   .rw[if_pos (by omega)]at h;have hk:=A2 h1;refine .inr ⟨(Fg p.1 Q).1+k,by omega,⟨l[k],by rw[<-h2,hk],Ako hf k _ hk⟩,fun i' n' hi hn=>?_⟩;rw[Av]at hn
    cases hm':(Dj 0 p.2 l)[i']? with
    | none=>rw[hm']at hn;simp at hn
    | some m'=>
     rw[hm',Fr,Oh]at hn;have:=h3 i' m' hi hm'
     split at hn<;>omega
def Ajy:∀ {P Q:List (β × List α)},(P.map fun p=>p.1).Nodup->∀ {i:Nat} {n:Int},(G8 P Q)[i]?=some n->n = -1\/∃ (k:Nat) (x:β × α),n=k/\(C6 P)[i]?=some x/\(C6 Q)[k]?=some x/\∀ j n' y,j<i->(C6 P)[j]?=some y->y.1=x.1->(G8 P Q)[j]?=some n'->n'<n
 | [],Q,_,i,n,h=>by simp[G8]at h
 | p::P,Q,hd,i,n,h=>by
  rw[Aw,Zr]at hd;obtain⟨jb,jc⟩:=hd;rw[Z4]at h ⊢;rw[Ps];by_cases hi:i<p.2.length
  .rw[Ca (by rw[R2];exact hi)]at h;rcases Awd h with h | ⟨k,rfl,⟨x,h1,h2⟩,h3⟩
   .exact .inl h
   .refine .inr ⟨k,(p.1,x),rfl,?_,h2,fun j n' y hj _ _ hn=>?_⟩
    .rw[Ca (by simpa using hi),Av,h1];rfl
    .rw[Ca (by rw[R2];omega)]at hn;exact h3 j n' hj hn
  .rw[Cd (by rw[R2];omega),R2]at h;rcases Ajy jc h with h | ⟨k,x,rfl,h1,h2,h3⟩
   .exact .inl h
   .refine .inr ⟨k,x,rfl,?_,h2,fun j n' y hj hy he hn=>?_⟩
    .rw[Cd (by simp;omega),Ba];exact h1
    .by_cases qK:j<p.2.length
     .exfalso;rw[Ca (by simpa using qK),Av,A2 qK,Fr,Oh]at hy;subst hy;apply jb;have hm:=Hx h1;unfold C6 at hm;obtain⟨q,hq,hx⟩:=List.mem_flatMap.1 hm;obtain⟨z,-,rfl⟩:=De.1 hx;exact De.2 ⟨q,hq,he.symm⟩
     .rw[Cd (by simp;omega),Ba]at hy;rw[Cd (by rw[R2];omega),R2]at hn;exact h3 (j - p.2.length) n' y (by omega) hy he hn
def An2{nm:β}:∀ {A B:List (β × List α)} {l:List α},(∀ q∈A,q.1≠nm)->Fg nm (A++(nm,l)::B)=((C6 A).length,some l)
 | [],B,l,_=>by rw[Bf,Fg,if_pos rfl];rfl
 | q::A,B,l,h=>by
  rw[Bq,Fg,if_neg (h q Cx),An2 fun r hr=>h r (Cs _ hr),Ps,Aj,Ba]
def Ajz:∀ (B A:List (β × List α)),((A++B).map fun p=>p.1).Nodup->G8 B (A++B)=(List.range (C6 B).length).map fun i=>(((C6 A).length+i:Nat):Int)
 | [],A,_=>rfl
 | p::B,A,h=>by
  have h2:=Ajz B (A++[p]) (by simpa using h);rw[Br,List.singleton_append]at h2;rw[Z4,h2]
  have hA:∀ q∈A,q.1≠p.1:=by
   intro q hq he;rw[Ei,Aw,List.nodup_append]at h;exact h.2.2 q.1 (De.2 ⟨q,hq,rfl⟩) p.1 Cx he
  have h1:He p (A++p::B)=(List.range p.2.length).map fun i=>(((C6 A).length+i:Nat):Int):=by
   unfold He Je;have:=An2 (B:=B) (l:=p.2) hA;rw[show(p.1,p.2)=p from rfl]at this;rw[this];simp only[Rm];rw[Anz,Ol];refine Wa fun i _=>?_
   simp only[Function.comp];rw[if_pos (by omega)];omega
  have h3:(C6 (A++[p])).length=(C6 A).length+p.2.length:=by unfold C6;simp
  rw[h1,h3,Ps,Aj,Ba,List.range_add,Ei,Ol];congr 1;refine Wa fun i _=>?_
  simp only[Function.comp];omega
def At2{P:List (β × List α)}(h:(P.map fun p=>p.1).Nodup):G8 P P=(List.range (C6 P).length).map fun i:Nat=>(i:Int):=by
 have:=Ajz P [] (by simpa using h);rw[Bf]at this;rw[this];refine Wa fun i _=>?_
 simp[C6]
end
def Mh(l:List Sp):Nat:=(Sp.txts 1 l).length
def Xw:Mh []=0:=rfl
def Un(s:Sp)(l:List Sp):Mh (s::l)=(s.txt 1).length+Mh l:=by unfold Mh;rw[Sp.txts,Aj]
def Xx:∀ a b:List Sp,Mh (a++b)=Mh a+Mh b
 | [],b=>by rw[Bf,Xw];omega
 | s::a,b=>by rw[Bq,Un,Un,Xx a b];omega
def Aa8{l:List Sp}{i:Nat}(h:i<l.length):Mh (l.take (i+1))=Mh (l.take i)+(l[i].txt 1).length:=by
 rw[Mj,A2 h,Adp,Xx,Un,Xw];omega
structure EdB (l:List Sp) (i:Nat) (b:List Sp):Prop where
 mem:∀ s∈b,s∈l
 len:Mh b<=2*Mh (l.take i)
 cnt:b.length<=2*i
def Azd(l:List Sp):EdB l 0 []:=⟨fun _ h=>absurd h (by simp),(by simp[Xw]),A0 _⟩
def Aze{l b:List Sp}{i:Nat}(h:EdB l i b)(hi:i<l.length):EdB l (i+1) b:=⟨h.mem,by have:=h.len;rw[Aa8 hi];omega,by have:=h.cnt;omega⟩
def Apz{l b:List Sp}{i:Nat}(h:EdB l i b)(hi:i<l.length):EdB l (i+1) (b++[l[i]]):=by
 refine⟨fun s hs=>?_,?_,?_⟩
 .rcases Cr.1 hs with hs | hs
  .exact h.mem s hs
  .rw[E0]at hs;rw[hs];exact Fj hi
 .have:=h.len;rw[Aa8 hi,Xx,Un,Xw];omega
 .have:=h.cnt;simp;omega
def A3p{l b:List Sp}{i:Nat}(h:EdB l i b)(hi:i<l.length):EdB l (i+1) ((b++[l[i]])++[l[i]]):=by
 refine⟨fun s hs=>?_,?_,?_⟩
 .rcases Cr.1 hs with hs | hs
  .exact(Apz h hi).mem s hs
  .rw[E0]at hs;rw[hs];exact Fj hi
 .have:=h.len;rw[Aa8 hi,Xx,Xx,Un,Xw];omega
 .have:=h.cnt;simp;omega
def Awe{l b:List Sp}{i:Nat}(h:EdB l i b)(hi:i<l.length):EdB l (i+1) (l[i]::b):=by
 refine⟨fun s hs=>?_,?_,?_⟩
 .rcases Bi.1 hs with hs | hs
  .rw[hs];exact Fj hi
  .exact h.mem s hs
 .have:=h.len;rw[Aa8 hi,Un];omega
 .have:=h.cnt;simp;omega
inductive EdT:List Tp->List Tp->Prop
 | nil:EdT [] []
 | cons {t t':Tp} {l l':List Tp}:t'.nm=t.nm->t'.locals=t.locals->EdB t.body t.body.length t'.body->EdT l l'->EdT (t::l) (t'::l')
def Ap0:∀ {l l':List Tp} {t t':Tp},EdT l l'->t'.nm=t.nm->t'.locals=t.locals->EdB t.body t.body.length t'.body->EdT (l++[t]) (l'++[t'])
 | _,_,_,_,.nil,h1,h2,h3=>.cons h1 h2 h3 .nil
 | _,_,_,_,.cons a b c d,h1,h2,h3=>.cons a b c (Ap0 d h1 h2 h3)
def Agk:∀ {l l':List Tp},EdT l l'->((l'.map D1).flatten).length<=2*((l.map D1).flatten).length/\l'.length=l.length
 | _,_,.nil=>⟨Ai _,rfl⟩
 | _,_,.cons (t:=t) (t':=t') a b c d=>by
  obtain⟨h1,h2⟩:=Agk d;have h3:=c.len;rw[D8]at h3;unfold Mh at h3;rw[Aw,Aw,D3,D3,Aj,Aj,Ah,Ah,h2]
  have h4:(D1 t').length<=2*(D1 t).length:=by
   unfold D1;rw[a,b];simp only[Aj,Ah,C8];omega
  exact⟨by omega,rfl⟩
def Arj:∀ {l l':List Tp},EdT l l'->(∀ t∈l,∀ s∈t.body,CnS s)->∀ t∈l',∀ s∈t.body,CnS s
 | _,_,.nil,_,t,ht,_,_=>by cases ht
 | _,_,.cons a b c d,h,t,ht,s,hs=>by
  rcases Bi.1 ht with rfl | ht
  .exact h _ Cx s (c.mem s hs)
  .exact Arj d (fun t ht=>h t (Cs _ ht)) t ht s hs
def A3q{p q:Gp}(hd:q.decls=p.decls)(ht:EdT p.thrs q.thrs)(hc:CnG p):CnG q/\(Fe q).length<=2*(Fe p).length:=by
 refine⟨⟨fun d h=>hc.decls d (hd ▸ h),Arj ht hc.thrs⟩,?_⟩;have:=(Agk ht).1;unfold Fe;rw[hd,Aj,Aj];omega
def Azf{g:V}{kill:List Nat}{x y R:AC}{i1 i2:Nat}{k:List It}{e:Env}{σ:St}{Q:Env->St->Prop}(P P2:Env->St->Prop)
  (h1:∀ R' k',(∀ e σ,P e σ->W TT PT (.c R'::.b i2::k') e σ Q)->(∀ e σ,P2 e σ->W TT PT k' e σ Q)->WC TT PT g kill x y (.b i1::.c R'::.b i2::k') e σ Q)
  (h2:∀ e σ,P e σ->W TT PT (.c R::.b i2::k) e σ Q) (h3:∀ e σ,P2 e σ->W TT PT k e σ Q):WC TT PT g kill x y (.b i1::.c R::.b i2::k) e σ Q:=h1 R k h2 h3
structure EW (p:Gp) (s:St) (u:V) (T:List Tp):Prop where
 z:s[1]?=some (.row [.nils,.nils] 28 0 0)
 o:s[2]?=some (.row [SL p.dz p.dt (p.decls.map Dp.row),u] 28 0 0)
 t:TS s 3
 g:GW s 4 51 4 u (T.map Tp.row)
def Ahg{p:Gp}{s:St}{u:V}{T:List Tp}(h:EW p s u T):4<=s.length:=Lb h.t
def Yf{p:Gp}{s s':St}{u:V}{T:List Tp}(h:EW p s u T)(ht:TS s' 3)(hk:∀ j,j<s.length->j≠3->(j=1\/j=2\/j∈u.refs)->s'[j]?=s[j]?):EW p s' u T:=by
 have hl:=Ahg h
 exact⟨(hk 1 (by omega) (by omega) (.inl rfl)).trans h.z,(hk 2 (by omega) (by omega) (.inr (.inl rfl))).trans h.o,ht,Lz h.g fun j hj=>by
  obtain⟨a,b⟩:=Dz h.g j hj
  exact hk j b (by omega) (.inr (.inr hj))⟩
def Xy{s s':St}{b:Nat}(h:TS s b)(hk:s'[b]?=s[b]?):TS s' b:=by
 obtain⟨z,t,l,a,h1,h2⟩:=h;exact⟨z,t,l,a,hk.trans h1,h2⟩
structure EX (p:Gp) (n:Nat) (x:Tp) (s:St) (u:V) (T:List Tp) (w:V) (B:List Sp):Prop where
 ew:EW p s u T
 n4:4<=n
 r:s[n]?=some (.row [.str x.nm,iV x.line,SL x.lz x.lt (x.locals.map fun s=>[V.str s]),SL x.bz x.bt (x.body.map Sp.row)] 51 0 0)
 u:∀ j∈u.refs,j<n
 g:GW s 11 78 (n+1) w (B.map Sp.row)
def Yg{p:Gp}{n:Nat}{x:Tp}{s:St}{u w:V}{T:List Tp}{B:List Sp}(h:EX p n x s u T w B):n<s.length:=(Aq.1 h.r).1
def Ap1{p:Gp}{n:Nat}{x:Tp}{s:St}{u w:V}{T:List Tp}{B:List Sp}(h:EX p n x s u T w B)(l:St):EX p n x (s++l) u T w B:=
 ⟨Yf h.ew (Xy h.ew.t (Ca (Lb h.ew.t))) fun j hj _ _=>Ca hj,h.n4,B5 h.r,h.u,P8 h.g⟩
def A3r{p:Gp}{n:Nat}{x:Tp}{s s':St}{u w:V}{T:List Tp}{B:List Sp}(h:EX p n x s u T w B)(hw:TW s s' 3):EX p n x s' u T w B:=by
 have hn:=Yg h;refine⟨Yf h.ew hw.2.2.1 fun j hj h3 _=>hw.2.1 j hj h3,h.n4,(hw.2.1 n hn (by have:=h.n4;omega)).trans h.r,h.u,Lz h.g fun j hj=>?_⟩;obtain⟨a,b⟩:=Dz h.g j hj;exact hw.2.1 j b (by have:=h.n4;omega)
def Ark{p:Gp}{n:Nat}{x:Tp}{s:St}{u w:V}{T:List Tp}{B:List Sp}(h:EX p n x s u T w B)(y:Sp)(hb:B.length<=10000000):
  ∃ w' s',Ef 176 (11,78) w (.lst 1 [y.row]) s=some (w',s')/\EX p n x s' u T w' (B++[y])/\w'.cellB=true/\(∀ j,j<s.length->j ∉ w.refs->s'[j]?=s[j]?)/\∀ j∈w'.refs,j∈w.refs\/s.length<=j:=by
 have hn:=Yg h;have h4:=h.n4;obtain⟨w',s',a,g',l',k',r',-⟩:=Qi (bytes:=176) (y:=.lst 1 [y.row]) (ys:=[y].map Sp.row) h.g (by omega) rfl (by omega) (R1 B) (R1 [y]) (Afl [y]) (by simp;omega);rw[<-Ei]at g';have hw:∀ j,j<=n->j ∉ w.refs:=fun j hj e=>by have:=(Dz h.g j e).1;omega
 refine⟨w',s',a,⟨Yf h.ew (Xy h.ew.t (k' 3 (by omega) (hw 3 (by omega)))) fun j hj _ ql=>k' j hj ?_,h4,(k' n hn (hw n (Ai _))).trans h.r,h.u,g'⟩,Dq g',k',r'⟩;rcases ql with rfl | rfl | ql
 .exact hw 1 (by omega)
 .exact hw 2 (by omega)
 .exact hw j (by have:=h.u j ql;omega)
def Azg{p:Gp}{n:Nat}{x:Tp}{s:St}{u w:V}{T:List Tp}{B:List Sp}(h:EX p n x s u T w B)(y:Sp)(hb:B.length<=10000000):
  ∃ s1 w' s',Ef 176 (11,78) (.lst 1 []) (.lst 1 [y.row]) s=some (.sl s.length 0 0 1 11 true,s1)/\Ef 176 (11,78) (.sl s.length 0 0 1 11 true) w s1=some (w',s')/\EX p n x s' u T w' (y::B)/\w'.cellB=true:=by
 have hn:=Yg h;have h4:=h.n4;have hy:=Mo y
 have e1:Ef 176 (11,78) (.lst 1 []) (.lst 1 [y.row]) s=some (.sl s.length 0 0 1 11 true,s++[.row y.row 78 0 0]):=by
  simp[Ef,Fy,J5,hy]
 have h1:=Ap1 h [.row y.row 78 0 0];have g1:GW (s++([.row y.row 78 0 0]:St)) 11 78 (n+1) (.sl s.length 0 0 1 11 true) ([y].map Sp.row):=.inr ⟨by simp,s.length,0,rfl,by simp,by omega⟩;obtain⟨w',s',a,g',l',k',r',-⟩:=Qi (bytes:=176) (y:=w) (ys:=B.map Sp.row) g1 (by simp;omega) (A7k h1.g (R1 B)) (by omega) (R1 [y]) (R1 B) (Afl B) (by simp;omega);rw[<-Ei]at g';have hw:∀ j,j<s.length->j ∉ (V.sl s.length 0 0 1 11 true).refs:=fun j hj e=>by simp[V.refs]at e;omega
 have jG:(s++([.row y.row 78 0 0]:St)).length=s.length+1:=by simp
 refine⟨_,w',s',e1,a,⟨Yf h1.ew (Xy h1.ew.t (k' 3 (by omega) (hw 3 (by omega)))) fun j hj _ ql=>k' j hj ?_,h4,(k' n (by omega) (hw n hn)).trans h1.r,h.u,g'⟩,Dq g'⟩;rcases ql with rfl | rfl | ql
 .exact hw 1 (by omega)
 .exact hw 2 (by omega)
 .exact hw j (by have:=h.u j ql;omega)
def A7x{p:Gp}{n:Nat}{x:Tp}{s:St}{u w:V}{T:List Tp}{B:List Sp}(h:EX p n x s u T w B)(hT:T.length<=1000000):
  ∃ s1 u' s2,Ny 4 1 s [.str x.nm,iV x.line,SL x.lz x.lt (x.locals.map fun s=>[V.str s]),w]=some (.lst 1 [[.str x.nm,iV x.line,SL x.lz x.lt (x.locals.map fun s=>[V.str s]),SL true 0 (B.map Sp.row)]],s1) /\
   Ef 72 (4,51) u (.lst 1 [[.str x.nm,iV x.line,SL x.lz x.lt (x.locals.map fun s=>[V.str s]),SL true 0 (B.map Sp.row)]]) s1=some (u',s2)/\u'.cellB=true/\s2[2]?=some (.row [SL p.dz p.dt (p.decls.map Dp.row),u] 28 0 0) /\
   EW p (s2.set 2 (.row [SL p.dz p.dt (p.decls.map Dp.row),u'] 28 0 0)) u' (T++[⟨x.nm,x.line,x.lz,x.lt,x.locals,true,0,B⟩]):=by
 have hn:=Yg h;have h4:=h.n4;obtain⟨s1,e1,l1,f1,-⟩:=All h.g (loc:=SL x.lz x.lt (x.locals.map fun s=>[V.str s])) (Jt ..) x.nm x.line;have hw:∀ j,j<=n->j ∉ w.refs:=fun j hj e=>by have:=(Dz h.g j e).1;omega
 have hx:Tp.row ⟨x.nm,x.line,x.lz,x.lt,x.locals,true,0,B⟩=[.str x.nm,iV x.line,SL x.lz x.lt (x.locals.map fun s=>[V.str s]),SL true 0 (B.map Sp.row)]:=rfl;have g1:GW s1 4 51 4 u (T.map Tp.row):=Lz h.ew.g fun i hi=>f1 i (hw i (by have:=h.u i hi;omega))
 obtain⟨u',s2,e2,g2,l2,k2,r2,-⟩:=Qi (bytes:=72) (y:=.lst 1 [Tp.row ⟨x.nm,x.line,x.lz,x.lt,x.locals,true,0,B⟩]) (ys:=[Tp.row ⟨x.nm,x.line,x.lz,x.lt,x.locals,true,0,B⟩]) g1 (by omega) rfl (by omega) (Rv T) (by simp;rfl) (fun r hr=>by rw[E0.1 hr,hx];simp only[As,Bd,Jt];rfl) (by simp;omega);have hu:∀ j,j<4->j ∉ u.refs:=fun j hj e=>by have:=(Dz h.ew.g j e).1;omega
 have kk:∀ j,j<4->s2[j]?=s[j]?:=fun j hj=>(k2 j (by omega) (hu j hj)).trans (f1 j (hw j (by omega)))
 refine⟨s1,u',s2,e1,e2,Dq g2,(kk 2 (by omega)).trans h.ew.o,?_,Ci (by omega),?_,?_⟩
 .rw[Bj (by omega),kk 1 (by omega)];exact h.ew.z
 .exact Xy h.ew.t ((Bj (by omega)).trans (kk 3 (by omega)))
 .rw[Ei,Zi];exact Lz g2 fun j hj=>Bj fun e=>by have:=(Dz g2 j hj).1;omega
set_option maxHeartbeats 8000000 in
def A3s{p:Gp}(hp:OKp p)(z:Bool)(t:Nat)(l:List UInt8)(hl:l.length<=9223372036854775807):∃ q:Gp,Fn TT PT 12 [.agg p.row,SL z t (Be l)] (.agg q.row)/\q.decls=p.decls/\EdT p.thrs q.thrs:=by
 have qe:=Vp p;have qm:=Ha p;have qj:=hp.few;have qu:=Tr l;have ji:(p.thrs.map Tp.row).length=p.thrs.length:=Ba ..;have e1:min (l.length:Int) 60=((min l.length 60:Nat):Int):=by omega
 obtain⟨z2,t2,qc⟩:=Ww z t 1 (Be l) .i64 (min l.length 60) (by rw[qu];omega);rw[show(Be l).take (min l.length 60)=Be (l.take (min l.length 60)) by unfold Be;rw[Zw]]at qc;rw[qm]at qe ⊢;refine Ar9 T12 rfl ?_
 have w0:EW p [.row [SL p.dz p.dt (p.decls.map Dp.row),SL p.tz p.tt (p.thrs.map Tp.row)] 28 0 0,.row [.nils,.nils] 28 0 0,.row [SL p.dz p.dt (p.decls.map Dp.row),.nils] 28 0 0,.row [SL z2 t2 (Be (l.take (min l.length 60))),iV 0] 69 0 0] .nils []:=
  ⟨rfl,rfl,⟨z2,t2,_,0,rfl,A0 _,by rw[Gz];omega⟩,Gk⟩
 simp only[go_sem,qu,e1,qc,ji];refine B3 (α:=Nat × St × V × List Tp) (fun a=>p.thrs.length - a.1) (fun a=>[(4,.ptr 1 0 0),(5,.ptr 2 0 0),(6,.ptr 3 0 0),(23,SL p.tz p.tt (p.thrs.map Tp.row)),(24,iV (p.thrs.length:Int)),(25,iV (a.1:Int))]) (fun a=>a.2.1) (fun a=>a.1<=p.thrs.length/\EW p a.2.1 a.2.2.1 a.2.2.2/\EdT (p.thrs.take a.1) a.2.2.2) ?_ (0,_,.nils,[]) ⟨A0 _,w0,.nil⟩;clear w0;rintro⟨i,s,u,T⟩ ⟨hi,ew,hT⟩ ih;simp only at hi ew hT ih;have jC:T.length=i:=by rw[(Agk hT).2,Gz];omega
 refine B4 (by delta lp12_1;exact rfl) ?_;rcases Bu i p.thrs.length with qp | qp;rotate_left
 .have qk:i=p.thrs.length:=by omega
  rw[qk,D8]at hT;have ho:=ew.o;have hz:=ew.z;have qa:=Ahg ew;have hc:=Dq ew.g;obtain⟨qz,qA⟩:=H2 hc;simp only[go_sem,Ck qp,ho,hz,qz,qA,hc];have z5:(s.set 1 (.row [SL p.dz p.dt (p.decls.map Dp.row),u] 28 0 0))[1]?=some (.row [SL p.dz p.dt (p.decls.map Dp.row),u] 28 0 0):=Ci (by omega);refine⟨_,_,p.dz,p.dt,true,0,p.decls,T,Sw z5 rfl rfl,⟨H3 (Jt ..),Aon ..⟩,⟨?_,hc⟩,rfl,hT⟩;exact O6 (Lz ew.g fun j hj=>Bj fun e=>by have:=(Dz ew.g j hj).1;omega) (by omega) (Rv T) (Aaj T)
 obtain⟨x,hx,-,jx⟩:=C3 qp;have jy:=Sq x;have qZ:(x.body.map Sp.row).length=x.body.length:=Ba ..;have jI:=hp.siz x jx;have jH:=Ack x.body;have i1:IntKind.i64.wrap ((i:Int)+1)=((i+1:Nat):Int):=Bk (by omega);have qa:=Ahg ew;obtain⟨s1,e1⟩:∃ s1:St,s1=s++[.row [.str x.nm,iV x.line,SL x.lz x.lt (x.locals.map fun s=>[V.str s]),SL x.bz x.bt (x.body.map Sp.row)] 51 0 0]:=⟨_,rfl⟩
 have ex:EX p s.length x s1 u T .nils []:=by
  refine⟨Yf ew (Xy ew.t (by rw[e1];exact Ca (Lb ew.t))) fun j hj _ _=>by rw[e1];exact Ca hj,qa,by rw[e1];simp,fun j hj=>(Dz ew.g j hj).2,Gk⟩
 have qL:=ex.r;simp only[go_sem,Bx qp,Av,hx,jy];rw[<-e1];simp only[go_sem,qL,qZ];generalize s.length=n at *;clear qL e1 qa ew;clear s;refine B3 (α:=Nat × St × V × List Sp) (fun a=>x.body.length - a.1) (fun a=>[(4,.ptr 1 0 0),(5,.ptr 2 0 0),(6,.ptr 3 0 0),(8,.ptr n 0 0),(9,a.2.2.1),(23,SL p.tz p.tt (p.thrs.map Tp.row)),(24,iV (p.thrs.length:Int)),(25,iV (i:Int)),(30,SL x.bz x.bt (x.body.map Sp.row)),(31,iV (x.body.length:Int)),(32,iV (a.1:Int))]) (fun a=>a.2.1) (fun a=>a.1<=x.body.length/\EX p n x a.2.1 u T a.2.2.1 a.2.2.2/\EdB x.body a.1 a.2.2.2) ?_ (0,s1,.nils,[]) ⟨A0 _,ex,Azd _⟩;clear ex;clear s1;rintro⟨k,s,w,B⟩ ⟨hk,ex,hB⟩ kh;simp only at hk ex hB kh;have qX:=hB.cnt;have qO:=Dq ex.g;refine B4 (by delta lp12_0;exact rfl) ?_;rcases Bu k x.body.length with qd | qd;rotate_left
 .have je:k=x.body.length:=by omega
  rw[je]at hB;obtain⟨s1,u',s2,a1,a2,hc,a3,qT⟩:=A7x ex (by omega);obtain⟨qz,qA⟩:=H2 hc;obtain⟨ju,jv⟩:=H2 qO;have hr:=ex.r;have ho:=ex.ew.o;simp only[go_sem,Ck qd,hr,ho,ju,jv,qO,a1,a2,a3,qz,qA,hc,i1];refine Bg (ih (i+1,_,u',_) (by simp only;omega) ⟨qp,qT,?_⟩) rfl;have qf:p.thrs.take (i+1)=p.thrs.take i++[x]:=by rw[Mj,hx];rfl
  simp only[qf];exact Ap0 hT rfl rfl hB
 obtain⟨y,hy,-,-⟩:=C3 qd;have jA:x.body[k]=y:=(Aq.1 hy).2;have b0:=Aze hB qd;have b1:=Apz hB qd;have b2:=A3p hB qd;have b3:=Awe hB qd;rw[jA]at b1 b2 b3;have qh:=E4 y;have k1:IntKind.i64.wrap ((k:Int)+1)=((k+1:Nat):Int):=Bk (by omega);have qt:=Ap1 ex [.row y.row 78 0 0];obtain⟨s1,e1⟩:∃ s1:St,s1=s++[.row y.row 78 0 0]:=⟨_,rfl⟩;have r1:s1[s.length]?=some (.row y.row 78 0 0):=by rw[e1];simp
 rw[<-e1]at qt;obtain⟨r,s2,q2,tw,l2,-,-,-⟩:=Am9 qt.ew.t 6 (by omega);have qi:=A3r qt tw;have jw:s.length ∉ w.refs:=fun e=>by have:=(Dz ex.g _ e).2;omega
 have jl:s.length≠3:=by have:=Yg ex;have:=ex.n4;omega
 have r2:s2[s.length]?=some (.row y.row 78 0 0):=(tw.2.1 _ (Aq.1 r1).1 jl).trans r1;rw[qh]at e1;have qS:Bt TT PT 23 [.ptr 3 0 0,iV 6] s1 (iV (r:Int)) s2:=q2;simp only[go_sem,Bx qd,Av,hy,qh];rw[<-e1];refine Ab qS ?_;simp only[go_sem];generalize s.length=m at *;clear q2 qS r1 e1 qt tw l2 ex;clear s1;clear s;refine Azf (fun e s'=>∃ w' B' X,e=(4,.ptr 1 0 0)::(5,.ptr 2 0 0)::(6,.ptr 3 0 0)::(8,.ptr n 0 0)::(9,w')::(23,SL p.tz p.tt (p.thrs.map Tp.row))::(24,iV (p.thrs.length:Int))::(25,iV (i:Int))::(30,SL x.bz x.bt (x.body.map Sp.row))::(31,iV (x.body.length:Int))::(32,iV (k:Int))::(11,.ptr m 0 0)::X/\EX p n x s' u T w' B'/\EdB x.body (k+1) (B'++[y])/\s'[m]?=some (.row y.row 78 0 0)/\B'.length<=3000000) (fun e s'=>∃ w' B' X,e=(4,.ptr 1 0 0)::(5,.ptr 2 0 0)::(6,.ptr 3 0 0)::(8,.ptr n 0 0)::(9,w')::(23,SL p.tz p.tt (p.thrs.map Tp.row))::(24,iV (p.thrs.length:Int))::(25,iV (i:Int))::(30,SL x.bz x.bt (x.body.map Sp.row))::(31,iV (x.body.length:Int))::(32,iV (k:Int))::X/\EX p n x s' u T w' B'/\EdB x.body (k+1) B') ?_ ?_ ?_;rotate_left
 .rintro _ s ⟨w',B',X,rfl,ex,qy,r3,qX⟩;obtain⟨w2,s2,a1,qi,hc,-,-⟩:=Ark ex y (by omega);rw[qh]at r3 a1;simp only[go_sem,r3,a1,k1];exact Bg (kh (k+1,s2,w2,B'++[y]) (by simp only;omega) ⟨qd,qi,qy⟩) rfl
 .rintro _ s ⟨w',B',X,rfl,ex,qy⟩;simp only[go_sem,k1];exact Bg (kh (k+1,s,w',B') (by simp only;omega) ⟨qd,ex,qy⟩) rfl
 intro R' k' hA hC;rw[qh]at r2;have one:∀ X,W TT PT (.c R'::.b 3::k') ((4,.ptr 1 0 0)::(5,.ptr 2 0 0)::(6,.ptr 3 0 0)::(8,.ptr n 0 0)::(9,w)::(23,SL p.tz p.tt (p.thrs.map Tp.row))::(24,iV (p.thrs.length:Int))::(25,iV (i:Int))::(30,SL x.bz x.bt (x.body.map Sp.row))::(31,iV (x.body.length:Int))::(32,iV (k:Int))::(11,.ptr m 0 0)::X) s2 _:=fun X=>hA _ _ ⟨w,B,X,rfl,qi,b1,by rw[qh];exact r2,by omega⟩
 have jk:m<s2.length:=(Aq.1 r2).1
 have qE:Pg w=some (iV (B.length:Int)):=by
  have:=A56 (Ahr qi.g)
  rwa [Ba]at this
 by_cases h1:r=1
 .have f1:((r:Int)==1)=true:=by simp[h1]
  by_cases ho:y.op=12
  .have f2:(y.op != 12)=false:=by simp[ho]
   simp only[go_sem,f1,r2,f2];exact one _
  .have f2:(y.op != 12)=true:=by simp[ho]
   simp only[go_sem,f1,r2,f2];exact hC _ _ ⟨w,B,_,rfl,qi,b0⟩
 have f1:((r:Int)==1)=false:=by rw[beq_eq_false_iff_ne];omega
 by_cases h2:r=2
 .have f2:((r:Int)==2)=true:=by simp[h2]
  by_cases ho:y.op=1
  .have f3:(y.op==1)=true:=by simp[ho]
   obtain⟨w3,s3,a1,qU,jE,k3,-⟩:=Ark qi y (by omega);have r3:=(k3 m jk jw).trans r2;rw[qh]at a1;simp only[go_sem,f1,f2,r2,f3,a1];exact hA _ _ ⟨w3,B++[y],_,rfl,qU,b2,by rw[qh];exact r3,by rw[Aj,Ih];omega⟩
  .have f3:(y.op==1)=false:=by simp[ho]
   simp only[go_sem,f1,f2,r2,f3];exact one _
 have f2:((r:Int)==2)=false:=by rw[beq_eq_false_iff_ne];omega
 by_cases h3:r=3;rotate_left
 .have f3:((r:Int)==3)=false:=by rw[beq_eq_false_iff_ne];omega
  simp only[go_sem,f1,f2,f3];exact one _
 have f3:((r:Int)==3)=true:=by simp[h3]
 by_cases jB:0<B.length;rotate_left
 .have f4:(0<(B.length:Int))=False:=eq_false (by omega);simp only[go_sem,f1,f2,f3,qE,f4];exact one _
 have f4:(0<(B.length:Int))=True:=eq_true (by omega);by_cases ho:y.op=1
 .have f5:(y.op==1)=true:=by simp[ho]
  obtain⟨s3,w4,s4,a1,a2,qV,-⟩:=Azg qi y (by omega);rw[qh]at a1;have f6:Ny 11 0 s2 []=some (.lst 1 [],s2):=Aqg rfl;simp only[go_sem,f1,f2,f3,qE,f4,r2,f5,f6,a1,a2];exact hC _ _ ⟨w4,y::B,_,rfl,qV,b3⟩
 .have f5:(y.op==1)=false:=by simp[ho]
  simp only[go_sem,f1,f2,f3,qE,f4,r2,f5];exact one _
def Ba1{p q:Gp}(hp:OKp p)(hd:q.decls=p.decls)(ht:EdT p.thrs q.thrs):CnG q/\(Fe q).length<=20000000000:=by
 obtain⟨a,b⟩:=A3q hd ht (Ag1 hp.sh);exact⟨a,by have:=hp.len;omega⟩
section
variable {α β:Type} [DecidableEq α] [DecidableEq β]
def Als(A B:List (β × List α)):(C6 (A++B)).length=(C6 A).length+(C6 B).length:=by unfold C6;simp
def Aeg{nm:β}:∀ {A B:List (β × List α)},(∀ q∈A,q.1≠nm)->Fg nm (A++B)=((C6 A).length+(Fg nm B).1,(Fg nm B).2)
 | [],B,_=>by rw[Bf];simp[C6]
 | q::A,B,h=>by
  rw[Bq,Fg,if_neg (h q Cx),Aeg fun r hr=>h r (Cs _ hr),Ps,Aj,Ba];simp only[To]
def Rf(nm:β)(Q:List (β × List α))(k:Nat):Prop:=∀ q∈Q.take k,q.1≠nm
def Azh(nm:β)(Q:List (β × List α)):Rf nm Q 0:=fun q hq=>by simp at hq
def Azi{nm:β}{Q:List (β × List α)}{k:Nat}(h:Rf nm Q k){q:β × List α}(hq:Q[k]?=some q)(hn:q.1≠nm):Rf nm Q (k+1):=fun r hr=>by
 rw[Mj,hq]at hr;rcases Cr.1 hr with hr | hr
 .exact h r hr
 .simp at hr;rw[hr];exact hn
def Ji(Q:List (β × List α))(k:Nat):Nat:=(C6 (Q.take k)).length
def Auy{Q:List (β × List α)}{k:Nat}{q:β × List α}(hq:Q[k]?=some q):Ji Q (k+1)=Ji Q k+q.2.length:=by
 unfold Ji;rw[Mj,hq,Adp,Als];unfold C6;simp
def Afp(Q:List (β × List α))(k:Nat):Ji Q k<=(C6 Q).length:=by
 unfold Ji;have:=Als (Q.take k) (Q.drop k);rw[Li]at this;omega
def Awf{nm:β}{Q:List (β × List α)}{k:Nat}{q:β × List α}(h:Rf nm Q k)(hq:Q[k]?=some q)(hn:q.1=nm):Fg nm Q=(Ji Q k,some q.2):=by
 obtain⟨hk,he⟩:=Aq.1 hq;have:=Aeg (B:=Q.drop k) h;rw[Li,Gr hk,he,Fg,if_pos hn]at this;exact this
def Akp{nm:β}{Q:List (β × List α)}(h:Rf nm Q Q.length):Fg nm Q=(Ji Q Q.length,none):=by
 have:=Aeg (B:=[]) h;rw[Cy,D8,Fg]at this;rw[this];unfold Ji;rw[D8];rfl
def Azj{nm:β}{s:List α}{Q:List (β × List α)}{k:Nat}{q:β × List α}(h:Rf nm Q k)(hq:Q[k]?=some q)(hn:q.1=nm):He (nm,s) Q=Je (Ji Q k) (Dj 0 s q.2):=by
 unfold He;rw[Awf h hq hn,Rm]
def Awg{nm:β}{s:List α}{Q:List (β × List α)}(h:Rf nm Q Q.length):He (nm,s) Q=List.replicate s.length (-1)/\He (nm,s) Q=Je (Ji Q Q.length) (Dj 0 s []):=by
 have h2:(Fg nm Q).2=none:=by rw[Akp h]
 refine⟨Alr (p:=(nm,s)) h2,?_⟩;unfold He;rw[Akp h,Option.getD_none]
def At3{P:List (β × List α)}{i:Nat}{p:β × List α}(Q:List (β × List α))(h:P[i]?=some p):G8 (P.take (i+1)) Q=G8 (P.take i) Q++He p Q:=by
 unfold G8;rw[Mj,h,Adp,List.flatMap_append];simp
end
def Fz(p:Gp):List (List UInt8 × List (List UInt8)):=p.thrs.map fun t=>(t.nm,Sp.hdss t.body)
def Jw(p q:Gp):List Int:=G8 (Fz p) (Fz q)
def Alt(p:Gp):((Fz p).map fun x=>x.1)=p.thrs.map fun t=>t.nm:=by
 unfold Fz;rw[Ol];rfl
def Azk{p q:Gp}(h:Ym p q=true):(p.thrs.map fun t=>t.nm)=q.thrs.map fun t=>t.nm:=by
 unfold Ym at h;simp only[Af,beq_iff_eq]at h;obtain⟨-,h1,h2⟩:=h;revert h1 h2;generalize p.thrs=L;generalize q.thrs=L'
 induction L generalizing L' with
 | nil=>intro h1 _;cases L' with
  | nil=>rfl
  | cons _ _=>simp at h1
 | cons a L ih=>intro h1 h2;cases L' with
  | nil=>simp at h1
  | cons b L'=>
   simp only[List.zip_cons_cons,As,Af]at h2;have h3:=h2.1;unfold Vi at h3;simp only[Af,beq_iff_eq]at h3;rw[Aw,Aw,h3.1,ih L' (by simpa using h1) h2.2]
def Akq(nm:List UInt8):∀ (X P:List (List UInt8)) (i:Nat) (x:List UInt8),X[i]?=some x->∃ n:Nat,(Fl nm P X)[i]?=some (Hu nm x n)
 | [],_,i,x,h=>by simp at h
 | y::X,P,0,x,h=>by
  simp at h;subst h;exact⟨P.count y,by rw[Fl];rfl⟩
 | y::X,P,i+1,x,h=>by
  rw[Jm]at h;obtain⟨n,hn⟩:=Akq nm X (P++[y]) i x h;exact⟨n,by rw[Fl,Jm];exact hn⟩
def Alu:∀ (L:List Tp) (i:Nat) (x:List UInt8 × List UInt8),(C6 (L.map fun t=>(t.nm,Sp.hdss t.body)))[i]?=some x->∃ n:Nat,((L.map fun t=>Fl t.nm [] (Sp.hdss t.body)).flatten)[i]?=some (Hu x.1 x.2 n)
 | [],i,x,h=>by simp[C6]at h
 | t::L,i,x,h=>by
  rw[Aw,Ps]at h;rw[Aw,D3];by_cases hi:i<(Sp.hdss t.body).length
  .rw[Ca (by simpa using hi),Av,A2 hi]at h;simp at h;subst h;rw[Ca (by rw[Pw];exact hi)];exact Akq _ _ _ _ _ (A2 hi)
  .rw[Cd (by simp;omega),Ba]at h;rw[Cd (by rw[Pw];omega),Pw];exact Alu L _ x h
def Ae0{p:Gp}{i:Nat}{x:List UInt8 × List UInt8}(h:(C6 (Fz p))[i]?=some x):∃ n:Nat,(Iy p)[i]?=some (Hu x.1 x.2 n):=Alu _ _ _ h
def Ud:∀ L:List Tp,(C6 (L.map fun t=>(t.nm,Sp.hdss t.body))).length=((L.map fun t=>Fl t.nm [] (Sp.hdss t.body)).flatten).length
 | []=>rfl
 | t::L=>by rw[Aw,Ps,Aw,D3,Aj,Aj,Ba,Pw,Ud L]
def Aeh(p q:Gp):(Jw p q).length=(Iy p).length:=by
 unfold Jw;rw[Aef];exact Ud p.thrs
def At4{p:Gp}(h:(p.thrs.map fun t=>t.nm).Nodup):Jw p p=(List.range (Iy p).length).map fun i:Nat=>(i:Int):=by
 unfold Jw;rw[At2 (by rw[Alt];exact h)];have:(C6 (Fz p)).length=(Iy p).length:=Ud p.thrs;rw[this]
def At5{p q:Gp}(h:(p.thrs.map fun t=>t.nm).Nodup){i:Nat}{k:Int}(hk:(Jw p q)[i]?=some k):
  k = -1\/∃ (m:Nat) (nm ln:List UInt8) (n n':Nat),k=m/\(Iy p)[i]?=some (Hu nm ln n)/\(Iy q)[m]?=some (Hu nm ln n')/\∀ (j:Nat) (k':Int) (qw qQ:List UInt8) (qR:Nat),j<i->(Iy p)[j]?=some (Hu qw qQ qR)->qw=nm->(Jw p q)[j]?=some k'->k'<k:=by
 have hd:((Fz p).map fun x=>x.1).Nodup:=by rw[Alt];exact h
 rcases Ajy hd hk with rfl | ⟨m,x,rfl,h1,h2,h3⟩
 .exact .inl rfl
 .obtain⟨n,e1⟩:=Ae0 h1;obtain⟨n',e2⟩:=Ae0 h2;refine .inr ⟨m,x.1,x.2,n,n',rfl,e1,e2,fun j k' qw qQ qR hj qq jm hm=>?_⟩
  have hl:j<(C6 (Fz p)).length:=by
   have h4:(C6 (Fz p)).length=(Iy p).length:=Ud p.thrs;rw[h4];exact(Aq.1 qq).1
  have hy:=A2 hl;obtain⟨n3,e3⟩:=Ae0 hy;rw[qq]at e3
  have h5:qw=(C6 (Fz p))[j].1:=by
   have:=Ky e3;unfold Hu at this;simp at this;exact this.1
  exact h3 j k' _ hj hy (by rw[<-h5,jm]) hm
