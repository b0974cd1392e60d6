/- Walks: the lines of programs, both sides. -/
import Derived.Test.YthlbbjcbmojocaaGreatDoorIn
set_option linter.all false
namespace Go.Proofs.YthlbbjcbmojocaaGreatDoor.KM
open Go
def C2(t:Tp):List V:=[SL true 0 ((Sp.hdss t.body).map fun x=>[V.str x])]
def Alq{σ:St}{lo e:Nat}{u:V}{X:List (List UInt8)}(h:GW σ 1 e lo u (X.map fun x=>[V.str x])):
  ∃ σ',M5 1 1 σ [u]=some (.lst 1 [[SL true 0 (X.map fun x=>[V.str x])]],σ')/\σ'.length=σ.length/\(∀ j,j ∉ u.refs->σ'[j]?=σ[j]?)/\(Cl σ->Cl σ'):=by
 have qW:=N3 h (by omega) (Alo X) (Alp X);have hr:Al [u]=u.refs:=by simp[Al]
 have qZ:=qW (Fm σ 9 u.refs.eraseDups) (fun i hi=>Sv σ 9 _ i (Yc.2 hi)) 7;unfold M5;rw[hr];simp only[Hy,Yj,qZ];refine⟨_,rfl,Nk _ _,fun j hj=>Tv _ _ _ fun hm=>?_,Uh _ _⟩;rcases h with⟨rfl,-⟩ | ⟨hn,i,g,rfl,ho,qj⟩
 .simp[V.refs,Fm]at hm
 .have:Fm σ 9 (V.refs (.sl i g 0 (X.map fun x=>[V.str x]).length 1 true)).eraseDups=[i]:=by
   have e1:(V.refs (.sl i g 0 (X.map fun x=>[V.str x]).length 1 true)).eraseDups=[i]:=by simp[V.refs,List.eraseDups_cons]
   rw[e1];have hx:Al (X.map fun x=>[V.str x]).flatten=[]:=Jk (Lq (Alp X));simp[Fm,ho,Ob.refs,hx]
  rw[this]at hm;exact hj (by simpa[V.refs] using hm)
structure PX (p:Gp):Prop where
 few:p.thrs.length<=100000000
 tx:∀ t∈p.thrs,TxL t.body
 sz:∀ t∈p.thrs,Sp.szs t.body<=10000
def A7u{p:Gp}(h:ShG p)(hl:(Fy p).length<=1000000000)(hs:∀ t∈p.thrs,Sp.szs t.body<=10000):PX p:=by
 have qE:((p.thrs.map Ew).flatten).length<=(Fy p).length:=by unfold Fy;simp
 have qp:∀ (L:List Tp),10*L.length<=((L.map Ew).flatten).length/\∀ t∈L,(Ew t).length<=((L.map Ew).flatten).length:=fun L=>by
  induction L with
  | nil=>exact⟨by simp,fun t ht=>by cases ht⟩
  | cons a l ih=>
   have h1:10<=(Ew a).length:=by unfold Ew;simp;omega
   refine⟨by simp;have:=ih.1;simp at this;omega,fun t ht=>?_⟩;rcases Bj.1 ht with rfl | ht
   .simp
   .have:=ih.2 t ht;simp at this ⊢;omega
 refine⟨by have:=(qp p.thrs).1;omega,fun t ht=>⟨h.thrs t ht,?_⟩,hs⟩;have h1:=(qp p.thrs).2 t ht;have h2:=Sn t.body 0 1 (by omega);have h3:(Sp.txts 1 t.body).length<=(Ew t).length:=by unfold Ew;simp;omega
 omega
def Aa7(L:List Tp):∀ r∈L.map C2,r.length=1:=fun r hr=>by obtain⟨x,-,rfl⟩:=Dq.1 hr;rfl
def Aa8(L:List Tp):∀ r∈L.map C2,r.all V.rowB=true:=fun r hr=>by
 obtain⟨x,-,rfl⟩:=Dq.1 hr;simp only[C2,Av,Be,I5];rfl
def F1(x:Gp):x.row=[SL x.dz x.dt (x.decls.map Dp.row),SL x.tz x.tt (x.thrs.map Tp.row)]:=rfl
def Pp(t:Tp):t.row=[.str t.nm,iV t.line,SL t.lz t.lt (t.locals.map fun s=>[V.str s]),SL t.bz t.bt (t.body.map Sp.row)]:=rfl
def Rj(x:Gp):x.row.all V.rowB=true:=by
 unfold Gp.row;simp only[Av,Be,I5];rfl
def Ap5(x:Tp):x.row.all V.rowB=true:=by
 rw[Pp];simp only[Av,Be,I5];rfl
def Ani{σ:St}{lo m e bytes:Nat}{u:V}{xs:List (List V)}{row:List V}(h:GV σ m e lo u xs)(qj:lo<=σ.length)(hm:0<m)(hl:∀ r∈xs,r.length=m)(qY:row.length=m)(hr:row.all V.rowB=true)(hb:(xs.length+1)*bytes<=140737488355328)(hc:Cl σ):
  ∃ u' σ',D5 bytes (m,e) u (.lst 1 [row]) σ=some (u',σ')/\GV σ' m e lo u' (xs++[row])/\u'.cellB=true/\σ.length<=σ'.length/\(∀ j,j<σ.length->j ∉ u.refs->σ'[j]?=σ[j]?)/\Cl σ':=by
 obtain⟨u',σ',h1,h2,h3,h4,-⟩:=An5 (bytes:=bytes) (y:=.lst 1 [row]) (ys:=[row]) h qj rfl hm hl (fun r hr=>by rw[E4.1 hr];exact qY) hb
 obtain⟨-,h6⟩:=Aa4 h1 rfl (fun r hx=>by rw[E4.1 hx];exact hr) (by
  rcases h with⟨rfl,-⟩ | ⟨i,g,rfl,-⟩
  .exact .inl rfl
  .exact .inr ⟨i,g,_,rfl⟩)
 refine⟨u',σ',h1,h2,Aml h2,h3,fun j hj hn=>h4 j (fun i g hu e=>hn ?_) hj,h6 hc⟩;rw[hu,e];simp[V.refs]
def Ao6{σ τ:St}{m e lo:Nat}{u:V}{xs:List (List V)}(h:GV σ m e lo u xs)(hk:∀ i∈u.refs,τ[i]?=σ[i]?):GV τ m e lo u xs:=by
 rcases h with h | ⟨i,g,h,ho,qj⟩
 .exact .inl h
 .exact .inr ⟨i,g,h,by rw[hk i (by rw[h];simp[V.refs])];exact ho,qj⟩
def Ao7{σ:St}{m e lo:Nat}{u:V}{xs:List (List V)}(h:GV σ m e lo u xs):∀ i∈u.refs,lo<=i/\i<σ.length:=by
 intro j hj;rcases h with⟨rfl,-⟩ | ⟨i,g,rfl,ho,qj⟩
 .simp[V.refs]at hj
 .simp[V.refs]at hj;subst hj;exact⟨qj,(Ap.1 ho).1⟩
set_option maxHeartbeats 4000000 in
def Aju{p:Gp}(h:PX p):∃ z,Fn TT PT 17 [.agg p.row] (SL z 0 (p.thrs.map C2)):=by
 have qa:(p.thrs.map Tp.row).length=p.thrs.length:=Ba ..;have qg:=Rj p;have qq:=F1 p;have qm:=h.few;refine⟨true,Bn T17 rfl ?_⟩;have c0:Cl [.row p.row 28 0 0]:=Hk (s:=[]) (fun _ h=>by cases h) qg;rw[qq]at c0 qg ⊢;simp only[go_sem,qa];refine Bv (α:=Nat × St × V) (fun a=>p.thrs.length - a.1) (fun a=>[(3,a.2.2),(7,SL p.tz p.tt (p.thrs.map Tp.row)),(8,iV (p.thrs.length:Int)),(9,iV (a.1:Int))]) (fun a=>a.2.1) (fun a=>a.1<=p.thrs.length/\(GV a.2.1 1 47 1 a.2.2 ((p.thrs.take a.1).map C2)/\(a.1=0->a.2.2=.nils)/\(a.1≠0->a.2.2≠.nils))/\Cl a.2.1/\1<=a.2.1.length) ?_ (0,_,.nils) ⟨Ay _,⟨A3f,fun _=>rfl,fun h=>absurd rfl h⟩,c0,Ah _⟩;rintro⟨i,s,u⟩ ⟨hi,⟨hg,qI,qt⟩,hc,qA⟩ ih;simp only at hi hg qI qt hc qA ih;refine Bw (by delta lp17_0;exact rfl) ?_;rcases Br i p.thrs.length with h' | h';rotate_left
 .have qo:i=p.thrs.length:=by omega
  subst qo;rw[Cz]at hg;simp only[go_sem,Ce h']
  have qR:GW s 1 47 1 u (p.thrs.map C2):=by
   rcases hg with hg | hg
   .exact .inl hg
   .refine .inr ⟨fun e=>?_,hg⟩;have hn:p.thrs=[]:=List.map_eq_nil_iff.1 e;have hu:=qI (by rw[hn];rfl);obtain⟨i,g,qH,-⟩:=hg;rw[hu]at qH;cases qH
  exact App qR (by omega) (Aa7 _) (Aa8 _)
 obtain⟨x,hx,hd,hm⟩:=Cw h';have qb:=Pp x;have qh:=Ap5 x;have ja:=h.sz x hm;obtain⟨s1,e1⟩:∃ s1:St,s1=s++[.row x.row 50 0 0]:=⟨_,rfl⟩;have c1:Cl s1:=by rw[e1];exact Hk hc qh
 have l1:s1.length=s.length+1:=by rw[e1];simp
 obtain⟨v,s2,q2,G2⟩:=A4p (h.tx x hm) s1.length s1 .nils [] x.bz x.bt F9 (Ah _) c1 (by simp;omega);rw[Fd]at G2;obtain⟨s3,e3,l3,f3,c3⟩:=Alq G2.g;have qB:∀ j∈u.refs,j<s.length:=fun j hj=>(Ao7 hg j hj).2
 have kk:∀ j,j<s.length->s3[j]?=s[j]?:=fun j hj=>by
  rw[f3 j fun e=>by have:=(Du G2.g j e).1;omega,G2.kp j (by omega) (by simp[V.refs]),e1,Cg hj]
 have qy:GV s3 1 47 1 u ((p.thrs.take i).map C2):=Ao6 hg fun j hj=>kk j (qB j hj)
 have qr:=Dk G2.g;obtain⟨qC,qD⟩:=Hi qr;obtain⟨u',s4,e4,g4,qk,l4,k4,c4⟩:=Ani (bytes:=24) (row:=C2 x) qy (by have:=G2.len;omega) (by omega) (Aa7 _) rfl (Aa8 [x] _ (by simp)) (by rw[Ba,Hw];omega) (c3 G2.cl)
 have qi:(p.thrs.take i).map C2++[C2 x]=(p.thrs.take (i+1)).map C2:=by
  rw[Oo,hx];simp
 rw[qi]at g4;rw[show C2 x=[SL true 0 ((Sp.hdss x.body).map fun x=>[V.str x])] from rfl]at e4;rw[qb]at e1;simp only[go_sem,Bp h',Aq,hx,qb];rw[<-e1];refine Ab q2 ?_;simp only[go_sem,qC,qD,qr,e3,e4,Bf (show i<9223372036854775807 by omega)];refine Bd (ih (i+1,s4,u') (by simp only;omega) ⟨h',⟨g4,fun h=>by simp at h,fun _ e=>?_⟩,c4,by have:=G2.len;have:=l3;simp only;omega⟩) rfl;rcases g4 with⟨-,g4⟩ | ⟨_,_,g4,-⟩
 .rw[<-qi]at g4;simp at g4
 .rw[g4]at e;cases e
set_option maxHeartbeats 4000000 in
def Ajv{p:Gp}(h:PX p):Fn TT PT 15 [.agg p.row] (.lst 0 (p.thrs.map C2)):=by
 have qa:(p.thrs.map Tp.row).length=p.thrs.length:=Ba ..;have qg:=Rj p;have qq:=F1 p;have qm:=h.few;refine Bn T15 rfl ?_;have c0:Cl [.row p.row 28 0 0,.row [] 47 0 0]:=Hk (s:=[.row p.row 28 0 0]) (Hk (s:=[]) (fun _ h=>by cases h) qg) rfl;rw[qq]at c0 qg ⊢;have qO:(0<=(p.thrs.length:Int))=True:=eq_true (by omega);have qu:(p.thrs.length*24<=140737488355328)=True:=eq_true (by omega);simp only[go_sem,qa,qO,qu,P8,Int.toNat_zero,List.replicate_zero,Acl,Sd];refine Bv (α:=Nat × St × V) (fun a=>p.thrs.length - a.1) (fun a=>[(3,a.2.2),(11,SL p.tz p.tt (p.thrs.map Tp.row)),(12,iV (p.thrs.length:Int)),(13,iV (a.1:Int))]) (fun a=>a.2.1) (fun a=>a.1<=p.thrs.length/\(GV a.2.1 1 47 1 a.2.2 ((p.thrs.take a.1).map C2)/\a.2.2≠.nils)/\Cl a.2.1/\1<=a.2.1.length) ?_ (0,_,.sl 1 0 0 0 1 true) ⟨Ay _,⟨.inr ⟨1,0,rfl,rfl,Ah _⟩,fun h=>by cases h⟩,c0,by simp⟩;rintro⟨i,s,u⟩ ⟨hi,⟨hg,qt⟩,hc,qA⟩ ih;simp only at hi hg qt hc qA ih;refine Bw (by delta lp15_0;exact rfl) ?_;rcases Br i p.thrs.length with h' | h';rotate_left
 .have qo:i=p.thrs.length:=by omega
  subst qo;rw[Cz]at hg;simp only[go_sem,Ce h'];rcases hg with⟨e,-⟩ | ⟨i,g,rfl,ho,-⟩
  .exact absurd e qt
  .exact Af5 ho (by omega) (Aa7 _) (Aa8 _)
 obtain⟨x,hx,hd,hm⟩:=Cw h';have qb:=Pp x;have qh:=Ap5 x;have ja:=h.sz x hm;obtain⟨s1,e1⟩:∃ s1:St,s1=s++[.row x.row 50 0 0]:=⟨_,rfl⟩;have c1:Cl s1:=by rw[e1];exact Hk hc qh
 have l1:s1.length=s.length+1:=by rw[e1];simp
 obtain⟨v,s2,q2,G2⟩:=A4q (h.tx x hm) s1.length s1 .nils [] x.bz x.bt F9 (Ah _) c1 (by simp;omega);rw[Fd]at G2;obtain⟨s3,e3,l3,f3,c3⟩:=Alq G2.g;have qB:∀ j∈u.refs,j<s.length:=fun j hj=>(Ao7 hg j hj).2
 have kk:∀ j,j<s.length->s3[j]?=s[j]?:=fun j hj=>by
  rw[f3 j fun e=>by have:=(Du G2.g j e).1;omega,G2.kp j (by omega) (by simp[V.refs]),e1,Cg hj]
 have qy:GV s3 1 47 1 u ((p.thrs.take i).map C2):=Ao6 hg fun j hj=>kk j (qB j hj)
 have qr:=Dk G2.g;obtain⟨qC,qD⟩:=Hi qr;obtain⟨u',s4,e4,g4,qk,l4,k4,c4⟩:=Ani (bytes:=24) (row:=C2 x) qy (by have:=G2.len;omega) (by omega) (Aa7 _) rfl (Aa8 [x] _ (by simp)) (by rw[Ba,Hw];omega) (c3 G2.cl)
 have qi:(p.thrs.take i).map C2++[C2 x]=(p.thrs.take (i+1)).map C2:=by
  rw[Oo,hx];simp
 rw[qi]at g4;rw[show C2 x=[SL true 0 ((Sp.hdss x.body).map fun x=>[V.str x])] from rfl]at e4;rw[qb]at e1;simp only[go_sem,Bp h',Aq,hx,qb];rw[<-e1];refine Ab q2 ?_;simp only[go_sem,qC,qD,qr,e3,e4,Bf (show i<9223372036854775807 by omega)];refine Bd (ih (i+1,s4,u') (by simp only;omega) ⟨h',⟨g4,fun e=>?_⟩,c4,by have:=G2.len;have:=l3;simp only;omega⟩) rfl;rcases g4 with⟨-,g4⟩ | ⟨_,_,g4,-⟩
 .rw[<-qi]at g4;simp at g4
 .rw[g4]at e;cases e
/-! keys -/
def A83(nm ln:List UInt8)(n:Nat):List V:=[.str nm,.str ln,iV (n:Int)]
def Uj(nm:List UInt8):List (List UInt8)->List (List UInt8)->List (List V)
 | _,[]=>[]
 | P,x::X=>A83 nm x (P.count x)::Uj nm (P++[x]) X
def Abn(p:Gp):List (List V):=(p.thrs.map fun t=>Uj t.nm [] (Sp.hdss t.body)).flatten
def Adx(nm:List UInt8):∀ (X P:List (List UInt8)),(Uj nm P X).length=X.length
 | [],_=>rfl
 | x::X,P=>by rw[Uj,Ak,Adx nm X,Ak]
def Atz(L:List Tp):((L.map fun t=>Uj t.nm [] (Sp.hdss t.body)).flatten).length=(L.map fun t=>Sp.szs t.body).sum:=by
 induction L with
 | nil=>rfl
 | cons a l ih=>simp only[Bb,Ey,Aj,Adx,Ik,ih,List.sum_cons]
/-! maps -/
/-! keys -/
def A0u{L:List Tp}(h:∀ t∈L,Sp.szs t.body<=10000):(L.map fun t=>Sp.szs t.body).sum<=L.length*10000:=by
 induction L with
 | nil=>simp
 | cons a l ih=>
  have h1:=h a (by simp);have h2:=ih fun t ht=>h t (by simp[ht])
  rw[Bb,List.sum_cons,Ak,Ep];omega
section
variable {α:Type} [DecidableEq α]
def Di:List α->List α->Nat
 | [],_=>0
 | _::_,[]=>0
 | a::s,b::t=>if a=b then 1+Di s t else max (Di s (b::t)) (Di (a::s) t)
def Mz(t:List α):Di [] t=0:=by rw[Di]
def Pc(s:List α):Di s []=0:=by cases s<;>rw[Di]
def M0(a b:α)(s t:List α):Di (a::s) (b::t)=if a=b then 1+Di s t else max (Di s (b::t)) (Di (a::s) t):=by rw[Di]
mutual
theorem Abo(a:α)(s t:List α):Di s t<=Di (a::s) t/\Di (a::s) t<=Di s t+1:=
 match s,t with
 | s,[]=>by rw[Pc,Pc];omega
 | [],b::t=>by
  have h:=Abo a [] t;rw[Mz]at h ⊢;rw[M0,Mz]
  split
  .omega
  .rw[Mz];omega
 | c::s,b::t=>by
  have h1:=Abo a (c::s) t;have h2:=Abp b (c::s) t;rw[M0 a b]
  split
  .omega
  .omega
termination_by s.length+t.length
theorem Abp(b:α)(s t:List α):Di s t<=Di s (b::t)/\Di s (b::t)<=Di s t+1:=
 match s,t with
 | [],t=>by rw[Mz,Mz];omega
 | a::s,[]=>by
  have h:=Abp b s [];rw[Pc]at h ⊢;rw[M0,Pc]
  split
  .omega
  .rw[Pc];omega
 | a::s,c::t=>by
  have h1:=Abp b s (c::t);have h2:=Abo a s (c::t);rw[M0 a b]
  split
  .omega
  .omega
termination_by s.length+t.length
end
def A0v(a b:α)(s t:List α):Di (a::s) (b::t)=if a=b then max (max (Di s (b::t)) (Di (a::s) t)) (1+Di s t) else max (Di s (b::t)) (Di (a::s) t):=by
 rw[M0];have h1:=Abp b s t;have h2:=Abo a s t
 split<;>omega
def Alr:∀ s:List α,Di s s=s.length
 | []=>Mz _
 | a::s=>by rw[M0,if_pos rfl,Alr s,Ak];omega
def Aa9:∀ (s t:List α),Di s t<=s.length/\Di s t<=t.length
 | [],t=>by rw[Mz];simp
 | a::s,[]=>by rw[Pc];simp
 | a::s,b::t=>by
  have h1:=Aa9 s t;have h2:=Aa9 s (b::t);have h3:=Aa9 (a::s) t;rw[M0];simp only[Ak]at *
  split<;>omega
termination_by s t=>s.length+t.length
def Rp(a:α)(s t:List α)(k:Nat):Bool:=decide (t[k]?=some a)&&(1+Di s (t.drop (k+1))==Di (a::s) t)
def J5(a:α)(s t:List α):Option Nat:=(List.range t.length).find? (Rp a s t)
def Da:Nat->List α->List α->List Int
 | _,[],_=>[]
 | j,a::s,t=>match J5 a s t with
  | some k=>((j+k:Nat):Int)::Da (j+k+1) s (t.drop (k+1))
  | none => -1::Da j s t
def Wn:∀ (s:List α) (j:Nat) (t:List α),(Da j s t).length=s.length
 | [],_,_=>by rw[Da];rfl
 | a::s,j,t=>by
  rw[Da]
  split
  .rw[Ak,Wn s,Ak]
  .rw[Ak,Wn s,Ak]
def Als{a:α}{s t:List α}{k:Nat}(h:J5 a s t=some k):k<t.length/\t[k]?=some a/\1+Di s (t.drop (k+1))=Di (a::s) t:=by
 have h1:=List.find?_some h;have h2:=List.mem_of_find?_eq_some h;unfold Rp at h1;simp only[Af,decide_eq_true_eq,beq_iff_eq]at h1;exact⟨E5.1 h2,h1.1,h1.2⟩
def Awx(a:α)(s:List α):J5 a s (a::s)=some 0:=by
 unfold J5;rw[Ak,List.range_succ_eq_map,List.find?_cons];have:Rp a s (a::s) 0=true:=by unfold Rp;simp[Alr];omega
 rw[this]
def Aed:∀ (s:List α) (j:Nat) (t:List α) (i:Nat) (n:Int),(Da j s t)[i]?=some n->n = -1\/∃ k,n=((j+k:Nat):Int)/\k<t.length/\t[k]?=s[i]?/\∀ i' n',i'<i->(Da j s t)[i']?=some n'->n'<n
 | [],_,_,i,n,h=>by rw[Da]at h;simp at h
 | a::s,j,t,i,n,h=>by
  rw[Da]at h ⊢
  split at h
  .rename_i k hk;obtain⟨h1,h2,-⟩:=Als hk
   cases i with
   | zero=>
    simp at h;exact .inr ⟨k,by omega,h1,by rw[h2];rfl,fun i' n' hi=>by omega⟩
   | succ i=>
    rw[J6]at h;rcases Aed s (j+k+1) (t.drop (k+1)) i n h with h3 | ⟨m,rfl,h4,h5,h6⟩
    .exact .inl h3
    .rw[Dn]at h4;rw[Hv]at h5;refine .inr ⟨k+1+m,by omega,by omega,by rw[h5,J6],fun i' n' hi hn=>?_⟩
     cases i' with
     | zero=>simp at hn;omega
     | succ i'=>rw[J6]at hn;exact h6 i' n' (by omega) hn
  .rename_i hk
   cases i with
   | zero=>simp at h;exact .inl h.symm
   | succ i=>
    rw[J6]at h;rcases Aed s j t i n h with h3 | ⟨m,rfl,h4,h5,h6⟩
    .exact .inl h3
    .refine .inr ⟨m,rfl,h4,by rw[h5,J6],fun i' n' hi hn=>?_⟩
     cases i' with
     | zero=>simp at hn;omega
     | succ i'=>rw[J6]at hn;exact h6 i' n' (by omega) hn
end
section
variable {α β:Type} [DecidableEq α] [DecidableEq β]
def B5(s t:List α)(i j:Nat):Nat:=Di (s.drop i) (t.drop j)
def A4r(s t:List α)(j:Nat):B5 s t s.length j=0:=by unfold B5;rw[Aco,Mz]
def A4s(s t:List α)(i:Nat):B5 s t i t.length=0:=by unfold B5;rw[Aco,Pc]
def Awy(s t:List α){i j:Nat}(hi:i<s.length)(hj:j<t.length):B5 s t i j=if s[i]=t[j] then max (max (B5 s t (i+1) j) (B5 s t i (j+1))) (1+B5 s t (i+1) (j+1)) else max (B5 s t (i+1) j) (B5 s t i (j+1)):=by
 unfold B5;rw[Fv hi,Fv hj,A0v]
def A0w(s t:List α){i j:Nat}(hi:i<s.length)(hj:j<t.length):B5 s t i j=if s[i]=t[j] then 1+B5 s t (i+1) (j+1) else max (B5 s t (i+1) j) (B5 s t i (j+1)):=by
 unfold B5;rw[Fv hi,Fv hj,M0]
def Aai(s t:List α)(i j:Nat):B5 s t i j<=s.length/\B5 s t i j<=t.length:=by
 have h:=Aa9 (s.drop i) (t.drop j);rw[Dn,Dn]at h;unfold B5;omega
def C9(s t:List α)(i j:Nat):List Int:=(List.range (t.length+1)).map fun k=>if j<=k then(B5 s t i k:Int) else 0
def Fl(s t:List α)(i:Nat):List Int:=(List.range (t.length+1)).map fun k=>(B5 s t i k:Int)
def Ix(s t:List α):List (List Int):=(List.range (s.length+1)).map (Fl s t)
def Oz(s t:List α)(i j:Nat):(C9 s t i j).length=t.length+1:=by unfold C9;simp
def S0(s t:List α)(i:Nat):(Fl s t i).length=t.length+1:=by unfold Fl;simp
def Vo(s t:List α)(i:Nat):C9 s t i 0=Fl s t i:=by unfold C9 Fl;simp
def Alt(s t:List α)(i:Nat):C9 s t i t.length=List.replicate (t.length+1) 0:=by
 unfold C9;refine Oq (by simp) fun k h1 h2=>?_
 rw[Ig,Nh,X3]
 split
 .have:k=t.length:=by simp at h2;omega
  rw[this,A4s];rfl
 .rfl
def Alu(s t:List α):Fl s t s.length=List.replicate (t.length+1) 0:=by
 unfold Fl;refine Oq (by simp) fun k h1 h2=>?_
 rw[Ig,Nh,X3,A4r];rfl
def Aee(s t:List α){i j k:Nat}(hk:k<=t.length)(hj:j<=k):(C9 s t i j)[k]?=some (B5 s t i k:Int):=by
 unfold C9;rw[Aq,P6 (by omega)];simp[hj]
def O0(s t:List α){i k:Nat}(hk:k<=t.length):(Fl s t i)[k]?=some (B5 s t i k:Int):=by rw[<-Vo,Aee s t hk (Ay _)]
def V3(s t:List α){i:Nat}(hi:i<=s.length):(Ix s t)[i]?=some (Fl s t i):=by
 unfold Ix;rw[Aq,P6 (by omega)];rfl
def S3(s t:List α){i j:Nat}(hj:j<t.length):(C9 s t i (j+1)).set j (B5 s t i j:Int)=C9 s t i j:=by
 unfold C9;refine Oq (by simp) fun k h1 h2=>?_
 rw[R5];rw[Ig,Ig,Nh];by_cases h:j=k
 .rw[if_pos h,if_pos (by omega),h]
 .rw[if_neg h];by_cases h':j<=k
  .rw[if_pos h',if_pos (by omega)]
  .rw[if_neg h',if_neg (by omega)]
/-! the search for the next line -/
def Mf(s t:List α)(i j k:Nat):Prop:=s[i]?=t[k]?/\1+B5 s t (i+1) (k+1)=B5 s t i j
def A4t{s t:List α}{i j k:Nat}(hi:i<s.length)(hj:j<=k)(hk:k<t.length)(h:Mf s t i j k)(hn:∀ k',j<=k'->k'<k->¬ Mf s t i j k'):J5 s[i] (s.drop (i+1)) (t.drop j)=some (k - j):=by
 have hc:∀ m,j+m<t.length->(Rp s[i] (s.drop (i+1)) (t.drop j) m=true↔Mf s t i j (j+m)):=fun m hm=>by
  unfold Rp Mf B5;rw[<-Fv hi];simp only[Af,decide_eq_true_eq,beq_iff_eq,Hv,Ni];rw[A2 hi,show j+(m+1)=j+m+1 from rfl];exact⟨fun h=>⟨h.1.symm,h.2⟩,fun h=>⟨h.1.symm,h.2⟩⟩
 unfold J5;rw[List.find?_eq_some_iff_getElem];refine⟨(hc (k - j) (by omega)).2 (by rw[show j+(k - j)=k by omega];exact h),k - j,by simp;omega,by simp,fun m hm=>?_⟩;rw[Nh];have:=hn (j+m) (by omega) (by omega);rw[<-hc m (by omega)]at this;simpa using this
def Anj{s t:List α}{i j k:Nat}(hi:i<s.length)(hj:j<=k)(hk:k<t.length)(h:Mf s t i j k)(hn:∀ k',j<=k'->k'<k->¬ Mf s t i j k'):Da j (s.drop i) (t.drop j)=(k:Int)::Da (k+1) (s.drop (i+1)) (t.drop (k+1)):=by
 rw[Fv hi,Da,A4t hi hj hk h hn];simp only;rw[Ni,show j+(k - j)=k by omega,show j+(k - j+1)=k+1 by omega]
def Alv{s t:List α}{i j:Nat}(hi:i<s.length)(hn:∀ k,j<=k->k<t.length->¬ Mf s t i j k):Da j (s.drop i) (t.drop j) = -1::Da j (s.drop (i+1)) (t.drop j):=by
 rw[Fv hi,Da]
 have:J5 s[i] (s.drop (i+1)) (t.drop j)=none:=by
  cases he:J5 s[i] (s.drop (i+1)) (t.drop j) with
  | none=>rfl
  | some m=>
   obtain⟨h1,h2,h3⟩:=Als he;rw[Dn]at h1;refine absurd ?_ (hn (j+m) (by omega) (by omega));rw[Hv]at h2;rw[Ni,<-Fv hi]at h3;exact⟨by rw[h2,A2 hi],h3⟩
 rw[this]
def Ank:∀ (s:List α) (j:Nat),Da j s []=List.replicate s.length (-1)
 | [],_=>by rw[Da];rfl
 | a::s,j=>by
  rw[Da];have:J5 a s ([]:List α)=none:=by unfold J5;simp
  rw[this];simp only;rw[Ank s,Ak,U2]
/-! both programs -/
def Iu(nm:β):List (β × List α)->Nat × Option (List α)
 | []=>(0,none)
 | q::r=>if q.1=nm then(0,some q.2) else(q.2.length+(Iu nm r).1,(Iu nm r).2)
def H8(b:Nat)(l:List Int):List Int:=l.map fun k=>if 0<=k then k+b else k
def Jg(p:β × List α)(Q:List (β × List α)):List Int:=H8 (Iu p.1 Q).1 (Da 0 p.2 ((Iu p.1 Q).2.getD []))
def G6(P Q:List (β × List α)):List Int:=P.flatMap fun p=>Jg p Q
def Gr(P:List (β × List α)):List (β × α):=P.flatMap fun p=>p.2.map fun x=>(p.1,x)
def Awz(p:β × List α)(Q:List (β × List α)):(Jg p Q).length=p.2.length:=by unfold Jg H8;rw[Ba,Wn]
def At0{p:β × List α}{Q:List (β × List α)}(h:(Iu p.1 Q).2=none):Jg p Q=List.replicate p.2.length (-1):=by
 unfold Jg H8;rw[h,Option.getD_none,Ank,List.map_replicate];rfl
def Aib(p:β × List α)(P Q:List (β × List α)):G6 (p::P) Q=Jg p Q++G6 P Q:=by unfold G6;rw[Rz]
def Add(p:β × List α)(P:List (β × List α)):Gr (p::P)=(p.2.map fun x=>(p.1,x))++Gr P:=by unfold Gr;rw[Rz]
def Ade:∀ P Q:List (β × List α),(G6 P Q).length=(Gr P).length
 | [],_=>rfl
 | p::P,Q=>by rw[Aib,Add,Aj,Aj,Awz,Ba,Ade P Q]
end
def Ll(l:List Sp):Nat:=(Sp.txts 1 l).length
def Wo:Ll []=0:=rfl
def S4(s:Sp)(l:List Sp):Ll (s::l)=(s.txt 1).length+Ll l:=by unfold Ll;rw[Sp.txts,Aj]
def Wp:∀ a b:List Sp,Ll (a++b)=Ll a+Ll b
 | [],b=>by rw[Fd,Wo];omega
 | s::a,b=>by rw[Ml,S4,S4,Wp a b];omega
def Zv{l:List Sp}{i:Nat}(h:i<l.length):Ll (l.take (i+1))=Ll (l.take i)+(l[i].txt 1).length:=by
 rw[Oo,A2 h,Ach,Wp,S4,Wo];omega
structure EdB (l:List Sp) (i:Nat) (b:List Sp):Prop where
 mem:∀ s∈b,s∈l
 len:Ll b<=2*Ll (l.take i)
 cnt:b.length<=2*i
def Aw0(l:List Sp):EdB l 0 []:=⟨fun _ h=>absurd h (by simp),(by simp[Wo]),Ay _⟩
def Aw1{l b:List Sp}{i:Nat}(h:EdB l i b)(hi:i<l.length):EdB l (i+1) b:=⟨h.mem,by have:=h.len;rw[Zv hi];omega,by have:=h.cnt;omega⟩
def Anl{l b:List Sp}{i:Nat}(h:EdB l i b)(hi:i<l.length):EdB l (i+1) (b++[l[i]]):=by
 refine⟨fun s hs=>?_,?_,?_⟩
 .rcases Cr.1 hs with hs | hs
  .exact h.mem s hs
  .rw[E4]at hs;rw[hs];exact Fc hi
 .have:=h.len;rw[Zv hi,Wp,S4,Wo];omega
 .have:=h.cnt;simp;omega
def A0x{l b:List Sp}{i:Nat}(h:EdB l i b)(hi:i<l.length):EdB l (i+1) ((b++[l[i]])++[l[i]]):=by
 refine⟨fun s hs=>?_,?_,?_⟩
 .rcases Cr.1 hs with hs | hs
  .exact(Anl h hi).mem s hs
  .rw[E4]at hs;rw[hs];exact Fc hi
 .have:=h.len;rw[Zv hi,Wp,Wp,S4,Wo];omega
 .have:=h.cnt;simp;omega
def At1{l b:List Sp}{i:Nat}(h:EdB l i b)(hi:i<l.length):EdB l (i+1) (l[i]::b):=by
 refine⟨fun s hs=>?_,?_,?_⟩
 .rcases Bj.1 hs with hs | hs
  .rw[hs];exact Fc hi
  .exact h.mem s hs
 .have:=h.len;rw[Zv hi,S4];omega
 .have:=h.cnt;simp;omega
inductive EdT:List Tp->List Tp->Prop
 | nil:EdT [] []
 | cons {t t':Tp} {l l':List Tp}:t'.nm=t.nm->t'.locals=t.locals->EdB t.body t.body.length t'.body->EdT l l'->EdT (t::l) (t'::l')
def Anm:∀ {l l':List Tp} {t t':Tp},EdT l l'->t'.nm=t.nm->t'.locals=t.locals->EdB t.body t.body.length t'.body->EdT (l++[t]) (l'++[t'])
 | _,_,_,_,.nil,h1,h2,h3=>.cons h1 h2 h3 .nil
 | _,_,_,_,.cons a b c d,h1,h2,h3=>.cons a b c (Anm d h1 h2 h3)
def Ae0:∀ {l l':List Tp},EdT l l'->((l'.map Ew).flatten).length<=2*((l.map Ew).flatten).length/\l'.length=l.length
 | _,_,.nil=>⟨Ah _,rfl⟩
 | _,_,.cons (t:=t) (t':=t') a b c d=>by
  obtain⟨h1,h2⟩:=Ae0 d;have h3:=c.len;rw[Cz]at h3;unfold Ll at h3;rw[Bb,Bb,Ey,Ey,Aj,Aj,Ak,Ak,h2]
  have h4:(Ew t').length<=2*(Ew t).length:=by
   unfold Ew;rw[a,b];simp only[Aj,Ak,C0];omega
  exact⟨by omega,rfl⟩
def Ao8:∀ {l l':List Tp},EdT l l'->(∀ t∈l,∀ s∈t.body,CnS s)->∀ t∈l',∀ s∈t.body,CnS s
 | _,_,.nil,_,t,ht,_,_=>by cases ht
 | _,_,.cons a b c d,h,t,ht,s,hs=>by
  rcases Bj.1 ht with rfl | ht
  .exact h _ Dy s (c.mem s hs)
  .exact Ao8 d (fun t ht=>h t (Dj _ ht)) t ht s hs
def A0y{p q:Gp}(hd:q.decls=p.decls)(ht:EdT p.thrs q.thrs)(hc:CnG p):CnG q/\(Fy q).length<=2*(Fy p).length:=by
 refine⟨⟨fun d h=>hc.decls d (hd ▸ h),Ao8 ht hc.thrs⟩,?_⟩;have:=(Ae0 ht).1;unfold Fy;rw[hd,Aj,Aj];omega
def Aw2{g:V}{kill:List Nat}{x y R:AC}{i1 i2:Nat}{k:List It}{e:Env}{σ:St}{Q:Env->St->Prop}(P P2:Env->St->Prop)
  (h1:∀ R' k',(∀ e σ,P e σ->W TT PT (.c R'::.b i2::k') e σ Q)->(∀ e σ,P2 e σ->W TT PT k' e σ Q)->WC TT PT g kill x y (.b i1::.c R'::.b i2::k') e σ Q)
  (h2:∀ e σ,P e σ->W TT PT (.c R::.b i2::k) e σ Q) (h3:∀ e σ,P2 e σ->W TT PT k e σ Q):WC TT PT g kill x y (.b i1::.c R::.b i2::k) e σ Q:=h1 R k h2 h3
structure EW (p:Gp) (s:St) (u:V) (T:List Tp):Prop where
 z:s[1]?=some (.row [.nils,.nils] 28 0 0)
 o:s[2]?=some (.row [SL p.dz p.dt (p.decls.map Dp.row),u] 28 0 0)
 t:TS s 3
 g:GW s 4 50 4 u (T.map Tp.row)
def Aft{p:Gp}{s:St}{u:V}{T:List Tp}(h:EW p s u T):4<=s.length:=Jx h.t
def W8{p:Gp}{s s':St}{u:V}{T:List Tp}(h:EW p s u T)(ht:TS s' 3)(hk:∀ j,j<s.length->j≠3->(j=1\/j=2\/j∈u.refs)->s'[j]?=s[j]?):EW p s' u T:=by
 have hl:=Aft h
 exact⟨(hk 1 (by omega) (by omega) (.inl rfl)).trans h.z,(hk 2 (by omega) (by omega) (.inr (.inl rfl))).trans h.o,ht,K8 h.g fun j hj=>by
  obtain⟨a,b⟩:=Du h.g j hj
  exact hk j b (by omega) (.inr (.inr hj))⟩
def Wq{s s':St}{b:Nat}(h:TS s b)(hk:s'[b]?=s[b]?):TS s' b:=by
 obtain⟨z,t,l,a,h1,h2⟩:=h;exact⟨z,t,l,a,hk.trans h1,h2⟩
structure EX (p:Gp) (n:Nat) (x:Tp) (s:St) (u:V) (T:List Tp) (w:V) (B:List Sp):Prop where
 ew:EW p s u T
 n4:4<=n
 r:s[n]?=some (.row [.str x.nm,iV x.line,SL x.lz x.lt (x.locals.map fun s=>[V.str s]),SL x.bz x.bt (x.body.map Sp.row)] 50 0 0)
 u:∀ j∈u.refs,j<n
 g:GW s 11 68 (n+1) w (B.map Sp.row)
def W9{p:Gp}{n:Nat}{x:Tp}{s:St}{u w:V}{T:List Tp}{B:List Sp}(h:EX p n x s u T w B):n<s.length:=(Ap.1 h.r).1
def Ann{p:Gp}{n:Nat}{x:Tp}{s:St}{u w:V}{T:List Tp}{B:List Sp}(h:EX p n x s u T w B)(l:St):EX p n x (s++l) u T w B:=
 ⟨W8 h.ew (Wq h.ew.t (Cg (Jx h.ew.t))) fun j hj _ _=>Cg hj,h.n4,Bx h.r,h.u,O5 h.g⟩
def A0z{p:Gp}{n:Nat}{x:Tp}{s s':St}{u w:V}{T:List Tp}{B:List Sp}(h:EX p n x s u T w B)(hw:TW s s' 3):EX p n x s' u T w B:=by
 have hn:=W9 h;refine⟨W8 h.ew hw.2.2.1 fun j hj h3 _=>hw.2.1 j hj h3,h.n4,(hw.2.1 n hn (by have:=h.n4;omega)).trans h.r,h.u,K8 h.g fun j hj=>?_⟩;obtain⟨a,b⟩:=Du h.g j hj;exact hw.2.1 j b (by have:=h.n4;omega)
def Ao9{p:Gp}{n:Nat}{x:Tp}{s:St}{u w:V}{T:List Tp}{B:List Sp}(h:EX p n x s u T w B)(y:Sp)(hb:B.length<=10000000):
  ∃ w' s',D5 176 (11,68) w (.lst 1 [y.row]) s=some (w',s')/\EX p n x s' u T w' (B++[y])/\w'.cellB=true/\(∀ j,j<s.length->j ∉ w.refs->s'[j]?=s[j]?)/\∀ j∈w'.refs,j∈w.refs\/s.length<=j:=by
 have hn:=W9 h;have h4:=h.n4;obtain⟨w',s',a,g',l',k',r',-⟩:=Q3 (bytes:=176) (y:=.lst 1 [y.row]) (ys:=[y].map Sp.row) h.g (by omega) rfl (by omega) (Qv B) (Qv [y]) (Aeb [y]) (by simp;omega);rw[<-Ef]at g';have hw:∀ j,j<=n->j ∉ w.refs:=fun j hj e=>by have:=(Du h.g j e).1;omega
 refine⟨w',s',a,⟨W8 h.ew (Wq h.ew.t (k' 3 (by omega) (hw 3 (by omega)))) fun j hj _ qf=>k' j hj ?_,h4,(k' n hn (hw n (Ah _))).trans h.r,h.u,g'⟩,Dk g',k',r'⟩;rcases qf with rfl | rfl | qf
 .exact hw 1 (by omega)
 .exact hw 2 (by omega)
 .exact hw j (by have:=h.u j qf;omega)
def Aw3{p:Gp}{n:Nat}{x:Tp}{s:St}{u w:V}{T:List Tp}{B:List Sp}(h:EX p n x s u T w B)(y:Sp)(hb:B.length<=10000000):
  ∃ s1 w' s',D5 176 (11,68) (.lst 1 []) (.lst 1 [y.row]) s=some (.sl s.length 0 0 1 11 true,s1)/\D5 176 (11,68) (.sl s.length 0 0 1 11 true) w s1=some (w',s')/\EX p n x s' u T w' (y::B)/\w'.cellB=true:=by
 have hn:=W9 h;have h4:=h.n4;have hy:=Lr y
 have e1:D5 176 (11,68) (.lst 1 []) (.lst 1 [y.row]) s=some (.sl s.length 0 0 1 11 true,s++[.row y.row 68 0 0]):=by
  simp[D5,Fr,Je,hy]
 have h1:=Ann h [.row y.row 68 0 0];have g1:GW (s++([.row y.row 68 0 0]:St)) 11 68 (n+1) (.sl s.length 0 0 1 11 true) ([y].map Sp.row):=.inr ⟨by simp,s.length,0,rfl,by simp,by omega⟩;obtain⟨w',s',a,g',l',k',r',-⟩:=Q3 (bytes:=176) (y:=w) (ys:=B.map Sp.row) g1 (by simp;omega) (A4h h1.g (Qv B)) (by omega) (Qv [y]) (Qv B) (Aeb B) (by simp;omega);rw[<-Ef]at g';have hw:∀ j,j<s.length->j ∉ (V.sl s.length 0 0 1 11 true).refs:=fun j hj e=>by simp[V.refs]at e;omega
 have jk:(s++([.row y.row 68 0 0]:St)).length=s.length+1:=by simp
 refine⟨_,w',s',e1,a,⟨W8 h1.ew (Wq h1.ew.t (k' 3 (by omega) (hw 3 (by omega)))) fun j hj _ qf=>k' j hj ?_,h4,(k' n (by omega) (hw n hn)).trans h1.r,h.u,g'⟩,Dk g'⟩;rcases qf with rfl | rfl | qf
 .exact hw 1 (by omega)
 .exact hw 2 (by omega)
 .exact hw j (by have:=h.u j qf;omega)
def A4u{p:Gp}{n:Nat}{x:Tp}{s:St}{u w:V}{T:List Tp}{B:List Sp}(h:EX p n x s u T w B)(hT:T.length<=1000000):
  ∃ s1 u' s2,M5 4 1 s [.str x.nm,iV x.line,SL x.lz x.lt (x.locals.map fun s=>[V.str s]),w]=some (.lst 1 [[.str x.nm,iV x.line,SL x.lz x.lt (x.locals.map fun s=>[V.str s]),SL true 0 (B.map Sp.row)]],s1) /\
   D5 72 (4,50) u (.lst 1 [[.str x.nm,iV x.line,SL x.lz x.lt (x.locals.map fun s=>[V.str s]),SL true 0 (B.map Sp.row)]]) s1=some (u',s2)/\u'.cellB=true/\s2[2]?=some (.row [SL p.dz p.dt (p.decls.map Dp.row),u] 28 0 0) /\
   EW p (s2.set 2 (.row [SL p.dz p.dt (p.decls.map Dp.row),u'] 28 0 0)) u' (T++[⟨x.nm,x.line,x.lz,x.lt,x.locals,true,0,B⟩]):=by
 have hn:=W9 h;have h4:=h.n4;obtain⟨s1,e1,l1,f1,-⟩:=Ajs h.g (loc:=SL x.lz x.lt (x.locals.map fun s=>[V.str s])) (I5 ..) x.nm x.line;have hw:∀ j,j<=n->j ∉ w.refs:=fun j hj e=>by have:=(Du h.g j e).1;omega
 have hx:Tp.row ⟨x.nm,x.line,x.lz,x.lt,x.locals,true,0,B⟩=[.str x.nm,iV x.line,SL x.lz x.lt (x.locals.map fun s=>[V.str s]),SL true 0 (B.map Sp.row)]:=rfl;have g1:GW s1 4 50 4 u (T.map Tp.row):=K8 h.ew.g fun i hi=>f1 i (hw i (by have:=h.u i hi;omega))
 obtain⟨u',s2,e2,g2,l2,k2,r2,-⟩:=Q3 (bytes:=72) (y:=.lst 1 [Tp.row ⟨x.nm,x.line,x.lz,x.lt,x.locals,true,0,B⟩]) (ys:=[Tp.row ⟨x.nm,x.line,x.lz,x.lt,x.locals,true,0,B⟩]) g1 (by omega) rfl (by omega) (Qq T) (by simp;rfl) (fun r hr=>by rw[E4.1 hr,hx];simp only[Av,Be,I5];rfl) (by simp;omega);have hu:∀ j,j<4->j ∉ u.refs:=fun j hj e=>by have:=(Du h.ew.g j e).1;omega
 have kk:∀ j,j<4->s2[j]?=s[j]?:=fun j hj=>(k2 j (by omega) (hu j hj)).trans (f1 j (hw j (by omega)))
 refine⟨s1,u',s2,e1,e2,Dk g2,(kk 2 (by omega)).trans h.ew.o,?_,Cc (by omega),?_,?_⟩
 .rw[Bg (by omega),kk 1 (by omega)];exact h.ew.z
 .exact Wq h.ew.t ((Bg (by omega)).trans (kk 3 (by omega)))
 .rw[Ef,Yd];exact K8 g2 fun j hj=>Bg fun e=>by have:=(Du g2 j hj).1;omega
set_option maxHeartbeats 8000000 in
def Ano{p:Gp}(hp:OKp p)(z:Bool)(t:Nat)(l:List UInt8)(hl:l.length<=9223372036854775807):∃ q:Gp,Fn TT PT 13 [.agg p.row,SL z t (Bh l)] (.agg q.row)/\q.decls=p.decls/\EdT p.thrs q.thrs:=by
 have qg:=Rj p;have qq:=F1 p;have qm:=hp.few;have qF:=Sa l;have qT:(p.thrs.map Tp.row).length=p.thrs.length:=Ba ..;have e1:min (l.length:Int) 60=((min l.length 60:Nat):Int):=by omega
 obtain⟨z2,t2,ql⟩:=Y3 z t 1 (Bh l) .i64 (min l.length 60) (by rw[qF];omega);rw[show(Bh l).take (min l.length 60)=Bh (l.take (min l.length 60)) by unfold Bh;rw[Acw]]at ql;rw[qq]at qg ⊢;refine Ap3 T13 rfl ?_
 have w0:EW p [.row [SL p.dz p.dt (p.decls.map Dp.row),SL p.tz p.tt (p.thrs.map Tp.row)] 28 0 0,.row [.nils,.nils] 28 0 0,.row [SL p.dz p.dt (p.decls.map Dp.row),.nils] 28 0 0,.row [SL z2 t2 (Bh (l.take (min l.length 60))),iV 0] 59 0 0] .nils []:=
  ⟨rfl,rfl,⟨z2,t2,_,0,rfl,Ay _,by rw[Hw];omega⟩,F9⟩
 simp only[go_sem,qF,e1,ql,qT];refine Bv (α:=Nat × St × V × List Tp) (fun a=>p.thrs.length - a.1) (fun a=>[(4,.ptr 1 0 0),(5,.ptr 2 0 0),(6,.ptr 3 0 0),(23,SL p.tz p.tt (p.thrs.map Tp.row)),(24,iV (p.thrs.length:Int)),(25,iV (a.1:Int))]) (fun a=>a.2.1) (fun a=>a.1<=p.thrs.length/\EW p a.2.1 a.2.2.1 a.2.2.2/\EdT (p.thrs.take a.1) a.2.2.2) ?_ (0,_,.nils,[]) ⟨Ay _,w0,.nil⟩;clear w0;rintro⟨i,s,u,T⟩ ⟨hi,ew,hT⟩ ih;simp only at hi ew hT ih;have ji:T.length=i:=by rw[(Ae0 hT).2,Hw];omega
 refine Bw (by delta lp13_1;exact rfl) ?_;rcases Br i p.thrs.length with qn | qn;rotate_left
 .have qo:i=p.thrs.length:=by omega
  rw[qo,Cz]at hT;have ho:=ew.o;have hz:=ew.z;have qa:=Aft ew;have hc:=Dk ew.g;obtain⟨qw,qx⟩:=Hi hc;simp only[go_sem,Ce qn,ho,hz,qw,qx,hc];have z5:(s.set 1 (.row [SL p.dz p.dt (p.decls.map Dp.row),u] 28 0 0))[1]?=some (.row [SL p.dz p.dt (p.decls.map Dp.row),u] 28 0 0):=Cc (by omega);refine⟨_,_,p.dz,p.dt,true,0,p.decls,T,Ro z5 rfl rfl,⟨Hj (I5 ..),Ami ..⟩,⟨?_,hc⟩,rfl,hT⟩;exact N3 (K8 ew.g fun j hj=>Bg fun e=>by have:=(Du ew.g j hj).1;omega) (by omega) (Qq T) (Y6 T)
 obtain⟨x,hx,-,je⟩:=Cw qn;have jf:=Pp x;have qQ:(x.body.map Sp.row).length=x.body.length:=Ba ..;have jm:=hp.siz x je;have jl:=Aa5 x.body;have i1:IntKind.i64.wrap ((i:Int)+1)=((i+1:Nat):Int):=Bf (by omega);have qa:=Aft ew;obtain⟨s1,e1⟩:∃ s1:St,s1=s++[.row [.str x.nm,iV x.line,SL x.lz x.lt (x.locals.map fun s=>[V.str s]),SL x.bz x.bt (x.body.map Sp.row)] 50 0 0]:=⟨_,rfl⟩
 have ex:EX p s.length x s1 u T .nils []:=by
  refine⟨W8 ew (Wq ew.t (by rw[e1];exact Cg (Jx ew.t))) fun j hj _ _=>by rw[e1];exact Cg hj,qa,by rw[e1];simp,fun j hj=>(Du ew.g j hj).2,F9⟩
 have qG:=ex.r;simp only[go_sem,Bp qn,Aq,hx,jf];rw[<-e1];simp only[go_sem,qG,qQ];generalize s.length=n at *;clear qG e1 qa ew;clear s;refine Bv (α:=Nat × St × V × List Sp) (fun a=>x.body.length - a.1) (fun a=>[(4,.ptr 1 0 0),(5,.ptr 2 0 0),(6,.ptr 3 0 0),(8,.ptr n 0 0),(9,a.2.2.1),(23,SL p.tz p.tt (p.thrs.map Tp.row)),(24,iV (p.thrs.length:Int)),(25,iV (i:Int)),(30,SL x.bz x.bt (x.body.map Sp.row)),(31,iV (x.body.length:Int)),(32,iV (a.1:Int))]) (fun a=>a.2.1) (fun a=>a.1<=x.body.length/\EX p n x a.2.1 u T a.2.2.1 a.2.2.2/\EdB x.body a.1 a.2.2.2) ?_ (0,s1,.nils,[]) ⟨Ay _,ex,Aw0 _⟩;clear ex;clear s1;rintro⟨k,s,w,B⟩ ⟨hk,ex,hB⟩ kh;simp only at hk ex hB kh;have qP:=hB.cnt;have qJ:=Dk ex.g;refine Bw (by delta lp13_0;exact rfl) ?_;rcases Br k x.body.length with qc | qc;rotate_left
 .have qS:k=x.body.length:=by omega
  rw[qS]at hB;obtain⟨s1,u',s2,a1,a2,hc,a3,qL⟩:=A4u ex (by omega);obtain⟨qw,qx⟩:=Hi hc;obtain⟨jb,jc⟩:=Hi qJ;have hr:=ex.r;have ho:=ex.ew.o;simp only[go_sem,Ce qc,hr,ho,jb,jc,qJ,a1,a2,a3,qw,qx,hc,i1];refine Bd (ih (i+1,_,u',_) (by simp only;omega) ⟨qn,qL,?_⟩) rfl;have qi:p.thrs.take (i+1)=p.thrs.take i++[x]:=by rw[Oo,hx];rfl
  simp only[qi];exact Anm hT rfl rfl hB
 obtain⟨y,hy,-,-⟩:=Cw qc;have jg:x.body[k]=y:=(Ap.1 hy).2;have b0:=Aw1 hB qc;have b1:=Anl hB qc;have b2:=A0x hB qc;have b3:=At1 hB qc;rw[jg]at b1 b2 b3;have qd:=Es y;have k1:IntKind.i64.wrap ((k:Int)+1)=((k+1:Nat):Int):=Bf (by omega);have qs:=Ann ex [.row y.row 68 0 0];obtain⟨s1,e1⟩:∃ s1:St,s1=s++[.row y.row 68 0 0]:=⟨_,rfl⟩;have r1:s1[s.length]?=some (.row y.row 68 0 0):=by rw[e1];simp
 rw[<-e1]at qs;obtain⟨r,s2,q2,tw,l2,-,-,-⟩:=Ak7 qs.ew.t 6 (by omega);have qe:=A0z qs tw;have jd:s.length ∉ w.refs:=fun e=>by have:=(Du ex.g _ e).2;omega
 have qV:s.length≠3:=by have:=W9 ex;have:=ex.n4;omega
 have r2:s2[s.length]?=some (.row y.row 68 0 0):=(tw.2.1 _ (Ap.1 r1).1 qV).trans r1;rw[qd]at e1;have qK:Bt TT PT 22 [.ptr 3 0 0,iV 6] s1 (iV (r:Int)) s2:=q2;simp only[go_sem,Bp qc,Aq,hy,qd];rw[<-e1];refine Ab qK ?_;simp only[go_sem];generalize s.length=m at *;clear q2 qK r1 e1 qs tw l2 ex;clear s1;clear s;refine Aw2 (fun e s'=>∃ w' B' X,e=(4,.ptr 1 0 0)::(5,.ptr 2 0 0)::(6,.ptr 3 0 0)::(8,.ptr n 0 0)::(9,w')::(23,SL p.tz p.tt (p.thrs.map Tp.row))::(24,iV (p.thrs.length:Int))::(25,iV (i:Int))::(30,SL x.bz x.bt (x.body.map Sp.row))::(31,iV (x.body.length:Int))::(32,iV (k:Int))::(11,.ptr m 0 0)::X/\EX p n x s' u T w' B'/\EdB x.body (k+1) (B'++[y])/\s'[m]?=some (.row y.row 68 0 0)/\B'.length<=3000000) (fun e s'=>∃ w' B' X,e=(4,.ptr 1 0 0)::(5,.ptr 2 0 0)::(6,.ptr 3 0 0)::(8,.ptr n 0 0)::(9,w')::(23,SL p.tz p.tt (p.thrs.map Tp.row))::(24,iV (p.thrs.length:Int))::(25,iV (i:Int))::(30,SL x.bz x.bt (x.body.map Sp.row))::(31,iV (x.body.length:Int))::(32,iV (k:Int))::X/\EX p n x s' u T w' B'/\EdB x.body (k+1) B') ?_ ?_ ?_;rotate_left
 .rintro _ s ⟨w',B',X,rfl,ex,qv,r3,qP⟩;obtain⟨w2,s2,a1,qe,hc,-,-⟩:=Ao9 ex y (by omega);rw[qd]at r3 a1;simp only[go_sem,r3,a1,k1];exact Bd (kh (k+1,s2,w2,B'++[y]) (by simp only;omega) ⟨qc,qe,qv⟩) rfl
 .rintro _ s ⟨w',B',X,rfl,ex,qv⟩;simp only[go_sem,k1];exact Bd (kh (k+1,s,w',B') (by simp only;omega) ⟨qc,ex,qv⟩) rfl
 intro R' k' hA hC;rw[qd]at r2;have one:∀ X,W TT PT (.c R'::.b 3::k') ((4,.ptr 1 0 0)::(5,.ptr 2 0 0)::(6,.ptr 3 0 0)::(8,.ptr n 0 0)::(9,w)::(23,SL p.tz p.tt (p.thrs.map Tp.row))::(24,iV (p.thrs.length:Int))::(25,iV (i:Int))::(30,SL x.bz x.bt (x.body.map Sp.row))::(31,iV (x.body.length:Int))::(32,iV (k:Int))::(11,.ptr m 0 0)::X) s2 _:=fun X=>hA _ _ ⟨w,B,X,rfl,qe,b1,by rw[qd];exact r2,by omega⟩
 have qU:m<s2.length:=(Ap.1 r2).1
 have qz:Og w=some (iV (B.length:Int)):=by
  have:=A3g (Af6 qe.g)
  rwa [Ba]at this
 by_cases h1:r=1
 .have f1:((r:Int)==1)=true:=by simp[h1]
  by_cases ho:y.op=12
  .have f2:(y.op != 12)=false:=by simp[ho]
   simp only[go_sem,f1,r2,f2];exact one _
  .have f2:(y.op != 12)=true:=by simp[ho]
   simp only[go_sem,f1,r2,f2];exact hC _ _ ⟨w,B,_,rfl,qe,b0⟩
 have f1:((r:Int)==1)=false:=by rw[beq_eq_false_iff_ne];omega
 by_cases h2:r=2
 .have f2:((r:Int)==2)=true:=by simp[h2]
  by_cases ho:y.op=1
  .have f3:(y.op==1)=true:=by simp[ho]
   obtain⟨w3,s3,a1,qM,jj,k3,-⟩:=Ao9 qe y (by omega);have r3:=(k3 m qU jd).trans r2;rw[qd]at a1;simp only[go_sem,f1,f2,r2,f3,a1];exact hA _ _ ⟨w3,B++[y],_,rfl,qM,b2,by rw[qd];exact r3,by rw[Aj,Ht];omega⟩
  .have f3:(y.op==1)=false:=by simp[ho]
   simp only[go_sem,f1,f2,r2,f3];exact one _
 have f2:((r:Int)==2)=false:=by rw[beq_eq_false_iff_ne];omega
 by_cases h3:r=3;rotate_left
 .have f3:((r:Int)==3)=false:=by rw[beq_eq_false_iff_ne];omega
  simp only[go_sem,f1,f2,f3];exact one _
 have f3:((r:Int)==3)=true:=by simp[h3]
 by_cases jh:0<B.length;rotate_left
 .have f4:(0<(B.length:Int))=False:=eq_false (by omega);simp only[go_sem,f1,f2,f3,qz,f4];exact one _
 have f4:(0<(B.length:Int))=True:=eq_true (by omega);by_cases ho:y.op=1
 .have f5:(y.op==1)=true:=by simp[ho]
  obtain⟨s3,w4,s4,a1,a2,qN,-⟩:=Aw3 qe y (by omega);rw[qd]at a1;have f6:M5 11 0 s2 []=some (.lst 1 [],s2):=An7 rfl;simp only[go_sem,f1,f2,f3,qz,f4,r2,f5,f6,a1,a2];exact hC _ _ ⟨w4,y::B,_,rfl,qN,b3⟩
 .have f5:(y.op==1)=false:=by simp[ho]
  simp only[go_sem,f1,f2,f3,qz,f4,r2,f5];exact one _
def Ap6{p q:Gp}(hp:OKp p)(hd:q.decls=p.decls)(ht:EdT p.thrs q.thrs):CnG q/\(Fy q).length<=20000000000:=by
 obtain⟨a,b⟩:=A0y hd ht (Aao hp.sh);exact⟨a,by have:=hp.len;omega⟩
section
variable {α β:Type} [DecidableEq α] [DecidableEq β]
def Ajw(A B:List (β × List α)):(Gr (A++B)).length=(Gr A).length+(Gr B).length:=by unfold Gr;simp
def Adf{nm:β}:∀ {A B:List (β × List α)},(∀ q∈A,q.1≠nm)->Iu nm (A++B)=((Gr A).length+(Iu nm B).1,(Iu nm B).2)
 | [],B,_=>by rw[Fd];simp[Gr]
 | q::A,B,h=>by
  rw[Ml,Iu,if_neg (h q Dy),Adf fun r hr=>h r (Dj _ hr),Add,Aj,Ba];simp only[R9]
def Lm(nm:β)(Q:List (β × List α))(k:Nat):Prop:=∀ q∈Q.take k,q.1≠nm
def Alw(nm:β)(Q:List (β × List α)):Lm nm Q 0:=fun q hq=>by simp at hq
def Alx{nm:β}{Q:List (β × List α)}{k:Nat}(h:Lm nm Q k){q:β × List α}(hq:Q[k]?=some q)(hn:q.1≠nm):Lm nm Q (k+1):=fun r hr=>by
 rw[Oo,hq]at hr;rcases Cr.1 hr with hr | hr
 .exact h r hr
 .simp at hr;rw[hr];exact hn
def E9(Q:List (β × List α))(k:Nat):Nat:=(Gr (Q.take k)).length
def Adg{Q:List (β × List α)}{k:Nat}{q:β × List α}(hq:Q[k]?=some q):E9 Q (k+1)=E9 Q k+q.2.length:=by
 unfold E9;rw[Oo,hq,Ach,Ajw];unfold Gr;simp
def V4(Q:List (β × List α))(k:Nat):E9 Q k<=(Gr Q).length:=by
 unfold E9;have:=Ajw (Q.take k) (Q.drop k);rw[J7]at this;omega
def At2{nm:β}{Q:List (β × List α)}{k:Nat}{q:β × List α}(h:Lm nm Q k)(hq:Q[k]?=some q)(hn:q.1=nm):Iu nm Q=(E9 Q k,some q.2):=by
 obtain⟨hk,he⟩:=Ap.1 hq;have:=Adf (B:=Q.drop k) h;rw[J7,Fv hk,he,Iu,if_pos hn]at this;exact this
def Aix{nm:β}{Q:List (β × List α)}(h:Lm nm Q Q.length):Iu nm Q=(E9 Q Q.length,none):=by
 have:=Adf (B:=[]) h;rw[Cm,Cz,Iu]at this;rw[this];unfold E9;rw[Cz];rfl
inductive FoundR (nm:β) (Q:List (β × List α)) (k:Nat):Int->Nat->Prop
 | no:Lm nm Q k->FoundR nm Q k (-1) (E9 Q k)
 | yes {j:Nat} {q:β × List α}:j<k->Lm nm Q j->Q[j]?=some q->q.1=nm->FoundR nm Q k (j:Int) (E9 Q j)
def Asg(nm:β)(Q:List (β × List α)):FoundR nm Q 0 (-1) 0:=.no (Alw nm Q)
def At3{nm:β}{Q:List (β × List α)}{k:Nat}{q:β × List α}(h:Lm nm Q k)(hq:Q[k]?=some q)(hn:q.1=nm):FoundR nm Q (k+1) (k:Int) (E9 Q k):=.yes (Acn k) h hq hn
def Ash{nm:β}{Q:List (β × List α)}{k j b:Nat}(h:FoundR nm Q k (j:Int) b):FoundR nm Q (k+1) (j:Int) b:=by
 generalize hf:(j:Int)=f at h
 cases h with
 | no h=>omega
 | yes h1 h2 h3 h4=>exact .yes (by omega) h2 h3 h4
def Asi{nm:β}{Q:List (β × List α)}{k:Nat}{q:β × List α}(h:Lm nm Q k)(hq:Q[k]?=some q)(hn:q.1≠nm):FoundR nm Q (k+1) (-1) (E9 Q k+q.2.length):=by
 rw[<-Adg hq];exact .no (Alx h hq hn)
def Aly{nm:β}{s:List α}{Q:List (β × List α)}{k:Nat}{q:β × List α}(h:Lm nm Q k)(hq:Q[k]?=some q)(hn:q.1=nm):Jg (nm,s) Q=H8 (E9 Q k) (Da 0 s q.2):=by
 unfold Jg;rw[At2 h hq hn,U6]
def Ajx{nm:β}{s:List α}{Q:List (β × List α)}(h:Lm nm Q Q.length):Jg (nm,s) Q=List.replicate s.length (-1)/\Jg (nm,s) Q=H8 (E9 Q Q.length) (Da 0 s []):=by
 have h2:(Iu nm Q).2=none:=by rw[Aix h]
 refine⟨At0 (p:=(nm,s)) h2,?_⟩;unfold Jg;rw[Aix h,Option.getD_none]
def Aic{P:List (β × List α)}{i:Nat}{p:β × List α}(Q:List (β × List α))(h:P[i]?=some p):G6 (P.take (i+1)) Q=G6 (P.take i) Q++Jg p Q:=by
 unfold G6;rw[Oo,h,Ach,List.flatMap_append];simp
end
def Gn(p:Gp):List (List UInt8 × List (List UInt8)):=p.thrs.map fun t=>(t.nm,Sp.hdss t.body)
def Ju(p q:Gp):List Int:=G6 (Gn p) (Gn q)
def Y8:∀ L:List Tp,(Gr (L.map fun t=>(t.nm,Sp.hdss t.body))).length=((L.map fun t=>Uj t.nm [] (Sp.hdss t.body)).flatten).length
 | []=>rfl
 | t::L=>by rw[Bb,Add,Bb,Ey,Aj,Aj,Ba,Adx,Y8 L]
def Asj(p q:Gp):(Ju p q).length=(Abn p).length:=by
 unfold Ju;rw[Ade];exact Y8 p.thrs
def Bl(l:List Int):List V:=l.map fun x=>iV x
def Rq(R:List (List Int)):V:=.lst 0 (R.map fun r=>[.lst 0 (r.map fun x=>[iV x])])
def Mg(L:List (Nat × List Int)):List V:=L.map fun p=>.sl p.1 0 0 p.2.length 1 true
def Ajy(l:List Int):Bl l=(l.map fun x=>[iV x]).flatten:=by
 induction l with
 | nil=>rfl
 | cons a l ih=>rw[Bb,Ey,<-ih];rfl
def Alz:∀ l:List V,Eu 1 l.length l=l.map fun x=>[x]
 | []=>rfl
 | a::l=>by rw[Ak,Eu,Bb,Acg,Ln,Alz l];rfl
def Aid{σ:St}{js:List Nat}{d:Nat}:∀ {L:List (Nat × List Int)},(∀ p∈L,∃ e z,σ[p.1]?=some (.row (Bl p.2) e 0 z))->(∀ p∈L,p.1∈js) ->
  (Mg L).mapM (Ff σ js (d+2))=some (L.map fun p=>.lst 0 (p.2.map fun x=>[iV x]))
 | [],_,_=>rfl
 | p::L,h,hj=>by
  have ih:=Aid (d:=d) (fun q hq=>h q (Dj _ hq)) fun q hq=>hj q (Dj _ hq)
  obtain⟨e,z,ho⟩:=h p Dy;have hp:=hj p Dy;have h1:=Tz (xs:=p.2.map fun x=>[iV x]) (w:=true) (m:=1) (by rw[<-Ajy];exact ho) (by omega) (fun r hr=>by obtain⟨x,-,rfl⟩:=Dq.1 hr;rfl) (fun r hr=>by obtain⟨x,-,rfl⟩:=Dq.1 hr;rfl);have h2:=h1 js (fun i hi=>by simp[V.refs]at hi;rw[hi];exact hp) d;rw[Ba]at h2;unfold Mg at ih ⊢;rw[Bb,Hy,h2,ih];rfl
def Ask{σ:St}{o e z:Nat}{js:List Nat}{d:Nat}{L:List (Nat × List Int)}(ho:σ[o]?=some (.row (Mg L) e 0 z))(h:∀ p∈L,∃ e z,σ[p.1]?=some (.row (Bl p.2) e 0 z))(hj:∀ p∈L,p.1∈js)(qX:o∈js):
  Ff σ js (d+3) (.sl o 0 0 L.length 1 true)=some (Rq (L.map fun p=>p.2)):=by
 have hl:(Mg L).length=L.length:=by unfold Mg;rw[Ba]
 have he:js.elem o=true:=by simpa using qX
 unfold Ff;rw[if_neg (by simp[V.rowB])];simp only[he,if_true,ho];rw[if_pos ⟨trivial,by omega,by omega⟩,Ln,Ve,<-hl,Cz,Aid h hj,Fp];unfold Rq;have qa:(Mg L).length=(L.map fun p=>V.lst 0 (p.2.map fun x=>[iV x])).length:=by rw[hl,Ba]
 rw[qa,Alz,Qj,Qj];rfl
def Zw{R:List (List Int)}{i:Nat}{r:List Int}(h:R[i]?=some r):(R.map fun r=>[V.lst 0 (r.map fun x=>[iV x])])[i]?=some [.lst 0 (r.map fun x=>[iV x])]:=by
 rw[Aq,h];rfl
def Abq{r:List Int}{j:Nat}{x:Int}(h:r[j]?=some x):(r.map fun x=>[iV x])[j]?=some [iV x]:=by
 rw[Aq,h];rfl
def Aw4{r:List Int}{j:Nat}{x:Int}(h:r[j]?=some x):(Bl r)[j]?=some (iV x):=by
 unfold Bl;rw[Aq,h];rfl
def Aw5(r:List Int)(j:Nat)(x:Int):(Bl r).set j (iV x)=Bl (r.set j x):=by
 unfold Bl;rw[Acz]
def V5(n:Nat):List.replicate n (iV 0)=Bl (List.replicate n 0):=by
 unfold Bl;rw[List.map_replicate]
def Apa{T:Nat->Option AF}{pr:Nat->Option (List V->Option V)}{f p:Nat}{res:List AR}{body:AC}{vs:List V}{R:List (List Int)}(hT:T f=some ⟨p,res,false,body,none⟩)(hl:vs.length=p)
  (h:W T pr [.c body] (C6 0 vs) [] (Hd fun e' σ1=>∃ (o e z:Nat) (L:List (Nat × List Int)),Cd e' σ1 res=some (.sl o 0 0 L.length 1 true)/\σ1[o]?=some (.row (Mg L) e 0 z)/\(∀ p∈L,∃ e z,σ1[p.1]?=some (.row (Bl p.2) e 0 z))/\(L.map fun p=>p.2)=R)):Fn T pr f vs (Rq R):=by
 obtain⟨e',σ1,hE,o,e,z,L,hr,ho,hL,rfl⟩:=h;refine Ajb hT rfl rfl hl ⟨e',σ1,hE,.sl o 0 0 L.length 1 true,o::L.map fun p=>p.1,hr,rfl,?_,rfl,rfl⟩;exact Ask (d:=6) ho hL (fun p hp=>Dj _ (Dq.2 ⟨p,hp,rfl⟩)) Dy
variable {α:Type} [DecidableEq α]
/-! version.common: the rows from i on are there; row k is object 1 + (n - k) -/
def Oh(m b:Nat):V:=.sl b 0 0 (m+1) 1 true
def Ek(n m i:Nat):List V:=(List.range (n+1)).map fun k=>if k<i then .nils else Oh m (1+(n - k))
def Et(s t:List α)(k:Nat):List (List Int):=(List.range k).map fun d=>Fl s t (s.length - d)
def Fi(OT IT n m i:Nat)(R:List (List Int)):St:=.row (Ek n m i) OT 0 0::R.map fun r=>.row (Bl r) IT 0 0
def Zx(n m i:Nat):(Ek n m i).length=n+1:=by unfold Ek;simp
def At4(n m:Nat):(List.replicate (n+1) V.nils).set n (Oh m 1)=Ek n m n:=by
 unfold Ek;refine Oq (by simp) fun k h1 h2=>?_
 rw[R5,Ig,Nh];simp at h2;by_cases h:n=k
 .subst h;rw[if_pos rfl,if_neg (by omega),Gc]
 .rw[if_neg h,if_pos (by omega),X3]
def Aw6{n m i:Nat}(hi:i<n):(Ek n m (i+1)).set i (Oh m (1+(n - i)))=Ek n m i:=by
 unfold Ek;refine Oq (by simp) fun k h1 h2=>?_
 rw[R5,Ig,Ig,Nh];by_cases h:i=k
 .subst h;rw[if_pos rfl,if_neg (by omega)]
 .rw[if_neg h];by_cases h':k<i
  .rw[if_pos (by omega),if_pos h']
  .rw[if_neg (by omega),if_neg h']
def Aw7{n m i k:Nat}(h:i<=k)(hk:k<=n):(Ek n m i)[k]?=some (Oh m (1+(n - k))):=by
 unfold Ek;rw[Aq,P6 (by omega),Fp,if_neg (by omega)]
def So(s t:List α)(k:Nat):(Et s t k).length=k:=by unfold Et;simp
def Asl(s t:List α)(k:Nat):Et s t k++[Fl s t (s.length - k)]=Et s t (k+1):=by
 unfold Et;rw[List.range_succ,Ef,Yd]
def A00(OT IT n m i:Nat)(R:List (List Int)):(Fi OT IT n m i R).length=1+R.length:=by unfold Fi;simp;omega
def A01(OT IT n m i:Nat)(R:List (List Int))(r:List Int):Fi OT IT n m i R++[.row (Bl r) IT 0 0]=Fi OT IT n m i (R++[r]):=by
 unfold Fi;rw[Ef,Ml];rfl
def Ae1(OT IT n m i:Nat){R:List (List Int)}{k:Nat}{r:List Int}(h:R[k]?=some r):(Fi OT IT n m i R)[1+k]?=some (.row (Bl r) IT 0 0):=by
 unfold Fi;rw[show 1+k=k+1 by omega,J6,Aq,h];rfl
def A02(OT IT n m i:Nat)(R:List (List Int))(k:Nat)(r:List Int):(Fi OT IT n m i R).set (1+k) (.row (Bl r) IT 0 0)=Fi OT IT n m i (R.set k r):=by
 unfold Fi;rw[show 1+k=k+1 by omega,Yb,Acz]
def Asm(s t:List α){i:Nat}(hi:i<s.length)(r:List Int):(Et s t (s.length - i)++[r])[s.length - (i+1)]?=some (Fl s t (i+1)):=by
 rw[Cg (by rw[So];omega)];unfold Et;rw[Aq,P6 (by omega),Fp,show s.length - (s.length - (i+1))=i+1 by omega]
def At5(s t:List α)(i:Nat)(r:List Int):(Et s t (s.length - i)++[r])[s.length - i]?=some r:=by
 rw[Cj (by rw[So];omega),So,Gc];rfl
def At6(s t:List α)(i:Nat)(r r':List Int):(Et s t (s.length - i)++[r]).set (s.length - i) r'=Et s t (s.length - i)++[r']:=by
 rw[Ie _ _ (by rw[So];omega),So,Gc];rfl
def Asn(s t:List α){i:Nat}(hi:i<=s.length):Et s t (s.length - i)++[Fl s t i]=Et s t (s.length - i+1):=by
 rw[<-Asl,show s.length - (s.length - i)=i by omega]
def vL(s t:List α):List (Nat × List Int):=(List.range (s.length+1)).map fun k=>(1+(s.length - k),Fl s t k)
def A4v(s t:List α):(vL s t).length=s.length+1:=by unfold vL;simp
def A4w(s t:List α):((vL s t).map fun p=>p.2)=Ix s t:=by
 unfold vL Ix;rw[Qj];rfl
def A4x(s t:List α):Mg (vL s t)=Ek s.length t.length 0:=by
 unfold Mg vL Ek Oh;rw[Qj];refine X6 fun k _=>?_
 simp only[Function.comp,S0];rw[if_neg (by omega)]
def A03(OT IT:Nat)(s t:List α):∀ p∈vL s t,∃ e z,(Fi OT IT s.length t.length 0 (Et s t (s.length+1)))[p.1]?=some (.row (Bl p.2) e 0 z):=by
 intro p hp;unfold vL at hp;obtain⟨k,hk,rfl⟩:=Dq.1 hp;rw[E5]at hk;refine⟨IT,0,Ae1 _ _ _ _ _ ?_⟩;unfold Et;rw[Aq,P6 (by omega),Fp,show s.length - (s.length - k)=k by omega]
/-! the reference's common: all rows are there; row k is object 1 + k -/
def El(n m i:Nat):List V:=(List.range (n+1)).map fun k=>if k<i then Oh m (1+k) else .nils
def Dw(s t:List α)(i j:Nat):List (List Int):=(List.range (s.length+1)).map fun k=>if k<i then C9 s t k t.length else if k=i then C9 s t i j else Fl s t k
def Ds(OT IT n m i:Nat)(R:List (List Int)):St:=.row (El n m i) OT 0 0::R.map fun r=>.row (Bl r) IT 0 0
def Zy(n m i:Nat):(El n m i).length=n+1:=by unfold El;simp
def At7(n m:Nat):El n m 0=List.replicate (n+1) V.nils:=by
 unfold El;refine Oq (by simp) fun k h1 h2=>?_
 rw[Ig,X3,if_neg (by omega)]
def Aw8{n m i:Nat}(hi:i<=n):(El n m i).set i (Oh m (1+i))=El n m (i+1):=by
 unfold El;refine Oq (by simp) fun k h1 h2=>?_
 rw[R5,Ig,Ig,Nh];by_cases h:i=k
 .subst h;rw[if_pos rfl,if_pos (by omega)]
 .rw[if_neg h];by_cases h':k<i
  .rw[if_pos h',if_pos (by omega)]
  .rw[if_neg h',if_neg (by omega)]
def Aw9{n m k i:Nat}(hk:k<i)(hn:k<=n):(El n m i)[k]?=some (Oh m (1+k)):=by
 unfold El;rw[Aq,P6 (by omega),Fp,if_pos hk]
def A04(OT IT n m i:Nat)(R:List (List Int)):(Ds OT IT n m i R).length=1+R.length:=by unfold Ds;simp;omega
def A05(OT IT n m i:Nat)(R:List (List Int))(r:List Int):Ds OT IT n m i R++[.row (Bl r) IT 0 0]=Ds OT IT n m i (R++[r]):=by
 unfold Ds;rw[Ef,Ml];rfl
def Ws(OT IT n m i:Nat){R:List (List Int)}{k:Nat}{r:List Int}(h:R[k]?=some r):(Ds OT IT n m i R)[1+k]?=some (.row (Bl r) IT 0 0):=by
 unfold Ds;rw[show 1+k=k+1 by omega,J6,Aq,h];rfl
def Anp(OT IT n m i:Nat)(R:List (List Int))(k:Nat)(r:List Int):(Ds OT IT n m i R).set (1+k) (.row (Bl r) IT 0 0)=Ds OT IT n m i (R.set k r):=by
 unfold Ds;rw[show 1+k=k+1 by omega,Yb,Acz]
def At8(s t:List α)(i j:Nat):(Dw s t i j).length=s.length+1:=by unfold Dw;simp
def Ars(s t:List α):Dw s t s.length 0=List.replicate (s.length+1) (List.replicate (t.length+1) 0):=by
 unfold Dw;refine Oq (by simp) fun k h1 h2=>?_
 rw[Ig,Nh,X3];simp at h2;by_cases h:k<s.length
 .rw[if_pos h,Alt]
 .have e:k=s.length:=by omega
  rw[if_neg h,if_pos e,Vo,Alu]
def Aso(s t:List α){i:Nat}(hi:i<s.length):Dw s t (i+1) 0=Dw s t i t.length:=by
 unfold Dw;refine X6 fun k _=>?_
 by_cases h:k<i
 .rw[if_pos (by omega),if_pos h]
 .by_cases h2:k=i
  .subst h2;rw[if_pos (by omega),if_neg (by omega),if_pos rfl]
  .by_cases h3:k=i+1
   .subst h3;rw[if_neg (by omega),if_pos rfl,if_neg (by omega),if_neg (by omega),Vo]
   .rw[if_neg (by omega),if_neg h3,if_neg h,if_neg h2]
def At9(s t:List α){i j:Nat}(hi:i<=s.length):(Dw s t i j)[i]?=some (C9 s t i j):=by
 unfold Dw;rw[Aq,P6 (by omega),Fp,if_neg (by omega),if_pos rfl]
def Asp(s t:List α){i j:Nat}(hi:i<s.length):(Dw s t i j)[i+1]?=some (Fl s t (i+1)):=by
 unfold Dw;rw[Aq,P6 (by omega),Fp,if_neg (by omega),if_neg (by omega)]
def Ajz(s t:List α){i j:Nat}(hi:i<=s.length)(hj:j<t.length):(Dw s t i (j+1)).set i ((C9 s t i (j+1)).set j (B5 s t i j:Int))=Dw s t i j:=by
 rw[S3 s t hj];unfold Dw;refine Oq (by simp) fun k h1 h2=>?_
 rw[R5,Ig,Ig,Nh];by_cases h:i=k
 .subst h;rw[if_pos rfl,if_neg (by omega),if_pos rfl]
 .rw[if_neg h];by_cases h':k<i
  .rw[if_pos h',if_pos h']
  .rw[if_neg h',if_neg h',if_neg (Ne.symm h),if_neg (Ne.symm h)]
def Asq(s t:List α):Dw s t 0 0=Ix s t:=by
 unfold Dw Ix;refine X6 fun k _=>?_
 rw[if_neg (by omega)]
 split
 .rename_i h;rw[h,Vo]
 .rfl
def rL(s t:List α):List (Nat × List Int):=(List.range (s.length+1)).map fun k=>(1+k,Fl s t k)
def A4y(s t:List α):(rL s t).length=s.length+1:=by unfold rL;simp
def A4z(s t:List α):((rL s t).map fun p=>p.2)=Ix s t:=by
 unfold rL Ix;rw[Qj];rfl
def A40(s t:List α):Mg (rL s t)=El s.length t.length (s.length+1):=by
 unfold Mg rL El Oh;rw[Qj];refine X6 fun k hk=>?_
 rw[E5]at hk;simp only[Function.comp,S0];rw[if_pos hk]
def A06(OT IT i:Nat)(s t:List α):∀ p∈rL s t,∃ e z,(Ds OT IT s.length t.length i (Ix s t))[p.1]?=some (.row (Bl p.2) e 0 z):=by
 intro p hp;unfold rL at hp;obtain⟨k,hk,rfl⟩:=Dq.1 hp;rw[E5]at hk;exact⟨IT,0,Ws _ _ _ _ _ (V3 s t (by omega))⟩
