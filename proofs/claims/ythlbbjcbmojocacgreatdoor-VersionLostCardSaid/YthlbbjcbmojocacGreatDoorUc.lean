/- Walks: the lines of programs, both sides. -/
import Derived.Test.YthlbbjcbmojocacGreatDoorIn
set_option linter.all false
namespace Go.Proofs.YthlbbjcbmojocacGreatDoor.KM
open Go
def AH{p:Prop}(h:p:=by simp):p:=h
def AA{p:Prop}(h:p:=by omega):p:=h
def AG{p:Prop}(h:p:=by simp;omega):p:=h
def AE{p:Prop}(h:p:=by kernel_rfl):p:=h
def AD{p:Prop}(h:p:=by simp only;omega):p:=h
def AB{p:Prop}(h:p:=by simp only[go_sem]):p:=h
def Cq(t:Tp):List V:=[SL true 0 ((Sp.hdss t.body).map fun x=>[V.str x])]
def Aqw{σ:St}{lo e:Nat}{u:V}{X:List (List UInt8)}(h:GW σ 1 e lo u (X.map fun x=>[V.str x])):
  ∃ σ',Ou 1 1 σ [u]=some (.lst 1 [[SL true 0 (X.map fun x=>[V.str x])]],σ')/\σ'.length=σ.length/\(∀ j,j ∉ u.refs->σ'[j]?=σ[j]?)/\(Cl σ->Cl σ'):=by
 have jv:=Mp h AA (Aqu X) (Aqv X);have hr:Ah [u]=u.refs:=by simp[Ah]
 have jx:=jv (Fl σ 9 u.refs.eraseDups) (fun i hi=>Oh σ 9 _ i (Sl.2 hi)) 7;unfold Ou;rw[hr];simp only[H0,Abb,jx];refine⟨_,rfl,Pe _ _,fun j hj=>Wm _ _ _ fun hm=>?_,Wy _ _⟩;rcases h with⟨rfl,-⟩ | ⟨hn,i,g,rfl,ho,qt⟩
 .simp[V.refs,Fl]at hm
 .have:Fl σ 9 (V.refs (.sl i g 0 (X.map fun x=>[V.str x]).length 1 true)).eraseDups=[i]:=by
   have e1:(V.refs (.sl i g 0 (X.map fun x=>[V.str x]).length 1 true)).eraseDups=[i]:=by simp[V.refs,List.eraseDups_cons]
   rw[e1];have hx:Ah (X.map fun x=>[V.str x]).flatten=[]:=G8 (Im (Aqv X));simp[Fl,ho,Ob.refs,hx]
  rw[this]at hm;exact hj (by simpa[V.refs] using hm)
structure PX (p:Gp):Prop where
 few:p.thrs.length<=100000000
 tx:∀ t∈p.thrs,TxL t.body
 sz:∀ t∈p.thrs,Sp.szs t.body<=10000
def Bin{p:Gp}(h:ShG p)(hl:(Hp p).length<=1000000000)(hs:∀ t∈p.thrs,Sp.szs t.body<=10000):PX p:=by
 have qV:((p.thrs.map Fj).flatten).length<=(Hp p).length:=by unfold Hp;simp
 have qw:∀ (L:List Tp),10*L.length<=((L.map Fj).flatten).length/\∀ t∈L,(Fj t).length<=((L.map Fj).flatten).length:=fun L=>by
  induction L with
  | nil=>exact⟨by simp,fun t ht=>by cases ht⟩
  | cons a l ih=>
   have h1:10<=(Fj a).length:=by unfold Fj;simp;omega
   refine⟨by simp;have:=ih.1;simp at this;omega,fun t ht=>?_⟩;rcases Bj.1 ht with rfl | ht
   .simp
   .have:=ih.2 t ht;simp at this ⊢;omega
 refine⟨by have:=(qw p.thrs).1;omega,fun t ht=>⟨h.thrs t ht,?_⟩,hs⟩;have h1:=(qw p.thrs).2 t ht;have h2:=Vl t.body 0 1 AA;have h3:(Sp.txts 1 t.body).length<=(Fj t).length:=by unfold Fj;simp;omega
 omega
def Ad7(L:List Tp):∀ r∈L.map Cq,r.length=1:=fun r hr=>by obtain⟨x,-,rfl⟩:=Ct.1 hr;rfl
def Ad8(L:List Tp):∀ r∈L.map Cq,r.all V.rowB=true:=fun r hr=>by
 obtain⟨x,-,rfl⟩:=Ct.1 hr;simp only[Cq,Aw,Bi,Is];rfl
def Fh(x:Gp):x.row=[SL x.dz x.dt (x.decls.map Dp.row),SL x.tz x.tt (x.thrs.map Tp.row)]:=rfl
def Ow(t:Tp):t.row=[.str t.nm,iV t.line,SL t.lz t.lt (t.locals.map fun s=>[V.str s]),SL t.bz t.bt (t.body.map Sp.row)]:=rfl
def Ox(x:Gp):x.row.all V.rowB=true:=by
 unfold Gp.row;simp only[Aw,Bi,Is];rfl
def Avy(x:Tp):x.row.all V.rowB=true:=by
 rw[Ow];simp only[Aw,Bi,Is];rfl
def Ast{σ:St}{lo m e bytes:Nat}{u:V}{xs:List (List V)}{row:List V}(h:GV σ m e lo u xs)(qt:lo<=σ.length)(hm:0<m)(hl:∀ r∈xs,r.length=m)(jw:row.length=m)(hr:row.all V.rowB=true)(hb:(xs.length+1)*bytes<=140737488355328)(hc:Cl σ):
  ∃ u' σ',D6 bytes (m,e) u (.lst 1 [row]) σ=some (u',σ')/\GV σ' m e lo u' (xs++[row])/\u'.cellB=true/\σ.length<=σ'.length/\(∀ j,j<σ.length->j ∉ u.refs->σ'[j]?=σ[j]?)/\Cl σ':=by
 obtain⟨u',σ',h1,h2,h3,h4,-⟩:=Atk (bytes:=bytes) (y:=.lst 1 [row]) (ys:=[row]) h qt rfl hm hl (fun r hr=>by rw[Eo.1 hr];exact jw) hb
 obtain⟨-,h6⟩:=Ad4 h1 rfl (fun r hx=>by rw[Eo.1 hx];exact hr) (by
  rcases h with⟨rfl,-⟩ | ⟨i,g,rfl,-⟩
  .exact .inl rfl
  .exact .inr ⟨i,g,_,rfl⟩)
 refine⟨u',σ',h1,h2,Arv h2,h3,fun j hj hn=>h4 j (fun i g hu e=>hn ?_) hj,h6 hc⟩;rw[hu,e];simp[V.refs]
def Auq{σ τ:St}{m e lo:Nat}{u:V}{xs:List (List V)}(h:GV σ m e lo u xs)(hk:∀ i∈u.refs,τ[i]?=σ[i]?):GV τ m e lo u xs:=by
 rcases h with h | ⟨i,g,h,ho,qt⟩
 .exact .inl h
 .exact .inr ⟨i,g,h,by rw[hk i (by rw[h];simp[V.refs])];exact ho,qt⟩
def Aur{σ:St}{m e lo:Nat}{u:V}{xs:List (List V)}(h:GV σ m e lo u xs):∀ i∈u.refs,lo<=i/\i<σ.length:=by
 intro j hj;rcases h with⟨rfl,-⟩ | ⟨i,g,rfl,ho,qt⟩
 .simp[V.refs]at hj
 .simp[V.refs]at hj;subst hj;exact⟨qt,(Ak.1 ho).1⟩
set_option maxHeartbeats 4000000 in
def Ahd{p:Gp}(h:PX p):∃ z,Fn TT PT 52 [.agg p.row] (SL z 0 (p.thrs.map Cq)):=by
 have qb:(p.thrs.map Tp.row).length=p.thrs.length:=Ap ..;have qe:=Ox p;have qh:=Fh p;have qk:=h.few;refine⟨true,Bo T52 rfl ?_⟩;have c0:Cl [.row p.row 29 0 0]:=Iu (s:=[]) (fun _ h=>by cases h) qe;rw[qh]at c0 qe ⊢;simp only[go_sem,qb];refine Bn (α:=Nat × St × V) (fun a=>p.thrs.length - a.1) (fun a=>[(3,a.2.2),(7,SL p.tz p.tt (p.thrs.map Tp.row)),(8,iV (p.thrs.length:Int)),(9,iV (a.1:Int))]) (fun a=>a.2.1) (fun a=>a.1<=p.thrs.length/\(GV a.2.1 1 87 1 a.2.2 ((p.thrs.take a.1).map Cq)/\(a.1=0->a.2.2=.nils)/\(a.1≠0->a.2.2≠.nils))/\Cl a.2.1/\1<=a.2.1.length) ?_ (0,_,.nils) ⟨Au _,⟨Bbj,fun _=>rfl,fun h=>absurd rfl h⟩,c0,Ai _⟩;rintro⟨i,s,u⟩ ⟨hi,⟨hg,ja,qC⟩,hc,qQ⟩ ih;simp only at hi hg ja qC hc qQ ih;refine Bl Bhd ?_;rcases Be i p.thrs.length with h' | h';rotate_left
 .have ql:i=p.thrs.length:=by omega
  subst ql;rw[Dc]at hg;simp only[go_sem,Bq h']
  have jm:GW s 1 87 1 u (p.thrs.map Cq):=by
   rcases hg with hg | hg
   .exact .inl hg
   .refine .inr ⟨fun e=>?_,hg⟩;have hn:p.thrs=[]:=Afs.1 e;have hu:=ja (by rw[hn];rfl);obtain⟨i,g,qZ,-⟩:=hg;rw[hu]at qZ;cases qZ
  exact Ue jm AA (Ad7 _) (Ad8 _)
 obtain⟨x,hx,hd,hm⟩:=By h';have qa:=Ow x;have qr:=Avy x;have jy:=h.sz x hm;obtain⟨s1,e1⟩:∃ s1:St,s1=s++[.row x.row 90 0 0]:=⟨_,rfl⟩;have c1:Cl s1:=by rw[e1];exact Iu hc qr
 have l1:s1.length=s.length+1:=by rw[e1];simp
 obtain⟨v,s2,q2,G2⟩:=Bdi (h.tx x hm) s1.length s1 .nils [] x.bz x.bt D5 (Ai _) c1 AG;rw[Cr]at G2;obtain⟨s3,e3,l3,f3,c3⟩:=Aqw G2.g;have qu:∀ j∈u.refs,j<s.length:=fun j hj=>(Aur hg j hj).2
 have kk:∀ j,j<s.length->s3[j]?=s[j]?:=fun j hj=>by
  rw[f3 j fun e=>by have:=(Dx G2.g j e).1;omega,G2.kp j AA (by simp[V.refs]),e1,B6 hj]
 have qL:GV s3 1 87 1 u ((p.thrs.take i).map Cq):=Auq hg fun j hj=>kk j (qu j hj)
 have qy:=Cu G2.g;obtain⟨qS,qT⟩:=Iq qy;obtain⟨u',s4,e4,g4,qf,l4,k4,c4⟩:=Ast (bytes:=24) (row:=Cq x) qL (by have:=G2.len;omega) AA (Ad7 _) rfl (Ad8 [x] _ AH) (by rw[Ap,Eg];omega) (c3 G2.cl)
 have qi:(p.thrs.take i).map Cq++[Cq x]=(p.thrs.take (i+1)).map Cq:=by
  rw[G7,hx];simp
 rw[qi]at g4;rw[show Cq x=[SL true 0 ((Sp.hdss x.body).map fun x=>[V.str x])] from rfl]at e4;rw[qa]at e1;simp only[go_sem,A0 h',Aj,hx,qa];rw[<-e1];refine Ac q2 ?_;simp only[go_sem,qS,qT,qy,e3,e4,A2 (show i<9223372036854775807 by omega)];refine As (ih (i+1,s4,u') AD ⟨h',⟨g4,fun h=>by simp at h,fun _ e=>?_⟩,c4,by have:=G2.len;have:=l3;simp only;omega⟩) rfl;rcases g4 with⟨-,g4⟩ | ⟨_,_,g4,-⟩
 .rw[<-qi]at g4;simp at g4
 .rw[g4]at e;cases e
set_option maxHeartbeats 4000000 in
def Ahe{p:Gp}(h:PX p):Fn TT PT 50 [.agg p.row] (.lst 0 (p.thrs.map Cq)):=by
 have qb:(p.thrs.map Tp.row).length=p.thrs.length:=Ap ..;have qe:=Ox p;have qh:=Fh p;have qk:=h.few;refine Bo T50 rfl ?_;have c0:Cl [.row p.row 29 0 0,.row [] 87 0 0]:=Iu (s:=[.row p.row 29 0 0]) (Iu (s:=[]) (fun _ h=>by cases h) qe) rfl;rw[qh]at c0 qe ⊢;have ji:(0<=(p.thrs.length:Int))=True:=eq_true AA;have qD:(p.thrs.length*24<=140737488355328)=True:=eq_true AA;simp only[go_sem,qb,ji,qD,Md,Int.toNat_zero,List.replicate_zero,Aa6,Sy];refine Bn (α:=Nat × St × V) (fun a=>p.thrs.length - a.1) (fun a=>[(3,a.2.2),(11,SL p.tz p.tt (p.thrs.map Tp.row)),(12,iV (p.thrs.length:Int)),(13,iV (a.1:Int))]) (fun a=>a.2.1) (fun a=>a.1<=p.thrs.length/\(GV a.2.1 1 87 1 a.2.2 ((p.thrs.take a.1).map Cq)/\a.2.2≠.nils)/\Cl a.2.1/\1<=a.2.1.length) ?_ (0,_,.sl 1 0 0 0 1 true) ⟨Au _,⟨.inr ⟨1,0,rfl,rfl,Ai _⟩,fun h=>by cases h⟩,c0,by simp⟩;rintro⟨i,s,u⟩ ⟨hi,⟨hg,qC⟩,hc,qQ⟩ ih;simp only at hi hg qC hc qQ ih;refine Bl Bha ?_;rcases Be i p.thrs.length with h' | h';rotate_left
 .have ql:i=p.thrs.length:=by omega
  subst ql;rw[Dc]at hg;simp only[go_sem,Bq h'];rcases hg with⟨e,-⟩ | ⟨i,g,rfl,ho,-⟩
  .exact absurd e qC
  .exact Aj3 ho AA (Ad7 _) (Ad8 _)
 obtain⟨x,hx,hd,hm⟩:=By h';have qa:=Ow x;have qr:=Avy x;have jy:=h.sz x hm;obtain⟨s1,e1⟩:∃ s1:St,s1=s++[.row x.row 90 0 0]:=⟨_,rfl⟩;have c1:Cl s1:=by rw[e1];exact Iu hc qr
 have l1:s1.length=s.length+1:=by rw[e1];simp
 obtain⟨v,s2,q2,G2⟩:=Bdj (h.tx x hm) s1.length s1 .nils [] x.bz x.bt D5 (Ai _) c1 AG;rw[Cr]at G2;obtain⟨s3,e3,l3,f3,c3⟩:=Aqw G2.g;have qu:∀ j∈u.refs,j<s.length:=fun j hj=>(Aur hg j hj).2
 have kk:∀ j,j<s.length->s3[j]?=s[j]?:=fun j hj=>by
  rw[f3 j fun e=>by have:=(Dx G2.g j e).1;omega,G2.kp j AA (by simp[V.refs]),e1,B6 hj]
 have qL:GV s3 1 87 1 u ((p.thrs.take i).map Cq):=Auq hg fun j hj=>kk j (qu j hj)
 have qy:=Cu G2.g;obtain⟨qS,qT⟩:=Iq qy;obtain⟨u',s4,e4,g4,qf,l4,k4,c4⟩:=Ast (bytes:=24) (row:=Cq x) qL (by have:=G2.len;omega) AA (Ad7 _) rfl (Ad8 [x] _ AH) (by rw[Ap,Eg];omega) (c3 G2.cl)
 have qi:(p.thrs.take i).map Cq++[Cq x]=(p.thrs.take (i+1)).map Cq:=by
  rw[G7,hx];simp
 rw[qi]at g4;rw[show Cq x=[SL true 0 ((Sp.hdss x.body).map fun x=>[V.str x])] from rfl]at e4;rw[qa]at e1;simp only[go_sem,A0 h',Aj,hx,qa];rw[<-e1];refine Ac q2 ?_;simp only[go_sem,qS,qT,qy,e3,e4,A2 (show i<9223372036854775807 by omega)];refine As (ih (i+1,s4,u') AD ⟨h',⟨g4,fun e=>?_⟩,c4,by have:=G2.len;have:=l3;simp only;omega⟩) rfl;rcases g4 with⟨-,g4⟩ | ⟨_,_,g4,-⟩
 .rw[<-qi]at g4;simp at g4
 .rw[g4]at e;cases e
/-! keys -/
def I1(nm ln:List UInt8)(n:Nat):List V:=[.str nm,.str ln,iV (n:Int)]
def F1(nm:List UInt8):List (List UInt8)->List (List UInt8)->List (List V)
 | _,[]=>[]
 | P,x::X=>I1 nm x (P.count x)::F1 nm (P++[x]) X
def Ig(p:Gp):List (List V):=(p.thrs.map fun t=>F1 t.nm [] (Sp.hdss t.body)).flatten
def Te(nm:List UInt8):∀ (X P:List (List UInt8)),(F1 nm P X).length=X.length
 | [],_=>rfl
 | x::X,P=>by rw[F1,Am,Te nm X,Am]
def Adb(nm:List UInt8):∀ (X P:List (List UInt8)),∀ r∈F1 nm P X,r.length=3/\r.all V.rowB=true
 | [],_,r,hr=>by cases hr
 | x::X,P,r,hr=>by
  rw[F1]at hr;rcases Bj.1 hr with rfl | hr
  .exact⟨rfl,rfl⟩
  .exact Adb nm X _ r hr
def V8(L:List Tp):∀ r∈(L.map fun t=>F1 t.nm [] (Sp.hdss t.body)).flatten,r.length=3/\r.all V.rowB=true:=fun r hr=>by
 obtain⟨l,hl,hr⟩:=Aa7.1 hr;obtain⟨t,-,rfl⟩:=Ct.1 hl;exact Adb _ _ _ r hr
def Ahf(L:List Tp):((L.map fun t=>F1 t.nm [] (Sp.hdss t.body)).flatten).length=(L.map fun t=>Sp.szs t.body).sum:=by
 induction L with
 | nil=>rfl
 | cons a l ih=>simp only[Bb,Dv,Al,Te,Io,ih,List.sum_cons]
/-! maps -/
def fk(s:List UInt8):List (List UInt8 × V)->Option V
 | []=>none
 | (k,v)::r=>if k==s then some v else fk s r
def Asu(s:List UInt8):∀ (kvs:List (List UInt8 × V)) (i:Nat),(Hb s kvs i).map Prod.snd=fk s kvs
 | [],_=>rfl
 | (k,v)::r,i=>by
  rw[Hb,fk]
  split
  .rfl
  .exact Asu s r (i+1)
def Aqx(s:List UInt8)(v:V):∀ (kvs:List (List UInt8 × V)) (i j:Nat) (w:V),Hb s kvs i=some (j,w)->i<=j/\∀ s',fk s' (kvs.set (j - i) (s,v))=if s'=s then some v else fk s' kvs
 | [],_,_,_,h=>by cases h
 | (k,x)::r,i,j,w,h=>by
  rw[Hb]at h
  split at h
  .rename_i hk;cases h;refine⟨Ai _,fun s'=>?_⟩;have hk:=eq_of_beq hk;rw[Gf,Afv,fk,fk,hk];by_cases e:s'=s
   .rw[if_pos e,if_pos (by simp[e])]
   .have e2:(s==s')=false:=by simp;exact fun h=>e h.symm
    rw[e2];simp[e]
  .rename_i hk;obtain⟨h1,h2⟩:=Aqx s v r (i+1) j w h;refine⟨by omega,fun s'=>?_⟩;obtain⟨m,hm⟩:∃ m,j - i=m+1:=⟨j - i - 1,by omega⟩;rw[hm,Xl,fk,fk,show m=j - (i+1) by omega,h2 s'];by_cases e:s'=s
   .subst e;have:(k==s')=false:=by simpa using hk
    rw[this];simp
   .simp[e]
def Aoh(s:List UInt8)(v:V):∀ (kvs:List (List UInt8 × V)) (i:Nat),Hb s kvs i=none->∀ s',fk s' (kvs++[(s,v)])=if s'=s then some v else fk s' kvs
 | [],_,_,s'=>by
  rw[Cr,fk,fk,fk];by_cases e:s'=s
  .rw[if_pos e,if_pos (by simp[e])]
  .have e2:(s==s')=false:=by simp;exact fun h=>e h.symm
   rw[e2];simp[e]
 | (k,x)::r,i,h,s'=>by
  rw[Hb]at h
  split at h
  .cases h
  .rename_i hk;rw[Hz,fk,fk,Aoh s v r (i+1) h s'];by_cases e:s'=s
   .subst e;have:(k==s')=false:=by simpa using hk
    rw[this];simp
   .simp[e]
def KVs(kvs:List (List UInt8 × V))(X:List (List UInt8)):Prop:=∀ s,fk s kvs=if X.count s=0 then none else some (iV (X.count s:Int))
def Bdk:KVs [] []:=fun _=>rfl
def Asv{kvs kvs':List (List UInt8 × V)}{X:List (List UInt8)}{s:List UInt8}(h:KVs kvs X)(hs:∀ s',fk s' kvs'=if s'=s then some (iV ((X.count s+1:Nat):Int)) else fk s' kvs):KVs kvs' (X++[s]):=fun s'=>by
 rw[hs s',List.count_append];by_cases e:s'=s
 .subst e;simp
 .have:[s].count s'=0:=List.count_eq_zero.2 fun hm=>e (Eo.1 hm)
  rw[if_neg e,this,Ll];exact h s'
def Bdl{kvs:List (List UInt8 × V)}{X:List (List UInt8)}(h:KVs kvs X)(s:List UInt8):(Hb s kvs 0=none/\X.count s=0)\/∃ j,Hb s kvs 0=some (j,iV (X.count s:Int)):=by
 have h1:=Asu s kvs 0;rw[h s]at h1
 cases hf:Hb s kvs 0 with
 | none=>
  rw[hf]at h1;left;refine⟨rfl,?_⟩;by_cases e:X.count s=0
  .exact e
  .rw[if_neg e]at h1;cases h1
 | some p=>
  rw[hf]at h1;by_cases e:X.count s=0
  .rw[if_pos e]at h1;cases h1
  .rw[if_neg e]at h1;obtain⟨j,w⟩:=p;cases h1;exact .inr ⟨j,rfl⟩
/-! keys -/
def Aoi(nm:List UInt8):∀ (X P:List (List UInt8)) (k:Nat) (x:List UInt8),X[k]?=some x->(F1 nm P X)[k]?=some (I1 nm x ((P++X.take k).count x))
 | [],_,_,_,h=>by simp at h
 | y::X,P,0,x,h=>by
  simp at h;subst h;simp[F1]
 | y::X,P,k+1,x,h=>by
  rw[F1,Lk,Aoi nm X (P++[y]) k x (by simpa using h)];simp
def Am7{nm:List UInt8}{X:List (List UInt8)}{k:Nat}{x:List UInt8}(h:X[k]?=some x):(F1 nm [] X).take k++[I1 nm x ((X.take k).count x)]=(F1 nm [] X).take (k+1):=by
 have:=Aoi nm X [] k x h;rw[Cr]at this;rw[G7,this];rfl
def Y7{L:List Tp}(h:∀ t∈L,Sp.szs t.body<=10000):(L.map fun t=>Sp.szs t.body).sum<=L.length*10000:=by
 induction L with
 | nil=>simp
 | cons a l ih=>
  have h1:=h a AH;have h2:=ih fun t ht=>h t (by simp[ht])
  rw[Bb,List.sum_cons,Am,Ep];omega
def Nu(L:List Tp):List (List V):=(L.map fun t=>F1 t.nm [] (Sp.hdss t.body)).flatten
def Am8{L:List Tp}{i:Nat}{x:Tp}(h:L[i]?=some x):Nu (L.take (i+1))=Nu (L.take i)++F1 x.nm [] (Sp.hdss x.body):=by
 unfold Nu;rw[G7,h];simp
set_option maxHeartbeats 4000000 in
def Ahy{p:Gp}(h:PX p):Fn TT PT 20 [.agg p.row] (SL true 0 (Ig p)):=by
 obtain⟨zL,hL⟩:=Ahd h;have qe:=Ox p;have qh:=Fh p;have qk:=h.few;have qR:=Y7 h.sz;have qs:(p.thrs.map Cq).length=p.thrs.length:=Ap ..;rw[qh]at hL qe ⊢;refine Bo T20 rfl ?_;simp only[go_sem];refine Ad hL AB ?_;simp only[go_sem,qs];refine Bn (α:=Nat × St × V) (fun a=>p.thrs.length - a.1) (fun a=>[(1,.ptr 0 0 0),(3,a.2.2),(12,SL zL 0 (p.thrs.map Cq)),(13,iV (p.thrs.length:Int)),(14,iV (a.1:Int))]) (fun a=>a.2.1) (fun a=>a.1<=p.thrs.length/\GW a.2.1 3 47 1 a.2.2 (Nu (p.thrs.take a.1))/\a.2.1[0]?=some (.row [SL p.dz p.dt (p.decls.map Dp.row),SL p.tz p.tt (p.thrs.map Tp.row)] 29 0 0)) ?_ (0,_,.nils) ⟨Au _,D5,rfl⟩;rintro⟨i,s,u⟩ ⟨hi,hg,hs⟩ ih;simp only at hi hg hs ih;refine Bl Bgs ?_;rcases Be i p.thrs.length with h' | h';rotate_left
 .have ql:i=p.thrs.length:=by omega
  subst ql;rw[Dc]at hg;simp only[go_sem,Bq h'];exact Ue hg AA (fun r hr=>(V8 _ r hr).1) (fun r hr=>(V8 _ r hr).2)
 obtain⟨x,hx,hd,hm⟩:=By h';have qa:=Ow x;have qU:=h.sz x hm;have qN:Cq x=[SL true 0 ((Sp.hdss x.body).map fun x=>[V.str x])]:=rfl;have qF:((Sp.hdss x.body).map fun x=>[V.str x]).length=(Sp.hdss x.body).length:=Ap ..;have jk:=Io x.body;have qi:=Am8 hx
 have qI:(Nu (p.thrs.take i)).length<=100000000*10000:=by
  have h1:=Ahf (p.thrs.take i);have h2:=Y7 (L:=p.thrs.take i) fun t ht=>h.sz t (Ik ht)
  have h3:(p.thrs.take i).length*10000<=100000000*10000:=Fp _ (by rw[Eg];omega);unfold Nu;omega
 generalize hX:Sp.hdss x.body=X at *;simp only[go_sem,A0 h',Aj,hx,qN,hX,qF];refine Bn (α:=Nat × St × V) (fun a=>X.length - a.1) (fun a=>[(1,.ptr 0 0 0),(3,a.2.2),(4,iV (i:Int)),(5,SL true 0 (X.map fun x=>[V.str x])),(12,SL zL 0 (p.thrs.map Cq)),(13,iV (p.thrs.length:Int)),(14,iV (i:Int)),(19,SL true 0 (X.map fun x=>[V.str x])),(20,iV (X.length:Int)),(21,iV (a.1:Int))]) (fun a=>a.2.1) (fun a=>a.1<=X.length/\GW a.2.1 3 47 1 a.2.2 (Nu (p.thrs.take i)++(F1 x.nm [] X).take a.1)/\a.2.1[0]?=some (.row [SL p.dz p.dt (p.decls.map Dp.row),SL p.tz p.tt (p.thrs.map Tp.row)] 29 0 0)) ?_ (0,s,u) ⟨Au _,by simpa using hg,hs⟩;clear hg hs u s;rintro⟨k,s,u⟩ ⟨hk,hg,hs⟩ jh;simp only at hk hg hs jh;refine Bl Bgr ?_;rcases Be k X.length with h3 | h3;rotate_left
 .rw[show(F1 x.nm [] X).take k=F1 x.nm [] X from Kz (by rw[Te];omega),<-qi]at hg;simp only[go_sem,Bq h3,A2 (show i<9223372036854775807 by omega)];exact As (ih (i+1,s,u) AD ⟨h',hg,hs⟩) rfl
 obtain⟨y,hy,-,-⟩:=By h3;obtain⟨z2,t2,qg⟩:=Vi true 0 1 (X.map fun x=>[V.str x]) .i64 k (by rw[Ap];omega);rw[<-Sw]at qg;have jo:((X.take k).map fun x=>[V.str x]).length=k:=by rw[Ap,Eg];omega
 simp only[go_sem,A0 h3,Aj,hy,qg,jo];refine Bn (α:=Nat) (fun j=>k - j) (fun j=>[(1,.ptr 0 0 0),(3,u),(4,iV (i:Int)),(5,SL true 0 (X.map fun x=>[V.str x])),(7,.str y),(8,iV (((X.take j).count y:Nat):Int)),(12,SL zL 0 (p.thrs.map Cq)),(13,iV (p.thrs.length:Int)),(14,iV (i:Int)),(19,SL true 0 (X.map fun x=>[V.str x])),(20,iV (X.length:Int)),(21,iV (k:Int)),(28,SL z2 t2 ((X.take k).map fun x=>[V.str x])),(29,iV (k:Int)),(30,iV (j:Int))]) (fun _=>s) (fun j=>j<=k) ?_ 0 (Au _);rintro j hj kh;have jI:(X.take j).count y<=k:=Cw List.count_le_length (by rw[Eg];omega);refine Bl Bgq ?_;rcases Be j k with h4 | h4
 .obtain⟨w,hw⟩:∃ w,X[j]?=some w:=⟨_,Bc AA⟩;have jc:(X.take k)[j]?=some w:=by rw[F5,if_pos h4];exact hw
  have qJ:(X.take (j+1)).count y=(X.take j).count y+(if w=y then 1 else 0):=by
   rw[G7,hw,List.count_append]
   by_cases e:w=y<;>simp[e]
  by_cases e:w=y
  .have f1:(w==y)=true:=by simp[e]
   rw[if_pos e]at qJ;have w1:IntKind.i64.wrap ((((X.take j).count y:Nat):Int)+1)=(((X.take (j+1)).count y:Nat):Int):=by rw[Ch AA,qJ];rfl
   simp only[go_sem,A0 h4,Aj,jc,f1,w1,A2 (show j<9223372036854775807 by omega)];exact As (kh (j+1) AA h4) rfl
  .have f1:(w==y)=false:=by simp[e]
   rw[if_neg e]at qJ;have qK:(X.take j).count y=(X.take (j+1)).count y:=by omega
   rw[qK];simp only[go_sem,A0 h4,Aj,jc,f1,A2 (show j<9223372036854775807 by omega)];exact As (kh (j+1) AA h4) rfl
 obtain rfl:j=k:=by omega
 have qM:=Am7 (nm:=x.nm) hy
 obtain⟨u',s',ha,g',l',kp,rf,-⟩:=Pp (bytes:=40) (y:=.lst 1 [I1 x.nm y ((X.take j).count y)]) (ys:=[I1 x.nm y ((X.take j).count y)]) hg (by have:=(Ak.1 hs).1;omega) rfl AA (fun r hr=>by
  rcases B8.1 hr with hr | hr
  .exact(V8 _ r hr).1
  .exact(Adb _ _ _ r (Ik hr)).1) (by simp[I1]) (by simp[I1,V.rowB]) (by rw[Al,Eg,Te];simp only[Hw];omega)
 rw[Da,qM]at g';have qB:=(kp 0 (Ak.1 hs).1 fun e=>by have:=(Dx hg 0 e).1;omega).trans hs;have qf:=Cu g';unfold I1 at ha;simp only[go_sem,Bq h4,hs,Aj,hx,qa,ha,A2 (show j<9223372036854775807 by omega)];exact As (jh (j+1,s',u') AD ⟨h3,g',qB⟩) rfl
set_option maxHeartbeats 4000000 in
def Aqy{p:Gp}(h:PX p):Fn TT PT 36 [.agg p.row] (SL true 0 (Ig p)):=by
 have hL:=Ahe h;have qe:=Ox p;have qh:=Fh p;have qk:=h.few;have qR:=Y7 h.sz;have qs:(p.thrs.map Cq).length=p.thrs.length:=Ap ..;rw[qh]at hL qe ⊢;refine Bo T36 rfl ?_;simp only[go_sem];refine Ad hL AB ?_;simp only[go_sem,qs];refine Bn (α:=Nat × St × V) (fun a=>p.thrs.length - a.1) (fun a=>[(1,.ptr 0 0 0),(3,a.2.2),(10,.lst 0 (p.thrs.map Cq)),(11,iV (p.thrs.length:Int)),(12,iV (a.1:Int))]) (fun a=>a.2.1) (fun a=>a.1<=p.thrs.length/\GW a.2.1 3 47 1 a.2.2 (Nu (p.thrs.take a.1))/\a.2.1[0]?=some (.row [SL p.dz p.dt (p.decls.map Dp.row),SL p.tz p.tt (p.thrs.map Tp.row)] 29 0 0)) ?_ (0,_,.nils) ⟨Au _,D5,rfl⟩;rintro⟨i,s,u⟩ ⟨hi,hg,hs⟩ ih;simp only at hi hg hs ih;refine Bl Bg2 ?_;rcases Be i p.thrs.length with h' | h';rotate_left
 .have ql:i=p.thrs.length:=by omega
  subst ql;rw[Dc]at hg;simp only[go_sem,Bq h'];exact Ue hg AA (fun r hr=>(V8 _ r hr).1) (fun r hr=>(V8 _ r hr).2)
 obtain⟨x,hx,hd,hm⟩:=By h';have qa:=Ow x;have qU:=h.sz x hm;have qN:Cq x=[SL true 0 ((Sp.hdss x.body).map fun x=>[V.str x])]:=rfl;have qF:((Sp.hdss x.body).map fun x=>[V.str x]).length=(Sp.hdss x.body).length:=Ap ..;have jk:=Io x.body;have qi:=Am8 hx
 have qI:(Nu (p.thrs.take i)).length<=100000000*10000:=by
  have h1:=Ahf (p.thrs.take i);have h2:=Y7 (L:=p.thrs.take i) fun t ht=>h.sz t (Ik ht)
  have h3:(p.thrs.take i).length*10000<=100000000*10000:=Fp _ (by rw[Eg];omega);unfold Nu;omega
 generalize hX:Sp.hdss x.body=X at *;have jK:0<s.length:=(Ak.1 hs).1;have qu:∀ j∈u.refs,1<=j/\j<s.length:=Dx hg;simp only[go_sem,A0 h',Aj,hx,qN,hX,qF];have qW:(s++([.map []]:St))[s.length]?=some (.map []):=by simp
 refine Bn (α:=Nat × St × V × List (List UInt8 × V)) (fun a=>X.length - a.1) (fun a=>[(1,.ptr 0 0 0),(3,a.2.2.1),(4,iV (i:Int)),(6,.mp s.length),(10,.lst 0 (p.thrs.map Cq)),(11,iV (p.thrs.length:Int)),(12,iV (i:Int)),(18,SL true 0 (X.map fun x=>[V.str x])),(19,iV (X.length:Int)),(20,iV (a.1:Int))]) (fun a=>a.2.1) (fun a=>a.1<=X.length/\(GW a.2.1 3 47 1 a.2.2.1 (Nu (p.thrs.take i)++(F1 x.nm [] X).take a.1)/\s.length ∉ a.2.2.1.refs)/\a.2.1[0]?=some (.row [SL p.dz p.dt (p.decls.map Dp.row),SL p.tz p.tt (p.thrs.map Tp.row)] 29 0 0)/\a.2.1[s.length]?=some (.map a.2.2.2)/\KVs a.2.2.2 (X.take a.1)) ?_ (0,s++([.map []]:St),u,[]) ⟨Au _,⟨by simpa using Gk hg,fun e=>by have:=(qu _ e).2;omega⟩,Bx hs,qW,by simpa using Bdk⟩;generalize hn:s.length=n at *;clear hg hs qu qW u hn s;rintro⟨k,s,u,kvs⟩ ⟨hk,⟨hg,qP⟩,hs,qc,qA⟩ jh;simp only at hk hg qP hs qc qA jh;refine Bl Bg1 ?_;rcases Be k X.length with h3 | h3;rotate_left
 .rw[show(F1 x.nm [] X).take k=F1 x.nm [] X from Kz (by rw[Te];omega),<-qi]at hg;simp only[go_sem,Bq h3,A2 (show i<9223372036854775807 by omega)];exact As (ih (i+1,s,u) AD ⟨h',hg,hs⟩) rfl
 obtain⟨y,hy,-,-⟩:=By h3;have qM:=Am7 (nm:=x.nm) hy;have jp:=(Ak.1 hs).1;have jq:=(Ak.1 qc).1;have jJ:(X.take k).count y<=k:=Cw List.count_le_length (by rw[Eg];omega)
 obtain⟨u',s',ha,g',l',kp,rf,-⟩:=Pp (bytes:=40) (y:=.lst 1 [I1 x.nm y ((X.take k).count y)]) (ys:=[I1 x.nm y ((X.take k).count y)]) hg AA rfl AA (fun r hr=>by
  rcases B8.1 hr with hr | hr
  .exact(V8 _ r hr).1
  .exact(Adb _ _ _ r (Ik hr)).1) (by simp[I1]) (by simp[I1,V.rowB]) (by rw[Al,Eg,Te];simp only[Hw];omega)
 rw[Da,qM]at g';have qB:=(kp 0 jp fun e=>by have:=(Dx hg 0 e).1;omega).trans hs;have qn:=(kp n jq qP).trans qc;have qf:=Cu g'
 have qm:n ∉ u'.refs:=fun e=>by
  rcases rf n e with h8 | h8
  .exact qP h8
  .omega
 have qX:n≠0:=fun e=>by rw[e,hs]at qc;cases qc
 have w1:IntKind.i64.wrap ((((X.take k).count y:Nat):Int)+1)=(((X.take k).count y+1:Nat):Int):=by rw[Ch AA];rfl
 have fb:∀ n:Int,(iV n).flatB=true:=fun _=>rfl
 have qx:X.take k++[y]=X.take (k+1):=by rw[G7,hy];rfl
 unfold I1 at ha;rcases Bdl qA y with⟨hf,h0⟩ | ⟨j,hf⟩
 .have qd:=Asv (s:=y) qA (Aoh y (iV (((X.take k).count y+1:Nat):Int)) kvs 0 hf);rw[qx]at qd;rw[h0]at ha w1 qd;rw[Int.natCast_zero]at ha w1;simp only[go_sem,A0 h3,Aj,hy];refine Ag AE ?_;simp only[go_sem,hs,qc,hf,Aj,hx,qa];simp only[go_sem,ha];refine Ba ?_;simp only[go_sem,qn,hf,w1,fb,A2 (show k<9223372036854775807 by omega)];exact As (jh (k+1,s'.set n (.map (kvs++[(y,iV 1)])),u',kvs++[(y,iV 1)]) AD ⟨h3,⟨K6 g' fun q hq=>Bh fun(e:n=q)=>qm (by rw[e];exact hq),qm⟩,by rw[Bh qX];exact qB,B5 AA,qd⟩) rfl
 .have qd:=Asv (s:=y) qA (by have:=(Aqx y (iV (((X.take k).count y+1:Nat):Int)) kvs 0 j _ hf).2;rw[U9]at this;exact this);rw[qx]at qd;simp only[go_sem,A0 h3,Aj,hy];refine Ag AE ?_;simp only[go_sem,hs,qc,hf,Aj,hx,qa];simp only[go_sem,ha];refine Ba ?_;simp only[go_sem,qn,hf,w1,fb,A2 (show k<9223372036854775807 by omega)];exact As (jh (k+1,s'.set n (.map (kvs.set j (y,iV (((X.take k).count y+1:Nat):Int)))),u',kvs.set j (y,iV (((X.take k).count y+1:Nat):Int))) AD ⟨h3,⟨K6 g' fun q hq=>Bh fun(e:n=q)=>qm (by rw[e];exact hq),qm⟩,by rw[Bh qX];exact qB,B5 AA,qd⟩) rfl
def Am9(nm:List UInt8):∀ (X P:List (List UInt8)),∀ r∈F1 nm P X,∃ nm ln n,r=I1 nm ln n
 | [],_,r,hr=>by cases hr
 | x::X,P,r,hr=>by
  rw[F1]at hr;rcases Bj.1 hr with rfl | hr
  .exact⟨_,_,_,rfl⟩
  .exact Am9 nm X _ r hr
def Ayx{p:Gp}:∀ r∈Ig p,∃ nm ln n,r=I1 nm ln n:=fun r hr=>by
 obtain⟨l,hl,hr⟩:=Aa7.1 hr;obtain⟨t,-,rfl⟩:=Ct.1 hl;exact Am9 _ _ _ r hr
def Alk:List V:=[.str [],.str [],iV 0]
def Afd(p:Gp)(i:Int):V:=if 0<=i/\i<(Ig p).length then .tup [.agg ((Ig p).getD i.toNat Alk),.bool true] else .tup [.agg Alk,.bool false]
set_option maxHeartbeats 1000000 in
def Bdm{p:Gp}(h:PX p)(i:Int):Fn TT PT 25 [.agg p.row,iV i] (Afd p i):=by
 have hk:=Aqy h;have qe:=Ox p;have qh:=Fh p;rw[qh]at hk qe ⊢;refine Bo T25 rfl ?_;unfold Afd;by_cases h0:i<0
 .rw[if_neg AA];have f1:(i<0)=True:=eq_true h0;simp only[go_sem];refine Ad hk AB ?_;simp only[go_sem,f1];exact Hk rfl
 have f1:(i<0)=False:=eq_false h0;by_cases h1:(Ig p).length<=i
 .rw[if_neg AA];have f2:(((Ig p).length:Int)<=i)=True:=eq_true h1;simp only[go_sem];refine Ad hk AB ?_;simp only[go_sem,f1,f2,ge_iff_le];exact Hk rfl
 have f2:(((Ig p).length:Int)<=i)=False:=eq_false h1;obtain⟨k,rfl⟩:∃ k:Nat,i=k:=⟨i.toNat,by omega⟩;rw[if_pos AA,Md];obtain⟨r,hr⟩:∃ r,(Ig p)[k]?=some r:=⟨_,Bc AA⟩;obtain⟨nm,ln,n,rfl⟩:=Ayx r (Ge hr);have hg:(Ig p).getD k Alk=I1 nm ln n:=by rw[Av,hr];rfl
 rw[hg];unfold I1 at hr ⊢;simp only[go_sem];refine Ad hk AB ?_;simp only[go_sem,f1,f2,ge_iff_le,hr];exact Hk rfl
section
variable {α:Type} [DecidableEq α]
def D0:List α->List α->Nat
 | [],_=>0
 | _::_,[]=>0
 | a::s,b::t=>if a=b then 1+D0 s t else max (D0 s (b::t)) (D0 (a::s) t)
def Oo(t:List α):D0 [] t=0:=by rw[D0]
def Rj(s:List α):D0 s []=0:=by cases s<;>rw[D0]
def Oq(a b:α)(s t:List α):D0 (a::s) (b::t)=if a=b then 1+D0 s t else max (D0 s (b::t)) (D0 (a::s) t):=by rw[D0]
mutual
theorem Aeq(a:α)(s t:List α):D0 s t<=D0 (a::s) t/\D0 (a::s) t<=D0 s t+1:=
 match s,t with
 | s,[]=>by rw[Rj,Rj];omega
 | [],b::t=>by
  have h:=Aeq a [] t;rw[Oo]at h ⊢;rw[Oq,Oo]
  split
  .omega
  .rw[Oo];omega
 | c::s,b::t=>by
  have h1:=Aeq a (c::s) t;have h2:=Aer b (c::s) t;rw[Oq a b]
  split
  .omega
  .omega
termination_by s.length+t.length
theorem Aer(b:α)(s t:List α):D0 s t<=D0 s (b::t)/\D0 s (b::t)<=D0 s t+1:=
 match s,t with
 | [],t=>by rw[Oo,Oo];omega
 | a::s,[]=>by
  have h:=Aer b s [];rw[Rj]at h ⊢;rw[Oq,Rj]
  split
  .omega
  .rw[Rj];omega
 | a::s,c::t=>by
  have h1:=Aer b s (c::t);have h2:=Aeq a s (c::t);rw[Oq a b]
  split
  .omega
  .omega
termination_by s.length+t.length
end
def A8x(a b:α)(s t:List α):D0 (a::s) (b::t)=if a=b then max (max (D0 s (b::t)) (D0 (a::s) t)) (1+D0 s t) else max (D0 s (b::t)) (D0 (a::s) t):=by
 rw[Oq];have h1:=Aer b s t;have h2:=Aeq a s t
 split<;>omega
def Aqz:∀ s:List α,D0 s s=s.length
 | []=>Oo _
 | a::s=>by rw[Oq,if_pos rfl,Aqz s,Am];omega
def Ad9:∀ (s t:List α),D0 s t<=s.length/\D0 s t<=t.length
 | [],t=>by rw[Oo];simp
 | a::s,[]=>by rw[Rj];simp
 | a::s,b::t=>by
  have h1:=Ad9 s t;have h2:=Ad9 s (b::t);have h3:=Ad9 (a::s) t;rw[Oq];simp only[Am]at *
  split<;>omega
termination_by s t=>s.length+t.length
def Us(a:α)(s t:List α)(k:Nat):Bool:=decide (t[k]?=some a)&&(1+D0 s (t.drop (k+1))==D0 (a::s) t)
def Mc(a:α)(s t:List α):Option Nat:=(List.range t.length).find? (Us a s t)
def Dn:Nat->List α->List α->List Int
 | _,[],_=>[]
 | j,a::s,t=>match Mc a s t with
  | some k=>((j+k:Nat):Int)::Dn (j+k+1) s (t.drop (k+1))
  | none => -1::Dn j s t
def Y8:∀ (s:List α) (j:Nat) (t:List α),(Dn j s t).length=s.length
 | [],_,_=>by rw[Dn];rfl
 | a::s,j,t=>by
  rw[Dn]
  split
  .rw[Am,Y8 s,Am]
  .rw[Am,Y8 s,Am]
def Aq0{a:α}{s t:List α}{k:Nat}(h:Mc a s t=some k):k<t.length/\t[k]?=some a/\1+D0 s (t.drop (k+1))=D0 (a::s) t:=by
 have h1:=List.find?_some h;have h2:=List.mem_of_find?_eq_some h;unfold Us at h1;simp only[Af,decide_eq_true_eq,beq_iff_eq]at h1;exact⟨E1.1 h2,h1.1,h1.2⟩
def A39(a:α)(s:List α):Mc a s (a::s)=some 0:=by
 unfold Mc;rw[Am,List.range_succ_eq_map,List.find?_cons];have:Us a s (a::s) 0=true:=by unfold Us;simp[Aqz];omega
 rw[this]
def Ahz:∀ (s:List α) (j:Nat) (t:List α) (i:Nat) (n:Int),(Dn j s t)[i]?=some n->n = -1\/∃ k,n=((j+k:Nat):Int)/\k<t.length/\t[k]?=s[i]?/\∀ i' n',i'<i->(Dn j s t)[i']?=some n'->n'<n
 | [],_,_,i,n,h=>by rw[Dn]at h;simp at h
 | a::s,j,t,i,n,h=>by
  rw[Dn]at h ⊢
  split at h
  .rename_i k hk;obtain⟨h1,h2,-⟩:=Aq0 hk
   cases i with
   | zero=>
    simp at h;exact .inr ⟨k,by omega,h1,by rw[h2];rfl,fun i' n' hi=>by omega⟩
   | succ i=>
    rw[Lk]at h;rcases Ahz s (j+k+1) (t.drop (k+1)) i n h with h3 | ⟨m,rfl,h4,h5,h6⟩
    .exact .inl h3
    .rw[D1]at h4;rw[Hx]at h5;refine .inr ⟨k+1+m,by omega,by omega,by rw[h5,Lk],fun i' n' hi hn=>?_⟩
     cases i' with
     | zero=>simp at hn;omega
     | succ i'=>rw[Lk]at hn;exact h6 i' n' AA hn
  .rename_i hk
   cases i with
   | zero=>simp at h;exact .inl h.symm
   | succ i=>
    rw[Lk]at h;rcases Ahz s j t i n h with h3 | ⟨m,rfl,h4,h5,h6⟩
    .exact .inl h3
    .refine .inr ⟨m,rfl,h4,by rw[h5,Lk],fun i' n' hi hn=>?_⟩
     cases i' with
     | zero=>simp at hn;omega
     | succ i'=>rw[Lk]at hn;exact h6 i' n' AA hn
end
section
variable {α β:Type} [DecidableEq α] [DecidableEq β]
def Ce(s t:List α)(i j:Nat):Nat:=D0 (s.drop i) (t.drop j)
def Bdn(s t:List α)(j:Nat):Ce s t s.length j=0:=by unfold Ce;rw[Af3,Oo]
def Bdo(s t:List α)(i:Nat):Ce s t i t.length=0:=by unfold Ce;rw[Af3,Rj]
def A4a(s t:List α){i j:Nat}(hi:i<s.length)(hj:j<t.length):Ce s t i j=if s[i]=t[j] then max (max (Ce s t (i+1) j) (Ce s t i (j+1))) (1+Ce s t (i+1) (j+1)) else max (Ce s t (i+1) j) (Ce s t i (j+1)):=by
 unfold Ce;rw[Fd hi,Fd hj,A8x]
def A8y(s t:List α){i j:Nat}(hi:i<s.length)(hj:j<t.length):Ce s t i j=if s[i]=t[j] then 1+Ce s t (i+1) (j+1) else max (Ce s t (i+1) j) (Ce s t i (j+1)):=by
 unfold Ce;rw[Fd hi,Fd hj,Oq]
def Adc(s t:List α)(i j:Nat):Ce s t i j<=s.length/\Ce s t i j<=t.length:=by
 have h:=Ad9 (s.drop i) (t.drop j);rw[D1,D1]at h;unfold Ce;omega
def Dh(s t:List α)(i j:Nat):List Int:=(List.range (t.length+1)).map fun k=>if j<=k then(Ce s t i k:Int) else 0
def Gd(s t:List α)(i:Nat):List Int:=(List.range (t.length+1)).map fun k=>(Ce s t i k:Int)
def J9(s t:List α):List (List Int):=(List.range (s.length+1)).map (Gd s t)
def Q6(s t:List α)(i j:Nat):(Dh s t i j).length=t.length+1:=by unfold Dh;simp
def Vv(s t:List α)(i:Nat):(Gd s t i).length=t.length+1:=by unfold Gd;simp
def X9(s t:List α)(i:Nat):Dh s t i 0=Gd s t i:=by unfold Dh Gd;simp
def Aq1(s t:List α)(i:Nat):Dh s t i t.length=List.replicate (t.length+1) 0:=by
 unfold Dh;refine Qt AH fun k h1 h2=>?_
 rw[Jn,Pb,Aaw]
 split
 .have:k=t.length:=by simp at h2;omega
  rw[this,Bdo];rfl
 .rfl
def Aq2(s t:List α):Gd s t s.length=List.replicate (t.length+1) 0:=by
 unfold Gd;refine Qt AH fun k h1 h2=>?_
 rw[Jn,Pb,Aaw,Bdn];rfl
def Ah0(s t:List α){i j k:Nat}(hk:k<=t.length)(hj:j<=k):(Dh s t i j)[k]?=some (Ce s t i k:Int):=by
 unfold Dh;rw[Aj,Si AA];simp[hj]
def Q7(s t:List α){i k:Nat}(hk:k<=t.length):(Gd s t i)[k]?=some (Ce s t i k:Int):=by rw[<-X9,Ah0 s t hk (Au _)]
def Yn(s t:List α){i:Nat}(hi:i<=s.length):(J9 s t)[i]?=some (Gd s t i):=by
 unfold J9;rw[Aj,Si AA];rfl
def Vw(s t:List α){i j:Nat}(hj:j<t.length):(Dh s t i (j+1)).set j (Ce s t i j:Int)=Dh s t i j:=by
 unfold Dh;refine Qt AH fun k h1 h2=>?_
 rw[U2];rw[Jn,Jn,Pb];by_cases h:j=k
 .rw[if_pos h,if_pos AA,h]
 .rw[if_neg h];by_cases h':j<=k
  .rw[if_pos h',if_pos AA]
  .rw[if_neg h',if_neg AA]
/-! the search for the next line -/
def N0(s t:List α)(i j k:Nat):Prop:=s[i]?=t[k]?/\1+Ce s t (i+1) (k+1)=Ce s t i j
def Bdp{s t:List α}{i j k:Nat}(hi:i<s.length)(hj:j<=k)(hk:k<t.length)(h:N0 s t i j k)(hn:∀ k',j<=k'->k'<k->¬ N0 s t i j k'):Mc s[i] (s.drop (i+1)) (t.drop j)=some (k - j):=by
 have hc:∀ m,j+m<t.length->(Us s[i] (s.drop (i+1)) (t.drop j) m=true↔N0 s t i j (j+m)):=fun m hm=>by
  unfold Us N0 Ce;rw[<-Fd hi];simp only[Af,decide_eq_true_eq,beq_iff_eq,Hx,Pd];rw[Bc hi,show j+(m+1)=j+m+1 from rfl];exact⟨fun h=>⟨h.1.symm,h.2⟩,fun h=>⟨h.1.symm,h.2⟩⟩
 unfold Mc;rw[List.find?_eq_some_iff_getElem];refine⟨(hc (k - j) AA).2 (by rw[show j+(k - j)=k by omega];exact h),k - j,by simp;omega,by simp,fun m hm=>?_⟩;rw[Pb];have:=hn (j+m) AA AA;rw[<-hc m AA]at this;simpa using this
def Asw{s t:List α}{i j k:Nat}(hi:i<s.length)(hj:j<=k)(hk:k<t.length)(h:N0 s t i j k)(hn:∀ k',j<=k'->k'<k->¬ N0 s t i j k'):Dn j (s.drop i) (t.drop j)=(k:Int)::Dn (k+1) (s.drop (i+1)) (t.drop (k+1)):=by
 rw[Fd hi,Dn,Bdp hi hj hk h hn];simp only;rw[Pd,show j+(k - j)=k by omega,show j+(k - j+1)=k+1 by omega]
def Aq3{s t:List α}{i j:Nat}(hi:i<s.length)(hn:∀ k,j<=k->k<t.length->¬ N0 s t i j k):Dn j (s.drop i) (t.drop j) = -1::Dn j (s.drop (i+1)) (t.drop j):=by
 rw[Fd hi,Dn]
 have:Mc s[i] (s.drop (i+1)) (t.drop j)=none:=by
  cases he:Mc s[i] (s.drop (i+1)) (t.drop j) with
  | none=>rfl
  | some m=>
   obtain⟨h1,h2,h3⟩:=Aq0 he;rw[D1]at h1;refine absurd ?_ (hn (j+m) AA AA);rw[Hx]at h2;rw[Pd,<-Fd hi]at h3;exact⟨by rw[h2,Bc hi],h3⟩
 rw[this]
def Asx:∀ (s:List α) (j:Nat),Dn j s []=List.replicate s.length (-1)
 | [],_=>by rw[Dn];rfl
 | a::s,j=>by
  rw[Dn];have:Mc a s ([]:List α)=none:=by unfold Mc;simp
  rw[this];simp only;rw[Asx s,Am,Xj]
/-! both programs -/
def J5(nm:β):List (β × List α)->Nat × Option (List α)
 | []=>(0,none)
 | q::r=>if q.1=nm then(0,some q.2) else(q.2.length+(J5 nm r).1,(J5 nm r).2)
def Jc(b:Nat)(l:List Int):List Int:=l.map fun k=>if 0<=k then k+b else k
def Lh(p:β × List α)(Q:List (β × List α)):List Int:=Jc (J5 p.1 Q).1 (Dn 0 p.2 ((J5 p.1 Q).2.getD []))
def H9(P Q:List (β × List α)):List Int:=P.flatMap fun p=>Lh p Q
def Hq(P:List (β × List α)):List (β × α):=P.flatMap fun p=>p.2.map fun x=>(p.1,x)
def A4b(p:β × List α)(Q:List (β × List α)):(Lh p Q).length=p.2.length:=by unfold Lh Jc;rw[Ap,Y8]
def A0u{p:β × List α}{Q:List (β × List α)}(h:(J5 p.1 Q).2=none):Lh p Q=List.replicate p.2.length (-1):=by
 unfold Lh Jc;rw[h,Option.getD_none,Asx,List.map_replicate];rfl
def Amj(p:β × List α)(P Q:List (β × List α)):H9 (p::P) Q=Lh p Q++H9 P Q:=by unfold H9;rw[Sq]
def Agr(p:β × List α)(P:List (β × List α)):Hq (p::P)=(p.2.map fun x=>(p.1,x))++Hq P:=by unfold Hq;rw[Sq]
def Ags:∀ P Q:List (β × List α),(H9 P Q).length=(Hq P).length
 | [],_=>rfl
 | p::P,Q=>by rw[Amj,Agr,Al,Al,A4b,Ap,Ags P Q]
end
def M8(l:List Sp):Nat:=(Sp.txts 1 l).length
def Y9:M8 []=0:=rfl
def Vx(s:Sp)(l:List Sp):M8 (s::l)=(s.txt 1).length+M8 l:=by unfold M8;rw[Sp.txts,Al]
def Za:∀ a b:List Sp,M8 (a++b)=M8 a+M8 b
 | [],b=>by rw[Cr,Y9];omega
 | s::a,b=>by rw[Hz,Vx,Vx,Za a b];omega
def Acl{l:List Sp}{i:Nat}(h:i<l.length):M8 (l.take (i+1))=M8 (l.take i)+(l[i].txt 1).length:=by
 rw[G7,Bc h,U1,Za,Vx,Y9];omega
structure EdB (l:List Sp) (i:Nat) (b:List Sp):Prop where
 mem:∀ s∈b,s∈l
 len:M8 b<=2*M8 (l.take i)
 cnt:b.length<=2*i
def A4c(l:List Sp):EdB l 0 []:=⟨fun _ h=>absurd h AH,(by simp[Y9]),Au _⟩
def A4d{l b:List Sp}{i:Nat}(h:EdB l i b)(hi:i<l.length):EdB l (i+1) b:=⟨h.mem,by have:=h.len;rw[Acl hi];omega,by have:=h.cnt;omega⟩
def Asy{l b:List Sp}{i:Nat}(h:EdB l i b)(hi:i<l.length):EdB l (i+1) (b++[l[i]]):=by
 refine⟨fun s hs=>?_,?_,?_⟩
 .rcases B8.1 hs with hs | hs
  .exact h.mem s hs
  .rw[Eo]at hs;rw[hs];exact Fy hi
 .have:=h.len;rw[Acl hi,Za,Vx,Y9];omega
 .have:=h.cnt;simp;omega
def A8z{l b:List Sp}{i:Nat}(h:EdB l i b)(hi:i<l.length):EdB l (i+1) ((b++[l[i]])++[l[i]]):=by
 refine⟨fun s hs=>?_,?_,?_⟩
 .rcases B8.1 hs with hs | hs
  .exact(Asy h hi).mem s hs
  .rw[Eo]at hs;rw[hs];exact Fy hi
 .have:=h.len;rw[Acl hi,Za,Za,Vx,Y9];omega
 .have:=h.cnt;simp;omega
def A0v{l b:List Sp}{i:Nat}(h:EdB l i b)(hi:i<l.length):EdB l (i+1) (l[i]::b):=by
 refine⟨fun s hs=>?_,?_,?_⟩
 .rcases Bj.1 hs with hs | hs
  .rw[hs];exact Fy hi
  .exact h.mem s hs
 .have:=h.len;rw[Acl hi,Vx];omega
 .have:=h.cnt;simp;omega
inductive EdT:List Tp->List Tp->Prop
 | nil:EdT [] []
 | cons {t t':Tp} {l l':List Tp}:t'.nm=t.nm->t'.locals=t.locals->EdB t.body t.body.length t'.body->EdT l l'->EdT (t::l) (t'::l')
def Asz:∀ {l l':List Tp} {t t':Tp},EdT l l'->t'.nm=t.nm->t'.locals=t.locals->EdB t.body t.body.length t'.body->EdT (l++[t]) (l'++[t'])
 | _,_,_,_,.nil,h1,h2,h3=>.cons h1 h2 h3 .nil
 | _,_,_,_,.cons a b c d,h1,h2,h3=>.cons a b c (Asz d h1 h2 h3)
def Aiu:∀ {l l':List Tp},EdT l l'->((l'.map Fj).flatten).length<=2*((l.map Fj).flatten).length/\l'.length=l.length
 | _,_,.nil=>⟨Ai _,rfl⟩
 | _,_,.cons (t:=t) (t':=t') a b c d=>by
  obtain⟨h1,h2⟩:=Aiu d;have h3:=c.len;rw[Dc]at h3;unfold M8 at h3;rw[Bb,Bb,Dv,Dv,Al,Al,Am,Am,h2]
  have h4:(Fj t').length<=2*(Fj t).length:=by
   unfold Fj;rw[a,b];simp only[Al,Am,C9];omega
  exact⟨by omega,rfl⟩
def Aus:∀ {l l':List Tp},EdT l l'->(∀ t∈l,∀ s∈t.body,CnS s)->∀ t∈l',∀ s∈t.body,CnS s
 | _,_,.nil,_,t,ht,_,_=>by cases ht
 | _,_,.cons a b c d,h,t,ht,s,hs=>by
  rcases Bj.1 ht with rfl | ht
  .exact h _ C5 s (c.mem s hs)
  .exact Aus d (fun t ht=>h t (C4 _ ht)) t ht s hs
def A80{p q:Gp}(hd:q.decls=p.decls)(ht:EdT p.thrs q.thrs)(hc:CnG p):CnG q/\(Hp q).length<=2*(Hp p).length:=by
 refine⟨⟨fun d h=>hc.decls d (hd ▸ h),Aus ht hc.thrs⟩,?_⟩;have:=(Aiu ht).1;unfold Hp;rw[hd,Al,Al];omega
def A4e{g:V}{kill:List Nat}{x y R:AC}{i1 i2:Nat}{k:List It}{e:Env}{σ:St}{Q:Env->St->Prop}(P P2:Env->St->Prop)
  (h1:∀ R' k',(∀ e σ,P e σ->W TT PT (.c R'::.b i2::k') e σ Q)->(∀ e σ,P2 e σ->W TT PT k' e σ Q)->WC TT PT g kill x y (.b i1::.c R'::.b i2::k') e σ Q)
  (h2:∀ e σ,P e σ->W TT PT (.c R::.b i2::k) e σ Q) (h3:∀ e σ,P2 e σ->W TT PT k e σ Q):WC TT PT g kill x y (.b i1::.c R::.b i2::k) e σ Q:=h1 R k h2 h3
structure EW (p:Gp) (s:St) (u:V) (T:List Tp):Prop where
 z:s[1]?=some (.row [.nils,.nils] 29 0 0)
 o:s[2]?=some (.row [SL p.dz p.dt (p.decls.map Dp.row),u] 29 0 0)
 t:TS s 3
 g:GW s 4 90 4 u (T.map Tp.row)
def Ajr{p:Gp}{s:St}{u:V}{T:List Tp}(h:EW p s u T):4<=s.length:=Lx h.t
def Zs{p:Gp}{s s':St}{u:V}{T:List Tp}(h:EW p s u T)(ht:TS s' 3)(hk:∀ j,j<s.length->j≠3->(j=1\/j=2\/j∈u.refs)->s'[j]?=s[j]?):EW p s' u T:=by
 have hl:=Ajr h
 exact⟨(hk 1 AA AA (.inl rfl)).trans h.z,(hk 2 AA AA (.inr (.inl rfl))).trans h.o,ht,K6 h.g fun j hj=>by
  obtain⟨a,b⟩:=Dx h.g j hj
  exact hk j b AA (.inr (.inr hj))⟩
def Zb{s s':St}{b:Nat}(h:TS s b)(hk:s'[b]?=s[b]?):TS s' b:=by
 obtain⟨z,t,l,a,h1,h2⟩:=h;exact⟨z,t,l,a,hk.trans h1,h2⟩
structure EX (p:Gp) (n:Nat) (x:Tp) (s:St) (u:V) (T:List Tp) (w:V) (B:List Sp):Prop where
 ew:EW p s u T
 n4:4<=n
 r:s[n]?=some (.row [.str x.nm,iV x.line,SL x.lz x.lt (x.locals.map fun s=>[V.str s]),SL x.bz x.bt (x.body.map Sp.row)] 90 0 0)
 u:∀ j∈u.refs,j<n
 g:GW s 11 104 (n+1) w (B.map Sp.row)
def Zt{p:Gp}{n:Nat}{x:Tp}{s:St}{u w:V}{T:List Tp}{B:List Sp}(h:EX p n x s u T w B):n<s.length:=(Ak.1 h.r).1
def As0{p:Gp}{n:Nat}{x:Tp}{s:St}{u w:V}{T:List Tp}{B:List Sp}(h:EX p n x s u T w B)(l:St):EX p n x (s++l) u T w B:=
 ⟨Zs h.ew (Zb h.ew.t (B6 (Lx h.ew.t))) fun j hj _ _=>B6 hj,h.n4,Bx h.r,h.u,Gk h.g⟩
def A81{p:Gp}{n:Nat}{x:Tp}{s s':St}{u w:V}{T:List Tp}{B:List Sp}(h:EX p n x s u T w B)(hw:TW s s' 3):EX p n x s' u T w B:=by
 have hn:=Zt h;refine⟨Zs h.ew hw.2.2.1 fun j hj h3 _=>hw.2.1 j hj h3,h.n4,(hw.2.1 n hn (by have:=h.n4;omega)).trans h.r,h.u,K6 h.g fun j hj=>?_⟩;obtain⟨a,b⟩:=Dx h.g j hj;exact hw.2.1 j b (by have:=h.n4;omega)
def Aut{p:Gp}{n:Nat}{x:Tp}{s:St}{u w:V}{T:List Tp}{B:List Sp}(h:EX p n x s u T w B)(y:Sp)(hb:B.length<=10000000):
  ∃ w' s',D6 176 (11,104) w (.lst 1 [y.row]) s=some (w',s')/\EX p n x s' u T w' (B++[y])/\w'.cellB=true/\(∀ j,j<s.length->j ∉ w.refs->s'[j]?=s[j]?)/\∀ j∈w'.refs,j∈w.refs\/s.length<=j:=by
 have hn:=Zt h;have h4:=h.n4;obtain⟨w',s',a,g',l',k',r',-⟩:=Pp (bytes:=176) (y:=.lst 1 [y.row]) (ys:=[y].map Sp.row) h.g AA rfl AA (Tj B) (Tj [y]) (Ahx [y]) AG;rw[<-Dw]at g';have hw:∀ j,j<=n->j ∉ w.refs:=fun j hj e=>by have:=(Dx h.g j e).1;omega
 refine⟨w',s',a,⟨Zs h.ew (Zb h.ew.t (k' 3 AA (hw 3 AA))) fun j hj _ qq=>k' j hj ?_,h4,(k' n hn (hw n (Ai _))).trans h.r,h.u,g'⟩,Cu g',k',r'⟩;rcases qq with rfl | rfl | qq
 .exact hw 1 AA
 .exact hw 2 AA
 .exact hw j (by have:=h.u j qq;omega)
def A4f{p:Gp}{n:Nat}{x:Tp}{s:St}{u w:V}{T:List Tp}{B:List Sp}(h:EX p n x s u T w B)(y:Sp)(hb:B.length<=10000000):
  ∃ s1 w' s',D6 176 (11,104) (.lst 1 []) (.lst 1 [y.row]) s=some (.sl s.length 0 0 1 11 true,s1)/\D6 176 (11,104) (.sl s.length 0 0 1 11 true) w s1=some (w',s')/\EX p n x s' u T w' (y::B)/\w'.cellB=true:=by
 have hn:=Zt h;have h4:=h.n4;have hy:=Nf y
 have e1:D6 176 (11,104) (.lst 1 []) (.lst 1 [y.row]) s=some (.sl s.length 0 0 1 11 true,s++[.row y.row 104 0 0]):=by
  simp[D6,Ea,J6,hy]
 have h1:=As0 h [.row y.row 104 0 0];have g1:GW (s++([.row y.row 104 0 0]:St)) 11 104 (n+1) (.sl s.length 0 0 1 11 true) ([y].map Sp.row):=.inr ⟨by simp,s.length,0,rfl,by simp,by omega⟩;obtain⟨w',s',a,g',l',k',r',-⟩:=Pp (bytes:=176) (y:=w) (ys:=B.map Sp.row) g1 AG (Bda h1.g (Tj B)) AA (Tj [y]) (Tj B) (Ahx B) AG;rw[<-Dw]at g';have hw:∀ j,j<s.length->j ∉ (V.sl s.length 0 0 1 11 true).refs:=fun j hj e=>by simp[V.refs]at e;omega
 have jL:(s++([.row y.row 104 0 0]:St)).length=s.length+1:=by simp
 refine⟨_,w',s',e1,a,⟨Zs h1.ew (Zb h1.ew.t (k' 3 AA (hw 3 AA))) fun j hj _ qq=>k' j hj ?_,h4,(k' n AA (hw n hn)).trans h1.r,h.u,g'⟩,Cu g'⟩;rcases qq with rfl | rfl | qq
 .exact hw 1 AA
 .exact hw 2 AA
 .exact hw j (by have:=h.u j qq;omega)
def Bdq{p:Gp}{n:Nat}{x:Tp}{s:St}{u w:V}{T:List Tp}{B:List Sp}(h:EX p n x s u T w B)(hT:T.length<=1000000):
  ∃ s1 u' s2,Ou 4 1 s [.str x.nm,iV x.line,SL x.lz x.lt (x.locals.map fun s=>[V.str s]),w]=some (.lst 1 [[.str x.nm,iV x.line,SL x.lz x.lt (x.locals.map fun s=>[V.str s]),SL true 0 (B.map Sp.row)]],s1) /\
   D6 72 (4,90) u (.lst 1 [[.str x.nm,iV x.line,SL x.lz x.lt (x.locals.map fun s=>[V.str s]),SL true 0 (B.map Sp.row)]]) s1=some (u',s2)/\u'.cellB=true/\s2[2]?=some (.row [SL p.dz p.dt (p.decls.map Dp.row),u] 29 0 0) /\
   EW p (s2.set 2 (.row [SL p.dz p.dt (p.decls.map Dp.row),u'] 29 0 0)) u' (T++[⟨x.nm,x.line,x.lz,x.lt,x.locals,true,0,B⟩]):=by
 have hn:=Zt h;have h4:=h.n4;obtain⟨s1,e1,l1,f1,-⟩:=Aof h.g (loc:=SL x.lz x.lt (x.locals.map fun s=>[V.str s])) (Is ..) x.nm x.line;have hw:∀ j,j<=n->j ∉ w.refs:=fun j hj e=>by have:=(Dx h.g j e).1;omega
 have hx:Tp.row ⟨x.nm,x.line,x.lz,x.lt,x.locals,true,0,B⟩=[.str x.nm,iV x.line,SL x.lz x.lt (x.locals.map fun s=>[V.str s]),SL true 0 (B.map Sp.row)]:=rfl;have g1:GW s1 4 90 4 u (T.map Tp.row):=K6 h.ew.g fun i hi=>f1 i (hw i (by have:=h.u i hi;omega))
 obtain⟨u',s2,e2,g2,l2,k2,r2,-⟩:=Pp (bytes:=72) (y:=.lst 1 [Tp.row ⟨x.nm,x.line,x.lz,x.lt,x.locals,true,0,B⟩]) (ys:=[Tp.row ⟨x.nm,x.line,x.lz,x.lt,x.locals,true,0,B⟩]) g1 AA rfl AA (Tb T) (by simp;rfl) (fun r hr=>by rw[Eo.1 hr,hx];simp only[Aw,Bi,Is];rfl) AG;have hu:∀ j,j<4->j ∉ u.refs:=fun j hj e=>by have:=(Dx h.ew.g j e).1;omega
 have kk:∀ j,j<4->s2[j]?=s[j]?:=fun j hj=>(k2 j AA (hu j hj)).trans (f1 j (hw j AA))
 refine⟨s1,u',s2,e1,e2,Cu g2,(kk 2 AA).trans h.ew.o,?_,B5 AA,?_,?_⟩
 .rw[Bh AA,kk 1 AA];exact h.ew.z
 .exact Zb h.ew.t ((Bh AA).trans (kk 3 AA))
 .rw[Dw,Aa4];exact K6 g2 fun j hj=>Bh fun e=>by have:=(Dx g2 j hj).1;omega
set_option maxHeartbeats 8000000 in
def A82{p:Gp}(hp:OKp p)(z:Bool)(t:Nat)(l:List UInt8)(hl:l.length<=9223372036854775807):∃ q:Gp,Fn TT PT 17 [.agg p.row,SL z t (Bs l)] (.agg q.row)/\q.decls=p.decls/\EdT p.thrs q.thrs:=by
 have qe:=Ox p;have qh:=Fh p;have qk:=hp.few;have qs:=U7 l;have js:(p.thrs.map Tp.row).length=p.thrs.length:=Ap ..;have e1:min (l.length:Int) 60=((min l.length 60:Nat):Int):=by omega
 obtain⟨z2,t2,qg⟩:=Vi z t 1 (Bs l) .i64 (min l.length 60) (by rw[qs];omega);rw[show(Bs l).take (min l.length 60)=Bs (l.take (min l.length 60)) by unfold Bs;rw[Sw]]at qg;rw[qh]at qe ⊢;refine Avw T17 rfl ?_
 have w0:EW p [.row [SL p.dz p.dt (p.decls.map Dp.row),SL p.tz p.tt (p.thrs.map Tp.row)] 29 0 0,.row [.nils,.nils] 29 0 0,.row [SL p.dz p.dt (p.decls.map Dp.row),.nils] 29 0 0,.row [SL z2 t2 (Bs (l.take (min l.length 60))),iV 0] 95 0 0] .nils []:=
  ⟨rfl,rfl,⟨z2,t2,_,0,rfl,Au _,by rw[Eg];omega⟩,D5⟩
 simp only[go_sem,qs,e1,qg,js];refine Bn (α:=Nat × St × V × List Tp) (fun a=>p.thrs.length - a.1) (fun a=>[(4,.ptr 1 0 0),(5,.ptr 2 0 0),(6,.ptr 3 0 0),(23,SL p.tz p.tt (p.thrs.map Tp.row)),(24,iV (p.thrs.length:Int)),(25,iV (a.1:Int))]) (fun a=>a.2.1) (fun a=>a.1<=p.thrs.length/\EW p a.2.1 a.2.2.1 a.2.2.2/\EdT (p.thrs.take a.1) a.2.2.2) ?_ (0,_,.nils,[]) ⟨Au _,w0,.nil⟩;clear w0;rintro⟨i,s,u,T⟩ ⟨hi,ew,hT⟩ ih;simp only at hi ew hT ih;have jG:T.length=i:=by rw[(Aiu hT).2,Eg];omega
 refine Bl Bgl ?_;rcases Be i p.thrs.length with qv | qv;rotate_left
 .have ql:i=p.thrs.length:=by omega
  rw[ql,Dc]at hT;have ho:=ew.o;have hz:=ew.z;have qb:=Ajr ew;have hc:=Cu ew.g;obtain⟨qG,qH⟩:=Iq hc;simp only[go_sem,Bq qv,ho,hz,qG,qH,hc];have z5:(s.set 1 (.row [SL p.dz p.dt (p.decls.map Dp.row),u] 29 0 0))[1]?=some (.row [SL p.dz p.dt (p.decls.map Dp.row),u] 29 0 0):=B5 AA;refine⟨_,_,p.dz,p.dt,true,0,p.decls,T,Ur z5 rfl rfl,⟨Ff (Is ..),Aia ..⟩,⟨?_,hc⟩,rfl,hT⟩;exact Mp (K6 ew.g fun j hj=>Bh fun e=>by have:=(Dx ew.g j hj).1;omega) AA (Tb T) (Abz T)
 obtain⟨x,hx,-,jC⟩:=By qv;have jD:=Ow x;have jl:(x.body.map Sp.row).length=x.body.length:=Ap ..;have jN:=hp.siz x jC;have jM:=Ad5 x.body;have i1:IntKind.i64.wrap ((i:Int)+1)=((i+1:Nat):Int):=A2 AA;have qb:=Ajr ew;obtain⟨s1,e1⟩:∃ s1:St,s1=s++[.row [.str x.nm,iV x.line,SL x.lz x.lt (x.locals.map fun s=>[V.str s]),SL x.bz x.bt (x.body.map Sp.row)] 90 0 0]:=⟨_,rfl⟩
 have ex:EX p s.length x s1 u T .nils []:=by
  refine⟨Zs ew (Zb ew.t (by rw[e1];exact B6 (Lx ew.t))) fun j hj _ _=>by rw[e1];exact B6 hj,qb,by rw[e1];simp,fun j hj=>(Dx ew.g j hj).2,D5⟩
 have qY:=ex.r;simp only[go_sem,A0 qv,Aj,hx,jD];rw[<-e1];simp only[go_sem,qY,jl];generalize s.length=n at *;clear qY e1 qb ew;clear s;refine Bn (α:=Nat × St × V × List Sp) (fun a=>x.body.length - a.1) (fun a=>[(4,.ptr 1 0 0),(5,.ptr 2 0 0),(6,.ptr 3 0 0),(8,.ptr n 0 0),(9,a.2.2.1),(23,SL p.tz p.tt (p.thrs.map Tp.row)),(24,iV (p.thrs.length:Int)),(25,iV (i:Int)),(30,SL x.bz x.bt (x.body.map Sp.row)),(31,iV (x.body.length:Int)),(32,iV (a.1:Int))]) (fun a=>a.2.1) (fun a=>a.1<=x.body.length/\EX p n x a.2.1 u T a.2.2.1 a.2.2.2/\EdB x.body a.1 a.2.2.2) ?_ (0,s1,.nils,[]) ⟨Au _,ex,A4c _⟩;clear ex;clear s1;rintro⟨k,s,w,B⟩ ⟨hk,ex,hB⟩ kh;simp only at hk ex hB kh;have jj:=hB.cnt;have jb:=Cu ex.g;refine Bl Bgk ?_;rcases Be k x.body.length with qj | qj;rotate_left
 .have jn:k=x.body.length:=by omega
  rw[jn]at hB;obtain⟨s1,u',s2,a1,a2,hc,a3,je⟩:=Bdq ex AA;obtain⟨qG,qH⟩:=Iq hc;obtain⟨jz,jA⟩:=Iq jb;have hr:=ex.r;have ho:=ex.ew.o;simp only[go_sem,Bq qj,hr,ho,jz,jA,jb,a1,a2,a3,qG,qH,hc,i1];refine As (ih (i+1,_,u',_) AD ⟨qv,je,?_⟩) rfl;have qi:p.thrs.take (i+1)=p.thrs.take i++[x]:=by rw[G7,hx];rfl
  simp only[qi];exact Asz hT rfl rfl hB
 obtain⟨y,hy,-,-⟩:=By qj;have jE:x.body[k]=y:=(Ak.1 hy).2;have b0:=A4d hB qj;have b1:=Asy hB qj;have b2:=A8z hB qj;have b3:=A0v hB qj;rw[jE]at b1 b2 b3;have qo:=Fg y;have k1:IntKind.i64.wrap ((k:Int)+1)=((k+1:Nat):Int):=A2 AA;have qz:=As0 ex [.row y.row 104 0 0];obtain⟨s1,e1⟩:∃ s1:St,s1=s++[.row y.row 104 0 0]:=⟨_,rfl⟩;have r1:s1[s.length]?=some (.row y.row 104 0 0):=by rw[e1];simp
 rw[<-e1]at qz;obtain⟨r,s2,q2,tw,l2,-,-,-⟩:=Aqc qz.ew.t 6 AA;have qp:=A81 qz tw;have jB:s.length ∉ w.refs:=fun e=>by have:=(Dx ex.g _ e).2;omega
 have ju:s.length≠3:=by have:=Zt ex;have:=ex.n4;omega
 have r2:s2[s.length]?=some (.row y.row 104 0 0):=(tw.2.1 _ (Ak.1 r1).1 ju).trans r1;rw[qo]at e1;have jd:Bv TT PT 45 [.ptr 3 0 0,iV 6] s1 (iV (r:Int)) s2:=q2;simp only[go_sem,A0 qj,Aj,hy,qo];rw[<-e1];refine Ac jd ?_;simp only[go_sem];generalize s.length=m at *;clear q2 jd r1 e1 qz tw l2 ex;clear s1;clear s;refine A4e (fun e s'=>∃ w' B' X,e=(4,.ptr 1 0 0)::(5,.ptr 2 0 0)::(6,.ptr 3 0 0)::(8,.ptr n 0 0)::(9,w')::(23,SL p.tz p.tt (p.thrs.map Tp.row))::(24,iV (p.thrs.length:Int))::(25,iV (i:Int))::(30,SL x.bz x.bt (x.body.map Sp.row))::(31,iV (x.body.length:Int))::(32,iV (k:Int))::(11,.ptr m 0 0)::X/\EX p n x s' u T w' B'/\EdB x.body (k+1) (B'++[y])/\s'[m]?=some (.row y.row 104 0 0)/\B'.length<=3000000) (fun e s'=>∃ w' B' X,e=(4,.ptr 1 0 0)::(5,.ptr 2 0 0)::(6,.ptr 3 0 0)::(8,.ptr n 0 0)::(9,w')::(23,SL p.tz p.tt (p.thrs.map Tp.row))::(24,iV (p.thrs.length:Int))::(25,iV (i:Int))::(30,SL x.bz x.bt (x.body.map Sp.row))::(31,iV (x.body.length:Int))::(32,iV (k:Int))::X/\EX p n x s' u T w' B'/\EdB x.body (k+1) B') ?_ ?_ ?_;rotate_left
 .rintro _ s ⟨w',B',X,rfl,ex,qE,r3,jj⟩;obtain⟨w2,s2,a1,qp,hc,-,-⟩:=Aut ex y AA;rw[qo]at r3 a1;simp only[go_sem,r3,a1,k1];exact As (kh (k+1,s2,w2,B'++[y]) AD ⟨qj,qp,qE⟩) rfl
 .rintro _ s ⟨w',B',X,rfl,ex,qE⟩;simp only[go_sem,k1];exact As (kh (k+1,s,w',B') AD ⟨qj,ex,qE⟩) rfl
 intro R' k' hA hC;rw[qo]at r2;have one:∀ X,W TT PT (.c R'::.b 3::k') ((4,.ptr 1 0 0)::(5,.ptr 2 0 0)::(6,.ptr 3 0 0)::(8,.ptr n 0 0)::(9,w)::(23,SL p.tz p.tt (p.thrs.map Tp.row))::(24,iV (p.thrs.length:Int))::(25,iV (i:Int))::(30,SL x.bz x.bt (x.body.map Sp.row))::(31,iV (x.body.length:Int))::(32,iV (k:Int))::(11,.ptr m 0 0)::X) s2 _:=fun X=>hA _ _ ⟨w,B,X,rfl,qp,b1,by rw[qo];exact r2,by omega⟩
 have jt:m<s2.length:=(Ak.1 r2).1
 have qO:Mx w=some (iV (B.length:Int)):=by
  have:=Bbk (Aj4 qp.g)
  rwa [Ap]at this
 by_cases h1:r=1
 .have f1:((r:Int)==1)=true:=by simp[h1]
  by_cases ho:y.op=12
  .have f2:(y.op != 12)=false:=by simp[ho]
   simp only[go_sem,f1,r2,f2];exact one _
  .have f2:(y.op != 12)=true:=by simp[ho]
   simp only[go_sem,f1,r2,f2];exact hC _ _ ⟨w,B,_,rfl,qp,b0⟩
 have f1:((r:Int)==1)=false:=by rw[beq_eq_false_iff_ne];omega
 by_cases h2:r=2
 .have f2:((r:Int)==2)=true:=by simp[h2]
  by_cases ho:y.op=1
  .have f3:(y.op==1)=true:=by simp[ho]
   obtain⟨w3,s3,a1,jf,jH,k3,-⟩:=Aut qp y AA;have r3:=(k3 m jt jB).trans r2;rw[qo]at a1;simp only[go_sem,f1,f2,r2,f3,a1];exact hA _ _ ⟨w3,B++[y],_,rfl,jf,b2,by rw[qo];exact r3,by rw[Al,Hw];omega⟩
  .have f3:(y.op==1)=false:=by simp[ho]
   simp only[go_sem,f1,f2,r2,f3];exact one _
 have f2:((r:Int)==2)=false:=by rw[beq_eq_false_iff_ne];omega
 by_cases h3:r=3;rotate_left
 .have f3:((r:Int)==3)=false:=by rw[beq_eq_false_iff_ne];omega
  simp only[go_sem,f1,f2,f3];exact one _
 have f3:((r:Int)==3)=true:=by simp[h3]
 by_cases jF:0<B.length;rotate_left
 .have f4:(0<(B.length:Int))=False:=eq_false AA;simp only[go_sem,f1,f2,f3,qO,f4];exact one _
 have f4:(0<(B.length:Int))=True:=eq_true AA;by_cases ho:y.op=1
 .have f5:(y.op==1)=true:=by simp[ho]
  obtain⟨s3,w4,s4,a1,a2,jg,-⟩:=A4f qp y AA;rw[qo]at a1;have f6:Ou 11 0 s2 []=some (.lst 1 [],s2):=Atm rfl;simp only[go_sem,f1,f2,f3,qO,f4,r2,f5,f6,a1,a2];exact hC _ _ ⟨w4,y::B,_,rfl,jg,b3⟩
 .have f5:(y.op==1)=false:=by simp[ho]
  simp only[go_sem,f1,f2,f3,qO,f4,r2,f5];exact one _
def Bio{p q:Gp}(hp:OKp p)(hd:q.decls=p.decls)(ht:EdT p.thrs q.thrs):CnG q/\(Hp q).length<=20000000000:=by
 obtain⟨a,b⟩:=A80 hd ht (Aje hp.sh);exact⟨a,by have:=hp.len;omega⟩
section
variable {α β:Type} [DecidableEq α] [DecidableEq β]
def Aoj(A B:List (β × List α)):(Hq (A++B)).length=(Hq A).length+(Hq B).length:=by unfold Hq;simp
def Agt{nm:β}:∀ {A B:List (β × List α)},(∀ q∈A,q.1≠nm)->J5 nm (A++B)=((Hq A).length+(J5 nm B).1,(J5 nm B).2)
 | [],B,_=>by rw[Cr];simp[Hq]
 | q::A,B,h=>by
  rw[Hz,J5,if_neg (h q C5),Agt fun r hr=>h r (C4 _ hr),Agr,Al,Ap];simp only[U4]
def M9(nm:β)(Q:List (β × List α))(k:Nat):Prop:=∀ q∈Q.take k,q.1≠nm
def Aq4(nm:β)(Q:List (β × List α)):M9 nm Q 0:=fun q hq=>by simp at hq
def Aq5{nm:β}{Q:List (β × List α)}{k:Nat}(h:M9 nm Q k){q:β × List α}(hq:Q[k]?=some q)(hn:q.1≠nm):M9 nm Q (k+1):=fun r hr=>by
 rw[G7,hq]at hr;rcases B8.1 hr with hr | hr
 .exact h r hr
 .simp at hr;rw[hr];exact hn
def F2(Q:List (β × List α))(k:Nat):Nat:=(Hq (Q.take k)).length
def Agu{Q:List (β × List α)}{k:Nat}{q:β × List α}(hq:Q[k]?=some q):F2 Q (k+1)=F2 Q k+q.2.length:=by
 unfold F2;rw[G7,hq,U1,Aoj];unfold Hq;simp
def Yo(Q:List (β × List α))(k:Nat):F2 Q k<=(Hq Q).length:=by
 unfold F2;have:=Aoj (Q.take k) (Q.drop k);rw[Gq]at this;omega
def A0w{nm:β}{Q:List (β × List α)}{k:Nat}{q:β × List α}(h:M9 nm Q k)(hq:Q[k]?=some q)(hn:q.1=nm):J5 nm Q=(F2 Q k,some q.2):=by
 obtain⟨hk,he⟩:=Ak.1 hq;have:=Agt (B:=Q.drop k) h;rw[Gq,Fd hk,he,J5,if_pos hn]at this;exact this
def Ana{nm:β}{Q:List (β × List α)}(h:M9 nm Q Q.length):J5 nm Q=(F2 Q Q.length,none):=by
 have:=Agt (B:=[]) h;rw[B3,Dc,J5]at this;rw[this];unfold F2;rw[Dc];rfl
inductive FoundR (nm:β) (Q:List (β × List α)) (k:Nat):Int->Nat->Prop
 | no:M9 nm Q k->FoundR nm Q k (-1) (F2 Q k)
 | yes {j:Nat} {q:β × List α}:j<k->M9 nm Q j->Q[j]?=some q->q.1=nm->FoundR nm Q k (j:Int) (F2 Q j)
def Ayy(nm:β)(Q:List (β × List α)):FoundR nm Q 0 (-1) 0:=.no (Aq4 nm Q)
def A0x{nm:β}{Q:List (β × List α)}{k:Nat}{q:β × List α}(h:M9 nm Q k)(hq:Q[k]?=some q)(hn:q.1=nm):FoundR nm Q (k+1) (k:Int) (F2 Q k):=.yes (Af1 k) h hq hn
def Ayz{nm:β}{Q:List (β × List α)}{k j b:Nat}(h:FoundR nm Q k (j:Int) b):FoundR nm Q (k+1) (j:Int) b:=by
 generalize hf:(j:Int)=f at h
 cases h with
 | no h=>omega
 | yes h1 h2 h3 h4=>exact .yes AA h2 h3 h4
def Ay0{nm:β}{Q:List (β × List α)}{k:Nat}{q:β × List α}(h:M9 nm Q k)(hq:Q[k]?=some q)(hn:q.1≠nm):FoundR nm Q (k+1) (-1) (F2 Q k+q.2.length):=by
 rw[<-Agu hq];exact .no (Aq5 h hq hn)
def Aq6{nm:β}{s:List α}{Q:List (β × List α)}{k:Nat}{q:β × List α}(h:M9 nm Q k)(hq:Q[k]?=some q)(hn:q.1=nm):Lh (nm,s) Q=Jc (F2 Q k) (Dn 0 s q.2):=by
 unfold Lh;rw[A0w h hq hn,Xq]
def Aok{nm:β}{s:List α}{Q:List (β × List α)}(h:M9 nm Q Q.length):Lh (nm,s) Q=List.replicate s.length (-1)/\Lh (nm,s) Q=Jc (F2 Q Q.length) (Dn 0 s []):=by
 have h2:(J5 nm Q).2=none:=by rw[Ana h]
 refine⟨A0u (p:=(nm,s)) h2,?_⟩;unfold Lh;rw[Ana h,Option.getD_none]
def Amk{P:List (β × List α)}{i:Nat}{p:β × List α}(Q:List (β × List α))(h:P[i]?=some p):H9 (P.take (i+1)) Q=H9 (P.take i) Q++Lh p Q:=by
 unfold H9;rw[G7,h,U1,List.flatMap_append];simp
end
