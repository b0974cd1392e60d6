/- Walks: the lines of programs, both sides. -/
import Derived.Test.YtphikjgngompaacGreatDoorIl
set_option linter.all false
namespace Go.Proofs.YtphikjgngompaacGreatDoor.KM
open Go
def Co(t:Tp):List V:=[SL true 0 ((Sp.hdss t.body).map fun x=>[V.str x])]
def Ast{σ:St}{lo e:Nat}{u:V}{X:List (List UInt8)}(h:GW σ 1 e lo u (X.map fun x=>[V.str x])):
  ∃ σ',Pr 1 1 σ [u]=some (.lst 1 [[SL true 0 (X.map fun x=>[V.str x])]],σ')/\σ'.length=σ.length/\(∀ j,j ∉ u.refs->σ'[j]?=σ[j]?)/\(Cl σ->Cl σ'):=by
 have jN:=J3 h AA (Asp X) (Asq X);have hr:Ah [u]=u.refs:=by simp[Ah]
 have jO:=jN (Fy σ 9 u.refs.eraseDups) (fun i hi=>Mh σ 9 _ i (O9.2 hi)) 7;unfold Pr;rw[hr];simp only[Jv,Abz,jO];refine⟨_,rfl,Qj _ _,fun j hj=>Wu _ _ _ fun hm=>?_,W6 _ _⟩;rcases h with⟨rfl,-⟩ | ⟨hn,i,g,rfl,ho,qE⟩
 .grind[V.refs,Fy]
 .have:Fy σ 9 (V.refs (.sl i g 0 (X.map fun x=>[V.str x]).length 1 true)).eraseDups=[i]:=by
   have e1:(V.refs (.sl i g 0 (X.map fun x=>[V.str x]).length 1 true)).eraseDups=[i]:=by simp[V.refs,List.eraseDups_cons]
   rw[e1];have hx:Ah (X.map fun x=>[V.str x]).flatten=[]:=F0 (Hk (Asq X));simp[Fy,ho,Ob.refs,hx]
  grind[V.refs]
structure PX (p:Gp):Prop where
 few:p.thrs.length<=100000000
 tx:∀ t∈p.thrs,TxL t.body
 sz:∀ t∈p.thrs,Sp.szs t.body<=10000
def Bmz{p:Gp}(h:ShG p)(hl:(Il p).length<=1000000000)(hs:∀ t∈p.thrs,Sp.szs t.body<=10000):PX p:=by
 have jv:((p.thrs.map Fx).flatten).length<=(Il p).length:=by unfold Il;simp
 have ji:∀ (L:List Tp),10*L.length<=((L.map Fx).flatten).length/\∀ t∈L,(Fx t).length<=((L.map Fx).flatten).length:=fun L=>by
  induction L with
  | nil=>grind
  | cons a l ih=>
   have h1:10<=(Fx a).length:=by unfold Fx;simp;omega
   grind
 refine⟨by grind,fun t ht=>⟨h.thrs t ht,?_⟩,hs⟩;have h1:=(ji p.thrs).2 t ht;have h2:=V2 t.body 0 1 AA;have h3:(Sp.txts 1 t.body).length<=(Fx t).length:=by unfold Fx;simp;omega
 omega
def Ae6(L:List Tp):∀ r∈L.map Co,r.length=1:=fun r hr=>by obtain⟨x,-,rfl⟩:=Di.1 hr;rfl
def Ae7(L:List Tp):∀ r∈L.map Co,r.all V.rowB=true:=fun r hr=>by
 obtain⟨x,-,rfl⟩:=Di.1 hr
 grind[Co,Hq]
theorem Ef(x:Gp):x.row=(gR x):=rfl
def Pu(t:Tp):t.row=(tR t):=rfl
def Pv(x:Gp):x.row.all V.rowB=true:=by
 grind[Gp.row,Hq]
def Ayn(x:Tp):x.row.all V.rowB=true:=by
 rw[Pu];simp only[B5,Dc,Hq];rfl
def Au9{σ:St}{lo m e bytes:Nat}{u:V}{xs:List (List V)}{row:List V}(h:GV σ m e lo u xs)(qE:lo<=σ.length)(hm:0<m)(hl:∀ r∈xs,r.length=m)(jV:row.length=m)(hr:row.all V.rowB=true)(hb:(xs.length+1)*bytes<=140737488355328)(hc:Cl σ):
  ∃ u' σ',Dx bytes (m,e) u (.lst 1 [row]) σ=some (u',σ')/\GV σ' m e lo u' (xs++[row])/\u'.cellB=true/\σ.length<=σ'.length/\(∀ j,j<σ.length->j ∉ u.refs->σ'[j]?=σ[j]?)/\Cl σ':=by
 obtain⟨u',σ',h1,h2,h3,h4,-⟩:=Akh (bytes:=bytes) (y:=.lst 1 [row]) (ys:=[row]) h qE rfl hm hl (fun r hr=>by grind) hb
 obtain⟨-,h6⟩:=Aez h1 rfl (fun r hx=>by grind) (by
  rcases h with⟨rfl,-⟩ | ⟨i,g,rfl,-⟩
  .grind
  grind)
 grind[Atu,V.refs]
def Aw7{σ τ:St}{m e lo:Nat}{u:V}{xs:List (List V)}(h:GV σ m e lo u xs)(hk:∀ i∈u.refs,τ[i]?=σ[i]?):GV τ m e lo u xs:=by
 rcases h with h | ⟨i,g,h,ho,qE⟩
 .exact .inl h
 .exact .inr ⟨i,g,h,by grind[V.refs],qE⟩
def Aw8{σ:St}{m e lo:Nat}{u:V}{xs:List (List V)}(h:GV σ m e lo u xs):∀ i∈u.refs,lo<=i/\i<σ.length:=by
 intro j hj;rcases h with⟨rfl,-⟩ | ⟨i,g,rfl,ho,qE⟩
 .grind[V.refs]
 grind[V.refs]
set_option maxHeartbeats 4000000 in
def Aie{p:Gp}(h:PX p):∃ z,Fn TT PT 53 [.agg p.row] (SL z 0 (p.thrs.map Co)):=by
 have qh:(p.thrs.map Tp.row).length=p.thrs.length:=Av ..;have ql:=Pv p;have qe:=Ef p;have qu:=h.few;refine⟨true,Bg T53 rfl ?_⟩;have c0:Cl [.row p.row 34 0 0]:=Jf (s:=[]) (fun _ h=>by cases h) ql;rw[qe]at c0 ql ⊢;simp only[go_sem,qh];refine Bb (α:=Nat × St × V) (fun a=>p.thrs.length - a.1) (fun a=>[(3,a.2.2),(7,SL p.tz p.tt (p.thrs.map Tp.row)),(8,iV (p.thrs.length:Int)),(9,iV (a.1:Int))]) (fun a=>a.2.1) (fun a=>a.1<=p.thrs.length/\(GV a.2.1 1 83 1 a.2.2 ((p.thrs.take a.1).map Co)/\(a.1=0->a.2.2=.nils)/\(a.1≠0->a.2.2≠.nils))/\Cl a.2.1/\1<=a.2.1.length) ?_ (0,_,.nils) ⟨As _,⟨Bfb,fun _=>rfl,fun h=>absurd rfl h⟩,c0,Am _⟩;rintro⟨i,s,u⟩ ⟨hi,⟨hg,jQ,qQ⟩,hc,jm⟩ ih;simp only at hi hg jQ qQ hc jm ih;refine Ay Bk7 ?_;rcases Az i p.thrs.length with h' | h';rotate_left
 .have qo:i=p.thrs.length:=by omega
  subst qo;rw[Dh]at hg;simp only[go_sem,Bj h']
  have jH:GW s 1 83 1 u (p.thrs.map Co):=by
   rcases hg with hg | hg
   .exact .inl hg
   .refine .inr ⟨fun e=>?_,hg⟩
    grind
  exact Sn jH AA (Ae6 _) (Ae7 _)
 obtain⟨x,hx,hd,hm⟩:=Bk h';have qc:=Pu x;have qv:=Ayn x;have jP:=h.sz x hm;obtain⟨s1,e1⟩:∃ s1:St,s1=s++[.row x.row 86 0 0]:=⟨_,rfl⟩;have c1:Cl s1:=by rw[e1];exact Jf hc qv
 have l1:s1.length=s.length+1:=by rw[e1];simp
 obtain⟨v,s2,q2,G2⟩:=Bhd (h.tx x hm) s1.length s1 .nils [] x.bz x.bt Dr (Am _) c1 (by grind);rw[Ct]at G2;obtain⟨s3,e3,l3,f3,c3⟩:=Ast G2.g;have qK:∀ j∈u.refs,j<s.length:=fun j hj=>(Aw8 hg j hj).2
 have kk:∀ j,j<s.length->s3[j]?=s[j]?:=fun j hj=>by
  rw[f3 j fun e=>by have:=(C8 G2.g j e).1;omega,G2.kp j AA AQ,e1,Ex hj]
 have jb:GV s3 1 83 1 u ((p.thrs.take i).map Co):=Aw7 hg fun j hj=>kk j (qK j hj)
 have qL:=B8 G2.g;obtain⟨jp,jq⟩:=Jd qL;obtain⟨u',s4,e4,g4,qd,l4,k4,c4⟩:=Au9 (bytes:=24) (row:=Co x) jb (by grind) AA (Ae6 _) rfl (Ae7 [x] _ AE) (by grind) (c3 G2.cl)
 have qn:(p.thrs.take i).map Co++[Co x]=(p.thrs.take (i+1)).map Co:=by
  rw[Ld,hx];simp
 rw[qn]at g4;rw[show Co x=[SL true 0 ((Sp.hdss x.body).map fun x=>[V.str x])] from rfl]at e4;rw[qc]at e1;simp only[go_sem,Aq h',Ak,hx,qc];rw[<-e1];refine Aa q2 ?_;simp only[go_sem,jp,jq,qL,e3,e4,Aw (show i<9223372036854775807 by omega)];refine Ai (ih (i+1,s4,u') AA ⟨h',⟨g4,fun h=>by simp at h,fun _ e=>?_⟩,c4,by grind⟩) rfl;rcases g4 with⟨-,g4⟩ | ⟨_,_,g4,-⟩
 .simp_all
 grind
set_option maxHeartbeats 4000000 in
def Aif{p:Gp}(h:PX p):Fn TT PT 43 [.agg p.row] (.lst 0 (p.thrs.map Co)):=by
 have qh:(p.thrs.map Tp.row).length=p.thrs.length:=Av ..;have ql:=Pv p;have qe:=Ef p;have qu:=h.few;refine Bg T43 rfl ?_;have c0:Cl [.row p.row 34 0 0,.row [] 83 0 0]:=Jf (s:=[.row p.row 34 0 0]) (Jf (s:=[]) (fun _ h=>by cases h) ql) rfl;rw[qe]at c0 ql ⊢;have jD:(0<=(p.thrs.length:Int))=True:=eq_true AA;have qT:(p.thrs.length*24<=140737488355328)=True:=eq_true AA;simp only[go_sem,qh,jD,qT,Mv,Int.toNat_zero,Agx,Abu,Vr];refine Bb (α:=Nat × St × V) (fun a=>p.thrs.length - a.1) (fun a=>[(3,a.2.2),(11,SL p.tz p.tt (p.thrs.map Tp.row)),(12,iV (p.thrs.length:Int)),(13,iV (a.1:Int))]) (fun a=>a.2.1) (fun a=>a.1<=p.thrs.length/\(GV a.2.1 1 83 1 a.2.2 ((p.thrs.take a.1).map Co)/\a.2.2≠.nils)/\Cl a.2.1/\1<=a.2.1.length) ?_ (0,_,.sl 1 0 0 0 1 true) ⟨As _,⟨.inr ⟨1,0,rfl,rfl,Am _⟩,fun h=>by cases h⟩,c0,by simp⟩;rintro⟨i,s,u⟩ ⟨hi,⟨hg,qQ⟩,hc,jm⟩ ih;simp only at hi hg qQ hc jm ih;refine Ay Bk0 ?_;rcases Az i p.thrs.length with h' | h';rotate_left
 .have qo:i=p.thrs.length:=by omega
  subst qo;rw[Dh]at hg;simp only[go_sem,Bj h'];rcases hg with⟨e,-⟩ | ⟨i,g,rfl,ho,-⟩
  .exact absurd e qQ
  .exact Afj ho AA (Ae6 _) (Ae7 _)
 obtain⟨x,hx,hd,hm⟩:=Bk h';have qc:=Pu x;have qv:=Ayn x;have jP:=h.sz x hm;obtain⟨s1,e1⟩:∃ s1:St,s1=s++[.row x.row 86 0 0]:=⟨_,rfl⟩;have c1:Cl s1:=by rw[e1];exact Jf hc qv
 have l1:s1.length=s.length+1:=by rw[e1];simp
 obtain⟨v,s2,q2,G2⟩:=Bhe (h.tx x hm) s1.length s1 .nils [] x.bz x.bt Dr (Am _) c1 (by grind);rw[Ct]at G2;obtain⟨s3,e3,l3,f3,c3⟩:=Ast G2.g;have qK:∀ j∈u.refs,j<s.length:=fun j hj=>(Aw8 hg j hj).2
 have kk:∀ j,j<s.length->s3[j]?=s[j]?:=fun j hj=>by
  rw[f3 j fun e=>by have:=(C8 G2.g j e).1;omega,G2.kp j AA AQ,e1,Ex hj]
 have jb:GV s3 1 83 1 u ((p.thrs.take i).map Co):=Aw7 hg fun j hj=>kk j (qK j hj)
 have qL:=B8 G2.g;obtain⟨jp,jq⟩:=Jd qL;obtain⟨u',s4,e4,g4,qd,l4,k4,c4⟩:=Au9 (bytes:=24) (row:=Co x) jb (by grind) AA (Ae6 _) rfl (Ae7 [x] _ AE) (by grind) (c3 G2.cl)
 have qn:(p.thrs.take i).map Co++[Co x]=(p.thrs.take (i+1)).map Co:=by
  rw[Ld,hx];simp
 rw[qn]at g4;rw[show Co x=[SL true 0 ((Sp.hdss x.body).map fun x=>[V.str x])] from rfl]at e4;rw[qc]at e1;simp only[go_sem,Aq h',Ak,hx,qc];rw[<-e1];refine Aa q2 ?_;simp only[go_sem,jp,jq,qL,e3,e4,Aw (show i<9223372036854775807 by omega)];refine Ai (ih (i+1,s4,u') AA ⟨h',⟨g4,fun e=>?_⟩,c4,by grind⟩) rfl;rcases g4 with⟨-,g4⟩ | ⟨_,_,g4,-⟩
 .simp_all
 grind
/-! keys -/
def Jq(nm ln:List UInt8)(n:Nat):List V:=[.str nm,.str ln,iV (n:Int)]
def Gf(nm:List UInt8):List (List UInt8)->List (List UInt8)->List (List V)
 | _,[]=>[]
 | P,x::X=>Jq nm x (P.count x)::Gf nm (P++[x]) X
def Im(p:Gp):List (List V):=(p.thrs.map fun t=>Gf t.nm [] (Sp.hdss t.body)).flatten
theorem Yj(nm:List UInt8):∀ (X P:List (List UInt8)),(Gf nm P X).length=X.length
 | [],_=>rfl
 | x::X,P=>by rw[Gf,Be,Yj nm X,Be]
theorem Ad6(nm:List UInt8):∀ (X P:List (List UInt8)),∀ r∈Gf nm P X,r.length=3/\r.all V.rowB=true
 | [],_,r,hr=>by cases hr
 | x::X,P,r,hr=>by
  rw[Gf]at hr;rcases B7.1 hr with rfl | hr
  .exact⟨rfl,rfl⟩
  .exact Ad6 nm X _ r hr
def Wn(L:List Tp):∀ r∈(L.map fun t=>Gf t.nm [] (Sp.hdss t.body)).flatten,r.length=3/\r.all V.rowB=true:=fun r hr=>by
 obtain⟨l,hl,hr⟩:=List.mem_flatten.1 hr;obtain⟨t,-,rfl⟩:=Di.1 hl
 grind[Ad6]
def Aig(L:List Tp):((L.map fun t=>Gf t.nm [] (Sp.hdss t.body)).flatten).length=(L.map fun t=>Sp.szs t.body).sum:=by
 induction L with
 | nil=>rfl
 | cons a l ih=>grind[Yj,Jb]
def H2(p:Gp):List (List UInt8 × List (List UInt8)):=p.thrs.map fun t=>(t.nm,Sp.hdss t.body)
def Gl(p q:Gp):List Int:=Ii (H2 p) (H2 q)
def Yk:∀ L:List Tp,(G9 (L.map fun t=>(t.nm,Sp.hdss t.body))).length=((L.map fun t=>Gf t.nm [] (Sp.hdss t.body)).flatten).length
 | []=>rfl
 | t::L=>by rw[Bh,Acg,Bh,Gv,Aj,Aj,Av,Yj,Yk L]
def Ao0(p q:Gp):(Gl p q).length=(Im p).length:=by
 unfold Gl;rw[Ahm];exact Yk p.thrs
/-! maps -/
def fk(s:List UInt8):List (List UInt8 × V)->Option V
 | []=>none
 | (k,v)::r=>if k==s then some v else fk s r
def Ava(s:List UInt8):∀ (kvs:List (List UInt8 × V)) (i:Nat),(H5 s kvs i).map Prod.snd=fk s kvs
 | [],_=>rfl
 | (k,v)::r,i=>by
  rw[H5,fk]
  split
  .rfl
  .exact Ava s r (i+1)
def Asu(s:List UInt8)(v:V):∀ (kvs:List (List UInt8 × V)) (i j:Nat) (w:V),H5 s kvs i=some (j,w)->i<=j/\∀ s',fk s' (kvs.set (j - i) (s,v))=if s'=s then some v else fk s' kvs
 | [],_,_,_,h=>by cases h
 | (k,x)::r,i,j,w,h=>by
  rw[H5]at h
  split at h
  .rename_i hk;cases h;refine⟨Am _,fun s'=>?_⟩;have hk:=eq_of_beq hk;rw[Iu,Agy,fk,fk,hk]
   grind
  .rename_i hk;obtain⟨h1,h2⟩:=Asu s v r (i+1) j w h;refine⟨by omega,fun s'=>?_⟩;obtain⟨m,hm⟩:∃ m,j - i=m+1:=⟨j - i - 1,by omega⟩
   grind[fk]
def Ap8(s:List UInt8)(v:V):∀ (kvs:List (List UInt8 × V)) (i:Nat),H5 s kvs i=none->∀ s',fk s' (kvs++[(s,v)])=if s'=s then some v else fk s' kvs
 | [],_,_,s'=>by
  rw[Ct,fk,fk,fk]
  grind
 | (k,x)::r,i,h,s'=>by
  rw[H5]at h
  split at h
  .cases h
  .rename_i hk;rw[Mw,fk,fk,Ap8 s v r (i+1) h s']
   grind
def KVs(kvs:List (List UInt8 × V))(X:List (List UInt8)):Prop:=∀ s,fk s kvs=if X.count s=0 then none else some (iV (X.count s:Int))
theorem Bhi:KVs [] []:=fun _=>rfl
def Avb{kvs kvs':List (List UInt8 × V)}{X:List (List UInt8)}{s:List UInt8}(h:KVs kvs X)(hs:∀ s',fk s' kvs'=if s'=s then some (iV ((X.count s+1:Nat):Int)) else fk s' kvs):KVs kvs' (X++[s]):=fun s'=>by
 rw[hs s',List.count_append];by_cases e:s'=s
 .grind
 .have:[s].count s'=0:=List.count_eq_zero.2 fun hm=>e (Hh.1 hm)
  rw[if_neg e,this,Mx];exact h s'
def Bhj{kvs:List (List UInt8 × V)}{X:List (List UInt8)}(h:KVs kvs X)(s:List UInt8):(H5 s kvs 0=none/\X.count s=0)\/∃ j,H5 s kvs 0=some (j,iV (X.count s:Int)):=by
 have h1:=Ava s kvs 0;rw[h s]at h1
 cases hf:H5 s kvs 0 with
 | none=>
  grind
 | some p=>
  grind
/-! keys -/
def Ap9(nm:List UInt8):∀ (X P:List (List UInt8)) (k:Nat) (x:List UInt8),X[k]?=some x->(Gf nm P X)[k]?=some (Jq nm x ((P++X.take k).count x))
 | [],_,_,_,h=>by simp at h
 | y::X,P,0,x,h=>by
  grind[Gf]
 | y::X,P,k+1,x,h=>by
  rw[Gf,O7,Ap9 nm X (P++[y]) k x (by grind)];simp
def Ao1{nm:List UInt8}{X:List (List UInt8)}{k:Nat}{x:List UInt8}(h:X[k]?=some x):(Gf nm [] X).take k++[Jq nm x ((X.take k).count x)]=(Gf nm [] X).take (k+1):=by
 simp_all [Ap9,Ld]
def Zs{L:List Tp}(h:∀ t∈L,Sp.szs t.body<=10000):(L.map fun t=>Sp.szs t.body).sum<=L.length*10000:=by
 induction L with
 | nil=>simp
 | cons a l ih=>
  grind
def Ow(L:List Tp):List (List V):=(L.map fun t=>Gf t.nm [] (Sp.hdss t.body)).flatten
def Ao2{L:List Tp}{i:Nat}{x:Tp}(h:L[i]?=some x):Ow (L.take (i+1))=Ow (L.take i)++Gf x.nm [] (Sp.hdss x.body):=by
 grind[Ow,List.take_add_one]
set_option maxHeartbeats 4000000 in
def Asv{p:Gp}(h:PX p):Fn TT PT 25 [.agg p.row] (SL true 0 (Im p)):=by
 obtain⟨zL,hL⟩:=Aie h;have ql:=Pv p;have qe:=Ef p;have qu:=h.few;have jo:=Zs h.sz;have je:(p.thrs.map Co).length=p.thrs.length:=Av ..;rw[qe]at hL ql ⊢;refine Bg T25 rfl ?_;simp only[go_sem];refine Ab hL AB ?_;simp only[go_sem,je];refine Bb (α:=Nat × St × V) (fun a=>p.thrs.length - a.1) (fun a=>[(1,.ptr 0 0 0),(3,a.2.2),(12,SL zL 0 (p.thrs.map Co)),(13,iV (p.thrs.length:Int)),(14,iV (a.1:Int))]) (fun a=>a.2.1) (fun a=>a.1<=p.thrs.length/\GW a.2.1 3 57 1 a.2.2 (Ow (p.thrs.take a.1))/\a.2.1[0]?=some (gO p)) ?_ (0,_,.nils) ⟨As _,Dr,rfl⟩;rintro⟨i,s,u⟩ ⟨hi,hg,hs⟩ ih;simp only at hi hg hs ih;refine Ay Bko ?_;rcases Az i p.thrs.length with h' | h';rotate_left
 .have qo:i=p.thrs.length:=by omega
  subst qo;rw[Dh]at hg;simp only[go_sem,Bj h'];exact Sn hg AA (fun r hr=>(Wn _ r hr).1) (fun r hr=>(Wn _ r hr).2)
 obtain⟨x,hx,hd,hm⟩:=Bk h';have qc:=Pu x;have js:=h.sz x hm;have qr:Co x=[SL true 0 ((Sp.hdss x.body).map fun x=>[V.str x])]:=rfl;have qz:((Sp.hdss x.body).map fun x=>[V.str x]).length=(Sp.hdss x.body).length:=Av ..;have jE:=Jb x.body;have qn:=Ao2 hx
 have qY:(Ow (p.thrs.take i)).length<=100000000*10000:=by
  have h1:=Aig (p.thrs.take i);have h2:=Zs (L:=p.thrs.take i) fun t ht=>h.sz t (Nu ht)
  have h3:(p.thrs.take i).length*10000<=100000000*10000:=E4 _ (by grind);unfold Ow;omega
 generalize hX:Sp.hdss x.body=X at *;simp only[go_sem,Aq h',Ak,hx,qr,hX,qz];refine Bb (α:=Nat × St × V) (fun a=>X.length - a.1) (fun a=>[(1,.ptr 0 0 0),(3,a.2.2),(4,iV (i:Int)),(5,SL true 0 (X.map fun x=>[V.str x])),(12,SL zL 0 (p.thrs.map Co)),(13,iV (p.thrs.length:Int)),(14,iV (i:Int)),(19,SL true 0 (X.map fun x=>[V.str x])),(20,iV (X.length:Int)),(21,iV (a.1:Int))]) (fun a=>a.2.1) (fun a=>a.1<=X.length/\GW a.2.1 3 57 1 a.2.2 (Ow (p.thrs.take i)++(Gf x.nm [] X).take a.1)/\a.2.1[0]?=some (gO p)) ?_ (0,s,u) ⟨As _,by grind,hs⟩;clear hg hs u s;rintro⟨k,s,u⟩ ⟨hk,hg,hs⟩ jh;simp only at hk hg hs jh;refine Ay Bkn ?_;rcases Az k X.length with h3 | h3;rotate_left
 .rw[show(Gf x.nm [] X).take k=Gf x.nm [] X from Ky (by grind[Yj]),<-qn]at hg;simp only[go_sem,Bj h3,Aw (show i<9223372036854775807 by omega)];exact Ai (ih (i+1,s,u) AA ⟨h',hg,hs⟩) rfl
 obtain⟨y,hy,-,-⟩:=Bk h3;obtain⟨z2,t2,qD⟩:=Ye true 0 1 (X.map fun x=>[V.str x]) .i64 k AA;rw[<-Vo]at qD;have jI:((X.take k).map fun x=>[V.str x]).length=k:=by rw[Av,Ic];omega
 simp only[go_sem,Aq h3,Ak,hy,qD,jI];refine Bb (α:=Nat) (fun j=>k - j) (fun j=>[(1,.ptr 0 0 0),(3,u),(4,iV (i:Int)),(5,SL true 0 (X.map fun x=>[V.str x])),(7,.str y),(8,iV (((X.take j).count y:Nat):Int)),(12,SL zL 0 (p.thrs.map Co)),(13,iV (p.thrs.length:Int)),(14,iV (i:Int)),(19,SL true 0 (X.map fun x=>[V.str x])),(20,iV (X.length:Int)),(21,iV (k:Int)),(28,SL z2 t2 ((X.take k).map fun x=>[V.str x])),(29,iV (k:Int)),(30,iV (j:Int))]) (fun _=>s) (fun j=>j<=k) ?_ 0 (As _);rintro j hj kh;have jS:(X.take j).count y<=k:=Dd List.count_le_length (by rw[Ic];omega);refine Ay Bkm ?_;rcases Az j k with h4 | h4
 .obtain⟨w,hw⟩:∃ w,X[j]?=some w:=⟨_,Cb AA⟩;have jC:(X.take k)[j]?=some w:=by rw[Vh,if_pos h4];exact hw
  have qZ:(X.take (j+1)).count y=(X.take j).count y+(if w=y then 1 else 0):=by
   rw[Ld,hw,List.count_append]
   by_cases e:w=y<;>simp[e]
  by_cases e:w=y
  .have f1:(w==y)=true:=by simp[e]
   rw[if_pos e]at qZ;have w1:IntKind.i64.wrap ((((X.take j).count y:Nat):Int)+1)=(((X.take (j+1)).count y:Nat):Int):=by rw[Bo AA,qZ];rfl
   simp only[go_sem,Aq h4,Ak,jC,f1,w1,Aw (show j<9223372036854775807 by omega)];exact Ai (kh (j+1) AA h4) rfl
  .have f1:(w==y)=false:=by simp[e]
   rw[if_neg e]at qZ;have ja:(X.take j).count y=(X.take (j+1)).count y:=by omega
   rw[ja];simp only[go_sem,Aq h4,Ak,jC,f1,Aw (show j<9223372036854775807 by omega)];exact Ai (kh (j+1) AA h4) rfl
 obtain rfl:j=k:=by omega
 have jd:=Ao1 (nm:=x.nm) hy
 obtain⟨u',s',ha,g',l',kp,rf,-⟩:=Ml (bytes:=40) (y:=.lst 1 [Jq x.nm y ((X.take j).count y)]) (ys:=[Jq x.nm y ((X.take j).count y)]) hg (by grind) rfl AA (fun r hr=>by
  rcases Cs.1 hr with hr | hr
  .exact(Wn _ r hr).1
  grind[Ad6]) (by simp[Jq]) (by simp[Jq,V.rowB]) (by grind)
 rw[Dm,jd]at g';have jB:=(kp 0 (An.1 hs).1 fun e=>by have:=(C8 hg 0 e).1;omega).trans hs;have qd:=B8 g';unfold Jq at ha;simp only[go_sem,Bj h4,hs,Ak,hx,qc,ha,Aw (show j<9223372036854775807 by omega)];exact Ai (jh (j+1,s',u') AA ⟨h3,g',jB⟩) rfl
set_option maxHeartbeats 4000000 in
def Asw{p:Gp}(h:PX p):Fn TT PT 80 [.agg p.row] (SL true 0 (Im p)):=by
 have hL:=Aif h;have ql:=Pv p;have qe:=Ef p;have qu:=h.few;have jo:=Zs h.sz;have je:(p.thrs.map Co).length=p.thrs.length:=Av ..;rw[qe]at hL ql ⊢;refine Bg T80 rfl ?_;simp only[go_sem];refine Ab hL AB ?_;simp only[go_sem,je];refine Bb (α:=Nat × St × V) (fun a=>p.thrs.length - a.1) (fun a=>[(1,.ptr 0 0 0),(3,a.2.2),(10,.lst 0 (p.thrs.map Co)),(11,iV (p.thrs.length:Int)),(12,iV (a.1:Int))]) (fun a=>a.2.1) (fun a=>a.1<=p.thrs.length/\GW a.2.1 3 57 1 a.2.2 (Ow (p.thrs.take a.1))/\a.2.1[0]?=some (gO p)) ?_ (0,_,.nils) ⟨As _,Dr,rfl⟩;rintro⟨i,s,u⟩ ⟨hi,hg,hs⟩ ih;simp only at hi hg hs ih;refine Ay Blt ?_;rcases Az i p.thrs.length with h' | h';rotate_left
 .have qo:i=p.thrs.length:=by omega
  subst qo;rw[Dh]at hg;simp only[go_sem,Bj h'];exact Sn hg AA (fun r hr=>(Wn _ r hr).1) (fun r hr=>(Wn _ r hr).2)
 obtain⟨x,hx,hd,hm⟩:=Bk h';have qc:=Pu x;have js:=h.sz x hm;have qr:Co x=[SL true 0 ((Sp.hdss x.body).map fun x=>[V.str x])]:=rfl;have qz:((Sp.hdss x.body).map fun x=>[V.str x]).length=(Sp.hdss x.body).length:=Av ..;have jE:=Jb x.body;have qn:=Ao2 hx
 have qY:(Ow (p.thrs.take i)).length<=100000000*10000:=by
  have h1:=Aig (p.thrs.take i);have h2:=Zs (L:=p.thrs.take i) fun t ht=>h.sz t (Nu ht)
  have h3:(p.thrs.take i).length*10000<=100000000*10000:=E4 _ (by grind);unfold Ow;omega
 generalize hX:Sp.hdss x.body=X at *;have jl:0<s.length:=(An.1 hs).1;have qK:∀ j∈u.refs,1<=j/\j<s.length:=C8 hg;simp only[go_sem,Aq h',Ak,hx,qr,hX,qz];have jy:(s++([.map []]:St))[s.length]?=some (.map []):=by simp
 refine Bb (α:=Nat × St × V × List (List UInt8 × V)) (fun a=>X.length - a.1) (fun a=>[(1,.ptr 0 0 0),(3,a.2.2.1),(4,iV (i:Int)),(6,.mp s.length),(10,.lst 0 (p.thrs.map Co)),(11,iV (p.thrs.length:Int)),(12,iV (i:Int)),(18,SL true 0 (X.map fun x=>[V.str x])),(19,iV (X.length:Int)),(20,iV (a.1:Int))]) (fun a=>a.2.1) (fun a=>a.1<=X.length/\(GW a.2.1 3 57 1 a.2.2.1 (Ow (p.thrs.take i)++(Gf x.nm [] X).take a.1)/\s.length ∉ a.2.2.1.refs)/\a.2.1[0]?=some (gO p)/\a.2.1[s.length]?=some (.map a.2.2.2)/\KVs a.2.2.2 (X.take a.1)) ?_ (0,s++([.map []]:St),u,[]) ⟨As _,⟨by grind[Ix],fun e=>by grind⟩,Bt hs,jy,by grind[Bhi]⟩;generalize hn:s.length=n at *;clear hg hs qK jy u hn s;rintro⟨k,s,u,kvs⟩ ⟨hk,⟨hg,jz⟩,hs,qp,qP⟩ jh;simp only at hk hg jz hs qp qP jh;refine Ay Bls ?_;rcases Az k X.length with h3 | h3;rotate_left
 .rw[show(Gf x.nm [] X).take k=Gf x.nm [] X from Ky (by grind[Yj]),<-qn]at hg;simp only[go_sem,Bj h3,Aw (show i<9223372036854775807 by omega)];exact Ai (ih (i+1,s,u) AA ⟨h',hg,hs⟩) rfl
 obtain⟨y,hy,-,-⟩:=Bk h3;have jd:=Ao1 (nm:=x.nm) hy;have jJ:=(An.1 hs).1;have jK:=(An.1 qp).1;have jT:(X.take k).count y<=k:=Dd List.count_le_length (by grind)
 obtain⟨u',s',ha,g',l',kp,rf,-⟩:=Ml (bytes:=40) (y:=.lst 1 [Jq x.nm y ((X.take k).count y)]) (ys:=[Jq x.nm y ((X.take k).count y)]) hg AA rfl AA (fun r hr=>by
  rcases Cs.1 hr with hr | hr
  .exact(Wn _ r hr).1
  grind[Ad6]) (by simp[Jq]) (by simp[Jq,V.rowB]) (by grind)
 rw[Dm,jd]at g';have jB:=(kp 0 jJ fun e=>by have:=(C8 hg 0 e).1;omega).trans hs;have qs:=(kp n jK jz).trans qp;have qd:=B8 g'
 have qq:n ∉ u'.refs:=fun e=>by
  grind
 have jU:n≠0:=fun e=>by omega
 have w1:IntKind.i64.wrap ((((X.take k).count y:Nat):Int)+1)=(((X.take k).count y+1:Nat):Int):=by rw[Bo AA];rfl
 have fb:∀ n:Int,(iV n).flatB=true:=fun _=>rfl
 have qJ:X.take k++[y]=X.take (k+1):=by rw[Ld,hy];rfl
 unfold Jq at ha;rcases Bhj qP y with⟨hf,h0⟩ | ⟨j,hf⟩
 .have qg:=Avb (s:=y) qP (Ap8 y (iV (((X.take k).count y+1:Nat):Int)) kvs 0 hf);rw[qJ]at qg;rw[h0]at ha w1 qg;rw[Int.natCast_zero]at ha w1;simp only[go_sem,Aq h3,Ak,hy];refine Ad AD ?_;simp only[go_sem,hs,qp,hf,Ak,hx,qc];simp only[go_sem,ha];refine Bd ?_;simp only[go_sem,qs,hf,w1,fb,Aw (show k<9223372036854775807 by omega)];exact Ai (jh (k+1,s'.set n (.map (kvs++[(y,iV 1)])),u',kvs++[(y,iV 1)]) AA ⟨h3,⟨Gt g' fun q hq=>B4 fun(e:n=q)=>qq (by grind),qq⟩,by grind,Cf AA,qg⟩) rfl
 .have qg:=Avb (s:=y) qP (by have:=(Asu y (iV (((X.take k).count y+1:Nat):Int)) kvs 0 j _ hf).2;rw[Ab5]at this;exact this);rw[qJ]at qg;simp only[go_sem,Aq h3,Ak,hy];refine Ad AD ?_;simp only[go_sem,hs,qp,hf,Ak,hx,qc];simp only[go_sem,ha];refine Bd ?_;simp only[go_sem,qs,hf,w1,fb,Aw (show k<9223372036854775807 by omega)];exact Ai (jh (k+1,s'.set n (.map (kvs.set j (y,iV (((X.take k).count y+1:Nat):Int)))),u',kvs.set j (y,iV (((X.take k).count y+1:Nat):Int))) AA ⟨h3,⟨Gt g' fun q hq=>B4 fun(e:n=q)=>qq (by grind),qq⟩,by grind,Cf AA,qg⟩) rfl
def Avc{keep:List Nat}{c:AC}{id:Nat}{k:List It}{e:Env}{σ:St}{Q:Env->St->Prop}(P:Env->St->Prop)(h1:∀ k',(∀ e σ,P e σ->W TT PT k' e σ Q)->W TT PT (.l keep c::.b id::k') e σ Q)(h2:∀ e σ,P e σ->W TT PT k e σ Q):W TT PT (.l keep c::.b id::k) e σ Q:=h1 k h2
structure PY (p:Gp):Prop where
 px:PX p
 sz:∀ t∈p.thrs,Sp.szs t.body<=4096
def Y6{p:Gp}(h:PX p):(G9 (H2 p)).length<=1000000000000:=by
 have h1:(G9 (H2 p)).length=(Im p).length:=Yk p.thrs;have h2:(Im p).length=_:=Aig p.thrs;have h3:=Zs h.sz;have h4:p.thrs.length*10000<=100000000*10000:=E4 _ h.few;omega
def Aqa{α β:Type}[DecidableEq α][DecidableEq β](P Q:List (β × List α))(i:Nat):(Ii (P.take i) Q).length<=(G9 P).length:=by
 rw[Ahm];exact Yv P i
def Acw{p:Gp}{i:Nat}{x:Tp}(h:p.thrs[i]?=some x):(H2 p)[i]?=some (x.nm,Sp.hdss x.body):=by
 grind[H2]
def Acj(p:Gp):(H2 p).length=p.thrs.length:=by grind[H2]
def Avd{α:Type}[DecidableEq α]{X Y:List α}{m:Nat}{v:Int}(h:(Du 0 X Y)[m]?=some v): -1<=v/\v<Y.length:=by
 rcases Ac9 X 0 Y m v h with rfl | ⟨k,rfl,h1,-⟩
 .omega
 .omega
def Aqb{b:Nat}{A:List Int}{m:Nat}{v:Int}(h:A[m]?=some v):Je b (A.take (m+1))=Je b (A.take m)++[if 0<=v then v+b else v]:=by
 grind[Je,List.take_add_one,Option.toList_some]
def Acx(a b:List Int):Ao (a++b)=Ao a++Ao b:=by grind[Ao]
structure MQ (p q:Gp) (s:St) (u:V) (L:List Int):Prop where
 gw:GW s 1 3 2 u (Ao L)
 s0:s[0]?=some (gO p)
 s1:s[1]?=some (gO q)
def Ak5{p q:Gp}{s:St}{u:V}{L:List Int}(h:MQ p q s u L):2<=s.length:=(An.1 h.s1).1
def Aj3{p q:Gp}{s:St}{u:V}{L:List Int}(h:MQ p q s u L)(l:St):MQ p q (s++l) u L:=⟨Ix h.gw,Bt h.s0,Bt h.s1⟩
def Ak6{p q:Gp}{s:St}{u:V}{L:List Int}(h:MQ p q s u L)(v:Int)(hb:L.length<=2000000000000):∃ u' s',Dx 8 (1,3) u (.lst 1 [[iV v]]) s=some (u',s')/\MQ p q s' u' (L++[v])/\u'.cellB=true:=by
 have hl:=Ak5 h;obtain⟨u',s',ha,g',l',kp,-,-⟩:=Ml (bytes:=8) (y:=.lst 1 [[iV v]]) (ys:=[[iV v]]) h.gw AA rfl AA (Ie _) AE AN (by grind[F8]);refine⟨u',s',ha,⟨?_,?_,?_⟩,B8 g'⟩
 .rw[Acx];exact g'
 .rw[kp 0 AA fun e=>by have:=(C8 h.gw 0 e).1;omega];exact h.s0
 .rw[kp 1 AA fun e=>by have:=(C8 h.gw 1 e).1;omega];exact h.s1
def Aw9{p q:Gp}{s:St}{u:V}{L:List Int}(h:MQ p q s u L):FR u s (SL true 0 (Ao L)):=Sn h.gw AA (Ie L) (Ph L)
set_option maxHeartbeats 4000000 in
def Aqc{p q:Gp}(hp:PY p)(hq:PY q):Fn TT PT 15 [.agg p.row,.agg q.row] (SL true 0 (Ao (Gl p q))):=by
 have ll:=Y6 hp.px;have lq:=Y6 hq.px;have jF:=hp.px.few;have jG:=hq.px.few;have qA:=Aif hp.px;have qB:=Aif hq.px;have ql:=Pv p;have jk:=Pv q;have qe:=Ef p;have jj:=Ef q;have jf:(p.thrs.map Co).length=p.thrs.length:=Av ..;have jg:(q.thrs.map Tp.row).length=q.thrs.length:=Av ..;rw[qe]at qA ql ⊢;rw[jj]at qB jk ⊢;refine Bg T15 rfl ?_;have m0:MQ p q [gO p,gO q] .nils []:=⟨Dr,rfl,rfl⟩;simp only[go_sem];refine Ad AD ?_;simp only[go_sem];refine Ax qA AB ?_;simp only[go_sem];refine Ax qB AB ?_;simp only[go_sem,jf];unfold Gl;generalize hP:H2 p=P at *;generalize hQ:H2 q=Q at *;refine Bb (α:=Nat × St × V) (fun a=>p.thrs.length - a.1) (fun a=>[(2,.ptr 0 0 0),(3,.ptr 1 0 0),(6,.lst 0 (q.thrs.map Co)),(7,a.2.2),(20,.lst 0 (p.thrs.map Co)),(21,iV (p.thrs.length:Int)),(22,iV (a.1:Int))]) (fun a=>a.2.1) (fun a=>a.1<=p.thrs.length/\MQ p q a.2.1 a.2.2 (Ii (P.take a.1) Q)) ?_ (0,_,.nils) ⟨As _,m0⟩;clear m0;rintro⟨i,s,u⟩ ⟨hi,hm⟩ ih;simp only at hi hm ih;refine Ay Bkb ?_;rcases Az i p.thrs.length with qm | qm;rotate_left
 .have qo:i=p.thrs.length:=by omega
  have qW:P.length=p.thrs.length:=by rw[<-hP,Acj]
  rw[qo,<-qW,Dh]at hm;simp only[go_sem,Bj qm];exact Aw9 hm
 obtain⟨x,hx,-,qN⟩:=Bk qm;have qR:=Pu x;have qX:P[i]?=some (x.nm,Sp.hdss x.body):=by rw[<-hP];exact Acw hx
 have qz:((Sp.hdss x.body).map fun x=>[V.str x]).length=(Sp.hdss x.body).length:=Av ..;have jt:(Sp.hdss x.body).length<=4096:=by rw[Jb];exact hp.sz x qN
 have qr:Co x=[SL true 0 ((Sp.hdss x.body).map fun x=>[V.str x])]:=rfl;have qn:=An3 Q qX;generalize hX:Sp.hdss x.body=X at *;have i1:IntKind.i64.wrap ((i:Int)+1)=((i+1:Nat):Int):=Aw AA;have qd:=B8 hm.gw;have qH:=hm.s0;have qj:=hm.s1;simp only[go_sem,Aq qm,Ak,hx,qr,qj,jg];refine Avc (fun e s'=>∃ (k:Nat) (v:V) (b:Nat) (Y:List (List UInt8)),e=[(2,.ptr 0 0 0),(3,.ptr 1 0 0),(6,.lst 0 (q.thrs.map Co)),(7,u),(8,iV (i:Int)),(9,SL true 0 (X.map fun x=>[V.str x])),(10,iV (b:Int)),(11,v),(20,.lst 0 (p.thrs.map Co)),(21,iV (p.thrs.length:Int)),(22,iV (i:Int)),(28,SL q.tz q.tt (q.thrs.map Tp.row)),(29,iV (q.thrs.length:Int)),(30,iV (k:Int))]/\v=SL true 0 (Y.map fun x=>[V.str x])/\Y.length<=4096/\b<=(G9 Q).length/\Jo (x.nm,X) Q=Je b (Du 0 X Y)/\MQ p q s' u (Ii (P.take i) Q)) ?_ ?_
 .intro k' jw;refine Bb (α:=Nat × St) (fun a=>q.thrs.length - a.1) (fun a=>[(2,.ptr 0 0 0),(3,.ptr 1 0 0),(6,.lst 0 (q.thrs.map Co)),(7,u),(8,iV (i:Int)),(9,SL true 0 (X.map fun x=>[V.str x])),(10,iV ((Gd Q a.1:Nat):Int)),(11,.nils),(20,.lst 0 (p.thrs.map Co)),(21,iV (p.thrs.length:Int)),(22,iV (i:Int)),(28,SL q.tz q.tt (q.thrs.map Tp.row)),(29,iV (q.thrs.length:Int)),(30,iV (a.1:Int))]) (fun a=>a.2) (fun a=>a.1<=q.thrs.length/\Np x.nm Q a.1/\MQ p q a.2 u (Ii (P.take i) Q)) ?_ (0,s) ⟨As _,Arl _ _,hm⟩;clear hm qH qj;clear s;rintro⟨k,s⟩ ⟨hk,qf,hm⟩ kh;simp only at hk qf hm kh;refine Ay Bj9 ?_;rcases Az k q.thrs.length with h' | h';rotate_left
  .have jc:k=Q.length:=by rw[<-hQ,Acj];omega
   rw[jc]at qf;have:=(Apt (s:=X) qf).2;simp only[go_sem,Bj h'];exact jw _ _ ⟨k,.nils,Gd Q k,[],rfl,by simp[SL],by simp,Yv Q k,by grind,hm⟩
  obtain⟨y,hy,-,qO⟩:=Bk h';have qw:=Pu y;have qy:Q[k]?=some (y.nm,Sp.hdss y.body):=by rw[<-hQ];exact Acw hy
  have qC:((Sp.hdss y.body).map fun x=>[V.str x]).length=(Sp.hdss y.body).length:=Av ..;have qS:(Sp.hdss y.body).length<=4096:=by rw[Jb];exact hq.sz y qO
  have qi:Co y=[SL true 0 ((Sp.hdss y.body).map fun x=>[V.str x])]:=rfl;have qF:=Aho qy;have jx:=Yv Q k;simp only at qF;generalize hY:Sp.hdss y.body=Y at *;have qh:=Ak5 hm;have k1:IntKind.i64.wrap ((k:Int)+1)=((k+1:Nat):Int):=Aw AA;have w1:IntKind.i64.wrap (((Gd Q k:Nat):Int)+(Y.length:Int))=((Gd Q (k+1):Nat):Int):=by rw[qF,Bo AA];rfl
  have qb:=Aj3 hm [tO y];obtain⟨s',e'⟩:∃ s':St,s'=s++[tO y]:=⟨_,rfl⟩;have qx:s'[s.length]?=some (tO y):=by rw[e'];simp
  rw[<-e']at qb;have jl:=qb.s0;by_cases e:y.nm=x.nm
  .have f1:(y.nm==x.nm)=true:=by simp[e]
   simp only[go_sem,Aq h',Ak,hy,qw];rw[<-e'];refine Ad AD ?_;simp only[go_sem,qx,jl,Ak,hx,qR];simp only[go_sem,f1,Ak,hy,qi];exact jw _ _ ⟨k,_,Gd Q k,Y,rfl,rfl,qS,jx,Arn qf qy e,qb⟩
  .have f1:(y.nm==x.nm)=false:=by simp[e]
   simp only[go_sem,Aq h',Ak,hy,qw];rw[<-e'];refine Ad AD ?_;simp only[go_sem,qx,jl,Ak,hx,qR];simp only[go_sem,f1,Ak,hy,qi,qC,w1,k1];exact Ai (kh (k+1,s') AA ⟨h',Arm qf qy e,qb⟩) rfl
 clear hm qH qj;clear s;rintro _ s ⟨k,v,b,Y,rfl,rfl,qC,hb,qk,hm⟩;have qa:=A7e true true 0 0 X Y jt qC;have qU:(Du 0 X Y).length=X.length:=Zg X 0 Y;generalize hA:Du 0 X Y=A at *;have qV:(Ao A).length=X.length:=by rw[F8,qU]
 simp only[go_sem];refine Ab qa AB ?_;simp only[go_sem,qV];refine Bb (α:=Nat × St × V) (fun a=>X.length - a.1) (fun a=>[(2,.ptr 0 0 0),(3,.ptr 1 0 0),(6,.lst 0 (q.thrs.map Co)),(7,a.2.2),(10,iV (b:Int)),(20,.lst 0 (p.thrs.map Co)),(21,iV (p.thrs.length:Int)),(22,iV (i:Int)),(58,.lst 0 (Ao A)),(59,iV (X.length:Int)),(60,iV (a.1:Int))]) (fun a=>a.2.1) (fun a=>a.1<=X.length/\MQ p q a.2.1 a.2.2 (Ii (P.take i) Q++Je b (A.take a.1))) ?_ (0,s,u) ⟨As _,by grind[Je]⟩;clear hm qd;clear s u;rintro⟨m,s,u⟩ ⟨qI,hm⟩ mh;simp only at qI hm mh;refine Ay Bka ?_;rcases Az m X.length with h' | h';rotate_left
 .have qG:m=A.length:=by omega
  rw[qG,Dh,<-qk,<-qn]at hm;simp only[go_sem,Bj h',i1];exact Ai (ih (i+1,s,u) AA ⟨qm,hm⟩) rfl
 obtain⟨v,hv⟩:∃ v,A[m]?=some v:=⟨_,Cb AA⟩;have jR:=Avd (X:=X) (Y:=Y) (m:=m) (by rw[hA];exact hv);have qM:(Ao A)[m]?=some [iV v]:=by unfold Ao;rw[Ak,hv];rfl
 have jn:=Aqb (b:=b) hv;have m1:IntKind.i64.wrap ((m:Int)+1)=((m+1:Nat):Int):=Aw AA;have jL:=Aqa P Q i
 obtain⟨w,hw⟩:∃ w:Int,w=if 0<=v then v+b else v:=⟨_,rfl⟩
 obtain⟨u',s',ha,qb,ju⟩:=Ak6 hm w (by grind[Je]);rw[Dm,hw,<-jn]at qb;by_cases h0:0<=v
 .have f1:decide (0<=v)=true:=by simp[h0]
  have f2:IntKind.i64.wrap (v+(b:Int))=w:=by rw[hw,if_pos h0,Bo AA]
  simp only[go_sem,Aq h',qM,f1,f2,ha,m1];exact Ai (mh (m+1,s',u') AA ⟨h',qb⟩) rfl
 .have f1:decide (0<=v)=false:=by simp[h0]
  have f2:w=v:=by rw[hw,if_neg h0]
  rw[f2]at ha;simp only[go_sem,Aq h',qM,f1,ha,m1];exact Ai (mh (m+1,s',u') AA ⟨h',qb⟩) rfl
def A4a{q:Gp}{j:Nat}{r:List UInt8 × List (List UInt8)}(h:(H2 q)[j]?=some r):∃ y,q.thrs[j]?=some y/\r=(y.nm,Sp.hdss y.body):=by
 unfold H2 at h
 grind
set_option maxHeartbeats 8000000 in
def A4b{p q:Gp}(hp:PY p)(hq:PY q):Fn TT PT 24 [.agg p.row,.agg q.row] (SL true 0 (Ao (Gl p q))):=by
 have ll:=Y6 hp.px;have lq:=Y6 hq.px;have jF:=hp.px.few;have jG:=hq.px.few;obtain⟨zp,qA⟩:=Aie hp.px;obtain⟨zq,qB⟩:=Aie hq.px;have ql:=Pv p;have jk:=Pv q;have qe:=Ef p;have jj:=Ef q;have jf:(p.thrs.map Tp.row).length=p.thrs.length:=Av ..;have jg:(q.thrs.map Tp.row).length=q.thrs.length:=Av ..;rw[qe]at qA ql ⊢;rw[jj]at qB jk ⊢;refine Bg T24 rfl ?_;have m0:MQ p q [gO p,gO q] .nils []:=⟨Dr,rfl,rfl⟩;simp only[go_sem];refine Ad AD ?_;simp only[go_sem];refine Ax qA AB ?_;simp only[go_sem];refine Ax qB AB ?_;simp only[go_sem,jf];unfold Gl;generalize hP:H2 p=P at *;generalize hQ:H2 q=Q at *;refine Bb (α:=Nat × St × V) (fun a=>p.thrs.length - a.1) (fun a=>[(3,.ptr 1 0 0),(5,SL zp 0 (p.thrs.map Co)),(6,SL zq 0 (q.thrs.map Co)),(7,a.2.2),(21,SL p.tz p.tt (p.thrs.map Tp.row)),(22,iV (p.thrs.length:Int)),(23,iV (a.1:Int))]) (fun a=>a.2.1) (fun a=>a.1<=p.thrs.length/\MQ p q a.2.1 a.2.2 (Ii (P.take a.1) Q)) ?_ (0,_,.nils) ⟨As _,m0⟩;clear m0;rintro⟨i,s,u⟩ ⟨hi,hm⟩ ih;simp only at hi hm ih;refine Ay Bkl ?_;rcases Az i p.thrs.length with qm | qm;rotate_left
 .have qo:i=p.thrs.length:=by omega
  have qW:P.length=p.thrs.length:=by rw[<-hP,Acj]
  rw[qo,<-qW,Dh]at hm;simp only[go_sem,Bj qm];exact Aw9 hm
 obtain⟨x,hx,-,qN⟩:=Bk qm;have qR:=Pu x;have qX:P[i]?=some (x.nm,Sp.hdss x.body):=by rw[<-hP];exact Acw hx
 have qz:((Sp.hdss x.body).map fun x=>[V.str x]).length=(Sp.hdss x.body).length:=Av ..;have jt:(Sp.hdss x.body).length<=4096:=by rw[Jb];exact hp.sz x qN
 have qr:Co x=[SL true 0 ((Sp.hdss x.body).map fun x=>[V.str x])]:=rfl;have qn:=An3 Q qX;generalize hX:Sp.hdss x.body=X at *;have i1:IntKind.i64.wrap ((i:Int)+1)=((i+1:Nat):Int):=Aw AA;have qh:=Ak5 hm;have qb:=Aj3 hm [tO x];obtain⟨s',e'⟩:∃ s':St,s'=s++[tO x]:=⟨_,rfl⟩;have k9:s'[s.length]?=some (tO x):=by rw[e'];simp
 rw[<-e']at qb;have qj:(s++([tO x]:St))[1]?=some (gO q):=by rw[<-e'];exact qb.s1
 simp only[go_sem,Aq qm,Ak,hx,qR,qj,jg];rw[<-e'];clear qj hm e';generalize s.length=n9 at *;clear qh;clear s;refine Bb (α:=Nat × St × Int × Nat) (fun a=>q.thrs.length - a.1) (fun a=>[(3,.ptr 1 0 0),(5,SL zp 0 (p.thrs.map Co)),(6,SL zq 0 (q.thrs.map Co)),(7,u),(8,iV (i:Int)),(9,.ptr n9 0 0),(10,iV (a.2.2.2:Int)),(11,iV a.2.2.1),(21,SL p.tz p.tt (p.thrs.map Tp.row)),(22,iV (p.thrs.length:Int)),(23,iV (i:Int)),(29,SL q.tz q.tt (q.thrs.map Tp.row)),(30,iV (q.thrs.length:Int)),(31,iV (a.1:Int))]) (fun a=>a.2.1) (fun a=>a.1<=q.thrs.length/\FoundR x.nm Q a.1 a.2.2.1 a.2.2.2/\MQ p q a.2.1 u (Ii (P.take i) Q)/\a.2.1[n9]?=some (tO x)) ?_ (0,s',-1,0) ⟨As _,A1e _ _,qb,k9⟩;clear qb k9;clear s';rintro⟨k,s,f,b⟩ ⟨hk,hf,hm,k9⟩ kh;simp only at hk hf hm k9 kh;refine Ay Bki ?_;rcases Az k q.thrs.length with h' | h'
 .obtain⟨y,hy,-,qO⟩:=Bk h';have qw:=Pu y;have qy:Q[k]?=some (y.nm,Sp.hdss y.body):=by rw[<-hQ];exact Acw hy
  have qC:((Sp.hdss y.body).map fun x=>[V.str x]).length=(Sp.hdss y.body).length:=Av ..;have qS:(Sp.hdss y.body).length<=4096:=by rw[Jb];exact hq.sz y qO
  have qi:Co y=[SL true 0 ((Sp.hdss y.body).map fun x=>[V.str x])]:=rfl;have jx:=Yv Q k;generalize hY:Sp.hdss y.body=Y at *;have k1:IntKind.i64.wrap ((k:Int)+1)=((k+1:Nat):Int):=Aw AA;have qb:=Aj3 hm [tO y];obtain⟨s',e'⟩:∃ s':St,s'=s++[tO y]:=⟨_,rfl⟩;have qx:(s++([tO y]:St))[s.length]?=some (tO y):=by simp
  have qt:(s++([tO y]:St))[n9]?=some (tO x):=Bt k9
  cases hf with
  | no qf=>
   have qF:=Aho qy;simp only at qF;have w1:IntKind.i64.wrap (((Gd Q k:Nat):Int)+(Y.length:Int))=((Gd Q (k+1):Nat):Int):=by rw[qF,Bo AA];rfl
   by_cases e:y.nm=x.nm
   .have f1:(x.nm==y.nm)=true:=by simp[e]
    have f2:((k:Int)<0)=False:=eq_false AA;simp only[go_sem,Aq h',Ak,hy,qw,qx,qt,f1,f2,k1];exact Ai (kh (k+1,_,(k:Int),Gd Q k) AA ⟨h',A25 qf qy e,qb,qt⟩) rfl
   .have f1:(x.nm==y.nm)=false:=by simp;exact fun h=>e h.symm
    simp only[go_sem,Aq h',Ak,hy,qw,qx,qt,f1,qi,qC,w1,k1];exact Ai (kh (k+1,_,-1,Gd Q (k+1)) AA ⟨h',by grind[A1g],qb,qt⟩) rfl
  | @yes j r hjk qf hr hrn=>
   have f2:((j:Int)<0)=False:=eq_false AA;have hF:=A1f (.yes hjk qf hr hrn);by_cases e:y.nm=x.nm
   .have f1:(x.nm==y.nm)=true:=by simp[e]
    simp only[go_sem,Aq h',Ak,hy,qw,qx,qt,f1,f2,k1];exact Ai (kh (k+1,_,(j:Int),Gd Q j) AA ⟨h',hF,qb,qt⟩) rfl
   .have f1:(x.nm==y.nm)=false:=by simp;exact fun h=>e h.symm
    simp only[go_sem,Aq h',Ak,hy,qw,qx,qt,f1,f2,k1];exact Ai (kh (k+1,_,(j:Int),Gd Q j) AA ⟨h',hF,qb,qt⟩) rfl
 have jc:k=Q.length:=by rw[<-hQ,Acj];omega
 have jL:=Aqa P Q i;clear kh k9
 cases hf with
 | no qf=>
  rw[jc]at qf;have qk:=(Apt (s:=X) qf).1;simp only[go_sem,Bj h',Ak,hx,qr,qz];refine Bb (α:=Nat × St × V) (fun a=>X.length - a.1) (fun a=>[(3,.ptr 1 0 0),(5,SL zp 0 (p.thrs.map Co)),(6,SL zq 0 (q.thrs.map Co)),(7,a.2.2),(21,SL p.tz p.tt (p.thrs.map Tp.row)),(22,iV (p.thrs.length:Int)),(23,iV (i:Int)),(62,iV (X.length:Int)),(63,iV (a.1:Int))]) (fun a=>a.2.1) (fun a=>a.1<=X.length/\MQ p q a.2.1 a.2.2 (Ii (P.take i) Q++List.replicate a.1 (-1))) ?_ (0,s,u) ⟨As _,by grind⟩;clear hm;clear s u;rintro⟨m,s,u⟩ ⟨qI,hm⟩ mh;simp only at qI hm mh;refine Ay Bkj ?_;rcases Az m X.length with h2 | h2
  .obtain⟨u',s',ha,qb,ju⟩:=Ak6 hm (-1) (by grind);rw[Dm,<-List.replicate_succ']at qb;have m1:IntKind.i64.wrap ((m:Int)+1)=((m+1:Nat):Int):=Aw AA;simp only[go_sem,Aq h2,ha,m1];exact Ai (mh (m+1,s',u') AA ⟨h2,qb⟩) rfl
  .have qG:m=X.length:=by omega
   rw[qG,<-qk,<-qn]at hm;simp only[go_sem,Bj h2,i1];exact Ai (ih (i+1,s,u) AA ⟨qm,hm⟩) rfl
 | @yes j r hjk qf hr hrn=>
  have jA:=hr;rw[<-hQ]at jA;obtain⟨y,hy,rfl⟩:=A4a jA;have qO:=Hg hy;have qS:(Sp.hdss y.body).length<=4096:=by rw[Jb];exact hq.sz y qO
  have qi:Co y=[SL true 0 ((Sp.hdss y.body).map fun x=>[V.str x])]:=rfl;have qk:=Arn (s:=X) qf hr hrn;have hb:=Yv Q j;simp only at qk;generalize hY:Sp.hdss y.body=Y at *;generalize Gd Q j=b at *;have qa:=Bby true true 0 0 X Y jt qS;have qU:(Du 0 X Y).length=X.length:=Zg X 0 Y;generalize hA:Du 0 X Y=A at *;have qV:(Ao A).length=X.length:=by rw[F8,qU]
  have f2:((j:Int)<0)=False:=eq_false AA;simp only[go_sem,Bj h',f2];refine Ad AD ?_;simp only[go_sem,Ak,hx,qr,hy,qi];refine Ax qa AB ?_;simp only[go_sem,qV];refine Bb (α:=Nat × St × V) (fun a=>X.length - a.1) (fun a=>[(3,.ptr 1 0 0),(5,SL zp 0 (p.thrs.map Co)),(6,SL zq 0 (q.thrs.map Co)),(7,a.2.2),(10,iV (b:Int)),(21,SL p.tz p.tt (p.thrs.map Tp.row)),(22,iV (p.thrs.length:Int)),(23,iV (i:Int)),(77,.lst 0 (Ao A)),(78,iV (X.length:Int)),(79,iV (a.1:Int))]) (fun a=>a.2.1) (fun a=>a.1<=X.length/\MQ p q a.2.1 a.2.2 (Ii (P.take i) Q++Je b (A.take a.1))) ?_ (0,s,u) ⟨As _,by grind[Je]⟩;clear hm;clear s u;rintro⟨m,s,u⟩ ⟨qI,hm⟩ mh;simp only at qI hm mh;refine Ay Bkk ?_;rcases Az m X.length with h2 | h2;rotate_left
  .have qG:m=A.length:=by omega
   rw[qG,Dh,<-qk,<-qn]at hm;simp only[go_sem,Bj h2,i1];exact Ai (ih (i+1,s,u) AA ⟨qm,hm⟩) rfl
  obtain⟨v,hv⟩:∃ v,A[m]?=some v:=⟨_,Cb AA⟩;have jR:=Avd (X:=X) (Y:=Y) (m:=m) (by rw[hA];exact hv);have qM:(Ao A)[m]?=some [iV v]:=by unfold Ao;rw[Ak,hv];rfl
  have jn:=Aqb (b:=b) hv;have m1:IntKind.i64.wrap ((m:Int)+1)=((m+1:Nat):Int):=Aw AA
  obtain⟨w,hw⟩:∃ w:Int,w=if 0<=v then v+b else v:=⟨_,rfl⟩
  obtain⟨u',s',ha,qb,ju⟩:=Ak6 hm w (by grind[Je]);rw[Dm,hw,<-jn]at qb;by_cases h0:0<=v
  .have f1:decide (0<=v)=true:=by simp[h0]
   have f2:IntKind.i64.wrap (v+(b:Int))=w:=by rw[hw,if_pos h0,Bo AA]
   simp only[go_sem,Aq h2,qM,f1,f2,ha,m1];exact Ai (mh (m+1,s',u') AA ⟨h2,qb⟩) rfl
  .have f1:decide (0<=v)=false:=by simp[h0]
   have f2:w=v:=by rw[hw,if_neg h0]
   rw[f2]at ha;simp only[go_sem,Aq h2,qM,f1,ha,m1];exact Ai (mh (m+1,s',u') AA ⟨h2,qb⟩) rfl
def Ae8(nm:List UInt8):List (List UInt8)->List (List UInt8)->List Bp
 | _,[]=>[]
 | P,x::X=>(nm,x,(P.count x:Int))::Ae8 nm (P++[x]) X
theorem Ave(nm:List UInt8):∀ (X P:List (List UInt8)),Gf nm P X=(Ae8 nm P X).map Bl
 | [],_=>rfl
 | x::X,P=>by rw[Gf,Ae8,Bh,Ave nm X];rfl
def Cq(p:Gp):List Bp:=(p.thrs.map fun t=>Ae8 t.nm [] (Sp.hdss t.body)).flatten
theorem Zt(p:Gp):Im p=(Cq p).map Bl:=by
 grind[Im,Cq,List.map_congr_left,Ave]
theorem Acy(p:Gp):(Cq p).length=(Im p).length:=by grind[Zt]
def Ent.tri(x:Ent):(Int × List Bp) × Int × Int:=(x.ks,x.seen,x.missed)
def Nt(x e:Ent):Ent:={ x with seen:=max x.seen e.seen,missed:=min x.missed e.missed }
theorem Bcm(x e:Ent):(Nt x e).tri=Ij x.tri e.tri:=rfl
def J4(out:List Ent)(e:Ent):List Ent:=match out.getLast? with
 | some x=>if Bs x e<0 then out++[e] else out.dropLast++[Nt x e]
 | none=>[e]
def A4c(out:List Ent)(e:Ent):(J4 out e).map Ent.tri=So Dk (out.map Ent.tri) e.tri:=by
 unfold J4 So;rw[List.getLast?_map]
 cases h:out.getLast? with
 | none=>rfl
 | some x=>
  simp only[I9];have e1:Dk x.tri.1 e.tri.1=Bs x e:=rfl
  grind[Bcm]
def Aqd:∀ (S out:List Ent),(S.foldl J4 out).map Ent.tri=(S.map Ent.tri).foldl (So Dk) (out.map Ent.tri)
 | [],_=>rfl
 | e::S,out=>by rw[Rj,Aqd S,A4c,Bh,Rj]
def Db(out:List Ent)(y:Ent):List Ent:=if Lg y out=true then out.modify (Gc y out) (fun x=>Nt x y) else out.take (Gc y out)++y::out.drop (Gc y out)
def Asx(y:Ent):∀ out:List Ent,(Db out y).map Ent.tri=En Dk y.tri (out.map Ent.tri)
 | []=>by
  unfold Db;rw[if_neg (by simp[Lg])];rfl
 | x::out=>by
  have ih:=Asx y out;have e1:Dk x.tri.1 y.tri.1=Bs x y:=rfl;rw[Bh,En,e1];by_cases h:Bs x y<0
  .rw[if_pos h,<-ih];have hp:Gc y (x::out)=Gc y out+1:=by rw[Gc,if_pos h]
   grind[Lg,Db]
  .have hp:Gc y (x::out)=0:=by rw[Gc,if_neg h]
   rw[if_neg h];by_cases h2:x.tri.1=y.tri.1
   .have ht:Lg y (x::out)=true:=by
     unfold Lg;rw[hp];have:Bs x y=0:=(lin_p.zero _ _).2 h2;simp[this]
    rw[if_pos h2];unfold Db;rw[if_pos ht,hp];rfl
   .have ht:Lg y (x::out)=false:=by
     unfold Lg;rw[hp];have:Bs x y≠0:=fun e=>h2 ((lin_p.zero _ _).1 e)
     simp[this]
    simp_all [Db]
def Asy:∀ (L out:List Ent),(L.foldl Db out).map Ent.tri=(L.map Ent.tri).foldl (fun s y=>En Dk y s) (out.map Ent.tri)
 | [],_=>rfl
 | e::L,out=>by rw[Rj,Asy L,Asx,Bh,Rj]
def Lc(l:List Ent):Prop:=∀ x∈l,x.own=x
theorem Asz{x e:Ent}(h:x.own=x):(Nt x e).own=Nt x e:=by
 obtain⟨a,b,c,d,z,t⟩:=x;unfold Ent.own at h;simp only[Ent.mk.injEq]at h;obtain⟨-,-,-,-,rfl,rfl⟩:=h;rfl
def A71{out:List Ent}{e:Ent}(h:Lc out)(he:e.own=e):Lc (J4 out e):=by
 unfold J4
 split
 .rename_i x hx;have qN:x∈out:=List.mem_of_getLast? hx
  split
  .intro y hy;rcases Cs.1 hy with hy | hy
   .exact h y hy
   grind
  .intro y hy;rcases Cs.1 hy with hy | hy
   .exact h y (List.dropLast_subset _ hy)
   .rw[Hh.1 hy];exact Asz (h x qN)
 .intro y hy
  grind
def Aqe:∀ {S out:List Ent},Lc out->Lc S->Lc (S.foldl J4 out)
 | [],_,h,_=>h
 | e::S,out,h,hs=>Aqe (S:=S) (out:=J4 out e) (A71 h (hs e Cz)) fun x hx=>hs x (Dl _ hx)
def Bcn{out:List Ent}{y:Ent}(h:Lc out)(hy:y.own=y):Lc (Db out y):=by
 unfold Db
 split
 .intro x hx;obtain⟨i,hi⟩:=List.mem_iff_getElem?.1 hx;rw[List.getElem?_modify]at hi
  cases hg:out[i]? with
  | none=>grind
  | some y0=>
   rw[hg]at hi;have hm:=h y0 (Hg hg)
   grind[Asz]
 .intro x hx;rcases Cs.1 hx with hx | hx
  .exact h x (Nu hx)
  .rcases B7.1 hx with rfl | hx
   .exact hy
   .exact h x (Xx hx)
def Adj:∀ {L out:List Ent},Lc out->Lc L->Lc (L.foldl Db out)
 | [],_,h,_=>h
 | e::L,out,h,hs=>Adj (L:=L) (out:=Db out e) (Bcn h (hs e Cz)) fun x hx=>hs x (Dl _ hx)
def Bco{x y:Ent}(hx:x.own=x)(hy:y.own=y)(h:x.tri=y.tri):x=y:=by
 grind[Ent.own,Ent.tri,Ent.ks]
def As0:∀ {a b:List Ent},Lc a->Lc b->a.map Ent.tri=b.map Ent.tri->a=b
 | [],[],_,_,_=>rfl
 | [],_::_,_,_,h=>by simp at h
 | _::_,[],_,_,h=>by simp at h
 | x::a,y::b,ha,hb,h=>by
  rw[Bh,Bh,List.cons.injEq]at h;rw[Bco (ha x Cz) (hb y Cz) h.1,As0 (fun z hz=>ha z (Dl _ hz)) (fun z hz=>hb z (Dl _ hz)) h.2]
def A72{L S:List Ent}(ho:Lc L)(hp:S.Perm L)(hs:S.Pairwise fun x y=>¬ Bs y x<0):S.foldl J4 []=L.foldl Db []:=by
 have jM:Lc S:=fun x hx=>ho x (hp.mem_iff.1 hx)
 refine As0 (Aqe (fun x hx=>by cases hx) jM) (Adj (fun x hx=>by cases hx) ho) ?_;rw[Aqd,Asy]
 have h:=Bof (c:=Dk) lin_p (L:=L.map Ent.tri) (S:=S.map Ent.tri) (hp.symm.map _) (by
  rw[List.pairwise_map]
  exact hs.imp fun h=>h)
 grind[Amx]
/-! an entry carried over -/
def Ir(kind:Int)(ns:List Int):List Int:=if kind=1 then Jk ns else if kind=2 then M7 (fun x y=>decide (H8 Lib.compareInt x y<0)) ns (List.range ns.length) ns else ns
def sI(K:List Bp)(k:Bp):Int:=match Lr K k with
 | some s=>(s:Int)
 | none => -1
theorem Axa{K:List Bp}{k:Bp}{i:Nat}(h:K[i]?=some k)(hn:∀ j,j<i->K[j]?≠some k):sI K k=(i:Int):=by
 unfold sI;rw[Vt.2 ⟨h,hn⟩]
def Avf{K:List Bp}{k:Bp}(hn:∀ j,j<K.length->K[j]?≠some k):sI K k = -1:=by
 grind[sI,A11]
def Afw(k x:Bp):Aaw [2,2,1] (.agg (kR k)) (.agg (kR x))=some (decide (k=x)):=by
 obtain⟨a,b,c⟩:=k;obtain⟨a',b',c'⟩:=x;simp only[Aaw,Be,Dn,and_self,if_true,Lk,eqS,C5,Prod.mk.injEq]
 grind
def A73(z:Bool)(t:Nat)(K:List Bp)(k:Bp)(hK:K.length<=1000000000000):Fn TT PT 79 [SL z t (K.map Bl),.agg (kR k)] (iV (sI K k)):=by
 have hl:(K.map Bl).length=K.length:=Av ..;refine Bg T79 rfl ?_;simp only[go_sem,hl];refine Bb (α:=Nat) (fun i=>K.length - i) (fun i=>[(0,SL z t (K.map Bl)),(3,.ptr 0 0 0),(7,iV (K.length:Int)),(8,iV (i:Int))]) (fun _=>[.row (kR k) 57 0 0]) (fun i=>i<=K.length/\∀ j,j<i->K[j]?≠some k) ?_ 0 ⟨As _,fun j hj=>by omega⟩;rintro i ⟨hi,hn⟩ ih;refine Ay Blr ?_;rcases Az i K.length with h' | h'
 .obtain⟨x,hx,-,-⟩:=Bk h';have i1:IntKind.i64.wrap ((i:Int)+1)=((i+1:Nat):Int):=Aw AA;by_cases e:k=x
  .have f1:decide (k=x)=true:=decide_eq_true e;simp only[go_sem,Aq h'];refine Ad AD ?_;simp only[go_sem,Ak,hx,Bl,Afw,f1];exact Ae rfl (by rw[Axa (by grind) hn])
  .have f1:decide (k=x)=false:=decide_eq_false e;simp only[go_sem,Aq h'];refine Ad AD ?_;simp only[go_sem,Ak,hx,Bl,Afw,f1];simp only[go_sem,i1]
   exact Ai (ih (i+1) AA ⟨h',fun j hj=>by
    grind⟩) rfl
 .simp only[go_sem,Bj h'];have:i=K.length:=by omega
  subst this;exact Ae rfl (by rw[Avf hn])
def Bcp{p:Gp}(h:PX p)(k:Bp)(hK:(Cq p).length<=1000000000000):Fn TT PT 46 [.agg p.row,.agg (kR k)] (iV (sI (Cq p) k)):=by
 have hk:=Asw h;rw[Zt]at hk;have hi:=A73 true 0 (Cq p) k hK;have qe:=Ef p;rw[qe]at hk ⊢;refine Bg T46 rfl ?_;simp only[go_sem];refine Ad AD ?_;simp only[go_sem];refine Ax hk AB ?_;simp only[go_sem];refine Ax hi AB ?_;simp only[go_sem];exact Ae rfl rfl
set_option maxHeartbeats 1000000 in
def A4d{p:Gp}(h:PX p)(k:Bp)(hK:(Cq p).length<=1000000000000):Fn TT PT 55 [.agg p.row,.agg (kR k)] (iV (sI (Cq p) k)):=by
 have hk:=Asv h;rw[Zt]at hk;have qe:=Ef p;rw[qe]at hk ⊢;generalize Cq p=K at *;have hl:(K.map Bl).length=K.length:=Av ..;refine Bg T55 rfl ?_;simp only[go_sem];refine Ab hk AB ?_;simp only[go_sem,hl];refine Bb (α:=Nat × St) (fun a=>K.length - a.1) (fun a=>[(3,.ptr 1 0 0),(8,SL true 0 (K.map Bl)),(9,iV (K.length:Int)),(10,iV (a.1:Int))]) (fun a=>gO p::.row (kR k) 57 0 0::a.2) (fun a=>a.1<=K.length/\∀ j,j<a.1->K[j]?≠some k) ?_ (0,[]) ⟨As _,fun j hj=>by omega⟩;rintro⟨i,s⟩ ⟨hi,hn⟩ ih;simp only at hi hn ih;refine Ay Bla ?_;rcases Az i K.length with h' | h'
 .obtain⟨x,hx,-,-⟩:=Bk h';have i1:IntKind.i64.wrap ((i:Int)+1)=((i+1:Nat):Int):=Aw AA;by_cases e:x=k
  .have f1:decide (x=k)=true:=decide_eq_true e;simp only[go_sem,Aq h',Ak,hx,Bl,Afw,f1];exact Ae rfl (by grind[Axa])
  .have f1:decide (x=k)=false:=decide_eq_false e;simp only[go_sem,Aq h',Ak,hx,Bl,Afw,f1,i1]
   exact Ai (ih (i+1,_) AA ⟨h',fun j hj=>by
    grind⟩) rfl
 .simp only[go_sem,Bj h'];have:i=K.length:=by omega
  subst this;exact Ae rfl (by rw[Avf hn])
