/- Walks: the first lines of statements. -/
import Derived.Test.YtphikjgngompaaaGreatDoorLu
set_option linter.all false
namespace Go.Proofs.YtphikjgngompaaaGreatDoor.KM
open Go
def Au4(X:List (List UInt8)):∀ r∈X.map fun x=>[V.str x],r.length=1:=fun r hr=>by grind
def Au5(X:List (List UInt8)):∀ r∈X.map fun x=>[V.str x],r.all V.rowB=true:=fun r hr=>by obtain⟨x,-,rfl⟩:=Cy.1 hr;rfl
structure GL (lo:Nat) (σ τ:St) (u v:V) (X:List (List UInt8)):Prop where
 len:σ.length<=τ.length
 g:GW τ 1 9 lo v (X.map fun x=>[V.str x])
 kp:∀ j,j<σ.length->j ∉ u.refs->τ[j]?=σ[j]?
 rf:∀ j∈v.refs,j∈u.refs\/σ.length<=j
 cl:Cl τ
def Axu{lo:Nat}{σ:St}{u:V}{X:List (List UInt8)}(h:GW σ 1 9 lo u (X.map fun x=>[V.str x]))(hc:Cl σ):GL lo σ σ u u X:=⟨Ak _,h,fun _ _ _=>rfl,fun _ hj=>.inl hj,hc⟩
def Aas{lo:Nat}{σ τ υ:St}{u v w:V}{X Y:List (List UInt8)}(h:GL lo σ τ u v X)(h':GL lo τ υ v w Y):GL lo σ υ u w Y:=by
 refine⟨C9 h.len h'.len,h'.g,fun j hj hn=>?_,fun j hj=>?_,h'.cl⟩
 .rw[h'.kp j (by have:=h.len;omega) fun e=>?_,h.kp j hj hn];rcases h.rf j e with h2 | h2
  .grind
  .omega
 .rcases h'.rf j hj with h2 | h2
  .exact h.rf j h2
  .exact .inr (by have:=h.len;omega)
def Axv{lo:Nat}{σ τ:St}{u v:V}{X:List (List UInt8)}(h:GL lo σ τ u v X)(l:St)(hc:Cl (τ++l)):GL lo σ (τ++l) u v X:=
 ⟨by rw[Ar];have:=h.len;omega,Gm h.g,fun j hj hn=>by rw[Eb (by have:=h.len;omega)];exact h.kp j hj hn,h.rf,hc⟩
def Azt{lo:Nat}{σ τ:St}{u v:V}{X:List (List UInt8)}(h:GL lo σ τ u v X)(qj:lo<=σ.length)(s:List UInt8)(hb:X.length<=1000000000):∃ v' τ',Dv 16 (1,9) v (.lst 1 [[.str s]]) τ=some (v',τ')/\v'.cellB=true/\GL lo σ τ' u v' (X++[s])/\∀ j,j<τ.length->j ∉ v.refs->τ'[j]?=τ[j]?:=by
 obtain⟨v',τ',h1,h2,h3,h4,h5,h6⟩:=O7 (bytes:=16) (y:=.lst 1 [[.str s]]) (ys:=[[.str s]]) h.g (by have:=h.len;omega) rfl AA (Au4 X) AE AN (by grind);refine⟨v',τ',h1,Ce h2,Aas h ⟨h3,by grind,h4,h5,h6 h.cl⟩,h4⟩
def Oj(f:Nat)(l:List Sp):Prop:=∀ (lo:Nat) (σ:St) (u:V) (X:List (List UInt8)) (z:Bool) (t:Nat),GW σ 1 9 lo u (X.map fun x=>[V.str x])->lo<=σ.length->Cl σ->X.length+Sp.szs l<=1000000000 ->
  ∃ v τ,Bx TT PT f [u,SL z t (l.map Sp.row)] σ v τ/\GL lo σ τ u v (X++Sp.hdss l)
structure TxL (l:List Sp):Prop where
 sh:∀ x∈l,ShS x
 len:(Sp.txts 0 l).length<=2000000000
def Al6{l:List Sp}(h:TxL l){x:Sp}(hx:x∈l):ShS x/\(x.txt 0).length<=2000000000/\TxL x.body/\TxL x.els:=by
 have h1:=h.sh x hx;have h2:=Z4 0 hx;have h3:=h.len;refine⟨h1,by omega,?_⟩
 cases h1 with
 | mk a1 a2 a3 a4 a5 a6 a7 a8 a9 a10 a11 a12 a13 a14=>
  cases hb:Bv x.op
  .have e1:x.body=[]:=a11 hb;have e2:x.els=[]:=a12 fun e=>by rw[e]at hb;cases hb
   rw[e1,e2];exact⟨⟨(fun x hx=>by cases hx),by simp[Sp.txts]⟩,⟨(fun x hx=>by cases hx),by simp[Sp.txts]⟩⟩
  .have:=Bfx hb;exact⟨⟨a13,by omega⟩,⟨a14,by omega⟩⟩
def Ar8{l:List Sp}{i:Nat}{y:Sp}(h:l.drop i=y::l.drop (i+1)):Sp.hdss (l.drop i)=Du y::(Sp.hdss y.body++(Sp.hdss y.els++Sp.hdss (l.drop (i+1)))):=by
 grind[Sp.hdss,Azh]
def Ba2(y:Sp):(I1 y).row=[iV y.op,iV y.line,.str y.nm,.str y.arg,SL y.iz y.it (y.idx.map Xp.row),iV y.ex.op,iV y.ex.n,.str y.ex.nm,SL y.ex.z y.ex.t (y.ex.l.map Xp.row),.nils,.nils]:=by
 rw[Fk];rfl
def Ag4:∀ l:List Sp,l.length<=Sp.szs l
 | []=>Ax _
 | x::l=>by
  have h1:=Ag4 l
  grind[Mg,Sp.szs]
set_option maxHeartbeats 4000000 in
def Ba3{l:List Sp}(hl:TxL l)(ih:∀ x∈l,Oj 77 x.body/\Oj 77 x.els):Oj 77 l:=by
 intro lo σ u X z t hg qj hc hX;have qe:(l.map Sp.row).length=l.length:=Au ..;refine Ae7 T77 rfl ?_;simp only[go_sem,qe];refine Bk (α:=Nat × St × V × List (List UInt8)) (fun a=>l.length - a.1) (fun a=>[(0,a.2.2.1),(9,SL z t (l.map Sp.row)),(10,iV (l.length:Int)),(11,iV (a.1:Int))]) (fun a=>a.2.1) (fun a=>a.1<=l.length/\GL lo σ a.2.1 u a.2.2.1 a.2.2.2/\a.2.2.2++Sp.hdss (l.drop a.1)=X++Sp.hdss l) ?_ (0,σ,u,X) ⟨Ax _,Axu hg hc,rfl⟩;rintro⟨i,s,v,Y⟩ ⟨hi,hG,hY⟩ jh;simp only at hi hG hY jh;have qp:=congrArg List.length hY;rw[Ar,Ar,Lh,Lh]at qp;have qc:=Ce hG.g;refine Bd Bpo ?_;rcases Bh i l.length with h' | h';rotate_left
 .rw[Ec h',Sp.hdss,B3]at hY;subst hY;simp only[go_sem,Bl h'];exact⟨v,rfl,⟨by cases v<;>simp[V.cellB]at qc<;>rfl,fun j hj=>(Dm hG.g j hj).2⟩,⟨hG.len,hG.cl⟩,hG⟩
 obtain⟨y,hy,hd,hm⟩:=Bq h';obtain⟨qt,jU,jC,jD⟩:=Al6 hl hm;have jN:=Ag4 l;have qb:=Fk y;have qd:=Hc y;have hq:=Ats (Amn qt) 0 AA;obtain⟨r,hr⟩:=Aoz y;have jj:=(ixU 10 (Du y) r (Axi qt)).2;rw[<-hr]at jj;have qr:=Axj y
 have ka:Uu [.str (y.txt 0),.int .u8 10]=some (iV ((Du y).length:Int)):=by
  show some (iV (Lib.indexByte (y.txt 0) 10))=_;rw[jj]
 obtain⟨s1,e1⟩:∃ s1:St,s1=s++[.row y.row 103 0 0]:=⟨_,rfl⟩;have k1:s1[s.length]?=some (.row y.row 103 0 0):=by rw[e1];simp
 have G1:GL lo σ s1 u v Y:=by rw[e1];exact Axv hG _ (Jg hG.cl qd)
 have jW:∀ j∈v.refs,j<s.length:=fun j hj=>(Dm hG.g j hj).2
 have qM:=Ar8 hd;rw[qM]at hY;have qV:Sp.szs (l.drop i)=y.sz+Sp.szs (l.drop (i+1)):=by rw[hd,Sp.szs]
 have ja:=Mg y;obtain⟨v2,s2,ha,jE,G2,jb⟩:=Azt G1 qj (Du y) AA;have k2:s2[s.length]?=_:=(jb s.length (by grind) fun e=>by grind).trans k1
 have n2:s.length ∉ v2.refs:=fun e=>by
  have h9:∀ j∈v2.refs,j∈v.refs\/s1.length<=j:=by
   obtain⟨q1,-⟩:=Ag3 ha rfl AN (Ak3 G1.g);exact q1
  grind
 obtain⟨v3,s3,q3,G3⟩:=(ih y hm).1 lo s2 v2 (Y++[Du y]) y.bz y.bt G2.g (by have:=G2.len;omega) G2.cl (by grind);have l2:s.length<s2.length:=(Al.1 k2).1;have k3:s3[s.length]?=_:=(G3.kp s.length l2 n2).trans k2
 have n3:s.length ∉ v3.refs:=fun e=>by
  rcases G3.rf _ e with h8 | h8
  .grind
  .omega
 have l3:s.length<s3.length:=(Al.1 k3).1;obtain⟨v4,s4,q4,G4⟩:=(ih y hm).2 lo s3 v3 (Y++[Du y]++Sp.hdss y.body) y.ez y.et G3.g (by have:=G2.len;have:=G3.len;omega) G3.cl (by grind[Lh]);have G14:=Aas G2 (Aas G3 G4);rw[qb]at e1 k1 k2 k3 hq qd;have f0:(0<=((Du y).length:Int))=True:=eq_true AA;have ju:((Du y).length<=(y.txt 0).length)=True:=eq_true AA;have jw:(y.txt 0).take (Du y).length=Du y:=by rw[hr];simp
 rw[Int.natCast_zero]at hq;simp only[go_sem,Ay h',As,hy,qb];rw[<-e1];refine Ab hq AB ?_;simp only[go_sem];refine Fl P102 AB ka ?_;simp only[go_sem,ge_iff_le,f0,ju,jw,ha,k2];refine Aa q3 ?_;simp only[go_sem,k3];refine Aa q4 ?_;simp only[go_sem,A1 (show i<9223372036854775807 by omega)];refine Aq (jh (i+1,s4,v4,Y++[Du y]++Sp.hdss y.body++Sp.hdss y.els) AA ⟨h',G14,by grind⟩) rfl
set_option maxHeartbeats 4000000 in
def Ba4{l:List Sp}(hl:TxL l)(ih:∀ x∈l,Oj 75 x.body/\Oj 75 x.els):Oj 75 l:=by
 intro lo σ u X z t hg qj hc hX;have qe:(l.map Sp.row).length=l.length:=Au ..;refine Ae7 T75 rfl ?_;simp only[go_sem,qe];refine Bk (α:=Nat × St × V × List (List UInt8)) (fun a=>l.length - a.1) (fun a=>[(0,a.2.2.1),(11,SL z t (l.map Sp.row)),(12,iV (l.length:Int)),(13,iV (a.1:Int))]) (fun a=>a.2.1) (fun a=>a.1<=l.length/\GL lo σ a.2.1 u a.2.2.1 a.2.2.2/\a.2.2.2++Sp.hdss (l.drop a.1)=X++Sp.hdss l) ?_ (0,σ,u,X) ⟨Ax _,Axu hg hc,rfl⟩;rintro⟨i,s,v,Y⟩ ⟨hi,hG,hY⟩ jh;simp only at hi hG hY jh;have qp:=congrArg List.length hY;rw[Ar,Ar,Lh,Lh]at qp;have qc:=Ce hG.g;refine Bd Bpl ?_;rcases Bh i l.length with h' | h';rotate_left
 .rw[Ec h',Sp.hdss,B3]at hY;subst hY;simp only[go_sem,Bl h'];exact⟨v,rfl,⟨by cases v<;>simp[V.cellB]at qc<;>rfl,fun j hj=>(Dm hG.g j hj).2⟩,⟨hG.len,hG.cl⟩,hG⟩
 obtain⟨y,hy,hd,hm⟩:=Bq h';obtain⟨qt,jU,jC,jD⟩:=Al6 hl hm;have jN:=Ag4 l;have qb:=Fk y;have qd:=Hc y;have je:=Ba2 y;have jf:=Hc (I1 y);obtain⟨⟨r,hr⟩,kb⟩:=Bap y;have qr:=Axj y;have hq:=A92 (Bfw (Amn qt)) 0 AA (by grind[Mg,I1,Sp.szs]);have jg:=Br7 (c:=10) (r:=r) (Axi qt);rw[<-hr]at jg
 have jZ:Acl [.str ((I1 y).txt 0),.str [10]]=some (.tup [.str (Du y),.str r,.bool true]):=by
  show(if((I1 y).txt 0).length<4294967281 then some (V.tup [.str (Lib.cut ((I1 y).txt 0) [10]).1,.str (Lib.cut ((I1 y).txt 0) [10]).2.1,.bool (Lib.cut ((I1 y).txt 0) [10]).2.2]) else none)=_;rw[if_pos AA,jg]
 have c1:Cl (s++[.row y.row 103 0 0,.row (I1 y).row 103 0 0]):=by
  have:=Jg (t:=103) (Jg (t:=103) hG.cl qd) jf;simpa using this
 obtain⟨s1,e1⟩:∃ s1:St,s1=s++[.row y.row 103 0 0,.row (I1 y).row 103 0 0]:=⟨_,rfl⟩;have k1:s1[s.length]?=some (.row y.row 103 0 0):=by rw[e1];simp
 have l1:s1.length=s.length+2:=by rw[e1];simp
 have G1:GL lo σ s1 u v Y:=by rw[e1];exact Axv hG _ c1
 have jW:∀ j∈v.refs,j<s.length:=fun j hj=>(Dm hG.g j hj).2
 have qM:=Ar8 hd;rw[qM]at hY;have qV:Sp.szs (l.drop i)=y.sz+Sp.szs (l.drop (i+1)):=by rw[hd,Sp.szs]
 have ja:=Mg y;obtain⟨v2,s2,ha,jE,G2,jb⟩:=Azt G1 qj (Du y) AA;have k2:s2[s.length]?=_:=(jb s.length AA fun e=>by grind).trans k1
 have n2:s.length ∉ v2.refs:=fun e=>by
  have h9:∀ j∈v2.refs,j∈v.refs\/s1.length<=j:=by
   obtain⟨q1,-⟩:=Ag3 ha rfl AN (Ak3 G1.g);exact q1
  grind
 obtain⟨v3,s3,q3,G3⟩:=(ih y hm).1 lo s2 v2 (Y++[Du y]) y.bz y.bt G2.g (by have:=G2.len;omega) G2.cl (by grind);have l2:s.length<s2.length:=(Al.1 k2).1;have k3:s3[s.length]?=_:=(G3.kp s.length l2 n2).trans k2;obtain⟨v4,s4,q4,G4⟩:=(ih y hm).2 lo s3 v3 (Y++[Du y]++Sp.hdss y.body) y.ez y.et G3.g (by have:=G2.len;have:=G3.len;omega) G3.cl (by grind[Lh]);have G14:=Aas G2 (Aas G3 G4);rw[qb,je]at e1;rw[qb]at k1 k2 k3 qd;rw[je]at hq jf;rw[Int.natCast_zero]at hq;simp only[go_sem,Ay h',As,hy,qb];rw[<-e1];refine Ab hq AB ?_;simp only[go_sem];refine Fl P129 AB jZ ?_;simp only[go_sem,ha,k2];refine Aa q3 ?_;simp only[go_sem,k3];refine Aa q4 ?_;simp only[go_sem,A1 (show i<9223372036854775807 by omega)];refine Aq (jh (i+1,s4,v4,Y++[Du y]++Sp.hdss y.body++Sp.hdss y.els) AA ⟨h',G14,by grind⟩) rfl
def Ag5{f:Nat}(hs:∀ l,TxL l->(∀ x∈l,Oj f x.body/\Oj f x.els)->Oj f l):∀ (N:Nat) (l:List Sp),TxL l->Sp.szs l<=N->Oj f l
 | 0,l,h,hz=>hs l h fun x hx=>by
  have:=Aa3 hx
  grind[Mg]
 | N+1,l,h,hz=>hs l h fun x hx=>by
  obtain⟨-,-,h1,h2⟩:=Al6 h hx;have:=Aa3 hx;have:=Mg x;exact⟨Ag5 hs N _ h1 AA,Ag5 hs N _ h2 AA⟩
def Blm{l:List Sp}(h:TxL l):Oj 77 l:=Ag5 (fun _=>Ba3) _ l h (Ak _)
def Bln{l:List Sp}(h:TxL l):Oj 75 l:=Ag5 (fun _=>Ba4) _ l h (Ak _)
def Dh(t:Tp):List V:=[SL true 0 ((Sp.hdss t.body).map fun x=>[V.str x])]
def Au6{σ:St}{lo e:Nat}{u:V}{X:List (List UInt8)}(h:GW σ 1 e lo u (X.map fun x=>[V.str x])):
  ∃ σ',Qn 1 1 σ [u]=some (.lst 1 [[SL true 0 (X.map fun x=>[V.str x])]],σ')/\σ'.length=σ.length/\(∀ j,j ∉ u.refs->σ'[j]?=σ[j]?)/\(Cl σ->Cl σ'):=by
 have jR:=Mm h AA (Au4 X) (Au5 X);have hr:Ag [u]=u.refs:=by simp[Ag]
 have jT:=jR (Fq σ 9 u.refs.eraseDups) (fun i hi=>Nr σ 9 _ i (Ss.2 hi)) 7;unfold Qn;rw[hr];simp only[Lc,Aiy,jT];refine⟨_,rfl,Q7 _ _,fun j hj=>Yc _ _ _ fun hm=>?_,Yt _ _⟩;rcases h with⟨rfl,-⟩ | ⟨hn,i,g,rfl,ho,qj⟩
 .grind[V.refs,Fq]
 .have:Fq σ 9 (V.refs (.sl i g 0 (X.map fun x=>[V.str x]).length 1 true)).eraseDups=[i]:=by
   have e1:(V.refs (.sl i g 0 (X.map fun x=>[V.str x]).length 1 true)).eraseDups=[i]:=by simp[V.refs,List.eraseDups_cons]
   rw[e1];have hx:Ag (X.map fun x=>[V.str x]).flatten=[]:=Fr (Ie (Au5 X));simp[Fq,ho,Ob.refs,hx]
  grind[V.refs]
structure PX (p:Gp):Prop where
 few:p.thrs.length<=100000000
 tx:∀ t∈p.thrs,TxL t.body
 sz:∀ t∈p.thrs,Sp.szs t.body<=10000
def Bqn{p:Gp}(h:ShG p)(hl:(Fd p).length<=1000000000)(hs:∀ t∈p.thrs,Sp.szs t.body<=10000):PX p:=by
 have ji:((p.thrs.map Ea).flatten).length<=(Fd p).length:=by unfold Fd;simp
 have qP:∀ (L:List Tp),10*L.length<=((L.map Ea).flatten).length/\∀ t∈L,(Ea t).length<=((L.map Ea).flatten).length:=fun L=>by
  induction L with
  | nil=>grind
  | cons a l ih=>
   have h1:10<=(Ea a).length:=by unfold Ea;simp;omega
   grind
 refine⟨by grind,fun t ht=>⟨h.thrs t ht,?_⟩,hs⟩;have h1:=(qP p.thrs).2 t ht;have h2:=Xf t.body 0 1 AA;have h3:(Sp.txts 1 t.body).length<=(Ea t).length:=by unfold Ea;simp;omega
 omega
def Ag6(L:List Tp):∀ r∈L.map Dh,r.length=1:=fun r hr=>by obtain⟨x,-,rfl⟩:=Cy.1 hr;rfl
def Ag7(L:List Tp):∀ r∈L.map Dh,r.all V.rowB=true:=fun r hr=>by
 obtain⟨x,-,rfl⟩:=Cy.1 hr
 grind[Dh,Hq]
theorem Fv(x:Gp):x.row=(gR x):=rfl
def Ul(t:Tp):t.row=(tR t):=rfl
def Um(x:Gp):x.row.all V.rowB=true:=by
 grind[Gp.row,Hq]
def A02(x:Tp):x.row.all V.rowB=true:=by
 rw[Ul];simp only[B5,Dd,Hq];rfl
def Axw{σ:St}{lo m e bytes:Nat}{u:V}{xs:List (List V)}{row:List V}(h:GV σ m e lo u xs)(qj:lo<=σ.length)(hm:0<m)(hl:∀ r∈xs,r.length=m)(km:row.length=m)(hr:row.all V.rowB=true)(hb:(xs.length+1)*bytes<=140737488355328)(hc:Cl σ):
  ∃ u' σ',Dv bytes (m,e) u (.lst 1 [row]) σ=some (u',σ')/\GV σ' m e lo u' (xs++[row])/\u'.cellB=true/\σ.length<=σ'.length/\(∀ j,j<σ.length->j ∉ u.refs->σ'[j]?=σ[j]?)/\Cl σ':=by
 obtain⟨u',σ',h1,h2,h3,h4,-⟩:=Ame (bytes:=bytes) (y:=.lst 1 [row]) (ys:=[row]) h qj rfl hm hl (fun r hr=>by grind) hb
 obtain⟨-,h6⟩:=Ag3 h1 rfl (fun r hx=>by grind) (by
  rcases h with⟨rfl,-⟩ | ⟨i,g,rfl,-⟩
  .grind
  grind)
 grind[Av8,V.refs]
def Azu{σ τ:St}{m e lo:Nat}{u:V}{xs:List (List V)}(h:GV σ m e lo u xs)(hk:∀ i∈u.refs,τ[i]?=σ[i]?):GV τ m e lo u xs:=by
 rcases h with h | ⟨i,g,h,ho,qj⟩
 .exact .inl h
 .exact .inr ⟨i,g,h,by grind[V.refs],qj⟩
def Azv{σ:St}{m e lo:Nat}{u:V}{xs:List (List V)}(h:GV σ m e lo u xs):∀ i∈u.refs,lo<=i/\i<σ.length:=by
 intro j hj;rcases h with⟨rfl,-⟩ | ⟨i,g,rfl,ho,qj⟩
 .grind[V.refs]
 grind[V.refs]
set_option maxHeartbeats 4000000 in
def A65{p:Gp}(h:PX p):∃ z,Fn TT PT 47 [.agg p.row] (SL z 0 (p.thrs.map Dh)):=by
 have qe:(p.thrs.map Tp.row).length=p.thrs.length:=Au ..;have qh:=Um p;have qf:=Fv p;have qq:=h.few;refine⟨true,Bj T47 rfl ?_⟩;have c0:Cl [.row p.row 29 0 0]:=Jg (s:=[]) (fun _ h=>by cases h) qh;rw[qf]at c0 qh ⊢;simp only[go_sem,qe];refine Bk (α:=Nat × St × V) (fun a=>p.thrs.length - a.1) (fun a=>[(3,a.2.2),(7,SL p.tz p.tt (p.thrs.map Tp.row)),(8,iV (p.thrs.length:Int)),(9,iV (a.1:Int))]) (fun a=>a.2.1) (fun a=>a.1<=p.thrs.length/\(GV a.2.1 1 86 1 a.2.2 ((p.thrs.take a.1).map Dh)/\(a.1=0->a.2.2=.nils)/\(a.1≠0->a.2.2≠.nils))/\Cl a.2.1/\1<=a.2.1.length) ?_ (0,_,.nils) ⟨Ax _,⟨Bi1,fun _=>rfl,fun h=>absurd rfl h⟩,c0,Ak _⟩;rintro⟨i,s,u⟩ ⟨hi,⟨hg,jV,qF⟩,hc,qT⟩ ih;simp only at hi hg jV qF hc qT ih;refine Bd Bo7 ?_;rcases Bh i p.thrs.length with h' | h';rotate_left
 .have qk:i=p.thrs.length:=by omega
  subst qk;rw[Db]at hg;simp only[go_sem,Bl h']
  have jF:GW s 1 86 1 u (p.thrs.map Dh):=by
   rcases hg with hg | hg
   .exact .inl hg
   .refine .inr ⟨fun e=>?_,hg⟩
    grind
  exact Ru jF AA (Ag6 _) (Ag7 _)
 obtain⟨x,hx,hd,hm⟩:=Bq h';have qb:=Ul x;have qd:=A02 x;have qV:=h.sz x hm;obtain⟨s1,e1⟩:∃ s1:St,s1=s++[.row x.row 89 0 0]:=⟨_,rfl⟩;have c1:Cl s1:=by rw[e1];exact Jg hc qd
 have l1:s1.length=s.length+1:=by rw[e1];simp
 obtain⟨v,s2,q2,G2⟩:=Blm (h.tx x hm) s1.length s1 .nils [] x.bz x.bt Ds (Ak _) c1 (by grind);rw[Be]at G2;obtain⟨s3,e3,l3,f3,c3⟩:=Au6 G2.g;have qB:∀ j∈u.refs,j<s.length:=fun j hj=>(Azv hg j hj).2
 have kk:∀ j,j<s.length->s3[j]?=s[j]?:=fun j hj=>by
  rw[f3 j fun e=>by have:=(Dm G2.g j e).1;omega,G2.kp j AA AS,e1,Eb hj]
 have qN:GV s3 1 86 1 u ((p.thrs.take i).map Dh):=Azu hg fun j hj=>kk j (qB j hj)
 have qC:=Ce G2.g;obtain⟨qW,qX⟩:=Jf qC;obtain⟨u',s4,e4,g4,qc,l4,k4,c4⟩:=Axw (bytes:=24) (row:=Dh x) qN (by grind) AA (Ag6 _) rfl (Ag7 [x] _ AE) (by grind) (c3 G2.cl)
 have qm:(p.thrs.take i).map Dh++[Dh x]=(p.thrs.take (i+1)).map Dh:=by
  rw[Ic,hx];simp
 rw[qm]at g4;rw[show Dh x=[SL true 0 ((Sp.hdss x.body).map fun x=>[V.str x])] from rfl]at e4;rw[qb]at e1;simp only[go_sem,Ay h',As,hx,qb];rw[<-e1];refine Aa q2 ?_;simp only[go_sem,qW,qX,qC,e3,e4,A1 (show i<9223372036854775807 by omega)];refine Aq (ih (i+1,s4,u') AA ⟨h',⟨g4,fun h=>by simp at h,fun _ e=>?_⟩,c4,by grind⟩) rfl;rcases g4 with⟨-,g4⟩ | ⟨_,_,g4,-⟩
 .simp_all
 grind
set_option maxHeartbeats 4000000 in
def Aj9{p:Gp}(h:PX p):Fn TT PT 45 [.agg p.row] (.lst 0 (p.thrs.map Dh)):=by
 have qe:(p.thrs.map Tp.row).length=p.thrs.length:=Au ..;have qh:=Um p;have qf:=Fv p;have qq:=h.few;refine Bj T45 rfl ?_;have c0:Cl [.row p.row 29 0 0,.row [] 86 0 0]:=Jg (s:=[.row p.row 29 0 0]) (Jg (s:=[]) (fun _ h=>by cases h) qh) rfl;rw[qf]at c0 qh ⊢;have jv:(0<=(p.thrs.length:Int))=True:=eq_true AA;have qH:(p.thrs.length*24<=140737488355328)=True:=eq_true AA;simp only[go_sem,qe,jv,qH,Nk,Int.toNat_zero,List.replicate_zero,Zl,Zy];refine Bk (α:=Nat × St × V) (fun a=>p.thrs.length - a.1) (fun a=>[(3,a.2.2),(11,SL p.tz p.tt (p.thrs.map Tp.row)),(12,iV (p.thrs.length:Int)),(13,iV (a.1:Int))]) (fun a=>a.2.1) (fun a=>a.1<=p.thrs.length/\(GV a.2.1 1 86 1 a.2.2 ((p.thrs.take a.1).map Dh)/\a.2.2≠.nils)/\Cl a.2.1/\1<=a.2.1.length) ?_ (0,_,.sl 1 0 0 0 1 true) ⟨Ax _,⟨.inr ⟨1,0,rfl,rfl,Ak _⟩,fun h=>by cases h⟩,c0,by simp⟩;rintro⟨i,s,u⟩ ⟨hi,⟨hg,qF⟩,hc,qT⟩ ih;simp only at hi hg qF hc qT ih;refine Bd Bo4 ?_;rcases Bh i p.thrs.length with h' | h';rotate_left
 .have qk:i=p.thrs.length:=by omega
  subst qk;rw[Db]at hg;simp only[go_sem,Bl h'];rcases hg with⟨e,-⟩ | ⟨i,g,rfl,ho,-⟩
  .exact absurd e qF
  .exact Ahc ho AA (Ag6 _) (Ag7 _)
 obtain⟨x,hx,hd,hm⟩:=Bq h';have qb:=Ul x;have qd:=A02 x;have qV:=h.sz x hm;obtain⟨s1,e1⟩:∃ s1:St,s1=s++[.row x.row 89 0 0]:=⟨_,rfl⟩;have c1:Cl s1:=by rw[e1];exact Jg hc qd
 have l1:s1.length=s.length+1:=by rw[e1];simp
 obtain⟨v,s2,q2,G2⟩:=Bln (h.tx x hm) s1.length s1 .nils [] x.bz x.bt Ds (Ak _) c1 (by grind);rw[Be]at G2;obtain⟨s3,e3,l3,f3,c3⟩:=Au6 G2.g;have qB:∀ j∈u.refs,j<s.length:=fun j hj=>(Azv hg j hj).2
 have kk:∀ j,j<s.length->s3[j]?=s[j]?:=fun j hj=>by
  rw[f3 j fun e=>by have:=(Dm G2.g j e).1;omega,G2.kp j AA AS,e1,Eb hj]
 have qN:GV s3 1 86 1 u ((p.thrs.take i).map Dh):=Azu hg fun j hj=>kk j (qB j hj)
 have qC:=Ce G2.g;obtain⟨qW,qX⟩:=Jf qC;obtain⟨u',s4,e4,g4,qc,l4,k4,c4⟩:=Axw (bytes:=24) (row:=Dh x) qN (by grind) AA (Ag6 _) rfl (Ag7 [x] _ AE) (by grind) (c3 G2.cl)
 have qm:(p.thrs.take i).map Dh++[Dh x]=(p.thrs.take (i+1)).map Dh:=by
  rw[Ic,hx];simp
 rw[qm]at g4;rw[show Dh x=[SL true 0 ((Sp.hdss x.body).map fun x=>[V.str x])] from rfl]at e4;rw[qb]at e1;simp only[go_sem,Ay h',As,hx,qb];rw[<-e1];refine Aa q2 ?_;simp only[go_sem,qW,qX,qC,e3,e4,A1 (show i<9223372036854775807 by omega)];refine Aq (ih (i+1,s4,u') AA ⟨h',⟨g4,fun e=>?_⟩,c4,by grind⟩) rfl;rcases g4 with⟨-,g4⟩ | ⟨_,_,g4,-⟩
 .simp_all
 grind
/-! keys -/
def Jx(nm ln:List UInt8)(n:Nat):List V:=[.str nm,.str ln,iV (n:Int)]
def F2(nm:List UInt8):List (List UInt8)->List (List UInt8)->List (List V)
 | _,[]=>[]
 | P,x::X=>Jx nm x (P.count x)::F2 nm (P++[x]) X
def Ik(p:Gp):List (List V):=(p.thrs.map fun t=>F2 t.nm [] (Sp.hdss t.body)).flatten
theorem Z9(nm:List UInt8):∀ (X P:List (List UInt8)),(F2 nm P X).length=X.length
 | [],_=>rfl
 | x::X,P=>by rw[F2,Ao,Z9 nm X,Ao]
theorem Af2(nm:List UInt8):∀ (X P:List (List UInt8)),∀ r∈F2 nm P X,r.length=3/\r.all V.rowB=true
 | [],_,r,hr=>by cases hr
 | x::X,P,r,hr=>by
  rw[F2]at hr;rcases Bp.1 hr with rfl | hr
  .exact⟨rfl,rfl⟩
  .exact Af2 nm X _ r hr
def Xz(L:List Tp):∀ r∈(L.map fun t=>F2 t.nm [] (Sp.hdss t.body)).flatten,r.length=3/\r.all V.rowB=true:=fun r hr=>by
 obtain⟨l,hl,hr⟩:=List.mem_flatten.1 hr;obtain⟨t,-,rfl⟩:=Cy.1 hl
 grind[Af2]
def Aka(L:List Tp):((L.map fun t=>F2 t.nm [] (Sp.hdss t.body)).flatten).length=(L.map fun t=>Sp.szs t.body).sum:=by
 induction L with
 | nil=>rfl
 | cons a l ih=>grind[Z9,Lh]
/-! maps -/
def fk(s:List UInt8):List (List UInt8 × V)->Option V
 | []=>none
 | (k,v)::r=>if k==s then some v else fk s r
def Axx(s:List UInt8):∀ (kvs:List (List UInt8 × V)) (i:Nat),(H2 s kvs i).map Prod.snd=fk s kvs
 | [],_=>rfl
 | (k,v)::r,i=>by
  rw[H2,fk]
  split
  .rfl
  .exact Axx s r (i+1)
def Au7(s:List UInt8)(v:V):∀ (kvs:List (List UInt8 × V)) (i j:Nat) (w:V),H2 s kvs i=some (j,w)->i<=j/\∀ s',fk s' (kvs.set (j - i) (s,v))=if s'=s then some v else fk s' kvs
 | [],_,_,_,h=>by cases h
 | (k,x)::r,i,j,w,h=>by
  rw[H2]at h
  split at h
  .rename_i hk;cases h;refine⟨Ak _,fun s'=>?_⟩;have hk:=eq_of_beq hk;rw[Id,Adg,fk,fk,hk]
   grind
  .rename_i hk;obtain⟨h1,h2⟩:=Au7 s v r (i+1) j w h;refine⟨by omega,fun s'=>?_⟩;obtain⟨m,hm⟩:∃ m,j - i=m+1:=⟨j - i - 1,by omega⟩
   grind[fk]
def Ar9(s:List UInt8)(v:V):∀ (kvs:List (List UInt8 × V)) (i:Nat),H2 s kvs i=none->∀ s',fk s' (kvs++[(s,v)])=if s'=s then some v else fk s' kvs
 | [],_,_,s'=>by
  rw[Be,fk,fk,fk]
  grind
 | (k,x)::r,i,h,s'=>by
  rw[H2]at h
  split at h
  .cases h
  .rename_i hk;rw[Bt,fk,fk,Ar9 s v r (i+1) h s']
   grind
def KVs(kvs:List (List UInt8 × V))(X:List (List UInt8)):Prop:=∀ s,fk s kvs=if X.count s=0 then none else some (iV (X.count s:Int))
theorem Blo:KVs [] []:=fun _=>rfl
def Axy{kvs kvs':List (List UInt8 × V)}{X:List (List UInt8)}{s:List UInt8}(h:KVs kvs X)(hs:∀ s',fk s' kvs'=if s'=s then some (iV ((X.count s+1:Nat):Int)) else fk s' kvs):KVs kvs' (X++[s]):=fun s'=>by
 rw[hs s',Ain];by_cases e:s'=s
 .grind
 .have:[s].count s'=0:=List.count_eq_zero.2 fun hm=>e (F5.1 hm)
  rw[if_neg e,this,On];exact h s'
def Blp{kvs:List (List UInt8 × V)}{X:List (List UInt8)}(h:KVs kvs X)(s:List UInt8):(H2 s kvs 0=none/\X.count s=0)\/∃ j,H2 s kvs 0=some (j,iV (X.count s:Int)):=by
 have h1:=Axx s kvs 0;rw[h s]at h1
 cases hf:H2 s kvs 0 with
 | none=>
  grind
 | some p=>
  grind
/-! keys -/
def Asa(nm:List UInt8):∀ (X P:List (List UInt8)) (k:Nat) (x:List UInt8),X[k]?=some x->(F2 nm P X)[k]?=some (Jx nm x ((P++X.take k).count x))
 | [],_,_,_,h=>by simp at h
 | y::X,P,0,x,h=>by
  grind[F2]
 | y::X,P,k+1,x,h=>by
  rw[F2,Q3,Asa nm X (P++[y]) k x (by grind)];simp
def Aqx{nm:List UInt8}{X:List (List UInt8)}{k:Nat}{x:List UInt8}(h:X[k]?=some x):(F2 nm [] X).take k++[Jx nm x ((X.take k).count x)]=(F2 nm [] X).take (k+1):=by
 simp_all [Asa,Ic]
def Abc{L:List Tp}(h:∀ t∈L,Sp.szs t.body<=10000):(L.map fun t=>Sp.szs t.body).sum<=L.length*10000:=by
 induction L with
 | nil=>simp
 | cons a l ih=>
  grind
def Pl(L:List Tp):List (List V):=(L.map fun t=>F2 t.nm [] (Sp.hdss t.body)).flatten
def Aqy{L:List Tp}{i:Nat}{x:Tp}(h:L[i]?=some x):Pl (L.take (i+1))=Pl (L.take i)++F2 x.nm [] (Sp.hdss x.body):=by
 grind[Pl,List.take_add_one]
set_option maxHeartbeats 4000000 in
def Ba5{p:Gp}(h:PX p):Fn TT PT 17 [.agg p.row] (SL true 0 (Ik p)):=by
 obtain⟨zL,hL⟩:=A65 h;have qh:=Um p;have qf:=Fv p;have qq:=h.few;have qU:=Abc h.sz;have qr:(p.thrs.map Dh).length=p.thrs.length:=Au ..;rw[qf]at hL qh ⊢;refine Bj T17 rfl ?_;simp only[go_sem];refine Ab hL AB ?_;simp only[go_sem,qr];refine Bk (α:=Nat × St × V) (fun a=>p.thrs.length - a.1) (fun a=>[(1,.ptr 0 0 0),(3,a.2.2),(12,SL zL 0 (p.thrs.map Dh)),(13,iV (p.thrs.length:Int)),(14,iV (a.1:Int))]) (fun a=>a.2.1) (fun a=>a.1<=p.thrs.length/\GW a.2.1 3 45 1 a.2.2 (Pl (p.thrs.take a.1))/\a.2.1[0]?=some (gO p)) ?_ (0,_,.nils) ⟨Ax _,Ds,rfl⟩;rintro⟨i,s,u⟩ ⟨hi,hg,hs⟩ ih;simp only at hi hg hs ih;refine Bd Bon ?_;rcases Bh i p.thrs.length with h' | h';rotate_left
 .have qk:i=p.thrs.length:=by omega
  subst qk;rw[Db]at hg;simp only[go_sem,Bl h'];exact Ru hg AA (fun r hr=>(Xz _ r hr).1) (fun r hr=>(Xz _ r hr).2)
 obtain⟨x,hx,hd,hm⟩:=Bq h';have qb:=Ul x;have qZ:=h.sz x hm;have qw:Dh x=[SL true 0 ((Sp.hdss x.body).map fun x=>[V.str x])]:=rfl;have qD:((Sp.hdss x.body).map fun x=>[V.str x]).length=(Sp.hdss x.body).length:=Au ..;have jB:=Lh x.body;have qm:=Aqy hx
 have qJ:(Pl (p.thrs.take i)).length<=100000000*10000:=by
  have h1:=Aka (p.thrs.take i);have h2:=Abc (L:=p.thrs.take i) fun t ht=>h.sz t (Ni ht)
  have h3:(p.thrs.take i).length*10000<=100000000*10000:=E1 _ (by grind);unfold Pl;omega
 generalize hX:Sp.hdss x.body=X at *;simp only[go_sem,Ay h',As,hx,qw,hX,qD];refine Bk (α:=Nat × St × V) (fun a=>X.length - a.1) (fun a=>[(1,.ptr 0 0 0),(3,a.2.2),(4,iV (i:Int)),(5,SL true 0 (X.map fun x=>[V.str x])),(12,SL zL 0 (p.thrs.map Dh)),(13,iV (p.thrs.length:Int)),(14,iV (i:Int)),(19,SL true 0 (X.map fun x=>[V.str x])),(20,iV (X.length:Int)),(21,iV (a.1:Int))]) (fun a=>a.2.1) (fun a=>a.1<=X.length/\GW a.2.1 3 45 1 a.2.2 (Pl (p.thrs.take i)++(F2 x.nm [] X).take a.1)/\a.2.1[0]?=some (gO p)) ?_ (0,s,u) ⟨Ax _,by grind,hs⟩;clear hg hs u s;rintro⟨k,s,u⟩ ⟨hk,hg,hs⟩ jh;simp only at hk hg hs jh;refine Bd Bom ?_;rcases Bh k X.length with h3 | h3;rotate_left
 .rw[show(F2 x.nm [] X).take k=F2 x.nm [] X from Jb (by grind[Z9]),<-qm]at hg;simp only[go_sem,Bl h3,A1 (show i<9223372036854775807 by omega)];exact Aq (ih (i+1,s,u) AA ⟨h',hg,hs⟩) rfl
 obtain⟨y,hy,-,-⟩:=Bq h3;obtain⟨z2,t2,qu⟩:=Xd true 0 1 (X.map fun x=>[V.str x]) .i64 k AA;rw[<-W5]at qu;have jH:((X.take k).map fun x=>[V.str x]).length=k:=by rw[Au,Ip];omega
 simp only[go_sem,Ay h3,As,hy,qu,jH];refine Bk (α:=Nat) (fun j=>k - j) (fun j=>[(1,.ptr 0 0 0),(3,u),(4,iV (i:Int)),(5,SL true 0 (X.map fun x=>[V.str x])),(7,.str y),(8,iV (((X.take j).count y:Nat):Int)),(12,SL zL 0 (p.thrs.map Dh)),(13,iV (p.thrs.length:Int)),(14,iV (i:Int)),(19,SL true 0 (X.map fun x=>[V.str x])),(20,iV (X.length:Int)),(21,iV (k:Int)),(28,SL z2 t2 ((X.take k).map fun x=>[V.str x])),(29,iV (k:Int)),(30,iV (j:Int))]) (fun _=>s) (fun j=>j<=k) ?_ 0 (Ax _);rintro j hj kh;have ke:(X.take j).count y<=k:=C9 List.count_le_length (by rw[Ip];omega);refine Bd Bol ?_;rcases Bh j k with h4 | h4
 .obtain⟨w,hw⟩:∃ w,X[j]?=some w:=⟨_,Ca AA⟩;have jq:(X.take k)[j]?=some w:=by rw[Wz,if_pos h4];exact hw
  have qK:(X.take (j+1)).count y=(X.take j).count y+(if w=y then 1 else 0):=by
   rw[Ic,hw,Ain]
   by_cases e:w=y<;>simp[e]
  by_cases e:w=y
  .have f1:(w==y)=true:=by simp[e]
   rw[if_pos e]at qK;have w1:IntKind.i64.wrap ((((X.take j).count y:Nat):Int)+1)=(((X.take (j+1)).count y:Nat):Int):=by rw[Cs AA,qK];rfl
   simp only[go_sem,Ay h4,As,jq,f1,w1,A1 (show j<9223372036854775807 by omega)];exact Aq (kh (j+1) AA h4) rfl
  .have f1:(w==y)=false:=by simp[e]
   rw[if_neg e]at qK;have qL:(X.take j).count y=(X.take (j+1)).count y:=by omega
   rw[qL];simp only[go_sem,Ay h4,As,jq,f1,A1 (show j<9223372036854775807 by omega)];exact Aq (kh (j+1) AA h4) rfl
 obtain rfl:j=k:=by omega
 have qO:=Aqx (nm:=x.nm) hy
 obtain⟨u',s',ha,g',l',kp,rf,-⟩:=O7 (bytes:=40) (y:=.lst 1 [Jx x.nm y ((X.take j).count y)]) (ys:=[Jx x.nm y ((X.take j).count y)]) hg (by grind) rfl AA (fun r hr=>by
  rcases Ct.1 hr with hr | hr
  .exact(Xz _ r hr).1
  grind[Af2]) (by simp[Jx]) (by simp[Jx,V.rowB]) (by grind)
 rw[Br,qO]at g';have jo:=(kp 0 (Al.1 hs).1 fun e=>by have:=(Dm hg 0 e).1;omega).trans hs;have qc:=Ce g';unfold Jx at ha;simp only[go_sem,Bl h4,hs,As,hx,qb,ha,A1 (show j<9223372036854775807 by omega)];exact Aq (jh (j+1,s',u') AA ⟨h3,g',jo⟩) rfl
set_option maxHeartbeats 4000000 in
def Au8{p:Gp}(h:PX p):Fn TT PT 31 [.agg p.row] (SL true 0 (Ik p)):=by
 have hL:=Aj9 h;have qh:=Um p;have qf:=Fv p;have qq:=h.few;have qU:=Abc h.sz;have qr:(p.thrs.map Dh).length=p.thrs.length:=Au ..;rw[qf]at hL qh ⊢;refine Bj T31 rfl ?_;simp only[go_sem];refine Ab hL AB ?_;simp only[go_sem,qr];refine Bk (α:=Nat × St × V) (fun a=>p.thrs.length - a.1) (fun a=>[(1,.ptr 0 0 0),(3,a.2.2),(10,.lst 0 (p.thrs.map Dh)),(11,iV (p.thrs.length:Int)),(12,iV (a.1:Int))]) (fun a=>a.2.1) (fun a=>a.1<=p.thrs.length/\GW a.2.1 3 45 1 a.2.2 (Pl (p.thrs.take a.1))/\a.2.1[0]?=some (gO p)) ?_ (0,_,.nils) ⟨Ax _,Ds,rfl⟩;rintro⟨i,s,u⟩ ⟨hi,hg,hs⟩ ih;simp only at hi hg hs ih;refine Bd Bow ?_;rcases Bh i p.thrs.length with h' | h';rotate_left
 .have qk:i=p.thrs.length:=by omega
  subst qk;rw[Db]at hg;simp only[go_sem,Bl h'];exact Ru hg AA (fun r hr=>(Xz _ r hr).1) (fun r hr=>(Xz _ r hr).2)
 obtain⟨x,hx,hd,hm⟩:=Bq h';have qb:=Ul x;have qZ:=h.sz x hm;have qw:Dh x=[SL true 0 ((Sp.hdss x.body).map fun x=>[V.str x])]:=rfl;have qD:((Sp.hdss x.body).map fun x=>[V.str x]).length=(Sp.hdss x.body).length:=Au ..;have jB:=Lh x.body;have qm:=Aqy hx
 have qJ:(Pl (p.thrs.take i)).length<=100000000*10000:=by
  have h1:=Aka (p.thrs.take i);have h2:=Abc (L:=p.thrs.take i) fun t ht=>h.sz t (Ni ht)
  have h3:(p.thrs.take i).length*10000<=100000000*10000:=E1 _ (by grind);unfold Pl;omega
 generalize hX:Sp.hdss x.body=X at *;have qS:0<s.length:=(Al.1 hs).1;have qB:∀ j∈u.refs,1<=j/\j<s.length:=Dm hg;simp only[go_sem,Ay h',As,hx,qw,hX,qD];have jm:(s++([.map []]:St))[s.length]?=some (.map []):=by simp
 refine Bk (α:=Nat × St × V × List (List UInt8 × V)) (fun a=>X.length - a.1) (fun a=>[(1,.ptr 0 0 0),(3,a.2.2.1),(4,iV (i:Int)),(6,.mp s.length),(10,.lst 0 (p.thrs.map Dh)),(11,iV (p.thrs.length:Int)),(12,iV (i:Int)),(18,SL true 0 (X.map fun x=>[V.str x])),(19,iV (X.length:Int)),(20,iV (a.1:Int))]) (fun a=>a.2.1) (fun a=>a.1<=X.length/\(GW a.2.1 3 45 1 a.2.2.1 (Pl (p.thrs.take i)++(F2 x.nm [] X).take a.1)/\s.length ∉ a.2.2.1.refs)/\a.2.1[0]?=some (gO p)/\a.2.1[s.length]?=some (.map a.2.2.2)/\KVs a.2.2.2 (X.take a.1)) ?_ (0,s++([.map []]:St),u,[]) ⟨Ax _,⟨by grind[Gm],fun e=>by grind⟩,Bs hs,jm,by grind[Blo]⟩;generalize hn:s.length=n at *;clear hg hs qB jm u hn s;rintro⟨k,s,u,kvs⟩ ⟨hk,⟨hg,jn⟩,hs,qi,qE⟩ jh;simp only at hk hg jn hs qi qE jh;refine Bd Bov ?_;rcases Bh k X.length with h3 | h3;rotate_left
 .rw[show(F2 x.nm [] X).take k=F2 x.nm [] X from Jb (by grind[Z9]),<-qm]at hg;simp only[go_sem,Bl h3,A1 (show i<9223372036854775807 by omega)];exact Aq (ih (i+1,s,u) AA ⟨h',hg,hs⟩) rfl
 obtain⟨y,hy,-,-⟩:=Bq h3;have qO:=Aqx (nm:=x.nm) hy;have jI:=(Al.1 hs).1;have jK:=(Al.1 qi).1;have kf:(X.take k).count y<=k:=C9 List.count_le_length (by grind)
 obtain⟨u',s',ha,g',l',kp,rf,-⟩:=O7 (bytes:=40) (y:=.lst 1 [Jx x.nm y ((X.take k).count y)]) (ys:=[Jx x.nm y ((X.take k).count y)]) hg AA rfl AA (fun r hr=>by
  rcases Ct.1 hr with hr | hr
  .exact(Xz _ r hr).1
  grind[Af2]) (by simp[Jx]) (by simp[Jx,V.rowB]) (by grind)
 rw[Br,qO]at g';have jo:=(kp 0 jI fun e=>by have:=(Dm hg 0 e).1;omega).trans hs;have qo:=(kp n jK jn).trans qi;have qc:=Ce g'
 have ql:n ∉ u'.refs:=fun e=>by
  grind
 have kl:n≠0:=fun e=>by omega
 have w1:IntKind.i64.wrap ((((X.take k).count y:Nat):Int)+1)=(((X.take k).count y+1:Nat):Int):=by rw[Cs AA];rfl
 have fb:∀ n:Int,(iV n).flatB=true:=fun _=>rfl
 have qA:X.take k++[y]=X.take (k+1):=by rw[Ic,hy];rfl
 unfold Jx at ha;rcases Blp qE y with⟨hf,h0⟩ | ⟨j,hf⟩
 .have qg:=Axy (s:=y) qE (Ar9 y (iV (((X.take k).count y+1:Nat):Int)) kvs 0 hf);rw[qA]at qg;rw[h0]at ha w1 qg;rw[Int.natCast_zero]at ha w1;simp only[go_sem,Ay h3,As,hy];refine Af AD ?_;simp only[go_sem,hs,qi,hf,As,hx,qb];simp only[go_sem,ha];refine Bc ?_;simp only[go_sem,qo,hf,w1,fb,A1 (show k<9223372036854775807 by omega)];exact Aq (jh (k+1,s'.set n (.map (kvs++[(y,iV 1)])),u',kvs++[(y,iV 1)]) AA ⟨h3,⟨Jm g' fun q hq=>Cc fun(e:n=q)=>ql (by grind),ql⟩,by grind,Cm AA,qg⟩) rfl
 .have qg:=Axy (s:=y) qE (by have:=(Au7 y (iV (((X.take k).count y+1:Nat):Int)) kvs 0 j _ hf).2;rw[Adu]at this;exact this);rw[qA]at qg;simp only[go_sem,Ay h3,As,hy];refine Af AD ?_;simp only[go_sem,hs,qi,hf,As,hx,qb];simp only[go_sem,ha];refine Bc ?_;simp only[go_sem,qo,hf,w1,fb,A1 (show k<9223372036854775807 by omega)];exact Aq (jh (k+1,s'.set n (.map (kvs.set j (y,iV (((X.take k).count y+1:Nat):Int)))),u',kvs.set j (y,iV (((X.take k).count y+1:Nat):Int))) AA ⟨h3,⟨Jm g' fun q hq=>Cc fun(e:n=q)=>ql (by grind),ql⟩,by grind,Cm AA,qg⟩) rfl
theorem Aqz(nm:List UInt8):∀ (X P:List (List UInt8)),∀ r∈F2 nm P X,∃ nm ln n,r=Jx nm ln n
 | [],_,r,hr=>by cases hr
 | x::X,P,r,hr=>by
  rw[F2]at hr;rcases Bp.1 hr with rfl | hr
  .grind
  .exact Aqz nm X _ r hr
def A4l{p:Gp}:∀ r∈Ik p,∃ nm ln n,r=Jx nm ln n:=fun r hr=>by
 obtain⟨l,hl,hr⟩:=List.mem_flatten.1 hr;obtain⟨t,-,rfl⟩:=Cy.1 hl
 grind[Aqz]
def Ao1:List V:=[.str [],.str [],iV 0]
def Ah8(p:Gp)(i:Int):V:=if 0<=i/\i<(Ik p).length then .tup [.agg ((Ik p).getD i.toNat Ao1),.bool true] else .tup [.agg Ao1,.bool false]
set_option maxHeartbeats 1000000 in
def Blq{p:Gp}(h:PX p)(i:Int):Fn TT PT 22 [.agg p.row,iV i] (Ah8 p i):=by
 have hk:=Au8 h;have qh:=Um p;have qf:=Fv p;rw[qf]at hk qh ⊢;refine Bj T22 rfl ?_;unfold Ah8;by_cases h0:i<0
 .rw[if_neg AA];have f1:(i<0)=True:=eq_true h0;simp only[go_sem];refine Ab hk AB ?_;simp only[go_sem,f1];exact Gr rfl
 have f1:(i<0)=False:=eq_false h0;by_cases h1:(Ik p).length<=i
 .rw[if_neg AA];have f2:(((Ik p).length:Int)<=i)=True:=eq_true h1;simp only[go_sem];refine Ab hk AB ?_;simp only[go_sem,f1,f2,ge_iff_le];exact Gr rfl
 have f2:(((Ik p).length:Int)<=i)=False:=eq_false h1;obtain⟨k,rfl⟩:∃ k:Nat,i=k:=⟨i.toNat,by omega⟩;rw[if_pos AA,Nk];obtain⟨r,hr⟩:∃ r,(Ik p)[k]?=some r:=⟨_,Ca AA⟩;obtain⟨nm,ln,n,rfl⟩:=A4l r (Gx hr);have hg:(Ik p).getD k Ao1=Jx nm ln n:=by rw[D3,hr];rfl
 rw[hg];unfold Jx at hr ⊢;simp only[go_sem];refine Ab hk AB ?_;simp only[go_sem,f1,f2,ge_iff_le,hr];exact Gr rfl
def H1(p:Gp):List (List UInt8 × List (List UInt8)):=p.thrs.map fun t=>(t.nm,Sp.hdss t.body)
def Gf(p q:Gp):List Int:=Ll (H1 p) (H1 q)
def Ba6{p q:Gp}(h:Wc p q=true):(p.thrs.map fun t=>t.nm)=q.thrs.map fun t=>t.nm:=by
 unfold Wc at h;simp only[Ai,beq_iff_eq]at h;obtain⟨-,h1,h2⟩:=h;revert h1 h2;generalize p.thrs=L;generalize q.thrs=L'
 induction L generalizing L' with
 | nil=>intro h1 _;cases L' with
  | nil=>rfl
  | cons _ _=>simp at h1
 | cons a L ih=>intro h1 h2;cases L' with
  | nil=>simp at h1
  | cons b L'=>
   simp only[List.zip_cons_cons,B5,Ai]at h2;have h3:=h2.1;unfold Wb at h3;simp only[Ai,beq_iff_eq]at h3;rw[Az,Az,h3.1,ih L' (by simpa using h1) h2.2]
def Aaa:∀ L:List Tp,(G7 (L.map fun t=>(t.nm,Sp.hdss t.body))).length=((L.map fun t=>F2 t.nm [] (Sp.hdss t.body)).flatten).length
 | []=>rfl
 | t::L=>by rw[Az,Ad5,Az,Fg,Ar,Ar,Au,Z9,Aaa L]
def Ajk(p q:Gp):(Gf p q).length=(Ik p).length:=by
 unfold Gf;rw[Aja];exact Aaa p.thrs
def Bf8{keep:List Nat}{c:AC}{id:Nat}{k:List It}{e:Env}{σ:St}{Q:Env->St->Prop}(P:Env->St->Prop)(h1:∀ k',(∀ e σ,P e σ->W TT PT k' e σ Q)->W TT PT (.l keep c::.b id::k') e σ Q)(h2:∀ e σ,P e σ->W TT PT k e σ Q):W TT PT (.l keep c::.b id::k) e σ Q:=h1 k h2
structure PY (p:Gp):Prop where
 px:PX p
 sz:∀ t∈p.thrs,Sp.szs t.body<=4096
def Ak5{p:Gp}(h:PX p):(G7 (H1 p)).length<=1000000000000:=by
 have h1:(G7 (H1 p)).length=(Ik p).length:=Aaa p.thrs;have h2:(Ik p).length=_:=Aka p.thrs;have h3:=Abc h.sz;have h4:p.thrs.length*10000<=100000000*10000:=E1 _ h.few;omega
def A66{α β:Type}[DecidableEq α][DecidableEq β](P Q:List (β × List α))(i:Nat):(Ll (P.take i) Q).length<=(G7 P).length:=by
 rw[Aja];exact Ako P i
def Asb{p:Gp}{i:Nat}{x:Tp}(h:p.thrs[i]?=some x):(H1 p)[i]?=some (x.nm,Sp.hdss x.body):=by
 grind[H1]
def Aq0(p:Gp):(H1 p).length=p.thrs.length:=by grind[H1]
def Bf9{α:Type}[DecidableEq α]{X Y:List α}{m:Nat}{v:Int}(h:(Et 0 X Y)[m]?=some v): -1<=v/\v<Y.length:=by
 rcases Aex X 0 Y m v h with rfl | ⟨k,rfl,h1,-⟩
 .omega
 .omega
def A67{b:Nat}{A:List Int}{m:Nat}{v:Int}(h:A[m]?=some v):Me b (A.take (m+1))=Me b (A.take m)++[if 0<=v then v+b else v]:=by
 grind[Me,List.take_add_one,Option.toList_some]
def Akb(a b:List Int):Bb (a++b)=Bb a++Bb b:=by grind[Bb]
structure MQ (p q:Gp) (s:St) (u:V) (L:List Int):Prop where
 gw:GW s 1 3 2 u (Bb L)
 s0:s[0]?=some (gO p)
 s1:s[1]?=some (gO q)
def Azw{p q:Gp}{s:St}{u:V}{L:List Int}(h:MQ p q s u L):2<=s.length:=(Al.1 h.s1).1
def Bga{p q:Gp}{s:St}{u:V}{L:List Int}(h:MQ p q s u L)(l:St):MQ p q (s++l) u L:=⟨Gm h.gw,Bs h.s0,Bs h.s1⟩
def Blr{p q:Gp}{s:St}{u:V}{L:List Int}(h:MQ p q s u L)(v:Int)(hb:L.length<=2000000000000):∃ u' s',Dv 8 (1,3) u (.lst 1 [[iV v]]) s=some (u',s')/\MQ p q s' u' (L++[v])/\u'.cellB=true:=by
 have hl:=Azw h;obtain⟨u',s',ha,g',l',kp,-,-⟩:=O7 (bytes:=8) (y:=.lst 1 [[iV v]]) (ys:=[[iV v]]) h.gw AA rfl AA (O3 _) AE AN (by grind[Hj]);refine⟨u',s',ha,⟨?_,?_,?_⟩,Ce g'⟩
 .rw[Akb];exact g'
 .rw[kp 0 AA fun e=>by have:=(Dm h.gw 0 e).1;omega];exact h.s0
 .rw[kp 1 AA fun e=>by have:=(Dm h.gw 1 e).1;omega];exact h.s1
def Bls{p q:Gp}{s:St}{u:V}{L:List Int}(h:MQ p q s u L):FR u s (SL true 0 (Bb L)):=Ru h.gw AA (O3 L) (Xu L)
set_option maxHeartbeats 4000000 in
def Akc{p q:Gp}(hp:PY p)(hq:PY q):Fn TT PT 16 [.agg p.row,.agg q.row] (SL true 0 (Bb (Gf p q))):=by
 have ll:=Ak5 hp.px;have lq:=Ak5 hq.px;have kg:=hp.px.few;have ki:=hq.px.few;have jc:=Aj9 hp.px;have jd:=Aj9 hq.px;have qh:=Um p;have jS:=Um q;have qf:=Fv p;have qR:=Fv q;have jL:(p.thrs.map Dh).length=p.thrs.length:=Au ..;have jM:(q.thrs.map Tp.row).length=q.thrs.length:=Au ..;rw[qf]at jc qh ⊢;rw[qR]at jd jS ⊢;refine Bj T16 rfl ?_;have m0:MQ p q [gO p,gO q] .nils []:=⟨Ds,rfl,rfl⟩;simp only[go_sem];refine Af AD ?_;simp only[go_sem];refine Bg jc AB ?_;simp only[go_sem];refine Bg jd AB ?_;simp only[go_sem,jL];unfold Gf;generalize hP:H1 p=P at *;generalize hQ:H1 q=Q at *;refine Bk (α:=Nat × St × V) (fun a=>p.thrs.length - a.1) (fun a=>[(2,.ptr 0 0 0),(3,.ptr 1 0 0),(6,.lst 0 (q.thrs.map Dh)),(7,a.2.2),(20,.lst 0 (p.thrs.map Dh)),(21,iV (p.thrs.length:Int)),(22,iV (a.1:Int))]) (fun a=>a.2.1) (fun a=>a.1<=p.thrs.length/\MQ p q a.2.1 a.2.2 (Ll (P.take a.1) Q)) ?_ (0,_,.nils) ⟨Ax _,m0⟩;clear m0;rintro⟨i,s,u⟩ ⟨hi,hm⟩ ih;simp only at hi hm ih;refine Bd Bok ?_;rcases Bh i p.thrs.length with qv | qv;rotate_left
 .have qk:i=p.thrs.length:=by omega
  have jz:P.length=p.thrs.length:=by rw[<-hP,Aq0]
  rw[qk,<-jz,Db]at hm;simp only[go_sem,Bl qv];exact Bls hm
 obtain⟨x,hx,-,qY⟩:=Bq qv;have qG:=Ul x;have jA:P[i]?=some (x.nm,Sp.hdss x.body):=by rw[<-hP];exact Asb hx
 have qD:((Sp.hdss x.body).map fun x=>[V.str x]).length=(Sp.hdss x.body).length:=Au ..;have jX:(Sp.hdss x.body).length<=4096:=by rw[Lh];exact hp.sz x qY
 have qw:Dh x=[SL true 0 ((Sp.hdss x.body).map fun x=>[V.str x])]:=rfl;have qm:=A29 Q jA;generalize hX:Sp.hdss x.body=X at *;have i1:IntKind.i64.wrap ((i:Int)+1)=((i+1:Nat):Int):=A1 AA;have qc:=Ce hm.gw;have qy:=hm.s0;have qs:=hm.s1;simp only[go_sem,Ay qv,As,hx,qw,qs,jM];refine Bf8 (fun e s'=>∃ (k:Nat) (v:V) (b:Nat) (Y:List (List UInt8)),e=[(2,.ptr 0 0 0),(3,.ptr 1 0 0),(6,.lst 0 (q.thrs.map Dh)),(7,u),(8,iV (i:Int)),(9,SL true 0 (X.map fun x=>[V.str x])),(10,iV (b:Int)),(11,v),(20,.lst 0 (p.thrs.map Dh)),(21,iV (p.thrs.length:Int)),(22,iV (i:Int)),(28,SL q.tz q.tt (q.thrs.map Tp.row)),(29,iV (q.thrs.length:Int)),(30,iV (k:Int))]/\v=SL true 0 (Y.map fun x=>[V.str x])/\Y.length<=4096/\b<=(G7 Q).length/\Ju (x.nm,X) Q=Me b (Et 0 X Y)/\MQ p q s' u (Ll (P.take i) Q)) ?_ ?_
 .intro k' jk;refine Bk (α:=Nat × St) (fun a=>q.thrs.length - a.1) (fun a=>[(2,.ptr 0 0 0),(3,.ptr 1 0 0),(6,.lst 0 (q.thrs.map Dh)),(7,u),(8,iV (i:Int)),(9,SL true 0 (X.map fun x=>[V.str x])),(10,iV ((Lp Q a.1:Nat):Int)),(11,.nils),(20,.lst 0 (p.thrs.map Dh)),(21,iV (p.thrs.length:Int)),(22,iV (i:Int)),(28,SL q.tz q.tt (q.thrs.map Tp.row)),(29,iV (q.thrs.length:Int)),(30,iV (a.1:Int))]) (fun a=>a.2) (fun a=>a.1<=q.thrs.length/\Uv x.nm Q a.1/\MQ p q a.2 u (Ll (P.take i) Q)) ?_ (0,s) ⟨Ax _,A80 _ _,hm⟩;clear hm qy qs;clear s;rintro⟨k,s⟩ ⟨hk,qz,hm⟩ kh;simp only at hk qz hm kh;refine Bd Boi ?_;rcases Bh k q.thrs.length with h' | h';rotate_left
  .have jG:k=Q.length:=by rw[<-hQ,Aq0];omega
   rw[jG]at qz;have:=(A5l (s:=X) qz).2;simp only[go_sem,Bl h'];exact jk _ _ ⟨k,.nils,Lp Q k,[],rfl,by simp[SL],by simp,Ako Q k,by grind,hm⟩
  obtain⟨y,hy,-,jY⟩:=Bq h';have js:=Ul y;have qI:Q[k]?=some (y.nm,Sp.hdss y.body):=by rw[<-hQ];exact Asb hy
  have qp:((Sp.hdss y.body).map fun x=>[V.str x]).length=(Sp.hdss y.body).length:=Au ..;have ja:(Sp.hdss y.body).length<=4096:=by rw[Lh];exact hq.sz y jY
  have qx:Dh y=[SL true 0 ((Sp.hdss y.body).map fun x=>[V.str x])]:=rfl;have jl:=A3x qI;have jJ:=Ako Q k;simp only at jl;generalize hY:Sp.hdss y.body=Y at *;have qe:=Azw hm;have k1:IntKind.i64.wrap ((k:Int)+1)=((k+1:Nat):Int):=A1 AA;have w1:IntKind.i64.wrap (((Lp Q k:Nat):Int)+(Y.length:Int))=((Lp Q (k+1):Nat):Int):=by rw[jl,Cs AA];rfl
  have qn:=Bga hm [tO y];obtain⟨s',e'⟩:∃ s':St,s'=s++[tO y]:=⟨_,rfl⟩;have jt:s'[s.length]?=some (tO y):=by rw[e'];simp
  rw[<-e']at qn;have qS:=qn.s0;by_cases e:y.nm=x.nm
  .have f1:(y.nm==x.nm)=true:=by simp[e]
   simp only[go_sem,Ay h',As,hy,js];rw[<-e'];refine Af AD ?_;simp only[go_sem,jt,qS,As,hx,qG];simp only[go_sem,f1,As,hy,qx];exact jk _ _ ⟨k,_,Lp Q k,Y,rfl,rfl,ja,jJ,A82 qz qI e,qn⟩
  .have f1:(y.nm==x.nm)=false:=by simp[e]
   simp only[go_sem,Ay h',As,hy,js];rw[<-e'];refine Af AD ?_;simp only[go_sem,jt,qS,As,hx,qG];simp only[go_sem,f1,As,hy,qx,qp,w1,k1];exact Aq (kh (k+1,s') AA ⟨h',A81 qz qI e,qn⟩) rfl
 clear hm qy qs;clear s;rintro _ s ⟨k,v,b,Y,rfl,rfl,qp,hb,qQ,hm⟩;have qa:=A9g true true 0 0 X Y jX qp;have jx:(Et 0 X Y).length=X.length:=Afj X 0 Y;generalize hA:Et 0 X Y=A at *;have jy:(Bb A).length=X.length:=by rw[Hj,jx]
 simp only[go_sem];refine Ab qa AB ?_;simp only[go_sem,jy];refine Bk (α:=Nat × St × V) (fun a=>X.length - a.1) (fun a=>[(2,.ptr 0 0 0),(3,.ptr 1 0 0),(6,.lst 0 (q.thrs.map Dh)),(7,a.2.2),(10,iV (b:Int)),(20,.lst 0 (p.thrs.map Dh)),(21,iV (p.thrs.length:Int)),(22,iV (i:Int)),(58,.lst 0 (Bb A)),(59,iV (X.length:Int)),(60,iV (a.1:Int))]) (fun a=>a.2.1) (fun a=>a.1<=X.length/\MQ p q a.2.1 a.2.2 (Ll (P.take i) Q++Me b (A.take a.1))) ?_ (0,s,u) ⟨Ax _,by grind[Me]⟩;clear hm qc;clear s u;rintro⟨m,s,u⟩ ⟨jP,hm⟩ mh;simp only at jP hm mh;refine Bd Boj ?_;rcases Bh m X.length with h' | h';rotate_left
 .have jO:m=A.length:=by omega
  rw[jO,Db,<-qQ,<-qm]at hm;simp only[go_sem,Bl h',i1];exact Aq (ih (i+1,s,u) AA ⟨qv,hm⟩) rfl
 obtain⟨v,hv⟩:∃ v,A[m]?=some v:=⟨_,Ca AA⟩;have kn:=Bf9 (X:=X) (Y:=Y) (m:=m) (by rw[hA];exact hv);have jp:(Bb A)[m]?=some [iV v]:=by unfold Bb;rw[As,hv];rfl
 have qt:=A67 (b:=b) hv;have m1:IntKind.i64.wrap ((m:Int)+1)=((m+1:Nat):Int):=A1 AA;have kj:=A66 P Q i
 obtain⟨w,hw⟩:∃ w:Int,w=if 0<=v then v+b else v:=⟨_,rfl⟩
 obtain⟨u',s',ha,qn,kc⟩:=Blr hm w (by grind[Me]);rw[Br,hw,<-qt]at qn;by_cases h0:0<=v
 .have f1:decide (0<=v)=true:=by simp[h0]
  have f2:IntKind.i64.wrap (v+(b:Int))=w:=by rw[hw,if_pos h0,Cs AA]
  simp only[go_sem,Ay h',jp,f1,f2,ha,m1];exact Aq (mh (m+1,s',u') AA ⟨h',qn⟩) rfl
 .have f1:decide (0<=v)=false:=by simp[h0]
  have f2:w=v:=by rw[hw,if_neg h0]
  rw[f2]at ha;simp only[go_sem,Ay h',jp,f1,ha,m1];exact Aq (mh (m+1,s',u') AA ⟨h',qn⟩) rfl
theorem Ak6{s:List UInt8}{g:Gp}(h:Jh s=some g):PY g:=by
 obtain⟨a,b,c⟩:=Ap2 h;exact⟨Bqn a b fun t ht=>by grind,c⟩
set_option maxHeartbeats 1000000 in
def Ba7(z1 z2:Bool)(t1 t2:Nat)(l:List Int)(hl:l.length<=1000000000000000):Fn TT PT 15 [SL z1 t1 (Bb l),SL z2 t2 (Bb l)] (.bool true):=by
 refine Bj T15 rfl ?_;have qr:=Hj l;simp only[go_sem,qr,bne_self_eq_false];refine Bk (α:=Nat) (fun i=>l.length - i) (fun i=>[(0,SL z1 t1 (Bb l)),(1,SL z2 t2 (Bb l)),(12,iV (l.length:Int)),(13,iV (i:Int))]) (fun _=>[]) (fun i=>i<=l.length) ?_ 0 (Ax _);intro i hi ih;refine Bd Boh ?_;rcases Bh i l.length with h' | h'
 .obtain⟨x,hx,-,-⟩:=Bq h';have qG:(Bb l)[i]?=some [iV x]:=by unfold Bb;rw[As,hx];rfl
  simp only[go_sem,Ay h'];refine Af AD ?_;simp only[go_sem,qG,bne_self_eq_false];simp only[go_sem,A1 (show i<9223372036854775807 by omega)];exact Aq (ih (i+1) AA h') rfl
 .simp only[go_sem,Bl h'];exact Ah rfl rfl
def Axz{s:List UInt8}{g:Gp}{v:V}(h:Jh s=some g)(hv:Ze s v):v=.tup [.agg g.row,iV 0,iV 0]:=by
 grind[Ze]
def Bgb{a b c:List UInt8}(h1:a≠c)(h2:b≠c)(h3:a≠b):Et 0 [a,b] [c,a,b]=[1,2]:=by
 have l1:E8 [b] [b]=1:=by simp[Rn,Vw]
 have l2:E8 [a,b] [c,a,b]=2:=by simp[Rn,Vw,Abl,h1,h2,h3]
 have e1:Og a [b] [c,a,b]=some 1:=by simp[Og,Y2,List.range_succ,List.range_zero,l1,l2,h1.symm]
 grind[A8u,Et]
def Br8:(Jh [118,97,114,32,120,59,32,116,104,114,101,97,100,32,109,97,105,110,40,41,32,123,32,120,32,61,32,49,59,32,120,32,61,32,50,59,32,125]).map H1=some [([109,97,105,110],[[120,32,61,32,49,59],[120,32,61,32,50,59]])]:=by kernel_rfl
def Br9:(Jh [118,97,114,32,120,59,32,116,104,114,101,97,100,32,109,97,105,110,40,41,32,123,32,120,32,61,32,51,59,32,120,32,61,32,49,59,32,120,32,61,32,50,59,32,125]).map H1=some [([109,97,105,110],[[120,32,61,32,51,59],[120,32,61,32,49,59],[120,32,61,32,50,59]])]:=by kernel_rfl
def Bqo{p q:Gp}(h1:H1 p=[([109,97,105,110],[[120,32,61,32,49,59],[120,32,61,32,50,59]])])(h2:H1 q=[([109,97,105,110],[[120,32,61,32,51,59],[120,32,61,32,49,59],[120,32,61,32,50,59]])]):Gf p q=[1,2]:=by
 unfold Gf;rw[h1,h2,Apy,show Ll ([]:List (List UInt8 × List (List UInt8))) [([109,97,105,110],[[120,32,61,32,51,59],[120,32,61,32,49,59],[120,32,61,32,50,59]])]=[] from rfl,B3];unfold Ju Me;rw[G6,if_pos rfl];simp[Bgb]
set_option maxHeartbeats 2000000 in
def Aq1:Fn TT PT 5 [] (.bool true):=by
 obtain⟨p,hp,sp⟩:=Ck.1 Br8;obtain⟨q,hq,sq⟩:=Ck.1 Br9;obtain⟨v,q1,hv⟩:=Ae9 [118,97,114,32,120,59,32,116,104,114,101,97,100,32,109,97,105,110,40,41,32,123,32,120,32,61,32,49,59,32,120,32,61,32,50,59,32,125];obtain⟨w,q2,hw⟩:=Ae9 [118,97,114,32,120,59,32,116,104,114,101,97,100,32,109,97,105,110,40,41,32,123,32,120,32,61,32,51,59,32,120,32,61,32,49,59,32,120,32,61,32,50,59,32,125];rw[Axz hp hv]at q1;rw[Axz hq hw]at q2;have hm:=Akc (Ak6 hp) (Ak6 hq);rw[Bqo sp sq]at hm;have hs:=Ba7 true false 0 1 [1,2] AG;rw[show SL false 1 (Bb [1,2])=.lst 1 [[iV 1],[iV 2]] from rfl]at hs;have qf:=Fv p;have qR:=Fv q;rw[qf]at q1 hm;rw[qR]at q2 hm;refine Bj T5 rfl ?_;simp only[go_sem];refine Ab q1 AB ?_;simp only[go_sem];refine Ab q2 AB ?_;simp only[go_sem,beq_self_eq_true];refine Ab hm AB ?_;simp only[go_sem];refine Ab hs AB ?_;simp only[go_sem];exact Ah rfl rfl
def Yi(nm:List UInt8):List (List UInt8)->List (List UInt8)->List Aj
 | _,[]=>[]
 | P,x::X=>(nm,x,(P.count x:Int))::Yi nm (P++[x]) X
theorem Ax0(nm:List UInt8):∀ (X P:List (List UInt8)),F2 nm P X=(Yi nm P X).map Aw
 | [],_=>rfl
 | x::X,P=>by rw[F2,Yi,Az,Ax0 nm X];rfl
def Ch(p:Gp):List Aj:=(p.thrs.map fun t=>Yi t.nm [] (Sp.hdss t.body)).flatten
theorem Af3(p:Gp):Ik p=(Ch p).map Aw:=by
 grind[Ik,Ch,List.map_congr_left,Ax0]
theorem Aab(p:Gp):(Ch p).length=(Ik p).length:=by grind[Af3]
def N7(k:Aj):Int:=k.2.2+3*(k.2.1.length:Int)+5*(k.1.length:Int)
def Qs(K:List Aj)(seen:Int)(i:Nat)(k:Aj):Aj:=
 if K.length=0\/(N7 k).tmod 7=0 then k else K.getD ((N7 k+seen*(i:Int)).tmod (K.length:Int)).toNat k
def Jr(K:List Aj)(seen:Int):Nat->List Aj->List Aj
 | _,[]=>[]
 | i,k::l=>Qs K seen i k::Jr K seen (i+1) l
theorem S3(K:List Aj)(seen:Int):∀ (l:List Aj) (i:Nat),(Jr K seen i l).length=l.length
 | [],_=>rfl
 | _::l,i=>by rw[Jr,Ao,Ao,S3 K seen l]
def Asd{K:List Aj}{seen:Int}{x:Aj}:∀ {l:List Aj} {i:Nat},x∈Jr K seen i l->x∈K\/x∈l
 | k::l,i,h=>by
  rw[Jr]at h;rcases Bp.1 h with rfl | h
  .unfold Qs
   split
   .exact .inr B7
   .rw[D3]
    cases hg:K[((N7 k+seen*(i:Int)).tmod (K.length:Int)).toNat]? with
    | none=>exact .inr B7
    | some y=>exact .inl (Gx hg)
  .exact(Asd h).imp id (Ci _)
def Ent.sto(K:List Aj)(e:Ent):Ent:=⟨e.kind,Jr K e.seen 0 e.sites,e.seen,e.missed,true,0⟩
def Ly(K:List Aj)(l:List Ent)(n:Nat):List Ent:=(l.take n).foldl (fun s e=>K1 (e.sto K) s) []
theorem Ase{K:List Aj}{l:List Ent}{i:Nat}{e:Ent}(h:l[i]?=some e):Ly K l (i+1)=K1 (e.sto K) (Ly K l i):=by
 grind[Ly,List.take_add_one]
def Afa(K:List Aj)(l:List Ent):∀ i,(Ly K l i).length<=i/\Ps (Ly K l i)/\∀ e∈Ly K l i,∃ x∈l,e=x.sto K
 | 0=>by simp[Ly,Ps]
 | i+1=>by
  obtain⟨h1,h2,h3⟩:=Afa K l i
  cases hx:l[i]? with
  | none=>
   grind[Ly,List.take_add_one]
  | some x=>
   rw[Ase hx];refine⟨by grind[At3],At1 h2,fun e he=>?_⟩;rcases At2 he with rfl | he
   .grind
   grind
def sI(K:List Aj)(k:Aj):Int:=match F9 K k with
 | some s=>(s:Int)
 | none => -1
def Blt{K:List Aj}{k:Aj}{i:Nat}(h:K[i]?=some k)(hn:∀ j,j<i->K[j]?≠some k):sI K k=(i:Int):=by
 unfold sI;rw[Ot.2 ⟨h,hn⟩]
def Bgc{K:List Aj}{k:Aj}(hn:∀ j,j<K.length->K[j]?≠some k):sI K k = -1:=by
 grind[sI,A33]
def An8(k x:Aj):Aci [2,2,1] (.agg (kR k)) (.agg (kR x))=some (decide (k=x)):=by
 obtain⟨a,b,c⟩:=k;obtain⟨a',b',c'⟩:=x;simp only[Aci,Ao,Di,and_self,if_true,Mi,eqS,C8,Prod.mk.injEq]
 grind
def Ba8(z:Bool)(t:Nat)(K:List Aj)(k:Aj)(hK:K.length<=1000000000000):Fn TT PT 30 [SL z t (K.map Aw),.agg (kR k)] (iV (sI K k)):=by
 have hl:(K.map Aw).length=K.length:=Au ..;refine Bj T30 rfl ?_;simp only[go_sem,hl];refine Bk (α:=Nat) (fun i=>K.length - i) (fun i=>[(0,SL z t (K.map Aw)),(3,.ptr 0 0 0),(7,iV (K.length:Int)),(8,iV (i:Int))]) (fun _=>[.row (kR k) 45 0 0]) (fun i=>i<=K.length/\∀ j,j<i->K[j]?≠some k) ?_ 0 ⟨Ax _,fun j hj=>by omega⟩;rintro i ⟨hi,hn⟩ ih;refine Bd Bou ?_;rcases Bh i K.length with h' | h'
 .obtain⟨x,hx,-,-⟩:=Bq h';have i1:IntKind.i64.wrap ((i:Int)+1)=((i+1:Nat):Int):=A1 AA;by_cases e:k=x
  .have f1:decide (k=x)=true:=decide_eq_true e;simp only[go_sem,Ay h'];refine Af AD ?_;simp only[go_sem,As,hx,Aw,An8,f1];exact Ah rfl (by rw[Blt (by grind) hn])
  .have f1:decide (k=x)=false:=decide_eq_false e;simp only[go_sem,Ay h'];refine Af AD ?_;simp only[go_sem,As,hx,Aw,An8,f1];simp only[go_sem,i1]
   exact Aq (ih (i+1) AA ⟨h',fun j hj=>by
    grind⟩) rfl
 .simp only[go_sem,Bl h'];have:i=K.length:=by omega
  subst this;exact Ah rfl (by rw[Bgc hn])
def Al7{p:Gp}(h:PX p)(k:Aj)(hK:(Ch p).length<=1000000000000):Fn TT PT 9 [.agg p.row,.agg (kR k)] (iV (sI (Ch p) k)):=by
 have hk:=Au8 h;rw[Af3]at hk;have hi:=Ba8 true 0 (Ch p) k hK;have qf:=Fv p;rw[qf]at hk ⊢;refine Bj T9 rfl ?_;simp only[go_sem];refine Af AD ?_;simp only[go_sem];refine Bg hk AB ?_;simp only[go_sem];refine Bg hi AB ?_;simp only[go_sem];exact Ah rfl rfl
def Ent.tri(x:Ent):(Int × List Aj) × Int × Int:=(x.ks,x.seen,x.missed)
def Sq(x e:Ent):Ent:={ x with seen:=max x.seen e.seen,missed:=min x.missed e.missed }
theorem Bgd(x e:Ent):(Sq x e).tri=Ij x.tri e.tri:=rfl
def J9(out:List Ent)(e:Ent):List Ent:=match out.getLast? with
 | some x=>if C7 x e<0 then out++[e] else out.dropLast++[Sq x e]
 | none=>[e]
def A68(out:List Ent)(e:Ent):(J9 out e).map Ent.tri=Ui I5 (out.map Ent.tri) e.tri:=by
 unfold J9 Ui;rw[List.getLast?_map]
 cases h:out.getLast? with
 | none=>rfl
 | some x=>
  simp only[Jc];have e1:I5 x.tri.1 e.tri.1=C7 x e:=rfl
  grind[Bgd]
def Asf:∀ (S out:List Ent),(S.foldl J9 out).map Ent.tri=(S.map Ent.tri).foldl (Ui I5) (out.map Ent.tri)
 | [],_=>rfl
 | e::S,out=>by rw[W2,Asf S,A68,Az,W2]
def K3(out:List Ent)(y:Ent):List Ent:=if Iw y out=true then out.modify (D0 y out) (fun x=>Sq x y) else out.take (D0 y out)++y::out.drop (D0 y out)
def Au9(y:Ent):∀ out:List Ent,(K3 out y).map Ent.tri=Ei I5 y.tri (out.map Ent.tri)
 | []=>by
  unfold K3;rw[if_neg (by simp[Iw])];rfl
 | x::out=>by
  have ih:=Au9 y out;have e1:I5 x.tri.1 y.tri.1=C7 x y:=rfl;rw[Az,Ei,e1];by_cases h:C7 x y<0
  .rw[if_pos h,<-ih];have hp:D0 y (x::out)=D0 y out+1:=by rw[D0,if_pos h]
   grind[Iw,K3]
  .have hp:D0 y (x::out)=0:=by rw[D0,if_neg h]
   rw[if_neg h];by_cases h2:x.tri.1=y.tri.1
   .have ht:Iw y (x::out)=true:=by
     unfold Iw;rw[hp];have:C7 x y=0:=(lin_p.zero _ _).2 h2;simp[this]
    rw[if_pos h2];unfold K3;rw[if_pos ht,hp];rfl
   .have ht:Iw y (x::out)=false:=by
     unfold Iw;rw[hp];have:C7 x y≠0:=fun e=>h2 ((lin_p.zero _ _).1 e)
     simp[this]
    simp_all [K3]
def Ava:∀ (L out:List Ent),(L.foldl K3 out).map Ent.tri=(L.map Ent.tri).foldl (fun s y=>Ei I5 y s) (out.map Ent.tri)
 | [],_=>rfl
 | e::L,out=>by rw[W2,Ava L,Au9,Az,W2]
def Lz(l:List Ent):Prop:=∀ x∈l,x.own=x
theorem Avb{x e:Ent}(h:x.own=x):(Sq x e).own=Sq x e:=by
 obtain⟨a,b,c,d,z,t⟩:=x;unfold Ent.own at h;simp only[Ent.mk.injEq]at h;obtain⟨-,-,-,-,rfl,rfl⟩:=h;rfl
def Ba9{out:List Ent}{e:Ent}(h:Lz out)(he:e.own=e):Lz (J9 out e):=by
 unfold J9
 split
 .rename_i x hx;have qY:x∈out:=List.mem_of_getLast? hx
  split
  .intro y hy;rcases Ct.1 hy with hy | hy
   .exact h y hy
   grind
  .intro y hy;rcases Ct.1 hy with hy | hy
   .exact h y (List.dropLast_subset _ hy)
   .rw[F5.1 hy];exact Avb (h x qY)
 .intro y hy
  grind
def Asg:∀ {S out:List Ent},Lz out->Lz S->Lz (S.foldl J9 out)
 | [],_,h,_=>h
 | e::S,out,h,hs=>Asg (S:=S) (out:=J9 out e) (Ba9 h (hs e B7)) fun x hx=>hs x (Ci _ hx)
def Bge{out:List Ent}{y:Ent}(h:Lz out)(hy:y.own=y):Lz (K3 out y):=by
 unfold K3
 split
 .intro x hx;obtain⟨i,hi⟩:=List.mem_iff_getElem?.1 hx;rw[List.getElem?_modify]at hi
  cases hg:out[i]? with
  | none=>grind
  | some y0=>
   rw[hg]at hi;have hm:=h y0 (Gx hg)
   grind[Avb]
 .intro x hx;rcases Ct.1 hx with hx | hx
  .exact h x (Ni hx)
  .rcases Bp.1 hx with rfl | hx
   .exact hy
   .exact h x (Zg hx)
def Avc:∀ {L out:List Ent},Lz out->Lz L->Lz (L.foldl K3 out)
 | [],_,h,_=>h
 | e::L,out,h,hs=>Avc (L:=L) (out:=K3 out e) (Bge h (hs e B7)) fun x hx=>hs x (Ci _ hx)
def Bgf{x y:Ent}(hx:x.own=x)(hy:y.own=y)(h:x.tri=y.tri):x=y:=by
 grind[Ent.own,Ent.tri,Ent.ks]
def Avd:∀ {a b:List Ent},Lz a->Lz b->a.map Ent.tri=b.map Ent.tri->a=b
 | [],[],_,_,_=>rfl
 | [],_::_,_,_,h=>by simp at h
 | _::_,[],_,_,h=>by simp at h
 | x::a,y::b,ha,hb,h=>by
  rw[Az,Az,List.cons.injEq]at h;rw[Bgf (ha x B7) (hb y B7) h.1,Avd (fun z hz=>ha z (Ci _ hz)) (fun z hz=>hb z (Ci _ hz)) h.2]
def Bba{L S:List Ent}(ho:Lz L)(hp:S.Perm L)(hs:S.Pairwise fun x y=>¬ C7 y x<0):S.foldl J9 []=L.foldl K3 []:=by
 have jQ:Lz S:=fun x hx=>ho x (hp.mem_iff.1 hx)
 refine Avd (Asg (fun x hx=>by cases hx) jQ) (Avc (fun x hx=>by cases hx) ho) ?_;rw[Asf,Ava]
 have h:=Br5 (c:=I5) lin_p (L:=L.map Ent.tri) (S:=S.map Ent.tri) (hp.symm.map _) (by
  rw[List.pairwise_map]
  exact hs.imp fun h=>h)
 grind[Aoy]
/-! an entry carried over -/
def N8(kind:Int)(ns:List Int):List Int:=if kind=1 then Gt ns else if kind=2 then Vy (fun x y=>decide (H7 Lib.compareInt x y<0)) ns (List.range ns.length) ns else ns
