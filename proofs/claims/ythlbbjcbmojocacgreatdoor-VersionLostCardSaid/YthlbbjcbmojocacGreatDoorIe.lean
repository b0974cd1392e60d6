/- Walks: statements as the static rules see them. -/
import Derived.Test.YthlbbjcbmojocacGreatDoorIb
set_option linter.all false
namespace Go.Proofs.YthlbbjcbmojocacGreatDoor.KM
open Go
def Aug{σ τ:St}{n i g off:Nat}{v:V}(h:Pq σ n (.ptr i g off) v=some τ):Z9 σ[i]? σ n i g off v=some (.und,τ):=by
 rw[<-Au9,Aew,h];rfl
def Bj1{σ:St}{w:Nat}{p:Gp}{th:Int}{uA uS uT:V}{X:List Sp}{S T:List (List V)}(h:WK σ w p th uA uS uT (X.map Sp.row) S T)(x:Sp)(hb:X.length<=1000):
  ∃ u' s3 j g Y,D6 176 (11,104) uA (.lst 1 [[iV 0,iV 0,.str [],.str [],.nils,iV 0,iV 0,.str [],.nils,.nils,.nils]]) σ=some (u',s3)/\u'.cellB=true/\u'=.sl j g 0 (X.length+1) 11 true/\s3[w]?=some (.row [SL p.dz p.dt (p.decls.map Dp.row),SL p.tz p.tt (p.thrs.map Tp.row),iV th,uA,uS,uT] 148 0 0) /\
   Pq s3 11 (.ptr j g (0+X.length*11)) (.agg x.row)=some (s3.set j Y)/\(s3.set j Y)[w]?=some (.row [SL p.dz p.dt (p.decls.map Dp.row),SL p.tz p.tt (p.thrs.map Tp.row),iV th,uA,uS,uT] 148 0 0) /\
   (∀ W',Pq (s3.set w W') 11 (.ptr j g (0+X.length*11)) (.agg x.row)=some ((s3.set w W').set j Y)/\(s3.set w W').set j Y=(s3.set j Y).set w W') /\
   WK ((s3.set j Y).set w (.row [SL p.dz p.dt (p.decls.map Dp.row),SL p.tz p.tt (p.thrs.map Tp.row),iV th,u',uS,uT] 148 0 0)) w p th u' uS uT ((X++[x]).map Sp.row) S T/\FW w σ ((s3.set j Y).set w (.row [SL p.dz p.dt (p.decls.map Dp.row),SL p.tz p.tt (p.thrs.map Tp.row),iV th,u',uS,uT] 148 0 0))/\(∀ i,i<σ.length->i ∉ fp σ w->s3[i]?=σ[i]?/\(s3.set j Y)[i]?=σ[i]?):=by
 have hw:=Rw h;have n1:(X.map Sp.row).length=X.length:=Ap ..;obtain⟨u',s3,e1,g1,hl,hk,hr,hc⟩:=V5 (bytes:=176) (row:=[iV 0,iV 0,.str [],.str [],.nils,iV 0,iV 0,.str [],.nils,.nils,.nils]) h.a (by omega) rfl rfl (by omega);obtain⟨j,g,cs',hu,hj,qn,ja⟩:=Bc5 (row:=x.row) g1 (Nf x) (Gu x);rw[n1]at hu qn;have qR:j∈u'.refs:=by rw[hu];simp[V.refs]
 have jc:=hr j qR
 have qS:j≠w:=fun e=>by
  rcases jc with h2 | h2
  .exact(h.ad j h2).1 e
  .omega
 have nn:∀ i,i<σ.length->i ∉ uA.refs->i ∉ u'.refs:=fun i hi h1 h2=>by
  rcases hr i h2 with h3 | h3
  .exact h1 h3
  .omega
 have nj:∀ i,i<σ.length->i ∉ uA.refs->i≠j:=fun i hi h1 e=>nn i hi h1 (e ▸ qR)
 have qQ:∀ i,i<σ.length->i ∉ uA.refs->s3[i]?=σ[i]?:=hk
 have qs:∀ i,i<σ.length->i ∉ uA.refs->(s3.set j (.row cs' 104 g 0))[i]?=σ[i]?:=fun i hi h1=>by
  rw[Bh (Ne.symm (nj i hi h1))];exact hk i hi h1
 have jb:=Rx h;have qX:∀ i,i ∉ fp σ w->i ∉ uA.refs:=fun i hi h1=>hi (by rw[jb];simp[h1])
 have wA:w ∉ uA.refs:=fun e=>(h.ad w e).1 rfl
 have qK:s3[w]?=_:=(qQ w hw wA).trans h.row;have qL:=(qs w hw wA).trans h.row;have c4:Cl (s3.set j (.row cs' 104 g 0)):=Gc (hc h.cl) (by simp only[Ob.refs,ja];simp);have qq:=qn s3 rfl;refine⟨u',s3,j,g,.row cs' 104 g 0,e1,I9 g1,hu,qK,qq.1,qL,fun W'=>⟨(qn (s3.set w W') (Bh (Ne.symm qS))).1,List.set_comm _ _ (Ne.symm qS)⟩,?_⟩
 have qy:=Zp (σ2:=s3.set j (.row cs' 104 g 0)) (th':=th) (A':=(X++[x]).map Sp.row) (vA:=u') h (by simpa using hl) (fun i hi h1 _ _=>qs i hi h1) (by rw[Dw];exact qq.2 hj) (Hm h.s fun i hi=>qs i (Cy h.s i hi) fun e=>(h.ad i e).2.1 hi) (Hm h.t fun i hi=>qs i (Cy h.t i hi) fun e=>(h.ad i e).2.2 hi) hr (fun i hi=>.inl hi) (fun i hi=>.inl hi)
  (fun i hi=>?_) (fun i hi=>(h.sd i hi).2) c4
 .exact⟨qy.1,qy.2,fun i hi h1=>⟨qQ i hi (qX i h1),qs i hi (qX i h1)⟩⟩
 .refine⟨fun e=>?_,fun e=>?_⟩
  .exact nn i (Cy h.s i e) (fun e2=>(h.ad i e2).2.1 e) hi
  .exact nn i (Cy h.t i e) (fun e2=>(h.ad i e2).2.2 e) hi
def Awx{σ:St}{w:Nat}{p:Gp}{th:Int}{uA uS uT:V}{X:List Sp}{x:Sp}{S T:List (List V)}(h:WK σ w p th uA uS uT ((X++[x]).map Sp.row) S T):
  ∃ u',Je 11 uA none (some (iV (X.length:Int))) none=some u'/\u'.cellB=true/\WK (σ.set w (.row [SL p.dz p.dt (p.decls.map Dp.row),SL p.tz p.tt (p.thrs.map Tp.row),iV th,u',uS,uT] 148 0 0)) w p th u' uS uT (X.map Sp.row) S T/\FW w σ (σ.set w (.row [SL p.dz p.dt (p.decls.map Dp.row),SL p.tz p.tt (p.thrs.map Tp.row),iV th,u',uS,uT] 148 0 0)):=by
 have h1:=h.a;rw[Dw,Bb,B7]at h1;obtain⟨u',e1,g1,hr⟩:=Aub h1;rw[Ap]at e1;exact⟨u',e1,I9 g1,Zp h (Ai _) (fun _ _ _ _ _=>rfl) g1 h.s h.t (fun j hj=>.inl (by rw[<-hr];exact hj)) (fun j hj=>.inl hj) (fun j hj=>.inl hj) (fun j hj=>(h.ad j (by rw[<-hr];exact hj)).2) (fun j hj=>(h.sd j hj).2) h.cl⟩
def Bj2(w:Nat)(p:Gp)(th:Int)(X:List Sp)(n:Nat)(S T:List (List UInt8))(σ:St)(v:V)(σ':St):Prop:=∃ e ln:Int,v=.tup [iV e,iV ln]/\∃ (vA vS vT:V) (S' T':List (List UInt8)),WK σ' w p th vA vS vT (X.map Sp.row) (S'.map fun x=>[V.str x]) (T'.map fun x=>[V.str x])/\FW w σ σ'/\S'.length<=S.length+n/\T'.length<=T.length+n
def Aqn{σ τ:St}{m j:Nat}(hw:FW m σ τ)(hl:j<σ.length)(hn:j ∉ fp σ m):τ[j]?=σ[j]?/\j ∉ fp τ m:=by
 refine⟨hw.2.1 j hl hn,fun hm=>?_⟩;rcases hw.2.2 j hm with h2 | h2
 .exact hn h2
 .omega
def A3x{σ τ:St}{m j:Nat}{x:Ob}(hw:FW m σ τ)(hj:σ[j]?=some x)(hn:j ∉ fp σ m):τ[j]?=some x/\j ∉ fp τ m:=by
 have h:=Aqn hw (Ak.1 hj).1 hn;exact⟨h.1.trans hj,h.2⟩
def Afb(p:Gp)(l:List Sp):Prop:=∀ (σ:St) (w:Nat) (th:Int) (uA uS uT:V) (X:List Sp) (S T:List (List UInt8)) (z:Bool) (t:Nat),WK σ w p th uA uS uT (X.map Sp.row) (S.map fun x=>[V.str x]) (T.map fun x=>[V.str x])->X.length<=6->S.length+Sp.szs l<=1000000->T.length+Sp.szs l<=1000000 ->
  ∃ v σ',Th TT PT 80 [.ptr w 0 0,SL z t (l.map Sp.row)] σ v σ'/\Bj2 w p th X (Sp.szs l) S T σ v σ'
set_option maxHeartbeats 8000000 in
def Aqo{p:Gp}(hp:LnG p){l:List Sp}(hl:C0 (l.map Sp.row)<=1000000000)(IH:∀ x∈l,Afb p x.body/\Afb p x.els):Afb p l:=by
 intro σ w th uA uS uT X S T z t h hX hS hT;have qu:=K2 (f:=Sp.row) (fun x=>by rw[Mu];omega) l;have n1:(l.map Sp.row).length=l.length:=Ap ..;have hw:=Rw h;refine Aiq T80 rfl ?_;simp only[go_sem]
 refine Bn (α:=Nat × St × V × V × V × List (List UInt8) × List (List UInt8)) (fun a=>l.length - a.1) (fun a=>[(0,.ptr w 0 0),(1,SL z t (l.map Sp.row)),(6,iV (a.1:Int))]) (fun a=>a.2.1)
  (fun a=>a.1<=l.length/\WK a.2.1 w p th a.2.2.1 a.2.2.2.1 a.2.2.2.2.1 (X.map Sp.row) (a.2.2.2.2.2.1.map fun x=>[V.str x]) (a.2.2.2.2.2.2.map fun x=>[V.str x])/\FW w σ a.2.1/\a.2.2.2.2.2.1.length+Sp.szs (l.drop a.1)<=S.length+Sp.szs l/\a.2.2.2.2.2.2.length+Sp.szs (l.drop a.1)<=T.length+Sp.szs l) ?_ (0,σ,uA,uS,uT,S,T) ⟨Au _,h,Ac3 _ _,by simp,by simp⟩
 clear h uA uS uT;rintro⟨i,s,vA,vS,vT,S1,T1⟩ ⟨hi,h1,f1,qE,qF⟩ ih;simp only at hi h1 f1 qE qF ih;refine Bl Bhq ?_;rcases Be i l.length with h' | h'
 .obtain⟨x,hx,hd,hm⟩:=By h';rw[hd,Sp.szs]at qE qF;have jj:=Mm x;have jy:=I7 (f:=Sp.row) hm;have qp:=Gu x;obtain⟨jn,jo⟩:=IH x hm;have h2:WK (s++[.row x.row 104 0 0]) w p th vA vS vT (X.map Sp.row) (S1.map fun x=>[V.str x]) (T1.map fun x=>[V.str x]):=Aip h1 _ (Iu h1.cl qp);have f2:FW w s (s++[.row x.row 104 0 0]):=Ac4 _ (Rw h1);obtain⟨_,s2,q1,e,rfl,wS,wT,S2,T2,h3,f3,bS,bT⟩:=Bc6 h2 hp (by omega) (by omega) (by omega) x (by omega)
  have jg:∀ {s':St} {w1 w2 w3:V} {A B C:List (List V)},WK s' w p th w1 w2 w3 A B C->FW w s s'->s.length ∉ fp s w:=fun _ _ hm=>by
   rw[Rx h1]at hm;simp only[Bj,B8]at hm;rcases hm with hm | hm | hm | hm
   .have:=Rw h1;omega
   .have:=Cy h1.a _ hm;omega
   .have:=Cy h1.s _ hm;omega
   .have:=Cy h1.t _ hm;omega
  have qW:s.length ∉ fp (s++[.row x.row 104 0 0]) w:=fun hm=>by
   rw[Rx h2,<-Rx h1]at hm;exact jg h1 (Ac3 _ _) hm
  have k2:s2[s.length]?=some (.row x.row 104 0 0):=by
   rw[f3.2.1 _ (by simp) qW];simp
  have qC:s.length ∉ fp s2 w:=fun hm=>by
   rcases f3.2.2 _ hm with h4 | h4
   .exact qW h4
   .simp at h4;omega
  have l3:=Zo h3.a;rw[Ap]at l3;have r3:=h3.row;have qb:=Fg x;have qr:=Fr f1 (Fr f2 f3);rw[qb]at q1 qp;have jD:=k2;rw[qb]at k2;simp only[go_sem,n1,A0 h',Aj,hx,qb];refine Ck q1 ?_;have e7:IntKind.i64.wrap ((X.length:Int)+1)=((X.length+1:Nat):Int):=by rw[Ch (by omega)];rfl
  by_cases c6:X.length=6
  .have f6:((6:Int)<((X.length+1:Nat):Int))=True:=eq_true (by omega);simp only[go_sem,r3,l3,e7,gt_iff_lt,f6,bne,Int.reduceBEq,A1];refine Ag (by kernel_rfl) ?_;simp only[go_sem,k2];exact⟨_,rfl,⟨rfl,rfl⟩,⟨qr.1,h3.cl⟩,_,_,rfl,_,_,_,S2,T2,h3,qr,by omega,by omega⟩
  have f6:((6:Int)<((X.length+1:Nat):Int))=False:=eq_false (by omega);by_cases e0:e=0;rotate_left
  .have y0:(e==0)=false:=by simp[e0]
   simp only[go_sem,r3,l3,e7,gt_iff_lt,f6,bne,y0,A1];refine Ag (by kernel_rfl) ?_;simp only[go_sem,k2];exact⟨_,rfl,⟨rfl,rfl⟩,⟨qr.1,h3.cl⟩,_,_,rfl,_,_,_,S2,T2,h3,qr,by omega,by omega⟩
  subst e0;obtain⟨u',s3,j,g,Y,ha,qw,hu,jq,qq,r4,qm,h4,f4,qT⟩:=Bj1 h3 x (by omega);obtain⟨jA,jz⟩:=Oj qw;have k3:s3[s.length]?=_:=(qT s.length (Ak.1 k2).1 qC).1.trans k2;rw[qb]at qq;simp only[E3]at qq qm;have qM:=Aug qq;have qj:∀ W',Z9 (s3.set w W')[j]? (s3.set w W') 11 j g (X.length*11) (.agg x.row)=some (.und,(s3.set w W').set j Y):=fun W'=>Aug (qm W').1
  rw[qb]at qj;subst hu
  have qx:Ly 11 (.sl j g 0 (X.length+1) 11 true) (iV (X.length:Int))=some (.ptr j g (X.length*11)):=by
   have:=Avr (m:=11) (j:=j) (g:=g) (off:=0) (w:=true) (k:=.i64) (show X.length<X.length+1 by omega);rw[E3]at this;exact this
  simp only[go_sem,r3,l3,e7,gt_iff_lt,f6,bne,Int.reduceBEq,Ay];refine Bc2 9 12 [0,1,2,3,4,5,6,7,8,9,10,11,12] [0,1,2,3,4,5,6,7,10,11,12,8,9] [[],[0],[1],[2],[],[3],[],[0,1,2,3,4,5,6],[0,1,2,3,4,5,6,7],[0,1,2,3,4,5,6,7,8],[0,1,2,3,4,5,6,7],[0,1,2,3,4,5,6,7,10],[0,1,2,3,4,5,6,7,11,9]] [[],[0],[1],[2],[],[3],[],[0,1,2,3,4,5,6],[0,1,2,3,4,5,6,7],[0,1,2,3,4,5,6,7,8],[0,1,2,3,4,5,6,7,9],[0,1,2,3,4,5,6,7],[0,1,2,3,4,5,6,7,11,10]] (E:=?E) (S:=?S) (by kernel_rfl) ?h1 ?h2 ?h3
  case h1=>
   simp only[Dt,Jm,Sk,Lk,Aav,Am,C9,Nat.reduceAdd];simp only[go_sem,r3,l3,k2,ha];refine Ba ?_;simp only[go_sem,ha];refine Ba ?_;simp only[go_sem,qx,qM];refine Ba ?_;simp only[go_sem,r4];refine Ba ?_;simp only[go_sem];exact Bij
  case h2=>
   simp only[Dt,Jm,Sk,Lk,Aav,Am,C9,Nat.reduceAdd];simp only[go_sem,r3,l3,k2,ha];refine Ba ?_;simp only[go_sem,ha];refine Ba ?_;simp only[go_sem,jq];refine Ba ?_;simp only[go_sem,qx,qj];refine Ba ?_;simp only[go_sem];exact Bik rfl (qm _).2
  case h3=>
   have ji:s.length≠w:=fun e=>qC (by unfold fp;rw[e];exact C5)
   have k4:((s3.set j Y).set w (.row [SL p.dz p.dt (p.decls.map Dp.row),SL p.tz p.tt (p.thrs.map Tp.row),iV th,.sl j g 0 (X.length+1) 11 true,wS,wT] 148 0 0))[s.length]?=some (.row [iV x.op,iV x.line,.str x.nm,.str x.arg,SL x.iz x.it (x.idx.map Xp.row),iV x.ex.op,iV x.ex.n,.str x.ex.nm,SL x.ex.z x.ex.t (x.ex.l.map Xp.row),SL x.bz x.bt (x.body.map Sp.row),SL x.ez x.et (x.els.map Sp.row)] 104 0 0):=by rw[Bh (Ne.symm ji)];exact(qT s.length (Ak.1 k2).1 qC).2.trans k2
   have jp:=(Aqn f4 (Ak.1 k2).1 qC).2;obtain⟨_,s5,q5,e5,jE,rfl,xA,xS,xT,S5,T5,h5,f5,js,jt⟩:=jn _ w th _ _ _ (X++[x]) S2 T2 x.bz x.bt h4 (by simp;omega) (by omega) (by omega);have qP:=Fr qr (Fr f4 f5);obtain⟨k5,jH⟩:=A3x f5 k4 jp;simp only[go_sem,k4];refine Ck q5 ?_;cases y5:(e5==0)
   .obtain⟨u6,qz,qH,h7,f7⟩:=Awx h5;obtain⟨qi,qh⟩:=Oj qH;have r6:=h5.row;have l6:=Zo h5.a;rw[Ap,Al,Hw]at l6;have e8:IntKind.i64.wrap (((X.length+1:Nat):Int) - 1)=(X.length:Int):=by rw[Ch (by omega)];omega
    have g7:=Fr qP f7;simp only[go_sem,y5];refine Ag (by kernel_rfl) ?_;simp only[go_sem,r6,l6,e8,qz,qi,qh];refine Ba ?_;simp only[go_sem,bne,y5,A1,Ay,A2 (show i<9223372036854775807 by omega)];exact⟨_,rfl,⟨rfl,rfl⟩,⟨g7.1,h7.cl⟩,_,_,rfl,_,_,_,S5,T5,h7,g7,by omega,by omega⟩
   .obtain⟨_,s9,q9,e9,jF,rfl,zA,zS,zT,S9,T9,h9,f9,ju,jv⟩:=jo _ w th _ _ _ (X++[x]) S5 T5 x.ez x.et h5 (by simp;omega) (by omega) (by omega);have qY:=Fr qP f9;obtain⟨u6,qz,qH,h7,f7⟩:=Awx h9;obtain⟨qi,qh⟩:=Oj qH;have r6:=h9.row;have l6:=Zo h9.a;rw[Ap,Al,Hw]at l6;have e8:IntKind.i64.wrap (((X.length+1:Nat):Int) - 1)=(X.length:Int):=by rw[Ch (by omega)];omega
    have g7:=Fr qY f7;simp only[go_sem,y5,k5];refine Ck q9 ?_;simp only[go_sem];cases y9:(e9==0)
    .refine Ag (by kernel_rfl) ?_;simp only[go_sem,r6,l6,e8,qz,qi,qh];refine Ba ?_;simp only[go_sem,bne,y9,A1,Ay,A2 (show i<9223372036854775807 by omega)];exact⟨_,rfl,⟨rfl,rfl⟩,⟨g7.1,h7.cl⟩,_,_,rfl,_,_,_,S9,T9,h7,g7,by omega,by omega⟩
    .refine Ag (by kernel_rfl) ?_;simp only[go_sem,r6,l6,e8,qz,qi,qh];refine Ba ?_;simp only[go_sem,bne,y9,A1,Ay,A2 (show i<9223372036854775807 by omega)];exact As (ih (i+1,_,u6,zS,zT,S9,T9) (by simp only;omega) ⟨h',h7,g7,by simp only;omega,by simp only;omega⟩) rfl
 .simp only[go_sem,n1,Bq h'];rw[Fo h',Sp.szs]at qE qF;exact⟨_,rfl,⟨rfl,rfl⟩,⟨f1.1,h1.cl⟩,_,_,rfl,_,_,_,S1,T1,h1,f1,by omega,by omega⟩
def Xh(v:V):Prop:=∃ e ln:Int,v=.tup [iV e,iV ln]
set_option maxHeartbeats 4000000 in
def A0o(z:Bool)(t:Nat)(l:List Dp)(hl:l.length<=1000000000):∃ v,Fn TT PT 77 [SL z t (l.map Dp.row)] v/\Xh v:=by
 have n1:(l.map Dp.row).length=l.length:=Ap ..;refine Np T77 rfl ?_;simp only[go_sem];refine Bn (α:=Nat × St × Int × Int × Int × Int) (fun a=>l.length - a.1) (fun a=>[(0,SL z t (l.map Dp.row)),(4,iV a.2.2.1),(5,iV a.2.2.2.1),(6,iV a.2.2.2.2.1),(7,iV a.2.2.2.2.2),(8,iV (a.1:Int))]) (fun a=>a.2.1) (fun a=>a.1<=l.length) ?_ (0,[],0,0,0,0) (Au _);rintro⟨i,s,c4,c5,c6,c7⟩ hi ih;simp only at hi ih;refine Bl Bhl ?_;have qa:∀ (s:St) (e ln:Int),∃ v,some (V.tup [iV e,iV ln])=some v/\(Cm v=true/\v.refs=[]/\Ex [] v=some v)/\Xh v:=fun _ e ln=>⟨_,rfl,⟨rfl,rfl,rfl⟩,e,ln,rfl⟩
 rcases Be i l.length with h' | h';rotate_left
 .simp only[go_sem,n1,Bq h'];exact qa [] _ _
 obtain⟨x,hx,-,-⟩:=By h';have qb:x.row=[iV x.kind,iV x.line,.str x.nm,iV x.size,iV x.init,.str x.on]:=rfl;obtain⟨z2,t2,qe⟩:=Vi z t 6 (l.map Dp.row) .i64 i (by omega);rw[<-Sw]at qe;have hd:=Wl z2 t2 (l.take i) x.nm (by rw[Eg];omega);have ho:=Wl z2 t2 (l.take i) x.on (by rw[Eg];omega);simp only[go_sem,n1,A0 h',Aj,hx,qb];refine Ag (by kernel_rfl) ?_;simp only[go_sem,qe];refine Bk hd (by simp only[go_sem]) ?_;by_cases g1:0<=Bz (fun d:Dp=>d.nm==x.nm) (l.take i)
 .have f1:(0<=Bz (fun d:Dp=>d.nm==x.nm) (l.take i))=True:=eq_true g1;simp only[go_sem,f1,ge_iff_le];refine Ag (by kernel_rfl) ?_;simp only[go_sem];exact qa [] _ _
 have f1:(0<=Bz (fun d:Dp=>d.nm==x.nm) (l.take i))=False:=eq_false g1;by_cases g2:4<x.size
 .have f2:((4:Int)<x.size)=True:=eq_true g2;simp only[go_sem,f1,ge_iff_le,gt_iff_lt,f2];refine Ag (by kernel_rfl) ?_;simp only[go_sem];exact qa [] _ _
 have f2:((4:Int)<x.size)=False:=eq_false g2;by_cases h1:x.kind=1
 .have q1:(x.kind==1)=true:=by simp[h1]
  have q2:(x.kind==2)=false:=by simp[h1]
  have q3:(x.kind==3)=false:=by simp[h1]
  have q4:(x.kind==4)=false:=by simp[h1]
  have q5:(x.kind==5)=false:=by simp[h1]
  by_cases u4:12<(IntKind.i64.wrap (c4+max x.size 1))
  .have t4:((12:Int)<(IntKind.i64.wrap (c4+max x.size 1)))=True:=eq_true u4;simp only[go_sem,f1,ge_iff_le,gt_iff_lt,f2,q1,q2,q3,q4,q5,t4];refine Ag (by kernel_rfl) ?_;simp only[go_sem];exact qa [] _ _
  have t4:((12:Int)<(IntKind.i64.wrap (c4+max x.size 1)))=False:=eq_false u4;by_cases u5:4<c5
  .have t5:((4:Int)<c5)=True:=eq_true u5;simp only[go_sem,f1,ge_iff_le,gt_iff_lt,f2,q1,q2,q3,q4,q5,t4,t5];refine Ag (by kernel_rfl) ?_;simp only[go_sem];exact qa [] _ _
  have t5:((4:Int)<c5)=False:=eq_false u5;by_cases u6:2<c6
  .have t6:((2:Int)<c6)=True:=eq_true u6;simp only[go_sem,f1,ge_iff_le,gt_iff_lt,f2,q1,q2,q3,q4,q5,t4,t5,t6];refine Ag (by kernel_rfl) ?_;simp only[go_sem];exact qa [] _ _
  have t6:((2:Int)<c6)=False:=eq_false u6;by_cases u7:2<c7
  .have t7:((2:Int)<c7)=True:=eq_true u7;simp only[go_sem,f1,ge_iff_le,gt_iff_lt,f2,q1,q2,q3,q4,q5,t4,t5,t6,t7];refine Ag (by kernel_rfl) ?_;simp only[go_sem];exact qa [] _ _
  have t7:((2:Int)<c7)=False:=eq_false u7;simp only[go_sem,f1,ge_iff_le,gt_iff_lt,f2,q1,q2,q3,q4,q5,t4,t5,t6,t7,A2 (show i<9223372036854775807 by omega)];exact As (ih (i+1,_,(IntKind.i64.wrap (c4+max x.size 1)),c5,c6,c7) (by simp only;omega) h') rfl
 by_cases h2:x.kind=2
 .have q1:(x.kind==1)=false:=by simp[h2]
  have q2:(x.kind==2)=true:=by simp[h2]
  have q3:(x.kind==3)=false:=by simp[h2]
  have q4:(x.kind==4)=false:=by simp[h2]
  have q5:(x.kind==5)=false:=by simp[h2]
  by_cases u4:12<(IntKind.i64.wrap (c4+max x.size 1))
  .have t4:((12:Int)<(IntKind.i64.wrap (c4+max x.size 1)))=True:=eq_true u4;simp only[go_sem,f1,ge_iff_le,gt_iff_lt,f2,q1,q2,q3,q4,q5,t4];refine Ag (by kernel_rfl) ?_;simp only[go_sem];exact qa [] _ _
  have t4:((12:Int)<(IntKind.i64.wrap (c4+max x.size 1)))=False:=eq_false u4;by_cases u5:4<c5
  .have t5:((4:Int)<c5)=True:=eq_true u5;simp only[go_sem,f1,ge_iff_le,gt_iff_lt,f2,q1,q2,q3,q4,q5,t4,t5];refine Ag (by kernel_rfl) ?_;simp only[go_sem];exact qa [] _ _
  have t5:((4:Int)<c5)=False:=eq_false u5;by_cases u6:2<c6
  .have t6:((2:Int)<c6)=True:=eq_true u6;simp only[go_sem,f1,ge_iff_le,gt_iff_lt,f2,q1,q2,q3,q4,q5,t4,t5,t6];refine Ag (by kernel_rfl) ?_;simp only[go_sem];exact qa [] _ _
  have t6:((2:Int)<c6)=False:=eq_false u6;by_cases u7:2<c7
  .have t7:((2:Int)<c7)=True:=eq_true u7;simp only[go_sem,f1,ge_iff_le,gt_iff_lt,f2,q1,q2,q3,q4,q5,t4,t5,t6,t7];refine Ag (by kernel_rfl) ?_;simp only[go_sem];exact qa [] _ _
  have t7:((2:Int)<c7)=False:=eq_false u7;simp only[go_sem,f1,ge_iff_le,gt_iff_lt,f2,q1,q2,q3,q4,q5,t4,t5,t6,t7,A2 (show i<9223372036854775807 by omega)];exact As (ih (i+1,_,(IntKind.i64.wrap (c4+max x.size 1)),c5,c6,c7) (by simp only;omega) h') rfl
 by_cases h3:x.kind=3
 .have q1:(x.kind==1)=false:=by simp[h3]
  have q2:(x.kind==2)=false:=by simp[h3]
  have q3:(x.kind==3)=true:=by simp[h3]
  have q4:(x.kind==4)=false:=by simp[h3]
  have q5:(x.kind==5)=false:=by simp[h3]
  by_cases u4:12<c4
  .have t4:((12:Int)<c4)=True:=eq_true u4;simp only[go_sem,f1,ge_iff_le,gt_iff_lt,f2,q1,q2,q3,q4,q5,t4];refine Ag (by kernel_rfl) ?_;simp only[go_sem];exact qa [] _ _
  have t4:((12:Int)<c4)=False:=eq_false u4;by_cases u5:4<(IntKind.i64.wrap (c5+1))
  .have t5:((4:Int)<(IntKind.i64.wrap (c5+1)))=True:=eq_true u5;simp only[go_sem,f1,ge_iff_le,gt_iff_lt,f2,q1,q2,q3,q4,q5,t4,t5];refine Ag (by kernel_rfl) ?_;simp only[go_sem];exact qa [] _ _
  have t5:((4:Int)<(IntKind.i64.wrap (c5+1)))=False:=eq_false u5;by_cases u6:2<c6
  .have t6:((2:Int)<c6)=True:=eq_true u6;simp only[go_sem,f1,ge_iff_le,gt_iff_lt,f2,q1,q2,q3,q4,q5,t4,t5,t6];refine Ag (by kernel_rfl) ?_;simp only[go_sem];exact qa [] _ _
  have t6:((2:Int)<c6)=False:=eq_false u6;by_cases u7:2<c7
  .have t7:((2:Int)<c7)=True:=eq_true u7;simp only[go_sem,f1,ge_iff_le,gt_iff_lt,f2,q1,q2,q3,q4,q5,t4,t5,t6,t7];refine Ag (by kernel_rfl) ?_;simp only[go_sem];exact qa [] _ _
  have t7:((2:Int)<c7)=False:=eq_false u7;simp only[go_sem,f1,ge_iff_le,gt_iff_lt,f2,q1,q2,q3,q4,q5,t4,t5,t6,t7,A2 (show i<9223372036854775807 by omega)];exact As (ih (i+1,_,c4,(IntKind.i64.wrap (c5+1)),c6,c7) (by simp only;omega) h') rfl
 by_cases h4:x.kind=4
 .have q1:(x.kind==1)=false:=by simp[h4]
  have q2:(x.kind==2)=false:=by simp[h4]
  have q3:(x.kind==3)=false:=by simp[h4]
  have q4:(x.kind==4)=true:=by simp[h4]
  have q5:(x.kind==5)=false:=by simp[h4]
  by_cases u4:12<c4
  .have t4:((12:Int)<c4)=True:=eq_true u4;simp only[go_sem,f1,ge_iff_le,gt_iff_lt,f2,q1,q2,q3,q4,q5,t4];refine Ag (by kernel_rfl) ?_;simp only[go_sem];exact qa [] _ _
  have t4:((12:Int)<c4)=False:=eq_false u4;by_cases u5:4<(IntKind.i64.wrap (c5+1))
  .have t5:((4:Int)<(IntKind.i64.wrap (c5+1)))=True:=eq_true u5;simp only[go_sem,f1,ge_iff_le,gt_iff_lt,f2,q1,q2,q3,q4,q5,t4,t5];refine Ag (by kernel_rfl) ?_;simp only[go_sem];exact qa [] _ _
  have t5:((4:Int)<(IntKind.i64.wrap (c5+1)))=False:=eq_false u5;by_cases u6:2<c6
  .have t6:((2:Int)<c6)=True:=eq_true u6;simp only[go_sem,f1,ge_iff_le,gt_iff_lt,f2,q1,q2,q3,q4,q5,t4,t5,t6];refine Ag (by kernel_rfl) ?_;simp only[go_sem];exact qa [] _ _
  have t6:((2:Int)<c6)=False:=eq_false u6;by_cases u7:2<c7
  .have t7:((2:Int)<c7)=True:=eq_true u7;simp only[go_sem,f1,ge_iff_le,gt_iff_lt,f2,q1,q2,q3,q4,q5,t4,t5,t6,t7];refine Ag (by kernel_rfl) ?_;simp only[go_sem];exact qa [] _ _
  have t7:((2:Int)<c7)=False:=eq_false u7;simp only[go_sem,f1,ge_iff_le,gt_iff_lt,f2,q1,q2,q3,q4,q5,t4,t5,t6,t7,A2 (show i<9223372036854775807 by omega)];exact As (ih (i+1,_,c4,(IntKind.i64.wrap (c5+1)),c6,c7) (by simp only;omega) h') rfl
 by_cases h5:x.kind=5
 .have q1:(x.kind==1)=false:=by simp[h5]
  have q2:(x.kind==2)=false:=by simp[h5]
  have q3:(x.kind==3)=false:=by simp[h5]
  have q4:(x.kind==4)=false:=by simp[h5]
  have q5:(x.kind==5)=true:=by simp[h5]
  by_cases u4:12<c4
  .have t4:((12:Int)<c4)=True:=eq_true u4;simp only[go_sem,f1,ge_iff_le,gt_iff_lt,f2,q1,q2,q3,q4,q5,t4];refine Ag (by kernel_rfl) ?_;simp only[go_sem];exact qa [] _ _
  have t4:((12:Int)<c4)=False:=eq_false u4;by_cases u5:4<c5
  .have t5:((4:Int)<c5)=True:=eq_true u5;simp only[go_sem,f1,ge_iff_le,gt_iff_lt,f2,q1,q2,q3,q4,q5,t4,t5];refine Ag (by kernel_rfl) ?_;simp only[go_sem];exact qa [] _ _
  have t5:((4:Int)<c5)=False:=eq_false u5;by_cases u6:2<(IntKind.i64.wrap (c6+1))
  .have t6:((2:Int)<(IntKind.i64.wrap (c6+1)))=True:=eq_true u6;simp only[go_sem,f1,ge_iff_le,gt_iff_lt,f2,q1,q2,q3,q4,q5,t4,t5,t6];refine Ag (by kernel_rfl) ?_;simp only[go_sem];exact qa [] _ _
  have t6:((2:Int)<(IntKind.i64.wrap (c6+1)))=False:=eq_false u6;by_cases u7:2<c7
  .have t7:((2:Int)<c7)=True:=eq_true u7;simp only[go_sem,f1,ge_iff_le,gt_iff_lt,f2,q1,q2,q3,q4,q5,t4,t5,t6,t7];refine Ag (by kernel_rfl) ?_;simp only[go_sem];exact qa [] _ _
  have t7:((2:Int)<c7)=False:=eq_false u7;simp only[go_sem,f1,ge_iff_le,gt_iff_lt,f2,q1,q2,q3,q4,q5,t4,t5,t6,t7,A2 (show i<9223372036854775807 by omega)];refine Ag (by kernel_rfl) ?_;simp only[go_sem,qe];refine Bk ho (by simp only[go_sem]) ?_;by_cases g3:0<=Bz (fun d:Dp=>d.nm==x.on) (l.take i)
  .have g4:=(Ac5 (fun d:Dp=>d.nm==x.on) (l.take i)).2;obtain⟨k,hk⟩:∃ k:Nat,Bz (fun d:Dp=>d.nm==x.on) (l.take i)=k:=⟨_,(Aa0 g3).symm⟩;rw[hk,Eg]at g4;obtain⟨y,hy,-,-⟩:=By (l:=l) (i:=k) (by omega);have qB:y.row=[iV y.kind,iV y.line,.str y.nm,iV y.size,iV y.init,.str y.on]:=rfl;have f3:((k:Int)<0)=False:=eq_false (by omega);rw[hk];cases q3b:(y.kind==3)
   .simp only[go_sem,f3,Aj,hy,qB,q3b,bne,A1];refine Ag (by kernel_rfl) ?_;simp only[go_sem];exact qa [] _ _
   .simp only[go_sem,f3,Aj,hy,qB,q3b,bne,Ay,A2 (show i<9223372036854775807 by omega)];exact As (ih (i+1,_,c4,c5,(IntKind.i64.wrap (c6+1)),c7) (by simp only;omega) h') rfl
  .rw[Aue g3];simp only[go_sem,Int.reduceLT,Int.reduceNeg];refine Ag (by kernel_rfl) ?_;simp only[go_sem];exact qa [] _ _
 have q1:(x.kind==1)=false:=by simp[h1]
 have q2:(x.kind==2)=false:=by simp[h2]
 have q3:(x.kind==3)=false:=by simp[h3]
 have q4:(x.kind==4)=false:=by simp[h4]
 have q5:(x.kind==5)=false:=by simp[h5]
 by_cases u4:12<c4
 .have t4:((12:Int)<c4)=True:=eq_true u4;simp only[go_sem,f1,ge_iff_le,gt_iff_lt,f2,q1,q2,q3,q4,q5,t4];refine Ag (by kernel_rfl) ?_;simp only[go_sem];exact qa [] _ _
 have t4:((12:Int)<c4)=False:=eq_false u4;by_cases u5:4<c5
 .have t5:((4:Int)<c5)=True:=eq_true u5;simp only[go_sem,f1,ge_iff_le,gt_iff_lt,f2,q1,q2,q3,q4,q5,t4,t5];refine Ag (by kernel_rfl) ?_;simp only[go_sem];exact qa [] _ _
 have t5:((4:Int)<c5)=False:=eq_false u5;by_cases u6:2<c6
 .have t6:((2:Int)<c6)=True:=eq_true u6;simp only[go_sem,f1,ge_iff_le,gt_iff_lt,f2,q1,q2,q3,q4,q5,t4,t5,t6];refine Ag (by kernel_rfl) ?_;simp only[go_sem];exact qa [] _ _
 have t6:((2:Int)<c6)=False:=eq_false u6;by_cases u7:2<(IntKind.i64.wrap (c7+1))
 .have t7:((2:Int)<(IntKind.i64.wrap (c7+1)))=True:=eq_true u7;simp only[go_sem,f1,ge_iff_le,gt_iff_lt,f2,q1,q2,q3,q4,q5,t4,t5,t6,t7];refine Ag (by kernel_rfl) ?_;simp only[go_sem];exact qa [] _ _
 have t7:((2:Int)<(IntKind.i64.wrap (c7+1)))=False:=eq_false u7;simp only[go_sem,f1,ge_iff_le,gt_iff_lt,f2,q1,q2,q3,q4,q5,t4,t5,t6,t7,A2 (show i<9223372036854775807 by omega)];exact As (ih (i+1,_,c4,c5,c6,(IntKind.i64.wrap (c7+1))) (by simp only;omega) h') rfl
set_option maxHeartbeats 4000000 in
def Ax2{p:Gp}(hp:LnG p):∃ v,Fn TT PT 78 [.agg p.row] v/\Xh v:=by
 obtain⟨dz,dt,decls,tz,tt,thrs⟩:=p;obtain⟨h1,h2,h3⟩:=hp;simp only at h1 h2 h3 ⊢;unfold Gp.row;simp only;have n1:(decls.map Dp.row).length=decls.length:=Ap ..;have n2:(thrs.map Tp.row).length=thrs.length:=Ap ..;refine Np T78 rfl ?_;have qa:∀ (s:St) (e ln:Int),∃ v,some (V.tup [iV e,iV ln])=some v/\(Cm v=true/\v.refs=[]/\Ex [] v=some v)/\Xh v:=fun _ e ln=>⟨_,rfl,⟨rfl,rfl,rfl⟩,e,ln,rfl⟩
 simp only[go_sem];refine Bn (α:=Nat × St) (fun a=>thrs.length - a.1) (fun a=>[(1,.ptr 0 0 0),(4,iV (a.1:Int))]) (fun a=>a.2) (fun a=>a.1<=thrs.length/\a.2[0]?=some (.row [SL dz dt (decls.map Dp.row),SL tz tt (thrs.map Tp.row)] 29 0 0)) ?_ (0,_) ⟨Au _,rfl⟩;rintro⟨i,s⟩ ⟨hi,hs⟩ ih;simp only at hi hs ih;refine Bl Bhm ?_;rcases Be i thrs.length with h' | h'
 .obtain⟨x,hx,-,-⟩:=By h';have qb:x.row=[.str x.nm,iV x.line,SL x.lz x.lt (x.locals.map fun s=>[V.str s]),SL x.bz x.bt (x.body.map Sp.row)]:=rfl;obtain⟨s',ql⟩:∃ s',s'=s++[Ob.row [.str x.nm,iV x.line,SL x.lz x.lt (x.locals.map fun s=>[V.str s]),SL x.bz x.bt (x.body.map Sp.row)] 90 0 0]:=⟨_,rfl⟩;have k1:s'[s.length]?=some (.row [.str x.nm,iV x.line,SL x.lz x.lt (x.locals.map fun s=>[V.str s]),SL x.bz x.bt (x.body.map Sp.row)] 90 0 0):=by rw[ql,Co (Ai _),Gf];rfl
  have k0:s'[0]?=some (.row [SL dz dt (decls.map Dp.row),SL tz tt (thrs.map Tp.row)] 29 0 0):=by rw[ql];exact Bx hs
  have hd:=Wl dz dt decls x.nm (by omega);obtain⟨z2,t2,qe⟩:=Vi tz tt 4 (thrs.map Tp.row) .i64 i (by omega);rw[<-Sw]at qe;have ht:=Adz z2 t2 (thrs.take i) x.nm (by rw[Eg];omega);simp only[go_sem,hs,n2,A0 h',Aj,hx,qb];rw[<-ql];refine Ag (by kernel_rfl) ?_;simp only[go_sem,k0,k1];refine Bk hd (by simp only[go_sem]) ?_;by_cases g1:0<=Bz (fun d:Dp=>d.nm==x.nm) decls
  .have f1:(0<=Bz (fun d:Dp=>d.nm==x.nm) decls)=True:=eq_true g1;simp only[go_sem,f1,ge_iff_le];refine Ag (by kernel_rfl) ?_;simp only[go_sem,k1];exact qa [] _ _
  have f1:(0<=Bz (fun d:Dp=>d.nm==x.nm) decls)=False:=eq_false g1;simp only[go_sem,f1,ge_iff_le,k0,k1,qe];refine Bk ht (by simp only[go_sem]) ?_;by_cases g2:0<=Bz (fun d:Tp=>d.nm==x.nm) (thrs.take i)
  .have f2:(0<=Bz (fun d:Tp=>d.nm==x.nm) (thrs.take i))=True:=eq_true g2;simp only[go_sem,f2,ge_iff_le];refine Ag (by kernel_rfl) ?_;simp only[go_sem,k1];exact qa [] _ _
  have f2:(0<=Bz (fun d:Tp=>d.nm==x.nm) (thrs.take i))=False:=eq_false g2;simp only[go_sem,f2,ge_iff_le,A2 (show i<9223372036854775807 by omega)];exact As (ih (i+1,s') (by simp only;omega) ⟨h',k0⟩) rfl
 simp only[go_sem,hs,n2,Bq h'];clear ih;refine Bn (α:=Nat × St) (fun a=>thrs.length - a.1) (fun a=>[(1,.ptr 0 0 0),(6,iV (a.1:Int))]) (fun a=>a.2) (fun a=>a.1<=thrs.length/\a.2[0]?=some (.row [SL dz dt (decls.map Dp.row),SL tz tt (thrs.map Tp.row)] 29 0 0)) ?_ (0,s) ⟨Au _,hs⟩;clear hs hi h' i s;rintro⟨i,s⟩ ⟨hi,hs⟩ ih;simp only at hi hs ih;refine Bl Bho ?_;rcases Be i thrs.length with h' | h';rotate_left
 .simp only[go_sem,hs,n2,Bq h'];exact qa [] _ _
 obtain⟨x,hx,-,hm⟩:=By h';have jd:=h3 x hm;have n3:(x.locals.map fun s=>[V.str s]).length=x.locals.length:=Ap ..;have qb:x.row=[.str x.nm,iV x.line,SL x.lz x.lt (x.locals.map fun s=>[V.str s]),SL x.bz x.bt (x.body.map Sp.row)]:=rfl;obtain⟨s',ql⟩:∃ s',s'=s++[Ob.row [.str x.nm,iV x.line,SL x.lz x.lt (x.locals.map fun s=>[V.str s]),SL x.bz x.bt (x.body.map Sp.row)] 90 0 0]:=⟨_,rfl⟩;have k1:s'[s.length]?=some (.row [.str x.nm,iV x.line,SL x.lz x.lt (x.locals.map fun s=>[V.str s]),SL x.bz x.bt (x.body.map Sp.row)] 90 0 0):=by rw[ql,Co (Ai _),Gf];rfl
 have k0:s'[0]?=some (.row [SL dz dt (decls.map Dp.row),SL tz tt (thrs.map Tp.row)] 29 0 0):=by rw[ql];exact Bx hs
 by_cases g4:4<x.locals.length
 .have f4:((4:Int)<(x.locals.length:Int))=True:=eq_true (by omega);simp only[go_sem,hs,n2,A0 h',Aj,hx,qb];rw[<-ql];simp only[go_sem,k1,n3,gt_iff_lt,f4];refine Ag (by kernel_rfl) ?_;simp only[go_sem,k1];exact qa [] _ _
 have f4:((4:Int)<(x.locals.length:Int))=False:=eq_false (by omega);simp only[go_sem,hs,n2,A0 h',Aj,hx,qb];rw[<-ql];simp only[go_sem,k1,n3,gt_iff_lt,f4];refine Bn (α:=Nat) (fun k=>x.locals.length - k) (fun k=>[(1,.ptr 0 0 0),(6,iV (i:Int)),(7,.ptr s.length 0 0),(8,iV (k:Int))]) (fun _=>s') (fun k=>k<=x.locals.length) ?_ 0 (Au _);rintro k hk jh;refine Bl Bhn ?_;rcases Be k x.locals.length with g' | g';rotate_left
 .simp only[go_sem,k1,n3,Bq g',A2 (show i<9223372036854775807 by omega)];exact As (ih (i+1,s') (by simp only;omega) ⟨h',k0⟩) rfl
 obtain⟨y,hy,-,-⟩:=By g';have hd:=Wl dz dt decls y (by omega);have ht:=Adz tz tt thrs y (by omega);obtain⟨z2,t2,qe⟩:=Vi x.lz x.lt 1 (x.locals.map fun s=>[V.str s]) .i64 k (by omega);rw[<-Sw]at qe;have ha:=Wk z2 t2 (x.locals.take k) y (by rw[Eg];omega);simp only[go_sem,k1,k0,n3,A0 g',Aj,hy];refine Ad hd (by simp only[go_sem]) ?_;by_cases g1:0<=Bz (fun d:Dp=>d.nm==y) decls
 .have f1:(0<=Bz (fun d:Dp=>d.nm==y) decls)=True:=eq_true g1;simp only[go_sem,f1,ge_iff_le];refine Ag (by kernel_rfl) ?_;simp only[go_sem,k1];exact qa [] _ _
 have f1:(0<=Bz (fun d:Dp=>d.nm==y) decls)=False:=eq_false g1;simp only[go_sem,f1,ge_iff_le,k0,k1];refine Ad ht (by simp only[go_sem]) ?_;by_cases g2:0<=Bz (fun d:Tp=>d.nm==y) thrs
 .have f2:(0<=Bz (fun d:Tp=>d.nm==y) thrs)=True:=eq_true g2;simp only[go_sem,f2,ge_iff_le];refine Ag (by kernel_rfl) ?_;simp only[go_sem,k1];exact qa [] _ _
 have f2:(0<=Bz (fun d:Tp=>d.nm==y) thrs)=False:=eq_false g2;simp only[go_sem,f2,ge_iff_le,k1,qe];refine Ad ha (by simp only[go_sem]) ?_;by_cases g3:0<=Bz (·==y) (x.locals.take k)
 .have f3:(0<=Bz (·==y) (x.locals.take k))=True:=eq_true g3;simp only[go_sem,f3,ge_iff_le];refine Ag (by kernel_rfl) ?_;simp only[go_sem,k1];exact qa [] _ _
 have f3:(0<=Bz (·==y) (x.locals.take k))=False:=eq_false g3;simp only[go_sem,f3,ge_iff_le,A2 (show k<9223372036854775807 by omega)];exact As (jh (k+1) (by omega) g') rfl
def Ajl{p:Gp}(hp:LnG p):∀ (N:Nat) (l:List Sp),C0 (l.map Sp.row)<=N->N<=1000000000->Afb p l
 | 0,l,h,hN=>Aqo hp (by omega) fun x hx=>by
  have h1:=I7 (f:=Sp.row) hx;have h2:=Mu x;omega
 | N+1,l,h,hN=>Aqo hp (by omega) fun x hx=>by
  have h1:=I7 (f:=Sp.row) hx;have h2:=Mu x;exact⟨Ajl hp N x.body (by omega) (by omega),Ajl hp N x.els (by omega) (by omega)⟩
def M5(l:List Tp):Nat:=(l.map fun t=>Sp.szs t.body).sum
set_option maxHeartbeats 4000000 in
def A3y{p:Gp}(hb:C7 p.row<=1000000000)(hp:LnG p)(hz:M5 p.thrs<=1000000):∃ v,Fn TT PT 47 [.agg p.row] v/\Xh v:=by
 have hs:=Bcz p hb;have jx:=Aki p;obtain⟨_,qd,ed,ld,rfl⟩:=A0o p.dz p.dt p.decls hp.d;obtain⟨_,qt,et,lt,rfl⟩:=Ax2 hp;have qV:=Aem p;have n2:(p.thrs.map Tp.row).length=p.thrs.length:=Ap ..;have ht:=hp.t;obtain⟨jk,jl⟩:=A8l qV;rw[Ul]at hs qt qV ⊢;have qa:∀ (s:St) (e ln:Int),∃ v,some (V.tup [iV e,iV ln])=some v/\(Cm v=true/\v.refs=[]/\Ex [] v=some v)/\Xh v:=fun _ e ln=>⟨_,rfl,⟨rfl,rfl,rfl⟩,e,ln,rfl⟩
 refine Np T47 rfl ?_;cases hsh:shG p
 .rw[hsh]at hs;simp only[go_sem];refine Ad hs (by simp only[go_sem]) ?_;simp only[go_sem,A1];exact qa [] _ _
 rw[hsh]at hs;simp only[go_sem];refine Ad hs (by simp only[go_sem]) ?_;simp only[go_sem,Ay];refine Ad qd (by simp only[go_sem]) ?_;cases y1:(ed==0)
 .simp only[go_sem,y1,bne,A1];exact qa [] _ _
 by_cases g1:4<p.thrs.length
 .have f1:((4:Int)<(p.thrs.length:Int))=True:=eq_true (by omega);simp only[go_sem,y1,bne,Ay,n2,gt_iff_lt,f1];exact qa [] _ _
 have f1:((4:Int)<(p.thrs.length:Int))=False:=eq_false (by omega);simp only[go_sem,y1,bne,Ay,n2,gt_iff_lt,f1];refine Ad qt (by simp only[go_sem]) ?_;cases y2:(et==0)
 .simp only[go_sem,y2,bne,A1];exact qa [] _ _
 simp only[go_sem,y2,bne,Ay];refine Bn (α:=Nat × Int) (fun a=>p.thrs.length - a.1) (fun a=>[(1,.ptr 0 0 0),(8,iV a.2),(9,iV (a.1:Int))]) (fun _=>[.row [SL p.dz p.dt (p.decls.map Dp.row),SL p.tz p.tt (p.thrs.map Tp.row)] 29 0 0]) (fun a=>a.1<=p.thrs.length) ?_ (0,0) (Au _);rintro⟨i,n⟩ hi ih;simp only at hi ih;refine Bl Bg8 ?_;rcases Be i p.thrs.length with h' | h'
 .obtain⟨x,hx,-,hm⟩:=By h';have qG:=I7 (f:=Tp.row) hm;rw[Z4]at qG;have qb:x.row=[.str x.nm,iV x.line,SL x.lz x.lt (x.locals.map fun s=>[V.str s]),SL x.bz x.bt (x.body.map Sp.row)]:=rfl;obtain⟨_,qc,c,rfl⟩:=Ahv 1000000000 x.bz x.bt x.body (by omega) (Ai _);simp only[go_sem,n2,A0 h',Aj,hx,qb];refine Ad qc (by simp only[go_sem]) ?_;simp only[go_sem,A2 (show i<9223372036854775807 by omega)];exact As (ih (i+1,_) (by simp only;omega) h') rfl
 clear ih;by_cases g2:60<n
 .have f2:((60:Int)<n)=True:=eq_true g2;simp only[go_sem,n2,Bq h',gt_iff_lt,f2];exact qa [] _ _
 have f2:((60:Int)<n)=False:=eq_false g2;simp only[go_sem,n2,Bq h',gt_iff_lt,f2,jk,jl]
 have qN:WK [.row [SL p.dz p.dt (p.decls.map Dp.row),SL p.tz p.tt (p.thrs.map Tp.row)] 29 0 0,.row [SL p.dz p.dt (p.decls.map Dp.row),SL p.tz p.tt (p.thrs.map Tp.row),iV 0,.nils,.nils,.nils] 148 0 0] 1 p 0 .nils .nils .nils (([]:List Sp).map Sp.row) (([]:List (List UInt8)).map fun x=>[V.str x]) (([]:List (List UInt8)).map fun x=>[V.str x]):=by
  refine⟨rfl,Zn,Zn,Zn,by simp[V.refs],by simp[V.refs],by simp[V.refs],?_⟩;intro ob hm j hj;simp only[Bj,Qs,or_false]at hm;rcases hm with rfl | rfl
  .simp[Ob.refs,Ah,Ng]at hj
  .simp[Ob.refs,Ah,Ng,V.refs]at hj
 refine Bn (α:=Nat × St × Int × V × V × V × List (List UInt8) × List (List UInt8)) (fun a=>p.thrs.length - a.1) (fun a=>[(1,.ptr 0 0 0),(10,.ptr 1 0 0),(11,iV (a.1:Int))]) (fun a=>a.2.1)
  (fun a=>a.1<=p.thrs.length/\WK a.2.1 1 p a.2.2.1 a.2.2.2.1 a.2.2.2.2.1 a.2.2.2.2.2.1 (([]:List Sp).map Sp.row) (a.2.2.2.2.2.2.1.map fun x=>[V.str x]) (a.2.2.2.2.2.2.2.map fun x=>[V.str x])/\(a.2.1[0]?=some (.row [SL p.dz p.dt (p.decls.map Dp.row),SL p.tz p.tt (p.thrs.map Tp.row)] 29 0 0)/\0 ∉ fp a.2.1 1)/\a.2.2.2.2.2.2.1.length+M5 (p.thrs.drop a.1)<=1000000/\a.2.2.2.2.2.2.2.length+M5 (p.thrs.drop a.1)<=1000000) ?_ (0,_,0,_,_,_,[],[]) ⟨Au _,qN,⟨rfl,by rw[Rx qN];simp[V.refs]⟩,by simpa using hz,by simpa using hz⟩
 clear qN hi h' i g2 f2 n;rintro⟨i,s,th,uA,uS,uT,S,T⟩ ⟨hi,h1,⟨qo,qI⟩,hS,hT⟩ ih;simp only at hi h1 qo qI hS hT ih;refine Bl Bg9 ?_;rcases Be i p.thrs.length with h' | h';rotate_left
 .simp only[go_sem,qo,n2,Bq h'];exact qa [] _ _
 obtain⟨x,hx,hd,hm⟩:=By h';have qG:=I7 (f:=Tp.row) hm;rw[Z4]at qG;have qb:x.row=[.str x.nm,iV x.line,SL x.lz x.lt (x.locals.map fun s=>[V.str s]),SL x.bz x.bt (x.body.map Sp.row)]:=rfl;have jj:M5 (p.thrs.drop i)=Sp.szs x.body+M5 (p.thrs.drop (i+1)):=by rw[hd];simp[M5]
 obtain⟨h2,f2⟩:=Zp (th':=(i:Int)) h1 (Ai _) (fun _ _ _ _ _=>rfl) h1.a h1.s h1.t (fun j hj=>.inl hj) (fun j hj=>.inl hj) (fun j hj=>.inl hj) (fun j hj=>(h1.ad j hj).2) (fun j hj=>(h1.sd j hj).2) h1.cl;obtain⟨_,s2,q,⟨e,ln,rfl,vA,vS,vT,S2,T2,h3,f3,bS,bT⟩⟩:=Ajl hp 1000000000 x.body (by omega) (Ai _) _ _ _ _ _ _ [] S T x.bz x.bt h2 (by simp) (by omega) (by omega);have hr:=h1.row;have qO:=Fr f2 f3;have l0:=(Ak.1 qo).1;have k2:s2[0]?=_:=(qO.2.1 0 l0 qI).trans qo;have k1:(s.set 1 (.row [SL p.dz p.dt (p.decls.map Dp.row),SL p.tz p.tt (p.thrs.map Tp.row),iV (i:Int),uA,uS,uT] 148 0 0))[0]?=some (.row [SL p.dz p.dt (p.decls.map Dp.row),SL p.tz p.tt (p.thrs.map Tp.row)] 29 0 0):=by rw[Bh (by omega)];exact qo
 have jf:0 ∉ fp s2 1:=fun hm=>by
  rcases qO.2.2 0 hm with h4 | h4
  .exact qI h4
  .omega
 simp only[go_sem,qo,n2,A0 h',hr,k1,Aj,hx,qb];refine Ck q ?_;cases y3:(e==0)
 .simp only[go_sem,y3,bne,A1];exact qa [] _ _
 simp only[go_sem,y3,bne,Ay,A2 (show i<9223372036854775807 by omega)];exact As (ih (i+1,s2,_,vA,vS,vT,S2,T2) (by simp only;omega) ⟨h',h3,⟨k2,jf⟩,by simp only;omega,by simp only;omega⟩) rfl
/-! end of the cases -/
/-! end of the cases -/
def declsL:List Dp:=[⟨1,0,[120],0,0,[]⟩,⟨1,0,[121],0,1,[]⟩,⟨2,0,[118],0,0,[]⟩,⟨1,0,[113],2,0,[]⟩,⟨3,0,[109],0,0,[]⟩,⟨3,0,[110],0,0,[]⟩,⟨4,0,[114],0,0,[]⟩,⟨5,0,[99],0,0,[109]⟩,⟨6,0,[102],0,0,[]⟩]
def Agi:Ah (declsL.map Dp.row).flatten=[]:=by kernel_rfl
def A0p:FnO TT PT 44 [] (.sl 0 0 0 9 6 true) [.row (declsL.map Dp.row).flatten 86 0 0]:=by
 have hT:=T44
 obtain⟨F,h1,h2,h3⟩:=To (σ:=[]) (vs:=[]) (v:=.sl 0 0 0 9 6 true) (σ':=[.row (declsL.map Dp.row).flatten 86 0 0]) hT rfl (by simp only[go_sem];exact⟨rfl,rfl⟩) (by simp[V.refs]) rfl (Au _) (by
  intro ob qU i hi;simp only[Eo]at qU;subst qU;rw[Ob.refs,Agi]at hi
  cases hi)
 have e:=h1.symm.trans hT;cases e;exact⟨_,hT,rfl,rfl,h3⟩
def Am4(σ:St):CallS TT PT 44 [] σ (.sl σ.length 0 0 9 6 true) (σ++[.row (declsL.map Dp.row).flatten 86 0 0]):=by
 have h:=CallS.own (σ:=σ) (args:=[]) (Vq rfl) A0p
 have e1:own σ [] [.row (declsL.map Dp.row).flatten 86 0 0]=σ++[.row (declsL.map Dp.row).flatten 86 0 0]:=by
  unfold own;rw[Yf rfl];simp only[St.freeze,Bb,B7,Ob.ren];rw[Qz _ _ (by rw[Agi];simp)]
 have e2:(V.sl 0 0 0 9 6 true).ren (·+σ.length)=.sl σ.length 0 0 9 6 true:=by simp[V.ren]
 rw[e1,e2]at h;exact h
def MD(n:Nat)(D:List Dp):Prop:=(∀ d∈D,ShD d/\d.nm.length<=12/\d.on.length<=12)/\D.length<=n
def A0q:MD 9 declsL:=by
 refine⟨fun d hd=>?_,by decide⟩;simp only[declsL,Bj,Qs,or_false]at hd
 rcases hd with rfl | rfl | rfl | rfl | rfl | rfl | rfl | rfl | rfl<;>exact⟨⟨by decide,by decide,by decide,by decide,by decide⟩,by decide,by decide⟩
def H7{a b:AC}{k:List It}{e:Env}{σ:St}{Q:Env->St->Prop}(P:Env->St->Prop)(h1:∀ k',(∀ e σ,P e σ->W TT PT k' e σ Q)->W TT PT (.c a::k') e σ Q)(h2:∀ e σ,P e σ->W TT PT (.c b::k) e σ Q):W TT PT (.c (.seq a b)::k) e σ Q:=by
 rw[Aj1];exact h1 _ h2
def MT(t:Tp):Prop:=Lj t.nm/\((∀ s∈t.locals,Lj s)/\t.locals.length<=5)/\∃ k,k<=7/\(∀ s∈t.body,SB k s)/\t.body.length<=40
def Air{α:Type}{f:α->List UInt8}{M:Nat}:∀ {l:List α},(∀ x∈l,(f x).length<=M)->((l.map f).flatten).length<=l.length*M
 | [],_=>by simp
 | x::l,h=>by
  have h1:=h x C5;have h2:=Air (l:=l) fun y hy=>h y (C4 _ hy)
  rw[Bb,Dv,Al,Am,Ep];omega
def Aqp:∀ {l:List (List UInt8)},(∀ s∈l,s.length<=4)->(Fb l).length<=l.length*6
 | [],_=>by simp[Fb]
 | a::l,h=>by
  have h1:=h a C5;have h2:=Aqp (l:=l) fun y hy=>h y (C4 _ hy)
  have h3:=Aoa a l;rw[Am,Ep];omega
def zb7:∀ {k:Nat},k<=7->ZB k<=21845:=by
 intro k hk;have:k=0\/k=1\/k=2\/k=3\/k=4\/k=5\/k=6\/k=7:=by omega
 rcases this with rfl | rfl | rfl | rfl | rfl | rfl | rfl | rfl<;>decide
def Auh{t:Tp}(h:MT t):(Fj t).length<=900000000/\Sp.szs t.body<=1000000:=by
 obtain⟨h1,⟨h2,h3⟩,k,hk,h4,h5⟩:=h;have z:=zb7 hk;have a1:=Ads (d:=1) h4 (by omega);have a2:=Zj h4;have a3:=Aqp fun s hs=>(h2 s hs).2
 have a4:t.body.length*ZB k<=40*21845:=Nat.mul_le_mul h5 z;have a5:t.body.length*(1000*ZB k)<=40*(1000*21845):=Nat.mul_le_mul h5 (by omega);have a6:=h1.2;refine⟨?_,by omega⟩;unfold Fj;simp only[Al,Am,C9];omega
def Bil{D:List Dp}{L:List Tp}(hD:MD 16 D)(hL:∀ t∈L,MT t)(h5:L.length<=5)(h0:L≠[]):ShG ⟨true,0,D,true,0,L⟩/\(Hp ⟨true,0,D,true,0,L⟩).length<=10000000000/\∀ t∈L,Sp.szs t.body<=1000000:=by
 refine⟨⟨fun d hd=>(hD.1 d hd).1,fun t ht=>(hL t ht).1.1,fun t ht s hs=>((hL t ht).2.1.1 s hs).1,fun t ht s hs=>?_,h0⟩,?_,fun t ht=>(Auh (hL t ht)).2⟩
 .obtain⟨-,-,k,-,h4,-⟩:=hL t ht;exact(h4 s hs).1
 .have a1:=Air (f:=fun d:Dp=>Fu d++[59,10]) (M:=82) (l:=D) fun d hd=>by
   have:=Awt (hD.1 d hd).2.1 (hD.1 d hd).2.2;simp only[Al,Am,C9];omega
  have a2:=Air (f:=Fj) (M:=900000000) (l:=L) fun t ht=>(Auh (hL t ht)).1
  have a3:=hD.2;unfold Hp;rw[Al];simp only;omega
def A8n{ls:List (List UInt8)}(h:(ls.all fun x=>Cc x&&decide (x.length<=4))=true):∀ s∈ls,Lj s:=fun s hs=>by
 have:=Bp.1 h s hs;simp only[Af,decide_eq_true_eq]at this;exact this
structure MKr (σ:St) (m b:Nat) (uH:V) (H:List (List UInt8)):Prop where
 row:∃ (th left:Int) (se tx ao lp:Bool),σ[m]?=some (.row [.ptr b 0 0,iV th,iV left,.bool se,.bool tx,.bool ao,.bool lp,uH] 97 0 0)
 tape:TS σ b
 ne:m≠b
 h:GS σ 1 9 uH (H.map fun x=>[V.str x])
 hd:∀ j∈uH.refs,j≠m/\j≠b
 cl:Cl σ
def J4{σ:St}{m b:Nat}{uH:V}{H:List (List UInt8)}(h:MKr σ m b uH H):m<σ.length:=by
 obtain⟨_,_,_,_,_,_,hr⟩:=h.row;exact(Ak.1 hr).1
def He{σ:St}{m b:Nat}{uH:V}{H:List (List UInt8)}(h:MKr σ m b uH H):fp σ m=m::(b::uH.refs):=by
 obtain⟨_,_,_,_,_,_,hr⟩:=h.row;rw[Ajj hr];simp[Ah,V.refs]
def Pw{σ τ:St}{m b:Nat}{uH:V}{H:List (List UInt8)}(h:MKr σ m b uH H)(hc:Cl τ)(hm:τ[m]?=σ[m]?)(hb:TS τ b)(hk:∀ i∈uH.refs,τ[i]?=σ[i]?):MKr τ m b uH H:=by
 obtain⟨a1,a2,a3,a4,a5,a6,hr⟩:=h.row;exact⟨⟨a1,a2,a3,a4,a5,a6,by rw[hm];exact hr⟩,hb,h.ne,Hm h.h hk,h.hd,hc⟩
def Ac9{σ:St}{m b:Nat}{uH:V}{H:List (List UInt8)}(h:MKr σ m b uH H)(l:St)(hc:Cl (σ++l)):MKr (σ++l) m b uH H/\FW m σ (σ++l):=
 ⟨Pw h hc (B6 (J4 h)) (A76 h.tape) fun i hi=>B6 (Cy h.h i hi),Ac4 _ (J4 h)⟩
def A8o{σ τ:St}{b:Nat}(hc:Cl σ)(hw:TW σ τ b)(hl:τ.length=σ.length):Cl τ:=by
 intro ob hm j hj;obtain⟨i,hi,rfl⟩:=Qq hm;by_cases hb:i=b
 .subst hb;obtain⟨z,t,l,a,h1,-⟩:=hw.2.2.1;have:=(Ak.1 h1).2;rw[this,Am1]at hj;cases hj
 .have h2:=hw.2.1 i (by omega) hb;rw[Bc hi,Bc (by omega)]at h2;rw[Jo h2]at hj;rw[hl];exact hc _ (Fy _) j hj
def Po{σ:St}{m b:Nat}{uH:V}{H:List (List UInt8)}(h:MKr σ m b uH H)(n:Nat)(N:Int)(hN:N=n)(hn:n<=1000000000):∃ (r:Nat) (σ':St),Bv TT PT 45 [.ptr b 0 0,iV N] σ (iV (r:Int)) σ'/\MKr σ' m b uH H/\FW m σ σ'/\σ'.length=σ.length/\(r<n\/r=0)/\σ'[m]?=σ[m]?:=by
 subst hN;obtain⟨r,σ',h1,h2,h3,h4,-,-⟩:=Aqc h.tape n hn;have hf:=He h;have km:=h2.2.1 m (J4 h) h.ne;refine⟨r,σ',h1,Pw h (A8o h.cl h2 h3) km h2.2.2.1 fun i hi=>h2.2.1 i (Cy h.h i hi) (h.hd i hi).2,⟨by omega,fun j hj hn=>h2.2.1 j hj fun e=>hn (by rw[hf,e];simp),fun j hj=>?_⟩,h3,h4,km⟩;unfold fp at hj ⊢;rw[km]at hj;exact .inl hj
def Aui{σ:St}{m b:Nat}{uH:V}{H:List (List UInt8)}(h:MKr σ m b uH H)(th left:Int)(se tx ao lp:Bool):MKr (σ.set m (.row [.ptr b 0 0,iV th,iV left,.bool se,.bool tx,.bool ao,.bool lp,uH] 97 0 0)) m b uH H/\FW m σ (σ.set m (.row [.ptr b 0 0,iV th,iV left,.bool se,.bool tx,.bool ao,.bool lp,uH] 97 0 0)):=by
 have hm:=J4 h;have hf:=He h;have qk:Ah [.ptr b 0 0,iV th,iV left,.bool se,.bool tx,.bool ao,.bool lp,uH]=b::uH.refs:=by simp[Ah,V.refs]
 refine⟨⟨⟨th,left,se,tx,ao,lp,B5 hm⟩,?_,h.ne,Hm h.h fun i hi=>Bh (Ne.symm (h.hd i hi).1),h.hd,Gc h.cl fun i hi=>?_⟩,Ajk (Ac3 _ _) hm fun j hj=>?_⟩
 .obtain⟨z,t,l,a,h1,h2⟩:=h.tape;exact⟨z,t,l,a,by rw[Bh h.ne];exact h1,h2⟩
 .simp only[Ob.refs,qk,Bj]at hi;rcases hi with rfl | hi
  .exact Lx h.tape
  .exact Cy h.h i hi
 .rw[qk]at hj;rw[hf];exact .inl (C4 _ hj)
def Ad0{σ τ:St}{m b:Nat}{uH:V}{H:List (List UInt8)}{j:Nat}(h:MKr σ m b uH H)(hj:σ.length<=j):j ∉ fp σ m:=fun hm=>by
 rw[He h]at hm;simp only[Bj]at hm;rcases hm with rfl | rfl | hm
 .have:=J4 h;omega
 .have:=Lx h.tape;omega
 .have:=Cy h.h j hm;omega
def Ip{σ τ:St}{m j:Nat}{x:Ob}(hw:FW m σ τ)(hj:σ[j]?=some x)(hn:j ∉ fp σ m):τ[j]?=some x/\j ∉ fp τ m:=by
 have hl:=(Ak.1 hj).1;refine⟨by rw[hw.2.1 j hl hn];exact hj,fun hm=>?_⟩;rcases hw.2.2 j hm with h2 | h2
 .exact hn h2
 .omega
def Ad1{T:Nat->Option AF}{pr:Nat->Option (List V->Option V)}{f:Nat}{vs:List V}{σ σ':St}{v:V}(h:Th T pr f vs σ v σ'):Bv T pr f vs σ v σ':=
 let ⟨F,h1,_,h2,h3⟩:=h
 ⟨F,h1,h2,h3⟩
def A0r{j:Nat}(hj:j<6):∃ op:Int,([[iV 6],[iV 7],[iV 8],[iV 11],[iV 13],[iV 17]]:List (List V))[j]?=some [iV op]/\(6<=op/\op<=18):=by
 rcases(show j=0\/j=1\/j=2\/j=3\/j=4\/j=5 by omega) with rfl | rfl | rfl | rfl | rfl | rfl
 .exact⟨6,rfl,by omega⟩
 .exact⟨7,rfl,by omega⟩
 .exact⟨8,rfl,by omega⟩
 .exact⟨11,rfl,by omega⟩
 .exact⟨13,rfl,by omega⟩
 .exact⟨17,rfl,by omega⟩
def A8p(n:Int):Fn TT PT 49 [iV n] (.agg (Xp.row ⟨1,n,[],true,0,[]⟩)):=by
 refine Bo T49 rfl ?_;simp only[go_sem];exact Gm rfl
def Aen(nm:List UInt8):Fn TT PT 126 [.str nm] (.agg [iV 2,iV 0,.str nm,.nils]):=by
 have h:=A3k nm;rw[Bf]at h;exact h
def Afc(n:Int):Fn TT PT 49 [iV n] (.agg [iV 1,iV n,.str [],.nils]):=by
 have h:=A8p n;rw[Bf]at h;exact h
def M6:Nat->Nat
 | 0=>12
 | d+1=>2*M6 d+12
def MX(d:Nat)(x:Xp):Prop:=ShE x/\x.txt.length<=EB d/\C7 x.row<=M6 d
def MXp(d m b:Nat)(uH:V)(H:List (List UInt8))(σ:St):Prop:=∃ v σ',Th TT PT 124 [.ptr m 0 0,iV (d:Int)] σ v σ'/\(∃ x:Xp,v=.agg x.row/\MX d x)/\MKr σ' m b uH H/\FW m σ σ'
def Ad2(d:Nat):12<=M6 d:=by
 cases d<;>simp[M6]
def Aqq{d:Nat}(h:d≠0):M6 d=2*M6 (d - 1)+12:=by
 cases d with
 | zero=>exact absurd rfl h
 | succ d=>rfl
def Am5{d:Nat}(hd:d<=5)(ih:∀ d',d≠0->d'<=d - 1->∀ σ m b uH H,MKr σ m b uH H->MXp d' m b uH H σ){σ:St}{m b:Nat}{uH:V}{H:List (List UInt8)}(h:MKr σ m b uH H):MXp d m b uH H σ:=by
 have je:=J4 h
 suffices hh:∃ v σ',Th TT PT 124 [.ptr m 0 0,iV (d:Int)] σ v σ'/\((∃ x:Xp,v=.agg x.row/\MX d x)/\MKr σ' m b uH H/\FW m σ σ') from hh
 refine Aiq T124 rfl ?_;have z0:Cl (σ++[.row [iV 0,iV 0,.str [],.nils] 102 0 0]):=Iu h.cl rfl;obtain⟨s1,e1⟩:∃ s1:St,s1=σ++[.row [iV 0,iV 0,.str [],.nils] 102 0 0]:=⟨_,rfl⟩;obtain⟨h1,w1⟩:=Ac9 h [.row [iV 0,iV 0,.str [],.nils] 102 0 0] z0;rw[<-e1]at h1 w1;have k1:s1[σ.length]?=some (.row [iV 0,iV 0,.str [],.nils] 102 0 0):=by rw[e1];simp
 have n1:σ.length ∉ fp s1 m:=fun hm=>by
  rw[He h1,<-He h]at hm;exact Ad0 (τ:=σ) h (Ai _) hm
 obtain⟨_,_,_,_,_,_,m1⟩:=h1.row;obtain⟨k,s2,q2,h2,w2,l2,r2,m2⟩:=Po h1 10 10 rfl (by omega);have hk:k<10:=by omega
 obtain⟨k2,n2⟩:=Ip w2 k1 n1;rw[m1]at m2;have jG:=m2;have qD:=Fr w1 w2;rw[e1]at q2 m1
 have qa:∀ (e:Env) (s:St) (x:Xp),e.get 4=.ptr σ.length 0 0->MX d x->MKr s m b uH H->FW m σ s->s[σ.length]?=some (.row [iV 0,iV 0,.str [],.nils] 102 0 0)->σ.length ∉ fp s m ->
   ∃ v,Cd e (s.set σ.length (.row x.row 102 0 0)) [.cell 4 4 false]=some v/\(Cm v=true/\v.refs=[])/\(σ.length<=(s.set σ.length (.row x.row 102 0 0)).length/\Cl (s.set σ.length (.row x.row 102 0 0)))/\((∃ x:Xp,v=.agg x.row/\MX d x)/\MKr (s.set σ.length (.row x.row 102 0 0)) m b uH H/\FW m σ (s.set σ.length (.row x.row 102 0 0))):=fun e s x he hx hs hw hk hn=>by
  have hl:=(Ak.1 hk).1;have hc:Cl (s.set σ.length (.row x.row 102 0 0)):=Gc hs.cl (by simp only[Ob.refs,N9 (Du x)];simp);rw[He hs]at hn;simp only[Bj,not_or]at hn;refine⟨.agg x.row,Ur (B5 hl) he (A21 x),Bcs (Du x),⟨by simpa using hw.1,hc⟩,⟨x,rfl,hx⟩,Pw hs hc (Bh hn.1) ?_ (fun i hi=>Bh fun(e:σ.length=i)=>hn.2.2 (by rw[e];exact hi)),Auc hw (Ai _) je⟩;obtain⟨z,t,l,a,h1,h2⟩:=hs.tape;exact⟨z,t,l,a,by rw[Bh hn.2.1];exact h1,h2⟩
 simp only[go_sem,m1];refine Ac q2 ?_;have qv:(k<2\/(¬ k<2/\d=0/\7<=k))\/(2<=k/\k<7)\/(d≠0/\k=7)\/(d≠0/\8<=k):=by omega
 rcases qv with hA | hB | hC | hD
 .obtain⟨j,s3,q3,h3,w3,l3,r3,m3⟩:=Po h2 4 4 rfl (by omega);obtain⟨k3,n3⟩:=Ip w3 k2 n2;rcases hA with h4 | ⟨h4,h0,jw⟩
  case' inl=>have f1:((k:Int)<2)=True:=eq_true (by omega)
  case' inr=>have f1:((k:Int)<2)=False:=eq_false (by omega)
  case' inr=>have f2:((d:Int)==0)=true:=by simp[h0]
  case' inr=>have f3:((7:Int)<=(k:Int))=True:=eq_true (by omega)
  case' inl=>simp only[go_sem,m2,f1]
  case' inr=>simp only[go_sem,m2,f1,f2,f3,ge_iff_le]
  all_goals
   refine Ac q3 ?_;simp only[go_sem];refine Ad (Afc _) rfl ?_;simp only[go_sem,k3];have qf:Xp.row ⟨1,j,[],true,0,[]⟩=[iV 1,iV (j:Int),.str [],.nils]:=by rw[Bf];rfl
   rw[<-qf];refine qa _ s3 ⟨1,j,[],true,0,[]⟩ (by rfl) ⟨.num (by omega),?_,?_⟩ h3 (Fr qD w3) k3 n3
   .rw[Fq];have:=V3 (j:Int);have:=Aek d;simp only[Ed,if_true];omega
   .rw[Gr];have:=Ad2 d;simp[C0];omega
 .obtain⟨j,s3,q3,h3,w3,l3,r3,m3⟩:=Po h2 7 7 rfl (by omega);obtain⟨k3,n3⟩:=Ip w3 k2 n2;obtain⟨nm,hn,qJ⟩:=Yj [[97],[98],[120],[121],[118],[120],[121]] (by kernel_rfl) (j:=j) (by simp;omega);simp only[Bb,B7]at hn;have f1:((k:Int)<2)=False:=eq_false (by omega);have f4:((k:Int)<7)=True:=eq_true (by omega);have f3:((7:Int)<=(k:Int))=False:=eq_false (by omega);cases f2:((d:Int)==0)
  all_goals
   simp only[go_sem,m2,f1,f2,f3,f4,ge_iff_le];refine Ac q3 ?_;simp only[go_sem,hn];refine Ad (Aen nm) rfl ?_;simp only[go_sem,k3];have qf:Xp.row ⟨2,0,nm,true,0,[]⟩=[iV 2,iV 0,.str nm,.nils]:=by rw[Bf];rfl
   rw[<-qf];refine qa _ s3 ⟨2,0,nm,true,0,[]⟩ (by rfl) ⟨.name qJ.1,?_,?_⟩ h3 (Fr qD w3) k3 n3
   .rw[Fq];have:=Aek d;have:=qJ.2;simp only[Ed,show((2:Int)=1)=False from eq_false (by omega),if_false,if_true];omega
   .rw[Gr];have:=Ad2 d;have:=qJ.2;simp[C0];omega
 .obtain⟨qg,rfl⟩:=hC;obtain⟨_,s3,q3,⟨x,rfl,hx⟩,h3,w3⟩:=ih 0 qg (by omega) s2 m b uH H h2;obtain⟨k3,n3⟩:=Ip w3 k2 n2;rw[show(((0:Nat):Int))=0 from rfl]at q3;have f2:((d:Int)==0)=false:=by simp[qg]
  have qp:=Du x;have qA:=Bf x;rw[qA]at q3 qp;simp only[go_sem,m2,f2,C6,Int.reduceBEq,Int.reduceLT];refine Ck q3 ?_;simp only[go_sem,k3];have qf:Xp.row ⟨3,0,[113],true,1,[x]⟩=[iV 3,iV 0,.str [113],.lst 1 [[iV x.op,iV x.n,.str x.nm,SL x.z x.t (x.l.map Xp.row)]]]:=by rw[Bf];simp only[Bb,B7,qA];rfl
  rw[<-qf];refine qa _ s3 ⟨3,0,[113],true,1,[x]⟩ (by rfl) ⟨.idx (by kernel_rfl) hx.1,?_,?_⟩ h3 (Fr qD w3) k3 n3
  .rw[Fq];have:=Ase qg;have:=hx.2.1;have:EB 0<=EB (d - 1):=Aek _;simp[Ed];omega
  .rw[Gr];have:=Aqq qg;have:=hx.2.2;have:M6 0<=M6 (d - 1):=Ad2 _;simp[C0];omega
 .obtain⟨qg,h8⟩:=hD;obtain⟨j,s3,q3,h3,w3,l3,r3,m3⟩:=Po h2 6 6 rfl (by omega);obtain⟨k3,n3⟩:=Ip w3 k2 n2;obtain⟨op,ho,jB⟩:=A0r (j:=j) (by omega);obtain⟨_,s4,q4,⟨x,rfl,hx⟩,h4,w4⟩:=ih (d - 1) qg (by omega) s3 m b uH H h3;obtain⟨k4,n4⟩:=Ip w4 k3 n3;obtain⟨_,s5,q5,⟨y,rfl,hy⟩,h5,w5⟩:=ih (d - 1) qg (by omega) s4 m b uH H h4;obtain⟨k5,n5⟩:=Ip w5 k4 n4;have f1:((k:Int)<2)=False:=eq_false (by omega);have f2:((d:Int)==0)=false:=by simp[qg]
  have f4:((k:Int)<7)=False:=eq_false (by omega);have f5:((k:Int)==7)=false:=by simp;omega
  have e3:IntKind.i64.wrap ((d:Int) - 1)=((d - 1:Nat):Int):=by rw[Ch (by omega)];omega
  have qu:=Asd op x y;have qp:=Du x;have jm:=Du y;have qA:=Bf x;have qB:=Bf y;have qf:Xp.row ⟨op,0,[],true,1,[x,y]⟩=[iV op,iV 0,.str [],.lst 1 [x.row,y.row]]:=by rw[Bf];rfl
  have jC:=qf;rw[qf]at qu;rw[qA]at q4 qp qu qf;rw[qB]at q5 jm qu qf;simp only[go_sem,m2,f1,f2,f4,f5];refine Ag (by kernel_rfl) ?_;simp only[go_sem,m2];refine Hh q3 ?_;simp only[go_sem,ho];refine wgR ?_;simp only[go_sem,e3];refine Hh (Ad1 q4) ?_;simp only[go_sem,e3];refine Hh (Ad1 q5) ?_;simp only[go_sem];refine Bk qu (by simp only[go_sem]) ?_;simp only[go_sem,k5];refine Ba ?_;simp only[go_sem];rw[<-qf];refine qa _ s5 ⟨op,0,[],true,1,[x,y]⟩ (by rfl) ⟨.bin (by omega) hx.1 hy.1,?_,?_⟩ h5 (Fr qD (Fr w3 (Fr w4 w5))) k5 n5
  .rw[Fq];have:=Ase qg;have h2:=(Nh (x.op,x.txt) (Ho op)).2;have qZ:=(Nh (y.op,y.txt) (Bw op+1)).2;simp only at h2 qZ;have h3:(Cs op).length<=2:=Asf _
   have h0:Ed op 0 [] [(x.op,x.txt),(y.op,y.txt)]=D7 (x.op,x.txt) (Ho op)++32::(Cs op++32::D7 (y.op,y.txt) (Bw op+1)):=by
    unfold Ed;rw[if_neg (by omega),if_neg (by omega)]
   have:=hx.2.1;have:=hy.2.1;simp only[Bb,B7,h0,Al,Am];omega
  .rw[Gr];have:=Aqq qg;have:=hx.2.2;have:=hy.2.2;simp[C0];omega
def Aqr:∀ (d:Nat),d<=5->∀ (d':Nat),d'<=d->∀ (σ:St) (m b:Nat) (uH:V) (H:List (List UInt8)),MKr σ m b uH H->MXp d' m b uH H σ
 | 0,hd,d',hd',σ,m,b,uH,H,h=>by
  obtain rfl:d'=0:=by omega
  exact Am5 hd (fun _ h0 _=>absurd rfl h0) h
 | d+1,hd,d',hd',σ,m,b,uH,H,h=>Am5 (by omega) (fun d2 h0 h2 σ m b uH H h=>Aqr d (by omega) d2 (by omega) σ m b uH H h) h
