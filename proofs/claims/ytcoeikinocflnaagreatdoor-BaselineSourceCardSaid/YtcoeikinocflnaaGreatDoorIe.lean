/- Walks: statements as the static rules see them. -/
import Derived.Test.YtcoeikinocflnaaGreatDoorId
set_option linter.all false
namespace Go.Proofs.YtcoeikinocflnaaGreatDoor.KM
open Go
theorem Ako{σ τ:St}{n i g off:Nat}{v:V}(h:Mr σ n (.ptr i g off) v=some τ):Vj σ[i]? σ n i g off v=some (.und,τ):=by
 rw[<-Alg,Y8,h];rfl
theorem A23{σ:St}{w:Nat}{p:Gp}{th:Int}{uA uS uT:V}{X:List Sp}{S T:List (List V)}(h:WK σ w p th uA uS uT (X.map Sp.row) S T)(x:Sp)(hb:X.length<=1000):
  ∃ u' s3 j g Y,Eu 176 (11,105) uA (.lst 1 [[.int .i64 0,.int .i64 0,.str [],.str [],.nils,.int .i64 0,.int .i64 0,.str [],.nils,.nils,.nils]]) σ=some (u',s3)/\u'.cellB=true/\u'=.sl j g 0 (X.length+1) 11 true/\s3[w]?=some (.row [SL p.dz p.dt (p.decls.map Dp.row),SL p.tz p.tt (p.thrs.map Tp.row),.int .i64 th,uA,uS,uT] 155 0 0) /\
   Mr s3 11 (.ptr j g (0+X.length*11)) (.agg x.row)=some (s3.set j Y)/\(s3.set j Y)[w]?=some (.row [SL p.dz p.dt (p.decls.map Dp.row),SL p.tz p.tt (p.thrs.map Tp.row),.int .i64 th,uA,uS,uT] 155 0 0) /\
   (∀ W',Mr (s3.set w W') 11 (.ptr j g (0+X.length*11)) (.agg x.row)=some ((s3.set w W').set j Y)/\(s3.set w W').set j Y=(s3.set j Y).set w W') /\
   WK ((s3.set j Y).set w (.row [SL p.dz p.dt (p.decls.map Dp.row),SL p.tz p.tt (p.thrs.map Tp.row),.int .i64 th,u',uS,uT] 155 0 0)) w p th u' uS uT ((X++[x]).map Sp.row) S T/\FW w σ ((s3.set j Y).set w (.row [SL p.dz p.dt (p.decls.map Dp.row),SL p.tz p.tt (p.thrs.map Tp.row),.int .i64 th,u',uS,uT] 155 0 0))/\(∀ i,i<σ.length->i ∉ fp σ w->s3[i]?=σ[i]?/\(s3.set j Y)[i]?=σ[i]?):=by
 have hw:=N6 h;have n1:(X.map Sp.row).length=X.length:=Bl ..;obtain⟨u',s3,e1,g1,hl,hk,hr,hc⟩:=Rd (bytes:=176) (row:=[.int .i64 0,.int .i64 0,.str [],.str [],.nils,.int .i64 0,.int .i64 0,.str [],.nils,.nils,.nils]) h.a (by omega) rfl rfl (by omega);obtain⟨j,g,cs',hu,hj,hput,hcr⟩:=Ax2 (row:=x.row) g1 (Lp x) (Fi x);rw[n1]at hu hput;have hju:j∈u'.refs:=by rw[hu];simp[V.refs]
 have hjr:=hr j hju
 have hjw:j≠w:=fun e=>by
  rcases hjr with h2 | h2
  ·exact(h.ad j h2).1 e
  ·omega
 have nn:∀ i,i<σ.length->i ∉ uA.refs->i ∉ u'.refs:=fun i hi h1 h2=>by
  rcases hr i h2 with h3 | h3
  ·exact h1 h3
  ·omega
 have nj:∀ i,i<σ.length->i ∉ uA.refs->i≠j:=fun i hi h1 e=>nn i hi h1 (e ▸ hju)
 have hB3:∀ i,i<σ.length->i ∉ uA.refs->s3[i]?=σ[i]?:=hk
 have hB4:∀ i,i<σ.length->i ∉ uA.refs->(s3.set j (.row cs' 105 g 0))[i]?=σ[i]?:=fun i hi h1=>by
  rw[Bc (Ne.symm (nj i hi h1))];exact hk i hi h1
 have hfp:=N7 h;have nfp:∀ i,i ∉ fp σ w->i ∉ uA.refs:=fun i hi h1=>hi (by rw[hfp];simp[h1])
 have wA:w ∉ uA.refs:=fun e=>(h.ad w e).1 rfl
 have row3:s3[w]?=_:=(hB3 w hw wA).trans h.row;have row4:=(hB4 w hw wA).trans h.row;have c4:Cl (s3.set j (.row cs' 105 g 0)):=Ge (hc h.cl) (by simp only[Ob.refs,hcr];simp);have st3:=hput s3 rfl;refine⟨u',s3,j,g,.row cs' 105 g 0,e1,Hg g1,hu,row3,st3.1,row4,fun W'=>⟨(hput (s3.set w W') (Bc (Ne.symm hjw))).1,List.set_comm _ _ (Ne.symm hjw)⟩,?_⟩
 have hnew:=U0 (σ2:=s3.set j (.row cs' 105 g 0)) (th':=th) (A':=(X++[x]).map Sp.row) (vA:=u') h (by simpa using hl) (fun i hi h1 _ _=>hB4 i hi h1) (by rw[Fb];exact st3.2 hj) (F5 h.s fun i hi=>hB4 i (Ch h.s i hi) fun e=>(h.ad i e).2.1 hi) (F5 h.t fun i hi=>hB4 i (Ch h.t i hi) fun e=>(h.ad i e).2.2 hi) hr (fun i hi=>.inl hi) (fun i hi=>.inl hi)
  (fun i hi=>?_) (fun i hi=>(h.sd i hi).2) c4
 ·exact⟨hnew.1,hnew.2,fun i hi h1=>⟨hB3 i hi (nfp i h1),hB4 i hi (nfp i h1)⟩⟩
 ·refine⟨fun e=>?_,fun e=>?_⟩
  ·exact nn i (Ch h.s i e) (fun e2=>(h.ad i e2).2.1 e) hi
  ·exact nn i (Ch h.t i e) (fun e2=>(h.ad i e2).2.2 e) hi
theorem Amc{σ:St}{w:Nat}{p:Gp}{th:Int}{uA uS uT:V}{X:List Sp}{x:Sp}{S T:List (List V)}(h:WK σ w p th uA uS uT ((X++[x]).map Sp.row) S T):
  ∃ u',M5 11 uA none (some (.int .i64 (X.length:Int))) none=some u'/\u'.cellB=true/\WK (σ.set w (.row [SL p.dz p.dt (p.decls.map Dp.row),SL p.tz p.tt (p.thrs.map Tp.row),.int .i64 th,u',uS,uT] 155 0 0)) w p th u' uS uT (X.map Sp.row) S T/\FW w σ (σ.set w (.row [SL p.dz p.dt (p.decls.map Dp.row),SL p.tz p.tt (p.thrs.map Tp.row),.int .i64 th,u',uS,uT] 155 0 0)):=by
 have h1:=h.a;rw[Fb,Ba,Bs]at h1;obtain⟨u',e1,g1,hr⟩:=Akg h1;rw[Bl]at e1;exact⟨u',e1,Hg g1,U0 h (Ah _) (fun _ _ _ _ _=>rfl) g1 h.s h.t (fun j hj=>.inl (by rw[<-hr];exact hj)) (fun j hj=>.inl hj) (fun j hj=>.inl hj) (fun j hj=>(h.ad j (by rw[<-hr];exact hj)).2) (fun j hj=>(h.sd j hj).2) h.cl⟩
def A24(w:Nat)(p:Gp)(th:Int)(X:List Sp)(n:Nat)(S T:List (List UInt8))(σ:St)(v:V)(σ':St):Prop:=∃ e ln:Int,v=.tup [.int .i64 e,.int .i64 ln]/\∃ (vA vS vT:V) (S' T':List (List UInt8)),WK σ' w p th vA vS vT (X.map Sp.row) (S'.map fun x=>[V.str x]) (T'.map fun x=>[V.str x])/\FW w σ σ'/\S'.length<=S.length+n/\T'.length<=T.length+n
theorem Ahu{σ τ:St}{m j:Nat}(hw:FW m σ τ)(hl:j<σ.length)(hn:j ∉ fp σ m):τ[j]?=σ[j]?/\j ∉ fp τ m:=by
 refine⟨hw.2.1 j hl hn,fun hm=>?_⟩;rcases hw.2.2 j hm with h2 | h2
 ·exact hn h2
 ·omega
theorem Aq5{σ τ:St}{m j:Nat}{x:Ob}(hw:FW m σ τ)(hj:σ[j]?=some x)(hn:j ∉ fp σ m):τ[j]?=some x/\j ∉ fp τ m:=by
 have h:=Ahu hw (Ar.1 hj).1 hn;exact⟨h.1.trans hj,h.2⟩
def Ze(p:Gp)(l:List Sp):Prop:=∀ (σ:St) (w:Nat) (th:Int) (uA uS uT:V) (X:List Sp) (S T:List (List UInt8)) (z:Bool) (t:Nat),WK σ w p th uA uS uT (X.map Sp.row) (S.map fun x=>[V.str x]) (T.map fun x=>[V.str x])->X.length<=6->S.length+Sp.szs l<=1000000->T.length+Sp.szs l<=1000000 ->
  ∃ v σ',Th TT PT 97 [.ptr w 0 0,SL z t (l.map Sp.row)] σ v σ'/\A24 w p th X (Sp.szs l) S T σ v σ'
set_option maxHeartbeats 8000000 in
theorem Ahv{p:Gp}(hp:LnG p){l:List Sp}(hl:Ck (l.map Sp.row)<=1000000000)(IH:∀ x∈l,Ze p x.body/\Ze p x.els):Ze p l:=by
 intro σ w th uA uS uT X S T z t h hX hS hT;have hbn:=Ib (f:=Sp.row) (fun x=>by rw[Ju];omega) l;have n1:(l.map Sp.row).length=l.length:=Bl ..;have hw:=N6 h;refine Aby T97 rfl ?_;simp only[go_sem]
 refine B9 (α:=Nat × St × V × V × V × List (List UInt8) × List (List UInt8)) (fun a=>l.length - a.1) (fun a=>[(0,.ptr w 0 0),(1,SL z t (l.map Sp.row)),(6,.int .i64 (a.1:Int))]) (fun a=>a.2.1)
  (fun a=>a.1<=l.length/\WK a.2.1 w p th a.2.2.1 a.2.2.2.1 a.2.2.2.2.1 (X.map Sp.row) (a.2.2.2.2.2.1.map fun x=>[V.str x]) (a.2.2.2.2.2.2.map fun x=>[V.str x])/\FW w σ a.2.1/\a.2.2.2.2.2.1.length+Sp.szs (l.drop a.1)<=S.length+Sp.szs l/\a.2.2.2.2.2.2.length+Sp.szs (l.drop a.1)<=T.length+Sp.szs l) ?_ (0,σ,uA,uS,uT,S,T) ⟨A2 _,h,Xq _ _,by simp,by simp⟩
 clear h uA uS uT;rintro⟨i,s,vA,vS,vT,S1,T1⟩ ⟨hi,h1,f1,hS1,hT1⟩ ih;simp only at hi h1 f1 hS1 hT1 ih;refine Ca (by delta lp97_0;exact rfl) ?_;rcases Bx i l.length with h' | h'
 ·obtain⟨x,hx,hd,hm⟩:=Dd h';rw[hd,Sp.szs]at hS1 hT1;have hsz:=Jp x;have hbx:=Hf (f:=Sp.row) hm;have hxs:=Fi x;obtain⟨ihb,ihe⟩:=IH x hm;have h2:WK (s++[.row x.row 105 0 0]) w p th vA vS vT (X.map Sp.row) (S1.map fun x=>[V.str x]) (T1.map fun x=>[V.str x]):=Abx h1 _ (Gv h1.cl hxs);have f2:FW w s (s++[.row x.row 105 0 0]):=Xr _ (N6 h1);obtain⟨_,s2,q1,e,rfl,wS,wT,S2,T2,h3,f3,bS,bT⟩:=Ax8 h2 hp (by omega) (by omega) (by omega) x (by omega)
  have hnf:∀ {s':St} {w1 w2 w3:V} {A B C:List (List V)},WK s' w p th w1 w2 w3 A B C->FW w s s'->s.length ∉ fp s w:=fun _ _ hm=>by
   rw[N7 h1]at hm;simp only[Be,Cq]at hm;rcases hm with hm | hm | hm | hm
   ·have:=N6 h1;omega
   ·have:=Ch h1.a _ hm;omega
   ·have:=Ch h1.s _ hm;omega
   ·have:=Ch h1.t _ hm;omega
  have nf2:s.length ∉ fp (s++[.row x.row 105 0 0]) w:=fun hm=>by
   rw[N7 h2,<-N7 h1]at hm;exact hnf h1 (Xq _ _) hm
  have k2:s2[s.length]?=some (.row x.row 105 0 0):=by
   rw[f3.2.1 _ (by simp) nf2];simp
  have nf3:s.length ∉ fp s2 w:=fun hm=>by
   rcases f3.2.2 _ hm with h4 | h4
   ·exact nf2 h4
   ·simp at h4;omega
  have l3:=Uz h3.a;rw[Bl]at l3;have r3:=h3.row;have hrow:=Eg x;have g13:=Ee f1 (Ee f2 f3);rw[hrow]at q1 hxs;have k2':=k2;rw[hrow]at k2;simp only[go_sem,n1,B7 h',Bb,hx,hrow];refine B5 q1 ?_;have e7:IntKind.i64.wrap ((X.length:Int)+1)=((X.length+1:Nat):Int):=by rw[Ef (by omega)];rfl
  by_cases c6:X.length=6
  ·have f6:((6:Int)<((X.length+1:Nat):Int))=True:=eq_true (by omega);simp only[go_sem,r3,l3,e7,gt_iff_lt,f6,bne,Int.reduceBEq,Av];refine Ag (by kernel_rfl) ?_;simp only[go_sem,k2];exact⟨_,rfl,⟨rfl,rfl⟩,⟨g13.1,h3.cl⟩,_,_,rfl,_,_,_,S2,T2,h3,g13,by omega,by omega⟩
  have f6:((6:Int)<((X.length+1:Nat):Int))=False:=eq_false (by omega);by_cases e0:e=0;rotate_left
  ·have y0:(e==0)=false:=by simp[e0]
   simp only[go_sem,r3,l3,e7,gt_iff_lt,f6,bne,y0,Av];refine Ag (by kernel_rfl) ?_;simp only[go_sem,k2];exact⟨_,rfl,⟨rfl,rfl⟩,⟨g13.1,h3.cl⟩,_,_,rfl,_,_,_,S2,T2,h3,g13,by omega,by omega⟩
  subst e0;obtain⟨u',s3,j,g,Y,ha,hcell,hu,r3b,st3,r4,hcom,h4,f4,hk4⟩:=A23 h3 x (by omega);obtain⟨hcc,hca⟩:=Lr hcell;have k3:s3[s.length]?=_:=(hk4 s.length (Ar.1 k2).1 nf3).1.trans k2;rw[hrow]at st3;simp only[Ez]at st3 hcom;have st3':=Ako st3;have hcom':∀ W',Vj (s3.set w W')[j]? (s3.set w W') 11 j g (X.length*11) (.agg x.row)=some (.und,(s3.set w W').set j Y):=fun W'=>Ako (hcom W').1
  rw[hrow]at hcom';subst hu
  have hiad:M6 11 (.sl j g 0 (X.length+1) 11 true) (.int .i64 (X.length:Int))=some (.ptr j g (X.length*11)):=by
   have:=Aln (m:=11) (j:=j) (g:=g) (off:=0) (w:=true) (k:=.i64) (show X.length<X.length+1 by omega);rw[Ez]at this;exact this
  simp only[go_sem,r3,l3,e7,gt_iff_lt,f6,bne,Int.reduceBEq,Ap];refine Ax6 9 12 [0,1,2,3,4,5,6,7,8,9,10,11,12] [0,1,2,3,4,5,6,7,10,11,12,8,9] [[],[0],[1],[2],[],[3],[],[0,1,2,3,4,5,6],[0,1,2,3,4,5,6,7],[0,1,2,3,4,5,6,7,8],[0,1,2,3,4,5,6,7],[0,1,2,3,4,5,6,7,10],[0,1,2,3,4,5,6,7,11,9]] [[],[0],[1],[2],[],[3],[],[0,1,2,3,4,5,6],[0,1,2,3,4,5,6,7],[0,1,2,3,4,5,6,7,8],[0,1,2,3,4,5,6,7,9],[0,1,2,3,4,5,6,7],[0,1,2,3,4,5,6,7,11,10]] (E:=?E) (S:=?S) (by kernel_rfl) ?h1 ?h2 ?h3
  case h1=>
   simp only[C5,Jh,V6,Sx,Vz,Am,Cx,Nat.reduceAdd];simp only[go_sem,r3,l3,k2,ha];refine Ay ?_;simp only[go_sem,ha];refine Ay ?_;simp only[go_sem,hiad,st3'];refine Ay ?_;simp only[go_sem,r4];refine Ay ?_;simp only[go_sem];exact A1p
  case h2=>
   simp only[C5,Jh,V6,Sx,Vz,Am,Cx,Nat.reduceAdd];simp only[go_sem,r3,l3,k2,ha];refine Ay ?_;simp only[go_sem,ha];refine Ay ?_;simp only[go_sem,r3b];refine Ay ?_;simp only[go_sem,hiad,hcom'];refine Ay ?_;simp only[go_sem];exact A1q rfl (hcom _).2
  case h3=>
   have hnw:s.length≠w:=fun e=>nf3 (by unfold fp;rw[e];exact Ec)
   have k4:((s3.set j Y).set w (.row [SL p.dz p.dt (p.decls.map Dp.row),SL p.tz p.tt (p.thrs.map Tp.row),.int .i64 th,.sl j g 0 (X.length+1) 11 true,wS,wT] 155 0 0))[s.length]?=some (.row [.int .i64 x.op,.int .i64 x.line,.str x.nm,.str x.arg,SL x.iz x.it (x.idx.map Xp.row),.int .i64 x.ex.op,.int .i64 x.ex.n,.str x.ex.nm,SL x.ex.z x.ex.t (x.ex.l.map Xp.row),SL x.bz x.bt (x.body.map Sp.row),SL x.ez x.et (x.els.map Sp.row)] 105 0 0):=by rw[Bc (Ne.symm hnw)];exact(hk4 s.length (Ar.1 k2).1 nf3).2.trans k2
   have nf4:=(Ahu f4 (Ar.1 k2).1 nf3).2;obtain⟨_,s5,q5,e5,ln5,rfl,xA,xS,xT,S5,T5,h5,f5,b5S,b5T⟩:=ihb _ w th _ _ _ (X++[x]) S2 T2 x.bz x.bt h4 (by simp;omega) (by omega) (by omega);have g15:=Ee g13 (Ee f4 f5);obtain⟨k5,nf5⟩:=Aq5 f5 k4 nf4;simp only[go_sem,k4];refine B5 q5 ?_;cases y5:(e5==0)
   ·obtain⟨u6,hsl,hc6,h7,f7⟩:=Amc h5;obtain⟨hcc6,hca6⟩:=Lr hc6;have r6:=h5.row;have l6:=Uz h5.a;rw[Bl,Ao,Hr]at l6;have e8:IntKind.i64.wrap (((X.length+1:Nat):Int) - 1)=(X.length:Int):=by rw[Ef (by omega)];omega
    have g7:=Ee g15 f7;simp only[go_sem,y5];refine Ag (by kernel_rfl) ?_;simp only[go_sem,r6,l6,e8,hsl,hcc6,hca6];refine Ay ?_;simp only[go_sem,bne,y5,Av,Ap,Bg (show i<9223372036854775807 by omega)];exact⟨_,rfl,⟨rfl,rfl⟩,⟨g7.1,h7.cl⟩,_,_,rfl,_,_,_,S5,T5,h7,g7,by omega,by omega⟩
   ·obtain⟨_,s9,q9,e9,ln9,rfl,zA,zS,zT,S9,T9,h9,f9,b9S,b9T⟩:=ihe _ w th _ _ _ (X++[x]) S5 T5 x.ez x.et h5 (by simp;omega) (by omega) (by omega);have g19:=Ee g15 f9;obtain⟨u6,hsl,hc6,h7,f7⟩:=Amc h9;obtain⟨hcc6,hca6⟩:=Lr hc6;have r6:=h9.row;have l6:=Uz h9.a;rw[Bl,Ao,Hr]at l6;have e8:IntKind.i64.wrap (((X.length+1:Nat):Int) - 1)=(X.length:Int):=by rw[Ef (by omega)];omega
    have g7:=Ee g19 f7;simp only[go_sem,y5,k5];refine B5 q9 ?_;simp only[go_sem];cases y9:(e9==0)
    ·refine Ag (by kernel_rfl) ?_;simp only[go_sem,r6,l6,e8,hsl,hcc6,hca6];refine Ay ?_;simp only[go_sem,bne,y9,Av,Ap,Bg (show i<9223372036854775807 by omega)];exact⟨_,rfl,⟨rfl,rfl⟩,⟨g7.1,h7.cl⟩,_,_,rfl,_,_,_,S9,T9,h7,g7,by omega,by omega⟩
    ·refine Ag (by kernel_rfl) ?_;simp only[go_sem,r6,l6,e8,hsl,hcc6,hca6];refine Ay ?_;simp only[go_sem,bne,y9,Av,Ap,Bg (show i<9223372036854775807 by omega)];exact Bi (ih (i+1,_,u6,zS,zT,S9,T9) (by simp only;omega) ⟨h',h7,g7,by simp only;omega,by simp only;omega⟩) rfl
 ·simp only[go_sem,n1,Cr h'];rw[Fk h',Sp.szs]at hS1 hT1;exact⟨_,rfl,⟨rfl,rfl⟩,⟨f1.1,h1.cl⟩,_,_,rfl,_,_,_,S1,T1,h1,f1,by omega,by omega⟩
