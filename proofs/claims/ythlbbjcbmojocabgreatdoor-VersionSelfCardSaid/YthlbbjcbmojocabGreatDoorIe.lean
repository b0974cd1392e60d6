/- Walks: statements as the static rules see them. -/
import Derived.Test.YthlbbjcbmojocabGreatDoorIb
set_option linter.all false
namespace Go.Proofs.YthlbbjcbmojocabGreatDoor.KM
open Go
def Aq7{σ τ:St}{n i g off:Nat}{v:V}(h:Oy σ n (.ptr i g off) v=some τ):Yt σ[i]? σ n i g off v=some (.und,τ):=by
 rw[<-Arx,Ac6,h];rfl
def Bb6{σ:St}{w:Nat}{p:Gp}{th:Int}{uA uS uT:V}{X:List Sp}{S T:List (List V)}(h:WK σ w p th uA uS uT (X.map Sp.row) S T)(x:Sp)(hb:X.length<=1000):
  ∃ u' s3 j g Y,Ef 176 (11,78) uA (.lst 1 [[iV 0,iV 0,.str [],.str [],.nils,iV 0,iV 0,.str [],.nils,.nils,.nils]]) σ=some (u',s3)/\u'.cellB=true/\u'=.sl j g 0 (X.length+1) 11 true/\s3[w]?=some (.row [SL p.dz p.dt (p.decls.map Dp.row),SL p.tz p.tt (p.thrs.map Tp.row),iV th,uA,uS,uT] 108 0 0) /\
   Oy s3 11 (.ptr j g (0+X.length*11)) (.agg x.row)=some (s3.set j Y)/\(s3.set j Y)[w]?=some (.row [SL p.dz p.dt (p.decls.map Dp.row),SL p.tz p.tt (p.thrs.map Tp.row),iV th,uA,uS,uT] 108 0 0) /\
   (∀ W',Oy (s3.set w W') 11 (.ptr j g (0+X.length*11)) (.agg x.row)=some ((s3.set w W').set j Y)/\(s3.set w W').set j Y=(s3.set j Y).set w W') /\
   WK ((s3.set j Y).set w (.row [SL p.dz p.dt (p.decls.map Dp.row),SL p.tz p.tt (p.thrs.map Tp.row),iV th,u',uS,uT] 108 0 0)) w p th u' uS uT ((X++[x]).map Sp.row) S T/\FW w σ ((s3.set j Y).set w (.row [SL p.dz p.dt (p.decls.map Dp.row),SL p.tz p.tt (p.thrs.map Tp.row),iV th,u',uS,uT] 108 0 0))/\(∀ i,i<σ.length->i ∉ fp σ w->s3[i]?=σ[i]?/\(s3.set j Y)[i]?=σ[i]?):=by
 have hw:=Q4 h;have n1:(X.map Sp.row).length=X.length:=Ba ..;obtain⟨u',s3,e1,g1,hl,hk,hr,hc⟩:=Uv (bytes:=176) (row:=[iV 0,iV 0,.str [],.str [],.nils,iV 0,iV 0,.str [],.nils,.nils,.nils]) h.a (by omega) rfl rfl (by omega);obtain⟨j,g,cs',hu,hj,qn,ja⟩:=A7f (row:=x.row) g1 (Mo x) (Ga x);rw[n1]at hu qn;have qR:j∈u'.refs:=by rw[hu];simp[V.refs]
 have jc:=hr j qR
 have qS:j≠w:=fun e=>by
  rcases jc with h2 | h2
  .exact(h.ad j h2).1 e
  .omega
 have nn:∀ i,i<σ.length->i ∉ uA.refs->i ∉ u'.refs:=fun i hi h1 h2=>by
  rcases hr i h2 with h3 | h3
  .exact h1 h3
  .omega
 have nj:∀ i,i<σ.length->i ∉ uA.refs->i≠j:=fun i hi h1 e=>nn i hi h1 (e ▸ qR)
 have qQ:∀ i,i<σ.length->i ∉ uA.refs->s3[i]?=σ[i]?:=hk
 have qs:∀ i,i<σ.length->i ∉ uA.refs->(s3.set j (.row cs' 78 g 0))[i]?=σ[i]?:=fun i hi h1=>by
  rw[Bj (Ne.symm (nj i hi h1))];exact hk i hi h1
 have jb:=Q5 h;have qX:∀ i,i ∉ fp σ w->i ∉ uA.refs:=fun i hi h1=>hi (by rw[jb];simp[h1])
 have wA:w ∉ uA.refs:=fun e=>(h.ad w e).1 rfl
 have qK:s3[w]?=_:=(qQ w hw wA).trans h.row;have qL:=(qs w hw wA).trans h.row;have c4:Cl (s3.set j (.row cs' 78 g 0)):=Hl (hc h.cl) (by simp only[Ob.refs,ja];simp);have qq:=qn s3 rfl;refine⟨u',s3,j,g,.row cs' 78 g 0,e1,Ip g1,hu,qK,qq.1,qL,fun W'=>⟨(qn (s3.set w W') (Bj (Ne.symm qS))).1,List.set_comm _ _ (Ne.symm qS)⟩,?_⟩
 have qy:=Yd (σ2:=s3.set j (.row cs' 78 g 0)) (th':=th) (A':=(X++[x]).map Sp.row) (vA:=u') h (by simpa using hl) (fun i hi h1 _ _=>qs i hi h1) (by rw[Ei];exact qq.2 hj) (G7 h.s fun i hi=>qs i (Cu h.s i hi) fun e=>(h.ad i e).2.1 hi) (G7 h.t fun i hi=>qs i (Cu h.t i hi) fun e=>(h.ad i e).2.2 hi) hr (fun i hi=>.inl hi) (fun i hi=>.inl hi)
  (fun i hi=>?_) (fun i hi=>(h.sd i hi).2) c4
 .exact⟨qy.1,qy.2,fun i hi h1=>⟨qQ i hi (qX i h1),qs i hi (qX i h1)⟩⟩
 .refine⟨fun e=>?_,fun e=>?_⟩
  .exact nn i (Cu h.s i e) (fun e2=>(h.ad i e2).2.1 e) hi
  .exact nn i (Cu h.t i e) (fun e2=>(h.ad i e2).2.2 e) hi
def Ast{σ:St}{w:Nat}{p:Gp}{th:Int}{uA uS uT:V}{X:List Sp}{x:Sp}{S T:List (List V)}(h:WK σ w p th uA uS uT ((X++[x]).map Sp.row) S T):
  ∃ u',Pd 11 uA none (some (iV (X.length:Int))) none=some u'/\u'.cellB=true/\WK (σ.set w (.row [SL p.dz p.dt (p.decls.map Dp.row),SL p.tz p.tt (p.thrs.map Tp.row),iV th,u',uS,uT] 108 0 0)) w p th u' uS uT (X.map Sp.row) S T/\FW w σ (σ.set w (.row [SL p.dz p.dt (p.decls.map Dp.row),SL p.tz p.tt (p.thrs.map Tp.row),iV th,u',uS,uT] 108 0 0)):=by
 have h1:=h.a;rw[Ei,Aw,B6]at h1;obtain⟨u',e1,g1,hr⟩:=Aq2 h1;rw[Ba]at e1;exact⟨u',e1,Ip g1,Yd h (Ai _) (fun _ _ _ _ _=>rfl) g1 h.s h.t (fun j hj=>.inl (by rw[<-hr];exact hj)) (fun j hj=>.inl hj) (fun j hj=>.inl hj) (fun j hj=>(h.ad j (by rw[<-hr];exact hj)).2) (fun j hj=>(h.sd j hj).2) h.cl⟩
def Bb7(w:Nat)(p:Gp)(th:Int)(X:List Sp)(n:Nat)(S T:List (List UInt8))(σ:St)(v:V)(σ':St):Prop:=∃ e ln:Int,v=.tup [iV e,iV ln]/\∃ (vA vS vT:V) (S' T':List (List UInt8)),WK σ' w p th vA vS vT (X.map Sp.row) (S'.map fun x=>[V.str x]) (T'.map fun x=>[V.str x])/\FW w σ σ'/\S'.length<=S.length+n/\T'.length<=T.length+n
def Anl{σ τ:St}{m j:Nat}(hw:FW m σ τ)(hl:j<σ.length)(hn:j ∉ fp σ m):τ[j]?=σ[j]?/\j ∉ fp τ m:=by
 refine⟨hw.2.1 j hl hn,fun hm=>?_⟩;rcases hw.2.2 j hm with h2 | h2
 .exact hn h2
 .omega
def Ayx{σ τ:St}{m j:Nat}{x:Ob}(hw:FW m σ τ)(hj:σ[j]?=some x)(hn:j ∉ fp σ m):τ[j]?=some x/\j ∉ fp τ m:=by
 have h:=Anl hw (Aq.1 hj).1 hn;exact⟨h.1.trans hj,h.2⟩
def Adb(p:Gp)(l:List Sp):Prop:=∀ (σ:St) (w:Nat) (th:Int) (uA uS uT:V) (X:List Sp) (S T:List (List UInt8)) (z:Bool) (t:Nat),WK σ w p th uA uS uT (X.map Sp.row) (S.map fun x=>[V.str x]) (T.map fun x=>[V.str x])->X.length<=6->S.length+Sp.szs l<=1000000->T.length+Sp.szs l<=1000000 ->
  ∃ v σ',Th TT PT 47 [.ptr w 0 0,SL z t (l.map Sp.row)] σ v σ'/\Bb7 w p th X (Sp.szs l) S T σ v σ'
set_option maxHeartbeats 8000000 in
def Anm{p:Gp}(hp:LnG p){l:List Sp}(hl:Cw (l.map Sp.row)<=1000000000)(IH:∀ x∈l,Adb p x.body/\Adb p x.els):Adb p l:=by
 intro σ w th uA uS uT X S T z t h hX hS hT;have qu:=Jp (f:=Sp.row) (fun x=>by rw[L9];omega) l;have n1:(l.map Sp.row).length=l.length:=Ba ..;have hw:=Q4 h;refine Agd T47 rfl ?_;simp only[go_sem]
 refine B3 (α:=Nat × St × V × V × V × List (List UInt8) × List (List UInt8)) (fun a=>l.length - a.1) (fun a=>[(0,.ptr w 0 0),(1,SL z t (l.map Sp.row)),(6,iV (a.1:Int))]) (fun a=>a.2.1)
  (fun a=>a.1<=l.length/\WK a.2.1 w p th a.2.2.1 a.2.2.2.1 a.2.2.2.2.1 (X.map Sp.row) (a.2.2.2.2.2.1.map fun x=>[V.str x]) (a.2.2.2.2.2.2.map fun x=>[V.str x])/\FW w σ a.2.1/\a.2.2.2.2.2.1.length+Sp.szs (l.drop a.1)<=S.length+Sp.szs l/\a.2.2.2.2.2.2.length+Sp.szs (l.drop a.1)<=T.length+Sp.szs l) ?_ (0,σ,uA,uS,uT,S,T) ⟨A0 _,h,Abo _ _,by simp,by simp⟩
 clear h uA uS uT;rintro⟨i,s,vA,vS,vT,S1,T1⟩ ⟨hi,h1,f1,qE,qF⟩ ih;simp only at hi h1 f1 qE qF ih;refine B4 (by delta lp47_0;exact rfl) ?_;rcases Bu i l.length with h' | h'
 .obtain⟨x,hx,hd,hm⟩:=C3 h';rw[hd,Sp.szs]at qE qF;have jj:=Lw x;have jy:=Io (f:=Sp.row) hm;have qp:=Ga x;obtain⟨jn,jo⟩:=IH x hm;have h2:WK (s++[.row x.row 78 0 0]) w p th vA vS vT (X.map Sp.row) (S1.map fun x=>[V.str x]) (T1.map fun x=>[V.str x]):=Agc h1 _ (H5 h1.cl qp);have f2:FW w s (s++[.row x.row 78 0 0]):=Abp _ (Q4 h1);obtain⟨_,s2,q1,e,rfl,wS,wT,S2,T2,h3,f3,bS,bT⟩:=A7g h2 hp (by omega) (by omega) (by omega) x (by omega)
  have jg:∀ {s':St} {w1 w2 w3:V} {A B C:List (List V)},WK s' w p th w1 w2 w3 A B C->FW w s s'->s.length ∉ fp s w:=fun _ _ hm=>by
   rw[Q5 h1]at hm;simp only[Bi,Cr]at hm;rcases hm with hm | hm | hm | hm
   .have:=Q4 h1;omega
   .have:=Cu h1.a _ hm;omega
   .have:=Cu h1.s _ hm;omega
   .have:=Cu h1.t _ hm;omega
  have qW:s.length ∉ fp (s++[.row x.row 78 0 0]) w:=fun hm=>by
   rw[Q5 h2,<-Q5 h1]at hm;exact jg h1 (Abo _ _) hm
  have k2:s2[s.length]?=some (.row x.row 78 0 0):=by
   rw[f3.2.1 _ (by simp) qW];simp
  have qC:s.length ∉ fp s2 w:=fun hm=>by
   rcases f3.2.2 _ hm with h4 | h4
   .exact qW h4
   .simp at h4;omega
  have l3:=Yc h3.a;rw[Ba]at l3;have r3:=h3.row;have qb:=E4 x;have qr:=Fa f1 (Fa f2 f3);rw[qb]at q1 qp;have jD:=k2;rw[qb]at k2;simp only[go_sem,n1,Bx h',Av,hx,qb];refine Cg q1 ?_;have e7:IntKind.i64.wrap ((X.length:Int)+1)=((X.length+1:Nat):Int):=by rw[Ec (by omega)];rfl
  by_cases c6:X.length=6
  .have f6:((6:Int)<((X.length+1:Nat):Int))=True:=eq_true (by omega);simp only[go_sem,r3,l3,e7,gt_iff_lt,f6,bne,Int.reduceBEq,Ax];refine Ag (by kernel_rfl) ?_;simp only[go_sem,k2];exact⟨_,rfl,⟨rfl,rfl⟩,⟨qr.1,h3.cl⟩,_,_,rfl,_,_,_,S2,T2,h3,qr,by omega,by omega⟩
  have f6:((6:Int)<((X.length+1:Nat):Int))=False:=eq_false (by omega);by_cases e0:e=0;rotate_left
  .have y0:(e==0)=false:=by simp[e0]
   simp only[go_sem,r3,l3,e7,gt_iff_lt,f6,bne,y0,Ax];refine Ag (by kernel_rfl) ?_;simp only[go_sem,k2];exact⟨_,rfl,⟨rfl,rfl⟩,⟨qr.1,h3.cl⟩,_,_,rfl,_,_,_,S2,T2,h3,qr,by omega,by omega⟩
  subst e0;obtain⟨u',s3,j,g,Y,ha,qw,hu,jq,qq,r4,qm,h4,f4,qT⟩:=Bb6 h3 x (by omega);obtain⟨jA,jz⟩:=Nq qw;have k3:s3[s.length]?=_:=(qT s.length (Aq.1 k2).1 qC).1.trans k2;rw[qb]at qq;simp only[Fc]at qq qm;have qM:=Aq7 qq;have qj:∀ W',Yt (s3.set w W')[j]? (s3.set w W') 11 j g (X.length*11) (.agg x.row)=some (.und,(s3.set w W').set j Y):=fun W'=>Aq7 (qm W').1
  rw[qb]at qj;subst hu
  have qx:Pf 11 (.sl j g 0 (X.length+1) 11 true) (iV (X.length:Int))=some (.ptr j g (X.length*11)):=by
   have:=Ar4 (m:=11) (j:=j) (g:=g) (off:=0) (w:=true) (k:=.i64) (show X.length<X.length+1 by omega);rw[Fc]at this;exact this
  simp only[go_sem,r3,l3,e7,gt_iff_lt,f6,bne,Int.reduceBEq,Ar];refine A7c 9 12 [0,1,2,3,4,5,6,7,8,9,10,11,12] [0,1,2,3,4,5,6,7,10,11,12,8,9] [[],[0],[1],[2],[],[3],[],[0,1,2,3,4,5,6],[0,1,2,3,4,5,6,7],[0,1,2,3,4,5,6,7,8],[0,1,2,3,4,5,6,7],[0,1,2,3,4,5,6,7,10],[0,1,2,3,4,5,6,7,11,9]] [[],[0],[1],[2],[],[3],[],[0,1,2,3,4,5,6],[0,1,2,3,4,5,6,7],[0,1,2,3,4,5,6,7,8],[0,1,2,3,4,5,6,7,9],[0,1,2,3,4,5,6,7],[0,1,2,3,4,5,6,7,11,10]] (E:=?E) (S:=?S) (by kernel_rfl) ?h1 ?h2 ?h3
  case h1=>
   simp only[Dk,Lj,Zg,Jm,Zb,Ah,C8,Nat.reduceAdd];simp only[go_sem,r3,l3,k2,ha];refine Az ?_;simp only[go_sem,ha];refine Az ?_;simp only[go_sem,qx,qM];refine Az ?_;simp only[go_sem,r4];refine Az ?_;simp only[go_sem];exact Baw
  case h2=>
   simp only[Dk,Lj,Zg,Jm,Zb,Ah,C8,Nat.reduceAdd];simp only[go_sem,r3,l3,k2,ha];refine Az ?_;simp only[go_sem,ha];refine Az ?_;simp only[go_sem,jq];refine Az ?_;simp only[go_sem,qx,qj];refine Az ?_;simp only[go_sem];exact Bax rfl (qm _).2
  case h3=>
   have ji:s.length≠w:=fun e=>qC (by unfold fp;rw[e];exact Cx)
   have k4:((s3.set j Y).set w (.row [SL p.dz p.dt (p.decls.map Dp.row),SL p.tz p.tt (p.thrs.map Tp.row),iV th,.sl j g 0 (X.length+1) 11 true,wS,wT] 108 0 0))[s.length]?=some (.row [iV x.op,iV x.line,.str x.nm,.str x.arg,SL x.iz x.it (x.idx.map Xp.row),iV x.ex.op,iV x.ex.n,.str x.ex.nm,SL x.ex.z x.ex.t (x.ex.l.map Xp.row),SL x.bz x.bt (x.body.map Sp.row),SL x.ez x.et (x.els.map Sp.row)] 78 0 0):=by rw[Bj (Ne.symm ji)];exact(qT s.length (Aq.1 k2).1 qC).2.trans k2
   have jp:=(Anl f4 (Aq.1 k2).1 qC).2;obtain⟨_,s5,q5,e5,jE,rfl,xA,xS,xT,S5,T5,h5,f5,js,jt⟩:=jn _ w th _ _ _ (X++[x]) S2 T2 x.bz x.bt h4 (by simp;omega) (by omega) (by omega);have qP:=Fa qr (Fa f4 f5);obtain⟨k5,jH⟩:=Ayx f5 k4 jp;simp only[go_sem,k4];refine Cg q5 ?_;cases y5:(e5==0)
   .obtain⟨u6,qz,qH,h7,f7⟩:=Ast h5;obtain⟨qi,qh⟩:=Nq qH;have r6:=h5.row;have l6:=Yc h5.a;rw[Ba,Aj,Ih]at l6;have e8:IntKind.i64.wrap (((X.length+1:Nat):Int) - 1)=(X.length:Int):=by rw[Ec (by omega)];omega
    have g7:=Fa qP f7;simp only[go_sem,y5];refine Ag (by kernel_rfl) ?_;simp only[go_sem,r6,l6,e8,qz,qi,qh];refine Az ?_;simp only[go_sem,bne,y5,Ax,Ar,Bk (show i<9223372036854775807 by omega)];exact⟨_,rfl,⟨rfl,rfl⟩,⟨g7.1,h7.cl⟩,_,_,rfl,_,_,_,S5,T5,h7,g7,by omega,by omega⟩
   .obtain⟨_,s9,q9,e9,jF,rfl,zA,zS,zT,S9,T9,h9,f9,ju,jv⟩:=jo _ w th _ _ _ (X++[x]) S5 T5 x.ez x.et h5 (by simp;omega) (by omega) (by omega);have qY:=Fa qP f9;obtain⟨u6,qz,qH,h7,f7⟩:=Ast h9;obtain⟨qi,qh⟩:=Nq qH;have r6:=h9.row;have l6:=Yc h9.a;rw[Ba,Aj,Ih]at l6;have e8:IntKind.i64.wrap (((X.length+1:Nat):Int) - 1)=(X.length:Int):=by rw[Ec (by omega)];omega
    have g7:=Fa qY f7;simp only[go_sem,y5,k5];refine Cg q9 ?_;simp only[go_sem];cases y9:(e9==0)
    .refine Ag (by kernel_rfl) ?_;simp only[go_sem,r6,l6,e8,qz,qi,qh];refine Az ?_;simp only[go_sem,bne,y9,Ax,Ar,Bk (show i<9223372036854775807 by omega)];exact⟨_,rfl,⟨rfl,rfl⟩,⟨g7.1,h7.cl⟩,_,_,rfl,_,_,_,S9,T9,h7,g7,by omega,by omega⟩
    .refine Ag (by kernel_rfl) ?_;simp only[go_sem,r6,l6,e8,qz,qi,qh];refine Az ?_;simp only[go_sem,bne,y9,Ax,Ar,Bk (show i<9223372036854775807 by omega)];exact Bg (ih (i+1,_,u6,zS,zT,S9,T9) (by simp only;omega) ⟨h',h7,g7,by simp only;omega,by simp only;omega⟩) rfl
 .simp only[go_sem,n1,Ck h'];rw[Ge h',Sp.szs]at qE qF;exact⟨_,rfl,⟨rfl,rfl⟩,⟨f1.1,h1.cl⟩,_,_,rfl,_,_,_,S1,T1,h1,f1,by omega,by omega⟩
def V7(v:V):Prop:=∃ e ln:Int,v=.tup [iV e,iV ln]
set_option maxHeartbeats 4000000 in
def Av6(z:Bool)(t:Nat)(l:List Dp)(hl:l.length<=1000000000):∃ v,Fn TT PT 44 [SL z t (l.map Dp.row)] v/\V7 v:=by
 have n1:(l.map Dp.row).length=l.length:=Ba ..;refine Mw T44 rfl ?_;simp only[go_sem];refine B3 (α:=Nat × St × Int × Int × Int × Int) (fun a=>l.length - a.1) (fun a=>[(0,SL z t (l.map Dp.row)),(4,iV a.2.2.1),(5,iV a.2.2.2.1),(6,iV a.2.2.2.2.1),(7,iV a.2.2.2.2.2),(8,iV (a.1:Int))]) (fun a=>a.2.1) (fun a=>a.1<=l.length) ?_ (0,[],0,0,0,0) (A0 _);rintro⟨i,s,c4,c5,c6,c7⟩ hi ih;simp only at hi ih;refine B4 (by delta lp44_0;exact rfl) ?_;have qa:∀ (s:St) (e ln:Int),∃ v,some (V.tup [iV e,iV ln])=some v/\(Cq v=true/\v.refs=[]/\Es [] v=some v)/\V7 v:=fun _ e ln=>⟨_,rfl,⟨rfl,rfl,rfl⟩,e,ln,rfl⟩
 rcases Bu i l.length with h' | h';rotate_left
 .simp only[go_sem,n1,Ck h'];exact qa [] _ _
 obtain⟨x,hx,-,-⟩:=C3 h';have qb:x.row=[iV x.kind,iV x.line,.str x.nm,iV x.size,iV x.init,.str x.on]:=rfl;obtain⟨z2,t2,qe⟩:=Ww z t 6 (l.map Dp.row) .i64 i (by omega);rw[<-Zw]at qe;have hd:=U8 z2 t2 (l.take i) x.nm (by rw[Gz];omega);have ho:=U8 z2 t2 (l.take i) x.on (by rw[Gz];omega);simp only[go_sem,n1,Bx h',Av,hx,qb];refine Ag (by kernel_rfl) ?_;simp only[go_sem,qe];refine Bl hd (by simp only[go_sem]) ?_;by_cases g1:0<=Bp (fun d:Dp=>d.nm==x.nm) (l.take i)
 .have f1:(0<=Bp (fun d:Dp=>d.nm==x.nm) (l.take i))=True:=eq_true g1;simp only[go_sem,f1,ge_iff_le];refine Ag (by kernel_rfl) ?_;simp only[go_sem];exact qa [] _ _
 have f1:(0<=Bp (fun d:Dp=>d.nm==x.nm) (l.take i))=False:=eq_false g1;by_cases g2:4<x.size
 .have f2:((4:Int)<x.size)=True:=eq_true g2;simp only[go_sem,f1,ge_iff_le,gt_iff_lt,f2];refine Ag (by kernel_rfl) ?_;simp only[go_sem];exact qa [] _ _
 have f2:((4:Int)<x.size)=False:=eq_false g2;by_cases h1:x.kind=1
 .have q1:(x.kind==1)=true:=by simp[h1]
  have q2:(x.kind==2)=false:=by simp[h1]
  have q3:(x.kind==3)=false:=by simp[h1]
  have q4:(x.kind==4)=false:=by simp[h1]
  have q5:(x.kind==5)=false:=by simp[h1]
  by_cases u4:12<(IntKind.i64.wrap (c4+max x.size 1))
  .have t4:((12:Int)<(IntKind.i64.wrap (c4+max x.size 1)))=True:=eq_true u4;simp only[go_sem,f1,ge_iff_le,gt_iff_lt,f2,q1,q2,q3,q4,q5,t4];refine Ag (by kernel_rfl) ?_;simp only[go_sem];exact qa [] _ _
  have t4:((12:Int)<(IntKind.i64.wrap (c4+max x.size 1)))=False:=eq_false u4;by_cases u5:4<c5
  .have t5:((4:Int)<c5)=True:=eq_true u5;simp only[go_sem,f1,ge_iff_le,gt_iff_lt,f2,q1,q2,q3,q4,q5,t4,t5];refine Ag (by kernel_rfl) ?_;simp only[go_sem];exact qa [] _ _
  have t5:((4:Int)<c5)=False:=eq_false u5;by_cases u6:2<c6
  .have t6:((2:Int)<c6)=True:=eq_true u6;simp only[go_sem,f1,ge_iff_le,gt_iff_lt,f2,q1,q2,q3,q4,q5,t4,t5,t6];refine Ag (by kernel_rfl) ?_;simp only[go_sem];exact qa [] _ _
  have t6:((2:Int)<c6)=False:=eq_false u6;by_cases u7:2<c7
  .have t7:((2:Int)<c7)=True:=eq_true u7;simp only[go_sem,f1,ge_iff_le,gt_iff_lt,f2,q1,q2,q3,q4,q5,t4,t5,t6,t7];refine Ag (by kernel_rfl) ?_;simp only[go_sem];exact qa [] _ _
  have t7:((2:Int)<c7)=False:=eq_false u7;simp only[go_sem,f1,ge_iff_le,gt_iff_lt,f2,q1,q2,q3,q4,q5,t4,t5,t6,t7,Bk (show i<9223372036854775807 by omega)];exact Bg (ih (i+1,_,(IntKind.i64.wrap (c4+max x.size 1)),c5,c6,c7) (by simp only;omega) h') rfl
 by_cases h2:x.kind=2
 .have q1:(x.kind==1)=false:=by simp[h2]
  have q2:(x.kind==2)=true:=by simp[h2]
  have q3:(x.kind==3)=false:=by simp[h2]
  have q4:(x.kind==4)=false:=by simp[h2]
  have q5:(x.kind==5)=false:=by simp[h2]
  by_cases u4:12<(IntKind.i64.wrap (c4+max x.size 1))
  .have t4:((12:Int)<(IntKind.i64.wrap (c4+max x.size 1)))=True:=eq_true u4;simp only[go_sem,f1,ge_iff_le,gt_iff_lt,f2,q1,q2,q3,q4,q5,t4];refine Ag (by kernel_rfl) ?_;simp only[go_sem];exact qa [] _ _
  have t4:((12:Int)<(IntKind.i64.wrap (c4+max x.size 1)))=False:=eq_false u4;by_cases u5:4<c5
  .have t5:((4:Int)<c5)=True:=eq_true u5;simp only[go_sem,f1,ge_iff_le,gt_iff_lt,f2,q1,q2,q3,q4,q5,t4,t5];refine Ag (by kernel_rfl) ?_;simp only[go_sem];exact qa [] _ _
  have t5:((4:Int)<c5)=False:=eq_false u5;by_cases u6:2<c6
  .have t6:((2:Int)<c6)=True:=eq_true u6;simp only[go_sem,f1,ge_iff_le,gt_iff_lt,f2,q1,q2,q3,q4,q5,t4,t5,t6];refine Ag (by kernel_rfl) ?_;simp only[go_sem];exact qa [] _ _
  have t6:((2:Int)<c6)=False:=eq_false u6;by_cases u7:2<c7
  .have t7:((2:Int)<c7)=True:=eq_true u7;simp only[go_sem,f1,ge_iff_le,gt_iff_lt,f2,q1,q2,q3,q4,q5,t4,t5,t6,t7];refine Ag (by kernel_rfl) ?_;simp only[go_sem];exact qa [] _ _
  have t7:((2:Int)<c7)=False:=eq_false u7;simp only[go_sem,f1,ge_iff_le,gt_iff_lt,f2,q1,q2,q3,q4,q5,t4,t5,t6,t7,Bk (show i<9223372036854775807 by omega)];exact Bg (ih (i+1,_,(IntKind.i64.wrap (c4+max x.size 1)),c5,c6,c7) (by simp only;omega) h') rfl
 by_cases h3:x.kind=3
 .have q1:(x.kind==1)=false:=by simp[h3]
  have q2:(x.kind==2)=false:=by simp[h3]
  have q3:(x.kind==3)=true:=by simp[h3]
  have q4:(x.kind==4)=false:=by simp[h3]
  have q5:(x.kind==5)=false:=by simp[h3]
  by_cases u4:12<c4
  .have t4:((12:Int)<c4)=True:=eq_true u4;simp only[go_sem,f1,ge_iff_le,gt_iff_lt,f2,q1,q2,q3,q4,q5,t4];refine Ag (by kernel_rfl) ?_;simp only[go_sem];exact qa [] _ _
  have t4:((12:Int)<c4)=False:=eq_false u4;by_cases u5:4<(IntKind.i64.wrap (c5+1))
  .have t5:((4:Int)<(IntKind.i64.wrap (c5+1)))=True:=eq_true u5;simp only[go_sem,f1,ge_iff_le,gt_iff_lt,f2,q1,q2,q3,q4,q5,t4,t5];refine Ag (by kernel_rfl) ?_;simp only[go_sem];exact qa [] _ _
  have t5:((4:Int)<(IntKind.i64.wrap (c5+1)))=False:=eq_false u5;by_cases u6:2<c6
  .have t6:((2:Int)<c6)=True:=eq_true u6;simp only[go_sem,f1,ge_iff_le,gt_iff_lt,f2,q1,q2,q3,q4,q5,t4,t5,t6];refine Ag (by kernel_rfl) ?_;simp only[go_sem];exact qa [] _ _
  have t6:((2:Int)<c6)=False:=eq_false u6;by_cases u7:2<c7
  .have t7:((2:Int)<c7)=True:=eq_true u7;simp only[go_sem,f1,ge_iff_le,gt_iff_lt,f2,q1,q2,q3,q4,q5,t4,t5,t6,t7];refine Ag (by kernel_rfl) ?_;simp only[go_sem];exact qa [] _ _
  have t7:((2:Int)<c7)=False:=eq_false u7;simp only[go_sem,f1,ge_iff_le,gt_iff_lt,f2,q1,q2,q3,q4,q5,t4,t5,t6,t7,Bk (show i<9223372036854775807 by omega)];exact Bg (ih (i+1,_,c4,(IntKind.i64.wrap (c5+1)),c6,c7) (by simp only;omega) h') rfl
 by_cases h4:x.kind=4
 .have q1:(x.kind==1)=false:=by simp[h4]
  have q2:(x.kind==2)=false:=by simp[h4]
  have q3:(x.kind==3)=false:=by simp[h4]
  have q4:(x.kind==4)=true:=by simp[h4]
  have q5:(x.kind==5)=false:=by simp[h4]
  by_cases u4:12<c4
  .have t4:((12:Int)<c4)=True:=eq_true u4;simp only[go_sem,f1,ge_iff_le,gt_iff_lt,f2,q1,q2,q3,q4,q5,t4];refine Ag (by kernel_rfl) ?_;simp only[go_sem];exact qa [] _ _
  have t4:((12:Int)<c4)=False:=eq_false u4;by_cases u5:4<(IntKind.i64.wrap (c5+1))
  .have t5:((4:Int)<(IntKind.i64.wrap (c5+1)))=True:=eq_true u5;simp only[go_sem,f1,ge_iff_le,gt_iff_lt,f2,q1,q2,q3,q4,q5,t4,t5];refine Ag (by kernel_rfl) ?_;simp only[go_sem];exact qa [] _ _
  have t5:((4:Int)<(IntKind.i64.wrap (c5+1)))=False:=eq_false u5;by_cases u6:2<c6
  .have t6:((2:Int)<c6)=True:=eq_true u6;simp only[go_sem,f1,ge_iff_le,gt_iff_lt,f2,q1,q2,q3,q4,q5,t4,t5,t6];refine Ag (by kernel_rfl) ?_;simp only[go_sem];exact qa [] _ _
  have t6:((2:Int)<c6)=False:=eq_false u6;by_cases u7:2<c7
  .have t7:((2:Int)<c7)=True:=eq_true u7;simp only[go_sem,f1,ge_iff_le,gt_iff_lt,f2,q1,q2,q3,q4,q5,t4,t5,t6,t7];refine Ag (by kernel_rfl) ?_;simp only[go_sem];exact qa [] _ _
  have t7:((2:Int)<c7)=False:=eq_false u7;simp only[go_sem,f1,ge_iff_le,gt_iff_lt,f2,q1,q2,q3,q4,q5,t4,t5,t6,t7,Bk (show i<9223372036854775807 by omega)];exact Bg (ih (i+1,_,c4,(IntKind.i64.wrap (c5+1)),c6,c7) (by simp only;omega) h') rfl
 by_cases h5:x.kind=5
 .have q1:(x.kind==1)=false:=by simp[h5]
  have q2:(x.kind==2)=false:=by simp[h5]
  have q3:(x.kind==3)=false:=by simp[h5]
  have q4:(x.kind==4)=false:=by simp[h5]
  have q5:(x.kind==5)=true:=by simp[h5]
  by_cases u4:12<c4
  .have t4:((12:Int)<c4)=True:=eq_true u4;simp only[go_sem,f1,ge_iff_le,gt_iff_lt,f2,q1,q2,q3,q4,q5,t4];refine Ag (by kernel_rfl) ?_;simp only[go_sem];exact qa [] _ _
  have t4:((12:Int)<c4)=False:=eq_false u4;by_cases u5:4<c5
  .have t5:((4:Int)<c5)=True:=eq_true u5;simp only[go_sem,f1,ge_iff_le,gt_iff_lt,f2,q1,q2,q3,q4,q5,t4,t5];refine Ag (by kernel_rfl) ?_;simp only[go_sem];exact qa [] _ _
  have t5:((4:Int)<c5)=False:=eq_false u5;by_cases u6:2<(IntKind.i64.wrap (c6+1))
  .have t6:((2:Int)<(IntKind.i64.wrap (c6+1)))=True:=eq_true u6;simp only[go_sem,f1,ge_iff_le,gt_iff_lt,f2,q1,q2,q3,q4,q5,t4,t5,t6];refine Ag (by kernel_rfl) ?_;simp only[go_sem];exact qa [] _ _
  have t6:((2:Int)<(IntKind.i64.wrap (c6+1)))=False:=eq_false u6;by_cases u7:2<c7
  .have t7:((2:Int)<c7)=True:=eq_true u7;simp only[go_sem,f1,ge_iff_le,gt_iff_lt,f2,q1,q2,q3,q4,q5,t4,t5,t6,t7];refine Ag (by kernel_rfl) ?_;simp only[go_sem];exact qa [] _ _
  have t7:((2:Int)<c7)=False:=eq_false u7;simp only[go_sem,f1,ge_iff_le,gt_iff_lt,f2,q1,q2,q3,q4,q5,t4,t5,t6,t7,Bk (show i<9223372036854775807 by omega)];refine Ag (by kernel_rfl) ?_;simp only[go_sem,qe];refine Bl ho (by simp only[go_sem]) ?_;by_cases g3:0<=Bp (fun d:Dp=>d.nm==x.on) (l.take i)
  .have g4:=(Abq (fun d:Dp=>d.nm==x.on) (l.take i)).2;obtain⟨k,hk⟩:∃ k:Nat,Bp (fun d:Dp=>d.nm==x.on) (l.take i)=k:=⟨_,(Int.toNat_of_nonneg g3).symm⟩;rw[hk,Gz]at g4;obtain⟨y,hy,-,-⟩:=C3 (l:=l) (i:=k) (by omega);have qB:y.row=[iV y.kind,iV y.line,.str y.nm,iV y.size,iV y.init,.str y.on]:=rfl;have f3:((k:Int)<0)=False:=eq_false (by omega);rw[hk];cases q3b:(y.kind==3)
   .simp only[go_sem,f3,Av,hy,qB,q3b,bne,Ax];refine Ag (by kernel_rfl) ?_;simp only[go_sem];exact qa [] _ _
   .simp only[go_sem,f3,Av,hy,qB,q3b,bne,Ar,Bk (show i<9223372036854775807 by omega)];exact Bg (ih (i+1,_,c4,c5,(IntKind.i64.wrap (c6+1)),c7) (by simp only;omega) h') rfl
  .rw[Aq5 g3];simp only[go_sem,Int.reduceLT,Int.reduceNeg];refine Ag (by kernel_rfl) ?_;simp only[go_sem];exact qa [] _ _
 have q1:(x.kind==1)=false:=by simp[h1]
 have q2:(x.kind==2)=false:=by simp[h2]
 have q3:(x.kind==3)=false:=by simp[h3]
 have q4:(x.kind==4)=false:=by simp[h4]
 have q5:(x.kind==5)=false:=by simp[h5]
 by_cases u4:12<c4
 .have t4:((12:Int)<c4)=True:=eq_true u4;simp only[go_sem,f1,ge_iff_le,gt_iff_lt,f2,q1,q2,q3,q4,q5,t4];refine Ag (by kernel_rfl) ?_;simp only[go_sem];exact qa [] _ _
 have t4:((12:Int)<c4)=False:=eq_false u4;by_cases u5:4<c5
 .have t5:((4:Int)<c5)=True:=eq_true u5;simp only[go_sem,f1,ge_iff_le,gt_iff_lt,f2,q1,q2,q3,q4,q5,t4,t5];refine Ag (by kernel_rfl) ?_;simp only[go_sem];exact qa [] _ _
 have t5:((4:Int)<c5)=False:=eq_false u5;by_cases u6:2<c6
 .have t6:((2:Int)<c6)=True:=eq_true u6;simp only[go_sem,f1,ge_iff_le,gt_iff_lt,f2,q1,q2,q3,q4,q5,t4,t5,t6];refine Ag (by kernel_rfl) ?_;simp only[go_sem];exact qa [] _ _
 have t6:((2:Int)<c6)=False:=eq_false u6;by_cases u7:2<(IntKind.i64.wrap (c7+1))
 .have t7:((2:Int)<(IntKind.i64.wrap (c7+1)))=True:=eq_true u7;simp only[go_sem,f1,ge_iff_le,gt_iff_lt,f2,q1,q2,q3,q4,q5,t4,t5,t6,t7];refine Ag (by kernel_rfl) ?_;simp only[go_sem];exact qa [] _ _
 have t7:((2:Int)<(IntKind.i64.wrap (c7+1)))=False:=eq_false u7;simp only[go_sem,f1,ge_iff_le,gt_iff_lt,f2,q1,q2,q3,q4,q5,t4,t5,t6,t7,Bk (show i<9223372036854775807 by omega)];exact Bg (ih (i+1,_,c4,c5,c6,(IntKind.i64.wrap (c7+1))) (by simp only;omega) h') rfl
set_option maxHeartbeats 4000000 in
def At1{p:Gp}(hp:LnG p):∃ v,Fn TT PT 45 [.agg p.row] v/\V7 v:=by
 obtain⟨dz,dt,decls,tz,tt,thrs⟩:=p;obtain⟨h1,h2,h3⟩:=hp;simp only at h1 h2 h3 ⊢;unfold Gp.row;simp only;have n1:(decls.map Dp.row).length=decls.length:=Ba ..;have n2:(thrs.map Tp.row).length=thrs.length:=Ba ..;refine Mw T45 rfl ?_;have qa:∀ (s:St) (e ln:Int),∃ v,some (V.tup [iV e,iV ln])=some v/\(Cq v=true/\v.refs=[]/\Es [] v=some v)/\V7 v:=fun _ e ln=>⟨_,rfl,⟨rfl,rfl,rfl⟩,e,ln,rfl⟩
 simp only[go_sem];refine B3 (α:=Nat × St) (fun a=>thrs.length - a.1) (fun a=>[(1,.ptr 0 0 0),(4,iV (a.1:Int))]) (fun a=>a.2) (fun a=>a.1<=thrs.length/\a.2[0]?=some (.row [SL dz dt (decls.map Dp.row),SL tz tt (thrs.map Tp.row)] 28 0 0)) ?_ (0,_) ⟨A0 _,rfl⟩;rintro⟨i,s⟩ ⟨hi,hs⟩ ih;simp only at hi hs ih;refine B4 (by delta lp45_0;exact rfl) ?_;rcases Bu i thrs.length with h' | h'
 .obtain⟨x,hx,-,-⟩:=C3 h';have qb:x.row=[.str x.nm,iV x.line,SL x.lz x.lt (x.locals.map fun s=>[V.str s]),SL x.bz x.bt (x.body.map Sp.row)]:=rfl;obtain⟨s',ql⟩:∃ s',s'=s++[Ob.row [.str x.nm,iV x.line,SL x.lz x.lt (x.locals.map fun s=>[V.str s]),SL x.bz x.bt (x.body.map Sp.row)] 51 0 0]:=⟨_,rfl⟩;have k1:s'[s.length]?=some (.row [.str x.nm,iV x.line,SL x.lz x.lt (x.locals.map fun s=>[V.str s]),SL x.bz x.bt (x.body.map Sp.row)] 51 0 0):=by rw[ql,Cd (Ai _),Hh];rfl
  have k0:s'[0]?=some (.row [SL dz dt (decls.map Dp.row),SL tz tt (thrs.map Tp.row)] 28 0 0):=by rw[ql];exact B5 hs
  have hd:=U8 dz dt decls x.nm (by omega);obtain⟨z2,t2,qe⟩:=Ww tz tt 4 (thrs.map Tp.row) .i64 i (by omega);rw[<-Zw]at qe;have ht:=Ace z2 t2 (thrs.take i) x.nm (by rw[Gz];omega);simp only[go_sem,hs,n2,Bx h',Av,hx,qb];rw[<-ql];refine Ag (by kernel_rfl) ?_;simp only[go_sem,k0,k1];refine Bl hd (by simp only[go_sem]) ?_;by_cases g1:0<=Bp (fun d:Dp=>d.nm==x.nm) decls
  .have f1:(0<=Bp (fun d:Dp=>d.nm==x.nm) decls)=True:=eq_true g1;simp only[go_sem,f1,ge_iff_le];refine Ag (by kernel_rfl) ?_;simp only[go_sem,k1];exact qa [] _ _
  have f1:(0<=Bp (fun d:Dp=>d.nm==x.nm) decls)=False:=eq_false g1;simp only[go_sem,f1,ge_iff_le,k0,k1,qe];refine Bl ht (by simp only[go_sem]) ?_;by_cases g2:0<=Bp (fun d:Tp=>d.nm==x.nm) (thrs.take i)
  .have f2:(0<=Bp (fun d:Tp=>d.nm==x.nm) (thrs.take i))=True:=eq_true g2;simp only[go_sem,f2,ge_iff_le];refine Ag (by kernel_rfl) ?_;simp only[go_sem,k1];exact qa [] _ _
  have f2:(0<=Bp (fun d:Tp=>d.nm==x.nm) (thrs.take i))=False:=eq_false g2;simp only[go_sem,f2,ge_iff_le,Bk (show i<9223372036854775807 by omega)];exact Bg (ih (i+1,s') (by simp only;omega) ⟨h',k0⟩) rfl
 simp only[go_sem,hs,n2,Ck h'];clear ih;refine B3 (α:=Nat × St) (fun a=>thrs.length - a.1) (fun a=>[(1,.ptr 0 0 0),(6,iV (a.1:Int))]) (fun a=>a.2) (fun a=>a.1<=thrs.length/\a.2[0]?=some (.row [SL dz dt (decls.map Dp.row),SL tz tt (thrs.map Tp.row)] 28 0 0)) ?_ (0,s) ⟨A0 _,hs⟩;clear hs hi h' i s;rintro⟨i,s⟩ ⟨hi,hs⟩ ih;simp only at hi hs ih;refine B4 (by delta lp45_2;exact rfl) ?_;rcases Bu i thrs.length with h' | h';rotate_left
 .simp only[go_sem,hs,n2,Ck h'];exact qa [] _ _
 obtain⟨x,hx,-,hm⟩:=C3 h';have jd:=h3 x hm;have n3:(x.locals.map fun s=>[V.str s]).length=x.locals.length:=Ba ..;have qb:x.row=[.str x.nm,iV x.line,SL x.lz x.lt (x.locals.map fun s=>[V.str s]),SL x.bz x.bt (x.body.map Sp.row)]:=rfl;obtain⟨s',ql⟩:∃ s',s'=s++[Ob.row [.str x.nm,iV x.line,SL x.lz x.lt (x.locals.map fun s=>[V.str s]),SL x.bz x.bt (x.body.map Sp.row)] 51 0 0]:=⟨_,rfl⟩;have k1:s'[s.length]?=some (.row [.str x.nm,iV x.line,SL x.lz x.lt (x.locals.map fun s=>[V.str s]),SL x.bz x.bt (x.body.map Sp.row)] 51 0 0):=by rw[ql,Cd (Ai _),Hh];rfl
 have k0:s'[0]?=some (.row [SL dz dt (decls.map Dp.row),SL tz tt (thrs.map Tp.row)] 28 0 0):=by rw[ql];exact B5 hs
 by_cases g4:4<x.locals.length
 .have f4:((4:Int)<(x.locals.length:Int))=True:=eq_true (by omega);simp only[go_sem,hs,n2,Bx h',Av,hx,qb];rw[<-ql];simp only[go_sem,k1,n3,gt_iff_lt,f4];refine Ag (by kernel_rfl) ?_;simp only[go_sem,k1];exact qa [] _ _
 have f4:((4:Int)<(x.locals.length:Int))=False:=eq_false (by omega);simp only[go_sem,hs,n2,Bx h',Av,hx,qb];rw[<-ql];simp only[go_sem,k1,n3,gt_iff_lt,f4];refine B3 (α:=Nat) (fun k=>x.locals.length - k) (fun k=>[(1,.ptr 0 0 0),(6,iV (i:Int)),(7,.ptr s.length 0 0),(8,iV (k:Int))]) (fun _=>s') (fun k=>k<=x.locals.length) ?_ 0 (A0 _);rintro k hk jh;refine B4 (by delta lp45_1;exact rfl) ?_;rcases Bu k x.locals.length with g' | g';rotate_left
 .simp only[go_sem,k1,n3,Ck g',Bk (show i<9223372036854775807 by omega)];exact Bg (ih (i+1,s') (by simp only;omega) ⟨h',k0⟩) rfl
 obtain⟨y,hy,-,-⟩:=C3 g';have hd:=U8 dz dt decls y (by omega);have ht:=Ace tz tt thrs y (by omega);obtain⟨z2,t2,qe⟩:=Ww x.lz x.lt 1 (x.locals.map fun s=>[V.str s]) .i64 k (by omega);rw[<-Zw]at qe;have ha:=U7 z2 t2 (x.locals.take k) y (by rw[Gz];omega);simp only[go_sem,k1,k0,n3,Bx g',Av,hy];refine Ad hd (by simp only[go_sem]) ?_;by_cases g1:0<=Bp (fun d:Dp=>d.nm==y) decls
 .have f1:(0<=Bp (fun d:Dp=>d.nm==y) decls)=True:=eq_true g1;simp only[go_sem,f1,ge_iff_le];refine Ag (by kernel_rfl) ?_;simp only[go_sem,k1];exact qa [] _ _
 have f1:(0<=Bp (fun d:Dp=>d.nm==y) decls)=False:=eq_false g1;simp only[go_sem,f1,ge_iff_le,k0,k1];refine Ad ht (by simp only[go_sem]) ?_;by_cases g2:0<=Bp (fun d:Tp=>d.nm==y) thrs
 .have f2:(0<=Bp (fun d:Tp=>d.nm==y) thrs)=True:=eq_true g2;simp only[go_sem,f2,ge_iff_le];refine Ag (by kernel_rfl) ?_;simp only[go_sem,k1];exact qa [] _ _
 have f2:(0<=Bp (fun d:Tp=>d.nm==y) thrs)=False:=eq_false g2;simp only[go_sem,f2,ge_iff_le,k1,qe];refine Ad ha (by simp only[go_sem]) ?_;by_cases g3:0<=Bp (·==y) (x.locals.take k)
 .have f3:(0<=Bp (·==y) (x.locals.take k))=True:=eq_true g3;simp only[go_sem,f3,ge_iff_le];refine Ag (by kernel_rfl) ?_;simp only[go_sem,k1];exact qa [] _ _
 have f3:(0<=Bp (·==y) (x.locals.take k))=False:=eq_false g3;simp only[go_sem,f3,ge_iff_le,Bk (show k<9223372036854775807 by omega)];exact Bg (jh (k+1) (by omega) g') rfl
def Aha{p:Gp}(hp:LnG p):∀ (N:Nat) (l:List Sp),Cw (l.map Sp.row)<=N->N<=1000000000->Adb p l
 | 0,l,h,hN=>Anm hp (by omega) fun x hx=>by
  have h1:=Io (f:=Sp.row) hx;have h2:=L9 x;omega
 | N+1,l,h,hN=>Anm hp (by omega) fun x hx=>by
  have h1:=Io (f:=Sp.row) hx;have h2:=L9 x;exact⟨Aha hp N x.body (by omega) (by omega),Aha hp N x.els (by omega) (by omega)⟩
def Me(l:List Tp):Nat:=(l.map fun t=>Sp.szs t.body).sum
set_option maxHeartbeats 4000000 in
def Ayy{p:Gp}(hb:C2 p.row<=1000000000)(hp:LnG p)(hz:Me p.thrs<=1000000):∃ v,Fn TT PT 25 [.agg p.row] v/\V7 v:=by
 have hs:=A69 p hb;have jx:=Ah0 p;obtain⟨_,qd,ed,ld,rfl⟩:=Av6 p.dz p.dt p.decls hp.d;obtain⟨_,qt,et,lt,rfl⟩:=At1 hp;have qV:=Acz p;have n2:(p.thrs.map Tp.row).length=p.thrs.length:=Ba ..;have ht:=hp.t;obtain⟨jk,jl⟩:=A3b qV;rw[So]at hs qt qV ⊢;have qa:∀ (s:St) (e ln:Int),∃ v,some (V.tup [iV e,iV ln])=some v/\(Cq v=true/\v.refs=[]/\Es [] v=some v)/\V7 v:=fun _ e ln=>⟨_,rfl,⟨rfl,rfl,rfl⟩,e,ln,rfl⟩
 refine Mw T25 rfl ?_;cases hsh:shG p
 .rw[hsh]at hs;simp only[go_sem];refine Ad hs (by simp only[go_sem]) ?_;simp only[go_sem,Ax];exact qa [] _ _
 rw[hsh]at hs;simp only[go_sem];refine Ad hs (by simp only[go_sem]) ?_;simp only[go_sem,Ar];refine Ad qd (by simp only[go_sem]) ?_;cases y1:(ed==0)
 .simp only[go_sem,y1,bne,Ax];exact qa [] _ _
 by_cases g1:4<p.thrs.length
 .have f1:((4:Int)<(p.thrs.length:Int))=True:=eq_true (by omega);simp only[go_sem,y1,bne,Ar,n2,gt_iff_lt,f1];exact qa [] _ _
 have f1:((4:Int)<(p.thrs.length:Int))=False:=eq_false (by omega);simp only[go_sem,y1,bne,Ar,n2,gt_iff_lt,f1];refine Ad qt (by simp only[go_sem]) ?_;cases y2:(et==0)
 .simp only[go_sem,y2,bne,Ax];exact qa [] _ _
 simp only[go_sem,y2,bne,Ar];refine B3 (α:=Nat × Int) (fun a=>p.thrs.length - a.1) (fun a=>[(1,.ptr 0 0 0),(8,iV a.2),(9,iV (a.1:Int))]) (fun _=>[.row [SL p.dz p.dt (p.decls.map Dp.row),SL p.tz p.tt (p.thrs.map Tp.row)] 28 0 0]) (fun a=>a.1<=p.thrs.length) ?_ (0,0) (A0 _);rintro⟨i,n⟩ hi ih;simp only at hi ih;refine B4 (by delta lp25_0;exact rfl) ?_;rcases Bu i p.thrs.length with h' | h'
 .obtain⟨x,hx,-,hm⟩:=C3 h';have qG:=Io (f:=Tp.row) hm;rw[Yp]at qG;have qb:x.row=[.str x.nm,iV x.line,SL x.lz x.lt (x.locals.map fun s=>[V.str s]),SL x.bz x.bt (x.body.map Sp.row)]:=rfl;obtain⟨_,qc,c,rfl⟩:=Afj 1000000000 x.bz x.bt x.body (by omega) (Ai _);simp only[go_sem,n2,Bx h',Av,hx,qb];refine Ad qc (by simp only[go_sem]) ?_;simp only[go_sem,Bk (show i<9223372036854775807 by omega)];exact Bg (ih (i+1,_) (by simp only;omega) h') rfl
 clear ih;by_cases g2:60<n
 .have f2:((60:Int)<n)=True:=eq_true g2;simp only[go_sem,n2,Ck h',gt_iff_lt,f2];exact qa [] _ _
 have f2:((60:Int)<n)=False:=eq_false g2;simp only[go_sem,n2,Ck h',gt_iff_lt,f2,jk,jl]
 have qN:WK [.row [SL p.dz p.dt (p.decls.map Dp.row),SL p.tz p.tt (p.thrs.map Tp.row)] 28 0 0,.row [SL p.dz p.dt (p.decls.map Dp.row),SL p.tz p.tt (p.thrs.map Tp.row),iV 0,.nils,.nils,.nils] 108 0 0] 1 p 0 .nils .nils .nils (([]:List Sp).map Sp.row) (([]:List (List UInt8)).map fun x=>[V.str x]) (([]:List (List UInt8)).map fun x=>[V.str x]):=by
  refine⟨rfl,Yb,Yb,Yb,by simp[V.refs],by simp[V.refs],by simp[V.refs],?_⟩;intro ob hm j hj;simp only[Bi,Lk,or_false]at hm;rcases hm with rfl | rfl
  .simp[Ob.refs,Am,Mp]at hj
  .simp[Ob.refs,Am,Mp,V.refs]at hj
 refine B3 (α:=Nat × St × Int × V × V × V × List (List UInt8) × List (List UInt8)) (fun a=>p.thrs.length - a.1) (fun a=>[(1,.ptr 0 0 0),(10,.ptr 1 0 0),(11,iV (a.1:Int))]) (fun a=>a.2.1)
  (fun a=>a.1<=p.thrs.length/\WK a.2.1 1 p a.2.2.1 a.2.2.2.1 a.2.2.2.2.1 a.2.2.2.2.2.1 (([]:List Sp).map Sp.row) (a.2.2.2.2.2.2.1.map fun x=>[V.str x]) (a.2.2.2.2.2.2.2.map fun x=>[V.str x])/\(a.2.1[0]?=some (.row [SL p.dz p.dt (p.decls.map Dp.row),SL p.tz p.tt (p.thrs.map Tp.row)] 28 0 0)/\0 ∉ fp a.2.1 1)/\a.2.2.2.2.2.2.1.length+Me (p.thrs.drop a.1)<=1000000/\a.2.2.2.2.2.2.2.length+Me (p.thrs.drop a.1)<=1000000) ?_ (0,_,0,_,_,_,[],[]) ⟨A0 _,qN,⟨rfl,by rw[Q5 qN];simp[V.refs]⟩,by simpa using hz,by simpa using hz⟩
 clear qN hi h' i g2 f2 n;rintro⟨i,s,th,uA,uS,uT,S,T⟩ ⟨hi,h1,⟨qo,qI⟩,hS,hT⟩ ih;simp only at hi h1 qo qI hS hT ih;refine B4 (by delta lp25_1;exact rfl) ?_;rcases Bu i p.thrs.length with h' | h';rotate_left
 .simp only[go_sem,qo,n2,Ck h'];exact qa [] _ _
 obtain⟨x,hx,hd,hm⟩:=C3 h';have qG:=Io (f:=Tp.row) hm;rw[Yp]at qG;have qb:x.row=[.str x.nm,iV x.line,SL x.lz x.lt (x.locals.map fun s=>[V.str s]),SL x.bz x.bt (x.body.map Sp.row)]:=rfl;have jj:Me (p.thrs.drop i)=Sp.szs x.body+Me (p.thrs.drop (i+1)):=by rw[hd];simp[Me]
 obtain⟨h2,f2⟩:=Yd (th':=(i:Int)) h1 (Ai _) (fun _ _ _ _ _=>rfl) h1.a h1.s h1.t (fun j hj=>.inl hj) (fun j hj=>.inl hj) (fun j hj=>.inl hj) (fun j hj=>(h1.ad j hj).2) (fun j hj=>(h1.sd j hj).2) h1.cl;obtain⟨_,s2,q,⟨e,ln,rfl,vA,vS,vT,S2,T2,h3,f3,bS,bT⟩⟩:=Aha hp 1000000000 x.body (by omega) (Ai _) _ _ _ _ _ _ [] S T x.bz x.bt h2 (by simp) (by omega) (by omega);have hr:=h1.row;have qO:=Fa f2 f3;have l0:=(Aq.1 qo).1;have k2:s2[0]?=_:=(qO.2.1 0 l0 qI).trans qo;have k1:(s.set 1 (.row [SL p.dz p.dt (p.decls.map Dp.row),SL p.tz p.tt (p.thrs.map Tp.row),iV (i:Int),uA,uS,uT] 108 0 0))[0]?=some (.row [SL p.dz p.dt (p.decls.map Dp.row),SL p.tz p.tt (p.thrs.map Tp.row)] 28 0 0):=by rw[Bj (by omega)];exact qo
 have jf:0 ∉ fp s2 1:=fun hm=>by
  rcases qO.2.2 0 hm with h4 | h4
  .exact qI h4
  .omega
 simp only[go_sem,qo,n2,Bx h',hr,k1,Av,hx,qb];refine Cg q ?_;cases y3:(e==0)
 .simp only[go_sem,y3,bne,Ax];exact qa [] _ _
 simp only[go_sem,y3,bne,Ar,Bk (show i<9223372036854775807 by omega)];exact Bg (ih (i+1,s2,_,vA,vS,vT,S2,T2) (by simp only;omega) ⟨h',h3,⟨k2,jf⟩,by simp only;omega,by simp only;omega⟩) rfl
/-! end of the cases -/
/-! end of the cases -/
def declsL:List Dp:=[⟨1,0,[120],0,0,[]⟩,⟨1,0,[121],0,1,[]⟩,⟨2,0,[118],0,0,[]⟩,⟨1,0,[113],2,0,[]⟩,⟨3,0,[109],0,0,[]⟩,⟨3,0,[110],0,0,[]⟩,⟨4,0,[114],0,0,[]⟩,⟨5,0,[99],0,0,[109]⟩,⟨6,0,[102],0,0,[]⟩]
def Ad7:Am (declsL.map Dp.row).flatten=[]:=by kernel_rfl
def Av7:FnO TT PT 22 [] (.sl 0 0 0 9 6 true) [.row (declsL.map Dp.row).flatten 64 0 0]:=by
 have hT:=T22
 obtain⟨F,h1,h2,h3⟩:=Aos (σ:=[]) (vs:=[]) (v:=.sl 0 0 0 9 6 true) (σ':=[.row (declsL.map Dp.row).flatten 64 0 0]) hT rfl (by simp only[go_sem];exact⟨rfl,rfl⟩) (by simp[V.refs]) rfl (A0 _) (by
  intro ob qU i hi;simp only[E0]at qU;subst qU;rw[Ob.refs,Ad7]at hi
  cases hi)
 have e:=h1.symm.trans hT;cases e;exact⟨_,hT,rfl,rfl,h3⟩
def Akk(σ:St):CallS TT PT 22 [] σ (.sl σ.length 0 0 9 6 true) (σ++[.row (declsL.map Dp.row).flatten 64 0 0]):=by
 have h:=CallS.own (σ:=σ) (args:=[]) (Aaw rfl) Av7
 have e1:own σ [] [.row (declsL.map Dp.row).flatten 64 0 0]=σ++[.row (declsL.map Dp.row).flatten 64 0 0]:=by
  unfold own;rw[Aat rfl];simp only[St.freeze,Aw,B6,Ob.ren];rw[Ru _ _ (by rw[Ad7];simp)]
 have e2:(V.sl 0 0 0 9 6 true).ren (·+σ.length)=.sl σ.length 0 0 9 6 true:=by simp[V.ren]
 rw[e1,e2]at h;exact h
def MD(n:Nat)(D:List Dp):Prop:=(∀ d∈D,ShD d/\d.nm.length<=12/\d.on.length<=12)/\D.length<=n
def Av8:MD 9 declsL:=by
 refine⟨fun d hd=>?_,by decide⟩;simp only[declsL,Bi,Lk,or_false]at hd
 rcases hd with rfl | rfl | rfl | rfl | rfl | rfl | rfl | rfl | rfl<;>exact⟨⟨by decide,by decide,by decide,by decide,by decide⟩,by decide,by decide⟩
def Hk{a b:AC}{k:List It}{e:Env}{σ:St}{Q:Env->St->Prop}(P:Env->St->Prop)(h1:∀ k',(∀ e σ,P e σ->W TT PT k' e σ Q)->W TT PT (.c a::k') e σ Q)(h2:∀ e σ,P e σ->W TT PT (.c b::k) e σ Q):W TT PT (.c (.seq a b)::k) e σ Q:=by
 rw[Aho];exact h1 _ h2
def MT(t:Tp):Prop:=J9 t.nm/\((∀ s∈t.locals,J9 s)/\t.locals.length<=5)/\∃ k,k<=7/\(∀ s∈t.body,SB k s)/\t.body.length<=40
def Age{α:Type}{f:α->List UInt8}{M:Nat}:∀ {l:List α},(∀ x∈l,(f x).length<=M)->((l.map f).flatten).length<=l.length*M
 | [],_=>by simp
 | x::l,h=>by
  have h1:=h x Cx;have h2:=Age (l:=l) fun y hy=>h y (Cs _ hy)
  rw[Aw,D3,Aj,Ah,E1];omega
def Ann:∀ {l:List (List UInt8)},(∀ s∈l,s.length<=4)->(Ed l).length<=l.length*6
 | [],_=>by simp[Ed]
 | a::l,h=>by
  have h1:=h a Cx;have h2:=Ann (l:=l) fun y hy=>h y (Cs _ hy)
  have h3:=Alg a l;rw[Ah,E1];omega
def zb7:∀ {k:Nat},k<=7->ZB k<=21845:=by
 intro k hk;have:k=0\/k=1\/k=2\/k=3\/k=4\/k=5\/k=6\/k=7:=by omega
 rcases this with rfl | rfl | rfl | rfl | rfl | rfl | rfl | rfl<;>decide
def Aq8{t:Tp}(h:MT t):(D1 t).length<=900000000/\Sp.szs t.body<=1000000:=by
 obtain⟨h1,⟨h2,h3⟩,k,hk,h4,h5⟩:=h;have z:=zb7 hk;have a1:=Ab7 (d:=1) h4 (by omega);have a2:=X7 h4;have a3:=Ann fun s hs=>(h2 s hs).2
 have a4:t.body.length*ZB k<=40*21845:=Nat.mul_le_mul h5 z;have a5:t.body.length*(1000*ZB k)<=40*(1000*21845):=Nat.mul_le_mul h5 (by omega);have a6:=h1.2;refine⟨?_,by omega⟩;unfold D1;simp only[Aj,Ah,C8];omega
def Bay{D:List Dp}{L:List Tp}(hD:MD 16 D)(hL:∀ t∈L,MT t)(h5:L.length<=5)(h0:L≠[]):ShG ⟨true,0,D,true,0,L⟩/\(Fe ⟨true,0,D,true,0,L⟩).length<=10000000000/\∀ t∈L,Sp.szs t.body<=1000000:=by
 refine⟨⟨fun d hd=>(hD.1 d hd).1,fun t ht=>(hL t ht).1.1,fun t ht s hs=>((hL t ht).2.1.1 s hs).1,fun t ht s hs=>?_,h0⟩,?_,fun t ht=>(Aq8 (hL t ht)).2⟩
 .obtain⟨-,-,k,-,h4,-⟩:=hL t ht;exact(h4 s hs).1
 .have a1:=Age (f:=fun d:Dp=>Dc d++[59,10]) (M:=82) (l:=D) fun d hd=>by
   have:=Asp (hD.1 d hd).2.1 (hD.1 d hd).2.2;simp only[Aj,Ah,C8];omega
  have a2:=Age (f:=D1) (M:=900000000) (l:=L) fun t ht=>(Aq8 (hL t ht)).1
  have a3:=hD.2;unfold Fe;rw[Aj];simp only;omega
def A3d{ls:List (List UInt8)}(h:(ls.all fun x=>Bv x&&decide (x.length<=4))=true):∀ s∈ls,J9 s:=fun s hs=>by
 have:=Bh.1 h s hs;simp only[Af,decide_eq_true_eq]at this;exact this
structure MKr (σ:St) (m b:Nat) (uH:V) (H:List (List UInt8)):Prop where
 row:∃ (th left:Int) (se tx ao lp:Bool),σ[m]?=some (.row [.ptr b 0 0,iV th,iV left,.bool se,.bool tx,.bool ao,.bool lp,uH] 71 0 0)
 tape:TS σ b
 ne:m≠b
 h:GS σ 1 9 uH (H.map fun x=>[V.str x])
 hd:∀ j∈uH.refs,j≠m/\j≠b
 cl:Cl σ
def Jh{σ:St}{m b:Nat}{uH:V}{H:List (List UInt8)}(h:MKr σ m b uH H):m<σ.length:=by
 obtain⟨_,_,_,_,_,_,hr⟩:=h.row;exact(Aq.1 hr).1
def Gv{σ:St}{m b:Nat}{uH:V}{H:List (List UInt8)}(h:MKr σ m b uH H):fp σ m=m::(b::uH.refs):=by
 obtain⟨_,_,_,_,_,_,hr⟩:=h.row;rw[Ag8 hr];simp[Am,V.refs]
def O4{σ τ:St}{m b:Nat}{uH:V}{H:List (List UInt8)}(h:MKr σ m b uH H)(hc:Cl τ)(hm:τ[m]?=σ[m]?)(hb:TS τ b)(hk:∀ i∈uH.refs,τ[i]?=σ[i]?):MKr τ m b uH H:=by
 obtain⟨a1,a2,a3,a4,a5,a6,hr⟩:=h.row;exact⟨⟨a1,a2,a3,a4,a5,a6,by rw[hm];exact hr⟩,hb,h.ne,G7 h.h hk,h.hd,hc⟩
def Abu{σ:St}{m b:Nat}{uH:V}{H:List (List UInt8)}(h:MKr σ m b uH H)(l:St)(hc:Cl (σ++l)):MKr (σ++l) m b uH H/\FW m σ (σ++l):=
 ⟨O4 h hc (Ca (Jh h)) (A2w h.tape) fun i hi=>Ca (Cu h.h i hi),Abp _ (Jh h)⟩
def A3e{σ τ:St}{b:Nat}(hc:Cl σ)(hw:TW σ τ b)(hl:τ.length=σ.length):Cl τ:=by
 intro ob hm j hj;obtain⟨i,hi,rfl⟩:=Pq hm;by_cases hb:i=b
 .subst hb;obtain⟨z,t,l,a,h1,-⟩:=hw.2.2.1;have:=(Aq.1 h1).2;rw[this,Akh]at hj;cases hj
 .have h2:=hw.2.1 i (by omega) hb;rw[A2 hi,A2 (by omega)]at h2;rw[Ky h2]at hj;rw[hl];exact hc _ (Fj _) j hj
def Ox{σ:St}{m b:Nat}{uH:V}{H:List (List UInt8)}(h:MKr σ m b uH H)(n:Nat)(N:Int)(hN:N=n)(hn:n<=1000000000):∃ (r:Nat) (σ':St),Bt TT PT 23 [.ptr b 0 0,iV N] σ (iV (r:Int)) σ'/\MKr σ' m b uH H/\FW m σ σ'/\σ'.length=σ.length/\(r<n\/r=0)/\σ'[m]?=σ[m]?:=by
 subst hN;obtain⟨r,σ',h1,h2,h3,h4,-,-⟩:=Am9 h.tape n hn;have hf:=Gv h;have km:=h2.2.1 m (Jh h) h.ne;refine⟨r,σ',h1,O4 h (A3e h.cl h2 h3) km h2.2.2.1 fun i hi=>h2.2.1 i (Cu h.h i hi) (h.hd i hi).2,⟨by omega,fun j hj hn=>h2.2.1 j hj fun e=>hn (by rw[hf,e];simp),fun j hj=>?_⟩,h3,h4,km⟩;unfold fp at hj ⊢;rw[km]at hj;exact .inl hj
def Aq9{σ:St}{m b:Nat}{uH:V}{H:List (List UInt8)}(h:MKr σ m b uH H)(th left:Int)(se tx ao lp:Bool):MKr (σ.set m (.row [.ptr b 0 0,iV th,iV left,.bool se,.bool tx,.bool ao,.bool lp,uH] 71 0 0)) m b uH H/\FW m σ (σ.set m (.row [.ptr b 0 0,iV th,iV left,.bool se,.bool tx,.bool ao,.bool lp,uH] 71 0 0)):=by
 have hm:=Jh h;have hf:=Gv h;have qk:Am [.ptr b 0 0,iV th,iV left,.bool se,.bool tx,.bool ao,.bool lp,uH]=b::uH.refs:=by simp[Am,V.refs]
 refine⟨⟨⟨th,left,se,tx,ao,lp,Ci hm⟩,?_,h.ne,G7 h.h fun i hi=>Bj (Ne.symm (h.hd i hi).1),h.hd,Hl h.cl fun i hi=>?_⟩,Ag9 (Abo _ _) hm fun j hj=>?_⟩
 .obtain⟨z,t,l,a,h1,h2⟩:=h.tape;exact⟨z,t,l,a,by rw[Bj h.ne];exact h1,h2⟩
 .simp only[Ob.refs,qk,Bi]at hi;rcases hi with rfl | hi
  .exact Lb h.tape
  .exact Cu h.h i hi
 .rw[qk]at hj;rw[hf];exact .inl (Cs _ hj)
def Acf{σ τ:St}{m b:Nat}{uH:V}{H:List (List UInt8)}{j:Nat}(h:MKr σ m b uH H)(hj:σ.length<=j):j ∉ fp σ m:=fun hm=>by
 rw[Gv h]at hm;simp only[Bi]at hm;rcases hm with rfl | rfl | hm
 .have:=Jh h;omega
 .have:=Lb h.tape;omega
 .have:=Cu h.h j hm;omega
def H1{σ τ:St}{m j:Nat}{x:Ob}(hw:FW m σ τ)(hj:σ[j]?=some x)(hn:j ∉ fp σ m):τ[j]?=some x/\j ∉ fp τ m:=by
 have hl:=(Aq.1 hj).1;refine⟨by rw[hw.2.1 j hl hn];exact hj,fun hm=>?_⟩;rcases hw.2.2 j hm with h2 | h2
 .exact hn h2
 .omega
def Acg{T:Nat->Option AF}{pr:Nat->Option (List V->Option V)}{f:Nat}{vs:List V}{σ σ':St}{v:V}(h:Th T pr f vs σ v σ'):Bt T pr f vs σ v σ':=
 let ⟨F,h1,_,h2,h3⟩:=h
 ⟨F,h1,h2,h3⟩
def Av9{j:Nat}(hj:j<6):∃ op:Int,([[iV 6],[iV 7],[iV 8],[iV 11],[iV 13],[iV 17]]:List (List V))[j]?=some [iV op]/\(6<=op/\op<=18):=by
 rcases(show j=0\/j=1\/j=2\/j=3\/j=4\/j=5 by omega) with rfl | rfl | rfl | rfl | rfl | rfl
 .exact⟨6,rfl,by omega⟩
 .exact⟨7,rfl,by omega⟩
 .exact⟨8,rfl,by omega⟩
 .exact⟨11,rfl,by omega⟩
 .exact⟨13,rfl,by omega⟩
 .exact⟨17,rfl,by omega⟩
def A3f(n:Int):Fn TT PT 27 [iV n] (.agg (Xp.row ⟨1,n,[],true,0,[]⟩)):=by
 refine Bz T27 rfl ?_;simp only[go_sem];exact G6 rfl
def Ac0(nm:List UInt8):Fn TT PT 68 [.str nm] (.agg [iV 2,iV 0,.str nm,.nils]):=by
 have h:=Ayj nm;rw[Bb]at h;exact h
def Adc(n:Int):Fn TT PT 27 [iV n] (.agg [iV 1,iV n,.str [],.nils]):=by
 have h:=A3f n;rw[Bb]at h;exact h
def Mf:Nat->Nat
 | 0=>12
 | d+1=>2*Mf d+12
def MX(d:Nat)(x:Xp):Prop:=ShE x/\x.txt.length<=EB d/\C2 x.row<=Mf d
def MXp(d m b:Nat)(uH:V)(H:List (List UInt8))(σ:St):Prop:=∃ v σ',Th TT PT 66 [.ptr m 0 0,iV (d:Int)] σ v σ'/\(∃ x:Xp,v=.agg x.row/\MX d x)/\MKr σ' m b uH H/\FW m σ σ'
def Ach(d:Nat):12<=Mf d:=by
 cases d<;>simp[Mf]
def Ano{d:Nat}(h:d≠0):Mf d=2*Mf (d - 1)+12:=by
 cases d with
 | zero=>exact absurd rfl h
 | succ d=>rfl
def Akl{d:Nat}(hd:d<=5)(ih:∀ d',d≠0->d'<=d - 1->∀ σ m b uH H,MKr σ m b uH H->MXp d' m b uH H σ){σ:St}{m b:Nat}{uH:V}{H:List (List UInt8)}(h:MKr σ m b uH H):MXp d m b uH H σ:=by
 have je:=Jh h
 suffices hh:∃ v σ',Th TT PT 66 [.ptr m 0 0,iV (d:Int)] σ v σ'/\((∃ x:Xp,v=.agg x.row/\MX d x)/\MKr σ' m b uH H/\FW m σ σ') from hh
 refine Agd T66 rfl ?_;have z0:Cl (σ++[.row [iV 0,iV 0,.str [],.nils] 76 0 0]):=H5 h.cl rfl;obtain⟨s1,e1⟩:∃ s1:St,s1=σ++[.row [iV 0,iV 0,.str [],.nils] 76 0 0]:=⟨_,rfl⟩;obtain⟨h1,w1⟩:=Abu h [.row [iV 0,iV 0,.str [],.nils] 76 0 0] z0;rw[<-e1]at h1 w1;have k1:s1[σ.length]?=some (.row [iV 0,iV 0,.str [],.nils] 76 0 0):=by rw[e1];simp
 have n1:σ.length ∉ fp s1 m:=fun hm=>by
  rw[Gv h1,<-Gv h]at hm;exact Acf (τ:=σ) h (Ai _) hm
 obtain⟨_,_,_,_,_,_,m1⟩:=h1.row;obtain⟨k,s2,q2,h2,w2,l2,r2,m2⟩:=Ox h1 10 10 rfl (by omega);have hk:k<10:=by omega
 obtain⟨k2,n2⟩:=H1 w2 k1 n1;rw[m1]at m2;have jG:=m2;have qD:=Fa w1 w2;rw[e1]at q2 m1
 have qa:∀ (e:Env) (s:St) (x:Xp),e.get 4=.ptr σ.length 0 0->MX d x->MKr s m b uH H->FW m σ s->s[σ.length]?=some (.row [iV 0,iV 0,.str [],.nils] 76 0 0)->σ.length ∉ fp s m ->
   ∃ v,Ch e (s.set σ.length (.row x.row 76 0 0)) [.cell 4 4 false]=some v/\(Cq v=true/\v.refs=[])/\(σ.length<=(s.set σ.length (.row x.row 76 0 0)).length/\Cl (s.set σ.length (.row x.row 76 0 0)))/\((∃ x:Xp,v=.agg x.row/\MX d x)/\MKr (s.set σ.length (.row x.row 76 0 0)) m b uH H/\FW m σ (s.set σ.length (.row x.row 76 0 0))):=fun e s x he hx hs hw hk hn=>by
  have hl:=(Aq.1 hk).1;have hc:Cl (s.set σ.length (.row x.row 76 0 0)):=Hl hs.cl (by simp only[Ob.refs,Nj (Dm x)];simp);rw[Gv hs]at hn;simp only[Bi,not_or]at hn;refine⟨.agg x.row,Sw (Ci hl) he (Axw x),A62 (Dm x),⟨by simpa using hw.1,hc⟩,⟨x,rfl,hx⟩,O4 hs hc (Bj hn.1) ?_ (fun i hi=>Bj fun(e:σ.length=i)=>hn.2.2 (by rw[e];exact hi)),Aq3 hw (Ai _) je⟩;obtain⟨z,t,l,a,h1,h2⟩:=hs.tape;exact⟨z,t,l,a,by rw[Bj hn.2.1];exact h1,h2⟩
 simp only[go_sem,m1];refine Ab q2 ?_;have qv:(k<2\/(¬ k<2/\d=0/\7<=k))\/(2<=k/\k<7)\/(d≠0/\k=7)\/(d≠0/\8<=k):=by omega
 rcases qv with hA | hB | hC | hD
 .obtain⟨j,s3,q3,h3,w3,l3,r3,m3⟩:=Ox h2 4 4 rfl (by omega);obtain⟨k3,n3⟩:=H1 w3 k2 n2;rcases hA with h4 | ⟨h4,h0,jw⟩
  case' inl=>have f1:((k:Int)<2)=True:=eq_true (by omega)
  case' inr=>have f1:((k:Int)<2)=False:=eq_false (by omega)
  case' inr=>have f2:((d:Int)==0)=true:=by simp[h0]
  case' inr=>have f3:((7:Int)<=(k:Int))=True:=eq_true (by omega)
  case' inl=>simp only[go_sem,m2,f1]
  case' inr=>simp only[go_sem,m2,f1,f2,f3,ge_iff_le]
  all_goals
   refine Ab q3 ?_;simp only[go_sem];refine Ad (Adc _) rfl ?_;simp only[go_sem,k3];have qf:Xp.row ⟨1,j,[],true,0,[]⟩=[iV 1,iV (j:Int),.str [],.nils]:=by rw[Bb];rfl
   rw[<-qf];refine qa _ s3 ⟨1,j,[],true,0,[]⟩ (by rfl) ⟨.num (by omega),?_,?_⟩ h3 (Fa qD w3) k3 n3
   .rw[E9];have:=Ut (j:Int);have:=Acx d;simp only[Dr,if_true];omega
   .rw[F8];have:=Ach d;simp[Cw];omega
 .obtain⟨j,s3,q3,h3,w3,l3,r3,m3⟩:=Ox h2 7 7 rfl (by omega);obtain⟨k3,n3⟩:=H1 w3 k2 n2;obtain⟨nm,hn,qJ⟩:=Xb [[97],[98],[120],[121],[118],[120],[121]] (by kernel_rfl) (j:=j) (by simp;omega);simp only[Aw,B6]at hn;have f1:((k:Int)<2)=False:=eq_false (by omega);have f4:((k:Int)<7)=True:=eq_true (by omega);have f3:((7:Int)<=(k:Int))=False:=eq_false (by omega);cases f2:((d:Int)==0)
  all_goals
   simp only[go_sem,m2,f1,f2,f3,f4,ge_iff_le];refine Ab q3 ?_;simp only[go_sem,hn];refine Ad (Ac0 nm) rfl ?_;simp only[go_sem,k3];have qf:Xp.row ⟨2,0,nm,true,0,[]⟩=[iV 2,iV 0,.str nm,.nils]:=by rw[Bb];rfl
   rw[<-qf];refine qa _ s3 ⟨2,0,nm,true,0,[]⟩ (by rfl) ⟨.name qJ.1,?_,?_⟩ h3 (Fa qD w3) k3 n3
   .rw[E9];have:=Acx d;have:=qJ.2;simp only[Dr,show((2:Int)=1)=False from eq_false (by omega),if_false,if_true];omega
   .rw[F8];have:=Ach d;have:=qJ.2;simp[Cw];omega
 .obtain⟨qg,rfl⟩:=hC;obtain⟨_,s3,q3,⟨x,rfl,hx⟩,h3,w3⟩:=ih 0 qg (by omega) s2 m b uH H h2;obtain⟨k3,n3⟩:=H1 w3 k2 n2;rw[show(((0:Nat):Int))=0 from rfl]at q3;have f2:((d:Int)==0)=false:=by simp[qg]
  have qp:=Dm x;have qA:=Bb x;rw[qA]at q3 qp;simp only[go_sem,m2,f2,C1,Int.reduceBEq,Int.reduceLT];refine Cg q3 ?_;simp only[go_sem,k3];have qf:Xp.row ⟨3,0,[113],true,1,[x]⟩=[iV 3,iV 0,.str [113],.lst 1 [[iV x.op,iV x.n,.str x.nm,SL x.z x.t (x.l.map Xp.row)]]]:=by rw[Bb];simp only[Aw,B6,qA];rfl
  rw[<-qf];refine qa _ s3 ⟨3,0,[113],true,1,[x]⟩ (by rfl) ⟨.idx (by kernel_rfl) hx.1,?_,?_⟩ h3 (Fa qD w3) k3 n3
  .rw[E9];have:=Aph qg;have:=hx.2.1;have:EB 0<=EB (d - 1):=Acx _;simp[Dr];omega
  .rw[F8];have:=Ano qg;have:=hx.2.2;have:Mf 0<=Mf (d - 1):=Ach _;simp[Cw];omega
 .obtain⟨qg,h8⟩:=hD;obtain⟨j,s3,q3,h3,w3,l3,r3,m3⟩:=Ox h2 6 6 rfl (by omega);obtain⟨k3,n3⟩:=H1 w3 k2 n2;obtain⟨op,ho,jB⟩:=Av9 (j:=j) (by omega);obtain⟨_,s4,q4,⟨x,rfl,hx⟩,h4,w4⟩:=ih (d - 1) qg (by omega) s3 m b uH H h3;obtain⟨k4,n4⟩:=H1 w4 k3 n3;obtain⟨_,s5,q5,⟨y,rfl,hy⟩,h5,w5⟩:=ih (d - 1) qg (by omega) s4 m b uH H h4;obtain⟨k5,n5⟩:=H1 w5 k4 n4;have f1:((k:Int)<2)=False:=eq_false (by omega);have f2:((d:Int)==0)=false:=by simp[qg]
  have f4:((k:Int)<7)=False:=eq_false (by omega);have f5:((k:Int)==7)=false:=by simp;omega
  have e3:IntKind.i64.wrap ((d:Int) - 1)=((d - 1:Nat):Int):=by rw[Ec (by omega)];omega
  have qu:=Apg op x y;have qp:=Dm x;have jm:=Dm y;have qA:=Bb x;have qB:=Bb y;have qf:Xp.row ⟨op,0,[],true,1,[x,y]⟩=[iV op,iV 0,.str [],.lst 1 [x.row,y.row]]:=by rw[Bb];rfl
  have jC:=qf;rw[qf]at qu;rw[qA]at q4 qp qu qf;rw[qB]at q5 jm qu qf;simp only[go_sem,m2,f1,f2,f4,f5];refine Ag (by kernel_rfl) ?_;simp only[go_sem,m2];refine Gy q3 ?_;simp only[go_sem,ho];refine wgR ?_;simp only[go_sem,e3];refine Gy (Acg q4) ?_;simp only[go_sem,e3];refine Gy (Acg q5) ?_;simp only[go_sem];refine Bl qu (by simp only[go_sem]) ?_;simp only[go_sem,k5];refine Az ?_;simp only[go_sem];rw[<-qf];refine qa _ s5 ⟨op,0,[],true,1,[x,y]⟩ (by rfl) ⟨.bin (by omega) hx.1 hy.1,?_,?_⟩ h5 (Fa qD (Fa w3 (Fa w4 w5))) k5 n5
  .rw[E9];have:=Aph qg;have h2:=(Mq (x.op,x.txt) (Fu op)).2;have qZ:=(Mq (y.op,y.txt) (A1 op+1)).2;simp only at h2 qZ;have h3:(By op).length<=2:=Api _
   have h0:Dr op 0 [] [(x.op,x.txt),(y.op,y.txt)]=Dh (x.op,x.txt) (Fu op)++32::(By op++32::Dh (y.op,y.txt) (A1 op+1)):=by
    unfold Dr;rw[if_neg (by omega),if_neg (by omega)]
   have:=hx.2.1;have:=hy.2.1;simp only[Aw,B6,h0,Aj,Ah];omega
  .rw[F8];have:=Ano qg;have:=hx.2.2;have:=hy.2.2;simp[Cw];omega
def Anp:∀ (d:Nat),d<=5->∀ (d':Nat),d'<=d->∀ (σ:St) (m b:Nat) (uH:V) (H:List (List UInt8)),MKr σ m b uH H->MXp d' m b uH H σ
 | 0,hd,d',hd',σ,m,b,uH,H,h=>by
  obtain rfl:d'=0:=by omega
  exact Akl hd (fun _ h0 _=>absurd rfl h0) h
 | d+1,hd,d',hd',σ,m,b,uH,H,h=>Akl (by omega) (fun d2 h0 h2 σ m b uH H h=>Anp d (by omega) d2 (by omega) σ m b uH H h) h
