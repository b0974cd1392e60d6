/- Walks: the parser's threads. -/
import Derived.Test.YthlbbjcbmojocaaGreatDoorLs
set_option linter.all false
namespace Go.Proofs.YthlbbjcbmojocaaGreatDoor.KM
open Go
def Adc:∀ (js:List Nat) (σ:St) (n:Nat),(∀ i∈js,n<=i)->∀ j,j<n->(σ.freeze js)[j]?=σ[j]?
 | [],_,_,_,_,_=>rfl
 | i::js,σ,n,h,j,hj=>by
  have hi:=h i Dy;simp only[St.freeze]
  split
  .rw[Adc js _ n (fun k hk=>h k (Dj _ hk)) j hj,Bg (by omega)]
  .exact Adc js _ n (fun k hk=>h k (Dj _ hk)) j hj
def Aom{z:Bool}{t:Nat}{A:List Tk}{f m q0:Nat}{res:List AR}{thr:Bool}{body:AC}{s:St}{R:V->Nat->Prop}(hT:TT f=some ⟨1,res,thr,body,none⟩)(hs:s[m]?=some (RO z t A q0))
  (h:∀ S,RdS s m z t A S->W TT PT [.c body] (C6 0 [.ptr m 0 0]) (S q0) (Hd fun e' σ1=>∃ vs qs q,Cd e' σ1 res=some (.tup vs)/\vs.all H3=true/\OVs σ1 vs qs/\(∀ j∈Al vs,s.length<=j)/\Al qs=[]/\RW s σ1 m z t A q/\q<=A.length/\R (.tup qs) q)):RT f [] s m z t A R:=by
 have h:=h _ (Am4 z t A (Ap.1 hs).1);rw[K5 hs]at h;obtain⟨e',σ1,hE,vs,qs,q,hr,kv,kw,jt,kA,hw,hq,hR⟩:=h;have kn:=Adc (Al vs) σ1 s.length jt;have jf:RW s (σ1.freeze (Al vs)) m z t A q:=O6 hw (by rw[Nk];exact hw.1) kn;refine⟨_,q,?_,hq,hR⟩;rw[<-Am5 jf];refine Aja hT rfl rfl ⟨e',σ1,hE,.tup vs,Al vs,hr,kv,?_,?_,Am6 jf,rfl⟩
 .exact congrArg (Option.map V.tup) (Wg kw fun j hj=>hj)
 .show En s.length [] (Al qs)=true;rw[kA];rfl
def Aqk{s:St}{m:Nat}{z:Bool}{t:Nat}{A:List Tk}{S:Nat->St}(hS:RdS s m z t A S){p0:Nat}(hs:s[m]?=some (RO z t A p0))(q:Nat)(l:St):RW s (S q++l) m z t A q:=by
 rw[hS.eq];exact Z7 (N1 (Aet hs) q)
def Nu{s σ:St}{m:Nat}{z:Bool}{t:Nat}{A:List Tk}{q j:Nat}{x:Ob}(h:RW s σ m z t A q)(hj:s.length<=j):RW s (σ.set j x) m z t A q:=by
 have:=h.2.2.2;exact O6 h (by rw[Gx];exact h.1) fun i hi=>Bg (by omega)
def PRt(A:List Tk)(o:Option (Tp × List Tk))(v:V)(p':Nat):Prop:=match o with
 | some (x,r)=>v=.tup [.agg x.row,.bool true]/\A.drop p'=r
 | none=>∃ d0 d1 d2 d3:V,[d0,d1,d2,d3].all V.rowB=true/\v=.tup [.agg [d0,d1,d2,d3],.bool false]
def Adt(L:List (List UInt8)):(SL true 0 (L.map Jz)).rowB=true:=by
 unfold SL
 split<;>rfl
def Am7(z:Bool)(t:Nat)(xs:List (List V)):(SL z t xs).refs=[]:=by unfold SL;split<;>rfl
def Wl{σ:St}{e lo:Nat}{u:V}{L:List (List UInt8)}{nm:List UInt8}{ln:Int}{w:V}{b:Bool}(hg:GW σ 1 e lo u (L.map Jz))(hw:w.rowB=true):OVs σ [.agg [.str nm,iV ln,u,w],.bool b] [.agg [.str nm,iV ln,SL true 0 (L.map Jz),w],.bool b]:=
 .cons (Wx (.cons (Hj rfl) (.cons (Hj rfl) (.cons (N3 hg (by omega) (by intro r hr;obtain⟨x,-,rfl⟩:=Dq.1 hr;rfl) (by intro r hr;obtain⟨x,-,rfl⟩:=Dq.1 hr;rfl)) (.cons (Hj hw) .nil))))) (.cons (I6 rfl) .nil)
def W1{σ:St}{e lo:Nat}{u:V}{xs:List (List V)}{nm:List UInt8}{ln:Int}{w:V}{b:Bool}(hg:GW σ 1 e lo u xs)(hw:w.rowB=true):∀ j∈Al [.agg [.str nm,iV ln,u,w],.bool b],lo<=j:=by
 have kF:=Vk hw;intro j hj;simp only[Al,V.refs,kF,Cm,Fd]at hj;rcases hg with⟨rfl,-⟩ | ⟨-,i,g,rfl,-,jt⟩
 .cases hj
 .simp only[V.refs,E4]at hj;omega
def W2{σ:St}{e lo:Nat}{u:V}{xs:List (List V)}{nm:List UInt8}{ln:Int}{w:V}{b:Bool}(hg:GW σ 1 e lo u xs)(hw:w.rowB=true):[V.agg [.str nm,iV ln,u,w],.bool b].all H3=true:=by
 have h1:=Dk hg;have h2:=E6 hw;show([V.str nm,iV ln,u,w].all V.cellB&&(H3 (.bool b)&&true))=true;rw[show([V.str nm,iV ln,u,w].all V.cellB)=true from by simp only[Av,Be,h1,h2];rfl];rfl
def W3{L:List (List UInt8)}{nm:List UInt8}{ln:Int}{w:V}{b:Bool}(hw:w.rowB=true):Al [.agg [.str nm,iV ln,SL true 0 (L.map Jz),w],.bool b]=[]:=by
 simp only[Al,V.refs,Am7,Vk hw,Cm]
set_option maxHeartbeats 4000000 in
def Ats{n:Nat}{s:St}{m:Nat}{z:Bool}{t:Nat}{A:List Tk}{p:Nat}(hA:OkA A)(hT:Dl A)(hs:s[m]?=some (RO z t A p))(hp:p<A.length)(hf:10*(A.length - p)+2<=n):RT 50 [] s m z t A (PRt A (Rn n (A.drop p))):=by
 have hl:A.length<=1000000:=by have:=hA.len;omega
 have hm:=(Ap.1 hs).1;refine Aom T50 hs fun S hS=>?_
 have qp:=hS;have qg:=Aqk qp hs;have qi:=Pa (qp.get p [.row [.str [],iV 0,.nils,.nils] 50 0 0]) hl (Mm hp);have qq:=Bf (show p<9223372036854775807 by omega);have jx:p+1<=A.length:=hp;rw[Jt hp,Rn];generalize kJ:Aa A p=tk at qi
 cases hn:C3 (A.drop (p+1)) with
 | none=>
  have c1:=Xm qp (p:=p+1) [.row [.str [],iV 0,.nils,.nils] 50 0 0,.row [.str [],iV tk.line,.nils,.nils] 50 0 0] hl jx hn;have Zq:=Dc hS;obtain⟨-,-,qa,get,get0,set,set0,n0,n1,n2,u0,u1,u2⟩:=hS;simp only[go_sem,Zq,LZ];refine Ab qi ?_;simp only[go_sem,Zq,LZ,qq];refine Ab c1 ?_;simp only[go_sem,Zq,LZ];exact⟨_,_,_,B7 (n0 _ _ _) rfl rfl rfl,rfl,.cons (I6 rfl) (.cons (I6 rfl) .nil),(fun j hj=>by cases hj),rfl,qg _ _,jx,_,_,_,_,rfl,rfl⟩
 | some nt=>
  obtain⟨nm,ts⟩:=nt;obtain⟨c1,jv,h3⟩:=Abz qp (p:=p+1) [.row [.str [],iV 0,.nils,.nils] 50 0 0,.row [.str [],iV tk.line,.nils,.nils] 50 0 0] hl jx hn;simp only;rw[<-h3];unfold Dm;have qJ:p+1+1<=A.length:=jv;by_cases qw:Ar [40] (A.drop (p+1+1))=true
  case neg=>
   have qw:Ar [40] (A.drop (p+1+1))=false:=by simpa using qw
   rw[if_neg (by rw[qw];decide)];have c2:=H6 qp (p:=p+1+1) [.row [.str [],iV 0,.nils,.nils] 50 0 0,.row [.str nm,iV tk.line,.nils,.nils] 50 0 0] hl qJ qw;have Zq:=Dc hS;obtain⟨-,-,qa,get,get0,set,set0,n0,n1,n2,u0,u1,u2⟩:=hS;simp only[go_sem,Zq,LZ];refine Ab qi ?_;simp only[go_sem,Zq,LZ,qq];refine Ab c1 ?_;simp only[go_sem,Zq,LZ];refine Ab c2 ?_;simp only[go_sem,Zq,LZ];exact⟨_,_,_,B7 (n0 _ _ _) rfl rfl rfl,rfl,.cons (I6 rfl) (.cons (I6 rfl) .nil),(fun j hj=>by cases hj),rfl,qg _ _,qJ,_,_,_,_,rfl,rfl⟩
  rw[if_pos qw];simp only;rw[<-Dz];have c2:=I7 qp (p:=p+1+1) [.row [.str [],iV 0,.nils,.nils] 50 0 0,.row [.str nm,iV tk.line,.nils,.nils] 50 0 0] hl qw;have jS:p+1+1+1<=A.length:=Dt qw;unfold Af8;by_cases qx:Ar [41] (A.drop (p+1+1+1))=true
  .rw[if_pos qx];simp only;rw[<-Dz];have c3:=I7 qp (p:=p+1+1+1) [.row [.str [],iV 0,.nils,.nils] 50 0 0,.row [.str nm,iV tk.line,.nils,.nils] 50 0 0] hl qx;have kx:p+1+1+1+1<=A.length:=Dt qx;obtain⟨v,q,c4,hq,h4⟩:=Mx qp (p:=p+1+1+1+1) (l:=[.row [.str [],iV 0,.nils,.nils] 50 0 0,.row [.str nm,iV tk.line,.nils,.nils] 50 0 0]) fun hs=>(Ak9 n).2 _ m z t A _ hA hT hs kx (by omega)
   have Zq:=Dc hS;obtain⟨-,-,qa,get,get0,set,set0,n0,n1,n2,u0,u1,u2⟩:=hS;simp only[go_sem,Zq,LZ];refine Ab qi ?_;simp only[go_sem,Zq,LZ,qq];refine Ab c1 ?_;simp only[go_sem,Zq,LZ];refine Ab c2 ?_;simp only[go_sem,Zq,LZ];refine Ab c3 ?_;simp only[go_sem,Zq,LZ];unfold Xv at h4
   cases hb:Ex n (A.drop (p+1+1+1+1)) with
   | none=>
    rw[hb]at h4;subst h4;refine Ab c4 ?_;simp only[go_sem,Zq,LZ];exact⟨_,_,_,B7 (n0 _ _ _) rfl rfl rfl,rfl,.cons (I6 rfl) (.cons (I6 rfl) .nil),(fun j hj=>by cases hj),rfl,qg _ _,hq,_,_,_,_,rfl,rfl⟩
   | some bt=>
    obtain⟨b,kG⟩:=bt;rw[hb]at h4;obtain⟨rfl,h4⟩:=h4;have qm:=B0 b;refine Ab c4 ?_;simp only[go_sem,Zq,LZ];exact⟨_,[.agg [.str nm,iV tk.line,.nils,SL true 0 (b.map Sp.row)],.bool true],_,B7 (n0 _ _ _) rfl rfl rfl,W2 (σ:=[]) (e:=0) (lo:=0) F9 qm,Wl (L:=[]) (e:=0) (lo:=0) F9 qm,W1 (σ:=[]) (e:=0) (lo:=s.length) (xs:=[]) F9 qm,W3 (L:=[]) qm,qg _ _,hq,rfl,h4⟩
  .have qx:Ar [41] (A.drop (p+1+1+1))=false:=by simpa using qx
   rw[if_neg (by rw[qx];decide)];have c3:=H6 qp (p:=p+1+1+1) [.row [.str [],iV 0,.nils,.nils] 50 0 0,.row [.str nm,iV tk.line,.nils,.nils] 50 0 0] hl jS qx;have Zq:=Dc hS;obtain⟨-,-,qa,get,get0,set,set0,n0,n1,n2,u0,u1,u2⟩:=hS;simp only[go_sem,Zq,LZ];refine Ab qi ?_;simp only[go_sem,Zq,LZ,qq];refine Ab c1 ?_;simp only[go_sem,Zq,LZ];refine Ab c2 ?_;simp only[go_sem,Zq,LZ];refine Ab c3 ?_;simp only[go_sem,Zq,LZ];refine Bv (α:=Nat × Nat × V × List (List UInt8) × St) (fun a=>a.1) (fun a=>[(0,.ptr m 0 0),(2,.ptr s.length 0 0),(4,.ptr (s.length+1) 0 0)]) (fun a=>a.2.2.2.2) (fun a=>a.1<=n/\a.2.1<=A.length/\A.length - a.2.1<a.1/\RW s a.2.2.2.2 m z t A a.2.1/\a.2.2.2.2[s.length]?=some (.row [.str [],iV 0,.nils,.nils] 50 0 0)/\a.2.2.2.2[s.length+1]?=some (.row [.str nm,iV tk.line,a.2.2.1,.nils] 50 0 0)/\GW a.2.2.2.2 1 9 (s.length+2) a.2.2.1 (a.2.2.2.1.map Jz)/\J1 n (A.drop (p+1+1+1))=(J1 a.1 (A.drop a.2.1)).map (fun y=>(a.2.2.2.1++y.1,y.2))/\a.2.2.2.1.length<=a.2.1/\s.length+2<=a.2.2.2.2.length/\p+1<=a.2.1) ?_ (n,p+1+1+1,.nils,[],S (p+1+1+1)++[.row [.str [],iV 0,.nils,.nils] 50 0 0,.row [.str nm,iV tk.line,.nils,.nils] 50 0 0]) ⟨Ah _,jS,by simp only;omega,qg _ _,n0 _ _ _,n1 _ _ _ _,F9,by simp only[Fd];cases J1 n (A.drop (p+1+1+1))<;>rfl,by simp,by simp[qa],by simp only;omega⟩;rintro⟨k,q,u,L,σ⟩ ⟨kq,hq,jm,hw,jK,jG,hg,qb,kf,qt,qr⟩ ih;simp only at kq hq jm hw jK jG hg qb kf qt qr ih;obtain⟨k,rfl⟩:∃ j,k=j+1:=⟨k - 1,by omega⟩;have kB:∀ r∈L.map Jz,r.length=1:=by intro r hr;obtain⟨x,-,rfl⟩:=Dq.1 hr;rfl
   have kj:=Dk hg;have jk:∀ (τ:St) (ob:Ob),s.length+2<=τ.length->(τ.set (s.length+1) ob)[s.length+1]?=some ob:=fun τ ob h=>Cc (by omega)
   have qL:∀ (τ:St) (ob:Ob),s.length+2<=τ.length->(τ.set s.length ob)[s.length]?=some ob:=fun τ ob h=>Cc (by omega)
   refine Bw (by delta lp50_0;exact rfl) ?_
   cases hnq:C3 (A.drop q) with
   | none=>
    have d1:=(Uf hw.2.2.1 hl hq).2 hnq;have ho:J1 (k+1) (A.drop q)=none:=by rw[J1,hnq]
    rw[ho]at qb;rw[qb];simp only[go_sem];refine Ab d1 ?_;simp only[go_sem,jG,jK,kj];exact⟨_,[.agg [.str nm,iV tk.line,SL true 0 ((L).map Jz),.nils],.bool false],q,B7 (qL _ _ (qt)) rfl rfl rfl,W2 hg rfl,Wl (Fx hg (by omega)) rfl,(fun j hj=>by have:=W1 hg rfl j hj;omega),W3 rfl,Nu hw (Ah _),hq,_,_,_,_,by simp only[Av,Be,Adt];rfl,rfl⟩
   | some wr=>
    obtain⟨w,r⟩:=wr;obtain⟨d1,jw,jV⟩:=(Uf hw.2.2.1 hl hq).1 w r hnq
    have ho:J1 (k+1) (A.drop q)=if Ar [44] r then(match J1 k r.tail with
      | none=>none
      | some (l,r)=>some (w::l,r)) else(Dm [41] r).map fun ts=>([w],ts):=by
     rw[J1,hnq];rfl
    rw[ho]at qb;have jW:=N1 hw (q+1);have jO:GW (σ.set m (RO z t A (q+1))) 1 9 (s.length+2) u (L.map Jz):=Fx hg (by omega);have kr:(σ.set m (RO z t A (q+1))).length=σ.length:=Gx;have jY:(σ.set m (RO z t A (q+1)))[s.length]?=some (.row [.str [],iV 0,.nils,.nils] 50 0 0):=by rw[Bg (by omega)];exact jK
    have qY:(σ.set m (RO z t A (q+1)))[s.length+1]?=some (.row [.str nm,iV tk.line,u,.nils] 50 0 0):=by rw[Bg (by omega)];exact jG
    generalize σ.set m (RO z t A (q+1))=τ1 at d1 jW jO kr jY qY;obtain⟨u',τ2,ha,jP,kI,-,qh⟩:=Q5 (bytes:=16) (y:=.lst 1 [[.str w]]) (ys:=[[.str w]]) jO (by omega) rfl (by omega) kB (by simp) (by simp;omega);have jf:RW s τ2 m z t A (q+1):=O6 jW (by omega) fun j hj=>qh j (by omega)
    have qf:=Dk jP;obtain⟨qA,qz⟩:=Ada qf;obtain⟨τ3,e3⟩:∃ τ:St,τ=τ2.set (s.length+1) (.row [.str nm,iV tk.line,u',.nils] 50 0 0):=⟨_,rfl⟩;have qv:RW s τ3 m z t A (q+1):=by rw[e3];exact O6 jf (by rw[Gx];omega) fun j hj=>Bg (by omega)
    have qQ:GW τ3 1 9 (s.length+2) u' ((L++[w]).map Jz):=by rw[e3,Ef];exact Fx jP (by omega)
    have jp:s.length+2<=τ3.length:=by rw[e3,Gx];omega
    have jJ:τ3[s.length]?=some (.row [.str [],iV 0,.nils,.nils] 50 0 0):=by rw[e3,Bg (by omega),qh _ (by omega)];exact jY
    have jF:τ3[s.length+1]?=some (.row [.str nm,iV tk.line,u',.nils] 50 0 0):=by rw[e3];exact jk _ _ (by omega)
    have jE:τ2[s.length+1]?=some (.row [.str nm,iV tk.line,u,.nils] 50 0 0):=by rw[qh _ (by omega)];exact qY
    have jC:q+1<=A.length:=jw;by_cases qn:Ar [44] r=true
    .rw[if_pos qn]at qb;rw[<-jV]at qn qb;have d2:=Pj qv.2.2.1 hl qn;have qV:=Dt qn;rw[e3]at d2;simp only[go_sem];refine Ab d1 ?_;simp only[go_sem,qY,ha,jE,qf,qA,qz];refine Ab d2 ?_;rw[<-e3];simp only[go_sem];refine Bd (ih (k,q+1+1,u',L++[w],τ3.set m (RO z t A (q+1+1))) (by simp) ⟨by simp only;omega,qV,by simp only;omega,N1 qv _,by simp only;rw[Bg (by omega)];exact jJ,by simp only;rw[Bg (by omega)];exact jF,Fx qQ (by omega),?_,by simp;omega,by simp only[Gx];exact jp,by simp only;omega⟩) rfl;simp only;rw[qb,<-Dz]
     cases J1 k (A.drop (q+1+1)) with
     | none=>rfl
     | some y=>simp
    .have qn:Ar [44] r=false:=by simpa using qn
     rw[if_neg (by rw[qn];decide)]at qb;rw[<-jV]at qn qb;have d2:=Pk qv.2.2.1 hl jC qn;rw[e3]at d2;unfold Dm at qb;by_cases qe:Ar [41] (A.drop (q+1))=true
     .rw[if_pos qe]at qb;simp only[Fp]at qb;rw[qb];simp only;rw[<-Dz];have d3:=Pj qv.2.2.1 hl qe;have qU:=Dt qe;have kE:=N1 qv (q+1+1);obtain⟨v,q5,d4,jU,h5⟩:=(Ak9 n).2 (τ3.set m (RO z t A (q+1+1))) m z t A (q+1+1) hA hT kE.2.2.1 qU (by omega);rw[Qk]at d4;have jI:=N1 qv q5;have qC:GW (τ3.set m (RO z t A q5)) 1 9 (s.length+2) u' ((L++[w]).map Jz):=Fx qQ (by omega);have qT:s.length+2<=(τ3.set m (RO z t A q5)).length:=by rw[Gx];exact jp
      have jZ:(τ3.set m (RO z t A q5))[s.length]?=some (.row [.str [],iV 0,.nils,.nils] 50 0 0):=by rw[Bg (by omega)];exact jJ
      have jH:(τ3.set m (RO z t A q5))[s.length+1]?=some (.row [.str nm,iV tk.line,u',.nils] 50 0 0):=by rw[Bg (by omega)];exact jF
      generalize τ3.set m (RO z t A q5)=τ5 at d4 jI qC qT jZ jH;have ka:∀ ob:Ob,(τ5.set (s.length+1) ob)[s.length]?=some (.row [.str [],iV 0,.nils,.nils] 50 0 0):=fun ob=>by rw[Bg (by omega)];exact jZ
      rw[e3]at d3;unfold Xv at h5;simp only[go_sem];refine Ab d1 ?_;simp only[go_sem,qY,ha,jE,qf,qA,qz];refine Ab d2 ?_;simp only[go_sem];refine Ab d3 ?_;rw[<-e3];simp only[go_sem]
      cases hb:Ex n (A.drop (q+1+1)) with
      | none=>
       rw[hb]at h5;subst h5;refine Ab d4 ?_;simp only[go_sem,jH,jk _ _ qT,ka,qf];exact⟨_,[.agg [.str nm,iV tk.line,SL true 0 ((L++[w]).map Jz),.nils],.bool false],q5,B7 (qL _ _ (by rw[Gx];exact qT)) rfl rfl rfl,W2 qC rfl,Wl (Fx (Fx qC (by omega)) (by omega)) rfl,(fun j hj=>by have:=W1 qC rfl j hj;omega),W3 rfl,Nu (Nu jI (by omega)) (Ah _),jU,_,_,_,_,by simp only[Av,Be,Adt];rfl,rfl⟩
      | some bt=>
       obtain⟨b,kG⟩:=bt;rw[hb]at h5;obtain⟨rfl,h5⟩:=h5;have qm:=B0 b;have ki:=E6 qm;refine Ab d4 ?_;simp only[go_sem,jH,jk _ _ qT,ka,qf,ki];exact⟨_,[.agg [.str nm,iV tk.line,SL true 0 ((L++[w]).map Jz),SL true 0 (b.map Sp.row)],.bool true],q5,B7 (qL _ _ (by rw[Gx];exact qT)) rfl rfl rfl,W2 qC qm,Wl (Fx (Fx qC (by omega)) (by omega)) qm,(fun j hj=>by have:=W1 qC qm j hj;omega),W3 qm,Nu (Nu jI (by omega)) (Ah _),jU,rfl,h5⟩
     .have qe:Ar [41] (A.drop (q+1))=false:=by simpa using qe
      rw[if_neg (by rw[qe];decide)]at qb;simp only[Option.map_none]at qb;rw[qb];have d3:=Pk qv.2.2.1 hl jC qe;rw[e3]at d3;simp only[go_sem];refine Ab d1 ?_;simp only[go_sem,qY,ha,jE,qf,qA,qz];refine Ab d2 ?_;simp only[go_sem];refine Ab d3 ?_;rw[<-e3];simp only[go_sem,jF,jJ,qf];exact⟨_,[.agg [.str nm,iV tk.line,SL true 0 ((L++[w]).map Jz),.nils],.bool false],(q+1),B7 (qL _ _ (jp)) rfl rfl rfl,W2 qQ rfl,Wl (Fx qQ (by omega)) rfl,(fun j hj=>by have:=W1 qQ rfl j hj;omega),W3 rfl,Nu qv (Ah _),jC,_,_,_,_,by simp only[Av,Be,Adt];rfl,rfl⟩
def PRg(A:List Tk)(o:Option (Gp × List Tk))(v:V)(p':Nat):Prop:=match o with
 | some (x,r)=>v=.tup [.agg x.row,.bool true]/\A.drop p'=r
 | none=>∃ d0 d1:V,[d0,d1].all V.rowB=true/\v=.tup [.agg [d0,d1],.bool false]
structure PS (s σ:St) (m:Nat) (z:Bool) (t:Nat) (A:List Tk) (q:Nat) (u1 u2:V) (D:List Dp) (L:List Tp):Prop where
 rw:RW s σ m z t A q
 len:s.length+2<=σ.length
 z2:σ[s.length]?=some (.row [.nils,.nils] 28 0 0)
 p:σ[s.length+1]?=some (.row [u1,u2] 28 0 0)
 g1:GW σ 6 54 (s.length+2) u1 (D.map Dp.row)
 g2:GW σ 4 50 (s.length+2) u2 (L.map Tp.row)
def Aon{s σ:St}{m:Nat}{z:Bool}{t:Nat}{A:List Tk}{q:Nat}{u1 u2:V}{D:List Dp}{L:List Tp}(h:PS s σ m z t A q u1 u2 D L)(q':Nat):PS s (σ.set m (RO z t A q')) m z t A q' u1 u2 D L:=by
 have hm:=h.rw.2.2.2;exact⟨N1 h.rw q',by rw[Gx];exact h.len,by rw[Bg (by omega)];exact h.z2,by rw[Bg (by omega)];exact h.p,Fx h.g1 (by omega),Fx h.g2 (by omega)⟩
def Z8{s σ l:St}{m:Nat}{z:Bool}{t:Nat}{A:List Tk}{q:Nat}{u1 u2:V}{D:List Dp}{L:List Tp}(h:PS s σ m z t A q u1 u2 D L):PS s (σ++l) m z t A q u1 u2 D L:=
 ⟨Z7 h.rw,by have:=h.len;simp;omega,Bx h.z2,Bx h.p,O5 h.g1,O5 h.g2⟩
def A0e{s σ:St}{m:Nat}{z:Bool}{t:Nat}{A:List Tk}{q:Nat}{u1 u2:V}{D:List Dp}{L:List Tp}(h:PS s σ m z t A q u1 u2 D L)(d:Dp)(hb:D.length<=1000000):
  ∃ u' σ',D5 64 (6,54) u1 (.lst 1 [d.row]) σ=some (u',σ')/\u'.cellB=true/\σ'[s.length+1]?=some (.row [u1,u2] 28 0 0)/\PS s (σ'.set (s.length+1) (.row [u',u2] 28 0 0)) m z t A q u' u2 (D++[d]) L:=by
 obtain⟨u',σ',ha,hg,hl,jo,qh⟩:=Q5 (bytes:=64) (y:=.lst 1 [d.row]) (ys:=[d.row]) h.g1 h.len rfl (by omega) (Y5 D) (by simp;rfl) (by simp;omega);have qa:=h.len;have hp:σ'[s.length+1]?=some (.row [u1,u2] 28 0 0):=by rw[qh _ (by omega)];exact h.p
 refine⟨u',σ',ha,Dk hg,hp,Nu (O6 h.rw (by omega) fun j hj=>qh j (by omega)) (by omega),by rw[Gx];omega,?_,Cc (by omega),?_,?_⟩
 .rw[Bg (by omega),qh _ (by omega)];exact h.z2
 .rw[Ef];exact Fx hg (by omega)
 .exact Fx (Aof (by decide) (Aog h.g1) h.g2 jo) (by omega)
def A34{s σ:St}{m:Nat}{z:Bool}{t:Nat}{A:List Tk}{q:Nat}{u1 u2:V}{D:List Dp}{L:List Tp}(h:PS s σ m z t A q u1 u2 D L)(d:Tp)(hb:L.length<=1000000):
  ∃ u' σ',D5 72 (4,50) u2 (.lst 1 [d.row]) σ=some (u',σ')/\u'.cellB=true/\σ'[s.length+1]?=some (.row [u1,u2] 28 0 0)/\PS s (σ'.set (s.length+1) (.row [u1,u'] 28 0 0)) m z t A q u1 u' D (L++[d]):=by
 obtain⟨u',σ',ha,hg,hl,jo,qh⟩:=Q5 (bytes:=72) (y:=.lst 1 [d.row]) (ys:=[d.row]) h.g2 h.len rfl (by omega) (Qq L) (by simp;rfl) (by simp;omega);have qa:=h.len;have hp:σ'[s.length+1]?=some (.row [u1,u2] 28 0 0):=by rw[qh _ (by omega)];exact h.p
 refine⟨u',σ',ha,Dk hg,hp,Nu (O6 h.rw (by omega) fun j hj=>qh j (by omega)) (by omega),by rw[Gx];omega,?_,Cc (by omega),?_,?_⟩
 .rw[Bg (by omega),qh _ (by omega)];exact h.z2
 .exact Fx (Aof (by decide) (Aog h.g2) h.g1 jo) (by omega)
 .rw[Ef];exact Fx hg (by omega)
def Aaw{s σ:St}{m:Nat}{z:Bool}{t:Nat}{A:List Tk}{q:Nat}{u1 u2:V}{D:List Dp}{L:List Tp}(h:PS s σ m z t A q u1 u2 D L){e':Env}{b:Bool}{R:V->Nat->Prop}(kl:e'.get 2=.ptr s.length 0 0)(km:e'.get 3=.bool b)(hq:q<=A.length)(hR:R (.tup [.agg [SL true 0 (D.map Dp.row),SL true 0 (L.map Tp.row)],.bool b]) q):
  ∃ vs qs q,Cd e' (σ.set s.length (.row [u1,u2] 28 0 0)) [AR.cell 2 2 false,AR.tmp 3]=some (.tup vs)/\vs.all H3=true/\OVs (σ.set s.length (.row [u1,u2] 28 0 0)) vs qs/\(∀ j∈Al vs,s.length<=j)/\Al qs=[]/\RW s (σ.set s.length (.row [u1,u2] 28 0 0)) m z t A q/\q<=A.length/\R (.tup qs) q:=by
 have qa:=h.len;have c1:=Dk h.g1;have c2:=Dk h.g2;refine⟨[.agg [u1,u2],.bool b],[.agg [SL true 0 (D.map Dp.row),SL true 0 (L.map Tp.row)],.bool b],q,B7 (Cc (by omega)) kl rfl km,?_,?_,?_,?_,Nu h.rw (Ah _),hq,hR⟩
 .show([u1,u2].all V.cellB&&(H3 (.bool b)&&true))=true;simp only[Av,Be,c1,c2];rfl
 .exact .cons (Wx (.cons (N3 (Fx h.g1 (by omega)) (by omega) (Y5 D) (Adq D)) (.cons (N3 (Fx h.g2 (by omega)) (by omega) (Qq L) (Y6 L)) .nil))) (.cons (I6 rfl) .nil)
 .intro j hj;simp only[Al,V.refs,Cm,Cr]at hj
  have k1:∀ {w:V} {mm e:Nat} {xs:List (List V)},GW σ mm e (s.length+2) w xs->∀ j∈w.refs,s.length<=j:=by
   intro w mm e xs hg j hj;rcases hg with⟨rfl,-⟩ | ⟨-,i,g,rfl,-,jt⟩
   .cases hj
   .simp only[V.refs,E4]at hj;omega
  rcases hj with hj | hj
  .exact k1 h.g1 j hj
  .exact k1 h.g2 j hj
 .simp only[Al,V.refs,Am7,Cm]
set_option maxHeartbeats 4000000 in
def Asd{s:St}{m:Nat}{z:Bool}{t:Nat}{A:List Tk}(hA:OkA A)(hT:Dl A)(hs:s[m]?=some (RO z t A 0)):RT 28 [] s m z t A (PRg A (Xd A)):=by
 have hl:A.length<=1000000:=by have:=hA.len;omega
 have hm:=(Ap.1 hs).1;refine Aom T28 hs fun S hS=>?_
 have qg:=Aqk hS hs;have jz:PS s (S 0++[.row [.nils,.nils] 28 0 0,.row [.nils,.nils] 28 0 0]) m z t A 0 .nils .nils [] []:=⟨qg _ _,by simp[hS.len],hS.n0 _ _ _,hS.n1 _ _ _ _,F9,F9⟩;have Zq:=Dc hS;obtain⟨-,-,qa,get,get0,set,set0,n0,n1,n2,u0,u1,u2⟩:=hS;have kc:A.drop 0=A:=Ln;simp only[go_sem,Zq,LZ];refine Bv (α:=Nat × Nat × V × List Dp × St) (fun a=>a.1) (fun a=>[(0,.ptr m 0 0),(2,.ptr s.length 0 0),(4,.ptr (s.length+1) 0 0)]) (fun a=>a.2.2.2.2) (fun a=>a.2.1<=A.length/\A.length - a.2.1<a.1/\PS s a.2.2.2.2 m z t A a.2.1 a.2.2.1 .nils a.2.2.2.1 []/\Js (A.length+1) A=(Js a.1 (A.drop a.2.1)).map (fun y=>(a.2.2.2.1++y.1,y.2))/\a.2.2.2.1.length<=a.2.1) ?_ (A.length+1,0,.nils,[],S 0++[.row [.nils,.nils] 28 0 0,.row [.nils,.nils] 28 0 0]) ⟨Ay _,by simp only;omega,jz,by simp only[Fd,kc];cases Js (A.length+1) A<;>rfl,by simp⟩;rintro⟨k,q,v1,D,σ⟩ ⟨hq,jm,qK,qb,ke⟩ ih;simp only at hq jm qK qb ke ih;obtain⟨k,rfl⟩:∃ j,k=j+1:=⟨k - 1,by omega⟩;refine Bw (by delta lp28_0;exact rfl) ?_;have qi:=Pa qK.rw.2.2.1 hl hq;have qB:=Aia (Aa A q).text;have qL:∀ (τ:St) (ob:Ob),s.length+2<=τ.length->(τ.set s.length ob)[s.length]?=some ob:=fun τ ob h=>Cc (by omega)
 have qS:O9 (A.drop q)=((Aa A q).kind==3&&Ge (Aa A q).text != 0):=by
  rcases Br q A.length with h | h
  .rw[Jt h];rfl
  .rw[(Ir h).1,(Ir h).2];rfl
 by_cases hd:O9 (A.drop q)=true
 .have kz:q<A.length:=by
   rcases Br q A.length with h | h
   .exact h
   .rw[(Ir h).1]at hd;cases hd
  rw[qS,Af]at hd;obtain⟨qO,qP⟩:=hd;obtain⟨v,q2,c1,jd,h3⟩:=Asc hA hT qK.rw.2.2.1 hq (by rw[qS,qO,qP];rfl);have qE:=Aon qK q2
  have jy:Js (k+1) (A.drop q)=match Rg (A.drop q) with
    | none=>none
    | some (d,r)=>match Js k r with
     | none=>none
     | some (l,r)=>some (d::l,r):=by
   rw[Js,if_pos (by rw[qS,qO,qP];rfl)];rfl
  rw[jy]at qb;unfold PRd at h3;generalize σ.set m (RO z t A q2)=τ at c1 qE;have qZ:∀ a:Ob,(τ++[a])[τ.length]?=some a:=fun a=>by simp
  have ja:∀ a b:Ob,(τ++[a]).set τ.length b=τ++[b]:=fun a b=>by simp[Ie]
  cases qr:Rg (A.drop q) with
  | none=>
   rw[qr]at h3 qb;obtain⟨_,⟨e0,e1,e2,e3,e4,e5,rfl,hb⟩,rfl⟩:=h3;have qj:PS s (τ++[.row [e0,e1,e2,e3,e4,e5] 54 0 0]) m z t A q2 v1 .nils D []:=Z8 qE;have hz:=qj.z2;have hp:=qj.p;have qG:=Dk qK.g1;simp only[go_sem];refine Ab qi ?_;simp only[go_sem,qO];refine Ab qi ?_;simp only[go_sem];refine Ad qB rfl ?_;simp only[go_sem,qP];refine Ab c1 ?_;simp only[go_sem,qZ,ja,Aav hb,hz,hp,qG];refine Aaw qj rfl rfl jd ?_;unfold Xd;rw[qb];exact⟨_,_,by simp only[Av,Be,Q0];rfl,rfl⟩
  | some dr=>
   obtain⟨d,r⟩:=dr;rw[qr]at h3 qb;obtain⟨rfl,h3⟩:=h3
   have kt:r.length<A.length - q:=by
    have:=(Ah8 (C:=100) (by omega) (C5 hT (U7 q A)) (by rw[qS,qO,qP];rfl) qr).2.2.1;rw[Dn]at this;exact this
   have kC:r.length=A.length - q2:=by rw[<-h3,Dn]
   have qj:PS s (τ++[.row d.row 54 0 0]) m z t A q2 v1 .nils D []:=Z8 qE;obtain⟨w1,τ2,ha,hc,qJ,qd⟩:=A0e qj d (by omega);obtain⟨qA,qz⟩:=Ada hc;have hp:=qj.p;have jN:d.row=[iV d.kind,iV d.line,.str d.nm,iV d.size,iV d.init,.str d.on]:=rfl;rw[jN]at c1 ha;simp only[jN]at hp;simp only[go_sem];refine Ab qi ?_;simp only[go_sem,qO];refine Ab qi ?_;simp only[go_sem];refine Ad qB rfl ?_;simp only[go_sem,qP];refine Ab c1 ?_;simp only[go_sem,qZ,ja,hp,ha,qJ,hc,qA,qz];refine Bd (ih (k,q2,w1,D++[d],τ2.set (s.length+1) (.row [w1,.nils] 28 0 0)) (by simp) ⟨jd,by simp only;omega,qd,?_,by simp;omega⟩) rfl;simp only;rw[qb,h3];simp only
   cases Js k r with
   | none=>rfl
   | some y=>simp
 .have hd:O9 (A.drop q)=false:=by simpa using hd
  have jy:Js (k+1) (A.drop q)=some ([],A.drop q):=by rw[Js,if_neg (by rw[hd];decide)]
  rw[jy]at qb;simp only[Fp,Cm]at qb;rw[qS]at hd
  have ko:∀ P:Prop,((Aa A q).kind==3)=false\/(((Aa A q).kind==3)=true/\(Ge (Aa A q).text != 0)=false):=fun _=>by
   cases h:((Aa A q).kind==3)
   .exact .inl rfl
   .rw[h]at hd;exact .inr ⟨rfl,by simpa using hd⟩
  unfold Xd;rw[qb];simp only;rcases ko True with hk | ⟨hk,qh⟩
  case' inl=>simp only[go_sem]
  case' inl=>refine Ab qi ?_
  case' inl=>simp only[go_sem,hk]
  case' inr=>simp only[go_sem]
  case' inr=>refine Ab qi ?_
  case' inr=>simp only[go_sem,hk]
  case' inr=>refine Ab qi ?_
  case' inr=>simp only[go_sem]
  case' inr=>refine Ad qB rfl ?_
  case' inr=>simp only[go_sem,qh]
  all_goals
   refine Bv (α:=Nat × Nat × V × List Tp × St) (fun a=>a.1) (fun a=>[(0,.ptr m 0 0),(2,.ptr s.length 0 0),(4,.ptr (s.length+1) 0 0)]) (fun a=>a.2.2.2.2) (fun a=>a.2.1<=A.length/\A.length - a.2.1<a.1/\PS s a.2.2.2.2 m z t A a.2.1 v1 a.2.2.1 D a.2.2.2.1/\Jw (La A.length) (A.length+1) (A.drop q)=(Jw (La A.length) a.1 (A.drop a.2.1)).map (fun y=>(a.2.2.2.1++y.1,y.2))/\a.2.2.2.1.length<=a.2.1) ?_ (A.length+1,q,.nils,[],σ) ⟨hq,by simp only;omega,qK,by simp only[Fd];cases Jw (La A.length) (A.length+1) (A.drop q)<;>rfl,by simp⟩;rintro⟨k2,q3,v2,L,σ2⟩ ⟨je,jn,qd,qc,jl⟩ jh;simp only at je jn qd qc jl jh;obtain⟨k2,rfl⟩:∃ j,k2=j+1:=⟨k2 - 1,by omega⟩;refine Bw (by delta lp28_1;exact rfl) ?_;have qH:=Agd qd.rw.2.2.1 hl je Abx;have qG:=Dk qd.g1;have kD:=Dk qd.g2;by_cases ht:Ar Abx (A.drop q3)=true
   .rw[ht]at qH
    have qX:=Dt ht;obtain⟨v,q4,c1,jT,h3⟩:=Ats (n:=La A.length) hA hT qd.rw.2.2.1 qX (by unfold La;omega);have qF:=Aon qd q4
    have jB:Jw (La A.length) (k2+1) (A.drop q3)=match Rn (La A.length) (A.drop q3) with
      | none=>none
      | some (x,r)=>match Jw (La A.length) k2 r with
       | none=>none
       | some (l,r)=>some (x::l,r):=by
     rw[Jw,if_pos ht];rfl
    rw[jB]at qc;unfold PRt at h3;generalize σ2.set m (RO z t A q4)=τ at c1 qF;have qZ:∀ a:Ob,(τ++[a])[τ.length]?=some a:=fun a=>by simp
    have ja:∀ a b:Ob,(τ++[a]).set τ.length b=τ++[b]:=fun a b=>by simp[Ie]
    cases qr:Rn (La A.length) (A.drop q3) with
    | none=>
     rw[qr]at h3 qc;obtain⟨e0,e1,e2,e3,hb,rfl⟩:=h3;have qk:PS s (τ++[.row [e0,e1,e2,e3] 50 0 0]) m z t A q4 v1 v2 D L:=Z8 qF;have hz:=qk.z2;have hp:=qk.p
     have kh:(e0.cellB&&(e1.cellB&&(e2.cellB&&e3.cellB)))=true:=by
      simp only[Av,Be,Af]at hb;simp only[E6 hb.1,E6 hb.2.1,E6 hb.2.2.1,E6 hb.2.2.2.1,Acv]
     simp only[go_sem];refine Ab qH ?_;simp only[go_sem];refine Ab c1 ?_;simp only[go_sem,qZ,ja,kh,hz,hp,qG,kD];refine Aaw qk rfl rfl jT ?_;rw[qc];exact⟨_,_,by simp only[Av,Be,Q0];rfl,rfl⟩
    | some xr=>
     obtain⟨x,r⟩:=xr;rw[qr]at h3 qc;obtain⟨rfl,h3⟩:=h3
     have ku:r.length<A.length - q3:=by
      have:=(Aiq (M:=A.length) (C:=100+8*A.length) (Ah _) (C5 hT (U7 q3 A)) (by rw[Dn];omega) qr).2.2.2.2.1;rw[Dn]at this;exact this
     have kC:r.length=A.length - q4:=by rw[<-h3,Dn]
     have qk:PS s (τ++[.row x.row 50 0 0]) m z t A q4 v1 v2 D L:=Z8 qF;obtain⟨w2,τ2,ha,hc,qJ,jA⟩:=A34 qk x (by omega);obtain⟨qA,qz⟩:=Ada hc;have hp:=qk.p;have jj:=Aky x;have jX:x.row=[.str x.nm,iV x.line,SL x.lz x.lt (x.locals.map fun s=>[V.str s]),SL x.bz x.bt (x.body.map Sp.row)]:=rfl;rw[jX]at c1 ha jj;simp only[jX]at hp;simp only[go_sem];refine Ab qH ?_;simp only[go_sem];refine Ab c1 ?_;simp only[go_sem,qZ,ja,hp,ha,qJ,hc,qA,qz];refine Bd (jh (k2,q4,w2,L++[x],τ2.set (s.length+1) (.row [v1,w2] 28 0 0)) (by simp) ⟨jT,by simp only;omega,jA,?_,by simp;omega⟩) rfl;simp only;rw[qc,h3];simp only
     cases Jw (La A.length) k2 r with
     | none=>rfl
     | some y=>simp
   .have ht:Ar Abx (A.drop q3)=false:=by simpa using ht
    rw[ht]at qH
    have jB:Jw (La A.length) (k2+1) (A.drop q3)=some ([],A.drop q3):=by rw[Jw,if_neg (by rw[ht];decide)]
    rw[jB]at qc;simp only[Fp,Cm]at qc;have hz:=qd.z2;have hp:=qd.p;rw[qc];simp only
    have qN:(v2=.nils/\L=[])\/(L≠[]/\∃ i g,v2=.sl i g 0 L.length 4 true):=by
     rcases qd.g2 with⟨h1,h2⟩ | ⟨h1,i,g,h2,-⟩
     .exact .inl ⟨h1,by simpa using h2⟩
     .exact .inr ⟨fun e=>h1 (by rw[e];rfl),i,g,by rw[h2,Ba]⟩
    rcases qN with⟨rfl,rfl⟩ | ⟨jc,i,g,rfl⟩
    .simp only[go_sem];refine Ab qH ?_;simp only[go_sem];have ky:(σ2.set s.length (.row [v1,.nils] 28 0 0))[s.length+1]?=some (.row [v1,.nils] 28 0 0):=by rw[Bg (by omega)];exact hp
     refine Ag (by kernel_rfl) ?_;simp only[go_sem,hp,hz,qG];refine Az ?_;simp only[go_sem,qG,hz,hp];refine Aaw qd rfl rfl je ?_;show PRg A none _ _;exact⟨_,_,by simp only[Av,Be,Q0];rfl,rfl⟩
    .have jR:((0:Int)<(L.length:Int))=True:=eq_true (by have:=List.length_pos_iff.2 jc;omega);simp only[go_sem];refine Ab qH ?_;simp only[go_sem];have ky:(σ2.set s.length (.row [v1,.sl i g 0 L.length 4 true] 28 0 0))[s.length+1]?=some (.row [v1,.sl i g 0 L.length 4 true] 28 0 0):=by rw[Bg (by omega)];exact hp
     refine Ag (by kernel_rfl) ?_;simp only[go_sem,hp,hz,qG,gt_iff_lt,jR];refine Az ?_;simp only[go_sem,qG,hz,hp,gt_iff_lt,jR];refine Aaw qd rfl rfl je ?_;rw[if_neg (by simpa using jc)];exact⟨rfl,rfl⟩
def Uy(s:List UInt8)(v:V):Prop:=match Lz s with
 | some x=>v=.tup [.agg x.row,.int .i64 0,.int .i64 0]
 | none=>∃ e ln:Int,e≠0/\v=.tup [.agg [.nils,.nils],.int .i64 e,.int .i64 ln]
def A8y(x:Gp):x.row.all V.rowB=true:=by
 unfold Gp.row;simp only[Av,Be,Q0];rfl
def Awd(x:Gp):x.row=[SL x.dz x.dt (x.decls.map Dp.row),SL x.tz x.tt (x.thrs.map Tp.row)]:=rfl
def Aoo{a b:V}(h:[a,b].all V.rowB=true):a.cellB=true/\b.cellB=true:=by
 simp only[Av,Be,U9,Af]at h;exact⟨E6 h.1,E6 h.2⟩
def Sy(s:List UInt8):∃ v,Fn TT PT 14 [.str s] v/\Uy s v:=by
 obtain⟨v1,jD,hR⟩:=Az1 s;refine Agb T14 rfl ?_;unfold Agc at hR;unfold Uy Lz;by_cases qM:4096<s.length
 .rw[if_pos qM]at hR ⊢;obtain⟨e,ln,he,rfl⟩:=hR;have ne:(e != 0)=true:=by simp[he]
  simp only[go_sem];refine Ad jD (by simp only[go_sem]) ?_;simp only[go_sem,ne];exact⟨.tup [.agg [.nils,.nils],iV e,iV ln],⟨_,rfl,I4 (by rfl)⟩,e,ln,he,rfl⟩
 .rw[if_neg qM]at hR ⊢
  cases hL:D3 s.length 1 s with
  | none=>
   rw[hL]at hR;obtain⟨e,ln,he,rfl⟩:=hR;have ne:(e != 0)=true:=by simp[he]
   simp only[go_sem];refine Ad jD (by simp only[go_sem]) ?_;simp only[go_sem,ne];exact⟨.tup [.agg [.nils,.nils],iV e,iV ln],⟨_,rfl,I4 (by rfl)⟩,e,ln,he,rfl⟩
  | some L=>
   rw[hL]at hR;simp only at hR;subst hR;have hA:=Av9 (by omega) hL;have hT:=Te _ _ _ _ hL;have ne:((0:Int) != 0)=false:=by decide
   have hl:L.length<=1000000:=by have:=hA.len;omega
   have h1:=Asd (s:=[.row [.nils,.nils] 28 0 0,RO true 0 L 0]) (m:=1) (z:=true) (t:=0) hA hT rfl;obtain⟨v,q,c4,jd,h3⟩:=h1;have c4:Bt TT PT 28 [.ptr 1 0 0] [.row [.nils,.nils] 28 0 0,.row [SL true 0 (L.map Tk.row),iV 0] 79 0 0] v [.row [.nils,.nils] 28 0 0,.row [SL true 0 (L.map Tk.row),iV (q:Int)] 79 0 0]:=c4;simp only[go_sem];refine Ad jD (by simp only[go_sem]) ?_;simp only[go_sem,ne];unfold PRg at h3;have qu:∀ x:List V,∃ n:Int,Bt TT PT 29 [.ptr 1 0 0] [.row [.nils,.nils] 28 0 0,.row [SL true 0 (L.map Tk.row),iV (q:Int)] 79 0 0,.row x 28 0 0] (iV n) [.row [.nils,.nils] 28 0 0,.row [SL true 0 (L.map Tk.row),iV (q:Int)] 79 0 0,.row x 28 0 0]:=fun x=>A0a (s:=[.row [.nils,.nils] 28 0 0,RO true 0 L q,.row x 28 0 0]) (m:=1) rfl hl jd
   split at h3
   .rename_i x r ho;obtain⟨rfl,h3⟩:=h3;have jj:=A8y x;have hr:=Awd x;rw[hr]at c4 jj;obtain⟨jg,ji⟩:=Aoo jj;rw[ho];refine Ab c4 ?_;simp only[go_sem];by_cases hq:q<L.length
    .have f1:((q:Int)<(L.length:Int))=True:=eq_true (by omega);obtain⟨n,jq⟩:=qu [SL x.dz x.dt (x.decls.map Dp.row),SL x.tz x.tt (x.thrs.map Tp.row)];refine Ag (by kernel_rfl) ?_;simp only[go_sem,My,f1,jg,ji];refine Ab jq ?_;simp only[go_sem]
     have jc:r≠[]:=fun e=>by
      rw[e]at h3;have:=congrArg List.length h3;rw[Dn]at this;simp at this;omega
     refine⟨.tup [.agg [.nils,.nils],iV 3,iV n],⟨_,rfl,I4 (by rfl)⟩,?_⟩
     cases r with
     | nil=>exact absurd rfl jc
     | cons a b=>exact⟨3,n,by decide,rfl⟩
    .have f1:((q:Int)<(L.length:Int))=False:=eq_false (by omega);rw[F4 (by omega)]at h3;subst h3;refine Ag (by kernel_rfl) ?_;simp only[go_sem,My,f1,jg,ji];refine⟨.tup [.agg x.row,iV 0,iV 0],?_,rfl⟩;rw[hr];exact⟨_,rfl,I4 (by simp only[go_sem,Nat.reduceEqDiff,reduceIte])⟩
   .rename_i ho;obtain⟨d0,d1,hd,rfl⟩:=h3;obtain⟨jg,ji⟩:=Aoo hd;rw[ho];obtain⟨n,jq⟩:=qu [d0,d1];refine Ab c4 ?_;simp only[go_sem,jg,ji];refine Ag (by kernel_rfl) ?_;simp only[go_sem,My];refine Ab jq ?_;simp only[go_sem];exact⟨.tup [.agg [.nils,.nils],iV 3,iV n],⟨_,rfl,I4 (by rfl)⟩,3,n,by decide,rfl⟩
attribute [go_sem] Ac2 Ay Int.natCast_nonneg
/-! interleaveref01 -/
def Aeu(f:AF)(args:List V):Option V:=(I9 (Mc TT PT 60) f args []).bind fun p=>Ei p.2 p.1
def Aro:((List.range 256).all fun n=>match Aeu af90 [.int .u8 n] with
  | some v=>v.eqv (.bool (Jy n))
  | none=>false)=true:=by kernel_rfl
def Ase(n:Nat)(h:n<256):Fn TT PT 90 [.int .u8 n] (.bool (Jy n)):=by
 have:=Bi.1 Aro n (E5.2 h)
 split at this
 .rename_i v hv;have e:=Ww this;subst e;exact O4 Px T90 rfl rfl hv
 .cases this
def Asf:((List.range 256).all fun n=>match Aeu af92 [.int .u8 n] with
  | some v=>v.eqv (.bool (Lf n))
  | none=>false)=true:=by kernel_rfl
def Awe(n:Nat)(h:n<256):Fn TT PT 92 [.int .u8 n] (.bool (Lf n)):=by
 have:=Bi.1 Asf n (E5.2 h)
 split at this
 .rename_i v hv;have e:=Ww this;subst e;exact O4 Px T92 rfl rfl hv
 .cases this
def kwRows:List (List V):=kwL.map fun k=>[V.str k]
def Arp:Fn TT PT 115 [] (.lst 1 kwRows):=by
 have:(match Aeu af115 [] with
  | some v=>v.eqv (.lst 1 kwRows)
  | none=>false)=true:=by kernel_rfl
 split at this
 .rename_i v hv;have e:=Ww this;subst e;exact O4 Px T115 rfl rfl hv
 .cases this
def Aop(l:List UInt8):Fn TT PT 91 [.str l] (.bool (Gv l)):=by
 have qa:kwRows.length=22:=rfl
 have qR:∀ i,i<22->kwRows[i]?=some [.str (kwL.getD i [])]:=fun i hi=>by
  have hl:i<kwL.length:=hi;unfold kwRows;rw[Aq,A2 hl,As,A2 hl];rfl
 have hk:=Arp;generalize kwRows=g at qa qR hk;refine Bn T91 rfl ?_;simp only[go_sem];refine Ad hk rfl ?_;simp only[go_sem];refine Bv (fun i=>22 - i) (fun i:Nat=>[(0,.str l),(3,.lst 1 g),(4,iV i)]) (fun _=>[]) (fun i=>i<=22/\∀ j,j<i->(l==kwL.getD j [])=false) ?_ 0 ⟨by omega,fun j hj=>by omega⟩;rintro i ⟨hi,qW⟩ ih;refine Bw (by delta lp91_0;exact rfl) ?_;rcases Br i 22 with h | h
 .have ju:decide ((i:Int)<22)=true:=by simp;omega
  simp only[go_sem,qa,ju,qR i h];refine Apm (fun h3=>?_) (fun h3=>?_)
  .simp only[go_sem];refine Ao rfl ?_;unfold Gv;rw[Mk.2 ⟨kwL.getD i [],?_,?_⟩]
   .have hl:i<kwL.length:=h;rw[As,A2 hl];exact Fc hl
   .rw[<-h3,Bool.beq_comm]
  .simp only[go_sem,Bf (show i<9223372036854775807 by omega)];refine Bd (ih (i+1) (by omega) ⟨by omega,fun j hj=>?_⟩) rfl;by_cases e:j=i
   .rw[e,<-h3,Bool.beq_comm]
   .exact qW j (by omega)
 .have ju:decide ((i:Int)<22)=false:=by simp;omega
  simp only[go_sem,qa,ju];refine Ao rfl ?_
  symm
  congr 1;unfold Gv;rw[<-Yg];intro ha;obtain⟨k,hk,he⟩:=Mk.1 ha;obtain⟨j,hj,rfl⟩:=On hk;have kH:j<22:=hj;have:=qW j (by omega);rw[As,A2 hj]at this;exact absurd he (by simpa using this)
def Ad8{l:List UInt8}(h0:0<l.length):((Jy (l.getD 0 0).toNat=true)/\∀ j,j<l.length->Lf (l.getD j 0).toNat=true)↔∀ j,j<l.length->Mh l j=true:=by
 have kb:∀ n,Lf n=true↔Jy n=true\/(n=95\/Pu n=true):=fun n=>by
  unfold Lf;simp only[Hx,beq_iff_eq];constructor
  .rintro(h | h | h)
   .exact .inl h
   .exact .inr (.inr h)
   .exact .inr (.inl h)
  .rintro(h | h | h)
   .exact .inl h
   .exact .inr (.inr h)
   .exact .inr (.inl h)
 have nm:∀ j,Mh l j=true↔Jy (l.getD j 0).toNat=true\/(0<j/\((l.getD j 0).toNat=95\/Pu (l.getD j 0).toNat=true)):=fun j=>by
  unfold Mh;simp only[Hx,Af,decide_eq_true_eq,beq_iff_eq]
 constructor
 .rintro⟨h1,h2⟩ j hj;rw[nm];have:=(kb _).1 (h2 j hj);by_cases e:j=0
  .subst e;exact .inl h1
  .exact this.imp id fun h=>⟨by omega,h⟩
 .intro h;refine⟨?_,fun j hj=>?_⟩
  .have:=(nm 0).1 (h 0 h0);exact this.elim id fun h=>by omega
  .have:=(nm j).1 (h j hj);exact(kb _).2 (this.imp id fun h=>h.2)
def Qu(l:List UInt8):Fn TT PT 64 [.str l] (.bool (B3 l)):=by
 refine Bn T64 rfl ?_;cases h0:decide ((l.length:Int)<1);rotate_left
 .simp only[go_sem,h0];exact Ao rfl (by rw[Azd (by simp at h0;omega)])
 have jb:0<l.length:=by simp at h0;omega
 cases h1:decide ((12:Int)<(l.length:Int));rotate_left
 .simp only[go_sem,h0,h1];exact Ao rfl (by rw[Aze (by simp at h1;omega)])
 have hg:l[0]?=some (l.getD 0 0):=by rw[As,A2 jb];rfl
 have ql:=Ase (l.getD 0 0).toNat (l.getD 0 0).toNat_lt
 cases h2:Jy (l.getD 0 0).toNat
 .rw[h2]at ql;simp only[go_sem,h0,h1,hg];refine Ad ql rfl ?_;simp only[go_sem];refine Ao rfl ?_;rw[show B3 l=false from ?_];have:=mt (Ad8 jb).2 (by rw[h2];simp);rw[<-Yg];intro hn;unfold B3 at hn;simp only[Af,Bi,E5]at hn;exact this hn.2.2.2
 rw[h2]at ql;cases h3:Gv l;rotate_left
 .have hk:=Aop l;rw[h3]at hk;simp only[go_sem,h0,h1,hg];refine Ad ql rfl ?_;simp only[go_sem];refine Ad hk rfl ?_;simp only[go_sem];exact Ao rfl (by rw[Azf h3])
 have hk:=Aop l;rw[h3]at hk;simp only[go_sem,h0,h1,hg];refine Ad ql rfl ?_;simp only[go_sem];refine Ad hk rfl ?_;simp only[go_sem];refine Bv (fun i=>l.length - i) (fun i:Nat=>[(0,.str l),(3,iV i)]) (fun _=>[]) (fun i=>i<=l.length/\∀ j,j<i->Lf (l.getD j 0).toNat=true) ?_ 0 ⟨by omega,fun j hj=>by omega⟩;rintro i ⟨hi,qW⟩ ih;refine Bw (by delta lp64_0;exact rfl) ?_;have ks:l.length<=12:=by simp at h1;omega
 rcases Br i l.length with h | h
 .have jQ:l[i]?=some (l.getD i 0):=by rw[As,A2 h];rfl
  have qI:=Awe (l.getD i 0).toNat (l.getD i 0).toNat_lt
  cases h4:Lf (l.getD i 0).toNat
  .rw[h4]at qI;simp only[go_sem,Bp h,jQ];refine Ad qI rfl ?_;simp only[go_sem];refine Ao rfl ?_;rw[show B3 l=false from ?_];rw[<-Yg];intro hn;unfold B3 at hn;simp only[Af,Bi,E5]at hn;have:=((Ad8 jb).2 hn.2.2.2).2 i h;rw[h4]at this;cases this
  .rw[h4]at qI;simp only[go_sem,Bp h,jQ];refine Ad qI rfl ?_;simp only[go_sem,Bf (show i<9223372036854775807 by omega)];refine Bd (ih (i+1) (by omega) ⟨by omega,fun j hj=>?_⟩) rfl;by_cases e:j=i
   .rw[e];exact h4
   .exact qW j (by omega)
 .simp only[go_sem,Ce h];refine Ao rfl ?_;rw[Aoa (by omega) ks h3 ((Ad8 jb).1 ⟨h2,fun j hj=>qW j (by omega)⟩)]
/-! shapes -/
def shH(op n:Int)(nm:List UInt8)(k:Nat):Bool:=
 Ux op==(k:Int)&&((op==2||op==3)==!(nm==[])&&((!(op==2||op==3)||B3 nm)&&(decide (0<=n)&&(op==1||n==0))))
mutual
def Gb:Xp->Bool
 | ⟨op,n,nm,_,_,l⟩=>shH op n nm l.length&&Ab0 l
def Ab0:List Xp->Bool
 | []=>true
 | x::l=>Gb x&&Ab0 l
end
def Ala:∀ l:List Xp,Ab0 l=l.all Gb
 | []=>rfl
 | x::l=>by rw[Ab0,Ala l];rfl
def A0f(x:Xp):Gb x=(shH x.op x.n x.nm x.l.length&&x.l.all Gb):=by
 rw[<-Ala];cases x;rfl
def Aax(x:Xp):Bool:=x.op==0&&(x.n==0&&(x.nm==[]&&x.l.isEmpty))
def Ahd(s:Sp):Bool:=
 decide (1<=s.op)&&(decide (s.op<=15)&&((if Fq s.op then s.nm==[] else B3 s.nm)&&((if s.op=15 then B3 s.arg else s.arg==[]) &&
  (decide (s.idx.length<=1)&&((s.op==1||s.idx.isEmpty)&&(s.idx.all Gb&&((if D1 s.op then Gb s.ex else Aax s.ex) &&
   ((Bu s.op||s.body.isEmpty)&&(s.op==2||s.els.isEmpty)))))))))
mutual
def Mi:Sp->Bool
 | ⟨op,line,nm,arg,iz,it,idx,ex,bz,bt,body,ez,et,els⟩=>Ahd ⟨op,line,nm,arg,iz,it,idx,ex,bz,bt,body,ez,et,els⟩&&(Iw body&&Iw els)
def Iw:List Sp->Bool
 | []=>true
 | x::l=>Mi x&&Iw l
end
def Alb:∀ l:List Sp,Iw l=l.all Mi
 | []=>rfl
 | x::l=>by rw[Iw,Alb l];rfl
def A0g(s:Sp):Mi s=(Ahd s&&(Iw s.body&&Iw s.els)):=by
 cases s;rfl
def Rw(d:Dp):Bool:=
 decide (1<=d.kind)&&(decide (d.kind<=6)&&(B3 d.nm&&(decide (0<=d.size)&&((d.kind==1||d.size==0)&&((if d.kind=5 then B3 d.on else d.on==[]) &&
  (decide (-9223372036854775808<d.init)&&(d.init==0||(d.kind==1||d.kind==2))))))))
def Xy(t:Tp):Bool:=t.locals.all B3&&(B3 t.nm&&Iw t.body)
def shG(p:Gp):Bool:=p.decls.all Rw&&(p.thrs.all Xy&&!p.thrs.isEmpty)
/-! what is in range -/
/-! bulk -/
def Z9(z:Bool)(t:Nat)(rows:List (List V)):(SL z t rows).bulk=Cs rows+1:=by
 unfold SL
 split
 .rename_i h;rw[h.2];simp[V.bulk,Cs]
 .simp[V.bulk]
def Fz(x:Xp):Cx x.row=4+x.nm.length+Cs (x.l.map Xp.row):=by
 rw[A0];simp only[Cx,V.bulk,Z9];omega
def Ld(s:Sp):Cx s.row=7+s.nm.length+s.arg.length+Cs (s.idx.map Xp.row)+Cx s.ex.row+Cs (s.body.map Sp.row)+Cs (s.els.map Sp.row):=by
 rw[Ox];simp only[Acr,Cx,V.bulk,Z9];omega
def A7p(d:Dp):Cx d.row=6+d.nm.length+d.on.length:=by
 simp only[Dp.row,Cx,V.bulk];omega
def Xg(t:Tp):Cx t.row=4+t.nm.length+Cs (t.locals.map fun s=>[V.str s])+Cs (t.body.map Sp.row):=by
 simp only[Tp.row,Cx,V.bulk,Z9];omega
def Agg(p:Gp):Cx p.row=2+Cs (p.decls.map Dp.row)+Cs (p.thrs.map Tp.row):=by
 simp only[Gp.row,Cx,Z9];omega
def H1{α:Type}{f:α->List V}:∀ {l:List α} {x:α},x∈l->Cx (f x)<=Cs (l.map f)
 | y::l,x,h=>by
  rw[Bb,Cs];rcases Bj.1 h with rfl | h
  .omega
  .have:=H1 (f:=f) h;omega
def I2{α:Type}{f:α->List V}(hf:∀ x,1<=Cx (f x)):∀ l:List α,l.length<=Cs (l.map f)
 | []=>by simp
 | x::l=>by
  rw[Bb,Cs,Ak];have:=I2 hf l;have:=hf x;omega
def E8{a b:AC}{k:List It}{e:Env}{σ:St}{Q:Env->St->Prop}(P:Env->St->Prop)(h1:∀ k',(∀ e σ,P e σ->W TT PT k' e σ Q)->W TT PT (.c a::k') e σ Q)(h2:∀ e σ,P e σ->W TT PT (.c b::k) e σ Q):W TT PT (.c (.seq a b)::k) e σ Q:=by
 rw[Af3];exact h1 _ h2
def Arq(op:Int):Fn TT PT 139 [iV op] (iV (Ux op)):=by
 refine Bn T139 rfl ?_;unfold Ux;by_cases h1:op=1
 .subst h1;simp only[go_sem,Int.reduceBEq];exact Ao rfl rfl
 have e1:(op==1)=false:=by simp[h1]
 by_cases h2:op=2
 .subst h2;simp only[go_sem,e1,Int.reduceBEq];exact Ao rfl rfl
 have e2:(op==2)=false:=by simp[h2]
 rw[if_neg (by omega)];by_cases h3:3<=op/\op<=5
 .have g3:((3:Int)<=op)=True:=eq_true h3.1;have g5:(op<=5)=True:=eq_true h3.2;rw[if_pos h3];simp only[go_sem,e1,e2,g3,g5,ge_iff_le];exact Ao rfl rfl
 rw[if_neg h3];by_cases h6:6<=op/\op<=18
 .have g3:((3:Int)<=op)=True:=eq_true (by omega);have g5:(op<=5)=False:=eq_false (by omega);have g6:((6:Int)<=op)=True:=eq_true h6.1;have g7:(op<=18)=True:=eq_true h6.2;rw[if_pos h6];simp only[go_sem,e1,e2,g3,g5,g6,g7,ge_iff_le];exact Ao rfl rfl
 rw[if_neg h6];by_cases hl:3<=op
 .have g3:((3:Int)<=op)=True:=eq_true (by omega);have g5:(op<=5)=False:=eq_false (by omega);have g6:((6:Int)<=op)=True:=eq_true (by omega);have g7:(op<=18)=False:=eq_false (by omega);simp only[go_sem,e1,e2,g3,g5,g6,g7,ge_iff_le];exact Ao rfl rfl
 .have g3:((3:Int)<=op)=False:=eq_false (by omega);have g6:((6:Int)<=op)=False:=eq_false (by omega);simp only[go_sem,e1,e2,g3,g6,ge_iff_le];exact Ao rfl rfl
def Awf(x:Xp)(hl:x.l.length<=1000000000):Fn TT PT 118 [.agg x.row] (.bool (Aax x)):=by
 refine Bn T118 rfl ?_;rw[A0];unfold Aax;have qa:(x.l.map Xp.row).length=x.l.length:=Ba ..;cases h1:(x.op==0)
 .simp only[go_sem,h1];exact Ao rfl rfl
 cases h2:(x.n==0)
 .simp only[go_sem,h1,h2];exact Ao rfl rfl
 cases h3:(x.nm==[])
 .simp only[go_sem,h1,h2,h3];exact Ao rfl rfl
 have e:((x.l.length:Int)==0)=x.l.isEmpty:=by
  cases x.l with
  | nil=>rfl
  | cons a b=>simp;omega
 simp only[go_sem,h1,h2,h3,qa,e];exact Ao rfl rfl
set_option maxHeartbeats 1000000 in
def Awg(x:Xp)(hl:x.l.length<=1000000000)(ih:∀ y∈x.l,Fn TT PT 117 [.agg y.row] (.bool (Gb y))):Fn TT PT 117 [.agg x.row] (.bool (Gb x)):=by
 obtain⟨op,n,nm,z,t,l⟩:=x;have hr:=A0 ⟨op,n,nm,z,t,l⟩;have hR:=A0f ⟨op,n,nm,z,t,l⟩;generalize Gb ⟨op,n,nm,z,t,l⟩=R at hR ⊢;simp only at hr hl ih hR;rw[hr];clear hr;unfold shH at hR;have qa:(l.map Xp.row).length=l.length:=Ba ..;refine Bn T117 rfl ?_;refine E8 (fun e σ=>e=[(1,.ptr 0 0 0)]/\σ=[.row [iV op,iV n,.str nm,SL z t (l.map Xp.row)] 66 0 0]) (fun k' hk=>?_) ?_
 .simp only[go_sem];exact hk _ _ ⟨rfl,rfl⟩
 rintro e σ ⟨rfl,rfl⟩;refine E8 (fun e σ=>e=[(1,.ptr 0 0 0),(3,.bool (op==2||op==3))]/\σ=[.row [iV op,iV n,.str nm,SL z t (l.map Xp.row)] 66 0 0]) (fun k' hk=>?_) ?_
 .cases h2:(op==2)
  .simp only[go_sem,h2];exact hk _ _ ⟨by rw[h2];rfl,rfl⟩
  .simp only[go_sem,h2];exact hk _ _ ⟨by rw[h2];rfl,rfl⟩
 rintro e σ ⟨rfl,rfl⟩;generalize(op==2||op==3)=nb at hR ⊢;have ho:=Arq op;have qD:=Qu nm;refine E8 (fun e σ=>(e=[(1,.ptr 0 0 0)]/\σ=[.row [iV op,iV n,.str nm,SL z t (l.map Xp.row)] 66 0 0])/\R=l.all Gb) (fun k' hk=>?_) ?_
 .cases h1:(Ux op != (l.length:Int));rotate_left
  .have b1:(Ux op==(l.length:Int))=false:=by simpa using h1
   rw[b1]at hR;subst hR;simp only[go_sem];refine Ag (by kernel_rfl) ?_;simp only[go_sem];refine A1 ho rfl ?_;simp only[go_sem,qa,h1];exact Ao rfl rfl
  have b1:(Ux op==(l.length:Int))=true:=by simpa using h1
  rw[b1]at hR
  have lt:∀ {a:Int},decide (0<=a)=!decide (a<0):=fun {a}=>by
   by_cases h:0<=a
   .rw[decide_eq_true h,decide_eq_false (by omega)];rfl
   .rw[decide_eq_false h,decide_eq_true (by omega)];rfl
  cases nb<;>cases h2:(nm==[])
  .rw[h2]at hR;subst hR;simp only[go_sem];refine Ag (by kernel_rfl) ?_;simp only[go_sem];refine A1 ho rfl ?_;simp only[go_sem,qa,h1,h2,Aw,Au,beq_self_eq_true,Ih,Ii];exact Ao rfl rfl
  .rw[h2]at hR;cases h4:decide (n<0);rotate_left
   .rw[lt,h4]at hR;simp only[Au,R8,Acs]at hR;subst hR;simp only[go_sem];refine Ag (by kernel_rfl) ?_;simp only[go_sem];refine A1 ho rfl ?_;simp only[go_sem,qa,h1,h2,Aw,Au,beq_self_eq_true,Ih,Ii,h4];exact Ao rfl rfl
   rw[lt,h4]at hR;cases h5:(op==1);rotate_left
   .rw[h5]at hR;have qo:(op != 1)=false:=by simp[bne,h5]
    simp only[go_sem];refine Ag (by kernel_rfl) ?_;simp only[go_sem];refine A1 ho rfl ?_;simp only[go_sem,qa,h1,h2,Aw,Au,beq_self_eq_true,Ih,Ii,h4,qo];exact hk _ _ ⟨⟨rfl,rfl⟩,by rw[hR];rfl⟩
   rw[h5]at hR;have qo:(op != 1)=true:=by simp[bne,h5]
   cases h6:(n==0)
   .rw[h6]at hR;have qy:(n != 0)=true:=by simp[bne,h6]
    simp only[Aw,Au,Acs,Bool.or_false,R8]at hR;subst hR;simp only[go_sem];refine Ag (by kernel_rfl) ?_;simp only[go_sem];refine A1 ho rfl ?_;simp only[go_sem,qa,h1,h2,Aw,Au,beq_self_eq_true,Ih,Ii,h4,qo,qy];exact Ao rfl rfl
   rw[h6]at hR;have qy:(n != 0)=false:=by simp[bne,h6]
   simp only[go_sem];refine Ag (by kernel_rfl) ?_;simp only[go_sem];refine A1 ho rfl ?_;simp only[go_sem,qa,h1,h2,Aw,Au,beq_self_eq_true,Ih,Ii,h4,qo,qy];exact hk _ _ ⟨⟨rfl,rfl⟩,by rw[hR];rfl⟩
  .rw[h2]at hR;cases h3:B3 nm
   .rw[h3]at hR qD;subst hR;simp only[go_sem];refine Ag (by kernel_rfl) ?_;simp only[go_sem];refine A1 ho rfl ?_;simp only[go_sem,qa,h1,h2,Aw,Au,beq_self_eq_true,Ih,Ii];refine A1 qD rfl ?_;simp only[go_sem,qa,h1,h2,Aw,Au,beq_self_eq_true,Ih,Ii];exact Ao rfl rfl
   rw[h3]at hR qD;cases h4:decide (n<0);rotate_left
   .rw[lt,h4]at hR;simp only[Au,R8,Acs]at hR;subst hR;simp only[go_sem];refine Ag (by kernel_rfl) ?_;simp only[go_sem];refine A1 ho rfl ?_;simp only[go_sem,qa,h1,h2,Aw,Au,beq_self_eq_true,Ih,Ii];refine A1 qD rfl ?_;simp only[go_sem,qa,h1,h2,Aw,Au,beq_self_eq_true,Ih,Ii,h4];exact Ao rfl rfl
   rw[lt,h4]at hR;cases h5:(op==1);rotate_left
   .rw[h5]at hR;have qo:(op != 1)=false:=by simp[bne,h5]
    simp only[go_sem];refine Ag (by kernel_rfl) ?_;simp only[go_sem];refine A1 ho rfl ?_;simp only[go_sem,qa,h1,h2,Aw,Au,beq_self_eq_true,Ih,Ii];refine A1 qD rfl ?_;simp only[go_sem,qa,h1,h2,Aw,Au,beq_self_eq_true,Ih,Ii,h4,qo];exact hk _ _ ⟨⟨rfl,rfl⟩,by rw[hR];rfl⟩
   rw[h5]at hR;have qo:(op != 1)=true:=by simp[bne,h5]
   cases h6:(n==0)
   .rw[h6]at hR;have qy:(n != 0)=true:=by simp[bne,h6]
    simp only[Aw,Au,Acs,Bool.or_false,R8]at hR;subst hR;simp only[go_sem];refine Ag (by kernel_rfl) ?_;simp only[go_sem];refine A1 ho rfl ?_;simp only[go_sem,qa,h1,h2,Aw,Au,beq_self_eq_true,Ih,Ii];refine A1 qD rfl ?_;simp only[go_sem,qa,h1,h2,Aw,Au,beq_self_eq_true,Ih,Ii,h4,qo,qy];exact Ao rfl rfl
   rw[h6]at hR;have qy:(n != 0)=false:=by simp[bne,h6]
   simp only[go_sem];refine Ag (by kernel_rfl) ?_;simp only[go_sem];refine A1 ho rfl ?_;simp only[go_sem,qa,h1,h2,Aw,Au,beq_self_eq_true,Ih,Ii];refine A1 qD rfl ?_;simp only[go_sem,qa,h1,h2,Aw,Au,beq_self_eq_true,Ih,Ii,h4,qo,qy];exact hk _ _ ⟨⟨rfl,rfl⟩,by rw[hR];rfl⟩
  .rw[h2]at hR;subst hR;simp only[go_sem];refine Ag (by kernel_rfl) ?_;simp only[go_sem];refine A1 ho rfl ?_;simp only[go_sem,qa,h1,h2,Aw,Au,beq_self_eq_true,Ih,Ii];exact Ao rfl rfl
 rintro e σ ⟨⟨rfl,rfl⟩,hR⟩;simp only[go_sem];refine Bv (α:=Nat) (fun i=>l.length - i) (fun i=>[(1,.ptr 0 0 0),(4,iV (i:Int))]) (fun _=>[.row [iV op,iV n,.str nm,SL z t (l.map Xp.row)] 66 0 0]) (fun i=>i<=l.length/\l.all Gb=(l.drop i).all Gb) ?_ 0 ⟨Ay _,rfl⟩;rintro i ⟨hi,qb⟩ jh;refine Bw (by delta lp117_0;exact rfl) ?_;by_cases hc:i<l.length
 .have f1:((i:Int)<(l.length:Int))=True:=eq_true (by omega);have qI:=Bf (show i<9223372036854775807 by omega);obtain⟨a,ha⟩:∃ a,l[i]?=some a:=⟨_,A2 hc⟩;have jM:=A0 a;have kg:=Df a;have hf:=ih a (Hu ha);have jL:(l.map Xp.row)[i]?=some [iV a.op,iV a.n,.str a.nm,SL a.z a.t (a.l.map Xp.row)]:=by rw[Aq,ha,Fp,jM]
  have kk:l.drop i=a::l.drop (i+1):=by rw[Fv hc,(Ap.1 ha).2]
  rw[kk,Av]at qb;rw[jM]at hf kg;cases hab:Gb a
  .rw[hab]at hf qb;rw[qb]at hR;subst hR;simp only[go_sem,qa,f1,jL];refine Ad hf (by simp only[go_sem]) ?_;simp only[go_sem];exact Ao rfl rfl
  .rw[hab]at hf qb;simp only[go_sem,qa,f1,jL];refine Ad hf (by simp only[go_sem]) ?_;simp only[go_sem,qI];exact Bd (jh (i+1) (by omega) ⟨hc,by simpa using qb⟩) rfl
 .have f1:((i:Int)<(l.length:Int))=False:=eq_false (by omega);rw[qb,F4 (by omega)]at hR;subst hR;simp only[go_sem,qa,f1];exact Ao rfl rfl
def Aay:∀ (N:Nat) (x:Xp),Cx x.row<=N->N<=1000000000->Fn TT PT 117 [.agg x.row] (.bool (Gb x))
 | 0,x,h,_=>by rw[Fz]at h;omega
 | N+1,x,h,hN=>by
  have h1:=Fz x;have h2:=I2 (f:=Xp.row) (fun x=>by rw[Fz];omega) x.l;refine Awg x (by omega) fun y hy=>Aay N y ?_ (by omega)
  have:=H1 (f:=Xp.row) hy;omega
