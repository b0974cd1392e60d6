/- Walks: the parser's threads. -/
import Derived.Test.YthlbbjcbmojocabGreatDoorLs
set_option linter.all false
namespace Go.Proofs.YthlbbjcbmojocabGreatDoor.KM
open Go
def Aee:∀ (js:List Nat) (σ:St) (n:Nat),(∀ i∈js,n<=i)->∀ j,j<n->(σ.freeze js)[j]?=σ[j]?
 | [],_,_,_,_,_=>rfl
 | i::js,σ,n,h,j,hj=>by
  have hi:=h i Cx;simp only[St.freeze]
  split
  .rw[Aee js _ n (fun k hk=>h k (Cs _ hk)) j hj,Bj (by omega)]
  .exact Aee js _ n (fun k hk=>h k (Cs _ hk)) j hj
def Aqx{z:Bool}{t:Nat}{A:List Tk}{f m q0:Nat}{res:List AR}{thr:Bool}{body:AC}{s:St}{R:V->Nat->Prop}(hT:TT f=some ⟨1,res,thr,body,none⟩)(hs:s[m]?=some (RO z t A q0))
  (h:∀ S,RdS s m z t A S->W TT PT [.c body] (Da 0 [.ptr m 0 0]) (S q0) (Hd fun e' σ1=>∃ vs qs q,Ch e' σ1 res=some (.tup vs)/\vs.all Iq=true/\OVs σ1 vs qs/\(∀ j∈Am vs,s.length<=j)/\Am qs=[]/\RW s σ1 m z t A q/\q<=A.length/\R (.tup qs) q)):RT f [] s m z t A R:=by
 have h:=h _ (Apj z t A (Aq.1 hs).1);rw[Lv hs]at h;obtain⟨e',σ1,hE,vs,qs,q,hr,kw,kx,jt,kB,hw,hq,hR⟩:=h;have kn:=Aee (Am vs) σ1 s.length jt;have jf:RW s (σ1.freeze (Am vs)) m z t A q:=Qh hw (by rw[Om];exact hw.1) kn;refine⟨_,q,?_,hq,hR⟩;rw[<-Apk jf];refine Ak4 hT rfl rfl ⟨e',σ1,hE,.tup vs,Am vs,hr,kw,?_,?_,Apl jf,rfl⟩
 .exact congrArg (Option.map V.tup) (Xn kx fun j hj=>hj)
 .show Ey s.length [] (Am qs)=true;rw[kB];rfl
def Asr{s:St}{m:Nat}{z:Bool}{t:Nat}{A:List Tk}{S:Nat->St}(hS:RdS s m z t A S){p0:Nat}(hs:s[m]?=some (RO z t A p0))(q:Nat)(l:St):RW s (S q++l) m z t A q:=by
 rw[hS.eq];exact Abl (O3 (Aga hs) q)
def Ow{s σ:St}{m:Nat}{z:Bool}{t:Nat}{A:List Tk}{q j:Nat}{x:Ob}(h:RW s σ m z t A q)(hj:s.length<=j):RW s (σ.set j x) m z t A q:=by
 have:=h.2.2.2;exact Qh h (by rw[Hy];exact h.1) fun i hi=>Bj (by omega)
def PRt(A:List Tk)(o:Option (Tp × List Tk))(v:V)(p':Nat):Prop:=match o with
 | some (x,r)=>v=.tup [.agg x.row,.bool true]/\A.drop p'=r
 | none=>∃ d0 d1 d2 d3:V,[d0,d1,d2,d3].all V.rowB=true/\v=.tup [.agg [d0,d1,d2,d3],.bool false]
def Aew(L:List (List UInt8)):(SL true 0 (L.map Lc)).rowB=true:=by
 unfold SL
 split<;>rfl
def Apm(z:Bool)(t:Nat)(xs:List (List V)):(SL z t xs).refs=[]:=by unfold SL;split<;>rfl
def Xu{σ:St}{e lo:Nat}{u:V}{L:List (List UInt8)}{nm:List UInt8}{ln:Int}{w:V}{b:Bool}(hg:GW σ 1 e lo u (L.map Lc))(hw:w.rowB=true):OVs σ [.agg [.str nm,iV ln,u,w],.bool b] [.agg [.str nm,iV ln,SL true 0 (L.map Lc),w],.bool b]:=
 .cons (X3 (.cons (H3 rfl) (.cons (H3 rfl) (.cons (O6 hg (by omega) (by intro r hr;obtain⟨x,-,rfl⟩:=De.1 hr;rfl) (by intro r hr;obtain⟨x,-,rfl⟩:=De.1 hr;rfl)) (.cons (H3 hw) .nil))))) (.cons (Ju rfl) .nil)
def X8{σ:St}{e lo:Nat}{u:V}{xs:List (List V)}{nm:List UInt8}{ln:Int}{w:V}{b:Bool}(hg:GW σ 1 e lo u xs)(hw:w.rowB=true):∀ j∈Am [.agg [.str nm,iV ln,u,w],.bool b],lo<=j:=by
 have kG:=Wu hw;intro j hj;simp only[Am,V.refs,kG,Cy,Bf]at hj;rcases hg with⟨rfl,-⟩ | ⟨-,i,g,rfl,-,jt⟩
 .cases hj
 .simp only[V.refs,E0]at hj;omega
def X9{σ:St}{e lo:Nat}{u:V}{xs:List (List V)}{nm:List UInt8}{ln:Int}{w:V}{b:Bool}(hg:GW σ 1 e lo u xs)(hw:w.rowB=true):[V.agg [.str nm,iV ln,u,w],.bool b].all Iq=true:=by
 have h1:=Dq hg;have h2:=Fd hw;show([V.str nm,iV ln,u,w].all V.cellB&&(Iq (.bool b)&&true))=true;rw[show([V.str nm,iV ln,u,w].all V.cellB)=true from by simp only[As,Bd,h1,h2];rfl];rfl
def Ya{L:List (List UInt8)}{nm:List UInt8}{ln:Int}{w:V}{b:Bool}(hw:w.rowB=true):Am [.agg [.str nm,iV ln,SL true 0 (L.map Lc),w],.bool b]=[]:=by
 simp only[Am,V.refs,Apm,Wu hw,Cy]
set_option maxHeartbeats 4000000 in
def Av5{n:Nat}{s:St}{m:Nat}{z:Bool}{t:Nat}{A:List Tk}{p:Nat}(hA:OkA A)(hT:Dv A)(hs:s[m]?=some (RO z t A p))(hp:p<A.length)(hf:10*(A.length - p)+2<=n):RT 38 [] s m z t A (PRt A (Pi n (A.drop p))):=by
 have hl:A.length<=1000000:=by have:=hA.len;omega
 have hm:=(Aq.1 hs).1;refine Aqx T38 hs fun S hS=>?_
 have qp:=hS;have qg:=Asr qp hs;have qi:=Qn (qp.get p [.row [.str [],iV 0,.nils,.nils] 51 0 0]) hl (Wj hp);have qq:=Bk (show p<9223372036854775807 by omega);have jx:p+1<=A.length:=hp;rw[K9 hp,Pi];generalize kK:Aa A p=tk at qi
 cases hn:C4 (A.drop (p+1)) with
 | none=>
  have c1:=Yw qp (p:=p+1) [.row [.str [],iV 0,.nils,.nils] 51 0 0,.row [.str [],iV tk.line,.nils,.nils] 51 0 0] hl jx hn;have Zq:=Di hS;obtain⟨-,-,qa,get,get0,set,set0,n0,n1,n2,u0,u1,u2⟩:=hS;simp only[go_sem,Zq,LZ];refine Ab qi ?_;simp only[go_sem,Zq,LZ,qq];refine Ab c1 ?_;simp only[go_sem,Zq,LZ];exact⟨_,_,_,Cc (n0 _ _ _) rfl rfl rfl,rfl,.cons (Ju rfl) (.cons (Ju rfl) .nil),(fun j hj=>by cases hj),rfl,qg _ _,jx,_,_,_,_,rfl,rfl⟩
 | some nt=>
  obtain⟨nm,ts⟩:=nt;obtain⟨c1,jv,h3⟩:=Ac9 qp (p:=p+1) [.row [.str [],iV 0,.nils,.nils] 51 0 0,.row [.str [],iV tk.line,.nils,.nils] 51 0 0] hl jx hn;simp only;rw[<-h3];unfold Dn;have qJ:p+1+1<=A.length:=jv;by_cases qw:Ao [40] (A.drop (p+1+1))=true
  case neg=>
   have qw:Ao [40] (A.drop (p+1+1))=false:=by simpa using qw
   rw[if_neg (by rw[qw];decide)];have c2:=Iv qp (p:=p+1+1) [.row [.str [],iV 0,.nils,.nils] 51 0 0,.row [.str nm,iV tk.line,.nils,.nils] 51 0 0] hl qJ qw;have Zq:=Di hS;obtain⟨-,-,qa,get,get0,set,set0,n0,n1,n2,u0,u1,u2⟩:=hS;simp only[go_sem,Zq,LZ];refine Ab qi ?_;simp only[go_sem,Zq,LZ,qq];refine Ab c1 ?_;simp only[go_sem,Zq,LZ];refine Ab c2 ?_;simp only[go_sem,Zq,LZ];exact⟨_,_,_,Cc (n0 _ _ _) rfl rfl rfl,rfl,.cons (Ju rfl) (.cons (Ju rfl) .nil),(fun j hj=>by cases hj),rfl,qg _ _,qJ,_,_,_,_,rfl,rfl⟩
  rw[if_pos qw];simp only;rw[<-D9];have c2:=Jv qp (p:=p+1+1) [.row [.str [],iV 0,.nils,.nils] 51 0 0,.row [.str nm,iV tk.line,.nils,.nils] 51 0 0] hl qw;have jS:p+1+1+1<=A.length:=D5 qw;unfold Yk;by_cases qx:Ao [41] (A.drop (p+1+1+1))=true
  .rw[if_pos qx];simp only;rw[<-D9];have c3:=Jv qp (p:=p+1+1+1) [.row [.str [],iV 0,.nils,.nils] 51 0 0,.row [.str nm,iV tk.line,.nils,.nils] 51 0 0] hl qx;have ky:p+1+1+1+1<=A.length:=D5 qx;obtain⟨v,q,c4,hq,h4⟩:=Nt qp (p:=p+1+1+1+1) (l:=[.row [.str [],iV 0,.nils,.nils] 51 0 0,.row [.str nm,iV tk.line,.nils,.nils] 51 0 0]) fun hs=>(Anb n).2 _ m z t A _ hA hT hs ky (by omega)
   have Zq:=Di hS;obtain⟨-,-,qa,get,get0,set,set0,n0,n1,n2,u0,u1,u2⟩:=hS;simp only[go_sem,Zq,LZ];refine Ab qi ?_;simp only[go_sem,Zq,LZ,qq];refine Ab c1 ?_;simp only[go_sem,Zq,LZ];refine Ab c2 ?_;simp only[go_sem,Zq,LZ];refine Ab c3 ?_;simp only[go_sem,Zq,LZ];unfold Y5 at h4
   cases hb:Eu n (A.drop (p+1+1+1+1)) with
   | none=>
    rw[hb]at h4;subst h4;refine Ab c4 ?_;simp only[go_sem,Zq,LZ];exact⟨_,_,_,Cc (n0 _ _ _) rfl rfl rfl,rfl,.cons (Ju rfl) (.cons (Ju rfl) .nil),(fun j hj=>by cases hj),rfl,qg _ _,hq,_,_,_,_,rfl,rfl⟩
   | some bt=>
    obtain⟨b,kH⟩:=bt;rw[hb]at h4;obtain⟨rfl,h4⟩:=h4;have qm:=B8 b;refine Ab c4 ?_;simp only[go_sem,Zq,LZ];exact⟨_,[.agg [.str nm,iV tk.line,.nils,SL true 0 (b.map Sp.row)],.bool true],_,Cc (n0 _ _ _) rfl rfl rfl,X9 (σ:=[]) (e:=0) (lo:=0) Gk qm,Xu (L:=[]) (e:=0) (lo:=0) Gk qm,X8 (σ:=[]) (e:=0) (lo:=s.length) (xs:=[]) Gk qm,Ya (L:=[]) qm,qg _ _,hq,rfl,h4⟩
  .have qx:Ao [41] (A.drop (p+1+1+1))=false:=by simpa using qx
   rw[if_neg (by rw[qx];decide)];have c3:=Iv qp (p:=p+1+1+1) [.row [.str [],iV 0,.nils,.nils] 51 0 0,.row [.str nm,iV tk.line,.nils,.nils] 51 0 0] hl jS qx;have Zq:=Di hS;obtain⟨-,-,qa,get,get0,set,set0,n0,n1,n2,u0,u1,u2⟩:=hS;simp only[go_sem,Zq,LZ];refine Ab qi ?_;simp only[go_sem,Zq,LZ,qq];refine Ab c1 ?_;simp only[go_sem,Zq,LZ];refine Ab c2 ?_;simp only[go_sem,Zq,LZ];refine Ab c3 ?_;simp only[go_sem,Zq,LZ];refine B3 (α:=Nat × Nat × V × List (List UInt8) × St) (fun a=>a.1) (fun a=>[(0,.ptr m 0 0),(2,.ptr s.length 0 0),(4,.ptr (s.length+1) 0 0)]) (fun a=>a.2.2.2.2) (fun a=>a.1<=n/\a.2.1<=A.length/\A.length - a.2.1<a.1/\RW s a.2.2.2.2 m z t A a.2.1/\a.2.2.2.2[s.length]?=some (.row [.str [],iV 0,.nils,.nils] 51 0 0)/\a.2.2.2.2[s.length+1]?=some (.row [.str nm,iV tk.line,a.2.2.1,.nils] 51 0 0)/\GW a.2.2.2.2 1 9 (s.length+2) a.2.2.1 (a.2.2.2.1.map Lc)/\Iz n (A.drop (p+1+1+1))=(Iz a.1 (A.drop a.2.1)).map (fun y=>(a.2.2.2.1++y.1,y.2))/\a.2.2.2.1.length<=a.2.1/\s.length+2<=a.2.2.2.2.length/\p+1<=a.2.1) ?_ (n,p+1+1+1,.nils,[],S (p+1+1+1)++[.row [.str [],iV 0,.nils,.nils] 51 0 0,.row [.str nm,iV tk.line,.nils,.nils] 51 0 0]) ⟨Ai _,jS,by simp only;omega,qg _ _,n0 _ _ _,n1 _ _ _ _,Gk,by simp only[Bf];cases Iz n (A.drop (p+1+1+1))<;>rfl,by simp,by simp[qa],by simp only;omega⟩;rintro⟨k,q,u,L,σ⟩ ⟨kq,hq,jm,hw,jK,jG,hg,qb,kf,qt,qr⟩ ih;simp only at kq hq jm hw jK jG hg qb kf qt qr ih;obtain⟨k,rfl⟩:∃ j,k=j+1:=⟨k - 1,by omega⟩;have kC:∀ r∈L.map Lc,r.length=1:=by intro r hr;obtain⟨x,-,rfl⟩:=De.1 hr;rfl
   have kj:=Dq hg;have jk:∀ (τ:St) (ob:Ob),s.length+2<=τ.length->(τ.set (s.length+1) ob)[s.length+1]?=some ob:=fun τ ob h=>Ci (by omega)
   have qL:∀ (τ:St) (ob:Ob),s.length+2<=τ.length->(τ.set s.length ob)[s.length]?=some ob:=fun τ ob h=>Ci (by omega)
   refine B4 (by delta lp38_0;exact rfl) ?_
   cases hnq:C4 (A.drop q) with
   | none=>
    have d1:=(Vl hw.2.2.1 hl hq).2 hnq;have ho:Iz (k+1) (A.drop q)=none:=by rw[Iz,hnq]
    rw[ho]at qb;rw[qb];simp only[go_sem];refine Ab d1 ?_;simp only[go_sem,jG,jK,kj];exact⟨_,[.agg [.str nm,iV tk.line,SL true 0 ((L).map Lc),.nils],.bool false],q,Cc (qL _ _ (qt)) rfl rfl rfl,X9 hg rfl,Xu (F6 hg (by omega)) rfl,(fun j hj=>by have:=X8 hg rfl j hj;omega),Ya rfl,Ow hw (Ai _),hq,_,_,_,_,by simp only[As,Bd,Aew];rfl,rfl⟩
   | some wr=>
    obtain⟨w,r⟩:=wr;obtain⟨d1,jw,jV⟩:=(Vl hw.2.2.1 hl hq).1 w r hnq
    have ho:Iz (k+1) (A.drop q)=if Ao [44] r then(match Iz k r.tail with
      | none=>none
      | some (l,r)=>some (w::l,r)) else(Dn [41] r).map fun ts=>([w],ts):=by
     rw[Iz,hnq];rfl
    rw[ho]at qb;have jW:=O3 hw (q+1);have jO:GW (σ.set m (RO z t A (q+1))) 1 9 (s.length+2) u (L.map Lc):=F6 hg (by omega);have kr:(σ.set m (RO z t A (q+1))).length=σ.length:=Hy;have jY:(σ.set m (RO z t A (q+1)))[s.length]?=some (.row [.str [],iV 0,.nils,.nils] 51 0 0):=by rw[Bj (by omega)];exact jK
    have qY:(σ.set m (RO z t A (q+1)))[s.length+1]?=some (.row [.str nm,iV tk.line,u,.nils] 51 0 0):=by rw[Bj (by omega)];exact jG
    generalize σ.set m (RO z t A (q+1))=τ1 at d1 jW jO kr jY qY;obtain⟨u',τ2,ha,jP,kJ,-,qh⟩:=Sa (bytes:=16) (y:=.lst 1 [[.str w]]) (ys:=[[.str w]]) jO (by omega) rfl (by omega) kC (by simp) (by simp;omega);have jf:RW s τ2 m z t A (q+1):=Qh jW (by omega) fun j hj=>qh j (by omega)
    have qf:=Dq jP;obtain⟨qA,qz⟩:=Aeb qf;obtain⟨τ3,e3⟩:∃ τ:St,τ=τ2.set (s.length+1) (.row [.str nm,iV tk.line,u',.nils] 51 0 0):=⟨_,rfl⟩;have qv:RW s τ3 m z t A (q+1):=by rw[e3];exact Qh jf (by rw[Hy];omega) fun j hj=>Bj (by omega)
    have qQ:GW τ3 1 9 (s.length+2) u' ((L++[w]).map Lc):=by rw[e3,Ei];exact F6 jP (by omega)
    have jp:s.length+2<=τ3.length:=by rw[e3,Hy];omega
    have jJ:τ3[s.length]?=some (.row [.str [],iV 0,.nils,.nils] 51 0 0):=by rw[e3,Bj (by omega),qh _ (by omega)];exact jY
    have jF:τ3[s.length+1]?=some (.row [.str nm,iV tk.line,u',.nils] 51 0 0):=by rw[e3];exact jk _ _ (by omega)
    have jE:τ2[s.length+1]?=some (.row [.str nm,iV tk.line,u,.nils] 51 0 0):=by rw[qh _ (by omega)];exact qY
    have jC:q+1<=A.length:=jw;by_cases qn:Ao [44] r=true
    .rw[if_pos qn]at qb;rw[<-jV]at qn qb;have d2:=Q0 qv.2.2.1 hl qn;have qV:=D5 qn;rw[e3]at d2;simp only[go_sem];refine Ab d1 ?_;simp only[go_sem,qY,ha,jE,qf,qA,qz];refine Ab d2 ?_;rw[<-e3];simp only[go_sem];refine Bg (ih (k,q+1+1,u',L++[w],τ3.set m (RO z t A (q+1+1))) (by simp) ⟨by simp only;omega,qV,by simp only;omega,O3 qv _,by simp only;rw[Bj (by omega)];exact jJ,by simp only;rw[Bj (by omega)];exact jF,F6 qQ (by omega),?_,by simp;omega,by simp only[Hy];exact jp,by simp only;omega⟩) rfl;simp only;rw[qb,<-D9]
     cases Iz k (A.drop (q+1+1)) with
     | none=>rfl
     | some y=>simp
    .have qn:Ao [44] r=false:=by simpa using qn
     rw[if_neg (by rw[qn];decide)]at qb;rw[<-jV]at qn qb;have d2:=Q1 qv.2.2.1 hl jC qn;rw[e3]at d2;unfold Dn at qb;by_cases qe:Ao [41] (A.drop (q+1))=true
     .rw[if_pos qe]at qb;simp only[Fr]at qb;rw[qb];simp only;rw[<-D9];have d3:=Q0 qv.2.2.1 hl qe;have qU:=D5 qe;have kF:=O3 qv (q+1+1);obtain⟨v,q5,d4,jU,h5⟩:=(Anb n).2 (τ3.set m (RO z t A (q+1+1))) m z t A (q+1+1) hA hT kF.2.2.1 qU (by omega);rw[Wk]at d4;have jI:=O3 qv q5;have qC:GW (τ3.set m (RO z t A q5)) 1 9 (s.length+2) u' ((L++[w]).map Lc):=F6 qQ (by omega);have qT:s.length+2<=(τ3.set m (RO z t A q5)).length:=by rw[Hy];exact jp
      have jZ:(τ3.set m (RO z t A q5))[s.length]?=some (.row [.str [],iV 0,.nils,.nils] 51 0 0):=by rw[Bj (by omega)];exact jJ
      have jH:(τ3.set m (RO z t A q5))[s.length+1]?=some (.row [.str nm,iV tk.line,u',.nils] 51 0 0):=by rw[Bj (by omega)];exact jF
      generalize τ3.set m (RO z t A q5)=τ5 at d4 jI qC qT jZ jH;have ka:∀ ob:Ob,(τ5.set (s.length+1) ob)[s.length]?=some (.row [.str [],iV 0,.nils,.nils] 51 0 0):=fun ob=>by rw[Bj (by omega)];exact jZ
      rw[e3]at d3;unfold Y5 at h5;simp only[go_sem];refine Ab d1 ?_;simp only[go_sem,qY,ha,jE,qf,qA,qz];refine Ab d2 ?_;simp only[go_sem];refine Ab d3 ?_;rw[<-e3];simp only[go_sem]
      cases hb:Eu n (A.drop (q+1+1)) with
      | none=>
       rw[hb]at h5;subst h5;refine Ab d4 ?_;simp only[go_sem,jH,jk _ _ qT,ka,qf];exact⟨_,[.agg [.str nm,iV tk.line,SL true 0 ((L++[w]).map Lc),.nils],.bool false],q5,Cc (qL _ _ (by rw[Hy];exact qT)) rfl rfl rfl,X9 qC rfl,Xu (F6 (F6 qC (by omega)) (by omega)) rfl,(fun j hj=>by have:=X8 qC rfl j hj;omega),Ya rfl,Ow (Ow jI (by omega)) (Ai _),jU,_,_,_,_,by simp only[As,Bd,Aew];rfl,rfl⟩
      | some bt=>
       obtain⟨b,kH⟩:=bt;rw[hb]at h5;obtain⟨rfl,h5⟩:=h5;have qm:=B8 b;have ki:=Fd qm;refine Ab d4 ?_;simp only[go_sem,jH,jk _ _ qT,ka,qf,ki];exact⟨_,[.agg [.str nm,iV tk.line,SL true 0 ((L++[w]).map Lc),SL true 0 (b.map Sp.row)],.bool true],q5,Cc (qL _ _ (by rw[Hy];exact qT)) rfl rfl rfl,X9 qC qm,Xu (F6 (F6 qC (by omega)) (by omega)) qm,(fun j hj=>by have:=X8 qC qm j hj;omega),Ya qm,Ow (Ow jI (by omega)) (Ai _),jU,rfl,h5⟩
     .have qe:Ao [41] (A.drop (q+1))=false:=by simpa using qe
      rw[if_neg (by rw[qe];decide)]at qb;simp only[Option.map_none]at qb;rw[qb];have d3:=Q1 qv.2.2.1 hl jC qe;rw[e3]at d3;simp only[go_sem];refine Ab d1 ?_;simp only[go_sem,qY,ha,jE,qf,qA,qz];refine Ab d2 ?_;simp only[go_sem];refine Ab d3 ?_;rw[<-e3];simp only[go_sem,jF,jJ,qf];exact⟨_,[.agg [.str nm,iV tk.line,SL true 0 ((L++[w]).map Lc),.nils],.bool false],(q+1),Cc (qL _ _ (jp)) rfl rfl rfl,X9 qQ rfl,Xu (F6 qQ (by omega)) rfl,(fun j hj=>by have:=X8 qQ rfl j hj;omega),Ya rfl,Ow qv (Ai _),jC,_,_,_,_,by simp only[As,Bd,Aew];rfl,rfl⟩
def PRg(A:List Tk)(o:Option (Gp × List Tk))(v:V)(p':Nat):Prop:=match o with
 | some (x,r)=>v=.tup [.agg x.row,.bool true]/\A.drop p'=r
 | none=>∃ d0 d1:V,[d0,d1].all V.rowB=true/\v=.tup [.agg [d0,d1],.bool false]
structure PS (s σ:St) (m:Nat) (z:Bool) (t:Nat) (A:List Tk) (q:Nat) (u1 u2:V) (D:List Dp) (L:List Tp):Prop where
 rw:RW s σ m z t A q
 len:s.length+2<=σ.length
 z2:σ[s.length]?=some (.row [.nils,.nils] 28 0 0)
 p:σ[s.length+1]?=some (.row [u1,u2] 28 0 0)
 g1:GW σ 6 64 (s.length+2) u1 (D.map Dp.row)
 g2:GW σ 4 51 (s.length+2) u2 (L.map Tp.row)
def Aqy{s σ:St}{m:Nat}{z:Bool}{t:Nat}{A:List Tk}{q:Nat}{u1 u2:V}{D:List Dp}{L:List Tp}(h:PS s σ m z t A q u1 u2 D L)(q':Nat):PS s (σ.set m (RO z t A q')) m z t A q' u1 u2 D L:=by
 have hm:=h.rw.2.2.2;exact⟨O3 h.rw q',by rw[Hy];exact h.len,by rw[Bj (by omega)];exact h.z2,by rw[Bj (by omega)];exact h.p,F6 h.g1 (by omega),F6 h.g2 (by omega)⟩
def Abm{s σ l:St}{m:Nat}{z:Bool}{t:Nat}{A:List Tk}{q:Nat}{u1 u2:V}{D:List Dp}{L:List Tp}(h:PS s σ m z t A q u1 u2 D L):PS s (σ++l) m z t A q u1 u2 D L:=
 ⟨Abl h.rw,by have:=h.len;simp;omega,B5 h.z2,B5 h.p,P8 h.g1,P8 h.g2⟩
def A27{s σ:St}{m:Nat}{z:Bool}{t:Nat}{A:List Tk}{q:Nat}{u1 u2:V}{D:List Dp}{L:List Tp}(h:PS s σ m z t A q u1 u2 D L)(d:Dp)(hb:D.length<=1000000):
  ∃ u' σ',Ef 64 (6,64) u1 (.lst 1 [d.row]) σ=some (u',σ')/\u'.cellB=true/\σ'[s.length+1]?=some (.row [u1,u2] 28 0 0)/\PS s (σ'.set (s.length+1) (.row [u',u2] 28 0 0)) m z t A q u' u2 (D++[d]) L:=by
 obtain⟨u',σ',ha,hg,hl,jo,qh⟩:=Sa (bytes:=64) (y:=.lst 1 [d.row]) (ys:=[d.row]) h.g1 h.len rfl (by omega) (Aai D) (by simp;rfl) (by simp;omega);have qa:=h.len;have hp:σ'[s.length+1]?=some (.row [u1,u2] 28 0 0):=by rw[qh _ (by omega)];exact h.p
 refine⟨u',σ',ha,Dq hg,hp,Ow (Qh h.rw (by omega) fun j hj=>qh j (by omega)) (by omega),by rw[Hy];omega,?_,Ci (by omega),?_,?_⟩
 .rw[Bj (by omega),qh _ (by omega)];exact h.z2
 .rw[Ei];exact F6 hg (by omega)
 .exact F6 (Aqn (by decide) (Aqo h.g1) h.g2 jo) (by omega)
def A67{s σ:St}{m:Nat}{z:Bool}{t:Nat}{A:List Tk}{q:Nat}{u1 u2:V}{D:List Dp}{L:List Tp}(h:PS s σ m z t A q u1 u2 D L)(d:Tp)(hb:L.length<=1000000):
  ∃ u' σ',Ef 72 (4,51) u2 (.lst 1 [d.row]) σ=some (u',σ')/\u'.cellB=true/\σ'[s.length+1]?=some (.row [u1,u2] 28 0 0)/\PS s (σ'.set (s.length+1) (.row [u1,u'] 28 0 0)) m z t A q u1 u' D (L++[d]):=by
 obtain⟨u',σ',ha,hg,hl,jo,qh⟩:=Sa (bytes:=72) (y:=.lst 1 [d.row]) (ys:=[d.row]) h.g2 h.len rfl (by omega) (Rv L) (by simp;rfl) (by simp;omega);have qa:=h.len;have hp:σ'[s.length+1]?=some (.row [u1,u2] 28 0 0):=by rw[qh _ (by omega)];exact h.p
 refine⟨u',σ',ha,Dq hg,hp,Ow (Qh h.rw (by omega) fun j hj=>qh j (by omega)) (by omega),by rw[Hy];omega,?_,Ci (by omega),?_,?_⟩
 .rw[Bj (by omega),qh _ (by omega)];exact h.z2
 .exact F6 (Aqn (by decide) (Aqo h.g2) h.g1 jo) (by omega)
 .rw[Ei];exact F6 hg (by omega)
def Acb{s σ:St}{m:Nat}{z:Bool}{t:Nat}{A:List Tk}{q:Nat}{u1 u2:V}{D:List Dp}{L:List Tp}(h:PS s σ m z t A q u1 u2 D L){e':Env}{b:Bool}{R:V->Nat->Prop}(kl:e'.get 2=.ptr s.length 0 0)(km:e'.get 3=.bool b)(hq:q<=A.length)(hR:R (.tup [.agg [SL true 0 (D.map Dp.row),SL true 0 (L.map Tp.row)],.bool b]) q):
  ∃ vs qs q,Ch e' (σ.set s.length (.row [u1,u2] 28 0 0)) [AR.cell 2 2 false,AR.tmp 3]=some (.tup vs)/\vs.all Iq=true/\OVs (σ.set s.length (.row [u1,u2] 28 0 0)) vs qs/\(∀ j∈Am vs,s.length<=j)/\Am qs=[]/\RW s (σ.set s.length (.row [u1,u2] 28 0 0)) m z t A q/\q<=A.length/\R (.tup qs) q:=by
 have qa:=h.len;have c1:=Dq h.g1;have c2:=Dq h.g2;refine⟨[.agg [u1,u2],.bool b],[.agg [SL true 0 (D.map Dp.row),SL true 0 (L.map Tp.row)],.bool b],q,Cc (Ci (by omega)) kl rfl km,?_,?_,?_,?_,Ow h.rw (Ai _),hq,hR⟩
 .show([u1,u2].all V.cellB&&(Iq (.bool b)&&true))=true;simp only[As,Bd,c1,c2];rfl
 .exact .cons (X3 (.cons (O6 (F6 h.g1 (by omega)) (by omega) (Aai D) (Aer D)) (.cons (O6 (F6 h.g2 (by omega)) (by omega) (Rv L) (Aaj L)) .nil))) (.cons (Ju rfl) .nil)
 .intro j hj;simp only[Am,V.refs,Cy,Cr]at hj
  have k1:∀ {w:V} {mm e:Nat} {xs:List (List V)},GW σ mm e (s.length+2) w xs->∀ j∈w.refs,s.length<=j:=by
   intro w mm e xs hg j hj;rcases hg with⟨rfl,-⟩ | ⟨-,i,g,rfl,-,jt⟩
   .cases hj
   .simp only[V.refs,E0]at hj;omega
  rcases hj with hj | hj
  .exact k1 h.g1 j hj
  .exact k1 h.g2 j hj
 .simp only[Am,V.refs,Apm,Cy]
set_option maxHeartbeats 4000000 in
def Aus{s:St}{m:Nat}{z:Bool}{t:Nat}{A:List Tk}(hA:OkA A)(hT:Dv A)(hs:s[m]?=some (RO z t A 0)):RT 18 [] s m z t A (PRg A (Sl A)):=by
 have hl:A.length<=1000000:=by have:=hA.len;omega
 have hm:=(Aq.1 hs).1;refine Aqx T18 hs fun S hS=>?_
 have qg:=Asr hS hs;have jz:PS s (S 0++[.row [.nils,.nils] 28 0 0,.row [.nils,.nils] 28 0 0]) m z t A 0 .nils .nils [] []:=⟨qg _ _,by simp[hS.len],hS.n0 _ _ _,hS.n1 _ _ _ _,Gk,Gk⟩;have Zq:=Di hS;obtain⟨-,-,qa,get,get0,set,set0,n0,n1,n2,u0,u1,u2⟩:=hS;have kc:A.drop 0=A:=Ll;simp only[go_sem,Zq,LZ];refine B3 (α:=Nat × Nat × V × List Dp × St) (fun a=>a.1) (fun a=>[(0,.ptr m 0 0),(2,.ptr s.length 0 0),(4,.ptr (s.length+1) 0 0)]) (fun a=>a.2.2.2.2) (fun a=>a.2.1<=A.length/\A.length - a.2.1<a.1/\PS s a.2.2.2.2 m z t A a.2.1 a.2.2.1 .nils a.2.2.2.1 []/\Iu (A.length+1) A=(Iu a.1 (A.drop a.2.1)).map (fun y=>(a.2.2.2.1++y.1,y.2))/\a.2.2.2.1.length<=a.2.1) ?_ (A.length+1,0,.nils,[],S 0++[.row [.nils,.nils] 28 0 0,.row [.nils,.nils] 28 0 0]) ⟨A0 _,by simp only;omega,jz,by simp only[Bf,kc];cases Iu (A.length+1) A<;>rfl,by simp⟩;rintro⟨k,q,v1,D,σ⟩ ⟨hq,jm,qK,qb,ke⟩ ih;simp only at hq jm qK qb ke ih;obtain⟨k,rfl⟩:∃ j,k=j+1:=⟨k - 1,by omega⟩;refine B4 (by delta lp18_0;exact rfl) ?_;have qi:=Qn qK.rw.2.2.1 hl hq;have qB:=Ajx (Aa A q).text;have qL:∀ (τ:St) (ob:Ob),s.length+2<=τ.length->(τ.set s.length ob)[s.length]?=some ob:=fun τ ob h=>Ci (by omega)
 have qS:Lx (A.drop q)=((Aa A q).kind==3&&F7 (Aa A q).text != 0):=by
  rcases Bu q A.length with h | h
  .rw[K9 h];rfl
  .rw[(Jg h).1,(Jg h).2];rfl
 by_cases hd:Lx (A.drop q)=true
 .have kA:q<A.length:=by
   rcases Bu q A.length with h | h
   .exact h
   .rw[(Jg h).1]at hd;cases hd
  rw[qS,Af]at hd;obtain⟨qO,qP⟩:=hd;obtain⟨v,q2,c1,jd,h3⟩:=Aur hA hT qK.rw.2.2.1 hq (by rw[qS,qO,qP];rfl);have qE:=Aqy qK q2
  have jy:Iu (k+1) (A.drop q)=match O8 (A.drop q) with
    | none=>none
    | some (d,r)=>match Iu k r with
     | none=>none
     | some (l,r)=>some (d::l,r):=by
   rw[Iu,if_pos (by rw[qS,qO,qP];rfl)];rfl
  rw[jy]at qb;unfold PRd at h3;generalize σ.set m (RO z t A q2)=τ at c1 qE;have qZ:∀ a:Ob,(τ++[a])[τ.length]?=some a:=fun a=>by simp
  have ja:∀ a b:Ob,(τ++[a]).set τ.length b=τ++[b]:=fun a b=>by simp[Jn]
  cases qr:O8 (A.drop q) with
  | none=>
   rw[qr]at h3 qb;obtain⟨_,⟨e0,e1,e2,e3,e4,e5,rfl,hb⟩,rfl⟩:=h3;have qj:PS s (τ++[.row [e0,e1,e2,e3,e4,e5] 64 0 0]) m z t A q2 v1 .nils D []:=Abm qE;have hz:=qj.z2;have hp:=qj.p;have qG:=Dq qK.g1;simp only[go_sem];refine Ab qi ?_;simp only[go_sem,qO];refine Ab qi ?_;simp only[go_sem];refine Ad qB rfl ?_;simp only[go_sem,qP];refine Ab c1 ?_;simp only[go_sem,qZ,ja,Aca hb,hz,hp,qG];refine Acb qj rfl rfl jd ?_;unfold Sl;rw[qb];exact⟨_,_,by simp only[As,Bd,R7];rfl,rfl⟩
  | some dr=>
   obtain⟨d,r⟩:=dr;rw[qr]at h3 qb;obtain⟨rfl,h3⟩:=h3
   have ku:r.length<A.length - q:=by
    have:=(Ajv (C:=100) (by omega) (C9 hT (We q A)) (by rw[qS,qO,qP];rfl) qr).2.2.1;rw[Dx]at this;exact this
   have kD:r.length=A.length - q2:=by rw[<-h3,Dx]
   have qj:PS s (τ++[.row d.row 64 0 0]) m z t A q2 v1 .nils D []:=Abm qE;obtain⟨w1,τ2,ha,hc,qJ,qd⟩:=A27 qj d (by omega);obtain⟨qA,qz⟩:=Aeb hc;have hp:=qj.p;have jN:d.row=[iV d.kind,iV d.line,.str d.nm,iV d.size,iV d.init,.str d.on]:=rfl;rw[jN]at c1 ha;simp only[jN]at hp;simp only[go_sem];refine Ab qi ?_;simp only[go_sem,qO];refine Ab qi ?_;simp only[go_sem];refine Ad qB rfl ?_;simp only[go_sem,qP];refine Ab c1 ?_;simp only[go_sem,qZ,ja,hp,ha,qJ,hc,qA,qz];refine Bg (ih (k,q2,w1,D++[d],τ2.set (s.length+1) (.row [w1,.nils] 28 0 0)) (by simp) ⟨jd,by simp only;omega,qd,?_,by simp;omega⟩) rfl;simp only;rw[qb,h3];simp only
   cases Iu k r with
   | none=>rfl
   | some y=>simp
 .have hd:Lx (A.drop q)=false:=by simpa using hd
  have jy:Iu (k+1) (A.drop q)=some ([],A.drop q):=by rw[Iu,if_neg (by rw[hd];decide)]
  rw[jy]at qb;simp only[Fr,Cy]at qb;rw[qS]at hd
  have ko:∀ P:Prop,((Aa A q).kind==3)=false\/(((Aa A q).kind==3)=true/\(F7 (Aa A q).text != 0)=false):=fun _=>by
   cases h:((Aa A q).kind==3)
   .exact .inl rfl
   .rw[h]at hd;exact .inr ⟨rfl,by simpa using hd⟩
  unfold Sl;rw[qb];simp only;rcases ko True with hk | ⟨hk,qh⟩
  case' inl=>simp only[go_sem]
  case' inl=>refine Ab qi ?_
  case' inl=>simp only[go_sem,hk]
  case' inr=>simp only[go_sem]
  case' inr=>refine Ab qi ?_
  case' inr=>simp only[go_sem,hk]
  case' inr=>refine Ab qi ?_
  case' inr=>simp only[go_sem]
  case' inr=>refine Ad qB rfl ?_
  case' inr=>simp only[go_sem,qh]
  all_goals
   refine B3 (α:=Nat × Nat × V × List Tp × St) (fun a=>a.1) (fun a=>[(0,.ptr m 0 0),(2,.ptr s.length 0 0),(4,.ptr (s.length+1) 0 0)]) (fun a=>a.2.2.2.2) (fun a=>a.2.1<=A.length/\A.length - a.2.1<a.1/\PS s a.2.2.2.2 m z t A a.2.1 v1 a.2.2.1 D a.2.2.2.1/\Ix (J1 A.length) (A.length+1) (A.drop q)=(Ix (J1 A.length) a.1 (A.drop a.2.1)).map (fun y=>(a.2.2.2.1++y.1,y.2))/\a.2.2.2.1.length<=a.2.1) ?_ (A.length+1,q,.nils,[],σ) ⟨hq,by simp only;omega,qK,by simp only[Bf];cases Ix (J1 A.length) (A.length+1) (A.drop q)<;>rfl,by simp⟩;rintro⟨k2,q3,v2,L,σ2⟩ ⟨je,jn,qd,qc,jl⟩ jh;simp only at je jn qd qc jl jh;obtain⟨k2,rfl⟩:∃ j,k2=j+1:=⟨k2 - 1,by omega⟩;refine B4 (by delta lp18_1;exact rfl) ?_;have qH:=Ahx qd.rw.2.2.1 hl je Na;have qG:=Dq qd.g1;have kE:=Dq qd.g2;by_cases ht:Ao Na (A.drop q3)=true
   .rw[ht]at qH
    have qX:=D5 ht;obtain⟨v,q4,c1,jT,h3⟩:=Av5 (n:=J1 A.length) hA hT qd.rw.2.2.1 qX (by unfold J1;omega);have qF:=Aqy qd q4
    have jB:Ix (J1 A.length) (k2+1) (A.drop q3)=match Pi (J1 A.length) (A.drop q3) with
      | none=>none
      | some (x,r)=>match Ix (J1 A.length) k2 r with
       | none=>none
       | some (l,r)=>some (x::l,r):=by
     rw[Ix,if_pos ht];rfl
    rw[jB]at qc;unfold PRt at h3;generalize σ2.set m (RO z t A q4)=τ at c1 qF;have qZ:∀ a:Ob,(τ++[a])[τ.length]?=some a:=fun a=>by simp
    have ja:∀ a b:Ob,(τ++[a]).set τ.length b=τ++[b]:=fun a b=>by simp[Jn]
    cases qr:Pi (J1 A.length) (A.drop q3) with
    | none=>
     rw[qr]at h3 qc;obtain⟨e0,e1,e2,e3,hb,rfl⟩:=h3;have qk:PS s (τ++[.row [e0,e1,e2,e3] 51 0 0]) m z t A q4 v1 v2 D L:=Abm qF;have hz:=qk.z2;have hp:=qk.p
     have kh:(e0.cellB&&(e1.cellB&&(e2.cellB&&e3.cellB)))=true:=by
      simp only[As,Bd,Af]at hb;simp only[Fd hb.1,Fd hb.2.1,Fd hb.2.2.1,Fd hb.2.2.2.1,Zv]
     simp only[go_sem];refine Ab qH ?_;simp only[go_sem];refine Ab c1 ?_;simp only[go_sem,qZ,ja,kh,hz,hp,qG,kE];refine Acb qk rfl rfl jT ?_;rw[qc];exact⟨_,_,by simp only[As,Bd,R7];rfl,rfl⟩
    | some xr=>
     obtain⟨x,r⟩:=xr;rw[qr]at h3 qc;obtain⟨rfl,h3⟩:=h3
     have kv:r.length<A.length - q3:=by
      have:=(Akg (M:=A.length) (C:=100+8*A.length) (Ai _) (C9 hT (We q3 A)) (by rw[Dx];omega) qr).2.2.2.2.1;rw[Dx]at this;exact this
     have kD:r.length=A.length - q4:=by rw[<-h3,Dx]
     have qk:PS s (τ++[.row x.row 51 0 0]) m z t A q4 v1 v2 D L:=Abm qF;obtain⟨w2,τ2,ha,hc,qJ,jA⟩:=A67 qk x (by omega);obtain⟨qA,qz⟩:=Aeb hc;have hp:=qk.p;have jj:=Amt x;have jX:x.row=[.str x.nm,iV x.line,SL x.lz x.lt (x.locals.map fun s=>[V.str s]),SL x.bz x.bt (x.body.map Sp.row)]:=rfl;rw[jX]at c1 ha jj;simp only[jX]at hp;simp only[go_sem];refine Ab qH ?_;simp only[go_sem];refine Ab c1 ?_;simp only[go_sem,qZ,ja,hp,ha,qJ,hc,qA,qz];refine Bg (jh (k2,q4,w2,L++[x],τ2.set (s.length+1) (.row [v1,w2] 28 0 0)) (by simp) ⟨jT,by simp only;omega,jA,?_,by simp;omega⟩) rfl;simp only;rw[qc,h3];simp only
     cases Ix (J1 A.length) k2 r with
     | none=>rfl
     | some y=>simp
   .have ht:Ao Na (A.drop q3)=false:=by simpa using ht
    rw[ht]at qH
    have jB:Ix (J1 A.length) (k2+1) (A.drop q3)=some ([],A.drop q3):=by rw[Ix,if_neg (by rw[ht];decide)]
    rw[jB]at qc;simp only[Fr,Cy]at qc;have hz:=qd.z2;have hp:=qd.p;rw[qc];simp only
    have qN:(v2=.nils/\L=[])\/(L≠[]/\∃ i g,v2=.sl i g 0 L.length 4 true):=by
     rcases qd.g2 with⟨h1,h2⟩ | ⟨h1,i,g,h2,-⟩
     .exact .inl ⟨h1,by simpa using h2⟩
     .exact .inr ⟨fun e=>h1 (by rw[e];rfl),i,g,by rw[h2,Ba]⟩
    rcases qN with⟨rfl,rfl⟩ | ⟨jc,i,g,rfl⟩
    .simp only[go_sem];refine Ab qH ?_;simp only[go_sem];have kz:(σ2.set s.length (.row [v1,.nils] 28 0 0))[s.length+1]?=some (.row [v1,.nils] 28 0 0):=by rw[Bj (by omega)];exact hp
     refine Ag (by kernel_rfl) ?_;simp only[go_sem,hp,hz,qG];refine Az ?_;simp only[go_sem,qG,hz,hp];refine Acb qd rfl rfl je ?_;show PRg A none _ _;exact⟨_,_,by simp only[As,Bd,R7];rfl,rfl⟩
    .have jR:((0:Int)<(L.length:Int))=True:=eq_true (by have:=List.length_pos_iff.2 jc;omega);simp only[go_sem];refine Ab qH ?_;simp only[go_sem];have kz:(σ2.set s.length (.row [v1,.sl i g 0 L.length 4 true] 28 0 0))[s.length+1]?=some (.row [v1,.sl i g 0 L.length 4 true] 28 0 0):=by rw[Bj (by omega)];exact hp
     refine Ag (by kernel_rfl) ?_;simp only[go_sem,hp,hz,qG,gt_iff_lt,jR];refine Az ?_;simp only[go_sem,qG,hz,hp,gt_iff_lt,jR];refine Acb qd rfl rfl je ?_;rw[if_neg (by simpa using jc)];exact⟨rfl,rfl⟩
def V5(s:List UInt8)(v:V):Prop:=match Jd s with
 | some x=>v=.tup [.agg x.row,.int .i64 0,.int .i64 0]
 | none=>∃ e ln:Int,e≠0/\v=.tup [.agg [.nils,.nils],.int .i64 e,.int .i64 ln]
def Bb4(x:Gp):x.row.all V.rowB=true:=by
 unfold Gp.row;simp only[As,Bd,R7];rfl
def Ayp(x:Gp):x.row=[SL x.dz x.dt (x.decls.map Dp.row),SL x.tz x.tt (x.thrs.map Tp.row)]:=rfl
def Aqz{a b:V}(h:[a,b].all V.rowB=true):a.cellB=true/\b.cellB=true:=by
 simp only[As,Bd,Wh,Af]at h;exact⟨Fd h.1,Fd h.2⟩
def Aa2(s:List UInt8):∃ v,Fn TT PT 9 [.str s] v/\V5 s v:=by
 obtain⟨v1,jD,hR⟩:=A2u s;refine Ahv T9 rfl ?_;unfold Ahw at hR;unfold V5 Jd;by_cases qM:4096<s.length
 .rw[if_pos qM]at hR ⊢;obtain⟨e,ln,he,rfl⟩:=hR;have ne:(e != 0)=true:=by simp[he]
  simp only[go_sem];refine Ad jD (by simp only[go_sem]) ?_;simp only[go_sem,ne];exact⟨.tup [.agg [.nils,.nils],iV e,iV ln],⟨_,rfl,Js (by rfl)⟩,e,ln,he,rfl⟩
 .rw[if_neg qM]at hR ⊢
  cases hL:C0 s.length 1 s with
  | none=>
   rw[hL]at hR;obtain⟨e,ln,he,rfl⟩:=hR;have ne:(e != 0)=true:=by simp[he]
   simp only[go_sem];refine Ad jD (by simp only[go_sem]) ?_;simp only[go_sem,ne];exact⟨.tup [.agg [.nils,.nils],iV e,iV ln],⟨_,rfl,Js (by rfl)⟩,e,ln,he,rfl⟩
  | some L=>
   rw[hL]at hR;simp only at hR;subst hR;have hA:=Ayl (by omega) hL;have hT:=Uu _ _ _ _ hL;have ne:((0:Int) != 0)=false:=by decide
   have hl:L.length<=1000000:=by have:=hA.len;omega
   have h1:=Aus (s:=[.row [.nils,.nils] 28 0 0,RO true 0 L 0]) (m:=1) (z:=true) (t:=0) hA hT rfl;obtain⟨v,q,c4,jd,h3⟩:=h1;have c4:Bt TT PT 18 [.ptr 1 0 0] [.row [.nils,.nils] 28 0 0,.row [SL true 0 (L.map Tk.row),iV 0] 58 0 0] v [.row [.nils,.nils] 28 0 0,.row [SL true 0 (L.map Tk.row),iV (q:Int)] 58 0 0]:=c4;simp only[go_sem];refine Ad jD (by simp only[go_sem]) ?_;simp only[go_sem,ne];unfold PRg at h3;have qu:∀ x:List V,∃ n:Int,Bt TT PT 19 [.ptr 1 0 0] [.row [.nils,.nils] 28 0 0,.row [SL true 0 (L.map Tk.row),iV (q:Int)] 58 0 0,.row x 28 0 0] (iV n) [.row [.nils,.nils] 28 0 0,.row [SL true 0 (L.map Tk.row),iV (q:Int)] 58 0 0,.row x 28 0 0]:=fun x=>A23 (s:=[.row [.nils,.nils] 28 0 0,RO true 0 L q,.row x 28 0 0]) (m:=1) rfl hl jd
   split at h3
   .rename_i x r ho;obtain⟨rfl,h3⟩:=h3;have jj:=Bb4 x;have hr:=Ayp x;rw[hr]at c4 jj;obtain⟨jg,ji⟩:=Aqz jj;rw[ho];refine Ab c4 ?_;simp only[go_sem];by_cases hq:q<L.length
    .have f1:((q:Int)<(L.length:Int))=True:=eq_true (by omega);obtain⟨n,jq⟩:=qu [SL x.dz x.dt (x.decls.map Dp.row),SL x.tz x.tt (x.thrs.map Tp.row)];refine Ag (by kernel_rfl) ?_;simp only[go_sem,Nu,f1,jg,ji];refine Ab jq ?_;simp only[go_sem]
     have jc:r≠[]:=fun e=>by
      rw[e]at h3;have:=congrArg List.length h3;rw[Dx]at this;simp at this;omega
     refine⟨.tup [.agg [.nils,.nils],iV 3,iV n],⟨_,rfl,Js (by rfl)⟩,?_⟩
     cases r with
     | nil=>exact absurd rfl jc
     | cons a b=>exact⟨3,n,by decide,rfl⟩
    .have f1:((q:Int)<(L.length:Int))=False:=eq_false (by omega);rw[Ge (by omega)]at h3;subst h3;refine Ag (by kernel_rfl) ?_;simp only[go_sem,Nu,f1,jg,ji];refine⟨.tup [.agg x.row,iV 0,iV 0],?_,rfl⟩;rw[hr];exact⟨_,rfl,Js (by simp only[go_sem,Nat.reduceEqDiff,reduceIte])⟩
   .rename_i ho;obtain⟨d0,d1,hd,rfl⟩:=h3;obtain⟨jg,ji⟩:=Aqz hd;rw[ho];obtain⟨n,jq⟩:=qu [d0,d1];refine Ab c4 ?_;simp only[go_sem,jg,ji];refine Ag (by kernel_rfl) ?_;simp only[go_sem,Nu];refine Ab jq ?_;simp only[go_sem];exact⟨.tup [.agg [.nils,.nils],iV 3,iV n],⟨_,rfl,Js (by rfl)⟩,3,n,by decide,rfl⟩
attribute [go_sem] Ad1 A0 Int.natCast_nonneg
/-! interleaveref01 -/
def Agb(f:AF)(args:List V):Option V:=(Jy (M8 TT PT 60) f args []).bind fun p=>Es p.2 p.1
def Aty:((List.range 256).all fun n=>match Agb af91 [.int .u8 n] with
  | some v=>v.eqv (.bool (J7 n))
  | none=>false)=true:=by kernel_rfl
def Aut(n:Nat)(h:n<256):Fn TT PT 91 [.int .u8 n] (.bool (J7 n)):=by
 have:=Bh.1 Aty n (En.2 h)
 split at this
 .rename_i v hv;have e:=X2 this;subst e;exact P7 Rc T91 rfl rfl hv
 .cases this
def Auu:((List.range 256).all fun n=>match Agb af93 [.int .u8 n] with
  | some v=>v.eqv (.bool (Jj n))
  | none=>false)=true:=by kernel_rfl
def Ayq(n:Nat)(h:n<256):Fn TT PT 93 [.int .u8 n] (.bool (Jj n)):=by
 have:=Bh.1 Auu n (En.2 h)
 split at this
 .rename_i v hv;have e:=X2 this;subst e;exact P7 Rc T93 rfl rfl hv
 .cases this
def kwRows:List (List V):=kwL.map fun k=>[V.str k]
def Atz:Fn TT PT 119 [] (.lst 1 kwRows):=by
 have:(match Agb af119 [] with
  | some v=>v.eqv (.lst 1 kwRows)
  | none=>false)=true:=by kernel_rfl
 split at this
 .rename_i v hv;have e:=X2 this;subst e;exact P7 Rc T119 rfl rfl hv
 .cases this
def Aq0(l:List UInt8):Fn TT PT 92 [.str l] (.bool (Gc l)):=by
 have qa:kwRows.length=22:=rfl
 have qR:∀ i,i<22->kwRows[i]?=some [.str (kwL.getD i [])]:=fun i hi=>by
  have hl:i<kwL.length:=hi;unfold kwRows;rw[Av,A2 hl,Au,A2 hl];rfl
 have hk:=Atz;generalize kwRows=g at qa qR hk;refine Bz T92 rfl ?_;simp only[go_sem];refine Ad hk rfl ?_;simp only[go_sem];refine B3 (fun i=>22 - i) (fun i:Nat=>[(0,.str l),(3,.lst 1 g),(4,iV i)]) (fun _=>[]) (fun i=>i<=22/\∀ j,j<i->(l==kwL.getD j [])=false) ?_ 0 ⟨by omega,fun j hj=>by omega⟩;rintro i ⟨hi,qW⟩ ih;refine B4 (by delta lp92_0;exact rfl) ?_;rcases Bu i 22 with h | h
 .have ju:decide ((i:Int)<22)=true:=by simp;omega
  simp only[go_sem,qa,ju,qR i h];refine Arw (fun h3=>?_) (fun h3=>?_)
  .simp only[go_sem];refine Ap rfl ?_;unfold Gc;rw[Nf.2 ⟨kwL.getD i [],?_,?_⟩]
   .have hl:i<kwL.length:=h;rw[Au,A2 hl];exact Fj hl
   .rw[<-h3,Bool.beq_comm]
  .simp only[go_sem,Bk (show i<9223372036854775807 by omega)];refine Bg (ih (i+1) (by omega) ⟨by omega,fun j hj=>?_⟩) rfl;by_cases e:j=i
   .rw[e,<-h3,Bool.beq_comm]
   .exact qW j (by omega)
 .have ju:decide ((i:Int)<22)=false:=by simp;omega
  simp only[go_sem,qa,ju];refine Ap rfl ?_
  symm
  congr 1;unfold Gc;rw[<-Zn];intro ha;obtain⟨k,hk,he⟩:=Nf.1 ha;obtain⟨j,hj,rfl⟩:=Pq hk;have kI:j<22:=hj;have:=qW j (by omega);rw[Au,A2 hj]at this;exact absurd he (by simpa using this)
def Afi{l:List UInt8}(h0:0<l.length):((J7 (l.getD 0 0).toNat=true)/\∀ j,j<l.length->Jj (l.getD j 0).toNat=true)↔∀ j,j<l.length->Nc l j=true:=by
 have kb:∀ n,Jj n=true↔J7 n=true\/(n=95\/M9 n=true):=fun n=>by
  unfold Jj;simp only[Ij,beq_iff_eq];constructor
  .rintro(h | h | h)
   .exact .inl h
   .exact .inr (.inr h)
   .exact .inr (.inl h)
  .rintro(h | h | h)
   .exact .inl h
   .exact .inr (.inr h)
   .exact .inr (.inl h)
 have nm:∀ j,Nc l j=true↔J7 (l.getD j 0).toNat=true\/(0<j/\((l.getD j 0).toNat=95\/M9 (l.getD j 0).toNat=true)):=fun j=>by
  unfold Nc;simp only[Ij,Af,decide_eq_true_eq,beq_iff_eq]
 constructor
 .rintro⟨h1,h2⟩ j hj;rw[nm];have:=(kb _).1 (h2 j hj);by_cases e:j=0
  .subst e;exact .inl h1
  .exact this.imp id fun h=>⟨by omega,h⟩
 .intro h;refine⟨?_,fun j hj=>?_⟩
  .have:=(nm 0).1 (h 0 h0);exact this.elim id fun h=>by omega
  .have:=(nm j).1 (h j hj);exact(kb _).2 (this.imp id fun h=>h.2)
def Rz(l:List UInt8):Fn TT PT 72 [.str l] (.bool (Bv l)):=by
 refine Bz T72 rfl ?_;cases h0:decide ((l.length:Int)<1);rotate_left
 .simp only[go_sem,h0];exact Ap rfl (by rw[A1u (by simp at h0;omega)])
 have jb:0<l.length:=by simp at h0;omega
 cases h1:decide ((12:Int)<(l.length:Int));rotate_left
 .simp only[go_sem,h0,h1];exact Ap rfl (by rw[A1v (by simp at h1;omega)])
 have hg:l[0]?=some (l.getD 0 0):=by rw[Au,A2 jb];rfl
 have ql:=Aut (l.getD 0 0).toNat (l.getD 0 0).toNat_lt
 cases h2:J7 (l.getD 0 0).toNat
 .rw[h2]at ql;simp only[go_sem,h0,h1,hg];refine Ad ql rfl ?_;simp only[go_sem];refine Ap rfl ?_;rw[show Bv l=false from ?_];have:=mt (Afi jb).2 (by rw[h2];simp);rw[<-Zn];intro hn;unfold Bv at hn;simp only[Af,Bh,En]at hn;exact this hn.2.2.2
 rw[h2]at ql;cases h3:Gc l;rotate_left
 .have hk:=Aq0 l;rw[h3]at hk;simp only[go_sem,h0,h1,hg];refine Ad ql rfl ?_;simp only[go_sem];refine Ad hk rfl ?_;simp only[go_sem];exact Ap rfl (by rw[A1w h3])
 have hk:=Aq0 l;rw[h3]at hk;simp only[go_sem,h0,h1,hg];refine Ad ql rfl ?_;simp only[go_sem];refine Ad hk rfl ?_;simp only[go_sem];refine B3 (fun i=>l.length - i) (fun i:Nat=>[(0,.str l),(3,iV i)]) (fun _=>[]) (fun i=>i<=l.length/\∀ j,j<i->Jj (l.getD j 0).toNat=true) ?_ 0 ⟨by omega,fun j hj=>by omega⟩;rintro i ⟨hi,qW⟩ ih;refine B4 (by delta lp72_0;exact rfl) ?_;have ks:l.length<=12:=by simp at h1;omega
 rcases Bu i l.length with h | h
 .have jQ:l[i]?=some (l.getD i 0):=by rw[Au,A2 h];rfl
  have qI:=Ayq (l.getD i 0).toNat (l.getD i 0).toNat_lt
  cases h4:Jj (l.getD i 0).toNat
  .rw[h4]at qI;simp only[go_sem,Bx h,jQ];refine Ad qI rfl ?_;simp only[go_sem];refine Ap rfl ?_;rw[show Bv l=false from ?_];rw[<-Zn];intro hn;unfold Bv at hn;simp only[Af,Bh,En]at hn;have:=((Afi jb).2 hn.2.2.2).2 i h;rw[h4]at this;cases this
  .rw[h4]at qI;simp only[go_sem,Bx h,jQ];refine Ad qI rfl ?_;simp only[go_sem,Bk (show i<9223372036854775807 by omega)];refine Bg (ih (i+1) (by omega) ⟨by omega,fun j hj=>?_⟩) rfl;by_cases e:j=i
   .rw[e];exact h4
   .exact qW j (by omega)
 .simp only[go_sem,Ck h];refine Ap rfl ?_;rw[Aqj (by omega) ks h3 ((Afi jb).1 ⟨h2,fun j hj=>qW j (by omega)⟩)]
/-! shapes -/
def shH(op n:Int)(nm:List UInt8)(k:Nat):Bool:=
 V4 op==(k:Int)&&((op==2||op==3)==!(nm==[])&&((!(op==2||op==3)||Bv nm)&&(decide (0<=n)&&(op==1||n==0))))
mutual
def Gq:Xp->Bool
 | ⟨op,n,nm,_,_,l⟩=>shH op n nm l.length&&Ada l
def Ada:List Xp->Bool
 | []=>true
 | x::l=>Gq x&&Ada l
end
def Anc:∀ l:List Xp,Ada l=l.all Gq
 | []=>rfl
 | x::l=>by rw[Ada,Anc l];rfl
def A28(x:Xp):Gq x=(shH x.op x.n x.nm x.l.length&&x.l.all Gq):=by
 rw[<-Anc];cases x;rfl
def Acc(x:Xp):Bool:=x.op==0&&(x.n==0&&(x.nm==[]&&x.l.isEmpty))
def Aiy(s:Sp):Bool:=
 decide (1<=s.op)&&(decide (s.op<=15)&&((if Ft s.op then s.nm==[] else Bv s.nm)&&((if s.op=15 then Bv s.arg else s.arg==[]) &&
  (decide (s.idx.length<=1)&&((s.op==1||s.idx.isEmpty)&&(s.idx.all Gq&&((if Dy s.op then Gq s.ex else Acc s.ex) &&
   ((Bn s.op||s.body.isEmpty)&&(s.op==2||s.els.isEmpty)))))))))
mutual
def Nd:Sp->Bool
 | ⟨op,line,nm,arg,iz,it,idx,ex,bz,bt,body,ez,et,els⟩=>Aiy ⟨op,line,nm,arg,iz,it,idx,ex,bz,bt,body,ez,et,els⟩&&(Jk body&&Jk els)
def Jk:List Sp->Bool
 | []=>true
 | x::l=>Nd x&&Jk l
end
def Ane:∀ l:List Sp,Jk l=l.all Nd
 | []=>rfl
 | x::l=>by rw[Jk,Ane l];rfl
def A29(s:Sp):Nd s=(Aiy s&&(Jk s.body&&Jk s.els)):=by
 cases s;rfl
def S8(d:Dp):Bool:=
 decide (1<=d.kind)&&(decide (d.kind<=6)&&(Bv d.nm&&(decide (0<=d.size)&&((d.kind==1||d.size==0)&&((if d.kind=5 then Bv d.on else d.on==[]) &&
  (decide (-9223372036854775808<d.init)&&(d.init==0||(d.kind==1||d.kind==2))))))))
def Y8(t:Tp):Bool:=t.locals.all Bv&&(Bv t.nm&&Jk t.body)
def shG(p:Gp):Bool:=p.decls.all S8&&(p.thrs.all Y8&&!p.thrs.isEmpty)
/-! what is in range -/
/-! bulk -/
def Abn(z:Bool)(t:Nat)(rows:List (List V)):(SL z t rows).bulk=Cw rows+1:=by
 unfold SL
 split
 .rename_i h;rw[h.2];simp[V.bulk,Cw]
 .simp[V.bulk]
def F8(x:Xp):C2 x.row=4+x.nm.length+Cw (x.l.map Xp.row):=by
 rw[Bb];simp only[C2,V.bulk,Abn];omega
def L9(s:Sp):C2 s.row=7+s.nm.length+s.arg.length+Cw (s.idx.map Xp.row)+C2 s.ex.row+Cw (s.body.map Sp.row)+Cw (s.els.map Sp.row):=by
 rw[Pz];simp only[Adv,C2,V.bulk,Abn];omega
def Bav(d:Dp):C2 d.row=6+d.nm.length+d.on.length:=by
 simp only[Dp.row,C2,V.bulk];omega
def Yp(t:Tp):C2 t.row=4+t.nm.length+Cw (t.locals.map fun s=>[V.str s])+Cw (t.body.map Sp.row):=by
 simp only[Tp.row,C2,V.bulk,Abn];omega
def Ah0(p:Gp):C2 p.row=2+Cw (p.decls.map Dp.row)+Cw (p.thrs.map Tp.row):=by
 simp only[Gp.row,C2,Abn];omega
def Io{α:Type}{f:α->List V}:∀ {l:List α} {x:α},x∈l->C2 (f x)<=Cw (l.map f)
 | y::l,x,h=>by
  rw[Aw,Cw];rcases Bi.1 h with rfl | h
  .omega
  .have:=Io (f:=f) h;omega
def Jp{α:Type}{f:α->List V}(hf:∀ x,1<=C2 (f x)):∀ l:List α,l.length<=Cw (l.map f)
 | []=>by simp
 | x::l=>by
  rw[Aw,Cw,Ah];have:=Jp hf l;have:=hf x;omega
def Ff{a b:AC}{k:List It}{e:Env}{σ:St}{Q:Env->St->Prop}(P:Env->St->Prop)(h1:∀ k',(∀ e σ,P e σ->W TT PT k' e σ Q)->W TT PT (.c a::k') e σ Q)(h2:∀ e σ,P e σ->W TT PT (.c b::k) e σ Q):W TT PT (.c (.seq a b)::k) e σ Q:=by
 rw[Aho];exact h1 _ h2
def At0(op:Int):Fn TT PT 149 [iV op] (iV (V4 op)):=by
 refine Bz T149 rfl ?_;unfold V4;by_cases h1:op=1
 .subst h1;simp only[go_sem,Int.reduceBEq];exact Ap rfl rfl
 have e1:(op==1)=false:=by simp[h1]
 by_cases h2:op=2
 .subst h2;simp only[go_sem,e1,Int.reduceBEq];exact Ap rfl rfl
 have e2:(op==2)=false:=by simp[h2]
 rw[if_neg (by omega)];by_cases h3:3<=op/\op<=5
 .have g3:((3:Int)<=op)=True:=eq_true h3.1;have g5:(op<=5)=True:=eq_true h3.2;rw[if_pos h3];simp only[go_sem,e1,e2,g3,g5,ge_iff_le];exact Ap rfl rfl
 rw[if_neg h3];by_cases h6:6<=op/\op<=18
 .have g3:((3:Int)<=op)=True:=eq_true (by omega);have g5:(op<=5)=False:=eq_false (by omega);have g6:((6:Int)<=op)=True:=eq_true h6.1;have g7:(op<=18)=True:=eq_true h6.2;rw[if_pos h6];simp only[go_sem,e1,e2,g3,g5,g6,g7,ge_iff_le];exact Ap rfl rfl
 rw[if_neg h6];by_cases hl:3<=op
 .have g3:((3:Int)<=op)=True:=eq_true (by omega);have g5:(op<=5)=False:=eq_false (by omega);have g6:((6:Int)<=op)=True:=eq_true (by omega);have g7:(op<=18)=False:=eq_false (by omega);simp only[go_sem,e1,e2,g3,g5,g6,g7,ge_iff_le];exact Ap rfl rfl
 .have g3:((3:Int)<=op)=False:=eq_false (by omega);have g6:((6:Int)<=op)=False:=eq_false (by omega);simp only[go_sem,e1,e2,g3,g6,ge_iff_le];exact Ap rfl rfl
def Ayr(x:Xp)(hl:x.l.length<=1000000000):Fn TT PT 122 [.agg x.row] (.bool (Acc x)):=by
 refine Bz T122 rfl ?_;rw[Bb];unfold Acc;have qa:(x.l.map Xp.row).length=x.l.length:=Ba ..;cases h1:(x.op==0)
 .simp only[go_sem,h1];exact Ap rfl rfl
 cases h2:(x.n==0)
 .simp only[go_sem,h1,h2];exact Ap rfl rfl
 cases h3:(x.nm==[])
 .simp only[go_sem,h1,h2,h3];exact Ap rfl rfl
 have e:((x.l.length:Int)==0)=x.l.isEmpty:=by
  cases x.l with
  | nil=>rfl
  | cons a b=>simp;omega
 simp only[go_sem,h1,h2,h3,qa,e];exact Ap rfl rfl
set_option maxHeartbeats 1000000 in
def Ays(x:Xp)(hl:x.l.length<=1000000000)(ih:∀ y∈x.l,Fn TT PT 121 [.agg y.row] (.bool (Gq y))):Fn TT PT 121 [.agg x.row] (.bool (Gq x)):=by
 obtain⟨op,n,nm,z,t,l⟩:=x;have hr:=Bb ⟨op,n,nm,z,t,l⟩;have hR:=A28 ⟨op,n,nm,z,t,l⟩;generalize Gq ⟨op,n,nm,z,t,l⟩=R at hR ⊢;simp only at hr hl ih hR;rw[hr];clear hr;unfold shH at hR;have qa:(l.map Xp.row).length=l.length:=Ba ..;refine Bz T121 rfl ?_;refine Ff (fun e σ=>e=[(1,.ptr 0 0 0)]/\σ=[.row [iV op,iV n,.str nm,SL z t (l.map Xp.row)] 76 0 0]) (fun k' hk=>?_) ?_
 .simp only[go_sem];exact hk _ _ ⟨rfl,rfl⟩
 rintro e σ ⟨rfl,rfl⟩;refine Ff (fun e σ=>e=[(1,.ptr 0 0 0),(3,.bool (op==2||op==3))]/\σ=[.row [iV op,iV n,.str nm,SL z t (l.map Xp.row)] 76 0 0]) (fun k' hk=>?_) ?_
 .cases h2:(op==2)
  .simp only[go_sem,h2];exact hk _ _ ⟨by rw[h2];rfl,rfl⟩
  .simp only[go_sem,h2];exact hk _ _ ⟨by rw[h2];rfl,rfl⟩
 rintro e σ ⟨rfl,rfl⟩;generalize(op==2||op==3)=nb at hR ⊢;have ho:=At0 op;have qD:=Rz nm;refine Ff (fun e σ=>(e=[(1,.ptr 0 0 0)]/\σ=[.row [iV op,iV n,.str nm,SL z t (l.map Xp.row)] 76 0 0])/\R=l.all Gq) (fun k' hk=>?_) ?_
 .cases h1:(V4 op != (l.length:Int));rotate_left
  .have b1:(V4 op==(l.length:Int))=false:=by simpa using h1
   rw[b1]at hR;subst hR;simp only[go_sem];refine Ag (by kernel_rfl) ?_;simp only[go_sem];refine Bl ho rfl ?_;simp only[go_sem,qa,h1];exact Ap rfl rfl
  have b1:(V4 op==(l.length:Int))=true:=by simpa using h1
  rw[b1]at hR
  have lt:∀ {a:Int},decide (0<=a)=!decide (a<0):=fun {a}=>by
   by_cases h:0<=a
   .rw[decide_eq_true h,decide_eq_false (by omega)];rfl
   .rw[decide_eq_false h,decide_eq_true (by omega)];rfl
  cases nb<;>cases h2:(nm==[])
  .rw[h2]at hR;subst hR;simp only[go_sem];refine Ag (by kernel_rfl) ?_;simp only[go_sem];refine Bl ho rfl ?_;simp only[go_sem,qa,h1,h2,Ax,Ar,beq_self_eq_true,I6,I7];exact Ap rfl rfl
  .rw[h2]at hR;cases h4:decide (n<0);rotate_left
   .rw[lt,h4]at hR;simp only[Ar,Tn,Wg]at hR;subst hR;simp only[go_sem];refine Ag (by kernel_rfl) ?_;simp only[go_sem];refine Bl ho rfl ?_;simp only[go_sem,qa,h1,h2,Ax,Ar,beq_self_eq_true,I6,I7,h4];exact Ap rfl rfl
   rw[lt,h4]at hR;cases h5:(op==1);rotate_left
   .rw[h5]at hR;have qo:(op != 1)=false:=by simp[bne,h5]
    simp only[go_sem];refine Ag (by kernel_rfl) ?_;simp only[go_sem];refine Bl ho rfl ?_;simp only[go_sem,qa,h1,h2,Ax,Ar,beq_self_eq_true,I6,I7,h4,qo];exact hk _ _ ⟨⟨rfl,rfl⟩,by rw[hR];rfl⟩
   rw[h5]at hR;have qo:(op != 1)=true:=by simp[bne,h5]
   cases h6:(n==0)
   .rw[h6]at hR;have qy:(n != 0)=true:=by simp[bne,h6]
    simp only[Ax,Ar,Wg,Bool.or_false,Tn]at hR;subst hR;simp only[go_sem];refine Ag (by kernel_rfl) ?_;simp only[go_sem];refine Bl ho rfl ?_;simp only[go_sem,qa,h1,h2,Ax,Ar,beq_self_eq_true,I6,I7,h4,qo,qy];exact Ap rfl rfl
   rw[h6]at hR;have qy:(n != 0)=false:=by simp[bne,h6]
   simp only[go_sem];refine Ag (by kernel_rfl) ?_;simp only[go_sem];refine Bl ho rfl ?_;simp only[go_sem,qa,h1,h2,Ax,Ar,beq_self_eq_true,I6,I7,h4,qo,qy];exact hk _ _ ⟨⟨rfl,rfl⟩,by rw[hR];rfl⟩
  .rw[h2]at hR;cases h3:Bv nm
   .rw[h3]at hR qD;subst hR;simp only[go_sem];refine Ag (by kernel_rfl) ?_;simp only[go_sem];refine Bl ho rfl ?_;simp only[go_sem,qa,h1,h2,Ax,Ar,beq_self_eq_true,I6,I7];refine Bl qD rfl ?_;simp only[go_sem,qa,h1,h2,Ax,Ar,beq_self_eq_true,I6,I7];exact Ap rfl rfl
   rw[h3]at hR qD;cases h4:decide (n<0);rotate_left
   .rw[lt,h4]at hR;simp only[Ar,Tn,Wg]at hR;subst hR;simp only[go_sem];refine Ag (by kernel_rfl) ?_;simp only[go_sem];refine Bl ho rfl ?_;simp only[go_sem,qa,h1,h2,Ax,Ar,beq_self_eq_true,I6,I7];refine Bl qD rfl ?_;simp only[go_sem,qa,h1,h2,Ax,Ar,beq_self_eq_true,I6,I7,h4];exact Ap rfl rfl
   rw[lt,h4]at hR;cases h5:(op==1);rotate_left
   .rw[h5]at hR;have qo:(op != 1)=false:=by simp[bne,h5]
    simp only[go_sem];refine Ag (by kernel_rfl) ?_;simp only[go_sem];refine Bl ho rfl ?_;simp only[go_sem,qa,h1,h2,Ax,Ar,beq_self_eq_true,I6,I7];refine Bl qD rfl ?_;simp only[go_sem,qa,h1,h2,Ax,Ar,beq_self_eq_true,I6,I7,h4,qo];exact hk _ _ ⟨⟨rfl,rfl⟩,by rw[hR];rfl⟩
   rw[h5]at hR;have qo:(op != 1)=true:=by simp[bne,h5]
   cases h6:(n==0)
   .rw[h6]at hR;have qy:(n != 0)=true:=by simp[bne,h6]
    simp only[Ax,Ar,Wg,Bool.or_false,Tn]at hR;subst hR;simp only[go_sem];refine Ag (by kernel_rfl) ?_;simp only[go_sem];refine Bl ho rfl ?_;simp only[go_sem,qa,h1,h2,Ax,Ar,beq_self_eq_true,I6,I7];refine Bl qD rfl ?_;simp only[go_sem,qa,h1,h2,Ax,Ar,beq_self_eq_true,I6,I7,h4,qo,qy];exact Ap rfl rfl
   rw[h6]at hR;have qy:(n != 0)=false:=by simp[bne,h6]
   simp only[go_sem];refine Ag (by kernel_rfl) ?_;simp only[go_sem];refine Bl ho rfl ?_;simp only[go_sem,qa,h1,h2,Ax,Ar,beq_self_eq_true,I6,I7];refine Bl qD rfl ?_;simp only[go_sem,qa,h1,h2,Ax,Ar,beq_self_eq_true,I6,I7,h4,qo,qy];exact hk _ _ ⟨⟨rfl,rfl⟩,by rw[hR];rfl⟩
  .rw[h2]at hR;subst hR;simp only[go_sem];refine Ag (by kernel_rfl) ?_;simp only[go_sem];refine Bl ho rfl ?_;simp only[go_sem,qa,h1,h2,Ax,Ar,beq_self_eq_true,I6,I7];exact Ap rfl rfl
 rintro e σ ⟨⟨rfl,rfl⟩,hR⟩;simp only[go_sem];refine B3 (α:=Nat) (fun i=>l.length - i) (fun i=>[(1,.ptr 0 0 0),(4,iV (i:Int))]) (fun _=>[.row [iV op,iV n,.str nm,SL z t (l.map Xp.row)] 76 0 0]) (fun i=>i<=l.length/\l.all Gq=(l.drop i).all Gq) ?_ 0 ⟨A0 _,rfl⟩;rintro i ⟨hi,qb⟩ jh;refine B4 (by delta lp121_0;exact rfl) ?_;by_cases hc:i<l.length
 .have f1:((i:Int)<(l.length:Int))=True:=eq_true (by omega);have qI:=Bk (show i<9223372036854775807 by omega);obtain⟨a,ha⟩:∃ a,l[i]?=some a:=⟨_,A2 hc⟩;have jM:=Bb a;have kg:=Dm a;have hf:=ih a (Hx ha);have jL:(l.map Xp.row)[i]?=some [iV a.op,iV a.n,.str a.nm,SL a.z a.t (a.l.map Xp.row)]:=by rw[Av,ha,Fr,jM]
  have kk:l.drop i=a::l.drop (i+1):=by rw[Gr hc,(Aq.1 ha).2]
  rw[kk,As]at qb;rw[jM]at hf kg;cases hab:Gq a
  .rw[hab]at hf qb;rw[qb]at hR;subst hR;simp only[go_sem,qa,f1,jL];refine Ad hf (by simp only[go_sem]) ?_;simp only[go_sem];exact Ap rfl rfl
  .rw[hab]at hf qb;simp only[go_sem,qa,f1,jL];refine Ad hf (by simp only[go_sem]) ?_;simp only[go_sem,qI];exact Bg (jh (i+1) (by omega) ⟨hc,by simpa using qb⟩) rfl
 .have f1:((i:Int)<(l.length:Int))=False:=eq_false (by omega);rw[qb,Ge (by omega)]at hR;subst hR;simp only[go_sem,qa,f1];exact Ap rfl rfl
def Acd:∀ (N:Nat) (x:Xp),C2 x.row<=N->N<=1000000000->Fn TT PT 121 [.agg x.row] (.bool (Gq x))
 | 0,x,h,_=>by rw[F8]at h;omega
 | N+1,x,h,hN=>by
  have h1:=F8 x;have h2:=Jp (f:=Xp.row) (fun x=>by rw[F8];omega) x.l;refine Ays x (by omega) fun y hy=>Acd N y ?_ (by omega)
  have:=Io (f:=Xp.row) hy;omega
