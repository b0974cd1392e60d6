/- Walks: the parser's threads. -/
import Derived.Test.YthlbbjcbmojocacGreatDoorLs
set_option linter.all false
namespace Go.Proofs.YthlbbjcbmojocacGreatDoor.KM
open Go
def Agq:∀ (js:List Nat) (σ:St) (n:Nat),(∀ i∈js,n<=i)->∀ j,j<n->(σ.freeze js)[j]?=σ[j]?
 | [],_,_,_,_,_=>rfl
 | i::js,σ,n,h,j,hj=>by
  have hi:=h i C5;simp only[St.freeze]
  split
  .rw[Agq js _ n (fun k hk=>h k (C4 _ hk)) j hj,Bh (by omega)]
  .exact Agq js _ n (fun k hk=>h k (C4 _ hk)) j hj
def At7{z:Bool}{t:Nat}{A:List Tk}{f m q0:Nat}{res:List AR}{thr:Bool}{body:AC}{s:St}{R:V->Nat->Prop}(hT:TT f=some ⟨1,res,thr,body,none⟩)(hs:s[m]?=some (RO z t A q0))
  (h:∀ S,RdS s m z t A S->W TT PT [.c body] (Dd 0 [.ptr m 0 0]) (S q0) (Hd fun e' σ1=>∃ vs qr q,Cd e' σ1 res=some (.tup vs)/\vs.all H8=true/\OVs σ1 vs qr/\(∀ j∈Ah vs,s.length<=j)/\Ah qr=[]/\RW s σ1 m z t A q/\q<=A.length/\R (.tup qr) q)):RT f [] s m z t A R:=by
 have h:=h _ (Asg z t A (Ak.1 hs).1);rw[Mk hs]at h;obtain⟨e',σ1,hE,vs,qr,q,hr,km,kn,jm,kt,hw,hq,hR⟩:=h;have kf:=Agq (Ah vs) σ1 s.length jm;have ja:RW s (σ1.freeze (Ah vs)) m z t A q:=Rc hw (by rw[Pe];exact hw.1) kf;refine⟨_,q,?_,hq,hR⟩;rw[<-Ash ja];refine Ans hT rfl rfl ⟨e',σ1,hE,.tup vs,Ah vs,hr,km,?_,?_,Asi ja,rfl⟩
 .exact congrArg (Option.map V.tup) (Yz kn fun j hj=>hj)
 .show E4 s.length [] (Ah qr)=true;rw[kt];rfl
def Awv{s:St}{m:Nat}{z:Bool}{t:Nat}{A:List Tk}{S:Nat->St}(hS:RdS s m z t A S){p0:Nat}(hs:s[m]?=some (RO z t A p0))(q:Nat)(l:St):RW s (S q++l) m z t A q:=by
 rw[hS.eq];exact Ac0 (Pv (Aio hs) q)
def Pn{s σ:St}{m:Nat}{z:Bool}{t:Nat}{A:List Tk}{q j:Nat}{x:Ob}(h:RW s σ m z t A q)(hj:s.length<=j):RW s (σ.set j x) m z t A q:=by
 have:=h.2.2.2;exact Rc h (by rw[Hi];exact h.1) fun i hi=>Bh (by omega)
def PRt(A:List Tk)(o:Option (Tp × List Tk))(v:V)(p':Nat):Prop:=match o with
 | some (x,r)=>v=.tup [.agg x.row,.bool true]/\A.drop p'=r
 | none=>∃ d0 d1 d2 d3:V,[d0,d1,d2,d3].all V.rowB=true/\v=.tup [.agg [d0,d1,d2,d3],.bool false]
def Ag9(L:List (List UInt8)):(SL true 0 (L.map L5)).rowB=true:=by
 unfold SL
 split<;>rfl
def Asj(z:Bool)(t:Nat)(xs:List (List V)):(SL z t xs).refs=[]:=by unfold SL;split<;>rfl
def Y5{σ:St}{e lo:Nat}{u:V}{L:List (List UInt8)}{nm:List UInt8}{ln:Int}{w:V}{b:Bool}(hg:GW σ 1 e lo u (L.map L5))(hw:w.rowB=true):OVs σ [.agg [.str nm,iV ln,u,w],.bool b] [.agg [.str nm,iV ln,SL true 0 (L.map L5),w],.bool b]:=
 .cons (Tv (.cons (Ff rfl) (.cons (Ff rfl) (.cons (Mp hg (by omega) (by intro r hr;obtain⟨x,-,rfl⟩:=Ct.1 hr;rfl) (by intro r hr;obtain⟨x,-,rfl⟩:=Ct.1 hr;rfl)) (.cons (Ff hw) .nil))))) (.cons (Jy rfl) .nil)
def Zk{σ:St}{e lo:Nat}{u:V}{xs:List (List V)}{nm:List UInt8}{ln:Int}{w:V}{b:Bool}(hg:GW σ 1 e lo u xs)(hw:w.rowB=true):∀ j∈Ah [.agg [.str nm,iV ln,u,w],.bool b],lo<=j:=by
 have ky:=Vg hw;intro j hj;simp only[Ah,V.refs,ky,B3,Cr]at hj;rcases hg with⟨rfl,-⟩ | ⟨-,i,g,rfl,-,jm⟩
 .cases hj
 .simp only[V.refs,Eo]at hj;omega
def Zl{σ:St}{e lo:Nat}{u:V}{xs:List (List V)}{nm:List UInt8}{ln:Int}{w:V}{b:Bool}(hg:GW σ 1 e lo u xs)(hw:w.rowB=true):[V.agg [.str nm,iV ln,u,w],.bool b].all H8=true:=by
 have h1:=Cu hg;have h2:=Fz hw;show([V.str nm,iV ln,u,w].all V.cellB&&(H8 (.bool b)&&true))=true;rw[show([V.str nm,iV ln,u,w].all V.cellB)=true from by simp only[Aw,Bi,h1,h2];rfl];rfl
def Zm{L:List (List UInt8)}{nm:List UInt8}{ln:Int}{w:V}{b:Bool}(hw:w.rowB=true):Ah [.agg [.str nm,iV ln,SL true 0 (L.map L5),w],.bool b]=[]:=by
 simp only[Ah,V.refs,Asj,Vg hw,B3]
set_option maxHeartbeats 4000000 in
def A0n{n:Nat}{s:St}{m:Nat}{z:Bool}{t:Nat}{A:List Tk}{p:Nat}(hA:OkA A)(hT:D2 A)(hs:s[m]?=some (RO z t A p))(hp:p<A.length)(hf:10*(A.length - p)+2<=n):RT 71 [] s m z t A (PRt A (Uq n (A.drop p))):=by
 have hl:A.length<=1000000:=by have:=hA.len;omega
 have hm:=(Ak.1 hs).1;refine At7 T71 hs fun S hS=>?_
 have qo:=hS;have qg:=Awv qo hs;have qi:=Rh (qo.get p [.row [.str [],iV 0,.nils,.nils] 90 0 0]) hl (N6 hp);have qp:=A2 (show p<9223372036854775807 by omega);have jp:p+1<=A.length:=hp;rw[Lv hp,Uq];generalize kC:Aa A p=tk at qi
 cases hn:Df (A.drop (p+1)) with
 | none=>
  have c1:=Aag qo (p:=p+1) [.row [.str [],iV 0,.nils,.nils] 90 0 0,.row [.str [],iV tk.line,.nils,.nils] 90 0 0] hl jp hn;have Zq:=Ds hS;obtain⟨-,-,qb,get,get0,set,set0,n0,n1,n2,u0,u1,u2⟩:=hS;simp only[go_sem,Zq,LZ];refine Ac qi ?_;simp only[go_sem,Zq,LZ,qp];refine Ac c1 ?_;simp only[go_sem,Zq,LZ];exact⟨_,_,_,Ci (n0 _ _ _) rfl rfl rfl,rfl,.cons (Jy rfl) (.cons (Jy rfl) .nil),(fun j hj=>by cases hj),rfl,qg _ _,jp,_,_,_,_,rfl,rfl⟩
 | some nt=>
  obtain⟨nm,ts⟩:=nt;obtain⟨c1,jn,h3⟩:=Ae9 qo (p:=p+1) [.row [.str [],iV 0,.nils,.nils] 90 0 0,.row [.str [],iV tk.line,.nils,.nils] 90 0 0] hl jp hn;simp only;rw[<-h3];unfold D4;have qH:p+1+1<=A.length:=jn;by_cases qv:Ax [40] (A.drop (p+1+1))=true
  case neg=>
   have qv:Ax [40] (A.drop (p+1+1))=false:=by simpa using qv
   rw[if_neg (by rw[qv];decide)];have c2:=Ja qo (p:=p+1+1) [.row [.str [],iV 0,.nils,.nils] 90 0 0,.row [.str nm,iV tk.line,.nils,.nils] 90 0 0] hl qH qv;have Zq:=Ds hS;obtain⟨-,-,qb,get,get0,set,set0,n0,n1,n2,u0,u1,u2⟩:=hS;simp only[go_sem,Zq,LZ];refine Ac qi ?_;simp only[go_sem,Zq,LZ,qp];refine Ac c1 ?_;simp only[go_sem,Zq,LZ];refine Ac c2 ?_;simp only[go_sem,Zq,LZ];exact⟨_,_,_,Ci (n0 _ _ _) rfl rfl rfl,rfl,.cons (Jy rfl) (.cons (Jy rfl) .nil),(fun j hj=>by cases hj),rfl,qg _ _,qH,_,_,_,_,rfl,rfl⟩
  rw[if_pos qv];simp only;rw[<-Eh];have c2:=K5 qo (p:=p+1+1) [.row [.str [],iV 0,.nils,.nils] 90 0 0,.row [.str nm,iV tk.line,.nils,.nils] 90 0 0] hl qv;have jL:p+1+1+1<=A.length:=Ec qv;unfold Aka;by_cases qw:Ax [41] (A.drop (p+1+1+1))=true
  .rw[if_pos qw];simp only;rw[<-Eh];have c3:=K5 qo (p:=p+1+1+1) [.row [.str [],iV 0,.nils,.nils] 90 0 0,.row [.str nm,iV tk.line,.nils,.nils] 90 0 0] hl qw;have ko:p+1+1+1+1<=A.length:=Ec qw;obtain⟨v,q,c4,hq,h4⟩:=Om qo (p:=p+1+1+1+1) (l:=[.row [.str [],iV 0,.nils,.nils] 90 0 0,.row [.str nm,iV tk.line,.nils,.nils] 90 0 0]) fun hs=>(Aqe n).2 _ m z t A _ hA hT hs ko (by omega)
   have Zq:=Ds hS;obtain⟨-,-,qb,get,get0,set,set0,n0,n1,n2,u0,u1,u2⟩:=hS;simp only[go_sem,Zq,LZ];refine Ac qi ?_;simp only[go_sem,Zq,LZ,qp];refine Ac c1 ?_;simp only[go_sem,Zq,LZ];refine Ac c2 ?_;simp only[go_sem,Zq,LZ];refine Ac c3 ?_;simp only[go_sem,Zq,LZ];unfold PRb at h4
   cases hb:Fm n (A.drop (p+1+1+1+1)) with
   | none=>
    rw[hb]at h4;subst h4;refine Ac c4 ?_;simp only[go_sem,Zq,LZ];exact⟨_,_,_,Ci (n0 _ _ _) rfl rfl rfl,rfl,.cons (Jy rfl) (.cons (Jy rfl) .nil),(fun j hj=>by cases hj),rfl,qg _ _,hq,_,_,_,_,rfl,rfl⟩
   | some bt=>
    obtain⟨b,kA⟩:=bt;rw[hb]at h4;obtain⟨rfl,h4⟩:=h4;have ql:=Cb b;refine Ac c4 ?_;simp only[go_sem,Zq,LZ];exact⟨_,[.agg [.str nm,iV tk.line,.nils,SL true 0 (b.map Sp.row)],.bool true],_,Ci (n0 _ _ _) rfl rfl rfl,Zl (σ:=[]) (e:=0) (lo:=0) D5 ql,Y5 (L:=[]) (e:=0) (lo:=0) D5 ql,Zk (σ:=[]) (e:=0) (lo:=s.length) (xs:=[]) D5 ql,Zm (L:=[]) ql,qg _ _,hq,rfl,h4⟩
  .have qw:Ax [41] (A.drop (p+1+1+1))=false:=by simpa using qw
   rw[if_neg (by rw[qw];decide)];have c3:=Ja qo (p:=p+1+1+1) [.row [.str [],iV 0,.nils,.nils] 90 0 0,.row [.str nm,iV tk.line,.nils,.nils] 90 0 0] hl jL qw;have Zq:=Ds hS;obtain⟨-,-,qb,get,get0,set,set0,n0,n1,n2,u0,u1,u2⟩:=hS;simp only[go_sem,Zq,LZ];refine Ac qi ?_;simp only[go_sem,Zq,LZ,qp];refine Ac c1 ?_;simp only[go_sem,Zq,LZ];refine Ac c2 ?_;simp only[go_sem,Zq,LZ];refine Ac c3 ?_;simp only[go_sem,Zq,LZ];refine Bn (α:=Nat × Nat × V × List (List UInt8) × St) (fun a=>a.1) (fun a=>[(0,.ptr m 0 0),(2,.ptr s.length 0 0),(4,.ptr (s.length+1) 0 0)]) (fun a=>a.2.2.2.2) (fun a=>a.1<=n/\a.2.1<=A.length/\A.length - a.2.1<a.1/\RW s a.2.2.2.2 m z t A a.2.1/\a.2.2.2.2[s.length]?=some (.row [.str [],iV 0,.nils,.nils] 90 0 0)/\a.2.2.2.2[s.length+1]?=some (.row [.str nm,iV tk.line,a.2.2.1,.nils] 90 0 0)/\GW a.2.2.2.2 1 9 (s.length+2) a.2.2.1 (a.2.2.2.1.map L5)/\L8 n (A.drop (p+1+1+1))=(L8 a.1 (A.drop a.2.1)).map (fun y=>(a.2.2.2.1++y.1,y.2))/\a.2.2.2.1.length<=a.2.1/\s.length+2<=a.2.2.2.2.length/\p+1<=a.2.1) ?_ (n,p+1+1+1,.nils,[],S (p+1+1+1)++[.row [.str [],iV 0,.nils,.nils] 90 0 0,.row [.str nm,iV tk.line,.nils,.nils] 90 0 0]) ⟨Ai _,jL,by simp only;omega,qg _ _,n0 _ _ _,n1 _ _ _ _,D5,by simp only[Cr];cases L8 n (A.drop (p+1+1+1))<;>rfl,by simp,by simp[qb],by simp only;omega⟩;rintro⟨k,q,u,L,σ⟩ ⟨ki,hq,jg,hw,jE,jA,hg,qa,jW,qs,qq⟩ ih;simp only at ki hq jg hw jE jA hg qa jW qs qq ih;obtain⟨k,rfl⟩:∃ j,k=j+1:=⟨k - 1,by omega⟩;have ku:∀ r∈L.map L5,r.length=1:=by intro r hr;obtain⟨x,-,rfl⟩:=Ct.1 hr;rfl
   have ka:=Cu hg;have je:∀ (τ:St) (ob:Ob),s.length+2<=τ.length->(τ.set (s.length+1) ob)[s.length+1]?=some ob:=fun τ ob h=>B5 (by omega)
   have qJ:∀ (τ:St) (ob:Ob),s.length+2<=τ.length->(τ.set s.length ob)[s.length]?=some ob:=fun τ ob h=>B5 (by omega)
   refine Bl Bhh ?_
   cases hnq:Df (A.drop q) with
   | none=>
    have d1:=(Ww hw.2.2.1 hl hq).2 hnq;have ho:L8 (k+1) (A.drop q)=none:=by rw[L8,hnq]
    rw[ho]at qa;rw[qa];simp only[go_sem];refine Ac d1 ?_;simp only[go_sem,jA,jE,ka];exact⟨_,[.agg [.str nm,iV tk.line,SL true 0 ((L).map L5),.nils],.bool false],q,Ci (qJ _ _ (qs)) rfl rfl rfl,Zl hg rfl,Y5 (Ft hg (by omega)) rfl,(fun j hj=>by have:=Zk hg rfl j hj;omega),Zm rfl,Pn hw (Ai _),hq,_,_,_,_,by simp only[Aw,Bi,Ag9];rfl,rfl⟩
   | some wr=>
    obtain⟨w,r⟩:=wr;obtain⟨d1,jo,jO⟩:=(Ww hw.2.2.1 hl hq).1 w r hnq
    have ho:L8 (k+1) (A.drop q)=if Ax [44] r then(match L8 k r.tail with
      | none=>none
      | some (l,r)=>some (w::l,r)) else(D4 [41] r).map fun ts=>([w],ts):=by
     rw[L8,hnq];rfl
    rw[ho]at qa;have jP:=Pv hw (q+1);have jI:GW (σ.set m (RO z t A (q+1))) 1 9 (s.length+2) u (L.map L5):=Ft hg (by omega);have kj:(σ.set m (RO z t A (q+1))).length=σ.length:=Hi;have jR:(σ.set m (RO z t A (q+1)))[s.length]?=some (.row [.str [],iV 0,.nils,.nils] 90 0 0):=by rw[Bh (by omega)];exact jE
    have qU:(σ.set m (RO z t A (q+1)))[s.length+1]?=some (.row [.str nm,iV tk.line,u,.nils] 90 0 0):=by rw[Bh (by omega)];exact jA
    generalize σ.set m (RO z t A (q+1))=τ1 at d1 jP jI kj jR qU;obtain⟨u',τ2,ha,jJ,kB,-,qh⟩:=Hl (bytes:=16) (y:=.lst 1 [[.str w]]) (ys:=[[.str w]]) jI (by omega) rfl (by omega) ku (by simp) (by simp;omega);have ja:RW s τ2 m z t A (q+1):=Rc jP (by omega) fun j hj=>qh j (by omega)
    have qf:=Cu jJ;obtain⟨qz,qy⟩:=Ago qf;obtain⟨τ3,e3⟩:∃ τ:St,τ=τ2.set (s.length+1) (.row [.str nm,iV tk.line,u',.nils] 90 0 0):=⟨_,rfl⟩;have qu:RW s τ3 m z t A (q+1):=by rw[e3];exact Rc ja (by rw[Hi];omega) fun j hj=>Bh (by omega)
    have qO:GW τ3 1 9 (s.length+2) u' ((L++[w]).map L5):=by rw[e3,Dw];exact Ft jJ (by omega)
    have jk:s.length+2<=τ3.length:=by rw[e3,Hi];omega
    have jD:τ3[s.length]?=some (.row [.str [],iV 0,.nils,.nils] 90 0 0):=by rw[e3,Bh (by omega),qh _ (by omega)];exact jR
    have jz:τ3[s.length+1]?=some (.row [.str nm,iV tk.line,u',.nils] 90 0 0):=by rw[e3];exact je _ _ (by omega)
    have jy:τ2[s.length+1]?=some (.row [.str nm,iV tk.line,u,.nils] 90 0 0):=by rw[qh _ (by omega)];exact qU
    have jw:q+1<=A.length:=jo;by_cases qm:Ax [44] r=true
    .rw[if_pos qm]at qa;rw[<-jO]at qm qa;have d2:=Rr qu.2.2.1 hl qm;have qS:=Ec qm;rw[e3]at d2;simp only[go_sem];refine Ac d1 ?_;simp only[go_sem,qU,ha,jy,qf,qz,qy];refine Ac d2 ?_;rw[<-e3];simp only[go_sem];refine As (ih (k,q+1+1,u',L++[w],τ3.set m (RO z t A (q+1+1))) (by simp) ⟨by simp only;omega,qS,by simp only;omega,Pv qu _,by simp only;rw[Bh (by omega)];exact jD,by simp only;rw[Bh (by omega)];exact jz,Ft qO (by omega),?_,by simp;omega,by simp only[Hi];exact jk,by simp only;omega⟩) rfl;simp only;rw[qa,<-Eh]
     cases L8 k (A.drop (q+1+1)) with
     | none=>rfl
     | some y=>simp
    .have qm:Ax [44] r=false:=by simpa using qm
     rw[if_neg (by rw[qm];decide)]at qa;rw[<-jO]at qm qa;have d2:=Rt qu.2.2.1 hl jw qm;rw[e3]at d2;unfold D4 at qa;by_cases qe:Ax [41] (A.drop (q+1))=true
     .rw[if_pos qe]at qa;simp only[Gb]at qa;rw[qa];simp only;rw[<-Eh];have d3:=Rr qu.2.2.1 hl qe;have qR:=Ec qe;have kx:=Pv qu (q+1+1);obtain⟨v,q5,d4,jN,h5⟩:=(Aqe n).2 (τ3.set m (RO z t A (q+1+1))) m z t A (q+1+1) hA hT kx.2.2.1 qR (by omega);rw[Qv]at d4;have jC:=Pv qu q5;have qB:GW (τ3.set m (RO z t A q5)) 1 9 (s.length+2) u' ((L++[w]).map L5):=Ft qO (by omega);have qQ:s.length+2<=(τ3.set m (RO z t A q5)).length:=by rw[Hi];exact jk
      have jS:(τ3.set m (RO z t A q5))[s.length]?=some (.row [.str [],iV 0,.nils,.nils] 90 0 0):=by rw[Bh (by omega)];exact jD
      have jB:(τ3.set m (RO z t A q5))[s.length+1]?=some (.row [.str nm,iV tk.line,u',.nils] 90 0 0):=by rw[Bh (by omega)];exact jz
      generalize τ3.set m (RO z t A q5)=τ5 at d4 jC qB qQ jS jB;have jT:∀ ob:Ob,(τ5.set (s.length+1) ob)[s.length]?=some (.row [.str [],iV 0,.nils,.nils] 90 0 0):=fun ob=>by rw[Bh (by omega)];exact jS
      rw[e3]at d3;unfold PRb at h5;simp only[go_sem];refine Ac d1 ?_;simp only[go_sem,qU,ha,jy,qf,qz,qy];refine Ac d2 ?_;simp only[go_sem];refine Ac d3 ?_;rw[<-e3];simp only[go_sem]
      cases hb:Fm n (A.drop (q+1+1)) with
      | none=>
       rw[hb]at h5;subst h5;refine Ac d4 ?_;simp only[go_sem,jB,je _ _ qQ,jT,qf];exact⟨_,[.agg [.str nm,iV tk.line,SL true 0 ((L++[w]).map L5),.nils],.bool false],q5,Ci (qJ _ _ (by rw[Hi];exact qQ)) rfl rfl rfl,Zl qB rfl,Y5 (Ft (Ft qB (by omega)) (by omega)) rfl,(fun j hj=>by have:=Zk qB rfl j hj;omega),Zm rfl,Pn (Pn jC (by omega)) (Ai _),jN,_,_,_,_,by simp only[Aw,Bi,Ag9];rfl,rfl⟩
      | some bt=>
       obtain⟨b,kA⟩:=bt;rw[hb]at h5;obtain⟨rfl,h5⟩:=h5;have ql:=Cb b;have jZ:=Fz ql;refine Ac d4 ?_;simp only[go_sem,jB,je _ _ qQ,jT,qf,jZ];exact⟨_,[.agg [.str nm,iV tk.line,SL true 0 ((L++[w]).map L5),SL true 0 (b.map Sp.row)],.bool true],q5,Ci (qJ _ _ (by rw[Hi];exact qQ)) rfl rfl rfl,Zl qB ql,Y5 (Ft (Ft qB (by omega)) (by omega)) ql,(fun j hj=>by have:=Zk qB ql j hj;omega),Zm ql,Pn (Pn jC (by omega)) (Ai _),jN,rfl,h5⟩
     .have qe:Ax [41] (A.drop (q+1))=false:=by simpa using qe
      rw[if_neg (by rw[qe];decide)]at qa;simp only[Option.map_none]at qa;rw[qa];have d3:=Rt qu.2.2.1 hl jw qe;rw[e3]at d3;simp only[go_sem];refine Ac d1 ?_;simp only[go_sem,qU,ha,jy,qf,qz,qy];refine Ac d2 ?_;simp only[go_sem];refine Ac d3 ?_;rw[<-e3];simp only[go_sem,jz,jD,qf];exact⟨_,[.agg [.str nm,iV tk.line,SL true 0 ((L++[w]).map L5),.nils],.bool false],(q+1),Ci (qJ _ _ (jk)) rfl rfl rfl,Zl qO rfl,Y5 (Ft qO (by omega)) rfl,(fun j hj=>by have:=Zk qO rfl j hj;omega),Zm rfl,Pn qu (Ai _),jw,_,_,_,_,by simp only[Aw,Bi,Ag9];rfl,rfl⟩
def PRg(A:List Tk)(o:Option (Gp × List Tk))(v:V)(p':Nat):Prop:=match o with
 | some (x,r)=>v=.tup [.agg x.row,.bool true]/\A.drop p'=r
 | none=>∃ d0 d1:V,[d0,d1].all V.rowB=true/\v=.tup [.agg [d0,d1],.bool false]
structure PS (s σ:St) (m:Nat) (z:Bool) (t:Nat) (A:List Tk) (q:Nat) (u1 u2:V) (D:List Dp) (L:List Tp):Prop where
 rw:RW s σ m z t A q
 len:s.length+2<=σ.length
 z2:σ[s.length]?=some (.row [.nils,.nils] 29 0 0)
 p:σ[s.length+1]?=some (.row [u1,u2] 29 0 0)
 g1:GW σ 6 86 (s.length+2) u1 (D.map Dp.row)
 g2:GW σ 4 90 (s.length+2) u2 (L.map Tp.row)
def At8{s σ:St}{m:Nat}{z:Bool}{t:Nat}{A:List Tk}{q:Nat}{u1 u2:V}{D:List Dp}{L:List Tp}(h:PS s σ m z t A q u1 u2 D L)(q':Nat):PS s (σ.set m (RO z t A q')) m z t A q' u1 u2 D L:=by
 have hm:=h.rw.2.2.2;exact⟨Pv h.rw q',by rw[Hi];exact h.len,by rw[Bh (by omega)];exact h.z2,by rw[Bh (by omega)];exact h.p,Ft h.g1 (by omega),Ft h.g2 (by omega)⟩
def Ac1{s σ l:St}{m:Nat}{z:Bool}{t:Nat}{A:List Tk}{q:Nat}{u1 u2:V}{D:List Dp}{L:List Tp}(h:PS s σ m z t A q u1 u2 D L):PS s (σ++l) m z t A q u1 u2 D L:=
 ⟨Ac0 h.rw,by have:=h.len;simp;omega,Bx h.z2,Bx h.p,Gk h.g1,Gk h.g2⟩
def A8h{s σ:St}{m:Nat}{z:Bool}{t:Nat}{A:List Tk}{q:Nat}{u1 u2:V}{D:List Dp}{L:List Tp}(h:PS s σ m z t A q u1 u2 D L)(d:Dp)(hb:D.length<=1000000):
  ∃ u' σ',D6 64 (6,86) u1 (.lst 1 [d.row]) σ=some (u',σ')/\u'.cellB=true/\σ'[s.length+1]?=some (.row [u1,u2] 29 0 0)/\PS s (σ'.set (s.length+1) (.row [u',u2] 29 0 0)) m z t A q u' u2 (D++[d]) L:=by
 obtain⟨u',σ',ha,hg,hl,jj,qh⟩:=Hl (bytes:=64) (y:=.lst 1 [d.row]) (ys:=[d.row]) h.g1 h.len rfl (by omega) (Aby D) (by simp;rfl) (by simp;omega);have qb:=h.len;have hp:σ'[s.length+1]?=some (.row [u1,u2] 29 0 0):=by rw[qh _ (by omega)];exact h.p
 refine⟨u',σ',ha,Cu hg,hp,Pn (Rc h.rw (by omega) fun j hj=>qh j (by omega)) (by omega),by rw[Hi];omega,?_,B5 (by omega),?_,?_⟩
 .rw[Bh (by omega),qh _ (by omega)];exact h.z2
 .rw[Dw];exact Ft hg (by omega)
 .exact Ft (At0 (by decide) (At1 h.g1) h.g2 jj) (by omega)
def Bcx{s σ:St}{m:Nat}{z:Bool}{t:Nat}{A:List Tk}{q:Nat}{u1 u2:V}{D:List Dp}{L:List Tp}(h:PS s σ m z t A q u1 u2 D L)(d:Tp)(hb:L.length<=1000000):
  ∃ u' σ',D6 72 (4,90) u2 (.lst 1 [d.row]) σ=some (u',σ')/\u'.cellB=true/\σ'[s.length+1]?=some (.row [u1,u2] 29 0 0)/\PS s (σ'.set (s.length+1) (.row [u1,u'] 29 0 0)) m z t A q u1 u' D (L++[d]):=by
 obtain⟨u',σ',ha,hg,hl,jj,qh⟩:=Hl (bytes:=72) (y:=.lst 1 [d.row]) (ys:=[d.row]) h.g2 h.len rfl (by omega) (Tb L) (by simp;rfl) (by simp;omega);have qb:=h.len;have hp:σ'[s.length+1]?=some (.row [u1,u2] 29 0 0):=by rw[qh _ (by omega)];exact h.p
 refine⟨u',σ',ha,Cu hg,hp,Pn (Rc h.rw (by omega) fun j hj=>qh j (by omega)) (by omega),by rw[Hi];omega,?_,B5 (by omega),?_,?_⟩
 .rw[Bh (by omega),qh _ (by omega)];exact h.z2
 .exact Ft (At0 (by decide) (At1 h.g2) h.g1 jj) (by omega)
 .rw[Dw];exact Ft hg (by omega)
def Adw{s σ:St}{m:Nat}{z:Bool}{t:Nat}{A:List Tk}{q:Nat}{u1 u2:V}{D:List Dp}{L:List Tp}(h:PS s σ m z t A q u1 u2 D L){e':Env}{b:Bool}{R:V->Nat->Prop}(kc:e'.get 2=.ptr s.length 0 0)(ke:e'.get 3=.bool b)(hq:q<=A.length)(hR:R (.tup [.agg [SL true 0 (D.map Dp.row),SL true 0 (L.map Tp.row)],.bool b]) q):
  ∃ vs qr q,Cd e' (σ.set s.length (.row [u1,u2] 29 0 0)) [AR.cell 2 2 false,AR.tmp 3]=some (.tup vs)/\vs.all H8=true/\OVs (σ.set s.length (.row [u1,u2] 29 0 0)) vs qr/\(∀ j∈Ah vs,s.length<=j)/\Ah qr=[]/\RW s (σ.set s.length (.row [u1,u2] 29 0 0)) m z t A q/\q<=A.length/\R (.tup qr) q:=by
 have qb:=h.len;have c1:=Cu h.g1;have c2:=Cu h.g2;refine⟨[.agg [u1,u2],.bool b],[.agg [SL true 0 (D.map Dp.row),SL true 0 (L.map Tp.row)],.bool b],q,Ci (B5 (by omega)) kc rfl ke,?_,?_,?_,?_,Pn h.rw (Ai _),hq,hR⟩
 .show([u1,u2].all V.cellB&&(H8 (.bool b)&&true))=true;simp only[Aw,Bi,c1,c2];rfl
 .exact .cons (Tv (.cons (Mp (Ft h.g1 (by omega)) (by omega) (Aby D) (Ag6 D)) (.cons (Mp (Ft h.g2 (by omega)) (by omega) (Tb L) (Abz L)) .nil))) (.cons (Jy rfl) .nil)
 .intro j hj;simp only[Ah,V.refs,B3,B8]at hj
  have k1:∀ {w:V} {mm e:Nat} {xs:List (List V)},GW σ mm e (s.length+2) w xs->∀ j∈w.refs,s.length<=j:=by
   intro w mm e xs hg j hj;rcases hg with⟨rfl,-⟩ | ⟨-,i,g,rfl,-,jm⟩
   .cases hj
   .simp only[V.refs,Eo]at hj;omega
  rcases hj with hj | hj
  .exact k1 h.g1 j hj
  .exact k1 h.g2 j hj
 .simp only[Ah,V.refs,Asj,B3]
set_option maxHeartbeats 4000000 in
def Ayw{s:St}{m:Nat}{z:Bool}{t:Nat}{A:List Tk}(hA:OkA A)(hT:D2 A)(hs:s[m]?=some (RO z t A 0)):RT 40 [] s m z t A (PRg A (Z1 A)):=by
 have hl:A.length<=1000000:=by have:=hA.len;omega
 have hm:=(Ak.1 hs).1;refine At7 T40 hs fun S hS=>?_
 have qg:=Awv hS hs;have jt:PS s (S 0++[.row [.nils,.nils] 29 0 0,.row [.nils,.nils] 29 0 0]) m z t A 0 .nils .nils [] []:=⟨qg _ _,by simp[hS.len],hS.n0 _ _ _,hS.n1 _ _ _ _,D5,D5⟩;have Zq:=Ds hS;obtain⟨-,-,qb,get,get0,set,set0,n0,n1,n2,u0,u1,u2⟩:=hS;have jU:A.drop 0=A:=I4;simp only[go_sem,Zq,LZ];refine Bn (α:=Nat × Nat × V × List Dp × St) (fun a=>a.1) (fun a=>[(0,.ptr m 0 0),(2,.ptr s.length 0 0),(4,.ptr (s.length+1) 0 0)]) (fun a=>a.2.2.2.2) (fun a=>a.2.1<=A.length/\A.length - a.2.1<a.1/\PS s a.2.2.2.2 m z t A a.2.1 a.2.2.1 .nils a.2.2.2.1 []/\Lu (A.length+1) A=(Lu a.1 (A.drop a.2.1)).map (fun y=>(a.2.2.2.1++y.1,y.2))/\a.2.2.2.1.length<=a.2.1) ?_ (A.length+1,0,.nils,[],S 0++[.row [.nils,.nils] 29 0 0,.row [.nils,.nils] 29 0 0]) ⟨Au _,by simp only;omega,jt,by simp only[Cr,jU];cases Lu (A.length+1) A<;>rfl,by simp⟩;rintro⟨k,q,v1,D,σ⟩ ⟨hq,jg,qI,qa,jV⟩ ih;simp only at hq jg qI qa jV ih;obtain⟨k,rfl⟩:∃ j,k=j+1:=⟨k - 1,by omega⟩;refine Bl Bg4 ?_;have qi:=Rh qI.rw.2.2.1 hl hq;have qA:=Ami (Aa A q).text;have qJ:∀ (τ:St) (ob:Ob),s.length+2<=τ.length->(τ.set s.length ob)[s.length]?=some ob:=fun τ ob h=>B5 (by omega)
 have qP:Rg (A.drop q)=((Aa A q).kind==3&&Hc (Aa A q).text != 0):=by
  rcases Be q A.length with h | h
  .rw[Lv h];rfl
  .rw[(J3 h).1,(J3 h).2];rfl
 by_cases hd:Rg (A.drop q)=true
 .have kr:q<A.length:=by
   rcases Be q A.length with h | h
   .exact h
   .rw[(J3 h).1]at hd;cases hd
  rw[qP,Af]at hd;obtain⟨qM,qN⟩:=hd;obtain⟨v,q2,c1,qY,h3⟩:=Ayv hA hT qI.rw.2.2.1 hq (by rw[qP,qM,qN];rfl);have qD:=At8 qI q2
  have jq:Lu (k+1) (A.drop q)=match Uj (A.drop q) with
    | none=>none
    | some (d,r)=>match Lu k r with
     | none=>none
     | some (l,r)=>some (d::l,r):=by
   rw[Lu,if_pos (by rw[qP,qM,qN];rfl)];rfl
  rw[jq]at qa;unfold PRd at h3;generalize σ.set m (RO z t A q2)=τ at c1 qD;have qV:∀ a:Ob,(τ++[a])[τ.length]?=some a:=fun a=>by simp
  have qW:∀ a b:Ob,(τ++[a]).set τ.length b=τ++[b]:=fun a b=>by simp[I3]
  cases qq:Uj (A.drop q) with
  | none=>
   rw[qq]at h3 qa;obtain⟨_,⟨e0,e1,e2,e3,e4,e5,rfl,hb⟩,rfl⟩:=h3;have qj:PS s (τ++[.row [e0,e1,e2,e3,e4,e5] 86 0 0]) m z t A q2 v1 .nils D []:=Ac1 qD;have hz:=qj.z2;have hp:=qj.p;have qF:=Cu qI.g1;simp only[go_sem];refine Ac qi ?_;simp only[go_sem,qM];refine Ac qi ?_;simp only[go_sem];refine Ad qA rfl ?_;simp only[go_sem,qN];refine Ac c1 ?_;simp only[go_sem,qV,qW,Adv hb,hz,hp,qF];refine Adw qj rfl rfl qY ?_;unfold Z1;rw[qa];exact⟨_,_,by simp only[Aw,Bi,Tr];rfl,rfl⟩
  | some dr=>
   obtain⟨d,r⟩:=dr;rw[qq]at h3 qa;obtain⟨rfl,h3⟩:=h3
   have kk:r.length<A.length - q:=by
    have:=(Amg (C:=100) (by omega) (Dg hT (Xs q A)) (by rw[qP,qM,qN];rfl) qq).2.2.1;rw[D1]at this;exact this
   have kv:r.length=A.length - q2:=by rw[<-h3,D1]
   have qj:PS s (τ++[.row d.row 86 0 0]) m z t A q2 v1 .nils D []:=Ac1 qD;obtain⟨w1,τ2,ha,hc,qH,qd⟩:=A8h qj d (by omega);obtain⟨qz,qy⟩:=Ago hc;have hp:=qj.p;have jH:d.row=[iV d.kind,iV d.line,.str d.nm,iV d.size,iV d.init,.str d.on]:=rfl;rw[jH]at c1 ha;simp only[jH]at hp;simp only[go_sem];refine Ac qi ?_;simp only[go_sem,qM];refine Ac qi ?_;simp only[go_sem];refine Ad qA rfl ?_;simp only[go_sem,qN];refine Ac c1 ?_;simp only[go_sem,qV,qW,hp,ha,qH,hc,qz,qy];refine As (ih (k,q2,w1,D++[d],τ2.set (s.length+1) (.row [w1,.nils] 29 0 0)) (by simp) ⟨qY,by simp only;omega,qd,?_,by simp;omega⟩) rfl;simp only;rw[qa,h3];simp only
   cases Lu k r with
   | none=>rfl
   | some y=>simp
 .have hd:Rg (A.drop q)=false:=by simpa using hd
  have jq:Lu (k+1) (A.drop q)=some ([],A.drop q):=by rw[Lu,if_neg (by rw[hd];decide)]
  rw[jq]at qa;simp only[Gb,B3]at qa;rw[qP]at hd
  have kg:∀ P:Prop,((Aa A q).kind==3)=false\/(((Aa A q).kind==3)=true/\(Hc (Aa A q).text != 0)=false):=fun _=>by
   cases h:((Aa A q).kind==3)
   .exact .inl rfl
   .rw[h]at hd;exact .inr ⟨rfl,by simpa using hd⟩
  unfold Z1;rw[qa];simp only;rcases kg True with hk | ⟨hk,qh⟩
  case' inl=>simp only[go_sem]
  case' inl=>refine Ac qi ?_
  case' inl=>simp only[go_sem,hk]
  case' inr=>simp only[go_sem]
  case' inr=>refine Ac qi ?_
  case' inr=>simp only[go_sem,hk]
  case' inr=>refine Ac qi ?_
  case' inr=>simp only[go_sem]
  case' inr=>refine Ad qA rfl ?_
  case' inr=>simp only[go_sem,qh]
  all_goals
   refine Bn (α:=Nat × Nat × V × List Tp × St) (fun a=>a.1) (fun a=>[(0,.ptr m 0 0),(2,.ptr s.length 0 0),(4,.ptr (s.length+1) 0 0)]) (fun a=>a.2.2.2.2) (fun a=>a.2.1<=A.length/\A.length - a.2.1<a.1/\PS s a.2.2.2.2 m z t A a.2.1 v1 a.2.2.1 D a.2.2.2.1/\Lw (Mr A.length) (A.length+1) (A.drop q)=(Lw (Mr A.length) a.1 (A.drop a.2.1)).map (fun y=>(a.2.2.2.1++y.1,y.2))/\a.2.2.2.1.length<=a.2.1) ?_ (A.length+1,q,.nils,[],σ) ⟨hq,by simp only;omega,qI,by simp only[Cr];cases Lw (Mr A.length) (A.length+1) (A.drop q)<;>rfl,by simp⟩;rintro⟨k2,q3,v2,L,σ2⟩ ⟨qZ,ji,qd,qc,jf⟩ jh;simp only at qZ ji qd qc jf jh;obtain⟨k2,rfl⟩:∃ j,k2=j+1:=⟨k2 - 1,by omega⟩;refine Bl Bg5 ?_;have qG:=Akf qd.rw.2.2.1 hl qZ Ae7;have qF:=Cu qd.g1;have kw:=Cu qd.g2;by_cases ht:Ax Ae7 (A.drop q3)=true
   .rw[ht]at qG
    have qT:=Ec ht;obtain⟨v,q4,c1,jM,h3⟩:=A0n (n:=Mr A.length) hA hT qd.rw.2.2.1 qT (by unfold Mr;omega);have qE:=At8 qd q4
    have jv:Lw (Mr A.length) (k2+1) (A.drop q3)=match Uq (Mr A.length) (A.drop q3) with
      | none=>none
      | some (x,r)=>match Lw (Mr A.length) k2 r with
       | none=>none
       | some (l,r)=>some (x::l,r):=by
     rw[Lw,if_pos ht];rfl
    rw[jv]at qc;unfold PRt at h3;generalize σ2.set m (RO z t A q4)=τ at c1 qE;have qV:∀ a:Ob,(τ++[a])[τ.length]?=some a:=fun a=>by simp
    have qW:∀ a b:Ob,(τ++[a]).set τ.length b=τ++[b]:=fun a b=>by simp[I3]
    cases qq:Uq (Mr A.length) (A.drop q3) with
    | none=>
     rw[qq]at h3 qc;obtain⟨e0,e1,e2,e3,hb,rfl⟩:=h3;have qk:PS s (τ++[.row [e0,e1,e2,e3] 90 0 0]) m z t A q4 v1 v2 D L:=Ac1 qE;have hz:=qk.z2;have hp:=qk.p
     have jY:(e0.cellB&&(e1.cellB&&(e2.cellB&&e3.cellB)))=true:=by
      simp only[Aw,Bi,Af]at hb;simp only[Fz hb.1,Fz hb.2.1,Fz hb.2.2.1,Fz hb.2.2.2.1,Af9]
     simp only[go_sem];refine Ac qG ?_;simp only[go_sem];refine Ac c1 ?_;simp only[go_sem,qV,qW,jY,hz,hp,qF,kw];refine Adw qk rfl rfl jM ?_;rw[qc];exact⟨_,_,by simp only[Aw,Bi,Tr];rfl,rfl⟩
    | some xr=>
     obtain⟨x,r⟩:=xr;rw[qq]at h3 qc;obtain⟨rfl,h3⟩:=h3
     have kl:r.length<A.length - q3:=by
      have:=(Am0 (M:=A.length) (C:=100+8*A.length) (Ai _) (Dg hT (Xs q3 A)) (by rw[D1];omega) qq).2.2.2.2.1;rw[D1]at this;exact this
     have kv:r.length=A.length - q4:=by rw[<-h3,D1]
     have qk:PS s (τ++[.row x.row 90 0 0]) m z t A q4 v1 v2 D L:=Ac1 qE;obtain⟨w2,τ2,ha,hc,qH,ju⟩:=Bcx qk x (by omega);obtain⟨qz,qy⟩:=Ago hc;have hp:=qk.p;have jd:=Ap3 x;have jQ:x.row=[.str x.nm,iV x.line,SL x.lz x.lt (x.locals.map fun s=>[V.str s]),SL x.bz x.bt (x.body.map Sp.row)]:=rfl;rw[jQ]at c1 ha jd;simp only[jQ]at hp;simp only[go_sem];refine Ac qG ?_;simp only[go_sem];refine Ac c1 ?_;simp only[go_sem,qV,qW,hp,ha,qH,hc,qz,qy];refine As (jh (k2,q4,w2,L++[x],τ2.set (s.length+1) (.row [v1,w2] 29 0 0)) (by simp) ⟨jM,by simp only;omega,ju,?_,by simp;omega⟩) rfl;simp only;rw[qc,h3];simp only
     cases Lw (Mr A.length) k2 r with
     | none=>rfl
     | some y=>simp
   .have ht:Ax Ae7 (A.drop q3)=false:=by simpa using ht
    rw[ht]at qG
    have jv:Lw (Mr A.length) (k2+1) (A.drop q3)=some ([],A.drop q3):=by rw[Lw,if_neg (by rw[ht];decide)]
    rw[jv]at qc;simp only[Gb,B3]at qc;have hz:=qd.z2;have hp:=qd.p;rw[qc];simp only
    have qL:(v2=.nils/\L=[])\/(L≠[]/\∃ i g,v2=.sl i g 0 L.length 4 true):=by
     rcases qd.g2 with⟨h1,h2⟩ | ⟨h1,i,g,h2,-⟩
     .exact .inl ⟨h1,by simpa using h2⟩
     .exact .inr ⟨fun e=>h1 (by rw[e];rfl),i,g,by rw[h2,Ap]⟩
    rcases qL with⟨rfl,rfl⟩ | ⟨qX,i,g,rfl⟩
    .simp only[go_sem];refine Ac qG ?_;simp only[go_sem];have kq:(σ2.set s.length (.row [v1,.nils] 29 0 0))[s.length+1]?=some (.row [v1,.nils] 29 0 0):=by rw[Bh (by omega)];exact hp
     refine Ag (by kernel_rfl) ?_;simp only[go_sem,hp,hz,qF];refine Ba ?_;simp only[go_sem,qF,hz,hp];refine Adw qd rfl rfl qZ ?_;show PRg A none _ _;exact⟨_,_,by simp only[Aw,Bi,Tr];rfl,rfl⟩
    .have jK:((0:Int)<(L.length:Int))=True:=eq_true (by have:=List.length_pos_iff.2 qX;omega);simp only[go_sem];refine Ac qG ?_;simp only[go_sem];have kq:(σ2.set s.length (.row [v1,.sl i g 0 L.length 4 true] 29 0 0))[s.length+1]?=some (.row [v1,.sl i g 0 L.length 4 true] 29 0 0):=by rw[Bh (by omega)];exact hp
     refine Ag (by kernel_rfl) ?_;simp only[go_sem,hp,hz,qF,gt_iff_lt,jK];refine Ba ?_;simp only[go_sem,qF,hz,hp,gt_iff_lt,jK];refine Adw qd rfl rfl qZ ?_;rw[if_neg (by simpa using qX)];exact⟨rfl,rfl⟩
def Xf(s:List UInt8)(v:V):Prop:=match Nn s with
 | some x=>v=.tup [.agg x.row,.int .i64 0,.int .i64 0]
 | none=>∃ e ln:Int,e≠0/\v=.tup [.agg [.nils,.nils],.int .i64 e,.int .i64 ln]
def Bjz(x:Gp):x.row.all V.rowB=true:=by
 unfold Gp.row;simp only[Aw,Bi,Tr];rfl
def A3q(x:Gp):x.row=[SL x.dz x.dt (x.decls.map Dp.row),SL x.tz x.tt (x.thrs.map Tp.row)]:=rfl
def At9{a b:V}(h:[a,b].all V.rowB=true):a.cellB=true/\b.cellB=true:=by
 simp only[Aw,Bi,U5,Af]at h;exact⟨Fz h.1,Fz h.2⟩
def Ach(s:List UInt8):∃ v,Fn TT PT 14 [.str s] v/\Xf s v:=by
 obtain⟨v1,jx,hR⟩:=A74 s;refine Akd T14 rfl ?_;unfold Ake at hR;unfold Xf Nn;by_cases qK:4096<s.length
 .rw[if_pos qK]at hR ⊢;obtain⟨e,ln,he,rfl⟩:=hR;have ne:(e != 0)=true:=by simp[he]
  simp only[go_sem];refine Ad jx (by simp only[go_sem]) ?_;simp only[go_sem,ne];exact⟨.tup [.agg [.nils,.nils],iV e,iV ln],⟨_,rfl,Hk (by rfl)⟩,e,ln,he,rfl⟩
 .rw[if_neg qK]at hR ⊢
  cases hL:Ej s.length 1 s with
  | none=>
   rw[hL]at hR;obtain⟨e,ln,he,rfl⟩:=hR;have ne:(e != 0)=true:=by simp[he]
   simp only[go_sem];refine Ad jx (by simp only[go_sem]) ?_;simp only[go_sem,ne];exact⟨.tup [.agg [.nils,.nils],iV e,iV ln],⟨_,rfl,Hk (by rfl)⟩,e,ln,he,rfl⟩
  | some L=>
   rw[hL]at hR;simp only at hR;subst hR;have hA:=A3m (by omega) hL;have hT:=V4 _ _ _ _ hL;have ne:((0:Int) != 0)=false:=by decide
   have hl:L.length<=1000000:=by have:=hA.len;omega
   have h1:=Ayw (s:=[.row [.nils,.nils] 29 0 0,RO true 0 L 0]) (m:=1) (z:=true) (t:=0) hA hT rfl;obtain⟨v,q,c4,qY,h3⟩:=h1;have c4:Bv TT PT 40 [.ptr 1 0 0] [.row [.nils,.nils] 29 0 0,.row [SL true 0 (L.map Tk.row),iV 0] 80 0 0] v [.row [.nils,.nils] 29 0 0,.row [SL true 0 (L.map Tk.row),iV (q:Int)] 80 0 0]:=c4;simp only[go_sem];refine Ad jx (by simp only[go_sem]) ?_;simp only[go_sem,ne];unfold PRg at h3;have qt:∀ x:List V,∃ n:Int,Bv TT PT 41 [.ptr 1 0 0] [.row [.nils,.nils] 29 0 0,.row [SL true 0 (L.map Tk.row),iV (q:Int)] 80 0 0,.row x 29 0 0] (iV n) [.row [.nils,.nils] 29 0 0,.row [SL true 0 (L.map Tk.row),iV (q:Int)] 80 0 0,.row x 29 0 0]:=fun x=>A8d (s:=[.row [.nils,.nils] 29 0 0,RO true 0 L q,.row x 29 0 0]) (m:=1) rfl hl qY
   split at h3
   .rename_i x r ho;obtain⟨rfl,h3⟩:=h3;have jd:=Bjz x;have hr:=A3q x;rw[hr]at c4 jd;obtain⟨jb,jc⟩:=At9 jd;rw[ho];refine Ac c4 ?_;simp only[go_sem];by_cases hq:q<L.length
    .have f1:((q:Int)<(L.length:Int))=True:=eq_true (by omega);obtain⟨n,jl⟩:=qt [SL x.dz x.dt (x.decls.map Dp.row),SL x.tz x.tt (x.thrs.map Tp.row)];refine Ag (by kernel_rfl) ?_;simp only[go_sem,On,f1,jb,jc];refine Ac jl ?_;simp only[go_sem]
     have qX:r≠[]:=fun e=>by
      rw[e]at h3;have:=congrArg List.length h3;rw[D1]at this;simp at this;omega
     refine⟨.tup [.agg [.nils,.nils],iV 3,iV n],⟨_,rfl,Hk (by rfl)⟩,?_⟩
     cases r with
     | nil=>exact absurd rfl qX
     | cons a b=>exact⟨3,n,by decide,rfl⟩
    .have f1:((q:Int)<(L.length:Int))=False:=eq_false (by omega);rw[Fo (by omega)]at h3;subst h3;refine Ag (by kernel_rfl) ?_;simp only[go_sem,On,f1,jb,jc];refine⟨.tup [.agg x.row,iV 0,iV 0],?_,rfl⟩;rw[hr];exact⟨_,rfl,Hk (by simp only[go_sem,Nat.reduceEqDiff,reduceIte])⟩
   .rename_i ho;obtain⟨d0,d1,hd,rfl⟩:=h3;obtain⟨jb,jc⟩:=At9 hd;rw[ho];obtain⟨n,jl⟩:=qt [d0,d1];refine Ac c4 ?_;simp only[go_sem,jb,jc];refine Ag (by kernel_rfl) ?_;simp only[go_sem,On];refine Ac jl ?_;simp only[go_sem];exact⟨.tup [.agg [.nils,.nils],iV 3,iV n],⟨_,rfl,Hk (by rfl)⟩,3,n,by decide,rfl⟩
/-! shapes -/
def shH(op n:Int)(nm:List UInt8)(k:Nat):Bool:=
 Xe op==(k:Int)&&((op==2||op==3)==!(nm==[])&&((!(op==2||op==3)||Cc nm)&&(decide (0<=n)&&(op==1||n==0))))
mutual
def G6:Xp->Bool
 | ⟨op,n,nm,_,_,l⟩=>shH op n nm l.length&&Afa l
def Afa:List Xp->Bool
 | []=>true
 | x::l=>G6 x&&Afa l
end
def Aqf:∀ l:List Xp,Afa l=l.all G6
 | []=>rfl
 | x::l=>by rw[Afa,Aqf l];rfl
def A8i(x:Xp):G6 x=(shH x.op x.n x.nm x.l.length&&x.l.all G6):=by
 rw[<-Aqf];cases x;rfl
def Adx(x:Xp):Bool:=x.op==0&&(x.n==0&&(x.nm==[]&&x.l.isEmpty))
def Ali(s:Sp):Bool:=
 decide (1<=s.op)&&(decide (s.op<=15)&&((if Gg s.op then s.nm==[] else Cc s.nm)&&((if s.op=15 then Cc s.arg else s.arg==[]) &&
  (decide (s.idx.length<=1)&&((s.op==1||s.idx.isEmpty)&&(s.idx.all G6&&((if Ei s.op then G6 s.ex else Adx s.ex) &&
   ((B4 s.op||s.body.isEmpty)&&(s.op==2||s.els.isEmpty)))))))))
mutual
def N4:Sp->Bool
 | ⟨op,line,nm,arg,iz,it,idx,ex,bz,bt,body,ez,et,els⟩=>Ali ⟨op,line,nm,arg,iz,it,idx,ex,bz,bt,body,ez,et,els⟩&&(J8 body&&J8 els)
def J8:List Sp->Bool
 | []=>true
 | x::l=>N4 x&&J8 l
end
def Aqg:∀ l:List Sp,J8 l=l.all N4
 | []=>rfl
 | x::l=>by rw[J8,Aqg l];rfl
def A8j(s:Sp):N4 s=(Ali s&&(J8 s.body&&J8 s.els)):=by
 cases s;rfl
def Uy(d:Dp):Bool:=
 decide (1<=d.kind)&&(decide (d.kind<=6)&&(Cc d.nm&&(decide (0<=d.size)&&((d.kind==1||d.size==0)&&((if d.kind=5 then Cc d.on else d.on==[]) &&
  (decide (-9223372036854775808<d.init)&&(d.init==0||(d.kind==1||d.kind==2))))))))
def shT(t:Tp):Bool:=t.locals.all Cc&&(Cc t.nm&&J8 t.body)
def shG(p:Gp):Bool:=p.decls.all Uy&&(p.thrs.all shT&&!p.thrs.isEmpty)
/-! what is in range -/
/-! bulk -/
def Ac2(z:Bool)(t:Nat)(rows:List (List V)):(SL z t rows).bulk=C0 rows+1:=by
 unfold SL
 split
 .rename_i h;rw[h.2];simp[V.bulk,C0]
 .simp[V.bulk]
def Gr(x:Xp):C7 x.row=4+x.nm.length+C0 (x.l.map Xp.row):=by
 rw[Bf];simp only[C7,V.bulk,Ac2];omega
def Mu(s:Sp):C7 s.row=7+s.nm.length+s.arg.length+C0 (s.idx.map Xp.row)+C7 s.ex.row+C0 (s.body.map Sp.row)+C0 (s.els.map Sp.row):=by
 rw[Q4];simp only[Af6,C7,V.bulk,Ac2];omega
def Bii(d:Dp):C7 d.row=6+d.nm.length+d.on.length:=by
 simp only[Dp.row,C7,V.bulk];omega
def Z4(t:Tp):C7 t.row=4+t.nm.length+C0 (t.locals.map fun s=>[V.str s])+C0 (t.body.map Sp.row):=by
 simp only[Tp.row,C7,V.bulk,Ac2];omega
def Aki(p:Gp):C7 p.row=2+C0 (p.decls.map Dp.row)+C0 (p.thrs.map Tp.row):=by
 simp only[Gp.row,C7,Ac2];omega
def I7{α:Type}{f:α->List V}:∀ {l:List α} {x:α},x∈l->C7 (f x)<=C0 (l.map f)
 | y::l,x,h=>by
  rw[Bb,C0];rcases Bj.1 h with rfl | h
  .omega
  .have:=I7 (f:=f) h;omega
def K2{α:Type}{f:α->List V}(hf:∀ x,1<=C7 (f x)):∀ l:List α,l.length<=C0 (l.map f)
 | []=>by simp
 | x::l=>by
  rw[Bb,C0,Am];have:=K2 hf l;have:=hf x;omega
def F0{a b:AC}{k:List It}{e:Env}{σ:St}{Q:Env->St->Prop}(P:Env->St->Prop)(h1:∀ k',(∀ e σ,P e σ->W TT PT k' e σ Q)->W TT PT (.c a::k') e σ Q)(h2:∀ e σ,P e σ->W TT PT (.c b::k) e σ Q):W TT PT (.c (.seq a b)::k) e σ Q:=by
 rw[Aj1];exact h1 _ h2
def Ax1(op:Int):Fn TT PT 212 [iV op] (iV (Xe op)):=by
 refine Bo T212 rfl ?_;unfold Xe;by_cases h1:op=1
 .subst h1;simp only[go_sem,Int.reduceBEq];exact An rfl rfl
 have e1:(op==1)=false:=by simp[h1]
 by_cases h2:op=2
 .subst h2;simp only[go_sem,e1,Int.reduceBEq];exact An rfl rfl
 have e2:(op==2)=false:=by simp[h2]
 rw[if_neg (by omega)];by_cases h3:3<=op/\op<=5
 .have g3:((3:Int)<=op)=True:=eq_true h3.1;have g5:(op<=5)=True:=eq_true h3.2;rw[if_pos h3];simp only[go_sem,e1,e2,g3,g5,ge_iff_le];exact An rfl rfl
 rw[if_neg h3];by_cases h6:6<=op/\op<=18
 .have g3:((3:Int)<=op)=True:=eq_true (by omega);have g5:(op<=5)=False:=eq_false (by omega);have g6:((6:Int)<=op)=True:=eq_true h6.1;have g7:(op<=18)=True:=eq_true h6.2;rw[if_pos h6];simp only[go_sem,e1,e2,g3,g5,g6,g7,ge_iff_le];exact An rfl rfl
 rw[if_neg h6];by_cases hl:3<=op
 .have g3:((3:Int)<=op)=True:=eq_true (by omega);have g5:(op<=5)=False:=eq_false (by omega);have g6:((6:Int)<=op)=True:=eq_true (by omega);have g7:(op<=18)=False:=eq_false (by omega);simp only[go_sem,e1,e2,g3,g5,g6,g7,ge_iff_le];exact An rfl rfl
 .have g3:((3:Int)<=op)=False:=eq_false (by omega);have g6:((6:Int)<=op)=False:=eq_false (by omega);simp only[go_sem,e1,e2,g3,g6,ge_iff_le];exact An rfl rfl
def A3r(x:Xp)(hl:x.l.length<=1000000000):Fn TT PT 189 [.agg x.row] (.bool (Adx x)):=by
 refine Bo T189 rfl ?_;rw[Bf];unfold Adx;have qb:(x.l.map Xp.row).length=x.l.length:=Ap ..;cases h1:(x.op==0)
 .simp only[go_sem,h1];exact An rfl rfl
 cases h2:(x.n==0)
 .simp only[go_sem,h1,h2];exact An rfl rfl
 cases h3:(x.nm==[])
 .simp only[go_sem,h1,h2,h3];exact An rfl rfl
 have e:((x.l.length:Int)==0)=x.l.isEmpty:=by
  cases x.l with
  | nil=>rfl
  | cons a b=>simp;omega
 simp only[go_sem,h1,h2,h3,qb,e];exact An rfl rfl
set_option maxHeartbeats 1000000 in
def A3s(x:Xp)(hl:x.l.length<=1000000000)(ih:∀ y∈x.l,Fn TT PT 188 [.agg y.row] (.bool (G6 y))):Fn TT PT 188 [.agg x.row] (.bool (G6 x)):=by
 obtain⟨op,n,nm,z,t,l⟩:=x;have hr:=Bf ⟨op,n,nm,z,t,l⟩;have hR:=A8i ⟨op,n,nm,z,t,l⟩;generalize G6 ⟨op,n,nm,z,t,l⟩=R at hR ⊢;simp only at hr hl ih hR;rw[hr];clear hr;unfold shH at hR;have qb:(l.map Xp.row).length=l.length:=Ap ..;refine Bo T188 rfl ?_;refine F0 (fun e σ=>e=[(1,.ptr 0 0 0)]/\σ=[.row [iV op,iV n,.str nm,SL z t (l.map Xp.row)] 102 0 0]) (fun k' hk=>?_) ?_
 .simp only[go_sem];exact hk _ _ ⟨rfl,rfl⟩
 rintro e σ ⟨rfl,rfl⟩;refine F0 (fun e σ=>e=[(1,.ptr 0 0 0),(3,.bool (op==2||op==3))]/\σ=[.row [iV op,iV n,.str nm,SL z t (l.map Xp.row)] 102 0 0]) (fun k' hk=>?_) ?_
 .cases h2:(op==2)
  .simp only[go_sem,h2];exact hk _ _ ⟨by rw[h2];rfl,rfl⟩
  .simp only[go_sem,h2];exact hk _ _ ⟨by rw[h2];rfl,rfl⟩
 rintro e σ ⟨rfl,rfl⟩;generalize(op==2||op==3)=nb at hR ⊢;have ho:=Ax1 op;have qC:=Tg nm;refine F0 (fun e σ=>(e=[(1,.ptr 0 0 0)]/\σ=[.row [iV op,iV n,.str nm,SL z t (l.map Xp.row)] 102 0 0])/\R=l.all G6) (fun k' hk=>?_) ?_
 .cases h1:(Xe op != (l.length:Int));rotate_left
  .have b1:(Xe op==(l.length:Int))=false:=by simpa using h1
   rw[b1]at hR;subst hR;simp only[go_sem];refine Ag (by kernel_rfl) ?_;simp only[go_sem];refine Bk ho rfl ?_;simp only[go_sem,qb,h1];exact An rfl rfl
  have b1:(Xe op==(l.length:Int))=true:=by simpa using h1
  rw[b1]at hR
  have lt:∀ {a:Int},decide (0<=a)=!decide (a<0):=fun {a}=>by
   by_cases h:0<=a
   .rw[decide_eq_true h,decide_eq_false (by omega)];rfl
   .rw[decide_eq_false h,decide_eq_true (by omega)];rfl
  cases nb<;>cases h2:(nm==[])
  .rw[h2]at hR;subst hR;simp only[go_sem];refine Ag (by kernel_rfl) ?_;simp only[go_sem];refine Bk ho rfl ?_;simp only[go_sem,qb,h1,h2,A1,Ay,beq_self_eq_true,Jp,Jq];exact An rfl rfl
  .rw[h2]at hR;cases h4:decide (n<0);rotate_left
   .rw[lt,h4]at hR;simp only[Ay,Qu,Aa9]at hR;subst hR;simp only[go_sem];refine Ag (by kernel_rfl) ?_;simp only[go_sem];refine Bk ho rfl ?_;simp only[go_sem,qb,h1,h2,A1,Ay,beq_self_eq_true,Jp,Jq,h4];exact An rfl rfl
   rw[lt,h4]at hR;cases h5:(op==1);rotate_left
   .rw[h5]at hR;have qn:(op != 1)=false:=by simp[bne,h5]
    simp only[go_sem];refine Ag (by kernel_rfl) ?_;simp only[go_sem];refine Bk ho rfl ?_;simp only[go_sem,qb,h1,h2,A1,Ay,beq_self_eq_true,Jp,Jq,h4,qn];exact hk _ _ ⟨⟨rfl,rfl⟩,by rw[hR];rfl⟩
   rw[h5]at hR;have qn:(op != 1)=true:=by simp[bne,h5]
   cases h6:(n==0)
   .rw[h6]at hR;have qx:(n != 0)=true:=by simp[bne,h6]
    simp only[A1,Ay,Aa9,Bool.or_false,Qu]at hR;subst hR;simp only[go_sem];refine Ag (by kernel_rfl) ?_;simp only[go_sem];refine Bk ho rfl ?_;simp only[go_sem,qb,h1,h2,A1,Ay,beq_self_eq_true,Jp,Jq,h4,qn,qx];exact An rfl rfl
   rw[h6]at hR;have qx:(n != 0)=false:=by simp[bne,h6]
   simp only[go_sem];refine Ag (by kernel_rfl) ?_;simp only[go_sem];refine Bk ho rfl ?_;simp only[go_sem,qb,h1,h2,A1,Ay,beq_self_eq_true,Jp,Jq,h4,qn,qx];exact hk _ _ ⟨⟨rfl,rfl⟩,by rw[hR];rfl⟩
  .rw[h2]at hR;cases h3:Cc nm
   .rw[h3]at hR qC;subst hR;simp only[go_sem];refine Ag (by kernel_rfl) ?_;simp only[go_sem];refine Bk ho rfl ?_;simp only[go_sem,qb,h1,h2,A1,Ay,beq_self_eq_true,Jp,Jq];refine Bk qC rfl ?_;simp only[go_sem,qb,h1,h2,A1,Ay,beq_self_eq_true,Jp,Jq];exact An rfl rfl
   rw[h3]at hR qC;cases h4:decide (n<0);rotate_left
   .rw[lt,h4]at hR;simp only[Ay,Qu,Aa9]at hR;subst hR;simp only[go_sem];refine Ag (by kernel_rfl) ?_;simp only[go_sem];refine Bk ho rfl ?_;simp only[go_sem,qb,h1,h2,A1,Ay,beq_self_eq_true,Jp,Jq];refine Bk qC rfl ?_;simp only[go_sem,qb,h1,h2,A1,Ay,beq_self_eq_true,Jp,Jq,h4];exact An rfl rfl
   rw[lt,h4]at hR;cases h5:(op==1);rotate_left
   .rw[h5]at hR;have qn:(op != 1)=false:=by simp[bne,h5]
    simp only[go_sem];refine Ag (by kernel_rfl) ?_;simp only[go_sem];refine Bk ho rfl ?_;simp only[go_sem,qb,h1,h2,A1,Ay,beq_self_eq_true,Jp,Jq];refine Bk qC rfl ?_;simp only[go_sem,qb,h1,h2,A1,Ay,beq_self_eq_true,Jp,Jq,h4,qn];exact hk _ _ ⟨⟨rfl,rfl⟩,by rw[hR];rfl⟩
   rw[h5]at hR;have qn:(op != 1)=true:=by simp[bne,h5]
   cases h6:(n==0)
   .rw[h6]at hR;have qx:(n != 0)=true:=by simp[bne,h6]
    simp only[A1,Ay,Aa9,Bool.or_false,Qu]at hR;subst hR;simp only[go_sem];refine Ag (by kernel_rfl) ?_;simp only[go_sem];refine Bk ho rfl ?_;simp only[go_sem,qb,h1,h2,A1,Ay,beq_self_eq_true,Jp,Jq];refine Bk qC rfl ?_;simp only[go_sem,qb,h1,h2,A1,Ay,beq_self_eq_true,Jp,Jq,h4,qn,qx];exact An rfl rfl
   rw[h6]at hR;have qx:(n != 0)=false:=by simp[bne,h6]
   simp only[go_sem];refine Ag (by kernel_rfl) ?_;simp only[go_sem];refine Bk ho rfl ?_;simp only[go_sem,qb,h1,h2,A1,Ay,beq_self_eq_true,Jp,Jq];refine Bk qC rfl ?_;simp only[go_sem,qb,h1,h2,A1,Ay,beq_self_eq_true,Jp,Jq,h4,qn,qx];exact hk _ _ ⟨⟨rfl,rfl⟩,by rw[hR];rfl⟩
  .rw[h2]at hR;subst hR;simp only[go_sem];refine Ag (by kernel_rfl) ?_;simp only[go_sem];refine Bk ho rfl ?_;simp only[go_sem,qb,h1,h2,A1,Ay,beq_self_eq_true,Jp,Jq];exact An rfl rfl
 rintro e σ ⟨⟨rfl,rfl⟩,hR⟩;simp only[go_sem];refine Bn (α:=Nat) (fun i=>l.length - i) (fun i=>[(1,.ptr 0 0 0),(4,iV (i:Int))]) (fun _=>[.row [iV op,iV n,.str nm,SL z t (l.map Xp.row)] 102 0 0]) (fun i=>i<=l.length/\l.all G6=(l.drop i).all G6) ?_ 0 ⟨Au _,rfl⟩;rintro i ⟨hi,qa⟩ jh;refine Bl Bb6 ?_;by_cases hc:i<l.length
 .have f1:((i:Int)<(l.length:Int))=True:=eq_true (by omega);have kh:=A2 (show i<9223372036854775807 by omega);obtain⟨a,ha⟩:∃ a,l[i]?=some a:=⟨_,Bc hc⟩;have jG:=Bf a;have jX:=Du a;have hf:=ih a (Ge ha);have jF:(l.map Xp.row)[i]?=some [iV a.op,iV a.n,.str a.nm,SL a.z a.t (a.l.map Xp.row)]:=by rw[Aj,ha,Gb,jG]
  have kb:l.drop i=a::l.drop (i+1):=by rw[Fd hc,(Ak.1 ha).2]
  rw[kb,Aw]at qa;rw[jG]at hf jX;cases hab:G6 a
  .rw[hab]at hf qa;rw[qa]at hR;subst hR;simp only[go_sem,qb,f1,jF];refine Ad hf (by simp only[go_sem]) ?_;simp only[go_sem];exact An rfl rfl
  .rw[hab]at hf qa;simp only[go_sem,qb,f1,jF];refine Ad hf (by simp only[go_sem]) ?_;simp only[go_sem,kh];exact As (jh (i+1) (by omega) ⟨hc,by simpa using qa⟩) rfl
 .have f1:((i:Int)<(l.length:Int))=False:=eq_false (by omega);rw[qa,Fo (by omega)]at hR;subst hR;simp only[go_sem,qb,f1];exact An rfl rfl
def Ady:∀ (N:Nat) (x:Xp),C7 x.row<=N->N<=1000000000->Fn TT PT 188 [.agg x.row] (.bool (G6 x))
 | 0,x,h,_=>by rw[Gr]at h;omega
 | N+1,x,h,hN=>by
  have h1:=Gr x;have h2:=K2 (f:=Xp.row) (fun x=>by rw[Gr];omega) x.l;refine A3s x (by omega) fun y hy=>Ady N y ?_ (by omega)
  have:=I7 (f:=Xp.row) hy;omega
