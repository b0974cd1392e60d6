/- Walks: the parser's threads. -/
import Derived.Test.YtcoeikinocflnaaGreatDoorLs
set_option linter.all false
namespace Go.Proofs.YtcoeikinocflnaaGreatDoor.KM
open Go
theorem Aan:∀ (js:List Nat) (σ:St) (n:Nat),(∀ i∈js,n<=i)->∀ j,j<n->(σ.freeze js)[j]?=σ[j]?
 | [],_,_,_,_,_=>rfl
 | i::js,σ,n,h,j,hj=>by
  have hi:=h i Ec;simp only[St.freeze]
  split
  ·rw[Aan js _ n (fun k hk=>h k (Dz _ hk)) j hj,Bc (by omega)]
  ·exact Aan js _ n (fun k hk=>h k (Dz _ hk)) j hj
theorem Akx{z:Bool}{t:Nat}{A:List Tk}{f m q0:Nat}{res:List AR}{thr:Bool}{body:AC}{s:St}{R:V->Nat->Prop}(hT:TT f=some ⟨1,res,thr,body,none⟩)(hs:s[m]?=some (RO z t A q0))
  (h:∀ S,RdS s m z t A S->W TT PT [.c body] (C2 0 [.ptr m 0 0]) (S q0) (Hd fun e' σ1=>∃ vs vs' q,B6 e' σ1 res=some (.tup vs)/\vs.all Hh=true/\OVs σ1 vs vs'/\(∀ j∈Aj vs,s.length<=j)/\Aj vs'=[]/\RW s σ1 m z t A q/\q<=A.length/\R (.tup vs') q)):RT f [] s m z t A R:=by
 have h:=h _ (Aje z t A (Ar.1 hs).1);rw[Jn hs]at h;obtain⟨e',σ1,hE,vs,vs',q,hr,hok,hov,hlo,hre,hw,hq,hR⟩:=h;have hfr:=Aan (Aj vs) σ1 s.length hlo;have hw2:RW s (σ1.freeze (Aj vs)) m z t A q:=Nu hw (by rw[Mg];exact hw.1) hfr;refine⟨_,q,?_,hq,hR⟩;rw[<-Ajk hw2];refine Af9 hT rfl rfl ⟨e',σ1,hE,.tup vs,Aj vs,hr,hok,?_,?_,Ajl hw2,rfl⟩
 ·exact congrArg (Option.map V.tup) (Ui hov fun j hj=>hj)
 ·show D7 s.length [] (Aj vs')=true;rw[hre];rfl
theorem Amf{s:St}{m:Nat}{z:Bool}{t:Nat}{A:List Tk}{S:Nat->St}(hS:RdS s m z t A S){p0:Nat}(hs:s[m]?=some (RO z t A p0))(q:Nat)(l:St):RW s (S q++l) m z t A q:=by
 rw[hS.eq];exact X2 (My (Ab4 hs) q)
theorem Mq{s σ:St}{m:Nat}{z:Bool}{t:Nat}{A:List Tk}{q j:Nat}{x:Ob}(h:RW s σ m z t A q)(hj:s.length<=j):RW s (σ.set j x) m z t A q:=by
 have:=h.2.2.2;exact Nu h (by rw[Gr];exact h.1) fun i hi=>Bc (by omega)
def PRt(A:List Tk)(o:Option (Tp × List Tk))(v:V)(p':Nat):Prop:=match o with
 | some (x,r)=>v=.tup [.agg x.row,.bool true]/\A.drop p'=r
 | none=>∃ d0 d1 d2 d3:V,[d0,d1,d2,d3].all V.rowB=true/\v=.tup [.agg [d0,d1,d2,d3],.bool false]
theorem Aa4(L:List (List UInt8)):(SL true 0 (L.map I7)).rowB=true:=by
 unfold SL
 split<;>rfl
theorem Ajm(z:Bool)(t:Nat)(xs:List (List V)):(SL z t xs).refs=[]:=by unfold SL;split<;>rfl
theorem Uo{σ:St}{e lo:Nat}{u:V}{L:List (List UInt8)}{nm:List UInt8}{ln:Int}{w:V}{b:Bool}(hg:GW σ 1 e lo u (L.map I7))(hw:w.rowB=true):OVs σ [.agg [.str nm,.int .i64 ln,u,w],.bool b] [.agg [.str nm,.int .i64 ln,SL true 0 (L.map I7),w],.bool b]:=
 .cons (Uv (.cons (Hj rfl) (.cons (Hj rfl) (.cons (N3 hg (by omega) (by intro r hr;obtain⟨x,-,rfl⟩:=D6.1 hr;rfl) (by intro r hr;obtain⟨x,-,rfl⟩:=D6.1 hr;rfl)) (.cons (Hj hw) .nil))))) (.cons (Ig rfl) .nil)
theorem U3{σ:St}{e lo:Nat}{u:V}{xs:List (List V)}{nm:List UInt8}{ln:Int}{w:V}{b:Bool}(hg:GW σ 1 e lo u xs)(hw:w.rowB=true):∀ j∈Aj [.agg [.str nm,.int .i64 ln,u,w],.bool b],lo<=j:=by
 have hwr:=Tm hw;intro j hj;simp only[Aj,V.refs,hwr,Cw,Es]at hj;rcases hg with⟨rfl,-⟩ | ⟨-,i,g,rfl,-,hlo⟩
 ·cases hj
 ·simp only[V.refs,Ey]at hj;omega
theorem U4{σ:St}{e lo:Nat}{u:V}{xs:List (List V)}{nm:List UInt8}{ln:Int}{w:V}{b:Bool}(hg:GW σ 1 e lo u xs)(hw:w.rowB=true):[V.agg [.str nm,.int .i64 ln,u,w],.bool b].all Hh=true:=by
 have h1:=D2 hg;have h2:=Ej hw;show([V.str nm,.int .i64 ln,u,w].all V.cellB&&(Hh (.bool b)&&true))=true;rw[show([V.str nm,.int .i64 ln,u,w].all V.cellB)=true from by simp only[Au,A1,h1,h2];rfl];rfl
theorem U5{L:List (List UInt8)}{nm:List UInt8}{ln:Int}{w:V}{b:Bool}(hw:w.rowB=true):Aj [.agg [.str nm,.int .i64 ln,SL true 0 (L.map I7),w],.bool b]=[]:=by
 simp only[Aj,V.refs,Ajm,Tm hw,Cw]
set_option maxHeartbeats 4000000 in
theorem Ao9{n:Nat}{s:St}{m:Nat}{z:Bool}{t:Nat}{A:List Tk}{p:Nat}(hA:OkA A)(hT:De A)(hs:s[m]?=some (RO z t A p))(hp:p<A.length)(hf:10*(A.length - p)+2<=n):RT 88 [] s m z t A (PRt A (P5 n (A.drop p))):=by
 have hl:A.length<=1000000:=by have:=hA.len;omega
 have hm:=(Ar.1 hs).1;refine Akx T88 hs fun S hS=>?_
 have hS':=hS;have hrwS:=Amf hS' hs;have hnx:=Nx (hS'.get p [.row [.str [],.int .i64 0,.nils,.nils] 91 0 0]) hl (Nat.le_of_lt hp);have hinq:=Bg (show p<9223372036854775807 by omega);have hp1:p+1<=A.length:=hp;rw[I3 hp,P5];generalize htk:Aa A p=tk at hnx
 cases hn:Cy (A.drop (p+1)) with
 | none=>
  have c1:=Vl hS' (p:=p+1) [.row [.str [],.int .i64 0,.nils,.nils] 91 0 0,.row [.str [],.int .i64 tk.line,.nils,.nils] 91 0 0] hl hp1 hn;have Zq:=C4 hS;obtain⟨-,-,hlen,get,get0,set,set0,n0,n1,n2,u0,u1,u2⟩:=hS;simp only[go_sem,Zq,LZ];refine Ac hnx ?_;simp only[go_sem,Zq,LZ,hinq];refine Ac c1 ?_;simp only[go_sem,Zq,LZ];exact⟨_,_,_,B0 (n0 _ _ _) rfl rfl rfl,rfl,.cons (Ig rfl) (.cons (Ig rfl) .nil),(fun j hj=>by cases hj),rfl,hrwS _ _,hp1,_,_,_,_,rfl,rfl⟩
 | some nt=>
  obtain⟨nm,ts⟩:=nt;obtain⟨c1,hlt1,h3⟩:=Zf hS' (p:=p+1) [.row [.str [],.int .i64 0,.nils,.nils] 91 0 0,.row [.str [],.int .i64 tk.line,.nils,.nils] 91 0 0] hl hp1 hn;simp only;rw[<-h3];unfold Df;have hp2:p+1+1<=A.length:=hlt1;by_cases h40:As [40] (A.drop (p+1+1))=true
  case neg=>
   have h40:As [40] (A.drop (p+1+1))=false:=by simpa using h40
   rw[if_neg (by rw[h40];decide)];have c2:=Hk hS' (p:=p+1+1) [.row [.str [],.int .i64 0,.nils,.nils] 91 0 0,.row [.str nm,.int .i64 tk.line,.nils,.nils] 91 0 0] hl hp2 h40;have Zq:=C4 hS;obtain⟨-,-,hlen,get,get0,set,set0,n0,n1,n2,u0,u1,u2⟩:=hS;simp only[go_sem,Zq,LZ];refine Ac hnx ?_;simp only[go_sem,Zq,LZ,hinq];refine Ac c1 ?_;simp only[go_sem,Zq,LZ];refine Ac c2 ?_;simp only[go_sem,Zq,LZ];exact⟨_,_,_,B0 (n0 _ _ _) rfl rfl rfl,rfl,.cons (Ig rfl) (.cons (Ig rfl) .nil),(fun j hj=>by cases hj),rfl,hrwS _ _,hp2,_,_,_,_,rfl,rfl⟩
  rw[if_pos h40];simp only;rw[<-Dj];have c2:=Ih hS' (p:=p+1+1) [.row [.str [],.int .i64 0,.nils,.nils] 91 0 0,.row [.str nm,.int .i64 tk.line,.nils,.nils] 91 0 0] hl h40;have hp3:p+1+1+1<=A.length:=Dh h40;unfold Ada;by_cases h41:As [41] (A.drop (p+1+1+1))=true
  ·rw[if_pos h41];simp only;rw[<-Dj];have c3:=Ih hS' (p:=p+1+1+1) [.row [.str [],.int .i64 0,.nils,.nils] 91 0 0,.row [.str nm,.int .i64 tk.line,.nils,.nils] 91 0 0] hl h41;have hp4:p+1+1+1+1<=A.length:=Dh h41;obtain⟨v,q,c4,hq,h4⟩:=Lv hS' (p:=p+1+1+1+1) (l:=[.row [.str [],.int .i64 0,.nils,.nils] 91 0 0,.row [.str nm,.int .i64 tk.line,.nils,.nils] 91 0 0]) fun hs=>(Aia n).2 _ m z t A _ hA hT hs hp4 (by omega)
   have Zq:=C4 hS;obtain⟨-,-,hlen,get,get0,set,set0,n0,n1,n2,u0,u1,u2⟩:=hS;simp only[go_sem,Zq,LZ];refine Ac hnx ?_;simp only[go_sem,Zq,LZ,hinq];refine Ac c1 ?_;simp only[go_sem,Zq,LZ];refine Ac c2 ?_;simp only[go_sem,Zq,LZ];refine Ac c3 ?_;simp only[go_sem,Zq,LZ];unfold Vu at h4
   cases hb:Eb n (A.drop (p+1+1+1+1)) with
   | none=>
    rw[hb]at h4;subst h4;refine Ac c4 ?_;simp only[go_sem,Zq,LZ];exact⟨_,_,_,B0 (n0 _ _ _) rfl rfl rfl,rfl,.cons (Ig rfl) (.cons (Ig rfl) .nil),(fun j hj=>by cases hj),rfl,hrwS _ _,hq,_,_,_,_,rfl,rfl⟩
   | some bt=>
    obtain⟨b,ts9⟩:=bt;rw[hb]at h4;obtain⟨rfl,h4⟩:=h4;have hbs:=Bu b;refine Ac c4 ?_;simp only[go_sem,Zq,LZ];exact⟨_,[.agg [.str nm,.int .i64 tk.line,.nils,SL true 0 (b.map Sp.row)],.bool true],_,B0 (n0 _ _ _) rfl rfl rfl,U4 (σ:=[]) (e:=0) (lo:=0) F4 hbs,Uo (L:=[]) (e:=0) (lo:=0) F4 hbs,U3 (σ:=[]) (e:=0) (lo:=s.length) (xs:=[]) F4 hbs,U5 (L:=[]) hbs,hrwS _ _,hq,rfl,h4⟩
  ·have h41:As [41] (A.drop (p+1+1+1))=false:=by simpa using h41
   rw[if_neg (by rw[h41];decide)];have c3:=Hk hS' (p:=p+1+1+1) [.row [.str [],.int .i64 0,.nils,.nils] 91 0 0,.row [.str nm,.int .i64 tk.line,.nils,.nils] 91 0 0] hl hp3 h41;have Zq:=C4 hS;obtain⟨-,-,hlen,get,get0,set,set0,n0,n1,n2,u0,u1,u2⟩:=hS;simp only[go_sem,Zq,LZ];refine Ac hnx ?_;simp only[go_sem,Zq,LZ,hinq];refine Ac c1 ?_;simp only[go_sem,Zq,LZ];refine Ac c2 ?_;simp only[go_sem,Zq,LZ];refine Ac c3 ?_;simp only[go_sem,Zq,LZ];refine B9 (α:=Nat × Nat × V × List (List UInt8) × St) (fun a=>a.1) (fun a=>[(0,.ptr m 0 0),(2,.ptr s.length 0 0),(4,.ptr (s.length+1) 0 0)]) (fun a=>a.2.2.2.2) (fun a=>a.1<=n/\a.2.1<=A.length/\A.length - a.2.1<a.1/\RW s a.2.2.2.2 m z t A a.2.1/\a.2.2.2.2[s.length]?=some (.row [.str [],.int .i64 0,.nils,.nils] 91 0 0)/\a.2.2.2.2[s.length+1]?=some (.row [.str nm,.int .i64 tk.line,a.2.2.1,.nils] 91 0 0)/\GW a.2.2.2.2 1 9 (s.length+2) a.2.2.1 (a.2.2.2.1.map I7)/\I9 n (A.drop (p+1+1+1))=(I9 a.1 (A.drop a.2.1)).map (fun y=>(a.2.2.2.1++y.1,y.2))/\a.2.2.2.1.length<=a.2.1/\s.length+2<=a.2.2.2.2.length/\p+1<=a.2.1) ?_ (n,p+1+1+1,.nils,[],S (p+1+1+1)++[.row [.str [],.int .i64 0,.nils,.nils] 91 0 0,.row [.str nm,.int .i64 tk.line,.nils,.nils] 91 0 0]) ⟨Ah _,hp3,by simp only;omega,hrwS _ _,n0 _ _ _,n1 _ _ _ _,F4,by simp only[Es];cases I9 n (A.drop (p+1+1+1))<;>rfl,by simp,by simp[hlen],by simp only;omega⟩;rintro⟨k,q,u,L,σ⟩ ⟨hkn,hq,hbk,hw,hz4,ht4,hg,hinv,hLq,hlen2,hpq⟩ ih;simp only at hkn hq hbk hw hz4 ht4 hg hinv hLq hlen2 hpq ih;obtain⟨k,rfl⟩:∃ j,k=j+1:=⟨k - 1,by omega⟩;have hrl:∀ r∈L.map I7,r.length=1:=by intro r hr;obtain⟨x,-,rfl⟩:=D6.1 hr;rfl
   have hcu:=D2 hg;have h12:∀ (τ:St) (ob:Ob),s.length+2<=τ.length->(τ.set (s.length+1) ob)[s.length+1]?=some ob:=fun τ ob h=>B8 (by omega)
   have h11:∀ (τ:St) (ob:Ob),s.length+2<=τ.length->(τ.set s.length ob)[s.length]?=some ob:=fun τ ob h=>B8 (by omega)
   refine Ca (by delta lp88_0;exact rfl) ?_
   cases hnq:Cy (A.drop q) with
   | none=>
    have d1:=(R8 hw.2.2.1 hl hq).2 hnq;have ho:I9 (k+1) (A.drop q)=none:=by rw[I9,hnq]
    rw[ho]at hinv;rw[hinv];simp only[go_sem];refine Ac d1 ?_;simp only[go_sem,ht4,hz4,hcu];exact⟨_,[.agg [.str nm,.int .i64 tk.line,SL true 0 ((L).map I7),.nils],.bool false],q,B0 (h11 _ _ (hlen2)) rfl rfl rfl,U4 hg rfl,Uo (Ff hg (by omega)) rfl,(fun j hj=>by have:=U3 hg rfl j hj;omega),U5 rfl,Mq hw (Ah _),hq,_,_,_,_,by simp only[Au,A1,Aa4];rfl,rfl⟩
   | some wr=>
    obtain⟨w,r⟩:=wr;obtain⟨d1,hltq,hrr⟩:=(R8 hw.2.2.1 hl hq).1 w r hnq
    have ho:I9 (k+1) (A.drop q)=if As [44] r then(match I9 k r.tail with
      | none=>none
      | some (l,r)=>some (w::l,r)) else(Df [41] r).map fun ts=>([w],ts):=by
     rw[I9,hnq];rfl
    rw[ho]at hinv;have hw1:=My hw (q+1);have hg1:GW (σ.set m (RO z t A (q+1))) 1 9 (s.length+2) u (L.map I7):=Ff hg (by omega);have hl1:(σ.set m (RO z t A (q+1))).length=σ.length:=Gr;have hz1:(σ.set m (RO z t A (q+1)))[s.length]?=some (.row [.str [],.int .i64 0,.nils,.nils] 91 0 0):=by rw[Bc (by omega)];exact hz4
    have ht1:(σ.set m (RO z t A (q+1)))[s.length+1]?=some (.row [.str nm,.int .i64 tk.line,u,.nils] 91 0 0):=by rw[Bc (by omega)];exact ht4
    generalize σ.set m (RO z t A (q+1))=τ1 at d1 hw1 hg1 hl1 hz1 ht1;obtain⟨u',τ2,ha,hg2,hl2,-,hk2⟩:=Pj (bytes:=16) (y:=.lst 1 [[.str w]]) (ys:=[[.str w]]) hg1 (by omega) rfl (by omega) hrl (by simp) (by simp;omega);have hw2:RW s τ2 m z t A (q+1):=Nu hw1 (by omega) fun j hj=>hk2 j (by omega)
    have hcu':=D2 hg2;obtain⟨hcc,hca⟩:=Aal hcu';obtain⟨τ3,e3⟩:∃ τ:St,τ=τ2.set (s.length+1) (.row [.str nm,.int .i64 tk.line,u',.nils] 91 0 0):=⟨_,rfl⟩;have hw3:RW s τ3 m z t A (q+1):=by rw[e3];exact Nu hw2 (by rw[Gr];omega) fun j hj=>Bc (by omega)
    have hg3:GW τ3 1 9 (s.length+2) u' ((L++[w]).map I7):=by rw[e3,Fb];exact Ff hg2 (by omega)
    have hl3:s.length+2<=τ3.length:=by rw[e3,Gr];omega
    have hz3:τ3[s.length]?=some (.row [.str [],.int .i64 0,.nils,.nils] 91 0 0):=by rw[e3,Bc (by omega),hk2 _ (by omega)];exact hz1
    have ht3:τ3[s.length+1]?=some (.row [.str nm,.int .i64 tk.line,u',.nils] 91 0 0):=by rw[e3];exact h12 _ _ (by omega)
    have ht2:τ2[s.length+1]?=some (.row [.str nm,.int .i64 tk.line,u,.nils] 91 0 0):=by rw[hk2 _ (by omega)];exact ht1
    have hq1:q+1<=A.length:=hltq;by_cases h44:As [44] r=true
    ·rw[if_pos h44]at hinv;rw[<-hrr]at h44 hinv;have d2:=N8 hw3.2.2.1 hl h44;have hlt44:=Dh h44;rw[e3]at d2;simp only[go_sem];refine Ac d1 ?_;simp only[go_sem,ht1,ha,ht2,hcu',hcc,hca];refine Ac d2 ?_;rw[<-e3];simp only[go_sem];refine Bi (ih (k,q+1+1,u',L++[w],τ3.set m (RO z t A (q+1+1))) (by simp) ⟨by simp only;omega,hlt44,by simp only;omega,My hw3 _,by simp only;rw[Bc (by omega)];exact hz3,by simp only;rw[Bc (by omega)];exact ht3,Ff hg3 (by omega),?_,by simp;omega,by simp only[Gr];exact hl3,by simp only;omega⟩) rfl;simp only;rw[hinv,<-Dj]
     cases I9 k (A.drop (q+1+1)) with
     | none=>rfl
     | some y=>simp
    ·have h44:As [44] r=false:=by simpa using h44
     rw[if_neg (by rw[h44];decide)]at hinv;rw[<-hrr]at h44 hinv;have d2:=N9 hw3.2.2.1 hl hq1 h44;rw[e3]at d2;unfold Df at hinv;by_cases h41b:As [41] (A.drop (q+1))=true
     ·rw[if_pos h41b]at hinv;simp only[Ha]at hinv;rw[hinv];simp only;rw[<-Dj];have d3:=N8 hw3.2.2.1 hl h41b;have hlt41:=Dh h41b;have hw4:=My hw3 (q+1+1);obtain⟨v,q5,d4,hq5,h5⟩:=(Aia n).2 (τ3.set m (RO z t A (q+1+1))) m z t A (q+1+1) hA hT hw4.2.2.1 hlt41 (by omega);rw[Td]at d4;have hw5:=My hw3 q5;have hg5:GW (τ3.set m (RO z t A q5)) 1 9 (s.length+2) u' ((L++[w]).map I7):=Ff hg3 (by omega);have hl5:s.length+2<=(τ3.set m (RO z t A q5)).length:=by rw[Gr];exact hl3
      have hz5:(τ3.set m (RO z t A q5))[s.length]?=some (.row [.str [],.int .i64 0,.nils,.nils] 91 0 0):=by rw[Bc (by omega)];exact hz3
      have ht5:(τ3.set m (RO z t A q5))[s.length+1]?=some (.row [.str nm,.int .i64 tk.line,u',.nils] 91 0 0):=by rw[Bc (by omega)];exact ht3
      generalize τ3.set m (RO z t A q5)=τ5 at d4 hw5 hg5 hl5 hz5 ht5;have hz6:∀ ob:Ob,(τ5.set (s.length+1) ob)[s.length]?=some (.row [.str [],.int .i64 0,.nils,.nils] 91 0 0):=fun ob=>by rw[Bc (by omega)];exact hz5
      rw[e3]at d3;unfold Vu at h5;simp only[go_sem];refine Ac d1 ?_;simp only[go_sem,ht1,ha,ht2,hcu',hcc,hca];refine Ac d2 ?_;simp only[go_sem];refine Ac d3 ?_;rw[<-e3];simp only[go_sem]
      cases hb:Eb n (A.drop (q+1+1)) with
      | none=>
       rw[hb]at h5;subst h5;refine Ac d4 ?_;simp only[go_sem,ht5,h12 _ _ hl5,hz6,hcu'];exact⟨_,[.agg [.str nm,.int .i64 tk.line,SL true 0 ((L++[w]).map I7),.nils],.bool false],q5,B0 (h11 _ _ (by rw[Gr];exact hl5)) rfl rfl rfl,U4 hg5 rfl,Uo (Ff (Ff hg5 (by omega)) (by omega)) rfl,(fun j hj=>by have:=U3 hg5 rfl j hj;omega),U5 rfl,Mq (Mq hw5 (by omega)) (Ah _),hq5,_,_,_,_,by simp only[Au,A1,Aa4];rfl,rfl⟩
      | some bt=>
       obtain⟨b,ts9⟩:=bt;rw[hb]at h5;obtain⟨rfl,h5⟩:=h5;have hbs:=Bu b;have hbc:=Ej hbs;refine Ac d4 ?_;simp only[go_sem,ht5,h12 _ _ hl5,hz6,hcu',hbc];exact⟨_,[.agg [.str nm,.int .i64 tk.line,SL true 0 ((L++[w]).map I7),SL true 0 (b.map Sp.row)],.bool true],q5,B0 (h11 _ _ (by rw[Gr];exact hl5)) rfl rfl rfl,U4 hg5 hbs,Uo (Ff (Ff hg5 (by omega)) (by omega)) hbs,(fun j hj=>by have:=U3 hg5 hbs j hj;omega),U5 hbs,Mq (Mq hw5 (by omega)) (Ah _),hq5,rfl,h5⟩
     ·have h41b:As [41] (A.drop (q+1))=false:=by simpa using h41b
      rw[if_neg (by rw[h41b];decide)]at hinv;simp only[Option.map_none]at hinv;rw[hinv];have d3:=N9 hw3.2.2.1 hl hq1 h41b;rw[e3]at d3;simp only[go_sem];refine Ac d1 ?_;simp only[go_sem,ht1,ha,ht2,hcu',hcc,hca];refine Ac d2 ?_;simp only[go_sem];refine Ac d3 ?_;rw[<-e3];simp only[go_sem,ht3,hz3,hcu'];exact⟨_,[.agg [.str nm,.int .i64 tk.line,SL true 0 ((L++[w]).map I7),.nils],.bool false],(q+1),B0 (h11 _ _ (hl3)) rfl rfl rfl,U4 hg3 rfl,Uo (Ff hg3 (by omega)) rfl,(fun j hj=>by have:=U3 hg3 rfl j hj;omega),U5 rfl,Mq hw3 (Ah _),hq1,_,_,_,_,by simp only[Au,A1,Aa4];rfl,rfl⟩
