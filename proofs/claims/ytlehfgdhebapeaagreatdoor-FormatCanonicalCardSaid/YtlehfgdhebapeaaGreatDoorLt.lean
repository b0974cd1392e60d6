/- Walks: the parser's threads. -/
import Derived.Test.YtlehfgdhebapeaaGreatDoorLs
import Derived.Test.YtlehfgdhebapeaaGreatDoorHx
set_option linter.all false
namespace Go.Proofs.YtlehfgdhebapeaaGreatDoor.KM
open Go
theorem Zg:∀ (js:List Nat) (σ:St) (n:Nat),(∀ i∈js,n<=i)->∀ j,j<n->(σ.freeze js)[j]?=σ[j]?
 | [],_,_,_,_,_=>rfl
 | i::js,σ,n,h,j,hj=>by
  have hi:=h i Co
  simp only[St.freeze]
  split
  ·rw[Zg js _ n (fun k hk=>h k (Cb _ hk)) j hj,Bd (by omega)]
  ·exact Zg js _ n (fun k hk=>h k (Cb _ hk)) j hj
theorem Ajk{z:Bool}{t:Nat}{A:List Tk}{f m q0:Nat}{res:List AR}{thr:Bool}{body:AC}{s:St}{R:V->Nat->Prop}(hT:TT f=some ⟨1,res,thr,body,none⟩)(hs:s[m]?=some (RO z t A q0))
  (h:∀ S,RdS s m z t A S->W TT PT [.c body] (Cu 0 [.ptr m 0 0]) (S q0) (Hd fun e' σ1=>∃ vs vs' q,By e' σ1 res=some (.tup vs)/\vs.all Ho=true/\OVs σ1 vs vs'/\(∀ j∈Aw vs,s.length<=j)/\Aw vs'=[]/\RW s σ1 m z t A q/\q<=A.length/\R (.tup vs') q)):RT f [] s m z t A R:=by
 have h:=h _ (Aie z t A (Ay.1 hs).1)
 rw[I1 hs]at h
 obtain⟨e',σ1,hE,vs,vs',q,hr,hok,hov,hlo,hre,hw,hq,hR⟩:=h
 have hfr:=Zg (Aw vs) σ1 s.length hlo
 have hw2:RW s (σ1.freeze (Aw vs)) m z t A q:=Nd hw (by rw[Qj];exact hw.1) hfr
 refine⟨_,q,?_,hq,hR⟩
 rw[<-Aih hw2]
 refine Zm hT rfl rfl ⟨e',σ1,hE,.tup vs,Aw vs,hr,hok,?_,?_,Aii hw2,rfl⟩
 ·exact congrArg (Option.map V.tup) (Wv hov fun j hj=>hj)
 ·show Dh s.length [] (Aw vs')=true
  rw[hre];rfl
theorem Akm{s:St}{m:Nat}{z:Bool}{t:Nat}{A:List Tk}{S:Nat->St}(hS:RdS s m z t A S){p0:Nat}(hs:s[m]?=some (RO z t A p0))(q:Nat)(l:St):RW s (S q++l) m z t A q:=by
 rw[hS.eq]
 exact W7 (Md (Aa2 hs) q)
theorem L7{s σ:St}{m:Nat}{z:Bool}{t:Nat}{A:List Tk}{q j:Nat}{x:Ob}(h:RW s σ m z t A q)(hj:s.length<=j):RW s (σ.set j x) m z t A q:=by
 have:=h.2.2.2
 exact Nd h (by rw[Fi];exact h.1) fun i hi=>Bd (by omega)
def PRt(A:List Tk)(o:Option (Tp × List Tk))(v:V)(p':Nat):Prop:=match o with
 | some (x,r)=>v=.tup [.agg x.row,.bool true]/\A.drop p'=r
 | none=>∃ d0 d1 d2 d3:V,[d0,d1,d2,d3].all V.rowB=true/\v=.tup [.agg [d0,d1,d2,d3],.bool false]
theorem Zw(L:List (List UInt8)):(SL true 0 (L.map Ez)).rowB=true:=by
 unfold SL
 split<;>rfl
theorem Aij(z:Bool)(t:Nat)(xs:List (List V)):(SL z t xs).refs=[]:=by unfold SL;split<;>rfl
theorem T7{σ:St}{e lo:Nat}{u:V}{L:List (List UInt8)}{nm:List UInt8}{ln:Int}{w:V}{b:Bool}(hg:GW σ 1 e lo u (L.map Ez))(hw:w.rowB=true):OVs σ [.agg [.str nm,.int .i64 ln,u,w],.bool b] [.agg [.str nm,.int .i64 ln,SL true 0 (L.map Ez),w],.bool b]:=
 .cons (Abd (.cons (Xd rfl) (.cons (Xd rfl) (.cons (Ns hg (by omega) (by intro r hr;obtain⟨x,-,rfl⟩:=E4.1 hr;rfl) (by intro r hr;obtain⟨x,-,rfl⟩:=E4.1 hr;rfl)) (.cons (Xd hw) .nil))))) (.cons (K8 rfl) .nil)
theorem Ug{σ:St}{e lo:Nat}{u:V}{xs:List (List V)}{nm:List UInt8}{ln:Int}{w:V}{b:Bool}(hg:GW σ 1 e lo u xs)(hw:w.rowB=true):∀ j∈Aw [.agg [.str nm,.int .i64 ln,u,w],.bool b],lo<=j:=by
 have hwr:=S6 hw
 intro j hj
 simp only[Aw,V.refs,hwr,Ds,Bf]at hj
 rcases hg with⟨rfl,-⟩ | ⟨-,i,g,rfl,-,hlo⟩
 ·cases hj
 ·simp only[V.refs,J6]at hj
  omega
theorem Uh{σ:St}{e lo:Nat}{u:V}{xs:List (List V)}{nm:List UInt8}{ln:Int}{w:V}{b:Bool}(hg:GW σ 1 e lo u xs)(hw:w.rowB=true):[V.agg [.str nm,.int .i64 ln,u,w],.bool b].all Ho=true:=by
 have h1:=Em hg
 have h2:=D9 hw
 show([V.str nm,.int .i64 ln,u,w].all V.cellB&&(Ho (.bool b)&&true))=true
 rw[show([V.str nm,.int .i64 ln,u,w].all V.cellB)=true from by simp only[Ar,A3,h1,h2];rfl]
 rfl
theorem Ui{L:List (List UInt8)}{nm:List UInt8}{ln:Int}{w:V}{b:Bool}(hw:w.rowB=true):Aw [.agg [.str nm,.int .i64 ln,SL true 0 (L.map Ez),w],.bool b]=[]:=by
 simp only[Aw,V.refs,Aij,S6 hw,Ds]
set_option maxHeartbeats 4000000 in
theorem Am8{n:Nat}{s:St}{m:Nat}{z:Bool}{t:Nat}{A:List Tk}{p:Nat}(hA:OkA A)(hT:C0 A)(hs:s[m]?=some (RO z t A p))(hp:p<A.length)(hf:10*(A.length - p)+2<=n):RT 82 [] s m z t A (PRt A (Mm n (A.drop p))):=by
 have hl:A.length<=1000000:=by have:=hA.len;omega
 have hm:=(Ay.1 hs).1
 refine Ajk T82 hs fun S hS=>?_
 have hS':=hS
 have hrwS:=Akm hS' hs
 have hnx:=Nj (hS'.get p [.row [.str [],.int .i64 0,.nils,.nils] 80 0 0]) hl (Nat.le_of_lt hp)
 have hinq:=Cr (show p<9223372036854775807 by omega)
 have hp1:p+1<=A.length:=hp
 rw[Iq hp,Mm]
 generalize htk:Aa A p=tk at hnx
 cases hn:B8 (A.drop (p+1)) with
 | none=>
  have c1:=Uy hS' (p:=p+1) [.row [.str [],.int .i64 0,.nils,.nils] 80 0 0,.row [.str [],.int .i64 tk.line,.nils,.nils] 80 0 0] hl hp1 hn
  obtain⟨-,-,hlen,get,get0,set,set0,n0,n1,n2,u0,u1,u2⟩:=hS
  simp only[go_sem,hlen,get,get0,set,set0,n0,n1,n2,u0,u1,u2,LZ]
  refine Ab hnx ?_
  simp only[go_sem,hlen,get,get0,set,set0,n0,n1,n2,u0,u1,u2,LZ,hinq]
  refine Ab c1 ?_
  simp only[go_sem,hlen,get,get0,set,set0,n0,n1,n2,u0,u1,u2,LZ]
  exact⟨_,_,_,Bu (n0 _ _ _) rfl rfl rfl,rfl,.cons (K8 rfl) (.cons (K8 rfl) .nil),(fun j hj=>by cases hj),rfl,hrwS _ _,hp1,_,_,_,_,rfl,rfl⟩
 | some nt=>
  obtain⟨nm,ts⟩:=nt
  obtain⟨c1,hlt1,h3⟩:=Ya hS' (p:=p+1) [.row [.str [],.int .i64 0,.nils,.nils] 80 0 0,.row [.str [],.int .i64 tk.line,.nils,.nils] 80 0 0] hl hp1 hn
  simp only
  rw[<-h3]
  unfold Ct
  have hp2:p+1+1<=A.length:=hlt1
  by_cases h40:Ak [40] (A.drop (p+1+1))=true
  case neg=>
   have h40:Ak [40] (A.drop (p+1+1))=false:=by simpa using h40
   rw[if_neg (by rw[h40];decide)]
   have c2:=G8 hS' (p:=p+1+1) [.row [.str [],.int .i64 0,.nils,.nils] 80 0 0,.row [.str nm,.int .i64 tk.line,.nils,.nils] 80 0 0] hl hp2 h40
   obtain⟨-,-,hlen,get,get0,set,set0,n0,n1,n2,u0,u1,u2⟩:=hS
   simp only[go_sem,hlen,get,get0,set,set0,n0,n1,n2,u0,u1,u2,LZ]
   refine Ab hnx ?_
   simp only[go_sem,hlen,get,get0,set,set0,n0,n1,n2,u0,u1,u2,LZ,hinq]
   refine Ab c1 ?_
   simp only[go_sem,hlen,get,get0,set,set0,n0,n1,n2,u0,u1,u2,LZ]
   refine Ab c2 ?_
   simp only[go_sem,hlen,get,get0,set,set0,n0,n1,n2,u0,u1,u2,LZ]
   exact⟨_,_,_,Bu (n0 _ _ _) rfl rfl rfl,rfl,.cons (K8 rfl) (.cons (K8 rfl) .nil),(fun j hj=>by cases hj),rfl,hrwS _ _,hp2,_,_,_,_,rfl,rfl⟩
  rw[if_pos h40]
  simp only
  rw[<-Dd]
  have c2:=H2 hS' (p:=p+1+1) [.row [.str [],.int .i64 0,.nils,.nils] 80 0 0,.row [.str nm,.int .i64 tk.line,.nils,.nils] 80 0 0] hl h40
  have hp3:p+1+1+1<=A.length:=Db h40
  unfold Ur
  by_cases h41:Ak [41] (A.drop (p+1+1+1))=true
  ·rw[if_pos h41]
   simp only
   rw[<-Dd]
   have c3:=H2 hS' (p:=p+1+1+1) [.row [.str [],.int .i64 0,.nils,.nils] 80 0 0,.row [.str nm,.int .i64 tk.line,.nils,.nils] 80 0 0] hl h41
   have hp4:p+1+1+1+1<=A.length:=Db h41
   obtain⟨v,q,c4,hq,h4⟩:=Lb hS' (p:=p+1+1+1+1) (l:=[.row [.str [],.int .i64 0,.nils,.nils] 80 0 0,.row [.str nm,.int .i64 tk.line,.nils,.nils] 80 0 0]) fun hs=>(Ag0 n).2 _ m z t A _ hA hT hs hp4 (by omega)
   obtain⟨-,-,hlen,get,get0,set,set0,n0,n1,n2,u0,u1,u2⟩:=hS
   simp only[go_sem,hlen,get,get0,set,set0,n0,n1,n2,u0,u1,u2,LZ]
   refine Ab hnx ?_
   simp only[go_sem,hlen,get,get0,set,set0,n0,n1,n2,u0,u1,u2,LZ,hinq]
   refine Ab c1 ?_
   simp only[go_sem,hlen,get,get0,set,set0,n0,n1,n2,u0,u1,u2,LZ]
   refine Ab c2 ?_
   simp only[go_sem,hlen,get,get0,set,set0,n0,n1,n2,u0,u1,u2,LZ]
   refine Ab c3 ?_
   simp only[go_sem,hlen,get,get0,set,set0,n0,n1,n2,u0,u1,u2,LZ]
   unfold U5 at h4
   cases hb:Dy n (A.drop (p+1+1+1+1)) with
   | none=>
    rw[hb]at h4
    subst h4
    refine Ab c4 ?_
    simp only[go_sem,hlen,get,get0,set,set0,n0,n1,n2,u0,u1,u2,LZ]
    exact⟨_,_,_,Bu (n0 _ _ _) rfl rfl rfl,rfl,.cons (K8 rfl) (.cons (K8 rfl) .nil),(fun j hj=>by cases hj),rfl,hrwS _ _,hq,_,_,_,_,rfl,rfl⟩
   | some bt=>
    obtain⟨b,ts9⟩:=bt
    rw[hb]at h4
    obtain⟨rfl,h4⟩:=h4
    have hbs:=Bo b
    refine Ab c4 ?_
    simp only[go_sem,hlen,get,get0,set,set0,n0,n1,n2,u0,u1,u2,LZ]
    exact⟨_,[.agg [.str nm,.int .i64 tk.line,.nils,SL true 0 (b.map Sp.row)],.bool true],_,Bu (n0 _ _ _) rfl rfl rfl,Uh (σ:=[]) (e:=0) (lo:=0) Gc hbs,T7 (L:=[]) (e:=0) (lo:=0) Gc hbs,Ug (σ:=[]) (e:=0) (lo:=s.length) (xs:=[]) Gc hbs,Ui (L:=[]) hbs,hrwS _ _,hq,rfl,h4⟩
  ·have h41:Ak [41] (A.drop (p+1+1+1))=false:=by simpa using h41
   rw[if_neg (by rw[h41];decide)]
   have c3:=G8 hS' (p:=p+1+1+1) [.row [.str [],.int .i64 0,.nils,.nils] 80 0 0,.row [.str nm,.int .i64 tk.line,.nils,.nils] 80 0 0] hl hp3 h41
   obtain⟨-,-,hlen,get,get0,set,set0,n0,n1,n2,u0,u1,u2⟩:=hS
   simp only[go_sem,hlen,get,get0,set,set0,n0,n1,n2,u0,u1,u2,LZ]
   refine Ab hnx ?_
   simp only[go_sem,hlen,get,get0,set,set0,n0,n1,n2,u0,u1,u2,LZ,hinq]
   refine Ab c1 ?_
   simp only[go_sem,hlen,get,get0,set,set0,n0,n1,n2,u0,u1,u2,LZ]
   refine Ab c2 ?_
   simp only[go_sem,hlen,get,get0,set,set0,n0,n1,n2,u0,u1,u2,LZ]
   refine Ab c3 ?_
   simp only[go_sem,hlen,get,get0,set,set0,n0,n1,n2,u0,u1,u2,LZ]
   refine En (α:=Nat × Nat × V × List (List UInt8) × St) (fun a=>a.1) (fun a=>[(0,.ptr m 0 0),(2,.ptr s.length 0 0),(4,.ptr (s.length+1) 0 0)]) (fun a=>a.2.2.2.2) (fun a=>a.1<=n/\a.2.1<=A.length/\A.length - a.2.1<a.1/\RW s a.2.2.2.2 m z t A a.2.1/\a.2.2.2.2[s.length]?=some (.row [.str [],.int .i64 0,.nils,.nils] 80 0 0)/\a.2.2.2.2[s.length+1]?=some (.row [.str nm,.int .i64 tk.line,a.2.2.1,.nils] 80 0 0)/\GW a.2.2.2.2 1 9 (s.length+2) a.2.2.1 (a.2.2.2.1.map Ez)/\Hc n (A.drop (p+1+1+1))=(Hc a.1 (A.drop a.2.1)).map (fun y=>(a.2.2.2.1++y.1,y.2))/\a.2.2.2.1.length<=a.2.1/\s.length+2<=a.2.2.2.2.length/\p+1<=a.2.1) ?_ (n,p+1+1+1,.nils,[],S (p+1+1+1)++[.row [.str [],.int .i64 0,.nils,.nils] 80 0 0,.row [.str nm,.int .i64 tk.line,.nils,.nils] 80 0 0]) ⟨Af _,hp3,by simp only;omega,hrwS _ _,n0 _ _ _,n1 _ _ _ _,Gc,by simp only[Bf];cases Hc n (A.drop (p+1+1+1))<;>rfl,by simp,by simp[hlen],by simp only;omega⟩
   rintro⟨k,q,u,L,σ⟩ ⟨hkn,hq,hbk,hw,hz4,ht4,hg,hinv,hLq,hlen2,hpq⟩ ih
   simp only at hkn hq hbk hw hz4 ht4 hg hinv hLq hlen2 hpq ih
   obtain⟨k,rfl⟩:∃ j,k=j+1:=⟨k - 1,by omega⟩
   have hrl:∀ r∈L.map Ez,r.length=1:=by intro r hr;obtain⟨x,-,rfl⟩:=E4.1 hr;rfl
   have hcu:=Em hg
   have h12:∀ (τ:St) (ob:Ob),s.length+2<=τ.length->(τ.set (s.length+1) ob)[s.length+1]?=some ob:=fun τ ob h=>A1 (by omega)
   have h11:∀ (τ:St) (ob:Ob),s.length+2<=τ.length->(τ.set s.length ob)[s.length]?=some ob:=fun τ ob h=>A1 (by omega)
   refine Eo (by delta lp82_0;exact rfl) ?_
   cases hnq:B8 (A.drop q) with
   | none=>
    have d1:=(Rp hw.2.2.1 hl hq).2 hnq
    have ho:Hc (k+1) (A.drop q)=none:=by rw[Hc,hnq]
    rw[ho]at hinv
    rw[hinv]
    simp only[go_sem]
    refine Ab d1 ?_
    simp only[go_sem,ht4,hz4,hcu]
    exact⟨_,[.agg [.str nm,.int .i64 tk.line,SL true 0 ((L).map Ez),.nils],.bool false],q,Bu (h11 _ _ (hlen2)) rfl rfl rfl,Uh hg rfl,T7 (Dt hg (by omega)) rfl,(fun j hj=>by have:=Ug hg rfl j hj;omega),Ui rfl,L7 hw (Af _),hq,_,_,_,_,by simp only[Ar,A3,Zw];rfl,rfl⟩
   | some wr=>
    obtain⟨w,r⟩:=wr
    obtain⟨d1,hltq,hrr⟩:=(Rp hw.2.2.1 hl hq).1 w r hnq
    have ho:Hc (k+1) (A.drop q)=if Ak [44] r then(match Hc k r.tail with
      | none=>none
      | some (l,r)=>some (w::l,r)) else(Ct [41] r).map fun ts=>([w],ts):=by
     rw[Hc,hnq]
     rfl
    rw[ho]at hinv
    have hw1:=Md hw (q+1)
    have hg1:GW (σ.set m (RO z t A (q+1))) 1 9 (s.length+2) u (L.map Ez):=Dt hg (by omega)
    have hl1:(σ.set m (RO z t A (q+1))).length=σ.length:=Fi
    have hz1:(σ.set m (RO z t A (q+1)))[s.length]?=some (.row [.str [],.int .i64 0,.nils,.nils] 80 0 0):=by rw[Bd (by omega)];exact hz4
    have ht1:(σ.set m (RO z t A (q+1)))[s.length+1]?=some (.row [.str nm,.int .i64 tk.line,u,.nils] 80 0 0):=by rw[Bd (by omega)];exact ht4
    generalize σ.set m (RO z t A (q+1))=τ1 at d1 hw1 hg1 hl1 hz1 ht1
    obtain⟨u',τ2,ha,hg2,hl2,-,hk2⟩:=Mb (bytes:=16) (y:=.lst 1 [[.str w]]) (ys:=[[.str w]]) hg1 (by omega) rfl (by omega) hrl (by simp) (by simp;omega)
    have hw2:RW s τ2 m z t A (q+1):=Nd hw1 (by omega) fun j hj=>hk2 j (by omega)
    have hcu':=Em hg2
    obtain⟨hcc,hca⟩:=Ou hcu'
    obtain⟨τ3,e3⟩:∃ τ:St,τ=τ2.set (s.length+1) (.row [.str nm,.int .i64 tk.line,u',.nils] 80 0 0):=⟨_,rfl⟩
    have hw3:RW s τ3 m z t A (q+1):=by rw[e3];exact Nd hw2 (by rw[Fi];omega) fun j hj=>Bd (by omega)
    have hg3:GW τ3 1 9 (s.length+2) u' ((L++[w]).map Ez):=by rw[e3,Oq];exact Dt hg2 (by omega)
    have hl3:s.length+2<=τ3.length:=by rw[e3,Fi];omega
    have hz3:τ3[s.length]?=some (.row [.str [],.int .i64 0,.nils,.nils] 80 0 0):=by rw[e3,Bd (by omega),hk2 _ (by omega)];exact hz1
    have ht3:τ3[s.length+1]?=some (.row [.str nm,.int .i64 tk.line,u',.nils] 80 0 0):=by rw[e3];exact h12 _ _ (by omega)
    have ht2:τ2[s.length+1]?=some (.row [.str nm,.int .i64 tk.line,u,.nils] 80 0 0):=by rw[hk2 _ (by omega)];exact ht1
    have hq1:q+1<=A.length:=hltq
    by_cases h44:Ak [44] r=true
    ·rw[if_pos h44]at hinv
     rw[<-hrr]at h44 hinv
     have d2:=N4 hw3.2.2.1 hl h44
     have hlt44:=Db h44
     rw[e3]at d2
     simp only[go_sem]
     refine Ab d1 ?_
     simp only[go_sem,ht1,ha,ht2,hcu',hcc,hca]
     refine Ab d2 ?_
     rw[<-e3]
     simp only[go_sem]
     refine C5 (ih (k,q+1+1,u',L++[w],τ3.set m (RO z t A (q+1+1))) (by simp) ⟨by simp only;omega,hlt44,by simp only;omega,Md hw3 _,by simp only;rw[Bd (by omega)];exact hz3,by simp only;rw[Bd (by omega)];exact ht3,Dt hg3 (by omega),?_,by simp;omega,by simp only[Fi];exact hl3,by simp only;omega⟩) rfl
     simp only
     rw[hinv,<-Dd]
     cases Hc k (A.drop (q+1+1)) with
     | none=>rfl
     | some y=>simp
    ·have h44:Ak [44] r=false:=by simpa using h44
     rw[if_neg (by rw[h44];decide)]at hinv
     rw[<-hrr]at h44 hinv
     have d2:=N5 hw3.2.2.1 hl hq1 h44
     rw[e3]at d2
     unfold Ct at hinv
     by_cases h41b:Ak [41] (A.drop (q+1))=true
     ·rw[if_pos h41b]at hinv
      simp only[G1]at hinv
      rw[hinv]
      simp only
      rw[<-Dd]
      have d3:=N4 hw3.2.2.1 hl h41b
      have hlt41:=Db h41b
      have hw4:=Md hw3 (q+1+1)
      obtain⟨v,q5,d4,hq5,h5⟩:=(Ag0 n).2 (τ3.set m (RO z t A (q+1+1))) m z t A (q+1+1) hA hT hw4.2.2.1 hlt41 (by omega)
      rw[Sv]at d4
      have hw5:=Md hw3 q5
      have hg5:GW (τ3.set m (RO z t A q5)) 1 9 (s.length+2) u' ((L++[w]).map Ez):=Dt hg3 (by omega)
      have hl5:s.length+2<=(τ3.set m (RO z t A q5)).length:=by rw[Fi];exact hl3
      have hz5:(τ3.set m (RO z t A q5))[s.length]?=some (.row [.str [],.int .i64 0,.nils,.nils] 80 0 0):=by rw[Bd (by omega)];exact hz3
      have ht5:(τ3.set m (RO z t A q5))[s.length+1]?=some (.row [.str nm,.int .i64 tk.line,u',.nils] 80 0 0):=by rw[Bd (by omega)];exact ht3
      generalize τ3.set m (RO z t A q5)=τ5 at d4 hw5 hg5 hl5 hz5 ht5
      have hz6:∀ ob:Ob,(τ5.set (s.length+1) ob)[s.length]?=some (.row [.str [],.int .i64 0,.nils,.nils] 80 0 0):=fun ob=>by rw[Bd (by omega)];exact hz5
      rw[e3]at d3
      unfold U5 at h5
      simp only[go_sem]
      refine Ab d1 ?_
      simp only[go_sem,ht1,ha,ht2,hcu',hcc,hca]
      refine Ab d2 ?_
      simp only[go_sem]
      refine Ab d3 ?_
      rw[<-e3]
      simp only[go_sem]
      cases hb:Dy n (A.drop (q+1+1)) with
      | none=>
       rw[hb]at h5
       subst h5
       refine Ab d4 ?_
       simp only[go_sem,ht5,h12 _ _ hl5,hz6,hcu']
       exact⟨_,[.agg [.str nm,.int .i64 tk.line,SL true 0 ((L++[w]).map Ez),.nils],.bool false],q5,Bu (h11 _ _ (by rw[Fi];exact hl5)) rfl rfl rfl,Uh hg5 rfl,T7 (Dt (Dt hg5 (by omega)) (by omega)) rfl,(fun j hj=>by have:=Ug hg5 rfl j hj;omega),Ui rfl,L7 (L7 hw5 (by omega)) (Af _),hq5,_,_,_,_,by simp only[Ar,A3,Zw];rfl,rfl⟩
      | some bt=>
       obtain⟨b,ts9⟩:=bt
       rw[hb]at h5
       obtain⟨rfl,h5⟩:=h5
       have hbs:=Bo b
       have hbc:=D9 hbs
       refine Ab d4 ?_
       simp only[go_sem,ht5,h12 _ _ hl5,hz6,hcu',hbc]
       exact⟨_,[.agg [.str nm,.int .i64 tk.line,SL true 0 ((L++[w]).map Ez),SL true 0 (b.map Sp.row)],.bool true],q5,Bu (h11 _ _ (by rw[Fi];exact hl5)) rfl rfl rfl,Uh hg5 hbs,T7 (Dt (Dt hg5 (by omega)) (by omega)) hbs,(fun j hj=>by have:=Ug hg5 hbs j hj;omega),Ui hbs,L7 (L7 hw5 (by omega)) (Af _),hq5,rfl,h5⟩
     ·have h41b:Ak [41] (A.drop (q+1))=false:=by simpa using h41b
      rw[if_neg (by rw[h41b];decide)]at hinv
      simp only[Option.map_none]at hinv
      rw[hinv]
      have d3:=N5 hw3.2.2.1 hl hq1 h41b
      rw[e3]at d3
      simp only[go_sem]
      refine Ab d1 ?_
      simp only[go_sem,ht1,ha,ht2,hcu',hcc,hca]
      refine Ab d2 ?_
      simp only[go_sem]
      refine Ab d3 ?_
      rw[<-e3]
      simp only[go_sem,ht3,hz3,hcu']
      exact⟨_,[.agg [.str nm,.int .i64 tk.line,SL true 0 ((L++[w]).map Ez),.nils],.bool false],(q+1),Bu (h11 _ _ (hl3)) rfl rfl rfl,Uh hg3 rfl,T7 (Dt hg3 (by omega)) rfl,(fun j hj=>by have:=Ug hg3 rfl j hj;omega),Ui rfl,L7 hw3 (Af _),hq1,_,_,_,_,by simp only[Ar,A3,Zw];rfl,rfl⟩
end Go.Proofs.YtlehfgdhebapeaaGreatDoor.KM
