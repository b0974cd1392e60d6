/- Walks: the parser's threads. -/
import Derived.Test.YtcoeikinocflnaaGreatDoorLs
import Derived.Test.YtcoeikinocflnaaGreatDoorHx
set_option linter.all false
namespace Go.Proofs.YtcoeikinocflnaaGreatDoor.KM
open Go
theorem Zm:∀ (js:List Nat) (σ:St) (n:Nat),(∀ i∈js,n<=i)->∀ j,j<n->(σ.freeze js)[j]?=σ[j]?
 | [],_,_,_,_,_=>rfl
 | i::js,σ,n,h,j,hj=>by
  have hi:=h i Dm
  simp only[St.freeze]
  split
  ·rw[Zm js _ n (fun k hk=>h k (Db _ hk)) j hj,B5 (by omega)]
  ·exact Zm js _ n (fun k hk=>h k (Db _ hk)) j hj
theorem Aj7{z:Bool}{t:Nat}{A:List Tk}{f m q0:Nat}{res:List AR}{thr:Bool}{body:AC}{s:St}{R:V->Nat->Prop}(hT:TT f=some ⟨1,res,thr,body,none⟩)(hs:s[m]?=some (RO z t A q0))
  (h:∀ S,RdS s m z t A S->W TT PT [.c body] (Df 0 [.ptr m 0 0]) (S q0) (Hd fun e' σ1=>∃ vs vs' q,B2 e' σ1 res=some (.tup vs)/\vs.all Gw=true/\OVs σ1 vs vs'/\(∀ j∈Aq vs,s.length<=j)/\Aq vs'=[]/\RW s σ1 m z t A q/\q<=A.length/\R (.tup vs') q)):RT f [] s m z t A R:=by
 have h:=h _ (Aiz z t A (Au.1 hs).1)
 rw[Jn hs]at h
 obtain⟨e',σ1,hE,vs,vs',q,hr,hok,hov,hlo,hre,hw,hq,hR⟩:=h
 have hfr:=Zm (Aq vs) σ1 s.length hlo
 have hw2:RW s (σ1.freeze (Aq vs)) m z t A q:=M4 hw (by rw[Qi];exact hw.1) hfr
 refine⟨_,q,?_,hq,hR⟩
 rw[<-Ai1 hw2]
 refine Afg hT rfl rfl ⟨e',σ1,hE,.tup vs,Aq vs,hr,hok,?_,?_,Ai2 hw2,rfl⟩
 ·exact congrArg (Option.map V.tup) (Tu hov fun j hj=>hj)
 ·show D1 s.length [] (Aq vs')=true
  rw[hre];rfl
theorem Ale{s:St}{m:Nat}{z:Bool}{t:Nat}{A:List Tk}{S:Nat->St}(hS:RdS s m z t A S){p0:Nat}(hs:s[m]?=some (RO z t A p0))(q:Nat)(l:St):RW s (S q++l) m z t A q:=by
 rw[hS.eq]
 exact Xd (L4 (Abd hs) q)
theorem Lw{s σ:St}{m:Nat}{z:Bool}{t:Nat}{A:List Tk}{q j:Nat}{x:Ob}(h:RW s σ m z t A q)(hj:s.length<=j):RW s (σ.set j x) m z t A q:=by
 have:=h.2.2.2
 exact M4 h (by rw[Hx];exact h.1) fun i hi=>B5 (by omega)
def PRt(A:List Tk)(o:Option (Tp × List Tk))(v:V)(p':Nat):Prop:=match o with
 | some (x,r)=>v=.tup [.agg x.row,.bool true]/\A.drop p'=r
 | none=>∃ d0 d1 d2 d3:V,[d0,d1,d2,d3].all V.rowB=true/\v=.tup [.agg [d0,d1,d2,d3],.bool false]
theorem Z8(L:List (List UInt8)):(SL true 0 (L.map Io)).rowB=true:=by
 unfold SL
 split<;>rfl
theorem Ai3(z:Bool)(t:Nat)(xs:List (List V)):(SL z t xs).refs=[]:=by unfold SL;split<;>rfl
theorem T3{σ:St}{e lo:Nat}{u:V}{L:List (List UInt8)}{nm:List UInt8}{ln:Int}{w:V}{b:Bool}(hg:GW σ 1 e lo u (L.map Io))(hw:w.rowB=true):OVs σ [.agg [.str nm,.int .i64 ln,u,w],.bool b] [.agg [.str nm,.int .i64 ln,SL true 0 (L.map Io),w],.bool b]:=
 .cons (Ajs (.cons (Xl rfl) (.cons (Xl rfl) (.cons (Rm hg (by omega) (by intro r hr;obtain⟨x,-,rfl⟩:=Dc.1 hr;rfl) (by intro r hr;obtain⟨x,-,rfl⟩:=Dc.1 hr;rfl)) (.cons (Xl hw) .nil))))) (.cons (K2 rfl) .nil)
theorem Ug{σ:St}{e lo:Nat}{u:V}{xs:List (List V)}{nm:List UInt8}{ln:Int}{w:V}{b:Bool}(hg:GW σ 1 e lo u xs)(hw:w.rowB=true):∀ j∈Aq [.agg [.str nm,.int .i64 ln,u,w],.bool b],lo<=j:=by
 have hwr:=Wf hw
 intro j hj
 simp only[Aq,V.refs,hwr,Cx,Bw]at hj
 rcases hg with⟨rfl,-⟩ | ⟨-,i,g,rfl,-,hlo⟩
 ·cases hj
 ·simp only[V.refs,Mj]at hj
  omega
theorem Uh{σ:St}{e lo:Nat}{u:V}{xs:List (List V)}{nm:List UInt8}{ln:Int}{w:V}{b:Bool}(hg:GW σ 1 e lo u xs)(hw:w.rowB=true):[V.agg [.str nm,.int .i64 ln,u,w],.bool b].all Gw=true:=by
 have h1:=Ep hg
 have h2:=Eb hw
 show([V.str nm,.int .i64 ln,u,w].all V.cellB&&(Gw (.bool b)&&true))=true
 rw[show([V.str nm,.int .i64 ln,u,w].all V.cellB)=true from by simp only[Am,Av,h1,h2];rfl]
 rfl
theorem Ui{L:List (List UInt8)}{nm:List UInt8}{ln:Int}{w:V}{b:Bool}(hw:w.rowB=true):Aq [.agg [.str nm,.int .i64 ln,SL true 0 (L.map Io),w],.bool b]=[]:=by
 simp only[Aq,V.refs,Ai3,Wf hw,Cx]
set_option maxHeartbeats 4000000 in
theorem Aof{n:Nat}{s:St}{m:Nat}{z:Bool}{t:Nat}{A:List Tk}{p:Nat}(hA:OkA A)(hT:C0 A)(hs:s[m]?=some (RO z t A p))(hp:p<A.length)(hf:10*(A.length - p)+2<=n):RT 88 [] s m z t A (PRt A (Md n (A.drop p))):=by
 have hl:A.length<=1000000:=by have:=hA.len;omega
 have hm:=(Au.1 hs).1
 refine Aj7 T88 hs fun S hS=>?_
 have hS':=hS
 have hrwS:=Ale hS' hs
 have hnx:=Na (hS'.get p [.row [.str [],.int .i64 0,.nils,.nils] 91 0 0]) hl (Ln hp)
 have hinq:=Bq (show p<9223372036854775807 by omega)
 have hp1:p+1<=A.length:=hp
 rw[Ii hp,Md]
 generalize htk:Aa A p=tk at hnx
 cases hn:B4 (A.drop (p+1)) with
 | none=>
  have c1:=U4 hS' (p:=p+1) [.row [.str [],.int .i64 0,.nils,.nils] 91 0 0,.row [.str [],.int .i64 tk.line,.nils,.nils] 91 0 0] hl hp1 hn
  have Zq:=Ck hS
  obtain⟨-,-,hlen,get,get0,set,set0,n0,n1,n2,u0,u1,u2⟩:=hS
  simp only[go_sem,Zq,LZ]
  refine Ac hnx ?_
  simp only[go_sem,Zq,LZ,hinq]
  refine Ac c1 ?_
  simp only[go_sem,Zq,LZ]
  exact⟨_,_,_,Bh (n0 _ _ _) rfl rfl rfl,rfl,.cons (K2 rfl) (.cons (K2 rfl) .nil),(fun j hj=>by cases hj),rfl,hrwS _ _,hp1,_,_,_,_,rfl,rfl⟩
 | some nt=>
  obtain⟨nm,ts⟩:=nt
  obtain⟨c1,hlt1,h3⟩:=Yj hS' (p:=p+1) [.row [.str [],.int .i64 0,.nils,.nils] 91 0 0,.row [.str [],.int .i64 tk.line,.nils,.nils] 91 0 0] hl hp1 hn
  simp only
  rw[<-h3]
  unfold Co
  have hp2:p+1+1<=A.length:=hlt1
  by_cases h40:Ai [40] (A.drop (p+1+1))=true
  case neg=>
   have h40:Ai [40] (A.drop (p+1+1))=false:=by simpa using h40
   rw[if_neg (by rw[h40];decide)]
   have c2:=Gz hS' (p:=p+1+1) [.row [.str [],.int .i64 0,.nils,.nils] 91 0 0,.row [.str nm,.int .i64 tk.line,.nils,.nils] 91 0 0] hl hp2 h40
   have Zq:=Ck hS
   obtain⟨-,-,hlen,get,get0,set,set0,n0,n1,n2,u0,u1,u2⟩:=hS
   simp only[go_sem,Zq,LZ]
   refine Ac hnx ?_
   simp only[go_sem,Zq,LZ,hinq]
   refine Ac c1 ?_
   simp only[go_sem,Zq,LZ]
   refine Ac c2 ?_
   simp only[go_sem,Zq,LZ]
   exact⟨_,_,_,Bh (n0 _ _ _) rfl rfl rfl,rfl,.cons (K2 rfl) (.cons (K2 rfl) .nil),(fun j hj=>by cases hj),rfl,hrwS _ _,hp2,_,_,_,_,rfl,rfl⟩
  rw[if_pos h40]
  simp only
  rw[<-Dd]
  have c2:=H1 hS' (p:=p+1+1) [.row [.str [],.int .i64 0,.nils,.nils] 91 0 0,.row [.str nm,.int .i64 tk.line,.nils,.nils] 91 0 0] hl h40
  have hp3:p+1+1+1<=A.length:=C8 h40
  unfold Ur
  by_cases h41:Ai [41] (A.drop (p+1+1+1))=true
  ·rw[if_pos h41]
   simp only
   rw[<-Dd]
   have c3:=H1 hS' (p:=p+1+1+1) [.row [.str [],.int .i64 0,.nils,.nils] 91 0 0,.row [.str nm,.int .i64 tk.line,.nils,.nils] 91 0 0] hl h41
   have hp4:p+1+1+1+1<=A.length:=C8 h41
   obtain⟨v,q,c4,hq,h4⟩:=K4 hS' (p:=p+1+1+1+1) (l:=[.row [.str [],.int .i64 0,.nils,.nils] 91 0 0,.row [.str nm,.int .i64 tk.line,.nils,.nils] 91 0 0]) fun hs=>(Ahl n).2 _ m z t A _ hA hT hs hp4 (by omega)
   have Zq:=Ck hS
   obtain⟨-,-,hlen,get,get0,set,set0,n0,n1,n2,u0,u1,u2⟩:=hS
   simp only[go_sem,Zq,LZ]
   refine Ac hnx ?_
   simp only[go_sem,Zq,LZ,hinq]
   refine Ac c1 ?_
   simp only[go_sem,Zq,LZ]
   refine Ac c2 ?_
   simp only[go_sem,Zq,LZ]
   refine Ac c3 ?_
   simp only[go_sem,Zq,LZ]
   unfold Vd at h4
   cases hb:Dw n (A.drop (p+1+1+1+1)) with
   | none=>
    rw[hb]at h4
    subst h4
    refine Ac c4 ?_
    simp only[go_sem,Zq,LZ]
    exact⟨_,_,_,Bh (n0 _ _ _) rfl rfl rfl,rfl,.cons (K2 rfl) (.cons (K2 rfl) .nil),(fun j hj=>by cases hj),rfl,hrwS _ _,hq,_,_,_,_,rfl,rfl⟩
   | some bt=>
    obtain⟨b,ts9⟩:=bt
    rw[hb]at h4
    obtain⟨rfl,h4⟩:=h4
    have hbs:=Bb b
    refine Ac c4 ?_
    simp only[go_sem,Zq,LZ]
    exact⟨_,[.agg [.str nm,.int .i64 tk.line,.nils,SL true 0 (b.map Sp.row)],.bool true],_,Bh (n0 _ _ _) rfl rfl rfl,Uh (σ:=[]) (e:=0) (lo:=0) Fy hbs,T3 (L:=[]) (e:=0) (lo:=0) Fy hbs,Ug (σ:=[]) (e:=0) (lo:=s.length) (xs:=[]) Fy hbs,Ui (L:=[]) hbs,hrwS _ _,hq,rfl,h4⟩
  ·have h41:Ai [41] (A.drop (p+1+1+1))=false:=by simpa using h41
   rw[if_neg (by rw[h41];decide)]
   have c3:=Gz hS' (p:=p+1+1+1) [.row [.str [],.int .i64 0,.nils,.nils] 91 0 0,.row [.str nm,.int .i64 tk.line,.nils,.nils] 91 0 0] hl hp3 h41
   have Zq:=Ck hS
   obtain⟨-,-,hlen,get,get0,set,set0,n0,n1,n2,u0,u1,u2⟩:=hS
   simp only[go_sem,Zq,LZ]
   refine Ac hnx ?_
   simp only[go_sem,Zq,LZ,hinq]
   refine Ac c1 ?_
   simp only[go_sem,Zq,LZ]
   refine Ac c2 ?_
   simp only[go_sem,Zq,LZ]
   refine Ac c3 ?_
   simp only[go_sem,Zq,LZ]
   refine Cr (α:=Nat × Nat × V × List (List UInt8) × St) (fun a=>a.1) (fun a=>[(0,.ptr m 0 0),(2,.ptr s.length 0 0),(4,.ptr (s.length+1) 0 0)]) (fun a=>a.2.2.2.2) (fun a=>a.1<=n/\a.2.1<=A.length/\A.length - a.2.1<a.1/\RW s a.2.2.2.2 m z t A a.2.1/\a.2.2.2.2[s.length]?=some (.row [.str [],.int .i64 0,.nils,.nils] 91 0 0)/\a.2.2.2.2[s.length+1]?=some (.row [.str nm,.int .i64 tk.line,a.2.2.1,.nils] 91 0 0)/\GW a.2.2.2.2 1 9 (s.length+2) a.2.2.1 (a.2.2.2.1.map Io)/\G8 n (A.drop (p+1+1+1))=(G8 a.1 (A.drop a.2.1)).map (fun y=>(a.2.2.2.1++y.1,y.2))/\a.2.2.2.1.length<=a.2.1/\s.length+2<=a.2.2.2.2.length/\p+1<=a.2.1) ?_ (n,p+1+1+1,.nils,[],S (p+1+1+1)++[.row [.str [],.int .i64 0,.nils,.nils] 91 0 0,.row [.str nm,.int .i64 tk.line,.nils,.nils] 91 0 0]) ⟨Ah _,hp3,by simp only;omega,hrwS _ _,n0 _ _ _,n1 _ _ _ _,Fy,by simp only[Bw];cases G8 n (A.drop (p+1+1+1))<;>rfl,by simp,by simp[hlen],by simp only;omega⟩
   rintro⟨k,q,u,L,σ⟩ ⟨hkn,hq,hbk,hw,hz4,ht4,hg,hinv,hLq,hlen2,hpq⟩ ih
   simp only at hkn hq hbk hw hz4 ht4 hg hinv hLq hlen2 hpq ih
   obtain⟨k,rfl⟩:∃ j,k=j+1:=⟨k - 1,by omega⟩
   have hrl:∀ r∈L.map Io,r.length=1:=by intro r hr;obtain⟨x,-,rfl⟩:=Dc.1 hr;rfl
   have hcu:=Ep hg
   have h12:∀ (τ:St) (ob:Ob),s.length+2<=τ.length->(τ.set (s.length+1) ob)[s.length+1]?=some ob:=fun τ ob h=>Cw (by omega)
   have h11:∀ (τ:St) (ob:Ob),s.length+2<=τ.length->(τ.set s.length ob)[s.length]?=some ob:=fun τ ob h=>Cw (by omega)
   refine Ct (by delta lp88_0;exact rfl) ?_
   cases hnq:B4 (A.drop q) with
   | none=>
    have d1:=(Ru hw.2.2.1 hl hq).2 hnq
    have ho:G8 (k+1) (A.drop q)=none:=by rw[G8,hnq]
    rw[ho]at hinv
    rw[hinv]
    simp only[go_sem]
    refine Ac d1 ?_
    simp only[go_sem,ht4,hz4,hcu]
    exact⟨_,[.agg [.str nm,.int .i64 tk.line,SL true 0 ((L).map Io),.nils],.bool false],q,Bh (h11 _ _ (hlen2)) rfl rfl rfl,Uh hg rfl,T3 (Ex hg (by omega)) rfl,(fun j hj=>by have:=Ug hg rfl j hj;omega),Ui rfl,Lw hw (Ah _),hq,_,_,_,_,by simp only[Am,Av,Z8];rfl,rfl⟩
   | some wr=>
    obtain⟨w,r⟩:=wr
    obtain⟨d1,hltq,hrr⟩:=(Ru hw.2.2.1 hl hq).1 w r hnq
    have ho:G8 (k+1) (A.drop q)=if Ai [44] r then(match G8 k r.tail with
      | none=>none
      | some (l,r)=>some (w::l,r)) else(Co [41] r).map fun ts=>([w],ts):=by
     rw[G8,hnq]
     rfl
    rw[ho]at hinv
    have hw1:=L4 hw (q+1)
    have hg1:GW (σ.set m (RO z t A (q+1))) 1 9 (s.length+2) u (L.map Io):=Ex hg (by omega)
    have hl1:(σ.set m (RO z t A (q+1))).length=σ.length:=Hx
    have hz1:(σ.set m (RO z t A (q+1)))[s.length]?=some (.row [.str [],.int .i64 0,.nils,.nils] 91 0 0):=by rw[B5 (by omega)];exact hz4
    have ht1:(σ.set m (RO z t A (q+1)))[s.length+1]?=some (.row [.str nm,.int .i64 tk.line,u,.nils] 91 0 0):=by rw[B5 (by omega)];exact ht4
    generalize σ.set m (RO z t A (q+1))=τ1 at d1 hw1 hg1 hl1 hz1 ht1
    obtain⟨u',τ2,ha,hg2,hl2,-,hk2⟩:=O7 (bytes:=16) (y:=.lst 1 [[.str w]]) (ys:=[[.str w]]) hg1 (by omega) rfl (by omega) hrl (by simp) (by simp;omega)
    have hw2:RW s τ2 m z t A (q+1):=M4 hw1 (by omega) fun j hj=>hk2 j (by omega)
    have hcu':=Ep hg2
    obtain⟨hcc,hca⟩:=Zj hcu'
    obtain⟨τ3,e3⟩:∃ τ:St,τ=τ2.set (s.length+1) (.row [.str nm,.int .i64 tk.line,u',.nils] 91 0 0):=⟨_,rfl⟩
    have hw3:RW s τ3 m z t A (q+1):=by rw[e3];exact M4 hw2 (by rw[Hx];omega) fun j hj=>B5 (by omega)
    have hg3:GW τ3 1 9 (s.length+2) u' ((L++[w]).map Io):=by rw[e3,Hj];exact Ex hg2 (by omega)
    have hl3:s.length+2<=τ3.length:=by rw[e3,Hx];omega
    have hz3:τ3[s.length]?=some (.row [.str [],.int .i64 0,.nils,.nils] 91 0 0):=by rw[e3,B5 (by omega),hk2 _ (by omega)];exact hz1
    have ht3:τ3[s.length+1]?=some (.row [.str nm,.int .i64 tk.line,u',.nils] 91 0 0):=by rw[e3];exact h12 _ _ (by omega)
    have ht2:τ2[s.length+1]?=some (.row [.str nm,.int .i64 tk.line,u,.nils] 91 0 0):=by rw[hk2 _ (by omega)];exact ht1
    have hq1:q+1<=A.length:=hltq
    by_cases h44:Ai [44] r=true
    ·rw[if_pos h44]at hinv
     rw[<-hrr]at h44 hinv
     have d2:=Nq hw3.2.2.1 hl h44
     have hlt44:=C8 h44
     rw[e3]at d2
     simp only[go_sem]
     refine Ac d1 ?_
     simp only[go_sem,ht1,ha,ht2,hcu',hcc,hca]
     refine Ac d2 ?_
     rw[<-e3]
     simp only[go_sem]
     refine Bd (ih (k,q+1+1,u',L++[w],τ3.set m (RO z t A (q+1+1))) (by simp) ⟨by simp only;omega,hlt44,by simp only;omega,L4 hw3 _,by simp only;rw[B5 (by omega)];exact hz3,by simp only;rw[B5 (by omega)];exact ht3,Ex hg3 (by omega),?_,by simp;omega,by simp only[Hx];exact hl3,by simp only;omega⟩) rfl
     simp only
     rw[hinv,<-Dd]
     cases G8 k (A.drop (q+1+1)) with
     | none=>rfl
     | some y=>simp
    ·have h44:Ai [44] r=false:=by simpa using h44
     rw[if_neg (by rw[h44];decide)]at hinv
     rw[<-hrr]at h44 hinv
     have d2:=Nr hw3.2.2.1 hl hq1 h44
     rw[e3]at d2
     unfold Co at hinv
     by_cases h41b:Ai [41] (A.drop (q+1))=true
     ·rw[if_pos h41b]at hinv
      simp only[Et]at hinv
      rw[hinv]
      simp only
      rw[<-Dd]
      have d3:=Nq hw3.2.2.1 hl h41b
      have hlt41:=C8 h41b
      have hw4:=L4 hw3 (q+1+1)
      obtain⟨v,q5,d4,hq5,h5⟩:=(Ahl n).2 (τ3.set m (RO z t A (q+1+1))) m z t A (q+1+1) hA hT hw4.2.2.1 hlt41 (by omega)
      rw[Oq]at d4
      have hw5:=L4 hw3 q5
      have hg5:GW (τ3.set m (RO z t A q5)) 1 9 (s.length+2) u' ((L++[w]).map Io):=Ex hg3 (by omega)
      have hl5:s.length+2<=(τ3.set m (RO z t A q5)).length:=by rw[Hx];exact hl3
      have hz5:(τ3.set m (RO z t A q5))[s.length]?=some (.row [.str [],.int .i64 0,.nils,.nils] 91 0 0):=by rw[B5 (by omega)];exact hz3
      have ht5:(τ3.set m (RO z t A q5))[s.length+1]?=some (.row [.str nm,.int .i64 tk.line,u',.nils] 91 0 0):=by rw[B5 (by omega)];exact ht3
      generalize τ3.set m (RO z t A q5)=τ5 at d4 hw5 hg5 hl5 hz5 ht5
      have hz6:∀ ob:Ob,(τ5.set (s.length+1) ob)[s.length]?=some (.row [.str [],.int .i64 0,.nils,.nils] 91 0 0):=fun ob=>by rw[B5 (by omega)];exact hz5
      rw[e3]at d3
      unfold Vd at h5
      simp only[go_sem]
      refine Ac d1 ?_
      simp only[go_sem,ht1,ha,ht2,hcu',hcc,hca]
      refine Ac d2 ?_
      simp only[go_sem]
      refine Ac d3 ?_
      rw[<-e3]
      simp only[go_sem]
      cases hb:Dw n (A.drop (q+1+1)) with
      | none=>
       rw[hb]at h5
       subst h5
       refine Ac d4 ?_
       simp only[go_sem,ht5,h12 _ _ hl5,hz6,hcu']
       exact⟨_,[.agg [.str nm,.int .i64 tk.line,SL true 0 ((L++[w]).map Io),.nils],.bool false],q5,Bh (h11 _ _ (by rw[Hx];exact hl5)) rfl rfl rfl,Uh hg5 rfl,T3 (Ex (Ex hg5 (by omega)) (by omega)) rfl,(fun j hj=>by have:=Ug hg5 rfl j hj;omega),Ui rfl,Lw (Lw hw5 (by omega)) (Ah _),hq5,_,_,_,_,by simp only[Am,Av,Z8];rfl,rfl⟩
      | some bt=>
       obtain⟨b,ts9⟩:=bt
       rw[hb]at h5
       obtain⟨rfl,h5⟩:=h5
       have hbs:=Bb b
       have hbc:=Eb hbs
       refine Ac d4 ?_
       simp only[go_sem,ht5,h12 _ _ hl5,hz6,hcu',hbc]
       exact⟨_,[.agg [.str nm,.int .i64 tk.line,SL true 0 ((L++[w]).map Io),SL true 0 (b.map Sp.row)],.bool true],q5,Bh (h11 _ _ (by rw[Hx];exact hl5)) rfl rfl rfl,Uh hg5 hbs,T3 (Ex (Ex hg5 (by omega)) (by omega)) hbs,(fun j hj=>by have:=Ug hg5 hbs j hj;omega),Ui hbs,Lw (Lw hw5 (by omega)) (Ah _),hq5,rfl,h5⟩
     ·have h41b:Ai [41] (A.drop (q+1))=false:=by simpa using h41b
      rw[if_neg (by rw[h41b];decide)]at hinv
      simp only[Option.map_none]at hinv
      rw[hinv]
      have d3:=Nr hw3.2.2.1 hl hq1 h41b
      rw[e3]at d3
      simp only[go_sem]
      refine Ac d1 ?_
      simp only[go_sem,ht1,ha,ht2,hcu',hcc,hca]
      refine Ac d2 ?_
      simp only[go_sem]
      refine Ac d3 ?_
      rw[<-e3]
      simp only[go_sem,ht3,hz3,hcu']
      exact⟨_,[.agg [.str nm,.int .i64 tk.line,SL true 0 ((L++[w]).map Io),.nils],.bool false],(q+1),Bh (h11 _ _ (hl3)) rfl rfl rfl,Uh hg3 rfl,T3 (Ex hg3 (by omega)) rfl,(fun j hj=>by have:=Ug hg3 rfl j hj;omega),Ui rfl,Lw hw3 (Ah _),hq1,_,_,_,_,by simp only[Am,Av,Z8];rfl,rfl⟩
end Go.Proofs.YtcoeikinocflnaaGreatDoor.KM
