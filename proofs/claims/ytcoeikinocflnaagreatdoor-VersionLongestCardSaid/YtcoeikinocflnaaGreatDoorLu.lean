/- Walks: the parser's programs. -/
import Derived.Test.YtcoeikinocflnaaGreatDoorLt
import Derived.Test.YtcoeikinocflnaaGreatDoorHx
set_option linter.all false
namespace Go.Proofs.YtcoeikinocflnaaGreatDoor.KM
open Go
def PRg(A:List Tk)(o:Option (Gp × List Tk))(v:V)(p':Nat):Prop:=match o with
 | some (x,r)=>v=.tup [.agg x.row,.bool true]/\A.drop p'=r
 | none=>∃ d0 d1:V,[d0,d1].all V.rowB=true/\v=.tup [.agg [d0,d1],.bool false]
structure PS (s σ:St) (m:Nat) (z:Bool) (t:Nat) (A:List Tk) (q:Nat) (u1 u2:V) (D:List Dp) (L:List Tp):Prop where
 rw:RW s σ m z t A q
 len:s.length+2<=σ.length
 z2:σ[s.length]?=some (.row [.nils,.nils] 27 0 0)
 p:σ[s.length+1]?=some (.row [u1,u2] 27 0 0)
 g1:GW σ 6 87 (s.length+2) u1 (D.map Dp.row)
 g2:GW σ 4 91 (s.length+2) u2 (L.map Tp.row)
theorem Aj8{s σ:St}{m:Nat}{z:Bool}{t:Nat}{A:List Tk}{q:Nat}{u1 u2:V}{D:List Dp}{L:List Tp}(h:PS s σ m z t A q u1 u2 D L)(q':Nat):PS s (σ.set m (RO z t A q')) m z t A q' u1 u2 D L:=by
 have hm:=h.rw.2.2.2
 exact⟨L4 h.rw q',by rw[Hx];exact h.len,by rw[B5 (by omega)];exact h.z2,by rw[B5 (by omega)];exact h.p,Ex h.g1 (by omega),Ex h.g2 (by omega)⟩
theorem Xe{s σ l:St}{m:Nat}{z:Bool}{t:Nat}{A:List Tk}{q:Nat}{u1 u2:V}{D:List Dp}{L:List Tp}(h:PS s σ m z t A q u1 u2 D L):PS s (σ++l) m z t A q u1 u2 D L:=
 ⟨Xd h.rw,by have:=h.len;simp;omega,Dn h.z2,Dn h.p,O2 h.g1,O2 h.g2⟩
theorem Aul{s σ:St}{m:Nat}{z:Bool}{t:Nat}{A:List Tk}{q:Nat}{u1 u2:V}{D:List Dp}{L:List Tp}(h:PS s σ m z t A q u1 u2 D L)(d:Dp)(hb:D.length<=1000000):
  ∃ u' σ',Fm 64 (6,87) u1 (.lst 1 [d.row]) σ=some (u',σ')/\u'.cellB=true/\σ'[s.length+1]?=some (.row [u1,u2] 27 0 0)/\PS s (σ'.set (s.length+1) (.row [u',u2] 27 0 0)) m z t A q u' u2 (D++[d]) L:=by
 obtain⟨u',σ',ha,hg,hl,hk1,hk2⟩:=O7 (bytes:=64) (y:=.lst 1 [d.row]) (ys:=[d.row]) h.g1 h.len rfl (by omega) (Afu D) (by simp;rfl) (by simp;omega)
 have hlen:=h.len
 have hp:σ'[s.length+1]?=some (.row [u1,u2] 27 0 0):=by rw[hk2 _ (by omega)];exact h.p
 refine⟨u',σ',ha,Ep hg,hp,Lw (M4 h.rw (by omega) fun j hj=>hk2 j (by omega)) (by omega),by rw[Hx];omega,?_,Cw (by omega),?_,?_⟩
 ·rw[B5 (by omega),hk2 _ (by omega)];exact h.z2
 ·rw[Hj];exact Ex hg (by omega)
 ·exact Ex (Ajz (by decide) (Aj0 h.g1) h.g2 hk1) (by omega)
theorem Ayf{s σ:St}{m:Nat}{z:Bool}{t:Nat}{A:List Tk}{q:Nat}{u1 u2:V}{D:List Dp}{L:List Tp}(h:PS s σ m z t A q u1 u2 D L)(d:Tp)(hb:L.length<=1000000):
  ∃ u' σ',Fm 72 (4,91) u2 (.lst 1 [d.row]) σ=some (u',σ')/\u'.cellB=true/\σ'[s.length+1]?=some (.row [u1,u2] 27 0 0)/\PS s (σ'.set (s.length+1) (.row [u1,u'] 27 0 0)) m z t A q u1 u' D (L++[d]):=by
 obtain⟨u',σ',ha,hg,hl,hk1,hk2⟩:=O7 (bytes:=72) (y:=.lst 1 [d.row]) (ys:=[d.row]) h.g2 h.len rfl (by omega) (Afv L) (by simp;rfl) (by simp;omega)
 have hlen:=h.len
 have hp:σ'[s.length+1]?=some (.row [u1,u2] 27 0 0):=by rw[hk2 _ (by omega)];exact h.p
 refine⟨u',σ',ha,Ep hg,hp,Lw (M4 h.rw (by omega) fun j hj=>hk2 j (by omega)) (by omega),by rw[Hx];omega,?_,Cw (by omega),?_,?_⟩
 ·rw[B5 (by omega),hk2 _ (by omega)];exact h.z2
 ·exact Ex (Ajz (by decide) (Aj0 h.g2) h.g1 hk1) (by omega)
 ·rw[Hj];exact Ex hg (by omega)
theorem Xw{s σ:St}{m:Nat}{z:Bool}{t:Nat}{A:List Tk}{q:Nat}{u1 u2:V}{D:List Dp}{L:List Tp}(h:PS s σ m z t A q u1 u2 D L){e':Env}{b:Bool}{R:V->Nat->Prop}(he2:e'.get 2=.ptr s.length 0 0)(he3:e'.get 3=.bool b)(hq:q<=A.length)(hR:R (.tup [.agg [SL true 0 (D.map Dp.row),SL true 0 (L.map Tp.row)],.bool b]) q):
  ∃ vs vs' q,B2 e' (σ.set s.length (.row [u1,u2] 27 0 0)) [AR.cell 2 2 false,AR.tmp 3]=some (.tup vs)/\vs.all Gw=true/\OVs (σ.set s.length (.row [u1,u2] 27 0 0)) vs vs'/\(∀ j∈Aq vs,s.length<=j)/\Aq vs'=[]/\RW s (σ.set s.length (.row [u1,u2] 27 0 0)) m z t A q/\q<=A.length/\R (.tup vs') q:=by
 have hlen:=h.len
 have c1:=Ep h.g1
 have c2:=Ep h.g2
 refine⟨[.agg [u1,u2],.bool b],[.agg [SL true 0 (D.map Dp.row),SL true 0 (L.map Tp.row)],.bool b],q,Bh (Cw (by omega)) he2 rfl he3,?_,?_,?_,?_,Lw h.rw (Ah _),hq,hR⟩
 ·show([u1,u2].all V.cellB&&(Gw (.bool b)&&true))=true
  simp only[Am,Av,c1,c2]
  rfl
 ·exact .cons (Ajs (.cons (Rm (Ex h.g1 (by omega)) (by omega) (Afu D) (An3 D)) (.cons (Rm (Ex h.g2 (by omega)) (by omega) (Afv L) (An4 L)) .nil))) (.cons (K2 rfl) .nil)
 ·intro j hj
  simp only[Aq,V.refs,Cx,Ei]at hj
  have k1:∀ {w:V} {mm e:Nat} {xs:List (List V)},GW σ mm e (s.length+2) w xs->∀ j∈w.refs,s.length<=j:=by
   intro w mm e xs hg j hj
   rcases hg with⟨rfl,-⟩ | ⟨-,i,g,rfl,-,hlo⟩
   ·cases hj
   ·simp only[V.refs,Mj]at hj
    omega
  rcases hj with hj | hj
  ·exact k1 h.g1 j hj
  ·exact k1 h.g2 j hj
 ·simp only[Aq,V.refs,Ai3,Cx]
set_option maxHeartbeats 4000000 in
theorem Amw{s:St}{m:Nat}{z:Bool}{t:Nat}{A:List Tk}(hA:OkA A)(hT:C0 A)(hs:s[m]?=some (RO z t A 0)):RT 46 [] s m z t A (PRg A (Pj A)):=by
 have hl:A.length<=1000000:=by have:=hA.len;omega
 have hm:=(Au.1 hs).1
 refine Aj7 T46 hs fun S hS=>?_
 have hrwS:=Ale hS hs
 have hps0:PS s (S 0++[.row [.nils,.nils] 27 0 0,.row [.nils,.nils] 27 0 0]) m z t A 0 .nils .nils [] []:=⟨hrwS _ _,by simp[hS.len],hS.n0 _ _ _,hS.n1 _ _ _ _,Fy,Fy⟩
 have Zq:=Ck hS
 obtain⟨-,-,hlen,get,get0,set,set0,n0,n1,n2,u0,u1,u2⟩:=hS
 have hA0:A.drop 0=A:=Mm
 simp only[go_sem,Zq,LZ]
 refine Cr (α:=Nat × Nat × V × List Dp × St) (fun a=>a.1) (fun a=>[(0,.ptr m 0 0),(2,.ptr s.length 0 0),(4,.ptr (s.length+1) 0 0)]) (fun a=>a.2.2.2.2) (fun a=>a.2.1<=A.length/\A.length - a.2.1<a.1/\PS s a.2.2.2.2 m z t A a.2.1 a.2.2.1 .nils a.2.2.2.1 []/\Gy (A.length+1) A=(Gy a.1 (A.drop a.2.1)).map (fun y=>(a.2.2.2.1++y.1,y.2))/\a.2.2.2.1.length<=a.2.1) ?_ (A.length+1,0,.nils,[],S 0++[.row [.nils,.nils] 27 0 0,.row [.nils,.nils] 27 0 0]) ⟨A5 _,by simp only;omega,hps0,by simp only[Bw,hA0];cases Gy (A.length+1) A<;>rfl,by simp⟩
 rintro⟨k,q,v1,D,σ⟩ ⟨hq,hbk,hps,hinv,hDq⟩ ih
 simp only at hq hbk hps hinv hDq ih
 obtain⟨k,rfl⟩:∃ j,k=j+1:=⟨k - 1,by omega⟩
 refine Ct (by delta lp46_0;exact rfl) ?_
 have hnx:=Na hps.rw.2.2.1 hl hq
 have hdec:=Aee (Aa A q).text
 have h11:∀ (τ:St) (ob:Ob),s.length+2<=τ.length->(τ.set s.length ob)[s.length]?=some ob:=fun τ ob h=>Cw (by omega)
 have hid:I4 (A.drop q)=((Aa A q).kind==3&&Ez (Aa A q).text != 0):=by
  rcases B3 q A.length with h | h
  ·rw[Ii h];rfl
  ·rw[(Hs h).1,(Hs h).2];rfl
 by_cases hd:I4 (A.drop q)=true
 ·have hqlt:q<A.length:=by
   rcases B3 q A.length with h | h
   ·exact h
   ·rw[(Hs h).1]at hd;cases hd
  rw[hid,Ae]at hd
  obtain⟨hd1,hd2⟩:=hd
  obtain⟨v,q2,c1,hq2,h3⟩:=Amv hA hT hps.rw.2.2.1 hq (by rw[hid,hd1,hd2];rfl)
  have hps1:=Aj8 hps q2
  have hpd:Gy (k+1) (A.drop q)=match L7 (A.drop q) with
    | none=>none
    | some (d,r)=>match Gy k r with
     | none=>none
     | some (l,r)=>some (d::l,r):=by
   rw[Gy,if_pos (by rw[hid,hd1,hd2];rfl)]
   rfl
  rw[hpd]at hinv
  unfold PRd at h3
  generalize σ.set m (RO z t A q2)=τ at c1 hps1
  have ln0:∀ a:Ob,(τ++[a])[τ.length]?=some a:=fun a=>by simp
  have lu0:∀ a b:Ob,(τ++[a]).set τ.length b=τ++[b]:=fun a b=>by simp[Hh]
  cases hpq:L7 (A.drop q) with
  | none=>
   rw[hpq]at h3 hinv
   obtain⟨_,⟨e0,e1,e2,e3,e4,e5,rfl,hb⟩,rfl⟩:=h3
   have hps2:PS s (τ++[.row [e0,e1,e2,e3,e4,e5] 87 0 0]) m z t A q2 v1 .nils D []:=Xe hps1
   have hz:=hps2.z2
   have hp:=hps2.p
   have hv1:=Ep hps.g1
   simp only[go_sem]
   refine Ac hnx ?_
   simp only[go_sem,hd1]
   refine Ac hnx ?_
   simp only[go_sem]
   refine An hdec rfl ?_
   simp only[go_sem,hd2]
   refine Ac c1 ?_
   simp only[go_sem,ln0,lu0,Xv hb,hz,hp,hv1]
   refine Xw hps2 rfl rfl hq2 ?_
   unfold Pj
   rw[hinv]
   exact⟨_,_,by simp only[Am,Av,Tx];rfl,rfl⟩
  | some dr=>
   obtain⟨d,r⟩:=dr
   rw[hpq]at h3 hinv
   obtain⟨rfl,h3⟩:=h3
   have hlt2:r.length<A.length - q:=by
    have:=(Aec (C:=100) (by omega) (B9 hT (Sj q A)) (by rw[hid,hd1,hd2];rfl) hpq).2.2.1
    rw[C5]at this
    exact this
   have hrq:r.length=A.length - q2:=by rw[<-h3,C5]
   have hps2:PS s (τ++[.row d.row 87 0 0]) m z t A q2 v1 .nils D []:=Xe hps1
   obtain⟨w1,τ2,ha,hc,hp2,hps3⟩:=Aul hps2 d (by omega)
   obtain⟨hcc,hca⟩:=Zj hc
   have hp:=hps2.p
   have hdr:d.row=[.int .i64 d.kind,.int .i64 d.line,.str d.nm,.int .i64 d.size,.int .i64 d.init,.str d.on]:=rfl
   rw[hdr]at c1 ha
   simp only[hdr]at hp
   simp only[go_sem]
   refine Ac hnx ?_
   simp only[go_sem,hd1]
   refine Ac hnx ?_
   simp only[go_sem]
   refine An hdec rfl ?_
   simp only[go_sem,hd2]
   refine Ac c1 ?_
   simp only[go_sem,ln0,lu0,hp,ha,hp2,hc,hcc,hca]
   refine Bd (ih (k,q2,w1,D++[d],τ2.set (s.length+1) (.row [w1,.nils] 27 0 0)) (by simp) ⟨hq2,by simp only;omega,hps3,?_,by simp;omega⟩) rfl
   simp only
   rw[hinv,h3]
   simp only
   cases Gy k r with
   | none=>rfl
   | some y=>simp
 ·have hd:I4 (A.drop q)=false:=by simpa using hd
  have hpd:Gy (k+1) (A.drop q)=some ([],A.drop q):=by rw[Gy,if_neg (by rw[hd];decide)]
  rw[hpd]at hinv
  simp only[Et,Cx]at hinv
  rw[hid]at hd
  have hgo:∀ P:Prop,((Aa A q).kind==3)=false\/(((Aa A q).kind==3)=true/\(Ez (Aa A q).text != 0)=false):=fun _=>by
   cases h:((Aa A q).kind==3)
   ·exact .inl rfl
   ·rw[h]at hd;exact .inr ⟨rfl,by simpa using hd⟩
  unfold Pj
  rw[hinv]
  simp only
  rcases hgo True with hk | ⟨hk,hk2⟩
  case' inl=>simp only[go_sem]
  case' inl=>refine Ac hnx ?_
  case' inl=>simp only[go_sem,hk]
  case' inr=>simp only[go_sem]
  case' inr=>refine Ac hnx ?_
  case' inr=>simp only[go_sem,hk]
  case' inr=>refine Ac hnx ?_
  case' inr=>simp only[go_sem]
  case' inr=>refine An hdec rfl ?_
  case' inr=>simp only[go_sem,hk2]
  all_goals
   refine Cr (α:=Nat × Nat × V × List Tp × St) (fun a=>a.1) (fun a=>[(0,.ptr m 0 0),(2,.ptr s.length 0 0),(4,.ptr (s.length+1) 0 0)]) (fun a=>a.2.2.2.2) (fun a=>a.2.1<=A.length/\A.length - a.2.1<a.1/\PS s a.2.2.2.2 m z t A a.2.1 v1 a.2.2.1 D a.2.2.2.1/\G5 (H7 A.length) (A.length+1) (A.drop q)=(G5 (H7 A.length) a.1 (A.drop a.2.1)).map (fun y=>(a.2.2.2.1++y.1,y.2))/\a.2.2.2.1.length<=a.2.1) ?_ (A.length+1,q,.nils,[],σ) ⟨hq,by simp only;omega,hps,by simp only[Bw];cases G5 (H7 A.length) (A.length+1) (A.drop q)<;>rfl,by simp⟩
   rintro⟨k2,q3,v2,L,σ2⟩ ⟨hq3,hbk3,hps3,hinv3,hLq3⟩ jh
   simp only at hq3 hbk3 hps3 hinv3 hLq3 jh
   obtain⟨k2,rfl⟩:∃ j,k2=j+1:=⟨k2 - 1,by omega⟩
   refine Ct (by delta lp46_1;exact rfl) ?_
   have hat:=Acg hps3.rw.2.2.1 hl hq3 N1
   have hv1:=Ep hps3.g1
   have hv2:=Ep hps3.g2
   by_cases ht:Ai N1 (A.drop q3)=true
   ·rw[ht]at hat
    have hq3lt:=C8 ht
    obtain⟨v,q4,c1,hq4,h3⟩:=Aof (n:=H7 A.length) hA hT hps3.rw.2.2.1 hq3lt (by unfold H7;omega)
    have hps4:=Aj8 hps3 q4
    have hpt:G5 (H7 A.length) (k2+1) (A.drop q3)=match Md (H7 A.length) (A.drop q3) with
      | none=>none
      | some (x,r)=>match G5 (H7 A.length) k2 r with
       | none=>none
       | some (l,r)=>some (x::l,r):=by
     rw[G5,if_pos ht]
     rfl
    rw[hpt]at hinv3
    unfold PRt at h3
    generalize σ2.set m (RO z t A q4)=τ at c1 hps4
    have ln0:∀ a:Ob,(τ++[a])[τ.length]?=some a:=fun a=>by simp
    have lu0:∀ a b:Ob,(τ++[a]).set τ.length b=τ++[b]:=fun a b=>by simp[Hh]
    cases hpq:Md (H7 A.length) (A.drop q3) with
    | none=>
     rw[hpq]at h3 hinv3
     obtain⟨e0,e1,e2,e3,hb,rfl⟩:=h3
     have hps5:PS s (τ++[.row [e0,e1,e2,e3] 91 0 0]) m z t A q4 v1 v2 D L:=Xe hps4
     have hz:=hps5.z2
     have hp:=hps5.p
     have hb4:(e0.cellB&&(e1.cellB&&(e2.cellB&&e3.cellB)))=true:=by
      simp only[Am,Av,Ae]at hb
      simp only[Eb hb.1,Eb hb.2.1,Eb hb.2.2.1,Eb hb.2.2.2.1,Vv]
     simp only[go_sem]
     refine Ac hat ?_
     simp only[go_sem]
     refine Ac c1 ?_
     simp only[go_sem,ln0,lu0,hb4,hz,hp,hv1,hv2]
     refine Xw hps5 rfl rfl hq4 ?_
     rw[hinv3]
     exact⟨_,_,by simp only[Am,Av,Tx];rfl,rfl⟩
    | some xr=>
     obtain⟨x,r⟩:=xr
     rw[hpq]at h3 hinv3
     obtain⟨rfl,h3⟩:=h3
     have hlt4:r.length<A.length - q3:=by
      have:=(Aew (M:=A.length) (C:=100+8*A.length) (Ah _) (B9 hT (Sj q3 A)) (by rw[C5];omega) hpq).2.2.2.2.1
      rw[C5]at this
      exact this
     have hrq:r.length=A.length - q4:=by rw[<-h3,C5]
     have hps5:PS s (τ++[.row x.row 91 0 0]) m z t A q4 v1 v2 D L:=Xe hps4
     obtain⟨w2,τ2,ha,hc,hp2,hps6⟩:=Ayf hps5 x (by omega)
     obtain⟨hcc,hca⟩:=Zj hc
     have hp:=hps5.p
     have hxs:=Ag4 x
     have hxr:x.row=[.str x.nm,.int .i64 x.line,SL x.lz x.lt (x.locals.map fun s=>[V.str s]),SL x.bz x.bt (x.body.map Sp.row)]:=rfl
     rw[hxr]at c1 ha hxs
     simp only[hxr]at hp
     simp only[go_sem]
     refine Ac hat ?_
     simp only[go_sem]
     refine Ac c1 ?_
     simp only[go_sem,ln0,lu0,hp,ha,hp2,hc,hcc,hca]
     refine Bd (jh (k2,q4,w2,L++[x],τ2.set (s.length+1) (.row [v1,w2] 27 0 0)) (by simp) ⟨hq4,by simp only;omega,hps6,?_,by simp;omega⟩) rfl
     simp only
     rw[hinv3,h3]
     simp only
     cases G5 (H7 A.length) k2 r with
     | none=>rfl
     | some y=>simp
   ·have ht:Ai N1 (A.drop q3)=false:=by simpa using ht
    rw[ht]at hat
    have hpt:G5 (H7 A.length) (k2+1) (A.drop q3)=some ([],A.drop q3):=by rw[G5,if_neg (by rw[ht];decide)]
    rw[hpt]at hinv3
    simp only[Et,Cx]at hinv3
    have hz:=hps3.z2
    have hp:=hps3.p
    rw[hinv3]
    simp only
    have hcase:(v2=.nils/\L=[])\/(L≠[]/\∃ i g,v2=.sl i g 0 L.length 4 true):=by
     rcases hps3.g2 with⟨h1,h2⟩ | ⟨h1,i,g,h2,-⟩
     ·exact .inl ⟨h1,by simpa using h2⟩
     ·exact .inr ⟨fun e=>h1 (by rw[e];rfl),i,g,by rw[h2,Bg]⟩
    rcases hcase with⟨rfl,rfl⟩ | ⟨hne,i,g,rfl⟩
    ·simp only[go_sem]
     refine Ac hat ?_
     simp only[go_sem]
     have hp9:(σ2.set s.length (.row [v1,.nils] 27 0 0))[s.length+1]?=some (.row [v1,.nils] 27 0 0):=by rw[B5 (by omega)];exact hp
     refine Ax (by kernel_rfl) ?_
     simp only[go_sem,hp,hz,hv1]
     refine Bl ?_
     simp only[go_sem,hv1,hz,hp]
     refine Xw hps3 rfl rfl hq3 ?_
     show PRg A none _ _
     exact⟨_,_,by simp only[Am,Av,Tx];rfl,rfl⟩
    ·have hlp:((0:Int)<(L.length:Int))=True:=eq_true (by have:=List.length_pos_iff.2 hne;omega)
     simp only[go_sem]
     refine Ac hat ?_
     simp only[go_sem]
     have hp9:(σ2.set s.length (.row [v1,.sl i g 0 L.length 4 true] 27 0 0))[s.length+1]?=some (.row [v1,.sl i g 0 L.length 4 true] 27 0 0):=by rw[B5 (by omega)];exact hp
     refine Ax (by kernel_rfl) ?_
     simp only[go_sem,hp,hz,hv1,gt_iff_lt,hlp]
     refine Bl ?_
     simp only[go_sem,hv1,hz,hp,gt_iff_lt,hlp]
     refine Xw hps3 rfl rfl hq3 ?_
     rw[if_neg (by simpa using hne)]
     exact⟨rfl,rfl⟩
end Go.Proofs.YtcoeikinocflnaaGreatDoor.KM
