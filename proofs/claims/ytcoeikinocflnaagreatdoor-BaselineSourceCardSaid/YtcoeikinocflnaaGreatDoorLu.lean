/- Walks: the parser's programs. -/
import Derived.Test.YtcoeikinocflnaaGreatDoorLt
set_option linter.all false
namespace Go.Proofs.YtcoeikinocflnaaGreatDoor.KM
open Go
def PRg(A:List Tk)(o:Option (Gp × List Tk))(v:V)(p':Nat):Prop:=match o with
 | some (x,r)=>v=.tup [.agg x.row,.bool true]/\A.drop p'=r
 | none=>∃ d0 d1:V,[d0,d1].all V.rowB=true/\v=.tup [.agg [d0,d1],.bool false]
structure PS (s σ:St) (m:Nat) (z:Bool) (t:Nat) (A:List Tk) (q:Nat) (u1 u2:V) (D:List Dp) (L:List Tp):Prop where
 rw:RW s σ m z t A q
 len:s.length+2<=σ.length
 z2:σ[s.length]?=some (.row [.nils,.nils] 27 0 0)
 p:σ[s.length+1]?=some (.row [u1,u2] 27 0 0)
 g1:GW σ 6 87 (s.length+2) u1 (D.map Dp.row)
 g2:GW σ 4 91 (s.length+2) u2 (L.map Tp.row)
theorem Aky{s σ:St}{m:Nat}{z:Bool}{t:Nat}{A:List Tk}{q:Nat}{u1 u2:V}{D:List Dp}{L:List Tp}(h:PS s σ m z t A q u1 u2 D L)(q':Nat):PS s (σ.set m (RO z t A q')) m z t A q' u1 u2 D L:=by
 have hm:=h.rw.2.2.2;exact⟨My h.rw q',by rw[Gr];exact h.len,by rw[Bc (by omega)];exact h.z2,by rw[Bc (by omega)];exact h.p,Ff h.g1 (by omega),Ff h.g2 (by omega)⟩
theorem X3{s σ l:St}{m:Nat}{z:Bool}{t:Nat}{A:List Tk}{q:Nat}{u1 u2:V}{D:List Dp}{L:List Tp}(h:PS s σ m z t A q u1 u2 D L):PS s (σ++l) m z t A q u1 u2 D L:=
 ⟨X2 h.rw,by have:=h.len;simp;omega,Br h.z2,Br h.p,Pd h.g1,Pd h.g2⟩
theorem Ava{s σ:St}{m:Nat}{z:Bool}{t:Nat}{A:List Tk}{q:Nat}{u1 u2:V}{D:List Dp}{L:List Tp}(h:PS s σ m z t A q u1 u2 D L)(d:Dp)(hb:D.length<=1000000):
  ∃ u' σ',Eu 64 (6,87) u1 (.lst 1 [d.row]) σ=some (u',σ')/\u'.cellB=true/\σ'[s.length+1]?=some (.row [u1,u2] 27 0 0)/\PS s (σ'.set (s.length+1) (.row [u',u2] 27 0 0)) m z t A q u' u2 (D++[d]) L:=by
 obtain⟨u',σ',ha,hg,hl,hk1,hk2⟩:=Pj (bytes:=64) (y:=.lst 1 [d.row]) (ys:=[d.row]) h.g1 h.len rfl (by omega) (W2 D) (by simp;rfl) (by simp;omega);have hlen:=h.len;have hp:σ'[s.length+1]?=some (.row [u1,u2] 27 0 0):=by rw[hk2 _ (by omega)];exact h.p
 refine⟨u',σ',ha,D2 hg,hp,Mq (Nu h.rw (by omega) fun j hj=>hk2 j (by omega)) (by omega),by rw[Gr];omega,?_,B8 (by omega),?_,?_⟩
 ·rw[Bc (by omega),hk2 _ (by omega)];exact h.z2
 ·rw[Fb];exact Ff hg (by omega)
 ·exact Ff (Akc (by decide) (Akd h.g1) h.g2 hk1) (by omega)
theorem Ayv{s σ:St}{m:Nat}{z:Bool}{t:Nat}{A:List Tk}{q:Nat}{u1 u2:V}{D:List Dp}{L:List Tp}(h:PS s σ m z t A q u1 u2 D L)(d:Tp)(hb:L.length<=1000000):
  ∃ u' σ',Eu 72 (4,91) u2 (.lst 1 [d.row]) σ=some (u',σ')/\u'.cellB=true/\σ'[s.length+1]?=some (.row [u1,u2] 27 0 0)/\PS s (σ'.set (s.length+1) (.row [u1,u'] 27 0 0)) m z t A q u1 u' D (L++[d]):=by
 obtain⟨u',σ',ha,hg,hl,hk1,hk2⟩:=Pj (bytes:=72) (y:=.lst 1 [d.row]) (ys:=[d.row]) h.g2 h.len rfl (by omega) (Tq L) (by simp;rfl) (by simp;omega);have hlen:=h.len;have hp:σ'[s.length+1]?=some (.row [u1,u2] 27 0 0):=by rw[hk2 _ (by omega)];exact h.p
 refine⟨u',σ',ha,D2 hg,hp,Mq (Nu h.rw (by omega) fun j hj=>hk2 j (by omega)) (by omega),by rw[Gr];omega,?_,B8 (by omega),?_,?_⟩
 ·rw[Bc (by omega),hk2 _ (by omega)];exact h.z2
 ·exact Ff (Akc (by decide) (Akd h.g2) h.g1 hk1) (by omega)
 ·rw[Fb];exact Ff hg (by omega)
theorem Yp{s σ:St}{m:Nat}{z:Bool}{t:Nat}{A:List Tk}{q:Nat}{u1 u2:V}{D:List Dp}{L:List Tp}(h:PS s σ m z t A q u1 u2 D L){e':Env}{b:Bool}{R:V->Nat->Prop}(he2:e'.get 2=.ptr s.length 0 0)(he3:e'.get 3=.bool b)(hq:q<=A.length)(hR:R (.tup [.agg [SL true 0 (D.map Dp.row),SL true 0 (L.map Tp.row)],.bool b]) q):
  ∃ vs vs' q,B6 e' (σ.set s.length (.row [u1,u2] 27 0 0)) [AR.cell 2 2 false,AR.tmp 3]=some (.tup vs)/\vs.all Hh=true/\OVs (σ.set s.length (.row [u1,u2] 27 0 0)) vs vs'/\(∀ j∈Aj vs,s.length<=j)/\Aj vs'=[]/\RW s (σ.set s.length (.row [u1,u2] 27 0 0)) m z t A q/\q<=A.length/\R (.tup vs') q:=by
 have hlen:=h.len;have c1:=D2 h.g1;have c2:=D2 h.g2;refine⟨[.agg [u1,u2],.bool b],[.agg [SL true 0 (D.map Dp.row),SL true 0 (L.map Tp.row)],.bool b],q,B0 (B8 (by omega)) he2 rfl he3,?_,?_,?_,?_,Mq h.rw (Ah _),hq,hR⟩
 ·show([u1,u2].all V.cellB&&(Hh (.bool b)&&true))=true;simp only[Au,A1,c1,c2];rfl
 ·exact .cons (Uv (.cons (N3 (Ff h.g1 (by omega)) (by omega) (W2 D) (Aax D)) (.cons (N3 (Ff h.g2 (by omega)) (by omega) (Tq L) (Aay L)) .nil))) (.cons (Ig rfl) .nil)
 ·intro j hj;simp only[Aj,V.refs,Cw,Cq]at hj
  have k1:∀ {w:V} {mm e:Nat} {xs:List (List V)},GW σ mm e (s.length+2) w xs->∀ j∈w.refs,s.length<=j:=by
   intro w mm e xs hg j hj;rcases hg with⟨rfl,-⟩ | ⟨-,i,g,rfl,-,hlo⟩
   ·cases hj
   ·simp only[V.refs,Ey]at hj;omega
  rcases hj with hj | hj
  ·exact k1 h.g1 j hj
  ·exact k1 h.g2 j hj
 ·simp only[Aj,V.refs,Ajm,Cw]
set_option maxHeartbeats 4000000 in
theorem An1{s:St}{m:Nat}{z:Bool}{t:Nat}{A:List Tk}(hA:OkA A)(hT:De A)(hs:s[m]?=some (RO z t A 0)):RT 46 [] s m z t A (PRg A (Va A)):=by
 have hl:A.length<=1000000:=by have:=hA.len;omega
 have hm:=(Ar.1 hs).1;refine Akx T46 hs fun S hS=>?_
 have hrwS:=Amf hS hs;have hps0:PS s (S 0++[.row [.nils,.nils] 27 0 0,.row [.nils,.nils] 27 0 0]) m z t A 0 .nils .nils [] []:=⟨hrwS _ _,by simp[hS.len],hS.n0 _ _ _,hS.n1 _ _ _ _,F4,F4⟩;have Zq:=C4 hS;obtain⟨-,-,hlen,get,get0,set,set0,n0,n1,n2,u0,u1,u2⟩:=hS;have hA0:A.drop 0=A:=O0;simp only[go_sem,Zq,LZ];refine B9 (α:=Nat × Nat × V × List Dp × St) (fun a=>a.1) (fun a=>[(0,.ptr m 0 0),(2,.ptr s.length 0 0),(4,.ptr (s.length+1) 0 0)]) (fun a=>a.2.2.2.2) (fun a=>a.2.1<=A.length/\A.length - a.2.1<a.1/\PS s a.2.2.2.2 m z t A a.2.1 a.2.2.1 .nils a.2.2.2.1 []/\I2 (A.length+1) A=(I2 a.1 (A.drop a.2.1)).map (fun y=>(a.2.2.2.1++y.1,y.2))/\a.2.2.2.1.length<=a.2.1) ?_ (A.length+1,0,.nils,[],S 0++[.row [.nils,.nils] 27 0 0,.row [.nils,.nils] 27 0 0]) ⟨A2 _,by simp only;omega,hps0,by simp only[Es,hA0];cases I2 (A.length+1) A<;>rfl,by simp⟩;rintro⟨k,q,v1,D,σ⟩ ⟨hq,hbk,hps,hinv,hDq⟩ ih;simp only at hq hbk hps hinv hDq ih;obtain⟨k,rfl⟩:∃ j,k=j+1:=⟨k - 1,by omega⟩;refine Ca (by delta lp46_0;exact rfl) ?_;have hnx:=Nx hps.rw.2.2.1 hl hq;have hdec:=Ae8 (Aa A q).text;have h11:∀ (τ:St) (ob:Ob),s.length+2<=τ.length->(τ.set s.length ob)[s.length]?=some ob:=fun τ ob h=>B8 (by omega)
 have hid:Nw (A.drop q)=((Aa A q).kind==3&&Fw (Aa A q).text != 0):=by
  rcases Bx q A.length with h | h
  ·rw[I3 h];rfl
  ·rw[(H2 h).1,(H2 h).2];rfl
 by_cases hd:Nw (A.drop q)=true
 ·have hqlt:q<A.length:=by
   rcases Bx q A.length with h | h
   ·exact h
   ·rw[(H2 h).1]at hd;cases hd
  rw[hid,Af]at hd;obtain⟨hd1,hd2⟩:=hd;obtain⟨v,q2,c1,hq2,h3⟩:=An0 hA hT hps.rw.2.2.1 hq (by rw[hid,hd1,hd2];rfl);have hps1:=Aky hps q2
  have hpd:I2 (k+1) (A.drop q)=match Pu (A.drop q) with
    | none=>none
    | some (d,r)=>match I2 k r with
     | none=>none
     | some (l,r)=>some (d::l,r):=by
   rw[I2,if_pos (by rw[hid,hd1,hd2];rfl)];rfl
  rw[hpd]at hinv;unfold PRd at h3;generalize σ.set m (RO z t A q2)=τ at c1 hps1;have ln0:∀ a:Ob,(τ++[a])[τ.length]?=some a:=fun a=>by simp
  have lu0:∀ a b:Ob,(τ++[a]).set τ.length b=τ++[b]:=fun a b=>by simp[Jg]
  cases hpq:Pu (A.drop q) with
  | none=>
   rw[hpq]at h3 hinv;obtain⟨_,⟨e0,e1,e2,e3,e4,e5,rfl,hb⟩,rfl⟩:=h3;have hps2:PS s (τ++[.row [e0,e1,e2,e3,e4,e5] 87 0 0]) m z t A q2 v1 .nils D []:=X3 hps1;have hz:=hps2.z2;have hp:=hps2.p;have hv1:=D2 hps.g1;simp only[go_sem];refine Ac hnx ?_;simp only[go_sem,hd1];refine Ac hnx ?_;simp only[go_sem];refine Ad hdec rfl ?_;simp only[go_sem,hd2];refine Ac c1 ?_;simp only[go_sem,ln0,lu0,Yo hb,hz,hp,hv1];refine Yp hps2 rfl rfl hq2 ?_;unfold Va;rw[hinv];exact⟨_,_,by simp only[Au,A1,Pg];rfl,rfl⟩
  | some dr=>
   obtain⟨d,r⟩:=dr;rw[hpq]at h3 hinv;obtain⟨rfl,h3⟩:=h3
   have hlt2:r.length<A.length - q:=by
    have:=(Ae6 (C:=100) (by omega) (C0 hT (S4 q A)) (by rw[hid,hd1,hd2];rfl) hpq).2.2.1;rw[D0]at this;exact this
   have hrq:r.length=A.length - q2:=by rw[<-h3,D0]
   have hps2:PS s (τ++[.row d.row 87 0 0]) m z t A q2 v1 .nils D []:=X3 hps1;obtain⟨w1,τ2,ha,hc,hp2,hps3⟩:=Ava hps2 d (by omega);obtain⟨hcc,hca⟩:=Aal hc;have hp:=hps2.p;have hdr:d.row=[.int .i64 d.kind,.int .i64 d.line,.str d.nm,.int .i64 d.size,.int .i64 d.init,.str d.on]:=rfl;rw[hdr]at c1 ha;simp only[hdr]at hp;simp only[go_sem];refine Ac hnx ?_;simp only[go_sem,hd1];refine Ac hnx ?_;simp only[go_sem];refine Ad hdec rfl ?_;simp only[go_sem,hd2];refine Ac c1 ?_;simp only[go_sem,ln0,lu0,hp,ha,hp2,hc,hcc,hca];refine Bi (ih (k,q2,w1,D++[d],τ2.set (s.length+1) (.row [w1,.nils] 27 0 0)) (by simp) ⟨hq2,by simp only;omega,hps3,?_,by simp;omega⟩) rfl;simp only;rw[hinv,h3];simp only
   cases I2 k r with
   | none=>rfl
   | some y=>simp
 ·have hd:Nw (A.drop q)=false:=by simpa using hd
  have hpd:I2 (k+1) (A.drop q)=some ([],A.drop q):=by rw[I2,if_neg (by rw[hd];decide)]
  rw[hpd]at hinv;simp only[Ha,Cw]at hinv;rw[hid]at hd
  have hgo:∀ P:Prop,((Aa A q).kind==3)=false\/(((Aa A q).kind==3)=true/\(Fw (Aa A q).text != 0)=false):=fun _=>by
   cases h:((Aa A q).kind==3)
   ·exact .inl rfl
   ·rw[h]at hd;exact .inr ⟨rfl,by simpa using hd⟩
  unfold Va;rw[hinv];simp only;rcases hgo True with hk | ⟨hk,hk2⟩
  case' inl=>simp only[go_sem]
  case' inl=>refine Ac hnx ?_
  case' inl=>simp only[go_sem,hk]
  case' inr=>simp only[go_sem]
  case' inr=>refine Ac hnx ?_
  case' inr=>simp only[go_sem,hk]
  case' inr=>refine Ac hnx ?_
  case' inr=>simp only[go_sem]
  case' inr=>refine Ad hdec rfl ?_
  case' inr=>simp only[go_sem,hk2]
  all_goals
   refine B9 (α:=Nat × Nat × V × List Tp × St) (fun a=>a.1) (fun a=>[(0,.ptr m 0 0),(2,.ptr s.length 0 0),(4,.ptr (s.length+1) 0 0)]) (fun a=>a.2.2.2.2) (fun a=>a.2.1<=A.length/\A.length - a.2.1<a.1/\PS s a.2.2.2.2 m z t A a.2.1 v1 a.2.2.1 D a.2.2.2.1/\I4 (Jt A.length) (A.length+1) (A.drop q)=(I4 (Jt A.length) a.1 (A.drop a.2.1)).map (fun y=>(a.2.2.2.1++y.1,y.2))/\a.2.2.2.1.length<=a.2.1) ?_ (A.length+1,q,.nils,[],σ) ⟨hq,by simp only;omega,hps,by simp only[Es];cases I4 (Jt A.length) (A.length+1) (A.drop q)<;>rfl,by simp⟩;rintro⟨k2,q3,v2,L,σ2⟩ ⟨hq3,hbk3,hps3,hinv3,hLq3⟩ jh;simp only at hq3 hbk3 hps3 hinv3 hLq3 jh;obtain⟨k2,rfl⟩:∃ j,k2=j+1:=⟨k2 - 1,by omega⟩;refine Ca (by delta lp46_1;exact rfl) ?_;have hat:=Adf hps3.rw.2.2.1 hl hq3 Zb;have hv1:=D2 hps3.g1;have hv2:=D2 hps3.g2;by_cases ht:As Zb (A.drop q3)=true
   ·rw[ht]at hat
    have hq3lt:=Dh ht;obtain⟨v,q4,c1,hq4,h3⟩:=Ao9 (n:=Jt A.length) hA hT hps3.rw.2.2.1 hq3lt (by unfold Jt;omega);have hps4:=Aky hps3 q4
    have hpt:I4 (Jt A.length) (k2+1) (A.drop q3)=match P5 (Jt A.length) (A.drop q3) with
      | none=>none
      | some (x,r)=>match I4 (Jt A.length) k2 r with
       | none=>none
       | some (l,r)=>some (x::l,r):=by
     rw[I4,if_pos ht];rfl
    rw[hpt]at hinv3;unfold PRt at h3;generalize σ2.set m (RO z t A q4)=τ at c1 hps4;have ln0:∀ a:Ob,(τ++[a])[τ.length]?=some a:=fun a=>by simp
    have lu0:∀ a b:Ob,(τ++[a]).set τ.length b=τ++[b]:=fun a b=>by simp[Jg]
    cases hpq:P5 (Jt A.length) (A.drop q3) with
    | none=>
     rw[hpq]at h3 hinv3;obtain⟨e0,e1,e2,e3,hb,rfl⟩:=h3;have hps5:PS s (τ++[.row [e0,e1,e2,e3] 91 0 0]) m z t A q4 v1 v2 D L:=X3 hps4;have hz:=hps5.z2;have hp:=hps5.p
     have hb4:(e0.cellB&&(e1.cellB&&(e2.cellB&&e3.cellB)))=true:=by
      simp only[Au,A1,Af]at hb;simp only[Ej hb.1,Ej hb.2.1,Ej hb.2.2.1,Ej hb.2.2.2.1,Z6]
     simp only[go_sem];refine Ac hat ?_;simp only[go_sem];refine Ac c1 ?_;simp only[go_sem,ln0,lu0,hb4,hz,hp,hv1,hv2];refine Yp hps5 rfl rfl hq4 ?_;rw[hinv3];exact⟨_,_,by simp only[Au,A1,Pg];rfl,rfl⟩
    | some xr=>
     obtain⟨x,r⟩:=xr;rw[hpq]at h3 hinv3;obtain⟨rfl,h3⟩:=h3
     have hlt4:r.length<A.length - q3:=by
      have:=(Afm (M:=A.length) (C:=100+8*A.length) (Ah _) (C0 hT (S4 q3 A)) (by rw[D0];omega) hpq).2.2.2.2.1;rw[D0]at this;exact this
     have hrq:r.length=A.length - q4:=by rw[<-h3,D0]
     have hps5:PS s (τ++[.row x.row 91 0 0]) m z t A q4 v1 v2 D L:=X3 hps4;obtain⟨w2,τ2,ha,hc,hp2,hps6⟩:=Ayv hps5 x (by omega);obtain⟨hcc,hca⟩:=Aal hc;have hp:=hps5.p;have hxs:=Ahl x;have hxr:x.row=[.str x.nm,.int .i64 x.line,SL x.lz x.lt (x.locals.map fun s=>[V.str s]),SL x.bz x.bt (x.body.map Sp.row)]:=rfl;rw[hxr]at c1 ha hxs;simp only[hxr]at hp;simp only[go_sem];refine Ac hat ?_;simp only[go_sem];refine Ac c1 ?_;simp only[go_sem,ln0,lu0,hp,ha,hp2,hc,hcc,hca];refine Bi (jh (k2,q4,w2,L++[x],τ2.set (s.length+1) (.row [v1,w2] 27 0 0)) (by simp) ⟨hq4,by simp only;omega,hps6,?_,by simp;omega⟩) rfl;simp only;rw[hinv3,h3];simp only
     cases I4 (Jt A.length) k2 r with
     | none=>rfl
     | some y=>simp
   ·have ht:As Zb (A.drop q3)=false:=by simpa using ht
    rw[ht]at hat
    have hpt:I4 (Jt A.length) (k2+1) (A.drop q3)=some ([],A.drop q3):=by rw[I4,if_neg (by rw[ht];decide)]
    rw[hpt]at hinv3;simp only[Ha,Cw]at hinv3;have hz:=hps3.z2;have hp:=hps3.p;rw[hinv3];simp only
    have hcase:(v2=.nils/\L=[])\/(L≠[]/\∃ i g,v2=.sl i g 0 L.length 4 true):=by
     rcases hps3.g2 with⟨h1,h2⟩ | ⟨h1,i,g,h2,-⟩
     ·exact .inl ⟨h1,by simpa using h2⟩
     ·exact .inr ⟨fun e=>h1 (by rw[e];rfl),i,g,by rw[h2,Bl]⟩
    rcases hcase with⟨rfl,rfl⟩ | ⟨hne,i,g,rfl⟩
    ·simp only[go_sem];refine Ac hat ?_;simp only[go_sem];have hp9:(σ2.set s.length (.row [v1,.nils] 27 0 0))[s.length+1]?=some (.row [v1,.nils] 27 0 0):=by rw[Bc (by omega)];exact hp
     refine Ag (by kernel_rfl) ?_;simp only[go_sem,hp,hz,hv1];refine Ay ?_;simp only[go_sem,hv1,hz,hp];refine Yp hps3 rfl rfl hq3 ?_;show PRg A none _ _;exact⟨_,_,by simp only[Au,A1,Pg];rfl,rfl⟩
    ·have hlp:((0:Int)<(L.length:Int))=True:=eq_true (by have:=List.length_pos_iff.2 hne;omega);simp only[go_sem];refine Ac hat ?_;simp only[go_sem];have hp9:(σ2.set s.length (.row [v1,.sl i g 0 L.length 4 true] 27 0 0))[s.length+1]?=some (.row [v1,.sl i g 0 L.length 4 true] 27 0 0):=by rw[Bc (by omega)];exact hp
     refine Ag (by kernel_rfl) ?_;simp only[go_sem,hp,hz,hv1,gt_iff_lt,hlp];refine Ay ?_;simp only[go_sem,hv1,hz,hp,gt_iff_lt,hlp];refine Yp hps3 rfl rfl hq3 ?_;rw[if_neg (by simpa using hne)];exact⟨rfl,rfl⟩
def PaR(s:List UInt8)(v:V):Prop:=match Rk s with
 | some x=>v=.tup [.agg x.row,.int .i64 0,.int .i64 0]
 | none=>∃ e ln:Int,e≠0/\v=.tup [.agg [.nils,.nils],.int .i64 e,.int .i64 ln]
theorem A25(x:Gp):x.row.all V.rowB=true:=by
 unfold Gp.row;simp only[Au,A1,Pg];rfl
theorem Arq(x:Gp):x.row=[SL x.dz x.dt (x.decls.map Dp.row),SL x.tz x.tt (x.thrs.map Tp.row)]:=rfl
theorem Akz{a b:V}(h:[a,b].all V.rowB=true):a.cellB=true/\b.cellB=true:=by
 simp only[Au,A1,S8,Af]at h;exact⟨Ej h.1,Ej h.2⟩
theorem Arr(s:List UInt8):∃ v,Fn TT PT 15 [.str s] v/\PaR s v:=by
 obtain⟨v1,hsc,hR⟩:=Aux s;refine Alp T15 rfl ?_;unfold Adh at hR;unfold PaR Rk;by_cases hbig:4096<s.length
 ·rw[if_pos hbig]at hR ⊢;obtain⟨e,ln,he,rfl⟩:=hR;have ne:(e != 0)=true:=by simp[he]
  simp only[go_sem];refine Ad hsc (by simp only[go_sem]) ?_;simp only[go_sem,ne];exact⟨.tup [.agg [.nils,.nils],.int .i64 e,.int .i64 ln],⟨_,rfl,Ie (by rfl)⟩,e,ln,he,rfl⟩
 ·rw[if_neg hbig]at hR ⊢
  cases hL:Dn s.length 1 s with
  | none=>
   rw[hL]at hR;obtain⟨e,ln,he,rfl⟩:=hR;have ne:(e != 0)=true:=by simp[he]
   simp only[go_sem];refine Ad hsc (by simp only[go_sem]) ?_;simp only[go_sem,ne];exact⟨.tup [.agg [.nils,.nils],.int .i64 e,.int .i64 ln],⟨_,rfl,Ie (by rfl)⟩,e,ln,he,rfl⟩
  | some L=>
   rw[hL]at hR;simp only at hR;subst hR;have hA:=Are (by omega) hL;have hT:=Re _ _ _ _ hL;have ne:((0:Int) != 0)=false:=by decide
   have hl:L.length<=1000000:=by have:=hA.len;omega
   have h1:=An1 (s:=[.row [.nils,.nils] 27 0 0,RO true 0 L 0]) (m:=1) (z:=true) (t:=0) hA hT rfl;obtain⟨v,q,c4,hq2,h3⟩:=h1;have c4:Bp TT PT 46 [.ptr 1 0 0] [.row [.nils,.nils] 27 0 0,.row [SL true 0 (L.map Tk.row),.int .i64 0] 81 0 0] v [.row [.nils,.nils] 27 0 0,.row [SL true 0 (L.map Tk.row),.int .i64 (q:Int)] 81 0 0]:=c4;simp only[go_sem];refine Ad hsc (by simp only[go_sem]) ?_;simp only[go_sem,ne];unfold PRg at h3;have hread:∀ x:List V,∃ n:Int,Bp TT PT 47 [.ptr 1 0 0] [.row [.nils,.nils] 27 0 0,.row [SL true 0 (L.map Tk.row),.int .i64 (q:Int)] 81 0 0,.row x 27 0 0] (.int .i64 n) [.row [.nils,.nils] 27 0 0,.row [SL true 0 (L.map Tk.row),.int .i64 (q:Int)] 81 0 0,.row x 27 0 0]:=fun x=>Au2 (s:=[.row [.nils,.nils] 27 0 0,RO true 0 L q,.row x 27 0 0]) (m:=1) rfl hl hq2
   split at h3
   ·rename_i x r ho;obtain⟨rfl,h3⟩:=h3;have hxs:=A25 x;have hr:=Arq x;rw[hr]at c4 hxs;obtain⟨hx1,hx2⟩:=Akz hxs;rw[ho];refine Ac c4 ?_;simp only[go_sem];by_cases hq:q<L.length
    ·have f1:((q:Int)<(L.length:Int))=True:=eq_true (by omega);obtain⟨n,hln⟩:=hread [SL x.dz x.dt (x.decls.map Dp.row),SL x.tz x.tt (x.thrs.map Tp.row)];refine Ag (by kernel_rfl) ?_;simp only[go_sem,Lw,f1,hx1,hx2];refine Ac hln ?_;simp only[go_sem]
     have hne:r≠[]:=fun e=>by
      rw[e]at h3;have:=congrArg List.length h3;rw[D0]at this;simp at this;omega
     refine⟨.tup [.agg [.nils,.nils],.int .i64 3,.int .i64 n],⟨_,rfl,Ie (by rfl)⟩,?_⟩
     cases r with
     | nil=>exact absurd rfl hne
     | cons a b=>exact⟨3,n,by decide,rfl⟩
    ·have f1:((q:Int)<(L.length:Int))=False:=eq_false (by omega);rw[Fk (by omega)]at h3;subst h3;refine Ag (by kernel_rfl) ?_;simp only[go_sem,Lw,f1,hx1,hx2];refine⟨.tup [.agg x.row,.int .i64 0,.int .i64 0],?_,rfl⟩;rw[hr];exact⟨_,rfl,Ie (by simp only[go_sem,Nat.reduceEqDiff,reduceIte])⟩
   ·rename_i ho;obtain⟨d0,d1,hd,rfl⟩:=h3;obtain⟨hx1,hx2⟩:=Akz hd;rw[ho];obtain⟨n,hln⟩:=hread [d0,d1];refine Ac c4 ?_;simp only[go_sem,hx1,hx2];refine Ag (by kernel_rfl) ?_;simp only[go_sem,Lw];refine Ac hln ?_;simp only[go_sem];exact⟨.tup [.agg [.nils,.nils],.int .i64 3,.int .i64 n],⟨_,rfl,Ie (by rfl)⟩,3,n,by decide,rfl⟩
