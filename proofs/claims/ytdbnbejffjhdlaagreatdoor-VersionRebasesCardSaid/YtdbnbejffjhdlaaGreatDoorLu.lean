/- Walks: the parser's programs. -/
import Derived.Test.YtdbnbejffjhdlaaGreatDoorLs
set_option linter.all false
namespace Go.Proofs.YtdbnbejffjhdlaaGreatDoor.KM
open Go
def PRg(A:List Tk)(o:Option (Gp × List Tk))(v:V)(p':Nat):Prop:=match o with
 | some (x,r)=>v=.tup [.agg x.row,.bool true]/\A.drop p'=r
 | none=>∃ d0 d1:V,[d0,d1].all V.rowB=true/\v=.tup [.agg [d0,d1],.bool false]
structure PS (s σ:St) (m:Nat) (z:Bool) (t:Nat) (A:List Tk) (q:Nat) (u1 u2:V) (D:List Dp) (L:List Tp):Prop where
 rw:RW s σ m z t A q
 len:s.length+2<=σ.length
 z2:σ[s.length]?=some (.row [.nils,.nils] 29 0 0)
 p:σ[s.length+1]?=some (.row [u1,u2] 29 0 0)
 g1:GW σ 6 86 (s.length+2) u1 (D.map Dp.row)
 g2:GW σ 4 90 (s.length+2) u2 (L.map Tp.row)
def Aw6{s σ:St}{m:Nat}{z:Bool}{t:Nat}{A:List Tk}{q:Nat}{u1 u2:V}{D:List Dp}{L:List Tp}(h:PS s σ m z t A q u1 u2 D L)(q':Nat):PS s (σ.set m (RO z t A q')) m z t A q' u1 u2 D L:=by
 have hm:=h.rw.2.2.2;exact⟨Q9 h.rw q',by rw[Jc];exact h.len,by rw[Bk AA];exact h.z2,by rw[Bk AA];exact h.p,Dv h.g1 AA,Dv h.g2 AA⟩
def Aej{s σ l:St}{m:Nat}{z:Bool}{t:Nat}{A:List Tk}{q:Nat}{u1 u2:V}{D:List Dp}{L:List Tp}(h:PS s σ m z t A q u1 u2 D L):PS s (σ++l) m z t A q u1 u2 D L:=
 ⟨Aei h.rw,by have:=h.len;simp;omega,Bs h.z2,Bs h.p,H0 h.g1,H0 h.g2⟩
def Bct{s σ:St}{m:Nat}{z:Bool}{t:Nat}{A:List Tk}{q:Nat}{u1 u2:V}{D:List Dp}{L:List Tp}(h:PS s σ m z t A q u1 u2 D L)(d:Dp)(hb:D.length<=1000000):
  ∃ u' σ',Dz 64 (6,86) u1 (.lst 1 [d.row]) σ=some (u',σ')/\u'.cellB=true/\σ'[s.length+1]?=some (.row [u1,u2] 29 0 0)/\PS s (σ'.set (s.length+1) (.row [u',u2] 29 0 0)) m z t A q u' u2 (D++[d]) L:=by
 obtain⟨u',σ',ha,hg,hl,jd,qo⟩:=G9 (bytes:=64) (y:=.lst 1 [d.row]) (ys:=[d.row]) h.g1 h.len rfl AA (Ac8 D) (by simp;rfl) AJ;have qa:=h.len;have hp:σ'[s.length+1]?=some (.row [u1,u2] 29 0 0):=by rw[qo _ AA];exact h.p
 refine⟨u',σ',ha,Bx hg,hp,Q1 (Sq h.rw AA fun j hj=>qo j AA) AA,by rw[Jc];omega,?_,Bv AA,?_,?_⟩
 .rw[Bk AA,qo _ AA];exact h.z2
 .rw[Dl];exact Dv hg AA
 .exact Dv (Awy AP (Awz h.g1) h.g2 jd) AA
def Bhl{s σ:St}{m:Nat}{z:Bool}{t:Nat}{A:List Tk}{q:Nat}{u1 u2:V}{D:List Dp}{L:List Tp}(h:PS s σ m z t A q u1 u2 D L)(d:Tp)(hb:L.length<=1000000):
  ∃ u' σ',Dz 72 (4,90) u2 (.lst 1 [d.row]) σ=some (u',σ')/\u'.cellB=true/\σ'[s.length+1]?=some (.row [u1,u2] 29 0 0)/\PS s (σ'.set (s.length+1) (.row [u1,u'] 29 0 0)) m z t A q u1 u' D (L++[d]):=by
 obtain⟨u',σ',ha,hg,hl,jd,qo⟩:=G9 (bytes:=72) (y:=.lst 1 [d.row]) (ys:=[d.row]) h.g2 h.len rfl AA (Ui L) (by simp;rfl) AJ;have qa:=h.len;have hp:σ'[s.length+1]?=some (.row [u1,u2] 29 0 0):=by rw[qo _ AA];exact h.p
 refine⟨u',σ',ha,Bx hg,hp,Q1 (Sq h.rw AA fun j hj=>qo j AA) AA,by rw[Jc];omega,?_,Bv AA,?_,?_⟩
 .rw[Bk AA,qo _ AA];exact h.z2
 .exact Dv (Awy AP (Awz h.g2) h.g1 jd) AA
 .rw[Dl];exact Dv hg AA
def Afg{s σ:St}{m:Nat}{z:Bool}{t:Nat}{A:List Tk}{q:Nat}{u1 u2:V}{D:List Dp}{L:List Tp}(h:PS s σ m z t A q u1 u2 D L){e':Env}{b:Bool}{R:V->Nat->Prop}(jD:e'.get 2=.ptr s.length 0 0)(jE:e'.get 3=.bool b)(hq:q<=A.length)(hR:R (.tup [.agg [SL true 0 (D.map Dp.row),SL true 0 (L.map Tp.row)],.bool b]) q):
  ∃ vs vs' q,Ca e' (σ.set s.length (.row [u1,u2] 29 0 0)) [AR.cell 2 2 false,AR.tmp 3]=some (.tup vs)/\vs.all Gc=true/\OVs (σ.set s.length (.row [u1,u2] 29 0 0)) vs vs'/\(∀ j∈Ah vs,s.length<=j)/\Ah vs'=[]/\RW s (σ.set s.length (.row [u1,u2] 29 0 0)) m z t A q/\q<=A.length/\R (.tup vs') q:=by
 have qa:=h.len;have c1:=Bx h.g1;have c2:=Bx h.g2;refine⟨[.agg [u1,u2],.bool b],[.agg [SL true 0 (D.map Dp.row),SL true 0 (L.map Tp.row)],.bool b],q,Cj (Bv AA) jD rfl jE,?_,?_,?_,?_,Q1 h.rw (An _),hq,hR⟩
 .show([u1,u2].all V.cellB&&(Gc (.bool b)&&true))=true;simp only[Bp,Ce,c1,c2];rfl
 .exact .cons (Sw (.cons (I1 (Dv h.g1 AA) AA (Ac8 D) (Aio D)) (.cons (I1 (Dv h.g2 AA) AA (Ui L) (Ac9 L)) .nil))) (.cons (H2 rfl) .nil)
 .intro j hj;simp only[Ah,V.refs,Bw,Ch]at hj
  have k1:∀ {w:V} {mm e:Nat} {xs:List (List V)},GW σ mm e (s.length+2) w xs->∀ j∈w.refs,s.length<=j:=by
   intro w mm e xs hg j hj;rcases hg with⟨rfl,-⟩ | ⟨-,i,g,rfl,-,jQ⟩
   .cases hj
   .simp only[V.refs,D4]at hj;omega
  rcases hj with hj | hj
  .exact k1 h.g1 j hj
  .exact k1 h.g2 j hj
 .simp only[Ah,V.refs,Avf,Bw]
set_option maxHeartbeats 4000000 in
def A2c{s:St}{m:Nat}{z:Bool}{t:Nat}{A:List Tk}(hA:OkA A)(hT:D6 A)(hs:s[m]?=some (RO z t A 0)):RT 36 [] s m z t A (PRg A (Aa6 A)):=by
 have hl:A.length<=1000000:=by have:=hA.len;omega
 have hm:=(Al.1 hs).1;refine Aw5 T36 hs fun S hS=>?_
 have jn:=Azx hS hs;have jj:PS s (S 0++[.row [.nils,.nils] 29 0 0,.row [.nils,.nils] 29 0 0]) m z t A 0 .nils .nils [] []:=⟨jn _ _,by simp[hS.len],hS.n0 _ _ _,hS.n1 _ _ _ _,De,De⟩;have Zq:=Dx hS;obtain⟨-,-,qa,get,get0,set,set0,n0,n1,n2,u0,u1,u2⟩:=hS;have jx:A.drop 0=A:=Jd;simp only[go_sem,Zq,LZ];refine Bh (α:=Nat × Nat × V × List Dp × St) (fun a=>a.1) (fun a=>[(0,.ptr m 0 0),(2,.ptr s.length 0 0),(4,.ptr (s.length+1) 0 0)]) (fun a=>a.2.2.2.2) (fun a=>a.2.1<=A.length/\A.length - a.2.1<a.1/\PS s a.2.2.2.2 m z t A a.2.1 a.2.2.1 .nils a.2.2.2.1 []/\Mr (A.length+1) A=(Mr a.1 (A.drop a.2.1)).map (fun y=>(a.2.2.2.1++y.1,y.2))/\a.2.2.2.1.length<=a.2.1) ?_ (A.length+1,0,.nils,[],S 0++[.row [.nils,.nils] 29 0 0,.row [.nils,.nils] 29 0 0]) ⟨Av _,by simp only;omega,jj,by simp only[Ci,jx];cases Mr (A.length+1) A<;>rfl,by simp⟩;rintro⟨k,q,v1,D,σ⟩ ⟨hq,qj,qC,qb,jA⟩ ih;simp only at hq qj qC qb jA ih;obtain⟨k,rfl⟩:∃ j,k=j+1:=⟨k - 1,by omega⟩;refine Az Blm ?_;have qv:=S0 qC.rw.2.2.1 hl hq;have qu:=Aom (Ag A q).text;have jP:∀ (τ:St) (ob:Ob),s.length+2<=τ.length->(τ.set s.length ob)[s.length]?=some ob:=fun τ ob h=>Bv AA
 have qJ:Sz (A.drop q)=((Ag A q).kind==3&&H9 (Ag A q).text != 0):=by
  rcases Bb q A.length with h | h
  .rw[Ms h];rfl
  .rw[(Lf h).1,(Lf h).2];rfl
 by_cases hd:Sz (A.drop q)=true
 .have jK:q<A.length:=by
   rcases Bb q A.length with h | h
   .exact h
   .rw[(Lf h).1]at hd;cases hd
  rw[qJ,Ak]at hd;obtain⟨qG,qH⟩:=hd;obtain⟨v,q2,c1,qQ,h3⟩:=A2b hA hT qC.rw.2.2.1 hq (by rw[qJ,qG,qH];rfl);have qw:=Aw6 qC q2
  have ji:Mr (k+1) (A.drop q)=match Vg (A.drop q) with
    | none=>none
    | some (d,r)=>match Mr k r with
     | none=>none
     | some (l,r)=>some (d::l,r):=by
   rw[Mr,if_pos (by rw[qJ,qG,qH];rfl)];rfl
  rw[ji]at qb;unfold PRd at h3;generalize σ.set m (RO z t A q2)=τ at c1 qw;have qL:∀ a:Ob,(τ++[a])[τ.length]?=some a:=fun a=>by simp
  have qM:∀ a b:Ob,(τ++[a]).set τ.length b=τ++[b]:=fun a b=>by simp[Qp]
  cases hpq:Vg (A.drop q) with
  | none=>
   rw[hpq]at h3 qb;obtain⟨_,⟨e0,e1,e2,e3,e4,e5,rfl,hb⟩,rfl⟩:=h3;have qh:PS s (τ++[.row [e0,e1,e2,e3,e4,e5] 86 0 0]) m z t A q2 v1 .nils D []:=Aej qw;have hz:=qh.z2;have hp:=qh.p;have qy:=Bx qC.g1;simp only[go_sem];refine Aa qv ?_;simp only[go_sem,qG];refine Aa qv ?_;simp only[go_sem];refine Ab qu rfl ?_;simp only[go_sem,qH];refine Aa c1 ?_;simp only[go_sem,qL,qM,Aff hb,hz,hp,qy];refine Afg qh rfl rfl qQ ?_;unfold Aa6;rw[qb];exact⟨_,_,by simp only[Bp,Ce,Ux];rfl,rfl⟩
  | some dr=>
   obtain⟨d,r⟩:=dr;rw[hpq]at h3 qb;obtain⟨rfl,h3⟩:=h3
   have jH:r.length<A.length - q:=by
    have:=(Aok (C:=100) AA (Dr hT (Acd q A)) (by rw[qJ,qG,qH];rfl) hpq).2.2.1;rw[E3]at this;exact this
   have jL:r.length=A.length - q2:=by rw[<-h3,E3]
   have qh:PS s (τ++[.row d.row 86 0 0]) m z t A q2 v1 .nils D []:=Aej qw;obtain⟨w1,τ2,ha,hc,jg,qd⟩:=Bct qh d AA;obtain⟨qZ,qY⟩:=Ah5 hc;have hp:=qh.p;have jt:d.row=[iV d.kind,iV d.line,.str d.nm,iV d.size,iV d.init,.str d.on]:=rfl;rw[jt]at c1 ha;simp only[jt]at hp;simp only[go_sem];refine Aa qv ?_;simp only[go_sem,qG];refine Aa qv ?_;simp only[go_sem];refine Ab qu rfl ?_;simp only[go_sem,qH];refine Aa c1 ?_;simp only[go_sem,qL,qM,hp,ha,jg,hc,qZ,qY];refine Am (ih (k,q2,w1,D++[d],τ2.set (s.length+1) (.row [w1,.nils] 29 0 0)) AE ⟨qQ,by simp only;omega,qd,?_,by simp;omega⟩) rfl;simp only;rw[qb,h3];simp only
   cases Mr k r with
   | none=>rfl
   | some y=>simp
 .have hd:Sz (A.drop q)=false:=by simpa using hd
  have ji:Mr (k+1) (A.drop q)=some ([],A.drop q):=by rw[Mr,if_neg (by rw[hd];decide)]
  rw[ji]at qb;simp only[Is,Bw]at qb;rw[qJ]at hd
  have jF:∀ P:Prop,((Ag A q).kind==3)=false\/(((Ag A q).kind==3)=true/\(H9 (Ag A q).text != 0)=false):=fun _=>by
   cases h:((Ag A q).kind==3)
   .exact .inl rfl
   .rw[h]at hd;exact .inr ⟨rfl,by simpa using hd⟩
  unfold Aa6;rw[qb];simp only;rcases jF True with hk | ⟨hk,qo⟩
  case' inl=>simp only[go_sem]
  case' inl=>refine Aa qv ?_
  case' inl=>simp only[go_sem,hk]
  case' inr=>simp only[go_sem]
  case' inr=>refine Aa qv ?_
  case' inr=>simp only[go_sem,hk]
  case' inr=>refine Aa qv ?_
  case' inr=>simp only[go_sem]
  case' inr=>refine Ab qu rfl ?_
  case' inr=>simp only[go_sem,qo]
  all_goals
   refine Bh (α:=Nat × Nat × V × List Tp × St) (fun a=>a.1) (fun a=>[(0,.ptr m 0 0),(2,.ptr s.length 0 0),(4,.ptr (s.length+1) 0 0)]) (fun a=>a.2.2.2.2) (fun a=>a.2.1<=A.length/\A.length - a.2.1<a.1/\PS s a.2.2.2.2 m z t A a.2.1 v1 a.2.2.1 D a.2.2.2.1/\Mt (Nr A.length) (A.length+1) (A.drop q)=(Mt (Nr A.length) a.1 (A.drop a.2.1)).map (fun y=>(a.2.2.2.1++y.1,y.2))/\a.2.2.2.1.length<=a.2.1) ?_ (A.length+1,q,.nils,[],σ) ⟨hq,by simp only;omega,qC,by simp only[Ci];cases Mt (Nr A.length) (A.length+1) (A.drop q)<;>rfl,by simp⟩;rintro⟨k2,q3,v2,L,σ2⟩ ⟨qR,qX,qd,qc,qV⟩ jh;simp only at qR qX qd qc qV jh;obtain⟨k2,rfl⟩:∃ j,k2=j+1:=⟨k2 - 1,by omega⟩;refine Az Bln ?_;have qB:=Amg qd.rw.2.2.1 hl qR Agt;have qy:=Bx qd.g1;have jN:=Bx qd.g2;by_cases ht:A1 Agt (A.drop q3)=true
   .rw[ht]at qB
    have qK:=Eg ht;obtain⟨v,q4,c1,jv,h3⟩:=A4h (n:=Nr A.length) hA hT qd.rw.2.2.1 qK (by unfold Nr;omega);have qx:=Aw6 qd q4
    have jl:Mt (Nr A.length) (k2+1) (A.drop q3)=match Vo (Nr A.length) (A.drop q3) with
      | none=>none
      | some (x,r)=>match Mt (Nr A.length) k2 r with
       | none=>none
       | some (l,r)=>some (x::l,r):=by
     rw[Mt,if_pos ht];rfl
    rw[jl]at qc;unfold PRt at h3;generalize σ2.set m (RO z t A q4)=τ at c1 qx;have qL:∀ a:Ob,(τ++[a])[τ.length]?=some a:=fun a=>by simp
    have qM:∀ a b:Ob,(τ++[a]).set τ.length b=τ++[b]:=fun a b=>by simp[Qp]
    cases hpq:Vo (Nr A.length) (A.drop q3) with
    | none=>
     rw[hpq]at h3 qc;obtain⟨e0,e1,e2,e3,hb,rfl⟩:=h3;have qi:PS s (τ++[.row [e0,e1,e2,e3] 90 0 0]) m z t A q4 v1 v2 D L:=Aej qx;have hz:=qi.z2;have hp:=qi.p
     have jB:(e0.cellB&&(e1.cellB&&(e2.cellB&&e3.cellB)))=true:=by
      simp only[Bp,Ce,Ak]at hb;simp only[Gb hb.1,Gb hb.2.1,Gb hb.2.2.1,Gb hb.2.2.2.1,Ahr]
     simp only[go_sem];refine Aa qB ?_;simp only[go_sem];refine Aa c1 ?_;simp only[go_sem,qL,qM,jB,hz,hp,qy,jN];refine Afg qi rfl rfl jv ?_;rw[qc];exact⟨_,_,by simp only[Bp,Ce,Ux];rfl,rfl⟩
    | some xr=>
     obtain⟨x,r⟩:=xr;rw[hpq]at h3 qc;obtain⟨rfl,h3⟩:=h3
     have jI:r.length<A.length - q3:=by
      have:=(Ao6 (M:=A.length) (C:=100+8*A.length) (An _) (Dr hT (Acd q3 A)) (by rw[E3];omega) hpq).2.2.2.2.1;rw[E3]at this;exact this
     have jL:r.length=A.length - q4:=by rw[<-h3,E3]
     have qi:PS s (τ++[.row x.row 90 0 0]) m z t A q4 v1 v2 D L:=Aej qx;obtain⟨w2,τ2,ha,hc,jg,jk⟩:=Bhl qi x AA;obtain⟨qZ,qY⟩:=Ah5 hc;have hp:=qi.p;have qU:=Asi x;have qr:x.row=(tR x):=rfl;rw[qr]at c1 ha qU;simp only[qr]at hp;simp only[go_sem];refine Aa qB ?_;simp only[go_sem];refine Aa c1 ?_;simp only[go_sem,qL,qM,hp,ha,jg,hc,qZ,qY];refine Am (jh (k2,q4,w2,L++[x],τ2.set (s.length+1) (.row [v1,w2] 29 0 0)) AE ⟨jv,by simp only;omega,jk,?_,by simp;omega⟩) rfl;simp only;rw[qc,h3];simp only
     cases Mt (Nr A.length) k2 r with
     | none=>rfl
     | some y=>simp
   .have ht:A1 Agt (A.drop q3)=false:=by simpa using ht
    rw[ht]at qB
    have jl:Mt (Nr A.length) (k2+1) (A.drop q3)=some ([],A.drop q3):=by rw[Mt,if_neg (by rw[ht];decide)]
    rw[jl]at qc;simp only[Is,Bw]at qc;have hz:=qd.z2;have hp:=qd.p;rw[qc];simp only
    have qF:(v2=.nils/\L=[])\/(L≠[]/\∃ i g,v2=.sl i g 0 L.length 4 true):=by
     rcases qd.g2 with⟨h1,h2⟩ | ⟨h1,i,g,h2,-⟩
     .exact .inl ⟨h1,by simpa using h2⟩
     .exact .inr ⟨fun e=>h1 (by rw[e];rfl),i,g,by rw[h2,Aj]⟩
    rcases qF with⟨rfl,rfl⟩ | ⟨qP,i,g,rfl⟩
    .simp only[go_sem];refine Aa qB ?_;simp only[go_sem];have jJ:(σ2.set s.length (.row [v1,.nils] 29 0 0))[s.length+1]?=some (.row [v1,.nils] 29 0 0):=by rw[Bk AA];exact hp
     refine Ad AD ?_;simp only[go_sem,hp,hz,qy];refine Be ?_;simp only[go_sem,qy,hz,hp];refine Afg qd rfl rfl qR ?_;show PRg A none _ _;exact⟨_,_,by simp only[Bp,Ce,Ux];rfl,rfl⟩
    .have ju:((0:Int)<(L.length:Int))=True:=eq_true (by have:=List.length_pos_iff.2 qP;omega);simp only[go_sem];refine Aa qB ?_;simp only[go_sem];have jJ:(σ2.set s.length (.row [v1,.sl i g 0 L.length 4 true] 29 0 0))[s.length+1]?=some (.row [v1,.sl i g 0 L.length 4 true] 29 0 0):=by rw[Bk AA];exact hp
     refine Ad AD ?_;simp only[go_sem,hp,hz,qy,gt_iff_lt,ju];refine Be ?_;simp only[go_sem,qy,hz,hp,gt_iff_lt,ju];refine Afg qd rfl rfl qR ?_;rw[if_neg (by simpa using qP)];exact⟨rfl,rfl⟩
def Yd(s:List UInt8)(v:V):Prop:=match Ox s with
 | some x=>v=.tup [.agg x.row,.int .i64 0,.int .i64 0]
 | none=>∃ e ln:Int,e≠0/\v=.tup [.agg [.nils,.nils],.int .i64 e,.int .i64 ln]
def Agw(x:Gp):x.row.all V.rowB=true:=by
 unfold Gp.row;simp only[Bp,Ce,Ux];rfl
def A70(x:Gp):x.row=(gR x):=rfl
def Aw7{a b:V}(h:[a,b].all V.rowB=true):a.cellB=true/\b.cellB=true:=by
 simp only[Bp,Ce,Yn,Ak]at h;exact⟨Gb h.1,Gb h.2⟩
def Adr(s:List UInt8):∃ v,Fn TT PT 11 [.str s] v/\Yd s v:=by
 obtain⟨v1,jp,hR⟩:=Bch s;refine Ame T11 rfl ?_;unfold Amf at hR;unfold Yd Ox;by_cases qE:4096<s.length
 .rw[if_pos qE]at hR ⊢;obtain⟨e,ln,he,rfl⟩:=hR;have ne:(e != 0)=true:=by simp[he]
  simp only[go_sem];refine Ab jp AB ?_;simp only[go_sem,ne];exact⟨.tup [.agg [.nils,.nils],iV e,iV ln],⟨_,rfl,Fp AK⟩,e,ln,he,rfl⟩
 .rw[if_neg qE]at hR ⊢
  cases hL:En s.length 1 s with
  | none=>
   rw[hL]at hR;obtain⟨e,ln,he,rfl⟩:=hR;have ne:(e != 0)=true:=by simp[he]
   simp only[go_sem];refine Ab jp AB ?_;simp only[go_sem,ne];exact⟨.tup [.agg [.nils,.nils],iV e,iV ln],⟨_,rfl,Fp AK⟩,e,ln,he,rfl⟩
  | some L=>
   rw[hL]at hR;simp only at hR;subst hR;have hA:=A7w AA hL;have hT:=W3 _ _ _ _ hL;have ne:((0:Int) != 0)=false:=by decide
   have hl:L.length<=1000000:=by have:=hA.len;omega
   have h1:=A2c (s:=[.row [.nils,.nils] 29 0 0,RO true 0 L 0]) (m:=1) (z:=true) (t:=0) hA hT rfl;obtain⟨v,q,c4,qQ,h3⟩:=h1;have c4:Bt TT PT 36 [.ptr 1 0 0] [.row [.nils,.nils] 29 0 0,.row [SL true 0 (L.map Tk.row),iV 0] 80 0 0] v [.row [.nils,.nils] 29 0 0,.row [SL true 0 (L.map Tk.row),iV (q:Int)] 80 0 0]:=c4;simp only[go_sem];refine Ab jp AB ?_;simp only[go_sem,ne];unfold PRg at h3;have qq:∀ x:List V,∃ n:Int,Bt TT PT 37 [.ptr 1 0 0] [.row [.nils,.nils] 29 0 0,.row [SL true 0 (L.map Tk.row),iV (q:Int)] 80 0 0,.row x 29 0 0] (iV n) [.row [.nils,.nils] 29 0 0,.row [SL true 0 (L.map Tk.row),iV (q:Int)] 80 0 0,.row x 29 0 0]:=fun x=>Bcp (s:=[.row [.nils,.nils] 29 0 0,RO true 0 L q,.row x 29 0 0]) (m:=1) rfl hl qQ
   split at h3
   .rename_i x r ho;obtain⟨rfl,h3⟩:=h3;have qU:=Agw x;have hr:=A70 x;rw[hr]at c4 qU;obtain⟨qz,qT⟩:=Aw7 qU;rw[ho];refine Aa c4 ?_;simp only[go_sem];by_cases hq:q<L.length
    .have f1:((q:Int)<(L.length:Int))=True:=eq_true AA;obtain⟨n,je⟩:=qq (gR x);refine Ad AD ?_;simp only[go_sem,Pu,f1,qz,qT];refine Aa je ?_;simp only[go_sem]
     have qP:r≠[]:=fun e=>by
      rw[e]at h3;have:=congrArg List.length h3;rw[E3]at this;simp at this;omega
     refine⟨.tup [.agg [.nils,.nils],iV 3,iV n],⟨_,rfl,Fp AK⟩,?_⟩
     cases r with
     | nil=>exact absurd rfl qP
     | cons a b=>exact⟨3,n,by decide,rfl⟩
    .have f1:((q:Int)<(L.length:Int))=False:=eq_false AA;rw[Dt AA]at h3;subst h3;refine Ad AD ?_;simp only[go_sem,Pu,f1,qz,qT];refine⟨.tup [.agg x.row,iV 0,iV 0],?_,rfl⟩;rw[hr];exact⟨_,rfl,Fp (by simp only[go_sem,Nat.reduceEqDiff,reduceIte])⟩
   .rename_i ho;obtain⟨d0,d1,hd,rfl⟩:=h3;obtain⟨qz,qT⟩:=Aw7 hd;rw[ho];obtain⟨n,je⟩:=qq [d0,d1];refine Aa c4 ?_;simp only[go_sem,qz,qT];refine Ad AD ?_;simp only[go_sem,Pu];refine Aa je ?_;simp only[go_sem];exact⟨.tup [.agg [.nils,.nils],iV 3,iV n],⟨_,rfl,Fp AK⟩,3,n,by decide,rfl⟩
/-! shapes -/
def shH(op n:Int)(nm:List UInt8)(k:Nat):Bool:=
 Yc op==(k:Int)&&((op==2||op==3)==!(nm==[])&&((!(op==2||op==3)||B0 nm)&&(decide (0<=n)&&(op==1||n==0))))
mutual
def Hy:Xp->Bool
 | ⟨op,n,nm,_,_,l⟩=>shH op n nm l.length&&Agx l
def Agx:List Xp->Bool
 | []=>true
 | x::l=>Hy x&&Agx l
end
def Asu:∀ l:List Xp,Agx l=l.all Hy
 | []=>rfl
 | x::l=>by rw[Agx,Asu l];rfl
def Bcu(x:Xp):Hy x=(shH x.op x.n x.nm x.l.length&&x.l.all Hy):=by
 rw[<-Asu];cases x;rfl
def Afh(x:Xp):Bool:=x.op==0&&(x.n==0&&(x.nm==[]&&x.l.isEmpty))
def Anh(s:Sp):Bool:=
 decide (1<=s.op)&&(decide (s.op<=15)&&((if Gx s.op then s.nm==[] else B0 s.nm)&&((if s.op=15 then B0 s.arg else s.arg==[]) &&
  (decide (s.idx.length<=1)&&((s.op==1||s.idx.isEmpty)&&(s.idx.all Hy&&((if Fg s.op then Hy s.ex else Afh s.ex) &&
   ((B3 s.op||s.body.isEmpty)&&(s.op==2||s.els.isEmpty)))))))))
mutual
def Pb:Sp->Bool
 | ⟨op,line,nm,arg,iz,it,idx,ex,bz,bt,body,ez,et,els⟩=>Anh ⟨op,line,nm,arg,iz,it,idx,ex,bz,bt,body,ez,et,els⟩&&(Lk body&&Lk els)
def Lk:List Sp->Bool
 | []=>true
 | x::l=>Pb x&&Lk l
end
def Asv:∀ l:List Sp,Lk l=l.all Pb
 | []=>rfl
 | x::l=>by rw[Lk,Asv l];rfl
def Bcv(s:Sp):Pb s=(Anh s&&(Lk s.body&&Lk s.els)):=by
 cases s;rfl
def Vy(d:Dp):Bool:=
 decide (1<=d.kind)&&(decide (d.kind<=6)&&(B0 d.nm&&(decide (0<=d.size)&&((d.kind==1||d.size==0)&&((if d.kind=5 then B0 d.on else d.on==[]) &&
  (decide (-9223372036854775808<d.init)&&(d.init==0||(d.kind==1||d.kind==2))))))))
def shT(t:Tp):Bool:=t.locals.all B0&&(B0 t.nm&&Lk t.body)
def shG(p:Gp):Bool:=p.decls.all Vy&&(p.thrs.all shT&&!p.thrs.isEmpty)
/-! what is in range -/
/-! bulk -/
def Aek(z:Bool)(t:Nat)(rows:List (List V)):(SL z t rows).bulk=Cz rows+1:=by
 unfold SL
 split
 .rename_i h;rw[h.2];simp[V.bulk,Cz]
 .simp[V.bulk]
def Ha(x:Xp):C5 x.row=4+x.nm.length+Cz (x.l.map Xp.row):=by
 rw[Bj];simp only[C5,V.bulk,Aek];omega
def Nu(s:Sp):C5 s.row=7+s.nm.length+s.arg.length+Cz (s.idx.map Xp.row)+C5 s.ex.row+Cz (s.body.map Sp.row)+Cz (s.els.map Sp.row):=by
 rw[Sc];simp only[Ahm,C5,V.bulk,Aek];omega
def Bnh(d:Dp):C5 d.row=6+d.nm.length+d.on.length:=by
 simp only[Dp.row,C5,V.bulk];omega
def Aa9(t:Tp):C5 t.row=4+t.nm.length+Cz (t.locals.map fun s=>[V.str s])+Cz (t.body.map Sp.row):=by
 simp only[Tp.row,C5,V.bulk,Aek];omega
def Amj(p:Gp):C5 p.row=2+Cz (p.decls.map Dp.row)+Cz (p.thrs.map Tp.row):=by
 simp only[Gp.row,C5,Aek];omega
def J5{α:Type}{f:α->List V}:∀ {l:List α} {x:α},x∈l->C5 (f x)<=Cz (l.map f)
 | y::l,x,h=>by
  rw[A2,Cz];rcases Bo.1 h with rfl | h
  .omega
  .have:=J5 (f:=f) h;omega
def Lr{α:Type}{f:α->List V}(hf:∀ x,1<=C5 (f x)):∀ l:List α,l.length<=Cz (l.map f)
 | []=>by simp
 | x::l=>by
  rw[A2,Cz,Bg];have:=Lr hf l;have:=hf x;omega
def Ge{a b:AC}{k:List It}{e:Env}{σ:St}{Q:Env->St->Prop}(P:Env->St->Prop)(h1:∀ k',(∀ e σ,P e σ->W TT PT k' e σ Q)->W TT PT (.c a::k') e σ Q)(h2:∀ e σ,P e σ->W TT PT (.c b::k) e σ Q):W TT PT (.c (.seq a b)::k) e σ Q:=by
 rw[Alw];exact h1 _ h2
def A1a(op:Int):Fn TT PT 215 [iV op] (iV (Yc op)):=by
 refine Bc T215 rfl ?_;unfold Yc;by_cases h1:op=1
 .subst h1;simp only[go_sem,Int.reduceBEq];exact Ae rfl rfl
 have e1:(op==1)=false:=by simp[h1]
 by_cases h2:op=2
 .subst h2;simp only[go_sem,e1,Int.reduceBEq];exact Ae rfl rfl
 have e2:(op==2)=false:=by simp[h2]
 rw[if_neg AA];by_cases h3:3<=op/\op<=5
 .have g3:((3:Int)<=op)=True:=eq_true h3.1;have g5:(op<=5)=True:=eq_true h3.2;rw[if_pos h3];simp only[go_sem,e1,e2,g3,g5,ge_iff_le];exact Ae rfl rfl
 rw[if_neg h3];by_cases h6:6<=op/\op<=18
 .have g3:((3:Int)<=op)=True:=eq_true AA;have g5:(op<=5)=False:=eq_false AA;have g6:((6:Int)<=op)=True:=eq_true h6.1;have g7:(op<=18)=True:=eq_true h6.2;rw[if_pos h6];simp only[go_sem,e1,e2,g3,g5,g6,g7,ge_iff_le];exact Ae rfl rfl
 rw[if_neg h6];by_cases hl:3<=op
 .have g3:((3:Int)<=op)=True:=eq_true AA;have g5:(op<=5)=False:=eq_false AA;have g6:((6:Int)<=op)=True:=eq_true AA;have g7:(op<=18)=False:=eq_false AA;simp only[go_sem,e1,e2,g3,g5,g6,g7,ge_iff_le];exact Ae rfl rfl
 .have g3:((3:Int)<=op)=False:=eq_false AA;have g6:((6:Int)<=op)=False:=eq_false AA;simp only[go_sem,e1,e2,g3,g6,ge_iff_le];exact Ae rfl rfl
def A71(x:Xp)(hl:x.l.length<=1000000000):Fn TT PT 191 [.agg x.row] (.bool (Afh x)):=by
 refine Bc T191 rfl ?_;rw[Bj];unfold Afh;have qa:(x.l.map Xp.row).length=x.l.length:=Aj ..;cases h1:(x.op==0)
 .simp only[go_sem,h1];exact Ae rfl rfl
 cases h2:(x.n==0)
 .simp only[go_sem,h1,h2];exact Ae rfl rfl
 cases h3:(x.nm==[])
 .simp only[go_sem,h1,h2,h3];exact Ae rfl rfl
 have e:((x.l.length:Int)==0)=x.l.isEmpty:=by
  cases x.l with
  | nil=>rfl
  | cons a b=>simp;omega
 simp only[go_sem,h1,h2,h3,qa,e];exact Ae rfl rfl
set_option maxHeartbeats 1000000 in
def A72(x:Xp)(hl:x.l.length<=1000000000)(ih:∀ y∈x.l,Fn TT PT 190 [.agg y.row] (.bool (Hy y))):Fn TT PT 190 [.agg x.row] (.bool (Hy x)):=by
 obtain⟨op,n,nm,z,t,l⟩:=x;have hr:=Bj ⟨op,n,nm,z,t,l⟩;have hR:=Bcu ⟨op,n,nm,z,t,l⟩;generalize Hy ⟨op,n,nm,z,t,l⟩=R at hR ⊢;simp only at hr hl ih hR;rw[hr];clear hr;unfold shH at hR;have qa:(l.map Xp.row).length=l.length:=Aj ..;refine Bc T190 rfl ?_;refine Ge (fun e σ=>e=[(1,.ptr 0 0 0)]/\σ=[.row [iV op,iV n,.str nm,SL z t (l.map Xp.row)] 102 0 0]) (fun k' hk=>?_) ?_
 .simp only[go_sem];exact hk _ _ ⟨rfl,rfl⟩
 rintro e σ ⟨rfl,rfl⟩;refine Ge (fun e σ=>e=[(1,.ptr 0 0 0),(3,.bool (op==2||op==3))]/\σ=[.row [iV op,iV n,.str nm,SL z t (l.map Xp.row)] 102 0 0]) (fun k' hk=>?_) ?_
 .cases h2:(op==2)
  .simp only[go_sem,h2];exact hk _ _ ⟨by rw[h2];rfl,rfl⟩
  .simp only[go_sem,h2];exact hk _ _ ⟨by rw[h2];rfl,rfl⟩
 rintro e σ ⟨rfl,rfl⟩;generalize(op==2||op==3)=nb at hR ⊢;have ho:=A1a op;have qf:=Sb nm;refine Ge (fun e σ=>(e=[(1,.ptr 0 0 0)]/\σ=[.row [iV op,iV n,.str nm,SL z t (l.map Xp.row)] 102 0 0])/\R=l.all Hy) (fun k' hk=>?_) ?_
 .cases h1:(Yc op != (l.length:Int));rotate_left
  .have b1:(Yc op==(l.length:Int))=false:=by simpa using h1
   rw[b1]at hR;subst hR;simp only[go_sem];refine Ad AD ?_;simp only[go_sem];refine Ax ho rfl ?_;simp only[go_sem,qa,h1];exact Ae rfl rfl
  have b1:(Yc op==(l.length:Int))=true:=by simpa using h1
  rw[b1]at hR
  have lt:∀ {a:Int},decide (0<=a)=!decide (a<0):=fun {a}=>by
   by_cases h:0<=a
   .rw[decide_eq_true h,decide_eq_false AA];rfl
   .rw[decide_eq_false h,decide_eq_true AA];rfl
  cases nb<;>cases h2:(nm==[])
  .rw[h2]at hR;subst hR;simp only[go_sem];refine Ad AD ?_;simp only[go_sem];refine Ax ho rfl ?_;simp only[go_sem,qa,h1,h2,Bd,Ba,beq_self_eq_true,K6,K7];exact Ae rfl rfl
  .rw[h2]at hR;cases h4:decide (n<0);rotate_left
   .rw[lt,h4]at hR;simp only[Ba,V7,Ahp]at hR;subst hR;simp only[go_sem];refine Ad AD ?_;simp only[go_sem];refine Ax ho rfl ?_;simp only[go_sem,qa,h1,h2,Bd,Ba,beq_self_eq_true,K6,K7,h4];exact Ae rfl rfl
   rw[lt,h4]at hR;cases h5:(op==1);rotate_left
   .rw[h5]at hR;have qm:(op != 1)=false:=by simp[bne,h5]
    simp only[go_sem];refine Ad AD ?_;simp only[go_sem];refine Ax ho rfl ?_;simp only[go_sem,qa,h1,h2,Bd,Ba,beq_self_eq_true,K6,K7,h4,qm];exact hk _ _ ⟨⟨rfl,rfl⟩,by rw[hR];rfl⟩
   rw[h5]at hR;have qm:(op != 1)=true:=by simp[bne,h5]
   cases h6:(n==0)
   .rw[h6]at hR;have qs:(n != 0)=true:=by simp[bne,h6]
    simp only[Bd,Ba,Ahp,Bool.or_false,V7]at hR;subst hR;simp only[go_sem];refine Ad AD ?_;simp only[go_sem];refine Ax ho rfl ?_;simp only[go_sem,qa,h1,h2,Bd,Ba,beq_self_eq_true,K6,K7,h4,qm,qs];exact Ae rfl rfl
   rw[h6]at hR;have qs:(n != 0)=false:=by simp[bne,h6]
   simp only[go_sem];refine Ad AD ?_;simp only[go_sem];refine Ax ho rfl ?_;simp only[go_sem,qa,h1,h2,Bd,Ba,beq_self_eq_true,K6,K7,h4,qm,qs];exact hk _ _ ⟨⟨rfl,rfl⟩,by rw[hR];rfl⟩
  .rw[h2]at hR;cases h3:B0 nm
   .rw[h3]at hR qf;subst hR;simp only[go_sem];refine Ad AD ?_;simp only[go_sem];refine Ax ho rfl ?_;simp only[go_sem,qa,h1,h2,Bd,Ba,beq_self_eq_true,K6,K7];refine Ax qf rfl ?_;simp only[go_sem,qa,h1,h2,Bd,Ba,beq_self_eq_true,K6,K7];exact Ae rfl rfl
   rw[h3]at hR qf;cases h4:decide (n<0);rotate_left
   .rw[lt,h4]at hR;simp only[Ba,V7,Ahp]at hR;subst hR;simp only[go_sem];refine Ad AD ?_;simp only[go_sem];refine Ax ho rfl ?_;simp only[go_sem,qa,h1,h2,Bd,Ba,beq_self_eq_true,K6,K7];refine Ax qf rfl ?_;simp only[go_sem,qa,h1,h2,Bd,Ba,beq_self_eq_true,K6,K7,h4];exact Ae rfl rfl
   rw[lt,h4]at hR;cases h5:(op==1);rotate_left
   .rw[h5]at hR;have qm:(op != 1)=false:=by simp[bne,h5]
    simp only[go_sem];refine Ad AD ?_;simp only[go_sem];refine Ax ho rfl ?_;simp only[go_sem,qa,h1,h2,Bd,Ba,beq_self_eq_true,K6,K7];refine Ax qf rfl ?_;simp only[go_sem,qa,h1,h2,Bd,Ba,beq_self_eq_true,K6,K7,h4,qm];exact hk _ _ ⟨⟨rfl,rfl⟩,by rw[hR];rfl⟩
   rw[h5]at hR;have qm:(op != 1)=true:=by simp[bne,h5]
   cases h6:(n==0)
   .rw[h6]at hR;have qs:(n != 0)=true:=by simp[bne,h6]
    simp only[Bd,Ba,Ahp,Bool.or_false,V7]at hR;subst hR;simp only[go_sem];refine Ad AD ?_;simp only[go_sem];refine Ax ho rfl ?_;simp only[go_sem,qa,h1,h2,Bd,Ba,beq_self_eq_true,K6,K7];refine Ax qf rfl ?_;simp only[go_sem,qa,h1,h2,Bd,Ba,beq_self_eq_true,K6,K7,h4,qm,qs];exact Ae rfl rfl
   rw[h6]at hR;have qs:(n != 0)=false:=by simp[bne,h6]
   simp only[go_sem];refine Ad AD ?_;simp only[go_sem];refine Ax ho rfl ?_;simp only[go_sem,qa,h1,h2,Bd,Ba,beq_self_eq_true,K6,K7];refine Ax qf rfl ?_;simp only[go_sem,qa,h1,h2,Bd,Ba,beq_self_eq_true,K6,K7,h4,qm,qs];exact hk _ _ ⟨⟨rfl,rfl⟩,by rw[hR];rfl⟩
  .rw[h2]at hR;subst hR;simp only[go_sem];refine Ad AD ?_;simp only[go_sem];refine Ax ho rfl ?_;simp only[go_sem,qa,h1,h2,Bd,Ba,beq_self_eq_true,K6,K7];exact Ae rfl rfl
 rintro e σ ⟨⟨rfl,rfl⟩,hR⟩;simp only[go_sem];refine Bh (α:=Nat) (fun i=>l.length - i) (fun i=>[(1,.ptr 0 0 0),(4,iV (i:Int))]) (fun _=>[.row [iV op,iV n,.str nm,SL z t (l.map Xp.row)] 102 0 0]) (fun i=>i<=l.length/\l.all Hy=(l.drop i).all Hy) ?_ 0 ⟨Av _,rfl⟩;rintro i ⟨hi,qb⟩ jh;refine Az Bgt ?_;by_cases hc:i<l.length
 .have f1:((i:Int)<(l.length:Int))=True:=eq_true AA;have jc:=Ay (show i<9223372036854775807 by omega);obtain⟨a,ha⟩:∃ a,l[i]?=some a:=⟨_,Cd hc⟩;have qA:=Bj a;have qt:=D0 a;have hf:=ih a (F0 ha);have qn:(l.map Xp.row)[i]?=some (xR a):=by rw[Ai,ha,Is,qA]
  have ja:l.drop i=a::l.drop (i+1):=by rw[Gr hc,(Al.1 ha).2]
  rw[ja,Bp]at qb;rw[qA]at hf qt;cases hab:Hy a
  .rw[hab]at hf qb;rw[qb]at hR;subst hR;simp only[go_sem,qa,f1,qn];refine Ab hf AB ?_;simp only[go_sem];exact Ae rfl rfl
  .rw[hab]at hf qb;simp only[go_sem,qa,f1,qn];refine Ab hf AB ?_;simp only[go_sem,jc];exact Am (jh (i+1) AA ⟨hc,by simpa using qb⟩) rfl
 .have f1:((i:Int)<(l.length:Int))=False:=eq_false AA;rw[qb,Dt AA]at hR;subst hR;simp only[go_sem,qa,f1];exact Ae rfl rfl
def Afi:∀ (N:Nat) (x:Xp),C5 x.row<=N->N<=1000000000->Fn TT PT 190 [.agg x.row] (.bool (Hy x))
 | 0,x,h,_=>by rw[Ha]at h;omega
 | N+1,x,h,hN=>by
  have h1:=Ha x;have h2:=Lr (f:=Xp.row) (fun x=>by rw[Ha];omega) x.l;refine A72 x AA fun y hy=>Afi N y ?_ AA
  have:=J5 (f:=Xp.row) hy;omega
set_option maxHeartbeats 2000000 in
def A73(s:Sp)(hi:∀ x∈s.idx,Fn TT PT 190 [.agg x.row] (.bool (Hy x)))(he:Fn TT PT 190 [.agg s.ex.row] (.bool (Hy s.ex)))(jb:s.ex.l.length<=1000000000)(jG:s.idx.length<=1000000000)(jC:s.body.length<=1000000000)(jM:s.els.length<=1000000000)
  (hb:Fn TT PT 122 [SL s.bz s.bt (s.body.map Sp.row)] (.bool (Lk s.body))) (hs:Fn TT PT 122 [SL s.ez s.et (s.els.map Sp.row)] (.bool (Lk s.els))):Fn TT PT 158 [.agg s.row] (.bool (Pb s)):=by
 obtain⟨op,line,nm,arg,iz,it,idx,ex,bz,bt,body,ez,et,els⟩:=s;have hr:=Sc ⟨op,line,nm,arg,iz,it,idx,ex,bz,bt,body,ez,et,els⟩;have hR:=Bcv ⟨op,line,nm,arg,iz,it,idx,ex,bz,bt,body,ez,et,els⟩;generalize Pb ⟨op,line,nm,arg,iz,it,idx,ex,bz,bt,body,ez,et,els⟩=R at hR ⊢;have qj:=A71 ex jb;simp only at hr hR hi he hb hs jG jC jM jb;rw[hr];clear hr;have qr:=Bj ex;rw[qr]at he qj ⊢;unfold Anh at hR;simp only at hR;generalize ex.op=xo at he qj ⊢;generalize ex.n=xn at he qj ⊢;generalize ex.nm=xm at he qj ⊢;generalize ex.z=xz at he qj ⊢;generalize ex.t=xt at he qj ⊢;generalize ex.l=xl at he qj jb ⊢;clear qr;simp only[Jb,Ci];obtain⟨A3,h3⟩:∃ b,b=(if Gx op then nm==[] else B0 nm):=⟨_,rfl⟩;obtain⟨A4,h4⟩:∃ b,b=(if op=15 then B0 arg else arg==[]):=⟨_,rfl⟩;obtain⟨A5,h5⟩:∃ b,b=decide (idx.length<=1):=⟨_,rfl⟩;obtain⟨A6,h6⟩:∃ b,b=(op==1||idx.isEmpty):=⟨_,rfl⟩;obtain⟨A7,h7⟩:∃ b,b=idx.all Hy:=⟨_,rfl⟩;obtain⟨A8,h8⟩:∃ b,b=(if Fg op then Hy ex else Afh ex):=⟨_,rfl⟩;obtain⟨A9,h9⟩:∃ b,b=(B3 op||body.isEmpty):=⟨_,rfl⟩;obtain⟨A10,jq⟩:∃ b,b=(op==2||els.isEmpty):=⟨_,rfl⟩;rw[<-h3,<-h4,<-h5,<-h6,<-h7,<-h8,<-h9,<-jq]at hR;obtain⟨B1,jy⟩:∃ b,b=Lk body:=⟨_,rfl⟩;obtain⟨B2,jz⟩:∃ b,b=Lk els:=⟨_,rfl⟩;rw[<-jy]at hR hb;rw[<-jz]at hR hs;have qe:(idx.map Xp.row).length=idx.length:=Aj ..;have qk:(body.map Sp.row).length=body.length:=Aj ..;have qp:(els.map Sp.row).length=els.length:=Aj ..;have qf:=Sb nm;have qA:=Sb arg;refine Bc T158 rfl ?_;refine Ge (fun e σ=>e=[(1,.ptr 0 0 0)]/\σ=[.row [iV op,iV line,.str nm,.str arg,SL iz it (idx.map Xp.row),iV xo,iV xn,.str xm,SL xz xt (xl.map Xp.row),SL bz bt (body.map Sp.row),SL ez et (els.map Sp.row)] 104 0 0]) (fun k' hk=>?_) ?_
 .simp only[go_sem];exact hk _ _ ⟨rfl,rfl⟩
 rintro e σ ⟨rfl,rfl⟩;refine Ge (fun e σ=>(e=[(1,.ptr 0 0 0)]/\σ=[.row [iV op,iV line,.str nm,.str arg,SL iz it (idx.map Xp.row),iV xo,iV xn,.str xm,SL xz xt (xl.map Xp.row),SL bz bt (body.map Sp.row),SL ez et (els.map Sp.row)] 104 0 0])/\(1<=op/\op<=15)/\R=((A3&&(A4&&(A5&&(A6&&(A7&&(A8&&(A9&&(A10))))))))&&(B1&&B2))) (fun k' hk=>?_) ?_
 .by_cases g1:op<1
  .rw[decide_eq_false (show ¬ 1<=op by omega)]at hR;subst hR;have f1:(op<1)=True:=eq_true g1;simp only[go_sem,f1];exact Ae rfl rfl
  have f1:(op<1)=False:=eq_false g1;rw[decide_eq_true (show 1<=op by omega)]at hR;by_cases g2:15<op
  .rw[decide_eq_false (show ¬ op<=15 by omega)]at hR;subst hR;have f2:((15:Int)<op)=True:=eq_true g2;simp only[go_sem,f1,f2,gt_iff_lt];exact Ae rfl rfl
  have f2:((15:Int)<op)=False:=eq_false g2;rw[decide_eq_true (show op<=15 by omega)]at hR;simp only[go_sem,f1,f2,gt_iff_lt];exact hk _ _ ⟨⟨rfl,rfl⟩,⟨by omega,by omega⟩,by rw[hR];rfl⟩
 clear hR;rintro e σ ⟨⟨rfl,rfl⟩,jR,hR⟩;refine Ge (fun e σ=>e=[(1,.ptr 0 0 0),(3,.bool (Gx op))]/\σ=[.row [iV op,iV line,.str nm,.str arg,SL iz it (idx.map Xp.row),iV xo,iV xn,.str xm,SL xz xt (xl.map Xp.row),SL bz bt (body.map Sp.row),SL ez et (els.map Sp.row)] 104 0 0]) (fun k' hk=>?_) ?_
 .unfold Gx at hk;cases q2:(op==2);rotate_left
  .simp only[go_sem,q2];exact hk _ _ ⟨by rw[q2];rfl,rfl⟩
  cases q3:(op==3);rotate_left
  .simp only[go_sem,q2,q3];exact hk _ _ ⟨by rw[q2,q3];rfl,rfl⟩
  cases q7:(op==7);rotate_left
  .simp only[go_sem,q2,q3,q7];exact hk _ _ ⟨by rw[q2,q3,q7];rfl,rfl⟩
  cases q8:(op==8)
  .simp only[go_sem,q2,q3,q7,q8];exact hk _ _ ⟨by rw[q2,q3,q7,q8];rfl,rfl⟩
  .simp only[go_sem,q2,q3,q7,q8];exact hk _ _ ⟨by rw[q2,q3,q7,q8];rfl,rfl⟩
 rintro e σ ⟨rfl,rfl⟩;refine Ge (fun e σ=>(e=[(1,.ptr 0 0 0)]/\σ=[.row [iV op,iV line,.str nm,.str arg,SL iz it (idx.map Xp.row),iV xo,iV xn,.str xm,SL xz xt (xl.map Xp.row),SL bz bt (body.map Sp.row),SL ez et (els.map Sp.row)] 104 0 0])/\R=((A4&&(A5&&(A6&&(A7&&(A8&&(A9&&(A10)))))))&&(B1&&B2))) (fun k' hk=>?_) ?_
 .cases hn:Gx op
  .rw[hn,if_neg AE]at h3;rw[<-h3]at qf;cases A3
   .subst hR;simp only[go_sem,Bd,Ba];refine Ab qf rfl ?_;simp only[go_sem,Bd,Ba];exact Ae rfl rfl
   .simp only[go_sem,Bd,Ba];refine Ab qf rfl ?_;simp only[go_sem,Bd,Ba];exact hk _ _ ⟨⟨rfl,rfl⟩,by rw[hR];rfl⟩
  .rw[hn,if_pos rfl]at h3;have h3:=h3.symm;cases A3
   .subst hR;simp only[go_sem,Bd,Ba,h3];exact Ae rfl rfl
   .simp only[go_sem,Bd,Ba,h3];exact hk _ _ ⟨⟨rfl,rfl⟩,by rw[hR];rfl⟩
 clear hR;rintro e σ ⟨⟨rfl,rfl⟩,hR⟩;refine Ge (fun e σ=>(e=[(1,.ptr 0 0 0)]/\σ=[.row [iV op,iV line,.str nm,.str arg,SL iz it (idx.map Xp.row),iV xo,iV xn,.str xm,SL xz xt (xl.map Xp.row),SL bz bt (body.map Sp.row),SL ez et (els.map Sp.row)] 104 0 0])/\R=((A5&&(A6&&(A7&&(A8&&(A9&&(A10))))))&&(B1&&B2))) (fun k' hk=>?_) ?_
 .by_cases qN:op=15
  .rw[if_pos qN]at h4;rw[<-h4]at qA;have qD:(op==15)=true:=by simp[qN]
   cases A4
   .subst hR;simp only[go_sem,Bd,Ba,qD,bne];refine Ab qA rfl ?_;simp only[go_sem,Bd,Ba];exact Ae rfl rfl
   .simp only[go_sem,Bd,Ba,qD,bne];refine Ab qA rfl ?_;simp only[go_sem,Bd,Ba,qD,bne];exact hk _ _ ⟨⟨rfl,rfl⟩,by rw[hR];rfl⟩
  .rw[if_neg qN]at h4;have h4:=h4.symm;have qD:(op==15)=false:=by simp[qN]
   cases A4
   .subst hR;simp only[go_sem,Bd,Ba,h4,qD,bne];exact Ae rfl rfl
   .simp only[go_sem,Bd,Ba,h4,qD,bne];exact hk _ _ ⟨⟨rfl,rfl⟩,by rw[hR];rfl⟩
 clear hR;rintro e σ ⟨⟨rfl,rfl⟩,hR⟩;refine Ge (fun e σ=>(e=[(1,.ptr 0 0 0)]/\σ=[.row [iV op,iV line,.str nm,.str arg,SL iz it (idx.map Xp.row),iV xo,iV xn,.str xm,SL xz xt (xl.map Xp.row),SL bz bt (body.map Sp.row),SL ez et (els.map Sp.row)] 104 0 0])/\R=((A8&&(A9&&(A10)))&&(B1&&B2))) (fun k' hk=>?_) ?_
 .have hN:idx.length=0\/idx.length=1\/2<=idx.length:=by omega
  rcases hN with h | h | h
  .have qg:idx=[]:=M6.1 h;have f1:((1:Int)<(idx.length:Int))=False:=eq_false AA;have f2:((0:Int)<(idx.length:Int))=False:=eq_false AA;have f3:((idx.length:Int)==1)=false:=by simp[h]
   rw[h5,h6,h7]at hR
   have hR:R=((A8&&(A9&&A10))&&(B1&&B2)):=by rw[hR,qg];cases(op==1)<;>rfl
   cases q1:(op==1)
   .simp only[go_sem,Bd,Ba,q1,bne,qe,f1,f2,f3,gt_iff_lt];exact hk _ _ ⟨⟨rfl,rfl⟩,hR⟩
   .simp only[go_sem,Bd,Ba,q1,bne,qe,f1,f2,f3,gt_iff_lt];exact hk _ _ ⟨⟨rfl,rfl⟩,hR⟩
  .obtain⟨a,qg⟩:=List.length_eq_one_iff.1 h;have f1:((1:Int)<(idx.length:Int))=False:=eq_false AA;have f2:((0:Int)<(idx.length:Int))=True:=eq_true AA;have f3:((idx.length:Int)==1)=true:=by simp[h]
   have qr:=Bj a;have qt:=D0 a;have hf:=hi a (by rw[qg];exact D4.2 rfl);have qn:(idx.map Xp.row)[0]?=some [iV a.op,iV a.n,.str a.nm,SL a.z a.t (a.l.map Xp.row)]:=by rw[qg,<-qr];rfl
   rw[qr]at hf qt;have h5:A5=true:=by rw[h5,qg];rfl
   have h7:A7=Hy a:=by rw[h7,qg,Bp,Ce,Yn]
   have h6:A6=(op==1):=by rw[h6,qg];simp
   rw[h5,h6,h7]at hR;cases q1:(op==1)
   .rw[q1]at hR;subst hR;simp only[go_sem,Bd,Ba,q1,bne,qe,f1,f2,f3,gt_iff_lt];exact Ae rfl rfl
   rw[q1]at hR;cases hab:Hy a
   .rw[hab]at hR hf;subst hR;simp only[go_sem,Bd,Ba,q1,bne,qe,f1,f2,f3,gt_iff_lt,qn];refine Ab hf AB ?_;simp only[go_sem,Bd,Ba];exact Ae rfl rfl
   .rw[hab]at hR hf;simp only[go_sem,Bd,Ba,q1,bne,qe,f1,f2,f3,gt_iff_lt,qn];refine Ab hf AB ?_;simp only[go_sem,Bd,Ba];exact hk _ _ ⟨⟨rfl,rfl⟩,hR⟩
  .have f1:((1:Int)<(idx.length:Int))=True:=eq_true AA;rw[show A5=false from by rw[h5];exact decide_eq_false AA]at hR;subst hR;simp only[go_sem,Bd,Ba,qe,f1,gt_iff_lt];exact Ae rfl rfl
 clear hR;rintro e σ ⟨⟨rfl,rfl⟩,hR⟩;refine Ge (fun e σ=>e=[(1,.ptr 0 0 0),(4,.bool (Fg op))]/\σ=[.row [iV op,iV line,.str nm,.str arg,SL iz it (idx.map Xp.row),iV xo,iV xn,.str xm,SL xz xt (xl.map Xp.row),SL bz bt (body.map Sp.row),SL ez et (els.map Sp.row)] 104 0 0]) (fun k' hk=>?_) ?_
 .unfold Fg at hk;cases q1:(op==1);rotate_left
  .simp only[go_sem,q1];exact hk _ _ ⟨by rw[q1];rfl,rfl⟩
  cases q2:(op==2);rotate_left
  .simp only[go_sem,q1,q2];exact hk _ _ ⟨by rw[q1,q2];rfl,rfl⟩
  cases q3:(op==3);rotate_left
  .simp only[go_sem,q1,q2,q3];exact hk _ _ ⟨by rw[q1,q2,q3];rfl,rfl⟩
  cases q14:(op==14)
  .simp only[go_sem,q1,q2,q3,q14];exact hk _ _ ⟨by rw[q1,q2,q3,q14];rfl,rfl⟩
  .simp only[go_sem,q1,q2,q3,q14];exact hk _ _ ⟨by rw[q1,q2,q3,q14];rfl,rfl⟩
 rintro e σ ⟨rfl,rfl⟩;refine Ge (fun e σ=>(e=[(1,.ptr 0 0 0)]/\σ=[.row [iV op,iV line,.str nm,.str arg,SL iz it (idx.map Xp.row),iV xo,iV xn,.str xm,SL xz xt (xl.map Xp.row),SL bz bt (body.map Sp.row),SL ez et (els.map Sp.row)] 104 0 0])/\R=((A9&&(A10))&&(B1&&B2))) (fun k' hk=>?_) ?_
 .cases hn:Fg op
  .rw[hn,if_neg AE]at h8;rw[<-h8]at qj;cases A8
   .subst hR;simp only[go_sem,Bd,Ba];refine Ab qj AB ?_;simp only[go_sem,Bd,Ba];exact Ae rfl rfl
   .simp only[go_sem,Bd,Ba];refine Ab qj AB ?_;simp only[go_sem,Bd,Ba];exact hk _ _ ⟨⟨rfl,rfl⟩,by rw[hR];rfl⟩
  .rw[hn,if_pos rfl]at h8;rw[<-h8]at he;cases A8
   .subst hR;simp only[go_sem,Bd,Ba];refine Ab he AB ?_;simp only[go_sem,Bd,Ba];exact Ae rfl rfl
   .simp only[go_sem,Bd,Ba];refine Ab he AB ?_;simp only[go_sem,Bd,Ba];exact hk _ _ ⟨⟨rfl,rfl⟩,by rw[hR];rfl⟩
 clear hR;rintro e σ ⟨⟨rfl,rfl⟩,hR⟩;refine Ge (fun e σ=>e=[(1,.ptr 0 0 0),(5,.bool (B3 op))]/\σ=[.row [iV op,iV line,.str nm,.str arg,SL iz it (idx.map Xp.row),iV xo,iV xn,.str xm,SL xz xt (xl.map Xp.row),SL bz bt (body.map Sp.row),SL ez et (els.map Sp.row)] 104 0 0]) (fun k' hk=>?_) ?_
 .unfold B3 at hk;by_cases g1:2<=op
  .have f1:((2:Int)<=op)=True:=eq_true g1;rw[decide_eq_true g1]at hk;by_cases g2:op<=8
   .have f2:(op<=8)=True:=eq_true g2;rw[decide_eq_true g2]at hk;simp only[go_sem,f1,f2,ge_iff_le];exact hk _ _ ⟨rfl,rfl⟩
   .have f2:(op<=8)=False:=eq_false g2;rw[decide_eq_false g2]at hk;simp only[go_sem,f1,f2,ge_iff_le];exact hk _ _ ⟨rfl,rfl⟩
  .have f1:((2:Int)<=op)=False:=eq_false g1;rw[decide_eq_false g1]at hk;simp only[go_sem,f1,ge_iff_le];exact hk _ _ ⟨rfl,rfl⟩
 rintro e σ ⟨rfl,rfl⟩;refine Ge (fun e σ=>(e=[(1,.ptr 0 0 0)]/\σ=[.row [iV op,iV line,.str nm,.str arg,SL iz it (idx.map Xp.row),iV xo,iV xn,.str xm,SL xz xt (xl.map Xp.row),SL bz bt (body.map Sp.row),SL ez et (els.map Sp.row)] 104 0 0])/\R=(B1&&B2)) (fun k' hk=>?_) ?_
 .have e1:((0:Int)<(body.length:Int))=(body.isEmpty=false):=by
   cases body with
   | nil=>simp
   | cons x r=>simp
  have e2:((0:Int)<(els.length:Int))=(els.isEmpty=false):=by
   cases els with
   | nil=>simp
   | cons x r=>simp
  rw[h9,jq]at hR
  cases hn:B3 op<;>cases hbe:body.isEmpty
  .rw[hn,hbe]at hR;subst hR;simp only[go_sem,Bd,Ba,qk,e1,hbe,gt_iff_lt,decide_true];exact Ae rfl rfl
  all_goals
   rw[hn,hbe]at hR
   cases q2:(op==2)<;>cases hee:els.isEmpty
   .rw[q2,hee]at hR;subst hR;simp only[go_sem,Bd,Ba,qk,qp,e1,e2,hbe,hee,q2,bne,gt_iff_lt,decide_true];exact Ae rfl rfl
   all_goals
    rw[q2,hee]at hR;simp only[go_sem,Bd,Ba,qk,qp,e1,e2,hbe,hee,q2,bne,gt_iff_lt,decide_true];exact hk _ _ ⟨⟨rfl,rfl⟩,by rw[hR];rfl⟩
 clear hR;rintro e σ ⟨⟨rfl,rfl⟩,hR⟩;cases B1
 .subst hR;simp only[go_sem];refine Ab hb AB ?_;simp only[go_sem];exact Ae rfl rfl
 .cases B2
  .subst hR;simp only[go_sem];refine Ab hb AB ?_;simp only[go_sem];refine Ab hs AB ?_;simp only[go_sem];exact Ae rfl rfl
  .subst hR;simp only[go_sem];refine Ab hb AB ?_;simp only[go_sem];refine Ab hs AB ?_;simp only[go_sem];exact Ae rfl rfl
def Ais(z:Bool)(t:Nat)(l:List Sp)(hl:l.length<=1000000000)(ih:∀ y∈l,Fn TT PT 158 [.agg y.row] (.bool (Pb y))):Fn TT PT 122 [SL z t (l.map Sp.row)] (.bool (Lk l)):=by
 have qa:(l.map Sp.row).length=l.length:=Aj ..;rw[Asv];obtain⟨R,hR⟩:∃ b,b=l.all Pb:=⟨_,rfl⟩;rw[<-hR];refine Bc T122 rfl ?_;simp only[go_sem];refine Bh (α:=Nat) (fun i=>l.length - i) (fun i=>[(0,SL z t (l.map Sp.row)),(3,iV (i:Int))]) (fun _=>[]) (fun i=>i<=l.length/\l.all Pb=(l.drop i).all Pb) ?_ 0 ⟨Av _,rfl⟩;rintro i ⟨hi,qb⟩ jh;refine Az Bgl ?_;by_cases hc:i<l.length
 .have f1:((i:Int)<(l.length:Int))=True:=eq_true AA;have jc:=Ay (show i<9223372036854775807 by omega);obtain⟨a,ha⟩:∃ a,l[i]?=some a:=⟨_,Cd hc⟩;have qt:=Hg a;have hf:=ih a (F0 ha);have qn:(l.map Sp.row)[i]?=some a.row:=by rw[Ai,ha,Is]
  have ja:l.drop i=a::l.drop (i+1):=by rw[Gr hc,(Al.1 ha).2]
  have jm:=Ol a;rw[ja,Bp]at qb;generalize a.row=ar at qn hf qt jm;have jw:ar.take 11=ar:=I9 AA;cases hab:Pb a
  .rw[hab]at hf qb;rw[qb]at hR;subst hR;simp only[go_sem,qa,f1,qn,jm,jw];refine Ab hf (by simp only[go_sem,qt]) ?_;simp only[go_sem];exact Ae rfl rfl
  .rw[hab]at hf qb;simp only[go_sem,qa,f1,qn,jm,jw];refine Ab hf (by simp only[go_sem,qt]) ?_;simp only[go_sem,jc];exact Am (jh (i+1) AA ⟨hc,by simpa using qb⟩) rfl
 .have f1:((i:Int)<(l.length:Int))=False:=eq_false AA;rw[qb,Dt AA]at hR;subst hR;simp only[go_sem,qa,f1];exact Ae rfl rfl
def Ald:∀ (N:Nat) (s:Sp),C5 s.row<=N->N<=1000000000->Fn TT PT 158 [.agg s.row] (.bool (Pb s))
 | 0,s,h,_=>by rw[Nu]at h;omega
 | N+1,s,h,hN=>by
  have h1:=Nu s;have h2:=Lr (f:=Xp.row) (fun x=>by rw[Ha];omega) s.idx;have h3:=Lr (f:=Sp.row) (fun x=>by rw[Nu];omega) s.body;have h4:=Lr (f:=Sp.row) (fun x=>by rw[Nu];omega) s.els;have h5:=Lr (f:=Xp.row) (fun x=>by rw[Ha];omega) s.ex.l;have h6:=Ha s.ex;refine A73 s (fun x hx=>Afi N x ?_ AA) (Afi N s.ex AA AA) AA AA AA AA (Ais _ _ _ AA fun y hy=>Ald N y ?_ AA) (Ais _ _ _ AA fun y hy=>Ald N y ?_ AA)
  .have:=J5 (f:=Xp.row) hx;omega
  .have:=J5 (f:=Sp.row) hy;omega
  .have:=J5 (f:=Sp.row) hy;omega
set_option maxHeartbeats 1000000 in
def Bhm(d:Dp):Fn TT PT 121 [.agg d.row] (.bool (Vy d)):=by
 obtain⟨kind,line,nm,size,init,on⟩:=d;obtain⟨R,hR⟩:∃ b,b=Vy ⟨kind,line,nm,size,init,on⟩:=⟨_,rfl⟩;rw[<-hR];unfold Vy at hR;simp only at hR;have qf:=Sb nm;have jf:=Sb on;refine Bc T121 rfl ?_;unfold Dp.row;simp only;obtain⟨A3,h3⟩:∃ b,b=B0 nm:=⟨_,rfl⟩;obtain⟨A6,h6⟩:∃ b,b=(if kind=5 then B0 on else on==[]):=⟨_,rfl⟩;obtain⟨A7,h7⟩:∃ b,b=(decide (-9223372036854775808<init)&&(init==0||(kind==1||kind==2))):=⟨_,rfl⟩;rw[<-h3,<-h6,<-h7]at hR;rw[<-h3]at qf;refine Ge (fun e σ=>e=[(1,.ptr 0 0 0)]/\σ=[.row [iV kind,iV line,.str nm,iV size,iV init,.str on] 86 0 0]) (fun k' hk=>?_) ?_
 .simp only[go_sem];exact hk _ _ ⟨rfl,rfl⟩
 rintro e σ ⟨rfl,rfl⟩;refine Ge (fun e σ=>(e=[(1,.ptr 0 0 0)]/\σ=[.row [iV kind,iV line,.str nm,iV size,iV init,.str on] 86 0 0])/\R=(A6&&A7)) (fun k' hk=>?_) ?_
 .by_cases g1:kind<1
  .rw[decide_eq_false (show ¬ 1<=kind by omega)]at hR;subst hR;have f1:(kind<1)=True:=eq_true g1;simp only[go_sem,f1];exact Ae rfl rfl
  have f1:(kind<1)=False:=eq_false g1;rw[decide_eq_true (show 1<=kind by omega)]at hR;by_cases g2:6<kind
  .rw[decide_eq_false (show ¬ kind<=6 by omega)]at hR;subst hR;have f2:((6:Int)<kind)=True:=eq_true g2;simp only[go_sem,f1,f2,gt_iff_lt];exact Ae rfl rfl
  have f2:((6:Int)<kind)=False:=eq_false g2;rw[decide_eq_true (show kind<=6 by omega)]at hR;cases A3
  .subst hR;simp only[go_sem,f1,f2,gt_iff_lt];refine Ab qf rfl ?_;simp only[go_sem,Bd];exact Ae rfl rfl
  by_cases g4:size<0
  .rw[decide_eq_false (show ¬ 0<=size by omega)]at hR;subst hR;have f4:(size<0)=True:=eq_true g4;simp only[go_sem,f1,f2,gt_iff_lt];refine Ab qf rfl ?_;simp only[go_sem,f4,Ba];exact Ae rfl rfl
  have f4:(size<0)=False:=eq_false g4;rw[decide_eq_true (show 0<=size by omega)]at hR
  cases q1:(kind==1)<;>cases q5:(size==0)
  .rw[q1,q5]at hR;subst hR;simp only[go_sem,f1,f2,gt_iff_lt];refine Ab qf rfl ?_;simp only[go_sem,f4,Ba,Bd,bne,q1,q5];exact Ae rfl rfl
  all_goals
   rw[q1,q5]at hR;simp only[go_sem,f1,f2,gt_iff_lt];refine Ab qf rfl ?_;simp only[go_sem,f4,Ba,Bd,bne,q1,q5];exact hk _ _ ⟨⟨rfl,rfl⟩,by rw[hR];rfl⟩
 clear hR;rintro e σ ⟨⟨rfl,rfl⟩,hR⟩;refine Ge (fun e σ=>(e=[(1,.ptr 0 0 0)]/\σ=[.row [iV kind,iV line,.str nm,iV size,iV init,.str on] 86 0 0])/\R=A7) (fun k' hk=>?_) ?_
 .by_cases h5:kind=5
  .rw[if_pos h5]at h6;have q5:(kind==5)=true:=by simp[h5]
   rw[<-h6]at jf;cases A6
   .subst hR;simp only[go_sem,q5,bne,Ba,Bd];refine Ab jf rfl ?_;simp only[go_sem,Bd];exact Ae rfl rfl
   .simp only[go_sem,q5,bne,Ba,Bd];refine Ab jf rfl ?_;simp only[go_sem,q5,bne,Ba,Bd];exact hk _ _ ⟨⟨rfl,rfl⟩,by rw[hR];rfl⟩
  .rw[if_neg h5]at h6;have h6:=h6.symm;have q5:(kind==5)=false:=by simp[h5]
   cases A6
   .subst hR;simp only[go_sem,q5,h6,bne,Ba,Bd];exact Ae rfl rfl
   .simp only[go_sem,q5,h6,bne,Ba,Bd];exact hk _ _ ⟨⟨rfl,rfl⟩,by rw[hR];rfl⟩
 clear hR;rintro e σ ⟨⟨rfl,rfl⟩,hR⟩;rw[h7]at hR;by_cases g7 : -9223372036854775808<init
 .have f7:((-9223372036854775808:Int)<init)=True:=eq_true g7;rw[decide_eq_true g7]at hR
  cases q0:(init==0)<;>cases q1:(kind==1)<;>cases q2:(kind==2)
  all_goals
   rw[q0,q1,q2]at hR;subst hR;simp only[go_sem,f7,q0,q1,q2,gt_iff_lt];exact Ae rfl rfl
 .have f7:((-9223372036854775808:Int)<init)=False:=eq_false g7;rw[decide_eq_false g7]at hR;subst hR;simp only[go_sem,f7,gt_iff_lt];exact Ae rfl rfl
set_option maxHeartbeats 1000000 in
def Bhn(p:Gp)(hb:C5 p.row<=1000000000):Fn TT PT 75 [.agg p.row] (.bool (shG p)):=by
 obtain⟨dz,dt,decls,tz,tt,thrs⟩:=p;rw[Amj]at hb;simp only at hb;have b1:=Lr (f:=Dp.row) (fun x=>by rw[Bnh];omega) decls;have b2:=Lr (f:=Tp.row) (fun x=>by rw[Aa9];omega) thrs;have n1:(decls.map Dp.row).length=decls.length:=Aj ..;have n2:(thrs.map Tp.row).length=thrs.length:=Aj ..;obtain⟨R,hR⟩:∃ b,b=shG ⟨dz,dt,decls,tz,tt,thrs⟩:=⟨_,rfl⟩;rw[<-hR];unfold shG at hR;simp only at hR;unfold Gp.row;simp only;refine Bc T75 rfl ?_;simp only[go_sem];refine Bh (α:=Nat) (fun i=>decls.length - i) (fun i=>[(1,.ptr 0 0 0),(3,iV (i:Int))]) (fun _=>[.row [SL dz dt (decls.map Dp.row),SL tz tt (thrs.map Tp.row)] 29 0 0]) (fun i=>i<=decls.length/\decls.all Vy=(decls.drop i).all Vy) ?_ 0 ⟨Av _,rfl⟩;rintro i ⟨hi,hc⟩ ih;refine Az Bl4 ?_;rcases Bb i decls.length with h' | h'
 .obtain⟨x,hx,hd,hm⟩:=Bl h';rw[hd,Bp]at hc;have hf:=Bhm x;have ql:x.row=[iV x.kind,iV x.line,.str x.nm,iV x.size,iV x.init,.str x.on]:=rfl;rw[ql]at hf;cases qz:Vy x
  .rw[qz]at hf hc;obtain rfl:R=false:=by rw[hR,hc];rfl
   simp only[go_sem,n1,Ar h',Ai,hx,ql];refine Ab hf AB ?_;simp only[go_sem,Bd];exact Ae rfl rfl
  .rw[qz]at hf hc;simp only[go_sem,n1,Ar h',Ai,hx,ql];refine Ab hf AB ?_;simp only[go_sem,Ba,Ay (show i<9223372036854775807 by omega)];exact Am (ih (i+1) AA ⟨h',by simpa using hc⟩) rfl
 .rw[Dt h']at hc;rw[hc]at hR;clear ih hc hi;simp only[go_sem,n1,Bi h'];refine Bh (α:=Nat × St) (fun a=>thrs.length - a.1) (fun a=>[(1,.ptr 0 0 0),(4,iV (a.1:Int))]) (fun a=>a.2) (fun a=>a.1<=thrs.length/\a.2[0]?=some (.row [SL dz dt (decls.map Dp.row),SL tz tt (thrs.map Tp.row)] 29 0 0)/\thrs.all shT=(thrs.drop a.1).all shT) ?_ (0,_) ⟨Av _,rfl,rfl⟩;rintro⟨i,s⟩ ⟨hi,hs,hc⟩ ih;simp only at hi hc hs ih;refine Az Bl6 ?_;rcases Bb i thrs.length with h' | h'
  .obtain⟨x,hx,hd,hm⟩:=Bl h';rw[hd,Bp]at hc;have js:=J5 (f:=Tp.row) hm;obtain⟨nm,line,lz,lt,locals,bz,bt,body⟩:=x;rw[Aa9]at js;simp only at js;have b3:=Lr (f:=fun s=>[V.str s]) (fun x=>by simp only[C5,V.bulk];omega) locals;have b4:=Lr (f:=Sp.row) (fun x=>by rw[Nu];omega) body;have n3:(locals.map fun s=>[V.str s]).length=locals.length:=Aj ..;have qW:shT ⟨nm,line,lz,lt,locals,bz,bt,body⟩=false->R=false:=fun h=>by rw[hR,hc,h];rfl
   have qS:shT ⟨nm,line,lz,lt,locals,bz,bt,body⟩=(locals.all B0&&(B0 nm&&Lk body)):=rfl;have ql:Tp.row ⟨nm,line,lz,lt,locals,bz,bt,body⟩=[.str nm,iV line,SL lz lt (locals.map fun x=>[V.str x]),SL bz bt (body.map Sp.row)]:=rfl;obtain⟨s',jo⟩:∃ s',s'=s++[Ob.row [.str nm,iV line,SL lz lt (locals.map fun x=>[V.str x]),SL bz bt (body.map Sp.row)] 90 0 0]:=⟨_,rfl⟩;have k1:s'[s.length]?=some (.row [.str nm,iV line,SL lz lt (locals.map fun x=>[V.str x]),SL bz bt (body.map Sp.row)] 90 0 0):=by rw[jo,Fd (An _),Hl];rfl
   have k0:s'[0]?=some (.row [SL dz dt (decls.map Dp.row),SL tz tt (thrs.map Tp.row)] 29 0 0):=by rw[jo];exact Bs hs
   simp only[go_sem,hs,n2,Ar h',Ai,hx,ql];rw[<-jo];refine Bh (α:=Nat) (fun k=>locals.length - k) (fun k=>[(1,.ptr 0 0 0),(4,iV (i:Int)),(5,.ptr s.length 0 0),(6,iV (k:Int))]) (fun _=>s') (fun k=>k<=locals.length/\locals.all B0=(locals.drop k).all B0) ?_ 0 ⟨Av _,rfl⟩;rintro k ⟨hk,hl⟩ jh;refine Az Bl5 ?_;rcases Bb k locals.length with g' | g'
   .obtain⟨y,hy,jO,jS⟩:=Bl g';rw[jO,Bp]at hl;have hf:=Sb y;cases hy1:B0 y
    .rw[hy1]at hf hl;obtain rfl:=qW (by rw[qS,hl];rfl);simp only[go_sem,k1,n3,Ar g',Ai,hy];refine Ab hf AB ?_;simp only[go_sem,Bd];exact Ae rfl rfl
    .rw[hy1]at hf hl;simp only[go_sem,k1,n3,Ar g',Ai,hy];refine Ab hf AB ?_;simp only[go_sem,Ba,Ay (show k<9223372036854775807 by omega)];exact Am (jh (k+1) AA ⟨g',by simpa using hl⟩) rfl
   .rw[Dt g']at hl;clear jh;have qI:=Sb nm;have qO:=Ais bz bt body AA fun y hy=>Ald 1000000000 y (by have:=J5 (f:=Sp.row) hy;omega) (An _)
    cases hn1:B0 nm
    .rw[hn1]at qI;obtain rfl:=qW (by rw[qS,hn1];simp);simp only[go_sem,k1,n3,Bi g'];refine Ab qI AB ?_;simp only[go_sem,Bd];exact Ae rfl rfl
    .rw[hn1]at qI;cases hb1:Lk body
     .rw[hb1]at qO;obtain rfl:=qW (by rw[qS,hb1];simp);simp only[go_sem,k1,n3,Bi g'];refine Ab qI AB ?_;simp only[go_sem,Ba,k1];refine Ab qO AB ?_;simp only[go_sem,Bd];exact Ae rfl rfl
     .rw[hb1]at qO;simp only[go_sem,k1,n3,Bi g'];refine Ab qI AB ?_;simp only[go_sem,Ba,k1];refine Ab qO AB ?_;simp only[go_sem,Ba,Ay (show i<9223372036854775807 by omega)];refine Am (ih (i+1,s') AJ ⟨by simp;omega,k0,?_⟩) rfl;simp only;rw[hc,qS,hl,hn1,hb1];simp
  .rw[Dt h']at hc;rw[hc]at hR;by_cases hn:thrs.length=0
   .obtain rfl:R=false:=by
     rw[hR,M6.1 hn];rfl
    have f1:((0:Int)<(thrs.length:Int))=False:=eq_false AA;simp only[go_sem,hs,n2,Bi h',gt_iff_lt,f1];exact Ae rfl rfl
   .obtain rfl:R=true:=by
     rw[hR]
     cases thrs with
     | nil=>exact absurd rfl hn
     | cons a l=>rfl
    have f1:((0:Int)<(thrs.length:Int))=True:=eq_true AA;simp only[go_sem,hs,n2,Bi h',gt_iff_lt,f1];exact Ae rfl rfl
