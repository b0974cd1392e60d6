/- Walks: the parser's programs. -/
import Derived.Test.YtphikjgngompaabGreatDoorLs
import Derived.Test.YtphikjgngompaabGreatDoorUd
set_option linter.all false
namespace Go.Proofs.YtphikjgngompaabGreatDoor.KM
open Go
def PRg(A:List Tk)(o:Option (Gp × List Tk))(v:V)(p':Nat):Prop:=match o with
 | some (x,r)=>v=.tup [.agg x.row,.bool true]/\A.drop p'=r
 | none=>∃ d0 d1:V,[d0,d1].all V.rowB=true/\v=.tup [.agg [d0,d1],.bool false]
structure PS (s σ:St) (m:Nat) (z:Bool) (t:Nat) (A:List Tk) (q:Nat) (u1 u2:V) (D:List Dp) (L:List Tp):Prop where
 rw:RW s σ m z t A q
 len:s.length+2<=σ.length
 z2:σ[s.length]?=some (.row [.nils,.nils] 29 0 0)
 p:σ[s.length+1]?=some (.row [u1,u2] 29 0 0)
 g1:GW σ 6 80 (s.length+2) u1 (D.map Dp.row)
 g2:GW σ 4 84 (s.length+2) u2 (L.map Tp.row)
def Azt{s σ:St}{m:Nat}{z:Bool}{t:Nat}{A:List Tk}{q:Nat}{u1 u2:V}{D:List Dp}{L:List Tp}(h:PS s σ m z t A q u1 u2 D L)(q':Nat):PS s (σ.set m (RO z t A q')) m z t A q' u1 u2 D L:=by
 have hm:=h.rw.2.2.2;exact⟨Rv h.rw q',by rw[U1];exact h.len,by rw[Ce AA];exact h.z2,by rw[Ce AA];exact h.p,D4 h.g1 AA,D4 h.g2 AA⟩
def Afu{s σ l:St}{m:Nat}{z:Bool}{t:Nat}{A:List Tk}{q:Nat}{u1 u2:V}{D:List Dp}{L:List Tp}(h:PS s σ m z t A q u1 u2 D L):PS s (σ++l) m z t A q u1 u2 D L:=
 ⟨Aft h.rw,by have:=h.len;grind,By h.z2,By h.p,Ix h.g1,Ix h.g2⟩
def Bgn{s σ:St}{m:Nat}{z:Bool}{t:Nat}{A:List Tk}{q:Nat}{u1 u2:V}{D:List Dp}{L:List Tp}(h:PS s σ m z t A q u1 u2 D L)(d:Dp)(hb:D.length<=1000000):
  ∃ u' σ',Dt 64 (6,80) u1 (.lst 1 [d.row]) σ=some (u',σ')/\u'.cellB=true/\σ'[s.length+1]?=some (.row [u1,u2] 29 0 0)/\PS s (σ'.set (s.length+1) (.row [u',u2] 29 0 0)) m z t A q u' u2 (D++[d]) L:=by
 obtain⟨u',σ',ha,hg,hl,qT,qj⟩:=I1 (bytes:=64) (y:=.lst 1 [d.row]) (ys:=[d.row]) h.g1 h.len rfl AA (Aeb D) (by simp;rfl) (by grind);have qm:=h.len;have hp:σ'[s.length+1]?=some (.row [u1,u2] 29 0 0):=by rw[qj _ AA];exact h.p
 refine⟨u',σ',ha,Cg hg,hp,Rl (Tc h.rw AA fun j hj=>qj j AA) AA,by grind,?_,Cr AA,?_,?_⟩
 .rw[Ce AA,qj _ AA];exact h.z2
 .grind[D4]
 .exact D4 (Ay1 AG (Ay2 h.g1) h.g2 qT) AA
def Blu{s σ:St}{m:Nat}{z:Bool}{t:Nat}{A:List Tk}{q:Nat}{u1 u2:V}{D:List Dp}{L:List Tp}(h:PS s σ m z t A q u1 u2 D L)(d:Tp)(hb:L.length<=1000000):
  ∃ u' σ',Dt 72 (4,84) u2 (.lst 1 [d.row]) σ=some (u',σ')/\u'.cellB=true/\σ'[s.length+1]?=some (.row [u1,u2] 29 0 0)/\PS s (σ'.set (s.length+1) (.row [u1,u'] 29 0 0)) m z t A q u1 u' D (L++[d]):=by
 obtain⟨u',σ',ha,hg,hl,qT,qj⟩:=I1 (bytes:=72) (y:=.lst 1 [d.row]) (ys:=[d.row]) h.g2 h.len rfl AA (Va L) (by simp;rfl) (by grind);have qm:=h.len;have hp:σ'[s.length+1]?=some (.row [u1,u2] 29 0 0):=by rw[qj _ AA];exact h.p
 refine⟨u',σ',ha,Cg hg,hp,Rl (Tc h.rw AA fun j hj=>qj j AA) AA,by grind,?_,Cr AA,?_,?_⟩
 .rw[Ce AA,qj _ AA];exact h.z2
 .exact D4 (Ay1 AG (Ay2 h.g2) h.g1 qT) AA
 grind[D4]
def Agz{s σ:St}{m:Nat}{z:Bool}{t:Nat}{A:List Tk}{q:Nat}{u1 u2:V}{D:List Dp}{L:List Tp}(h:PS s σ m z t A q u1 u2 D L){e':Env}{b:Bool}{R:V->Nat->Prop}(jC:e'.get 2=.ptr s.length 0 0)(jD:e'.get 3=.bool b)(hq:q<=A.length)(hR:R (.tup [.agg [SL true 0 (D.map Dp.row),SL true 0 (L.map Tp.row)],.bool b]) q):
  ∃ vs vs' q,Cd e' (σ.set s.length (.row [u1,u2] 29 0 0)) [AR.cell 2 2 false,AR.tmp 3]=some (.tup vs)/\vs.all Hm=true/\OVs (σ.set s.length (.row [u1,u2] 29 0 0)) vs vs'/\(∀ j∈Ag vs,s.length<=j)/\Ag vs'=[]/\RW s (σ.set s.length (.row [u1,u2] 29 0 0)) m z t A q/\q<=A.length/\R (.tup vs') q:=by
 have qm:=h.len;have c1:=Cg h.g1;have c2:=Cg h.g2;refine⟨[.agg [u1,u2],.bool b],[.agg [SL true 0 (D.map Dp.row),SL true 0 (L.map Tp.row)],.bool b],q,Cj (Cr AA) jC rfl jD,?_,?_,?_,?_,Rl h.rw (Aj _),hq,hR⟩
 .grind[V.cellB,Hm]
 .exact .cons (Tf (.cons (Mj (D4 h.g1 AA) AA (Aeb D) (Ajv D)) (.cons (Mj (D4 h.g2 AA) AA (Va L) (Aec L)) .nil))) (.cons (I0 rfl) .nil)
 .intro j hj;simp only[Ag,V.refs,Cc,Cu]at hj
  have k1:∀ {w:V} {mm e:Nat} {xs:List (List V)},GW σ mm e (s.length+2) w xs->∀ j∈w.refs,s.length<=j:=by
   intro w mm e xs hg j hj;rcases hg with⟨rfl,-⟩ | ⟨-,i,g,rfl,-,kk⟩
   .cases hj
   .grind[V.refs]
  rcases hj with hj | hj
  .exact k1 h.g1 j hj
  .exact k1 h.g2 j hj
 grind[Ag,V.refs,Axv]
set_option maxHeartbeats 4000000 in
def A4p{s:St}{m:Nat}{z:Bool}{t:Nat}{A:List Tk}(hA:OkA A)(hT:D5 A)(hs:s[m]?=some (RO z t A 0)):RT 29 [] s m z t A (PRg A (V5 A)):=by
 have hl:A.length<=1000000:=by have:=hA.len;omega
 have hm:=(Ao.1 hs).1;refine Azs T29 hs fun S hS=>?_
 have jd:=A14 hS hs;have qZ:PS s (S 0++[.row [.nils,.nils] 29 0 0,.row [.nils,.nils] 29 0 0]) m z t A 0 .nils .nils [] []:=⟨jd _ _,by simp[hS.len],hS.n0 _ _ _,hS.n1 _ _ _ _,D3,D3⟩;have Zq:=Dn hS;obtain⟨-,-,qm,get,get0,set,set0,n0,n1,n2,u0,u1,u2⟩:=hS;have ke:A.drop 0=A:=Jf;simp only[go_sem,Zq,LZ];refine Bk (α:=Nat × Nat × V × List Dp × St) (fun a=>a.1) (fun a=>[(0,.ptr m 0 0),(2,.ptr s.length 0 0),(4,.ptr (s.length+1) 0 0)]) (fun a=>a.2.2.2.2) (fun a=>a.2.1<=A.length/\A.length - a.2.1<a.1/\PS s a.2.2.2.2 m z t A a.2.1 a.2.2.1 .nils a.2.2.2.1 []/\Lo (A.length+1) A=(Lo a.1 (A.drop a.2.1)).map (fun y=>(a.2.2.2.1++y.1,y.2))/\a.2.2.2.1.length<=a.2.1) ?_ (A.length+1,0,.nils,[],S 0++[.row [.nils,.nils] 29 0 0,.row [.nils,.nils] 29 0 0]) ⟨Ax _,by omega,qZ,by simp_all,by simp⟩;rintro⟨k,q,v1,D,σ⟩ ⟨hq,jB,qp,qe,jx⟩ ih;simp only at hq jB qp qe jx ih;obtain⟨k,rfl⟩:∃ j,k=j+1:=⟨k - 1,by omega⟩;refine Bd Bo3 ?_;have qk:=Tm qp.rw.2.2.1 hl hq;have qr:=Ap4 (Ae A q).text;have kc:∀ (τ:St) (ob:Ob),s.length+2<=τ.length->(τ.set s.length ob)[s.length]?=some ob:=fun τ ob h=>Cr AA
 have jn:N4 (A.drop q)=((Ae A q).kind==3&&G7 (Ae A q).text != 0):=by
  rcases Bh q A.length with h | h
  .rw[Nf h];rfl
  .rw[(Lv h).1,(Lv h).2];rfl
 by_cases hd:N4 (A.drop q)=true
 .have jR:q<A.length:=by
   rcases Bh q A.length with h | h
   .exact h
   .rw[(Lv h).1]at hd;cases hd
  rw[jn,Ai]at hd;obtain⟨jk,jl⟩:=hd;obtain⟨v,q2,c1,qJ,h3⟩:=A4o hA hT qp.rw.2.2.1 hq (by grind);have qt:=Azt qp q2
  have qX:Lo (k+1) (A.drop q)=match R3 (A.drop q) with
    | none=>none
    | some (d,r)=>match Lo k r with
     | none=>none
     | some (l,r)=>some (d::l,r):=by
   rw[Lo,if_pos (by grind)];rfl
  rw[qX]at qe;unfold PRd at h3;generalize σ.set m (RO z t A q2)=τ at c1 qt;have qG:∀ a:Ob,(τ++[a])[τ.length]?=some a:=fun a=>by simp
  have qH:∀ a b:Ob,(τ++[a]).set τ.length b=τ++[b]:=fun a b=>by grind
  cases hpq:R3 (A.drop q) with
  | none=>
   rw[hpq]at h3 qe;obtain⟨_,⟨e0,e1,e2,e3,e4,e5,rfl,hb⟩,rfl⟩:=h3;have qg:PS s (τ++[.row [e0,e1,e2,e3,e4,e5] 80 0 0]) m z t A q2 v1 .nils D []:=Afu qt;have hz:=qg.z2;have hp:=qg.p;have qv:=Cg qp.g1;simp only[go_sem];refine Aa qk ?_;simp only[go_sem,jk];refine Aa qk ?_;simp only[go_sem];refine Ab qr rfl ?_;simp only[go_sem,jl];refine Aa c1 ?_;simp only[go_sem,qG,qH,Agy hb,hz,hp,qv];refine Agz qg rfl rfl qJ ?_;unfold V5;rw[qe];exact⟨_,_,by simp[Vp],rfl⟩
  | some dr=>
   obtain⟨d,r⟩:=dr;rw[hpq]at h3 qe;obtain⟨rfl,h3⟩:=h3
   have jL:r.length<A.length - q:=by
    have:=(Ap1 (C:=100) AA (Di hT (Ade q A)) (by grind) hpq).2.2.1;rw[Gz]at this;exact this
   have jT:r.length=A.length - q2:=by rw[<-h3,Gz]
   have qg:PS s (τ++[.row d.row 80 0 0]) m z t A q2 v1 .nils D []:=Afu qt;obtain⟨w1,τ2,ha,hc,qW,qc⟩:=Bgn qg d AA;obtain⟨ql,qR⟩:=Ajc hc;have hp:=qg.p;have jm:d.row=[iV d.kind,iV d.line,.str d.nm,iV d.size,iV d.init,.str d.on]:=rfl;rw[jm]at c1 ha;simp only[jm]at hp;simp only[go_sem];refine Aa qk ?_;simp only[go_sem,jk];refine Aa qk ?_;simp only[go_sem];refine Ab qr rfl ?_;simp only[go_sem,jl];refine Aa c1 ?_;simp only[go_sem,qG,qH,hp,ha,qW,hc,ql,qR];refine Av (ih (k,q2,w1,D++[d],τ2.set (s.length+1) (.row [w1,.nils] 29 0 0)) AE ⟨qJ,by grind,qc,?_,by simp;omega⟩) rfl;simp only;rw[qe,h3];simp only
   cases Lo k r with
   | none=>rfl
   | some y=>simp
 .have hd:N4 (A.drop q)=false:=by simpa using hd
  have qX:Lo (k+1) (A.drop q)=some ([],A.drop q):=by rw[Lo,if_neg AA]
  rw[qX]at qe;simp only[Ir,Cc]at qe;rw[jn]at hd
  have jE:∀ P:Prop,((Ae A q).kind==3)=false\/(((Ae A q).kind==3)=true/\(G7 (Ae A q).text != 0)=false):=fun _=>by
   grind
  unfold V5;rw[qe];simp only;rcases jE True with hk | ⟨hk,qj⟩
  case' inl=>simp only[go_sem]
  case' inl=>refine Aa qk ?_
  case' inl=>simp only[go_sem,hk]
  case' inr=>simp only[go_sem]
  case' inr=>refine Aa qk ?_
  case' inr=>simp only[go_sem,hk]
  case' inr=>refine Aa qk ?_
  case' inr=>simp only[go_sem]
  case' inr=>refine Ab qr rfl ?_
  case' inr=>simp only[go_sem,qj]
  all_goals
   refine Bk (α:=Nat × Nat × V × List Tp × St) (fun a=>a.1) (fun a=>[(0,.ptr m 0 0),(2,.ptr s.length 0 0),(4,.ptr (s.length+1) 0 0)]) (fun a=>a.2.2.2.2) (fun a=>a.2.1<=A.length/\A.length - a.2.1<a.1/\PS s a.2.2.2.2 m z t A a.2.1 v1 a.2.2.1 D a.2.2.2.1/\Lt (Ng A.length) (A.length+1) (A.drop q)=(Lt (Ng A.length) a.1 (A.drop a.2.1)).map (fun y=>(a.2.2.2.1++y.1,y.2))/\a.2.2.2.1.length<=a.2.1) ?_ (A.length+1,q,.nils,[],σ) ⟨hq,by omega,qp,by simp,by simp⟩;rintro⟨k2,q3,v2,L,σ2⟩ ⟨qK,qQ,qc,qb,qO⟩ jh;simp only at qK qQ qc qb qO jh;obtain⟨k2,rfl⟩:∃ j,k2=j+1:=⟨k2 - 1,by omega⟩;refine Bd Bo4 ?_;have qx:=An2 qc.rw.2.2.1 hl qK Pq;have qv:=Cg qc.g1;have jX:=Cg qc.g2;by_cases ht:As Pq (A.drop q3)=true
   .rw[ht]at qx
    have qF:=Ec ht;obtain⟨v,q4,c1,jp,h3⟩:=A68 (n:=Ng A.length) hA hT qc.rw.2.2.1 qF (by grind[Ng]);have qu:=Azt qc q4
    have jb:Lt (Ng A.length) (k2+1) (A.drop q3)=match Sc (Ng A.length) (A.drop q3) with
      | none=>none
      | some (x,r)=>match Lt (Ng A.length) k2 r with
       | none=>none
       | some (l,r)=>some (x::l,r):=by
     rw[Lt,if_pos ht];rfl
    rw[jb]at qb;unfold PRt at h3;generalize σ2.set m (RO z t A q4)=τ at c1 qu;have qG:∀ a:Ob,(τ++[a])[τ.length]?=some a:=fun a=>by simp
    have qH:∀ a b:Ob,(τ++[a]).set τ.length b=τ++[b]:=fun a b=>by simp
    cases hpq:Sc (Ng A.length) (A.drop q3) with
    | none=>
     rw[hpq]at h3 qb;obtain⟨e0,e1,e2,e3,hb,rfl⟩:=h3;have qh:PS s (τ++[.row [e0,e1,e2,e3] 84 0 0]) m z t A q4 v1 v2 D L:=Afu qu;have hz:=qh.z2;have hp:=qh.p
     have jA:(e0.cellB&&(e1.cellB&&(e2.cellB&&e3.cellB)))=true:=by
      simp only[B5,Db,Ai]at hb;simp only[P7 hb.1,P7 hb.2.1,P7 hb.2.2.1,P7 hb.2.2.2.1,Bool.and_self]
     simp only[go_sem];refine Aa qx ?_;simp only[go_sem];refine Aa c1 ?_;simp only[go_sem,qG,qH,jA,hz,hp,qv,jX];refine Agz qh rfl rfl jp ?_;rw[qb];exact⟨_,_,by simp[Vp],rfl⟩
    | some xr=>
     obtain⟨x,r⟩:=xr;rw[hpq]at h3 qb;obtain⟨rfl,h3⟩:=h3
     have jM:r.length<A.length - q3:=by
      have:=(Aqw (M:=A.length) (C:=100+8*A.length) (Aj _) (Di hT (Ade q3 A)) (by grind) hpq).2.2.2.2.1;rw[Gz]at this;exact this
     have jT:r.length=A.length - q4:=by rw[<-h3,Gz]
     have qh:PS s (τ++[.row x.row 84 0 0]) m z t A q4 v1 v2 D L:=Afu qu;obtain⟨w2,τ2,ha,hc,qW,ja⟩:=Blu qh x AA;obtain⟨ql,qR⟩:=Ajc hc;have hp:=qh.p;have qN:=Auf x;have qw:x.row=(tR x):=rfl;rw[qw]at c1 ha qN;simp only[qw]at hp;simp only[go_sem];refine Aa qx ?_;simp only[go_sem];refine Aa c1 ?_;simp only[go_sem,qG,qH,hp,ha,qW,hc,ql,qR];refine Av (jh (k2,q4,w2,L++[x],τ2.set (s.length+1) (.row [v1,w2] 29 0 0)) AE ⟨jp,by grind,ja,?_,by simp;omega⟩) rfl;simp only;rw[qb,h3];simp only
     cases Lt (Ng A.length) k2 r with
     | none=>rfl
     | some y=>simp
   .have ht:As Pq (A.drop q3)=false:=by simpa using ht
    rw[ht]at qx
    have jb:Lt (Ng A.length) (k2+1) (A.drop q3)=some ([],A.drop q3):=by rw[Lt,if_neg AA]
    rw[jb]at qb;simp only[Ir,Cc]at qb;have hz:=qc.z2;have hp:=qc.p;rw[qb];simp only
    have qB:(v2=.nils/\L=[])\/(L≠[]/\∃ i g,v2=.sl i g 0 L.length 4 true):=by
     rcases qc.g2 with⟨h1,h2⟩ | ⟨h1,i,g,h2,-⟩
     .exact .inl ⟨h1,by simpa using h2⟩
     .exact .inr ⟨fun e=>h1 (by grind),i,g,by grind⟩
    rcases qB with⟨rfl,rfl⟩ | ⟨jP,i,g,rfl⟩
    .simp only[go_sem];refine Aa qx ?_;simp only[go_sem];have jQ:(σ2.set s.length (.row [v1,.nils] 29 0 0))[s.length+1]?=some (.row [v1,.nils] 29 0 0):=by rw[Ce AA];exact hp
     refine Af AD ?_;simp only[go_sem,hp,hz,qv];refine Bb ?_;simp only[go_sem,qv,hz,hp];refine Agz qc rfl rfl qK ?_;show PRg A none _ _;exact⟨_,_,by simp[Vp],rfl⟩
    .have qI:((0:Int)<(L.length:Int))=True:=eq_true (by grind[List.length_pos_iff]);simp only[go_sem];refine Aa qx ?_;simp only[go_sem];have jQ:(σ2.set s.length (.row [v1,.sl i g 0 L.length 4 true] 29 0 0))[s.length+1]?=some (.row [v1,.sl i g 0 L.length 4 true] 29 0 0):=by rw[Ce AA];exact hp
     refine Af AD ?_;simp only[go_sem,hp,hz,qv,gt_iff_lt,qI];refine Bb ?_;simp only[go_sem,qv,hz,hp,gt_iff_lt,qI];refine Agz qc rfl rfl qK ?_;rw[if_neg (by grind)];exact⟨rfl,rfl⟩
def Zb(s:List UInt8)(v:V):Prop:=match Jm s with
 | some x=>v=.tup [.agg x.row,.int .i64 0,.int .i64 0]
 | none=>∃ e ln:Int,e≠0/\v=.tup [.agg [.nils,.nils],.int .i64 e,.int .i64 ln]
def Ah0(x:Gp):x.row.all V.rowB=true:=by
 grind[Gp.row,Vp]
def Bbd(x:Gp):x.row=(gR x):=rfl
def Azu{a b:V}(h:[a,b].all V.rowB=true):a.cellB=true/\b.cellB=true:=by
 simp_all [P7]
def Ae2(s:List UInt8):∃ v,Fn TT PT 11 [.str s] v/\Zb s v:=by
 obtain⟨v1,je,hR⟩:=Bgf s;refine An3 T11 rfl ?_;unfold An4 at hR;unfold Zb Jm;by_cases qA:4096<s.length
 .rw[if_pos qA]at hR ⊢;obtain⟨e,ln,he,rfl⟩:=hR;have ne:(e != 0)=true:=by simp[he]
  simp only[go_sem];refine Ab je AB ?_;simp only[go_sem,ne];exact⟨.tup [.agg [.nils,.nils],iV e,iV ln],⟨_,rfl,Gt AK⟩,e,ln,he,rfl⟩
 .rw[if_neg qA]at hR ⊢
  cases hL:C0 s.length 1 s with
  | none=>
   rw[hL]at hR;obtain⟨e,ln,he,rfl⟩:=hR;have ne:(e != 0)=true:=by simp[he]
   simp only[go_sem];refine Ab je AB ?_;simp only[go_sem,ne];exact⟨.tup [.agg [.nils,.nils],iV e,iV ln],⟨_,rfl,Gt AK⟩,e,ln,he,rfl⟩
  | some L=>
   rw[hL]at hR;simp only at hR;subst hR;have hA:=Ba9 AA hL;have hT:=Xz _ _ _ _ hL;have ne:((0:Int) != 0)=false:=by decide
   have hl:L.length<=1000000:=by have:=hA.len;omega
   have h1:=A4p (s:=[.row [.nils,.nils] 29 0 0,RO true 0 L 0]) (m:=1) (z:=true) (t:=0) hA hT rfl;obtain⟨v,q,c4,qJ,h3⟩:=h1;have c4:Bw TT PT 29 [.ptr 1 0 0] [.row [.nils,.nils] 29 0 0,.row [SL true 0 (L.map Tk.row),iV 0] 74 0 0] v [.row [.nils,.nils] 29 0 0,.row [SL true 0 (L.map Tk.row),iV (q:Int)] 74 0 0]:=c4;simp only[go_sem];refine Ab je AB ?_;simp only[go_sem,ne];unfold PRg at h3;have qq:∀ x:List V,∃ n:Int,Bw TT PT 30 [.ptr 1 0 0] [.row [.nils,.nils] 29 0 0,.row [SL true 0 (L.map Tk.row),iV (q:Int)] 74 0 0,.row x 29 0 0] (iV n) [.row [.nils,.nils] 29 0 0,.row [SL true 0 (L.map Tk.row),iV (q:Int)] 74 0 0,.row x 29 0 0]:=fun x=>Bgj (s:=[.row [.nils,.nils] 29 0 0,RO true 0 L q,.row x 29 0 0]) (m:=1) rfl hl qJ
   split at h3
   .rename_i x r ho;obtain⟨rfl,h3⟩:=h3;have qN:=Ah0 x;have hr:=Bbd x;rw[hr]at c4 qN;obtain⟨qL,qM⟩:=Azu qN;rw[ho];refine Aa c4 ?_;simp only[go_sem];by_cases hq:q<L.length
    .have f1:((q:Int)<(L.length:Int))=True:=eq_true AA;obtain⟨n,qU⟩:=qq (gR x);refine Af AD ?_;simp only[go_sem,Qm,f1,qL,qM];refine Aa qU ?_;simp only[go_sem]
     have jP:r≠[]:=fun e=>by
      rw[e]at h3;have:=congrArg List.length h3
      grind
     refine⟨.tup [.agg [.nils,.nils],iV 3,iV n],⟨_,rfl,Gt AK⟩,?_⟩
     grind
    .have f1:((q:Int)<(L.length:Int))=False:=eq_false AA;rw[D1 AA]at h3;subst h3;refine Af AD ?_;simp only[go_sem,Qm,f1,qL,qM];refine⟨.tup [.agg x.row,iV 0,iV 0],?_,rfl⟩;rw[hr];exact⟨_,rfl,Gt (by simp only[go_sem,Nat.reduceEqDiff,reduceIte])⟩
   .rename_i ho;obtain⟨d0,d1,hd,rfl⟩:=h3;obtain⟨qL,qM⟩:=Azu hd;rw[ho];obtain⟨n,qU⟩:=qq [d0,d1];refine Aa c4 ?_;simp only[go_sem,qL,qM];refine Af AD ?_;simp only[go_sem,Qm];refine Aa qU ?_;simp only[go_sem];exact⟨.tup [.agg [.nils,.nils],iV 3,iV n],⟨_,rfl,Gt AK⟩,3,n,by decide,rfl⟩
def tk1{l:List V}{i:Nat}{x:V}(h:l[i]?=some x):List.take 1 (List.drop i l)=[x]:=by
 grind[List.drop_eq_getElem_cons]
theorem tds{l:List V}{i:Nat}(h:i<l.length)(x:V):List.take i l++x::List.drop (i+1) l=l.set i x:=by
 simp_all [List.set_eq_take_append_cons_drop]
def Aj6(n:Nat)(v:V):(List.replicate n [v]).flatten=List.replicate n v:=by
 simp_all
theorem Aak(l:List Int):(Df l).length=l.length:=by grind[Df]
def Al8{l:List Int}{i:Nat}{x:Int}(h:l[i]?=some x):List.take 1 (List.drop i (Df l))=[iV x]:=tk1 (A8v h)
theorem Ave{l:List Int}{i:Nat}(h:i<l.length)(x:Int):List.take i (Df l)++iV x::List.drop (i+1) (Df l)=Df (l.set i x):=by
 grind[tds,Aak,A8w]
def A69{n m i:Nat}(hi:i<n):List.take i (E5 n m (i+1))++V.sl (1+(n - i)) 0 0 (m+1) 1 true::List.drop (i+1) (E5 n m (i+1))=E5 n m i:=by
 rw[tds (by grind[Akj])];exact A83 hi
def Axw{n m i k:Nat}(h:i<=k)(hk:k<=n):List.take 1 (List.drop k (E5 n m i))=[.sl (1+(n - k)) 0 0 (m+1) 1 true]:=tk1 (A84 h hk)
def A7a(X Y:List (List UInt8))(OT IT:Nat):([.row (E5 X.length Y.length X.length) OT 0 0,.row (List.replicate (Y.length+1) (iV 0)) IT 0 0]:St)=Gd OT IT X.length Y.length X.length (Fo X Y (X.length - X.length+1)):=by
 rw[Is];unfold Gd Fo;simp[A8z,Akh]
def Bbe(X Y:List (List UInt8))(OT IT i:Nat)(hi:i<X.length):(Gd OT IT X.length Y.length (i+1) (Fo X Y (X.length - i))++[Ob.row (List.replicate (Y.length+1) (iV 0)) IT 0 0]).set 0 (.row (E5 X.length Y.length i) OT 0 0)=Gd OT IT X.length Y.length i (Fo X Y (X.length - i)++[Fx X Y i Y.length]):=by
 rw[Akh,Bdz,A8y];rfl
set_option maxHeartbeats 4000000 in
def A4q(z1 z2:Bool)(t1 t2:Nat)(X Y:List (List UInt8))(hX:X.length<=1000000)(hY:Y.length<=1000000):Fn TT PT 71 [SL z1 t1 (X.map fun x=>[V.str x]),SL z2 t2 (Y.map fun x=>[V.str x])] (Acf (Wf X Y)):=by
 refine Bjm T71 rfl ?_;have qz:(X.map fun x=>[V.str x]).length=X.length:=Ar ..;have qi:(Y.map fun x=>[V.str x]).length=Y.length:=Ar ..;obtain⟨N,hN⟩:∃ N,N=X.length+1:=⟨_,rfl⟩;obtain⟨M,hM⟩:∃ M,M=Y.length+1:=⟨_,rfl⟩;have w1:IntKind.i64.wrap ((X.length:Int)+1)=(N:Int):=by rw[hN];exact A2 AA
 have w2:IntKind.i64.wrap ((Y.length:Int)+1)=(M:Int):=by rw[hM];exact A2 AA
 have w3:IntKind.i64.wrap ((X.length:Int) - 1)=(X.length:Int) - 1:=Cm AA;have w4:IntKind.i64.wrap ((Y.length:Int) - 1)=(Y.length:Int) - 1:=Cm AA;have a1:(0<=(N:Int))=True:=eq_true AA;have a2:((N:Int)<=(N:Int))=True:=eq_true (Ads _);have a3:(N*24<=140737488355328)=True:=eq_true AA;have b1:(0<=(M:Int))=True:=eq_true AA;have b2:((M:Int)<=(M:Int))=True:=eq_true (Ads _);have b3:(M*8<=140737488355328)=True:=eq_true AA;have c1:(0<=(X.length:Int))=True:=eq_true AA;have c2:((X.length:Int)<(N:Int))=True:=eq_true AA;have c3:∀ n:Nat,(0<=n)=True:=fun n=>eq_true (Ax n)
 have c4:(X.length+1<=(List.replicate N V.nils).length)=True:=eq_true (by grind)
 have e1:List.take X.length (List.replicate N V.nils)++V.sl 1 0 0 M 1 true::List.drop (X.length+1) (List.replicate N V.nils)=E5 X.length Y.length X.length:=by
  rw[tds (by grind),hN,hM];exact A5r _ _
 simp only[go_sem,qz,qi,w1,w2,w3,a1,a2,a3,b1,b2,b3,c1,c2,c3,c4,Aj6,e1];rw[hM,A7a X Y];refine Bk (α:=Nat) (fun i=>i) (fun i=>[(0,SL z1 t1 (X.map fun x=>[V.str x])),(1,SL z2 t2 (Y.map fun x=>[V.str x])),(5,.sl 0 0 0 N 1 true),(6,iV ((i:Int) - 1))]) (fun i=>Gd 55 3 X.length Y.length i (Fo X Y (X.length - i+1))) (fun i=>i<=X.length) ?_ X.length (Aj _);intro i hi ih;refine Bd Bpt ?_
 cases i with
 | zero=>
  have d0:decide ((0:Int)<=0 - 1)=false:=by decide
  simp only[go_sem,d0];unfold Hd;refine⟨0,55,0,vL X Y,?_,?_,?_,Bjr X Y⟩
  .rw[Bjq,<-hN];rfl
  .rw[Bjs];rfl
  simp_all [Bd1]
 | succ i=>
 have qd:i<X.length:=hi;have q1:(((i+1:Nat):Int) - 1)=(i:Int):=by omega
 have q2:X.length - (i+1)+1=X.length - i:=by omega
 have d0:decide ((0:Int)<=(i:Int))=true:=by simp
 simp only[q1,q2];generalize hs:Gd 55 3 X.length Y.length (i+1) (Fo X Y (X.length - i))=s;have jV:s.length=1+(X.length - i):=by rw[<-hs,Bdy,Ajp]
 have k0:(s++[Ob.row (List.replicate M (iV 0)) 3 0 0])[0]?=some (.row (E5 X.length Y.length (i+1)) 55 0 0):=by rw[<-hs];rfl
 have g1:(0<=(i:Int))=True:=eq_true AA;have g2:((i:Int)<(N:Int))=True:=eq_true AA;have g3:(i+1<=(E5 X.length Y.length (i+1)).length)=True:=eq_true (by grind[Akj]);have e2:List.take i (E5 X.length Y.length (i+1))++V.sl (1+(X.length - i)) 0 0 M 1 true::List.drop (i+1) (E5 X.length Y.length (i+1))=E5 X.length Y.length i:=by rw[hM];exact A69 qd
 have e3:(s++[Ob.row (List.replicate M (iV 0)) 3 0 0]).set 0 (.row (E5 X.length Y.length i) 55 0 0)=Gd 55 3 X.length Y.length i (Fo X Y (X.length - i)++[Fx X Y i Y.length]):=by rw[<-hs,hM];exact Bbe X Y _ _ i qd
 simp only[go_sem,d0,qi,w2,w4,b1,b2,b3,c3,jV,k0,g1,g2,g3,Aj6,e2,e3];refine Bk (α:=Nat) (fun j=>j) (fun j=>[(0,SL z1 t1 (X.map fun x=>[V.str x])),(1,SL z2 t2 (Y.map fun x=>[V.str x])),(5,.sl 0 0 0 N 1 true),(6,iV (i:Int)),(7,iV ((j:Int) - 1))]) (fun j=>Gd 55 3 X.length Y.length i (Fo X Y (X.length - i)++[Fx X Y i j])) (fun j=>j<=Y.length) ?_ Y.length (Aj _);intro j hj jh;refine Bd Bps ?_
 cases j with
 | zero=>
  have d0:decide ((0:Int)<=0 - 1)=false:=by decide
  have w5:IntKind.i64.wrap ((i:Int) - 1)=(i:Int) - 1:=Cm AA;simp only[go_sem,d0,w5];rw[Arn,A31 X Y (Adm qd)];exact Av (ih i AA AA) rfl
 | succ j=>
 have qy:j<Y.length:=hj;have q3:(((j+1:Nat):Int) - 1)=(j:Int):=by omega
 have d1:decide ((0:Int)<=(j:Int))=true:=by simp
 have jf:=jh j (Adf j) AA;simp only[q3];obtain⟨x,hx,-,-⟩:=Br qd;obtain⟨y,hy,-,-⟩:=Br qy;have jg:X[i]=x/\Y[j]=y:=⟨(Ao.1 hx).2,(Ao.1 hy).2⟩;have ql:=Bdw X Y qd qy;rw[jg.1,jg.2]at ql;have l1:=Awi X Y (i+1) (j+1);have r0:(Gd 55 3 X.length Y.length i (Fo X Y (X.length - i)++[Fx X Y i (j+1)]))[1+(X.length - i)]?=some (.row (Df (Fx X Y i (j+1))) 3 0 0):=Alm _ _ _ _ _ (A5s X Y i _);have r1:(Gd 55 3 X.length Y.length i (Fo X Y (X.length - i)++[Fx X Y i (j+1)]))[1+(X.length - (i+1))]?=some (.row (Df (J0 X Y (i+1))) 3 0 0):=Alm _ _ _ _ _ (A30 X Y qd _);have r2:(Gd 55 3 X.length Y.length i (Fo X Y (X.length - i)++[Fx X Y i (j+1)]))[0]?=some (.row (E5 X.length Y.length i) 55 0 0):=rfl;have e4:(Gd 55 3 X.length Y.length i (Fo X Y (X.length - i)++[Fx X Y i (j+1)])).set (1+(X.length - i)) (.row (Df (Fx X Y i j)) 3 0 0)=Gd 55 3 X.length Y.length i (Fo X Y (X.length - i)++[Fx X Y i j]):=by rw[Bd0,A5t]
 rw[<-e4]at jf;generalize Gd 55 3 X.length Y.length i (Fo X Y (X.length - i)++[Fx X Y i (j+1)])=s2 at *;have o1:List.take 1 (List.drop i (E5 X.length Y.length i))=[.sl (1+(X.length - i)) 0 0 M 1 true]:=by rw[hM];exact Axw (Aj _) AA
 have o2:List.take 1 (List.drop (i+1) (E5 X.length Y.length i))=[.sl (1+(X.length - (i+1))) 0 0 M 1 true]:=by rw[hM];exact Axw AA AA
 have o3:(i+1<=(E5 X.length Y.length i).length)=True:=eq_true (by grind[Akj]);have o4:(i+1+1<=(E5 X.length Y.length i).length)=True:=eq_true (by grind);have i1:IntKind.i64.wrap ((i:Int)+1)=((i+1:Nat):Int):=A2 AA;have i2:(0<=((i+1:Nat):Int))=True:=eq_true AA;have i3:(((i+1:Nat):Int)<(N:Int))=True:=eq_true AA;have j0:(0<=(j:Int))=True:=eq_true AA;have j1:IntKind.i64.wrap ((j:Int)+1)=((j+1:Nat):Int):=A2 AA;have j2:(0<=((j+1:Nat):Int))=True:=eq_true AA;have j3:(((j+1:Nat):Int)<(M:Int))=True:=eq_true AA;have j4:((j:Int)<(M:Int))=True:=eq_true AA;have j5:IntKind.i64.wrap ((j:Int) - 1)=(j:Int) - 1:=Cm AA;have m1:(j+1<=(Df (Fx X Y i (j+1))).length)=True:=eq_true (by grind[Aak,Aki]);have m2:(j+1+1<=(Df (Fx X Y i (j+1))).length)=True:=eq_true (by grind[Aak,Aki]);have m3:(j+1+1<=(Df (J0 X Y (i+1))).length)=True:=eq_true (by grind[Aak,Atl]);have m4:(j+1<=(Df (J0 X Y (i+1))).length)=True:=eq_true (by grind);have n1:=Al8 (Aeq X Y (i:=i+1) (k:=j+1) qy);have n2:=Al8 (Aeq X Y (i:=i+1) (k:=j) (Adm qy));have n3:=Al8 (Atm X Y (i:=i) (j:=j+1) (k:=j+1) qy (Aj _));have e5:List.take j (Df (Fx X Y i (j+1)))++iV (D8 X Y i j:Int)::List.drop (j+1) (Df (Fx X Y i (j+1)))=Df (Fx X Y i j):=by rw[Ave (by grind[Aki]),A80 X Y qy]
 by_cases e:x=y
 .rw[if_pos e]at ql;have f1:(x==y)=true:=by simp[e]
  have f2:IntKind.i64.wrap (1+((D8 X Y (i+1) (j+1):Nat):Int))=((D8 X Y i j:Nat):Int):=by rw[ql,Cm AA];rfl
  simp only[go_sem,d1];refine Af AD ?_;simp only[go_sem,Au,hx,hy];simp only[go_sem,f1];refine Af AD ?_;simp only[go_sem,r0,r1,r2,o1,o2,o3,o4,g1,g2,i1,i2,i3,j0,j1,j2,j3,j4,m1,m2,m3,m4,n1,n2,n3,c3];simp only[go_sem,f2,r0,m1,e5,c3];refine Ri (by repeat (first | exact trivial | refine⟨.inl AK,?_⟩ | refine⟨by rfl,?_⟩ | refine⟨.inr ⟨by rfl,by rfl⟩,?_⟩)) (by repeat (first | exact trivial | refine⟨.inl AK,?_⟩ | refine⟨by rfl,?_⟩ | refine⟨.inr ⟨by rfl,by rfl⟩,?_⟩)) ?_;simp only[go_sem,j5];exact Av jf rfl
 .rw[if_neg e]at ql;have f1:(x==y)=false:=by simp[e]
  have f2:max ((D8 X Y (i+1) j:Nat):Int) ((D8 X Y i (j+1):Nat):Int)=((D8 X Y i j:Nat):Int):=by rw[ql];omega
  simp only[go_sem,d1];refine Af AD ?_;simp only[go_sem,Au,hx,hy];simp only[go_sem,f1];refine Af AD ?_;simp only[go_sem,r0,r1,r2,o1,o2,o3,o4,g1,g2,i1,i2,i3,j0,j1,j2,j3,j4,m1,m2,m3,m4,n1,n2,n3,c3];simp only[go_sem,f2,r0,m1,e5,c3];refine Ri (by repeat (first | exact trivial | refine⟨.inl AK,?_⟩ | refine⟨by rfl,?_⟩ | refine⟨.inr ⟨by rfl,by rfl⟩,?_⟩)) (by repeat (first | exact trivial | refine⟨.inl AK,?_⟩ | refine⟨by rfl,?_⟩ | refine⟨.inr ⟨by rfl,by rfl⟩,?_⟩)) ?_;simp only[go_sem,j5];exact Av jf rfl
/-! the reference's table -/
def Bj(l:List Int):List (List V):=l.map fun k=>[iV k]
theorem Iv(l:List Int):(Bj l).length=l.length:=by grind[Bj]
def Qh(l:List Int):∀ r∈Bj l,r.length=1:=fun r hr=>by obtain⟨x,-,rfl⟩:=Cs.1 hr;rfl
def X0(l:List Int):∀ r∈Bj l,r.all V.rowB=true:=fun r hr=>by obtain⟨x,-,rfl⟩:=Cs.1 hr;rfl
theorem Bbf{D:List Int}{n i:Nat}(h:D.length=i)(hi:i<n)(v:Int):(D++List.replicate (n - i) 0).set i v=(D++[v])++List.replicate (n - (i+1)) 0:=by
 rw[Aic _ _ AA,h,Is,show n - i=(n - (i+1))+1 by omega,Ac4,Ac7,Bt];rfl
def Blv{D:List Int}{n:Nat}{e:Nat}(h:D.length=n):FR (.sl 0 0 0 n 1 true) [.row (Df D) e 0 0] (.lst 0 (Bj D)):=by
 have:=Ag5 (σ:=[.row (Df D) e 0 0]) (i:=0) (g:=0) (m:=1) (e:=e) (xs:=Bj D) (by rw[Arm];rfl) AA (Qh D) (X0 D);rw[Iv,h]at this;exact this
set_option maxHeartbeats 4000000 in
def Bbg(z1 z2:Bool)(t1 t2:Nat)(X Y:List (List UInt8))(hX:X.length<=4096)(hY:Y.length<=4096):Fn TT PT 40 [SL z1 t1 (X.map fun x=>[V.str x]),SL z2 t2 (Y.map fun x=>[V.str x])] (.lst 0 (Bj (D6 0 X Y))):=by
 refine Bg T40 rfl ?_;have qz:(X.map fun x=>[V.str x]).length=X.length:=Ar ..;have qi:(Y.map fun x=>[V.str x]).length=Y.length:=Ar ..;have q:=A4q z1 z2 t1 t2 X Y AA AA;unfold Acf at q;have a1:(4096<(X.length:Int))=False:=eq_false AA;have a2:(4096<(Y.length:Int))=False:=eq_false AA;have b1:(0<=(X.length:Int))=True:=eq_true AA;have b2:((X.length:Int)<=(X.length:Int))=True:=eq_true (Ads _);have b3:(X.length*8<=140737488355328)=True:=eq_true AA;have c3:∀ n:Nat,(0<=n)=True:=fun n=>eq_true (Ax n)
 simp only[go_sem,qz,qi,a1,a2];refine Ab q AB ?_;simp only[go_sem,qz,b1,b2,b3,Aj6,Akh];refine Bk (α:=Nat × Nat × List Int) (fun a=>X.length - a.1) (fun a=>[(0,SL z1 t1 (X.map fun x=>[V.str x])),(1,SL z2 t2 (Y.map fun x=>[V.str x])),(5,.lst 0 ((Wf X Y).map fun r=>[V.lst 0 (r.map fun x=>[iV x])])),(6,.sl 0 0 0 X.length 1 true),(7,iV (a.2.1:Int)),(25,iV (X.length:Int)),(26,iV (a.1:Int))]) (fun a=>[.row (Df (a.2.2++List.replicate (X.length - a.1) 0)) 3 0 0]) (fun a=>a.1<=X.length/\a.2.1<=Y.length/\a.2.2.length=a.1/\a.2.2++D6 a.2.1 (X.drop a.1) (Y.drop a.2.1)=D6 0 X Y) ?_ (0,0,[]) ⟨Ax _,Ax _,rfl,by simp⟩;rintro⟨i,j,D⟩ ⟨hi,hj,hD,hA⟩ ih;simp only at hi hj hD hA ih;refine Bd Bpb ?_;rcases Bh i X.length with qd | qd;rotate_left
 .obtain rfl:i=X.length:=by omega
  rw[List.drop_length,D6,Cc]at hA;subst hA;rw[Is,List.replicate_zero,Cc];simp only[go_sem,Bl qd];exact Blv hD
 obtain⟨x,hx,-,-⟩:=Br qd;have g1:(0<=(i:Int))=True:=eq_true AA;have g2:((i:Int)<(X.length:Int))=True:=eq_true AA;have kf:(D++List.replicate (X.length - i) (0:Int)).length=X.length:=by rw[Aq,List.length_replicate];omega
 have m1:(i+1<=(Df (D++List.replicate (X.length - i) 0)).length)=True:=eq_true (by grind[Aak]);obtain⟨nx,qk⟩:∃ nx:Int->List Int,∀ v,nx v=(D++[v])++List.replicate (X.length - (i+1)) 0:=⟨_,fun _=>rfl⟩;have e1:∀ v:Int,List.take i (Df (D++List.replicate (X.length - i) 0))++iV v::List.drop (i+1) (Df (D++List.replicate (X.length - i) 0))=Df (nx v):=fun v=>by grind[Ave,Bbf]
 have i1:IntKind.i64.wrap ((i:Int)+1)=((i+1:Nat):Int):=A2 AA;simp only[go_sem,Az qd];refine Bk (α:=Nat) (fun k=>Y.length - k) (fun k=>[(0,SL z1 t1 (X.map fun x=>[V.str x])),(1,SL z2 t2 (Y.map fun x=>[V.str x])),(5,.lst 0 ((Wf X Y).map fun r=>[V.lst 0 (r.map fun x=>[iV x])])),(6,.sl 0 0 0 X.length 1 true),(7,iV (j:Int)),(8,iV (i:Int)),(9,iV (k:Int)),(25,iV (X.length:Int)),(26,iV (i:Int))]) (fun _=>[.row (Df (D++List.replicate (X.length - i) 0)) 3 0 0]) (fun k=>j<=k/\k<=Y.length/\∀ k',j<=k'->k'<k->¬ Sa X Y i j k') ?_ j ⟨Aj _,hj,fun k' h1 h2=>by omega⟩;rintro k ⟨jG,hk,qo⟩ kh;refine Bd Bpa ?_;rcases Bh k Y.length with qf | qf;rotate_left
 .obtain rfl:k=Y.length:=by omega
  rw[A81 qd qo]at hA;simp only[go_sem,Bl qf,qi,g1,g2,m1,c3,e1,i1];rw[qk];refine Av (ih (i+1,j,D++[-1]) AA ⟨qd,hj,by simp[hD],?_⟩) rfl
  grind
 obtain⟨y,hy,-,-⟩:=Br qf;have k1:IntKind.i64.wrap ((k:Int)+1)=((k+1:Nat):Int):=A2 AA;by_cases e:x=y;rotate_left
 .have f1:(x==y)=false:=by simp[e]
  simp only[go_sem,Az qf,qi];refine Af AD ?_;simp only[go_sem,Au,hx,hy,f1];simp only[go_sem,k1];refine Av (kh (k+1) AA ⟨by omega,qf,fun k' h1 h2=>?_⟩) rfl;rcases Bh k' k with h | h
  .grind
  .obtain rfl:k'=k:=by omega
   intro hh;have:=hh.1
   grind
 have f1:(x==y)=true:=by simp[e]
 have T1:=Atg (Atn X Y (i:=i+1) qd);have T0:=Atg (Atn X Y (i:=i) (Adm qd));have n1:=A0l (Aeq X Y (i:=i+1) (k:=k+1) qf);have n0:=A0l (Aeq X Y (i:=i) (k:=j) hj);have l1:=Awi X Y (i+1) (k+1);have f2:IntKind.i64.wrap (1+((D8 X Y (i+1) (k+1):Nat):Int))=((1+D8 X Y (i+1) (k+1):Nat):Int):=by rw[Cm AA];rfl
 by_cases hh:1+D8 X Y (i+1) (k+1)=D8 X Y i j
 .have f3:(((1+D8 X Y (i+1) (k+1):Nat):Int)==((D8 X Y i j:Nat):Int))=true:=by rw[hh];simp
  have qS:Sa X Y i j k:=⟨by grind,hh⟩;rw[Bdx qd jG qf qS qo]at hA;simp only[go_sem,Az qf,qi];refine Af AD ?_;simp only[go_sem,Au,hx,hy,f1,i1,k1,T1,T0,n1,n0,f2,f3];simp only[go_sem,g1,g2,m1,c3,e1,k1,i1];rw[qk];refine Av (ih (i+1,k+1,D++[(k:Int)]) AA ⟨qd,qf,by simp[hD],?_⟩) rfl;rw[Bt];exact hA
 .have f3:(((1+D8 X Y (i+1) (k+1):Nat):Int)==((D8 X Y i j:Nat):Int))=false:=by
   rw[beq_eq_false_iff_ne];omega
  simp only[go_sem,Az qf,qi];refine Af AD ?_;simp only[go_sem,Au,hx,hy,f1,i1,k1,T1,T0,n1,n0,f2,f3];refine Av (kh (k+1) AA ⟨by omega,qf,fun k' h1 h2=>?_⟩) rfl;rcases Bh k' k with h | h
  .grind
  .obtain rfl:k'=k:=by omega
   exact fun h=>hh h.2
def Bgo{keep:List Nat}{c:AC}{id:Nat}{k:List It}{e:Env}{σ:St}{Q:Env->St->Prop}(P:Env->St->Prop)(h1:∀ k',(∀ e σ,P e σ->W TT PT k' e σ Q)->W TT PT (.l keep c::.b id::k') e σ Q)(h2:∀ e σ,P e σ->W TT PT k e σ Q):W TT PT (.l keep c::.b id::k) e σ Q:=h1 k h2
structure PY (p:Gp):Prop where
 px:PX p
 sz:∀ t∈p.thrs,Sp.szs t.body<=4096
def Ak3{p:Gp}(h:PX p):(Em (Gu p)).length<=1000000000000:=by
 have h1:(Em (Gu p)).length=(Hr p).length:=Xg p.thrs;have h2:(Hr p).length=_:=Ajy p.thrs;have h3:=Aay h.sz;have h4:p.thrs.length*10000<=100000000*10000:=E0 _ h.few;omega
def A7b{α β:Type}[DecidableEq α][DecidableEq β](P Q:List (β × List α))(i:Nat):(Jk (P.take i) Q).length<=(Em P).length:=by
 rw[Ai6];exact Akk P i
def Asb{p:Gp}{i:Nat}{x:Tp}(h:p.thrs[i]?=some x):(Gu p)[i]?=some (x.nm,Sp.hdss x.body):=by
 grind[Gu]
def Aqz(p:Gp):(Gu p).length=p.thrs.length:=by grind[Gu]
def Bgp{α:Type}[DecidableEq α]{X Y:List α}{m:Nat}{v:Int}(h:(D6 0 X Y)[m]?=some v): -1<=v/\v<Y.length:=by
 rcases Aep X 0 Y m v h with rfl | ⟨k,rfl,h1,-⟩
 .omega
 .omega
def A7c{b:Nat}{A:List Int}{m:Nat}{v:Int}(h:A[m]?=some v):Ln b (A.take (m+1))=Ln b (A.take m)++[if 0<=v then v+b else v]:=by
 grind[Ln,List.take_add_one,Option.toList_some]
def Asd(a b:List Int):Bj (a++b)=Bj a++Bj b:=by grind[Bj]
structure MQ (p q:Gp) (s:St) (u:V) (L:List Int):Prop where
 gw:GW s 1 3 2 u (Bj L)
 s0:s[0]?=some (gO p)
 s1:s[1]?=some (gO q)
def Azv{p q:Gp}{s:St}{u:V}{L:List Int}(h:MQ p q s u L):2<=s.length:=(Ao.1 h.s1).1
def Bgq{p q:Gp}{s:St}{u:V}{L:List Int}(h:MQ p q s u L)(l:St):MQ p q (s++l) u L:=⟨Ix h.gw,By h.s0,By h.s1⟩
def Blw{p q:Gp}{s:St}{u:V}{L:List Int}(h:MQ p q s u L)(v:Int)(hb:L.length<=2000000000000):∃ u' s',Dt 8 (1,3) u (.lst 1 [[iV v]]) s=some (u',s')/\MQ p q s' u' (L++[v])/\u'.cellB=true:=by
 have hl:=Azv h;obtain⟨u',s',ha,g',l',kp,-,-⟩:=Pa (bytes:=8) (y:=.lst 1 [[iV v]]) (ys:=[[iV v]]) h.gw AA rfl AA (Qh _) AE AN (by grind[Iv]);refine⟨u',s',ha,⟨?_,?_,?_⟩,Cg g'⟩
 .rw[Asd];exact g'
 .rw[kp 0 AA fun e=>by have:=(Dl h.gw 0 e).1;omega];exact h.s0
 .rw[kp 1 AA fun e=>by have:=(Dl h.gw 1 e).1;omega];exact h.s1
def Blx{p q:Gp}{s:St}{u:V}{L:List Int}(h:MQ p q s u L):FR u s (SL true 0 (Bj L)):=Tr h.gw AA (Qh L) (X0 L)
set_option maxHeartbeats 4000000 in
def Ase{p q:Gp}(hp:PY p)(hq:PY q):Fn TT PT 16 [.agg p.row,.agg q.row] (SL true 0 (Bj (Jr p q))):=by
 have ll:=Ak3 hp.px;have lq:=Ak3 hq.px;have ki:=hp.px.few;have kj:=hq.px.few;have ji:=Ajx hp.px;have jj:=Ajx hq.px;have qp:=Uf p;have jS:=Uf q;have qY:=F1 p;have jc:=F1 q;have qI:(p.thrs.map Dh).length=p.thrs.length:=Ar ..;have jJ:(q.thrs.map Tp.row).length=q.thrs.length:=Ar ..;rw[qY]at ji qp ⊢;rw[jc]at jj jS ⊢;refine Bg T16 rfl ?_;have m0:MQ p q [gO p,gO q] .nils []:=⟨D3,rfl,rfl⟩;simp only[go_sem];refine Af AD ?_;simp only[go_sem];refine Bf ji AB ?_;simp only[go_sem];refine Bf jj AB ?_;simp only[go_sem,qI];unfold Jr;generalize hP:Gu p=P at *;generalize hQ:Gu q=Q at *;refine Bk (α:=Nat × St × V) (fun a=>p.thrs.length - a.1) (fun a=>[(2,.ptr 0 0 0),(3,.ptr 1 0 0),(6,.lst 0 (q.thrs.map Dh)),(7,a.2.2),(20,.lst 0 (p.thrs.map Dh)),(21,iV (p.thrs.length:Int)),(22,iV (a.1:Int))]) (fun a=>a.2.1) (fun a=>a.1<=p.thrs.length/\MQ p q a.2.1 a.2.2 (Jk (P.take a.1) Q)) ?_ (0,_,.nils) ⟨Ax _,m0⟩;clear m0;rintro⟨i,s,u⟩ ⟨hi,hm⟩ ih;simp only at hi hm ih;refine Bd Bor ?_;rcases Bh i p.thrs.length with qd | qd;rotate_left
 .have jF:i=p.thrs.length:=by omega
  have jy:P.length=p.thrs.length:=by rw[<-hP,Aqz]
  rw[jF,<-jy,Dq]at hm;simp only[go_sem,Bl qd];exact Blx hm
 obtain⟨x,hx,-,jY⟩:=Br qd;have qw:=Ue x;have jz:P[i]?=some (x.nm,Sp.hdss x.body):=by rw[<-hP];exact Asb hx
 have qz:((Sp.hdss x.body).map fun x=>[V.str x]).length=(Sp.hdss x.body).length:=Ar ..;have jZ:(Sp.hdss x.body).length<=4096:=by rw[Lj];exact hp.sz x jY
 have jK:Dh x=[SL true 0 ((Sp.hdss x.body).map fun x=>[V.str x])]:=rfl;have jW:=A28 Q jz;generalize hX:Sp.hdss x.body=X at *;have i1:IntKind.i64.wrap ((i:Int)+1)=((i+1:Nat):Int):=A2 AA;have qC:=Cg hm.gw;have qE:=hm.s0;have qs:=hm.s1;simp only[go_sem,Az qd,Au,hx,jK,qs,jJ];refine Bgo (fun e s'=>∃ (k:Nat) (v:V) (b:Nat) (Y:List (List UInt8)),e=[(2,.ptr 0 0 0),(3,.ptr 1 0 0),(6,.lst 0 (q.thrs.map Dh)),(7,u),(8,iV (i:Int)),(9,SL true 0 (X.map fun x=>[V.str x])),(10,iV (b:Int)),(11,v),(20,.lst 0 (p.thrs.map Dh)),(21,iV (p.thrs.length:Int)),(22,iV (i:Int)),(28,SL q.tz q.tt (q.thrs.map Tp.row)),(29,iV (q.thrs.length:Int)),(30,iV (k:Int))]/\v=SL true 0 (Y.map fun x=>[V.str x])/\Y.length<=4096/\b<=(Em Q).length/\Ik (x.nm,X) Q=Ln b (D6 0 X Y)/\MQ p q s' u (Jk (P.take i) Q)) ?_ ?_
 .intro k' qf;refine Bk (α:=Nat × St) (fun a=>q.thrs.length - a.1) (fun a=>[(2,.ptr 0 0 0),(3,.ptr 1 0 0),(6,.lst 0 (q.thrs.map Dh)),(7,u),(8,iV (i:Int)),(9,SL true 0 (X.map fun x=>[V.str x])),(10,iV ((Lr Q a.1:Nat):Int)),(11,.nils),(20,.lst 0 (p.thrs.map Dh)),(21,iV (p.thrs.length:Int)),(22,iV (i:Int)),(28,SL q.tz q.tt (q.thrs.map Tp.row)),(29,iV (q.thrs.length:Int)),(30,iV (a.1:Int))]) (fun a=>a.2) (fun a=>a.1<=q.thrs.length/\Us x.nm Q a.1/\MQ p q a.2 u (Jk (P.take i) Q)) ?_ (0,s) ⟨Ax _,A9b _ _,hm⟩;clear hm qE qs;clear s;rintro⟨k,s⟩ ⟨hk,qo,hm⟩ kh;simp only at hk qo hm kh;refine Bd Bop ?_;rcases Bh k q.thrs.length with h' | h';rotate_left
  .have qj:k=Q.length:=by rw[<-hQ,Aqz];omega
   rw[qj]at qo;have:=(A5y (s:=X) qo).2;simp only[go_sem,Bl h'];exact qf _ _ ⟨k,.nils,Lr Q k,[],rfl,by simp[SL],by simp,Akk Q k,by grind,hm⟩
  obtain⟨y,hy,-,ka⟩:=Br h';have jt:=Ue y;have qP:Q[k]?=some (y.nm,Sp.hdss y.body):=by rw[<-hQ];exact Asb hy
  have qi:((Sp.hdss y.body).map fun x=>[V.str x]).length=(Sp.hdss y.body).length:=Ar ..;have kb:(Sp.hdss y.body).length<=4096:=by rw[Lj];exact hq.sz y ka
  have qD:Dh y=[SL true 0 ((Sp.hdss y.body).map fun x=>[V.str x])]:=rfl;have jo:=A33 qP;have jH:=Akk Q k;simp only at jo;generalize hY:Sp.hdss y.body=Y at *;have qm:=Azv hm;have k1:IntKind.i64.wrap ((k:Int)+1)=((k+1:Nat):Int):=A2 AA;have w1:IntKind.i64.wrap (((Lr Q k:Nat):Int)+(Y.length:Int))=((Lr Q (k+1):Nat):Int):=by rw[jo,Cm AA];rfl
  have qn:=Bgq hm [tO y];obtain⟨s',e'⟩:∃ s':St,s'=s++[tO y]:=⟨_,rfl⟩;have ju:s'[s.length]?=some (tO y):=by rw[e'];simp
  rw[<-e']at qn;have jq:=qn.s0;by_cases e:y.nm=x.nm
  .have f1:(y.nm==x.nm)=true:=by simp[e]
   simp only[go_sem,Az h',Au,hy,jt];rw[<-e'];refine Af AD ?_;simp only[go_sem,ju,jq,Au,hx,qw];simp only[go_sem,f1,Au,hy,qD];exact qf _ _ ⟨k,_,Lr Q k,Y,rfl,rfl,kb,jH,A9d qo qP e,qn⟩
  .have f1:(y.nm==x.nm)=false:=by simp[e]
   simp only[go_sem,Az h',Au,hy,jt];rw[<-e'];refine Af AD ?_;simp only[go_sem,ju,jq,Au,hx,qw];simp only[go_sem,f1,Au,hy,qD,qi,w1,k1];exact Av (kh (k+1,s') AA ⟨h',A9c qo qP e,qn⟩) rfl
 clear hm qE qs;clear s;rintro _ s ⟨k,v,b,Y,rfl,rfl,qi,hb,qV,hm⟩;have qa:=Bbg true true 0 0 X Y jZ qi;have jv:(D6 0 X Y).length=X.length:=Afb X 0 Y;generalize hA:D6 0 X Y=A at *;have jw:(Bj A).length=X.length:=by rw[Iv,jv]
 simp only[go_sem];refine Ab qa AB ?_;simp only[go_sem,jw];refine Bk (α:=Nat × St × V) (fun a=>X.length - a.1) (fun a=>[(2,.ptr 0 0 0),(3,.ptr 1 0 0),(6,.lst 0 (q.thrs.map Dh)),(7,a.2.2),(10,iV (b:Int)),(20,.lst 0 (p.thrs.map Dh)),(21,iV (p.thrs.length:Int)),(22,iV (i:Int)),(58,.lst 0 (Bj A)),(59,iV (X.length:Int)),(60,iV (a.1:Int))]) (fun a=>a.2.1) (fun a=>a.1<=X.length/\MQ p q a.2.1 a.2.2 (Jk (P.take i) Q++Ln b (A.take a.1))) ?_ (0,s,u) ⟨Ax _,by grind[Ln]⟩;clear hm qC;clear s u;rintro⟨m,s,u⟩ ⟨jO,hm⟩ mh;simp only at jO hm mh;refine Bd Boq ?_;rcases Bh m X.length with h' | h';rotate_left
 .have jN:m=A.length:=by omega
  rw[jN,Dq,<-qV,<-jW]at hm;simp only[go_sem,Bl h',i1];exact Av (ih (i+1,s,u) AA ⟨qd,hm⟩) rfl
 obtain⟨v,hv⟩:∃ v,A[m]?=some v:=⟨_,B9 AA⟩;have km:=Bgp (X:=X) (Y:=Y) (m:=m) (by rw[hA];exact hv);have js:(Bj A)[m]?=some [iV v]:=by unfold Bj;rw[Au,hv];rfl
 have jU:=A7c (b:=b) hv;have m1:IntKind.i64.wrap ((m:Int)+1)=((m+1:Nat):Int):=A2 AA;have kl:=A7b P Q i
 obtain⟨w,hw⟩:∃ w:Int,w=if 0<=v then v+b else v:=⟨_,rfl⟩
 obtain⟨u',s',ha,qn,kg⟩:=Blw hm w (by grind[Ln]);rw[Bt,hw,<-jU]at qn;by_cases h0:0<=v
 .have f1:decide (0<=v)=true:=by simp[h0]
  have f2:IntKind.i64.wrap (v+(b:Int))=w:=by rw[hw,if_pos h0,Cm AA]
  simp only[go_sem,Az h',js,f1,f2,ha,m1];exact Av (mh (m+1,s',u') AA ⟨h',qn⟩) rfl
 .have f1:decide (0<=v)=false:=by simp[h0]
  have f2:w=v:=by rw[hw,if_neg h0]
  rw[f2]at ha;simp only[go_sem,Az h',js,f1,ha,m1];exact Av (mh (m+1,s',u') AA ⟨h',qn⟩) rfl
theorem Ak4{s:List UInt8}{g:Gp}(h:Jm s=some g):PY g:=by
 obtain⟨a,b,c⟩:=Ap3 h;exact⟨Bqr a b fun t ht=>by grind,c⟩
set_option maxHeartbeats 1000000 in
def Bbh(z1 z2:Bool)(t1 t2:Nat)(l:List Int)(hl:l.length<=1000000000000000):Fn TT PT 15 [SL z1 t1 (Bj l),SL z2 t2 (Bj l)] (.bool true):=by
 refine Bg T15 rfl ?_;have jI:=Iv l;simp only[go_sem,jI,bne_self_eq_false];refine Bk (α:=Nat) (fun i=>l.length - i) (fun i=>[(0,SL z1 t1 (Bj l)),(1,SL z2 t2 (Bj l)),(12,iV (l.length:Int)),(13,iV (i:Int))]) (fun _=>[]) (fun i=>i<=l.length) ?_ 0 (Ax _);intro i hi ih;refine Bd Boo ?_;rcases Bh i l.length with h' | h'
 .obtain⟨x,hx,-,-⟩:=Br h';have qw:(Bj l)[i]?=some [iV x]:=by unfold Bj;rw[Au,hx];rfl
  simp only[go_sem,Az h'];refine Af AD ?_;simp only[go_sem,qw,bne_self_eq_false];simp only[go_sem,A2 (show i<9223372036854775807 by omega)];exact Av (ih (i+1) AA h') rfl
 .simp only[go_sem,Bl h'];exact Ah rfl rfl
def Axx{s:List UInt8}{g:Gp}{v:V}(h:Jm s=some g)(hv:Zb s v):v=.tup [.agg g.row,iV 0,iV 0]:=by
 grind[Zb]
def Bgr{a b c:List UInt8}(h1:a≠c)(h2:b≠c)(h3:a≠b):D6 0 [a,b] [c,a,b]=[1,2]:=by
 have l1:E9 [b] [b]=1:=by simp[Rr,Vu]
 have l2:E9 [a,b] [c,a,b]=2:=by simp[Rr,Vu,Abf,h1,h2,h3]
 have e1:On a [b] [c,a,b]=some 1:=by simp[On,Y0,List.range_succ,List.range_zero,l1,l2,h1.symm]
 grind[Atj,D6]
def Bsg:(Jm [118,97,114,32,120,59,32,116,104,114,101,97,100,32,109,97,105,110,40,41,32,123,32,120,32,61,32,49,59,32,120,32,61,32,50,59,32,125]).map Gu=some [([109,97,105,110],[[120,32,61,32,49,59],[120,32,61,32,50,59]])]:=by kernel_rfl
def Bsh:(Jm [118,97,114,32,120,59,32,116,104,114,101,97,100,32,109,97,105,110,40,41,32,123,32,120,32,61,32,51,59,32,120,32,61,32,49,59,32,120,32,61,32,50,59,32,125]).map Gu=some [([109,97,105,110],[[120,32,61,32,51,59],[120,32,61,32,49,59],[120,32,61,32,50,59]])]:=by kernel_rfl
def Bqz{p q:Gp}(h1:Gu p=[([109,97,105,110],[[120,32,61,32,49,59],[120,32,61,32,50,59]])])(h2:Gu q=[([109,97,105,110],[[120,32,61,32,51,59],[120,32,61,32,49,59],[120,32,61,32,50,59]])]):Jr p q=[1,2]:=by
 unfold Jr;rw[h1,h2,Ai3,show Jk ([]:List (List UInt8 × List (List UInt8))) [([109,97,105,110],[[120,32,61,32,51,59],[120,32,61,32,49,59],[120,32,61,32,50,59]])]=[] from rfl,Cc];unfold Ik Ln;rw[Gb,if_pos rfl];simp[Bgr]
set_option maxHeartbeats 2000000 in
def Aq0:Fn TT PT 5 [] (.bool true):=by
 obtain⟨p,hp,sp⟩:=Cf.1 Bsg;obtain⟨q,hq,sq⟩:=Cf.1 Bsh;obtain⟨v,q1,hv⟩:=Ae2 [118,97,114,32,120,59,32,116,104,114,101,97,100,32,109,97,105,110,40,41,32,123,32,120,32,61,32,49,59,32,120,32,61,32,50,59,32,125];obtain⟨w,q2,hw⟩:=Ae2 [118,97,114,32,120,59,32,116,104,114,101,97,100,32,109,97,105,110,40,41,32,123,32,120,32,61,32,51,59,32,120,32,61,32,49,59,32,120,32,61,32,50,59,32,125];rw[Axx hp hv]at q1;rw[Axx hq hw]at q2;have hm:=Ase (Ak4 hp) (Ak4 hq);rw[Bqz sp sq]at hm;have hs:=Bbh true false 0 1 [1,2] AG;rw[show SL false 1 (Bj [1,2])=.lst 1 [[iV 1],[iV 2]] from rfl]at hs;have qY:=F1 p;have jc:=F1 q;rw[qY]at q1 hm;rw[jc]at q2 hm;refine Bg T5 rfl ?_;simp only[go_sem];refine Ab q1 AB ?_;simp only[go_sem];refine Ab q2 AB ?_;simp only[go_sem,beq_self_eq_true];refine Ab hm AB ?_;simp only[go_sem];refine Ab hs AB ?_;simp only[go_sem];exact Ah rfl rfl
