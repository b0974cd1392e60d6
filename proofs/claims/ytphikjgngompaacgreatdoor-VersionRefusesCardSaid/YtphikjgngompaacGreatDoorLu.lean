/- Walks: the parser's programs. -/
import Derived.Test.YtphikjgngompaacGreatDoorLs
import Derived.Test.YtphikjgngompaacGreatDoorUc
import Derived.Test.YtphikjgngompaacGreatDoorId
set_option linter.all false
namespace Go.Proofs.YtphikjgngompaacGreatDoor.KM
open Go
def PRg(A:List Tk)(o:Option (Gp × List Tk))(v:V)(p':Nat):Prop:=match o with
 | some (x,r)=>v=.tup [.agg x.row,.bool true]/\A.drop p'=r
 | none=>∃ d0 d1:V,[d0,d1].all V.rowB=true/\v=.tup [.agg [d0,d1],.bool false]
structure PS (s σ:St) (m:Nat) (z:Bool) (t:Nat) (A:List Tk) (q:Nat) (u1 u2:V) (D:List Dp) (L:List Tp):Prop where
 rw:RW s σ m z t A q
 len:s.length+2<=σ.length
 z2:σ[s.length]?=some (.row [.nils,.nils] 34 0 0)
 p:σ[s.length+1]?=some (.row [u1,u2] 34 0 0)
 g1:GW σ 6 82 (s.length+2) u1 (D.map Dp.row)
 g2:GW σ 4 86 (s.length+2) u2 (L.map Tp.row)
def Axb{s σ:St}{m:Nat}{z:Bool}{t:Nat}{A:List Tk}{q:Nat}{u1 u2:V}{D:List Dp}{L:List Tp}(h:PS s σ m z t A q u1 u2 D L)(q':Nat):PS s (σ.set m (RO z t A q')) m z t A q' u1 u2 D L:=by
 have hm:=h.rw.2.2.2;exact⟨Qy h.rw q',by rw[Ny];exact h.len,by rw[B4 AA];exact h.z2,by rw[B4 AA];exact h.p,Dw h.g1 AA,Dw h.g2 AA⟩
def Ad7{s σ l:St}{m:Nat}{z:Bool}{t:Nat}{A:List Tk}{q:Nat}{u1 u2:V}{D:List Dp}{L:List Tp}(h:PS s σ m z t A q u1 u2 D L):PS s (σ++l) m z t A q u1 u2 D L:=
 ⟨Ad5 h.rw,by have:=h.len;grind,Bt h.z2,Bt h.p,Ix h.g1,Ix h.g2⟩
def Bcq{s σ:St}{m:Nat}{z:Bool}{t:Nat}{A:List Tk}{q:Nat}{u1 u2:V}{D:List Dp}{L:List Tp}(h:PS s σ m z t A q u1 u2 D L)(d:Dp)(hb:D.length<=1000000):
  ∃ u' σ',Dx 64 (6,82) u1 (.lst 1 [d.row]) σ=some (u',σ')/\u'.cellB=true/\σ'[s.length+1]?=some (.row [u1,u2] 34 0 0)/\PS s (σ'.set (s.length+1) (.row [u',u2] 34 0 0)) m z t A q u' u2 (D++[d]) L:=by
 obtain⟨u',σ',ha,hg,hl,qW,qc⟩:=Iz (bytes:=64) (y:=.lst 1 [d.row]) (ys:=[d.row]) h.g1 h.len rfl AA (Acs D) (by simp;rfl) (by grind);have qf:=h.len;have hp:σ'[s.length+1]?=some (.row [u1,u2] 34 0 0):=by rw[qc _ AA];exact h.p
 refine⟨u',σ',ha,B8 hg,hp,Qq (R6 h.rw AA fun j hj=>qc j AA) AA,by grind,?_,Cf AA,?_,?_⟩
 .rw[B4 AA,qc _ AA];exact h.z2
 .grind[Dw]
 .exact Dw (Awv AM (Aww h.g1) h.g2 qW) AA
def Bhk{s σ:St}{m:Nat}{z:Bool}{t:Nat}{A:List Tk}{q:Nat}{u1 u2:V}{D:List Dp}{L:List Tp}(h:PS s σ m z t A q u1 u2 D L)(d:Tp)(hb:L.length<=1000000):
  ∃ u' σ',Dx 72 (4,86) u2 (.lst 1 [d.row]) σ=some (u',σ')/\u'.cellB=true/\σ'[s.length+1]?=some (.row [u1,u2] 34 0 0)/\PS s (σ'.set (s.length+1) (.row [u1,u'] 34 0 0)) m z t A q u1 u' D (L++[d]):=by
 obtain⟨u',σ',ha,hg,hl,qW,qc⟩:=Iz (bytes:=72) (y:=.lst 1 [d.row]) (ys:=[d.row]) h.g2 h.len rfl AA (Tt L) (by simp;rfl) (by grind);have qf:=h.len;have hp:σ'[s.length+1]?=some (.row [u1,u2] 34 0 0):=by rw[qc _ AA];exact h.p
 refine⟨u',σ',ha,B8 hg,hp,Qq (R6 h.rw AA fun j hj=>qc j AA) AA,by grind,?_,Cf AA,?_,?_⟩
 .rw[B4 AA,qc _ AA];exact h.z2
 .exact Dw (Awv AM (Aww h.g2) h.g1 qW) AA
 grind[Dw]
def Ae9{s σ:St}{m:Nat}{z:Bool}{t:Nat}{A:List Tk}{q:Nat}{u1 u2:V}{D:List Dp}{L:List Tp}(h:PS s σ m z t A q u1 u2 D L){e':Env}{b:Bool}{R:V->Nat->Prop}(jQ:e'.get 2=.ptr s.length 0 0)(jR:e'.get 3=.bool b)(hq:q<=A.length)(hR:R (.tup [.agg [SL true 0 (D.map Dp.row),SL true 0 (L.map Tp.row)],.bool b]) q):
  ∃ vs vs' q,Ca e' (σ.set s.length (.row [u1,u2] 34 0 0)) [AR.cell 2 2 false,AR.tmp 3]=some (.tup vs)/\vs.all Ga=true/\OVs (σ.set s.length (.row [u1,u2] 34 0 0)) vs vs'/\(∀ j∈Ah vs,s.length<=j)/\Ah vs'=[]/\RW s (σ.set s.length (.row [u1,u2] 34 0 0)) m z t A q/\q<=A.length/\R (.tup vs') q:=by
 have qf:=h.len;have c1:=B8 h.g1;have c2:=B8 h.g2;refine⟨[.agg [u1,u2],.bool b],[.agg [SL true 0 (D.map Dp.row),SL true 0 (L.map Tp.row)],.bool b],q,Ch (Cf AA) jQ rfl jR,?_,?_,?_,?_,Qq h.rw (Am _),hq,hR⟩
 .grind[V.cellB,Ga]
 .exact .cons (Uj (.cons (J3 (Dw h.g1 AA) AA (Acs D) (Aib D)) (.cons (J3 (Dw h.g2 AA) AA (Tt L) (Acu L)) .nil))) (.cons (Ig rfl) .nil)
 .intro j hj;simp only[Ah,V.refs,Bz,Cs]at hj
  have k1:∀ {w:V} {mm e:Nat} {xs:List (List V)},GW σ mm e (s.length+2) w xs->∀ j∈w.refs,s.length<=j:=by
   intro w mm e xs hg j hj;rcases hg with⟨rfl,-⟩ | ⟨-,i,g,rfl,-,kD⟩
   .cases hj
   .grind[V.refs]
  rcases hj with hj | hj
  .exact k1 h.g1 j hj
  .exact k1 h.g2 j hj
 grind[Ah,V.refs,Au8]
set_option maxHeartbeats 4000000 in
def A17{s:St}{m:Nat}{z:Bool}{t:Nat}{A:List Tk}(hA:OkA A)(hT:D9 A)(hs:s[m]?=some (RO z t A 0)):RT 33 [] s m z t A (PRg A (Aap A)):=by
 have hl:A.length<=1000000:=by have:=hA.len;omega
 have hm:=(An.1 hs).1;refine Aw6 T33 hs fun S hS=>?_
 have jm:=Azr hS hs;have ji:PS s (S 0++[.row [.nils,.nils] 34 0 0,.row [.nils,.nils] 34 0 0]) m z t A 0 .nils .nils [] []:=⟨jm _ _,by simp[hS.len],hS.n0 _ _ _,hS.n1 _ _ _ _,Dr,Dr⟩;have Zq:=Dv hS;obtain⟨-,-,qf,get,get0,set,set0,n0,n1,n2,u0,u1,u2⟩:=hS;have kx:A.drop 0=A:=Mc;simp only[go_sem,Zq,LZ];refine Bb (α:=Nat × Nat × V × List Dp × St) (fun a=>a.1) (fun a=>[(0,.ptr m 0 0),(2,.ptr s.length 0 0),(4,.ptr (s.length+1) 0 0)]) (fun a=>a.2.2.2.2) (fun a=>a.2.1<=A.length/\A.length - a.2.1<a.1/\PS s a.2.2.2.2 m z t A a.2.1 a.2.2.1 .nils a.2.2.2.1 []/\M9 (A.length+1) A=(M9 a.1 (A.drop a.2.1)).map (fun y=>(a.2.2.2.1++y.1,y.2))/\a.2.2.2.1.length<=a.2.1) ?_ (A.length+1,0,.nils,[],S 0++[.row [.nils,.nils] 34 0 0,.row [.nils,.nils] 34 0 0]) ⟨As _,by omega,ji,by simp_all,by simp⟩;rintro⟨k,q,v1,D,σ⟩ ⟨hq,jO,qi,qe,jJ⟩ ih;simp only at hq jO qi qe jJ ih;obtain⟨k,rfl⟩:∃ j,k=j+1:=⟨k - 1,by omega⟩;refine Ay Bku ?_;have qo:=Sh qi.rw.2.2.1 hl hq;have qm:=An8 (Ag A q).text;have jI:∀ (τ:St) (ob:Ob),s.length+2<=τ.length->(τ.set s.length ob)[s.length]?=some ob:=fun τ ob h=>Cf AA
 have ju:Sf (A.drop q)=((Ag A q).kind==3&&H6 (Ag A q).text != 0):=by
  rcases Az q A.length with h | h
  .rw[Mn h];rfl
  .rw[(K7 h).1,(K7 h).2];rfl
 by_cases hd:Sf (A.drop q)=true
 .have ke:q<A.length:=by
   rcases Az q A.length with h | h
   .exact h
   .rw[(K7 h).1]at hd;cases hd
  rw[ju,Al]at hd;obtain⟨jq,js⟩:=hd;obtain⟨v,q2,c1,qK,h3⟩:=A16 hA hT qi.rw.2.2.1 hq (by grind);have qp:=Axb qi q2
  have jg:M9 (k+1) (A.drop q)=match Uz (A.drop q) with
    | none=>none
    | some (d,r)=>match M9 k r with
     | none=>none
     | some (l,r)=>some (d::l,r):=by
   rw[M9,if_pos (by grind)];rfl
  rw[jg]at qe;unfold PRd at h3;generalize σ.set m (RO z t A q2)=τ at c1 qp;have qG:∀ a:Ob,(τ++[a])[τ.length]?=some a:=fun a=>by simp
  have qH:∀ a b:Ob,(τ++[a]).set τ.length b=τ++[b]:=fun a b=>by grind
  cases hpq:Uz (A.drop q) with
  | none=>
   rw[hpq]at h3 qe;obtain⟨_,⟨e0,e1,e2,e3,e4,e5,rfl,hb⟩,rfl⟩:=h3;have qg:PS s (τ++[.row [e0,e1,e2,e3,e4,e5] 82 0 0]) m z t A q2 v1 .nils D []:=Ad7 qp;have hz:=qg.z2;have hp:=qg.p;have qr:=B8 qi.g1;simp only[go_sem];refine Aa qo ?_;simp only[go_sem,jq];refine Aa qo ?_;simp only[go_sem];refine Ab qm rfl ?_;simp only[go_sem,js];refine Aa c1 ?_;simp only[go_sem,qG,qH,Ae5 hb,hz,hp,qr];refine Ae9 qg rfl rfl qK ?_;unfold Aap;rw[qe];exact⟨_,_,by simp[Ug],rfl⟩
  | some dr=>
   obtain⟨d,r⟩:=dr;rw[hpq]at h3 qe;obtain⟨rfl,h3⟩:=h3
   have jV:r.length<A.length - q:=by
    have:=(An6 (C:=100) AA (Dq hT (Abv q A)) (by grind) hpq).2.2.1;rw[Gi]at this;exact this
   have ki:r.length=A.length - q2:=by rw[<-h3,Gi]
   have qg:PS s (τ++[.row d.row 82 0 0]) m z t A q2 v1 .nils D []:=Ad7 qp;obtain⟨w1,τ2,ha,hc,jf,qd⟩:=Bcq qg d AA;obtain⟨qU,qT⟩:=Ahr hc;have hp:=qg.p;have jt:d.row=[iV d.kind,iV d.line,.str d.nm,iV d.size,iV d.init,.str d.on]:=rfl;rw[jt]at c1 ha;simp only[jt]at hp;simp only[go_sem];refine Aa qo ?_;simp only[go_sem,jq];refine Aa qo ?_;simp only[go_sem];refine Ab qm rfl ?_;simp only[go_sem,js];refine Aa c1 ?_;simp only[go_sem,qG,qH,hp,ha,jf,hc,qU,qT];refine Ai (ih (k,q2,w1,D++[d],τ2.set (s.length+1) (.row [w1,.nils] 34 0 0)) AE ⟨qK,by grind,qd,?_,by simp;omega⟩) rfl;simp only;rw[qe,h3];simp only
   cases M9 k r with
   | none=>rfl
   | some y=>simp
 .have hd:Sf (A.drop q)=false:=by simpa using hd
  have jg:M9 (k+1) (A.drop q)=some ([],A.drop q):=by rw[M9,if_neg AA]
  rw[jg]at qe;simp only[I9,Bz]at qe;rw[ju]at hd
  have jT:∀ P:Prop,((Ag A q).kind==3)=false\/(((Ag A q).kind==3)=true/\(H6 (Ag A q).text != 0)=false):=fun _=>by
   grind
  unfold Aap;rw[qe];simp only;rcases jT True with hk | ⟨hk,qc⟩
  case' inl=>simp only[go_sem]
  case' inl=>refine Aa qo ?_
  case' inl=>simp only[go_sem,hk]
  case' inr=>simp only[go_sem]
  case' inr=>refine Aa qo ?_
  case' inr=>simp only[go_sem,hk]
  case' inr=>refine Aa qo ?_
  case' inr=>simp only[go_sem]
  case' inr=>refine Ab qm rfl ?_
  case' inr=>simp only[go_sem,qc]
  all_goals
   refine Bb (α:=Nat × Nat × V × List Tp × St) (fun a=>a.1) (fun a=>[(0,.ptr m 0 0),(2,.ptr s.length 0 0),(4,.ptr (s.length+1) 0 0)]) (fun a=>a.2.2.2.2) (fun a=>a.2.1<=A.length/\A.length - a.2.1<a.1/\PS s a.2.2.2.2 m z t A a.2.1 v1 a.2.2.1 D a.2.2.2.1/\Nf (Ou A.length) (A.length+1) (A.drop q)=(Nf (Ou A.length) a.1 (A.drop a.2.1)).map (fun y=>(a.2.2.2.1++y.1,y.2))/\a.2.2.2.1.length<=a.2.1) ?_ (A.length+1,q,.nils,[],σ) ⟨hq,by omega,qi,by simp,by simp⟩;rintro⟨k2,q3,v2,L,σ2⟩ ⟨qL,qQ,qd,qa,qP⟩ jh;simp only at qL qQ qd qa qP jh;obtain⟨k2,rfl⟩:∃ j,k2=j+1:=⟨k2 - 1,by omega⟩;refine Ay Bkv ?_;have qv:=Al4 qd.rw.2.2.1 hl qL Agc;have qr:=B8 qd.g1;have ko:=B8 qd.g2;by_cases ht:A0 Agc (A.drop q3)=true
   .rw[ht]at qv
    have qD:=Ek ht;obtain⟨v,q4,c1,jw,h3⟩:=A39 (n:=Ou A.length) hA hT qd.rw.2.2.1 qD (by grind[Ou]);have qq:=Axb qd q4
    have jk:Nf (Ou A.length) (k2+1) (A.drop q3)=match U9 (Ou A.length) (A.drop q3) with
      | none=>none
      | some (x,r)=>match Nf (Ou A.length) k2 r with
       | none=>none
       | some (l,r)=>some (x::l,r):=by
     rw[Nf,if_pos ht];rfl
    rw[jk]at qa;unfold PRt at h3;generalize σ2.set m (RO z t A q4)=τ at c1 qq;have qG:∀ a:Ob,(τ++[a])[τ.length]?=some a:=fun a=>by simp
    have qH:∀ a b:Ob,(τ++[a]).set τ.length b=τ++[b]:=fun a b=>by simp
    cases hpq:U9 (Ou A.length) (A.drop q3) with
    | none=>
     rw[hpq]at h3 qa;obtain⟨e0,e1,e2,e3,hb,rfl⟩:=h3;have qh:PS s (τ++[.row [e0,e1,e2,e3] 86 0 0]) m z t A q4 v1 v2 D L:=Ad7 qq;have hz:=qh.z2;have hp:=qh.p
     have jN:(e0.cellB&&(e1.cellB&&(e2.cellB&&e3.cellB)))=true:=by
      simp only[B5,Dc,Al]at hb;simp only[Pg hb.1,Pg hb.2.1,Pg hb.2.2.1,Pg hb.2.2.2.1,Bool.and_self]
     simp only[go_sem];refine Aa qv ?_;simp only[go_sem];refine Aa c1 ?_;simp only[go_sem,qG,qH,jN,hz,hp,qr,ko];refine Ae9 qh rfl rfl jw ?_;rw[qa];exact⟨_,_,by simp[Ug],rfl⟩
    | some xr=>
     obtain⟨x,r⟩:=xr;rw[hpq]at h3 qa;obtain⟨rfl,h3⟩:=h3
     have jW:r.length<A.length - q3:=by
      have:=(Aos (M:=A.length) (C:=100+8*A.length) (Am _) (Dq hT (Abv q3 A)) (by grind) hpq).2.2.2.2.1;rw[Gi]at this;exact this
     have ki:r.length=A.length - q4:=by rw[<-h3,Gi]
     have qh:PS s (τ++[.row x.row 86 0 0]) m z t A q4 v1 v2 D L:=Ad7 qq;obtain⟨w2,τ2,ha,hc,jf,jj⟩:=Bhk qh x AA;obtain⟨qU,qT⟩:=Ahr hc;have hp:=qh.p;have qF:=Ase x;have qw:x.row=(tR x):=rfl;rw[qw]at c1 ha qF;simp only[qw]at hp;simp only[go_sem];refine Aa qv ?_;simp only[go_sem];refine Aa c1 ?_;simp only[go_sem,qG,qH,hp,ha,jf,hc,qU,qT];refine Ai (jh (k2,q4,w2,L++[x],τ2.set (s.length+1) (.row [v1,w2] 34 0 0)) AE ⟨jw,by grind,jj,?_,by simp;omega⟩) rfl;simp only;rw[qa,h3];simp only
     cases Nf (Ou A.length) k2 r with
     | none=>rfl
     | some y=>simp
   .have ht:A0 Agc (A.drop q3)=false:=by simpa using ht
    rw[ht]at qv
    have jk:Nf (Ou A.length) (k2+1) (A.drop q3)=some ([],A.drop q3):=by rw[Nf,if_neg AA]
    rw[jk]at qa;simp only[I9,Bz]at qa;have hz:=qd.z2;have hp:=qd.p;rw[qa];simp only
    have qz:(v2=.nils/\L=[])\/(L≠[]/\∃ i g,v2=.sl i g 0 L.length 4 true):=by
     rcases qd.g2 with⟨h1,h2⟩ | ⟨h1,i,g,h2,-⟩
     .exact .inl ⟨h1,by simpa using h2⟩
     .exact .inr ⟨fun e=>h1 (by grind),i,g,by grind⟩
    rcases qz with⟨rfl,rfl⟩ | ⟨ka,i,g,rfl⟩
    .simp only[go_sem];refine Aa qv ?_;simp only[go_sem];have kc:(σ2.set s.length (.row [v1,.nils] 34 0 0))[s.length+1]?=some (.row [v1,.nils] 34 0 0):=by rw[B4 AA];exact hp
     refine Ad AD ?_;simp only[go_sem,hp,hz,qr];refine Bd ?_;simp only[go_sem,qr,hz,hp];refine Ae9 qd rfl rfl qL ?_;show PRg A none _ _;exact⟨_,_,by simp[Ug],rfl⟩
    .have qJ:((0:Int)<(L.length:Int))=True:=eq_true (by grind[List.length_pos_iff]);simp only[go_sem];refine Aa qv ?_;simp only[go_sem];have kc:(σ2.set s.length (.row [v1,.sl i g 0 L.length 4 true] 34 0 0))[s.length+1]?=some (.row [v1,.sl i g 0 L.length 4 true] 34 0 0):=by rw[B4 AA];exact hp
     refine Ad AD ?_;simp only[go_sem,hp,hz,qr,gt_iff_lt,qJ];refine Bd ?_;simp only[go_sem,qr,hz,hp,gt_iff_lt,qJ];refine Ae9 qd rfl rfl qL ?_;rw[if_neg (by grind)];exact⟨rfl,rfl⟩
def Xv(s:List UInt8)(v:V):Prop:=match Ol s with
 | some x=>v=.tup [.agg x.row,.int .i64 0,.int .i64 0]
 | none=>∃ e ln:Int,e≠0/\v=.tup [.agg [.nils,.nils],.int .i64 e,.int .i64 ln]
def Bol(x:Gp):x.row.all V.rowB=true:=by
 grind[Gp.row,Ug]
def A74(x:Gp):x.row=(gR x):=rfl
def Axc{a b:V}(h:[a,b].all V.rowB=true):a.cellB=true/\b.cellB=true:=by
 simp_all [Pg]
def Adk(s:List UInt8):∃ v,Fn TT PT 10 [.str s] v/\Xv s v:=by
 obtain⟨v1,jn,hR⟩:=Bbi s;refine Alx T10 rfl ?_;unfold Aly at hR;unfold Xv Ol;by_cases qy:4096<s.length
 .rw[if_pos qy]at hR ⊢;obtain⟨e,ln,he,rfl⟩:=hR;have ne:(e != 0)=true:=by simp[he]
  simp only[go_sem];refine Ab jn AB ?_;simp only[go_sem,ne];exact⟨.tup [.agg [.nils,.nils],iV e,iV ln],⟨_,rfl,Fq AH⟩,e,ln,he,rfl⟩
 .rw[if_neg qy]at hR ⊢
  cases hL:Er s.length 1 s with
  | none=>
   rw[hL]at hR;obtain⟨e,ln,he,rfl⟩:=hR;have ne:(e != 0)=true:=by simp[he]
   simp only[go_sem];refine Ab jn AB ?_;simp only[go_sem,ne];exact⟨.tup [.agg [.nils,.nils],iV e,iV ln],⟨_,rfl,Fq AH⟩,e,ln,he,rfl⟩
  | some L=>
   rw[hL]at hR;simp only at hR;subst hR;have hA:=A7x AA hL;have hT:=Wk _ _ _ _ hL;have ne:((0:Int) != 0)=false:=by decide
   have hl:L.length<=1000000:=by have:=hA.len;omega
   have h1:=A17 (s:=[.row [.nils,.nils] 34 0 0,RO true 0 L 0]) (m:=1) (z:=true) (t:=0) hA hT rfl;obtain⟨v,q,c4,qK,h3⟩:=h1;have c4:Bw TT PT 33 [.ptr 1 0 0] [.row [.nils,.nils] 34 0 0,.row [SL true 0 (L.map Tk.row),iV 0] 76 0 0] v [.row [.nils,.nils] 34 0 0,.row [SL true 0 (L.map Tk.row),iV (q:Int)] 76 0 0]:=c4;simp only[go_sem];refine Ab jn AB ?_;simp only[go_sem,ne];unfold PRg at h3;have qk:∀ x:List V,∃ n:Int,Bw TT PT 34 [.ptr 1 0 0] [.row [.nils,.nils] 34 0 0,.row [SL true 0 (L.map Tk.row),iV (q:Int)] 76 0 0,.row x 34 0 0] (iV n) [.row [.nils,.nils] 34 0 0,.row [SL true 0 (L.map Tk.row),iV (q:Int)] 76 0 0,.row x 34 0 0]:=fun x=>Bci (s:=[.row [.nils,.nils] 34 0 0,RO true 0 L q,.row x 34 0 0]) (m:=1) rfl hl qK
   split at h3
   .rename_i x r ho;obtain⟨rfl,h3⟩:=h3;have qF:=Bol x;have hr:=A74 x;rw[hr]at c4 qF;obtain⟨qM,qN⟩:=Axc qF;rw[ho];refine Aa c4 ?_;simp only[go_sem];by_cases hq:q<L.length
    .have f1:((q:Int)<(L.length:Int))=True:=eq_true AA;obtain⟨n,qY⟩:=qk (gR x);refine Ad AD ?_;simp only[go_sem,Po,f1,qM,qN];refine Aa qY ?_;simp only[go_sem]
     have ka:r≠[]:=fun e=>by
      rw[e]at h3;have:=congrArg List.length h3
      grind
     refine⟨.tup [.agg [.nils,.nils],iV 3,iV n],⟨_,rfl,Fq AH⟩,?_⟩
     grind
    .have f1:((q:Int)<(L.length:Int))=False:=eq_false AA;rw[D4 AA]at h3;subst h3;refine Ad AD ?_;simp only[go_sem,Po,f1,qM,qN];refine⟨.tup [.agg x.row,iV 0,iV 0],?_,rfl⟩;rw[hr];exact⟨_,rfl,Fq (by simp only[go_sem,Nat.reduceEqDiff,reduceIte])⟩
   .rename_i ho;obtain⟨d0,d1,hd,rfl⟩:=h3;obtain⟨qM,qN⟩:=Axc hd;rw[ho];obtain⟨n,qY⟩:=qk [d0,d1];refine Aa c4 ?_;simp only[go_sem,qM,qN];refine Ad AD ?_;simp only[go_sem,Po];refine Aa qY ?_;simp only[go_sem];exact⟨.tup [.agg [.nils,.nils],iV 3,iV n],⟨_,rfl,Fq AH⟩,3,n,by decide,rfl⟩
theorem Ai4{s:List UInt8}{g:Gp}(h:Ol s=some g):PY g:=by
 obtain⟨a,b,c⟩:=A0x h;exact⟨Bmz a b fun t ht=>by grind,c⟩
set_option maxHeartbeats 1000000 in
def A75(z1 z2:Bool)(t1 t2:Nat)(l:List Int)(hl:l.length<=1000000000000000):Fn TT PT 14 [SL z1 t1 (Ao l),SL z2 t2 (Ao l)] (.bool true):=by
 refine Bg T14 rfl ?_;have qX:=F8 l;simp only[go_sem,qX,bne_self_eq_false];refine Bb (α:=Nat) (fun i=>l.length - i) (fun i=>[(0,SL z1 t1 (Ao l)),(1,SL z2 t2 (Ao l)),(12,iV (l.length:Int)),(13,iV (i:Int))]) (fun _=>[]) (fun i=>i<=l.length) ?_ 0 (As _);intro i hi ih;refine Ay Bj8 ?_;rcases Az i l.length with h' | h'
 .obtain⟨x,hx,-,-⟩:=Bk h';have qw:(Ao l)[i]?=some [iV x]:=by unfold Ao;rw[Ak,hx];rfl
  simp only[go_sem,Aq h'];refine Ad AD ?_;simp only[go_sem,qw,bne_self_eq_false];simp only[go_sem,Aw (show i<9223372036854775807 by omega)];exact Ai (ih (i+1) AA h') rfl
 .simp only[go_sem,Bj h'];exact Ae rfl rfl
def Avg{s:List UInt8}{g:Gp}{v:V}(h:Ol s=some g)(hv:Xv s v):v=.tup [.agg g.row,iV 0,iV 0]:=by
 grind[Xv]
def Bcr{a b c:List UInt8}(h1:a≠c)(h2:b≠c)(h3:a≠b):Du 0 [a,b] [c,a,b]=[1,2]:=by
 have l1:D7 [b] [b]=1:=by simp[Pl,Um]
 have l2:D7 [a,b] [c,a,b]=2:=by simp[Pl,Um,Z5,h1,h2,h3]
 have e1:Nn a [b] [c,a,b]=some 1:=by simp[Nn,Xi,List.range_succ,List.range_zero,l1,l2,h1.symm]
 grind[A51,Du]
def Bom:(Ol [118,97,114,32,120,59,32,116,104,114,101,97,100,32,109,97,105,110,40,41,32,123,32,120,32,61,32,49,59,32,120,32,61,32,50,59,32,125]).map H2=some [([109,97,105,110],[[120,32,61,32,49,59],[120,32,61,32,50,59]])]:=by kernel_rfl
def Bon:(Ol [118,97,114,32,120,59,32,116,104,114,101,97,100,32,109,97,105,110,40,41,32,123,32,120,32,61,32,51,59,32,120,32,61,32,49,59,32,120,32,61,32,50,59,32,125]).map H2=some [([109,97,105,110],[[120,32,61,32,51,59],[120,32,61,32,49,59],[120,32,61,32,50,59]])]:=by kernel_rfl
def Bm0{p q:Gp}(h1:H2 p=[([109,97,105,110],[[120,32,61,32,49,59],[120,32,61,32,50,59]])])(h2:H2 q=[([109,97,105,110],[[120,32,61,32,51,59],[120,32,61,32,49,59],[120,32,61,32,50,59]])]):Gl p q=[1,2]:=by
 unfold Gl;rw[h1,h2,An2,show Ii ([]:List (List UInt8 × List (List UInt8))) [([109,97,105,110],[[120,32,61,32,51,59],[120,32,61,32,49,59],[120,32,61,32,50,59]])]=[] from rfl,Bz];unfold Jo Je;rw[G8,if_pos rfl];simp[Bcr]
set_option maxHeartbeats 2000000 in
def Aht:Fn TT PT 5 [] (.bool true):=by
 obtain⟨p,hp,sp⟩:=Ci.1 Bom;obtain⟨q,hq,sq⟩:=Ci.1 Bon;obtain⟨v,q1,hv⟩:=Adk [118,97,114,32,120,59,32,116,104,114,101,97,100,32,109,97,105,110,40,41,32,123,32,120,32,61,32,49,59,32,120,32,61,32,50,59,32,125];obtain⟨w,q2,hw⟩:=Adk [118,97,114,32,120,59,32,116,104,114,101,97,100,32,109,97,105,110,40,41,32,123,32,120,32,61,32,51,59,32,120,32,61,32,49,59,32,120,32,61,32,50,59,32,125];rw[Avg hp hv]at q1;rw[Avg hq hw]at q2;have hm:=Aqc (Ai4 hp) (Ai4 hq);rw[Bm0 sp sq]at hm;have hs:=A75 true false 0 1 [1,2] AM;rw[show SL false 1 (Ao [1,2])=.lst 1 [[iV 1],[iV 2]] from rfl]at hs;have qC:=Ef p;have kf:=Ef q;rw[qC]at q1 hm;rw[kf]at q2 hm;refine Bg T5 rfl ?_;simp only[go_sem];refine Ab q1 AB ?_;simp only[go_sem];refine Ab q2 AB ?_;simp only[go_sem,beq_self_eq_true];refine Ab hm AB ?_;simp only[go_sem];refine Ab hs AB ?_;simp only[go_sem];exact Ae rfl rfl
structure OKp (p:Gp):Prop where
 sh:ShG p
 len:(Il p).length<=10000000000
 siz:∀ t∈p.thrs,Sp.szs t.body<=1000000
 blk:C6 p.row<=1000000
 ln:LnG p
 few:p.thrs.length<=5
 nd:(p.thrs.map fun t=>t.nm).Nodup
 sx:∀ t∈p.thrs,Sp.szs t.body<=60/\∀ x∈Sp.hdss t.body,x.length<=302
def nml:List (List UInt8):=[[109,97,105,110],[116,49],[116,50],[116,51]]
def A76{L:List Tp}{i:Nat}{nm:List UInt8}{t:Tp}(h:(L.map fun t=>t.nm)=nml.take i)(hn:([[V.str [109,97,105,110]],[V.str [116,49]],[V.str [116,50]],[V.str [116,51]]]:List (List V))[i]?=some [V.str nm])(ht:t.nm=nm):((L++[t]).map fun t=>t.nm)=nml.take (i+1):=by
 have hn:(nml.map fun x=>[V.str x])[i]?=some [V.str nm]:=hn;rw[Ak]at hn
 cases hi:nml[i]? with
 | none=>rw[hi]at hn;cases hn
 | some x=>
  rw[hi]at hn;simp at hn;rw[Fm,h,Ld,hi,hn,<-ht];rfl
def Bhl{L:List Tp}{i:Nat}(h:(L.map fun t=>t.nm)=nml.take i):(L.map fun t=>t.nm).Nodup:=h ▸ List.Pairwise.sublist (List.take_sublist i nml) AM
def Rf(t:Tp):Prop:=L8 t.nm/\t.locals=[[97],[98]]/\(∀ s∈t.body,SM 2 s)/\t.body.length<=7
def Bhm{t:Tp}(h:Rf t):MT t:=by
 obtain⟨h1,h2,h3,h4⟩:=h;refine⟨h1,⟨?_,?_⟩,2,by omega,fun s hs=>(h3 s hs).1.1,by omega⟩
 .rw[h2];exact Bcd AD
 .rw[h2];simp
def Avh:∀ {l:List Sp},(∀ s∈l,SM 2 s)->Cx (l.map Sp.row)<=l.length*2100
 | [],_=>by simp[Cx]
 | x::l,h=>by
  have h1:=(h x AE).2;have h2:=Avh (l:=l) fun s hs=>h s (by simp[hs])
  have:BK 2=2100:=rfl;rw[Bh,Cx,Be,G6];omega
def As1:∀ {L:List Tp},(∀ t∈L,Rf t)->Cx (L.map Tp.row)<=L.length*30000
 | [],_=>by simp[Cx]
 | x::l,h=>by
  obtain⟨h1,h2,h3,h4⟩:=h x AE;have h5:=As1 (L:=l) fun s hs=>h s (by simp[hs])
  have h6:=Avh h3;have h7:=h1.2;have h8:Cx (x.locals.map fun s=>[V.str s])=4:=by rw[h2];rfl
  have h9:x.body.length*2100<=7*2100:=E4 _ h4;rw[Bh,Cx,Be,G6,Aar];omega
def Avi:∀ {L:List Tp},(∀ t∈L,Rf t)->Nr L<=L.length*1000
 | [],_=>by simp[Nr]
 | x::l,h=>by
  obtain⟨h1,h2,h3,h4⟩:=h x AE;have h5:=Avi (L:=l) fun s hs=>h s (by simp[hs])
  have h6:=Z9 (k:=2) (l:=x.body) fun s hs=>(h3 s hs).1.1
  have z2:ZB 2=21:=rfl;have h9:x.body.length*ZB 2<=7*ZB 2:=E4 _ h4;have:Nr (x::l)=Sp.szs x.body+Nr l:=by simp[Nr]
  rw[this,Be,G6];omega
def Avj{z1 z2:Bool}{t1 t2:Nat}{L:List Tp}(hL:∀ t∈L,Rf t)(h5:L.length<=5)(h0:L≠[])(jZ:(L.map fun t=>t.nm).Nodup):OKp ⟨z1,t1,declsL,z2,t2,L⟩/\Nr L<=1000000:=by
 obtain⟨a,b,c⟩:=Bmv (D:=declsL) (L:=L) ⟨A35.1,by decide⟩ (fun t ht=>Bhm (hL t ht)) h5 h0;have h1:=As1 hL;have h2:=Avi hL;have h3:L.length*30000<=5*30000:=E4 _ h5;have h4:L.length*1000<=5*1000:=E4 _ h5;have hd:Cx (declsL.map Dp.row)<=1000:=by decide +kernel
 refine⟨⟨⟨a.decls,a.nms,a.locs,a.thrs,a.some⟩,b,c,?_,⟨by simp only;decide,by simp only;omega,fun t ht=>?_⟩,h5,jZ,fun t ht=>?_⟩,by omega⟩
 .rw[Alz];simp only;omega
 .rw[(hL t ht).2.1];simp
 .obtain⟨-,-,h6,h7⟩:=hL t ht;obtain⟨h8,h9⟩:=Aex fun s hs=>(h6 s hs).1.2
  have kw:=E4 (YB 2) h7;have jI:YB 2=7:=rfl;exact⟨by omega,h9⟩
def Bhn:MX 1 (Gq 1):=by
 refine⟨.num AA,?_,?_⟩
 .have:(Gq 1).txt.length=1:=by unfold Gq;rw[F2];rfl
  have e1:EB 1=54:=rfl;omega
 .unfold Gq;rw[Ha];have x1:O6 1=36:=rfl;simp[Cx];omega
def Ayo{f p:Nat}{res:List AR}{body:AC}{vs:List V}{R:Gp->Prop}(hT:TT f=some ⟨p,res,false,body,none⟩)(hl:vs.length=p)
  (h:W TT PT [.c body] (C7 0 vs) [] (Hd fun e' σ1=>∃ u1 u2 z1 t1 z2 t2 D L,Ca e' σ1 res=some (.agg [u1,u2])/\(OC σ1 u1 (SL z1 t1 (D.map Dp.row))/\u1.cellB=true)/\(OC σ1 u2 (SL z2 t2 (L.map Tp.row))/\u2.cellB=true)/\R ⟨z1,t1,D,z2,t2,L⟩)):∃ p:Gp,Fn TT PT f vs (.agg p.row)/\R p:=by
 obtain⟨e',σ1,hE,u1,u2,z1,t1,z2,t2,D,L,hr,⟨h1,c1⟩,⟨h2,c2⟩,hR⟩:=h;refine⟨⟨z1,t1,D,z2,t2,L⟩,?_,hR⟩;have kb:OV σ1 (.agg [u1,u2]) (.agg [SL z1 t1 (D.map Dp.row),SL z2 t2 (L.map Tp.row)]):=Uj (.cons h1 (.cons h2 .nil));have qE:De (.agg [SL z1 t1 (D.map Dp.row),SL z2 t2 (L.map Tp.row)])=true:=by simp only[De,B5,Dc,Ug];rfl
 refine Apj hT rfl rfl hl ⟨e',σ1,hE,.agg [u1,u2],Ah [u1,u2],hr,?_,kb _ (fun i hi=>hi),?_,?_⟩
 .show([u1,u2].all V.cellB)=true;simp only[B5,Dc,c1,c2];rfl
 .exact Vz qE
 .exact X9 qE
def Axd{s:St}(h:s[3]?=some (.row (declsL.map Dp.row).flatten 82 0 0)):OC s (.sl 3 0 0 9 6 true) (SL true 0 (declsL.map Dp.row))/\(V.sl 3 0 0 9 6 true).cellB=true:=
 ⟨Ps (xs:=declsL.map Dp.row) h AA (Acs declsL) (Aib declsL),rfl⟩
set_option maxRecDepth 20000 in
set_option maxHeartbeats 16000000 in
def As2(z:Bool)(t:Nat)(l:List UInt8)(hl:l.length<=9223372036854775807):∃ p:Gp,Fn TT PT 12 [SL z t (By l)] (.agg p.row)/\OKp p:=by
 refine Ayo T12 rfl ?_;refine Ff (fun e s=>e=[(0,SL z t (By l)),(2,.ptr 0 0 0)]/\s=[.row [.nils,.nils] 34 0 0]) ?_ ?_
 .intro k' qb;simp only[go_sem];exact qb _ _ ⟨rfl,rfl⟩
 rintro _ _ ⟨rfl,rfl⟩;refine Ff (fun e s=>e=[(2,.ptr 0 0 0),(3,.ptr 2 0 0)]/\s=[.row [.nils,.nils] 34 0 0,.row [SL z t (By l),iV 0] 91 0 0,mO 1 0 20 false false false false .nils]) ?_ ?_
 .intro k' qb;have hb:V.cellB (SL z t (By l))=true:=Pg (Ug _ _ _);simp only[go_sem,hb];exact qb _ _ ⟨rfl,rfl⟩
 rintro _ _ ⟨rfl,rfl⟩;refine Ff (fun e s=>e=[(2,.ptr 0 0 0),(3,.ptr 2 0 0),(4,.ptr 4 0 0)]/\PW s .nils []) ?_ ?_
 .intro k' qb;simp only[go_sem];refine Jz (Aow _) ?_;simp only[go_sem]
  have jz:MKr [.row [.nils,.nils] 34 0 0,.row [SL z t (By l),iV 0] 91 0 0,mO 1 0 20 false false false false .nils,.row (declsL.map Dp.row).flatten 82 0 0,.row [.sl 3 0 0 9 6 true,.nils] 34 0 0] 2 1 .nils []:=by
   refine⟨⟨0,20,false,false,false,false,rfl⟩,⟨z,t,l,0,rfl,As _,hl⟩,by decide,Z3,by simp[V.refs],?_⟩;intro ob hm j hj;simp only[B7,Qi,or_false]at hm;rcases hm with rfl | rfl | rfl | rfl | rfl
   .simp[Ob.refs,Ah,V.refs]at hj
   .simp[Ob.refs,Ah,V.refs,N6]at hj
   .simp[Ob.refs,Ah,V.refs]at hj;subst hj;simp
   .simp only[Ob.refs,Ahk]at hj;cases hj
   .simp[Ob.refs,Ah,V.refs]at hj;subst hj;simp
  have hf:=H7 jz;exact qb _ _ ⟨rfl,⟨_,jz⟩,by simp,rfl,rfl,rfl,by rw[hf];simp[V.refs],by rw[hf];simp[V.refs],by rw[hf];simp[V.refs],Dr,by simp[V.refs]⟩
 rintro _ s ⟨rfl,pw⟩;refine Ff (fun e s=>∃ n:Nat,(2<=n/\n<=4)/\e=[(2,.ptr 0 0 0),(3,.ptr 2 0 0),(4,.ptr 4 0 0),(5,iV (n:Int))]/\PW s .nils []) ?_ ?_
 .intro k' qb;obtain⟨_,_,_,_,_,_,_,m1,-⟩:=Aaa pw;obtain⟨uH,hk⟩:=pw.hk;obtain⟨r,s2,q2,h2,w2,l2,r2,m2⟩:=Qp hk 3 3 rfl AA;have en:IntKind.i64.wrap (2+(r:Int))=((2+r:Nat):Int):=by rw[Bo AA];omega
  simp only[go_sem,m1];refine Aa q2 ?_;simp only[go_sem,en];exact qb _ _ ⟨2+r,by omega,rfl,Afv pw h2 w2⟩
 clear pw s;rintro _ s ⟨n,hn,rfl,pw⟩;refine Ff (fun e s=>e=[(2,.ptr 0 0 0),(3,.ptr 2 0 0),(4,.ptr 4 0 0),(5,iV (n:Int)),(6,.lst 1 [[.str [109,97,105,110]],[.str [116,49]],[.str [116,50]],[.str [116,51]]])]/\PW s .nils []) ?_ ?_
 .intro k' qb;simp only[go_sem];exact qb _ _ ⟨rfl,pw⟩
 clear pw s;rintro _ s ⟨rfl,pw⟩;refine Ff (fun e s=>(∃ i:Nat,e=[(2,.ptr 0 0 0),(3,.ptr 2 0 0),(4,.ptr 4 0 0),(5,iV (n:Int)),(6,.lst 1 [[.str [109,97,105,110]],[.str [116,49]],[.str [116,50]],[.str [116,51]]]),(7,iV (i:Int))])/\∃ u2 L,PW s u2 L/\(∀ t∈L,Rf t)/\L.length<=5/\L≠[]/\(L.map fun t=>t.nm).Nodup) ?_ ?_
 .intro k' qb;simp only[go_sem];refine Bb (α:=Nat × St × V × List Tp) (fun a=>n - a.1) (fun a=>[(2,.ptr 0 0 0),(3,.ptr 2 0 0),(4,.ptr 4 0 0),(5,iV (n:Int)),(6,.lst 1 [[.str [109,97,105,110]],[.str [116,49]],[.str [116,50]],[.str [116,51]]]),(7,iV (a.1:Int))]) (fun a=>a.2.1) (fun a=>a.1<=n/\PW a.2.1 a.2.2.1 a.2.2.2/\(∀ t∈a.2.2.2,Rf t)/\a.2.2.2.length=a.1/\(a.2.2.2.map fun t=>t.nm)=nml.take a.1) ?_ (0,s,.nils,[]) ⟨As _,pw,(fun d hd=>by cases hd),rfl,rfl⟩;clear pw s;rintro⟨i,s,u2,L⟩ ⟨hi,pw,hL,qu,qx⟩ ih;simp only at hi pw hL qu qx ih;refine Ay Bj5 ?_;rcases Az i n with h' | h';rotate_left
  .simp only[go_sem,Bj h'];exact qb _ _ ⟨⟨i,rfl⟩,u2,L,pw,hL,by omega,(fun e=>by rw[e]at qu;simp at qu;omega),Bhl qx⟩
  obtain⟨nm,jc,jb⟩:=Y0 [[109,97,105,110],[116,49],[116,50],[116,51]] AD (j:=i) AP;simp only[Bh,B0]at jc;refine Ff (fun e s'=>e=[(2,.ptr 0 0 0),(3,.ptr 2 0 0),(4,.ptr 4 0 0),(5,iV (n:Int)),(6,.lst 1 [[.str [109,97,105,110]],[.str [116,49]],[.str [116,50]],[.str [116,51]]]),(7,iV (i:Int))]/\s'=s) ?_ ?_
  .intro k' qb;simp only[go_sem,Aq h'];exact qb _ _ ⟨rfl,rfl⟩
  rintro _ s' ⟨rfl,e0⟩;rw[e0];clear e0 s';refine Ff (fun e s'=>(e=[(2,.ptr 0 0 0),(3,.ptr 2 0 0),(4,.ptr 4 0 0),(5,iV (n:Int)),(6,.lst 1 [[.str [109,97,105,110]],[.str [116,49]],[.str [116,50]],[.str [116,51]]]),(7,iV (i:Int))]\/∃ v,e=[(2,.ptr 0 0 0),(3,.ptr 2 0 0),(4,.ptr 4 0 0),(5,iV (n:Int)),(6,.lst 1 [[.str [109,97,105,110]],[.str [116,49]],[.str [116,50]],[.str [116,51]]]),(7,iV (i:Int)),(9,v)])/\∃ u' t,PW s' u' (L++[t])/\Rf t/\t.nm=nm) ?_ ?_;rotate_left
  .clear pw jb;rintro e s ⟨he,u',t,pw,ht,km⟩;have hN:=A76 qx jc km;have jK:∀ x∈L++[t],Rf x:=fun x hx=>(Cs.1 hx).elim (hL x) fun hx=>by rw[Hh.1 hx];exact ht
   rcases he with rfl | ⟨v,rfl⟩
   all_goals
    simp only[go_sem,Aw (show i<9223372036854775807 by omega)];exact Ai (ih (i+1,s,u',L++[t]) AS ⟨h',pw,jK,by rw[Aj,I8,qu],hN⟩) rfl
  clear ih qb k';intro k' qb;rw[Axu];refine Ff (fun e s'=>e=[(2,.ptr 0 0 0),(3,.ptr 2 0 0),(4,.ptr 4 0 0),(5,iV (n:Int)),(6,.lst 1 [[.str [109,97,105,110]],[.str [116,49]],[.str [116,50]],[.str [116,51]]]),(7,iV (i:Int))]/\PW s' u2 L) ?_ ?_
  .intro k2 qc;obtain⟨_,_,_,_,_,_,_,m1,ho⟩:=Aaa pw;simp only[go_sem,m1];exact qc _ _ ⟨rfl,ho _ _ _ _ _ _⟩
  clear pw s;rintro _ s0 ⟨rfl,pw⟩;refine Ff (fun e s'=>e=[(2,.ptr 0 0 0),(3,.ptr 2 0 0),(4,.ptr 4 0 0),(5,iV (n:Int)),(6,.lst 1 [[.str [109,97,105,110]],[.str [116,49]],[.str [116,50]],[.str [116,51]]]),(7,iV (i:Int)),(8,.ptr s0.length 0 0)]/\TH s0 s' nm u2 L .nils []) ?_ ?_
  .intro k2 qc;simp only[go_sem,jc];exact qc _ _ ⟨rfl,Bhb pw nm⟩
  clear pw;rintro _ s ⟨rfl,th⟩;refine Ff (fun e s'=>(e=[(2,.ptr 0 0 0),(3,.ptr 2 0 0),(4,.ptr 4 0 0),(5,iV (n:Int)),(6,.lst 1 [[.str [109,97,105,110]],[.str [116,49]],[.str [116,50]],[.str [116,51]]]),(7,iV (i:Int)),(8,.ptr s0.length 0 0)]\/∃ v,e=[(2,.ptr 0 0 0),(3,.ptr 2 0 0),(4,.ptr 4 0 0),(5,iV (n:Int)),(6,.lst 1 [[.str [109,97,105,110]],[.str [116,49]],[.str [116,50]],[.str [116,51]]]),(7,iV (i:Int)),(8,.ptr s0.length 0 0),(9,v)])/\∃ uB B,TH s0 s' nm u2 L uB B/\(∀ x∈B,SM 2 x)/\B.length<=3) ?_ ?_
  .intro k2 qc;by_cases qV:i=0;rotate_left
   .have f1:((i:Int)==0)=false:=by simp;omega
    simp only[go_sem,f1];exact qc _ _ ⟨.inl rfl,_,_,th,(fun x hx=>by cases hx),by simp⟩
   .have f1:((i:Int)==0)=true:=by simp[qV]
    simp only[go_sem,f1];refine Bb (α:=Nat × St × V × List Sp) (fun a=>n - a.1) (fun a=>[(2,.ptr 0 0 0),(3,.ptr 2 0 0),(4,.ptr 4 0 0),(5,iV (n:Int)),(6,.lst 1 [[.str [109,97,105,110]],[.str [116,49]],[.str [116,50]],[.str [116,51]]]),(7,iV (i:Int)),(8,.ptr s0.length 0 0),(9,iV (a.1:Int))]) (fun a=>a.2.1) (fun a=>(1<=a.1/\a.1<=n)/\TH s0 a.2.1 nm u2 L a.2.2.1 a.2.2.2/\(∀ x∈a.2.2.2,SM 2 x)/\a.2.2.2.length+1=a.1) ?_ (1,s,.nils,[]) ⟨by simp only;omega,th,(fun d hd=>by cases hd),rfl⟩;clear th s;rintro⟨j,s,uB,B⟩ ⟨hj,th,hB,qj⟩ ih;simp only at hj th hB qj ih;refine Ay Bj4 ?_;rcases Az j n with h3 | h3;rotate_left
    .simp only[go_sem,Bj h3];exact qc _ _ ⟨.inr ⟨_,rfl⟩,uB,B,th,hB,by omega⟩
    obtain⟨nj,jv,ja⟩:=Y0 [[109,97,105,110],[116,49],[116,50],[116,51]] AD (j:=j) AP;simp only[Bh,B0]at jv;obtain⟨u',s',ha,⟨c1,c2,c3⟩,r',-,th'⟩:=Ak1 th (y:=.lst 1 [(Ma 12 nj).row]) (C:=[Ma 12 nj]) rfl AP;rw[Wv]at ha;have r1:=th.r;simp only[go_sem,Aq h3];refine Ad AD ?_;simp only[go_sem,r1,jv];refine Bd ?_;simp only[go_sem,ha];refine Bd ?_;simp only[go_sem,r',c1,c2,c3];refine Bd ?_;simp only[go_sem,Aw (show j<9223372036854775807 by omega)];refine Ai (ih (j+1,_,u',B++[Ma 12 nj]) AS ⟨by simp only;omega,th',fun x hx=>?_,by rw[Aj,I8,qj]⟩) rfl;rcases Cs.1 hx with hx | hx
    .exact hB x hx
    .rw[Hh.1 hx];exact Aat AA ja
  clear th s;rintro e s ⟨he,uB,B,th,hB,qj⟩;refine Ff (fun e s'=>(e=[(2,.ptr 0 0 0),(3,.ptr 2 0 0),(4,.ptr 4 0 0),(5,iV (n:Int)),(6,.lst 1 [[.str [109,97,105,110]],[.str [116,49]],[.str [116,50]],[.str [116,51]]]),(7,iV (i:Int)),(8,.ptr s0.length 0 0)]\/∃ v,e=[(2,.ptr 0 0 0),(3,.ptr 2 0 0),(4,.ptr 4 0 0),(5,iV (n:Int)),(6,.lst 1 [[.str [109,97,105,110]],[.str [116,49]],[.str [116,50]],[.str [116,51]]]),(7,iV (i:Int)),(8,.ptr s0.length 0 0),(9,v)])/\∃ uB B,TH s0 s' nm u2 L uB B/\(∀ x∈B,SM 2 x)/\B.length<=6) ?_ ?_
  .intro k2 qc;obtain⟨_,_,_,_,_,_,_,m1,-⟩:=Aaa th.pw;obtain⟨uH,hk⟩:=th.pw.hk;obtain⟨r,s2,q2,h2,w2,l2,rb,jB⟩:=Qp hk 3 3 rfl AA;have qt:=Al3 th h2 w2;have er:IntKind.i64.wrap (1+(r:Int))=((1+r:Nat):Int):=by rw[Bo AA];omega
   obtain⟨u,s3,q3,L3,kG,hO,jp,jM,h3,w3⟩:=(Ap5 2 AA 2 AA).2 s2 2 1 uH [] h2 AE (1+r) AA;have jo:=Al3 qt h3 w3;obtain⟨u',s',ha,⟨c1,c2,c3⟩,r',jA,th'⟩:=Ak1 jo (C:=L3) (Bha hO.1) AA;have m2:=jB.trans m1;obtain⟨_,_,_,_,_,_,_,m3,-⟩:=Aaa jo.pw;have m4:=jA.trans m3;have r1:=th.r;have r2:=qt.r;have r3:=jo.r;have q3:Bw TT PT 39 [.ptr 2 0 0,iV 2,iV ((1+r:Nat):Int)] s2 u s3:=q3;rcases he with rfl | ⟨v,rfl⟩
   all_goals
    refine Ad AD ?_;simp only[go_sem,r1,m1];refine Ia q2 ?_;simp only[go_sem,er];refine Ia q3 ?_;simp only[go_sem,ha];refine Bd ?_;simp only[go_sem,r',c1,c2,c3];refine Bd ?_;simp only[go_sem]
   .exact qc _ _ ⟨.inl rfl,_,_,th',fun x hx=>(Cs.1 hx).elim (hB x) (jp x),by rw[Aj];omega⟩
   .exact qc _ _ ⟨.inr ⟨_,rfl⟩,_,_,th',fun x hx=>(Cs.1 hx).elim (hB x) (jp x),by rw[Aj];omega⟩
  clear th hB qj he uB B s e;rintro e s ⟨he,uB,B,th,hB,qj⟩;refine Ff (fun e s'=>(e=[(2,.ptr 0 0 0),(3,.ptr 2 0 0),(4,.ptr 4 0 0),(5,iV (n:Int)),(6,.lst 1 [[.str [109,97,105,110]],[.str [116,49]],[.str [116,50]],[.str [116,51]]]),(7,iV (i:Int)),(8,.ptr s0.length 0 0)]\/∃ v,e=[(2,.ptr 0 0 0),(3,.ptr 2 0 0),(4,.ptr 4 0 0),(5,iV (n:Int)),(6,.lst 1 [[.str [109,97,105,110]],[.str [116,49]],[.str [116,50]],[.str [116,51]]]),(7,iV (i:Int)),(8,.ptr s0.length 0 0),(9,v)])/\∃ uB B,TH s0 s' nm u2 L uB B/\(∀ x∈B,SM 2 x)/\B.length<=7) ?_ ?_
  .intro k2 qc;by_cases qV:i=0;rotate_left
   .have f1:((i:Int)==0)=false:=by simp;omega
    rcases he with rfl | ⟨v,rfl⟩
    all_goals simp only[go_sem,f1]
    .exact qc _ _ ⟨.inl rfl,_,_,th,hB,by omega⟩
    .exact qc _ _ ⟨.inr ⟨_,rfl⟩,_,_,th,hB,by omega⟩
   have f1:((i:Int)==0)=true:=by simp[qV]
   obtain⟨_,_,_,_,_,_,_,m1,-⟩:=Aaa th.pw;obtain⟨uH,hk⟩:=th.pw.hk;obtain⟨r,s2,q2,h2,w2,l2,rb,jB⟩:=Qp hk 3 3 rfl AA;have qt:=Al3 th h2 w2;by_cases kg:r=2
   .subst kg;obtain⟨u',s',ha,⟨c1,c2,c3⟩,r',jA,th'⟩:=Ak1 qt (y:=.lst 1 [(Ma 13 [116,49]).row]) (C:=[Ma 13 [116,49]]) rfl AP;rw[Wv]at ha;have r2:=qt.r;rcases he with rfl | ⟨v,rfl⟩
    all_goals
     simp only[go_sem,f1,m1];refine Aa q2 ?_;simp only[go_sem,C4,Int.reduceBEq];refine Ad AD ?_;simp only[go_sem,r2];refine Bd ?_;simp only[go_sem,ha];refine Bd ?_;simp only[go_sem,r',c1,c2,c3];refine Bd ?_;simp only[go_sem]
    .exact qc _ _ ⟨.inl rfl,_,_,th',fun x hx=>(Cs.1 hx).elim (hB x) fun hx=>by rw[Hh.1 hx];exact Aat AA (H1 AD),by rw[Aj,I8];omega⟩
    .exact qc _ _ ⟨.inr ⟨_,rfl⟩,_,_,th',fun x hx=>(Cs.1 hx).elim (hB x) fun hx=>by rw[Hh.1 hx];exact Aat AA (H1 AD),by rw[Aj,I8];omega⟩
   .have fr:((r:Int)==2)=false:=by simp;omega
    rcases he with rfl | ⟨v,rfl⟩
    all_goals
     simp only[go_sem,f1,m1];refine Aa q2 ?_;simp only[go_sem,fr]
    .exact qc _ _ ⟨.inl rfl,_,_,qt,hB,by omega⟩
    .exact qc _ _ ⟨.inr ⟨_,rfl⟩,_,_,qt,hB,by omega⟩
  clear th hB qj he uB B s e;rintro e s ⟨he,uB,B,th,hB,qj⟩;obtain⟨s1,u',s2,e1,e2,⟨c1,c2,c3⟩,p2,jC⟩:=Bhc th AA;have r1:=th.r;have p1:=th.pw.p;have kn:V.cellB uB=true:=B8 th.g;rcases he with rfl | ⟨v,rfl⟩
  all_goals
   simp only[go_sem,r1,p1,kn,e1,e2,p2,c1,c2,c3]
  .exact qb _ _ ⟨.inl rfl,u',_,jC,⟨jb,rfl,hB,by simp only;omega⟩,rfl⟩
  .exact qb _ _ ⟨.inr ⟨_,rfl⟩,u',_,jC,⟨jb,rfl,hB,by simp only;omega⟩,rfl⟩
 clear pw s;rintro _ s ⟨⟨i,rfl⟩,u2,L,pw,hL,qu,jL,qx⟩;obtain⟨jd,kj⟩:=Avj (z1:=true) (t1:=0) (z2:=true) (t2:=0) hL qu jL qx;obtain⟨o1,c1⟩:=Axd pw.d;have o2:=J3 pw.g AA (Tt L) (Acu L);have c2:=B8 pw.g;obtain⟨_,q4,e4,l4,rfl⟩:=A7q (Dd jd.blk AA) jd.ln kj;have p1:=pw.p;have z1:=pw.z;have jl:Gp.row ⟨true,0,declsL,true,0,L⟩=[SL true 0 (declsL.map Dp.row),SL true 0 (L.map Tp.row)]:=rfl;rw[jl]at q4;simp only[go_sem,p1];refine Axy (.cons (Uj (.cons o1 (.cons o2 .nil))) .nil) q4 AH ?_;by_cases h0:e4=0
 .have f1:(e4==0)=true:=by simp[h0]
  simp only[go_sem,bne,f1,Ba,p1,z1,c1,c2];have z5:(s.set 0 (.row [.sl 3 0 0 9 6 true,u2] 34 0 0))[0]?=some (.row [.sl 3 0 0 9 6 true,u2] 34 0 0):=Cf (by have:=pw.l5;omega);refine⟨_,_,true,0,true,0,declsL,L,Va z5 rfl rfl,Axd (by rw[B4 AA];exact pw.d),⟨?_,c2⟩,jd⟩;exact J3 (Gt pw.g fun j hj=>B4 fun e=>by have:=(C8 pw.g j hj).1;omega) AA (Tt L) (Acu L)
 .have f1:(e4==0)=false:=by simp[h0]
  have jE:=Vv [120] (Gq 1);simp only[Gq,SL,B0,and_self,true_and,if_true]at jE;have kC:=pw.l5;simp only[go_sem,bne,f1,Bc];refine Jz (Aow _) ?_;simp only[go_sem];refine Ab (Agf _) AH ?_;simp only[go_sem];refine Ab jE AH ?_;have z6:=Bt (l:=([.row (declsL.map Dp.row).flatten 82 0 0]:St)) z1;simp only[go_sem,z6];have z5:((s++([.row (declsL.map Dp.row).flatten 82 0 0]:St)).set 0 (.row [.sl s.length 0 0 9 6 true,.lst 1 [[.str [109,97,105,110],iV 0,.lst 1 [[.str [97]],[.str [98]]],.lst 1 [[iV 1,iV 0,.str [120],.str [],.nils,iV 1,iV 1,.str [],.nils,.nils,.nils]]]]] 34 0 0))[0]?=some (.row [.sl s.length 0 0 9 6 true,.lst 1 [[.str [109,97,105,110],iV 0,.lst 1 [[.str [97]],[.str [98]]],.lst 1 [[iV 1,iV 0,.str [120],.str [],.nils,iV 1,iV 1,.str [],.nils,.nils,.nils]]]]] 34 0 0):=Cf AE;have hM:Rf ⟨[109,97,105,110],0,true,1,[[97],[98]],true,1,[L9 [120] (Gq 1)]⟩:=⟨H1 AD,rfl,fun s hs=>by rw[Hh.1 hs];exact Al2 (H1 AD) Bhn,by simp⟩;obtain⟨je,-⟩:=Avj (z1:=true) (t1:=0) (z2:=true) (t2:=1) (L:=[⟨[109,97,105,110],0,true,1,[[97],[98]],true,1,[L9 [120] (Gq 1)]⟩]) (fun t ht=>by rw[Hh.1 ht];exact hM) AE AE AE;refine⟨.sl s.length 0 0 9 6 true,.lst 1 [[.str [109,97,105,110],iV 0,.lst 1 [[.str [97]],[.str [98]]],.lst 1 [[iV 1,iV 0,.str [120],.str [],.nils,iV 1,iV 1,.str [],.nils,.nils,.nils]]]],true,0,true,1,declsL,[⟨[109,97,105,110],0,true,1,[[97],[98]],true,1,[L9 [120] (Gq 1)]⟩],Va z5 rfl rfl,⟨?_,rfl⟩,⟨?_,rfl⟩,je⟩
  .have h3:(s++([.row (declsL.map Dp.row).flatten 82 0 0]:St))[s.length]?=some (.row (declsL.map Dp.row).flatten 82 0 0):=by simp
   exact Ps (xs:=declsL.map Dp.row) (by rw[B4 AA];exact h3) AA (Acs declsL) (Aib declsL)
  .have hr:SL true 1 ([(⟨[109,97,105,110],0,true,1,[[97],[98]],true,1,[L9 [120] (Gq 1)]⟩:Tp)].map Tp.row)=.lst 1 [[.str [109,97,105,110],iV 0,.lst 1 [[.str [97]],[.str [98]]],.lst 1 [[iV 1,iV 0,.str [120],.str [],.nils,iV 1,iV 1,.str [],.nils,.nils,.nils]]]]:=by
    simp only[Bh,B0,Tp.row,Aey];rfl
   rw[hr];exact Gb rfl
def A77{g:V}{kill:List Nat}{x y R:AC}{i1 i2:Nat}{k:List It}{e:Env}{σ:St}{Q:Env->St->Prop}(P P2:Env->St->Prop)
  (h1:∀ R' k',(∀ e σ,P e σ->W TT PT (.c R'::.b i2::k') e σ Q)->(∀ e σ,P2 e σ->W TT PT k' e σ Q)->WC TT PT g kill x y (.b i1::.c R'::.b i2::k') e σ Q)
  (h2:∀ e σ,P e σ->W TT PT (.c R::.b i2::k) e σ Q) (h3:∀ e σ,P2 e σ->W TT PT k e σ Q):WC TT PT g kill x y (.b i1::.c R::.b i2::k) e σ Q:=h1 R k h2 h3
structure EW (p:Gp) (s:St) (u:V) (T:List Tp):Prop where
 z:s[1]?=some (.row [.nils,.nils] 34 0 0)
 o:s[2]?=some (.row [SL p.dz p.dt (p.decls.map Dp.row),u] 34 0 0)
 t:TS s 3
 g:GW s 4 86 4 u (T.map Tp.row)
def Ak7{p:Gp}{s:St}{u:V}{T:List Tp}(h:EW p s u T):4<=s.length:=Ov h.t
def Aae{p:Gp}{s s':St}{u:V}{T:List Tp}(h:EW p s u T)(ht:TS s' 3)(hk:∀ j,j<s.length->j≠3->(j=1\/j=2\/j∈u.refs)->s'[j]?=s[j]?):EW p s' u T:=by
 have hl:=Ak7 h
 exact⟨(hk 1 AA AA (.inl rfl)).trans h.z,(hk 2 AA AA (.inr (.inl rfl))).trans h.o,ht,Gt h.g fun j hj=>by
  obtain⟨a,b⟩:=C8 h.g j hj
  grind⟩
def Zu{s s':St}{b:Nat}(h:TS s b)(hk:s'[b]?=s[b]?):TS s' b:=by
 obtain⟨z,t,l,a,h1,h2⟩:=h;exact⟨z,t,l,a,hk.trans h1,h2⟩
structure EX (p:Gp) (n:Nat) (x:Tp) (s:St) (u:V) (T:List Tp) (w:V) (B:List Sp):Prop where
 ew:EW p s u T
 n4:4<=n
 r:s[n]?=some (tO x)
 u:∀ j∈u.refs,j<n
 g:GW s 11 100 (n+1) w (B.map Sp.row)
def Aaf{p:Gp}{n:Nat}{x:Tp}{s:St}{u w:V}{T:List Tp}{B:List Sp}(h:EX p n x s u T w B):n<s.length:=(An.1 h.r).1
def Avk{p:Gp}{n:Nat}{x:Tp}{s:St}{u w:V}{T:List Tp}{B:List Sp}(h:EX p n x s u T w B)(l:St):EX p n x (s++l) u T w B:=
 ⟨Aae h.ew (Zu h.ew.t (Ex (Ov h.ew.t))) fun j hj _ _=>Ex hj,h.n4,Bt h.r,h.u,Ix h.g⟩
def Bcs{p:Gp}{n:Nat}{x:Tp}{s s':St}{u w:V}{T:List Tp}{B:List Sp}(h:EX p n x s u T w B)(hw:TW s s' 3):EX p n x s' u T w B:=by
 have hn:=Aaf h;refine⟨Aae h.ew hw.2.2.1 fun j hj h3 _=>hw.2.1 j hj h3,h.n4,(hw.2.1 n hn (by have:=h.n4;omega)).trans h.r,h.u,Gt h.g fun j hj=>?_⟩;obtain⟨a,b⟩:=C8 h.g j hj;exact hw.2.1 j b (by have:=h.n4;omega)
def Axe{p:Gp}{n:Nat}{x:Tp}{s:St}{u w:V}{T:List Tp}{B:List Sp}(h:EX p n x s u T w B)(y:Sp)(hb:B.length<=10000000):
  ∃ w' s',Dx 176 (11,100) w (.lst 1 [y.row]) s=some (w',s')/\EX p n x s' u T w' (B++[y])/\w'.cellB=true/\(∀ j,j<s.length->j ∉ w.refs->s'[j]?=s[j]?)/\∀ j∈w'.refs,j∈w.refs\/s.length<=j:=by
 have hn:=Aaf h;have h4:=h.n4;obtain⟨w',s',a,g',l',k',r',-⟩:=Ml (bytes:=176) (y:=.lst 1 [y.row]) (ys:=[y].map Sp.row) h.g AA rfl AA (Tz B) (Tz [y]) (Ai3 [y]) (by grind);rw[<-Fm]at g';have hw:∀ j,j<=n->j ∉ w.refs:=fun j hj e=>by have:=(C8 h.g j e).1;omega
 refine⟨w',s',a,⟨Aae h.ew (Zu h.ew.t (k' 3 AA (hw 3 AA))) fun j hj _ qn=>k' j hj ?_,h4,(k' n hn (hw n (Am _))).trans h.r,h.u,g'⟩,B8 g',k',r'⟩;rcases qn with rfl | rfl | qn
 .grind
 .grind
 .exact hw j (by have:=h.u j qn;omega)
def A78{p:Gp}{n:Nat}{x:Tp}{s:St}{u w:V}{T:List Tp}{B:List Sp}(h:EX p n x s u T w B)(y:Sp)(hb:B.length<=10000000):
  ∃ s1 w' s',Dx 176 (11,100) (.lst 1 []) (.lst 1 [y.row]) s=some (.sl s.length 0 0 1 11 true,s1)/\Dx 176 (11,100) (.sl s.length 0 0 1 11 true) w s1=some (w',s')/\EX p n x s' u T w' (y::B)/\w'.cellB=true:=by
 have hn:=Aaf h;have h4:=h.n4;have hy:=N5 y
 have e1:Dx 176 (11,100) (.lst 1 []) (.lst 1 [y.row]) s=some (.sl s.length 0 0 1 11 true,s++[.row y.row 100 0 0]):=by
  simp[Dx,E5,Jm,hy]
 have h1:=Avk h [.row y.row 100 0 0];have g1:GW (s++([.row y.row 100 0 0]:St)) 11 100 (n+1) (.sl s.length 0 0 1 11 true) ([y].map Sp.row):=.inr ⟨by simp,s.length,0,rfl,by simp,by omega⟩;obtain⟨w',s',a,g',l',k',r',-⟩:=Ml (bytes:=176) (y:=w) (ys:=B.map Sp.row) g1 (by grind) (Bg9 h1.g (Tz B)) AA (Tz [y]) (Tz B) (Ai3 B) (by grind);rw[<-Fm]at g';have hw:∀ j,j<s.length->j ∉ (V.sl s.length 0 0 1 11 true).refs:=fun j hj e=>by grind[V.refs]
 have kE:(s++([.row y.row 100 0 0]:St)).length=s.length+1:=by simp
 refine⟨_,w',s',e1,a,⟨Aae h1.ew (Zu h1.ew.t (k' 3 AA (hw 3 AA))) fun j hj _ qn=>k' j hj ?_,h4,(k' n AA (hw n hn)).trans h1.r,h.u,g'⟩,B8 g'⟩;rcases qn with rfl | rfl | qn
 .grind
 .grind
 .exact hw j (by have:=h.u j qn;omega)
def Bho{p:Gp}{n:Nat}{x:Tp}{s:St}{u w:V}{T:List Tp}{B:List Sp}(h:EX p n x s u T w B)(hT:T.length<=1000000):
  ∃ s1 u' s2,Pr 4 1 s [.str x.nm,iV x.line,SL x.lz x.lt (x.locals.map fun s=>[V.str s]),w]=some (.lst 1 [[.str x.nm,iV x.line,SL x.lz x.lt (x.locals.map fun s=>[V.str s]),SL true 0 (B.map Sp.row)]],s1) /\
   Dx 72 (4,86) u (.lst 1 [[.str x.nm,iV x.line,SL x.lz x.lt (x.locals.map fun s=>[V.str s]),SL true 0 (B.map Sp.row)]]) s1=some (u',s2)/\u'.cellB=true/\s2[2]?=some (.row [SL p.dz p.dt (p.decls.map Dp.row),u] 34 0 0) /\
   EW p (s2.set 2 (.row [SL p.dz p.dt (p.decls.map Dp.row),u'] 34 0 0)) u' (T++[⟨x.nm,x.line,x.lz,x.lt,x.locals,true,0,B⟩]):=by
 have hn:=Aaf h;have h4:=h.n4;obtain⟨s1,e1,l1,f1,-⟩:=Ap6 h.g (loc:=SL x.lz x.lt (x.locals.map fun s=>[V.str s])) (Hq ..) x.nm x.line;have hw:∀ j,j<=n->j ∉ w.refs:=fun j hj e=>by have:=(C8 h.g j e).1;omega
 have hx:Tp.row ⟨x.nm,x.line,x.lz,x.lt,x.locals,true,0,B⟩=[.str x.nm,iV x.line,SL x.lz x.lt (x.locals.map fun s=>[V.str s]),SL true 0 (B.map Sp.row)]:=rfl;have g1:GW s1 4 86 4 u (T.map Tp.row):=Gt h.ew.g fun i hi=>f1 i (hw i (by have:=h.u i hi;omega))
 obtain⟨u',s2,e2,g2,l2,k2,r2,-⟩:=Ml (bytes:=72) (y:=.lst 1 [Tp.row ⟨x.nm,x.line,x.lz,x.lt,x.locals,true,0,B⟩]) (ys:=[Tp.row ⟨x.nm,x.line,x.lz,x.lt,x.locals,true,0,B⟩]) g1 AA rfl AA (Tt T) (by simp;rfl) (fun r hr=>by rw[Hh.1 hr,hx];simp only[B5,Dc,Hq];rfl) (by grind);have hu:∀ j,j<4->j ∉ u.refs:=fun j hj e=>by have:=(C8 h.ew.g j e).1;omega
 have kk:∀ j,j<4->s2[j]?=s[j]?:=fun j hj=>(k2 j AA (hu j hj)).trans (f1 j (hw j AA))
 refine⟨s1,u',s2,e1,e2,B8 g2,(kk 2 AA).trans h.ew.o,?_,Cf AA,?_,?_⟩
 .rw[B4 AA,kk 1 AA];exact h.ew.z
 .exact Zu h.ew.t ((B4 AA).trans (kk 3 AA))
 grind[Gt]
set_option maxHeartbeats 8000000 in
def Bct{p:Gp}(hp:OKp p)(z:Bool)(t:Nat)(l:List UInt8)(hl:l.length<=9223372036854775807):∃ q:Gp,Fn TT PT 13 [.agg p.row,SL z t (By l)] (.agg q.row)/\q.decls=p.decls/\EdT p.thrs q.thrs:=by
 have qi:=Pv p;have qC:=Ef p;have jS:=hp.few;have qX:=X7 l;have qJ:(p.thrs.map Tp.row).length=p.thrs.length:=Av ..;have e1:min (l.length:Int) 60=((min l.length 60:Nat):Int):=by omega
 obtain⟨z2,t2,qA⟩:=Ye z t 1 (By l) .i64 (min l.length 60) AA;rw[show(By l).take (min l.length 60)=By (l.take (min l.length 60)) by grind[By,List.map_take]]at qA;rw[qC]at qi ⊢;refine Ayo T13 rfl ?_
 have w0:EW p [gO p,.row [.nils,.nils] 34 0 0,.row [SL p.dz p.dt (p.decls.map Dp.row),.nils] 34 0 0,.row [SL z2 t2 (By (l.take (min l.length 60))),iV 0] 91 0 0] .nils []:=
  ⟨rfl,rfl,⟨z2,t2,_,0,rfl,As _,by grind⟩,Dr⟩
 simp only[go_sem,qX,e1,qA,qJ];refine Bb (α:=Nat × St × V × List Tp) (fun a=>p.thrs.length - a.1) (fun a=>[(4,.ptr 1 0 0),(5,.ptr 2 0 0),(6,.ptr 3 0 0),(23,SL p.tz p.tt (p.thrs.map Tp.row)),(24,iV (p.thrs.length:Int)),(25,iV (a.1:Int))]) (fun a=>a.2.1) (fun a=>a.1<=p.thrs.length/\EW p a.2.1 a.2.2.1 a.2.2.2/\EdT (p.thrs.take a.1) a.2.2.2) ?_ (0,_,.nils,[]) ⟨As _,w0,.nil⟩;clear w0;rintro⟨i,s,u,T⟩ ⟨hi,ew,hT⟩ ih;simp only at hi ew hT ih;have kA:T.length=i:=by rw[(Ajt hT).2,Ic];omega
 refine Ay Bj7 ?_;rcases Az i p.thrs.length with qB | qB;rotate_left
 .have jU:i=p.thrs.length:=by omega
  rw[jU,Dh]at hT;have ho:=ew.o;have hz:=ew.z;have qf:=Ak7 ew;have hc:=B8 ew.g;obtain⟨qR,qS⟩:=Jd hc;simp only[go_sem,Bj qB,ho,hz,qR,qS,hc];have z5:(s.set 1 (.row [SL p.dz p.dt (p.decls.map Dp.row),u] 34 0 0))[1]?=some (.row [SL p.dz p.dt (p.decls.map Dp.row),u] 34 0 0):=Cf AA;refine⟨_,_,p.dz,p.dt,true,0,p.decls,T,Va z5 rfl rfl,⟨Gb (Hq ..),R3 ..⟩,⟨?_,hc⟩,rfl,hT⟩;exact J3 (Gt ew.g fun j hj=>B4 fun e=>by have:=(C8 ew.g j hj).1;omega) AA (Tt T) (Acu T)
 obtain⟨x,hx,-,ku⟩:=Bk qB;have qw:=Pu x;have jP:(x.body.map Sp.row).length=x.body.length:=Av ..;have kF:=hp.siz x ku;have qF:=Ae0 x.body;have i1:IntKind.i64.wrap ((i:Int)+1)=((i+1:Nat):Int):=Aw AA;have qf:=Ak7 ew;obtain⟨s1,e1⟩:∃ s1:St,s1=s++[tO x]:=⟨_,rfl⟩
 have ex:EX p s.length x s1 u T .nils []:=by
  refine⟨Aae ew (Zu ew.t (by grind)) fun j hj _ _=>by grind,qf,by grind,fun j hj=>(C8 ew.g j hj).2,Dr⟩
 have jx:=ex.r;simp only[go_sem,Aq qB,Ak,hx,qw];rw[<-e1];simp only[go_sem,jx,jP];generalize s.length=n at *;clear jx e1 qf ew;clear s;refine Bb (α:=Nat × St × V × List Sp) (fun a=>x.body.length - a.1) (fun a=>[(4,.ptr 1 0 0),(5,.ptr 2 0 0),(6,.ptr 3 0 0),(8,.ptr n 0 0),(9,a.2.2.1),(23,SL p.tz p.tt (p.thrs.map Tp.row)),(24,iV (p.thrs.length:Int)),(25,iV (i:Int)),(30,SL x.bz x.bt (x.body.map Sp.row)),(31,iV (x.body.length:Int)),(32,iV (a.1:Int))]) (fun a=>a.2.1) (fun a=>a.1<=x.body.length/\EX p n x a.2.1 u T a.2.2.1 a.2.2.2/\EdB x.body a.1 a.2.2.2) ?_ (0,s1,.nils,[]) ⟨As _,ex,A67 _⟩;clear ex;clear s1;rintro⟨k,s,w,B⟩ ⟨hk,ex,hB⟩ kh;simp only at hk ex hB kh;have qj:=hB.cnt;have jy:=B8 ex.g;refine Ay Bj6 ?_;rcases Az k x.body.length with qb | qb;rotate_left
 .have qc:k=x.body.length:=by omega
  rw[qc]at hB;obtain⟨s1,u',s2,a1,a2,hc,a3,jF⟩:=Bho ex AA;obtain⟨qR,qS⟩:=Jd hc;obtain⟨kq,kr⟩:=Jd jy;have hr:=ex.r;have ho:=ex.ew.o;simp only[go_sem,Bj qb,hr,ho,kq,kr,jy,a1,a2,a3,qR,qS,hc,i1];refine Ai (ih (i+1,_,u',_) AA ⟨qB,jF,?_⟩) rfl;have kl:p.thrs.take (i+1)=p.thrs.take i++[x]:=by rw[Ld,hx];rfl
  simp only[kl];exact Aun hT rfl rfl hB
 obtain⟨y,hy,-,-⟩:=Bk qb;have kv:x.body[k]=y:=(An.1 hy).2;have b0:=A68 hB qb;have b1:=Aum hB qb;have b2:=Bbs hB qb;have b3:=A3v hB qb;rw[kv]at b1 b2 b3;have qs:=Fr y;have k1:IntKind.i64.wrap ((k:Int)+1)=((k+1:Nat):Int):=Aw AA;have qI:=Avk ex [.row y.row 100 0 0];obtain⟨s1,e1⟩:∃ s1:St,s1=s++[.row y.row 100 0 0]:=⟨_,rfl⟩;have r1:s1[s.length]?=some (.row y.row 100 0 0):=by rw[e1];simp
 rw[<-e1]at qI;obtain⟨r,s2,q2,tw,l2,-,-,-⟩:=Asj qI.ew.t 6 AA;have ql:=Bcs qI tw;have kt:s.length ∉ w.refs:=fun e=>by have:=(C8 ex.g _ e).2;omega
 have jY:s.length≠3:=by have:=Aaf ex;have:=ex.n4;omega
 have r2:s2[s.length]?=some (.row y.row 100 0 0):=(tw.2.1 _ (An.1 r1).1 jY).trans r1;rw[qs]at e1;have jD:Bw TT PT 38 [.ptr 3 0 0,iV 6] s1 (iV (r:Int)) s2:=q2;simp only[go_sem,Aq qb,Ak,hy,qs];rw[<-e1];refine Aa jD ?_;simp only[go_sem];generalize s.length=m at *;clear q2 jD r1 e1 qI tw l2 ex;clear s1;clear s;refine A77 (fun e s'=>∃ w' B' X,e=(4,.ptr 1 0 0)::(5,.ptr 2 0 0)::(6,.ptr 3 0 0)::(8,.ptr n 0 0)::(9,w')::(23,SL p.tz p.tt (p.thrs.map Tp.row))::(24,iV (p.thrs.length:Int))::(25,iV (i:Int))::(30,SL x.bz x.bt (x.body.map Sp.row))::(31,iV (x.body.length:Int))::(32,iV (k:Int))::(11,.ptr m 0 0)::X/\EX p n x s' u T w' B'/\EdB x.body (k+1) (B'++[y])/\s'[m]?=some (.row y.row 100 0 0)/\B'.length<=3000000) (fun e s'=>∃ w' B' X,e=(4,.ptr 1 0 0)::(5,.ptr 2 0 0)::(6,.ptr 3 0 0)::(8,.ptr n 0 0)::(9,w')::(23,SL p.tz p.tt (p.thrs.map Tp.row))::(24,iV (p.thrs.length:Int))::(25,iV (i:Int))::(30,SL x.bz x.bt (x.body.map Sp.row))::(31,iV (x.body.length:Int))::(32,iV (k:Int))::X/\EX p n x s' u T w' B'/\EdB x.body (k+1) B') ?_ ?_ ?_;rotate_left
 .rintro _ s ⟨w',B',X,rfl,ex,qO,r3,qj⟩;obtain⟨w2,s2,a1,ql,hc,-,-⟩:=Axe ex y AA;rw[qs]at r3 a1;simp only[go_sem,r3,a1,k1];exact Ai (kh (k+1,s2,w2,B'++[y]) AA ⟨qb,ql,qO⟩) rfl
 .rintro _ s ⟨w',B',X,rfl,ex,qO⟩;simp only[go_sem,k1];exact Ai (kh (k+1,s,w',B') AA ⟨qb,ex,qO⟩) rfl
 intro R' k' hA hC;rw[qs]at r2;have one:∀ X,W TT PT (.c R'::.b 3::k') ((4,.ptr 1 0 0)::(5,.ptr 2 0 0)::(6,.ptr 3 0 0)::(8,.ptr n 0 0)::(9,w)::(23,SL p.tz p.tt (p.thrs.map Tp.row))::(24,iV (p.thrs.length:Int))::(25,iV (i:Int))::(30,SL x.bz x.bt (x.body.map Sp.row))::(31,iV (x.body.length:Int))::(32,iV (k:Int))::(11,.ptr m 0 0)::X) s2 _:=fun X=>hA _ _ ⟨w,B,X,rfl,ql,b1,by grind,by omega⟩
 have jX:m<s2.length:=(An.1 r2).1
 have qZ:Ly w=some (iV (B.length:Int)):=by
  have:=Bfc (All ql.g)
  rwa [Av]at this
 by_cases h1:r=1
 .have f1:((r:Int)==1)=true:=by simp[h1]
  by_cases ho:y.op=12
  .have f2:(y.op != 12)=false:=by simp[ho]
   simp only[go_sem,f1,r2,f2];exact one _
  .have f2:(y.op != 12)=true:=by simp[ho]
   simp only[go_sem,f1,r2,f2];exact hC _ _ ⟨w,B,_,rfl,ql,b0⟩
 have f1:((r:Int)==1)=false:=by rw[beq_eq_false_iff_ne];omega
 by_cases h2:r=2
 .have f2:((r:Int)==2)=true:=by simp[h2]
  by_cases ho:y.op=1
  .have f3:(y.op==1)=true:=by simp[ho]
   obtain⟨w3,s3,a1,jG,kB,k3,-⟩:=Axe ql y AA;have r3:=(k3 m jX kt).trans r2;rw[qs]at a1;simp only[go_sem,f1,f2,r2,f3,a1];exact hA _ _ ⟨w3,B++[y],_,rfl,jG,b2,by rw[qs];exact r3,by rw[Aj,I8];omega⟩
  .have f3:(y.op==1)=false:=by simp[ho]
   simp only[go_sem,f1,f2,r2,f3];exact one _
 have f2:((r:Int)==2)=false:=by rw[beq_eq_false_iff_ne];omega
 by_cases h3:r=3;rotate_left
 .have f3:((r:Int)==3)=false:=by rw[beq_eq_false_iff_ne];omega
  simp only[go_sem,f1,f2,f3];exact one _
 have f3:((r:Int)==3)=true:=by simp[h3]
 by_cases ky:0<B.length;rotate_left
 .have f4:(0<(B.length:Int))=False:=eq_false AA;simp only[go_sem,f1,f2,f3,qZ,f4];exact one _
 have f4:(0<(B.length:Int))=True:=eq_true AA;by_cases ho:y.op=1
 .have f5:(y.op==1)=true:=by simp[ho]
  obtain⟨s3,w4,s4,a1,a2,jH,-⟩:=A78 ql y AA;rw[qs]at a1;have f6:Pr 11 0 s2 []=some (.lst 1 [],s2):=Av3 rfl;simp only[go_sem,f1,f2,f3,qZ,f4,r2,f5,f6,a1,a2];exact hC _ _ ⟨w4,y::B,_,rfl,jH,b3⟩
 .have f5:(y.op==1)=false:=by simp[ho]
  simp only[go_sem,f1,f2,f3,qZ,f4,r2,f5];exact one _
def Bm1{p q:Gp}(hp:OKp p)(hd:q.decls=p.decls)(ht:EdT p.thrs q.thrs):CnG q/\(Il q).length<=20000000000:=by
 obtain⟨a,b⟩:=Bbt hd ht (Aks hp.sh);exact⟨a,by have:=hp.len;omega⟩
theorem Ao3(nm:List UInt8):∀ (X P:List (List UInt8)),∀ r∈Gf nm P X,∃ nm ln n,r=Jq nm ln n
 | [],_,r,hr=>by cases hr
 | x::X,P,r,hr=>by
  rw[Gf]at hr;rcases B7.1 hr with rfl | hr
  .grind
  .exact Ao3 nm X _ r hr
def A18{p:Gp}:∀ r∈Im p,∃ nm ln n,r=Jq nm ln n:=fun r hr=>by
 obtain⟨l,hl,hr⟩:=List.mem_flatten.1 hr;obtain⟨t,-,rfl⟩:=Di.1 hl
 grind[Ao3]
def Am2:List V:=[.str [],.str [],iV 0]
def Agi(p:Gp)(i:Int):V:=if 0<=i/\i<(Im p).length then .tup [.agg ((Im p).getD i.toNat Am2),.bool true] else .tup [.agg Am2,.bool false]
set_option maxHeartbeats 1000000 in
def Bhp{p:Gp}(h:PX p)(i:Int):Fn TT PT 49 [.agg p.row,iV i] (Agi p i):=by
 have hk:=Asw h;have qi:=Pv p;have qC:=Ef p;rw[qC]at hk qi ⊢;refine Bg T49 rfl ?_;unfold Agi;by_cases h0:i<0
 .rw[if_neg AA];have f1:(i<0)=True:=eq_true h0;simp only[go_sem];refine Ab hk AB ?_;simp only[go_sem,f1];exact Fq rfl
 have f1:(i<0)=False:=eq_false h0;by_cases h1:(Im p).length<=i
 .rw[if_neg AA];have f2:(((Im p).length:Int)<=i)=True:=eq_true h1;simp only[go_sem];refine Ab hk AB ?_;simp only[go_sem,f1,f2,ge_iff_le];exact Fq rfl
 have f2:(((Im p).length:Int)<=i)=False:=eq_false h1;obtain⟨k,rfl⟩:∃ k:Nat,i=k:=⟨i.toNat,by omega⟩;rw[if_pos AA,Mv];obtain⟨r,hr⟩:∃ r,(Im p)[k]?=some r:=⟨_,Cb AA⟩;obtain⟨nm,ln,n,rfl⟩:=A18 r (Hg hr);have hg:(Im p).getD k Am2=Jq nm ln n:=by rw[Fl,hr];rfl
 rw[hg];unfold Jq at hr ⊢;simp only[go_sem];refine Ab hk AB ?_;simp only[go_sem,f1,f2,ge_iff_le,hr];exact Fq rfl
