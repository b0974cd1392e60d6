/- Walks: the parser's programs. -/
import Derived.Test.YtphikjgngompaaaGreatDoorLs
import Derived.Test.YtphikjgngompaaaGreatDoorIj
import Derived.Test.YtphikjgngompaaaGreatDoorId
set_option linter.all false
namespace Go.Proofs.YtphikjgngompaaaGreatDoor.KM
open Go
def PRg(A:List Tk)(o:Option (Gp × List Tk))(v:V)(p':Nat):Prop:=match o with
 | some (x,r)=>v=.tup [.agg x.row,.bool true]/\A.drop p'=r
 | none=>∃ d0 d1:V,[d0,d1].all V.rowB=true/\v=.tup [.agg [d0,d1],.bool false]
structure PS (s σ:St) (m:Nat) (z:Bool) (t:Nat) (A:List Tk) (q:Nat) (u1 u2:V) (D:List Dp) (L:List Tp):Prop where
 rw:RW s σ m z t A q
 len:s.length+2<=σ.length
 z2:σ[s.length]?=some (.row [.nils,.nils] 29 0 0)
 p:σ[s.length+1]?=some (.row [u1,u2] 29 0 0)
 g1:GW σ 6 85 (s.length+2) u1 (D.map Dp.row)
 g2:GW σ 4 89 (s.length+2) u2 (L.map Tp.row)
def Azq{s σ:St}{m:Nat}{z:Bool}{t:Nat}{A:List Tk}{q:Nat}{u1 u2:V}{D:List Dp}{L:List Tp}(h:PS s σ m z t A q u1 u2 D L)(q':Nat):PS s (σ.set m (RO z t A q')) m z t A q' u1 u2 D L:=by
 have hm:=h.rw.2.2.2;exact⟨Rq h.rw q',by rw[U4];exact h.len,by rw[Cc AA];exact h.z2,by rw[Cc AA];exact h.p,D5 h.g1 AA,D5 h.g2 AA⟩
def Af1{s σ l:St}{m:Nat}{z:Bool}{t:Nat}{A:List Tk}{q:Nat}{u1 u2:V}{D:List Dp}{L:List Tp}(h:PS s σ m z t A q u1 u2 D L):PS s (σ++l) m z t A q u1 u2 D L:=
 ⟨Af0 h.rw,by have:=h.len;grind,Bs h.z2,Bs h.p,Gm h.g1,Gm h.g2⟩
def Bf7{s σ:St}{m:Nat}{z:Bool}{t:Nat}{A:List Tk}{q:Nat}{u1 u2:V}{D:List Dp}{L:List Tp}(h:PS s σ m z t A q u1 u2 D L)(d:Dp)(hb:D.length<=1000000):
  ∃ u' σ',Dv 64 (6,85) u1 (.lst 1 [d.row]) σ=some (u',σ')/\u'.cellB=true/\σ'[s.length+1]?=some (.row [u1,u2] 29 0 0)/\PS s (σ'.set (s.length+1) (.row [u',u2] 29 0 0)) m z t A q u' u2 (D++[d]) L:=by
 obtain⟨u',σ',ha,hg,hl,qU,qc⟩:=Hz (bytes:=64) (y:=.lst 1 [d.row]) (ys:=[d.row]) h.g1 h.len rfl AA (Aej D) (by simp;rfl) (by grind);have qk:=h.len;have hp:σ'[s.length+1]?=some (.row [u1,u2] 29 0 0):=by rw[qc _ AA];exact h.p
 refine⟨u',σ',ha,Ce hg,hp,Rh (Tg h.rw AA fun j hj=>qc j AA) AA,by grind,?_,Cm AA,?_,?_⟩
 .rw[Cc AA,qc _ AA];exact h.z2
 .grind[D5]
 .exact D5 (Ay7 AG (Ay8 h.g1) h.g2 qU) AA
def Ble{s σ:St}{m:Nat}{z:Bool}{t:Nat}{A:List Tk}{q:Nat}{u1 u2:V}{D:List Dp}{L:List Tp}(h:PS s σ m z t A q u1 u2 D L)(d:Tp)(hb:L.length<=1000000):
  ∃ u' σ',Dv 72 (4,89) u2 (.lst 1 [d.row]) σ=some (u',σ')/\u'.cellB=true/\σ'[s.length+1]?=some (.row [u1,u2] 29 0 0)/\PS s (σ'.set (s.length+1) (.row [u1,u'] 29 0 0)) m z t A q u1 u' D (L++[d]):=by
 obtain⟨u',σ',ha,hg,hl,qU,qc⟩:=Hz (bytes:=72) (y:=.lst 1 [d.row]) (ys:=[d.row]) h.g2 h.len rfl AA (Ve L) (by simp;rfl) (by grind);have qk:=h.len;have hp:σ'[s.length+1]?=some (.row [u1,u2] 29 0 0):=by rw[qc _ AA];exact h.p
 refine⟨u',σ',ha,Ce hg,hp,Rh (Tg h.rw AA fun j hj=>qc j AA) AA,by grind,?_,Cm AA,?_,?_⟩
 .rw[Cc AA,qc _ AA];exact h.z2
 .exact D5 (Ay7 AG (Ay8 h.g2) h.g1 qU) AA
 grind[D5]
def Ag2{s σ:St}{m:Nat}{z:Bool}{t:Nat}{A:List Tk}{q:Nat}{u1 u2:V}{D:List Dp}{L:List Tp}(h:PS s σ m z t A q u1 u2 D L){e':Env}{b:Bool}{R:V->Nat->Prop}(jH:e'.get 2=.ptr s.length 0 0)(jI:e'.get 3=.bool b)(hq:q<=A.length)(hR:R (.tup [.agg [SL true 0 (D.map Dp.row),SL true 0 (L.map Tp.row)],.bool b]) q):
  ∃ vs vs' q,Cd e' (σ.set s.length (.row [u1,u2] 29 0 0)) [AR.cell 2 2 false,AR.tmp 3]=some (.tup vs)/\vs.all Hp=true/\OVs (σ.set s.length (.row [u1,u2] 29 0 0)) vs vs'/\(∀ j∈Ag vs,s.length<=j)/\Ag vs'=[]/\RW s (σ.set s.length (.row [u1,u2] 29 0 0)) m z t A q/\q<=A.length/\R (.tup vs') q:=by
 have qk:=h.len;have c1:=Ce h.g1;have c2:=Ce h.g2;refine⟨[.agg [u1,u2],.bool b],[.agg [SL true 0 (D.map Dp.row),SL true 0 (L.map Tp.row)],.bool b],q,Cj (Cm AA) jH rfl jI,?_,?_,?_,?_,Rh h.rw (Ak _),hq,hR⟩
 .grind[V.cellB,Hp]
 .exact .cons (Tl (.cons (Mm (D5 h.g1 AA) AA (Aej D) (Aj3 D)) (.cons (Mm (D5 h.g2 AA) AA (Ve L) (Aek L)) .nil))) (.cons (Iv rfl) .nil)
 .intro j hj;simp only[Ag,V.refs,B3,Ct]at hj
  have k1:∀ {w:V} {mm e:Nat} {xs:List (List V)},GW σ mm e (s.length+2) w xs->∀ j∈w.refs,s.length<=j:=by
   intro w mm e xs hg j hj;rcases hg with⟨rfl,-⟩ | ⟨-,i,g,rfl,-,qC⟩
   .cases hj
   .grind[V.refs]
  rcases hj with hj | hj
  .exact k1 h.g1 j hj
  .exact k1 h.g2 j hj
 grind[Ag,V.refs,Axq]
set_option maxHeartbeats 4000000 in
def A4k{s:St}{m:Nat}{z:Bool}{t:Nat}{A:List Tk}(hA:OkA A)(hT:D7 A)(hs:s[m]?=some (RO z t A 0)):RT 35 [] s m z t A (PRg A (V9 A)):=by
 have hl:A.length<=1000000:=by have:=hA.len;omega
 have hm:=(Al.1 hs).1;refine Azp T35 hs fun S hS=>?_
 have ji:=A14 hS hs;have jd:PS s (S 0++[.row [.nils,.nils] 29 0 0,.row [.nils,.nils] 29 0 0]) m z t A 0 .nils .nils [] []:=⟨ji _ _,by simp[hS.len],hS.n0 _ _ _,hS.n1 _ _ _ _,Ds,Ds⟩;have Zq:=Dr hS;obtain⟨-,-,qk,get,get0,set,set0,n0,n1,n2,u0,u1,u2⟩:=hS;have kb:A.drop 0=A:=L9;simp only[go_sem,Zq,LZ];refine Bk (α:=Nat × Nat × V × List Dp × St) (fun a=>a.1) (fun a=>[(0,.ptr m 0 0),(2,.ptr s.length 0 0),(4,.ptr (s.length+1) 0 0)]) (fun a=>a.2.2.2.2) (fun a=>a.2.1<=A.length/\A.length - a.2.1<a.1/\PS s a.2.2.2.2 m z t A a.2.1 a.2.2.1 .nils a.2.2.2.1 []/\Lm (A.length+1) A=(Lm a.1 (A.drop a.2.1)).map (fun y=>(a.2.2.2.1++y.1,y.2))/\a.2.2.2.1.length<=a.2.1) ?_ (A.length+1,0,.nils,[],S 0++[.row [.nils,.nils] 29 0 0,.row [.nils,.nils] 29 0 0]) ⟨Ax _,by omega,jd,by simp_all,by simp⟩;rintro⟨k,q,v1,D,σ⟩ ⟨hq,jG,qy,qf,jB⟩ ih;simp only at hq jG qy qf jB ih;obtain⟨k,rfl⟩:∃ j,k=j+1:=⟨k - 1,by omega⟩;refine Bd Boy ?_;have qr:=Tq qy.rw.2.2.1 hl hq;have qq:=Ap3 (Ae A q).text;have jA:∀ (τ:St) (ob:Ob),s.length+2<=τ.length->(τ.set s.length ob)[s.length]?=some ob:=fun τ ob h=>Cm AA
 have jp:Nw (A.drop q)=((Ae A q).kind==3&&G8 (Ae A q).text != 0):=by
  rcases Bh q A.length with h | h
  .rw[Na h];rfl
  .rw[(Lt h).1,(Lt h).2];rfl
 by_cases hd:Nw (A.drop q)=true
 .have jS:q<A.length:=by
   rcases Bh q A.length with h | h
   .exact h
   .rw[(Lt h).1]at hd;cases hd
  rw[jp,Ai]at hd;obtain⟨jm,jn⟩:=hd;obtain⟨v,q2,c1,qH,h3⟩:=A4j hA hT qy.rw.2.2.1 hq (by grind);have qs:=Azq qy q2
  have jc:Lm (k+1) (A.drop q)=match R3 (A.drop q) with
    | none=>none
    | some (d,r)=>match Lm k r with
     | none=>none
     | some (l,r)=>some (d::l,r):=by
   rw[Lm,if_pos (by grind)];rfl
  rw[jc]at qf;unfold PRd at h3;generalize σ.set m (RO z t A q2)=τ at c1 qs;have qF:∀ a:Ob,(τ++[a])[τ.length]?=some a:=fun a=>by simp
  have qG:∀ a b:Ob,(τ++[a]).set τ.length b=τ++[b]:=fun a b=>by grind
  cases hpq:R3 (A.drop q) with
  | none=>
   rw[hpq]at h3 qf;obtain⟨_,⟨e0,e1,e2,e3,e4,e5,rfl,hb⟩,rfl⟩:=h3;have qi:PS s (τ++[.row [e0,e1,e2,e3,e4,e5] 85 0 0]) m z t A q2 v1 .nils D []:=Af1 qs;have hz:=qi.z2;have hp:=qi.p;have qu:=Ce qy.g1;simp only[go_sem];refine Aa qr ?_;simp only[go_sem,jm];refine Aa qr ?_;simp only[go_sem];refine Ab qq rfl ?_;simp only[go_sem,jn];refine Aa c1 ?_;simp only[go_sem,qF,qG,Ag1 hb,hz,hp,qu];refine Ag2 qi rfl rfl qH ?_;unfold V9;rw[qf];exact⟨_,_,by simp[Vt],rfl⟩
  | some dr=>
   obtain⟨d,r⟩:=dr;rw[hpq]at h3 qf;obtain⟨rfl,h3⟩:=h3
   have jL:r.length<A.length - q:=by
    have:=(Ap0 (C:=100) AA (Dk hT (Adm q A)) (by grind) hpq).2.2.1;rw[Hi]at this;exact this
   have jU:r.length=A.length - q2:=by rw[<-h3,Hi]
   have qi:PS s (τ++[.row d.row 85 0 0]) m z t A q2 v1 .nils D []:=Af1 qs;obtain⟨w1,τ2,ha,hc,jb,qb⟩:=Bf7 qi d AA;obtain⟨qQ,qP⟩:=Ajg hc;have hp:=qi.p;have jo:d.row=[iV d.kind,iV d.line,.str d.nm,iV d.size,iV d.init,.str d.on]:=rfl;rw[jo]at c1 ha;simp only[jo]at hp;simp only[go_sem];refine Aa qr ?_;simp only[go_sem,jm];refine Aa qr ?_;simp only[go_sem];refine Ab qq rfl ?_;simp only[go_sem,jn];refine Aa c1 ?_;simp only[go_sem,qF,qG,hp,ha,jb,hc,qQ,qP];refine Aq (ih (k,q2,w1,D++[d],τ2.set (s.length+1) (.row [w1,.nils] 29 0 0)) AE ⟨qH,by grind,qb,?_,by simp;omega⟩) rfl;simp only;rw[qf,h3];simp only
   cases Lm k r with
   | none=>rfl
   | some y=>simp
 .have hd:Nw (A.drop q)=false:=by simpa using hd
  have jc:Lm (k+1) (A.drop q)=some ([],A.drop q):=by rw[Lm,if_neg AA]
  rw[jc]at qf;simp only[Jc,B3]at qf;rw[jp]at hd
  have jJ:∀ P:Prop,((Ae A q).kind==3)=false\/(((Ae A q).kind==3)=true/\(G8 (Ae A q).text != 0)=false):=fun _=>by
   grind
  unfold V9;rw[qf];simp only;rcases jJ True with hk | ⟨hk,qc⟩
  case' inl=>simp only[go_sem]
  case' inl=>refine Aa qr ?_
  case' inl=>simp only[go_sem,hk]
  case' inr=>simp only[go_sem]
  case' inr=>refine Aa qr ?_
  case' inr=>simp only[go_sem,hk]
  case' inr=>refine Aa qr ?_
  case' inr=>simp only[go_sem]
  case' inr=>refine Ab qq rfl ?_
  case' inr=>simp only[go_sem,qc]
  all_goals
   refine Bk (α:=Nat × Nat × V × List Tp × St) (fun a=>a.1) (fun a=>[(0,.ptr m 0 0),(2,.ptr s.length 0 0),(4,.ptr (s.length+1) 0 0)]) (fun a=>a.2.2.2.2) (fun a=>a.2.1<=A.length/\A.length - a.2.1<a.1/\PS s a.2.2.2.2 m z t A a.2.1 v1 a.2.2.1 D a.2.2.2.1/\Lq (Nb A.length) (A.length+1) (A.drop q)=(Lq (Nb A.length) a.1 (A.drop a.2.1)).map (fun y=>(a.2.2.2.1++y.1,y.2))/\a.2.2.2.1.length<=a.2.1) ?_ (A.length+1,q,.nils,[],σ) ⟨hq,by omega,qy,by simp,by simp⟩;rintro⟨k2,q3,v2,L,σ2⟩ ⟨qI,qO,qb,qa,qN⟩ jh;simp only at qI qO qb qa qN jh;obtain⟨k2,rfl⟩:∃ j,k2=j+1:=⟨k2 - 1,by omega⟩;refine Bd Boz ?_;have qx:=An2 qb.rw.2.2.1 hl qI Po;have qu:=Ce qb.g1;have jZ:=Ce qb.g2;by_cases ht:Av Po (A.drop q3)=true
   .rw[ht]at qx
    have qD:=Ef ht;obtain⟨v,q4,c1,jt,h3⟩:=A64 (n:=Nb A.length) hA hT qb.rw.2.2.1 qD (by grind[Nb]);have qt:=Azq qb q4
    have jf:Lq (Nb A.length) (k2+1) (A.drop q3)=match Sf (Nb A.length) (A.drop q3) with
      | none=>none
      | some (x,r)=>match Lq (Nb A.length) k2 r with
       | none=>none
       | some (l,r)=>some (x::l,r):=by
     rw[Lq,if_pos ht];rfl
    rw[jf]at qa;unfold PRt at h3;generalize σ2.set m (RO z t A q4)=τ at c1 qt;have qF:∀ a:Ob,(τ++[a])[τ.length]?=some a:=fun a=>by simp
    have qG:∀ a b:Ob,(τ++[a]).set τ.length b=τ++[b]:=fun a b=>by simp
    cases hpq:Sf (Nb A.length) (A.drop q3) with
    | none=>
     rw[hpq]at h3 qa;obtain⟨e0,e1,e2,e3,hb,rfl⟩:=h3;have qj:PS s (τ++[.row [e0,e1,e2,e3] 89 0 0]) m z t A q4 v1 v2 D L:=Af1 qt;have hz:=qj.z2;have hp:=qj.p
     have jF:(e0.cellB&&(e1.cellB&&(e2.cellB&&e3.cellB)))=true:=by
      simp only[B5,Dd,Ai]at hb;simp only[P7 hb.1,P7 hb.2.1,P7 hb.2.2.1,P7 hb.2.2.2.1,Bool.and_self]
     simp only[go_sem];refine Aa qx ?_;simp only[go_sem];refine Aa c1 ?_;simp only[go_sem,qF,qG,jF,hz,hp,qu,jZ];refine Ag2 qj rfl rfl jt ?_;rw[qa];exact⟨_,_,by simp[Vt],rfl⟩
    | some xr=>
     obtain⟨x,r⟩:=xr;rw[hpq]at h3 qa;obtain⟨rfl,h3⟩:=h3
     have jM:r.length<A.length - q3:=by
      have:=(Aqp (M:=A.length) (C:=100+8*A.length) (Ak _) (Dk hT (Adm q3 A)) (by grind) hpq).2.2.2.2.1;rw[Hi]at this;exact this
     have jU:r.length=A.length - q4:=by rw[<-h3,Hi]
     have qj:PS s (τ++[.row x.row 89 0 0]) m z t A q4 v1 v2 D L:=Af1 qt;obtain⟨w2,τ2,ha,hc,jb,je⟩:=Ble qj x AA;obtain⟨qQ,qP⟩:=Ajg hc;have hp:=qj.p;have qM:=Aun x;have ju:x.row=(tR x):=rfl;rw[ju]at c1 ha qM;simp only[ju]at hp;simp only[go_sem];refine Aa qx ?_;simp only[go_sem];refine Aa c1 ?_;simp only[go_sem,qF,qG,hp,ha,jb,hc,qQ,qP];refine Aq (jh (k2,q4,w2,L++[x],τ2.set (s.length+1) (.row [v1,w2] 29 0 0)) AE ⟨jt,by grind,je,?_,by simp;omega⟩) rfl;simp only;rw[qa,h3];simp only
     cases Lq (Nb A.length) k2 r with
     | none=>rfl
     | some y=>simp
   .have ht:Av Po (A.drop q3)=false:=by simpa using ht
    rw[ht]at qx
    have jf:Lq (Nb A.length) (k2+1) (A.drop q3)=some ([],A.drop q3):=by rw[Lq,if_neg AA]
    rw[jf]at qa;simp only[Jc,B3]at qa;have hz:=qb.z2;have hp:=qb.p;rw[qa];simp only
    have qB:(v2=.nils/\L=[])\/(L≠[]/\∃ i g,v2=.sl i g 0 L.length 4 true):=by
     rcases qb.g2 with⟨h1,h2⟩ | ⟨h1,i,g,h2,-⟩
     .exact .inl ⟨h1,by simpa using h2⟩
     .exact .inr ⟨fun e=>h1 (by grind),i,g,by grind⟩
    rcases qB with⟨rfl,rfl⟩ | ⟨jO,i,g,rfl⟩
    .simp only[go_sem];refine Aa qx ?_;simp only[go_sem];have jR:(σ2.set s.length (.row [v1,.nils] 29 0 0))[s.length+1]?=some (.row [v1,.nils] 29 0 0):=by rw[Cc AA];exact hp
     refine Af AD ?_;simp only[go_sem,hp,hz,qu];refine Bc ?_;simp only[go_sem,qu,hz,hp];refine Ag2 qb rfl rfl qI ?_;show PRg A none _ _;exact⟨_,_,by simp[Vt],rfl⟩
    .have jq:((0:Int)<(L.length:Int))=True:=eq_true (by grind[List.length_pos_iff]);simp only[go_sem];refine Aa qx ?_;simp only[go_sem];have jR:(σ2.set s.length (.row [v1,.sl i g 0 L.length 4 true] 29 0 0))[s.length+1]?=some (.row [v1,.sl i g 0 L.length 4 true] 29 0 0):=by rw[Cc AA];exact hp
     refine Af AD ?_;simp only[go_sem,hp,hz,qu,gt_iff_lt,jq];refine Bc ?_;simp only[go_sem,qu,hz,hp,gt_iff_lt,jq];refine Ag2 qb rfl rfl qI ?_;rw[if_neg (by grind)];exact⟨rfl,rfl⟩
def Ze(s:List UInt8)(v:V):Prop:=match Jh s with
 | some x=>v=.tup [.agg x.row,.int .i64 0,.int .i64 0]
 | none=>∃ e ln:Int,e≠0/\v=.tup [.agg [.nils,.nils],.int .i64 e,.int .i64 ln]
def Ah7(x:Gp):x.row.all V.rowB=true:=by
 grind[Gp.row,Vt]
def Bay(x:Gp):x.row=(gR x):=rfl
def Azr{a b:V}(h:[a,b].all V.rowB=true):a.cellB=true/\b.cellB=true:=by
 simp_all [P7]
def Ae9(s:List UInt8):∃ v,Fn TT PT 11 [.str s] v/\Ze s v:=by
 obtain⟨v1,jj,hR⟩:=Bej s;refine Anz T11 rfl ?_;unfold An0 at hR;unfold Ze Jh;by_cases qA:4096<s.length
 .rw[if_pos qA]at hR ⊢;obtain⟨e,ln,he,rfl⟩:=hR;have ne:(e != 0)=true:=by simp[he]
  simp only[go_sem];refine Ab jj AB ?_;simp only[go_sem,ne];exact⟨.tup [.agg [.nils,.nils],iV e,iV ln],⟨_,rfl,Gr AK⟩,e,ln,he,rfl⟩
 .rw[if_neg qA]at hR ⊢
  cases hL:C2 s.length 1 s with
  | none=>
   rw[hL]at hR;obtain⟨e,ln,he,rfl⟩:=hR;have ne:(e != 0)=true:=by simp[he]
   simp only[go_sem];refine Ab jj AB ?_;simp only[go_sem,ne];exact⟨.tup [.agg [.nils,.nils],iV e,iV ln],⟨_,rfl,Gr AK⟩,e,ln,he,rfl⟩
  | some L=>
   rw[hL]at hR;simp only at hR;subst hR;have hA:=Bao AA hL;have hT:=Xw _ _ _ _ hL;have ne:((0:Int) != 0)=false:=by decide
   have hl:L.length<=1000000:=by have:=hA.len;omega
   have h1:=A4k (s:=[.row [.nils,.nils] 29 0 0,RO true 0 L 0]) (m:=1) (z:=true) (t:=0) hA hT rfl;obtain⟨v,q,c4,qH,h3⟩:=h1;have c4:Bx TT PT 35 [.ptr 1 0 0] [.row [.nils,.nils] 29 0 0,.row [SL true 0 (L.map Tk.row),iV 0] 79 0 0] v [.row [.nils,.nils] 29 0 0,.row [SL true 0 (L.map Tk.row),iV (q:Int)] 79 0 0]:=c4;simp only[go_sem];refine Ab jj AB ?_;simp only[go_sem,ne];unfold PRg at h3;have qn:∀ x:List V,∃ n:Int,Bx TT PT 36 [.ptr 1 0 0] [.row [.nils,.nils] 29 0 0,.row [SL true 0 (L.map Tk.row),iV (q:Int)] 79 0 0,.row x 29 0 0] (iV n) [.row [.nils,.nils] 29 0 0,.row [SL true 0 (L.map Tk.row),iV (q:Int)] 79 0 0,.row x 29 0 0]:=fun x=>Bfr (s:=[.row [.nils,.nils] 29 0 0,RO true 0 L q,.row x 29 0 0]) (m:=1) rfl hl qH
   split at h3
   .rename_i x r ho;obtain⟨rfl,h3⟩:=h3;have qM:=Ah7 x;have hr:=Bay x;rw[hr]at c4 qM;obtain⟨qK,qL⟩:=Azr qM;rw[ho];refine Aa c4 ?_;simp only[go_sem];by_cases hq:q<L.length
    .have f1:((q:Int)<(L.length:Int))=True:=eq_true AA;obtain⟨n,qV⟩:=qn (gR x);refine Af AD ?_;simp only[go_sem,Qk,f1,qK,qL];refine Aa qV ?_;simp only[go_sem]
     have jO:r≠[]:=fun e=>by
      rw[e]at h3;have:=congrArg List.length h3
      grind
     refine⟨.tup [.agg [.nils,.nils],iV 3,iV n],⟨_,rfl,Gr AK⟩,?_⟩
     grind
    .have f1:((q:Int)<(L.length:Int))=False:=eq_false AA;rw[Ec AA]at h3;subst h3;refine Af AD ?_;simp only[go_sem,Qk,f1,qK,qL];refine⟨.tup [.agg x.row,iV 0,iV 0],?_,rfl⟩;rw[hr];exact⟨_,rfl,Gr (by simp only[go_sem,Nat.reduceEqDiff,reduceIte])⟩
   .rename_i ho;obtain⟨d0,d1,hd,rfl⟩:=h3;obtain⟨qK,qL⟩:=Azr hd;rw[ho];obtain⟨n,qV⟩:=qn [d0,d1];refine Aa c4 ?_;simp only[go_sem,qK,qL];refine Af AD ?_;simp only[go_sem,Qk];refine Aa qV ?_;simp only[go_sem];exact⟨.tup [.agg [.nils,.nils],iV 3,iV n],⟨_,rfl,Gr AK⟩,3,n,by decide,rfl⟩
theorem Jm{σ τ:St}{m e lo:Nat}{u:V}{xs:List (List V)}(h:GW σ m e lo u xs)(hk:∀ i∈u.refs,τ[i]?=σ[i]?):GW τ m e lo u xs:=by
 rcases h with h | ⟨hn,i,g,h,ho,qC⟩
 .exact .inl h
 .exact .inr ⟨hn,i,g,h,by grind[V.refs],qC⟩
def Dm{σ:St}{m e lo:Nat}{u:V}{xs:List (List V)}(h:GW σ m e lo u xs):∀ i∈u.refs,lo<=i/\i<σ.length:=by
 intro j hj;rcases h with⟨rfl,-⟩ | ⟨hn,i,g,rfl,ho,qC⟩
 .grind[V.refs]
 grind[V.refs]
def Blf{σ:St}{m e lo:Nat}{u:V}{xs:List (List V)}(h:GW σ m e lo u xs)(hl:∀ r∈xs,r.length=m):Ew σ m u=some xs:=by
 rcases h with⟨rfl,rfl⟩ | ⟨hn,i,g,rfl,ho,qC⟩
 .rfl
 .simp only[Ew,ho];rw[if_pos ⟨trivial,trivial,by grind[Ge]⟩,L9,U9 hl]
def Blg{σ:St}{m e:Nat}{u:V}{xs:List (List V)}(h:GS σ m e u xs):Ew σ m u=some xs:=by
 obtain⟨⟨hl,hr⟩,h⟩:=h;rcases h with⟨rfl,rfl⟩ | ⟨i,g,r,q,rfl,ho,hq,kf⟩
 .rfl
 .simp only[Ew,ho];rw[if_pos ⟨trivial,trivial,by grind[Ge]⟩,L9,Aee m xs r hl]
def Baz(a:List V)(k:Nat):∀ i∈Ag (a.take k),i∈Ag a:=by
 grind[Lf,List.take_append_drop]
def Ba0(a:List V)(k:Nat):∀ i∈Ag (a.drop k),i∈Ag a:=by
 intro i hi;have:=Lf (a.take k) (a.drop k)
 simp_all
theorem Ag3{σ σ':St}{m e bytes:Nat}{u u' y:V}{ys:List (List V)}(ha:Dv bytes (m,e) u y σ=some (u',σ'))(hy:Ew σ m y=some ys)(hr:∀ r∈ys,r.all V.rowB=true)(hu:u=.nils\/∃ i g len,u=.sl i g 0 len m true):(∀ j∈u'.refs,j∈u.refs\/σ.length<=j)/\(Cl σ->Cl σ'):=by
 have hf:Ag ys.flatten=[]:=Fr (Ie hr);unfold Dv at ha;simp only[hy,C8]at ha;unfold Js at ha
 split at ha
 .rcases hu with rfl | ⟨i,g,len,rfl⟩
  .grind[V.refs,Jd,Ob.refs]
  .simp only at ha
   split at ha
   .split at ha
    .rename_i cs e' g' z ho;have hi:=(Al.1 ho).1;have hm:=Gx ho
     split at ha
     .split at ha
      .grind
      .split at ha
       .split at ha
        .cases ha;refine⟨fun j hj=>.inl hj,fun hc=>F8 hc fun j hj=>?_⟩;simp only[Ob.refs,Lf,hf,B3,Ct]at hj;rcases hj with hj | hj
         .exact hc _ hm j (Baz _ _ _ hj)
         .exact hc _ hm j (Ba0 _ _ _ hj)
        .split at ha
         .cases ha;refine⟨fun j hj=>.inl hj,fun hc=>F8 hc fun j hj=>?_⟩;simp only[Ob.refs,Lf,hf,B3]at hj;exact hc _ hm j hj
         grind
       grind
     grind
    grind
   grind
 grind
theorem Ak3{σ:St}{m e lo:Nat}{u:V}{xs:List (List V)}(h:GW σ m e lo u xs):u=.nils\/∃ i g len,u=.sl i g 0 len m true:=by
 rcases h with⟨rfl,-⟩ | ⟨hn,i,g,rfl,-⟩
 .grind
 grind
def O7{σ:St}{m e lo bytes:Nat}{u y:V}{xs ys:List (List V)}(h:GW σ m e lo u xs)(jK:lo<=σ.length)(hy:Ew σ m y=some ys)(hm:0<m)(hl:∀ r∈xs,r.length=m)(ke:∀ r∈ys,r.length=m)(hr:∀ r∈ys,r.all V.rowB=true)(hb:(xs.length+ys.length)*bytes<=140737488355328):
  ∃ u' σ',Dv bytes (m,e) u y σ=some (u',σ')/\GW σ' m e lo u' (xs++ys)/\σ.length<=σ'.length/\(∀ j,j<σ.length->j ∉ u.refs->σ'[j]?=σ[j]?)/\(∀ j∈u'.refs,j∈u.refs\/σ.length<=j)/\(Cl σ->Cl σ'):=by
 grind[Hz,Ag3,Ak3,V.refs]
def Ar7{σ:St}{lo e:Nat}{u loc:V}{B:List Sp}(h:GW σ 11 e lo u (B.map Sp.row))(hb:loc.rowB=true)(nm:List UInt8)(ln:Int):
  ∃ σ',Qn 4 1 σ [.str nm,iV ln,loc,u]=some (.lst 1 [[.str nm,iV ln,loc,SL true 0 (B.map Sp.row)]],σ')/\σ'.length=σ.length/\(∀ j,j ∉ u.refs->σ'[j]?=σ[j]?)/\(Cl σ->Cl σ'):=by
 have hl:∀ r∈B.map Sp.row,r.length=11:=fun r hr=>by obtain⟨x,-,rfl⟩:=Cy.1 hr;simp[Oz]
 have hs:∀ r∈B.map Sp.row,r.all V.rowB=true:=fun r hr=>by obtain⟨x,-,rfl⟩:=Cy.1 hr;exact Hc x
 have jP:=Mm h AA hl hs;have hr:Ag [V.str nm,iV ln,loc,u]=u.refs:=by simp[Ag,V.refs,Q8 hb]
 have jV:=jP (Fq σ 9 u.refs.eraseDups) (fun i hi=>Nr σ 9 _ i (Ss.2 hi)) 7;have hi:∀ v:V,v.rowB=true->Fc σ (Fq σ 9 u.refs.eraseDups) 9 v=some v:=fun v hv=>U8 hv
 unfold Qn;rw[hr];simp only[Lc,Aiy,hi (.str nm) rfl,hi (iV ln) rfl,hi loc hb,jV];refine⟨_,rfl,Q7 _ _,fun j hj=>Yc _ _ _ fun hm=>?_,Yt _ _⟩;rcases h with⟨rfl,-⟩ | ⟨hn,i,g,rfl,ho,qC⟩
 .grind[V.refs,Fq]
 .have:Fq σ 9 (V.refs (.sl i g 0 (B.map Sp.row).length 11 true)).eraseDups=[i]:=by
   have e1:(V.refs (.sl i g 0 (B.map Sp.row).length 11 true)).eraseDups=[i]:=by simp[V.refs,List.eraseDups_cons]
   rw[e1];have hx:Ag (B.map Sp.row).flatten=[]:=Fr (Ie hs);simp[Fq,ho,Ob.refs,hx]
  grind[V.refs]
structure PW (s:St) (u2:V) (L:List Tp):Prop where
 hk:∃ uH,MKr s 2 1 uH []
 l5:5<=s.length
 z:s[0]?=some (.row [.nils,.nils] 29 0 0)
 d:s[3]?=some (.row (declsL.map Dp.row).flatten 85 0 0)
 p:s[4]?=some (.row [.sl 3 0 0 9 6 true,u2] 29 0 0)
 n0:0 ∉ fp s 2
 n3:3 ∉ fp s 2
 n4:4 ∉ fp s 2
 g:GW s 4 89 5 u2 (L.map Tp.row)
 gn:∀ j∈u2.refs,j ∉ fp s 2
theorem Aho{s s':St}{u2 uH:V}{L:List Tp}(h:PW s u2 L)(hk:MKr s' 2 1 uH [])(w:FW 2 s s'):PW s' u2 L:=by
 obtain⟨z,n0⟩:=Je w h.z h.n0;obtain⟨d,n3⟩:=Je w h.d h.n3;obtain⟨p,n4⟩:=Je w h.p h.n4;refine⟨⟨_,hk⟩,C9 h.l5 w.1,z,d,p,n0,n3,n4,Jm h.g fun i hi=>w.2.1 i (Dm h.g i hi).2 (h.gn i hi),fun j hj hm=>?_⟩;rcases w.2.2 j hm with h2 | h2
 .exact h.gn j hj h2
 .have:=(Dm h.g j hj).2;omega
def Aby{s:St}{u2:V}{L:List Tp}(h:PW s u2 L):∃ (th left:Int) (se tx ao lp:Bool) (uH:V),s[2]?=some (mO 1 th left se tx ao lp uH) /\
  ∀ (th left:Int) (se tx ao lp:Bool),PW (s.set 2 (mO 1 th left se tx ao lp uH)) u2 L:=by
 obtain⟨uH,hk⟩:=h.hk;obtain⟨th,left,se,tx,ao,lp,hr⟩:=hk.row;refine⟨th,left,se,tx,ao,lp,uH,hr,fun th left se tx ao lp=>?_⟩;obtain⟨h1,h2⟩:=Aza hk th left se tx ao lp
 grind[Aho]
structure TH (s0 s:St) (nm:List UInt8) (u2:V) (L:List Tp) (uB:V) (B:List Sp):Prop where
 pw:PW s u2 L
 c5:5<=s0.length
 r:s[s0.length]?=some (.row [.str nm,iV 0,.lst 1 [[.str [97]],[.str [98]]],uB] 89 0 0)
 n:s0.length ∉ fp s 2
 g:GW s 11 103 (s0.length+1) uB (B.map Sp.row)
 gn:∀ j∈uB.refs,j ∉ fp s 2
 u2l:∀ j∈u2.refs,j<s0.length
def Blh{s:St}{u2:V}{L:List Tp}(h:PW s u2 L)(nm:List UInt8):TH s (s++[.row [.str nm,iV 0,.lst 1 [[.str [97]],[.str [98]]],.nils] 89 0 0]) nm u2 L .nils []:=by
 obtain⟨uH,hk⟩:=h.hk;obtain⟨h1,h2⟩:=Aft hk [.row [.str nm,iV 0,.lst 1 [[.str [97]],[.str [98]]],.nils] 89 0 0] (Jg hk.cl rfl);refine⟨Aho h h1 h2,h.l5,by simp,fun hm=>?_,Ds,by simp[V.refs],fun j hj=>(Dm h.g j hj).2⟩;rw[H6 h1,<-H6 hk]at hm;exact Agp (τ:=s) hk (Ak _) hm
def An7{s0 s s':St}{nm:List UInt8}{u2 uB uH:V}{L:List Tp}{B:List Sp}(h:TH s0 s nm u2 L uB B)(hk:MKr s' 2 1 uH [])(w:FW 2 s s'):TH s0 s' nm u2 L uB B:=by
 obtain⟨r,n⟩:=Je w h.r h.n;refine⟨Aho h.pw hk w,h.c5,r,n,Jm h.g fun i hi=>w.2.1 i (Dm h.g i hi).2 (h.gn i hi),fun j hj hm=>?_,h.u2l⟩;rcases w.2.2 j hm with h2 | h2
 .exact h.gn j hj h2
 .have:=(Dm h.g j hj).2;omega
def A00{s0 s:St}{nm:List UInt8}{u2 uB:V}{L:List Tp}{B:List Sp}(h:TH s0 s nm u2 L uB B):s0.length<s.length:=(Al.1 h.r).1
def Vk(B:List Sp):∀ r∈B.map Sp.row,r.length=11:=fun r hr=>by obtain⟨x,-,rfl⟩:=Cy.1 hr;simp[Oz]
def Ak4(B:List Sp):∀ r∈B.map Sp.row,r.all V.rowB=true:=fun r hr=>by obtain⟨x,-,rfl⟩:=Cy.1 hr;exact Hc x
def Am4{s0 s:St}{nm:List UInt8}{u2 uB y:V}{L:List Tp}{B C:List Sp}(h:TH s0 s nm u2 L uB B)(hy:Ew s 11 y=some (C.map Sp.row))(hb:B.length+C.length<=1000000):
  ∃ qh s',Dv 176 (11,103) uB y s=some (qh,s')/\(qh.cells=[qh]/\[qh].all V.cellB=true/\qh.cellB=true)/\s'[s0.length]?=some (.row [.str nm,iV 0,.lst 1 [[.str [97]],[.str [98]]],uB] 89 0 0)/\s'[2]?=s[2]? /\
   TH s0 (s'.set s0.length (.row [.str nm,iV 0,.lst 1 [[.str [97]],[.str [98]]],qh] 89 0 0)) nm u2 L qh (B++C):=by
 obtain⟨uH,hk⟩:=h.pw.hk;have hl:=A00 h;obtain⟨qh,s',e1,g,qk,hB,hr,hc⟩:=O7 (bytes:=176) h.g hl hy AA (Vk B) (Vk C) (Ak4 C) (by grind);have hf:=H6 hk
 have qS:∀ j∈fp s 2,j<s.length:=fun j hj=>by
  rw[hf]at hj;simp only[Bp]at hj;rcases hj with rfl | rfl | hj
  .grind[Mp]
  .exact Pk hk.tape
  .exact C1 hk.h j hj
 have kp:∀ j∈fp s 2,s'[j]?=s[j]?:=fun j hj=>hB j (qS j hj) fun e=>h.gn j e hj
 have k2:s'[2]?=s[2]?:=kp 2 (by grind);have qo:∀ j,j<=s0.length->s'[j]?=s[j]?:=fun j hj=>hB j AA fun e=>by have:=(Dm h.g j e).1;omega
 have hn:=h.n;have c5:=h.c5;have qd:∀ j,j≠s0.length->(s'.set s0.length (.row [.str nm,iV 0,.lst 1 [[.str [97]],[.str [98]]],qh] 89 0 0))[j]?=s'[j]?:=fun j hj=>Cc (Ne.symm hj)
 have ks:∀ j∈fp s 2,(s'.set s0.length (.row [.str nm,iV 0,.lst 1 [[.str [97]],[.str [98]]],qh] 89 0 0))[j]?=s[j]?:=fun j hj=>(qd j fun(e:j=s0.length)=>hn (by grind)).trans (kp j hj)
 have qm:fp (s'.set s0.length (.row [.str nm,iV 0,.lst 1 [[.str [97]],[.str [98]]],qh] 89 0 0)) 2=fp s 2:=by
  unfold fp;rw[ks 2 (by grind)]
 have qR:Cl (s'.set s0.length (.row [.str nm,iV 0,.lst 1 [[.str [97]],[.str [98]]],qh] 89 0 0)):=F8 (hc hk.cl) fun j hj=>by
  simp only[Ob.refs,Ag,V.refs,Be,B3]at hj;exact(Dm g j hj).2
 have qJ:∀ j∈u2.refs,j≠s0.length/\j ∉ uB.refs:=fun j hj=>by
  have:=h.u2l j hj;exact⟨by omega,fun e=>by have:=(Dm h.g j e).1;omega⟩
 have ql:TS (s'.set s0.length (.row [.str nm,iV 0,.lst 1 [[.str [97]],[.str [98]]],qh] 89 0 0)) 1:=by
  obtain⟨z,t,l,a,h1,h2⟩:=hk.tape;exact⟨z,t,l,a,by grind,h2⟩
 have qe:=h.pw;refine⟨qh,s',e1,⟨(Jf (Ce g)).1,(Jf (Ce g)).2,Ce g⟩,(qo _ (Ak _)).trans h.r,k2,⟨⟨uH,Ro hk qR (ks 2 (by grind)) ql fun i hi=>ks i (by grind)⟩,by grind,?_,?_,?_,by rw[qm];exact qe.n0,by rw[qm];exact qe.n3,by rw[qm];exact qe.n4,?_,by rw[qm];exact qe.gn⟩,c5,Cm AA,by grind,?_,?_,h.u2l⟩
 .rw[qd 0 AA,qo 0 AA];exact qe.z
 .rw[qd 3 AA,qo 3 AA];exact qe.d
 .rw[qd 4 AA,qo 4 AA];exact qe.p
 .exact Jm qe.g fun i hi=>by rw[qd i (qJ i hi).1,hB i (Dm qe.g i hi).2 (qJ i hi).2]
 .rw[F0];exact Jm g fun i hi=>qd i (by have:=(Dm g i hi).1;omega)
 .intro j hj;rw[qm];rcases hr j hj with h3 | h3
  .exact h.gn j h3
  grind
def Bli{s0 s:St}{nm:List UInt8}{u2 uB:V}{L:List Tp}{B:List Sp}(h:TH s0 s nm u2 L uB B)(hL:L.length<=1000000):
  ∃ s1 u' s2,Qn 4 1 s [.str nm,iV 0,.lst 1 [[.str [97]],[.str [98]]],uB]=some (.lst 1 [[.str nm,iV 0,.lst 1 [[.str [97]],[.str [98]]],SL true 0 (B.map Sp.row)]],s1) /\
   Dv 72 (4,89) u2 (.lst 1 [[.str nm,iV 0,.lst 1 [[.str [97]],[.str [98]]],SL true 0 (B.map Sp.row)]]) s1=some (u',s2)/\(u'.cells=[u']/\[u'].all V.cellB=true/\u'.cellB=true)/\s2[4]?=some (.row [.sl 3 0 0 9 6 true,u2] 29 0 0) /\
   PW (s2.set 4 (.row [.sl 3 0 0 9 6 true,u'] 29 0 0)) u' (L++[⟨nm,0,true,1,[[97],[98]],true,0,B⟩]):=by
 obtain⟨uH,hk⟩:=h.pw.hk;have hl:=A00 h;have c5:=h.c5;have qe:=h.pw;obtain⟨s1,e1,l1,f1,c1⟩:=Ar7 h.g (loc:=.lst 1 [[.str [97]],[.str [98]]]) rfl nm 0;have hx:Tp.row ⟨nm,0,true,1,[[97],[98]],true,0,B⟩=[.str nm,iV 0,.lst 1 [[.str [97]],[.str [98]]],SL true 0 (B.map Sp.row)]:=rfl
 have qJ:∀ j∈u2.refs,j ∉ uB.refs:=fun j hj e=>by
  have:=h.u2l j hj;have:=(Dm h.g j e).1;omega
 have g1:GW s1 4 89 5 u2 (L.map Tp.row):=Jm qe.g fun i hi=>f1 i (qJ i hi)
 obtain⟨u',s2,e2,g2,qk,hB,hr,hc⟩:=O7 (bytes:=72) (y:=.lst 1 [Tp.row ⟨nm,0,true,1,[[97],[98]],true,0,B⟩]) (ys:=[Tp.row ⟨nm,0,true,1,[[97],[98]],true,0,B⟩]) g1 AA rfl AA (Ve L) (by simp;rfl) (fun r hr=>by rw[F5.1 hr,hx];simp only[B5,Dd,Hq];rfl) (by grind);have hf:=H6 hk
 have qS:∀ j∈fp s 2,j<s.length:=fun j hj=>by
  rw[hf]at hj;simp only[Bp]at hj;rcases hj with rfl | rfl | hj
  .omega
  .omega
  .exact C1 hk.h j hj
 have k0:∀ j,j<s.length->j ∉ uB.refs->j ∉ u2.refs->s2[j]?=s[j]?:=fun j hj h1 h2=>by grind
 have kp:∀ j∈fp s 2,s2[j]?=s[j]?:=fun j hj=>k0 j (qS j hj) (fun e=>h.gn j e hj) fun e=>qe.gn j e hj
 have qo:∀ j,j<5->s2[j]?=s[j]?:=fun j hj=>k0 j AA (fun e=>by have:=(Dm h.g j e).1;omega) fun e=>by have:=(Dm qe.g j e).1;omega
 have qd:∀ j,j≠4->(s2.set 4 (.row [.sl 3 0 0 9 6 true,u'] 29 0 0))[j]?=s2[j]?:=fun j hj=>Cc (Ne.symm hj)
 have ks:∀ j∈fp s 2,(s2.set 4 (.row [.sl 3 0 0 9 6 true,u'] 29 0 0))[j]?=s[j]?:=fun j hj=>(qd j fun(e:j=4)=>qe.n4 (by grind)).trans (kp j hj)
 have qm:fp (s2.set 4 (.row [.sl 3 0 0 9 6 true,u'] 29 0 0)) 2=fp s 2:=by
  unfold fp;rw[ks 2 (by grind)]
 have h5:5<=s2.length:=by have:=qe.l5;omega
 have qR:Cl (s2.set 4 (.row [.sl 3 0 0 9 6 true,u'] 29 0 0)):=F8 (hc (c1 hk.cl)) fun j hj=>by
  simp only[Ob.refs,Ag,V.refs,B3,Ct,F5]at hj;rcases hj with rfl | hj
  .omega
  .exact(Dm g2 j hj).2
 have ql:TS (s2.set 4 (.row [.sl 3 0 0 9 6 true,u'] 29 0 0)) 1:=by
  obtain⟨z,t,l,a,h1,h2⟩:=hk.tape;exact⟨z,t,l,a,by grind,h2⟩
 refine⟨s1,u',s2,e1,by grind,⟨(Jf (Ce g2)).1,(Jf (Ce g2)).2,Ce g2⟩,(qo 4 AA).trans qe.p,⟨⟨uH,Ro hk qR (ks 2 (by grind)) ql fun i hi=>ks i (by grind)⟩,by grind,?_,?_,Cm AA,by rw[qm];exact qe.n0,by rw[qm];exact qe.n3,by rw[qm];exact qe.n4,?_,?_⟩⟩
 .rw[qd 0 AA,qo 0 AA];exact qe.z
 .rw[qd 3 AA,qo 3 AA];exact qe.d
 .rw[F0];exact Jm g2 fun i hi=>qd i (by have:=(Dm g2 i hi).1;omega)
 .intro j hj;rw[qm];rcases hr j hj with h3 | h3
  .exact qe.gn j h3
  grind
structure OKp (p:Gp):Prop where
 sh:ShG p
 len:(Fd p).length<=10000000000
 siz:∀ t∈p.thrs,Sp.szs t.body<=1000000
 blk:C5 p.row<=1000000
 ln:LnG p
 few:p.thrs.length<=5
 nd:(p.thrs.map fun t=>t.nm).Nodup
 sx:∀ t∈p.thrs,Sp.szs t.body<=60/\∀ x∈Sp.hdss t.body,x.length<=302
def nml:List (List UInt8):=[[109,97,105,110],[116,49],[116,50],[116,51]]
def Ba1{L:List Tp}{i:Nat}{nm:List UInt8}{t:Tp}(h:(L.map fun t=>t.nm)=nml.take i)(hn:([[V.str [109,97,105,110]],[V.str [116,49]],[V.str [116,50]],[V.str [116,51]]]:List (List V))[i]?=some [V.str nm])(ht:t.nm=nm):((L++[t]).map fun t=>t.nm)=nml.take (i+1):=by
 have hn:(nml.map fun x=>[V.str x])[i]?=some [V.str nm]:=hn;rw[As]at hn
 cases hi:nml[i]? with
 | none=>rw[hi]at hn;cases hn
 | some x=>
  rw[hi]at hn;simp at hn;rw[F0,h,Ic,hi,hn,<-ht];rfl
def Blj{L:List Tp}{i:Nat}(h:(L.map fun t=>t.nm)=nml.take i):(L.map fun t=>t.nm).Nodup:=h ▸ List.Pairwise.sublist (List.take_sublist i nml) AG
def So(t:Tp):Prop:=Mx t.nm/\t.locals=[[97],[98]]/\(∀ s∈t.body,SM 2 s)/\t.body.length<=7
def Blk{t:Tp}(h:So t):MT t:=by
 obtain⟨h1,h2,h3,h4⟩:=h;refine⟨h1,⟨?_,?_⟩,2,by omega,fun s hs=>(h3 s hs).1.1,by omega⟩
 .rw[h2];exact Bf2 AD
 .rw[h2];simp
def Axr:∀ {l:List Sp},(∀ s∈l,SM 2 s)->Cz (l.map Sp.row)<=l.length*2100
 | [],_=>by simp[Cz]
 | x::l,h=>by
  have h1:=(h x AE).2;have h2:=Axr (l:=l) fun s hs=>h s (by simp[hs])
  have:BK 2=2100:=rfl;rw[Az,Cz,Ao,Gy];omega
def Au2:∀ {L:List Tp},(∀ t∈L,So t)->Cz (L.map Tp.row)<=L.length*30000
 | [],_=>by simp[Cz]
 | x::l,h=>by
  obtain⟨h1,h2,h3,h4⟩:=h x AE;have h5:=Au2 (L:=l) fun s hs=>h s (by simp[hs])
  have h6:=Axr h3;have h7:=h1.2;have h8:Cz (x.locals.map fun s=>[V.str s])=4:=by rw[h2];rfl
  have h9:x.body.length*2100<=7*2100:=E1 _ h4;rw[Az,Cz,Ao,Gy,Aca];omega
def Axs:∀ {L:List Tp},(∀ t∈L,So t)->Oh L<=L.length*1000
 | [],_=>by simp[Oh]
 | x::l,h=>by
  obtain⟨h1,h2,h3,h4⟩:=h x AE;have h5:=Axs (L:=l) fun s hs=>h s (by simp[hs])
  have h6:=Abu (k:=2) (l:=x.body) fun s hs=>(h3 s hs).1.1
  have z2:ZB 2=21:=rfl;have h9:x.body.length*ZB 2<=7*ZB 2:=E1 _ h4;have:Oh (x::l)=Sp.szs x.body+Oh l:=by simp[Oh]
  rw[this,Ao,Gy];omega
def Axt{z1 z2:Bool}{t1 t2:Nat}{L:List Tp}(hL:∀ t∈L,So t)(h5:L.length<=5)(h0:L≠[])(jN:(L.map fun t=>t.nm).Nodup):OKp ⟨z1,t1,declsL,z2,t2,L⟩/\Oh L<=1000000:=by
 obtain⟨a,b,c⟩:=Bqk (D:=declsL) (L:=L) ⟨A6y.1,by decide⟩ (fun t ht=>Blk (hL t ht)) h5 h0;have h1:=Au2 hL;have h2:=Axs hL;have h3:L.length*30000<=5*30000:=E1 _ h5;have h4:L.length*1000<=5*1000:=E1 _ h5;have hd:Cz (declsL.map Dp.row)<=1000:=by decide +kernel
 refine⟨⟨⟨a.decls,a.nms,a.locs,a.thrs,a.some⟩,b,c,?_,⟨by simp only;decide,by simp only;omega,fun t ht=>?_⟩,h5,jN,fun t ht=>?_⟩,by omega⟩
 .rw[Anx];simp only;omega
 .rw[(hL t ht).2.1];simp
 .obtain⟨-,-,h6,h7⟩:=hL t ht;obtain⟨h8,h9⟩:=Agx fun s hs=>(h6 s hs).1.2
  have ka:=E1 (YB 2) h7;have jA:YB 2=7:=rfl;exact⟨by omega,h9⟩
def Bll:MX 1 (Gc 1):=by
 refine⟨.num AA,?_,?_⟩
 .have:(Gc 1).txt.length=1:=by unfold Gc;rw[Ek];rfl
  have e1:EB 1=54:=rfl;omega
 .unfold Gc;rw[G9];have x1:Pv 1=36:=rfl;simp[Cz];omega
def A01{f p:Nat}{res:List AR}{body:AC}{vs:List V}{R:Gp->Prop}(hT:TT f=some ⟨p,res,false,body,none⟩)(hl:vs.length=p)
  (h:W TT PT [.c body] (C6 0 vs) [] (Hd fun e' σ1=>∃ u1 u2 z1 t1 z2 t2 D L,Cd e' σ1 res=some (.agg [u1,u2])/\(OC σ1 u1 (SL z1 t1 (D.map Dp.row))/\u1.cellB=true)/\(OC σ1 u2 (SL z2 t2 (L.map Tp.row))/\u2.cellB=true)/\R ⟨z1,t1,D,z2,t2,L⟩)):∃ p:Gp,Fn TT PT f vs (.agg p.row)/\R p:=by
 obtain⟨e',σ1,hE,u1,u2,z1,t1,z2,t2,D,L,hr,⟨h1,c1⟩,⟨h2,c2⟩,hR⟩:=h;refine⟨⟨z1,t1,D,z2,t2,L⟩,?_,hR⟩;have jQ:OV σ1 (.agg [u1,u2]) (.agg [SL z1 t1 (D.map Dp.row),SL z2 t2 (L.map Tp.row)]):=Tl (.cons h1 (.cons h2 .nil));have qE:Dc (.agg [SL z1 t1 (D.map Dp.row),SL z2 t2 (L.map Tp.row)])=true:=by simp only[Dc,B5,Dd,Vt];rfl
 refine Ari hT rfl rfl hl ⟨e',σ1,hE,.agg [u1,u2],Ag [u1,u2],hr,?_,jQ _ (fun i hi=>hi),?_,?_⟩
 .show([u1,u2].all V.cellB)=true;simp only[B5,Dd,c1,c2];rfl
 .exact Xc qE
 .exact Zw qE
def Azs{s:St}(h:s[3]?=some (.row (declsL.map Dp.row).flatten 85 0 0)):OC s (.sl 3 0 0 9 6 true) (SL true 0 (declsL.map Dp.row))/\(V.sl 3 0 0 9 6 true).cellB=true:=
 ⟨Rt (xs:=declsL.map Dp.row) h AA (Aej declsL) (Aj3 declsL),rfl⟩
set_option maxRecDepth 20000 in
set_option maxHeartbeats 16000000 in
def Au3(z:Bool)(t:Nat)(l:List UInt8)(hl:l.length<=9223372036854775807):∃ p:Gp,Fn TT PT 13 [SL z t (B6 l)] (.agg p.row)/\OKp p:=by
 refine A01 T13 rfl ?_;refine Is (fun e s=>e=[(0,SL z t (B6 l)),(2,.ptr 0 0 0)]/\s=[.row [.nils,.nils] 29 0 0]) ?_ ?_
 .intro k' qg;simp only[go_sem];exact qg _ _ ⟨rfl,rfl⟩
 rintro _ _ ⟨rfl,rfl⟩;refine Is (fun e s=>e=[(2,.ptr 0 0 0),(3,.ptr 2 0 0)]/\s=[.row [.nils,.nils] 29 0 0,.row [SL z t (B6 l),iV 0] 94 0 0,mO 1 0 20 false false false false .nils]) ?_ ?_
 .intro k' qg;have hb:V.cellB (SL z t (B6 l))=true:=P7 (Vt _ _ _);simp only[go_sem,hb];exact qg _ _ ⟨rfl,rfl⟩
 rintro _ _ ⟨rfl,rfl⟩;refine Is (fun e s=>e=[(2,.ptr 0 0 0),(3,.ptr 2 0 0),(4,.ptr 4 0 0)]/\PW s .nils []) ?_ ?_
 .intro k' qg;simp only[go_sem];refine Ig (Aqt _) ?_;simp only[go_sem]
  have jv:MKr [.row [.nils,.nils] 29 0 0,.row [SL z t (B6 l),iV 0] 94 0 0,mO 1 0 20 false false false false .nils,.row (declsL.map Dp.row).flatten 85 0 0,.row [.sl 3 0 0 9 6 true,.nils] 29 0 0] 2 1 .nils []:=by
   refine⟨⟨0,20,false,false,false,false,rfl⟩,⟨z,t,l,0,rfl,Ax _,hl⟩,by decide,Abn,by simp[V.refs],?_⟩;intro ob hm j hj;simp only[Bp,La,or_false]at hm;rcases hm with rfl | rfl | rfl | rfl | rfl
   .simp[Ob.refs,Ag,V.refs]at hj
   .simp[Ob.refs,Ag,V.refs,O0]at hj
   .simp[Ob.refs,Ag,V.refs]at hj;subst hj;simp
   .simp only[Ob.refs,Ai9]at hj;cases hj
   .simp[Ob.refs,Ag,V.refs]at hj;subst hj;simp
  have hf:=H6 jv;exact qg _ _ ⟨rfl,⟨_,jv⟩,by simp,rfl,rfl,rfl,by rw[hf];simp[V.refs],by rw[hf];simp[V.refs],by rw[hf];simp[V.refs],Ds,by simp[V.refs]⟩
 rintro _ s ⟨rfl,pw⟩;refine Is (fun e s=>∃ n:Nat,(2<=n/\n<=4)/\e=[(2,.ptr 0 0 0),(3,.ptr 2 0 0),(4,.ptr 4 0 0),(5,iV (n:Int))]/\PW s .nils []) ?_ ?_
 .intro k' qg;obtain⟨_,_,_,_,_,_,_,m1,-⟩:=Aby pw;obtain⟨uH,hk⟩:=pw.hk;obtain⟨r,s2,q2,h2,w2,l2,r2,m2⟩:=Rf hk 3 3 rfl AA;have en:IntKind.i64.wrap (2+(r:Int))=((2+r:Nat):Int):=by rw[Cs AA];omega
  simp only[go_sem,m1];refine Aa q2 ?_;simp only[go_sem,en];exact qg _ _ ⟨2+r,by omega,rfl,Aho pw h2 w2⟩
 clear pw s;rintro _ s ⟨n,hn,rfl,pw⟩;refine Is (fun e s=>e=[(2,.ptr 0 0 0),(3,.ptr 2 0 0),(4,.ptr 4 0 0),(5,iV (n:Int)),(6,.lst 1 [[.str [109,97,105,110]],[.str [116,49]],[.str [116,50]],[.str [116,51]]])]/\PW s .nils []) ?_ ?_
 .intro k' qg;simp only[go_sem];exact qg _ _ ⟨rfl,pw⟩
 clear pw s;rintro _ s ⟨rfl,pw⟩;refine Is (fun e s=>(∃ i:Nat,e=[(2,.ptr 0 0 0),(3,.ptr 2 0 0),(4,.ptr 4 0 0),(5,iV (n:Int)),(6,.lst 1 [[.str [109,97,105,110]],[.str [116,49]],[.str [116,50]],[.str [116,51]]]),(7,iV (i:Int))])/\∃ u2 L,PW s u2 L/\(∀ t∈L,So t)/\L.length<=5/\L≠[]/\(L.map fun t=>t.nm).Nodup) ?_ ?_
 .intro k' qg;simp only[go_sem];refine Bk (α:=Nat × St × V × List Tp) (fun a=>n - a.1) (fun a=>[(2,.ptr 0 0 0),(3,.ptr 2 0 0),(4,.ptr 4 0 0),(5,iV (n:Int)),(6,.lst 1 [[.str [109,97,105,110]],[.str [116,49]],[.str [116,50]],[.str [116,51]]]),(7,iV (a.1:Int))]) (fun a=>a.2.1) (fun a=>a.1<=n/\PW a.2.1 a.2.2.1 a.2.2.2/\(∀ t∈a.2.2.2,So t)/\a.2.2.2.length=a.1/\(a.2.2.2.map fun t=>t.nm)=nml.take a.1) ?_ (0,s,.nils,[]) ⟨Ax _,pw,(fun d hd=>by cases hd),rfl,rfl⟩;clear pw s;rintro⟨i,s,u2,L⟩ ⟨hi,pw,hL,qw,qz⟩ ih;simp only at hi pw hL qw qz ih;refine Bd Boe ?_;rcases Bh i n with h' | h';rotate_left
  .simp only[go_sem,Bl h'];exact qg _ _ ⟨⟨i,rfl⟩,u2,L,pw,hL,by omega,(fun e=>by rw[e]at qw;simp at qw;omega),Blj qz⟩
  obtain⟨nm,qY,qX⟩:=Aao [[109,97,105,110],[116,49],[116,50],[116,51]] AD (j:=i) AQ;simp only[Az,Bz]at qY;refine Is (fun e s'=>e=[(2,.ptr 0 0 0),(3,.ptr 2 0 0),(4,.ptr 4 0 0),(5,iV (n:Int)),(6,.lst 1 [[.str [109,97,105,110]],[.str [116,49]],[.str [116,50]],[.str [116,51]]]),(7,iV (i:Int))]/\s'=s) ?_ ?_
  .intro k' qg;simp only[go_sem,Ay h'];exact qg _ _ ⟨rfl,rfl⟩
  rintro _ s' ⟨rfl,e0⟩;rw[e0];clear e0 s';refine Is (fun e s'=>(e=[(2,.ptr 0 0 0),(3,.ptr 2 0 0),(4,.ptr 4 0 0),(5,iV (n:Int)),(6,.lst 1 [[.str [109,97,105,110]],[.str [116,49]],[.str [116,50]],[.str [116,51]]]),(7,iV (i:Int))]\/∃ v,e=[(2,.ptr 0 0 0),(3,.ptr 2 0 0),(4,.ptr 4 0 0),(5,iV (n:Int)),(6,.lst 1 [[.str [109,97,105,110]],[.str [116,49]],[.str [116,50]],[.str [116,51]]]),(7,iV (i:Int)),(9,v)])/\∃ u' t,PW s' u' (L++[t])/\So t/\t.nm=nm) ?_ ?_;rotate_left
  .clear pw qX;rintro e s ⟨he,u',t,pw,ht,jX⟩;have hN:=Ba1 qz qY jX;have jC:∀ x∈L++[t],So x:=fun x hx=>(Ct.1 hx).elim (hL x) fun hx=>by rw[F5.1 hx];exact ht
   rcases he with rfl | ⟨v,rfl⟩
   all_goals
    simp only[go_sem,A1 (show i<9223372036854775807 by omega)];exact Aq (ih (i+1,s,u',L++[t]) AP ⟨h',pw,jC,by rw[Ar,Q4,qw],hN⟩) rfl
  clear ih qg k';intro k' qg;rw[Az8];refine Is (fun e s'=>e=[(2,.ptr 0 0 0),(3,.ptr 2 0 0),(4,.ptr 4 0 0),(5,iV (n:Int)),(6,.lst 1 [[.str [109,97,105,110]],[.str [116,49]],[.str [116,50]],[.str [116,51]]]),(7,iV (i:Int))]/\PW s' u2 L) ?_ ?_
  .intro k2 qc;obtain⟨_,_,_,_,_,_,_,m1,ho⟩:=Aby pw;simp only[go_sem,m1];exact qc _ _ ⟨rfl,ho _ _ _ _ _ _⟩
  clear pw s;rintro _ s0 ⟨rfl,pw⟩;refine Is (fun e s'=>e=[(2,.ptr 0 0 0),(3,.ptr 2 0 0),(4,.ptr 4 0 0),(5,iV (n:Int)),(6,.lst 1 [[.str [109,97,105,110]],[.str [116,49]],[.str [116,50]],[.str [116,51]]]),(7,iV (i:Int)),(8,.ptr s0.length 0 0)]/\TH s0 s' nm u2 L .nils []) ?_ ?_
  .intro k2 qc;simp only[go_sem,qY];exact qc _ _ ⟨rfl,Blh pw nm⟩
  clear pw;rintro _ s ⟨rfl,th⟩;refine Is (fun e s'=>(e=[(2,.ptr 0 0 0),(3,.ptr 2 0 0),(4,.ptr 4 0 0),(5,iV (n:Int)),(6,.lst 1 [[.str [109,97,105,110]],[.str [116,49]],[.str [116,50]],[.str [116,51]]]),(7,iV (i:Int)),(8,.ptr s0.length 0 0)]\/∃ v,e=[(2,.ptr 0 0 0),(3,.ptr 2 0 0),(4,.ptr 4 0 0),(5,iV (n:Int)),(6,.lst 1 [[.str [109,97,105,110]],[.str [116,49]],[.str [116,50]],[.str [116,51]]]),(7,iV (i:Int)),(8,.ptr s0.length 0 0),(9,v)])/\∃ uB B,TH s0 s' nm u2 L uB B/\(∀ x∈B,SM 2 x)/\B.length<=3) ?_ ?_
  .intro k2 qc;by_cases qT:i=0;rotate_left
   .have f1:((i:Int)==0)=false:=by simp;omega
    simp only[go_sem,f1];exact qc _ _ ⟨.inl rfl,_,_,th,(fun x hx=>by cases hx),by simp⟩
   .have f1:((i:Int)==0)=true:=by simp[qT]
    simp only[go_sem,f1];refine Bk (α:=Nat × St × V × List Sp) (fun a=>n - a.1) (fun a=>[(2,.ptr 0 0 0),(3,.ptr 2 0 0),(4,.ptr 4 0 0),(5,iV (n:Int)),(6,.lst 1 [[.str [109,97,105,110]],[.str [116,49]],[.str [116,50]],[.str [116,51]]]),(7,iV (i:Int)),(8,.ptr s0.length 0 0),(9,iV (a.1:Int))]) (fun a=>a.2.1) (fun a=>(1<=a.1/\a.1<=n)/\TH s0 a.2.1 nm u2 L a.2.2.1 a.2.2.2/\(∀ x∈a.2.2.2,SM 2 x)/\a.2.2.2.length+1=a.1) ?_ (1,s,.nils,[]) ⟨by simp only;omega,th,(fun d hd=>by cases hd),rfl⟩;clear th s;rintro⟨j,s,uB,B⟩ ⟨hj,th,hB,qp⟩ ih;simp only at hj th hB qp ih;refine Bd Bod ?_;rcases Bh j n with h3 | h3;rotate_left
    .simp only[go_sem,Bl h3];exact qc _ _ ⟨.inr ⟨_,rfl⟩,uB,B,th,hB,by omega⟩
    obtain⟨nj,js,qW⟩:=Aao [[109,97,105,110],[116,49],[116,50],[116,51]] AD (j:=j) AQ;simp only[Az,Bz]at js;obtain⟨u',s',ha,⟨c1,c2,c3⟩,r',-,th'⟩:=Am4 th (y:=.lst 1 [(Mz 12 nj).row]) (C:=[Mz 12 nj]) rfl AQ;rw[Yd]at ha;have r1:=th.r;simp only[go_sem,Ay h3];refine Af AD ?_;simp only[go_sem,r1,js];refine Bc ?_;simp only[go_sem,ha];refine Bc ?_;simp only[go_sem,r',c1,c2,c3];refine Bc ?_;simp only[go_sem,A1 (show j<9223372036854775807 by omega)];refine Aq (ih (j+1,_,u',B++[Mz 12 nj]) AP ⟨by simp only;omega,th',fun x hx=>?_,by rw[Ar,Q4,qp]⟩) rfl;rcases Ct.1 hx with hx | hx
    .exact hB x hx
    .rw[F5.1 hx];exact Ace AA qW
  clear th s;rintro e s ⟨he,uB,B,th,hB,qp⟩;refine Is (fun e s'=>(e=[(2,.ptr 0 0 0),(3,.ptr 2 0 0),(4,.ptr 4 0 0),(5,iV (n:Int)),(6,.lst 1 [[.str [109,97,105,110]],[.str [116,49]],[.str [116,50]],[.str [116,51]]]),(7,iV (i:Int)),(8,.ptr s0.length 0 0)]\/∃ v,e=[(2,.ptr 0 0 0),(3,.ptr 2 0 0),(4,.ptr 4 0 0),(5,iV (n:Int)),(6,.lst 1 [[.str [109,97,105,110]],[.str [116,49]],[.str [116,50]],[.str [116,51]]]),(7,iV (i:Int)),(8,.ptr s0.length 0 0),(9,v)])/\∃ uB B,TH s0 s' nm u2 L uB B/\(∀ x∈B,SM 2 x)/\B.length<=6) ?_ ?_
  .intro k2 qc;obtain⟨_,_,_,_,_,_,_,m1,-⟩:=Aby th.pw;obtain⟨uH,hk⟩:=th.pw.hk;obtain⟨r,s2,q2,h2,w2,l2,rb,jx⟩:=Rf hk 3 3 rfl AA;have qv:=An7 th h2 w2;have er:IntKind.i64.wrap (1+(r:Int))=((1+r:Nat):Int):=by rw[Cs AA];omega
   obtain⟨u,s3,q3,L3,kg,hO,jl,jE,h3,w3⟩:=(Ar6 2 AA 2 AA).2 s2 2 1 uH [] h2 AE (1+r) AA;have jk:=An7 qv h3 w3;obtain⟨u',s',ha,⟨c1,c2,c3⟩,r',jw,th'⟩:=Am4 jk (C:=L3) (Blg hO.1) AA;have m2:=jx.trans m1;obtain⟨_,_,_,_,_,_,_,m3,-⟩:=Aby jk.pw;have m4:=jw.trans m3;have r1:=th.r;have r2:=qv.r;have r3:=jk.r;have q3:Bx TT PT 41 [.ptr 2 0 0,iV 2,iV ((1+r:Nat):Int)] s2 u s3:=q3;rcases he with rfl | ⟨v,rfl⟩
   all_goals
    refine Af AD ?_;simp only[go_sem,r1,m1];refine Ia q2 ?_;simp only[go_sem,er];refine Ia q3 ?_;simp only[go_sem,ha];refine Bc ?_;simp only[go_sem,r',c1,c2,c3];refine Bc ?_;simp only[go_sem]
   .exact qc _ _ ⟨.inl rfl,_,_,th',fun x hx=>(Ct.1 hx).elim (hB x) (jl x),by rw[Ar];omega⟩
   .exact qc _ _ ⟨.inr ⟨_,rfl⟩,_,_,th',fun x hx=>(Ct.1 hx).elim (hB x) (jl x),by rw[Ar];omega⟩
  clear th hB qp he uB B s e;rintro e s ⟨he,uB,B,th,hB,qp⟩;refine Is (fun e s'=>(e=[(2,.ptr 0 0 0),(3,.ptr 2 0 0),(4,.ptr 4 0 0),(5,iV (n:Int)),(6,.lst 1 [[.str [109,97,105,110]],[.str [116,49]],[.str [116,50]],[.str [116,51]]]),(7,iV (i:Int)),(8,.ptr s0.length 0 0)]\/∃ v,e=[(2,.ptr 0 0 0),(3,.ptr 2 0 0),(4,.ptr 4 0 0),(5,iV (n:Int)),(6,.lst 1 [[.str [109,97,105,110]],[.str [116,49]],[.str [116,50]],[.str [116,51]]]),(7,iV (i:Int)),(8,.ptr s0.length 0 0),(9,v)])/\∃ uB B,TH s0 s' nm u2 L uB B/\(∀ x∈B,SM 2 x)/\B.length<=7) ?_ ?_
  .intro k2 qc;by_cases qT:i=0;rotate_left
   .have f1:((i:Int)==0)=false:=by simp;omega
    rcases he with rfl | ⟨v,rfl⟩
    all_goals simp only[go_sem,f1]
    .exact qc _ _ ⟨.inl rfl,_,_,th,hB,by omega⟩
    .exact qc _ _ ⟨.inr ⟨_,rfl⟩,_,_,th,hB,by omega⟩
   have f1:((i:Int)==0)=true:=by simp[qT]
   obtain⟨_,_,_,_,_,_,_,m1,-⟩:=Aby th.pw;obtain⟨uH,hk⟩:=th.pw.hk;obtain⟨r,s2,q2,h2,w2,l2,rb,jx⟩:=Rf hk 3 3 rfl AA;have qv:=An7 th h2 w2;by_cases jT:r=2
   .subst jT;obtain⟨u',s',ha,⟨c1,c2,c3⟩,r',jw,th'⟩:=Am4 qv (y:=.lst 1 [(Mz 13 [116,49]).row]) (C:=[Mz 13 [116,49]]) rfl AQ;rw[Yd]at ha;have r2:=qv.r;rcases he with rfl | ⟨v,rfl⟩
    all_goals
     simp only[go_sem,f1,m1];refine Aa q2 ?_;simp only[go_sem,C4,Int.reduceBEq];refine Af AD ?_;simp only[go_sem,r2];refine Bc ?_;simp only[go_sem,ha];refine Bc ?_;simp only[go_sem,r',c1,c2,c3];refine Bc ?_;simp only[go_sem]
    .exact qc _ _ ⟨.inl rfl,_,_,th',fun x hx=>(Ct.1 hx).elim (hB x) fun hx=>by rw[F5.1 hx];exact Ace AA (Hy AD),by rw[Ar,Q4];omega⟩
    .exact qc _ _ ⟨.inr ⟨_,rfl⟩,_,_,th',fun x hx=>(Ct.1 hx).elim (hB x) fun hx=>by rw[F5.1 hx];exact Ace AA (Hy AD),by rw[Ar,Q4];omega⟩
   .have fr:((r:Int)==2)=false:=by simp;omega
    rcases he with rfl | ⟨v,rfl⟩
    all_goals
     simp only[go_sem,f1,m1];refine Aa q2 ?_;simp only[go_sem,fr]
    .exact qc _ _ ⟨.inl rfl,_,_,qv,hB,by omega⟩
    .exact qc _ _ ⟨.inr ⟨_,rfl⟩,_,_,qv,hB,by omega⟩
  clear th hB qp he uB B s e;rintro e s ⟨he,uB,B,th,hB,qp⟩;obtain⟨s1,u',s2,e1,e2,⟨c1,c2,c3⟩,p2,jy⟩:=Bli th AA;have r1:=th.r;have p1:=th.pw.p;have jY:V.cellB uB=true:=Ce th.g;rcases he with rfl | ⟨v,rfl⟩
  all_goals
   simp only[go_sem,r1,p1,jY,e1,e2,p2,c1,c2,c3]
  .exact qg _ _ ⟨.inl rfl,u',_,jy,⟨qX,rfl,hB,by simp only;omega⟩,rfl⟩
  .exact qg _ _ ⟨.inr ⟨_,rfl⟩,u',_,jy,⟨qX,rfl,hB,by simp only;omega⟩,rfl⟩
 clear pw s;rintro _ s ⟨⟨i,rfl⟩,u2,L,pw,hL,qw,jD,qz⟩;obtain⟨qZ,jW⟩:=Axt (z1:=true) (t1:=0) (z2:=true) (t2:=0) hL qw jD qz;obtain⟨o1,c1⟩:=Azs pw.d;have o2:=Mm pw.g AA (Ve L) (Aek L);have c2:=Ce pw.g;obtain⟨_,q4,e4,l4,rfl⟩:=A97 (C9 qZ.blk AA) qZ.ln jW;have p1:=pw.p;have z1:=pw.z;have jg:Gp.row ⟨true,0,declsL,true,0,L⟩=[SL true 0 (declsL.map Dp.row),SL true 0 (L.map Tp.row)]:=rfl;rw[jg]at q4;simp only[go_sem,p1];refine A0b (.cons (Tl (.cons o1 (.cons o2 .nil))) .nil) q4 AK ?_;by_cases h0:e4=0
 .have f1:(e4==0)=true:=by simp[h0]
  simp only[go_sem,bne,f1,A0,p1,z1,c1,c2];have z5:(s.set 0 (.row [.sl 3 0 0 9 6 true,u2] 29 0 0))[0]?=some (.row [.sl 3 0 0 9 6 true,u2] 29 0 0):=Cm (by have:=pw.l5;omega);refine⟨_,_,true,0,true,0,declsL,L,Wl z5 rfl rfl,Azs (by rw[Cc AA];exact pw.d),⟨?_,c2⟩,qZ⟩;exact Mm (Jm pw.g fun j hj=>Cc fun e=>by have:=(Dm pw.g j hj).1;omega) AA (Ve L) (Aek L)
 .have f1:(e4==0)=false:=by simp[h0]
  have jz:=W8 [120] (Gc 1);simp only[Gc,SL,Bz,and_self,true_and,if_true]at jz;have kc:=pw.l5;simp only[go_sem,bne,f1,A2];refine Ig (Aqt _) ?_;simp only[go_sem];refine Ab (Ah4 _) AK ?_;simp only[go_sem];refine Ab jz AK ?_;have z6:=Bs (l:=([.row (declsL.map Dp.row).flatten 85 0 0]:St)) z1;simp only[go_sem,z6];have z5:((s++([.row (declsL.map Dp.row).flatten 85 0 0]:St)).set 0 (.row [.sl s.length 0 0 9 6 true,.lst 1 [[.str [109,97,105,110],iV 0,.lst 1 [[.str [97]],[.str [98]]],.lst 1 [[iV 1,iV 0,.str [120],.str [],.nils,iV 1,iV 1,.str [],.nils,.nils,.nils]]]]] 29 0 0))[0]?=some (.row [.sl s.length 0 0 9 6 true,.lst 1 [[.str [109,97,105,110],iV 0,.lst 1 [[.str [97]],[.str [98]]],.lst 1 [[iV 1,iV 0,.str [120],.str [],.nils,iV 1,iV 1,.str [],.nils,.nils,.nils]]]]] 29 0 0):=Cm AE;have hM:So ⟨[109,97,105,110],0,true,1,[[97],[98]],true,1,[My [120] (Gc 1)]⟩:=⟨Hy AD,rfl,fun s hs=>by rw[F5.1 hs];exact An4 (Hy AD) Bll,by simp⟩;obtain⟨ja,-⟩:=Axt (z1:=true) (t1:=0) (z2:=true) (t2:=1) (L:=[⟨[109,97,105,110],0,true,1,[[97],[98]],true,1,[My [120] (Gc 1)]⟩]) (fun t ht=>by rw[F5.1 ht];exact hM) AE AE AE;refine⟨.sl s.length 0 0 9 6 true,.lst 1 [[.str [109,97,105,110],iV 0,.lst 1 [[.str [97]],[.str [98]]],.lst 1 [[iV 1,iV 0,.str [120],.str [],.nils,iV 1,iV 1,.str [],.nils,.nils,.nils]]]],true,0,true,1,declsL,[⟨[109,97,105,110],0,true,1,[[97],[98]],true,1,[My [120] (Gc 1)]⟩],Wl z5 rfl rfl,⟨?_,rfl⟩,⟨?_,rfl⟩,ja⟩
  .have h3:(s++([.row (declsL.map Dp.row).flatten 85 0 0]:St))[s.length]?=some (.row (declsL.map Dp.row).flatten 85 0 0):=by simp
   exact Rt (xs:=declsL.map Dp.row) (by rw[Cc AA];exact h3) AA (Aej declsL) (Aj3 declsL)
  .have hr:SL true 1 ([(⟨[109,97,105,110],0,true,1,[[97],[98]],true,1,[My [120] (Gc 1)]⟩:Tp)].map Tp.row)=.lst 1 [[.str [109,97,105,110],iV 0,.lst 1 [[.str [97]],[.str [98]]],.lst 1 [[iV 1,iV 0,.str [120],.str [],.nils,iV 1,iV 1,.str [],.nils,.nils,.nils]]]]:=by
    simp only[Az,Bz,Tp.row,Agy];rfl
   rw[hr];exact Fj rfl
