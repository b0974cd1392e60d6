/- Walks: the parser's statements and blocks. -/
import Derived.Test.YthlbbjcbmojocacGreatDoorLq
set_option linter.all false
namespace Go.Proofs.YthlbbjcbmojocacGreatDoor.KM
open Go
def Rv(w:Int):Nat:=if w=2 then 203 else if w=3 then 204 else if w<=6 then 205 else if w<=8 then 206 else if w<=13 then 207 else if w=14 then 208 else 209
def A8f(w:List UInt8)(s:St):Bv TT PT 179 [.str w] s (.tup [iV (Ek w),if Ek w=0 then .nilf else .fn (Rv (Ek w)) [] []]) s:=by
 suffices h:∃ v s',Bv TT PT 179 [.str w] s v s'/\(v=.tup [iV (Ek w),if Ek w=0 then .nilf else .fn (Rv (Ek w)) [] []]/\s'=s) by
  obtain⟨v,s',h1,rfl,rfl⟩:=h;exact h1
 refine At6 T179 rfl ?_;by_cases a1:w=[105,102]
 .subst a1;have e1:(([105,102]:List UInt8)==[105,102])=true:=by decide
  simp only[go_sem,e1];exact⟨_,rfl,⟨rfl,rfl⟩,fun i ob _ h=>.inl h,rfl,Dc⟩
 have e1:(w==[105,102])=false:=by simp[a1]
 by_cases a2:w=[119,104,105,108,101]
 .subst a2;have e2:(([119,104,105,108,101]:List UInt8)==[119,104,105,108,101])=true:=by decide
  simp only[go_sem,e1,e2];exact⟨_,rfl,⟨rfl,rfl⟩,fun i ob _ h=>.inl h,rfl,Dc⟩
 have e2:(w==[119,104,105,108,101])=false:=by simp[a2]
 by_cases a3:w=[108,111,99,107]
 .subst a3;have e3:(([108,111,99,107]:List UInt8)==[108,111,99,107])=true:=by decide
  simp only[go_sem,e1,e2,e3];exact⟨_,rfl,⟨rfl,rfl⟩,fun i ob _ h=>.inl h,rfl,Dc⟩
 have e3:(w==[108,111,99,107])=false:=by simp[a3]
 by_cases a4:w=[114,101,97,100]
 .subst a4;have e4:(([114,101,97,100]:List UInt8)==[114,101,97,100])=true:=by decide
  simp only[go_sem,e1,e2,e3,e4];exact⟨_,rfl,⟨rfl,rfl⟩,fun i ob _ h=>.inl h,rfl,Dc⟩
 have e4:(w==[114,101,97,100])=false:=by simp[a4]
 by_cases a5:w=[119,114,105,116,101]
 .subst a5;have e5:(([119,114,105,116,101]:List UInt8)==[119,114,105,116,101])=true:=by decide
  simp only[go_sem,e1,e2,e3,e4,e5];exact⟨_,rfl,⟨rfl,rfl⟩,fun i ob _ h=>.inl h,rfl,Dc⟩
 have e5:(w==[119,114,105,116,101])=false:=by simp[a5]
 by_cases a6:w=[116,114,97,110,115,97,99,116,105,111,110]
 .subst a6;have e6:(([116,114,97,110,115,97,99,116,105,111,110]:List UInt8)==[116,114,97,110,115,97,99,116,105,111,110])=true:=by decide
  simp only[go_sem,e1,e2,e3,e4,e5,e6];exact⟨_,rfl,⟨rfl,rfl⟩,fun i ob _ h=>.inl h,rfl,Dc⟩
 have e6:(w==[116,114,97,110,115,97,99,116,105,111,110])=false:=by simp[a6]
 by_cases a7:w=[97,116,111,109,105,99]
 .subst a7;have e7:(([97,116,111,109,105,99]:List UInt8)==[97,116,111,109,105,99])=true:=by decide
  simp only[go_sem,e1,e2,e3,e4,e5,e6,e7];exact⟨_,rfl,⟨rfl,rfl⟩,fun i ob _ h=>.inl h,rfl,Dc⟩
 have e7:(w==[97,116,111,109,105,99])=false:=by simp[a7]
 by_cases a8:w=[119,97,105,116]
 .subst a8;have e8:(([119,97,105,116]:List UInt8)==[119,97,105,116])=true:=by decide
  simp only[go_sem,e1,e2,e3,e4,e5,e6,e7,e8];exact⟨_,rfl,⟨rfl,rfl⟩,fun i ob _ h=>.inl h,rfl,Dc⟩
 have e8:(w==[119,97,105,116])=false:=by simp[a8]
 by_cases a9:w=[110,111,116,105,102,121]
 .subst a9;have e9:(([110,111,116,105,102,121]:List UInt8)==[110,111,116,105,102,121])=true:=by decide
  simp only[go_sem,e1,e2,e3,e4,e5,e6,e7,e8,e9];exact⟨_,rfl,⟨rfl,rfl⟩,fun i ob _ h=>.inl h,rfl,Dc⟩
 have e9:(w==[110,111,116,105,102,121])=false:=by simp[a9]
 by_cases qC:w=[110,111,116,105,102,121,97,108,108]
 .subst qC;have qe:(([110,111,116,105,102,121,97,108,108]:List UInt8)==[110,111,116,105,102,121,97,108,108])=true:=by decide
  simp only[go_sem,e1,e2,e3,e4,e5,e6,e7,e8,e9,qe];exact⟨_,rfl,⟨rfl,rfl⟩,fun i ob _ h=>.inl h,rfl,Dc⟩
 have qe:(w==[110,111,116,105,102,121,97,108,108])=false:=by simp[qC]
 by_cases qD:w=[115,112,97,119,110]
 .subst qD;have qi:(([115,112,97,119,110]:List UInt8)==[115,112,97,119,110])=true:=by decide
  simp only[go_sem,e1,e2,e3,e4,e5,e6,e7,e8,e9,qe,qi];exact⟨_,rfl,⟨rfl,rfl⟩,fun i ob _ h=>.inl h,rfl,Dc⟩
 have qi:(w==[115,112,97,119,110])=false:=by simp[qD]
 by_cases qE:w=[106,111,105,110]
 .subst qE;have qm:(([106,111,105,110]:List UInt8)==[106,111,105,110])=true:=by decide
  simp only[go_sem,e1,e2,e3,e4,e5,e6,e7,e8,e9,qe,qi,qm];exact⟨_,rfl,⟨rfl,rfl⟩,fun i ob _ h=>.inl h,rfl,Dc⟩
 have qm:(w==[106,111,105,110])=false:=by simp[qE]
 by_cases qF:w=[115,101,116]
 .subst qF;have qq:(([115,101,116]:List UInt8)==[115,101,116])=true:=by decide
  simp only[go_sem,e1,e2,e3,e4,e5,e6,e7,e8,e9,qe,qi,qm,qq];exact⟨_,rfl,⟨rfl,rfl⟩,fun i ob _ h=>.inl h,rfl,Dc⟩
 have qq:(w==[115,101,116])=false:=by simp[qF]
 by_cases qG:w=[103,101,116]
 .subst qG;have qt:(([103,101,116]:List UInt8)==[103,101,116])=true:=by decide
  simp only[go_sem,e1,e2,e3,e4,e5,e6,e7,e8,e9,qe,qi,qm,qq,qt];exact⟨_,rfl,⟨rfl,rfl⟩,fun i ob _ h=>.inl h,rfl,Dc⟩
 have qt:(w==[103,101,116])=false:=by simp[qG]
 have hz:Ek w=0:=by
  unfold Ek wordTab;simp only[Aa8,e1,e2,e3,e4,e5,e6,e7,e8,e9,qe,qi,qm,qq,qt];rfl
 rw[hz];simp only[go_sem,e1,e2,e3,e4,e5,e6,e7,e8,e9,qe,qi,qm,qq,qt];exact⟨_,rfl,⟨rfl,rfl⟩,fun i ob _ h=>.inl h,rfl,Dc⟩
def Ain{d0 d1 d2 d3 d4 d5 d6 d7 d8 d9 qh:V}(h:[d0,d1,d2,d3,d4,d5,d6,d7,d8,d9,qh].all V.rowB=true):(d0.cellB&&(d1.cellB&&(d2.cellB&&(d3.cellB&&(d4.cellB&&(d5.cellB&&(d6.cellB&&(d7.cellB&&(d8.cellB&&(d9.cellB&&qh.cellB))))))))))=true:=by
 simp only[Aw,Bi,Af]at h;obtain⟨h0,h1,h2,h3,h4,h5,h6,h7,h8,h9,qu,-⟩:=h;simp only[Fz h0,Fz h1,Fz h2,Fz h3,Fz h4,Fz h5,Fz h6,Fz h7,Fz h8,Fz h9,Fz qu,Af9]
def PRs(A:List Tk)(o:Option (Sp × List Tk))(v:V)(p':Nat):Prop:=match o with
 | some (x,r)=>v=.tup [.agg x.row,.bool true]/\A.drop p'=r
 | none=>∃ r:List V,P3 r/\v=.tup [.agg r,.bool false]
def PSt(n:Nat):Prop:=∀ (s:St) (m:Nat) (z:Bool) (t:Nat) (A:List Tk) (p:Nat),OkA A->D2 A->s[m]?=some (RO z t A p)->p<=A.length->10*(A.length - p)+10<=n->RT 152 [] s m z t A (PRs A (Ij n (A.drop p)))
def Ri{s:St}{m:Nat}{z:Bool}{t:Nat}{A:List Tk}{S:Nat->St}(hS:RdS s m z t A S){f p:Nat}{a b:Ob}{r0:List V}{R:V->Nat->List V->Prop}(h:O6 f (S p++[a,b,.row r0 104 0 0]) m (s.length+2) z t A R):
  ∃ v q r',Bv TT PT f [.ptr m 0 0,.ptr (s.length+2) 0 0] (S p++[a,b,.row r0 104 0 0]) v (S q++[a,b,.row r' 104 0 0])/\q<=A.length/\R v q r':=by
 obtain⟨v,q,r',h1,h2,h3⟩:=h;rw[show(S p++[a,b,.row r0 104 0 0]).set m (RO z t A q)=S q++[a,b,.row r0 104 0 0] from hS.set p q _,hS.u2]at h1;exact⟨v,q,r',h1,h2,h3⟩
def Sb(A:List Tk)(o:Option (Sp × List Tk))(v:V)(q:Nat)(r:List V):Prop:=match o with
 | some (x,ts)=>v=.bool true/\r=x.row/\A.drop q=ts
 | none=>v=.bool false/\P3 r
def A3o{n:Nat}(hB:∀ k,k<n->Ux k):PSt n:=by
 intro s m z t A p hA hT hs hp hf;obtain⟨n,rfl⟩:∃ k,n=k+1:=⟨n - 1,by omega⟩;have hB:=hB n (Af1 n);refine Lc T152 rfl hs fun S hS=>?_
 have hl:A.length<=1000000:=by have:=hA.len;omega
 have qf:=hS;have hm:=hS.low;have qv:=Rh (hS.get p [.row [iV 0,iV 0,.str [],.str [],.nils,iV 0,iV 0,.str [],.nils,.nils,.nils] 104 0 0]) hl hp;by_cases h1:(Aa A p).kind=1
 .have b1:((Aa A p).kind==1)=true:=by simp[h1]
  have qn:=Acz (A:=A) (p:=p) (by omega);have ho:Ij (n+1) (A.drop p)=Up n (Aa A p).line (A.drop p):=by rw[Lv qn,Ij,if_pos h1]
  obtain⟨v,q,r,c1,c2,c3⟩:=Ri qf (a:=.row [iV 0,iV 0,.str [],.str [],.nils,iV 0,iV 0,.str [],.nils,.nils,.nils] 104 0 0) (b:=.row [iV (Aa A p).kind,.str (Aa A p).text,iV (Aa A p).line] 130 0 0)
   (Axn (n:=n) (ln:=(Aa A p).line) hA hT (hS.get p _) (hS.n2 p _ _ _ _) (by omega) hp (by omega))
  rw[ho];have Zq:=Ds hS;obtain⟨-,-,qc,get,get0,set,set0,n0,n1,n2,u0,u1,u2⟩:=hS;simp only[go_sem,Zq,LZ];refine Ac qv ?_;simp only[go_sem,Zq,LZ,b1];refine Ac c1 ?_
  cases hq:Up n (Aa A p).line (A.drop p) with
  | none=>
   rw[hq]at c3;obtain⟨rfl,d0,d1,d2,d3,d4,d5,d6,d7,d8,d9,qh,rfl,hb⟩:=c3;simp only[go_sem,Zq,LZ,Ain hb];exact Cf (v:=.tup [.agg [d0,d1,d2,d3,d4,d5,d6,d7,d8,d9,qh],.bool false]) (Ci (n0 _ _ _) rfl rfl rfl) (Cz hb) c2 ⟨_,⟨_,_,_,_,_,_,_,_,_,_,_,rfl,hb⟩,rfl⟩
  | some xt=>
   obtain⟨x,ts⟩:=xt;rw[hq]at c3;obtain⟨rfl,rfl,c3⟩:=c3;have ql:=Gu x;have qk:=Fg x;rw[qk]at ql ⊢;simp only[go_sem,Zq,LZ];exact Cf (v:=.tup [.agg _,.bool true]) (Ci (n0 _ _ _) rfl rfl rfl) (Cz ql) c2 ⟨by rw[qk],c3⟩
 have b1:((Aa A p).kind==1)=false:=by simp[h1]
 by_cases h3:(Aa A p).kind=3
 case neg=>
  have b3:((Aa A p).kind==3)=false:=by simp[h3]
  have ho:Ij (n+1) (A.drop p)=none:=by
   rcases Be p A.length with h | h
   .rw[Lv h,Ij,if_neg h1,if_neg h3]
   .rw[(J3 h).1];simp[Ij]
  rw[ho];have Zq:=Ds hS;obtain⟨-,-,qc,get,get0,set,set0,n0,n1,n2,u0,u1,u2⟩:=hS;simp only[go_sem,Zq,LZ];refine Ac qv ?_;simp only[go_sem,Zq,LZ,b1,b3];exact Cf (v:=.tup [.agg _,.bool false]) (Ci (n0 _ _ _) rfl rfl rfl) (Cz rfl) hp ⟨_,⟨_,_,_,_,_,_,_,_,_,_,_,rfl,rfl⟩,rfl⟩
 have b3:((Aa A p).kind==3)=true:=by simp[h3]
 have qn:=Acz (A:=A) (p:=p) (by omega);have qo:=fun σ=>A8f (Aa A p).text σ
 have qy:=Ap8 (Aa A p).text;have qw:=A2 (show p<9223372036854775807 by omega);have qj:p+1<=A.length:=qn;have qb:Ij (n+1) (A.drop p)=Ij (n+1) (Aa A p::A.drop (p+1)):=by rw[<-Lv qn]
 rw[Ij,if_neg h1,if_pos h3]at qb;generalize hw:Ek (Aa A p).text=w at qo qy qb;by_cases qA:w=0
 .subst qA;rw[if_pos rfl]at qb;rw[qb];have Zq:=Ds hS;obtain⟨-,-,qc,get,get0,set,set0,n0,n1,n2,u0,u1,u2⟩:=hS;simp only[go_sem,Zq,LZ];refine Ac qv ?_;simp only[go_sem,Zq,LZ,b1,b3];refine Ac (qo _) ?_;simp only[go_sem,Zq,LZ];exact Cf (v:=.tup [.agg _,.bool false]) (Ci (n0 _ _ _) rfl rfl rfl) (Cz rfl) hp ⟨_,⟨_,_,_,_,_,_,_,_,_,_,_,rfl,rfl⟩,rfl⟩
 rw[if_neg qA]at qb
 have hq:∃ v q r,Bv TT PT (Rv w) [.ptr m 0 0,.ptr (s.length+2) 0 0] (S (p+1)++[.row [iV 0,iV 0,.str [],.str [],.nils,iV 0,iV 0,.str [],.nils,.nils,.nils] 104 0 0,.row [iV (Aa A p).kind,.str (Aa A p).text,iV (Aa A p).line] 130 0 0,.row [iV w,iV (Aa A p).line,.str [],.str [],.nils,iV 0,iV 0,.str [],.nils,.nils,.nils] 104 0 0]) v (S q++[.row [iV 0,iV 0,.str [],.str [],.nils,iV 0,iV 0,.str [],.nils,.nils,.nils] 104 0 0,.row [iV (Aa A p).kind,.str (Aa A p).text,iV (Aa A p).line] 130 0 0,.row r 104 0 0])/\q<=A.length/\Sb A (Ij (n+1) (A.drop p)) v q r:=by
  rw[qb];have qd:w=2\/w=3\/(w=7\/w=8)\/(w=4\/w=5\/w=6)\/w=14\/w=15\/(w=9\/w=10\/w=11\/w=12\/w=13):=by omega
  rcases qd with rfl | rfl | qd | qd | rfl | rfl | qd
  .obtain⟨v,q,r,c1,c2,c3⟩:=Ri qf (a:=.row [iV 0,iV 0,.str [],.str [],.nils,iV 0,iV 0,.str [],.nils,.nils,.nils] 104 0 0) (b:=.row [iV (Aa A p).kind,.str (Aa A p).text,iV (Aa A p).line] 130 0 0) (Ayt (n:=n) (op:=2) (ln:=(Aa A p).line) hB hA hT (hS.get (p+1) _) (hS.n2 (p+1) _ _ _ _) (by omega) qj (by omega));refine⟨v,q,r,c1,c2,?_⟩;rw[if_pos (.inl rfl)]
   have he:∀ o:Option (Sp × List Tk),o=(Z3 n (A.drop (p+1))).map (fun y=>({ Ar 2 (Aa A p).line with ex:=y.1.1,body:=y.1.2.1,els:=y.1.2.2 },y.2))->Sb A o v q r:=fun o ho=>by
    subst ho
    cases hQ:Z3 n (A.drop (p+1)) with
    | none=>rw[hQ]at c3;exact c3
    | some pr=>
     obtain⟨⟨x,b,e⟩,ts⟩:=pr;rw[hQ]at c3;exact⟨c3.1,by rw[c3.2.1,Fg];rfl,c3.2.2⟩
   refine he _ ?_;unfold Z3 Mt
   cases pe n 1 (A.drop (p+1)) with
   | none=>rfl
   | some xr=>
    obtain⟨x,t1⟩:=xr;simp only
    cases Fm n t1 with
    | none=>rfl
    | some bl=>
     obtain⟨b,t2⟩:=bl;simp only;by_cases hE:Ax [101,108,115,101] t2=true
     .rw[if_pos ⟨trivial,hE⟩,if_pos hE]
      cases Fm n t2.tail with
      | none=>rfl
      | some el=>rfl
     .rw[if_neg (fun h=>hE h.2),if_neg hE];rfl
  .obtain⟨v,q,r,c1,c2,c3⟩:=Ri qf (a:=.row [iV 0,iV 0,.str [],.str [],.nils,iV 0,iV 0,.str [],.nils,.nils,.nils] 104 0 0) (b:=.row [iV (Aa A p).kind,.str (Aa A p).text,iV (Aa A p).line] 130 0 0) (Am2 (n:=n) (op:=3) (ln:=(Aa A p).line) hB hA hT (hS.get (p+1) _) (hS.n2 (p+1) _ _ _ _) (by omega) qj (by omega));refine⟨v,q,r,c1,c2,?_⟩;rw[if_pos (.inr rfl)]
   have he:∀ o:Option (Sp × List Tk),o=(Mt n (A.drop (p+1))).map (fun y=>({ Ar 3 (Aa A p).line with ex:=y.1.1,body:=y.1.2 },y.2))->Sb A o v q r:=fun o ho=>by
    subst ho
    cases hQ:Mt n (A.drop (p+1)) with
    | none=>rw[hQ]at c3;exact c3
    | some pr=>
     obtain⟨⟨x,b⟩,ts⟩:=pr;rw[hQ]at c3;exact⟨c3.1,by rw[c3.2.1,Fg];rfl,c3.2.2⟩
   refine he _ ?_;unfold Mt
   cases pe n 1 (A.drop (p+1)) with
   | none=>rfl
   | some xr=>
    obtain⟨x,t1⟩:=xr;simp only
    cases Fm n t1 with
    | none=>rfl
    | some bl=>
     obtain⟨b,t2⟩:=bl;simp only;rw[if_neg (fun h=>absurd h.1 (by decide))];rfl
  .rw[if_neg (by omega),if_pos qd];obtain⟨v,q,r,c1,c2,c3⟩:=Ri qf (a:=.row [iV 0,iV 0,.str [],.str [],.nils,iV 0,iV 0,.str [],.nils,.nils,.nils] 104 0 0) (b:=.row [iV (Aa A p).kind,.str (Aa A p).text,iV (Aa A p).line] 130 0 0) (Ag8 (n:=n) (c0:=iV w) (c1:=iV (Aa A p).line) (c2:=.str []) (c3:=.str []) (c4:=.nils) (c5:=iV 0) (c6:=iV 0) (c7:=.str []) (c8:=.nils) (c9:=.nils) (c10:=.nils) hB hA hT (hS.get (p+1) _) (hS.n2 (p+1) _ _ _ _) (by omega) qj rfl (by omega))
   have hF:Rv w=206:=by rcases qd with rfl | rfl<;>rfl
   rw[hF];refine⟨v,q,r,c1,c2,?_⟩
   cases hQ:Fm n (A.drop (p+1)) with
   | none=>
    rw[hQ]at c3;obtain⟨h9,qu⟩:=c3;exact⟨h9,_,_,_,_,_,_,_,_,_,_,_,qu,by rw[qu];rfl⟩
   | some pr=>
    obtain⟨b,ts⟩:=pr;rw[hQ]at c3;exact⟨c3.1,by rw[c3.2.1,Fg];rfl,c3.2.2⟩
  .rw[if_neg (by omega),if_neg (by omega)];obtain⟨v,q,r,c1,c2,c3⟩:=Ri qf (a:=.row [iV 0,iV 0,.str [],.str [],.nils,iV 0,iV 0,.str [],.nils,.nils,.nils] 104 0 0) (b:=.row [iV (Aa A p).kind,.str (Aa A p).text,iV (Aa A p).line] 130 0 0) (A3n (n:=n) (op:=w) (ln:=(Aa A p).line) hB hA hT (hS.get (p+1) _) (hS.n2 (p+1) _ _ _ _) (by omega) qj (by omega))
   have hF:Rv w=205:=by rcases qd with rfl | rfl | rfl<;>rfl
   rw[hF];refine⟨v,q,r,c1,c2,?_⟩
   have he:∀ o:Option (Sp × List Tk),o=(qNB n (A.drop (p+1))).map (fun y=>({ Ar w (Aa A p).line with nm:=y.1.1,body:=y.1.2 },y.2))->Sb A o v q r:=fun o ho=>by
    subst ho
    cases hQ:qNB n (A.drop (p+1)) with
    | none=>rw[hQ]at c3;exact c3
    | some pr=>
     obtain⟨⟨nm,b⟩,ts⟩:=pr;rw[hQ]at c3;exact⟨c3.1,by rw[c3.2.1,Fg];rfl,c3.2.2⟩
   refine he _ ?_;unfold qNB
   cases Df (A.drop (p+1)) with
   | none=>rfl
   | some nt=>
    obtain⟨nm,t1⟩:=nt;simp only;rw[if_pos qd]
    cases Fm n t1 with
    | none=>rfl
    | some bl=>rfl
  .rw[if_neg (by decide),if_neg (by decide)];obtain⟨v,q,r,c1,c2,c3⟩:=Ri qf (a:=.row [iV 0,iV 0,.str [],.str [],.nils,iV 0,iV 0,.str [],.nils,.nils,.nils] 104 0 0) (b:=.row [iV (Aa A p).kind,.str (Aa A p).text,iV (Aa A p).line] 130 0 0) (A0m (n:=n) (op:=14) (ln:=(Aa A p).line) hA hT (hS.get (p+1) _) (hS.n2 (p+1) _ _ _ _) (by omega) qj (by omega));have hF:Rv 14=208:=by rfl
   rw[hF];refine⟨v,q,r,c1,c2,?_⟩
   have he:∀ o:Option (Sp × List Tk),o=(Aah n (A.drop (p+1))).map (fun y=>({ Ar 14 (Aa A p).line with nm:=y.1.1,ex:=y.1.2 },y.2))->Sb A o v q r:=fun o ho=>by
    subst ho
    cases hQ:Aah n (A.drop (p+1)) with
    | none=>rw[hQ]at c3;exact c3
    | some pr=>
     obtain⟨⟨nm,x⟩,ts⟩:=pr;rw[hQ]at c3;exact⟨c3.1,by rw[c3.2.1,Fg];rfl,c3.2.2⟩
   refine he _ ?_;unfold Aah
   cases Df (A.drop (p+1)) with
   | none=>rfl
   | some nt=>
    obtain⟨nm,t1⟩:=nt;simp only;rw[if_neg (by decide),if_pos trivial]
    cases pe n 1 t1 with
    | none=>rfl
    | some xr=>
     obtain⟨x,t2⟩:=xr;simp only
     cases D4 [59] t2<;>rfl
  .rw[if_neg (by decide),if_neg (by decide)];obtain⟨v,q,r,c1,c2,c3⟩:=Ri qf (a:=.row [iV 0,iV 0,.str [],.str [],.nils,iV 0,iV 0,.str [],.nils,.nils,.nils] 104 0 0) (b:=.row [iV (Aa A p).kind,.str (Aa A p).text,iV (Aa A p).line] 130 0 0) (A0l (n:=n) (op:=15) (ln:=(Aa A p).line) hA hT (hS.get (p+1) _) (hS.n2 (p+1) _ _ _ _) (by omega) qj (by omega));have hF:Rv 15=209:=by rfl
   rw[hF];refine⟨v,q,r,c1,c2,?_⟩
   have he:∀ o:Option (Sp × List Tk),o=(Aai (A.drop (p+1))).map (fun y=>({ Ar 15 (Aa A p).line with nm:=y.1.1,arg:=y.1.2 },y.2))->Sb A o v q r:=fun o ho=>by
    subst ho
    cases hQ:Aai (A.drop (p+1)) with
    | none=>rw[hQ]at c3;exact c3
    | some pr=>
     obtain⟨⟨nm,ar⟩,ts⟩:=pr;rw[hQ]at c3;exact⟨c3.1,by rw[c3.2.1,Fg];rfl,c3.2.2⟩
   refine he _ ?_;unfold Aai
   cases Df (A.drop (p+1)) with
   | none=>rfl
   | some nt=>
    obtain⟨nm,t1⟩:=nt;simp only;rw[if_neg (by decide),if_neg (by decide),if_pos trivial]
    cases Df t1 with
    | none=>rfl
    | some nt2=>
     obtain⟨ar,t2⟩:=nt2;simp only
     cases D4 [59] t2<;>rfl
  .rw[if_neg (by omega),if_neg (by omega)];obtain⟨v,q,r,c1,c2,c3⟩:=Ri qf (a:=.row [iV 0,iV 0,.str [],.str [],.nils,iV 0,iV 0,.str [],.nils,.nils,.nils] 104 0 0) (b:=.row [iV (Aa A p).kind,.str (Aa A p).text,iV (Aa A p).line] 130 0 0) (Ax0 (n:=n) (op:=w) (ln:=(Aa A p).line) hA hT (hS.get (p+1) _) (hS.n2 (p+1) _ _ _ _) (by omega) qj (by omega))
   have hF:Rv w=207:=by rcases qd with rfl | rfl | rfl | rfl | rfl<;>rfl
   rw[hF];refine⟨v,q,r,c1,c2,?_⟩
   have he:∀ o:Option (Sp × List Tk),o=(qNm (A.drop (p+1))).map (fun y=>({ Ar w (Aa A p).line with nm:=y.1 },y.2))->Sb A o v q r:=fun o ho=>by
    subst ho
    cases hQ:qNm (A.drop (p+1)) with
    | none=>rw[hQ]at c3;exact c3
    | some pr=>
     obtain⟨nm,ts⟩:=pr;rw[hQ]at c3;exact⟨c3.1,by rw[c3.2.1,Fg];rfl,c3.2.2⟩
   refine he _ ?_;unfold qNm
   cases Df (A.drop (p+1)) with
   | none=>rfl
   | some nt=>
    obtain⟨nm,t1⟩:=nt;simp only;rw[if_neg (by omega),if_neg (by omega),if_neg (by omega)]
    cases D4 [59] t1<;>rfl
 obtain⟨v,q,r,c1,c2,c3⟩:=hq;have Zq:=Ds hS;obtain⟨-,-,qc,get,get0,set,set0,n0,n1,n2,u0,u1,u2⟩:=hS;have qo:=fun σ=>qo σ
 simp only[if_neg qA]at qo;simp only[go_sem,Zq,LZ];refine Ac qv ?_;simp only[go_sem,Zq,LZ,b1,b3];refine Ac (qo _) ?_;simp only[go_sem,Zq,LZ,qw];refine Ac c1 ?_;unfold Sb at c3
 cases hq:Ij (n+1) (A.drop p) with
 | none=>
  rw[hq]at c3;obtain⟨rfl,d0,d1,d2,d3,d4,d5,d6,d7,d8,d9,qh,rfl,hb⟩:=c3;simp only[go_sem,Zq,LZ,Ain hb];exact Cf (v:=.tup [.agg [d0,d1,d2,d3,d4,d5,d6,d7,d8,d9,qh],.bool false]) (Ci (n0 _ _ _) rfl rfl rfl) (Cz hb) c2 ⟨_,⟨_,_,_,_,_,_,_,_,_,_,_,rfl,hb⟩,rfl⟩
 | some xt=>
  obtain⟨x,ts⟩:=xt;rw[hq]at c3;obtain⟨rfl,rfl,c3⟩:=c3;have ql:=Gu x;have qk:=Fg x;rw[qk]at ql ⊢;simp only[go_sem,Zq,LZ];exact Cf (v:=.tup [.agg _,.bool true]) (Ci (n0 _ _ _) rfl rfl rfl) (Cz ql) c2 ⟨by rw[qk],c3⟩
/-! blocks -/
def RW(s σ:St)(m:Nat)(z:Bool)(t:Nat)(A:List Tk)(q:Nat):Prop:=s.length<=σ.length/\(∀ i,i<s.length->i≠m->σ[i]?=s[i]?)/\σ[m]?=some (RO z t A q)/\m<s.length
def Aio{s:St}{m:Nat}{z:Bool}{t:Nat}{A:List Tk}{q:Nat}(h:s[m]?=some (RO z t A q)):RW s s m z t A q:=⟨Ai _,fun _ _ _=>rfl,h,(Ak.1 h).1⟩
def Pv{s σ:St}{m:Nat}{z:Bool}{t:Nat}{A:List Tk}{q:Nat}(h:RW s σ m z t A q)(q':Nat):RW s (σ.set m (RO z t A q')) m z t A q':=by
 obtain⟨h1,h2,h3,h4⟩:=h;refine⟨by simpa using h1,fun i hi hm=>?_,B5 (by omega),h4⟩;rw[Bh (Ne.symm hm)];exact h2 i hi hm
def Ac0{s σ l:St}{m:Nat}{z:Bool}{t:Nat}{A:List Tk}{q:Nat}(h:RW s σ m z t A q):RW s (σ++l) m z t A q:=by
 obtain⟨h1,h2,h3,h4⟩:=h;refine⟨by simp;omega,fun i hi hm=>?_,Bx h3,h4⟩;rw[B6 (by omega)];exact h2 i hi hm
def Rc{s σ τ:St}{m:Nat}{z:Bool}{t:Nat}{A:List Tk}{q:Nat}(h:RW s σ m z t A q)(hl:s.length<=τ.length)(hj:∀ j,j<s.length->τ[j]?=σ[j]?):RW s τ m z t A q:=by
 obtain⟨h1,h2,h3,h4⟩:=h;exact⟨hl,fun i hi hm=>by rw[hj i hi];exact h2 i hi hm,by rw[hj m h4];exact h3,h4⟩
def Ash{s σ:St}{m:Nat}{z:Bool}{t:Nat}{A:List Tk}{q:Nat}(h:RW s σ m z t A q):σ.take s.length=s.set m (RO z t A q):=by
 obtain⟨h1,h2,h3,h4⟩:=h;refine So fun i=>?_
 by_cases hi:i<s.length
 .rw[List.getElem?_take_of_lt hi];by_cases hm:i=m
  .subst hm;rw[h3,B5 h4]
  .rw[h2 i hi hm,Bh (Ne.symm hm)]
 .rw[O8 (by simp;omega),O8 (by simp;omega)]
def Asi{s σ:St}{m:Nat}{z:Bool}{t:Nat}{A:List Tk}{q:Nat}(h:RW s σ m z t A q):∀ i ob,i<s.length->σ[i]?=some ob->s[i]?=some ob\/E4 s.length [] ob.refs=true:=by
 obtain⟨h1,h2,h3,h4⟩:=h;intro i ob hi ho;by_cases hm:i=m
 .subst hm;rw[ho]at h3;cases h3;exact .inr (by rw[Acy];rfl)
 .rw[h2 i hi hm]at ho;exact .inl ho
def Bcw{z:Bool}{t:Nat}{A:List Tk}{f m q0 k ty:Nat}{res:List AR}{thr:Bool}{body:AC}{s:St}{R:V->Nat->Prop}(hT:TT f=some ⟨1,res,thr,body,none⟩)
  (h:W TT PT [.c body] (Dd 0 [.ptr m 0 0]) s (Hd fun e' σ1=>∃ u b xs q,Cd e' σ1 res=some (.tup [u,.bool b])/\GW σ1 k ty s.length u xs/\(0<k/\(∀ r∈xs,r.length=k)/\∀ r∈xs,r.all V.rowB=true)/\RW s σ1 m z t A q/\q<=A.length/\R (.tup [SL true 0 xs,.bool b]) q)):RT f [] s m z t A R:=by
 obtain⟨e',σ1,hE,u,b,xs,q,hr,hg,⟨hk,qc,qz⟩,hw,hq,hR⟩:=h;have qS:=Mp hg hk qc qz;have qg:=Cu hg
 have qs:(SL true 0 xs).refs=[]:=by unfold SL;split<;>rfl
 have qO:(∀ j,j<s.length->(σ1.freeze u.refs)[j]?=σ1[j]?):=by
  intro j hj;rcases hg with⟨rfl,-⟩ | ⟨-,i,g,rfl,ho,qW⟩
  .rfl
  .exact Ams _ _ _ (by omega)
 have qp:RW s (σ1.freeze u.refs) m z t A q:=Rc hw (by rw[Pe];exact hw.1) qO;refine⟨_,q,?_,hq,hR⟩;rw[<-Ash qp];refine Ans hT rfl rfl ⟨e',σ1,hE,.tup [u,.bool b],u.refs,hr,?_,?_,?_,Asi qp,rfl⟩
 .rcases hg with⟨rfl,-⟩ | ⟨-,i,g,rfl,-⟩<;>rfl
 .have hb:OV σ1 (.bool b) (.bool b):=Jy rfl
  exact congrArg (Option.map V.tup) (Yz (.cons (Acv qS qg) (.cons hb .nil)) fun j hj=>by
   simpa[Ah,V.refs] using hj)
 .show E4 s.length [] (Ah [SL true 0 xs,.bool b])=true;simp only[Ah,qs,V.refs,B3];rfl
def A3p{n:Nat}(hS:∀ k,k<n->PSt k):Ux n:=by
 intro s m z t A p hA hT hs hp hf;have hl:A.length<=1000000:=by have:=hA.len;omega
 have hm:=(Ak.1 hs).1;obtain⟨n,rfl⟩:∃ k,n=k+1:=⟨n - 1,by omega⟩;refine Bcw (q0:=p) (k:=11) (ty:=104) T119 ?_;by_cases h1:Ax [123] (A.drop p)=true
 case neg=>
  have h1:Ax [123] (A.drop p)=false:=by simpa using h1
  have ho:Fm (n+1) (A.drop p)=none:=by rw[Fm,if_neg (by rw[h1];decide)]
  have c1:=Rt hs hl hp h1;rw[ho];simp only[go_sem];refine Ac c1 ?_;simp only[go_sem];exact⟨.nils,false,[],p,rfl,D5,⟨by omega,by simp,by simp⟩,Aio hs,hp,rfl⟩
 have ho:Fm (n+1) (A.drop p)=Ky n (A.drop (p+1)):=by rw[Fm,if_pos h1,Eh]
 have c1:=Rr hs hl h1;have qn:=Ec h1;rw[ho];simp only[go_sem];refine Ac c1 ?_;simp only[go_sem];refine Bn (α:=Nat × Nat × V × List Sp × St) (fun a=>a.1) (fun a=>[(0,.ptr m 0 0),(4,a.2.2.1)]) (fun a=>a.2.2.2.2) (fun a=>a.1<=n/\a.2.1<=A.length/\10*(A.length - a.2.1)+11<=a.1/\RW s a.2.2.2.2 m z t A a.2.1/\GW a.2.2.2.2 11 104 s.length a.2.2.1 (a.2.2.2.1.map Sp.row)/\Ky n (A.drop (p+1))=(Ky a.1 (A.drop a.2.1)).map (fun y=>(a.2.2.2.1++y.1,y.2))/\a.2.2.2.1.length<=a.2.1) ?_ (n,p+1,.nils,[],s.set m (RO z t A (p+1))) ⟨Ai _,qn,by simp only;omega,Pv (Aio hs) _,D5,by simp only[Cr];cases Ky n (A.drop (p+1))<;>rfl,by simp⟩;rintro⟨k,q,u,L,σ⟩ ⟨qR,hq,qN,hw,hg,qa,qM⟩ ih;simp only at qR hq qN hw hg qa qM ih;obtain⟨k,rfl⟩:∃ j,k=j+1:=⟨k - 1,by omega⟩
 have qJ:∀ r∈L.map Sp.row,r.length=11:=by
  intro r hr;obtain⟨x,-,rfl⟩:=Ct.1 hr;exact Nf x
 have qT:∀ r∈L.map Sp.row,r.all V.rowB=true:=by
  intro r hr;obtain⟨x,-,rfl⟩:=Ct.1 hr;exact Gu x
 refine Bl Bbv ?_;by_cases h2:Ax [125] (A.drop q)=true
 .have c2:=Rr hw.2.2.1 hl h2;have qr:=Ec h2;have qx:Ky (k+1) (A.drop q)=some ([],A.drop (q+1)):=by rw[Ky,if_pos h2,Eh]
  rw[qx]at qa;simp only[go_sem];refine Ac c2 ?_;simp only[go_sem];refine⟨u,true,_,q+1,rfl,Ft hg hm,⟨by omega,qJ,qT⟩,Pv hw _,qr,?_⟩;rw[qa];simp only[Gb,B3];exact⟨rfl,rfl⟩
 .have h2:Ax [125] (A.drop q)=false:=by simpa using h2
  have c2:=Rt hw.2.2.1 hl hq h2;obtain⟨v,q2,c3,qI,h3⟩:=hS k (by omega) σ m z t A q hA hT hw.2.2.1 hq (by omega);have qp:=Pv hw q2;have qH:GW (σ.set m (RO z t A q2)) 11 104 s.length u (L.map Sp.row):=Ft hg hm
  have qx:Ky (k+1) (A.drop q)=match Ij k (A.drop q) with
    | none=>none
    | some (x,r)=>match Ky k r with
     | none=>none
     | some (l,r)=>some (x::l,r):=by
   rw[Ky,if_neg (by rw[h2];decide)];rfl
  rw[qx]at qa;generalize σ.set m (RO z t A q2)=τ at c3 qp qH;have qK:∀ a:Ob,(τ++[a])[τ.length]?=some a:=fun a=>by simp
  have qL:∀ a b:Ob,(τ++[a]).set τ.length b=τ++[b]:=fun a b=>by simp[I3]
  unfold PRs at h3
  cases hps:Ij k (A.drop q) with
  | none=>
   rw[hps]at h3 qa;obtain⟨_,⟨d0,d1,d2,d3,d4,d5,d6,d7,d8,d9,qh,rfl,hb⟩,rfl⟩:=h3;simp only[go_sem];refine Ac c2 ?_;simp only[go_sem];refine Ac c3 ?_;simp only[go_sem,qK,qL,Ain hb];refine⟨.nils,false,[],q2,rfl,D5,⟨by omega,by simp,by simp⟩,Ac0 qp,qI,?_⟩;rw[qa];rfl
  | some xr=>
   obtain⟨x,r⟩:=xr;rw[hps]at h3 qa;obtain⟨rfl,h3⟩:=h3;have ql:=Gu x;have qk:=Fg x
   have qr:r.length<A.length - q:=by
    have:=((Acf (M:=0) (C:=100) (by omega) k).1 _ _ _ (Dg hT (Xs q A)) hps).2.2.1;rw[D1]at this;exact this
   have qX:r.length=A.length - q2:=by rw[<-h3,D1]
   have qB:RW s (τ++[.row x.row 104 0 0]) m z t A q2:=Ac0 qp;have qP:GW (τ++[.row x.row 104 0 0]) 11 104 s.length u (L.map Sp.row):=Gk qH;have qV:L.length<=1000000:=by omega
   obtain⟨u',s3,ha,qQ,l3,-,f3⟩:=Hl (bytes:=176) (y:=.lst 1 [x.row]) (ys:=[x.row]) qP (by have:=qB.1;omega) rfl (by omega) qJ (by simp[Nf]) (by simp;omega);have qU:RW s s3 m z t A q2:=Rc qB (by have:=qB.1;omega) f3;have qg:=Cu hg;rw[qk]at c3 ql ha;simp only[go_sem];refine Ac c2 ?_;simp only[go_sem];refine Ac c3 ?_;simp only[go_sem,qK,qL,ha];refine As (ih (k,q2,u',L++[x],s3) (by simp) ⟨by simp only;omega,qI,by simp only;omega,qU,by simpa using qQ,?_,by simp;omega⟩) rfl;simp only;rw[qa,h3];simp only
   cases Ky k r with
   | none=>rfl
   | some y=>simp
def Aqe:∀ n,PSt n/\Ux n:=by
 intro n
 induction n using Nat.strongRecOn with
 | ind n ih=>exact⟨A3o fun k hk=>(ih k hk).2,A3p fun k hk=>(ih k hk).1⟩
