/- Walks: the parser's statements and blocks. -/
import Derived.Test.YthlbbjcbmojocaaGreatDoorLq
set_option linter.all false
namespace Go.Proofs.YthlbbjcbmojocaaGreatDoor.KM
open Go
def Pm(w:Int):Nat:=if w=2 then 146 else if w=3 then 147 else if w<=6 then 148 else if w<=8 then 149 else if w<=13 then 150 else if w=14 then 151 else 152
def A0c(w:List UInt8)(s:St):Bt TT PT 128 [.str w] s (.tup [iV (D4 w),if D4 w=0 then .nilf else .fn (Pm (D4 w)) [] []]) s:=by
 suffices h:∃ v s',Bt TT PT 128 [.str w] s v s'/\(v=.tup [iV (D4 w),if D4 w=0 then .nilf else .fn (Pm (D4 w)) [] []]/\s'=s) by
  obtain⟨v,s',h1,rfl,rfl⟩:=h;exact h1
 refine Aol T128 rfl ?_;by_cases a1:w=[105,102]
 .subst a1;have e1:(([105,102]:List UInt8)==[105,102])=true:=by decide
  simp only[go_sem,e1];exact⟨_,rfl,⟨rfl,rfl⟩,fun i ob _ h=>.inl h,rfl,Cz⟩
 have e1:(w==[105,102])=false:=by simp[a1]
 by_cases a2:w=[119,104,105,108,101]
 .subst a2;have e2:(([119,104,105,108,101]:List UInt8)==[119,104,105,108,101])=true:=by decide
  simp only[go_sem,e1,e2];exact⟨_,rfl,⟨rfl,rfl⟩,fun i ob _ h=>.inl h,rfl,Cz⟩
 have e2:(w==[119,104,105,108,101])=false:=by simp[a2]
 by_cases a3:w=[108,111,99,107]
 .subst a3;have e3:(([108,111,99,107]:List UInt8)==[108,111,99,107])=true:=by decide
  simp only[go_sem,e1,e2,e3];exact⟨_,rfl,⟨rfl,rfl⟩,fun i ob _ h=>.inl h,rfl,Cz⟩
 have e3:(w==[108,111,99,107])=false:=by simp[a3]
 by_cases a4:w=[114,101,97,100]
 .subst a4;have e4:(([114,101,97,100]:List UInt8)==[114,101,97,100])=true:=by decide
  simp only[go_sem,e1,e2,e3,e4];exact⟨_,rfl,⟨rfl,rfl⟩,fun i ob _ h=>.inl h,rfl,Cz⟩
 have e4:(w==[114,101,97,100])=false:=by simp[a4]
 by_cases a5:w=[119,114,105,116,101]
 .subst a5;have e5:(([119,114,105,116,101]:List UInt8)==[119,114,105,116,101])=true:=by decide
  simp only[go_sem,e1,e2,e3,e4,e5];exact⟨_,rfl,⟨rfl,rfl⟩,fun i ob _ h=>.inl h,rfl,Cz⟩
 have e5:(w==[119,114,105,116,101])=false:=by simp[a5]
 by_cases a6:w=[116,114,97,110,115,97,99,116,105,111,110]
 .subst a6;have e6:(([116,114,97,110,115,97,99,116,105,111,110]:List UInt8)==[116,114,97,110,115,97,99,116,105,111,110])=true:=by decide
  simp only[go_sem,e1,e2,e3,e4,e5,e6];exact⟨_,rfl,⟨rfl,rfl⟩,fun i ob _ h=>.inl h,rfl,Cz⟩
 have e6:(w==[116,114,97,110,115,97,99,116,105,111,110])=false:=by simp[a6]
 by_cases a7:w=[97,116,111,109,105,99]
 .subst a7;have e7:(([97,116,111,109,105,99]:List UInt8)==[97,116,111,109,105,99])=true:=by decide
  simp only[go_sem,e1,e2,e3,e4,e5,e6,e7];exact⟨_,rfl,⟨rfl,rfl⟩,fun i ob _ h=>.inl h,rfl,Cz⟩
 have e7:(w==[97,116,111,109,105,99])=false:=by simp[a7]
 by_cases a8:w=[119,97,105,116]
 .subst a8;have e8:(([119,97,105,116]:List UInt8)==[119,97,105,116])=true:=by decide
  simp only[go_sem,e1,e2,e3,e4,e5,e6,e7,e8];exact⟨_,rfl,⟨rfl,rfl⟩,fun i ob _ h=>.inl h,rfl,Cz⟩
 have e8:(w==[119,97,105,116])=false:=by simp[a8]
 by_cases a9:w=[110,111,116,105,102,121]
 .subst a9;have e9:(([110,111,116,105,102,121]:List UInt8)==[110,111,116,105,102,121])=true:=by decide
  simp only[go_sem,e1,e2,e3,e4,e5,e6,e7,e8,e9];exact⟨_,rfl,⟨rfl,rfl⟩,fun i ob _ h=>.inl h,rfl,Cz⟩
 have e9:(w==[110,111,116,105,102,121])=false:=by simp[a9]
 by_cases qC:w=[110,111,116,105,102,121,97,108,108]
 .subst qC;have qe:(([110,111,116,105,102,121,97,108,108]:List UInt8)==[110,111,116,105,102,121,97,108,108])=true:=by decide
  simp only[go_sem,e1,e2,e3,e4,e5,e6,e7,e8,e9,qe];exact⟨_,rfl,⟨rfl,rfl⟩,fun i ob _ h=>.inl h,rfl,Cz⟩
 have qe:(w==[110,111,116,105,102,121,97,108,108])=false:=by simp[qC]
 by_cases qD:w=[115,112,97,119,110]
 .subst qD;have qi:(([115,112,97,119,110]:List UInt8)==[115,112,97,119,110])=true:=by decide
  simp only[go_sem,e1,e2,e3,e4,e5,e6,e7,e8,e9,qe,qi];exact⟨_,rfl,⟨rfl,rfl⟩,fun i ob _ h=>.inl h,rfl,Cz⟩
 have qi:(w==[115,112,97,119,110])=false:=by simp[qD]
 by_cases qE:w=[106,111,105,110]
 .subst qE;have qm:(([106,111,105,110]:List UInt8)==[106,111,105,110])=true:=by decide
  simp only[go_sem,e1,e2,e3,e4,e5,e6,e7,e8,e9,qe,qi,qm];exact⟨_,rfl,⟨rfl,rfl⟩,fun i ob _ h=>.inl h,rfl,Cz⟩
 have qm:(w==[106,111,105,110])=false:=by simp[qE]
 by_cases qF:w=[115,101,116]
 .subst qF;have qq:(([115,101,116]:List UInt8)==[115,101,116])=true:=by decide
  simp only[go_sem,e1,e2,e3,e4,e5,e6,e7,e8,e9,qe,qi,qm,qq];exact⟨_,rfl,⟨rfl,rfl⟩,fun i ob _ h=>.inl h,rfl,Cz⟩
 have qq:(w==[115,101,116])=false:=by simp[qF]
 by_cases qG:w=[103,101,116]
 .subst qG;have qt:(([103,101,116]:List UInt8)==[103,101,116])=true:=by decide
  simp only[go_sem,e1,e2,e3,e4,e5,e6,e7,e8,e9,qe,qi,qm,qq,qt];exact⟨_,rfl,⟨rfl,rfl⟩,fun i ob _ h=>.inl h,rfl,Cz⟩
 have qt:(w==[103,101,116])=false:=by simp[qG]
 have hz:D4 w=0:=by
  unfold D4 wordTab;simp only[Yh,e1,e2,e3,e4,e5,e6,e7,e8,e9,qe,qi,qm,qq,qt];rfl
 rw[hz];simp only[go_sem,e1,e2,e3,e4,e5,e6,e7,e8,e9,qe,qi,qm,qq,qt];exact⟨_,rfl,⟨rfl,rfl⟩,fun i ob _ h=>.inl h,rfl,Cz⟩
def Aes{d0 d1 d2 d3 d4 d5 d6 d7 d8 d9 qh:V}(h:[d0,d1,d2,d3,d4,d5,d6,d7,d8,d9,qh].all V.rowB=true):(d0.cellB&&(d1.cellB&&(d2.cellB&&(d3.cellB&&(d4.cellB&&(d5.cellB&&(d6.cellB&&(d7.cellB&&(d8.cellB&&(d9.cellB&&qh.cellB))))))))))=true:=by
 simp only[Av,Be,Af]at h;obtain⟨h0,h1,h2,h3,h4,h5,h6,h7,h8,h9,qu,-⟩:=h;simp only[E6 h0,E6 h1,E6 h2,E6 h3,E6 h4,E6 h5,E6 h6,E6 h7,E6 h8,E6 h9,E6 qu,Acv]
def PRs(A:List Tk)(o:Option (Sp × List Tk))(v:V)(p':Nat):Prop:=match o with
 | some (x,r)=>v=.tup [.agg x.row,.bool true]/\A.drop p'=r
 | none=>∃ r:List V,N5 r/\v=.tup [.agg r,.bool false]
def PSt(n:Nat):Prop:=∀ (s:St) (m:Nat) (z:Bool) (t:Nat) (A:List Tk) (p:Nat),OkA A->Dl A->s[m]?=some (RO z t A p)->p<=A.length->10*(A.length - p)+10<=n->RT 102 [] s m z t A (PRs A (He n (A.drop p)))
def Pb{s:St}{m:Nat}{z:Bool}{t:Nat}{A:List Tk}{S:Nat->St}(hS:RdS s m z t A S){f p:Nat}{a b:Ob}{r0:List V}{R:V->Nat->List V->Prop}(h:Nf f (S p++[a,b,.row r0 68 0 0]) m (s.length+2) z t A R):
  ∃ v q r',Bt TT PT f [.ptr m 0 0,.ptr (s.length+2) 0 0] (S p++[a,b,.row r0 68 0 0]) v (S q++[a,b,.row r' 68 0 0])/\q<=A.length/\R v q r':=by
 obtain⟨v,q,r',h1,h2,h3⟩:=h;rw[show(S p++[a,b,.row r0 68 0 0]).set m (RO z t A q)=S q++[a,b,.row r0 68 0 0] from hS.set p q _,hS.u2]at h1;exact⟨v,q,r',h1,h2,h3⟩
def Py(A:List Tk)(o:Option (Sp × List Tk))(v:V)(q:Nat)(r:List V):Prop:=match o with
 | some (x,ts)=>v=.bool true/\r=x.row/\A.drop q=ts
 | none=>v=.bool false/\N5 r
def Awb{n:Nat}(hB:∀ k,k<n->Rv k):PSt n:=by
 intro s m z t A p hA hT hs hp hf;obtain⟨n,rfl⟩:∃ k,n=k+1:=⟨n - 1,by omega⟩;have hB:=hB n (Acn n);refine Jd T102 rfl hs fun S hS=>?_
 have hl:A.length<=1000000:=by have:=hA.len;omega
 have qf:=hS;have hm:=hS.low;have qv:=Pa (hS.get p [.row [iV 0,iV 0,.str [],.str [],.nils,iV 0,iV 0,.str [],.nils,.nils,.nils] 68 0 0]) hl hp;by_cases h1:(Aa A p).kind=1
 .have b1:((Aa A p).kind==1)=true:=by simp[h1]
  have qn:=Z6 (A:=A) (p:=p) (by omega);have ho:He (n+1) (A.drop p)=Rm n (Aa A p).line (A.drop p):=by rw[Jt qn,He,if_pos h1]
  obtain⟨v,q,r,c1,c2,c3⟩:=Pb qf (a:=.row [iV 0,iV 0,.str [],.str [],.nils,iV 0,iV 0,.str [],.nils,.nils,.nils] 68 0 0) (b:=.row [iV (Aa A p).kind,.str (Aa A p).text,iV (Aa A p).line] 100 0 0)
   (Arc (n:=n) (ln:=(Aa A p).line) hA hT (hS.get p _) (hS.n2 p _ _ _ _) (by omega) hp (by omega))
  rw[ho];have Zq:=Dc hS;obtain⟨-,-,qc,get,get0,set,set0,n0,n1,n2,u0,u1,u2⟩:=hS;simp only[go_sem,Zq,LZ];refine Ab qv ?_;simp only[go_sem,Zq,LZ,b1];refine Ab c1 ?_
  cases hq:Rm n (Aa A p).line (A.drop p) with
  | none=>
   rw[hq]at c3;obtain⟨rfl,d0,d1,d2,d3,d4,d5,d6,d7,d8,d9,qh,rfl,hb⟩:=c3;simp only[go_sem,Zq,LZ,Aes hb];exact B6 (v:=.tup [.agg [d0,d1,d2,d3,d4,d5,d6,d7,d8,d9,qh],.bool false]) (B7 (n0 _ _ _) rfl rfl rfl) (Cq hb) c2 ⟨_,⟨_,_,_,_,_,_,_,_,_,_,_,rfl,hb⟩,rfl⟩
  | some xt=>
   obtain⟨x,ts⟩:=xt;rw[hq]at c3;obtain⟨rfl,rfl,c3⟩:=c3;have ql:=F2 x;have qk:=Es x;rw[qk]at ql ⊢;simp only[go_sem,Zq,LZ];exact B6 (v:=.tup [.agg _,.bool true]) (B7 (n0 _ _ _) rfl rfl rfl) (Cq ql) c2 ⟨by rw[qk],c3⟩
 have b1:((Aa A p).kind==1)=false:=by simp[h1]
 by_cases h3:(Aa A p).kind=3
 case neg=>
  have b3:((Aa A p).kind==3)=false:=by simp[h3]
  have ho:He (n+1) (A.drop p)=none:=by
   rcases Br p A.length with h | h
   .rw[Jt h,He,if_neg h1,if_neg h3]
   .rw[(Ir h).1];simp[He]
  rw[ho];have Zq:=Dc hS;obtain⟨-,-,qc,get,get0,set,set0,n0,n1,n2,u0,u1,u2⟩:=hS;simp only[go_sem,Zq,LZ];refine Ab qv ?_;simp only[go_sem,Zq,LZ,b1,b3];exact B6 (v:=.tup [.agg _,.bool false]) (B7 (n0 _ _ _) rfl rfl rfl) (Cq rfl) hp ⟨_,⟨_,_,_,_,_,_,_,_,_,_,_,rfl,rfl⟩,rfl⟩
 have b3:((Aa A p).kind==3)=true:=by simp[h3]
 have qn:=Z6 (A:=A) (p:=p) (by omega);have qo:=fun σ=>A0c (Aa A p).text σ
 have qy:=Ak3 (Aa A p).text;have qw:=Bf (show p<9223372036854775807 by omega);have qj:p+1<=A.length:=qn;have qb:He (n+1) (A.drop p)=He (n+1) (Aa A p::A.drop (p+1)):=by rw[<-Jt qn]
 rw[He,if_neg h1,if_pos h3]at qb;generalize hw:D4 (Aa A p).text=w at qo qy qb;by_cases qA:w=0
 .subst qA;rw[if_pos rfl]at qb;rw[qb];have Zq:=Dc hS;obtain⟨-,-,qc,get,get0,set,set0,n0,n1,n2,u0,u1,u2⟩:=hS;simp only[go_sem,Zq,LZ];refine Ab qv ?_;simp only[go_sem,Zq,LZ,b1,b3];refine Ab (qo _) ?_;simp only[go_sem,Zq,LZ];exact B6 (v:=.tup [.agg _,.bool false]) (B7 (n0 _ _ _) rfl rfl rfl) (Cq rfl) hp ⟨_,⟨_,_,_,_,_,_,_,_,_,_,_,rfl,rfl⟩,rfl⟩
 rw[if_neg qA]at qb
 have hq:∃ v q r,Bt TT PT (Pm w) [.ptr m 0 0,.ptr (s.length+2) 0 0] (S (p+1)++[.row [iV 0,iV 0,.str [],.str [],.nils,iV 0,iV 0,.str [],.nils,.nils,.nils] 68 0 0,.row [iV (Aa A p).kind,.str (Aa A p).text,iV (Aa A p).line] 100 0 0,.row [iV w,iV (Aa A p).line,.str [],.str [],.nils,iV 0,iV 0,.str [],.nils,.nils,.nils] 68 0 0]) v (S q++[.row [iV 0,iV 0,.str [],.str [],.nils,iV 0,iV 0,.str [],.nils,.nils,.nils] 68 0 0,.row [iV (Aa A p).kind,.str (Aa A p).text,iV (Aa A p).line] 100 0 0,.row r 68 0 0])/\q<=A.length/\Py A (He (n+1) (A.drop p)) v q r:=by
  rw[qb];have qd:w=2\/w=3\/(w=7\/w=8)\/(w=4\/w=5\/w=6)\/w=14\/w=15\/(w=9\/w=10\/w=11\/w=12\/w=13):=by omega
  rcases qd with rfl | rfl | qd | qd | rfl | rfl | qd
  .obtain⟨v,q,r,c1,c2,c3⟩:=Pb qf (a:=.row [iV 0,iV 0,.str [],.str [],.nils,iV 0,iV 0,.str [],.nils,.nils,.nils] 68 0 0) (b:=.row [iV (Aa A p).kind,.str (Aa A p).text,iV (Aa A p).line] 100 0 0) (Asa (n:=n) (op:=2) (ln:=(Aa A p).line) hB hA hT (hS.get (p+1) _) (hS.n2 (p+1) _ _ _ _) (by omega) qj (by omega));refine⟨v,q,r,c1,c2,?_⟩;rw[if_pos (.inl rfl)]
   have he:∀ o:Option (Sp × List Tk),o=(Xf n (A.drop (p+1))).map (fun y=>({ An 2 (Aa A p).line with ex:=y.1.1,body:=y.1.2.1,els:=y.1.2.2 },y.2))->Py A o v q r:=fun o ho=>by
    subst ho
    cases hQ:Xf n (A.drop (p+1)) with
    | none=>rw[hQ]at c3;exact c3
    | some pr=>
     obtain⟨⟨x,b,e⟩,ts⟩:=pr;rw[hQ]at c3;exact⟨c3.1,by rw[c3.2.1,Es];rfl,c3.2.2⟩
   refine he _ ?_;unfold Xf Lc
   cases pe n 1 (A.drop (p+1)) with
   | none=>rfl
   | some xr=>
    obtain⟨x,t1⟩:=xr;simp only
    cases Ex n t1 with
    | none=>rfl
    | some bl=>
     obtain⟨b,t2⟩:=bl;simp only;by_cases hE:Ar [101,108,115,101] t2=true
     .rw[if_pos ⟨trivial,hE⟩,if_pos hE]
      cases Ex n t2.tail with
      | none=>rfl
      | some el=>rfl
     .rw[if_neg (fun h=>hE h.2),if_neg hE];rfl
  .obtain⟨v,q,r,c1,c2,c3⟩:=Pb qf (a:=.row [iV 0,iV 0,.str [],.str [],.nils,iV 0,iV 0,.str [],.nils,.nils,.nils] 68 0 0) (b:=.row [iV (Aa A p).kind,.str (Aa A p).text,iV (Aa A p).line] 100 0 0) (Ais (n:=n) (op:=3) (ln:=(Aa A p).line) hB hA hT (hS.get (p+1) _) (hS.n2 (p+1) _ _ _ _) (by omega) qj (by omega));refine⟨v,q,r,c1,c2,?_⟩;rw[if_pos (.inr rfl)]
   have he:∀ o:Option (Sp × List Tk),o=(Lc n (A.drop (p+1))).map (fun y=>({ An 3 (Aa A p).line with ex:=y.1.1,body:=y.1.2 },y.2))->Py A o v q r:=fun o ho=>by
    subst ho
    cases hQ:Lc n (A.drop (p+1)) with
    | none=>rw[hQ]at c3;exact c3
    | some pr=>
     obtain⟨⟨x,b⟩,ts⟩:=pr;rw[hQ]at c3;exact⟨c3.1,by rw[c3.2.1,Es];rfl,c3.2.2⟩
   refine he _ ?_;unfold Lc
   cases pe n 1 (A.drop (p+1)) with
   | none=>rfl
   | some xr=>
    obtain⟨x,t1⟩:=xr;simp only
    cases Ex n t1 with
    | none=>rfl
    | some bl=>
     obtain⟨b,t2⟩:=bl;simp only;rw[if_neg (fun h=>absurd h.1 (by decide))];rfl
  .rw[if_neg (by omega),if_pos qd];obtain⟨v,q,r,c1,c2,c3⟩:=Pb qf (a:=.row [iV 0,iV 0,.str [],.str [],.nils,iV 0,iV 0,.str [],.nils,.nils,.nils] 68 0 0) (b:=.row [iV (Aa A p).kind,.str (Aa A p).text,iV (Aa A p).line] 100 0 0) (Ads (n:=n) (c0:=iV w) (c1:=iV (Aa A p).line) (c2:=.str []) (c3:=.str []) (c4:=.nils) (c5:=iV 0) (c6:=iV 0) (c7:=.str []) (c8:=.nils) (c9:=.nils) (c10:=.nils) hB hA hT (hS.get (p+1) _) (hS.n2 (p+1) _ _ _ _) (by omega) qj rfl (by omega))
   have hF:Pm w=149:=by rcases qd with rfl | rfl<;>rfl
   rw[hF];refine⟨v,q,r,c1,c2,?_⟩
   cases hQ:Ex n (A.drop (p+1)) with
   | none=>
    rw[hQ]at c3;obtain⟨h9,qu⟩:=c3;exact⟨h9,_,_,_,_,_,_,_,_,_,_,_,qu,by rw[qu];rfl⟩
   | some pr=>
    obtain⟨b,ts⟩:=pr;rw[hQ]at c3;exact⟨c3.1,by rw[c3.2.1,Es];rfl,c3.2.2⟩
  .rw[if_neg (by omega),if_neg (by omega)];obtain⟨v,q,r,c1,c2,c3⟩:=Pb qf (a:=.row [iV 0,iV 0,.str [],.str [],.nils,iV 0,iV 0,.str [],.nils,.nils,.nils] 68 0 0) (b:=.row [iV (Aa A p).kind,.str (Aa A p).text,iV (Aa A p).line] 100 0 0) (Awa (n:=n) (op:=w) (ln:=(Aa A p).line) hB hA hT (hS.get (p+1) _) (hS.n2 (p+1) _ _ _ _) (by omega) qj (by omega))
   have hF:Pm w=148:=by rcases qd with rfl | rfl | rfl<;>rfl
   rw[hF];refine⟨v,q,r,c1,c2,?_⟩
   have he:∀ o:Option (Sp × List Tk),o=(Xw n (A.drop (p+1))).map (fun y=>({ An w (Aa A p).line with nm:=y.1.1,body:=y.1.2 },y.2))->Py A o v q r:=fun o ho=>by
    subst ho
    cases hQ:Xw n (A.drop (p+1)) with
    | none=>rw[hQ]at c3;exact c3
    | some pr=>
     obtain⟨⟨nm,b⟩,ts⟩:=pr;rw[hQ]at c3;exact⟨c3.1,by rw[c3.2.1,Es];rfl,c3.2.2⟩
   refine he _ ?_;unfold Xw
   cases C3 (A.drop (p+1)) with
   | none=>rfl
   | some nt=>
    obtain⟨nm,t1⟩:=nt;simp only;rw[if_pos qd]
    cases Ex n t1 with
    | none=>rfl
    | some bl=>rfl
  .rw[if_neg (by decide),if_neg (by decide)];obtain⟨v,q,r,c1,c2,c3⟩:=Pb qf (a:=.row [iV 0,iV 0,.str [],.str [],.nils,iV 0,iV 0,.str [],.nils,.nils,.nils] 68 0 0) (b:=.row [iV (Aa A p).kind,.str (Aa A p).text,iV (Aa A p).line] 100 0 0) (Atr (n:=n) (op:=14) (ln:=(Aa A p).line) hA hT (hS.get (p+1) _) (hS.n2 (p+1) _ _ _ _) (by omega) qj (by omega));have hF:Pm 14=151:=by rfl
   rw[hF];refine⟨v,q,r,c1,c2,?_⟩
   have he:∀ o:Option (Sp × List Tk),o=(Xn n (A.drop (p+1))).map (fun y=>({ An 14 (Aa A p).line with nm:=y.1.1,ex:=y.1.2 },y.2))->Py A o v q r:=fun o ho=>by
    subst ho
    cases hQ:Xn n (A.drop (p+1)) with
    | none=>rw[hQ]at c3;exact c3
    | some pr=>
     obtain⟨⟨nm,x⟩,ts⟩:=pr;rw[hQ]at c3;exact⟨c3.1,by rw[c3.2.1,Es];rfl,c3.2.2⟩
   refine he _ ?_;unfold Xn
   cases C3 (A.drop (p+1)) with
   | none=>rfl
   | some nt=>
    obtain⟨nm,t1⟩:=nt;simp only;rw[if_neg (by decide),if_pos trivial]
    cases pe n 1 t1 with
    | none=>rfl
    | some xr=>
     obtain⟨x,t2⟩:=xr;simp only
     cases Dm [59] t2<;>rfl
  .rw[if_neg (by decide),if_neg (by decide)];obtain⟨v,q,r,c1,c2,c3⟩:=Pb qf (a:=.row [iV 0,iV 0,.str [],.str [],.nils,iV 0,iV 0,.str [],.nils,.nils,.nils] 68 0 0) (b:=.row [iV (Aa A p).kind,.str (Aa A p).text,iV (Aa A p).line] 100 0 0) (Atq (n:=n) (op:=15) (ln:=(Aa A p).line) hA hT (hS.get (p+1) _) (hS.n2 (p+1) _ _ _ _) (by omega) qj (by omega));have hF:Pm 15=152:=by rfl
   rw[hF];refine⟨v,q,r,c1,c2,?_⟩
   have he:∀ o:Option (Sp × List Tk),o=(Xo (A.drop (p+1))).map (fun y=>({ An 15 (Aa A p).line with nm:=y.1.1,arg:=y.1.2 },y.2))->Py A o v q r:=fun o ho=>by
    subst ho
    cases hQ:Xo (A.drop (p+1)) with
    | none=>rw[hQ]at c3;exact c3
    | some pr=>
     obtain⟨⟨nm,ar⟩,ts⟩:=pr;rw[hQ]at c3;exact⟨c3.1,by rw[c3.2.1,Es];rfl,c3.2.2⟩
   refine he _ ?_;unfold Xo
   cases C3 (A.drop (p+1)) with
   | none=>rfl
   | some nt=>
    obtain⟨nm,t1⟩:=nt;simp only;rw[if_neg (by decide),if_neg (by decide),if_pos trivial]
    cases C3 t1 with
    | none=>rfl
    | some nt2=>
     obtain⟨ar,t2⟩:=nt2;simp only
     cases Dm [59] t2<;>rfl
  .rw[if_neg (by omega),if_neg (by omega)];obtain⟨v,q,r,c1,c2,c3⟩:=Pb qf (a:=.row [iV 0,iV 0,.str [],.str [],.nils,iV 0,iV 0,.str [],.nils,.nils,.nils] 68 0 0) (b:=.row [iV (Aa A p).kind,.str (Aa A p).text,iV (Aa A p).line] 100 0 0) (Arn (n:=n) (op:=w) (ln:=(Aa A p).line) hA hT (hS.get (p+1) _) (hS.n2 (p+1) _ _ _ _) (by omega) qj (by omega))
   have hF:Pm w=150:=by rcases qd with rfl | rfl | rfl | rfl | rfl<;>rfl
   rw[hF];refine⟨v,q,r,c1,c2,?_⟩
   have he:∀ o:Option (Sp × List Tk),o=(Xx (A.drop (p+1))).map (fun y=>({ An w (Aa A p).line with nm:=y.1 },y.2))->Py A o v q r:=fun o ho=>by
    subst ho
    cases hQ:Xx (A.drop (p+1)) with
    | none=>rw[hQ]at c3;exact c3
    | some pr=>
     obtain⟨nm,ts⟩:=pr;rw[hQ]at c3;exact⟨c3.1,by rw[c3.2.1,Es];rfl,c3.2.2⟩
   refine he _ ?_;unfold Xx
   cases C3 (A.drop (p+1)) with
   | none=>rfl
   | some nt=>
    obtain⟨nm,t1⟩:=nt;simp only;rw[if_neg (by omega),if_neg (by omega),if_neg (by omega)]
    cases Dm [59] t1<;>rfl
 obtain⟨v,q,r,c1,c2,c3⟩:=hq;have Zq:=Dc hS;obtain⟨-,-,qc,get,get0,set,set0,n0,n1,n2,u0,u1,u2⟩:=hS;have qo:=fun σ=>qo σ
 simp only[if_neg qA]at qo;simp only[go_sem,Zq,LZ];refine Ab qv ?_;simp only[go_sem,Zq,LZ,b1,b3];refine Ab (qo _) ?_;simp only[go_sem,Zq,LZ,qw];refine Ab c1 ?_;unfold Py at c3
 cases hq:He (n+1) (A.drop p) with
 | none=>
  rw[hq]at c3;obtain⟨rfl,d0,d1,d2,d3,d4,d5,d6,d7,d8,d9,qh,rfl,hb⟩:=c3;simp only[go_sem,Zq,LZ,Aes hb];exact B6 (v:=.tup [.agg [d0,d1,d2,d3,d4,d5,d6,d7,d8,d9,qh],.bool false]) (B7 (n0 _ _ _) rfl rfl rfl) (Cq hb) c2 ⟨_,⟨_,_,_,_,_,_,_,_,_,_,_,rfl,hb⟩,rfl⟩
 | some xt=>
  obtain⟨x,ts⟩:=xt;rw[hq]at c3;obtain⟨rfl,rfl,c3⟩:=c3;have ql:=F2 x;have qk:=Es x;rw[qk]at ql ⊢;simp only[go_sem,Zq,LZ];exact B6 (v:=.tup [.agg _,.bool true]) (B7 (n0 _ _ _) rfl rfl rfl) (Cq ql) c2 ⟨by rw[qk],c3⟩
/-! blocks -/
def RW(s σ:St)(m:Nat)(z:Bool)(t:Nat)(A:List Tk)(q:Nat):Prop:=s.length<=σ.length/\(∀ i,i<s.length->i≠m->σ[i]?=s[i]?)/\σ[m]?=some (RO z t A q)/\m<s.length
def Aet{s:St}{m:Nat}{z:Bool}{t:Nat}{A:List Tk}{q:Nat}(h:s[m]?=some (RO z t A q)):RW s s m z t A q:=⟨Ah _,fun _ _ _=>rfl,h,(Ap.1 h).1⟩
def N1{s σ:St}{m:Nat}{z:Bool}{t:Nat}{A:List Tk}{q:Nat}(h:RW s σ m z t A q)(q':Nat):RW s (σ.set m (RO z t A q')) m z t A q':=by
 obtain⟨h1,h2,h3,h4⟩:=h;refine⟨by simpa using h1,fun i hi hm=>?_,Cc (by omega),h4⟩;rw[Bg (Ne.symm hm)];exact h2 i hi hm
def Z7{s σ l:St}{m:Nat}{z:Bool}{t:Nat}{A:List Tk}{q:Nat}(h:RW s σ m z t A q):RW s (σ++l) m z t A q:=by
 obtain⟨h1,h2,h3,h4⟩:=h;refine⟨by simp;omega,fun i hi hm=>?_,Bx h3,h4⟩;rw[Cg (by omega)];exact h2 i hi hm
def O6{s σ τ:St}{m:Nat}{z:Bool}{t:Nat}{A:List Tk}{q:Nat}(h:RW s σ m z t A q)(hl:s.length<=τ.length)(hj:∀ j,j<s.length->τ[j]?=σ[j]?):RW s τ m z t A q:=by
 obtain⟨h1,h2,h3,h4⟩:=h;exact⟨hl,fun i hi hm=>by rw[hj i hi];exact h2 i hi hm,by rw[hj m h4];exact h3,h4⟩
def Am5{s σ:St}{m:Nat}{z:Bool}{t:Nat}{A:List Tk}{q:Nat}(h:RW s σ m z t A q):σ.take s.length=s.set m (RO z t A q):=by
 obtain⟨h1,h2,h3,h4⟩:=h;refine Ry fun i=>?_
 by_cases hi:i<s.length
 .rw[List.getElem?_take_of_lt hi];by_cases hm:i=m
  .subst hm;rw[h3,Cc h4]
  .rw[h2 i hi hm,Bg (Ne.symm hm)]
 .rw[P3 (by simp;omega),P3 (by simp;omega)]
def Am6{s σ:St}{m:Nat}{z:Bool}{t:Nat}{A:List Tk}{q:Nat}(h:RW s σ m z t A q):∀ i ob,i<s.length->σ[i]?=some ob->s[i]?=some ob\/En s.length [] ob.refs=true:=by
 obtain⟨h1,h2,h3,h4⟩:=h;intro i ob hi ho;by_cases hm:i=m
 .subst hm;rw[ho]at h3;cases h3;exact .inr (by rw[Z5];rfl)
 .rw[h2 i hi hm]at ho;exact .inl ho
def A33{z:Bool}{t:Nat}{A:List Tk}{f m q0 k ty:Nat}{res:List AR}{thr:Bool}{body:AC}{s:St}{R:V->Nat->Prop}(hT:TT f=some ⟨1,res,thr,body,none⟩)
  (h:W TT PT [.c body] (C6 0 [.ptr m 0 0]) s (Hd fun e' σ1=>∃ u b xs q,Cd e' σ1 res=some (.tup [u,.bool b])/\GW σ1 k ty s.length u xs/\(0<k/\(∀ r∈xs,r.length=k)/\∀ r∈xs,r.all V.rowB=true)/\RW s σ1 m z t A q/\q<=A.length/\R (.tup [SL true 0 xs,.bool b]) q)):RT f [] s m z t A R:=by
 obtain⟨e',σ1,hE,u,b,xs,q,hr,hg,⟨hk,qc,qz⟩,hw,hq,hR⟩:=h;have qS:=N3 hg hk qc qz;have qg:=Dk hg
 have qs:(SL true 0 xs).refs=[]:=by unfold SL;split<;>rfl
 have qO:(∀ j,j<s.length->(σ1.freeze u.refs)[j]?=σ1[j]?):=by
  intro j hj;rcases hg with⟨rfl,-⟩ | ⟨-,i,g,rfl,ho,qW⟩
  .rfl
  .exact Ar0 _ _ _ (by omega)
 have qp:RW s (σ1.freeze u.refs) m z t A q:=O6 hw (by rw[Nk];exact hw.1) qO;refine⟨_,q,?_,hq,hR⟩;rw[<-Am5 qp];refine Aja hT rfl rfl ⟨e',σ1,hE,.tup [u,.bool b],u.refs,hr,?_,?_,?_,Am6 qp,rfl⟩
 .rcases hg with⟨rfl,-⟩ | ⟨-,i,g,rfl,-⟩<;>rfl
 .have hb:OV σ1 (.bool b) (.bool b):=I6 rfl
  exact congrArg (Option.map V.tup) (Wg (.cons (Z3 qS qg) (.cons hb .nil)) fun j hj=>by
   simpa[Al,V.refs] using hj)
 .show En s.length [] (Al [SL true 0 xs,.bool b])=true;simp only[Al,qs,V.refs,Cm];rfl
def Awc{n:Nat}(hS:∀ k,k<n->PSt k):Rv n:=by
 intro s m z t A p hA hT hs hp hf;have hl:A.length<=1000000:=by have:=hA.len;omega
 have hm:=(Ap.1 hs).1;obtain⟨n,rfl⟩:∃ k,n=k+1:=⟨n - 1,by omega⟩;refine A33 (q0:=p) (k:=11) (ty:=68) T80 ?_;by_cases h1:Ar [123] (A.drop p)=true
 case neg=>
  have h1:Ar [123] (A.drop p)=false:=by simpa using h1
  have ho:Ex (n+1) (A.drop p)=none:=by rw[Ex,if_neg (by rw[h1];decide)]
  have c1:=Pk hs hl hp h1;rw[ho];simp only[go_sem];refine Ab c1 ?_;simp only[go_sem];exact⟨.nils,false,[],p,rfl,F9,⟨by omega,by simp,by simp⟩,Aet hs,hp,rfl⟩
 have ho:Ex (n+1) (A.drop p)=Iy n (A.drop (p+1)):=by rw[Ex,if_pos h1,Dz]
 have c1:=Pj hs hl h1;have qn:=Dt h1;rw[ho];simp only[go_sem];refine Ab c1 ?_;simp only[go_sem];refine Bv (α:=Nat × Nat × V × List Sp × St) (fun a=>a.1) (fun a=>[(0,.ptr m 0 0),(4,a.2.2.1)]) (fun a=>a.2.2.2.2) (fun a=>a.1<=n/\a.2.1<=A.length/\10*(A.length - a.2.1)+11<=a.1/\RW s a.2.2.2.2 m z t A a.2.1/\GW a.2.2.2.2 11 68 s.length a.2.2.1 (a.2.2.2.1.map Sp.row)/\Iy n (A.drop (p+1))=(Iy a.1 (A.drop a.2.1)).map (fun y=>(a.2.2.2.1++y.1,y.2))/\a.2.2.2.1.length<=a.2.1) ?_ (n,p+1,.nils,[],s.set m (RO z t A (p+1))) ⟨Ah _,qn,by simp only;omega,N1 (Aet hs) _,F9,by simp only[Fd];cases Iy n (A.drop (p+1))<;>rfl,by simp⟩;rintro⟨k,q,u,L,σ⟩ ⟨qR,hq,qN,hw,hg,qa,qM⟩ ih;simp only at qR hq qN hw hg qa qM ih;obtain⟨k,rfl⟩:∃ j,k=j+1:=⟨k - 1,by omega⟩
 have qJ:∀ r∈L.map Sp.row,r.length=11:=by
  intro r hr;obtain⟨x,-,rfl⟩:=Dq.1 hr;exact Lr x
 have qT:∀ r∈L.map Sp.row,r.all V.rowB=true:=by
  intro r hr;obtain⟨x,-,rfl⟩:=Dq.1 hr;exact F2 x
 refine Bw (by delta lp80_0;exact rfl) ?_;by_cases h2:Ar [125] (A.drop q)=true
 .have c2:=Pj hw.2.2.1 hl h2;have qr:=Dt h2;have qx:Iy (k+1) (A.drop q)=some ([],A.drop (q+1)):=by rw[Iy,if_pos h2,Dz]
  rw[qx]at qa;simp only[go_sem];refine Ab c2 ?_;simp only[go_sem];refine⟨u,true,_,q+1,rfl,Fx hg hm,⟨by omega,qJ,qT⟩,N1 hw _,qr,?_⟩;rw[qa];simp only[Fp,Cm];exact⟨rfl,rfl⟩
 .have h2:Ar [125] (A.drop q)=false:=by simpa using h2
  have c2:=Pk hw.2.2.1 hl hq h2;obtain⟨v,q2,c3,qI,h3⟩:=hS k (by omega) σ m z t A q hA hT hw.2.2.1 hq (by omega);have qp:=N1 hw q2;have qH:GW (σ.set m (RO z t A q2)) 11 68 s.length u (L.map Sp.row):=Fx hg hm
  have qx:Iy (k+1) (A.drop q)=match He k (A.drop q) with
    | none=>none
    | some (x,r)=>match Iy k r with
     | none=>none
     | some (l,r)=>some (x::l,r):=by
   rw[Iy,if_neg (by rw[h2];decide)];rfl
  rw[qx]at qa;generalize σ.set m (RO z t A q2)=τ at c3 qp qH;have qK:∀ a:Ob,(τ++[a])[τ.length]?=some a:=fun a=>by simp
  have qL:∀ a b:Ob,(τ++[a]).set τ.length b=τ++[b]:=fun a b=>by simp[Ie]
  unfold PRs at h3
  cases hps:He k (A.drop q) with
  | none=>
   rw[hps]at h3 qa;obtain⟨_,⟨d0,d1,d2,d3,d4,d5,d6,d7,d8,d9,qh,rfl,hb⟩,rfl⟩:=h3;simp only[go_sem];refine Ab c2 ?_;simp only[go_sem];refine Ab c3 ?_;simp only[go_sem,qK,qL,Aes hb];refine⟨.nils,false,[],q2,rfl,F9,⟨by omega,by simp,by simp⟩,Z7 qp,qI,?_⟩;rw[qa];rfl
  | some xr=>
   obtain⟨x,r⟩:=xr;rw[hps]at h3 qa;obtain⟨rfl,h3⟩:=h3;have ql:=F2 x;have qk:=Es x
   have qr:r.length<A.length - q:=by
    have:=((Zp (M:=0) (C:=100) (by omega) k).1 _ _ _ (C5 hT (U7 q A)) hps).2.2.1;rw[Dn]at this;exact this
   have qX:r.length=A.length - q2:=by rw[<-h3,Dn]
   have qB:RW s (τ++[.row x.row 68 0 0]) m z t A q2:=Z7 qp;have qP:GW (τ++[.row x.row 68 0 0]) 11 68 s.length u (L.map Sp.row):=O5 qH;have qV:L.length<=1000000:=by omega
   obtain⟨u',s3,ha,qQ,l3,-,f3⟩:=Q5 (bytes:=176) (y:=.lst 1 [x.row]) (ys:=[x.row]) qP (by have:=qB.1;omega) rfl (by omega) qJ (by simp[Lr]) (by simp;omega);have qU:RW s s3 m z t A q2:=O6 qB (by have:=qB.1;omega) f3;have qg:=Dk hg;rw[qk]at c3 ql ha;simp only[go_sem];refine Ab c2 ?_;simp only[go_sem];refine Ab c3 ?_;simp only[go_sem,qK,qL,ha];refine Bd (ih (k,q2,u',L++[x],s3) (by simp) ⟨by simp only;omega,qI,by simp only;omega,qU,by simpa using qQ,?_,by simp;omega⟩) rfl;simp only;rw[qa,h3];simp only
   cases Iy k r with
   | none=>rfl
   | some y=>simp
def Ak9:∀ n,PSt n/\Rv n:=by
 intro n
 induction n using Nat.strongRecOn with
 | ind n ih=>exact⟨Awb fun k hk=>(ih k hk).2,Awc fun k hk=>(ih k hk).1⟩
