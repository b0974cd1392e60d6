/- Walks: the parser's statements and blocks. -/
import Derived.Test.YtphikjgngompaacGreatDoorLq
set_option linter.all false
namespace Go.Proofs.YtphikjgngompaacGreatDoor.KM
open Go
def S3(w:Int):Nat:=if w=2 then 202 else if w=3 then 203 else if w<=6 then 204 else if w<=8 then 205 else if w<=13 then 206 else if w=14 then 207 else 208
def Bck(w:List UInt8)(s:St):Bw TT PT 179 [.str w] s (.tup [iV (Es w),if Es w=0 then .nilf else .fn (S3 (Es w)) [] []]) s:=by
 suffices h:∃ v s',Bw TT PT 179 [.str w] s v s'/\(v=.tup [iV (Es w),if Es w=0 then .nilf else .fn (S3 (Es w)) [] []]/\s'=s) by
  obtain⟨v,s',h1,rfl,rfl⟩:=h;exact h1
 refine Awx T179 rfl ?_;by_cases a1:w=[105,102]
 .subst a1;have e1:(([105,102]:List UInt8)==[105,102])=true:=by decide
  simp only[go_sem,e1];exact⟨_,rfl,⟨rfl,rfl⟩,fun i ob _ h=>.inl h,rfl,Dh⟩
 have e1:(w==[105,102])=false:=by simp[a1]
 by_cases a2:w=[119,104,105,108,101]
 .subst a2;have e2:(([119,104,105,108,101]:List UInt8)==[119,104,105,108,101])=true:=by decide
  simp only[go_sem,e1,e2];exact⟨_,rfl,⟨rfl,rfl⟩,fun i ob _ h=>.inl h,rfl,Dh⟩
 have e2:(w==[119,104,105,108,101])=false:=by simp[a2]
 by_cases a3:w=[108,111,99,107]
 .subst a3;have e3:(([108,111,99,107]:List UInt8)==[108,111,99,107])=true:=by decide
  simp only[go_sem,e1,e2,e3];exact⟨_,rfl,⟨rfl,rfl⟩,fun i ob _ h=>.inl h,rfl,Dh⟩
 have e3:(w==[108,111,99,107])=false:=by simp[a3]
 by_cases a4:w=[114,101,97,100]
 .subst a4;have e4:(([114,101,97,100]:List UInt8)==[114,101,97,100])=true:=by decide
  simp only[go_sem,e1,e2,e3,e4];exact⟨_,rfl,⟨rfl,rfl⟩,fun i ob _ h=>.inl h,rfl,Dh⟩
 have e4:(w==[114,101,97,100])=false:=by simp[a4]
 by_cases a5:w=[119,114,105,116,101]
 .subst a5;have e5:(([119,114,105,116,101]:List UInt8)==[119,114,105,116,101])=true:=by decide
  simp only[go_sem,e1,e2,e3,e4,e5];exact⟨_,rfl,⟨rfl,rfl⟩,fun i ob _ h=>.inl h,rfl,Dh⟩
 have e5:(w==[119,114,105,116,101])=false:=by simp[a5]
 by_cases a6:w=[116,114,97,110,115,97,99,116,105,111,110]
 .subst a6;have e6:(([116,114,97,110,115,97,99,116,105,111,110]:List UInt8)==[116,114,97,110,115,97,99,116,105,111,110])=true:=by decide
  simp only[go_sem,e1,e2,e3,e4,e5,e6];exact⟨_,rfl,⟨rfl,rfl⟩,fun i ob _ h=>.inl h,rfl,Dh⟩
 have e6:(w==[116,114,97,110,115,97,99,116,105,111,110])=false:=by simp[a6]
 by_cases a7:w=[97,116,111,109,105,99]
 .subst a7;have e7:(([97,116,111,109,105,99]:List UInt8)==[97,116,111,109,105,99])=true:=by decide
  simp only[go_sem,e1,e2,e3,e4,e5,e6,e7];exact⟨_,rfl,⟨rfl,rfl⟩,fun i ob _ h=>.inl h,rfl,Dh⟩
 have e7:(w==[97,116,111,109,105,99])=false:=by simp[a7]
 by_cases a8:w=[119,97,105,116]
 .subst a8;have e8:(([119,97,105,116]:List UInt8)==[119,97,105,116])=true:=by decide
  simp only[go_sem,e1,e2,e3,e4,e5,e6,e7,e8];exact⟨_,rfl,⟨rfl,rfl⟩,fun i ob _ h=>.inl h,rfl,Dh⟩
 have e8:(w==[119,97,105,116])=false:=by simp[a8]
 by_cases a9:w=[110,111,116,105,102,121]
 .subst a9;have e9:(([110,111,116,105,102,121]:List UInt8)==[110,111,116,105,102,121])=true:=by decide
  simp only[go_sem,e1,e2,e3,e4,e5,e6,e7,e8,e9];exact⟨_,rfl,⟨rfl,rfl⟩,fun i ob _ h=>.inl h,rfl,Dh⟩
 have e9:(w==[110,111,116,105,102,121])=false:=by simp[a9]
 by_cases qA:w=[110,111,116,105,102,121,97,108,108]
 .subst qA;have qe:(([110,111,116,105,102,121,97,108,108]:List UInt8)==[110,111,116,105,102,121,97,108,108])=true:=by decide
  simp only[go_sem,e1,e2,e3,e4,e5,e6,e7,e8,e9,qe];exact⟨_,rfl,⟨rfl,rfl⟩,fun i ob _ h=>.inl h,rfl,Dh⟩
 have qe:(w==[110,111,116,105,102,121,97,108,108])=false:=by simp[qA]
 by_cases qB:w=[115,112,97,119,110]
 .subst qB;have qi:(([115,112,97,119,110]:List UInt8)==[115,112,97,119,110])=true:=by decide
  simp only[go_sem,e1,e2,e3,e4,e5,e6,e7,e8,e9,qe,qi];exact⟨_,rfl,⟨rfl,rfl⟩,fun i ob _ h=>.inl h,rfl,Dh⟩
 have qi:(w==[115,112,97,119,110])=false:=by simp[qB]
 by_cases qC:w=[106,111,105,110]
 .subst qC;have qm:(([106,111,105,110]:List UInt8)==[106,111,105,110])=true:=by decide
  simp only[go_sem,e1,e2,e3,e4,e5,e6,e7,e8,e9,qe,qi,qm];exact⟨_,rfl,⟨rfl,rfl⟩,fun i ob _ h=>.inl h,rfl,Dh⟩
 have qm:(w==[106,111,105,110])=false:=by simp[qC]
 by_cases qD:w=[115,101,116]
 .subst qD;have qq:(([115,101,116]:List UInt8)==[115,101,116])=true:=by decide
  simp only[go_sem,e1,e2,e3,e4,e5,e6,e7,e8,e9,qe,qi,qm,qq];exact⟨_,rfl,⟨rfl,rfl⟩,fun i ob _ h=>.inl h,rfl,Dh⟩
 have qq:(w==[115,101,116])=false:=by simp[qD]
 by_cases qE:w=[103,101,116]
 .subst qE;have qs:(([103,101,116]:List UInt8)==[103,101,116])=true:=by decide
  simp only[go_sem,e1,e2,e3,e4,e5,e6,e7,e8,e9,qe,qi,qm,qq,qs];exact⟨_,rfl,⟨rfl,rfl⟩,fun i ob _ h=>.inl h,rfl,Dh⟩
 have qs:(w==[103,101,116])=false:=by simp[qE]
 have hz:Es w=0:=by
  unfold Es wordTab;simp only[Ag2,e1,e2,e3,e4,e5,e6,e7,e8,e9,qe,qi,qm,qq,qs];rfl
 rw[hz];simp only[go_sem,e1,e2,e3,e4,e5,e6,e7,e8,e9,qe,qi,qm,qq,qs];exact⟨_,rfl,⟨rfl,rfl⟩,fun i ob _ h=>.inl h,rfl,Dh⟩
def Aj1{d0 d1 d2 d3 d4 d5 d6 d7 d8 d9 qh:V}(h:[d0,d1,d2,d3,d4,d5,d6,d7,d8,d9,qh].all V.rowB=true):(d0.cellB&&(d1.cellB&&(d2.cellB&&(d3.cellB&&(d4.cellB&&(d5.cellB&&(d6.cellB&&(d7.cellB&&(d8.cellB&&(d9.cellB&&qh.cellB))))))))))=true:=by
 simp_all [Pg]
def PRs(A:List Tk)(o:Option (Sp × List Tk))(v:V)(p':Nat):Prop:=match o with
 | some (x,r)=>v=.tup [.agg x.row,.bool true]/\A.drop p'=r
 | none=>∃ r:List V,Q4 r/\v=.tup [.agg r,.bool false]
def PSt(n:Nat):Prop:=∀ (s:St) (m:Nat) (z:Bool) (t:Nat) (A:List Tk) (p:Nat),OkA A->D9 A->s[m]?=some (RO z t A p)->p<=A.length->10*(A.length - p)+10<=n->RT 148 [] s m z t A (PRs A (I7 n (A.drop p)))
def Si{s:St}{m:Nat}{z:Bool}{t:Nat}{A:List Tk}{S:Nat->St}(hS:RdS s m z t A S){f p:Nat}{a b:Ob}{r0:List V}{R:V->Nat->List V->Prop}(h:P8 f (S p++[a,b,.row r0 100 0 0]) m (s.length+2) z t A R):
  ∃ v q r',Bw TT PT f [.ptr m 0 0,.ptr (s.length+2) 0 0] (S p++[a,b,.row r0 100 0 0]) v (S q++[a,b,.row r' 100 0 0])/\q<=A.length/\R v q r':=by
 obtain⟨v,q,r',h1,h2,h3⟩:=h;rw[show(S p++[a,b,.row r0 100 0 0]).set m (RO z t A q)=S q++[a,b,.row r0 100 0 0] from hS.set p q _,hS.u2]at h1
 grind
def Tc(A:List Tk)(o:Option (Sp × List Tk))(v:V)(q:Nat)(r:List V):Prop:=match o with
 | some (x,ts)=>v=.bool true/\r=x.row/\A.drop q=ts
 | none=>v=.bool false/\Q4 r
theorem A7z{n:Nat}(hB:∀ k,k<n->Vf k):PSt n:=by
 intro s m z t A p hA hT hs hp hf;obtain⟨n,rfl⟩:∃ k,n=k+1:=⟨n - 1,by omega⟩;have hB:=hB n (Vm n);refine Lu T148 rfl hs fun S hS=>?_
 have hl:A.length<=1000000:=by have:=hA.len;omega
 have qf:=hS;have hm:=hS.low;have qt:=Sh (hS.get p [sP 0 0 [] []]) hl hp;by_cases h1:(Ag A p).kind=1
 .have b1:((Ag A p).kind==1)=true:=by simp[h1]
  have qn:=Ad4 (A:=A) (p:=p) AA;have ho:I7 (n+1) (A.drop p)=U8 n (Ag A p).line (A.drop p):=by rw[Mn qn,I7,if_pos h1]
  obtain⟨v,q,r,c1,c2,c3⟩:=Si qf (a:=sP 0 0 [] []) (b:=Bn (Ag A p))
   (A0j (n:=n) (ln:=(Ag A p).line) hA hT (hS.get p _) (hS.n2 p _ _ _ _) AA hp AA)
  rw[ho];have Zq:=Dv hS;obtain⟨-,-,qc,get,get0,set,set0,n0,n1,n2,u0,u1,u2⟩:=hS;simp only[go_sem,Zq,LZ];refine Aa qt ?_;simp only[go_sem,Zq,LZ,b1];refine Aa c1 ?_
  cases hq:U8 n (Ag A p).line (A.drop p) with
  | none=>
   rw[hq]at c3;obtain⟨rfl,d0,d1,d2,d3,d4,d5,d6,d7,d8,d9,qh,rfl,hb⟩:=c3;simp only[go_sem,Zq,LZ,Aj1 hb];exact Cg (v:=.tup [.agg [d0,d1,d2,d3,d4,d5,d6,d7,d8,d9,qh],.bool false]) (Ch (n0 _ _ _) rfl rfl rfl) (Cw hb) c2 ⟨_,⟨_,_,_,_,_,_,_,_,_,_,_,rfl,hb⟩,rfl⟩
  | some xt=>
   obtain⟨x,ts⟩:=xt;rw[hq]at c3;obtain⟨rfl,rfl,c3⟩:=c3;have ql:=He x;have qk:=Fr x;rw[qk]at ql ⊢;simp only[go_sem,Zq,LZ];exact Cg (v:=.tup [.agg _,.bool true]) (Ch (n0 _ _ _) rfl rfl rfl) (Cw ql) c2 ⟨by rw[qk],c3⟩
 have b1:((Ag A p).kind==1)=false:=by simp[h1]
 by_cases h3:(Ag A p).kind=3
 case neg=>
  have b3:((Ag A p).kind==3)=false:=by simp[h3]
  have ho:I7 (n+1) (A.drop p)=none:=by
   rcases Az p A.length with h | h
   .rw[Mn h,I7,if_neg h1,if_neg h3]
   .rw[(K7 h).1];simp[I7]
  rw[ho];have Zq:=Dv hS;obtain⟨-,-,qc,get,get0,set,set0,n0,n1,n2,u0,u1,u2⟩:=hS;simp only[go_sem,Zq,LZ];refine Aa qt ?_;simp only[go_sem,Zq,LZ,b1,b3];exact Cg (v:=.tup [.agg _,.bool false]) (Ch (n0 _ _ _) rfl rfl rfl) (Cw rfl) hp ⟨_,⟨_,_,_,_,_,_,_,_,_,_,_,rfl,rfl⟩,rfl⟩
 have b3:((Ag A p).kind==3)=true:=by simp[h3]
 have qn:=Ad4 (A:=A) (p:=p) AA;have qo:=fun σ=>Bck (Ag A p).text σ
 have qw:=Asb (Ag A p).text;have qu:=Aw (show p<9223372036854775807 by omega);have qj:p+1<=A.length:=qn;have qb:I7 (n+1) (A.drop p)=I7 (n+1) (Ag A p::A.drop (p+1)):=by rw[<-Mn qn]
 rw[I7,if_neg h1,if_pos h3]at qb;generalize hw:Es (Ag A p).text=w at qo qw qb;by_cases qy:w=0
 .subst qy;rw[if_pos rfl]at qb;rw[qb];have Zq:=Dv hS;obtain⟨-,-,qc,get,get0,set,set0,n0,n1,n2,u0,u1,u2⟩:=hS;simp only[go_sem,Zq,LZ];refine Aa qt ?_;simp only[go_sem,Zq,LZ,b1,b3];refine Aa (qo _) ?_;simp only[go_sem,Zq,LZ];exact Cg (v:=.tup [.agg _,.bool false]) (Ch (n0 _ _ _) rfl rfl rfl) (Cw rfl) hp ⟨_,⟨_,_,_,_,_,_,_,_,_,_,_,rfl,rfl⟩,rfl⟩
 rw[if_neg qy]at qb
 have hq:∃ v q r,Bw TT PT (S3 w) [.ptr m 0 0,.ptr (s.length+2) 0 0] (S (p+1)++[sP 0 0 [] [],Bn (Ag A p),.row [iV w,iV (Ag A p).line,.str [],.str [],.nils,iV 0,iV 0,.str [],.nils,.nils,.nils] 100 0 0]) v (S q++[sP 0 0 [] [],Bn (Ag A p),.row r 100 0 0])/\q<=A.length/\Tc A (I7 (n+1) (A.drop p)) v q r:=by
  rw[qb];have qd:w=2\/w=3\/(w=7\/w=8)\/(w=4\/w=5\/w=6)\/w=14\/w=15\/(w=9\/w=10\/w=11\/w=12\/w=13):=by omega
  rcases qd with rfl | rfl | qd | qd | rfl | rfl | qd
  .obtain⟨v,q,r,c1,c2,c3⟩:=Si qf (a:=sP 0 0 [] []) (b:=Bn (Ag A p)) (A14 (n:=n) (op:=2) (ln:=(Ag A p).line) hB hA hT (hS.get (p+1) _) (hS.n2 (p+1) _ _ _ _) AA qj AA);refine⟨v,q,r,c1,c2,?_⟩;rw[if_pos (.inl rfl)]
   have he:∀ o:Option (Sp × List Tk),o=(Aau n (A.drop (p+1))).map (fun y=>({ Au 2 (Ag A p).line with ex:=y.1.1,body:=y.1.2.1,els:=y.1.2.2 },y.2))->Tc A o v q r:=fun o ho=>by
    subst ho
    cases hQ:Aau n (A.drop (p+1)) with
    | none=>rw[hQ]at c3;exact c3
    | some pr=>
     obtain⟨⟨x,b,e⟩,ts⟩:=pr;rw[hQ]at c3;exact⟨c3.1,by rw[c3.2.1,Fr];rfl,c3.2.2⟩
   refine he _ ?_;unfold Aau Ni
   cases pe n 1 (A.drop (p+1)) with
   | none=>rfl
   | some xr=>
    obtain⟨x,t1⟩:=xr;simp only
    cases Fz n t1 with
    | none=>rfl
    | some bl=>
     obtain⟨b,t2⟩:=bl;simp only;by_cases hE:A0 [101,108,115,101] t2=true
     .rw[if_pos ⟨trivial,hE⟩,if_pos hE]
      cases Fz n t2.tail with
      | none=>rfl
      | some el=>rfl
     .rw[if_neg (fun h=>hE h.2),if_neg hE];rfl
  .obtain⟨v,q,r,c1,c2,c3⟩:=Si qf (a:=sP 0 0 [] []) (b:=Bn (Ag A p)) (Aoy (n:=n) (op:=3) (ln:=(Ag A p).line) hB hA hT (hS.get (p+1) _) (hS.n2 (p+1) _ _ _ _) AA qj AA);refine⟨v,q,r,c1,c2,?_⟩;rw[if_pos (.inr rfl)]
   have he:∀ o:Option (Sp × List Tk),o=(Ni n (A.drop (p+1))).map (fun y=>({ Au 3 (Ag A p).line with ex:=y.1.1,body:=y.1.2 },y.2))->Tc A o v q r:=fun o ho=>by
    subst ho
    cases hQ:Ni n (A.drop (p+1)) with
    | none=>rw[hQ]at c3;exact c3
    | some pr=>
     obtain⟨⟨x,b⟩,ts⟩:=pr;rw[hQ]at c3;exact⟨c3.1,by rw[c3.2.1,Fr];rfl,c3.2.2⟩
   refine he _ ?_;unfold Ni
   cases pe n 1 (A.drop (p+1)) with
   | none=>rfl
   | some xr=>
    obtain⟨x,t1⟩:=xr;simp only
    cases Fz n t1 with
    | none=>rfl
    | some bl=>
     obtain⟨b,t2⟩:=bl;simp only;rw[if_neg (fun h=>absurd h.1 AM)];rfl
  .rw[if_neg AA,if_pos qd];obtain⟨v,q,r,c1,c2,c3⟩:=Si qf (a:=sP 0 0 [] []) (b:=Bn (Ag A p)) (Aic (n:=n) (c0:=iV w) (c1:=iV (Ag A p).line) (c2:=.str []) (c3:=.str []) (c4:=.nils) (c5:=iV 0) (c6:=iV 0) (c7:=.str []) (c8:=.nils) (c9:=.nils) (c10:=.nils) hB hA hT (hS.get (p+1) _) (hS.n2 (p+1) _ _ _ _) AA qj rfl AA)
   have hF:S3 w=205:=by rcases qd with rfl | rfl<;>rfl
   rw[hF];refine⟨v,q,r,c1,c2,?_⟩
   cases hQ:Fz n (A.drop (p+1)) with
   | none=>
    rw[hQ]at c3;obtain⟨h9,qF⟩:=c3;exact⟨h9,_,_,_,_,_,_,_,_,_,_,_,qF,by rw[qF];rfl⟩
   | some pr=>
    obtain⟨b,ts⟩:=pr;rw[hQ]at c3;exact⟨c3.1,by rw[c3.2.1,Fr];rfl,c3.2.2⟩
  .rw[if_neg AA,if_neg AA];obtain⟨v,q,r,c1,c2,c3⟩:=Si qf (a:=sP 0 0 [] []) (b:=Bn (Ag A p)) (A7y (n:=n) (op:=w) (ln:=(Ag A p).line) hB hA hT (hS.get (p+1) _) (hS.n2 (p+1) _ _ _ _) AA qj AA)
   have hF:S3 w=204:=by rcases qd with rfl | rfl | rfl<;>rfl
   rw[hF];refine⟨v,q,r,c1,c2,?_⟩
   have he:∀ o:Option (Sp × List Tk),o=(qNB n (A.drop (p+1))).map (fun y=>({ Au w (Ag A p).line with nm:=y.1.1,body:=y.1.2 },y.2))->Tc A o v q r:=fun o ho=>by
    subst ho
    cases hQ:qNB n (A.drop (p+1)) with
    | none=>rw[hQ]at c3;exact c3
    | some pr=>
     obtain⟨⟨nm,b⟩,ts⟩:=pr;rw[hQ]at c3;exact⟨c3.1,by rw[c3.2.1,Fr];rfl,c3.2.2⟩
   refine he _ ?_;unfold qNB
   cases Dg (A.drop (p+1)) with
   | none=>rfl
   | some nt=>
    obtain⟨nm,t1⟩:=nt;simp only;rw[if_pos qd]
    cases Fz n t1 with
    | none=>rfl
    | some bl=>rfl
  .rw[if_neg AM,if_neg AM];obtain⟨v,q,r,c1,c2,c3⟩:=Si qf (a:=sP 0 0 [] []) (b:=Bn (Ag A p)) (A38 (n:=n) (op:=14) (ln:=(Ag A p).line) hA hT (hS.get (p+1) _) (hS.n2 (p+1) _ _ _ _) AA qj AA);have hF:S3 14=207:=by rfl
   rw[hF];refine⟨v,q,r,c1,c2,?_⟩
   have he:∀ o:Option (Sp × List Tk),o=(Aa4 n (A.drop (p+1))).map (fun y=>({ Au 14 (Ag A p).line with nm:=y.1.1,ex:=y.1.2 },y.2))->Tc A o v q r:=fun o ho=>by
    subst ho
    cases hQ:Aa4 n (A.drop (p+1)) with
    | none=>rw[hQ]at c3;exact c3
    | some pr=>
     obtain⟨⟨nm,x⟩,ts⟩:=pr;rw[hQ]at c3;exact⟨c3.1,by rw[c3.2.1,Fr];rfl,c3.2.2⟩
   refine he _ ?_;unfold Aa4
   cases Dg (A.drop (p+1)) with
   | none=>rfl
   | some nt=>
    obtain⟨nm,t1⟩:=nt;simp only;rw[if_neg AM,if_pos trivial]
    cases pe n 1 t1 with
    | none=>rfl
    | some xr=>
     obtain⟨x,t2⟩:=xr;simp only
     cases Ea [59] t2<;>rfl
  .rw[if_neg AM,if_neg AM];obtain⟨v,q,r,c1,c2,c3⟩:=Si qf (a:=sP 0 0 [] []) (b:=Bn (Ag A p)) (A37 (n:=n) (op:=15) (ln:=(Ag A p).line) hA hT (hS.get (p+1) _) (hS.n2 (p+1) _ _ _ _) AA qj AA);have hF:S3 15=208:=by rfl
   rw[hF];refine⟨v,q,r,c1,c2,?_⟩
   have he:∀ o:Option (Sp × List Tk),o=(Aa5 (A.drop (p+1))).map (fun y=>({ Au 15 (Ag A p).line with nm:=y.1.1,arg:=y.1.2 },y.2))->Tc A o v q r:=fun o ho=>by
    subst ho
    cases hQ:Aa5 (A.drop (p+1)) with
    | none=>rw[hQ]at c3;exact c3
    | some pr=>
     obtain⟨⟨nm,ar⟩,ts⟩:=pr;rw[hQ]at c3;exact⟨c3.1,by rw[c3.2.1,Fr];rfl,c3.2.2⟩
   refine he _ ?_;unfold Aa5
   cases Dg (A.drop (p+1)) with
   | none=>rfl
   | some nt=>
    obtain⟨nm,t1⟩:=nt;simp only;rw[if_neg AM,if_neg AM,if_pos trivial]
    cases Dg t1 with
    | none=>rfl
    | some nt2=>
     obtain⟨ar,t2⟩:=nt2;simp only
     cases Ea [59] t2<;>rfl
  .rw[if_neg AA,if_neg AA];obtain⟨v,q,r,c1,c2,c3⟩:=Si qf (a:=sP 0 0 [] []) (b:=Bn (Ag A p)) (A0z (n:=n) (op:=w) (ln:=(Ag A p).line) hA hT (hS.get (p+1) _) (hS.n2 (p+1) _ _ _ _) AA qj AA)
   have hF:S3 w=206:=by rcases qd with rfl | rfl | rfl | rfl | rfl<;>rfl
   rw[hF];refine⟨v,q,r,c1,c2,?_⟩
   have he:∀ o:Option (Sp × List Tk),o=(qNm (A.drop (p+1))).map (fun y=>({ Au w (Ag A p).line with nm:=y.1 },y.2))->Tc A o v q r:=fun o ho=>by
    subst ho
    cases hQ:qNm (A.drop (p+1)) with
    | none=>rw[hQ]at c3;exact c3
    | some pr=>
     obtain⟨nm,ts⟩:=pr;rw[hQ]at c3;exact⟨c3.1,by rw[c3.2.1,Fr];rfl,c3.2.2⟩
   refine he _ ?_;unfold qNm
   cases Dg (A.drop (p+1)) with
   | none=>rfl
   | some nt=>
    obtain⟨nm,t1⟩:=nt;simp only;rw[if_neg AA,if_neg AA,if_neg AA]
    cases Ea [59] t1<;>rfl
 obtain⟨v,q,r,c1,c2,c3⟩:=hq;have Zq:=Dv hS;obtain⟨-,-,qc,get,get0,set,set0,n0,n1,n2,u0,u1,u2⟩:=hS;have qo:=fun σ=>qo σ
 simp only[if_neg qy]at qo;simp only[go_sem,Zq,LZ];refine Aa qt ?_;simp only[go_sem,Zq,LZ,b1,b3];refine Aa (qo _) ?_;simp only[go_sem,Zq,LZ,qu];refine Aa c1 ?_;unfold Tc at c3
 cases hq:I7 (n+1) (A.drop p) with
 | none=>
  rw[hq]at c3;obtain⟨rfl,d0,d1,d2,d3,d4,d5,d6,d7,d8,d9,qh,rfl,hb⟩:=c3;simp only[go_sem,Zq,LZ,Aj1 hb];exact Cg (v:=.tup [.agg [d0,d1,d2,d3,d4,d5,d6,d7,d8,d9,qh],.bool false]) (Ch (n0 _ _ _) rfl rfl rfl) (Cw hb) c2 ⟨_,⟨_,_,_,_,_,_,_,_,_,_,_,rfl,hb⟩,rfl⟩
 | some xt=>
  obtain⟨x,ts⟩:=xt;rw[hq]at c3;obtain⟨rfl,rfl,c3⟩:=c3;have ql:=He x;have qk:=Fr x;rw[qk]at ql ⊢;simp only[go_sem,Zq,LZ];exact Cg (v:=.tup [.agg _,.bool true]) (Ch (n0 _ _ _) rfl rfl rfl) (Cw ql) c2 ⟨by rw[qk],c3⟩
/-! blocks -/
def RW(s σ:St)(m:Nat)(z:Bool)(t:Nat)(A:List Tk)(q:Nat):Prop:=s.length<=σ.length/\(∀ i,i<s.length->i≠m->σ[i]?=s[i]?)/\σ[m]?=some (RO z t A q)/\m<s.length
def Aj2{s:St}{m:Nat}{z:Bool}{t:Nat}{A:List Tk}{q:Nat}(h:s[m]?=some (RO z t A q)):RW s s m z t A q:=⟨Am _,fun _ _ _=>rfl,h,(An.1 h).1⟩
def Qy{s σ:St}{m:Nat}{z:Bool}{t:Nat}{A:List Tk}{q:Nat}(h:RW s σ m z t A q)(q':Nat):RW s (σ.set m (RO z t A q')) m z t A q':=by
 obtain⟨h1,h2,h3,h4⟩:=h;refine⟨by grind,fun i hi hm=>?_,Cf AA,h4⟩
 grind
def Ad5{s σ l:St}{m:Nat}{z:Bool}{t:Nat}{A:List Tk}{q:Nat}(h:RW s σ m z t A q):RW s (σ++l) m z t A q:=by
 obtain⟨h1,h2,h3,h4⟩:=h;refine⟨by grind,fun i hi hm=>?_,Bt h3,h4⟩
 grind
def R6{s σ τ:St}{m:Nat}{z:Bool}{t:Nat}{A:List Tk}{q:Nat}(h:RW s σ m z t A q)(hl:s.length<=τ.length)(hj:∀ j,j<s.length->τ[j]?=σ[j]?):RW s τ m z t A q:=by
 obtain⟨h1,h2,h3,h4⟩:=h;exact⟨hl,fun i hi hm=>by grind,by grind,h4⟩
def Au6{s σ:St}{m:Nat}{z:Bool}{t:Nat}{A:List Tk}{q:Nat}(h:RW s σ m z t A q):σ.take s.length=s.set m (RO z t A q):=by
 obtain⟨h1,h2,h3,h4⟩:=h;refine Tf fun i=>?_
 grind
def Au7{s σ:St}{m:Nat}{z:Bool}{t:Nat}{A:List Tk}{q:Nat}(h:RW s σ m z t A q):∀ i ob,i<s.length->σ[i]?=some ob->s[i]?=some ob\/Ej s.length [] ob.refs=true:=by
 obtain⟨h1,h2,h3,h4⟩:=h;intro i ob hi ho;by_cases hm:i=m
 .subst hm;rw[ho]at h3;cases h3;exact .inr (by rw[Ad3];rfl)
 grind
def Bhh{z:Bool}{t:Nat}{A:List Tk}{f m q0 k ty:Nat}{res:List AR}{thr:Bool}{body:AC}{s:St}{R:V->Nat->Prop}(hT:TT f=some ⟨1,res,thr,body,none⟩)
  (h:W TT PT [.c body] (C7 0 [.ptr m 0 0]) s (Hd fun e' σ1=>∃ u b xs q,Ca e' σ1 res=some (.tup [u,.bool b])/\GW σ1 k ty s.length u xs/\(0<k/\(∀ r∈xs,r.length=k)/\∀ r∈xs,r.all V.rowB=true)/\RW s σ1 m z t A q/\q<=A.length/\R (.tup [SL true 0 xs,.bool b]) q)):RT f [] s m z t A R:=by
 obtain⟨e',σ1,hE,u,b,xs,q,hr,hg,⟨hk,qc,qx⟩,hw,hq,hR⟩:=h;have qR:=J3 hg hk qc qx;have qg:=B8 hg
 have qI:(SL true 0 xs).refs=[]:=by unfold SL;split<;>rfl
 have qO:(∀ j,j<s.length->(σ1.freeze u.refs)[j]?=σ1[j]?):=by
  intro j hj;rcases hg with⟨rfl,-⟩ | ⟨-,i,g,rfl,ho,qW⟩
  .rfl
  .exact Aoi _ _ _ AA
 have qp:RW s (σ1.freeze u.refs) m z t A q:=R6 hw (by rw[Qj];exact hw.1) qO;refine⟨_,q,?_,hq,hR⟩;rw[<-Au6 qp];refine Api hT rfl rfl ⟨e',σ1,hE,.tup [u,.bool b],u.refs,hr,?_,?_,?_,Au7 qp,rfl⟩
 .rcases hg with⟨rfl,-⟩ | ⟨-,i,g,rfl,-⟩<;>rfl
 .have hb:OV σ1 (.bool b) (.bool b):=Ig rfl
  exact congrArg (Option.map V.tup) (R4 (.cons (N8 qR qg) (.cons hb .nil)) fun j hj=>by
   grind[Ah,V.refs])
 grind[Ej,Ah,V.refs]
theorem A70{n:Nat}(hS:∀ k,k<n->PSt k):Vf n:=by
 intro s m z t A p hA hT hs hp hf;have hl:A.length<=1000000:=by have:=hA.len;omega
 have hm:=(An.1 hs).1;obtain⟨n,rfl⟩:∃ k,n=k+1:=⟨n - 1,by omega⟩;refine Bhh (q0:=p) (k:=11) (ty:=100) T107 ?_;by_cases h1:A0 [123] (A.drop p)=true
 case neg=>
  have h1:A0 [123] (A.drop p)=false:=by simpa using h1
  have ho:Fz (n+1) (A.drop p)=none:=by rw[Fz,if_neg AA]
  have c1:=Sz hs hl hp h1;rw[ho];simp only[go_sem];refine Aa c1 ?_;simp only[go_sem];exact⟨.nils,false,[],p,rfl,Dr,⟨by omega,by simp,by simp⟩,Aj2 hs,hp,rfl⟩
 have ho:Fz (n+1) (A.drop p)=Ms n (A.drop (p+1)):=by rw[Fz,if_pos h1,Eo]
 have c1:=Sy hs hl h1;have qn:=Ek h1;rw[ho];simp only[go_sem];refine Aa c1 ?_;simp only[go_sem];refine Bb (α:=Nat × Nat × V × List Sp × St) (fun a=>a.1) (fun a=>[(0,.ptr m 0 0),(4,a.2.2.1)]) (fun a=>a.2.2.2.2) (fun a=>a.1<=n/\a.2.1<=A.length/\10*(A.length - a.2.1)+11<=a.1/\RW s a.2.2.2.2 m z t A a.2.1/\GW a.2.2.2.2 11 100 s.length a.2.2.1 (a.2.2.2.1.map Sp.row)/\Ms n (A.drop (p+1))=(Ms a.1 (A.drop a.2.1)).map (fun y=>(a.2.2.2.1++y.1,y.2))/\a.2.2.2.1.length<=a.2.1) ?_ (n,p+1,.nils,[],s.set m (RO z t A (p+1))) ⟨Am _,qn,by grind,Qy (Aj2 hs) _,Dr,by simp_all,by simp⟩;rintro⟨k,q,u,L,σ⟩ ⟨qQ,hq,qN,hw,hg,qa,qM⟩ ih;simp only at qQ hq qN hw hg qa qM ih;obtain⟨k,rfl⟩:∃ j,k=j+1:=⟨k - 1,by omega⟩
 have qJ:∀ r∈L.map Sp.row,r.length=11:=by
  intro r hr;obtain⟨x,-,rfl⟩:=Di.1 hr;exact N5 x
 have qS:∀ r∈L.map Sp.row,r.all V.rowB=true:=by
  intro r hr;obtain⟨x,-,rfl⟩:=Di.1 hr;exact He x
 refine Ay Bf1 ?_;by_cases h2:A0 [125] (A.drop q)=true
 .have c2:=Sy hw.2.2.1 hl h2;have qr:=Ek h2;have qv:Ms (k+1) (A.drop q)=some ([],A.drop (q+1)):=by rw[Ms,if_pos h2,Eo]
  rw[qv]at qa;simp only[go_sem];refine Aa c2 ?_;simp only[go_sem];refine⟨u,true,_,q+1,rfl,Dw hg hm,⟨by omega,qJ,qS⟩,Qy hw _,qr,?_⟩;rw[qa];simp only[I9,Bz];exact⟨rfl,rfl⟩
 .have h2:A0 [125] (A.drop q)=false:=by simpa using h2
  have c2:=Sz hw.2.2.1 hl hq h2;obtain⟨v,q2,c3,qH,h3⟩:=hS k AA σ m z t A q hA hT hw.2.2.1 hq AA;have qp:=Qy hw q2;have qG:GW (σ.set m (RO z t A q2)) 11 100 s.length u (L.map Sp.row):=Dw hg hm
  have qv:Ms (k+1) (A.drop q)=match I7 k (A.drop q) with
    | none=>none
    | some (x,r)=>match Ms k r with
     | none=>none
     | some (l,r)=>some (x::l,r):=by
   rw[Ms,if_neg AA];rfl
  rw[qv]at qa;generalize σ.set m (RO z t A q2)=τ at c3 qp qG;have qK:∀ a:Ob,(τ++[a])[τ.length]?=some a:=fun a=>by simp
  have qL:∀ a b:Ob,(τ++[a]).set τ.length b=τ++[b]:=fun a b=>by grind
  unfold PRs at h3
  cases hps:I7 k (A.drop q) with
  | none=>
   rw[hps]at h3 qa;obtain⟨_,⟨d0,d1,d2,d3,d4,d5,d6,d7,d8,d9,qh,rfl,hb⟩,rfl⟩:=h3;simp only[go_sem];refine Aa c2 ?_;simp only[go_sem];refine Aa c3 ?_;simp only[go_sem,qK,qL,Aj1 hb];refine⟨.nils,false,[],q2,rfl,Dr,⟨by omega,by simp,by simp⟩,Ad5 qp,qH,?_⟩;rw[qa];rfl
  | some xr=>
   obtain⟨x,r⟩:=xr;rw[hps]at h3 qa;obtain⟨rfl,h3⟩:=h3;have ql:=He x;have qk:=Fr x
   have qr:r.length<A.length - q:=by
    have:=((Adg (M:=0) (C:=100) AA k).1 _ _ _ (Dq hT (Abv q A)) hps).2.2.1;rw[Gi]at this;exact this
   have qX:r.length=A.length - q2:=by rw[<-h3,Gi]
   have qz:RW s (τ++[.row x.row 100 0 0]) m z t A q2:=Ad5 qp;have qP:GW (τ++[.row x.row 100 0 0]) 11 100 s.length u (L.map Sp.row):=Ix qG;have qU:L.length<=1000000:=by omega
   obtain⟨u',s3,ha,qV,l3,-,f3⟩:=Iz (bytes:=176) (y:=.lst 1 [x.row]) (ys:=[x.row]) qP (by have:=qz.1;omega) rfl AA qJ (by simp[N5]) (by grind);have qT:RW s s3 m z t A q2:=R6 qz (by have:=qz.1;omega) f3;have qg:=B8 hg;rw[qk]at c3 ql ha;simp only[go_sem];refine Aa c2 ?_;simp only[go_sem];refine Aa c3 ?_;simp only[go_sem,qK,qL,ha];refine Ai (ih (k,q2,u',L++[x],s3) AE ⟨by omega,qH,by grind,qT,by grind,?_,by grind⟩) rfl
   grind
def Ass:∀ n,PSt n/\Vf n:=by
 intro n
 induction n using Nat.strongRecOn with
 | ind n ih=>grind[A7z,A70]
