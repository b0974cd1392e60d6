/- Walks: the parser's statements and blocks. -/
import Derived.Test.YtphikjgngompaabGreatDoorLq
set_option linter.all false
namespace Go.Proofs.YtphikjgngompaabGreatDoor.KM
open Go
def Uk(w:Int):Nat:=if w=2 then 197 else if w=3 then 198 else if w<=6 then 199 else if w<=8 then 200 else if w<=13 then 201 else if w=14 then 202 else 203
def Bgl(w:List UInt8)(s:St):Bw TT PT 171 [.str w] s (.tup [iV (D7 w),if D7 w=0 then .nilf else .fn (Uk (D7 w)) [] []]) s:=by
 suffices h:∃ v s',Bw TT PT 171 [.str w] s v s'/\(v=.tup [iV (D7 w),if D7 w=0 then .nilf else .fn (Uk (D7 w)) [] []]/\s'=s) by
  obtain⟨v,s',h1,rfl,rfl⟩:=h;exact h1
 refine Ay3 T171 rfl ?_;by_cases a1:w=[105,102]
 .subst a1;have e1:(([105,102]:List UInt8)==[105,102])=true:=by decide
  simp only[go_sem,e1];exact⟨_,rfl,⟨rfl,rfl⟩,fun i ob _ h=>.inl h,rfl,Dq⟩
 have e1:(w==[105,102])=false:=by simp[a1]
 by_cases a2:w=[119,104,105,108,101]
 .subst a2;have e2:(([119,104,105,108,101]:List UInt8)==[119,104,105,108,101])=true:=by decide
  simp only[go_sem,e1,e2];exact⟨_,rfl,⟨rfl,rfl⟩,fun i ob _ h=>.inl h,rfl,Dq⟩
 have e2:(w==[119,104,105,108,101])=false:=by simp[a2]
 by_cases a3:w=[108,111,99,107]
 .subst a3;have e3:(([108,111,99,107]:List UInt8)==[108,111,99,107])=true:=by decide
  simp only[go_sem,e1,e2,e3];exact⟨_,rfl,⟨rfl,rfl⟩,fun i ob _ h=>.inl h,rfl,Dq⟩
 have e3:(w==[108,111,99,107])=false:=by simp[a3]
 by_cases a4:w=[114,101,97,100]
 .subst a4;have e4:(([114,101,97,100]:List UInt8)==[114,101,97,100])=true:=by decide
  simp only[go_sem,e1,e2,e3,e4];exact⟨_,rfl,⟨rfl,rfl⟩,fun i ob _ h=>.inl h,rfl,Dq⟩
 have e4:(w==[114,101,97,100])=false:=by simp[a4]
 by_cases a5:w=[119,114,105,116,101]
 .subst a5;have e5:(([119,114,105,116,101]:List UInt8)==[119,114,105,116,101])=true:=by decide
  simp only[go_sem,e1,e2,e3,e4,e5];exact⟨_,rfl,⟨rfl,rfl⟩,fun i ob _ h=>.inl h,rfl,Dq⟩
 have e5:(w==[119,114,105,116,101])=false:=by simp[a5]
 by_cases a6:w=[116,114,97,110,115,97,99,116,105,111,110]
 .subst a6;have e6:(([116,114,97,110,115,97,99,116,105,111,110]:List UInt8)==[116,114,97,110,115,97,99,116,105,111,110])=true:=by decide
  simp only[go_sem,e1,e2,e3,e4,e5,e6];exact⟨_,rfl,⟨rfl,rfl⟩,fun i ob _ h=>.inl h,rfl,Dq⟩
 have e6:(w==[116,114,97,110,115,97,99,116,105,111,110])=false:=by simp[a6]
 by_cases a7:w=[97,116,111,109,105,99]
 .subst a7;have e7:(([97,116,111,109,105,99]:List UInt8)==[97,116,111,109,105,99])=true:=by decide
  simp only[go_sem,e1,e2,e3,e4,e5,e6,e7];exact⟨_,rfl,⟨rfl,rfl⟩,fun i ob _ h=>.inl h,rfl,Dq⟩
 have e7:(w==[97,116,111,109,105,99])=false:=by simp[a7]
 by_cases a8:w=[119,97,105,116]
 .subst a8;have e8:(([119,97,105,116]:List UInt8)==[119,97,105,116])=true:=by decide
  simp only[go_sem,e1,e2,e3,e4,e5,e6,e7,e8];exact⟨_,rfl,⟨rfl,rfl⟩,fun i ob _ h=>.inl h,rfl,Dq⟩
 have e8:(w==[119,97,105,116])=false:=by simp[a8]
 by_cases a9:w=[110,111,116,105,102,121]
 .subst a9;have e9:(([110,111,116,105,102,121]:List UInt8)==[110,111,116,105,102,121])=true:=by decide
  simp only[go_sem,e1,e2,e3,e4,e5,e6,e7,e8,e9];exact⟨_,rfl,⟨rfl,rfl⟩,fun i ob _ h=>.inl h,rfl,Dq⟩
 have e9:(w==[110,111,116,105,102,121])=false:=by simp[a9]
 by_cases qA:w=[110,111,116,105,102,121,97,108,108]
 .subst qA;have qe:(([110,111,116,105,102,121,97,108,108]:List UInt8)==[110,111,116,105,102,121,97,108,108])=true:=by decide
  simp only[go_sem,e1,e2,e3,e4,e5,e6,e7,e8,e9,qe];exact⟨_,rfl,⟨rfl,rfl⟩,fun i ob _ h=>.inl h,rfl,Dq⟩
 have qe:(w==[110,111,116,105,102,121,97,108,108])=false:=by simp[qA]
 by_cases qB:w=[115,112,97,119,110]
 .subst qB;have qi:(([115,112,97,119,110]:List UInt8)==[115,112,97,119,110])=true:=by decide
  simp only[go_sem,e1,e2,e3,e4,e5,e6,e7,e8,e9,qe,qi];exact⟨_,rfl,⟨rfl,rfl⟩,fun i ob _ h=>.inl h,rfl,Dq⟩
 have qi:(w==[115,112,97,119,110])=false:=by simp[qB]
 by_cases qC:w=[106,111,105,110]
 .subst qC;have qm:(([106,111,105,110]:List UInt8)==[106,111,105,110])=true:=by decide
  simp only[go_sem,e1,e2,e3,e4,e5,e6,e7,e8,e9,qe,qi,qm];exact⟨_,rfl,⟨rfl,rfl⟩,fun i ob _ h=>.inl h,rfl,Dq⟩
 have qm:(w==[106,111,105,110])=false:=by simp[qC]
 by_cases qD:w=[115,101,116]
 .subst qD;have qq:(([115,101,116]:List UInt8)==[115,101,116])=true:=by decide
  simp only[go_sem,e1,e2,e3,e4,e5,e6,e7,e8,e9,qe,qi,qm,qq];exact⟨_,rfl,⟨rfl,rfl⟩,fun i ob _ h=>.inl h,rfl,Dq⟩
 have qq:(w==[115,101,116])=false:=by simp[qD]
 by_cases qE:w=[103,101,116]
 .subst qE;have qs:(([103,101,116]:List UInt8)==[103,101,116])=true:=by decide
  simp only[go_sem,e1,e2,e3,e4,e5,e6,e7,e8,e9,qe,qi,qm,qq,qs];exact⟨_,rfl,⟨rfl,rfl⟩,fun i ob _ h=>.inl h,rfl,Dq⟩
 have qs:(w==[103,101,116])=false:=by simp[qE]
 have hz:D7 w=0:=by
  unfold D7 wordTab;simp only[Ail,e1,e2,e3,e4,e5,e6,e7,e8,e9,qe,qi,qm,qq,qs];rfl
 rw[hz];simp only[go_sem,e1,e2,e3,e4,e5,e6,e7,e8,e9,qe,qi,qm,qq,qs];exact⟨_,rfl,⟨rfl,rfl⟩,fun i ob _ h=>.inl h,rfl,Dq⟩
def Al6{d0 d1 d2 d3 d4 d5 d6 d7 d8 d9 qh:V}(h:[d0,d1,d2,d3,d4,d5,d6,d7,d8,d9,qh].all V.rowB=true):(d0.cellB&&(d1.cellB&&(d2.cellB&&(d3.cellB&&(d4.cellB&&(d5.cellB&&(d6.cellB&&(d7.cellB&&(d8.cellB&&(d9.cellB&&qh.cellB))))))))))=true:=by
 simp_all [P7]
def PRs(A:List Tk)(o:Option (Sp × List Tk))(v:V)(p':Nat):Prop:=match o with
 | some (x,r)=>v=.tup [.agg x.row,.bool true]/\A.drop p'=r
 | none=>∃ r:List V,R7 r/\v=.tup [.agg r,.bool false]
def PSt(n:Nat):Prop:=∀ (s:St) (m:Nat) (z:Bool) (t:Nat) (A:List Tk) (p:Nat),OkA A->D5 A->s[m]?=some (RO z t A p)->p<=A.length->10*(A.length - p)+10<=n->RT 139 [] s m z t A (PRs A (F4 n (A.drop p)))
def Tn{s:St}{m:Nat}{z:Bool}{t:Nat}{A:List Tk}{S:Nat->St}(hS:RdS s m z t A S){f p:Nat}{a b:Ob}{r0:List V}{R:V->Nat->List V->Prop}(h:Q3 f (S p++[a,b,.row r0 98 0 0]) m (s.length+2) z t A R):
  ∃ v q r',Bw TT PT f [.ptr m 0 0,.ptr (s.length+2) 0 0] (S p++[a,b,.row r0 98 0 0]) v (S q++[a,b,.row r' 98 0 0])/\q<=A.length/\R v q r':=by
 obtain⟨v,q,r',h1,h2,h3⟩:=h;rw[show(S p++[a,b,.row r0 98 0 0]).set m (RO z t A q)=S q++[a,b,.row r0 98 0 0] from hS.set p q _,hS.u2]at h1
 grind
def Uv(A:List Tk)(o:Option (Sp × List Tk))(v:V)(q:Nat)(r:List V):Prop:=match o with
 | some (x,ts)=>v=.bool true/\r=x.row/\A.drop q=ts
 | none=>v=.bool false/\R7 r
theorem Bbb{n:Nat}(hB:∀ k,k<n->Wo k):PSt n:=by
 intro s m z t A p hA hT hs hp hf;obtain⟨n,rfl⟩:∃ k,n=k+1:=⟨n - 1,by omega⟩;have hB:=hB n (Adf n);refine Mn T139 rfl hs fun S hS=>?_
 have hl:A.length<=1000000:=by have:=hA.len;omega
 have qf:=hS;have hm:=hS.low;have qt:=Tm (hS.get p [sP 0 0 [] []]) hl hp;by_cases h1:(Ae A p).kind=1
 .have b1:((Ae A p).kind==1)=true:=by simp[h1]
  have qn:=Afs (A:=A) (p:=p) AA;have ho:F4 (n+1) (A.drop p)=Sb n (Ae A p).line (A.drop p):=by rw[Nf qn,F4,if_pos h1]
  obtain⟨v,q,r,c1,c2,c3⟩:=Tn qf (a:=sP 0 0 [] []) (b:=Bo (Ae A p))
   (A2x (n:=n) (ln:=(Ae A p).line) hA hT (hS.get p _) (hS.n2 p _ _ _ _) AA hp AA)
  rw[ho];have Zq:=Dn hS;obtain⟨-,-,qc,get,get0,set,set0,n0,n1,n2,u0,u1,u2⟩:=hS;simp only[go_sem,Zq,LZ];refine Aa qt ?_;simp only[go_sem,Zq,LZ,b1];refine Aa c1 ?_
  cases hq:Sb n (Ae A p).line (A.drop p) with
  | none=>
   rw[hq]at c3;obtain⟨rfl,d0,d1,d2,d3,d4,d5,d6,d7,d8,d9,qh,rfl,hb⟩:=c3;simp only[go_sem,Zq,LZ,Al6 hb];exact Ch (v:=.tup [.agg [d0,d1,d2,d3,d4,d5,d6,d7,d8,d9,qh],.bool false]) (Cj (n0 _ _ _) rfl rfl rfl) (Cx hb) c2 ⟨_,⟨_,_,_,_,_,_,_,_,_,_,_,rfl,hb⟩,rfl⟩
  | some xt=>
   obtain⟨x,ts⟩:=xt;rw[hq]at c3;obtain⟨rfl,rfl,c3⟩:=c3;have ql:=Hc x;have qk:=Fl x;rw[qk]at ql ⊢;simp only[go_sem,Zq,LZ];exact Ch (v:=.tup [.agg _,.bool true]) (Cj (n0 _ _ _) rfl rfl rfl) (Cx ql) c2 ⟨by rw[qk],c3⟩
 have b1:((Ae A p).kind==1)=false:=by simp[h1]
 by_cases h3:(Ae A p).kind=3
 case neg=>
  have b3:((Ae A p).kind==3)=false:=by simp[h3]
  have ho:F4 (n+1) (A.drop p)=none:=by
   rcases Bh p A.length with h | h
   .rw[Nf h,F4,if_neg h1,if_neg h3]
   .rw[(Lv h).1];simp[F4]
  rw[ho];have Zq:=Dn hS;obtain⟨-,-,qc,get,get0,set,set0,n0,n1,n2,u0,u1,u2⟩:=hS;simp only[go_sem,Zq,LZ];refine Aa qt ?_;simp only[go_sem,Zq,LZ,b1,b3];exact Ch (v:=.tup [.agg _,.bool false]) (Cj (n0 _ _ _) rfl rfl rfl) (Cx rfl) hp ⟨_,⟨_,_,_,_,_,_,_,_,_,_,_,rfl,rfl⟩,rfl⟩
 have b3:((Ae A p).kind==3)=true:=by simp[h3]
 have qn:=Afs (A:=A) (p:=p) AA;have qo:=fun σ=>Bgl (Ae A p).text σ
 have qw:=Au7 (Ae A p).text;have qu:=A2 (show p<9223372036854775807 by omega);have qj:p+1<=A.length:=qn;have qb:F4 (n+1) (A.drop p)=F4 (n+1) (Ae A p::A.drop (p+1)):=by rw[<-Nf qn]
 rw[F4,if_neg h1,if_pos h3]at qb;generalize hw:D7 (Ae A p).text=w at qo qw qb;by_cases qy:w=0
 .subst qy;rw[if_pos rfl]at qb;rw[qb];have Zq:=Dn hS;obtain⟨-,-,qc,get,get0,set,set0,n0,n1,n2,u0,u1,u2⟩:=hS;simp only[go_sem,Zq,LZ];refine Aa qt ?_;simp only[go_sem,Zq,LZ,b1,b3];refine Aa (qo _) ?_;simp only[go_sem,Zq,LZ];exact Ch (v:=.tup [.agg _,.bool false]) (Cj (n0 _ _ _) rfl rfl rfl) (Cx rfl) hp ⟨_,⟨_,_,_,_,_,_,_,_,_,_,_,rfl,rfl⟩,rfl⟩
 rw[if_neg qy]at qb
 have hq:∃ v q r,Bw TT PT (Uk w) [.ptr m 0 0,.ptr (s.length+2) 0 0] (S (p+1)++[sP 0 0 [] [],Bo (Ae A p),.row [iV w,iV (Ae A p).line,.str [],.str [],.nils,iV 0,iV 0,.str [],.nils,.nils,.nils] 98 0 0]) v (S q++[sP 0 0 [] [],Bo (Ae A p),.row r 98 0 0])/\q<=A.length/\Uv A (F4 (n+1) (A.drop p)) v q r:=by
  rw[qb];have qd:w=2\/w=3\/(w=7\/w=8)\/(w=4\/w=5\/w=6)\/w=14\/w=15\/(w=9\/w=10\/w=11\/w=12\/w=13):=by omega
  rcases qd with rfl | rfl | qd | qd | rfl | rfl | qd
  .obtain⟨v,q,r,c1,c2,c3⟩:=Tn qf (a:=sP 0 0 [] []) (b:=Bo (Ae A p)) (A4m (n:=n) (op:=2) (ln:=(Ae A p).line) hB hA hT (hS.get (p+1) _) (hS.n2 (p+1) _ _ _ _) AA qj AA);refine⟨v,q,r,c1,c2,?_⟩;rw[if_pos (.inl rfl)]
   have he:∀ o:Option (Sp × List Tk),o=(Ab6 n (A.drop (p+1))).map (fun y=>({ Am 2 (Ae A p).line with ex:=y.1.1,body:=y.1.2.1,els:=y.1.2.2 },y.2))->Uv A o v q r:=fun o ho=>by
    subst ho
    cases hQ:Ab6 n (A.drop (p+1)) with
    | none=>rw[hQ]at c3;exact c3
    | some pr=>
     obtain⟨⟨x,b,e⟩,ts⟩:=pr;rw[hQ]at c3;exact⟨c3.1,by rw[c3.2.1,Fl];rfl,c3.2.2⟩
   refine he _ ?_;unfold Ab6 Oi
   cases pe n 1 (A.drop (p+1)) with
   | none=>rfl
   | some xr=>
    obtain⟨x,t1⟩:=xr;simp only
    cases Fb n t1 with
    | none=>rfl
    | some bl=>
     obtain⟨b,t2⟩:=bl;simp only;by_cases hE:As [101,108,115,101] t2=true
     .rw[if_pos ⟨trivial,hE⟩,if_pos hE]
      cases Fb n t2.tail with
      | none=>rfl
      | some el=>rfl
     .rw[if_neg (fun h=>hE h.2),if_neg hE];rfl
  .obtain⟨v,q,r,c1,c2,c3⟩:=Tn qf (a:=sP 0 0 [] []) (b:=Bo (Ae A p)) (Aqx (n:=n) (op:=3) (ln:=(Ae A p).line) hB hA hT (hS.get (p+1) _) (hS.n2 (p+1) _ _ _ _) AA qj AA);refine⟨v,q,r,c1,c2,?_⟩;rw[if_pos (.inr rfl)]
   have he:∀ o:Option (Sp × List Tk),o=(Oi n (A.drop (p+1))).map (fun y=>({ Am 3 (Ae A p).line with ex:=y.1.1,body:=y.1.2 },y.2))->Uv A o v q r:=fun o ho=>by
    subst ho
    cases hQ:Oi n (A.drop (p+1)) with
    | none=>rw[hQ]at c3;exact c3
    | some pr=>
     obtain⟨⟨x,b⟩,ts⟩:=pr;rw[hQ]at c3;exact⟨c3.1,by rw[c3.2.1,Fl];rfl,c3.2.2⟩
   refine he _ ?_;unfold Oi
   cases pe n 1 (A.drop (p+1)) with
   | none=>rfl
   | some xr=>
    obtain⟨x,t1⟩:=xr;simp only
    cases Fb n t1 with
    | none=>rfl
    | some bl=>
     obtain⟨b,t2⟩:=bl;simp only;rw[if_neg (fun h=>absurd h.1 AG)];rfl
  .rw[if_neg AA,if_pos qd];obtain⟨v,q,r,c1,c2,c3⟩:=Tn qf (a:=sP 0 0 [] []) (b:=Bo (Ae A p)) (Aj4 (n:=n) (c0:=iV w) (c1:=iV (Ae A p).line) (c2:=.str []) (c3:=.str []) (c4:=.nils) (c5:=iV 0) (c6:=iV 0) (c7:=.str []) (c8:=.nils) (c9:=.nils) (c10:=.nils) hB hA hT (hS.get (p+1) _) (hS.n2 (p+1) _ _ _ _) AA qj rfl AA)
   have hF:Uk w=200:=by rcases qd with rfl | rfl<;>rfl
   rw[hF];refine⟨v,q,r,c1,c2,?_⟩
   cases hQ:Fb n (A.drop (p+1)) with
   | none=>
    rw[hQ]at c3;obtain⟨h9,qF⟩:=c3;exact⟨h9,_,_,_,_,_,_,_,_,_,_,_,qF,by rw[qF];rfl⟩
   | some pr=>
    obtain⟨b,ts⟩:=pr;rw[hQ]at c3;exact⟨c3.1,by rw[c3.2.1,Fl];rfl,c3.2.2⟩
  .rw[if_neg AA,if_neg AA];obtain⟨v,q,r,c1,c2,c3⟩:=Tn qf (a:=sP 0 0 [] []) (b:=Bo (Ae A p)) (Bba (n:=n) (op:=w) (ln:=(Ae A p).line) hB hA hT (hS.get (p+1) _) (hS.n2 (p+1) _ _ _ _) AA qj AA)
   have hF:Uk w=199:=by rcases qd with rfl | rfl | rfl<;>rfl
   rw[hF];refine⟨v,q,r,c1,c2,?_⟩
   have he:∀ o:Option (Sp × List Tk),o=(qNB n (A.drop (p+1))).map (fun y=>({ Am w (Ae A p).line with nm:=y.1.1,body:=y.1.2 },y.2))->Uv A o v q r:=fun o ho=>by
    subst ho
    cases hQ:qNB n (A.drop (p+1)) with
    | none=>rw[hQ]at c3;exact c3
    | some pr=>
     obtain⟨⟨nm,b⟩,ts⟩:=pr;rw[hQ]at c3;exact⟨c3.1,by rw[c3.2.1,Fl];rfl,c3.2.2⟩
   refine he _ ?_;unfold qNB
   cases C6 (A.drop (p+1)) with
   | none=>rfl
   | some nt=>
    obtain⟨nm,t1⟩:=nt;simp only;rw[if_pos qd]
    cases Fb n t1 with
    | none=>rfl
    | some bl=>rfl
  .rw[if_neg AG,if_neg AG];obtain⟨v,q,r,c1,c2,c3⟩:=Tn qf (a:=sP 0 0 [] []) (b:=Bo (Ae A p)) (A67 (n:=n) (op:=14) (ln:=(Ae A p).line) hA hT (hS.get (p+1) _) (hS.n2 (p+1) _ _ _ _) AA qj AA);have hF:Uk 14=202:=by rfl
   rw[hF];refine⟨v,q,r,c1,c2,?_⟩
   have he:∀ o:Option (Sp × List Tk),o=(Ack n (A.drop (p+1))).map (fun y=>({ Am 14 (Ae A p).line with nm:=y.1.1,ex:=y.1.2 },y.2))->Uv A o v q r:=fun o ho=>by
    subst ho
    cases hQ:Ack n (A.drop (p+1)) with
    | none=>rw[hQ]at c3;exact c3
    | some pr=>
     obtain⟨⟨nm,x⟩,ts⟩:=pr;rw[hQ]at c3;exact⟨c3.1,by rw[c3.2.1,Fl];rfl,c3.2.2⟩
   refine he _ ?_;unfold Ack
   cases C6 (A.drop (p+1)) with
   | none=>rfl
   | some nt=>
    obtain⟨nm,t1⟩:=nt;simp only;rw[if_neg AG,if_pos trivial]
    cases pe n 1 t1 with
    | none=>rfl
    | some xr=>
     obtain⟨x,t2⟩:=xr;simp only
     cases Dv [59] t2<;>rfl
  .rw[if_neg AG,if_neg AG];obtain⟨v,q,r,c1,c2,c3⟩:=Tn qf (a:=sP 0 0 [] []) (b:=Bo (Ae A p)) (A66 (n:=n) (op:=15) (ln:=(Ae A p).line) hA hT (hS.get (p+1) _) (hS.n2 (p+1) _ _ _ _) AA qj AA);have hF:Uk 15=203:=by rfl
   rw[hF];refine⟨v,q,r,c1,c2,?_⟩
   have he:∀ o:Option (Sp × List Tk),o=(Acl (A.drop (p+1))).map (fun y=>({ Am 15 (Ae A p).line with nm:=y.1.1,arg:=y.1.2 },y.2))->Uv A o v q r:=fun o ho=>by
    subst ho
    cases hQ:Acl (A.drop (p+1)) with
    | none=>rw[hQ]at c3;exact c3
    | some pr=>
     obtain⟨⟨nm,ar⟩,ts⟩:=pr;rw[hQ]at c3;exact⟨c3.1,by rw[c3.2.1,Fl];rfl,c3.2.2⟩
   refine he _ ?_;unfold Acl
   cases C6 (A.drop (p+1)) with
   | none=>rfl
   | some nt=>
    obtain⟨nm,t1⟩:=nt;simp only;rw[if_neg AG,if_neg AG,if_pos trivial]
    cases C6 t1 with
    | none=>rfl
    | some nt2=>
     obtain⟨ar,t2⟩:=nt2;simp only
     cases Dv [59] t2<;>rfl
  .rw[if_neg AA,if_neg AA];obtain⟨v,q,r,c1,c2,c3⟩:=Tn qf (a:=sP 0 0 [] []) (b:=Bo (Ae A p)) (A3i (n:=n) (op:=w) (ln:=(Ae A p).line) hA hT (hS.get (p+1) _) (hS.n2 (p+1) _ _ _ _) AA qj AA)
   have hF:Uk w=201:=by rcases qd with rfl | rfl | rfl | rfl | rfl<;>rfl
   rw[hF];refine⟨v,q,r,c1,c2,?_⟩
   have he:∀ o:Option (Sp × List Tk),o=(qNm (A.drop (p+1))).map (fun y=>({ Am w (Ae A p).line with nm:=y.1 },y.2))->Uv A o v q r:=fun o ho=>by
    subst ho
    cases hQ:qNm (A.drop (p+1)) with
    | none=>rw[hQ]at c3;exact c3
    | some pr=>
     obtain⟨nm,ts⟩:=pr;rw[hQ]at c3;exact⟨c3.1,by rw[c3.2.1,Fl];rfl,c3.2.2⟩
   refine he _ ?_;unfold qNm
   cases C6 (A.drop (p+1)) with
   | none=>rfl
   | some nt=>
    obtain⟨nm,t1⟩:=nt;simp only;rw[if_neg AA,if_neg AA,if_neg AA]
    cases Dv [59] t1<;>rfl
 obtain⟨v,q,r,c1,c2,c3⟩:=hq;have Zq:=Dn hS;obtain⟨-,-,qc,get,get0,set,set0,n0,n1,n2,u0,u1,u2⟩:=hS;have qo:=fun σ=>qo σ
 simp only[if_neg qy]at qo;simp only[go_sem,Zq,LZ];refine Aa qt ?_;simp only[go_sem,Zq,LZ,b1,b3];refine Aa (qo _) ?_;simp only[go_sem,Zq,LZ,qu];refine Aa c1 ?_;unfold Uv at c3
 cases hq:F4 (n+1) (A.drop p) with
 | none=>
  rw[hq]at c3;obtain⟨rfl,d0,d1,d2,d3,d4,d5,d6,d7,d8,d9,qh,rfl,hb⟩:=c3;simp only[go_sem,Zq,LZ,Al6 hb];exact Ch (v:=.tup [.agg [d0,d1,d2,d3,d4,d5,d6,d7,d8,d9,qh],.bool false]) (Cj (n0 _ _ _) rfl rfl rfl) (Cx hb) c2 ⟨_,⟨_,_,_,_,_,_,_,_,_,_,_,rfl,hb⟩,rfl⟩
 | some xt=>
  obtain⟨x,ts⟩:=xt;rw[hq]at c3;obtain⟨rfl,rfl,c3⟩:=c3;have ql:=Hc x;have qk:=Fl x;rw[qk]at ql ⊢;simp only[go_sem,Zq,LZ];exact Ch (v:=.tup [.agg _,.bool true]) (Cj (n0 _ _ _) rfl rfl rfl) (Cx ql) c2 ⟨by rw[qk],c3⟩
/-! blocks -/
def RW(s σ:St)(m:Nat)(z:Bool)(t:Nat)(A:List Tk)(q:Nat):Prop:=s.length<=σ.length/\(∀ i,i<s.length->i≠m->σ[i]?=s[i]?)/\σ[m]?=some (RO z t A q)/\m<s.length
def Al7{s:St}{m:Nat}{z:Bool}{t:Nat}{A:List Tk}{q:Nat}(h:s[m]?=some (RO z t A q)):RW s s m z t A q:=⟨Aj _,fun _ _ _=>rfl,h,(Ao.1 h).1⟩
def Rv{s σ:St}{m:Nat}{z:Bool}{t:Nat}{A:List Tk}{q:Nat}(h:RW s σ m z t A q)(q':Nat):RW s (σ.set m (RO z t A q')) m z t A q':=by
 obtain⟨h1,h2,h3,h4⟩:=h;refine⟨by grind,fun i hi hm=>?_,Cr AA,h4⟩
 grind
def Aft{s σ l:St}{m:Nat}{z:Bool}{t:Nat}{A:List Tk}{q:Nat}(h:RW s σ m z t A q):RW s (σ++l) m z t A q:=by
 obtain⟨h1,h2,h3,h4⟩:=h;refine⟨by grind,fun i hi hm=>?_,By h3,h4⟩
 grind
def Tc{s σ τ:St}{m:Nat}{z:Bool}{t:Nat}{A:List Tk}{q:Nat}(h:RW s σ m z t A q)(hl:s.length<=τ.length)(hj:∀ j,j<s.length->τ[j]?=σ[j]?):RW s τ m z t A q:=by
 obtain⟨h1,h2,h3,h4⟩:=h;exact⟨hl,fun i hi hm=>by grind,by grind,h4⟩
def Axt{s σ:St}{m:Nat}{z:Bool}{t:Nat}{A:List Tk}{q:Nat}(h:RW s σ m z t A q):σ.take s.length=s.set m (RO z t A q):=by
 obtain⟨h1,h2,h3,h4⟩:=h;refine Wx fun i=>?_
 grind
def Axu{s σ:St}{m:Nat}{z:Bool}{t:Nat}{A:List Tk}{q:Nat}(h:RW s σ m z t A q):∀ i ob,i<s.length->σ[i]?=some ob->s[i]?=some ob\/El s.length [] ob.refs=true:=by
 obtain⟨h1,h2,h3,h4⟩:=h;intro i ob hi ho;by_cases hm:i=m
 .subst hm;rw[ho]at h3;cases h3;exact .inr (by rw[Afr];rfl)
 grind
def Blt{z:Bool}{t:Nat}{A:List Tk}{f m q0 k ty:Nat}{res:List AR}{thr:Bool}{body:AC}{s:St}{R:V->Nat->Prop}(hT:TT f=some ⟨1,res,thr,body,none⟩)
  (h:W TT PT [.c body] (C4 0 [.ptr m 0 0]) s (Hd fun e' σ1=>∃ u b xs q,Cd e' σ1 res=some (.tup [u,.bool b])/\GW σ1 k ty s.length u xs/\(0<k/\(∀ r∈xs,r.length=k)/\∀ r∈xs,r.all V.rowB=true)/\RW s σ1 m z t A q/\q<=A.length/\R (.tup [SL true 0 xs,.bool b]) q)):RT f [] s m z t A R:=by
 obtain⟨e',σ1,hE,u,b,xs,q,hr,hg,⟨hk,qc,qx⟩,hw,hq,hR⟩:=h;have qR:=Mj hg hk qc qx;have qg:=Cg hg
 have qI:(SL true 0 xs).refs=[]:=by unfold SL;split<;>rfl
 have qO:(∀ j,j<s.length->(σ1.freeze u.refs)[j]?=σ1[j]?):=by
  intro j hj;rcases hg with⟨rfl,-⟩ | ⟨-,i,g,rfl,ho,qW⟩
  .rfl
  .exact Aqc _ _ _ AA
 have qp:RW s (σ1.freeze u.refs) m z t A q:=Tc hw (by rw[Ra];exact hw.1) qO;refine⟨_,q,?_,hq,hR⟩;rw[<-Axt qp];refine Are hT rfl rfl ⟨e',σ1,hE,.tup [u,.bool b],u.refs,hr,?_,?_,?_,Axu qp,rfl⟩
 .rcases hg with⟨rfl,-⟩ | ⟨-,i,g,rfl,-⟩<;>rfl
 .have hb:OV σ1 (.bool b) (.bool b):=I0 rfl
  exact congrArg (Option.map V.tup) (Vk (.cons (Vl qR qg) (.cons hb .nil)) fun j hj=>by
   grind[Ag,V.refs])
 grind[El,Ag,V.refs]
theorem Bbc{n:Nat}(hS:∀ k,k<n->PSt k):Wo n:=by
 intro s m z t A p hA hT hs hp hf;have hl:A.length<=1000000:=by have:=hA.len;omega
 have hm:=(Ao.1 hs).1;obtain⟨n,rfl⟩:∃ k,n=k+1:=⟨n - 1,by omega⟩;refine Blt (q0:=p) (k:=11) (ty:=98) T101 ?_;by_cases h1:As [123] (A.drop p)=true
 case neg=>
  have h1:As [123] (A.drop p)=false:=by simpa using h1
  have ho:Fb (n+1) (A.drop p)=none:=by rw[Fb,if_neg AA]
  have c1:=Ui hs hl hp h1;rw[ho];simp only[go_sem];refine Aa c1 ?_;simp only[go_sem];exact⟨.nils,false,[],p,rfl,D3,⟨by omega,by simp,by simp⟩,Al7 hs,hp,rfl⟩
 have ho:Fb (n+1) (A.drop p)=Ld n (A.drop (p+1)):=by rw[Fb,if_pos h1,Eh]
 have c1:=Uh hs hl h1;have qn:=Ec h1;rw[ho];simp only[go_sem];refine Aa c1 ?_;simp only[go_sem];refine Bk (α:=Nat × Nat × V × List Sp × St) (fun a=>a.1) (fun a=>[(0,.ptr m 0 0),(4,a.2.2.1)]) (fun a=>a.2.2.2.2) (fun a=>a.1<=n/\a.2.1<=A.length/\10*(A.length - a.2.1)+11<=a.1/\RW s a.2.2.2.2 m z t A a.2.1/\GW a.2.2.2.2 11 98 s.length a.2.2.1 (a.2.2.2.1.map Sp.row)/\Ld n (A.drop (p+1))=(Ld a.1 (A.drop a.2.1)).map (fun y=>(a.2.2.2.1++y.1,y.2))/\a.2.2.2.1.length<=a.2.1) ?_ (n,p+1,.nils,[],s.set m (RO z t A (p+1))) ⟨Aj _,qn,by grind,Rv (Al7 hs) _,D3,by simp_all,by simp⟩;rintro⟨k,q,u,L,σ⟩ ⟨qQ,hq,qN,hw,hg,qa,qM⟩ ih;simp only at qQ hq qN hw hg qa qM ih;obtain⟨k,rfl⟩:∃ j,k=j+1:=⟨k - 1,by omega⟩
 have qJ:∀ r∈L.map Sp.row,r.length=11:=by
  intro r hr;obtain⟨x,-,rfl⟩:=Cs.1 hr;exact O3 x
 have qS:∀ r∈L.map Sp.row,r.all V.rowB=true:=by
  intro r hr;obtain⟨x,-,rfl⟩:=Cs.1 hr;exact Hc x
 refine Bd Bjx ?_;by_cases h2:As [125] (A.drop q)=true
 .have c2:=Uh hw.2.2.1 hl h2;have qr:=Ec h2;have qv:Ld (k+1) (A.drop q)=some ([],A.drop (q+1)):=by rw[Ld,if_pos h2,Eh]
  rw[qv]at qa;simp only[go_sem];refine Aa c2 ?_;simp only[go_sem];refine⟨u,true,_,q+1,rfl,D4 hg hm,⟨by omega,qJ,qS⟩,Rv hw _,qr,?_⟩;rw[qa];simp only[Ir,Cc];exact⟨rfl,rfl⟩
 .have h2:As [125] (A.drop q)=false:=by simpa using h2
  have c2:=Ui hw.2.2.1 hl hq h2;obtain⟨v,q2,c3,qH,h3⟩:=hS k AA σ m z t A q hA hT hw.2.2.1 hq AA;have qp:=Rv hw q2;have qG:GW (σ.set m (RO z t A q2)) 11 98 s.length u (L.map Sp.row):=D4 hg hm
  have qv:Ld (k+1) (A.drop q)=match F4 k (A.drop q) with
    | none=>none
    | some (x,r)=>match Ld k r with
     | none=>none
     | some (l,r)=>some (x::l,r):=by
   rw[Ld,if_neg AA];rfl
  rw[qv]at qa;generalize σ.set m (RO z t A q2)=τ at c3 qp qG;have qK:∀ a:Ob,(τ++[a])[τ.length]?=some a:=fun a=>by simp
  have qL:∀ a b:Ob,(τ++[a]).set τ.length b=τ++[b]:=fun a b=>by grind
  unfold PRs at h3
  cases hps:F4 k (A.drop q) with
  | none=>
   rw[hps]at h3 qa;obtain⟨_,⟨d0,d1,d2,d3,d4,d5,d6,d7,d8,d9,qh,rfl,hb⟩,rfl⟩:=h3;simp only[go_sem];refine Aa c2 ?_;simp only[go_sem];refine Aa c3 ?_;simp only[go_sem,qK,qL,Al6 hb];refine⟨.nils,false,[],q2,rfl,D3,⟨by omega,by simp,by simp⟩,Aft qp,qH,?_⟩;rw[qa];rfl
  | some xr=>
   obtain⟨x,r⟩:=xr;rw[hps]at h3 qa;obtain⟨rfl,h3⟩:=h3;have ql:=Hc x;have qk:=Fl x
   have qr:r.length<A.length - q:=by
    have:=((Ae1 (M:=0) (C:=100) AA k).1 _ _ _ (Di hT (Ade q A)) hps).2.2.1;rw[Gz]at this;exact this
   have qX:r.length=A.length - q2:=by rw[<-h3,Gz]
   have qz:RW s (τ++[.row x.row 98 0 0]) m z t A q2:=Aft qp;have qP:GW (τ++[.row x.row 98 0 0]) 11 98 s.length u (L.map Sp.row):=Ix qG;have qU:L.length<=1000000:=by omega
   obtain⟨u',s3,ha,qV,l3,-,f3⟩:=I1 (bytes:=176) (y:=.lst 1 [x.row]) (ys:=[x.row]) qP (by have:=qz.1;omega) rfl AA qJ (by simp[O3]) (by grind);have qT:RW s s3 m z t A q2:=Tc qz (by have:=qz.1;omega) f3;have qg:=Cg hg;rw[qk]at c3 ql ha;simp only[go_sem];refine Aa c2 ?_;simp only[go_sem];refine Aa c3 ?_;simp only[go_sem,qK,qL,ha];refine Av (ih (k,q2,u',L++[x],s3) AE ⟨by omega,qH,by grind,qT,by grind,?_,by grind⟩) rfl
   grind
def Avd:∀ n,PSt n/\Wo n:=by
 intro n
 induction n using Nat.strongRecOn with
 | ind n ih=>grind[Bbb,Bbc]
