/- Walks: the parser's statements and blocks. -/
import Derived.Test.YtdbnbejffjhdlaaGreatDoorLq
set_option linter.all false
namespace Go.Proofs.YtdbnbejffjhdlaaGreatDoor.KM
open Go
def Tg(w:Int):Nat:=if w=2 then 206 else if w=3 then 207 else if w<=6 then 208 else if w<=8 then 209 else if w<=13 then 210 else if w=14 then 211 else 212
def Bcr(w:List UInt8)(s:St):Bt TT PT 183 [.str w] s (.tup [iV (Eo w),if Eo w=0 then .nilf else .fn (Tg (Eo w)) [] []]) s:=by
 suffices h:∃ v s',Bt TT PT 183 [.str w] s v s'/\(v=.tup [iV (Eo w),if Eo w=0 then .nilf else .fn (Tg (Eo w)) [] []]/\s'=s) by
  obtain⟨v,s',h1,rfl,rfl⟩:=h;exact h1
 refine Aw4 T183 rfl ?_;by_cases a1:w=[105,102]
 .subst a1;have e1:(([105,102]:List UInt8)==[105,102])=true:=by decide
  simp only[go_sem,e1];exact⟨_,rfl,⟨rfl,rfl⟩,fun i ob _ h=>.inl h,rfl,Dg⟩
 have e1:(w==[105,102])=false:=by simp[a1]
 by_cases a2:w=[119,104,105,108,101]
 .subst a2;have e2:(([119,104,105,108,101]:List UInt8)==[119,104,105,108,101])=true:=by decide
  simp only[go_sem,e1,e2];exact⟨_,rfl,⟨rfl,rfl⟩,fun i ob _ h=>.inl h,rfl,Dg⟩
 have e2:(w==[119,104,105,108,101])=false:=by simp[a2]
 by_cases a3:w=[108,111,99,107]
 .subst a3;have e3:(([108,111,99,107]:List UInt8)==[108,111,99,107])=true:=by decide
  simp only[go_sem,e1,e2,e3];exact⟨_,rfl,⟨rfl,rfl⟩,fun i ob _ h=>.inl h,rfl,Dg⟩
 have e3:(w==[108,111,99,107])=false:=by simp[a3]
 by_cases a4:w=[114,101,97,100]
 .subst a4;have e4:(([114,101,97,100]:List UInt8)==[114,101,97,100])=true:=by decide
  simp only[go_sem,e1,e2,e3,e4];exact⟨_,rfl,⟨rfl,rfl⟩,fun i ob _ h=>.inl h,rfl,Dg⟩
 have e4:(w==[114,101,97,100])=false:=by simp[a4]
 by_cases a5:w=[119,114,105,116,101]
 .subst a5;have e5:(([119,114,105,116,101]:List UInt8)==[119,114,105,116,101])=true:=by decide
  simp only[go_sem,e1,e2,e3,e4,e5];exact⟨_,rfl,⟨rfl,rfl⟩,fun i ob _ h=>.inl h,rfl,Dg⟩
 have e5:(w==[119,114,105,116,101])=false:=by simp[a5]
 by_cases a6:w=[116,114,97,110,115,97,99,116,105,111,110]
 .subst a6;have e6:(([116,114,97,110,115,97,99,116,105,111,110]:List UInt8)==[116,114,97,110,115,97,99,116,105,111,110])=true:=by decide
  simp only[go_sem,e1,e2,e3,e4,e5,e6];exact⟨_,rfl,⟨rfl,rfl⟩,fun i ob _ h=>.inl h,rfl,Dg⟩
 have e6:(w==[116,114,97,110,115,97,99,116,105,111,110])=false:=by simp[a6]
 by_cases a7:w=[97,116,111,109,105,99]
 .subst a7;have e7:(([97,116,111,109,105,99]:List UInt8)==[97,116,111,109,105,99])=true:=by decide
  simp only[go_sem,e1,e2,e3,e4,e5,e6,e7];exact⟨_,rfl,⟨rfl,rfl⟩,fun i ob _ h=>.inl h,rfl,Dg⟩
 have e7:(w==[97,116,111,109,105,99])=false:=by simp[a7]
 by_cases a8:w=[119,97,105,116]
 .subst a8;have e8:(([119,97,105,116]:List UInt8)==[119,97,105,116])=true:=by decide
  simp only[go_sem,e1,e2,e3,e4,e5,e6,e7,e8];exact⟨_,rfl,⟨rfl,rfl⟩,fun i ob _ h=>.inl h,rfl,Dg⟩
 have e8:(w==[119,97,105,116])=false:=by simp[a8]
 by_cases a9:w=[110,111,116,105,102,121]
 .subst a9;have e9:(([110,111,116,105,102,121]:List UInt8)==[110,111,116,105,102,121])=true:=by decide
  simp only[go_sem,e1,e2,e3,e4,e5,e6,e7,e8,e9];exact⟨_,rfl,⟨rfl,rfl⟩,fun i ob _ h=>.inl h,rfl,Dg⟩
 have e9:(w==[110,111,116,105,102,121])=false:=by simp[a9]
 by_cases qC:w=[110,111,116,105,102,121,97,108,108]
 .subst qC;have qe:(([110,111,116,105,102,121,97,108,108]:List UInt8)==[110,111,116,105,102,121,97,108,108])=true:=by decide
  simp only[go_sem,e1,e2,e3,e4,e5,e6,e7,e8,e9,qe];exact⟨_,rfl,⟨rfl,rfl⟩,fun i ob _ h=>.inl h,rfl,Dg⟩
 have qe:(w==[110,111,116,105,102,121,97,108,108])=false:=by simp[qC]
 by_cases qD:w=[115,112,97,119,110]
 .subst qD;have qi:(([115,112,97,119,110]:List UInt8)==[115,112,97,119,110])=true:=by decide
  simp only[go_sem,e1,e2,e3,e4,e5,e6,e7,e8,e9,qe,qi];exact⟨_,rfl,⟨rfl,rfl⟩,fun i ob _ h=>.inl h,rfl,Dg⟩
 have qi:(w==[115,112,97,119,110])=false:=by simp[qD]
 by_cases qE:w=[106,111,105,110]
 .subst qE;have qm:(([106,111,105,110]:List UInt8)==[106,111,105,110])=true:=by decide
  simp only[go_sem,e1,e2,e3,e4,e5,e6,e7,e8,e9,qe,qi,qm];exact⟨_,rfl,⟨rfl,rfl⟩,fun i ob _ h=>.inl h,rfl,Dg⟩
 have qm:(w==[106,111,105,110])=false:=by simp[qE]
 by_cases qF:w=[115,101,116]
 .subst qF;have qq:(([115,101,116]:List UInt8)==[115,101,116])=true:=by decide
  simp only[go_sem,e1,e2,e3,e4,e5,e6,e7,e8,e9,qe,qi,qm,qq];exact⟨_,rfl,⟨rfl,rfl⟩,fun i ob _ h=>.inl h,rfl,Dg⟩
 have qq:(w==[115,101,116])=false:=by simp[qF]
 by_cases qG:w=[103,101,116]
 .subst qG;have qt:(([103,101,116]:List UInt8)==[103,101,116])=true:=by decide
  simp only[go_sem,e1,e2,e3,e4,e5,e6,e7,e8,e9,qe,qi,qm,qq,qt];exact⟨_,rfl,⟨rfl,rfl⟩,fun i ob _ h=>.inl h,rfl,Dg⟩
 have qt:(w==[103,101,116])=false:=by simp[qG]
 have hz:Eo w=0:=by
  unfold Eo wordTab;simp only[Ahj,e1,e2,e3,e4,e5,e6,e7,e8,e9,qe,qi,qm,qq,qt];rfl
 rw[hz];simp only[go_sem,e1,e2,e3,e4,e5,e6,e7,e8,e9,qe,qi,qm,qq,qt];exact⟨_,rfl,⟨rfl,rfl⟩,fun i ob _ h=>.inl h,rfl,Dg⟩
def Akd{d0 d1 d2 d3 d4 d5 d6 d7 d8 d9 qh:V}(h:[d0,d1,d2,d3,d4,d5,d6,d7,d8,d9,qh].all V.rowB=true):(d0.cellB&&(d1.cellB&&(d2.cellB&&(d3.cellB&&(d4.cellB&&(d5.cellB&&(d6.cellB&&(d7.cellB&&(d8.cellB&&(d9.cellB&&qh.cellB))))))))))=true:=by
 simp only[Bp,Ce,Ak]at h;obtain⟨h0,h1,h2,h3,h4,h5,h6,h7,h8,h9,qu,-⟩:=h;simp only[Gb h0,Gb h1,Gb h2,Gb h3,Gb h4,Gb h5,Gb h6,Gb h7,Gb h8,Gb h9,Gb qu,Ahr]
def PRs(A:List Tk)(o:Option (Sp × List Tk))(v:V)(p':Nat):Prop:=match o with
 | some (x,r)=>v=.tup [.agg x.row,.bool true]/\A.drop p'=r
 | none=>∃ r:List V,Rf r/\v=.tup [.agg r,.bool false]
def PSt(n:Nat):Prop:=∀ (s:St) (m:Nat) (z:Bool) (t:Nat) (A:List Tk) (p:Nat),OkA A->D6 A->s[m]?=some (RO z t A p)->p<=A.length->10*(A.length - p)+10<=n->RT 152 [] s m z t A (PRs A (I8 n (A.drop p)))
def S3{s:St}{m:Nat}{z:Bool}{t:Nat}{A:List Tk}{S:Nat->St}(hS:RdS s m z t A S){f p:Nat}{a b:Ob}{r0:List V}{R:V->Nat->List V->Prop}(h:Qm f (S p++[a,b,.row r0 104 0 0]) m (s.length+2) z t A R):
  ∃ v q r',Bt TT PT f [.ptr m 0 0,.ptr (s.length+2) 0 0] (S p++[a,b,.row r0 104 0 0]) v (S q++[a,b,.row r' 104 0 0])/\q<=A.length/\R v q r':=by
 obtain⟨v,q,r',h1,h2,h3⟩:=h;rw[show(S p++[a,b,.row r0 104 0 0]).set m (RO z t A q)=S q++[a,b,.row r0 104 0 0] from hS.set p q _,hS.u2]at h1;exact⟨v,q,r',h1,h2,h3⟩
def Tu(A:List Tk)(o:Option (Sp × List Tk))(v:V)(q:Nat)(r:List V):Prop:=match o with
 | some (x,ts)=>v=.bool true/\r=x.row/\A.drop q=ts
 | none=>v=.bool false/\Rf r
def A7y{n:Nat}(hB:∀ k,k<n->Vx k):PSt n:=by
 intro s m z t A p hA hT hs hp hf;obtain⟨n,rfl⟩:∃ k,n=k+1:=⟨n - 1,by omega⟩;have hB:=hB n (V4 n);refine L5 T152 rfl hs fun S hS=>?_
 have hl:A.length<=1000000:=by have:=hA.len;omega
 have qf:=hS;have hm:=hS.low;have qv:=S0 (hS.get p [sP 0 0 [] []]) hl hp;by_cases h1:(Ag A p).kind=1
 .have b1:((Ag A p).kind==1)=true:=by simp[h1]
  have qn:=Aeh (A:=A) (p:=p) AA;have ho:I8 (n+1) (A.drop p)=Vn n (Ag A p).line (A.drop p):=by rw[Ms qn,I8,if_pos h1]
  obtain⟨v,q,r,c1,c2,c3⟩:=S3 qf (a:=sP 0 0 [] []) (b:=Bn (Ag A p))
   (A0u (n:=n) (ln:=(Ag A p).line) hA hT (hS.get p _) (hS.n2 p _ _ _ _) AA hp AA)
  rw[ho];have Zq:=Dx hS;obtain⟨-,-,qc,get,get0,set,set0,n0,n1,n2,u0,u1,u2⟩:=hS;simp only[go_sem,Zq,LZ];refine Aa qv ?_;simp only[go_sem,Zq,LZ,b1];refine Aa c1 ?_
  cases hq:Vn n (Ag A p).line (A.drop p) with
  | none=>
   rw[hq]at c3;obtain⟨rfl,d0,d1,d2,d3,d4,d5,d6,d7,d8,d9,qh,rfl,hb⟩:=c3;simp only[go_sem,Zq,LZ,Akd hb];exact Cf (v:=.tup [.agg [d0,d1,d2,d3,d4,d5,d6,d7,d8,d9,qh],.bool false]) (Cj (n0 _ _ _) rfl rfl rfl) (Cx hb) c2 ⟨_,⟨_,_,_,_,_,_,_,_,_,_,_,rfl,hb⟩,rfl⟩
  | some xt=>
   obtain⟨x,ts⟩:=xt;rw[hq]at c3;obtain⟨rfl,rfl,c3⟩:=c3;have ql:=Hg x;have qk:=Fq x;rw[qk]at ql ⊢;simp only[go_sem,Zq,LZ];exact Cf (v:=.tup [.agg _,.bool true]) (Cj (n0 _ _ _) rfl rfl rfl) (Cx ql) c2 ⟨by rw[qk],c3⟩
 have b1:((Ag A p).kind==1)=false:=by simp[h1]
 by_cases h3:(Ag A p).kind=3
 case neg=>
  have b3:((Ag A p).kind==3)=false:=by simp[h3]
  have ho:I8 (n+1) (A.drop p)=none:=by
   rcases Bb p A.length with h | h
   .rw[Ms h,I8,if_neg h1,if_neg h3]
   .rw[(Lf h).1];simp[I8]
  rw[ho];have Zq:=Dx hS;obtain⟨-,-,qc,get,get0,set,set0,n0,n1,n2,u0,u1,u2⟩:=hS;simp only[go_sem,Zq,LZ];refine Aa qv ?_;simp only[go_sem,Zq,LZ,b1,b3];exact Cf (v:=.tup [.agg _,.bool false]) (Cj (n0 _ _ _) rfl rfl rfl) (Cx rfl) hp ⟨_,⟨_,_,_,_,_,_,_,_,_,_,_,rfl,rfl⟩,rfl⟩
 have b3:((Ag A p).kind==3)=true:=by simp[h3]
 have qn:=Aeh (A:=A) (p:=p) AA;have qo:=fun σ=>Bcr (Ag A p).text σ
 have qy:=Asn (Ag A p).text;have qw:=Ay (show p<9223372036854775807 by omega);have qj:p+1<=A.length:=qn;have qb:I8 (n+1) (A.drop p)=I8 (n+1) (Ag A p::A.drop (p+1)):=by rw[<-Ms qn]
 rw[I8,if_neg h1,if_pos h3]at qb;generalize hw:Eo (Ag A p).text=w at qo qy qb;by_cases qA:w=0
 .subst qA;rw[if_pos rfl]at qb;rw[qb];have Zq:=Dx hS;obtain⟨-,-,qc,get,get0,set,set0,n0,n1,n2,u0,u1,u2⟩:=hS;simp only[go_sem,Zq,LZ];refine Aa qv ?_;simp only[go_sem,Zq,LZ,b1,b3];refine Aa (qo _) ?_;simp only[go_sem,Zq,LZ];exact Cf (v:=.tup [.agg _,.bool false]) (Cj (n0 _ _ _) rfl rfl rfl) (Cx rfl) hp ⟨_,⟨_,_,_,_,_,_,_,_,_,_,_,rfl,rfl⟩,rfl⟩
 rw[if_neg qA]at qb
 have hq:∃ v q r,Bt TT PT (Tg w) [.ptr m 0 0,.ptr (s.length+2) 0 0] (S (p+1)++[sP 0 0 [] [],Bn (Ag A p),.row [iV w,iV (Ag A p).line,.str [],.str [],.nils,iV 0,iV 0,.str [],.nils,.nils,.nils] 104 0 0]) v (S q++[sP 0 0 [] [],Bn (Ag A p),.row r 104 0 0])/\q<=A.length/\Tu A (I8 (n+1) (A.drop p)) v q r:=by
  rw[qb];have qd:w=2\/w=3\/(w=7\/w=8)\/(w=4\/w=5\/w=6)\/w=14\/w=15\/(w=9\/w=10\/w=11\/w=12\/w=13):=by omega
  rcases qd with rfl | rfl | qd | qd | rfl | rfl | qd
  .obtain⟨v,q,r,c1,c2,c3⟩:=S3 qf (a:=sP 0 0 [] []) (b:=Bn (Ag A p)) (A19 (n:=n) (op:=2) (ln:=(Ag A p).line) hB hA hT (hS.get (p+1) _) (hS.n2 (p+1) _ _ _ _) AA qj AA);refine⟨v,q,r,c1,c2,?_⟩;rw[if_pos (.inl rfl)]
   have he:∀ o:Option (Sp × List Tk),o=(Aa8 n (A.drop (p+1))).map (fun y=>({ Au 2 (Ag A p).line with ex:=y.1.1,body:=y.1.2.1,els:=y.1.2.2 },y.2))->Tu A o v q r:=fun o ho=>by
    subst ho
    cases hQ:Aa8 n (A.drop (p+1)) with
    | none=>rw[hQ]at c3;exact c3
    | some pr=>
     obtain⟨⟨x,b,e⟩,ts⟩:=pr;rw[hQ]at c3;exact⟨c3.1,by rw[c3.2.1,Fq];rfl,c3.2.2⟩
   refine he _ ?_;unfold Aa8 Nt
   cases pe n 1 (A.drop (p+1)) with
   | none=>rfl
   | some xr=>
    obtain⟨x,t1⟩:=xr;simp only
    cases Fz n t1 with
    | none=>rfl
    | some bl=>
     obtain⟨b,t2⟩:=bl;simp only;by_cases hE:A1 [101,108,115,101] t2=true
     .rw[if_pos ⟨trivial,hE⟩,if_pos hE]
      cases Fz n t2.tail with
      | none=>rfl
      | some el=>rfl
     .rw[if_neg (fun h=>hE h.2),if_neg hE];rfl
  .obtain⟨v,q,r,c1,c2,c3⟩:=S3 qf (a:=sP 0 0 [] []) (b:=Bn (Ag A p)) (Ao8 (n:=n) (op:=3) (ln:=(Ag A p).line) hB hA hT (hS.get (p+1) _) (hS.n2 (p+1) _ _ _ _) AA qj AA);refine⟨v,q,r,c1,c2,?_⟩;rw[if_pos (.inr rfl)]
   have he:∀ o:Option (Sp × List Tk),o=(Nt n (A.drop (p+1))).map (fun y=>({ Au 3 (Ag A p).line with ex:=y.1.1,body:=y.1.2 },y.2))->Tu A o v q r:=fun o ho=>by
    subst ho
    cases hQ:Nt n (A.drop (p+1)) with
    | none=>rw[hQ]at c3;exact c3
    | some pr=>
     obtain⟨⟨x,b⟩,ts⟩:=pr;rw[hQ]at c3;exact⟨c3.1,by rw[c3.2.1,Fq];rfl,c3.2.2⟩
   refine he _ ?_;unfold Nt
   cases pe n 1 (A.drop (p+1)) with
   | none=>rfl
   | some xr=>
    obtain⟨x,t1⟩:=xr;simp only
    cases Fz n t1 with
    | none=>rfl
    | some bl=>
     obtain⟨b,t2⟩:=bl;simp only;rw[if_neg (fun h=>absurd h.1 AP)];rfl
  .rw[if_neg AA,if_pos qd];obtain⟨v,q,r,c1,c2,c3⟩:=S3 qf (a:=sP 0 0 [] []) (b:=Bn (Ag A p)) (Aiq (n:=n) (c0:=iV w) (c1:=iV (Ag A p).line) (c2:=.str []) (c3:=.str []) (c4:=.nils) (c5:=iV 0) (c6:=iV 0) (c7:=.str []) (c8:=.nils) (c9:=.nils) (c10:=.nils) hB hA hT (hS.get (p+1) _) (hS.n2 (p+1) _ _ _ _) AA qj rfl AA)
   have hF:Tg w=209:=by rcases qd with rfl | rfl<;>rfl
   rw[hF];refine⟨v,q,r,c1,c2,?_⟩
   cases hQ:Fz n (A.drop (p+1)) with
   | none=>
    rw[hQ]at c3;obtain⟨h9,qu⟩:=c3;exact⟨h9,_,_,_,_,_,_,_,_,_,_,_,qu,by rw[qu];rfl⟩
   | some pr=>
    obtain⟨b,ts⟩:=pr;rw[hQ]at c3;exact⟨c3.1,by rw[c3.2.1,Fq];rfl,c3.2.2⟩
  .rw[if_neg AA,if_neg AA];obtain⟨v,q,r,c1,c2,c3⟩:=S3 qf (a:=sP 0 0 [] []) (b:=Bn (Ag A p)) (A7x (n:=n) (op:=w) (ln:=(Ag A p).line) hB hA hT (hS.get (p+1) _) (hS.n2 (p+1) _ _ _ _) AA qj AA)
   have hF:Tg w=208:=by rcases qd with rfl | rfl | rfl<;>rfl
   rw[hF];refine⟨v,q,r,c1,c2,?_⟩
   have he:∀ o:Option (Sp × List Tk),o=(qNB n (A.drop (p+1))).map (fun y=>({ Au w (Ag A p).line with nm:=y.1.1,body:=y.1.2 },y.2))->Tu A o v q r:=fun o ho=>by
    subst ho
    cases hQ:qNB n (A.drop (p+1)) with
    | none=>rw[hQ]at c3;exact c3
    | some pr=>
     obtain⟨⟨nm,b⟩,ts⟩:=pr;rw[hQ]at c3;exact⟨c3.1,by rw[c3.2.1,Fq];rfl,c3.2.2⟩
   refine he _ ?_;unfold qNB
   cases Dh (A.drop (p+1)) with
   | none=>rfl
   | some nt=>
    obtain⟨nm,t1⟩:=nt;simp only;rw[if_pos qd]
    cases Fz n t1 with
    | none=>rfl
    | some bl=>rfl
  .rw[if_neg AP,if_neg AP];obtain⟨v,q,r,c1,c2,c3⟩:=S3 qf (a:=sP 0 0 [] []) (b:=Bn (Ag A p)) (A4g (n:=n) (op:=14) (ln:=(Ag A p).line) hA hT (hS.get (p+1) _) (hS.n2 (p+1) _ _ _ _) AA qj AA);have hF:Tg 14=211:=by rfl
   rw[hF];refine⟨v,q,r,c1,c2,?_⟩
   have he:∀ o:Option (Sp × List Tk),o=(Abl n (A.drop (p+1))).map (fun y=>({ Au 14 (Ag A p).line with nm:=y.1.1,ex:=y.1.2 },y.2))->Tu A o v q r:=fun o ho=>by
    subst ho
    cases hQ:Abl n (A.drop (p+1)) with
    | none=>rw[hQ]at c3;exact c3
    | some pr=>
     obtain⟨⟨nm,x⟩,ts⟩:=pr;rw[hQ]at c3;exact⟨c3.1,by rw[c3.2.1,Fq];rfl,c3.2.2⟩
   refine he _ ?_;unfold Abl
   cases Dh (A.drop (p+1)) with
   | none=>rfl
   | some nt=>
    obtain⟨nm,t1⟩:=nt;simp only;rw[if_neg AP,if_pos trivial]
    cases pe n 1 t1 with
    | none=>rfl
    | some xr=>
     obtain⟨x,t2⟩:=xr;simp only
     cases Eb [59] t2<;>rfl
  .rw[if_neg AP,if_neg AP];obtain⟨v,q,r,c1,c2,c3⟩:=S3 qf (a:=sP 0 0 [] []) (b:=Bn (Ag A p)) (A4f (n:=n) (op:=15) (ln:=(Ag A p).line) hA hT (hS.get (p+1) _) (hS.n2 (p+1) _ _ _ _) AA qj AA);have hF:Tg 15=212:=by rfl
   rw[hF];refine⟨v,q,r,c1,c2,?_⟩
   have he:∀ o:Option (Sp × List Tk),o=(Abm (A.drop (p+1))).map (fun y=>({ Au 15 (Ag A p).line with nm:=y.1.1,arg:=y.1.2 },y.2))->Tu A o v q r:=fun o ho=>by
    subst ho
    cases hQ:Abm (A.drop (p+1)) with
    | none=>rw[hQ]at c3;exact c3
    | some pr=>
     obtain⟨⟨nm,ar⟩,ts⟩:=pr;rw[hQ]at c3;exact⟨c3.1,by rw[c3.2.1,Fq];rfl,c3.2.2⟩
   refine he _ ?_;unfold Abm
   cases Dh (A.drop (p+1)) with
   | none=>rfl
   | some nt=>
    obtain⟨nm,t1⟩:=nt;simp only;rw[if_neg AP,if_neg AP,if_pos trivial]
    cases Dh t1 with
    | none=>rfl
    | some nt2=>
     obtain⟨ar,t2⟩:=nt2;simp only
     cases Eb [59] t2<;>rfl
  .rw[if_neg AA,if_neg AA];obtain⟨v,q,r,c1,c2,c3⟩:=S3 qf (a:=sP 0 0 [] []) (b:=Bn (Ag A p)) (A09 (n:=n) (op:=w) (ln:=(Ag A p).line) hA hT (hS.get (p+1) _) (hS.n2 (p+1) _ _ _ _) AA qj AA)
   have hF:Tg w=210:=by rcases qd with rfl | rfl | rfl | rfl | rfl<;>rfl
   rw[hF];refine⟨v,q,r,c1,c2,?_⟩
   have he:∀ o:Option (Sp × List Tk),o=(qNm (A.drop (p+1))).map (fun y=>({ Au w (Ag A p).line with nm:=y.1 },y.2))->Tu A o v q r:=fun o ho=>by
    subst ho
    cases hQ:qNm (A.drop (p+1)) with
    | none=>rw[hQ]at c3;exact c3
    | some pr=>
     obtain⟨nm,ts⟩:=pr;rw[hQ]at c3;exact⟨c3.1,by rw[c3.2.1,Fq];rfl,c3.2.2⟩
   refine he _ ?_;unfold qNm
   cases Dh (A.drop (p+1)) with
   | none=>rfl
   | some nt=>
    obtain⟨nm,t1⟩:=nt;simp only;rw[if_neg AA,if_neg AA,if_neg AA]
    cases Eb [59] t1<;>rfl
 obtain⟨v,q,r,c1,c2,c3⟩:=hq;have Zq:=Dx hS;obtain⟨-,-,qc,get,get0,set,set0,n0,n1,n2,u0,u1,u2⟩:=hS;have qo:=fun σ=>qo σ
 simp only[if_neg qA]at qo;simp only[go_sem,Zq,LZ];refine Aa qv ?_;simp only[go_sem,Zq,LZ,b1,b3];refine Aa (qo _) ?_;simp only[go_sem,Zq,LZ,qw];refine Aa c1 ?_;unfold Tu at c3
 cases hq:I8 (n+1) (A.drop p) with
 | none=>
  rw[hq]at c3;obtain⟨rfl,d0,d1,d2,d3,d4,d5,d6,d7,d8,d9,qh,rfl,hb⟩:=c3;simp only[go_sem,Zq,LZ,Akd hb];exact Cf (v:=.tup [.agg [d0,d1,d2,d3,d4,d5,d6,d7,d8,d9,qh],.bool false]) (Cj (n0 _ _ _) rfl rfl rfl) (Cx hb) c2 ⟨_,⟨_,_,_,_,_,_,_,_,_,_,_,rfl,hb⟩,rfl⟩
 | some xt=>
  obtain⟨x,ts⟩:=xt;rw[hq]at c3;obtain⟨rfl,rfl,c3⟩:=c3;have ql:=Hg x;have qk:=Fq x;rw[qk]at ql ⊢;simp only[go_sem,Zq,LZ];exact Cf (v:=.tup [.agg _,.bool true]) (Cj (n0 _ _ _) rfl rfl rfl) (Cx ql) c2 ⟨by rw[qk],c3⟩
/-! blocks -/
def RW(s σ:St)(m:Nat)(z:Bool)(t:Nat)(A:List Tk)(q:Nat):Prop:=s.length<=σ.length/\(∀ i,i<s.length->i≠m->σ[i]?=s[i]?)/\σ[m]?=some (RO z t A q)/\m<s.length
def Ake{s:St}{m:Nat}{z:Bool}{t:Nat}{A:List Tk}{q:Nat}(h:s[m]?=some (RO z t A q)):RW s s m z t A q:=⟨An _,fun _ _ _=>rfl,h,(Al.1 h).1⟩
def Q9{s σ:St}{m:Nat}{z:Bool}{t:Nat}{A:List Tk}{q:Nat}(h:RW s σ m z t A q)(q':Nat):RW s (σ.set m (RO z t A q')) m z t A q':=by
 obtain⟨h1,h2,h3,h4⟩:=h;refine⟨by simpa using h1,fun i hi hm=>?_,Bv AA,h4⟩;rw[Bk (Ne.symm hm)];exact h2 i hi hm
def Aei{s σ l:St}{m:Nat}{z:Bool}{t:Nat}{A:List Tk}{q:Nat}(h:RW s σ m z t A q):RW s (σ++l) m z t A q:=by
 obtain⟨h1,h2,h3,h4⟩:=h;refine⟨by simp;omega,fun i hi hm=>?_,Bs h3,h4⟩;rw[C3 AA];exact h2 i hi hm
def Sq{s σ τ:St}{m:Nat}{z:Bool}{t:Nat}{A:List Tk}{q:Nat}(h:RW s σ m z t A q)(hl:s.length<=τ.length)(hj:∀ j,j<s.length->τ[j]?=σ[j]?):RW s τ m z t A q:=by
 obtain⟨h1,h2,h3,h4⟩:=h;exact⟨hl,fun i hi hm=>by rw[hj i hi];exact h2 i hi hm,by rw[hj m h4];exact h3,h4⟩
def Avd{s σ:St}{m:Nat}{z:Bool}{t:Nat}{A:List Tk}{q:Nat}(h:RW s σ m z t A q):σ.take s.length=s.set m (RO z t A q):=by
 obtain⟨h1,h2,h3,h4⟩:=h;refine Tx fun i=>?_
 by_cases hi:i<s.length
 .rw[List.getElem?_take_of_lt hi];by_cases hm:i=m
  .subst hm;rw[h3,Bv h4]
  .rw[h2 i hi hm,Bk (Ne.symm hm)]
 .rw[Ahc AJ,Ahc AJ]
def Ave{s σ:St}{m:Nat}{z:Bool}{t:Nat}{A:List Tk}{q:Nat}(h:RW s σ m z t A q):∀ i ob,i<s.length->σ[i]?=some ob->s[i]?=some ob\/Ef s.length [] ob.refs=true:=by
 obtain⟨h1,h2,h3,h4⟩:=h;intro i ob hi ho;by_cases hm:i=m
 .subst hm;rw[ho]at h3;cases h3;exact .inr (by rw[Aeg];rfl)
 .rw[h2 i hi hm]at ho;exact .inl ho
def Bhk{z:Bool}{t:Nat}{A:List Tk}{f m q0 k ty:Nat}{res:List AR}{thr:Bool}{body:AC}{s:St}{R:V->Nat->Prop}(hT:TT f=some ⟨1,res,thr,body,none⟩)
  (h:W TT PT [.c body] (C6 0 [.ptr m 0 0]) s (Hd fun e' σ1=>∃ u b xs q,Ca e' σ1 res=some (.tup [u,.bool b])/\GW σ1 k ty s.length u xs/\(0<k/\(∀ r∈xs,r.length=k)/\∀ r∈xs,r.all V.rowB=true)/\RW s σ1 m z t A q/\q<=A.length/\R (.tup [SL true 0 xs,.bool b]) q)):RT f [] s m z t A R:=by
 obtain⟨e',σ1,hE,u,b,xs,q,hr,hg,⟨hk,qc,qz⟩,hw,hq,hR⟩:=h;have qS:=I1 hg hk qc qz;have qg:=Bx hg
 have qs:(SL true 0 xs).refs=[]:=by unfold SL;split<;>rfl
 have qO:(∀ j,j<s.length->(σ1.freeze u.refs)[j]?=σ1[j]?):=by
  intro j hj;rcases hg with⟨rfl,-⟩ | ⟨-,i,g,rfl,ho,qW⟩
  .rfl
  .exact Aow _ _ _ AA
 have qp:RW s (σ1.freeze u.refs) m z t A q:=Sq hw (by rw[Qv];exact hw.1) qO;refine⟨_,q,?_,hq,hR⟩;rw[<-Avd qp];refine Apx hT rfl rfl ⟨e',σ1,hE,.tup [u,.bool b],u.refs,hr,?_,?_,?_,Ave qp,rfl⟩
 .rcases hg with⟨rfl,-⟩ | ⟨-,i,g,rfl,-⟩<;>rfl
 .have hb:OV σ1 (.bool b) (.bool b):=H2 rfl
  exact congrArg (Option.map V.tup) (Sl (.cons (Oo qS qg) (.cons hb .nil)) fun j hj=>by
   simpa[Ah,V.refs] using hj)
 .show Ef s.length [] (Ah [SL true 0 xs,.bool b])=true;simp only[Ah,qs,V.refs,Bw];rfl
def A7z{n:Nat}(hS:∀ k,k<n->PSt k):Vx n:=by
 intro s m z t A p hA hT hs hp hf;have hl:A.length<=1000000:=by have:=hA.len;omega
 have hm:=(Al.1 hs).1;obtain⟨n,rfl⟩:∃ k,n=k+1:=⟨n - 1,by omega⟩;refine Bhk (q0:=p) (k:=11) (ty:=104) T111 ?_;by_cases h1:A1 [123] (A.drop p)=true
 case neg=>
  have h1:A1 [123] (A.drop p)=false:=by simpa using h1
  have ho:Fz (n+1) (A.drop p)=none:=by rw[Fz,if_neg (by rw[h1];decide)]
  have c1:=Te hs hl hp h1;rw[ho];simp only[go_sem];refine Aa c1 ?_;simp only[go_sem];exact⟨.nils,false,[],p,rfl,De,⟨by omega,by simp,by simp⟩,Ake hs,hp,rfl⟩
 have ho:Fz (n+1) (A.drop p)=Ln n (A.drop (p+1)):=by rw[Fz,if_pos h1,Ek]
 have c1:=Td hs hl h1;have qn:=Eg h1;rw[ho];simp only[go_sem];refine Aa c1 ?_;simp only[go_sem];refine Bh (α:=Nat × Nat × V × List Sp × St) (fun a=>a.1) (fun a=>[(0,.ptr m 0 0),(4,a.2.2.1)]) (fun a=>a.2.2.2.2) (fun a=>a.1<=n/\a.2.1<=A.length/\10*(A.length - a.2.1)+11<=a.1/\RW s a.2.2.2.2 m z t A a.2.1/\GW a.2.2.2.2 11 104 s.length a.2.2.1 (a.2.2.2.1.map Sp.row)/\Ln n (A.drop (p+1))=(Ln a.1 (A.drop a.2.1)).map (fun y=>(a.2.2.2.1++y.1,y.2))/\a.2.2.2.1.length<=a.2.1) ?_ (n,p+1,.nils,[],s.set m (RO z t A (p+1))) ⟨An _,qn,by simp only;omega,Q9 (Ake hs) _,De,by simp only[Ci];cases Ln n (A.drop (p+1))<;>rfl,by simp⟩;rintro⟨k,q,u,L,σ⟩ ⟨qR,hq,qN,hw,hg,qa,qM⟩ ih;simp only at qR hq qN hw hg qa qM ih;obtain⟨k,rfl⟩:∃ j,k=j+1:=⟨k - 1,by omega⟩
 have qJ:∀ r∈L.map Sp.row,r.length=11:=by
  intro r hr;obtain⟨x,-,rfl⟩:=Cs.1 hr;exact Ol x
 have qT:∀ r∈L.map Sp.row,r.all V.rowB=true:=by
  intro r hr;obtain⟨x,-,rfl⟩:=Cs.1 hr;exact Hg x
 refine Az Bgj ?_;by_cases h2:A1 [125] (A.drop q)=true
 .have c2:=Td hw.2.2.1 hl h2;have qr:=Eg h2;have qx:Ln (k+1) (A.drop q)=some ([],A.drop (q+1)):=by rw[Ln,if_pos h2,Ek]
  rw[qx]at qa;simp only[go_sem];refine Aa c2 ?_;simp only[go_sem];refine⟨u,true,_,q+1,rfl,Dv hg hm,⟨by omega,qJ,qT⟩,Q9 hw _,qr,?_⟩;rw[qa];simp only[Is,Bw];exact⟨rfl,rfl⟩
 .have h2:A1 [125] (A.drop q)=false:=by simpa using h2
  have c2:=Te hw.2.2.1 hl hq h2;obtain⟨v,q2,c3,qI,h3⟩:=hS k AA σ m z t A q hA hT hw.2.2.1 hq AA;have qp:=Q9 hw q2;have qH:GW (σ.set m (RO z t A q2)) 11 104 s.length u (L.map Sp.row):=Dv hg hm
  have qx:Ln (k+1) (A.drop q)=match I8 k (A.drop q) with
    | none=>none
    | some (x,r)=>match Ln k r with
     | none=>none
     | some (l,r)=>some (x::l,r):=by
   rw[Ln,if_neg (by rw[h2];decide)];rfl
  rw[qx]at qa;generalize σ.set m (RO z t A q2)=τ at c3 qp qH;have qK:∀ a:Ob,(τ++[a])[τ.length]?=some a:=fun a=>by simp
  have qL:∀ a b:Ob,(τ++[a]).set τ.length b=τ++[b]:=fun a b=>by simp[Qp]
  unfold PRs at h3
  cases hps:I8 k (A.drop q) with
  | none=>
   rw[hps]at h3 qa;obtain⟨_,⟨d0,d1,d2,d3,d4,d5,d6,d7,d8,d9,qh,rfl,hb⟩,rfl⟩:=h3;simp only[go_sem];refine Aa c2 ?_;simp only[go_sem];refine Aa c3 ?_;simp only[go_sem,qK,qL,Akd hb];refine⟨.nils,false,[],q2,rfl,De,⟨by omega,by simp,by simp⟩,Aei qp,qI,?_⟩;rw[qa];rfl
  | some xr=>
   obtain⟨x,r⟩:=xr;rw[hps]at h3 qa;obtain⟨rfl,h3⟩:=h3;have ql:=Hg x;have qk:=Fq x
   have qr:r.length<A.length - q:=by
    have:=((Adq (M:=0) (C:=100) AA k).1 _ _ _ (Dr hT (Acd q A)) hps).2.2.1;rw[E3]at this;exact this
   have qX:r.length=A.length - q2:=by rw[<-h3,E3]
   have qB:RW s (τ++[.row x.row 104 0 0]) m z t A q2:=Aei qp;have qP:GW (τ++[.row x.row 104 0 0]) 11 104 s.length u (L.map Sp.row):=H0 qH;have qV:L.length<=1000000:=by omega
   obtain⟨u',s3,ha,qQ,l3,-,f3⟩:=G9 (bytes:=176) (y:=.lst 1 [x.row]) (ys:=[x.row]) qP (by have:=qB.1;omega) rfl AA qJ (by simp[Ol]) AJ;have qU:RW s s3 m z t A q2:=Sq qB (by have:=qB.1;omega) f3;have qg:=Bx hg;rw[qk]at c3 ql ha;simp only[go_sem];refine Aa c2 ?_;simp only[go_sem];refine Aa c3 ?_;simp only[go_sem,qK,qL,ha];refine Am (ih (k,q2,u',L++[x],s3) AE ⟨by simp only;omega,qI,by simp only;omega,qU,by simpa using qQ,?_,by simp;omega⟩) rfl;simp only;rw[qa,h3];simp only
   cases Ln k r with
   | none=>rfl
   | some y=>simp
def Ast:∀ n,PSt n/\Vx n:=by
 intro n
 induction n using Nat.strongRecOn with
 | ind n ih=>exact⟨A7y fun k hk=>(ih k hk).2,A7z fun k hk=>(ih k hk).1⟩
