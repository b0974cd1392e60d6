/- Walks: the parser's statements and blocks. -/
import Derived.Test.YtlehfgdhebapeaaGreatDoorLq
import Derived.Test.YtlehfgdhebapeaaGreatDoorHx
set_option linter.all false
namespace Go.Proofs.YtlehfgdhebapeaaGreatDoor.KM
open Go
def N7(w:Int):Nat:=if w=2 then 224 else if w=3 then 225 else if w<=6 then 226 else if w<=8 then 227 else if w<=13 then 228 else if w=14 then 229 else 230
theorem Asw(w:List UInt8)(s:St):Bc TT PT 201 [.str w] s (.tup [.int .i64 (C7 w),if C7 w=0 then .nilf else .fn (N7 (C7 w)) [] []]) s:=by
 suffices h:∃ v s',Bc TT PT 201 [.str w] s v s'/\(v=.tup [.int .i64 (C7 w),if C7 w=0 then .nilf else .fn (N7 (C7 w)) [] []]/\s'=s) by
  obtain⟨v,s',h1,rfl,rfl⟩:=h
  exact h1
 refine Ra T201 rfl ?_
 by_cases a1:w=[105,102]
 ·subst a1
  have e1:(([105,102]:List UInt8)==[105,102])=true:=by decide
  simp only[go_sem,e1]
  exact⟨_,rfl,⟨rfl,rfl⟩,fun i ob _ h=>.inl h,rfl,Dg⟩
 have e1:(w==[105,102])=false:=by simp[a1]
 by_cases a2:w=[119,104,105,108,101]
 ·subst a2
  have e2:(([119,104,105,108,101]:List UInt8)==[119,104,105,108,101])=true:=by decide
  simp only[go_sem,e1,e2]
  exact⟨_,rfl,⟨rfl,rfl⟩,fun i ob _ h=>.inl h,rfl,Dg⟩
 have e2:(w==[119,104,105,108,101])=false:=by simp[a2]
 by_cases a3:w=[108,111,99,107]
 ·subst a3
  have e3:(([108,111,99,107]:List UInt8)==[108,111,99,107])=true:=by decide
  simp only[go_sem,e1,e2,e3]
  exact⟨_,rfl,⟨rfl,rfl⟩,fun i ob _ h=>.inl h,rfl,Dg⟩
 have e3:(w==[108,111,99,107])=false:=by simp[a3]
 by_cases a4:w=[114,101,97,100]
 ·subst a4
  have e4:(([114,101,97,100]:List UInt8)==[114,101,97,100])=true:=by decide
  simp only[go_sem,e1,e2,e3,e4]
  exact⟨_,rfl,⟨rfl,rfl⟩,fun i ob _ h=>.inl h,rfl,Dg⟩
 have e4:(w==[114,101,97,100])=false:=by simp[a4]
 by_cases a5:w=[119,114,105,116,101]
 ·subst a5
  have e5:(([119,114,105,116,101]:List UInt8)==[119,114,105,116,101])=true:=by decide
  simp only[go_sem,e1,e2,e3,e4,e5]
  exact⟨_,rfl,⟨rfl,rfl⟩,fun i ob _ h=>.inl h,rfl,Dg⟩
 have e5:(w==[119,114,105,116,101])=false:=by simp[a5]
 by_cases a6:w=[116,114,97,110,115,97,99,116,105,111,110]
 ·subst a6
  have e6:(([116,114,97,110,115,97,99,116,105,111,110]:List UInt8)==[116,114,97,110,115,97,99,116,105,111,110])=true:=by decide
  simp only[go_sem,e1,e2,e3,e4,e5,e6]
  exact⟨_,rfl,⟨rfl,rfl⟩,fun i ob _ h=>.inl h,rfl,Dg⟩
 have e6:(w==[116,114,97,110,115,97,99,116,105,111,110])=false:=by simp[a6]
 by_cases a7:w=[97,116,111,109,105,99]
 ·subst a7
  have e7:(([97,116,111,109,105,99]:List UInt8)==[97,116,111,109,105,99])=true:=by decide
  simp only[go_sem,e1,e2,e3,e4,e5,e6,e7]
  exact⟨_,rfl,⟨rfl,rfl⟩,fun i ob _ h=>.inl h,rfl,Dg⟩
 have e7:(w==[97,116,111,109,105,99])=false:=by simp[a7]
 by_cases a8:w=[119,97,105,116]
 ·subst a8
  have e8:(([119,97,105,116]:List UInt8)==[119,97,105,116])=true:=by decide
  simp only[go_sem,e1,e2,e3,e4,e5,e6,e7,e8]
  exact⟨_,rfl,⟨rfl,rfl⟩,fun i ob _ h=>.inl h,rfl,Dg⟩
 have e8:(w==[119,97,105,116])=false:=by simp[a8]
 by_cases a9:w=[110,111,116,105,102,121]
 ·subst a9
  have e9:(([110,111,116,105,102,121]:List UInt8)==[110,111,116,105,102,121])=true:=by decide
  simp only[go_sem,e1,e2,e3,e4,e5,e6,e7,e8,e9]
  exact⟨_,rfl,⟨rfl,rfl⟩,fun i ob _ h=>.inl h,rfl,Dg⟩
 have e9:(w==[110,111,116,105,102,121])=false:=by simp[a9]
 by_cases a10:w=[110,111,116,105,102,121,97,108,108]
 ·subst a10
  have e10:(([110,111,116,105,102,121,97,108,108]:List UInt8)==[110,111,116,105,102,121,97,108,108])=true:=by decide
  simp only[go_sem,e1,e2,e3,e4,e5,e6,e7,e8,e9,e10]
  exact⟨_,rfl,⟨rfl,rfl⟩,fun i ob _ h=>.inl h,rfl,Dg⟩
 have e10:(w==[110,111,116,105,102,121,97,108,108])=false:=by simp[a10]
 by_cases a11:w=[115,112,97,119,110]
 ·subst a11
  have e11:(([115,112,97,119,110]:List UInt8)==[115,112,97,119,110])=true:=by decide
  simp only[go_sem,e1,e2,e3,e4,e5,e6,e7,e8,e9,e10,e11]
  exact⟨_,rfl,⟨rfl,rfl⟩,fun i ob _ h=>.inl h,rfl,Dg⟩
 have e11:(w==[115,112,97,119,110])=false:=by simp[a11]
 by_cases a12:w=[106,111,105,110]
 ·subst a12
  have e12:(([106,111,105,110]:List UInt8)==[106,111,105,110])=true:=by decide
  simp only[go_sem,e1,e2,e3,e4,e5,e6,e7,e8,e9,e10,e11,e12]
  exact⟨_,rfl,⟨rfl,rfl⟩,fun i ob _ h=>.inl h,rfl,Dg⟩
 have e12:(w==[106,111,105,110])=false:=by simp[a12]
 by_cases a13:w=[115,101,116]
 ·subst a13
  have e13:(([115,101,116]:List UInt8)==[115,101,116])=true:=by decide
  simp only[go_sem,e1,e2,e3,e4,e5,e6,e7,e8,e9,e10,e11,e12,e13]
  exact⟨_,rfl,⟨rfl,rfl⟩,fun i ob _ h=>.inl h,rfl,Dg⟩
 have e13:(w==[115,101,116])=false:=by simp[a13]
 by_cases a14:w=[103,101,116]
 ·subst a14
  have e14:(([103,101,116]:List UInt8)==[103,101,116])=true:=by decide
  simp only[go_sem,e1,e2,e3,e4,e5,e6,e7,e8,e9,e10,e11,e12,e13,e14]
  exact⟨_,rfl,⟨rfl,rfl⟩,fun i ob _ h=>.inl h,rfl,Dg⟩
 have e14:(w==[103,101,116])=false:=by simp[a14]
 have hz:C7 w=0:=by
  unfold C7 wordTab
  simp only[Ve,e1,e2,e3,e4,e5,e6,e7,e8,e9,e10,e11,e12,e13,e14]
  rfl
 rw[hz]
 simp only[go_sem,e1,e2,e3,e4,e5,e6,e7,e8,e9,e10,e11,e12,e13,e14]
 exact⟨_,rfl,⟨rfl,rfl⟩,fun i ob _ h=>.inl h,rfl,Dg⟩
theorem Aa1{d0 d1 d2 d3 d4 d5 d6 d7 d8 d9 d10:V}(h:[d0,d1,d2,d3,d4,d5,d6,d7,d8,d9,d10].all V.rowB=true):(d0.cellB&&(d1.cellB&&(d2.cellB&&(d3.cellB&&(d4.cellB&&(d5.cellB&&(d6.cellB&&(d7.cellB&&(d8.cellB&&(d9.cellB&&d10.cellB))))))))))=true:=by
 simp only[Ar,A3,Ad]at h
 obtain⟨h0,h1,h2,h3,h4,h5,h6,h7,h8,h9,h10,-⟩:=h
 simp only[D9 h0,D9 h1,D9 h2,D9 h3,D9 h4,D9 h5,D9 h6,D9 h7,D9 h8,D9 h9,D9 h10,Vj]
def PRs(A:List Tk)(o:Option (Sp × List Tk))(v:V)(p':Nat):Prop:=match o with
 | some (x,r)=>v=.tup [.agg x.row,.bool true]/\A.drop p'=r
 | none=>∃ r:List V,Mj r/\v=.tup [.agg r,.bool false]
def PSt(n:Nat):Prop:=∀ (s:St) (m:Nat) (z:Bool) (t:Nat) (A:List Tk) (p:Nat),OkA A->C0 A->s[m]?=some (RO z t A p)->p<=A.length->10*(A.length - p)+10<=n->RT 162 [] s m z t A (PRs A (Ei n (A.drop p)))
theorem Nk{s:St}{m:Nat}{z:Bool}{t:Nat}{A:List Tk}{S:Nat->St}(hS:RdS s m z t A S){f p:Nat}{a b:Ob}{r0:List V}{R:V->Nat->List V->Prop}(h:Lr f (S p++[a,b,.row r0 92 0 0]) m (s.length+2) z t A R):
  ∃ v q r',Bc TT PT f [.ptr m 0 0,.ptr (s.length+2) 0 0] (S p++[a,b,.row r0 92 0 0]) v (S q++[a,b,.row r' 92 0 0])/\q<=A.length/\R v q r':=by
 obtain⟨v,q,r',h1,h2,h3⟩:=h
 rw[show(S p++[a,b,.row r0 92 0 0]).set m (RO z t A q)=S q++[a,b,.row r0 92 0 0] from hS.set p q _,hS.u2]at h1
 exact⟨v,q,r',h1,h2,h3⟩
def Ok(A:List Tk)(o:Option (Sp × List Tk))(v:V)(q:Nat)(r:List V):Prop:=match o with
 | some (x,ts)=>v=.bool true/\r=x.row/\A.drop q=ts
 | none=>v=.bool false/\Mj r
theorem Apd{n:Nat}(hB:∀ k,k<n->Pw k):PSt n:=by
 intro s m z t A p hA hT hs hp hf
 obtain⟨n,rfl⟩:∃ k,n=k+1:=⟨n - 1,by omega⟩
 have hB:=hB n (Nat.lt_succ_self n)
 refine Id T162 rfl hs fun S hS=>?_
 have hl:A.length<=1000000:=by have:=hA.len;omega
 have hS':=hS
 have hm:=hS.low
 have hnx:=Nj (hS.get p [.row [.int .i64 0,.int .i64 0,.str [],.str [],.nils,.int .i64 0,.int .i64 0,.str [],.nils,.nils,.nils] 92 0 0]) hl hp
 by_cases h1:(Aa A p).kind=1
 ·have b1:((Aa A p).kind==1)=true:=by simp[h1]
  have hlt:=W6 (A:=A) (p:=p) (by omega)
  have ho:Ei (n+1) (A.drop p)=Mk n (Aa A p).line (A.drop p):=by rw[Iq hlt,Ei,if_pos h1]
  obtain⟨v,q,r,c1,c2,c3⟩:=Nk hS' (a:=.row [.int .i64 0,.int .i64 0,.str [],.str [],.nils,.int .i64 0,.int .i64 0,.str [],.nils,.nils,.nils] 92 0 0) (b:=.row [.int .i64 (Aa A p).kind,.str (Aa A p).text,.int .i64 (Aa A p).line] 145 0 0)
   (Ak7 (n:=n) (ln:=(Aa A p).line) hA hT (hS.get p _) (hS.n2 p _ _ _ _) (by omega) hp (by omega))
  rw[ho]
  obtain⟨-,-,hlen,get,get0,set,set0,n0,n1,n2,u0,u1,u2⟩:=hS
  simp only[go_sem,hlen,get,get0,set,set0,n0,n1,n2,u0,u1,u2,LZ]
  refine Ab hnx ?_
  simp only[go_sem,hlen,get,get0,set,set0,n0,n1,n2,u0,u1,u2,LZ,b1]
  refine Ab c1 ?_
  cases hq:Mk n (Aa A p).line (A.drop p) with
  | none=>
   rw[hq]at c3
   obtain⟨rfl,d0,d1,d2,d3,d4,d5,d6,d7,d8,d9,d10,rfl,hb⟩:=c3
   simp only[go_sem,hlen,get,get0,set,set0,n0,n1,n2,u0,u1,u2,LZ,Aa1 hb]
   exact Bs (v:=.tup [.agg [d0,d1,d2,d3,d4,d5,d6,d7,d8,d9,d10],.bool false]) (Bu (n0 _ _ _) rfl rfl rfl) (B5 hb) c2 ⟨_,⟨_,_,_,_,_,_,_,_,_,_,_,rfl,hb⟩,rfl⟩
  | some xt=>
   obtain⟨x,ts⟩:=xt
   rw[hq]at c3
   obtain⟨rfl,rfl,c3⟩:=c3
   have hxs:=Lm x
   have hxr:=Cp x
   rw[hxr]at hxs ⊢
   simp only[go_sem,hlen,get,get0,set,set0,n0,n1,n2,u0,u1,u2,LZ]
   exact Bs (v:=.tup [.agg _,.bool true]) (Bu (n0 _ _ _) rfl rfl rfl) (B5 hxs) c2 ⟨by rw[hxr],c3⟩
 have b1:((Aa A p).kind==1)=false:=by simp[h1]
 by_cases h3:(Aa A p).kind=3
 case neg=>
  have b3:((Aa A p).kind==3)=false:=by simp[h3]
  have ho:Ei (n+1) (A.drop p)=none:=by
   rcases D7 p A.length with h | h
   ·rw[Iq h,Ei,if_neg h1,if_neg h3]
   ·rw[(Hr h).1];simp[Ei]
  rw[ho]
  obtain⟨-,-,hlen,get,get0,set,set0,n0,n1,n2,u0,u1,u2⟩:=hS
  simp only[go_sem,hlen,get,get0,set,set0,n0,n1,n2,u0,u1,u2,LZ]
  refine Ab hnx ?_
  simp only[go_sem,hlen,get,get0,set,set0,n0,n1,n2,u0,u1,u2,LZ,b1,b3]
  exact Bs (v:=.tup [.agg _,.bool false]) (Bu (n0 _ _ _) rfl rfl rfl) (B5 rfl) hp ⟨_,⟨_,_,_,_,_,_,_,_,_,_,_,rfl,rfl⟩,rfl⟩
 have b3:((Aa A p).kind==3)=true:=by simp[h3]
 have hlt:=W6 (A:=A) (p:=p) (by omega)
 have hrt:=fun σ=>Asw (Aa A p).text σ
 have hrng:=Agv (Aa A p).text
 have hinq:=Cr (show p<9223372036854775807 by omega)
 have hp1:p+1<=A.length:=hlt
 have hpst:Ei (n+1) (A.drop p)=Ei (n+1) (Aa A p::A.drop (p+1)):=by rw[<-Iq hlt]
 rw[Ei,if_neg h1,if_pos h3]at hpst
 generalize hw:C7 (Aa A p).text=w at hrt hrng hpst
 by_cases hw0:w=0
 ·subst hw0
  rw[if_pos rfl]at hpst
  rw[hpst]
  obtain⟨-,-,hlen,get,get0,set,set0,n0,n1,n2,u0,u1,u2⟩:=hS
  simp only[go_sem,hlen,get,get0,set,set0,n0,n1,n2,u0,u1,u2,LZ]
  refine Ab hnx ?_
  simp only[go_sem,hlen,get,get0,set,set0,n0,n1,n2,u0,u1,u2,LZ,b1,b3]
  refine Ab (hrt _) ?_
  simp only[go_sem,hlen,get,get0,set,set0,n0,n1,n2,u0,u1,u2,LZ]
  exact Bs (v:=.tup [.agg _,.bool false]) (Bu (n0 _ _ _) rfl rfl rfl) (B5 rfl) hp ⟨_,⟨_,_,_,_,_,_,_,_,_,_,_,rfl,rfl⟩,rfl⟩
 rw[if_neg hw0]at hpst
 have hq:∃ v q r,Bc TT PT (N7 w) [.ptr m 0 0,.ptr (s.length+2) 0 0] (S (p+1)++[.row [.int .i64 0,.int .i64 0,.str [],.str [],.nils,.int .i64 0,.int .i64 0,.str [],.nils,.nils,.nils] 92 0 0,.row [.int .i64 (Aa A p).kind,.str (Aa A p).text,.int .i64 (Aa A p).line] 145 0 0,.row [.int .i64 w,.int .i64 (Aa A p).line,.str [],.str [],.nils,.int .i64 0,.int .i64 0,.str [],.nils,.nils,.nils] 92 0 0]) v (S q++[.row [.int .i64 0,.int .i64 0,.str [],.str [],.nils,.int .i64 0,.int .i64 0,.str [],.nils,.nils,.nils] 92 0 0,.row [.int .i64 (Aa A p).kind,.str (Aa A p).text,.int .i64 (Aa A p).line] 145 0 0,.row r 92 0 0])/\q<=A.length/\Ok A (Ei (n+1) (A.drop p)) v q r:=by
  rw[hpst]
  have hwc:w=2\/w=3\/(w=7\/w=8)\/(w=4\/w=5\/w=6)\/w=14\/w=15\/(w=9\/w=10\/w=11\/w=12\/w=13):=by omega
  rcases hwc with rfl | rfl | hwc | hwc | rfl | rfl | hwc
  ·obtain⟨v,q,r,c1,c2,c3⟩:=Nk hS' (a:=.row [.int .i64 0,.int .i64 0,.str [],.str [],.nils,.int .i64 0,.int .i64 0,.str [],.nils,.nils,.nils] 92 0 0) (b:=.row [.int .i64 (Aa A p).kind,.str (Aa A p).text,.int .i64 (Aa A p).line] 145 0 0) (Al1 (n:=n) (op:=2) (ln:=(Aa A p).line) hB hA hT (hS.get (p+1) _) (hS.n2 (p+1) _ _ _ _) (by omega) hp1 (by omega))
   refine⟨v,q,r,c1,c2,?_⟩
   rw[if_pos (.inl rfl)]
   have he:∀ o:Option (Sp × List Tk),o=(Uu n (A.drop (p+1))).map (fun y=>({ Aj 2 (Aa A p).line with ex:=y.1.1,body:=y.1.2.1,els:=y.1.2.2 },y.2))->Ok A o v q r:=fun o ho=>by
    subst ho
    cases hQ:Uu n (A.drop (p+1)) with
    | none=>rw[hQ]at c3;exact c3
    | some pr=>
     obtain⟨⟨x,b,e⟩,ts⟩:=pr
     rw[hQ]at c3
     exact⟨c3.1,by rw[c3.2.1,Cp];rfl,c3.2.2⟩
   refine he _ ?_
   unfold Uu I9
   cases pe n 1 (A.drop (p+1)) with
   | none=>rfl
   | some xr=>
    obtain⟨x,t1⟩:=xr
    simp only
    cases Dy n t1 with
    | none=>rfl
    | some bl=>
     obtain⟨b,t2⟩:=bl
     simp only
     by_cases hE:Ak [101,108,115,101] t2=true
     ·rw[if_pos ⟨trivial,hE⟩,if_pos hE]
      cases Dy n t2.tail with
      | none=>rfl
      | some el=>rfl
     ·rw[if_neg (fun h=>hE h.2),if_neg hE]
      rfl
  ·obtain⟨v,q,r,c1,c2,c3⟩:=Nk hS' (a:=.row [.int .i64 0,.int .i64 0,.str [],.str [],.nils,.int .i64 0,.int .i64 0,.str [],.nils,.nils,.nils] 92 0 0) (b:=.row [.int .i64 (Aa A p).kind,.str (Aa A p).text,.int .i64 (Aa A p).line] 145 0 0) (Aei (n:=n) (op:=3) (ln:=(Aa A p).line) hB hA hT (hS.get (p+1) _) (hS.n2 (p+1) _ _ _ _) (by omega) hp1 (by omega))
   refine⟨v,q,r,c1,c2,?_⟩
   rw[if_pos (.inr rfl)]
   have he:∀ o:Option (Sp × List Tk),o=(I9 n (A.drop (p+1))).map (fun y=>({ Aj 3 (Aa A p).line with ex:=y.1.1,body:=y.1.2 },y.2))->Ok A o v q r:=fun o ho=>by
    subst ho
    cases hQ:I9 n (A.drop (p+1)) with
    | none=>rw[hQ]at c3;exact c3
    | some pr=>
     obtain⟨⟨x,b⟩,ts⟩:=pr
     rw[hQ]at c3
     exact⟨c3.1,by rw[c3.2.1,Cp];rfl,c3.2.2⟩
   refine he _ ?_
   unfold I9
   cases pe n 1 (A.drop (p+1)) with
   | none=>rfl
   | some xr=>
    obtain⟨x,t1⟩:=xr
    simp only
    cases Dy n t1 with
    | none=>rfl
    | some bl=>
     obtain⟨b,t2⟩:=bl
     simp only
     rw[if_neg (fun h=>absurd h.1 (by decide))]
     rfl
  ·rw[if_neg (by omega),if_pos hwc]
   obtain⟨v,q,r,c1,c2,c3⟩:=Nk hS' (a:=.row [.int .i64 0,.int .i64 0,.str [],.str [],.nils,.int .i64 0,.int .i64 0,.str [],.nils,.nils,.nils] 92 0 0) (b:=.row [.int .i64 (Aa A p).kind,.str (Aa A p).text,.int .i64 (Aa A p).line] 145 0 0) (Zv (n:=n) (c0:=.int .i64 w) (c1:=.int .i64 (Aa A p).line) (c2:=.str []) (c3:=.str []) (c4:=.nils) (c5:=.int .i64 0) (c6:=.int .i64 0) (c7:=.str []) (c8:=.nils) (c9:=.nils) (c10:=.nils) hB hA hT (hS.get (p+1) _) (hS.n2 (p+1) _ _ _ _) (by omega) hp1 rfl (by omega))
   have hF:N7 w=227:=by rcases hwc with rfl | rfl<;>rfl
   rw[hF]
   refine⟨v,q,r,c1,c2,?_⟩
   cases hQ:Dy n (A.drop (p+1)) with
   | none=>
    rw[hQ]at c3
    obtain⟨h9,h10⟩:=c3
    exact⟨h9,_,_,_,_,_,_,_,_,_,_,_,h10,by rw[h10];rfl⟩
   | some pr=>
    obtain⟨b,ts⟩:=pr
    rw[hQ]at c3
    exact⟨c3.1,by rw[c3.2.1,Cp];rfl,c3.2.2⟩
  ·rw[if_neg (by omega),if_neg (by omega)]
   obtain⟨v,q,r,c1,c2,c3⟩:=Nk hS' (a:=.row [.int .i64 0,.int .i64 0,.str [],.str [],.nils,.int .i64 0,.int .i64 0,.str [],.nils,.nils,.nils] 92 0 0) (b:=.row [.int .i64 (Aa A p).kind,.str (Aa A p).text,.int .i64 (Aa A p).line] 145 0 0) (Apc (n:=n) (op:=w) (ln:=(Aa A p).line) hB hA hT (hS.get (p+1) _) (hS.n2 (p+1) _ _ _ _) (by omega) hp1 (by omega))
   have hF:N7 w=226:=by rcases hwc with rfl | rfl | rfl<;>rfl
   rw[hF]
   refine⟨v,q,r,c1,c2,?_⟩
   have he:∀ o:Option (Sp × List Tk),o=(U6 n (A.drop (p+1))).map (fun y=>({ Aj w (Aa A p).line with nm:=y.1.1,body:=y.1.2 },y.2))->Ok A o v q r:=fun o ho=>by
    subst ho
    cases hQ:U6 n (A.drop (p+1)) with
    | none=>rw[hQ]at c3;exact c3
    | some pr=>
     obtain⟨⟨nm,b⟩,ts⟩:=pr
     rw[hQ]at c3
     exact⟨c3.1,by rw[c3.2.1,Cp];rfl,c3.2.2⟩
   refine he _ ?_
   unfold U6
   cases B8 (A.drop (p+1)) with
   | none=>rfl
   | some nt=>
    obtain⟨nm,t1⟩:=nt
    simp only
    rw[if_pos hwc]
    cases Dy n t1 with
    | none=>rfl
    | some bl=>rfl
  ·rw[if_neg (by decide),if_neg (by decide)]
   obtain⟨v,q,r,c1,c2,c3⟩:=Nk hS' (a:=.row [.int .i64 0,.int .i64 0,.str [],.str [],.nils,.int .i64 0,.int .i64 0,.str [],.nils,.nils,.nils] 92 0 0) (b:=.row [.int .i64 (Aa A p).kind,.str (Aa A p).text,.int .i64 (Aa A p).line] 145 0 0) (Am7 (n:=n) (op:=14) (ln:=(Aa A p).line) hA hT (hS.get (p+1) _) (hS.n2 (p+1) _ _ _ _) (by omega) hp1 (by omega))
   have hF:N7 14=229:=by rfl
   rw[hF]
   refine⟨v,q,r,c1,c2,?_⟩
   have he:∀ o:Option (Sp × List Tk),o=(Uz n (A.drop (p+1))).map (fun y=>({ Aj 14 (Aa A p).line with nm:=y.1.1,ex:=y.1.2 },y.2))->Ok A o v q r:=fun o ho=>by
    subst ho
    cases hQ:Uz n (A.drop (p+1)) with
    | none=>rw[hQ]at c3;exact c3
    | some pr=>
     obtain⟨⟨nm,x⟩,ts⟩:=pr
     rw[hQ]at c3
     exact⟨c3.1,by rw[c3.2.1,Cp];rfl,c3.2.2⟩
   refine he _ ?_
   unfold Uz
   cases B8 (A.drop (p+1)) with
   | none=>rfl
   | some nt=>
    obtain⟨nm,t1⟩:=nt
    simp only
    rw[if_neg (by decide),if_pos trivial]
    cases pe n 1 t1 with
    | none=>rfl
    | some xr=>
     obtain⟨x,t2⟩:=xr
     simp only
     cases Ct [59] t2<;>rfl
  ·rw[if_neg (by decide),if_neg (by decide)]
   obtain⟨v,q,r,c1,c2,c3⟩:=Nk hS' (a:=.row [.int .i64 0,.int .i64 0,.str [],.str [],.nils,.int .i64 0,.int .i64 0,.str [],.nils,.nils,.nils] 92 0 0) (b:=.row [.int .i64 (Aa A p).kind,.str (Aa A p).text,.int .i64 (Aa A p).line] 145 0 0) (Am6 (n:=n) (op:=15) (ln:=(Aa A p).line) hA hT (hS.get (p+1) _) (hS.n2 (p+1) _ _ _ _) (by omega) hp1 (by omega))
   have hF:N7 15=230:=by rfl
   rw[hF]
   refine⟨v,q,r,c1,c2,?_⟩
   have he:∀ o:Option (Sp × List Tk),o=(U0 (A.drop (p+1))).map (fun y=>({ Aj 15 (Aa A p).line with nm:=y.1.1,arg:=y.1.2 },y.2))->Ok A o v q r:=fun o ho=>by
    subst ho
    cases hQ:U0 (A.drop (p+1)) with
    | none=>rw[hQ]at c3;exact c3
    | some pr=>
     obtain⟨⟨nm,ar⟩,ts⟩:=pr
     rw[hQ]at c3
     exact⟨c3.1,by rw[c3.2.1,Cp];rfl,c3.2.2⟩
   refine he _ ?_
   unfold U0
   cases B8 (A.drop (p+1)) with
   | none=>rfl
   | some nt=>
    obtain⟨nm,t1⟩:=nt
    simp only
    rw[if_neg (by decide),if_neg (by decide),if_pos trivial]
    cases B8 t1 with
    | none=>rfl
    | some nt2=>
     obtain⟨ar,t2⟩:=nt2
     simp only
     cases Ct [59] t2<;>rfl
  ·rw[if_neg (by omega),if_neg (by omega)]
   obtain⟨v,q,r,c1,c2,c3⟩:=Nk hS' (a:=.row [.int .i64 0,.int .i64 0,.str [],.str [],.nils,.int .i64 0,.int .i64 0,.str [],.nils,.nils,.nils] 92 0 0) (b:=.row [.int .i64 (Aa A p).kind,.str (Aa A p).text,.int .i64 (Aa A p).line] 145 0 0) (Alh (n:=n) (op:=w) (ln:=(Aa A p).line) hA hT (hS.get (p+1) _) (hS.n2 (p+1) _ _ _ _) (by omega) hp1 (by omega))
   have hF:N7 w=228:=by rcases hwc with rfl | rfl | rfl | rfl | rfl<;>rfl
   rw[hF]
   refine⟨v,q,r,c1,c2,?_⟩
   have he:∀ o:Option (Sp × List Tk),o=(U7 (A.drop (p+1))).map (fun y=>({ Aj w (Aa A p).line with nm:=y.1 },y.2))->Ok A o v q r:=fun o ho=>by
    subst ho
    cases hQ:U7 (A.drop (p+1)) with
    | none=>rw[hQ]at c3;exact c3
    | some pr=>
     obtain⟨nm,ts⟩:=pr
     rw[hQ]at c3
     exact⟨c3.1,by rw[c3.2.1,Cp];rfl,c3.2.2⟩
   refine he _ ?_
   unfold U7
   cases B8 (A.drop (p+1)) with
   | none=>rfl
   | some nt=>
    obtain⟨nm,t1⟩:=nt
    simp only
    rw[if_neg (by omega),if_neg (by omega),if_neg (by omega)]
    cases Ct [59] t1<;>rfl
 obtain⟨v,q,r,c1,c2,c3⟩:=hq
 obtain⟨-,-,hlen,get,get0,set,set0,n0,n1,n2,u0,u1,u2⟩:=hS
 have hrt:=fun σ=>hrt σ
 simp only[if_neg hw0]at hrt
 simp only[go_sem,hlen,get,get0,set,set0,n0,n1,n2,u0,u1,u2,LZ]
 refine Ab hnx ?_
 simp only[go_sem,hlen,get,get0,set,set0,n0,n1,n2,u0,u1,u2,LZ,b1,b3]
 refine Ab (hrt _) ?_
 simp only[go_sem,hlen,get,get0,set,set0,n0,n1,n2,u0,u1,u2,LZ,hinq]
 refine Ab c1 ?_
 unfold Ok at c3
 cases hq:Ei (n+1) (A.drop p) with
 | none=>
  rw[hq]at c3
  obtain⟨rfl,d0,d1,d2,d3,d4,d5,d6,d7,d8,d9,d10,rfl,hb⟩:=c3
  simp only[go_sem,hlen,get,get0,set,set0,n0,n1,n2,u0,u1,u2,LZ,Aa1 hb]
  exact Bs (v:=.tup [.agg [d0,d1,d2,d3,d4,d5,d6,d7,d8,d9,d10],.bool false]) (Bu (n0 _ _ _) rfl rfl rfl) (B5 hb) c2 ⟨_,⟨_,_,_,_,_,_,_,_,_,_,_,rfl,hb⟩,rfl⟩
 | some xt=>
  obtain⟨x,ts⟩:=xt
  rw[hq]at c3
  obtain⟨rfl,rfl,c3⟩:=c3
  have hxs:=Lm x
  have hxr:=Cp x
  rw[hxr]at hxs ⊢
  simp only[go_sem,hlen,get,get0,set,set0,n0,n1,n2,u0,u1,u2,LZ]
  exact Bs (v:=.tup [.agg _,.bool true]) (Bu (n0 _ _ _) rfl rfl rfl) (B5 hxs) c2 ⟨by rw[hxr],c3⟩
/-! blocks -/
def RW(s σ:St)(m:Nat)(z:Bool)(t:Nat)(A:List Tk)(q:Nat):Prop:=s.length<=σ.length/\(∀ i,i<s.length->i≠m->σ[i]?=s[i]?)/\σ[m]?=some (RO z t A q)/\m<s.length
theorem Aa2{s:St}{m:Nat}{z:Bool}{t:Nat}{A:List Tk}{q:Nat}(h:s[m]?=some (RO z t A q)):RW s s m z t A q:=⟨Af _,fun _ _ _=>rfl,h,(Ay.1 h).1⟩
theorem Md{s σ:St}{m:Nat}{z:Bool}{t:Nat}{A:List Tk}{q:Nat}(h:RW s σ m z t A q)(q':Nat):RW s (σ.set m (RO z t A q')) m z t A q':=by
 obtain⟨h1,h2,h3,h4⟩:=h
 refine⟨by simpa using h1,fun i hi hm=>?_,A1 (by omega),h4⟩
 rw[Bd (Ne.symm hm)]
 exact h2 i hi hm
theorem W7{s σ l:St}{m:Nat}{z:Bool}{t:Nat}{A:List Tk}{q:Nat}(h:RW s σ m z t A q):RW s (σ++l) m z t A q:=by
 obtain⟨h1,h2,h3,h4⟩:=h
 refine⟨by simp;omega,fun i hi hm=>?_,Bv h3,h4⟩
 rw[Ck (by omega)]
 exact h2 i hi hm
theorem Nd{s σ τ:St}{m:Nat}{z:Bool}{t:Nat}{A:List Tk}{q:Nat}(h:RW s σ m z t A q)(hl:s.length<=τ.length)(hj:∀ j,j<s.length->τ[j]?=σ[j]?):RW s τ m z t A q:=by
 obtain⟨h1,h2,h3,h4⟩:=h
 exact⟨hl,fun i hi hm=>by rw[hj i hi];exact h2 i hi hm,by rw[hj m h4];exact h3,h4⟩
theorem Aih{s σ:St}{m:Nat}{z:Bool}{t:Nat}{A:List Tk}{q:Nat}(h:RW s σ m z t A q):σ.take s.length=s.set m (RO z t A q):=by
 obtain⟨h1,h2,h3,h4⟩:=h
 refine P6 fun i=>?_
 by_cases hi:i<s.length
 ·rw[Ym hi]
  by_cases hm:i=m
  ·subst hm
   rw[h3,A1 h4]
  ·rw[h2 i hi hm,Bd (Ne.symm hm)]
 ·rw[Mr (by simp;omega),Mr (by simp;omega)]
theorem Aii{s σ:St}{m:Nat}{z:Bool}{t:Nat}{A:List Tk}{q:Nat}(h:RW s σ m z t A q):∀ i ob,i<s.length->σ[i]?=some ob->s[i]?=some ob\/Dh s.length [] ob.refs=true:=by
 obtain⟨h1,h2,h3,h4⟩:=h
 intro i ob hi ho
 by_cases hm:i=m
 ·subst hm
  rw[ho]at h3
  cases h3
  exact .inr (by rw[W5];rfl)
 ·rw[h2 i hi hm]at ho
  exact .inl ho
theorem Av9{z:Bool}{t:Nat}{A:List Tk}{f m q0 k ty:Nat}{res:List AR}{thr:Bool}{body:AC}{s:St}{R:V->Nat->Prop}(hT:TT f=some ⟨1,res,thr,body,none⟩)
  (h:W TT PT [.c body] (Cu 0 [.ptr m 0 0]) s (Hd fun e' σ1=>∃ u b xs q,By e' σ1 res=some (.tup [u,.bool b])/\GW σ1 k ty s.length u xs/\(0<k/\(∀ r∈xs,r.length=k)/\∀ r∈xs,r.all V.rowB=true)/\RW s σ1 m z t A q/\q<=A.length/\R (.tup [SL true 0 xs,.bool b]) q)):RT f [] s m z t A R:=by
 obtain⟨e',σ1,hE,u,b,xs,q,hr,hg,⟨hk,hlen,hrow⟩,hw,hq,hR⟩:=h
 have hoc:=Ns hg hk hlen hrow
 have hcell:=Em hg
 have hrefs:(SL true 0 xs).refs=[]:=by unfold SL;split<;>rfl
 have hfr:(∀ j,j<s.length->(σ1.freeze u.refs)[j]?=σ1[j]?):=by
  intro j hj
  rcases hg with⟨rfl,-⟩ | ⟨-,i,g,rfl,ho,hlo⟩
  ·rfl
  ·exact Zb _ _ _ (by omega)
 have hw2:RW s (σ1.freeze u.refs) m z t A q:=Nd hw (by rw[Qj];exact hw.1) hfr
 refine⟨_,q,?_,hq,hR⟩
 rw[<-Aih hw2]
 refine Zm hT rfl rfl ⟨e',σ1,hE,.tup [u,.bool b],u.refs,hr,?_,?_,?_,Aii hw2,rfl⟩
 ·rcases hg with⟨rfl,-⟩ | ⟨-,i,g,rfl,-⟩<;>rfl
 ·have hb:OV σ1 (.bool b) (.bool b):=K8 rfl
  exact congrArg (Option.map V.tup) (Wv (.cons (Ahs hoc hcell) (.cons hb .nil)) fun j hj=>by
   simpa[Aw,V.refs] using hj)
 ·show Dh s.length [] (Aw [SL true 0 xs,.bool b])=true
  simp only[Aw,hrefs,V.refs,Ds]
  rfl
theorem Ape{n:Nat}(hS:∀ k,k<n->PSt k):Pw n:=by
 intro s m z t A p hA hT hs hp hf
 have hl:A.length<=1000000:=by have:=hA.len;omega
 have hm:=(Ay.1 hs).1
 obtain⟨n,rfl⟩:∃ k,n=k+1:=⟨n - 1,by omega⟩
 refine Av9 (q0:=p) (k:=11) (ty:=92) T126 ?_
 by_cases h1:Ak [123] (A.drop p)=true
 case neg=>
  have h1:Ak [123] (A.drop p)=false:=by simpa using h1
  have ho:Dy (n+1) (A.drop p)=none:=by rw[Dy,if_neg (by rw[h1];decide)]
  have c1:=N5 hs hl hp h1
  rw[ho]
  simp only[go_sem]
  refine Ab c1 ?_
  simp only[go_sem]
  exact⟨.nils,false,[],p,rfl,Gc,⟨by omega,by simp,by simp⟩,Aa2 hs,hp,rfl⟩
 have ho:Dy (n+1) (A.drop p)=Gm n (A.drop (p+1)):=by rw[Dy,if_pos h1,Dd]
 have c1:=N4 hs hl h1
 have hlt:=Db h1
 rw[ho]
 simp only[go_sem]
 refine Ab c1 ?_
 simp only[go_sem]
 refine En (α:=Nat × Nat × V × List Sp × St) (fun a=>a.1) (fun a=>[(0,.ptr m 0 0),(4,a.2.2.1)]) (fun a=>a.2.2.2.2) (fun a=>a.1<=n/\a.2.1<=A.length/\10*(A.length - a.2.1)+11<=a.1/\RW s a.2.2.2.2 m z t A a.2.1/\GW a.2.2.2.2 11 92 s.length a.2.2.1 (a.2.2.2.1.map Sp.row)/\Gm n (A.drop (p+1))=(Gm a.1 (A.drop a.2.1)).map (fun y=>(a.2.2.2.1++y.1,y.2))/\a.2.2.2.1.length<=a.2.1) ?_ (n,p+1,.nils,[],s.set m (RO z t A (p+1))) ⟨Af _,hlt,by simp only;omega,Md (Aa2 hs) _,Gc,by simp only[Bf];cases Gm n (A.drop (p+1))<;>rfl,by simp⟩
 rintro⟨k,q,u,L,σ⟩ ⟨hkn,hq,hbk,hw,hg,hinv,hLq⟩ ih
 simp only at hkn hq hbk hw hg hinv hLq ih
 obtain⟨k,rfl⟩:∃ j,k=j+1:=⟨k - 1,by omega⟩
 have hrl:∀ r∈L.map Sp.row,r.length=11:=by
  intro r hr
  obtain⟨x,-,rfl⟩:=E4.1 hr
  exact Qv x
 have hrr:∀ r∈L.map Sp.row,r.all V.rowB=true:=by
  intro r hr
  obtain⟨x,-,rfl⟩:=E4.1 hr
  exact Lm x
 refine Eo (by delta lp126_0;exact rfl) ?_
 by_cases h2:Ak [125] (A.drop q)=true
 ·have c2:=N4 hw.2.2.1 hl h2
  have hlt2:=Db h2
  have ho2:Gm (k+1) (A.drop q)=some ([],A.drop (q+1)):=by rw[Gm,if_pos h2,Dd]
  rw[ho2]at hinv
  simp only[go_sem]
  refine Ab c2 ?_
  simp only[go_sem]
  refine⟨u,true,_,q+1,rfl,Dt hg hm,⟨by omega,hrl,hrr⟩,Md hw _,hlt2,?_⟩
  rw[hinv]
  simp only[G1,Ds]
  exact⟨rfl,rfl⟩
 ·have h2:Ak [125] (A.drop q)=false:=by simpa using h2
  have c2:=N5 hw.2.2.1 hl hq h2
  obtain⟨v,q2,c3,hq2,h3⟩:=hS k (by omega) σ m z t A q hA hT hw.2.2.1 hq (by omega)
  have hw2:=Md hw q2
  have hg2:GW (σ.set m (RO z t A q2)) 11 92 s.length u (L.map Sp.row):=Dt hg hm
  have ho2:Gm (k+1) (A.drop q)=match Ei k (A.drop q) with
    | none=>none
    | some (x,r)=>match Gm k r with
     | none=>none
     | some (l,r)=>some (x::l,r):=by
   rw[Gm,if_neg (by rw[h2];decide)]
   rfl
  rw[ho2]at hinv
  generalize σ.set m (RO z t A q2)=τ at c3 hw2 hg2
  have ln0:∀ a:Ob,(τ++[a])[τ.length]?=some a:=fun a=>by simp
  have lu0:∀ a b:Ob,(τ++[a]).set τ.length b=τ++[b]:=fun a b=>by simp[Ix]
  unfold PRs at h3
  cases hps:Ei k (A.drop q) with
  | none=>
   rw[hps]at h3 hinv
   obtain⟨_,⟨d0,d1,d2,d3,d4,d5,d6,d7,d8,d9,d10,rfl,hb⟩,rfl⟩:=h3
   simp only[go_sem]
   refine Ab c2 ?_
   simp only[go_sem]
   refine Ab c3 ?_
   simp only[go_sem,ln0,lu0,Aa1 hb]
   refine⟨.nils,false,[],q2,rfl,Gc,⟨by omega,by simp,by simp⟩,W7 hw2,hq2,?_⟩
   rw[hinv]
   rfl
  | some xr=>
   obtain⟨x,r⟩:=xr
   rw[hps]at h3 hinv
   obtain⟨rfl,h3⟩:=h3
   have hxs:=Lm x
   have hxr:=Cp x
   have hlt2:r.length<A.length - q:=by
    have:=((Wl (M:=0) (C:=100) (by omega) k).1 _ _ _ (Ce hT (Sl q A)) hps).2.2.1
    rw[D5]at this
    exact this
   have hrq:r.length=A.length - q2:=by rw[<-h3,D5]
   have hw3:RW s (τ++[.row x.row 92 0 0]) m z t A q2:=W7 hw2
   have hg3:GW (τ++[.row x.row 92 0 0]) 11 92 s.length u (L.map Sp.row):=Tz hg2
   have hLl:L.length<=1000000:=by omega
   obtain⟨u',s3,ha,hg4,l3,-,f3⟩:=Mb (bytes:=176) (y:=.lst 1 [x.row]) (ys:=[x.row]) hg3 (by have:=hw3.1;omega) rfl (by omega) hrl (by simp[Qv]) (by simp;omega)
   have hw4:RW s s3 m z t A q2:=Nd hw3 (by have:=hw3.1;omega) f3
   have hcell:=Em hg
   rw[hxr]at c3 hxs ha
   simp only[go_sem]
   refine Ab c2 ?_
   simp only[go_sem]
   refine Ab c3 ?_
   simp only[go_sem,ln0,lu0,ha]
   refine C5 (ih (k,q2,u',L++[x],s3) (by simp) ⟨by simp only;omega,hq2,by simp only;omega,hw4,by simpa using hg4,?_,by simp;omega⟩) rfl
   simp only
   rw[hinv,h3]
   simp only
   cases Gm k r with
   | none=>rfl
   | some y=>simp
theorem Ag0:∀ n,PSt n/\Pw n:=by
 intro n
 induction n using Nat.strongRecOn with
 | ind n ih=>exact⟨Apd fun k hk=>(ih k hk).2,Ape fun k hk=>(ih k hk).1⟩
end Go.Proofs.YtlehfgdhebapeaaGreatDoor.KM
