/- Walks: the parser's statements and blocks. -/
import Derived.Test.YtcoeikinocflnaaGreatDoorLq
import Derived.Test.YtcoeikinocflnaaGreatDoorHx
set_option linter.all false
namespace Go.Proofs.YtcoeikinocflnaaGreatDoor.KM
open Go
def Nt(w:Int):Nat:=if w=2 then 234 else if w=3 then 235 else if w<=6 then 236 else if w<=8 then 237 else if w<=13 then 238 else if w=14 then 239 else 240
theorem Auj(w:List UInt8)(s:St):Bk TT PT 204 [.str w] s (.tup [.int .i64 (C2 w),if C2 w=0 then .nilf else .fn (Nt (C2 w)) [] []]) s:=by
 suffices h:∃ v s',Bk TT PT 204 [.str w] s v s'/\(v=.tup [.int .i64 (C2 w),if C2 w=0 then .nilf else .fn (Nt (C2 w)) [] []]/\s'=s) by
  obtain⟨v,s',h1,rfl,rfl⟩:=h
  exact h1
 refine Ax6 T204 rfl ?_
 by_cases a1:w=[105,102]
 ·subst a1
  have e1:(([105,102]:List UInt8)==[105,102])=true:=by decide
  simp only[go_sem,e1]
  exact⟨_,rfl,⟨rfl,rfl⟩,fun i ob _ h=>.inl h,rfl,C6⟩
 have e1:(w==[105,102])=false:=by simp[a1]
 by_cases a2:w=[119,104,105,108,101]
 ·subst a2
  have e2:(([119,104,105,108,101]:List UInt8)==[119,104,105,108,101])=true:=by decide
  simp only[go_sem,e1,e2]
  exact⟨_,rfl,⟨rfl,rfl⟩,fun i ob _ h=>.inl h,rfl,C6⟩
 have e2:(w==[119,104,105,108,101])=false:=by simp[a2]
 by_cases a3:w=[108,111,99,107]
 ·subst a3
  have e3:(([108,111,99,107]:List UInt8)==[108,111,99,107])=true:=by decide
  simp only[go_sem,e1,e2,e3]
  exact⟨_,rfl,⟨rfl,rfl⟩,fun i ob _ h=>.inl h,rfl,C6⟩
 have e3:(w==[108,111,99,107])=false:=by simp[a3]
 by_cases a4:w=[114,101,97,100]
 ·subst a4
  have e4:(([114,101,97,100]:List UInt8)==[114,101,97,100])=true:=by decide
  simp only[go_sem,e1,e2,e3,e4]
  exact⟨_,rfl,⟨rfl,rfl⟩,fun i ob _ h=>.inl h,rfl,C6⟩
 have e4:(w==[114,101,97,100])=false:=by simp[a4]
 by_cases a5:w=[119,114,105,116,101]
 ·subst a5
  have e5:(([119,114,105,116,101]:List UInt8)==[119,114,105,116,101])=true:=by decide
  simp only[go_sem,e1,e2,e3,e4,e5]
  exact⟨_,rfl,⟨rfl,rfl⟩,fun i ob _ h=>.inl h,rfl,C6⟩
 have e5:(w==[119,114,105,116,101])=false:=by simp[a5]
 by_cases a6:w=[116,114,97,110,115,97,99,116,105,111,110]
 ·subst a6
  have e6:(([116,114,97,110,115,97,99,116,105,111,110]:List UInt8)==[116,114,97,110,115,97,99,116,105,111,110])=true:=by decide
  simp only[go_sem,e1,e2,e3,e4,e5,e6]
  exact⟨_,rfl,⟨rfl,rfl⟩,fun i ob _ h=>.inl h,rfl,C6⟩
 have e6:(w==[116,114,97,110,115,97,99,116,105,111,110])=false:=by simp[a6]
 by_cases a7:w=[97,116,111,109,105,99]
 ·subst a7
  have e7:(([97,116,111,109,105,99]:List UInt8)==[97,116,111,109,105,99])=true:=by decide
  simp only[go_sem,e1,e2,e3,e4,e5,e6,e7]
  exact⟨_,rfl,⟨rfl,rfl⟩,fun i ob _ h=>.inl h,rfl,C6⟩
 have e7:(w==[97,116,111,109,105,99])=false:=by simp[a7]
 by_cases a8:w=[119,97,105,116]
 ·subst a8
  have e8:(([119,97,105,116]:List UInt8)==[119,97,105,116])=true:=by decide
  simp only[go_sem,e1,e2,e3,e4,e5,e6,e7,e8]
  exact⟨_,rfl,⟨rfl,rfl⟩,fun i ob _ h=>.inl h,rfl,C6⟩
 have e8:(w==[119,97,105,116])=false:=by simp[a8]
 by_cases a9:w=[110,111,116,105,102,121]
 ·subst a9
  have e9:(([110,111,116,105,102,121]:List UInt8)==[110,111,116,105,102,121])=true:=by decide
  simp only[go_sem,e1,e2,e3,e4,e5,e6,e7,e8,e9]
  exact⟨_,rfl,⟨rfl,rfl⟩,fun i ob _ h=>.inl h,rfl,C6⟩
 have e9:(w==[110,111,116,105,102,121])=false:=by simp[a9]
 by_cases a10:w=[110,111,116,105,102,121,97,108,108]
 ·subst a10
  have e10:(([110,111,116,105,102,121,97,108,108]:List UInt8)==[110,111,116,105,102,121,97,108,108])=true:=by decide
  simp only[go_sem,e1,e2,e3,e4,e5,e6,e7,e8,e9,e10]
  exact⟨_,rfl,⟨rfl,rfl⟩,fun i ob _ h=>.inl h,rfl,C6⟩
 have e10:(w==[110,111,116,105,102,121,97,108,108])=false:=by simp[a10]
 by_cases a11:w=[115,112,97,119,110]
 ·subst a11
  have e11:(([115,112,97,119,110]:List UInt8)==[115,112,97,119,110])=true:=by decide
  simp only[go_sem,e1,e2,e3,e4,e5,e6,e7,e8,e9,e10,e11]
  exact⟨_,rfl,⟨rfl,rfl⟩,fun i ob _ h=>.inl h,rfl,C6⟩
 have e11:(w==[115,112,97,119,110])=false:=by simp[a11]
 by_cases a12:w=[106,111,105,110]
 ·subst a12
  have e12:(([106,111,105,110]:List UInt8)==[106,111,105,110])=true:=by decide
  simp only[go_sem,e1,e2,e3,e4,e5,e6,e7,e8,e9,e10,e11,e12]
  exact⟨_,rfl,⟨rfl,rfl⟩,fun i ob _ h=>.inl h,rfl,C6⟩
 have e12:(w==[106,111,105,110])=false:=by simp[a12]
 by_cases a13:w=[115,101,116]
 ·subst a13
  have e13:(([115,101,116]:List UInt8)==[115,101,116])=true:=by decide
  simp only[go_sem,e1,e2,e3,e4,e5,e6,e7,e8,e9,e10,e11,e12,e13]
  exact⟨_,rfl,⟨rfl,rfl⟩,fun i ob _ h=>.inl h,rfl,C6⟩
 have e13:(w==[115,101,116])=false:=by simp[a13]
 by_cases a14:w=[103,101,116]
 ·subst a14
  have e14:(([103,101,116]:List UInt8)==[103,101,116])=true:=by decide
  simp only[go_sem,e1,e2,e3,e4,e5,e6,e7,e8,e9,e10,e11,e12,e13,e14]
  exact⟨_,rfl,⟨rfl,rfl⟩,fun i ob _ h=>.inl h,rfl,C6⟩
 have e14:(w==[103,101,116])=false:=by simp[a14]
 have hz:C2 w=0:=by
  unfold C2 wordTab
  simp only[Vq,e1,e2,e3,e4,e5,e6,e7,e8,e9,e10,e11,e12,e13,e14]
  rfl
 rw[hz]
 simp only[go_sem,e1,e2,e3,e4,e5,e6,e7,e8,e9,e10,e11,e12,e13,e14]
 exact⟨_,rfl,⟨rfl,rfl⟩,fun i ob _ h=>.inl h,rfl,C6⟩
theorem Abc{d0 d1 d2 d3 d4 d5 d6 d7 d8 d9 d10:V}(h:[d0,d1,d2,d3,d4,d5,d6,d7,d8,d9,d10].all V.rowB=true):(d0.cellB&&(d1.cellB&&(d2.cellB&&(d3.cellB&&(d4.cellB&&(d5.cellB&&(d6.cellB&&(d7.cellB&&(d8.cellB&&(d9.cellB&&d10.cellB))))))))))=true:=by
 simp only[Am,Av,Ae]at h
 obtain⟨h0,h1,h2,h3,h4,h5,h6,h7,h8,h9,h10,-⟩:=h
 simp only[Eb h0,Eb h1,Eb h2,Eb h3,Eb h4,Eb h5,Eb h6,Eb h7,Eb h8,Eb h9,Eb h10,Vv]
def PRs(A:List Tk)(o:Option (Sp × List Tk))(v:V)(p':Nat):Prop:=match o with
 | some (x,r)=>v=.tup [.agg x.row,.bool true]/\A.drop p'=r
 | none=>∃ r:List V,L9 r/\v=.tup [.agg r,.bool false]
def PSt(n:Nat):Prop:=∀ (s:St) (m:Nat) (z:Bool) (t:Nat) (A:List Tk) (p:Nat),OkA A->C0 A->s[m]?=some (RO z t A p)->p<=A.length->10*(A.length - p)+10<=n->RT 169 [] s m z t A (PRs A (D8 n (A.drop p)))
theorem Nb{s:St}{m:Nat}{z:Bool}{t:Nat}{A:List Tk}{S:Nat->St}(hS:RdS s m z t A S){f p:Nat}{a b:Ob}{r0:List V}{R:V->Nat->List V->Prop}(h:Li f (S p++[a,b,.row r0 105 0 0]) m (s.length+2) z t A R):
  ∃ v q r',Bk TT PT f [.ptr m 0 0,.ptr (s.length+2) 0 0] (S p++[a,b,.row r0 105 0 0]) v (S q++[a,b,.row r' 105 0 0])/\q<=A.length/\R v q r':=by
 obtain⟨v,q,r',h1,h2,h3⟩:=h
 rw[show(S p++[a,b,.row r0 105 0 0]).set m (RO z t A q)=S q++[a,b,.row r0 105 0 0] from hS.set p q _,hS.u2]at h1
 exact⟨v,q,r',h1,h2,h3⟩
def N9(A:List Tk)(o:Option (Sp × List Tk))(v:V)(q:Nat)(r:List V):Prop:=match o with
 | some (x,ts)=>v=.bool true/\r=x.row/\A.drop q=ts
 | none=>v=.bool false/\L9 r
theorem Aqw{n:Nat}(hB:∀ k,k<n->Pt k):PSt n:=by
 intro s m z t A p hA hT hs hp hf
 obtain⟨n,rfl⟩:∃ k,n=k+1:=⟨n - 1,by omega⟩
 have hB:=hB n (Y0 n)
 refine H8 T169 rfl hs fun S hS=>?_
 have hl:A.length<=1000000:=by have:=hA.len;omega
 have hS':=hS
 have hm:=hS.low
 have hnx:=Na (hS.get p [.row [.int .i64 0,.int .i64 0,.str [],.str [],.nils,.int .i64 0,.int .i64 0,.str [],.nils,.nils,.nils] 105 0 0]) hl hp
 by_cases h1:(Aa A p).kind=1
 ·have b1:((Aa A p).kind==1)=true:=by simp[h1]
  have hlt:=Xc (A:=A) (p:=p) (by omega)
  have ho:D8 (n+1) (A.drop p)=Mc n (Aa A p).line (A.drop p):=by rw[Ii hlt,D8,if_pos h1]
  obtain⟨v,q,r,c1,c2,c3⟩:=Nb hS' (a:=.row [.int .i64 0,.int .i64 0,.str [],.str [],.nils,.int .i64 0,.int .i64 0,.str [],.nils,.nils,.nils] 105 0 0) (b:=.row [.int .i64 (Aa A p).kind,.str (Aa A p).text,.int .i64 (Aa A p).line] 137 0 0)
   (Al0 (n:=n) (ln:=(Aa A p).line) hA hT (hS.get p _) (hS.n2 p _ _ _ _) (by omega) hp (by omega))
  rw[ho]
  have Zq:=Ck hS
  obtain⟨-,-,hlen,get,get0,set,set0,n0,n1,n2,u0,u1,u2⟩:=hS
  simp only[go_sem,Zq,LZ]
  refine Ac hnx ?_
  simp only[go_sem,Zq,LZ,b1]
  refine Ac c1 ?_
  cases hq:Mc n (Aa A p).line (A.drop p) with
  | none=>
   rw[hq]at c3
   obtain⟨rfl,d0,d1,d2,d3,d4,d5,d6,d7,d8,d9,d10,rfl,hb⟩:=c3
   simp only[go_sem,Zq,LZ,Abc hb]
   exact Bf (v:=.tup [.agg [d0,d1,d2,d3,d4,d5,d6,d7,d8,d9,d10],.bool false]) (Bh (n0 _ _ _) rfl rfl rfl) (Bu hb) c2 ⟨_,⟨_,_,_,_,_,_,_,_,_,_,_,rfl,hb⟩,rfl⟩
  | some xt=>
   obtain⟨x,ts⟩:=xt
   rw[hq]at c3
   obtain⟨rfl,rfl,c3⟩:=c3
   have hxs:=Jb x
   have hxr:=Fk x
   rw[hxr]at hxs ⊢
   simp only[go_sem,Zq,LZ]
   exact Bf (v:=.tup [.agg _,.bool true]) (Bh (n0 _ _ _) rfl rfl rfl) (Bu hxs) c2 ⟨by rw[hxr],c3⟩
 have b1:((Aa A p).kind==1)=false:=by simp[h1]
 by_cases h3:(Aa A p).kind=3
 case neg=>
  have b3:((Aa A p).kind==3)=false:=by simp[h3]
  have ho:D8 (n+1) (A.drop p)=none:=by
   rcases B3 p A.length with h | h
   ·rw[Ii h,D8,if_neg h1,if_neg h3]
   ·rw[(Hs h).1];simp[D8]
  rw[ho]
  have Zq:=Ck hS
  obtain⟨-,-,hlen,get,get0,set,set0,n0,n1,n2,u0,u1,u2⟩:=hS
  simp only[go_sem,Zq,LZ]
  refine Ac hnx ?_
  simp only[go_sem,Zq,LZ,b1,b3]
  exact Bf (v:=.tup [.agg _,.bool false]) (Bh (n0 _ _ _) rfl rfl rfl) (Bu rfl) hp ⟨_,⟨_,_,_,_,_,_,_,_,_,_,_,rfl,rfl⟩,rfl⟩
 have b3:((Aa A p).kind==3)=true:=by simp[h3]
 have hlt:=Xc (A:=A) (p:=p) (by omega)
 have hrt:=fun σ=>Auj (Aa A p).text σ
 have hrng:=Ahg (Aa A p).text
 have hinq:=Bq (show p<9223372036854775807 by omega)
 have hp1:p+1<=A.length:=hlt
 have hpst:D8 (n+1) (A.drop p)=D8 (n+1) (Aa A p::A.drop (p+1)):=by rw[<-Ii hlt]
 rw[D8,if_neg h1,if_pos h3]at hpst
 generalize hw:C2 (Aa A p).text=w at hrt hrng hpst
 by_cases hw0:w=0
 ·subst hw0
  rw[if_pos rfl]at hpst
  rw[hpst]
  have Zq:=Ck hS
  obtain⟨-,-,hlen,get,get0,set,set0,n0,n1,n2,u0,u1,u2⟩:=hS
  simp only[go_sem,Zq,LZ]
  refine Ac hnx ?_
  simp only[go_sem,Zq,LZ,b1,b3]
  refine Ac (hrt _) ?_
  simp only[go_sem,Zq,LZ]
  exact Bf (v:=.tup [.agg _,.bool false]) (Bh (n0 _ _ _) rfl rfl rfl) (Bu rfl) hp ⟨_,⟨_,_,_,_,_,_,_,_,_,_,_,rfl,rfl⟩,rfl⟩
 rw[if_neg hw0]at hpst
 have hq:∃ v q r,Bk TT PT (Nt w) [.ptr m 0 0,.ptr (s.length+2) 0 0] (S (p+1)++[.row [.int .i64 0,.int .i64 0,.str [],.str [],.nils,.int .i64 0,.int .i64 0,.str [],.nils,.nils,.nils] 105 0 0,.row [.int .i64 (Aa A p).kind,.str (Aa A p).text,.int .i64 (Aa A p).line] 137 0 0,.row [.int .i64 w,.int .i64 (Aa A p).line,.str [],.str [],.nils,.int .i64 0,.int .i64 0,.str [],.nils,.nils,.nils] 105 0 0]) v (S q++[.row [.int .i64 0,.int .i64 0,.str [],.str [],.nils,.int .i64 0,.int .i64 0,.str [],.nils,.nils,.nils] 105 0 0,.row [.int .i64 (Aa A p).kind,.str (Aa A p).text,.int .i64 (Aa A p).line] 137 0 0,.row r 105 0 0])/\q<=A.length/\N9 A (D8 (n+1) (A.drop p)) v q r:=by
  rw[hpst]
  have hwc:w=2\/w=3\/(w=7\/w=8)\/(w=4\/w=5\/w=6)\/w=14\/w=15\/(w=9\/w=10\/w=11\/w=12\/w=13):=by omega
  rcases hwc with rfl | rfl | hwc | hwc | rfl | rfl | hwc
  ·obtain⟨v,q,r,c1,c2,c3⟩:=Nb hS' (a:=.row [.int .i64 0,.int .i64 0,.str [],.str [],.nils,.int .i64 0,.int .i64 0,.str [],.nils,.nils,.nils] 105 0 0) (b:=.row [.int .i64 (Aa A p).kind,.str (Aa A p).text,.int .i64 (Aa A p).line] 137 0 0) (Amt (n:=n) (op:=2) (ln:=(Aa A p).line) hB hA hT (hS.get (p+1) _) (hS.n2 (p+1) _ _ _ _) (by omega) hp1 (by omega))
   refine⟨v,q,r,c1,c2,?_⟩
   rw[if_pos (.inl rfl)]
   have he:∀ o:Option (Sp × List Tk),o=(Uw n (A.drop (p+1))).map (fun y=>({ Ag 2 (Aa A p).line with ex:=y.1.1,body:=y.1.2.1,els:=y.1.2.2 },y.2))->N9 A o v q r:=fun o ho=>by
    subst ho
    cases hQ:Uw n (A.drop (p+1)) with
    | none=>rw[hQ]at c3;exact c3
    | some pr=>
     obtain⟨⟨x,b,e⟩,ts⟩:=pr
     rw[hQ]at c3
     exact⟨c3.1,by rw[c3.2.1,Fk];rfl,c3.2.2⟩
   refine he _ ?_
   unfold Uw I7
   cases pe n 1 (A.drop (p+1)) with
   | none=>rfl
   | some xr=>
    obtain⟨x,t1⟩:=xr
    simp only
    cases Dw n t1 with
    | none=>rfl
    | some bl=>
     obtain⟨b,t2⟩:=bl
     simp only
     by_cases hE:Ai [101,108,115,101] t2=true
     ·rw[if_pos ⟨trivial,hE⟩,if_pos hE]
      cases Dw n t2.tail with
      | none=>rfl
      | some el=>rfl
     ·rw[if_neg (fun h=>hE h.2),if_neg hE]
      rfl
  ·obtain⟨v,q,r,c1,c2,c3⟩:=Nb hS' (a:=.row [.int .i64 0,.int .i64 0,.str [],.str [],.nils,.int .i64 0,.int .i64 0,.str [],.nils,.nils,.nils] 105 0 0) (b:=.row [.int .i64 (Aa A p).kind,.str (Aa A p).text,.int .i64 (Aa A p).line] 137 0 0) (Aex (n:=n) (op:=3) (ln:=(Aa A p).line) hB hA hT (hS.get (p+1) _) (hS.n2 (p+1) _ _ _ _) (by omega) hp1 (by omega))
   refine⟨v,q,r,c1,c2,?_⟩
   rw[if_pos (.inr rfl)]
   have he:∀ o:Option (Sp × List Tk),o=(I7 n (A.drop (p+1))).map (fun y=>({ Ag 3 (Aa A p).line with ex:=y.1.1,body:=y.1.2 },y.2))->N9 A o v q r:=fun o ho=>by
    subst ho
    cases hQ:I7 n (A.drop (p+1)) with
    | none=>rw[hQ]at c3;exact c3
    | some pr=>
     obtain⟨⟨x,b⟩,ts⟩:=pr
     rw[hQ]at c3
     exact⟨c3.1,by rw[c3.2.1,Fk];rfl,c3.2.2⟩
   refine he _ ?_
   unfold I7
   cases pe n 1 (A.drop (p+1)) with
   | none=>rfl
   | some xr=>
    obtain⟨x,t1⟩:=xr
    simp only
    cases Dw n t1 with
    | none=>rfl
    | some bl=>
     obtain⟨b,t2⟩:=bl
     simp only
     rw[if_neg (fun h=>absurd h.1 (by decide))]
     rfl
  ·rw[if_neg (by omega),if_pos hwc]
   obtain⟨v,q,r,c1,c2,c3⟩:=Nb hS' (a:=.row [.int .i64 0,.int .i64 0,.str [],.str [],.nils,.int .i64 0,.int .i64 0,.str [],.nils,.nils,.nils] 105 0 0) (b:=.row [.int .i64 (Aa A p).kind,.str (Aa A p).text,.int .i64 (Aa A p).line] 137 0 0) (Z7 (n:=n) (c0:=.int .i64 w) (c1:=.int .i64 (Aa A p).line) (c2:=.str []) (c3:=.str []) (c4:=.nils) (c5:=.int .i64 0) (c6:=.int .i64 0) (c7:=.str []) (c8:=.nils) (c9:=.nils) (c10:=.nils) hB hA hT (hS.get (p+1) _) (hS.n2 (p+1) _ _ _ _) (by omega) hp1 rfl (by omega))
   have hF:Nt w=237:=by rcases hwc with rfl | rfl<;>rfl
   rw[hF]
   refine⟨v,q,r,c1,c2,?_⟩
   cases hQ:Dw n (A.drop (p+1)) with
   | none=>
    rw[hQ]at c3
    obtain⟨h9,h10⟩:=c3
    exact⟨h9,_,_,_,_,_,_,_,_,_,_,_,h10,by rw[h10];rfl⟩
   | some pr=>
    obtain⟨b,ts⟩:=pr
    rw[hQ]at c3
    exact⟨c3.1,by rw[c3.2.1,Fk];rfl,c3.2.2⟩
  ·rw[if_neg (by omega),if_neg (by omega)]
   obtain⟨v,q,r,c1,c2,c3⟩:=Nb hS' (a:=.row [.int .i64 0,.int .i64 0,.str [],.str [],.nils,.int .i64 0,.int .i64 0,.str [],.nils,.nils,.nils] 105 0 0) (b:=.row [.int .i64 (Aa A p).kind,.str (Aa A p).text,.int .i64 (Aa A p).line] 137 0 0) (Aqv (n:=n) (op:=w) (ln:=(Aa A p).line) hB hA hT (hS.get (p+1) _) (hS.n2 (p+1) _ _ _ _) (by omega) hp1 (by omega))
   have hF:Nt w=236:=by rcases hwc with rfl | rfl | rfl<;>rfl
   rw[hF]
   refine⟨v,q,r,c1,c2,?_⟩
   have he:∀ o:Option (Sp × List Tk),o=(Ve n (A.drop (p+1))).map (fun y=>({ Ag w (Aa A p).line with nm:=y.1.1,body:=y.1.2 },y.2))->N9 A o v q r:=fun o ho=>by
    subst ho
    cases hQ:Ve n (A.drop (p+1)) with
    | none=>rw[hQ]at c3;exact c3
    | some pr=>
     obtain⟨⟨nm,b⟩,ts⟩:=pr
     rw[hQ]at c3
     exact⟨c3.1,by rw[c3.2.1,Fk];rfl,c3.2.2⟩
   refine he _ ?_
   unfold Ve
   cases B4 (A.drop (p+1)) with
   | none=>rfl
   | some nt=>
    obtain⟨nm,t1⟩:=nt
    simp only
    rw[if_pos hwc]
    cases Dw n t1 with
    | none=>rfl
    | some bl=>rfl
  ·rw[if_neg (by decide),if_neg (by decide)]
   obtain⟨v,q,r,c1,c2,c3⟩:=Nb hS' (a:=.row [.int .i64 0,.int .i64 0,.str [],.str [],.nils,.int .i64 0,.int .i64 0,.str [],.nils,.nils,.nils] 105 0 0) (b:=.row [.int .i64 (Aa A p).kind,.str (Aa A p).text,.int .i64 (Aa A p).line] 137 0 0) (Aoe (n:=n) (op:=14) (ln:=(Aa A p).line) hA hT (hS.get (p+1) _) (hS.n2 (p+1) _ _ _ _) (by omega) hp1 (by omega))
   have hF:Nt 14=239:=by rfl
   rw[hF]
   refine⟨v,q,r,c1,c2,?_⟩
   have he:∀ o:Option (Sp × List Tk),o=(U5 n (A.drop (p+1))).map (fun y=>({ Ag 14 (Aa A p).line with nm:=y.1.1,ex:=y.1.2 },y.2))->N9 A o v q r:=fun o ho=>by
    subst ho
    cases hQ:U5 n (A.drop (p+1)) with
    | none=>rw[hQ]at c3;exact c3
    | some pr=>
     obtain⟨⟨nm,x⟩,ts⟩:=pr
     rw[hQ]at c3
     exact⟨c3.1,by rw[c3.2.1,Fk];rfl,c3.2.2⟩
   refine he _ ?_
   unfold U5
   cases B4 (A.drop (p+1)) with
   | none=>rfl
   | some nt=>
    obtain⟨nm,t1⟩:=nt
    simp only
    rw[if_neg (by decide),if_pos trivial]
    cases pe n 1 t1 with
    | none=>rfl
    | some xr=>
     obtain⟨x,t2⟩:=xr
     simp only
     cases Co [59] t2<;>rfl
  ·rw[if_neg (by decide),if_neg (by decide)]
   obtain⟨v,q,r,c1,c2,c3⟩:=Nb hS' (a:=.row [.int .i64 0,.int .i64 0,.str [],.str [],.nils,.int .i64 0,.int .i64 0,.str [],.nils,.nils,.nils] 105 0 0) (b:=.row [.int .i64 (Aa A p).kind,.str (Aa A p).text,.int .i64 (Aa A p).line] 137 0 0) (Aod (n:=n) (op:=15) (ln:=(Aa A p).line) hA hT (hS.get (p+1) _) (hS.n2 (p+1) _ _ _ _) (by omega) hp1 (by omega))
   have hF:Nt 15=240:=by rfl
   rw[hF]
   refine⟨v,q,r,c1,c2,?_⟩
   have he:∀ o:Option (Sp × List Tk),o=(U6 (A.drop (p+1))).map (fun y=>({ Ag 15 (Aa A p).line with nm:=y.1.1,arg:=y.1.2 },y.2))->N9 A o v q r:=fun o ho=>by
    subst ho
    cases hQ:U6 (A.drop (p+1)) with
    | none=>rw[hQ]at c3;exact c3
    | some pr=>
     obtain⟨⟨nm,ar⟩,ts⟩:=pr
     rw[hQ]at c3
     exact⟨c3.1,by rw[c3.2.1,Fk];rfl,c3.2.2⟩
   refine he _ ?_
   unfold U6
   cases B4 (A.drop (p+1)) with
   | none=>rfl
   | some nt=>
    obtain⟨nm,t1⟩:=nt
    simp only
    rw[if_neg (by decide),if_neg (by decide),if_pos trivial]
    cases B4 t1 with
    | none=>rfl
    | some nt2=>
     obtain⟨ar,t2⟩:=nt2
     simp only
     cases Co [59] t2<;>rfl
  ·rw[if_neg (by omega),if_neg (by omega)]
   obtain⟨v,q,r,c1,c2,c3⟩:=Nb hS' (a:=.row [.int .i64 0,.int .i64 0,.str [],.str [],.nils,.int .i64 0,.int .i64 0,.str [],.nils,.nils,.nils] 105 0 0) (b:=.row [.int .i64 (Aa A p).kind,.str (Aa A p).text,.int .i64 (Aa A p).line] 137 0 0) (Amb (n:=n) (op:=w) (ln:=(Aa A p).line) hA hT (hS.get (p+1) _) (hS.n2 (p+1) _ _ _ _) (by omega) hp1 (by omega))
   have hF:Nt w=238:=by rcases hwc with rfl | rfl | rfl | rfl | rfl<;>rfl
   rw[hF]
   refine⟨v,q,r,c1,c2,?_⟩
   have he:∀ o:Option (Sp × List Tk),o=(Vf (A.drop (p+1))).map (fun y=>({ Ag w (Aa A p).line with nm:=y.1 },y.2))->N9 A o v q r:=fun o ho=>by
    subst ho
    cases hQ:Vf (A.drop (p+1)) with
    | none=>rw[hQ]at c3;exact c3
    | some pr=>
     obtain⟨nm,ts⟩:=pr
     rw[hQ]at c3
     exact⟨c3.1,by rw[c3.2.1,Fk];rfl,c3.2.2⟩
   refine he _ ?_
   unfold Vf
   cases B4 (A.drop (p+1)) with
   | none=>rfl
   | some nt=>
    obtain⟨nm,t1⟩:=nt
    simp only
    rw[if_neg (by omega),if_neg (by omega),if_neg (by omega)]
    cases Co [59] t1<;>rfl
 obtain⟨v,q,r,c1,c2,c3⟩:=hq
 have Zq:=Ck hS
 obtain⟨-,-,hlen,get,get0,set,set0,n0,n1,n2,u0,u1,u2⟩:=hS
 have hrt:=fun σ=>hrt σ
 simp only[if_neg hw0]at hrt
 simp only[go_sem,Zq,LZ]
 refine Ac hnx ?_
 simp only[go_sem,Zq,LZ,b1,b3]
 refine Ac (hrt _) ?_
 simp only[go_sem,Zq,LZ,hinq]
 refine Ac c1 ?_
 unfold N9 at c3
 cases hq:D8 (n+1) (A.drop p) with
 | none=>
  rw[hq]at c3
  obtain⟨rfl,d0,d1,d2,d3,d4,d5,d6,d7,d8,d9,d10,rfl,hb⟩:=c3
  simp only[go_sem,Zq,LZ,Abc hb]
  exact Bf (v:=.tup [.agg [d0,d1,d2,d3,d4,d5,d6,d7,d8,d9,d10],.bool false]) (Bh (n0 _ _ _) rfl rfl rfl) (Bu hb) c2 ⟨_,⟨_,_,_,_,_,_,_,_,_,_,_,rfl,hb⟩,rfl⟩
 | some xt=>
  obtain⟨x,ts⟩:=xt
  rw[hq]at c3
  obtain⟨rfl,rfl,c3⟩:=c3
  have hxs:=Jb x
  have hxr:=Fk x
  rw[hxr]at hxs ⊢
  simp only[go_sem,Zq,LZ]
  exact Bf (v:=.tup [.agg _,.bool true]) (Bh (n0 _ _ _) rfl rfl rfl) (Bu hxs) c2 ⟨by rw[hxr],c3⟩
/-! blocks -/
def RW(s σ:St)(m:Nat)(z:Bool)(t:Nat)(A:List Tk)(q:Nat):Prop:=s.length<=σ.length/\(∀ i,i<s.length->i≠m->σ[i]?=s[i]?)/\σ[m]?=some (RO z t A q)/\m<s.length
theorem Abd{s:St}{m:Nat}{z:Bool}{t:Nat}{A:List Tk}{q:Nat}(h:s[m]?=some (RO z t A q)):RW s s m z t A q:=⟨Ah _,fun _ _ _=>rfl,h,(Au.1 h).1⟩
theorem L4{s σ:St}{m:Nat}{z:Bool}{t:Nat}{A:List Tk}{q:Nat}(h:RW s σ m z t A q)(q':Nat):RW s (σ.set m (RO z t A q')) m z t A q':=by
 obtain⟨h1,h2,h3,h4⟩:=h
 refine⟨by simpa using h1,fun i hi hm=>?_,Cw (by omega),h4⟩
 rw[B5 (Ne.symm hm)]
 exact h2 i hi hm
theorem Xd{s σ l:St}{m:Nat}{z:Bool}{t:Nat}{A:List Tk}{q:Nat}(h:RW s σ m z t A q):RW s (σ++l) m z t A q:=by
 obtain⟨h1,h2,h3,h4⟩:=h
 refine⟨by simp;omega,fun i hi hm=>?_,Dn h3,h4⟩
 rw[B8 (by omega)]
 exact h2 i hi hm
theorem M4{s σ τ:St}{m:Nat}{z:Bool}{t:Nat}{A:List Tk}{q:Nat}(h:RW s σ m z t A q)(hl:s.length<=τ.length)(hj:∀ j,j<s.length->τ[j]?=σ[j]?):RW s τ m z t A q:=by
 obtain⟨h1,h2,h3,h4⟩:=h
 exact⟨hl,fun i hi hm=>by rw[hj i hi];exact h2 i hi hm,by rw[hj m h4];exact h3,h4⟩
theorem Ai1{s σ:St}{m:Nat}{z:Bool}{t:Nat}{A:List Tk}{q:Nat}(h:RW s σ m z t A q):σ.take s.length=s.set m (RO z t A q):=by
 obtain⟨h1,h2,h3,h4⟩:=h
 refine Pz fun i=>?_
 by_cases hi:i<s.length
 ·rw[List.getElem?_take_of_lt hi]
  by_cases hm:i=m
  ·subst hm
   rw[h3,Cw h4]
  ·rw[h2 i hi hm,B5 (Ne.symm hm)]
 ·rw[Oh (by simp;omega),Oh (by simp;omega)]
theorem Ai2{s σ:St}{m:Nat}{z:Bool}{t:Nat}{A:List Tk}{q:Nat}(h:RW s σ m z t A q):∀ i ob,i<s.length->σ[i]?=some ob->s[i]?=some ob\/D1 s.length [] ob.refs=true:=by
 obtain⟨h1,h2,h3,h4⟩:=h
 intro i ob hi ho
 by_cases hm:i=m
 ·subst hm
  rw[ho]at h3
  cases h3
  exact .inr (by rw[Xb];rfl)
 ·rw[h2 i hi hm]at ho
  exact .inl ho
theorem Aye{z:Bool}{t:Nat}{A:List Tk}{f m q0 k ty:Nat}{res:List AR}{thr:Bool}{body:AC}{s:St}{R:V->Nat->Prop}(hT:TT f=some ⟨1,res,thr,body,none⟩)
  (h:W TT PT [.c body] (Df 0 [.ptr m 0 0]) s (Hd fun e' σ1=>∃ u b xs q,B2 e' σ1 res=some (.tup [u,.bool b])/\GW σ1 k ty s.length u xs/\(0<k/\(∀ r∈xs,r.length=k)/\∀ r∈xs,r.all V.rowB=true)/\RW s σ1 m z t A q/\q<=A.length/\R (.tup [SL true 0 xs,.bool b]) q)):RT f [] s m z t A R:=by
 obtain⟨e',σ1,hE,u,b,xs,q,hr,hg,⟨hk,hlen,hrow⟩,hw,hq,hR⟩:=h
 have hoc:=Rm hg hk hlen hrow
 have hcell:=Ep hg
 have hrefs:(SL true 0 xs).refs=[]:=by unfold SL;split<;>rfl
 have hfr:(∀ j,j<s.length->(σ1.freeze u.refs)[j]?=σ1[j]?):=by
  intro j hj
  rcases hg with⟨rfl,-⟩ | ⟨-,i,g,rfl,ho,hlo⟩
  ·rfl
  ·exact Amj _ _ _ (by omega)
 have hw2:RW s (σ1.freeze u.refs) m z t A q:=M4 hw (by rw[Qi];exact hw.1) hfr
 refine⟨_,q,?_,hq,hR⟩
 rw[<-Ai1 hw2]
 refine Afg hT rfl rfl ⟨e',σ1,hE,.tup [u,.bool b],u.refs,hr,?_,?_,?_,Ai2 hw2,rfl⟩
 ·rcases hg with⟨rfl,-⟩ | ⟨-,i,g,rfl,-⟩<;>rfl
 ·have hb:OV σ1 (.bool b) (.bool b):=K2 rfl
  exact congrArg (Option.map V.tup) (Tu (.cons (Aa0 hoc hcell) (.cons hb .nil)) fun j hj=>by
   simpa[Aq,V.refs] using hj)
 ·show D1 s.length [] (Aq [SL true 0 xs,.bool b])=true
  simp only[Aq,hrefs,V.refs,Cx]
  rfl
theorem Aqx{n:Nat}(hS:∀ k,k<n->PSt k):Pt n:=by
 intro s m z t A p hA hT hs hp hf
 have hl:A.length<=1000000:=by have:=hA.len;omega
 have hm:=(Au.1 hs).1
 obtain⟨n,rfl⟩:∃ k,n=k+1:=⟨n - 1,by omega⟩
 refine Aye (q0:=p) (k:=11) (ty:=105) T123 ?_
 by_cases h1:Ai [123] (A.drop p)=true
 case neg=>
  have h1:Ai [123] (A.drop p)=false:=by simpa using h1
  have ho:Dw (n+1) (A.drop p)=none:=by rw[Dw,if_neg (by rw[h1];decide)]
  have c1:=Nr hs hl hp h1
  rw[ho]
  simp only[go_sem]
  refine Ac c1 ?_
  simp only[go_sem]
  exact⟨.nils,false,[],p,rfl,Fy,⟨by omega,by simp,by simp⟩,Abd hs,hp,rfl⟩
 have ho:Dw (n+1) (A.drop p)=F7 n (A.drop (p+1)):=by rw[Dw,if_pos h1,Dd]
 have c1:=Nq hs hl h1
 have hlt:=C8 h1
 rw[ho]
 simp only[go_sem]
 refine Ac c1 ?_
 simp only[go_sem]
 refine Cr (α:=Nat × Nat × V × List Sp × St) (fun a=>a.1) (fun a=>[(0,.ptr m 0 0),(4,a.2.2.1)]) (fun a=>a.2.2.2.2) (fun a=>a.1<=n/\a.2.1<=A.length/\10*(A.length - a.2.1)+11<=a.1/\RW s a.2.2.2.2 m z t A a.2.1/\GW a.2.2.2.2 11 105 s.length a.2.2.1 (a.2.2.2.1.map Sp.row)/\F7 n (A.drop (p+1))=(F7 a.1 (A.drop a.2.1)).map (fun y=>(a.2.2.2.1++y.1,y.2))/\a.2.2.2.1.length<=a.2.1) ?_ (n,p+1,.nils,[],s.set m (RO z t A (p+1))) ⟨Ah _,hlt,by simp only;omega,L4 (Abd hs) _,Fy,by simp only[Bw];cases F7 n (A.drop (p+1))<;>rfl,by simp⟩
 rintro⟨k,q,u,L,σ⟩ ⟨hkn,hq,hbk,hw,hg,hinv,hLq⟩ ih
 simp only at hkn hq hbk hw hg hinv hLq ih
 obtain⟨k,rfl⟩:∃ j,k=j+1:=⟨k - 1,by omega⟩
 have hrl:∀ r∈L.map Sp.row,r.length=11:=by
  intro r hr
  obtain⟨x,-,rfl⟩:=Dc.1 hr
  exact Wv x
 have hrr:∀ r∈L.map Sp.row,r.all V.rowB=true:=by
  intro r hr
  obtain⟨x,-,rfl⟩:=Dc.1 hr
  exact Jb x
 refine Ct (by delta lp123_0;exact rfl) ?_
 by_cases h2:Ai [125] (A.drop q)=true
 ·have c2:=Nq hw.2.2.1 hl h2
  have hlt2:=C8 h2
  have ho2:F7 (k+1) (A.drop q)=some ([],A.drop (q+1)):=by rw[F7,if_pos h2,Dd]
  rw[ho2]at hinv
  simp only[go_sem]
  refine Ac c2 ?_
  simp only[go_sem]
  refine⟨u,true,_,q+1,rfl,Ex hg hm,⟨by omega,hrl,hrr⟩,L4 hw _,hlt2,?_⟩
  rw[hinv]
  simp only[Et,Cx]
  exact⟨rfl,rfl⟩
 ·have h2:Ai [125] (A.drop q)=false:=by simpa using h2
  have c2:=Nr hw.2.2.1 hl hq h2
  obtain⟨v,q2,c3,hq2,h3⟩:=hS k (by omega) σ m z t A q hA hT hw.2.2.1 hq (by omega)
  have hw2:=L4 hw q2
  have hg2:GW (σ.set m (RO z t A q2)) 11 105 s.length u (L.map Sp.row):=Ex hg hm
  have ho2:F7 (k+1) (A.drop q)=match D8 k (A.drop q) with
    | none=>none
    | some (x,r)=>match F7 k r with
     | none=>none
     | some (l,r)=>some (x::l,r):=by
   rw[F7,if_neg (by rw[h2];decide)]
   rfl
  rw[ho2]at hinv
  generalize σ.set m (RO z t A q2)=τ at c3 hw2 hg2
  have ln0:∀ a:Ob,(τ++[a])[τ.length]?=some a:=fun a=>by simp
  have lu0:∀ a b:Ob,(τ++[a]).set τ.length b=τ++[b]:=fun a b=>by simp[Hh]
  unfold PRs at h3
  cases hps:D8 k (A.drop q) with
  | none=>
   rw[hps]at h3 hinv
   obtain⟨_,⟨d0,d1,d2,d3,d4,d5,d6,d7,d8,d9,d10,rfl,hb⟩,rfl⟩:=h3
   simp only[go_sem]
   refine Ac c2 ?_
   simp only[go_sem]
   refine Ac c3 ?_
   simp only[go_sem,ln0,lu0,Abc hb]
   refine⟨.nils,false,[],q2,rfl,Fy,⟨by omega,by simp,by simp⟩,Xd hw2,hq2,?_⟩
   rw[hinv]
   rfl
  | some xr=>
   obtain⟨x,r⟩:=xr
   rw[hps]at h3 hinv
   obtain⟨rfl,h3⟩:=h3
   have hxs:=Jb x
   have hxr:=Fk x
   have hlt2:r.length<A.length - q:=by
    have:=((Wy (M:=0) (C:=100) (by omega) k).1 _ _ _ (B9 hT (Sj q A)) hps).2.2.1
    rw[C5]at this
    exact this
   have hrq:r.length=A.length - q2:=by rw[<-h3,C5]
   have hw3:RW s (τ++[.row x.row 105 0 0]) m z t A q2:=Xd hw2
   have hg3:GW (τ++[.row x.row 105 0 0]) 11 105 s.length u (L.map Sp.row):=O2 hg2
   have hLl:L.length<=1000000:=by omega
   obtain⟨u',s3,ha,hg4,l3,-,f3⟩:=O7 (bytes:=176) (y:=.lst 1 [x.row]) (ys:=[x.row]) hg3 (by have:=hw3.1;omega) rfl (by omega) hrl (by simp[Wv]) (by simp;omega)
   have hw4:RW s s3 m z t A q2:=M4 hw3 (by have:=hw3.1;omega) f3
   have hcell:=Ep hg
   rw[hxr]at c3 hxs ha
   simp only[go_sem]
   refine Ac c2 ?_
   simp only[go_sem]
   refine Ac c3 ?_
   simp only[go_sem,ln0,lu0,ha]
   refine Bd (ih (k,q2,u',L++[x],s3) (by simp) ⟨by simp only;omega,hq2,by simp only;omega,hw4,by simpa using hg4,?_,by simp;omega⟩) rfl
   simp only
   rw[hinv,h3]
   simp only
   cases F7 k r with
   | none=>rfl
   | some y=>simp
theorem Ahl:∀ n,PSt n/\Pt n:=by
 intro n
 induction n using Nat.strongRecOn with
 | ind n ih=>exact⟨Aqw fun k hk=>(ih k hk).2,Aqx fun k hk=>(ih k hk).1⟩
end Go.Proofs.YtcoeikinocflnaaGreatDoor.KM
