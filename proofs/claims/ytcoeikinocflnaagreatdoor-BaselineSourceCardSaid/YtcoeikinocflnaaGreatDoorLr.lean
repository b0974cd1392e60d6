/- Walks: the parser's statements and blocks. -/
import Derived.Test.YtcoeikinocflnaaGreatDoorLq
set_option linter.all false
namespace Go.Proofs.YtcoeikinocflnaaGreatDoor.KM
open Go
def Oi(w:Int):Nat:=if w=2 then 234 else if w=3 then 235 else if w<=6 then 236 else if w<=8 then 237 else if w<=13 then 238 else if w=14 then 239 else 240
theorem Au8(w:List UInt8)(s:St):Bp TT PT 204 [.str w] s (.tup [.int .i64 (Dq w),if Dq w=0 then .nilf else .fn (Oi (Dq w)) [] []]) s:=by
 suffices h:∃ v s',Bp TT PT 204 [.str w] s v s'/\(v=.tup [.int .i64 (Dq w),if Dq w=0 then .nilf else .fn (Oi (Dq w)) [] []]/\s'=s) by
  obtain⟨v,s',h1,rfl,rfl⟩:=h;exact h1
 refine Akm T204 rfl ?_;by_cases a1:w=[105,102]
 ·subst a1;have e1:(([105,102]:List UInt8)==[105,102])=true:=by decide
  simp only[go_sem,e1];exact⟨_,rfl,⟨rfl,rfl⟩,fun i ob _ h=>.inl h,rfl,Dc⟩
 have e1:(w==[105,102])=false:=by simp[a1]
 by_cases a2:w=[119,104,105,108,101]
 ·subst a2;have e2:(([119,104,105,108,101]:List UInt8)==[119,104,105,108,101])=true:=by decide
  simp only[go_sem,e1,e2];exact⟨_,rfl,⟨rfl,rfl⟩,fun i ob _ h=>.inl h,rfl,Dc⟩
 have e2:(w==[119,104,105,108,101])=false:=by simp[a2]
 by_cases a3:w=[108,111,99,107]
 ·subst a3;have e3:(([108,111,99,107]:List UInt8)==[108,111,99,107])=true:=by decide
  simp only[go_sem,e1,e2,e3];exact⟨_,rfl,⟨rfl,rfl⟩,fun i ob _ h=>.inl h,rfl,Dc⟩
 have e3:(w==[108,111,99,107])=false:=by simp[a3]
 by_cases a4:w=[114,101,97,100]
 ·subst a4;have e4:(([114,101,97,100]:List UInt8)==[114,101,97,100])=true:=by decide
  simp only[go_sem,e1,e2,e3,e4];exact⟨_,rfl,⟨rfl,rfl⟩,fun i ob _ h=>.inl h,rfl,Dc⟩
 have e4:(w==[114,101,97,100])=false:=by simp[a4]
 by_cases a5:w=[119,114,105,116,101]
 ·subst a5;have e5:(([119,114,105,116,101]:List UInt8)==[119,114,105,116,101])=true:=by decide
  simp only[go_sem,e1,e2,e3,e4,e5];exact⟨_,rfl,⟨rfl,rfl⟩,fun i ob _ h=>.inl h,rfl,Dc⟩
 have e5:(w==[119,114,105,116,101])=false:=by simp[a5]
 by_cases a6:w=[116,114,97,110,115,97,99,116,105,111,110]
 ·subst a6;have e6:(([116,114,97,110,115,97,99,116,105,111,110]:List UInt8)==[116,114,97,110,115,97,99,116,105,111,110])=true:=by decide
  simp only[go_sem,e1,e2,e3,e4,e5,e6];exact⟨_,rfl,⟨rfl,rfl⟩,fun i ob _ h=>.inl h,rfl,Dc⟩
 have e6:(w==[116,114,97,110,115,97,99,116,105,111,110])=false:=by simp[a6]
 by_cases a7:w=[97,116,111,109,105,99]
 ·subst a7;have e7:(([97,116,111,109,105,99]:List UInt8)==[97,116,111,109,105,99])=true:=by decide
  simp only[go_sem,e1,e2,e3,e4,e5,e6,e7];exact⟨_,rfl,⟨rfl,rfl⟩,fun i ob _ h=>.inl h,rfl,Dc⟩
 have e7:(w==[97,116,111,109,105,99])=false:=by simp[a7]
 by_cases a8:w=[119,97,105,116]
 ·subst a8;have e8:(([119,97,105,116]:List UInt8)==[119,97,105,116])=true:=by decide
  simp only[go_sem,e1,e2,e3,e4,e5,e6,e7,e8];exact⟨_,rfl,⟨rfl,rfl⟩,fun i ob _ h=>.inl h,rfl,Dc⟩
 have e8:(w==[119,97,105,116])=false:=by simp[a8]
 by_cases a9:w=[110,111,116,105,102,121]
 ·subst a9;have e9:(([110,111,116,105,102,121]:List UInt8)==[110,111,116,105,102,121])=true:=by decide
  simp only[go_sem,e1,e2,e3,e4,e5,e6,e7,e8,e9];exact⟨_,rfl,⟨rfl,rfl⟩,fun i ob _ h=>.inl h,rfl,Dc⟩
 have e9:(w==[110,111,116,105,102,121])=false:=by simp[a9]
 by_cases a10:w=[110,111,116,105,102,121,97,108,108]
 ·subst a10;have e10:(([110,111,116,105,102,121,97,108,108]:List UInt8)==[110,111,116,105,102,121,97,108,108])=true:=by decide
  simp only[go_sem,e1,e2,e3,e4,e5,e6,e7,e8,e9,e10];exact⟨_,rfl,⟨rfl,rfl⟩,fun i ob _ h=>.inl h,rfl,Dc⟩
 have e10:(w==[110,111,116,105,102,121,97,108,108])=false:=by simp[a10]
 by_cases a11:w=[115,112,97,119,110]
 ·subst a11;have e11:(([115,112,97,119,110]:List UInt8)==[115,112,97,119,110])=true:=by decide
  simp only[go_sem,e1,e2,e3,e4,e5,e6,e7,e8,e9,e10,e11];exact⟨_,rfl,⟨rfl,rfl⟩,fun i ob _ h=>.inl h,rfl,Dc⟩
 have e11:(w==[115,112,97,119,110])=false:=by simp[a11]
 by_cases a12:w=[106,111,105,110]
 ·subst a12;have e12:(([106,111,105,110]:List UInt8)==[106,111,105,110])=true:=by decide
  simp only[go_sem,e1,e2,e3,e4,e5,e6,e7,e8,e9,e10,e11,e12];exact⟨_,rfl,⟨rfl,rfl⟩,fun i ob _ h=>.inl h,rfl,Dc⟩
 have e12:(w==[106,111,105,110])=false:=by simp[a12]
 by_cases a13:w=[115,101,116]
 ·subst a13;have e13:(([115,101,116]:List UInt8)==[115,101,116])=true:=by decide
  simp only[go_sem,e1,e2,e3,e4,e5,e6,e7,e8,e9,e10,e11,e12,e13];exact⟨_,rfl,⟨rfl,rfl⟩,fun i ob _ h=>.inl h,rfl,Dc⟩
 have e13:(w==[115,101,116])=false:=by simp[a13]
 by_cases a14:w=[103,101,116]
 ·subst a14;have e14:(([103,101,116]:List UInt8)==[103,101,116])=true:=by decide
  simp only[go_sem,e1,e2,e3,e4,e5,e6,e7,e8,e9,e10,e11,e12,e13,e14];exact⟨_,rfl,⟨rfl,rfl⟩,fun i ob _ h=>.inl h,rfl,Dc⟩
 have e14:(w==[103,101,116])=false:=by simp[a14]
 have hz:Dq w=0:=by
  unfold Dq wordTab;simp only[We,e1,e2,e3,e4,e5,e6,e7,e8,e9,e10,e11,e12,e13,e14];rfl
 rw[hz];simp only[go_sem,e1,e2,e3,e4,e5,e6,e7,e8,e9,e10,e11,e12,e13,e14];exact⟨_,rfl,⟨rfl,rfl⟩,fun i ob _ h=>.inl h,rfl,Dc⟩
theorem Ab3{d0 d1 d2 d3 d4 d5 d6 d7 d8 d9 d10:V}(h:[d0,d1,d2,d3,d4,d5,d6,d7,d8,d9,d10].all V.rowB=true):(d0.cellB&&(d1.cellB&&(d2.cellB&&(d3.cellB&&(d4.cellB&&(d5.cellB&&(d6.cellB&&(d7.cellB&&(d8.cellB&&(d9.cellB&&d10.cellB))))))))))=true:=by
 simp only[Au,A1,Af]at h;obtain⟨h0,h1,h2,h3,h4,h5,h6,h7,h8,h9,h10,-⟩:=h;simp only[Ej h0,Ej h1,Ej h2,Ej h3,Ej h4,Ej h5,Ej h6,Ej h7,Ej h8,Ej h9,Ej h10,Z6]
def PRs(A:List Tk)(o:Option (Sp × List Tk))(v:V)(p':Nat):Prop:=match o with
 | some (x,r)=>v=.tup [.agg x.row,.bool true]/\A.drop p'=r
 | none=>∃ r:List V,M4 r/\v=.tup [.agg r,.bool false]
def PSt(n:Nat):Prop:=∀ (s:St) (m:Nat) (z:Bool) (t:Nat) (A:List Tk) (p:Nat),OkA A->De A->s[m]?=some (RO z t A p)->p<=A.length->10*(A.length - p)+10<=n->RT 169 [] s m z t A (PRs A (Gn n (A.drop p)))
theorem Ny{s:St}{m:Nat}{z:Bool}{t:Nat}{A:List Tk}{S:Nat->St}(hS:RdS s m z t A S){f p:Nat}{a b:Ob}{r0:List V}{R:V->Nat->List V->Prop}(h:Md f (S p++[a,b,.row r0 105 0 0]) m (s.length+2) z t A R):
  ∃ v q r',Bp TT PT f [.ptr m 0 0,.ptr (s.length+2) 0 0] (S p++[a,b,.row r0 105 0 0]) v (S q++[a,b,.row r' 105 0 0])/\q<=A.length/\R v q r':=by
 obtain⟨v,q,r',h1,h2,h3⟩:=h;rw[show(S p++[a,b,.row r0 105 0 0]).set m (RO z t A q)=S q++[a,b,.row r0 105 0 0] from hS.set p q _,hS.u2]at h1;exact⟨v,q,r',h1,h2,h3⟩
def Oq(A:List Tk)(o:Option (Sp × List Tk))(v:V)(q:Nat)(r:List V):Prop:=match o with
 | some (x,ts)=>v=.bool true/\r=x.row/\A.drop q=ts
 | none=>v=.bool false/\M4 r
theorem Aro{n:Nat}(hB:∀ k,k<n->Qh k):PSt n:=by
 intro s m z t A p hA hT hs hp hf;obtain⟨n,rfl⟩:∃ k,n=k+1:=⟨n - 1,by omega⟩;have hB:=hB n (Nat.lt_succ_self n);refine Io T169 rfl hs fun S hS=>?_
 have hl:A.length<=1000000:=by have:=hA.len;omega
 have hS':=hS;have hm:=hS.low;have hnx:=Nx (hS.get p [.row [.int .i64 0,.int .i64 0,.str [],.str [],.nils,.int .i64 0,.int .i64 0,.str [],.nils,.nils,.nils] 105 0 0]) hl hp;by_cases h1:(Aa A p).kind=1
 ·have b1:((Aa A p).kind==1)=true:=by simp[h1]
  have hlt:=Xz (A:=A) (p:=p) (by omega);have ho:Gn (n+1) (A.drop p)=P4 n (Aa A p).line (A.drop p):=by rw[I3 hlt,Gn,if_pos h1]
  obtain⟨v,q,r,c1,c2,c3⟩:=Ny hS' (a:=.row [.int .i64 0,.int .i64 0,.str [],.str [],.nils,.int .i64 0,.int .i64 0,.str [],.nils,.nils,.nils] 105 0 0) (b:=.row [.int .i64 (Aa A p).kind,.str (Aa A p).text,.int .i64 (Aa A p).line] 137 0 0)
   (Amz (n:=n) (ln:=(Aa A p).line) hA hT (hS.get p _) (hS.n2 p _ _ _ _) (by omega) hp (by omega))
  rw[ho];have Zq:=C4 hS;obtain⟨-,-,hlen,get,get0,set,set0,n0,n1,n2,u0,u1,u2⟩:=hS;simp only[go_sem,Zq,LZ];refine Ac hnx ?_;simp only[go_sem,Zq,LZ,b1];refine Ac c1 ?_
  cases hq:P4 n (Aa A p).line (A.drop p) with
  | none=>
   rw[hq]at c3;obtain⟨rfl,d0,d1,d2,d3,d4,d5,d6,d7,d8,d9,d10,rfl,hb⟩:=c3;simp only[go_sem,Zq,LZ,Ab3 hb];exact By (v:=.tup [.agg [d0,d1,d2,d3,d4,d5,d6,d7,d8,d9,d10],.bool false]) (B0 (n0 _ _ _) rfl rfl rfl) (Ci hb) c2 ⟨_,⟨_,_,_,_,_,_,_,_,_,_,_,rfl,hb⟩,rfl⟩
  | some xt=>
   obtain⟨x,ts⟩:=xt;rw[hq]at c3;obtain⟨rfl,rfl,c3⟩:=c3;have hxs:=Fi x;have hxr:=Eg x;rw[hxr]at hxs ⊢;simp only[go_sem,Zq,LZ];exact By (v:=.tup [.agg _,.bool true]) (B0 (n0 _ _ _) rfl rfl rfl) (Ci hxs) c2 ⟨by rw[hxr],c3⟩
 have b1:((Aa A p).kind==1)=false:=by simp[h1]
 by_cases h3:(Aa A p).kind=3
 case neg=>
  have b3:((Aa A p).kind==3)=false:=by simp[h3]
  have ho:Gn (n+1) (A.drop p)=none:=by
   rcases Bx p A.length with h | h
   ·rw[I3 h,Gn,if_neg h1,if_neg h3]
   ·rw[(H2 h).1];simp[Gn]
  rw[ho];have Zq:=C4 hS;obtain⟨-,-,hlen,get,get0,set,set0,n0,n1,n2,u0,u1,u2⟩:=hS;simp only[go_sem,Zq,LZ];refine Ac hnx ?_;simp only[go_sem,Zq,LZ,b1,b3];exact By (v:=.tup [.agg _,.bool false]) (B0 (n0 _ _ _) rfl rfl rfl) (Ci rfl) hp ⟨_,⟨_,_,_,_,_,_,_,_,_,_,_,rfl,rfl⟩,rfl⟩
 have b3:((Aa A p).kind==3)=true:=by simp[h3]
 have hlt:=Xz (A:=A) (p:=p) (by omega);have hrt:=fun σ=>Au8 (Aa A p).text σ
 have hrng:=Ah0 (Aa A p).text;have hinq:=Bg (show p<9223372036854775807 by omega);have hp1:p+1<=A.length:=hlt;have hpst:Gn (n+1) (A.drop p)=Gn (n+1) (Aa A p::A.drop (p+1)):=by rw[<-I3 hlt]
 rw[Gn,if_neg h1,if_pos h3]at hpst;generalize hw:Dq (Aa A p).text=w at hrt hrng hpst;by_cases hw0:w=0
 ·subst hw0;rw[if_pos rfl]at hpst;rw[hpst];have Zq:=C4 hS;obtain⟨-,-,hlen,get,get0,set,set0,n0,n1,n2,u0,u1,u2⟩:=hS;simp only[go_sem,Zq,LZ];refine Ac hnx ?_;simp only[go_sem,Zq,LZ,b1,b3];refine Ac (hrt _) ?_;simp only[go_sem,Zq,LZ];exact By (v:=.tup [.agg _,.bool false]) (B0 (n0 _ _ _) rfl rfl rfl) (Ci rfl) hp ⟨_,⟨_,_,_,_,_,_,_,_,_,_,_,rfl,rfl⟩,rfl⟩
 rw[if_neg hw0]at hpst
 have hq:∃ v q r,Bp TT PT (Oi w) [.ptr m 0 0,.ptr (s.length+2) 0 0] (S (p+1)++[.row [.int .i64 0,.int .i64 0,.str [],.str [],.nils,.int .i64 0,.int .i64 0,.str [],.nils,.nils,.nils] 105 0 0,.row [.int .i64 (Aa A p).kind,.str (Aa A p).text,.int .i64 (Aa A p).line] 137 0 0,.row [.int .i64 w,.int .i64 (Aa A p).line,.str [],.str [],.nils,.int .i64 0,.int .i64 0,.str [],.nils,.nils,.nils] 105 0 0]) v (S q++[.row [.int .i64 0,.int .i64 0,.str [],.str [],.nils,.int .i64 0,.int .i64 0,.str [],.nils,.nils,.nils] 105 0 0,.row [.int .i64 (Aa A p).kind,.str (Aa A p).text,.int .i64 (Aa A p).line] 137 0 0,.row r 105 0 0])/\q<=A.length/\Oq A (Gn (n+1) (A.drop p)) v q r:=by
  rw[hpst];have hwc:w=2\/w=3\/(w=7\/w=8)\/(w=4\/w=5\/w=6)\/w=14\/w=15\/(w=9\/w=10\/w=11\/w=12\/w=13):=by omega
  rcases hwc with rfl | rfl | hwc | hwc | rfl | rfl | hwc
  ·obtain⟨v,q,r,c1,c2,c3⟩:=Ny hS' (a:=.row [.int .i64 0,.int .i64 0,.str [],.str [],.nils,.int .i64 0,.int .i64 0,.str [],.nils,.nils,.nils] 105 0 0) (b:=.row [.int .i64 (Aa A p).kind,.str (Aa A p).text,.int .i64 (Aa A p).line] 137 0 0) (Anx (n:=n) (op:=2) (ln:=(Aa A p).line) hB hA hT (hS.get (p+1) _) (hS.n2 (p+1) _ _ _ _) (by omega) hp1 (by omega));refine⟨v,q,r,c1,c2,?_⟩;rw[if_pos (.inl rfl)]
   have he:∀ o:Option (Sp × List Tk),o=(Vf n (A.drop (p+1))).map (fun y=>({ Al 2 (Aa A p).line with ex:=y.1.1,body:=y.1.2.1,els:=y.1.2.2 },y.2))->Oq A o v q r:=fun o ho=>by
    subst ho
    cases hQ:Vf n (A.drop (p+1)) with
    | none=>rw[hQ]at c3;exact c3
    | some pr=>
     obtain⟨⟨x,b,e⟩,ts⟩:=pr;rw[hQ]at c3;exact⟨c3.1,by rw[c3.2.1,Eg];rfl,c3.2.2⟩
   refine he _ ?_;unfold Vf Jw
   cases pe n 1 (A.drop (p+1)) with
   | none=>rfl
   | some xr=>
    obtain⟨x,t1⟩:=xr;simp only
    cases Eb n t1 with
    | none=>rfl
    | some bl=>
     obtain⟨b,t2⟩:=bl;simp only;by_cases hE:As [101,108,115,101] t2=true
     ·rw[if_pos ⟨trivial,hE⟩,if_pos hE]
      cases Eb n t2.tail with
      | none=>rfl
      | some el=>rfl
     ·rw[if_neg (fun h=>hE h.2),if_neg hE];rfl
  ·obtain⟨v,q,r,c1,c2,c3⟩:=Ny hS' (a:=.row [.int .i64 0,.int .i64 0,.str [],.str [],.nils,.int .i64 0,.int .i64 0,.str [],.nils,.nils,.nils] 105 0 0) (b:=.row [.int .i64 (Aa A p).kind,.str (Aa A p).text,.int .i64 (Aa A p).line] 137 0 0) (Afq (n:=n) (op:=3) (ln:=(Aa A p).line) hB hA hT (hS.get (p+1) _) (hS.n2 (p+1) _ _ _ _) (by omega) hp1 (by omega));refine⟨v,q,r,c1,c2,?_⟩;rw[if_pos (.inr rfl)]
   have he:∀ o:Option (Sp × List Tk),o=(Jw n (A.drop (p+1))).map (fun y=>({ Al 3 (Aa A p).line with ex:=y.1.1,body:=y.1.2 },y.2))->Oq A o v q r:=fun o ho=>by
    subst ho
    cases hQ:Jw n (A.drop (p+1)) with
    | none=>rw[hQ]at c3;exact c3
    | some pr=>
     obtain⟨⟨x,b⟩,ts⟩:=pr;rw[hQ]at c3;exact⟨c3.1,by rw[c3.2.1,Eg];rfl,c3.2.2⟩
   refine he _ ?_;unfold Jw
   cases pe n 1 (A.drop (p+1)) with
   | none=>rfl
   | some xr=>
    obtain⟨x,t1⟩:=xr;simp only
    cases Eb n t1 with
    | none=>rfl
    | some bl=>
     obtain⟨b,t2⟩:=bl;simp only;rw[if_neg (fun h=>absurd h.1 (by decide))];rfl
  ·rw[if_neg (by omega),if_pos hwc];obtain⟨v,q,r,c1,c2,c3⟩:=Ny hS' (a:=.row [.int .i64 0,.int .i64 0,.str [],.str [],.nils,.int .i64 0,.int .i64 0,.str [],.nils,.nils,.nils] 105 0 0) (b:=.row [.int .i64 (Aa A p).kind,.str (Aa A p).text,.int .i64 (Aa A p).line] 137 0 0) (Aa3 (n:=n) (c0:=.int .i64 w) (c1:=.int .i64 (Aa A p).line) (c2:=.str []) (c3:=.str []) (c4:=.nils) (c5:=.int .i64 0) (c6:=.int .i64 0) (c7:=.str []) (c8:=.nils) (c9:=.nils) (c10:=.nils) hB hA hT (hS.get (p+1) _) (hS.n2 (p+1) _ _ _ _) (by omega) hp1 rfl (by omega))
   have hF:Oi w=237:=by rcases hwc with rfl | rfl<;>rfl
   rw[hF];refine⟨v,q,r,c1,c2,?_⟩
   cases hQ:Eb n (A.drop (p+1)) with
   | none=>
    rw[hQ]at c3;obtain⟨h9,h10⟩:=c3;exact⟨h9,_,_,_,_,_,_,_,_,_,_,_,h10,by rw[h10];rfl⟩
   | some pr=>
    obtain⟨b,ts⟩:=pr;rw[hQ]at c3;exact⟨c3.1,by rw[c3.2.1,Eg];rfl,c3.2.2⟩
  ·rw[if_neg (by omega),if_neg (by omega)];obtain⟨v,q,r,c1,c2,c3⟩:=Ny hS' (a:=.row [.int .i64 0,.int .i64 0,.str [],.str [],.nils,.int .i64 0,.int .i64 0,.str [],.nils,.nils,.nils] 105 0 0) (b:=.row [.int .i64 (Aa A p).kind,.str (Aa A p).text,.int .i64 (Aa A p).line] 137 0 0) (Arn (n:=n) (op:=w) (ln:=(Aa A p).line) hB hA hT (hS.get (p+1) _) (hS.n2 (p+1) _ _ _ _) (by omega) hp1 (by omega))
   have hF:Oi w=236:=by rcases hwc with rfl | rfl | rfl<;>rfl
   rw[hF];refine⟨v,q,r,c1,c2,?_⟩
   have he:∀ o:Option (Sp × List Tk),o=(Vv n (A.drop (p+1))).map (fun y=>({ Al w (Aa A p).line with nm:=y.1.1,body:=y.1.2 },y.2))->Oq A o v q r:=fun o ho=>by
    subst ho
    cases hQ:Vv n (A.drop (p+1)) with
    | none=>rw[hQ]at c3;exact c3
    | some pr=>
     obtain⟨⟨nm,b⟩,ts⟩:=pr;rw[hQ]at c3;exact⟨c3.1,by rw[c3.2.1,Eg];rfl,c3.2.2⟩
   refine he _ ?_;unfold Vv
   cases Cy (A.drop (p+1)) with
   | none=>rfl
   | some nt=>
    obtain⟨nm,t1⟩:=nt;simp only;rw[if_pos hwc]
    cases Eb n t1 with
    | none=>rfl
    | some bl=>rfl
  ·rw[if_neg (by decide),if_neg (by decide)];obtain⟨v,q,r,c1,c2,c3⟩:=Ny hS' (a:=.row [.int .i64 0,.int .i64 0,.str [],.str [],.nils,.int .i64 0,.int .i64 0,.str [],.nils,.nils,.nils] 105 0 0) (b:=.row [.int .i64 (Aa A p).kind,.str (Aa A p).text,.int .i64 (Aa A p).line] 137 0 0) (Ao8 (n:=n) (op:=14) (ln:=(Aa A p).line) hA hT (hS.get (p+1) _) (hS.n2 (p+1) _ _ _ _) (by omega) hp1 (by omega));have hF:Oi 14=239:=by rfl
   rw[hF];refine⟨v,q,r,c1,c2,?_⟩
   have he:∀ o:Option (Sp × List Tk),o=(Vm n (A.drop (p+1))).map (fun y=>({ Al 14 (Aa A p).line with nm:=y.1.1,ex:=y.1.2 },y.2))->Oq A o v q r:=fun o ho=>by
    subst ho
    cases hQ:Vm n (A.drop (p+1)) with
    | none=>rw[hQ]at c3;exact c3
    | some pr=>
     obtain⟨⟨nm,x⟩,ts⟩:=pr;rw[hQ]at c3;exact⟨c3.1,by rw[c3.2.1,Eg];rfl,c3.2.2⟩
   refine he _ ?_;unfold Vm
   cases Cy (A.drop (p+1)) with
   | none=>rfl
   | some nt=>
    obtain⟨nm,t1⟩:=nt;simp only;rw[if_neg (by decide),if_pos trivial]
    cases pe n 1 t1 with
    | none=>rfl
    | some xr=>
     obtain⟨x,t2⟩:=xr;simp only
     cases Df [59] t2<;>rfl
  ·rw[if_neg (by decide),if_neg (by decide)];obtain⟨v,q,r,c1,c2,c3⟩:=Ny hS' (a:=.row [.int .i64 0,.int .i64 0,.str [],.str [],.nils,.int .i64 0,.int .i64 0,.str [],.nils,.nils,.nils] 105 0 0) (b:=.row [.int .i64 (Aa A p).kind,.str (Aa A p).text,.int .i64 (Aa A p).line] 137 0 0) (Ao7 (n:=n) (op:=15) (ln:=(Aa A p).line) hA hT (hS.get (p+1) _) (hS.n2 (p+1) _ _ _ _) (by omega) hp1 (by omega));have hF:Oi 15=240:=by rfl
   rw[hF];refine⟨v,q,r,c1,c2,?_⟩
   have he:∀ o:Option (Sp × List Tk),o=(Vn (A.drop (p+1))).map (fun y=>({ Al 15 (Aa A p).line with nm:=y.1.1,arg:=y.1.2 },y.2))->Oq A o v q r:=fun o ho=>by
    subst ho
    cases hQ:Vn (A.drop (p+1)) with
    | none=>rw[hQ]at c3;exact c3
    | some pr=>
     obtain⟨⟨nm,ar⟩,ts⟩:=pr;rw[hQ]at c3;exact⟨c3.1,by rw[c3.2.1,Eg];rfl,c3.2.2⟩
   refine he _ ?_;unfold Vn
   cases Cy (A.drop (p+1)) with
   | none=>rfl
   | some nt=>
    obtain⟨nm,t1⟩:=nt;simp only;rw[if_neg (by decide),if_neg (by decide),if_pos trivial]
    cases Cy t1 with
    | none=>rfl
    | some nt2=>
     obtain⟨ar,t2⟩:=nt2;simp only
     cases Df [59] t2<;>rfl
  ·rw[if_neg (by omega),if_neg (by omega)];obtain⟨v,q,r,c1,c2,c3⟩:=Ny hS' (a:=.row [.int .i64 0,.int .i64 0,.str [],.str [],.nils,.int .i64 0,.int .i64 0,.str [],.nils,.nils,.nils] 105 0 0) (b:=.row [.int .i64 (Aa A p).kind,.str (Aa A p).text,.int .i64 (Aa A p).line] 137 0 0) (Anf (n:=n) (op:=w) (ln:=(Aa A p).line) hA hT (hS.get (p+1) _) (hS.n2 (p+1) _ _ _ _) (by omega) hp1 (by omega))
   have hF:Oi w=238:=by rcases hwc with rfl | rfl | rfl | rfl | rfl<;>rfl
   rw[hF];refine⟨v,q,r,c1,c2,?_⟩
   have he:∀ o:Option (Sp × List Tk),o=(Vw (A.drop (p+1))).map (fun y=>({ Al w (Aa A p).line with nm:=y.1 },y.2))->Oq A o v q r:=fun o ho=>by
    subst ho
    cases hQ:Vw (A.drop (p+1)) with
    | none=>rw[hQ]at c3;exact c3
    | some pr=>
     obtain⟨nm,ts⟩:=pr;rw[hQ]at c3;exact⟨c3.1,by rw[c3.2.1,Eg];rfl,c3.2.2⟩
   refine he _ ?_;unfold Vw
   cases Cy (A.drop (p+1)) with
   | none=>rfl
   | some nt=>
    obtain⟨nm,t1⟩:=nt;simp only;rw[if_neg (by omega),if_neg (by omega),if_neg (by omega)]
    cases Df [59] t1<;>rfl
 obtain⟨v,q,r,c1,c2,c3⟩:=hq;have Zq:=C4 hS;obtain⟨-,-,hlen,get,get0,set,set0,n0,n1,n2,u0,u1,u2⟩:=hS;have hrt:=fun σ=>hrt σ
 simp only[if_neg hw0]at hrt;simp only[go_sem,Zq,LZ];refine Ac hnx ?_;simp only[go_sem,Zq,LZ,b1,b3];refine Ac (hrt _) ?_;simp only[go_sem,Zq,LZ,hinq];refine Ac c1 ?_;unfold Oq at c3
 cases hq:Gn (n+1) (A.drop p) with
 | none=>
  rw[hq]at c3;obtain⟨rfl,d0,d1,d2,d3,d4,d5,d6,d7,d8,d9,d10,rfl,hb⟩:=c3;simp only[go_sem,Zq,LZ,Ab3 hb];exact By (v:=.tup [.agg [d0,d1,d2,d3,d4,d5,d6,d7,d8,d9,d10],.bool false]) (B0 (n0 _ _ _) rfl rfl rfl) (Ci hb) c2 ⟨_,⟨_,_,_,_,_,_,_,_,_,_,_,rfl,hb⟩,rfl⟩
 | some xt=>
  obtain⟨x,ts⟩:=xt;rw[hq]at c3;obtain⟨rfl,rfl,c3⟩:=c3;have hxs:=Fi x;have hxr:=Eg x;rw[hxr]at hxs ⊢;simp only[go_sem,Zq,LZ];exact By (v:=.tup [.agg _,.bool true]) (B0 (n0 _ _ _) rfl rfl rfl) (Ci hxs) c2 ⟨by rw[hxr],c3⟩
/-! blocks -/
def RW(s σ:St)(m:Nat)(z:Bool)(t:Nat)(A:List Tk)(q:Nat):Prop:=s.length<=σ.length/\(∀ i,i<s.length->i≠m->σ[i]?=s[i]?)/\σ[m]?=some (RO z t A q)/\m<s.length
theorem Ab4{s:St}{m:Nat}{z:Bool}{t:Nat}{A:List Tk}{q:Nat}(h:s[m]?=some (RO z t A q)):RW s s m z t A q:=⟨Ah _,fun _ _ _=>rfl,h,(Ar.1 h).1⟩
theorem My{s σ:St}{m:Nat}{z:Bool}{t:Nat}{A:List Tk}{q:Nat}(h:RW s σ m z t A q)(q':Nat):RW s (σ.set m (RO z t A q')) m z t A q':=by
 obtain⟨h1,h2,h3,h4⟩:=h;refine⟨by simpa using h1,fun i hi hm=>?_,B8 (by omega),h4⟩;rw[Bc (Ne.symm hm)];exact h2 i hi hm
theorem X2{s σ l:St}{m:Nat}{z:Bool}{t:Nat}{A:List Tk}{q:Nat}(h:RW s σ m z t A q):RW s (σ++l) m z t A q:=by
 obtain⟨h1,h2,h3,h4⟩:=h;refine⟨by simp;omega,fun i hi hm=>?_,Br h3,h4⟩;rw[Co (by omega)];exact h2 i hi hm
theorem Nu{s σ τ:St}{m:Nat}{z:Bool}{t:Nat}{A:List Tk}{q:Nat}(h:RW s σ m z t A q)(hl:s.length<=τ.length)(hj:∀ j,j<s.length->τ[j]?=σ[j]?):RW s τ m z t A q:=by
 obtain⟨h1,h2,h3,h4⟩:=h;exact⟨hl,fun i hi hm=>by rw[hj i hi];exact h2 i hi hm,by rw[hj m h4];exact h3,h4⟩
theorem Ajk{s σ:St}{m:Nat}{z:Bool}{t:Nat}{A:List Tk}{q:Nat}(h:RW s σ m z t A q):σ.take s.length=s.set m (RO z t A q):=by
 obtain⟨h1,h2,h3,h4⟩:=h;refine Qk fun i=>?_
 by_cases hi:i<s.length
 ·rw[List.getElem?_take_of_lt hi];by_cases hm:i=m
  ·subst hm;rw[h3,B8 h4]
  ·rw[h2 i hi hm,Bc (Ne.symm hm)]
 ·rw[Ou (by simp;omega),Ou (by simp;omega)]
theorem Ajl{s σ:St}{m:Nat}{z:Bool}{t:Nat}{A:List Tk}{q:Nat}(h:RW s σ m z t A q):∀ i ob,i<s.length->σ[i]?=some ob->s[i]?=some ob\/D7 s.length [] ob.refs=true:=by
 obtain⟨h1,h2,h3,h4⟩:=h;intro i ob hi ho;by_cases hm:i=m
 ·subst hm;rw[ho]at h3;cases h3;exact .inr (by rw[Xy];rfl)
 ·rw[h2 i hi hm]at ho;exact .inl ho
theorem Ayu{z:Bool}{t:Nat}{A:List Tk}{f m q0 k ty:Nat}{res:List AR}{thr:Bool}{body:AC}{s:St}{R:V->Nat->Prop}(hT:TT f=some ⟨1,res,thr,body,none⟩)
  (h:W TT PT [.c body] (C2 0 [.ptr m 0 0]) s (Hd fun e' σ1=>∃ u b xs q,B6 e' σ1 res=some (.tup [u,.bool b])/\GW σ1 k ty s.length u xs/\(0<k/\(∀ r∈xs,r.length=k)/\∀ r∈xs,r.all V.rowB=true)/\RW s σ1 m z t A q/\q<=A.length/\R (.tup [SL true 0 xs,.bool b]) q)):RT f [] s m z t A R:=by
 obtain⟨e',σ1,hE,u,b,xs,q,hr,hg,⟨hk,hlen,hrow⟩,hw,hq,hR⟩:=h;have hoc:=N3 hg hk hlen hrow;have hcell:=D2 hg
 have hrefs:(SL true 0 xs).refs=[]:=by unfold SL;split<;>rfl
 have hfr:(∀ j,j<s.length->(σ1.freeze u.refs)[j]?=σ1[j]?):=by
  intro j hj;rcases hg with⟨rfl,-⟩ | ⟨-,i,g,rfl,ho,hlo⟩
  ·rfl
  ·exact Anm _ _ _ (by omega)
 have hw2:RW s (σ1.freeze u.refs) m z t A q:=Nu hw (by rw[Mg];exact hw.1) hfr;refine⟨_,q,?_,hq,hR⟩;rw[<-Ajk hw2];refine Af9 hT rfl rfl ⟨e',σ1,hE,.tup [u,.bool b],u.refs,hr,?_,?_,?_,Ajl hw2,rfl⟩
 ·rcases hg with⟨rfl,-⟩ | ⟨-,i,g,rfl,-⟩<;>rfl
 ·have hb:OV σ1 (.bool b) (.bool b):=Ig rfl
  exact congrArg (Option.map V.tup) (Ui (.cons (Xo hoc hcell) (.cons hb .nil)) fun j hj=>by
   simpa[Aj,V.refs] using hj)
 ·show D7 s.length [] (Aj [SL true 0 xs,.bool b])=true;simp only[Aj,hrefs,V.refs,Cw];rfl
theorem Arp{n:Nat}(hS:∀ k,k<n->PSt k):Qh n:=by
 intro s m z t A p hA hT hs hp hf;have hl:A.length<=1000000:=by have:=hA.len;omega
 have hm:=(Ar.1 hs).1;obtain⟨n,rfl⟩:∃ k,n=k+1:=⟨n - 1,by omega⟩;refine Ayu (q0:=p) (k:=11) (ty:=105) T123 ?_;by_cases h1:As [123] (A.drop p)=true
 case neg=>
  have h1:As [123] (A.drop p)=false:=by simpa using h1
  have ho:Eb (n+1) (A.drop p)=none:=by rw[Eb,if_neg (by rw[h1];decide)]
  have c1:=N9 hs hl hp h1;rw[ho];simp only[go_sem];refine Ac c1 ?_;simp only[go_sem];exact⟨.nils,false,[],p,rfl,F4,⟨by omega,by simp,by simp⟩,Ab4 hs,hp,rfl⟩
 have ho:Eb (n+1) (A.drop p)=H7 n (A.drop (p+1)):=by rw[Eb,if_pos h1,Dj]
 have c1:=N8 hs hl h1;have hlt:=Dh h1;rw[ho];simp only[go_sem];refine Ac c1 ?_;simp only[go_sem];refine B9 (α:=Nat × Nat × V × List Sp × St) (fun a=>a.1) (fun a=>[(0,.ptr m 0 0),(4,a.2.2.1)]) (fun a=>a.2.2.2.2) (fun a=>a.1<=n/\a.2.1<=A.length/\10*(A.length - a.2.1)+11<=a.1/\RW s a.2.2.2.2 m z t A a.2.1/\GW a.2.2.2.2 11 105 s.length a.2.2.1 (a.2.2.2.1.map Sp.row)/\H7 n (A.drop (p+1))=(H7 a.1 (A.drop a.2.1)).map (fun y=>(a.2.2.2.1++y.1,y.2))/\a.2.2.2.1.length<=a.2.1) ?_ (n,p+1,.nils,[],s.set m (RO z t A (p+1))) ⟨Ah _,hlt,by simp only;omega,My (Ab4 hs) _,F4,by simp only[Es];cases H7 n (A.drop (p+1))<;>rfl,by simp⟩;rintro⟨k,q,u,L,σ⟩ ⟨hkn,hq,hbk,hw,hg,hinv,hLq⟩ ih;simp only at hkn hq hbk hw hg hinv hLq ih;obtain⟨k,rfl⟩:∃ j,k=j+1:=⟨k - 1,by omega⟩
 have hrl:∀ r∈L.map Sp.row,r.length=11:=by
  intro r hr;obtain⟨x,-,rfl⟩:=D6.1 hr;exact Lp x
 have hrr:∀ r∈L.map Sp.row,r.all V.rowB=true:=by
  intro r hr;obtain⟨x,-,rfl⟩:=D6.1 hr;exact Fi x
 refine Ca (by delta lp123_0;exact rfl) ?_;by_cases h2:As [125] (A.drop q)=true
 ·have c2:=N8 hw.2.2.1 hl h2;have hlt2:=Dh h2;have ho2:H7 (k+1) (A.drop q)=some ([],A.drop (q+1)):=by rw[H7,if_pos h2,Dj]
  rw[ho2]at hinv;simp only[go_sem];refine Ac c2 ?_;simp only[go_sem];refine⟨u,true,_,q+1,rfl,Ff hg hm,⟨by omega,hrl,hrr⟩,My hw _,hlt2,?_⟩;rw[hinv];simp only[Ha,Cw];exact⟨rfl,rfl⟩
 ·have h2:As [125] (A.drop q)=false:=by simpa using h2
  have c2:=N9 hw.2.2.1 hl hq h2;obtain⟨v,q2,c3,hq2,h3⟩:=hS k (by omega) σ m z t A q hA hT hw.2.2.1 hq (by omega);have hw2:=My hw q2;have hg2:GW (σ.set m (RO z t A q2)) 11 105 s.length u (L.map Sp.row):=Ff hg hm
  have ho2:H7 (k+1) (A.drop q)=match Gn k (A.drop q) with
    | none=>none
    | some (x,r)=>match H7 k r with
     | none=>none
     | some (l,r)=>some (x::l,r):=by
   rw[H7,if_neg (by rw[h2];decide)];rfl
  rw[ho2]at hinv;generalize σ.set m (RO z t A q2)=τ at c3 hw2 hg2;have ln0:∀ a:Ob,(τ++[a])[τ.length]?=some a:=fun a=>by simp
  have lu0:∀ a b:Ob,(τ++[a]).set τ.length b=τ++[b]:=fun a b=>by simp[Jg]
  unfold PRs at h3
  cases hps:Gn k (A.drop q) with
  | none=>
   rw[hps]at h3 hinv;obtain⟨_,⟨d0,d1,d2,d3,d4,d5,d6,d7,d8,d9,d10,rfl,hb⟩,rfl⟩:=h3;simp only[go_sem];refine Ac c2 ?_;simp only[go_sem];refine Ac c3 ?_;simp only[go_sem,ln0,lu0,Ab3 hb];refine⟨.nils,false,[],q2,rfl,F4,⟨by omega,by simp,by simp⟩,X2 hw2,hq2,?_⟩;rw[hinv];rfl
  | some xr=>
   obtain⟨x,r⟩:=xr;rw[hps]at h3 hinv;obtain⟨rfl,h3⟩:=h3;have hxs:=Fi x;have hxr:=Eg x
   have hlt2:r.length<A.length - q:=by
    have:=((Xh (M:=0) (C:=100) (by omega) k).1 _ _ _ (C0 hT (S4 q A)) hps).2.2.1;rw[D0]at this;exact this
   have hrq:r.length=A.length - q2:=by rw[<-h3,D0]
   have hw3:RW s (τ++[.row x.row 105 0 0]) m z t A q2:=X2 hw2;have hg3:GW (τ++[.row x.row 105 0 0]) 11 105 s.length u (L.map Sp.row):=Pd hg2;have hLl:L.length<=1000000:=by omega
   obtain⟨u',s3,ha,hg4,l3,-,f3⟩:=Pj (bytes:=176) (y:=.lst 1 [x.row]) (ys:=[x.row]) hg3 (by have:=hw3.1;omega) rfl (by omega) hrl (by simp[Lp]) (by simp;omega);have hw4:RW s s3 m z t A q2:=Nu hw3 (by have:=hw3.1;omega) f3;have hcell:=D2 hg;rw[hxr]at c3 hxs ha;simp only[go_sem];refine Ac c2 ?_;simp only[go_sem];refine Ac c3 ?_;simp only[go_sem,ln0,lu0,ha];refine Bi (ih (k,q2,u',L++[x],s3) (by simp) ⟨by simp only;omega,hq2,by simp only;omega,hw4,by simpa using hg4,?_,by simp;omega⟩) rfl;simp only;rw[hinv,h3];simp only
   cases H7 k r with
   | none=>rfl
   | some y=>simp
theorem Aia:∀ n,PSt n/\Qh n:=by
 intro n
 induction n using Nat.strongRecOn with
 | ind n ih=>exact⟨Aro fun k hk=>(ih k hk).2,Arp fun k hk=>(ih k hk).1⟩
