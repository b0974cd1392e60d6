/- Walks: parse.Expr, SameExpr, the maker of expressions. -/
import Derived.Test.YtcoeikinocflnaaGreatDoorLl
set_option linter.all false
namespace Go.Proofs.YtcoeikinocflnaaGreatDoor.KM
open Go
theorem T6:∀ (n:Nat) (ln:Int) (l:List UInt8) (ts:List Tk),Dn n ln l=some ts->∀ t∈ts,t.kind=2->Lib.parseIntB 64 t.text=.ok (Hm t.text)/\t.text.length<=l.length
 | n,ln,[],ts,h=>by
  have:Dn n ln []=some []:=by cases n<;>rfl
  rw[this]at h;cases h;intro t ht;cases ht
 | 0,ln,c::r,ts,h=>by cases h
 | n+1,ln,c::r,ts,h=>by
  rw[Dn]at h
  have up:∀ {l':List UInt8} {ts':List Tk},l'.length<=(c::r).length->(∀ t∈ts',t.kind=2->Lib.parseIntB 64 t.text=.ok (Hm t.text)/\t.text.length<=l'.length)->∀ t∈ts',t.kind=2->Lib.parseIntB 64 t.text=.ok (Hm t.text)/\t.text.length<=(c::r).length:=
   fun hl h t ht hk=>⟨(h t ht hk).1,Cj (h t ht hk).2 hl⟩
  split at h
  ·exact up (by simp) (T6 n _ _ _ h)
  ·split at h
   ·exact up (by simp) (T6 n _ _ _ h)
   ·split at h
    ·exact up (Uk _ _) (T6 n _ _ _ h)
    ·split at h
     ·cases h
     ·rename_i k w hf;simp only[Bm]at h;obtain⟨l,hl,rfl⟩:=h;intro t ht;rcases Be.1 ht with rfl | ht
      ·intro hk2;simp only at hk2;subst hk2;obtain⟨-,q,hq⟩:=Wv hf;have hwl:w.length<=(c::r).length:=by rw[hq];simp
       refine⟨?_,hwl⟩;rw[Qz]at hf;simp only
       split at hf
       ·split at hf
        ·cases hf
        ·simp only[V9,Prod.mk.injEq]at hf;obtain⟨hf,-⟩:=hf
         split at hf<;>omega
       ·split at hf
        ·rename_i hc
         split at hf
         ·cases hf
         ·split at hf
          ·rename_i hok;cases hf
           have hd:H6 (Du c r):=fun d hd=>by
            rcases Be.1 hd with rfl | hd
            ·exact hc
            ·exact Yf hd
           rw[Agl hd]at hok;have hv:=of_decide_eq_true hok;have h1:=Ahy hd hv;have h2:=Amd hd hv;unfold Du at hv ⊢;rw[h1,h2]
          ·cases hf
        ·split at hf
         ·cases hf
         ·simp only[V9,Prod.mk.injEq]at hf;omega
      ·exact up (by rw[D0];omega) (T6 n _ _ _ hl) t ht
theorem Are{s:List UInt8}{L:List Tk}(hs:s.length<=4096)(h:Dn s.length 1 s=some L):OkA L:=
 ⟨Cj (Q6 _ _ _ _ h) hs,fun t ht hk=>by
  obtain⟨h1,h2⟩:=T6 _ _ _ _ h t ht hk
  exact⟨h1,Cj h2 hs⟩⟩
theorem Au2{s:St}{m:Nat}{z:Bool}{t:Nat}{A:List Tk}{p:Nat}(hs:s[m]?=some (RO z t A p))(hA:A.length<=1000000)(hp:p<=A.length):∃ n:Int,Bp TT PT 47 [.ptr m 0 0] s (.int .i64 n) s:=by
 suffices h:RT 47 [] s m z t A (fun v p'=>(∃ n:Int,v=.int .i64 n)/\p'=p) by
  obtain⟨v,p',h1,-,⟨n,rfl⟩,rfl⟩:=h;rw[Jn hs]at h1;exact⟨n,h1⟩
 refine Io T47 rfl hs fun S hS=>?_
 have Zq:=C4 hS;obtain⟨-,-,hlen,get,get0,set,set0,n0,n1,n2,u0,u1,u2⟩:=hS;by_cases h0:A.length=0
 ·have b0:((A.length:Int)==0)=true:=by rw[h0];rfl
  simp only[go_sem,Zq,LZ,Lw,b0];exact Um rfl ⟨rfl,rfl⟩ hp ⟨⟨_,rfl⟩,rfl⟩
 ·have b0:((A.length:Int)==0)=false:=by rw[beq_eq_false_iff_ne];omega
  by_cases h1:A.length<=p
  ·have f1:((A.length:Int)<=(p:Int))=True:=eq_true (by omega);have e1:IntKind.i64.wrap ((A.length:Int) - 1)=((A.length - 1:Nat):Int):=by rw[Ef (by omega)];omega
   obtain⟨x,hx⟩:∃ x,A[A.length - 1]?=some x:=⟨_,A0 (by omega)⟩;have hx':=Abz hx;simp only[go_sem,Zq,LZ,Lw,b0,ge_iff_le,f1,e1,hx'];exact Um rfl ⟨rfl,rfl⟩ hp ⟨⟨_,rfl⟩,rfl⟩
  ·have f1:((A.length:Int)<=(p:Int))=False:=eq_false (by omega);obtain⟨x,hx⟩:∃ x,A[p]?=some x:=⟨_,A0 (by omega)⟩;have hx':=Abz hx;simp only[go_sem,Zq,LZ,Lw,b0,ge_iff_le,f1];refine Ag (by kernel_rfl) ?_;simp only[go_sem,Zq,LZ,Lw,hx'];exact Um rfl ⟨rfl,rfl⟩ hp ⟨⟨_,rfl⟩,rfl⟩
/-! SameExpr -/
/-! the maker -/
def ZB:Nat->Nat
 | 0=>1
 | k+1=>1+4*ZB k
def SB(k:Nat)(x:Sp):Prop:=ShS x/\x.sz<=ZB k/\∀ d,d+k<=100->(x.txt d).length<=1000*ZB k
theorem U1{k:Nat}:∀ {l:List Sp},(∀ x∈l,SB k x)->Sp.szs l<=l.length*ZB k
 | [],_=>by simp[Sp.szs]
 | x::l,h=>by
  have h1:=U1 (fun y hy=>h y (Dz _ hy));obtain⟨-,h3,-⟩:=h x Ec;rw[Sp.szs,Am,Lk];omega
theorem Yg{k d:Nat}:∀ {l:List Sp},(∀ x∈l,SB k x)->d+k<=100->(Sp.txts d l).length<=l.length*(1000*ZB k)
 | [],_,_=>by simp[Sp.txts]
 | x::l,h,hd=>by
  have h1:=Yg (fun y hy=>h y (Dz _ hy)) hd;obtain⟨-,-,h4⟩:=h x Ec;have h4:=h4 d hd;rw[J6,Ao,Am,Lk];omega
theorem Ayk{s:Sp}(h1:s.nm.length<=4)(h2:s.arg.length<=4)(h3:(En s.idx).length<=56)(h4:s.op=1\/s.op=2\/s.op=3\/s.op=14->s.ex.txt.length<=118):(Ce s).length<=300:=by
 have hw:(Cu s.op).length<=11:=by
  unfold Cu
  split<;>simp
 unfold Ce
 repeat' split
 all_goals simp
 all_goals omega
theorem A1t{k:Nat}{x:Sp}(h1:1<=x.op/\x.op<=15)(h2:x.idx.length<=1)(h3:x.op≠1->x.idx=[])(h4:∀ y∈x.idx,ShE y/\y.txt.length<=54)(h5:(x.op=1\/x.op=2\/x.op=3\/x.op=14)->ShE x.ex/\x.ex.txt.length<=118)(h5':Dl x.op=false->Akf x.ex)(h6:(E5 x.op=true/\x.nm=[])\/(E5 x.op=false/\Ip x.nm))(h7:(x.op≠15/\x.arg=[])\/(x.op=15/\Ip x.arg))
  (h8:Bq x.op=false->x.body=[]) (h8':x.op≠2->x.els=[]) (h9:Bq x.op=true->k≠0/\x.body.length<=3/\x.els.length<=1/\(∀ y∈x.body,SB (k - 1) y)/\∀ y∈x.els,SB (k - 1) y):SB k x:=by
 have hi:(En x.idx).length<=56:=by
  refine Cj (Ahi _) ?_
  cases hx:x.idx with
  | nil=>simp
  | cons a r=>
   have:=(h4 a (by rw[hx];exact Ec)).2;simp only;omega
 have l6:x.nm.length<=4:=by
  rcases h6 with⟨-,h⟩ | ⟨-,-,h⟩
  ·rw[h];exact A2 _
  ·exact h
 have l7:x.arg.length<=4:=by
  rcases h7 with⟨-,h⟩ | ⟨-,-,h⟩
  ·rw[h];exact A2 _
  ·exact h
 have g1:E5 x.op=true->x.nm=[]:=fun h=>by
  rcases h6 with⟨-,h'⟩ | ⟨h',-⟩
  ·exact h'
  ·rw[h]at h';cases h'
 have g2:E5 x.op=false->Bv x.nm=true:=fun h=>by
  rcases h6 with⟨h',-⟩ | ⟨-,h',-⟩
  ·rw[h]at h';cases h'
  ·exact h'
 have g3:x.op=15->Bv x.arg=true:=fun h=>by
  rcases h7 with⟨h',-⟩ | ⟨-,h',-⟩
  ·exact absurd h h'
  ·exact h'
 have g4:x.op≠15->x.arg=[]:=fun h=>by
  rcases h7 with⟨-,h'⟩ | ⟨h',-⟩
  ·exact h'
  ·exact absurd h' h
 have g5:Dl x.op=true->ShE x.ex:=fun h=>(h5 (by
  simp only[Dl,Hb,beq_iff_eq]at h
  exact h)).1
 have hh:=Ayk l6 l7 hi (fun h=>(h5 h).2);cases hb:Bq x.op
 ·have hb0:=h8 hb
  have he0:x.els=[]:=by
   refine h8' fun h=>?_
   rw[h]at hb;cases hb
  have hz:1<=ZB k:=by cases k<;>simp[ZB]
  refine⟨.mk h1 g1 g2 g3 g4 h2 h3 (fun y hy=>(h4 y hy).1) g5 h5' h8 h8' (by rw[hb0];simp) (by rw[he0];simp),?_,fun d hd=>?_⟩
  ·rw[Jp,hb0,he0];simp[Sp.szs];omega
  ·rw[I0,hb];simp only[Ao,Hx,Er,if_false,Am,Cx];omega
 ·obtain⟨hk,hbl,hel,hB,hE⟩:=h9 hb;obtain⟨k,rfl⟩:∃ j,k=j+1:=⟨k - 1,by omega⟩;rw[Nat.add_sub_cancel]at hB hE;refine⟨.mk h1 g1 g2 g3 g4 h2 h3 (fun y hy=>(h4 y hy).1) g5 h5' h8 h8' (fun y hy=>(hB y hy).1) (fun y hy=>(hE y hy).1),?_,fun d hd=>?_⟩
  ·have h1:=U1 hB;have h2:=U1 hE;have h3:=Eo (ZB k) hbl;have h4:=Eo (ZB k) hel;rw[Jp,ZB];omega
  ·have h1:=Yg (d:=d+1) hB (by omega);have h2:=Yg (d:=d+1) hE (by omega);have h3:=Eo (1000*ZB k) hbl;have h4:=Eo (1000*ZB k) hel;rw[I0,hb]
   have h5:(if x.els.isEmpty=true then [] else Dr d++125::32::101::108::115::101::32::123::10::Sp.txts (d+1) x.els).length<=2*d+9+(Sp.txts (d+1) x.els).length:=by
    split
    ·simp
    ·simp[Hx];omega
   simp only[Ao,Hx,if_true,Am,Cx,ZB];omega
