/- Walks: parse.Expr, SameExpr, the maker of expressions. -/
import Derived.Test.YtlehfgdhebapeaaGreatDoorLl
import Derived.Test.YtlehfgdhebapeaaGreatDoorLj
import Derived.Test.YtlehfgdhebapeaaGreatDoorGf
set_option linter.all false
namespace Go.Proofs.YtlehfgdhebapeaaGreatDoor.KM
open Go
theorem Tr:∀ (n:Nat) (ln:Int) (l:List UInt8) (ts:List Tk),B7 n ln l=some ts->∀ t∈ts,t.kind=2->Lib.parseIntB 64 t.text=.ok (Gx t.text)/\t.text.length<=l.length
 | n,ln,[],ts,h=>by
  have:B7 n ln []=some []:=by cases n<;>rfl
  rw[this]at h
  cases h
  intro t ht;cases ht
 | 0,ln,c::r,ts,h=>by cases h
 | n+1,ln,c::r,ts,h=>by
  rw[B7]at h
  have up:∀ {l':List UInt8} {ts':List Tk},l'.length<=(c::r).length->(∀ t∈ts',t.kind=2->Lib.parseIntB 64 t.text=.ok (Gx t.text)/\t.text.length<=l'.length)->∀ t∈ts',t.kind=2->Lib.parseIntB 64 t.text=.ok (Gx t.text)/\t.text.length<=(c::r).length:=
   fun hl h t ht hk=>⟨(h t ht hk).1,Ed (h t ht hk).2 hl⟩
  split at h
  ·exact up (by simp) (Tr n _ _ _ h)
  ·split at h
   ·exact up (by simp) (Tr n _ _ _ h)
   ·split at h
    ·exact up (T2 _ _) (Tr n _ _ _ h)
    ·split at h
     ·cases h
     ·rename_i k w hf
      simp only[A8]at h
      obtain⟨l,hl,rfl⟩:=h
      intro t ht
      rcases Bm.1 ht with rfl | ht
      ·intro hk2
       simp only at hk2
       subst hk2
       obtain⟨-,q,hq⟩:=S1 hf
       have hwl:w.length<=(c::r).length:=by rw[hq];simp
       refine⟨?_,hwl⟩
       rw[Kz]at hf
       simp only
       split at hf
       ·split at hf
        ·cases hf
        ·simp only[P7,Prod.mk.injEq]at hf
         obtain⟨hf,-⟩:=hf
         split at hf<;>omega
       ·split at hf
        ·rename_i hc
         split at hf
         ·cases hf
         ·split at hf
          ·rename_i hok
           cases hf
           have hd:He (De c r):=fun d hd=>by
            rcases Bm.1 hd with rfl | hd
            ·exact hc
            ·exact Xq hd
           rw[Zt hd]at hok
           have hv:=of_decide_eq_true hok
           have h1:=Aac hd hv
           have h2:=Akl hd hv
           unfold De at hv ⊢
           rw[h1,h2]
          ·cases hf
        ·split at hf
         ·cases hf
         ·simp only[P7,Prod.mk.injEq]at hf
          omega
      ·exact up (by rw[D5];omega) (Tr n _ _ _ hl) t ht
theorem Apb{s:List UInt8}{L:List Tk}(hs:s.length<=4096)(h:B7 s.length 1 s=some L):OkA L:=
 ⟨Ed (Qy _ _ _ _ h) hs,fun t ht hk=>by
  obtain⟨h1,h2⟩:=Tr _ _ _ _ h t ht hk
  exact⟨h1,Ed h2 hs⟩⟩
theorem Asu{s:St}{m:Nat}{z:Bool}{t:Nat}{A:List Tk}{p:Nat}(hs:s[m]?=some (RO z t A p))(hA:A.length<=1000000)(hp:p<=A.length):∃ n:Int,Bc TT PT 41 [.ptr m 0 0] s (.int .i64 n) s:=by
 suffices h:RT 41 [] s m z t A (fun v p'=>(∃ n:Int,v=.int .i64 n)/\p'=p) by
  obtain⟨v,p',h1,-,⟨n,rfl⟩,rfl⟩:=h
  rw[I1 hs]at h1
  exact⟨n,h1⟩
 refine Id T41 rfl hs fun S hS=>?_
 obtain⟨-,-,hlen,get,get0,set,set0,n0,n1,n2,u0,u1,u2⟩:=hS
 by_cases h0:A.length=0
 ·have b0:((A.length:Int)==0)=true:=by rw[h0];rfl
  simp only[go_sem,hlen,get,get0,set,set0,n0,n1,n2,u0,u1,u2,LZ,Lc,b0]
  exact T6 rfl ⟨rfl,rfl⟩ hp ⟨⟨_,rfl⟩,rfl⟩
 ·have b0:((A.length:Int)==0)=false:=by rw[beq_eq_false_iff_ne];omega
  by_cases h1:A.length<=p
  ·have f1:((A.length:Int)<=(p:Int))=True:=eq_true (by omega)
   have e1:IntKind.i64.wrap ((A.length:Int) - 1)=((A.length - 1:Nat):Int):=by rw[B3 (by omega)];omega
   obtain⟨x,hx⟩:∃ x,A[A.length - 1]?=some x:=⟨_,Az (by omega)⟩
   have hx':=Aaz hx
   simp only[go_sem,hlen,get,get0,set,set0,n0,n1,n2,u0,u1,u2,LZ,Lc,b0,ge_iff_le,f1,e1,hx']
   exact T6 rfl ⟨rfl,rfl⟩ hp ⟨⟨_,rfl⟩,rfl⟩
  ·have f1:((A.length:Int)<=(p:Int))=False:=eq_false (by omega)
   obtain⟨x,hx⟩:∃ x,A[p]?=some x:=⟨_,Az (by omega)⟩
   have hx':=Aaz hx
   simp only[go_sem,hlen,get,get0,set,set0,n0,n1,n2,u0,u1,u2,LZ,Lc,b0,ge_iff_le,f1]
   refine A2 (by kernel_rfl) ?_
   simp only[go_sem,hlen,get,get0,set,set0,n0,n1,n2,u0,u1,u2,LZ,Lc,hx']
   exact T6 rfl ⟨rfl,rfl⟩ hp ⟨⟨_,rfl⟩,rfl⟩
/-! SameExpr -/
theorem Qr(x y:Xp)(hl:x.l.length<=2)(ih:∀ a∈x.l,∀ b:Xp,Fn TT PT 19 [.agg a.row,.agg b.row] (.bool (Cw a b))):Fn TT PT 19 [.agg x.row,.agg y.row] (.bool (Cw x y)):=by
 obtain⟨op,n,nm,z,t,l⟩:=x
 obtain⟨op',n',nm',z',t',l'⟩:=y
 have hx:=Dn ⟨op,n,nm,z,t,l⟩
 have hy:=Dn ⟨op',n',nm',z',t',l'⟩
 rw[Au]at hx hy
 rw[Au,Au]
 simp only at hl ih hx hy ⊢
 have e1:(l.map Xp.row).length=l.length:=Cd ..
 have e2:(l'.map Xp.row).length=l'.length:=Cd ..
 have hv:Cw ⟨op,n,nm,z,t,l⟩ ⟨op',n',nm',z',t',l'⟩=(op==op'&&(n==n'&&(nm==nm'&&Cj l l'))):=by rw[Cw]
 rw[hv]
 refine Bz T19 rfl ?_
 by_cases h1:op=op'
 case neg=>
  have b1:(op==op')=false:=by simp[h1]
  have c1:(op != op')=true:=by simp[h1]
  rw[b1]
  simp only[go_sem,c1]
  exact A9 rfl rfl
 have b1:(op==op')=true:=by simp[h1]
 have c1:(op != op')=false:=by simp[h1]
 by_cases h2:n=n'
 case neg=>
  have b2:(n==n')=false:=by simp[h2]
  have c2:(n != n')=true:=by simp[h2]
  rw[b1,b2]
  simp only[go_sem,c1,c2]
  exact A9 rfl rfl
 have b2:(n==n')=true:=by simp[h2]
 have c2:(n != n')=false:=by simp[h2]
 by_cases h3:nm=nm'
 case neg=>
  have b3:(nm==nm')=false:=by simp[h3]
  have c3:(nm != nm')=true:=by simp[h3]
  rw[b1,b2,b3]
  simp only[go_sem,c1,c2,b3,Fa]
  exact A9 rfl rfl
 have b3:(nm==nm')=true:=by simp[h3]
 have c3:(nm != nm')=false:=by simp[h3]
 rw[b1,b2,b3]
 by_cases h4:l.length=l'.length
 case neg=>
  have b4:Cj l l'=false:=by
   have len:∀ (a b:List Xp),Cj a b=true->a.length=b.length:=fun a=>by
    induction a with
    | nil=>intro b h;cases b with
     | nil=>rfl
     | cons=>cases h
    | cons x a ih=>intro b h;cases b with
     | nil=>cases h
     | cons y b=>
      simp only[Cj,Ad]at h
      simp[ih b h.2]
   cases h:Cj l l'
   ·rfl
   ·exact absurd (len _ _ h) h4
  have c4:((l.length:Int) != (l'.length:Int))=true:=by simp;omega
  rw[b4]
  simp only[go_sem,c1,c2,b3,El,e1,e2,c4]
  exact A9 rfl rfl
 have c4:((l.length:Int) != (l'.length:Int))=false:=by simp[h4]
 simp only[go_sem,c1,c2,b3,El,e1,e2,c4]
 refine En (α:=Nat) (fun i=>l.length - i) (fun i=>[(2,.ptr 0 0 0),(3,.ptr 1 0 0),(5,.int .i64 (i:Int))]) (fun _=>[.row [.int .i64 op,.int .i64 n,.str nm,SL z t (l.map Xp.row)] 40 0 0,.row [.int .i64 op',.int .i64 n',.str nm',SL z' t' (l'.map Xp.row)] 40 0 0]) (fun i=>i<=l.length/\Cj l l'=Cj (l.drop i) (l'.drop i)) ?_ 0 ⟨Bj _,rfl⟩
 rintro i ⟨hi,hinv⟩ jh
 refine Eo (by delta lp19_0;exact rfl) ?_
 by_cases hc:i<l.length
 ·have f1:((i:Int)<(l.length:Int))=True:=eq_true (by omega)
  have hin:=Cr (show i<9223372036854775807 by omega)
  obtain⟨a,ha⟩:∃ a,l[i]?=some a:=⟨_,Az hc⟩
  obtain⟨b,hb⟩:∃ b,l'[i]?=some b:=⟨_,Az (by omega)⟩
  have har:=Au a
  have hbr:=Au b
  have has:=Dn a
  have hbs:=Dn b
  have hm:a∈l:=Hj ha
  have hf:=ih a hm b
  have ha':(l.map Xp.row)[i]?=some [.int .i64 a.op,.int .i64 a.n,.str a.nm,SL a.z a.t (a.l.map Xp.row)]:=by rw[Ch,ha,G1,har]
  have hb':(l'.map Xp.row)[i]?=some [.int .i64 b.op,.int .i64 b.n,.str b.nm,SL b.z b.t (b.l.map Xp.row)]:=by rw[Ch,hb,G1,hbr]
  have hda:l.drop i=a::l.drop (i+1):=by rw[Gq hc,(Ay.1 ha).2]
  have hdb:l'.drop i=b::l'.drop (i+1):=by rw[Gq (by omega),(Ay.1 hb).2]
  rw[hda,hdb,Cj]at hinv
  rw[har,hbr]at hf
  rw[har]at has
  rw[hbr]at hbs
  cases hab:Cw a b
  ·rw[hab]at hf hinv
   simp only[go_sem,e1,f1]
   refine A2 (by kernel_rfl) ?_
   simp only[go_sem,ha',hb']
   refine C6 hf (by simp only[go_sem]) ?_
   simp only[go_sem]
   rw[hinv]
   exact A9 rfl rfl
  ·rw[hab]at hf hinv
   simp only[go_sem,e1,f1]
   refine A2 (by kernel_rfl) ?_
   simp only[go_sem,ha',hb']
   refine C6 hf (by simp only[go_sem]) ?_
   simp only[go_sem,hin]
   exact C5 (jh (i+1) (by omega) ⟨hc,by simpa using hinv⟩) rfl
 ·have f1:((i:Int)<(l.length:Int))=False:=eq_false (by omega)
  have hz:Cj l l'=true:=by
   rw[hinv,E9 (by omega),E9 (by omega)]
   rfl
  simp only[go_sem,e1,f1]
  rw[hz]
  exact A9 rfl rfl
theorem Aig{x:Xp}(h:ShE x):∀ y:Xp,Fn TT PT 19 [.agg x.row,.agg y.row] (.bool (Cw x y)):=by
 induction h with
 | num _=>exact fun y=>Qr _ y (by simp) (by simp)
 | name _=>exact fun y=>Qr _ y (by simp) (by simp)
 | idx _ _ ih=>exact fun y=>Qr _ y (by simp) (by simpa using ih)
 | un _ _ ih=>exact fun y=>Qr _ y (by simp) (by simpa using ih)
 | bin _ _ _ ih1 ih2=>exact fun y=>Qr _ y (by simp) (by simpa using ⟨ih1,ih2⟩)
/-! the maker -/
theorem Al0:((H6 (J2 TT PT 3000) af14 [] []).bind fun p=>Er p.2 p.1)=some (.bool true):=by kernel_rfl
theorem Am5:Fn TT PT 14 [] (.bool true):=Q3 Sb T14 rfl rfl Al0
end Go.Proofs.YtlehfgdhebapeaaGreatDoor.KM
