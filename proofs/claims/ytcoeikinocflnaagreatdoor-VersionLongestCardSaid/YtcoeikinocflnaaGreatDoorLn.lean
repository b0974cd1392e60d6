/- Walks: parse.Expr, SameExpr, the maker of expressions. -/
import Derived.Test.YtcoeikinocflnaaGreatDoorLl
import Derived.Test.YtcoeikinocflnaaGreatDoorLj
import Derived.Test.YtcoeikinocflnaaGreatDoorQt
import Derived.Test.YtcoeikinocflnaaGreatDoorLc
set_option linter.all false
namespace Go.Proofs.YtcoeikinocflnaaGreatDoor.KM
open Go
theorem Td:∀ (n:Nat) (ln:Int) (l:List UInt8) (ts:List Tk),B1 n ln l=some ts->∀ t∈ts,t.kind=2->Lib.parseIntB 64 t.text=.ok (Gj t.text)/\t.text.length<=l.length
 | n,ln,[],ts,h=>by
  have:B1 n ln []=some []:=by cases n<;>rfl
  rw[this]at h
  cases h
  intro t ht;cases ht
 | 0,ln,c::r,ts,h=>by cases h
 | n+1,ln,c::r,ts,h=>by
  rw[B1]at h
  have up:∀ {l':List UInt8} {ts':List Tk},l'.length<=(c::r).length->(∀ t∈ts',t.kind=2->Lib.parseIntB 64 t.text=.ok (Gj t.text)/\t.text.length<=l'.length)->∀ t∈ts',t.kind=2->Lib.parseIntB 64 t.text=.ok (Gj t.text)/\t.text.length<=(c::r).length:=
   fun hl h t ht hk=>⟨(h t ht hk).1,Eo (h t ht hk).2 hl⟩
  split at h
  ·exact up (by simp) (Td n _ _ _ h)
  ·split at h
   ·exact up (by simp) (Td n _ _ _ h)
   ·split at h
    ·exact up (Ty _ _) (Td n _ _ _ h)
    ·split at h
     ·cases h
     ·rename_i k w hf
      simp only[A0]at h
      obtain⟨l,hl,rfl⟩:=h
      intro t ht
      rcases Br.1 ht with rfl | ht
      ·intro hk2
       simp only at hk2
       subst hk2
       obtain⟨-,q,hq⟩:=Ss hf
       have hwl:w.length<=(c::r).length:=by rw[hq];simp
       refine⟨?_,hwl⟩
       rw[Lq]at hf
       simp only
       split at hf
       ·split at hf
        ·cases hf
        ·simp only[Si,Prod.mk.injEq]at hf
         obtain⟨hf,-⟩:=hf
         split at hf<;>omega
       ·split at hf
        ·rename_i hc
         split at hf
         ·cases hf
         ·split at hf
          ·rename_i hok
           cases hf
           have hd:Ha (Dh c r):=fun d hd=>by
            rcases Br.1 hd with rfl | hd
            ·exact hc
            ·exact Xr hd
           rw[Z5 hd]at hok
           have hv:=of_decide_eq_true hok
           have h1:=Aam hd hv
           have h2:=Alc hd hv
           unfold Dh at hv ⊢
           rw[h1,h2]
          ·cases hf
        ·split at hf
         ·cases hf
         ·simp only[Si,Prod.mk.injEq]at hf
          omega
      ·exact up (by rw[C5];omega) (Td n _ _ _ hl) t ht
theorem Aqu{s:List UInt8}{L:List Tk}(hs:s.length<=4096)(h:B1 s.length 1 s=some L):OkA L:=
 ⟨Eo (Qy _ _ _ _ h) hs,fun t ht hk=>by
  obtain⟨h1,h2⟩:=Td _ _ _ _ h t ht hk
  exact⟨h1,Eo h2 hs⟩⟩
theorem Auh{s:St}{m:Nat}{z:Bool}{t:Nat}{A:List Tk}{p:Nat}(hs:s[m]?=some (RO z t A p))(hA:A.length<=1000000)(hp:p<=A.length):∃ n:Int,Bk TT PT 47 [.ptr m 0 0] s (.int .i64 n) s:=by
 suffices h:RT 47 [] s m z t A (fun v p'=>(∃ n:Int,v=.int .i64 n)/\p'=p) by
  obtain⟨v,p',h1,-,⟨n,rfl⟩,rfl⟩:=h
  rw[Jn hs]at h1
  exact⟨n,h1⟩
 refine H8 T47 rfl hs fun S hS=>?_
 have Zq:=Ck hS
 obtain⟨-,-,hlen,get,get0,set,set0,n0,n1,n2,u0,u1,u2⟩:=hS
 by_cases h0:A.length=0
 ·have b0:((A.length:Int)==0)=true:=by rw[h0];rfl
  simp only[go_sem,Zq,LZ,K5,b0]
  exact T2 rfl ⟨rfl,rfl⟩ hp ⟨⟨_,rfl⟩,rfl⟩
 ·have b0:((A.length:Int)==0)=false:=by rw[beq_eq_false_iff_ne];omega
  by_cases h1:A.length<=p
  ·have f1:((A.length:Int)<=(p:Int))=True:=eq_true (by omega)
   have e1:IntKind.i64.wrap ((A.length:Int) - 1)=((A.length - 1:Nat):Int):=by rw[Ed (by omega)];omega
   obtain⟨x,hx⟩:∃ x,A[A.length - 1]?=some x:=⟨_,Aw (by omega)⟩
   have hx':=Aba hx
   simp only[go_sem,Zq,LZ,K5,b0,ge_iff_le,f1,e1,hx']
   exact T2 rfl ⟨rfl,rfl⟩ hp ⟨⟨_,rfl⟩,rfl⟩
  ·have f1:((A.length:Int)<=(p:Int))=False:=eq_false (by omega)
   obtain⟨x,hx⟩:∃ x,A[p]?=some x:=⟨_,Aw (by omega)⟩
   have hx':=Aba hx
   simp only[go_sem,Zq,LZ,K5,b0,ge_iff_le,f1]
   refine Ax (by kernel_rfl) ?_
   simp only[go_sem,Zq,LZ,K5,hx']
   exact T2 rfl ⟨rfl,rfl⟩ hp ⟨⟨_,rfl⟩,rfl⟩
/-! SameExpr -/
/-! the maker -/
end Go.Proofs.YtcoeikinocflnaaGreatDoor.KM
