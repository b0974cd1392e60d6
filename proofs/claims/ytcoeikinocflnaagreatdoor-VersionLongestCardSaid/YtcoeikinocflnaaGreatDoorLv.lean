/- Walks: parse.Parse. -/
import Derived.Test.YtcoeikinocflnaaGreatDoorLu
import Derived.Test.YtcoeikinocflnaaGreatDoorLn
import Derived.Test.YtcoeikinocflnaaGreatDoorA5
set_option linter.all false
namespace Go.Proofs.YtcoeikinocflnaaGreatDoor.KM
open Go
def Yq(s:List UInt8)(v:V):Prop:=match M8 s with
 | some x=>v=.tup [.agg x.row,.int .i64 0,.int .i64 0]
 | none=>∃ e ln:Int,e≠0/\v=.tup [.agg [.nils,.nils],.int .i64 e,.int .i64 ln]
theorem A2n(x:Gp):x.row.all V.rowB=true:=by
 unfold Gp.row
 simp only[Am,Av,Tx]
 rfl
theorem Aqy(x:Gp):x.row=[SL x.dz x.dt (x.decls.map Dp.row),SL x.tz x.tt (x.thrs.map Tp.row)]:=rfl
theorem Aj9{a b:V}(h:[a,b].all V.rowB=true):a.cellB=true/\b.cellB=true:=by
 simp only[Am,Av,Y6,Ae]at h
 exact⟨Eb h.1,Eb h.2⟩
theorem Mx(s:List UInt8):∃ v,Fn TT PT 15 [.str s] v/\Yq s v:=by
 obtain⟨v1,hsc,hR⟩:=Auc s
 refine Aku T15 rfl ?_
 unfold Ach at hR
 unfold Yq M8
 by_cases hbig:4096<s.length
 ·rw[if_pos hbig]at hR ⊢
  obtain⟨e,ln,he,rfl⟩:=hR
  have ne:(e != 0)=true:=by simp[he]
  simp only[go_sem]
  refine An hsc (by simp only[go_sem]) ?_
  simp only[go_sem,ne]
  exact⟨.tup [.agg [.nils,.nils],.int .i64 e,.int .i64 ln],⟨_,rfl,Jq (by rfl)⟩,e,ln,he,rfl⟩
 ·rw[if_neg hbig]at hR ⊢
  cases hL:B1 s.length 1 s with
  | none=>
   rw[hL]at hR
   obtain⟨e,ln,he,rfl⟩:=hR
   have ne:(e != 0)=true:=by simp[he]
   simp only[go_sem]
   refine An hsc (by simp only[go_sem]) ?_
   simp only[go_sem,ne]
   exact⟨.tup [.agg [.nils,.nils],.int .i64 e,.int .i64 ln],⟨_,rfl,Jq (by rfl)⟩,e,ln,he,rfl⟩
  | some L=>
   rw[hL]at hR
   simp only at hR
   subst hR
   have hA:=Aqu (by omega) hL
   have hT:=Ra _ _ _ _ hL
   have ne:((0:Int) != 0)=false:=by decide
   have hl:L.length<=1000000:=by have:=hA.len;omega
   have h1:=Amw (s:=[.row [.nils,.nils] 27 0 0,RO true 0 L 0]) (m:=1) (z:=true) (t:=0) hA hT rfl
   obtain⟨v,q,c4,hq2,h3⟩:=h1
   have c4:Bk TT PT 46 [.ptr 1 0 0] [.row [.nils,.nils] 27 0 0,.row [SL true 0 (L.map Tk.row),.int .i64 0] 81 0 0] v [.row [.nils,.nils] 27 0 0,.row [SL true 0 (L.map Tk.row),.int .i64 (q:Int)] 81 0 0]:=c4
   simp only[go_sem]
   refine An hsc (by simp only[go_sem]) ?_
   simp only[go_sem,ne]
   unfold PRg at h3
   have hread:∀ x:List V,∃ n:Int,Bk TT PT 47 [.ptr 1 0 0] [.row [.nils,.nils] 27 0 0,.row [SL true 0 (L.map Tk.row),.int .i64 (q:Int)] 81 0 0,.row x 27 0 0] (.int .i64 n) [.row [.nils,.nils] 27 0 0,.row [SL true 0 (L.map Tk.row),.int .i64 (q:Int)] 81 0 0,.row x 27 0 0]:=fun x=>Auh (s:=[.row [.nils,.nils] 27 0 0,RO true 0 L q,.row x 27 0 0]) (m:=1) rfl hl hq2
   split at h3
   ·rename_i x r ho
    obtain⟨rfl,h3⟩:=h3
    have hxs:=A2n x
    have hr:=Aqy x
    rw[hr]at c4 hxs
    obtain⟨hx1,hx2⟩:=Aj9 hxs
    rw[ho]
    refine Ac c4 ?_
    simp only[go_sem]
    by_cases hq:q<L.length
    ·have f1:((q:Int)<(L.length:Int))=True:=eq_true (by omega)
     obtain⟨n,hln⟩:=hread [SL x.dz x.dt (x.decls.map Dp.row),SL x.tz x.tt (x.thrs.map Tp.row)]
     refine Ax (by kernel_rfl) ?_
     simp only[go_sem,K5,f1,hx1,hx2]
     refine Ac hln ?_
     simp only[go_sem]
     have hne:r≠[]:=fun e=>by
      rw[e]at h3
      have:=congrArg List.length h3
      rw[C5]at this
      simp at this
      omega
     refine⟨.tup [.agg [.nils,.nils],.int .i64 3,.int .i64 n],⟨_,rfl,Jq (by rfl)⟩,?_⟩
     cases r with
     | nil=>exact absurd rfl hne
     | cons a b=>exact⟨3,n,by decide,rfl⟩
    ·have f1:((q:Int)<(L.length:Int))=False:=eq_false (by omega)
     rw[J1 (by omega)]at h3
     subst h3
     refine Ax (by kernel_rfl) ?_
     simp only[go_sem,K5,f1,hx1,hx2]
     refine⟨.tup [.agg x.row,.int .i64 0,.int .i64 0],?_,rfl⟩
     rw[hr]
     exact⟨_,rfl,Jq (by simp only[go_sem,Nat.reduceEqDiff,reduceIte])⟩
   ·rename_i ho
    obtain⟨d0,d1,hd,rfl⟩:=h3
    obtain⟨hx1,hx2⟩:=Aj9 hd
    rw[ho]
    obtain⟨n,hln⟩:=hread [d0,d1]
    refine Ac c4 ?_
    simp only[go_sem,hx1,hx2]
    refine Ax (by kernel_rfl) ?_
    simp only[go_sem,K5]
    refine Ac hln ?_
    simp only[go_sem]
    exact⟨.tup [.agg [.nils,.nils],.int .i64 3,.int .i64 n],⟨_,rfl,Jq (by rfl)⟩,3,n,by decide,rfl⟩
section
variable {α:Type} [DecidableEq α]
def Bm:List α->List α->Nat
 | [],_=>0
 | _::_,[]=>0
 | a::s,b::t=>if a=b then 1+Bm s t else max (Bm s (b::t)) (Bm (a::s) t)
theorem Hr(t:List α):Bm [] t=0:=by rw[Bm]
theorem Ij(s:List α):Bm s []=0:=by cases s<;>rw[Bm]
theorem G0(a b:α)(s t:List α):Bm (a::s) (b::t)=if a=b then 1+Bm s t else max (Bm s (b::t)) (Bm (a::s) t):=by rw[Bm]
mutual
theorem Ux(a:α)(s t:List α):Bm s t<=Bm (a::s) t/\Bm (a::s) t<=Bm s t+1:=
 match s,t with
 | s,[]=>by rw[Ij,Ij];omega
 | [],b::t=>by
  have h:=Ux a [] t
  rw[Hr]at h ⊢
  rw[G0,Hr]
  split
  ·omega
  ·rw[Hr];omega
 | c::s,b::t=>by
  have h1:=Ux a (c::s) t
  have h2:=Uy b (c::s) t
  rw[G0 a b]
  split
  ·omega
  ·omega
termination_by s.length+t.length
theorem Uy(b:α)(s t:List α):Bm s t<=Bm s (b::t)/\Bm s (b::t)<=Bm s t+1:=
 match s,t with
 | [],t=>by rw[Hr,Hr];omega
 | a::s,[]=>by
  have h:=Uy b s []
  rw[Ij]at h ⊢
  rw[G0,Ij]
  split
  ·omega
  ·rw[Ij];omega
 | a::s,c::t=>by
  have h1:=Uy b s (c::t)
  have h2:=Ux a s (c::t)
  rw[G0 a b]
  split
  ·omega
  ·omega
termination_by s.length+t.length
end
theorem Aum(a b:α)(s t:List α):Bm (a::s) (b::t)=if a=b then max (max (Bm s (b::t)) (Bm (a::s) t)) (1+Bm s t) else max (Bm s (b::t)) (Bm (a::s) t):=by
 rw[G0]
 have h1:=Uy b s t
 have h2:=Ux a s t
 split<;>omega
theorem Ahm:∀ s:List α,Bm s s=s.length
 | []=>Hr _
 | a::s=>by rw[G0,if_pos rfl,Ahm s,Af];omega
theorem Uj:∀ (s t:List α),Bm s t<=s.length/\Bm s t<=t.length
 | [],t=>by rw[Hr];simp
 | a::s,[]=>by rw[Ij];simp
 | a::s,b::t=>by
  have h1:=Uj s t
  have h2:=Uj s (b::t)
  have h3:=Uj (a::s) t
  rw[G0]
  simp only[Af]at *
  split<;>omega
termination_by s t=>s.length+t.length
theorem Rb(x:α):∀ (s t:List α),Bm (s++[x]) (t++[x])=Bm s t+1
 | [],[]=>by rw[Bw,G0,if_pos rfl,Hr]
 | [],b::t=>by
  have h:=Rb x [] t
  rw[Hr]at h ⊢
  rw[Bw]at h ⊢
  rw[Cq,G0]
  split
  ·rw[Hr]
  ·rw[Hr,h];omega
 | a::s,[]=>by
  have h:=Rb x s []
  rw[Ij]at h ⊢
  rw[Bw]at h ⊢
  rw[Cq,G0]
  split
  ·rw[Ij]
  ·rw[Ij,h];omega
 | a::s,b::t=>by
  have h1:=Rb x s t
  have h2:=Rb x s (b::t)
  have h3:=Rb x (a::s) t
  rw[Cq]at h2 h3
  rw[Cq,Cq,G0,G0 a b]
  split
  ·omega
  ·rw[h2,h3];omega
termination_by s t=>s.length+t.length
def N3(a:α)(s t:List α)(k:Nat):Bool:=decide (t[k]?=some a)&&(1+Bm s (t.drop (k+1))==Bm (a::s) t)
def Iq(a:α)(s t:List α):Option Nat:=(List.range t.length).find? (N3 a s t)
def Bx:Nat->List α->List α->List Int
 | _,[],_=>[]
 | j,a::s,t=>match Iq a s t with
  | some k=>((j+k:Nat):Int)::Bx (j+k+1) s (t.drop (k+1))
  | none => -1::Bx j s t
theorem T4:∀ (s:List α) (j:Nat) (t:List α),(Bx j s t).length=s.length
 | [],_,_=>by rw[Bx];rfl
 | a::s,j,t=>by
  rw[Bx]
  split
  ·rw[Af,T4 s,Af]
  ·rw[Af,T4 s,Af]
theorem Aao{a:α}{s t:List α}{k:Nat}(h:Iq a s t=some k):k<t.length/\t[k]?=some a/\1+Bm s (t.drop (k+1))=Bm (a::s) t:=by
 have h1:=List.find?_some h
 have h2:=List.mem_of_find?_eq_some h
 unfold N3 at h1
 simp only[Ae,decide_eq_true_eq,beq_iff_eq]at h1
 exact⟨Ej.1 h2,h1.1,h1.2⟩
theorem Aqz{a:α}{s:List α}:∀ {t:List α},(∀ k,t[k]?=some a->1+Bm s (t.drop (k+1))≠Bm (a::s) t)->Bm (a::s) t=Bm s t:=by
 intro t h
 have h1:=Ux a s t
 suffices hh:∀ (t:List α),Bm (a::s) t=Bm s t\/∃ k,t[k]?=some a/\1+Bm s (t.drop (k+1))=Bm (a::s) t by
  rcases hh t with h2 | ⟨k,h2,h3⟩
  ·exact h2
  ·exact absurd h3 (h k h2)
 intro t
 induction t with
 | nil=>exact .inl (by rw[Ij,Ij])
 | cons b t ih=>
  rw[G0]
  by_cases e:a=b
  ·exact .inr ⟨0,by simp[e],by rw[if_pos e];rfl⟩
  ·rw[if_neg e]
   have h2:=Uy b s t
   by_cases hm:Bm s (b::t)>=Bm (a::s) t
   ·exact .inl (by omega)
   ·rcases ih with ih | ⟨k,h3,h4⟩
    ·omega
    ·exact .inr ⟨k+1,by simpa using h3,by rw[Vl,h4];omega⟩
theorem Z9:∀ (s:List α) (j:Nat) (t:List α),((Bx j s t).filter fun n=>decide (0<=n)).length=Bm s t
 | [],_,_=>by rw[Bx,Hr];rfl
 | a::s,j,t=>by
  rw[Bx]
  split
  ·rename_i k hk
   obtain⟨-,-,h3⟩:=Aao hk
   rw[Y1,if_pos (decide_eq_true (by omega)),Af,Z9 s]
   omega
  ·rename_i hn
   rw[Y1,if_neg (by simp),Z9 s]
   refine(Aqz fun k hk he=>?_).symm
   have h1:=List.find?_eq_none.1 hn k (Ej.2 (Au.1 hk).1)
   exact h1 (by unfold N3;simp[hk,he])
theorem Aq0(a:α)(s:List α):Iq a s (a::s)=some 0:=by
 unfold Iq
 rw[Af,List.range_succ_eq_map,List.find?_cons]
 have:N3 a s (a::s) 0=true:=by unfold N3;simp[Ahm];omega
 rw[this]
theorem Aap:∀ (s:List α) (j:Nat) (t:List α) (i:Nat) (n:Int),(Bx j s t)[i]?=some n->n = -1\/∃ k,n=((j+k:Nat):Int)/\k<t.length/\t[k]?=s[i]?/\∀ i' n',i'<i->(Bx j s t)[i']?=some n'->n'<n
 | [],_,_,i,n,h=>by rw[Bx]at h;simp at h
 | a::s,j,t,i,n,h=>by
  rw[Bx]at h ⊢
  split at h
  ·rename_i k hk
   obtain⟨h1,h2,-⟩:=Aao hk
   cases i with
   | zero=>
    simp at h
    exact .inr ⟨k,by omega,h1,by rw[h2];rfl,fun i' n' hi=>by omega⟩
   | succ i=>
    rw[J0]at h
    rcases Aap s (j+k+1) (t.drop (k+1)) i n h with h3 | ⟨m,rfl,h4,h5,h6⟩
    ·exact .inl h3
    ·rw[C5]at h4
     rw[Gl]at h5
     refine .inr ⟨k+1+m,by omega,by omega,by rw[h5,J0],fun i' n' hi hn=>?_⟩
     cases i' with
     | zero=>simp at hn;omega
     | succ i'=>rw[J0]at hn;exact h6 i' n' (by omega) hn
  ·rename_i hk
   cases i with
   | zero=>simp at h;exact .inl h.symm
   | succ i=>
    rw[J0]at h
    rcases Aap s j t i n h with h3 | ⟨m,rfl,h4,h5,h6⟩
    ·exact .inl h3
    ·refine .inr ⟨m,rfl,h4,by rw[h5,J0],fun i' n' hi hn=>?_⟩
     cases i' with
     | zero=>simp at hn;omega
     | succ i'=>rw[J0]at hn;exact h6 i' n' (by omega) hn
end
end Go.Proofs.YtcoeikinocflnaaGreatDoor.KM
