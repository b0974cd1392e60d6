/- Walks: the law of the round trip of programs. -/
import Derived.Test.YtlehfgdhebapeaaGreatDoorLy
import Derived.Test.YtlehfgdhebapeaaGreatDoorLv
import Derived.Test.YtlehfgdhebapeaaGreatDoorLh
import Derived.Test.YtlehfgdhebapeaaGreatDoorLe
import Derived.Test.YtlehfgdhebapeaaGreatDoorHf
import Derived.Test.YtlehfgdhebapeaaGreatDoorGh
set_option linter.all false
namespace Go.Proofs.YtlehfgdhebapeaaGreatDoor.KM
open Go
theorem flatG_ge{α:Type}{f:α→List UInt8}:∀ {l:List α},(∀ x∈l,1≤(f x).length)→l.length≤((l.map f).flatten).length
 | [],_=>by simp
 | x::l,h=>by
  have h1:=h x List.mem_cons_self
  have h2:=flatG_ge (l:=l) fun y hy=>h y (List.mem_cons_of_mem _ hy)
  rw[List.map_cons,List.flatten_cons,List.length_append,List.length_cons]
  omega
theorem flatG_mem{α:Type}{f:α→List UInt8}:∀ {l:List α} {x:α},x∈l→(f x).length≤((l.map f).flatten).length
 | y::l,x,h=>by
  rw[List.map_cons,List.flatten_cons,List.length_append]
  rcases List.mem_cons.1 h with rfl | h
  ·omega
  ·have:=flatG_mem (f:=f) h
   omega
theorem join_ge:∀ l:List (List UInt8),l.length≤(joinE l).length+1
 | []=>by simp
 | [a]=>by simp
 | a::b::l=>by
  have:=join_ge (b::l)
  simp only[joinE,List.length_append,List.length_cons]at this ⊢
  omega
theorem prog_bounds{p:Gp}{n:Nat}(h:(progE p).length≤n):p.decls.length≤n∧p.thrs.length≤n∧∀ t∈p.thrs,t.locals.length≤n+1:=by
 unfold progE at h
 rw[List.length_append]at h
 have h1:=flatG_ge (f:=fun d:Dp=>declE d++[59,10]) (l:=p.decls) fun d _=>by simp
 have h2:=flatG_ge (f:=thrE) (l:=p.thrs) fun t _=>by unfold thrE;simp
 refine⟨by omega,by omega,fun t ht=>?_⟩
 have h3:=flatG_mem (f:=thrE) ht
 have h4:(joinE t.locals).length≤(thrE t).length:=by
  unfold thrE
  simp only[List.length_append,List.length_cons,List.length_nil]
  omega
 have h5:=join_ge t.locals
 omega
theorem same_rsg{p q:Gp}(h:ShG p)(hl:(progE p).length≤4096)(hz:∀ t∈p.thrs,Sp.szs t.body≤1000000):sSG [.agg p.row,.agg q.row,.bool false]=some (.bool (sameG p q)):=by
 obtain⟨h1,h2,h3⟩:=prog_bounds hl
 exact ssg_of ⟨p,q,h,⟨by omega,by omega,fun t ht=>⟨hz t ht,by have:=h3 t ht;omega⟩⟩,rfl,rfl⟩
theorem lawProgRT_fn(z:Bool)(t:Nat)(l:List UInt8)(hl:l.length≤9223372036854775807):Fn TT prG 3 [SL z t (byteRows l)] (.bool true):=by
 refine Fn_go T3 rfl ?_
 have n1:=brows_n l
 by_cases h300:300<l.length
 ·have f1:((300:Int)<(l.length:Int))=True:=eq_true (by omega)
  simp only[go_sem,n1,f1,gt_iff_lt]
  exact fr_eq rfl rfl
 have f1:((300:Int)<(l.length:Int))=False:=eq_false (by omega)
 obtain⟨p,q1,hsh,hlen,hsz⟩:=loose_fn z t l hl
 have q2:=fn_mono prG_pt (fprog_fn (shg_cn hsh) (by omega) fun t ht=>by have:=hsz t ht;omega)
 have q1:=fn_mono prG_pt q1
 have hpr:=grow_def p
 have hps:=gset p
 rw[hpr]at q1 q2 hps
 obtain⟨hx1,hx2⟩:=cells2 hps
 simp only[go_sem,n1,f1,gt_iff_lt]
 refine wx_fn q1 (by simp only[go_sem]) ?_
 simp only[go_sem,hx1,hx2]
 refine wx_fn q2 (by simp only[go_sem]) ?_
 by_cases hbig:4096<(progE p).length
 ·have f2:((4096:Int)<((progE p).length:Int))=True:=eq_true (by omega)
  simp only[go_sem,f2,gt_iff_lt]
  exact fr_eq rfl rfl
 have f2:((4096:Int)<((progE p).length:Int))=False:=eq_false (by omega)
 obtain⟨p',hp',hsame⟩:=parse_text dig_rt num_rt hsh (by omega)
 obtain⟨v,q3,hv⟩:=parse_fn (progE p)
 unfold PaR at hv
 rw[hp']at hv
 simp only at hv
 subst hv
 have q3:=fn_mono prG_pt q3
 have hpr':=grow_def p'
 have hps':=gset p'
 have q4:=same_rsg (q:=p') hsh (by omega) hsz
 rw[hsame,hpr,hpr']at q4
 rw[hpr']at q3 hps'
 obtain⟨hy1,hy2⟩:=cells2 hps'
 simp only[go_sem,f2,gt_iff_lt]
 refine wx_fn q3 (by simp only[go_sem]) ?_
 simp only[go_sem,hy1,hy2,Int.reduceBEq]
 refine wx_pr prG_same (by simp only[go_sem]) q4 ?_
 simp only[go_sem]
 exact fr_eq rfl rfl
end Go.Proofs.YtlehfgdhebapeaaGreatDoor.KM
