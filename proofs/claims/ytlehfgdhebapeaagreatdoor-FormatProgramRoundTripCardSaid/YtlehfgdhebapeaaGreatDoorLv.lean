/- Walks: parse.Parse. -/
import Derived.Test.YtlehfgdhebapeaaGreatDoorLu
import Derived.Test.YtlehfgdhebapeaaGreatDoorLn
set_option linter.all false
namespace Go.Proofs.YtlehfgdhebapeaaGreatDoor.KM
open Go
def PaR(s:List UInt8)(v:V):Prop:=match parseE s with
 | some x=>v=.tup [.agg x.row,.int .i64 0,.int .i64 0]
 | none=>∃ e ln:Int,e≠0∧v=.tup [.agg [.nils,.nils],.int .i64 e,.int .i64 ln]
theorem gset(x:Gp):x.row.all V.rowB=true:=by
 unfold Gp.row
 simp only[List.all_cons,List.all_nil,sl_rowB]
 rfl
theorem grow_def(x:Gp):x.row=[SL x.dz x.dt (x.decls.map Dp.row),SL x.tz x.tt (x.thrs.map Tp.row)]:=rfl
theorem cells2{a b:V}(h:[a,b].all V.rowB=true):a.cellB=true∧b.cellB=true:=by
 simp only[List.all_cons,List.all_nil,Bool.and_true,Bool.and_eq_true]at h
 exact⟨row_cell h.1,row_cell h.2⟩
theorem parse_fn(s:List UInt8):∃ v,Fn TT PT 10 [.str s] v∧PaR s v:=by
 obtain⟨v1,hsc,hR⟩:=scan_fn s
 refine fn_ex T10 rfl ?_
 unfold ScanR at hR
 unfold PaR parseE
 by_cases hbig:4096<s.length
 ·rw[if_pos hbig]at hR ⊢
  obtain⟨e,ln,he,rfl⟩:=hR
  have ne:(e != 0)=true:=by simp[he]
  simp only[go_sem]
  refine wx_fn hsc (by simp only[go_sem]) ?_
  simp only[go_sem,ne]
  exact⟨.tup [.agg [.nils,.nils],.int .i64 e,.int .i64 ln],⟨_,rfl,fr_tup (by rfl)⟩,e,ln,he,rfl⟩
 ·rw[if_neg hbig]at hR ⊢
  cases hL:scanE s.length 1 s with
  | none=>
   rw[hL]at hR
   obtain⟨e,ln,he,rfl⟩:=hR
   have ne:(e != 0)=true:=by simp[he]
   simp only[go_sem]
   refine wx_fn hsc (by simp only[go_sem]) ?_
   simp only[go_sem,ne]
   exact⟨.tup [.agg [.nils,.nils],.int .i64 e,.int .i64 ln],⟨_,rfl,fr_tup (by rfl)⟩,e,ln,he,rfl⟩
  | some L=>
   rw[hL]at hR
   simp only at hR
   subst hR
   have hA:=scan_oka (by omega) hL
   have hT:=scan_ok _ _ _ _ hL
   have ne:((0:Int) != 0)=false:=by decide
   have hl:L.length≤1000000:=by have:=hA.len;omega
   have h1:=pprog_step (s:=[.row [.nils,.nils] 26 0 0,RO true 0 L 0]) (m:=1) (z:=true) (t:=0) hA hT rfl
   obtain⟨v,q,c4,hq2,h3⟩:=h1
   have c4:ThP TT PT 40 [.ptr 1 0 0] [.row [.nils,.nils] 26 0 0,.row [SL true 0 (L.map Tk.row),.int .i64 0] 100 0 0] v [.row [.nils,.nils] 26 0 0,.row [SL true 0 (L.map Tk.row),.int .i64 (q:Int)] 100 0 0]:=c4
   simp only[go_sem]
   refine wx_fn hsc (by simp only[go_sem]) ?_
   simp only[go_sem,ne]
   unfold PRg at h3
   have hread:∀ x:List V,∃ n:Int,ThP TT PT 41 [.ptr 1 0 0] [.row [.nils,.nils] 26 0 0,.row [SL true 0 (L.map Tk.row),.int .i64 (q:Int)] 100 0 0,.row x 26 0 0] (.int .i64 n) [.row [.nils,.nils] 26 0 0,.row [SL true 0 (L.map Tk.row),.int .i64 (q:Int)] 100 0 0,.row x 26 0 0]:=fun x=>line_th (s:=[.row [.nils,.nils] 26 0 0,RO true 0 L q,.row x 26 0 0]) (m:=1) rfl hl hq2
   split at h3
   ·rename_i x r ho
    obtain⟨rfl,h3⟩:=h3
    have hxs:=gset x
    have hr:=grow_def x
    rw[hr]at c4 hxs
    obtain⟨hx1,hx2⟩:=cells2 hxs
    rw[ho]
    refine wx_any c4 ?_
    simp only[go_sem]
    by_cases hq:q<L.length
    ·have f1:((q:Int)<(L.length:Int))=True:=eq_true (by omega)
     obtain⟨n,hln⟩:=hread [SL x.dz x.dt (x.decls.map Dp.row),SL x.tz x.tt (x.thrs.map Tp.row)]
     refine w_drw (by kernel_rfl) ?_
     simp only[go_sem,toks_n,f1,hx1,hx2]
     refine wx_any hln ?_
     simp only[go_sem]
     have hne:r≠[]:=fun e=>by
      rw[e]at h3
      have:=congrArg List.length h3
      rw[List.length_drop]at this
      simp at this
      omega
     refine⟨.tup [.agg [.nils,.nils],.int .i64 3,.int .i64 n],⟨_,rfl,fr_tup (by rfl)⟩,?_⟩
     cases r with
     | nil=>exact absurd rfl hne
     | cons a b=>exact⟨3,n,by decide,rfl⟩
    ·have f1:((q:Int)<(L.length:Int))=False:=eq_false (by omega)
     rw[List.drop_eq_nil_of_le (by omega)]at h3
     subst h3
     refine w_drw (by kernel_rfl) ?_
     simp only[go_sem,toks_n,f1,hx1,hx2]
     refine⟨.tup [.agg x.row,.int .i64 0,.int .i64 0],?_,rfl⟩
     rw[hr]
     exact⟨_,rfl,fr_tup (by simp only[go_sem,Nat.reduceEqDiff,reduceIte])⟩
   ·rename_i ho
    obtain⟨d0,d1,hd,rfl⟩:=h3
    obtain⟨hx1,hx2⟩:=cells2 hd
    rw[ho]
    obtain⟨n,hln⟩:=hread [d0,d1]
    refine wx_any c4 ?_
    simp only[go_sem,hx1,hx2]
    refine w_drw (by kernel_rfl) ?_
    simp only[go_sem,toks_n]
    refine wx_any hln ?_
    simp only[go_sem]
    exact⟨.tup [.agg [.nils,.nils],.int .i64 3,.int .i64 n],⟨_,rfl,fr_tup (by rfl)⟩,3,n,by decide,rfl⟩
end Go.Proofs.YtlehfgdhebapeaaGreatDoor.KM
