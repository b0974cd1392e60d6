/- Walks: the reference's texts of expressions. -/
import Derived.Test.YtlehfgdhebapeaaGreatDoorCb
import Derived.Test.YtlehfgdhebapeaaGreatDoorNu
set_option linter.all false
namespace Go.Proofs.YtlehfgdhebapeaaGreatDoor.KM
open Go
theorem cn_op{x:Xp}(h:Cn x):1≤x.op∧x.op≤18:=by
 cases h with
 | num _=>exact⟨by simp,by simp⟩
 | name=>exact⟨by simp,by simp⟩
 | idx _=>exact⟨by simp,by simp⟩
 | un h _=>simp only;omega
 | bin h _ _=>simp only;omega
theorem op_nat{op:Int}(h:1≤op∧op≤18):∃ i:Nat,i<18∧op=(i:Int)+1:=⟨(op - 1).toNat,by omega,by omega⟩
theorem op_runs:((List.range 18).all fun i=>match (bodyF (runD TT PT 300) af87 [.int .i64 ((i:Int)+1)] []).bind fun p=>back p.2 p.1 with
  | some (.agg [.str s,.int .i64 n])=>s==sgE ((i:Int)+1)&&n==lvE ((i:Int)+1)
  | _=>false)=true:=by kernel_rfl
theorem op_fn{op:Int}(h:1≤op∧op≤18):Fn TT PT 87 [.int .i64 op] (.agg [.str (sgE op),.int .i64 (lvE op)]):=by
 obtain⟨i,hi,rfl⟩:=op_nat h
 have hr:=List.all_eq_true.1 op_runs i (List.mem_range.2 hi)
 split at hr
 ·rename_i s n hv
  simp only[Bool.and_eq_true,beq_iff_eq]at hr
  rw[←hr.1,←hr.2]
  exact run_fnD hSt T87 rfl rfl hv
 ·cases hr
theorem sg_runs:((List.range 18).all fun i=>decide ((sgE ((i:Int)+1)).length≤2∧1≤lvE ((i:Int)+1)∧lvE ((i:Int)+1)≤7))=true:=by decide
theorem sg_len{op:Int}(h:1≤op∧op≤18):(sgE op).length≤2∧1≤lvE op∧lvE op≤7:=by
 obtain⟨i,hi,rfl⟩:=op_nat h
 exact of_decide_eq_true (List.all_eq_true.1 sg_runs i (List.mem_range.2 hi))
theorem xset(x:Xp):setC (.agg x.row)=true:=by
 rw[xrow_def]
 simp only[go_sem]
theorem bin_add{a b c:List UInt8}(h:a.length+b.length≤9223372036854775807)(hc:a++b=c):binS .add a b=some (.str c):=by
 simp only[binS]
 rw[if_pos h,hc]
theorem put_len(o:Int × List UInt8)(level:Int):o.2.length≤(putE o level).length∧(putE o level).length≤o.2.length+2:=by
 unfold putE
 split
 ·simp only[List.length_cons,List.length_append,List.length_nil];omega
 ·omega
end Go.Proofs.YtlehfgdhebapeaaGreatDoor.KM
/- Walks: the reference's texts of statements. -/
namespace Go.Proofs.YtlehfgdhebapeaaGreatDoor.KM
open Go
theorem srow_len(s:Sp):s.row.length=11:=by rw[srow_def,xrow_def];rfl
theorem sset(s:Sp):setC (.agg s.row)=true:=by
 rw[srow_def,xrow_def]
 simp only[go_sem]
theorem ind_len(d:Nat):(indE d).length=2*d:=by simp[indE]
theorem idxE_len(l:List Xp):(idxE l).length≤(match l with | a::_=>a.txt.length+2 | []=>0):=by
 cases l<;>simp[idxE]
theorem stxts_cons(d:Nat)(x:Sp)(l:List Sp):Sp.txts d (x::l)=x.txt d++Sp.txts d l:=by rw[Sp.txts]
theorem stxt_eq(d:Nat)(s:Sp):s.txt d=indE d++(headE s++if bodyE s.op then 32::123::10::(Sp.txts (d+1) s.body++((if s.els.isEmpty then [] else indE d++125::32::101::108::115::101::32::123::10::Sp.txts (d+1) s.els)++(indE d++[125,10]))) else [59,10]):=by
 obtain⟨op,line,nm,arg,iz,it,idx,ex,bz,bt,body,ez,et,els⟩:=s
 rw[Sp.txt]
theorem list_bound(l:List Sp)(d:Nat):l.length≤(Sp.txts d l).length:=by
 induction l with
 | nil=>simp
 | cons x l ih=>
  rw[stxts_cons,List.length_append,stxt_eq]
  simp only[List.length_append,List.length_cons]
  split
  ·simp;omega
  ·simp;omega
end Go.Proofs.YtlehfgdhebapeaaGreatDoor.KM
/- Walks: the reference's texts of declarations and programs. -/
namespace Go.Proofs.YtlehfgdhebapeaaGreatDoor.KM
open Go
theorem dec_le:∀ (k u:Nat),(decE k u).length≤k
 | 0,_=>by simp[decE]
 | k+1,u=>by
  have:=dec_le k (u / 10)
  unfold decE
  split
  ·simp
  ·simp;omega
theorem itoa_le(n:Int):(itoaE n).length≤21:=by
 unfold itoaE
 split
 ·have:=dec_le 20 n.natAbs
  simp;omega
 ·have:=dec_le 20 n.toNat
  omega
theorem declE_in{d:Dp}(h:1≤d.kind∧d.kind≤6):d.nm.length≤(declE d).length∧(d.kind=5→d.on.length≤(declE d).length):=by
 unfold declE
 refine⟨?_,fun h5=>?_⟩
 ·repeat' split
  all_goals simp
  all_goals omega
 ·rw[if_neg (by omega),if_neg (by omega),if_neg (by omega),if_neg (by omega),if_pos h5]
  simp
  omega
def jr:List (List UInt8)→List UInt8
 | []=>[]
 | a::l=>44::32::(a++jr l)
theorem join_jr:∀ (a:List UInt8) (l:List (List UInt8)),joinE (a::l)=a++jr l
 | a,[]=>by simp[joinE,jr]
 | a,b::l=>by rw[joinE,join_jr b l,jr]
theorem locals_len(l:List (List UInt8)):l.length≤(joinE l).length+1:=by
 have:∀ l:List (List UInt8),l.length≤(jr l).length:=fun l=>by
  induction l with
  | nil=>simp
  | cons a l ih=>simp[jr];omega
 cases l with
 | nil=>simp
 | cons a l=>rw[join_jr];have:=this l;simp;omega
theorem flatE_count{α:Type}(f:α→List UInt8)(hf:∀ x,1≤(f x).length):∀ l:List α,l.length≤((l.map f).flatten).length
 | []=>by simp
 | y::l=>by
  have:=flatE_count f hf l
  have:=hf y
  rw[List.map_cons,List.flatten_cons,List.length_append,List.length_cons]
  omega
end Go.Proofs.YtlehfgdhebapeaaGreatDoor.KM
/- Walks: strings.Builder. -/
namespace Go.Proofs.YtlehfgdhebapeaaGreatDoor.KM
open Go
theorem brows_len(l:List UInt8):∀ r∈byteRows l,r.length=1:=by
 intro r hr
 obtain⟨c,_,rfl⟩:=List.mem_map.1 hr
 rfl
theorem brows_app(a b:List UInt8):byteRows (a++b)=byteRows a++byteRows b:=List.map_append ..
theorem brows_n(a:List UInt8):(byteRows a).length=a.length:=List.length_map ..
theorem rowsByte_rows:∀ l:List UInt8,rowsByte (byteRows l)=some l
 | []=>rfl
 | c::l=>by
  have h:c.toNat<256:=c.toNat_lt
  have:=rowsByte_rows l
  simp only[byteRows,List.map_cons,rowsByte]at this ⊢
  rw[if_pos (by omega),this]
  simp
theorem byte_refs(l:List UInt8):refsL (byteRows l).flatten=[]:=by
 refine refsL_row (rows_all fun r hr=>?_)
 obtain⟨c,_,rfl⟩:=List.mem_map.1 hr
 rfl
theorem apps_app(ty:Nat)(x:V)(l:List UInt8)(σ:St):appsV ty x (.str l) σ=appV 1 (1,ty) x (.lst 1 (byteRows l)) σ:=rfl
theorem lt_of_get{s:St}{j:Nat}{x:Ob}(h:s[j]?=some x):j<s.length:=(List.getElem?_eq_some_iff.1 h).1
def BL(s:St)(b:Nat)(u:V)(l:List UInt8):Prop:=∃ p,s[b]?=some (.row [p,u] 84 0 0)∧(p=.nilp∨p=.ptr b 0 0)∧GW s 1 5 (b+1) u (byteRows l)
theorem bl_refs{s:St}{b:Nat}{u:V}{l:List UInt8}(h:BL s b u l):∀ i∈u.refs,i<s.length:=by
 obtain⟨p,_,_,hg⟩:=h
 exact gw_refs hg
theorem bl_push{s J:St}{b:Nat}{u:V}{l:List UInt8}(h:BL s b u l):BL (s++J) b u l:=by
 obtain⟨p,h1,h2,h3⟩:=h
 exact⟨p,get_app_some h1,h2,gw_push h3⟩
theorem cl_row{s:St}{cs:List V}{t:Nat}(h:Cl s)(hr:cs.all V.rowB=true):Cl (s++[.row cs t 0 0]):=cl_push h (by simp only[Ob.refs,refsL_row hr];simp)
theorem write_th{s:St}{b:Nat}{u:V}{l:List UInt8}(t:List UInt8)(h:BL s b u l)(hc:Cl s)(hb:l.length+t.length≤100000000000000):
  ∃ s' u',Th TT PT 34 [.ptr b 0 0,.str t] s (.tup [.int .i64 (t.length:Int),.nili]) s'∧BL s' b u' (l++t)∧Cl s'∧s.length≤s'.length∧∀ j,j≠b→j ∉ u.refs→j<s.length→s'[j]?=s[j]?:=by
 have hbr:=bl_refs h
 obtain⟨p,hs,hp,hg⟩:=h
 have hbl:b<s.length:=lt_of_get hs
 have h1:∃ s1,ccS 84 [.ptr b 0 0] s=some (.tup [],s1)∧s1[b]?=some (.row [.ptr b 0 0,u] 84 0 0)∧GW s1 1 5 (b+1) u (byteRows l)∧s1.length=s.length∧Cl s1∧∀ j,j≠b→s1[j]?=s[j]?:=by
  rcases hp with rfl | rfl
  ·refine⟨s.set b (.row [.ptr b 0 0,u] 84 0 0),?_,by rw[List.getElem?_set_self hbl],gw_set hg (by omega),by simp,cl_set hc ?_,fun j hj=>by rw[List.getElem?_set_ne (by omega)]⟩
   ·simp[ccS,hs]
   ·intro i hi
    simp only[Ob.refs,refsL,V.refs,List.append_nil,List.mem_append,List.mem_singleton]at hi
    rcases hi with rfl | hi
    ·exact hbl
    ·exact hbr i hi
  ·exact⟨s,by simp[ccS,hs],hs,hg,rfl,hc,fun _ _=>rfl⟩
 obtain⟨s1,e1,q1,g1,l1,c1,f1⟩:=h1
 obtain⟨u2,s2,e2,g2,l2,fo,f2⟩:=gw_app (bytes:=1) (y:=.lst 1 (byteRows t)) (ys:=byteRows t) g1 (by omega) rfl (by omega) (brows_len l) (brows_len t) (by rw[brows_n,brows_n];omega)
 rw[←brows_app]at g2
 have q2:=(f2 b (by omega)).trans q1
 have c2:Cl s2∧∀ i∈u2.refs,i<s2.length:=⟨gw_app_cl g1 rfl e2 (byte_refs l) (byte_refs t) c1,gw_refs g2⟩
 have c3:Cl (s2.set b (.row [.ptr b 0 0,u2] 84 0 0)):=by
  refine cl_set c2.1 ?_
  intro i hi
  simp only[Ob.refs,refsL,V.refs,List.append_nil,List.mem_append,List.mem_singleton]at hi
  rcases hi with rfl | hi
  ·omega
  ·exact c2.2 i hi
 refine⟨s2.set b (.row [.ptr b 0 0,u2] 84 0 0),u2,Th_all T34 rfl ?_ rfl rfl (by simp;omega) c3,⟨.ptr b 0 0,by rw[List.getElem?_set_self (by omega)],.inr rfl,gw_set g2 (by omega)⟩,c3,by simp;omega,fun j hj hu hl=>?_⟩
 ·simp only[go_sem]
  refine wx_call (.spec T69 rfl rfl e1) ?_
  simp only[go_sem,q1,apps_app,e2,q2,cells1 (gw_cell g2),gw_cell g2]
  exact⟨rfl,rfl⟩
 ·rw[List.getElem?_set_ne (by omega),fo j ?_ (by omega),f1 j hj]
  intro i g hi hji
  subst hji
  exact hu (by rw[hi];simp[V.refs])
theorem bl_str{s:St}{b:Nat}{u:V}{l:List UInt8}(h:BL s b u l):∃ s',strS 84 5 [.ptr b 0 0] s=some (.str l,s'):=by
 obtain⟨p,hs,hp,hg⟩:=h
 rcases hg with⟨rfl,hl⟩ | ⟨hn,i,g,rfl,ho,hlo⟩
 ·have:l=[]:=by simpa[byteRows] using hl
  subst this
  exact⟨s,by simp[strS,hs]⟩
 ·have hpos:0<(byteRows l).length:=List.length_pos_iff.2 hn
  have hch:chop 1 (byteRows l).length (byteRows l).flatten=byteRows l:=chopL_flat (brows_len l)
  have hfl:=flatL_len (brows_len l)
  refine⟨s.set i .dead,?_⟩
  simp only[strS,hs,ho]
  rw[if_pos ⟨trivial,trivial,hpos⟩,if_pos ⟨trivial,trivial,by omega⟩,hch,rowsByte_rows]
  rfl
end Go.Proofs.YtlehfgdhebapeaaGreatDoor.KM
