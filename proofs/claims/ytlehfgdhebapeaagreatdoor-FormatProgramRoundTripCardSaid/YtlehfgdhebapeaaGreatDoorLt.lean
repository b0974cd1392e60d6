/- Walks: the parser's threads. -/
import Derived.Test.YtlehfgdhebapeaaGreatDoorLs
set_option linter.all false
namespace Go.Proofs.YtlehfgdhebapeaaGreatDoor.KM
open Go
theorem freeze_low:∀ (js:List Nat) (σ:St) (n:Nat),(∀ i∈js,n≤i)→∀ j,j<n→(σ.freeze js)[j]?=σ[j]?
 | [],_,_,_,_,_=>rfl
 | i::js,σ,n,h,j,hj=>by
  have hi:=h i List.mem_cons_self
  simp only[St.freeze]
  split
  ·rw[freeze_low js _ n (fun k hk=>h k (List.mem_cons_of_mem _ hk)) j hj,List.getElem?_set_ne (by omega)]
  ·exact freeze_low js _ n (fun k hk=>h k (List.mem_cons_of_mem _ hk)) j hj
theorem rg_fin{z:Bool}{t:Nat}{A:List Tk}{f m q0:Nat}{res:List AR}{thr:Bool}{body:AC}{s:St}{R:V→Nat→Prop}(hT:TT f=some ⟨1,res,thr,body,none⟩)(hs:s[m]?=some (RO z t A q0))
  (h:∀ S,RdS s m z t A S→W TT PT [.c body] (parEnv 0 [.ptr m 0 0]) (S q0) (Hd fun e' σ1=>∃ vs vs' q,resV e' σ1 res=some (.tup vs)∧vs.all okRes1=true∧OVs σ1 vs vs'∧(∀ j∈refsL vs,s.length≤j)∧refsL vs'=[]∧RW s σ1 m z t A q∧q≤A.length∧R (.tup vs') q)):RT f [] s m z t A R:=by
 have h:=h _ (rd_open z t A (List.getElem?_eq_some_iff.1 hs).1)
 rw[st_same hs]at h
 obtain⟨e',σ1,hE,vs,vs',q,hr,hok,hov,hlo,hre,hw,hq,hR⟩:=h
 have hfr:=freeze_low (refsL vs) σ1 s.length hlo
 have hw2:RW s (σ1.freeze (refsL vs)) m z t A q:=rw_same hw (by rw[freeze_len];exact hw.1) hfr
 refine⟨_,q,?_,hq,hR⟩
 rw[←rw_take hw2]
 refine ThS_intro hT rfl rfl ⟨e',σ1,hE,.tup vs,refsL vs,hr,hok,?_,?_,rw_left hw2,rfl⟩
 ·exact congrArg (Option.map V.tup) (ovs_map hov fun j hj=>hj)
 ·show within s.length [] (refsL vs')=true
  rw[hre];rfl
theorem rw_S{s:St}{m:Nat}{z:Bool}{t:Nat}{A:List Tk}{S:Nat→St}(hS:RdS s m z t A S){p0:Nat}(hs:s[m]?=some (RO z t A p0))(q:Nat)(l:St):RW s (S q++l) m z t A q:=by
 rw[hS.eq]
 exact rw_push (rw_set (rw_refl hs) q)
theorem rw_setn{s σ:St}{m:Nat}{z:Bool}{t:Nat}{A:List Tk}{q j:Nat}{x:Ob}(h:RW s σ m z t A q)(hj:s.length≤j):RW s (σ.set j x) m z t A q:=by
 have:=h.2.2.2
 exact rw_same h (by rw[List.length_set];exact h.1) fun i hi=>List.getElem?_set_ne (by omega)
theorem cell_cells{v:V}(h:v.cellB=true):v.cells=[v]∧[v].all V.cellB=true:=⟨by cases v<;>simp[V.cellB]at h<;>rfl,by simp only[List.all_cons,List.all_nil,h];rfl⟩
def PRt(A:List Tk)(o:Option (Tp × List Tk))(v:V)(p':Nat):Prop:=match o with
 | some (x,r)=>v=.tup [.agg x.row,.bool true]∧A.drop p'=r
 | none=>∃ d0 d1 d2 d3:V,[d0,d1,d2,d3].all V.rowB=true∧v=.tup [.agg [d0,d1,d2,d3],.bool false]
def sRow(s:List UInt8):List V:=[.str s]
theorem srow_rowB(L:List (List UInt8)):(SL true 0 (L.map sRow)).rowB=true:=by
 unfold SL
 split<;>rfl
theorem sl_refs(z:Bool)(t:Nat)(xs:List (List V)):(SL z t xs).refs=[]:=by unfold SL;split<;>rfl
theorem thr_ovs{σ:St}{e lo:Nat}{u:V}{L:List (List UInt8)}{nm:List UInt8}{ln:Int}{w:V}{b:Bool}(hg:GW σ 1 e lo u (L.map sRow))(hw:w.rowB=true):OVs σ [.agg [.str nm,.int .i64 ln,u,w],.bool b] [.agg [.str nm,.int .i64 ln,SL true 0 (L.map sRow),w],.bool b]:=
 .cons (ov_agg (.cons (oc_row rfl) (.cons (oc_row rfl) (.cons (gw_oc hg (by omega) (by intro r hr;obtain⟨x,-,rfl⟩:=List.mem_map.1 hr;rfl) (by intro r hr;obtain⟨x,-,rfl⟩:=List.mem_map.1 hr;rfl)) (.cons (oc_row hw) .nil))))) (.cons (ov_set rfl) .nil)
theorem thr_lo{σ:St}{e lo:Nat}{u:V}{xs:List (List V)}{nm:List UInt8}{ln:Int}{w:V}{b:Bool}(hg:GW σ 1 e lo u xs)(hw:w.rowB=true):∀ j∈refsL [.agg [.str nm,.int .i64 ln,u,w],.bool b],lo≤j:=by
 have hwr:=rowB_refs hw
 intro j hj
 simp only[refsL,V.refs,hwr,List.append_nil,List.nil_append]at hj
 rcases hg with⟨rfl,-⟩ | ⟨-,i,g,rfl,-,hlo⟩
 ·cases hj
 ·simp only[V.refs,List.mem_singleton]at hj
  omega
theorem thr_ok{σ:St}{e lo:Nat}{u:V}{xs:List (List V)}{nm:List UInt8}{ln:Int}{w:V}{b:Bool}(hg:GW σ 1 e lo u xs)(hw:w.rowB=true):[V.agg [.str nm,.int .i64 ln,u,w],.bool b].all okRes1=true:=by
 have h1:=gw_cell hg
 have h2:=row_cell hw
 show([V.str nm,.int .i64 ln,u,w].all V.cellB&&(okRes1 (.bool b)&&true))=true
 rw[show([V.str nm,.int .i64 ln,u,w].all V.cellB)=true from by simp only[List.all_cons,List.all_nil,h1,h2];rfl]
 rfl
theorem thr_re{L:List (List UInt8)}{nm:List UInt8}{ln:Int}{w:V}{b:Bool}(hw:w.rowB=true):refsL [.agg [.str nm,.int .i64 ln,SL true 0 (L.map sRow),w],.bool b]=[]:=by
 simp only[refsL,V.refs,sl_refs,rowB_refs hw,List.append_nil]
set_option maxHeartbeats 4000000 in
theorem pthr_step{n:Nat}{s:St}{m:Nat}{z:Bool}{t:Nat}{A:List Tk}{p:Nat}(hA:OkA A)(hT:TokOk A)(hs:s[m]?=some (RO z t A p))(hp:p<A.length)(hf:10*(A.length - p)+2≤n):RT 82 [] s m z t A (PRt A (pThr n (A.drop p))):=by
 have hl:A.length≤1000000:=by have:=hA.len;omega
 have hm:=(List.getElem?_eq_some_iff.1 hs).1
 refine rg_fin T82 hs fun S hS=>?_
 have hS':=hS
 have hrwS:=rw_S hS' hs
 have hnx:=nxt_th (hS'.get p [.row [.str [],.int .i64 0,.nils,.nils] 80 0 0]) hl (Nat.le_of_lt hp)
 have hinq:=inc64 (show p<9223372036854775807 by omega)
 have hp1:p+1≤A.length:=hp
 rw[tok_at hp,pThr]
 generalize htk:tokAt A p=tk at hnx
 cases hn:pName (A.drop (p+1)) with
 | none=>
  have c1:=nm_f hS' (p:=p+1) [.row [.str [],.int .i64 0,.nils,.nils] 80 0 0,.row [.str [],.int .i64 tk.line,.nils,.nils] 80 0 0] hl hp1 hn
  obtain⟨-,-,hlen,get,get0,set,set0,n0,n1,n2,u0,u1,u2⟩:=hS
  simp only[go_sem,hlen,get,get0,set,set0,n0,n1,n2,u0,u1,u2,LZ]
  refine wx_any hnx ?_
  simp only[go_sem,hlen,get,get0,set,set0,n0,n1,n2,u0,u1,u2,LZ,hinq]
  refine wx_any c1 ?_
  simp only[go_sem,hlen,get,get0,set,set0,n0,n1,n2,u0,u1,u2,LZ]
  exact⟨_,_,_,res2 (n0 _ _ _) rfl rfl rfl,rfl,.cons (ov_set rfl) (.cons (ov_set rfl) .nil),(fun j hj=>by cases hj),rfl,hrwS _ _,hp1,_,_,_,_,rfl,rfl⟩
 | some nt=>
  obtain⟨nm,ts⟩:=nt
  obtain⟨c1,hlt1,h3⟩:=nm_t hS' (p:=p+1) [.row [.str [],.int .i64 0,.nils,.nils] 80 0 0,.row [.str [],.int .i64 tk.line,.nils,.nils] 80 0 0] hl hp1 hn
  simp only
  rw[←h3]
  unfold pTok
  have hp2:p+1+1≤A.length:=hlt1
  by_cases h40:isT [40] (A.drop (p+1+1))=true
  case neg=>
   have h40:isT [40] (A.drop (p+1+1))=false:=by simpa using h40
   rw[if_neg (by rw[h40];decide)]
   have c2:=acc_fs hS' (p:=p+1+1) [.row [.str [],.int .i64 0,.nils,.nils] 80 0 0,.row [.str nm,.int .i64 tk.line,.nils,.nils] 80 0 0] hl hp2 h40
   obtain⟨-,-,hlen,get,get0,set,set0,n0,n1,n2,u0,u1,u2⟩:=hS
   simp only[go_sem,hlen,get,get0,set,set0,n0,n1,n2,u0,u1,u2,LZ]
   refine wx_any hnx ?_
   simp only[go_sem,hlen,get,get0,set,set0,n0,n1,n2,u0,u1,u2,LZ,hinq]
   refine wx_any c1 ?_
   simp only[go_sem,hlen,get,get0,set,set0,n0,n1,n2,u0,u1,u2,LZ]
   refine wx_any c2 ?_
   simp only[go_sem,hlen,get,get0,set,set0,n0,n1,n2,u0,u1,u2,LZ]
   exact⟨_,_,_,res2 (n0 _ _ _) rfl rfl rfl,rfl,.cons (ov_set rfl) (.cons (ov_set rfl) .nil),(fun j hj=>by cases hj),rfl,hrwS _ _,hp2,_,_,_,_,rfl,rfl⟩
  rw[if_pos h40]
  simp only
  rw[←drop_succ]
  have c2:=acc_ts hS' (p:=p+1+1) [.row [.str [],.int .i64 0,.nils,.nils] 80 0 0,.row [.str nm,.int .i64 tk.line,.nils,.nils] 80 0 0] hl h40
  have hp3:p+1+1+1≤A.length:=isT_lt h40
  unfold pLocs
  by_cases h41:isT [41] (A.drop (p+1+1+1))=true
  ·rw[if_pos h41]
   simp only
   rw[←drop_succ]
   have c3:=acc_ts hS' (p:=p+1+1+1) [.row [.str [],.int .i64 0,.nils,.nils] 80 0 0,.row [.str nm,.int .i64 tk.line,.nils,.nils] 80 0 0] hl h41
   have hp4:p+1+1+1+1≤A.length:=isT_lt h41
   obtain⟨v,q,c4,hq,h4⟩:=rt_use hS' (p:=p+1+1+1+1) (l:=[.row [.str [],.int .i64 0,.nils,.nils] 80 0 0,.row [.str nm,.int .i64 tk.line,.nils,.nils] 80 0 0]) fun hs=>(pstm_all n).2 _ m z t A _ hA hT hs hp4 (by omega)
   obtain⟨-,-,hlen,get,get0,set,set0,n0,n1,n2,u0,u1,u2⟩:=hS
   simp only[go_sem,hlen,get,get0,set,set0,n0,n1,n2,u0,u1,u2,LZ]
   refine wx_any hnx ?_
   simp only[go_sem,hlen,get,get0,set,set0,n0,n1,n2,u0,u1,u2,LZ,hinq]
   refine wx_any c1 ?_
   simp only[go_sem,hlen,get,get0,set,set0,n0,n1,n2,u0,u1,u2,LZ]
   refine wx_any c2 ?_
   simp only[go_sem,hlen,get,get0,set,set0,n0,n1,n2,u0,u1,u2,LZ]
   refine wx_any c3 ?_
   simp only[go_sem,hlen,get,get0,set,set0,n0,n1,n2,u0,u1,u2,LZ]
   unfold PRb at h4
   cases hb:pbl n (A.drop (p+1+1+1+1)) with
   | none=>
    rw[hb]at h4
    subst h4
    refine wx_any c4 ?_
    simp only[go_sem,hlen,get,get0,set,set0,n0,n1,n2,u0,u1,u2,LZ]
    exact⟨_,_,_,res2 (n0 _ _ _) rfl rfl rfl,rfl,.cons (ov_set rfl) (.cons (ov_set rfl) .nil),(fun j hj=>by cases hj),rfl,hrwS _ _,hq,_,_,_,_,rfl,rfl⟩
   | some bt=>
    obtain⟨b,ts9⟩:=bt
    rw[hb]at h4
    obtain⟨rfl,h4⟩:=h4
    have hbs:=rows_set b
    refine wx_any c4 ?_
    simp only[go_sem,hlen,get,get0,set,set0,n0,n1,n2,u0,u1,u2,LZ]
    exact⟨_,[.agg [.str nm,.int .i64 tk.line,.nils,SL true 0 (b.map Sp.row)],.bool true],_,res2 (n0 _ _ _) rfl rfl rfl,thr_ok (σ:=[]) (e:=0) (lo:=0) gw_nil hbs,thr_ovs (L:=[]) (e:=0) (lo:=0) gw_nil hbs,thr_lo (σ:=[]) (e:=0) (lo:=s.length) (xs:=[]) gw_nil hbs,thr_re (L:=[]) hbs,hrwS _ _,hq,rfl,h4⟩
  ·have h41:isT [41] (A.drop (p+1+1+1))=false:=by simpa using h41
   rw[if_neg (by rw[h41];decide)]
   have c3:=acc_fs hS' (p:=p+1+1+1) [.row [.str [],.int .i64 0,.nils,.nils] 80 0 0,.row [.str nm,.int .i64 tk.line,.nils,.nils] 80 0 0] hl hp3 h41
   obtain⟨-,-,hlen,get,get0,set,set0,n0,n1,n2,u0,u1,u2⟩:=hS
   simp only[go_sem,hlen,get,get0,set,set0,n0,n1,n2,u0,u1,u2,LZ]
   refine wx_any hnx ?_
   simp only[go_sem,hlen,get,get0,set,set0,n0,n1,n2,u0,u1,u2,LZ,hinq]
   refine wx_any c1 ?_
   simp only[go_sem,hlen,get,get0,set,set0,n0,n1,n2,u0,u1,u2,LZ]
   refine wx_any c2 ?_
   simp only[go_sem,hlen,get,get0,set,set0,n0,n1,n2,u0,u1,u2,LZ]
   refine wx_any c3 ?_
   simp only[go_sem,hlen,get,get0,set,set0,n0,n1,n2,u0,u1,u2,LZ]
   refine loop_w (α:=Nat × Nat × V × List (List UInt8) × St) (fun a=>a.1) (fun a=>[(0,.ptr m 0 0),(2,.ptr s.length 0 0),(4,.ptr (s.length+1) 0 0)]) (fun a=>a.2.2.2.2) (fun a=>a.1≤n∧a.2.1≤A.length∧A.length - a.2.1<a.1∧RW s a.2.2.2.2 m z t A a.2.1∧a.2.2.2.2[s.length]?=some (.row [.str [],.int .i64 0,.nils,.nils] 80 0 0)∧a.2.2.2.2[s.length+1]?=some (.row [.str nm,.int .i64 tk.line,a.2.2.1,.nils] 80 0 0)∧GW a.2.2.2.2 1 9 (s.length+2) a.2.2.1 (a.2.2.2.1.map sRow)∧pLoc n (A.drop (p+1+1+1))=(pLoc a.1 (A.drop a.2.1)).map (fun y=>(a.2.2.2.1++y.1,y.2))∧a.2.2.2.1.length≤a.2.1∧s.length+2≤a.2.2.2.2.length∧p+1≤a.2.1) ?_ (n,p+1+1+1,.nils,[],S (p+1+1+1)++[.row [.str [],.int .i64 0,.nils,.nils] 80 0 0,.row [.str nm,.int .i64 tk.line,.nils,.nils] 80 0 0]) ⟨Nat.le_refl _,hp3,by simp only;omega,hrwS _ _,n0 _ _ _,n1 _ _ _ _,gw_nil,by simp only[List.nil_append];cases pLoc n (A.drop (p+1+1+1))<;>rfl,by simp,by simp[hlen],by simp only;omega⟩
   rintro⟨k,q,u,L,σ⟩ ⟨hkn,hq,hbk,hw,hz4,ht4,hg,hinv,hLq,hlen2,hpq⟩ ih
   simp only at hkn hq hbk hw hz4 ht4 hg hinv hLq hlen2 hpq ih
   obtain⟨k,rfl⟩:∃ j,k=j+1:=⟨k - 1,by omega⟩
   have hrl:∀ r∈L.map sRow,r.length=1:=by intro r hr;obtain⟨x,-,rfl⟩:=List.mem_map.1 hr;rfl
   have hcu:=gw_cell hg
   have h12:∀ (τ:St) (ob:Ob),s.length+2≤τ.length→(τ.set (s.length+1) ob)[s.length+1]?=some ob:=fun τ ob h=>List.getElem?_set_self (by omega)
   have h11:∀ (τ:St) (ob:Ob),s.length+2≤τ.length→(τ.set s.length ob)[s.length]?=some ob:=fun τ ob h=>List.getElem?_set_self (by omega)
   refine w_rep (by delta lp82_0;exact rfl) ?_
   cases hnq:pName (A.drop q) with
   | none=>
    have d1:=(nm_th hw.2.2.1 hl hq).2 hnq
    have ho:pLoc (k+1) (A.drop q)=none:=by rw[pLoc,hnq]
    rw[ho]at hinv
    rw[hinv]
    simp only[go_sem]
    refine wx_any d1 ?_
    simp only[go_sem,ht4,hz4,hcu]
    exact⟨_,[.agg [.str nm,.int .i64 tk.line,SL true 0 ((L).map sRow),.nils],.bool false],q,res2 (h11 _ _ (hlen2)) rfl rfl rfl,thr_ok hg rfl,thr_ovs (gw_set hg (by omega)) rfl,(fun j hj=>by have:=thr_lo hg rfl j hj;omega),thr_re rfl,rw_setn hw (Nat.le_refl _),hq,_,_,_,_,by simp only[List.all_cons,List.all_nil,srow_rowB];rfl,rfl⟩
   | some wr=>
    obtain⟨w,r⟩:=wr
    obtain⟨d1,hltq,hrr⟩:=(nm_th hw.2.2.1 hl hq).1 w r hnq
    have ho:pLoc (k+1) (A.drop q)=if isT [44] r then(match pLoc k r.tail with
      | none=>none
      | some (l,r)=>some (w::l,r)) else(pTok [41] r).map fun ts=>([w],ts):=by
     rw[pLoc,hnq]
     rfl
    rw[ho]at hinv
    have hw1:=rw_set hw (q+1)
    have hg1:GW (σ.set m (RO z t A (q+1))) 1 9 (s.length+2) u (L.map sRow):=gw_set hg (by omega)
    have hl1:(σ.set m (RO z t A (q+1))).length=σ.length:=List.length_set
    have hz1:(σ.set m (RO z t A (q+1)))[s.length]?=some (.row [.str [],.int .i64 0,.nils,.nils] 80 0 0):=by rw[List.getElem?_set_ne (by omega)];exact hz4
    have ht1:(σ.set m (RO z t A (q+1)))[s.length+1]?=some (.row [.str nm,.int .i64 tk.line,u,.nils] 80 0 0):=by rw[List.getElem?_set_ne (by omega)];exact ht4
    generalize σ.set m (RO z t A (q+1))=τ1 at d1 hw1 hg1 hl1 hz1 ht1
    obtain⟨u',τ2,ha,hg2,hl2,-,hk2⟩:=gw_app (bytes:=16) (y:=.lst 1 [[.str w]]) (ys:=[[.str w]]) hg1 (by omega) rfl (by omega) hrl (by simp) (by simp;omega)
    have hw2:RW s τ2 m z t A (q+1):=rw_same hw1 (by omega) fun j hj=>hk2 j (by omega)
    have hcu':=gw_cell hg2
    obtain⟨hcc,hca⟩:=cell_cells hcu'
    obtain⟨τ3,e3⟩:∃ τ:St,τ=τ2.set (s.length+1) (.row [.str nm,.int .i64 tk.line,u',.nils] 80 0 0):=⟨_,rfl⟩
    have hw3:RW s τ3 m z t A (q+1):=by rw[e3];exact rw_same hw2 (by rw[List.length_set];omega) fun j hj=>List.getElem?_set_ne (by omega)
    have hg3:GW τ3 1 9 (s.length+2) u' ((L++[w]).map sRow):=by rw[e3,List.map_append];exact gw_set hg2 (by omega)
    have hl3:s.length+2≤τ3.length:=by rw[e3,List.length_set];omega
    have hz3:τ3[s.length]?=some (.row [.str [],.int .i64 0,.nils,.nils] 80 0 0):=by rw[e3,List.getElem?_set_ne (by omega),hk2 _ (by omega)];exact hz1
    have ht3:τ3[s.length+1]?=some (.row [.str nm,.int .i64 tk.line,u',.nils] 80 0 0):=by rw[e3];exact h12 _ _ (by omega)
    have ht2:τ2[s.length+1]?=some (.row [.str nm,.int .i64 tk.line,u,.nils] 80 0 0):=by rw[hk2 _ (by omega)];exact ht1
    have hq1:q+1≤A.length:=hltq
    by_cases h44:isT [44] r=true
    ·rw[if_pos h44]at hinv
     rw[←hrr]at h44 hinv
     have d2:=acc_t hw3.2.2.1 hl h44
     have hlt44:=isT_lt h44
     rw[e3]at d2
     simp only[go_sem]
     refine wx_any d1 ?_
     simp only[go_sem,ht1,ha,ht2,hcu',hcc,hca]
     refine wx_any d2 ?_
     rw[←e3]
     simp only[go_sem]
     refine W_keep (ih (k,q+1+1,u',L++[w],τ3.set m (RO z t A (q+1+1))) (by simp) ⟨by simp only;omega,hlt44,by simp only;omega,rw_set hw3 _,by simp only;rw[List.getElem?_set_ne (by omega)];exact hz3,by simp only;rw[List.getElem?_set_ne (by omega)];exact ht3,gw_set hg3 (by omega),?_,by simp;omega,by simp only[List.length_set];exact hl3,by simp only;omega⟩) rfl
     simp only
     rw[hinv,←drop_succ]
     cases pLoc k (A.drop (q+1+1)) with
     | none=>rfl
     | some y=>simp
    ·have h44:isT [44] r=false:=by simpa using h44
     rw[if_neg (by rw[h44];decide)]at hinv
     rw[←hrr]at h44 hinv
     have d2:=acc_f hw3.2.2.1 hl hq1 h44
     rw[e3]at d2
     unfold pTok at hinv
     by_cases h41b:isT [41] (A.drop (q+1))=true
     ·rw[if_pos h41b]at hinv
      simp only[Option.map_some]at hinv
      rw[hinv]
      simp only
      rw[←drop_succ]
      have d3:=acc_t hw3.2.2.1 hl h41b
      have hlt41:=isT_lt h41b
      have hw4:=rw_set hw3 (q+1+1)
      obtain⟨v,q5,d4,hq5,h5⟩:=(pstm_all n).2 (τ3.set m (RO z t A (q+1+1))) m z t A (q+1+1) hA hT hw4.2.2.1 hlt41 (by omega)
      rw[List.set_set]at d4
      have hw5:=rw_set hw3 q5
      have hg5:GW (τ3.set m (RO z t A q5)) 1 9 (s.length+2) u' ((L++[w]).map sRow):=gw_set hg3 (by omega)
      have hl5:s.length+2≤(τ3.set m (RO z t A q5)).length:=by rw[List.length_set];exact hl3
      have hz5:(τ3.set m (RO z t A q5))[s.length]?=some (.row [.str [],.int .i64 0,.nils,.nils] 80 0 0):=by rw[List.getElem?_set_ne (by omega)];exact hz3
      have ht5:(τ3.set m (RO z t A q5))[s.length+1]?=some (.row [.str nm,.int .i64 tk.line,u',.nils] 80 0 0):=by rw[List.getElem?_set_ne (by omega)];exact ht3
      generalize τ3.set m (RO z t A q5)=τ5 at d4 hw5 hg5 hl5 hz5 ht5
      have hz6:∀ ob:Ob,(τ5.set (s.length+1) ob)[s.length]?=some (.row [.str [],.int .i64 0,.nils,.nils] 80 0 0):=fun ob=>by rw[List.getElem?_set_ne (by omega)];exact hz5
      rw[e3]at d3
      unfold PRb at h5
      simp only[go_sem]
      refine wx_any d1 ?_
      simp only[go_sem,ht1,ha,ht2,hcu',hcc,hca]
      refine wx_any d2 ?_
      simp only[go_sem]
      refine wx_any d3 ?_
      rw[←e3]
      simp only[go_sem]
      cases hb:pbl n (A.drop (q+1+1)) with
      | none=>
       rw[hb]at h5
       subst h5
       refine wx_any d4 ?_
       simp only[go_sem,ht5,h12 _ _ hl5,hz6,hcu']
       exact⟨_,[.agg [.str nm,.int .i64 tk.line,SL true 0 ((L++[w]).map sRow),.nils],.bool false],q5,res2 (h11 _ _ (by rw[List.length_set];exact hl5)) rfl rfl rfl,thr_ok hg5 rfl,thr_ovs (gw_set (gw_set hg5 (by omega)) (by omega)) rfl,(fun j hj=>by have:=thr_lo hg5 rfl j hj;omega),thr_re rfl,rw_setn (rw_setn hw5 (by omega)) (Nat.le_refl _),hq5,_,_,_,_,by simp only[List.all_cons,List.all_nil,srow_rowB];rfl,rfl⟩
      | some bt=>
       obtain⟨b,ts9⟩:=bt
       rw[hb]at h5
       obtain⟨rfl,h5⟩:=h5
       have hbs:=rows_set b
       have hbc:=row_cell hbs
       refine wx_any d4 ?_
       simp only[go_sem,ht5,h12 _ _ hl5,hz6,hcu',hbc]
       exact⟨_,[.agg [.str nm,.int .i64 tk.line,SL true 0 ((L++[w]).map sRow),SL true 0 (b.map Sp.row)],.bool true],q5,res2 (h11 _ _ (by rw[List.length_set];exact hl5)) rfl rfl rfl,thr_ok hg5 hbs,thr_ovs (gw_set (gw_set hg5 (by omega)) (by omega)) hbs,(fun j hj=>by have:=thr_lo hg5 hbs j hj;omega),thr_re hbs,rw_setn (rw_setn hw5 (by omega)) (Nat.le_refl _),hq5,rfl,h5⟩
     ·have h41b:isT [41] (A.drop (q+1))=false:=by simpa using h41b
      rw[if_neg (by rw[h41b];decide)]at hinv
      simp only[Option.map_none]at hinv
      rw[hinv]
      have d3:=acc_f hw3.2.2.1 hl hq1 h41b
      rw[e3]at d3
      simp only[go_sem]
      refine wx_any d1 ?_
      simp only[go_sem,ht1,ha,ht2,hcu',hcc,hca]
      refine wx_any d2 ?_
      simp only[go_sem]
      refine wx_any d3 ?_
      rw[←e3]
      simp only[go_sem,ht3,hz3,hcu']
      exact⟨_,[.agg [.str nm,.int .i64 tk.line,SL true 0 ((L++[w]).map sRow),.nils],.bool false],(q+1),res2 (h11 _ _ (hl3)) rfl rfl rfl,thr_ok hg3 rfl,thr_ovs (gw_set hg3 (by omega)) rfl,(fun j hj=>by have:=thr_lo hg3 rfl j hj;omega),thr_re rfl,rw_setn hw3 (Nat.le_refl _),hq1,_,_,_,_,by simp only[List.all_cons,List.all_nil,srow_rowB];rfl,rfl⟩
end Go.Proofs.YtlehfgdhebapeaaGreatDoor.KM
