/- Walks: the parser's programs. -/
import Derived.Test.YtlehfgdhebapeaaGreatDoorLt
set_option linter.all false
namespace Go.Proofs.YtlehfgdhebapeaaGreatDoor.KM
open Go
theorem gw_oth{s s':St}{m m' e e' lo' n:Nat}{u w:V}{ys:List (List V)}(he:e≠e')(hu:u=.nils∨∃ i g cs,u=.sl i g 0 n m true∧s[i]?=some (.row cs e g 0))(h:GW s m' e' lo' w ys)(hf:∀ j,(∀ i g,u=.sl i g 0 n m true→j≠i)→j<s.length→s'[j]?=s[j]?):GW s' m' e' lo' w ys:=by
 rcases h with h | ⟨hn,j,g,rfl,ho,hlo⟩
 ·exact .inl h
 ·refine .inr ⟨hn,j,g,rfl,?_,hlo⟩
  rw[hf j ?_ (List.getElem?_eq_some_iff.1 ho).1]
  ·exact ho
  ·rintro i g' rfl rfl
   rcases hu with hu | ⟨i,g2,cs,hu,hs⟩
   ·cases hu
   ·cases hu
    rw[hs]at ho
    cases ho
    exact he rfl
theorem gw_shp{s:St}{m e lo:Nat}{u:V}{xs:List (List V)}(h:GW s m e lo u xs):u=.nils∨∃ i g cs,u=.sl i g 0 xs.length m true∧s[i]?=some (.row cs e g 0):=by
 rcases h with⟨h,-⟩ | ⟨-,i,g,h,ho,-⟩
 ·exact .inl h
 ·exact .inr ⟨i,g,_,h,ho⟩
theorem sl_rowB(z:Bool)(t:Nat)(xs:List (List V)):(SL z t xs).rowB=true:=by
 unfold SL
 split<;>rfl
theorem trow_set(x:Tp):x.row.all V.rowB=true:=by
 unfold Tp.row
 simp only[List.all_cons,List.all_nil,sl_rowB]
 rfl
def PRg(A:List Tk)(o:Option (Gp × List Tk))(v:V)(p':Nat):Prop:=match o with
 | some (x,r)=>v=.tup [.agg x.row,.bool true]∧A.drop p'=r
 | none=>∃ d0 d1:V,[d0,d1].all V.rowB=true∧v=.tup [.agg [d0,d1],.bool false]
structure PS (s σ:St) (m:Nat) (z:Bool) (t:Nat) (A:List Tk) (q:Nat) (u1 u2:V) (D:List Dp) (L:List Tp):Prop where
 rw:RW s σ m z t A q
 len:s.length+2≤σ.length
 z2:σ[s.length]?=some (.row [.nils,.nils] 26 0 0)
 p:σ[s.length+1]?=some (.row [u1,u2] 26 0 0)
 g1:GW σ 6 75 (s.length+2) u1 (D.map Dp.row)
 g2:GW σ 4 80 (s.length+2) u2 (L.map Tp.row)
theorem ps_set{s σ:St}{m:Nat}{z:Bool}{t:Nat}{A:List Tk}{q:Nat}{u1 u2:V}{D:List Dp}{L:List Tp}(h:PS s σ m z t A q u1 u2 D L)(q':Nat):PS s (σ.set m (RO z t A q')) m z t A q' u1 u2 D L:=by
 have hm:=h.rw.2.2.2
 exact⟨rw_set h.rw q',by rw[List.length_set];exact h.len,by rw[List.getElem?_set_ne (by omega)];exact h.z2,by rw[List.getElem?_set_ne (by omega)];exact h.p,gw_set h.g1 (by omega),gw_set h.g2 (by omega)⟩
theorem ps_push{s σ l:St}{m:Nat}{z:Bool}{t:Nat}{A:List Tk}{q:Nat}{u1 u2:V}{D:List Dp}{L:List Tp}(h:PS s σ m z t A q u1 u2 D L):PS s (σ++l) m z t A q u1 u2 D L:=
 ⟨rw_push h.rw,by have:=h.len;simp;omega,get_app_some h.z2,get_app_some h.p,gw_push h.g1,gw_push h.g2⟩
theorem drows_len(D:List Dp):∀ r∈D.map Dp.row,r.length=6:=by intro r hr;obtain⟨x,-,rfl⟩:=List.mem_map.1 hr;rfl
theorem drows_set(D:List Dp):∀ r∈D.map Dp.row,r.all V.rowB=true:=by intro r hr;obtain⟨x,-,rfl⟩:=List.mem_map.1 hr;rfl
theorem trows_len(D:List Tp):∀ r∈D.map Tp.row,r.length=4:=by intro r hr;obtain⟨x,-,rfl⟩:=List.mem_map.1 hr;rfl
theorem trows_set(D:List Tp):∀ r∈D.map Tp.row,r.all V.rowB=true:=by intro r hr;obtain⟨x,-,rfl⟩:=List.mem_map.1 hr;exact trow_set x
theorem ps_decl{s σ:St}{m:Nat}{z:Bool}{t:Nat}{A:List Tk}{q:Nat}{u1 u2:V}{D:List Dp}{L:List Tp}(h:PS s σ m z t A q u1 u2 D L)(d:Dp)(hb:D.length≤1000000):
  ∃ u' σ',appV 64 (6,75) u1 (.lst 1 [d.row]) σ=some (u',σ')∧u'.cellB=true∧σ'[s.length+1]?=some (.row [u1,u2] 26 0 0)∧PS s (σ'.set (s.length+1) (.row [u',u2] 26 0 0)) m z t A q u' u2 (D++[d]) L:=by
 obtain⟨u',σ',ha,hg,hl,hk1,hk2⟩:=gw_app (bytes:=64) (y:=.lst 1 [d.row]) (ys:=[d.row]) h.g1 h.len rfl (by omega) (drows_len D) (by simp;rfl) (by simp;omega)
 have hlen:=h.len
 have hp:σ'[s.length+1]?=some (.row [u1,u2] 26 0 0):=by rw[hk2 _ (by omega)];exact h.p
 refine⟨u',σ',ha,gw_cell hg,hp,rw_setn (rw_same h.rw (by omega) fun j hj=>hk2 j (by omega)) (by omega),by rw[List.length_set];omega,?_,List.getElem?_set_self (by omega),?_,?_⟩
 ·rw[List.getElem?_set_ne (by omega),hk2 _ (by omega)];exact h.z2
 ·rw[List.map_append];exact gw_set hg (by omega)
 ·exact gw_set (gw_oth (by decide) (gw_shp h.g1) h.g2 hk1) (by omega)
theorem ps_thr{s σ:St}{m:Nat}{z:Bool}{t:Nat}{A:List Tk}{q:Nat}{u1 u2:V}{D:List Dp}{L:List Tp}(h:PS s σ m z t A q u1 u2 D L)(d:Tp)(hb:L.length≤1000000):
  ∃ u' σ',appV 72 (4,80) u2 (.lst 1 [d.row]) σ=some (u',σ')∧u'.cellB=true∧σ'[s.length+1]?=some (.row [u1,u2] 26 0 0)∧PS s (σ'.set (s.length+1) (.row [u1,u'] 26 0 0)) m z t A q u1 u' D (L++[d]):=by
 obtain⟨u',σ',ha,hg,hl,hk1,hk2⟩:=gw_app (bytes:=72) (y:=.lst 1 [d.row]) (ys:=[d.row]) h.g2 h.len rfl (by omega) (trows_len L) (by simp;rfl) (by simp;omega)
 have hlen:=h.len
 have hp:σ'[s.length+1]?=some (.row [u1,u2] 26 0 0):=by rw[hk2 _ (by omega)];exact h.p
 refine⟨u',σ',ha,gw_cell hg,hp,rw_setn (rw_same h.rw (by omega) fun j hj=>hk2 j (by omega)) (by omega),by rw[List.length_set];omega,?_,List.getElem?_set_self (by omega),?_,?_⟩
 ·rw[List.getElem?_set_ne (by omega),hk2 _ (by omega)];exact h.z2
 ·exact gw_set (gw_oth (by decide) (gw_shp h.g2) h.g1 hk1) (by omega)
 ·rw[List.map_append];exact gw_set hg (by omega)
theorem ps_end{s σ:St}{m:Nat}{z:Bool}{t:Nat}{A:List Tk}{q:Nat}{u1 u2:V}{D:List Dp}{L:List Tp}(h:PS s σ m z t A q u1 u2 D L){e':Env}{b:Bool}{R:V→Nat→Prop}(he2:e'.get 2=.ptr s.length 0 0)(he3:e'.get 3=.bool b)(hq:q≤A.length)(hR:R (.tup [.agg [SL true 0 (D.map Dp.row),SL true 0 (L.map Tp.row)],.bool b]) q):
  ∃ vs vs' q,resV e' (σ.set s.length (.row [u1,u2] 26 0 0)) [AR.cell 2 2 false,AR.tmp 3]=some (.tup vs)∧vs.all okRes1=true∧OVs (σ.set s.length (.row [u1,u2] 26 0 0)) vs vs'∧(∀ j∈refsL vs,s.length≤j)∧refsL vs'=[]∧RW s (σ.set s.length (.row [u1,u2] 26 0 0)) m z t A q∧q≤A.length∧R (.tup vs') q:=by
 have hlen:=h.len
 have c1:=gw_cell h.g1
 have c2:=gw_cell h.g2
 refine⟨[.agg [u1,u2],.bool b],[.agg [SL true 0 (D.map Dp.row),SL true 0 (L.map Tp.row)],.bool b],q,res2 (List.getElem?_set_self (by omega)) he2 rfl he3,?_,?_,?_,?_,rw_setn h.rw (Nat.le_refl _),hq,hR⟩
 ·show([u1,u2].all V.cellB&&(okRes1 (.bool b)&&true))=true
  simp only[List.all_cons,List.all_nil,c1,c2]
  rfl
 ·exact .cons (ov_agg (.cons (gw_oc (gw_set h.g1 (by omega)) (by omega) (drows_len D) (drows_set D)) (.cons (gw_oc (gw_set h.g2 (by omega)) (by omega) (trows_len L) (trows_set L)) .nil))) (.cons (ov_set rfl) .nil)
 ·intro j hj
  simp only[refsL,V.refs,List.append_nil,List.mem_append]at hj
  have k1:∀ {w:V} {mm e:Nat} {xs:List (List V)},GW σ mm e (s.length+2) w xs→∀ j∈w.refs,s.length≤j:=by
   intro w mm e xs hg j hj
   rcases hg with⟨rfl,-⟩ | ⟨-,i,g,rfl,-,hlo⟩
   ·cases hj
   ·simp only[V.refs,List.mem_singleton]at hj
    omega
  rcases hj with hj | hj
  ·exact k1 h.g1 j hj
  ·exact k1 h.g2 j hj
 ·simp only[refsL,V.refs,sl_refs,List.append_nil]
set_option maxHeartbeats 4000000 in
theorem pprog_step{s:St}{m:Nat}{z:Bool}{t:Nat}{A:List Tk}(hA:OkA A)(hT:TokOk A)(hs:s[m]?=some (RO z t A 0)):RT 40 [] s m z t A (PRg A (pProg A)):=by
 have hl:A.length≤1000000:=by have:=hA.len;omega
 have hm:=(List.getElem?_eq_some_iff.1 hs).1
 refine rg_fin T40 hs fun S hS=>?_
 have hrwS:=rw_S hS hs
 have hps0:PS s (S 0++[.row [.nils,.nils] 26 0 0,.row [.nils,.nils] 26 0 0]) m z t A 0 .nils .nils [] []:=⟨hrwS _ _,by simp[hS.len],hS.n0 _ _ _,hS.n1 _ _ _ _,gw_nil,gw_nil⟩
 obtain⟨-,-,hlen,get,get0,set,set0,n0,n1,n2,u0,u1,u2⟩:=hS
 have hA0:A.drop 0=A:=List.drop_zero
 simp only[go_sem,hlen,get,get0,set,set0,n0,n1,n2,u0,u1,u2,LZ]
 refine loop_w (α:=Nat × Nat × V × List Dp × St) (fun a=>a.1) (fun a=>[(0,.ptr m 0 0),(2,.ptr s.length 0 0),(4,.ptr (s.length+1) 0 0)]) (fun a=>a.2.2.2.2) (fun a=>a.2.1≤A.length∧A.length - a.2.1<a.1∧PS s a.2.2.2.2 m z t A a.2.1 a.2.2.1 .nils a.2.2.2.1 []∧pDecls (A.length+1) A=(pDecls a.1 (A.drop a.2.1)).map (fun y=>(a.2.2.2.1++y.1,y.2))∧a.2.2.2.1.length≤a.2.1) ?_ (A.length+1,0,.nils,[],S 0++[.row [.nils,.nils] 26 0 0,.row [.nils,.nils] 26 0 0]) ⟨Nat.zero_le _,by simp only;omega,hps0,by simp only[List.nil_append,hA0];cases pDecls (A.length+1) A<;>rfl,by simp⟩
 rintro⟨k,q,v1,D,σ⟩ ⟨hq,hbk,hps,hinv,hDq⟩ ih
 simp only at hq hbk hps hinv hDq ih
 obtain⟨k,rfl⟩:∃ j,k=j+1:=⟨k - 1,by omega⟩
 refine w_rep (by delta lp40_0;exact rfl) ?_
 have hnx:=nxt_th hps.rw.2.2.1 hl hq
 have hdec:=declared_fn (tokAt A q).text
 have h11:∀ (τ:St) (ob:Ob),s.length+2≤τ.length→(τ.set s.length ob)[s.length]?=some ob:=fun τ ob h=>List.getElem?_set_self (by omega)
 have hid:isDecl (A.drop q)=((tokAt A q).kind==3&&declT (tokAt A q).text != 0):=by
  rcases Nat.lt_or_ge q A.length with h | h
  ·rw[tok_at h];rfl
  ·rw[(tok_z h).1,(tok_z h).2];rfl
 by_cases hd:isDecl (A.drop q)=true
 ·have hqlt:q<A.length:=by
   rcases Nat.lt_or_ge q A.length with h | h
   ·exact h
   ·rw[(tok_z h).1]at hd;cases hd
  rw[hid,Bool.and_eq_true]at hd
  obtain⟨hd1,hd2⟩:=hd
  obtain⟨v,q2,c1,hq2,h3⟩:=pdecl_step hA hT hps.rw.2.2.1 hq (by rw[hid,hd1,hd2];rfl)
  have hps1:=ps_set hps q2
  have hpd:pDecls (k+1) (A.drop q)=match pDecl (A.drop q) with
    | none=>none
    | some (d,r)=>match pDecls k r with
     | none=>none
     | some (l,r)=>some (d::l,r):=by
   rw[pDecls,if_pos (by rw[hid,hd1,hd2];rfl)]
   rfl
  rw[hpd]at hinv
  unfold PRd at h3
  generalize σ.set m (RO z t A q2)=τ at c1 hps1
  have ln0:∀ a:Ob,(τ++[a])[τ.length]?=some a:=fun a=>by simp
  have lu0:∀ a b:Ob,(τ++[a]).set τ.length b=τ++[b]:=fun a b=>by simp[List.set_append_right]
  cases hpq:pDecl (A.drop q) with
  | none=>
   rw[hpq]at h3 hinv
   obtain⟨_,⟨e0,e1,e2,e3,e4,e5,rfl,hb⟩,rfl⟩:=h3
   have hps2:PS s (τ++[.row [e0,e1,e2,e3,e4,e5] 75 0 0]) m z t A q2 v1 .nils D []:=ps_push hps1
   have hz:=hps2.z2
   have hp:=hps2.p
   have hv1:=gw_cell hps.g1
   simp only[go_sem]
   refine wx_any hnx ?_
   simp only[go_sem,hd1]
   refine wx_any hnx ?_
   simp only[go_sem]
   refine wx_fn hdec rfl ?_
   simp only[go_sem,hd2]
   refine wx_any c1 ?_
   simp only[go_sem,ln0,lu0,cells6 hb,hz,hp,hv1]
   refine ps_end hps2 rfl rfl hq2 ?_
   unfold pProg
   rw[hinv]
   exact⟨_,_,by simp only[List.all_cons,List.all_nil,sl_rowB];rfl,rfl⟩
  | some dr=>
   obtain⟨d,r⟩:=dr
   rw[hpq]at h3 hinv
   obtain⟨rfl,h3⟩:=h3
   have hlt2:r.length<A.length - q:=by
    have:=(pDecl_shape (C:=100) (by omega) (tok_suf hT (List.drop_suffix q A)) (by rw[hid,hd1,hd2];rfl) hpq).2.2.1
    rw[List.length_drop]at this
    exact this
   have hrq:r.length=A.length - q2:=by rw[←h3,List.length_drop]
   have hps2:PS s (τ++[.row d.row 75 0 0]) m z t A q2 v1 .nils D []:=ps_push hps1
   obtain⟨w1,τ2,ha,hc,hp2,hps3⟩:=ps_decl hps2 d (by omega)
   obtain⟨hcc,hca⟩:=cell_cells hc
   have hp:=hps2.p
   have hdr:d.row=[.int .i64 d.kind,.int .i64 d.line,.str d.nm,.int .i64 d.size,.int .i64 d.init,.str d.on]:=rfl
   rw[hdr]at c1 ha
   simp only[hdr]at hp
   simp only[go_sem]
   refine wx_any hnx ?_
   simp only[go_sem,hd1]
   refine wx_any hnx ?_
   simp only[go_sem]
   refine wx_fn hdec rfl ?_
   simp only[go_sem,hd2]
   refine wx_any c1 ?_
   simp only[go_sem,ln0,lu0,hp,ha,hp2,hc,hcc,hca]
   refine W_keep (ih (k,q2,w1,D++[d],τ2.set (s.length+1) (.row [w1,.nils] 26 0 0)) (by simp) ⟨hq2,by simp only;omega,hps3,?_,by simp;omega⟩) rfl
   simp only
   rw[hinv,h3]
   simp only
   cases pDecls k r with
   | none=>rfl
   | some y=>simp
 ·have hd:isDecl (A.drop q)=false:=by simpa using hd
  have hpd:pDecls (k+1) (A.drop q)=some ([],A.drop q):=by rw[pDecls,if_neg (by rw[hd];decide)]
  rw[hpd]at hinv
  simp only[Option.map_some,List.append_nil]at hinv
  rw[hid]at hd
  have hgo:∀ P:Prop,((tokAt A q).kind==3)=false∨(((tokAt A q).kind==3)=true∧(declT (tokAt A q).text != 0)=false):=fun _=>by
   cases h:((tokAt A q).kind==3)
   ·exact .inl rfl
   ·rw[h]at hd;exact .inr ⟨rfl,by simpa using hd⟩
  unfold pProg
  rw[hinv]
  simp only
  rcases hgo True with hk | ⟨hk,hk2⟩
  case' inl=>simp only[go_sem]
  case' inl=>refine wx_any hnx ?_
  case' inl=>simp only[go_sem,hk]
  case' inr=>simp only[go_sem]
  case' inr=>refine wx_any hnx ?_
  case' inr=>simp only[go_sem,hk]
  case' inr=>refine wx_any hnx ?_
  case' inr=>simp only[go_sem]
  case' inr=>refine wx_fn hdec rfl ?_
  case' inr=>simp only[go_sem,hk2]
  all_goals
   refine loop_w (α:=Nat × Nat × V × List Tp × St) (fun a=>a.1) (fun a=>[(0,.ptr m 0 0),(2,.ptr s.length 0 0),(4,.ptr (s.length+1) 0 0)]) (fun a=>a.2.2.2.2) (fun a=>a.2.1≤A.length∧A.length - a.2.1<a.1∧PS s a.2.2.2.2 m z t A a.2.1 v1 a.2.2.1 D a.2.2.2.1∧pThrs (fuelT A.length) (A.length+1) (A.drop q)=(pThrs (fuelT A.length) a.1 (A.drop a.2.1)).map (fun y=>(a.2.2.2.1++y.1,y.2))∧a.2.2.2.1.length≤a.2.1) ?_ (A.length+1,q,.nils,[],σ) ⟨hq,by simp only;omega,hps,by simp only[List.nil_append];cases pThrs (fuelT A.length) (A.length+1) (A.drop q)<;>rfl,by simp⟩
   rintro⟨k2,q3,v2,L,σ2⟩ ⟨hq3,hbk3,hps3,hinv3,hLq3⟩ jh
   simp only at hq3 hbk3 hps3 hinv3 hLq3 jh
   obtain⟨k2,rfl⟩:∃ j,k2=j+1:=⟨k2 - 1,by omega⟩
   refine w_rep (by delta lp40_1;exact rfl) ?_
   have hat:=at_th hps3.rw.2.2.1 hl hq3 thrW
   have hv1:=gw_cell hps3.g1
   have hv2:=gw_cell hps3.g2
   by_cases ht:isT thrW (A.drop q3)=true
   ·rw[ht]at hat
    have hq3lt:=isT_lt ht
    obtain⟨v,q4,c1,hq4,h3⟩:=pthr_step (n:=fuelT A.length) hA hT hps3.rw.2.2.1 hq3lt (by unfold fuelT;omega)
    have hps4:=ps_set hps3 q4
    have hpt:pThrs (fuelT A.length) (k2+1) (A.drop q3)=match pThr (fuelT A.length) (A.drop q3) with
      | none=>none
      | some (x,r)=>match pThrs (fuelT A.length) k2 r with
       | none=>none
       | some (l,r)=>some (x::l,r):=by
     rw[pThrs,if_pos ht]
     rfl
    rw[hpt]at hinv3
    unfold PRt at h3
    generalize σ2.set m (RO z t A q4)=τ at c1 hps4
    have ln0:∀ a:Ob,(τ++[a])[τ.length]?=some a:=fun a=>by simp
    have lu0:∀ a b:Ob,(τ++[a]).set τ.length b=τ++[b]:=fun a b=>by simp[List.set_append_right]
    cases hpq:pThr (fuelT A.length) (A.drop q3) with
    | none=>
     rw[hpq]at h3 hinv3
     obtain⟨e0,e1,e2,e3,hb,rfl⟩:=h3
     have hps5:PS s (τ++[.row [e0,e1,e2,e3] 80 0 0]) m z t A q4 v1 v2 D L:=ps_push hps4
     have hz:=hps5.z2
     have hp:=hps5.p
     have hb4:(e0.cellB&&(e1.cellB&&(e2.cellB&&e3.cellB)))=true:=by
      simp only[List.all_cons,List.all_nil,Bool.and_eq_true]at hb
      simp only[row_cell hb.1,row_cell hb.2.1,row_cell hb.2.2.1,row_cell hb.2.2.2.1,Bool.and_self]
     simp only[go_sem]
     refine wx_any hat ?_
     simp only[go_sem]
     refine wx_any c1 ?_
     simp only[go_sem,ln0,lu0,hb4,hz,hp,hv1,hv2]
     refine ps_end hps5 rfl rfl hq4 ?_
     rw[hinv3]
     exact⟨_,_,by simp only[List.all_cons,List.all_nil,sl_rowB];rfl,rfl⟩
    | some xr=>
     obtain⟨x,r⟩:=xr
     rw[hpq]at h3 hinv3
     obtain⟨rfl,h3⟩:=h3
     have hlt4:r.length<A.length - q3:=by
      have:=(pThr_shape (M:=A.length) (C:=100+8*A.length) (Nat.le_refl _) (tok_suf hT (List.drop_suffix q3 A)) (by rw[List.length_drop];omega) hpq).2.2.2.2.1
      rw[List.length_drop]at this
      exact this
     have hrq:r.length=A.length - q4:=by rw[←h3,List.length_drop]
     have hps5:PS s (τ++[.row x.row 80 0 0]) m z t A q4 v1 v2 D L:=ps_push hps4
     obtain⟨w2,τ2,ha,hc,hp2,hps6⟩:=ps_thr hps5 x (by omega)
     obtain⟨hcc,hca⟩:=cell_cells hc
     have hp:=hps5.p
     have hxs:=trow_set x
     have hxr:x.row=[.str x.nm,.int .i64 x.line,SL x.lz x.lt (x.locals.map fun s=>[V.str s]),SL x.bz x.bt (x.body.map Sp.row)]:=rfl
     rw[hxr]at c1 ha hxs
     simp only[hxr]at hp
     simp only[go_sem]
     refine wx_any hat ?_
     simp only[go_sem]
     refine wx_any c1 ?_
     simp only[go_sem,ln0,lu0,hp,ha,hp2,hc,hcc,hca]
     refine W_keep (jh (k2,q4,w2,L++[x],τ2.set (s.length+1) (.row [v1,w2] 26 0 0)) (by simp) ⟨hq4,by simp only;omega,hps6,?_,by simp;omega⟩) rfl
     simp only
     rw[hinv3,h3]
     simp only
     cases pThrs (fuelT A.length) k2 r with
     | none=>rfl
     | some y=>simp
   ·have ht:isT thrW (A.drop q3)=false:=by simpa using ht
    rw[ht]at hat
    have hpt:pThrs (fuelT A.length) (k2+1) (A.drop q3)=some ([],A.drop q3):=by rw[pThrs,if_neg (by rw[ht];decide)]
    rw[hpt]at hinv3
    simp only[Option.map_some,List.append_nil]at hinv3
    have hz:=hps3.z2
    have hp:=hps3.p
    rw[hinv3]
    simp only
    have hcase:(v2=.nils∧L=[])∨(L≠[]∧∃ i g,v2=.sl i g 0 L.length 4 true):=by
     rcases hps3.g2 with⟨h1,h2⟩ | ⟨h1,i,g,h2,-⟩
     ·exact .inl ⟨h1,by simpa using h2⟩
     ·exact .inr ⟨fun e=>h1 (by rw[e];rfl),i,g,by rw[h2,List.length_map]⟩
    rcases hcase with⟨rfl,rfl⟩ | ⟨hne,i,g,rfl⟩
    ·simp only[go_sem]
     refine wx_any hat ?_
     simp only[go_sem]
     have hp9:(σ2.set s.length (.row [v1,.nils] 26 0 0))[s.length+1]?=some (.row [v1,.nils] 26 0 0):=by rw[List.getElem?_set_ne (by omega)];exact hp
     refine w_drw (by kernel_rfl) ?_
     simp only[go_sem,hp,hz,hv1]
     refine wgE ?_
     simp only[go_sem,hv1,hz,hp]
     refine ps_end hps3 rfl rfl hq3 ?_
     show PRg A none _ _
     exact⟨_,_,by simp only[List.all_cons,List.all_nil,sl_rowB];rfl,rfl⟩
    ·have hlp:((0:Int)<(L.length:Int))=True:=eq_true (by have:=List.length_pos_iff.2 hne;omega)
     simp only[go_sem]
     refine wx_any hat ?_
     simp only[go_sem]
     have hp9:(σ2.set s.length (.row [v1,.sl i g 0 L.length 4 true] 26 0 0))[s.length+1]?=some (.row [v1,.sl i g 0 L.length 4 true] 26 0 0):=by rw[List.getElem?_set_ne (by omega)];exact hp
     refine w_drw (by kernel_rfl) ?_
     simp only[go_sem,hp,hz,hv1,gt_iff_lt,hlp]
     refine wgE ?_
     simp only[go_sem,hv1,hz,hp,gt_iff_lt,hlp]
     refine ps_end hps3 rfl rfl hq3 ?_
     rw[if_neg (by simpa using hne)]
     exact⟨rfl,rfl⟩
end Go.Proofs.YtlehfgdhebapeaaGreatDoor.KM
