/- Plain: the text of a shaped program is scanned and parsed as that program, apart from lines. -/
import Derived.Test.YtlehfgdhebapeaaGreatDoorLd
set_option linter.all false
namespace Go.Proofs.YtlehfgdhebapeaaGreatDoor.KM
open Go
theorem sk_kw{w r:List UInt8}{c:UInt8}{cs:List UInt8}(e:w=c::cs)(h1:letB c=true)(h2:cs.all innB=true)(h3:w.length≤12)(hk:kwE w=true)(hr:clean r):scanK (w++r)=cons [(3,w)] (scanK r):=by
 subst e
 rw[sk_word h1 (List.all_eq_true.1 h2) h3 hr,hk]
 rfl
theorem kw_runs:((List.range 14).all fun i=>match wordE ((i:Int)+2) with
  | c::cs=>letB c&&(cs.all innB&&(decide ((c::cs).length≤12)&&kwE (c::cs)))
  | []=>false)=true:=by decide
theorem sk_wordE{op:Int}(h:2≤op∧op≤15){r:List UInt8}(hr:clean r):scanK (wordE op++r)=cons [(3,wordE op)] (scanK r):=by
 obtain⟨i,hi,rfl⟩:∃ i:Nat,i<14∧op=(i:Int)+2:=⟨(op - 2).toNat,by omega,by omega⟩
 have:=List.all_eq_true.1 kw_runs i (List.mem_range.2 hi)
 split at this
 ·rename_i c cs he
  simp only[Bool.and_eq_true,decide_eq_true_eq]at this
  rw[he]
  exact sk_kw rfl this.1 this.2.1 this.2.2.1 this.2.2.2 hr
 ·cases this
theorem sk_clean32(r:List UInt8):clean (32::r):=clean_c r (by decide)
theorem head_tx(hd:DigRT){s:Sp}(h:ShS s):Tx (headE s) (headK s):=by
 obtain⟨op,line,nm,arg,iz,it,idx,ex,bz,bt,body,ez,et,els⟩:=s
 cases h with
 | mk h1 h2 h3 h4 h5 h6 h7 h8 h9 h10 h11 h12 h13 h14=>
  simp only at h1 h2 h3 h4 h5 h6 h7 h8 h9 h10 h11 h12 h13 h14
  intro r hr
  simp only[headE,headK]
  by_cases a:op=1
  ·subst a
   rw[if_pos rfl,if_pos rfl]
   have hnm:=h3 rfl
   have hex:=(txt_tx hd (h9 rfl)).1
   match hi:idx,h6 with
   | [],_=>
    simp only[idxE,idxK,List.nil_append,List.append_assoc,List.cons_append]
    rw[sk_name hnm (sk_clean32 _),sk_sp,sk_assign,sk_sp,hex r hr]
    simp only[cons_cons,List.cons_append,List.nil_append]
   | [x],_=>
    have hx:=(txt_tx hd (h8 x (by simp))).1
    simp only[idxE,idxK,List.nil_append,List.append_assoc,List.cons_append]
    rw[sk_name hnm (clean_c _ (by decide)),sk_solo (by decide),hx _ (clean_c _ (by decide)),sk_solo (by decide),sk_sp,sk_assign,sk_sp,hex r hr]
    simp only[cons_cons,List.cons_append,List.nil_append]
   | _::_::_,h=>simp at h
  have hop:2≤op∧op≤15:=by omega
  rw[if_neg a,if_neg a]
  by_cases b:op=2∨op=3
  ·rw[if_pos b,if_pos b]
   have hex:=(txt_tx hd (h9 (by rcases b with rfl | rfl<;>rfl))).1
   simp only[List.append_assoc,List.cons_append]
   rw[sk_wordE hop (sk_clean32 _),sk_sp,hex r hr]
   simp only[cons_cons,List.cons_append,List.nil_append]
  rw[if_neg b,if_neg b]
  by_cases c:op=7∨op=8
  ·rw[if_pos c,if_pos c]
   exact sk_wordE hop hr
  rw[if_neg c,if_neg c]
  have hnm:=h3 (by unfold namelessE;simp;omega)
  by_cases d:op=14
  ·rw[if_pos d,if_pos d]
   have hex:=(txt_tx hd (h9 (by subst d;rfl))).1
   simp only[List.append_assoc,List.cons_append]
   rw[sk_wordE hop (sk_clean32 _),sk_sp,sk_name hnm (sk_clean32 _),sk_sp,hex r hr]
   simp only[cons_cons,List.cons_append,List.nil_append]
  rw[if_neg d,if_neg d]
  by_cases e:op=15
  ·rw[if_pos e,if_pos e]
   simp only[List.append_assoc,List.cons_append]
   rw[sk_wordE hop (sk_clean32 _),sk_sp,sk_name hnm (sk_clean32 _),sk_sp,sk_name (h4 e) hr]
   simp only[cons_cons,List.cons_append,List.nil_append]
  rw[if_neg e,if_neg e]
  simp only[List.append_assoc,List.cons_append]
  rw[sk_wordE hop (sk_clean32 _),sk_sp,sk_name hnm hr]
  simp only[cons_cons,List.cons_append,List.nil_append]
theorem sk_lst{d:Nat}:∀ {l:List Sp},(∀ s∈l,∀ r,scanK (Sp.txt d s++r)=cons s.toks (scanK r))→∀ r,scanK (Sp.txts d l++r)=cons (Sp.tokss l) (scanK r)
 | [],_,r=>(cons_nil _).symm
 | s::l,h,r=>by
  simp only[Sp.txts,Sp.tokss,List.append_assoc]
  rw[h s List.mem_cons_self,sk_lst (fun s hs=>h s (List.mem_cons_of_mem _ hs)) r,cons_cons]
theorem sk_indE(d:Nat)(r:List UInt8):scanK (indE d++r)=scanK r:=sk_ind _ r
theorem sk_else{r:List UInt8}(hr:clean r):scanK (101::108::115::101::r)=cons [(3,elseW)] (scanK r):=sk_kw (w:=elseW) rfl (by decide) (by decide) (by decide) (by decide) hr
theorem stmt_sk(hd:DigRT){s:Sp}(h:ShS s):∀ (d:Nat) (r:List UInt8),scanK (s.txt d++r)=cons s.toks (scanK r):=by
 induction h with
 | @mk s h1 h2 h3 h4 h5 h6 h7 h8 h9 h10 h11 h12 h13 h14 ih1 ih2=>
  intro d r
  have hh:=head_tx hd (ShS.mk h1 h2 h3 h4 h5 h6 h7 h8 h9 h10 h11 h12 h13 h14)
  obtain⟨op,line,nm,arg,iz,it,idx,ex,bz,bt,body,ez,et,els⟩:=s
  simp only at h1 h2 h3 h4 h5 h6 h7 h8 h9 h10 h11 h12 h13 h14 ih1 ih2
  simp only[Sp.txt,Sp.toks]
  generalize headE ⟨op,line,nm,arg,iz,it,idx,ex,bz,bt,body,ez,et,els⟩=H at hh ⊢
  generalize headK ⟨op,line,nm,arg,iz,it,idx,ex,bz,bt,body,ez,et,els⟩=K at hh ⊢
  have i1:=sk_lst (d:=d+1) (l:=body) fun s hs r=>ih1 s hs (d+1) r
  have i2:=sk_lst (d:=d+1) (l:=els) fun s hs r=>ih2 s hs (d+1) r
  cases hb:bodyE op
  ·simp only[Bool.false_eq_true,if_false,List.append_assoc,List.cons_append,List.nil_append]
   rw[sk_indE,hh _ (clean_c _ (by decide)),sk_solo (by decide),sk_nl]
   simp only[cons_cons,List.cons_append,List.nil_append]
  ·simp only[if_true,List.append_assoc,List.cons_append,List.nil_append]
   rw[sk_indE,hh _ (sk_clean32 _),sk_sp,sk_solo (by decide),sk_nl,i1]
   cases he:els.isEmpty
   ·simp only[Bool.false_eq_true,if_false,List.append_assoc,List.cons_append,List.nil_append]
    rw[sk_indE,sk_solo (by decide),sk_sp,sk_else (sk_clean32 _),sk_sp,sk_solo (by decide),sk_nl,i2,sk_indE,sk_solo (by decide),sk_nl]
    simp only[cons_cons,List.cons_append,List.nil_append,List.append_assoc]
   ·simp only[if_true,List.append_assoc,List.cons_append,List.nil_append]
    rw[sk_indE,sk_solo (by decide),sk_nl]
    simp only[cons_cons,List.cons_append,List.nil_append,List.append_assoc]
/-! declarations -/
def declW(k:Int):List UInt8:=if k=1 then [118,97,114] else if k=2 then [118,111,108,97,116,105,108,101] else if k=3 then [109,117,116,101,120] else if k=4 then [114,119,108,111,99,107] else if k=5 then [99,111,110,100] else [102,117,116,117,114,101]
def initK(n:Int):List Kt:=if n=0 then [] else if n<0 then [(4,[61]),(4,[45]),(2,itoaE (-n))] else [(4,[61]),(2,itoaE n)]
def sizeK(n:Int):List Kt:=if n=0 then [] else [(4,[91]),(2,itoaE n),(4,[93])]
def declK(d:Dp):List Kt:=(3,declW d.kind)::(1,d.nm)::(sizeK d.size++(initK d.init++((if d.kind=5 then [(1,d.on)] else [])++[(4,[59])])))
theorem itoa_neg{n:Int}(h:n<0):itoaE n=45::itoaE (-n):=by
 unfold itoaE
 rw[if_pos h,if_neg (by omega),show(-n).toNat=n.natAbs by omega]
theorem init_sk(hd:DigRT){n:Int}(hn : -9223372036854775808<n∧n≤9223372036854775807){r:List UInt8}(hr:clean r):scanK (initE n++r)=cons (initK n) (scanK r):=by
 unfold initE initK
 by_cases h:n=0
 ·rw[if_pos h,if_pos h];exact(cons_nil _).symm
 rw[if_neg h,if_neg h]
 by_cases h2:n<0
 ·rw[if_pos h2,itoa_neg h2]
  simp only[List.cons_append]
  rw[sk_sp,sk_assign,sk_sp,sk_solo (by decide),sk_num hd (by omega) hr]
  simp only[cons_cons,List.cons_append,List.nil_append]
 ·rw[if_neg h2]
  simp only[List.cons_append]
  rw[sk_sp,sk_assign,sk_sp,sk_num hd (by omega) hr]
  simp only[cons_cons,List.cons_append,List.nil_append]
theorem init_clean(n:Int){r:List UInt8}(hr:clean r):clean (initE n++r):=by
 unfold initE
 split
 ·exact hr
 ·exact sk_clean32 _
theorem decl_sk(hd:DigRT){d:Dp}(h:ShD d)(r:List UInt8):scanK (declE d++59::10::r)=cons (declK d) (scanK r):=by
 obtain⟨kind,line,nm,size,init,on⟩:=d
 obtain⟨h1,h2,h3,h4,h5,h6⟩:=h
 simp only at h1 h2 h3 h4 h5 h6
 have c59:clean (59::10::r):=clean_c _ (by decide)
 have s59:scanK (59::10::r)=cons [(4,[59])] (scanK r):=by rw[sk_solo (by decide),sk_nl]
 have hw:kind=1∨kind=2∨kind=3∨kind=4∨kind=5∨kind=6:=by omega
 rcases hw with rfl | rfl | rfl | rfl | rfl | rfl
 ·simp only[declE,declK,declW,if_true,List.append_assoc,List.cons_append,List.nil_append]
  rw[show(118::97::114::32::(nm++((if size=0 then [] else 91::(itoaE size++[93]))++(initE init++59::10::r))))=[118,97,114]++32::(nm++((if size=0 then [] else 91::(itoaE size++[93]))++(initE init++59::10::r))) from rfl]
  rw[sk_kw rfl (by decide) (by decide) (by decide) (by decide) (sk_clean32 _),sk_sp]
  by_cases hz:size=0
  ·subst hz
   simp only[if_true,List.nil_append,sizeK]
   rw[sk_name h2 (init_clean _ c59),init_sk hd (by omega) c59,s59]
   simp[cons_cons]
  ·simp only[sizeK,hz,if_false,List.append_assoc,List.cons_append,List.nil_append]
   rw[sk_name h2 (clean_c _ (by decide)),sk_solo (by decide),sk_num hd (by omega) (clean_c _ (by decide)),sk_solo (by decide),init_sk hd (by omega) c59,s59]
   simp[cons_cons]
 ·have hz:size=0:=h3.2.2 (by omega)
  subst hz
  have e:declE ⟨2,line,nm,0,init,on⟩++59::10::r=[118,111,108,97,116,105,108,101]++32::(nm++(initE init++59::10::r)):=by simp[declE]
  rw[e,sk_kw rfl (by decide) (by decide) (by decide) (by decide) (sk_clean32 _),sk_sp,sk_name h2 (init_clean _ c59),init_sk hd (by omega) c59,s59]
  simp[cons_cons,declK,declW,sizeK]
 ·have hz:size=0:=h3.2.2 (by omega)
  have hi:init=0:=h4.2.2 (by omega) (by omega)
  subst hz hi
  have e:declE ⟨3,line,nm,0,0,on⟩++59::10::r=[109,117,116,101,120]++32::(nm++59::10::r):=by simp[declE]
  rw[e,sk_kw rfl (by decide) (by decide) (by decide) (by decide) (sk_clean32 _),sk_sp,sk_name h2 c59,s59]
  simp[cons_cons,declK,declW,sizeK,initK]
 ·have hz:size=0:=h3.2.2 (by omega)
  have hi:init=0:=h4.2.2 (by omega) (by omega)
  subst hz hi
  have e:declE ⟨4,line,nm,0,0,on⟩++59::10::r=[114,119,108,111,99,107]++32::(nm++59::10::r):=by simp[declE]
  rw[e,sk_kw rfl (by decide) (by decide) (by decide) (by decide) (sk_clean32 _),sk_sp,sk_name h2 c59,s59]
  simp[cons_cons,declK,declW,sizeK,initK]
 ·have hz:size=0:=h3.2.2 (by omega)
  have hi:init=0:=h4.2.2 (by omega) (by omega)
  subst hz hi
  have e:declE ⟨5,line,nm,0,0,on⟩++59::10::r=[99,111,110,100]++32::(nm++32::(on++59::10::r)):=by simp[declE]
  rw[e,sk_kw rfl (by decide) (by decide) (by decide) (by decide) (sk_clean32 _),sk_sp,sk_name h2 (sk_clean32 _),sk_sp,sk_name (h5 rfl) c59,s59]
  simp[cons_cons,declK,declW,sizeK,initK]
 ·have hz:size=0:=h3.2.2 (by omega)
  have hi:init=0:=h4.2.2 (by omega) (by omega)
  subst hz hi
  have e:declE ⟨6,line,nm,0,0,on⟩++59::10::r=[102,117,116,117,114,101]++32::(nm++59::10::r):=by simp[declE]
  rw[e,sk_kw rfl (by decide) (by decide) (by decide) (by decide) (sk_clean32 _),sk_sp,sk_name h2 c59,s59]
  simp[cons_cons,declK,declW,sizeK,initK]
theorem pNum_k(hnum:NumRT){n:Int}(hn:0≤n∧n≤9223372036854775807){ts:List Tk}{r:List Kt}(h:ts.map Tk.kt=(2,itoaE n)::r):∃ ts',pNum ts=some (n,ts')∧ts'.map Tk.kt=r:=by
 obtain⟨t,ts',rfl,h1,h2,h3⟩:=kt_cons h
 exact⟨ts',by unfold pNum;simp only;rw[if_pos h1,h2,hnum n hn],h3⟩
theorem rt_size(hnum:NumRT){n:Int}(hn:0≤n∧n≤9223372036854775807){ts:List Tk}{r:List Kt}(hr:isK [91] r=false)(h:ts.map Tk.kt=sizeK n++r):∃ ts',pSize ts=some (n,ts')∧ts'.map Tk.kt=r:=by
 unfold sizeK at h
 unfold pSize
 by_cases hz:n=0
 ·rw[if_pos hz,List.nil_append]at h
  rw[if_neg (by rw[isT_map,h,hr];simp),hz]
  exact⟨ts,rfl,h⟩
 ·rw[if_neg hz]at h
  simp only[List.cons_append,List.nil_append]at h
  obtain⟨t,ts1,rfl,k1,k2,k3⟩:=kt_cons h
  obtain⟨ts2,a1,a2⟩:=pNum_k hnum hn k3
  obtain⟨ts3,b1,b2⟩:=pTok_k a2
  rw[if_pos (isT_same (.inr rfl) k1 k2),List.tail_cons,a1]
  simp only
  rw[if_neg hz,b1]
  exact⟨ts3,rfl,b2⟩
theorem rt_init(hnum:NumRT){n:Int}(hn : -9223372036854775808<n∧n≤9223372036854775807){ts:List Tk}{r:List Kt}(hr:isK [61] r=false)(h:ts.map Tk.kt=initK n++r):∃ ts',pInit ts=some (n,ts')∧ts'.map Tk.kt=r:=by
 unfold initK at h
 unfold pInit
 by_cases hz:n=0
 ·rw[if_pos hz,List.nil_append]at h
  rw[if_neg (by rw[isT_map,h,hr];simp),hz]
  exact⟨ts,rfl,h⟩
 rw[if_neg hz]at h
 by_cases hm:n<0
 ·rw[if_pos hm]at h
  simp only[List.cons_append,List.nil_append]at h
  obtain⟨t,ts1,rfl,k1,k2,k3⟩:=kt_cons h
  obtain⟨t2,ts2,rfl,k4,k5,k6⟩:=kt_cons k3
  obtain⟨ts3,a1,a2⟩:=pNum_k hnum (by omega) k6
  rw[if_pos (isT_same (.inr rfl) k1 k2),List.tail_cons,if_pos (isT_same (.inr rfl) k4 k5),List.tail_cons,a1]
  exact⟨ts3,by simp,a2⟩
 ·rw[if_neg hm]at h
  simp only[List.cons_append,List.nil_append]at h
  obtain⟨t,ts1,rfl,k1,k2,k3⟩:=kt_cons h
  obtain⟨t2,ts2,rfl,k4,k5,k6⟩:=kt_cons k3
  rw[if_pos (isT_same (.inr rfl) k1 k2),List.tail_cons,if_neg (by rw[isT_k (.inr k4)];simp)]
  obtain⟨ts3,a1,a2⟩:=pNum_k hnum (by omega) k3
  exact⟨ts3,a1,a2⟩
theorem declT_W{k:Int}(h:1≤k∧k≤6):declT (declW k)=k:=by
 have hw:k=1∨k=2∨k=3∨k=4∨k=5∨k=6:=by omega
 rcases hw with rfl | rfl | rfl | rfl | rfl | rfl<;>rfl
theorem sameD_mk{d d':Dp}(h1:d.kind=d'.kind)(h2:d.nm=d'.nm)(h3:d.size=d'.size)(h4:d.init=d'.init)(h5:d.on=d'.on):sameD d d'=true:=by
 unfold sameD
 rw[h1,h2,h3,h4,h5]
 simp
theorem rt_decl(hnum:NumRT){d:Dp}(h:ShD d){ts:List Tk}{r:List Kt}(hm:ts.map Tk.kt=declK d++r):isDecl ts=true∧∃ d' ts',pDecl ts=some (d',ts')∧ts'.map Tk.kt=r∧sameD d d'=true:=by
 obtain⟨kind,line,nm,size,init,on⟩:=d
 obtain⟨h1,h2,h3,h4,h5,h6⟩:=h
 simp only at h1 h2 h3 h4 h5 h6
 simp only[declK,List.cons_append,List.append_assoc,List.nil_append]at hm
 obtain⟨t,ts1,rfl,k1,k2,k3⟩:=kt_cons hm
 obtain⟨ts2,a1,a2⟩:=pName_k k3
 have hdt:=declT_W h1
 refine⟨by simp only[isDecl];rw[k1,k2,hdt];simp;omega,?_⟩
 simp only[pDecl,a1]
 rw[k2,hdt]
 by_cases e1:kind=1
 ·subst e1
  rw[if_pos rfl]
  rw[if_neg (by decide),List.nil_append]at a2
  obtain⟨ts3,b1,b2⟩:=rt_size hnum (n:=size) (by omega) (by
   unfold initK
   split
   ·rfl
   ·split<;>rfl) a2
  obtain⟨ts4,c1,c2⟩:=rt_init hnum (n:=init) (by omega) rfl b2
  obtain⟨ts5,d1,d2⟩:=pTok_k c2
  rw[b1]
  simp only
  rw[c1]
  simp only
  rw[d1]
  exact⟨_,_,rfl,d2,sameD_mk rfl rfl rfl rfl (h6 (by decide))⟩
 have hz:size=0:=h3.2.2 e1
 subst hz
 rw[if_neg e1]
 simp only[sizeK,if_true,List.nil_append]at a2
 by_cases e2:kind=2
 ·subst e2
  rw[if_pos rfl]
  rw[if_neg (by decide),List.nil_append]at a2
  obtain⟨ts4,c1,c2⟩:=rt_init hnum (n:=init) (by omega) rfl a2
  obtain⟨ts5,d1,d2⟩:=pTok_k c2
  rw[c1]
  simp only
  rw[d1]
  exact⟨_,_,rfl,d2,sameD_mk rfl rfl rfl rfl (h6 (by decide))⟩
 have hi:init=0:=h4.2.2 e1 e2
 subst hi
 rw[if_neg e2]
 simp only[initK,if_true,List.nil_append]at a2
 by_cases e5:kind=5
 ·subst e5
  rw[if_pos rfl]
  simp only[if_true,List.cons_append,List.nil_append]at a2
  obtain⟨ts3,b1,b2⟩:=pName_k a2
  obtain⟨ts5,d1,d2⟩:=pTok_k b2
  rw[b1]
  simp only
  rw[d1]
  exact⟨_,_,rfl,d2,sameD_mk rfl rfl rfl rfl rfl⟩
 ·rw[if_neg e5]
  rw[if_neg e5,List.nil_append]at a2
  obtain⟨ts5,d1,d2⟩:=pTok_k a2
  rw[d1]
  exact⟨_,_,rfl,d2,sameD_mk rfl rfl rfl rfl (h6 e5)⟩
theorem rt_decls(hnum:NumRT){r:List Kt}(hr:r≠[]→∃ r',r=(3,thrW)::r'):∀ {l:List Dp},(∀ d∈l,ShD d)→∀ {n:Nat} {ts:List Tk},ts.map Tk.kt=(l.map declK).flatten++r→l.length<n→∃ l' ts',pDecls n ts=some (l',ts')∧ts'.map Tk.kt=r∧l.length=l'.length∧((l.zip l').all fun p=>sameD p.1 p.2)=true
 | [],_,n,ts,hm,hn=>by
  obtain⟨n,rfl⟩:∃ k,n=k+1:=⟨n - 1,by omega⟩
  simp only[List.map_nil,List.flatten_nil,List.nil_append]at hm
  refine⟨[],ts,?_,hm,rfl,rfl⟩
  rw[pDecls,if_neg ?_]
  cases ts with
  | nil=>simp[isDecl]
  | cons t ts=>
   obtain⟨r',e⟩:=hr (by rw[←hm];simp)
   rw[e]at hm
   obtain⟨t',ts',e2,k1,k2,k3⟩:=kt_cons hm
   cases e2
   simp only[isDecl]
   rw[k2]
   rw[show declT thrW=0 from rfl]
   simp
 | d::l,h,n,ts,hm,hn=>by
  obtain⟨n,rfl⟩:∃ k,n=k+1:=⟨n - 1,by simp at hn;omega⟩
  simp only[List.map_cons,List.flatten_cons,List.append_assoc]at hm
  obtain⟨h1,d',ts1,h2,h3,h4⟩:=rt_decl hnum (h d List.mem_cons_self) hm
  obtain⟨l',ts2,a1,a2,a3,a4⟩:=rt_decls hnum hr (l:=l) (fun d hd=>h d (List.mem_cons_of_mem _ hd)) (n:=n) h3 (by simp at hn;omega)
  refine⟨d'::l',ts2,?_,a2,by simp[a3],by simp[h4];simpa using a4⟩
  rw[pDecls,if_pos h1,h2]
  simp only
  rw[a1]
/-! threads -/
def locK:List (List UInt8)→List Kt
 | []=>[]
 | [a]=>[(1,a)]
 | a::b::l=>(1,a)::(4,[44])::locK (b::l)
def thrK(t:Tp):List Kt:=(3,thrW)::(1,t.nm)::(4,[40])::(locK t.locals++(4,[41])::(4,[123])::(Sp.tokss t.body++[(4,[125])]))
def progK(p:Gp):List Kt:=(p.decls.map declK).flatten++(p.thrs.map thrK).flatten
theorem loc_sk:∀ {l:List (List UInt8)},(∀ s∈l,isNameE s=true)→∀ r,clean r→scanK (joinE l++r)=cons (locK l) (scanK r)
 | [],_,r,_=>(cons_nil _).symm
 | [a],h,r,hr=>sk_name (h a (by simp)) hr
 | a::b::l,h,r,hr=>by
  simp only[joinE,locK,List.append_assoc,List.cons_append]
  rw[sk_name (h a (by simp)) (clean_c _ (by decide)),sk_solo (by decide),sk_sp,loc_sk (l:=b::l) (fun s hs=>h s (List.mem_cons_of_mem _ hs)) r hr]
  simp only[cons_cons,List.cons_append,List.nil_append]
theorem thr_sk(hd:DigRT){t:Tp}(h1:isNameE t.nm=true)(h2:∀ s∈t.locals,isNameE s=true)(h3:∀ s∈t.body,ShS s)(r:List UInt8):scanK (thrE t++r)=cons (thrK t) (scanK r):=by
 have e:thrE t++r=thrW++32::(t.nm++40::(joinE t.locals++41::32::123::10::(Sp.txts 1 t.body++125::10::r))):=by simp[thrE,thrW]
 rw[e,sk_kw (w:=thrW) rfl (by decide) (by decide) (by decide) (by decide) (sk_clean32 _),sk_sp,sk_name h1 (clean_c _ (by decide)),sk_solo (by decide),loc_sk h2 _ (clean_c _ (by decide)),sk_solo (by decide),sk_sp,sk_solo (by decide),sk_nl,
  sk_lst (d:=1) (fun s hs r=>stmt_sk hd (h3 s hs) 1 r),sk_solo (by decide),sk_nl]
 simp only[cons_cons,thrK,List.cons_append,List.nil_append,List.append_assoc]
theorem prog_sk(hd:DigRT){p:Gp}(h:ShG p):scanK (progE p)=some (progK p):=by
 have a:∀ (l:List Dp),(∀ d∈l,ShD d)→∀ r,scanK ((l.map fun d=>declE d++[59,10]).flatten++r)=cons ((l.map declK).flatten) (scanK r):=by
  intro l
  induction l with
  | nil=>intro _ r;exact(cons_nil _).symm
  | cons d l ih=>
   intro hl r
   simp only[List.map_cons,List.flatten_cons,List.append_assoc,List.cons_append,List.nil_append]
   rw[decl_sk hd (hl d List.mem_cons_self),ih (fun d hd=>hl d (List.mem_cons_of_mem _ hd)),cons_cons]
 have b:∀ (l:List Tp),(∀ t∈l,isNameE t.nm=true)→(∀ t∈l,∀ s∈t.locals,isNameE s=true)→(∀ t∈l,∀ s∈t.body,ShS s)→∀ r,scanK ((l.map thrE).flatten++r)=cons ((l.map thrK).flatten) (scanK r):=by
  intro l
  induction l with
  | nil=>intro _ _ _ r;exact(cons_nil _).symm
  | cons t l ih=>
   intro h1 h2 h3 r
   simp only[List.map_cons,List.flatten_cons,List.append_assoc]
   rw[thr_sk hd (h1 t List.mem_cons_self) (h2 t List.mem_cons_self) (h3 t List.mem_cons_self),ih (fun t ht=>h1 t (List.mem_cons_of_mem _ ht)) (fun t ht=>h2 t (List.mem_cons_of_mem _ ht)) (fun t ht=>h3 t (List.mem_cons_of_mem _ ht)),cons_cons]
 unfold progE progK
 rw[a p.decls h.decls,show(p.thrs.map thrE).flatten=(p.thrs.map thrE).flatten++[] by simp,b p.thrs h.nms h.locs h.thrs,sk_nil]
 simp[cons]
theorem rt_loc:∀ {l:List (List UInt8)},l≠[]→∀ {n:Nat} {ts:List Tk} {r:List Kt},ts.map Tk.kt=locK l++(4,[41])::r→l.length≤n→∃ ts',pLoc n ts=some (l,ts')∧ts'.map Tk.kt=r
 | [],h,_,_,_,_,_=>absurd rfl h
 | [a],_,n,ts,r,hm,hn=>by
  obtain⟨n,rfl⟩:∃ k,n=k+1:=⟨n - 1,by simp at hn;omega⟩
  obtain⟨ts1,a1,a2⟩:=pName_k (r:=(4,[41])::r) hm
  obtain⟨ts2,b1,b2⟩:=pTok_k a2
  refine⟨ts2,?_,b2⟩
  rw[pLoc,a1]
  simp only
  rw[if_neg (by rw[isT_map,a2];simp[isK]),b1]
  rfl
 | a::b::l,_,n,ts,r,hm,hn=>by
  obtain⟨n,rfl⟩:∃ k,n=k+1:=⟨n - 1,by simp at hn;omega⟩
  obtain⟨ts1,a1,a2⟩:=pName_k (r:=(4,[44])::(locK (b::l)++(4,[41])::r)) hm
  obtain⟨t2,ts2,rfl,k1,k2,k3⟩:=kt_cons a2
  obtain⟨ts3,b1,b2⟩:=rt_loc (l:=b::l) (by simp) (n:=n) k3 (by simp at hn ⊢;omega)
  refine⟨ts3,?_,b2⟩
  rw[pLoc,a1]
  simp only
  rw[if_pos (isT_same (.inr rfl) k1 k2),List.tail_cons,b1]
theorem rt_locs{l:List (List UInt8)}{n:Nat}{ts:List Tk}{r:List Kt}(hm:ts.map Tk.kt=locK l++(4,[41])::r)(hn:l.length≤n):∃ ts',pLocs n ts=some (l,ts')∧ts'.map Tk.kt=r:=by
 unfold pLocs
 by_cases h:l=[]
 ·subst h
  obtain⟨t,ts',rfl,k1,k2,k3⟩:=kt_cons (r:=r) hm
  rw[if_pos (isT_same (.inr rfl) k1 k2)]
  exact⟨ts',rfl,k3⟩
 ·obtain⟨ts',a1,a2⟩:=rt_loc h hm hn
  refine⟨ts',?_,a2⟩
  rw[if_neg ?_,a1]
  rw[isT_map,hm]
  match l with
  | []=>exact absurd rfl h
  | [a]=>simp[locK,isK]
  | a::b::l=>simp[locK,isK]
theorem sameT_mk{t t':Tp}(h1:t.nm=t'.nm)(h2:t.locals=t'.locals)(h3:sameSs t.body t'.body=true):sameT t t'=true:=by
 unfold sameT
 rw[h1,h2,h3]
 simp
theorem locK_len:∀ l:List (List UInt8),l.length≤(locK l).length
 | []=>Nat.le_refl _
 | [a]=>Nat.le_refl _
 | a::b::l=>by
  have:=locK_len (b::l)
  simp only[locK,List.length_cons]at this ⊢
  omega
theorem rt_thr(hnum:NumRT){t:Tp}(h:∀ s∈t.body,ShS s){n:Nat}{ts:List Tk}{r:List Kt}(hm:ts.map Tk.kt=thrK t++r)(hn:10*ts.length+2≤n):∃ t' ts',pThr n ts=some (t',ts')∧ts'.map Tk.kt=r∧sameT t t'=true:=by
 have hl:=len_k hm
 simp only[thrK,List.cons_append,List.append_assoc,List.nil_append]at hm
 obtain⟨t0,ts1,rfl,k1,k2,k3⟩:=kt_cons hm
 obtain⟨ts2,a1,a2⟩:=pName_k k3
 obtain⟨ts3,b1,b2⟩:=pTok_k a2
 have hlk:=locK_len t.locals
 simp only[thrK,List.length_cons,List.length_append,List.length_nil]at hl
 rw[List.length_cons]at hn
 obtain⟨ts4,c1,c2⟩:=rt_locs (n:=n) b2 (by omega)
 have hl4:=len_k c2
 simp only[List.length_cons,List.length_append]at hl4
 obtain⟨l',ts5,d1,d2,d3⟩:=rt_block h (fun s hs=>rt_stmt hnum (h s hs)) (n:=n) c2 (by omega)
 refine⟨_,ts5,?_,d2,sameT_mk (t':=⟨t.nm,t0.line,true,0,t.locals,true,0,l'⟩) rfl rfl d3⟩
 simp only[pThr,a1]
 rw[b1]
 simp only
 rw[c1]
 simp only
 rw[d1]
theorem rt_thrs(hnum:NumRT){m:Nat}:∀ {l:List Tp},(∀ t∈l,∀ s∈t.body,ShS s)→∀ {n:Nat} {ts:List Tk},ts.map Tk.kt=(l.map thrK).flatten→10*ts.length+2≤m→l.length<n→∃ l',pThrs m n ts=some (l',[])∧l.length=l'.length∧((l.zip l').all fun p=>sameT p.1 p.2)=true
 | [],_,n,ts,hm,_,hn=>by
  obtain⟨n,rfl⟩:∃ k,n=k+1:=⟨n - 1,by omega⟩
  have:ts=[]:=by simpa using hm
  subst this
  exact⟨[],by rw[pThrs,if_neg (by simp[isT])],rfl,rfl⟩
 | t::l,h,n,ts,hm,hb,hn=>by
  obtain⟨n,rfl⟩:∃ k,n=k+1:=⟨n - 1,by simp at hn;omega⟩
  simp only[List.map_cons,List.flatten_cons]at hm
  obtain⟨t',ts1,a1,a2,a3⟩:=rt_thr hnum (h t List.mem_cons_self) hm hb
  have hl:=len_k hm
  have hl1:=len_k a2
  rw[List.length_append]at hl
  obtain⟨l',b1,b2,b3⟩:=rt_thrs hnum (m:=m) (l:=l) (fun t ht=>h t (List.mem_cons_of_mem _ ht)) (n:=n) a2 (by omega) (by simp at hn;omega)
  refine⟨t'::l',?_,by simp[b2],by simp[a3];simpa using b3⟩
  have hth:isT thrW ts=true:=by
   rw[isT_map,hm]
   simp[thrK,isK]
  rw[pThrs,if_pos hth,a1]
  simp only
  rw[b1]
theorem flat_ge{α:Type}(f:α→List Kt)(hf:∀ x,1≤(f x).length):∀ l:List α,l.length≤((l.map f).flatten).length
 | []=>Nat.le_refl _
 | x::l=>by
  have:=flat_ge f hf l
  have:=hf x
  simp only[List.map_cons,List.flatten_cons,List.length_append,List.length_cons]
  omega
theorem rt_prog(hnum:NumRT){p:Gp}(h:ShG p){ts:List Tk}(hm:ts.map Tk.kt=progK p):∃ p',pProg ts=some (p',[])∧sameG p p'=true:=by
 have hl:=len_k hm
 unfold progK at hm hl
 have g1:=flat_ge declK (fun d=>by simp[declK]) p.decls
 have g2:=flat_ge thrK (fun t=>by simp[thrK]) p.thrs
 rw[List.length_append]at hl
 obtain⟨l1,ts1,a1,a2,a3,a4⟩:=rt_decls hnum (r:=(p.thrs.map thrK).flatten) (fun hne=>by
  match hp:p.thrs with
  | []=>rw[hp]at hne;exact absurd rfl hne
  | t::l=>simp[thrK]) h.decls (n:=ts.length+1) hm (by omega)
 have hl1:=len_k a2
 obtain⟨l2,b1,b2,b3⟩:=rt_thrs hnum (m:=fuelT ts.length) (l:=p.thrs) h.thrs (n:=ts.length+1) a2 (by unfold fuelT;omega) (by omega)
 have hne:l2.isEmpty=false:=by
  cases l2 with
  | nil=>exact absurd (List.length_eq_zero_iff.1 b2) h.some
  | cons _ _=>rfl
 refine⟨⟨true,0,l1,true,0,l2⟩,?_,?_⟩
 ·unfold pProg
  rw[a1]
  simp only
  rw[b1]
  simp only
  rw[if_neg (by rw[hne];simp)]
 ·unfold sameG
  simp only[a3,b2,a4,b3,beq_self_eq_true,Bool.and_self]
theorem parse_text(hd:DigRT)(hnum:NumRT){p:Gp}(h:ShG p)(hl:(progE p).length≤4096):∃ p',parseE (progE p)=some p'∧sameG p p'=true:=by
 have hs:=prog_sk hd h
 unfold scanK kts at hs
 obtain⟨ts,h1,h2⟩:=Option.map_eq_some_iff.1 hs
 obtain⟨p',h3,h4⟩:=rt_prog hnum h h2
 refine⟨p',?_,h4⟩
 unfold parseE
 rw[if_neg (by omega),h1]
 simp only
 rw[h3]
end Go.Proofs.YtlehfgdhebapeaaGreatDoor.KM
