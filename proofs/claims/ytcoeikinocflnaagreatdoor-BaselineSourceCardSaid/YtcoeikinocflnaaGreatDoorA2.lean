/- THE PLAIN MACHINE, joined texts: Kj Kk Kl Km Kn Ko Kp Kq. -/
import Derived.Test.YtcoeikinocflnaaGreatDoorA1
import Derived.Lib.AppendStr
import Derived.Laws.BytesArg
import Derived.Laws.BytesString
import Derived.Lib.ConvBytes
import Derived.Laws.StructEq
import Derived.Orders
set_option linter.all false
/- append (second form). -/
namespace Go.Proofs.YtcoeikinocflnaaGreatDoor.KM
open Go Go.RowKit
variable {P:Program} {G:List (Nat × List V)} {N:Nat} {γ:Gh} {σ σ1:St} {w:World} {e:Env} {a:Act} {o:Oper} {v:V}
def CellsIn(γ:Gh)(w:World)(cs:List V)(us:List Value):Prop:=cs.length=us.length/\∀ j,j<cs.length->RepC γ w (cs.getD j .und) (us.getD j undef)
theorem CellsIn.ext{γ γ':Gh}{w w':World}{cs:List V}{us:List Value}(hx:Ext γ w γ' w')(h:CellsIn γ w cs us):CellsIn γ' w' cs us:=⟨h.1,fun j hj=>(h.2 j hj).ext hx⟩
theorem CellsIn.app{cs ds:List V}{us vs:List Value}(h:CellsIn γ w cs us)(g:CellsIn γ w ds vs):CellsIn γ w (cs++ds) (us++vs):=by
 refine⟨by simp[h.1,g.1],fun j hj=>?_⟩;simp only[Aq];by_cases hl:j<cs.length
 ·rw[Co hl,Co (by rw[<-h.1];exact hl)];simpa[Aq] using h.2 j hl
 ·rw[Cf (by omega),Cf (by rw[<-h.1];omega),<-h.1];have:=g.2 (j - cs.length) (by simp at hj;omega);simpa[Aq] using this
theorem CellsIn.one{cs:List V}{us:List Value}(h:CellsIn γ w cs us):∀ u∈us,u.oneCell'=true:=by
 intro u hu;obtain⟨j,hj,rfl⟩:=Ng hu;have:=(Nj (h.2 j (by rw[h.1];exact hj))).2;simpa[Aq,hj] using this
theorem Nm{m:Nat}:∀ {xs:List (List V)},(∀ i,i<xs.length->(xs.getD i []).length=m)->xs.flatten.length=xs.length*m
 | [],_=>by simp
 | x::xs,h=>by
  have h0:x.length=m:=by simpa using h 0 (by simp)
  rw[E9,Ao,Nm (m:=m) (xs:=xs) (fun i hi=>by simpa using h (i+1) (by simpa using hi)),h0,Am,D9];omega
theorem Aa8{m:Nat}:∀ {xs:List (List V)},(∀ i,i<xs.length->(xs.getD i []).length=m)->∀ i j,i<xs.length->j<m->xs.flatten.getD (i*m+j) .und=(xs.getD i []).getD j .und
 | [],_,i,j,hi,_=>by simp at hi
 | x::xs,h,i,j,hi,hj=>by
  have h0:x.length=m:=by simpa using h 0 (by simp)
  have hr:∀ i,i<xs.length->(xs.getD i []).length=m:=fun i hi=>by simpa using h (i+1) (by simpa using hi)
  cases i with
  | zero=>
   simp only[Aq,E9,Aab,Ez];rw[Co (by omega)];rfl
  | succ i=>
   have ih:=Aa8 hr i j (by simpa using hi) hj;simp only[Aq,E9]at ih ⊢;rw[Cf (by rw[h0,D9];omega),show(i+1)*m+j - x.length=i*m+j by rw[h0,D9];omega,ih];simp
theorem Tj(m:Nat):∀ (n:Nat) (cs:List V),n*m<=cs.length->(Em m n cs).flatten=cs.take (n*m)
 | 0,cs,_=>by simp[Em]
 | n+1,cs,h=>by
  rw[D9]at h;rw[Em,E9,Tj m n _ (by simp;omega),D9,Wk (n*m) m,List.take_add]
theorem Z8{xs:List (List V)}{ad:Addr}{cap m:Nat}(hm:0<m)(hw:∀ i,i<xs.length->(xs.getD i []).length=m)(h:RepR γ.κ w (.lst 0 xs) (.slice (some ad) xs.length cap)):
  ∃ us:List Value,CellsIn γ w xs.flatten us/\∀ j u,us[j]?=some u->w.cell? (ad.add j)=some u:=by
 cases h with
 | @lst _ _ _ _ m' row h1 h2 h3 h4 h5 h6 h7=>
 have H4:=Lib.hid h4;clear h4;have hmm:0<xs.length->m'=m:=fun hl=>by rw[<-h5 0 hl,hw 0 hl]
 refine⟨(List.range (xs.length*m)).map fun q=>row (q / m) (q % m),⟨by rw[Nm hw];simp,fun j hj=>?_⟩,fun j u hj=>?_⟩
 ·rw[Nm hw]at hj
  have hl:0<xs.length:=by
   rcases Sz xs.length with h | h
   ·rw[h]at hj;simp at hj
   ·exact h
  obtain rfl:=hmm hl;have hd:j / m'<xs.length:=Nat.div_lt_of_lt_mul (by rw[Qq];exact hj);have hr:j % m'<m':=Mi _ hm;have hdm:j / m'*m'+j % m'=j:=by rw[Qq];exact Nat.div_add_mod j m'
  have e0:=Aa8 hw (j / m') (j % m') hd hr;rw[hdm]at e0;rw[e0]
  have e1:((List.range (xs.length*m')).map fun q=>row (q / m') (q % m')).getD j undef=row (j / m') (j % m'):=by
   simp[Aq,hj]
  rw[e1];exact .row (h7 _ _ hd hr)
 ·have hj':j<xs.length*m:=by
   have:=(Ar.1 hj).1;simpa using this
  have hl:0<xs.length:=by
   rcases Sz xs.length with h | h
   ·rw[h]at hj';simp at hj'
   ·exact h
  obtain rfl:=hmm hl;have hs:=(H4.out hl).1;have hd:j / m'<xs.length:=Nat.div_lt_of_lt_mul (by rw[Qq];exact hj');have hr:j % m'<m':=Mi _ hm;have hc:=h6 (j / m') (j % m') hd hr;have hdm:j / m'*m'+j % m'=j:=by rw[Qq];exact Nat.div_add_mod j m'
  rw[S7,hdm]at hc;simp[hj']at hj;subst hj;obtain⟨b,of,sp⟩:=ad;simp at hs;subst hs;rw[Ia];exact hc
theorem Zx{o:Obj}(h:N<=w.heap.size):Below N w (w.drew.alloc o):=((Below.refl N w).drew).alloc h o
theorem Ag1{us:List Value}{pad:Array Value}{j:Nat}(h:j<us.length):(us.toArray++pad).getD j undef=us.getD j undef:=by
 rw[Array.getD_eq_getD_getElem?,Array.getElem?_append_left (by simpa using h),Ot,Aq]
theorem Ag2{cs:List V}{us:List Value}{pad:Array Value}{el:TypeId}{n cap m:Nat}{r:Result Next}(hI:Inv G N γ σ w)(hc:CellsIn γ w cs us)(hn:n<=cap)(hcm:cap<=maxLen)(hsz:(us.toArray++pad).size=cap*m)
  (h:r=.ok (.value (.slice (some ⟨w.heap.size,0,none⟩) n cap)) (w.drew.alloc (.cells (us.toArray++pad) el))):Cb P G N γ σ w r (.sl σ.length 0 0 n m true) (σ++[.row cs el 0 0]):=by
 obtain⟨d1,d2⟩:=hI.drew
 obtain⟨i1,i2⟩:=d1.newRow (us.toArray++pad) el cs (by rw[hc.1];simp) (fun j hj=>by
  rw[Ag1 (by rw[<-hc.1];exact hj)]
  exact(hc.2 j hj).ext d2)
 refine⟨_,_,_,.inl h,Cv (X5 ?_ ?_ hn hcm),i1,d2.trans i2,Zx hI.base,fun b hb=>Ji _ _ (by have:=hI.base;show b≠w.heap.size;omega)⟩
 ·show(γ.O++[(w.heap.size,0)])[σ.length]?=_;rw[<-hI.len];simp
 ·have:=Tu w.drew (us.toArray++pad) el (0,0);rw[show w.drew.heap.size=w.heap.size from rfl]at this;rw[this,hsz]
theorem Ab9{x:V}{ux:Value}{ys:List (List V)}{news:List Value}{m bytes:Nat}{el:TypeId}{r:Result Next}(hI:Inv G N γ σ w)(hx:RepV γ w x ux)(hy:CellsIn γ w ys.flatten news)
  (rzero:ys.length=0->∀ (b:Option Addr) (n c:Nat),n<=c->ux=.slice b n c->r=.ok (.value (.slice b n c)) w)
  (rnil:0<ys.length->ys.length*bytes<=140737488355328->ux=.slice none 0 0->∃ cap pad,r=.ok (.value (.slice (some ⟨w.heap.size,0,none⟩) ys.length cap)) (w.drew.alloc (.cells (news.toArray++pad) el))/\ys.length<=cap/\cap<=maxLen/\(news.toArray++pad).size=cap*m)
  (rroom:∀ (g n cap:Nat) (cur:Array Value) (e':TypeId) (fz:Nat × Nat),w.heap[g]?=some (.cells cur e' fz)->(fz.2<=n*m\/cur.size<=fz.1)->0<ys.length->n+ys.length<=cap->cur.size=cap*m->ux=.slice (some ⟨g,0,none⟩) n cap ->
   r=.ok (.value (.slice (some ⟨g,0,none⟩) (n+ys.length) cap)) (w.setRow g (cur.toList.take (n*m)++news++cur.toList.drop (n*m+news.length)).toArray))
  (rgrow:∀ (b:Addr) (n cap:Nat) (olds:List Value),olds.length=n*m->(∀ j u,olds[j]?=some u->w.cell? (b.add j)=some u)->0<ys.length->cap<n+ys.length->(n+ys.length)*bytes<=140737488355328->n+ys.length<=maxLen->ux=.slice (some b) n cap ->
   ∃ cap' pad,r=.ok (.value (.slice (some ⟨w.heap.size,0,none⟩) (n+ys.length) cap')) (w.drew.alloc (.cells (olds.toArray++news.toArray++pad) el))/\n+ys.length<=cap'/\cap'<=maxLen/\(olds.toArray++news.toArray++pad).size=cap'*m)
  (hb63:∀ k,k*bytes<=140737488355328->k<=maxLen)
  (h:I5 bytes (m,el) σ x ys=some (v,σ1)):Cb P G N γ σ w r v σ1:=by
 have hempty:ys.isEmpty=true↔ys.length=0:=by cases ys<;>simp
 unfold I5 at h
 split at h
 ·rename_i hall0;obtain⟨hall,hm⟩:=hall0;have hm:0<m:=hm
  have hwy:∀ i,i<ys.length->(ys.getD i []).length=m:=fun i hi=>by
   have:=Bd.1 hall (ys.getD i []) (by rw[Aq,A0 hi];exact Fa hi);exact eq_of_beq this
  have hnl:news.length=ys.length*m:=by rw[<-hy.1,Nm hwy]
  split at h
  ·have hu:=Jj (Aw rfl hx)
   split at h
   ·rename_i hbytes
    split at h
    ·rename_i hy0;cases h;exact B3 hI (rzero (hempty.1 hy0) none 0 0 (Ah _) hu) (Cv (.row .nils))
    ·rename_i hy0;cases h;have hpos:0<ys.length:=Nat.pos_of_ne_zero fun h=>hy0 (hempty.2 h)
     obtain⟨cap,pad,hr,hc1,hc2,hc3⟩:=rnil hpos hbytes hu;exact Ag2 hI hy hc1 hc2 hc3 hr
   ·cases h
  ·rename_i t xs;have hxc:=Aw rfl hx;obtain⟨ad,cap,hu,hR,hcap1⟩:=Mm hxc
   split at h
   ·rename_i hbytes
    split at h
    ·rename_i hy0;cases h;exact B3 hI (rzero (hempty.1 hy0) _ _ _ (by cases hR with | lst row h1 h2 h3=>exact h2) hu) (by rw[<-hu];exact hx)
    ·rename_i hy0;have hpos:0<ys.length:=Nat.pos_of_ne_zero fun h=>hy0 (hempty.2 h)
     split at h
     ·rename_i ht;cases h
      have hw:∀ i,i<xs.length->(xs.getD i []).length=m:=fun i hi=>by
       have:=Bd.1 ht.2 (xs.getD i []) (by rw[Aq,A0 hi];exact Fa hi);exact eq_of_beq this
      obtain⟨olds,ho1,ho2⟩:=Z8 hm hw hR;have hc0:=hcap1 ht.1;obtain⟨cap',pad,hr,hc1,hc2,hc3⟩:=rgrow ad xs.length cap olds (by rw[<-ho1.1,Nm hw]) ho2 hpos (by omega) hbytes (hb63 _ hbytes) hu;rw[show olds.toArray++news.toArray=(olds++news).toArray by simp]at hr hc3;exact Ag2 hI (ho1.app hy) hc1 hc2 hc3 hr
     ·cases h
   ·cases h
  ·rename_i i g off len m' own;have hxc:=Aw rfl hx
   split at h
   ·rename_i hbm;obtain⟨hbytes,hmm⟩:=hbm;obtain rfl:m=m':=Eq.symm hmm
    split at h
    ·rename_i cs ee g' z hcs
     split at h
     ·rename_i hg;subst hg;obtain⟨blk,cap,o',hb,hu,ho',hsz,hcap,hmax⟩:=Uc (o':=0) hI hxc (by simp[K1,hcs]);obtain⟨_,hkz,hzl,us,lo,hi,g1,⟨_,gfr⟩,g2,g3⟩:=hI.obj i _ _ hcs hb
      split at h
      ·rename_i hy0;cases h;exact B3 hI (rzero (hempty.1 hy0) _ _ _ hcap hu) (by rw[<-hu];exact hx)
      ·rename_i hy0;have hpos:0<ys.length:=Nat.pos_of_ne_zero fun h=>hy0 (hempty.2 h)
       split at h
       ·rename_i hc;obtain⟨hown,rfl,hel,hzlen⟩:=hc;obtain rfl:el=ee:=Eq.symm hel;have hus:us.size=cap*m:=by have:=hsz hown;simp[Dk,g1]at this;exact this
        have g1:w.heap[blk]?=some (.cells us el (lo,hi)):=g1;have hadd:(len+ys.length)*m=len*m+ys.length*m:=Lk _ _ _
        have hfr:hi<=len*m\/us.size<=lo:=by
         rcases gfr with h | h
         ·exact .inl (by omega)
         ·exact .inr h
        have gcell:∀ j,j<cs.length->RepC γ w (cs.getD j .und) (us.toList.getD j undef):=fun j hj=>by
         have:=g3 j hj;simpa[Array.getD_eq_getD_getElem?,Aq] using this
        split at h
        ·-- D7 what it has
         rename_i hin;cases h;have hroom:len+ys.length<=cap:=Nat.le_of_mul_le_mul_right (by omega) hm;have hu':ux=.slice (some ⟨blk,0,none⟩) len cap:=by rw[hu,ho' (by omega)]
         have hr:=rroom blk len cap us el (lo,hi) g1 hfr hpos hroom hus hu';have hsz3:((us.toList.take (len*m)++news++us.toList.drop (len*m+news.length)).toArray).size=us.size:=by simp;omega
         have hcl:(cs.take (len*m)++ys.flatten++cs.drop ((len+ys.length)*m)).length=cs.length:=by
          rw[Ao,Ao,hy.1,hnl];simp;omega
         obtain⟨i1,i2⟩:=hI.write (us':=(us.toList.take (len*m)++news++us.toList.drop (len*m+news.length)).toArray) (cs':=cs.take (len*m)++ys.flatten++cs.drop ((len+ys.length)*m)) (g':=g) hb hcs g1 ⟨by assumption,gfr⟩ (Ah _) (by omega) hsz3 (by omega) (fun q hq=>by
          rw[Ot,Q9 _ _ _ _ (by simp;omega),if_pos (by omega),Array.getElem?_toList]) (fun j hj=>by
          rw[hcl]at hj;rw[Array.getD_eq_getD_getElem?,Ot,Aq,hadd,show ys.length*m=ys.flatten.length by rw[Nm hwy],Q9 _ _ _ _ (by rw[hy.1,hnl];omega),Q9 _ _ _ _ (by simp;omega),hy.1]
          split
          ·have:=gcell j hj;simpa[Aq] using this
          ·split
           ·have:=hy.2 (j - len*m) (by rw[hy.1];omega);simpa[Aq] using this
           ·have:=gcell j hj
            simpa[Aq] using this)
         rw[show(blk,g).1=blk from rfl,Ml hb]at i1 i2;refine⟨_,_,_,.inl hr,Cv (.sl hb (Ah _) hroom hmax (fun _=>rfl) (fun _=>⟨rfl,fun _=>?_⟩)),i1,i2,Wh _ (hI.low _ _ hb),fun _ _=>rfl⟩;rw[Aae w blk g1 hsz3,hsz hown]
        ·split at h
         ·rename_i hnin hend;cases h;have hcl:(cs++ys.flatten).length=(len+ys.length)*m:=by rw[Ao,hy.1,hnl,hend,hadd]
          have holds:us.toList.take (len*m)=us.toList.take cs.length:=by rw[hend]
          have hcin:CellsIn γ w cs (us.toList.take (len*m)):=⟨by simp;omega,fun j hj=>by
           have:=gcell j hj
           simpa[Aq,Ep,show j<len*m by omega] using this⟩
          by_cases hroom:len+ys.length<=cap
          ·-- grown in its place
           have hu':ux=.slice (some ⟨blk,0,none⟩) len cap:=by rw[hu,ho' (by omega)]
           have hr:=rroom blk len cap us el (lo,hi) g1 hfr hpos hroom hus hu';have hmul:(len+ys.length)*m<=cap*m:=Eo _ hroom;have hsz3:((us.toList.take (len*m)++news++us.toList.drop (len*m+news.length)).toArray).size=us.size:=by simp;omega
           obtain⟨i1,i2⟩:=hI.write (us':=(us.toList.take (len*m)++news++us.toList.drop (len*m+news.length)).toArray) (cs':=cs++ys.flatten) (g':=g+1) hb hcs g1 ⟨by assumption,gfr⟩ (by omega) (by omega) hsz3 (by omega) (fun q hq=>by
            rw[Ot,Q9 _ _ _ _ (by simp;omega),if_pos (by omega),Array.getElem?_toList]) (fun j hj=>by
            have:=(hcin.app hy).2 j hj;have hj2:j<(us.toList.take (len*m)++news).length:=by rw[<-(hcin.app hy).1];exact hj
            rw[Array.getD_eq_getD_getElem?,Ot,Co hj2]
            simpa[Aq] using this)
           refine⟨_,_,_,.inl hr,Cv (.sl (blk:=blk) (g':=g+1) ?_ (Ah _) hroom hmax (fun _=>rfl) (fun _=>⟨rfl,fun _=>?_⟩)),i1,i2,Wh _ (hI.low _ _ hb),fun _ _=>rfl⟩
           ·show(γ.O.set i (blk,g+1))[i]?=_;rw[B8 (Ar.1 hb).1]
           ·rw[Aae w blk g1 hsz3,hsz hown]
          ·-- moved
           have hcell:∀ j u,(us.toList.take (len*m))[j]?=some u->w.cell? ((⟨blk,o',none⟩:Addr).add j)=some u:=fun j u hj=>by
            have hjl:j<len*m:=by have:=(Ar.1 hj).1;simp at this;omega
            have hlen0:0<len:=by
             rcases Sz len with h | h
             ·rw[h]at hjl;simp at hjl
             ·exact h
            rw[ho' (by omega),Ia];rw[Ep,if_pos hjl,Array.getElem?_toList]at hj;simpa[World.cell?,g1] using hj
           obtain⟨cap',pad,hr,hc1,hc2,hc3⟩:=rgrow ⟨blk,o',none⟩ len cap (us.toList.take (len*m)) (by simp;omega) hcell hpos (by omega) hbytes (hb63 _ hbytes) hu;rw[show(us.toList.take (len*m)).toArray++news.toArray=(us.toList.take (len*m)++news).toArray from(List.append_toArray _ _)]at hr hc3;obtain⟨d1,d2⟩:=hI.drew;have hcc:=hcin.app hy
           obtain⟨i1,i2⟩:=d1.moved (us':=(us.toList.take (len*m)++news).toArray++pad) (cs':=cs++ys.flatten) hb hcs (by omega) (by rw[hcc.1];simp only[Array.size_append,S0];omega) (fun j hj=>by
            rw[Ag1 (by rw[<-hcc.1];exact hj)]
            exact(hcc.2 j hj).ext d2)
           refine⟨_,_,_,.inl hr,Cv (.sl (blk:=w.heap.size) (g':=g+1) ?_ (Ah _) hc1 hc2 (fun _=>rfl) (fun _=>⟨rfl,fun _=>?_⟩)),i1,d2.trans i2,Zx hI.base,fun b hb=>Ji _ _ (by have:=hI.base;show b≠w.heap.size;omega)⟩
           ·show(γ.O.set i (w.heap.size,g+1))[i]?=_;rw[B8 (Ar.1 hb).1]
           ·have:=Tu w.drew ((us.toList.take (len*m)++news).toArray++pad) el (0,0);rw[show w.drew.heap.size=w.heap.size from rfl]at this;rw[this,hc3,Ez]
         ·cases h
       ·cases h
     ·cases h
    ·cases h
   ·cases h
  ·cases h
 ·cases h
open Go Go.RowKit
variable {P:Program} {G:List (Nat × List V)} {N:Nat} {γ:Gh} {σ σ1:St} {w:World} {e:Env} {a:Act} {o:Oper} {v:V}
theorem Ams(t ty e:TypeId)(i:TypeInfo)(ht:P.underlying t=some (.slice e))(hi:P.info? e=some i)
  (g sLen sCap:Nat) (cur:Array Value) (e':TypeId) (fz:Nat × Nat) (hg:w.heap[g]?=some (.cells cur e' fz)) (hfz:fz.2<=sLen*i.size\/cur.size<=fz.1)
  (b:Addr) (m c:Nat) (news:List Value) (hl:news.length=m*i.size) (hnews:∀ j u,news[j]?=some u->w.cell? (b.add j)=some u) (h1:∀ u∈news,u.oneCell'=true)
  (hroom:sLen+m<=sCap) (hfit:sLen*i.size+news.length<=cur.size) :
  (Builtin.append_ #[t,t] ty #[.slice (some ⟨g,0,none⟩) sLen sCap,.slice (some b) m c]).run P w =
   .ok (.slice (some ⟨g,0,none⟩) (sLen+m) sCap) (w.setRow g (cur.toList.take (sLen*i.size)++news++cur.toList.drop (sLen*i.size+news.length)).toArray):=by
 have hf:=run_firstCells_some (P:=P) w i.size m b m c news hl hnews;have hst:=V2 P g (sLen*i.size) e' fz news 0 cur w hg (by simpa using hfz) (by simpa using hfit) h1;simp only[Lj]at hst;simp[Builtin.append_,run_underlying ht,sizeOf,typeInfo,hi,Builtin.lenOf,hroom,hf,Addr.add_lit,hst]
theorem Ank{bytes:Nat}{m:Nat × Nat}{x:V}{ys:List (List V)}(h:I5 bytes m σ x ys=some (v,σ1)):∀ i,i<ys.length->(ys.getD i []).length=m.1:=by
 unfold I5 at h
 split at h
 ·rename_i hall;intro i hi;have:=Bd.1 hall.1 (ys.getD i []) (by rw[Aq,A0 hi];exact Fa hi);exact eq_of_beq this
 ·cases h
theorem Asi{t el:TypeId}{fi:TypeInfo}{z:Value}{x y:Operand}{s1 s2:S}(ho:o.op=.call { callee:=.builtin .append,args:=#[x,y],argTypes:=#[t,t] })(ht:P.underlying t=some (.slice el))(hfi:P.info? el=some fi)(hz:fi.zero=some z)(hzs:z.cells.size=fi.size)(hsz:0<fi.size)(hby:0<fi.bytes)
  (hx:RepV γ w (Ab e s1) (a.eval x)) (hy:RepV γ w (Ab e s2) (a.eval y)) (hI:Inv G N γ σ w)
  (h:Ae (.app fi.bytes (fi.size,el) s1 s2) e σ=some (v,σ1)):Cb P G N γ σ w ((execOp a.eval o).run P w) v σ1:=by
 simp only[Ae,C9]at h;obtain⟨ys,hys,h⟩:=h;have hwid:=Ank h
 have hb63:∀ k,k*fi.bytes<=140737488355328->k<=maxLen:=fun k hk=>by
  have:k<=k*fi.bytes:=Vy _ hby
  unfold maxLen;omega
 have lift:∀ {u:Value} {w':World},(Builtin.append_ #[t,t] o.type #[a.eval x,a.eval y]).run P w=.ok u w'->(execOp a.eval o).run P w=.ok (.value u) w':=fun hr=>by
  simp only[execOp,ho,resolve,invoke,builtin,Sem.run_bind,Sem.run_pure,Result.andThen_ok,List.map_toArray,Ba,Bs,hr]
 have hsrc:(ys=[]/\a.eval y=.slice none 0 0)\/∃ ad c news,a.eval y=.slice (some ad) ys.length c/\CellsIn γ w ys.flatten news/\∀ j u,news[j]?=some u->w.cell? (ad.add j)=some u:=by
  unfold Ft at hys
  split at hys
  ·rename_i e2;rw[e2]at hy;cases hys;exact .inl ⟨rfl,Jj (Aw rfl hy)⟩
  ·rename_i t' ys' e2;rw[e2]at hy;cases hys;obtain⟨ad,c,hu,hR,_⟩:=Mm (Aw rfl hy);obtain⟨news,h1,h2⟩:=Z8 hsz hwid hR;exact .inr ⟨ad,c,news,hu,h1,h2⟩
  ·rename_i i g off len m' own e2;rw[e2]at hy
   split at hys
   ·rename_i cs ee g' z hcs
    split at hys
    ·rename_i hc;obtain⟨rfl,rfl,hle⟩:=hc;cases hys;obtain⟨blk,cap,o',hb,hu,ho',_,hcap,_⟩:=Uc (o':=0) hI (Aw rfl hy) (by simp[K1,hcs]);obtain⟨_,_,_,us,lo,hi,g1,_,g2,g3⟩:=hI.obj i _ _ hcs hb;have g1:w.heap[blk]?=some (.cells us ee (lo,hi)):=g1;refine .inr ⟨⟨blk,o',none⟩,cap,(us.toList.drop off).take (len*fi.size),by rw[hu,Tt],⟨?_,fun j hj=>?_⟩,fun j u hj=>?_⟩
     ·rw[Tj _ _ _ (by simp;omega)];simp;omega
     ·rw[Tj _ _ _ (by simp;omega)]at hj ⊢;have hj':j<len*fi.size/\off+j<cs.length:=by simp at hj;omega
      have:=g3 (off+j) hj'.2;simpa[Aq,Ep,Iq,hj'.1,Array.getD_eq_getD_getElem?] using this
     ·have hjl:j<len*fi.size:=by have:=(Ar.1 hj).1;simp at this;omega
      have hl0:0<len:=by
       rcases Sz len with h | h
       ·rw[h]at hjl;simp at hjl
       ·exact h
      rw[ho' (by omega),Ia];rw[Ep,if_pos hjl,Iq,Array.getElem?_toList]at hj;simpa[World.cell?,g1] using hj
    ·cases hys
   ·cases hys
  ·cases hys
 rcases hsrc with⟨rfl,hu⟩ | ⟨ad,c,news,hu,hn1,hn2⟩
 ·refine Ab9 (news:=[]) (el:=el) (bytes:=fi.bytes) hI hx ⟨by simp,fun i hi=>absurd hi (by simp)⟩ (fun _ b n c hnc hx'=>lift ?_) (fun h=>absurd h (by simp)) (fun _ _ _ _ _ _ _ _ h=>absurd h (by simp)) (fun _ _ _ _ _ _ h=>absurd h (by simp)) hb63 h
  ·rw[hx',hu]
   cases b<;>simp[Builtin.append_,run_underlying ht,sizeOf,typeInfo,hfi,Builtin.lenOf,Builtin.firstCells,storeCells,hnc]
 ·have hnl:news.length=ys.length*fi.size:=by rw[<-hn1.1,Nm hwid]
  have hone:=hn1.one;refine Ab9 (news:=news) (el:=el) (bytes:=fi.bytes) hI hx hn1 (fun h0 b n c' hnc hx'=>lift ?_) (fun hp hb hx'=>?_) (fun g n cap cur e' fz hg hfz hp hroom hcs hx'=>lift ?_) (fun b n cap olds ho1 ho2 _ hc hb hm hx'=>?_) hb63 h
  ·have hn0:news=[]:=Zp (by rw[hnl,h0];simp);rw[hx',hu,h0]
   cases b<;>simp[Builtin.append_,run_underlying ht,sizeOf,typeInfo,hfi,Builtin.lenOf,Builtin.firstCells,loadCells,loadCellsFrom,storeCells,hnc]
  ·have hr:=run_append_nil (P:=P) w t o.type el fi z ht hfi hz ad ys.length c news hnl hn2 hp (by have:=hb63 _ hb;unfold maxLen at this;omega) (by omega);refine⟨_,_,lift (by rw[hx',hu];exact hr),grownCap_ge _ _ _ _,grownCap_le_maxLen _ _ _ _ (hb63 _ hb),?_⟩;have:=grownCap_ge w ys.length 0 el;simp only[Array.size_append,S0,size_zeroCells,hzs,hnl,<-Lk];congr 1;omega
  ·rw[hx',hu];refine Ams (P:=P) t o.type el fi ht hfi g n cap cur e' fz hg hfz ad ys.length c news hnl hn2 hone hroom ?_;rw[hnl,hcs,<-Lk];exact Eo _ hroom
  ·have hr:=run_append_grow (P:=P) w t o.type el fi z ht hfi hz b n cap olds ho1 ho2 ad ys.length c news hnl hn2 hc (by unfold maxLen at hm;omega) (growslice_fits hc hb);refine⟨_,_,lift (by rw[hx',hu];exact hr),grownCap_ge _ _ _ _,grownCap_le_maxLen _ _ _ _ hm,?_⟩;have:=grownCap_ge w (n+ys.length) cap el;simp only[Array.size_append,S0,size_zeroCells,hzs,hnl,ho1,<-Lk];congr 1;omega
theorem Amr(t u ty e:TypeId)(i:TypeInfo)(ht:P.underlying t=some (.slice e))(hu:P.underlying u=some .string)(hi:P.info? e=some i)(hs1:i.size=1)
  (g sLen sCap:Nat) (cur:Array Value) (e':TypeId) (fz:Nat × Nat) (hg:w.heap[g]?=some (.cells cur e' fz)) (hfz:fz.2<=sLen\/cur.size<=fz.1) (s:ByteArray)
  (hroom:sLen+s.size<=sCap) (hfit:sLen+s.size<=cur.size) :
  (Builtin.append_ #[t,u] ty #[.slice (some ⟨g,0,none⟩) sLen sCap,.string s]).run P w =
   .ok (.slice (some ⟨g,0,none⟩) (sLen+s.size) sCap) (w.setRow g (cur.toList.take sLen++Lib.strCells s++cur.toList.drop (sLen+s.size)).toArray):=by
 have hf:=Lib.run_firstCells_string (P:=P) w 1 s;have hst:=V2 P g sLen e' fz (Lib.strCells s) 0 cur w hg (by simpa using hfz) (by simpa[Lib.strCells_length] using hfit) (Lib.strCells_oneCell s);simp only[Lj,Lib.strCells_length]at hst;simp[Builtin.append_,run_underlying ht,run_underlying hu,sizeOf,typeInfo,hi,hs1,Builtin.lenOf,hroom,hf,Addr.add_lit,hst]
theorem Tc(l:List UInt8):(Bz l).length=l.length:=by simp[Bz]
theorem Amv(l:List UInt8)(i:Nat)(h:i<l.length):(Bz l).getD i []=[V.int .u8 (l[i].toNat:Int)]:=by
 simp[Bz,Aq,h]
theorem Wf(l:List UInt8):(Bz l).flatten=l.map fun c=>V.int .u8 (c.toNat:Int):=by
 induction l with
 | nil=>rfl
 | cons c l ih=>simp[Bz]at ih ⊢;exact ih
theorem Ae1(l:List UInt8):CellsIn γ w (Bz l).flatten (Lib.strCells ⟨l.toArray⟩):=by
 rw[Wf];refine⟨by simp[Lib.strCells],fun j hj=>?_⟩;have hj':j<l.length:=by simpa using hj
 have e1:(l.map fun c=>V.int .u8 (c.toNat:Int)).getD j .und=.int .u8 (l[j].toNat:Int):=by simp[Aq,hj']
 have e2:(Lib.strCells ⟨l.toArray⟩).getD j undef=.int .u8 (l[j].toNat:Int):=by simp[Lib.strCells,Aq,hj']
 rw[e1,e2];exact .row .int
theorem App{t u el:TypeId}{fi:TypeInfo}{z:Value}{x y:Operand}{s1 s2:S}(ho:o.op=.call { callee:=.builtin .append,args:=#[x,y],argTypes:=#[t,u] })(ht:P.underlying t=some (.slice el))(hu:P.underlying u=some .string)(hfi:P.info? el=some fi)(hz:fi.zero=some z)(hzs:z.cells.size=1)(hsz:fi.size=1)(hby:fi.bytes=1)
  (hx:RepV γ w (Ab e s1) (a.eval x)) (hy:RepV γ w (Ab e s2) (a.eval y)) (hI:Inv G N γ σ w)
  (h:Ae (.apps el s1 s2) e σ=some (v,σ1)):Cb P G N γ σ w ((execOp a.eval o).run P w) v σ1:=by
 simp only[Ae]at h
 split at h
 ·rename_i l e2;rw[e2]at hy;obtain⟨hv,hl⟩:=Fl (Aw rfl hy);have hb63:∀ k,k*1<=140737488355328->k<=maxLen:=fun k hk=>by unfold maxLen;omega
  have lift:∀ {u':Value} {w':World},(Builtin.append_ #[t,u] o.type #[a.eval x,a.eval y]).run P w=.ok u' w'->(execOp a.eval o).run P w=.ok (.value u') w':=fun hr=>by
   simp only[execOp,ho,resolve,invoke,builtin,Sem.run_bind,Sem.run_pure,Result.andThen_ok,List.map_toArray,Ba,Bs,hr]
  have hms:(⟨l.toArray⟩:ByteArray).size=l.length:=Hw l;have hsc:(Lib.strCells ⟨l.toArray⟩).length=l.length:=by rw[Lib.strCells_length,Hw]
  refine Ab9 (news:=Lib.strCells ⟨l.toArray⟩) (el:=el) (bytes:=1) (m:=1) hI hx (Ae1 l) (fun h0 b n c' hnc hx'=>lift ?_) (fun hp hb hx'=>?_) (fun g n cap cur e' fz hg hfz hp hroom hcs hx'=>lift ?_) (fun b n cap olds ho1 ho2 _ hc hb hm hx'=>?_) hb63 h
  ·rw[Tc]at h0;have hl0:l=[]:=Zp h0;subst hl0;rw[hx',hv]
   cases b<;>simp[Builtin.append_,run_underlying ht,run_underlying hu,sizeOf,typeInfo,hfi,Builtin.lenOf,Builtin.firstCells,storeCells,Hw,hnc]
  ·rw[Tc]at hp hb ⊢;have hr:=run_append_nil_string (P:=P) w t u o.type el fi z ht hu hfi hz ⟨l.toArray⟩ (by omega) (by rw[hms];omega) (by rw[hby,hms];omega);rw[hms]at hr;have hdat:(Array.map (fun b:UInt8=>Value.int IntKind.u8 (b.toNat:Int)) (⟨l.toArray⟩:ByteArray).data)=(Lib.strCells ⟨l.toArray⟩).toArray:=by simp[Lib.strCells]
   rw[hdat]at hr;refine⟨_,_,lift (by rw[hx',hv];exact hr),grownCap_ge _ _ _ _,grownCap_le_maxLen _ _ _ _ (hb63 _ hb),?_⟩;have:=grownCap_ge w l.length 0 el;simp only[Array.size_append,S0,size_zeroCells,hzs,hsc];omega
  ·rw[Tc]at hp hroom ⊢;have hr:=Amr (P:=P) (w:=w) t u o.type el fi ht hu hfi hsz g n cap cur e' fz hg (by simpa using hfz) ⟨l.toArray⟩ (by rw[hms];omega) (by rw[hms];omega);rw[hx',hv,hsc,Wo,hr,hms]
  ·rw[Tc]at hc hb hm ⊢;have hr:=Lib.run_append_grow_string (P:=P) w t u o.type el fi z ht hu hfi hz b n cap olds (by rw[hsz];exact ho1) ho2 ⟨l.toArray⟩ (by rw[hms];exact hc) (by rw[hms];unfold maxLen at hm;omega) (by rw[hms,hby];exact growslice_fits hc hb);rw[hms]at hr;refine⟨_,_,lift (by rw[hx',hv];exact hr),grownCap_ge _ _ _ _,grownCap_le_maxLen _ _ _ _ hm,?_⟩;have:=grownCap_ge w (n+l.length) cap el;simp only[Array.size_append,S0,size_zeroCells,hzs,hsc,ho1];omega
 ·cases h
theorem Ag3{t:TypeId}{d:TypeDesc}{fi:TypeInfo}{n off:Nat}{one:Bool}{cs:List V}{us:List Value}{v:V}(ht:P.underlying t=some d)(hd:La d=!one)(hfi:P.info? t=some fi)(hn:fi.size=n)
  (hl:cs.length=us.length) (hj:∀ j,j<cs.length->RepC γ w (cs.getD j .und) (us.getD j undef)) (hle:off+n<=cs.length) (h:Fq one ((cs.drop off).take n)=some v) :
  ∃ u,(part t us.toArray off).run P w=.ok u w/\RepV γ w v u:=by
 have hlen:((cs.drop off).take n).length=n:=by simp;omega
 have hr:∀ j,j<n->RepC γ w (((cs.drop off).take n).getD j .und) (us.getD (off+j) undef):=fun j hjn=>by
  have e1:((cs.drop off).take n).getD j .und=cs.getD (off+j) .und:=by
   simp only[Aq,Ep,Iq];rw[if_pos hjn]
  rw[e1];exact hj _ (by omega)
 obtain⟨m1,m2⟩:=Aap (f:=fun j=>us.getD (off+j) undef) h hlen hr;have hag:=Aaq (P:=P) (w:=w) ht;rw[hd]at hag
 cases one with
 | true=>
  obtain⟨h1,h2⟩:=m1 rfl;have hlt:off<us.length:=by omega
  refine⟨us.getD off undef,?_,Cv h2⟩;simp[part,hag,A0 hlt,Aq]
 | false=>
  refine⟨_,?_,.one (m2 rfl)⟩
  have e2:us.toArray.extract off (off+n)=((List.range n).map fun j=>us.getD (off+j) undef).toArray:=by
   apply Array.ext
   ·simp;omega
   ·intro i h1 h2;simp at h1 h2;simp[Aq,show off+i<us.length by omega]
  generalize us.toArray=arr at e2 ⊢;simp[part,hag,sizeOf,typeInfo,hfi,hn,e2]
theorem Asj{t:TypeId}{fs:Array Field}{f:Field}{d:TypeDesc}{fi:TypeInfo}{i off n:Nat}{one:Bool}{x:Operand}{s:S}(ho:o.op=.field t x i)(hs:P.underlying t=some (.struct fs))(hf:fs[i]?=some f)(hoff:f.offset=off)
  (ht:P.underlying f.type=some d) (hd:La d=!one) (hfi:P.info? f.type=some fi) (hn:fi.size=n)
  (hx:RepV γ w (Ab e s) (a.eval x)) (hI:Inv G N γ σ w) (h:Ae (.fld off n one s) e σ=some (v,σ1)):Cb P G N γ σ w ((execOp a.eval o).run P w) v σ1:=by
 simp only[Ae]at h
 split at h
 ·rename_i cs e1;rw[e1]at hx;obtain⟨us,hu,hl,hj⟩:=Nl hx
  split at h
  ·rename_i hle;simp only[Bm]at h;obtain⟨v',h,h2⟩:=h;cases h2;obtain⟨u,hr,hv⟩:=Ag3 (P:=P) ht hd hfi hn hl hj hle h;refine B3 hI (u:=u) ?_ hv;simp[execOp,ho,hu,Instr.field,run_underlying hs,hf,asAgg,hoff,hr]
  ·cases h
 ·cases h
theorem Ask{t el:TypeId}{d:TypeDesc}{fi:TypeInfo}{len m:Nat}{one:Bool}{x y:Operand}{s1 s2:S}(ho:o.op=.index t x y)(hs:P.underlying t=some (.array len el))
  (ht:P.underlying el=some d) (hd:La d=!one) (hfi:P.info? el=some fi) (hn:fi.size=m)
  (hx:RepV γ w (Ab e s1) (a.eval x)) (hy:RepV γ w (Ab e s2) (a.eval y)) (hI:Inv G N γ σ w) (h:Ae (.ida len m one s1 s2) e σ=some (v,σ1)):Cb P G N γ σ w ((execOp a.eval o).run P w) v σ1:=by
 simp only[Ae]at h
 split at h
 ·rename_i k n e2;rw[e2]at hy;have hy':=D1 (Aw rfl hy)
  split at h
  ·rename_i hb
   split at h
   ·rename_i cs e1;rw[e1]at hx;obtain⟨us,hu,hl,hj⟩:=Nl hx
    split at h
    ·rename_i hle;simp only[Bm]at h;obtain⟨v',h,h2⟩:=h;cases h2;obtain⟨u,hr,hv⟩:=Ag3 (P:=P) ht hd hfi hn hl hj hle h;refine B3 hI (u:=u) ?_ hv;simp[execOp,ho,hu,hy',Instr.index,asIntOf,run_underlying hs,hb,sizeOf,typeInfo,hfi,hn,hr]
    ·cases h
   ·cases h
  ·cases h
 ·cases h
/-! strings of bytes -/
theorem Asl{t el:TypeId}{n:Nat}{x:Operand}{s:S}(ho:o.op=.sliceToArrayPointer t x)(ht:P.underlying t=some (.array n el))(hx:RepV γ w (Ab e s) (a.eval x))(hI:Inv G N γ σ w)
  (h:Ae (.sap n s) e σ=some (v,σ1)):Cb P G N γ σ w ((execOp a.eval o).run P w) v σ1:=by
 simp only[Ae,Bm]at h;obtain⟨v',h,h2⟩:=h;cases h2;unfold Y5 at h
 split at h
 ·rename_i t' ys e1;rw[e1]at hx
  split at h
  ·rename_i hc;obtain⟨h0,hn,hw⟩:=hc;cases h;obtain⟨ad,c,hu,hR,_⟩:=Mm (Aw rfl hx)
   have hwid:∀ i,i<ys.length->(ys.getD i []).length=1:=fun i hi=>by
    have:=Bd.1 hw (ys.getD i []) (by rw[Aq,A0 hi];exact Fa hi);exact eq_of_beq this
   have hl:0<ys.length:=by omega
   cases hR with
   | @lst _ _ _ _ m row h1 h2 h3 h4 h5 h6 h7=>
   obtain rfl:m=1:=by rw[<-h5 0 hl,hwid 0 hl]
   obtain⟨hs,k,hk,hle⟩:=h4 hl;obtain⟨b,o',sp⟩:=ad;obtain rfl:sp=none:=hs;have hf:ys.flatten.length=ys.length:=by rw[Nm hwid];omega
   refine B3 hI (u:=.pointer (some ⟨b,o',none⟩)) ?_ (Cv (RepC.imm (off:=0) (o:=o') (fun j=>row j 0) hk (by rw[hf];simpa using hle) (fun j hj=>?_) (fun j hj=>?_)))
   ·simp[execOp,ho,Instr.arrayAt,run_underlying ht,hu,show ¬ ys.length<n by omega]
   ·have:=h6 j 0 (by omega) (by omega);simpa using this
   ·have:=h7 j 0 (by omega) (by omega);rw[<-Aa8 hwid j 0 (by omega) (by omega)]at this;simpa using this
  ·cases h
 ·cases h
theorem Ae2:∀ {ys:List (List V)} {l:List UInt8},H9 ys=some l->ys=Bz l
 | [],l,h=>by cases h;rfl
 | [.int .u8 n]::r,l,h=>by
  simp only[H9]at h
  split at h
  ·rename_i hn;obtain⟨l2,h2,rfl⟩:=Bm.1 h;rw[Ae2 h2];have e:((UInt8.ofNat n.toNat).toNat:Int)=n:=by rw[UInt8.toNat_ofNat'];omega
   show _=[V.int .u8 ((UInt8.ofNat n.toNat).toNat:Int)]::Bz l2;rw[e]
  ·cases h
theorem Apq{m:Nat}{y:V}{u:Value}{ys:List (List V)}(hsz:0<m)(hy:RepV γ w y u)(hI:Inv G N γ σ w)(hys:Ft σ m y=some ys)(hwid:∀ i,i<ys.length->(ys.getD i []).length=m):
  (ys=[]/\u=.slice none 0 0)\/∃ ad c news,u=.slice (some ad) ys.length c/\ys.length<=maxLen/\CellsIn γ w ys.flatten news/\∀ j u,news[j]?=some u->w.cell? (ad.add j)=some u:=by
 unfold Ft at hys
 split at hys
 ·cases hys;exact .inl ⟨rfl,Jj (Aw rfl hy)⟩
 ·rename_i t' ys';cases hys;obtain⟨ad,c,hu,hR,_⟩:=Mm (Aw rfl hy);obtain⟨news,h1,h2⟩:=Z8 hsz hwid hR;refine .inr ⟨ad,c,news,hu,?_,h1,h2⟩
  cases hR with
  | lst row h1 h2 h3 h4 h5 h6 h7=>omega
 ·rename_i i g off len m' own
  split at hys
  ·rename_i cs ee g' z hcs
   split at hys
   ·rename_i hc;obtain⟨rfl,rfl,hle⟩:=hc;cases hys;obtain⟨blk,cap,o',hb,hu,ho',_,hcap,hcm⟩:=Uc (o':=0) hI (Aw rfl hy) (by simp[K1,hcs]);obtain⟨_,_,_,us,lo,hi,g1,_,g2,g3⟩:=hI.obj i _ _ hcs hb;have g1:w.heap[blk]?=some (.cells us ee (lo,hi)):=g1;refine .inr ⟨⟨blk,o',none⟩,cap,(us.toList.drop off).take (len*m),by rw[hu,Tt],by rw[Tt];omega,⟨?_,fun j hj=>?_⟩,fun j u hj=>?_⟩
    ·rw[Tj _ _ _ (by simp;omega)];simp;omega
    ·rw[Tj _ _ _ (by simp;omega)]at hj ⊢;have hj':j<len*m/\off+j<cs.length:=by simp at hj;omega
     have:=g3 (off+j) hj'.2;simpa[Aq,Ep,Iq,hj'.1,Array.getD_eq_getD_getElem?] using this
    ·have hjl:j<len*m:=by have:=(Ar.1 hj).1;simp at this;omega
     have hl0:0<len:=by
      rcases Sz len with h | h
      ·rw[h]at hjl;simp at hjl
      ·exact h
     rw[ho' (by omega),Ia];rw[Ep,if_pos hjl,Iq,Array.getElem?_toList]at hj;simpa[World.cell?,g1] using hj
   ·cases hys
  ·cases hys
 ·cases hys
theorem Asm{t1 t2 el:TypeId}{x:Operand}{s:S}(ho:o.op=.convert t1 t2 x)(h1:P.underlying t1=some (.slice el))(he:P.underlying el=some (.int .u8))(h2:P.underlying t2=some .string)(hx:RepV γ w (Ab e s) (a.eval x))(hI:Inv G N γ σ w)
  (h:Ae (.bts s) e σ=some (v,σ1)):Cb P G N γ σ w ((execOp a.eval o).run P w) v σ1:=by
 simp only[Ae,C9,Bm]at h;obtain⟨ys,hys,l,hl,hv⟩:=h;cases hv;obtain rfl:=Ae2 hl;have hn:(Bz l).length=l.length:=Tc l;have hwid:∀ i,i<(Bz l).length->((Bz l).getD i []).length=1:=fun i hi=>by rw[Amv l i (by omega)];rfl
 rcases Apq (by omega) hx hI hys hwid with⟨h0,hu⟩ | ⟨ad,c,news,hu,hm,⟨n1,n2⟩,n3⟩
 ·obtain rfl:l=[]:=Zp (by rw[<-hn,h0];rfl);refine B3 hI (u:=.string ⟨[].toArray⟩) ?_ (Ub (A2 _));have:=run_convert_bytes_nil (P:=P) w t1 el h1 he 0 0 t2 h2;simp only[execOp,ho,hu,Sem.run_bind,this,Result.andThen_ok,Sem.run_pure];rfl
 ·rw[Wf]at n1 n2
  have hnews:news=(l.map fun c=>(c.toNat:Int)).map (Value.int .u8):=by
   apply Qk;intro j;rcases Bx j l.length with hj | hj
   ·have hr:=n2 j (by simpa using hj);have hjn:j<news.length:=by rw[<-n1];simpa using hj
    simp only[Aq,Bb,A0 hj,A0 hjn,Ha,Wa]at hr ⊢;rw[D1 hr]
   ·rw[Ou (by rw[<-n1];simpa using hj),Ou (by simpa using hj)]
  have hload:(loadCells ad l.length).run P w=.ok ((l.map fun c=>(c.toNat:Int)).map (Value.int .u8)).toArray w:=by
   have:=run_loadCells_list (P:=P) (w:=w) ad news n3;rw[hnews]at this;simpa using this
  have hrun:=run_bytesToString (P:=P) w ad l.length c (l.map fun c=>(c.toNat:Int)) hload;rw[foldl_push_bytes]at hrun
  have hs:(⟨ByteArray.empty.data++((l.map fun c=>(c.toNat:Int)).map fun n=>UInt8.ofNat n.toNat).toArray⟩:ByteArray)=⟨l.toArray⟩:=by
   apply ByteArray.ext;apply Array.toList_inj.1;rw[List.map_map];have:((fun n:Int=>UInt8.ofNat n.toNat) ∘ fun c:UInt8=>(c.toNat:Int))=id:=by funext c;simp
   rw[this];simp
  rw[hs]at hrun;refine B3 hI (u:=.string ⟨l.toArray⟩) ?_ (Ub (by omega));have hc:=run_convert_bytes_string (P:=P) w t1 t2 el (some ad) l.length c h1 he h2;rw[hn]at hu;simp only[execOp,ho,hu,Sem.run_bind,hc,hrun,Result.andThen_ok,Sem.run_pure]
/-! strings to bytes -/
theorem Amu(w:World)(el:TypeId)(s:ByteArray):Lib.bytesWorld w el s=w.drew.alloc (.cells (Lib.bytesCells w el s) el ((Lib.bytesCells w el s).size,(Lib.bytesCells w el s).size+1)):=by
 have hh:(Lib.bytesWorld w el s).heap=(w.drew.alloc (.cells (Lib.bytesCells w el s) el ((Lib.bytesCells w el s).size,(Lib.bytesCells w el s).size+1))).heap:=by
  apply Array.ext_getElem?;intro j;rcases Ow j w.heap.size with hj | hj | hj
  ·rw[Lib.bytesWorld_at_old w el s j hj];exact(Below.heap_alloc w.drew _ j hj).symm
  ·subst hj;rw[Lib.bytesWorld_at_new];exact(heap_alloc_new w.drew _).symm
  ·rw[Array.getElem?_eq_none (by rw[Lib.bytesWorld_size];omega),Array.getElem?_eq_none (by show(w.heap.push _).size<=j;simp;omega)]
 have:Lib.bytesWorld w el s={ w.drew.alloc (.cells (Lib.bytesCells w el s) el ((Lib.bytesCells w el s).size,(Lib.bytesCells w el s).size+1)) with heap:=(Lib.bytesWorld w el s).heap }:=rfl;rw[this,hh]
theorem Asn{t1 t2 el:TypeId}{x:Operand}{s:S}(ho:o.op=.convert t1 t2 x)(h1:P.underlying t1=some .string)(h2:P.underlying t2=some (.slice el))(he:P.underlying el=some (.int .u8))(hx:RepV γ w (Ab e s) (a.eval x))(hI:Inv G N γ σ w)
  (h:Ae (.stb el s) e σ=some (v,σ1)):Cb P G N γ σ w ((execOp a.eval o).run P w) v σ1:=by
 simp only[Ae]at h
 split at h
 ·rename_i l e1;rw[e1]at hx;cases h;obtain⟨hv,hl⟩:=Fl (Aw rfl hx);have hge:=grownCap_ge w l.length 0 el;have hle:=grownCap_le_maxLen w l.length 0 el hl
  have hus:(Lib.bytesCells w el ⟨l.toArray⟩).size=grownCap w l.length 0 el:=by
   simp only[Lib.bytesCells,Array.size_append,Array.size_map,Array.size_replicate,Hw]
   simp<;>omega
  have hr:(execOp a.eval o).run P w=.ok (.value (.slice (some ⟨w.heap.size,0,none⟩) l.length (grownCap w l.length 0 el))) (w.drew.alloc (.cells (Lib.bytesCells w el ⟨l.toArray⟩) el ((Lib.bytesCells w el ⟨l.toArray⟩).size,(Lib.bytesCells w el ⟨l.toArray⟩).size+1))):=by
   have:=Lib.run_convert_string_bytes (P:=P) w t1 t2 el ⟨l.toArray⟩ h1 h2 he;rw[Hw,Amu]at this;simp only[execOp,ho,hv,Sem.run_bind,this,Result.andThen_ok,Sem.run_pure]
  generalize hus':Lib.bytesCells w el ⟨l.toArray⟩=us at hr hus;obtain⟨d1,d2⟩:=hI.drew
  obtain⟨i1,i2⟩:=d1.newOb (.cells us el (us.size,us.size+1)) (.row (Bz l).flatten el 0 0) (G5 γ.κ w.heap.size 0) (fun b hb=>Ji _ _ (by have:b<w.heap.size:=hb;omega)) (Ts (fun b k hk=>by have:=hI.dom b k hk;show b<w.heap.size+1;omega) (by show w.heap.size<w.heap.size+1;omega)) fun hx=>
   ⟨rfl,O3 _ _ _,A2 _,us,us.size,us.size+1,heap_alloc_new w.drew _,⟨Nat.le_succ _,.inr (Ah _)⟩,by rw[Wf];simp;omega,fun j hj=>by
    have hj':j<l.length:=by rw[Wf]at hj;simpa using hj
    obtain⟨_,g⟩:=Ae1 (γ:=γ) (w:=w.drew) l;have g':=g j hj
    have e2:us.getD j undef=(Lib.strCells ⟨l.toArray⟩).getD j undef:=by
     rw[<-hus'];simp[Lib.bytesCells,Lib.strCells,Array.getD_eq_getD_getElem?,Aq,Array.getElem?_append,hj']
    rw[e2]
    exact g'.ext hx⟩
  refine⟨_,_,_,.inl hr,Cv (X5 ?_ ?_ hge hle),i1,d2.trans i2,Zx hI.base,fun b hb=>Ji _ _ (by have:=hI.base;show b≠w.heap.size;omega)⟩
  ·show(γ.O++_)[σ.length]?=_;rw[<-hI.len]
   simp<;>rfl
  ·have:=Tu w.drew us el (us.size,us.size+1);rw[show w.drew.heap.size=w.heap.size from rfl]at this;rw[this,hus,Wo]
 ·cases h
open Go Go.RowKit
variable {P:Program} {G:List (Nat × List V)} {N:Nat} {γ:Gh} {σ σ1:St} {w:World} {e:Env} {a:Act} {o:Oper} {v:V}
theorem Amt{t:TypeId}(ht:P.underlying t=some .bool)(p q:Bool):(Op.equal t (.bool p) (.bool q)).run P w=.ok (p==q) w:=
 have h:∀ d,(Op.equalIn (d+1) t (.bool p) (.bool q)).run P w=.ok (p==q) w:=fun d=>by simp[Op.equalIn,run_underlying ht]
 h 9999
theorem Zy{t el:TypeId}(ht:P.underlying t=some (.slice el))(n c:Nat)(b:Option Addr)(n' c':Nat):(Op.equal t (.slice none n c) (.slice b n' c')).run P w=.ok b.isNone w:=
 have h:∀ d,(Op.equalIn (d+1) t (.slice none n c) (.slice b n' c')).run P w=.ok b.isNone w:=fun d=>by simp[Op.equalIn,run_underlying ht]
 h 9999
theorem Aes{t el:TypeId}(ht:P.underlying t=some (.slice el))(n c:Nat)(b:Addr)(n' c':Nat):(Op.equal t (.slice (some b) n' c') (.slice none n c)).run P w=.ok false w:=
 have h:∀ d,(Op.equalIn (d+1) t (.slice (some b) n' c') (.slice none n c)).run P w=.ok false w:=fun d=>by simp[Op.equalIn,run_underlying ht]
 h 9999
theorem Z2{t el:TypeId}(ht:P.underlying t=some (.pointer el))(b:Option Addr):(Op.equal t (.pointer none) (.pointer b)).run P w=.ok b.isNone w:=
 have h:∀ d,(Op.equalIn (d+1) t (.pointer none) (.pointer b)).run P w=.ok b.isNone w:=fun d=>by simp[Op.equalIn,run_underlying ht]
 h 9999
theorem Aet{t el:TypeId}(ht:P.underlying t=some (.pointer el))(b:Addr):(Op.equal t (.pointer (some b)) (.pointer none)).run P w=.ok false w:=
 have h:∀ d,(Op.equalIn (d+1) t (.pointer (some b)) (.pointer none)).run P w=.ok false w:=fun d=>by simp[Op.equalIn,run_underlying ht]
 h 9999
theorem Uf{neg:Bool}{t ty:TypeId}{x y:Operand}{z:Bool}(ho:o.op=.binOp (if neg then .neq else .eql) t x y ty)(hg:(eqGuard (if neg then .neq else .eql) t x y (a.eval x) (a.eval y)).run P w=.ok () w)
  (hb:(binOp .eql t (a.eval x) (a.eval y))=(do pure (.bool (<-Op.equal t (a.eval x) (a.eval y))))) (hb':(binOp .neq t (a.eval x) (a.eval y))=(do pure (.bool (!(<-Op.equal t (a.eval x) (a.eval y))))))
  (hr:(Op.equal t (a.eval x) (a.eval y)).run P w=.ok z w):(execOp a.eval o).run P w=.ok (.value (.bool (z != neg))) w:=by
 cases neg
 ·simp only[Er,if_false]at ho hg;simp[execOp,ho,hg,hb,hr]
 ·simp only[if_true]at ho hg;simp[execOp,ho,hg,hb',hr]
def N0(P:Program)(t:TypeId)(k:Nat):Bool:=match P.underlying t,k with
 | some .bool,0 | some (.int _),1 | some .string,2=>true
 | _,_=>false
def Rj(P:Program):List Field->Nat->List Nat->Bool
 | [],_,[]=>true
 | f::fs,k,c::ks=>f.offset==k&&(f.name != "_"&&(N0 P f.type c&&Rj P fs (k+1) ks))
 | _,_,_=>false
theorem W5{t:TypeId}{c:Nat}(h:N0 P t c=true){us:Array Value}{k:Nat}{u:Value}(hu:us[k]?=some u):(part t us k).run P w=.ok u w:=by
 unfold N0 at h
 have key:∀ d,P.underlying t=some d->La d=false->(part t us k).run P w=.ok u w:=fun d hd ha=>by
  have:=Aaq (P:=P) (w:=w) hd;rw[ha]at this;simp[part,this,hu]
 split at h
 ·rename_i hd;exact key _ hd rfl
 ·rename_i hd;exact key _ hd rfl
 ·rename_i hd;exact key _ hd rfl
 ·cases h
theorem Ain{t:TypeId}{c:Nat}(h:N0 P t c=true){x y:V}{z:Bool}{u u':Value}(hu:RepC γ w x u)(hu':RepC γ w y u')(hz:Zi c x y=some z)(d:Nat):(Op.equalIn (d+1) t u u').run P w=.ok z w:=by
 unfold N0 at h;unfold Zi at hz
 split at hz
 ·cases hz;rw[Mj hu,Mj hu']
  split at h
  ·rename_i hd _;simp[Op.equalIn,run_underlying hd]
  ·rename_i hc;cases hc
  ·rename_i hc;cases hc
  ·cases h
 ·split at hz
  ·rename_i hk;subst hk;cases hz;rw[D1 hu,D1 hu']
   split at h
   ·rename_i hc;cases hc
   ·rename_i hd _;simp[Op.equalIn,run_underlying hd]
   ·rename_i hc;cases hc
   ·cases h
  ·cases hz
 ·rename_i l l';cases hz;rw[(Fl hu).1,(Fl hu').1]
  split at h
  ·rename_i hc;cases hc
  ·rename_i hc;cases hc
  ·rename_i hd _;simp only[Op.equalIn,run_underlying hd,Sem.run_bind,Result.andThen_ok,Sem.run_pure,beq_toListBytes,ByteArray.toList_eq]
  ·cases h
 ·cases hz
theorem Af2{d:Nat}:∀ {fs:List Field} {k:Nat} {ks:List Nat} {as bs:List V} {us vs:Array Value} {z:Bool},Rj P fs k ks=true->Ii ks as bs=some z->(∀ j,j<ks.length->∃ u,us[k+j]?=some u/\RepC γ w (as.getD j .und) u)->(∀ j,j<ks.length->∃ u,vs[k+j]?=some u/\RepC γ w (bs.getD j .und) u) ->
  (Op.eqFields (d+1) us vs fs).run P w=.ok z w
 | [],k,[],as,bs,us,vs,z,_,h,_,_=>by
  cases as<;>cases bs<;>simp[Ii]at h
  subst h;rfl
 | f::fs,k,c::ks,as,bs,us,vs,z,hok,h,ha,hb=>by
  simp only[Rj,Af,beq_iff_eq,bne_iff_ne]at hok;obtain⟨h1,h2,h3,h4⟩:=hok
  cases as with
  | nil=>simp[Ii]at h
  | cons x r=>
  cases bs with
  | nil=>simp[Ii]at h
  | cons y s=>
  obtain⟨u,hu,hru⟩:=ha 0 (by simp);obtain⟨u',hu',hru'⟩:=hb 0 (by simp);simp only[Ii,C9]at h;obtain⟨z1,hz1,h⟩:=h;have e1:=Ain (P:=P) h3 hru hru' hz1 d;have p1:=W5 (P:=P) (w:=w) h3 (us:=us) (k:=f.offset) (by rw[h1];exact hu);have p2:=W5 (P:=P) (w:=w) h3 (us:=vs) (k:=f.offset) (by rw[h1];exact hu');unfold Op.eqFields;simp only[ne_eq,h2,not_false_eq_true,if_true,Sem.run_bind,p1,p2,Result.andThen_ok,e1]
  cases z1 with
  | false=>
   simp at h;subst h;simp
  | true=>
   simp only[if_true]at h
   have ih:=Af2 (d:=d) (us:=us) (vs:=vs) h4 h (fun j hj=>by
    have:=ha (j+1) (by simpa using hj);rw[show k+(j+1)=k+1+j by omega]at this
    simpa using this) (fun j hj=>by
    have:=hb (j+1) (by simpa using hj);rw[show k+(j+1)=k+1+j by omega]at this
    simpa using this)
   simp[ih]
 | [],_,_::_,_,_,_,_,_,h,_,_,_=>by simp[Rj]at h
 | _::_,_,[],_,_,_,_,_,h,_,_,_=>by simp[Rj]at h
theorem Ag4{d c:Nat}{el:TypeId}{us vs:Array Value}(h1:N0 P el c=true):∀ (m k:Nat) (as bs:List V) (z:Bool),Ii (List.replicate m c) as bs=some z->(∀ j,j<m->∃ u,us[k+j]?=some u/\RepC γ w (as.getD j .und) u)->(∀ j,j<m->∃ u,vs[k+j]?=some u/\RepC γ w (bs.getD j .und) u) ->
  (forIn (List.range' k m) ((none,()):Option Bool × Unit) (fun i (_:Option Bool × Unit)=>do
   let x <-part el us (i*1)
   let y <-part el vs (i*1)
   let z <-Op.equalIn (d+1) el x y
   if(!z)=true then pure (ForInStep.done (some false,())) else pure (ForInStep.yield (none,())):Nat->Option Bool × Unit->Sem (ForInStep (Option Bool × Unit)))).run P w=.ok (if z=true then(none,()) else(some false,())) w
 | 0,k,as,bs,z,h,_,_=>by
  cases as<;>cases bs<;>simp[Ii]at h
  subst h;simp
 | m+1,k,as,bs,z,h,ha,hb=>by
  rw[List.replicate_succ]at h
  cases as with
  | nil=>simp[Ii]at h
  | cons x r=>
  cases bs with
  | nil=>simp[Ii]at h
  | cons y s=>
  obtain⟨u,hu,hru⟩:=ha 0 (by omega);obtain⟨u',hu',hru'⟩:=hb 0 (by omega);simp only[Ii,C9]at h;obtain⟨z1,hz1,h⟩:=h;have e1:=Ain (P:=P) h1 hru hru' hz1 d;have p1:=W5 (P:=P) (w:=w) h1 (us:=us) (k:=k) hu;have p2:=W5 (P:=P) (w:=w) h1 (us:=vs) (k:=k) hu';rw[Wb,List.forIn_cons];simp only[Sem.run_bind,Wo,p1,p2,Result.andThen_ok,e1]
  cases z1 with
  | false=>
   simp at h;subst h;simp
  | true=>
   simp only[if_true]at h
   have ih:=Ag4 (d:=d) h1 m (k+1) r s z h (fun j hj=>by
    have:=ha (j+1) (by omega);rw[show k+(j+1)=k+1+j by omega]at this
    simpa using this) (fun j hj=>by
    have:=hb (j+1) (by omega);rw[show k+(j+1)=k+1+j by omega]at this
    simpa using this)
   simp only[Wo]at ih;simp only[Ap,Er,if_false,Sem.run_pure,Result.andThen_ok];exact ih
theorem Avq{d n c:Nat}{t el:TypeId}{fi:TypeInfo}{us vs:Array Value}{as bs:List V}{z:Bool}(ht:P.underlying t=some (.array n el))(hfi:P.info? el=some fi)(hs:fi.size=1)(h1:N0 P el c=true)(h:Ii (List.replicate n c) as bs=some z)
  (ha:∀ j,j<n->∃ u,us[j]?=some u/\RepC γ w (as.getD j .und) u) (hb:∀ j,j<n->∃ u,vs[j]?=some u/\RepC γ w (bs.getD j .und) u):(Op.equalIn (d+2) t (.agg us) (.agg vs)).run P w=.ok z w:=by
 rw[Op.equalIn];simp only[Sem.run_bind,run_underlying ht,Result.andThen_ok,sizeOf,typeInfo];simp only[run_program,Result.andThen_ok,hfi,Sem.run_pure,hs];rw[Std.Legacy.Range.forIn_eq_forIn_range'];have:=Ag4 (d:=d) h1 n 0 as bs z h (fun j hj=>by simpa using ha j hj) (fun j hj=>by simpa using hb j hj);simp[Std.Legacy.Range.size]at this ⊢;rw[this]
 cases z<;>simp
def Xl:Operand->Bool
 | .const _=>true
 | _=>false
def Adr(P:Program)(k:EqK)(t:TypeId)(x y:Operand):Bool:=
 match k,P.underlying t with
 | .bool,some .bool=>true
 | .nilsl,some (.slice _)=>true
 | .nilpt,some (.pointer _)=>true
 | .nilfn,some (.func _ _ _)=>true
 | .nilif,some (.interface _)=>Xl x||Xl y
 | .flat ks,some (.struct fs)=>Rj P fs.toList 0 ks&&(!P.stoodInHeld t&&!P.eqGuardType P.depth t)
 | .flat ks,some (.array n el)=>ks==List.replicate n (ks.headD 1)&&(N0 P el (ks.headD 1)&&((match P.info? el with
  | some fi=>fi.size==1
  | none=>false)&&!P.eqGuardType P.depth t))
 | _,_=>false
theorem Avr{k:EqK}{neg:Bool}{t ty:TypeId}{x y:Operand}{s1 s2:S}(ho:o.op=.binOp (if neg then .neq else .eql) t x y ty)(hk:Adr P k t x y=true)(hx:RepV γ w (Ab e s1) (a.eval x))(hy:RepV γ w (Ab e s2) (a.eval y))(hI:Inv G N γ σ w)
  (h:Ae (.eq k neg s1 s2) e σ=some (v,σ1)):Cb P G N γ σ w ((execOp a.eval o).run P w) v σ1:=by
 simp only[Ae,Bm]at h;obtain⟨z,h,h2⟩:=h
 ·cases h2
  have slice2:∀ b n c b' n' c',a.eval x=.slice b n c->a.eval y=.slice b' n' c'->(Op.equal t (.slice b n c) (.slice b' n' c')).run P w=.ok z w->Cb P G N γ σ w ((execOp a.eval o).run P w) (.bool (z != neg)) σ:=fun b n c b' n' c' hx' hy' hr=>by
   refine B3 hI (Uf (z:=z) ho ?_ ?_ ?_ ?_) Lo<;>rw[hx',hy']
   ·cases neg<;>simp[eqGuard]
   ·rfl
   ·rfl
   ·exact hr
  have ptr2:∀ b b',a.eval x=.pointer b->a.eval y=.pointer b'->(Op.equal t (.pointer b) (.pointer b')).run P w=.ok z w->Cb P G N γ σ w ((execOp a.eval o).run P w) (.bool (z != neg)) σ:=fun b b' hx' hy' hr=>by
   refine B3 hI (Uf (z:=z) ho ?_ ?_ ?_ ?_) Lo<;>rw[hx',hy']
   ·cases neg<;>simp[eqGuard]
   ·rfl
   ·rfl
   ·exact hr
  have slx:∀ {s:S} {X:Value} {i g off len m:Nat} {own:Bool},Ab e s=.sl i g off len m own->RepV γ w (Ab e s) X->∃ ad cap,X=.slice (some ad) len cap:=fun {s X i g off len m own} e1 hX=>by
   rw[e1]at hX;obtain⟨b',o',cap,_,_,hu,_⟩:=Q8 (Aw rfl hX);exact⟨_,_,hu⟩
  have ptx:∀ {s:S} {X:Value} {i g off:Nat},Ab e s=.ptr i g off->RepV γ w (Ab e s) X->∃ ad,X=.pointer (some ad):=fun {s X i g off} e1 hX=>by
   rw[e1]at hX;obtain⟨b',_,_,hu,_⟩:=Ln (Aw rfl hX);exact⟨_,hu⟩
  unfold Adr at hk
  split at hk
  ·rename_i ht;simp only[J1]at h;unfold eqB at h
   split at h
   ·rename_i p q e1 e2;rw[e1]at hx;rw[e2]at hy;have hx':=Mj (Aw rfl hx);have hy':=Mj (Aw rfl hy);cases h
    refine B3 hI (Uf (z:=p==q) ho ?_ ?_ ?_ ?_) Lo<;>rw[hx',hy']
    ·cases neg<;>simp[eqGuard]
    ·rfl
    ·rfl
    ·exact Amt ht p q
   ·cases h
  ·rename_i el ht;simp only[J1]at h;unfold Adm at h
   split at h
   ·rename_i e1 e2;rw[e1]at hx;rw[e2]at hy;cases h;exact slice2 _ _ _ _ _ _ (Jj (Aw rfl hx)) (Jj (Aw rfl hy)) (Zy ht _ _ _ _ _)
   ·rename_i e1 e2;rw[e1]at hx;rw[e2]at hy;obtain⟨ad,cap,hu,_⟩:=Mm (Aw rfl hy);cases h;exact slice2 _ _ _ _ _ _ (Jj (Aw rfl hx)) hu (Zy ht _ _ _ _ _)
   ·rename_i e1 e2;rw[e1]at hx;rw[e2]at hy;obtain⟨ad,cap,hu,_⟩:=Mm (Aw rfl hx);cases h;exact slice2 _ _ _ _ _ _ hu (Jj (Aw rfl hy)) (Aes ht _ _ _ _ _)
   ·rename_i e1 e2;obtain⟨ad,cap,hu⟩:=slx e2 hy;rw[e1]at hx;cases h;exact slice2 _ _ _ _ _ _ (Jj (Aw rfl hx)) hu (Zy ht _ _ _ _ _)
   ·rename_i e1 e2;obtain⟨ad,cap,hu⟩:=slx e1 hx;rw[e2]at hy;cases h;exact slice2 _ _ _ _ _ _ hu (Jj (Aw rfl hy)) (Aes ht _ _ _ _ _)
   ·cases h
  ·rename_i el ht;simp only[J1]at h;unfold Adn at h
   split at h
   ·rename_i e1 e2;rw[e1]at hx;rw[e2]at hy;cases h;exact ptr2 _ _ (O4 (Aw rfl hx)) (O4 (Aw rfl hy)) (Z2 ht _)
   ·rename_i e1 e2;obtain⟨ad,hu⟩:=ptx e2 hy;rw[e1]at hx;cases h;exact ptr2 _ _ (O4 (Aw rfl hx)) hu (Z2 ht _)
   ·rename_i e1 e2;obtain⟨ad,hu⟩:=ptx e1 hx;rw[e2]at hy;cases h;exact ptr2 _ _ hu (O4 (Aw rfl hy)) (Aet ht _)
   ·rename_i e1 e2;rw[e1]at hx;rw[e2]at hy;obtain⟨_,_,_,_,hu,_⟩:=Jk (Aw rfl hy);cases h;exact ptr2 _ _ (O4 (Aw rfl hx)) hu (Z2 ht _)
   ·rename_i e1 e2;rw[e1]at hx;rw[e2]at hy;obtain⟨_,_,_,_,hu,_⟩:=Jk (Aw rfl hx);cases h;exact ptr2 _ _ hu (O4 (Aw rfl hy)) (Aet ht _)
   ·cases h
  ·rename_i ps rs va ht;have hfn:∀ d,(Op.equalIn (d+1) t .nilFunc .nilFunc).run P w=.ok true w:=fun d=>by simp[Op.equalIn,run_underlying ht]
   have hfn1:∀ d f p q,(Op.equalIn (d+1) t (.func f p q) .nilFunc).run P w=.ok false w:=fun d f p q=>by simp[Op.equalIn,run_underlying ht]
   have hfn2:∀ d f p q,(Op.equalIn (d+1) t .nilFunc (.func f p q)).run P w=.ok false w:=fun d f p q=>by simp[Op.equalIn,run_underlying ht]
   have fin:∀ X Y,a.eval x=X->a.eval y=Y->(eqGuard (if neg then .neq else .eql) t x y X Y).run P w=.ok () w->(binOp .eql t X Y)=(do pure (.bool (<-Op.equal t X Y)))->(binOp .neq t X Y)=(do pure (.bool (!(<-Op.equal t X Y))))->(Op.equal t X Y).run P w=.ok z w->Cb P G N γ σ w ((execOp a.eval o).run P w) (.bool (z != neg)) σ:=fun X Y hx' hy' q1 q2 q3 q4=>by
    subst hx' hy';exact B3 hI (Uf (z:=z) ho q1 q2 q3 q4) Lo
   simp only[J1]at h;unfold Ado at h
   split at h
   ·rename_i e1 e2;rw[e1]at hx;rw[e2]at hy;cases h;exact fin _ _ (Wy (Aw rfl hx)) (Wy (Aw rfl hy)) (by cases neg<;>simp[eqGuard]) rfl rfl (hfn 9999)
   ·rename_i e1 e2;rw[e1]at hx;rw[e2]at hy;obtain⟨ua,uc,hu,_⟩:=Abl (Aw rfl hx);cases h;exact fin _ _ hu (Wy (Aw rfl hy)) (by cases neg<;>simp[eqGuard]) rfl rfl (hfn1 9999 _ _ _)
   ·rename_i e1 e2;rw[e1]at hx;rw[e2]at hy;obtain⟨ua,uc,hu,_⟩:=Abl (Aw rfl hy);cases h;exact fin _ _ (Wy (Aw rfl hx)) hu (by cases neg<;>simp[eqGuard]) rfl rfl (hfn2 9999 _ _ _)
   ·cases h
  ·rename_i ms ht;have hin:∀ d,(Op.equalIn (d+1) t .nilIface .nilIface).run P w=.ok true w:=fun d=>by simp[Op.equalIn,run_underlying ht]
   have hin1:∀ d f p,(Op.equalIn (d+1) t (.iface f p) .nilIface).run P w=.ok false w:=fun d f p=>by simp[Op.equalIn,run_underlying ht]
   have hin2:∀ d f p,(Op.equalIn (d+1) t .nilIface (.iface f p)).run P w=.ok false w:=fun d f p=>by simp[Op.equalIn,run_underlying ht]
   have fin:∀ X Y,a.eval x=X->a.eval y=Y->(eqGuard (if neg then .neq else .eql) t x y X Y).run P w=.ok () w->(binOp .eql t X Y)=(do pure (.bool (<-Op.equal t X Y)))->(binOp .neq t X Y)=(do pure (.bool (!(<-Op.equal t X Y))))->(Op.equal t X Y).run P w=.ok z w->Cb P G N γ σ w ((execOp a.eval o).run P w) (.bool (z != neg)) σ:=fun X Y hx' hy' q1 q2 q3 q4=>by
    subst hx' hy';exact B3 hI (Uf (z:=z) ho q1 q2 q3 q4) Lo
   have hguard:(eqGuard (if neg then .neq else .eql) t x y .nilIface .nilIface).run P w=.ok () w:=by
    simp only[Hb]at hk;rcases hk with hk | hk
    ·cases x<;>simp[Xl]at hk
     cases neg<;>simp[eqGuard]
    ·cases y<;>simp[Xl]at hk
     cases neg<;>simp[eqGuard]
   simp only[J1]at h;unfold Adp at h
   split at h
   ·rename_i e1 e2;rw[e1]at hx;rw[e2]at hy;cases h;exact fin _ _ (Wx (Aw rfl hx)) (Wx (Aw rfl hy)) hguard rfl rfl (hin 9999)
   ·rename_i e1 e2;rw[e1]at hx;rw[e2]at hy;obtain⟨ut,ux,hu⟩:=Aa6 (Aw rfl hx);cases h;exact fin _ _ hu (Wx (Aw rfl hy)) (by cases neg<;>simp[eqGuard]) rfl rfl (hin1 9999 _ _)
   ·rename_i e1 e2;rw[e1]at hx;rw[e2]at hy;obtain⟨ut,ux,hu⟩:=Aa6 (Aw rfl hy);cases h;exact fin _ _ (Wx (Aw rfl hx)) hu (by cases neg<;>simp[eqGuard]) rfl rfl (hin2 9999 _ _)
   ·cases h
  ·rename_i ks fs ht;simp only[Af,H8]at hk;obtain⟨hk1,hk2,hk3⟩:=hk;simp only[J1]at h;unfold Vh at h
   split at h
   ·rename_i as bs e1 e2;rw[e1]at hx;rw[e2]at hy;obtain⟨us,hu,hul,hur⟩:=Nl hx;obtain⟨vs,hv,hvl,hvr⟩:=Nl hy
    split at h
    ·rename_i hlen;have hfo:P.fieldsOf t=fs:=by simp[Program.fieldsOf,ht]
     have hf:=Af2 (P:=P) (γ:=γ) (w:=w) (d:=9998) (us:=us.toArray) (vs:=vs.toArray) hk1 h (fun j hj=>by
      have hj1:j<as.length:=by omega
      have:=hur j hj1
      exact⟨us.getD j undef,by simp[Aq,show j<us.length by omega],this⟩) (fun j hj=>by
      have hj1:j<bs.length:=by omega
      have:=hvr j hj1
      exact⟨vs.getD j undef,by simp[Aq,show j<vs.length by omega],this⟩)
     have hE:=run_equalIn_struct (P:=P) w 9999 t us.toArray vs.toArray (by rw[hfo];exact ht) hk2;rw[hfo,hf]at hE;have hg:=run_eqGuard_agg (P:=P) w (if neg then .neq else .eql) t x y us.toArray vs.toArray hk3;refine B3 hI (u:=.bool (z != neg)) ?_ Lo;cases neg
     ·simp only[Er,if_false]at ho hg;simp[execOp,ho,hu,hv,hg,run_eql_struct,hE]
     ·simp only[if_true]at ho hg;simp[execOp,ho,hu,hv,hg,run_neq_struct,hE]
    ·cases h
   ·cases h
  ·rename_i ks n el ht;simp only[Af,H8,beq_iff_eq]at hk;obtain⟨hk0,hk1,hk2,hk3⟩:=hk
   split at hk2
   ·rename_i fi hfi;have hs:fi.size=1:=eq_of_beq hk2;simp only[J1]at h;unfold Vh at h
    split at h
    ·rename_i as bs e1 e2;rw[e1]at hx;rw[e2]at hy;obtain⟨us,hu,hul,hur⟩:=Nl hx;obtain⟨vs,hv,hvl,hvr⟩:=Nl hy
     split at h
     ·rename_i hlen;have hn:ks.length=n:=by rw[hk0,List.length_replicate]
      rw[hk0]at h
      have hE:=Avq (P:=P) (γ:=γ) (w:=w) (d:=9998) (us:=us.toArray) (vs:=vs.toArray) ht hfi hs hk1 h (fun j hj=>by
       have hj1:j<as.length:=by omega
       have:=hur j hj1
       exact⟨us.getD j undef,by simp[Aq,show j<us.length by omega],this⟩) (fun j hj=>by
       have hj1:j<bs.length:=by omega
       have:=hvr j hj1
       exact⟨vs.getD j undef,by simp[Aq,show j<vs.length by omega],this⟩)
      have hg:=run_eqGuard_agg (P:=P) w (if neg then .neq else .eql) t x y us.toArray vs.toArray hk3;refine B3 hI (u:=.bool (z != neg)) ?_ Lo;cases neg
      ·simp only[Er,if_false]at ho hg;simp[execOp,ho,hu,hv,hg,run_eql_struct,hE]
      ·simp only[if_true]at ho hg;simp[execOp,ho,hu,hv,hg,run_neq_struct,hE]
     ·cases h
    ·cases h
   ·cases hk2
  ·cases hk
theorem Aso{f:Nat}{first captured:Array Operand}{as cs:List S}(ho:o.op=.makeFunc (.func f) first captured)(ha:as.length=first.toList.length/\∀ (i:Nat) s x,as[i]?=some s->first.toList[i]?=some x->RepV γ w (Ab e s) (a.eval x))(hc:cs.length=captured.toList.length/\∀ (i:Nat) s x,cs[i]?=some s->captured.toList[i]?=some x->RepV γ w (Ab e s) (a.eval x))(hI:Inv G N γ σ w)
  (h:Ae (.mkf f as cs) e σ=some (v,σ1)):Cb P G N γ σ w ((execOp a.eval o).run P w) v σ1:=by
 simp only[Ae]at h
 split at h
 ·rename_i hcell;simp only[Af]at hcell;cases h
  have key:∀ {ss:List S} {xs:List Operand},(ss.length=xs.length/\∀ (i:Nat) s x,ss[i]?=some s->xs[i]?=some x->RepV γ w (Ab e s) (a.eval x))->(ss.map (Ab e)).all V.cellB=true->(ss.map (Ab e)).length=(xs.map a.eval).length/\∀ j,j<(ss.map (Ab e)).length->RepC γ w ((ss.map (Ab e)).getD j .und) ((xs.map a.eval).getD j undef):=fun {ss xs} hs hcc=>by
   refine⟨by simp[hs.1],fun j hj=>?_⟩;have hj1:j<ss.length:=by simpa using hj
   have hj2:j<xs.length:=by omega
   have e1:(ss.map (Ab e)).getD j .und=Ab e ss[j]:=by simp[Aq,hj1]
   have e2:(xs.map a.eval).getD j undef=a.eval xs[j]:=by rw[Aq,Bb,A0 hj2];rfl
   rw[e1,e2];exact Aw (Bd.1 hcc _ (by simp only[D6];exact⟨ss[j],Fa hj1,rfl⟩)) (hs.2 j _ _ (A0 hj1) (A0 hj2))
  obtain⟨a1,a2⟩:=key ha hcell.1;obtain⟨c1,c2⟩:=key hc hcell.2;refine B3 hI (u:=.func (.func f) (first.toList.map a.eval).toArray (captured.toList.map a.eval).toArray) ?_ (Cv (.fn a1 c1 a2 c2))
  have e1:(first.toList.map a.eval).toArray=first.map a.eval:=by apply Array.toList_inj.1;simp
  have e2:(captured.toList.map a.eval).toArray=captured.map a.eval:=by apply Array.toList_inj.1;simp
  rw[e1,e2];simp[execOp,ho,Instr.makeFunc]
 ·cases h
open Go Go.RowKit
variable {P:Program} {G:List (Nat × List V)} {N:Nat} {γ:Gh} {σ σ1:St} {w:World} {e:Env} {a:Act} {o:Oper} {v:V}
theorem Asp{t:TypeId}(ho:o.op=.makeMap t none)(hI:Inv G N γ σ w)(h:Ae .mmk e σ=some (v,σ1)):Cb P G N γ σ w ((execOp a.eval o).run P w) v σ1:=by
 simp only[Ae]at h;cases h;obtain⟨i1,i2⟩:=hI.newMap;refine⟨.map (some w.heap.size),_,_,.inl ?_,Cv (.mp (g':=0) ?_ rfl (fun _=>rfl)),i1,i2,Aaf hI.base,fun _ _=>rfl⟩
 ·simp[execOp,ho,Instr.makeMap,newObj,Sem.run]
 ·show(γ.O++[(w.heap.size,0)])[σ.length]?=_;rw[<-hI.len];simp
theorem Aa9{s:List UInt8}:∀ {kvs:List (List UInt8 × V)} {es:List MapEntry} {i:Nat},es.length=kvs.length->(∀ (j:Nat) (k:List UInt8) (v:V),kvs[j]?=some (k,v)->∃ en:MapEntry,es[j]?=some en/\en.key=.string ⟨k.toArray⟩/\RepC γ w v en.val) ->
  (Fv s kvs i=none/\Instr.findNow .string (.string ⟨s.toArray⟩) es i=some none)\/∃ j v en,Fv s kvs i=some (i+j,v)/\kvs[j]?=some (s,v)/\es[j]?=some en/\Instr.findNow .string (.string ⟨s.toArray⟩) es i=some (some (i+j,en.val))/\RepC γ w v en.val
 | [],[],i,_,_=>.inl ⟨rfl,rfl⟩
 | [],_::_,_,h,_=>by simp at h
 | _::_,[],_,h,_=>by simp at h
 | (k,v)::kvs,en::es,i,hl,hr=>by
  obtain⟨en',h1,h2,h3⟩:=hr 0 k v rfl;simp at h1;subst h1
  have hb:((⟨s.toArray⟩:ByteArray)==⟨k.toArray⟩)=(s==k):=by
   rw[beq_toListBytes,ByteArray.toList_eq,ByteArray.toList_eq]
  by_cases hk:k=s
  ·subst hk;refine .inr ⟨0,v,en,by simp[Fv],rfl,rfl,?_,h3⟩;simp only[Instr.findNow,h2,Instr.sameNow,hb,beq_self_eq_true,Lj]
  ·have hkb:(s==k)=false:=by simpa using fun h=>hk h.symm
   have ih:=Aa9 (s:=s) (kvs:=kvs) (es:=es) (i:=i+1) (by simpa using hl) (fun j k' v' hj=>by simpa using hr (j+1) k' v' (by simpa using hj));have hf:Fv s ((k,v)::kvs) i=Fv s kvs (i+1):=by simp[Fv,hk]
   have hn:Instr.findNow .string (.string ⟨s.toArray⟩) (en::es) i=Instr.findNow .string (.string ⟨s.toArray⟩) es (i+1):=by
    simp only[Instr.findNow,h2,Instr.sameNow,hb,hkb]
   rw[hf,hn];rcases ih with⟨a1,a2⟩ | ⟨j,v',en',a1,a2,a3,a4,a5⟩
   ·exact .inl ⟨a1,a2⟩
   ·refine .inr ⟨j+1,v',en',?_,by simpa using a2,by simpa using a3,?_,a5⟩
    ·rw[a1];congr 2;omega
    ·rw[a4];congr 3;omega
theorem W6{v:V}{u:Value}(hf:v.flatB=true)(h:RepC γ w v u)(γ':Gh)(w':World):RepC γ' w' v u:=by
 cases h with
 | row h=>cases h with
  | bool=>exact .row .bool
  | int=>exact .row .int
  | str h=>exact .row (.str h)
  | nili=>exact .row .nili
  | ifc=>exact .row .ifc
  | nils=>exact .row .nils
  | lst=>cases hf
 | nilp=>exact .nilp
 | nilf=>exact .nilf
 | ifc=>exact .ifc
 | imm=>cases hf
 | ptr=>cases hf
 | sl=>cases hf
 | fn=>cases hf
 | mp=>cases hf
theorem Wl{kt:TypeId}{k:Value}{l:List MapEntry}{r:Option (Nat × Value)}(hd:P.underlying kt=some .string)(h:Instr.findNow .string k l 0=some r):(Instr.findKey kt k l).run P w=.ok r w:=by
 simp[Instr.findKey,run_underlying hd,Result.andThen,h]
def Ok(w:World)(r:Nat)(o:Obj):World:={ w with heap:=w.heap.setIfInBounds r o }
theorem Afb{r:Nat}{es:Array MapEntry}{clock:Nat}(o:Obj)(hb:w.heap[r]?=some (.map es clock)):(setObj r o).run P w=.ok () (Ok w r o):=by
 simp[setObj,Sem.run,hb,Ok]
theorem Asq{t kt et:TypeId}{fi:TypeInfo}{z:Value}{zv:V}{x y:Operand}{s1 s2:S}(ho:o.op=.lookup t x y false)(ht:P.underlying t=some (.map kt et))(hk:P.underlying kt=some .string)(hfi:P.info? et=some fi)(hz:fi.zero=some z)(hc:K2 zv z=true)
  (hx:RepV γ w (Ab e s1) (a.eval x)) (hy:RepV γ w (Ab e s2) (a.eval y)) (hI:Inv G N γ σ w) (h:Ae (.mlk zv s1 s2) e σ=some (v,σ1)):Cb P G N γ σ w ((execOp a.eval o).run P w) v σ1:=by
 simp only[Ae]at h
 split at h
 ·rename_i i s e1 e2;rw[e1]at hx;rw[e2]at hy;obtain⟨hy',_⟩:=Fl (Aw rfl hy);obtain⟨blk,g',hO,hu⟩:=Aii (Aw rfl hx)
  split at h
  ·rename_i kvs hkv;cases h;obtain⟨hg0,_,es,hh,hes,hent⟩:=hI.obj i _ _ hkv hO;have hx':=hu hg0;have hh:w.heap[blk]?=some (.map es kvs.length):=hh
   have hchk:∀ b,(Instr.checkKey b 10000 kt (.string ⟨s.toArray⟩)).run P w=.ok () w:=fun b=>by
    have:∀ d,(Instr.checkKey b (d+1) kt (.string ⟨s.toArray⟩)).run P w=.ok () w:=fun d=>by simp[Instr.checkKey,run_underlying hk]
    exact this 9999
   rcases Aa9 (γ:=γ) (w:=w) (s:=s) (kvs:=kvs) (es:=es.toList) (i:=0) (by simpa using hes) (fun j k v hj=>by
    obtain⟨en,a1,a2,_,_,_,a6⟩:=hent j k v hj
    exact⟨en,by simpa using a1,a2,a6⟩) with⟨f1,f2⟩ | ⟨j,v',en,f1,f2,f3,f4,f5⟩
   ·have hf:=Wl (P:=P) (w:=w) hk f2;rw[f1];refine B3 hI (u:=z) ?_ (Cv (Wp hc));simp[execOp,ho,hx',hy',Instr.lookup,run_underlying ht,getObj,Sem.run,hh];simp[hchk,hf,zeroValue,typeInfo,hfi,hz]
   ·have hf:=Wl (P:=P) (w:=w) hk f4;rw[f1];refine B3 hI (u:=en.val) ?_ (Cv f5);simp[execOp,ho,hx',hy',Instr.lookup,run_underlying ht,getObj,Sem.run,hh];simp[hchk,hf]
  ·cases h
 ·cases h
theorem Asr{t kt et:TypeId}{x y z:Operand}{s1 s2 s3:S}(ho:o.op=.mapUpdate t x y z)(ht:P.underlying t=some (.map kt et))(hk:P.underlying kt=some .string)
  (hx:RepV γ w (Ab e s1) (a.eval x)) (hy:RepV γ w (Ab e s2) (a.eval y)) (hz:RepV γ w (Ab e s3) (a.eval z)) (hI:Inv G N γ σ w) (h:Ae (.mup s1 s2 s3) e σ=some (v,σ1)):Cb P G N γ σ w ((execOp a.eval o).run P w) v σ1:=by
 simp only[Ae]at h
 split at h
 ·rename_i i s e1 e2;rw[e1]at hx;rw[e2]at hy;obtain⟨hy',hsl⟩:=Fl (Aw rfl hy);obtain⟨blk,g',hO,hu⟩:=Aii (Aw rfl hx)
  split at h
  ·rename_i kvs hkv
   split at h
   ·rename_i hflat
    cases h;have hzc:RepC γ w (Ab e s3) (a.eval z):=Aw (by revert hflat;cases Ab e s3<;>simp[V.flatB,V.cellB]) hz;obtain⟨hg0,_,es,hh,hes,hent⟩:=hI.obj i _ _ hkv hO;have hx':=hu hg0;have hh:w.heap[blk]?=some (.map es kvs.length):=hh;have hlt:blk<w.heap.size:=(Array.getElem?_eq_some_iff.1 hh).1
    have hchk:∀ b,(Instr.checkKey b 10000 kt (.string ⟨s.toArray⟩)).run P w=.ok () w:=fun b=>by
     have:∀ d,(Instr.checkKey b (d+1) kt (.string ⟨s.toArray⟩)).run P w=.ok () w:=fun d=>by simp[Instr.checkKey,run_underlying hk]
     exact this 9999
    have hset:∀ ob,(Ok w blk ob).heap.size=w.heap.size/\(∀ b,b≠blk->(Ok w blk ob).heap[b]?=w.heap[b]?)/\(Ok w blk ob).heap[blk]?=some ob:=fun ob=>by
     refine⟨by simp[Ok],fun b hb=>by simp[Ok,Array.getElem?_setIfInBounds,Ne.symm hb],by simp[Ok,hlt]⟩
    rcases Aa9 (γ:=γ) (w:=w) (s:=s) (kvs:=kvs) (es:=es.toList) (i:=0) (by simpa using hes) (fun j k v hj=>by
     obtain⟨en,a1,a2,_,_,_,a6⟩:=hent j k v hj
     exact⟨en,by simpa using a1,a2,a6⟩) with⟨f1,f2⟩ | ⟨j,v',en,f1,f2,f3,f4,f5⟩
    ·have hf:=Wl (P:=P) (w:=w) hk f2;rw[f1];obtain⟨q1,q2,q3⟩:=hset (.map (es.push { key:=.string ⟨s.toArray⟩,val:=a.eval z,born:=kvs.length }) (kvs.length+1))
     obtain⟨i1,i2⟩:=hI.turnMap (kvs':=kvs++[(s,Ab e s3)]) (es':=es.push { key:=.string ⟨s.toArray⟩,val:=a.eval z,born:=kvs.length }) hO hkv q1 q2 (by rw[q3];simp) (by simp[hes]) (fun j k v hj=>by
      by_cases hj2:j<kvs.length
      ·rw[Co hj2]at hj;obtain⟨en,a1,a2⟩:=hent j k v hj;exact⟨en,by rw[Array.getElem?_push_lt (by omega)];simpa[show j<es.size by omega] using a1,a2⟩
      ·rw[Cf (by omega)]at hj
       have hj3:j=kvs.length:=by
        have:=(Ar.1 hj).1;simp at this;omega
       subst hj3;simp at hj;obtain⟨rfl,rfl⟩:=hj
       exact⟨{ key:=.string ⟨s.toArray⟩,val:=a.eval z,born:=kvs.length },by rw[show kvs.length=es.size from hes.symm];simp,rfl,hsl,rfl,hflat,hzc⟩)
     refine⟨undef,_,γ,.inr ⟨?_,rfl⟩,.und,i1,i2,⟨rfl,rfl,rfl,by rw[q1];exact Ah _,fun k hk=>q2 k (by have:=hI.low i _ hO;have:N<=blk:=this;omega)⟩,fun _ _=>rfl⟩;simp[execOp,ho,hx',hy',Instr.mapUpdate,run_underlying ht,getObj,Sem.run,hh];simp[hchk,hf,Afb _ hh]
    ·have hf:=Wl (P:=P) (w:=w) hk f4;rw[f1];have hjl:j<kvs.length:=(Ar.1 f2).1;obtain⟨en0,b1,b2,b3,b4,b5,b6⟩:=hent j s v' f2
     have hen:en0=en:=by
      have:es.toList[j]?=some en0:=by simpa using b1
      rw[f3]at this;cases this;rfl
     subst hen;obtain⟨q1,q2,q3⟩:=hset (.map (es.modify j fun en=>{ en with key:=.string ⟨s.toArray⟩,val:=a.eval z }) kvs.length)
     obtain⟨i1,i2⟩:=hI.turnMap (kvs':=kvs.set j (s,Ab e s3)) (es':=es.modify j fun en=>{ en with key:=.string ⟨s.toArray⟩,val:=a.eval z }) hO hkv q1 q2 (by rw[q3];simp) (by simp[hes]) (fun j' k v hj=>by
      by_cases hjj:j=j'
      ·subst hjj;rw[B8 hjl]at hj;cases hj;exact⟨{ en0 with key:=.string ⟨s.toArray⟩,val:=a.eval z },by simp[Array.getElem?_modify,b1],rfl,hsl,b4,hflat,hzc⟩
      ·rw[Bc hjj]at hj;obtain⟨en,a1,a2⟩:=hent j' k v hj
       exact⟨en,by simp[Array.getElem?_modify,hjj,a1],a2⟩)
     have f0:0+j=j:=Ez j;rw[f0]at hf;simp only[f0];refine⟨undef,_,γ,.inr ⟨?_,rfl⟩,.und,i1,i2,⟨rfl,rfl,rfl,by rw[q1];exact Ah _,fun k hk=>q2 k (by have:=hI.low i _ hO;have:N<=blk:=this;omega)⟩,fun _ _=>rfl⟩
     have hkts:(Instr.keyThatStays (((es[j]?).map (·.key)).getD (.string ⟨s.toArray⟩)) (.string ⟨s.toArray⟩)).run P w=.ok (.string ⟨s.toArray⟩) w:=by
      rw[b1]
      have hsame:Instr.sameBits 10000 (.string ⟨s.toArray⟩) (.string ⟨s.toArray⟩)=true:=by
       rw[Instr.sameBits];rw[beq_toListBytes];simp
      simp[b2,Instr.keyThatStays,hsame]
     simp[execOp,ho,hx',hy',Instr.mapUpdate,run_underlying ht,getObj,Sem.run,hh];simp[hchk,hf,hkts,Afb _ hh]
   ·cases h
  ·cases h
 ·cases h
open Go Go.RowKit
variable {P:Program} {G:List (Nat × List V)} {N:Nat} {γ:Gh} {σ σ1:St} {w:World} {e:Env} {a:Act} {o:Oper} {v:V}
/-! The check -/
def Nv(P:Program)(zs:List V)(t:TypeId):Bool:=
 match P.info? t with
 | some i=>match i.zero with
  | some z=>Gc zs z.cells.toList
  | none=>false
 | none=>false
def Hz(P:Program)(t:TypeId)(n:Nat):Bool:=match P.info? t with
 | some i=>i.size==n
 | none=>false
theorem Qr{zs:List V}{t:TypeId}(h:Nv P zs t=true):∃ fi z,P.info? t=some fi/\fi.zero=some z/\Gc zs z.cells.toList=true:=by
 unfold Nv at h
 split at h
 ·rename_i fi hfi
  split at h
  ·rename_i z hz;exact⟨fi,z,hfi,hz,h⟩
  ·cases h
 ·cases h
theorem Is{t:TypeId}{n:Nat}(h:Hz P t n=true):∃ fi,P.info? t=some fi/\fi.size=n:=by
 unfold Hz at h
 split at h
 ·rename_i fi hfi;exact⟨fi,hfi,eq_of_beq h⟩
 ·cases h
def Sc(G:List (Nat × List V))(places:List (Nat × Nat)):List (Nat × Nat × S)->List (Nat × Operand)->Bool
 | [],[]=>true
 | p::ps,q::qs=>(match places[q.1]? with
   | some (o,n)=>o==p.1&&n==p.2.1
   | none=>false)&&(Bo G p.2.2 q.2&&Sc G places ps qs)
 | _,_=>false
def Ol(G:List (Nat × List V)):List (Nat × S)->List (Nat × Operand)->Bool
 | [],[]=>true
 | p::ps,q::qs=>p.1==q.1&&(Bo G p.2 q.2&&Ol G ps qs)
 | _,_=>false
theorem Ag5{places:List (Nat × Nat)}:∀ {ps:List (Nat × Nat × S)} {qs:List (Nat × Operand)},Sc G places ps qs=true->ps.length=qs.length/\∀ (i:Nat) (p:Nat × Nat × S) (q:Nat × Operand),ps[i]?=some p->qs[i]?=some q->places[q.1]?=some (p.1,p.2.1)/\Bo G p.2.2 q.2=true
 | [],[],_=>⟨rfl,fun i p q h=>by simp at h⟩
 | p::ps,q::qs,h=>by
  simp only[Sc,Af]at h;obtain⟨h1,h2,h3⟩:=h;obtain⟨l,g⟩:=Ag5 h3;refine⟨by simp[l],fun i p' q' hp hq=>?_⟩
  cases i with
  | zero=>
   simp at hp hq;subst hp hq
   split at h1
   ·rename_i o n hpl;simp only[Af,beq_iff_eq]at h1;exact⟨by rw[hpl,h1.1,h1.2],h2⟩
   ·cases h1
  | succ i=>exact g i p' q' (by simpa using hp) (by simpa using hq)
 | [],_::_,h=>by simp[Sc]at h
 | _::_,[],h=>by simp[Sc]at h
theorem W7:∀ {ps:List (Nat × S)} {qs:List (Nat × Operand)},Ol G ps qs=true->ps.length=qs.length/\∀ (i:Nat) (p:Nat × S) (q:Nat × Operand),ps[i]?=some p->qs[i]?=some q->p.1=q.1/\Bo G p.2 q.2=true
 | [],[],_=>⟨rfl,fun i p q h=>by simp at h⟩
 | p::ps,q::qs,h=>by
  simp only[Ol,Af,beq_iff_eq]at h;obtain⟨h1,h2,h3⟩:=h;obtain⟨l,g⟩:=W7 h3;refine⟨by simp[l],fun i p' q' hp hq=>?_⟩
  cases i with
  | zero=>
   simp at hp hq;subst hp hq;exact⟨h1,h2⟩
  | succ i=>exact g i p' q' (by simpa using hp) (by simpa using hq)
 | [],_::_,h=>by simp[Ol]at h
 | _::_,[],h=>by simp[Ol]at h
def C1(P:Program)(t:TypeId)(f:TypeDesc->Bool):Bool:=match P.underlying t with
 | some d=>f d
 | none=>false
theorem C3{t:TypeId}{f:TypeDesc->Bool}(h:C1 P t f=true):∃ d,P.underlying t=some d/\f d=true:=by
 unfold C1 at h
 split at h
 ·exact⟨_,by assumption,h⟩
 ·cases h
def Gg:TypeDesc->Bool
 | .string=>true
 | _=>false
def N1(k:IntKind):TypeDesc->Bool
 | .int k'=>decide (k=k')
 | _=>false
def Sd(G:List (Nat × List V))(m:Nat):List (Nat × Nat × S)->List (Nat × Operand)->Bool
 | [],[]=>true
 | p::ps,q::qs=>q.1*m==p.1&&(m==p.2.1&&(Bo G p.2.2 q.2&&Sd G m ps qs))
 | _,_=>false
theorem Ag6{m:Nat}:∀ {ps:List (Nat × Nat × S)} {qs:List (Nat × Operand)},Sd G m ps qs=true->ps.length=qs.length/\∀ (i:Nat) (p:Nat × Nat × S) (q:Nat × Operand),ps[i]?=some p->qs[i]?=some q->(q.1*m,m)=(p.1,p.2.1)/\Bo G p.2.2 q.2=true
 | [],[],_=>⟨rfl,fun i p q h=>by simp at h⟩
 | p::ps,q::qs,h=>by
  simp only[Sd,Af,beq_iff_eq]at h;obtain⟨h1,h2,h3,h4⟩:=h;obtain⟨l,g⟩:=Ag6 h4;refine⟨by simp[l],fun i p' q' hp hq=>?_⟩
  cases i with
  | zero=>
   simp at hp hq;subst hp hq;exact⟨by rw[h1,h2],h3⟩
  | succ i=>exact g i p' q' (by simpa using hp) (by simpa using hq)
 | [],_::_,h=>by simp[Sd]at h
 | _::_,[],h=>by simp[Sd]at h
def Jy(G:List (Nat × List V)):List S->List Operand->Bool
 | [],[]=>true
 | s::ss,x::xs=>Bo G s x&&Jy G ss xs
 | _,_=>false
theorem W8(hE:RepE γ w e a.tmps)(hI:Inv G N γ σ w):∀ {ss:List S} {xs:List Operand},Jy G ss xs=true->ss.length=xs.length/\∀ (i:Nat) s x,ss[i]?=some s->xs[i]?=some x->RepV γ w (Ab e s) (a.eval x)
 | [],[],_=>⟨rfl,fun i s x h=>by simp at h⟩
 | s::ss,x::xs,h=>by
  simp only[Jy,Af]at h;obtain⟨l,g⟩:=W8 hE hI h.2;refine⟨by simp[l],fun i s' x' hs hx=>?_⟩
  cases i with
  | zero=>simp at hs hx;subst hs hx;exact Ua h.1 hE hI
  | succ i=>exact g i s' x' (by simpa using hs) (by simpa using hx)
 | [],_::_,h=>by simp[Jy]at h
 | _::_,[],h=>by simp[Jy]at h
def Yt(P:Program)(f:TypeId->TypeId->Bool):TypeDesc->Bool
 | .map k e=>f k e
 | _=>false
def Abn(P:Program)(z:V)(t:TypeId):Bool:=match P.info? t with
 | some i=>match i.zero with
  | some u=>K2 z u
  | none=>false
 | none=>false
theorem Amw{z:V}{t:TypeId}(h:Abn P z t=true):∃ fi u,P.info? t=some fi/\fi.zero=some u/\K2 z u=true:=by
 unfold Abn at h
 split at h
 ·rename_i fi hfi
  split at h
  ·rename_i u hu;exact⟨fi,u,hfi,hu,h⟩
  ·cases h
 ·cases h
def Aio(P:Program)(G:List (Nat × List V))(zs:List V)(ps:List (Nat × Nat × S))(t:TypeId)(parts:List (Nat × Operand)):TypeDesc->Bool
 | .struct fs=>match fs.toList.mapM (fun f=>(P.info? f.type).map fun i=>(f.offset,i.size)) with
  | some places=>Sc G places ps parts
  | none=>false
 | .array _ el=>match P.info? el with
  | some fe=>Sd G fe.size ps parts
  | none=>false
 | _=>false
def Ak7(P:Program)(off i:Nat):TypeDesc->Bool
 | .struct fs=>match fs[i]? with
  | some f=>f.offset==off&&(match P.info? f.type with
   | some fi=>fi.size != 0
   | none=>false)
  | none=>false
 | _=>false
def Ak8(P:Program)(off n:Nat)(one:Bool)(i:Nat):TypeDesc->Bool
 | .struct fs=>match fs[i]? with
  | some f=>f.offset==off&&(Hz P f.type n&&C1 P f.type (fun d=>La d==!one))
  | none=>false
 | _=>false
def Ak9(P:Program)(len m:Nat)(one:Bool):TypeDesc->Bool
 | .array len' el=>len==len'&&(Hz P el m&&C1 P el (fun d=>La d==!one))
 | _=>false
def E1(P:Program)(f:TypeId->Bool):TypeDesc->Bool
 | .slice el=>f el
 | _=>false
def Y7(P:Program)(bytes m:Nat)(el:TypeId):Bool:=match P.info? el with
 | some fi=>fi.size==m&&(fi.bytes==bytes&&(decide (0<m)&&(decide (0<bytes)&&(match fi.zero with
  | some z=>z.cells.size==m
  | none=>false))))
 | none=>false
def Se(P:Program)(G:List (Nat × List V))(ao:AO)(op:Op):Bool:=
 match ao,op with
 | .mov s,.move x=>Bo G s x
 | .mov s,.assign x=>Bo G s x
 | .pick s1 s2 s3,.pick x y z=>Bo G s1 x&&(Bo G s2 y&&Bo G s3 z)
 | .new t' zs,.alloc t=>t'==t&&Nv P zs t
 | .box t' s,.box t x=>t'==t&&Bo G s x
 | .build zs ps,.build t parts=>Nv P zs t&&C1 P t (Aio P G zs ps t parts.toList)
 | .rows n zs ps,.buildSlice t n' parts=>n==n'&&(C1 P t (E1 P fun el=>Nv P zs el&&Hz P el zs.length)&&(decide (0<zs.length)&&(decide (n*zs.length<=16777216)&&Ol G ps parts.toList)))
 | .rowf n zs ps,.buildSlice t n' parts=>n==n'&&(C1 P t (E1 P fun el=>Nv P zs el&&Hz P el zs.length)&&(decide (0<zs.length)&&(decide (n*zs.length<=16777216)&&Ol G ps parts.toList)))
 | .rowo el' n zs ps,.buildSlice t n' parts=>n==n'&&(C1 P t (E1 P fun el=>el'==el&&(Nv P zs el&&Hz P el zs.length))&&(decide (0<zs.length)&&(decide (n*zs.length<=16777216)&&Ol G ps parts.toList)))
 | .mk el' bytes zs s1 s2,.makeSlice t x y=>Bo G s1 x&&(Bo G s2 y&&(decide (0<zs.length)&&C1 P t (E1 P fun el=>el'==el&&(Nv P zs el&&(Hz P el zs.length&&(match P.info? el with
  | some fi=>fi.bytes==bytes&&decide (0<bytes)
  | none=>false))))))
 | .load n one s,.load t x=>Bo G s x&&(Hz P t n&&C1 P t (fun d=>La d==!one))
 | .store n s1 s2,.store t x y=>Bo G s1 x&&(Bo G s2 y&&Hz P t n)
 | .chk s,.nilCheck x=>Bo G s x
 | .bin b s1 s2,.binOp b' _ x y _=>decide (b=b')&&(Bo G s1 x&&Bo G s2 y)
 | .eq k neg s1 s2,.binOp b' t x y _=>decide (b'=(if neg then BinOp.neq else BinOp.eql))&&(Adr P k t x y&&(Bo G s1 x&&Bo G s2 y))
 | .un b s,.unOp b' _ x=>decide (b=b')&&Bo G s x
 | .cvi k s,.convert t1 t2 x=>Bo G s x&&((P.underlying t1).isSome&&C1 P t2 (N1 k))
 | .cvs s,.convert t1 t2 x=>Bo G s x&&((P.underlying t1).isSome&&C1 P t2 Gg)
 | .cvl s,.convert t1 t2 x=>t1==t2&&(Bo G s x&&C1 P t1 (E1 P fun el=>C1 P el (N1 .u8)))
 | .bts s,.convert t1 t2 x=>Bo G s x&&(C1 P t2 Gg&&C1 P t1 (E1 P fun el=>C1 P el (N1 .u8)))
 | .stb el' s,.convert t1 t2 x=>Bo G s x&&(C1 P t1 Gg&&C1 P t2 (E1 P fun el=>el'==el&&C1 P el (N1 .u8)))
 | .sap n s,.sliceToArrayPointer t x=>Bo G s x&&C1 P t (fun d=>match d with
  | .array l _=>l==n
  | _=>false)
 | .slcs s lo hi,.slice t x lo' hi' mx=>mx.isNone&&(Bo G s x&&(Gl G lo lo'&&(Gl G hi hi'&&C1 P t Gg)))
 | .slc m s lo hi mx,.slice t x lo' hi' mx'=>Bo G s x&&(Gl G lo lo'&&(Gl G hi hi'&&(Gl G mx mx'&&((!mx.isSome||hi.isSome)&&(m != 0&&C1 P t (E1 P fun el=>Hz P el m))))))
 | .slca len m s lo hi,.slice t x lo' hi' mx=>mx.isNone&&(Bo G s x&&(Gl G lo lo'&&(Gl G hi hi'&&(decide (len<=16777216)&&C1 P t (fun d=>match d with
  | .array l el=>l==len&&Hz P el m
  | _=>false)))))
 | .mkf f as cs,.makeFunc (.func f') first captured=>f==f'&&(Jy G as first.toList&&Jy G cs captured.toList)
 | .mmk,.makeMap _ none=>true
 | .mlk z s1 s2,.lookup t x y false=>Bo G s1 x&&(Bo G s2 y&&C1 P t (Yt P fun k el=>C1 P k Gg&&Abn P z el))
 | .mup s1 s2 s3,.mapUpdate t x y z=>Bo G s1 x&&(Bo G s2 y&&(Bo G s3 z&&C1 P t (Yt P fun k _=>C1 P k Gg)))
 | .fld off n one s,.field t x i=>Bo G s x&&C1 P t (Ak8 P off n one i)
 | .ida len m one s1 s2,.index t x y=>Bo G s1 x&&(Bo G s2 y&&C1 P t (Ak9 P len m one))
 | .fad off s,.fieldAddr t x i=>Bo G s x&&C1 P t (Ak7 P off i)
 | .iad m s1 s2,.indexAddr t x y=>Bo G s1 x&&(Bo G s2 y&&C1 P t (E1 P fun el=>Hz P el m))
 | .iar len m s1 s2,.indexAddr t x y=>Bo G s1 x&&(Bo G s2 y&&C1 P t (fun d=>match d with
  | .array l el=>l==len&&Hz P el m
  | _=>false))
 | .idx s1 s2,.index t x y=>Bo G s1 x&&(Bo G s2 y&&C1 P t Gg)
 | .ext i s,.extract x i'=>i==i'&&Bo G s x
 | .len s,.call { callee:=.builtin .len,args,argTypes }=>match args.toList,argTypes.toList with
  | [x],[t]=>Bo G s x&&C1 P t (E1 P fun _=>true)
  | _,_=>false
 | .lens s,.call { callee:=.builtin .len,args,argTypes }=>match args.toList,argTypes.toList with
  | [x],[t]=>Bo G s x&&C1 P t Gg
  | _,_=>false
 | .app bytes m s1 s2,.call { callee:=.builtin .append,args,argTypes }=>match args.toList,argTypes.toList with
  | [x,y],[t,u]=>t==u&&(Bo G s1 x&&(Bo G s2 y&&C1 P t (E1 P fun el=>el==m.2&&Y7 P bytes m.1 el)))
  | _,_=>false
 | .apps ty s1 s2,.call { callee:=.builtin .append,args,argTypes }=>match args.toList,argTypes.toList with
  | [x,y],[t,u]=>Bo G s1 x&&(Bo G s2 y&&(C1 P t (E1 P fun el=>el==ty&&Y7 P 1 1 el)&&C1 P u Gg))
  | _,_=>false
 | .mx s1 s2,.call { callee:=.builtin .max,args,.. }=>match args.toList with
  | [x,y]=>Bo G s1 x&&Bo G s2 y
  | _=>false
 | .mn s1 s2,.call { callee:=.builtin .min,args,.. }=>match args.toList with
  | [x,y]=>Bo G s1 x&&Bo G s2 y
  | _=>false
 | _,_=>false
theorem Lu{α:Type}{xs:Array α}{l:List α}(h:xs.toList=l):xs=l.toArray:=by subst h;simp
theorem Af3{bytes m:Nat}{el:TypeId}(h:Y7 P bytes m el=true):∃ fi z,P.info? el=some fi/\fi.size=m/\fi.bytes=bytes/\0<m/\0<bytes/\fi.zero=some z/\z.cells.size=m:=by
 unfold Y7 at h
 split at h
 ·rename_i fi hfi;simp only[Af,beq_iff_eq,decide_eq_true_eq]at h;obtain⟨h1,h2,h3,h4,h5⟩:=h
  split at h5
  ·rename_i z hz;exact⟨fi,z,hfi,h1,h2,h3,h4,hz,eq_of_beq h5⟩
  ·cases h5
 ·cases h
theorem Ay4{ao:AO}(hok:Se P G ao o.op=true)(hE:RepE γ w e a.tmps)(hI:Inv G N γ σ w)(h:Ae ao e σ=some (v,σ1)):Cb P G N γ σ w ((execOp a.eval o).run P w) v σ1:=by
 have R:=fun {s:S} {x:Operand} (h:Bo G s x=true)=>Ua (a:=a) h hE hI
 generalize ho:o.op=op at hok;unfold Se at hok
 split at hok
 ·-- move
  simp only[Ae]at h;cases h;exact B3 hI (by simp[execOp,ho]) (R hok)
 ·simp only[Ae]at h;cases h;exact B3 hI (by simp[execOp,ho]) (R hok)
 ·simp only[Af]at hok;exact Apf ho (R hok.1) (R hok.2.1) (R hok.2.2) hI h
 ·simp only[Af,beq_iff_eq]at hok;obtain⟨rfl,hok⟩:=hok;obtain⟨fi,z,h1,h2,h3⟩:=Qr hok;exact Asd ho h1 h2 h3 hI h
 ·simp only[Af,beq_iff_eq]at hok;obtain⟨rfl,hok⟩:=hok;exact Ase ho (R hok) hI h
 ·simp only[Af]at hok;obtain⟨fi,z,h1,h2,h3⟩:=Qr hok.1;obtain⟨d,hd,hb⟩:=C3 hok.2;unfold Aio at hb
  split at hb
  ·split at hb
   ·rename_i places hpl;obtain⟨l,g⟩:=Ag5 hb
    exact An6 ho hd h1 h2 h3 hpl (by simpa using l) (fun i p q hp hq=>by
     obtain⟨g1,g2⟩:=g i p q hp (by simpa using hq)
     exact⟨g1,R g2⟩) hI h
   ·cases hb
  ·split at hb
   ·rename_i fe hfe;obtain⟨l,g⟩:=Ag6 hb
    exact Ani ho hd h1 h2 h3 hfe (by simpa using l) (fun i p q hp hq=>by
     obtain⟨g1,g2⟩:=g i p q hp (by simpa using hq)
     exact⟨g1,R g2⟩) hI h
   ·cases hb
  ·cases hb
 ·simp only[Af,beq_iff_eq,decide_eq_true_eq]at hok;obtain⟨rfl,hd,hm,hb,hr⟩:=hok;obtain⟨d,hd,hs⟩:=C3 hd;unfold E1 at hs
  split at hs
  ·simp only[Af]at hs;obtain⟨fi,z,h1,h2,h3⟩:=Qr hs.1;obtain⟨fi',h1',h4⟩:=Is hs.2;rw[h1]at h1';cases h1';obtain⟨l,g⟩:=W7 hr
   exact Apl ho hd h1 h2 h3 h4 hm hb (by simpa using l) (fun i p q hp hq=>by
    obtain⟨g1,g2⟩:=g i p q hp (by simpa using hq)
    exact⟨g1,R g2⟩) hI h
  ·cases hs
 ·simp only[Af,beq_iff_eq,decide_eq_true_eq]at hok;obtain⟨rfl,hd,hm,hb,hr⟩:=hok;obtain⟨d,hd,hs⟩:=C3 hd;unfold E1 at hs
  split at hs
  ·simp only[Af]at hs;obtain⟨fi,z,h1,h2,h3⟩:=Qr hs.1;obtain⟨fi',h1',h4⟩:=Is hs.2;rw[h1]at h1';cases h1';obtain⟨l,g⟩:=W7 hr
   exact Apk ho hd h1 h2 h3 h4 hm hb (by simpa using l) (fun i p q hp hq=>by
    obtain⟨g1,g2⟩:=g i p q hp (by simpa using hq)
    exact⟨g1,R g2⟩) hI h
  ·cases hs
 ·simp only[Af,beq_iff_eq,decide_eq_true_eq]at hok;obtain⟨rfl,hd,hm,hb,hr⟩:=hok;obtain⟨d,hd,hs⟩:=C3 hd;unfold E1 at hs
  split at hs
  ·simp only[Af,beq_iff_eq]at hs;obtain⟨rfl,hs1,hs2⟩:=hs;obtain⟨fi,z,h1,h2,h3⟩:=Qr hs1;obtain⟨fi',h1',h4⟩:=Is hs2;rw[h1]at h1';cases h1';obtain⟨l,g⟩:=W7 hr
   exact Apm ho hd h1 h2 h3 h4 hm hb (by simpa using l) (fun i p q hp hq=>by
    obtain⟨g1,g2⟩:=g i p q hp (by simpa using hq)
    exact⟨g1,R g2⟩) hI h
  ·cases hs
 ·simp only[Af,beq_iff_eq,decide_eq_true_eq]at hok;obtain⟨k1,k2,hm,hd0⟩:=hok;obtain⟨d,hd,hs⟩:=C3 hd0;clear hd0;unfold E1 at hs
  split at hs
  ·simp only[Af,beq_iff_eq]at hs;obtain⟨rfl,hs1,hs2,hs3⟩:=hs;obtain⟨fi,z,h1,h2,h3⟩:=Qr hs1;obtain⟨fi',h1',h4⟩:=Is hs2;rw[h1]at h1' hs3;cases h1';simp only[Af,beq_iff_eq,decide_eq_true_eq]at hs3;obtain⟨rfl,hby⟩:=hs3;exact Avp ho hd h1 h2 h3 h4 hm hby (R k1) (R k2) hI h
  ·cases hs
 ·simp only[Af]at hok;obtain⟨fi,h1,h2⟩:=Is hok.2.1;obtain⟨d,hd,hs⟩:=C3 hok.2.2;exact Aph ho hd (eq_of_beq hs) h1 h2 (R hok.1) hI h
 ·simp only[Af]at hok;obtain⟨fi,h1,h2⟩:=Is hok.2.2;exact An5 ho h1 h2 (R hok.1) (R hok.2.1) hI h
 ·exact Ar6 ho (R hok) hI h
 ·simp only[Af,decide_eq_true_eq]at hok;obtain⟨rfl,h1,h2⟩:=hok;simp only[Ae,Bm]at h;obtain⟨v',h,h3⟩:=h;cases h3;exact Ar3 ho (R h1) (R h2) hI h
 ·simp only[Af,decide_eq_true_eq]at hok;obtain⟨rfl,h1,h2,h3⟩:=hok;exact Avr ho h1 (R h2) (R h3) hI h
 ·simp only[Af,decide_eq_true_eq]at hok;obtain⟨rfl,h1⟩:=hok;exact Avm ho (R h1) hI h
 ·simp only[Af]at hok;obtain⟨h1,h2,h3⟩:=hok;obtain⟨d1,hd1⟩:=Option.isSome_iff_exists.1 h2;obtain⟨d,hd,hs⟩:=C3 h3;unfold N1 at hs
  split at hs
  ·obtain rfl:=of_decide_eq_true hs;exact Ar4 ho hd1 hd (R h1) hI h
  ·cases hs
 ·simp only[Af]at hok;obtain⟨h1,h2,h3⟩:=hok;obtain⟨d1,hd1⟩:=Option.isSome_iff_exists.1 h2;obtain⟨d,hd,hs⟩:=C3 h3;unfold Gg at hs
  split at hs
  ·exact Ar5 ho hd1 hd (R h1) hI h
  ·cases hs
 ·simp only[Af,beq_iff_eq]at hok;obtain⟨rfl,h1,h2⟩:=hok;obtain⟨d,hd,hs⟩:=C3 h2;unfold E1 at hs
  split at hs
  ·obtain⟨d2,hd2,hs2⟩:=C3 hs;unfold N1 at hs2
   split at hs2
   ·obtain rfl:=of_decide_eq_true hs2;exact Ash ho hd hd2 (R h1) hI h
   ·cases hs2
  ·cases hs
 ·simp only[Af]at hok;obtain⟨h1,h2,h3⟩:=hok;obtain⟨d0,hd0,hs0⟩:=C3 h2;obtain⟨d,hd,hs⟩:=C3 h3;unfold Gg at hs0
  split at hs0
  ·unfold E1 at hs
   split at hs
   ·obtain⟨d2,hd2,hs2⟩:=C3 hs;unfold N1 at hs2
    split at hs2
    ·obtain rfl:=of_decide_eq_true hs2;exact Asm ho hd hd2 hd0 (R h1) hI h
    ·cases hs2
   ·cases hs
  ·cases hs0
 ·simp only[Af]at hok;obtain⟨h1,h2,h3⟩:=hok;obtain⟨d0,hd0,hs0⟩:=C3 h2;obtain⟨d,hd,hs⟩:=C3 h3;unfold Gg at hs0
  split at hs0
  ·unfold E1 at hs
   split at hs
   ·simp only[Af,beq_iff_eq]at hs;obtain⟨rfl,hs⟩:=hs;obtain⟨d2,hd2,hs2⟩:=C3 hs;unfold N1 at hs2
    split at hs2
    ·obtain rfl:=of_decide_eq_true hs2;exact Asn ho hd0 hd hd2 (R h1) hI h
    ·cases hs2
   ·cases hs
  ·cases hs0
 ·simp only[Af]at hok;obtain⟨h1,h2⟩:=hok;obtain⟨d,hd,hs⟩:=C3 h2
  split at hs
  ·obtain rfl:=eq_of_beq hs;exact Asl ho hd (R h1) hI h
  ·cases hs
 ·simp only[Af,Option.isNone_iff_eq_none]at hok;obtain⟨rfl,h1,h2,h3,h4⟩:=hok;obtain⟨d,hd,hs⟩:=C3 h4;unfold Gg at hs
  split at hs
  ·exact Apn ho hd h2 h3 (R h1) hE hI h
  ·cases hs
 ·simp only[Af,Hb,H8]at hok;obtain⟨h1,h2,h3,h4,h5,h7,h6⟩:=hok;obtain⟨d,hd,hs⟩:=C3 h6;unfold E1 at hs
  split at hs
  ·obtain⟨fi,g1,g2⟩:=Is hs;subst g2;exact Asg ho hd g1 h2 h3 h4 (fun h=>by rcases h5 with h5 | h5<;>simp_all) (by simpa using h7) (R h1) hE hI h
  ·cases hs
 ·simp only[Af,Option.isNone_iff_eq_none,decide_eq_true_eq]at hok;obtain⟨rfl,h1,h2,h3,h4,h5⟩:=hok;obtain⟨d,hd,hs⟩:=C3 h5
  split at hs
  ·simp only[Af,beq_iff_eq]at hs;obtain⟨rfl,hs⟩:=hs;obtain⟨fi,g1,g2⟩:=Is hs;subst g2;exact Apo ho hd g1 h2 h3 (by unfold maxLen;omega) (R h1) hE hI h
  ·cases hs
 ·simp only[Af,beq_iff_eq]at hok;obtain⟨rfl,h1,h2⟩:=hok;exact Aso ho (W8 hE hI h1) (W8 hE hI h2) hI h
 ·exact Asp ho hI h
 ·simp only[Af]at hok;obtain⟨h1,h2,h3⟩:=hok;obtain⟨d,hd,hs⟩:=C3 h3;unfold Yt at hs
  split at hs
  ·simp only[Af]at hs;obtain⟨d2,hd2,hs2⟩:=C3 hs.1;unfold Gg at hs2
   split at hs2
   ·obtain⟨fi,u,g1,g2,g3⟩:=Amw hs.2;exact Asq ho hd hd2 g1 g2 g3 (R h1) (R h2) hI h
   ·cases hs2
  ·cases hs
 ·simp only[Af]at hok;obtain⟨h1,h2,h3,h4⟩:=hok;obtain⟨d,hd,hs⟩:=C3 h4;unfold Yt at hs
  split at hs
  ·obtain⟨d2,hd2,hs2⟩:=C3 hs;unfold Gg at hs2
   split at hs2
   ·exact Asr ho hd hd2 (R h1) (R h2) (R h3) hI h
   ·cases hs2
  ·cases hs
 ·simp only[Af]at hok;obtain⟨d,hd,hs⟩:=C3 hok.2;unfold Ak8 at hs
  split at hs
  ·split at hs
   ·rename_i f hf;simp only[Af,beq_iff_eq]at hs;obtain⟨fi,g1,g2⟩:=Is hs.2.1;obtain⟨d2,hd2,hs2⟩:=C3 hs.2.2;exact Asj ho hd hf hs.1 hd2 (eq_of_beq hs2) g1 g2 (R hok.1) hI h
   ·cases hs
  ·cases hs
 ·simp only[Af]at hok;obtain⟨d,hd,hs⟩:=C3 hok.2.2;unfold Ak9 at hs
  split at hs
  ·simp only[Af,beq_iff_eq]at hs;obtain⟨rfl,hs⟩:=hs;obtain⟨fi,g1,g2⟩:=Is hs.1;obtain⟨d2,hd2,hs2⟩:=C3 hs.2;exact Ask ho hd hd2 (eq_of_beq hs2) g1 g2 (R hok.1) (R hok.2.1) hI h
  ·cases hs
 ·simp only[Af]at hok;obtain⟨h1,h2⟩:=hok;obtain⟨d,hd,hs⟩:=C3 h2;unfold Ak7 at hs
  split at hs
  ·split at hs
   ·rename_i f hf;simp only[Af,beq_iff_eq]at hs;obtain⟨g1,g2⟩:=hs
    split at g2
    ·rename_i fi hfi;exact Asa ho hd hf g1 hfi (by simpa using g2) (R h1) hI h
    ·cases g2
   ·cases hs
  ·cases hs
 ·simp only[Af]at hok;obtain⟨h1,h2,h3⟩:=hok;obtain⟨d,hd,hs⟩:=C3 h3;unfold E1 at hs
  split at hs
  ·obtain⟨fi,g1,g2⟩:=Is hs;exact Asc ho hd g1 g2 (R h1) (R h2) hI h
  ·cases hs
 ·simp only[Af]at hok;obtain⟨h1,h2,h3⟩:=hok;obtain⟨d,hd,hs⟩:=C3 h3
  split at hs
  ·simp only[Af,beq_iff_eq]at hs;obtain⟨rfl,hs⟩:=hs;obtain⟨fi,g1,g2⟩:=Is hs;exact Asb ho hd g1 g2 (R h1) (R h2) hI h
  ·cases hs
 ·simp only[Af]at hok;obtain⟨h1,h2,h3⟩:=hok;obtain⟨d,hd,hs⟩:=C3 h3;unfold Gg at hs
  split at hs
  ·exact Ar7 ho hd (R h1) (R h2) hI h
  ·cases hs
 ·simp only[Af,beq_iff_eq]at hok;obtain⟨rfl,h1⟩:=hok;exact Ar8 ho (R h1) hI h
 ·split at hok
  ·rename_i x t e1 e2;rw[Lu e1,Lu e2]at ho;simp only[Af]at hok;obtain⟨d,hd,hs⟩:=C3 hok.2;unfold E1 at hs
   split at hs
   ·exact Ar9 ho hd (R hok.1) hI h
   ·cases hs
  ·cases hok
 ·split at hok
  ·rename_i x t e1 e2;rw[Lu e1,Lu e2]at ho;simp only[Af]at hok;obtain⟨d,hd,hs⟩:=C3 hok.2;unfold Gg at hs
   split at hs
   ·exact Apg ho hd (R hok.1) hI h
   ·cases hs
  ·cases hok
 ·split at hok
  ·rename_i x y t u e1 e2;simp only[Af,beq_iff_eq]at hok;obtain⟨rfl,h1,h2,h3⟩:=hok;rw[Lu e1,Lu e2]at ho;obtain⟨d,hd,hs⟩:=C3 h3;unfold E1 at hs
   split at hs
   ·simp only[Af,beq_iff_eq]at hs;obtain⟨g0,hs⟩:=hs;obtain⟨fi,z,g1,g2,g3,g4,g5,g6,g7⟩:=Af3 hs;rename_i el;have em:(fi.size,el)=_:=Prod.ext g2 g0;rw[<-em,<-g3]at h;rw[<-g2]at g4 g7;rw[<-g3]at g5;exact Asi ho hd g1 g6 g7 g4 g5 (R h1) (R h2) hI h
   ·cases hs
  ·cases hok
 ·split at hok
  ·rename_i x y t u e1 e2;simp only[Af]at hok;obtain⟨h1,h2,h3,h4⟩:=hok;rw[Lu e1,Lu e2]at ho;obtain⟨d,hd,hs⟩:=C3 h3;obtain⟨d2,hd2,hs2⟩:=C3 h4;unfold E1 at hs
   split at hs
   ·unfold Gg at hs2
    split at hs2
    ·simp only[Af,beq_iff_eq]at hs;obtain⟨g0,hs⟩:=hs;obtain⟨fi,z,g1,g2,g3,g4,g5,g6,g7⟩:=Af3 hs;rw[<-g0]at h;exact App ho hd hd2 g1 g6 g7 g2 g3 (R h1) (R h2) hI h
    ·cases hs2
   ·cases hs
  ·cases hok
 ·split at hok
  ·rename_i x y e1;rw[Lu e1]at ho;simp only[Af]at hok;exact Avn ho (R hok.1) (R hok.2) hI h
  ·cases hok
 ·split at hok
  ·rename_i x y e1;rw[Lu e1]at ho;simp only[Af]at hok;exact Avo ho (R hok.1) (R hok.2) hI h
  ·cases hok
 ·cases hok
open Go Go.RowKit
def Ur(P:Program)(G:List (Nat × List V))(f:Nat)(xs:List S)(op:Op):Bool:=
 match op with
 | .call { callee:=.value (.func f'),args,.. }=>f==f'&&Jy G xs args.toList
 | _=>false
def Ug(P:Program)(G:List (Nat × List V))(s:S)(xs:List S)(op:Op):Bool:=
 match op with
 | .call { callee:=.value x,args,.. }=>Bo G s x&&Jy G xs args.toList
 | _=>false
def Zk(n:Nat)(ops:Array Oper)(g:Option (Nat × Bool))(g':Option (Nat × Bool)):Bool:=
 match g,g' with
 | none,none=>true
 | some (t,b),some (j,b')=>b==b'&&((ops[j]?).bind (·.dst)==some t&&decide (t<n))
 | _,_=>false
def Sf(P:Program)(G:List (Nat × List V))(n:Nat)(ops:Array Oper)(i:AI)(o:Oper):Bool:=
 i.dst==o.dst&&((match i.dst with
  | some d=>decide (d<n)
  | none=>true)&&(Zk n ops i.g o.guard&&(match i.op with
  | .call f xs=>Ur P G f xs o.op
  | .callv s xs=>Ug P G s xs o.op
  | ao=>Se P G ao o.op)))
def Ij(P:Program)(G:List (Nat × List V))(n:Nat)(ops:Array Oper):List AI->List Oper->Bool
 | [],[]=>true
 | i::is,o::os=>Sf P G n ops i o&&Ij P G n ops is os
 | _,_=>false
def Yu(d:List Nat)(o:Oper):Bool:=(o.after.toList.all fun e=>!Region.binds .any e||d.elem e.on)&&d.all fun j=>o.after.toList.any fun e=>Region.binds .any e&&e.on==j
def Ms:List (List Nat)->List Oper->Bool
 | [],[]=>true
 | d::ds,o::os=>Yu d o&&Ms ds os
 | _,_=>false
def Db(P:Program)(G:List (Nat × List V))(n:Nat):AC->Code->Bool
 | .skip,.skip=>true
 | .skip,.label _=>true
 | .reg _ ais,.region _ ops false=>Ij P G n ops ais ops.toList
 | .drw _ deps ais,.region _ ops true=>Ij P G n ops ais ops.toList&&(Ms deps ops.toList&&P.follows .mixedOrders)
 | .seq x y,.seq c d=>Db P G n x c&&Db P G n y d
 | .cond s _ x y,.cond c x' y'=>Bo G s c&&(Db P G n x x'&&Db P G n y y')
 | .blk i c,.block j c'=>i==j&&Db P G n c c'
 | .blk i c,.scope c'=>decide (1000000<=i)&&Db P G n c c'
 | .loop _ c,.loop c'=>Db P G n c c'
 | .exit i,.exit j=>i==j&&decide (i<1000000)
 | .ret,.ret=>true
 | _,_=>false
def okR(P:Program)(n:Nat):AR->ResultVar->Bool
 | .tmp t,.tmp t'=>t==t'&&decide (t<n)
 | .cell t k one,.cell t' ty=>t==t'&&(Hz P ty k&&C1 P ty fun d=>La d==!one)
 | _,_=>false
def Po(P:Program)(n:Nat):List AR->List ResultVar->Bool
 | [],[]=>true
 | r::rs,q::qs=>okR P n r q&&Po P n rs qs
 | _,_=>false
def M7(P:Program)(G:List (Nat × List V))(f:Nat)(F:AF):Bool:=
 match P.funcs[f]? with
 | some fn=>match fn.body with
  | some c=>Db P G fn.ntmps F.body c&&(Po P fn.ntmps F.res fn.results.toList&&(decide (F.pars<=fn.ntmps)&&fn.name != "runtime.NumGoroutine"))
  | none=>false
 | none=>false
/-! orders -/
theorem Avs{d:List Nat}{o:Oper}(h:Yu d o=true)(listed:Nat->Bool):(o.after.all fun e=>!Region.binds .any e||listed e.on)=d.all listed:=by
 simp only[Yu,Af,Bd,Li,Hb,H8,Gb,beq_iff_eq]at h;rw[Bool.eq_iff_iff,Array.all_eq_true',Bd];constructor
 ·intro ha j hj;obtain⟨e,he,hb,rfl⟩:=h.2 j hj;have:=ha e (by simpa using he);simpa[hb] using this
 ·intro hd e he;rcases h.1 e (by simpa using he) with h' | h'
  ·simp[h']
  ·simp[hd e.on h']
theorem W9:∀ {deps:List (List Nat)} {os:List Oper},Ms deps os=true->deps.length=os.length/\∀ i o,os[i]?=some o->Yu (deps.getD i []) o=true
 | [],[],_=>⟨rfl,fun i o h=>by simp at h⟩
 | d::ds,o::os,h=>by
  simp only[Ms,Af]at h;obtain⟨l,g⟩:=W9 h.2;refine⟨by simp[l],fun i o' ho=>?_⟩
  cases i with
  | zero=>simp at ho;subst ho;simpa using h.1
  | succ i=>simpa using g i o' (by simpa using ho)
 | [],_::_,h=>by simp[Ms]at h
 | _::_,[],h=>by simp[Ms]at h
theorem Ajx{deps:List (List Nat)}{ops:Array Oper}(hd:Ms deps ops.toList=true):∀ (fuel t:Nat) (listed:Array Bool) (acc:List Nat),listed.size=ops.size->(∀ i,i<ops.size->listed.getD i true=acc.elem i)->(∀ i,listed.getD i false=true->acc.elem i=true)->(∀ i,acc.elem i=true->i<ops.size) ->
  Region.linearise.go .any ops fuel t listed acc=Lz deps fuel t acc
 | 0,_,_,_,_,_,_,_=>rfl
 | fuel+1,t,listed,acc,hs,h1,h2,h3=>by
  obtain⟨hl,hg⟩:=W9 hd;have hlen:deps.length=ops.size:=by simpa using hl
  have hfil:(List.range ops.size).filter (fun i=>!listed.getD i true&&((ops[i]?).map (·.after.all fun e=>!Region.binds .any e||listed.getD e.on false)).getD false)=(List.range deps.length).filter (I1 deps acc):=by
   rw[hlen];apply List.filter_congr;intro i hi;have hi':i<ops.size:=by simpa using hi
   have ho:ops[i]?=some ops[i]:=Array.getElem?_eq_getElem hi';have hdo:=hg i ops[i] (by simp[hi']);rw[ho,h1 i hi'];simp only[Ha,Wa,I1];rw[Avs hdo (fun j=>listed.getD j false)];congr 1;apply List.all_congr rfl;intro j;rw[Bool.eq_iff_iff];constructor
   ·exact h2 j
   ·intro hj;have hjl:=h3 j hj;have:=h1 j hjl;rw[hj]at this;simpa[Array.getD_eq_getD_getElem?,show j<listed.size by omega] using this
  unfold Region.linearise.go Lz;simp only[hfil]
  split
  ·rename_i i hi;have hmem:i∈(List.range deps.length).filter (I1 deps acc):=Gq hi
   have hi':i<ops.size:=by
    have:=(Qm.1 hmem).1;rw[hlen]at this;simpa using this
   rw[hi];refine Ajx hd fuel _ _ (i::acc) (by simpa using hs) (fun j hj=>?_) (fun j hj=>?_) (fun j hj=>?_)
   ·by_cases hij:i=j
    ·subst hij;simp[Array.getD_eq_getD_getElem?,hs,hi']
    ·have:=h1 j hj;have hji:(j==i)=false:=by simp;omega
     simp only[Array.getD_eq_getD_getElem?,Array.getElem?_setIfInBounds,hij,if_false]at this ⊢;rw[this];simp only[List.elem,hji]
   ·by_cases hij:i=j
    ·subst hij;simp
    ·simp only[Array.getD_eq_getD_getElem?,Array.getElem?_setIfInBounds,hij,if_false]at hj;have:=Gb.1 (h2 j (by simpa[Array.getD_eq_getD_getElem?] using hj));exact Gb.2 (Dz _ this)
   ·rcases Be.1 (Gb.1 hj) with rfl | hj
    ·exact hi'
    ·exact h3 j (Gb.2 hj)
  ·rename_i hi;rw[hi]
theorem Avt{deps:List (List Nat)}{ops:Array Oper}(hd:Ms deps ops.toList=true)(t:Nat):Region.linearise .any ops t=Mb deps t:=by
 unfold Region.linearise Mb;have hlen:deps.length=ops.size:=by simpa using (W9 hd).1
 rw[hlen];refine Ajx hd _ _ _ _ (by simp) (fun i hi=>?_) (fun i hi=>?_) (fun i hi=>?_)
 ·simp[Array.getD_eq_getD_getElem?,hi]
 ·by_cases h:i<ops.size
  ·simp[Array.getD_eq_getD_getElem?,h]at hi
  ·simp[Array.getD_eq_getD_getElem?,h]at hi
 ·simp at hi
open Go Go.RowKit
variable {P:Program} {G:List (Nat × List V)} {N:Nat} {γ:Gh} {σ:St} {w w':World}
theorem Alz{κ:Dy}{O:List (Nat × Nat)}{v:V}{u:Value}(h:Rep1 ⟨κ,[]⟩ w v u):Rep1 ⟨κ,O⟩ w v u:=by
 have low:∀ {v:V} {u:Value},RepC ⟨κ,[]⟩ w v u->RepC ⟨κ,O⟩ w v u:=fun hr=>by
  induction hr with
  | row h=>exact .row h
  | imm row h1 h2 h3 h4=>exact .imm row h1 h2 h3 h4
  | ptr h=>simp at h
  | sl h=>simp at h
  | nilp=>exact .nilp
  | nilf=>exact .nilf
  | ifc=>exact .ifc
  | fn h1 h2 _ _ ih1 ih2=>exact .fn h1 h2 ih1 ih2
  | mp h=>simp at h
 cases h with
 | cell h=>exact .cell (low h)
 | agg h1 h2=>exact .agg h1 (fun j hj=>low (h2 j hj))
theorem A11{κ:Dy}{O:List (Nat × Nat)}{v:V}{u:Value}(h:RepV ⟨κ,[]⟩ w v u):RepV ⟨κ,O⟩ w v u:=by
 cases h with
 | und=>exact .und
 | skp=>exact .skp
 | one h=>exact .one (Alz h)
 | tup h1 h2=>exact .tup h1 (fun j hj=>Alz (h2 j hj))
theorem Te{κ':Dy}{js:List Nat}(hI:Inv G N γ σ w)(hx:Ext γ w ⟨κ',γ.O⟩ w)(hs:Y6 γ σ js κ'){v v':V}{u:Value}(h:F3 σ js v=some v')(hr:RepV γ w v u)(O:List (Nat × Nat)):Rep1 ⟨κ',O⟩ w v' u:=by
 unfold F3 at h
 split at h
 ·cases h;obtain⟨b,o,k,row,hu,h1,h2,h3,h4⟩:=Jk (Aw rfl hr);rw[hu];obtain⟨k',hk',hle⟩:=hx.kap _ _ h1;exact .cell (.imm row hk' (Cj h2 hle) h3 (fun j hj=>(h4 j hj).keep hx.kap hx.cell))
 ·rename_i cs;simp only[Bm]at h;obtain⟨cs',hm,rfl⟩:=h;obtain⟨us,hu,hl,hj⟩:=Nl hr;obtain⟨l,g⟩:=Mn hm;rw[hu];refine .agg (by omega) (fun j hj'=>?_);have hj2:j<cs.length:=by omega
  obtain⟨y,hy,hf⟩:=g j _ (A0 hj2);rw[show cs'.getD j .und=y by rw[Aq,hy];rfl];have:=hj j hj2;rw[show cs.getD j .und=cs[j] by rw[Aq,A0 hj2];rfl]at this;exact .row (Wq hI hx hs hf this)
 ·have hc:v.cellB=true:=by
   unfold Fd at h
   split at h
   ·rename_i hv;revert hv;cases v<;>simp[V.rowB,V.cellB]
   ·split at h
    ·rfl
    ·cases h
  exact .cell (.row (Wq hI hx hs h (Aw hc hr)))
theorem Wm{κ':Dy}{js:List Nat}(hI:Inv G N γ σ w)(hx:Ext γ w ⟨κ',γ.O⟩ w)(hs:Y6 γ σ js κ'){v v':V}{u:Value}(h:Ic σ js v=some v')(hr:RepV γ w v u)(O:List (Nat × Nat)):RepV ⟨κ',O⟩ w v' u:=by
 unfold Ic at h
 split at h
 ·rename_i vs;simp only[Bm]at h;obtain⟨vs',hm,rfl⟩:=h;obtain⟨us,hu,hl,hj⟩:=Agt hr;obtain⟨l,g⟩:=Mn hm;rw[hu];refine .tup (by omega) (fun j hj'=>?_);have hj2:j<vs.length:=by omega
  obtain⟨y,hy,hf⟩:=g j _ (A0 hj2);rw[show vs'.getD j .und=y by rw[Aq,hy];rfl];have:=hj j hj2;rw[show vs.getD j .und=vs[j] by rw[Aq,A0 hj2];rfl]at this;exact Te hI hx hs hf (.one this) O
 ·exact .one (Te hI hx hs h hr O)
theorem An7{v:V}{u:Value}(hf:v.flatV=true)(h:RepV γ w v u)(γ':Gh)(w':World):RepV γ' w' v u:=by
 cases h with
 | und=>exact .und
 | skp=>exact .skp
 | one h=>
  cases h with
  | cell h=>
   have:v.flatB=true:=by
    have hc:=(Nj h).1;revert hf hc
    cases v<;>simp[V.flatV,V.flatB,V.cellB]
   exact .one (.cell (W6 this h γ' w'))
  | @agg cs us h1 h2=>
   have hf':cs.all V.flatB=true:=hf;exact .one (.agg h1 (fun j hj=>W6 (Bd.1 hf' _ (by rw[Aq,A0 hj];exact Fa hj)) (h2 j hj) γ' w'))
 | @tup vs us h1 h2=>
  have hf':(vs.all fun v=>v.cells.all V.flatB)=true:=hf;refine .tup h1 (fun j hj=>?_);have hfj:=Bd.1 hf' (vs.getD j .und) (by rw[Aq,A0 hj];exact Fa hj);have hr:=h2 j hj;generalize vs.getD j .und=x at hfj hr;generalize us.getD j undef=y at hr ⊢
  cases hr with
  | cell h=>
   have:x.flatB=true:=by
    have hc:=(Nj h).1;revert hfj hc
    cases x<;>simp[V.cells,V.flatB,V.cellB]
   exact .cell (W6 this h γ' w')
  | @agg cs us h1 h2=>
   have hf2:cs.all V.flatB=true:=hfj;exact .agg h1 (fun j hj=>W6 (Bd.1 hf2 _ (by rw[Aq,A0 hj];exact Fa hj)) (h2 j hj) γ' w')
theorem Aba{κ':Dy}(h:Inv G N ⟨κ',γ.O⟩ σ w):Inv G w.heap.size ⟨κ',[]⟩ [] w where
 base:=Ah _
 len:=rfl
 nd:=Qo
 low:=fun i p h=>by simp at h
 obj:=fun i ob p h=>by simp at h
 dom:=h.dom
 glob:=fun g r hg=>by
  obtain⟨b,o,k,row,hu,h1,h2,h3,h4⟩:=Jk (h.glob g r hg);rw[hu];exact .imm row h1 h2 h3 h4
 gsz:=fun g r hg=>⟨by have:=(h.gsz g r hg).1;have:=h.base;omega,(h.gsz g r hg).2⟩
theorem Afc{args:List V}{v:V}{u:Value}{κ1 κ2:Dy}{w1:World}(hI:Inv G N γ σ w)(h1:Inv G N ⟨κ1,γ.O⟩ (σ.freeze (L5 σ args)) w)(hx:Ext γ w ⟨κ1,γ.O⟩ w)(hN:∀ b,b<N->κ1 b=γ.κ b)
  (hb:Below w.heap.size w w1) (hk:∀ b,b<w.heap.size->κ2 b=κ1 b) (hd:∀ b k,κ2 b=some k->b<w1.heap.size) (hv:RepV ⟨κ2,[]⟩ w1 v u) :
  ∃ γ1,Inv G N γ1 (after σ args v) w1/\Ext γ w γ1 w1/\RepV γ1 w1 v u/\(∀ b,b<N->γ1.κ b=γ.κ b)/\Below N w w1:=by
 unfold after
 split
 ·rename_i hf
  obtain⟨i1,i2⟩:=hI.more (w':=w1) (κ':=fun b=>if b<w.heap.size then γ.κ b else κ2 b) (fun b hlt=>hb.block b hlt) hb.size (fun b hlt=>if_pos hlt) (fun b k hbk=>by
   by_cases hlt:b<w.heap.size
   ·have:=hb.size;omega
   ·rw[if_neg hlt]at hbk;exact hd b k hbk)
  exact⟨_,i1,i2,An7 hf hv _ _,fun b hlt=>if_pos (Qj hlt hI.base),hb.mono hI.base⟩
 ·obtain⟨i1,i2⟩:=h1.more (w':=w1) (κ':=κ2) (fun b hlt=>hb.block b hlt) hb.size hk hd;exact⟨_,i1,hx.trans i2,A11 hv,fun b hlt=>(hk b (Qj hlt hI.base)).trans (hN b hlt),hb.mono hI.base⟩
def Hi(P:Program)(G:List (Nat × List V))(f:Nat)(s:List V->Option V):Prop:=
 (∃ fn c,P.funcs[f]?=some fn/\fn.body=some c/\fn.name ≠ "runtime.NumGoroutine") /\
 ∀ (κ:Dy) (w:World) (vs:List V) (us:List Value) (v:V),(∀ g r,(g,r)∈G->RepC ⟨κ,[]⟩ w (.imm r 0) (.pointer (some ⟨g,0,none⟩)))->(∀ g r,(g,r)∈G->Dk w g=some r.length)->(∀ b k,κ b=some k->b<w.heap.size)->vs.length=us.length ->
  (∀ j,j<vs.length->Rep1 ⟨κ,[]⟩ w (vs.getD j .und) (us.getD j undef))->s vs=some v ->
  Calls P f us.toArray w fun e w'=>∃ u κ',e=.returned u/\RepV ⟨κ',[]⟩ w' v u/\Below w.heap.size w w'/\(∀ b,b<w.heap.size->κ' b=κ b)/\∀ b k,κ' b=some k->b<w'.heap.size
def Rw(P:Program)(G:List (Nat × List V))(f:Nat)(s:List V->St->Option (V × St)):Prop:=
 (∃ fn c,P.funcs[f]?=some fn/\fn.body=some c/\fn.name ≠ "runtime.NumGoroutine") /\
 ∀ (args:List V) (σ:St) (v:V) (σ':St),s args σ=some (v,σ')->∀ (us:List Value) (w:World) (γ:Gh) (N:Nat),args.length=us.length->(∀ j,j<args.length->RepV γ w (args.getD j .und) (us.getD j undef))->Inv G N γ σ w ->
   Calls P f us.toArray w fun e w'=>∃ u γ',e=.returned u/\RepV γ' w' v u/\Inv G N γ' σ' w'/\Ext γ w γ' w'/\Below N w w'/\∀ b,b<N->γ'.κ b=γ.κ b
/-! objects under new numbers -/
theorem O5:∀ {cs:List V} {j i:Nat},j<cs.length->i∈(cs.getD j .und).refs->i∈Aj cs
 | [],_,_,h,_=>by simp at h
 | c::cs,0,i,_,h=>by simp only[Aj,Cq];exact .inl (by simpa using h)
 | c::cs,j+1,i,hj,h=>by simp only[Aj,Cq];exact .inr (O5 (j:=j) (by simpa using hj) (by simpa using h))
theorem Jl(ρ:Nat->Nat):∀ cs:List V,(Gk ρ cs).length=cs.length
 | []=>rfl
 | c::cs=>by simp[Gk,Jl ρ cs]
theorem Q2(ρ:Nat->Nat):∀ {cs:List V} {j:Nat},j<cs.length->(Gk ρ cs).getD j .und=(cs.getD j .und).ren ρ
 | [],_,h=>by simp at h
 | c::cs,0,_=>by simp[Gk]
 | c::cs,j+1,h=>by simpa[Gk] using Q2 ρ (cs:=cs) (j:=j) (by simpa using h)
theorem RepC.renum{O:List (Nat × Nat)}{ρ:Nat->Nat}{v:V}{u:Value}(h:RepC γ w v u):(∀ i∈v.refs,∀ p,γ.O[i]?=some p->O[ρ i]?=some p)->RepC ⟨γ.κ,O⟩ w (v.ren ρ) u:=by
 induction h with
 | row h=>
  intro _
  cases h with
  | bool=>exact .row .bool
  | int=>exact .row .int
  | str h=>exact .row (.str h)
  | nili=>exact .row .nili
  | ifc=>exact .row .ifc
  | nils=>exact .row .nils
  | lst row h1 h2 h3 h4 h5 h6 h7=>exact .row (.lst row h1 h2 h3 h4 h5 h6 h7)
 | imm row h1 h2 h3 h4=>exact fun _=>.imm row h1 h2 h3 h4
 | ptr h1 h2 h3=>exact fun hr=>.ptr (hr _ (by simp[V.refs]) _ h1) h2 h3
 | sl h1 h2 h3 h4 h5 h6=>exact fun hr=>.sl (hr _ (by simp[V.refs]) _ h1) h2 h3 h4 h5 h6
 | nilp=>exact fun _=>.nilp
 | nilf=>exact fun _=>.nilf
 | ifc=>exact fun _=>.ifc
 | fn h1 h2 _ _ ih1 ih2=>
  intro hr;refine .fn (by rw[Jl];exact h1) (by rw[Jl];exact h2) (fun j hj=>?_) (fun j hj=>?_)
  ·rw[Jl]at hj;rw[Q2 ρ hj];exact ih1 j hj (fun i hi=>hr i (by simp only[V.refs,Cq];exact .inl (O5 hj hi)))
  ·rw[Jl]at hj;rw[Q2 ρ hj];exact ih2 j hj (fun i hi=>hr i (by simp only[V.refs,Cq];exact .inr (O5 hj hi)))
 | mp h1 h2 h3=>exact fun hr=>.mp (hr _ (by simp[V.refs]) _ h1) h2 h3
theorem Rep1.renum{O:List (Nat × Nat)}{ρ:Nat->Nat}{v:V}{u:Value}(h:Rep1 γ w v u)(hr:∀ i∈v.refs,∀ p,γ.O[i]?=some p->O[ρ i]?=some p):Rep1 ⟨γ.κ,O⟩ w (v.ren ρ) u:=by
 cases h with
 | cell h=>exact .cell (h.renum hr)
 | agg h1 h2=>
  refine .agg (by rw[Jl];exact h1) (fun j hj=>?_);rw[Jl]at hj;rw[Q2 ρ hj];exact(h2 j hj).renum (fun i hi=>hr i (by simp only[V.refs];exact O5 hj hi))
theorem RepV.renum{O:List (Nat × Nat)}{ρ:Nat->Nat}{v:V}{u:Value}(h:RepV γ w v u)(hr:∀ i∈v.refs,∀ p,γ.O[i]?=some p->O[ρ i]?=some p):RepV ⟨γ.κ,O⟩ w (v.ren ρ) u:=by
 cases h with
 | und=>exact .und
 | skp=>exact .skp
 | one h=>exact .one (h.renum hr)
 | tup h1 h2=>
  refine .tup (by rw[Jl];exact h1) (fun j hj=>?_);rw[Jl]at hj;rw[Q2 ρ hj];exact(h2 j hj).renum (fun i hi=>hr i (by simp only[V.refs];exact O5 hj hi))
theorem ObOk.renum{O:List (Nat × Nat)}{ρ:Nat->Nat}{ob:Ob}{p:Nat × Nat}(h:ObOk γ w ob p)(hr:∀ i∈ob.refs,∀ q,γ.O[i]?=some q->O[ρ i]?=some q):ObOk ⟨γ.κ,O⟩ w (ob.ren ρ) p:=by
 cases ob with
 | row cs e g z=>
  obtain⟨h1,h2,h3,us,lo,hi,h4,h5,h6,h7⟩:=h;refine⟨h1,h2,by rw[Jl];exact h3,us,lo,hi,h4,h5,by rw[Jl];exact h6,fun j hj=>?_⟩;rw[Jl]at hj;rw[Q2 ρ hj];exact(h7 j hj).renum (fun i hi=>hr i (by simp only[Ob.refs];exact O5 hj hi))
 | map kvs=>
  obtain⟨h1,h2,es,h3,h4,h5⟩:=h;refine⟨h1,h2,es,by simpa using h3,by simpa using h4,fun i k v hi=>?_⟩;simp only[Bb,Bm]at hi;obtain⟨⟨k',v'⟩,hi,he⟩:=hi;simp only[Prod.mk.injEq]at he;obtain⟨rfl,rfl⟩:=he;obtain⟨en,a1,a2,a3,a4,a5,a6⟩:=h5 i k' v' hi
  have hfv:(v'.ren ρ).flatB=true:=by revert a5;cases v'<;>simp[V.flatB,V.ren]
  exact⟨en,a1,a2,a3,a4,hfv,a6.renum (fun i' hi'=>hr i' (by
   simp only[Ob.refs];have hlt:=(Ar.1 hi).1
   exact O5 (j:=i) (by simpa using hlt) (by simpa[Aq,hi] using hi')))⟩
 | dead=>exact h
mutual
theorem Aca:∀ v:V,v.ren (fun i=>i)=v
 | .und | .skp | .bool _ | .int _ _ | .str _ | .nili | .ifc | .nils | .nilp | .nilf | .lst _ _ | .imm _ _ | .ptr _ _ _ | .sl _ _ _ _ _ _ | .mp _=>by simp[V.ren]
 | .fn f a c=>by simp[V.ren,Ra a,Ra c]
 | .agg cs=>by simp[V.ren,Ra cs]
 | .tup vs=>by simp[V.ren,Ra vs]
theorem Ra:∀ cs:List V,Gk (fun i=>i) cs=cs
 | []=>rfl
 | c::cs=>by simp[Gk,Aca c,Ra cs]
end
theorem Af4(ob:Ob):ob.ren (fun i=>i)=ob:=by
 cases ob with
 | row cs e g z=>simp[Ob.ren,Ra]
 | map kvs=>simp[Ob.ren,Aca]
 | dead=>rfl
theorem Tv:∀ {cs:List V} {i:Nat},i∈Aj cs->∃ j,j<cs.length/\i∈(cs.getD j .und).refs
 | [],_,h=>by simp[Aj]at h
 | c::cs,i,h=>by
  simp only[Aj,Cq]at h;rcases h with h | h
  ·exact⟨0,by simp,by simpa using h⟩
  ·obtain⟨j,h1,h2⟩:=Tv h;exact⟨j+1,by simpa using h1,by simpa using h2⟩
theorem RepC.refs_lt{v:V}{u:Value}(h:RepC γ w v u):∀ i∈v.refs,i<γ.O.length:=by
 induction h with
 | row h=>intro i hi;cases h<;>simp[V.refs]at hi
 | imm=>intro i hi;simp[V.refs]at hi
 | ptr h1=>intro i hi;simp[V.refs]at hi;subst hi;exact(Ar.1 h1).1
 | sl h1=>intro i hi;simp[V.refs]at hi;subst hi;exact(Ar.1 h1).1
 | nilp=>intro i hi;simp[V.refs]at hi
 | nilf=>intro i hi;simp[V.refs]at hi
 | ifc=>intro i hi;simp[V.refs]at hi
 | fn h1 h2 _ _ ih1 ih2=>
  intro i hi;simp only[V.refs,Cq]at hi;rcases hi with hi | hi
  ·obtain⟨j,g1,g2⟩:=Tv hi;exact ih1 j g1 i g2
  ·obtain⟨j,g1,g2⟩:=Tv hi;exact ih2 j g1 i g2
 | mp h1=>intro i hi;simp[V.refs]at hi;subst hi;exact(Ar.1 h1).1
theorem ObOk.refs_lt{ob:Ob}{p:Nat × Nat}(h:ObOk γ w ob p):∀ i∈ob.refs,i<γ.O.length:=by
 intro i hi
 cases ob with
 | row cs e g z=>
  obtain⟨_,_,_,us,lo,hi',_,_,_,h7⟩:=h;obtain⟨j,g1,g2⟩:=Tv (show i∈Aj cs from hi);exact(h7 j g1).refs_lt i g2
 | map kvs=>
  obtain⟨_,_,es,_,_,h5⟩:=h;obtain⟨j,g1,g2⟩:=Tv (show i∈Aj (kvs.map (·.2)) from hi);have hj:j<kvs.length:=by simpa using g1
  obtain⟨en,_,_,_,_,_,a6⟩:=h5 j (kvs[j]).1 (kvs[j]).2 (A0 hj);exact a6.refs_lt i (by simpa[Aq,hj] using g2)
 | dead=>simp[Ob.refs]at hi
theorem Inv.leave{γ':Gh}{σ':St}{w':World}{n:Nat}{js:List Nat}{ρ:Nat->Nat}(hI:Inv G N γ' σ' w')(hn:n<=σ'.length)(hjs:∀ i∈js,n<=i/\i<σ'.length)(hnd:js.Nodup)
  (hρ:∀ i,i<n->ρ i=i) (hρ2:∀ k (hk:k<js.length),ρ js[k]=n+k)
  (hob:∀ (i:Nat) (ob:Ob),(i<n\/i∈js)->σ'[i]?=some ob->∀ j∈ob.refs,j<n\/j∈js) :
  Inv G N ⟨γ'.κ,γ'.O.take n++js.filterMap (γ'.O[·]?)⟩ ((σ'.take n++js.filterMap (σ'[·]?)).map (Ob.ren ρ)) w'/\∀ i,(i<n\/i∈js)->∀ p,γ'.O[i]?=some p->(γ'.O.take n++js.filterMap (γ'.O[·]?))[ρ i]?=some p:=by
 have hlen:=hI.len
 have pick:∀ {α:Type} (l:List α),l.length=σ'.length->(js.filterMap (l[·]?)).length=js.length/\∀ k (hk:k<js.length),(js.filterMap (l[·]?))[k]?=l[js[k]]?:=fun {α} l hl=>by
  have:js.filterMap (l[·]?)=js.pmap (fun i hi=>l[i]'(by rw[hl];exact hi)) (fun i hi=>(hjs i hi).2):=by
   clear hnd hρ2 hob
   induction js with
   | nil=>rfl
   | cons a js ih=>
    have ha:a<l.length:=by rw[hl];exact(hjs a (by simp)).2
    rw[Jh,A0 ha];simp only[List.pmap_cons];rw[ih (fun i hi=>hjs i (Dz _ hi))]
  rw[this];refine⟨by simp,fun k hk=>?_⟩;have hk2:js[k]<l.length:=by rw[hl];exact(hjs _ (Fa hk)).2
  rw[A0 (by simpa using hk),List.getElem_pmap,A0 hk2]
 obtain⟨po1,po2⟩:=pick γ'.O hlen;obtain⟨ps1,ps2⟩:=pick σ' rfl;have htake:(γ'.O.take n).length=n:=by simp;omega
 have htake2:(σ'.take n).length=n:=by simp;omega
 have hmap:∀ i,(i<n\/i∈js)->∀ p,γ'.O[i]?=some p->(γ'.O.take n++js.filterMap (γ'.O[·]?))[ρ i]?=some p:=by
  intro i hi p hp;by_cases hin:i<n
  ·rw[hρ i hin,Co (by omega),Ep,if_pos hin];exact hp
  ·rcases hi with h | h
   ·exact absurd h hin
   ·obtain⟨k,hk,rfl⟩:=Ng h;rw[hρ2 k hk,Cf (by omega),htake,show n+k - n=k by omega,po2 k hk];exact hp
 have Dw:∀ q,q<n+js.length->∃ i,(i<n\/i∈js)/\ρ i=q/\(γ'.O.take n++js.filterMap (γ'.O[·]?))[q]?=γ'.O[i]?/\(σ'.take n++js.filterMap (σ'[·]?))[q]?=σ'[i]?:=by
  intro q hq;by_cases hqn:q<n
  ·refine⟨q,.inl hqn,hρ q hqn,?_,?_⟩
   ·rw[Co (by omega),Ep,if_pos hqn]
   ·rw[Co (by omega),Ep,if_pos hqn]
  ·have hk:q - n<js.length:=by omega
   refine⟨js[q - n],.inr (Fa hk),by rw[hρ2 _ hk];omega,?_,?_⟩
   ·rw[Cf (by omega),htake,po2 _ hk]
   ·rw[Cf (by omega),htake2,ps2 _ hk]
 have hOl:(γ'.O.take n++js.filterMap (γ'.O[·]?)).length=n+js.length:=by rw[Ao,htake,po1]
 have hSl:(σ'.take n++js.filterMap (σ'[·]?)).length=n+js.length:=by rw[Ao,htake2,ps1]
 refine⟨⟨hI.base,by rw[Bl,hOl,hSl],?_,fun q p hp=>?_,fun q ob p h1 h2=>?_,hI.dom,fun g r hg=>?_,hI.gsz⟩,hmap⟩
 ·refine Zr.2 fun q1 q2 h1 h2 h12=>?_
  simp only[Bl,hOl]at h1 h2;obtain⟨i1,c1,e1,o1,_⟩:=Dw q1 h1;obtain⟨i2,c2,e2,o2,_⟩:=Dw q2 h2;have hne:i1≠i2:=fun e=>by subst e;omega
  rw[List.getElem_map,List.getElem_map];have hq1:q1<(γ'.O.take n++js.filterMap (γ'.O[·]?)).length:=by omega
  have hq2:q2<(γ'.O.take n++js.filterMap (γ'.O[·]?)).length:=by omega
  rw[A0 hq1]at o1;rw[A0 hq2]at o2;exact hI.ne o1.symm o2.symm hne
 ·have hq:q<n+js.length:=by have:=(Ar.1 hp).1;rw[<-hOl];exact this
  obtain⟨i,c1,e1,o1,_⟩:=Dw q hq;have hp':(γ'.O.take n++js.filterMap (γ'.O[·]?))[q]?=some p:=hp;rw[o1]at hp';exact hI.low i p hp'
 ·have hq:q<n+js.length:=by have:=(Ar.1 h2).1;rw[<-hOl];exact this
  obtain⟨i,c1,e1,o1,o2⟩:=Dw q hq;have h2':(γ'.O.take n++js.filterMap (γ'.O[·]?))[q]?=some p:=h2;rw[o1]at h2';simp only[Bb,Bm]at h1;obtain⟨ob0,h1,rfl⟩:=h1;rw[o2]at h1;exact(hI.obj i ob0 p h1 h2').renum (fun j hj r hr=>hmap j (hob i ob0 c1 h1 j hj) r hr)
 ·obtain⟨b,o,k,row,hu,h1,h2,h3,h4⟩:=Jk (hI.glob g r hg);rw[hu];exact .imm row h1 h2 h3 h4
open Go Go.RowKit
variable {P:Program} {G:List (Nat × List V)} {T:Nat->Option AF} {pr:Nat->Option (List V->Option V)}
def Leaves(G:List (Nat × List V))(N n:Nat)(D:List Deferred)(γ:Gh)(σ:St)(w:World)(e':Env)(σ':St)(a':Act)(w':World):Prop:=
 ∃ γ',RepE γ' w' e' a'.tmps/\Inv G N γ' σ' w'/\Ext γ w γ' w'/\Below N w w'/\(∀ b,b<N->γ'.κ b=γ.κ b)/\a'.tmps.size=n/\a'.defers=D
theorem Leaves.after{N n:Nat}{D:List Deferred}{γ γ1:Gh}{σ σ1 σ':St}{w w1 w':World}{e':Env}{a':Act}(hx:Ext γ w γ1 w1)(hb:Below N w w1)(hk:∀ b,b<N->γ1.κ b=γ.κ b)(h:Leaves G N n D γ1 σ1 w1 e' σ' a' w'):Leaves G N n D γ σ w e' σ' a' w':=by
 obtain⟨γ',h1,h2,h3,h4,h5,h6⟩:=h;exact⟨γ',h1,h2,hx.trans h3,hb.trans h4,fun b hb=>(h5 b hb).trans (hk b hb),h6⟩
inductive MK (P:Program) (G:List (Nat × List V)) (n:Nat):List It->List Item->Prop
 | nil:MK P G n [] []
 | c {ac:AC} {c:Code} {k:List It} {todo:List Item}:Db P G n ac c=true->MK P G n k todo->MK P G n (.c ac::k) (.code c::todo)
 | b {id:Nat} {k:List It} {todo:List Item}:MK P G n k todo->MK P G n (.b id::k) (.inBlock id::todo)
 | s {id:Nat} {c:Code} {k:List It} {todo:List Item}:1000000<=id->MK P G n k todo->MK P G n (.b id::k) (.inScope c::todo)
 | l {keep:List Nat} {ac:AC} {c:Code} {k:List It} {todo:List Item}:Db P G n ac c=true->MK P G n k todo->MK P G n (.l keep ac::k) (.inLoop c::todo)
 | l' {keep:List Nat} {ac:AC} {c:Code} {k:List It} {todo:List Item}:Db P G n ac c=true->MK P G n k todo->MK P G n (.l keep ac::k) (.code (.loop c)::todo)
theorem MK.exit{n id:Nat}{k:List It}{todo:List Item}(hlt:id<1000000)(h:MK P G n k todo):∀ {k':List It},exitTo id k=some k'->∃ todo',Go.exitTo id todo=some todo'/\MK P G n k' todo':=by
 induction h with
 | nil=>intro k' h;simp[exitTo]at h
 | c _ _ ih=>intro k' h;simp only[exitTo]at h;simpa[Go.exitTo] using ih h
 | b hk ih=>
  intro k' h;simp only[exitTo]at h
  split at h
  ·rename_i he;cases h;exact⟨_,by simp[Go.exitTo,he],hk⟩
  ·rename_i he;obtain⟨t,h1,h2⟩:=ih h;exact⟨t,by simp[Go.exitTo,he,h1],h2⟩
 | s hi hk ih=>
  intro k' h;simp only[exitTo]at h
  split at h
  ·omega
  ·simpa[Go.exitTo] using ih h
 | l _ _ ih=>intro k' h;simp only[exitTo]at h;simpa[Go.exitTo] using ih h
 | l' _ _ ih=>intro k' h;simp only[exitTo]at h;simpa[Go.exitTo] using ih h
def ML(P:Program)(G:List (Nat × List V))(n:Nat)(ops:Array Oper):List AI->List Nat->Prop
 | [],[]=>True
 | i::is,j::js=>(∃ o,ops[j]?=some o/\Sf P G n ops i o=true)/\ML P G n ops is js
 | _,_=>False
def Acx(P:Program)(G:List (Nat × List V)):J->Prop
 | .ops l e σ e' σ'=>∀ (n:Nat) (D:List Deferred) (ops:Array Oper) (L:List Nat) (a:Act) (w:World) (γ:Gh) (N:Nat) (Q:Exit->Act->World->Prop),ML P G n ops l L->a.tmps.size=n->a.defers=D->RepE γ w e a.tmps->Inv G N γ σ w ->
   (∀ a' w',Leaves G N n D γ σ w e' σ' a' w'->Q .normal a' w')->wpOps P ops Q L a w
 | .code k e σ e' σ'=>∀ (n:Nat) (D:List Deferred) (todo:List Item) (a:Act) (w:World) (γ:Gh) (N:Nat),MK P G n k todo->a.tmps.size=n->a.defers=D->RepE γ w e a.tmps->Inv G N γ σ w->∀ (b:Frame) (cs:List Frame),
   ∃ a' w' todo',Steps P (lone (b.at a todo) cs w) (lone { b.at a' todo' with mode:=.returning } cs w')/\Leaves G N n D γ σ w e' σ' a' w'
 | .fn f args σ v σ'=>∀ (us:List Value) (w:World) (γ:Gh) (N:Nat),args.length=us.length->(∀ j,j<args.length->RepV γ w (args.getD j .und) (us.getD j undef))->Inv G N γ σ w ->
   Calls P f us.toArray w fun e w'=>∃ u γ',e=.returned u/\RepV γ' w' v u/\Inv G N γ' σ' w'/\Ext γ w γ' w'/\Below N w w'/\∀ b,b<N->γ'.κ b=γ.κ b
theorem Nk{n:Nat}{ops:Array Oper}{i:AI}{o:Oper}{γ:Gh}{w:World}{e:Env}{a:Act}{z:Bool}(hg:Zk n ops i.g o.guard=true)(ha:a.tmps.size=n)(hE:RepE γ w e a.tmps)(h:Cg e i=some z):Region.wanted o (yielded ops a.tmps)=z:=by
 unfold Zk at hg;unfold Cg at h;unfold Region.wanted
 split at hg
 ·rename_i h1 h2;rw[h1]at h;rw[h2];simpa using h
 ·rename_i t b j b' h1 h2;simp only[Af,beq_iff_eq,decide_eq_true_eq]at hg;obtain⟨rfl,hd,ht⟩:=hg;rw[h1]at h;rw[h2];simp only at h ⊢;have hrep:=hE t
  have hy:a.tmps[t]?=some (a.tmps.getD t undef):=by
   rw[Array.getD_eq_getD_getElem?,Array.getElem?_eq_getElem (by omega)];rfl
  split at h
  ·rename_i z' e1;rw[e1]at hrep;have:=Mj (Aw rfl hrep);cases h;simp only[yielded,hd,Cz,hy,this]
   cases z'<;>cases b<;>rfl
  ·rename_i e1;rw[e1]at hrep;cases h
   have:a.tmps.getD t undef=undef:=by
    generalize a.tmps.getD t undef=u at hrep
    cases hrep with
    | skp=>rfl
    | one h=>cases h with | cell h=>exact absurd (Nj h).1 (by simp[V.cellB])
   simp only[yielded,hd,Cz,hy,this]
   cases b<;>rfl
  ·cases h
 ·cases hg
theorem Nr{n:Nat}{γ:Gh}{w:World}{e:Env}{a:Act}{d:Option Nat}{v:V}{u:Value}(hd:(match d with | some d=>decide (d<n) | none=>true)=true)(ha:a.tmps.size=n)(hE:RepE γ w e a.tmps)(hv:RepV γ w v u):
  RepE γ w (e.putO d v) (a.put d u).tmps/\(a.put d u).tmps.size=n/\(a.put d u).defers=a.defers:=by
 cases d with
 | none=>exact⟨hE,ha,rfl⟩
 | some d=>
  simp only[decide_eq_true_eq]at hd;exact⟨hE.put (by omega) hv,by simp[Act.put,ha],rfl⟩
theorem An8{f:Nat}{xs:List S}{op:Op}(h:Ur P G f xs op=true):∃ args ts,op=.call { callee:=.value (.func f),args,argTypes:=ts }/\Jy G xs args.toList=true:=by
 unfold Ur at h
 split at h
 ·simp only[Af,beq_iff_eq]at h;obtain⟨rfl,h⟩:=h;exact⟨_,_,rfl,h⟩
 ·cases h
theorem Tw{f:Nat}{F:AF}(h:M7 P G f F=true):∃ fn c,P.funcs[f]?=some fn/\fn.body=some c/\Db P G fn.ntmps F.body c=true/\Po P fn.ntmps F.res fn.results.toList=true/\F.pars<=fn.ntmps/\fn.name ≠ "runtime.NumGoroutine":=by
 unfold M7 at h
 split at h
 ·rename_i fn hf
  split at h
  ·rename_i c hc;simp only[Af,decide_eq_true_eq]at h;obtain⟨h1,h2,h3,h4⟩:=h;exact⟨fn,c,hf,hc,h1,h2,h3,by simpa using h4⟩
  ·cases h
 ·cases h
theorem Ass{γ:Gh}{w:World}{v:V}{u:Value}(h:Hh v=true)(hr:RepV γ w v u):Rep1 γ w v u:=by
 cases hr with
 | und=>simp[Hh,V.cellB]at h
 | skp=>simp[Hh,V.cellB]at h
 | one h=>exact h
 | tup=>simp[Hh,V.cellB]at h
def Us(tm:Array Value):ResultVar->Sem Value
 | .tmp t=>pure (tm.getD t undef)
 | .cell a t=>do loadVar t (<-asAddr (tm.getD a undef))
theorem Abo{n:Nat}{N:Nat}{γ:Gh}{σ:St}{w:World}{e:Env}{tm:Array Value}(hE:RepE γ w e tm)(hI:Inv G N γ σ w):∀ {rs:List AR} {qs:List ResultVar} {vs:List V},Po P n rs qs=true->rs.mapM (Fe e σ)=some vs ->
  ∃ us:List Value,(qs.mapM (Us tm)).run P w=.ok us w/\vs.length=us.length/\us.length=qs.length/\∀ j,j<vs.length->RepV γ w (vs.getD j .und) (us.getD j undef)
 | [],[],vs,_,h=>by
  simp at h;subst h;exact⟨[],by simp,rfl,rfl,fun j hj=>absurd hj (by simp)⟩
 | r::rs,q::qs,vs,hok,h=>by
  simp only[Po,Af]at hok;rw[Hs]at h
  cases h1:Fe e σ r with
  | none=>simp[h1]at h
  | some v=>
   cases h2:rs.mapM (Fe e σ) with
   | none=>simp[h1,h2]at h
   | some vs'=>
    simp[h1,h2]at h;subst h;obtain⟨us,g1,g2,g2',g3⟩:=Abo hE hI hok.2 h2
    have key:∃ u,(Us tm q).run P w=.ok u w/\RepV γ w v u:=by
     have hr:=hok.1;unfold okR at hr
     split at hr
     ·rename_i t t';simp only[Af,beq_iff_eq]at hr;obtain⟨rfl,_⟩:=hr;simp only[Fe]at h1;cases h1;exact⟨tm.getD t undef,rfl,hE t⟩
     ·rename_i t k one t' ty;simp only[Af,beq_iff_eq]at hr;obtain⟨rfl,hr1,hr2⟩:=hr;obtain⟨fi,i1,i2⟩:=Is hr1;obtain⟨d,hd,hs⟩:=C3 hr2;simp only[Fe]at h1;obtain⟨b,p,cs,f,hu,k1,k2,k3,k4⟩:=Agx hI (hE t) h1;obtain⟨m1,m2⟩:=Aap k1 k2 k4;have hl:=Ae0 (P:=P) (w:=w) hd (eq_of_beq hs) i1 i2 (fun h=>(m1 h).1) k3;refine⟨if one then f 0 else .agg ((List.range k).map f).toArray,by simp only[Us,hu,asAddr,Sem.run_bind,Sem.run_pure,Result.andThen_ok,hl],?_⟩
      cases one with
      | true=>exact Cv (m1 rfl).2
      | false=>exact .one (m2 rfl)
     ·cases hr
    obtain⟨u,hu,hv⟩:=key;refine⟨u::us,by simp[Hs,hu,g1],by simp[g2],by simp[g2'],fun j hj=>?_⟩
    cases j with
    | zero=>exact hv
    | succ j=>simpa using g3 j (by simpa using hj)
 | [],_::_,_,h,_=>by simp[Po]at h
 | _::_,[],_,h,_=>by simp[Po]at h
theorem ML.tail{n:Nat}{ops:Array Oper}{i:AI}{is:List AI}{L:List Nat}(h:ML P G n ops (i::is) L):∃ j js o,L=j::js/\ops[j]?=some o/\Sf P G n ops i o=true/\ML P G n ops is js:=by
 cases L with
 | nil=>exact h.elim
 | cons j js=>obtain⟨⟨o,h1,h2⟩,h3⟩:=h;exact⟨j,js,o,rfl,h1,h2,h3⟩
theorem Pp{n:Nat}{ops:Array Oper}{o:Oper}{j:Nat}{js:List Nat}{a:Act}{w:World}{Q:Exit->Act->World->Prop}(ho:ops[j]?=some o)(hw:Region.wanted o (yielded ops a.tmps)=true)(h:o.wp P a w (wpOps P ops Q js) Q):wpOps P ops Q (j::js) a w:=by
 simp only[wpOps,ho,hw,if_true];exact .inl h
theorem Avu{ops:Array Oper}{o:Oper}{j:Nat}{js:List Nat}{a:Act}{w:World}{Q:Exit->Act->World->Prop}(ho:ops[j]?=some o)(hw:Region.wanted o (yielded ops a.tmps)=false)(h:wpOps P ops Q js (a.put o.dst undef) w):wpOps P ops Q (j::js) a w:=by
 simp only[wpOps,ho,hw];simpa using h
theorem Ni{n:Nat}{ops:Array Oper}{i:AI}{o:Oper}(h:Sf P G n ops i o=true):i.dst=o.dst/\(match i.dst with | some d=>decide (d<n) | none=>true)=true/\Zk n ops i.g o.guard=true/\(match i.op with | .call f xs=>Ur P G f xs o.op | .callv s xs=>Ug P G s xs o.op | ao=>Se P G ao o.op)=true:=by
 unfold Sf at h;simp only[Af,beq_iff_eq]at h;exact⟨h.1,h.2.1,h.2.2.1,h.2.2.2⟩
theorem Afd{f:FuncId}{fn:Func}{c:Code}{args:Array Value}{w:World}(hf:P.funcs[f]?=some fn)(hb:fn.body=some c)(hn:fn.name ≠ "runtime.NumGoroutine"):(callFunc f args).run P w=.ok (.enter f args) w:=by
 have hn':(fn.name == "runtime.NumGoroutine")=false:=by simpa using hn
 simp[callFunc,program,Sem.run,hf,hb,hn]
theorem Apr{a:Act}{o:Oper}{w:World}{f:FuncId}{fn:Func}{c:Code}{args:Array Operand}{ts:Array TypeId}(ho:o.op=.call { callee:=.value (.func f),args,argTypes:=ts })(hf:P.funcs[f]?=some fn)(hb:fn.body=some c)(hn:fn.name ≠ "runtime.NumGoroutine") :
  (execOp a.eval o).run P w=.ok (.enter f (args.map a.eval)) w:=by
 have:=Afd (P:=P) (args:=args.map a.eval) (w:=w) hf hb hn;simp[execOp,ho,resolve,Deferred.ofValue,Act.eval,invoke,this]
theorem An9{a:Act}{o:Oper}{w:World}{f:FuncId}{fn:Func}{c:Code}{x:Operand}{args:Array Operand}{ts:Array TypeId}{ua uc:Array Value}(ho:o.op=.call { callee:=.value x,args,argTypes:=ts })(hx:a.eval x=.func (.func f) ua uc)(hf:P.funcs[f]?=some fn)(hb:fn.body=some c)(hn:fn.name ≠ "runtime.NumGoroutine") :
  (execOp a.eval o).run P w=.ok (.enter f (ua++args.map a.eval++uc)) w:=by
 have:=Afd (P:=P) (args:=ua++args.map a.eval++uc) (w:=w) hf hb hn;simp only[Array.append_assoc]at this ⊢;simp[execOp,ho,resolve,Deferred.ofValue,hx,invoke,this]
theorem Anl{s:S}{xs:List S}{op:Op}(h:Ug P G s xs op=true):∃ x args ts,op=.call { callee:=.value x,args,argTypes:=ts }/\Bo G s x=true/\Jy G xs args.toList=true:=by
 unfold Ug at h
 split at h
 ·simp only[Af]at h;exact⟨_,_,_,rfl,h.1,h.2⟩
 ·cases h
theorem Aip(args:Array Operand)(f:Operand->Value):args.map f=(args.toList.map f).toArray:=by
 have:=(args.map f).toArray_toList;rw[Array.toList_map]at this;exact this.symm
theorem Ag7{γ:Gh}{w:World}{vs vs':List V}{us us':List Value}(h:vs.length=us.length/\∀ j,j<vs.length->RepV γ w (vs.getD j .und) (us.getD j undef))(h':vs'.length=us'.length/\∀ j,j<vs'.length->RepV γ w (vs'.getD j .und) (us'.getD j undef)):
  (vs++vs').length=(us++us').length/\∀ j,j<(vs++vs').length->RepV γ w ((vs++vs').getD j .und) ((us++us').getD j undef):=by
 refine⟨by simp[h.1,h'.1],fun j hj=>?_⟩;simp only[Aq];by_cases hl:j<vs.length
 ·rw[Co hl,Co (by rw[<-h.1];exact hl)];simpa[Aq] using h.2 j hl
 ·rw[Cf (by omega),Cf (by rw[<-h.1];omega),<-h.1];have:=h'.2 (j - vs.length) (by simp at hj;omega);simpa[Aq] using this
theorem Qs{n N:Nat}{γ:Gh}{σ:St}{w:World}{e:Env}{a:Act}{ops:Array Oper}{i:AI}{o:Oper}{f:Nat}{vs:List V}{fn:Func}{c:Code}(hok:(match i.op with | .call f xs=>Ur P G f xs o.op | .callv s xs=>Ug P G s xs o.op | ao=>Se P G ao o.op)=true)(hc:Bt e i.op=some (f,vs))(hE:RepE γ w e a.tmps)(hI:Inv G N γ σ w)
  (hf:P.funcs[f]?=some fn) (hb:fn.body=some c) (hn:fn.name ≠ "runtime.NumGoroutine") :
  ∃ us:List Value,(execOp a.eval o).run P w=.ok (.enter f us.toArray) w/\vs.length=us.length/\∀ j,j<vs.length->RepV γ w (vs.getD j .und) (us.getD j undef):=by
 have args:∀ {xs:List S} {os:Array Operand},Jy G xs os.toList=true->(xs.map (Ab e)).length=(os.toList.map a.eval).length/\∀ j,j<(xs.map (Ab e)).length->RepV γ w ((xs.map (Ab e)).getD j .und) ((os.toList.map a.eval).getD j undef):=fun {xs os} hss=>by
  obtain⟨l1,g1⟩:=W8 (a:=a) hE hI hss;refine⟨by simpa using l1,fun j hj=>?_⟩;have hjx:j<xs.length:=by simpa using hj
  have hja:j<os.toList.length:=by omega
  have:=g1 j xs[j] os.toList[j] (A0 hjx) (A0 hja);rw[show(xs.map (Ab e)).getD j .und=Ab e xs[j] by simp[Aq,hjx],show(os.toList.map a.eval).getD j undef=a.eval os.toList[j] by rw[Aq,Bb,A0 hja];rfl];exact this
 generalize i.op=op at hok hc
 cases op with
 | call f' xs=>
  simp only[Bt]at hc;cases hc;obtain⟨os,ts,hop,hss⟩:=An8 hok;refine⟨os.toList.map a.eval,?_,args hss⟩;rw[Apr hop hf hb hn,Aip]
 | callv s xs=>
  simp only[Bt]at hc
  split at hc
  ·rename_i f' as cs hs;cases hc;obtain⟨x,os,ts,hop,h1,hss⟩:=Anl hok;have hr:=Ua (a:=a) h1 hE hI;rw[hs]at hr;obtain⟨ua,uc,hu,hla,hlc,hra,hrc⟩:=Abl (Aw rfl hr);refine⟨ua++os.toList.map a.eval++uc,?_,Ag7 (Ag7 ⟨hla,fun j hj=>Cv (hra j hj)⟩ (args hss)) ⟨hlc,fun j hj=>Cv (hrc j hj)⟩⟩;rw[An9 hop hu hf hb hn,Aip];simp
  ·cases hc
 | _=>simp[Bt]at hc
