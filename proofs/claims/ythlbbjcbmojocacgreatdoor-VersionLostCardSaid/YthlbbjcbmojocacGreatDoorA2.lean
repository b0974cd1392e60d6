/- THE PLAIN MACHINE, joined texts: Kj Kk Kl Km Kn Ko Kp Kq. -/
import Derived.Test.YthlbbjcbmojocacGreatDoorA1
import Derived.Lib.AppendStr
import Derived.Laws.BytesArg
import Derived.Laws.BytesString
import Derived.Lib.ConvBytes
import Derived.Laws.StructEq
import Derived.Orders
set_option linter.all false
/- append (second form). -/
namespace Go.Proofs.YthlbbjcbmojocacGreatDoor.KM
open Go Go.RowKit
variable {P:Program} {G:List (Nat × List V)} {N:Nat} {γ:Gh} {σ σ1:St} {w:World} {e:Env} {a:Act} {o:Oper} {v:V}
def CellsIn(γ:Gh)(w:World)(cs:List V)(us:List Value):Prop:=cs.length=us.length/\∀ j,j<cs.length->RepC γ w (cs.getD j .und) (us.getD j undef)
def CellsIn.ext{γ γ':Gh}{w w':World}{cs:List V}{us:List Value}(hx:Ext γ w γ' w')(h:CellsIn γ w cs us):CellsIn γ' w' cs us:=⟨h.1,fun j hj=>(h.2 j hj).ext hx⟩
def CellsIn.app{cs ds:List V}{us vs:List Value}(h:CellsIn γ w cs us)(g:CellsIn γ w ds vs):CellsIn γ w (cs++ds) (us++vs):=by
 refine⟨by simp[h.1,g.1],fun j hj=>?_⟩;simp only[Av];by_cases hl:j<cs.length
 .rw[B6 hl,B6 (by rw[<-h.1];exact hl)];simpa[Av] using h.2 j hl
 .rw[Co (by omega),Co (by rw[<-h.1];omega),<-h.1];have:=g.2 (j - cs.length) (by simp at hj;omega);simpa[Av] using this
def CellsIn.one{cs:List V}{us:List Value}(h:CellsIn γ w cs us):∀ u∈us,u.oneCell'=true:=by
 intro u hu;obtain⟨j,hj,rfl⟩:=Qq hu;have:=(Qx (h.2 j (by rw[h.1];exact hj))).2;simpa[Av,hj] using this
def Q2{m:Nat}:∀ {xs:List (List V)},(∀ i,i<xs.length->(xs.getD i []).length=m)->xs.flatten.length=xs.length*m
 | [],_=>by simp
 | x::xs,h=>by
  have h0:x.length=m:=by simpa using h 0 (by simp)
  rw[Dv,Al,Q2 (m:=m) (xs:=xs) (fun i hi=>by simpa using h (i+1) (by simpa using hi)),h0,Am,Ep];omega
def Ahj{m:Nat}:∀ {xs:List (List V)},(∀ i,i<xs.length->(xs.getD i []).length=m)->∀ i j,i<xs.length->j<m->xs.flatten.getD (i*m+j) .und=(xs.getD i []).getD j .und
 | [],_,i,j,hi,_=>by simp at hi
 | x::xs,h,i,j,hi,hj=>by
  have h0:x.length=m:=by simpa using h 0 (by simp)
  have hr:∀ i,i<xs.length->(xs.getD i []).length=m:=fun i hi=>by simpa using h (i+1) (by simpa using hi)
  cases i with
  | zero=>
   simp only[Av,Dv,Xx,E3];rw[B6 (by omega)];rfl
  | succ i=>
   have ih:=Ahj hr i j (by simpa using hi) hj;simp only[Av,Dv]at ih ⊢;rw[Co (by rw[h0,Ep];omega),show(i+1)*m+j - x.length=i*m+j by rw[h0,Ep];omega,ih];simp
def X3(m:Nat):∀ (n:Nat) (cs:List V),n*m<=cs.length->(Fc m n cs).flatten=cs.take (n*m)
 | 0,cs,_=>by simp[Fc]
 | n+1,cs,h=>by
  rw[Ep]at h;rw[Fc,Dv,X3 m n _ (by simp;omega),Ep,Abg (n*m) m,List.take_add]
def Agb{xs:List (List V)}{ad:Addr}{cap m:Nat}(hm:0<m)(hw:∀ i,i<xs.length->(xs.getD i []).length=m)(h:RepR γ.κ w (.lst 0 xs) (.slice (some ad) xs.length cap)):
  ∃ us:List Value,CellsIn γ w xs.flatten us/\∀ j u,us[j]?=some u->w.cell? (ad.add j)=some u:=by
 cases h with
 | @lst _ _ _ _ m' row h1 h2 h3 h4 h5 h6 h7=>
 have H4:=Lib.hid h4;clear h4;have ka:0<xs.length->m'=m:=fun hl=>by rw[<-h5 0 hl,hw 0 hl]
 refine⟨(List.range (xs.length*m)).map fun q=>row (q / m) (q % m),⟨by rw[Q2 hw];simp,fun j hj=>?_⟩,fun j u hj=>?_⟩
 .rw[Q2 hw]at hj
  have hl:0<xs.length:=by
   rcases Sj xs.length with h | h
   .rw[h]at hj;simp at hj
   .exact h
  obtain rfl:=ka hl;have hd:j / m'<xs.length:=Nat.div_lt_of_lt_mul (by rw[U8];exact hj);have hr:j % m'<m':=Pg _ hm;have kj:j / m'*m'+j % m'=j:=by rw[U8];exact Nat.div_add_mod j m'
  have e0:=Ahj hw (j / m') (j % m') hd hr;rw[kj]at e0;rw[e0]
  have e1:((List.range (xs.length*m')).map fun q=>row (q / m') (q % m')).getD j undef=row (j / m') (j % m'):=by
   simp[Av,hj]
  rw[e1];exact .row (h7 _ _ hd hr)
 .have qA:j<xs.length*m:=by
   have:=(Ak.1 hj).1;simpa using this
  have hl:0<xs.length:=by
   rcases Sj xs.length with h | h
   .rw[h]at qA;simp at qA
   .exact h
  obtain rfl:=ka hl;have hs:=(H4.out hl).1;have hd:j / m'<xs.length:=Nat.div_lt_of_lt_mul (by rw[U8];exact qA);have hr:j % m'<m':=Pg _ hm;have hc:=h6 (j / m') (j % m') hd hr;have kj:j / m'*m'+j % m'=j:=by rw[U8];exact Nat.div_add_mod j m'
  rw[U4,kj]at hc;simp[qA]at hj;subst hj;obtain⟨b,of,sp⟩:=ad;simp at hs;subst hs;rw[K1];exact hc
def Afy{o:Obj}(h:N<=w.heap.size):Below N w (w.drew.alloc o):=((Below.refl N w).drew).alloc h o
def Ao6{us:List Value}{qC:Array Value}{j:Nat}(h:j<us.length):(us.toArray++qC).getD j undef=us.getD j undef:=by
 rw[Array.getD_eq_getD_getElem?,Array.getElem?_append_left (by simpa using h),Sd,Av]
def Ao7{cs:List V}{us:List Value}{qC:Array Value}{el:TypeId}{n cap m:Nat}{r:Result Next}(hI:Inv G N γ σ w)(hc:CellsIn γ w cs us)(hn:n<=cap)(kY:cap<=maxLen)(qN:(us.toArray++qC).size=cap*m)
  (h:r=.ok (.value (.slice (some ⟨w.heap.size,0,none⟩) n cap)) (w.drew.alloc (.cells (us.toArray++qC) el))):Cp P G N γ σ w r (.sl σ.length 0 0 n m true) (σ++[.row cs el 0 0]):=by
 obtain⟨d1,d2⟩:=hI.drew
 obtain⟨i1,i2⟩:=d1.newRow (us.toArray++qC) el cs (by rw[hc.1];simp) (fun j hj=>by
  rw[Ao6 (by rw[<-hc.1];exact hj)]
  exact(hc.2 j hj).ext d2)
 refine⟨_,_,_,.inl h,C1 (Adf ?_ ?_ hn kY),i1,d2.trans i2,Afy hI.base,fun b hb=>Me _ _ (by have:=hI.base;show b≠w.heap.size;omega)⟩
 .show(γ.O++[(w.heap.size,0)])[σ.length]?=_;rw[<-hI.len];simp
 .have:=Yc w.drew (us.toArray++qC) el (0,0);rw[show w.drew.heap.size=w.heap.size from rfl]at this;rw[this,qN]
def Aiz{x:V}{ux:Value}{ys:List (List V)}{news:List Value}{m bytes:Nat}{el:TypeId}{r:Result Next}(hI:Inv G N γ σ w)(hx:RepV γ w x ux)(hy:CellsIn γ w ys.flatten news)
  (jc:ys.length=0->∀ (b:Option Addr) (n c:Nat),n<=c->ux=.slice b n c->r=.ok (.value (.slice b n c)) w)
  (kT:0<ys.length->ys.length*bytes<=140737488355328->ux=.slice none 0 0->∃ cap qC,r=.ok (.value (.slice (some ⟨w.heap.size,0,none⟩) ys.length cap)) (w.drew.alloc (.cells (news.toArray++qC) el))/\ys.length<=cap/\cap<=maxLen/\(news.toArray++qC).size=cap*m)
  (ji:∀ (g n cap:Nat) (qq:Array Value) (e':TypeId) (fz:Nat × Nat),w.heap[g]?=some (.cells qq e' fz)->(fz.2<=n*m\/qq.size<=fz.1)->0<ys.length->n+ys.length<=cap->qq.size=cap*m->ux=.slice (some ⟨g,0,none⟩) n cap ->
   r=.ok (.value (.slice (some ⟨g,0,none⟩) (n+ys.length) cap)) (w.setRow g (qq.toList.take (n*m)++news++qq.toList.drop (n*m+news.length)).toArray))
  (jh:∀ (b:Addr) (n cap:Nat) (qp:List Value),qp.length=n*m->(∀ j u,qp[j]?=some u->w.cell? (b.add j)=some u)->0<ys.length->cap<n+ys.length->(n+ys.length)*bytes<=140737488355328->n+ys.length<=maxLen->ux=.slice (some b) n cap ->
   ∃ qK qC,r=.ok (.value (.slice (some ⟨w.heap.size,0,none⟩) (n+ys.length) qK)) (w.drew.alloc (.cells (qp.toArray++news.toArray++qC) el))/\n+ys.length<=qK/\qK<=maxLen/\(qp.toArray++news.toArray++qC).size=qK*m)
  (qu:∀ k,k*bytes<=140737488355328->k<=maxLen)
  (h:J6 bytes (m,el) σ x ys=some (v,σ1)):Cp P G N γ σ w r v σ1:=by
 have qo:ys.isEmpty=true↔ys.length=0:=by cases ys<;>simp
 unfold J6 at h
 split at h
 .rename_i jF;obtain⟨jk,hm⟩:=jF;have hm:0<m:=hm
  have vk:∀ i,i<ys.length->(ys.getD i []).length=m:=fun i hi=>by
   have:=Bp.1 jk (ys.getD i []) (by rw[Av,Bc hi];exact Fy hi);exact eq_of_beq this
  have qU:news.length=ys.length*m:=by rw[<-hy.1,Q2 vk]
  split at h
  .have hu:=Jr (Az rfl hx)
   split at h
   .rename_i qn
    split at h
    .rename_i ja;cases h;exact Cg hI (jc (qo.1 ja) none 0 0 (Ai _) hu) (C1 (.row .nils))
    .rename_i ja;cases h;have qG:0<ys.length:=Nat.pos_of_ne_zero fun h=>ja (qo.2 h)
     obtain⟨cap,qC,hr,jG,jH,jl⟩:=kT qG qn hu;exact Ao7 hI hy jG jH jl hr
   .cases h
  .rename_i t xs;have kQ:=Az rfl hx;obtain⟨ad,cap,hu,hR,jI⟩:=Pk kQ
   split at h
   .rename_i qn
    split at h
    .rename_i ja;cases h;exact Cg hI (jc (qo.1 ja) _ _ _ (by cases hR with | lst row h1 h2 h3=>exact h2) hu) (by rw[<-hu];exact hx)
    .rename_i ja;have qG:0<ys.length:=Nat.pos_of_ne_zero fun h=>ja (qo.2 h)
     split at h
     .rename_i ht;cases h
      have hw:∀ i,i<xs.length->(xs.getD i []).length=m:=fun i hi=>by
       have:=Bp.1 ht.2 (xs.getD i []) (by rw[Av,Bc hi];exact Fy hi);exact eq_of_beq this
      obtain⟨qp,jg,jR⟩:=Agb hm hw hR;have wc:=jI ht.1;obtain⟨qK,qC,hr,jG,jH,jl⟩:=jh ad xs.length cap qp (by rw[<-jg.1,Q2 hw]) jR qG (by omega) qn (qu _ qn) hu;rw[show qp.toArray++news.toArray=(qp++news).toArray by simp]at hr jl;exact Ao7 hI (jg.app hy) jG jH jl hr
     .cases h
   .cases h
  .rename_i i g off len m' own;have kQ:=Az rfl hx
   split at h
   .rename_i vv;obtain⟨qn,ka⟩:=vv;obtain rfl:m=m':=Eq.symm ka
    split at h
    .rename_i cs ee g' z qI
     split at h
     .rename_i hg;subst hg;obtain⟨blk,cap,o',hb,hu,ju,qN,jm,jP⟩:=Yt (o':=0) hI kQ (by simp[Nj,qI]);obtain⟨_,wd,wi,us,lo,hi,g1,⟨_,kf⟩,g2,g3⟩:=hI.obj i _ _ qI hb
      split at h
      .rename_i ja;cases h;exact Cg hI (jc (qo.1 ja) _ _ _ jm hu) (by rw[<-hu];exact hx)
      .rename_i ja;have qG:0<ys.length:=Nat.pos_of_ne_zero fun h=>ja (qo.2 h)
       split at h
       .rename_i hc;obtain⟨jv,rfl,vx,vm⟩:=hc;obtain rfl:el=ee:=Eq.symm vx;have jX:us.size=cap*m:=by have:=qN jv;simp[Eb,g1]at this;exact this
        have g1:w.heap[blk]?=some (.cells us el (lo,hi)):=g1;have jE:(len+ys.length)*m=len*m+ys.length*m:=Nb _ _ _
        have vb:hi<=len*m\/us.size<=lo:=by
         rcases kf with h | h
         .exact .inl (by omega)
         .exact .inr h
        have qO:∀ j,j<cs.length->RepC γ w (cs.getD j .und) (us.toList.getD j undef):=fun j hj=>by
         have:=g3 j hj;simpa[Array.getD_eq_getD_getElem?,Av] using this
        split at h
        .-- E4 what it has
         rename_i jC;cases h;have qd:len+ys.length<=cap:=Nat.le_of_mul_le_mul_right (by omega) hm;have qZ:ux=.slice (some ⟨blk,0,none⟩) len cap:=by rw[hu,ju (by omega)]
         have hr:=ji blk len cap us el (lo,hi) g1 vb qG qd jX qZ;have qW:((us.toList.take (len*m)++news++us.toList.drop (len*m+news.length)).toArray).size=us.size:=by simp;omega
         have kX:(cs.take (len*m)++ys.flatten++cs.drop ((len+ys.length)*m)).length=cs.length:=by
          rw[Al,Al,hy.1,qU];simp;omega
         obtain⟨i1,i2⟩:=hI.write (us':=(us.toList.take (len*m)++news++us.toList.drop (len*m+news.length)).toArray) (cs':=cs.take (len*m)++ys.flatten++cs.drop ((len+ys.length)*m)) (g':=g) hb qI g1 ⟨by assumption,kf⟩ (Ai _) (by omega) qW (by omega) (fun q hq=>by
          rw[Sd,V0 _ _ _ _ (by simp;omega),if_pos (by omega),Array.getElem?_toList]) (fun j hj=>by
          rw[kX]at hj;rw[Array.getD_eq_getD_getElem?,Sd,Av,jE,show ys.length*m=ys.flatten.length by rw[Q2 vk],V0 _ _ _ _ (by rw[hy.1,qU];omega),V0 _ _ _ _ (by simp;omega),hy.1]
          split
          .have:=qO j hj;simpa[Av] using this
          .split
           .have:=hy.2 (j - len*m) (by rw[hy.1];omega);simpa[Av] using this
           .have:=qO j hj
            simpa[Av] using this)
         rw[show(blk,g).1=blk from rfl,Lo hb]at i1 i2;refine⟨_,_,_,.inl hr,C1 (.sl hb (Ai _) qd jP (fun _=>rfl) (fun _=>⟨rfl,fun _=>?_⟩)),i1,i2,Abc _ (hI.low _ _ hb),fun _ _=>rfl⟩;rw[Agf w blk g1 qW,qN jv]
        .split at h
         .rename_i vO jK;cases h;have kX:(cs++ys.flatten).length=(len+ys.length)*m:=by rw[Al,hy.1,qU,jK,jE]
          have vh:us.toList.take (len*m)=us.toList.take cs.length:=by rw[jK]
          have jn:CellsIn γ w cs (us.toList.take (len*m)):=⟨by simp;omega,fun j hj=>by
           have:=qO j hj
           simpa[Av,F5,show j<len*m by omega] using this⟩
          by_cases qd:len+ys.length<=cap
          .-- grown in its place
           have qZ:ux=.slice (some ⟨blk,0,none⟩) len cap:=by rw[hu,ju (by omega)]
           have hr:=ji blk len cap us el (lo,hi) g1 vb qG qd jX qZ;have vK:(len+ys.length)*m<=cap*m:=Fp _ qd;have qW:((us.toList.take (len*m)++news++us.toList.drop (len*m+news.length)).toArray).size=us.size:=by simp;omega
           obtain⟨i1,i2⟩:=hI.write (us':=(us.toList.take (len*m)++news++us.toList.drop (len*m+news.length)).toArray) (cs':=cs++ys.flatten) (g':=g+1) hb qI g1 ⟨by assumption,kf⟩ (by omega) (by omega) qW (by omega) (fun q hq=>by
            rw[Sd,V0 _ _ _ _ (by simp;omega),if_pos (by omega),Array.getElem?_toList]) (fun j hj=>by
            have:=(jn.app hy).2 j hj;have qJ:j<(us.toList.take (len*m)++news).length:=by rw[<-(jn.app hy).1];exact hj
            rw[Array.getD_eq_getD_getElem?,Sd,B6 qJ]
            simpa[Av] using this)
           refine⟨_,_,_,.inl hr,C1 (.sl (blk:=blk) (g':=g+1) ?_ (Ai _) qd jP (fun _=>rfl) (fun _=>⟨rfl,fun _=>?_⟩)),i1,i2,Abc _ (hI.low _ _ hb),fun _ _=>rfl⟩
           .show(γ.O.set i (blk,g+1))[i]?=_;rw[B5 (Ak.1 hb).1]
           .rw[Agf w blk g1 qW,qN jv]
          .-- moved
           have qz:∀ j u,(us.toList.take (len*m))[j]?=some u->w.cell? ((⟨blk,o',none⟩:Addr).add j)=some u:=fun j u hj=>by
            have qF:j<len*m:=by have:=(Ak.1 hj).1;simp at this;omega
            have vf:0<len:=by
             rcases Sj len with h | h
             .rw[h]at qF;simp at qF
             .exact h
            rw[ju (by omega),K1];rw[F5,if_pos qF,Array.getElem?_toList]at hj;simpa[World.cell?,g1] using hj
           obtain⟨qK,qC,hr,jG,jH,jl⟩:=jh ⟨blk,o',none⟩ len cap (us.toList.take (len*m)) (by simp;omega) qz qG (by omega) qn (qu _ qn) hu;rw[show(us.toList.take (len*m)).toArray++news.toArray=(us.toList.take (len*m)++news).toArray from(List.append_toArray _ _)]at hr jl;obtain⟨d1,d2⟩:=hI.drew;have jJ:=jn.app hy
           obtain⟨i1,i2⟩:=d1.moved (us':=(us.toList.take (len*m)++news).toArray++qC) (cs':=cs++ys.flatten) hb qI (by omega) (by rw[jJ.1];simp only[Array.size_append,Xm];omega) (fun j hj=>by
            rw[Ao6 (by rw[<-jJ.1];exact hj)]
            exact(jJ.2 j hj).ext d2)
           refine⟨_,_,_,.inl hr,C1 (.sl (blk:=w.heap.size) (g':=g+1) ?_ (Ai _) jG jH (fun _=>rfl) (fun _=>⟨rfl,fun _=>?_⟩)),i1,d2.trans i2,Afy hI.base,fun b hb=>Me _ _ (by have:=hI.base;show b≠w.heap.size;omega)⟩
           .show(γ.O.set i (w.heap.size,g+1))[i]?=_;rw[B5 (Ak.1 hb).1]
           .have:=Yc w.drew ((us.toList.take (len*m)++news).toArray++qC) el (0,0);rw[show w.drew.heap.size=w.heap.size from rfl]at this;rw[this,jl,E3]
         .cases h
       .cases h
     .cases h
    .cases h
   .cases h
  .cases h
 .cases h
open Go Go.RowKit
variable {P:Program} {G:List (Nat × List V)} {N:Nat} {γ:Gh} {σ σ1:St} {w:World} {e:Env} {a:Act} {o:Oper} {v:V}
def Axd(t ty e:TypeId)(i:TypeInfo)(ht:P.underlying t=some (.slice e))(hi:P.info? e=some i)
  (g qh qH:Nat) (qq:Array Value) (e':TypeId) (fz:Nat × Nat) (hg:w.heap[g]?=some (.cells qq e' fz)) (jp:fz.2<=qh*i.size\/qq.size<=fz.1)
  (b:Addr) (m c:Nat) (news:List Value) (hl:news.length=m*i.size) (qT:∀ j u,news[j]?=some u->w.cell? (b.add j)=some u) (h1:∀ u∈news,u.oneCell'=true)
  (qd:qh+m<=qH) (jo:qh*i.size+news.length<=qq.size) :
  (Builtin.append_ #[t,t] ty #[.slice (some ⟨g,0,none⟩) qh qH,.slice (some b) m c]).run P w =
   .ok (.slice (some ⟨g,0,none⟩) (qh+m) qH) (w.setRow g (qq.toList.take (qh*i.size)++news++qq.toList.drop (qh*i.size+news.length)).toArray):=by
 have hf:=run_firstCells_some (P:=P) w i.size m b m c news hl qT;have jW:=Aaz P g (qh*i.size) e' fz news 0 qq w hg (by simpa using jp) (by simpa using jo) h1;simp only[Ll]at jW;simp[Builtin.append_,run_underlying ht,sizeOf,typeInfo,hi,Builtin.lenOf,qd,hf,Addr.add_lit,jW]
def Ayc{bytes:Nat}{m:Nat × Nat}{x:V}{ys:List (List V)}(h:J6 bytes m σ x ys=some (v,σ1)):∀ i,i<ys.length->(ys.getD i []).length=m.1:=by
 unfold J6 at h
 split at h
 .rename_i jk;intro i hi;have:=Bp.1 jk.1 (ys.getD i []) (by rw[Av,Bc hi];exact Fy hi);exact eq_of_beq this
 .cases h
def A5g{t el:TypeId}{fi:TypeInfo}{z:Value}{x y:Operand}{s1 s2:S}(ho:o.op=.call { callee:=.builtin .append,args:=#[x,y],argTypes:=#[t,t] })(ht:P.underlying t=some (.slice el))(qj:P.info? el=some fi)(hz:fi.zero=some z)(hzs:z.cells.size=fi.size)(qN:0<fi.size)(jz:0<fi.bytes)
  (hx:RepV γ w (Ab e s1) (a.eval x)) (hy:RepV γ w (Ab e s2) (a.eval y)) (hI:Inv G N γ σ w)
  (h:Ae (.app fi.bytes (fi.size,el) s1 s2) e σ=some (v,σ1)):Cp P G N γ σ w ((execOp a.eval o).run P w) v σ1:=by
 simp only[Ae,Ef]at h;obtain⟨ys,qr,h⟩:=h;have qw:=Ayc h
 have qu:∀ k,k*fi.bytes<=140737488355328->k<=maxLen:=fun k hk=>by
  have:k<=k*fi.bytes:=Aau _ jz
  unfold maxLen;omega
 have qx:∀ {u:Value} {w':World},(Builtin.append_ #[t,t] o.type #[a.eval x,a.eval y]).run P w=.ok u w'->(execOp a.eval o).run P w=.ok (.value u) w':=fun hr=>by
  simp only[execOp,ho,resolve,invoke,builtin,Sem.run_bind,Sem.run_pure,Result.andThen_ok,List.map_toArray,Bb,B7,hr]
 have kM:(ys=[]/\a.eval y=.slice none 0 0)\/∃ ad c news,a.eval y=.slice (some ad) ys.length c/\CellsIn γ w ys.flatten news/\∀ j u,news[j]?=some u->w.cell? (ad.add j)=some u:=by
  unfold Ea at qr
  split at qr
  .rename_i e2;rw[e2]at hy;cases qr;exact .inl ⟨rfl,Jr (Az rfl hy)⟩
  .rename_i t' wa e2;rw[e2]at hy;cases qr;obtain⟨ad,c,hu,hR,_⟩:=Pk (Az rfl hy);obtain⟨news,h1,h2⟩:=Agb qN qw hR;exact .inr ⟨ad,c,news,hu,h1,h2⟩
  .rename_i i g off len m' own e2;rw[e2]at hy
   split at qr
   .rename_i cs ee g' z qI
    split at qr
    .rename_i hc;obtain⟨rfl,rfl,qM⟩:=hc;cases qr;obtain⟨blk,cap,o',hb,hu,ju,_,jm,_⟩:=Yt (o':=0) hI (Az rfl hy) (by simp[Nj,qI]);obtain⟨_,_,_,us,lo,hi,g1,_,g2,g3⟩:=hI.obj i _ _ qI hb;have g1:w.heap[blk]?=some (.cells us ee (lo,hi)):=g1;refine .inr ⟨⟨blk,o',none⟩,cap,(us.toList.drop off).take (len*fi.size),by rw[hu,Yb],⟨?_,fun j hj=>?_⟩,fun j u hj=>?_⟩
     .rw[X3 _ _ _ (by simp;omega)];simp;omega
     .rw[X3 _ _ _ (by simp;omega)]at hj ⊢;have qA:j<len*fi.size/\off+j<cs.length:=by simp at hj;omega
      have:=g3 (off+j) qA.2;simpa[Av,F5,Hx,qA.1,Array.getD_eq_getD_getElem?] using this
     .have qF:j<len*fi.size:=by have:=(Ak.1 hj).1;simp at this;omega
      have kB:0<len:=by
       rcases Sj len with h | h
       .rw[h]at qF;simp at qF
       .exact h
      rw[ju (by omega),K1];rw[F5,if_pos qF,Hx,Array.getElem?_toList]at hj;simpa[World.cell?,g1] using hj
    .cases qr
   .cases qr
  .cases qr
 rcases kM with⟨rfl,hu⟩ | ⟨ad,c,news,hu,kD,kE⟩
 .refine Aiz (news:=[]) (el:=el) (bytes:=fi.bytes) hI hx ⟨by simp,fun i hi=>absurd hi (by simp)⟩ (fun _ b n c jQ qk=>qx ?_) (fun h=>absurd h (by simp)) (fun _ _ _ _ _ _ _ _ h=>absurd h (by simp)) (fun _ _ _ _ _ _ h=>absurd h (by simp)) qu h
  .rw[qk,hu]
   cases b<;>simp[Builtin.append_,run_underlying ht,sizeOf,typeInfo,qj,Builtin.lenOf,Builtin.firstCells,storeCells,jQ]
 .have qU:news.length=ys.length*fi.size:=by rw[<-kD.1,Q2 qw]
  have kG:=kD.one;refine Aiz (news:=news) (el:=el) (bytes:=fi.bytes) hI hx kD (fun h0 b n c' jQ qk=>qx ?_) (fun hp hb qk=>?_) (fun g n cap qq e' fz hg jp hp qd qI qk=>qx ?_) (fun b n cap qp jg jR _ hc hb hm qk=>?_) qu h
  .have wh:news=[]:=Afo (by rw[qU,h0];simp);rw[qk,hu,h0]
   cases b<;>simp[Builtin.append_,run_underlying ht,sizeOf,typeInfo,qj,Builtin.lenOf,Builtin.firstCells,loadCells,loadCellsFrom,storeCells,jQ]
  .have hr:=run_append_nil (P:=P) w t o.type el fi z ht qj hz ad ys.length c news qU kE hp (by have:=qu _ hb;unfold maxLen at this;omega) (by omega);refine⟨_,_,qx (by rw[qk,hu];exact hr),grownCap_ge _ _ _ _,grownCap_le_maxLen _ _ _ _ (qu _ hb),?_⟩;have:=grownCap_ge w ys.length 0 el;simp only[Array.size_append,Xm,size_zeroCells,hzs,qU,<-Nb];congr 1;omega
  .rw[qk,hu];refine Axd (P:=P) t o.type el fi ht qj g n cap qq e' fz hg jp ad ys.length c news qU kE kG qd ?_;rw[qU,qI,<-Nb];exact Fp _ qd
  .have hr:=run_append_grow (P:=P) w t o.type el fi z ht qj hz b n cap qp jg jR ad ys.length c news qU kE hc (by unfold maxLen at hm;omega) (growslice_fits hc hb);refine⟨_,_,qx (by rw[qk,hu];exact hr),grownCap_ge _ _ _ _,grownCap_le_maxLen _ _ _ _ hm,?_⟩;have:=grownCap_ge w (n+ys.length) cap el;simp only[Array.size_append,Xm,size_zeroCells,hzs,qU,jg,<-Nb];congr 1;omega
def Axc(t u ty e:TypeId)(i:TypeInfo)(ht:P.underlying t=some (.slice e))(hu:P.underlying u=some .string)(hi:P.info? e=some i)(jS:i.size=1)
  (g qh qH:Nat) (qq:Array Value) (e':TypeId) (fz:Nat × Nat) (hg:w.heap[g]?=some (.cells qq e' fz)) (jp:fz.2<=qh\/qq.size<=fz.1) (s:ByteArray)
  (qd:qh+s.size<=qH) (jo:qh+s.size<=qq.size) :
  (Builtin.append_ #[t,u] ty #[.slice (some ⟨g,0,none⟩) qh qH,.string s]).run P w =
   .ok (.slice (some ⟨g,0,none⟩) (qh+s.size) qH) (w.setRow g (qq.toList.take qh++Lib.strCells s++qq.toList.drop (qh+s.size)).toArray):=by
 have hf:=Lib.run_firstCells_string (P:=P) w 1 s;have jW:=Aaz P g qh e' fz (Lib.strCells s) 0 qq w hg (by simpa using jp) (by simpa[Lib.strCells_length] using jo) (Lib.strCells_oneCell s);simp only[Ll,Lib.strCells_length]at jW;simp[Builtin.append_,run_underlying ht,run_underlying hu,sizeOf,typeInfo,hi,jS,Builtin.lenOf,qd,hf,Addr.add_lit,jW]
def U7(l:List UInt8):(Bs l).length=l.length:=by simp[Bs]
def Axh(l:List UInt8)(i:Nat)(h:i<l.length):(Bs l).getD i []=[V.int .u8 (l[i].toNat:Int)]:=by
 simp[Bs,Av,h]
def Aba(l:List UInt8):(Bs l).flatten=l.map fun c=>V.int .u8 (c.toNat:Int):=by
 induction l with
 | nil=>rfl
 | cons c l ih=>simp[Bs]at ih ⊢;exact ih
def Al9(l:List UInt8):CellsIn γ w (Bs l).flatten (Lib.strCells ⟨l.toArray⟩):=by
 rw[Aba];refine⟨by simp[Lib.strCells],fun j hj=>?_⟩;have qA:j<l.length:=by simpa using hj
 have e1:(l.map fun c=>V.int .u8 (c.toNat:Int)).getD j .und=.int .u8 (l[j].toNat:Int):=by simp[Av,qA]
 have e2:(Lib.strCells ⟨l.toArray⟩).getD j undef=.int .u8 (l[j].toNat:Int):=by simp[Lib.strCells,Av,qA]
 rw[e1,e2];exact .row .int
def A1v{t u el:TypeId}{fi:TypeInfo}{z:Value}{x y:Operand}{s1 s2:S}(ho:o.op=.call { callee:=.builtin .append,args:=#[x,y],argTypes:=#[t,u] })(ht:P.underlying t=some (.slice el))(hu:P.underlying u=some .string)(qj:P.info? el=some fi)(hz:fi.zero=some z)(hzs:z.cells.size=1)(qN:fi.size=1)(jz:fi.bytes=1)
  (hx:RepV γ w (Ab e s1) (a.eval x)) (hy:RepV γ w (Ab e s2) (a.eval y)) (hI:Inv G N γ σ w)
  (h:Ae (.apps el s1 s2) e σ=some (v,σ1)):Cp P G N γ σ w ((execOp a.eval o).run P w) v σ1:=by
 simp only[Ae]at h
 split at h
 .rename_i l e2;rw[e2]at hy;obtain⟨hv,hl⟩:=Gi (Az rfl hy);have qu:∀ k,k*1<=140737488355328->k<=maxLen:=fun k hk=>by unfold maxLen;omega
  have qx:∀ {u':Value} {w':World},(Builtin.append_ #[t,u] o.type #[a.eval x,a.eval y]).run P w=.ok u' w'->(execOp a.eval o).run P w=.ok (.value u') w':=fun hr=>by
   simp only[execOp,ho,resolve,invoke,builtin,Sem.run_bind,Sem.run_pure,Result.andThen_ok,List.map_toArray,Bb,B7,hr]
  have jd:(⟨l.toArray⟩:ByteArray).size=l.length:=Jt l;have kL:(Lib.strCells ⟨l.toArray⟩).length=l.length:=by rw[Lib.strCells_length,Jt]
  refine Aiz (news:=Lib.strCells ⟨l.toArray⟩) (el:=el) (bytes:=1) (m:=1) hI hx (Al9 l) (fun h0 b n c' jQ qk=>qx ?_) (fun hp hb qk=>?_) (fun g n cap qq e' fz hg jp hp qd qI qk=>qx ?_) (fun b n cap qp jg jR _ hc hb hm qk=>?_) qu h
  .rw[U7]at h0;have kB:l=[]:=Afo h0;subst kB;rw[qk,hv]
   cases b<;>simp[Builtin.append_,run_underlying ht,run_underlying hu,sizeOf,typeInfo,qj,Builtin.lenOf,Builtin.firstCells,storeCells,Jt,jQ]
  .rw[U7]at hp hb ⊢;have hr:=run_append_nil_string (P:=P) w t u o.type el fi z ht hu qj hz ⟨l.toArray⟩ (by omega) (by rw[jd];omega) (by rw[jz,jd];omega);rw[jd]at hr;have ki:(Array.map (fun b:UInt8=>Value.int IntKind.u8 (b.toNat:Int)) (⟨l.toArray⟩:ByteArray).data)=(Lib.strCells ⟨l.toArray⟩).toArray:=by simp[Lib.strCells]
   rw[ki]at hr;refine⟨_,_,qx (by rw[qk,hv];exact hr),grownCap_ge _ _ _ _,grownCap_le_maxLen _ _ _ _ (qu _ hb),?_⟩;have:=grownCap_ge w l.length 0 el;simp only[Array.size_append,Xm,size_zeroCells,hzs,kL];omega
  .rw[U7]at hp qd ⊢;have hr:=Axc (P:=P) (w:=w) t u o.type el fi ht hu qj qN g n cap qq e' fz hg (by simpa using jp) ⟨l.toArray⟩ (by rw[jd];omega) (by rw[jd];omega);rw[qk,hv,kL,X0,hr,jd]
  .rw[U7]at hc hb hm ⊢;have hr:=Lib.run_append_grow_string (P:=P) w t u o.type el fi z ht hu qj hz b n cap qp (by rw[qN];exact jg) jR ⟨l.toArray⟩ (by rw[jd];exact hc) (by rw[jd];unfold maxLen at hm;omega) (by rw[jd,jz];exact growslice_fits hc hb);rw[jd]at hr;refine⟨_,_,qx (by rw[qk,hv];exact hr),grownCap_ge _ _ _ _,grownCap_le_maxLen _ _ _ _ hm,?_⟩;have:=grownCap_ge w (n+l.length) cap el;simp only[Array.size_append,Xm,size_zeroCells,hzs,kL,jg];omega
 .cases h
def Ao8{t:TypeId}{d:TypeDesc}{fi:TypeInfo}{n off:Nat}{one:Bool}{cs:List V}{us:List Value}{v:V}(ht:P.underlying t=some d)(hd:Nw d=!one)(qj:P.info? t=some fi)(hn:fi.size=n)
  (hl:cs.length=us.length) (hj:∀ j,j<cs.length->RepC γ w (cs.getD j .und) (us.getD j undef)) (qM:off+n<=cs.length) (h:G0 one ((cs.drop off).take n)=some v) :
  ∃ u,(part t us.toArray off).run P w=.ok u w/\RepV γ w v u:=by
 have qv:((cs.drop off).take n).length=n:=by simp;omega
 have hr:∀ j,j<n->RepC γ w (((cs.drop off).take n).getD j .und) (us.getD (off+j) undef):=fun j kw=>by
  have e1:((cs.drop off).take n).getD j .und=cs.getD (off+j) .und:=by
   simp only[Av,F5,Hx];rw[if_pos kw]
  rw[e1];exact hj _ (by omega)
 obtain⟨m1,m2⟩:=Agw (f:=fun j=>us.getD (off+j) undef) h qv hr;have kg:=Agx (P:=P) (w:=w) ht;rw[hd]at kg
 cases one with
 | true=>
  obtain⟨h1,h2⟩:=m1 rfl;have qy:off<us.length:=by omega
  refine⟨us.getD off undef,?_,C1 h2⟩;simp[part,kg,Bc qy,Av]
 | false=>
  refine⟨_,?_,.one (m2 rfl)⟩
  have e2:us.toArray.extract off (off+n)=((List.range n).map fun j=>us.getD (off+j) undef).toArray:=by
   apply Array.ext
   .simp;omega
   .intro i h1 h2;simp at h1 h2;simp[Av,show off+i<us.length by omega]
  generalize us.toArray=arr at e2 ⊢;simp[part,kg,sizeOf,typeInfo,qj,hn,e2]
def A5h{t:TypeId}{fs:Array Field}{f:Field}{d:TypeDesc}{fi:TypeInfo}{i off n:Nat}{one:Bool}{x:Operand}{s:S}(ho:o.op=.field t x i)(hs:P.underlying t=some (.struct fs))(hf:fs[i]?=some f)(kF:f.offset=off)
  (ht:P.underlying f.type=some d) (hd:Nw d=!one) (qj:P.info? f.type=some fi) (hn:fi.size=n)
  (hx:RepV γ w (Ab e s) (a.eval x)) (hI:Inv G N γ σ w) (h:Ae (.fld off n one s) e σ=some (v,σ1)):Cp P G N γ σ w ((execOp a.eval o).run P w) v σ1:=by
 simp only[Ae]at h
 split at h
 .rename_i cs e1;rw[e1]at hx;obtain⟨us,hu,hl,hj⟩:=Q1 hx
  split at h
  .rename_i qM;simp only[Bu]at h;obtain⟨v',h,h2⟩:=h;cases h2;obtain⟨u,hr,hv⟩:=Ao8 (P:=P) ht hd qj hn hl hj qM h;refine Cg hI (u:=u) ?_ hv;simp[execOp,ho,hu,Instr.field,run_underlying hs,hf,asAgg,kF,hr]
  .cases h
 .cases h
def A5i{t el:TypeId}{d:TypeDesc}{fi:TypeInfo}{len m:Nat}{one:Bool}{x y:Operand}{s1 s2:S}(ho:o.op=.index t x y)(hs:P.underlying t=some (.array len el))
  (ht:P.underlying el=some d) (hd:Nw d=!one) (qj:P.info? el=some fi) (hn:fi.size=m)
  (hx:RepV γ w (Ab e s1) (a.eval x)) (hy:RepV γ w (Ab e s2) (a.eval y)) (hI:Inv G N γ σ w) (h:Ae (.ida len m one s1 s2) e σ=some (v,σ1)):Cp P G N γ σ w ((execOp a.eval o).run P w) v σ1:=by
 simp only[Ae]at h
 split at h
 .rename_i k n e2;rw[e2]at hy;have qB:=Er (Az rfl hy)
  split at h
  .rename_i hb
   split at h
   .rename_i cs e1;rw[e1]at hx;obtain⟨us,hu,hl,hj⟩:=Q1 hx
    split at h
    .rename_i qM;simp only[Bu]at h;obtain⟨v',h,h2⟩:=h;cases h2;obtain⟨u,hr,hv⟩:=Ao8 (P:=P) ht hd qj hn hl hj qM h;refine Cg hI (u:=u) ?_ hv;simp[execOp,ho,hu,qB,Instr.index,asIntOf,run_underlying hs,hb,sizeOf,typeInfo,qj,hn,hr]
    .cases h
   .cases h
  .cases h
 .cases h
/-! strings of bytes -/
def A5j{t el:TypeId}{n:Nat}{x:Operand}{s:S}(ho:o.op=.sliceToArrayPointer t x)(ht:P.underlying t=some (.array n el))(hx:RepV γ w (Ab e s) (a.eval x))(hI:Inv G N γ σ w)
  (h:Ae (.sap n s) e σ=some (v,σ1)):Cp P G N γ σ w ((execOp a.eval o).run P w) v σ1:=by
 simp only[Ae,Bu]at h;obtain⟨v',h,h2⟩:=h;cases h2;unfold Aet at h
 split at h
 .rename_i t' ys e1;rw[e1]at hx
  split at h
  .rename_i hc;obtain⟨h0,hn,hw⟩:=hc;cases h;obtain⟨ad,c,hu,hR,_⟩:=Pk (Az rfl hx)
   have qw:∀ i,i<ys.length->(ys.getD i []).length=1:=fun i hi=>by
    have:=Bp.1 hw (ys.getD i []) (by rw[Av,Bc hi];exact Fy hi);exact eq_of_beq this
   have hl:0<ys.length:=by omega
   cases hR with
   | @lst _ _ _ _ m row h1 h2 h3 h4 h5 h6 h7=>
   obtain rfl:m=1:=by rw[<-h5 0 hl,qw 0 hl]
   obtain⟨hs,k,hk,qM⟩:=h4 hl;obtain⟨b,o',sp⟩:=ad;obtain rfl:sp=none:=hs;have hf:ys.flatten.length=ys.length:=by rw[Q2 qw];omega
   refine Cg hI (u:=.pointer (some ⟨b,o',none⟩)) ?_ (C1 (RepC.imm (off:=0) (o:=o') (fun j=>row j 0) hk (by rw[hf];simpa using qM) (fun j hj=>?_) (fun j hj=>?_)))
   .simp[execOp,ho,Instr.arrayAt,run_underlying ht,hu,show ¬ ys.length<n by omega]
   .have:=h6 j 0 (by omega) (by omega);simpa using this
   .have:=h7 j 0 (by omega) (by omega);rw[<-Ahj qw j 0 (by omega) (by omega)]at this;simpa using this
  .cases h
 .cases h
def Ama:∀ {ys:List (List V)} {l:List UInt8},Mf ys=some l->ys=Bs l
 | [],l,h=>by cases h;rfl
 | [.int .u8 n]::r,l,h=>by
  simp only[Mf]at h
  split at h
  .rename_i hn;obtain⟨l2,h2,rfl⟩:=Bu.1 h;rw[Ama h2];have e:((UInt8.ofNat n.toNat).toNat:Int)=n:=by rw[UInt8.toNat_ofNat'];omega
   show _=[V.int .u8 ((UInt8.ofNat n.toNat).toNat:Int)]::Bs l2;rw[e]
  .cases h
def A1w{m:Nat}{y:V}{u:Value}{ys:List (List V)}(qN:0<m)(hy:RepV γ w y u)(hI:Inv G N γ σ w)(qr:Ea σ m y=some ys)(qw:∀ i,i<ys.length->(ys.getD i []).length=m):
  (ys=[]/\u=.slice none 0 0)\/∃ ad c news,u=.slice (some ad) ys.length c/\ys.length<=maxLen/\CellsIn γ w ys.flatten news/\∀ j u,news[j]?=some u->w.cell? (ad.add j)=some u:=by
 unfold Ea at qr
 split at qr
 .cases qr;exact .inl ⟨rfl,Jr (Az rfl hy)⟩
 .rename_i t' wa;cases qr;obtain⟨ad,c,hu,hR,_⟩:=Pk (Az rfl hy);obtain⟨news,h1,h2⟩:=Agb qN qw hR;refine .inr ⟨ad,c,news,hu,?_,h1,h2⟩
  cases hR with
  | lst row h1 h2 h3 h4 h5 h6 h7=>omega
 .rename_i i g off len m' own
  split at qr
  .rename_i cs ee g' z qI
   split at qr
   .rename_i hc;obtain⟨rfl,rfl,qM⟩:=hc;cases qr;obtain⟨blk,cap,o',hb,hu,ju,_,jm,kY⟩:=Yt (o':=0) hI (Az rfl hy) (by simp[Nj,qI]);obtain⟨_,_,_,us,lo,hi,g1,_,g2,g3⟩:=hI.obj i _ _ qI hb;have g1:w.heap[blk]?=some (.cells us ee (lo,hi)):=g1;refine .inr ⟨⟨blk,o',none⟩,cap,(us.toList.drop off).take (len*m),by rw[hu,Yb],by rw[Yb];omega,⟨?_,fun j hj=>?_⟩,fun j u hj=>?_⟩
    .rw[X3 _ _ _ (by simp;omega)];simp;omega
    .rw[X3 _ _ _ (by simp;omega)]at hj ⊢;have qA:j<len*m/\off+j<cs.length:=by simp at hj;omega
     have:=g3 (off+j) qA.2;simpa[Av,F5,Hx,qA.1,Array.getD_eq_getD_getElem?] using this
    .have qF:j<len*m:=by have:=(Ak.1 hj).1;simp at this;omega
     have kB:0<len:=by
      rcases Sj len with h | h
      .rw[h]at qF;simp at qF
      .exact h
     rw[ju (by omega),K1];rw[F5,if_pos qF,Hx,Array.getElem?_toList]at hj;simpa[World.cell?,g1] using hj
   .cases qr
  .cases qr
 .cases qr
def A5k{t1 t2 el:TypeId}{x:Operand}{s:S}(ho:o.op=.convert t1 t2 x)(h1:P.underlying t1=some (.slice el))(he:P.underlying el=some (.int .u8))(h2:P.underlying t2=some .string)(hx:RepV γ w (Ab e s) (a.eval x))(hI:Inv G N γ σ w)
  (h:Ae (.bts s) e σ=some (v,σ1)):Cp P G N γ σ w ((execOp a.eval o).run P w) v σ1:=by
 simp only[Ae,Ef,Bu]at h;obtain⟨ys,qr,l,hl,hv⟩:=h;cases hv;obtain rfl:=Ama hl;have hn:(Bs l).length=l.length:=U7 l;have qw:∀ i,i<(Bs l).length->((Bs l).getD i []).length=1:=fun i hi=>by rw[Axh l i (by omega)];rfl
 rcases A1w (by omega) hx hI qr qw with⟨h0,hu⟩ | ⟨ad,c,news,hu,hm,⟨n1,n2⟩,n3⟩
 .obtain rfl:l=[]:=Afo (by rw[<-hn,h0];rfl);refine Cg hI (u:=.string ⟨[].toArray⟩) ?_ (Ys (Au _));have:=run_convert_bytes_nil (P:=P) w t1 el h1 he 0 0 t2 h2;simp only[execOp,ho,hu,Sem.run_bind,this,Result.andThen_ok,Sem.run_pure];rfl
 .rw[Aba]at n1 n2
  have qT:news=(l.map fun c=>(c.toNat:Int)).map (Value.int .u8):=by
   apply So;intro j;rcases Be j l.length with hj | hj
   .have hr:=n2 j (by simpa using hj);have kw:j<news.length:=by rw[<-n1];simpa using hj
    simp only[Av,Aj,Bc hj,Bc kw,Gb,Xq]at hr ⊢;rw[Er hr]
   .rw[O8 (by rw[<-n1];simpa using hj),O8 (by simpa using hj)]
  have jN:(loadCells ad l.length).run P w=.ok ((l.map fun c=>(c.toNat:Int)).map (Value.int .u8)).toArray w:=by
   have:=run_loadCells_list (P:=P) (w:=w) ad news n3;rw[qT]at this;simpa using this
  have jx:=run_bytesToString (P:=P) w ad l.length c (l.map fun c=>(c.toNat:Int)) jN;rw[foldl_push_bytes]at jx
  have hs:(⟨ByteArray.empty.data++((l.map fun c=>(c.toNat:Int)).map fun n=>UInt8.ofNat n.toNat).toArray⟩:ByteArray)=⟨l.toArray⟩:=by
   apply ByteArray.ext;apply Array.toList_inj.1;rw[Na];have:((fun n:Int=>UInt8.ofNat n.toNat) ∘ fun c:UInt8=>(c.toNat:Int))=id:=by funext c;simp
   rw[this];simp
  rw[hs]at jx;refine Cg hI (u:=.string ⟨l.toArray⟩) ?_ (Ys (by omega));have hc:=run_convert_bytes_string (P:=P) w t1 t2 el (some ad) l.length c h1 he h2;rw[hn]at hu;simp only[execOp,ho,hu,Sem.run_bind,hc,jx,Result.andThen_ok,Sem.run_pure]
/-! strings to bytes -/
def Axg(w:World)(el:TypeId)(s:ByteArray):Lib.bytesWorld w el s=w.drew.alloc (.cells (Lib.bytesCells w el s) el ((Lib.bytesCells w el s).size,(Lib.bytesCells w el s).size+1)):=by
 have hh:(Lib.bytesWorld w el s).heap=(w.drew.alloc (.cells (Lib.bytesCells w el s) el ((Lib.bytesCells w el s).size,(Lib.bytesCells w el s).size+1))).heap:=by
  apply Array.ext_getElem?;intro j;rcases Sn j w.heap.size with hj | hj | hj
  .rw[Lib.bytesWorld_at_old w el s j hj];exact(Below.heap_alloc w.drew _ j hj).symm
  .subst hj;rw[Lib.bytesWorld_at_new];exact(heap_alloc_new w.drew _).symm
  .rw[Array.getElem?_eq_none (by rw[Lib.bytesWorld_size];omega),Array.getElem?_eq_none (by show(w.heap.push _).size<=j;simp;omega)]
 have:Lib.bytesWorld w el s={ w.drew.alloc (.cells (Lib.bytesCells w el s) el ((Lib.bytesCells w el s).size,(Lib.bytesCells w el s).size+1)) with heap:=(Lib.bytesWorld w el s).heap }:=rfl;rw[this,hh]
def A5l{t1 t2 el:TypeId}{x:Operand}{s:S}(ho:o.op=.convert t1 t2 x)(h1:P.underlying t1=some .string)(h2:P.underlying t2=some (.slice el))(he:P.underlying el=some (.int .u8))(hx:RepV γ w (Ab e s) (a.eval x))(hI:Inv G N γ σ w)
  (h:Ae (.stb el s) e σ=some (v,σ1)):Cp P G N γ σ w ((execOp a.eval o).run P w) v σ1:=by
 simp only[Ae]at h
 split at h
 .rename_i l e1;rw[e1]at hx;cases h;obtain⟨hv,hl⟩:=Gi (Az rfl hx);have vD:=grownCap_ge w l.length 0 el;have qM:=grownCap_le_maxLen w l.length 0 el hl
  have jX:(Lib.bytesCells w el ⟨l.toArray⟩).size=grownCap w l.length 0 el:=by
   simp only[Lib.bytesCells,Array.size_append,Array.size_map,Array.size_replicate,Jt]
   simp<;>omega
  have hr:(execOp a.eval o).run P w=.ok (.value (.slice (some ⟨w.heap.size,0,none⟩) l.length (grownCap w l.length 0 el))) (w.drew.alloc (.cells (Lib.bytesCells w el ⟨l.toArray⟩) el ((Lib.bytesCells w el ⟨l.toArray⟩).size,(Lib.bytesCells w el ⟨l.toArray⟩).size+1))):=by
   have:=Lib.run_convert_string_bytes (P:=P) w t1 t2 el ⟨l.toArray⟩ h1 h2 he;rw[Jt,Axg]at this;simp only[execOp,ho,hv,Sem.run_bind,this,Result.andThen_ok,Sem.run_pure]
  generalize kO:Lib.bytesCells w el ⟨l.toArray⟩=us at hr jX;obtain⟨d1,d2⟩:=hI.drew
  obtain⟨i1,i2⟩:=d1.newOb (.cells us el (us.size,us.size+1)) (.row (Bs l).flatten el 0 0) (Iz γ.κ w.heap.size 0) (fun b hb=>Me _ _ (by have:b<w.heap.size:=hb;omega)) (Ya (fun b k hk=>by have:=hI.dom b k hk;show b<w.heap.size+1;omega) (by show w.heap.size<w.heap.size+1;omega)) fun hx=>
   ⟨rfl,S4 _ _ _,Au _,us,us.size,us.size+1,heap_alloc_new w.drew _,⟨Nat.le_succ _,.inr (Ai _)⟩,by rw[Aba];simp;omega,fun j hj=>by
    have qA:j<l.length:=by rw[Aba]at hj;simpa using hj
    obtain⟨_,g⟩:=Al9 (γ:=γ) (w:=w.drew) l;have g':=g j hj
    have e2:us.getD j undef=(Lib.strCells ⟨l.toArray⟩).getD j undef:=by
     rw[<-kO];simp[Lib.bytesCells,Lib.strCells,Array.getD_eq_getD_getElem?,Av,Array.getElem?_append,qA]
    rw[e2]
    exact g'.ext hx⟩
  refine⟨_,_,_,.inl hr,C1 (Adf ?_ ?_ vD qM),i1,d2.trans i2,Afy hI.base,fun b hb=>Me _ _ (by have:=hI.base;show b≠w.heap.size;omega)⟩
  .show(γ.O++_)[σ.length]?=_;rw[<-hI.len]
   simp<;>rfl
  .have:=Yc w.drew us el (us.size,us.size+1);rw[show w.drew.heap.size=w.heap.size from rfl]at this;rw[this,jX,X0]
 .cases h
open Go Go.RowKit
variable {P:Program} {G:List (Nat × List V)} {N:Nat} {γ:Gh} {σ σ1:St} {w:World} {e:Env} {a:Act} {o:Oper} {v:V}
def Axe{t:TypeId}(ht:P.underlying t=some .bool)(p q:Bool):(Op.equal t (.bool p) (.bool q)).run P w=.ok (p==q) w:=
 have h:∀ d,(Op.equalIn (d+1) t (.bool p) (.bool q)).run P w=.ok (p==q) w:=fun d=>by simp[Op.equalIn,run_underlying ht]
 h 9999
def Afz{t el:TypeId}(ht:P.underlying t=some (.slice el))(n c:Nat)(b:Option Addr)(n' c':Nat):(Op.equal t (.slice none n c) (.slice b n' c')).run P w=.ok b.isNone w:=
 have h:∀ d,(Op.equalIn (d+1) t (.slice none n c) (.slice b n' c')).run P w=.ok b.isNone w:=fun d=>by simp[Op.equalIn,run_underlying ht]
 h 9999
def Al0{t el:TypeId}(ht:P.underlying t=some (.slice el))(n c:Nat)(b:Addr)(n' c':Nat):(Op.equal t (.slice (some b) n' c') (.slice none n c)).run P w=.ok false w:=
 have h:∀ d,(Op.equalIn (d+1) t (.slice (some b) n' c') (.slice none n c)).run P w=.ok false w:=fun d=>by simp[Op.equalIn,run_underlying ht]
 h 9999
def Af5{t el:TypeId}(ht:P.underlying t=some (.pointer el))(b:Option Addr):(Op.equal t (.pointer none) (.pointer b)).run P w=.ok b.isNone w:=
 have h:∀ d,(Op.equalIn (d+1) t (.pointer none) (.pointer b)).run P w=.ok b.isNone w:=fun d=>by simp[Op.equalIn,run_underlying ht]
 h 9999
def Al1{t el:TypeId}(ht:P.underlying t=some (.pointer el))(b:Addr):(Op.equal t (.pointer (some b)) (.pointer none)).run P w=.ok false w:=
 have h:∀ d,(Op.equalIn (d+1) t (.pointer (some b)) (.pointer none)).run P w=.ok false w:=fun d=>by simp[Op.equalIn,run_underlying ht]
 h 9999
def Yw{ql:Bool}{t ty:TypeId}{x y:Operand}{z:Bool}(ho:o.op=.binOp (if ql then .neq else .eql) t x y ty)(hg:(eqGuard (if ql then .neq else .eql) t x y (a.eval x) (a.eval y)).run P w=.ok () w)
  (hb:(binOp .eql t (a.eval x) (a.eval y))=(do pure (.bool (<-Op.equal t (a.eval x) (a.eval y))))) (vu:(binOp .neq t (a.eval x) (a.eval y))=(do pure (.bool (!(<-Op.equal t (a.eval x) (a.eval y))))))
  (hr:(Op.equal t (a.eval x) (a.eval y)).run P w=.ok z w):(execOp a.eval o).run P w=.ok (.value (.bool (z != ql))) w:=by
 cases ql
 .simp only[F6,if_false]at ho hg;simp[execOp,ho,hg,hb,hr]
 .simp only[if_true]at ho hg;simp[execOp,ho,hg,vu,hr]
def Rk(P:Program)(t:TypeId)(k:Nat):Bool:=match P.underlying t,k with
 | some .bool,0 | some (.int _),1 | some .string,2=>true
 | _,_=>false
def Wb(P:Program):List Field->Nat->List Nat->Bool
 | [],_,[]=>true
 | f::fs,k,c::ks=>f.offset==k&&(f.name != "_"&&(Rk P f.type c&&Wb P fs (k+1) ks))
 | _,_,_=>false
def Ab4{t:TypeId}{c:Nat}(h:Rk P t c=true){us:Array Value}{k:Nat}{u:Value}(hu:us[k]?=some u):(part t us k).run P w=.ok u w:=by
 unfold Rk at h
 have key:∀ d,P.underlying t=some d->Nw d=false->(part t us k).run P w=.ok u w:=fun d hd ha=>by
  have:=Agx (P:=P) (w:=w) hd;rw[ha]at this;simp[part,this,hu]
 split at h
 .rename_i hd;exact key _ hd rfl
 .rename_i hd;exact key _ hd rfl
 .rename_i hd;exact key _ hd rfl
 .cases h
def Ark{t:TypeId}{c:Nat}(h:Rk P t c=true){x y:V}{z:Bool}{u u':Value}(hu:RepC γ w x u)(qZ:RepC γ w y u')(hz:eqS c x y=some z)(d:Nat):(Op.equalIn (d+1) t u u').run P w=.ok z w:=by
 unfold Rk at h;unfold eqS at hz
 split at hz
 .cases hz;rw[Ph hu,Ph qZ]
  split at h
  .rename_i hd _;simp[Op.equalIn,run_underlying hd]
  .rename_i hc;cases hc
  .rename_i hc;cases hc
  .cases h
 .split at hz
  .rename_i hk;subst hk;cases hz;rw[Er hu,Er qZ]
   split at h
   .rename_i hc;cases hc
   .rename_i hd _;simp[Op.equalIn,run_underlying hd]
   .rename_i hc;cases hc
   .cases h
  .cases hz
 .rename_i l l';cases hz;rw[(Gi hu).1,(Gi qZ).1]
  split at h
  .rename_i hc;cases hc
  .rename_i hc;cases hc
  .rename_i hd _;simp only[Op.equalIn,run_underlying hd,Sem.run_bind,Result.andThen_ok,Sem.run_pure,beq_toListBytes,ByteArray.toList_eq]
  .cases h
 .cases hz
def Anl{d:Nat}:∀ {fs:List Field} {k:Nat} {ks:List Nat} {as bs:List V} {us vs:Array Value} {z:Bool},Wb P fs k ks=true->K7 ks as bs=some z->(∀ j,j<ks.length->∃ u,us[k+j]?=some u/\RepC γ w (as.getD j .und) u)->(∀ j,j<ks.length->∃ u,vs[k+j]?=some u/\RepC γ w (bs.getD j .und) u) ->
  (Op.eqFields (d+1) us vs fs).run P w=.ok z w
 | [],k,[],as,bs,us,vs,z,_,h,_,_=>by
  cases as<;>cases bs<;>simp[K7]at h
  subst h;rfl
 | f::fs,k,c::ks,as,bs,us,vs,z,qa,h,ha,hb=>by
  simp only[Wb,Af,beq_iff_eq,bne_iff_ne]at qa;obtain⟨h1,h2,h3,h4⟩:=qa
  cases as with
  | nil=>simp[K7]at h
  | cons x r=>
  cases bs with
  | nil=>simp[K7]at h
  | cons y s=>
  obtain⟨u,hu,kJ⟩:=ha 0 (by simp);obtain⟨u',qZ,jw⟩:=hb 0 (by simp);simp only[K7,Ef]at h;obtain⟨z1,kR,h⟩:=h;have e1:=Ark (P:=P) h3 kJ jw kR d;have p1:=Ab4 (P:=P) (w:=w) h3 (us:=us) (k:=f.offset) (by rw[h1];exact hu);have p2:=Ab4 (P:=P) (w:=w) h3 (us:=vs) (k:=f.offset) (by rw[h1];exact qZ);unfold Op.eqFields;simp only[ne_eq,h2,not_false_eq_true,if_true,Sem.run_bind,p1,p2,Result.andThen_ok,e1]
  cases z1 with
  | false=>
   simp at h;subst h;simp
  | true=>
   simp only[if_true]at h
   have ih:=Anl (d:=d) (us:=us) (vs:=vs) h4 h (fun j hj=>by
    have:=ha (j+1) (by simpa using hj);rw[show k+(j+1)=k+1+j by omega]at this
    simpa using this) (fun j hj=>by
    have:=hb (j+1) (by simpa using hj);rw[show k+(j+1)=k+1+j by omega]at this
    simpa using this)
   simp[ih]
 | [],_,_::_,_,_,_,_,_,h,_,_,_=>by simp[Wb]at h
 | _::_,_,[],_,_,_,_,_,h,_,_,_=>by simp[Wb]at h
def Ao9{d c:Nat}{el:TypeId}{us vs:Array Value}(h1:Rk P el c=true):∀ (m k:Nat) (as bs:List V) (z:Bool),K7 (List.replicate m c) as bs=some z->(∀ j,j<m->∃ u,us[k+j]?=some u/\RepC γ w (as.getD j .und) u)->(∀ j,j<m->∃ u,vs[k+j]?=some u/\RepC γ w (bs.getD j .und) u) ->
  (forIn (List.range' k m) ((none,()):Option Bool × Unit) (fun i (_:Option Bool × Unit)=>do
   let x <-part el us (i*1)
   let y <-part el vs (i*1)
   let z <-Op.equalIn (d+1) el x y
   if(!z)=true then pure (ForInStep.done (some false,())) else pure (ForInStep.yield (none,())):Nat->Option Bool × Unit->Sem (ForInStep (Option Bool × Unit)))).run P w=.ok (if z=true then(none,()) else(some false,())) w
 | 0,k,as,bs,z,h,_,_=>by
  cases as<;>cases bs<;>simp[K7]at h
  subst h;simp
 | m+1,k,as,bs,z,h,ha,hb=>by
  rw[Xj]at h
  cases as with
  | nil=>simp[K7]at h
  | cons x r=>
  cases bs with
  | nil=>simp[K7]at h
  | cons y s=>
  obtain⟨u,hu,kJ⟩:=ha 0 (by omega);obtain⟨u',qZ,jw⟩:=hb 0 (by omega);simp only[K7,Ef]at h;obtain⟨z1,kR,h⟩:=h;have e1:=Ark (P:=P) h1 kJ jw kR d;have p1:=Ab4 (P:=P) (w:=w) h1 (us:=us) (k:=k) hu;have p2:=Ab4 (P:=P) (w:=w) h1 (us:=vs) (k:=k) qZ;rw[Aa5,List.forIn_cons];simp only[Sem.run_bind,X0,p1,p2,Result.andThen_ok,e1]
  cases z1 with
  | false=>
   simp at h;subst h;simp
  | true=>
   simp only[if_true]at h
   have ih:=Ao9 (d:=d) h1 m (k+1) r s z h (fun j hj=>by
    have:=ha (j+1) (by omega);rw[show k+(j+1)=k+1+j by omega]at this
    simpa using this) (fun j hj=>by
    have:=hb (j+1) (by omega);rw[show k+(j+1)=k+1+j by omega]at this
    simpa using this)
   simp only[X0]at ih;simp only[Ay,F6,if_false,Sem.run_pure,Result.andThen_ok];exact ih
def A9n{d n c:Nat}{t el:TypeId}{fi:TypeInfo}{us vs:Array Value}{as bs:List V}{z:Bool}(ht:P.underlying t=some (.array n el))(qj:P.info? el=some fi)(hs:fi.size=1)(h1:Rk P el c=true)(h:K7 (List.replicate n c) as bs=some z)
  (ha:∀ j,j<n->∃ u,us[j]?=some u/\RepC γ w (as.getD j .und) u) (hb:∀ j,j<n->∃ u,vs[j]?=some u/\RepC γ w (bs.getD j .und) u):(Op.equalIn (d+2) t (.agg us) (.agg vs)).run P w=.ok z w:=by
 rw[Op.equalIn];simp only[Sem.run_bind,run_underlying ht,Result.andThen_ok,sizeOf,typeInfo];simp only[run_program,Result.andThen_ok,qj,Sem.run_pure,hs];rw[Std.Legacy.Range.forIn_eq_forIn_range'];have:=Ao9 (d:=d) h1 n 0 as bs z h (fun j hj=>by simpa using ha j hj) (fun j hj=>by simpa using hb j hj);simp[Std.Legacy.Range.size]at this ⊢;rw[this]
 cases z<;>simp
def Acq:Operand->Bool
 | .const _=>true
 | _=>false
def Akt(P:Program)(k:EqK)(t:TypeId)(x y:Operand):Bool:=
 match k,P.underlying t with
 | .bool,some .bool=>true
 | .nilsl,some (.slice _)=>true
 | .nilpt,some (.pointer _)=>true
 | .nilfn,some (.func _ _ _)=>true
 | .nilif,some (.interface _)=>Acq x||Acq y
 | .flat ks,some (.struct fs)=>Wb P fs.toList 0 ks&&(!P.stoodInHeld t&&!P.eqGuardType P.depth t)
 | .flat ks,some (.array n el)=>ks==List.replicate n (ks.headD 1)&&(Rk P el (ks.headD 1)&&((match P.info? el with
  | some fi=>fi.size==1
  | none=>false)&&!P.eqGuardType P.depth t))
 | _,_=>false
def A9o{k:EqK}{ql:Bool}{t ty:TypeId}{x y:Operand}{s1 s2:S}(ho:o.op=.binOp (if ql then .neq else .eql) t x y ty)(hk:Akt P k t x y=true)(hx:RepV γ w (Ab e s1) (a.eval x))(hy:RepV γ w (Ab e s2) (a.eval y))(hI:Inv G N γ σ w)
  (h:Ae (.eq k ql s1 s2) e σ=some (v,σ1)):Cp P G N γ σ w ((execOp a.eval o).run P w) v σ1:=by
 simp only[Ae,Bu]at h;obtain⟨z,h,h2⟩:=h
 .cases h2
  have qt:∀ b n c b' n' c',a.eval x=.slice b n c->a.eval y=.slice b' n' c'->(Op.equal t (.slice b n c) (.slice b' n' c')).run P w=.ok z w->Cp P G N γ σ w ((execOp a.eval o).run P w) (.bool (z != ql)) σ:=fun b n c b' n' c' qk qB hr=>by
   refine Cg hI (Yw (z:=z) ho ?_ ?_ ?_ ?_) Og<;>rw[qk,qB]
   .cases ql<;>simp[eqGuard]
   .rfl
   .rfl
   .exact hr
  have jb:∀ b b',a.eval x=.pointer b->a.eval y=.pointer b'->(Op.equal t (.pointer b) (.pointer b')).run P w=.ok z w->Cp P G N γ σ w ((execOp a.eval o).run P w) (.bool (z != ql)) σ:=fun b b' qk qB hr=>by
   refine Cg hI (Yw (z:=z) ho ?_ ?_ ?_ ?_) Og<;>rw[qk,qB]
   .cases ql<;>simp[eqGuard]
   .rfl
   .rfl
   .exact hr
  have vq:∀ {s:S} {X:Value} {i g off len m:Nat} {own:Bool},Ab e s=.sl i g off len m own->RepV γ w (Ab e s) X->∃ ad cap,X=.slice (some ad) len cap:=fun {s X i g off len m own} e1 hX=>by
   rw[e1]at hX;obtain⟨b',o',cap,_,_,hu,_⟩:=Vz (Az rfl hX);exact⟨_,_,hu⟩
  have vp:∀ {s:S} {X:Value} {i g off:Nat},Ab e s=.ptr i g off->RepV γ w (Ab e s) X->∃ ad,X=.pointer (some ad):=fun {s X i g off} e1 hX=>by
   rw[e1]at hX;obtain⟨b',_,_,hu,_⟩:=Of (Az rfl hX);exact⟨_,hu⟩
  unfold Akt at hk
  split at hk
  .rename_i ht;simp only[M0]at h;unfold eqB at h
   split at h
   .rename_i p q e1 e2;rw[e1]at hx;rw[e2]at hy;have qk:=Ph (Az rfl hx);have qB:=Ph (Az rfl hy);cases h
    refine Cg hI (Yw (z:=p==q) ho ?_ ?_ ?_ ?_) Og<;>rw[qk,qB]
    .cases ql<;>simp[eqGuard]
    .rfl
    .rfl
    .exact Axe ht p q
   .cases h
  .rename_i el ht;simp only[M0]at h;unfold Ako at h
   split at h
   .rename_i e1 e2;rw[e1]at hx;rw[e2]at hy;cases h;exact qt _ _ _ _ _ _ (Jr (Az rfl hx)) (Jr (Az rfl hy)) (Afz ht _ _ _ _ _)
   .rename_i e1 e2;rw[e1]at hx;rw[e2]at hy;obtain⟨ad,cap,hu,_⟩:=Pk (Az rfl hy);cases h;exact qt _ _ _ _ _ _ (Jr (Az rfl hx)) hu (Afz ht _ _ _ _ _)
   .rename_i e1 e2;rw[e1]at hx;rw[e2]at hy;obtain⟨ad,cap,hu,_⟩:=Pk (Az rfl hx);cases h;exact qt _ _ _ _ _ _ hu (Jr (Az rfl hy)) (Al0 ht _ _ _ _ _)
   .rename_i e1 e2;obtain⟨ad,cap,hu⟩:=vq e2 hy;rw[e1]at hx;cases h;exact qt _ _ _ _ _ _ (Jr (Az rfl hx)) hu (Afz ht _ _ _ _ _)
   .rename_i e1 e2;obtain⟨ad,cap,hu⟩:=vq e1 hx;rw[e2]at hy;cases h;exact qt _ _ _ _ _ _ hu (Jr (Az rfl hy)) (Al0 ht _ _ _ _ _)
   .cases h
  .rename_i el ht;simp only[M0]at h;unfold Akp at h
   split at h
   .rename_i e1 e2;rw[e1]at hx;rw[e2]at hy;cases h;exact jb _ _ (S6 (Az rfl hx)) (S6 (Az rfl hy)) (Af5 ht _)
   .rename_i e1 e2;obtain⟨ad,hu⟩:=vp e2 hy;rw[e1]at hx;cases h;exact jb _ _ (S6 (Az rfl hx)) hu (Af5 ht _)
   .rename_i e1 e2;obtain⟨ad,hu⟩:=vp e1 hx;rw[e2]at hy;cases h;exact jb _ _ hu (S6 (Az rfl hy)) (Al1 ht _)
   .rename_i e1 e2;rw[e1]at hx;rw[e2]at hy;obtain⟨_,_,_,_,hu,_⟩:=Mg (Az rfl hy);cases h;exact jb _ _ (S6 (Az rfl hx)) hu (Af5 ht _)
   .rename_i e1 e2;rw[e1]at hx;rw[e2]at hy;obtain⟨_,_,_,_,hu,_⟩:=Mg (Az rfl hx);cases h;exact jb _ _ hu (S6 (Az rfl hy)) (Al1 ht _)
   .cases h
  .rename_i ps rs va ht;have vB:∀ d,(Op.equalIn (d+1) t .nilFunc .nilFunc).run P w=.ok true w:=fun d=>by simp[Op.equalIn,run_underlying ht]
   have kn:∀ d f p q,(Op.equalIn (d+1) t (.func f p q) .nilFunc).run P w=.ok false w:=fun d f p q=>by simp[Op.equalIn,run_underlying ht]
   have ko:∀ d f p q,(Op.equalIn (d+1) t .nilFunc (.func f p q)).run P w=.ok false w:=fun d f p q=>by simp[Op.equalIn,run_underlying ht]
   have jj:∀ X Y,a.eval x=X->a.eval y=Y->(eqGuard (if ql then .neq else .eql) t x y X Y).run P w=.ok () w->(binOp .eql t X Y)=(do pure (.bool (<-Op.equal t X Y)))->(binOp .neq t X Y)=(do pure (.bool (!(<-Op.equal t X Y))))->(Op.equal t X Y).run P w=.ok z w->Cp P G N γ σ w ((execOp a.eval o).run P w) (.bool (z != ql)) σ:=fun X Y qk qB q1 q2 q3 q4=>by
    subst qk qB;exact Cg hI (Yw (z:=z) ho q1 q2 q3 q4) Og
   simp only[M0]at h;unfold Akq at h
   split at h
   .rename_i e1 e2;rw[e1]at hx;rw[e2]at hy;cases h;exact jj _ _ (Abt (Az rfl hx)) (Abt (Az rfl hy)) (by cases ql<;>simp[eqGuard]) rfl rfl (vB 9999)
   .rename_i e1 e2;rw[e1]at hx;rw[e2]at hy;obtain⟨ua,uc,hu,_⟩:=Ah2 (Az rfl hx);cases h;exact jj _ _ hu (Abt (Az rfl hy)) (by cases ql<;>simp[eqGuard]) rfl rfl (kn 9999 _ _ _)
   .rename_i e1 e2;rw[e1]at hx;rw[e2]at hy;obtain⟨ua,uc,hu,_⟩:=Ah2 (Az rfl hy);cases h;exact jj _ _ (Abt (Az rfl hx)) hu (by cases ql<;>simp[eqGuard]) rfl rfl (ko 9999 _ _ _)
   .cases h
  .rename_i ms ht;have jC:∀ d,(Op.equalIn (d+1) t .nilIface .nilIface).run P w=.ok true w:=fun d=>by simp[Op.equalIn,run_underlying ht]
   have kr:∀ d f p,(Op.equalIn (d+1) t (.iface f p) .nilIface).run P w=.ok false w:=fun d f p=>by simp[Op.equalIn,run_underlying ht]
   have ku:∀ d f p,(Op.equalIn (d+1) t .nilIface (.iface f p)).run P w=.ok false w:=fun d f p=>by simp[Op.equalIn,run_underlying ht]
   have jj:∀ X Y,a.eval x=X->a.eval y=Y->(eqGuard (if ql then .neq else .eql) t x y X Y).run P w=.ok () w->(binOp .eql t X Y)=(do pure (.bool (<-Op.equal t X Y)))->(binOp .neq t X Y)=(do pure (.bool (!(<-Op.equal t X Y))))->(Op.equal t X Y).run P w=.ok z w->Cp P G N γ σ w ((execOp a.eval o).run P w) (.bool (z != ql)) σ:=fun X Y qk qB q1 q2 q3 q4=>by
    subst qk qB;exact Cg hI (Yw (z:=z) ho q1 q2 q3 q4) Og
   have jq:(eqGuard (if ql then .neq else .eql) t x y .nilIface .nilIface).run P w=.ok () w:=by
    simp only[Il]at hk;rcases hk with hk | hk
    .cases x<;>simp[Acq]at hk
     cases ql<;>simp[eqGuard]
    .cases y<;>simp[Acq]at hk
     cases ql<;>simp[eqGuard]
   simp only[M0]at h;unfold Akr at h
   split at h
   .rename_i e1 e2;rw[e1]at hx;rw[e2]at hy;cases h;exact jj _ _ (Abs (Az rfl hx)) (Abs (Az rfl hy)) jq rfl rfl (jC 9999)
   .rename_i e1 e2;rw[e1]at hx;rw[e2]at hy;obtain⟨ut,ux,hu⟩:=Ahh (Az rfl hx);cases h;exact jj _ _ hu (Abs (Az rfl hy)) (by cases ql<;>simp[eqGuard]) rfl rfl (kr 9999 _ _)
   .rename_i e1 e2;rw[e1]at hx;rw[e2]at hy;obtain⟨ut,ux,hu⟩:=Ahh (Az rfl hy);cases h;exact jj _ _ (Abs (Az rfl hx)) hu (by cases ql<;>simp[eqGuard]) rfl rfl (ku 9999 _ _)
   .cases h
  .rename_i ks fs ht;simp only[Af,K0]at hk;obtain⟨kx,jt,ky⟩:=hk;simp only[M0]at h;unfold Z7 at h
   split at h
   .rename_i as bs e1 e2;rw[e1]at hx;rw[e2]at hy;obtain⟨us,hu,vV,kN⟩:=Q1 hx;obtain⟨vs,hv,vW,kP⟩:=Q1 hy
    split at h
    .rename_i qv;have kZ:P.fieldsOf t=fs:=by simp[Program.fieldsOf,ht]
     have hf:=Anl (P:=P) (γ:=γ) (w:=w) (d:=9998) (us:=us.toArray) (vs:=vs.toArray) kx h (fun j hj=>by
      have qS:j<as.length:=by omega
      have:=kN j qS
      exact⟨us.getD j undef,by simp[Av,show j<us.length by omega],this⟩) (fun j hj=>by
      have qS:j<bs.length:=by omega
      have:=kP j qS
      exact⟨vs.getD j undef,by simp[Av,show j<vs.length by omega],this⟩)
     have hE:=run_equalIn_struct (P:=P) w 9999 t us.toArray vs.toArray (by rw[kZ];exact ht) jt;rw[kZ,hf]at hE;have hg:=run_eqGuard_agg (P:=P) w (if ql then .neq else .eql) t x y us.toArray vs.toArray ky;refine Cg hI (u:=.bool (z != ql)) ?_ Og;cases ql
     .simp only[F6,if_false]at ho hg;simp[execOp,ho,hu,hv,hg,run_eql_struct,hE]
     .simp only[if_true]at ho hg;simp[execOp,ho,hu,hv,hg,run_neq_struct,hE]
    .cases h
   .cases h
  .rename_i ks n el ht;simp only[Af,K0,beq_iff_eq]at hk;obtain⟨ve,kx,jt,ky⟩:=hk
   split at jt
   .rename_i fi qj;have hs:fi.size=1:=eq_of_beq jt;simp only[M0]at h;unfold Z7 at h
    split at h
    .rename_i as bs e1 e2;rw[e1]at hx;rw[e2]at hy;obtain⟨us,hu,vV,kN⟩:=Q1 hx;obtain⟨vs,hv,vW,kP⟩:=Q1 hy
     split at h
     .rename_i qv;have hn:ks.length=n:=by rw[ve,Se]
      rw[ve]at h
      have hE:=A9n (P:=P) (γ:=γ) (w:=w) (d:=9998) (us:=us.toArray) (vs:=vs.toArray) ht qj hs kx h (fun j hj=>by
       have qS:j<as.length:=by omega
       have:=kN j qS
       exact⟨us.getD j undef,by simp[Av,show j<us.length by omega],this⟩) (fun j hj=>by
       have qS:j<bs.length:=by omega
       have:=kP j qS
       exact⟨vs.getD j undef,by simp[Av,show j<vs.length by omega],this⟩)
      have hg:=run_eqGuard_agg (P:=P) w (if ql then .neq else .eql) t x y us.toArray vs.toArray ky;refine Cg hI (u:=.bool (z != ql)) ?_ Og;cases ql
      .simp only[F6,if_false]at ho hg;simp[execOp,ho,hu,hv,hg,run_eql_struct,hE]
      .simp only[if_true]at ho hg;simp[execOp,ho,hu,hv,hg,run_neq_struct,hE]
     .cases h
    .cases h
   .cases jt
  .cases hk
def A5m{f:Nat}{first qb:Array Operand}{as cs:List S}(ho:o.op=.makeFunc (.func f) first qb)(ha:as.length=first.toList.length/\∀ (i:Nat) s x,as[i]?=some s->first.toList[i]?=some x->RepV γ w (Ab e s) (a.eval x))(hc:cs.length=qb.toList.length/\∀ (i:Nat) s x,cs[i]?=some s->qb.toList[i]?=some x->RepV γ w (Ab e s) (a.eval x))(hI:Inv G N γ σ w)
  (h:Ae (.mkf f as cs) e σ=some (v,σ1)):Cp P G N γ σ w ((execOp a.eval o).run P w) v σ1:=by
 simp only[Ae]at h
 split at h
 .rename_i qz;simp only[Af]at qz;cases h
  have key:∀ {ss:List S} {xs:List Operand},(ss.length=xs.length/\∀ (i:Nat) s x,ss[i]?=some s->xs[i]?=some x->RepV γ w (Ab e s) (a.eval x))->(ss.map (Ab e)).all V.cellB=true->(ss.map (Ab e)).length=(xs.map a.eval).length/\∀ j,j<(ss.map (Ab e)).length->RepC γ w ((ss.map (Ab e)).getD j .und) ((xs.map a.eval).getD j undef):=fun {ss xs} hs jJ=>by
   refine⟨by simp[hs.1],fun j hj=>?_⟩;have qS:j<ss.length:=by simpa using hj
   have qJ:j<xs.length:=by omega
   have e1:(ss.map (Ab e)).getD j .und=Ab e ss[j]:=by simp[Av,qS]
   have e2:(xs.map a.eval).getD j undef=a.eval xs[j]:=by rw[Av,Aj,Bc qJ];rfl
   rw[e1,e2];exact Az (Bp.1 jJ _ (by simp only[Ct];exact⟨ss[j],Fy qS,rfl⟩)) (hs.2 j _ _ (Bc qS) (Bc qJ))
  obtain⟨a1,a2⟩:=key ha qz.1;obtain⟨c1,c2⟩:=key hc qz.2;refine Cg hI (u:=.func (.func f) (first.toList.map a.eval).toArray (qb.toList.map a.eval).toArray) ?_ (C1 (.fn a1 c1 a2 c2))
  have e1:(first.toList.map a.eval).toArray=first.map a.eval:=by apply Array.toList_inj.1;simp
  have e2:(qb.toList.map a.eval).toArray=qb.map a.eval:=by apply Array.toList_inj.1;simp
  rw[e1,e2];simp[execOp,ho,Instr.makeFunc]
 .cases h
open Go Go.RowKit
variable {P:Program} {G:List (Nat × List V)} {N:Nat} {γ:Gh} {σ σ1:St} {w:World} {e:Env} {a:Act} {o:Oper} {v:V}
def A5n{t:TypeId}(ho:o.op=.makeMap t none)(hI:Inv G N γ σ w)(h:Ae .mmk e σ=some (v,σ1)):Cp P G N γ σ w ((execOp a.eval o).run P w) v σ1:=by
 simp only[Ae]at h;cases h;obtain⟨i1,i2⟩:=hI.newMap;refine⟨.map (some w.heap.size),_,_,.inl ?_,C1 (.mp (g':=0) ?_ rfl (fun _=>rfl)),i1,i2,Agg hI.base,fun _ _=>rfl⟩
 .simp[execOp,ho,Instr.makeMap,newObj,Sem.run]
 .show(γ.O++[(w.heap.size,0)])[σ.length]?=_;rw[<-hI.len];simp
def Ahk{s:List UInt8}:∀ {kvs:List (List UInt8 × V)} {es:List MapEntry} {i:Nat},es.length=kvs.length->(∀ (j:Nat) (k:List UInt8) (v:V),kvs[j]?=some (k,v)->∃ en:MapEntry,es[j]?=some en/\en.key=.string ⟨k.toArray⟩/\RepC γ w v en.val) ->
  (Hb s kvs i=none/\Instr.findNow .string (.string ⟨s.toArray⟩) es i=some none)\/∃ j v en,Hb s kvs i=some (i+j,v)/\kvs[j]?=some (s,v)/\es[j]?=some en/\Instr.findNow .string (.string ⟨s.toArray⟩) es i=some (some (i+j,en.val))/\RepC γ w v en.val
 | [],[],i,_,_=>.inl ⟨rfl,rfl⟩
 | [],_::_,_,h,_=>by simp at h
 | _::_,[],_,h,_=>by simp at h
 | (k,v)::kvs,en::es,i,hl,hr=>by
  obtain⟨kU,h1,h2,h3⟩:=hr 0 k v rfl;simp at h1;subst h1
  have hb:((⟨s.toArray⟩:ByteArray)==⟨k.toArray⟩)=(s==k):=by
   rw[beq_toListBytes,ByteArray.toList_eq,ByteArray.toList_eq]
  by_cases hk:k=s
  .subst hk;refine .inr ⟨0,v,en,by simp[Hb],rfl,rfl,?_,h3⟩;simp only[Instr.findNow,h2,Instr.sameNow,hb,beq_self_eq_true,Ll]
  .have vH:(s==k)=false:=by simpa using fun h=>hk h.symm
   have ih:=Ahk (s:=s) (kvs:=kvs) (es:=es) (i:=i+1) (by simpa using hl) (fun j k' v' hj=>by simpa using hr (j+1) k' v' (by simpa using hj));have hf:Hb s ((k,v)::kvs) i=Hb s kvs (i+1):=by simp[Hb,hk]
   have hn:Instr.findNow .string (.string ⟨s.toArray⟩) (en::es) i=Instr.findNow .string (.string ⟨s.toArray⟩) es (i+1):=by
    simp only[Instr.findNow,h2,Instr.sameNow,hb,vH]
   rw[hf,hn];rcases ih with⟨a1,a2⟩ | ⟨j,v',kU,a1,a2,a3,a4,a5⟩
   .exact .inl ⟨a1,a2⟩
   .refine .inr ⟨j+1,v',kU,?_,by simpa using a2,by simpa using a3,?_,a5⟩
    .rw[a1];congr 2;omega
    .rw[a4];congr 3;omega
def Ab5{v:V}{u:Value}(hf:v.flatB=true)(h:RepC γ w v u)(γ':Gh)(w':World):RepC γ' w' v u:=by
 cases h with
 | row h=>cases h with
  | bool=>exact .row .bool
  | int=>exact .row .int
  | str h=>exact .row (.str h)
  | nili=>exact .row .nili
  | ifc=>exact .row .ifc
  | nils=>exact .row .nils
  | lst=>cases hf
 | nilp=>exact .nilp
 | nilf=>exact .nilf
 | ifc=>exact .ifc
 | imm=>cases hf
 | ptr=>cases hf
 | sl=>cases hf
 | fn=>cases hf
 | mp=>cases hf
def Abh{kt:TypeId}{k:Value}{l:List MapEntry}{r:Option (Nat × Value)}(hd:P.underlying kt=some .string)(h:Instr.findNow .string k l 0=some r):(Instr.findKey kt k l).run P w=.ok r w:=by
 simp[Instr.findKey,run_underlying hd,Result.andThen,h]
def R3(w:World)(r:Nat)(o:Obj):World:={ w with heap:=w.heap.setIfInBounds r o }
def Amn{r:Nat}{es:Array MapEntry}{jD:Nat}(o:Obj)(hb:w.heap[r]?=some (.map es jD)):(setObj r o).run P w=.ok () (R3 w r o):=by
 simp[setObj,Sem.run,hb,R3]
def A5o{t kt et:TypeId}{fi:TypeInfo}{z:Value}{zv:V}{x y:Operand}{s1 s2:S}(ho:o.op=.lookup t x y false)(ht:P.underlying t=some (.map kt et))(hk:P.underlying kt=some .string)(qj:P.info? et=some fi)(hz:fi.zero=some z)(hc:Nk zv z=true)
  (hx:RepV γ w (Ab e s1) (a.eval x)) (hy:RepV γ w (Ab e s2) (a.eval y)) (hI:Inv G N γ σ w) (h:Ae (.mlk zv s1 s2) e σ=some (v,σ1)):Cp P G N γ σ w ((execOp a.eval o).run P w) v σ1:=by
 simp only[Ae]at h
 split at h
 .rename_i i s e1 e2;rw[e1]at hx;rw[e2]at hy;obtain⟨qB,_⟩:=Gi (Az rfl hy);obtain⟨blk,g',hO,hu⟩:=Arf (Az rfl hx)
  split at h
  .rename_i kvs jM;cases h;obtain⟨kq,_,es,hh,jB,qL⟩:=hI.obj i _ _ jM hO;have qk:=hu kq;have hh:w.heap[blk]?=some (.map es kvs.length):=hh
   have qQ:∀ b,(Instr.checkKey b 10000 kt (.string ⟨s.toArray⟩)).run P w=.ok () w:=fun b=>by
    have:∀ d,(Instr.checkKey b (d+1) kt (.string ⟨s.toArray⟩)).run P w=.ok () w:=fun d=>by simp[Instr.checkKey,run_underlying hk]
    exact this 9999
   rcases Ahk (γ:=γ) (w:=w) (s:=s) (kvs:=kvs) (es:=es.toList) (i:=0) (by simpa using jB) (fun j k v hj=>by
    obtain⟨en,a1,a2,_,_,_,a6⟩:=qL j k v hj
    exact⟨en,by simpa using a1,a2,a6⟩) with⟨f1,f2⟩ | ⟨j,v',en,f1,f2,f3,f4,f5⟩
   .have hf:=Abh (P:=P) (w:=w) hk f2;rw[f1];refine Cg hI (u:=z) ?_ (C1 (Abk hc));simp[execOp,ho,qk,qB,Instr.lookup,run_underlying ht,getObj,Sem.run,hh];simp[qQ,hf,zeroValue,typeInfo,qj,hz]
   .have hf:=Abh (P:=P) (w:=w) hk f4;rw[f1];refine Cg hI (u:=en.val) ?_ (C1 f5);simp[execOp,ho,qk,qB,Instr.lookup,run_underlying ht,getObj,Sem.run,hh];simp[qQ,hf]
  .cases h
 .cases h
def A5p{t kt et:TypeId}{x y z:Operand}{s1 s2 s3:S}(ho:o.op=.mapUpdate t x y z)(ht:P.underlying t=some (.map kt et))(hk:P.underlying kt=some .string)
  (hx:RepV γ w (Ab e s1) (a.eval x)) (hy:RepV γ w (Ab e s2) (a.eval y)) (hz:RepV γ w (Ab e s3) (a.eval z)) (hI:Inv G N γ σ w) (h:Ae (.mup s1 s2 s3) e σ=some (v,σ1)):Cp P G N γ σ w ((execOp a.eval o).run P w) v σ1:=by
 simp only[Ae]at h
 split at h
 .rename_i i s e1 e2;rw[e1]at hx;rw[e2]at hy;obtain⟨qB,vj⟩:=Gi (Az rfl hy);obtain⟨blk,g',hO,hu⟩:=Arf (Az rfl hx)
  split at h
  .rename_i kvs jM
   split at h
   .rename_i qR
    cases h;have vl:RepC γ w (Ab e s3) (a.eval z):=Az (by revert qR;cases Ab e s3<;>simp[V.flatB,V.cellB]) hz;obtain⟨kq,_,es,hh,jB,qL⟩:=hI.obj i _ _ jM hO;have qk:=hu kq;have hh:w.heap[blk]?=some (.map es kvs.length):=hh;have qy:blk<w.heap.size:=(Array.getElem?_eq_some_iff.1 hh).1
    have qQ:∀ b,(Instr.checkKey b 10000 kt (.string ⟨s.toArray⟩)).run P w=.ok () w:=fun b=>by
     have:∀ d,(Instr.checkKey b (d+1) kt (.string ⟨s.toArray⟩)).run P w=.ok () w:=fun d=>by simp[Instr.checkKey,run_underlying hk]
     exact this 9999
    have jU:∀ ob,(R3 w blk ob).heap.size=w.heap.size/\(∀ b,b≠blk->(R3 w blk ob).heap[b]?=w.heap[b]?)/\(R3 w blk ob).heap[blk]?=some ob:=fun ob=>by
     refine⟨by simp[R3],fun b hb=>by simp[R3,Array.getElem?_setIfInBounds,Ne.symm hb],by simp[R3,qy]⟩
    rcases Ahk (γ:=γ) (w:=w) (s:=s) (kvs:=kvs) (es:=es.toList) (i:=0) (by simpa using jB) (fun j k v hj=>by
     obtain⟨en,a1,a2,_,_,_,a6⟩:=qL j k v hj
     exact⟨en,by simpa using a1,a2,a6⟩) with⟨f1,f2⟩ | ⟨j,v',en,f1,f2,f3,f4,f5⟩
    .have hf:=Abh (P:=P) (w:=w) hk f2;rw[f1];obtain⟨q1,q2,q3⟩:=jU (.map (es.push { key:=.string ⟨s.toArray⟩,val:=a.eval z,born:=kvs.length }) (kvs.length+1))
     obtain⟨i1,i2⟩:=hI.turnMap (kvs':=kvs++[(s,Ab e s3)]) (es':=es.push { key:=.string ⟨s.toArray⟩,val:=a.eval z,born:=kvs.length }) hO jM q1 q2 (by rw[q3];simp) (by simp[jB]) (fun j k v hj=>by
      by_cases qJ:j<kvs.length
      .rw[B6 qJ]at hj;obtain⟨en,a1,a2⟩:=qL j k v hj;exact⟨en,by rw[Array.getElem?_push_lt (by omega)];simpa[show j<es.size by omega] using a1,a2⟩
      .rw[Co (by omega)]at hj
       have vE:j=kvs.length:=by
        have:=(Ak.1 hj).1;simp at this;omega
       subst vE;simp at hj;obtain⟨rfl,rfl⟩:=hj
       exact⟨{ key:=.string ⟨s.toArray⟩,val:=a.eval z,born:=kvs.length },by rw[show kvs.length=es.size from jB.symm];simp,rfl,vj,rfl,qR,vl⟩)
     refine⟨undef,_,γ,.inr ⟨?_,rfl⟩,.und,i1,i2,⟨rfl,rfl,rfl,by rw[q1];exact Ai _,fun k hk=>q2 k (by have:=hI.low i _ hO;have:N<=blk:=this;omega)⟩,fun _ _=>rfl⟩;simp[execOp,ho,qk,qB,Instr.mapUpdate,run_underlying ht,getObj,Sem.run,hh];simp[qQ,hf,Amn _ hh]
    .have hf:=Abh (P:=P) (w:=w) hk f4;rw[f1];have qF:j<kvs.length:=(Ak.1 f2).1;obtain⟨kc,b1,b2,b3,b4,b5,b6⟩:=qL j s v' f2
     have vy:kc=en:=by
      have:es.toList[j]?=some kc:=by simpa using b1
      rw[f3]at this;cases this;rfl
     subst vy;obtain⟨q1,q2,q3⟩:=jU (.map (es.modify j fun en=>{ en with key:=.string ⟨s.toArray⟩,val:=a.eval z }) kvs.length)
     obtain⟨i1,i2⟩:=hI.turnMap (kvs':=kvs.set j (s,Ab e s3)) (es':=es.modify j fun en=>{ en with key:=.string ⟨s.toArray⟩,val:=a.eval z }) hO jM q1 q2 (by rw[q3];simp) (by simp[jB]) (fun j' k v hj=>by
      by_cases kv:j=j'
      .subst kv;rw[B5 qF]at hj;cases hj;exact⟨{ kc with key:=.string ⟨s.toArray⟩,val:=a.eval z },by simp[Array.getElem?_modify,b1],rfl,vj,b4,qR,vl⟩
      .rw[Bh kv]at hj;obtain⟨en,a1,a2⟩:=qL j' k v hj
       exact⟨en,by simp[Array.getElem?_modify,kv,a1],a2⟩)
     have f0:0+j=j:=E3 j;rw[f0]at hf;simp only[f0];refine⟨undef,_,γ,.inr ⟨?_,rfl⟩,.und,i1,i2,⟨rfl,rfl,rfl,by rw[q1];exact Ai _,fun k hk=>q2 k (by have:=hI.low i _ hO;have:N<=blk:=this;omega)⟩,fun _ _=>rfl⟩
     have kA:(Instr.keyThatStays (((es[j]?).map (·.key)).getD (.string ⟨s.toArray⟩)) (.string ⟨s.toArray⟩)).run P w=.ok (.string ⟨s.toArray⟩) w:=by
      rw[b1]
      have jT:Instr.sameBits 10000 (.string ⟨s.toArray⟩) (.string ⟨s.toArray⟩)=true:=by
       rw[Instr.sameBits];rw[beq_toListBytes];simp
      simp[b2,Instr.keyThatStays,jT]
     simp[execOp,ho,qk,qB,Instr.mapUpdate,run_underlying ht,getObj,Sem.run,hh];simp[qQ,hf,kA,Amn _ hh]
   .cases h
  .cases h
 .cases h
open Go Go.RowKit
variable {P:Program} {G:List (Nat × List V)} {N:Nat} {γ:Gh} {σ σ1:St} {w:World} {e:Env} {a:Act} {o:Oper} {v:V}
/-! The check -/
def Rd(P:Program)(zs:List V)(t:TypeId):Bool:=
 match P.info? t with
 | some i=>match i.zero with
  | some z=>H5 zs z.cells.toList
  | none=>false
 | none=>false
def Jx(P:Program)(t:TypeId)(n:Nat):Bool:=match P.info? t with
 | some i=>i.size==n
 | none=>false
def Va{zs:List V}{t:TypeId}(h:Rd P zs t=true):∃ fi z,P.info? t=some fi/\fi.zero=some z/\H5 zs z.cells.toList=true:=by
 unfold Rd at h
 split at h
 .rename_i fi qj
  split at h
  .rename_i z hz;exact⟨fi,z,qj,hz,h⟩
  .cases h
 .cases h
def Lm{t:TypeId}{n:Nat}(h:Jx P t n=true):∃ fi,P.info? t=some fi/\fi.size=n:=by
 unfold Jx at h
 split at h
 .rename_i fi qj;exact⟨fi,qj,eq_of_beq h⟩
 .cases h
def W2(G:List (Nat × List V))(qg:List (Nat × Nat)):List (Nat × Nat × S)->List (Nat × Operand)->Bool
 | [],[]=>true
 | p::ps,q::qs=>(match qg[q.1]? with
   | some (o,n)=>o==p.1&&n==p.2.1
   | none=>false)&&(B0 G p.2.2 q.2&&W2 G qg ps qs)
 | _,_=>false
def R4(G:List (Nat × List V)):List (Nat × S)->List (Nat × Operand)->Bool
 | [],[]=>true
 | p::ps,q::qs=>p.1==q.1&&(B0 G p.2 q.2&&R4 G ps qs)
 | _,_=>false
def Apa{qg:List (Nat × Nat)}:∀ {ps:List (Nat × Nat × S)} {qs:List (Nat × Operand)},W2 G qg ps qs=true->ps.length=qs.length/\∀ (i:Nat) (p:Nat × Nat × S) (q:Nat × Operand),ps[i]?=some p->qs[i]?=some q->qg[q.1]?=some (p.1,p.2.1)/\B0 G p.2.2 q.2=true
 | [],[],_=>⟨rfl,fun i p q h=>by simp at h⟩
 | p::ps,q::qs,h=>by
  simp only[W2,Af]at h;obtain⟨h1,h2,h3⟩:=h;obtain⟨l,g⟩:=Apa h3;refine⟨by simp[l],fun i p' q' hp hq=>?_⟩
  cases i with
  | zero=>
   simp at hp hq;subst hp hq
   split at h1
   .rename_i o n kI;simp only[Af,beq_iff_eq]at h1;exact⟨by rw[kI,h1.1,h1.2],h2⟩
   .cases h1
  | succ i=>exact g i p' q' (by simpa using hp) (by simpa using hq)
 | [],_::_,h=>by simp[W2]at h
 | _::_,[],h=>by simp[W2]at h
def Ab6:∀ {ps:List (Nat × S)} {qs:List (Nat × Operand)},R4 G ps qs=true->ps.length=qs.length/\∀ (i:Nat) (p:Nat × S) (q:Nat × Operand),ps[i]?=some p->qs[i]?=some q->p.1=q.1/\B0 G p.2 q.2=true
 | [],[],_=>⟨rfl,fun i p q h=>by simp at h⟩
 | p::ps,q::qs,h=>by
  simp only[R4,Af,beq_iff_eq]at h;obtain⟨h1,h2,h3⟩:=h;obtain⟨l,g⟩:=Ab6 h3;refine⟨by simp[l],fun i p' q' hp hq=>?_⟩
  cases i with
  | zero=>
   simp at hp hq;subst hp hq;exact⟨h1,h2⟩
  | succ i=>exact g i p' q' (by simpa using hp) (by simpa using hq)
 | [],_::_,h=>by simp[R4]at h
 | _::_,[],h=>by simp[R4]at h
def De(P:Program)(t:TypeId)(f:TypeDesc->Bool):Bool:=match P.underlying t with
 | some d=>f d
 | none=>false
def Dk{t:TypeId}{f:TypeDesc->Bool}(h:De P t f=true):∃ d,P.underlying t=some d/\f d=true:=by
 unfold De at h
 split at h
 .exact⟨_,by assumption,h⟩
 .cases h
def Ic:TypeDesc->Bool
 | .string=>true
 | _=>false
def Rl(k:IntKind):TypeDesc->Bool
 | .int k'=>decide (k=k')
 | _=>false
def W3(G:List (Nat × List V))(m:Nat):List (Nat × Nat × S)->List (Nat × Operand)->Bool
 | [],[]=>true
 | p::ps,q::qs=>q.1*m==p.1&&(m==p.2.1&&(B0 G p.2.2 q.2&&W3 G m ps qs))
 | _,_=>false
def Apb{m:Nat}:∀ {ps:List (Nat × Nat × S)} {qs:List (Nat × Operand)},W3 G m ps qs=true->ps.length=qs.length/\∀ (i:Nat) (p:Nat × Nat × S) (q:Nat × Operand),ps[i]?=some p->qs[i]?=some q->(q.1*m,m)=(p.1,p.2.1)/\B0 G p.2.2 q.2=true
 | [],[],_=>⟨rfl,fun i p q h=>by simp at h⟩
 | p::ps,q::qs,h=>by
  simp only[W3,Af,beq_iff_eq]at h;obtain⟨h1,h2,h3,h4⟩:=h;obtain⟨l,g⟩:=Apb h4;refine⟨by simp[l],fun i p' q' hp hq=>?_⟩
  cases i with
  | zero=>
   simp at hp hq;subst hp hq;exact⟨by rw[h1,h2],h3⟩
  | succ i=>exact g i p' q' (by simpa using hp) (by simpa using hq)
 | [],_::_,h=>by simp[W3]at h
 | _::_,[],h=>by simp[W3]at h
def Mv(G:List (Nat × List V)):List S->List Operand->Bool
 | [],[]=>true
 | s::ss,x::xs=>B0 G s x&&Mv G ss xs
 | _,_=>false
def Ab7(hE:RepE γ w e a.tmps)(hI:Inv G N γ σ w):∀ {ss:List S} {xs:List Operand},Mv G ss xs=true->ss.length=xs.length/\∀ (i:Nat) s x,ss[i]?=some s->xs[i]?=some x->RepV γ w (Ab e s) (a.eval x)
 | [],[],_=>⟨rfl,fun i s x h=>by simp at h⟩
 | s::ss,x::xs,h=>by
  simp only[Mv,Af]at h;obtain⟨l,g⟩:=Ab7 hE hI h.2;refine⟨by simp[l],fun i s' x' hs hx=>?_⟩
  cases i with
  | zero=>simp at hs hx;subst hs hx;exact Yr h.1 hE hI
  | succ i=>exact g i s' x' (by simpa using hs) (by simpa using hx)
 | [],_::_,h=>by simp[Mv]at h
 | _::_,[],h=>by simp[Mv]at h
def Aeb(P:Program)(f:TypeId->TypeId->Bool):TypeDesc->Bool
 | .map k e=>f k e
 | _=>false
def Ah4(P:Program)(z:V)(t:TypeId):Bool:=match P.info? t with
 | some i=>match i.zero with
  | some u=>Nk z u
  | none=>false
 | none=>false
def Axi{z:V}{t:TypeId}(h:Ah4 P z t=true):∃ fi u,P.info? t=some fi/\fi.zero=some u/\Nk z u=true:=by
 unfold Ah4 at h
 split at h
 .rename_i fi qj
  split at h
  .rename_i u hu;exact⟨fi,u,qj,hu,h⟩
  .cases h
 .cases h
def Arl(P:Program)(G:List (Nat × List V))(zs:List V)(ps:List (Nat × Nat × S))(t:TypeId)(qm:List (Nat × Operand)):TypeDesc->Bool
 | .struct fs=>match fs.toList.mapM (fun f=>(P.info? f.type).map fun i=>(f.offset,i.size)) with
  | some qg=>W2 G qg ps qm
  | none=>false
 | .array _ el=>match P.info? el with
  | some fe=>W3 G fe.size ps qm
  | none=>false
 | _=>false
def Au0(P:Program)(off i:Nat):TypeDesc->Bool
 | .struct fs=>match fs[i]? with
  | some f=>f.offset==off&&(match P.info? f.type with
   | some fi=>fi.size != 0
   | none=>false)
  | none=>false
 | _=>false
def Au1(P:Program)(off n:Nat)(one:Bool)(i:Nat):TypeDesc->Bool
 | .struct fs=>match fs[i]? with
  | some f=>f.offset==off&&(Jx P f.type n&&De P f.type (fun d=>Nw d==!one))
  | none=>false
 | _=>false
def Au2(P:Program)(len m:Nat)(one:Bool):TypeDesc->Bool
 | .array len' el=>len==len'&&(Jx P el m&&De P el (fun d=>Nw d==!one))
 | _=>false
def F3(P:Program)(f:TypeId->Bool):TypeDesc->Bool
 | .slice el=>f el
 | _=>false
def Aev(P:Program)(bytes m:Nat)(el:TypeId):Bool:=match P.info? el with
 | some fi=>fi.size==m&&(fi.bytes==bytes&&(decide (0<m)&&(decide (0<bytes)&&(match fi.zero with
  | some z=>z.cells.size==m
  | none=>false))))
 | none=>false
def W4(P:Program)(G:List (Nat × List V))(ao:AO)(op:Op):Bool:=
 match ao,op with
 | .mov s,.move x=>B0 G s x
 | .mov s,.assign x=>B0 G s x
 | .pick s1 s2 s3,.pick x y z=>B0 G s1 x&&(B0 G s2 y&&B0 G s3 z)
 | .new t' zs,.alloc t=>t'==t&&Rd P zs t
 | .box t' s,.box t x=>t'==t&&B0 G s x
 | .build zs ps,.build t qm=>Rd P zs t&&De P t (Arl P G zs ps t qm.toList)
 | .rows n zs ps,.buildSlice t n' qm=>n==n'&&(De P t (F3 P fun el=>Rd P zs el&&Jx P el zs.length)&&(decide (0<zs.length)&&(decide (n*zs.length<=16777216)&&R4 G ps qm.toList)))
 | .rowf n zs ps,.buildSlice t n' qm=>n==n'&&(De P t (F3 P fun el=>Rd P zs el&&Jx P el zs.length)&&(decide (0<zs.length)&&(decide (n*zs.length<=16777216)&&R4 G ps qm.toList)))
 | .rowo el' n zs ps,.buildSlice t n' qm=>n==n'&&(De P t (F3 P fun el=>el'==el&&(Rd P zs el&&Jx P el zs.length))&&(decide (0<zs.length)&&(decide (n*zs.length<=16777216)&&R4 G ps qm.toList)))
 | .mk el' bytes zs s1 s2,.makeSlice t x y=>B0 G s1 x&&(B0 G s2 y&&(decide (0<zs.length)&&De P t (F3 P fun el=>el'==el&&(Rd P zs el&&(Jx P el zs.length&&(match P.info? el with
  | some fi=>fi.bytes==bytes&&decide (0<bytes)
  | none=>false))))))
 | .load n one s,.load t x=>B0 G s x&&(Jx P t n&&De P t (fun d=>Nw d==!one))
 | .store n s1 s2,.store t x y=>B0 G s1 x&&(B0 G s2 y&&Jx P t n)
 | .chk s,.nilCheck x=>B0 G s x
 | .bin b s1 s2,.binOp b' _ x y _=>decide (b=b')&&(B0 G s1 x&&B0 G s2 y)
 | .eq k ql s1 s2,.binOp b' t x y _=>decide (b'=(if ql then BinOp.neq else BinOp.eql))&&(Akt P k t x y&&(B0 G s1 x&&B0 G s2 y))
 | .un b s,.unOp b' _ x=>decide (b=b')&&B0 G s x
 | .cvi k s,.convert t1 t2 x=>B0 G s x&&((P.underlying t1).isSome&&De P t2 (Rl k))
 | .cvs s,.convert t1 t2 x=>B0 G s x&&((P.underlying t1).isSome&&De P t2 Ic)
 | .cvl s,.convert t1 t2 x=>t1==t2&&(B0 G s x&&De P t1 (F3 P fun el=>De P el (Rl .u8)))
 | .bts s,.convert t1 t2 x=>B0 G s x&&(De P t2 Ic&&De P t1 (F3 P fun el=>De P el (Rl .u8)))
 | .stb el' s,.convert t1 t2 x=>B0 G s x&&(De P t1 Ic&&De P t2 (F3 P fun el=>el'==el&&De P el (Rl .u8)))
 | .sap n s,.sliceToArrayPointer t x=>B0 G s x&&De P t (fun d=>match d with
  | .array l _=>l==n
  | _=>false)
 | .slcs s lo hi,.slice t x lo' qE mx=>mx.isNone&&(B0 G s x&&(Ih G lo lo'&&(Ih G hi qE&&De P t Ic)))
 | .slc m s lo hi mx,.slice t x lo' qE mx'=>B0 G s x&&(Ih G lo lo'&&(Ih G hi qE&&(Ih G mx mx'&&((!mx.isSome||hi.isSome)&&(m != 0&&De P t (F3 P fun el=>Jx P el m))))))
 | .slca len m s lo hi,.slice t x lo' qE mx=>mx.isNone&&(B0 G s x&&(Ih G lo lo'&&(Ih G hi qE&&(decide (len<=16777216)&&De P t (fun d=>match d with
  | .array l el=>l==len&&Jx P el m
  | _=>false)))))
 | .mkf f as cs,.makeFunc (.func f') first qb=>f==f'&&(Mv G as first.toList&&Mv G cs qb.toList)
 | .mmk,.makeMap _ none=>true
 | .mlk z s1 s2,.lookup t x y false=>B0 G s1 x&&(B0 G s2 y&&De P t (Aeb P fun k el=>De P k Ic&&Ah4 P z el))
 | .mup s1 s2 s3,.mapUpdate t x y z=>B0 G s1 x&&(B0 G s2 y&&(B0 G s3 z&&De P t (Aeb P fun k _=>De P k Ic)))
 | .fld off n one s,.field t x i=>B0 G s x&&De P t (Au1 P off n one i)
 | .ida len m one s1 s2,.index t x y=>B0 G s1 x&&(B0 G s2 y&&De P t (Au2 P len m one))
 | .fad off s,.fieldAddr t x i=>B0 G s x&&De P t (Au0 P off i)
 | .iad m s1 s2,.indexAddr t x y=>B0 G s1 x&&(B0 G s2 y&&De P t (F3 P fun el=>Jx P el m))
 | .iar len m s1 s2,.indexAddr t x y=>B0 G s1 x&&(B0 G s2 y&&De P t (fun d=>match d with
  | .array l el=>l==len&&Jx P el m
  | _=>false))
 | .idx s1 s2,.index t x y=>B0 G s1 x&&(B0 G s2 y&&De P t Ic)
 | .ext i s,.extract x i'=>i==i'&&B0 G s x
 | .len s,.call { callee:=.builtin .len,args,argTypes }=>match args.toList,argTypes.toList with
  | [x],[t]=>B0 G s x&&De P t (F3 P fun _=>true)
  | _,_=>false
 | .lens s,.call { callee:=.builtin .len,args,argTypes }=>match args.toList,argTypes.toList with
  | [x],[t]=>B0 G s x&&De P t Ic
  | _,_=>false
 | .cap s,.call { callee:=.builtin .cap,args,argTypes }=>match args.toList,argTypes.toList with
  | [x],[t]=>B0 G s x&&De P t (F3 P fun _=>true)
  | _,_=>false
 | .app bytes m s1 s2,.call { callee:=.builtin .append,args,argTypes }=>match args.toList,argTypes.toList with
  | [x,y],[t,u]=>t==u&&(B0 G s1 x&&(B0 G s2 y&&De P t (F3 P fun el=>el==m.2&&Aev P bytes m.1 el)))
  | _,_=>false
 | .apps ty s1 s2,.call { callee:=.builtin .append,args,argTypes }=>match args.toList,argTypes.toList with
  | [x,y],[t,u]=>B0 G s1 x&&(B0 G s2 y&&(De P t (F3 P fun el=>el==ty&&Aev P 1 1 el)&&De P u Ic))
  | _,_=>false
 | .mx s1 s2,.call { callee:=.builtin .max,args,.. }=>match args.toList with
  | [x,y]=>B0 G s1 x&&B0 G s2 y
  | _=>false
 | .mn s1 s2,.call { callee:=.builtin .min,args,.. }=>match args.toList with
  | [x,y]=>B0 G s1 x&&B0 G s2 y
  | _=>false
 | _,_=>false
def Ml{α:Type}{xs:Array α}{l:List α}(h:xs.toList=l):xs=l.toArray:=by subst h;simp
def Anm{bytes m:Nat}{el:TypeId}(h:Aev P bytes m el=true):∃ fi z,P.info? el=some fi/\fi.size=m/\fi.bytes=bytes/\0<m/\0<bytes/\fi.zero=some z/\z.cells.size=m:=by
 unfold Aev at h
 split at h
 .rename_i fi qj;simp only[Af,beq_iff_eq,decide_eq_true_eq]at h;obtain⟨h1,h2,h3,h4,h5⟩:=h
  split at h5
  .rename_i z hz;exact⟨fi,z,qj,h1,h2,h3,h4,hz,eq_of_beq h5⟩
  .cases h5
 .cases h
def Bdy{ao:AO}(qa:W4 P G ao o.op=true)(hE:RepE γ w e a.tmps)(hI:Inv G N γ σ w)(h:Ae ao e σ=some (v,σ1)):Cp P G N γ σ w ((execOp a.eval o).run P w) v σ1:=by
 have R:=fun {s:S} {x:Operand} (h:B0 G s x=true)=>Yr (a:=a) h hE hI
 generalize ho:o.op=op at qa;unfold W4 at qa
 split at qa
 .-- move
  simp only[Ae]at h;cases h;exact Cg hI (by simp[execOp,ho]) (R qa)
 .simp only[Ae]at h;cases h;exact Cg hI (by simp[execOp,ho]) (R qa)
 .simp only[Af]at qa;exact A1l ho (R qa.1) (R qa.2.1) (R qa.2.2) hI h
 .simp only[Af,beq_iff_eq]at qa;obtain⟨rfl,qa⟩:=qa;obtain⟨fi,z,h1,h2,h3⟩:=Va qa;exact A5b ho h1 h2 h3 hI h
 .simp only[Af,beq_iff_eq]at qa;obtain⟨rfl,qa⟩:=qa;exact A5c ho (R qa) hI h
 .simp only[Af]at qa;obtain⟨fi,z,h1,h2,h3⟩:=Va qa.1;obtain⟨d,hd,hb⟩:=Dk qa.2;unfold Arl at hb
  split at hb
  .split at hb
   .rename_i qg kI;obtain⟨l,g⟩:=Apa hb
    exact Azg ho hd h1 h2 h3 kI (by simpa using l) (fun i p q hp hq=>by
     obtain⟨g1,g2⟩:=g i p q hp (by simpa using hq)
     exact⟨g1,R g2⟩) hI h
   .cases hb
  .split at hb
   .rename_i fe vA;obtain⟨l,g⟩:=Apb hb
    exact Aya ho hd h1 h2 h3 vA (by simpa using l) (fun i p q hp hq=>by
     obtain⟨g1,g2⟩:=g i p q hp (by simpa using hq)
     exact⟨g1,R g2⟩) hI h
   .cases hb
  .cases hb
 .simp only[Af,beq_iff_eq,decide_eq_true_eq]at qa;obtain⟨rfl,hd,hm,hb,hr⟩:=qa;obtain⟨d,hd,hs⟩:=Dk hd;unfold F3 at hs
  split at hs
  .simp only[Af]at hs;obtain⟨fi,z,h1,h2,h3⟩:=Va hs.1;obtain⟨ke,qP,h4⟩:=Lm hs.2;rw[h1]at qP;cases qP;obtain⟨l,g⟩:=Ab6 hr
   exact A1r ho hd h1 h2 h3 h4 hm hb (by simpa using l) (fun i p q hp hq=>by
    obtain⟨g1,g2⟩:=g i p q hp (by simpa using hq)
    exact⟨g1,R g2⟩) hI h
  .cases hs
 .simp only[Af,beq_iff_eq,decide_eq_true_eq]at qa;obtain⟨rfl,hd,hm,hb,hr⟩:=qa;obtain⟨d,hd,hs⟩:=Dk hd;unfold F3 at hs
  split at hs
  .simp only[Af]at hs;obtain⟨fi,z,h1,h2,h3⟩:=Va hs.1;obtain⟨ke,qP,h4⟩:=Lm hs.2;rw[h1]at qP;cases qP;obtain⟨l,g⟩:=Ab6 hr
   exact A1q ho hd h1 h2 h3 h4 hm hb (by simpa using l) (fun i p q hp hq=>by
    obtain⟨g1,g2⟩:=g i p q hp (by simpa using hq)
    exact⟨g1,R g2⟩) hI h
  .cases hs
 .simp only[Af,beq_iff_eq,decide_eq_true_eq]at qa;obtain⟨rfl,hd,hm,hb,hr⟩:=qa;obtain⟨d,hd,hs⟩:=Dk hd;unfold F3 at hs
  split at hs
  .simp only[Af,beq_iff_eq]at hs;obtain⟨rfl,jS,qi⟩:=hs;obtain⟨fi,z,h1,h2,h3⟩:=Va jS;obtain⟨ke,qP,h4⟩:=Lm qi;rw[h1]at qP;cases qP;obtain⟨l,g⟩:=Ab6 hr
   exact A1s ho hd h1 h2 h3 h4 hm hb (by simpa using l) (fun i p q hp hq=>by
    obtain⟨g1,g2⟩:=g i p q hp (by simpa using hq)
    exact⟨g1,R g2⟩) hI h
  .cases hs
 .simp only[Af,beq_iff_eq,decide_eq_true_eq]at qa;obtain⟨k1,k2,hm,jA⟩:=qa;obtain⟨d,hd,hs⟩:=Dk jA;clear jA;unfold F3 at hs
  split at hs
  .simp only[Af,beq_iff_eq]at hs;obtain⟨rfl,jS,qi,kK⟩:=hs;obtain⟨fi,z,h1,h2,h3⟩:=Va jS;obtain⟨ke,qP,h4⟩:=Lm qi;rw[h1]at qP kK;cases qP;simp only[Af,beq_iff_eq,decide_eq_true_eq]at kK;obtain⟨rfl,jz⟩:=kK;exact A9m ho hd h1 h2 h3 h4 hm jz (R k1) (R k2) hI h
  .cases hs
 .simp only[Af]at qa;obtain⟨fi,h1,h2⟩:=Lm qa.2.1;obtain⟨d,hd,hs⟩:=Dk qa.2.2;exact A1n ho hd (eq_of_beq hs) h1 h2 (R qa.1) hI h
 .simp only[Af]at qa;obtain⟨fi,h1,h2⟩:=Lm qa.2.2;exact Azf ho h1 h2 (R qa.1) (R qa.2.1) hI h
 .exact A43 ho (R qa) hI h
 .simp only[Af,decide_eq_true_eq]at qa;obtain⟨rfl,h1,h2⟩:=qa;simp only[Ae,Bu]at h;obtain⟨v',h,h3⟩:=h;cases h3;exact A40 ho (R h1) (R h2) hI h
 .simp only[Af,decide_eq_true_eq]at qa;obtain⟨rfl,h1,h2,h3⟩:=qa;exact A9o ho h1 (R h2) (R h3) hI h
 .simp only[Af,decide_eq_true_eq]at qa;obtain⟨rfl,h1⟩:=qa;exact A9j ho (R h1) hI h
 .simp only[Af]at qa;obtain⟨h1,h2,h3⟩:=qa;obtain⟨d1,kh⟩:=Option.isSome_iff_exists.1 h2;obtain⟨d,hd,hs⟩:=Dk h3;unfold Rl at hs
  split at hs
  .obtain rfl:=of_decide_eq_true hs;exact A41 ho kh hd (R h1) hI h
  .cases hs
 .simp only[Af]at qa;obtain⟨h1,h2,h3⟩:=qa;obtain⟨d1,kh⟩:=Option.isSome_iff_exists.1 h2;obtain⟨d,hd,hs⟩:=Dk h3;unfold Ic at hs
  split at hs
  .exact A42 ho kh hd (R h1) hI h
  .cases hs
 .simp only[Af,beq_iff_eq]at qa;obtain⟨rfl,h1,h2⟩:=qa;obtain⟨d,hd,hs⟩:=Dk h2;unfold F3 at hs
  split at hs
  .obtain⟨d2,qD,qi⟩:=Dk hs;unfold Rl at qi
   split at qi
   .obtain rfl:=of_decide_eq_true qi;exact A5f ho hd qD (R h1) hI h
   .cases qi
  .cases hs
 .simp only[Af]at qa;obtain⟨h1,h2,h3⟩:=qa;obtain⟨d0,jA,jy⟩:=Dk h2;obtain⟨d,hd,hs⟩:=Dk h3;unfold Ic at jy
  split at jy
  .unfold F3 at hs
   split at hs
   .obtain⟨d2,qD,qi⟩:=Dk hs;unfold Rl at qi
    split at qi
    .obtain rfl:=of_decide_eq_true qi;exact A5k ho hd qD jA (R h1) hI h
    .cases qi
   .cases hs
  .cases jy
 .simp only[Af]at qa;obtain⟨h1,h2,h3⟩:=qa;obtain⟨d0,jA,jy⟩:=Dk h2;obtain⟨d,hd,hs⟩:=Dk h3;unfold Ic at jy
  split at jy
  .unfold F3 at hs
   split at hs
   .simp only[Af,beq_iff_eq]at hs;obtain⟨rfl,hs⟩:=hs;obtain⟨d2,qD,qi⟩:=Dk hs;unfold Rl at qi
    split at qi
    .obtain rfl:=of_decide_eq_true qi;exact A5l ho jA hd qD (R h1) hI h
    .cases qi
   .cases hs
  .cases jy
 .simp only[Af]at qa;obtain⟨h1,h2⟩:=qa;obtain⟨d,hd,hs⟩:=Dk h2
  split at hs
  .obtain rfl:=eq_of_beq hs;exact A5j ho hd (R h1) hI h
  .cases hs
 .simp only[Af,Option.isNone_iff_eq_none]at qa;obtain⟨rfl,h1,h2,h3,h4⟩:=qa;obtain⟨d,hd,hs⟩:=Dk h4;unfold Ic at hs
  split at hs
  .exact A1t ho hd h2 h3 (R h1) hE hI h
  .cases hs
 .simp only[Af,Il,K0]at qa;obtain⟨h1,h2,h3,h4,h5,h7,h6⟩:=qa;obtain⟨d,hd,hs⟩:=Dk h6;unfold F3 at hs
  split at hs
  .obtain⟨fi,g1,g2⟩:=Lm hs;subst g2;exact A5e ho hd g1 h2 h3 h4 (fun h=>by rcases h5 with h5 | h5<;>simp_all) (by simpa using h7) (R h1) hE hI h
  .cases hs
 .simp only[Af,Option.isNone_iff_eq_none,decide_eq_true_eq]at qa;obtain⟨rfl,h1,h2,h3,h4,h5⟩:=qa;obtain⟨d,hd,hs⟩:=Dk h5
  split at hs
  .simp only[Af,beq_iff_eq]at hs;obtain⟨rfl,hs⟩:=hs;obtain⟨fi,g1,g2⟩:=Lm hs;subst g2;exact A1u ho hd g1 h2 h3 (by unfold maxLen;omega) (R h1) hE hI h
  .cases hs
 .simp only[Af,beq_iff_eq]at qa;obtain⟨rfl,h1,h2⟩:=qa;exact A5m ho (Ab7 hE hI h1) (Ab7 hE hI h2) hI h
 .exact A5n ho hI h
 .simp only[Af]at qa;obtain⟨h1,h2,h3⟩:=qa;obtain⟨d,hd,hs⟩:=Dk h3;unfold Aeb at hs
  split at hs
  .simp only[Af]at hs;obtain⟨d2,qD,qi⟩:=Dk hs.1;unfold Ic at qi
   split at qi
   .obtain⟨fi,u,g1,g2,g3⟩:=Axi hs.2;exact A5o ho hd qD g1 g2 g3 (R h1) (R h2) hI h
   .cases qi
  .cases hs
 .simp only[Af]at qa;obtain⟨h1,h2,h3,h4⟩:=qa;obtain⟨d,hd,hs⟩:=Dk h4;unfold Aeb at hs
  split at hs
  .obtain⟨d2,qD,qi⟩:=Dk hs;unfold Ic at qi
   split at qi
   .exact A5p ho hd qD (R h1) (R h2) (R h3) hI h
   .cases qi
  .cases hs
 .simp only[Af]at qa;obtain⟨d,hd,hs⟩:=Dk qa.2;unfold Au1 at hs
  split at hs
  .split at hs
   .rename_i f hf;simp only[Af,beq_iff_eq]at hs;obtain⟨fi,g1,g2⟩:=Lm hs.2.1;obtain⟨d2,qD,qi⟩:=Dk hs.2.2;exact A5h ho hd hf hs.1 qD (eq_of_beq qi) g1 g2 (R qa.1) hI h
   .cases hs
  .cases hs
 .simp only[Af]at qa;obtain⟨d,hd,hs⟩:=Dk qa.2.2;unfold Au2 at hs
  split at hs
  .simp only[Af,beq_iff_eq]at hs;obtain⟨rfl,hs⟩:=hs;obtain⟨fi,g1,g2⟩:=Lm hs.1;obtain⟨d2,qD,qi⟩:=Dk hs.2;exact A5i ho hd qD (eq_of_beq qi) g1 g2 (R qa.1) (R qa.2.1) hI h
  .cases hs
 .simp only[Af]at qa;obtain⟨h1,h2⟩:=qa;obtain⟨d,hd,hs⟩:=Dk h2;unfold Au0 at hs
  split at hs
  .split at hs
   .rename_i f hf;simp only[Af,beq_iff_eq]at hs;obtain⟨g1,g2⟩:=hs
    split at g2
    .rename_i fi qj;exact A48 ho hd hf g1 qj (by simpa using g2) (R h1) hI h
    .cases g2
   .cases hs
  .cases hs
 .simp only[Af]at qa;obtain⟨h1,h2,h3⟩:=qa;obtain⟨d,hd,hs⟩:=Dk h3;unfold F3 at hs
  split at hs
  .obtain⟨fi,g1,g2⟩:=Lm hs;exact A5a ho hd g1 g2 (R h1) (R h2) hI h
  .cases hs
 .simp only[Af]at qa;obtain⟨h1,h2,h3⟩:=qa;obtain⟨d,hd,hs⟩:=Dk h3
  split at hs
  .simp only[Af,beq_iff_eq]at hs;obtain⟨rfl,hs⟩:=hs;obtain⟨fi,g1,g2⟩:=Lm hs;exact A49 ho hd g1 g2 (R h1) (R h2) hI h
  .cases hs
 .simp only[Af]at qa;obtain⟨h1,h2,h3⟩:=qa;obtain⟨d,hd,hs⟩:=Dk h3;unfold Ic at hs
  split at hs
  .exact A44 ho hd (R h1) (R h2) hI h
  .cases hs
 .simp only[Af,beq_iff_eq]at qa;obtain⟨rfl,h1⟩:=qa;exact A45 ho (R h1) hI h
 .split at qa
  .rename_i x t e1 e2;rw[Ml e1,Ml e2]at ho;simp only[Af]at qa;obtain⟨d,hd,hs⟩:=Dk qa.2;unfold F3 at hs
   split at hs
   .exact A46 ho hd (R qa.1) hI h
   .cases hs
  .cases qa
 .split at qa
  .rename_i x t e1 e2;rw[Ml e1,Ml e2]at ho;simp only[Af]at qa;obtain⟨d,hd,hs⟩:=Dk qa.2;unfold Ic at hs
   split at hs
   .exact A1m ho hd (R qa.1) hI h
   .cases hs
  .cases qa
 .split at qa
  .rename_i x t e1 e2;rw[Ml e1,Ml e2]at ho;simp only[Af]at qa;obtain⟨d,hd,hs⟩:=Dk qa.2;unfold F3 at hs
   split at hs
   .exact A47 ho hd (R qa.1) hI h
   .cases hs
  .cases qa
 .split at qa
  .rename_i x y t u e1 e2;simp only[Af,beq_iff_eq]at qa;obtain⟨rfl,h1,h2,h3⟩:=qa;rw[Ml e1,Ml e2]at ho;obtain⟨d,hd,hs⟩:=Dk h3;unfold F3 at hs
   split at hs
   .simp only[Af,beq_iff_eq]at hs;obtain⟨g0,hs⟩:=hs;obtain⟨fi,z,g1,g2,g3,g4,g5,g6,g7⟩:=Anm hs;rename_i el;have em:(fi.size,el)=_:=Prod.ext g2 g0;rw[<-em,<-g3]at h;rw[<-g2]at g4 g7;rw[<-g3]at g5;exact A5g ho hd g1 g6 g7 g4 g5 (R h1) (R h2) hI h
   .cases hs
  .cases qa
 .split at qa
  .rename_i x y t u e1 e2;simp only[Af]at qa;obtain⟨h1,h2,h3,h4⟩:=qa;rw[Ml e1,Ml e2]at ho;obtain⟨d,hd,hs⟩:=Dk h3;obtain⟨d2,qD,qi⟩:=Dk h4;unfold F3 at hs
   split at hs
   .unfold Ic at qi
    split at qi
    .simp only[Af,beq_iff_eq]at hs;obtain⟨g0,hs⟩:=hs;obtain⟨fi,z,g1,g2,g3,g4,g5,g6,g7⟩:=Anm hs;rw[<-g0]at h;exact A1v ho hd qD g1 g6 g7 g2 g3 (R h1) (R h2) hI h
    .cases qi
   .cases hs
  .cases qa
 .split at qa
  .rename_i x y e1;rw[Ml e1]at ho;simp only[Af]at qa;exact A9k ho (R qa.1) (R qa.2) hI h
  .cases qa
 .split at qa
  .rename_i x y e1;rw[Ml e1]at ho;simp only[Af]at qa;exact A9l ho (R qa.1) (R qa.2) hI h
  .cases qa
 .cases qa
open Go Go.RowKit
def Zd(P:Program)(G:List (Nat × List V))(f:Nat)(xs:List S)(op:Op):Bool:=
 match op with
 | .call { callee:=.value (.func f'),args,.. }=>f==f'&&Mv G xs args.toList
 | _=>false
def Yx(P:Program)(G:List (Nat × List V))(s:S)(xs:List S)(op:Op):Bool:=
 match op with
 | .call { callee:=.value x,args,.. }=>B0 G s x&&Mv G xs args.toList
 | _=>false
def okG(n:Nat)(ops:Array Oper)(g:Option (Nat × Bool))(g':Option (Nat × Bool)):Bool:=
 match g,g' with
 | none,none=>true
 | some (t,b),some (j,b')=>b==b'&&((ops[j]?).bind (·.dst)==some t&&decide (t<n))
 | _,_=>false
def W5(P:Program)(G:List (Nat × List V))(n:Nat)(ops:Array Oper)(i:AI)(o:Oper):Bool:=
 i.dst==o.dst&&((match i.dst with
  | some d=>decide (d<n)
  | none=>true)&&(okG n ops i.g o.guard&&(match i.op with
  | .call f xs=>Zd P G f xs o.op
  | .callv s xs=>Yx P G s xs o.op
  | ao=>W4 P G ao o.op)))
def K8(P:Program)(G:List (Nat × List V))(n:Nat)(ops:Array Oper):List AI->List Oper->Bool
 | [],[]=>true
 | i::is,o::os=>W5 P G n ops i o&&K8 P G n ops is os
 | _,_=>false
def Aec(d:List Nat)(o:Oper):Bool:=(o.after.toList.all fun e=>!Region.binds .any e||d.elem e.on)&&d.all fun j=>o.after.toList.any fun e=>Region.binds .any e&&e.on==j
def Pr:List (List Nat)->List Oper->Bool
 | [],[]=>true
 | d::ds,o::os=>Aec d o&&Pr ds os
 | _,_=>false
def Aku:S->Bool
 | .k .und=>true
 | _=>false
def Dz(P:Program)(G:List (Nat × List V))(n:Nat):AC->Code->Bool
 | .skip,.skip=>true
 | .skip,.label _=>true
 | .reg _ ais,.region _ ops false=>K8 P G n ops ais ops.toList
 | .drw _ qf ais,.region _ ops true=>K8 P G n ops ais ops.toList&&(Pr qf ops.toList&&P.follows .mixedOrders)
 | .seq x y,.seq c d=>Dz P G n x c&&Dz P G n y d
 | .cond s _ x y,.cond c x' y'=>B0 G s c&&(Dz P G n x x'&&Dz P G n y y')
 | .cond s _ _ _,_=>Aku s
 | .blk i c,.block j c'=>i==j&&Dz P G n c c'
 | .blk i c,.scope c'=>decide (1000000<=i)&&Dz P G n c c'
 | .loop _ c,.loop c'=>Dz P G n c c'
 | .exit i,.exit j=>i==j&&decide (i<1000000)
 | .ret,.ret=>true
 | _,_=>false
def okR(P:Program)(n:Nat):AR->ResultVar->Bool
 | .tmp t,.tmp t'=>t==t'&&decide (t<n)
 | .cell t k one,.cell t' ty=>t==t'&&(Jx P ty k&&De P ty fun d=>Nw d==!one)
 | _,_=>false
def T4(P:Program)(n:Nat):List AR->List ResultVar->Bool
 | [],[]=>true
 | r::rs,q::qs=>okR P n r q&&T4 P n rs qs
 | _,_=>false
def Qi(P:Program)(G:List (Nat × List V))(f:Nat)(F:AF):Bool:=
 match P.funcs[f]? with
 | some fn=>match fn.body with
  | some c=>Dz P G fn.ntmps F.body c&&(T4 P fn.ntmps F.res fn.results.toList&&(decide (F.pars<=fn.ntmps)&&fn.name != "runtime.NumGoroutine"))
  | none=>false
 | none=>false
/-! orders -/
def A9p{d:List Nat}{o:Oper}(h:Aec d o=true)(qc:Nat->Bool):(o.after.all fun e=>!Region.binds .any e||qc e.on)=d.all qc:=by
 simp only[Aec,Af,Bp,N5,Il,K0,H1,beq_iff_eq]at h;rw[Xt,Array.all_eq_true',Bp];constructor
 .intro ha j hj;obtain⟨e,he,hb,rfl⟩:=h.2 j hj;have:=ha e (by simpa using he);simpa[hb] using this
 .intro hd e he;rcases h.1 e (by simpa using he) with h' | h'
  .simp[h']
  .simp[hd e.on h']
def Ab8:∀ {qf:List (List Nat)} {os:List Oper},Pr qf os=true->qf.length=os.length/\∀ i o,os[i]?=some o->Aec (qf.getD i []) o=true
 | [],[],_=>⟨rfl,fun i o h=>by simp at h⟩
 | d::ds,o::os,h=>by
  simp only[Pr,Af]at h;obtain⟨l,g⟩:=Ab8 h.2;refine⟨by simp[l],fun i o' ho=>?_⟩
  cases i with
  | zero=>simp at ho;subst ho;simpa using h.1
  | succ i=>simpa using g i o' (by simpa using ho)
 | [],_::_,h=>by simp[Pr]at h
 | _::_,[],h=>by simp[Pr]at h
def Ata{qf:List (List Nat)}{ops:Array Oper}(hd:Pr qf ops.toList=true):∀ (fuel t:Nat) (qc:Array Bool) (je:List Nat),qc.size=ops.size->(∀ i,i<ops.size->qc.getD i true=je.elem i)->(∀ i,qc.getD i false=true->je.elem i=true)->(∀ i,je.elem i=true->i<ops.size) ->
  Region.linearise.go .any ops fuel t qc je=Ot qf fuel t je
 | 0,_,_,_,_,_,_,_=>rfl
 | fuel+1,t,qc,je,hs,h1,h2,h3=>by
  obtain⟨hl,hg⟩:=Ab8 hd;have qv:qf.length=ops.size:=by simpa using hl
  have kl:(List.range ops.size).filter (fun i=>!qc.getD i true&&((ops[i]?).map (·.after.all fun e=>!Region.binds .any e||qc.getD e.on false)).getD false)=(List.range qf.length).filter (Lt qf je):=by
   rw[qv];apply List.filter_congr;intro i hi;have qE:i<ops.size:=by simpa using hi
   have ho:ops[i]?=some ops[i]:=Array.getElem?_eq_getElem qE;have vw:=hg i ops[i] (by simp[qE]);rw[ho,h1 i qE];simp only[Gb,Xq,Lt];rw[A9p vw (fun j=>qc.getD j false)];congr 1;apply List.all_congr rfl;intro j;rw[Xt];constructor
   .exact h2 j
   .intro hj;have qF:=h3 j hj;have:=h1 j qF;rw[hj]at this;simpa[Array.getD_eq_getD_getElem?,show j<qc.size by omega] using this
  unfold Region.linearise.go Ot;simp only[kl]
  split
  .rename_i i hi;have kC:i∈(List.range qf.length).filter (Lt qf je):=Ge hi
   have qE:i<ops.size:=by
    have:=(Pc.1 kC).1;rw[qv]at this;simpa using this
   rw[hi];refine Ata hd fuel _ _ (i::je) (by simpa using hs) (fun j hj=>?_) (fun j hj=>?_) (fun j hj=>?_)
   .by_cases jL:i=j
    .subst jL;simp[Array.getD_eq_getD_getElem?,hs,qE]
    .have:=h1 j hj;have vF:(j==i)=false:=by simp;omega
     simp only[Array.getD_eq_getD_getElem?,Array.getElem?_setIfInBounds,jL,if_false]at this ⊢;rw[this];simp only[List.elem,vF]
   .by_cases jL:i=j
    .subst jL;simp
    .simp only[Array.getD_eq_getD_getElem?,Array.getElem?_setIfInBounds,jL,if_false]at hj;have:=H1.1 (h2 j (by simpa[Array.getD_eq_getD_getElem?] using hj));exact H1.2 (C4 _ this)
   .rcases Bj.1 (H1.1 hj) with rfl | hj
    .exact qE
    .exact h3 j (H1.2 hj)
  .rename_i hi;rw[hi]
def A9q{qf:List (List Nat)}{ops:Array Oper}(hd:Pr qf ops.toList=true)(t:Nat):Region.linearise .any ops t=O2 qf t:=by
 unfold Region.linearise O2;have qv:qf.length=ops.size:=by simpa using (Ab8 hd).1
 rw[qv];refine Ata hd _ _ _ _ (by simp) (fun i hi=>?_) (fun i hi=>?_) (fun i hi=>?_)
 .simp[Array.getD_eq_getD_getElem?,hi]
 .by_cases h:i<ops.size
  .simp[Array.getD_eq_getD_getElem?,h]at hi
  .simp[Array.getD_eq_getD_getElem?,h]at hi
 .simp at hi
open Go Go.RowKit
variable {P:Program} {G:List (Nat × List V)} {N:Nat} {γ:Gh} {σ:St} {w w':World}
def Avz{κ:E0}{O:List (Nat × Nat)}{v:V}{u:Value}(h:Rep1 ⟨κ,[]⟩ w v u):Rep1 ⟨κ,O⟩ w v u:=by
 have low:∀ {v:V} {u:Value},RepC ⟨κ,[]⟩ w v u->RepC ⟨κ,O⟩ w v u:=fun hr=>by
  induction hr with
  | row h=>exact .row h
  | imm row h1 h2 h3 h4=>exact .imm row h1 h2 h3 h4
  | ptr h=>simp at h
  | sl h=>simp at h
  | nilp=>exact .nilp
  | nilf=>exact .nilf
  | ifc=>exact .ifc
  | fn h1 h2 _ _ ih1 ih2=>exact .fn h1 h2 ih1 ih2
  | mp h=>simp at h
 cases h with
 | cell h=>exact .cell (low h)
 | agg h1 h2=>exact .agg h1 (fun j hj=>low (h2 j hj))
def Bir{κ:E0}{O:List (Nat × Nat)}{v:V}{u:Value}(h:RepV ⟨κ,[]⟩ w v u):RepV ⟨κ,O⟩ w v u:=by
 cases h with
 | und=>exact .und
 | skp=>exact .skp
 | one h=>exact .one (Avz h)
 | tup h1 h2=>exact .tup h1 (fun j hj=>Avz (h2 j hj))
def Xy{κ':E0}{js:List Nat}(hI:Inv G N γ σ w)(hx:Ext γ w ⟨κ',γ.O⟩ w)(hs:Aeu γ σ js κ'){v v':V}{u:Value}(h:Gj σ js v=some v')(hr:RepV γ w v u)(O:List (Nat × Nat)):Rep1 ⟨κ',O⟩ w v' u:=by
 unfold Gj at h
 split at h
 .cases h;obtain⟨b,o,k,row,hu,h1,h2,h3,h4⟩:=Mg (Az rfl hr);rw[hu];obtain⟨k',vG,qM⟩:=hx.kap _ _ h1;exact .cell (.imm row vG (Cw h2 qM) h3 (fun j hj=>(h4 j hj).keep hx.kap hx.cell))
 .rename_i cs;simp only[Bu]at h;obtain⟨cs',hm,rfl⟩:=h;obtain⟨us,hu,hl,hj⟩:=Q1 hr;obtain⟨l,g⟩:=Pl hm;rw[hu];refine .agg (by omega) (fun j qA=>?_);have qJ:j<cs.length:=by omega
  obtain⟨y,hy,hf⟩:=g j _ (Bc qJ);rw[show cs'.getD j .und=y by rw[Av,hy];rfl];have:=hj j qJ;rw[show cs.getD j .und=cs[j] by rw[Av,Bc qJ];rfl]at this;exact .row (Abl hI hx hs hf this)
 .have hc:v.cellB=true:=by
   unfold Fa at h
   split at h
   .rename_i hv;revert hv;cases v<;>simp[V.rowB,V.cellB]
   .split at h
    .rfl
    .cases h
  exact .cell (.row (Abl hI hx hs h (Az hc hr)))
def Abi{κ':E0}{js:List Nat}(hI:Inv G N γ σ w)(hx:Ext γ w ⟨κ',γ.O⟩ w)(hs:Aeu γ σ js κ'){v v':V}{u:Value}(h:K3 σ js v=some v')(hr:RepV γ w v u)(O:List (Nat × Nat)):RepV ⟨κ',O⟩ w v' u:=by
 unfold K3 at h
 split at h
 .rename_i vs;simp only[Bu]at h;obtain⟨jf,hm,rfl⟩:=h;obtain⟨us,hu,hl,hj⟩:=Aoy hr;obtain⟨l,g⟩:=Pl hm;rw[hu];refine .tup (by omega) (fun j qA=>?_);have qJ:j<vs.length:=by omega
  obtain⟨y,hy,hf⟩:=g j _ (Bc qJ);rw[show jf.getD j .und=y by rw[Av,hy];rfl];have:=hj j qJ;rw[show vs.getD j .und=vs[j] by rw[Av,Bc qJ];rfl]at this;exact Xy hI hx hs hf (.one this) O
 .exact .one (Xy hI hx hs h hr O)
def Azh{v:V}{u:Value}(hf:v.flatV=true)(h:RepV γ w v u)(γ':Gh)(w':World):RepV γ' w' v u:=by
 cases h with
 | und=>exact .und
 | skp=>exact .skp
 | one h=>
  cases h with
  | cell h=>
   have:v.flatB=true:=by
    have hc:=(Qx h).1;revert hf hc
    cases v<;>simp[V.flatV,V.flatB,V.cellB]
   exact .one (.cell (Ab5 this h γ' w'))
  | @agg cs us h1 h2=>
   have kk:cs.all V.flatB=true:=hf;exact .one (.agg h1 (fun j hj=>Ab5 (Bp.1 kk _ (by rw[Av,Bc hj];exact Fy hj)) (h2 j hj) γ' w'))
 | @tup vs us h1 h2=>
  have kk:(vs.all fun v=>v.cells.all V.flatB)=true:=hf;refine .tup h1 (fun j hj=>?_);have km:=Bp.1 kk (vs.getD j .und) (by rw[Av,Bc hj];exact Fy hj);have hr:=h2 j hj;generalize vs.getD j .und=x at km hr;generalize us.getD j undef=y at hr ⊢
  cases hr with
  | cell h=>
   have:x.flatB=true:=by
    have hc:=(Qx h).1;revert km hc
    cases x<;>simp[V.cells,V.flatB,V.cellB]
   exact .cell (Ab5 this h γ' w')
  | @agg cs us h1 h2=>
   have vz:cs.all V.flatB=true:=km;exact .agg h1 (fun j hj=>Ab5 (Bp.1 vz _ (by rw[Av,Bc hj];exact Fy hj)) (h2 j hj) γ' w')
def Ahl{κ':E0}(h:Inv G N ⟨κ',γ.O⟩ σ w):Inv G w.heap.size ⟨κ',[]⟩ [] w where
 base:=Ai _
 len:=rfl
 nd:=U3
 low:=fun i p h=>by simp at h
 obj:=fun i ob p h=>by simp at h
 dom:=h.dom
 glob:=fun g r hg=>by
  obtain⟨b,o,k,row,hu,h1,h2,h3,h4⟩:=Mg (h.glob g r hg);rw[hu];exact .imm row h1 h2 h3 h4
 gsz:=fun g r hg=>⟨by have:=(h.gsz g r hg).1;have:=h.base;omega,(h.gsz g r hg).2⟩
def Amo{args:List V}{v:V}{u:Value}{κ1 κ2:E0}{w1:World}(hI:Inv G N γ σ w)(h1:Inv G N ⟨κ1,γ.O⟩ (σ.freeze (Le σ args)) w)(hx:Ext γ w ⟨κ1,γ.O⟩ w)(hN:∀ b,b<N->κ1 b=γ.κ b)
  (hb:Below w.heap.size w w1) (hk:∀ b,b<w.heap.size->κ2 b=κ1 b) (hd:∀ b k,κ2 b=some k->b<w1.heap.size) (hv:RepV ⟨κ2,[]⟩ w1 v u) :
  ∃ γ1,Inv G N γ1 (after σ args v) w1/\Ext γ w γ1 w1/\RepV γ1 w1 v u/\(∀ b,b<N->γ1.κ b=γ.κ b)/\Below N w w1:=by
 unfold after
 split
 .rename_i hf
  obtain⟨i1,i2⟩:=hI.more (w':=w1) (κ':=fun b=>if b<w.heap.size then γ.κ b else κ2 b) (fun b qy=>hb.block b qy) hb.size (fun b qy=>if_pos qy) (fun b k kW=>by
   by_cases qy:b<w.heap.size
   .have:=hb.size;omega
   .rw[if_neg qy]at kW;exact hd b k kW)
  exact⟨_,i1,i2,Azh hf hv _ _,fun b qy=>if_pos (Pa qy hI.base),hb.mono hI.base⟩
 .obtain⟨i1,i2⟩:=h1.more (w':=w1) (κ':=κ2) (fun b qy=>hb.block b qy) hb.size hk hd;exact⟨_,i1,hx.trans i2,Bir hv,fun b qy=>(hk b (Pa qy hI.base)).trans (hN b qy),hb.mono hI.base⟩
def Ir(P:Program)(G:List (Nat × List V))(f:Nat)(s:List V->Option V):Prop:=
 (∃ fn c,P.funcs[f]?=some fn/\fn.body=some c/\fn.name ≠ "runtime.NumGoroutine") /\
 ∀ (κ:E0) (w:World) (vs:List V) (us:List Value) (v:V),(∀ g r,(g,r)∈G->RepC ⟨κ,[]⟩ w (.imm r 0) (.pointer (some ⟨g,0,none⟩)))->(∀ g r,(g,r)∈G->Eb w g=some r.length)->(∀ b k,κ b=some k->b<w.heap.size)->vs.length=us.length ->
  (∀ j,j<vs.length->Rep1 ⟨κ,[]⟩ w (vs.getD j .und) (us.getD j undef))->s vs=some v ->
  Calls P f us.toArray w fun e w'=>∃ u κ',e=.returned u/\RepV ⟨κ',[]⟩ w' v u/\Below w.heap.size w w'/\(∀ b,b<w.heap.size->κ' b=κ b)/\∀ b k,κ' b=some k->b<w'.heap.size
def Rm(P:Program)(G:List (Nat × List V))(f:Nat)(s:List V->St->Option (V × St)):Prop:=
 (∃ fn c,P.funcs[f]?=some fn/\fn.body=some c/\fn.name ≠ "runtime.NumGoroutine") /\
 ∀ (args:List V) (σ:St) (v:V) (σ':St),s args σ=some (v,σ')->∀ (us:List Value) (w:World) (γ:Gh) (N:Nat),args.length=us.length->(∀ j,j<args.length->RepV γ w (args.getD j .und) (us.getD j undef))->Inv G N γ σ w ->
   Calls P f us.toArray w fun e w'=>∃ u γ',e=.returned u/\RepV γ' w' v u/\Inv G N γ' σ' w'/\Ext γ w γ' w'/\Below N w w'/\∀ b,b<N->γ'.κ b=γ.κ b
/-! objects under new numbers -/
def S7:∀ {cs:List V} {j i:Nat},j<cs.length->i∈(cs.getD j .und).refs->i∈Ah cs
 | [],_,_,h,_=>by simp at h
 | c::cs,0,i,_,h=>by simp only[Ah,B8];exact .inl (by simpa using h)
 | c::cs,j+1,i,hj,h=>by simp only[Ah,B8];exact .inr (S7 (j:=j) (by simpa using hj) (by simpa using h))
def Mh(ρ:Nat->Nat):∀ cs:List V,(Fv ρ cs).length=cs.length
 | []=>rfl
 | c::cs=>by simp[Fv,Mh ρ cs]
def Vo(ρ:Nat->Nat):∀ {cs:List V} {j:Nat},j<cs.length->(Fv ρ cs).getD j .und=(cs.getD j .und).ren ρ
 | [],_,h=>by simp at h
 | c::cs,0,_=>by simp[Fv]
 | c::cs,j+1,h=>by simpa[Fv] using Vo ρ (cs:=cs) (j:=j) (by simpa using h)
def RepC.renum{O:List (Nat × Nat)}{ρ:Nat->Nat}{v:V}{u:Value}(h:RepC γ w v u):(∀ i∈v.refs,∀ p,γ.O[i]?=some p->O[ρ i]?=some p)->RepC ⟨γ.κ,O⟩ w (v.ren ρ) u:=by
 induction h with
 | row h=>
  intro _
  cases h with
  | bool=>exact .row .bool
  | int=>exact .row .int
  | str h=>exact .row (.str h)
  | nili=>exact .row .nili
  | ifc=>exact .row .ifc
  | nils=>exact .row .nils
  | lst row h1 h2 h3 h4 h5 h6 h7=>exact .row (.lst row h1 h2 h3 h4 h5 h6 h7)
 | imm row h1 h2 h3 h4=>exact fun _=>.imm row h1 h2 h3 h4
 | ptr h1 h2 h3=>exact fun hr=>.ptr (hr _ (by simp[V.refs]) _ h1) h2 h3
 | sl h1 h2 h3 h4 h5 h6=>exact fun hr=>.sl (hr _ (by simp[V.refs]) _ h1) h2 h3 h4 h5 h6
 | nilp=>exact fun _=>.nilp
 | nilf=>exact fun _=>.nilf
 | ifc=>exact fun _=>.ifc
 | fn h1 h2 _ _ ih1 ih2=>
  intro hr;refine .fn (by rw[Mh];exact h1) (by rw[Mh];exact h2) (fun j hj=>?_) (fun j hj=>?_)
  .rw[Mh]at hj;rw[Vo ρ hj];exact ih1 j hj (fun i hi=>hr i (by simp only[V.refs,B8];exact .inl (S7 hj hi)))
  .rw[Mh]at hj;rw[Vo ρ hj];exact ih2 j hj (fun i hi=>hr i (by simp only[V.refs,B8];exact .inr (S7 hj hi)))
 | mp h1 h2 h3=>exact fun hr=>.mp (hr _ (by simp[V.refs]) _ h1) h2 h3
def Rep1.renum{O:List (Nat × Nat)}{ρ:Nat->Nat}{v:V}{u:Value}(h:Rep1 γ w v u)(hr:∀ i∈v.refs,∀ p,γ.O[i]?=some p->O[ρ i]?=some p):Rep1 ⟨γ.κ,O⟩ w (v.ren ρ) u:=by
 cases h with
 | cell h=>exact .cell (h.renum hr)
 | agg h1 h2=>
  refine .agg (by rw[Mh];exact h1) (fun j hj=>?_);rw[Mh]at hj;rw[Vo ρ hj];exact(h2 j hj).renum (fun i hi=>hr i (by simp only[V.refs];exact S7 hj hi))
def RepV.renum{O:List (Nat × Nat)}{ρ:Nat->Nat}{v:V}{u:Value}(h:RepV γ w v u)(hr:∀ i∈v.refs,∀ p,γ.O[i]?=some p->O[ρ i]?=some p):RepV ⟨γ.κ,O⟩ w (v.ren ρ) u:=by
 cases h with
 | und=>exact .und
 | skp=>exact .skp
 | one h=>exact .one (h.renum hr)
 | tup h1 h2=>
  refine .tup (by rw[Mh];exact h1) (fun j hj=>?_);rw[Mh]at hj;rw[Vo ρ hj];exact(h2 j hj).renum (fun i hi=>hr i (by simp only[V.refs];exact S7 hj hi))
def ObOk.renum{O:List (Nat × Nat)}{ρ:Nat->Nat}{ob:Ob}{p:Nat × Nat}(h:ObOk γ w ob p)(hr:∀ i∈ob.refs,∀ q,γ.O[i]?=some q->O[ρ i]?=some q):ObOk ⟨γ.κ,O⟩ w (ob.ren ρ) p:=by
 cases ob with
 | row cs e g z=>
  obtain⟨h1,h2,h3,us,lo,hi,h4,h5,h6,h7⟩:=h;refine⟨h1,h2,by rw[Mh];exact h3,us,lo,hi,h4,h5,by rw[Mh];exact h6,fun j hj=>?_⟩;rw[Mh]at hj;rw[Vo ρ hj];exact(h7 j hj).renum (fun i hi=>hr i (by simp only[Ob.refs];exact S7 hj hi))
 | map kvs=>
  obtain⟨h1,h2,es,h3,h4,h5⟩:=h;refine⟨h1,h2,es,by simpa using h3,by simpa using h4,fun i k v hi=>?_⟩;simp only[Aj,Bu]at hi;obtain⟨⟨k',v'⟩,hi,he⟩:=hi;simp only[Prod.mk.injEq]at he;obtain⟨rfl,rfl⟩:=he;obtain⟨en,a1,a2,a3,a4,a5,a6⟩:=h5 i k' v' hi
  have vC:(v'.ren ρ).flatB=true:=by revert a5;cases v'<;>simp[V.flatB,V.ren]
  exact⟨en,a1,a2,a3,a4,vC,a6.renum (fun i' qE=>hr i' (by
   simp only[Ob.refs];have qy:=(Ak.1 hi).1
   exact S7 (j:=i) (by simpa using qy) (by simpa[Av,hi] using qE)))⟩
 | dead=>exact h
mutual
theorem Ai0:∀ v:V,v.ren (fun i=>i)=v
 | .und | .skp | .bool _ | .int _ _ | .str _ | .nili | .ifc | .nils | .nilp | .nilf | .lst _ _ | .imm _ _ | .ptr _ _ _ | .sl _ _ _ _ _ _ | .mp _=>by simp[V.ren]
 | .fn f a c=>by simp[V.ren,V1 a,V1 c]
 | .agg cs=>by simp[V.ren,V1 cs]
 | .tup vs=>by simp[V.ren,V1 vs]
theorem V1:∀ cs:List V,Fv (fun i=>i) cs=cs
 | []=>rfl
 | c::cs=>by simp[Fv,Ai0 c,V1 cs]
end
def Ann(ob:Ob):ob.ren (fun i=>i)=ob:=by
 cases ob with
 | row cs e g z=>simp[Ob.ren,V1]
 | map kvs=>simp[Ob.ren,Ai0]
 | dead=>rfl
def Yd:∀ {cs:List V} {i:Nat},i∈Ah cs->∃ j,j<cs.length/\i∈(cs.getD j .und).refs
 | [],_,h=>by simp[Ah]at h
 | c::cs,i,h=>by
  simp only[Ah,B8]at h;rcases h with h | h
  .exact⟨0,by simp,by simpa using h⟩
  .obtain⟨j,h1,h2⟩:=Yd h;exact⟨j+1,by simpa using h1,by simpa using h2⟩
def RepC.refs_lt{v:V}{u:Value}(h:RepC γ w v u):∀ i∈v.refs,i<γ.O.length:=by
 induction h with
 | row h=>intro i hi;cases h<;>simp[V.refs]at hi
 | imm=>intro i hi;simp[V.refs]at hi
 | ptr h1=>intro i hi;simp[V.refs]at hi;subst hi;exact(Ak.1 h1).1
 | sl h1=>intro i hi;simp[V.refs]at hi;subst hi;exact(Ak.1 h1).1
 | nilp=>intro i hi;simp[V.refs]at hi
 | nilf=>intro i hi;simp[V.refs]at hi
 | ifc=>intro i hi;simp[V.refs]at hi
 | fn h1 h2 _ _ ih1 ih2=>
  intro i hi;simp only[V.refs,B8]at hi;rcases hi with hi | hi
  .obtain⟨j,g1,g2⟩:=Yd hi;exact ih1 j g1 i g2
  .obtain⟨j,g1,g2⟩:=Yd hi;exact ih2 j g1 i g2
 | mp h1=>intro i hi;simp[V.refs]at hi;subst hi;exact(Ak.1 h1).1
def ObOk.refs_lt{ob:Ob}{p:Nat × Nat}(h:ObOk γ w ob p):∀ i∈ob.refs,i<γ.O.length:=by
 intro i hi
 cases ob with
 | row cs e g z=>
  obtain⟨_,_,_,us,lo,qE,_,_,_,h7⟩:=h;obtain⟨j,g1,g2⟩:=Yd (show i∈Ah cs from hi);exact(h7 j g1).refs_lt i g2
 | map kvs=>
  obtain⟨_,_,es,_,_,h5⟩:=h;obtain⟨j,g1,g2⟩:=Yd (show i∈Ah (kvs.map (·.2)) from hi);have hj:j<kvs.length:=by simpa using g1
  obtain⟨en,_,_,_,_,_,a6⟩:=h5 j (kvs[j]).1 (kvs[j]).2 (Bc hj);exact a6.refs_lt i (by simpa[Av,hj] using g2)
 | dead=>simp[Ob.refs]at hi
def Inv.leave{γ':Gh}{σ':St}{w':World}{n:Nat}{js:List Nat}{ρ:Nat->Nat}(hI:Inv G N γ' σ' w')(hn:n<=σ'.length)(jZ:∀ i∈js,n<=i/\i<σ'.length)(vM:js.Nodup)
  (hρ:∀ i,i<n->ρ i=i) (kS:∀ k (hk:k<js.length),ρ js[k]=n+k)
  (vg:∀ (i:Nat) (ob:Ob),(i<n\/i∈js)->σ'[i]?=some ob->∀ j∈ob.refs,j<n\/j∈js) :
  Inv G N ⟨γ'.κ,γ'.O.take n++js.filterMap (γ'.O[·]?)⟩ ((σ'.take n++js.filterMap (σ'[·]?)).map (Ob.ren ρ)) w'/\∀ i,(i<n\/i∈js)->∀ p,γ'.O[i]?=some p->(γ'.O.take n++js.filterMap (γ'.O[·]?))[ρ i]?=some p:=by
 have qv:=hI.len
 have pick:∀ {α:Type} (l:List α),l.length=σ'.length->(js.filterMap (l[·]?)).length=js.length/\∀ k (hk:k<js.length),(js.filterMap (l[·]?))[k]?=l[js[k]]?:=fun {α} l hl=>by
  have:js.filterMap (l[·]?)=js.pmap (fun i hi=>l[i]'(by rw[hl];exact hi)) (fun i hi=>(jZ i hi).2):=by
   clear vM kS vg
   induction js with
   | nil=>rfl
   | cons a js ih=>
    have ha:a<l.length:=by rw[hl];exact(jZ a (by simp)).2
    rw[Jm,Bc ha];simp only[List.pmap_cons];rw[ih (fun i hi=>jZ i (C4 _ hi))]
  rw[this];refine⟨by simp,fun k hk=>?_⟩;have jt:js[k]<l.length:=by rw[hl];exact(jZ _ (Fy hk)).2
  rw[Bc (by simpa using hk),List.getElem_pmap,Bc jt]
 obtain⟨vX,vo⟩:=pick γ'.O qv;obtain⟨vY,vZ⟩:=pick σ' rfl;have qX:(γ'.O.take n).length=n:=by simp;omega
 have qY:(σ'.take n).length=n:=by simp;omega
 have jO:∀ i,(i<n\/i∈js)->∀ p,γ'.O[i]?=some p->(γ'.O.take n++js.filterMap (γ'.O[·]?))[ρ i]?=some p:=by
  intro i hi p hp;by_cases jC:i<n
  .rw[hρ i jC,B6 (by omega),F5,if_pos jC];exact hp
  .rcases hi with h | h
   .exact absurd h jC
   .obtain⟨k,hk,rfl⟩:=Qq h;rw[kS k hk,Co (by omega),qX,show n+k - n=k by omega,vo k hk];exact hp
 have Ex:∀ q,q<n+js.length->∃ i,(i<n\/i∈js)/\ρ i=q/\(γ'.O.take n++js.filterMap (γ'.O[·]?))[q]?=γ'.O[i]?/\(σ'.take n++js.filterMap (σ'[·]?))[q]?=σ'[i]?:=by
  intro q hq;by_cases kb:q<n
  .refine⟨q,.inl kb,hρ q kb,?_,?_⟩
   .rw[B6 (by omega),F5,if_pos kb]
   .rw[B6 (by omega),F5,if_pos kb]
  .have hk:q - n<js.length:=by omega
   refine⟨js[q - n],.inr (Fy hk),by rw[kS _ hk];omega,?_,?_⟩
   .rw[Co (by omega),qX,vo _ hk]
   .rw[Co (by omega),qY,vZ _ hk]
 have jY:(γ'.O.take n++js.filterMap (γ'.O[·]?)).length=n+js.length:=by rw[Al,qX,vX]
 have vt:(σ'.take n++js.filterMap (σ'[·]?)).length=n+js.length:=by rw[Al,qY,vY]
 refine⟨⟨hI.base,by rw[Ap,jY,vt],?_,fun q p hp=>?_,fun q ob p h1 h2=>?_,hI.dom,fun g r hg=>?_,hI.gsz⟩,jO⟩
 .refine Uz.2 fun q1 q2 h1 h2 wb=>?_
  simp only[Ap,jY]at h1 h2;obtain⟨i1,c1,e1,o1,_⟩:=Ex q1 h1;obtain⟨i2,c2,e2,o2,_⟩:=Ex q2 h2;have vN:i1≠i2:=fun e=>by subst e;omega
  rw[Jn,Jn];have vP:q1<(γ'.O.take n++js.filterMap (γ'.O[·]?)).length:=by omega
  have vQ:q2<(γ'.O.take n++js.filterMap (γ'.O[·]?)).length:=by omega
  rw[Bc vP]at o1;rw[Bc vQ]at o2;exact hI.ne o1.symm o2.symm vN
 .have hq:q<n+js.length:=by have:=(Ak.1 hp).1;rw[<-jY];exact this
  obtain⟨i,c1,e1,o1,_⟩:=Ex q hq;have vi:(γ'.O.take n++js.filterMap (γ'.O[·]?))[q]?=some p:=hp;rw[o1]at vi;exact hI.low i p vi
 .have hq:q<n+js.length:=by have:=(Ak.1 h2).1;rw[<-jY];exact this
  obtain⟨i,c1,e1,o1,o2⟩:=Ex q hq;have kV:(γ'.O.take n++js.filterMap (γ'.O[·]?))[q]?=some p:=h2;rw[o1]at kV;simp only[Aj,Bu]at h1;obtain⟨vn,h1,rfl⟩:=h1;rw[o2]at h1;exact(hI.obj i vn p h1 kV).renum (fun j hj r hr=>jO j (vg i vn c1 h1 j hj) r hr)
 .obtain⟨b,o,k,row,hu,h1,h2,h3,h4⟩:=Mg (hI.glob g r hg);rw[hu];exact .imm row h1 h2 h3 h4
open Go Go.RowKit
variable {P:Program} {G:List (Nat × List V)} {T:Nat->Option AF} {pr:Nat->Option (List V->Option V)}
def Leaves(G:List (Nat × List V))(N n:Nat)(D:List Deferred)(γ:Gh)(σ:St)(w:World)(e':Env)(σ':St)(a':Act)(w':World):Prop:=
 ∃ γ',RepE γ' w' e' a'.tmps/\Inv G N γ' σ' w'/\Ext γ w γ' w'/\Below N w w'/\(∀ b,b<N->γ'.κ b=γ.κ b)/\a'.tmps.size=n/\a'.defers=D
def Leaves.after{N n:Nat}{D:List Deferred}{γ γ1:Gh}{σ σ1 σ':St}{w w1 w':World}{e':Env}{a':Act}(hx:Ext γ w γ1 w1)(hb:Below N w w1)(hk:∀ b,b<N->γ1.κ b=γ.κ b)(h:Leaves G N n D γ1 σ1 w1 e' σ' a' w'):Leaves G N n D γ σ w e' σ' a' w':=by
 obtain⟨γ',h1,h2,h3,h4,h5,h6⟩:=h;exact⟨γ',h1,h2,hx.trans h3,hb.trans h4,fun b hb=>(h5 b hb).trans (hk b hb),h6⟩
inductive MK (P:Program) (G:List (Nat × List V)) (n:Nat):List It->List Item->Prop
 | nil:MK P G n [] []
 | c {ac:AC} {c:Code} {k:List It} {qe:List Item}:Dz P G n ac c=true->MK P G n k qe->MK P G n (.c ac::k) (.code c::qe)
 | b {id:Nat} {k:List It} {qe:List Item}:MK P G n k qe->MK P G n (.b id::k) (.inBlock id::qe)
 | s {id:Nat} {c:Code} {k:List It} {qe:List Item}:1000000<=id->MK P G n k qe->MK P G n (.b id::k) (.inScope c::qe)
 | l {keep:List Nat} {ac:AC} {c:Code} {k:List It} {qe:List Item}:Dz P G n ac c=true->MK P G n k qe->MK P G n (.l keep ac::k) (.inLoop c::qe)
 | l' {keep:List Nat} {ac:AC} {c:Code} {k:List It} {qe:List Item}:Dz P G n ac c=true->MK P G n k qe->MK P G n (.l keep ac::k) (.code (.loop c)::qe)
def MK.exit{n id:Nat}{k:List It}{qe:List Item}(qy:id<1000000)(h:MK P G n k qe):∀ {k':List It},exitTo id k=some k'->∃ todo',Go.exitTo id qe=some todo'/\MK P G n k' todo':=by
 induction h with
 | nil=>intro k' h;simp[exitTo]at h
 | c _ _ ih=>intro k' h;simp only[exitTo]at h;simpa[Go.exitTo] using ih h
 | b hk ih=>
  intro k' h;simp only[exitTo]at h
  split at h
  .rename_i he;cases h;exact⟨_,by simp[Go.exitTo,he],hk⟩
  .rename_i he;obtain⟨t,h1,h2⟩:=ih h;exact⟨t,by simp[Go.exitTo,he,h1],h2⟩
 | s hi hk ih=>
  intro k' h;simp only[exitTo]at h
  split at h
  .omega
  .simpa[Go.exitTo] using ih h
 | l _ _ ih=>intro k' h;simp only[exitTo]at h;simpa[Go.exitTo] using ih h
 | l' _ _ ih=>intro k' h;simp only[exitTo]at h;simpa[Go.exitTo] using ih h
def ML(P:Program)(G:List (Nat × List V))(n:Nat)(ops:Array Oper):List AI->List Nat->Prop
 | [],[]=>True
 | i::is,j::js=>(∃ o,ops[j]?=some o/\W5 P G n ops i o=true)/\ML P G n ops is js
 | _,_=>False
def Aju(P:Program)(G:List (Nat × List V)):J->Prop
 | .ops l e σ e' σ'=>∀ (n:Nat) (D:List Deferred) (ops:Array Oper) (L:List Nat) (a:Act) (w:World) (γ:Gh) (N:Nat) (Q:Exit->Act->World->Prop),ML P G n ops l L->a.tmps.size=n->a.defers=D->RepE γ w e a.tmps->Inv G N γ σ w ->
   (∀ a' w',Leaves G N n D γ σ w e' σ' a' w'->Q .normal a' w')->wpOps P ops Q L a w
 | .code k e σ e' σ'=>∀ (n:Nat) (D:List Deferred) (qe:List Item) (a:Act) (w:World) (γ:Gh) (N:Nat),MK P G n k qe->a.tmps.size=n->a.defers=D->RepE γ w e a.tmps->Inv G N γ σ w->∀ (b:Frame) (cs:List Frame),
   ∃ a' w' todo',Steps P (lone (b.at a qe) cs w) (lone { b.at a' todo' with mode:=.returning } cs w')/\Leaves G N n D γ σ w e' σ' a' w'
 | .fn f args σ v σ'=>∀ (us:List Value) (w:World) (γ:Gh) (N:Nat),args.length=us.length->(∀ j,j<args.length->RepV γ w (args.getD j .und) (us.getD j undef))->Inv G N γ σ w ->
   Calls P f us.toArray w fun e w'=>∃ u γ',e=.returned u/\RepV γ' w' v u/\Inv G N γ' σ' w'/\Ext γ w γ' w'/\Below N w w'/\∀ b,b<N->γ'.κ b=γ.κ b
def Qy{n:Nat}{ops:Array Oper}{i:AI}{o:Oper}{γ:Gh}{w:World}{e:Env}{a:Act}{z:Bool}(hg:okG n ops i.g o.guard=true)(ha:a.tmps.size=n)(hE:RepE γ w e a.tmps)(h:Cx e i=some z):Region.wanted o (yielded ops a.tmps)=z:=by
 unfold okG at hg;unfold Cx at h;unfold Region.wanted
 split at hg
 .rename_i h1 h2;rw[h1]at h;rw[h2];simpa using h
 .rename_i t b j b' h1 h2;simp only[Af,beq_iff_eq,decide_eq_true_eq]at hg;obtain⟨rfl,hd,ht⟩:=hg;rw[h1]at h;rw[h2];simp only at h ⊢;have qV:=hE t
  have hy:a.tmps[t]?=some (a.tmps.getD t undef):=by
   rw[Array.getD_eq_getD_getElem?,Array.getElem?_eq_getElem (by omega)];rfl
  split at h
  .rename_i z' e1;rw[e1]at qV;have:=Ph (Az rfl qV);cases h;simp only[yielded,hd,Db,hy,this]
   cases z'<;>cases b<;>rfl
  .rename_i e1;rw[e1]at qV;cases h
   have:a.tmps.getD t undef=undef:=by
    generalize a.tmps.getD t undef=u at qV
    cases qV with
    | skp=>rfl
    | one h=>cases h with | cell h=>exact absurd (Qx h).1 (by simp[V.cellB])
   simp only[yielded,hd,Db,hy,this]
   cases b<;>rfl
  .cases h
 .cases hg
def Q8{n:Nat}{γ:Gh}{w:World}{e:Env}{a:Act}{d:Option Nat}{v:V}{u:Value}(hd:(match d with | some d=>decide (d<n) | none=>true)=true)(ha:a.tmps.size=n)(hE:RepE γ w e a.tmps)(hv:RepV γ w v u):
  RepE γ w (e.putO d v) (a.put d u).tmps/\(a.put d u).tmps.size=n/\(a.put d u).defers=a.defers:=by
 cases d with
 | none=>exact⟨hE,ha,rfl⟩
 | some d=>
  simp only[decide_eq_true_eq]at hd;exact⟨hE.put (by omega) hv,by simp[Act.put,ha],rfl⟩
def Azi{f:Nat}{xs:List S}{op:Op}(h:Zd P G f xs op=true):∃ args ts,op=.call { callee:=.value (.func f),args,argTypes:=ts }/\Mv G xs args.toList=true:=by
 unfold Zd at h
 split at h
 .simp only[Af,beq_iff_eq]at h;obtain⟨rfl,h⟩:=h;exact⟨_,_,rfl,h⟩
 .cases h
def Ye{f:Nat}{F:AF}(h:Qi P G f F=true):∃ fn c,P.funcs[f]?=some fn/\fn.body=some c/\Dz P G fn.ntmps F.body c=true/\T4 P fn.ntmps F.res fn.results.toList=true/\F.pars<=fn.ntmps/\fn.name ≠ "runtime.NumGoroutine":=by
 unfold Qi at h
 split at h
 .rename_i fn hf
  split at h
  .rename_i c hc;simp only[Af,decide_eq_true_eq]at h;obtain⟨h1,h2,h3,h4⟩:=h;exact⟨fn,c,hf,hc,h1,h2,h3,by simpa using h4⟩
  .cases h
 .cases h
def A5q{γ:Gh}{w:World}{v:V}{u:Value}(h:H8 v=true)(hr:RepV γ w v u):Rep1 γ w v u:=by
 cases hr with
 | und=>simp[H8,V.cellB]at h
 | skp=>simp[H8,V.cellB]at h
 | one h=>exact h
 | tup=>simp[H8,V.cellB]at h
def Ze(tm:Array Value):ResultVar->Sem Value
 | .tmp t=>pure (tm.getD t undef)
 | .cell a t=>do loadVar t (<-asAddr (tm.getD a undef))
def Ah5{n:Nat}{N:Nat}{γ:Gh}{σ:St}{w:World}{e:Env}{tm:Array Value}(hE:RepE γ w e tm)(hI:Inv G N γ σ w):∀ {rs:List AR} {qs:List ResultVar} {vs:List V},T4 P n rs qs=true->rs.mapM (Gl e σ)=some vs ->
  ∃ us:List Value,(qs.mapM (Ze tm)).run P w=.ok us w/\vs.length=us.length/\us.length=qs.length/\∀ j,j<vs.length->RepV γ w (vs.getD j .und) (us.getD j undef)
 | [],[],vs,_,h=>by
  simp at h;subst h;exact⟨[],by simp,rfl,rfl,fun j hj=>absurd hj (by simp)⟩
 | r::rs,q::qs,vs,qa,h=>by
  simp only[T4,Af]at qa;rw[H0]at h
  cases h1:Gl e σ r with
  | none=>simp[h1]at h
  | some v=>
   cases h2:rs.mapM (Gl e σ) with
   | none=>simp[h1,h2]at h
   | some jf=>
    simp[h1,h2]at h;subst h;obtain⟨us,g1,g2,vr,g3⟩:=Ah5 hE hI qa.2 h2
    have key:∃ u,(Ze tm q).run P w=.ok u w/\RepV γ w v u:=by
     have hr:=qa.1;unfold okR at hr
     split at hr
     .rename_i t t';simp only[Af,beq_iff_eq]at hr;obtain⟨rfl,_⟩:=hr;simp only[Gl]at h1;cases h1;exact⟨tm.getD t undef,rfl,hE t⟩
     .rename_i t k one t' ty;simp only[Af,beq_iff_eq]at hr;obtain⟨rfl,vR,vS⟩:=hr;obtain⟨fi,i1,i2⟩:=Lm vR;obtain⟨d,hd,hs⟩:=Dk vS;simp only[Gl]at h1;obtain⟨b,p,cs,f,hu,k1,k2,k3,k4⟩:=Ao2 hI (hE t) h1;obtain⟨m1,m2⟩:=Agw k1 k2 k4;have hl:=Al8 (P:=P) (w:=w) hd (eq_of_beq hs) i1 i2 (fun h=>(m1 h).1) k3;refine⟨if one then f 0 else .agg ((List.range k).map f).toArray,by simp only[Ze,hu,asAddr,Sem.run_bind,Sem.run_pure,Result.andThen_ok,hl],?_⟩
      cases one with
      | true=>exact C1 (m1 rfl).2
      | false=>exact .one (m2 rfl)
     .cases hr
    obtain⟨u,hu,hv⟩:=key;refine⟨u::us,by simp[H0,hu,g1],by simp[g2],by simp[vr],fun j hj=>?_⟩
    cases j with
    | zero=>exact hv
    | succ j=>simpa using g3 j (by simpa using hj)
 | [],_::_,_,h,_=>by simp[T4]at h
 | _::_,[],_,h,_=>by simp[T4]at h
def ML.tail{n:Nat}{ops:Array Oper}{i:AI}{is:List AI}{L:List Nat}(h:ML P G n ops (i::is) L):∃ j js o,L=j::js/\ops[j]?=some o/\W5 P G n ops i o=true/\ML P G n ops is js:=by
 cases L with
 | nil=>exact h.elim
 | cons j js=>obtain⟨⟨o,h1,h2⟩,h3⟩:=h;exact⟨j,js,o,rfl,h1,h2,h3⟩
def Ua{n:Nat}{ops:Array Oper}{o:Oper}{j:Nat}{js:List Nat}{a:Act}{w:World}{Q:Exit->Act->World->Prop}(ho:ops[j]?=some o)(hw:Region.wanted o (yielded ops a.tmps)=true)(h:o.wp P a w (wpOps P ops Q js) Q):wpOps P ops Q (j::js) a w:=by
 simp only[wpOps,ho,hw,if_true];exact .inl h
def A9r{ops:Array Oper}{o:Oper}{j:Nat}{js:List Nat}{a:Act}{w:World}{Q:Exit->Act->World->Prop}(ho:ops[j]?=some o)(hw:Region.wanted o (yielded ops a.tmps)=false)(h:wpOps P ops Q js (a.put o.dst undef) w):wpOps P ops Q (j::js) a w:=by
 simp only[wpOps,ho,hw];simpa using h
def Qw{n:Nat}{ops:Array Oper}{i:AI}{o:Oper}(h:W5 P G n ops i o=true):i.dst=o.dst/\(match i.dst with | some d=>decide (d<n) | none=>true)=true/\okG n ops i.g o.guard=true/\(match i.op with | .call f xs=>Zd P G f xs o.op | .callv s xs=>Yx P G s xs o.op | ao=>W4 P G ao o.op)=true:=by
 unfold W5 at h;simp only[Af,beq_iff_eq]at h;exact⟨h.1,h.2.1,h.2.2.1,h.2.2.2⟩
def Amp{f:FuncId}{fn:Func}{c:Code}{args:Array Value}{w:World}(hf:P.funcs[f]?=some fn)(hb:fn.body=some c)(hn:fn.name ≠ "runtime.NumGoroutine"):(callFunc f args).run P w=.ok (.enter f args) w:=by
 have wf:(fn.name == "runtime.NumGoroutine")=false:=by simpa using hn
 simp[callFunc,program,Sem.run,hf,hb,hn]
def A1x{a:Act}{o:Oper}{w:World}{f:FuncId}{fn:Func}{c:Code}{args:Array Operand}{ts:Array TypeId}(ho:o.op=.call { callee:=.value (.func f),args,argTypes:=ts })(hf:P.funcs[f]?=some fn)(hb:fn.body=some c)(hn:fn.name ≠ "runtime.NumGoroutine") :
  (execOp a.eval o).run P w=.ok (.enter f (args.map a.eval)) w:=by
 have:=Amp (P:=P) (args:=args.map a.eval) (w:=w) hf hb hn;simp[execOp,ho,resolve,Deferred.ofValue,Act.eval,invoke,this]
def Azj{a:Act}{o:Oper}{w:World}{f:FuncId}{fn:Func}{c:Code}{x:Operand}{args:Array Operand}{ts:Array TypeId}{ua uc:Array Value}(ho:o.op=.call { callee:=.value x,args,argTypes:=ts })(hx:a.eval x=.func (.func f) ua uc)(hf:P.funcs[f]?=some fn)(hb:fn.body=some c)(hn:fn.name ≠ "runtime.NumGoroutine") :
  (execOp a.eval o).run P w=.ok (.enter f (ua++args.map a.eval++uc)) w:=by
 have:=Amp (P:=P) (args:=ua++args.map a.eval++uc) (w:=w) hf hb hn;simp only[Array.append_assoc]at this ⊢;simp[execOp,ho,resolve,Deferred.ofValue,hx,invoke,this]
def Ayd{s:S}{xs:List S}{op:Op}(h:Yx P G s xs op=true):∃ x args ts,op=.call { callee:=.value x,args,argTypes:=ts }/\B0 G s x=true/\Mv G xs args.toList=true:=by
 unfold Yx at h
 split at h
 .simp only[Af]at h;exact⟨_,_,_,rfl,h.1,h.2⟩
 .cases h
def Arm(args:Array Operand)(f:Operand->Value):args.map f=(args.toList.map f).toArray:=by
 have:=(args.map f).toArray_toList;rw[Array.toList_map]at this;exact this.symm
def Apc{γ:Gh}{w:World}{vs jf:List V}{us us':List Value}(h:vs.length=us.length/\∀ j,j<vs.length->RepV γ w (vs.getD j .und) (us.getD j undef))(h':jf.length=us'.length/\∀ j,j<jf.length->RepV γ w (jf.getD j .und) (us'.getD j undef)):
  (vs++jf).length=(us++us').length/\∀ j,j<(vs++jf).length->RepV γ w ((vs++jf).getD j .und) ((us++us').getD j undef):=by
 refine⟨by simp[h.1,h'.1],fun j hj=>?_⟩;simp only[Av];by_cases hl:j<vs.length
 .rw[B6 hl,B6 (by rw[<-h.1];exact hl)];simpa[Av] using h.2 j hl
 .rw[Co (by omega),Co (by rw[<-h.1];omega),<-h.1];have:=h'.2 (j - vs.length) (by simp at hj;omega);simpa[Av] using this
def Vb{n N:Nat}{γ:Gh}{σ:St}{w:World}{e:Env}{a:Act}{ops:Array Oper}{i:AI}{o:Oper}{f:Nat}{vs:List V}{fn:Func}{c:Code}(qa:(match i.op with | .call f xs=>Zd P G f xs o.op | .callv s xs=>Yx P G s xs o.op | ao=>W4 P G ao o.op)=true)(hc:B9 e i.op=some (f,vs))(hE:RepE γ w e a.tmps)(hI:Inv G N γ σ w)
  (hf:P.funcs[f]?=some fn) (hb:fn.body=some c) (hn:fn.name ≠ "runtime.NumGoroutine") :
  ∃ us:List Value,(execOp a.eval o).run P w=.ok (.enter f us.toArray) w/\vs.length=us.length/\∀ j,j<vs.length->RepV γ w (vs.getD j .und) (us.getD j undef):=by
 have args:∀ {xs:List S} {os:Array Operand},Mv G xs os.toList=true->(xs.map (Ab e)).length=(os.toList.map a.eval).length/\∀ j,j<(xs.map (Ab e)).length->RepV γ w ((xs.map (Ab e)).getD j .und) ((os.toList.map a.eval).getD j undef):=fun {xs os} jV=>by
  obtain⟨l1,g1⟩:=Ab7 (a:=a) hE hI jV;refine⟨by simpa using l1,fun j hj=>?_⟩;have vd:j<xs.length:=by simpa using hj
  have vc:j<os.toList.length:=by omega
  have:=g1 j xs[j] os.toList[j] (Bc vd) (Bc vc);rw[show(xs.map (Ab e)).getD j .und=Ab e xs[j] by simp[Av,vd],show(os.toList.map a.eval).getD j undef=a.eval os.toList[j] by rw[Av,Aj,Bc vc];rfl];exact this
 generalize i.op=op at qa hc
 cases op with
 | call f' xs=>
  simp only[B9]at hc;cases hc;obtain⟨os,ts,kH,jV⟩:=Azi qa;refine⟨os.toList.map a.eval,?_,args jV⟩;rw[A1x kH hf hb hn,Arm]
 | callv s xs=>
  simp only[B9]at hc
  split at hc
  .rename_i f' as cs hs;cases hc;obtain⟨x,os,ts,kH,h1,jV⟩:=Ayd qa;have hr:=Yr (a:=a) h1 hE hI;rw[hs]at hr;obtain⟨ua,uc,hu,vI,vJ,vT,vU⟩:=Ah2 (Az rfl hr);refine⟨ua++os.toList.map a.eval++uc,?_,Apc (Apc ⟨vI,fun j hj=>C1 (vT j hj)⟩ (args jV)) ⟨vJ,fun j hj=>C1 (vU j hj)⟩⟩;rw[Azj kH hu hf hb hn,Arm];simp
  .cases hc
 | _=>simp[B9]at hc
