/- THE PLAIN MACHINE, joined texts: Kj Kk Kl Km Kn Ko Kp Kq. -/
import Derived.Test.YthlbbjcbmojocabGreatDoorA1
import Derived.Lib.AppendStr
import Derived.Laws.BytesArg
import Derived.Laws.BytesString
import Derived.Lib.ConvBytes
import Derived.Laws.StructEq
import Derived.Orders
set_option linter.all false
/- append (second form). -/
namespace Go.Proofs.YthlbbjcbmojocabGreatDoor.KM
open Go Go.RowKit
variable {P:Program} {G:List (Nat × List V)} {N:Nat} {γ:Gh} {σ σ1:St} {w:World} {e:Env} {a:Act} {o:Oper} {v:V}
def CellsIn(γ:Gh)(w:World)(cs:List V)(us:List Value):Prop:=cs.length=us.length/\∀ j,j<cs.length->RepC γ w (cs.getD j .und) (us.getD j undef)
def CellsIn.ext{γ γ':Gh}{w w':World}{cs:List V}{us:List Value}(hx:Ext γ w γ' w')(h:CellsIn γ w cs us):CellsIn γ' w' cs us:=⟨h.1,fun j hj=>(h.2 j hj).ext hx⟩
def CellsIn.app{cs ds:List V}{us vs:List Value}(h:CellsIn γ w cs us)(g:CellsIn γ w ds vs):CellsIn γ w (cs++ds) (us++vs):=by
 refine⟨by simp[h.1,g.1],fun j hj=>?_⟩;simp only[Au];by_cases hl:j<cs.length
 .rw[Ca hl,Ca (by rw[<-h.1];exact hl)];simpa[Au] using h.2 j hl
 .rw[Cd (by omega),Cd (by rw[<-h.1];omega),<-h.1];have:=g.2 (j - cs.length) (by simp at hj;omega);simpa[Au] using this
def CellsIn.one{cs:List V}{us:List Value}(h:CellsIn γ w cs us):∀ u∈us,u.oneCell'=true:=by
 intro u hu;obtain⟨j,hj,rfl⟩:=Pq hu;have:=(Pu (h.2 j (by rw[h.1];exact hj))).2;simpa[Au,hj] using this
def Py{m:Nat}:∀ {xs:List (List V)},(∀ i,i<xs.length->(xs.getD i []).length=m)->xs.flatten.length=xs.length*m
 | [],_=>by simp
 | x::xs,h=>by
  have h0:x.length=m:=by simpa using h 0 (by simp)
  rw[D3,Aj,Py (m:=m) (xs:=xs) (fun i hi=>by simpa using h (i+1) (by simpa using hi)),h0,Ah,E1];omega
def Ae5{m:Nat}:∀ {xs:List (List V)},(∀ i,i<xs.length->(xs.getD i []).length=m)->∀ i j,i<xs.length->j<m->xs.flatten.getD (i*m+j) .und=(xs.getD i []).getD j .und
 | [],_,i,j,hi,_=>by simp at hi
 | x::xs,h,i,j,hi,hj=>by
  have h0:x.length=m:=by simpa using h 0 (by simp)
  have hr:∀ i,i<xs.length->(xs.getD i []).length=m:=fun i hi=>by simpa using h (i+1) (by simpa using hi)
  cases i with
  | zero=>
   simp only[Au,D3,Ad0,Fc];rw[Ca (by omega)];rfl
  | succ i=>
   have ih:=Ae5 hr i j (by simpa using hi) hj;simp only[Au,D3]at ih ⊢;rw[Cd (by rw[h0,E1];omega),show(i+1)*m+j - x.length=i*m+j by rw[h0,E1];omega,ih];simp
def Ws(m:Nat):∀ (n:Nat) (cs:List V),n*m<=cs.length->(E6 m n cs).flatten=cs.take (n*m)
 | 0,cs,_=>by simp[E6]
 | n+1,cs,h=>by
  rw[E1]at h;rw[E6,D3,Ws m n _ (by simp;omega),E1,Z0 (n*m) m,List.take_add]
def Adx{xs:List (List V)}{ad:Addr}{cap m:Nat}(hm:0<m)(hw:∀ i,i<xs.length->(xs.getD i []).length=m)(h:RepR γ.κ w (.lst 0 xs) (.slice (some ad) xs.length cap)):
  ∃ us:List Value,CellsIn γ w xs.flatten us/\∀ j u,us[j]?=some u->w.cell? (ad.add j)=some u:=by
 cases h with
 | @lst _ _ _ _ m' row h1 h2 h3 h4 h5 h6 h7=>
 have H4:=Lib.hid h4;clear h4;have ka:0<xs.length->m'=m:=fun hl=>by rw[<-h5 0 hl,hw 0 hl]
 refine⟨(List.range (xs.length*m)).map fun q=>row (q / m) (q % m),⟨by rw[Py hw];simp,fun j hj=>?_⟩,fun j u hj=>?_⟩
 .rw[Py hw]at hj
  have hl:0<xs.length:=by
   rcases Wc xs.length with h | h
   .rw[h]at hj;simp at hj
   .exact h
  obtain rfl:=ka hl;have hd:j / m'<xs.length:=Nat.div_lt_of_lt_mul (by rw[Ts];exact hj);have hr:j % m'<m':=Pt _ hm;have kj:j / m'*m'+j % m'=j:=by rw[Ts];exact Nat.div_add_mod j m'
  have e0:=Ae5 hw (j / m') (j % m') hd hr;rw[kj]at e0;rw[e0]
  have e1:((List.range (xs.length*m')).map fun q=>row (q / m') (q % m')).getD j undef=row (j / m') (j % m'):=by
   simp[Au,hj]
  rw[e1];exact .row (h7 _ _ hd hr)
 .have qA:j<xs.length*m:=by
   have:=(Aq.1 hj).1;simpa using this
  have hl:0<xs.length:=by
   rcases Wc xs.length with h | h
   .rw[h]at qA;simp at qA
   .exact h
  obtain rfl:=ka hl;have hs:=(H4.out hl).1;have hd:j / m'<xs.length:=Nat.div_lt_of_lt_mul (by rw[Ts];exact qA);have hr:j % m'<m':=Pt _ hm;have hc:=h6 (j / m') (j % m') hd hr;have kj:j / m'*m'+j % m'=j:=by rw[Ts];exact Nat.div_add_mod j m'
  rw[To,kj]at hc;simp[qA]at hj;subst hj;obtain⟨b,of,sp⟩:=ad;simp at hs;subst hs;rw[Jo];exact hc
def Adr{o:Obj}(h:N<=w.heap.size):Below N w (w.drew.alloc o):=((Below.refl N w).drew).alloc h o
def Al5{us:List Value}{qC:Array Value}{j:Nat}(h:j<us.length):(us.toArray++qC).getD j undef=us.getD j undef:=by
 rw[Array.getD_eq_getD_getElem?,Array.getElem?_append_left (by simpa using h),Rh,Au]
def Al6{cs:List V}{us:List Value}{qC:Array Value}{el:TypeId}{n cap m:Nat}{r:Result Next}(hI:Inv G N γ σ w)(hc:CellsIn γ w cs us)(hn:n<=cap)(kX:cap<=maxLen)(qN:(us.toArray++qC).size=cap*m)
  (h:r=.ok (.value (.slice (some ⟨w.heap.size,0,none⟩) n cap)) (w.drew.alloc (.cells (us.toArray++qC) el))):Co P G N γ σ w r (.sl σ.length 0 0 n m true) (σ++[.row cs el 0 0]):=by
 obtain⟨d1,d2⟩:=hI.drew
 obtain⟨i1,i2⟩:=d1.newRow (us.toArray++qC) el cs (by rw[hc.1];simp) (fun j hj=>by
  rw[Al5 (by rw[<-hc.1];exact hj)]
  exact(hc.2 j hj).ext d2)
 refine⟨_,_,_,.inl h,C5 (Abx ?_ ?_ hn kX),i1,d2.trans i2,Adr hI.base,fun b hb=>Lm _ _ (by have:=hI.base;show b≠w.heap.size;omega)⟩
 .show(γ.O++[(w.heap.size,0)])[σ.length]?=_;rw[<-hI.len];simp
 .have:=W2 w.drew (us.toArray++qC) el (0,0);rw[show w.drew.heap.size=w.heap.size from rfl]at this;rw[this,qN]
def Agq{x:V}{ux:Value}{ys:List (List V)}{news:List Value}{m bytes:Nat}{el:TypeId}{r:Result Next}(hI:Inv G N γ σ w)(hx:RepV γ w x ux)(hy:CellsIn γ w ys.flatten news)
  (jc:ys.length=0->∀ (b:Option Addr) (n c:Nat),n<=c->ux=.slice b n c->r=.ok (.value (.slice b n c)) w)
  (kS:0<ys.length->ys.length*bytes<=140737488355328->ux=.slice none 0 0->∃ cap qC,r=.ok (.value (.slice (some ⟨w.heap.size,0,none⟩) ys.length cap)) (w.drew.alloc (.cells (news.toArray++qC) el))/\ys.length<=cap/\cap<=maxLen/\(news.toArray++qC).size=cap*m)
  (ji:∀ (g n cap:Nat) (qq:Array Value) (e':TypeId) (fz:Nat × Nat),w.heap[g]?=some (.cells qq e' fz)->(fz.2<=n*m\/qq.size<=fz.1)->0<ys.length->n+ys.length<=cap->qq.size=cap*m->ux=.slice (some ⟨g,0,none⟩) n cap ->
   r=.ok (.value (.slice (some ⟨g,0,none⟩) (n+ys.length) cap)) (w.setRow g (qq.toList.take (n*m)++news++qq.toList.drop (n*m+news.length)).toArray))
  (jh:∀ (b:Addr) (n cap:Nat) (qp:List Value),qp.length=n*m->(∀ j u,qp[j]?=some u->w.cell? (b.add j)=some u)->0<ys.length->cap<n+ys.length->(n+ys.length)*bytes<=140737488355328->n+ys.length<=maxLen->ux=.slice (some b) n cap ->
   ∃ qK qC,r=.ok (.value (.slice (some ⟨w.heap.size,0,none⟩) (n+ys.length) qK)) (w.drew.alloc (.cells (qp.toArray++news.toArray++qC) el))/\n+ys.length<=qK/\qK<=maxLen/\(qp.toArray++news.toArray++qC).size=qK*m)
  (qu:∀ k,k*bytes<=140737488355328->k<=maxLen)
  (h:J5 bytes (m,el) σ x ys=some (v,σ1)):Co P G N γ σ w r v σ1:=by
 have qo:ys.isEmpty=true↔ys.length=0:=by cases ys<;>simp
 unfold J5 at h
 split at h
 .rename_i jF;obtain⟨jk,hm⟩:=jF;have hm:0<m:=hm
  have vj:∀ i,i<ys.length->(ys.getD i []).length=m:=fun i hi=>by
   have:=Bh.1 jk (ys.getD i []) (by rw[Au,A2 hi];exact Fj hi);exact eq_of_beq this
  have qU:news.length=ys.length*m:=by rw[<-hy.1,Py vj]
  split at h
  .have hu:=Ln (Ay rfl hx)
   split at h
   .rename_i qn
    split at h
    .rename_i ja;cases h;exact Ce hI (jc (qo.1 ja) none 0 0 (Ai _) hu) (C5 (.row .nils))
    .rename_i ja;cases h;have qG:0<ys.length:=Nat.pos_of_ne_zero fun h=>ja (qo.2 h)
     obtain⟨cap,qC,hr,jG,jH,jl⟩:=kS qG qn hu;exact Al6 hI hy jG jH jl hr
   .cases h
  .rename_i t xs;have kP:=Ay rfl hx;obtain⟨ad,cap,hu,hR,jI⟩:=Ot kP
   split at h
   .rename_i qn
    split at h
    .rename_i ja;cases h;exact Ce hI (jc (qo.1 ja) _ _ _ (by cases hR with | lst row h1 h2 h3=>exact h2) hu) (by rw[<-hu];exact hx)
    .rename_i ja;have qG:0<ys.length:=Nat.pos_of_ne_zero fun h=>ja (qo.2 h)
     split at h
     .rename_i ht;cases h
      have hw:∀ i,i<xs.length->(xs.getD i []).length=m:=fun i hi=>by
       have:=Bh.1 ht.2 (xs.getD i []) (by rw[Au,A2 hi];exact Fj hi);exact eq_of_beq this
      obtain⟨qp,jg,jR⟩:=Adx hm hw hR;have wb:=jI ht.1;obtain⟨qK,qC,hr,jG,jH,jl⟩:=jh ad xs.length cap qp (by rw[<-jg.1,Py hw]) jR qG (by omega) qn (qu _ qn) hu;rw[show qp.toArray++news.toArray=(qp++news).toArray by simp]at hr jl;exact Al6 hI (jg.app hy) jG jH jl hr
     .cases h
   .cases h
  .rename_i i g off len m' own;have kP:=Ay rfl hx
   split at h
   .rename_i vu;obtain⟨qn,ka⟩:=vu;obtain rfl:m=m':=Eq.symm ka
    split at h
    .rename_i cs ee g' z qI
     split at h
     .rename_i hg;subst hg;obtain⟨blk,cap,o',hb,hu,ju,qN,jm,jP⟩:=Xh (o':=0) hI kP (by simp[Mt,qI]);obtain⟨_,wc,wh,us,lo,hi,g1,⟨_,kf⟩,g2,g3⟩:=hI.obj i _ _ qI hb
      split at h
      .rename_i ja;cases h;exact Ce hI (jc (qo.1 ja) _ _ _ jm hu) (by rw[<-hu];exact hx)
      .rename_i ja;have qG:0<ys.length:=Nat.pos_of_ne_zero fun h=>ja (qo.2 h)
       split at h
       .rename_i hc;obtain⟨jv,rfl,vw,vl⟩:=hc;obtain rfl:el=ee:=Eq.symm vw;have jX:us.size=cap*m:=by have:=qN jv;simp[Ea,g1]at this;exact this
        have g1:w.heap[blk]?=some (.cells us el (lo,hi)):=g1;have jE:(len+ys.length)*m=len*m+ys.length*m:=Ng _ _ _
        have kZ:hi<=len*m\/us.size<=lo:=by
         rcases kf with h | h
         .exact .inl (by omega)
         .exact .inr h
        have qO:∀ j,j<cs.length->RepC γ w (cs.getD j .und) (us.toList.getD j undef):=fun j hj=>by
         have:=g3 j hj;simpa[Array.getD_eq_getD_getElem?,Au] using this
        split at h
        .-- Ey what it has
         rename_i jC;cases h;have qd:len+ys.length<=cap:=Nat.le_of_mul_le_mul_right (by omega) hm;have qZ:ux=.slice (some ⟨blk,0,none⟩) len cap:=by rw[hu,ju (by omega)]
         have hr:=ji blk len cap us el (lo,hi) g1 kZ qG qd jX qZ;have qW:((us.toList.take (len*m)++news++us.toList.drop (len*m+news.length)).toArray).size=us.size:=by simp;omega
         have kW:(cs.take (len*m)++ys.flatten++cs.drop ((len+ys.length)*m)).length=cs.length:=by
          rw[Aj,Aj,hy.1,qU];simp;omega
         obtain⟨i1,i2⟩:=hI.write (us':=(us.toList.take (len*m)++news++us.toList.drop (len*m+news.length)).toArray) (cs':=cs.take (len*m)++ys.flatten++cs.drop ((len+ys.length)*m)) (g':=g) hb qI g1 ⟨by assumption,kf⟩ (Ai _) (by omega) qW (by omega) (fun q hq=>by
          rw[Rh,Uq _ _ _ _ (by simp;omega),if_pos (by omega),Array.getElem?_toList]) (fun j hj=>by
          rw[kW]at hj;rw[Array.getD_eq_getD_getElem?,Rh,Au,jE,show ys.length*m=ys.flatten.length by rw[Py vj],Uq _ _ _ _ (by rw[hy.1,qU];omega),Uq _ _ _ _ (by simp;omega),hy.1]
          split
          .have:=qO j hj;simpa[Au] using this
          .split
           .have:=hy.2 (j - len*m) (by rw[hy.1];omega);simpa[Au] using this
           .have:=qO j hj
            simpa[Au] using this)
         rw[show(blk,g).1=blk from rfl,Or hb]at i1 i2;refine⟨_,_,_,.inl hr,C5 (.sl hb (Ai _) qd jP (fun _=>rfl) (fun _=>⟨rfl,fun _=>?_⟩)),i1,i2,Zx _ (hI.low _ _ hb),fun _ _=>rfl⟩;rw[Ad4 w blk g1 qW,qN jv]
        .split at h
         .rename_i vN jK;cases h;have kW:(cs++ys.flatten).length=(len+ys.length)*m:=by rw[Aj,hy.1,qU,jK,jE]
          have vg:us.toList.take (len*m)=us.toList.take cs.length:=by rw[jK]
          have jn:CellsIn γ w cs (us.toList.take (len*m)):=⟨by simp;omega,fun j hj=>by
           have:=qO j hj
           simpa[Au,Fi,show j<len*m by omega] using this⟩
          by_cases qd:len+ys.length<=cap
          .-- grown in its place
           have qZ:ux=.slice (some ⟨blk,0,none⟩) len cap:=by rw[hu,ju (by omega)]
           have hr:=ji blk len cap us el (lo,hi) g1 kZ qG qd jX qZ;have vJ:(len+ys.length)*m<=cap*m:=Fq _ qd;have qW:((us.toList.take (len*m)++news++us.toList.drop (len*m+news.length)).toArray).size=us.size:=by simp;omega
           obtain⟨i1,i2⟩:=hI.write (us':=(us.toList.take (len*m)++news++us.toList.drop (len*m+news.length)).toArray) (cs':=cs++ys.flatten) (g':=g+1) hb qI g1 ⟨by assumption,kf⟩ (by omega) (by omega) qW (by omega) (fun q hq=>by
            rw[Rh,Uq _ _ _ _ (by simp;omega),if_pos (by omega),Array.getElem?_toList]) (fun j hj=>by
            have:=(jn.app hy).2 j hj;have qJ:j<(us.toList.take (len*m)++news).length:=by rw[<-(jn.app hy).1];exact hj
            rw[Array.getD_eq_getD_getElem?,Rh,Ca qJ]
            simpa[Au] using this)
           refine⟨_,_,_,.inl hr,C5 (.sl (blk:=blk) (g':=g+1) ?_ (Ai _) qd jP (fun _=>rfl) (fun _=>⟨rfl,fun _=>?_⟩)),i1,i2,Zx _ (hI.low _ _ hb),fun _ _=>rfl⟩
           .show(γ.O.set i (blk,g+1))[i]?=_;rw[Ci (Aq.1 hb).1]
           .rw[Ad4 w blk g1 qW,qN jv]
          .-- moved
           have qz:∀ j u,(us.toList.take (len*m))[j]?=some u->w.cell? ((⟨blk,o',none⟩:Addr).add j)=some u:=fun j u hj=>by
            have qF:j<len*m:=by have:=(Aq.1 hj).1;simp at this;omega
            have ve:0<len:=by
             rcases Wc len with h | h
             .rw[h]at qF;simp at qF
             .exact h
            rw[ju (by omega),Jo];rw[Fi,if_pos qF,Array.getElem?_toList]at hj;simpa[World.cell?,g1] using hj
           obtain⟨qK,qC,hr,jG,jH,jl⟩:=jh ⟨blk,o',none⟩ len cap (us.toList.take (len*m)) (by simp;omega) qz qG (by omega) qn (qu _ qn) hu;rw[show(us.toList.take (len*m)).toArray++news.toArray=(us.toList.take (len*m)++news).toArray from(List.append_toArray _ _)]at hr jl;obtain⟨d1,d2⟩:=hI.drew;have jJ:=jn.app hy
           obtain⟨i1,i2⟩:=d1.moved (us':=(us.toList.take (len*m)++news).toArray++qC) (cs':=cs++ys.flatten) hb qI (by omega) (by rw[jJ.1];simp only[Array.size_append,Wd];omega) (fun j hj=>by
            rw[Al5 (by rw[<-jJ.1];exact hj)]
            exact(jJ.2 j hj).ext d2)
           refine⟨_,_,_,.inl hr,C5 (.sl (blk:=w.heap.size) (g':=g+1) ?_ (Ai _) jG jH (fun _=>rfl) (fun _=>⟨rfl,fun _=>?_⟩)),i1,d2.trans i2,Adr hI.base,fun b hb=>Lm _ _ (by have:=hI.base;show b≠w.heap.size;omega)⟩
           .show(γ.O.set i (w.heap.size,g+1))[i]?=_;rw[Ci (Aq.1 hb).1]
           .have:=W2 w.drew ((us.toList.take (len*m)++news).toArray++qC) el (0,0);rw[show w.drew.heap.size=w.heap.size from rfl]at this;rw[this,jl,Fc]
         .cases h
       .cases h
     .cases h
    .cases h
   .cases h
  .cases h
 .cases h
open Go Go.RowKit
variable {P:Program} {G:List (Nat × List V)} {N:Nat} {γ:Gh} {σ σ1:St} {w:World} {e:Env} {a:Act} {o:Oper} {v:V}
def Ate(t ty e:TypeId)(i:TypeInfo)(ht:P.underlying t=some (.slice e))(hi:P.info? e=some i)
  (g qh qH:Nat) (qq:Array Value) (e':TypeId) (fz:Nat × Nat) (hg:w.heap[g]?=some (.cells qq e' fz)) (jp:fz.2<=qh*i.size\/qq.size<=fz.1)
  (b:Addr) (m c:Nat) (news:List Value) (hl:news.length=m*i.size) (qT:∀ j u,news[j]?=some u->w.cell? (b.add j)=some u) (h1:∀ u∈news,u.oneCell'=true)
  (qd:qh+m<=qH) (jo:qh*i.size+news.length<=qq.size) :
  (Builtin.append_ #[t,t] ty #[.slice (some ⟨g,0,none⟩) qh qH,.slice (some b) m c]).run P w =
   .ok (.slice (some ⟨g,0,none⟩) (qh+m) qH) (w.setRow g (qq.toList.take (qh*i.size)++news++qq.toList.drop (qh*i.size+news.length)).toArray):=by
 have hf:=run_firstCells_some (P:=P) w i.size m b m c news hl qT;have jW:=Ze P g (qh*i.size) e' fz news 0 qq w hg (by simpa using jp) (by simpa using jo) h1;simp only[Ok]at jW;simp[Builtin.append_,run_underlying ht,sizeOf,typeInfo,hi,Builtin.lenOf,qd,hf,Addr.add_lit,jW]
def Aub{bytes:Nat}{m:Nat × Nat}{x:V}{ys:List (List V)}(h:J5 bytes m σ x ys=some (v,σ1)):∀ i,i<ys.length->(ys.getD i []).length=m.1:=by
 unfold J5 at h
 split at h
 .rename_i jk;intro i hi;have:=Bh.1 jk.1 (ys.getD i []) (by rw[Au,A2 hi];exact Fj hi);exact eq_of_beq this
 .cases h
def Az9{t el:TypeId}{fi:TypeInfo}{z:Value}{x y:Operand}{s1 s2:S}(ho:o.op=.call { callee:=.builtin .append,args:=#[x,y],argTypes:=#[t,t] })(ht:P.underlying t=some (.slice el))(qj:P.info? el=some fi)(hz:fi.zero=some z)(hzs:z.cells.size=fi.size)(qN:0<fi.size)(jz:0<fi.bytes)
  (hx:RepV γ w (Ac e s1) (a.eval x)) (hy:RepV γ w (Ac e s2) (a.eval y)) (hI:Inv G N γ σ w)
  (h:Ae (.app fi.bytes (fi.size,el) s1 s2) e σ=some (v,σ1)):Co P G N γ σ w ((execOp a.eval o).run P w) v σ1:=by
 simp only[Ae,D7]at h;obtain⟨ys,qr,h⟩:=h;have qw:=Aub h
 have qu:∀ k,k*fi.bytes<=140737488355328->k<=maxLen:=fun k hk=>by
  have:k<=k*fi.bytes:=Za _ jz
  unfold maxLen;omega
 have qx:∀ {u:Value} {w':World},(Builtin.append_ #[t,t] o.type #[a.eval x,a.eval y]).run P w=.ok u w'->(execOp a.eval o).run P w=.ok (.value u) w':=fun hr=>by
  simp only[execOp,ho,resolve,invoke,builtin,Sem.run_bind,Sem.run_pure,Result.andThen_ok,List.map_toArray,Aw,B6,hr]
 have kL:(ys=[]/\a.eval y=.slice none 0 0)\/∃ ad c news,a.eval y=.slice (some ad) ys.length c/\CellsIn γ w ys.flatten news/\∀ j u,news[j]?=some u->w.cell? (ad.add j)=some u:=by
  unfold Fy at qr
  split at qr
  .rename_i e2;rw[e2]at hy;cases qr;exact .inl ⟨rfl,Ln (Ay rfl hy)⟩
  .rename_i t' vZ e2;rw[e2]at hy;cases qr;obtain⟨ad,c,hu,hR,_⟩:=Ot (Ay rfl hy);obtain⟨news,h1,h2⟩:=Adx qN qw hR;exact .inr ⟨ad,c,news,hu,h1,h2⟩
  .rename_i i g off len m' own e2;rw[e2]at hy
   split at qr
   .rename_i cs ee g' z qI
    split at qr
    .rename_i hc;obtain⟨rfl,rfl,qM⟩:=hc;cases qr;obtain⟨blk,cap,o',hb,hu,ju,_,jm,_⟩:=Xh (o':=0) hI (Ay rfl hy) (by simp[Mt,qI]);obtain⟨_,_,_,us,lo,hi,g1,_,g2,g3⟩:=hI.obj i _ _ qI hb;have g1:w.heap[blk]?=some (.cells us ee (lo,hi)):=g1;refine .inr ⟨⟨blk,o',none⟩,cap,(us.toList.drop off).take (len*fi.size),by rw[hu,W1],⟨?_,fun j hj=>?_⟩,fun j u hj=>?_⟩
     .rw[Ws _ _ _ (by simp;omega)];simp;omega
     .rw[Ws _ _ _ (by simp;omega)]at hj ⊢;have qA:j<len*fi.size/\off+j<cs.length:=by simp at hj;omega
      have:=g3 (off+j) qA.2;simpa[Au,Fi,Ii,qA.1,Array.getD_eq_getD_getElem?] using this
     .have qF:j<len*fi.size:=by have:=(Aq.1 hj).1;simp at this;omega
      have kA:0<len:=by
       rcases Wc len with h | h
       .rw[h]at qF;simp at qF
       .exact h
      rw[ju (by omega),Jo];rw[Fi,if_pos qF,Ii,Array.getElem?_toList]at hj;simpa[World.cell?,g1] using hj
    .cases qr
   .cases qr
  .cases qr
 rcases kL with⟨rfl,hu⟩ | ⟨ad,c,news,hu,kC,kD⟩
 .refine Agq (news:=[]) (el:=el) (bytes:=fi.bytes) hI hx ⟨by simp,fun i hi=>absurd hi (by simp)⟩ (fun _ b n c jQ qk=>qx ?_) (fun h=>absurd h (by simp)) (fun _ _ _ _ _ _ _ _ h=>absurd h (by simp)) (fun _ _ _ _ _ _ h=>absurd h (by simp)) qu h
  .rw[qk,hu]
   cases b<;>simp[Builtin.append_,run_underlying ht,sizeOf,typeInfo,qj,Builtin.lenOf,Builtin.firstCells,storeCells,jQ]
 .have qU:news.length=ys.length*fi.size:=by rw[<-kC.1,Py qw]
  have kF:=kC.one;refine Agq (news:=news) (el:=el) (bytes:=fi.bytes) hI hx kC (fun h0 b n c' jQ qk=>qx ?_) (fun hp hb qk=>?_) (fun g n cap qq e' fz hg jp hp qd qI qk=>qx ?_) (fun b n cap qp jg jR _ hc hb hm qk=>?_) qu h
  .have wf:news=[]:=Adj (by rw[qU,h0];simp);rw[qk,hu,h0]
   cases b<;>simp[Builtin.append_,run_underlying ht,sizeOf,typeInfo,qj,Builtin.lenOf,Builtin.firstCells,loadCells,loadCellsFrom,storeCells,jQ]
  .have hr:=run_append_nil (P:=P) w t o.type el fi z ht qj hz ad ys.length c news qU kD hp (by have:=qu _ hb;unfold maxLen at this;omega) (by omega);refine⟨_,_,qx (by rw[qk,hu];exact hr),grownCap_ge _ _ _ _,grownCap_le_maxLen _ _ _ _ (qu _ hb),?_⟩;have:=grownCap_ge w ys.length 0 el;simp only[Array.size_append,Wd,size_zeroCells,hzs,qU,<-Ng];congr 1;omega
  .rw[qk,hu];refine Ate (P:=P) t o.type el fi ht qj g n cap qq e' fz hg jp ad ys.length c news qU kD kF qd ?_;rw[qU,qI,<-Ng];exact Fq _ qd
  .have hr:=run_append_grow (P:=P) w t o.type el fi z ht qj hz b n cap qp jg jR ad ys.length c news qU kD hc (by unfold maxLen at hm;omega) (growslice_fits hc hb);refine⟨_,_,qx (by rw[qk,hu];exact hr),grownCap_ge _ _ _ _,grownCap_le_maxLen _ _ _ _ hm,?_⟩;have:=grownCap_ge w (n+ys.length) cap el;simp only[Array.size_append,Wd,size_zeroCells,hzs,qU,jg,<-Ng];congr 1;omega
def Atd(t u ty e:TypeId)(i:TypeInfo)(ht:P.underlying t=some (.slice e))(hu:P.underlying u=some .string)(hi:P.info? e=some i)(jS:i.size=1)
  (g qh qH:Nat) (qq:Array Value) (e':TypeId) (fz:Nat × Nat) (hg:w.heap[g]?=some (.cells qq e' fz)) (jp:fz.2<=qh\/qq.size<=fz.1) (s:ByteArray)
  (qd:qh+s.size<=qH) (jo:qh+s.size<=qq.size) :
  (Builtin.append_ #[t,u] ty #[.slice (some ⟨g,0,none⟩) qh qH,.string s]).run P w =
   .ok (.slice (some ⟨g,0,none⟩) (qh+s.size) qH) (w.setRow g (qq.toList.take qh++Lib.strCells s++qq.toList.drop (qh+s.size)).toArray):=by
 have hf:=Lib.run_firstCells_string (P:=P) w 1 s;have jW:=Ze P g qh e' fz (Lib.strCells s) 0 qq w hg (by simpa using jp) (by simpa[Lib.strCells_length] using jo) (Lib.strCells_oneCell s);simp only[Ok,Lib.strCells_length]at jW;simp[Builtin.append_,run_underlying ht,run_underlying hu,sizeOf,typeInfo,hi,jS,Builtin.lenOf,qd,hf,Addr.add_lit,jW]
def Tr(l:List UInt8):(Be l).length=l.length:=by simp[Be]
def Ath(l:List UInt8)(i:Nat)(h:i<l.length):(Be l).getD i []=[V.int .u8 (l[i].toNat:Int)]:=by
 simp[Be,Au,h]
def Zt(l:List UInt8):(Be l).flatten=l.map fun c=>V.int .u8 (c.toNat:Int):=by
 induction l with
 | nil=>rfl
 | cons c l ih=>simp[Be]at ih ⊢;exact ih
def Ajp(l:List UInt8):CellsIn γ w (Be l).flatten (Lib.strCells ⟨l.toArray⟩):=by
 rw[Zt];refine⟨by simp[Lib.strCells],fun j hj=>?_⟩;have qA:j<l.length:=by simpa using hj
 have e1:(l.map fun c=>V.int .u8 (c.toNat:Int)).getD j .und=.int .u8 (l[j].toNat:Int):=by simp[Au,qA]
 have e2:(Lib.strCells ⟨l.toArray⟩).getD j undef=.int .u8 (l[j].toNat:Int):=by simp[Lib.strCells,Au,qA]
 rw[e1,e2];exact .row .int
def Aw2{t u el:TypeId}{fi:TypeInfo}{z:Value}{x y:Operand}{s1 s2:S}(ho:o.op=.call { callee:=.builtin .append,args:=#[x,y],argTypes:=#[t,u] })(ht:P.underlying t=some (.slice el))(hu:P.underlying u=some .string)(qj:P.info? el=some fi)(hz:fi.zero=some z)(hzs:z.cells.size=1)(qN:fi.size=1)(jz:fi.bytes=1)
  (hx:RepV γ w (Ac e s1) (a.eval x)) (hy:RepV γ w (Ac e s2) (a.eval y)) (hI:Inv G N γ σ w)
  (h:Ae (.apps el s1 s2) e σ=some (v,σ1)):Co P G N γ σ w ((execOp a.eval o).run P w) v σ1:=by
 simp only[Ae]at h
 split at h
 .rename_i l e2;rw[e2]at hy;obtain⟨hv,hl⟩:=Gf (Ay rfl hy);have qu:∀ k,k*1<=140737488355328->k<=maxLen:=fun k hk=>by unfold maxLen;omega
  have qx:∀ {u':Value} {w':World},(Builtin.append_ #[t,u] o.type #[a.eval x,a.eval y]).run P w=.ok u' w'->(execOp a.eval o).run P w=.ok (.value u') w':=fun hr=>by
   simp only[execOp,ho,resolve,invoke,builtin,Sem.run_bind,Sem.run_pure,Result.andThen_ok,List.map_toArray,Aw,B6,hr]
  have jd:(⟨l.toArray⟩:ByteArray).size=l.length:=I9 l;have kK:(Lib.strCells ⟨l.toArray⟩).length=l.length:=by rw[Lib.strCells_length,I9]
  refine Agq (news:=Lib.strCells ⟨l.toArray⟩) (el:=el) (bytes:=1) (m:=1) hI hx (Ajp l) (fun h0 b n c' jQ qk=>qx ?_) (fun hp hb qk=>?_) (fun g n cap qq e' fz hg jp hp qd qI qk=>qx ?_) (fun b n cap qp jg jR _ hc hb hm qk=>?_) qu h
  .rw[Tr]at h0;have kA:l=[]:=Adj h0;subst kA;rw[qk,hv]
   cases b<;>simp[Builtin.append_,run_underlying ht,run_underlying hu,sizeOf,typeInfo,qj,Builtin.lenOf,Builtin.firstCells,storeCells,I9,jQ]
  .rw[Tr]at hp hb ⊢;have hr:=run_append_nil_string (P:=P) w t u o.type el fi z ht hu qj hz ⟨l.toArray⟩ (by omega) (by rw[jd];omega) (by rw[jz,jd];omega);rw[jd]at hr;have ki:(Array.map (fun b:UInt8=>Value.int IntKind.u8 (b.toNat:Int)) (⟨l.toArray⟩:ByteArray).data)=(Lib.strCells ⟨l.toArray⟩).toArray:=by simp[Lib.strCells]
   rw[ki]at hr;refine⟨_,_,qx (by rw[qk,hv];exact hr),grownCap_ge _ _ _ _,grownCap_le_maxLen _ _ _ _ (qu _ hb),?_⟩;have:=grownCap_ge w l.length 0 el;simp only[Array.size_append,Wd,size_zeroCells,hzs,kK];omega
  .rw[Tr]at hp qd ⊢;have hr:=Atd (P:=P) (w:=w) t u o.type el fi ht hu qj qN g n cap qq e' fz hg (by simpa using jp) ⟨l.toArray⟩ (by rw[jd];omega) (by rw[jd];omega);rw[qk,hv,kK,Wn,hr,jd]
  .rw[Tr]at hc hb hm ⊢;have hr:=Lib.run_append_grow_string (P:=P) w t u o.type el fi z ht hu qj hz b n cap qp (by rw[qN];exact jg) jR ⟨l.toArray⟩ (by rw[jd];exact hc) (by rw[jd];unfold maxLen at hm;omega) (by rw[jd,jz];exact growslice_fits hc hb);rw[jd]at hr;refine⟨_,_,qx (by rw[qk,hv];exact hr),grownCap_ge _ _ _ _,grownCap_le_maxLen _ _ _ _ hm,?_⟩;have:=grownCap_ge w (n+l.length) cap el;simp only[Array.size_append,Wd,size_zeroCells,hzs,kK,jg];omega
 .cases h
def Al7{t:TypeId}{d:TypeDesc}{fi:TypeInfo}{n off:Nat}{one:Bool}{cs:List V}{us:List Value}{v:V}(ht:P.underlying t=some d)(hd:M6 d=!one)(qj:P.info? t=some fi)(hn:fi.size=n)
  (hl:cs.length=us.length) (hj:∀ j,j<cs.length->RepC γ w (cs.getD j .und) (us.getD j undef)) (qM:off+n<=cs.length) (h:Gl one ((cs.drop off).take n)=some v) :
  ∃ u,(part t us.toArray off).run P w=.ok u w/\RepV γ w v u:=by
 have qv:((cs.drop off).take n).length=n:=by simp;omega
 have hr:∀ j,j<n->RepC γ w (((cs.drop off).take n).getD j .und) (us.getD (off+j) undef):=fun j kw=>by
  have e1:((cs.drop off).take n).getD j .und=cs.getD (off+j) .und:=by
   simp only[Au,Fi,Ii];rw[if_pos kw]
  rw[e1];exact hj _ (by omega)
 obtain⟨m1,m2⟩:=Aej (f:=fun j=>us.getD (off+j) undef) h qv hr;have kg:=Aek (P:=P) (w:=w) ht;rw[hd]at kg
 cases one with
 | true=>
  obtain⟨h1,h2⟩:=m1 rfl;have qy:off<us.length:=by omega
  refine⟨us.getD off undef,?_,C5 h2⟩;simp[part,kg,A2 qy,Au]
 | false=>
  refine⟨_,?_,.one (m2 rfl)⟩
  have e2:us.toArray.extract off (off+n)=((List.range n).map fun j=>us.getD (off+j) undef).toArray:=by
   apply Array.ext
   .simp;omega
   .intro i h1 h2;simp at h1 h2;simp[Au,show off+i<us.length by omega]
  generalize us.toArray=arr at e2 ⊢;simp[part,kg,sizeOf,typeInfo,qj,hn,e2]
def A0a{t:TypeId}{fs:Array Field}{f:Field}{d:TypeDesc}{fi:TypeInfo}{i off n:Nat}{one:Bool}{x:Operand}{s:S}(ho:o.op=.field t x i)(hs:P.underlying t=some (.struct fs))(hf:fs[i]?=some f)(kE:f.offset=off)
  (ht:P.underlying f.type=some d) (hd:M6 d=!one) (qj:P.info? f.type=some fi) (hn:fi.size=n)
  (hx:RepV γ w (Ac e s) (a.eval x)) (hI:Inv G N γ σ w) (h:Ae (.fld off n one s) e σ=some (v,σ1)):Co P G N γ σ w ((execOp a.eval o).run P w) v σ1:=by
 simp only[Ae]at h
 split at h
 .rename_i cs e1;rw[e1]at hx;obtain⟨us,hu,hl,hj⟩:=Px hx
  split at h
  .rename_i qM;simp only[Bo]at h;obtain⟨v',h,h2⟩:=h;cases h2;obtain⟨u,hr,hv⟩:=Al7 (P:=P) ht hd qj hn hl hj qM h;refine Ce hI (u:=u) ?_ hv;simp[execOp,ho,hu,Instr.field,run_underlying hs,hf,asAgg,kE,hr]
  .cases h
 .cases h
def A0b{t el:TypeId}{d:TypeDesc}{fi:TypeInfo}{len m:Nat}{one:Bool}{x y:Operand}{s1 s2:S}(ho:o.op=.index t x y)(hs:P.underlying t=some (.array len el))
  (ht:P.underlying el=some d) (hd:M6 d=!one) (qj:P.info? el=some fi) (hn:fi.size=m)
  (hx:RepV γ w (Ac e s1) (a.eval x)) (hy:RepV γ w (Ac e s2) (a.eval y)) (hI:Inv G N γ σ w) (h:Ae (.ida len m one s1 s2) e σ=some (v,σ1)):Co P G N γ σ w ((execOp a.eval o).run P w) v σ1:=by
 simp only[Ae]at h
 split at h
 .rename_i k n e2;rw[e2]at hy;have qB:=Eo (Ay rfl hy)
  split at h
  .rename_i hb
   split at h
   .rename_i cs e1;rw[e1]at hx;obtain⟨us,hu,hl,hj⟩:=Px hx
    split at h
    .rename_i qM;simp only[Bo]at h;obtain⟨v',h,h2⟩:=h;cases h2;obtain⟨u,hr,hv⟩:=Al7 (P:=P) ht hd qj hn hl hj qM h;refine Ce hI (u:=u) ?_ hv;simp[execOp,ho,hu,qB,Instr.index,asIntOf,run_underlying hs,hb,sizeOf,typeInfo,qj,hn,hr]
    .cases h
   .cases h
  .cases h
 .cases h
/-! strings of bytes -/
def A0c{t el:TypeId}{n:Nat}{x:Operand}{s:S}(ho:o.op=.sliceToArrayPointer t x)(ht:P.underlying t=some (.array n el))(hx:RepV γ w (Ac e s) (a.eval x))(hI:Inv G N γ σ w)
  (h:Ae (.sap n s) e σ=some (v,σ1)):Co P G N γ σ w ((execOp a.eval o).run P w) v σ1:=by
 simp only[Ae,Bo]at h;obtain⟨v',h,h2⟩:=h;cases h2;unfold Ac3 at h
 split at h
 .rename_i t' ys e1;rw[e1]at hx
  split at h
  .rename_i hc;obtain⟨h0,hn,hw⟩:=hc;cases h;obtain⟨ad,c,hu,hR,_⟩:=Ot (Ay rfl hx)
   have qw:∀ i,i<ys.length->(ys.getD i []).length=1:=fun i hi=>by
    have:=Bh.1 hw (ys.getD i []) (by rw[Au,A2 hi];exact Fj hi);exact eq_of_beq this
   have hl:0<ys.length:=by omega
   cases hR with
   | @lst _ _ _ _ m row h1 h2 h3 h4 h5 h6 h7=>
   obtain rfl:m=1:=by rw[<-h5 0 hl,qw 0 hl]
   obtain⟨hs,k,hk,qM⟩:=h4 hl;obtain⟨b,o',sp⟩:=ad;obtain rfl:sp=none:=hs;have hf:ys.flatten.length=ys.length:=by rw[Py qw];omega
   refine Ce hI (u:=.pointer (some ⟨b,o',none⟩)) ?_ (C5 (RepC.imm (off:=0) (o:=o') (fun j=>row j 0) hk (by rw[hf];simpa using qM) (fun j hj=>?_) (fun j hj=>?_)))
   .simp[execOp,ho,Instr.arrayAt,run_underlying ht,hu,show ¬ ys.length<n by omega]
   .have:=h6 j 0 (by omega) (by omega);simpa using this
   .have:=h7 j 0 (by omega) (by omega);rw[<-Ae5 qw j 0 (by omega) (by omega)]at this;simpa using this
  .cases h
 .cases h
def Ajq:∀ {ys:List (List V)} {l:List UInt8},Lp ys=some l->ys=Be l
 | [],l,h=>by cases h;rfl
 | [.int .u8 n]::r,l,h=>by
  simp only[Lp]at h
  split at h
  .rename_i hn;obtain⟨l2,h2,rfl⟩:=Bo.1 h;rw[Ajq h2];have e:((UInt8.ofNat n.toNat).toNat:Int)=n:=by rw[UInt8.toNat_ofNat'];omega
   show _=[V.int .u8 ((UInt8.ofNat n.toNat).toNat:Int)]::Be l2;rw[e]
  .cases h
def Aw3{m:Nat}{y:V}{u:Value}{ys:List (List V)}(qN:0<m)(hy:RepV γ w y u)(hI:Inv G N γ σ w)(qr:Fy σ m y=some ys)(qw:∀ i,i<ys.length->(ys.getD i []).length=m):
  (ys=[]/\u=.slice none 0 0)\/∃ ad c news,u=.slice (some ad) ys.length c/\ys.length<=maxLen/\CellsIn γ w ys.flatten news/\∀ j u,news[j]?=some u->w.cell? (ad.add j)=some u:=by
 unfold Fy at qr
 split at qr
 .cases qr;exact .inl ⟨rfl,Ln (Ay rfl hy)⟩
 .rename_i t' vZ;cases qr;obtain⟨ad,c,hu,hR,_⟩:=Ot (Ay rfl hy);obtain⟨news,h1,h2⟩:=Adx qN qw hR;refine .inr ⟨ad,c,news,hu,?_,h1,h2⟩
  cases hR with
  | lst row h1 h2 h3 h4 h5 h6 h7=>omega
 .rename_i i g off len m' own
  split at qr
  .rename_i cs ee g' z qI
   split at qr
   .rename_i hc;obtain⟨rfl,rfl,qM⟩:=hc;cases qr;obtain⟨blk,cap,o',hb,hu,ju,_,jm,kX⟩:=Xh (o':=0) hI (Ay rfl hy) (by simp[Mt,qI]);obtain⟨_,_,_,us,lo,hi,g1,_,g2,g3⟩:=hI.obj i _ _ qI hb;have g1:w.heap[blk]?=some (.cells us ee (lo,hi)):=g1;refine .inr ⟨⟨blk,o',none⟩,cap,(us.toList.drop off).take (len*m),by rw[hu,W1],by rw[W1];omega,⟨?_,fun j hj=>?_⟩,fun j u hj=>?_⟩
    .rw[Ws _ _ _ (by simp;omega)];simp;omega
    .rw[Ws _ _ _ (by simp;omega)]at hj ⊢;have qA:j<len*m/\off+j<cs.length:=by simp at hj;omega
     have:=g3 (off+j) qA.2;simpa[Au,Fi,Ii,qA.1,Array.getD_eq_getD_getElem?] using this
    .have qF:j<len*m:=by have:=(Aq.1 hj).1;simp at this;omega
     have kA:0<len:=by
      rcases Wc len with h | h
      .rw[h]at qF;simp at qF
      .exact h
     rw[ju (by omega),Jo];rw[Fi,if_pos qF,Ii,Array.getElem?_toList]at hj;simpa[World.cell?,g1] using hj
   .cases qr
  .cases qr
 .cases qr
def A0d{t1 t2 el:TypeId}{x:Operand}{s:S}(ho:o.op=.convert t1 t2 x)(h1:P.underlying t1=some (.slice el))(he:P.underlying el=some (.int .u8))(h2:P.underlying t2=some .string)(hx:RepV γ w (Ac e s) (a.eval x))(hI:Inv G N γ σ w)
  (h:Ae (.bts s) e σ=some (v,σ1)):Co P G N γ σ w ((execOp a.eval o).run P w) v σ1:=by
 simp only[Ae,D7,Bo]at h;obtain⟨ys,qr,l,hl,hv⟩:=h;cases hv;obtain rfl:=Ajq hl;have hn:(Be l).length=l.length:=Tr l;have qw:∀ i,i<(Be l).length->((Be l).getD i []).length=1:=fun i hi=>by rw[Ath l i (by omega)];rfl
 rcases Aw3 (by omega) hx hI qr qw with⟨h0,hu⟩ | ⟨ad,c,news,hu,hm,⟨n1,n2⟩,n3⟩
 .obtain rfl:l=[]:=Adj (by rw[<-hn,h0];rfl);refine Ce hI (u:=.string ⟨[].toArray⟩) ?_ (Xg (A0 _));have:=run_convert_bytes_nil (P:=P) w t1 el h1 he 0 0 t2 h2;simp only[execOp,ho,hu,Sem.run_bind,this,Result.andThen_ok,Sem.run_pure];rfl
 .rw[Zt]at n1 n2
  have qT:news=(l.map fun c=>(c.toNat:Int)).map (Value.int .u8):=by
   apply Tg;intro j;rcases Bu j l.length with hj | hj
   .have hr:=n2 j (by simpa using hj);have kw:j<news.length:=by rw[<-n1];simpa using hj
    simp only[Au,Av,A2 hj,A2 kw,Fr,Rm]at hr ⊢;rw[Eo hr]
   .rw[Ri (by rw[<-n1];simpa using hj),Ri (by simpa using hj)]
  have jN:(loadCells ad l.length).run P w=.ok ((l.map fun c=>(c.toNat:Int)).map (Value.int .u8)).toArray w:=by
   have:=run_loadCells_list (P:=P) (w:=w) ad news n3;rw[qT]at this;simpa using this
  have jx:=run_bytesToString (P:=P) w ad l.length c (l.map fun c=>(c.toNat:Int)) jN;rw[foldl_push_bytes]at jx
  have hs:(⟨ByteArray.empty.data++((l.map fun c=>(c.toNat:Int)).map fun n=>UInt8.ofNat n.toNat).toArray⟩:ByteArray)=⟨l.toArray⟩:=by
   apply ByteArray.ext;apply Array.toList_inj.1;rw[Ol];have:((fun n:Int=>UInt8.ofNat n.toNat) ∘ fun c:UInt8=>(c.toNat:Int))=id:=by funext c;simp
   rw[this];simp
  rw[hs]at jx;refine Ce hI (u:=.string ⟨l.toArray⟩) ?_ (Xg (by omega));have hc:=run_convert_bytes_string (P:=P) w t1 t2 el (some ad) l.length c h1 he h2;rw[hn]at hu;simp only[execOp,ho,hu,Sem.run_bind,hc,jx,Result.andThen_ok,Sem.run_pure]
/-! strings to bytes -/
def Atg(w:World)(el:TypeId)(s:ByteArray):Lib.bytesWorld w el s=w.drew.alloc (.cells (Lib.bytesCells w el s) el ((Lib.bytesCells w el s).size,(Lib.bytesCells w el s).size+1)):=by
 have hh:(Lib.bytesWorld w el s).heap=(w.drew.alloc (.cells (Lib.bytesCells w el s) el ((Lib.bytesCells w el s).size,(Lib.bytesCells w el s).size+1))).heap:=by
  apply Array.ext_getElem?;intro j;rcases Rk j w.heap.size with hj | hj | hj
  .rw[Lib.bytesWorld_at_old w el s j hj];exact(Below.heap_alloc w.drew _ j hj).symm
  .subst hj;rw[Lib.bytesWorld_at_new];exact(heap_alloc_new w.drew _).symm
  .rw[Array.getElem?_eq_none (by rw[Lib.bytesWorld_size];omega),Array.getElem?_eq_none (by show(w.heap.push _).size<=j;simp;omega)]
 have:Lib.bytesWorld w el s={ w.drew.alloc (.cells (Lib.bytesCells w el s) el ((Lib.bytesCells w el s).size,(Lib.bytesCells w el s).size+1)) with heap:=(Lib.bytesWorld w el s).heap }:=rfl;rw[this,hh]
def A0e{t1 t2 el:TypeId}{x:Operand}{s:S}(ho:o.op=.convert t1 t2 x)(h1:P.underlying t1=some .string)(h2:P.underlying t2=some (.slice el))(he:P.underlying el=some (.int .u8))(hx:RepV γ w (Ac e s) (a.eval x))(hI:Inv G N γ σ w)
  (h:Ae (.stb el s) e σ=some (v,σ1)):Co P G N γ σ w ((execOp a.eval o).run P w) v σ1:=by
 simp only[Ae]at h
 split at h
 .rename_i l e1;rw[e1]at hx;cases h;obtain⟨hv,hl⟩:=Gf (Ay rfl hx);have vC:=grownCap_ge w l.length 0 el;have qM:=grownCap_le_maxLen w l.length 0 el hl
  have jX:(Lib.bytesCells w el ⟨l.toArray⟩).size=grownCap w l.length 0 el:=by
   simp only[Lib.bytesCells,Array.size_append,Array.size_map,Array.size_replicate,I9]
   simp<;>omega
  have hr:(execOp a.eval o).run P w=.ok (.value (.slice (some ⟨w.heap.size,0,none⟩) l.length (grownCap w l.length 0 el))) (w.drew.alloc (.cells (Lib.bytesCells w el ⟨l.toArray⟩) el ((Lib.bytesCells w el ⟨l.toArray⟩).size,(Lib.bytesCells w el ⟨l.toArray⟩).size+1))):=by
   have:=Lib.run_convert_string_bytes (P:=P) w t1 t2 el ⟨l.toArray⟩ h1 h2 he;rw[I9,Atg]at this;simp only[execOp,ho,hv,Sem.run_bind,this,Result.andThen_ok,Sem.run_pure]
  generalize kN:Lib.bytesCells w el ⟨l.toArray⟩=us at hr jX;obtain⟨d1,d2⟩:=hI.drew
  obtain⟨i1,i2⟩:=d1.newOb (.cells us el (us.size,us.size+1)) (.row (Be l).flatten el 0 0) (Ic γ.κ w.heap.size 0) (fun b hb=>Lm _ _ (by have:b<w.heap.size:=hb;omega)) (W0 (fun b k hk=>by have:=hI.dom b k hk;show b<w.heap.size+1;omega) (by show w.heap.size<w.heap.size+1;omega)) fun hx=>
   ⟨rfl,Rq _ _ _,A0 _,us,us.size,us.size+1,heap_alloc_new w.drew _,⟨Nat.le_succ _,.inr (Ai _)⟩,by rw[Zt];simp;omega,fun j hj=>by
    have qA:j<l.length:=by rw[Zt]at hj;simpa using hj
    obtain⟨_,g⟩:=Ajp (γ:=γ) (w:=w.drew) l;have g':=g j hj
    have e2:us.getD j undef=(Lib.strCells ⟨l.toArray⟩).getD j undef:=by
     rw[<-kN];simp[Lib.bytesCells,Lib.strCells,Array.getD_eq_getD_getElem?,Au,Array.getElem?_append,qA]
    rw[e2]
    exact g'.ext hx⟩
  refine⟨_,_,_,.inl hr,C5 (Abx ?_ ?_ vC qM),i1,d2.trans i2,Adr hI.base,fun b hb=>Lm _ _ (by have:=hI.base;show b≠w.heap.size;omega)⟩
  .show(γ.O++_)[σ.length]?=_;rw[<-hI.len]
   simp<;>rfl
  .have:=W2 w.drew us el (us.size,us.size+1);rw[show w.drew.heap.size=w.heap.size from rfl]at this;rw[this,jX,Wn]
 .cases h
open Go Go.RowKit
variable {P:Program} {G:List (Nat × List V)} {N:Nat} {γ:Gh} {σ σ1:St} {w:World} {e:Env} {a:Act} {o:Oper} {v:V}
def Atf{t:TypeId}(ht:P.underlying t=some .bool)(p q:Bool):(Op.equal t (.bool p) (.bool q)).run P w=.ok (p==q) w:=
 have h:∀ d,(Op.equalIn (d+1) t (.bool p) (.bool q)).run P w=.ok (p==q) w:=fun d=>by simp[Op.equalIn,run_underlying ht]
 h 9999
def Ads{t el:TypeId}(ht:P.underlying t=some (.slice el))(n c:Nat)(b:Option Addr)(n' c':Nat):(Op.equal t (.slice none n c) (.slice b n' c')).run P w=.ok b.isNone w:=
 have h:∀ d,(Op.equalIn (d+1) t (.slice none n c) (.slice b n' c')).run P w=.ok b.isNone w:=fun d=>by simp[Op.equalIn,run_underlying ht]
 h 9999
def Ajf{t el:TypeId}(ht:P.underlying t=some (.slice el))(n c:Nat)(b:Addr)(n' c':Nat):(Op.equal t (.slice (some b) n' c') (.slice none n c)).run P w=.ok false w:=
 have h:∀ d,(Op.equalIn (d+1) t (.slice (some b) n' c') (.slice none n c)).run P w=.ok false w:=fun d=>by simp[Op.equalIn,run_underlying ht]
 h 9999
def Adu{t el:TypeId}(ht:P.underlying t=some (.pointer el))(b:Option Addr):(Op.equal t (.pointer none) (.pointer b)).run P w=.ok b.isNone w:=
 have h:∀ d,(Op.equalIn (d+1) t (.pointer none) (.pointer b)).run P w=.ok b.isNone w:=fun d=>by simp[Op.equalIn,run_underlying ht]
 h 9999
def Ajg{t el:TypeId}(ht:P.underlying t=some (.pointer el))(b:Addr):(Op.equal t (.pointer (some b)) (.pointer none)).run P w=.ok false w:=
 have h:∀ d,(Op.equalIn (d+1) t (.pointer (some b)) (.pointer none)).run P w=.ok false w:=fun d=>by simp[Op.equalIn,run_underlying ht]
 h 9999
def Xk{ql:Bool}{t ty:TypeId}{x y:Operand}{z:Bool}(ho:o.op=.binOp (if ql then .neq else .eql) t x y ty)(hg:(eqGuard (if ql then .neq else .eql) t x y (a.eval x) (a.eval y)).run P w=.ok () w)
  (hb:(binOp .eql t (a.eval x) (a.eval y))=(do pure (.bool (<-Op.equal t (a.eval x) (a.eval y))))) (vt:(binOp .neq t (a.eval x) (a.eval y))=(do pure (.bool (!(<-Op.equal t (a.eval x) (a.eval y))))))
  (hr:(Op.equal t (a.eval x) (a.eval y)).run P w=.ok z w):(execOp a.eval o).run P w=.ok (.value (.bool (z != ql))) w:=by
 cases ql
 .simp only[Ez,if_false]at ho hg;simp[execOp,ho,hg,hb,hr]
 .simp only[if_true]at ho hg;simp[execOp,ho,hg,vt,hr]
def Qq(P:Program)(t:TypeId)(k:Nat):Bool:=match P.underlying t,k with
 | some .bool,0 | some (.int _),1 | some .string,2=>true
 | _,_=>false
def Uz(P:Program):List Field->Nat->List Nat->Bool
 | [],_,[]=>true
 | f::fs,k,c::ks=>f.offset==k&&(f.name != "_"&&(Qq P f.type c&&Uz P fs (k+1) ks))
 | _,_,_=>false
def Aao{t:TypeId}{c:Nat}(h:Qq P t c=true){us:Array Value}{k:Nat}{u:Value}(hu:us[k]?=some u):(part t us k).run P w=.ok u w:=by
 unfold Qq at h
 have key:∀ d,P.underlying t=some d->M6 d=false->(part t us k).run P w=.ok u w:=fun d hd ha=>by
  have:=Aek (P:=P) (w:=w) hd;rw[ha]at this;simp[part,this,hu]
 split at h
 .rename_i hd;exact key _ hd rfl
 .rename_i hd;exact key _ hd rfl
 .rename_i hd;exact key _ hd rfl
 .cases h
def Aob{t:TypeId}{c:Nat}(h:Qq P t c=true){x y:V}{z:Bool}{u u':Value}(hu:RepC γ w x u)(qZ:RepC γ w y u')(hz:eqS c x y=some z)(d:Nat):(Op.equalIn (d+1) t u u').run P w=.ok z w:=by
 unfold Qq at h;unfold eqS at hz
 split at hz
 .cases hz;rw[Oo hu,Oo qZ]
  split at h
  .rename_i hd _;simp[Op.equalIn,run_underlying hd]
  .rename_i hc;cases hc
  .rename_i hc;cases hc
  .cases h
 .split at hz
  .rename_i hk;subst hk;cases hz;rw[Eo hu,Eo qZ]
   split at h
   .rename_i hc;cases hc
   .rename_i hd _;simp[Op.equalIn,run_underlying hd]
   .rename_i hc;cases hc
   .cases h
  .cases hz
 .rename_i l l';cases hz;rw[(Gf hu).1,(Gf qZ).1]
  split at h
  .rename_i hc;cases hc
  .rename_i hc;cases hc
  .rename_i hd _;simp only[Op.equalIn,run_underlying hd,Sem.run_bind,Result.andThen_ok,Sem.run_pure,beq_toListBytes,ByteArray.toList_eq]
  .cases h
 .cases hz
def Akx{d:Nat}:∀ {fs:List Field} {k:Nat} {ks:List Nat} {as bs:List V} {us vs:Array Value} {z:Bool},Uz P fs k ks=true->La ks as bs=some z->(∀ j,j<ks.length->∃ u,us[k+j]?=some u/\RepC γ w (as.getD j .und) u)->(∀ j,j<ks.length->∃ u,vs[k+j]?=some u/\RepC γ w (bs.getD j .und) u) ->
  (Op.eqFields (d+1) us vs fs).run P w=.ok z w
 | [],k,[],as,bs,us,vs,z,_,h,_,_=>by
  cases as<;>cases bs<;>simp[La]at h
  subst h;rfl
 | f::fs,k,c::ks,as,bs,us,vs,z,qa,h,ha,hb=>by
  simp only[Uz,Af,beq_iff_eq,bne_iff_ne]at qa;obtain⟨h1,h2,h3,h4⟩:=qa
  cases as with
  | nil=>simp[La]at h
  | cons x r=>
  cases bs with
  | nil=>simp[La]at h
  | cons y s=>
  obtain⟨u,hu,kI⟩:=ha 0 (by simp);obtain⟨u',qZ,jw⟩:=hb 0 (by simp);simp only[La,D7]at h;obtain⟨z1,kQ,h⟩:=h;have e1:=Aob (P:=P) h3 kI jw kQ d;have p1:=Aao (P:=P) (w:=w) h3 (us:=us) (k:=f.offset) (by rw[h1];exact hu);have p2:=Aao (P:=P) (w:=w) h3 (us:=vs) (k:=f.offset) (by rw[h1];exact qZ);unfold Op.eqFields;simp only[ne_eq,h2,not_false_eq_true,if_true,Sem.run_bind,p1,p2,Result.andThen_ok,e1]
  cases z1 with
  | false=>
   simp at h;subst h;simp
  | true=>
   simp only[if_true]at h
   have ih:=Akx (d:=d) (us:=us) (vs:=vs) h4 h (fun j hj=>by
    have:=ha (j+1) (by simpa using hj);rw[show k+(j+1)=k+1+j by omega]at this
    simpa using this) (fun j hj=>by
    have:=hb (j+1) (by simpa using hj);rw[show k+(j+1)=k+1+j by omega]at this
    simpa using this)
   simp[ih]
 | [],_,_::_,_,_,_,_,_,h,_,_,_=>by simp[Uz]at h
 | _::_,_,[],_,_,_,_,_,h,_,_,_=>by simp[Uz]at h
def Al8{d c:Nat}{el:TypeId}{us vs:Array Value}(h1:Qq P el c=true):∀ (m k:Nat) (as bs:List V) (z:Bool),La (List.replicate m c) as bs=some z->(∀ j,j<m->∃ u,us[k+j]?=some u/\RepC γ w (as.getD j .und) u)->(∀ j,j<m->∃ u,vs[k+j]?=some u/\RepC γ w (bs.getD j .und) u) ->
  (forIn (List.range' k m) ((none,()):Option Bool × Unit) (fun i (_:Option Bool × Unit)=>do
   let x <-part el us (i*1)
   let y <-part el vs (i*1)
   let z <-Op.equalIn (d+1) el x y
   if(!z)=true then pure (ForInStep.done (some false,())) else pure (ForInStep.yield (none,())):Nat->Option Bool × Unit->Sem (ForInStep (Option Bool × Unit)))).run P w=.ok (if z=true then(none,()) else(some false,())) w
 | 0,k,as,bs,z,h,_,_=>by
  cases as<;>cases bs<;>simp[La]at h
  subst h;simp
 | m+1,k,as,bs,z,h,ha,hb=>by
  rw[Ta]at h
  cases as with
  | nil=>simp[La]at h
  | cons x r=>
  cases bs with
  | nil=>simp[La]at h
  | cons y s=>
  obtain⟨u,hu,kI⟩:=ha 0 (by omega);obtain⟨u',qZ,jw⟩:=hb 0 (by omega);simp only[La,D7]at h;obtain⟨z1,kQ,h⟩:=h;have e1:=Aob (P:=P) h1 kI jw kQ d;have p1:=Aao (P:=P) (w:=w) h1 (us:=us) (k:=k) hu;have p2:=Aao (P:=P) (w:=w) h1 (us:=vs) (k:=k) qZ;rw[Zk,List.forIn_cons];simp only[Sem.run_bind,Wn,p1,p2,Result.andThen_ok,e1]
  cases z1 with
  | false=>
   simp at h;subst h;simp
  | true=>
   simp only[if_true]at h
   have ih:=Al8 (d:=d) h1 m (k+1) r s z h (fun j hj=>by
    have:=ha (j+1) (by omega);rw[show k+(j+1)=k+1+j by omega]at this
    simpa using this) (fun j hj=>by
    have:=hb (j+1) (by omega);rw[show k+(j+1)=k+1+j by omega]at this
    simpa using this)
   simp only[Wn]at ih;simp only[Ar,Ez,if_false,Sem.run_pure,Result.andThen_ok];exact ih
def A36{d n c:Nat}{t el:TypeId}{fi:TypeInfo}{us vs:Array Value}{as bs:List V}{z:Bool}(ht:P.underlying t=some (.array n el))(qj:P.info? el=some fi)(hs:fi.size=1)(h1:Qq P el c=true)(h:La (List.replicate n c) as bs=some z)
  (ha:∀ j,j<n->∃ u,us[j]?=some u/\RepC γ w (as.getD j .und) u) (hb:∀ j,j<n->∃ u,vs[j]?=some u/\RepC γ w (bs.getD j .und) u):(Op.equalIn (d+2) t (.agg us) (.agg vs)).run P w=.ok z w:=by
 rw[Op.equalIn];simp only[Sem.run_bind,run_underlying ht,Result.andThen_ok,sizeOf,typeInfo];simp only[run_program,Result.andThen_ok,qj,Sem.run_pure,hs];rw[Std.Legacy.Range.forIn_eq_forIn_range'];have:=Al8 (d:=d) h1 n 0 as bs z h (fun j hj=>by simpa using ha j hj) (fun j hj=>by simpa using hb j hj);simp[Std.Legacy.Range.size]at this ⊢;rw[this]
 cases z<;>simp
def Abb:Operand->Bool
 | .const _=>true
 | _=>false
def Aid(P:Program)(k:EqK)(t:TypeId)(x y:Operand):Bool:=
 match k,P.underlying t with
 | .bool,some .bool=>true
 | .nilsl,some (.slice _)=>true
 | .nilpt,some (.pointer _)=>true
 | .nilfn,some (.func _ _ _)=>true
 | .nilif,some (.interface _)=>Abb x||Abb y
 | .flat ks,some (.struct fs)=>Uz P fs.toList 0 ks&&(!P.stoodInHeld t&&!P.eqGuardType P.depth t)
 | .flat ks,some (.array n el)=>ks==List.replicate n (ks.headD 1)&&(Qq P el (ks.headD 1)&&((match P.info? el with
  | some fi=>fi.size==1
  | none=>false)&&!P.eqGuardType P.depth t))
 | _,_=>false
def A37{k:EqK}{ql:Bool}{t ty:TypeId}{x y:Operand}{s1 s2:S}(ho:o.op=.binOp (if ql then .neq else .eql) t x y ty)(hk:Aid P k t x y=true)(hx:RepV γ w (Ac e s1) (a.eval x))(hy:RepV γ w (Ac e s2) (a.eval y))(hI:Inv G N γ σ w)
  (h:Ae (.eq k ql s1 s2) e σ=some (v,σ1)):Co P G N γ σ w ((execOp a.eval o).run P w) v σ1:=by
 simp only[Ae,Bo]at h;obtain⟨z,h,h2⟩:=h
 .cases h2
  have qt:∀ b n c b' n' c',a.eval x=.slice b n c->a.eval y=.slice b' n' c'->(Op.equal t (.slice b n c) (.slice b' n' c')).run P w=.ok z w->Co P G N γ σ w ((execOp a.eval o).run P w) (.bool (z != ql)) σ:=fun b n c b' n' c' qk qB hr=>by
   refine Ce hI (Xk (z:=z) ho ?_ ?_ ?_ ?_) Nl<;>rw[qk,qB]
   .cases ql<;>simp[eqGuard]
   .rfl
   .rfl
   .exact hr
  have jb:∀ b b',a.eval x=.pointer b->a.eval y=.pointer b'->(Op.equal t (.pointer b) (.pointer b')).run P w=.ok z w->Co P G N γ σ w ((execOp a.eval o).run P w) (.bool (z != ql)) σ:=fun b b' qk qB hr=>by
   refine Ce hI (Xk (z:=z) ho ?_ ?_ ?_ ?_) Nl<;>rw[qk,qB]
   .cases ql<;>simp[eqGuard]
   .rfl
   .rfl
   .exact hr
  have vp:∀ {s:S} {X:Value} {i g off len m:Nat} {own:Bool},Ac e s=.sl i g off len m own->RepV γ w (Ac e s) X->∃ ad cap,X=.slice (some ad) len cap:=fun {s X i g off len m own} e1 hX=>by
   rw[e1]at hX;obtain⟨b',o',cap,_,_,hu,_⟩:=Up (Ay rfl hX);exact⟨_,_,hu⟩
  have vo:∀ {s:S} {X:Value} {i g off:Nat},Ac e s=.ptr i g off->RepV γ w (Ac e s) X->∃ ad,X=.pointer (some ad):=fun {s X i g off} e1 hX=>by
   rw[e1]at hX;obtain⟨b',_,_,hu,_⟩:=Nk (Ay rfl hX);exact⟨_,hu⟩
  unfold Aid at hk
  split at hk
  .rename_i ht;simp only[Mb]at h;unfold eqB at h
   split at h
   .rename_i p q e1 e2;rw[e1]at hx;rw[e2]at hy;have qk:=Oo (Ay rfl hx);have qB:=Oo (Ay rfl hy);cases h
    refine Ce hI (Xk (z:=p==q) ho ?_ ?_ ?_ ?_) Nl<;>rw[qk,qB]
    .cases ql<;>simp[eqGuard]
    .rfl
    .rfl
    .exact Atf ht p q
   .cases h
  .rename_i el ht;simp only[Mb]at h;unfold Ah7 at h
   split at h
   .rename_i e1 e2;rw[e1]at hx;rw[e2]at hy;cases h;exact qt _ _ _ _ _ _ (Ln (Ay rfl hx)) (Ln (Ay rfl hy)) (Ads ht _ _ _ _ _)
   .rename_i e1 e2;rw[e1]at hx;rw[e2]at hy;obtain⟨ad,cap,hu,_⟩:=Ot (Ay rfl hy);cases h;exact qt _ _ _ _ _ _ (Ln (Ay rfl hx)) hu (Ads ht _ _ _ _ _)
   .rename_i e1 e2;rw[e1]at hx;rw[e2]at hy;obtain⟨ad,cap,hu,_⟩:=Ot (Ay rfl hx);cases h;exact qt _ _ _ _ _ _ hu (Ln (Ay rfl hy)) (Ajf ht _ _ _ _ _)
   .rename_i e1 e2;obtain⟨ad,cap,hu⟩:=vp e2 hy;rw[e1]at hx;cases h;exact qt _ _ _ _ _ _ (Ln (Ay rfl hx)) hu (Ads ht _ _ _ _ _)
   .rename_i e1 e2;obtain⟨ad,cap,hu⟩:=vp e1 hx;rw[e2]at hy;cases h;exact qt _ _ _ _ _ _ hu (Ln (Ay rfl hy)) (Ajf ht _ _ _ _ _)
   .cases h
  .rename_i el ht;simp only[Mb]at h;unfold Ah8 at h
   split at h
   .rename_i e1 e2;rw[e1]at hx;rw[e2]at hy;cases h;exact jb _ _ (Rr (Ay rfl hx)) (Rr (Ay rfl hy)) (Adu ht _)
   .rename_i e1 e2;obtain⟨ad,hu⟩:=vo e2 hy;rw[e1]at hx;cases h;exact jb _ _ (Rr (Ay rfl hx)) hu (Adu ht _)
   .rename_i e1 e2;obtain⟨ad,hu⟩:=vo e1 hx;rw[e2]at hy;cases h;exact jb _ _ hu (Rr (Ay rfl hy)) (Ajg ht _)
   .rename_i e1 e2;rw[e1]at hx;rw[e2]at hy;obtain⟨_,_,_,_,hu,_⟩:=Lq (Ay rfl hy);cases h;exact jb _ _ (Rr (Ay rfl hx)) hu (Adu ht _)
   .rename_i e1 e2;rw[e1]at hx;rw[e2]at hy;obtain⟨_,_,_,_,hu,_⟩:=Lq (Ay rfl hx);cases h;exact jb _ _ hu (Rr (Ay rfl hy)) (Ajg ht _)
   .cases h
  .rename_i ps rs va ht;have vA:∀ d,(Op.equalIn (d+1) t .nilFunc .nilFunc).run P w=.ok true w:=fun d=>by simp[Op.equalIn,run_underlying ht]
   have kn:∀ d f p q,(Op.equalIn (d+1) t (.func f p q) .nilFunc).run P w=.ok false w:=fun d f p q=>by simp[Op.equalIn,run_underlying ht]
   have ko:∀ d f p q,(Op.equalIn (d+1) t .nilFunc (.func f p q)).run P w=.ok false w:=fun d f p q=>by simp[Op.equalIn,run_underlying ht]
   have jj:∀ X Y,a.eval x=X->a.eval y=Y->(eqGuard (if ql then .neq else .eql) t x y X Y).run P w=.ok () w->(binOp .eql t X Y)=(do pure (.bool (<-Op.equal t X Y)))->(binOp .neq t X Y)=(do pure (.bool (!(<-Op.equal t X Y))))->(Op.equal t X Y).run P w=.ok z w->Co P G N γ σ w ((execOp a.eval o).run P w) (.bool (z != ql)) σ:=fun X Y qk qB q1 q2 q3 q4=>by
    subst qk qB;exact Ce hI (Xk (z:=z) ho q1 q2 q3 q4) Nl
   simp only[Mb]at h;unfold Ah9 at h
   split at h
   .rename_i e1 e2;rw[e1]at hx;rw[e2]at hy;cases h;exact jj _ _ (Aaf (Ay rfl hx)) (Aaf (Ay rfl hy)) (by cases ql<;>simp[eqGuard]) rfl rfl (vA 9999)
   .rename_i e1 e2;rw[e1]at hx;rw[e2]at hy;obtain⟨ua,uc,hu,_⟩:=Afs (Ay rfl hx);cases h;exact jj _ _ hu (Aaf (Ay rfl hy)) (by cases ql<;>simp[eqGuard]) rfl rfl (kn 9999 _ _ _)
   .rename_i e1 e2;rw[e1]at hx;rw[e2]at hy;obtain⟨ua,uc,hu,_⟩:=Afs (Ay rfl hy);cases h;exact jj _ _ (Aaf (Ay rfl hx)) hu (by cases ql<;>simp[eqGuard]) rfl rfl (ko 9999 _ _ _)
   .cases h
  .rename_i ms ht;have jC:∀ d,(Op.equalIn (d+1) t .nilIface .nilIface).run P w=.ok true w:=fun d=>by simp[Op.equalIn,run_underlying ht]
   have kr:∀ d f p,(Op.equalIn (d+1) t (.iface f p) .nilIface).run P w=.ok false w:=fun d f p=>by simp[Op.equalIn,run_underlying ht]
   have ku:∀ d f p,(Op.equalIn (d+1) t .nilIface (.iface f p)).run P w=.ok false w:=fun d f p=>by simp[Op.equalIn,run_underlying ht]
   have jj:∀ X Y,a.eval x=X->a.eval y=Y->(eqGuard (if ql then .neq else .eql) t x y X Y).run P w=.ok () w->(binOp .eql t X Y)=(do pure (.bool (<-Op.equal t X Y)))->(binOp .neq t X Y)=(do pure (.bool (!(<-Op.equal t X Y))))->(Op.equal t X Y).run P w=.ok z w->Co P G N γ σ w ((execOp a.eval o).run P w) (.bool (z != ql)) σ:=fun X Y qk qB q1 q2 q3 q4=>by
    subst qk qB;exact Ce hI (Xk (z:=z) ho q1 q2 q3 q4) Nl
   have jq:(eqGuard (if ql then .neq else .eql) t x y .nilIface .nilIface).run P w=.ok () w:=by
    simp only[Ij]at hk;rcases hk with hk | hk
    .cases x<;>simp[Abb]at hk
     cases ql<;>simp[eqGuard]
    .cases y<;>simp[Abb]at hk
     cases ql<;>simp[eqGuard]
   simp only[Mb]at h;unfold Aia at h
   split at h
   .rename_i e1 e2;rw[e1]at hx;rw[e2]at hy;cases h;exact jj _ _ (Aae (Ay rfl hx)) (Aae (Ay rfl hy)) jq rfl rfl (jC 9999)
   .rename_i e1 e2;rw[e1]at hx;rw[e2]at hy;obtain⟨ut,ux,hu⟩:=Ae3 (Ay rfl hx);cases h;exact jj _ _ hu (Aae (Ay rfl hy)) (by cases ql<;>simp[eqGuard]) rfl rfl (kr 9999 _ _)
   .rename_i e1 e2;rw[e1]at hx;rw[e2]at hy;obtain⟨ut,ux,hu⟩:=Ae3 (Ay rfl hy);cases h;exact jj _ _ (Aae (Ay rfl hx)) hu (by cases ql<;>simp[eqGuard]) rfl rfl (ku 9999 _ _)
   .cases h
  .rename_i ks fs ht;simp only[Af,I5]at hk;obtain⟨kx,jt,ky⟩:=hk;simp only[Mb]at h;unfold Aib at h
   split at h
   .rename_i as bs e1 e2;rw[e1]at hx;rw[e2]at hy;obtain⟨us,hu,vU,kM⟩:=Px hx;obtain⟨vs,hv,vV,kO⟩:=Px hy
    split at h
    .rename_i qv;have kY:P.fieldsOf t=fs:=by simp[Program.fieldsOf,ht]
     have hf:=Akx (P:=P) (γ:=γ) (w:=w) (d:=9998) (us:=us.toArray) (vs:=vs.toArray) kx h (fun j hj=>by
      have qS:j<as.length:=by omega
      have:=kM j qS
      exact⟨us.getD j undef,by simp[Au,show j<us.length by omega],this⟩) (fun j hj=>by
      have qS:j<bs.length:=by omega
      have:=kO j qS
      exact⟨vs.getD j undef,by simp[Au,show j<vs.length by omega],this⟩)
     have hE:=run_equalIn_struct (P:=P) w 9999 t us.toArray vs.toArray (by rw[kY];exact ht) jt;rw[kY,hf]at hE;have hg:=run_eqGuard_agg (P:=P) w (if ql then .neq else .eql) t x y us.toArray vs.toArray ky;refine Ce hI (u:=.bool (z != ql)) ?_ Nl;cases ql
     .simp only[Ez,if_false]at ho hg;simp[execOp,ho,hu,hv,hg,run_eql_struct,hE]
     .simp only[if_true]at ho hg;simp[execOp,ho,hu,hv,hg,run_neq_struct,hE]
    .cases h
   .cases h
  .rename_i ks n el ht;simp only[Af,I5,beq_iff_eq]at hk;obtain⟨vd,kx,jt,ky⟩:=hk
   split at jt
   .rename_i fi qj;have hs:fi.size=1:=eq_of_beq jt;simp only[Mb]at h;unfold Aib at h
    split at h
    .rename_i as bs e1 e2;rw[e1]at hx;rw[e2]at hy;obtain⟨us,hu,vU,kM⟩:=Px hx;obtain⟨vs,hv,vV,kO⟩:=Px hy
     split at h
     .rename_i qv;have hn:ks.length=n:=by rw[vd,Adm]
      rw[vd]at h
      have hE:=A36 (P:=P) (γ:=γ) (w:=w) (d:=9998) (us:=us.toArray) (vs:=vs.toArray) ht qj hs kx h (fun j hj=>by
       have qS:j<as.length:=by omega
       have:=kM j qS
       exact⟨us.getD j undef,by simp[Au,show j<us.length by omega],this⟩) (fun j hj=>by
       have qS:j<bs.length:=by omega
       have:=kO j qS
       exact⟨vs.getD j undef,by simp[Au,show j<vs.length by omega],this⟩)
      have hg:=run_eqGuard_agg (P:=P) w (if ql then .neq else .eql) t x y us.toArray vs.toArray ky;refine Ce hI (u:=.bool (z != ql)) ?_ Nl;cases ql
      .simp only[Ez,if_false]at ho hg;simp[execOp,ho,hu,hv,hg,run_eql_struct,hE]
      .simp only[if_true]at ho hg;simp[execOp,ho,hu,hv,hg,run_neq_struct,hE]
     .cases h
    .cases h
   .cases jt
  .cases hk
def A0f{f:Nat}{first qb:Array Operand}{as cs:List S}(ho:o.op=.makeFunc (.func f) first qb)(ha:as.length=first.toList.length/\∀ (i:Nat) s x,as[i]?=some s->first.toList[i]?=some x->RepV γ w (Ac e s) (a.eval x))(hc:cs.length=qb.toList.length/\∀ (i:Nat) s x,cs[i]?=some s->qb.toList[i]?=some x->RepV γ w (Ac e s) (a.eval x))(hI:Inv G N γ σ w)
  (h:Ae (.mkf f as cs) e σ=some (v,σ1)):Co P G N γ σ w ((execOp a.eval o).run P w) v σ1:=by
 simp only[Ae]at h
 split at h
 .rename_i qz;simp only[Af]at qz;cases h
  have key:∀ {ss:List S} {xs:List Operand},(ss.length=xs.length/\∀ (i:Nat) s x,ss[i]?=some s->xs[i]?=some x->RepV γ w (Ac e s) (a.eval x))->(ss.map (Ac e)).all V.cellB=true->(ss.map (Ac e)).length=(xs.map a.eval).length/\∀ j,j<(ss.map (Ac e)).length->RepC γ w ((ss.map (Ac e)).getD j .und) ((xs.map a.eval).getD j undef):=fun {ss xs} hs jJ=>by
   refine⟨by simp[hs.1],fun j hj=>?_⟩;have qS:j<ss.length:=by simpa using hj
   have qJ:j<xs.length:=by omega
   have e1:(ss.map (Ac e)).getD j .und=Ac e ss[j]:=by simp[Au,qS]
   have e2:(xs.map a.eval).getD j undef=a.eval xs[j]:=by rw[Au,Av,A2 qJ];rfl
   rw[e1,e2];exact Ay (Bh.1 jJ _ (by simp only[De];exact⟨ss[j],Fj qS,rfl⟩)) (hs.2 j _ _ (A2 qS) (A2 qJ))
  obtain⟨a1,a2⟩:=key ha qz.1;obtain⟨c1,c2⟩:=key hc qz.2;refine Ce hI (u:=.func (.func f) (first.toList.map a.eval).toArray (qb.toList.map a.eval).toArray) ?_ (C5 (.fn a1 c1 a2 c2))
  have e1:(first.toList.map a.eval).toArray=first.map a.eval:=by apply Array.toList_inj.1;simp
  have e2:(qb.toList.map a.eval).toArray=qb.map a.eval:=by apply Array.toList_inj.1;simp
  rw[e1,e2];simp[execOp,ho,Instr.makeFunc]
 .cases h
open Go Go.RowKit
variable {P:Program} {G:List (Nat × List V)} {N:Nat} {γ:Gh} {σ σ1:St} {w:World} {e:Env} {a:Act} {o:Oper} {v:V}
def A0g{t:TypeId}(ho:o.op=.makeMap t none)(hI:Inv G N γ σ w)(h:Ae .mmk e σ=some (v,σ1)):Co P G N γ σ w ((execOp a.eval o).run P w) v σ1:=by
 simp only[Ae]at h;cases h;obtain⟨i1,i2⟩:=hI.newMap;refine⟨.map (some w.heap.size),_,_,.inl ?_,C5 (.mp (g':=0) ?_ rfl (fun _=>rfl)),i1,i2,Ad5 hI.base,fun _ _=>rfl⟩
 .simp[execOp,ho,Instr.makeMap,newObj,Sem.run]
 .show(γ.O++[(w.heap.size,0)])[σ.length]?=_;rw[<-hI.len];simp
def Ae6{s:List UInt8}:∀ {kvs:List (List UInt8 × V)} {es:List MapEntry} {i:Nat},es.length=kvs.length->(∀ (j:Nat) (k:List UInt8) (v:V),kvs[j]?=some (k,v)->∃ en:MapEntry,es[j]?=some en/\en.key=.string ⟨k.toArray⟩/\RepC γ w v en.val) ->
  (Mx s kvs i=none/\Instr.findNow .string (.string ⟨s.toArray⟩) es i=some none)\/∃ j v en,Mx s kvs i=some (i+j,v)/\kvs[j]?=some (s,v)/\es[j]?=some en/\Instr.findNow .string (.string ⟨s.toArray⟩) es i=some (some (i+j,en.val))/\RepC γ w v en.val
 | [],[],i,_,_=>.inl ⟨rfl,rfl⟩
 | [],_::_,_,h,_=>by simp at h
 | _::_,[],_,h,_=>by simp at h
 | (k,v)::kvs,en::es,i,hl,hr=>by
  obtain⟨kT,h1,h2,h3⟩:=hr 0 k v rfl;simp at h1;subst h1
  have hb:((⟨s.toArray⟩:ByteArray)==⟨k.toArray⟩)=(s==k):=by
   rw[beq_toListBytes,ByteArray.toList_eq,ByteArray.toList_eq]
  by_cases hk:k=s
  .subst hk;refine .inr ⟨0,v,en,by simp[Mx],rfl,rfl,?_,h3⟩;simp only[Instr.findNow,h2,Instr.sameNow,hb,beq_self_eq_true,Ok]
  .have vG:(s==k)=false:=by simpa using fun h=>hk h.symm
   have ih:=Ae6 (s:=s) (kvs:=kvs) (es:=es) (i:=i+1) (by simpa using hl) (fun j k' v' hj=>by simpa using hr (j+1) k' v' (by simpa using hj));have hf:Mx s ((k,v)::kvs) i=Mx s kvs (i+1):=by simp[Mx,hk]
   have hn:Instr.findNow .string (.string ⟨s.toArray⟩) (en::es) i=Instr.findNow .string (.string ⟨s.toArray⟩) es (i+1):=by
    simp only[Instr.findNow,h2,Instr.sameNow,hb,vG]
   rw[hf,hn];rcases ih with⟨a1,a2⟩ | ⟨j,v',kT,a1,a2,a3,a4,a5⟩
   .exact .inl ⟨a1,a2⟩
   .refine .inr ⟨j+1,v',kT,?_,by simpa using a2,by simpa using a3,?_,a5⟩
    .rw[a1];congr 2;omega
    .rw[a4];congr 3;omega
def Aap{v:V}{u:Value}(hf:v.flatB=true)(h:RepC γ w v u)(γ':Gh)(w':World):RepC γ' w' v u:=by
 cases h with
 | row h=>cases h with
  | bool=>exact .row .bool
  | int=>exact .row .int
  | str h=>exact .row (.str h)
  | nili=>exact .row .nili
  | ifc=>exact .row .ifc
  | nils=>exact .row .nils
  | lst=>cases hf
 | nilp=>exact .nilp
 | nilf=>exact .nilf
 | ifc=>exact .ifc
 | imm=>cases hf
 | ptr=>cases hf
 | sl=>cases hf
 | fn=>cases hf
 | mp=>cases hf
def Z1{kt:TypeId}{k:Value}{l:List MapEntry}{r:Option (Nat × Value)}(hd:P.underlying kt=some .string)(h:Instr.findNow .string k l 0=some r):(Instr.findKey kt k l).run P w=.ok r w:=by
 simp[Instr.findKey,run_underlying hd,Result.andThen,h]
def Q7(w:World)(r:Nat)(o:Obj):World:={ w with heap:=w.heap.setIfInBounds r o }
def Aj3{r:Nat}{es:Array MapEntry}{jD:Nat}(o:Obj)(hb:w.heap[r]?=some (.map es jD)):(setObj r o).run P w=.ok () (Q7 w r o):=by
 simp[setObj,Sem.run,hb,Q7]
def A0h{t kt et:TypeId}{fi:TypeInfo}{z:Value}{zv:V}{x y:Operand}{s1 s2:S}(ho:o.op=.lookup t x y false)(ht:P.underlying t=some (.map kt et))(hk:P.underlying kt=some .string)(qj:P.info? et=some fi)(hz:fi.zero=some z)(hc:Mu zv z=true)
  (hx:RepV γ w (Ac e s1) (a.eval x)) (hy:RepV γ w (Ac e s2) (a.eval y)) (hI:Inv G N γ σ w) (h:Ae (.mlk zv s1 s2) e σ=some (v,σ1)):Co P G N γ σ w ((execOp a.eval o).run P w) v σ1:=by
 simp only[Ae]at h
 split at h
 .rename_i i s e1 e2;rw[e1]at hx;rw[e2]at hy;obtain⟨qB,_⟩:=Gf (Ay rfl hy);obtain⟨blk,g',hO,hu⟩:=An6 (Ay rfl hx)
  split at h
  .rename_i kvs jM;cases h;obtain⟨kq,_,es,hh,jB,qL⟩:=hI.obj i _ _ jM hO;have qk:=hu kq;have hh:w.heap[blk]?=some (.map es kvs.length):=hh
   have qQ:∀ b,(Instr.checkKey b 10000 kt (.string ⟨s.toArray⟩)).run P w=.ok () w:=fun b=>by
    have:∀ d,(Instr.checkKey b (d+1) kt (.string ⟨s.toArray⟩)).run P w=.ok () w:=fun d=>by simp[Instr.checkKey,run_underlying hk]
    exact this 9999
   rcases Ae6 (γ:=γ) (w:=w) (s:=s) (kvs:=kvs) (es:=es.toList) (i:=0) (by simpa using jB) (fun j k v hj=>by
    obtain⟨en,a1,a2,_,_,_,a6⟩:=qL j k v hj
    exact⟨en,by simpa using a1,a2,a6⟩) with⟨f1,f2⟩ | ⟨j,v',en,f1,f2,f3,f4,f5⟩
   .have hf:=Z1 (P:=P) (w:=w) hk f2;rw[f1];refine Ce hI (u:=z) ?_ (C5 (Z5 hc));simp[execOp,ho,qk,qB,Instr.lookup,run_underlying ht,getObj,Sem.run,hh];simp[qQ,hf,zeroValue,typeInfo,qj,hz]
   .have hf:=Z1 (P:=P) (w:=w) hk f4;rw[f1];refine Ce hI (u:=en.val) ?_ (C5 f5);simp[execOp,ho,qk,qB,Instr.lookup,run_underlying ht,getObj,Sem.run,hh];simp[qQ,hf]
  .cases h
 .cases h
def A0i{t kt et:TypeId}{x y z:Operand}{s1 s2 s3:S}(ho:o.op=.mapUpdate t x y z)(ht:P.underlying t=some (.map kt et))(hk:P.underlying kt=some .string)
  (hx:RepV γ w (Ac e s1) (a.eval x)) (hy:RepV γ w (Ac e s2) (a.eval y)) (hz:RepV γ w (Ac e s3) (a.eval z)) (hI:Inv G N γ σ w) (h:Ae (.mup s1 s2 s3) e σ=some (v,σ1)):Co P G N γ σ w ((execOp a.eval o).run P w) v σ1:=by
 simp only[Ae]at h
 split at h
 .rename_i i s e1 e2;rw[e1]at hx;rw[e2]at hy;obtain⟨qB,vi⟩:=Gf (Ay rfl hy);obtain⟨blk,g',hO,hu⟩:=An6 (Ay rfl hx)
  split at h
  .rename_i kvs jM
   split at h
   .rename_i qR
    cases h;have vk:RepC γ w (Ac e s3) (a.eval z):=Ay (by revert qR;cases Ac e s3<;>simp[V.flatB,V.cellB]) hz;obtain⟨kq,_,es,hh,jB,qL⟩:=hI.obj i _ _ jM hO;have qk:=hu kq;have hh:w.heap[blk]?=some (.map es kvs.length):=hh;have qy:blk<w.heap.size:=(Array.getElem?_eq_some_iff.1 hh).1
    have qQ:∀ b,(Instr.checkKey b 10000 kt (.string ⟨s.toArray⟩)).run P w=.ok () w:=fun b=>by
     have:∀ d,(Instr.checkKey b (d+1) kt (.string ⟨s.toArray⟩)).run P w=.ok () w:=fun d=>by simp[Instr.checkKey,run_underlying hk]
     exact this 9999
    have jU:∀ ob,(Q7 w blk ob).heap.size=w.heap.size/\(∀ b,b≠blk->(Q7 w blk ob).heap[b]?=w.heap[b]?)/\(Q7 w blk ob).heap[blk]?=some ob:=fun ob=>by
     refine⟨by simp[Q7],fun b hb=>by simp[Q7,Array.getElem?_setIfInBounds,Ne.symm hb],by simp[Q7,qy]⟩
    rcases Ae6 (γ:=γ) (w:=w) (s:=s) (kvs:=kvs) (es:=es.toList) (i:=0) (by simpa using jB) (fun j k v hj=>by
     obtain⟨en,a1,a2,_,_,_,a6⟩:=qL j k v hj
     exact⟨en,by simpa using a1,a2,a6⟩) with⟨f1,f2⟩ | ⟨j,v',en,f1,f2,f3,f4,f5⟩
    .have hf:=Z1 (P:=P) (w:=w) hk f2;rw[f1];obtain⟨q1,q2,q3⟩:=jU (.map (es.push { key:=.string ⟨s.toArray⟩,val:=a.eval z,born:=kvs.length }) (kvs.length+1))
     obtain⟨i1,i2⟩:=hI.turnMap (kvs':=kvs++[(s,Ac e s3)]) (es':=es.push { key:=.string ⟨s.toArray⟩,val:=a.eval z,born:=kvs.length }) hO jM q1 q2 (by rw[q3];simp) (by simp[jB]) (fun j k v hj=>by
      by_cases qJ:j<kvs.length
      .rw[Ca qJ]at hj;obtain⟨en,a1,a2⟩:=qL j k v hj;exact⟨en,by rw[Array.getElem?_push_lt (by omega)];simpa[show j<es.size by omega] using a1,a2⟩
      .rw[Cd (by omega)]at hj
       have vD:j=kvs.length:=by
        have:=(Aq.1 hj).1;simp at this;omega
       subst vD;simp at hj;obtain⟨rfl,rfl⟩:=hj
       exact⟨{ key:=.string ⟨s.toArray⟩,val:=a.eval z,born:=kvs.length },by rw[show kvs.length=es.size from jB.symm];simp,rfl,vi,rfl,qR,vk⟩)
     refine⟨undef,_,γ,.inr ⟨?_,rfl⟩,.und,i1,i2,⟨rfl,rfl,rfl,by rw[q1];exact Ai _,fun k hk=>q2 k (by have:=hI.low i _ hO;have:N<=blk:=this;omega)⟩,fun _ _=>rfl⟩;simp[execOp,ho,qk,qB,Instr.mapUpdate,run_underlying ht,getObj,Sem.run,hh];simp[qQ,hf,Aj3 _ hh]
    .have hf:=Z1 (P:=P) (w:=w) hk f4;rw[f1];have qF:j<kvs.length:=(Aq.1 f2).1;obtain⟨kc,b1,b2,b3,b4,b5,b6⟩:=qL j s v' f2
     have vx:kc=en:=by
      have:es.toList[j]?=some kc:=by simpa using b1
      rw[f3]at this;cases this;rfl
     subst vx;obtain⟨q1,q2,q3⟩:=jU (.map (es.modify j fun en=>{ en with key:=.string ⟨s.toArray⟩,val:=a.eval z }) kvs.length)
     obtain⟨i1,i2⟩:=hI.turnMap (kvs':=kvs.set j (s,Ac e s3)) (es':=es.modify j fun en=>{ en with key:=.string ⟨s.toArray⟩,val:=a.eval z }) hO jM q1 q2 (by rw[q3];simp) (by simp[jB]) (fun j' k v hj=>by
      by_cases kv:j=j'
      .subst kv;rw[Ci qF]at hj;cases hj;exact⟨{ kc with key:=.string ⟨s.toArray⟩,val:=a.eval z },by simp[Array.getElem?_modify,b1],rfl,vi,b4,qR,vk⟩
      .rw[Bj kv]at hj;obtain⟨en,a1,a2⟩:=qL j' k v hj
       exact⟨en,by simp[Array.getElem?_modify,kv,a1],a2⟩)
     have f0:0+j=j:=Fc j;rw[f0]at hf;simp only[f0];refine⟨undef,_,γ,.inr ⟨?_,rfl⟩,.und,i1,i2,⟨rfl,rfl,rfl,by rw[q1];exact Ai _,fun k hk=>q2 k (by have:=hI.low i _ hO;have:N<=blk:=this;omega)⟩,fun _ _=>rfl⟩
     have kz:(Instr.keyThatStays (((es[j]?).map (·.key)).getD (.string ⟨s.toArray⟩)) (.string ⟨s.toArray⟩)).run P w=.ok (.string ⟨s.toArray⟩) w:=by
      rw[b1]
      have jT:Instr.sameBits 10000 (.string ⟨s.toArray⟩) (.string ⟨s.toArray⟩)=true:=by
       rw[Instr.sameBits];rw[beq_toListBytes];simp
      simp[b2,Instr.keyThatStays,jT]
     simp[execOp,ho,qk,qB,Instr.mapUpdate,run_underlying ht,getObj,Sem.run,hh];simp[qQ,hf,kz,Aj3 _ hh]
   .cases h
  .cases h
 .cases h
open Go Go.RowKit
variable {P:Program} {G:List (Nat × List V)} {N:Nat} {γ:Gh} {σ σ1:St} {w:World} {e:Env} {a:Act} {o:Oper} {v:V}
/-! The check -/
def Qj(P:Program)(zs:List V)(t:TypeId):Bool:=
 match P.info? t with
 | some i=>match i.zero with
  | some z=>Hj zs z.cells.toList
  | none=>false
 | none=>false
def Jc(P:Program)(t:TypeId)(n:Nat):Bool:=match P.info? t with
 | some i=>i.size==n
 | none=>false
def Tt{zs:List V}{t:TypeId}(h:Qj P zs t=true):∃ fi z,P.info? t=some fi/\fi.zero=some z/\Hj zs z.cells.toList=true:=by
 unfold Qj at h
 split at h
 .rename_i fi qj
  split at h
  .rename_i z hz;exact⟨fi,z,qj,hz,h⟩
  .cases h
 .cases h
def Kz{t:TypeId}{n:Nat}(h:Jc P t n=true):∃ fi,P.info? t=some fi/\fi.size=n:=by
 unfold Jc at h
 split at h
 .rename_i fi qj;exact⟨fi,qj,eq_of_beq h⟩
 .cases h
def Vq(G:List (Nat × List V))(qg:List (Nat × Nat)):List (Nat × Nat × S)->List (Nat × Operand)->Bool
 | [],[]=>true
 | p::ps,q::qs=>(match qg[q.1]? with
   | some (o,n)=>o==p.1&&n==p.2.1
   | none=>false)&&(Bs G p.2.2 q.2&&Vq G qg ps qs)
 | _,_=>false
def Q8(G:List (Nat × List V)):List (Nat × S)->List (Nat × Operand)->Bool
 | [],[]=>true
 | p::ps,q::qs=>p.1==q.1&&(Bs G p.2 q.2&&Q8 G ps qs)
 | _,_=>false
def Al9{qg:List (Nat × Nat)}:∀ {ps:List (Nat × Nat × S)} {qs:List (Nat × Operand)},Vq G qg ps qs=true->ps.length=qs.length/\∀ (i:Nat) (p:Nat × Nat × S) (q:Nat × Operand),ps[i]?=some p->qs[i]?=some q->qg[q.1]?=some (p.1,p.2.1)/\Bs G p.2.2 q.2=true
 | [],[],_=>⟨rfl,fun i p q h=>by simp at h⟩
 | p::ps,q::qs,h=>by
  simp only[Vq,Af]at h;obtain⟨h1,h2,h3⟩:=h;obtain⟨l,g⟩:=Al9 h3;refine⟨by simp[l],fun i p' q' hp hq=>?_⟩
  cases i with
  | zero=>
   simp at hp hq;subst hp hq
   split at h1
   .rename_i o n kH;simp only[Af,beq_iff_eq]at h1;exact⟨by rw[kH,h1.1,h1.2],h2⟩
   .cases h1
  | succ i=>exact g i p' q' (by simpa using hp) (by simpa using hq)
 | [],_::_,h=>by simp[Vq]at h
 | _::_,[],h=>by simp[Vq]at h
def Aaq:∀ {ps:List (Nat × S)} {qs:List (Nat × Operand)},Q8 G ps qs=true->ps.length=qs.length/\∀ (i:Nat) (p:Nat × S) (q:Nat × Operand),ps[i]?=some p->qs[i]?=some q->p.1=q.1/\Bs G p.2 q.2=true
 | [],[],_=>⟨rfl,fun i p q h=>by simp at h⟩
 | p::ps,q::qs,h=>by
  simp only[Q8,Af,beq_iff_eq]at h;obtain⟨h1,h2,h3⟩:=h;obtain⟨l,g⟩:=Aaq h3;refine⟨by simp[l],fun i p' q' hp hq=>?_⟩
  cases i with
  | zero=>
   simp at hp hq;subst hp hq;exact⟨h1,h2⟩
  | succ i=>exact g i p' q' (by simpa using hp) (by simpa using hq)
 | [],_::_,h=>by simp[Q8]at h
 | _::_,[],h=>by simp[Q8]at h
def Db(P:Program)(t:TypeId)(f:TypeDesc->Bool):Bool:=match P.underlying t with
 | some d=>f d
 | none=>false
def Df{t:TypeId}{f:TypeDesc->Bool}(h:Db P t f=true):∃ d,P.underlying t=some d/\f d=true:=by
 unfold Db at h
 split at h
 .exact⟨_,by assumption,h⟩
 .cases h
def Hn:TypeDesc->Bool
 | .string=>true
 | _=>false
def Qr(k:IntKind):TypeDesc->Bool
 | .int k'=>decide (k=k')
 | _=>false
def Vr(G:List (Nat × List V))(m:Nat):List (Nat × Nat × S)->List (Nat × Operand)->Bool
 | [],[]=>true
 | p::ps,q::qs=>q.1*m==p.1&&(m==p.2.1&&(Bs G p.2.2 q.2&&Vr G m ps qs))
 | _,_=>false
def Ama{m:Nat}:∀ {ps:List (Nat × Nat × S)} {qs:List (Nat × Operand)},Vr G m ps qs=true->ps.length=qs.length/\∀ (i:Nat) (p:Nat × Nat × S) (q:Nat × Operand),ps[i]?=some p->qs[i]?=some q->(q.1*m,m)=(p.1,p.2.1)/\Bs G p.2.2 q.2=true
 | [],[],_=>⟨rfl,fun i p q h=>by simp at h⟩
 | p::ps,q::qs,h=>by
  simp only[Vr,Af,beq_iff_eq]at h;obtain⟨h1,h2,h3,h4⟩:=h;obtain⟨l,g⟩:=Ama h4;refine⟨by simp[l],fun i p' q' hp hq=>?_⟩
  cases i with
  | zero=>
   simp at hp hq;subst hp hq;exact⟨by rw[h1,h2],h3⟩
  | succ i=>exact g i p' q' (by simpa using hp) (by simpa using hq)
 | [],_::_,h=>by simp[Vr]at h
 | _::_,[],h=>by simp[Vr]at h
def Ma(G:List (Nat × List V)):List S->List Operand->Bool
 | [],[]=>true
 | s::ss,x::xs=>Bs G s x&&Ma G ss xs
 | _,_=>false
def Aar(hE:RepE γ w e a.tmps)(hI:Inv G N γ σ w):∀ {ss:List S} {xs:List Operand},Ma G ss xs=true->ss.length=xs.length/\∀ (i:Nat) s x,ss[i]?=some s->xs[i]?=some x->RepV γ w (Ac e s) (a.eval x)
 | [],[],_=>⟨rfl,fun i s x h=>by simp at h⟩
 | s::ss,x::xs,h=>by
  simp only[Ma,Af]at h;obtain⟨l,g⟩:=Aar hE hI h.2;refine⟨by simp[l],fun i s' x' hs hx=>?_⟩
  cases i with
  | zero=>simp at hs hx;subst hs hx;exact Xf h.1 hE hI
  | succ i=>exact g i s' x' (by simpa using hs) (by simpa using hx)
 | [],_::_,h=>by simp[Ma]at h
 | _::_,[],h=>by simp[Ma]at h
def Acp(P:Program)(f:TypeId->TypeId->Bool):TypeDesc->Bool
 | .map k e=>f k e
 | _=>false
def Afu(P:Program)(z:V)(t:TypeId):Bool:=match P.info? t with
 | some i=>match i.zero with
  | some u=>Mu z u
  | none=>false
 | none=>false
def Ati{z:V}{t:TypeId}(h:Afu P z t=true):∃ fi u,P.info? t=some fi/\fi.zero=some u/\Mu z u=true:=by
 unfold Afu at h
 split at h
 .rename_i fi qj
  split at h
  .rename_i u hu;exact⟨fi,u,qj,hu,h⟩
  .cases h
 .cases h
def Aoc(P:Program)(G:List (Nat × List V))(zs:List V)(ps:List (Nat × Nat × S))(t:TypeId)(qm:List (Nat × Operand)):TypeDesc->Bool
 | .struct fs=>match fs.toList.mapM (fun f=>(P.info? f.type).map fun i=>(f.offset,i.size)) with
  | some qg=>Vq G qg ps qm
  | none=>false
 | .array _ el=>match P.info? el with
  | some fe=>Vr G fe.size ps qm
  | none=>false
 | _=>false
def Arn(P:Program)(off i:Nat):TypeDesc->Bool
 | .struct fs=>match fs[i]? with
  | some f=>f.offset==off&&(match P.info? f.type with
   | some fi=>fi.size != 0
   | none=>false)
  | none=>false
 | _=>false
def Aro(P:Program)(off n:Nat)(one:Bool)(i:Nat):TypeDesc->Bool
 | .struct fs=>match fs[i]? with
  | some f=>f.offset==off&&(Jc P f.type n&&Db P f.type (fun d=>M6 d==!one))
  | none=>false
 | _=>false
def Arp(P:Program)(len m:Nat)(one:Bool):TypeDesc->Bool
 | .array len' el=>len==len'&&(Jc P el m&&Db P el (fun d=>M6 d==!one))
 | _=>false
def Fv(P:Program)(f:TypeId->Bool):TypeDesc->Bool
 | .slice el=>f el
 | _=>false
def Ac5(P:Program)(bytes m:Nat)(el:TypeId):Bool:=match P.info? el with
 | some fi=>fi.size==m&&(fi.bytes==bytes&&(decide (0<m)&&(decide (0<bytes)&&(match fi.zero with
  | some z=>z.cells.size==m
  | none=>false))))
 | none=>false
def Vs(P:Program)(G:List (Nat × List V))(ao:AO)(op:Op):Bool:=
 match ao,op with
 | .mov s,.move x=>Bs G s x
 | .mov s,.assign x=>Bs G s x
 | .pick s1 s2 s3,.pick x y z=>Bs G s1 x&&(Bs G s2 y&&Bs G s3 z)
 | .new t' zs,.alloc t=>t'==t&&Qj P zs t
 | .box t' s,.box t x=>t'==t&&Bs G s x
 | .build zs ps,.build t qm=>Qj P zs t&&Db P t (Aoc P G zs ps t qm.toList)
 | .rows n zs ps,.buildSlice t n' qm=>n==n'&&(Db P t (Fv P fun el=>Qj P zs el&&Jc P el zs.length)&&(decide (0<zs.length)&&(decide (n*zs.length<=16777216)&&Q8 G ps qm.toList)))
 | .rowf n zs ps,.buildSlice t n' qm=>n==n'&&(Db P t (Fv P fun el=>Qj P zs el&&Jc P el zs.length)&&(decide (0<zs.length)&&(decide (n*zs.length<=16777216)&&Q8 G ps qm.toList)))
 | .rowo el' n zs ps,.buildSlice t n' qm=>n==n'&&(Db P t (Fv P fun el=>el'==el&&(Qj P zs el&&Jc P el zs.length))&&(decide (0<zs.length)&&(decide (n*zs.length<=16777216)&&Q8 G ps qm.toList)))
 | .mk el' bytes zs s1 s2,.makeSlice t x y=>Bs G s1 x&&(Bs G s2 y&&(decide (0<zs.length)&&Db P t (Fv P fun el=>el'==el&&(Qj P zs el&&(Jc P el zs.length&&(match P.info? el with
  | some fi=>fi.bytes==bytes&&decide (0<bytes)
  | none=>false))))))
 | .load n one s,.load t x=>Bs G s x&&(Jc P t n&&Db P t (fun d=>M6 d==!one))
 | .store n s1 s2,.store t x y=>Bs G s1 x&&(Bs G s2 y&&Jc P t n)
 | .chk s,.nilCheck x=>Bs G s x
 | .bin b s1 s2,.binOp b' _ x y _=>decide (b=b')&&(Bs G s1 x&&Bs G s2 y)
 | .eq k ql s1 s2,.binOp b' t x y _=>decide (b'=(if ql then BinOp.neq else BinOp.eql))&&(Aid P k t x y&&(Bs G s1 x&&Bs G s2 y))
 | .un b s,.unOp b' _ x=>decide (b=b')&&Bs G s x
 | .cvi k s,.convert t1 t2 x=>Bs G s x&&((P.underlying t1).isSome&&Db P t2 (Qr k))
 | .cvs s,.convert t1 t2 x=>Bs G s x&&((P.underlying t1).isSome&&Db P t2 Hn)
 | .cvl s,.convert t1 t2 x=>t1==t2&&(Bs G s x&&Db P t1 (Fv P fun el=>Db P el (Qr .u8)))
 | .bts s,.convert t1 t2 x=>Bs G s x&&(Db P t2 Hn&&Db P t1 (Fv P fun el=>Db P el (Qr .u8)))
 | .stb el' s,.convert t1 t2 x=>Bs G s x&&(Db P t1 Hn&&Db P t2 (Fv P fun el=>el'==el&&Db P el (Qr .u8)))
 | .sap n s,.sliceToArrayPointer t x=>Bs G s x&&Db P t (fun d=>match d with
  | .array l _=>l==n
  | _=>false)
 | .slcs s lo hi,.slice t x lo' qE mx=>mx.isNone&&(Bs G s x&&(Hr G lo lo'&&(Hr G hi qE&&Db P t Hn)))
 | .slc m s lo hi mx,.slice t x lo' qE mx'=>Bs G s x&&(Hr G lo lo'&&(Hr G hi qE&&(Hr G mx mx'&&((!mx.isSome||hi.isSome)&&(m != 0&&Db P t (Fv P fun el=>Jc P el m))))))
 | .slca len m s lo hi,.slice t x lo' qE mx=>mx.isNone&&(Bs G s x&&(Hr G lo lo'&&(Hr G hi qE&&(decide (len<=16777216)&&Db P t (fun d=>match d with
  | .array l el=>l==len&&Jc P el m
  | _=>false)))))
 | .mkf f as cs,.makeFunc (.func f') first qb=>f==f'&&(Ma G as first.toList&&Ma G cs qb.toList)
 | .mmk,.makeMap _ none=>true
 | .mlk z s1 s2,.lookup t x y false=>Bs G s1 x&&(Bs G s2 y&&Db P t (Acp P fun k el=>Db P k Hn&&Afu P z el))
 | .mup s1 s2 s3,.mapUpdate t x y z=>Bs G s1 x&&(Bs G s2 y&&(Bs G s3 z&&Db P t (Acp P fun k _=>Db P k Hn)))
 | .fld off n one s,.field t x i=>Bs G s x&&Db P t (Aro P off n one i)
 | .ida len m one s1 s2,.index t x y=>Bs G s1 x&&(Bs G s2 y&&Db P t (Arp P len m one))
 | .fad off s,.fieldAddr t x i=>Bs G s x&&Db P t (Arn P off i)
 | .iad m s1 s2,.indexAddr t x y=>Bs G s1 x&&(Bs G s2 y&&Db P t (Fv P fun el=>Jc P el m))
 | .iar len m s1 s2,.indexAddr t x y=>Bs G s1 x&&(Bs G s2 y&&Db P t (fun d=>match d with
  | .array l el=>l==len&&Jc P el m
  | _=>false))
 | .idx s1 s2,.index t x y=>Bs G s1 x&&(Bs G s2 y&&Db P t Hn)
 | .ext i s,.extract x i'=>i==i'&&Bs G s x
 | .len s,.call { callee:=.builtin .len,args,argTypes }=>match args.toList,argTypes.toList with
  | [x],[t]=>Bs G s x&&Db P t (Fv P fun _=>true)
  | _,_=>false
 | .lens s,.call { callee:=.builtin .len,args,argTypes }=>match args.toList,argTypes.toList with
  | [x],[t]=>Bs G s x&&Db P t Hn
  | _,_=>false
 | .app bytes m s1 s2,.call { callee:=.builtin .append,args,argTypes }=>match args.toList,argTypes.toList with
  | [x,y],[t,u]=>t==u&&(Bs G s1 x&&(Bs G s2 y&&Db P t (Fv P fun el=>el==m.2&&Ac5 P bytes m.1 el)))
  | _,_=>false
 | .apps ty s1 s2,.call { callee:=.builtin .append,args,argTypes }=>match args.toList,argTypes.toList with
  | [x,y],[t,u]=>Bs G s1 x&&(Bs G s2 y&&(Db P t (Fv P fun el=>el==ty&&Ac5 P 1 1 el)&&Db P u Hn))
  | _,_=>false
 | .mx s1 s2,.call { callee:=.builtin .max,args,.. }=>match args.toList with
  | [x,y]=>Bs G s1 x&&Bs G s2 y
  | _=>false
 | .mn s1 s2,.call { callee:=.builtin .min,args,.. }=>match args.toList with
  | [x,y]=>Bs G s1 x&&Bs G s2 y
  | _=>false
 | _,_=>false
def Nr{α:Type}{xs:Array α}{l:List α}(h:xs.toList=l):xs=l.toArray:=by subst h;simp
def Aky{bytes m:Nat}{el:TypeId}(h:Ac5 P bytes m el=true):∃ fi z,P.info? el=some fi/\fi.size=m/\fi.bytes=bytes/\0<m/\0<bytes/\fi.zero=some z/\z.cells.size=m:=by
 unfold Ac5 at h
 split at h
 .rename_i fi qj;simp only[Af,beq_iff_eq,decide_eq_true_eq]at h;obtain⟨h1,h2,h3,h4,h5⟩:=h
  split at h5
  .rename_i z hz;exact⟨fi,z,qj,h1,h2,h3,h4,hz,eq_of_beq h5⟩
  .cases h5
 .cases h
def A75{ao:AO}(qa:Vs P G ao o.op=true)(hE:RepE γ w e a.tmps)(hI:Inv G N γ σ w)(h:Ae ao e σ=some (v,σ1)):Co P G N γ σ w ((execOp a.eval o).run P w) v σ1:=by
 have R:=fun {s:S} {x:Operand} (h:Bs G s x=true)=>Xf (a:=a) h hE hI
 generalize ho:o.op=op at qa;unfold Vs at qa
 split at qa
 .-- move
  simp only[Ae]at h;cases h;exact Ce hI (by simp[execOp,ho]) (R qa)
 .simp only[Ae]at h;cases h;exact Ce hI (by simp[execOp,ho]) (R qa)
 .simp only[Af]at qa;exact Aws ho (R qa.1) (R qa.2.1) (R qa.2.2) hI h
 .simp only[Af,beq_iff_eq]at qa;obtain⟨rfl,qa⟩:=qa;obtain⟨fi,z,h1,h2,h3⟩:=Tt qa;exact Az4 ho h1 h2 h3 hI h
 .simp only[Af,beq_iff_eq]at qa;obtain⟨rfl,qa⟩:=qa;exact Az5 ho (R qa) hI h
 .simp only[Af]at qa;obtain⟨fi,z,h1,h2,h3⟩:=Tt qa.1;obtain⟨d,hd,hb⟩:=Df qa.2;unfold Aoc at hb
  split at hb
  .split at hb
   .rename_i qg kH;obtain⟨l,g⟩:=Al9 hb
    exact Au7 ho hd h1 h2 h3 kH (by simpa using l) (fun i p q hp hq=>by
     obtain⟨g1,g2⟩:=g i p q hp (by simpa using hq)
     exact⟨g1,R g2⟩) hI h
   .cases hb
  .split at hb
   .rename_i fe vz;obtain⟨l,g⟩:=Ama hb
    exact At9 ho hd h1 h2 h3 vz (by simpa using l) (fun i p q hp hq=>by
     obtain⟨g1,g2⟩:=g i p q hp (by simpa using hq)
     exact⟨g1,R g2⟩) hI h
   .cases hb
  .cases hb
 .simp only[Af,beq_iff_eq,decide_eq_true_eq]at qa;obtain⟨rfl,hd,hm,hb,hr⟩:=qa;obtain⟨d,hd,hs⟩:=Df hd;unfold Fv at hs
  split at hs
  .simp only[Af]at hs;obtain⟨fi,z,h1,h2,h3⟩:=Tt hs.1;obtain⟨ke,qP,h4⟩:=Kz hs.2;rw[h1]at qP;cases qP;obtain⟨l,g⟩:=Aaq hr
   exact Awy ho hd h1 h2 h3 h4 hm hb (by simpa using l) (fun i p q hp hq=>by
    obtain⟨g1,g2⟩:=g i p q hp (by simpa using hq)
    exact⟨g1,R g2⟩) hI h
  .cases hs
 .simp only[Af,beq_iff_eq,decide_eq_true_eq]at qa;obtain⟨rfl,hd,hm,hb,hr⟩:=qa;obtain⟨d,hd,hs⟩:=Df hd;unfold Fv at hs
  split at hs
  .simp only[Af]at hs;obtain⟨fi,z,h1,h2,h3⟩:=Tt hs.1;obtain⟨ke,qP,h4⟩:=Kz hs.2;rw[h1]at qP;cases qP;obtain⟨l,g⟩:=Aaq hr
   exact Awx ho hd h1 h2 h3 h4 hm hb (by simpa using l) (fun i p q hp hq=>by
    obtain⟨g1,g2⟩:=g i p q hp (by simpa using hq)
    exact⟨g1,R g2⟩) hI h
  .cases hs
 .simp only[Af,beq_iff_eq,decide_eq_true_eq]at qa;obtain⟨rfl,hd,hm,hb,hr⟩:=qa;obtain⟨d,hd,hs⟩:=Df hd;unfold Fv at hs
  split at hs
  .simp only[Af,beq_iff_eq]at hs;obtain⟨rfl,jS,qi⟩:=hs;obtain⟨fi,z,h1,h2,h3⟩:=Tt jS;obtain⟨ke,qP,h4⟩:=Kz qi;rw[h1]at qP;cases qP;obtain⟨l,g⟩:=Aaq hr
   exact Awz ho hd h1 h2 h3 h4 hm hb (by simpa using l) (fun i p q hp hq=>by
    obtain⟨g1,g2⟩:=g i p q hp (by simpa using hq)
    exact⟨g1,R g2⟩) hI h
  .cases hs
 .simp only[Af,beq_iff_eq,decide_eq_true_eq]at qa;obtain⟨k1,k2,hm,jA⟩:=qa;obtain⟨d,hd,hs⟩:=Df jA;clear jA;unfold Fv at hs
  split at hs
  .simp only[Af,beq_iff_eq]at hs;obtain⟨rfl,jS,qi,kJ⟩:=hs;obtain⟨fi,z,h1,h2,h3⟩:=Tt jS;obtain⟨ke,qP,h4⟩:=Kz qi;rw[h1]at qP kJ;cases qP;simp only[Af,beq_iff_eq,decide_eq_true_eq]at kJ;obtain⟨rfl,jz⟩:=kJ;exact A35 ho hd h1 h2 h3 h4 hm jz (R k1) (R k2) hI h
  .cases hs
 .simp only[Af]at qa;obtain⟨fi,h1,h2⟩:=Kz qa.2.1;obtain⟨d,hd,hs⟩:=Df qa.2.2;exact Awu ho hd (eq_of_beq hs) h1 h2 (R qa.1) hI h
 .simp only[Af]at qa;obtain⟨fi,h1,h2⟩:=Kz qa.2.2;exact Au6 ho h1 h2 (R qa.1) (R qa.2.1) hI h
 .exact Azx ho (R qa) hI h
 .simp only[Af,decide_eq_true_eq]at qa;obtain⟨rfl,h1,h2⟩:=qa;simp only[Ae,Bo]at h;obtain⟨v',h,h3⟩:=h;cases h3;exact Azu ho (R h1) (R h2) hI h
 .simp only[Af,decide_eq_true_eq]at qa;obtain⟨rfl,h1,h2,h3⟩:=qa;exact A37 ho h1 (R h2) (R h3) hI h
 .simp only[Af,decide_eq_true_eq]at qa;obtain⟨rfl,h1⟩:=qa;exact A32 ho (R h1) hI h
 .simp only[Af]at qa;obtain⟨h1,h2,h3⟩:=qa;obtain⟨d1,kh⟩:=Option.isSome_iff_exists.1 h2;obtain⟨d,hd,hs⟩:=Df h3;unfold Qr at hs
  split at hs
  .obtain rfl:=of_decide_eq_true hs;exact Azv ho kh hd (R h1) hI h
  .cases hs
 .simp only[Af]at qa;obtain⟨h1,h2,h3⟩:=qa;obtain⟨d1,kh⟩:=Option.isSome_iff_exists.1 h2;obtain⟨d,hd,hs⟩:=Df h3;unfold Hn at hs
  split at hs
  .exact Azw ho kh hd (R h1) hI h
  .cases hs
 .simp only[Af,beq_iff_eq]at qa;obtain⟨rfl,h1,h2⟩:=qa;obtain⟨d,hd,hs⟩:=Df h2;unfold Fv at hs
  split at hs
  .obtain⟨d2,qD,qi⟩:=Df hs;unfold Qr at qi
   split at qi
   .obtain rfl:=of_decide_eq_true qi;exact Az8 ho hd qD (R h1) hI h
   .cases qi
  .cases hs
 .simp only[Af]at qa;obtain⟨h1,h2,h3⟩:=qa;obtain⟨d0,jA,jy⟩:=Df h2;obtain⟨d,hd,hs⟩:=Df h3;unfold Hn at jy
  split at jy
  .unfold Fv at hs
   split at hs
   .obtain⟨d2,qD,qi⟩:=Df hs;unfold Qr at qi
    split at qi
    .obtain rfl:=of_decide_eq_true qi;exact A0d ho hd qD jA (R h1) hI h
    .cases qi
   .cases hs
  .cases jy
 .simp only[Af]at qa;obtain⟨h1,h2,h3⟩:=qa;obtain⟨d0,jA,jy⟩:=Df h2;obtain⟨d,hd,hs⟩:=Df h3;unfold Hn at jy
  split at jy
  .unfold Fv at hs
   split at hs
   .simp only[Af,beq_iff_eq]at hs;obtain⟨rfl,hs⟩:=hs;obtain⟨d2,qD,qi⟩:=Df hs;unfold Qr at qi
    split at qi
    .obtain rfl:=of_decide_eq_true qi;exact A0e ho jA hd qD (R h1) hI h
    .cases qi
   .cases hs
  .cases jy
 .simp only[Af]at qa;obtain⟨h1,h2⟩:=qa;obtain⟨d,hd,hs⟩:=Df h2
  split at hs
  .obtain rfl:=eq_of_beq hs;exact A0c ho hd (R h1) hI h
  .cases hs
 .simp only[Af,Option.isNone_iff_eq_none]at qa;obtain⟨rfl,h1,h2,h3,h4⟩:=qa;obtain⟨d,hd,hs⟩:=Df h4;unfold Hn at hs
  split at hs
  .exact Aw0 ho hd h2 h3 (R h1) hE hI h
  .cases hs
 .simp only[Af,Ij,I5]at qa;obtain⟨h1,h2,h3,h4,h5,h7,h6⟩:=qa;obtain⟨d,hd,hs⟩:=Df h6;unfold Fv at hs
  split at hs
  .obtain⟨fi,g1,g2⟩:=Kz hs;subst g2;exact Az7 ho hd g1 h2 h3 h4 (fun h=>by rcases h5 with h5 | h5<;>simp_all) (by simpa using h7) (R h1) hE hI h
  .cases hs
 .simp only[Af,Option.isNone_iff_eq_none,decide_eq_true_eq]at qa;obtain⟨rfl,h1,h2,h3,h4,h5⟩:=qa;obtain⟨d,hd,hs⟩:=Df h5
  split at hs
  .simp only[Af,beq_iff_eq]at hs;obtain⟨rfl,hs⟩:=hs;obtain⟨fi,g1,g2⟩:=Kz hs;subst g2;exact Aw1 ho hd g1 h2 h3 (by unfold maxLen;omega) (R h1) hE hI h
  .cases hs
 .simp only[Af,beq_iff_eq]at qa;obtain⟨rfl,h1,h2⟩:=qa;exact A0f ho (Aar hE hI h1) (Aar hE hI h2) hI h
 .exact A0g ho hI h
 .simp only[Af]at qa;obtain⟨h1,h2,h3⟩:=qa;obtain⟨d,hd,hs⟩:=Df h3;unfold Acp at hs
  split at hs
  .simp only[Af]at hs;obtain⟨d2,qD,qi⟩:=Df hs.1;unfold Hn at qi
   split at qi
   .obtain⟨fi,u,g1,g2,g3⟩:=Ati hs.2;exact A0h ho hd qD g1 g2 g3 (R h1) (R h2) hI h
   .cases qi
  .cases hs
 .simp only[Af]at qa;obtain⟨h1,h2,h3,h4⟩:=qa;obtain⟨d,hd,hs⟩:=Df h4;unfold Acp at hs
  split at hs
  .obtain⟨d2,qD,qi⟩:=Df hs;unfold Hn at qi
   split at qi
   .exact A0i ho hd qD (R h1) (R h2) (R h3) hI h
   .cases qi
  .cases hs
 .simp only[Af]at qa;obtain⟨d,hd,hs⟩:=Df qa.2;unfold Aro at hs
  split at hs
  .split at hs
   .rename_i f hf;simp only[Af,beq_iff_eq]at hs;obtain⟨fi,g1,g2⟩:=Kz hs.2.1;obtain⟨d2,qD,qi⟩:=Df hs.2.2;exact A0a ho hd hf hs.1 qD (eq_of_beq qi) g1 g2 (R qa.1) hI h
   .cases hs
  .cases hs
 .simp only[Af]at qa;obtain⟨d,hd,hs⟩:=Df qa.2.2;unfold Arp at hs
  split at hs
  .simp only[Af,beq_iff_eq]at hs;obtain⟨rfl,hs⟩:=hs;obtain⟨fi,g1,g2⟩:=Kz hs.1;obtain⟨d2,qD,qi⟩:=Df hs.2;exact A0b ho hd qD (eq_of_beq qi) g1 g2 (R qa.1) (R qa.2.1) hI h
  .cases hs
 .simp only[Af]at qa;obtain⟨h1,h2⟩:=qa;obtain⟨d,hd,hs⟩:=Df h2;unfold Arn at hs
  split at hs
  .split at hs
   .rename_i f hf;simp only[Af,beq_iff_eq]at hs;obtain⟨g1,g2⟩:=hs
    split at g2
    .rename_i fi qj;exact Az1 ho hd hf g1 qj (by simpa using g2) (R h1) hI h
    .cases g2
   .cases hs
  .cases hs
 .simp only[Af]at qa;obtain⟨h1,h2,h3⟩:=qa;obtain⟨d,hd,hs⟩:=Df h3;unfold Fv at hs
  split at hs
  .obtain⟨fi,g1,g2⟩:=Kz hs;exact Az3 ho hd g1 g2 (R h1) (R h2) hI h
  .cases hs
 .simp only[Af]at qa;obtain⟨h1,h2,h3⟩:=qa;obtain⟨d,hd,hs⟩:=Df h3
  split at hs
  .simp only[Af,beq_iff_eq]at hs;obtain⟨rfl,hs⟩:=hs;obtain⟨fi,g1,g2⟩:=Kz hs;exact Az2 ho hd g1 g2 (R h1) (R h2) hI h
  .cases hs
 .simp only[Af]at qa;obtain⟨h1,h2,h3⟩:=qa;obtain⟨d,hd,hs⟩:=Df h3;unfold Hn at hs
  split at hs
  .exact Azy ho hd (R h1) (R h2) hI h
  .cases hs
 .simp only[Af,beq_iff_eq]at qa;obtain⟨rfl,h1⟩:=qa;exact Azz ho (R h1) hI h
 .split at qa
  .rename_i x t e1 e2;rw[Nr e1,Nr e2]at ho;simp only[Af]at qa;obtain⟨d,hd,hs⟩:=Df qa.2;unfold Fv at hs
   split at hs
   .exact Az0 ho hd (R qa.1) hI h
   .cases hs
  .cases qa
 .split at qa
  .rename_i x t e1 e2;rw[Nr e1,Nr e2]at ho;simp only[Af]at qa;obtain⟨d,hd,hs⟩:=Df qa.2;unfold Hn at hs
   split at hs
   .exact Awt ho hd (R qa.1) hI h
   .cases hs
  .cases qa
 .split at qa
  .rename_i x y t u e1 e2;simp only[Af,beq_iff_eq]at qa;obtain⟨rfl,h1,h2,h3⟩:=qa;rw[Nr e1,Nr e2]at ho;obtain⟨d,hd,hs⟩:=Df h3;unfold Fv at hs
   split at hs
   .simp only[Af,beq_iff_eq]at hs;obtain⟨g0,hs⟩:=hs;obtain⟨fi,z,g1,g2,g3,g4,g5,g6,g7⟩:=Aky hs;rename_i el;have em:(fi.size,el)=_:=Prod.ext g2 g0;rw[<-em,<-g3]at h;rw[<-g2]at g4 g7;rw[<-g3]at g5;exact Az9 ho hd g1 g6 g7 g4 g5 (R h1) (R h2) hI h
   .cases hs
  .cases qa
 .split at qa
  .rename_i x y t u e1 e2;simp only[Af]at qa;obtain⟨h1,h2,h3,h4⟩:=qa;rw[Nr e1,Nr e2]at ho;obtain⟨d,hd,hs⟩:=Df h3;obtain⟨d2,qD,qi⟩:=Df h4;unfold Fv at hs
   split at hs
   .unfold Hn at qi
    split at qi
    .simp only[Af,beq_iff_eq]at hs;obtain⟨g0,hs⟩:=hs;obtain⟨fi,z,g1,g2,g3,g4,g5,g6,g7⟩:=Aky hs;rw[<-g0]at h;exact Aw2 ho hd qD g1 g6 g7 g2 g3 (R h1) (R h2) hI h
    .cases qi
   .cases hs
  .cases qa
 .split at qa
  .rename_i x y e1;rw[Nr e1]at ho;simp only[Af]at qa;exact A33 ho (R qa.1) (R qa.2) hI h
  .cases qa
 .split at qa
  .rename_i x y e1;rw[Nr e1]at ho;simp only[Af]at qa;exact A34 ho (R qa.1) (R qa.2) hI h
  .cases qa
 .cases qa
open Go Go.RowKit
def Xz(P:Program)(G:List (Nat × List V))(f:Nat)(xs:List S)(op:Op):Bool:=
 match op with
 | .call { callee:=.value (.func f'),args,.. }=>f==f'&&Ma G xs args.toList
 | _=>false
def Xl(P:Program)(G:List (Nat × List V))(s:S)(xs:List S)(op:Op):Bool:=
 match op with
 | .call { callee:=.value x,args,.. }=>Bs G s x&&Ma G xs args.toList
 | _=>false
def okG(n:Nat)(ops:Array Oper)(g:Option (Nat × Bool))(g':Option (Nat × Bool)):Bool:=
 match g,g' with
 | none,none=>true
 | some (t,b),some (j,b')=>b==b'&&((ops[j]?).bind (·.dst)==some t&&decide (t<n))
 | _,_=>false
def Vt(P:Program)(G:List (Nat × List V))(n:Nat)(ops:Array Oper)(i:AI)(o:Oper):Bool:=
 i.dst==o.dst&&((match i.dst with
  | some d=>decide (d<n)
  | none=>true)&&(okG n ops i.g o.guard&&(match i.op with
  | .call f xs=>Xz P G f xs o.op
  | .callv s xs=>Xl P G s xs o.op
  | ao=>Vs P G ao o.op)))
def Jx(P:Program)(G:List (Nat × List V))(n:Nat)(ops:Array Oper):List AI->List Oper->Bool
 | [],[]=>true
 | i::is,o::os=>Vt P G n ops i o&&Jx P G n ops is os
 | _,_=>false
def Acq(d:List Nat)(o:Oper):Bool:=(o.after.toList.all fun e=>!Region.binds .any e||d.elem e.on)&&d.all fun j=>o.after.toList.any fun e=>Region.binds .any e&&e.on==j
def Oz:List (List Nat)->List Oper->Bool
 | [],[]=>true
 | d::ds,o::os=>Acq d o&&Oz ds os
 | _,_=>false
def Du(P:Program)(G:List (Nat × List V))(n:Nat):AC->Code->Bool
 | .skip,.skip=>true
 | .skip,.label _=>true
 | .reg _ ais,.region _ ops false=>Jx P G n ops ais ops.toList
 | .drw _ qf ais,.region _ ops true=>Jx P G n ops ais ops.toList&&(Oz qf ops.toList&&P.follows .mixedOrders)
 | .seq x y,.seq c d=>Du P G n x c&&Du P G n y d
 | .cond s _ x y,.cond c x' y'=>Bs G s c&&(Du P G n x x'&&Du P G n y y')
 | .blk i c,.block j c'=>i==j&&Du P G n c c'
 | .blk i c,.scope c'=>decide (1000000<=i)&&Du P G n c c'
 | .loop _ c,.loop c'=>Du P G n c c'
 | .exit i,.exit j=>i==j&&decide (i<1000000)
 | .ret,.ret=>true
 | _,_=>false
def okR(P:Program)(n:Nat):AR->ResultVar->Bool
 | .tmp t,.tmp t'=>t==t'&&decide (t<n)
 | .cell t k one,.cell t' ty=>t==t'&&(Jc P ty k&&Db P ty fun d=>M6 d==!one)
 | _,_=>false
def Sf(P:Program)(n:Nat):List AR->List ResultVar->Bool
 | [],[]=>true
 | r::rs,q::qs=>okR P n r q&&Sf P n rs qs
 | _,_=>false
def Pl(P:Program)(G:List (Nat × List V))(f:Nat)(F:AF):Bool:=
 match P.funcs[f]? with
 | some fn=>match fn.body with
  | some c=>Du P G fn.ntmps F.body c&&(Sf P fn.ntmps F.res fn.results.toList&&(decide (F.pars<=fn.ntmps)&&fn.name != "runtime.NumGoroutine"))
  | none=>false
 | none=>false
/-! orders -/
def A38{d:List Nat}{o:Oper}(h:Acq d o=true)(qc:Nat->Bool):(o.after.all fun e=>!Region.binds .any e||qc e.on)=d.all qc:=by
 simp only[Acq,Af,Bh,Nf,Ij,I5,Hg,beq_iff_eq]at h;rw[Bool.eq_iff_iff,Array.all_eq_true',Bh];constructor
 .intro ha j hj;obtain⟨e,he,hb,rfl⟩:=h.2 j hj;have:=ha e (by simpa using he);simpa[hb] using this
 .intro hd e he;rcases h.1 e (by simpa using he) with h' | h'
  .simp[h']
  .simp[hd e.on h']
def Aas:∀ {qf:List (List Nat)} {os:List Oper},Oz qf os=true->qf.length=os.length/\∀ i o,os[i]?=some o->Acq (qf.getD i []) o=true
 | [],[],_=>⟨rfl,fun i o h=>by simp at h⟩
 | d::ds,o::os,h=>by
  simp only[Oz,Af]at h;obtain⟨l,g⟩:=Aas h.2;refine⟨by simp[l],fun i o' ho=>?_⟩
  cases i with
  | zero=>simp at ho;subst ho;simpa using h.1
  | succ i=>simpa using g i o' (by simpa using ho)
 | [],_::_,h=>by simp[Oz]at h
 | _::_,[],h=>by simp[Oz]at h
def Ap6{qf:List (List Nat)}{ops:Array Oper}(hd:Oz qf ops.toList=true):∀ (fuel t:Nat) (qc:Array Bool) (je:List Nat),qc.size=ops.size->(∀ i,i<ops.size->qc.getD i true=je.elem i)->(∀ i,qc.getD i false=true->je.elem i=true)->(∀ i,je.elem i=true->i<ops.size) ->
  Region.linearise.go .any ops fuel t qc je=Nx qf fuel t je
 | 0,_,_,_,_,_,_,_=>rfl
 | fuel+1,t,qc,je,hs,h1,h2,h3=>by
  obtain⟨hl,hg⟩:=Aas hd;have qv:qf.length=ops.size:=by simpa using hl
  have kl:(List.range ops.size).filter (fun i=>!qc.getD i true&&((ops[i]?).map (·.after.all fun e=>!Region.binds .any e||qc.getD e.on false)).getD false)=(List.range qf.length).filter (K7 qf je):=by
   rw[qv];apply List.filter_congr;intro i hi;have qE:i<ops.size:=by simpa using hi
   have ho:ops[i]?=some ops[i]:=Array.getElem?_eq_getElem qE;have vv:=hg i ops[i] (by simp[qE]);rw[ho,h1 i qE];simp only[Fr,Rm,K7];rw[A38 vv (fun j=>qc.getD j false)];congr 1;apply List.all_congr rfl;intro j;rw[Bool.eq_iff_iff];constructor
   .exact h2 j
   .intro hj;have qF:=h3 j hj;have:=h1 j qF;rw[hj]at this;simpa[Array.getD_eq_getD_getElem?,show j<qc.size by omega] using this
  unfold Region.linearise.go Nx;simp only[kl]
  split
  .rename_i i hi;have kB:i∈(List.range qf.length).filter (K7 qf je):=Hx hi
   have qE:i<ops.size:=by
    have:=(Tl.1 kB).1;rw[qv]at this;simpa using this
   rw[hi];refine Ap6 hd fuel _ _ (i::je) (by simpa using hs) (fun j hj=>?_) (fun j hj=>?_) (fun j hj=>?_)
   .by_cases jL:i=j
    .subst jL;simp[Array.getD_eq_getD_getElem?,hs,qE]
    .have:=h1 j hj;have vE:(j==i)=false:=by simp;omega
     simp only[Array.getD_eq_getD_getElem?,Array.getElem?_setIfInBounds,jL,if_false]at this ⊢;rw[this];simp only[List.elem,vE]
   .by_cases jL:i=j
    .subst jL;simp
    .simp only[Array.getD_eq_getD_getElem?,Array.getElem?_setIfInBounds,jL,if_false]at hj;have:=Hg.1 (h2 j (by simpa[Array.getD_eq_getD_getElem?] using hj));exact Hg.2 (Cs _ this)
   .rcases Bi.1 (Hg.1 hj) with rfl | hj
    .exact qE
    .exact h3 j (Hg.2 hj)
  .rename_i hi;rw[hi]
def A39{qf:List (List Nat)}{ops:Array Oper}(hd:Oz qf ops.toList=true)(t:Nat):Region.linearise .any ops t=N7 qf t:=by
 unfold Region.linearise N7;have qv:qf.length=ops.size:=by simpa using (Aas hd).1
 rw[qv];refine Ap6 hd _ _ _ _ (by simp) (fun i hi=>?_) (fun i hi=>?_) (fun i hi=>?_)
 .simp[Array.getD_eq_getD_getElem?,hi]
 .by_cases h:i<ops.size
  .simp[Array.getD_eq_getD_getElem?,h]at hi
  .simp[Array.getD_eq_getD_getElem?,h]at hi
 .simp at hi
open Go Go.RowKit
variable {P:Program} {G:List (Nat × List V)} {N:Nat} {γ:Gh} {σ:St} {w w':World}
def Ase{κ:Em}{O:List (Nat × Nat)}{v:V}{u:Value}(h:Rep1 ⟨κ,[]⟩ w v u):Rep1 ⟨κ,O⟩ w v u:=by
 have low:∀ {v:V} {u:Value},RepC ⟨κ,[]⟩ w v u->RepC ⟨κ,O⟩ w v u:=fun hr=>by
  induction hr with
  | row h=>exact .row h
  | imm row h1 h2 h3 h4=>exact .imm row h1 h2 h3 h4
  | ptr h=>simp at h
  | sl h=>simp at h
  | nilp=>exact .nilp
  | nilf=>exact .nilf
  | ifc=>exact .ifc
  | fn h1 h2 _ _ ih1 ih2=>exact .fn h1 h2 ih1 ih2
  | mp h=>simp at h
 cases h with
 | cell h=>exact .cell (low h)
 | agg h1 h2=>exact .agg h1 (fun j hj=>low (h2 j hj))
def Ba3{κ:Em}{O:List (Nat × Nat)}{v:V}{u:Value}(h:RepV ⟨κ,[]⟩ w v u):RepV ⟨κ,O⟩ w v u:=by
 cases h with
 | und=>exact .und
 | skp=>exact .skp
 | one h=>exact .one (Ase h)
 | tup h1 h2=>exact .tup h1 (fun j hj=>Ase (h2 j hj))
def Wl{κ':Em}{js:List Nat}(hI:Inv G N γ σ w)(hx:Ext γ w ⟨κ',γ.O⟩ w)(hs:Ac4 γ σ js κ'){v v':V}{u:Value}(h:G0 σ js v=some v')(hr:RepV γ w v u)(O:List (Nat × Nat)):Rep1 ⟨κ',O⟩ w v' u:=by
 unfold G0 at h
 split at h
 .cases h;obtain⟨b,o,k,row,hu,h1,h2,h3,h4⟩:=Lq (Ay rfl hr);rw[hu];obtain⟨k',vF,qM⟩:=hx.kap _ _ h1;exact .cell (.imm row vF (Cz h2 qM) h3 (fun j hj=>(h4 j hj).keep hx.kap hx.cell))
 .rename_i cs;simp only[Bo]at h;obtain⟨cs',hm,rfl⟩:=h;obtain⟨us,hu,hl,hj⟩:=Px hr;obtain⟨l,g⟩:=Ou hm;rw[hu];refine .agg (by omega) (fun j qA=>?_);have qJ:j<cs.length:=by omega
  obtain⟨y,hy,hf⟩:=g j _ (A2 qJ);rw[show cs'.getD j .und=y by rw[Au,hy];rfl];have:=hj j qJ;rw[show cs.getD j .und=cs[j] by rw[Au,A2 qJ];rfl]at this;exact .row (Z6 hI hx hs hf this)
 .have hc:v.cellB=true:=by
   unfold Fk at h
   split at h
   .rename_i hv;revert hv;cases v<;>simp[V.rowB,V.cellB]
   .split at h
    .rfl
    .cases h
  exact .cell (.row (Z6 hI hx hs h (Ay hc hr)))
def Z2{κ':Em}{js:List Nat}(hI:Inv G N γ σ w)(hx:Ext γ w ⟨κ',γ.O⟩ w)(hs:Ac4 γ σ js κ'){v v':V}{u:Value}(h:Jq σ js v=some v')(hr:RepV γ w v u)(O:List (Nat × Nat)):RepV ⟨κ',O⟩ w v' u:=by
 unfold Jq at h
 split at h
 .rename_i vs;simp only[Bo]at h;obtain⟨jf,hm,rfl⟩:=h;obtain⟨us,hu,hl,hj⟩:=Alx hr;obtain⟨l,g⟩:=Ou hm;rw[hu];refine .tup (by omega) (fun j qA=>?_);have qJ:j<vs.length:=by omega
  obtain⟨y,hy,hf⟩:=g j _ (A2 qJ);rw[show jf.getD j .und=y by rw[Au,hy];rfl];have:=hj j qJ;rw[show vs.getD j .und=vs[j] by rw[Au,A2 qJ];rfl]at this;exact Wl hI hx hs hf (.one this) O
 .exact .one (Wl hI hx hs h hr O)
def Au8{v:V}{u:Value}(hf:v.flatV=true)(h:RepV γ w v u)(γ':Gh)(w':World):RepV γ' w' v u:=by
 cases h with
 | und=>exact .und
 | skp=>exact .skp
 | one h=>
  cases h with
  | cell h=>
   have:v.flatB=true:=by
    have hc:=(Pu h).1;revert hf hc
    cases v<;>simp[V.flatV,V.flatB,V.cellB]
   exact .one (.cell (Aap this h γ' w'))
  | @agg cs us h1 h2=>
   have kk:cs.all V.flatB=true:=hf;exact .one (.agg h1 (fun j hj=>Aap (Bh.1 kk _ (by rw[Au,A2 hj];exact Fj hj)) (h2 j hj) γ' w'))
 | @tup vs us h1 h2=>
  have kk:(vs.all fun v=>v.cells.all V.flatB)=true:=hf;refine .tup h1 (fun j hj=>?_);have km:=Bh.1 kk (vs.getD j .und) (by rw[Au,A2 hj];exact Fj hj);have hr:=h2 j hj;generalize vs.getD j .und=x at km hr;generalize us.getD j undef=y at hr ⊢
  cases hr with
  | cell h=>
   have:x.flatB=true:=by
    have hc:=(Pu h).1;revert km hc
    cases x<;>simp[V.cells,V.flatB,V.cellB]
   exact .cell (Aap this h γ' w')
  | @agg cs us h1 h2=>
   have vy:cs.all V.flatB=true:=km;exact .agg h1 (fun j hj=>Aap (Bh.1 vy _ (by rw[Au,A2 hj];exact Fj hj)) (h2 j hj) γ' w')
def Ae7{κ':Em}(h:Inv G N ⟨κ',γ.O⟩ σ w):Inv G w.heap.size ⟨κ',[]⟩ [] w where
 base:=Ai _
 len:=rfl
 nd:=Tm
 low:=fun i p h=>by simp at h
 obj:=fun i ob p h=>by simp at h
 dom:=h.dom
 glob:=fun g r hg=>by
  obtain⟨b,o,k,row,hu,h1,h2,h3,h4⟩:=Lq (h.glob g r hg);rw[hu];exact .imm row h1 h2 h3 h4
 gsz:=fun g r hg=>⟨by have:=(h.gsz g r hg).1;have:=h.base;omega,(h.gsz g r hg).2⟩
def Aj4{args:List V}{v:V}{u:Value}{κ1 κ2:Em}{w1:World}(hI:Inv G N γ σ w)(h1:Inv G N ⟨κ1,γ.O⟩ (σ.freeze (N3 σ args)) w)(hx:Ext γ w ⟨κ1,γ.O⟩ w)(hN:∀ b,b<N->κ1 b=γ.κ b)
  (hb:Below w.heap.size w w1) (hk:∀ b,b<w.heap.size->κ2 b=κ1 b) (hd:∀ b k,κ2 b=some k->b<w1.heap.size) (hv:RepV ⟨κ2,[]⟩ w1 v u) :
  ∃ γ1,Inv G N γ1 (after σ args v) w1/\Ext γ w γ1 w1/\RepV γ1 w1 v u/\(∀ b,b<N->γ1.κ b=γ.κ b)/\Below N w w1:=by
 unfold after
 split
 .rename_i hf
  obtain⟨i1,i2⟩:=hI.more (w':=w1) (κ':=fun b=>if b<w.heap.size then γ.κ b else κ2 b) (fun b qy=>hb.block b qy) hb.size (fun b qy=>if_pos qy) (fun b k kV=>by
   by_cases qy:b<w.heap.size
   .have:=hb.size;omega
   .rw[if_neg qy]at kV;exact hd b k kV)
  exact⟨_,i1,i2,Au8 hf hv _ _,fun b qy=>if_pos (Te qy hI.base),hb.mono hI.base⟩
 .obtain⟨i1,i2⟩:=h1.more (w':=w1) (κ':=κ2) (fun b qy=>hb.block b qy) hb.size hk hd;exact⟨_,i1,hx.trans i2,Ba3 hv,fun b qy=>(hk b (Te qy hI.base)).trans (hN b qy),hb.mono hI.base⟩
def Ir(P:Program)(G:List (Nat × List V))(f:Nat)(s:List V->Option V):Prop:=
 (∃ fn c,P.funcs[f]?=some fn/\fn.body=some c/\fn.name ≠ "runtime.NumGoroutine") /\
 ∀ (κ:Em) (w:World) (vs:List V) (us:List Value) (v:V),(∀ g r,(g,r)∈G->RepC ⟨κ,[]⟩ w (.imm r 0) (.pointer (some ⟨g,0,none⟩)))->(∀ g r,(g,r)∈G->Ea w g=some r.length)->(∀ b k,κ b=some k->b<w.heap.size)->vs.length=us.length ->
  (∀ j,j<vs.length->Rep1 ⟨κ,[]⟩ w (vs.getD j .und) (us.getD j undef))->s vs=some v ->
  Calls P f us.toArray w fun e w'=>∃ u κ',e=.returned u/\RepV ⟨κ',[]⟩ w' v u/\Below w.heap.size w w'/\(∀ b,b<w.heap.size->κ' b=κ b)/\∀ b k,κ' b=some k->b<w'.heap.size
def Vb(P:Program)(G:List (Nat × List V))(f:Nat)(s:List V->St->Option (V × St)):Prop:=
 (∃ fn c,P.funcs[f]?=some fn/\fn.body=some c/\fn.name ≠ "runtime.NumGoroutine") /\
 ∀ (args:List V) (σ:St) (v:V) (σ':St),s args σ=some (v,σ')->∀ (us:List Value) (w:World) (γ:Gh) (N:Nat),args.length=us.length->(∀ j,j<args.length->RepV γ w (args.getD j .und) (us.getD j undef))->Inv G N γ σ w ->
   Calls P f us.toArray w fun e w'=>∃ u γ',e=.returned u/\RepV γ' w' v u/\Inv G N γ' σ' w'/\Ext γ w γ' w'/\Below N w w'/\∀ b,b<N->γ'.κ b=γ.κ b
/-! objects under new numbers -/
def Rt:∀ {cs:List V} {j i:Nat},j<cs.length->i∈(cs.getD j .und).refs->i∈Am cs
 | [],_,_,h,_=>by simp at h
 | c::cs,0,i,_,h=>by simp only[Am,Cr];exact .inl (by simpa using h)
 | c::cs,j+1,i,hj,h=>by simp only[Am,Cr];exact .inr (Rt (j:=j) (by simpa using hj) (by simpa using h))
def Lr(ρ:Nat->Nat):∀ cs:List V,(Hq ρ cs).length=cs.length
 | []=>rfl
 | c::cs=>by simp[Hq,Lr ρ cs]
def Ug(ρ:Nat->Nat):∀ {cs:List V} {j:Nat},j<cs.length->(Hq ρ cs).getD j .und=(cs.getD j .und).ren ρ
 | [],_,h=>by simp at h
 | c::cs,0,_=>by simp[Hq]
 | c::cs,j+1,h=>by simpa[Hq] using Ug ρ (cs:=cs) (j:=j) (by simpa using h)
def RepC.renum{O:List (Nat × Nat)}{ρ:Nat->Nat}{v:V}{u:Value}(h:RepC γ w v u):(∀ i∈v.refs,∀ p,γ.O[i]?=some p->O[ρ i]?=some p)->RepC ⟨γ.κ,O⟩ w (v.ren ρ) u:=by
 induction h with
 | row h=>
  intro _
  cases h with
  | bool=>exact .row .bool
  | int=>exact .row .int
  | str h=>exact .row (.str h)
  | nili=>exact .row .nili
  | ifc=>exact .row .ifc
  | nils=>exact .row .nils
  | lst row h1 h2 h3 h4 h5 h6 h7=>exact .row (.lst row h1 h2 h3 h4 h5 h6 h7)
 | imm row h1 h2 h3 h4=>exact fun _=>.imm row h1 h2 h3 h4
 | ptr h1 h2 h3=>exact fun hr=>.ptr (hr _ (by simp[V.refs]) _ h1) h2 h3
 | sl h1 h2 h3 h4 h5 h6=>exact fun hr=>.sl (hr _ (by simp[V.refs]) _ h1) h2 h3 h4 h5 h6
 | nilp=>exact fun _=>.nilp
 | nilf=>exact fun _=>.nilf
 | ifc=>exact fun _=>.ifc
 | fn h1 h2 _ _ ih1 ih2=>
  intro hr;refine .fn (by rw[Lr];exact h1) (by rw[Lr];exact h2) (fun j hj=>?_) (fun j hj=>?_)
  .rw[Lr]at hj;rw[Ug ρ hj];exact ih1 j hj (fun i hi=>hr i (by simp only[V.refs,Cr];exact .inl (Rt hj hi)))
  .rw[Lr]at hj;rw[Ug ρ hj];exact ih2 j hj (fun i hi=>hr i (by simp only[V.refs,Cr];exact .inr (Rt hj hi)))
 | mp h1 h2 h3=>exact fun hr=>.mp (hr _ (by simp[V.refs]) _ h1) h2 h3
def Rep1.renum{O:List (Nat × Nat)}{ρ:Nat->Nat}{v:V}{u:Value}(h:Rep1 γ w v u)(hr:∀ i∈v.refs,∀ p,γ.O[i]?=some p->O[ρ i]?=some p):Rep1 ⟨γ.κ,O⟩ w (v.ren ρ) u:=by
 cases h with
 | cell h=>exact .cell (h.renum hr)
 | agg h1 h2=>
  refine .agg (by rw[Lr];exact h1) (fun j hj=>?_);rw[Lr]at hj;rw[Ug ρ hj];exact(h2 j hj).renum (fun i hi=>hr i (by simp only[V.refs];exact Rt hj hi))
def RepV.renum{O:List (Nat × Nat)}{ρ:Nat->Nat}{v:V}{u:Value}(h:RepV γ w v u)(hr:∀ i∈v.refs,∀ p,γ.O[i]?=some p->O[ρ i]?=some p):RepV ⟨γ.κ,O⟩ w (v.ren ρ) u:=by
 cases h with
 | und=>exact .und
 | skp=>exact .skp
 | one h=>exact .one (h.renum hr)
 | tup h1 h2=>
  refine .tup (by rw[Lr];exact h1) (fun j hj=>?_);rw[Lr]at hj;rw[Ug ρ hj];exact(h2 j hj).renum (fun i hi=>hr i (by simp only[V.refs];exact Rt hj hi))
def ObOk.renum{O:List (Nat × Nat)}{ρ:Nat->Nat}{ob:Ob}{p:Nat × Nat}(h:ObOk γ w ob p)(hr:∀ i∈ob.refs,∀ q,γ.O[i]?=some q->O[ρ i]?=some q):ObOk ⟨γ.κ,O⟩ w (ob.ren ρ) p:=by
 cases ob with
 | row cs e g z=>
  obtain⟨h1,h2,h3,us,lo,hi,h4,h5,h6,h7⟩:=h;refine⟨h1,h2,by rw[Lr];exact h3,us,lo,hi,h4,h5,by rw[Lr];exact h6,fun j hj=>?_⟩;rw[Lr]at hj;rw[Ug ρ hj];exact(h7 j hj).renum (fun i hi=>hr i (by simp only[Ob.refs];exact Rt hj hi))
 | map kvs=>
  obtain⟨h1,h2,es,h3,h4,h5⟩:=h;refine⟨h1,h2,es,by simpa using h3,by simpa using h4,fun i k v hi=>?_⟩;simp only[Av,Bo]at hi;obtain⟨⟨k',v'⟩,hi,he⟩:=hi;simp only[Prod.mk.injEq]at he;obtain⟨rfl,rfl⟩:=he;obtain⟨en,a1,a2,a3,a4,a5,a6⟩:=h5 i k' v' hi
  have vB:(v'.ren ρ).flatB=true:=by revert a5;cases v'<;>simp[V.flatB,V.ren]
  exact⟨en,a1,a2,a3,a4,vB,a6.renum (fun i' qE=>hr i' (by
   simp only[Ob.refs];have qy:=(Aq.1 hi).1
   exact Rt (j:=i) (by simpa using qy) (by simpa[Au,hi] using qE)))⟩
 | dead=>exact h
mutual
theorem Agr:∀ v:V,v.ren (fun i=>i)=v
 | .und | .skp | .bool _ | .int _ _ | .str _ | .nili | .ifc | .nils | .nilp | .nilf | .lst _ _ | .imm _ _ | .ptr _ _ _ | .sl _ _ _ _ _ _ | .mp _=>by simp[V.ren]
 | .fn f a c=>by simp[V.ren,Ur a,Ur c]
 | .agg cs=>by simp[V.ren,Ur cs]
 | .tup vs=>by simp[V.ren,Ur vs]
theorem Ur:∀ cs:List V,Hq (fun i=>i) cs=cs
 | []=>rfl
 | c::cs=>by simp[Hq,Agr c,Ur cs]
end
def Akz(ob:Ob):ob.ren (fun i=>i)=ob:=by
 cases ob with
 | row cs e g z=>simp[Ob.ren,Ur]
 | map kvs=>simp[Ob.ren,Agr]
 | dead=>rfl
def W3:∀ {cs:List V} {i:Nat},i∈Am cs->∃ j,j<cs.length/\i∈(cs.getD j .und).refs
 | [],_,h=>by simp[Am]at h
 | c::cs,i,h=>by
  simp only[Am,Cr]at h;rcases h with h | h
  .exact⟨0,by simp,by simpa using h⟩
  .obtain⟨j,h1,h2⟩:=W3 h;exact⟨j+1,by simpa using h1,by simpa using h2⟩
def RepC.refs_lt{v:V}{u:Value}(h:RepC γ w v u):∀ i∈v.refs,i<γ.O.length:=by
 induction h with
 | row h=>intro i hi;cases h<;>simp[V.refs]at hi
 | imm=>intro i hi;simp[V.refs]at hi
 | ptr h1=>intro i hi;simp[V.refs]at hi;subst hi;exact(Aq.1 h1).1
 | sl h1=>intro i hi;simp[V.refs]at hi;subst hi;exact(Aq.1 h1).1
 | nilp=>intro i hi;simp[V.refs]at hi
 | nilf=>intro i hi;simp[V.refs]at hi
 | ifc=>intro i hi;simp[V.refs]at hi
 | fn h1 h2 _ _ ih1 ih2=>
  intro i hi;simp only[V.refs,Cr]at hi;rcases hi with hi | hi
  .obtain⟨j,g1,g2⟩:=W3 hi;exact ih1 j g1 i g2
  .obtain⟨j,g1,g2⟩:=W3 hi;exact ih2 j g1 i g2
 | mp h1=>intro i hi;simp[V.refs]at hi;subst hi;exact(Aq.1 h1).1
def ObOk.refs_lt{ob:Ob}{p:Nat × Nat}(h:ObOk γ w ob p):∀ i∈ob.refs,i<γ.O.length:=by
 intro i hi
 cases ob with
 | row cs e g z=>
  obtain⟨_,_,_,us,lo,qE,_,_,_,h7⟩:=h;obtain⟨j,g1,g2⟩:=W3 (show i∈Am cs from hi);exact(h7 j g1).refs_lt i g2
 | map kvs=>
  obtain⟨_,_,es,_,_,h5⟩:=h;obtain⟨j,g1,g2⟩:=W3 (show i∈Am (kvs.map (·.2)) from hi);have hj:j<kvs.length:=by simpa using g1
  obtain⟨en,_,_,_,_,_,a6⟩:=h5 j (kvs[j]).1 (kvs[j]).2 (A2 hj);exact a6.refs_lt i (by simpa[Au,hj] using g2)
 | dead=>simp[Ob.refs]at hi
def Inv.leave{γ':Gh}{σ':St}{w':World}{n:Nat}{js:List Nat}{ρ:Nat->Nat}(hI:Inv G N γ' σ' w')(hn:n<=σ'.length)(jZ:∀ i∈js,n<=i/\i<σ'.length)(vK:js.Nodup)
  (hρ:∀ i,i<n->ρ i=i) (kR:∀ k (hk:k<js.length),ρ js[k]=n+k)
  (vf:∀ (i:Nat) (ob:Ob),(i<n\/i∈js)->σ'[i]?=some ob->∀ j∈ob.refs,j<n\/j∈js) :
  Inv G N ⟨γ'.κ,γ'.O.take n++js.filterMap (γ'.O[·]?)⟩ ((σ'.take n++js.filterMap (σ'[·]?)).map (Ob.ren ρ)) w'/\∀ i,(i<n\/i∈js)->∀ p,γ'.O[i]?=some p->(γ'.O.take n++js.filterMap (γ'.O[·]?))[ρ i]?=some p:=by
 have qv:=hI.len
 have pick:∀ {α:Type} (l:List α),l.length=σ'.length->(js.filterMap (l[·]?)).length=js.length/\∀ k (hk:k<js.length),(js.filterMap (l[·]?))[k]?=l[js[k]]?:=fun {α} l hl=>by
  have:js.filterMap (l[·]?)=js.pmap (fun i hi=>l[i]'(by rw[hl];exact hi)) (fun i hi=>(jZ i hi).2):=by
   clear vK kR vf
   induction js with
   | nil=>rfl
   | cons a js ih=>
    have ha:a<l.length:=by rw[hl];exact(jZ a (by simp)).2
    rw[Lj,A2 ha];simp only[List.pmap_cons];rw[ih (fun i hi=>jZ i (Cs _ hi))]
  rw[this];refine⟨by simp,fun k hk=>?_⟩;have jt:js[k]<l.length:=by rw[hl];exact(jZ _ (Fj hk)).2
  rw[A2 (by simpa using hk),List.getElem_pmap,A2 jt]
 obtain⟨vW,vn⟩:=pick γ'.O qv;obtain⟨vX,vY⟩:=pick σ' rfl;have qX:(γ'.O.take n).length=n:=by simp;omega
 have qY:(σ'.take n).length=n:=by simp;omega
 have jO:∀ i,(i<n\/i∈js)->∀ p,γ'.O[i]?=some p->(γ'.O.take n++js.filterMap (γ'.O[·]?))[ρ i]?=some p:=by
  intro i hi p hp;by_cases jC:i<n
  .rw[hρ i jC,Ca (by omega),Fi,if_pos jC];exact hp
  .rcases hi with h | h
   .exact absurd h jC
   .obtain⟨k,hk,rfl⟩:=Pq h;rw[kR k hk,Cd (by omega),qX,show n+k - n=k by omega,vn k hk];exact hp
 have Es:∀ q,q<n+js.length->∃ i,(i<n\/i∈js)/\ρ i=q/\(γ'.O.take n++js.filterMap (γ'.O[·]?))[q]?=γ'.O[i]?/\(σ'.take n++js.filterMap (σ'[·]?))[q]?=σ'[i]?:=by
  intro q hq;by_cases kb:q<n
  .refine⟨q,.inl kb,hρ q kb,?_,?_⟩
   .rw[Ca (by omega),Fi,if_pos kb]
   .rw[Ca (by omega),Fi,if_pos kb]
  .have hk:q - n<js.length:=by omega
   refine⟨js[q - n],.inr (Fj hk),by rw[kR _ hk];omega,?_,?_⟩
   .rw[Cd (by omega),qX,vn _ hk]
   .rw[Cd (by omega),qY,vY _ hk]
 have jY:(γ'.O.take n++js.filterMap (γ'.O[·]?)).length=n+js.length:=by rw[Aj,qX,vW]
 have vr:(σ'.take n++js.filterMap (σ'[·]?)).length=n+js.length:=by rw[Aj,qY,vX]
 refine⟨⟨hI.base,by rw[Ba,jY,vr],?_,fun q p hp=>?_,fun q ob p h1 h2=>?_,hI.dom,fun g r hg=>?_,hI.gsz⟩,jO⟩
 .refine Adk.2 fun q1 q2 h1 h2 wa=>?_
  simp only[Ba,jY]at h1 h2;obtain⟨i1,c1,e1,o1,_⟩:=Es q1 h1;obtain⟨i2,c2,e2,o2,_⟩:=Es q2 h2;have vM:i1≠i2:=fun e=>by subst e;omega
  rw[Oi,Oi];have vO:q1<(γ'.O.take n++js.filterMap (γ'.O[·]?)).length:=by omega
  have vP:q2<(γ'.O.take n++js.filterMap (γ'.O[·]?)).length:=by omega
  rw[A2 vO]at o1;rw[A2 vP]at o2;exact hI.ne o1.symm o2.symm vM
 .have hq:q<n+js.length:=by have:=(Aq.1 hp).1;rw[<-jY];exact this
  obtain⟨i,c1,e1,o1,_⟩:=Es q hq;have vh:(γ'.O.take n++js.filterMap (γ'.O[·]?))[q]?=some p:=hp;rw[o1]at vh;exact hI.low i p vh
 .have hq:q<n+js.length:=by have:=(Aq.1 h2).1;rw[<-jY];exact this
  obtain⟨i,c1,e1,o1,o2⟩:=Es q hq;have kU:(γ'.O.take n++js.filterMap (γ'.O[·]?))[q]?=some p:=h2;rw[o1]at kU;simp only[Av,Bo]at h1;obtain⟨vm,h1,rfl⟩:=h1;rw[o2]at h1;exact(hI.obj i vm p h1 kU).renum (fun j hj r hr=>jO j (vf i vm c1 h1 j hj) r hr)
 .obtain⟨b,o,k,row,hu,h1,h2,h3,h4⟩:=Lq (hI.glob g r hg);rw[hu];exact .imm row h1 h2 h3 h4
open Go Go.RowKit
variable {P:Program} {G:List (Nat × List V)} {T:Nat->Option AF} {pr:Nat->Option (List V->Option V)}
def Leaves(G:List (Nat × List V))(N n:Nat)(D:List Deferred)(γ:Gh)(σ:St)(w:World)(e':Env)(σ':St)(a':Act)(w':World):Prop:=
 ∃ γ',RepE γ' w' e' a'.tmps/\Inv G N γ' σ' w'/\Ext γ w γ' w'/\Below N w w'/\(∀ b,b<N->γ'.κ b=γ.κ b)/\a'.tmps.size=n/\a'.defers=D
def Leaves.after{N n:Nat}{D:List Deferred}{γ γ1:Gh}{σ σ1 σ':St}{w w1 w':World}{e':Env}{a':Act}(hx:Ext γ w γ1 w1)(hb:Below N w w1)(hk:∀ b,b<N->γ1.κ b=γ.κ b)(h:Leaves G N n D γ1 σ1 w1 e' σ' a' w'):Leaves G N n D γ σ w e' σ' a' w':=by
 obtain⟨γ',h1,h2,h3,h4,h5,h6⟩:=h;exact⟨γ',h1,h2,hx.trans h3,hb.trans h4,fun b hb=>(h5 b hb).trans (hk b hb),h6⟩
inductive MK (P:Program) (G:List (Nat × List V)) (n:Nat):List It->List Item->Prop
 | nil:MK P G n [] []
 | c {ac:AC} {c:Code} {k:List It} {qe:List Item}:Du P G n ac c=true->MK P G n k qe->MK P G n (.c ac::k) (.code c::qe)
 | b {id:Nat} {k:List It} {qe:List Item}:MK P G n k qe->MK P G n (.b id::k) (.inBlock id::qe)
 | s {id:Nat} {c:Code} {k:List It} {qe:List Item}:1000000<=id->MK P G n k qe->MK P G n (.b id::k) (.inScope c::qe)
 | l {keep:List Nat} {ac:AC} {c:Code} {k:List It} {qe:List Item}:Du P G n ac c=true->MK P G n k qe->MK P G n (.l keep ac::k) (.inLoop c::qe)
 | l' {keep:List Nat} {ac:AC} {c:Code} {k:List It} {qe:List Item}:Du P G n ac c=true->MK P G n k qe->MK P G n (.l keep ac::k) (.code (.loop c)::qe)
def MK.exit{n id:Nat}{k:List It}{qe:List Item}(qy:id<1000000)(h:MK P G n k qe):∀ {k':List It},exitTo id k=some k'->∃ todo',Go.exitTo id qe=some todo'/\MK P G n k' todo':=by
 induction h with
 | nil=>intro k' h;simp[exitTo]at h
 | c _ _ ih=>intro k' h;simp only[exitTo]at h;simpa[Go.exitTo] using ih h
 | b hk ih=>
  intro k' h;simp only[exitTo]at h
  split at h
  .rename_i he;cases h;exact⟨_,by simp[Go.exitTo,he],hk⟩
  .rename_i he;obtain⟨t,h1,h2⟩:=ih h;exact⟨t,by simp[Go.exitTo,he,h1],h2⟩
 | s hi hk ih=>
  intro k' h;simp only[exitTo]at h
  split at h
  .omega
  .simpa[Go.exitTo] using ih h
 | l _ _ ih=>intro k' h;simp only[exitTo]at h;simpa[Go.exitTo] using ih h
 | l' _ _ ih=>intro k' h;simp only[exitTo]at h;simpa[Go.exitTo] using ih h
def ML(P:Program)(G:List (Nat × List V))(n:Nat)(ops:Array Oper):List AI->List Nat->Prop
 | [],[]=>True
 | i::is,j::js=>(∃ o,ops[j]?=some o/\Vt P G n ops i o=true)/\ML P G n ops is js
 | _,_=>False
def Ahh(P:Program)(G:List (Nat × List V)):J->Prop
 | .ops l e σ e' σ'=>∀ (n:Nat) (D:List Deferred) (ops:Array Oper) (L:List Nat) (a:Act) (w:World) (γ:Gh) (N:Nat) (Q:Exit->Act->World->Prop),ML P G n ops l L->a.tmps.size=n->a.defers=D->RepE γ w e a.tmps->Inv G N γ σ w ->
   (∀ a' w',Leaves G N n D γ σ w e' σ' a' w'->Q .normal a' w')->wpOps P ops Q L a w
 | .code k e σ e' σ'=>∀ (n:Nat) (D:List Deferred) (qe:List Item) (a:Act) (w:World) (γ:Gh) (N:Nat),MK P G n k qe->a.tmps.size=n->a.defers=D->RepE γ w e a.tmps->Inv G N γ σ w->∀ (b:Frame) (cs:List Frame),
   ∃ a' w' todo',Steps P (lone (b.at a qe) cs w) (lone { b.at a' todo' with mode:=.returning } cs w')/\Leaves G N n D γ σ w e' σ' a' w'
 | .fn f args σ v σ'=>∀ (us:List Value) (w:World) (γ:Gh) (N:Nat),args.length=us.length->(∀ j,j<args.length->RepV γ w (args.getD j .und) (us.getD j undef))->Inv G N γ σ w ->
   Calls P f us.toArray w fun e w'=>∃ u γ',e=.returned u/\RepV γ' w' v u/\Inv G N γ' σ' w'/\Ext γ w γ' w'/\Below N w w'/\∀ b,b<N->γ'.κ b=γ.κ b
def Pv{n:Nat}{ops:Array Oper}{i:AI}{o:Oper}{γ:Gh}{w:World}{e:Env}{a:Act}{z:Bool}(hg:okG n ops i.g o.guard=true)(ha:a.tmps.size=n)(hE:RepE γ w e a.tmps)(h:Ct e i=some z):Region.wanted o (yielded ops a.tmps)=z:=by
 unfold okG at hg;unfold Ct at h;unfold Region.wanted
 split at hg
 .rename_i h1 h2;rw[h1]at h;rw[h2];simpa using h
 .rename_i t b j b' h1 h2;simp only[Af,beq_iff_eq,decide_eq_true_eq]at hg;obtain⟨rfl,hd,ht⟩:=hg;rw[h1]at h;rw[h2];simp only at h ⊢;have qV:=hE t
  have hy:a.tmps[t]?=some (a.tmps.getD t undef):=by
   rw[Array.getD_eq_getD_getElem?,Array.getElem?_eq_getElem (by omega)];rfl
  split at h
  .rename_i z' e1;rw[e1]at qV;have:=Oo (Ay rfl qV);cases h;simp only[yielded,hd,C7,hy,this]
   cases z'<;>cases b<;>rfl
  .rename_i e1;rw[e1]at qV;cases h
   have:a.tmps.getD t undef=undef:=by
    generalize a.tmps.getD t undef=u at qV
    cases qV with
    | skp=>rfl
    | one h=>cases h with | cell h=>exact absurd (Pu h).1 (by simp[V.cellB])
   simp only[yielded,hd,C7,hy,this]
   cases b<;>rfl
  .cases h
 .cases hg
def P4{n:Nat}{γ:Gh}{w:World}{e:Env}{a:Act}{d:Option Nat}{v:V}{u:Value}(hd:(match d with | some d=>decide (d<n) | none=>true)=true)(ha:a.tmps.size=n)(hE:RepE γ w e a.tmps)(hv:RepV γ w v u):
  RepE γ w (e.putO d v) (a.put d u).tmps/\(a.put d u).tmps.size=n/\(a.put d u).defers=a.defers:=by
 cases d with
 | none=>exact⟨hE,ha,rfl⟩
 | some d=>
  simp only[decide_eq_true_eq]at hd;exact⟨hE.put (by omega) hv,by simp[Act.put,ha],rfl⟩
def Au9{f:Nat}{xs:List S}{op:Op}(h:Xz P G f xs op=true):∃ args ts,op=.call { callee:=.value (.func f),args,argTypes:=ts }/\Ma G xs args.toList=true:=by
 unfold Xz at h
 split at h
 .simp only[Af,beq_iff_eq]at h;obtain⟨rfl,h⟩:=h;exact⟨_,_,rfl,h⟩
 .cases h
def W4{f:Nat}{F:AF}(h:Pl P G f F=true):∃ fn c,P.funcs[f]?=some fn/\fn.body=some c/\Du P G fn.ntmps F.body c=true/\Sf P fn.ntmps F.res fn.results.toList=true/\F.pars<=fn.ntmps/\fn.name ≠ "runtime.NumGoroutine":=by
 unfold Pl at h
 split at h
 .rename_i fn hf
  split at h
  .rename_i c hc;simp only[Af,decide_eq_true_eq]at h;obtain⟨h1,h2,h3,h4⟩:=h;exact⟨fn,c,hf,hc,h1,h2,h3,by simpa using h4⟩
  .cases h
 .cases h
def A0j{γ:Gh}{w:World}{v:V}{u:Value}(h:Iq v=true)(hr:RepV γ w v u):Rep1 γ w v u:=by
 cases hr with
 | und=>simp[Iq,V.cellB]at h
 | skp=>simp[Iq,V.cellB]at h
 | one h=>exact h
 | tup=>simp[Iq,V.cellB]at h
def X0(tm:Array Value):ResultVar->Sem Value
 | .tmp t=>pure (tm.getD t undef)
 | .cell a t=>do loadVar t (<-asAddr (tm.getD a undef))
def Afv{n:Nat}{N:Nat}{γ:Gh}{σ:St}{w:World}{e:Env}{tm:Array Value}(hE:RepE γ w e tm)(hI:Inv G N γ σ w):∀ {rs:List AR} {qs:List ResultVar} {vs:List V},Sf P n rs qs=true->rs.mapM (F5 e σ)=some vs ->
  ∃ us:List Value,(qs.mapM (X0 tm)).run P w=.ok us w/\vs.length=us.length/\us.length=qs.length/\∀ j,j<vs.length->RepV γ w (vs.getD j .und) (us.getD j undef)
 | [],[],vs,_,h=>by
  simp at h;subst h;exact⟨[],by simp,rfl,rfl,fun j hj=>absurd hj (by simp)⟩
 | r::rs,q::qs,vs,qa,h=>by
  simp only[Sf,Af]at qa;rw[Ik]at h
  cases h1:F5 e σ r with
  | none=>simp[h1]at h
  | some v=>
   cases h2:rs.mapM (F5 e σ) with
   | none=>simp[h1,h2]at h
   | some jf=>
    simp[h1,h2]at h;subst h;obtain⟨us,g1,g2,vq,g3⟩:=Afv hE hI qa.2 h2
    have key:∃ u,(X0 tm q).run P w=.ok u w/\RepV γ w v u:=by
     have hr:=qa.1;unfold okR at hr
     split at hr
     .rename_i t t';simp only[Af,beq_iff_eq]at hr;obtain⟨rfl,_⟩:=hr;simp only[F5]at h1;cases h1;exact⟨tm.getD t undef,rfl,hE t⟩
     .rename_i t k one t' ty;simp only[Af,beq_iff_eq]at hr;obtain⟨rfl,vQ,vR⟩:=hr;obtain⟨fi,i1,i2⟩:=Kz vQ;obtain⟨d,hd,hs⟩:=Df vR;simp only[F5]at h1;obtain⟨b,p,cs,f,hu,k1,k2,k3,k4⟩:=Al1 hI (hE t) h1;obtain⟨m1,m2⟩:=Aej k1 k2 k4;have hl:=Ajo (P:=P) (w:=w) hd (eq_of_beq hs) i1 i2 (fun h=>(m1 h).1) k3;refine⟨if one then f 0 else .agg ((List.range k).map f).toArray,by simp only[X0,hu,asAddr,Sem.run_bind,Sem.run_pure,Result.andThen_ok,hl],?_⟩
      cases one with
      | true=>exact C5 (m1 rfl).2
      | false=>exact .one (m2 rfl)
     .cases hr
    obtain⟨u,hu,hv⟩:=key;refine⟨u::us,by simp[Ik,hu,g1],by simp[g2],by simp[vq],fun j hj=>?_⟩
    cases j with
    | zero=>exact hv
    | succ j=>simpa using g3 j (by simpa using hj)
 | [],_::_,_,h,_=>by simp[Sf]at h
 | _::_,[],_,h,_=>by simp[Sf]at h
def ML.tail{n:Nat}{ops:Array Oper}{i:AI}{is:List AI}{L:List Nat}(h:ML P G n ops (i::is) L):∃ j js o,L=j::js/\ops[j]?=some o/\Vt P G n ops i o=true/\ML P G n ops is js:=by
 cases L with
 | nil=>exact h.elim
 | cons j js=>obtain⟨⟨o,h1,h2⟩,h3⟩:=h;exact⟨j,js,o,rfl,h1,h2,h3⟩
def Sh{n:Nat}{ops:Array Oper}{o:Oper}{j:Nat}{js:List Nat}{a:Act}{w:World}{Q:Exit->Act->World->Prop}(ho:ops[j]?=some o)(hw:Region.wanted o (yielded ops a.tmps)=true)(h:o.wp P a w (wpOps P ops Q js) Q):wpOps P ops Q (j::js) a w:=by
 simp only[wpOps,ho,hw,if_true];exact .inl h
def A4a{ops:Array Oper}{o:Oper}{j:Nat}{js:List Nat}{a:Act}{w:World}{Q:Exit->Act->World->Prop}(ho:ops[j]?=some o)(hw:Region.wanted o (yielded ops a.tmps)=false)(h:wpOps P ops Q js (a.put o.dst undef) w):wpOps P ops Q (j::js) a w:=by
 simp only[wpOps,ho,hw];simpa using h
def Pr{n:Nat}{ops:Array Oper}{i:AI}{o:Oper}(h:Vt P G n ops i o=true):i.dst=o.dst/\(match i.dst with | some d=>decide (d<n) | none=>true)=true/\okG n ops i.g o.guard=true/\(match i.op with | .call f xs=>Xz P G f xs o.op | .callv s xs=>Xl P G s xs o.op | ao=>Vs P G ao o.op)=true:=by
 unfold Vt at h;simp only[Af,beq_iff_eq]at h;exact⟨h.1,h.2.1,h.2.2.1,h.2.2.2⟩
def Aj5{f:FuncId}{fn:Func}{c:Code}{args:Array Value}{w:World}(hf:P.funcs[f]?=some fn)(hb:fn.body=some c)(hn:fn.name ≠ "runtime.NumGoroutine"):(callFunc f args).run P w=.ok (.enter f args) w:=by
 have wd:(fn.name == "runtime.NumGoroutine")=false:=by simpa using hn
 simp[callFunc,program,Sem.run,hf,hb,hn]
def Aw4{a:Act}{o:Oper}{w:World}{f:FuncId}{fn:Func}{c:Code}{args:Array Operand}{ts:Array TypeId}(ho:o.op=.call { callee:=.value (.func f),args,argTypes:=ts })(hf:P.funcs[f]?=some fn)(hb:fn.body=some c)(hn:fn.name ≠ "runtime.NumGoroutine") :
  (execOp a.eval o).run P w=.ok (.enter f (args.map a.eval)) w:=by
 have:=Aj5 (P:=P) (args:=args.map a.eval) (w:=w) hf hb hn;simp[execOp,ho,resolve,Deferred.ofValue,Act.eval,invoke,this]
def Ava{a:Act}{o:Oper}{w:World}{f:FuncId}{fn:Func}{c:Code}{x:Operand}{args:Array Operand}{ts:Array TypeId}{ua uc:Array Value}(ho:o.op=.call { callee:=.value x,args,argTypes:=ts })(hx:a.eval x=.func (.func f) ua uc)(hf:P.funcs[f]?=some fn)(hb:fn.body=some c)(hn:fn.name ≠ "runtime.NumGoroutine") :
  (execOp a.eval o).run P w=.ok (.enter f (ua++args.map a.eval++uc)) w:=by
 have:=Aj5 (P:=P) (args:=ua++args.map a.eval++uc) (w:=w) hf hb hn;simp only[Array.append_assoc]at this ⊢;simp[execOp,ho,resolve,Deferred.ofValue,hx,invoke,this]
def Auc{s:S}{xs:List S}{op:Op}(h:Xl P G s xs op=true):∃ x args ts,op=.call { callee:=.value x,args,argTypes:=ts }/\Bs G s x=true/\Ma G xs args.toList=true:=by
 unfold Xl at h
 split at h
 .simp only[Af]at h;exact⟨_,_,_,rfl,h.1,h.2⟩
 .cases h
def Aod(args:Array Operand)(f:Operand->Value):args.map f=(args.toList.map f).toArray:=by
 have:=(args.map f).toArray_toList;rw[Array.toList_map]at this;exact this.symm
def Amb{γ:Gh}{w:World}{vs jf:List V}{us us':List Value}(h:vs.length=us.length/\∀ j,j<vs.length->RepV γ w (vs.getD j .und) (us.getD j undef))(h':jf.length=us'.length/\∀ j,j<jf.length->RepV γ w (jf.getD j .und) (us'.getD j undef)):
  (vs++jf).length=(us++us').length/\∀ j,j<(vs++jf).length->RepV γ w ((vs++jf).getD j .und) ((us++us').getD j undef):=by
 refine⟨by simp[h.1,h'.1],fun j hj=>?_⟩;simp only[Au];by_cases hl:j<vs.length
 .rw[Ca hl,Ca (by rw[<-h.1];exact hl)];simpa[Au] using h.2 j hl
 .rw[Cd (by omega),Cd (by rw[<-h.1];omega),<-h.1];have:=h'.2 (j - vs.length) (by simp at hj;omega);simpa[Au] using this
def Tu{n N:Nat}{γ:Gh}{σ:St}{w:World}{e:Env}{a:Act}{ops:Array Oper}{i:AI}{o:Oper}{f:Nat}{vs:List V}{fn:Func}{c:Code}(qa:(match i.op with | .call f xs=>Xz P G f xs o.op | .callv s xs=>Xl P G s xs o.op | ao=>Vs P G ao o.op)=true)(hc:B7 e i.op=some (f,vs))(hE:RepE γ w e a.tmps)(hI:Inv G N γ σ w)
  (hf:P.funcs[f]?=some fn) (hb:fn.body=some c) (hn:fn.name ≠ "runtime.NumGoroutine") :
  ∃ us:List Value,(execOp a.eval o).run P w=.ok (.enter f us.toArray) w/\vs.length=us.length/\∀ j,j<vs.length->RepV γ w (vs.getD j .und) (us.getD j undef):=by
 have args:∀ {xs:List S} {os:Array Operand},Ma G xs os.toList=true->(xs.map (Ac e)).length=(os.toList.map a.eval).length/\∀ j,j<(xs.map (Ac e)).length->RepV γ w ((xs.map (Ac e)).getD j .und) ((os.toList.map a.eval).getD j undef):=fun {xs os} jV=>by
  obtain⟨l1,g1⟩:=Aar (a:=a) hE hI jV;refine⟨by simpa using l1,fun j hj=>?_⟩;have vc:j<xs.length:=by simpa using hj
  have vb:j<os.toList.length:=by omega
  have:=g1 j xs[j] os.toList[j] (A2 vc) (A2 vb);rw[show(xs.map (Ac e)).getD j .und=Ac e xs[j] by simp[Au,vc],show(os.toList.map a.eval).getD j undef=a.eval os.toList[j] by rw[Au,Av,A2 vb];rfl];exact this
 generalize i.op=op at qa hc
 cases op with
 | call f' xs=>
  simp only[B7]at hc;cases hc;obtain⟨os,ts,kG,jV⟩:=Au9 qa;refine⟨os.toList.map a.eval,?_,args jV⟩;rw[Aw4 kG hf hb hn,Aod]
 | callv s xs=>
  simp only[B7]at hc
  split at hc
  .rename_i f' as cs hs;cases hc;obtain⟨x,os,ts,kG,h1,jV⟩:=Auc qa;have hr:=Xf (a:=a) h1 hE hI;rw[hs]at hr;obtain⟨ua,uc,hu,vH,vI,vS,vT⟩:=Afs (Ay rfl hr);refine⟨ua++os.toList.map a.eval++uc,?_,Amb (Amb ⟨vH,fun j hj=>C5 (vS j hj)⟩ (args jV)) ⟨vI,fun j hj=>C5 (vT j hj)⟩⟩;rw[Ava kG hu hf hb hn,Aod];simp
  .cases hc
 | _=>simp[B7]at hc
