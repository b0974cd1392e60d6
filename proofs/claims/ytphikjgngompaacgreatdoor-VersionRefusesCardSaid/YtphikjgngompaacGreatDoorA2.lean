/- THE PLAIN MACHINE, joined texts: Kj Kk Kl Km Kn Ko Kp Kq. -/
import Derived.Test.YtphikjgngompaacGreatDoorA1
import Derived.Lib.AppendStr
import Derived.Laws.BytesArg
import Derived.Laws.BytesString
import Derived.Lib.ConvBytes
import Derived.Laws.StructEq
import Derived.Orders
set_option linter.all false
/- append (second form). -/
namespace Go.Proofs.YtphikjgngompaacGreatDoor.KM
open Go Go.RowKit
variable {P:Program} {G:List (Nat × List V)} {N:Nat} {γ:Gh} {σ σ1:St} {w:World} {e:Env} {a:Act} {o:Oper} {v:V}
def CellsIn(γ:Gh)(w:World)(cs:List V)(us:List Value):Prop:=cs.length=us.length/\∀ j,j<cs.length->RepC γ w (cs.getD j .und) (us.getD j undef)
def CellsIn.ext{γ γ':Gh}{w w':World}{cs:List V}{us:List Value}(hx:Ext γ w γ' w')(h:CellsIn γ w cs us):CellsIn γ' w' cs us:=⟨h.1,fun j hj=>(h.2 j hj).ext hx⟩
def CellsIn.app{cs ds:List V}{us vs:List Value}(h:CellsIn γ w cs us)(g:CellsIn γ w ds vs):CellsIn γ w (cs++ds) (us++vs):=by
 refine⟨by simp[h.1,g.1],fun j hj=>?_⟩;simp only[Fl];by_cases hl:j<cs.length
 .rw[Ex hl,Ex (by rw[<-h.1];exact hl)];simpa[Fl] using h.2 j hl
 .rw[Fk AA,Fk (by rw[<-h.1];omega),<-h.1];have:=g.2 (j - cs.length) (by grind)
  grind
def CellsIn.one{cs:List V}{us:List Value}(h:CellsIn γ w cs us):∀ u∈us,u.oneCell'=true:=by
 intro u hu;obtain⟨j,hj,rfl⟩:=Mu hu;have:=(Rn (h.2 j (by rw[h.1];exact hj))).2
 grind
theorem V5{m:Nat}:∀ {xs:List (List V)},(∀ i,i<xs.length->(xs.getD i []).length=m)->xs.flatten.length=xs.length*m
 | [],_=>by simp
 | x::xs,h=>by
  have h0:x.length=m:=by simpa using h 0 AE
  rw[Gv,Aj,V5 (m:=m) (xs:=xs) (fun i hi=>by simpa using h (i+1) (by grind)),h0,Be,G6];omega
def Aqs{m:Nat}:∀ {xs:List (List V)},(∀ i,i<xs.length->(xs.getD i []).length=m)->∀ i j,i<xs.length->j<m->xs.flatten.getD (i*m+j) .und=(xs.getD i []).getD j .und
 | [],_,i,j,hi,_=>by grind
 | x::xs,h,i,j,hi,hj=>by
  have h0:x.length=m:=by simpa using h 0 AE
  have hr:∀ i,i<xs.length->(xs.getD i []).length=m:=fun i hi=>by simpa using h (i+1) (by grind)
  cases i with
  | zero=>
   grind
  | succ i=>
   have ih:=Aqs hr i j (by grind) hj
   grind
theorem Ah0(m:Nat):∀ (n:Nat) (cs:List V),n*m<=cs.length->(Fi m n cs).flatten=cs.take (n*m)
 | 0,cs,_=>by simp[Fi]
 | n+1,cs,h=>by
  rw[G6]at h;rw[Fi,Gv,Ah0 m n _ (by grind),G6,Ahe (n*m) m,List.take_add]
theorem Ant{xs:List (List V)}{ad:Addr}{cap m:Nat}(hm:0<m)(hw:∀ i,i<xs.length->(xs.getD i []).length=m)(h:RepR γ.κ w (.lst 0 xs) (.slice (some ad) xs.length cap)):
  ∃ us:List Value,CellsIn γ w xs.flatten us/\∀ j u,us[j]?=some u->w.cell? (ad.add j)=some u:=by
 cases h with
 | @lst _ _ _ _ m' row h1 h2 h3 h4 h5 h6 h7=>
 have H4:=Lib.hid h4;clear h4;have jC:0<xs.length->m'=m:=fun hl=>by grind
 refine⟨(List.range (xs.length*m)).map fun q=>row (q / m) (q % m),⟨by grind[V5],fun j hj=>?_⟩,fun j u hj=>?_⟩
 .rw[V5 hw]at hj
  have hl:0<xs.length:=by
   rcases Vi xs.length with h | h
   .grind
   .exact h
  obtain rfl:=jC hl;have hd:j / m'<xs.length:=Nat.div_lt_of_lt_mul (by grind);have hr:j % m'<m':=Tn _ hm;have jK:j / m'*m'+j % m'=j:=by rw[Ahf];exact Nat.div_add_mod j m'
  have e0:=Aqs hw (j / m') (j % m') hd hr;rw[jK]at e0;rw[e0]
  have e1:((List.range (xs.length*m')).map fun q=>row (q / m') (q % m')).getD j undef=row (j / m') (j % m'):=by
   simp[Fl,hj]
  rw[e1];exact .row (h7 _ _ hd hr)
 .have ja:j<xs.length*m:=by
   have:=(An.1 hj).1;simpa using this
  have hl:0<xs.length:=by
   rcases Vi xs.length with h | h
   .grind
   .exact h
  obtain rfl:=jC hl;have hs:=(H4.out hl).1;have hd:j / m'<xs.length:=Nat.div_lt_of_lt_mul (by grind);have hr:j % m'<m':=Tn _ hm;have hc:=h6 (j / m') (j % m') hd hr;have jK:j / m'*m'+j % m'=j:=by rw[Ahf];exact Nat.div_add_mod j m'
  rw[Aby,jK]at hc;simp[ja]at hj;subst hj;obtain⟨b,of,sp⟩:=ad
  grind[Mg]
def Ann{o:Obj}(h:N<=w.heap.size):Below N w (w.drew.alloc o):=((Below.refl N w).drew).alloc h o
def Aqt{us:List Value}{qw:Array Value}{j:Nat}(h:j<us.length):(us.toArray++qw).getD j undef=us.getD j undef:=by
 simp_all [Array.getElem?_append_left]
theorem Aqu{cs:List V}{us:List Value}{qw:Array Value}{el:TypeId}{n cap m:Nat}{r:Result Next}(hI:Inv G N γ σ w)(hc:CellsIn γ w cs us)(hn:n<=cap)(kM:cap<=maxLen)(jx:(us.toArray++qw).size=cap*m)
  (h:r=.ok (.value (.slice (some ⟨w.heap.size,0,none⟩) n cap)) (w.drew.alloc (.cells (us.toArray++qw) el))):C3 P G N γ σ w r (.sl σ.length 0 0 n m true) (σ++[.row cs el 0 0]):=by
 obtain⟨d1,d2⟩:=hI.drew
 obtain⟨i1,i2⟩:=d1.newRow (us.toArray++qw) el cs (by rw[hc.1];simp) (fun j hj=>by
  rw[Aqt (by rw[<-hc.1];exact hj)]
  exact(hc.2 j hj).ext d2)
 refine⟨_,_,_,.inl h,Df (Aea ?_ ?_ hn kM),i1,d2.trans i2,Ann hI.base,fun b hb=>N1 _ _ (by have:=hI.base;show b≠w.heap.size;omega)⟩
 .show(γ.O++[(w.heap.size,0)])[σ.length]?=_;rw[<-hI.len];simp
 .have:=Yn w.drew (us.toArray++qw) el (0,0)
  simp_all
def Ake{x:V}{ux:Value}{ys:List (List V)}{news:List Value}{m bytes:Nat}{el:TypeId}{r:Result Next}(hI:Inv G N γ σ w)(hx:RepV γ w x ux)(hy:CellsIn γ w ys.flatten news)
  (qR:ys.length=0->∀ (b:Option Addr) (n c:Nat),n<=c->ux=.slice b n c->r=.ok (.value (.slice b n c)) w)
  (vE:0<ys.length->ys.length*bytes<=140737488355328->ux=.slice none 0 0->∃ cap qw,r=.ok (.value (.slice (some ⟨w.heap.size,0,none⟩) ys.length cap)) (w.drew.alloc (.cells (news.toArray++qw) el))/\ys.length<=cap/\cap<=maxLen/\(news.toArray++qw).size=cap*m)
  (qQ:∀ (g n cap:Nat) (ql:Array Value) (e':TypeId) (fz:Nat × Nat),w.heap[g]?=some (.cells ql e' fz)->(fz.2<=n*m\/ql.size<=fz.1)->0<ys.length->n+ys.length<=cap->ql.size=cap*m->ux=.slice (some ⟨g,0,none⟩) n cap ->
   r=.ok (.value (.slice (some ⟨g,0,none⟩) (n+ys.length) cap)) (w.setRow g (ql.toList.take (n*m)++news++ql.toList.drop (n*m+news.length)).toArray))
  (qP:∀ (b:Addr) (n cap:Nat) (qk:List Value),qk.length=n*m->(∀ j u,qk[j]?=some u->w.cell? (b.add j)=some u)->0<ys.length->cap<n+ys.length->(n+ys.length)*bytes<=140737488355328->n+ys.length<=maxLen->ux=.slice (some b) n cap ->
   ∃ qz qw,r=.ok (.value (.slice (some ⟨w.heap.size,0,none⟩) (n+ys.length) qz)) (w.drew.alloc (.cells (qk.toArray++news.toArray++qw) el))/\n+ys.length<=qz/\qz<=maxLen/\(qk.toArray++news.toArray++qw).size=qz*m)
  (qt:∀ k,k*bytes<=140737488355328->k<=maxLen)
  (h:Jm bytes (m,el) σ x ys=some (v,σ1)):C3 P G N γ σ w r v σ1:=by
 have qq:ys.isEmpty=true↔ys.length=0:=by cases ys<;>simp
 unfold Jm at h
 split at h
 .rename_i je;obtain⟨kJ,hm⟩:=je;have hm:0<m:=hm
  have vz:∀ i,i<ys.length->(ys.getD i []).length=m:=fun i hi=>by
   grind
  have qK:news.length=ys.length*m:=by rw[<-hy.1,V5 vz]
  split at h
  .have hu:=Me (Bf rfl hx)
   split at h
   .rename_i qj
    split at h
    .rename_i qZ;cases h;exact Cp hI (qR (qq.1 qZ) none 0 0 (Am _) hu) (Df (.row .nils))
    grind[Aqu]
   grind
  .rename_i t xs;have kk:=Bf rfl hx;obtain⟨ad,cap,hu,hR,jg⟩:=Tw kk
   split at h
   .rename_i qj
    split at h
    .rename_i qZ;cases h;exact Cp hI (qR (qq.1 qZ) _ _ _ (by cases hR with | lst row h1 h2 h3=>exact h2) hu) (by grind)
    .rename_i qZ;have qD:0<ys.length:=Nat.pos_of_ne_zero fun h=>qZ (qq.2 h)
     split at h
     .rename_i ht;cases h
      have hw:∀ i,i<xs.length->(xs.getD i []).length=m:=fun i hi=>by
       grind
      obtain⟨qk,jb,jq⟩:=Ant hm hw hR;have vK:=jg ht.1;obtain⟨qz,qw,hr,jH,jI,jz⟩:=qP ad xs.length cap qk (by rw[<-jb.1,V5 hw]) jq qD AA qj (qt _ qj) hu;rw[show qk.toArray++news.toArray=(qk++news).toArray by simp]at hr jz;exact Aqu hI (jb.app hy) jH jI jz hr
     grind
   grind
  .rename_i i g off len m' own;have kk:=Bf rfl hx
   split at h
   .rename_i kK;obtain⟨qj,jC⟩:=kK;obtain rfl:m=m':=Eq.symm jC
    split at h
    .rename_i cs ee g' z qI
     split at h
     .rename_i hg;subst hg;obtain⟨blk,cap,o',hb,hu,jp,jx,jJ,jm⟩:=Aja (o':=0) hI kk (by grind[Qs]);obtain⟨_,vO,vS,us,lo,hi,g1,⟨_,jF⟩,g2,g3⟩:=hI.obj i _ _ qI hb
      split at h
      .grind[Cp]
      .rename_i qZ;have qD:0<ys.length:=Nat.pos_of_ne_zero fun h=>qZ (qq.2 h)
       split at h
       .rename_i hc;obtain⟨kf,rfl,kP,kE⟩:=hc;obtain rfl:el=ee:=Eq.symm kP;have kD:us.size=cap*m:=by have:=jx kf;simp[Ep,g1]at this;exact this
        have g1:w.heap[blk]?=some (.cells us el (lo,hi)):=g1;have jd:(len+ys.length)*m=len*m+ys.length*m:=N0 _ _ _
        have kv:hi<=len*m\/us.size<=lo:=by
         rcases jF with h | h
         .omega
         .omega
        have ko:∀ j,j<cs.length->RepC γ w (cs.getD j .und) (us.toList.getD j undef):=fun j hj=>by
         grind[Array.getD_eq_getD_getElem?]
        split at h
        .-- Ej what it has
         rename_i jS;cases h;have qc:len+ys.length<=cap:=Nat.le_of_mul_le_mul_right AA hm;have qF:ux=.slice (some ⟨blk,0,none⟩) len cap:=by rw[hu,jp AA]
         have hr:=qQ blk len cap us el (lo,hi) g1 kv qD qc kD qF;have qX:((us.toList.take (len*m)++news++us.toList.drop (len*m+news.length)).toArray).size=us.size:=by simp;omega
         have kr:(cs.take (len*m)++ys.flatten++cs.drop ((len+ys.length)*m)).length=cs.length:=by
          rw[Aj,Aj,hy.1,qK];simp;omega
         obtain⟨i1,i2⟩:=hI.write (us':=(us.toList.take (len*m)++news++us.toList.drop (len*m+news.length)).toArray) (cs':=cs.take (len*m)++ys.flatten++cs.drop ((len+ys.length)*m)) (g':=g) hb qI g1 ⟨by omega,jF⟩ (Am _) AA qX AA (fun q hq=>by
          grind) (fun j hj=>by
          rw[kr]at hj;rw[Array.getD_eq_getD_getElem?,Abj,Fl,jd,show ys.length*m=ys.flatten.length by grind,Adm _ _ _ _ (by grind),Adm _ _ _ _ (by grind),hy.1]
          split
          .grind
          .split
           .have:=hy.2 (j - len*m) (by grind)
            grind
           grind)
         rw[show(blk,g).1=blk from rfl,N3 hb]at i1 i2;refine⟨_,_,_,.inl hr,Df (.sl hb (Am _) qc jm (fun _=>rfl) (fun _=>⟨rfl,fun _=>?_⟩)),i1,i2,Ab2 _ (hI.low _ _ hb),fun _ _=>rfl⟩
         grind[Ahh]
        .split at h
         .rename_i vk ji;cases h;have kr:(cs++ys.flatten).length=(len+ys.length)*m:=by rw[Aj,hy.1,qK,ji,jd]
          have kB:us.toList.take (len*m)=us.toList.take cs.length:=by rw[ji]
          have qT:CellsIn γ w cs (us.toList.take (len*m)):=⟨by grind,fun j hj=>by
           grind⟩
          by_cases qc:len+ys.length<=cap
          .-- grown in its place
           have qF:ux=.slice (some ⟨blk,0,none⟩) len cap:=by rw[hu,jp AA]
           have hr:=qQ blk len cap us el (lo,hi) g1 kv qD qc kD qF;have vh:(len+ys.length)*m<=cap*m:=E4 _ qc;have qX:((us.toList.take (len*m)++news++us.toList.drop (len*m+news.length)).toArray).size=us.size:=by simp;omega
           obtain⟨i1,i2⟩:=hI.write (us':=(us.toList.take (len*m)++news++us.toList.drop (len*m+news.length)).toArray) (cs':=cs++ys.flatten) (g':=g+1) hb qI g1 ⟨by omega,jF⟩ AA AA qX AA (fun q hq=>by
            grind) (fun j hj=>by
            have:=(qT.app hy).2 j hj;have qN:j<(us.toList.take (len*m)++news).length:=by rw[<-(qT.app hy).1];exact hj
            rw[Array.getD_eq_getD_getElem?,Abj,Ex qN]
            grind)
           refine⟨_,_,_,.inl hr,Df (.sl (blk:=blk) (g':=g+1) ?_ (Am _) qc jm (fun _=>rfl) (fun _=>⟨rfl,fun _=>?_⟩)),i1,i2,Ab2 _ (hI.low _ _ hb),fun _ _=>rfl⟩
           .grind
           grind[Ahh]
          .-- moved
           have jh:∀ j u,(us.toList.take (len*m))[j]?=some u->w.cell? ((⟨blk,o',none⟩:Addr).add j)=some u:=fun j u hj=>by
            have jV:j<len*m:=by have:=(An.1 hj).1;simp at this;omega
            have ky:0<len:=by
             rcases Vi len with h | h
             .grind
             .exact h
            rw[jp AA,Mg];rw[Vh,if_pos jV,Array.getElem?_toList]at hj
            grind[World.cell?]
           obtain⟨qz,qw,hr,jH,jI,jz⟩:=qP ⟨blk,o',none⟩ len cap (us.toList.take (len*m)) (by grind) jh qD AA qj (qt _ qj) hu;rw[show(us.toList.take (len*m)).toArray++news.toArray=(us.toList.take (len*m)++news).toArray from(List.append_toArray _ _)]at hr jz;obtain⟨d1,d2⟩:=hI.drew;have kL:=qT.app hy
           obtain⟨i1,i2⟩:=d1.moved (us':=(us.toList.take (len*m)++news).toArray++qw) (cs':=cs++ys.flatten) hb qI AA (by grind) (fun j hj=>by
            rw[Aqt (by grind)]
            exact(kL.2 j hj).ext d2)
           refine⟨_,_,_,.inl hr,Df (.sl (blk:=w.heap.size) (g':=g+1) ?_ (Am _) jH jI (fun _=>rfl) (fun _=>⟨rfl,fun _=>?_⟩)),i1,d2.trans i2,Ann hI.base,fun b hb=>N1 _ _ (by have:=hI.base;show b≠w.heap.size;omega)⟩
           .show(γ.O.set i (w.heap.size,g+1))[i]?=_
            grind
           .have:=Yn w.drew ((us.toList.take (len*m)++news).toArray++qw) el (0,0);rw[show w.drew.heap.size=w.heap.size from rfl]at this
            grind
         grind
       grind
     grind
    grind
   grind
  grind
 grind
open Go Go.RowKit
variable {P:Program} {G:List (Nat × List V)} {N:Nat} {γ:Gh} {σ σ1:St} {w:World} {e:Env} {a:Act} {o:Oper} {v:V}
def A0a(t ty e:TypeId)(i:TypeInfo)(ht:P.underlying t=some (.slice e))(hi:P.info? e=some i)
  (g qg qy:Nat) (ql:Array Value) (e':TypeId) (fz:Nat × Nat) (hg:w.heap[g]?=some (.cells ql e' fz)) (jA:fz.2<=qg*i.size\/ql.size<=fz.1)
  (b:Addr) (m c:Nat) (news:List Value) (hl:news.length=m*i.size) (jo:∀ j u,news[j]?=some u->w.cell? (b.add j)=some u) (h1:∀ u∈news,u.oneCell'=true)
  (qc:qg+m<=qy) (jN:qg*i.size+news.length<=ql.size) :
  (Builtin.append_ #[t,t] ty #[.slice (some ⟨g,0,none⟩) qg qy,.slice (some b) m c]).run P w =
   .ok (.slice (some ⟨g,0,none⟩) (qg+m) qy) (w.setRow g (ql.toList.take (qg*i.size)++news++ql.toList.drop (qg*i.size+news.length)).toArray):=by
 have hf:=run_firstCells_some (P:=P) w i.size m b m c news hl jo;have jw:=Abn P g (qg*i.size) e' fz news 0 ql w hg AA AA h1;simp only[Mx]at jw;simp[Builtin.append_,run_underlying ht,sizeOf,typeInfo,hi,Builtin.lenOf,qc,hf,Addr.add_lit,jw]
def A07{bytes:Nat}{m:Nat × Nat}{x:V}{ys:List (List V)}(h:Jm bytes m σ x ys=some (v,σ1)):∀ i,i<ys.length->(ys.getD i []).length=m.1:=by
 unfold Jm at h
 grind
def A83{t el:TypeId}{fi:TypeInfo}{z:Value}{x y:Operand}{s1 s2:S}(ho:o.op=.call { callee:=.builtin .append,args:=#[x,y],argTypes:=#[t,t] })(ht:P.underlying t=some (.slice el))(qm:P.info? el=some fi)(hz:fi.zero=some z)(hzs:z.cells.size=fi.size)(jx:0<fi.size)(jf:0<fi.bytes)
  (hx:RepV γ w (Ac e s1) (a.eval x)) (hy:RepV γ w (Ac e s2) (a.eval y)) (hI:Inv G N γ σ w)
  (h:Af (.app fi.bytes (fi.size,el) s1 s2) e σ=some (v,σ1)):C3 P G N γ σ w ((execOp a.eval o).run P w) v σ1:=by
 simp only[Af,E3]at h;obtain⟨ys,qO,h⟩:=h;have kj:=A07 h
 have qt:∀ k,k*fi.bytes<=140737488355328->k<=maxLen:=fun k hk=>by
  have:k<=k*fi.bytes:=Abi _ jf
  grind[maxLen]
 have qu:∀ {u:Value} {w':World},(Builtin.append_ #[t,t] o.type #[a.eval x,a.eval y]).run P w=.ok u w'->(execOp a.eval o).run P w=.ok (.value u) w':=fun hr=>by
  simp only[execOp,ho,resolve,invoke,builtin,Sem.run_bind,Sem.run_pure,Result.andThen_ok,List.map_toArray,Bh,B0,hr]
 have ki:(ys=[]/\a.eval y=.slice none 0 0)\/∃ ad c news,a.eval y=.slice (some ad) ys.length c/\CellsIn γ w ys.flatten news/\∀ j u,news[j]?=some u->w.cell? (ad.add j)=some u:=by
  unfold E5 at qO
  split at qO
  .rename_i e2;rw[e2]at hy;cases qO;exact .inl ⟨rfl,Me (Bf rfl hy)⟩
  .rename_i t' vV e2;rw[e2]at hy;cases qO;obtain⟨ad,c,hu,hR,_⟩:=Tw (Bf rfl hy)
   grind[Ant]
  .rename_i i g off len m' own e2;rw[e2]at hy
   split at qO
   .rename_i cs ee g' z qI
    split at qO
    .rename_i hc;obtain⟨rfl,rfl,qV⟩:=hc;cases qO;obtain⟨blk,cap,o',hb,hu,jp,_,jJ,_⟩:=Aja (o':=0) hI (Bf rfl hy) (by grind[Qs]);obtain⟨_,_,_,us,lo,hi,g1,_,g2,g3⟩:=hI.obj i _ _ qI hb;have g1:w.heap[blk]?=some (.cells us ee (lo,hi)):=g1;refine .inr ⟨⟨blk,o',none⟩,cap,(us.toList.drop off).take (len*fi.size),by grind[Aik],⟨?_,fun j hj=>?_⟩,fun j u hj=>?_⟩
     .grind[Ah0]
     .grind[Ah0,Array.getD_eq_getD_getElem?]
     .have jV:j<len*fi.size:=by have:=(An.1 hj).1;simp at this;omega
      have kx:0<len:=by
       rcases Vi len with h | h
       .grind
       .exact h
      rw[jp AA,Mg]
      simp_all [World.cell?]
    grind
   grind
  .cases qO
 rcases ki with⟨rfl,hu⟩ | ⟨ad,c,news,hu,ka,kb⟩
 .refine Ake (news:=[]) (el:=el) (bytes:=fi.bytes) hI hx ⟨by simp,fun i hi=>absurd hi AE⟩ (fun _ b n c jn qi=>qu ?_) (fun h=>absurd h AE) (fun _ _ _ _ _ _ _ _ h=>absurd h AE) (fun _ _ _ _ _ _ h=>absurd h AE) qt h
  .rw[qi,hu]
   cases b<;>simp[Builtin.append_,run_underlying ht,sizeOf,typeInfo,qm,Builtin.lenOf,Builtin.firstCells,storeCells,jn]
 .have qK:news.length=ys.length*fi.size:=by rw[<-ka.1,V5 kj]
  have kc:=ka.one;refine Ake (news:=news) (el:=el) (bytes:=fi.bytes) hI hx ka (fun h0 b n c' jn qi=>qu ?_) (fun hp hb qi=>?_) (fun g n cap ql e' fz hg jA hp qc qI qi=>qu ?_) (fun b n cap qk jb jq _ hc hb hm qi=>?_) qt h
  .have vP:news=[]:=List.eq_nil_of_length_eq_zero (by grind);rw[qi,hu,h0]
   cases b<;>simp[Builtin.append_,run_underlying ht,sizeOf,typeInfo,qm,Builtin.lenOf,Builtin.firstCells,loadCells,loadCellsFrom,storeCells,jn]
  .have hr:=run_append_nil (P:=P) w t o.type el fi z ht qm hz ad ys.length c news qK kb hp (by grind[maxLen]) AA;refine⟨_,_,qu (by rw[qi,hu];exact hr),grownCap_ge _ _ _ _,grownCap_le_maxLen _ _ _ _ (qt _ hb),?_⟩;have:=grownCap_ge w ys.length 0 el;simp only[Array.size_append,List.size_toArray,size_zeroCells,hzs,qK,<-N0]
   grind
  .rw[qi,hu];refine A0a (P:=P) t o.type el fi ht qm g n cap ql e' fz hg jA ad ys.length c news qK kb kc qc ?_;rw[qK,qI,<-N0]
   simp_all [E4]
  .have hr:=run_append_grow (P:=P) w t o.type el fi z ht qm hz b n cap qk jb jq ad ys.length c news qK kb hc (by grind[maxLen]) (growslice_fits hc hb);refine⟨_,_,qu (by rw[qi,hu];exact hr),grownCap_ge _ _ _ _,grownCap_le_maxLen _ _ _ _ hm,?_⟩;have:=grownCap_ge w (n+ys.length) cap el;simp only[Array.size_append,List.size_toArray,size_zeroCells,hzs,qK,jb,<-N0]
   grind
def Az9(t u ty e:TypeId)(i:TypeInfo)(ht:P.underlying t=some (.slice e))(hu:P.underlying u=some .string)(hi:P.info? e=some i)(jt:i.size=1)
  (g qg qy:Nat) (ql:Array Value) (e':TypeId) (fz:Nat × Nat) (hg:w.heap[g]?=some (.cells ql e' fz)) (jA:fz.2<=qg\/ql.size<=fz.1) (s:ByteArray)
  (qc:qg+s.size<=qy) (jN:qg+s.size<=ql.size) :
  (Builtin.append_ #[t,u] ty #[.slice (some ⟨g,0,none⟩) qg qy,.string s]).run P w =
   .ok (.slice (some ⟨g,0,none⟩) (qg+s.size) qy) (w.setRow g (ql.toList.take qg++Lib.strCells s++ql.toList.drop (qg+s.size)).toArray):=by
 have hf:=Lib.run_firstCells_string (P:=P) w 1 s;have jw:=Abn P g qg e' fz (Lib.strCells s) 0 ql w hg AA (by grind[Lib.strCells_length]) (Lib.strCells_oneCell s);simp only[Mx,Lib.strCells_length]at jw;simp[Builtin.append_,run_underlying ht,run_underlying hu,sizeOf,typeInfo,hi,jt,Builtin.lenOf,qc,hf,Addr.add_lit,jw]
def X7(l:List UInt8):(By l).length=l.length:=by simp[By]
def A0e(l:List UInt8):(By l).flatten=l.map fun c=>V.int .u8 (c.toNat:Int):=by
 induction l with
 | nil=>rfl
 | cons c l ih=>grind[By]
def A0l(l:List UInt8):CellsIn γ w (By l).flatten (Lib.strCells ⟨l.toArray⟩):=by
 rw[A0e];refine⟨by simp[Lib.strCells],fun j hj=>?_⟩;have ja:j<l.length:=by simpa using hj
 have e1:(l.map fun c=>V.int .u8 (c.toNat:Int)).getD j .und=.int .u8 (l[j].toNat:Int):=by simp[Fl,ja]
 have e2:(Lib.strCells ⟨l.toArray⟩).getD j undef=.int .u8 (l[j].toNat:Int):=by simp[Lib.strCells,Fl,ja]
 rw[e1,e2];exact .row .int
def A5b{t u el:TypeId}{fi:TypeInfo}{z:Value}{x y:Operand}{s1 s2:S}(ho:o.op=.call { callee:=.builtin .append,args:=#[x,y],argTypes:=#[t,u] })(ht:P.underlying t=some (.slice el))(hu:P.underlying u=some .string)(qm:P.info? el=some fi)(hz:fi.zero=some z)(hzs:z.cells.size=1)(jx:fi.size=1)(jf:fi.bytes=1)
  (hx:RepV γ w (Ac e s1) (a.eval x)) (hy:RepV γ w (Ac e s2) (a.eval y)) (hI:Inv G N γ σ w)
  (h:Af (.apps el s1 s2) e σ=some (v,σ1)):C3 P G N γ σ w ((execOp a.eval o).run P w) v σ1:=by
 simp only[Af]at h
 split at h
 .rename_i l e2;rw[e2]at hy;obtain⟨hv,hl⟩:=G7 (Bf rfl hy);have qt:∀ k,k*1<=140737488355328->k<=maxLen:=fun k hk=>by grind[maxLen]
  have qu:∀ {u':Value} {w':World},(Builtin.append_ #[t,u] o.type #[a.eval x,a.eval y]).run P w=.ok u' w'->(execOp a.eval o).run P w=.ok (.value u') w':=fun hr=>by
   simp only[execOp,ho,resolve,invoke,builtin,Sem.run_bind,Sem.run_pure,Result.andThen_ok,List.map_toArray,Bh,B0,hr]
  have vg:(⟨l.toArray⟩:ByteArray).size=l.length:=Mj l;have vR:(Lib.strCells ⟨l.toArray⟩).length=l.length:=by rw[Lib.strCells_length,Mj]
  refine Ake (news:=Lib.strCells ⟨l.toArray⟩) (el:=el) (bytes:=1) (m:=1) hI hx (A0l l) (fun h0 b n c' jn qi=>qu ?_) (fun hp hb qi=>?_) (fun g n cap ql e' fz hg jA hp qc qI qi=>qu ?_) (fun b n cap qk jb jq _ hc hb hm qi=>?_) qt h
  .rw[X7]at h0;have kx:l=[]:=List.eq_nil_of_length_eq_zero h0;subst kx;rw[qi,hv]
   cases b<;>simp[Builtin.append_,run_underlying ht,run_underlying hu,sizeOf,typeInfo,qm,Builtin.lenOf,Builtin.firstCells,storeCells,Mj,jn]
  .rw[X7]at hp hb ⊢;have hr:=run_append_nil_string (P:=P) w t u o.type el fi z ht hu qm hz ⟨l.toArray⟩ AA AA (by grind)
   grind[Lib.strCells,grownCap_ge,grownCap_le_maxLen,size_zeroCells]
  .rw[X7]at hp qc ⊢;have hr:=Az9 (P:=P) (w:=w) t u o.type el fi ht hu qm jx g n cap ql e' fz hg AA ⟨l.toArray⟩ AA AA
   grind
  .rw[X7]at hc hb hm ⊢;have hr:=Lib.run_append_grow_string (P:=P) w t u o.type el fi z ht hu qm hz b n cap qk (by grind) jq ⟨l.toArray⟩ AA AA (by rw[vg,jf];exact growslice_fits hc hb)
   grind[grownCap_ge,grownCap_le_maxLen,size_zeroCells]
 grind
def Aqv{t:TypeId}{d:TypeDesc}{fi:TypeInfo}{n off:Nat}{one:Bool}{cs:List V}{us:List Value}{v:V}(ht:P.underlying t=some d)(hd:Ox d=!one)(qm:P.info? t=some fi)(hn:fi.size=n)
  (hl:cs.length=us.length) (hj:∀ j,j<cs.length->RepC γ w (cs.getD j .und) (us.getD j undef)) (qV:off+n<=cs.length) (h:Ht one ((cs.drop off).take n)=some v) :
  ∃ u,(part t us.toArray off).run P w=.ok u w/\RepV γ w v u:=by
 have qp:((cs.drop off).take n).length=n:=by simp;omega
 have hr:∀ j,j<n->RepC γ w (((cs.drop off).take n).getD j .und) (us.getD (off+j) undef):=fun j vN=>by
  grind
 obtain⟨m1,m2⟩:=Ahx (f:=fun j=>us.getD (off+j) undef) h qp hr;have kI:=Ahy (P:=P) (w:=w) ht;rw[hd]at kI
 cases one with
 | true=>
  obtain⟨h1,h2⟩:=m1 rfl;have qx:off<us.length:=by omega
  simp_all [Df,part]
 | false=>
  refine⟨_,?_,.one (m2 rfl)⟩
  have e2:us.toArray.extract off (off+n)=((List.range n).map fun j=>us.getD (off+j) undef).toArray:=by
   apply Array.ext
   .grind
   .grind
  simp_all [part,sizeOf,typeInfo]
def A84{t:TypeId}{fs:Array Field}{f:Field}{d:TypeDesc}{fi:TypeInfo}{i off n:Nat}{one:Bool}{x:Operand}{s:S}(ho:o.op=.field t x i)(hs:P.underlying t=some (.struct fs))(hf:fs[i]?=some f)(vl:f.offset=off)
  (ht:P.underlying f.type=some d) (hd:Ox d=!one) (qm:P.info? f.type=some fi) (hn:fi.size=n)
  (hx:RepV γ w (Ac e s) (a.eval x)) (hI:Inv G N γ σ w) (h:Af (.fld off n one s) e σ=some (v,σ1)):C3 P G N γ σ w ((execOp a.eval o).run P w) v σ1:=by
 simp only[Af]at h
 split at h
 .rename_i cs e1;rw[e1]at hx;obtain⟨us,hu,hl,hj⟩:=Rq hx
  split at h
  .rename_i qV;simp only[Ci]at h;obtain⟨v',h,h2⟩:=h;cases h2;obtain⟨u,hr,hv⟩:=Aqv (P:=P) ht hd qm hn hl hj qV h
   simp_all [Cp,execOp,Instr.field,run_underlying,asAgg]
  grind
 grind
def A85{t el:TypeId}{d:TypeDesc}{fi:TypeInfo}{len m:Nat}{one:Bool}{x y:Operand}{s1 s2:S}(ho:o.op=.index t x y)(hs:P.underlying t=some (.array len el))
  (ht:P.underlying el=some d) (hd:Ox d=!one) (qm:P.info? el=some fi) (hn:fi.size=m)
  (hx:RepV γ w (Ac e s1) (a.eval x)) (hy:RepV γ w (Ac e s2) (a.eval y)) (hI:Inv G N γ σ w) (h:Af (.ida len m one s1 s2) e σ=some (v,σ1)):C3 P G N γ σ w ((execOp a.eval o).run P w) v σ1:=by
 simp only[Af]at h
 split at h
 .rename_i k n e2;rw[e2]at hy;have qv:=Ey (Bf rfl hy)
  split at h
  .rename_i hb
   split at h
   .rename_i cs e1;rw[e1]at hx;obtain⟨us,hu,hl,hj⟩:=Rq hx
    split at h
    .rename_i qV;simp only[Ci]at h;obtain⟨v',h,h2⟩:=h;cases h2;obtain⟨u,hr,hv⟩:=Aqv (P:=P) ht hd qm hn hl hj qV h
     simp_all [Cp,execOp,Instr.index,asIntOf,run_underlying,sizeOf,typeInfo]
    grind
   grind
  grind
 grind
/-! strings of bytes -/
/-! strings to bytes -/
open Go Go.RowKit
variable {P:Program} {G:List (Nat × List V)} {N:Nat} {γ:Gh} {σ σ1:St} {w:World} {e:Env} {a:Act} {o:Oper} {v:V}
theorem A0b{t:TypeId}(ht:P.underlying t=some .bool)(p q:Bool):(Op.equal t (.bool p) (.bool q)).run P w=.ok (p==q) w:=
 have h:∀ d,(Op.equalIn (d+1) t (.bool p) (.bool q)).run P w=.ok (p==q) w:=fun d=>by simp[Op.equalIn,run_underlying ht]
 h 9999
def Ag0{t el:TypeId}(ht:P.underlying t=some (.slice el))(n c:Nat)(b:Option Addr)(n' c':Nat):(Op.equal t (.slice none n c) (.slice b n' c')).run P w=.ok b.isNone w:=
 have h:∀ d,(Op.equalIn (d+1) t (.slice none n c) (.slice b n' c')).run P w=.ok b.isNone w:=fun d=>by simp[Op.equalIn,run_underlying ht]
 h 9999
def Ano{t el:TypeId}(ht:P.underlying t=some (.slice el))(n c:Nat)(b:Addr)(n' c':Nat):(Op.equal t (.slice (some b) n' c') (.slice none n c)).run P w=.ok false w:=
 have h:∀ d,(Op.equalIn (d+1) t (.slice (some b) n' c') (.slice none n c)).run P w=.ok false w:=fun d=>by simp[Op.equalIn,run_underlying ht]
 h 9999
def Ag5{t el:TypeId}(ht:P.underlying t=some (.pointer el))(b:Option Addr):(Op.equal t (.pointer none) (.pointer b)).run P w=.ok b.isNone w:=
 have h:∀ d,(Op.equalIn (d+1) t (.pointer none) (.pointer b)).run P w=.ok b.isNone w:=fun d=>by simp[Op.equalIn,run_underlying ht]
 h 9999
def Anp{t el:TypeId}(ht:P.underlying t=some (.pointer el))(b:Addr):(Op.equal t (.pointer (some b)) (.pointer none)).run P w=.ok false w:=
 have h:∀ d,(Op.equalIn (d+1) t (.pointer (some b)) (.pointer none)).run P w=.ok false w:=fun d=>by simp[Op.equalIn,run_underlying ht]
 h 9999
def Zb{qo:Bool}{t ty:TypeId}{x y:Operand}{z:Bool}(ho:o.op=.binOp (if qo then .neq else .eql) t x y ty)(hg:(eqGuard (if qo then .neq else .eql) t x y (a.eval x) (a.eval y)).run P w=.ok () w)
  (hb:(binOp .eql t (a.eval x) (a.eval y))=(do pure (.bool (<-Op.equal t (a.eval x) (a.eval y))))) (vI:(binOp .neq t (a.eval x) (a.eval y))=(do pure (.bool (!(<-Op.equal t (a.eval x) (a.eval y))))))
  (hr:(Op.equal t (a.eval x) (a.eval y)).run P w=.ok z w):(execOp a.eval o).run P w=.ok (.value (.bool (z != qo))) w:=by
 cases qo
 .simp_all [execOp]
 simp_all [execOp]
def Sk(P:Program)(t:TypeId)(k:Nat):Bool:=match P.underlying t,k with
 | some .bool,0 | some (.int _),1 | some .string,2=>true
 | _,_=>false
def Wp(P:Program):List Field->Nat->List Nat->Bool
 | [],_,[]=>true
 | f::fs,k,c::ks=>f.offset==k&&(f.name != "_"&&(Sk P f.type c&&Wp P fs (k+1) ks))
 | _,_,_=>false
def Ac1{t:TypeId}{c:Nat}(h:Sk P t c=true){us:Array Value}{k:Nat}{u:Value}(hu:us[k]?=some u):(part t us k).run P w=.ok u w:=by
 unfold Sk at h
 have key:∀ d,P.underlying t=some d->Ox d=false->(part t us k).run P w=.ok u w:=fun d hd ha=>by
  simp_all [Ahy,part]
 split at h
 .rename_i hd;exact key _ hd rfl
 .rename_i hd;exact key _ hd rfl
 .rename_i hd;exact key _ hd rfl
 grind
def Atj{t:TypeId}{c:Nat}(h:Sk P t c=true){x y:V}{z:Bool}{u u':Value}(hu:RepC γ w x u)(qF:RepC γ w y u')(hz:eqS c x y=some z)(d:Nat):(Op.equalIn (d+1) t u u').run P w=.ok z w:=by
 unfold Sk at h;unfold eqS at hz
 split at hz
 .cases hz;rw[Pb hu,Pb qF]
  split at h
  .rename_i hd _;simp[Op.equalIn,run_underlying hd]
  .omega
  .omega
  grind
 .split at hz
  .rename_i hk;subst hk;cases hz;rw[Ey hu,Ey qF]
   split at h
   .omega
   .rename_i hd _;simp[Op.equalIn,run_underlying hd]
   .omega
   grind
  grind
 .rename_i l l';cases hz;rw[(G7 hu).1,(G7 qF).1]
  split at h
  .omega
  .omega
  .rename_i hd _;simp only[Op.equalIn,run_underlying hd,Sem.run_bind,Result.andThen_ok,Sem.run_pure,beq_toListBytes,ByteArray.toList_eq]
  grind
 grind
def Apb{d:Nat}:∀ {fs:List Field} {k:Nat} {ks:List Nat} {as bs:List V} {us vs:Array Value} {z:Bool},Wp P fs k ks=true->Lk ks as bs=some z->(∀ j,j<ks.length->∃ u,us[k+j]?=some u/\RepC γ w (as.getD j .und) u)->(∀ j,j<ks.length->∃ u,vs[k+j]?=some u/\RepC γ w (bs.getD j .und) u) ->
  (Op.eqFields (d+1) us vs fs).run P w=.ok z w
 | [],k,[],as,bs,us,vs,z,_,h,_,_=>by
  cases as<;>cases bs<;>simp[Lk]at h
  subst h;rfl
 | f::fs,k,c::ks,as,bs,us,vs,z,qa,h,ha,hb=>by
  simp only[Wp,Al,beq_iff_eq,bne_iff_ne]at qa;obtain⟨h1,h2,h3,h4⟩:=qa
  cases as with
  | nil=>grind[Lk]
  | cons x r=>
  cases bs with
  | nil=>grind[Lk]
  | cons y s=>
  obtain⟨u,hu,kg⟩:=ha 0 AE;obtain⟨u',qF,qW⟩:=hb 0 AE;simp only[Lk,E3]at h;obtain⟨z1,kl,h⟩:=h;have e1:=Atj (P:=P) h3 kg qW kl d;have p1:=Ac1 (P:=P) (w:=w) h3 (us:=us) (k:=f.offset) (by rw[h1];exact hu);have p2:=Ac1 (P:=P) (w:=w) h3 (us:=vs) (k:=f.offset) (by rw[h1];exact qF);unfold Op.eqFields;simp only[ne_eq,h2,not_false_eq_true,if_true,Sem.run_bind,p1,p2,Result.andThen_ok,e1]
  cases z1 with
  | false=>
   simp_all
  | true=>
   simp only[if_true]at h
   have ih:=Apb (d:=d) (us:=us) (vs:=vs) h4 h (fun j hj=>by
    have:=ha (j+1) (by grind)
    grind) (fun j hj=>by
    have:=hb (j+1) (by grind)
    grind)
   simp[ih]
 | [],_,_::_,_,_,_,_,_,h,_,_,_=>by grind[Wp]
 | _::_,_,[],_,_,_,_,_,h,_,_,_=>by grind[Wp]
def Aqw{d c:Nat}{el:TypeId}{us vs:Array Value}(h1:Sk P el c=true):∀ (m k:Nat) (as bs:List V) (z:Bool),Lk (List.replicate m c) as bs=some z->(∀ j,j<m->∃ u,us[k+j]?=some u/\RepC γ w (as.getD j .und) u)->(∀ j,j<m->∃ u,vs[k+j]?=some u/\RepC γ w (bs.getD j .und) u) ->
  (forIn (List.range' k m) ((none,()):Option Bool × Unit) (fun i (_:Option Bool × Unit)=>do
   let x <-part el us (i*1)
   let y <-part el vs (i*1)
   let z <-Op.equalIn (d+1) el x y
   if(!z)=true then pure (ForInStep.done (some false,())) else pure (ForInStep.yield (none,())):Nat->Option Bool × Unit->Sem (ForInStep (Option Bool × Unit)))).run P w=.ok (if z=true then(none,()) else(some false,())) w
 | 0,k,as,bs,z,h,_,_=>by
  cases as<;>cases bs<;>simp[Lk]at h
  simp_all
 | m+1,k,as,bs,z,h,ha,hb=>by
  rw[Agw]at h
  cases as with
  | nil=>grind[Lk]
  | cons x r=>
  cases bs with
  | nil=>grind[Lk]
  | cons y s=>
  obtain⟨u,hu,kg⟩:=ha 0 AA;obtain⟨u',qF,qW⟩:=hb 0 AA;simp only[Lk,E3]at h;obtain⟨z1,kl,h⟩:=h;have e1:=Atj (P:=P) h1 kg qW kl d;have p1:=Ac1 (P:=P) (w:=w) h1 (us:=us) (k:=k) hu;have p2:=Ac1 (P:=P) (w:=w) h1 (us:=vs) (k:=k) qF;rw[List.range'_succ,List.forIn_cons];simp only[Sem.run_bind,Ya,p1,p2,Result.andThen_ok,e1]
  cases z1 with
  | false=>
   simp_all
  | true=>
   simp only[if_true]at h
   have ih:=Aqw (d:=d) h1 m (k+1) r s z h (fun j hj=>by
    have:=ha (j+1) AA;rw[show k+(j+1)=k+1+j by omega]at this
    simpa using this) (fun j hj=>by
    have:=hb (j+1) AA;rw[show k+(j+1)=k+1+j by omega]at this
    simpa using this)
   simp_all
def Bde{d n c:Nat}{t el:TypeId}{fi:TypeInfo}{us vs:Array Value}{as bs:List V}{z:Bool}(ht:P.underlying t=some (.array n el))(qm:P.info? el=some fi)(hs:fi.size=1)(h1:Sk P el c=true)(h:Lk (List.replicate n c) as bs=some z)
  (ha:∀ j,j<n->∃ u,us[j]?=some u/\RepC γ w (as.getD j .und) u) (hb:∀ j,j<n->∃ u,vs[j]?=some u/\RepC γ w (bs.getD j .und) u):(Op.equalIn (d+2) t (.agg us) (.agg vs)).run P w=.ok z w:=by
 rw[Op.equalIn];simp only[Sem.run_bind,run_underlying ht,Result.andThen_ok,sizeOf,typeInfo];simp only[run_program,Result.andThen_ok,qm,Sem.run_pure,hs];rw[Std.Legacy.Range.forIn_eq_forIn_range'];have:=Aqw (d:=d) h1 n 0 as bs z h (fun j hj=>by simpa using ha j hj) (fun j hj=>by simpa using hb j hj);simp[Std.Legacy.Range.size]at this ⊢;rw[this]
 cases z<;>simp
def Adn:Operand->Bool
 | .const _=>true
 | _=>false
def Ame(P:Program)(k:EqK)(t:TypeId)(x y:Operand):Bool:=
 match k,P.underlying t with
 | .bool,some .bool=>true
 | .nilsl,some (.slice _)=>true
 | .nilpt,some (.pointer _)=>true
 | .nilfn,some (.func _ _ _)=>true
 | .nilif,some (.interface _)=>Adn x||Adn y
 | .flat ks,some (.struct fs)=>Wp P fs.toList 0 ks&&(!P.stoodInHeld t&&!P.eqGuardType P.depth t)
 | .flat ks,some (.array n el)=>ks==List.replicate n (ks.headD 1)&&(Sk P el (ks.headD 1)&&((match P.info? el with
  | some fi=>fi.size==1
  | none=>false)&&!P.eqGuardType P.depth t))
 | _,_=>false
def Bdf{k:EqK}{qo:Bool}{t ty:TypeId}{x y:Operand}{s1 s2:S}(ho:o.op=.binOp (if qo then .neq else .eql) t x y ty)(hk:Ame P k t x y=true)(hx:RepV γ w (Ac e s1) (a.eval x))(hy:RepV γ w (Ac e s2) (a.eval y))(hI:Inv G N γ σ w)
  (h:Af (.eq k qo s1 s2) e σ=some (v,σ1)):C3 P G N γ σ w ((execOp a.eval o).run P w) v σ1:=by
 simp only[Af,Ci]at h;obtain⟨z,h,h2⟩:=h
 .cases h2
  have qn:∀ b n c b' n' c',a.eval x=.slice b n c->a.eval y=.slice b' n' c'->(Op.equal t (.slice b n c) (.slice b' n' c')).run P w=.ok z w->C3 P G N γ σ w ((execOp a.eval o).run P w) (.bool (z != qo)) σ:=fun b n c b' n' c' qi qv hr=>by
   refine Cp hI (Zb (z:=z) ho ?_ ?_ ?_ ?_) Pe<;>rw[qi,qv]
   .simp[eqGuard]
   .rfl
   .rfl
   omega
  have qG:∀ b b',a.eval x=.pointer b->a.eval y=.pointer b'->(Op.equal t (.pointer b) (.pointer b')).run P w=.ok z w->C3 P G N γ σ w ((execOp a.eval o).run P w) (.bool (z != qo)) σ:=fun b b' qi qv hr=>by
   refine Cp hI (Zb (z:=z) ho ?_ ?_ ?_ ?_) Pe<;>rw[qi,qv]
   .simp[eqGuard]
   .rfl
   .rfl
   omega
  have kH:∀ {s:S} {X:Value} {i g off len m:Nat} {own:Bool},Ac e s=.sl i g off len m own->RepV γ w (Ac e s) X->∃ ad cap,X=.slice (some ad) len cap:=fun {s X i g off len m own} e1 hX=>by
   rw[e1]at hX;obtain⟨b',o',cap,_,_,hu,_⟩:=We (Bf rfl hX)
   grind
  have kG:∀ {s:S} {X:Value} {i g off:Nat},Ac e s=.ptr i g off->RepV γ w (Ac e s) X->∃ ad,X=.pointer (some ad):=fun {s X i g off} e1 hX=>by
   rw[e1]at hX;obtain⟨b',_,_,hu,_⟩:=Pd (Bf rfl hX)
   grind
  unfold Ame at hk
  split at hk
  .rename_i ht;simp only[Nm]at h;unfold eqB at h
   split at h
   .rename_i p q e1 e2;rw[e1]at hx;rw[e2]at hy;have qi:=Pb (Bf rfl hx);have qv:=Pb (Bf rfl hy);cases h
    refine Cp hI (Zb (z:=p==q) ho ?_ ?_ ?_ ?_) Pe<;>rw[qi,qv]
    .simp[eqGuard]
    .rfl
    .rfl
    grind[A0b]
   grind
  .rename_i el ht;simp only[Nm]at h;unfold Al9 at h
   split at h
   .rename_i e1 e2;rw[e1]at hx;rw[e2]at hy;cases h;exact qn _ _ _ _ _ _ (Me (Bf rfl hx)) (Me (Bf rfl hy)) (Ag0 ht _ _ _ _ _)
   .rename_i e1 e2;rw[e1]at hx;rw[e2]at hy;obtain⟨ad,cap,hu,_⟩:=Tw (Bf rfl hy);cases h;exact qn _ _ _ _ _ _ (Me (Bf rfl hx)) hu (Ag0 ht _ _ _ _ _)
   .rename_i e1 e2;rw[e1]at hx;rw[e2]at hy;obtain⟨ad,cap,hu,_⟩:=Tw (Bf rfl hx);cases h;exact qn _ _ _ _ _ _ hu (Me (Bf rfl hy)) (Ano ht _ _ _ _ _)
   .rename_i e1 e2;obtain⟨ad,cap,hu⟩:=kH e2 hy;rw[e1]at hx;cases h;exact qn _ _ _ _ _ _ (Me (Bf rfl hx)) hu (Ag0 ht _ _ _ _ _)
   .rename_i e1 e2;obtain⟨ad,cap,hu⟩:=kH e1 hx;rw[e2]at hy;cases h;exact qn _ _ _ _ _ _ hu (Me (Bf rfl hy)) (Ano ht _ _ _ _ _)
   grind
  .rename_i el ht;simp only[Nm]at h;unfold Ama at h
   split at h
   .rename_i e1 e2;rw[e1]at hx;rw[e2]at hy;cases h;exact qG _ _ (To (Bf rfl hx)) (To (Bf rfl hy)) (Ag5 ht _)
   .rename_i e1 e2;obtain⟨ad,hu⟩:=kG e2 hy;rw[e1]at hx;cases h;exact qG _ _ (To (Bf rfl hx)) hu (Ag5 ht _)
   .rename_i e1 e2;obtain⟨ad,hu⟩:=kG e1 hx;rw[e2]at hy;cases h;exact qG _ _ hu (To (Bf rfl hy)) (Anp ht _)
   .rename_i e1 e2;rw[e1]at hx;rw[e2]at hy;obtain⟨_,_,_,_,hu,_⟩:=Mz (Bf rfl hy);cases h;exact qG _ _ (To (Bf rfl hx)) hu (Ag5 ht _)
   .rename_i e1 e2;rw[e1]at hx;rw[e2]at hy;obtain⟨_,_,_,_,hu,_⟩:=Mz (Bf rfl hx);cases h;exact qG _ _ hu (To (Bf rfl hy)) (Anp ht _)
   grind
  .rename_i ps rs va ht;have kV:∀ d,(Op.equalIn (d+1) t .nilFunc .nilFunc).run P w=.ok true w:=fun d=>by simp[Op.equalIn,run_underlying ht]
   have jP:∀ d f p q,(Op.equalIn (d+1) t (.func f p q) .nilFunc).run P w=.ok false w:=fun d f p q=>by simp[Op.equalIn,run_underlying ht]
   have jQ:∀ d f p q,(Op.equalIn (d+1) t .nilFunc (.func f p q)).run P w=.ok false w:=fun d f p q=>by simp[Op.equalIn,run_underlying ht]
   have qS:∀ X Y,a.eval x=X->a.eval y=Y->(eqGuard (if qo then .neq else .eql) t x y X Y).run P w=.ok () w->(binOp .eql t X Y)=(do pure (.bool (<-Op.equal t X Y)))->(binOp .neq t X Y)=(do pure (.bool (!(<-Op.equal t X Y))))->(Op.equal t X Y).run P w=.ok z w->C3 P G N γ σ w ((execOp a.eval o).run P w) (.bool (z != qo)) σ:=fun X Y qi qv q1 q2 q3 q4=>by
    subst qi qv;exact Cp hI (Zb (z:=z) ho q1 q2 q3 q4) Pe
   simp only[Nm]at h;unfold Amb at h
   split at h
   .rename_i e1 e2;rw[e1]at hx;rw[e2]at hy;cases h;exact qS _ _ (Acm (Bf rfl hx)) (Acm (Bf rfl hy)) (by simp[eqGuard]) rfl rfl (kV 9999)
   .rename_i e1 e2;rw[e1]at hx;rw[e2]at hy;obtain⟨ua,uc,hu,_⟩:=Ai9 (Bf rfl hx);cases h;exact qS _ _ hu (Acm (Bf rfl hy)) (by simp[eqGuard]) rfl rfl (jP 9999 _ _ _)
   .rename_i e1 e2;rw[e1]at hx;rw[e2]at hy;obtain⟨ua,uc,hu,_⟩:=Ai9 (Bf rfl hy);cases h;exact qS _ _ (Acm (Bf rfl hx)) hu (by simp[eqGuard]) rfl rfl (jQ 9999 _ _ _)
   grind
  .rename_i ms ht;have jS:∀ d,(Op.equalIn (d+1) t .nilIface .nilIface).run P w=.ok true w:=fun d=>by simp[Op.equalIn,run_underlying ht]
   have jT:∀ d f p,(Op.equalIn (d+1) t (.iface f p) .nilIface).run P w=.ok false w:=fun d f p=>by simp[Op.equalIn,run_underlying ht]
   have jU:∀ d f p,(Op.equalIn (d+1) t .nilIface (.iface f p)).run P w=.ok false w:=fun d f p=>by simp[Op.equalIn,run_underlying ht]
   have qS:∀ X Y,a.eval x=X->a.eval y=Y->(eqGuard (if qo then .neq else .eql) t x y X Y).run P w=.ok () w->(binOp .eql t X Y)=(do pure (.bool (<-Op.equal t X Y)))->(binOp .neq t X Y)=(do pure (.bool (!(<-Op.equal t X Y))))->(Op.equal t X Y).run P w=.ok z w->C3 P G N γ σ w ((execOp a.eval o).run P w) (.bool (z != qo)) σ:=fun X Y qi qv q1 q2 q3 q4=>by
    subst qi qv;exact Cp hI (Zb (z:=z) ho q1 q2 q3 q4) Pe
   have qU:(eqGuard (if qo then .neq else .eql) t x y .nilIface .nilIface).run P w=.ok () w:=by
    simp only[Nx]at hk;rcases hk with hk | hk
    .cases x<;>simp[Adn]at hk
     simp[eqGuard]
    .cases y<;>simp[Adn]at hk
     simp[eqGuard]
   simp only[Nm]at h;unfold Amc at h
   split at h
   .rename_i e1 e2;rw[e1]at hx;rw[e2]at hy;cases h;exact qS _ _ (Acl (Bf rfl hx)) (Acl (Bf rfl hy)) qU rfl rfl (jS 9999)
   .rename_i e1 e2;rw[e1]at hx;rw[e2]at hy;obtain⟨ut,ux,hu⟩:=Aij (Bf rfl hx);cases h;exact qS _ _ hu (Acl (Bf rfl hy)) (by simp[eqGuard]) rfl rfl (jT 9999 _ _)
   .rename_i e1 e2;rw[e1]at hx;rw[e2]at hy;obtain⟨ut,ux,hu⟩:=Aij (Bf rfl hy);cases h;exact qS _ _ (Acl (Bf rfl hx)) hu (by simp[eqGuard]) rfl rfl (jU 9999 _ _)
   grind
  .rename_i ks fs ht;simp only[Al,Rh]at hk;obtain⟨jW,jB,jX⟩:=hk;simp only[Nm]at h;unfold Aaw at h
   split at h
   .rename_i as bs e1 e2;rw[e1]at hx;rw[e2]at hy;obtain⟨us,hu,vv,vw⟩:=Rq hx;obtain⟨vs,hv,vx,vy⟩:=Rq hy
    split at h
    .rename_i qp;have kW:P.fieldsOf t=fs:=by simp[Program.fieldsOf,ht]
     have hf:=Apb (P:=P) (γ:=γ) (w:=w) (d:=9998) (us:=us.toArray) (vs:=vs.toArray) jW h (fun j hj=>by
      grind) (fun j hj=>by
      grind)
     have hE:=run_equalIn_struct (P:=P) w 9999 t us.toArray vs.toArray (by grind) jB;rw[kW,hf]at hE;have hg:=run_eqGuard_agg (P:=P) w (if qo then .neq else .eql) t x y us.toArray vs.toArray jX;refine Cp hI (u:=.bool (z != qo)) ?_ Pe;cases qo
     .simp_all [execOp,run_eql_struct]
     simp_all [execOp,run_neq_struct]
    grind
   grind
  .rename_i ks n el ht;simp only[Al,Rh,beq_iff_eq]at hk;obtain⟨kw,jW,jB,jX⟩:=hk
   split at jB
   .rename_i fi qm;have hs:fi.size=1:=eq_of_beq jB;simp only[Nm]at h;unfold Aaw at h
    split at h
    .rename_i as bs e1 e2;rw[e1]at hx;rw[e2]at hy;obtain⟨us,hu,vv,vw⟩:=Rq hx;obtain⟨vs,hv,vx,vy⟩:=Rq hy
     split at h
     .rename_i qp;have hn:ks.length=n:=by rw[kw,Abk]
      rw[kw]at h
      have hE:=Bde (P:=P) (γ:=γ) (w:=w) (d:=9998) (us:=us.toArray) (vs:=vs.toArray) ht qm hs jW h (fun j hj=>by
       grind) (fun j hj=>by
       grind)
      have hg:=run_eqGuard_agg (P:=P) w (if qo then .neq else .eql) t x y us.toArray vs.toArray jX;refine Cp hI (u:=.bool (z != qo)) ?_ Pe;cases qo
      .simp only[Hz,if_false]at ho hg;simp[execOp,ho,hu,hv,hg,run_eql_struct,hE]
      .simp only[if_true]at ho hg;simp[execOp,ho,hu,hv,hg,run_neq_struct,hE]
     grind
    grind
   grind
  grind
open Go Go.RowKit
variable {P:Program} {G:List (Nat × List V)} {N:Nat} {γ:Gh} {σ σ1:St} {w:World} {e:Env} {a:Act} {o:Oper} {v:V}
def A86{t:TypeId}(ho:o.op=.makeMap t none)(hI:Inv G N γ σ w)(h:Af .mmk e σ=some (v,σ1)):C3 P G N γ σ w ((execOp a.eval o).run P w) v σ1:=by
 simp only[Af]at h;cases h;obtain⟨i1,i2⟩:=hI.newMap;refine⟨.map (some w.heap.size),_,_,.inl ?_,Df (.mp (g':=0) ?_ rfl (fun _=>rfl)),i1,i2,Ahi hI.base,fun _ _=>rfl⟩
 .simp_all [execOp,Instr.makeMap]
 .show(γ.O++[(w.heap.size,0)])[σ.length]?=_;rw[<-hI.len];simp
def Aim{s:List UInt8}:∀ {kvs:List (List UInt8 × V)} {es:List MapEntry} {i:Nat},es.length=kvs.length->(∀ (j:Nat) (k:List UInt8) (v:V),kvs[j]?=some (k,v)->∃ en:MapEntry,es[j]?=some en/\en.key=.string ⟨k.toArray⟩/\RepC γ w v en.val) ->
  (H5 s kvs i=none/\Instr.findNow .string (.string ⟨s.toArray⟩) es i=some none)\/∃ j v en,H5 s kvs i=some (i+j,v)/\kvs[j]?=some (s,v)/\es[j]?=some en/\Instr.findNow .string (.string ⟨s.toArray⟩) es i=some (some (i+j,en.val))/\RepC γ w v en.val
 | [],[],i,_,_=>.inl ⟨rfl,rfl⟩
 | [],_::_,_,h,_=>by simp at h
 | _::_,[],_,h,_=>by simp at h
 | (k,v)::kvs,en::es,i,hl,hr=>by
  obtain⟨km,h1,h2,h3⟩:=hr 0 k v rfl;simp at h1;subst h1
  have hb:((⟨s.toArray⟩:ByteArray)==⟨k.toArray⟩)=(s==k):=by
   rw[beq_toListBytes,ByteArray.toList_eq,ByteArray.toList_eq]
  by_cases hk:k=s
  .subst hk;refine .inr ⟨0,v,en,by simp[H5],rfl,rfl,?_,h3⟩
   simp_all [Instr.findNow,Instr.sameNow]
  .have vd:(s==k)=false:=by simpa using fun h=>hk h.symm
   have ih:=Aim (s:=s) (kvs:=kvs) (es:=es) (i:=i+1) (by grind) (fun j k' v' hj=>by simpa using hr (j+1) k' v' (by grind));have hf:H5 s ((k,v)::kvs) i=H5 s kvs (i+1):=by simp[H5,hk]
   have hn:Instr.findNow .string (.string ⟨s.toArray⟩) (en::es) i=Instr.findNow .string (.string ⟨s.toArray⟩) es (i+1):=by
    simp only[Instr.findNow,h2,Instr.sameNow,hb,vd]
   rw[hf,hn];rcases ih with⟨a1,a2⟩ | ⟨j,v',km,a1,a2,a3,a4,a5⟩
   .grind
   .refine .inr ⟨j+1,v',km,?_,by grind,by grind,?_,a5⟩
    .grind
    grind
def Ac2{v:V}{u:Value}(hf:v.flatB=true)(h:RepC γ w v u)(γ':Gh)(w':World):RepC γ' w' v u:=by
 cases h with
 | row h=>cases h with
  | bool=>exact .row .bool
  | int=>exact .row .int
  | str h=>exact .row (.str h)
  | nili=>exact .row .nili
  | ifc=>exact .row .ifc
  | nils=>exact .row .nils
  | lst=>cases hf
 | nilp=>exact .nilp
 | nilf=>exact .nilf
 | ifc=>exact .ifc
 | imm=>cases hf
 | ptr=>cases hf
 | sl=>cases hf
 | fn=>cases hf
 | mp=>cases hf
def Ab6{kt:TypeId}{k:Value}{l:List MapEntry}{r:Option (Nat × Value)}(hd:P.underlying kt=some .string)(h:Instr.findNow .string k l 0=some r):(Instr.findKey kt k l).run P w=.ok r w:=by
 simp_all [Instr.findKey,run_underlying]
def Xc(w:World)(r:Nat)(o:Obj):World:={ w with heap:=w.heap.setIfInBounds r o }
def Aod{r:Nat}{es:Array MapEntry}{jc:Nat}(o:Obj)(hb:w.heap[r]?=some (.map es jc)):(setObj r o).run P w=.ok () (Xc w r o):=by
 grind[setObj,Sem.run,Xc]
def A87{t kt et:TypeId}{fi:TypeInfo}{z:Value}{zv:V}{x y:Operand}{s1 s2:S}(ho:o.op=.lookup t x y false)(ht:P.underlying t=some (.map kt et))(hk:P.underlying kt=some .string)(qm:P.info? et=some fi)(hz:fi.zero=some z)(hc:Oi zv z=true)
  (hx:RepV γ w (Ac e s1) (a.eval x)) (hy:RepV γ w (Ac e s2) (a.eval y)) (hI:Inv G N γ σ w) (h:Af (.mlk zv s1 s2) e σ=some (v,σ1)):C3 P G N γ σ w ((execOp a.eval o).run P w) v σ1:=by
 simp only[Af]at h
 split at h
 .rename_i i s e1 e2;rw[e1]at hx;rw[e2]at hy;obtain⟨qv,_⟩:=G7 (Bf rfl hy);obtain⟨blk,g',hO,hu⟩:=Atd (Bf rfl hx)
  split at h
  .rename_i kvs jk;cases h;obtain⟨jR,_,es,hh,kS,jj⟩:=hI.obj i _ _ jk hO;have qi:=hu jR;have hh:w.heap[blk]?=some (.map es kvs.length):=hh
   have qB:∀ b,(Instr.checkKey b 10000 kt (.string ⟨s.toArray⟩)).run P w=.ok () w:=fun b=>by
    have:∀ d,(Instr.checkKey b (d+1) kt (.string ⟨s.toArray⟩)).run P w=.ok () w:=fun d=>by simp[Instr.checkKey,run_underlying hk]
    grind
   rcases Aim (γ:=γ) (w:=w) (s:=s) (kvs:=kvs) (es:=es.toList) (i:=0) AA (fun j k v hj=>by
    grind) with⟨f1,f2⟩ | ⟨j,v',en,f1,f2,f3,f4,f5⟩
   .have hf:=Ab6 (P:=P) (w:=w) hk f2;rw[f1];refine Cp hI (u:=z) ?_ (Df (Acc hc));simp[execOp,ho,qi,qv,Instr.lookup,run_underlying ht,getObj,Sem.run,hh];simp[qB,hf,zeroValue,typeInfo,qm,hz]
   .have hf:=Ab6 (P:=P) (w:=w) hk f4;rw[f1];refine Cp hI (u:=en.val) ?_ (Df f5);simp[execOp,ho,qi,qv,Instr.lookup,run_underlying ht,getObj,Sem.run,hh];simp[qB,hf]
  grind
 grind
def A88{t kt et:TypeId}{x y z:Operand}{s1 s2 s3:S}(ho:o.op=.mapUpdate t x y z)(ht:P.underlying t=some (.map kt et))(hk:P.underlying kt=some .string)
  (hx:RepV γ w (Ac e s1) (a.eval x)) (hy:RepV γ w (Ac e s2) (a.eval y)) (hz:RepV γ w (Ac e s3) (a.eval z)) (hI:Inv G N γ σ w) (h:Af (.mup s1 s2 s3) e σ=some (v,σ1)):C3 P G N γ σ w ((execOp a.eval o).run P w) v σ1:=by
 simp only[Af]at h
 split at h
 .rename_i i s e1 e2;rw[e1]at hx;rw[e2]at hy;obtain⟨qv,vu⟩:=G7 (Bf rfl hy);obtain⟨blk,g',hO,hu⟩:=Atd (Bf rfl hx)
  split at h
  .rename_i kvs jk
   split at h
   .rename_i qM
    cases h;have vA:RepC γ w (Ac e s3) (a.eval z):=Bf (by revert qM;cases Ac e s3<;>simp[V.flatB,V.cellB]) hz;obtain⟨jR,_,es,hh,kS,jj⟩:=hI.obj i _ _ jk hO;have qi:=hu jR;have hh:w.heap[blk]?=some (.map es kvs.length):=hh;have qx:blk<w.heap.size:=(Array.getElem?_eq_some_iff.1 hh).1
    have qB:∀ b,(Instr.checkKey b 10000 kt (.string ⟨s.toArray⟩)).run P w=.ok () w:=fun b=>by
     have:∀ d,(Instr.checkKey b (d+1) kt (.string ⟨s.toArray⟩)).run P w=.ok () w:=fun d=>by simp[Instr.checkKey,run_underlying hk]
     grind
    have jv:∀ ob,(Xc w blk ob).heap.size=w.heap.size/\(∀ b,b≠blk->(Xc w blk ob).heap[b]?=w.heap[b]?)/\(Xc w blk ob).heap[blk]?=some ob:=fun ob=>by
     simp_all [Xc,Ne.symm]
    rcases Aim (γ:=γ) (w:=w) (s:=s) (kvs:=kvs) (es:=es.toList) (i:=0) AA (fun j k v hj=>by
     grind) with⟨f1,f2⟩ | ⟨j,v',en,f1,f2,f3,f4,f5⟩
    .have hf:=Ab6 (P:=P) (w:=w) hk f2;rw[f1];obtain⟨q1,q2,q3⟩:=jv (.map (es.push { key:=.string ⟨s.toArray⟩,val:=a.eval z,born:=kvs.length }) (kvs.length+1))
     obtain⟨i1,i2⟩:=hI.turnMap (kvs':=kvs++[(s,Ac e s3)]) (es':=es.push { key:=.string ⟨s.toArray⟩,val:=a.eval z,born:=kvs.length }) hO jk q1 q2 (by grind) (by grind) (fun j k v hj=>by
      by_cases qN:j<kvs.length
      .grind
      .rw[Fk AA]at hj
       have kZ:j=kvs.length:=by
        have:=(An.1 hj).1;simp at this;omega
       subst kZ;simp at hj;obtain⟨rfl,rfl⟩:=hj
       exact⟨{ key:=.string ⟨s.toArray⟩,val:=a.eval z,born:=kvs.length },by grind,rfl,vu,rfl,qM,vA⟩)
     refine⟨undef,_,γ,.inr ⟨?_,rfl⟩,.und,i1,i2,⟨rfl,rfl,rfl,by omega,fun k hk=>q2 k (by have:=hI.low i _ hO;omega)⟩,fun _ _=>rfl⟩;simp[execOp,ho,qi,qv,Instr.mapUpdate,run_underlying ht,getObj,Sem.run,hh];simp[qB,hf,Aod _ hh]
    .have hf:=Ab6 (P:=P) (w:=w) hk f4;rw[f1];have jV:j<kvs.length:=(An.1 f2).1;obtain⟨kn,b1,b2,b3,b4,b5,b6⟩:=jj j s v' f2
     have kQ:kn=en:=by
      have:es.toList[j]?=some kn:=by simpa using b1
      rw[f3]at this;cases this;rfl
     subst kQ;obtain⟨q1,q2,q3⟩:=jv (.map (es.modify j fun en=>{ en with key:=.string ⟨s.toArray⟩,val:=a.eval z }) kvs.length)
     obtain⟨i1,i2⟩:=hI.turnMap (kvs':=kvs.set j (s,Ac e s3)) (es':=es.modify j fun en=>{ en with key:=.string ⟨s.toArray⟩,val:=a.eval z }) hO jk q1 q2 (by grind) (by grind) (fun j' k v hj=>by
      grind)
     have f0:0+j=j:=Gw j;rw[f0]at hf;simp only[f0];refine⟨undef,_,γ,.inr ⟨?_,rfl⟩,.und,i1,i2,⟨rfl,rfl,rfl,by omega,fun k hk=>q2 k (by have:=hI.low i _ hO;omega)⟩,fun _ _=>rfl⟩
     have jY:(Instr.keyThatStays (((es[j]?).map (·.key)).getD (.string ⟨s.toArray⟩)) (.string ⟨s.toArray⟩)).run P w=.ok (.string ⟨s.toArray⟩) w:=by
      rw[b1]
      have ju:Instr.sameBits 10000 (.string ⟨s.toArray⟩) (.string ⟨s.toArray⟩)=true:=by
       rw[Instr.sameBits];rw[beq_toListBytes];simp
      simp[b2,Instr.keyThatStays,ju]
     simp[execOp,ho,qi,qv,Instr.mapUpdate,run_underlying ht,getObj,Sem.run,hh];simp[qB,hf,jY,Aod _ hh]
   grind
  grind
 grind
open Go Go.RowKit
variable {P:Program} {G:List (Nat × List V)} {N:Nat} {γ:Gh} {σ σ1:St} {w:World} {e:Env} {a:Act} {o:Oper} {v:V}
/-! The check -/
def Sc(P:Program)(zs:List V)(t:TypeId):Bool:=
 match P.info? t with
 | some i=>match i.zero with
  | some z=>Iv zs z.cells.toList
  | none=>false
 | none=>false
def K6(P:Program)(t:TypeId)(n:Nat):Bool:=match P.info? t with
 | some i=>i.size==n
 | none=>false
def Vq{zs:List V}{t:TypeId}(h:Sc P zs t=true):∃ fi z,P.info? t=some fi/\fi.zero=some z/\Iv zs z.cells.toList=true:=by
 grind[Sc]
def Md{t:TypeId}{n:Nat}(h:K6 P t n=true):∃ fi,P.info? t=some fi/\fi.size=n:=by
 unfold K6 at h
 grind
def Xd(G:List (Nat × List V))(qf:List (Nat × Nat)):List (Nat × Nat × S)->List (Nat × Operand)->Bool
 | [],[]=>true
 | p::ps,q::qs=>(match qf[q.1]? with
   | some (o,n)=>o==p.1&&n==p.2.1
   | none=>false)&&(B9 G p.2.2 q.2&&Xd G qf ps qs)
 | _,_=>false
def S6(G:List (Nat × List V)):List (Nat × S)->List (Nat × Operand)->Bool
 | [],[]=>true
 | p::ps,q::qs=>p.1==q.1&&(B9 G p.2 q.2&&S6 G ps qs)
 | _,_=>false
def Aqx{qf:List (Nat × Nat)}:∀ {ps:List (Nat × Nat × S)} {qs:List (Nat × Operand)},Xd G qf ps qs=true->ps.length=qs.length/\∀ (i:Nat) (p:Nat × Nat × S) (q:Nat × Operand),ps[i]?=some p->qs[i]?=some q->qf[q.1]?=some (p.1,p.2.1)/\B9 G p.2.2 q.2=true
 | [],[],_=>⟨rfl,fun i p q h=>by simp at h⟩
 | p::ps,q::qs,h=>by
  simp only[Xd,Al]at h;obtain⟨h1,h2,h3⟩:=h;obtain⟨l,g⟩:=Aqx h3
  grind
 | [],_::_,h=>by grind[Xd]
 | _::_,[],h=>by grind[Xd]
def Ac3:∀ {ps:List (Nat × S)} {qs:List (Nat × Operand)},S6 G ps qs=true->ps.length=qs.length/\∀ (i:Nat) (p:Nat × S) (q:Nat × Operand),ps[i]?=some p->qs[i]?=some q->p.1=q.1/\B9 G p.2 q.2=true
 | [],[],_=>⟨rfl,fun i p q h=>by simp at h⟩
 | p::ps,q::qs,h=>by
  simp only[S6,Al,beq_iff_eq]at h;obtain⟨h1,h2,h3⟩:=h;obtain⟨l,g⟩:=Ac3 h3
  grind
 | [],_::_,h=>by grind[S6]
 | _::_,[],h=>by grind[S6]
def E6(P:Program)(t:TypeId)(f:TypeDesc->Bool):Bool:=match P.underlying t with
 | some d=>f d
 | none=>false
def Fo{t:TypeId}{f:TypeDesc->Bool}(h:E6 P t f=true):∃ d,P.underlying t=some d/\f d=true:=by
 grind[E6]
def Nc:TypeDesc->Bool
 | .string=>true
 | _=>false
def Axm(k:IntKind):TypeDesc->Bool
 | .int k'=>decide (k=k')
 | _=>false
def Xe(G:List (Nat × List V))(m:Nat):List (Nat × Nat × S)->List (Nat × Operand)->Bool
 | [],[]=>true
 | p::ps,q::qs=>q.1*m==p.1&&(m==p.2.1&&(B9 G p.2.2 q.2&&Xe G m ps qs))
 | _,_=>false
def Aqy{m:Nat}:∀ {ps:List (Nat × Nat × S)} {qs:List (Nat × Operand)},Xe G m ps qs=true->ps.length=qs.length/\∀ (i:Nat) (p:Nat × Nat × S) (q:Nat × Operand),ps[i]?=some p->qs[i]?=some q->(q.1*m,m)=(p.1,p.2.1)/\B9 G p.2.2 q.2=true
 | [],[],_=>⟨rfl,fun i p q h=>by simp at h⟩
 | p::ps,q::qs,h=>by
  simp only[Xe,Al,beq_iff_eq]at h;obtain⟨h1,h2,h3,h4⟩:=h;obtain⟨l,g⟩:=Aqy h4
  grind
 | [],_::_,h=>by grind[Xe]
 | _::_,[],h=>by grind[Xe]
def Px(G:List (Nat × List V)):List S->List Operand->Bool
 | [],[]=>true
 | s::ss,x::xs=>B9 G s x&&Px G ss xs
 | _,_=>false
theorem Aqz(hE:RepE γ w e a.tmps)(hI:Inv G N γ σ w):∀ {ss:List S} {xs:List Operand},Px G ss xs=true->ss.length=xs.length/\∀ (i:Nat) s x,ss[i]?=some s->xs[i]?=some x->RepV γ w (Ac e s) (a.eval x)
 | [],[],_=>⟨rfl,fun i s x h=>by simp at h⟩
 | s::ss,x::xs,h=>by
  simp only[Px,Al]at h;obtain⟨l,g⟩:=Aqz hE hI h.2
  grind[Y8]
 | [],_::_,h=>by grind[Px]
 | _::_,[],h=>by grind[Px]
def Afe(P:Program)(f:TypeId->TypeId->Bool):TypeDesc->Bool
 | .map k e=>f k e
 | _=>false
def Ajc(P:Program)(z:V)(t:TypeId):Bool:=match P.info? t with
 | some i=>match i.zero with
  | some u=>Oi z u
  | none=>false
 | none=>false
def A0f{z:V}{t:TypeId}(h:Ajc P z t=true):∃ fi u,P.info? t=some fi/\fi.zero=some u/\Oi z u=true:=by
 grind[Ajc]
def Atk(P:Program)(G:List (Nat × List V))(zs:List V)(ps:List (Nat × Nat × S))(t:TypeId)(qh:List (Nat × Operand)):TypeDesc->Bool
 | .struct fs=>match fs.toList.mapM (fun f=>(P.info? f.type).map fun i=>(f.offset,i.size)) with
  | some qf=>Xd G qf ps qh
  | none=>false
 | .array _ el=>match P.info? el with
  | some fe=>Xe G fe.size ps qh
  | none=>false
 | _=>false
def Axn(P:Program)(off i:Nat):TypeDesc->Bool
 | .struct fs=>match fs[i]? with
  | some f=>f.offset==off&&(match P.info? f.type with
   | some fi=>fi.size != 0
   | none=>false)
  | none=>false
 | _=>false
def Axo(P:Program)(off n:Nat)(one:Bool)(i:Nat):TypeDesc->Bool
 | .struct fs=>match fs[i]? with
  | some f=>f.offset==off&&(K6 P f.type n&&E6 P f.type (fun d=>Ox d==!one))
  | none=>false
 | _=>false
def Axp(P:Program)(len m:Nat)(one:Bool):TypeDesc->Bool
 | .array len' el=>len==len'&&(K6 P el m&&E6 P el (fun d=>Ox d==!one))
 | _=>false
def I4(P:Program)(f:TypeId->Bool):TypeDesc->Bool
 | .slice el=>f el
 | _=>false
def Af0(P:Program)(bytes m:Nat)(el:TypeId):Bool:=match P.info? el with
 | some fi=>fi.size==m&&(fi.bytes==bytes&&(decide (0<m)&&(decide (0<bytes)&&(match fi.zero with
  | some z=>z.cells.size==m
  | none=>false))))
 | none=>false
def Xf(P:Program)(G:List (Nat × List V))(ao:AO)(op:Op):Bool:=
 match ao,op with
 | .mov s,.move x=>B9 G s x
 | .mov s,.assign x=>B9 G s x
 | .pick s1 s2 s3,.pick x y z=>B9 G s1 x&&(B9 G s2 y&&B9 G s3 z)
 | .new t' zs,.alloc t=>t'==t&&Sc P zs t
 | .box t' s,.box t x=>t'==t&&B9 G s x
 | .build zs ps,.build t qh=>Sc P zs t&&E6 P t (Atk P G zs ps t qh.toList)
 | .rows n zs ps,.buildSlice t n' qh=>n==n'&&(E6 P t (I4 P fun el=>Sc P zs el&&K6 P el zs.length)&&(decide (0<zs.length)&&(decide (n*zs.length<=16777216)&&S6 G ps qh.toList)))
 | .rowf n zs ps,.buildSlice t n' qh=>n==n'&&(E6 P t (I4 P fun el=>Sc P zs el&&K6 P el zs.length)&&(decide (0<zs.length)&&(decide (n*zs.length<=16777216)&&S6 G ps qh.toList)))
 | .rowo el' n zs ps,.buildSlice t n' qh=>n==n'&&(E6 P t (I4 P fun el=>el'==el&&(Sc P zs el&&K6 P el zs.length))&&(decide (0<zs.length)&&(decide (n*zs.length<=16777216)&&S6 G ps qh.toList)))
 | .mk el' bytes zs s1 s2,.makeSlice t x y=>B9 G s1 x&&(B9 G s2 y&&(decide (0<zs.length)&&E6 P t (I4 P fun el=>el'==el&&(Sc P zs el&&(K6 P el zs.length&&(match P.info? el with
  | some fi=>fi.bytes==bytes&&decide (0<bytes)
  | none=>false))))))
 | .load n one s,.load t x=>B9 G s x&&(K6 P t n&&E6 P t (fun d=>Ox d==!one))
 | .store n s1 s2,.store t x y=>B9 G s1 x&&(B9 G s2 y&&K6 P t n)
 | .chk s,.nilCheck x=>B9 G s x
 | .bin b s1 s2,.binOp b' _ x y _=>decide (b=b')&&(B9 G s1 x&&B9 G s2 y)
 | .eq k qo s1 s2,.binOp b' t x y _=>decide (b'=(if qo then BinOp.neq else BinOp.eql))&&(Ame P k t x y&&(B9 G s1 x&&B9 G s2 y))
 | .un b s,.unOp b' _ x=>decide (b=b')&&B9 G s x
 | .cvi k s,.convert t1 t2 x=>B9 G s x&&((P.underlying t1).isSome&&E6 P t2 (Axm k))
 | .slcs s lo hi,.slice t x lo' qC mx=>mx.isNone&&(B9 G s x&&(I3 G lo lo'&&(I3 G hi qC&&E6 P t Nc)))
 | .slc m s lo hi mx,.slice t x lo' qC mx'=>B9 G s x&&(I3 G lo lo'&&(I3 G hi qC&&(I3 G mx mx'&&((!mx.isSome||hi.isSome)&&(m != 0&&E6 P t (I4 P fun el=>K6 P el m))))))
 | .slca len m s lo hi,.slice t x lo' qC mx=>mx.isNone&&(B9 G s x&&(I3 G lo lo'&&(I3 G hi qC&&(decide (len<=16777216)&&E6 P t (fun d=>match d with
  | .array l el=>l==len&&K6 P el m
  | _=>false)))))
 | .mmk,.makeMap _ none=>true
 | .mlk z s1 s2,.lookup t x y false=>B9 G s1 x&&(B9 G s2 y&&E6 P t (Afe P fun k el=>E6 P k Nc&&Ajc P z el))
 | .mup s1 s2 s3,.mapUpdate t x y z=>B9 G s1 x&&(B9 G s2 y&&(B9 G s3 z&&E6 P t (Afe P fun k _=>E6 P k Nc)))
 | .fld off n one s,.field t x i=>B9 G s x&&E6 P t (Axo P off n one i)
 | .ida len m one s1 s2,.index t x y=>B9 G s1 x&&(B9 G s2 y&&E6 P t (Axp P len m one))
 | .fad off s,.fieldAddr t x i=>B9 G s x&&E6 P t (Axn P off i)
 | .iad m s1 s2,.indexAddr t x y=>B9 G s1 x&&(B9 G s2 y&&E6 P t (I4 P fun el=>K6 P el m))
 | .iar len m s1 s2,.indexAddr t x y=>B9 G s1 x&&(B9 G s2 y&&E6 P t (fun d=>match d with
  | .array l el=>l==len&&K6 P el m
  | _=>false))
 | .idx s1 s2,.index t x y=>B9 G s1 x&&(B9 G s2 y&&E6 P t Nc)
 | .ext i s,.extract x i'=>i==i'&&B9 G s x
 | .len s,.call { callee:=.builtin .len,args,argTypes }=>match args.toList,argTypes.toList with
  | [x],[t]=>B9 G s x&&E6 P t (I4 P fun _=>true)
  | _,_=>false
 | .lens s,.call { callee:=.builtin .len,args,argTypes }=>match args.toList,argTypes.toList with
  | [x],[t]=>B9 G s x&&E6 P t Nc
  | _,_=>false
 | .app bytes m s1 s2,.call { callee:=.builtin .append,args,argTypes }=>match args.toList,argTypes.toList with
  | [x,y],[t,u]=>t==u&&(B9 G s1 x&&(B9 G s2 y&&E6 P t (I4 P fun el=>el==m.2&&Af0 P bytes m.1 el)))
  | _,_=>false
 | .apps ty s1 s2,.call { callee:=.builtin .append,args,argTypes }=>match args.toList,argTypes.toList with
  | [x,y],[t,u]=>B9 G s1 x&&(B9 G s2 y&&(E6 P t (I4 P fun el=>el==ty&&Af0 P 1 1 el)&&E6 P u Nc))
  | _,_=>false
 | .mx s1 s2,.call { callee:=.builtin .max,args,.. }=>match args.toList with
  | [x,y]=>B9 G s1 x&&B9 G s2 y
  | _=>false
 | .mn s1 s2,.call { callee:=.builtin .min,args,.. }=>match args.toList with
  | [x,y]=>B9 G s1 x&&B9 G s2 y
  | _=>false
 | _,_=>false
def Pk{α:Type}{xs:Array α}{l:List α}(h:xs.toList=l):xs=l.toArray:=by grind
def Apc{bytes m:Nat}{el:TypeId}(h:Af0 P bytes m el=true):∃ fi z,P.info? el=some fi/\fi.size=m/\fi.bytes=bytes/\0<m/\0<bytes/\fi.zero=some z/\z.cells.size=m:=by
 unfold Af0 at h
 grind
def Bhv{ao:AO}(qa:Xf P G ao o.op=true)(hE:RepE γ w e a.tmps)(hI:Inv G N γ σ w)(h:Af ao e σ=some (v,σ1)):C3 P G N γ σ w ((execOp a.eval o).run P w) v σ1:=by
 have R:=fun {s:S} {x:Operand} (h:B9 G s x=true)=>Y8 (a:=a) h hE hI
 generalize ho:o.op=op at qa;unfold Xf at qa
 split at qa
 .-- move
  simp only[Af]at h;cases h;exact Cp hI (by simp[execOp,ho]) (R qa)
 .simp only[Af]at h;cases h;exact Cp hI (by simp[execOp,ho]) (R qa)
 .simp only[Al]at qa;exact A42 ho (R qa.1) (R qa.2.1) (R qa.2.2) hI h
 .simp only[Al,beq_iff_eq]at qa;obtain⟨rfl,qa⟩:=qa;obtain⟨fi,z,h1,h2,h3⟩:=Vq qa;exact A8z ho h1 h2 h3 hI h
 .simp only[Al,beq_iff_eq]at qa;obtain⟨rfl,qa⟩:=qa;exact A80 ho (R qa) hI h
 .simp only[Al]at qa;obtain⟨fi,z,h1,h2,h3⟩:=Vq qa.1;obtain⟨d,hd,hb⟩:=Fo qa.2;unfold Atk at hb
  split at hb
  .split at hb
   .rename_i qf vm;obtain⟨l,g⟩:=Aqx hb
    exact A2h ho hd h1 h2 h3 vm (by simpa using l) (fun i p q hp hq=>by
     obtain⟨g1,g2⟩:=g i p q hp (by simpa using hq)
     exact⟨g1,R g2⟩) hI h
   .cases hb
  .split at hb
   .rename_i fe kU;obtain⟨l,g⟩:=Aqy hb
    exact A05 ho hd h1 h2 h3 kU (by simpa using l) (fun i p q hp hq=>by
     obtain⟨g1,g2⟩:=g i p q hp (by simpa using hq)
     exact⟨g1,R g2⟩) hI h
   .cases hb
  .cases hb
 .simp only[Al,beq_iff_eq,decide_eq_true_eq]at qa;obtain⟨rfl,hd,hm,hb,hr⟩:=qa;obtain⟨d,hd,hs⟩:=Fo hd;unfold I4 at hs
  split at hs
  .simp only[Al]at hs;obtain⟨fi,z,h1,h2,h3⟩:=Vq hs.1;obtain⟨jE,qA,h4⟩:=Md hs.2;rw[h1]at qA;cases qA;obtain⟨l,g⟩:=Ac3 hr
   exact A47 ho hd h1 h2 h3 h4 hm hb (by simpa using l) (fun i p q hp hq=>by
    obtain⟨g1,g2⟩:=g i p q hp (by simpa using hq)
    exact⟨g1,R g2⟩) hI h
  .cases hs
 .simp only[Al,beq_iff_eq,decide_eq_true_eq]at qa;obtain⟨rfl,hd,hm,hb,hr⟩:=qa;obtain⟨d,hd,hs⟩:=Fo hd;unfold I4 at hs
  split at hs
  .simp only[Al]at hs;obtain⟨fi,z,h1,h2,h3⟩:=Vq hs.1;obtain⟨jE,qA,h4⟩:=Md hs.2;rw[h1]at qA;cases qA;obtain⟨l,g⟩:=Ac3 hr
   exact A46 ho hd h1 h2 h3 h4 hm hb (by simpa using l) (fun i p q hp hq=>by
    obtain⟨g1,g2⟩:=g i p q hp (by simpa using hq)
    exact⟨g1,R g2⟩) hI h
  .cases hs
 .simp only[Al,beq_iff_eq,decide_eq_true_eq]at qa;obtain⟨rfl,hd,hm,hb,hr⟩:=qa;obtain⟨d,hd,hs⟩:=Fo hd;unfold I4 at hs
  split at hs
  .simp only[Al,beq_iff_eq]at hs;obtain⟨rfl,jt,qr⟩:=hs;obtain⟨fi,z,h1,h2,h3⟩:=Vq jt;obtain⟨jE,qA,h4⟩:=Md qr;rw[h1]at qA;cases qA;obtain⟨l,g⟩:=Ac3 hr
   exact A48 ho hd h1 h2 h3 h4 hm hb (by simpa using l) (fun i p q hp hq=>by
    obtain⟨g1,g2⟩:=g i p q hp (by simpa using hq)
    exact⟨g1,R g2⟩) hI h
  .cases hs
 .simp only[Al,beq_iff_eq,decide_eq_true_eq]at qa;obtain⟨k1,k2,hm,ku⟩:=qa;obtain⟨d,hd,hs⟩:=Fo ku;clear ku;unfold I4 at hs
  split at hs
  .simp only[Al,beq_iff_eq]at hs;obtain⟨rfl,jt,qr,kh⟩:=hs;obtain⟨fi,z,h1,h2,h3⟩:=Vq jt;obtain⟨jE,qA,h4⟩:=Md qr;rw[h1]at qA kh;cases qA;simp only[Al,beq_iff_eq,decide_eq_true_eq]at kh;obtain⟨rfl,jf⟩:=kh;exact Bdd ho hd h1 h2 h3 h4 hm jf (R k1) (R k2) hI h
  .cases hs
 .simp only[Al]at qa;obtain⟨fi,h1,h2⟩:=Md qa.2.1;obtain⟨d,hd,hs⟩:=Fo qa.2.2;exact A44 ho hd (eq_of_beq hs) h1 h2 (R qa.1) hI h
 .simp only[Al]at qa;obtain⟨fi,h1,h2⟩:=Md qa.2.2;exact A2g ho h1 h2 (R qa.1) (R qa.2.1) hI h
 .exact A8s ho (R qa) hI h
 .simp only[Al,decide_eq_true_eq]at qa;obtain⟨rfl,h1,h2⟩:=qa;simp only[Af,Ci]at h;obtain⟨v',h,h3⟩:=h;cases h3;exact A8q ho (R h1) (R h2) hI h
 .simp only[Al,decide_eq_true_eq]at qa;obtain⟨rfl,h1,h2,h3⟩:=qa;exact Bdf ho h1 (R h2) (R h3) hI h
 .simp only[Al,decide_eq_true_eq]at qa;obtain⟨rfl,h1⟩:=qa;exact Bda ho (R h1) hI h
 .simp only[Al]at qa;obtain⟨h1,h2,h3⟩:=qa;obtain⟨d1,kN⟩:=Option.isSome_iff_exists.1 h2;obtain⟨d,hd,hs⟩:=Fo h3;unfold Axm at hs
  split at hs
  .obtain rfl:=of_decide_eq_true hs;exact A8r ho kN hd (R h1) hI h
  .cases hs
 .simp only[Al,Option.isNone_iff_eq_none]at qa;obtain⟨rfl,h1,h2,h3,h4⟩:=qa;obtain⟨d,hd,hs⟩:=Fo h4;unfold Nc at hs
  split at hs
  .exact A49 ho hd h2 h3 (R h1) hE hI h
  .cases hs
 .simp only[Al,Nx,Rh]at qa;obtain⟨h1,h2,h3,h4,h5,h7,h6⟩:=qa;obtain⟨d,hd,hs⟩:=Fo h6;unfold I4 at hs
  split at hs
  .obtain⟨fi,g1,g2⟩:=Md hs;subst g2;exact A82 ho hd g1 h2 h3 h4 (fun h=>by rcases h5 with h5 | h5<;>simp_all) (by simpa using h7) (R h1) hE hI h
  .cases hs
 .simp only[Al,Option.isNone_iff_eq_none,decide_eq_true_eq]at qa;obtain⟨rfl,h1,h2,h3,h4,h5⟩:=qa;obtain⟨d,hd,hs⟩:=Fo h5
  split at hs
  .simp only[Al,beq_iff_eq]at hs;obtain⟨rfl,hs⟩:=hs;obtain⟨fi,g1,g2⟩:=Md hs;subst g2;exact A5a ho hd g1 h2 h3 (by unfold maxLen;omega) (R h1) hE hI h
  .cases hs
 .exact A86 ho hI h
 .simp only[Al]at qa;obtain⟨h1,h2,h3⟩:=qa;obtain⟨d,hd,hs⟩:=Fo h3;unfold Afe at hs
  split at hs
  .simp only[Al]at hs;obtain⟨d2,qJ,qr⟩:=Fo hs.1;unfold Nc at qr
   split at qr
   .obtain⟨fi,u,g1,g2,g3⟩:=A0f hs.2;exact A87 ho hd qJ g1 g2 g3 (R h1) (R h2) hI h
   .cases qr
  .cases hs
 .simp only[Al]at qa;obtain⟨h1,h2,h3,h4⟩:=qa;obtain⟨d,hd,hs⟩:=Fo h4;unfold Afe at hs
  split at hs
  .obtain⟨d2,qJ,qr⟩:=Fo hs;unfold Nc at qr
   split at qr
   .exact A88 ho hd qJ (R h1) (R h2) (R h3) hI h
   .cases qr
  .cases hs
 .simp only[Al]at qa;obtain⟨d,hd,hs⟩:=Fo qa.2;unfold Axo at hs
  split at hs
  .split at hs
   .rename_i f hf;simp only[Al,beq_iff_eq]at hs;obtain⟨fi,g1,g2⟩:=Md hs.2.1;obtain⟨d2,qJ,qr⟩:=Fo hs.2.2;exact A84 ho hd hf hs.1 qJ (eq_of_beq qr) g1 g2 (R qa.1) hI h
   .cases hs
  .cases hs
 .simp only[Al]at qa;obtain⟨d,hd,hs⟩:=Fo qa.2.2;unfold Axp at hs
  split at hs
  .simp only[Al,beq_iff_eq]at hs;obtain⟨rfl,hs⟩:=hs;obtain⟨fi,g1,g2⟩:=Md hs.1;obtain⟨d2,qJ,qr⟩:=Fo hs.2;exact A85 ho hd qJ (eq_of_beq qr) g1 g2 (R qa.1) (R qa.2.1) hI h
  .cases hs
 .simp only[Al]at qa;obtain⟨h1,h2⟩:=qa;obtain⟨d,hd,hs⟩:=Fo h2;unfold Axn at hs
  split at hs
  .split at hs
   .rename_i f hf;simp only[Al,beq_iff_eq]at hs;obtain⟨g1,g2⟩:=hs
    split at g2
    .rename_i fi qm;exact A8w ho hd hf g1 qm (by simpa using g2) (R h1) hI h
    .cases g2
   .cases hs
  .cases hs
 .simp only[Al]at qa;obtain⟨h1,h2,h3⟩:=qa;obtain⟨d,hd,hs⟩:=Fo h3;unfold I4 at hs
  split at hs
  .obtain⟨fi,g1,g2⟩:=Md hs;exact A8y ho hd g1 g2 (R h1) (R h2) hI h
  .cases hs
 .simp only[Al]at qa;obtain⟨h1,h2,h3⟩:=qa;obtain⟨d,hd,hs⟩:=Fo h3
  split at hs
  .simp only[Al,beq_iff_eq]at hs;obtain⟨rfl,hs⟩:=hs;obtain⟨fi,g1,g2⟩:=Md hs;exact A8x ho hd g1 g2 (R h1) (R h2) hI h
  .cases hs
 .simp only[Al]at qa;obtain⟨h1,h2,h3⟩:=qa;obtain⟨d,hd,hs⟩:=Fo h3;unfold Nc at hs
  split at hs
  .exact A8t ho hd (R h1) (R h2) hI h
  .cases hs
 .simp only[Al,beq_iff_eq]at qa;obtain⟨rfl,h1⟩:=qa;exact A8u ho (R h1) hI h
 .split at qa
  .rename_i x t e1 e2;rw[Pk e1,Pk e2]at ho;simp only[Al]at qa;obtain⟨d,hd,hs⟩:=Fo qa.2;unfold I4 at hs
   split at hs
   .exact A8v ho hd (R qa.1) hI h
   .cases hs
  .cases qa
 .split at qa
  .rename_i x t e1 e2;rw[Pk e1,Pk e2]at ho;simp only[Al]at qa;obtain⟨d,hd,hs⟩:=Fo qa.2;unfold Nc at hs
   split at hs
   .exact A43 ho hd (R qa.1) hI h
   .cases hs
  .cases qa
 .split at qa
  .rename_i x y t u e1 e2;simp only[Al,beq_iff_eq]at qa;obtain⟨rfl,h1,h2,h3⟩:=qa;rw[Pk e1,Pk e2]at ho;obtain⟨d,hd,hs⟩:=Fo h3;unfold I4 at hs
   split at hs
   .simp only[Al,beq_iff_eq]at hs;obtain⟨g0,hs⟩:=hs;obtain⟨fi,z,g1,g2,g3,g4,g5,g6,g7⟩:=Apc hs;rename_i el;have em:(fi.size,el)=_:=Prod.ext g2 g0;rw[<-em,<-g3]at h;rw[<-g2]at g4 g7;rw[<-g3]at g5;exact A83 ho hd g1 g6 g7 g4 g5 (R h1) (R h2) hI h
   .cases hs
  .cases qa
 .split at qa
  .rename_i x y t u e1 e2;simp only[Al]at qa;obtain⟨h1,h2,h3,h4⟩:=qa;rw[Pk e1,Pk e2]at ho;obtain⟨d,hd,hs⟩:=Fo h3;obtain⟨d2,qJ,qr⟩:=Fo h4;unfold I4 at hs
   split at hs
   .unfold Nc at qr
    split at qr
    .simp only[Al,beq_iff_eq]at hs;obtain⟨g0,hs⟩:=hs;obtain⟨fi,z,g1,g2,g3,g4,g5,g6,g7⟩:=Apc hs;rw[<-g0]at h;exact A5b ho hd qJ g1 g6 g7 g2 g3 (R h1) (R h2) hI h
    .cases qr
   .cases hs
  .cases qa
 .split at qa
  .rename_i x y e1;rw[Pk e1]at ho;simp only[Al]at qa;exact Bdb ho (R qa.1) (R qa.2) hI h
  .cases qa
 .split at qa
  .rename_i x y e1;rw[Pk e1]at ho;simp only[Al]at qa;exact Bdc ho (R qa.1) (R qa.2) hI h
  .cases qa
 .cases qa
open Go Go.RowKit
def Zx(P:Program)(G:List (Nat × List V))(f:Nat)(xs:List S)(op:Op):Bool:=
 match op with
 | .call { callee:=.value (.func f'),args,.. }=>f==f'&&Px G xs args.toList
 | _=>false
def Zc(P:Program)(G:List (Nat × List V))(s:S)(xs:List S)(op:Op):Bool:=
 match op with
 | .call { callee:=.value x,args,.. }=>B9 G s x&&Px G xs args.toList
 | _=>false
def okG(n:Nat)(ops:Array Oper)(g:Option (Nat × Bool))(g':Option (Nat × Bool)):Bool:=
 match g,g' with
 | none,none=>true
 | some (t,b),some (j,b')=>b==b'&&((ops[j]?).bind (·.dst)==some t&&decide (t<n))
 | _,_=>false
def Xg(P:Program)(G:List (Nat × List V))(n:Nat)(ops:Array Oper)(i:AI)(o:Oper):Bool:=
 i.dst==o.dst&&((match i.dst with
  | some d=>decide (d<n)
  | none=>true)&&(okG n ops i.g o.guard&&(match i.op with
  | .call f xs=>Zx P G f xs o.op
  | .callv s xs=>Zc P G s xs o.op
  | ao=>Xf P G ao o.op)))
def Ll(P:Program)(G:List (Nat × List V))(n:Nat)(ops:Array Oper):List AI->List Oper->Bool
 | [],[]=>true
 | i::is,o::os=>Xg P G n ops i o&&Ll P G n ops is os
 | _,_=>false
def Aff(d:List Nat)(o:Oper):Bool:=(o.after.toList.all fun e=>!Region.binds .any e||d.elem e.on)&&d.all fun j=>o.after.toList.any fun e=>Region.binds .any e&&e.on==j
def Qt:List (List Nat)->List Oper->Bool
 | [],[]=>true
 | d::ds,o::os=>Aff d o&&Qt ds os
 | _,_=>false
def Amf:S->Bool
 | .k .und=>true
 | _=>false
def D6(P:Program)(G:List (Nat × List V))(n:Nat):AC->Code->Bool
 | .skip,.skip=>true
 | .skip,.label _=>true
 | .reg _ ais,.region _ ops false=>Ll P G n ops ais ops.toList
 | .drw _ qe ais,.region _ ops true=>Ll P G n ops ais ops.toList&&(Qt qe ops.toList&&P.follows .mixedOrders)
 | .seq x y,.seq c d=>D6 P G n x c&&D6 P G n y d
 | .cond s _ x y,.cond c x' y'=>B9 G s c&&(D6 P G n x x'&&D6 P G n y y')
 | .cond s _ _ _,_=>Amf s
 | .blk i c,.block j c'=>i==j&&D6 P G n c c'
 | .blk i c,.scope c'=>decide (1000000<=i)&&D6 P G n c c'
 | .loop _ c,.loop c'=>D6 P G n c c'
 | .exit i,.exit j=>i==j&&decide (i<1000000)
 | .ret,.ret=>true
 | _,_=>false
def okR(P:Program)(n:Nat):AR->ResultVar->Bool
 | .tmp t,.tmp t'=>t==t'&&decide (t<n)
 | .cell t k one,.cell t' ty=>t==t'&&(K6 P ty k&&E6 P ty fun d=>Ox d==!one)
 | _,_=>false
def Us(P:Program)(n:Nat):List AR->List ResultVar->Bool
 | [],[]=>true
 | r::rs,q::qs=>okR P n r q&&Us P n rs qs
 | _,_=>false
def Q9(P:Program)(G:List (Nat × List V))(f:Nat)(F:AF):Bool:=
 match P.funcs[f]? with
 | some fn=>match fn.body with
  | some c=>D6 P G fn.ntmps F.body c&&(Us P fn.ntmps F.res fn.results.toList&&(decide (F.pars<=fn.ntmps)&&fn.name != "runtime.NumGoroutine"))
  | none=>false
 | none=>false
/-! orders -/
def Bdg{d:List Nat}{o:Oper}(h:Aff d o=true)(qb:Nat->Bool):(o.after.all fun e=>!Region.binds .any e||qb e.on)=d.all qb:=by
 simp only[Aff,Al,Cc,Pa,Nx,Rh,X5,beq_iff_eq]at h;rw[Bool.eq_iff_iff,Array.all_eq_true',Cc]
 grind
def Ac4:∀ {qe:List (List Nat)} {os:List Oper},Qt qe os=true->qe.length=os.length/\∀ i o,os[i]?=some o->Aff (qe.getD i []) o=true
 | [],[],_=>⟨rfl,fun i o h=>by simp at h⟩
 | d::ds,o::os,h=>by
  simp only[Qt,Al]at h;obtain⟨l,g⟩:=Ac4 h.2
  grind
 | [],_::_,h=>by grind[Qt]
 | _::_,[],h=>by grind[Qt]
def Avu{qe:List (List Nat)}{ops:Array Oper}(hd:Qt qe ops.toList=true):∀ (fuel t:Nat) (qb:Array Bool) (qH:List Nat),qb.size=ops.size->(∀ i,i<ops.size->qb.getD i true=qH.elem i)->(∀ i,qb.getD i false=true->qH.elem i=true)->(∀ i,qH.elem i=true->i<ops.size) ->
  Region.linearise.go .any ops fuel t qb qH=Pq qe fuel t qH
 | 0,_,_,_,_,_,_,_=>rfl
 | fuel+1,t,qb,qH,hs,h1,h2,h3=>by
  obtain⟨hl,hg⟩:=Ac4 hd;have qp:qe.length=ops.size:=by simpa using hl
  have jM:(List.range ops.size).filter (fun i=>!qb.getD i true&&((ops[i]?).map (·.after.all fun e=>!Region.binds .any e||qb.getD e.on false)).getD false)=(List.range qe.length).filter (Mm qe qH):=by
   rw[qp];apply List.filter_congr;intro i hi;have qC:i<ops.size:=by simpa using hi
   have ho:ops[i]?=some ops[i]:=Array.getElem?_eq_getElem qC;have kO:=hg i ops[i] (by grind);rw[ho,h1 i qC];simp only[I9,X2,Mm];rw[Bdg kO (fun j=>qb.getD j false)];congr 1;apply List.all_congr rfl;intro j;rw[Bool.eq_iff_iff];constructor
   .grind
   .grind
  unfold Region.linearise.go Pq;simp only[jM]
  split
  .rename_i i hi;have jZ:i∈(List.range qe.length).filter (Mm qe qH):=Hg hi
   have qC:i<ops.size:=by
    have:=(Rk.1 jZ).1;rw[qp]at this;simpa using this
   rw[hi];refine Avu hd fuel _ _ (i::qH) (by grind) (fun j hj=>?_) (fun j hj=>?_) (fun j hj=>?_)
   .by_cases kY:i=j
    .simp_all
    .have:=h1 j hj;have vM:(j==i)=false:=by simp;omega
     simp_all
   .by_cases kY:i=j
    .grind
    simp_all
   grind
  grind
theorem Bdh{qe:List (List Nat)}{ops:Array Oper}(hd:Qt qe ops.toList=true)(t:Nat):Region.linearise .any ops t=P5 qe t:=by
 unfold Region.linearise P5;have qp:qe.length=ops.size:=by simpa using (Ac4 hd).1
 rw[qp];refine Avu hd _ _ _ _ AE (fun i hi=>?_) (fun i hi=>?_) (fun i hi=>?_)
 .simp_all
 .by_cases h:i<ops.size
  .simp_all
  grind
 grind
open Go Go.RowKit
variable {P:Program} {G:List (Nat × List V)} {N:Nat} {γ:Gh} {σ:St} {w w':World}
def Ays{κ:E1}{O:List (Nat × Nat)}{v:V}{u:Value}(h:Rep1 ⟨κ,[]⟩ w v u):Rep1 ⟨κ,O⟩ w v u:=by
 have low:∀ {v:V} {u:Value},RepC ⟨κ,[]⟩ w v u->RepC ⟨κ,O⟩ w v u:=fun hr=>by
  induction hr with
  | row h=>exact .row h
  | imm row h1 h2 h3 h4=>exact .imm row h1 h2 h3 h4
  | ptr h=>simp at h
  | sl h=>simp at h
  | nilp=>exact .nilp
  | nilf=>exact .nilf
  | ifc=>exact .ifc
  | fn h1 h2 _ _ ih1 ih2=>exact .fn h1 h2 ih1 ih2
  | mp h=>simp at h
 cases h with
 | cell h=>exact .cell (low h)
 | agg h1 h2=>exact .agg h1 (fun j hj=>low (h2 j hj))
def Bm9{κ:E1}{O:List (Nat × Nat)}{v:V}{u:Value}(h:RepV ⟨κ,[]⟩ w v u):RepV ⟨κ,O⟩ w v u:=by
 cases h with
 | und=>exact .und
 | skp=>exact .skp
 | one h=>exact .one (Ays h)
 | tup h1 h2=>exact .tup h1 (fun j hj=>Ays (h2 j hj))
theorem X8{κ':E1}{js:List Nat}(hI:Inv G N γ σ w)(hx:Ext γ w ⟨κ',γ.O⟩ w)(hs:Afz γ σ js κ'){v v':V}{u:Value}(h:Gy σ js v=some v')(hr:RepV γ w v u)(O:List (Nat × Nat)):Rep1 ⟨κ',O⟩ w v' u:=by
 unfold Gy at h
 split at h
 .cases h;obtain⟨b,o,k,row,hu,h1,h2,h3,h4⟩:=Mz (Bf rfl hr);rw[hu];obtain⟨k',vc,qV⟩:=hx.kap _ _ h1;exact .cell (.imm row vc (Dd h2 qV) h3 (fun j hj=>(h4 j hj).keep hx.kap hx.cell))
 .rename_i cs;simp only[Ci]at h;obtain⟨cs',hm,rfl⟩:=h;obtain⟨us,hu,hl,hj⟩:=Rq hr;obtain⟨l,g⟩:=Qn hm;rw[hu];refine .agg AA (fun j ja=>?_);have qN:j<cs.length:=by omega
  obtain⟨y,hy,hf⟩:=g j _ (Cb qN);rw[show cs'.getD j .und=y by grind];have:=hj j qN;rw[show cs.getD j .und=cs[j] by grind]at this;exact .row (Acd hI hx hs hf this)
 .have hc:v.cellB=true:=by
   unfold Fg at h
   split at h
   .rename_i hv;revert hv;cases v<;>simp[V.rowB,V.cellB]
   .split at h
    .rfl
    grind
  exact .cell (.row (Acd hI hx hs h (Bf hc hr)))
def Ab7{κ':E1}{js:List Nat}(hI:Inv G N γ σ w)(hx:Ext γ w ⟨κ',γ.O⟩ w)(hs:Afz γ σ js κ'){v v':V}{u:Value}(h:Iw σ js v=some v')(hr:RepV γ w v u)(O:List (Nat × Nat)):RepV ⟨κ',O⟩ w v' u:=by
 unfold Iw at h
 split at h
 .rename_i vs;simp only[Ci]at h;obtain⟨qL,hm,rfl⟩:=h;obtain⟨us,hu,hl,hj⟩:=Aqk hr;obtain⟨l,g⟩:=Qn hm;rw[hu];refine .tup AA (fun j ja=>?_);have qN:j<vs.length:=by omega
  obtain⟨y,hy,hf⟩:=g j _ (Cb qN);rw[show qL.getD j .und=y by grind];have:=hj j qN;rw[show vs.getD j .und=vs[j] by grind]at this;exact X8 hI hx hs hf (.one this) O
 .exact .one (X8 hI hx hs h hr O)
def A2i{v:V}{u:Value}(hf:v.flatV=true)(h:RepV γ w v u)(γ':Gh)(w':World):RepV γ' w' v u:=by
 cases h with
 | und=>exact .und
 | skp=>exact .skp
 | one h=>
  cases h with
  | cell h=>
   have:v.flatB=true:=by
    have hc:=(Rn h).1;revert hf hc
    cases v<;>simp[V.flatV,V.flatB,V.cellB]
   exact .one (.cell (Ac2 this h γ' w'))
  | @agg cs us h1 h2=>
   have jL:cs.all V.flatB=true:=hf;exact .one (.agg h1 (fun j hj=>Ac2 (Cc.1 jL _ (by grind)) (h2 j hj) γ' w'))
 | @tup vs us h1 h2=>
  have jL:(vs.all fun v=>v.cells.all V.flatB)=true:=hf;refine .tup h1 (fun j hj=>?_);have jO:=Cc.1 jL (vs.getD j .und) (by grind);have hr:=h2 j hj;generalize vs.getD j .und=x at jO hr;generalize us.getD j undef=y at hr ⊢
  cases hr with
  | cell h=>
   have:x.flatB=true:=by
    have hc:=(Rn h).1;revert jO hc
    cases x<;>simp[V.cells,V.flatB,V.cellB]
   exact .cell (Ac2 this h γ' w')
  | @agg cs us h1 h2=>
   have kT:cs.all V.flatB=true:=jO;exact .agg h1 (fun j hj=>Ac2 (Cc.1 kT _ (by grind)) (h2 j hj) γ' w')
def Ain{κ':E1}(h:Inv G N ⟨κ',γ.O⟩ σ w):Inv G w.heap.size ⟨κ',[]⟩ [] w where
 base:=Am _
 len:=rfl
 nd:=X4
 low:=fun i p h=>by simp at h
 obj:=fun i ob p h=>by simp at h
 dom:=h.dom
 glob:=fun g r hg=>by
  obtain⟨b,o,k,row,hu,h1,h2,h3,h4⟩:=Mz (h.glob g r hg);rw[hu];exact .imm row h1 h2 h3 h4
 gsz:=fun g r hg=>⟨by have:=(h.gsz g r hg).1;have:=h.base;omega,(h.gsz g r hg).2⟩
def Aoe{args:List V}{v:V}{u:Value}{κ1 κ2:E1}{w1:World}(hI:Inv G N γ σ w)(h1:Inv G N ⟨κ1,γ.O⟩ (σ.freeze (Lv σ args)) w)(hx:Ext γ w ⟨κ1,γ.O⟩ w)(hN:∀ b,b<N->κ1 b=γ.κ b)
  (hb:Below w.heap.size w w1) (hk:∀ b,b<w.heap.size->κ2 b=κ1 b) (hd:∀ b k,κ2 b=some k->b<w1.heap.size) (hv:RepV ⟨κ2,[]⟩ w1 v u) :
  ∃ γ1,Inv G N γ1 (after σ args v) w1/\Ext γ w γ1 w1/\RepV γ1 w1 v u/\(∀ b,b<N->γ1.κ b=γ.κ b)/\Below N w w1:=by
 unfold after
 split
 .rename_i hf
  obtain⟨i1,i2⟩:=hI.more (w':=w1) (κ':=fun b=>if b<w.heap.size then γ.κ b else κ2 b) (fun b qx=>hb.block b qx) hb.size (fun b qx=>if_pos qx) (fun b k vJ=>by
   by_cases qx:b<w.heap.size
   .have:=hb.size;omega
   grind)
  exact⟨_,i1,i2,A2i hf hv _ _,fun b qx=>if_pos (O8 qx hI.base),hb.mono hI.base⟩
 .obtain⟨i1,i2⟩:=h1.more (w':=w1) (κ':=κ2) (fun b qx=>hb.block b qx) hb.size hk hd;exact⟨_,i1,hx.trans i2,Bm9 hv,fun b qx=>(hk b (O8 qx hI.base)).trans (hN b qx),hb.mono hI.base⟩
def Iy(P:Program)(G:List (Nat × List V))(f:Nat)(s:List V->Option V):Prop:=
 (∃ fn c,P.funcs[f]?=some fn/\fn.body=some c/\fn.name ≠ "runtime.NumGoroutine") /\
 ∀ (κ:E1) (w:World) (vs:List V) (us:List Value) (v:V),(∀ g r,(g,r)∈G->RepC ⟨κ,[]⟩ w (.imm r 0) (.pointer (some ⟨g,0,none⟩)))->(∀ g r,(g,r)∈G->Ep w g=some r.length)->(∀ b k,κ b=some k->b<w.heap.size)->vs.length=us.length ->
  (∀ j,j<vs.length->Rep1 ⟨κ,[]⟩ w (vs.getD j .und) (us.getD j undef))->s vs=some v ->
  Calls P f us.toArray w fun e w'=>∃ u κ',e=.returned u/\RepV ⟨κ',[]⟩ w' v u/\Below w.heap.size w w'/\(∀ b,b<w.heap.size->κ' b=κ b)/\∀ b k,κ' b=some k->b<w'.heap.size
def Sl(P:Program)(G:List (Nat × List V))(f:Nat)(s:List V->St->Option (V × St)):Prop:=
 (∃ fn c,P.funcs[f]?=some fn/\fn.body=some c/\fn.name ≠ "runtime.NumGoroutine") /\
 ∀ (args:List V) (σ:St) (v:V) (σ':St),s args σ=some (v,σ')->∀ (us:List Value) (w:World) (γ:Gh) (N:Nat),args.length=us.length->(∀ j,j<args.length->RepV γ w (args.getD j .und) (us.getD j undef))->Inv G N γ σ w ->
   Calls P f us.toArray w fun e w'=>∃ u γ',e=.returned u/\RepV γ' w' v u/\Inv G N γ' σ' w'/\Ext γ w γ' w'/\Below N w w'/\∀ b,b<N->γ'.κ b=γ.κ b
/-! objects under new numbers -/
theorem Tq:∀ {cs:List V} {j i:Nat},j<cs.length->i∈(cs.getD j .und).refs->i∈Ah cs
 | [],_,_,h,_=>by simp at h
 | c::cs,0,i,_,h=>by grind[Ah]
 | c::cs,j+1,i,hj,h=>by simp only[Ah,Cs];exact .inr (Tq (j:=j) (by grind) (by grind))
theorem M0(ρ:Nat->Nat):∀ cs:List V,(Fw ρ cs).length=cs.length
 | []=>rfl
 | c::cs=>by simp[Fw,M0 ρ cs]
theorem V6(ρ:Nat->Nat):∀ {cs:List V} {j:Nat},j<cs.length->(Fw ρ cs).getD j .und=(cs.getD j .und).ren ρ
 | [],_,h=>by simp at h
 | c::cs,0,_=>by simp[Fw]
 | c::cs,j+1,h=>by simpa[Fw] using V6 ρ (cs:=cs) (j:=j) (by grind)
def RepC.renum{O:List (Nat × Nat)}{ρ:Nat->Nat}{v:V}{u:Value}(h:RepC γ w v u):(∀ i∈v.refs,∀ p,γ.O[i]?=some p->O[ρ i]?=some p)->RepC ⟨γ.κ,O⟩ w (v.ren ρ) u:=by
 induction h with
 | row h=>
  intro _
  cases h with
  | bool=>exact .row .bool
  | int=>exact .row .int
  | str h=>exact .row (.str h)
  | nili=>exact .row .nili
  | ifc=>exact .row .ifc
  | nils=>exact .row .nils
  | lst row h1 h2 h3 h4 h5 h6 h7=>exact .row (.lst row h1 h2 h3 h4 h5 h6 h7)
 | imm row h1 h2 h3 h4=>exact fun _=>.imm row h1 h2 h3 h4
 | ptr h1 h2 h3=>exact fun hr=>.ptr (hr _ AQ _ h1) h2 h3
 | sl h1 h2 h3 h4 h5 h6=>exact fun hr=>.sl (hr _ AQ _ h1) h2 h3 h4 h5 h6
 | nilp=>exact fun _=>.nilp
 | nilf=>exact fun _=>.nilf
 | ifc=>exact fun _=>.ifc
 | fn h1 h2 _ _ ih1 ih2=>
  intro hr;refine .fn (by grind[M0]) (by grind[M0]) (fun j hj=>?_) (fun j hj=>?_)
  .grind[M0,V6,V.refs,Tq]
  grind[M0,V6,V.refs,Tq]
 | mp h1 h2 h3=>exact fun hr=>.mp (hr _ AQ _ h1) h2 h3
def Rep1.renum{O:List (Nat × Nat)}{ρ:Nat->Nat}{v:V}{u:Value}(h:Rep1 γ w v u)(hr:∀ i∈v.refs,∀ p,γ.O[i]?=some p->O[ρ i]?=some p):Rep1 ⟨γ.κ,O⟩ w (v.ren ρ) u:=by
 cases h with
 | cell h=>exact .cell (h.renum hr)
 | agg h1 h2=>
  refine .agg (by grind[M0]) (fun j hj=>?_);rw[M0]at hj;rw[V6 ρ hj];exact(h2 j hj).renum (fun i hi=>hr i (by grind[V.refs,Tq]))
def RepV.renum{O:List (Nat × Nat)}{ρ:Nat->Nat}{v:V}{u:Value}(h:RepV γ w v u)(hr:∀ i∈v.refs,∀ p,γ.O[i]?=some p->O[ρ i]?=some p):RepV ⟨γ.κ,O⟩ w (v.ren ρ) u:=by
 cases h with
 | und=>exact .und
 | skp=>exact .skp
 | one h=>exact .one (h.renum hr)
 | tup h1 h2=>
  refine .tup (by grind[M0]) (fun j hj=>?_);rw[M0]at hj;rw[V6 ρ hj];exact(h2 j hj).renum (fun i hi=>hr i (by grind[V.refs,Tq]))
def ObOk.renum{O:List (Nat × Nat)}{ρ:Nat->Nat}{ob:Ob}{p:Nat × Nat}(h:ObOk γ w ob p)(hr:∀ i∈ob.refs,∀ q,γ.O[i]?=some q->O[ρ i]?=some q):ObOk ⟨γ.κ,O⟩ w (ob.ren ρ) p:=by
 cases ob with
 | row cs e g z=>
  obtain⟨h1,h2,h3,us,lo,hi,h4,h5,h6,h7⟩:=h;refine⟨h1,h2,by grind[M0],us,lo,hi,h4,h5,by grind[M0],fun j hj=>?_⟩;rw[M0]at hj;rw[V6 ρ hj];exact(h7 j hj).renum (fun i hi=>hr i (by grind[Ob.refs,Tq]))
 | map kvs=>
  obtain⟨h1,h2,es,h3,h4,h5⟩:=h;refine⟨h1,h2,es,by grind,by grind,fun i k v hi=>?_⟩;simp only[Ak,Ci]at hi;obtain⟨⟨k',v'⟩,hi,he⟩:=hi;simp only[Prod.mk.injEq]at he;obtain⟨rfl,rfl⟩:=he;obtain⟨en,a1,a2,a3,a4,a5,a6⟩:=h5 i k' v' hi
  have kX:(v'.ren ρ).flatB=true:=by revert a5;cases v'<;>simp[V.flatB,V.ren]
  exact⟨en,a1,a2,a3,a4,kX,a6.renum (fun i' qC=>hr i' (by
   simp only[Ob.refs];have qx:=(An.1 hi).1
   exact Tq (j:=i) (by grind) (by grind)))⟩
 | dead=>exact h
mutual
theorem Akf:∀ v:V,v.ren (fun i=>i)=v
 | .und | .skp | .bool _ | .int _ _ | .str _ | .nili | .ifc | .nils | .nilp | .nilf | .lst _ _ | .imm _ _ | .ptr _ _ _ | .sl _ _ _ _ _ _ | .mp _=>by simp[V.ren]
 | .fn f a c=>by simp[V.ren,Wf a,Wf c]
 | .agg cs=>by simp[V.ren,Wf cs]
 | .tup vs=>by simp[V.ren,Wf vs]
theorem Wf:∀ cs:List V,Fw (fun i=>i) cs=cs
 | []=>rfl
 | c::cs=>by simp[Fw,Akf c,Wf cs]
end
theorem Apd(ob:Ob):ob.ren (fun i=>i)=ob:=by
 cases ob with
 | row cs e g z=>simp[Ob.ren,Wf]
 | map kvs=>simp[Ob.ren,Akf]
 | dead=>rfl
theorem Ac5:∀ {cs:List V} {i:Nat},i∈Ah cs->∃ j,j<cs.length/\i∈(cs.getD j .und).refs
 | [],_,h=>by grind[Ah]
 | c::cs,i,h=>by
  simp only[Ah,Cs]at h;rcases h with h | h
  .exact⟨0,by simp,by grind⟩
  .obtain⟨j,h1,h2⟩:=Ac5 h;exact⟨j+1,by grind,by grind⟩
def RepC.refs_lt{v:V}{u:Value}(h:RepC γ w v u):∀ i∈v.refs,i<γ.O.length:=by
 induction h with
 | row h=>intro i hi;cases h<;>simp[V.refs]at hi
 | imm=>grind[V.refs]
 | ptr h1=>grind[V.refs]
 | sl h1=>grind[V.refs]
 | nilp=>grind[V.refs]
 | nilf=>grind[V.refs]
 | ifc=>grind[V.refs]
 | fn h1 h2 _ _ ih1 ih2=>
  grind[V.refs,Ac5]
 | mp h1=>grind[V.refs]
def ObOk.refs_lt{ob:Ob}{p:Nat × Nat}(h:ObOk γ w ob p):∀ i∈ob.refs,i<γ.O.length:=by
 intro i hi
 cases ob with
 | row cs e g z=>
  obtain⟨_,_,_,us,lo,qC,_,_,_,h7⟩:=h;obtain⟨j,g1,g2⟩:=Ac5 (show i∈Ah cs from hi);exact(h7 j g1).refs_lt i g2
 | map kvs=>
  obtain⟨_,_,es,_,_,h5⟩:=h;obtain⟨j,g1,g2⟩:=Ac5 (show i∈Ah (kvs.map (·.2)) from hi);have hj:j<kvs.length:=by simpa using g1
  obtain⟨en,_,_,_,_,_,a6⟩:=h5 j (kvs[j]).1 (kvs[j]).2 (Cb hj);exact a6.refs_lt i (by grind)
 | dead=>grind[Ob.refs]
def Inv.leave{γ':Gh}{σ':St}{w':World}{n:Nat}{js:List Nat}{ρ:Nat->Nat}(hI:Inv G N γ' σ' w')(hn:n<=σ'.length)(vb:∀ i∈js,n<=i/\i<σ'.length)(vi:js.Nodup)
  (hρ:∀ i,i<n->ρ i=i) (vB:∀ k (hk:k<js.length),ρ js[k]=n+k)
  (kA:∀ (i:Nat) (ob:Ob),(i<n\/i∈js)->σ'[i]?=some ob->∀ j∈ob.refs,j<n\/j∈js) :
  Inv G N ⟨γ'.κ,γ'.O.take n++js.filterMap (γ'.O[·]?)⟩ ((σ'.take n++js.filterMap (σ'[·]?)).map (Ob.ren ρ)) w'/\∀ i,(i<n\/i∈js)->∀ p,γ'.O[i]?=some p->(γ'.O.take n++js.filterMap (γ'.O[·]?))[ρ i]?=some p:=by
 have qp:=hI.len
 have pick:∀ {α:Type} (l:List α),l.length=σ'.length->(js.filterMap (l[·]?)).length=js.length/\∀ k (hk:k<js.length),(js.filterMap (l[·]?))[k]?=l[js[k]]?:=fun {α} l hl=>by
  have:js.filterMap (l[·]?)=js.pmap (fun i hi=>l[i]' AA) (fun i hi=>(vb i hi).2):=by
   clear vi vB kA
   induction js with
   | nil=>rfl
   | cons a js ih=>
    simp_all [Nv]
  grind
 obtain⟨vC,vT⟩:=pick γ'.O qp;obtain⟨vD,vU⟩:=pick σ' rfl;have jy:(γ'.O.take n).length=n:=by simp;omega
 have qY:(σ'.take n).length=n:=by simp;omega
 have jl:∀ i,(i<n\/i∈js)->∀ p,γ'.O[i]?=some p->(γ'.O.take n++js.filterMap (γ'.O[·]?))[ρ i]?=some p:=by
  intro i hi p hp;by_cases jS:i<n
  .grind
  .rcases hi with h | h
   .omega
   .obtain⟨k,hk,rfl⟩:=Mu h
    simp_all [Fk]
 have Eg:∀ q,q<n+js.length->∃ i,(i<n\/i∈js)/\ρ i=q/\(γ'.O.take n++js.filterMap (γ'.O[·]?))[q]?=γ'.O[i]?/\(σ'.take n++js.filterMap (σ'[·]?))[q]?=σ'[i]?:=by
  intro q hq;by_cases vQ:q<n
  .grind
  .have hk:q - n<js.length:=by omega
   grind
 have jG:(γ'.O.take n++js.filterMap (γ'.O[·]?)).length=n+js.length:=by rw[Aj,jy,vC]
 have vH:(σ'.take n++js.filterMap (σ'[·]?)).length=n+js.length:=by rw[Aj,qY,vD]
 refine⟨⟨hI.base,by grind,?_,fun q p hp=>?_,fun q ob p h1 h2=>?_,hI.dom,fun g r hg=>?_,hI.gsz⟩,jl⟩
 .refine Xw.2 fun q1 q2 h1 h2 vG=>?_
  simp only[Av,jG]at h1 h2;obtain⟨i1,c1,e1,o1,_⟩:=Eg q1 h1;obtain⟨i2,c2,e2,o2,_⟩:=Eg q2 h2;have vj:i1≠i2:=fun e=>by grind
  rw[List.getElem_map,List.getElem_map];have vn:q1<(γ'.O.take n++js.filterMap (γ'.O[·]?)).length:=by omega
  have vo:q2<(γ'.O.take n++js.filterMap (γ'.O[·]?)).length:=by omega
  rw[Cb vn]at o1;rw[Cb vo]at o2;exact hI.ne o1.symm o2.symm vj
 .have hq:q<n+js.length:=by have:=(An.1 hp).1;rw[<-jG];exact this
  obtain⟨i,c1,e1,o1,_⟩:=Eg q hq;have kC:(γ'.O.take n++js.filterMap (γ'.O[·]?))[q]?=some p:=hp;rw[o1]at kC;exact hI.low i p kC
 .have hq:q<n+js.length:=by have:=(An.1 h2).1;rw[<-jG];exact this
  obtain⟨i,c1,e1,o1,o2⟩:=Eg q hq;have kq:(γ'.O.take n++js.filterMap (γ'.O[·]?))[q]?=some p:=h2;rw[o1]at kq;simp only[Ak,Ci]at h1;obtain⟨kF,h1,rfl⟩:=h1;rw[o2]at h1;exact(hI.obj i kF p h1 kq).renum (fun j hj r hr=>jl j (kA i kF c1 h1 j hj) r hr)
 .obtain⟨b,o,k,row,hu,h1,h2,h3,h4⟩:=Mz (hI.glob g r hg);rw[hu];exact .imm row h1 h2 h3 h4
open Go Go.RowKit
variable {P:Program} {G:List (Nat × List V)} {T:Nat->Option AF} {pr:Nat->Option (List V->Option V)}
def Leaves(G:List (Nat × List V))(N n:Nat)(D:List Deferred)(γ:Gh)(σ:St)(w:World)(e':Env)(σ':St)(a':Act)(w':World):Prop:=
 ∃ γ',RepE γ' w' e' a'.tmps/\Inv G N γ' σ' w'/\Ext γ w γ' w'/\Below N w w'/\(∀ b,b<N->γ'.κ b=γ.κ b)/\a'.tmps.size=n/\a'.defers=D
def Leaves.after{N n:Nat}{D:List Deferred}{γ γ1:Gh}{σ σ1 σ':St}{w w1 w':World}{e':Env}{a':Act}(hx:Ext γ w γ1 w1)(hb:Below N w w1)(hk:∀ b,b<N->γ1.κ b=γ.κ b)(h:Leaves G N n D γ1 σ1 w1 e' σ' a' w'):Leaves G N n D γ σ w e' σ' a' w':=by
 obtain⟨γ',h1,h2,h3,h4,h5,h6⟩:=h;exact⟨γ',h1,h2,hx.trans h3,hb.trans h4,fun b hb=>(h5 b hb).trans (hk b hb),h6⟩
inductive MK (P:Program) (G:List (Nat × List V)) (n:Nat):List It->List Item->Prop
 | nil:MK P G n [] []
 | c {ac:AC} {c:Code} {k:List It} {qd:List Item}:D6 P G n ac c=true->MK P G n k qd->MK P G n (.c ac::k) (.code c::qd)
 | b {id:Nat} {k:List It} {qd:List Item}:MK P G n k qd->MK P G n (.b id::k) (.inBlock id::qd)
 | s {id:Nat} {c:Code} {k:List It} {qd:List Item}:1000000<=id->MK P G n k qd->MK P G n (.b id::k) (.inScope c::qd)
 | l {keep:List Nat} {ac:AC} {c:Code} {k:List It} {qd:List Item}:D6 P G n ac c=true->MK P G n k qd->MK P G n (.l keep ac::k) (.inLoop c::qd)
 | l' {keep:List Nat} {ac:AC} {c:Code} {k:List It} {qd:List Item}:D6 P G n ac c=true->MK P G n k qd->MK P G n (.l keep ac::k) (.code (.loop c)::qd)
def MK.exit{n id:Nat}{k:List It}{qd:List Item}(qx:id<1000000)(h:MK P G n k qd):∀ {k':List It},exitTo id k=some k'->∃ todo',Go.exitTo id qd=some todo'/\MK P G n k' todo':=by
 induction h with
 | nil=>grind[exitTo]
 | c _ _ ih=>grind[exitTo,Go.exitTo]
 | b hk ih=>
  grind[exitTo,Go.exitTo]
 | s hi hk ih=>
  grind[exitTo,Go.exitTo]
 | l _ _ ih=>grind[exitTo,Go.exitTo]
 | l' _ _ ih=>grind[exitTo,Go.exitTo]
def ML(P:Program)(G:List (Nat × List V))(n:Nat)(ops:Array Oper):List AI->List Nat->Prop
 | [],[]=>True
 | i::is,j::js=>(∃ o,ops[j]?=some o/\Xg P G n ops i o=true)/\ML P G n ops is js
 | _,_=>False
def Alc(P:Program)(G:List (Nat × List V)):J->Prop
 | .ops l e σ e' σ'=>∀ (n:Nat) (D:List Deferred) (ops:Array Oper) (L:List Nat) (a:Act) (w:World) (γ:Gh) (N:Nat) (Q:Exit->Act->World->Prop),ML P G n ops l L->a.tmps.size=n->a.defers=D->RepE γ w e a.tmps->Inv G N γ σ w ->
   (∀ a' w',Leaves G N n D γ σ w e' σ' a' w'->Q .normal a' w')->wpOps P ops Q L a w
 | .code k e σ e' σ'=>∀ (n:Nat) (D:List Deferred) (qd:List Item) (a:Act) (w:World) (γ:Gh) (N:Nat),MK P G n k qd->a.tmps.size=n->a.defers=D->RepE γ w e a.tmps->Inv G N γ σ w->∀ (b:Frame) (cs:List Frame),
   ∃ a' w' todo',Steps P (lone (b.at a qd) cs w) (lone { b.at a' todo' with mode:=.returning } cs w')/\Leaves G N n D γ σ w e' σ' a' w'
 | .fn f args σ v σ'=>∀ (us:List Value) (w:World) (γ:Gh) (N:Nat),args.length=us.length->(∀ j,j<args.length->RepV γ w (args.getD j .und) (us.getD j undef))->Inv G N γ σ w ->
   Calls P f us.toArray w fun e w'=>∃ u γ',e=.returned u/\RepV γ' w' v u/\Inv G N γ' σ' w'/\Ext γ w γ' w'/\Below N w w'/\∀ b,b<N->γ'.κ b=γ.κ b
def Ro{n:Nat}{ops:Array Oper}{i:AI}{o:Oper}{γ:Gh}{w:World}{e:Env}{a:Act}{z:Bool}(hg:okG n ops i.g o.guard=true)(ha:a.tmps.size=n)(hE:RepE γ w e a.tmps)(h:Cv e i=some z):Region.wanted o (yielded ops a.tmps)=z:=by
 unfold okG at hg;unfold Cv at h;unfold Region.wanted
 split at hg
 .grind
 .rename_i t b j b' h1 h2;simp only[Al,beq_iff_eq,decide_eq_true_eq]at hg;obtain⟨rfl,hd,ht⟩:=hg;rw[h1]at h;rw[h2];simp only at h ⊢;have qE:=hE t
  have hy:a.tmps[t]?=some (a.tmps.getD t undef):=by
   rw[Array.getD_eq_getD_getElem?,Array.getElem?_eq_getElem AA];rfl
  split at h
  .rename_i z' e1;rw[e1]at qE;have:=Pb (Bf rfl qE)
   simp_all [yielded]
  .rename_i e1;rw[e1]at qE;cases h
   have:a.tmps.getD t undef=undef:=by
    generalize a.tmps.getD t undef=u at qE
    cases qE with
    | skp=>rfl
    | one h=>cases h with | cell h=>exact absurd (Rn h).1 (by simp[V.cellB])
   simp only[yielded,hd,C5,hy,this]
   cases b<;>rfl
  grind
 grind
def Rx{n:Nat}{γ:Gh}{w:World}{e:Env}{a:Act}{d:Option Nat}{v:V}{u:Value}(hd:(match d with | some d=>decide (d<n) | none=>true)=true)(ha:a.tmps.size=n)(hE:RepE γ w e a.tmps)(hv:RepV γ w v u):
  RepE γ w (e.putO d v) (a.put d u).tmps/\(a.put d u).tmps.size=n/\(a.put d u).defers=a.defers:=by
 cases d with
 | none=>exact⟨hE,ha,rfl⟩
 | some d=>
  simp only[decide_eq_true_eq]at hd;exact⟨hE.put AA hv,by grind[Act.put],rfl⟩
def A2j{f:Nat}{xs:List S}{op:Op}(h:Zx P G f xs op=true):∃ args ts,op=.call { callee:=.value (.func f),args,argTypes:=ts }/\Px G xs args.toList=true:=by
 unfold Zx at h
 grind
def Yo{f:Nat}{F:AF}(h:Q9 P G f F=true):∃ fn c,P.funcs[f]?=some fn/\fn.body=some c/\D6 P G fn.ntmps F.body c=true/\Us P fn.ntmps F.res fn.results.toList=true/\F.pars<=fn.ntmps/\fn.name ≠ "runtime.NumGoroutine":=by
 unfold Q9 at h
 grind
def A89{γ:Gh}{w:World}{v:V}{u:Value}(h:Ga v=true)(hr:RepV γ w v u):Rep1 γ w v u:=by
 cases hr with
 | und=>grind[Ga,V.cellB]
 | skp=>grind[Ga,V.cellB]
 | one h=>exact h
 | tup=>grind[Ga,V.cellB]
def Zy(tm:Array Value):ResultVar->Sem Value
 | .tmp t=>pure (tm.getD t undef)
 | .cell a t=>do loadVar t (<-asAddr (tm.getD a undef))
def Ajd{n:Nat}{N:Nat}{γ:Gh}{σ:St}{w:World}{e:Env}{tm:Array Value}(hE:RepE γ w e tm)(hI:Inv G N γ σ w):∀ {rs:List AR} {qs:List ResultVar} {vs:List V},Us P n rs qs=true->rs.mapM (Gr e σ)=some vs ->
  ∃ us:List Value,(qs.mapM (Zy tm)).run P w=.ok us w/\vs.length=us.length/\us.length=qs.length/\∀ j,j<vs.length->RepV γ w (vs.getD j .und) (us.getD j undef)
 | [],[],vs,_,h=>by
  simp_all
 | r::rs,q::qs,vs,qa,h=>by
  simp only[Us,Al]at qa;rw[Jv]at h
  cases h1:Gr e σ r with
  | none=>grind
  | some v=>
   cases h2:rs.mapM (Gr e σ) with
   | none=>grind
   | some qL=>
    simp[h1,h2]at h;subst h;obtain⟨us,g1,g2,vF,g3⟩:=Ajd hE hI qa.2 h2
    have key:∃ u,(Zy tm q).run P w=.ok u w/\RepV γ w v u:=by
     have hr:=qa.1;unfold okR at hr
     split at hr
     .rename_i t t';simp only[Al,beq_iff_eq]at hr;obtain⟨rfl,_⟩:=hr;simp only[Gr]at h1;cases h1;exact⟨tm.getD t undef,rfl,hE t⟩
     .rename_i t k one t' ty;simp only[Al,beq_iff_eq]at hr;obtain⟨rfl,vp,vq⟩:=hr;obtain⟨fi,i1,i2⟩:=Md vp;obtain⟨d,hd,hs⟩:=Fo vq;simp only[Gr]at h1;obtain⟨b,p,cs,f,hu,k1,k2,k3,k4⟩:=Aqo hI (hE t) h1;obtain⟨m1,m2⟩:=Ahx k1 k2 k4;have hl:=Anx (P:=P) (w:=w) hd (eq_of_beq hs) i1 i2 (fun h=>(m1 h).1) k3;refine⟨if one then f 0 else .agg ((List.range k).map f).toArray,by grind[Zy,asAddr],?_⟩
      cases one with
      | true=>exact Df (m1 rfl).2
      | false=>exact .one (m2 rfl)
     .cases hr
    obtain⟨u,hu,hv⟩:=key;refine⟨u::us,by simp_all,by simp[g2],by grind,fun j hj=>?_⟩
    grind
 | [],_::_,_,h,_=>by grind[Us]
 | _::_,[],_,h,_=>by grind[Us]
def ML.tail{n:Nat}{ops:Array Oper}{i:AI}{is:List AI}{L:List Nat}(h:ML P G n ops (i::is) L):∃ j js o,L=j::js/\ops[j]?=some o/\Xg P G n ops i o=true/\ML P G n ops is js:=by
 cases L with
 | nil=>exact h.elim
 | cons j js=>obtain⟨⟨o,h1,h2⟩,h3⟩:=h;grind
def Ut{n:Nat}{ops:Array Oper}{o:Oper}{j:Nat}{js:List Nat}{a:Act}{w:World}{Q:Exit->Act->World->Prop}(ho:ops[j]?=some o)(hw:Region.wanted o (yielded ops a.tmps)=true)(h:o.wp P a w (wpOps P ops Q js) Q):wpOps P ops Q (j::js) a w:=by
 simp_all [wpOps]
def Bdi{ops:Array Oper}{o:Oper}{j:Nat}{js:List Nat}{a:Act}{w:World}{Q:Exit->Act->World->Prop}(ho:ops[j]?=some o)(hw:Region.wanted o (yielded ops a.tmps)=false)(h:wpOps P ops Q js (a.put o.dst undef) w):wpOps P ops Q (j::js) a w:=by
 grind[wpOps]
def Rm{n:Nat}{ops:Array Oper}{i:AI}{o:Oper}(h:Xg P G n ops i o=true):i.dst=o.dst/\(match i.dst with | some d=>decide (d<n) | none=>true)=true/\okG n ops i.g o.guard=true/\(match i.op with | .call f xs=>Zx P G f xs o.op | .callv s xs=>Zc P G s xs o.op | ao=>Xf P G ao o.op)=true:=by
 unfold Xg at h
 grind
theorem Aof{f:FuncId}{fn:Func}{c:Code}{args:Array Value}{w:World}(hf:P.funcs[f]?=some fn)(hb:fn.body=some c)(hn:fn.name ≠ "runtime.NumGoroutine"):(callFunc f args).run P w=.ok (.enter f args) w:=by
 simp_all [callFunc]
def A5c{a:Act}{o:Oper}{w:World}{f:FuncId}{fn:Func}{c:Code}{args:Array Operand}{ts:Array TypeId}(ho:o.op=.call { callee:=.value (.func f),args,argTypes:=ts })(hf:P.funcs[f]?=some fn)(hb:fn.body=some c)(hn:fn.name ≠ "runtime.NumGoroutine") :
  (execOp a.eval o).run P w=.ok (.enter f (args.map a.eval)) w:=by
 grind[Aof,execOp,resolve,Deferred.ofValue,Act.eval,invoke]
def A2k{a:Act}{o:Oper}{w:World}{f:FuncId}{fn:Func}{c:Code}{x:Operand}{args:Array Operand}{ts:Array TypeId}{ua uc:Array Value}(ho:o.op=.call { callee:=.value x,args,argTypes:=ts })(hx:a.eval x=.func (.func f) ua uc)(hf:P.funcs[f]?=some fn)(hb:fn.body=some c)(hn:fn.name ≠ "runtime.NumGoroutine") :
  (execOp a.eval o).run P w=.ok (.enter f (ua++args.map a.eval++uc)) w:=by
 grind[Aof,execOp,resolve,Deferred.ofValue,invoke]
def A08{s:S}{xs:List S}{op:Op}(h:Zc P G s xs op=true):∃ x args ts,op=.call { callee:=.value x,args,argTypes:=ts }/\B9 G s x=true/\Px G xs args.toList=true:=by
 unfold Zc at h
 grind
def Atl(args:Array Operand)(f:Operand->Value):args.map f=(args.toList.map f).toArray:=by
 grind
def Aq0{γ:Gh}{w:World}{vs qL:List V}{us us':List Value}(h:vs.length=us.length/\∀ j,j<vs.length->RepV γ w (vs.getD j .und) (us.getD j undef))(h':qL.length=us'.length/\∀ j,j<qL.length->RepV γ w (qL.getD j .und) (us'.getD j undef)):
  (vs++qL).length=(us++us').length/\∀ j,j<(vs++qL).length->RepV γ w ((vs++qL).getD j .und) ((us++us').getD j undef):=by
 grind
def Vs{n N:Nat}{γ:Gh}{σ:St}{w:World}{e:Env}{a:Act}{ops:Array Oper}{i:AI}{o:Oper}{f:Nat}{vs:List V}{fn:Func}{c:Code}(qa:(match i.op with | .call f xs=>Zx P G f xs o.op | .callv s xs=>Zc P G s xs o.op | ao=>Xf P G ao o.op)=true)(hc:Cj e i.op=some (f,vs))(hE:RepE γ w e a.tmps)(hI:Inv G N γ σ w)
  (hf:P.funcs[f]?=some fn) (hb:fn.body=some c) (hn:fn.name ≠ "runtime.NumGoroutine") :
  ∃ us:List Value,(execOp a.eval o).run P w=.ok (.enter f us.toArray) w/\vs.length=us.length/\∀ j,j<vs.length->RepV γ w (vs.getD j .und) (us.getD j undef):=by
 have args:∀ {xs:List S} {os:Array Operand},Px G xs os.toList=true->(xs.map (Ac e)).length=(os.toList.map a.eval).length/\∀ j,j<(xs.map (Ac e)).length->RepV γ w ((xs.map (Ac e)).getD j .und) ((os.toList.map a.eval).getD j undef):=fun {xs os} jD=>by
  grind[Aqz]
 generalize i.op=op at qa hc
 cases op with
 | call f' xs=>
  simp only[Cj]at hc;cases hc;obtain⟨os,ts,ke,jD⟩:=A2j qa;refine⟨os.toList.map a.eval,?_,args jD⟩;rw[A5c ke hf hb hn,Atl]
 | callv s xs=>
  simp only[Cj]at hc
  split at hc
  .rename_i f' as cs hs;cases hc;obtain⟨x,os,ts,ke,h1,jD⟩:=A08 qa;have hr:=Y8 (a:=a) h1 hE hI;rw[hs]at hr;obtain⟨ua,uc,hu,ve,vf,vr,vt⟩:=Ai9 (Bf rfl hr);refine⟨ua++os.toList.map a.eval++uc,?_,Aq0 (Aq0 ⟨ve,fun j hj=>Df (vr j hj)⟩ (args jD)) ⟨vf,fun j hj=>Df (vt j hj)⟩⟩;rw[A2k ke hu hf hb hn,Atl];simp
  grind
 | _=>grind[Cj]
