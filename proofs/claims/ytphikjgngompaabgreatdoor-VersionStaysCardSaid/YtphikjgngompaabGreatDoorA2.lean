/- THE PLAIN MACHINE, joined texts: Kj Kk Kl Km Kn Ko Kp Kq. -/
import Derived.Test.YtphikjgngompaabGreatDoorA1
import Derived.Lib.AppendStr
import Derived.Laws.BytesArg
import Derived.Laws.BytesString
import Derived.Lib.ConvBytes
import Derived.Laws.StructEq
import Derived.Orders
set_option linter.all false
/- append (second form). -/
namespace Go.Proofs.YtphikjgngompaabGreatDoor.KM
open Go Go.RowKit
variable {P:Program} {G:List (Nat × List V)} {N:Nat} {γ:Gh} {σ σ1:St} {w:World} {e:Env} {a:Act} {o:Oper} {v:V}
def CellsIn(γ:Gh)(w:World)(cs:List V)(us:List Value):Prop:=cs.length=us.length/\∀ j,j<cs.length->RepC γ w (cs.getD j .und) (us.getD j undef)
def CellsIn.ext{γ γ':Gh}{w w':World}{cs:List V}{us:List Value}(hx:Ext γ w γ' w')(h:CellsIn γ w cs us):CellsIn γ' w' cs us:=⟨h.1,fun j hj=>(h.2 j hj).ext hx⟩
def CellsIn.app{cs ds:List V}{us vs:List Value}(h:CellsIn γ w cs us)(g:CellsIn γ w ds vs):CellsIn γ w (cs++ds) (us++vs):=by
 refine⟨by simp[h.1,g.1],fun j hj=>?_⟩;simp only[Ef];by_cases hl:j<cs.length
 .rw[Es hl,Es (by rw[<-h.1];exact hl)];simpa[Ef] using h.2 j hl
 .rw[F6 AA,F6 (by rw[<-h.1];omega),<-h.1];have:=g.2 (j - cs.length) (by grind)
  grind
def CellsIn.one{cs:List V}{us:List Value}(h:CellsIn γ w cs us):∀ u∈us,u.oneCell'=true:=by
 intro u hu;obtain⟨j,hj,rfl⟩:=Ou hu;have:=(Ss (h.2 j (by rw[h.1];exact hj))).2
 grind
theorem Xh{m:Nat}:∀ {xs:List (List V)},(∀ i,i<xs.length->(xs.getD i []).length=m)->xs.flatten.length=xs.length*m
 | [],_=>by simp
 | x::xs,h=>by
  have h0:x.length=m:=by simpa using h 0 AE
  rw[Fd,Aq,Xh (m:=m) (xs:=xs) (fun i hi=>by simpa using h (i+1) (by grind)),h0,An,G0];omega
def Ass{m:Nat}:∀ {xs:List (List V)},(∀ i,i<xs.length->(xs.getD i []).length=m)->∀ i j,i<xs.length->j<m->xs.flatten.getD (i*m+j) .und=(xs.getD i []).getD j .und
 | [],_,i,j,hi,_=>by grind
 | x::xs,h,i,j,hi,hj=>by
  have h0:x.length=m:=by simpa using h 0 AE
  have hr:∀ i,i<xs.length->(xs.getD i []).length=m:=fun i hi=>by simpa using h (i+1) (by grind)
  cases i with
  | zero=>
   grind
  | succ i=>
   have ih:=Ass hr i j (by grind) hj
   grind
theorem Ajk(m:Nat):∀ (n:Nat) (cs:List V),n*m<=cs.length->(Fg m n cs).flatten=cs.take (n*m)
 | 0,cs,_=>by simp[Fg]
 | n+1,cs,h=>by
  rw[G0]at h;rw[Fg,Fd,Ajk m n _ (by grind),G0,Aix (n*m) m,List.take_add]
theorem App{xs:List (List V)}{ad:Addr}{cap m:Nat}(hm:0<m)(hw:∀ i,i<xs.length->(xs.getD i []).length=m)(h:RepR γ.κ w (.lst 0 xs) (.slice (some ad) xs.length cap)):
  ∃ us:List Value,CellsIn γ w xs.flatten us/\∀ j u,us[j]?=some u->w.cell? (ad.add j)=some u:=by
 cases h with
 | @lst _ _ _ _ m' row h1 h2 h3 h4 h5 h6 h7=>
 have H4:=Lib.hid h4;clear h4;have jC:0<xs.length->m'=m:=fun hl=>by grind
 refine⟨(List.range (xs.length*m)).map fun q=>row (q / m) (q % m),⟨by grind[Xh],fun j hj=>?_⟩,fun j u hj=>?_⟩
 .rw[Xh hw]at hj
  have hl:0<xs.length:=by
   rcases Ww xs.length with h | h
   .grind
   .exact h
  obtain rfl:=jC hl;have hd:j / m'<xs.length:=Nat.div_lt_of_lt_mul (by grind);have hr:j % m'<m':=O0 _ hm;have jK:j / m'*m'+j % m'=j:=by rw[Aiy];exact Nat.div_add_mod j m'
  have e0:=Ass hw (j / m') (j % m') hd hr;rw[jK]at e0;rw[e0]
  have e1:((List.range (xs.length*m')).map fun q=>row (q / m') (q % m')).getD j undef=row (j / m') (j % m'):=by
   simp[Ef,hj]
  rw[e1];exact .row (h7 _ _ hd hr)
 .have ja:j<xs.length*m:=by
   have:=(Ao.1 hj).1;simpa using this
  have hl:0<xs.length:=by
   rcases Ww xs.length with h | h
   .grind
   .exact h
  obtain rfl:=jC hl;have hs:=(H4.out hl).1;have hd:j / m'<xs.length:=Nat.div_lt_of_lt_mul (by grind);have hr:j % m'<m':=O0 _ hm;have hc:=h6 (j / m') (j % m') hd hr;have jK:j / m'*m'+j % m'=j:=by rw[Aiy];exact Nat.div_add_mod j m'
  rw[Ais,jK]at hc;simp[ja]at hj;subst hj;obtain⟨b,of,sp⟩:=ad
  grind[M8]
def Apj{o:Obj}(h:N<=w.heap.size):Below N w (w.drew.alloc o):=((Below.refl N w).drew).alloc h o
def Ast{us:List Value}{qw:Array Value}{j:Nat}(h:j<us.length):(us.toArray++qw).getD j undef=us.getD j undef:=by
 simp_all [Array.getElem?_append_left]
theorem Asu{cs:List V}{us:List Value}{qw:Array Value}{el:TypeId}{n cap m:Nat}{r:Result Next}(hI:Inv G N γ σ w)(hc:CellsIn γ w cs us)(hn:n<=cap)(kM:cap<=maxLen)(jx:(us.toArray++qw).size=cap*m)
  (h:r=.ok (.value (.slice (some ⟨w.heap.size,0,none⟩) n cap)) (w.drew.alloc (.cells (us.toArray++qw) el))):C1 P G N γ σ w r (.sl σ.length 0 0 n m true) (σ++[.row cs el 0 0]):=by
 obtain⟨d1,d2⟩:=hI.drew
 obtain⟨i1,i2⟩:=d1.newRow (us.toArray++qw) el cs (by rw[hc.1];simp) (fun j hj=>by
  rw[Ast (by rw[<-hc.1];exact hj)]
  exact(hc.2 j hj).ext d2)
 refine⟨_,_,_,.inl h,C9 (Afw ?_ ?_ hn kM),i1,d2.trans i2,Apj hI.base,fun b hb=>Oy _ _ (by have:=hI.base;show b≠w.heap.size;omega)⟩
 .show(γ.O++[(w.heap.size,0)])[σ.length]?=_;rw[<-hI.len];simp
 .have:=Z3 w.drew (us.toArray++qw) el (0,0)
  simp_all
def Amb{x:V}{ux:Value}{ys:List (List V)}{news:List Value}{m bytes:Nat}{el:TypeId}{r:Result Next}(hI:Inv G N γ σ w)(hx:RepV γ w x ux)(hy:CellsIn γ w ys.flatten news)
  (qR:ys.length=0->∀ (b:Option Addr) (n c:Nat),n<=c->ux=.slice b n c->r=.ok (.value (.slice b n c)) w)
  (vE:0<ys.length->ys.length*bytes<=140737488355328->ux=.slice none 0 0->∃ cap qw,r=.ok (.value (.slice (some ⟨w.heap.size,0,none⟩) ys.length cap)) (w.drew.alloc (.cells (news.toArray++qw) el))/\ys.length<=cap/\cap<=maxLen/\(news.toArray++qw).size=cap*m)
  (qQ:∀ (g n cap:Nat) (ql:Array Value) (e':TypeId) (fz:Nat × Nat),w.heap[g]?=some (.cells ql e' fz)->(fz.2<=n*m\/ql.size<=fz.1)->0<ys.length->n+ys.length<=cap->ql.size=cap*m->ux=.slice (some ⟨g,0,none⟩) n cap ->
   r=.ok (.value (.slice (some ⟨g,0,none⟩) (n+ys.length) cap)) (w.setRow g (ql.toList.take (n*m)++news++ql.toList.drop (n*m+news.length)).toArray))
  (qP:∀ (b:Addr) (n cap:Nat) (qk:List Value),qk.length=n*m->(∀ j u,qk[j]?=some u->w.cell? (b.add j)=some u)->0<ys.length->cap<n+ys.length->(n+ys.length)*bytes<=140737488355328->n+ys.length<=maxLen->ux=.slice (some b) n cap ->
   ∃ qz qw,r=.ok (.value (.slice (some ⟨w.heap.size,0,none⟩) (n+ys.length) qz)) (w.drew.alloc (.cells (qk.toArray++news.toArray++qw) el))/\n+ys.length<=qz/\qz<=maxLen/\(qk.toArray++news.toArray++qw).size=qz*m)
  (qt:∀ k,k*bytes<=140737488355328->k<=maxLen)
  (h:Jz bytes (m,el) σ x ys=some (v,σ1)):C1 P G N γ σ w r v σ1:=by
 have qq:ys.isEmpty=true↔ys.length=0:=by cases ys<;>simp
 unfold Jz at h
 split at h
 .rename_i je;obtain⟨kJ,hm⟩:=je;have hm:0<m:=hm
  have vz:∀ i,i<ys.length->(ys.getD i []).length=m:=fun i hi=>by
   grind
  have qK:news.length=ys.length*m:=by rw[<-hy.1,Xh vz]
  split at h
  .have hu:=M7 (Bc rfl hx)
   split at h
   .rename_i qj
    split at h
    .rename_i qZ;cases h;exact Ct hI (qR (qq.1 qZ) none 0 0 (Aj _) hu) (C9 (.row .nils))
    grind[Asu]
   grind
  .rename_i t xs;have kk:=Bc rfl hx;obtain⟨ad,cap,hu,hR,jg⟩:=Ve kk
   split at h
   .rename_i qj
    split at h
    .rename_i qZ;cases h;exact Ct hI (qR (qq.1 qZ) _ _ _ (by cases hR with | lst row h1 h2 h3=>exact h2) hu) (by grind)
    .rename_i qZ;have qD:0<ys.length:=Nat.pos_of_ne_zero fun h=>qZ (qq.2 h)
     split at h
     .rename_i ht;cases h
      have hw:∀ i,i<xs.length->(xs.getD i []).length=m:=fun i hi=>by
       grind
      obtain⟨qk,jb,jq⟩:=App hm hw hR;have vK:=jg ht.1;obtain⟨qz,qw,hr,jH,jI,jz⟩:=qP ad xs.length cap qk (by rw[<-jb.1,Xh hw]) jq qD AA qj (qt _ qj) hu;rw[show qk.toArray++news.toArray=(qk++news).toArray by simp]at hr jz;exact Asu hI (jb.app hy) jH jI jz hr
     grind
   grind
  .rename_i i g off len m' own;have kk:=Bc rfl hx
   split at h
   .rename_i kK;obtain⟨qj,jC⟩:=kK;obtain rfl:m=m':=Eq.symm jC
    split at h
    .rename_i cs ee g' z qI
     split at h
     .rename_i hg;subst hg;obtain⟨blk,cap,o',hb,hu,jp,jx,jJ,jm⟩:=Ak9 (o':=0) hI kk (by grind[Rn]);obtain⟨_,vO,vS,us,lo,hi,g1,⟨_,jF⟩,g2,g3⟩:=hI.obj i _ _ qI hb
      split at h
      .grind[Ct]
      .rename_i qZ;have qD:0<ys.length:=Nat.pos_of_ne_zero fun h=>qZ (qq.2 h)
       split at h
       .rename_i hc;obtain⟨kf,rfl,kP,kE⟩:=hc;obtain rfl:el=ee:=Eq.symm kP;have kD:us.size=cap*m:=by have:=jx kf;simp[Ej,g1]at this;exact this
        have g1:w.heap[blk]?=some (.cells us el (lo,hi)):=g1;have jd:(len+ys.length)*m=len*m+ys.length*m:=Ox _ _ _
        have kv:hi<=len*m\/us.size<=lo:=by
         rcases jF with h | h
         .omega
         .omega
        have ko:∀ j,j<cs.length->RepC γ w (cs.getD j .und) (us.toList.getD j undef):=fun j hj=>by
         grind[Array.getD_eq_getD_getElem?]
        split at h
        .-- El what it has
         rename_i jS;cases h;have qc:len+ys.length<=cap:=Nat.le_of_mul_le_mul_right AA hm;have qF:ux=.slice (some ⟨blk,0,none⟩) len cap:=by rw[hu,jp AA]
         have hr:=qQ blk len cap us el (lo,hi) g1 kv qD qc kD qF;have qX:((us.toList.take (len*m)++news++us.toList.drop (len*m+news.length)).toArray).size=us.size:=by simp;omega
         have kr:(cs.take (len*m)++ys.flatten++cs.drop ((len+ys.length)*m)).length=cs.length:=by
          rw[Aq,Aq,hy.1,qK];simp;omega
         obtain⟨i1,i2⟩:=hI.write (us':=(us.toList.take (len*m)++news++us.toList.drop (len*m+news.length)).toArray) (cs':=cs.take (len*m)++ys.flatten++cs.drop ((len+ys.length)*m)) (g':=g) hb qI g1 ⟨by omega,jF⟩ (Aj _) AA qX AA (fun q hq=>by
          grind) (fun j hj=>by
          rw[kr]at hj;rw[Array.getD_eq_getD_getElem?,Ac0,Ef,jd,show ys.length*m=ys.flatten.length by grind,Ae5 _ _ _ _ (by grind),Ae5 _ _ _ _ (by grind),hy.1]
          split
          .grind
          .split
           .have:=hy.2 (j - len*m) (by grind)
            grind
           grind)
         rw[show(blk,g).1=blk from rfl,Nw hb]at i1 i2;refine⟨_,_,_,.inl hr,C9 (.sl hb (Aj _) qc jm (fun _=>rfl) (fun _=>⟨rfl,fun _=>?_⟩)),i1,i2,Adi _ (hI.low _ _ hb),fun _ _=>rfl⟩
         grind[Ai1]
        .split at h
         .rename_i vk ji;cases h;have kr:(cs++ys.flatten).length=(len+ys.length)*m:=by rw[Aq,hy.1,qK,ji,jd]
          have kB:us.toList.take (len*m)=us.toList.take cs.length:=by rw[ji]
          have qT:CellsIn γ w cs (us.toList.take (len*m)):=⟨by grind,fun j hj=>by
           grind⟩
          by_cases qc:len+ys.length<=cap
          .-- grown in its place
           have qF:ux=.slice (some ⟨blk,0,none⟩) len cap:=by rw[hu,jp AA]
           have hr:=qQ blk len cap us el (lo,hi) g1 kv qD qc kD qF;have vh:(len+ys.length)*m<=cap*m:=E0 _ qc;have qX:((us.toList.take (len*m)++news++us.toList.drop (len*m+news.length)).toArray).size=us.size:=by simp;omega
           obtain⟨i1,i2⟩:=hI.write (us':=(us.toList.take (len*m)++news++us.toList.drop (len*m+news.length)).toArray) (cs':=cs++ys.flatten) (g':=g+1) hb qI g1 ⟨by omega,jF⟩ AA AA qX AA (fun q hq=>by
            grind) (fun j hj=>by
            have:=(qT.app hy).2 j hj;have qN:j<(us.toList.take (len*m)++news).length:=by rw[<-(qT.app hy).1];exact hj
            rw[Array.getD_eq_getD_getElem?,Ac0,Es qN]
            grind)
           refine⟨_,_,_,.inl hr,C9 (.sl (blk:=blk) (g':=g+1) ?_ (Aj _) qc jm (fun _=>rfl) (fun _=>⟨rfl,fun _=>?_⟩)),i1,i2,Adi _ (hI.low _ _ hb),fun _ _=>rfl⟩
           .grind
           grind[Ai1]
          .-- moved
           have jh:∀ j u,(us.toList.take (len*m))[j]?=some u->w.cell? ((⟨blk,o',none⟩:Addr).add j)=some u:=fun j u hj=>by
            have jV:j<len*m:=by have:=(Ao.1 hj).1;simp at this;omega
            have ky:0<len:=by
             rcases Ww len with h | h
             .grind
             .exact h
            rw[jp AA,M8];rw[Wv,if_pos jV,Array.getElem?_toList]at hj
            grind[World.cell?]
           obtain⟨qz,qw,hr,jH,jI,jz⟩:=qP ⟨blk,o',none⟩ len cap (us.toList.take (len*m)) (by grind) jh qD AA qj (qt _ qj) hu;rw[show(us.toList.take (len*m)).toArray++news.toArray=(us.toList.take (len*m)++news).toArray from(List.append_toArray _ _)]at hr jz;obtain⟨d1,d2⟩:=hI.drew;have kL:=qT.app hy
           obtain⟨i1,i2⟩:=d1.moved (us':=(us.toList.take (len*m)++news).toArray++qw) (cs':=cs++ys.flatten) hb qI AA (by grind) (fun j hj=>by
            rw[Ast (by grind)]
            exact(kL.2 j hj).ext d2)
           refine⟨_,_,_,.inl hr,C9 (.sl (blk:=w.heap.size) (g':=g+1) ?_ (Aj _) jH jI (fun _=>rfl) (fun _=>⟨rfl,fun _=>?_⟩)),i1,d2.trans i2,Apj hI.base,fun b hb=>Oy _ _ (by have:=hI.base;show b≠w.heap.size;omega)⟩
           .show(γ.O.set i (w.heap.size,g+1))[i]?=_
            grind
           .have:=Z3 w.drew ((us.toList.take (len*m)++news).toArray++qw) el (0,0);rw[show w.drew.heap.size=w.heap.size from rfl]at this
            grind
         grind
       grind
     grind
    grind
   grind
  grind
 grind
open Go Go.RowKit
variable {P:Program} {G:List (Nat × List V)} {N:Nat} {γ:Gh} {σ σ1:St} {w:World} {e:Env} {a:Act} {o:Oper} {v:V}
def A2o(t ty e:TypeId)(i:TypeInfo)(ht:P.underlying t=some (.slice e))(hi:P.info? e=some i)
  (g qg qy:Nat) (ql:Array Value) (e':TypeId) (fz:Nat × Nat) (hg:w.heap[g]?=some (.cells ql e' fz)) (jA:fz.2<=qg*i.size\/ql.size<=fz.1)
  (b:Addr) (m c:Nat) (news:List Value) (hl:news.length=m*i.size) (jo:∀ j u,news[j]?=some u->w.cell? (b.add j)=some u) (h1:∀ u∈news,u.oneCell'=true)
  (qc:qg+m<=qy) (jN:qg*i.size+news.length<=ql.size) :
  (Builtin.append_ #[t,t] ty #[.slice (some ⟨g,0,none⟩) qg qy,.slice (some b) m c]).run P w =
   .ok (.slice (some ⟨g,0,none⟩) (qg+m) qy) (w.setRow g (ql.toList.take (qg*i.size)++news++ql.toList.drop (qg*i.size+news.length)).toArray):=by
 have hf:=run_firstCells_some (P:=P) w i.size m b m c news hl jo;have jw:=Ac3 P g (qg*i.size) e' fz news 0 ql w hg AA AA h1;simp only[Nt]at jw;simp[Builtin.append_,run_underlying ht,sizeOf,typeInfo,hi,Builtin.lenOf,qc,hf,Addr.add_lit,jw]
def A3r{bytes:Nat}{m:Nat × Nat}{x:V}{ys:List (List V)}(h:Jz bytes m σ x ys=some (v,σ1)):∀ i,i<ys.length->(ys.getD i []).length=m.1:=by
 unfold Jz at h
 grind
def Bcc{t el:TypeId}{fi:TypeInfo}{z:Value}{x y:Operand}{s1 s2:S}(ho:o.op=.call { callee:=.builtin .append,args:=#[x,y],argTypes:=#[t,t] })(ht:P.underlying t=some (.slice el))(qm:P.info? el=some fi)(hz:fi.zero=some z)(hzs:z.cells.size=fi.size)(jx:0<fi.size)(jf:0<fi.bytes)
  (hx:RepV γ w (Ac e s1) (a.eval x)) (hy:RepV γ w (Ac e s2) (a.eval y)) (hI:Inv G N γ σ w)
  (h:Ad (.app fi.bytes (fi.size,el) s1 s2) e σ=some (v,σ1)):C1 P G N γ σ w ((execOp a.eval o).run P w) v σ1:=by
 simp only[Ad,Ez]at h;obtain⟨ys,qO,h⟩:=h;have kj:=A3r h
 have qt:∀ k,k*fi.bytes<=140737488355328->k<=maxLen:=fun k hk=>by
  have:k<=k*fi.bytes:=Acz _ jf
  grind[maxLen]
 have qu:∀ {u:Value} {w':World},(Builtin.append_ #[t,t] o.type #[a.eval x,a.eval y]).run P w=.ok u w'->(execOp a.eval o).run P w=.ok (.value u) w':=fun hr=>by
  simp only[execOp,ho,resolve,invoke,builtin,Sem.run_bind,Sem.run_pure,Result.andThen_ok,List.map_toArray,Aw,B0,hr]
 have ki:(ys=[]/\a.eval y=.slice none 0 0)\/∃ ad c news,a.eval y=.slice (some ad) ys.length c/\CellsIn γ w ys.flatten news/\∀ j u,news[j]?=some u->w.cell? (ad.add j)=some u:=by
  unfold Eu at qO
  split at qO
  .rename_i e2;rw[e2]at hy;cases qO;exact .inl ⟨rfl,M7 (Bc rfl hy)⟩
  .rename_i t' vV e2;rw[e2]at hy;cases qO;obtain⟨ad,c,hu,hR,_⟩:=Ve (Bc rfl hy)
   grind[App]
  .rename_i i g off len m' own e2;rw[e2]at hy
   split at qO
   .rename_i cs ee g' z qI
    split at qO
    .rename_i hc;obtain⟨rfl,rfl,qV⟩:=hc;cases qO;obtain⟨blk,cap,o',hb,hu,jp,_,jJ,_⟩:=Ak9 (o':=0) hI (Bc rfl hy) (by grind[Rn]);obtain⟨_,_,_,us,lo,hi,g1,_,g2,g3⟩:=hI.obj i _ _ qI hb;have g1:w.heap[blk]?=some (.cells us ee (lo,hi)):=g1;refine .inr ⟨⟨blk,o',none⟩,cap,(us.toList.drop off).take (len*fi.size),by grind[Aka],⟨?_,fun j hj=>?_⟩,fun j u hj=>?_⟩
     .grind[Ajk]
     .grind[Ajk,Array.getD_eq_getD_getElem?]
     .have jV:j<len*fi.size:=by have:=(Ao.1 hj).1;simp at this;omega
      have kx:0<len:=by
       rcases Ww len with h | h
       .grind
       .exact h
      rw[jp AA,M8]
      simp_all [World.cell?]
    grind
   grind
  .cases qO
 rcases ki with⟨rfl,hu⟩ | ⟨ad,c,news,hu,ka,kb⟩
 .refine Amb (news:=[]) (el:=el) (bytes:=fi.bytes) hI hx ⟨by simp,fun i hi=>absurd hi AE⟩ (fun _ b n c jn qi=>qu ?_) (fun h=>absurd h AE) (fun _ _ _ _ _ _ _ _ h=>absurd h AE) (fun _ _ _ _ _ _ h=>absurd h AE) qt h
  .rw[qi,hu]
   cases b<;>simp[Builtin.append_,run_underlying ht,sizeOf,typeInfo,qm,Builtin.lenOf,Builtin.firstCells,storeCells,jn]
 .have qK:news.length=ys.length*fi.size:=by rw[<-ka.1,Xh kj]
  have kc:=ka.one;refine Amb (news:=news) (el:=el) (bytes:=fi.bytes) hI hx ka (fun h0 b n c' jn qi=>qu ?_) (fun hp hb qi=>?_) (fun g n cap ql e' fz hg jA hp qc qI qi=>qu ?_) (fun b n cap qk jb jq _ hc hb hm qi=>?_) qt h
  .have vP:news=[]:=List.eq_nil_of_length_eq_zero (by grind);rw[qi,hu,h0]
   cases b<;>simp[Builtin.append_,run_underlying ht,sizeOf,typeInfo,qm,Builtin.lenOf,Builtin.firstCells,loadCells,loadCellsFrom,storeCells,jn]
  .have hr:=run_append_nil (P:=P) w t o.type el fi z ht qm hz ad ys.length c news qK kb hp (by grind[maxLen]) AA;refine⟨_,_,qu (by rw[qi,hu];exact hr),grownCap_ge _ _ _ _,grownCap_le_maxLen _ _ _ _ (qt _ hb),?_⟩;have:=grownCap_ge w ys.length 0 el;simp only[Array.size_append,List.size_toArray,size_zeroCells,hzs,qK,<-Ox]
   grind
  .rw[qi,hu];refine A2o (P:=P) t o.type el fi ht qm g n cap ql e' fz hg jA ad ys.length c news qK kb kc qc ?_;rw[qK,qI,<-Ox]
   simp_all [E0]
  .have hr:=run_append_grow (P:=P) w t o.type el fi z ht qm hz b n cap qk jb jq ad ys.length c news qK kb hc (by grind[maxLen]) (growslice_fits hc hb);refine⟨_,_,qu (by rw[qi,hu];exact hr),grownCap_ge _ _ _ _,grownCap_le_maxLen _ _ _ _ hm,?_⟩;have:=grownCap_ge w (n+ys.length) cap el;simp only[Array.size_append,List.size_toArray,size_zeroCells,hzs,qK,jb,<-Ox]
   grind
def A2n(t u ty e:TypeId)(i:TypeInfo)(ht:P.underlying t=some (.slice e))(hu:P.underlying u=some .string)(hi:P.info? e=some i)(jt:i.size=1)
  (g qg qy:Nat) (ql:Array Value) (e':TypeId) (fz:Nat × Nat) (hg:w.heap[g]?=some (.cells ql e' fz)) (jA:fz.2<=qg\/ql.size<=fz.1) (s:ByteArray)
  (qc:qg+s.size<=qy) (jN:qg+s.size<=ql.size) :
  (Builtin.append_ #[t,u] ty #[.slice (some ⟨g,0,none⟩) qg qy,.string s]).run P w =
   .ok (.slice (some ⟨g,0,none⟩) (qg+s.size) qy) (w.setRow g (ql.toList.take qg++Lib.strCells s++ql.toList.drop (qg+s.size)).toArray):=by
 have hf:=Lib.run_firstCells_string (P:=P) w 1 s;have jw:=Ac3 P g qg e' fz (Lib.strCells s) 0 ql w hg AA (by grind[Lib.strCells_length]) (Lib.strCells_oneCell s);simp only[Nt,Lib.strCells_length]at jw;simp[Builtin.append_,run_underlying ht,run_underlying hu,sizeOf,typeInfo,hi,jt,Builtin.lenOf,qc,hf,Addr.add_lit,jw]
def Zn(l:List UInt8):(B6 l).length=l.length:=by simp[B6]
def A2r(l:List UInt8):(B6 l).flatten=l.map fun c=>V.int .u8 (c.toNat:Int):=by
 induction l with
 | nil=>rfl
 | cons c l ih=>grind[B6]
def A20(l:List UInt8):CellsIn γ w (B6 l).flatten (Lib.strCells ⟨l.toArray⟩):=by
 rw[A2r];refine⟨by simp[Lib.strCells],fun j hj=>?_⟩;have ja:j<l.length:=by simpa using hj
 have e1:(l.map fun c=>V.int .u8 (c.toNat:Int)).getD j .und=.int .u8 (l[j].toNat:Int):=by simp[Ef,ja]
 have e2:(Lib.strCells ⟨l.toArray⟩).getD j undef=.int .u8 (l[j].toNat:Int):=by simp[Lib.strCells,Ef,ja]
 rw[e1,e2];exact .row .int
def A77{t u el:TypeId}{fi:TypeInfo}{z:Value}{x y:Operand}{s1 s2:S}(ho:o.op=.call { callee:=.builtin .append,args:=#[x,y],argTypes:=#[t,u] })(ht:P.underlying t=some (.slice el))(hu:P.underlying u=some .string)(qm:P.info? el=some fi)(hz:fi.zero=some z)(hzs:z.cells.size=1)(jx:fi.size=1)(jf:fi.bytes=1)
  (hx:RepV γ w (Ac e s1) (a.eval x)) (hy:RepV γ w (Ac e s2) (a.eval y)) (hI:Inv G N γ σ w)
  (h:Ad (.apps el s1 s2) e σ=some (v,σ1)):C1 P G N γ σ w ((execOp a.eval o).run P w) v σ1:=by
 simp only[Ad]at h
 split at h
 .rename_i l e2;rw[e2]at hy;obtain⟨hv,hl⟩:=G5 (Bc rfl hy);have qt:∀ k,k*1<=140737488355328->k<=maxLen:=fun k hk=>by grind[maxLen]
  have qu:∀ {u':Value} {w':World},(Builtin.append_ #[t,u] o.type #[a.eval x,a.eval y]).run P w=.ok u' w'->(execOp a.eval o).run P w=.ok (.value u') w':=fun hr=>by
   simp only[execOp,ho,resolve,invoke,builtin,Sem.run_bind,Sem.run_pure,Result.andThen_ok,List.map_toArray,Aw,B0,hr]
  have vg:(⟨l.toArray⟩:ByteArray).size=l.length:=Na l;have vR:(Lib.strCells ⟨l.toArray⟩).length=l.length:=by rw[Lib.strCells_length,Na]
  refine Amb (news:=Lib.strCells ⟨l.toArray⟩) (el:=el) (bytes:=1) (m:=1) hI hx (A20 l) (fun h0 b n c' jn qi=>qu ?_) (fun hp hb qi=>?_) (fun g n cap ql e' fz hg jA hp qc qI qi=>qu ?_) (fun b n cap qk jb jq _ hc hb hm qi=>?_) qt h
  .rw[Zn]at h0;have kx:l=[]:=List.eq_nil_of_length_eq_zero h0;subst kx;rw[qi,hv]
   cases b<;>simp[Builtin.append_,run_underlying ht,run_underlying hu,sizeOf,typeInfo,qm,Builtin.lenOf,Builtin.firstCells,storeCells,Na,jn]
  .rw[Zn]at hp hb ⊢;have hr:=run_append_nil_string (P:=P) w t u o.type el fi z ht hu qm hz ⟨l.toArray⟩ AA AA (by grind)
   grind[Lib.strCells,grownCap_ge,grownCap_le_maxLen,size_zeroCells]
  .rw[Zn]at hp qc ⊢;have hr:=A2n (P:=P) (w:=w) t u o.type el fi ht hu qm jx g n cap ql e' fz hg AA ⟨l.toArray⟩ AA AA
   grind
  .rw[Zn]at hc hb hm ⊢;have hr:=Lib.run_append_grow_string (P:=P) w t u o.type el fi z ht hu qm hz b n cap qk (by grind) jq ⟨l.toArray⟩ AA AA (by rw[vg,jf];exact growslice_fits hc hb)
   grind[grownCap_ge,grownCap_le_maxLen,size_zeroCells]
 grind
def Asv{t:TypeId}{d:TypeDesc}{fi:TypeInfo}{n off:Nat}{one:Bool}{cs:List V}{us:List Value}{v:V}(ht:P.underlying t=some d)(hd:Po d=!one)(qm:P.info? t=some fi)(hn:fi.size=n)
  (hl:cs.length=us.length) (hj:∀ j,j<cs.length->RepC γ w (cs.getD j .und) (us.getD j undef)) (qV:off+n<=cs.length) (h:Hp one ((cs.drop off).take n)=some v) :
  ∃ u,(part t us.toArray off).run P w=.ok u w/\RepV γ w v u:=by
 have qp:((cs.drop off).take n).length=n:=by simp;omega
 have hr:∀ j,j<n->RepC γ w (((cs.drop off).take n).getD j .und) (us.getD (off+j) undef):=fun j vN=>by
  grind
 obtain⟨m1,m2⟩:=Ajh (f:=fun j=>us.getD (off+j) undef) h qp hr;have kI:=Aji (P:=P) (w:=w) ht;rw[hd]at kI
 cases one with
 | true=>
  obtain⟨h1,h2⟩:=m1 rfl;have qx:off<us.length:=by omega
  simp_all [C9,part]
 | false=>
  refine⟨_,?_,.one (m2 rfl)⟩
  have e2:us.toArray.extract off (off+n)=((List.range n).map fun j=>us.getD (off+j) undef).toArray:=by
   apply Array.ext
   .grind
   .grind
  simp_all [part,sizeOf,typeInfo]
def Bcd{t:TypeId}{fs:Array Field}{f:Field}{d:TypeDesc}{fi:TypeInfo}{i off n:Nat}{one:Bool}{x:Operand}{s:S}(ho:o.op=.field t x i)(hs:P.underlying t=some (.struct fs))(hf:fs[i]?=some f)(vl:f.offset=off)
  (ht:P.underlying f.type=some d) (hd:Po d=!one) (qm:P.info? f.type=some fi) (hn:fi.size=n)
  (hx:RepV γ w (Ac e s) (a.eval x)) (hI:Inv G N γ σ w) (h:Ad (.fld off n one s) e σ=some (v,σ1)):C1 P G N γ σ w ((execOp a.eval o).run P w) v σ1:=by
 simp only[Ad]at h
 split at h
 .rename_i cs e1;rw[e1]at hx;obtain⟨us,hu,hl,hj⟩:=Sy hx
  split at h
  .rename_i qV;simp only[Cf]at h;obtain⟨v',h,h2⟩:=h;cases h2;obtain⟨u,hr,hv⟩:=Asv (P:=P) ht hd qm hn hl hj qV h
   simp_all [Ct,execOp,Instr.field,run_underlying,asAgg]
  grind
 grind
def Bce{t el:TypeId}{d:TypeDesc}{fi:TypeInfo}{len m:Nat}{one:Bool}{x y:Operand}{s1 s2:S}(ho:o.op=.index t x y)(hs:P.underlying t=some (.array len el))
  (ht:P.underlying el=some d) (hd:Po d=!one) (qm:P.info? el=some fi) (hn:fi.size=m)
  (hx:RepV γ w (Ac e s1) (a.eval x)) (hy:RepV γ w (Ac e s2) (a.eval y)) (hI:Inv G N γ σ w) (h:Ad (.ida len m one s1 s2) e σ=some (v,σ1)):C1 P G N γ σ w ((execOp a.eval o).run P w) v σ1:=by
 simp only[Ad]at h
 split at h
 .rename_i k n e2;rw[e2]at hy;have qv:=Et (Bc rfl hy)
  split at h
  .rename_i hb
   split at h
   .rename_i cs e1;rw[e1]at hx;obtain⟨us,hu,hl,hj⟩:=Sy hx
    split at h
    .rename_i qV;simp only[Cf]at h;obtain⟨v',h,h2⟩:=h;cases h2;obtain⟨u,hr,hv⟩:=Asv (P:=P) ht hd qm hn hl hj qV h
     simp_all [Ct,execOp,Instr.index,asIntOf,run_underlying,sizeOf,typeInfo]
    grind
   grind
  grind
 grind
/-! strings of bytes -/
/-! strings to bytes -/
open Go Go.RowKit
variable {P:Program} {G:List (Nat × List V)} {N:Nat} {γ:Gh} {σ σ1:St} {w:World} {e:Env} {a:Act} {o:Oper} {v:V}
theorem A2p{t:TypeId}(ht:P.underlying t=some .bool)(p q:Bool):(Op.equal t (.bool p) (.bool q)).run P w=.ok (p==q) w:=
 have h:∀ d,(Op.equalIn (d+1) t (.bool p) (.bool q)).run P w=.ok (p==q) w:=fun d=>by simp[Op.equalIn,run_underlying ht]
 h 9999
def Aik{t el:TypeId}(ht:P.underlying t=some (.slice el))(n c:Nat)(b:Option Addr)(n' c':Nat):(Op.equal t (.slice none n c) (.slice b n' c')).run P w=.ok b.isNone w:=
 have h:∀ d,(Op.equalIn (d+1) t (.slice none n c) (.slice b n' c')).run P w=.ok b.isNone w:=fun d=>by simp[Op.equalIn,run_underlying ht]
 h 9999
def Apk{t el:TypeId}(ht:P.underlying t=some (.slice el))(n c:Nat)(b:Addr)(n' c':Nat):(Op.equal t (.slice (some b) n' c') (.slice none n c)).run P w=.ok false w:=
 have h:∀ d,(Op.equalIn (d+1) t (.slice (some b) n' c') (.slice none n c)).run P w=.ok false w:=fun d=>by simp[Op.equalIn,run_underlying ht]
 h 9999
def Aiq{t el:TypeId}(ht:P.underlying t=some (.pointer el))(b:Option Addr):(Op.equal t (.pointer none) (.pointer b)).run P w=.ok b.isNone w:=
 have h:∀ d,(Op.equalIn (d+1) t (.pointer none) (.pointer b)).run P w=.ok b.isNone w:=fun d=>by simp[Op.equalIn,run_underlying ht]
 h 9999
def Apl{t el:TypeId}(ht:P.underlying t=some (.pointer el))(b:Addr):(Op.equal t (.pointer (some b)) (.pointer none)).run P w=.ok false w:=
 have h:∀ d,(Op.equalIn (d+1) t (.pointer (some b)) (.pointer none)).run P w=.ok false w:=fun d=>by simp[Op.equalIn,run_underlying ht]
 h 9999
def Aao{qo:Bool}{t ty:TypeId}{x y:Operand}{z:Bool}(ho:o.op=.binOp (if qo then .neq else .eql) t x y ty)(hg:(eqGuard (if qo then .neq else .eql) t x y (a.eval x) (a.eval y)).run P w=.ok () w)
  (hb:(binOp .eql t (a.eval x) (a.eval y))=(do pure (.bool (<-Op.equal t (a.eval x) (a.eval y))))) (vI:(binOp .neq t (a.eval x) (a.eval y))=(do pure (.bool (!(<-Op.equal t (a.eval x) (a.eval y))))))
  (hr:(Op.equal t (a.eval x) (a.eval y)).run P w=.ok z w):(execOp a.eval o).run P w=.ok (.value (.bool (z != qo))) w:=by
 cases qo
 .simp_all [execOp]
 simp_all [execOp]
def To(P:Program)(t:TypeId)(k:Nat):Bool:=match P.underlying t,k with
 | some .bool,0 | some (.int _),1 | some .string,2=>true
 | _,_=>false
def X3(P:Program):List Field->Nat->List Nat->Bool
 | [],_,[]=>true
 | f::fs,k,c::ks=>f.offset==k&&(f.name != "_"&&(To P f.type c&&X3 P fs (k+1) ks))
 | _,_,_=>false
def Aei{t:TypeId}{c:Nat}(h:To P t c=true){us:Array Value}{k:Nat}{u:Value}(hu:us[k]?=some u):(part t us k).run P w=.ok u w:=by
 unfold To at h
 have key:∀ d,P.underlying t=some d->Po d=false->(part t us k).run P w=.ok u w:=fun d hd ha=>by
  simp_all [Aji,part]
 split at h
 .rename_i hd;exact key _ hd rfl
 .rename_i hd;exact key _ hd rfl
 .rename_i hd;exact key _ hd rfl
 grind
def Avx{t:TypeId}{c:Nat}(h:To P t c=true){x y:V}{z:Bool}{u u':Value}(hu:RepC γ w x u)(qF:RepC γ w y u')(hz:eqS c x y=some z)(d:Nat):(Op.equalIn (d+1) t u u').run P w=.ok z w:=by
 unfold To at h;unfold eqS at hz
 split at hz
 .cases hz;rw[Py hu,Py qF]
  split at h
  .rename_i hd _;simp[Op.equalIn,run_underlying hd]
  .omega
  .omega
  grind
 .split at hz
  .rename_i hk;subst hk;cases hz;rw[Et hu,Et qF]
   split at h
   .omega
   .rename_i hd _;simp[Op.equalIn,run_underlying hd]
   .omega
   grind
  grind
 .rename_i l l';cases hz;rw[(G5 hu).1,(G5 qF).1]
  split at h
  .omega
  .omega
  .rename_i hd _;simp only[Op.equalIn,run_underlying hd,Sem.run_bind,Result.andThen_ok,Sem.run_pure,beq_toListBytes,ByteArray.toList_eq]
  grind
 grind
def Aq7{d:Nat}:∀ {fs:List Field} {k:Nat} {ks:List Nat} {as bs:List V} {us vs:Array Value} {z:Bool},X3 P fs k ks=true->Mf ks as bs=some z->(∀ j,j<ks.length->∃ u,us[k+j]?=some u/\RepC γ w (as.getD j .und) u)->(∀ j,j<ks.length->∃ u,vs[k+j]?=some u/\RepC γ w (bs.getD j .und) u) ->
  (Op.eqFields (d+1) us vs fs).run P w=.ok z w
 | [],k,[],as,bs,us,vs,z,_,h,_,_=>by
  cases as<;>cases bs<;>simp[Mf]at h
  subst h;rfl
 | f::fs,k,c::ks,as,bs,us,vs,z,qa,h,ha,hb=>by
  simp only[X3,Ai,beq_iff_eq,bne_iff_ne]at qa;obtain⟨h1,h2,h3,h4⟩:=qa
  cases as with
  | nil=>grind[Mf]
  | cons x r=>
  cases bs with
  | nil=>grind[Mf]
  | cons y s=>
  obtain⟨u,hu,kg⟩:=ha 0 AE;obtain⟨u',qF,qW⟩:=hb 0 AE;simp only[Mf,Ez]at h;obtain⟨z1,kl,h⟩:=h;have e1:=Avx (P:=P) h3 kg qW kl d;have p1:=Aei (P:=P) (w:=w) h3 (us:=us) (k:=f.offset) (by rw[h1];exact hu);have p2:=Aei (P:=P) (w:=w) h3 (us:=vs) (k:=f.offset) (by rw[h1];exact qF);unfold Op.eqFields;simp only[ne_eq,h2,not_false_eq_true,if_true,Sem.run_bind,p1,p2,Result.andThen_ok,e1]
  cases z1 with
  | false=>
   simp_all
  | true=>
   simp only[if_true]at h
   have ih:=Aq7 (d:=d) (us:=us) (vs:=vs) h4 h (fun j hj=>by
    have:=ha (j+1) (by grind)
    grind) (fun j hj=>by
    have:=hb (j+1) (by grind)
    grind)
   simp[ih]
 | [],_,_::_,_,_,_,_,_,h,_,_,_=>by grind[X3]
 | _::_,_,[],_,_,_,_,_,h,_,_,_=>by grind[X3]
def Asw{d c:Nat}{el:TypeId}{us vs:Array Value}(h1:To P el c=true):∀ (m k:Nat) (as bs:List V) (z:Bool),Mf (List.replicate m c) as bs=some z->(∀ j,j<m->∃ u,us[k+j]?=some u/\RepC γ w (as.getD j .und) u)->(∀ j,j<m->∃ u,vs[k+j]?=some u/\RepC γ w (bs.getD j .und) u) ->
  (forIn (List.range' k m) ((none,()):Option Bool × Unit) (fun i (_:Option Bool × Unit)=>do
   let x <-part el us (i*1)
   let y <-part el vs (i*1)
   let z <-Op.equalIn (d+1) el x y
   if(!z)=true then pure (ForInStep.done (some false,())) else pure (ForInStep.yield (none,())):Nat->Option Bool × Unit->Sem (ForInStep (Option Bool × Unit)))).run P w=.ok (if z=true then(none,()) else(some false,())) w
 | 0,k,as,bs,z,h,_,_=>by
  cases as<;>cases bs<;>simp[Mf]at h
  simp_all
 | m+1,k,as,bs,z,h,ha,hb=>by
  rw[Ac4]at h
  cases as with
  | nil=>grind[Mf]
  | cons x r=>
  cases bs with
  | nil=>grind[Mf]
  | cons y s=>
  obtain⟨u,hu,kg⟩:=ha 0 AA;obtain⟨u',qF,qW⟩:=hb 0 AA;simp only[Mf,Ez]at h;obtain⟨z1,kl,h⟩:=h;have e1:=Avx (P:=P) h1 kg qW kl d;have p1:=Aei (P:=P) (w:=w) h1 (us:=us) (k:=k) hu;have p2:=Aei (P:=P) (w:=w) h1 (us:=vs) (k:=k) qF;rw[List.range'_succ,List.forIn_cons];simp only[Sem.run_bind,Zr,p1,p2,Result.andThen_ok,e1]
  cases z1 with
  | false=>
   simp_all
  | true=>
   simp only[if_true]at h
   have ih:=Asw (d:=d) h1 m (k+1) r s z h (fun j hj=>by
    have:=ha (j+1) AA;rw[show k+(j+1)=k+1+j by omega]at this
    simpa using this) (fun j hj=>by
    have:=hb (j+1) AA;rw[show k+(j+1)=k+1+j by omega]at this
    simpa using this)
   simp_all
def Bhe{d n c:Nat}{t el:TypeId}{fi:TypeInfo}{us vs:Array Value}{as bs:List V}{z:Bool}(ht:P.underlying t=some (.array n el))(qm:P.info? el=some fi)(hs:fi.size=1)(h1:To P el c=true)(h:Mf (List.replicate n c) as bs=some z)
  (ha:∀ j,j<n->∃ u,us[j]?=some u/\RepC γ w (as.getD j .und) u) (hb:∀ j,j<n->∃ u,vs[j]?=some u/\RepC γ w (bs.getD j .und) u):(Op.equalIn (d+2) t (.agg us) (.agg vs)).run P w=.ok z w:=by
 rw[Op.equalIn];simp only[Sem.run_bind,run_underlying ht,Result.andThen_ok,sizeOf,typeInfo];simp only[run_program,Result.andThen_ok,qm,Sem.run_pure,hs];rw[Std.Legacy.Range.forIn_eq_forIn_range'];have:=Asw (d:=d) h1 n 0 as bs z h (fun j hj=>by simpa using ha j hj) (fun j hj=>by simpa using hb j hj);simp[Std.Legacy.Range.size]at this ⊢;rw[this]
 cases z<;>simp
def Ae6:Operand->Bool
 | .const _=>true
 | _=>false
def Aod(P:Program)(k:EqK)(t:TypeId)(x y:Operand):Bool:=
 match k,P.underlying t with
 | .bool,some .bool=>true
 | .nilsl,some (.slice _)=>true
 | .nilpt,some (.pointer _)=>true
 | .nilfn,some (.func _ _ _)=>true
 | .nilif,some (.interface _)=>Ae6 x||Ae6 y
 | .flat ks,some (.struct fs)=>X3 P fs.toList 0 ks&&(!P.stoodInHeld t&&!P.eqGuardType P.depth t)
 | .flat ks,some (.array n el)=>ks==List.replicate n (ks.headD 1)&&(To P el (ks.headD 1)&&((match P.info? el with
  | some fi=>fi.size==1
  | none=>false)&&!P.eqGuardType P.depth t))
 | _,_=>false
def Bhf{k:EqK}{qo:Bool}{t ty:TypeId}{x y:Operand}{s1 s2:S}(ho:o.op=.binOp (if qo then .neq else .eql) t x y ty)(hk:Aod P k t x y=true)(hx:RepV γ w (Ac e s1) (a.eval x))(hy:RepV γ w (Ac e s2) (a.eval y))(hI:Inv G N γ σ w)
  (h:Ad (.eq k qo s1 s2) e σ=some (v,σ1)):C1 P G N γ σ w ((execOp a.eval o).run P w) v σ1:=by
 simp only[Ad,Cf]at h;obtain⟨z,h,h2⟩:=h
 .cases h2
  have qn:∀ b n c b' n' c',a.eval x=.slice b n c->a.eval y=.slice b' n' c'->(Op.equal t (.slice b n c) (.slice b' n' c')).run P w=.ok z w->C1 P G N γ σ w ((execOp a.eval o).run P w) (.bool (z != qo)) σ:=fun b n c b' n' c' qi qv hr=>by
   refine Ct hI (Aao (z:=z) ho ?_ ?_ ?_ ?_) P5<;>rw[qi,qv]
   .simp[eqGuard]
   .rfl
   .rfl
   omega
  have qG:∀ b b',a.eval x=.pointer b->a.eval y=.pointer b'->(Op.equal t (.pointer b) (.pointer b')).run P w=.ok z w->C1 P G N γ σ w ((execOp a.eval o).run P w) (.bool (z != qo)) σ:=fun b b' qi qv hr=>by
   refine Ct hI (Aao (z:=z) ho ?_ ?_ ?_ ?_) P5<;>rw[qi,qv]
   .simp[eqGuard]
   .rfl
   .rfl
   omega
  have kH:∀ {s:S} {X:Value} {i g off len m:Nat} {own:Bool},Ac e s=.sl i g off len m own->RepV γ w (Ac e s) X->∃ ad cap,X=.slice (some ad) len cap:=fun {s X i g off len m own} e1 hX=>by
   rw[e1]at hX;obtain⟨b',o',cap,_,_,hu,_⟩:=Xr (Bc rfl hX)
   grind
  have kG:∀ {s:S} {X:Value} {i g off:Nat},Ac e s=.ptr i g off->RepV γ w (Ac e s) X->∃ ad,X=.pointer (some ad):=fun {s X i g off} e1 hX=>by
   rw[e1]at hX;obtain⟨b',_,_,hu,_⟩:=P4 (Bc rfl hX)
   grind
  unfold Aod at hk
  split at hk
  .rename_i ht;simp only[Om]at h;unfold eqB at h
   split at h
   .rename_i p q e1 e2;rw[e1]at hx;rw[e2]at hy;have qi:=Py (Bc rfl hx);have qv:=Py (Bc rfl hy);cases h
    refine Ct hI (Aao (z:=p==q) ho ?_ ?_ ?_ ?_) P5<;>rw[qi,qv]
    .simp[eqGuard]
    .rfl
    .rfl
    grind[A2p]
   grind
  .rename_i el ht;simp only[Om]at h;unfold An8 at h
   split at h
   .rename_i e1 e2;rw[e1]at hx;rw[e2]at hy;cases h;exact qn _ _ _ _ _ _ (M7 (Bc rfl hx)) (M7 (Bc rfl hy)) (Aik ht _ _ _ _ _)
   .rename_i e1 e2;rw[e1]at hx;rw[e2]at hy;obtain⟨ad,cap,hu,_⟩:=Ve (Bc rfl hy);cases h;exact qn _ _ _ _ _ _ (M7 (Bc rfl hx)) hu (Aik ht _ _ _ _ _)
   .rename_i e1 e2;rw[e1]at hx;rw[e2]at hy;obtain⟨ad,cap,hu,_⟩:=Ve (Bc rfl hx);cases h;exact qn _ _ _ _ _ _ hu (M7 (Bc rfl hy)) (Apk ht _ _ _ _ _)
   .rename_i e1 e2;obtain⟨ad,cap,hu⟩:=kH e2 hy;rw[e1]at hx;cases h;exact qn _ _ _ _ _ _ (M7 (Bc rfl hx)) hu (Aik ht _ _ _ _ _)
   .rename_i e1 e2;obtain⟨ad,cap,hu⟩:=kH e1 hx;rw[e2]at hy;cases h;exact qn _ _ _ _ _ _ hu (M7 (Bc rfl hy)) (Apk ht _ _ _ _ _)
   grind
  .rename_i el ht;simp only[Om]at h;unfold An9 at h
   split at h
   .rename_i e1 e2;rw[e1]at hx;rw[e2]at hy;cases h;exact qG _ _ (U7 (Bc rfl hx)) (U7 (Bc rfl hy)) (Aiq ht _)
   .rename_i e1 e2;obtain⟨ad,hu⟩:=kG e2 hy;rw[e1]at hx;cases h;exact qG _ _ (U7 (Bc rfl hx)) hu (Aiq ht _)
   .rename_i e1 e2;obtain⟨ad,hu⟩:=kG e1 hx;rw[e2]at hy;cases h;exact qG _ _ hu (U7 (Bc rfl hy)) (Apl ht _)
   .rename_i e1 e2;rw[e1]at hx;rw[e2]at hy;obtain⟨_,_,_,_,hu,_⟩:=Nx (Bc rfl hy);cases h;exact qG _ _ (U7 (Bc rfl hx)) hu (Aiq ht _)
   .rename_i e1 e2;rw[e1]at hx;rw[e2]at hy;obtain⟨_,_,_,_,hu,_⟩:=Nx (Bc rfl hx);cases h;exact qG _ _ hu (U7 (Bc rfl hy)) (Apl ht _)
   grind
  .rename_i ps rs va ht;have kV:∀ d,(Op.equalIn (d+1) t .nilFunc .nilFunc).run P w=.ok true w:=fun d=>by simp[Op.equalIn,run_underlying ht]
   have jP:∀ d f p q,(Op.equalIn (d+1) t (.func f p q) .nilFunc).run P w=.ok false w:=fun d f p q=>by simp[Op.equalIn,run_underlying ht]
   have jQ:∀ d f p q,(Op.equalIn (d+1) t .nilFunc (.func f p q)).run P w=.ok false w:=fun d f p q=>by simp[Op.equalIn,run_underlying ht]
   have qS:∀ X Y,a.eval x=X->a.eval y=Y->(eqGuard (if qo then .neq else .eql) t x y X Y).run P w=.ok () w->(binOp .eql t X Y)=(do pure (.bool (<-Op.equal t X Y)))->(binOp .neq t X Y)=(do pure (.bool (!(<-Op.equal t X Y))))->(Op.equal t X Y).run P w=.ok z w->C1 P G N γ σ w ((execOp a.eval o).run P w) (.bool (z != qo)) σ:=fun X Y qi qv q1 q2 q3 q4=>by
    subst qi qv;exact Ct hI (Aao (z:=z) ho q1 q2 q3 q4) P5
   simp only[Om]at h;unfold Aoa at h
   split at h
   .rename_i e1 e2;rw[e1]at hx;rw[e2]at hy;cases h;exact qS _ _ (Ad3 (Bc rfl hx)) (Ad3 (Bc rfl hy)) (by simp[eqGuard]) rfl rfl (kV 9999)
   .rename_i e1 e2;rw[e1]at hx;rw[e2]at hy;obtain⟨ua,uc,hu,_⟩:=Ak8 (Bc rfl hx);cases h;exact qS _ _ hu (Ad3 (Bc rfl hy)) (by simp[eqGuard]) rfl rfl (jP 9999 _ _ _)
   .rename_i e1 e2;rw[e1]at hx;rw[e2]at hy;obtain⟨ua,uc,hu,_⟩:=Ak8 (Bc rfl hy);cases h;exact qS _ _ (Ad3 (Bc rfl hx)) hu (by simp[eqGuard]) rfl rfl (jQ 9999 _ _ _)
   grind
  .rename_i ms ht;have jS:∀ d,(Op.equalIn (d+1) t .nilIface .nilIface).run P w=.ok true w:=fun d=>by simp[Op.equalIn,run_underlying ht]
   have jT:∀ d f p,(Op.equalIn (d+1) t (.iface f p) .nilIface).run P w=.ok false w:=fun d f p=>by simp[Op.equalIn,run_underlying ht]
   have jU:∀ d f p,(Op.equalIn (d+1) t .nilIface (.iface f p)).run P w=.ok false w:=fun d f p=>by simp[Op.equalIn,run_underlying ht]
   have qS:∀ X Y,a.eval x=X->a.eval y=Y->(eqGuard (if qo then .neq else .eql) t x y X Y).run P w=.ok () w->(binOp .eql t X Y)=(do pure (.bool (<-Op.equal t X Y)))->(binOp .neq t X Y)=(do pure (.bool (!(<-Op.equal t X Y))))->(Op.equal t X Y).run P w=.ok z w->C1 P G N γ σ w ((execOp a.eval o).run P w) (.bool (z != qo)) σ:=fun X Y qi qv q1 q2 q3 q4=>by
    subst qi qv;exact Ct hI (Aao (z:=z) ho q1 q2 q3 q4) P5
   have qU:(eqGuard (if qo then .neq else .eql) t x y .nilIface .nilIface).run P w=.ok () w:=by
    simp only[Ov]at hk;rcases hk with hk | hk
    .cases x<;>simp[Ae6]at hk
     simp[eqGuard]
    .cases y<;>simp[Ae6]at hk
     simp[eqGuard]
   simp only[Om]at h;unfold Aob at h
   split at h
   .rename_i e1 e2;rw[e1]at hx;rw[e2]at hy;cases h;exact qS _ _ (Ad2 (Bc rfl hx)) (Ad2 (Bc rfl hy)) qU rfl rfl (jS 9999)
   .rename_i e1 e2;rw[e1]at hx;rw[e2]at hy;obtain⟨ut,ux,hu⟩:=Aj9 (Bc rfl hx);cases h;exact qS _ _ hu (Ad2 (Bc rfl hy)) (by simp[eqGuard]) rfl rfl (jT 9999 _ _)
   .rename_i e1 e2;rw[e1]at hx;rw[e2]at hy;obtain⟨ut,ux,hu⟩:=Aj9 (Bc rfl hy);cases h;exact qS _ _ (Ad2 (Bc rfl hx)) hu (by simp[eqGuard]) rfl rfl (jU 9999 _ _)
   grind
  .rename_i ks fs ht;simp only[Ai,Q7]at hk;obtain⟨jW,jB,jX⟩:=hk;simp only[Om]at h;unfold Ab8 at h
   split at h
   .rename_i as bs e1 e2;rw[e1]at hx;rw[e2]at hy;obtain⟨us,hu,vv,vw⟩:=Sy hx;obtain⟨vs,hv,vx,vy⟩:=Sy hy
    split at h
    .rename_i qp;have kW:P.fieldsOf t=fs:=by simp[Program.fieldsOf,ht]
     have hf:=Aq7 (P:=P) (γ:=γ) (w:=w) (d:=9998) (us:=us.toArray) (vs:=vs.toArray) jW h (fun j hj=>by
      grind) (fun j hj=>by
      grind)
     have hE:=run_equalIn_struct (P:=P) w 9999 t us.toArray vs.toArray (by grind) jB;rw[kW,hf]at hE;have hg:=run_eqGuard_agg (P:=P) w (if qo then .neq else .eql) t x y us.toArray vs.toArray jX;refine Ct hI (u:=.bool (z != qo)) ?_ P5;cases qo
     .simp_all [execOp,run_eql_struct]
     simp_all [execOp,run_neq_struct]
    grind
   grind
  .rename_i ks n el ht;simp only[Ai,Q7,beq_iff_eq]at hk;obtain⟨kw,jW,jB,jX⟩:=hk
   split at jB
   .rename_i fi qm;have hs:fi.size=1:=eq_of_beq jB;simp only[Om]at h;unfold Ab8 at h
    split at h
    .rename_i as bs e1 e2;rw[e1]at hx;rw[e2]at hy;obtain⟨us,hu,vv,vw⟩:=Sy hx;obtain⟨vs,hv,vx,vy⟩:=Sy hy
     split at h
     .rename_i qp;have hn:ks.length=n:=by rw[kw,List.length_replicate]
      rw[kw]at h
      have hE:=Bhe (P:=P) (γ:=γ) (w:=w) (d:=9998) (us:=us.toArray) (vs:=vs.toArray) ht qm hs jW h (fun j hj=>by
       grind) (fun j hj=>by
       grind)
      have hg:=run_eqGuard_agg (P:=P) w (if qo then .neq else .eql) t x y us.toArray vs.toArray jX;refine Ct hI (u:=.bool (z != qo)) ?_ P5;cases qo
      .simp only[Hg,if_false]at ho hg;simp[execOp,ho,hu,hv,hg,run_eql_struct,hE]
      .simp only[if_true]at ho hg;simp[execOp,ho,hu,hv,hg,run_neq_struct,hE]
     grind
    grind
   grind
  grind
open Go Go.RowKit
variable {P:Program} {G:List (Nat × List V)} {N:Nat} {γ:Gh} {σ σ1:St} {w:World} {e:Env} {a:Act} {o:Oper} {v:V}
def Bcf{t:TypeId}(ho:o.op=.makeMap t none)(hI:Inv G N γ σ w)(h:Ad .mmk e σ=some (v,σ1)):C1 P G N γ σ w ((execOp a.eval o).run P w) v σ1:=by
 simp only[Ad]at h;cases h;obtain⟨i1,i2⟩:=hI.newMap;refine⟨.map (some w.heap.size),_,_,.inl ?_,C9 (.mp (g':=0) ?_ rfl (fun _=>rfl)),i1,i2,Ai2 hI.base,fun _ _=>rfl⟩
 .simp_all [execOp,Instr.makeMap]
 .show(γ.O++[(w.heap.size,0)])[σ.length]?=_;rw[<-hI.len];simp
def Akc{s:List UInt8}:∀ {kvs:List (List UInt8 × V)} {es:List MapEntry} {i:Nat},es.length=kvs.length->(∀ (j:Nat) (k:List UInt8) (v:V),kvs[j]?=some (k,v)->∃ en:MapEntry,es[j]?=some en/\en.key=.string ⟨k.toArray⟩/\RepC γ w v en.val) ->
  (H2 s kvs i=none/\Instr.findNow .string (.string ⟨s.toArray⟩) es i=some none)\/∃ j v en,H2 s kvs i=some (i+j,v)/\kvs[j]?=some (s,v)/\es[j]?=some en/\Instr.findNow .string (.string ⟨s.toArray⟩) es i=some (some (i+j,en.val))/\RepC γ w v en.val
 | [],[],i,_,_=>.inl ⟨rfl,rfl⟩
 | [],_::_,_,h,_=>by simp at h
 | _::_,[],_,h,_=>by simp at h
 | (k,v)::kvs,en::es,i,hl,hr=>by
  obtain⟨km,h1,h2,h3⟩:=hr 0 k v rfl;simp at h1;subst h1
  have hb:((⟨s.toArray⟩:ByteArray)==⟨k.toArray⟩)=(s==k):=by
   rw[beq_toListBytes,ByteArray.toList_eq,ByteArray.toList_eq]
  by_cases hk:k=s
  .subst hk;refine .inr ⟨0,v,en,by simp[H2],rfl,rfl,?_,h3⟩
   simp_all [Instr.findNow,Instr.sameNow]
  .have vd:(s==k)=false:=by simpa using fun h=>hk h.symm
   have ih:=Akc (s:=s) (kvs:=kvs) (es:=es) (i:=i+1) (by grind) (fun j k' v' hj=>by simpa using hr (j+1) k' v' (by grind));have hf:H2 s ((k,v)::kvs) i=H2 s kvs (i+1):=by simp[H2,hk]
   have hn:Instr.findNow .string (.string ⟨s.toArray⟩) (en::es) i=Instr.findNow .string (.string ⟨s.toArray⟩) es (i+1):=by
    simp only[Instr.findNow,h2,Instr.sameNow,hb,vd]
   rw[hf,hn];rcases ih with⟨a1,a2⟩ | ⟨j,v',km,a1,a2,a3,a4,a5⟩
   .grind
   .refine .inr ⟨j+1,v',km,?_,by grind,by grind,?_,a5⟩
    .grind
    grind
def Aej{v:V}{u:Value}(hf:v.flatB=true)(h:RepC γ w v u)(γ':Gh)(w':World):RepC γ' w' v u:=by
 cases h with
 | row h=>cases h with
  | bool=>exact .row .bool
  | int=>exact .row .int
  | str h=>exact .row (.str h)
  | nili=>exact .row .nili
  | ifc=>exact .row .ifc
  | nils=>exact .row .nils
  | lst=>cases hf
 | nilp=>exact .nilp
 | nilf=>exact .nilf
 | ifc=>exact .ifc
 | imm=>cases hf
 | ptr=>cases hf
 | sl=>cases hf
 | fn=>cases hf
 | mp=>cases hf
def Adn{kt:TypeId}{k:Value}{l:List MapEntry}{r:Option (Nat × Value)}(hd:P.underlying kt=some .string)(h:Instr.findNow .string k l 0=some r):(Instr.findKey kt k l).run P w=.ok r w:=by
 simp_all [Instr.findKey,run_underlying]
def Yt(w:World)(r:Nat)(o:Obj):World:={ w with heap:=w.heap.setIfInBounds r o }
def Ap7{r:Nat}{es:Array MapEntry}{jc:Nat}(o:Obj)(hb:w.heap[r]?=some (.map es jc)):(setObj r o).run P w=.ok () (Yt w r o):=by
 grind[setObj,Sem.run,Yt]
def Bcg{t kt et:TypeId}{fi:TypeInfo}{z:Value}{zv:V}{x y:Operand}{s1 s2:S}(ho:o.op=.lookup t x y false)(ht:P.underlying t=some (.map kt et))(hk:P.underlying kt=some .string)(qm:P.info? et=some fi)(hz:fi.zero=some z)(hc:Pb zv z=true)
  (hx:RepV γ w (Ac e s1) (a.eval x)) (hy:RepV γ w (Ac e s2) (a.eval y)) (hI:Inv G N γ σ w) (h:Ad (.mlk zv s1 s2) e σ=some (v,σ1)):C1 P G N γ σ w ((execOp a.eval o).run P w) v σ1:=by
 simp only[Ad]at h
 split at h
 .rename_i i s e1 e2;rw[e1]at hx;rw[e2]at hy;obtain⟨qv,_⟩:=G5 (Bc rfl hy);obtain⟨blk,g',hO,hu⟩:=Avr (Bc rfl hx)
  split at h
  .rename_i kvs jk;cases h;obtain⟨jR,_,es,hh,kS,jj⟩:=hI.obj i _ _ jk hO;have qi:=hu jR;have hh:w.heap[blk]?=some (.map es kvs.length):=hh
   have qB:∀ b,(Instr.checkKey b 10000 kt (.string ⟨s.toArray⟩)).run P w=.ok () w:=fun b=>by
    have:∀ d,(Instr.checkKey b (d+1) kt (.string ⟨s.toArray⟩)).run P w=.ok () w:=fun d=>by simp[Instr.checkKey,run_underlying hk]
    grind
   rcases Akc (γ:=γ) (w:=w) (s:=s) (kvs:=kvs) (es:=es.toList) (i:=0) AA (fun j k v hj=>by
    grind) with⟨f1,f2⟩ | ⟨j,v',en,f1,f2,f3,f4,f5⟩
   .have hf:=Adn (P:=P) (w:=w) hk f2;rw[f1];refine Ct hI (u:=z) ?_ (C9 (Adt hc));simp[execOp,ho,qi,qv,Instr.lookup,run_underlying ht,getObj,Sem.run,hh];simp[qB,hf,zeroValue,typeInfo,qm,hz]
   .have hf:=Adn (P:=P) (w:=w) hk f4;rw[f1];refine Ct hI (u:=en.val) ?_ (C9 f5);simp[execOp,ho,qi,qv,Instr.lookup,run_underlying ht,getObj,Sem.run,hh];simp[qB,hf]
  grind
 grind
def Bch{t kt et:TypeId}{x y z:Operand}{s1 s2 s3:S}(ho:o.op=.mapUpdate t x y z)(ht:P.underlying t=some (.map kt et))(hk:P.underlying kt=some .string)
  (hx:RepV γ w (Ac e s1) (a.eval x)) (hy:RepV γ w (Ac e s2) (a.eval y)) (hz:RepV γ w (Ac e s3) (a.eval z)) (hI:Inv G N γ σ w) (h:Ad (.mup s1 s2 s3) e σ=some (v,σ1)):C1 P G N γ σ w ((execOp a.eval o).run P w) v σ1:=by
 simp only[Ad]at h
 split at h
 .rename_i i s e1 e2;rw[e1]at hx;rw[e2]at hy;obtain⟨qv,vu⟩:=G5 (Bc rfl hy);obtain⟨blk,g',hO,hu⟩:=Avr (Bc rfl hx)
  split at h
  .rename_i kvs jk
   split at h
   .rename_i qM
    cases h;have vA:RepC γ w (Ac e s3) (a.eval z):=Bc (by revert qM;cases Ac e s3<;>simp[V.flatB,V.cellB]) hz;obtain⟨jR,_,es,hh,kS,jj⟩:=hI.obj i _ _ jk hO;have qi:=hu jR;have hh:w.heap[blk]?=some (.map es kvs.length):=hh;have qx:blk<w.heap.size:=(Array.getElem?_eq_some_iff.1 hh).1
    have qB:∀ b,(Instr.checkKey b 10000 kt (.string ⟨s.toArray⟩)).run P w=.ok () w:=fun b=>by
     have:∀ d,(Instr.checkKey b (d+1) kt (.string ⟨s.toArray⟩)).run P w=.ok () w:=fun d=>by simp[Instr.checkKey,run_underlying hk]
     grind
    have jv:∀ ob,(Yt w blk ob).heap.size=w.heap.size/\(∀ b,b≠blk->(Yt w blk ob).heap[b]?=w.heap[b]?)/\(Yt w blk ob).heap[blk]?=some ob:=fun ob=>by
     simp_all [Yt,Ne.symm]
    rcases Akc (γ:=γ) (w:=w) (s:=s) (kvs:=kvs) (es:=es.toList) (i:=0) AA (fun j k v hj=>by
     grind) with⟨f1,f2⟩ | ⟨j,v',en,f1,f2,f3,f4,f5⟩
    .have hf:=Adn (P:=P) (w:=w) hk f2;rw[f1];obtain⟨q1,q2,q3⟩:=jv (.map (es.push { key:=.string ⟨s.toArray⟩,val:=a.eval z,born:=kvs.length }) (kvs.length+1))
     obtain⟨i1,i2⟩:=hI.turnMap (kvs':=kvs++[(s,Ac e s3)]) (es':=es.push { key:=.string ⟨s.toArray⟩,val:=a.eval z,born:=kvs.length }) hO jk q1 q2 (by grind) (by grind) (fun j k v hj=>by
      by_cases qN:j<kvs.length
      .grind
      .rw[F6 AA]at hj
       have kZ:j=kvs.length:=by
        have:=(Ao.1 hj).1;simp at this;omega
       subst kZ;simp at hj;obtain⟨rfl,rfl⟩:=hj
       exact⟨{ key:=.string ⟨s.toArray⟩,val:=a.eval z,born:=kvs.length },by grind,rfl,vu,rfl,qM,vA⟩)
     refine⟨undef,_,γ,.inr ⟨?_,rfl⟩,.und,i1,i2,⟨rfl,rfl,rfl,by omega,fun k hk=>q2 k (by have:=hI.low i _ hO;omega)⟩,fun _ _=>rfl⟩;simp[execOp,ho,qi,qv,Instr.mapUpdate,run_underlying ht,getObj,Sem.run,hh];simp[qB,hf,Ap7 _ hh]
    .have hf:=Adn (P:=P) (w:=w) hk f4;rw[f1];have jV:j<kvs.length:=(Ao.1 f2).1;obtain⟨kn,b1,b2,b3,b4,b5,b6⟩:=jj j s v' f2
     have kQ:kn=en:=by
      have:es.toList[j]?=some kn:=by simpa using b1
      rw[f3]at this;cases this;rfl
     subst kQ;obtain⟨q1,q2,q3⟩:=jv (.map (es.modify j fun en=>{ en with key:=.string ⟨s.toArray⟩,val:=a.eval z }) kvs.length)
     obtain⟨i1,i2⟩:=hI.turnMap (kvs':=kvs.set j (s,Ac e s3)) (es':=es.modify j fun en=>{ en with key:=.string ⟨s.toArray⟩,val:=a.eval z }) hO jk q1 q2 (by grind) (by grind) (fun j' k v hj=>by
      grind)
     have f0:0+j=j:=Gf j;rw[f0]at hf;simp only[f0];refine⟨undef,_,γ,.inr ⟨?_,rfl⟩,.und,i1,i2,⟨rfl,rfl,rfl,by omega,fun k hk=>q2 k (by have:=hI.low i _ hO;omega)⟩,fun _ _=>rfl⟩
     have jY:(Instr.keyThatStays (((es[j]?).map (·.key)).getD (.string ⟨s.toArray⟩)) (.string ⟨s.toArray⟩)).run P w=.ok (.string ⟨s.toArray⟩) w:=by
      rw[b1]
      have ju:Instr.sameBits 10000 (.string ⟨s.toArray⟩) (.string ⟨s.toArray⟩)=true:=by
       rw[Instr.sameBits];rw[beq_toListBytes];simp
      simp[b2,Instr.keyThatStays,ju]
     simp[execOp,ho,qi,qv,Instr.mapUpdate,run_underlying ht,getObj,Sem.run,hh];simp[qB,hf,jY,Ap7 _ hh]
   grind
  grind
 grind
open Go Go.RowKit
variable {P:Program} {G:List (Nat × List V)} {N:Nat} {γ:Gh} {σ σ1:St} {w:World} {e:Env} {a:Act} {o:Oper} {v:V}
/-! The check -/
def Td(P:Program)(zs:List V)(t:TypeId):Bool:=
 match P.info? t with
 | some i=>match i.zero with
  | some z=>Iw zs z.cells.toList
  | none=>false
 | none=>false
def Lm(P:Program)(t:TypeId)(n:Nat):Bool:=match P.info? t with
 | some i=>i.size==n
 | none=>false
def W5{zs:List V}{t:TypeId}(h:Td P zs t=true):∃ fi z,P.info? t=some fi/\fi.zero=some z/\Iw zs z.cells.toList=true:=by
 grind[Td]
def M6{t:TypeId}{n:Nat}(h:Lm P t n=true):∃ fi,P.info? t=some fi/\fi.size=n:=by
 unfold Lm at h
 grind
def Yu(G:List (Nat × List V))(qf:List (Nat × Nat)):List (Nat × Nat × S)->List (Nat × Operand)->Bool
 | [],[]=>true
 | p::ps,q::qs=>(match qf[q.1]? with
   | some (o,n)=>o==p.1&&n==p.2.1
   | none=>false)&&(B8 G p.2.2 q.2&&Yu G qf ps qs)
 | _,_=>false
def Um(G:List (Nat × List V)):List (Nat × S)->List (Nat × Operand)->Bool
 | [],[]=>true
 | p::ps,q::qs=>p.1==q.1&&(B8 G p.2 q.2&&Um G ps qs)
 | _,_=>false
def Asx{qf:List (Nat × Nat)}:∀ {ps:List (Nat × Nat × S)} {qs:List (Nat × Operand)},Yu G qf ps qs=true->ps.length=qs.length/\∀ (i:Nat) (p:Nat × Nat × S) (q:Nat × Operand),ps[i]?=some p->qs[i]?=some q->qf[q.1]?=some (p.1,p.2.1)/\B8 G p.2.2 q.2=true
 | [],[],_=>⟨rfl,fun i p q h=>by simp at h⟩
 | p::ps,q::qs,h=>by
  simp only[Yu,Ai]at h;obtain⟨h1,h2,h3⟩:=h;obtain⟨l,g⟩:=Asx h3
  grind
 | [],_::_,h=>by grind[Yu]
 | _::_,[],h=>by grind[Yu]
def Aek:∀ {ps:List (Nat × S)} {qs:List (Nat × Operand)},Um G ps qs=true->ps.length=qs.length/\∀ (i:Nat) (p:Nat × S) (q:Nat × Operand),ps[i]?=some p->qs[i]?=some q->p.1=q.1/\B8 G p.2 q.2=true
 | [],[],_=>⟨rfl,fun i p q h=>by simp at h⟩
 | p::ps,q::qs,h=>by
  simp only[Um,Ai,beq_iff_eq]at h;obtain⟨h1,h2,h3⟩:=h;obtain⟨l,g⟩:=Aek h3
  grind
 | [],_::_,h=>by grind[Um]
 | _::_,[],h=>by grind[Um]
def E1(P:Program)(t:TypeId)(f:TypeDesc->Bool):Bool:=match P.underlying t with
 | some d=>f d
 | none=>false
def Fi{t:TypeId}{f:TypeDesc->Bool}(h:E1 P t f=true):∃ d,P.underlying t=some d/\f d=true:=by
 grind[E1]
def N6:TypeDesc->Bool
 | .string=>true
 | _=>false
def Az0(k:IntKind):TypeDesc->Bool
 | .int k'=>decide (k=k')
 | _=>false
def Yv(G:List (Nat × List V))(m:Nat):List (Nat × Nat × S)->List (Nat × Operand)->Bool
 | [],[]=>true
 | p::ps,q::qs=>q.1*m==p.1&&(m==p.2.1&&(B8 G p.2.2 q.2&&Yv G m ps qs))
 | _,_=>false
def Asy{m:Nat}:∀ {ps:List (Nat × Nat × S)} {qs:List (Nat × Operand)},Yv G m ps qs=true->ps.length=qs.length/\∀ (i:Nat) (p:Nat × Nat × S) (q:Nat × Operand),ps[i]?=some p->qs[i]?=some q->(q.1*m,m)=(p.1,p.2.1)/\B8 G p.2.2 q.2=true
 | [],[],_=>⟨rfl,fun i p q h=>by simp at h⟩
 | p::ps,q::qs,h=>by
  simp only[Yv,Ai,beq_iff_eq]at h;obtain⟨h1,h2,h3,h4⟩:=h;obtain⟨l,g⟩:=Asy h4
  grind
 | [],_::_,h=>by grind[Yv]
 | _::_,[],h=>by grind[Yv]
def Qv(G:List (Nat × List V)):List S->List Operand->Bool
 | [],[]=>true
 | s::ss,x::xs=>B8 G s x&&Qv G ss xs
 | _,_=>false
theorem Asz(hE:RepE γ w e a.tmps)(hI:Inv G N γ σ w):∀ {ss:List S} {xs:List Operand},Qv G ss xs=true->ss.length=xs.length/\∀ (i:Nat) s x,ss[i]?=some s->xs[i]?=some x->RepV γ w (Ac e s) (a.eval x)
 | [],[],_=>⟨rfl,fun i s x h=>by simp at h⟩
 | s::ss,x::xs,h=>by
  simp only[Qv,Ai]at h;obtain⟨l,g⟩:=Asz hE hI h.2
  grind[Aal]
 | [],_::_,h=>by grind[Qv]
 | _::_,[],h=>by grind[Qv]
def Ag0(P:Program)(f:TypeId->TypeId->Bool):TypeDesc->Bool
 | .map k e=>f k e
 | _=>false
def Alb(P:Program)(z:V)(t:TypeId):Bool:=match P.info? t with
 | some i=>match i.zero with
  | some u=>Pb z u
  | none=>false
 | none=>false
def A2s{z:V}{t:TypeId}(h:Alb P z t=true):∃ fi u,P.info? t=some fi/\fi.zero=some u/\Pb z u=true:=by
 grind[Alb]
def Avy(P:Program)(G:List (Nat × List V))(zs:List V)(ps:List (Nat × Nat × S))(t:TypeId)(qh:List (Nat × Operand)):TypeDesc->Bool
 | .struct fs=>match fs.toList.mapM (fun f=>(P.info? f.type).map fun i=>(f.offset,i.size)) with
  | some qf=>Yu G qf ps qh
  | none=>false
 | .array _ el=>match P.info? el with
  | some fe=>Yv G fe.size ps qh
  | none=>false
 | _=>false
def Az1(P:Program)(off i:Nat):TypeDesc->Bool
 | .struct fs=>match fs[i]? with
  | some f=>f.offset==off&&(match P.info? f.type with
   | some fi=>fi.size != 0
   | none=>false)
  | none=>false
 | _=>false
def Az2(P:Program)(off n:Nat)(one:Bool)(i:Nat):TypeDesc->Bool
 | .struct fs=>match fs[i]? with
  | some f=>f.offset==off&&(Lm P f.type n&&E1 P f.type (fun d=>Po d==!one))
  | none=>false
 | _=>false
def Az3(P:Program)(len m:Nat)(one:Bool):TypeDesc->Bool
 | .array len' el=>len==len'&&(Lm P el m&&E1 P el (fun d=>Po d==!one))
 | _=>false
def I9(P:Program)(f:TypeId->Bool):TypeDesc->Bool
 | .slice el=>f el
 | _=>false
def Ahk(P:Program)(bytes m:Nat)(el:TypeId):Bool:=match P.info? el with
 | some fi=>fi.size==m&&(fi.bytes==bytes&&(decide (0<m)&&(decide (0<bytes)&&(match fi.zero with
  | some z=>z.cells.size==m
  | none=>false))))
 | none=>false
def Yw(P:Program)(G:List (Nat × List V))(ao:AO)(op:Op):Bool:=
 match ao,op with
 | .mov s,.move x=>B8 G s x
 | .mov s,.assign x=>B8 G s x
 | .pick s1 s2 s3,.pick x y z=>B8 G s1 x&&(B8 G s2 y&&B8 G s3 z)
 | .new t' zs,.alloc t=>t'==t&&Td P zs t
 | .box t' s,.box t x=>t'==t&&B8 G s x
 | .build zs ps,.build t qh=>Td P zs t&&E1 P t (Avy P G zs ps t qh.toList)
 | .rows n zs ps,.buildSlice t n' qh=>n==n'&&(E1 P t (I9 P fun el=>Td P zs el&&Lm P el zs.length)&&(decide (0<zs.length)&&(decide (n*zs.length<=16777216)&&Um G ps qh.toList)))
 | .rowf n zs ps,.buildSlice t n' qh=>n==n'&&(E1 P t (I9 P fun el=>Td P zs el&&Lm P el zs.length)&&(decide (0<zs.length)&&(decide (n*zs.length<=16777216)&&Um G ps qh.toList)))
 | .rowo el' n zs ps,.buildSlice t n' qh=>n==n'&&(E1 P t (I9 P fun el=>el'==el&&(Td P zs el&&Lm P el zs.length))&&(decide (0<zs.length)&&(decide (n*zs.length<=16777216)&&Um G ps qh.toList)))
 | .mk el' bytes zs s1 s2,.makeSlice t x y=>B8 G s1 x&&(B8 G s2 y&&(decide (0<zs.length)&&E1 P t (I9 P fun el=>el'==el&&(Td P zs el&&(Lm P el zs.length&&(match P.info? el with
  | some fi=>fi.bytes==bytes&&decide (0<bytes)
  | none=>false))))))
 | .load n one s,.load t x=>B8 G s x&&(Lm P t n&&E1 P t (fun d=>Po d==!one))
 | .store n s1 s2,.store t x y=>B8 G s1 x&&(B8 G s2 y&&Lm P t n)
 | .chk s,.nilCheck x=>B8 G s x
 | .bin b s1 s2,.binOp b' _ x y _=>decide (b=b')&&(B8 G s1 x&&B8 G s2 y)
 | .eq k qo s1 s2,.binOp b' t x y _=>decide (b'=(if qo then BinOp.neq else BinOp.eql))&&(Aod P k t x y&&(B8 G s1 x&&B8 G s2 y))
 | .un b s,.unOp b' _ x=>decide (b=b')&&B8 G s x
 | .cvi k s,.convert t1 t2 x=>B8 G s x&&((P.underlying t1).isSome&&E1 P t2 (Az0 k))
 | .slcs s lo hi,.slice t x lo' qC mx=>mx.isNone&&(B8 G s x&&(I8 G lo lo'&&(I8 G hi qC&&E1 P t N6)))
 | .slc m s lo hi mx,.slice t x lo' qC mx'=>B8 G s x&&(I8 G lo lo'&&(I8 G hi qC&&(I8 G mx mx'&&((!mx.isSome||hi.isSome)&&(m != 0&&E1 P t (I9 P fun el=>Lm P el m))))))
 | .slca len m s lo hi,.slice t x lo' qC mx=>mx.isNone&&(B8 G s x&&(I8 G lo lo'&&(I8 G hi qC&&(decide (len<=16777216)&&E1 P t (fun d=>match d with
  | .array l el=>l==len&&Lm P el m
  | _=>false)))))
 | .mmk,.makeMap _ none=>true
 | .mlk z s1 s2,.lookup t x y false=>B8 G s1 x&&(B8 G s2 y&&E1 P t (Ag0 P fun k el=>E1 P k N6&&Alb P z el))
 | .mup s1 s2 s3,.mapUpdate t x y z=>B8 G s1 x&&(B8 G s2 y&&(B8 G s3 z&&E1 P t (Ag0 P fun k _=>E1 P k N6)))
 | .fld off n one s,.field t x i=>B8 G s x&&E1 P t (Az2 P off n one i)
 | .ida len m one s1 s2,.index t x y=>B8 G s1 x&&(B8 G s2 y&&E1 P t (Az3 P len m one))
 | .fad off s,.fieldAddr t x i=>B8 G s x&&E1 P t (Az1 P off i)
 | .iad m s1 s2,.indexAddr t x y=>B8 G s1 x&&(B8 G s2 y&&E1 P t (I9 P fun el=>Lm P el m))
 | .iar len m s1 s2,.indexAddr t x y=>B8 G s1 x&&(B8 G s2 y&&E1 P t (fun d=>match d with
  | .array l el=>l==len&&Lm P el m
  | _=>false))
 | .idx s1 s2,.index t x y=>B8 G s1 x&&(B8 G s2 y&&E1 P t N6)
 | .ext i s,.extract x i'=>i==i'&&B8 G s x
 | .len s,.call { callee:=.builtin .len,args,argTypes }=>match args.toList,argTypes.toList with
  | [x],[t]=>B8 G s x&&E1 P t (I9 P fun _=>true)
  | _,_=>false
 | .lens s,.call { callee:=.builtin .len,args,argTypes }=>match args.toList,argTypes.toList with
  | [x],[t]=>B8 G s x&&E1 P t N6
  | _,_=>false
 | .app bytes m s1 s2,.call { callee:=.builtin .append,args,argTypes }=>match args.toList,argTypes.toList with
  | [x,y],[t,u]=>t==u&&(B8 G s1 x&&(B8 G s2 y&&E1 P t (I9 P fun el=>el==m.2&&Ahk P bytes m.1 el)))
  | _,_=>false
 | .apps ty s1 s2,.call { callee:=.builtin .append,args,argTypes }=>match args.toList,argTypes.toList with
  | [x,y],[t,u]=>B8 G s1 x&&(B8 G s2 y&&(E1 P t (I9 P fun el=>el==ty&&Ahk P 1 1 el)&&E1 P u N6))
  | _,_=>false
 | .mx s1 s2,.call { callee:=.builtin .max,args,.. }=>match args.toList with
  | [x,y]=>B8 G s1 x&&B8 G s2 y
  | _=>false
 | .mn s1 s2,.call { callee:=.builtin .min,args,.. }=>match args.toList with
  | [x,y]=>B8 G s1 x&&B8 G s2 y
  | _=>false
 | _,_=>false
def Qi{α:Type}{xs:Array α}{l:List α}(h:xs.toList=l):xs=l.toArray:=by grind
def Aq8{bytes m:Nat}{el:TypeId}(h:Ahk P bytes m el=true):∃ fi z,P.info? el=some fi/\fi.size=m/\fi.bytes=bytes/\0<m/\0<bytes/\fi.zero=some z/\z.cells.size=m:=by
 unfold Ahk at h
 grind
def Bmb{ao:AO}(qa:Yw P G ao o.op=true)(hE:RepE γ w e a.tmps)(hI:Inv G N γ σ w)(h:Ad ao e σ=some (v,σ1)):C1 P G N γ σ w ((execOp a.eval o).run P w) v σ1:=by
 have R:=fun {s:S} {x:Operand} (h:B8 G s x=true)=>Aal (a:=a) h hE hI
 generalize ho:o.op=op at qa;unfold Yw at qa
 split at qa
 .-- move
  simp only[Ad]at h;cases h;exact Ct hI (by simp[execOp,ho]) (R qa)
 .simp only[Ad]at h;cases h;exact Ct hI (by simp[execOp,ho]) (R qa)
 .simp only[Ai]at qa;exact A7y ho (R qa.1) (R qa.2.1) (R qa.2.2) hI h
 .simp only[Ai,beq_iff_eq]at qa;obtain⟨rfl,qa⟩:=qa;obtain⟨fi,z,h1,h2,h3⟩:=W5 qa;exact Bb8 ho h1 h2 h3 hI h
 .simp only[Ai,beq_iff_eq]at qa;obtain⟨rfl,qa⟩:=qa;exact Bb9 ho (R qa) hI h
 .simp only[Ai]at qa;obtain⟨fi,z,h1,h2,h3⟩:=W5 qa.1;obtain⟨d,hd,hb⟩:=Fi qa.2;unfold Avy at hb
  split at hb
  .split at hb
   .rename_i qf vm;obtain⟨l,g⟩:=Asx hb
    exact A44 ho hd h1 h2 h3 vm (by simpa using l) (fun i p q hp hq=>by
     obtain⟨g1,g2⟩:=g i p q hp (by simpa using hq)
     exact⟨g1,R g2⟩) hI h
   .cases hb
  .split at hb
   .rename_i fe kU;obtain⟨l,g⟩:=Asy hb
    exact A3p ho hd h1 h2 h3 kU (by simpa using l) (fun i p q hp hq=>by
     obtain⟨g1,g2⟩:=g i p q hp (by simpa using hq)
     exact⟨g1,R g2⟩) hI h
   .cases hb
  .cases hb
 .simp only[Ai,beq_iff_eq,decide_eq_true_eq]at qa;obtain⟨rfl,hd,hm,hb,hr⟩:=qa;obtain⟨d,hd,hs⟩:=Fi hd;unfold I9 at hs
  split at hs
  .simp only[Ai]at hs;obtain⟨fi,z,h1,h2,h3⟩:=W5 hs.1;obtain⟨jE,qA,h4⟩:=M6 hs.2;rw[h1]at qA;cases qA;obtain⟨l,g⟩:=Aek hr
   exact A73 ho hd h1 h2 h3 h4 hm hb (by simpa using l) (fun i p q hp hq=>by
    obtain⟨g1,g2⟩:=g i p q hp (by simpa using hq)
    exact⟨g1,R g2⟩) hI h
  .cases hs
 .simp only[Ai,beq_iff_eq,decide_eq_true_eq]at qa;obtain⟨rfl,hd,hm,hb,hr⟩:=qa;obtain⟨d,hd,hs⟩:=Fi hd;unfold I9 at hs
  split at hs
  .simp only[Ai]at hs;obtain⟨fi,z,h1,h2,h3⟩:=W5 hs.1;obtain⟨jE,qA,h4⟩:=M6 hs.2;rw[h1]at qA;cases qA;obtain⟨l,g⟩:=Aek hr
   exact A72 ho hd h1 h2 h3 h4 hm hb (by simpa using l) (fun i p q hp hq=>by
    obtain⟨g1,g2⟩:=g i p q hp (by simpa using hq)
    exact⟨g1,R g2⟩) hI h
  .cases hs
 .simp only[Ai,beq_iff_eq,decide_eq_true_eq]at qa;obtain⟨rfl,hd,hm,hb,hr⟩:=qa;obtain⟨d,hd,hs⟩:=Fi hd;unfold I9 at hs
  split at hs
  .simp only[Ai,beq_iff_eq]at hs;obtain⟨rfl,jt,qr⟩:=hs;obtain⟨fi,z,h1,h2,h3⟩:=W5 jt;obtain⟨jE,qA,h4⟩:=M6 qr;rw[h1]at qA;cases qA;obtain⟨l,g⟩:=Aek hr
   exact A74 ho hd h1 h2 h3 h4 hm hb (by simpa using l) (fun i p q hp hq=>by
    obtain⟨g1,g2⟩:=g i p q hp (by simpa using hq)
    exact⟨g1,R g2⟩) hI h
  .cases hs
 .simp only[Ai,beq_iff_eq,decide_eq_true_eq]at qa;obtain⟨k1,k2,hm,ku⟩:=qa;obtain⟨d,hd,hs⟩:=Fi ku;clear ku;unfold I9 at hs
  split at hs
  .simp only[Ai,beq_iff_eq]at hs;obtain⟨rfl,jt,qr,kh⟩:=hs;obtain⟨fi,z,h1,h2,h3⟩:=W5 jt;obtain⟨jE,qA,h4⟩:=M6 qr;rw[h1]at qA kh;cases qA;simp only[Ai,beq_iff_eq,decide_eq_true_eq]at kh;obtain⟨rfl,jf⟩:=kh;exact Bhd ho hd h1 h2 h3 h4 hm jf (R k1) (R k2) hI h
  .cases hs
 .simp only[Ai]at qa;obtain⟨fi,h1,h2⟩:=M6 qa.2.1;obtain⟨d,hd,hs⟩:=Fi qa.2.2;exact A70 ho hd (eq_of_beq hs) h1 h2 (R qa.1) hI h
 .simp only[Ai]at qa;obtain⟨fi,h1,h2⟩:=M6 qa.2.2;exact A43 ho h1 h2 (R qa.1) (R qa.2.1) hI h
 .exact Bb1 ho (R qa) hI h
 .simp only[Ai,decide_eq_true_eq]at qa;obtain⟨rfl,h1,h2⟩:=qa;simp only[Ad,Cf]at h;obtain⟨v',h,h3⟩:=h;cases h3;exact Bbz ho (R h1) (R h2) hI h
 .simp only[Ai,decide_eq_true_eq]at qa;obtain⟨rfl,h1,h2,h3⟩:=qa;exact Bhf ho h1 (R h2) (R h3) hI h
 .simp only[Ai,decide_eq_true_eq]at qa;obtain⟨rfl,h1⟩:=qa;exact Bha ho (R h1) hI h
 .simp only[Ai]at qa;obtain⟨h1,h2,h3⟩:=qa;obtain⟨d1,kN⟩:=Option.isSome_iff_exists.1 h2;obtain⟨d,hd,hs⟩:=Fi h3;unfold Az0 at hs
  split at hs
  .obtain rfl:=of_decide_eq_true hs;exact Bb0 ho kN hd (R h1) hI h
  .cases hs
 .simp only[Ai,Option.isNone_iff_eq_none]at qa;obtain⟨rfl,h1,h2,h3,h4⟩:=qa;obtain⟨d,hd,hs⟩:=Fi h4;unfold N6 at hs
  split at hs
  .exact A75 ho hd h2 h3 (R h1) hE hI h
  .cases hs
 .simp only[Ai,Ov,Q7]at qa;obtain⟨h1,h2,h3,h4,h5,h7,h6⟩:=qa;obtain⟨d,hd,hs⟩:=Fi h6;unfold I9 at hs
  split at hs
  .obtain⟨fi,g1,g2⟩:=M6 hs;subst g2;exact Bcb ho hd g1 h2 h3 h4 (fun h=>by rcases h5 with h5 | h5<;>simp_all) (by simpa using h7) (R h1) hE hI h
  .cases hs
 .simp only[Ai,Option.isNone_iff_eq_none,decide_eq_true_eq]at qa;obtain⟨rfl,h1,h2,h3,h4,h5⟩:=qa;obtain⟨d,hd,hs⟩:=Fi h5
  split at hs
  .simp only[Ai,beq_iff_eq]at hs;obtain⟨rfl,hs⟩:=hs;obtain⟨fi,g1,g2⟩:=M6 hs;subst g2;exact A76 ho hd g1 h2 h3 (by unfold maxLen;omega) (R h1) hE hI h
  .cases hs
 .exact Bcf ho hI h
 .simp only[Ai]at qa;obtain⟨h1,h2,h3⟩:=qa;obtain⟨d,hd,hs⟩:=Fi h3;unfold Ag0 at hs
  split at hs
  .simp only[Ai]at hs;obtain⟨d2,qJ,qr⟩:=Fi hs.1;unfold N6 at qr
   split at qr
   .obtain⟨fi,u,g1,g2,g3⟩:=A2s hs.2;exact Bcg ho hd qJ g1 g2 g3 (R h1) (R h2) hI h
   .cases qr
  .cases hs
 .simp only[Ai]at qa;obtain⟨h1,h2,h3,h4⟩:=qa;obtain⟨d,hd,hs⟩:=Fi h4;unfold Ag0 at hs
  split at hs
  .obtain⟨d2,qJ,qr⟩:=Fi hs;unfold N6 at qr
   split at qr
   .exact Bch ho hd qJ (R h1) (R h2) (R h3) hI h
   .cases qr
  .cases hs
 .simp only[Ai]at qa;obtain⟨d,hd,hs⟩:=Fi qa.2;unfold Az2 at hs
  split at hs
  .split at hs
   .rename_i f hf;simp only[Ai,beq_iff_eq]at hs;obtain⟨fi,g1,g2⟩:=M6 hs.2.1;obtain⟨d2,qJ,qr⟩:=Fi hs.2.2;exact Bcd ho hd hf hs.1 qJ (eq_of_beq qr) g1 g2 (R qa.1) hI h
   .cases hs
  .cases hs
 .simp only[Ai]at qa;obtain⟨d,hd,hs⟩:=Fi qa.2.2;unfold Az3 at hs
  split at hs
  .simp only[Ai,beq_iff_eq]at hs;obtain⟨rfl,hs⟩:=hs;obtain⟨fi,g1,g2⟩:=M6 hs.1;obtain⟨d2,qJ,qr⟩:=Fi hs.2;exact Bce ho hd qJ (eq_of_beq qr) g1 g2 (R qa.1) (R qa.2.1) hI h
  .cases hs
 .simp only[Ai]at qa;obtain⟨h1,h2⟩:=qa;obtain⟨d,hd,hs⟩:=Fi h2;unfold Az1 at hs
  split at hs
  .split at hs
   .rename_i f hf;simp only[Ai,beq_iff_eq]at hs;obtain⟨g1,g2⟩:=hs
    split at g2
    .rename_i fi qm;exact Bb5 ho hd hf g1 qm (by simpa using g2) (R h1) hI h
    .cases g2
   .cases hs
  .cases hs
 .simp only[Ai]at qa;obtain⟨h1,h2,h3⟩:=qa;obtain⟨d,hd,hs⟩:=Fi h3;unfold I9 at hs
  split at hs
  .obtain⟨fi,g1,g2⟩:=M6 hs;exact Bb7 ho hd g1 g2 (R h1) (R h2) hI h
  .cases hs
 .simp only[Ai]at qa;obtain⟨h1,h2,h3⟩:=qa;obtain⟨d,hd,hs⟩:=Fi h3
  split at hs
  .simp only[Ai,beq_iff_eq]at hs;obtain⟨rfl,hs⟩:=hs;obtain⟨fi,g1,g2⟩:=M6 hs;exact Bb6 ho hd g1 g2 (R h1) (R h2) hI h
  .cases hs
 .simp only[Ai]at qa;obtain⟨h1,h2,h3⟩:=qa;obtain⟨d,hd,hs⟩:=Fi h3;unfold N6 at hs
  split at hs
  .exact Bb2 ho hd (R h1) (R h2) hI h
  .cases hs
 .simp only[Ai,beq_iff_eq]at qa;obtain⟨rfl,h1⟩:=qa;exact Bb3 ho (R h1) hI h
 .split at qa
  .rename_i x t e1 e2;rw[Qi e1,Qi e2]at ho;simp only[Ai]at qa;obtain⟨d,hd,hs⟩:=Fi qa.2;unfold I9 at hs
   split at hs
   .exact Bb4 ho hd (R qa.1) hI h
   .cases hs
  .cases qa
 .split at qa
  .rename_i x t e1 e2;rw[Qi e1,Qi e2]at ho;simp only[Ai]at qa;obtain⟨d,hd,hs⟩:=Fi qa.2;unfold N6 at hs
   split at hs
   .exact A7z ho hd (R qa.1) hI h
   .cases hs
  .cases qa
 .split at qa
  .rename_i x y t u e1 e2;simp only[Ai,beq_iff_eq]at qa;obtain⟨rfl,h1,h2,h3⟩:=qa;rw[Qi e1,Qi e2]at ho;obtain⟨d,hd,hs⟩:=Fi h3;unfold I9 at hs
   split at hs
   .simp only[Ai,beq_iff_eq]at hs;obtain⟨g0,hs⟩:=hs;obtain⟨fi,z,g1,g2,g3,g4,g5,g6,g7⟩:=Aq8 hs;rename_i el;have em:(fi.size,el)=_:=Prod.ext g2 g0;rw[<-em,<-g3]at h;rw[<-g2]at g4 g7;rw[<-g3]at g5;exact Bcc ho hd g1 g6 g7 g4 g5 (R h1) (R h2) hI h
   .cases hs
  .cases qa
 .split at qa
  .rename_i x y t u e1 e2;simp only[Ai]at qa;obtain⟨h1,h2,h3,h4⟩:=qa;rw[Qi e1,Qi e2]at ho;obtain⟨d,hd,hs⟩:=Fi h3;obtain⟨d2,qJ,qr⟩:=Fi h4;unfold I9 at hs
   split at hs
   .unfold N6 at qr
    split at qr
    .simp only[Ai,beq_iff_eq]at hs;obtain⟨g0,hs⟩:=hs;obtain⟨fi,z,g1,g2,g3,g4,g5,g6,g7⟩:=Aq8 hs;rw[<-g0]at h;exact A77 ho hd qJ g1 g6 g7 g2 g3 (R h1) (R h2) hI h
    .cases qr
   .cases hs
  .cases qa
 .split at qa
  .rename_i x y e1;rw[Qi e1]at ho;simp only[Ai]at qa;exact Bhb ho (R qa.1) (R qa.2) hI h
  .cases qa
 .split at qa
  .rename_i x y e1;rw[Qi e1]at ho;simp only[Ai]at qa;exact Bhc ho (R qa.1) (R qa.2) hI h
  .cases qa
 .cases qa
open Go Go.RowKit
def Aa8(P:Program)(G:List (Nat × List V))(f:Nat)(xs:List S)(op:Op):Bool:=
 match op with
 | .call { callee:=.value (.func f'),args,.. }=>f==f'&&Qv G xs args.toList
 | _=>false
def Aap(P:Program)(G:List (Nat × List V))(s:S)(xs:List S)(op:Op):Bool:=
 match op with
 | .call { callee:=.value x,args,.. }=>B8 G s x&&Qv G xs args.toList
 | _=>false
def okG(n:Nat)(ops:Array Oper)(g:Option (Nat × Bool))(g':Option (Nat × Bool)):Bool:=
 match g,g' with
 | none,none=>true
 | some (t,b),some (j,b')=>b==b'&&((ops[j]?).bind (·.dst)==some t&&decide (t<n))
 | _,_=>false
def Yx(P:Program)(G:List (Nat × List V))(n:Nat)(ops:Array Oper)(i:AI)(o:Oper):Bool:=
 i.dst==o.dst&&((match i.dst with
  | some d=>decide (d<n)
  | none=>true)&&(okG n ops i.g o.guard&&(match i.op with
  | .call f xs=>Aa8 P G f xs o.op
  | .callv s xs=>Aap P G s xs o.op
  | ao=>Yw P G ao o.op)))
def Mg(P:Program)(G:List (Nat × List V))(n:Nat)(ops:Array Oper):List AI->List Oper->Bool
 | [],[]=>true
 | i::is,o::os=>Yx P G n ops i o&&Mg P G n ops is os
 | _,_=>false
def Ag1(d:List Nat)(o:Oper):Bool:=(o.after.toList.all fun e=>!Region.binds .any e||d.elem e.on)&&d.all fun j=>o.after.toList.any fun e=>Region.binds .any e&&e.on==j
def Ro:List (List Nat)->List Oper->Bool
 | [],[]=>true
 | d::ds,o::os=>Ag1 d o&&Ro ds os
 | _,_=>false
def Aoe:S->Bool
 | .k .und=>true
 | _=>false
def D0(P:Program)(G:List (Nat × List V))(n:Nat):AC->Code->Bool
 | .skip,.skip=>true
 | .skip,.label _=>true
 | .reg _ ais,.region _ ops false=>Mg P G n ops ais ops.toList
 | .drw _ qe ais,.region _ ops true=>Mg P G n ops ais ops.toList&&(Ro qe ops.toList&&P.follows .mixedOrders)
 | .seq x y,.seq c d=>D0 P G n x c&&D0 P G n y d
 | .cond s _ x y,.cond c x' y'=>B8 G s c&&(D0 P G n x x'&&D0 P G n y y')
 | .cond s _ _ _,_=>Aoe s
 | .blk i c,.block j c'=>i==j&&D0 P G n c c'
 | .blk i c,.scope c'=>decide (1000000<=i)&&D0 P G n c c'
 | .loop _ c,.loop c'=>D0 P G n c c'
 | .exit i,.exit j=>i==j&&decide (i<1000000)
 | .ret,.ret=>true
 | _,_=>false
def okR(P:Program)(n:Nat):AR->ResultVar->Bool
 | .tmp t,.tmp t'=>t==t'&&decide (t<n)
 | .cell t k one,.cell t' ty=>t==t'&&(Lm P ty k&&E1 P ty fun d=>Po d==!one)
 | _,_=>false
def Vz(P:Program)(n:Nat):List AR->List ResultVar->Bool
 | [],[]=>true
 | r::rs,q::qs=>okR P n r q&&Vz P n rs qs
 | _,_=>false
def Se(P:Program)(G:List (Nat × List V))(f:Nat)(F:AF):Bool:=
 match P.funcs[f]? with
 | some fn=>match fn.body with
  | some c=>D0 P G fn.ntmps F.body c&&(Vz P fn.ntmps F.res fn.results.toList&&(decide (F.pars<=fn.ntmps)&&fn.name != "runtime.NumGoroutine"))
  | none=>false
 | none=>false
/-! orders -/
def Bhg{d:List Nat}{o:Oper}(h:Ag1 d o=true)(qb:Nat->Bool):(o.after.all fun e=>!Region.binds .any e||qb e.on)=d.all qb:=by
 simp only[Ag1,Ai,Bu,Ns,Ov,Q7,Zk,beq_iff_eq]at h;rw[Bool.eq_iff_iff,Array.all_eq_true',Bu]
 grind
def Ael:∀ {qe:List (List Nat)} {os:List Oper},Ro qe os=true->qe.length=os.length/\∀ i o,os[i]?=some o->Ag1 (qe.getD i []) o=true
 | [],[],_=>⟨rfl,fun i o h=>by simp at h⟩
 | d::ds,o::os,h=>by
  simp only[Ro,Ai]at h;obtain⟨l,g⟩:=Ael h.2
  grind
 | [],_::_,h=>by grind[Ro]
 | _::_,[],h=>by grind[Ro]
def Ax8{qe:List (List Nat)}{ops:Array Oper}(hd:Ro qe ops.toList=true):∀ (fuel t:Nat) (qb:Array Bool) (qH:List Nat),qb.size=ops.size->(∀ i,i<ops.size->qb.getD i true=qH.elem i)->(∀ i,qb.getD i false=true->qH.elem i=true)->(∀ i,qH.elem i=true->i<ops.size) ->
  Region.linearise.go .any ops fuel t qb qH=Qo qe fuel t qH
 | 0,_,_,_,_,_,_,_=>rfl
 | fuel+1,t,qb,qH,hs,h1,h2,h3=>by
  obtain⟨hl,hg⟩:=Ael hd;have qp:qe.length=ops.size:=by simpa using hl
  have jM:(List.range ops.size).filter (fun i=>!qb.getD i true&&((ops[i]?).map (·.after.all fun e=>!Region.binds .any e||qb.getD e.on false)).getD false)=(List.range qe.length).filter (Nc qe qH):=by
   rw[qp];apply List.filter_congr;intro i hi;have qC:i<ops.size:=by simpa using hi
   have ho:ops[i]?=some ops[i]:=Array.getElem?_eq_getElem qC;have kO:=hg i ops[i] (by grind);rw[ho,h1 i qC];simp only[Ir,Q8,Nc];rw[Bhg kO (fun j=>qb.getD j false)];congr 1;apply List.all_congr rfl;intro j;rw[Bool.eq_iff_iff];constructor
   .grind
   .grind
  unfold Region.linearise.go Qo;simp only[jM]
  split
  .rename_i i hi;have jZ:i∈(List.range qe.length).filter (Nc qe qH):=F7 hi
   have qC:i<ops.size:=by
    have:=(U0.1 jZ).1;rw[qp]at this;simpa using this
   rw[hi];refine Ax8 hd fuel _ _ (i::qH) (by grind) (fun j hj=>?_) (fun j hj=>?_) (fun j hj=>?_)
   .by_cases kY:i=j
    .simp_all
    .have:=h1 j hj;have vM:(j==i)=false:=by simp;omega
     simp_all
   .by_cases kY:i=j
    .grind
    simp_all
   grind
  grind
theorem Bhh{qe:List (List Nat)}{ops:Array Oper}(hd:Ro qe ops.toList=true)(t:Nat):Region.linearise .any ops t=Q0 qe t:=by
 unfold Region.linearise Q0;have qp:qe.length=ops.size:=by simpa using (Ael hd).1
 rw[qp];refine Ax8 hd _ _ _ _ AE (fun i hi=>?_) (fun i hi=>?_) (fun i hi=>?_)
 .simp_all
 .by_cases h:i<ops.size
  .simp_all
  grind
 grind
open Go Go.RowKit
variable {P:Program} {G:List (Nat × List V)} {N:Nat} {γ:Gh} {σ:St} {w w':World}
def A05{κ:Ey}{O:List (Nat × Nat)}{v:V}{u:Value}(h:Rep1 ⟨κ,[]⟩ w v u):Rep1 ⟨κ,O⟩ w v u:=by
 have low:∀ {v:V} {u:Value},RepC ⟨κ,[]⟩ w v u->RepC ⟨κ,O⟩ w v u:=fun hr=>by
  induction hr with
  | row h=>exact .row h
  | imm row h1 h2 h3 h4=>exact .imm row h1 h2 h3 h4
  | ptr h=>simp at h
  | sl h=>simp at h
  | nilp=>exact .nilp
  | nilf=>exact .nilf
  | ifc=>exact .ifc
  | fn h1 h2 _ _ ih1 ih2=>exact .fn h1 h2 ih1 ih2
  | mp h=>simp at h
 cases h with
 | cell h=>exact .cell (low h)
 | agg h1 h2=>exact .agg h1 (fun j hj=>low (h2 j hj))
def Bq2{κ:Ey}{O:List (Nat × Nat)}{v:V}{u:Value}(h:RepV ⟨κ,[]⟩ w v u):RepV ⟨κ,O⟩ w v u:=by
 cases h with
 | und=>exact .und
 | skp=>exact .skp
 | one h=>exact .one (A05 h)
 | tup h1 h2=>exact .tup h1 (fun j hj=>A05 (h2 j hj))
theorem Zo{κ':Ey}{js:List Nat}(hI:Inv G N γ σ w)(hx:Ext γ w ⟨κ',γ.O⟩ w)(hs:Ahj γ σ js κ'){v v':V}{u:Value}(h:Gq σ js v=some v')(hr:RepV γ w v u)(O:List (Nat × Nat)):Rep1 ⟨κ',O⟩ w v' u:=by
 unfold Gq at h
 split at h
 .cases h;obtain⟨b,o,k,row,hu,h1,h2,h3,h4⟩:=Nx (Bc rfl hr);rw[hu];obtain⟨k',vc,qV⟩:=hx.kap _ _ h1;exact .cell (.imm row vc (C8 h2 qV) h3 (fun j hj=>(h4 j hj).keep hx.kap hx.cell))
 .rename_i cs;simp only[Cf]at h;obtain⟨cs',hm,rfl⟩:=h;obtain⟨us,hu,hl,hj⟩:=Sy hr;obtain⟨l,g⟩:=Re hm;rw[hu];refine .agg AA (fun j ja=>?_);have qN:j<cs.length:=by omega
  obtain⟨y,hy,hf⟩:=g j _ (B9 qN);rw[show cs'.getD j .und=y by grind];have:=hj j qN;rw[show cs.getD j .und=cs[j] by grind]at this;exact .row (Adu hI hx hs hf this)
 .have hc:v.cellB=true:=by
   unfold Fe at h
   split at h
   .rename_i hv;revert hv;cases v<;>simp[V.rowB,V.cellB]
   .split at h
    .rfl
    grind
  exact .cell (.row (Adu hI hx hs h (Bc hc hr)))
def Ado{κ':Ey}{js:List Nat}(hI:Inv G N γ σ w)(hx:Ext γ w ⟨κ',γ.O⟩ w)(hs:Ahj γ σ js κ'){v v':V}{u:Value}(h:Ky σ js v=some v')(hr:RepV γ w v u)(O:List (Nat × Nat)):RepV ⟨κ',O⟩ w v' u:=by
 unfold Ky at h
 split at h
 .rename_i vs;simp only[Cf]at h;obtain⟨qL,hm,rfl⟩:=h;obtain⟨us,hu,hl,hj⟩:=Ask hr;obtain⟨l,g⟩:=Re hm;rw[hu];refine .tup AA (fun j ja=>?_);have qN:j<vs.length:=by omega
  obtain⟨y,hy,hf⟩:=g j _ (B9 qN);rw[show qL.getD j .und=y by grind];have:=hj j qN;rw[show vs.getD j .und=vs[j] by grind]at this;exact Zo hI hx hs hf (.one this) O
 .exact .one (Zo hI hx hs h hr O)
def A45{v:V}{u:Value}(hf:v.flatV=true)(h:RepV γ w v u)(γ':Gh)(w':World):RepV γ' w' v u:=by
 cases h with
 | und=>exact .und
 | skp=>exact .skp
 | one h=>
  cases h with
  | cell h=>
   have:v.flatB=true:=by
    have hc:=(Ss h).1;revert hf hc
    cases v<;>simp[V.flatV,V.flatB,V.cellB]
   exact .one (.cell (Aej this h γ' w'))
  | @agg cs us h1 h2=>
   have jL:cs.all V.flatB=true:=hf;exact .one (.agg h1 (fun j hj=>Aej (Bu.1 jL _ (by grind)) (h2 j hj) γ' w'))
 | @tup vs us h1 h2=>
  have jL:(vs.all fun v=>v.cells.all V.flatB)=true:=hf;refine .tup h1 (fun j hj=>?_);have jO:=Bu.1 jL (vs.getD j .und) (by grind);have hr:=h2 j hj;generalize vs.getD j .und=x at jO hr;generalize us.getD j undef=y at hr ⊢
  cases hr with
  | cell h=>
   have:x.flatB=true:=by
    have hc:=(Ss h).1;revert jO hc
    cases x<;>simp[V.cells,V.flatB,V.cellB]
   exact .cell (Aej this h γ' w')
  | @agg cs us h1 h2=>
   have kT:cs.all V.flatB=true:=jO;exact .agg h1 (fun j hj=>Aej (Bu.1 kT _ (by grind)) (h2 j hj) γ' w')
def Akd{κ':Ey}(h:Inv G N ⟨κ',γ.O⟩ σ w):Inv G w.heap.size ⟨κ',[]⟩ [] w where
 base:=Aj _
 len:=rfl
 nd:=W1
 low:=fun i p h=>by simp at h
 obj:=fun i ob p h=>by simp at h
 dom:=h.dom
 glob:=fun g r hg=>by
  obtain⟨b,o,k,row,hu,h1,h2,h3,h4⟩:=Nx (h.glob g r hg);rw[hu];exact .imm row h1 h2 h3 h4
 gsz:=fun g r hg=>⟨by have:=(h.gsz g r hg).1;have:=h.base;omega,(h.gsz g r hg).2⟩
def Ap8{args:List V}{v:V}{u:Value}{κ1 κ2:Ey}{w1:World}(hI:Inv G N γ σ w)(h1:Inv G N ⟨κ1,γ.O⟩ (σ.freeze (Mp σ args)) w)(hx:Ext γ w ⟨κ1,γ.O⟩ w)(hN:∀ b,b<N->κ1 b=γ.κ b)
  (hb:Below w.heap.size w w1) (hk:∀ b,b<w.heap.size->κ2 b=κ1 b) (hd:∀ b k,κ2 b=some k->b<w1.heap.size) (hv:RepV ⟨κ2,[]⟩ w1 v u) :
  ∃ γ1,Inv G N γ1 (after σ args v) w1/\Ext γ w γ1 w1/\RepV γ1 w1 v u/\(∀ b,b<N->γ1.κ b=γ.κ b)/\Below N w w1:=by
 unfold after
 split
 .rename_i hf
  obtain⟨i1,i2⟩:=hI.more (w':=w1) (κ':=fun b=>if b<w.heap.size then γ.κ b else κ2 b) (fun b qx=>hb.block b qx) hb.size (fun b qx=>if_pos qx) (fun b k vJ=>by
   by_cases qx:b<w.heap.size
   .have:=hb.size;omega
   grind)
  exact⟨_,i1,i2,A45 hf hv _ _,fun b qx=>if_pos (Px qx hI.base),hb.mono hI.base⟩
 .obtain⟨i1,i2⟩:=h1.more (w':=w1) (κ':=κ2) (fun b qx=>hb.block b qx) hb.size hk hd;exact⟨_,i1,hx.trans i2,Bq2 hv,fun b qx=>(hk b (Px qx hI.base)).trans (hN b qx),hb.mono hI.base⟩
def Iz(P:Program)(G:List (Nat × List V))(f:Nat)(s:List V->Option V):Prop:=
 (∃ fn c,P.funcs[f]?=some fn/\fn.body=some c/\fn.name ≠ "runtime.NumGoroutine") /\
 ∀ (κ:Ey) (w:World) (vs:List V) (us:List Value) (v:V),(∀ g r,(g,r)∈G->RepC ⟨κ,[]⟩ w (.imm r 0) (.pointer (some ⟨g,0,none⟩)))->(∀ g r,(g,r)∈G->Ej w g=some r.length)->(∀ b k,κ b=some k->b<w.heap.size)->vs.length=us.length ->
  (∀ j,j<vs.length->Rep1 ⟨κ,[]⟩ w (vs.getD j .und) (us.getD j undef))->s vs=some v ->
  Calls P f us.toArray w fun e w'=>∃ u κ',e=.returned u/\RepV ⟨κ',[]⟩ w' v u/\Below w.heap.size w w'/\(∀ b,b<w.heap.size->κ' b=κ b)/\∀ b k,κ' b=some k->b<w'.heap.size
def Tq(P:Program)(G:List (Nat × List V))(f:Nat)(s:List V->St->Option (V × St)):Prop:=
 (∃ fn c,P.funcs[f]?=some fn/\fn.body=some c/\fn.name ≠ "runtime.NumGoroutine") /\
 ∀ (args:List V) (σ:St) (v:V) (σ':St),s args σ=some (v,σ')->∀ (us:List Value) (w:World) (γ:Gh) (N:Nat),args.length=us.length->(∀ j,j<args.length->RepV γ w (args.getD j .und) (us.getD j undef))->Inv G N γ σ w ->
   Calls P f us.toArray w fun e w'=>∃ u γ',e=.returned u/\RepV γ' w' v u/\Inv G N γ' σ' w'/\Ext γ w γ' w'/\Below N w w'/\∀ b,b<N->γ'.κ b=γ.κ b
/-! objects under new numbers -/
theorem U8:∀ {cs:List V} {j i:Nat},j<cs.length->i∈(cs.getD j .und).refs->i∈Ag cs
 | [],_,_,h,_=>by simp at h
 | c::cs,0,i,_,h=>by grind[Ag]
 | c::cs,j+1,i,hj,h=>by simp only[Ag,Cu];exact .inr (U8 (j:=j) (by grind) (by grind))
theorem Ny(ρ:Nat->Nat):∀ cs:List V,(Fh ρ cs).length=cs.length
 | []=>rfl
 | c::cs=>by simp[Fh,Ny ρ cs]
theorem Xi(ρ:Nat->Nat):∀ {cs:List V} {j:Nat},j<cs.length->(Fh ρ cs).getD j .und=(cs.getD j .und).ren ρ
 | [],_,h=>by simp at h
 | c::cs,0,_=>by simp[Fh]
 | c::cs,j+1,h=>by simpa[Fh] using Xi ρ (cs:=cs) (j:=j) (by grind)
def RepC.renum{O:List (Nat × Nat)}{ρ:Nat->Nat}{v:V}{u:Value}(h:RepC γ w v u):(∀ i∈v.refs,∀ p,γ.O[i]?=some p->O[ρ i]?=some p)->RepC ⟨γ.κ,O⟩ w (v.ren ρ) u:=by
 induction h with
 | row h=>
  intro _
  cases h with
  | bool=>exact .row .bool
  | int=>exact .row .int
  | str h=>exact .row (.str h)
  | nili=>exact .row .nili
  | ifc=>exact .row .ifc
  | nils=>exact .row .nils
  | lst row h1 h2 h3 h4 h5 h6 h7=>exact .row (.lst row h1 h2 h3 h4 h5 h6 h7)
 | imm row h1 h2 h3 h4=>exact fun _=>.imm row h1 h2 h3 h4
 | ptr h1 h2 h3=>exact fun hr=>.ptr (hr _ AS _ h1) h2 h3
 | sl h1 h2 h3 h4 h5 h6=>exact fun hr=>.sl (hr _ AS _ h1) h2 h3 h4 h5 h6
 | nilp=>exact fun _=>.nilp
 | nilf=>exact fun _=>.nilf
 | ifc=>exact fun _=>.ifc
 | fn h1 h2 _ _ ih1 ih2=>
  intro hr;refine .fn (by grind[Ny]) (by grind[Ny]) (fun j hj=>?_) (fun j hj=>?_)
  .grind[Ny,Xi,V.refs,U8]
  grind[Ny,Xi,V.refs,U8]
 | mp h1 h2 h3=>exact fun hr=>.mp (hr _ AS _ h1) h2 h3
def Rep1.renum{O:List (Nat × Nat)}{ρ:Nat->Nat}{v:V}{u:Value}(h:Rep1 γ w v u)(hr:∀ i∈v.refs,∀ p,γ.O[i]?=some p->O[ρ i]?=some p):Rep1 ⟨γ.κ,O⟩ w (v.ren ρ) u:=by
 cases h with
 | cell h=>exact .cell (h.renum hr)
 | agg h1 h2=>
  refine .agg (by grind[Ny]) (fun j hj=>?_);rw[Ny]at hj;rw[Xi ρ hj];exact(h2 j hj).renum (fun i hi=>hr i (by grind[V.refs,U8]))
def RepV.renum{O:List (Nat × Nat)}{ρ:Nat->Nat}{v:V}{u:Value}(h:RepV γ w v u)(hr:∀ i∈v.refs,∀ p,γ.O[i]?=some p->O[ρ i]?=some p):RepV ⟨γ.κ,O⟩ w (v.ren ρ) u:=by
 cases h with
 | und=>exact .und
 | skp=>exact .skp
 | one h=>exact .one (h.renum hr)
 | tup h1 h2=>
  refine .tup (by grind[Ny]) (fun j hj=>?_);rw[Ny]at hj;rw[Xi ρ hj];exact(h2 j hj).renum (fun i hi=>hr i (by grind[V.refs,U8]))
def ObOk.renum{O:List (Nat × Nat)}{ρ:Nat->Nat}{ob:Ob}{p:Nat × Nat}(h:ObOk γ w ob p)(hr:∀ i∈ob.refs,∀ q,γ.O[i]?=some q->O[ρ i]?=some q):ObOk ⟨γ.κ,O⟩ w (ob.ren ρ) p:=by
 cases ob with
 | row cs e g z=>
  obtain⟨h1,h2,h3,us,lo,hi,h4,h5,h6,h7⟩:=h;refine⟨h1,h2,by grind[Ny],us,lo,hi,h4,h5,by grind[Ny],fun j hj=>?_⟩;rw[Ny]at hj;rw[Xi ρ hj];exact(h7 j hj).renum (fun i hi=>hr i (by grind[Ob.refs,U8]))
 | map kvs=>
  obtain⟨h1,h2,es,h3,h4,h5⟩:=h;refine⟨h1,h2,es,by grind,by grind,fun i k v hi=>?_⟩;simp only[Au,Cf]at hi;obtain⟨⟨k',v'⟩,hi,he⟩:=hi;simp only[Prod.mk.injEq]at he;obtain⟨rfl,rfl⟩:=he;obtain⟨en,a1,a2,a3,a4,a5,a6⟩:=h5 i k' v' hi
  have kX:(v'.ren ρ).flatB=true:=by revert a5;cases v'<;>simp[V.flatB,V.ren]
  exact⟨en,a1,a2,a3,a4,kX,a6.renum (fun i' qC=>hr i' (by
   simp only[Ob.refs];have qx:=(Ao.1 hi).1
   exact U8 (j:=i) (by grind) (by grind)))⟩
 | dead=>exact h
mutual
theorem Amc:∀ v:V,v.ren (fun i=>i)=v
 | .und | .skp | .bool _ | .int _ _ | .str _ | .nili | .ifc | .nils | .nilp | .nilf | .lst _ _ | .imm _ _ | .ptr _ _ _ | .sl _ _ _ _ _ _ | .mp _=>by simp[V.ren]
 | .fn f a c=>by simp[V.ren,Xs a,Xs c]
 | .agg cs=>by simp[V.ren,Xs cs]
 | .tup vs=>by simp[V.ren,Xs vs]
theorem Xs:∀ cs:List V,Fh (fun i=>i) cs=cs
 | []=>rfl
 | c::cs=>by simp[Fh,Amc c,Xs cs]
end
theorem Aq9(ob:Ob):ob.ren (fun i=>i)=ob:=by
 cases ob with
 | row cs e g z=>simp[Ob.ren,Xs]
 | map kvs=>simp[Ob.ren,Amc]
 | dead=>rfl
theorem Aem:∀ {cs:List V} {i:Nat},i∈Ag cs->∃ j,j<cs.length/\i∈(cs.getD j .und).refs
 | [],_,h=>by grind[Ag]
 | c::cs,i,h=>by
  simp only[Ag,Cu]at h;rcases h with h | h
  .exact⟨0,by simp,by grind⟩
  .obtain⟨j,h1,h2⟩:=Aem h;exact⟨j+1,by grind,by grind⟩
def RepC.refs_lt{v:V}{u:Value}(h:RepC γ w v u):∀ i∈v.refs,i<γ.O.length:=by
 induction h with
 | row h=>intro i hi;cases h<;>simp[V.refs]at hi
 | imm=>grind[V.refs]
 | ptr h1=>grind[V.refs]
 | sl h1=>grind[V.refs]
 | nilp=>grind[V.refs]
 | nilf=>grind[V.refs]
 | ifc=>grind[V.refs]
 | fn h1 h2 _ _ ih1 ih2=>
  grind[V.refs,Aem]
 | mp h1=>grind[V.refs]
def ObOk.refs_lt{ob:Ob}{p:Nat × Nat}(h:ObOk γ w ob p):∀ i∈ob.refs,i<γ.O.length:=by
 intro i hi
 cases ob with
 | row cs e g z=>
  obtain⟨_,_,_,us,lo,qC,_,_,_,h7⟩:=h;obtain⟨j,g1,g2⟩:=Aem (show i∈Ag cs from hi);exact(h7 j g1).refs_lt i g2
 | map kvs=>
  obtain⟨_,_,es,_,_,h5⟩:=h;obtain⟨j,g1,g2⟩:=Aem (show i∈Ag (kvs.map (·.2)) from hi);have hj:j<kvs.length:=by simpa using g1
  obtain⟨en,_,_,_,_,_,a6⟩:=h5 j (kvs[j]).1 (kvs[j]).2 (B9 hj);exact a6.refs_lt i (by grind)
 | dead=>grind[Ob.refs]
def Inv.leave{γ':Gh}{σ':St}{w':World}{n:Nat}{js:List Nat}{ρ:Nat->Nat}(hI:Inv G N γ' σ' w')(hn:n<=σ'.length)(vb:∀ i∈js,n<=i/\i<σ'.length)(vi:js.Nodup)
  (hρ:∀ i,i<n->ρ i=i) (vB:∀ k (hk:k<js.length),ρ js[k]=n+k)
  (kA:∀ (i:Nat) (ob:Ob),(i<n\/i∈js)->σ'[i]?=some ob->∀ j∈ob.refs,j<n\/j∈js) :
  Inv G N ⟨γ'.κ,γ'.O.take n++js.filterMap (γ'.O[·]?)⟩ ((σ'.take n++js.filterMap (σ'[·]?)).map (Ob.ren ρ)) w'/\∀ i,(i<n\/i∈js)->∀ p,γ'.O[i]?=some p->(γ'.O.take n++js.filterMap (γ'.O[·]?))[ρ i]?=some p:=by
 have qp:=hI.len
 have pick:∀ {α:Type} (l:List α),l.length=σ'.length->(js.filterMap (l[·]?)).length=js.length/\∀ k (hk:k<js.length),(js.filterMap (l[·]?))[k]?=l[js[k]]?:=fun {α} l hl=>by
  have:js.filterMap (l[·]?)=js.pmap (fun i hi=>l[i]' AA) (fun i hi=>(vb i hi).2):=by
   clear vi vB kA
   induction js with
   | nil=>rfl
   | cons a js ih=>
    simp_all [Nq]
  grind
 obtain⟨vC,vT⟩:=pick γ'.O qp;obtain⟨vD,vU⟩:=pick σ' rfl;have jy:(γ'.O.take n).length=n:=by simp;omega
 have qY:(σ'.take n).length=n:=by simp;omega
 have jl:∀ i,(i<n\/i∈js)->∀ p,γ'.O[i]?=some p->(γ'.O.take n++js.filterMap (γ'.O[·]?))[ρ i]?=some p:=by
  intro i hi p hp;by_cases jS:i<n
  .grind
  .rcases hi with h | h
   .omega
   .obtain⟨k,hk,rfl⟩:=Ou h
    simp_all [F6]
 have Ed:∀ q,q<n+js.length->∃ i,(i<n\/i∈js)/\ρ i=q/\(γ'.O.take n++js.filterMap (γ'.O[·]?))[q]?=γ'.O[i]?/\(σ'.take n++js.filterMap (σ'[·]?))[q]?=σ'[i]?:=by
  intro q hq;by_cases vQ:q<n
  .grind
  .have hk:q - n<js.length:=by omega
   grind
 have jG:(γ'.O.take n++js.filterMap (γ'.O[·]?)).length=n+js.length:=by rw[Aq,jy,vC]
 have vH:(σ'.take n++js.filterMap (σ'[·]?)).length=n+js.length:=by rw[Aq,qY,vD]
 refine⟨⟨hI.base,by grind,?_,fun q p hp=>?_,fun q ob p h1 h2=>?_,hI.dom,fun g r hg=>?_,hI.gsz⟩,jl⟩
 .refine Wp.2 fun q1 q2 h1 h2 vG=>?_
  simp only[Ar,jG]at h1 h2;obtain⟨i1,c1,e1,o1,_⟩:=Ed q1 h1;obtain⟨i2,c2,e2,o2,_⟩:=Ed q2 h2;have vj:i1≠i2:=fun e=>by grind
  rw[List.getElem_map,List.getElem_map];have vn:q1<(γ'.O.take n++js.filterMap (γ'.O[·]?)).length:=by omega
  have vo:q2<(γ'.O.take n++js.filterMap (γ'.O[·]?)).length:=by omega
  rw[B9 vn]at o1;rw[B9 vo]at o2;exact hI.ne o1.symm o2.symm vj
 .have hq:q<n+js.length:=by have:=(Ao.1 hp).1;rw[<-jG];exact this
  obtain⟨i,c1,e1,o1,_⟩:=Ed q hq;have kC:(γ'.O.take n++js.filterMap (γ'.O[·]?))[q]?=some p:=hp;rw[o1]at kC;exact hI.low i p kC
 .have hq:q<n+js.length:=by have:=(Ao.1 h2).1;rw[<-jG];exact this
  obtain⟨i,c1,e1,o1,o2⟩:=Ed q hq;have kq:(γ'.O.take n++js.filterMap (γ'.O[·]?))[q]?=some p:=h2;rw[o1]at kq;simp only[Au,Cf]at h1;obtain⟨kF,h1,rfl⟩:=h1;rw[o2]at h1;exact(hI.obj i kF p h1 kq).renum (fun j hj r hr=>jl j (kA i kF c1 h1 j hj) r hr)
 .obtain⟨b,o,k,row,hu,h1,h2,h3,h4⟩:=Nx (hI.glob g r hg);rw[hu];exact .imm row h1 h2 h3 h4
open Go Go.RowKit
variable {P:Program} {G:List (Nat × List V)} {T:Nat->Option AF} {pr:Nat->Option (List V->Option V)}
def Leaves(G:List (Nat × List V))(N n:Nat)(D:List Deferred)(γ:Gh)(σ:St)(w:World)(e':Env)(σ':St)(a':Act)(w':World):Prop:=
 ∃ γ',RepE γ' w' e' a'.tmps/\Inv G N γ' σ' w'/\Ext γ w γ' w'/\Below N w w'/\(∀ b,b<N->γ'.κ b=γ.κ b)/\a'.tmps.size=n/\a'.defers=D
def Leaves.after{N n:Nat}{D:List Deferred}{γ γ1:Gh}{σ σ1 σ':St}{w w1 w':World}{e':Env}{a':Act}(hx:Ext γ w γ1 w1)(hb:Below N w w1)(hk:∀ b,b<N->γ1.κ b=γ.κ b)(h:Leaves G N n D γ1 σ1 w1 e' σ' a' w'):Leaves G N n D γ σ w e' σ' a' w':=by
 obtain⟨γ',h1,h2,h3,h4,h5,h6⟩:=h;exact⟨γ',h1,h2,hx.trans h3,hb.trans h4,fun b hb=>(h5 b hb).trans (hk b hb),h6⟩
inductive MK (P:Program) (G:List (Nat × List V)) (n:Nat):List It->List Item->Prop
 | nil:MK P G n [] []
 | c {ac:AC} {c:Code} {k:List It} {qd:List Item}:D0 P G n ac c=true->MK P G n k qd->MK P G n (.c ac::k) (.code c::qd)
 | b {id:Nat} {k:List It} {qd:List Item}:MK P G n k qd->MK P G n (.b id::k) (.inBlock id::qd)
 | s {id:Nat} {c:Code} {k:List It} {qd:List Item}:1000000<=id->MK P G n k qd->MK P G n (.b id::k) (.inScope c::qd)
 | l {keep:List Nat} {ac:AC} {c:Code} {k:List It} {qd:List Item}:D0 P G n ac c=true->MK P G n k qd->MK P G n (.l keep ac::k) (.inLoop c::qd)
 | l' {keep:List Nat} {ac:AC} {c:Code} {k:List It} {qd:List Item}:D0 P G n ac c=true->MK P G n k qd->MK P G n (.l keep ac::k) (.code (.loop c)::qd)
def MK.exit{n id:Nat}{k:List It}{qd:List Item}(qx:id<1000000)(h:MK P G n k qd):∀ {k':List It},exitTo id k=some k'->∃ todo',Go.exitTo id qd=some todo'/\MK P G n k' todo':=by
 induction h with
 | nil=>grind[exitTo]
 | c _ _ ih=>grind[exitTo,Go.exitTo]
 | b hk ih=>
  grind[exitTo,Go.exitTo]
 | s hi hk ih=>
  grind[exitTo,Go.exitTo]
 | l _ _ ih=>grind[exitTo,Go.exitTo]
 | l' _ _ ih=>grind[exitTo,Go.exitTo]
def ML(P:Program)(G:List (Nat × List V))(n:Nat)(ops:Array Oper):List AI->List Nat->Prop
 | [],[]=>True
 | i::is,j::js=>(∃ o,ops[j]?=some o/\Yx P G n ops i o=true)/\ML P G n ops is js
 | _,_=>False
def Am9(P:Program)(G:List (Nat × List V)):J->Prop
 | .ops l e σ e' σ'=>∀ (n:Nat) (D:List Deferred) (ops:Array Oper) (L:List Nat) (a:Act) (w:World) (γ:Gh) (N:Nat) (Q:Exit->Act->World->Prop),ML P G n ops l L->a.tmps.size=n->a.defers=D->RepE γ w e a.tmps->Inv G N γ σ w ->
   (∀ a' w',Leaves G N n D γ σ w e' σ' a' w'->Q .normal a' w')->wpOps P ops Q L a w
 | .code k e σ e' σ'=>∀ (n:Nat) (D:List Deferred) (qd:List Item) (a:Act) (w:World) (γ:Gh) (N:Nat),MK P G n k qd->a.tmps.size=n->a.defers=D->RepE γ w e a.tmps->Inv G N γ σ w->∀ (b:Frame) (cs:List Frame),
   ∃ a' w' todo',Steps P (lone (b.at a qd) cs w) (lone { b.at a' todo' with mode:=.returning } cs w')/\Leaves G N n D γ σ w e' σ' a' w'
 | .fn f args σ v σ'=>∀ (us:List Value) (w:World) (γ:Gh) (N:Nat),args.length=us.length->(∀ j,j<args.length->RepV γ w (args.getD j .und) (us.getD j undef))->Inv G N γ σ w ->
   Calls P f us.toArray w fun e w'=>∃ u γ',e=.returned u/\RepV γ' w' v u/\Inv G N γ' σ' w'/\Ext γ w γ' w'/\Below N w w'/\∀ b,b<N->γ'.κ b=γ.κ b
def Su{n:Nat}{ops:Array Oper}{i:AI}{o:Oper}{γ:Gh}{w:World}{e:Env}{a:Act}{z:Bool}(hg:okG n ops i.g o.guard=true)(ha:a.tmps.size=n)(hE:RepE γ w e a.tmps)(h:Cw e i=some z):Region.wanted o (yielded ops a.tmps)=z:=by
 unfold okG at hg;unfold Cw at h;unfold Region.wanted
 split at hg
 .grind
 .rename_i t b j b' h1 h2;simp only[Ai,beq_iff_eq,decide_eq_true_eq]at hg;obtain⟨rfl,hd,ht⟩:=hg;rw[h1]at h;rw[h2];simp only at h ⊢;have qE:=hE t
  have hy:a.tmps[t]?=some (a.tmps.getD t undef):=by
   rw[Array.getD_eq_getD_getElem?,Array.getElem?_eq_getElem AA];rfl
  split at h
  .rename_i z' e1;rw[e1]at qE;have:=Py (Bc rfl qE)
   simp_all [yielded]
  .rename_i e1;rw[e1]at qE;cases h
   have:a.tmps.getD t undef=undef:=by
    generalize a.tmps.getD t undef=u at qE
    cases qE with
    | skp=>rfl
    | one h=>cases h with | cell h=>exact absurd (Ss h).1 (by simp[V.cellB])
   simp only[yielded,hd,C5,hy,this]
   cases b<;>rfl
  grind
 grind
def S4{n:Nat}{γ:Gh}{w:World}{e:Env}{a:Act}{d:Option Nat}{v:V}{u:Value}(hd:(match d with | some d=>decide (d<n) | none=>true)=true)(ha:a.tmps.size=n)(hE:RepE γ w e a.tmps)(hv:RepV γ w v u):
  RepE γ w (e.putO d v) (a.put d u).tmps/\(a.put d u).tmps.size=n/\(a.put d u).defers=a.defers:=by
 cases d with
 | none=>exact⟨hE,ha,rfl⟩
 | some d=>
  simp only[decide_eq_true_eq]at hd;exact⟨hE.put AA hv,by grind[Act.put],rfl⟩
def A46{f:Nat}{xs:List S}{op:Op}(h:Aa8 P G f xs op=true):∃ args ts,op=.call { callee:=.value (.func f),args,argTypes:=ts }/\Qv G xs args.toList=true:=by
 unfold Aa8 at h
 grind
def Z4{f:Nat}{F:AF}(h:Se P G f F=true):∃ fn c,P.funcs[f]?=some fn/\fn.body=some c/\D0 P G fn.ntmps F.body c=true/\Vz P fn.ntmps F.res fn.results.toList=true/\F.pars<=fn.ntmps/\fn.name ≠ "runtime.NumGoroutine":=by
 unfold Se at h
 grind
def Bci{γ:Gh}{w:World}{v:V}{u:Value}(h:Hm v=true)(hr:RepV γ w v u):Rep1 γ w v u:=by
 cases hr with
 | und=>grind[Hm,V.cellB]
 | skp=>grind[Hm,V.cellB]
 | one h=>exact h
 | tup=>grind[Hm,V.cellB]
def Aa9(tm:Array Value):ResultVar->Sem Value
 | .tmp t=>pure (tm.getD t undef)
 | .cell a t=>do loadVar t (<-asAddr (tm.getD a undef))
def Alc{n:Nat}{N:Nat}{γ:Gh}{σ:St}{w:World}{e:Env}{tm:Array Value}(hE:RepE γ w e tm)(hI:Inv G N γ σ w):∀ {rs:List AR} {qs:List ResultVar} {vs:List V},Vz P n rs qs=true->rs.mapM (Gs e σ)=some vs ->
  ∃ us:List Value,(qs.mapM (Aa9 tm)).run P w=.ok us w/\vs.length=us.length/\us.length=qs.length/\∀ j,j<vs.length->RepV γ w (vs.getD j .und) (us.getD j undef)
 | [],[],vs,_,h=>by
  simp_all
 | r::rs,q::qs,vs,qa,h=>by
  simp only[Vz,Ai]at qa;rw[Le]at h
  cases h1:Gs e σ r with
  | none=>grind
  | some v=>
   cases h2:rs.mapM (Gs e σ) with
   | none=>grind
   | some qL=>
    simp[h1,h2]at h;subst h;obtain⟨us,g1,g2,vF,g3⟩:=Alc hE hI qa.2 h2
    have key:∃ u,(Aa9 tm q).run P w=.ok u w/\RepV γ w v u:=by
     have hr:=qa.1;unfold okR at hr
     split at hr
     .rename_i t t';simp only[Ai,beq_iff_eq]at hr;obtain⟨rfl,_⟩:=hr;simp only[Gs]at h1;cases h1;exact⟨tm.getD t undef,rfl,hE t⟩
     .rename_i t k one t' ty;simp only[Ai,beq_iff_eq]at hr;obtain⟨rfl,vp,vq⟩:=hr;obtain⟨fi,i1,i2⟩:=M6 vp;obtain⟨d,hd,hs⟩:=Fi vq;simp only[Gs]at h1;obtain⟨b,p,cs,f,hu,k1,k2,k3,k4⟩:=Aso hI (hE t) h1;obtain⟨m1,m2⟩:=Ajh k1 k2 k4;have hl:=Apt (P:=P) (w:=w) hd (eq_of_beq hs) i1 i2 (fun h=>(m1 h).1) k3;refine⟨if one then f 0 else .agg ((List.range k).map f).toArray,by grind[Aa9,asAddr],?_⟩
      cases one with
      | true=>exact C9 (m1 rfl).2
      | false=>exact .one (m2 rfl)
     .cases hr
    obtain⟨u,hu,hv⟩:=key;refine⟨u::us,by simp_all,by simp[g2],by grind,fun j hj=>?_⟩
    grind
 | [],_::_,_,h,_=>by grind[Vz]
 | _::_,[],_,h,_=>by grind[Vz]
def ML.tail{n:Nat}{ops:Array Oper}{i:AI}{is:List AI}{L:List Nat}(h:ML P G n ops (i::is) L):∃ j js o,L=j::js/\ops[j]?=some o/\Yx P G n ops i o=true/\ML P G n ops is js:=by
 cases L with
 | nil=>exact h.elim
 | cons j js=>obtain⟨⟨o,h1,h2⟩,h3⟩:=h;grind
def V0{n:Nat}{ops:Array Oper}{o:Oper}{j:Nat}{js:List Nat}{a:Act}{w:World}{Q:Exit->Act->World->Prop}(ho:ops[j]?=some o)(hw:Region.wanted o (yielded ops a.tmps)=true)(h:o.wp P a w (wpOps P ops Q js) Q):wpOps P ops Q (j::js) a w:=by
 simp_all [wpOps]
def Bhi{ops:Array Oper}{o:Oper}{j:Nat}{js:List Nat}{a:Act}{w:World}{Q:Exit->Act->World->Prop}(ho:ops[j]?=some o)(hw:Region.wanted o (yielded ops a.tmps)=false)(h:wpOps P ops Q js (a.put o.dst undef) w):wpOps P ops Q (j::js) a w:=by
 grind[wpOps]
def Sq{n:Nat}{ops:Array Oper}{i:AI}{o:Oper}(h:Yx P G n ops i o=true):i.dst=o.dst/\(match i.dst with | some d=>decide (d<n) | none=>true)=true/\okG n ops i.g o.guard=true/\(match i.op with | .call f xs=>Aa8 P G f xs o.op | .callv s xs=>Aap P G s xs o.op | ao=>Yw P G ao o.op)=true:=by
 unfold Yx at h
 grind
theorem Ap9{f:FuncId}{fn:Func}{c:Code}{args:Array Value}{w:World}(hf:P.funcs[f]?=some fn)(hb:fn.body=some c)(hn:fn.name ≠ "runtime.NumGoroutine"):(callFunc f args).run P w=.ok (.enter f args) w:=by
 simp_all [callFunc]
def A78{a:Act}{o:Oper}{w:World}{f:FuncId}{fn:Func}{c:Code}{args:Array Operand}{ts:Array TypeId}(ho:o.op=.call { callee:=.value (.func f),args,argTypes:=ts })(hf:P.funcs[f]?=some fn)(hb:fn.body=some c)(hn:fn.name ≠ "runtime.NumGoroutine") :
  (execOp a.eval o).run P w=.ok (.enter f (args.map a.eval)) w:=by
 grind[Ap9,execOp,resolve,Deferred.ofValue,Act.eval,invoke]
def A47{a:Act}{o:Oper}{w:World}{f:FuncId}{fn:Func}{c:Code}{x:Operand}{args:Array Operand}{ts:Array TypeId}{ua uc:Array Value}(ho:o.op=.call { callee:=.value x,args,argTypes:=ts })(hx:a.eval x=.func (.func f) ua uc)(hf:P.funcs[f]?=some fn)(hb:fn.body=some c)(hn:fn.name ≠ "runtime.NumGoroutine") :
  (execOp a.eval o).run P w=.ok (.enter f (ua++args.map a.eval++uc)) w:=by
 grind[Ap9,execOp,resolve,Deferred.ofValue,invoke]
def A3s{s:S}{xs:List S}{op:Op}(h:Aap P G s xs op=true):∃ x args ts,op=.call { callee:=.value x,args,argTypes:=ts }/\B8 G s x=true/\Qv G xs args.toList=true:=by
 unfold Aap at h
 grind
def Avz(args:Array Operand)(f:Operand->Value):args.map f=(args.toList.map f).toArray:=by
 grind
def As0{γ:Gh}{w:World}{vs qL:List V}{us us':List Value}(h:vs.length=us.length/\∀ j,j<vs.length->RepV γ w (vs.getD j .und) (us.getD j undef))(h':qL.length=us'.length/\∀ j,j<qL.length->RepV γ w (qL.getD j .und) (us'.getD j undef)):
  (vs++qL).length=(us++us').length/\∀ j,j<(vs++qL).length->RepV γ w ((vs++qL).getD j .und) ((us++us').getD j undef):=by
 grind
def W6{n N:Nat}{γ:Gh}{σ:St}{w:World}{e:Env}{a:Act}{ops:Array Oper}{i:AI}{o:Oper}{f:Nat}{vs:List V}{fn:Func}{c:Code}(qa:(match i.op with | .call f xs=>Aa8 P G f xs o.op | .callv s xs=>Aap P G s xs o.op | ao=>Yw P G ao o.op)=true)(hc:Ck e i.op=some (f,vs))(hE:RepE γ w e a.tmps)(hI:Inv G N γ σ w)
  (hf:P.funcs[f]?=some fn) (hb:fn.body=some c) (hn:fn.name ≠ "runtime.NumGoroutine") :
  ∃ us:List Value,(execOp a.eval o).run P w=.ok (.enter f us.toArray) w/\vs.length=us.length/\∀ j,j<vs.length->RepV γ w (vs.getD j .und) (us.getD j undef):=by
 have args:∀ {xs:List S} {os:Array Operand},Qv G xs os.toList=true->(xs.map (Ac e)).length=(os.toList.map a.eval).length/\∀ j,j<(xs.map (Ac e)).length->RepV γ w ((xs.map (Ac e)).getD j .und) ((os.toList.map a.eval).getD j undef):=fun {xs os} jD=>by
  grind[Asz]
 generalize i.op=op at qa hc
 cases op with
 | call f' xs=>
  simp only[Ck]at hc;cases hc;obtain⟨os,ts,ke,jD⟩:=A46 qa;refine⟨os.toList.map a.eval,?_,args jD⟩;rw[A78 ke hf hb hn,Avz]
 | callv s xs=>
  simp only[Ck]at hc
  split at hc
  .rename_i f' as cs hs;cases hc;obtain⟨x,os,ts,ke,h1,jD⟩:=A3s qa;have hr:=Aal (a:=a) h1 hE hI;rw[hs]at hr;obtain⟨ua,uc,hu,ve,vf,vr,vt⟩:=Ak8 (Bc rfl hr);refine⟨ua++os.toList.map a.eval++uc,?_,As0 (As0 ⟨ve,fun j hj=>C9 (vr j hj)⟩ (args jD)) ⟨vf,fun j hj=>C9 (vt j hj)⟩⟩;rw[A47 ke hu hf hb hn,Avz];simp
  grind
 | _=>grind[Ck]
