/- The methods of strings.Builder, known by what they do (second form). -/
import Derived.Test.YtcoeikinocflnaaGreatDoorKy
import Derived.Test.YtcoeikinocflnaaGreatDoorShelf
import Derived.Lib.UnsafeStr
set_option linter.all false
namespace Go.Proofs.YtcoeikinocflnaaGreatDoor.KM
open Go Go.RowKit Go.Shelf
theorem Amy(w:World)(g n b:Nat)(h:b≠g):(w.freeze ⟨g,0,none⟩ n).heap[b]?=w.heap[b]?:=by
 unfold World.freeze
 split
 ·rfl
 ·simp only[Array.getElem?_modify];rw[if_neg (by exact fun e=>h e.symm)]
theorem Am6(w:World)(g n:Nat){cur:Array Value}{e:TypeId}{lo hi:Nat}(h:w.heap[g]?=some (.cells cur e (lo,hi))):∃ lo' hi',(w.freeze ⟨g,0,none⟩ n).heap[g]?=some (.cells cur e (lo',hi'))/\hi'<=max hi n:=by
 unfold World.freeze
 split
 ·exact⟨lo,hi,h,by omega⟩
 ·simp only[Array.getElem?_modify,if_true,h,Ha]
  split
  ·exact⟨_,_,rfl,by simp<;>omega⟩
  ·exact⟨_,_,rfl,by simp<;>omega⟩
section
variable {P:Program} {ρ:Ren}
set_option maxHeartbeats 1000000 in
set_option maxRecDepth 100000 in
theorem Ano(L:Lays.n169 P ρ)(X:Builder.Extra P ρ)(b g cap:Nat)(cur:Array Value)(fz:Nat × Nat)(l:List UInt8)(w:World)(h0:l≠[])(hbk:w.cell? ⟨b,1,none⟩=some (.slice (some ⟨g,0,none⟩) l.length cap))
  (hg:w.heap[g]?=some (.cells cur (ρ.t 5) fz)) (hnc:l.length<=cap) (hcs:l.length<=cur.size) (hm:l.length<=9223372036854775807) (hcell:∀ j x,l[j]?=some x->w.cell? ((⟨g,0,none⟩:Addr).add j)=some (.int .u8 x.toNat)) :
  Calls P (ρ.f 169) #[.pointer (some ⟨b,0,none⟩)] w fun e w'=>e=.returned (.string ⟨l.toArray⟩)/\w'=w.drew.freeze ⟨g,0,none⟩ l.length:=by
 have hl0:l.length≠0:=by simpa using h0
 have c1:w.drew.cell? ⟨b,1,none⟩=some (.slice (some ⟨g,0,none⟩) l.length cap):=hbk
 have hSD:(Builtin.unsafeSliceData_ #[(ρ.t 37)] (ρ.t 127) #[.slice (some ⟨g,0,none⟩) l.length cap]).run P w.drew=.ok (.pointer (some ⟨g,0,none⟩)) w.drew:=
  Lib.run_unsafeSliceData_row _ _ _ _ _ _ (by omega)
 have hUS:(Builtin.unsafeString_ #[(ρ.t 127),(ρ.t 3)] (ρ.t 9) #[.pointer (some ⟨g,0,none⟩),.int .i64 l.length]).run P w.drew=.ok (.string ⟨l.toArray⟩) (w.drew.freeze ⟨g,0,none⟩ l.length):=
  Lib.run_unsafeString_row w.drew (ρ.t 127) (ρ.t 3) (ρ.t 9) (ρ.t 5) L.t127 X.cellsByte g cur.size (by have hg':w.drew.heap[g]?=some (.cells cur (ρ.t 5) fz):=hg;simp[World.shape?,hg']) l h0 hcs hm hcell
 have mixed:=L.mixed;have t72:=L.t72;have a72:=L.a72;have z72:=L.z72;have v72:=L.v72;have u72:=run_underlying L.t72;have t70:=L.t70;have a70:=L.a70;have z70:=L.z70;have v70:=L.v70;have u70:=run_underlying L.t70;have t37:=L.t37;have a37:=L.a37;have z37:=L.z37;have v37:=L.v37;have u37:=run_underlying L.t37;have t127:=L.t127;have a127:=L.a127;have z127:=L.z127;have v127:=L.v127;have u127:=run_underlying L.t127;have t3:=L.t3;have a3:=L.a3;have z3:=L.z3;have v3:=L.v3;have u3:=run_underlying L.t3;have t9:=L.t9;have a9:=L.a9;have z9:=L.z9;have v9:=L.v9;have u9:=run_underlying L.t9;have t5:=X.t5;have a5:=X.a5;have z5:=X.z5;have v5:=X.v5;have u5:=run_underlying X.t5
 go_enter L.f169,Body.n169_ntmps ρ
 go_wp2
 go_region_o
 all_goals (go_wp2;go_ret;exact⟨rfl,rfl⟩)
set_option maxHeartbeats 1000000 in
set_option maxRecDepth 100000 in
theorem Anp(L:Lays.n169 P ρ)(X:Builder.Extra P ρ)(b:Nat)(w:World)(hbk:w.cell? ⟨b,1,none⟩=some (.slice none 0 0)):
  Calls P (ρ.f 169) #[.pointer (some ⟨b,0,none⟩)] w fun e w'=>e=.returned (.string ⟨#[]⟩)/\w'=w.drew:=by
 have hUS:=Any.unsafeString_none L X;have c1:w.drew.cell? ⟨b,1,none⟩=some (.slice none 0 0):=hbk;have hSD:(Builtin.unsafeSliceData_ #[(ρ.t 37)] (ρ.t 127) #[.slice none 0 0]).run P w.drew=.ok (.pointer none) w.drew:=rfl;have mixed:=L.mixed;have t72:=L.t72;have a72:=L.a72;have z72:=L.z72;have v72:=L.v72;have u72:=run_underlying L.t72;have t70:=L.t70;have a70:=L.a70;have z70:=L.z70;have v70:=L.v70;have u70:=run_underlying L.t70;have t37:=L.t37;have a37:=L.a37;have z37:=L.z37;have v37:=L.v37;have u37:=run_underlying L.t37;have t127:=L.t127;have a127:=L.a127;have z127:=L.z127;have v127:=L.v127;have u127:=run_underlying L.t127;have t3:=L.t3;have a3:=L.a3;have z3:=L.z3;have v3:=L.v3;have u3:=run_underlying L.t3;have t9:=L.t9;have a9:=L.a9;have z9:=L.z9;have v9:=L.v9;have u9:=run_underlying L.t9;have t5:=X.t5;have a5:=X.a5;have z5:=X.z5;have v5:=X.v5;have u5:=run_underlying X.t5
 go_enter L.f169,Body.n169_ntmps ρ
 go_wp2
 go_region_o
 all_goals (go_wp2;go_ret;exact⟨rfl,rfl⟩)
end
theorem Am7(w:World)(b:Nat)(us:Array Value)(e:TypeId)(u:Value){fz:Nat × Nat}(h:w.heap[b]?=some (.cells us e fz)):w.setCell ⟨b,0,none⟩ u=w.setRow b (us.setIfInBounds 0 u):=by
 unfold World.setCell World.setRow;congr 1;apply Array.ext_getElem?;intro i;simp only[Array.getElem?_modify]
 split
 ·rename_i hi;subst hi;rw[h];simp
 ·rfl
theorem Ae5:∀ {xs:List (List V)} {l:List UInt8},H9 xs=some l->l.length=xs.length/\∀ (j:Nat) x,l[j]?=some x->xs.getD j []=[.int .u8 (x.toNat:Int)]
 | [],l,h=>by
  simp[H9]at h;subst h;exact⟨rfl,fun j x hj=>by simp at hj⟩
 | r::xs,l,h=>by
  unfold H9 at h
  split at h
  ·cases h;rename_i e;cases e
  ·rename_i n r' e;injection e with e1 e2;subst e1 e2
   split at h
   ·rename_i hn;simp only[Bm]at h;obtain⟨l',h,rfl⟩:=h;obtain⟨g1,g2⟩:=Ae5 h;refine⟨by simp[g1],fun j x hj=>?_⟩
    cases j with
    | zero=>
     simp at hj
     have hx:((UInt8.ofNat n.toNat).toNat:Int)=n:=by
      rw[UInt8.toNat_ofNat'];have:n.toNat % 2 ^ 8=n.toNat:=S3 (by omega);omega
     rw[<-hj,hx];rfl
    | succ j=>exact g2 j x (by simpa using hj)
   ·cases h
  ·cases h
/-! copyCheck -/
theorem Abs:Tryz.prog.underlying 190=some (.pointer 192):=by kernel_rfl
theorem Ahg:(Tryz.prog.info? 192).map (·.size)=some 2:=by kernel_rfl
theorem Agf:Tryz.prog.cellsOf 192=2:=by kernel_rfl
theorem Aqb:sameLayout Tryz.prog Tryz.prog.depth 192 192=true:=by kernel_rfl
theorem Aoo:∃ d,Tryz.prog.depth=d+1:=⟨Tryz.prog.depth - 1,by kernel_rfl⟩
theorem Aqc(n:Nat)(hn:1<=n):liesAt Tryz.prog Tryz.prog.depth 192 n 0 192 1=true:=by
 obtain⟨d,hd⟩:=Aoo
 have hr:rowAt Tryz.prog (sameLayout Tryz.prog Tryz.prog.depth · 192) Tryz.prog.depth 192 n 0 1=true:=by
  have:=Aqb;generalize hf:(fun x=>sameLayout Tryz.prog Tryz.prog.depth x 192)=f;have hf2:f 192=true:=by rw[<-hf];exact this
  rw[hd];unfold rowAt;simp[Agf,hf2,hn]
 rw[hd];unfold liesAt;rw[hr];rfl
theorem Afh:Tryz.prog.underlying 286=some .unsafePointer:=by kernel_rfl
set_option maxHeartbeats 1000000 in
set_option maxRecDepth 100000 in
theorem At0(b:Nat)(w:World)(h0:w.cell? ⟨b,0,none⟩=some (.pointer (some ⟨b,0,none⟩))):
  Calls Tryz.prog 224 #[.pointer (some ⟨b,0,none⟩)] w fun e w'=>e=.returned (.tuple #[])/\w'=w:=by
 obtain⟨j,hj,_⟩:=Bm.1 Ahg
 go_enter Tryz.func224,Tryz.ntmps224
 go_wp2
 rw[Lib.run_neq_ptr_same w _ Abs hj]
 go_wp2
 go_end0
 exact⟨rfl,rfl⟩
set_option maxHeartbeats 1000000 in
set_option maxRecDepth 100000 in
theorem Aqd(b:Nat)(w:World)(h0:w.cell? ⟨b,0,none⟩=some (.pointer none))(n:Nat)(hn:2<=n)(hsh:w.shape? b=some (192,n))(hfz:w.frozen? ⟨b,0,none⟩=false):
  Calls Tryz.prog 224 #[.pointer (some ⟨b,0,none⟩)] w fun e w'=>e=.returned (.tuple #[])/\w'=w.setCell ⟨b,0,none⟩ (.pointer (some ⟨b,0,none⟩)):=by
 obtain⟨j,hj,hjs⟩:=Bm.1 Ahg
 go_enter Tryz.func224,Tryz.ntmps224
 go_wp2
 rw[Lib.run_to_unsafe w ⟨b,0,none⟩ Abs Afh hj (by rw[hjs];decide) hsh (by show 0<n;omega)];simp only[Result.andThen];rw[Oper.upon_value]
 go_wp2
 rw[run_callFunc_extern Tryz.func248 (by kernel_rfl) (by kernel_rfl) (by kernel_rfl) (e:=Extern.AbiNoEscape.same) (by kernel_rfl)];rw[Lib.run_noEscape];simp only[Result.andThen];rw[Oper.upon_value]
 go_wp2
 rw[Lib.run_from_unsafe w ⟨b,0,none⟩ Afh Abs hj hsh (by rw[Agf];exact Aqc _ (by omega))];simp only[Result.andThen];rw[Oper.upon_value]
 go_wp2
 go_end0
 exact⟨rfl,rfl⟩
/-! what they do -/
def Sn(tB:Nat):List V->St->Option (V × St)
 | [.ptr b g 0],σ=>match σ[b]? with
  | some (.row [.nilp,x] e g' 0)=>if g=g'/\e=tB then some (.tup [],σ.set b (.row [.ptr b g 0,x] e g 0)) else none
  | some (.row [.ptr b' g2 0,_] _ g' _)=>if g=g'/\b'=b/\g2=g then some (.tup [],σ) else none
  | _=>none
 | _,_=>none
def P3(tB tE:Nat):List V->St->Option (V × St)
 | [.ptr b g 0],σ=>match σ[b]? with
  | some (.row [_,.nils] e g' _)=>if g=g'/\e=tB then some (.str [],σ) else none
  | some (.row [_,.sl i gi 0 len 1 _] e g' _)=>if g=g'/\e=tB/\0<len then(match σ[i]? with
   | some (.row cs e' gi' _)=>if gi=gi'/\e'=tE/\len<=cs.length then(H9 (Em 1 len cs)).map fun l=>(.str l,σ.set i .dead) else none
   | _=>none) else none
  | _=>none
 | _,_=>none
section
variable {G:List (Nat × List V)} {N:Nat} {γ:Gh} {σ:St} {w:World}
theorem Inv.kill(h:Inv G N γ σ w){i k:Nat}{p:Nat × Nat}{cs:List V}{e g z:Nat}(hp:γ.O[i]?=some p)(ho:σ[i]?=some (.row cs e g z)):
  Inv G N γ (σ.set i .dead) (w.freeze ⟨p.1,0,none⟩ k)/\Ext γ w γ (w.freeze ⟨p.1,0,none⟩ k)/\Below N w (w.freeze ⟨p.1,0,none⟩ k):=by
 obtain⟨q,hq,h1,h2,h3,us,lo,hi,h4,h5,h6,h7⟩:=h.of ho;rw[hp]at hq;injection hq with hq;subst hq;obtain⟨lo',hi',f1,f2⟩:=Am6 w p.1 k h4
 have hsz:(w.freeze ⟨p.1,0,none⟩ k).heap.size=w.heap.size:=by unfold World.freeze;split<;>simp
 have hs:Dk (w.freeze ⟨p.1,0,none⟩ k) p.1=Dk w p.1:=by simp[Dk,f1,h4]
 have:=h.turn (w':=w.freeze ⟨p.1,0,none⟩ k) (p':=p) (ob':=.dead) (κ':=γ.κ) hp (by omega) (fun b _ hb=>Amy w p.1 k b hb) (fun _ _ _=>rfl) (fun b k hk=>by rw[hsz];exact h.dom b k hk) (fun z' hz=>⟨z',hz,Ah _,fun o _=>by simp[World.cell?,f1,h4]⟩) (Ah _) (fun _=>⟨rfl,hs⟩) (.inl rfl) (fun _=>by show p.1<_;rw[hsz];exact h.oblt hp);rw[Ml hp]at this;exact⟨this.1,this.2,Lib.below_freeze (Below.refl N w) (p:=⟨p.1,0,none⟩) (h.low i p hp) k⟩
end
theorem A07{G:List (Nat × List V)}:Rw Tryz.prog G 224 (Sn 192):=by
 refine⟨⟨Tryz.f224,_,by kernel_rfl,rfl,by decide⟩,fun args σ v σ' h us w γ N hl ha hI=>?_⟩;unfold Sn at h
 split at h
 ·rename_i b g
  match us,hl with
  | [u],_=>
  have hu:=ha 0 (by simp);obtain⟨b1,blk,g1,hu',hB,hle,hbb⟩:=Ln (Aw rfl hu);have hu':u=.pointer (some ⟨b1,0,none⟩):=hu';subst hu'
  split at h
  ·rename_i x e g' hb
   split at h
   ·rename_i hty;cases h;obtain⟨rfl,rfl⟩:=hty;obtain⟨p,hp,q1,q2,q3,us,lo,hi,q4,q5,q6,q7⟩:=hI.of hb;rw[hB]at hp;cases hp;have q1:g1=g:=q1;subst q1;obtain rfl:=hbb rfl;have q4:w.heap[b1]?=some (.cells us 192 (lo,hi)):=q4;have q6:2<=us.size:=q6;have c0:us.getD 0 undef=.pointer none:=O4 (q7 0 (by simp));have c1:=q7 1 (by simp)
    have hc0:w.cell? ⟨b1,0,none⟩=some (.pointer none):=by
     simp[World.cell?,q4];have:us.getD 0 undef=us[0]:=by simp[Array.getD,show 0<us.size by omega]
     rw[<-c0,this];simp
    refine(Aqd b1 w hc0 us.size q6 (by simp[World.shape?,q4]) (by
     simp only[World.frozen?,q4]
     rcases q5 with⟨a1,a2 | a2⟩<;>simp<;>omega)).mono ?_
    rintro e w' ⟨rfl,rfl⟩;rw[Am7 w b1 us _ _ q4]
    obtain⟨i1,i2⟩:=hI.write (g':=g1) (us':=us.setIfInBounds 0 (.pointer (some ⟨b1,0,none⟩))) (cs':=[.ptr b g1 0,x]) hB hb q4 q5 (Ah _) (A2 _) (by simp) q6 (fun o ho=>by omega) (fun j hj=>by
     match j,hj with
     | 0,_=>
      have:(us.setIfInBounds 0 (.pointer (some ⟨b1,0,none⟩))).getD 0 undef=.pointer (some ⟨b1,0,none⟩):=by simp[Array.getD_eq_getD_getElem?,show 0<us.size by omega]
      rw[this];exact .ptr hB (Ah _) (fun _=>rfl)
     | 1,_=>
      have:(us.setIfInBounds 0 (.pointer (some ⟨b1,0,none⟩))).getD 1 undef=us.getD 1 undef:=by simp[Array.getD_eq_getD_getElem?,Array.getElem?_setIfInBounds]
      rw[this]
      exact c1)
    exact⟨_,_,rfl,.tup rfl (fun j hj=>by simp at hj),i1,i2,Wh _ (hI.low _ _ hB),fun _ _=>rfl⟩
   ·cases h
  ·rename_i b' g2 x e g' z hb
   split at h
   ·rename_i hty;cases h;obtain⟨rfl,rfl,rfl⟩:=hty;obtain⟨p,hp,q1,q2,q3,us,lo,hi,q4,q5,q6,q7⟩:=hI.of hb;rw[hB]at hp;cases hp;have q1:g1=g2:=q1;subst q1;obtain rfl:=hbb rfl;have q4:w.heap[b1]?=some (.cells us e (lo,hi)):=q4;have q6:2<=us.size:=q6;obtain⟨b2,blk2,g3,c0,hB2,_,hbb2⟩:=Ln (q7 0 (by simp));rw[hB]at hB2;cases hB2;obtain rfl:=hbb2 rfl
    have hc0:w.cell? ⟨b2,0,none⟩=some (.pointer (some ⟨b2,0,none⟩)):=by
     simp[World.cell?,q4];have:us.getD 0 undef=us[0]:=by simp[Array.getD,show 0<us.size by omega]
     rw[<-c0,this];simp
    refine(At0 b2 w hc0).mono ?_;rintro e w' ⟨rfl,rfl⟩;exact⟨_,γ,rfl,.tup rfl (fun j hj=>by simp at hj),hI,Ext.refl _ _,Below.refl _ _,fun _ _=>rfl⟩
   ·cases h
  ·cases h
 ·cases h
theorem Axs{G:List (Nat × List V)}:Rw Tryz.prog G 142 (P3 192 5):=by
 refine⟨⟨Tryz.f142,_,by kernel_rfl,rfl,by decide⟩,fun args σ v σ' h us w γ N hl ha hI=>?_⟩;unfold P3 at h
 split at h
 ·rename_i b g
  match us,hl with
  | [u],_=>
  have hu:=ha 0 (by simp);obtain⟨b1,blk,g1,hu',hB,hle,hbb⟩:=Ln (Aw rfl hu);have hu':u=.pointer (some ⟨b1,0,none⟩):=hu';subst hu'
  split at h
  ·rename_i x e g' z hb
   split at h
   ·rename_i hty;cases h;obtain⟨rfl,rfl⟩:=hty;obtain⟨p,hp,q1,q2,q3,us,lo,hi,q4,q5,q6,q7⟩:=hI.of hb;rw[hB]at hp;cases hp;have q1:g1=g:=q1;subst q1;obtain rfl:=hbb rfl;have q4:w.heap[b1]?=some (.cells us 192 (lo,hi)):=q4;have q6:2<=us.size:=q6;have c1:us.getD 1 undef=.slice none 0 0:=Jj (q7 1 (by simp))
    have hc1:w.cell? ⟨b1,1,none⟩=some (.slice none 0 0):=by
     simp[World.cell?,q4];have:us.getD 1 undef=us[1]:=by simp[Array.getD,show 1<us.size by omega]
     rw[<-c1,this];simp
    refine(Anp Tryz.lays169 Tryz.Builder_Extra_169 b1 w hc1).mono ?_;rintro e w' ⟨rfl,rfl⟩;obtain⟨d1,d2⟩:=hI.drew;exact⟨_,γ,rfl,Cv (.row (.str (by simp[maxLen]))),d1,d2,(Below.refl N w).drew,fun _ _=>rfl⟩
   ·cases h
  ·rename_i x i gi len own e g' z hb
   split at h
   ·rename_i hty;obtain⟨rfl,rfl,hpos⟩:=hty
    split at h
    ·rename_i cs e' gi' zi hi'
     split at h
     ·rename_i hc;obtain⟨rfl,rfl,hlen⟩:=hc;simp only[Bm]at h;obtain⟨l,hrb,h⟩:=h;cases h;obtain⟨p,hp,q1,q2,q3,us,lo,hi,q4,q5,q6,q7⟩:=hI.of hb;rw[hB]at hp;cases hp;have q1:g1=g:=q1;subst q1;obtain rfl:=hbb rfl;have q4:w.heap[b1]?=some (.cells us 192 (lo,hi)):=q4;have q6:2<=us.size:=q6;obtain⟨bb,oo,cap,bk,gk,c1,k1,k2,k3,k4,k5,k6⟩:=Q8 (q7 1 (by simp));have c1:us.getD 1 undef=.slice (some ⟨bb,oo,none⟩) len cap:=c1;obtain⟨p,hp,r1,r2,r3,vs,P7,hi2,r4,r5,r6,r7⟩:=hI.of hi';rw[k1]at hp;cases hp;have r1:gk=gi:=r1;subst r1;obtain⟨rfl,_⟩:=k6 rfl;obtain rfl:=k5 (by omega);have r4:w.heap[bb]?=some (.cells vs 5 (P7,hi2)):=r4;obtain⟨n1,n2⟩:=Ae5 hrb;have hll:l.length=len:=by rw[n1];simp[Ud]
      have hc1:w.cell? ⟨b1,1,none⟩=some (.slice (some ⟨bb,0,none⟩) l.length cap):=by
       rw[hll];simp[World.cell?,q4];have:us.getD 1 undef=us[1]:=by simp only[Array.getD];rw[dif_pos (show 1<us.size by omega)];rfl
       rw[<-c1,this];simp
      refine(Ano Tryz.lays169 Tryz.Builder_Extra_169 b1 bb cap vs (P7,hi2) l w (by rintro rfl;simp at hll;omega) hc1 r4 (by omega) (by omega) (by unfold maxLen at k4;omega) (fun j x hj=>?_)).mono ?_
      ·have hjl:j<len:=by rw[<-hll];exact(Ar.1 hj).1
       have a1:=n2 j x hj;have a2:=r7 j (by omega)
       have hcj:cs.getD j .und=.int .u8 (x.toNat:Int):=by
        rw[Ud]at a1;have hjc:j<cs.length:=by omega
        simp[Aq,hjl,hjc]at a1;rw[Aq,A0 hjc];rw[List.take_one]at a1;simpa[hjc] using a1
       rw[hcj]at a2;have a3:=D1 a2;rw[Ia];have hjs:j<vs.size:=by omega
       have:vs.getD j undef=vs[j]:=by simp[Array.getD,hjs]
       simp[World.cell?,r4,hjs];rw[<-this];exact a3
      ·rintro e w' ⟨rfl,rfl⟩;obtain⟨d1,d2⟩:=hI.drew;obtain⟨f1,f2,f3⟩:=d1.kill (k:=l.length) k1 hi';exact⟨_,γ,rfl,Cv (.row (.str (by omega))),f1,d2.trans f2,((Below.refl N w).drew).trans f3,fun _ _=>rfl⟩
     ·cases h
    ·cases h
   ·cases h
  ·cases h
 ·cases h
