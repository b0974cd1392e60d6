/- Functions of strconv and strings, known by what they return (second form). -/
import Derived.Test.YtlehfgdhebapeaaGreatDoorKz
import Derived.Lib.ItoaLen
import Derived.Lib.Repeat
import Derived.Lib.Split
import Derived.Lib.Join
import Derived.Test.YtlehfgdhebapeaaGreatDoorA5
import Derived.Test.YtlehfgdhebapeaaGreatDoorProg
import Derived.WalkSpells
import Derived.WalkLawsBesides
import Derived.BigQuiet
import Derived.BigGuardPart
import Derived.Lib.Hide
import Derived.LoopTactic
import Derived.Laws.RangeAny
set_option linter.all false
namespace Go.Proofs.YtlehfgdhebapeaaGreatDoor.KM
open Go Go.RowKit Go.Sort
def gPow:List V:=Lib.pow10Tab.map fun z=>.int .u64 z
variable {G:List (Nat × List V)}
theorem Aof:Tryz.prog.globalNamed "internal/strconv.uint64pow10"=some 5:=by kernel_rfl
theorem Ai3{κ:Dw}{w:World}(h:∀ g r,(g,r)∈G->RepC ⟨κ,[]⟩ w (.imm r 0) (.pointer (some ⟨g,0,none⟩)))(hs:∀ g r,(g,r)∈G->C9 w g=some r.length)(hin:(5,gPow)∈G):
  Lib.TabIs Tryz.prog w "internal/strconv.uint64pow10" .u64 Lib.pow10Tab:=by
 have h1:=h _ _ hin
 have h2:=hs _ _ hin
 obtain⟨b,o,k,row,hu,h3,h4,h5,h6⟩:=Jh h1
 simp at hu
 obtain⟨rfl,rfl⟩:=hu
 unfold C9 at h2
 split at h2
 ·rename_i cs e fz hh
  simp only[P7]at h2
  unfold Lib.TabIs World.var?
  rw[Aof]
  simp only[Cc,hh]
  congr 1
  apply Array.ext
  ·rw[h2];simp[gPow]
  ·intro i hi1 hi2
   have hlt:i<gPow.length:=by omega
   have a1:=h5 i hlt
   have a2:=h6 i hlt
   have hlt':i<Lib.pow10Tab.length:=by simpa[gPow] using hlt
   rw[show gPow.getD i .und=.int .u64 Lib.pow10Tab[i] by simp[gPow,Am,hlt']]at a2
   have a3:=Dz (γ:=⟨κ,[]⟩) (.row a2)
   rw[a3]at a1
   simp[World.cell?,hh,hi1]at a1
   simp[a1]
 ·cases h2
theorem S8{κ:Dw}{w w':World}{v:V}{u:Value}{e:Ending}(hd:∀ b k,κ b=some k->b<w.heap.size)(hv:∀ κ' w',RepV ⟨κ',[]⟩ w' v u)(h:e=.returned u/\Below w.heap.size w w'):
  ∃ u κ',e=.returned u/\RepV ⟨κ',[]⟩ w' v u/\Below w.heap.size w w'/\(∀ b,b<w.heap.size->κ' b=κ b)/\∀ b k,κ' b=some k->b<w'.heap.size:=
 ⟨_,κ,h.1,hv κ w',h.2,fun _ _=>rfl,fun b k hk=>P4 (hd b k hk) h.2.size⟩
theorem Qu{κ:Dw}{w w':World}{l:List UInt8}{e:Ending}(hd:∀ b k,κ b=some k->b<w.heap.size)(hl:l.length<=maxLen)(h:e=.returned (.string ⟨l.toArray⟩)/\Below w.heap.size w w'):
  ∃ u κ',e=.returned u/\RepV ⟨κ',[]⟩ w' (.str l) u/\Below w.heap.size w w'/\(∀ b,b<w.heap.size->κ' b=κ b)/\∀ b k,κ' b=some k->b<w'.heap.size:=
 ⟨_,κ,h.1,B9 (.row (.str hl)),h.2,fun _ _=>rfl,fun b k hk=>P4 (hd b k hk) h.2.size⟩
theorem Ad7(w:World)(k:Nat)(os:Array Obj):Below w.heap.size w (grow (w.drewN k) os):=
 ⟨rfl,rfl,rfl,by simp[grow,World.drewN],fun k hk=>by simp[grow,World.drewN,Array.getElem?_append,hk]⟩
/-! numerals, so that they can be run -/
def Gw:Nat->Nat->List UInt8
 | 0,_=>[]
 | k+1,u=>if u<10 then [UInt8.ofNat (48+u)] else Gw k (u / 10)++[UInt8.ofNat (48+u % 10)]
theorem Aap:∀ (k u:Nat),u<10 ^ (k+1)->Gw (k+1) u=Lib.decDigits u
 | 0,u,h=>by
  rw[Lib.decDigits]
  unfold Gw
  rw[if_pos (by simpa using h),dif_pos (by simpa using h)]
 | k+1,u,h=>by
  rw[Lib.decDigits]
  unfold Gw
  split
  ·rfl
  ·rw[Aap k (u / 10) (by rw[Y7]at h;omega)]
def A4(n:Int):List UInt8:=if n<0 then 45::Gw 20 n.natAbs else Gw 20 n.toNat
theorem Af6(n:Int)(h1 : -9223372036854775808<=n)(h2:n<=9223372036854775807):A4 n=Lib.itoa n:=by
 unfold A4 Lib.itoa
 split
 ·rw[Aap 19 _ (by omega)]
 ·rw[Aap 19 _ (by omega)]
def Jb:List V->Option V
 | [.int .i64 n,.int .i64 10]=>if -9223372036854775808<=n/\n<=9223372036854775807 then some (.str (A4 n)) else none
 | _=>none
def Nt:List V->Option V
 | [.int .i64 n]=>if -9223372036854775808<=n/\n<=9223372036854775807 then some (.str (A4 n)) else none
 | _=>none
def Rz:List V->Option V
 | [.str s,.int .i64 c]=>if 0<=c/\c<=9223372036854775807/\s.length*c.toNat<=140737488355328 then some (.str (Lib.repeatL s c.toNat)) else none
 | _=>none
def U2:List V->Option V
 | [.str s,.str p]=>some (.bool (Lib.hasPrefix s p))
 | _=>none
theorem Pq{α:Type}{us:List α}(h:2=us.length):∃ a b,us=[a,b]:=by
 match us,h with
 | [a,b],_=>exact⟨a,b,rfl⟩
theorem Az1{α:Type}{us:List α}(h:1=us.length):∃ a,us=[a]:=by
 match us,h with
 | [a],_=>exact⟨a,rfl⟩
theorem Avd(hin:(5,gPow)∈G):Fd Tryz.prog G 83 Jb:=by
 refine⟨⟨Tryz.f83,_,by kernel_rfl,rfl,by decide⟩,fun κ w vs us v hg hs hd hl ha h=>?_⟩
 unfold Jb at h
 split at h
 ·rename_i n
  split at h
  ·rename_i hn
   cases h
   obtain⟨a,b,rfl⟩:=Pq hl
   have h1:=Dz (Fy rfl (ha 0 (by simp)))
   have h2:=Dz (Fy rfl (ha 1 (by simp)))
   have h1:a=.int .i64 n:=h1
   have h2:b=.int .i64 10:=h2
   subst h1 h2
   rw[Af6 n hn.1 hn.2]
   refine(Tryz.strconv_FormatInt_10 n hn.1 hn.2 w (Ai3 hg hs hin)).mono fun e w' hh=>Qu hd (by have:=Lib.itoa_length_le n hn.1 hn.2;unfold maxLen;omega) ?_
   obtain⟨h,k,os,rfl⟩:=hh
   exact⟨h,Ad7 w k os⟩
  ·cases h
 ·cases h
theorem Ari(hin:(5,gPow)∈G):Fd Tryz.prog G 70 Nt:=by
 refine⟨⟨Tryz.f70,_,by kernel_rfl,rfl,by decide⟩,fun κ w vs us v hg hs hd hl ha h=>?_⟩
 unfold Nt at h
 split at h
 ·rename_i n
  split at h
  ·rename_i hn
   cases h
   obtain⟨a,rfl⟩:=Az1 hl
   have h1:=Dz (Fy rfl (ha 0 (by simp)))
   have h1:a=.int .i64 n:=h1
   subst h1
   rw[Af6 n hn.1 hn.2]
   refine(Tryz.strconv_Itoa n hn.1 hn.2 w (Ai3 hg hs hin)).mono fun e w' hh=>Qu hd (by have:=Lib.itoa_length_le n hn.1 hn.2;unfold maxLen;omega) ?_
   obtain⟨h,k,os,rfl⟩:=hh
   exact⟨h,Ad7 w k os⟩
  ·cases h
 ·cases h
theorem Ave:Fd Tryz.prog G 73 Rz:=by
 refine⟨⟨Tryz.f73,_,by kernel_rfl,rfl,by decide⟩,fun κ w vs us v hg hs hd hl ha h=>?_⟩
 unfold Rz at h
 split at h
 ·rename_i s c
  split at h
  ·rename_i hc
   cases h
   obtain⟨a,b,rfl⟩:=Pq hl
   have h1:=(Fb (Fy rfl (ha 0 (by simp)))).1
   have h2:=Dz (Fy rfl (ha 1 (by simp)))
   have h1:a=.string ⟨s.toArray⟩:=h1
   have h2:b=.int .i64 c:=h2
   obtain⟨n,rfl⟩:∃ n:Nat,c=n:=⟨c.toNat,by omega⟩
   subst h1 h2
   have hcn:s.length*n<=140737488355328:=by simpa using hc.2.2
   have:=Tryz.strings_Repeat ⟨s.toArray⟩ n w (by omega) (by rw[Hz];exact hcn)
   refine this.mono fun e w' hh=>Qu hd ?_ (by simpa using hh)
   rw[Sj,Lib.repeatL_length,P9]
   unfold maxLen
   omega
  ·cases h
 ·cases h
theorem Ayq:Fd Tryz.prog G 75 U2:=by
 refine⟨⟨Tryz.f75,_,by kernel_rfl,rfl,by decide⟩,fun κ w vs us v hg hs hd hl ha h=>?_⟩
 unfold U2 at h
 split at h
 ·rename_i s p
  cases h
  obtain⟨a,b,rfl⟩:=Pq hl
  have h1:=(Fb (Fy rfl (ha 0 (by simp)))).1
  have h2:=(Fb (Fy rfl (ha 1 (by simp)))).1
  have h1:a=.string ⟨s.toArray⟩:=h1
  have h2:b=.string ⟨p.toArray⟩:=h2
  subst h1 h2
  refine(Tryz.strings_HasPrefix ⟨s.toArray⟩ ⟨p.toArray⟩ w).mono ?_
  rintro e w' ⟨rfl,rfl⟩
  exact⟨_,κ,rfl,B9 (.row .bool),Below.refl _ _,fun _ _=>rfl,hd⟩
 ·cases h
def Pr:List V->Option V
 | [.str s,.int .u8 c]=>some (.int .i64 (Lib.indexByte s c.toNat.toUInt8))
 | _=>none
def R8:List V->Option V
 | [.str s,.str [c]]=>if c.toNat<128 then some (.str (Lib.trimLeftB s c)) else none
 | _=>none
def R9:List V->Option V
 | [.str s,.int .i64 10,.int .i64 64]=>if s.length<=281474976710656 then(match Lib.parseIntB 64 s with
  | .ok v=>some (.tup [.int .i64 v,.nili])
  | Lib.NumEnd.syntax=>some (.tup [.int .i64 0,.ifc])
  | .range=>some (.tup [.int .i64 (Lib.intSat 64 s),.ifc])) else none
 | _=>none
theorem Az2{γ:Gh}{w:World}{vs:List V}{us:List Value}(h1:vs.length=us.length)(h2:∀ j,j<vs.length->RepC γ w (vs.getD j .und) (us.getD j undef)):RepV γ w (.tup vs) (.tuple us.toArray):=
 .tup h1 (fun j hj=>.cell (h2 j hj))
theorem Ayr:Fd Tryz.prog G 99 Pr:=by
 refine⟨⟨Tryz.f99,_,by kernel_rfl,rfl,by decide⟩,fun κ w vs us v hg hs hd hl ha h=>?_⟩
 unfold Pr at h
 split at h
 ·rename_i s c
  cases h
  obtain⟨a,b,rfl⟩:=Pq hl
  have h1:=(Fb (Fy rfl (ha 0 (by simp)))).1
  have h2:=Dz (Fy rfl (ha 1 (by simp)))
  have h1:a=.string ⟨s.toArray⟩:=h1
  have h2:b=.int .u8 c:=h2
  subst h1 h2
  refine(Tryz.strings_IndexByte ⟨s.toArray⟩ c w).mono ?_
  rintro e w' ⟨rfl,rfl⟩
  exact S8 hd (fun κ' w'=>B9 (.row .int)) ⟨rfl,Below.refl _ _⟩
 ·cases h
theorem Ays:Fd Tryz.prog G 160 R8:=by
 refine⟨⟨Tryz.f160,_,by kernel_rfl,rfl,by decide⟩,fun κ w vs us v hg hs hd hl ha h=>?_⟩
 unfold R8 at h
 split at h
 ·rename_i s c
  split at h
  ·rename_i hlt
   cases h
   obtain⟨a,b,rfl⟩:=Pq hl
   obtain⟨h1,hm⟩:=Fb (Fy rfl (ha 0 (by simp)))
   have h2:=(Fb (Fy rfl (ha 1 (by simp)))).1
   have h1:a=.string ⟨s.toArray⟩:=h1
   have h2:b=.string ⟨#[c]⟩:=h2
   subst h1 h2
   refine(Tryz.strings_TrimLeft_one ⟨s.toArray⟩ c hlt w).mono ?_
   rintro e w' ⟨rfl,rfl⟩
   refine S8 hd (fun κ' w'=>B9 (.row (.str ?_))) ⟨rfl,Below.refl _ _⟩
   exact Ed (List.dropWhile_sublist _).length_le hm
  ·cases h
 ·cases h
theorem Ai4{κ:Dw}{w:World}{g:Nat}{nm:String}(hn:Tryz.prog.globalNamed nm=some g)(h:∀ g r,(g,r)∈G->RepC ⟨κ,[]⟩ w (.imm r 0) (.pointer (some ⟨g,0,none⟩)))(hs:∀ g r,(g,r)∈G->C9 w g=some r.length)(hin:(g,[V.ifc])∈G):
  ∃ t p,w.var? Tryz.prog nm=some #[.iface t p]:=by
 obtain⟨b,o,k,row,hu,h3,h4,h5,h6⟩:=Jh (h _ _ hin)
 simp at hu
 obtain⟨rfl,rfl⟩:=hu
 have a1:=h5 0 (by simp)
 have a2:=h6 0 (by simp)
 obtain⟨t,p,a3⟩:=Zy (γ:=⟨κ,[]⟩) (.row a2)
 rw[a3]at a1
 have h2:=hs _ _ hin
 unfold C9 at h2
 split at h2
 ·rename_i cs e fz hh
  simp only[P7,Ag,Br,Fj]at h2
  refine⟨t,p,?_⟩
  unfold World.var?
  rw[hn]
  simp only[Cc,hh]
  congr 1
  apply Array.ext
  ·rw[h2];rfl
  ·intro i hi1 hi2
   obtain rfl:i=0:=by simp at hi2;omega
   simp[World.cell?,hh,hi1]at a1
   simp[a1]
 ·cases h2
theorem Ahv:Tryz.prog.globalNamed "strconv.ErrSyntax"=some 2:=by kernel_rfl
theorem Ahw:Tryz.prog.globalNamed "strconv.ErrRange"=some 3:=by kernel_rfl
theorem Aaq{γ:Gh}{w:World}{n:Int}{v:V}{u:Value}(h:RepC γ w v u):RepV γ w (.tup [.int .i64 n,v]) (.tuple #[.int .i64 n,u]):=
 Az2 (us:=[.int .i64 n,u]) rfl (fun j hj=>by
  match j,hj with
  | 0,_=>exact .row .int
  | 1,_=>exact h)
theorem Alf(w:World)(e:TypeId)(t:ByteArray):Below w.heap.size w (Lib.bytesWorld w e t):=by
 unfold Lib.bytesWorld
 refine Lib.below_freeze ?_ (p:=⟨w.heap.size,_,none⟩) (Af _) _
 exact(Below.refl _ w).drew.alloc (show w.heap.size<=w.drew.heap.size from Af _) _
theorem Ayt{α:Type}{us:List α}(h:3=us.length):∃ a b c,us=[a,b,c]:=by
 match us,h with
 | [a,b,c],_=>exact⟨a,b,c,rfl⟩
theorem Ayu(h1:(2,[V.ifc])∈G)(h2:(3,[V.ifc])∈G):Fd Tryz.prog G 199 R9:=by
 refine⟨⟨Tryz.f199,_,by kernel_rfl,rfl,by decide⟩,fun κ w vs us v hg hs hd hl ha h=>?_⟩
 unfold R9 at h
 split at h
 ·rename_i s
  split at h
  ·rename_i hlt
   obtain⟨a,b,c,rfl⟩:=Ayt hl
   obtain⟨g1,hm⟩:=Fb (Fy rfl (ha 0 (by simp)))
   have g2:=Dz (Fy rfl (ha 1 (by simp)))
   have g3:=Dz (Fy rfl (ha 2 (by simp)))
   have g1:a=.string ⟨s.toArray⟩:=g1
   have g2:b=.int .i64 10:=g2
   have g3:c=.int .i64 64:=g3
   subst g1 g2 g3
   split at h
   ·rename_i n hn
    cases h
    refine(Tryz.strconv_ParseInt_10_at64_ok ⟨s.toArray⟩ (by rw[Hz];omega) n hn w).mono ?_
    rintro e w' ⟨rfl,hw⟩
    refine S8 hd (fun κ' w'=>Aaq (.row .nili)) ⟨rfl,?_⟩
    rcases hw with rfl | ⟨t,rfl⟩
    ·exact Below.refl _ _
    ·exact Alf w _ t
   ·rename_i hn
    cases h
    obtain⟨t,p,hv⟩:=Ai4 Ahv hg hs h1
    refine(Tryz.strconv_ParseInt_10_at64_syntax_var ⟨s.toArray⟩ (by rw[Hz];exact hlt) hn t p w hv).mono ?_
    rintro e w' ⟨N,rfl,_,_,hb⟩
    exact S8 hd (fun κ' w'=>Aaq .ifc) ⟨rfl,hb⟩
   ·rename_i hn
    cases h
    obtain⟨t,p,hv⟩:=Ai4 Ahw hg hs h2
    refine(Tryz.strconv_ParseInt_10_at64_range_var ⟨s.toArray⟩ (by rw[Hz];exact hlt) hn t p w hv).mono ?_
    rintro e w' ⟨N,rfl,_,_,hb⟩
    exact S8 hd (fun κ' w'=>Aaq .ifc) ⟨rfl,hb⟩
  ·cases h
 ·cases h
open Go Go.RowKit Go.Sort
variable {G:List (Nat × List V)}
def O6:List (List V)->Option (List (List UInt8))
 | []=>some []
 | [.str l]::r=>(O6 r).map (l::·)
 | _=>none
def Rk:List V->Option V
 | [.nils,.str _]=>some (.str [])
 | [.lst _ xs,.str sep]=>(O6 xs).bind fun ls=>if xs.length<=140737488355328/\(Lib.join ls sep).length<=140737488355328 then some (.str (Lib.join ls sep)) else none
 | _=>none
theorem Ad8:∀ {xs:List (List V)} {ls:List (List UInt8)},O6 xs=some ls->ls.length=xs.length/\∀ (j:Nat) l,ls[j]?=some l->xs.getD j []=[.str l]
 | [],ls,h=>by
  simp[O6]at h
  subst h
  exact⟨rfl,fun j x hj=>by simp at hj⟩
 | r::xs,ls,h=>by
  unfold O6 at h
  split at h
  ·rename_i e;cases e
  ·rename_i l r' e
   injection e with e1 e2
   subst e1 e2
   simp only[A8]at h
   obtain⟨l',h,rfl⟩:=h
   obtain⟨g1,g2⟩:=Ad8 h
   refine⟨by simp[g1],fun j x hj=>?_⟩
   cases j with
   | zero=>simp at hj;rw[<-hj];rfl
   | succ j=>exact g2 j x (by simpa using hj)
  ·cases h
theorem Ads:∀ l:List (List UInt8),O6 (l.map fun s=>[V.str s])=some l
 | []=>rfl
 | a::l=>by rw[Ao,O6,Ads l];rfl
theorem Arj:Fd Tryz.prog G 36 Rk:=by
 refine⟨⟨Tryz.f36,_,by kernel_rfl,rfl,by decide⟩,fun κ w vs us v hg hs hd hl ha h=>?_⟩
 unfold Rk at h
 split at h
 ·rename_i sep
  cases h
  obtain⟨a,b,rfl⟩:=Pq hl
  have h1:=Ii (Fy rfl (ha 0 (by simp)))
  have h2:=(Fb (Fy rfl (ha 1 (by simp)))).1
  have h1:a=.slice none 0 0:=h1
  have h2:b=.string ⟨sep.toArray⟩:=h2
  subst h1 h2
  refine(Tryz.strings_Join_none none 0 ⟨sep.toArray⟩ w).mono ?_
  rintro e w' ⟨rfl,rfl⟩
  exact Qu hd (by simp) ⟨rfl,Below.refl _ _⟩
 ·rename_i t xs sep
  simp only[Cm]at h
  obtain⟨ls,hls,h⟩:=h
  split at h
  ·rename_i hc
   cases h
   obtain⟨a,b,rfl⟩:=Pq hl
   obtain⟨ad,cap,h1,hR,_⟩:=K2 (Fy rfl (ha 0 (by simp)))
   have h2:=(Fb (Fy rfl (ha 1 (by simp)))).1
   have h1:a=.slice (some ad) xs.length cap:=h1
   have h2:b=.string ⟨sep.toArray⟩:=h2
   subst h1 h2
   obtain⟨r1,r2⟩:=Ad8 hls
   rcases P5 xs.length with h0 | hpos
   ·have hx0:xs=[]:=Se h0
    subst hx0
    have hl0:ls=[]:=Se (by simpa using r1)
    subst hl0
    refine(Tryz.strings_Join_none (some ad) cap ⟨sep.toArray⟩ w).mono ?_
    rintro e w' ⟨rfl,rfl⟩
    exact Qu hd (by simp[Lib.join,List.intercalate]) ⟨by simp[Lib.join,List.intercalate],Below.refl _ _⟩
   ·cases hR with
    | @lst _ _ _ _ m row k1 k2 k3 k4 k5 k6 k7=>
    obtain⟨hsp,k,hk,hle⟩:=k4 hpos
    obtain⟨blk,off,sp⟩:=ad
    simp at hsp
    subst hsp
    have hm:m=1:=by
     have h5:=k5 0 hpos
     have:=r2 0 (ls[0]'(by omega)) (by simp)
     rw[this]at h5
     simpa using h5.symm
    subst hm
    have hlen:xs.length=(ls.map fun l=>(⟨l.toArray⟩:ByteArray)).length:=by simp[r1]
    have hmap:(ls.map fun l=>(⟨l.toArray⟩:ByteArray)).map (·.data.toList)=ls:=by simp[Function.comp_def]
    have hJ:=Tryz.strings_Join blk off cap (ls.map fun l=>⟨l.toArray⟩) ⟨sep.toArray⟩ w (fun j x hj=>by
     simp only[Ch,A8]at hj
     obtain⟨l,hl,rfl⟩:=hj
     have hjl:j<xs.length:=by rw[<-r1];exact(Ay.1 hl).1
     have a1:=k6 j 0 hjl (by omega)
     have a2:=k7 j 0 hjl (by omega)
     rw[r2 j l hl]at a2
     have a3:=(Fb (γ:=⟨κ,[]⟩) (.row a2)).1
     rw[a3]at a1
     simpa using a1) (hd _ _ hk) (by rw[<-hlen];exact hc.1) (by rw[<-hlen];exact k2) (by rw[hmap];exact hc.2)
    rw[hmap,<-hlen]at hJ
    exact hJ.mono fun e w' hh=>Qu hd (by unfold maxLen;omega) hh
  ·cases h
 ·cases h
open Go Go.RowKit
def kwL:List (List UInt8):=[[118,97,114],[118,111,108,97,116,105,108,101],[109,117,116,101,120],[114,119,108,111,99,107],[99,111,110,100],[102,117,116,117,114,101],[116,104,114,101,97,100],[105,102],[101,108,115,101],[119,104,105,108,101],[108,111,99,107],[114,101,97,100],[119,114,105,116,101],[116,114,97,110,115,97,99,116,105,111,110],[97,116,111,109,105,99],[119,97,105,116],[110,111,116,105,102,121],[110,111,116,105,102,121,97,108,108],[115,112,97,119,110],[106,111,105,110],[115,101,116],[103,101,116]]
def gKw:List V:=kwL.map V.str
def G0(l:List UInt8):Bool:=kwL.any fun k=>l==k
def Po(n:Nat):Bool:=(decide (97<=n)&&decide (n<=122))||(decide (65<=n)&&decide (n<=90))
def Og(n:Nat):Bool:=decide (48<=n)&&decide (n<=57)
def Oh(n:Nat):Bool:=Po n||(Og n||n==95)
def Sa(l:List UInt8)(j:Nat):Bool:=Po (l.getD j 0).toNat||(decide (0<j)&&((l.getD j 0).toNat==95||Og (l.getD j 0).toNat))
def Cx(l:List UInt8):Bool:=decide (1<=l.length)&&(decide (l.length<=12)&&(!G0 l&&(List.range l.length).all (Sa l)))
def Yg:List V->Option V
 | [.str l]=>some (.bool (G0 l))
 | _=>none
theorem Avf{l:List UInt8}(h1:1<=l.length)(h2:l.length<=12)(h3:G0 l=false)(h4:∀ j,j<l.length->Sa l j=true):Cx l=true:=by
 unfold Cx
 rw[decide_eq_true h1,decide_eq_true h2,h3,A5.2 fun j hj=>h4 j (Ew.1 hj)]
 rfl
end Go.Proofs.YtlehfgdhebapeaaGreatDoor.KM
