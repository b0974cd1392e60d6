/- Functions of strconv and strings, known by what they return (second form). -/
import Derived.Test.YtlehfgdhebapeaaGreatDoorKz
import Derived.Lib.ItoaLen
import Derived.Lib.Repeat
import Derived.Lib.Split
set_option linter.all false
namespace Go.Proofs.YtlehfgdhebapeaaGreatDoor.KM
open Go Go.RowKit Go.Sort
def gPow:List V:=Lib.pow10Tab.map fun z=>.int .u64 z
variable {G:List (Nat × List V)}
theorem pow_glob:Tryz.prog.globalNamed "internal/strconv.uint64pow10"=some 5:=by kernel_rfl
theorem tab_of{κ:Kap}{w:World}(h:∀ g r,(g,r)∈G→RepC ⟨κ,[]⟩ w (.imm r 0) (.pointer (some ⟨g,0,none⟩)))(hs:∀ g r,(g,r)∈G→sizeOf? w g=some r.length)(hin:(5,gPow)∈G):
  Lib.TabIs Tryz.prog w "internal/strconv.uint64pow10" .u64 Lib.pow10Tab:=by
 have h1:=h _ _ hin
 have h2:=hs _ _ hin
 obtain⟨b,o,k,row,hu,h3,h4,h5,h6⟩:=repC_imm h1
 simp at hu
 obtain⟨rfl,rfl⟩:=hu
 unfold sizeOf? at h2
 split at h2
 ·rename_i cs e fz hh
  simp only[Option.some.injEq]at h2
  unfold Lib.TabIs World.var?
  rw[pow_glob]
  simp only[Option.bind_some,hh]
  congr 1
  apply Array.ext
  ·rw[h2];simp[gPow]
  ·intro i hi1 hi2
   have hlt:i<gPow.length:=by omega
   have a1:=h5 i hlt
   have a2:=h6 i hlt
   have hlt':i<Lib.pow10Tab.length:=by simpa[gPow] using hlt
   rw[show gPow.getD i .und=.int .u64 Lib.pow10Tab[i] by simp[gPow,List.getD_eq_getElem?_getD,hlt']]at a2
   have a3:=repC_int (γ:=⟨κ,[]⟩) (.row a2)
   rw[a3]at a1
   simp[World.cell?,hh,hi1]at a1
   simp[a1]
 ·cases h2
theorem prim_flat{κ:Kap}{w w':World}{v:V}{u:Value}{e:Ending}(hd:∀ b k,κ b=some k→b<w.heap.size)(hv:∀ κ' w',RepV ⟨κ',[]⟩ w' v u)(h:e=.returned u∧Below w.heap.size w w'):
  ∃ u κ',e=.returned u∧RepV ⟨κ',[]⟩ w' v u∧Below w.heap.size w w'∧(∀ b,b<w.heap.size→κ' b=κ b)∧∀ b k,κ' b=some k→b<w'.heap.size:=
 ⟨_,κ,h.1,hv κ w',h.2,fun _ _=>rfl,fun b k hk=>Nat.lt_of_lt_of_le (hd b k hk) h.2.size⟩
theorem prim_fin{κ:Kap}{w w':World}{l:List UInt8}{e:Ending}(hd:∀ b k,κ b=some k→b<w.heap.size)(hl:l.length≤maxLen)(h:e=.returned (.string ⟨l.toArray⟩)∧Below w.heap.size w w'):
  ∃ u κ',e=.returned u∧RepV ⟨κ',[]⟩ w' (.str l) u∧Below w.heap.size w w'∧(∀ b,b<w.heap.size→κ' b=κ b)∧∀ b k,κ' b=some k→b<w'.heap.size:=
 ⟨_,κ,h.1,repV_of (.row (.str hl)),h.2,fun _ _=>rfl,fun b k hk=>Nat.lt_of_lt_of_le (hd b k hk) h.2.size⟩
theorem below_grow(w:World)(k:Nat)(os:Array Obj):Below w.heap.size w (grow (w.drewN k) os):=
 ⟨rfl,rfl,rfl,by simp[grow,World.drewN],fun k hk=>by simp[grow,World.drewN,Array.getElem?_append,hk]⟩
/-! numerals, so that they can be run -/
def decE:Nat→Nat→List UInt8
 | 0,_=>[]
 | k+1,u=>if u<10 then [UInt8.ofNat (48+u)] else decE k (u / 10)++[UInt8.ofNat (48+u % 10)]
theorem decE_eq:∀ (k u:Nat),u<10 ^ (k+1)→decE (k+1) u=Lib.decDigits u
 | 0,u,h=>by
  rw[Lib.decDigits]
  unfold decE
  rw[if_pos (by simpa using h),dif_pos (by simpa using h)]
 | k+1,u,h=>by
  rw[Lib.decDigits]
  unfold decE
  split
  ·rfl
  ·rw[decE_eq k (u / 10) (by rw[Nat.pow_succ]at h;omega)]
def itoaE(n:Int):List UInt8:=if n<0 then 45::decE 20 n.natAbs else decE 20 n.toNat
theorem itoaE_eq(n:Int)(h1 : -9223372036854775808≤n)(h2:n≤9223372036854775807):itoaE n=Lib.itoa n:=by
 unfold itoaE Lib.itoa
 split
 ·rw[decE_eq 19 _ (by omega)]
 ·rw[decE_eq 19 _ (by omega)]
def fmtS:List V→Option V
 | [.int .i64 n,.int .i64 10]=>if -9223372036854775808≤n∧n≤9223372036854775807 then some (.str (itoaE n)) else none
 | _=>none
def itoaS:List V→Option V
 | [.int .i64 n]=>if -9223372036854775808≤n∧n≤9223372036854775807 then some (.str (itoaE n)) else none
 | _=>none
def repS:List V→Option V
 | [.str s,.int .i64 c]=>if 0≤c∧c≤9223372036854775807∧s.length*c.toNat≤140737488355328 then some (.str (Lib.repeatL s c.toNat)) else none
 | _=>none
def hpS:List V→Option V
 | [.str s,.str p]=>some (.bool (Lib.hasPrefix s p))
 | _=>none
theorem two{α:Type}{us:List α}(h:2=us.length):∃ a b,us=[a,b]:=by
 match us,h with
 | [a,b],_=>exact⟨a,b,rfl⟩
theorem one_{α:Type}{us:List α}(h:1=us.length):∃ a,us=[a]:=by
 match us,h with
 | [a],_=>exact⟨a,rfl⟩
theorem fmt_ok(hin:(5,gPow)∈G):PrimOk Tryz.prog G 83 fmtS:=by
 refine⟨⟨Tryz.f83,_,by kernel_rfl,rfl,by decide⟩,fun κ w vs us v hg hs hd hl ha h=>?_⟩
 unfold fmtS at h
 split at h
 ·rename_i n
  split at h
  ·rename_i hn
   cases h
   obtain⟨a,b,rfl⟩:=two hl
   have h1:=repC_int (rep1_cell rfl (ha 0 (by simp)))
   have h2:=repC_int (rep1_cell rfl (ha 1 (by simp)))
   have h1:a=.int .i64 n:=h1
   have h2:b=.int .i64 10:=h2
   subst h1 h2
   rw[itoaE_eq n hn.1 hn.2]
   refine(Tryz.strconv_FormatInt_10 n hn.1 hn.2 w (tab_of hg hs hin)).mono fun e w' hh=>prim_fin hd (by have:=Lib.itoa_length_le n hn.1 hn.2;unfold maxLen;omega) ?_
   obtain⟨h,k,os,rfl⟩:=hh
   exact⟨h,below_grow w k os⟩
  ·cases h
 ·cases h
theorem itoa_ok(hin:(5,gPow)∈G):PrimOk Tryz.prog G 70 itoaS:=by
 refine⟨⟨Tryz.f70,_,by kernel_rfl,rfl,by decide⟩,fun κ w vs us v hg hs hd hl ha h=>?_⟩
 unfold itoaS at h
 split at h
 ·rename_i n
  split at h
  ·rename_i hn
   cases h
   obtain⟨a,rfl⟩:=one_ hl
   have h1:=repC_int (rep1_cell rfl (ha 0 (by simp)))
   have h1:a=.int .i64 n:=h1
   subst h1
   rw[itoaE_eq n hn.1 hn.2]
   refine(Tryz.strconv_Itoa n hn.1 hn.2 w (tab_of hg hs hin)).mono fun e w' hh=>prim_fin hd (by have:=Lib.itoa_length_le n hn.1 hn.2;unfold maxLen;omega) ?_
   obtain⟨h,k,os,rfl⟩:=hh
   exact⟨h,below_grow w k os⟩
  ·cases h
 ·cases h
theorem rep_ok:PrimOk Tryz.prog G 73 repS:=by
 refine⟨⟨Tryz.f73,_,by kernel_rfl,rfl,by decide⟩,fun κ w vs us v hg hs hd hl ha h=>?_⟩
 unfold repS at h
 split at h
 ·rename_i s c
  split at h
  ·rename_i hc
   cases h
   obtain⟨a,b,rfl⟩:=two hl
   have h1:=(repC_str (rep1_cell rfl (ha 0 (by simp)))).1
   have h2:=repC_int (rep1_cell rfl (ha 1 (by simp)))
   have h1:a=.string ⟨s.toArray⟩:=h1
   have h2:b=.int .i64 c:=h2
   obtain⟨n,rfl⟩:∃ n:Nat,c=n:=⟨c.toNat,by omega⟩
   subst h1 h2
   have hcn:s.length*n≤140737488355328:=by simpa using hc.2.2
   have:=Tryz.strings_Repeat ⟨s.toArray⟩ n w (by omega) (by rw[mk_size];exact hcn)
   refine this.mono fun e w' hh=>prim_fin hd ?_ (by simpa using hh)
   rw[Int.toNat_natCast,Lib.repeatL_length,Nat.mul_comm]
   unfold maxLen
   omega
  ·cases h
 ·cases h
theorem hp_ok:PrimOk Tryz.prog G 75 hpS:=by
 refine⟨⟨Tryz.f75,_,by kernel_rfl,rfl,by decide⟩,fun κ w vs us v hg hs hd hl ha h=>?_⟩
 unfold hpS at h
 split at h
 ·rename_i s p
  cases h
  obtain⟨a,b,rfl⟩:=two hl
  have h1:=(repC_str (rep1_cell rfl (ha 0 (by simp)))).1
  have h2:=(repC_str (rep1_cell rfl (ha 1 (by simp)))).1
  have h1:a=.string ⟨s.toArray⟩:=h1
  have h2:b=.string ⟨p.toArray⟩:=h2
  subst h1 h2
  refine(Tryz.strings_HasPrefix ⟨s.toArray⟩ ⟨p.toArray⟩ w).mono ?_
  rintro e w' ⟨rfl,rfl⟩
  exact⟨_,κ,rfl,repV_of (.row .bool),Below.refl _ _,fun _ _=>rfl,hd⟩
 ·cases h
def ibS:List V→Option V
 | [.str s,.int .u8 c]=>some (.int .i64 (Lib.indexByte s c.toNat.toUInt8))
 | _=>none
def tlS:List V→Option V
 | [.str s,.str [c]]=>if c.toNat<128 then some (.str (Lib.trimLeftB s c)) else none
 | _=>none
def piS:List V→Option V
 | [.str s,.int .i64 10,.int .i64 64]=>if s.length≤281474976710656 then(match Lib.parseIntB 64 s with
  | .ok v=>some (.tup [.int .i64 v,.nili])
  | Lib.NumEnd.syntax=>some (.tup [.int .i64 0,.ifc])
  | .range=>some (.tup [.int .i64 (Lib.intSat 64 s),.ifc])) else none
 | _=>none
theorem rtup{γ:Gh}{w:World}{vs:List V}{us:List Value}(h1:vs.length=us.length)(h2:∀ j,j<vs.length→RepC γ w (vs.getD j .und) (us.getD j undef)):RepV γ w (.tup vs) (.tuple us.toArray):=
 .tup h1 (fun j hj=>.cell (h2 j hj))
theorem ib_ok:PrimOk Tryz.prog G 99 ibS:=by
 refine⟨⟨Tryz.f99,_,by kernel_rfl,rfl,by decide⟩,fun κ w vs us v hg hs hd hl ha h=>?_⟩
 unfold ibS at h
 split at h
 ·rename_i s c
  cases h
  obtain⟨a,b,rfl⟩:=two hl
  have h1:=(repC_str (rep1_cell rfl (ha 0 (by simp)))).1
  have h2:=repC_int (rep1_cell rfl (ha 1 (by simp)))
  have h1:a=.string ⟨s.toArray⟩:=h1
  have h2:b=.int .u8 c:=h2
  subst h1 h2
  refine(Tryz.strings_IndexByte ⟨s.toArray⟩ c w).mono ?_
  rintro e w' ⟨rfl,rfl⟩
  exact prim_flat hd (fun κ' w'=>repV_of (.row .int)) ⟨rfl,Below.refl _ _⟩
 ·cases h
theorem tl_ok:PrimOk Tryz.prog G 160 tlS:=by
 refine⟨⟨Tryz.f160,_,by kernel_rfl,rfl,by decide⟩,fun κ w vs us v hg hs hd hl ha h=>?_⟩
 unfold tlS at h
 split at h
 ·rename_i s c
  split at h
  ·rename_i hlt
   cases h
   obtain⟨a,b,rfl⟩:=two hl
   obtain⟨h1,hm⟩:=repC_str (rep1_cell rfl (ha 0 (by simp)))
   have h2:=(repC_str (rep1_cell rfl (ha 1 (by simp)))).1
   have h1:a=.string ⟨s.toArray⟩:=h1
   have h2:b=.string ⟨#[c]⟩:=h2
   subst h1 h2
   refine(Tryz.strings_TrimLeft_one ⟨s.toArray⟩ c hlt w).mono ?_
   rintro e w' ⟨rfl,rfl⟩
   refine prim_flat hd (fun κ' w'=>repV_of (.row (.str ?_))) ⟨rfl,Below.refl _ _⟩
   exact Nat.le_trans (List.dropWhile_sublist _).length_le hm
  ·cases h
 ·cases h
theorem var_of{κ:Kap}{w:World}{g:Nat}{nm:String}(hn:Tryz.prog.globalNamed nm=some g)(h:∀ g r,(g,r)∈G→RepC ⟨κ,[]⟩ w (.imm r 0) (.pointer (some ⟨g,0,none⟩)))(hs:∀ g r,(g,r)∈G→sizeOf? w g=some r.length)(hin:(g,[V.ifc])∈G):
  ∃ t p,w.var? Tryz.prog nm=some #[.iface t p]:=by
 obtain⟨b,o,k,row,hu,h3,h4,h5,h6⟩:=repC_imm (h _ _ hin)
 simp at hu
 obtain⟨rfl,rfl⟩:=hu
 have a1:=h5 0 (by simp)
 have a2:=h6 0 (by simp)
 obtain⟨t,p,a3⟩:=repC_ifc (γ:=⟨κ,[]⟩) (.row a2)
 rw[a3]at a1
 have h2:=hs _ _ hin
 unfold sizeOf? at h2
 split at h2
 ·rename_i cs e fz hh
  simp only[Option.some.injEq,List.length_cons,List.length_nil,Nat.zero_add]at h2
  refine⟨t,p,?_⟩
  unfold World.var?
  rw[hn]
  simp only[Option.bind_some,hh]
  congr 1
  apply Array.ext
  ·rw[h2];rfl
  ·intro i hi1 hi2
   obtain rfl:i=0:=by simp at hi2;omega
   simp[World.cell?,hh,hi1]at a1
   simp[a1]
 ·cases h2
theorem es_glob:Tryz.prog.globalNamed "strconv.ErrSyntax"=some 2:=by kernel_rfl
theorem er_glob:Tryz.prog.globalNamed "strconv.ErrRange"=some 3:=by kernel_rfl
theorem num_rep{γ:Gh}{w:World}{n:Int}{v:V}{u:Value}(h:RepC γ w v u):RepV γ w (.tup [.int .i64 n,v]) (.tuple #[.int .i64 n,u]):=
 rtup (us:=[.int .i64 n,u]) rfl (fun j hj=>by
  match j,hj with
  | 0,_=>exact .row .int
  | 1,_=>exact h)
theorem below_bytes(w:World)(e:TypeId)(t:ByteArray):Below w.heap.size w (Lib.bytesWorld w e t):=by
 unfold Lib.bytesWorld
 refine Lib.below_freeze ?_ (p:=⟨w.heap.size,_,none⟩) (Nat.le_refl _) _
 exact(Below.refl _ w).drew.alloc (show w.heap.size≤w.drew.heap.size from Nat.le_refl _) _
theorem three{α:Type}{us:List α}(h:3=us.length):∃ a b c,us=[a,b,c]:=by
 match us,h with
 | [a,b,c],_=>exact⟨a,b,c,rfl⟩
theorem pi_ok(h1:(2,[V.ifc])∈G)(h2:(3,[V.ifc])∈G):PrimOk Tryz.prog G 199 piS:=by
 refine⟨⟨Tryz.f199,_,by kernel_rfl,rfl,by decide⟩,fun κ w vs us v hg hs hd hl ha h=>?_⟩
 unfold piS at h
 split at h
 ·rename_i s
  split at h
  ·rename_i hlt
   obtain⟨a,b,c,rfl⟩:=three hl
   obtain⟨g1,hm⟩:=repC_str (rep1_cell rfl (ha 0 (by simp)))
   have g2:=repC_int (rep1_cell rfl (ha 1 (by simp)))
   have g3:=repC_int (rep1_cell rfl (ha 2 (by simp)))
   have g1:a=.string ⟨s.toArray⟩:=g1
   have g2:b=.int .i64 10:=g2
   have g3:c=.int .i64 64:=g3
   subst g1 g2 g3
   split at h
   ·rename_i n hn
    cases h
    refine(Tryz.strconv_ParseInt_10_at64_ok ⟨s.toArray⟩ (by rw[mk_size];omega) n hn w).mono ?_
    rintro e w' ⟨rfl,hw⟩
    refine prim_flat hd (fun κ' w'=>num_rep (.row .nili)) ⟨rfl,?_⟩
    rcases hw with rfl | ⟨t,rfl⟩
    ·exact Below.refl _ _
    ·exact below_bytes w _ t
   ·rename_i hn
    cases h
    obtain⟨t,p,hv⟩:=var_of es_glob hg hs h1
    refine(Tryz.strconv_ParseInt_10_at64_syntax_var ⟨s.toArray⟩ (by rw[mk_size];exact hlt) hn t p w hv).mono ?_
    rintro e w' ⟨N,rfl,_,_,hb⟩
    exact prim_flat hd (fun κ' w'=>num_rep .ifc) ⟨rfl,hb⟩
   ·rename_i hn
    cases h
    obtain⟨t,p,hv⟩:=var_of er_glob hg hs h2
    refine(Tryz.strconv_ParseInt_10_at64_range_var ⟨s.toArray⟩ (by rw[mk_size];exact hlt) hn t p w hv).mono ?_
    rintro e w' ⟨N,rfl,_,_,hb⟩
    exact prim_flat hd (fun κ' w'=>num_rep .ifc) ⟨rfl,hb⟩
  ·cases h
 ·cases h
end Go.Proofs.YtlehfgdhebapeaaGreatDoor.KM
