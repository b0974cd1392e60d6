/- Functions of strconv and strings, known by what they return (second form). -/
import Derived.Test.YtcoeikinocflnaaGreatDoorKz
import Derived.Lib.ItoaLen
import Derived.Lib.Repeat
import Derived.Lib.Split
set_option linter.all false
namespace Go.Proofs.YtcoeikinocflnaaGreatDoor.KM
open Go Go.RowKit Go.Sort
def gPow:List V:=Lib.pow10Tab.map fun z=>.int .u64 z
variable {G:List (Nat × List V)}
theorem Ap1:Tryz.prog.globalNamed "internal/strconv.uint64pow10"=some 2:=by kernel_rfl
theorem Axk{κ:Dl}{w:World}(h:∀ g r,(g,r)∈G->RepC ⟨κ,[]⟩ w (.imm r 0) (.pointer (some ⟨g,0,none⟩)))(hs:∀ g r,(g,r)∈G->De w g=some r.length)(hin:(2,gPow)∈G):
  Lib.TabIs Tryz.prog w "internal/strconv.uint64pow10" .u64 Lib.pow10Tab:=by
 have h1:=h _ _ hin
 have h2:=hs _ _ hin
 obtain⟨b,o,k,row,hu,h3,h4,h5,h6⟩:=Iy h1
 simp at hu
 obtain⟨rfl,rfl⟩:=hu
 unfold De at h2
 split at h2
 ·rename_i cs e fz hh
  simp only[Si]at h2
  unfold Lib.TabIs World.var?
  rw[Ap1]
  simp only[Cd,hh]
  congr 1
  apply Array.ext
  ·rw[h2];simp[gPow]
  ·intro i hi1 hi2
   have hlt:i<gPow.length:=by omega
   have a1:=h5 i hlt
   have a2:=h6 i hlt
   have hlt':i<Lib.pow10Tab.length:=by simpa[gPow] using hlt
   rw[show gPow.getD i .und=.int .u64 Lib.pow10Tab[i] by simp[gPow,Ak,hlt']]at a2
   have a3:=Dy (γ:=⟨κ,[]⟩) (.row a2)
   rw[a3]at a1
   simp[World.cell?,hh,hi1]at a1
   simp[a1]
 ·cases h2
theorem Qm{κ:Dl}{w w':World}{v:V}{u:Value}{e:Ending}(hd:∀ b k,κ b=some k->b<w.heap.size)(hv:∀ κ' w',RepV ⟨κ',[]⟩ w' v u)(h:e=.returned u/\Below w.heap.size w w'):
  ∃ u κ',e=.returned u/\RepV ⟨κ',[]⟩ w' v u/\Below w.heap.size w w'/\(∀ b,b<w.heap.size->κ' b=κ b)/\∀ b k,κ' b=some k->b<w'.heap.size:=
 ⟨_,κ,h.1,hv κ w',h.2,fun _ _=>rfl,fun b k hk=>Py (hd b k hk) h.2.size⟩
theorem Agz{κ:Dl}{w w':World}{l:List UInt8}{e:Ending}(hd:∀ b k,κ b=some k->b<w.heap.size)(hl:l.length<=maxLen)(h:e=.returned (.string ⟨l.toArray⟩)/\Below w.heap.size w w'):
  ∃ u κ',e=.returned u/\RepV ⟨κ',[]⟩ w' (.str l) u/\Below w.heap.size w w'/\(∀ b,b<w.heap.size->κ' b=κ b)/\∀ b k,κ' b=some k->b<w'.heap.size:=
 ⟨_,κ,h.1,B6 (.row (.str hl)),h.2,fun _ _=>rfl,fun b k hk=>Py (hd b k hk) h.2.size⟩
theorem Amn(w:World)(k:Nat)(os:Array Obj):Below w.heap.size w (grow (w.drewN k) os):=
 ⟨rfl,rfl,rfl,by simp[grow,World.drewN],fun k hk=>by simp[grow,World.drewN,Array.getElem?_append,hk]⟩
/-! numerals, so that they can be run -/
def Fo:Nat->Nat->List UInt8
 | 0,_=>[]
 | k+1,u=>if u<10 then [UInt8.ofNat (48+u)] else Fo k (u / 10)++[UInt8.ofNat (48+u % 10)]
theorem Aa2:∀ (k u:Nat),u<10 ^ (k+1)->Fo (k+1) u=Lib.decDigits u
 | 0,u,h=>by
  rw[Lib.decDigits]
  unfold Fo
  rw[if_pos (by simpa using h),dif_pos (by simpa using h)]
 | k+1,u,h=>by
  rw[Lib.decDigits]
  unfold Fo
  split
  ·rfl
  ·rw[Aa2 k (u / 10) (by rw[Zd]at h;omega)]
def Cz(n:Int):List UInt8:=if n<0 then 45::Fo 20 n.natAbs else Fo 20 n.toNat
theorem Ap2(n:Int)(h1 : -9223372036854775808<=n)(h2:n<=9223372036854775807):Cz n=Lib.itoa n:=by
 unfold Cz Lib.itoa
 split
 ·rw[Aa2 19 _ (by omega)]
 ·rw[Aa2 19 _ (by omega)]
def Ny:List V->Option V
 | [.int .i64 n,.int .i64 10]=>if -9223372036854775808<=n/\n<=9223372036854775807 then some (.str (Cz n)) else none
 | _=>none
def R6:List V->Option V
 | [.str s,.int .i64 c]=>if 0<=c/\c<=9223372036854775807/\s.length*c.toNat<=140737488355328 then some (.str (Lib.repeatL s c.toNat)) else none
 | _=>none
def U9:List V->Option V
 | [.str s,.str p]=>some (.bool (Lib.hasPrefix s p))
 | _=>none
theorem R8{α:Type}{us:List α}(h:2=us.length):∃ a b,us=[a,b]:=by
 match us,h with
 | [a,b],_=>exact⟨a,b,rfl⟩
theorem Axl(hin:(2,gPow)∈G):Hq Tryz.prog G 90 Ny:=by
 refine⟨⟨Tryz.f90,_,by kernel_rfl,rfl,by decide⟩,fun κ w vs us v hg hs hd hl ha h=>?_⟩
 unfold Ny at h
 split at h
 ·rename_i n
  split at h
  ·rename_i hn
   cases h
   obtain⟨a,b,rfl⟩:=R8 hl
   have h1:=Dy (Gs rfl (ha 0 (by simp)))
   have h2:=Dy (Gs rfl (ha 1 (by simp)))
   have h1:a=.int .i64 n:=h1
   have h2:b=.int .i64 10:=h2
   subst h1 h2
   rw[Ap2 n hn.1 hn.2]
   refine(Tryz.strconv_FormatInt_10 n hn.1 hn.2 w (Axk hg hs hin)).mono fun e w' hh=>Agz hd (by have:=Lib.itoa_length_le n hn.1 hn.2;unfold maxLen;omega) ?_
   obtain⟨h,k,os,rfl⟩:=hh
   exact⟨h,Amn w k os⟩
  ·cases h
 ·cases h
theorem Axm:Hq Tryz.prog G 185 R6:=by
 refine⟨⟨Tryz.f185,_,by kernel_rfl,rfl,by decide⟩,fun κ w vs us v hg hs hd hl ha h=>?_⟩
 unfold R6 at h
 split at h
 ·rename_i s c
  split at h
  ·rename_i hc
   cases h
   obtain⟨a,b,rfl⟩:=R8 hl
   have h1:=(E4 (Gs rfl (ha 0 (by simp)))).1
   have h2:=Dy (Gs rfl (ha 1 (by simp)))
   have h1:a=.string ⟨s.toArray⟩:=h1
   have h2:b=.int .i64 c:=h2
   obtain⟨n,rfl⟩:∃ n:Nat,c=n:=⟨c.toNat,by omega⟩
   subst h1 h2
   have hcn:s.length*n<=140737488355328:=by simpa using hc.2.2
   have:=Tryz.strings_Repeat ⟨s.toArray⟩ n w (by omega) (by rw[Hn];exact hcn)
   refine this.mono fun e w' hh=>Agz hd ?_ (by simpa using hh)
   rw[Sh,Lib.repeatL_length,P7]
   unfold maxLen
   omega
  ·cases h
 ·cases h
theorem A03:Hq Tryz.prog G 81 U9:=by
 refine⟨⟨Tryz.f81,_,by kernel_rfl,rfl,by decide⟩,fun κ w vs us v hg hs hd hl ha h=>?_⟩
 unfold U9 at h
 split at h
 ·rename_i s p
  cases h
  obtain⟨a,b,rfl⟩:=R8 hl
  have h1:=(E4 (Gs rfl (ha 0 (by simp)))).1
  have h2:=(E4 (Gs rfl (ha 1 (by simp)))).1
  have h1:a=.string ⟨s.toArray⟩:=h1
  have h2:b=.string ⟨p.toArray⟩:=h2
  subst h1 h2
  refine(Tryz.strings_HasPrefix ⟨s.toArray⟩ ⟨p.toArray⟩ w).mono ?_
  rintro e w' ⟨rfl,rfl⟩
  exact⟨_,κ,rfl,B6 (.row .bool),Below.refl _ _,fun _ _=>rfl,hd⟩
 ·cases h
def N5:List V->Option V
 | [.str s,.int .u8 c]=>some (.int .i64 (Lib.indexByte s c.toNat.toUInt8))
 | _=>none
def U1:List V->Option V
 | [.str s,.str p]=>if s.length<4294967281 then some (.tup [.str (Lib.cut s p).1,.str (Lib.cut s p).2.1,.bool (Lib.cut s p).2.2]) else none
 | _=>none
def R9:List V->Option V
 | [.str s,.str [c]]=>if c.toNat<128 then some (.str (Lib.trimLeftB s c)) else none
 | _=>none
def Sa:List V->Option V
 | [.str s,.int .i64 10,.int .i64 64]=>if s.length<=281474976710656 then(match Lib.parseIntB 64 s with
  | .ok v=>some (.tup [.int .i64 v,.nili])
  | Lib.NumEnd.syntax=>some (.tup [.int .i64 0,.ifc])
  | .range=>some (.tup [.int .i64 (Lib.intSat 64 s),.ifc])) else none
 | _=>none
theorem Ala{γ:Gh}{w:World}{vs:List V}{us:List Value}(h1:vs.length=us.length)(h2:∀ j,j<vs.length->RepC γ w (vs.getD j .und) (us.getD j undef)):RepV γ w (.tup vs) (.tuple us.toArray):=
 .tup h1 (fun j hj=>.cell (h2 j hj))
theorem A04:Hq Tryz.prog G 100 N5:=by
 refine⟨⟨Tryz.f100,_,by kernel_rfl,rfl,by decide⟩,fun κ w vs us v hg hs hd hl ha h=>?_⟩
 unfold N5 at h
 split at h
 ·rename_i s c
  cases h
  obtain⟨a,b,rfl⟩:=R8 hl
  have h1:=(E4 (Gs rfl (ha 0 (by simp)))).1
  have h2:=Dy (Gs rfl (ha 1 (by simp)))
  have h1:a=.string ⟨s.toArray⟩:=h1
  have h2:b=.int .u8 c:=h2
  subst h1 h2
  refine(Tryz.strings_IndexByte ⟨s.toArray⟩ c w).mono ?_
  rintro e w' ⟨rfl,rfl⟩
  exact Qm hd (fun κ' w'=>B6 (.row .int)) ⟨rfl,Below.refl _ _⟩
 ·cases h
theorem Ap3{κ:Dl}{w:World}{g:Nat}{m:Int}(h:∀ g r,(g,r)∈G->RepC ⟨κ,[]⟩ w (.imm r 0) (.pointer (some ⟨g,0,none⟩)))(hin:(g,[V.int .i64 m])∈G):w.cell? ⟨g,0,none⟩=some (.int .i64 m):=by
 obtain⟨b,o,k,row,hu,h3,h4,h5,h6⟩:=Iy (h _ _ hin)
 simp at hu
 obtain⟨rfl,rfl⟩:=hu
 have a1:=h5 0 (by simp)
 have a2:=h6 0 (by simp)
 have a3:=Dy (γ:=⟨κ,[]⟩) (.row a2)
 rw[a3]at a1
 exact a1
theorem Atj(s p:List UInt8):(Lib.cut s p).1.length<=s.length/\(Lib.cut s p).2.1.length<=s.length:=by
 unfold Lib.cut
 split<;>simp<;>omega
theorem Axn{m:Int}(hin:(0,[V.int .i64 m])∈G):Hq Tryz.prog G 98 U1:=by
 refine⟨⟨Tryz.f98,_,by kernel_rfl,rfl,by decide⟩,fun κ w vs us v hg hs hd hl ha h=>?_⟩
 unfold U1 at h
 split at h
 ·rename_i s p
  split at h
  ·rename_i hlt
   cases h
   obtain⟨a,b,rfl⟩:=R8 hl
   obtain⟨h1,hm⟩:=E4 (Gs rfl (ha 0 (by simp)))
   have h2:=(E4 (Gs rfl (ha 1 (by simp)))).1
   have h1:a=.string ⟨s.toArray⟩:=h1
   have h2:b=.string ⟨p.toArray⟩:=h2
   subst h1 h2
   refine(Tryz.strings_Cut ⟨s.toArray⟩ ⟨p.toArray⟩ m w (by rw[Hn];exact hlt) (Ap3 hg hin)).mono ?_
   rintro e w' ⟨rfl,n,rfl⟩
   obtain⟨c1,c2⟩:=Atj s p
   refine Qm hd (fun κ' w'=>Ala (us:=[.string ⟨(Lib.cut s p).1.toArray⟩,.string ⟨(Lib.cut s p).2.1.toArray⟩,.bool (Lib.cut s p).2.2]) rfl (fun j hj=>?_)) ⟨rfl,⟨rfl,rfl,rfl,Ah _,fun _ _=>rfl⟩⟩
   match j,hj with
   | 0,_=>exact .row (.str (by show(Lib.cut s p).1.length<=_;omega))
   | 1,_=>exact .row (.str (by show(Lib.cut s p).2.1.length<=_;omega))
   | 2,_=>exact .row .bool
  ·cases h
 ·cases h
theorem A05:Hq Tryz.prog G 167 R9:=by
 refine⟨⟨Tryz.f167,_,by kernel_rfl,rfl,by decide⟩,fun κ w vs us v hg hs hd hl ha h=>?_⟩
 unfold R9 at h
 split at h
 ·rename_i s c
  split at h
  ·rename_i hlt
   cases h
   obtain⟨a,b,rfl⟩:=R8 hl
   obtain⟨h1,hm⟩:=E4 (Gs rfl (ha 0 (by simp)))
   have h2:=(E4 (Gs rfl (ha 1 (by simp)))).1
   have h1:a=.string ⟨s.toArray⟩:=h1
   have h2:b=.string ⟨#[c]⟩:=h2
   subst h1 h2
   refine(Tryz.strings_TrimLeft_one ⟨s.toArray⟩ c hlt w).mono ?_
   rintro e w' ⟨rfl,rfl⟩
   refine Qm hd (fun κ' w'=>B6 (.row (.str ?_))) ⟨rfl,Below.refl _ _⟩
   exact Eo (List.dropWhile_sublist _).length_le hm
  ·cases h
 ·cases h
theorem Ajv{κ:Dl}{w:World}{g:Nat}{nm:String}(hn:Tryz.prog.globalNamed nm=some g)(h:∀ g r,(g,r)∈G->RepC ⟨κ,[]⟩ w (.imm r 0) (.pointer (some ⟨g,0,none⟩)))(hs:∀ g r,(g,r)∈G->De w g=some r.length)(hin:(g,[V.ifc])∈G):
  ∃ t p,w.var? Tryz.prog nm=some #[.iface t p]:=by
 obtain⟨b,o,k,row,hu,h3,h4,h5,h6⟩:=Iy (h _ _ hin)
 simp at hu
 obtain⟨rfl,rfl⟩:=hu
 have a1:=h5 0 (by simp)
 have a2:=h6 0 (by simp)
 obtain⟨t,p,a3⟩:=Aac (γ:=⟨κ,[]⟩) (.row a2)
 rw[a3]at a1
 have h2:=hs _ _ hin
 unfold De at h2
 split at h2
 ·rename_i cs e fz hh
  simp only[Si,Af,Cf,Gn]at h2
  refine⟨t,p,?_⟩
  unfold World.var?
  rw[hn]
  simp only[Cd,hh]
  congr 1
  apply Array.ext
  ·rw[h2];rfl
  ·intro i hi1 hi2
   obtain rfl:i=0:=by simp at hi2;omega
   simp[World.cell?,hh,hi1]at a1
   simp[a1]
 ·cases h2
theorem Aij:Tryz.prog.globalNamed "strconv.ErrSyntax"=some 7:=by kernel_rfl
theorem Aik:Tryz.prog.globalNamed "strconv.ErrRange"=some 8:=by kernel_rfl
theorem Aa3{γ:Gh}{w:World}{n:Int}{v:V}{u:Value}(h:RepC γ w v u):RepV γ w (.tup [.int .i64 n,v]) (.tuple #[.int .i64 n,u]):=
 Ala (us:=[.int .i64 n,u]) rfl (fun j hj=>by
  match j,hj with
  | 0,_=>exact .row .int
  | 1,_=>exact h)
theorem Al8(w:World)(e:TypeId)(t:ByteArray):Below w.heap.size w (Lib.bytesWorld w e t):=by
 unfold Lib.bytesWorld
 refine Lib.below_freeze ?_ (p:=⟨w.heap.size,_,none⟩) (Ah _) _
 exact(Below.refl _ w).drew.alloc (show w.heap.size<=w.drew.heap.size from Ah _) _
theorem A06{α:Type}{us:List α}(h:3=us.length):∃ a b c,us=[a,b,c]:=by
 match us,h with
 | [a,b,c],_=>exact⟨a,b,c,rfl⟩
theorem A07(h1:(7,[V.ifc])∈G)(h2:(8,[V.ifc])∈G):Hq Tryz.prog G 202 Sa:=by
 refine⟨⟨Tryz.f202,_,by kernel_rfl,rfl,by decide⟩,fun κ w vs us v hg hs hd hl ha h=>?_⟩
 unfold Sa at h
 split at h
 ·rename_i s
  split at h
  ·rename_i hlt
   obtain⟨a,b,c,rfl⟩:=A06 hl
   obtain⟨g1,hm⟩:=E4 (Gs rfl (ha 0 (by simp)))
   have g2:=Dy (Gs rfl (ha 1 (by simp)))
   have g3:=Dy (Gs rfl (ha 2 (by simp)))
   have g1:a=.string ⟨s.toArray⟩:=g1
   have g2:b=.int .i64 10:=g2
   have g3:c=.int .i64 64:=g3
   subst g1 g2 g3
   split at h
   ·rename_i n hn
    cases h
    refine(Tryz.strconv_ParseInt_10_at64_ok ⟨s.toArray⟩ (by rw[Hn];omega) n hn w).mono ?_
    rintro e w' ⟨rfl,hw⟩
    refine Qm hd (fun κ' w'=>Aa3 (.row .nili)) ⟨rfl,?_⟩
    rcases hw with rfl | ⟨t,rfl⟩
    ·exact Below.refl _ _
    ·exact Al8 w _ t
   ·rename_i hn
    cases h
    obtain⟨t,p,hv⟩:=Ajv Aij hg hs h1
    refine(Tryz.strconv_ParseInt_10_at64_syntax_var ⟨s.toArray⟩ (by rw[Hn];exact hlt) hn t p w hv).mono ?_
    rintro e w' ⟨N,rfl,_,_,hb⟩
    exact Qm hd (fun κ' w'=>Aa3 .ifc) ⟨rfl,hb⟩
   ·rename_i hn
    cases h
    obtain⟨t,p,hv⟩:=Ajv Aik hg hs h2
    refine(Tryz.strconv_ParseInt_10_at64_range_var ⟨s.toArray⟩ (by rw[Hn];exact hlt) hn t p w hv).mono ?_
    rintro e w' ⟨N,rfl,_,_,hb⟩
    exact Qm hd (fun κ' w'=>Aa3 .ifc) ⟨rfl,hb⟩
  ·cases h
 ·cases h
end Go.Proofs.YtcoeikinocflnaaGreatDoor.KM
