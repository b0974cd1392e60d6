/- Functions of strconv and strings, known by what they return (second form). -/
import Derived.Test.YtcoeikinocflnaaGreatDoorKz
import Derived.Lib.ItoaLen
import Derived.Lib.Repeat
import Derived.Lib.Split
import Derived.Test.YtcoeikinocflnaaGreatDoorA5
import Derived.Test.YtcoeikinocflnaaGreatDoorProg
import Derived.WalkSpells
import Derived.WalkLawsBesides
import Derived.BigQuiet
import Derived.BigGuardPart
import Derived.Lib.Hide
import Derived.LoopTactic
import Derived.Laws.RangeAny
set_option linter.all false
namespace Go.Proofs.YtcoeikinocflnaaGreatDoor.KM
open Go Go.RowKit Go.Sort
def gPow:List V:=Lib.pow10Tab.map fun z=>.int .u64 z
variable {G:List (Nat × List V)}
theorem Aqe:Tryz.prog.globalNamed "internal/strconv.uint64pow10"=some 2:=by kernel_rfl
theorem Aj7{κ:Dy}{w:World}(h:∀ g r,(g,r)∈G->RepC ⟨κ,[]⟩ w (.imm r 0) (.pointer (some ⟨g,0,none⟩)))(hs:∀ g r,(g,r)∈G->Dk w g=some r.length)(hin:(2,gPow)∈G):
  Lib.TabIs Tryz.prog w "internal/strconv.uint64pow10" .u64 Lib.pow10Tab:=by
 have h1:=h _ _ hin;have h2:=hs _ _ hin;obtain⟨b,o,k,row,hu,h3,h4,h5,h6⟩:=Jk h1;simp at hu;obtain⟨rfl,rfl⟩:=hu;unfold Dk at h2
 split at h2
 ·rename_i cs e fz hh;simp only[V9]at h2;unfold Lib.TabIs World.var?;rw[Aqe];simp only[Cz,hh];congr 1;apply Array.ext
  ·rw[h2];simp[gPow]
  ·intro i hi1 hi2;have hlt:i<gPow.length:=by omega
   have a1:=h5 i hlt;have a2:=h6 i hlt;have hlt':i<Lib.pow10Tab.length:=by simpa[gPow] using hlt
   rw[show gPow.getD i .und=.int .u64 Lib.pow10Tab[i] by simp[gPow,Aq,hlt']]at a2;have a3:=D1 (γ:=⟨κ,[]⟩) (.row a2);rw[a3]at a1;simp[World.cell?,hh,hi1]at a1;simp[a1]
 ·cases h2
theorem Qy{κ:Dy}{w w':World}{v:V}{u:Value}{e:Ending}(hd:∀ b k,κ b=some k->b<w.heap.size)(hv:∀ κ' w',RepV ⟨κ',[]⟩ w' v u)(h:e=.returned u/\Below w.heap.size w w'):
  ∃ u κ',e=.returned u/\RepV ⟨κ',[]⟩ w' v u/\Below w.heap.size w w'/\(∀ b,b<w.heap.size->κ' b=κ b)/\∀ b k,κ' b=some k->b<w'.heap.size:=
 ⟨_,κ,h.1,hv κ w',h.2,fun _ _=>rfl,fun b k hk=>Qj (hd b k hk) h.2.size⟩
theorem Abd{κ:Dy}{w w':World}{l:List UInt8}{e:Ending}(hd:∀ b k,κ b=some k->b<w.heap.size)(hl:l.length<=maxLen)(h:e=.returned (.string ⟨l.toArray⟩)/\Below w.heap.size w w'):
  ∃ u κ',e=.returned u/\RepV ⟨κ',[]⟩ w' (.str l) u/\Below w.heap.size w w'/\(∀ b,b<w.heap.size->κ' b=κ b)/\∀ b k,κ' b=some k->b<w'.heap.size:=
 ⟨_,κ,h.1,Cv (.row (.str hl)),h.2,fun _ _=>rfl,fun b k hk=>Qj (hd b k hk) h.2.size⟩
theorem Afi(w:World)(k:Nat)(os:Array Obj):Below w.heap.size w (grow (w.drewN k) os):=
 ⟨rfl,rfl,rfl,by simp[grow,World.drewN],fun k hk=>by simp[grow,World.drewN,Array.getElem?_append,hk]⟩
/-! numerals, so that they can be run -/
def Ld:Nat->Nat->List UInt8
 | 0,_=>[]
 | k+1,u=>if u<10 then [UInt8.ofNat (48+u)] else Ld k (u / 10)++[UInt8.ofNat (48+u % 10)]
theorem Abt:∀ (k u:Nat),u<10 ^ (k+1)->Ld (k+1) u=Lib.decDigits u
 | 0,u,h=>by
  rw[Lib.decDigits];unfold Ld;rw[if_pos (by simpa using h),dif_pos (by simpa using h)]
 | k+1,u,h=>by
  rw[Lib.decDigits];unfold Ld
  split
  ·rfl
  ·rw[Abt k (u / 10) (by rw[Nat.pow_succ]at h;omega)]
def Cm(n:Int):List UInt8:=if n<0 then 45::Ld 20 n.natAbs else Ld 20 n.toNat
theorem Ahh(n:Int)(h1 : -9223372036854775808<=n)(h2:n<=9223372036854775807):Cm n=Lib.itoa n:=by
 unfold Cm Lib.itoa
 split
 ·rw[Abt 19 _ (by omega)]
 ·rw[Abt 19 _ (by omega)]
def L9:List V->Option V
 | [.int .i64 n,.int .i64 10]=>if -9223372036854775808<=n/\n<=9223372036854775807 then some (.str (Cm n)) else none
 | _=>none
def Rz:List V->Option V
 | [.int .i64 n]=>if -9223372036854775808<=n/\n<=9223372036854775807 then some (.str (Cm n)) else none
 | _=>none
def Si:List V->Option V
 | [.str s,.int .i64 c]=>if 0<=c/\c<=9223372036854775807/\s.length*c.toNat<=140737488355328 then some (.str (Lib.repeatL s c.toNat)) else none
 | _=>none
def Vo:List V->Option V
 | [.str s,.str p]=>some (.bool (Lib.hasPrefix s p))
 | _=>none
theorem So{α:Type}{us:List α}(h:2=us.length):∃ a b,us=[a,b]:=by
 match us,h with
 | [a,b],_=>exact⟨a,b,rfl⟩
theorem A2o{α:Type}{us:List α}(h:1=us.length):∃ a,us=[a]:=by
 match us,h with
 | [a],_=>exact⟨a,rfl⟩
theorem Axt(hin:(2,gPow)∈G):Hi Tryz.prog G 90 L9:=by
 refine⟨⟨Tryz.f90,_,by kernel_rfl,rfl,by decide⟩,fun κ w vs us v hg hs hd hl ha h=>?_⟩;unfold L9 at h
 split at h
 ·rename_i n
  split at h
  ·rename_i hn;cases h;obtain⟨a,b,rfl⟩:=So hl;have h1:=D1 (Gt rfl (ha 0 (by simp)));have h2:=D1 (Gt rfl (ha 1 (by simp)));have h1:a=.int .i64 n:=h1;have h2:b=.int .i64 10:=h2;subst h1 h2;rw[Ahh n hn.1 hn.2];refine(Tryz.strconv_FormatInt_10 n hn.1 hn.2 w (Aj7 hg hs hin)).mono fun e w' hh=>Abd hd (by have:=Lib.itoa_length_le n hn.1 hn.2;unfold maxLen;omega) ?_
   obtain⟨h,k,os,rfl⟩:=hh;exact⟨h,Afi w k os⟩
  ·cases h
 ·cases h
theorem At1(hin:(2,gPow)∈G):Hi Tryz.prog G 89 Rz:=by
 refine⟨⟨Tryz.f89,_,by kernel_rfl,rfl,by decide⟩,fun κ w vs us v hg hs hd hl ha h=>?_⟩;unfold Rz at h
 split at h
 ·rename_i n
  split at h
  ·rename_i hn;cases h;obtain⟨a,rfl⟩:=A2o hl;have h1:=D1 (Gt rfl (ha 0 (by simp)));have h1:a=.int .i64 n:=h1;subst h1;rw[Ahh n hn.1 hn.2];refine(Tryz.strconv_Itoa n hn.1 hn.2 w (Aj7 hg hs hin)).mono fun e w' hh=>Abd hd (by have:=Lib.itoa_length_le n hn.1 hn.2;unfold maxLen;omega) ?_
   obtain⟨h,k,os,rfl⟩:=hh;exact⟨h,Afi w k os⟩
  ·cases h
 ·cases h
theorem Axu:Hi Tryz.prog G 185 Si:=by
 refine⟨⟨Tryz.f185,_,by kernel_rfl,rfl,by decide⟩,fun κ w vs us v hg hs hd hl ha h=>?_⟩;unfold Si at h
 split at h
 ·rename_i s c
  split at h
  ·rename_i hc;cases h;obtain⟨a,b,rfl⟩:=So hl;have h1:=(Fl (Gt rfl (ha 0 (by simp)))).1;have h2:=D1 (Gt rfl (ha 1 (by simp)));have h1:a=.string ⟨s.toArray⟩:=h1;have h2:b=.int .i64 c:=h2;obtain⟨n,rfl⟩:∃ n:Nat,c=n:=⟨c.toNat,by omega⟩;subst h1 h2;have hcn:s.length*n<=140737488355328:=by simpa using hc.2.2
   have:=Tryz.strings_Repeat ⟨s.toArray⟩ n w (by omega) (by rw[Hw];exact hcn);refine this.mono fun e w' hh=>Abd hd ?_ (by simpa using hh)
   rw[Mf,Lib.repeatL_length,Qq];unfold maxLen;omega
  ·cases h
 ·cases h
theorem A08:Hi Tryz.prog G 81 Vo:=by
 refine⟨⟨Tryz.f81,_,by kernel_rfl,rfl,by decide⟩,fun κ w vs us v hg hs hd hl ha h=>?_⟩;unfold Vo at h
 split at h
 ·rename_i s p;cases h;obtain⟨a,b,rfl⟩:=So hl;have h1:=(Fl (Gt rfl (ha 0 (by simp)))).1;have h2:=(Fl (Gt rfl (ha 1 (by simp)))).1;have h1:a=.string ⟨s.toArray⟩:=h1;have h2:b=.string ⟨p.toArray⟩:=h2;subst h1 h2;refine(Tryz.strings_HasPrefix ⟨s.toArray⟩ ⟨p.toArray⟩ w).mono ?_;rintro e w' ⟨rfl,rfl⟩;exact⟨_,κ,rfl,Cv (.row .bool),Below.refl _ _,fun _ _=>rfl,hd⟩
 ·cases h
def Oo:List V->Option V
 | [.str s,.int .u8 c]=>some (.int .i64 (Lib.indexByte s c.toNat.toUInt8))
 | _=>none
def Vk:List V->Option V
 | [.str s,.str p]=>if s.length<4294967281 then some (.tup [.str (Lib.cut s p).1,.str (Lib.cut s p).2.1,.bool (Lib.cut s p).2.2]) else none
 | _=>none
def Sq:List V->Option V
 | [.str s,.str [c]]=>if c.toNat<128 then some (.str (Lib.trimLeftB s c)) else none
 | _=>none
def Ss:List V->Option V
 | [.str s,.int .i64 10,.int .i64 64]=>if s.length<=281474976710656 then(match Lib.parseIntB 64 s with
  | .ok v=>some (.tup [.int .i64 v,.nili])
  | Lib.NumEnd.syntax=>some (.tup [.int .i64 0,.ifc])
  | .range=>some (.tup [.int .i64 (Lib.intSat 64 s),.ifc])) else none
 | _=>none
theorem Al7{γ:Gh}{w:World}{vs:List V}{us:List Value}(h1:vs.length=us.length)(h2:∀ j,j<vs.length->RepC γ w (vs.getD j .und) (us.getD j undef)):RepV γ w (.tup vs) (.tuple us.toArray):=
 .tup h1 (fun j hj=>.cell (h2 j hj))
theorem A09:Hi Tryz.prog G 100 Oo:=by
 refine⟨⟨Tryz.f100,_,by kernel_rfl,rfl,by decide⟩,fun κ w vs us v hg hs hd hl ha h=>?_⟩;unfold Oo at h
 split at h
 ·rename_i s c;cases h;obtain⟨a,b,rfl⟩:=So hl;have h1:=(Fl (Gt rfl (ha 0 (by simp)))).1;have h2:=D1 (Gt rfl (ha 1 (by simp)));have h1:a=.string ⟨s.toArray⟩:=h1;have h2:b=.int .u8 c:=h2;subst h1 h2;refine(Tryz.strings_IndexByte ⟨s.toArray⟩ c w).mono ?_;rintro e w' ⟨rfl,rfl⟩;exact Qy hd (fun κ' w'=>Cv (.row .int)) ⟨rfl,Below.refl _ _⟩
 ·cases h
theorem Aqf{κ:Dy}{w:World}{g:Nat}{m:Int}(h:∀ g r,(g,r)∈G->RepC ⟨κ,[]⟩ w (.imm r 0) (.pointer (some ⟨g,0,none⟩)))(hin:(g,[V.int .i64 m])∈G):w.cell? ⟨g,0,none⟩=some (.int .i64 m):=by
 obtain⟨b,o,k,row,hu,h3,h4,h5,h6⟩:=Jk (h _ _ hin);simp at hu;obtain⟨rfl,rfl⟩:=hu;have a1:=h5 0 (by simp);have a2:=h6 0 (by simp);have a3:=D1 (γ:=⟨κ,[]⟩) (.row a2);rw[a3]at a1;exact a1
theorem At2(s p:List UInt8):(Lib.cut s p).1.length<=s.length/\(Lib.cut s p).2.1.length<=s.length:=by
 unfold Lib.cut
 split<;>simp<;>omega
theorem Axv{m:Int}(hin:(0,[V.int .i64 m])∈G):Hi Tryz.prog G 98 Vk:=by
 refine⟨⟨Tryz.f98,_,by kernel_rfl,rfl,by decide⟩,fun κ w vs us v hg hs hd hl ha h=>?_⟩;unfold Vk at h
 split at h
 ·rename_i s p
  split at h
  ·rename_i hlt;cases h;obtain⟨a,b,rfl⟩:=So hl;obtain⟨h1,hm⟩:=Fl (Gt rfl (ha 0 (by simp)));have h2:=(Fl (Gt rfl (ha 1 (by simp)))).1;have h1:a=.string ⟨s.toArray⟩:=h1;have h2:b=.string ⟨p.toArray⟩:=h2;subst h1 h2;refine(Tryz.strings_Cut ⟨s.toArray⟩ ⟨p.toArray⟩ m w (by rw[Hw];exact hlt) (Aqf hg hin)).mono ?_;rintro e w' ⟨rfl,n,rfl⟩;obtain⟨c1,c2⟩:=At2 s p;refine Qy hd (fun κ' w'=>Al7 (us:=[.string ⟨(Lib.cut s p).1.toArray⟩,.string ⟨(Lib.cut s p).2.1.toArray⟩,.bool (Lib.cut s p).2.2]) rfl (fun j hj=>?_)) ⟨rfl,⟨rfl,rfl,rfl,Ah _,fun _ _=>rfl⟩⟩
   match j,hj with
   | 0,_=>exact .row (.str (by show(Lib.cut s p).1.length<=_;omega))
   | 1,_=>exact .row (.str (by show(Lib.cut s p).2.1.length<=_;omega))
   | 2,_=>exact .row .bool
  ·cases h
 ·cases h
theorem A1a:Hi Tryz.prog G 167 Sq:=by
 refine⟨⟨Tryz.f167,_,by kernel_rfl,rfl,by decide⟩,fun κ w vs us v hg hs hd hl ha h=>?_⟩;unfold Sq at h
 split at h
 ·rename_i s c
  split at h
  ·rename_i hlt;cases h;obtain⟨a,b,rfl⟩:=So hl;obtain⟨h1,hm⟩:=Fl (Gt rfl (ha 0 (by simp)));have h2:=(Fl (Gt rfl (ha 1 (by simp)))).1;have h1:a=.string ⟨s.toArray⟩:=h1;have h2:b=.string ⟨#[c]⟩:=h2;subst h1 h2;refine(Tryz.strings_TrimLeft_one ⟨s.toArray⟩ c hlt w).mono ?_;rintro e w' ⟨rfl,rfl⟩;refine Qy hd (fun κ' w'=>Cv (.row (.str ?_))) ⟨rfl,Below.refl _ _⟩;exact Cj (List.dropWhile_sublist _).length_le hm
  ·cases h
 ·cases h
theorem Aj8{κ:Dy}{w:World}{g:Nat}{nm:String}(hn:Tryz.prog.globalNamed nm=some g)(h:∀ g r,(g,r)∈G->RepC ⟨κ,[]⟩ w (.imm r 0) (.pointer (some ⟨g,0,none⟩)))(hs:∀ g r,(g,r)∈G->Dk w g=some r.length)(hin:(g,[V.ifc])∈G):
  ∃ t p,w.var? Tryz.prog nm=some #[.iface t p]:=by
 obtain⟨b,o,k,row,hu,h3,h4,h5,h6⟩:=Jk (h _ _ hin);simp at hu;obtain⟨rfl,rfl⟩:=hu;have a1:=h5 0 (by simp);have a2:=h6 0 (by simp);obtain⟨t,p,a3⟩:=Aa6 (γ:=⟨κ,[]⟩) (.row a2);rw[a3]at a1;have h2:=hs _ _ hin;unfold Dk at h2
 split at h2
 ·rename_i cs e fz hh;simp only[V9,Am,Cx,Ez]at h2;refine⟨t,p,?_⟩;unfold World.var?;rw[hn];simp only[Cz,hh];congr 1;apply Array.ext
  ·rw[h2];rfl
  ·intro i hi1 hi2;obtain rfl:i=0:=by simp at hi2;omega
   simp[World.cell?,hh,hi1]at a1;simp[a1]
 ·cases h2
theorem Ai4:Tryz.prog.globalNamed "strconv.ErrSyntax"=some 7:=by kernel_rfl
theorem Ai5:Tryz.prog.globalNamed "strconv.ErrRange"=some 8:=by kernel_rfl
theorem Abu{γ:Gh}{w:World}{n:Int}{v:V}{u:Value}(h:RepC γ w v u):RepV γ w (.tup [.int .i64 n,v]) (.tuple #[.int .i64 n,u]):=
 Al7 (us:=[.int .i64 n,u]) rfl (fun j hj=>by
  match j,hj with
  | 0,_=>exact .row .int
  | 1,_=>exact h)
theorem Am8(w:World)(e:TypeId)(t:ByteArray):Below w.heap.size w (Lib.bytesWorld w e t):=by
 unfold Lib.bytesWorld;refine Lib.below_freeze ?_ (p:=⟨w.heap.size,_,none⟩) (Ah _) _;exact(Below.refl _ w).drew.alloc (show w.heap.size<=w.drew.heap.size from Ah _) _
theorem A1b{α:Type}{us:List α}(h:3=us.length):∃ a b c,us=[a,b,c]:=by
 match us,h with
 | [a,b,c],_=>exact⟨a,b,c,rfl⟩
theorem A1c(h1:(7,[V.ifc])∈G)(h2:(8,[V.ifc])∈G):Hi Tryz.prog G 202 Ss:=by
 refine⟨⟨Tryz.f202,_,by kernel_rfl,rfl,by decide⟩,fun κ w vs us v hg hs hd hl ha h=>?_⟩;unfold Ss at h
 split at h
 ·rename_i s
  split at h
  ·rename_i hlt;obtain⟨a,b,c,rfl⟩:=A1b hl;obtain⟨g1,hm⟩:=Fl (Gt rfl (ha 0 (by simp)));have g2:=D1 (Gt rfl (ha 1 (by simp)));have g3:=D1 (Gt rfl (ha 2 (by simp)));have g1:a=.string ⟨s.toArray⟩:=g1;have g2:b=.int .i64 10:=g2;have g3:c=.int .i64 64:=g3;subst g1 g2 g3
   split at h
   ·rename_i n hn;cases h;refine(Tryz.strconv_ParseInt_10_at64_ok ⟨s.toArray⟩ (by rw[Hw];omega) n hn w).mono ?_;rintro e w' ⟨rfl,hw⟩;refine Qy hd (fun κ' w'=>Abu (.row .nili)) ⟨rfl,?_⟩;rcases hw with rfl | ⟨t,rfl⟩
    ·exact Below.refl _ _
    ·exact Am8 w _ t
   ·rename_i hn;cases h;obtain⟨t,p,hv⟩:=Aj8 Ai4 hg hs h1;refine(Tryz.strconv_ParseInt_10_at64_syntax_var ⟨s.toArray⟩ (by rw[Hw];exact hlt) hn t p w hv).mono ?_;rintro e w' ⟨N,rfl,_,_,hb⟩;exact Qy hd (fun κ' w'=>Abu .ifc) ⟨rfl,hb⟩
   ·rename_i hn;cases h;obtain⟨t,p,hv⟩:=Aj8 Ai5 hg hs h2;refine(Tryz.strconv_ParseInt_10_at64_range_var ⟨s.toArray⟩ (by rw[Hw];exact hlt) hn t p w hv).mono ?_;rintro e w' ⟨N,rfl,_,_,hb⟩;exact Qy hd (fun κ' w'=>Abu .ifc) ⟨rfl,hb⟩
  ·cases h
 ·cases h
open Go Go.RowKit
def kwL:List (List UInt8):=[[118,97,114],[118,111,108,97,116,105,108,101],[109,117,116,101,120],[114,119,108,111,99,107],[99,111,110,100],[102,117,116,117,114,101],[116,104,114,101,97,100],[105,102],[101,108,115,101],[119,104,105,108,101],[108,111,99,107],[114,101,97,100],[119,114,105,116,101],[116,114,97,110,115,97,99,116,105,111,110],[97,116,111,109,105,99],[119,97,105,116],[110,111,116,105,102,121],[110,111,116,105,102,121,97,108,108],[115,112,97,119,110],[106,111,105,110],[115,101,116],[103,101,116]]
def gKw:List V:=kwL.map V.str
def F9(l:List UInt8):Bool:=kwL.any fun k=>l==k
def I6(n:Nat):Bool:=(decide (97<=n)&&decide (n<=122))||(decide (65<=n)&&decide (n<=90))
def Om(n:Nat):Bool:=decide (48<=n)&&decide (n<=57)
def J0(n:Nat):Bool:=I6 n||(Om n||n==95)
def Lf(l:List UInt8)(j:Nat):Bool:=I6 (l.getD j 0).toNat||(decide (0<j)&&((l.getD j 0).toNat==95||Om (l.getD j 0).toNat))
def Bv(l:List UInt8):Bool:=decide (1<=l.length)&&(decide (l.length<=12)&&(!F9 l&&(List.range l.length).all (Lf l)))
def Zm:List V->Option V
 | [.str l]=>some (.bool (F9 l))
 | _=>none
theorem At3{l:List UInt8}(h:l.length<1):Bv l=false:=by
 unfold Bv;rw[decide_eq_false (by omega)];rfl
theorem At4{l:List UInt8}(h:12<l.length):Bv l=false:=by
 unfold Bv;rw[decide_eq_false (show ¬ l.length<=12 by omega)];simp
theorem At5{l:List UInt8}(h:F9 l=true):Bv l=false:=by
 unfold Bv;rw[h];simp
theorem Aj9{l:List UInt8}(h1:1<=l.length)(h2:l.length<=12)(h3:F9 l=false)(h4:∀ j,j<l.length->Lf l j=true):Bv l=true:=by
 unfold Bv;rw[decide_eq_true h1,decide_eq_true h2,h3,Bd.2 fun j hj=>h4 j (Fc.1 hj)];rfl
open Go Go.RowKit
theorem Anq{T:Nat->Option AF}{pr:Nat->Option (List V->Option V)}{P:Program}{G:List (Nat × List V)}(hT:∀ f F,T f=some F->F.spec=none->M7 P G f F=true)(hS:∀ f F s,T f=some F->F.spec=some s->Rw P G f s)(hpr:∀ f s,pr f=some s->Hi P G f s)
  {f:Nat} {s:List V->Option V} (hf:∃ fn c,P.funcs[f]?=some fn/\fn.body=some c/\fn.name ≠ "runtime.NumGoroutine") (h:∀ vs v,s vs=some v->Fn T pr f vs v):Hi P G f s:=by
 refine⟨hf,fun κ w vs us v hg hs hd hl ha hv=>?_⟩;obtain⟨F,hF,h1,h2,v0,σ0,hE,hb⟩:=h vs v hv
 have hI:Inv G w.heap.size ⟨κ,[]⟩ [] w:=
  { base:=Ah _,len:=rfl,nd:=Qo,low:=fun i p h=>by simp at h,obj:=fun i ob p h=>by simp at h,dom:=hd,glob:=hg,
    gsz:=fun g r hm=>And.intro (by
     have:=hs g r hm;unfold Dk at this
     split at this
     ·rename_i hh;exact(Array.getElem?_eq_some_iff.1 hh).1
     ·cases this) (hs g r hm) }
 refine(Ala hT hS hpr hE us w ⟨κ,[]⟩ w.heap.size hl (fun j hj=>.one (ha j hj)) hI).mono ?_;rintro e w1 ⟨u,γ',rfl,hu,hI',hx,hbl,hk⟩;obtain⟨κ2,y1,y2,y3,y4,_⟩:=hI'.freeze (E3 σ0 9 v0.refs.eraseDups);exact⟨u,κ2,rfl,Wm hI' y2 y4 hb hu [],hbl,fun b hlt=>(y3 b hlt).trans (hk b hlt),y1.dom⟩
/-! IsKeyword -/
def Aka:AC:=.seq (.reg [] [o 7 (.bin .lss (.t 6) (.k (.int .i64 22)))]) (.seq (.cond (.t 7) [7] (.skip) (.exit 0)) (.seq (.blk 1 (.seq (.reg [8] [o 8 (.ida 22 1 true (.t 5) (.t 6)),o 4 (.mov (.t 8))]) (.seq (.reg [4,9,10] [o 9 (.mov (.t 0)),o 10 (.mov (.t 4)),o 11 (.bin .eql (.t 9) (.t 10))]) (.cond (.t 11) [11] (.seq (.reg [] [o 2 (.mov (.k (.bool true)))]) (.ret)) (.skip))))) (.reg [12] [o 12 (.bin .add (.t 6) (.k (.int .i64 1))),o 6 (.mov (.t 12))])))
def Al8:AF:=⟨1,[.tmp 2],false,.seq (.reg [2] [o 2 (.mov (.k (.bool false)))]) (.seq (.seq (.reg [] [o 5 (.load 22 false (.k (.imm gKw 0))),o 6 (.mov (.k (.int .i64 0)))]) (.blk 0 (.loop [0,5,6] Aka))) (.seq (.reg [] [o 2 (.mov (.k (.bool false)))]) (.ret))),none⟩
def Vp(f:Nat):Option AF:=if f=166 then some Al8 else none
theorem A1d{i:Nat}(h:i<22):(gKw.drop i).take 1=[.str (kwL.getD i [])]:=by
 have hl:i<kwL.length:=h;unfold gKw;rw[<-List.map_drop,Je hl,Aq,A0 hl];rfl
theorem A1e(l:List UInt8):Fn Vp (fun _=>none) 166 [.str l] (.bool (F9 l)):=by
 refine Bn (show Vp 166=some _ from rfl) rfl ?_;have hlen:gKw.length=22:=rfl;have hd:gKw.take 22=gKw:=rfl;generalize hg:gKw=g at hlen hd;simp only[go_sem,Nat.reduceEqDiff,reduceIte,Nat.reduceAdd,Nat.reduceMul,Nat.reduceLeDiff,Int.reduceLT,Int.reduceLE,Int.reduceToNat,Int.reduceAdd,Int.reduceNeg,Int.reduceEq,hlen,hd,Ah];refine B9 (fun i=>22 - i) (fun i:Nat=>[(0,.str l),(5,.agg g),(6,.int .i64 i)]) (fun _=>[]) (fun i=>i<=22/\∀ j,j<i->(l==kwL.getD j [])=false) ?_ 0 ⟨by omega,fun j hj=>by omega⟩;rintro i ⟨hi,hno⟩ ih;refine Ca (by delta Aka;exact rfl) ?_;rcases Bx i 22 with h | h
 ·have hk:=A1d h;rw[hg]at hk;have hlt:decide ((i:Int)<22)=true:=by simp;omega
  have h0:((0:Int)<=i)=True:=eq_true (by omega);have h1:((i:Int)<22)=True:=eq_true (by omega);have h2:(i+1<=22)=True:=eq_true (by omega);simp only[go_sem,Nat.reduceEqDiff,reduceIte,Nat.reduceAdd,Nat.reduceMul,Nat.reduceLeDiff,Int.reduceLT,Int.reduceLE,Int.reduceToNat,Int.reduceAdd,Int.reduceNeg,Int.reduceEq,hlt,h0,h1,h2,hk,hlen];refine Alf (fun h3=>?_) (fun h3=>?_)
  ·simp only[go_sem,Nat.reduceEqDiff,reduceIte,Nat.reduceAdd,Nat.reduceMul,Nat.reduceLeDiff,Int.reduceLT,Int.reduceLE,Int.reduceToNat,Int.reduceAdd,Int.reduceNeg,Int.reduceEq];refine An rfl ?_;unfold F9;rw[Li.2 ⟨kwL.getD i [],?_,h3⟩];have hl:i<kwL.length:=h;rw[Aq,A0 hl];exact Fa hl
  ·simp only[go_sem,Nat.reduceEqDiff,reduceIte,Nat.reduceAdd,Nat.reduceMul,Nat.reduceLeDiff,Int.reduceLT,Int.reduceLE,Int.reduceToNat,Int.reduceAdd,Int.reduceNeg,Int.reduceEq,Bg (show i<9223372036854775807 by omega)];refine Bi (ih (i+1) (by omega) ⟨by omega,fun j hj=>?_⟩) rfl;by_cases e:j=i
   ·rw[e];exact h3
   ·exact hno j (by omega)
 ·have hlt:decide ((i:Int)<22)=false:=by simp;omega
  simp only[go_sem,Nat.reduceEqDiff,reduceIte,Nat.reduceAdd,Nat.reduceMul,Nat.reduceLeDiff,Int.reduceLT,Int.reduceLE,Int.reduceToNat,Int.reduceAdd,Int.reduceNeg,Int.reduceEq,hlt];refine An rfl ?_
  symm
  congr 1;unfold F9;rw[<-Wd];intro ha;obtain⟨k,hk,he⟩:=Li.1 ha;obtain⟨j,hj,rfl⟩:=Ng hk;have hj2:j<22:=hj;have:=hno j (by omega);rw[Aq,A0 hj]at this;exact absurd he (by simpa using this)
theorem A2p:M7 Tryz.prog [(1,gKw)] 166 Al8=true:=by
 kernel_rfl
theorem Aqg{P:Program}{G H:List (Nat × List V)}{f:Nat}{s:List V->Option V}(h:∀ p∈G,p∈H)(hp:Hi P G f s):Hi P H f s:=
 ⟨hp.1,fun κ w vs us v hg hs=>hp.2 κ w vs us v (fun g r hm=>hg g r (h _ hm)) fun g r hm=>hs g r (h _ hm)⟩
theorem A1f{G:List (Nat × List V)}(hin:(1,gKw)∈G):Hi Tryz.prog G 166 Zm:=by
 refine Aqg (G:=[(1,gKw)]) (fun p hp=>by rw[Ey.1 hp];exact hin) ?_;refine Anq (T:=Vp) (pr:=fun _=>none) ?_ ?_ (fun _ _ h=>by cases h) ⟨Tryz.f166,_,by kernel_rfl,rfl,by decide⟩ ?_
 ·intro f F h _;unfold Vp at h
  split at h
  ·rename_i hf;cases h;subst hf;exact A2p
  ·cases h
 ·intro f F s h hs;unfold Vp at h
  split at h
  ·cases h;cases hs
  ·cases h
 ·intro vs v h;unfold Zm at h
  split at h
  ·cases h;exact A1e _
  ·cases h
