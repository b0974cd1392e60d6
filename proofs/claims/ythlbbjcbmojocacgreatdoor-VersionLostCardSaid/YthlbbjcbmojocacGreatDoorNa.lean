/- Functions of strconv and strings, known by what they return (second form). -/
import Derived.Test.YthlbbjcbmojocacGreatDoorNr
import Derived.Lib.ItoaLen
import Derived.Lib.Repeat
import Derived.Lib.Split
import Derived.Test.YthlbbjcbmojocacGreatDoorProg
import Derived.WalkSpells
import Derived.WalkLawsBesides
import Derived.BigQuiet
import Derived.BigGuardPart
import Derived.Lib.Hide
import Derived.LoopTactic
import Derived.Laws.RangeAny
set_option linter.all false
namespace Go.Proofs.YthlbbjcbmojocacGreatDoor.KM
open Go Go.RowKit Go.Sort
def gPow:List V:=Lib.pow10Tab.map fun z=>.int .u64 z
variable {G:List (Nat × List V)}
def A2k:Tryz.prog.globalNamed "internal/strconv.uint64pow10"=some 2:=by kernel_rfl
def Atq{κ:E0}{w:World}(h:∀ g r,(g,r)∈G->RepC ⟨κ,[]⟩ w (.imm r 0) (.pointer (some ⟨g,0,none⟩)))(hs:∀ g r,(g,r)∈G->Eb w g=some r.length)(qb:(2,gPow)∈G):
  Lib.TabIs Tryz.prog w "internal/strconv.uint64pow10" .u64 Lib.pow10Tab:=by
 have h1:=h _ _ qb;have h2:=hs _ _ qb;obtain⟨b,o,k,row,hu,h3,h4,h5,h6⟩:=Mg h1;simp at hu;obtain⟨rfl,rfl⟩:=hu;unfold Eb at h2
 split at h2
 .rename_i cs e fz hh;simp only[Xn]at h2;unfold Lib.TabIs World.var?;rw[A2k];simp only[Db,hh];congr 1;apply Array.ext
  .rw[h2];simp[gPow]
  .intro i qd qg;have qa:i<gPow.length:=by omega
   have a1:=h5 i qa;have a2:=h6 i qa;have qe:i<Lib.pow10Tab.length:=by simpa[gPow] using qa
   rw[show gPow.getD i .und=.int .u64 Lib.pow10Tab[i] by simp[gPow,Av,qe]]at a2;have a3:=Er (γ:=⟨κ,[]⟩) (.row a2);rw[a3]at a1;simp[World.cell?,hh,qd]at a1;simp[a1]
 .cases h2
def Ta{κ:E0}{w w':World}{v:V}{u:Value}{e:Ending}(hd:∀ b k,κ b=some k->b<w.heap.size)(hv:∀ κ' w',RepV ⟨κ',[]⟩ w' v u)(h:e=.returned u/\Below w.heap.size w w'):
  ∃ u κ',e=.returned u/\RepV ⟨κ',[]⟩ w' v u/\Below w.heap.size w w'/\(∀ b,b<w.heap.size->κ' b=κ b)/\∀ b k,κ' b=some k->b<w'.heap.size:=
 ⟨_,κ,h.1,hv κ w',h.2,fun _ _=>rfl,fun b k hk=>Pa (hd b k hk) h.2.size⟩
def Ahp{κ:E0}{w w':World}{l:List UInt8}{e:Ending}(hd:∀ b k,κ b=some k->b<w.heap.size)(hl:l.length<=maxLen)(h:e=.returned (.string ⟨l.toArray⟩)/\Below w.heap.size w w'):
  ∃ u κ',e=.returned u/\RepV ⟨κ',[]⟩ w' (.str l) u/\Below w.heap.size w w'/\(∀ b,b<w.heap.size->κ' b=κ b)/\∀ b k,κ' b=some k->b<w'.heap.size:=
 ⟨_,κ,h.1,C1 (.row (.str hl)),h.2,fun _ _=>rfl,fun b k hk=>Pa (hd b k hk) h.2.size⟩
def Amw(w:World)(k:Nat)(os:Array Obj):Below w.heap.size w (grow (w.drewN k) os):=
 ⟨rfl,rfl,rfl,by simp[grow,World.drewN],fun k hk=>by simp[grow,World.drewN,Array.getElem?_append,hk]⟩
/-! numerals, so that they can be run -/
def Ny:Nat->Nat->List UInt8
 | 0,_=>[]
 | k+1,u=>if u<10 then [UInt8.ofNat (48+u)] else Ny k (u / 10)++[UInt8.ofNat (48+u % 10)]
def Aif:∀ (k u:Nat),u<10 ^ (k+1)->Ny (k+1) u=Lib.decDigits u
 | 0,u,h=>by
  rw[Lib.decDigits];unfold Ny;rw[if_pos (by simpa using h),dif_pos (by simpa using h)]
 | k+1,u,h=>by
  rw[Lib.decDigits];unfold Ny
  split
  .rfl
  .rw[Aif k (u / 10) (by rw[Nat.pow_succ]at h;omega)]
def C2(n:Int):List UInt8:=if n<0 then 45::Ny 20 n.natAbs else Ny 20 n.toNat
def Apo(n:Int)(h1 : -9223372036854775808<=n)(h2:n<=9223372036854775807):C2 n=Lib.itoa n:=by
 unfold C2 Lib.itoa
 split
 .rw[Aif 19 _ (by omega)]
 .rw[Aif 19 _ (by omega)]
def Oz:List V->Option V
 | [.int .i64 n,.int .i64 10]=>if -9223372036854775808<=n/\n<=9223372036854775807 then some (.str (C2 n)) else none
 | _=>none
def Ws:List V->Option V
 | [.int .i64 n]=>if -9223372036854775808<=n/\n<=9223372036854775807 then some (.str (C2 n)) else none
 | _=>none
def W7:List V->Option V
 | [.str s,.int .i64 c]=>if 0<=c/\c<=9223372036854775807/\s.length*c.toNat<=140737488355328 then some (.str (Lib.repeatL s c.toNat)) else none
 | _=>none
def hpS:List V->Option V
 | [.str s,.str p]=>some (.bool (Lib.hasPrefix s p))
 | _=>none
def Uv{α:Type}{us:List α}(h:2=us.length):∃ a b,us=[a,b]:=by
 match us,h with
 | [a,b],_=>exact⟨a,b,rfl⟩
def Bje{α:Type}{us:List α}(h:1=us.length):∃ a,us=[a]:=by
 match us,h with
 | [a],_=>exact⟨a,rfl⟩
def Bbp(qb:(2,gPow)∈G):Ir Tryz.prog G 73 Oz:=by
 refine⟨⟨Tryz.f73,_,by kernel_rfl,rfl,by decide⟩,fun κ w vs us v hg hs hd hl ha h=>?_⟩;unfold Oz at h
 split at h
 .rename_i n
  split at h
  .rename_i hn;cases h;obtain⟨a,b,rfl⟩:=Uv hl;have h1:=Er (Hj rfl (ha 0 (by simp)));have h2:=Er (Hj rfl (ha 1 (by simp)));have h1:a=.int .i64 n:=h1;have h2:b=.int .i64 10:=h2;subst h1 h2;rw[Apo n hn.1 hn.2];refine(Tryz.strconv_FormatInt_10 n hn.1 hn.2 w (Atq hg hs qb)).mono fun e w' hh=>Ahp hd (by have:=Lib.itoa_length_le n hn.1 hn.2;unfold maxLen;omega) ?_
   obtain⟨h,k,os,rfl⟩:=hh;exact⟨h,Amw w k os⟩
  .cases h
 .cases h
def A6z(qb:(2,gPow)∈G):Ir Tryz.prog G 72 Ws:=by
 refine⟨⟨Tryz.f72,_,by kernel_rfl,rfl,by decide⟩,fun κ w vs us v hg hs hd hl ha h=>?_⟩;unfold Ws at h
 split at h
 .rename_i n
  split at h
  .rename_i hn;cases h;obtain⟨a,rfl⟩:=Bje hl;have h1:=Er (Hj rfl (ha 0 (by simp)));have h1:a=.int .i64 n:=h1;subst h1;rw[Apo n hn.1 hn.2];refine(Tryz.strconv_Itoa n hn.1 hn.2 w (Atq hg hs qb)).mono fun e w' hh=>Ahp hd (by have:=Lib.itoa_length_le n hn.1 hn.2;unfold maxLen;omega) ?_
   obtain⟨h,k,os,rfl⟩:=hh;exact⟨h,Amw w k os⟩
  .cases h
 .cases h
def Bbq:Ir Tryz.prog G 194 W7:=by
 refine⟨⟨Tryz.f194,_,by kernel_rfl,rfl,by decide⟩,fun κ w vs us v hg hs hd hl ha h=>?_⟩;unfold W7 at h
 split at h
 .rename_i s c
  split at h
  .rename_i hc;cases h;obtain⟨a,b,rfl⟩:=Uv hl;have h1:=(Gi (Hj rfl (ha 0 (by simp)))).1;have h2:=Er (Hj rfl (ha 1 (by simp)));have h1:a=.string ⟨s.toArray⟩:=h1;have h2:b=.int .i64 c:=h2;obtain⟨n,rfl⟩:∃ n:Nat,c=n:=⟨c.toNat,by omega⟩;subst h1 h2;have qj:s.length*n<=140737488355328:=by simpa using hc.2.2
   have:=Tryz.strings_Repeat ⟨s.toArray⟩ n w (by omega) (by rw[Jt];exact qj);refine this.mono fun e w' hh=>Ahp hd ?_ (by simpa using hh)
   rw[Md,Lib.repeatL_length,U8];unfold maxLen;omega
  .cases h
 .cases h
def Bf3:Ir Tryz.prog G 64 hpS:=by
 refine⟨⟨Tryz.f64,_,by kernel_rfl,rfl,by decide⟩,fun κ w vs us v hg hs hd hl ha h=>?_⟩;unfold hpS at h
 split at h
 .rename_i s p;cases h;obtain⟨a,b,rfl⟩:=Uv hl;have h1:=(Gi (Hj rfl (ha 0 (by simp)))).1;have h2:=(Gi (Hj rfl (ha 1 (by simp)))).1;have h1:a=.string ⟨s.toArray⟩:=h1;have h2:b=.string ⟨p.toArray⟩:=h2;subst h1 h2;refine(Tryz.strings_HasPrefix ⟨s.toArray⟩ ⟨p.toArray⟩ w).mono ?_;rintro e w' ⟨rfl,rfl⟩;exact⟨_,κ,rfl,C1 (.row .bool),Below.refl _ _,fun _ _=>rfl,hd⟩
 .cases h
def Ae6:List V->Option V
 | [.str a,.str b]=>some (.int .i64 (Lib.compareBytes a b))
 | _=>none
def R9:List V->Option V
 | [.str s,.int .u8 c]=>some (.int .i64 (Lib.indexByte s c.toNat.toUInt8))
 | _=>none
def Aae:List V->Option V
 | [.str s,.str p]=>if s.length<4294967281 then some (.tup [.str (Lib.cut s p).1,.str (Lib.cut s p).2.1,.bool (Lib.cut s p).2.2]) else none
 | _=>none
def Xc:List V->Option V
 | [.str s,.str [c]]=>if c.toNat<128 then some (.str (Lib.trimLeftB s c)) else none
 | _=>none
def Xd:List V->Option V
 | [.str s,.int .i64 10,.int .i64 64]=>if s.length<=281474976710656 then(match Lib.parseIntB 64 s with
  | .ok v=>some (.tup [.int .i64 v,.nili])
  | Lib.NumEnd.syntax=>some (.tup [.int .i64 0,.ifc])
  | .range=>some (.tup [.int .i64 (Lib.intSat 64 s),.ifc])) else none
 | _=>none
def Awo{γ:Gh}{w:World}{vs:List V}{us:List Value}(h1:vs.length=us.length)(h2:∀ j,j<vs.length->RepC γ w (vs.getD j .und) (us.getD j undef)):RepV γ w (.tup vs) (.tuple us.toArray):=
 .tup h1 (fun j hj=>.cell (h2 j hj))
def Bbr:Ir Tryz.prog G 63 Ae6:=by
 refine⟨⟨Tryz.f63,_,by kernel_rfl,rfl,by decide⟩,fun κ w vs us v hg hs hd hl ha h=>?_⟩;unfold Ae6 at h
 split at h
 .rename_i s p;cases h;obtain⟨a,b,rfl⟩:=Uv hl;have h1:=(Gi (Hj rfl (ha 0 (by simp)))).1;have h2:=(Gi (Hj rfl (ha 1 (by simp)))).1;have h1:a=.string ⟨s.toArray⟩:=h1;have h2:b=.string ⟨p.toArray⟩:=h2;subst h1 h2;refine(Tryz.strings_Compare ⟨s.toArray⟩ ⟨p.toArray⟩ w).mono ?_;rintro e w' ⟨rfl,rfl⟩;exact Ta hd (fun κ' w'=>C1 (.row .int)) ⟨rfl,Below.refl _ _⟩
 .cases h
def Bf4:Ir Tryz.prog G 109 R9:=by
 refine⟨⟨Tryz.f109,_,by kernel_rfl,rfl,by decide⟩,fun κ w vs us v hg hs hd hl ha h=>?_⟩;unfold R9 at h
 split at h
 .rename_i s c;cases h;obtain⟨a,b,rfl⟩:=Uv hl;have h1:=(Gi (Hj rfl (ha 0 (by simp)))).1;have h2:=Er (Hj rfl (ha 1 (by simp)));have h1:a=.string ⟨s.toArray⟩:=h1;have h2:b=.int .u8 c:=h2;subst h1 h2;refine(Tryz.strings_IndexByte ⟨s.toArray⟩ c w).mono ?_;rintro e w' ⟨rfl,rfl⟩;exact Ta hd (fun κ' w'=>C1 (.row .int)) ⟨rfl,Below.refl _ _⟩
 .cases h
def A2l{κ:E0}{w:World}{g:Nat}{m:Int}(h:∀ g r,(g,r)∈G->RepC ⟨κ,[]⟩ w (.imm r 0) (.pointer (some ⟨g,0,none⟩)))(qb:(g,[V.int .i64 m])∈G):w.cell? ⟨g,0,none⟩=some (.int .i64 m):=by
 obtain⟨b,o,k,row,hu,h3,h4,h5,h6⟩:=Mg (h _ _ qb);simp at hu;obtain⟨rfl,rfl⟩:=hu;have a1:=h5 0 (by simp);have a2:=h6 0 (by simp);have a3:=Er (γ:=⟨κ,[]⟩) (.row a2);rw[a3]at a1;exact a1
def A60(s p:List UInt8):(Lib.cut s p).1.length<=s.length/\(Lib.cut s p).2.1.length<=s.length:=by
 unfold Lib.cut
 split<;>simp<;>omega
def Bbs{m:Int}(qb:(0,[V.int .i64 m])∈G):Ir Tryz.prog G 136 Aae:=by
 refine⟨⟨Tryz.f136,_,by kernel_rfl,rfl,by decide⟩,fun κ w vs us v hg hs hd hl ha h=>?_⟩;unfold Aae at h
 split at h
 .rename_i s p
  split at h
  .rename_i qa;cases h;obtain⟨a,b,rfl⟩:=Uv hl;obtain⟨h1,hm⟩:=Gi (Hj rfl (ha 0 (by simp)));have h2:=(Gi (Hj rfl (ha 1 (by simp)))).1;have h1:a=.string ⟨s.toArray⟩:=h1;have h2:b=.string ⟨p.toArray⟩:=h2;subst h1 h2;refine(Tryz.strings_Cut ⟨s.toArray⟩ ⟨p.toArray⟩ m w (by rw[Jt];exact qa) (A2l hg qb)).mono ?_;rintro e w' ⟨rfl,n,rfl⟩;obtain⟨c1,c2⟩:=A60 s p;refine Ta hd (fun κ' w'=>Awo (us:=[.string ⟨(Lib.cut s p).1.toArray⟩,.string ⟨(Lib.cut s p).2.1.toArray⟩,.bool (Lib.cut s p).2.2]) rfl (fun j hj=>?_)) ⟨rfl,⟨rfl,rfl,rfl,Ai _,fun _ _=>rfl⟩⟩
   match j,hj with
   | 0,_=>exact .row (.str (by show(Lib.cut s p).1.length<=_;omega))
   | 1,_=>exact .row (.str (by show(Lib.cut s p).2.1.length<=_;omega))
   | 2,_=>exact .row .bool
  .cases h
 .cases h
def Bf5:Ir Tryz.prog G 150 Xc:=by
 refine⟨⟨Tryz.f150,_,by kernel_rfl,rfl,by decide⟩,fun κ w vs us v hg hs hd hl ha h=>?_⟩;unfold Xc at h
 split at h
 .rename_i s c
  split at h
  .rename_i qa;cases h;obtain⟨a,b,rfl⟩:=Uv hl;obtain⟨h1,hm⟩:=Gi (Hj rfl (ha 0 (by simp)));have h2:=(Gi (Hj rfl (ha 1 (by simp)))).1;have h1:a=.string ⟨s.toArray⟩:=h1;have h2:b=.string ⟨#[c]⟩:=h2;subst h1 h2;refine(Tryz.strings_TrimLeft_one ⟨s.toArray⟩ c qa w).mono ?_;rintro e w' ⟨rfl,rfl⟩;refine Ta hd (fun κ' w'=>C1 (.row (.str ?_))) ⟨rfl,Below.refl _ _⟩;exact Cw (List.dropWhile_sublist _).length_le hm
  .cases h
 .cases h
def Atr{κ:E0}{w:World}{g:Nat}{nm:String}(hn:Tryz.prog.globalNamed nm=some g)(h:∀ g r,(g,r)∈G->RepC ⟨κ,[]⟩ w (.imm r 0) (.pointer (some ⟨g,0,none⟩)))(hs:∀ g r,(g,r)∈G->Eb w g=some r.length)(qb:(g,[V.ifc])∈G):
  ∃ t p,w.var? Tryz.prog nm=some #[.iface t p]:=by
 obtain⟨b,o,k,row,hu,h3,h4,h5,h6⟩:=Mg (h _ _ qb);simp at hu;obtain⟨rfl,rfl⟩:=hu;have a1:=h5 0 (by simp);have a2:=h6 0 (by simp);obtain⟨t,p,a3⟩:=Ahh (γ:=⟨κ,[]⟩) (.row a2);rw[a3]at a1;have h2:=hs _ _ qb;unfold Eb at h2
 split at h2
 .rename_i cs e fz hh;simp only[Xn,Am,C9,E3]at h2;refine⟨t,p,?_⟩;unfold World.var?;rw[hn];simp only[Db,hh];congr 1;apply Array.ext
  .rw[h2];rfl
  .intro i qd qg;obtain rfl:i=0:=by simp at qg;omega
   simp[World.cell?,hh,qd]at a1;simp[a1]
 .cases h2
def Ary:Tryz.prog.globalNamed "strconv.ErrSyntax"=some 7:=by kernel_rfl
def Arz:Tryz.prog.globalNamed "strconv.ErrRange"=some 8:=by kernel_rfl
def Aig{γ:Gh}{w:World}{n:Int}{v:V}{u:Value}(h:RepC γ w v u):RepV γ w (.tup [.int .i64 n,v]) (.tuple #[.int .i64 n,u]):=
 Awo (us:=[.int .i64 n,u]) rfl (fun j hj=>by
  match j,hj with
  | 0,_=>exact .row .int
  | 1,_=>exact h)
def Axu(w:World)(e:TypeId)(t:ByteArray):Below w.heap.size w (Lib.bytesWorld w e t):=by
 unfold Lib.bytesWorld;refine Lib.below_freeze ?_ (p:=⟨w.heap.size,_,none⟩) (Ai _) _;exact(Below.refl _ w).drew.alloc (show w.heap.size<=w.drew.heap.size from Ai _) _
def Bf6{α:Type}{us:List α}(h:3=us.length):∃ a b c,us=[a,b,c]:=by
 match us,h with
 | [a,b,c],_=>exact⟨a,b,c,rfl⟩
def Bf7(h1:(7,[V.ifc])∈G)(h2:(8,[V.ifc])∈G):Ir Tryz.prog G 177 Xd:=by
 refine⟨⟨Tryz.f177,_,by kernel_rfl,rfl,by decide⟩,fun κ w vs us v hg hs hd hl ha h=>?_⟩;unfold Xd at h
 split at h
 .rename_i s
  split at h
  .rename_i qa;obtain⟨a,b,c,rfl⟩:=Bf6 hl;obtain⟨g1,hm⟩:=Gi (Hj rfl (ha 0 (by simp)));have g2:=Er (Hj rfl (ha 1 (by simp)));have g3:=Er (Hj rfl (ha 2 (by simp)));have g1:a=.string ⟨s.toArray⟩:=g1;have g2:b=.int .i64 10:=g2;have g3:c=.int .i64 64:=g3;subst g1 g2 g3
   split at h
   .rename_i n hn;cases h;refine(Tryz.strconv_ParseInt_10_at64_ok ⟨s.toArray⟩ (by rw[Jt];omega) n hn w).mono ?_;rintro e w' ⟨rfl,hw⟩;refine Ta hd (fun κ' w'=>Aig (.row .nili)) ⟨rfl,?_⟩;rcases hw with rfl | ⟨t,rfl⟩
    .exact Below.refl _ _
    .exact Axu w _ t
   .rename_i hn;cases h;obtain⟨t,p,hv⟩:=Atr Ary hg hs h1;refine(Tryz.strconv_ParseInt_10_at64_syntax_var ⟨s.toArray⟩ (by rw[Jt];exact qa) hn t p w hv).mono ?_;rintro e w' ⟨N,rfl,_,_,hb⟩;exact Ta hd (fun κ' w'=>Aig .ifc) ⟨rfl,hb⟩
   .rename_i hn;cases h;obtain⟨t,p,hv⟩:=Atr Arz hg hs h2;refine(Tryz.strconv_ParseInt_10_at64_range_var ⟨s.toArray⟩ (by rw[Jt];exact qa) hn t p w hv).mono ?_;rintro e w' ⟨N,rfl,_,_,hb⟩;exact Ta hd (fun κ' w'=>Aig .ifc) ⟨rfl,hb⟩
  .cases h
 .cases h
open Go Go.RowKit
def kwL:List (List UInt8):=[[118,97,114],[118,111,108,97,116,105,108,101],[109,117,116,101,120],[114,119,108,111,99,107],[99,111,110,100],[102,117,116,117,114,101],[116,104,114,101,97,100],[105,102],[101,108,115,101],[119,104,105,108,101],[108,111,99,107],[114,101,97,100],[119,114,105,116,101],[116,114,97,110,115,97,99,116,105,111,110],[97,116,111,109,105,99],[119,97,105,116],[110,111,116,105,102,121],[110,111,116,105,102,121,97,108,108],[115,112,97,119,110],[106,111,105,110],[115,101,116],[103,101,116]]
def gKw:List V:=kwL.map V.str
def Hv(l:List UInt8):Bool:=kwL.any fun k=>l==k
def Lz(n:Nat):Bool:=(decide (97<=n)&&decide (n<=122))||(decide (65<=n)&&decide (n<=90))
def R6(n:Nat):Bool:=decide (48<=n)&&decide (n<=57)
def Mz(n:Nat):Bool:=Lz n||(R6 n||n==95)
def N3(l:List UInt8)(j:Nat):Bool:=Lz (l.getD j 0).toNat||(decide (0<j)&&((l.getD j 0).toNat==95||R6 (l.getD j 0).toNat))
def Cc(l:List UInt8):Bool:=decide (1<=l.length)&&(decide (l.length<=12)&&(!Hv l&&(List.range l.length).all (N3 l)))
def kwS:List V->Option V
 | [.str l]=>some (.bool (Hv l))
 | _=>none
def A61{l:List UInt8}(h:l.length<1):Cc l=false:=by
 unfold Cc;rw[decide_eq_false (by omega)];rfl
def A62{l:List UInt8}(h:12<l.length):Cc l=false:=by
 unfold Cc;rw[decide_eq_false (show ¬ l.length<=12 by omega)];simp
def A63{l:List UInt8}(h:Hv l=true):Cc l=false:=by
 unfold Cc;rw[h];simp
def Ats{l:List UInt8}(h1:1<=l.length)(h2:l.length<=12)(h3:Hv l=false)(h4:∀ j,j<l.length->N3 l j=true):Cc l=true:=by
 unfold Cc;rw[decide_eq_true h1,decide_eq_true h2,h3,Bp.2 fun j hj=>h4 j (E1.1 hj)];rfl
open Go Go.RowKit
def Ayh{T:Nat->Option AF}{pr:Nat->Option (List V->Option V)}{P:Program}{G:List (Nat × List V)}(hT:∀ f F,T f=some F->F.spec=none->Qi P G f F=true)(hS:∀ f F s,T f=some F->F.spec=some s->Rm P G f s)(qk:∀ f s,pr f=some s->Ir P G f s)
  {f:Nat} {s:List V->Option V} (hf:∃ fn c,P.funcs[f]?=some fn/\fn.body=some c/\fn.name ≠ "runtime.NumGoroutine") (h:∀ vs v,s vs=some v->Fn T pr f vs v):Ir P G f s:=by
 refine⟨hf,fun κ w vs us v hg hs hd hl ha hv=>?_⟩;obtain⟨F,hF,h1,h2,v0,σ0,hE,hb⟩:=h vs v hv
 have hI:Inv G w.heap.size ⟨κ,[]⟩ [] w:=
  { base:=Ai _,len:=rfl,nd:=U3,low:=fun i p h=>by simp at h,obj:=fun i ob p h=>by simp at h,dom:=hd,glob:=hg,
    gsz:=fun g r hm=>And.intro (by
     have:=hs g r hm;unfold Eb at this
     split at this
     .rename_i hh;exact(Array.getElem?_eq_some_iff.1 hh).1
     .cases this) (hs g r hm) }
 refine(Au3 hT hS qk hE us w ⟨κ,[]⟩ w.heap.size hl (fun j hj=>.one (ha j hj)) hI).mono ?_;rintro e w1 ⟨u,γ',rfl,hu,qf,hx,qi,hk⟩;obtain⟨κ2,y1,y2,y3,y4,_⟩:=qf.freeze (Fl σ0 9 v0.refs.eraseDups);exact⟨u,κ2,rfl,Abi qf y2 y4 hb hu [],qi,fun b qa=>(y3 b qa).trans (hk b qa),y1.dom⟩
/-! IsKeyword -/
def Att:AC:=.seq (.reg [] [o 7 (.bin .lss (.t 6) (.k (.int .i64 22)))]) (.seq (.cond (.t 7) [7] (.skip) (.exit 0)) (.seq (.blk 1 (.seq (.reg [8] [o 8 (.ida 22 1 true (.t 5) (.t 6)),o 4 (.mov (.t 8))]) (.seq (.reg [4,9,10] [o 9 (.mov (.t 0)),o 10 (.mov (.t 4)),o 11 (.bin .eql (.t 9) (.t 10))]) (.cond (.t 11) [11] (.seq (.reg [] [o 2 (.mov (.k (.bool true)))]) (.ret)) (.skip))))) (.reg [12] [o 12 (.bin .add (.t 6) (.k (.int .i64 1))),o 6 (.mov (.t 12))])))
def Awp:AF:=⟨1,[.tmp 2],false,.seq (.reg [2] [o 2 (.mov (.k (.bool false)))]) (.seq (.seq (.reg [] [o 5 (.load 22 false (.k (.imm gKw 0))),o 6 (.mov (.k (.int .i64 0)))]) (.blk 0 (.loop [0,5,6] Att))) (.seq (.reg [] [o 2 (.mov (.k (.bool false)))]) (.ret))),none⟩
def tkw(f:Nat):Option AF:=if f=149 then some Awp else none
def Bf8{i:Nat}(h:i<22):(gKw.drop i).take 1=[.str (kwL.getD i [])]:=by
 have hl:i<kwL.length:=h;unfold gKw;rw[<-Aga,Fd hl,Av,Bc hl];rfl
def Bf9(l:List UInt8):Fn tkw (fun _=>none) 149 [.str l] (.bool (Hv l)):=by
 refine Bo (show tkw 149=some _ from rfl) rfl ?_;have qc:gKw.length=22:=rfl;have hd:gKw.take 22=gKw:=rfl;generalize hg:gKw=g at qc hd;simp only[go_sem,Nat.reduceEqDiff,reduceIte,Nat.reduceAdd,Nat.reduceMul,Nat.reduceLeDiff,Int.reduceLT,Int.reduceLE,Int.reduceToNat,Int.reduceAdd,Int.reduceNeg,Int.reduceEq,qc,hd,Ai];refine Bn (fun i=>22 - i) (fun i:Nat=>[(0,.str l),(5,.agg g),(6,.int .i64 i)]) (fun _=>[]) (fun i=>i<=22/\∀ j,j<i->(l==kwL.getD j [])=false) ?_ 0 ⟨by omega,fun j hj=>by omega⟩;rintro i ⟨hi,qh⟩ ih;refine Bl (by delta Att;exact rfl) ?_;rcases Be i 22 with h | h
 .have hk:=Bf8 h;rw[hg]at hk;have qa:decide ((i:Int)<22)=true:=by simp;omega
  have h0:((0:Int)<=i)=True:=eq_true (by omega);have h1:((i:Int)<22)=True:=eq_true (by omega);have h2:(i+1<=22)=True:=eq_true (by omega);simp only[go_sem,Nat.reduceEqDiff,reduceIte,Nat.reduceAdd,Nat.reduceMul,Nat.reduceLeDiff,Int.reduceLT,Int.reduceLE,Int.reduceToNat,Int.reduceAdd,Int.reduceNeg,Int.reduceEq,qa,h0,h1,h2,hk,qc];refine Ov (fun h3=>?_) (fun h3=>?_)
  .simp only[go_sem,Nat.reduceEqDiff,reduceIte,Nat.reduceAdd,Nat.reduceMul,Nat.reduceLeDiff,Int.reduceLT,Int.reduceLE,Int.reduceToNat,Int.reduceAdd,Int.reduceNeg,Int.reduceEq];refine An rfl ?_;unfold Hv;rw[N5.2 ⟨kwL.getD i [],?_,h3⟩];have hl:i<kwL.length:=h;rw[Av,Bc hl];exact Fy hl
  .simp only[go_sem,Nat.reduceEqDiff,reduceIte,Nat.reduceAdd,Nat.reduceMul,Nat.reduceLeDiff,Int.reduceLT,Int.reduceLE,Int.reduceToNat,Int.reduceAdd,Int.reduceNeg,Int.reduceEq,A2 (show i<9223372036854775807 by omega)];refine As (ih (i+1) (by omega) ⟨by omega,fun j hj=>?_⟩) rfl;by_cases e:j=i
   .rw[e];exact h3
   .exact qh j (by omega)
 .have qa:decide ((i:Int)<22)=false:=by simp;omega
  simp only[go_sem,Nat.reduceEqDiff,reduceIte,Nat.reduceAdd,Nat.reduceMul,Nat.reduceLeDiff,Int.reduceLT,Int.reduceLE,Int.reduceToNat,Int.reduceAdd,Int.reduceNeg,Int.reduceEq,qa];refine An rfl ?_
  symm
  congr 1;unfold Hv;rw[<-Xr];intro ha;obtain⟨k,hk,he⟩:=N5.1 ha;obtain⟨j,hj,rfl⟩:=Qq hk;have ql:j<22:=hj;have:=qh j (by omega);rw[Av,Bc hj]at this;exact absurd he (by simpa using this)
def Bjf:Qi Tryz.prog [(1,gKw)] 149 Awp=true:=by
 kernel_rfl
def A2m{P:Program}{G H:List (Nat × List V)}{f:Nat}{s:List V->Option V}(h:∀ p∈G,p∈H)(hp:Ir P G f s):Ir P H f s:=
 ⟨hp.1,fun κ w vs us v hg hs=>hp.2 κ w vs us v (fun g r hm=>hg g r (h _ hm)) fun g r hm=>hs g r (h _ hm)⟩
def Bga{G:List (Nat × List V)}(qb:(1,gKw)∈G):Ir Tryz.prog G 149 kwS:=by
 refine A2m (G:=[(1,gKw)]) (fun p hp=>by rw[Eo.1 hp];exact qb) ?_;refine Ayh (T:=tkw) (pr:=fun _=>none) ?_ ?_ (fun _ _ h=>by cases h) ⟨Tryz.f149,_,by kernel_rfl,rfl,by decide⟩ ?_
 .intro f F h _;unfold tkw at h
  split at h
  .rename_i hf;cases h;subst hf;exact Bjf
  .cases h
 .intro f F s h hs;unfold tkw at h
  split at h
  .cases h;cases hs
  .cases h
 .intro vs v h;unfold kwS at h
  split at h
  .cases h;exact Bf9 _
  .cases h
