/- Functions of strconv and strings, known by what they return (second form). -/
import Derived.Test.YtdbnbejffjhdlaaGreatDoorNr
import Derived.Lib.ItoaLen
import Derived.Lib.Repeat
import Derived.Lib.Split
import Derived.Test.YtdbnbejffjhdlaaGreatDoorProg
import Derived.WalkSpells
import Derived.WalkLawsBesides
import Derived.BigQuiet
import Derived.BigGuardPart
import Derived.Lib.Hide
import Derived.LoopTactic
import Derived.Laws.RangeAny
set_option linter.all false
namespace Go.Proofs.YtdbnbejffjhdlaaGreatDoor.KM
open Go Go.RowKit Go.Sort
def gPow:List V:=Lib.pow10Tab.map fun z=>.int .u64 z
variable {G:List (Nat × List V)}
def A6n:Tryz.prog.globalNamed "internal/strconv.uint64pow10"=some 2:=by kernel_rfl
def Awm{κ:Ez}{w:World}(h:∀ g r,(g,r)∈G->RepC ⟨κ,[]⟩ w (.imm r 0) (.pointer (some ⟨g,0,none⟩)))(hs:∀ g r,(g,r)∈G->El w g=some r.length)(qb:(2,gPow)∈G):
  Lib.TabIs Tryz.prog w "internal/strconv.uint64pow10" .u64 Lib.pow10Tab:=by
 have h1:=h _ _ qb;have h2:=hs _ _ qb;obtain⟨b,o,k,row,hu,h3,h4,h5,h6⟩:=Na h1;simp at hu;obtain⟨rfl,rfl⟩:=hu;unfold El at h2
 split at h2
 .rename_i cs e fz hh;simp only[Pg]at h2;unfold Lib.TabIs World.var?;rw[A6n];simp only[Cy,hh];congr 1;apply Array.ext
  .grind[gPow]
  .intro i qj qk;have qc:i<gPow.length:=by omega
   have a1:=h5 i qc;have a2:=h6 i qc;have ql:i<Lib.pow10Tab.length:=by simpa[gPow] using qc
   rw[show gPow.getD i .und=.int .u64 Lib.pow10Tab[i] by grind[gPow]]at a2;have a3:=Et (γ:=⟨κ,[]⟩) (.row a2)
   grind[World.cell?]
 grind
def R9{κ:Ez}{w w':World}{v:V}{u:Value}{e:Ending}(hd:∀ b k,κ b=some k->b<w.heap.size)(hv:∀ κ' w',RepV ⟨κ',[]⟩ w' v u)(h:e=.returned u/\Below w.heap.size w w'):
  ∃ u κ',e=.returned u/\RepV ⟨κ',[]⟩ w' v u/\Below w.heap.size w w'/\(∀ b,b<w.heap.size->κ' b=κ b)/\∀ b k,κ' b=some k->b<w'.heap.size:=
 ⟨_,κ,h.1,hv κ w',h.2,fun _ _=>rfl,fun b k hk=>Pd (hd b k hk) h.2.size⟩
def Ai8{κ:Ez}{w w':World}{l:List UInt8}{e:Ending}(hd:∀ b k,κ b=some k->b<w.heap.size)(hl:l.length<=maxLen)(h:e=.returned (.string ⟨l.toArray⟩)/\Below w.heap.size w w'):
  ∃ u κ',e=.returned u/\RepV ⟨κ',[]⟩ w' (.str l) u/\Below w.heap.size w w'/\(∀ b,b<w.heap.size->κ' b=κ b)/\∀ b k,κ' b=some k->b<w'.heap.size:=
 ⟨_,κ,h.1,Dd (.row (.str hl)),h.2,fun _ _=>rfl,fun b k hk=>Pd (hd b k hk) h.2.size⟩
theorem Ao0(w:World)(k:Nat)(os:Array Obj):Below w.heap.size w (grow (w.drewN k) os):=
 ⟨rfl,rfl,rfl,by simp_all,fun k hk=>by grind[grow,World.drewN]⟩
/-! numerals, so that they can be run -/
def O6:Nat->Nat->List UInt8
 | 0,_=>[]
 | k+1,u=>if u<10 then [UInt8.ofNat (48+u)] else O6 k (u / 10)++[UInt8.ofNat (48+u % 10)]
theorem Auk:∀ (k u:Nat),u<10 ^ (k+1)->O6 (k+1) u=Lib.decDigits u
 | 0,u,h=>by
  simp_all [Lib.decDigits,O6]
 | k+1,u,h=>by
  rw[Lib.decDigits];unfold O6
  split
  .rfl
  .rw[Auk k (u / 10) AA]
def C0(n:Int):List UInt8:=if n<0 then 45::O6 20 n.natAbs else O6 20 n.toNat
def Arw(n:Int)(h1 : -9223372036854775808<=n)(h2:n<=9223372036854775807):C0 n=Lib.itoa n:=by
 grind[C0,Lib.itoa,Auk]
def P9:List V->Option V
 | [.int .i64 n,.int .i64 10]=>if -9223372036854775808<=n/\n<=9223372036854775807 then some (.str (C0 n)) else none
 | _=>none
def Xq:List V->Option V
 | [.int .i64 n]=>if -9223372036854775808<=n/\n<=9223372036854775807 then some (.str (C0 n)) else none
 | _=>none
def X4:List V->Option V
 | [.str s,.int .i64 c]=>if 0<=c/\c<=9223372036854775807/\s.length*c.toNat<=140737488355328 then some (.str (Lib.repeatL s c.toNat)) else none
 | _=>none
def hpS:List V->Option V
 | [.str s,.str p]=>some (.bool (Lib.hasPrefix s p))
 | _=>none
def Vv{α:Type}{us:List α}(h:2=us.length):∃ a b,us=[a,b]:=by
 match us,h with
 | [a,b],_=>grind
def Azq{α:Type}{us:List α}(h:1=us.length):∃ a,us=[a]:=by
 match us,h with
 | [a],_=>grind
def Bgd(qb:(2,gPow)∈G):Iy Tryz.prog G 72 P9:=by
 refine⟨⟨Tryz.f72,_,by kernel_rfl,rfl,by decide⟩,fun κ w vs us v hg hs hd hl ha h=>?_⟩;unfold P9 at h
 split at h
 .rename_i n
  split at h
  .rename_i hn;cases h;obtain⟨a,b,rfl⟩:=Vv hl;have h1:=Et (Hz rfl (ha 0 AE));have h2:=Et (Hz rfl (ha 1 AE));have h1:a=.int .i64 n:=h1;have h2:b=.int .i64 10:=h2;subst h1 h2;rw[Arw n hn.1 hn.2];refine(Tryz.strconv_FormatInt_10 n hn.1 hn.2 w (Awm hg hs qb)).mono fun e w' hh=>Ai8 hd (by grind[Lib.itoa_length_le,maxLen]) ?_
   obtain⟨h,k,os,rfl⟩:=hh
   grind[Ao0]
  grind
 grind
def Bbc(qb:(2,gPow)∈G):Iy Tryz.prog G 71 Xq:=by
 refine⟨⟨Tryz.f71,_,by kernel_rfl,rfl,by decide⟩,fun κ w vs us v hg hs hd hl ha h=>?_⟩;unfold Xq at h
 split at h
 .rename_i n
  split at h
  .rename_i hn;cases h;obtain⟨a,rfl⟩:=Azq hl;have h1:=Et (Hz rfl (ha 0 AE));have h1:a=.int .i64 n:=h1;subst h1;rw[Arw n hn.1 hn.2];refine(Tryz.strconv_Itoa n hn.1 hn.2 w (Awm hg hs qb)).mono fun e w' hh=>Ai8 hd (by grind[Lib.itoa_length_le,maxLen]) ?_
   obtain⟨h,k,os,rfl⟩:=hh
   grind[Ao0]
  grind
 grind
def Bge:Iy Tryz.prog G 196 X4:=by
 refine⟨⟨Tryz.f196,_,by kernel_rfl,rfl,by decide⟩,fun κ w vs us v hg hs hd hl ha h=>?_⟩;unfold X4 at h
 split at h
 .rename_i s c
  split at h
  .rename_i hc;cases h;obtain⟨a,b,rfl⟩:=Vv hl;have h1:=(G7 (Hz rfl (ha 0 AE))).1;have h2:=Et (Hz rfl (ha 1 AE));have h1:a=.string ⟨s.toArray⟩:=h1;have h2:b=.int .i64 c:=h2;obtain⟨n,rfl⟩:∃ n:Nat,c=n:=⟨c.toNat,by omega⟩;subst h1 h2;have qo:s.length*n<=140737488355328:=by simpa using hc.2.2
   have:=Tryz.strings_Repeat ⟨s.toArray⟩ n w AA (by grind[Mo]);refine this.mono fun e w' hh=>Ai8 hd ?_ (by grind)
   grind[Lib.repeatL_length,maxLen]
  grind
 grind
def Bkj:Iy Tryz.prog G 63 hpS:=by
 refine⟨⟨Tryz.f63,_,by kernel_rfl,rfl,by decide⟩,fun κ w vs us v hg hs hd hl ha h=>?_⟩;unfold hpS at h
 split at h
 .rename_i s p;cases h;obtain⟨a,b,rfl⟩:=Vv hl;have h1:=(G7 (Hz rfl (ha 0 AE))).1;have h2:=(G7 (Hz rfl (ha 1 AE))).1;have h1:a=.string ⟨s.toArray⟩:=h1;have h2:b=.string ⟨p.toArray⟩:=h2;subst h1 h2;refine(Tryz.strings_HasPrefix ⟨s.toArray⟩ ⟨p.toArray⟩ w).mono ?_;rintro e w' ⟨rfl,rfl⟩;exact⟨_,κ,rfl,Dd (.row .bool),Below.refl _ _,fun _ _=>rfl,hd⟩
 grind
def Ags:List V->Option V
 | [.str a,.str b]=>some (.int .i64 (Lib.compareBytes a b))
 | _=>none
def Ts:List V->Option V
 | [.str s,.int .u8 c]=>some (.int .i64 (Lib.indexByte s c.toNat.toUInt8))
 | _=>none
def Abi:List V->Option V
 | [.str s,.str p]=>if s.length<4294967281 then some (.tup [.str (Lib.cut s p).1,.str (Lib.cut s p).2.1,.bool (Lib.cut s p).2.2]) else none
 | _=>none
def Ya:List V->Option V
 | [.str s,.str [c]]=>if c.toNat<128 then some (.str (Lib.trimLeftB s c)) else none
 | _=>none
def Yb:List V->Option V
 | [.str s,.int .i64 10,.int .i64 64]=>if s.length<=281474976710656 then(match Lib.parseIntB 64 s with
  | .ok v=>some (.tup [.int .i64 v,.nili])
  | Lib.NumEnd.syntax=>some (.tup [.int .i64 0,.ifc])
  | .range=>some (.tup [.int .i64 (Lib.intSat 64 s),.ifc])) else none
 | _=>none
def Azr{γ:Gh}{w:World}{vs:List V}{us:List Value}(h1:vs.length=us.length)(h2:∀ j,j<vs.length->RepC γ w (vs.getD j .und) (us.getD j undef)):RepV γ w (.tup vs) (.tuple us.toArray):=
 .tup h1 (fun j hj=>.cell (h2 j hj))
def Bgf:Iy Tryz.prog G 99 Ags:=by
 refine⟨⟨Tryz.f99,_,by kernel_rfl,rfl,by decide⟩,fun κ w vs us v hg hs hd hl ha h=>?_⟩;unfold Ags at h
 split at h
 .rename_i s p;cases h;obtain⟨a,b,rfl⟩:=Vv hl;have h1:=(G7 (Hz rfl (ha 0 AE))).1;have h2:=(G7 (Hz rfl (ha 1 AE))).1;have h1:a=.string ⟨s.toArray⟩:=h1;have h2:b=.string ⟨p.toArray⟩:=h2;subst h1 h2;refine(Tryz.strings_Compare ⟨s.toArray⟩ ⟨p.toArray⟩ w).mono ?_;rintro e w' ⟨rfl,rfl⟩;exact R9 hd (fun κ' w'=>Dd (.row .int)) ⟨rfl,Below.refl _ _⟩
 grind
def Bkk:Iy Tryz.prog G 101 Ts:=by
 refine⟨⟨Tryz.f101,_,by kernel_rfl,rfl,by decide⟩,fun κ w vs us v hg hs hd hl ha h=>?_⟩;unfold Ts at h
 split at h
 .rename_i s c;cases h;obtain⟨a,b,rfl⟩:=Vv hl;have h1:=(G7 (Hz rfl (ha 0 AE))).1;have h2:=Et (Hz rfl (ha 1 AE));have h1:a=.string ⟨s.toArray⟩:=h1;have h2:b=.int .u8 c:=h2;subst h1 h2;refine(Tryz.strings_IndexByte ⟨s.toArray⟩ c w).mono ?_;rintro e w' ⟨rfl,rfl⟩;exact R9 hd (fun κ' w'=>Dd (.row .int)) ⟨rfl,Below.refl _ _⟩
 grind
def A6o{κ:Ez}{w:World}{g:Nat}{m:Int}(h:∀ g r,(g,r)∈G->RepC ⟨κ,[]⟩ w (.imm r 0) (.pointer (some ⟨g,0,none⟩)))(qb:(g,[V.int .i64 m])∈G):w.cell? ⟨g,0,none⟩=some (.int .i64 m):=by
 obtain⟨b,o,k,row,hu,h3,h4,h5,h6⟩:=Na (h _ _ qb);simp at hu;obtain⟨rfl,rfl⟩:=hu;have a1:=h5 0 AE;have a2:=h6 0 AE;have a3:=Et (γ:=⟨κ,[]⟩) (.row a2)
 grind
def Bbd(s p:List UInt8):(Lib.cut s p).1.length<=s.length/\(Lib.cut s p).2.1.length<=s.length:=by
 grind[Lib.cut]
def Bgg{m:Int}(qb:(0,[V.int .i64 m])∈G):Iy Tryz.prog G 127 Abi:=by
 refine⟨⟨Tryz.f127,_,by kernel_rfl,rfl,by decide⟩,fun κ w vs us v hg hs hd hl ha h=>?_⟩;unfold Abi at h
 split at h
 .rename_i s p
  split at h
  .rename_i qc;cases h;obtain⟨a,b,rfl⟩:=Vv hl;obtain⟨h1,hm⟩:=G7 (Hz rfl (ha 0 AE));have h2:=(G7 (Hz rfl (ha 1 AE))).1;have h1:a=.string ⟨s.toArray⟩:=h1;have h2:b=.string ⟨p.toArray⟩:=h2;subst h1 h2;refine(Tryz.strings_Cut ⟨s.toArray⟩ ⟨p.toArray⟩ m w (by grind[Mo]) (A6o hg qb)).mono ?_;rintro e w' ⟨rfl,n,rfl⟩;obtain⟨c1,c2⟩:=Bbd s p;refine R9 hd (fun κ' w'=>Azr (us:=[.string ⟨(Lib.cut s p).1.toArray⟩,.string ⟨(Lib.cut s p).2.1.toArray⟩,.bool (Lib.cut s p).2.2]) rfl (fun j hj=>?_)) ⟨rfl,⟨rfl,rfl,rfl,An _,fun _ _=>rfl⟩⟩
   match j,hj with
   | 0,_=>exact .row (.str AA)
   | 1,_=>exact .row (.str AA)
   | 2,_=>exact .row .bool
  grind
 grind
def Bkl:Iy Tryz.prog G 150 Ya:=by
 refine⟨⟨Tryz.f150,_,by kernel_rfl,rfl,by decide⟩,fun κ w vs us v hg hs hd hl ha h=>?_⟩;unfold Ya at h
 split at h
 .rename_i s c
  split at h
  .rename_i qc;cases h;obtain⟨a,b,rfl⟩:=Vv hl;obtain⟨h1,hm⟩:=G7 (Hz rfl (ha 0 AE));have h2:=(G7 (Hz rfl (ha 1 AE))).1;have h1:a=.string ⟨s.toArray⟩:=h1;have h2:b=.string ⟨#[c]⟩:=h2;subst h1 h2;refine(Tryz.strings_TrimLeft_one ⟨s.toArray⟩ c qc w).mono ?_;rintro e w' ⟨rfl,rfl⟩;refine R9 hd (fun κ' w'=>Dd (.row (.str ?_))) ⟨rfl,Below.refl _ _⟩;exact Dc (List.dropWhile_sublist _).length_le hm
  grind
 grind
def Awn{κ:Ez}{w:World}{g:Nat}{nm:String}(hn:Tryz.prog.globalNamed nm=some g)(h:∀ g r,(g,r)∈G->RepC ⟨κ,[]⟩ w (.imm r 0) (.pointer (some ⟨g,0,none⟩)))(hs:∀ g r,(g,r)∈G->El w g=some r.length)(qb:(g,[V.ifc])∈G):
  ∃ t p,w.var? Tryz.prog nm=some #[.iface t p]:=by
 obtain⟨b,o,k,row,hu,h3,h4,h5,h6⟩:=Na (h _ _ qb);simp at hu;obtain⟨rfl,rfl⟩:=hu;have a1:=h5 0 AE;have a2:=h6 0 AE;obtain⟨t,p,a3⟩:=Ai1 (γ:=⟨κ,[]⟩) (.row a2);rw[a3]at a1;have h2:=hs _ _ qb;unfold El at h2
 split at h2
 .rename_i cs e fz hh;simp only[Pg,Bg,Dq,F9]at h2;refine⟨t,p,?_⟩;unfold World.var?;rw[hn];simp only[Cy,hh];congr 1;apply Array.ext
  .omega
  .intro i qj qk;obtain rfl:i=0:=by omega
   grind[World.cell?]
 grind
def Aul:Tryz.prog.globalNamed "strconv.ErrSyntax"=some 7:=by kernel_rfl
def Aum:Tryz.prog.globalNamed "strconv.ErrRange"=some 8:=by kernel_rfl
def Aj2{γ:Gh}{w:World}{n:Int}{v:V}{u:Value}(h:RepC γ w v u):RepV γ w (.tup [.int .i64 n,v]) (.tuple #[.int .i64 n,u]):=
 Azr (us:=[.int .i64 n,u]) rfl (fun j hj=>by
  match j,hj with
  | 0,_=>exact .row .int
  | 1,_=>exact h)
theorem A02(w:World)(e:TypeId)(t:ByteArray):Below w.heap.size w (Lib.bytesWorld w e t):=by
 unfold Lib.bytesWorld;refine Lib.below_freeze ?_ (p:=⟨w.heap.size,_,none⟩) (An _) _;exact(Below.refl _ w).drew.alloc (show w.heap.size<=w.drew.heap.size from An _) _
def Bkm{α:Type}{us:List α}(h:3=us.length):∃ a b c,us=[a,b,c]:=by
 match us,h with
 | [a,b,c],_=>grind
def Bkn(h1:(7,[V.ifc])∈G)(h2:(8,[V.ifc])∈G):Iy Tryz.prog G 181 Yb:=by
 refine⟨⟨Tryz.f181,_,by kernel_rfl,rfl,by decide⟩,fun κ w vs us v hg hs hd hl ha h=>?_⟩;unfold Yb at h
 split at h
 .rename_i s
  split at h
  .rename_i qc;obtain⟨a,b,c,rfl⟩:=Bkm hl;obtain⟨g1,hm⟩:=G7 (Hz rfl (ha 0 AE));have g2:=Et (Hz rfl (ha 1 AE));have g3:=Et (Hz rfl (ha 2 AE));have g1:a=.string ⟨s.toArray⟩:=g1;have g2:b=.int .i64 10:=g2;have g3:c=.int .i64 64:=g3;subst g1 g2 g3
   split at h
   .rename_i n hn;cases h;refine(Tryz.strconv_ParseInt_10_at64_ok ⟨s.toArray⟩ (by grind[Mo]) n hn w).mono ?_;rintro e w' ⟨rfl,hw⟩;refine R9 hd (fun κ' w'=>Aj2 (.row .nili)) ⟨rfl,?_⟩;rcases hw with rfl | ⟨t,rfl⟩
    .grind[Below.refl]
    grind[A02]
   .rename_i hn;cases h;obtain⟨t,p,hv⟩:=Awn Aul hg hs h1;refine(Tryz.strconv_ParseInt_10_at64_syntax_var ⟨s.toArray⟩ (by grind[Mo]) hn t p w hv).mono ?_;rintro e w' ⟨N,rfl,_,_,hb⟩;exact R9 hd (fun κ' w'=>Aj2 .ifc) ⟨rfl,hb⟩
   .rename_i hn;cases h;obtain⟨t,p,hv⟩:=Awn Aum hg hs h2;refine(Tryz.strconv_ParseInt_10_at64_range_var ⟨s.toArray⟩ (by grind[Mo]) hn t p w hv).mono ?_;rintro e w' ⟨N,rfl,_,_,hb⟩;exact R9 hd (fun κ' w'=>Aj2 .ifc) ⟨rfl,hb⟩
  grind
 grind
open Go Go.RowKit
def kwL:List (List UInt8):=[[118,97,114],[118,111,108,97,116,105,108,101],[109,117,116,101,120],[114,119,108,111,99,107],[99,111,110,100],[102,117,116,117,114,101],[116,104,114,101,97,100],[105,102],[101,108,115,101],[119,104,105,108,101],[108,111,99,107],[114,101,97,100],[119,114,105,116,101],[116,114,97,110,115,97,99,116,105,111,110],[97,116,111,109,105,99],[119,97,105,116],[110,111,116,105,102,121],[110,111,116,105,102,121,97,108,108],[115,112,97,119,110],[106,111,105,110],[115,101,116],[103,101,116]]
def gKw:List V:=kwL.map V.str
def Hx(l:List UInt8):Bool:=kwL.any fun k=>l==k
def Md(n:Nat):Bool:=(decide (97<=n)&&decide (n<=122))||(decide (65<=n)&&decide (n<=90))
def Rk(n:Nat):Bool:=decide (48<=n)&&decide (n<=57)
def Nx(n:Nat):Bool:=Md n||(Rk n||n==95)
def Jx(l:List UInt8)(j:Nat):Bool:=Md (l.getD j 0).toNat||(decide (0<j)&&((l.getD j 0).toNat==95||Rk (l.getD j 0).toNat))
def B0(l:List UInt8):Bool:=decide (1<=l.length)&&(decide (l.length<=12)&&(!Hx l&&(List.range l.length).all (Jx l)))
def Af3:List V->Option V
 | [.str l]=>some (.bool (B0 l))
 | _=>none
def kwS:List V->Option V
 | [.str l]=>some (.bool (Hx l))
 | _=>none
theorem Aun{l:List UInt8}(h:l.length<1):B0 l=false:=by
 grind[B0]
theorem Auo{l:List UInt8}(h:12<l.length):B0 l=false:=by
 grind[B0]
def Aup{l:List UInt8}(h:Hx l=true):B0 l=false:=by
 grind[B0]
def Bbe{l:List UInt8}{j:Nat}(hj:j<l.length)(h:Jx l j=false):B0 l=false:=by
 unfold B0
 grind
def Ak0{l:List UInt8}(h1:1<=l.length)(h2:l.length<=12)(h3:Hx l=false)(h4:∀ j,j<l.length->Jx l j=true):B0 l=true:=by
 grind[B0]
def Zc{a b:Bool}(h:a=b):Ending.returned (.bool a)=.returned (.bool b):=by rw[h]
def Auq(s:ByteArray)(i:Nat)(h:i<s.size):s[i]=s.data.toList.getD i 0:=by
 simp_all [ByteArray.getElem_eq_getElem_data]
def Ane(d:Int)(qa:Nat):Prop:=(97<=d/\d<=122)\/(65<=d/\d<=90)\/(0<qa/\(d=95\/(48<=d/\d<=57)))
def Aur(l:List UInt8)(j:Nat):Jx l j=true↔Ane ((l.getD j 0).toNat:Int) j:=by
 unfold Jx Md Rk Ane
 grind
def A6p(s:ByteArray){qa:Nat}(hp:qa<s.size)(h:(97<=((Utf8.decode s qa).1:Int)/\((Utf8.decode s qa).1:Int)<=122)\/(65<=((Utf8.decode s qa).1:Int)/\((Utf8.decode s qa).1:Int)<=90)\/(0<qa/\(((Utf8.decode s qa).1:Int)=95\/(48<=((Utf8.decode s qa).1:Int)/\((Utf8.decode s qa).1:Int)<=57)))):
  (Utf8.decode s qa).2=1/\Jx s.data.toList qa=true:=by
 by_cases ha:(s[qa]'hp).toNat<128
 .rw[decode_ascii s qa hp ha]at h ⊢;refine⟨rfl,(Aur _ _).2 ?_⟩;rw[<-Auq s qa hp];exact h
 grind[decode_high]
def Bbf(s:ByteArray){qa:Nat}(hp:qa<s.size)(h:¬ ((97<=((Utf8.decode s qa).1:Int)/\((Utf8.decode s qa).1:Int)<=122)\/(65<=((Utf8.decode s qa).1:Int)/\((Utf8.decode s qa).1:Int)<=90)\/(0<qa/\(((Utf8.decode s qa).1:Int)=95\/(48<=((Utf8.decode s qa).1:Int)/\((Utf8.decode s qa).1:Int)<=57))))):
  Jx s.data.toList qa=false:=by
 rw[<-V3,Aur,<-Auq s qa hp]
 grind[decode_ascii,Ane]
set_option maxHeartbeats 800000 in
def A3n(s:ByteArray)(w:World)(qg:Calls Tryz.prog 149 #[.string s] w fun e w'=>e=.returned (.bool (Hx s.data.toList))/\Below w.heap.size w w'):
  Calls Tryz.prog 129 #[.string s] w fun e w'=>e=.returned (.bool (B0 s.data.toList))/\Below w.heap.size w w':=by
 have qq:s.data.toList.length=s.size:=rfl;by_cases c1:s.size<1
 .have d1:decide ((s.size:Int)<1)=true:=by simp;omega
  have HN:=Lib.hid (Aun (l:=s.data.toList) AA)
  go_enter Tryz.func129,Tryz.ntmps129
  go_wp2_with fail
  go_ret
  exact⟨Zc HN.out.symm,Below.refl _ _⟩
 have d1:decide ((s.size:Int)<1)=false:=by simp;omega
 by_cases c2:12<s.size
 .have d2:decide ((12:Int)<(s.size:Int))=true:=by simp;omega
  have HN:=Lib.hid (Auo (l:=s.data.toList) AA)
  go_enter Tryz.func129,Tryz.ntmps129
  go_wp2_with fail
  go_ret
  exact⟨Zc HN.out.symm,Below.refl _ _⟩
 have d2:decide ((12:Int)<(s.size:Int))=false:=by simp;omega
 cases c4:Hx s.data.toList;rotate_left
 .have HN:=Lib.hid (Aup c4);rw[c4]at qg
  go_enter Tryz.func129,Tryz.ntmps129
  go_wp2_with (go_at_call 149;refine qg.mono ?_;rintro e w1 ⟨rfl,qe⟩)
  go_ret
  exact⟨Zc HN.out.symm,qe⟩
 .have HY:=Lib.hid (fun h5=>Ak0 (l:=s.data.toList) AA AA c4 h5);rw[c4]at qg
  go_enter Tryz.func129,Tryz.ntmps129
  go_wp2_with (go_at_call 149;refine qg.mono ?_;rintro e w1 ⟨rfl,qe⟩)
  go_loopw [] (fun w'=>∃ qa:Nat,w'=w1.iter s qa/\∀ j,j<qa->Jx s.data.toList j=true) (fun w'=>s.size - w'.iterPos w1.heap.size)
  case atStart=>grind
  case round=>
   obtain⟨qa,rfl,qf⟩:=hrel;have HN:=Lib.hid qf;clear qf;by_cases hp:qa<s.size
   .have qm:∀ ty,(Instr.next (.pointer (some ⟨w1.heap.size,0,none⟩)) true ty).run Tryz.prog (w1.iter s qa)=_:=fun ty=>run_next_any w1 s qa ty hp
    go_wp2_with fail
    all_goals first
     | (go_ret
        exact⟨Zc (Bbe hp (Bbf s hp AA)).symm,qe.alloc qe.size _⟩)
     | (have hg:=A6p s hp AA
        go_roundw
        case rel=>
         refine⟨qa+(Utf8.decode s qa).2,rfl,fun j hj=>?_⟩;by_cases e:j=qa
         .grind
         .exact HN.out j AA
        case measure=>
         simp
         omega)
   .have qm:∀ ty,(Instr.next (.pointer (some ⟨w1.heap.size,0,none⟩)) true ty).run Tryz.prog (w1.iter s qa)=_:=fun ty=>run_next_end w1 s qa ty hp
    go_wp2_with fail
    go_ret
    exact⟨Zc (HY.out fun j hj=>HN.out j AA).symm,qe.alloc qe.size _⟩
open Go Go.RowKit
def A1t{T:Nat->Option AF}{pr:Nat->Option (List V->Option V)}{P:Program}{G:List (Nat × List V)}(hT:∀ f F,T f=some F->F.spec=none->Rn P G f F=true)(hS:∀ f F s,T f=some F->F.spec=some s->S6 P G f s)(qn:∀ f s,pr f=some s->Iy P G f s)
  {f:Nat} {s:List V->Option V} (hf:∃ fn c,P.funcs[f]?=some fn/\fn.body=some c/\fn.name ≠ "runtime.NumGoroutine") (h:∀ vs v,s vs=some v->Fn T pr f vs v):Iy P G f s:=by
 refine⟨hf,fun κ w vs us v hg hs hd hl ha hv=>?_⟩;obtain⟨F,hF,h1,h2,v0,σ0,hE,hb⟩:=h vs v hv
 have hI:Inv G w.heap.size ⟨κ,[]⟩ [] w:=
  { base:=An _,len:=rfl,nd:=V5,low:=fun i p h=>by simp at h,obj:=fun i ob p h=>by simp at h,dom:=hd,glob:=hg,
    gsz:=fun g r hm=>And.intro (by
     have:=hs g r hm;unfold El at this
     split at this
     .rename_i hh;exact(Array.getElem?_eq_some_iff.1 hh).1
     .cases this) (hs g r hm) }
 refine(Ax2 hT hS qn hE us w ⟨κ,[]⟩ w.heap.size hl (fun j hj=>.one (ha j hj)) hI).mono ?_;rintro e w1 ⟨u,γ',rfl,hu,qh,hx,qi,hk⟩;obtain⟨κ2,y1,y2,y3,y4,_⟩:=qh.freeze (Fy σ0 9 v0.refs.eraseDups);exact⟨u,κ2,rfl,Aco qh y2 y4 hb hu [],qi,fun b qc=>(y3 b qc).trans (hk b qc),y1.dom⟩
/-! IsKeyword -/
def Awo:AC:=.seq (.reg [] [o 7 (.bin .lss (.t 6) (.k (.int .i64 22)))]) (.seq (.cond (.t 7) [7] (.skip) (.exit 0)) (.seq (.blk 1 (.seq (.reg [8] [o 8 (.ida 22 1 true (.t 5) (.t 6)),o 4 (.mov (.t 8))]) (.seq (.reg [4,9,10] [o 9 (.mov (.t 0)),o 10 (.mov (.t 4)),o 11 (.bin .eql (.t 9) (.t 10))]) (.cond (.t 11) [11] (.seq (.reg [] [o 2 (.mov (.k (.bool true)))]) (.ret)) (.skip))))) (.reg [12] [o 12 (.bin .add (.t 6) (.k (.int .i64 1))),o 6 (.mov (.t 12))])))
def Azs:AF:=⟨1,[.tmp 2],false,.seq (.reg [2] [o 2 (.mov (.k (.bool false)))]) (.seq (.seq (.reg [] [o 5 (.load 22 false (.k (.imm gKw 0))),o 6 (.mov (.k (.int .i64 0)))]) (.blk 0 (.loop [0,5,6] Awo))) (.seq (.reg [] [o 2 (.mov (.k (.bool false)))]) (.ret))),none⟩
def tkw(f:Nat):Option AF:=if f=149 then some Azs else none
def Bko{i:Nat}(h:i<22):(gKw.drop i).take 1=[.str (kwL.getD i [])]:=by
 have hl:i<kwL.length:=h;unfold gKw;rw[<-Ach,Gr hl,E0,Cd hl];rfl
def Bkp(l:List UInt8):Fn tkw (fun _=>none) 149 [.str l] (.bool (Hx l)):=by
 refine Bc (show tkw 149=some _ from rfl) rfl ?_;have qd:gKw.length=22:=rfl;have hd:gKw.take 22=gKw:=rfl;generalize hg:gKw=g at qd hd;simp only[go_sem,Nat.reduceEqDiff,reduceIte,Nat.reduceAdd,Nat.reduceMul,Nat.reduceLeDiff,Int.reduceLT,Int.reduceLE,Int.reduceToNat,Int.reduceAdd,Int.reduceNeg,Int.reduceEq,qd,hd,An];refine Bh (fun i=>22 - i) (fun i:Nat=>[(0,.str l),(5,.agg g),(6,.int .i64 i)]) (fun _=>[]) (fun i=>i<=22/\∀ j,j<i->(l==kwL.getD j [])=false) ?_ 0 ⟨by omega,fun j hj=>by omega⟩;rintro i ⟨hi,qf⟩ ih;refine Az (by delta Awo;exact rfl) ?_;rcases Bb i 22 with h | h
 .have hk:=Bko h;rw[hg]at hk;have qc:decide ((i:Int)<22)=true:=by simp;omega
  have h0:((0:Int)<=i)=True:=eq_true AA;have h1:((i:Int)<22)=True:=eq_true AA;have h2:(i+1<=22)=True:=eq_true AA;simp only[go_sem,Nat.reduceEqDiff,reduceIte,Nat.reduceAdd,Nat.reduceMul,Nat.reduceLeDiff,Int.reduceLT,Int.reduceLE,Int.reduceToNat,Int.reduceAdd,Int.reduceNeg,Int.reduceEq,qc,h0,h1,h2,hk,qd];refine Le (fun h3=>?_) (fun h3=>?_)
  .simp only[go_sem,Nat.reduceEqDiff,reduceIte,Nat.reduceAdd,Nat.reduceMul,Nat.reduceLeDiff,Int.reduceLT,Int.reduceLE,Int.reduceToNat,Int.reduceAdd,Int.reduceNeg,Int.reduceEq];refine Ae rfl ?_;unfold Hx;rw[Ph.2 ⟨kwL.getD i [],?_,h3⟩];have hl:i<kwL.length:=h;rw[E0,Cd hl];exact N9 hl
  .simp only[go_sem,Nat.reduceEqDiff,reduceIte,Nat.reduceAdd,Nat.reduceMul,Nat.reduceLeDiff,Int.reduceLT,Int.reduceLE,Int.reduceToNat,Int.reduceAdd,Int.reduceNeg,Int.reduceEq,Ay (show i<9223372036854775807 by omega)];refine Am (ih (i+1) AA ⟨by omega,fun j hj=>?_⟩) rfl;by_cases e:j=i
   .rw[e];exact h3
   .exact qf j AA
 .have qc:decide ((i:Int)<22)=false:=by simp;omega
  simp only[go_sem,Nat.reduceEqDiff,reduceIte,Nat.reduceAdd,Nat.reduceMul,Nat.reduceLeDiff,Int.reduceLT,Int.reduceLE,Int.reduceToNat,Int.reduceAdd,Int.reduceNeg,Int.reduceEq,qc];refine Ae rfl ?_
  symm
  congr 1;unfold Hx;rw[<-V3];intro ha;obtain⟨k,hk,he⟩:=Ph.1 ha;obtain⟨j,hj,rfl⟩:=M7 hk;have qp:j<22:=hj;have:=qf j AA;rw[E0,Cd hj]at this;exact absurd he (by simpa using this)
def Boh:Rn Tryz.prog [(1,gKw)] 149 Azs=true:=by
 kernel_rfl
def A6q{P:Program}{G H:List (Nat × List V)}{f:Nat}{s:List V->Option V}(h:∀ p∈G,p∈H)(hp:Iy P G f s):Iy P H f s:=
 ⟨hp.1,fun κ w vs us v hg hs=>hp.2 κ w vs us v (fun g r hm=>hg g r (h _ hm)) fun g r hm=>hs g r (h _ hm)⟩
def Ayi{G:List (Nat × List V)}(qb:(1,gKw)∈G):Iy Tryz.prog G 149 kwS:=by
 refine A6q (G:=[(1,gKw)]) (fun p hp=>by rw[D4.1 hp];exact qb) ?_;refine A1t (T:=tkw) (pr:=fun _=>none) ?_ ?_ (fun _ _ h=>by cases h) ⟨Tryz.f149,_,by kernel_rfl,rfl,by decide⟩ ?_
 .intro f F h _;unfold tkw at h
  split at h
  .rename_i hf;cases h;subst hf;exact Boh
  .cases h
 .intro f F s h hs;unfold tkw at h
  split at h
  .cases h;cases hs
  .cases h
 .intro vs v h;unfold kwS at h
  split at h
  .cases h;exact Bkp _
  .cases h
def Bbg{G:List (Nat × List V)}(qb:(1,gKw)∈G):Iy Tryz.prog G 129 Af3:=by
 obtain⟨-,hk⟩:=Ayi qb;refine⟨⟨Tryz.f129,_,by kernel_rfl,rfl,by decide⟩,fun κ w vs us v hg hs hd hl ha h=>?_⟩;unfold Af3 at h
 split at h
 .rename_i l;cases h;obtain⟨a,rfl⟩:=Azq hl;obtain⟨h1,hm⟩:=G7 (Hz rfl (ha 0 AE));have h1:a=.string ⟨l.toArray⟩:=h1;subst h1;refine(A3n ⟨l.toArray⟩ w ?_).mono fun e w' hh=>R9 hd (fun κ' w'=>Dd (.row .bool)) hh
  refine(hk κ w [.str l] [.string ⟨l.toArray⟩] _ hg hs hd rfl ha rfl).mono ?_;rintro e w1 ⟨u,κ',rfl,hu,hb,-,-⟩;exact⟨by rw[Pi (Bf rfl hu)],hb⟩
 .cases h
