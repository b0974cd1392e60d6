/- Effects in drawn regions, their checks done by themselves; lists. -/
import Derived.Test.YtphikjgngompaaaGreatDoorA5
import Derived.Test.YtphikjgngompaaaGreatDoorProg
import Derived.WalkSpells
import Derived.WalkLawsBesides
import Derived.BigQuiet
import Derived.BigGuardPart
import Derived.Lib.Hide
import Derived.LoopTactic
import Derived.Laws.RangeAny
import Derived.Test.YtphikjgngompaaaGreatDoorKy
import Derived.Lib.SlicesCompact
set_option linter.all false
namespace Go.Proofs.YtphikjgngompaaaGreatDoor.KM
open Go
def AM{p:Prop}(h:p:=by assumption):p:=h
theorem rd1{s:St}{ob k off x:Nat}{cs:List V}{v:V}{e:Env}(q:s[ob]?=some (.row cs k 0 0))(he:e.get x=.ptr ob 0 off)(hc:cs[off]?=some v):Ad (.load 1 true (.t x)) e s=some (v,s):=by
 simp only[Ad,Ac,he,Iz,q];have hl:=(Al.1 hc).1
 rw[if_pos ⟨trivial,by omega⟩,show(cs.drop off).take 1=[v] by
  grind[List.drop_eq_getElem_cons]]
 rfl
def Er{s:St}{ob off x:Nat}{v:V}{e:Env}(he:e.get x=.ptr ob 0 off)(h:∃ cs k,s[ob]?=some (.row cs k 0 0)/\cs[off]?=some v):Ad (.load 1 true (.t x)) e s=some (v,s):=by
 grind[rd1]
def K7{s:St}{off x:Nat}{cs:List V}{v:V}{e:Env}(he:e.get x=.imm cs off)(hc:cs[off]?=some v):Ad (.load 1 true (.t x)) e s=some (v,s):=by
 simp only[Ad,Ac,he,Iz]
 grind[List.drop_eq_getElem_cons,Hr]
def Es{s:St}{ob k x n:Nat}{cs:List V}{e:Env}(q:s[ob]?=some (.row cs k 0 0))(he:e.get x=.ptr ob 0 0)(hn:cs.length=n):Ad (.load n false (.t x)) e s=some (.agg cs,s):=by
 subst hn
 simp_all [Ad,Ac,Iz,Hr]
def Qw{s:St}{x n:Nat}{cs:List V}{e:Env}(he:e.get x=.imm cs 0)(hn:cs.length=n):Ad (.load n false (.t x)) e s=some (.agg cs,s):=by
 subst hn
 simp_all [Ad,Ac,Iz,Hr]
section
variable {T:Nat->Option AF} {pr:Nat->Option (List V->Option V)} {qa:List (List Nat)} {n m:Nat} {e:Env} {σ:St} {fs:Fs} {ls:Ls} {K:Env->St->Fs->Ls->Prop} {i:AI}
def Bc{v:V}{σ1:St}(h:K (e.putO i.dst v) σ1 ((m,σ,σ1)::fs) ls)(h1:Qz qa n m fs:=by repeat (first | exact trivial | refine⟨.inl AK,?_⟩ | refine⟨by rfl,?_⟩ | refine⟨.inr ⟨by rfl,by rfl⟩,?_⟩ | refine⟨.inr ⟨by(first | exact K7 rfl rfl | exact Qw rfl AK | exact Er rfl ⟨_,_,by assumption,by rfl⟩ | exact Er rfl ⟨_,_,Bs AM,by rfl⟩ | exact Es AM rfl AK | exact Es (Bs AM) rfl AK),by(first | exact K7 rfl rfl | exact Qw rfl AK | exact Er rfl ⟨_,_,by assumption,by rfl⟩ | exact Er rfl ⟨_,_,Bs AM,by rfl⟩ | exact Es AM rfl AK | exact Es (Bs AM) rfl AK)⟩,?_⟩))(h2:Q0 qa n m σ σ1 ls:=by repeat (first | exact trivial | refine⟨.inl AK,?_⟩ | refine⟨by rfl,?_⟩ | refine⟨.inr ⟨by rfl,by rfl⟩,?_⟩ | refine⟨.inr ⟨by(first | exact K7 rfl rfl | exact Qw rfl AK | exact Er rfl ⟨_,_,by assumption,by rfl⟩ | exact Er rfl ⟨_,_,Bs AM,by rfl⟩ | exact Es AM rfl AK | exact Es (Bs AM) rfl AK),by(first | exact K7 rfl rfl | exact Qw rfl AK | exact Er rfl ⟨_,_,by assumption,by rfl⟩ | exact Er rfl ⟨_,_,Bs AM,by rfl⟩ | exact Es AM rfl AK | exact Es (Bs AM) rfl AK)⟩,?_⟩)):Mw qa n m i .ef v σ1 e σ fs ls K:=⟨h1,h2,h⟩
def wgR{v:V}{σ1:St}(h:K (e.putO i.dst v) σ fs ((m,fun s=>Ad i.op e s=some (v,s))::ls))(h1:Y6 qa n m (fun s=>Ad i.op e s=some (v,s)) fs:=by repeat (first | exact trivial | refine⟨.inl AK,?_⟩ | refine⟨by rfl,?_⟩ | refine⟨.inr ⟨by rfl,by rfl⟩,?_⟩ | refine⟨.inr ⟨by(first | exact K7 rfl rfl | exact Qw rfl AK | exact Er rfl ⟨_,_,by assumption,by rfl⟩ | exact Er rfl ⟨_,_,Bs AM,by rfl⟩ | exact Es AM rfl AK | exact Es (Bs AM) rfl AK),by(first | exact K7 rfl rfl | exact Qw rfl AK | exact Er rfl ⟨_,_,by assumption,by rfl⟩ | exact Er rfl ⟨_,_,Bs AM,by rfl⟩ | exact Es AM rfl AK | exact Es (Bs AM) rfl AK)⟩,?_⟩)):Mw qa n m i .rd v σ1 e σ fs ls K:=⟨h1,h⟩
def Ia{f:Nat}{vs:List V}{v:V}{σ1:St}(hf:Bx T pr f vs σ v σ1)(h:K (e.putO i.dst v) σ1 ((m,σ,σ1)::fs) ls)(h1:Qz qa n m fs:=by repeat (first | exact trivial | refine⟨.inl AK,?_⟩ | refine⟨by rfl,?_⟩ | refine⟨.inr ⟨by rfl,by rfl⟩,?_⟩ | refine⟨.inr ⟨by(first | exact K7 rfl rfl | exact Qw rfl AK | exact Er rfl ⟨_,_,by assumption,by rfl⟩ | exact Er rfl ⟨_,_,Bs AM,by rfl⟩ | exact Es AM rfl AK | exact Es (Bs AM) rfl AK),by(first | exact K7 rfl rfl | exact Qw rfl AK | exact Er rfl ⟨_,_,by assumption,by rfl⟩ | exact Er rfl ⟨_,_,Bs AM,by rfl⟩ | exact Es AM rfl AK | exact Es (Bs AM) rfl AK)⟩,?_⟩))(h2:Q0 qa n m σ σ1 ls:=by repeat (first | exact trivial | refine⟨.inl AK,?_⟩ | refine⟨by rfl,?_⟩ | refine⟨.inr ⟨by rfl,by rfl⟩,?_⟩ | refine⟨.inr ⟨by(first | exact K7 rfl rfl | exact Qw rfl AK | exact Er rfl ⟨_,_,by assumption,by rfl⟩ | exact Er rfl ⟨_,_,Bs AM,by rfl⟩ | exact Es AM rfl AK | exact Es (Bs AM) rfl AK),by(first | exact K7 rfl rfl | exact Qw rfl AK | exact Er rfl ⟨_,_,by assumption,by rfl⟩ | exact Er rfl ⟨_,_,Bs AM,by rfl⟩ | exact Es AM rfl AK | exact Es (Bs AM) rfl AK)⟩,?_⟩)):Ht T pr qa n m i (.call f vs) e σ fs ls K:=.inr (.inr ⟨v,σ1,.any hf,h1,h2,h⟩)
end
open Go Go.RowKit
def kwL:List (List UInt8):=[[118,97,114],[118,111,108,97,116,105,108,101],[109,117,116,101,120],[114,119,108,111,99,107],[99,111,110,100],[102,117,116,117,114,101],[116,104,114,101,97,100],[105,102],[101,108,115,101],[119,104,105,108,101],[108,111,99,107],[114,101,97,100],[119,114,105,116,101],[116,114,97,110,115,97,99,116,105,111,110],[97,116,111,109,105,99],[119,97,105,116],[110,111,116,105,102,121],[110,111,116,105,102,121,97,108,108],[115,112,97,119,110],[106,111,105,110],[115,101,116],[103,101,116]]
def gKw:List V:=kwL.map V.str
def Gi(l:List UInt8):Bool:=kwL.any fun k=>l==k
def K0(n:Nat):Bool:=(decide (97<=n)&&decide (n<=122))||(decide (65<=n)&&decide (n<=90))
def Mu(n:Nat):Bool:=decide (48<=n)&&decide (n<=57)
def Lv(n:Nat):Bool:=K0 n||(Mu n||n==95)
def I9(l:List UInt8)(j:Nat):Bool:=K0 (l.getD j 0).toNat||(decide (0<j)&&((l.getD j 0).toNat==95||Mu (l.getD j 0).toNat))
def Bm(l:List UInt8):Bool:=decide (1<=l.length)&&(decide (l.length<=12)&&(!Gi l&&(List.range l.length).all (I9 l)))
def Ahd:List V->Option V
 | [.str l]=>some (.bool (Bm l))
 | _=>none
def kwS:List V->Option V
 | [.str l]=>some (.bool (Gi l))
 | _=>none
theorem Awg{l:List UInt8}(h:l.length<1):Bm l=false:=by
 grind[Bm]
theorem Awh{l:List UInt8}(h:12<l.length):Bm l=false:=by
 grind[Bm]
def Awi{l:List UInt8}(h:Gi l=true):Bm l=false:=by
 grind[Bm]
def Bdp{l:List UInt8}{j:Nat}(hj:j<l.length)(h:I9 l j=false):Bm l=false:=by
 unfold Bm
 grind
def Amg{l:List UInt8}(h1:1<=l.length)(h2:l.length<=12)(h3:Gi l=false)(h4:∀ j,j<l.length->I9 l j=true):Bm l=true:=by
 grind[Bm]
def Aah{a b:Bool}(h:a=b):Ending.returned (.bool a)=.returned (.bool b):=by rw[h]
def Awj(s:ByteArray)(i:Nat)(h:i<s.size):s[i]=s.data.toList.getD i 0:=by
 simp_all [ByteArray.getElem_eq_getElem_data]
def Aou(d:Int)(qc:Nat):Prop:=(97<=d/\d<=122)\/(65<=d/\d<=90)\/(0<qc/\(d=95\/(48<=d/\d<=57)))
def Awk(l:List UInt8)(j:Nat):I9 l j=true↔Aou ((l.getD j 0).toNat:Int) j:=by
 unfold I9 K0 Mu Aou
 grind
def A8p(s:ByteArray){qc:Nat}(hp:qc<s.size)(h:(97<=((Utf8.decode s qc).1:Int)/\((Utf8.decode s qc).1:Int)<=122)\/(65<=((Utf8.decode s qc).1:Int)/\((Utf8.decode s qc).1:Int)<=90)\/(0<qc/\(((Utf8.decode s qc).1:Int)=95\/(48<=((Utf8.decode s qc).1:Int)/\((Utf8.decode s qc).1:Int)<=57)))):
  (Utf8.decode s qc).2=1/\I9 s.data.toList qc=true:=by
 by_cases ha:(s[qc]'hp).toNat<128
 .rw[decode_ascii s qc hp ha]at h ⊢;refine⟨rfl,(Awk _ _).2 ?_⟩;rw[<-Awj s qc hp];exact h
 grind[decode_high]
def Bdq(s:ByteArray){qc:Nat}(hp:qc<s.size)(h:¬ ((97<=((Utf8.decode s qc).1:Int)/\((Utf8.decode s qc).1:Int)<=122)\/(65<=((Utf8.decode s qc).1:Int)/\((Utf8.decode s qc).1:Int)<=90)\/(0<qc/\(((Utf8.decode s qc).1:Int)=95\/(48<=((Utf8.decode s qc).1:Int)/\((Utf8.decode s qc).1:Int)<=57))))):
  I9 s.data.toList qc=false:=by
 rw[<-W1,Awk,<-Awj s qc hp]
 grind[decode_ascii,Aou]
set_option maxHeartbeats 800000 in
def A5h(s:ByteArray)(w:World)(qz:Calls Tryz.prog 142 #[.string s] w fun e w'=>e=.returned (.bool (Gi s.data.toList))/\Below w.heap.size w w'):
  Calls Tryz.prog 137 #[.string s] w fun e w'=>e=.returned (.bool (Bm s.data.toList))/\Below w.heap.size w w':=by
 have jx:s.data.toList.length=s.size:=rfl;by_cases c1:s.size<1
 .have d1:decide ((s.size:Int)<1)=true:=by simp;omega
  have HN:=Lib.hid (Awg (l:=s.data.toList) AA)
  go_enter Tryz.func137,Tryz.ntmps137
  go_wp2_with fail
  go_ret
  exact⟨Aah HN.out.symm,Below.refl _ _⟩
 have d1:decide ((s.size:Int)<1)=false:=by simp;omega
 by_cases c2:12<s.size
 .have d2:decide ((12:Int)<(s.size:Int))=true:=by simp;omega
  have HN:=Lib.hid (Awh (l:=s.data.toList) AA)
  go_enter Tryz.func137,Tryz.ntmps137
  go_wp2_with fail
  go_ret
  exact⟨Aah HN.out.symm,Below.refl _ _⟩
 have d2:decide ((12:Int)<(s.size:Int))=false:=by simp;omega
 cases c4:Gi s.data.toList;rotate_left
 .have HN:=Lib.hid (Awi c4);rw[c4]at qz
  go_enter Tryz.func137,Tryz.ntmps137
  go_wp2_with (go_at_call 142;refine qz.mono ?_;rintro e w1 ⟨rfl,qr⟩)
  go_ret
  exact⟨Aah HN.out.symm,qr⟩
 .have HY:=Lib.hid (fun h5=>Amg (l:=s.data.toList) AA AA c4 h5);rw[c4]at qz
  go_enter Tryz.func137,Tryz.ntmps137
  go_wp2_with (go_at_call 142;refine qz.mono ?_;rintro e w1 ⟨rfl,qr⟩)
  go_loopw [] (fun w'=>∃ qc:Nat,w'=w1.iter s qc/\∀ j,j<qc->I9 s.data.toList j=true) (fun w'=>s.size - w'.iterPos w1.heap.size)
  case atStart=>grind
  case round=>
   obtain⟨qc,rfl,qw⟩:=hrel;have HN:=Lib.hid qw;clear qw;by_cases hp:qc<s.size
   .have jl:∀ ty,(Instr.next (.pointer (some ⟨w1.heap.size,0,none⟩)) true ty).run Tryz.prog (w1.iter s qc)=_:=fun ty=>run_next_any w1 s qc ty hp
    go_wp2_with fail
    all_goals first
     | (go_ret
        exact⟨Aah (Bdp hp (Bdq s hp AA)).symm,qr.alloc qr.size _⟩)
     | (have hg:=A8p s hp AA
        go_roundw
        case rel=>
         refine⟨qc+(Utf8.decode s qc).2,rfl,fun j hj=>?_⟩;by_cases e:j=qc
         .grind
         .exact HN.out j AA
        case measure=>
         simp
         omega)
   .have jl:∀ ty,(Instr.next (.pointer (some ⟨w1.heap.size,0,none⟩)) true ty).run Tryz.prog (w1.iter s qc)=_:=fun ty=>run_next_end w1 s qc ty hp
    go_wp2_with fail
    go_ret
    exact⟨Aah (HY.out fun j hj=>HN.out j AA).symm,qr.alloc qr.size _⟩
open Go Go.RowKit
def A3w{T:Nat->Option AF}{pr:Nat->Option (List V->Option V)}{P:Program}{G:List (Nat × List V)}(hT:∀ f F,T f=some F->F.spec=none->Sh P G f F=true)(hS:∀ f F s,T f=some F->F.spec=some s->Rr P G f s)(jn:∀ f s,pr f=some s->Iu P G f s)
  {f:Nat} {s:List V->Option V} (hf:∃ fn c,P.funcs[f]?=some fn/\fn.body=some c/\fn.name ≠ "runtime.NumGoroutine") (h:∀ vs v,s vs=some v->Fn T pr f vs v):Iu P G f s:=by
 refine⟨hf,fun κ w vs us v hg hs hd hl ha hv=>?_⟩;obtain⟨F,hF,h1,h2,v0,σ0,hE,hb⟩:=h vs v hv
 have hI:Inv G w.heap.size ⟨κ,[]⟩ [] w:=
  { base:=Ak _,len:=rfl,nd:=Zo,low:=fun i p h=>by simp at h,obj:=fun i ob p h=>by simp at h,dom:=hd,glob:=hg,
    gsz:=fun g r hm=>And.intro (by
     have:=hs g r hm;unfold El at this
     split at this
     .rename_i hh;exact(Array.getElem?_eq_some_iff.1 hh).1
     .cases this) (hs g r hm) }
 refine(Az4 hT hS jn hE us w ⟨κ,[]⟩ w.heap.size hl (fun j hj=>.one (ha j hj)) hI).mono ?_;rintro e w1 ⟨u,γ',rfl,hu,qO,hx,qZ,hk⟩;obtain⟨κ2,y1,y2,y3,y4,_⟩:=qO.freeze (Fq σ0 9 v0.refs.eraseDups);exact⟨u,κ2,rfl,Adx qO y2 y4 hb hu [],qZ,fun b qi=>(y3 b qi).trans (hk b qi),y1.dom⟩
/-! IsKeyword -/
def Ayk:AC:=.seq (.reg [] [o 7 (.bin .lss (.t 6) (.k (.int .i64 22)))]) (.seq (.cond (.t 7) [7] (.skip) (.exit 0)) (.seq (.blk 1 (.seq (.reg [8] [o 8 (.ida 22 1 true (.t 5) (.t 6)),o 4 (.mov (.t 8))]) (.seq (.reg [4,9,10] [o 9 (.mov (.t 0)),o 10 (.mov (.t 4)),o 11 (.bin .eql (.t 9) (.t 10))]) (.cond (.t 11) [11] (.seq (.reg [] [o 2 (.mov (.k (.bool true)))]) (.ret)) (.skip))))) (.reg [12] [o 12 (.bin .add (.t 6) (.k (.int .i64 1))),o 6 (.mov (.t 12))])))
def A1d:AF:=⟨1,[.tmp 2],false,.seq (.reg [2] [o 2 (.mov (.k (.bool false)))]) (.seq (.seq (.reg [] [o 5 (.load 22 false (.k (.imm gKw 0))),o 6 (.mov (.k (.int .i64 0)))]) (.blk 0 (.loop [0,5,6] Ayk))) (.seq (.reg [] [o 2 (.mov (.k (.bool false)))]) (.ret))),none⟩
def tkw(f:Nat):Option AF:=if f=142 then some A1d else none
def Bn5{i:Nat}(h:i<22):(gKw.drop i).take 1=[.str (kwL.getD i [])]:=by
 have hl:i<kwL.length:=h;unfold gKw;rw[<-Aiz,Hv hl,D3,Ca hl];rfl
def Bn6(l:List UInt8):Fn tkw (fun _=>none) 142 [.str l] (.bool (Gi l)):=by
 refine Bj (show tkw 142=some _ from rfl) rfl ?_;have qf:gKw.length=22:=rfl;have hd:gKw.take 22=gKw:=rfl;generalize hg:gKw=g at qf hd;simp only[go_sem,Nat.reduceEqDiff,reduceIte,Nat.reduceAdd,Nat.reduceMul,Nat.reduceLeDiff,Int.reduceLT,Int.reduceLE,Int.reduceToNat,Int.reduceAdd,Int.reduceNeg,Int.reduceEq,qf,hd,Ak];refine Bk (fun i=>22 - i) (fun i:Nat=>[(0,.str l),(5,.agg g),(6,.int .i64 i)]) (fun _=>[]) (fun i=>i<=22/\∀ j,j<i->(l==kwL.getD j [])=false) ?_ 0 ⟨by omega,fun j hj=>by omega⟩;rintro i ⟨hi,qw⟩ ih;refine Bd (by delta Ayk;exact rfl) ?_;rcases Bh i 22 with h | h
 .have hk:=Bn5 h;rw[hg]at hk;have qi:decide ((i:Int)<22)=true:=by simp;omega
  have h0:((0:Int)<=i)=True:=eq_true AA;have h1:((i:Int)<22)=True:=eq_true AA;have h2:(i+1<=22)=True:=eq_true AA;simp only[go_sem,Nat.reduceEqDiff,reduceIte,Nat.reduceAdd,Nat.reduceMul,Nat.reduceLeDiff,Int.reduceLT,Int.reduceLE,Int.reduceToNat,Int.reduceAdd,Int.reduceNeg,Int.reduceEq,qi,h0,h1,h2,hk,qf];refine Lo (fun h3=>?_) (fun h3=>?_)
  .simp only[go_sem,Nat.reduceEqDiff,reduceIte,Nat.reduceAdd,Nat.reduceMul,Nat.reduceLeDiff,Int.reduceLT,Int.reduceLE,Int.reduceToNat,Int.reduceAdd,Int.reduceNeg,Int.reduceEq];refine Ah rfl ?_;unfold Gi;rw[Ok.2 ⟨kwL.getD i [],?_,h3⟩];have hl:i<kwL.length:=h;rw[D3,Ca hl];exact Nl hl
  .simp only[go_sem,Nat.reduceEqDiff,reduceIte,Nat.reduceAdd,Nat.reduceMul,Nat.reduceLeDiff,Int.reduceLT,Int.reduceLE,Int.reduceToNat,Int.reduceAdd,Int.reduceNeg,Int.reduceEq,A1 (show i<9223372036854775807 by omega)];refine Aq (ih (i+1) AA ⟨by omega,fun j hj=>?_⟩) rfl;by_cases e:j=i
   .rw[e];exact h3
   .exact qw j AA
 .have qi:decide ((i:Int)<22)=false:=by simp;omega
  simp only[go_sem,Nat.reduceEqDiff,reduceIte,Nat.reduceAdd,Nat.reduceMul,Nat.reduceLeDiff,Int.reduceLT,Int.reduceLE,Int.reduceToNat,Int.reduceAdd,Int.reduceNeg,Int.reduceEq,qi];refine Ah rfl ?_
  symm
  congr 1;unfold Gi;rw[<-W1];intro ha;obtain⟨k,hk,he⟩:=Ok.1 ha;obtain⟨j,hj,rfl⟩:=Pw hk;have jq:j<22:=hj;have:=qw j AA;rw[D3,Ca hj]at this;exact absurd he (by simpa using this)
def Brh:Sh Tryz.prog [(1,gKw)] 142 A1d=true:=by
 kernel_rfl
def A8q{P:Program}{G H:List (Nat × List V)}{f:Nat}{s:List V->Option V}(h:∀ p∈G,p∈H)(hp:Iu P G f s):Iu P H f s:=
 ⟨hp.1,fun κ w vs us v hg hs=>hp.2 κ w vs us v (fun g r hm=>hg g r (h _ hm)) fun g r hm=>hs g r (h _ hm)⟩
def A0d{G:List (Nat × List V)}(qs:(1,gKw)∈G):Iu Tryz.prog G 142 kwS:=by
 refine A8q (G:=[(1,gKw)]) (fun p hp=>by rw[F5.1 hp];exact qs) ?_;refine A3w (T:=tkw) (pr:=fun _=>none) ?_ ?_ (fun _ _ h=>by cases h) ⟨Tryz.f142,_,by kernel_rfl,rfl,by decide⟩ ?_
 .intro f F h _;unfold tkw at h
  split at h
  .rename_i hf;cases h;subst hf;exact Brh
  .cases h
 .intro f F s h hs;unfold tkw at h
  split at h
  .cases h;cases hs
  .cases h
 .intro vs v h;unfold kwS at h
  split at h
  .cases h;exact Bn6 _
  .cases h
def Bdr{G:List (Nat × List V)}(qs:(1,gKw)∈G):Iu Tryz.prog G 137 Ahd:=by
 obtain⟨-,hk⟩:=A0d qs;refine⟨⟨Tryz.f137,_,by kernel_rfl,rfl,by decide⟩,fun κ w vs us v hg hs hd hl ha h=>?_⟩;unfold Ahd at h
 split at h
 .rename_i l;cases h;obtain⟨a,rfl⟩:=A1b hl;obtain⟨h1,hm⟩:=G0 (Hx rfl (ha 0 AE));have h1:a=.string ⟨l.toArray⟩:=h1;subst h1;refine(A5h ⟨l.toArray⟩ w ?_).mono fun e w' hh=>S0 hd (fun κ' w'=>C0 (.row .bool)) hh
  refine(hk κ w [.str l] [.string ⟨l.toArray⟩] _ hg hs hd rfl ha rfl).mono ?_;rintro e w1 ⟨u,κ',rfl,hu,hb,-,-⟩;exact⟨by rw[Py (Ba rfl hu)],hb⟩
 .cases h
variable {T:Nat->Option AF} {pr:Nat->Option (List V->Option V)}
inductive LXt (qa:List (List Nat)) (n:Nat):List Nat->List Nat->Prop
 | nil {qb:List Nat}:qb.length=n->LXt qa n qb []
 | cons {qb:List Nat} {i:Nat} {L:List Nat}:i<n->i ∉ qb->(∀ d∈qa.getD i [],d∈qb)->LXt qa n (i::qb) L->LXt qa n qb (i::L)
theorem Ayl{qa:List (List Nat)}{n:Nat}(hn:qa.length=n)(qG:∀ j,j<n->∀ d∈qa.getD j [],d<j):∀ (fuel t:Nat) (qb:List Nat),qb.length+fuel=n->qb.Nodup->(∀ i∈qb,i<n)->LXt qa n qb (O9 qa fuel t qb)
 | 0,t,qb,hl,_,_=>.nil AA
 | fuel+1,t,qb,hl,hnd,qi=>by
  have qy:∃ j,j<n/\j ∉ qb/\∀ d∈qa.getD j [],d∈qb:=by
   have jc:∃ j,j<n/\j ∉ qb:=by
    rcases Classical.em (∃ j,j<n/\j ∉ qb) with h | h
    .exact h
    .exfalso;have qq:∀ j,j<n->j∈qb:=fun j hj=>Classical.byContradiction fun hc=>h ⟨j,hj,hc⟩
     have h1:=Ad4 n qb qq;omega
   have:∀ k,∀ j,j<=k->j<n->j ∉ qb->∃ j,j<n/\j ∉ qb/\∀ d∈qa.getD j [],d∈qb:=by
    intro k
    induction k with
    | zero=>
     grind
    | succ k ih=>
     grind
   obtain⟨j,h1,h2⟩:=jc;exact this j j (Ak _) h1 h2
  unfold O9;generalize qS:(List.range qa.length).filter (M8 qa qb)=rs
  have qx:0<rs.length:=by
   obtain⟨j,h1,h2,h3⟩:=qy
   have:j∈rs:=by
    rw[<-qS,Ol];refine⟨by grind,?_⟩;simp only[M8,Ai,Q6,Bw];refine⟨?_,fun d hd=>Zs.2 (h3 d hd)⟩
    cases hel:qb.elem j with
    | false=>rfl
    | true=>grind
   exact List.length_pos_of_mem this
  have qn:rs[t % rs.length]?=some (rs[t % rs.length]'(Ov _ qx)):=Ca _;generalize rs[t % rs.length]'(Ov _ qx)=i at qn;rw[qn];have qs:i∈rs:=Gx qn;rw[<-qS,Ol]at qs;obtain⟨qR,qk⟩:=qs;have hi:i<n:=by rw[Ed,hn]at qR;exact qR
  simp only[M8,Ai,Q6,Bw]at qk;have qv:i ∉ qb:=fun h=>by grind
  have qm:∀ d∈qa.getD i [],d∈qb:=fun d hd=>Zs.1 (qk.2 d hd)
  exact .cons hi qv qm (Ayl hn qG fuel _ (i::qb) (by grind) (Ait.2 ⟨qv,hnd⟩) (fun j hj=>by
   grind))
section
variable {qa:List (List Nat)} {ops:List AI} {e e1:Env} {σ σ1:St} {qt:Nat->Env} {st:Nat->St} {val:Nat->V} {ro:Nat->Option (St->Prop)}
def Ath(ql:StaP qa ops)(q:Sr T pr qa ops.length 0 ops e σ [] [] e1 σ1 qt st val ro):∀ (L qb:List Nat) (E:Env) (S':St),LXt qa ops.length qb L->qb.Nodup->(∀ i∈qb,i<ops.length)->DC qa qb ->
  EnvOK ops val e (·∈qb) E->Y5 ops ro st qb S'->∃ E',Ev T pr (.ops (D4 ops L) E S' E' σ1)/\∀ m,E'.get m=e1.get m
 | [],qb,E,S',.nil hl,hn,qi,hdc,hE,⟨m,hm,hS,heff⟩=>by
  have qu:∀ j,j<ops.length->j∈qb:=fun j hj=>Ayc hn qi AA hj
  refine⟨E,?_,fun k=>?_⟩
  .have qT:S'=σ1:=by
    rw[hS,<-q.s1,Gd];obtain⟨d,hd⟩:∃ d,m+d=ops.length:=⟨ops.length - m,by omega⟩;rw[<-hd];refine(Ox q id d m AA (fun k h1 h2 he=>?_)).symm;have:=(heff k he).2 (qu k AA);omega
   rw[qT];exact .opsNil
  .have ht:=Z2 q ops.length (Ak _);have qP:=q.e1;rw[Gd]at qP;rw[<-qP];exact hE.same ht (fun j hj=>⟨fun h=>qi j h,fun h=>qu j h⟩)
 | i::L,qb,E,S',.cons hi qv qm hL,hn,qi,hdc,hE,⟨m,hm,hS,heff⟩=>by
  obtain⟨x,hx⟩:∃ x,ops[i]?=some x:=⟨ops[i],Ca hi⟩
  have qW:∀ j y,i<j->ops[j]?=some y->j∈qb->Ny x y=true:=fun j y qI hy hj=>by
   rcases ql.pair i j x y qI hx hy with h | h
   .grind[Tb]
   omega
  have jb:∀ j y,j<i->ops[j]?=some y->j ∉ qb->Ny y x=true:=fun j y qI hy hj=>by
   rcases ql.pair j i y x qI hy hx with h | h
   .grind[Aed]
   omega
  have qh:∀ {j t:Nat},Pd ops j=some t->∃ y,ops[j]?=some y/\y.dst=some t:=fun {j t} h=>by
   unfold Pd at h
   grind
  have qj:Agree (qt i) E x.rd:=fun t ht=>by
   refine(Z2 q i AA).same hE (fun j hj=>?_);obtain⟨y,hy,jp⟩:=qh hj;constructor
   .intro qo;rcases Classical.em (j∈qb) with h | h
    .exact h
    .have:=jb j y qo hy h
     simp_all [Ny]
   .intro je;rcases Zk j i with h | h | h
    .exact h
    .grind
    .have:=qW j y h hy je
     simp_all [Ny]
  obtain⟨qH,qd⟩:=q.stp i x hx;simp only[Gd]at qH qd
  have qX:EnvOK ops val e (·∈i::qb) (E.putO x.dst (val i)):=(hE.put hx (fun j t hj jy jf=>by
   obtain⟨y,hy,jp⟩:=qh jf;rcases Zk j i with h | h | h
   .exact h
   .grind
   .have:=qW j y h hy hj
    simp_all [Ny])).iff (fun j=>by grind)
  have qF:DC qa (i::qb):=fun j hj d hd=>by
   rcases Bp.1 hj with rfl | hj
   .grind
   .exact Ci _ (hdc j hj d hd)
  have next:∀ S2,Y5 ops ro st (i::qb) S2->Sg T pr x E S' (val i) S2->∃ E',Ev T pr (.ops (D4 ops (i::L)) E S' E' σ1)/\∀ m,E'.get m=e1.get m:=fun S2 qD qU=>by
   obtain⟨E',h1,h2⟩:=Ath ql q L (i::qb) _ S2 hL (Ait.2 ⟨qv,hn⟩) (fun j hj=>by
    grind) qF qX qD
   refine⟨E',?_,h2⟩
   have:D4 ops (i::L)=x::D4 ops L:=by
    unfold D4;rw[Nj,hx]
   rw[this];exact qU.ev h1
  have hb:=Aye ql.dep
  cases hro:ro i with
  | none=>
   rw[hro]at qd;have qd:Sg T pr x (qt i) (st i) (val i) (st (i+1)):=qd
   have qQ:∀ k,Y0 ops ro k->(k∈qb↔k<i):=fun k ⟨qJ,jg⟩=>by
    constructor
    .intro hk;rcases Zk k i with h | h | h
     .exact h
     .grind
     .have:=q.d0 i k h qJ (by grind) (by grind);simp only[Gd]at this
      grind[Tb]
    .intro hk;have:=q.d0 k i hk hi (by grind) (by grind);simp only[Gd]at this
     grind[Aed]
   have qY:S'=st i:=by
    rw[hS];rcases Ai3 m i with qp | qp
    .obtain⟨d,rfl⟩:=Uz qp
     exact(Ox q id d m AA (fun k a1 a2 he=>by
      grind)).symm
    .obtain⟨d,rfl⟩:=Uz qp
     exact Ox q id d i AA (fun k a1 a2 he=>by
      grind)
   rw[qY]at next ⊢
   refine next (st (i+1)) ⟨i+1,by omega,rfl,fun k he=>?_⟩ (qd.move qj)
   grind
  | some R=>
   rw[hro]at qd;obtain⟨jt,ju,jh⟩:st (i+1)=st i/\R (st i)/\∀ s',R s'->Sg T pr x (qt i) s' (val i) s':=qd
   have qD:Y5 ops ro st (i::qb) S':=⟨m,hm,hS,fun k he=>by
    rw[heff k he,Bp];constructor
    .grind
    .rintro(rfl | h)
     .rw[he.2]at hro;cases hro
     omega⟩
   refine next S' qD ((jh S' ?_).move qj)
   have qK:∀ k,Y0 ops ro k->(k∈qb/\i<k\/k ∉ qb/\k<i)->R (st (k+1))=R (st k):=fun k ⟨qJ,jg⟩ hk=>by
    have hd:=q.d1 i k R hi qJ (by grind) (by grind);simp only[Gd]at hd
    grind[Tb]
   rw[hS];rcases Ai3 m i with qp | qp
   .obtain⟨d,rfl⟩:=Uz qp
    have:=Ox q R d m AA (fun k a1 a2 he=>qK k he (.inr ⟨fun jv=>by
     grind,a2⟩))
    grind
   .obtain⟨d,rfl⟩:=Uz qp
    have:=Ox q R d i AA (fun k a1 a2 he=>by
     grind)
    grind
def A8r(ql:Pf qa ops=true)(h:TG T pr qa ops.length 0 ops e σ [] [] e1 σ1){L:List Nat}(hL:LXt qa ops.length [] L):∃ E',Ev T pr (.ops (D4 ops L) e σ E' σ1)/\∀ m,E'.get m=e1.get m:=by
 obtain⟨qt,st,val,ro,q⟩:=h.sr;exact Ath (Av4 ql) q L [] e σ hL Zo (fun i hi=>by cases hi) (fun j hj=>by cases hj) (fun t=>.inr ⟨(fun j hj=>by cases hj),rfl⟩) ⟨0,Ax _,q.s0.symm,fun j _=>by simp⟩
end
def Za(L:List Nat)(a b:Nat):Prop:=∀ L1 L2,L=L1++b::L2->a∈L1
def Bjc{L:List Nat}{a b:Nat}(qE:a≠b):Za L a b\/Za L b a:=by
 rcases Classical.em (Za L a b) with h | h
 .grind
 .refine .inr ?_;unfold Za at h;obtain⟨L1,h⟩:=Classical.not_forall.1 h;obtain⟨L2,h⟩:=Classical.not_forall.1 h;obtain⟨h1,h2⟩:=Classical.not_imp.1 h;intro M1 M2 h3;rw[h1]at h3;rcases List.append_eq_append_iff.1 h3 with⟨c,rfl,h4⟩ | ⟨c,rfl,h4⟩
  .cases c with
   | nil=>grind
   | cons x c=>grind
  .cases c with
   | nil=>grind
   | cons x c=>grind
def DR(T:Nat->Option AF)(pr:Nat->Option (List V->Option V))(qa:List (List Nat))(X:List (Nat × Nat))(ops:List AI)(e:Env)(σ:St)(e1:Env)(σ1:St):Prop:=
 ∀ L,LXt qa ops.length [] L->(∀ p∈X,Za L p.1 p.2)->∃ E',Ev T pr (.ops (D4 ops L) e σ E' σ1)/\∀ m,E'.get m=e1.get m
section
variable {qa:List (List Nat)} {ops:List AI} {e e1:Env} {σ σ1:St} {X:List (Nat × Nat)}
def A8s(a b:Nat)(qE:a≠b)(h1:DR T pr qa ((a,b)::X) ops e σ e1 σ1)(h2:DR T pr qa ((b,a)::X) ops e σ e1 σ1):DR T pr qa X ops e σ e1 σ1:=fun L hL hX=>by
 rcases Bjc (L:=L) qE with h | h
 .exact h1 L hL fun p hp=>by
   grind
 .exact h2 L hL fun p hp=>by
   grind
def Pr(P:List Nat)(i:Nat):Nat:=P.idxOf i
def Ahe(qa qe:List (List Nat))(X:List (Nat × Nat))(n:Nat)(P:List Nat):Bool:=
 P.length==n&&((List.range n).all fun i=>P[Pr P i]?==some i&&decide (Pr P i<n)&&((qe.getD (Pr P i) []).all fun d'=>((qa.getD i []).any fun d=>Pr P d==d')||X.any fun p=>p.2==i&&Pr P p.1==d'))
def Ati{P:List Nat}{ops qg:List AI}(ho:D4 ops P=qg)(qf:qg.length=P.length)(hP:∀ i∈P,i<ops.length):∀ L:List Nat,(∀ i∈L,P[Pr P i]?=some i)->D4 qg (L.map (Pr P))=D4 ops L
 | [],_=>rfl
 | i::L,h=>by
  have ih:=Ati ho qf hP L fun j hj=>h j (Ci _ hj)
  have hi:=h i B7
  have qB:∀ (P:List Nat) (k:Nat) (i:Nat),(∀ i∈P,i<ops.length)->P[k]?=some i->(D4 ops P)[k]?=ops[i]?:=by
   intro P
   induction P with
   | nil=>grind
   | cons p P ihP=>
    grind[D4]
  grind[D4]
def Awl(P:List Nat)(qe:List (List Nat))(qg:List AI)(ho:D4 ops P=qg)(qf:qg.length=ops.length)(hp:Ahe qa qe X ops.length P=true)(ql:Pf qe qg=true){e2:Env}(h:TG T pr qe qg.length 0 qg e σ [] [] e2 σ1)(he:∀ m,e2.get m=e1.get m):DR T pr qa X ops e σ e1 σ1:=by
 intro L hL hX;unfold Ahe at hp;simp only[Ai,beq_iff_eq,Bw,Ed,decide_eq_true_eq,Nm,Ok]at hp;obtain⟨jw,qA⟩:=hp
 have jd:∀ i j,i<ops.length->j<ops.length->Pr P i=Pr P j->i=j:=fun i j hi hj h=>by
  grind
 have qM:∀ L qb,LXt qa ops.length qb L->(∀ i∈qb,i<ops.length)->(∀ p∈X,Za (qb.reverse++L) p.1 p.2)->LXt qe ops.length (qb.map (Pr P)) (L.map (Pr P))/\∀ i∈L,i<ops.length:=by
  intro L
  induction L with
  | nil=>
   intro qb hl _ _
   cases hl with
   | nil hl=>exact⟨.nil (by grind),by simp⟩
  | cons i L ih=>
   intro qb hl qi hB
   cases hl with
   | cons hi qv hd hl=>
    have qo:∀ j∈i::qb,j<ops.length:=fun j hj=>by
     grind
    obtain⟨g1,g2⟩:=ih (i::qb) hl qo (by grind)
    refine⟨.cons (qA i hi).1.2 (fun hm=>?_) (fun d' ja=>?_) (by grind),fun j hj=>by
     grind⟩
    .grind
    .rcases(qA i hi).2 d' ja with⟨d,h1,h2⟩ | ⟨p,h1,h2,h3⟩
     .grind
     .have:=hB p h1 qb.reverse L (by rw[h2])
      grind
 obtain⟨g1,g2⟩:=qM L [] hL (fun i hi=>by cases hi) (by grind);rw[<-qf]at g1;obtain⟨E',h1,h2⟩:=A8r ql h g1;refine⟨E',?_,fun m=>(h2 m).trans (he m)⟩
 have qC:∀ i∈P,i<ops.length:=by
  have qq:∀ i,i<ops.length->i∈P:=fun i hi=>Gx (qA i hi).1.1
  intro i hi;rcases Bh i ops.length with h | h
  .exact h
  .exfalso;have h1:=Ad4 ops.length (P.erase i) (fun j hj=>(List.mem_erase_of_ne AA).2 (qq j hj))
   grind
 rw[Ati ho AA qC L (fun i hi=>(qA i (g2 i hi)).1.1)]at h1;exact h1
def Bjd{kill:List Nat}{k:List It}{Q:Env->St->Prop}(ql:((qa.length==ops.length)&&(List.range ops.length).all fun j=>(qa.getD j []).all fun d=>decide (d<j))=true)(h:∃ e1 σ1,DR T pr qa [] ops e σ e1 σ1/\W T pr k (e1.del kill) σ1 Q):W T pr (.c (.drw kill qa ops)::k) e σ Q:=by
 obtain⟨e1,σ1,hd,e',σ',h2,q⟩:=h;simp only[Ai,beq_iff_eq,Bw,Ed,decide_eq_true_eq]at ql
 have qB:∀ t,∃ E',Ev T pr (.ops (D4 ops (Qy qa t)) e σ E' σ1)/\∀ m,E'.get m=e1.get m:=fun t=>by
  refine hd _ ?_ (fun p hp=>by cases hp)
  grind[Qy,Akk,Ayl]
 exact⟨e',σ',.cDrw (fun t=>(qB t).choose) (fun t=>(qB t).choose_spec.1) (fun t=>(qB t).choose_spec.2) h2,q⟩
end
/-! environments by their slots -/
def Ab6(k:Nat)(v:V):Env->Env
 | []=>[(k,v)]
 | (m,u)::r=>if k<m then(k,v)::(m,u)::r else if k=m then(k,v)::r else(m,u)::Ab6 k v r
def Rv:Env->Env
 | []=>[]
 | (k,v)::r=>Ab6 k v (Rv r)
def Atj(k:Nat)(v:V)(n:Nat):∀ l:Env,(Ab6 k v l).get n=if k=n then v else l.get n
 | []=>by simp[Ab6,Env.get]
 | (m,u)::r=>by
  have ih:=Atj k v n r;unfold Ab6
  split
  .simp[Env.get]
  .split
   .grind[Env.get]
   .simp only[Env.get,ih]
    grind
def Ajt(n:Nat):∀ e:Env,(Rv e).get n=e.get n
 | []=>rfl
 | (k,v)::r=>by
  rw[Rv,Atj,Ajt n r];rfl
def A8t{e e':Env}(h:Rv e=Rv e')(n:Nat):e.get n=e'.get n:=by rw[<-Ajt n e,h,Ajt]
def DE(E:Env)(S:St)(e:Env)(σ:St):Prop:=e=E/\σ=S
def DS(E:Env)(S:St)(e:Env)(σ:St):Prop:=Rv e=Rv E/\σ=S
def Bn7{E:Env}{S:St}:DE E S E S:=⟨rfl,rfl⟩
def Bn8{E e:Env}{S σ:St}(h:Rv e=Rv E)(h':σ=S):DS E S e σ:=⟨h,h'⟩
def Bje{qa:List (List Nat)}{ops:List AI}{kill:List Nat}{k:List It}{e:Env}{σ:St}{Q:Env->St->Prop}(a b:Nat)(P1 P2:List Nat)(d1 d2:List (List Nat)){E:Env}{S:St}
  (hp:((qa.length==ops.length)&&((List.range ops.length).all fun j=>(qa.getD j []).all fun d=>decide (d<j))&&(a==b)==false&&Ahe qa d1 [(a,b)] ops.length P1&&Ahe qa d2 [(b,a)] ops.length P2&&Pf d1 (D4 ops P1)&&Pf d2 (D4 ops P2)&&(D4 ops P1).length==ops.length&&(D4 ops P2).length==ops.length)=true)
  (h1:wg T pr d1 (D4 ops P1).length [] [] (DE E S) 0 (D4 ops P1) e σ [] [])
  (h2:wg T pr d2 (D4 ops P2).length [] [] (DS E S) 0 (D4 ops P2) e σ [] [])
  (h:WE T pr (E.del kill) k S Q):W T pr (.c (.drw kill qa ops)::k) e σ Q:=by
 simp only[Ai,beq_iff_eq]at hp;obtain⟨⟨⟨⟨⟨⟨⟨⟨qT,qU⟩,qE⟩,p1⟩,p2⟩,s1⟩,s2⟩,l1⟩,l2⟩:=hp
 have qN:∀ {e1:Env} {σ1:St} {P:Env->St->Prop},W T pr [] (e1.del []) σ1 P->P e1 σ1:=fun {e1 σ1 P} h=>by
  have hd:∀ e:Env,e.del []=e:=fun e=>by
   induction e with
   | nil=>rfl
   | cons p r ih=>simp_all [Env.del]
  grind[Az9]
 obtain⟨e1,σ1,t1,g1⟩:=V5 _ _ _ _ _ _ h1;obtain⟨rfl,rfl⟩:=qN g1;obtain⟨e2,σ2,t2,g3⟩:=V5 _ _ _ _ _ _ h2;obtain⟨g4,rfl⟩:=qN g3;refine Bjd ?_ ⟨_,_,A8s a b (by grind) (Awl P1 d1 _ rfl l1 p1 s1 t1 fun _=>rfl) (Awl P2 d2 _ rfl l2 p2 s2 t2 (A8t g4)),h⟩
 grind
section
variable {α:Type} [DecidableEq α]
def E8:List α->List α->Nat
 | [],_=>0
 | _::_,[]=>0
 | a::s,b::t=>if a=b then 1+E8 s t else max (E8 s (b::t)) (E8 (a::s) t)
theorem Vw(t:List α):E8 [] t=0:=by rw[E8]
theorem Abl(s:List α):E8 s []=0:=by cases s<;>rw[E8]
theorem Rn(a b:α)(s t:List α):E8 (a::s) (b::t)=if a=b then 1+E8 s t else max (E8 s (b::t)) (E8 (a::s) t):=by rw[E8]
mutual
theorem Anl(a:α)(s t:List α):E8 s t<=E8 (a::s) t/\E8 (a::s) t<=E8 s t+1:=
 match s,t with
 | s,[]=>by grind[Abl]
 | [],b::t=>by
  have h:=Anl a [] t
  grind[Vw,Rn]
 | c::s,b::t=>by
  have h1:=Anl a (c::s) t;have h2:=Anm b (c::s) t
  grind[Rn]
termination_by s.length+t.length
theorem Anm(b:α)(s t:List α):E8 s t<=E8 s (b::t)/\E8 s (b::t)<=E8 s t+1:=
 match s,t with
 | [],t=>by grind[Vw]
 | a::s,[]=>by
  have h:=Anm b s []
  grind[Abl,Rn]
 | a::s,c::t=>by
  have h1:=Anm b s (c::t);have h2:=Anl a s (c::t)
  grind[Rn]
termination_by s.length+t.length
end
theorem Atk:∀ s:List α,E8 s s=s.length
 | []=>Vw _
 | a::s=>by rw[Rn,if_pos rfl,Atk s,Ao];omega
theorem Aga:∀ (s t:List α),E8 s t<=s.length/\E8 s t<=t.length
 | [],t=>by grind[Vw]
 | a::s,[]=>by grind[Abl]
 | a::s,b::t=>by
  have h1:=Aga s t;have h2:=Aga s (b::t);have h3:=Aga (a::s) t
  grind[Rn]
termination_by s t=>s.length+t.length
def Y2(a:α)(s t:List α)(k:Nat):Bool:=decide (t[k]?=some a)&&(1+E8 s (t.drop (k+1))==E8 (a::s) t)
def Og(a:α)(s t:List α):Option Nat:=(List.range t.length).find? (Y2 a s t)
def Et:Nat->List α->List α->List Int
 | _,[],_=>[]
 | j,a::s,t=>match Og a s t with
  | some k=>((j+k:Nat):Int)::Et (j+k+1) s (t.drop (k+1))
  | none => -1::Et j s t
theorem Afj:∀ (s:List α) (j:Nat) (t:List α),(Et j s t).length=s.length
 | [],_,_=>by grind[Et]
 | a::s,j,t=>by
  rw[Et]
  split
  .rw[Ao,Afj s,Ao]
  .rw[Ao,Afj s,Ao]
def Atl{a:α}{s t:List α}{k:Nat}(h:Og a s t=some k):k<t.length/\t[k]?=some a/\1+E8 s (t.drop (k+1))=E8 (a::s) t:=by
 have h1:=List.find?_some h;have h2:=List.mem_of_find?_eq_some h
 simp_all [Y2]
theorem A8u(a:α)(s:List α):Og a s (a::s)=some 0:=by
 grind[Og,List.range_succ_eq_map,Y2,Atk]
def Aex:∀ (s:List α) (j:Nat) (t:List α) (i:Nat) (n:Int),(Et j s t)[i]?=some n->n = -1\/∃ k,n=((j+k:Nat):Int)/\k<t.length/\t[k]?=s[i]?/\∀ i' n',i'<i->(Et j s t)[i']?=some n'->n'<n
 | [],_,_,i,n,h=>by grind[Et]
 | a::s,j,t,i,n,h=>by
  rw[Et]at h ⊢
  split at h
  .rename_i k hk;obtain⟨h1,h2,-⟩:=Atl hk
   cases i with
   | zero=>
    grind
   | succ i=>
    rw[Q3]at h;rcases Aex s (j+k+1) (t.drop (k+1)) i n h with h3 | ⟨m,rfl,h4,h5,h6⟩
    .omega
    grind
  .rename_i hk
   cases i with
   | zero=>grind
   | succ i=>
    rw[Q3]at h;rcases Aex s j t i n h with h3 | ⟨m,rfl,h4,h5,h6⟩
    .omega
    grind
end
section
variable {α β:Type} [DecidableEq α] [DecidableEq β]
def D9(s t:List α)(i j:Nat):Nat:=E8 (s.drop i) (t.drop j)
theorem Bjf(s t:List α)(j:Nat):D9 s t s.length j=0:=by grind[D9,Vw]
theorem Bjg(s t:List α)(i:Nat):D9 s t i t.length=0:=by grind[D9,Abl]
def Bds(s t:List α){i j:Nat}(hi:i<s.length)(hj:j<t.length):D9 s t i j=if s[i]=t[j] then 1+D9 s t (i+1) (j+1) else max (D9 s t (i+1) j) (D9 s t i (j+1)):=by
 grind[D9,List.drop_eq_getElem_cons,Rn]
def Awm(s t:List α)(i j:Nat):D9 s t i j<=s.length/\D9 s t i j<=t.length:=by
 grind[Aga,D9]
def Fw(s t:List α)(i j:Nat):List Int:=(List.range (t.length+1)).map fun k=>if j<=k then(D9 s t i k:Int) else 0
def Jt(s t:List α)(i:Nat):List Int:=(List.range (t.length+1)).map fun k=>(D9 s t i k:Int)
def Wj(s t:List α):List (List Int):=(List.range (s.length+1)).map (Jt s t)
theorem Akn(s t:List α)(i j:Nat):(Fw s t i j).length=t.length+1:=by grind[Fw]
theorem Atm(s t:List α)(i:Nat):(Jt s t i).length=t.length+1:=by grind[Jt]
def Ars(s t:List α)(i:Nat):Fw s t i 0=Jt s t i:=by grind[Fw,Jt]
def A8v(s t:List α)(i:Nat):Fw s t i t.length=List.replicate (t.length+1) 0:=by
 unfold Fw;refine Adk AE fun k h1 h2=>?_
 grind[Bjg]
def A8w(s t:List α):Jt s t s.length=List.replicate (t.length+1) 0:=by
 unfold Jt;refine Adk AE fun k h1 h2=>?_
 grind[Bjf]
def Atn(s t:List α){i j k:Nat}(hk:k<=t.length)(hj:j<=k):(Fw s t i j)[k]?=some (D9 s t i k:Int):=by
 grind[Fw]
def Aey(s t:List α){i k:Nat}(hk:k<=t.length):(Jt s t i)[k]?=some (D9 s t i k:Int):=by rw[<-Ars,Atn s t hk (Ax _)]
def Ato(s t:List α){i:Nat}(hi:i<=s.length):(Wj s t)[i]?=some (Jt s t i):=by
 grind[Wj]
def A8x(s t:List α){i j:Nat}(hj:j<t.length):(Fw s t i (j+1)).set j (D9 s t i j:Int)=Fw s t i j:=by
 unfold Fw;refine Adk AE fun k h1 h2=>?_
 grind
/-! the search for the next line -/
def Sc(s t:List α)(i j k:Nat):Prop:=s[i]?=t[k]?/\1+D9 s t (i+1) (k+1)=D9 s t i j
def Bjh{s t:List α}{i j k:Nat}(hi:i<s.length)(hj:j<=k)(hk:k<t.length)(h:Sc s t i j k)(hn:∀ k',j<=k'->k'<k->¬ Sc s t i j k'):Og s[i] (s.drop (i+1)) (t.drop j)=some (k - j):=by
 have hc:∀ m,j+m<t.length->(Y2 s[i] (s.drop (i+1)) (t.drop j) m=true↔Sc s t i j (j+m)):=fun m hm=>by
  unfold Y2 Sc D9;rw[<-Hv hi];simp only[Ai,decide_eq_true_eq,beq_iff_eq,Aim,Adn]
  grind
 grind[Og,List.find?_eq_some_iff_getElem]
def Bdt{s t:List α}{i j k:Nat}(hi:i<s.length)(hj:j<=k)(hk:k<t.length)(h:Sc s t i j k)(hn:∀ k',j<=k'->k'<k->¬ Sc s t i j k'):Et j (s.drop i) (t.drop j)=(k:Int)::Et (k+1) (s.drop (i+1)) (t.drop (k+1)):=by
 rw[Hv hi,Et,Bjh hi hj hk h hn]
 grind[List.drop_drop]
def A8y{s t:List α}{i j:Nat}(hi:i<s.length)(hn:∀ k,j<=k->k<t.length->¬ Sc s t i j k):Et j (s.drop i) (t.drop j) = -1::Et j (s.drop (i+1)) (t.drop j):=by
 rw[Hv hi,Et]
 have:Og s[i] (s.drop (i+1)) (t.drop j)=none:=by
  cases he:Og s[i] (s.drop (i+1)) (t.drop j) with
  | none=>rfl
  | some m=>
   obtain⟨h1,h2,h3⟩:=Atl he;rw[Hi]at h1;refine absurd ?_ (hn (j+m) AA AA);rw[Aim]at h2;rw[Adn,<-Hv hi]at h3;exact⟨by grind,h3⟩
 rw[this]
theorem Awn:∀ (s:List α) (j:Nat),Et j s []=List.replicate s.length (-1)
 | [],_=>by grind[Et]
 | a::s,j=>by
  rw[Et];have:Og a s ([]:List α)=none:=by unfold Og;simp
  rw[this];simp only;rw[Awn s,Ao,Ade]
/-! both programs -/
def G6(nm:β):List (β × List α)->Nat × Option (List α)
 | []=>(0,none)
 | q::r=>if q.1=nm then(0,some q.2) else(q.2.length+(G6 nm r).1,(G6 nm r).2)
def Me(b:Nat)(l:List Int):List Int:=l.map fun k=>if 0<=k then k+b else k
def Ju(p:β × List α)(Q:List (β × List α)):List Int:=Me (G6 p.1 Q).1 (Et 0 p.2 ((G6 p.1 Q).2.getD []))
def Ll(P Q:List (β × List α)):List Int:=P.flatMap fun p=>Ju p Q
def G7(P:List (β × List α)):List (β × α):=P.flatMap fun p=>p.2.map fun x=>(p.1,x)
def A8z(p:β × List α)(Q:List (β × List α)):(Ju p Q).length=p.2.length:=by grind[Ju,Me,Afj]
theorem Art{p:β × List α}{Q:List (β × List α)}(h:(G6 p.1 Q).2=none):Ju p Q=List.replicate p.2.length (-1):=by
 grind[Ju,Me,Awn,List.map_replicate]
def Apy(p:β × List α)(P Q:List (β × List α)):Ll (p::P) Q=Ju p Q++Ll P Q:=by grind[Ll]
def Ad5(p:β × List α)(P:List (β × List α)):G7 (p::P)=(p.2.map fun x=>(p.1,x))++G7 P:=by grind[G7]
def Aja:∀ P Q:List (β × List α),(Ll P Q).length=(G7 P).length
 | [],_=>rfl
 | p::P,Q=>by rw[Apy,Ad5,Ar,Ar,A8z,Au,Aja P Q]
def Aqj{nm:β}:∀ {Q:List (β × List α)} {l:List α},(G6 nm Q).2=some l->∀ m x,l[m]?=some x->(G7 Q)[(G6 nm Q).1+m]?=some (nm,x)
 | [],l,h,m,x,hx=>by grind[G6]
 | q::Q,l,h,m,x,hx=>by
  rw[G6]at h ⊢;rw[Ad5]
  split at h
  .grind
  .rename_i hq;rw[if_neg hq];simp only at h ⊢;rw[Fz (by grind),Au,show q.2.length+(G6 nm Q).1+m - q.2.length=(G6 nm Q).1+m by omega];exact Aqj h m x hx
def A5i{p:β × List α}{Q:List (β × List α)}{i:Nat}{n:Int}(h:(Ju p Q)[i]?=some n):n = -1\/∃ k:Nat,n=k/\(∃ x,p.2[i]?=some x/\(G7 Q)[k]?=some (p.1,x))/\∀ i' n',i'<i->(Ju p Q)[i']?=some n'->n'<n:=by
 cases hf:(G6 p.1 Q).2 with
 | none=>
  grind[Art]
 | some l=>
  unfold Ju Me at h ⊢;rw[hf,Sv]at h ⊢;rw[As]at h
  cases hm:(Et 0 p.2 l)[i]? with
  | none=>grind
  | some m=>
   rw[hm,Jc,Adj]at h;rcases Aex p.2 0 l i m hm with rfl | ⟨k,rfl,h1,h2,h3⟩
   .omega
   .rw[if_pos AA]at h;have hk:=Ca h1;refine .inr ⟨(G6 p.1 Q).1+k,by omega,⟨l[k],by grind,Aqj hf k _ hk⟩,fun i' n' hi hn=>?_⟩
    grind
end
section
variable {α β:Type} [DecidableEq α] [DecidableEq β]
theorem A5j(A B:List (β × List α)):(G7 (A++B)).length=(G7 A).length+(G7 B).length:=by grind[G7]
def Ajb{nm:β}:∀ {A B:List (β × List α)},(∀ q∈A,q.1≠nm)->G6 nm (A++B)=((G7 A).length+(G6 nm B).1,(G6 nm B).2)
 | [],B,_=>by grind[G7]
 | q::A,B,h=>by
  rw[Bt,G6,if_neg (h q B7),Ajb fun r hr=>h r (Ci _ hr),Ad5,Ar,Au]
  grind
def Uv(nm:β)(Q:List (β × List α))(k:Nat):Prop:=∀ q∈Q.take k,q.1≠nm
def A80(nm:β)(Q:List (β × List α)):Uv nm Q 0:=fun q hq=>by grind
def A81{nm:β}{Q:List (β × List α)}{k:Nat}(h:Uv nm Q k){q:β × List α}(hq:Q[k]?=some q)(hn:q.1≠nm):Uv nm Q (k+1):=fun r hr=>by
 rw[Ic,hq]at hr;rcases Ct.1 hr with hr | hr
 .exact h r hr
 grind
def Lp(Q:List (β × List α))(k:Nat):Nat:=(G7 (Q.take k)).length
def A3x{Q:List (β × List α)}{k:Nat}{q:β × List α}(hq:Q[k]?=some q):Lp Q (k+1)=Lp Q k+q.2.length:=by
 grind[Lp,List.take_add_one,G7]
def Ako(Q:List (β × List α))(k:Nat):Lp Q k<=(G7 Q).length:=by
 grind[Lp,A5j,List.take_append_drop]
def A5k{nm:β}{Q:List (β × List α)}{k:Nat}{q:β × List α}(h:Uv nm Q k)(hq:Q[k]?=some q)(hn:q.1=nm):G6 nm Q=(Lp Q k,some q.2):=by
 obtain⟨hk,he⟩:=Al.1 hq;have:=Ajb (B:=Q.drop k) h;rw[L8,Hv hk,he,G6,if_pos hn]at this;exact this
theorem A3y{nm:β}{Q:List (β × List α)}(h:Uv nm Q Q.length):G6 nm Q=(Lp Q Q.length,none):=by
 have:=Ajb (B:=[]) h
 grind[G6,Lp]
def A82{nm:β}{s:List α}{Q:List (β × List α)}{k:Nat}{q:β × List α}(h:Uv nm Q k)(hq:Q[k]?=some q)(hn:q.1=nm):Ju (nm,s) Q=Me (Lp Q k) (Et 0 s q.2):=by
 unfold Ju;rw[A5k h hq hn,Sv]
def A5l{nm:β}{s:List α}{Q:List (β × List α)}(h:Uv nm Q Q.length):Ju (nm,s) Q=List.replicate s.length (-1)/\Ju (nm,s) Q=Me (Lp Q Q.length) (Et 0 s []):=by
 grind[A3y,Art,Ju]
def A29{P:List (β × List α)}{i:Nat}{p:β × List α}(Q:List (β × List α))(h:P[i]?=some p):Ll (P.take (i+1)) Q=Ll (P.take i) Q++Ju p Q:=by
 grind[Ll,List.take_add_one]
end
def Df(l:List Int):List V:=l.map fun x=>.int .i64 x
def Acn(R:List (List Int)):V:=.lst 0 (R.map fun r=>[.lst 0 (r.map fun x=>[.int .i64 x])])
def Sd(L:List (Nat × List Int)):List V:=L.map fun p=>.sl p.1 0 0 p.2.length 1 true
def Aru(l:List Int):Df l=(l.map fun x=>[V.int .i64 x]).flatten:=by
 induction l with
 | nil=>rfl
 | cons a l ih=>rw[Az,Fg,<-ih];rfl
def Atp:∀ l:List V,Fe 1 l.length l=l.map fun x=>[x]
 | []=>rfl
 | a::l=>by rw[Ao,Fe,Az,List.drop_succ_cons,L9,Atp l];rfl
def Apz{σ:St}{js:List Nat}{d:Nat}:∀ {L:List (Nat × List Int)},(∀ p∈L,∃ e z,σ[p.1]?=some (.row (Df p.2) e 0 z))->(∀ p∈L,p.1∈js) ->
  (Sd L).mapM (Fc σ js (d+2))=some (L.map fun p=>.lst 0 (p.2.map fun x=>[V.int .i64 x]))
 | [],_,_=>rfl
 | p::L,h,hj=>by
  have ih:=Apz (d:=d) (fun q hq=>h q (Ci _ hq)) fun q hq=>hj q (Ci _ hq)
  obtain⟨e,z,ho⟩:=h p B7;have hp:=hj p B7;have h1:=Rt (xs:=p.2.map fun x=>[V.int .i64 x]) (w:=true) (m:=1) (by rw[<-Aru];exact ho) AA (fun r hr=>by grind) (fun r hr=>by obtain⟨x,-,rfl⟩:=Cy.1 hr;rfl);have h2:=h1 js (fun i hi=>by grind[V.refs]) d
  grind[Sd]
def A3z{σ:St}{o e z:Nat}{js:List Nat}{d:Nat}{L:List (Nat × List Int)}(ho:σ[o]?=some (.row (Sd L) e 0 z))(h:∀ p∈L,∃ e z,σ[p.1]?=some (.row (Df p.2) e 0 z))(hj:∀ p∈L,p.1∈js)(jm:o∈js):
  Fc σ js (d+3) (.sl o 0 0 L.length 1 true)=some (Acn (L.map fun p=>p.2)):=by
 have hl:(Sd L).length=L.length:=by unfold Sd;rw[Au]
 have he:js.elem o=true:=by simpa using jm
 unfold Fc;rw[if_neg AN];simp only[he,if_true,ho];rw[if_pos ⟨trivial,by omega,by omega⟩,L9,Zx,<-hl,Db,Apz h hj,Jc];unfold Acn;have qf:(Sd L).length=(L.map fun p=>V.lst 0 (p.2.map fun x=>[V.int .i64 x])).length:=by rw[hl,Au]
 rw[qf,Atp,Adt,Adt];rfl
def Atq{R:List (List Int)}{i:Nat}{r:List Int}(h:R[i]?=some r):(R.map fun r=>[V.lst 0 (r.map fun x=>[V.int .i64 x])])[i]?=some [.lst 0 (r.map fun x=>[.int .i64 x])]:=by
 grind
def A0e{r:List Int}{j:Nat}{x:Int}(h:r[j]?=some x):(r.map fun x=>[V.int .i64 x])[j]?=some [.int .i64 x]:=by
 grind
def A83{r:List Int}{j:Nat}{x:Int}(h:r[j]?=some x):(Df r)[j]?=some (.int .i64 x):=by
 grind[Df]
theorem A84(r:List Int)(j:Nat)(x:Int):(Df r).set j (.int .i64 x)=Df (r.set j x):=by
 grind[Df,List.map_set]
def Akp(n:Nat):List.replicate n (V.int .i64 0)=Df (List.replicate n 0):=by
 grind[Df,List.map_replicate]
def Bji{T:Nat->Option AF}{pr:Nat->Option (List V->Option V)}{f p:Nat}{res:List AR}{body:AC}{vs:List V}{R:List (List Int)}(hT:T f=some ⟨p,res,false,body,none⟩)(hl:vs.length=p)
  (h:W T pr [.c body] (C6 0 vs) [] (Hd fun e' σ1=>∃ (o e z:Nat) (L:List (Nat × List Int)),Cd e' σ1 res=some (.sl o 0 0 L.length 1 true)/\σ1[o]?=some (.row (Sd L) e 0 z)/\(∀ p∈L,∃ e z,σ1[p.1]?=some (.row (Df p.2) e 0 z))/\(L.map fun p=>p.2)=R)):Fn T pr f vs (Acn R):=by
 obtain⟨e',σ1,hE,o,e,z,L,hr,ho,hL,rfl⟩:=h;refine Ari hT rfl rfl hl ⟨e',σ1,hE,.sl o 0 0 L.length 1 true,o::L.map fun p=>p.1,hr,rfl,?_,rfl,rfl⟩;exact A3z (d:=6) ho hL (fun p hp=>Ci _ (Cy.2 ⟨p,hp,rfl⟩)) B7
variable {α:Type} [DecidableEq α]
/-! version.common: the rows from i on are there; row k is object 1 + (n - k) -/
def Aco(m b:Nat):V:=.sl b 0 0 (m+1) 1 true
def E6(n m i:Nat):List V:=(List.range (n+1)).map fun k=>if k<i then .nils else Aco m (1+(n - k))
def Fm(s t:List α)(k:Nat):List (List Int):=(List.range k).map fun d=>Jt s t (s.length - d)
def Gb(OT IT n m i:Nat)(R:List (List Int)):St:=.row (E6 n m i) OT 0 0::R.map fun r=>.row (Df r) IT 0 0
theorem Akq(n m i:Nat):(E6 n m i).length=n+1:=by grind[E6]
def A5m(n m:Nat):(List.replicate (n+1) V.nils).set n (Aco m 1)=E6 n m n:=by
 unfold E6;refine Adk AE fun k h1 h2=>?_
 grind
def A85{n m i:Nat}(hi:i<n):(E6 n m (i+1)).set i (Aco m (1+(n - i)))=E6 n m i:=by
 unfold E6;refine Adk AE fun k h1 h2=>?_
 grind
def A86{n m i k:Nat}(h:i<=k)(hk:k<=n):(E6 n m i)[k]?=some (Aco m (1+(n - k))):=by
 unfold E6
 grind
def Aju(s t:List α)(k:Nat):(Fm s t k).length=k:=by grind[Fm]
def A30(s t:List α)(k:Nat):Fm s t k++[Jt s t (s.length - k)]=Fm s t (k+1):=by
 grind[Fm,List.range_succ]
def Bdu(OT IT n m i:Nat)(R:List (List Int)):(Gb OT IT n m i R).length=1+R.length:=by grind[Gb]
def Bdv(OT IT n m i:Nat)(R:List (List Int))(r:List Int):Gb OT IT n m i R++[.row (Df r) IT 0 0]=Gb OT IT n m i (R++[r]):=by
 grind[Gb]
def All(OT IT n m i:Nat){R:List (List Int)}{k:Nat}{r:List Int}(h:R[k]?=some r):(Gb OT IT n m i R)[1+k]?=some (.row (Df r) IT 0 0):=by
 grind[Gb]
def Bdw(OT IT n m i:Nat)(R:List (List Int))(k:Nat)(r:List Int):(Gb OT IT n m i R).set (1+k) (.row (Df r) IT 0 0)=Gb OT IT n m i (R.set k r):=by
 grind[Gb,List.map_set]
def A31(s t:List α){i:Nat}(hi:i<s.length)(r:List Int):(Fm s t (s.length - i)++[r])[s.length - (i+1)]?=some (Jt s t (i+1)):=by
 grind[Fm]
def A5n(s t:List α)(i:Nat)(r:List Int):(Fm s t (s.length - i)++[r])[s.length - i]?=some r:=by
 simp[Aju]
def A5o(s t:List α)(i:Nat)(r r':List Int):(Fm s t (s.length - i)++[r]).set (s.length - i) r'=Fm s t (s.length - i)++[r']:=by
 simp[Aju]
def A32(s t:List α){i:Nat}(hi:i<=s.length):Fm s t (s.length - i)++[Jt s t i]=Fm s t (s.length - i+1):=by
 rw[<-A30,show s.length - (s.length - i)=i by omega]
def vL(s t:List α):List (Nat × List Int):=(List.range (s.length+1)).map fun k=>(1+(s.length - k),Jt s t k)
def Bjj(s t:List α):(vL s t).length=s.length+1:=by grind[vL]
def Bjk(s t:List α):((vL s t).map fun p=>p.2)=Wj s t:=by
 simp[vL,Wj]
def Bjl(s t:List α):Sd (vL s t)=E6 s.length t.length 0:=by
 unfold Sd vL E6 Aco;simp[Atm]
def Bdx(OT IT:Nat)(s t:List α):∀ p∈vL s t,∃ e z,(Gb OT IT s.length t.length 0 (Fm s t (s.length+1)))[p.1]?=some (.row (Df p.2) e 0 z):=by
 intro p hp;unfold vL at hp;obtain⟨k,hk,rfl⟩:=Cy.1 hp;rw[Ed]at hk;refine⟨IT,0,All _ _ _ _ _ ?_⟩
 grind[Fm]
/-! the reference's common: all rows are there; row k is object 1 + k -/
def Atr{zs:List Int}(hs:zs.Pairwise (·<=·)):∀ m,m<=zs.length->(Lib.compactUpTo zs.toArray m).Pairwise (·<·)/\∀ x,x∈Lib.compactUpTo zs.toArray m↔x∈zs.take m
 | 0,_=>by
  have:Lib.compactUpTo zs.toArray 0=[]:=rfl;rw[this];exact⟨List.Pairwise.nil,fun x=>by simp⟩
 | m+1,hm=>by
  obtain⟨h1,h2⟩:=Atr hs m AA;have hg:∀ j,j<zs.length->∃ h:j<zs.length,(zs.toArray[j]!)=zs[j]:=fun j hj=>⟨hj,by rw[getElem!_pos zs.toArray j (by simpa using hj)];simp⟩
  obtain⟨jj,e1⟩:=hg m AA
  have ji:∀ x∈zs.take m,x<=zs[m]:=fun x hx=>by
   obtain⟨i,hi,rfl⟩:=Adc.1 hx;simp at hi;rw[List.getElem_take];exact Uy.1 hs i m _ _ AA
  have qV:∀ x,x∈zs.take (m+1)↔x∈zs.take m\/x=zs[m]:=fun x=>by
   rw[Ic,Ca jj,Ct];simp
  rw[Lib.compactUpTo_succ];by_cases hk:Lib.keeps zs.toArray m=true
  .rw[if_pos hk,e1];refine⟨?_,fun x=>by rw[Ct,qV,h2];simp⟩;rw[Zf];refine⟨h1,Aii _ _,fun x hx y hy=>?_⟩;rw[F5.1 hy];rw[h2]at hx;have jo:=ji x hx;rcases Int.lt_or_eq_of_le jo with h | h
   .exact h
   .exfalso;unfold Lib.keeps at hk;have jk:m≠0:=fun e=>by subst e;simp at hx
    simp only[decide_eq_true_eq,jk,false_or]at hk;obtain⟨hp,e2⟩:=hg (m - 1) AA;rw[e1,e2]at hk;apply hk;obtain⟨i,hi,rfl⟩:=Adc.1 hx;simp at hi;rw[List.getElem_take]at h;have a1:zs[m - 1]<=zs[m]:=Uy.1 hs (m - 1) m _ _ AA
    have a2:zs[i]<=zs[m - 1]:=by
     rcases Bh i (m - 1) with h3 | h3
     .exact Uy.1 hs i (m - 1) _ _ h3
     .have:i=m - 1:=by omega
      subst this;exact Zy _
    omega
  .rw[if_neg hk,B3];refine⟨h1,fun x=>?_⟩;rw[h2,qV];refine⟨.inl,fun h=>h.elim id fun h=>?_⟩;unfold Lib.keeps at hk;simp only[decide_eq_true_eq,not_or,Decidable.not_not]at hk;obtain⟨hp,e2⟩:=hg (m - 1) AA;rw[e1,e2]at hk;rw[h,hk.2];exact Adc.2 ⟨m - 1,by simp;omega,by rw[List.getElem_take]⟩
def Aym:∀ {a b:List Int},a.Pairwise (·<·)->b.Pairwise (·<·)->(∀ x,x∈a↔x∈b)->a=b
 | [],[],_,_,_=>rfl
 | [],y::b,_,_,h=>absurd ((h y).2 B7) AE
 | x::a,[],_,_,h=>absurd ((h x).1 B7) AE
 | x::a,y::b,h1,h2,h=>by
  obtain⟨a1,a2⟩:=K9.1 h1;obtain⟨b1,b2⟩:=K9.1 h2
  have e:x=y:=by
   rcases Bp.1 ((h x).1 B7) with hx | hx
   .exact hx
   .rcases Bp.1 ((h y).2 B7) with hy | hy
    .exact hy.symm
    .have:=a1 y hy;have:=b1 x hx;omega
  subst e;rw[Aym a2 b2 fun z=>⟨fun hz=>?_,fun hz=>?_⟩]
  .rcases Bp.1 ((h z).1 (Ci _ hz)) with rfl | qL
   .have:=a1 z hz;omega
   .exact qL
  .rcases Bp.1 ((h z).2 (Ci _ hz)) with rfl | qL
   .have:=b1 z hz;omega
   .exact qL
def Bdy{L S:List Int}{n:Nat}(hp:S.Perm L)(hs:S.Pairwise (·<=·))(hn:∀ x∈L,0<=x/\x<(n:Int)):Lib.compact S=((List.range n).filter fun s:Nat=>decide ((s:Int)∈L)).map fun s:Nat=>(s:Int):=by
 obtain⟨h1,h2⟩:=Atr hs S.length (Ak _);refine Aym h1 ?_ fun x=>?_
 .rw[List.pairwise_map];refine List.Pairwise.imp (fun {a b} h=>?_) (List.Pairwise.filter _ List.pairwise_lt_range);omega
 .show x∈Lib.compactUpTo S.toArray S.length↔_;rw[h2,Db,hp.mem_iff];simp only[Cy,Ol,Ed,decide_eq_true_eq];refine⟨fun hx=>⟨x.toNat,⟨by have:=hn x hx;omega,by rw[Zh (hn x hx).1];exact hx⟩,Zh (hn x hx).1⟩,?_⟩;rintro⟨s,⟨-,h⟩,rfl⟩;exact h
section
variable {κ:Type} [DecidableEq κ]
def F9:List κ->κ->Option Nat
 | [],_=>none
 | x::l,k=>if x=k then some 0 else(F9 l k).map (·+1)
theorem Ot:∀ {l:List κ} {k:κ} {s:Nat},F9 l k=some s↔l[s]?=some k/\∀ j,j<s->l[j]?≠some k
 | [],k,s=>by simp[F9]
 | x::l,k,s=>by
  rw[F9];by_cases h:x=k
  .rw[if_pos h];constructor
   .grind
   .rintro⟨-,h2⟩
    cases s with
    | zero=>rfl
    | succ s=>exact absurd (by simp[h]) (h2 0 (Nat.succ_pos s))
  .rw[if_neg h]
   cases s with
   | zero=>
    simp_all
   | succ s=>
    constructor
    .intro e
     have e2:F9 l k=some s:=by
      cases hs:F9 l k with
      | none=>grind
      | some a=>grind
     obtain⟨h1,h2⟩:=Ot.1 e2
     grind
    .rintro⟨h1,h2⟩;have:F9 l k=some s:=Ot.2 ⟨by grind,fun j hj=>by grind⟩
     grind
theorem A33{l:List κ}{k:κ}:F9 l k=none↔∀ j:Nat,l[j]?≠some k:=by
 constructor
 .intro h j hj
  induction l generalizing j with
  | nil=>grind
  | cons x l ih=>
   rw[F9]at h
   split at h
   .cases h
   .rename_i hx
    cases j with
    | zero=>grind
    | succ j=>simp_all
 .intro h
  cases hs:F9 l k with
  | none=>rfl
  | some s=>grind[Ot]
def D6(ks:List κ)(m:List Int)(named:List κ):List Int:=named.filterMap fun k=>match F9 ks k with
 | some s=>if m.getD s 0<0 then some (s:Int) else none
 | none=>none
def Arv{ks:List κ}{m:List Int}{named:List κ}{x:Int}:x∈D6 ks m named↔∃ (s:Nat) (k:κ),x=s/\k∈named/\F9 ks k=some s/\m.getD s 0<0:=by
 unfold D6;rw[Adh];constructor
 .rintro⟨k,hk,h⟩
  cases hs:F9 ks k with
  | none=>rw[hs]at h;simp at h
  | some s=>
   rw[hs]at h;simp only at h
   split at h
   .rename_i hm;exact⟨s,k,(Lb h).symm,hk,hs,hm⟩
   .cases h
 .rintro⟨s,k,rfl,hk,hs,hm⟩;exact⟨k,hk,by rw[hs];simp only;rw[if_pos hm]⟩
def A5p{ks:List κ}{m:List Int}{named:List κ}:∀ x∈D6 ks m named,0<=x/\x<(ks.length:Int):=fun x hx=>by
 obtain⟨s,k,rfl,-,hs,-⟩:=Arv.1 hx;have:=(Al.1 (Ot.1 hs).1).1;omega
def Rw(ks:List κ)(m:List Int)(named:List κ):List Nat:=(List.range ks.length).filter fun s=>match ks[s]? with
 | some k=>decide (m.getD s 0<0)&&(decide (F9 ks k=some s)&&decide (k∈named))
 | none=>false
def A5q{ks:List κ}{m:List Int}{named:List κ}{S:List Int}(hp:S.Perm (D6 ks m named))(hs:S.Pairwise (·<=·)):Go.Lib.compact S=(Rw ks m named).map fun s:Nat=>(s:Int):=by
 rw[Bdy hp hs A5p];congr 1;unfold Rw;refine List.filter_congr fun s hs=>?_
 rw[Ed]at hs;rw[Ca hs];simp only;rw[Zm];simp only[decide_eq_true_eq,Ai];rw[Arv];constructor
 .rintro⟨s',k,e,h1,h2,h3⟩;have:s=s':=by omega
  subst this;have hk:=(Ot.1 h2).1;rw[Ca hs]at hk;have hk:=Lb hk;rw[hk];exact⟨h3,h2,h1⟩
 .rintro⟨h1,h2,h3⟩;exact⟨s,ks[s],rfl,h3,h2,h1⟩
end
section
variable {κ:Type} [DecidableEq κ]
def H0(ks:List κ)(m:List Int)(k:κ):Option Nat:=match F9 ks k with
 | some s=>if m.getD s (-1)<0 then none else some (m.getD s (-1)).toNat
 | none=>none
def Gs(ks:List κ)(m:List Int):List κ->Option (List Nat)
 | []=>some []
 | k::l=>match H0 ks m k with
  | some n=>(Gs ks m l).map (n::·)
  | none=>none
def Adz{ks:List κ}{m:List Int}:∀ {l:List κ},Gs ks m l=none↔∃ k∈l,H0 ks m k=none
 | []=>by simp[Gs]
 | k::l=>by
  rw[Gs]
  cases h:H0 ks m k with
  | none=>simp[h]
  | some n=>
   simp only[Bp];constructor
   .intro e;have:Gs ks m l=none:=by simpa using e
    obtain⟨k',h1,h2⟩:=Adz.1 this
    grind
   .rintro⟨k',h1 | h1,h2⟩
    .grind
    .have:=Adz.2 ⟨k',h1,h2⟩
     grind
theorem Ad6{ks:List κ}{m:List Int}:∀ {l:List κ} {r:List Nat},Gs ks m l=some r->r.length=l.length
 | [],r,h=>by grind[Gs]
 | k::l,r,h=>by
  rw[Gs]at h
  cases h1:H0 ks m k with
  | none=>grind
  | some n=>
   rw[h1]at h
   cases h2:Gs ks m l with
   | none=>grind
   | some r'=>
    rw[h2]at h;simp at h;rw[<-h,Ao,Ao,Ad6 h2]
def A3a{ks:List κ}{m:List Int}(hm:m.length=ks.length){k:κ}:H0 ks m k=none↔F9 ks k=none\/∃ s,F9 ks k=some s/\m.getD s 0<0:=by
 unfold H0
 cases h:F9 ks k with
 | none=>simp
 | some s=>
  have hs:=(Al.1 (Ot.1 h).1).1
  have e:m.getD s (-1)=m.getD s 0:=by
   rw[D3,D3,Ca AA];rfl
  simp only[e];by_cases h0:m.getD s 0<0
  .rw[if_pos h0];exact⟨fun _=>.inr ⟨s,rfl,h0⟩,fun _=>rfl⟩
  .rw[if_neg h0];refine⟨fun e=>(by cases e),fun e=>?_⟩;rcases e with e | ⟨s',e,h1⟩
   .cases e
   .rw[<-Lb e]at h1;exact absurd h1 h0
end
