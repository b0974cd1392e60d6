/- slices.Grow of no slice, at []int, by what it does. -/
import Derived.Test.YtphikjgngompaabGreatDoorIa
import Derived.Shelf.Spec.SlicesGrow
import Derived.Test.YtphikjgngompaabGreatDoorQt
set_option linter.all false
namespace Go.Proofs.YtphikjgngompaabGreatDoor.KM
open Go Go.RowKit
def grow_ren:Go.Shelf.Ren:=⟨fun | 4=>131 | n=>n,fun | 22=>55 | 25=>3 | n=>n,fun | n=>n⟩
def Arp:Lays8.n4 Tryz.prog grow_ren where
 mixed:=by kernel_rfl
 f4:=⟨ "slices.Grow[[]int,int]",by decide,Tryz.func131.trans (congrArg some AD)⟩
 t0:=Tryz.underlying0
 a0:=Tryz.isAgg0
 z0:=Tryz.sizeOf0
 v0:=Tryz.zeroValue0
 t3:=Tryz.underlying3
 a3:=Tryz.isAgg3
 z3:=Tryz.sizeOf3
 v3:=Tryz.zeroValue3
 t4:=Tryz.underlying4
 a4:=Tryz.isAgg4
 z4:=Tryz.sizeOf4
 v4:=Tryz.zeroValue4
 t9:=Tryz.underlying9
 a9:=Tryz.isAgg9
 z9:=Tryz.sizeOf9
 v9:=Tryz.zeroValue9
 t20:=Tryz.underlying20
 a20:=Tryz.isAgg20
 z20:=Tryz.sizeOf20
 v20:=Tryz.zeroValue20
 t22:=Tryz.underlying55
 a22:=Tryz.isAgg55
 z22:=Tryz.sizeOf55
 v22:=Tryz.zeroValue55
theorem Awl(n:Nat):(Builtin.zeroCells #[.int .i64 0] n).size=n:=by simp[Builtin.zeroCells]
def Bjw{n j:Nat}(h:j<n):(Builtin.zeroCells #[.int .i64 0] n)[j]?=some (.int .i64 0):=by
 simp[Builtin.zeroCells,h,Nat.mod_one]
def Aby:List V->St->Option (V × St)
 | [.nils,.int .i64 n],σ=>if n=0 then some (.nils,σ) else if 0<n/\n<=1000000 then some (.sl σ.length 0 0 0 1 true,σ++[.row (List.replicate n.toNat (.int .i64 0)) 3 0 0]) else none
 | _,_=>none
def Bd2{G:List (Nat × List V)}:Tq Tryz.prog G 131 Aby:=by
 refine⟨⟨Tryz.f131,_,by kernel_rfl,rfl,by decide⟩,fun args σ v σ' h us w γ N hl ha hI=>?_⟩;unfold Aby at h
 split at h
 .rename_i n
  match us,hl with
  | [u1,u2],_=>
  have qk:u1=.slice none 0 0:=M7 (Bc rfl (ha 0 AE));have ql:u2=.int .i64 n:=Et (Bc rfl (ha 1 AE));subst qk ql
  split at h
  .rename_i h0;cases h;subst h0;refine(Any8.slices_Grow_room Arp none 0 0 0 w AA AA AA AA).mono ?_;rintro e w' ⟨rfl,rfl⟩;exact⟨_,γ,rfl,C9 (.row .nils),hI,Ext.refl _ _,Below.refl _ _,fun _ _=>rfl⟩
  .split at h
   .rename_i hn hc;cases h;obtain⟨k,rfl⟩:∃ k:Nat,n=k:=⟨n.toNat,by omega⟩;rw[Nr];have hk:((Tryz.prog.info? 3).bind fun i=>if i.size=1/\i.bytes=8 then i.zero.map Value.cells else none)=some #[.int .i64 0]:=by kernel_rfl
    cases hi:Tryz.prog.info? 3 with
    | none=>grind
    | some i0=>
    rw[hi,C5]at hk
    split at hk
    rotate_left
    .cases hk
    rename_i qo
    cases hz:i0.zero with
    | none=>grind
    | some z=>
    rw[hz]at hk;have qm:z.cells=#[.int .i64 0]:=M5 hk;refine(Any8.slices_Grow_grow Arp i0 z hi hz AA none 0 0 k [] w AA AA (by grind) AA AE (fun _=>rfl) (fun a h=>by cases h)).mono ?_;rintro e w' ⟨rfl,rfl⟩;rw[qm];have qi:=grownCap_ge w (0+k) 0 (grow_ren.t 25);have qf:=grownCap_le_maxLen w (0+k) 0 (grow_ren.t 25) (by grind[maxLen]);generalize grownCap w (0+k) 0 (grow_ren.t 25)=cap at qi qf;obtain⟨d1,d2⟩:=hI.drew
    have qc:(([]:List Value).toArray++Builtin.zeroCells #[.int .i64 0] (0+k - 0)++Builtin.zeroCells #[.int .i64 0] (cap - (0+k))).size=cap:=by
     simp only[Array.size_append,Awl];simp;omega
    obtain⟨i1,i2⟩:=d1.newRow (([]:List Value).toArray++Builtin.zeroCells #[.int .i64 0] (0+k - 0)++Builtin.zeroCells #[.int .i64 0] (cap - (0+k))) 3 (List.replicate k (.int .i64 0)) (by grind) (fun j hj=>by
     rw[List.length_replicate]at hj;have e1:(List.replicate k (V.int .i64 0)).getD j .und=.int .i64 0:=by simp[hj]
     have e2:(([]:List Value).toArray++Builtin.zeroCells #[.int .i64 0] (0+k - 0)++Builtin.zeroCells #[.int .i64 0] (cap - (0+k))).getD j undef=.int .i64 0:=by
      rw[Array.getD_eq_getD_getElem?,Array.getElem?_append_left (by grind[Awl]),Array.getElem?_append_right AE];rw[show j - ([]:List Value).toArray.size=j from rfl,Bjw AA];rfl
     rw[e1,e2]
     exact .row .int)
    refine⟨_,_,rfl,C9 (Afw (blk:=w.heap.size) (m:=1) ?_ ?_ (Ax _) qf),i1,d2.trans i2,?_,fun b hb=>Oy _ _ (by have:=hI.base;show b≠w.heap.size;omega)⟩
    .show(γ.O++[(w.heap.size,0)])[σ.length]?=_;rw[<-hI.len];simp
    .have:=Z3 w.drew (([]:List Value).toArray++Builtin.zeroCells #[.int .i64 0] (0+k - 0)++Builtin.zeroCells #[.int .i64 0] (cap - (0+k))) 3 (0,0);rw[qc]at this;rw[Zr];exact this
    .exact((Below.refl N w).drew).alloc hI.base _
   grind
 grind
open Go Go.RowKit
def A32{T:Nat->Option AF}{pr:Nat->Option (List V->Option V)}{P:Program}{G:List (Nat × List V)}(hT:∀ f F,T f=some F->F.spec=none->Se P G f F=true)(hS:∀ f F s,T f=some F->F.spec=some s->Tq P G f s)(qj:∀ f s,pr f=some s->Iz P G f s)
  {f:Nat} {s:List V->Option V} (hf:∃ fn c,P.funcs[f]?=some fn/\fn.body=some c/\fn.name ≠ "runtime.NumGoroutine") (h:∀ vs v,s vs=some v->Fn T pr f vs v):Iz P G f s:=by
 refine⟨hf,fun κ w vs us v hg hs hd hl ha hv=>?_⟩;obtain⟨F,hF,h1,h2,v0,σ0,hE,hb⟩:=h vs v hv
 have hI:Inv G w.heap.size ⟨κ,[]⟩ [] w:=
  { base:=Aj _,len:=rfl,nd:=W1,low:=fun i p h=>by simp at h,obj:=fun i ob p h=>by simp at h,dom:=hd,glob:=hg,
    gsz:=fun g r hm=>And.intro (by
     have:=hs g r hm;unfold Ej at this
     split at this
     .rename_i hh;exact(Array.getElem?_eq_some_iff.1 hh).1
     .cases this) (hs g r hm) }
 refine(Az4 hT hS qj hE us w ⟨κ,[]⟩ w.heap.size hl (fun j hj=>.one (ha j hj)) hI).mono ?_;rintro e w1 ⟨u,γ',rfl,hu,qe,hx,qh,hk⟩;obtain⟨κ2,y1,y2,y3,y4,_⟩:=qe.freeze (Fr σ0 9 v0.refs.eraseDups);exact⟨u,κ2,rfl,Ado qe y2 y4 hb hu [],qh,fun b qb=>(y3 b qb).trans (hk b qb),y1.dom⟩
/-! IsKeyword -/
def Ayq:AC:=.seq (.reg [] [o 7 (.bin .lss (.t 6) (.k (.int .i64 22)))]) (.seq (.cond (.t 7) [7] (.skip) (.exit 0)) (.seq (.blk 1 (.seq (.reg [8] [o 8 (.ida 22 1 true (.t 5) (.t 6)),o 4 (.mov (.t 8))]) (.seq (.reg [4,9,10] [o 9 (.mov (.t 0)),o 10 (.mov (.t 4)),o 11 (.bin .eql (.t 9) (.t 10))]) (.cond (.t 11) [11] (.seq (.reg [] [o 2 (.mov (.k (.bool true)))]) (.ret)) (.skip))))) (.reg [12] [o 12 (.bin .add (.t 6) (.k (.int .i64 1))),o 6 (.mov (.t 12))])))
def A1v:AF:=⟨1,[.tmp 2],false,.seq (.reg [2] [o 2 (.mov (.k (.bool false)))]) (.seq (.seq (.reg [] [o 5 (.load 22 false (.k (.imm gKw 0))),o 6 (.mov (.k (.int .i64 0)))]) (.blk 0 (.loop [0,5,6] Ayq))) (.seq (.reg [] [o 2 (.mov (.k (.bool false)))]) (.ret))),none⟩
def tkw(f:Nat):Option AF:=if f=135 then some A1v else none
def Bof{i:Nat}(h:i<22):(gKw.drop i).take 1=[.str (kwL.getD i [])]:=by
 have hl:i<kwL.length:=h;unfold gKw;rw[<-Aiv,Io hl,Ef,B9 hl];rfl
def Bog(l:List UInt8):Fn tkw (fun _=>none) 135 [.str l] (.bool (Gk l)):=by
 refine Bg (show tkw 135=some _ from rfl) rfl ?_;have qa:gKw.length=22:=rfl;have hd:gKw.take 22=gKw:=rfl;generalize hg:gKw=g at qa hd;simp only[go_sem,Nat.reduceEqDiff,reduceIte,Nat.reduceAdd,Nat.reduceMul,Nat.reduceLeDiff,Int.reduceLT,Int.reduceLE,Int.reduceToNat,Int.reduceAdd,Int.reduceNeg,Int.reduceEq,qa,hd,Aj];refine Bk (fun i=>22 - i) (fun i:Nat=>[(0,.str l),(5,.agg g),(6,.int .i64 i)]) (fun _=>[]) (fun i=>i<=22/\∀ j,j<i->(l==kwL.getD j [])=false) ?_ 0 ⟨by omega,fun j hj=>by omega⟩;rintro i ⟨hi,qg⟩ ih;refine Bd (by delta Ayq;exact rfl) ?_;rcases Bh i 22 with h | h
 .have hk:=Bof h;rw[hg]at hk;have qb:decide ((i:Int)<22)=true:=by simp;omega
  have h0:((0:Int)<=i)=True:=eq_true AA;have h1:((i:Int)<22)=True:=eq_true AA;have h2:(i+1<=22)=True:=eq_true AA;simp only[go_sem,Nat.reduceEqDiff,reduceIte,Nat.reduceAdd,Nat.reduceMul,Nat.reduceLeDiff,Int.reduceLT,Int.reduceLE,Int.reduceToNat,Int.reduceAdd,Int.reduceNeg,Int.reduceEq,qb,h0,h1,h2,hk,qa];refine Lq (fun h3=>?_) (fun h3=>?_)
  .simp only[go_sem,Nat.reduceEqDiff,reduceIte,Nat.reduceAdd,Nat.reduceMul,Nat.reduceLeDiff,Int.reduceLT,Int.reduceLE,Int.reduceToNat,Int.reduceAdd,Int.reduceNeg,Int.reduceEq];refine Ah rfl ?_;unfold Gk;rw[Ns.2 ⟨kwL.getD i [],?_,h3⟩];have hl:i<kwL.length:=h;rw[Ef,B9 hl];exact M4 hl
  .simp only[go_sem,Nat.reduceEqDiff,reduceIte,Nat.reduceAdd,Nat.reduceMul,Nat.reduceLeDiff,Int.reduceLT,Int.reduceLE,Int.reduceToNat,Int.reduceAdd,Int.reduceNeg,Int.reduceEq,A2 (show i<9223372036854775807 by omega)];refine Av (ih (i+1) AA ⟨by omega,fun j hj=>?_⟩) rfl;by_cases e:j=i
   .rw[e];exact h3
   .exact qg j AA
 .have qb:decide ((i:Int)<22)=false:=by simp;omega
  simp only[go_sem,Nat.reduceEqDiff,reduceIte,Nat.reduceAdd,Nat.reduceMul,Nat.reduceLeDiff,Int.reduceLT,Int.reduceLE,Int.reduceToNat,Int.reduceAdd,Int.reduceNeg,Int.reduceEq,qb];refine Ah rfl ?_
  symm
  congr 1;unfold Gk;rw[<-Wz];intro ha;obtain⟨k,hk,he⟩:=Ns.1 ha;obtain⟨j,hj,rfl⟩:=Ou hk;have qn:j<22:=hj;have:=qg j AA;rw[Ef,B9 hj]at this;exact absurd he (by simpa using this)
def Brr:Se Tryz.prog [(0,gKw)] 135 A1v=true:=by
 kernel_rfl
def A88{P:Program}{G H:List (Nat × List V)}{f:Nat}{s:List V->Option V}(h:∀ p∈G,p∈H)(hp:Iz P G f s):Iz P H f s:=
 ⟨hp.1,fun κ w vs us v hg hs=>hp.2 κ w vs us v (fun g r hm=>hg g r (h _ hm)) fun g r hm=>hs g r (h _ hm)⟩
def A0m{G:List (Nat × List V)}(qd:(0,gKw)∈G):Iz Tryz.prog G 135 kwS:=by
 refine A88 (G:=[(0,gKw)]) (fun p hp=>by rw[Gm.1 hp];exact qd) ?_;refine A32 (T:=tkw) (pr:=fun _=>none) ?_ ?_ (fun _ _ h=>by cases h) ⟨Tryz.f135,_,by kernel_rfl,rfl,by decide⟩ ?_
 .intro f F h _;unfold tkw at h
  split at h
  .rename_i hf;cases h;subst hf;exact Brr
  .cases h
 .intro f F s h hs;unfold tkw at h
  split at h
  .cases h;cases hs
  .cases h
 .intro vs v h;unfold kwS at h
  split at h
  .cases h;exact Bog _
  .cases h
def Bd3{G:List (Nat × List V)}(qd:(0,gKw)∈G):Iz Tryz.prog G 87 Ag6:=by
 obtain⟨-,hk⟩:=A0m qd;refine⟨⟨Tryz.f87,_,by kernel_rfl,rfl,by decide⟩,fun κ w vs us v hg hs hd hl ha h=>?_⟩;unfold Ag6 at h
 split at h
 .rename_i l;cases h;obtain⟨a,rfl⟩:=A1c hl;obtain⟨h1,hm⟩:=G5 (Hz rfl (ha 0 AE));have h1:a=.string ⟨l.toArray⟩:=h1;subst h1;refine(A5p ⟨l.toArray⟩ w ?_).mono fun e w' hh=>Sw hd (fun κ' w'=>C9 (.row .bool)) hh
  refine(hk κ w [.str l] [.string ⟨l.toArray⟩] _ hg hs hd rfl ha rfl).mono ?_;rintro e w1 ⟨u,κ',rfl,hu,hb,-,-⟩;exact⟨by rw[Py (Bc rfl hu)],hb⟩
 .cases h
