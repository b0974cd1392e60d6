/- slices.Sort and slices.Compact at []int by what they do. -/
import Derived.Test.YtphikjgngompaacGreatDoorNj
import Derived.Lib.SlicesCompact
import Derived.Shelf.Spec.SlicesGrow
import Derived.Lib.ItoaLen
import Derived.Lib.Repeat
import Derived.Lib.Split
set_option linter.all false
namespace Go.Proofs.YtphikjgngompaacGreatDoor.KM
open Go Go.RowKit
def Dz(zs:List Int):List V:=zs.map (V.int .i64)
def Ul:List V->Option (List Int)
 | []=>some []
 | .int .i64 n::l=>(Ul l).map (n::·)
 | _=>none
def Arf:∀ zs:List Int,Ul (Dz zs)=some zs
 | []=>rfl
 | z::zs=>by
  have:=Arf zs
  grind[Dz,Ul]
def A20{cs:List V}:∀ {zs:List Int},Ul cs=some zs->cs=Dz zs:=by
 induction cs with
 | nil=>intro zs h;cases h;rfl
 | cons c l ih=>
  intro zs h;unfold Ul at h
  split at h
  .grind
  .rename_i n l' e;cases e
   cases h1:Ul l with
   | none=>grind
   | some ys=>
    rw[h1]at h;cases h;rw[ih h1];rfl
  grind
section
variable {G:List (Nat × List V)} {N:Nat} {γ:Gh} {σ:St} {w:World}
def A21(hI:Inv G N γ σ w){i g e b:Nat}{zs:List Int}(hO:γ.O[i]?=some (b,g))(ho:σ[i]?=some (.row (Dz zs) e g 0)):Sort.Holds (Value.int .i64) w b 0 zs.toArray:=by
 obtain⟨p,hp,h1,h2,h3,us,lo,hi,h4,h5,h6,h7⟩:=hI.of ho;rw[hO]at hp;cases hp;have h4:w.heap[b]?=some (.cells us e (lo,hi)):=h4;have h6:zs.length<=us.size:=by simpa[Dz] using h6
 intro j hj;have hj:j<zs.length:=by simpa using hj
 have h8:=h7 j (by grind[Dz]);have e1:(Dz zs).getD j .und=.int .i64 zs[j]:=by simp[Dz,hj]
 rw[e1]at h8;have e2:us.getD j undef=.int .i64 zs[j]:=Ey h8;have e3:us.getD j undef=us[j]:=by simp[Array.getD,show j<us.size by omega]
 have e4:(zs.toArray[j]!)=zs[j]:=by rw[getElem!_pos zs.toArray j AA];simp
 constructor
 .simp[World.cell?,h4,Gw,show j<us.size by omega]
  grind
 .simp only[World.frozen?,h4,Gw]
  grind
def A1c(hI:Inv G N γ σ w){i g e b n:Nat}{zs zs':List Int}{os:Array Obj}(hO:γ.O[i]?=some (b,g))(ho:σ[i]?=some (.row (Dz zs) e g 0))(hl:zs'.length=zs.length):
  Inv G N γ (σ.set i (.row (Dz zs') e g 0)) (Sort.grow (Sort.putRow (Value.int .i64) (Sort.ahead w n) b 0 zs'.toArray) os)/\Ext γ w γ (Sort.grow (Sort.putRow (Value.int .i64) (Sort.ahead w n) b 0 zs'.toArray) os)/\Below N w (Sort.grow (Sort.putRow (Value.int .i64) (Sort.ahead w n) b 0 zs'.toArray) os):=by
 obtain⟨p,hp,h1,h2,h3,us,lo,hi,h4,h5,h6,h7⟩:=hI.of ho;rw[hO]at hp;cases hp;have h4:w.heap[b]?=some (.cells us e (lo,hi)):=h4;have h6:zs.length<=us.size:=by simpa[Dz] using h6
 have qg:(Sort.putCells (Value.int .i64) 0 zs'.toArray us).size=us.size:=by simp[Sort.putCells]
 have hc:∀ j,j<(Dz zs').length->RepC γ w ((Dz zs').getD j .und) ((Sort.putCells (Value.int .i64) 0 zs'.toArray us).getD j undef):=by
  intro j hj;have hj:j<zs'.length:=by simpa[Dz] using hj
  have e1:(Dz zs').getD j .und=.int .i64 zs'[j]:=by simp[Dz,hj]
  have e2:(Sort.putCells (Value.int .i64) 0 zs'.toArray us).getD j undef=.int .i64 zs'[j]:=by
   have e4:(zs'.toArray[j]!)=zs'[j]:=by rw[getElem!_pos zs'.toArray j AA];simp
   simp[Sort.putCells,Array.getD_eq_getD_getElem?,Array.getElem?_mapIdx,show j<us.size by omega,hj]
  rw[e1,e2];exact .row .int
 obtain⟨i1,i2⟩:=hI.write (g':=g) (us':=Sort.putCells (Value.int .i64) 0 zs'.toArray us) (cs':=Dz zs') hO ho h4 h5 (Am _) (As _) qg (by grind[Dz]) (fun o ho=>by omega) hc;rw[N3 hO]at i1 i2;have hb:b<w.heap.size:=hI.oblt hO
 have qb:∀ k,k<(w.setRow b (Sort.putCells (Value.int .i64) 0 zs'.toArray us)).heap.size->(Sort.grow (Sort.putRow (Value.int .i64) (Sort.ahead w n) b 0 zs'.toArray) os).heap[k]?=(w.setRow b (Sort.putCells (Value.int .i64) 0 zs'.toArray us)).heap[k]?:=by
  intro k hk;have hk:k<w.heap.size:=by simpa[World.setRow] using hk
  rw[Sort.heap_grow_old _ _ (by simp_all)];simp only[Sort.putRow,Sort.mapBlock,Sort.ahead,Array.getElem?_modify];by_cases qe:b=k
  .subst qe;rw[setRow_heap w b us _ e _ h4,if_pos rfl,h4];rfl
  .rw[if_neg qe,setRow_other w b k _ (Ne.symm qe)]
 have hs:(w.setRow b (Sort.putCells (Value.int .i64) 0 zs'.toArray us)).heap.size<=(Sort.grow (Sort.putRow (Value.int .i64) (Sort.ahead w n) b 0 zs'.toArray) os).heap.size:=by
  simp[World.setRow,Sort.putRow,Sort.mapBlock,Sort.ahead]
 obtain⟨j1,j2⟩:=i1.more (κ':=γ.κ) qb hs (fun _ _=>rfl) (fun b k hk=>O8 (i1.dom b k hk) hs);refine⟨j1,i2.trans j2,⟨rfl,rfl,rfl,?_,fun k hk=>?_⟩⟩
 .simp_all
 .have h9:=hI.base;rw[qb k (by grind[World.setRow]),setRow_other w b k _ (by have:=hI.low _ _ hO;omega)]
end
/-! what they do -/
def Jk(zs:List Int):List Int:=zs.mergeSort fun x y=>decide (x<=y)
def Aaz:List V->St->Option (V × St)
 | [.nils],σ=>some (.tup [],σ)
 | [.sl i g 0 len 1 _],σ=>match σ[i]? with
  | some (.row cs e g' 0)=>match Ul cs with
   | some zs=>if g=g'/\zs.length=len/\len<4611686018427387904 then some (.tup [],σ.set i (.row (Dz (Jk zs)) e g' 0)) else none
   | none=>none
  | _=>none
 | _,_=>none
def Acq(zs:List Int):(Jk zs).length=zs.length:=List.length_mergeSort _
def A50{γ:Gh}{w:World}{i g len m:Nat}{own:Bool}{u:Value}(h:RepC γ w (.sl i g 0 len m own) u):∃ blk g' b' o' cap,u=.slice (some ⟨b',o',none⟩) len cap/\γ.O[i]?=some (blk,g')/\g<=g'/\len<=cap/\cap<=maxLen/\(0<cap->o'=0)/\(g=g'->b'=blk/\(own=true->Ep w blk=some (0+cap*m))):=by
 cases h with
 | row h=>cases h
 | sl h1 h2 h3 h4 h5 h6=>grind
def Bfl{G:List (Nat × List V)}:Sl Tryz.prog G 47 Aaz:=by
 refine⟨⟨Tryz.f47,_,by kernel_rfl,rfl,by decide⟩,fun args σ v σ' h us w γ N hl ha hI=>?_⟩;unfold Aaz at h
 split at h
 .cases h
  match us,hl with
  | [u],_=>
  have hu:u=.slice none 0 0:=Me (Bf rfl (ha 0 AE));subst hu;refine(Tryz.slices_Sort_int_none none 0 w).mono ?_;rintro e w' ⟨rfl,rfl⟩;exact⟨_,γ,rfl,.tup rfl (fun j hj=>by grind),hI,Ext.refl _ _,Below.refl _ _,fun _ _=>rfl⟩
 .rename_i i g len own
  match us,hl with
  | [u],_=>
  obtain⟨blk,g1,b',o',cap,rfl,hO,qw,qt,qu,qi,qj⟩:=A50 (Bf rfl (ha 0 AE))
  split at h
  .rename_i cs e g' hi
   split at h
   .rename_i zs hz
    split at h
    .rename_i hc;cases h;obtain⟨rfl,rfl,qg⟩:=hc;have qk:=A20 hz;subst qk;obtain⟨p,hp,q1,-⟩:=hI.of hi;rw[hO]at hp;cases hp;have q1:g1=g:=q1;subst q1;obtain⟨rfl,-⟩:=qj rfl;rcases Vi cap with h0 | h0
     .have hn:zs=[]:=Mb.1 AA;subst hn;subst h0;refine(Tryz.slices_Sort_int_none (some ⟨b',o',none⟩) 0 w).mono ?_;rintro e w' ⟨rfl,rfl⟩;rw[show Jk []=[] by simp[Jk],N3 hi];exact⟨_,γ,rfl,.tup rfl (fun j hj=>by omega),hI,Ext.refl _ _,Below.refl _ _,fun _ _=>rfl⟩
     .obtain rfl:=qi h0;refine(Tryz.slices_Sort_int b' 0 cap zs w (A21 hI hO hi) (hI.oblt hO) qg).mono ?_;rintro e w' ⟨rfl,n,os,rfl⟩;obtain⟨i1,i2,i3⟩:=A1c (n:=n) (os:=os) (zs':=Jk zs) hI hO hi (Acq zs);exact⟨_,γ,rfl,.tup rfl (fun j hj=>by grind),i1,i2,i3,fun _ _=>rfl⟩
    grind
   grind
  grind
 grind
open Go Go.RowKit
def grow_ren:Go.Shelf.Ren:=⟨fun | 4=>137 | n=>n,fun | 22=>50 | 25=>3 | n=>n,fun | n=>n⟩
def Apr:Lays8.n4 Tryz.prog grow_ren where
 mixed:=by kernel_rfl
 f4:=⟨ "slices.Grow[[]int,int]",by decide,Tryz.func137.trans (congrArg some AD)⟩
 t0:=Tryz.underlying0
 a0:=Tryz.isAgg0
 z0:=Tryz.sizeOf0
 v0:=Tryz.zeroValue0
 t3:=Tryz.underlying3
 a3:=Tryz.isAgg3
 z3:=Tryz.sizeOf3
 v3:=Tryz.zeroValue3
 t4:=Tryz.underlying4
 a4:=Tryz.isAgg4
 z4:=Tryz.sizeOf4
 v4:=Tryz.zeroValue4
 t9:=Tryz.underlying9
 a9:=Tryz.isAgg9
 z9:=Tryz.sizeOf9
 v9:=Tryz.zeroValue9
 t20:=Tryz.underlying20
 a20:=Tryz.isAgg20
 z20:=Tryz.sizeOf20
 v20:=Tryz.zeroValue20
 t22:=Tryz.underlying50
 a22:=Tryz.isAgg50
 z22:=Tryz.sizeOf50
 v22:=Tryz.zeroValue50
theorem At4(n:Nat):(Builtin.zeroCells #[.int .i64 0] n).size=n:=by simp[Builtin.zeroCells]
def Bfm{n j:Nat}(h:j<n):(Builtin.zeroCells #[.int .i64 0] n)[j]?=some (.int .i64 0):=by
 simp[Builtin.zeroCells,h,Nat.mod_one]
def Aan:List V->St->Option (V × St)
 | [.nils,.int .i64 n],σ=>if n=0 then some (.nils,σ) else if 0<n/\n<=1000000 then some (.sl σ.length 0 0 0 1 true,σ++[.row (List.replicate n.toNat (.int .i64 0)) 3 0 0]) else none
 | _,_=>none
def Bak{G:List (Nat × List V)}:Sl Tryz.prog G 137 Aan:=by
 refine⟨⟨Tryz.f137,_,by kernel_rfl,rfl,by decide⟩,fun args σ v σ' h us w γ N hl ha hI=>?_⟩;unfold Aan at h
 split at h
 .rename_i n
  match us,hl with
  | [u1,u2],_=>
  have qq:u1=.slice none 0 0:=Me (Bf rfl (ha 0 AE));have qr:u2=.int .i64 n:=Ey (Bf rfl (ha 1 AE));subst qq qr
  split at h
  .rename_i h0;cases h;subst h0;refine(Any8.slices_Grow_room Apr none 0 0 0 w AA AA AA AA).mono ?_;rintro e w' ⟨rfl,rfl⟩;exact⟨_,γ,rfl,Df (.row .nils),hI,Ext.refl _ _,Below.refl _ _,fun _ _=>rfl⟩
  .split at h
   .rename_i hn hc;cases h;obtain⟨k,rfl⟩:∃ k:Nat,n=k:=⟨n.toNat,by omega⟩;rw[Mv];have hk:((Tryz.prog.info? 3).bind fun i=>if i.size=1/\i.bytes=8 then i.zero.map Value.cells else none)=some #[.int .i64 0]:=by kernel_rfl
    cases hi:Tryz.prog.info? 3 with
    | none=>grind
    | some i0=>
    rw[hi,C5]at hk
    split at hk
    rotate_left
    .cases hk
    rename_i qx
    cases hz:i0.zero with
    | none=>grind
    | some z=>
    rw[hz]at hk;have qs:z.cells=#[.int .i64 0]:=Nz hk;refine(Any8.slices_Grow_grow Apr i0 z hi hz AA none 0 0 k [] w AA AA (by grind) AA AE (fun _=>rfl) (fun a h=>by cases h)).mono ?_;rintro e w' ⟨rfl,rfl⟩;rw[qs];have ql:=grownCap_ge w (0+k) 0 (grow_ren.t 25);have qh:=grownCap_le_maxLen w (0+k) 0 (grow_ren.t 25) (by grind[maxLen]);generalize grownCap w (0+k) 0 (grow_ren.t 25)=cap at ql qh;obtain⟨d1,d2⟩:=hI.drew
    have qd:(([]:List Value).toArray++Builtin.zeroCells #[.int .i64 0] (0+k - 0)++Builtin.zeroCells #[.int .i64 0] (cap - (0+k))).size=cap:=by
     simp only[Array.size_append,At4];simp;omega
    obtain⟨i1,i2⟩:=d1.newRow (([]:List Value).toArray++Builtin.zeroCells #[.int .i64 0] (0+k - 0)++Builtin.zeroCells #[.int .i64 0] (cap - (0+k))) 3 (List.replicate k (.int .i64 0)) (by grind) (fun j hj=>by
     rw[Abk]at hj;have e1:(List.replicate k (V.int .i64 0)).getD j .und=.int .i64 0:=by simp[hj]
     have e2:(([]:List Value).toArray++Builtin.zeroCells #[.int .i64 0] (0+k - 0)++Builtin.zeroCells #[.int .i64 0] (cap - (0+k))).getD j undef=.int .i64 0:=by
      rw[Array.getD_eq_getD_getElem?,Array.getElem?_append_left (by grind[At4]),Array.getElem?_append_right AE];rw[show j - ([]:List Value).toArray.size=j from rfl,Bfm AA];rfl
     rw[e1,e2]
     exact .row .int)
    refine⟨_,_,rfl,Df (Aea (blk:=w.heap.size) (m:=1) ?_ ?_ (As _) qh),i1,d2.trans i2,?_,fun b hb=>N1 _ _ (by have:=hI.base;show b≠w.heap.size;omega)⟩
    .show(γ.O++[(w.heap.size,0)])[σ.length]?=_;rw[<-hI.len];simp
    .have:=Yn w.drew (([]:List Value).toArray++Builtin.zeroCells #[.int .i64 0] (0+k - 0)++Builtin.zeroCells #[.int .i64 0] (cap - (0+k))) 3 (0,0);rw[qd]at this;rw[Ya];exact this
    .exact((Below.refl N w).drew).alloc hI.base _
   grind
 grind
inductive TD where
 | i (k:IntKind) | s | b | it | f | sl (e:Nat) | pt (e:Nat) | ar (n e:Nat) | st (fs:List (Nat × Nat)) | mp (v:Nat)
structure TyR where
 d:TD
 z:List V
 n:Nat
 one:Bool
 by':Nat
 pl:Bool
section
variable (ty:Nat->TyR) (gl:Nat->V) (lt:Nat->Nat)
def Ax0:Value->V
 | .bool b=>.bool b
 | .int k n=>.int k n
 | .string s=>.str s.data.toList
 | .pointer _=>.nilp
 | .slice _ _ _=>.nils
 | .nilFunc=>.nilf
 | .nilIface=>.nili
 | _=>.und
def Akm:List Value->List V
 | []=>[]
 | v::l=>Ax0 v::Akm l
def Ayz:Value->V
 | .agg cs=>.agg (Akm cs.toList)
 | .bool b=>.bool b
 | .int k n=>.int k n
 | .string s=>.str s.data.toList
 | .pointer _=>.nilp
 | .slice _ _ _=>.nils
 | .nilFunc=>.nilf
 | .nilIface=>.nili
 | _=>.und
def D5:Operand->S
 | .tmp t=>.t t
 | .const v=>.k (Ayz v)
 | .func f=>.k (.fn f [] [])
 | .global g=>.k (gl g)
def Uw:List Operand->List S
 | []=>[]
 | x::l=>D5 gl x::Uw l
def Af4:Option Operand->Option S
 | none=>none
 | some x=>some (D5 gl x)
def Ax1:TD->Nat->S->Nat × Nat × S
 | .st fs,i,s=>match fs[i]? with
  | some (o,t)=>(o,(ty t).n,s)
  | none=>(0,0,s)
 | .ar _ e,i,s=>(i*(ty e).n,(ty e).n,s)
 | _,_,s=>(0,0,s)
def Akn(d:TD):List (Nat × Operand)->List (Nat × Nat × S)
 | []=>[]
 | (i,x)::l=>Ax1 ty d i (D5 gl x)::Akn d l
def Aln:List (Nat × Operand)->List (Nat × S)
 | []=>[]
 | (i,x)::l=>(i,D5 gl x)::Aln l
def Ay0:Nat->Bool->Nat->TyR->Nat->List (Nat × S)->AO
 | 0,true,_,y,n,ps=>.rows n y.z ps
 | 0,false,_,y,n,ps=>.rowf n y.z ps
 | 1,_,_,y,n,ps=>.rows n y.z ps
 | 2,_,e,y,n,ps=>.rowo e n y.z ps
 | _,_,_,y,n,ps=>.rowf n y.z ps
def Av8:TD->Nat->List (Nat × S)->AO
 | .sl e,n,ps=>Ay0 (lt e) (ty e).pl e (ty e) n ps
 | _,_,_=>.mmk
def Ax2:V->Nat
 | .bool _=>0
 | .str _=>2
 | _=>1
def Aef:List V->List Nat
 | []=>[]
 | x::l=>Ax2 x::Aef l
def Ay1(z:List V):TD->Option EqK
 | .b=>some .bool
 | .sl _=>some .nilsl
 | .pt _=>some .nilpt
 | .f=>some .nilfn
 | .it=>some .nilif
 | .st _=>some (.flat (Aef z))
 | .ar _ _=>some (.flat (Aef z))
 | _=>none
def Ay2:BinOp->Option EqK->S->S->AO
 | .eql,some k,x,y=>.eq k false x y
 | .neq,some k,x,y=>.eq k true x y
 | b,_,x,y=>.bin b x y
def Ay3:TD->TD->S->AO
 | .i _,.i k,x=>.cvi k x
 | _,_,x=>.mov x
def Ay4:TD->S->Option S->Option S->Option S->AO
 | .s,x,l,h,_=>.slcs x l h
 | .sl e,x,l,h,m=>.slc (ty e).n x l h m
 | .ar n e,x,l,h,_=>.slca n (ty e).n x l h
 | _,x,_,_,_=>.mov x
def Av9:TD->TD
 | .pt e=>(ty e).d
 | .s=>.s
 | .sl e=>.sl e
 | .ar n e=>.ar n e
 | d=>d
def Ay5:TD->Nat->S->AO
 | .st fs,i,x=>match fs[i]? with
  | some (o,_)=>.fad o x
  | none=>.mov x
 | _,_,x=>.mov x
def Ay6:TD->Nat->S->AO
 | .st fs,i,x=>match fs[i]? with
  | some (o,t)=>.fld o (ty t).n (ty t).one x
  | none=>.mov x
 | _,_,x=>.mov x
def Ay7:TD->S->S->AO
 | .sl e,x,i=>.iad (ty e).n x i
 | .ar n e,x,i=>.iar n (ty e).n x i
 | _,x,_=>.mov x
def Ay8:TD->S->S->AO
 | .ar n e,x,i=>.ida n (ty e).n (ty e).one x i
 | .s,x,i=>.idx x i
 | _,x,_=>.mov x
def Ax3:TD->S->S->AO
 | .mp e,x,i=>match (ty e).z with
  | [z]=>.mlk z x i
  | _=>.mmk
 | _,x,_=>.mov x
def rMk:TD->S->S->AO
 | .sl e,x,y=>.mk e (ty e).by' (ty e).z x y
 | _,x,_=>.mov x
def Ay9:TD->S->AO
 | _,x=>.mov x
def Aza:TD->S->AO
 | .s,x=>.lens x
 | .sl _,x=>.len x
 | _,x=>.mov x
def Azb:TD->TD->S->S->AO
 | .sl e,.s,x,y=>.apps e x y
 | .sl e,.sl _,x,y=>.app (ty e).by' ((ty e).n,e) x y
 | _,_,x,_=>.mov x
def Awa:Builtin->List S->List Nat->AO
 | .len,[x],[t]=>Aza (ty t).d x
 | .append,[x,y],[t,u]=>Azb ty (ty t).d (ty u).d x y
 | .max,[x,y],_=>.mx x y
 | .min,[x,y],_=>.mn x y
 | _,_,_=>.mmk
def Ax4:Callee->List Operand->List Nat->AO
 | .value (.func f),xs,_=>.call f (Uw gl xs)
 | .value (.tmp t),xs,_=>.callv (.t t) (Uw gl xs)
 | .builtin b,xs,ts=>Awa ty b (Uw gl xs) ts
 | _,_,_=>.mmk
def Azc:Go.Fn->List S->List S->AO
 | _,_,_=>.mmk
def rOp:Op->AO
 | .move x=>.mov (D5 gl x)
 | .assign x=>.mov (D5 gl x)
 | .pick c a b=>.pick (D5 gl c) (D5 gl a) (D5 gl b)
 | .alloc t=>.new t (ty t).z
 | .box t x=>.box t (D5 gl x)
 | .build t ps=>.build (ty t).z (Akn ty gl (ty t).d ps.toList)
 | .buildSlice t n ps=>Av8 ty lt (ty t).d n (Aln gl ps.toList)
 | .load t x=>.load (ty t).n (ty t).one (D5 gl x)
 | .store t x v=>.store (ty t).n (D5 gl x) (D5 gl v)
 | .nilCheck x=>.chk (D5 gl x)
 | .binOp b t x y _=>Ay2 b (Ay1 (ty t).z (ty t).d) (D5 gl x) (D5 gl y)
 | .unOp u _ x=>.un u (D5 gl x)
 | .convert s d x=>Ay3 (ty s).d (ty d).d (D5 gl x)
 | .sliceToArrayPointer t x=>Ay9 (ty t).d (D5 gl x)
 | .makeFunc f a c=>Azc f (Uw gl a.toList) (Uw gl c.toList)
 | .makeMap _ _=>.mmk
 | .makeSlice t x y=>rMk ty (ty t).d (D5 gl x) (D5 gl y)
 | .slice t x l h m=>Ay4 ty (Av9 ty (ty t).d) (D5 gl x) (Af4 gl l) (Af4 gl h) (Af4 gl m)
 | .fieldAddr t x i=>Ay5 (ty t).d i (D5 gl x)
 | .field t x i=>Ay6 ty (ty t).d i (D5 gl x)
 | .indexAddr t x i=>Ay7 ty (ty t).d (D5 gl x) (D5 gl i)
 | .index t x i=>Ay8 ty (ty t).d (D5 gl x) (D5 gl i)
 | .lookup t x i _=>Ax3 ty (ty t).d (D5 gl x) (D5 gl i)
 | .mapUpdate _ x k v=>.mup (D5 gl x) (D5 gl k) (D5 gl v)
 | .extract x i=>.ext i (D5 gl x)
 | .call c=>Ax4 ty gl c.callee c.args.toList c.argTypes.toList
 | _=>.mmk
/-! sets of slots -/
def Ds:Operand->Nat
 | .tmp t=>1 <<< t
 | .const _=>0
 | .func _=>0
 | .global _=>0
def Aao:List Operand->Nat
 | []=>0
 | x::l=>Ds x ||| Aao l
def Af5:Option Operand->Nat
 | none=>0
 | some x=>Ds x
def Aeg:List (Nat × Operand)->Nat
 | []=>0
 | (_,x)::l=>Ds x ||| Aeg l
def Azd:Callee->Nat
 | .value f=>Ds f
 | .invoke r _=>Ds r
 | .builtin _=>0
def uOp:Op->Nat
 | .move x=>Ds x
 | .assign x=>Ds x
 | .pick c a b=>Ds c ||| Ds a ||| Ds b
 | .alloc _=>0
 | .box _ x=>Ds x
 | .build _ ps=>Aeg ps.toList
 | .buildSlice _ _ ps=>Aeg ps.toList
 | .load _ x=>Ds x
 | .store _ x v=>Ds x ||| Ds v
 | .nilCheck x=>Ds x
 | .binOp _ _ x y _=>Ds x ||| Ds y
 | .unOp _ _ x=>Ds x
 | .convert _ _ x=>Ds x
 | .sliceToArrayPointer _ x=>Ds x
 | .makeFunc _ a c=>Aao a.toList ||| Aao c.toList
 | .makeMap _ _=>0
 | .makeSlice _ x y=>Ds x ||| Ds y
 | .slice _ x l h m=>Ds x ||| Af5 l ||| Af5 h ||| Af5 m
 | .fieldAddr _ x _=>Ds x
 | .field _ x _=>Ds x
 | .indexAddr _ x i=>Ds x ||| Ds i
 | .index _ x i=>Ds x ||| Ds i
 | .lookup _ x i _=>Ds x ||| Ds i
 | .mapUpdate _ x k v=>Ds x ||| Ds k ||| Ds v
 | .extract x _=>Ds x
 | .call c=>Azd c.callee ||| Aao c.args.toList
 | _=>0
def Aa0:Nat->Nat->Nat->List Nat
 | 0,_,_=>[]
 | f+1,i,m=>match m==0 with
  | true=>[]
  | false=>match m % 256==0 with
   | true=>Aa0 f (i+8) (m / 256)
   | false=>match m % 2==0 with
    | true=>Aa0 f (i+1) (m / 2)
    | false=>i::Aa0 f (i+1) (m / 2)
def bits(m:Nat):List Nat:=Aa0 800 0 m
def Af6(a b:Nat):Nat:=a ^^^ (a &&& b)
def Af7(all:List Oper):Option (Nat × Bool)->Option (Nat × Bool)
 | none=>none
 | some (j,w)=>match all[j]? with
  | some r=>match r.dst with
   | some d=>some (d,w)
   | none=>none
  | none=>none
def Alo:Option (Nat × Bool)->Nat
 | none=>0
 | some (t,_)=>1 <<< t
def Alp:Option Nat->Nat
 | none=>0
 | some t=>1 <<< t
def rAI:Option Nat->Option (Nat × Bool)->AO->AI
 | some d,none,a=>o d a
 | none,none,a=>on a
 | some d,some (t,w),a=>og d a t w
 | none,some (t,w),a=>oh a t w
def Amv(all:List Oper):List Oper->List AI
 | []=>[]
 | r::l=>rAI r.dst (Af7 all r.guard) (rOp ty gl lt r.op)::Amv all l
def Amw(all:List Oper):List Oper->Nat
 | []=>0
 | r::l=>uOp r.op ||| Alo (Af7 all r.guard) ||| Alp r.dst ||| Amw all l
def Af8(all:List Oper)(out:Nat):List Oper->Nat
 | []=>out
 | r::l=>Af6 (Af8 all out l) (Alp r.dst) ||| uOp r.op ||| Alo (Af7 all r.guard)
def Ax5:Ground->Nat->Nat
 | .textOnly _,_=>0
 | .gcOnly _,_=>0
 | .data,n=>1 <<< n
 | .chain,n=>1 <<< n
 | .guard,n=>1 <<< n
 | .phase,n=>1 <<< n
def Ako:List Edge->Nat
 | []=>0
 | e::l=>Ax5 e.ground e.on ||| Ako l
def Alq:List Oper->List (List Nat)
 | []=>[]
 | r::l=>bits (Ako r.after.toList)::Alq l
def Aze:Bool->List Nat->List Oper->List AI->AC
 | true,kill,os,l=>.drw kill (Alq os) l
 | false,kill,_,l=>.reg kill l
def Af9:List (Nat × Nat)->Nat->Nat
 | [],_=>0
 | (i,m)::l,j=>match i==j with
  | true=>m
  | false=>Af9 l j
def Ot:Code->Nat
 | .seq a b=>Ot a+Ot b
 | .cond _ a b=>Ot a+Ot b
 | .block _ c=>Ot c
 | .scope c=>Ot c
 | .loop c=>Ot c+1
 | _=>0
def Ax6:Op->Bool
 | .makeInterface _ _=>true
 | .panic _=>true
 | _=>false
def Aeh:List Oper->Bool
 | []=>false
 | r::l=>match Ax6 r.op with
  | true=>true
  | false=>Aeh l
def Nk(rs:Nat):Code->List (Nat × Nat)->Nat->Nat
 | .skip,_,out=>out
 | .label _,_,out=>out
 | .ret,_,_=>rs
 | .exit i,ex,_=>Af9 ex i
 | .seq a b,ex,out=>Nk rs a ex (Nk rs b ex out)
 | .cond c a b,ex,out=>Ds c ||| Nk rs a ex out ||| Nk rs b ex out
 | .block i c,ex,out=>Nk rs c ((i,out)::ex) out
 | .scope c,ex,out=>Nk rs c ex out
 | .loop c,ex,_=>
  let h1:=Nk rs c ex 0
  let h2:=h1 ||| Nk rs c ex h1
  let h3:=h2 ||| Nk rs c ex h2
  h3 ||| Nk rs c ex h3
 | .region _ ops _,_,out=>match Aeh ops.toList with
  | true=>0
  | false=>Af8 ops.toList out ops.toList
 | _,_,_=>0
def ixL:List AC->Nat->AC
 | [],_=>.skip
 | c::l,i=>match i==0 with
  | true=>c
  | false=>ixL l (i - 1)
def Q1(ls:List AC)(rs:Nat):Code->List (Nat × Nat)->Nat->Nat->AC × Nat × List AC
 | .skip,_,_,out=>(.skip,out,[])
 | .label _,_,_,out=>(.skip,out,[])
 | .ret,_,_,_=>(.ret,rs,[])
 | .exit i,ex,_,_=>(.exit i,Af9 ex i,[])
 | .seq a b,ex,n,out=>
  let y:=Q1 ls rs b ex (n+Ot a) out
  let x:=Q1 ls rs a ex n y.2.1
  (.seq x.1 y.1,x.2.1,x.2.2++y.2.2)
 | .cond c a b,ex,n,out=>
  let x:=Q1 ls rs a ex n out
  let y:=Q1 ls rs b ex (n+Ot a) out
  (.cond (D5 gl c) (bits (Af6 (Ds c) (x.2.1 ||| y.2.1))) x.1 y.1,Ds c ||| x.2.1 ||| y.2.1,x.2.2++y.2.2)
 | .block i c,ex,n,out=>
  let x:=Q1 ls rs c ((i,out)::ex) n out
  (.blk i x.1,x.2.1,x.2.2)
 | .scope c,ex,n,out=>
  let x:=Q1 ls rs c ex n out
  (.blk 1000000 x.1,x.2.1,x.2.2)
 | .loop c,ex,n,out=>
  let h:=Nk rs (.loop c) ex out
  let x:=Q1 ls rs c ex n h
  (.loop (bits h) (ixL ls (n+Ot c)),h,x.2.2++[x.1])
 | .region _ ops d,_,_,out=>match Aeh ops.toList with
  | true=>(.cond (.k .und) [] .skip .skip,0,[])
  | false=>(Aze d (bits (Af6 (Amw ops.toList ops.toList) out)) ops.toList (Amv ty gl lt ops.toList ops.toList),Af8 ops.toList out ops.toList,[])
 | _,_,_,_=>(.skip,0,[])
def Aga:List ResultVar->List AR
 | []=>[]
 | .tmp t::l=>.tmp t::Aga l
 | .cell t y::l=>.cell t (ty y).n (ty y).one::Aga l
def Aa1:List ResultVar->Nat
 | []=>0
 | .tmp t::l=>1 <<< t ||| Aa1 l
 | .cell t _::l=>1 <<< t ||| Aa1 l
def Alr(ls:List AC)(rs:Nat):Option Code->AC × Nat × List AC
 | some c=>Q1 ty gl lt ls rs c [] 0 rs
 | none=>(.skip,0,[])
def rF(p:Nat)(thr:Bool)(fn:Func)(ls:List AC):AF:=⟨p,Aga ty fn.results.toList,thr,(Alr ty gl lt ls (Aa1 fn.results.toList) fn.body).1,none⟩
def Azf(fn:Func)(ls:List AC):AC:=ixL (Alr ty gl lt ls (Aa1 fn.results.toList) fn.body).2.2 ls.length
end
attribute [go_sem] Ax0 Akm Ayz D5 Uw Af4 Ax1 Akn Aln Ay0 Av8 Ax2 Aef Ay1 Ay2 Ay3 Ay4 Av9 Ay5 Ay6 Ay7 Ay8 Ax3 rMk Ay9 Aza Azb Awa Ax4 Azc rOp Ds Aao Af5 Aeg Azd uOp Aa0 bits Af6 Af7 Alo Alp rAI Amv Amw Af8 Ax5 Ako Alq Aze Af9 Ax6 Aeh Ot Nk ixL Q1 Aga Aa1 Alr rF Azf Nat.reduceShiftLeft Nat.reduceOr Nat.reduceAnd Nat.reduceXor Nat.reduceBEq Nat.reduceMod Nat.reduceDiv Nat.reduceSub
section
variable {α:Type} [DecidableEq α]
def D7:List α->List α->Nat
 | [],_=>0
 | _::_,[]=>0
 | a::s,b::t=>if a=b then 1+D7 s t else max (D7 s (b::t)) (D7 (a::s) t)
theorem Um(t:List α):D7 [] t=0:=by rw[D7]
theorem Z5(s:List α):D7 s []=0:=by cases s<;>rw[D7]
theorem Pl(a b:α)(s t:List α):D7 (a::s) (b::t)=if a=b then 1+D7 s t else max (D7 s (b::t)) (D7 (a::s) t):=by rw[D7]
mutual
theorem Afm(a:α)(s t:List α):D7 s t<=D7 (a::s) t/\D7 (a::s) t<=D7 s t+1:=
 match s,t with
 | s,[]=>by grind[Z5]
 | [],b::t=>by
  have h:=Afm a [] t
  grind[Um,Pl]
 | c::s,b::t=>by
  have h1:=Afm a (c::s) t;have h2:=Als b (c::s) t
  grind[Pl]
termination_by s.length+t.length
theorem Als(b:α)(s t:List α):D7 s t<=D7 s (b::t)/\D7 s (b::t)<=D7 s t+1:=
 match s,t with
 | [],t=>by grind[Um]
 | a::s,[]=>by
  have h:=Als b s []
  grind[Z5,Pl]
 | a::s,c::t=>by
  have h1:=Als b s (c::t);have h2:=Afm a s (c::t)
  grind[Pl]
termination_by s.length+t.length
end
theorem Bal(a b:α)(s t:List α):D7 (a::s) (b::t)=if a=b then max (max (D7 s (b::t)) (D7 (a::s) t)) (1+D7 s t) else max (D7 s (b::t)) (D7 (a::s) t):=by
 grind[Pl,Afm]
theorem Arg:∀ s:List α,D7 s s=s.length
 | []=>Um _
 | a::s=>by rw[Pl,if_pos rfl,Arg s,Be];omega
theorem Aei:∀ (s t:List α),D7 s t<=s.length/\D7 s t<=t.length
 | [],t=>by grind[Um]
 | a::s,[]=>by grind[Z5]
 | a::s,b::t=>by
  have h1:=Aei s t;have h2:=Aei s (b::t);have h3:=Aei (a::s) t
  grind[Pl]
termination_by s t=>s.length+t.length
def Xi(a:α)(s t:List α)(k:Nat):Bool:=decide (t[k]?=some a)&&(1+D7 s (t.drop (k+1))==D7 (a::s) t)
def Nn(a:α)(s t:List α):Option Nat:=(List.range t.length).find? (Xi a s t)
def Du:Nat->List α->List α->List Int
 | _,[],_=>[]
 | j,a::s,t=>match Nn a s t with
  | some k=>((j+k:Nat):Int)::Du (j+k+1) s (t.drop (k+1))
  | none => -1::Du j s t
theorem Zg:∀ (s:List α) (j:Nat) (t:List α),(Du j s t).length=s.length
 | [],_,_=>by grind[Du]
 | a::s,j,t=>by
  rw[Du]
  split
  .rw[Be,Zg s,Be]
  .rw[Be,Zg s,Be]
def Arh{a:α}{s t:List α}{k:Nat}(h:Nn a s t=some k):k<t.length/\t[k]?=some a/\1+D7 s (t.drop (k+1))=D7 (a::s) t:=by
 have h1:=List.find?_some h;have h2:=List.mem_of_find?_eq_some h
 simp_all [Xi]
theorem A51(a:α)(s:List α):Nn a s (a::s)=some 0:=by
 grind[Nn,List.range_succ_eq_map,Xi,Arg]
def Ac9:∀ (s:List α) (j:Nat) (t:List α) (i:Nat) (n:Int),(Du j s t)[i]?=some n->n = -1\/∃ k,n=((j+k:Nat):Int)/\k<t.length/\t[k]?=s[i]?/\∀ i' n',i'<i->(Du j s t)[i']?=some n'->n'<n
 | [],_,_,i,n,h=>by grind[Du]
 | a::s,j,t,i,n,h=>by
  rw[Du]at h ⊢
  split at h
  .rename_i k hk;obtain⟨h1,h2,-⟩:=Arh hk
   cases i with
   | zero=>
    grind
   | succ i=>
    rw[O7]at h;rcases Ac9 s (j+k+1) (t.drop (k+1)) i n h with h3 | ⟨m,rfl,h4,h5,h6⟩
    .omega
    grind
  .rename_i hk
   cases i with
   | zero=>grind
   | succ i=>
    rw[O7]at h;rcases Ac9 s j t i n h with h3 | ⟨m,rfl,h4,h5,h6⟩
    .omega
    grind
end
section
variable {α β:Type} [DecidableEq α] [DecidableEq β]
def Ce(s t:List α)(i j:Nat):Nat:=D7 (s.drop i) (t.drop j)
theorem Bfn(s t:List α)(j:Nat):Ce s t s.length j=0:=by grind[Ce,Um]
theorem Bfo(s t:List α)(i:Nat):Ce s t i t.length=0:=by grind[Ce,Z5]
def A52(s t:List α){i j:Nat}(hi:i<s.length)(hj:j<t.length):Ce s t i j=if s[i]=t[j] then max (max (Ce s t (i+1) j) (Ce s t i (j+1))) (1+Ce s t (i+1) (j+1)) else max (Ce s t (i+1) j) (Ce s t i (j+1)):=by
 grind[Ce,List.drop_eq_getElem_cons,Bal]
def Bam(s t:List α){i j:Nat}(hi:i<s.length)(hj:j<t.length):Ce s t i j=if s[i]=t[j] then 1+Ce s t (i+1) (j+1) else max (Ce s t (i+1) j) (Ce s t i (j+1)):=by
 grind[Ce,List.drop_eq_getElem_cons,Pl]
def Ads(s t:List α)(i j:Nat):Ce s t i j<=s.length/\Ce s t i j<=t.length:=by
 grind[Aei,Ce]
def Dj(s t:List α)(i j:Nat):List Int:=(List.range (t.length+1)).map fun k=>if j<=k then(Ce s t i k:Int) else 0
def Gu(s t:List α)(i:Nat):List Int:=(List.range (t.length+1)).map fun k=>(Ce s t i k:Int)
def K9(s t:List α):List (List Int):=(List.range (s.length+1)).map (Gu s t)
theorem Ada(s t:List α)(i j:Nat):(Dj s t i j).length=t.length+1:=by grind[Dj]
theorem Adb(s t:List α)(i:Nat):(Gu s t i).length=t.length+1:=by grind[Gu]
def Yg(s t:List α)(i:Nat):Dj s t i 0=Gu s t i:=by grind[Dj,Gu]
def Ari(s t:List α)(i:Nat):Dj s t i t.length=List.replicate (t.length+1) 0:=by
 unfold Dj;refine Ri AE fun k h1 h2=>?_
 grind[Bfo]
def Arj(s t:List α):Gu s t s.length=List.replicate (t.length+1) 0:=by
 unfold Gu;refine Ri AE fun k h1 h2=>?_
 grind[Bfn]
def Aiq(s t:List α){i j k:Nat}(hk:k<=t.length)(hj:j<=k):(Dj s t i j)[k]?=some (Ce s t i k:Int):=by
 grind[Dj]
def Rr(s t:List α){i k:Nat}(hk:k<=t.length):(Gu s t i)[k]?=some (Ce s t i k:Int):=by rw[<-Yg,Aiq s t hk (As _)]
def Yu(s t:List α){i:Nat}(hi:i<=s.length):(K9 s t)[i]?=some (Gu s t i):=by
 grind[K9]
theorem V7(s t:List α){i j:Nat}(hj:j<t.length):(Dj s t i (j+1)).set j (Ce s t i j:Int)=Dj s t i j:=by
 unfold Dj;refine Ri AE fun k h1 h2=>?_
 grind
/-! the search for the next line -/
def O0(s t:List α)(i j k:Nat):Prop:=s[i]?=t[k]?/\1+Ce s t (i+1) (k+1)=Ce s t i j
def Bfp{s t:List α}{i j k:Nat}(hi:i<s.length)(hj:j<=k)(hk:k<t.length)(h:O0 s t i j k)(hn:∀ k',j<=k'->k'<k->¬ O0 s t i j k'):Nn s[i] (s.drop (i+1)) (t.drop j)=some (k - j):=by
 have hc:∀ m,j+m<t.length->(Xi s[i] (s.drop (i+1)) (t.drop j) m=true↔O0 s t i j (j+m)):=fun m hm=>by
  unfold Xi O0 Ce;rw[<-Ib hi];simp only[Al,decide_eq_true_eq,beq_iff_eq,List.getElem?_drop,Abw]
  grind
 grind[Nn,List.find?_eq_some_iff_getElem]
def At5{s t:List α}{i j k:Nat}(hi:i<s.length)(hj:j<=k)(hk:k<t.length)(h:O0 s t i j k)(hn:∀ k',j<=k'->k'<k->¬ O0 s t i j k'):Du j (s.drop i) (t.drop j)=(k:Int)::Du (k+1) (s.drop (i+1)) (t.drop (k+1)):=by
 rw[Ib hi,Du,Bfp hi hj hk h hn]
 grind[List.drop_drop]
def Ark{s t:List α}{i j:Nat}(hi:i<s.length)(hn:∀ k,j<=k->k<t.length->¬ O0 s t i j k):Du j (s.drop i) (t.drop j) = -1::Du j (s.drop (i+1)) (t.drop j):=by
 rw[Ib hi,Du]
 have:Nn s[i] (s.drop (i+1)) (t.drop j)=none:=by
  cases he:Nn s[i] (s.drop (i+1)) (t.drop j) with
  | none=>rfl
  | some m=>
   obtain⟨h1,h2,h3⟩:=Arh he;rw[Gi]at h1;refine absurd ?_ (hn (j+m) AA AA);rw[List.getElem?_drop]at h2;rw[Abw,<-Ib hi]at h3;exact⟨by grind,h3⟩
 rw[this]
theorem At6:∀ (s:List α) (j:Nat),Du j s []=List.replicate s.length (-1)
 | [],_=>by grind[Du]
 | a::s,j=>by
  rw[Du];have:Nn a s ([]:List α)=none:=by unfold Nn;simp
  rw[this];simp only;rw[At6 s,Be,Agw]
/-! both programs -/
def G8(nm:β):List (β × List α)->Nat × Option (List α)
 | []=>(0,none)
 | q::r=>if q.1=nm then(0,some q.2) else(q.2.length+(G8 nm r).1,(G8 nm r).2)
def Je(b:Nat)(l:List Int):List Int:=l.map fun k=>if 0<=k then k+b else k
def Jo(p:β × List α)(Q:List (β × List α)):List Int:=Je (G8 p.1 Q).1 (Du 0 p.2 ((G8 p.1 Q).2.getD []))
def Ii(P Q:List (β × List α)):List Int:=P.flatMap fun p=>Jo p Q
def G9(P:List (β × List α)):List (β × α):=P.flatMap fun p=>p.2.map fun x=>(p.1,x)
def A53(p:β × List α)(Q:List (β × List α)):(Jo p Q).length=p.2.length:=by grind[Jo,Je,Zg]
theorem Aps{p:β × List α}{Q:List (β × List α)}(h:(G8 p.1 Q).2=none):Jo p Q=List.replicate p.2.length (-1):=by
 grind[Jo,Je,At6,List.map_replicate]
def An2(p:β × List α)(P Q:List (β × List α)):Ii (p::P) Q=Jo p Q++Ii P Q:=by grind[Ii]
def Acg(p:β × List α)(P:List (β × List α)):G9 (p::P)=(p.2.map fun x=>(p.1,x))++G9 P:=by grind[G9]
def Ahm:∀ P Q:List (β × List α),(Ii P Q).length=(G9 P).length
 | [],_=>rfl
 | p::P,Q=>by rw[An2,Acg,Aj,Aj,A53,Av,Ahm P Q]
def Aom{nm:β}:∀ {Q:List (β × List α)} {l:List α},(G8 nm Q).2=some l->∀ m x,l[m]?=some x->(G9 Q)[(G8 nm Q).1+m]?=some (nm,x)
 | [],l,h,m,x,hx=>by grind[G8]
 | q::Q,l,h,m,x,hx=>by
  rw[G8]at h ⊢;rw[Acg]
  split at h
  .grind
  .rename_i hq;rw[if_neg hq];simp only at h ⊢;rw[Fk (by grind),Av,show q.2.length+(G8 nm Q).1+m - q.2.length=(G8 nm Q).1+m by omega];exact Aom h m x hx
def A22{p:β × List α}{Q:List (β × List α)}{i:Nat}{n:Int}(h:(Jo p Q)[i]?=some n):n = -1\/∃ k:Nat,n=k/\(∃ x,p.2[i]?=some x/\(G9 Q)[k]?=some (p.1,x))/\∀ i' n',i'<i->(Jo p Q)[i']?=some n'->n'<n:=by
 cases hf:(G8 p.1 Q).2 with
 | none=>
  grind[Aps]
 | some l=>
  unfold Jo Je at h ⊢;rw[hf,X2]at h ⊢;rw[Ak]at h
  cases hm:(Du 0 p.2 l)[i]? with
  | none=>grind
  | some m=>
   rw[hm,I9,Abt]at h;rcases Ac9 p.2 0 l i m hm with rfl | ⟨k,rfl,h1,h2,h3⟩
   .omega
   .rw[if_pos AA]at h;have hk:=Cb h1;refine .inr ⟨(G8 p.1 Q).1+k,by omega,⟨l[k],by grind,Aom hf k _ hk⟩,fun i' n' hi hn=>?_⟩
    grind
end
section
variable {α β:Type} [DecidableEq α] [DecidableEq β]
theorem A23(A B:List (β × List α)):(G9 (A++B)).length=(G9 A).length+(G9 B).length:=by grind[G9]
def Ahn{nm:β}:∀ {A B:List (β × List α)},(∀ q∈A,q.1≠nm)->G8 nm (A++B)=((G9 A).length+(G8 nm B).1,(G8 nm B).2)
 | [],B,_=>by grind[G9]
 | q::A,B,h=>by
  rw[Mw,G8,if_neg (h q Cz),Ahn fun r hr=>h r (Dl _ hr),Acg,Aj,Av]
  grind
def Np(nm:β)(Q:List (β × List α))(k:Nat):Prop:=∀ q∈Q.take k,q.1≠nm
def Arl(nm:β)(Q:List (β × List α)):Np nm Q 0:=fun q hq=>by grind
def Arm{nm:β}{Q:List (β × List α)}{k:Nat}(h:Np nm Q k){q:β × List α}(hq:Q[k]?=some q)(hn:q.1≠nm):Np nm Q (k+1):=fun r hr=>by
 rw[Ld,hq]at hr;rcases Cs.1 hr with hr | hr
 .exact h r hr
 grind
def Gd(Q:List (β × List α))(k:Nat):Nat:=(G9 (Q.take k)).length
def Aho{Q:List (β × List α)}{k:Nat}{q:β × List α}(hq:Q[k]?=some q):Gd Q (k+1)=Gd Q k+q.2.length:=by
 grind[Gd,List.take_add_one,G9]
def Yv(Q:List (β × List α))(k:Nat):Gd Q k<=(G9 Q).length:=by
 grind[Gd,A23,List.take_append_drop]
def A24{nm:β}{Q:List (β × List α)}{k:Nat}{q:β × List α}(h:Np nm Q k)(hq:Q[k]?=some q)(hn:q.1=nm):G8 nm Q=(Gd Q k,some q.2):=by
 obtain⟨hk,he⟩:=An.1 hq;have:=Ahn (B:=Q.drop k) h;rw[Hy,Ib hk,he,G8,if_pos hn]at this;exact this
theorem A1d{nm:β}{Q:List (β × List α)}(h:Np nm Q Q.length):G8 nm Q=(Gd Q Q.length,none):=by
 have:=Ahn (B:=[]) h
 grind[G8,Gd]
inductive FoundR (nm:β) (Q:List (β × List α)) (k:Nat):Int->Nat->Prop
 | no:Np nm Q k->FoundR nm Q k (-1) (Gd Q k)
 | yes {j:Nat} {q:β × List α}:j<k->Np nm Q j->Q[j]?=some q->q.1=nm->FoundR nm Q k (j:Int) (Gd Q j)
def A1e(nm:β)(Q:List (β × List α)):FoundR nm Q 0 (-1) 0:=.no (Arl nm Q)
def A25{nm:β}{Q:List (β × List α)}{k:Nat}{q:β × List α}(h:Np nm Q k)(hq:Q[k]?=some q)(hn:q.1=nm):FoundR nm Q (k+1) (k:Int) (Gd Q k):=.yes (Vm k) h hq hn
def A1f{nm:β}{Q:List (β × List α)}{k j b:Nat}(h:FoundR nm Q k (j:Int) b):FoundR nm Q (k+1) (j:Int) b:=by
 generalize hf:(j:Int)=f at h
 cases h with
 | no h=>omega
 | yes h1 h2 h3 h4=>exact .yes AA h2 h3 h4
theorem A1g{nm:β}{Q:List (β × List α)}{k:Nat}{q:β × List α}(h:Np nm Q k)(hq:Q[k]?=some q)(hn:q.1≠nm):FoundR nm Q (k+1) (-1) (Gd Q k+q.2.length):=by
 rw[<-Aho hq];exact .no (Arm h hq hn)
def Arn{nm:β}{s:List α}{Q:List (β × List α)}{k:Nat}{q:β × List α}(h:Np nm Q k)(hq:Q[k]?=some q)(hn:q.1=nm):Jo (nm,s) Q=Je (Gd Q k) (Du 0 s q.2):=by
 unfold Jo;rw[A24 h hq hn,X2]
def Apt{nm:β}{s:List α}{Q:List (β × List α)}(h:Np nm Q Q.length):Jo (nm,s) Q=List.replicate s.length (-1)/\Jo (nm,s) Q=Je (Gd Q Q.length) (Du 0 s []):=by
 grind[A1d,Aps,Jo]
def An3{P:List (β × List α)}{i:Nat}{p:β × List α}(Q:List (β × List α))(h:P[i]?=some p):Ii (P.take (i+1)) Q=Ii (P.take i) Q++Jo p Q:=by
 grind[Ii,List.take_add_one]
end
def Br(l:List Int):List V:=l.map fun x=>.int .i64 x
def U5(R:List (List Int)):V:=.lst 0 (R.map fun r=>[.lst 0 (r.map fun x=>[.int .i64 x])])
def O1(L:List (Nat × List Int)):List V:=L.map fun p=>.sl p.1 0 0 p.2.length 1 true
def Apu(l:List Int):Br l=(l.map fun x=>[V.int .i64 x]).flatten:=by
 induction l with
 | nil=>rfl
 | cons a l ih=>rw[Bh,Gv,<-ih];rfl
def Aro:∀ l:List V,Fi 1 l.length l=l.map fun x=>[x]
 | []=>rfl
 | a::l=>by rw[Be,Fi,Bh,List.drop_succ_cons,Mc,Aro l];rfl
def An4{σ:St}{js:List Nat}{d:Nat}:∀ {L:List (Nat × List Int)},(∀ p∈L,∃ e z,σ[p.1]?=some (.row (Br p.2) e 0 z))->(∀ p∈L,p.1∈js) ->
  (O1 L).mapM (Fg σ js (d+2))=some (L.map fun p=>.lst 0 (p.2.map fun x=>[V.int .i64 x]))
 | [],_,_=>rfl
 | p::L,h,hj=>by
  have ih:=An4 (d:=d) (fun q hq=>h q (Dl _ hq)) fun q hq=>hj q (Dl _ hq)
  obtain⟨e,z,ho⟩:=h p Cz;have hp:=hj p Cz;have h1:=Ps (xs:=p.2.map fun x=>[V.int .i64 x]) (w:=true) (m:=1) (by rw[<-Apu];exact ho) AA (fun r hr=>by grind) (fun r hr=>by obtain⟨x,-,rfl⟩:=Di.1 hr;rfl);have h2:=h1 js (fun i hi=>by grind[V.refs]) d
  grind[O1]
def A1h{σ:St}{o e z:Nat}{js:List Nat}{d:Nat}{L:List (Nat × List Int)}(ho:σ[o]?=some (.row (O1 L) e 0 z))(h:∀ p∈L,∃ e z,σ[p.1]?=some (.row (Br p.2) e 0 z))(hj:∀ p∈L,p.1∈js)(qp:o∈js):
  Fg σ js (d+3) (.sl o 0 0 L.length 1 true)=some (U5 (L.map fun p=>p.2)):=by
 have hl:(O1 L).length=L.length:=by unfold O1;rw[Av]
 have he:js.elem o=true:=by simpa using qp
 unfold Fg;rw[if_neg AN];simp only[he,if_true,ho];rw[if_pos ⟨trivial,by omega,by omega⟩,Mc,Ya,<-hl,Dh,An4 h hj,I9];unfold U5;have qf:(O1 L).length=(L.map fun p=>V.lst 0 (p.2.map fun x=>[V.int .i64 x])).length:=by rw[hl,Av]
 rw[qf,Aro,Ahd,Ahd];rfl
def Adc{R:List (List Int)}{i:Nat}{r:List Int}(h:R[i]?=some r):(R.map fun r=>[V.lst 0 (r.map fun x=>[V.int .i64 x])])[i]?=some [.lst 0 (r.map fun x=>[.int .i64 x])]:=by
 grind
def Afn{r:List Int}{j:Nat}{x:Int}(h:r[j]?=some x):(r.map fun x=>[V.int .i64 x])[j]?=some [.int .i64 x]:=by
 grind
def A54{r:List Int}{j:Nat}{x:Int}(h:r[j]?=some x):(Br r)[j]?=some (.int .i64 x):=by
 grind[Br]
theorem A55(r:List Int)(j:Nat)(x:Int):(Br r).set j (.int .i64 x)=Br (r.set j x):=by
 grind[Br,List.map_set]
def Yw(n:Nat):List.replicate n (V.int .i64 0)=Br (List.replicate n 0):=by
 grind[Br,List.map_replicate]
def Awb{T:Nat->Option AF}{pr:Nat->Option (List V->Option V)}{f p:Nat}{res:List AR}{body:AC}{vs:List V}{R:List (List Int)}(hT:T f=some ⟨p,res,false,body,none⟩)(hl:vs.length=p)
  (h:W T pr [.c body] (C7 0 vs) [] (Hd fun e' σ1=>∃ (o e z:Nat) (L:List (Nat × List Int)),Ca e' σ1 res=some (.sl o 0 0 L.length 1 true)/\σ1[o]?=some (.row (O1 L) e 0 z)/\(∀ p∈L,∃ e z,σ1[p.1]?=some (.row (Br p.2) e 0 z))/\(L.map fun p=>p.2)=R)):Fn T pr f vs (U5 R):=by
 obtain⟨e',σ1,hE,o,e,z,L,hr,ho,hL,rfl⟩:=h;refine Apj hT rfl rfl hl ⟨e',σ1,hE,.sl o 0 0 L.length 1 true,o::L.map fun p=>p.1,hr,rfl,?_,rfl,rfl⟩;exact A1h (d:=6) ho hL (fun p hp=>Dl _ (Di.2 ⟨p,hp,rfl⟩)) Cz
variable {α:Type} [DecidableEq α]
/-! version.common: the rows from i on are there; row k is object 1 + (n - k) -/
def Q7(m b:Nat):V:=.sl b 0 0 (m+1) 1 true
def E8(n m i:Nat):List V:=(List.range (n+1)).map fun k=>if k<i then .nils else Q7 m (1+(n - k))
def Fv(s t:List α)(k:Nat):List (List Int):=(List.range k).map fun d=>Gu s t (s.length - d)
def Gn(OT IT n m i:Nat)(R:List (List Int)):St:=.row (E8 n m i) OT 0 0::R.map fun r=>.row (Br r) IT 0 0
theorem Air(n m i:Nat):(E8 n m i).length=n+1:=by grind[E8]
def A26(n m:Nat):(List.replicate (n+1) V.nils).set n (Q7 m 1)=E8 n m n:=by
 unfold E8;refine Ri AE fun k h1 h2=>?_
 grind
def A56{n m i:Nat}(hi:i<n):(E8 n m (i+1)).set i (Q7 m (1+(n - i)))=E8 n m i:=by
 unfold E8;refine Ri AE fun k h1 h2=>?_
 grind
def A57{n m i k:Nat}(h:i<=k)(hk:k<=n):(E8 n m i)[k]?=some (Q7 m (1+(n - k))):=by
 unfold E8
 grind
def Ah4(s t:List α)(k:Nat):(Fv s t k).length=k:=by grind[Fv]
def A1i(s t:List α)(k:Nat):Fv s t k++[Gu s t (s.length - k)]=Fv s t (k+1):=by
 grind[Fv,List.range_succ]
def Ban(OT IT n m i:Nat)(R:List (List Int)):(Gn OT IT n m i R).length=1+R.length:=by grind[Gn]
def Bao(OT IT n m i:Nat)(R:List (List Int))(r:List Int):Gn OT IT n m i R++[.row (Br r) IT 0 0]=Gn OT IT n m i (R++[r]):=by
 grind[Gn]
def Ajm(OT IT n m i:Nat){R:List (List Int)}{k:Nat}{r:List Int}(h:R[k]?=some r):(Gn OT IT n m i R)[1+k]?=some (.row (Br r) IT 0 0):=by
 grind[Gn]
def Bap(OT IT n m i:Nat)(R:List (List Int))(k:Nat)(r:List Int):(Gn OT IT n m i R).set (1+k) (.row (Br r) IT 0 0)=Gn OT IT n m i (R.set k r):=by
 grind[Gn,List.map_set]
def A1j(s t:List α){i:Nat}(hi:i<s.length)(r:List Int):(Fv s t (s.length - i)++[r])[s.length - (i+1)]?=some (Gu s t (i+1)):=by
 grind[Fv]
def A27(s t:List α)(i:Nat)(r:List Int):(Fv s t (s.length - i)++[r])[s.length - i]?=some r:=by
 simp[Ah4]
def A28(s t:List α)(i:Nat)(r r':List Int):(Fv s t (s.length - i)++[r]).set (s.length - i) r'=Fv s t (s.length - i)++[r']:=by
 simp[Ah4]
def A1k(s t:List α){i:Nat}(hi:i<=s.length):Fv s t (s.length - i)++[Gu s t i]=Fv s t (s.length - i+1):=by
 rw[<-A1i,show s.length - (s.length - i)=i by omega]
def vL(s t:List α):List (Nat × List Int):=(List.range (s.length+1)).map fun k=>(1+(s.length - k),Gu s t k)
def Bfq(s t:List α):(vL s t).length=s.length+1:=by grind[vL]
def Bfr(s t:List α):((vL s t).map fun p=>p.2)=K9 s t:=by
 simp[vL,K9]
def Bfs(s t:List α):O1 (vL s t)=E8 s.length t.length 0:=by
 unfold O1 vL E8 Q7;simp[Adb]
def Baq(OT IT:Nat)(s t:List α):∀ p∈vL s t,∃ e z,(Gn OT IT s.length t.length 0 (Fv s t (s.length+1)))[p.1]?=some (.row (Br p.2) e 0 z):=by
 intro p hp;unfold vL at hp;obtain⟨k,hk,rfl⟩:=Di.1 hp;rw[Hi]at hk;refine⟨IT,0,Ajm _ _ _ _ _ ?_⟩
 grind[Fv]
/-! the reference's common: all rows are there; row k is object 1 + k -/
def E9(n m i:Nat):List V:=(List.range (n+1)).map fun k=>if k<i then Q7 m (1+k) else .nils
def El(s t:List α)(i j:Nat):List (List Int):=(List.range (s.length+1)).map fun k=>if k<i then Dj s t k t.length else if k=i then Dj s t i j else Gu s t k
def Ei(OT IT n m i:Nat)(R:List (List Int)):St:=.row (E9 n m i) OT 0 0::R.map fun r=>.row (Br r) IT 0 0
theorem Ais(n m i:Nat):(E9 n m i).length=n+1:=by grind[E9]
def A29(n m:Nat):E9 n m 0=List.replicate (n+1) V.nils:=by
 unfold E9;refine Ri AE fun k h1 h2=>?_
 grind
def A58{n m i:Nat}(hi:i<=n):(E9 n m i).set i (Q7 m (1+i))=E9 n m (i+1):=by
 unfold E9;refine Ri AE fun k h1 h2=>?_
 grind
def A59{n m k i:Nat}(hk:k<i)(hn:k<=n):(E9 n m i)[k]?=some (Q7 m (1+k)):=by
 unfold E9
 grind
def Bar(OT IT n m i:Nat)(R:List (List Int)):(Ei OT IT n m i R).length=1+R.length:=by grind[Ei]
def Bas(OT IT n m i:Nat)(R:List (List Int))(r:List Int):Ei OT IT n m i R++[.row (Br r) IT 0 0]=Ei OT IT n m i (R++[r]):=by
 grind[Ei]
def Zh(OT IT n m i:Nat){R:List (List Int)}{k:Nat}{r:List Int}(h:R[k]?=some r):(Ei OT IT n m i R)[1+k]?=some (.row (Br r) IT 0 0):=by
 grind[Ei]
def At7(OT IT n m i:Nat)(R:List (List Int))(k:Nat)(r:List Int):(Ei OT IT n m i R).set (1+k) (.row (Br r) IT 0 0)=Ei OT IT n m i (R.set k r):=by
 grind[Ei,List.map_set]
def A3a(s t:List α)(i j:Nat):(El s t i j).length=s.length+1:=by grind[El]
theorem A0r(s t:List α):El s t s.length 0=List.replicate (s.length+1) (List.replicate (t.length+1) 0):=by
 unfold El;refine Ri AE fun k h1 h2=>?_
 rw[List.getElem_map,Agz,List.getElem_replicate];simp at h2;by_cases h:k<s.length
 .simp_all [Ari]
 .have e:k=s.length:=by omega
  simp_all [Yg,Arj]
def A1l(s t:List α){i:Nat}(hi:i<s.length):El s t (i+1) 0=El s t i t.length:=by
 unfold El;refine List.map_congr_left fun k _=>?_
 by_cases h:k<i
 .grind
 .by_cases h2:k=i
  .grind
  .by_cases h3:k=i+1
   .subst h3;rw[if_neg AA,if_pos rfl,if_neg AA,if_neg AA,Yg]
   grind
def A3b(s t:List α){i j:Nat}(hi:i<=s.length):(El s t i j)[i]?=some (Dj s t i j):=by
 unfold El
 grind
def A1m(s t:List α){i j:Nat}(hi:i<s.length):(El s t i j)[i+1]?=some (Gu s t (i+1)):=by
 unfold El
 grind
theorem Apv(s t:List α){i j:Nat}(hi:i<=s.length)(hj:j<t.length):(El s t i (j+1)).set i ((Dj s t i (j+1)).set j (Ce s t i j:Int))=El s t i j:=by
 rw[V7 s t hj];unfold El;refine Ri AE fun k h1 h2=>?_
 grind
def A1n(s t:List α):El s t 0 0=K9 s t:=by
 simp_all [El,K9,Yg]
def rL(s t:List α):List (Nat × List Int):=(List.range (s.length+1)).map fun k=>(1+k,Gu s t k)
def Bft(s t:List α):(rL s t).length=s.length+1:=by grind[rL]
def Bfu(s t:List α):((rL s t).map fun p=>p.2)=K9 s t:=by
 simp[rL,K9]
def Bfv(s t:List α):O1 (rL s t)=E9 s.length t.length (s.length+1):=by
 unfold O1 rL E9 Q7;simp[Adb]
def Bat(OT IT i:Nat)(s t:List α):∀ p∈rL s t,∃ e z,(Ei OT IT s.length t.length i (K9 s t))[p.1]?=some (.row (Br p.2) e 0 z):=by
 intro p hp;unfold rL at hp;obtain⟨k,hk,rfl⟩:=Di.1 hp;rw[Hi]at hk;exact⟨IT,0,Zh _ _ _ _ _ (Yu s t AA)⟩
open Go Go.RowKit Go.Sort
def gPow:List V:=Lib.pow10Tab.map fun z=>.int .u64 z
variable {G:List (Nat × List V)}
def A6a:Tryz.prog.globalNamed "internal/strconv.uint64pow10"=some 2:=by kernel_rfl
def Awc{κ:E1}{w:World}(h:∀ g r,(g,r)∈G->RepC ⟨κ,[]⟩ w (.imm r 0) (.pointer (some ⟨g,0,none⟩)))(hs:∀ g r,(g,r)∈G->Ep w g=some r.length)(qa:(2,gPow)∈G):
  Lib.TabIs Tryz.prog w "internal/strconv.uint64pow10" .u64 Lib.pow10Tab:=by
 have h1:=h _ _ qa;have h2:=hs _ _ qa;obtain⟨b,o,k,row,hu,h3,h4,h5,h6⟩:=Mz h1;simp at hu;obtain⟨rfl,rfl⟩:=hu;unfold Ep at h2
 split at h2
 .rename_i cs e fz hh;simp only[Abt]at h2;unfold Lib.TabIs World.var?;rw[A6a];simp only[C5,hh];congr 1;apply Array.ext
  .grind[gPow]
  .intro i qm qn;have qc:i<gPow.length:=by omega
   have a1:=h5 i qc;have a2:=h6 i qc;have qo:i<Lib.pow10Tab.length:=by simpa[gPow] using qc
   rw[show gPow.getD i .und=.int .u64 Lib.pow10Tab[i] by grind[gPow]]at a2;have a3:=Ey (γ:=⟨κ,[]⟩) (.row a2)
   grind[World.cell?]
 grind
def Rp{κ:E1}{w w':World}{v:V}{u:Value}{e:Ending}(hd:∀ b k,κ b=some k->b<w.heap.size)(hv:∀ κ' w',RepV ⟨κ',[]⟩ w' v u)(h:e=.returned u/\Below w.heap.size w w'):
  ∃ u κ',e=.returned u/\RepV ⟨κ',[]⟩ w' v u/\Below w.heap.size w w'/\(∀ b,b<w.heap.size->κ' b=κ b)/\∀ b k,κ' b=some k->b<w'.heap.size:=
 ⟨_,κ,h.1,hv κ w',h.2,fun _ _=>rfl,fun b k hk=>O8 (hd b k hk) h.2.size⟩
def Ait{κ:E1}{w w':World}{l:List UInt8}{e:Ending}(hd:∀ b k,κ b=some k->b<w.heap.size)(hl:l.length<=maxLen)(h:e=.returned (.string ⟨l.toArray⟩)/\Below w.heap.size w w'):
  ∃ u κ',e=.returned u/\RepV ⟨κ',[]⟩ w' (.str l) u/\Below w.heap.size w w'/\(∀ b,b<w.heap.size->κ' b=κ b)/\∀ b k,κ' b=some k->b<w'.heap.size:=
 ⟨_,κ,h.1,Df (.row (.str hl)),h.2,fun _ _=>rfl,fun b k hk=>O8 (hd b k hk) h.2.size⟩
theorem Aon(w:World)(k:Nat)(os:Array Obj):Below w.heap.size w (grow (w.drewN k) os):=
 ⟨rfl,rfl,rfl,by simp_all,fun k hk=>by grind[grow,World.drewN]⟩
/-! numerals, so that they can be run -/
def O2:Nat->Nat->List UInt8
 | 0,_=>[]
 | k+1,u=>if u<10 then [UInt8.ofNat (48+u)] else O2 k (u / 10)++[UInt8.ofNat (48+u % 10)]
theorem At8:∀ (k u:Nat),u<10 ^ (k+1)->O2 (k+1) u=Lib.decDigits u
 | 0,u,h=>by
  simp_all [Lib.decDigits,O2]
 | k+1,u,h=>by
  rw[Lib.decDigits];unfold O2
  split
  .rfl
  .rw[At8 k (u / 10) AA]
def Cy(n:Int):List UInt8:=if n<0 then 45::O2 20 n.natAbs else O2 20 n.toNat
def Arp(n:Int)(h1 : -9223372036854775808<=n)(h2:n<=9223372036854775807):Cy n=Lib.itoa n:=by
 grind[Cy,Lib.itoa,At8]
def Pz:List V->Option V
 | [.int .i64 n,.int .i64 10]=>if -9223372036854775808<=n/\n<=9223372036854775807 then some (.str (Cy n)) else none
 | _=>none
def W2:List V->Option V
 | [.int .i64 n]=>if -9223372036854775808<=n/\n<=9223372036854775807 then some (.str (Cy n)) else none
 | _=>none
def Xj:List V->Option V
 | [.str s,.int .i64 c]=>if 0<=c/\c<=9223372036854775807/\s.length*c.toNat<=140737488355328 then some (.str (Lib.repeatL s c.toNat)) else none
 | _=>none
def hpS:List V->Option V
 | [.str s,.str p]=>some (.bool (Lib.hasPrefix s p))
 | _=>none
def Vc{α:Type}{us:List α}(h:2=us.length):∃ a b,us=[a,b]:=by
 match us,h with
 | [a,b],_=>grind
def Azg{α:Type}{us:List α}(h:1=us.length):∃ a,us=[a]:=by
 match us,h with
 | [a],_=>grind
def Bfw(qa:(2,gPow)∈G):Iy Tryz.prog G 68 Pz:=by
 refine⟨⟨Tryz.f68,_,by kernel_rfl,rfl,by decide⟩,fun κ w vs us v hg hs hd hl ha h=>?_⟩;unfold Pz at h
 split at h
 .rename_i n
  split at h
  .rename_i hn;cases h;obtain⟨a,b,rfl⟩:=Vc hl;have h1:=Ey (H0 rfl (ha 0 AE));have h2:=Ey (H0 rfl (ha 1 AE));have h1:a=.int .i64 n:=h1;have h2:b=.int .i64 10:=h2;subst h1 h2;rw[Arp n hn.1 hn.2];refine(Tryz.strconv_FormatInt_10 n hn.1 hn.2 w (Awc hg hs qa)).mono fun e w' hh=>Ait hd (by grind[Lib.itoa_length_le,maxLen]) ?_
   obtain⟨h,k,os,rfl⟩:=hh
   grind[Aon]
  grind
 grind
def Bau(qa:(2,gPow)∈G):Iy Tryz.prog G 67 W2:=by
 refine⟨⟨Tryz.f67,_,by kernel_rfl,rfl,by decide⟩,fun κ w vs us v hg hs hd hl ha h=>?_⟩;unfold W2 at h
 split at h
 .rename_i n
  split at h
  .rename_i hn;cases h;obtain⟨a,rfl⟩:=Azg hl;have h1:=Ey (H0 rfl (ha 0 AE));have h1:a=.int .i64 n:=h1;subst h1;rw[Arp n hn.1 hn.2];refine(Tryz.strconv_Itoa n hn.1 hn.2 w (Awc hg hs qa)).mono fun e w' hh=>Ait hd (by grind[Lib.itoa_length_le,maxLen]) ?_
   obtain⟨h,k,os,rfl⟩:=hh
   grind[Aon]
  grind
 grind
def Bfx:Iy Tryz.prog G 192 Xj:=by
 refine⟨⟨Tryz.f192,_,by kernel_rfl,rfl,by decide⟩,fun κ w vs us v hg hs hd hl ha h=>?_⟩;unfold Xj at h
 split at h
 .rename_i s c
  split at h
  .rename_i hc;cases h;obtain⟨a,b,rfl⟩:=Vc hl;have h1:=(G7 (H0 rfl (ha 0 AE))).1;have h2:=Ey (H0 rfl (ha 1 AE));have h1:a=.string ⟨s.toArray⟩:=h1;have h2:b=.int .i64 c:=h2;obtain⟨n,rfl⟩:∃ n:Nat,c=n:=⟨c.toNat,by omega⟩;subst h1 h2;have qv:s.length*n<=140737488355328:=by simpa using hc.2.2
   have:=Tryz.strings_Repeat ⟨s.toArray⟩ n w AA (by grind[Mj]);refine this.mono fun e w' hh=>Ait hd ?_ (by grind)
   grind[Lib.repeatL_length,maxLen]
  grind
 grind
def Bju:Iy Tryz.prog G 59 hpS:=by
 refine⟨⟨Tryz.f59,_,by kernel_rfl,rfl,by decide⟩,fun κ w vs us v hg hs hd hl ha h=>?_⟩;unfold hpS at h
 split at h
 .rename_i s p;cases h;obtain⟨a,b,rfl⟩:=Vc hl;have h1:=(G7 (H0 rfl (ha 0 AE))).1;have h2:=(G7 (H0 rfl (ha 1 AE))).1;have h1:a=.string ⟨s.toArray⟩:=h1;have h2:b=.string ⟨p.toArray⟩:=h2;subst h1 h2;refine(Tryz.strings_HasPrefix ⟨s.toArray⟩ ⟨p.toArray⟩ w).mono ?_;rintro e w' ⟨rfl,rfl⟩;exact⟨_,κ,rfl,Df (.row .bool),Below.refl _ _,fun _ _=>rfl,hd⟩
 grind
def Agb:List V->Option V
 | [.str a,.str b]=>some (.int .i64 (Lib.compareBytes a b))
 | _=>none
def Ta:List V->Option V
 | [.str s,.int .u8 c]=>some (.int .i64 (Lib.indexByte s c.toNat.toUInt8))
 | _=>none
def Aa2:List V->Option V
 | [.str s,.str p]=>if s.length<4294967281 then some (.tup [.str (Lib.cut s p).1,.str (Lib.cut s p).2.1,.bool (Lib.cut s p).2.2]) else none
 | _=>none
def Xr:List V->Option V
 | [.str s,.str [c]]=>if c.toNat<128 then some (.str (Lib.trimLeftB s c)) else none
 | _=>none
def Xs:List V->Option V
 | [.str s,.int .i64 10,.int .i64 64]=>if s.length<=281474976710656 then(match Lib.parseIntB 64 s with
  | .ok v=>some (.tup [.int .i64 v,.nili])
  | Lib.NumEnd.syntax=>some (.tup [.int .i64 0,.ifc])
  | .range=>some (.tup [.int .i64 (Lib.intSat 64 s),.ifc])) else none
 | _=>none
def Azh{γ:Gh}{w:World}{vs:List V}{us:List Value}(h1:vs.length=us.length)(h2:∀ j,j<vs.length->RepC γ w (vs.getD j .und) (us.getD j undef)):RepV γ w (.tup vs) (.tuple us.toArray):=
 .tup h1 (fun j hj=>.cell (h2 j hj))
def Bfy:Iy Tryz.prog G 95 Agb:=by
 refine⟨⟨Tryz.f95,_,by kernel_rfl,rfl,by decide⟩,fun κ w vs us v hg hs hd hl ha h=>?_⟩;unfold Agb at h
 split at h
 .rename_i s p;cases h;obtain⟨a,b,rfl⟩:=Vc hl;have h1:=(G7 (H0 rfl (ha 0 AE))).1;have h2:=(G7 (H0 rfl (ha 1 AE))).1;have h1:a=.string ⟨s.toArray⟩:=h1;have h2:b=.string ⟨p.toArray⟩:=h2;subst h1 h2;refine(Tryz.strings_Compare ⟨s.toArray⟩ ⟨p.toArray⟩ w).mono ?_;rintro e w' ⟨rfl,rfl⟩;exact Rp hd (fun κ' w'=>Df (.row .int)) ⟨rfl,Below.refl _ _⟩
 grind
def Bjv:Iy Tryz.prog G 97 Ta:=by
 refine⟨⟨Tryz.f97,_,by kernel_rfl,rfl,by decide⟩,fun κ w vs us v hg hs hd hl ha h=>?_⟩;unfold Ta at h
 split at h
 .rename_i s c;cases h;obtain⟨a,b,rfl⟩:=Vc hl;have h1:=(G7 (H0 rfl (ha 0 AE))).1;have h2:=Ey (H0 rfl (ha 1 AE));have h1:a=.string ⟨s.toArray⟩:=h1;have h2:b=.int .u8 c:=h2;subst h1 h2;refine(Tryz.strings_IndexByte ⟨s.toArray⟩ c w).mono ?_;rintro e w' ⟨rfl,rfl⟩;exact Rp hd (fun κ' w'=>Df (.row .int)) ⟨rfl,Below.refl _ _⟩
 grind
def A6b{κ:E1}{w:World}{g:Nat}{m:Int}(h:∀ g r,(g,r)∈G->RepC ⟨κ,[]⟩ w (.imm r 0) (.pointer (some ⟨g,0,none⟩)))(qa:(g,[V.int .i64 m])∈G):w.cell? ⟨g,0,none⟩=some (.int .i64 m):=by
 obtain⟨b,o,k,row,hu,h3,h4,h5,h6⟩:=Mz (h _ _ qa);simp at hu;obtain⟨rfl,rfl⟩:=hu;have a1:=h5 0 AE;have a2:=h6 0 AE;have a3:=Ey (γ:=⟨κ,[]⟩) (.row a2)
 grind
def Bav(s p:List UInt8):(Lib.cut s p).1.length<=s.length/\(Lib.cut s p).2.1.length<=s.length:=by
 grind[Lib.cut]
def Bfz{m:Int}(qa:(0,[V.int .i64 m])∈G):Iy Tryz.prog G 123 Aa2:=by
 refine⟨⟨Tryz.f123,_,by kernel_rfl,rfl,by decide⟩,fun κ w vs us v hg hs hd hl ha h=>?_⟩;unfold Aa2 at h
 split at h
 .rename_i s p
  split at h
  .rename_i qc;cases h;obtain⟨a,b,rfl⟩:=Vc hl;obtain⟨h1,hm⟩:=G7 (H0 rfl (ha 0 AE));have h2:=(G7 (H0 rfl (ha 1 AE))).1;have h1:a=.string ⟨s.toArray⟩:=h1;have h2:b=.string ⟨p.toArray⟩:=h2;subst h1 h2;refine(Tryz.strings_Cut ⟨s.toArray⟩ ⟨p.toArray⟩ m w (by grind[Mj]) (A6b hg qa)).mono ?_;rintro e w' ⟨rfl,n,rfl⟩;obtain⟨c1,c2⟩:=Bav s p;refine Rp hd (fun κ' w'=>Azh (us:=[.string ⟨(Lib.cut s p).1.toArray⟩,.string ⟨(Lib.cut s p).2.1.toArray⟩,.bool (Lib.cut s p).2.2]) rfl (fun j hj=>?_)) ⟨rfl,⟨rfl,rfl,rfl,Am _,fun _ _=>rfl⟩⟩
   match j,hj with
   | 0,_=>exact .row (.str AA)
   | 1,_=>exact .row (.str AA)
   | 2,_=>exact .row .bool
  grind
 grind
def Bjw:Iy Tryz.prog G 146 Xr:=by
 refine⟨⟨Tryz.f146,_,by kernel_rfl,rfl,by decide⟩,fun κ w vs us v hg hs hd hl ha h=>?_⟩;unfold Xr at h
 split at h
 .rename_i s c
  split at h
  .rename_i qc;cases h;obtain⟨a,b,rfl⟩:=Vc hl;obtain⟨h1,hm⟩:=G7 (H0 rfl (ha 0 AE));have h2:=(G7 (H0 rfl (ha 1 AE))).1;have h1:a=.string ⟨s.toArray⟩:=h1;have h2:b=.string ⟨#[c]⟩:=h2;subst h1 h2;refine(Tryz.strings_TrimLeft_one ⟨s.toArray⟩ c qc w).mono ?_;rintro e w' ⟨rfl,rfl⟩;refine Rp hd (fun κ' w'=>Df (.row (.str ?_))) ⟨rfl,Below.refl _ _⟩;exact Dd (List.dropWhile_sublist _).length_le hm
  grind
 grind
def Awd{κ:E1}{w:World}{g:Nat}{nm:String}(hn:Tryz.prog.globalNamed nm=some g)(h:∀ g r,(g,r)∈G->RepC ⟨κ,[]⟩ w (.imm r 0) (.pointer (some ⟨g,0,none⟩)))(hs:∀ g r,(g,r)∈G->Ep w g=some r.length)(qa:(g,[V.ifc])∈G):
  ∃ t p,w.var? Tryz.prog nm=some #[.iface t p]:=by
 obtain⟨b,o,k,row,hu,h3,h4,h5,h6⟩:=Mz (h _ _ qa);simp at hu;obtain⟨rfl,rfl⟩:=hu;have a1:=h5 0 AE;have a2:=h6 0 AE;obtain⟨t,p,a3⟩:=Aij (γ:=⟨κ,[]⟩) (.row a2);rw[a3]at a1;have h2:=hs _ _ qa;unfold Ep at h2
 split at h2
 .rename_i cs e fz hh;simp only[Abt,Be,Dn,Gw]at h2;refine⟨t,p,?_⟩;unfold World.var?;rw[hn];simp only[C5,hh];congr 1;apply Array.ext
  .omega
  .intro i qm qn;obtain rfl:i=0:=by omega
   grind[World.cell?]
 grind
def At9:Tryz.prog.globalNamed "strconv.ErrSyntax"=some 7:=by kernel_rfl
def Aua:Tryz.prog.globalNamed "strconv.ErrRange"=some 8:=by kernel_rfl
def Ajn{γ:Gh}{w:World}{n:Int}{v:V}{u:Value}(h:RepC γ w v u):RepV γ w (.tup [.int .i64 n,v]) (.tuple #[.int .i64 n,u]):=
 Azh (us:=[.int .i64 n,u]) rfl (fun j hj=>by
  match j,hj with
  | 0,_=>exact .row .int
  | 1,_=>exact h)
theorem A0s(w:World)(e:TypeId)(t:ByteArray):Below w.heap.size w (Lib.bytesWorld w e t):=by
 unfold Lib.bytesWorld;refine Lib.below_freeze ?_ (p:=⟨w.heap.size,_,none⟩) (Am _) _;exact(Below.refl _ w).drew.alloc (show w.heap.size<=w.drew.heap.size from Am _) _
def Bjx{α:Type}{us:List α}(h:3=us.length):∃ a b c,us=[a,b,c]:=by
 match us,h with
 | [a,b,c],_=>grind
def Bjy(h1:(7,[V.ifc])∈G)(h2:(8,[V.ifc])∈G):Iy Tryz.prog G 177 Xs:=by
 refine⟨⟨Tryz.f177,_,by kernel_rfl,rfl,by decide⟩,fun κ w vs us v hg hs hd hl ha h=>?_⟩;unfold Xs at h
 split at h
 .rename_i s
  split at h
  .rename_i qc;obtain⟨a,b,c,rfl⟩:=Bjx hl;obtain⟨g1,hm⟩:=G7 (H0 rfl (ha 0 AE));have g2:=Ey (H0 rfl (ha 1 AE));have g3:=Ey (H0 rfl (ha 2 AE));have g1:a=.string ⟨s.toArray⟩:=g1;have g2:b=.int .i64 10:=g2;have g3:c=.int .i64 64:=g3;subst g1 g2 g3
   split at h
   .rename_i n hn;cases h;refine(Tryz.strconv_ParseInt_10_at64_ok ⟨s.toArray⟩ (by grind[Mj]) n hn w).mono ?_;rintro e w' ⟨rfl,hw⟩;refine Rp hd (fun κ' w'=>Ajn (.row .nili)) ⟨rfl,?_⟩;rcases hw with rfl | ⟨t,rfl⟩
    .grind[Below.refl]
    grind[A0s]
   .rename_i hn;cases h;obtain⟨t,p,hv⟩:=Awd At9 hg hs h1;refine(Tryz.strconv_ParseInt_10_at64_syntax_var ⟨s.toArray⟩ (by grind[Mj]) hn t p w hv).mono ?_;rintro e w' ⟨N,rfl,_,_,hb⟩;exact Rp hd (fun κ' w'=>Ajn .ifc) ⟨rfl,hb⟩
   .rename_i hn;cases h;obtain⟨t,p,hv⟩:=Awd Aua hg hs h2;refine(Tryz.strconv_ParseInt_10_at64_range_var ⟨s.toArray⟩ (by grind[Mj]) hn t p w hv).mono ?_;rintro e w' ⟨N,rfl,_,_,hb⟩;exact Rp hd (fun κ' w'=>Ajn .ifc) ⟨rfl,hb⟩
  grind
 grind
