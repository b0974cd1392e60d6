/- THE PLAIN MACHINE, joined texts: Ka Kb Kc Kd Ke Kf Kg Kh Ki. -/
import Derived.WalkKit
import Derived.Below
import Derived.DataReads
import Derived.Laws.AppendOwn
import Derived.Laws.Append
import Derived.Laws.Cells
import Derived.Laws.CopyRow
import Derived.Lib.FrozenHead
import Derived.ChangeKeysEq
import Derived.Lib.Strings
import Derived.Lib.Hide
import Derived.Lib.ConvBytes
import Derived.Laws.MakeOwn
set_option linter.all false
/- THE PLAIN MACHINE, SECOND FORM: values without addresses, objects that may change, operations, code, and what comes of it. No program is named here. -/
namespace Go.Proofs.YthlbbjcbmojocacGreatDoor.KM
open Go
def Af:=@Bool.and_eq_true
def Ai:=@Nat.le_refl
def Aj:=@List.getElem?_map
def Ak:=@List.getElem?_eq_some_iff
def Al:=@List.length_append
def Am:=@List.length_cons
def Ap:=@List.length_map
def Au:=@Nat.zero_le
def Av:=@List.getD_eq_getElem?_getD
def Aw:=@List.all_cons
def Ay:=@Bool.not_true
def A1:=@Bool.not_false
def Bb:=@List.map_cons
def Bc:=@List.getElem?_eq_getElem
def Be:=@Nat.lt_or_ge
def Bh:=@List.getElem?_set_ne
def Bi:=@List.all_nil
def Bj:=@List.mem_cons
def Bp:=@List.all_eq_true
def Bu:=@Option.map_eq_some_iff
def B3:=@List.append_nil
def B5:=@List.getElem?_set_self
def B6:=@List.getElem?_append_left
def B7:=@List.map_nil
def B8:=@List.mem_append
def Co:=@List.getElem?_append_right
def Cr:=@List.nil_append
def Ct:=@List.mem_map
def Cw:=@Nat.le_trans
def C4:=@List.mem_cons_of_mem
def C5:=@List.mem_cons_self
def C6:=@Int.cast_ofNat_Int
def C9:=@List.length_nil
def Da:=@List.append_assoc
def Db:=@Option.bind_some
def Dc:=@List.take_length
def Dv:=@List.flatten_cons
def Dw:=@List.map_append
def D1:=@List.length_drop
def Ef:=@Option.bind_eq_some_iff
def Eg:=@List.length_take
def Eo:=@List.mem_singleton
def Ep:=@Nat.succ_mul
def E1:=@List.mem_range
def E3:=@Nat.zero_add
def Fd:=@List.drop_eq_getElem_cons
def Fo:=@List.drop_eq_nil_of_le
def Fp:=@Nat.mul_le_mul_right
def Fy:=@List.getElem_mem
def F5:=@List.getElem?_take
def F6:=@Bool.false_eq_true
def Gb:=@Option.map_some
def Ge:=@List.mem_of_getElem?
def Gf:=@Nat.sub_self
def Gq:=@List.take_append_drop
def G7:=@List.take_add_one
def Hi:=@List.length_set
def Hw:=@List.length_singleton
def Hx:=@List.getElem?_drop
def Hy:=@Nat.succ_le_of_lt
def Hz:=@List.cons_append
def H0:=@List.mapM_cons
def H1:=@List.elem_iff
def Ik:=@List.mem_of_mem_take
def Il:=@Bool.or_eq_true
def I3:=@List.set_append_right
def I4:=@List.drop_zero
def Jm:=@List.filterMap_cons
def Jn:=@List.getElem_map
def Jo:=@Option.some.inj
def Jp:=@Bool.false_beq
def Jq:=@Bool.true_beq
def Kz:=@List.take_of_length_le
def K0:=@Bool.not_eq_true'
def Lk:=@List.getElem?_cons_succ
def Ll:=@Nat.add_zero
def Md:=@Int.toNat_natCast
def Na:=@List.map_map
def Nb:=@Nat.add_mul
def N5:=@List.any_eq_true
def N6:=@Nat.le_of_lt
def O8:=@List.getElem?_eq_none
def O9:=@List.mem_append_left
def Pa:=@Nat.lt_of_lt_of_le
def Pb:=@List.getElem_range
def Pc:=@List.mem_filter
def Pd:=@List.drop_drop
def Pg:=@Nat.mod_lt
def Qp:=@List.length_eq_zero_iff
def Qq:=@List.getElem_of_mem
def Qr:=@Nat.lt_succ_of_lt
def Qs:=@List.not_mem_nil
def Qt:=@List.ext_getElem
def Qu:=@Bool.false_and
def Qv:=@List.set_set
def Sc:=@Nat.exists_eq_add_of_le
def Sd:=@List.getElem?_toArray
def Se:=@List.length_replicate
def Sf:=@List.mem_of_mem_drop
def Sh:=@List.flatten_append
def Si:=@List.getElem?_range
def Sj:=@Nat.eq_zero_or_pos
def Sk:=@List.filterMap_nil
def Sl:=@List.mem_eraseDups
def Sm:=@List.pairwise_cons
def Sn:=@Nat.lt_trichotomy
def So:=@List.ext_getElem?
def Sq:=@List.flatMap_cons
def Ss:=@List.suffix_cons
def Su:=@Nat.min_eq_left
def Sv:=@List.take_left
def Sw:=@List.map_take
def Sy:=@Int.le_refl
def Uz:=@List.pairwise_iff_getElem
def U0:=@List.map_congr_left
def U1:=@Option.toList_some
def U2:=@List.getElem_set
def U3:=@List.nodup_nil
def U4:=@Nat.add_assoc
def U5:=@Bool.and_true
def U6:=@Bool.false_or
def U8:=@Nat.mul_comm
def U9:=@Nat.sub_zero
def Xi:=@List.set_append_left
def Xj:=@List.replicate_succ
def Xk:=@List.take_succ_cons
def Xl:=@List.set_cons_succ
def Xm:=@List.size_toArray
def Xn:=@Option.some.injEq
def Xo:=@Nat.mod_eq_of_lt
def Xq:=@Option.getD_some
def Xr:=@Bool.not_eq_true
def Xs:=@List.drop_suffix
def Xt:=@Bool.eq_iff_iff
def Xu:=@List.take_zero
def Xv:=@Bool.true_and
def Xx:=@Nat.zero_mul
def X0:=@Nat.mul_one
def Aau:=@Nat.le_mul_of_pos_right
def Aav:=@List.getElem?_cons_zero
def Aaw:=@List.getElem_replicate
def Aax:=@List.contains_iff_mem
def Aay:=@List.pairwise_append
def Aa0:=@Int.toNat_of_nonneg
def Aa1:=@List.drop_succ_cons
def Aa2:=@List.dropWhile_cons
def Aa3:=@List.takeWhile_cons
def Aa4:=@List.map_singleton
def Aa5:=@List.range'_succ
def Aa6:=@List.flatten_nil
def Aa7:=@List.mem_flatten
def Aa8:=@List.lookup_cons
def Aa9:=@Bool.and_false
def Abb:=@List.mapM_nil
def Abf:=@List.map_set
def Abg:=@Nat.add_comm
def Afo:=@List.eq_nil_of_length_eq_zero
def Afp:=@List.length_eq_one_iff
def Afq:=@List.length_pos_of_mem
def Afr:=@List.mem_iff_getElem
def Afs:=@List.map_eq_nil_iff
def Aft:=@List.mem_filterMap
def Afu:=@Nat.add_sub_cancel
def Afv:=@List.set_cons_zero
def Afw:=@Int.natCast_nonneg
def Afx:=@List.getElem_take
def Af0:=@List.suffix_refl
def Af1:=@Nat.lt_succ_self
def Af2:=@List.drop_append
def Af3:=@List.drop_length
def Af4:=@List.nodup_cons
def Af7:=@List.drop_left
def Af8:=@List.take_succ
def Af9:=@Bool.and_self
def Aga:=@List.map_drop
def Agd:=@Nat.le_of_eq
def Age:=@Nat.le_total
inductive V where
 | und
 | skp
 | bool (b:Bool)
 | int (k:IntKind) (n:Int)
 | str (l:List UInt8)
 | nili
 | ifc
 | nils
 | nilp
 | nilf
 | lst (t:Nat) (xs:List (List V))
 | imm (row:List V) (off:Nat)
 | ptr (i g off:Nat)
 | sl (i g off len m:Nat) (own:Bool)
 | fn (f:Nat) (a c:List V)
 | mp (i:Nat)
 | agg (cs:List V)
 | tup (vs:List V)
inductive S where
 | t (n:Nat)
 | k (v:V)
inductive EqK where
 | bool | nilsl | nilpt | nilfn | nilif | flat (ks:List Nat)
inductive AO where
 | mov (x:S)
 | pick (c a b:S)
 | new (t:Nat) (z:List V)
 | box (t:Nat) (x:S)
 | build (z:List V) (ps:List (Nat × Nat × S))
 | rows (n:Nat) (z:List V) (ps:List (Nat × S))
 | rowf (n:Nat) (z:List V) (ps:List (Nat × S))
 | rowo (t n:Nat) (z:List V) (ps:List (Nat × S))
 | mk (t bytes:Nat) (z:List V) (x y:S)
 | load (n:Nat) (one:Bool) (x:S)
 | store (n:Nat) (x v:S)
 | chk (x:S)
 | bin (o:BinOp) (x y:S)
 | eq (k:EqK) (neg:Bool) (x y:S)
 | un (o:UnOp) (x:S)
 | cvi (k:IntKind) (x:S)
 | cvs (x:S)
 | cvl (x:S)
 | stb (ty:Nat) (x:S)
 | bts (x:S)
 | slc (m:Nat) (x:S) (lo hi mx:Option S)
 | slcs (x:S) (lo hi:Option S)
 | slca (len m:Nat) (x:S) (lo hi:Option S)
 | sap (n:Nat) (x:S)
 | fad (off:Nat) (x:S)
 | fld (off n:Nat) (one:Bool) (x:S)
 | iad (m:Nat) (x i:S)
 | iar (len m:Nat) (x i:S)
 | idx (x i:S)
 | ida (len m:Nat) (one:Bool) (x i:S)
 | ext (i:Nat) (x:S)
 | len (x:S)
 | cap (x:S)
 | lens (x:S)
 | app (bytes:Nat) (m:Nat × Nat) (x y:S)
 | apps (ty:Nat) (x y:S)
 | mx (x y:S)
 | mn (x y:S)
 | mkf (f:Nat) (a c:List S)
 | mmk
 | mlk (z:V) (x k:S)
 | mup (x k v:S)
 | call (f:Nat) (xs:List S)
 | callv (x:S) (xs:List S)
structure AI where
 dst:Option Nat
 op:AO
 g:Option (Nat × Bool):=none
inductive AC where
 | skip
 | reg (kill:List Nat) (ops:List AI)
 | drw (kill:List Nat) (qh:List (List Nat)) (ops:List AI)
 | seq (a b:AC)
 | cond (c:S) (kill:List Nat) (x y:AC)
 | blk (id:Nat) (c:AC)
 | loop (keep:List Nat) (c:AC)
 | exit (id:Nat)
 | ret
inductive It where
 | c (c:AC)
 | b (id:Nat)
 | l (keep:List Nat) (c:AC)
abbrev Env:=List (Nat × V)
def Env.get:Env->Nat->V
 | [],_=>.und
 | (m,v)::r,n=>if m=n then v else Env.get r n
def Env.put:Env->Nat->V->Env
 | [],n,v=>[(n,v)]
 | (m,u)::r,n,v=>if m=n then(n,v)::r else(m,u)::Env.put r n v
def Env.putO(e:Env)(d:Option Nat)(v:V):Env:=
 match d with
 | some n=>e.put n v
 | none=>e
def Env.del:Env->List Nat->Env
 | [],_=>[]
 | (m,v)::r,ks=>if ks.elem m then Env.del r ks else(m,v)::Env.del r ks
def Env.keep(e:Env):List Nat->Env
 | []=>[]
 | n::r=>(n,e.get n)::Env.keep e r
inductive Ob where
 | row (cs:List V) (e g z:Nat)
 | map (kvs:List (List UInt8 × V))
 | dead
abbrev St:=List Ob
def Ab(e:Env):S->V
 | .t n=>e.get n
 | .k v=>v
def V.cellB:V->Bool
 | .und | .skp | .agg _ | .tup _=>false
 | _=>true
def V.rowB:V->Bool
 | .bool _ | .int _ _ | .str _ | .nili | .nils | .lst _ _=>true
 | _=>false
def V.cells:V->List V
 | .agg cs=>cs
 | v=>[v]
def G0(one:Bool)(cs:List V):Option V:=
 if one then(match cs with
  | [c]=>some c
  | _=>none) else some (.agg cs)
def Or(cs:List V)(off:Nat)(r:List V):Option (List V):=
 if off+r.length<=cs.length then some (cs.take off++r++cs.drop (off+r.length)) else none
def Ia(cs:List V):List (Nat × Nat × V)->Option (List V)
 | []=>some cs
 | (off,n,v)::r=>if v.cells.all V.cellB=true/\v.cells.length=n then(Or cs off v.cells).bind fun cs'=>Ia cs' r else none
def Fc(m:Nat):Nat->List V->List (List V)
 | 0,_=>[]
 | n+1,cs=>cs.take m::Fc m n (cs.drop m)
/-! which objects a value names -/
mutual
def V.refs:V->List Nat
 | .ptr i _ _=>[i]
 | .sl i _ _ _ _ _=>[i]
 | .mp i=>[i]
 | .fn _ a c=>Ah a++Ah c
 | .agg cs=>Ah cs
 | .tup vs=>Ah vs
 | _=>[]
def Ah:List V->List Nat
 | []=>[]
 | v::r=>v.refs++Ah r
end
def Ob.refs:Ob->List Nat
 | .row cs _ _ _=>Ah cs
 | .map kvs=>Ah (kvs.map (·.2))
 | .dead=>[]
def Fl(σ:St):Nat->List Nat->List Nat
 | 0,js=>js
 | d+1,js=>
  let new:=(js.flatMap fun i=>match σ[i]? with
   | some ob=>ob.refs
   | none=>[]).filter fun i=>!js.elem i
  if new.isEmpty then js else Fl σ d (js++new.eraseDups)
/-! settled copies: what lies in the objects js is taken as it stands -/
def Fa(σ:St)(js:List Nat):Nat->V->Option V
 | 0,_=>none
 | d+1,v=>
  if v.rowB then some v else
  match v with
  | .sl i g off len m _=>if js.elem i then(match σ[i]? with
   | some (.row cs _ g' _)=>if g=g'/\0<m/\off+len*m<=cs.length then(((cs.drop off).take (len*m)).mapM (Fa σ js d)).map fun rs=>.lst 0 (Fc m len rs) else none
   | _=>none) else none
  | _=>none
def Gj(σ:St)(js:List Nat)(v:V):Option V:=
 match v with
 | .imm r o=>some (.imm r o)
 | .agg cs=>(cs.mapM (Fa σ js 9)).map .agg
 | v=>Fa σ js 9 v
def K3(σ:St)(js:List Nat)(v:V):Option V:=
 match v with
 | .tup vs=>(vs.mapM (Gj σ js)).map .tup
 | v=>Gj σ js v
def V.flatB:V->Bool
 | .bool _ | .int _ _ | .str _ | .nili | .ifc | .nils | .nilp | .nilf=>true
 | _=>false
def V.flatV:V->Bool
 | .agg cs=>cs.all V.flatB
 | .tup vs=>vs.all fun v=>v.cells.all V.flatB
 | v=>v.flatB
def Ob.shut:Ob->Ob
 | .row cs e g _=>.row cs e g cs.length
 | o=>o
def St.freeze(σ:St):List Nat->St
 | []=>σ
 | i::js=>match σ[i]? with
  | some ob=>St.freeze (σ.set i ob.shut) js
  | none=>St.freeze σ js
def Ib(σ:St)(n:Nat)(one:Bool):V->Option V
 | .imm row off=>if off+n<=row.length then G0 one ((row.drop off).take n) else none
 | .ptr i g off=>match σ[i]? with
  | some (.row cs _ g' _)=>if g=g'/\off+n<=cs.length then G0 one ((cs.drop off).take n) else none
  | _=>none
 | _=>none
def Pq(σ:St)(n:Nat)(x v:V):Option St:=
 match x with
 | .ptr i g off=>match σ[i]? with
  | some (.row cs e g' z)=>if g=g'/\z<=off/\v.cells.length=n/\v.cells.all V.cellB=true then(Or cs off v.cells).map fun cs'=>σ.set i (.row cs' e g z) else none
  | _=>none
 | _=>none
def eqS:Nat->V->V->Option Bool
 | 0,.bool a,.bool b=>some (a==b)
 | 1,.int k a,.int k' b=>if k=k' then some (a==b) else none
 | 2,.str a,.str b=>some (a==b)
 | _,_,_=>none
def K7:List Nat->List V->List V->Option Bool
 | [],[],[]=>some true
 | k::ks,a::r,b::s=>(eqS k a b).bind fun x=>if x then K7 ks r s else some false
 | _,_,_=>none
def eqB:V->V->Option Bool
 | .bool a,.bool b=>some (a==b)
 | _,_=>none
def Ako:V->V->Option Bool
 | .nils,.nils=>some true
 | .nils,.lst _ _=>some false
 | .lst _ _,.nils=>some false
 | .nils,.sl _ _ _ _ _ _=>some false
 | .sl _ _ _ _ _ _,.nils=>some false
 | _,_=>none
def Akp:V->V->Option Bool
 | .nilp,.nilp=>some true
 | .nilp,.ptr _ _ _=>some false
 | .ptr _ _ _,.nilp=>some false
 | .nilp,.imm _ _=>some false
 | .imm _ _,.nilp=>some false
 | _,_=>none
def Akq:V->V->Option Bool
 | .nilf,.nilf=>some true
 | .fn _ _ _,.nilf=>some false
 | .nilf,.fn _ _ _=>some false
 | _,_=>none
def Akr:V->V->Option Bool
 | .nili,.nili=>some true
 | .ifc,.nili=>some false
 | .nili,.ifc=>some false
 | _,_=>none
def Z7(ks:List Nat):V->V->Option Bool
 | .agg a,.agg b=>if a.length=ks.length/\b.length=ks.length then K7 ks a b else none
 | _,_=>none
def M0(k:EqK)(x y:V):Option Bool:=
 match k with
 | .bool=>eqB x y
 | .nilsl=>Ako x y
 | .nilpt=>Akp x y
 | .nilfn=>Akq x y
 | .nilif=>Akr x y
 | .flat ks=>Z7 ks x y
def Nj(σ:St):V->Bool
 | .ptr i g _ | .sl i g _ _ _ _=>match σ[i]? with
  | some (.row _ _ g' _)=>g==g'
  | _=>false
 | _=>true
def Aks(o:BinOp)(k:IntKind)(a:Int)(k':IntKind)(b:Int):Option V:=
 match o with
 | .shl=>if b<0 then none else some (.int k (k.wrap (a*2 ^ (min b.toNat k.bits))))
 | .shr=>if b<0 then none else some (.int k (a.fdiv (2 ^ (min b.toNat k.bits))))
 | .add=>if k=k' then some (.int k (k.wrap (a+b))) else none
 | .sub=>if k=k' then some (.int k (k.wrap (a - b))) else none
 | .mul=>if k=k' then some (.int k (k.wrap (a*b))) else none
 | .quo=>if k=k'/\b≠0 then some (.int k (k.wrap (a.tdiv b))) else none
 | .rem=>if k=k'/\b≠0 then some (.int k (a.tmod b)) else none
 | .and=>if k=k' then some (.int k (k.wrap (BitVec.ofInt k.bits a &&& BitVec.ofInt k.bits b).toNat)) else none
 | .or=>if k=k' then some (.int k (k.wrap (BitVec.ofInt k.bits a ||| BitVec.ofInt k.bits b).toNat)) else none
 | .xor=>if k=k' then some (.int k (k.wrap (BitVec.ofInt k.bits a ^^^ BitVec.ofInt k.bits b).toNat)) else none
 | .lss=>if k=k' then some (.bool (decide (a<b))) else none
 | .leq=>if k=k' then some (.bool (decide (a<=b))) else none
 | .gtr=>if k=k' then some (.bool (decide (a > b))) else none
 | .geq=>if k=k' then some (.bool (decide (a>=b))) else none
 | .eql=>if k=k' then some (.bool (a==b)) else none
 | .neq=>if k=k' then some (.bool (a != b)) else none
 | _=>none
def Ao(o:BinOp)(a b:List UInt8):Option V:=
 match o with
 | .add=>if a.length+b.length<=9223372036854775807 then some (.str (a++b)) else none
 | .lss=>some (.bool (Op.bytesLess a b))
 | .leq=>some (.bool (Op.bytesLess a b||a==b))
 | .gtr=>some (.bool !(Op.bytesLess a b||a==b))
 | .geq=>some (.bool !(Op.bytesLess a b))
 | .eql=>some (.bool (a==b))
 | .neq=>some (.bool !(a==b))
 | _=>none
def Z8(o:BinOp)(x y:V):Option V:=
 match x,y with
 | .int k a,.int k' b=>Aks o k a k' b
 | .str a,.str b=>Ao o a b
 | _,_=>none
def unV(o:UnOp)(x:V):Option V:=
 match o,x with
 | .neg,.int k n=>some (.int k (k.wrap (0 - n)))
 | .not,.bool b=>some (.bool !b)
 | .xor,.int k n=>some (.int k (k.wrap (BitVec.ofInt k.bits (if k.signed then -1 else k.max) ^^^ BitVec.ofInt k.bits n).toNat))
 | _,_=>none
def Dq(z:Option V)(d:Nat):Option Nat:=
 match z with
 | none=>some d
 | some (.int _ n)=>if 0<=n then some n.toNat else none
 | _=>none
def Ry(x:V)(lo hi:Option V):Option V:=
 match x with
 | .str l=>(Dq lo 0).bind fun a=>(Dq hi l.length).bind fun b=>if a<=b/\b<=l.length then some (.str ((l.take b).drop a)) else none
 | _=>none
def Je(m:Nat)(x:V)(lo hi mx:Option V):Option V:=
 match x with
 | .nils=>(Dq lo 0).bind fun a=>(Dq hi 0).bind fun b=>(Dq mx 0).bind fun c=>if a=0/\b=0/\c=0 then some .nils else none
 | .lst t xs=>(Dq lo 0).bind fun a=>(Dq hi xs.length).bind fun b=>(Dq mx b).bind fun c=>
   if a<=b/\b<=xs.length/\c=b/\(a=0\/(xs.all fun r=>r.length==m)=true) then some (.lst (if mx.isSome then 1 else if b=xs.length/\t=1 then 1 else 0) ((xs.take b).drop a)) else none
 | .sl i g off len m' own=>if mx.isSome then none else(Dq lo 0).bind fun a=>(Dq hi len).bind fun b=>if m=m'/\a<=b/\b<=len then some (.sl i g (off+a*m) (b - a) m own) else none
 | _=>none
def Bs(l:List UInt8):List (List V):=l.map fun c=>[V.int .u8 (c.toNat:Int)]
def Mf:List (List V)->Option (List UInt8)
 | []=>some []
 | [.int .u8 n]::r=>if 0<=n/\n<256 then(Mf r).map fun l=>UInt8.ofNat n.toNat::l else none
 | _=>none
def Ea(σ:St)(m:Nat):V->Option (List (List V))
 | .nils=>some []
 | .lst _ ys=>some ys
 | .sl i g off len m' _=>match σ[i]? with
  | some (.row cs _ g' _)=>if g=g'/\m=m'/\off+len*m<=cs.length then some (Fc m len (cs.drop off)) else none
  | _=>none
 | _=>none
def J6(bytes:Nat)(m:Nat × Nat)(σ:St)(x:V)(ys:List (List V)):Option (V × St):=
  if(ys.all fun r=>r.length==m.1)=true/\0<m.1 then
   match x with
   | .nils=>if ys.length*bytes<=140737488355328 then(if ys.isEmpty then some (.nils,σ) else some (.sl σ.length 0 0 ys.length m.1 true,σ++[.row ys.flatten m.2 0 0])) else none
   | .lst t xs=>if(xs.length+ys.length)*bytes<=140737488355328 then
     (if ys.isEmpty then some (.lst t xs,σ)
     else if t=1/\(xs.all fun r=>r.length==m.1)=true then some (.sl σ.length 0 0 (xs.length+ys.length) m.1 true,σ++[.row (xs.flatten++ys.flatten) m.2 0 0]) else none) else none
   | .sl i g off len m' own=>if(len+ys.length)*bytes<=140737488355328/\m'=m.1 then(match σ[i]? with
    | some (.row cs e g' z)=>if g=g' then
      (if ys.isEmpty then some (.sl i g off len m' own,σ)
      else if own=true/\off=0/\e=m.2/\z<=len*m' then
       (if(len+ys.length)*m'<=cs.length then some (.sl i g 0 (len+ys.length) m' true,σ.set i (.row (cs.take (len*m')++ys.flatten++cs.drop ((len+ys.length)*m')) e g z))
       else if cs.length=len*m' then some (.sl i (g+1) 0 (len+ys.length) m' true,σ.set i (.row (cs++ys.flatten) e (g+1) z)) else none)
      else none) else none
    | _=>none) else none
   | _=>none
  else none
def Ji{α:Type}(l:List α):V->Option α
 | .int _ n=>if 0<=n then l[n.toNat]? else none
 | _=>none
def Hb(k:List UInt8):List (List UInt8 × V)->Nat->Option (Nat × V)
 | [],_=>none
 | (k',v)::r,i=>if k'==k then some (i,v) else Hb k r (i+1)
def Aet(n:Nat)(x:V):Option V:=
 match x with
 | .lst _ ys=>if 0<n/\n<=ys.length/\(ys.all fun r=>r.length==1)=true then some (.imm ys.flatten 0) else none
 | _=>none
def Ae(o:AO)(e:Env)(σ:St):Option (V × St):=
 match o with
 | .mov x=>some (Ab e x,σ)
 | .pick c a b=>match Ab e c with
  | .bool z=>some (if z then Ab e a else Ab e b,σ)
  | _=>none
 | .new t z=>some (.ptr σ.length 0 0,σ++[.row z t 0 0])
 | .box t x=>if(Ab e x).cells.all V.cellB then some (.ptr σ.length 0 0,σ++[.row (Ab e x).cells t 0 0]) else none
 | .build z ps=>(Ia z (ps.map fun p=>(p.1,p.2.1,Ab e p.2.2))).map fun cs=>(.agg cs,σ)
 | .rows n z ps=>(Ia (List.replicate n z).flatten (ps.map fun p=>(p.1*z.length,z.length,Ab e p.2))).bind fun cs=>if cs.all V.rowB then some (.lst 1 (Fc z.length n cs),σ) else none
 | .rowf n z ps=>(Ia (List.replicate n z).flatten (ps.map fun p=>(p.1*z.length,z.length,Ab e p.2))).bind fun cs=>
   (cs.mapM (Fa σ (Fl σ 9 (Ah cs).eraseDups) 9)).map fun cs'=>(.lst 1 (Fc z.length n cs'),σ.freeze (Fl σ 9 (Ah cs).eraseDups))
 | .rowo t n z ps=>(Ia (List.replicate n z).flatten (ps.map fun p=>(p.1*z.length,z.length,Ab e p.2))).map fun cs=>(.sl σ.length 0 0 n z.length true,σ++[.row cs t 0 0])
 | .mk t bytes z x y=>match Ab e x,Ab e y with
  | .int .i64 n,.int .i64 c=>if 0<=n/\n<=c/\c.toNat*bytes<=140737488355328 then some (.sl σ.length 0 0 n.toNat z.length true,σ++[.row (List.replicate n.toNat z).flatten t 0 0]) else none
  | _,_=>none
 | .load n one x=>(Ib σ n one (Ab e x)).map fun v=>(v,σ)
 | .store n x v=>(Pq σ n (Ab e x) (Ab e v)).map fun σ'=>(.und,σ')
 | .chk x=>match Ab e x with
  | .imm r o=>some (.imm r o,σ)
  | .ptr b g o=>some (.ptr b g o,σ)
  | _=>none
 | .bin o x y=>(Z8 o (Ab e x) (Ab e y)).map fun v=>(v,σ)
 | .eq k neg x y=>(M0 k (Ab e x) (Ab e y)).map fun z=>(.bool (z != neg),σ)
 | .un o x=>(unV o (Ab e x)).map fun v=>(v,σ)
 | .cvi k x=>match Ab e x with
  | .int _ n=>some (.int k (k.wrap n),σ)
  | _=>none
 | .cvs x=>match Ab e x with
  | .str l=>some (.str l,σ)
  | _=>none
 | .cvl x=>match Ab e x with
  | .sl i g off len m w=>match σ[i]? with
   | some (.row _ _ g' z)=>if g=g'/\z=0 then some (.sl i g off len m w,σ) else none
   | _=>none
  | _=>none
 | .stb ty x=>match Ab e x with
  | .str l=>some (.sl σ.length 0 0 l.length 1 true,σ++[.row (Bs l).flatten ty 0 0])
  | _=>none
 | .bts x=>(Ea σ 1 (Ab e x)).bind fun xs=>(Mf xs).map fun l=>(.str l,σ)
 | .slcs x lo hi=>(Ry (Ab e x) (lo.map (Ab e)) (hi.map (Ab e))).map fun v=>(v,σ)
 | .slc m x lo hi mx=>(Je m (Ab e x) (lo.map (Ab e)) (hi.map (Ab e)) (mx.map (Ab e))).map fun v=>(v,σ)
 | .slca len m x lo hi=>match Ab e x with
  | .ptr i g off=>(Dq (lo.map (Ab e)) 0).bind fun a=>(Dq (hi.map (Ab e)) len).bind fun b=>if a<=b/\b<=len then some (.sl i g (off+a*m) (b - a) m false,σ) else none
  | _=>none
 | .sap n x=>(Aet n (Ab e x)).map fun v=>(v,σ)
 | .fad off x=>match Ab e x with
  | .imm r o=>some (.imm r (o+off),σ)
  | .ptr b g o=>some (.ptr b g (o+off),σ)
  | _=>none
 | .fld off n one x=>match Ab e x with
  | .agg cs=>if off+n<=cs.length then(G0 one ((cs.drop off).take n)).map fun v=>(v,σ) else none
  | _=>none
 | .iad m x i=>match Ab e x with
  | .lst _ xs=>(Ji xs (Ab e i)).bind fun r=>if r.length=m then some (.imm r 0,σ) else none
  | .sl j g off len m' _=>match Ab e i with
   | .int _ n=>if 0<=n/\n<len/\m=m' then some (.ptr j g (off+n.toNat*m),σ) else none
   | _=>none
  | _=>none
 | .iar len m x i=>match Ab e i with
  | .int _ n=>if 0<=n/\n<len then(match Ab e x with
   | .imm r o=>some (.imm r (o+n.toNat*m),σ)
   | .ptr b g o=>some (.ptr b g (o+n.toNat*m),σ)
   | _=>none) else none
  | _=>none
 | .idx x i=>match Ab e x with
  | .str l=>(Ji l (Ab e i)).map fun c=>(.int .u8 (c.toNat:Int),σ)
  | _=>none
 | .ida len m one x i=>match Ab e i with
  | .int _ n=>if 0<=n/\n<len then(match Ab e x with
   | .agg cs=>if n.toNat*m+m<=cs.length then(G0 one ((cs.drop (n.toNat*m)).take m)).map fun v=>(v,σ) else none
   | _=>none) else none
  | _=>none
 | .ext i x=>match Ab e x with
  | .tup vs=>(vs[i]?).map fun v=>(v,σ)
  | _=>none
 | .lens x=>match Ab e x with
  | .str l=>some (.int .i64 (l.length:Int),σ)
  | _=>none
 | .len x=>match Ab e x with
  | .nils=>some (.int .i64 0,σ)
  | .lst _ xs=>some (.int .i64 (xs.length:Int),σ)
  | .sl _ _ _ len _ _=>some (.int .i64 (len:Int),σ)
  | _=>none
 | .cap x=>match Ab e x with
  | .nils=>some (.int .i64 0,σ)
  | _=>none
 | .app bytes m x y=>(Ea σ m.1 (Ab e y)).bind fun ys=>J6 bytes m σ (Ab e x) ys
 | .apps ty x y=>match Ab e y with
  | .str l=>J6 1 (1,ty) σ (Ab e x) (Bs l)
  | _=>none
 | .mx x y=>match Ab e x,Ab e y with
  | .int k a,.int k' b=>if k=k' then some (.int k (max a b),σ) else none
  | _,_=>none
 | .mn x y=>match Ab e x,Ab e y with
  | .int k a,.int k' b=>if k=k' then some (.int k (min a b),σ) else none
  | _,_=>none
 | .mkf f a c=>if(a.map (Ab e)).all V.cellB&&(c.map (Ab e)).all V.cellB then some (.fn f (a.map (Ab e)) (c.map (Ab e)),σ) else none
 | .mmk=>some (.mp σ.length,σ++[.map []])
 | .mlk z x k=>match Ab e x,Ab e k with
  | .mp i,.str s=>match σ[i]? with
   | some (.map kvs)=>some (match Hb s kvs 0 with
    | some (_,v)=>v
    | none=>z,σ)
   | _=>none
  | _,_=>none
 | .mup x k v=>match Ab e x,Ab e k with
  | .mp i,.str s=>match σ[i]? with
   | some (.map kvs)=>if(Ab e v).flatB then some (.und,σ.set i (.map (match Hb s kvs 0 with
    | some (j,_)=>kvs.set j (s,Ab e v)
    | none=>kvs++[(s,Ab e v)]))) else none
   | _=>none
  | _,_=>none
 | .call _ _=>none
 | .callv _ _=>none
def B9(e:Env):AO->Option (Nat × List V)
 | .call f xs=>some (f,xs.map (Ab e))
 | .callv x xs=>match Ab e x with
  | .fn f a c=>some (f,a++xs.map (Ab e)++c)
  | _=>none
 | _=>none
inductive AR where
 | tmp (t:Nat)
 | cell (t n:Nat) (one:Bool)
structure AF where
 pars:Nat
 res:List AR
 thr:Bool
 body:AC
 spec:Option (List V->St->Option (V × St)):=none
def Dd:Nat->List V->Env
 | _,[]=>[]
 | n,v::vs=>(n,v)::Dd (n+1) vs
def Gl(e:Env)(σ:St):AR->Option V
 | .tmp t=>some (e.get t)
 | .cell t n one=>Ib σ n one (e.get t)
def Cd(e:Env)(σ:St):List AR->Option V
 | [r]=>Gl e σ r
 | rs=>(rs.mapM (Gl e σ)).map .tup
def exitTo(id:Nat):List It->Option (List It)
 | []=>none
 | .b i::k=>if i=id then some k else exitTo id k
 | _::k=>exitTo id k
def Cx(e:Env)(i:AI):Option Bool:=
 match i.g with
 | none=>some true
 | some (t,want)=>match e.get t with
  | .bool b=>some (b==want)
  | .skp=>some false
  | _=>none
def Lt(qh:List (List Nat))(qK:List Nat)(i:Nat):Bool:=!qK.elem i&&(qh.getD i []).all fun j=>qK.elem j
def Ot(qh:List (List Nat)):Nat->Nat->List Nat->List Nat
 | 0,_,acc=>acc.reverse
 | fuel+1,t,acc=>
  let rs:=(List.range qh.length).filter (Lt qh acc)
  match rs[t % rs.length]? with
  | some i=>Ot qh fuel (t / rs.length) (i::acc)
  | none=>acc.reverse
def O2(qh:List (List Nat))(t:Nat):List Nat:=Ot qh qh.length t []
def Dt(ops:List AI)(l:List Nat):List AI:=l.filterMap (ops[·]?)
/-! what a call leaves: the objects that were (n of them), and of the others those that are still named (js), under new numbers -/
def ren(n:Nat)(js:List Nat)(i:Nat):Nat:=if i<n then i else n+js.findIdx (·==i)
mutual
def V.ren(ρ:Nat->Nat):V->V
 | .ptr i g o=>.ptr (ρ i) g o
 | .sl i g o l m w=>.sl (ρ i) g o l m w
 | .mp i=>.mp (ρ i)
 | .fn f a c=>.fn f (Fv ρ a) (Fv ρ c)
 | .agg cs=>.agg (Fv ρ cs)
 | .tup vs=>.tup (Fv ρ vs)
 | v=>v
def Fv(ρ:Nat->Nat):List V->List V
 | []=>[]
 | v::r=>v.ren ρ::Fv ρ r
end
def Ob.ren(ρ:Nat->Nat):Ob->Ob
 | .row cs e g z=>.row (Fv ρ cs) e g z
 | .map kvs=>.map (kvs.map fun p=>(p.1,p.2.ren ρ))
 | .dead=>.dead
def H8:V->Bool
 | .agg cs=>cs.all V.cellB
 | v=>v.cellB
def Cm:V->Bool
 | .tup vs=>vs.all H8
 | v=>H8 v
def E4(n:Nat)(js:List Nat)(is:List Nat):Bool:=is.all fun i=>decide (i<n)||js.elem i
def Ang(n:Nat)(v:V)(σ':St):Bool:=Cm v&&(E4 n [] v.refs&&(σ'.take n).all fun o=>E4 n [] o.refs)
def H2(n:Nat)(js:List Nat)(v:V)(σ':St):Bool:=
 Cm v&&(E4 n js v.refs&&(((σ'.take n++js.filterMap (σ'[·]?)).all fun o=>E4 n js o.refs)&&(decide js.Nodup&&js.all fun i=>decide (n<=i)&&decide (i<σ'.length))))
def leave(n:Nat)(v:V)(σ':St):Option (V × St):=
 if Ang n v σ' then some (v,σ'.take n) else
  let js:=(Fl σ' 9 ((v.refs++(σ'.take n).flatMap Ob.refs).eraseDups)).filter fun i=>decide (n<=i)
  if H2 n js v σ' then some (v.ren (ren n js),(σ'.take n++js.filterMap (σ'[·]?)).map (Ob.ren (ren n js))) else none
inductive J where
 | fn (f:Nat) (args:List V) (σ:St) (v:V) (σ':St)
 | ops (l:List AI) (e:Env) (σ:St) (e':Env) (σ':St)
 | code (k:List It) (e:Env) (σ:St) (e':Env) (σ':St)
def Le(σ:St)(args:List V):List Nat:=Fl σ 9 (Ah args).eraseDups
def Dr(σ:St)(args:List V):Option (List V):=args.mapM (Gj σ (Le σ args))
def after(σ:St)(args:List V)(v:V):St:=if v.flatV then σ else σ.freeze (Le σ args)
def own(σ:St)(args:List V)(σ0:St):St:=σ.freeze (Le σ args)++σ0.map (Ob.ren (·+σ.length))
def Ex(σ':St)(v:V):Option V:=K3 σ' (Fl σ' 9 v.refs.eraseDups) v
inductive Ev (T:Nat->Option AF) (pr:Nat->Option (List V->Option V)):J->Prop
 | opsNil {e:Env} {σ:St}:Ev T pr (.ops [] e σ e σ)
 | opsSkip {i:AI} {l:List AI} {e e':Env} {σ σ':St}:Cx e i=some false->Ev T pr (.ops l (e.putO i.dst .skp) σ e' σ')->Ev T pr (.ops (i::l) e σ e' σ')
 | opsVal {i:AI} {l:List AI} {e e':Env} {σ σ1 σ':St} {v:V}:Cx e i=some true->Ae i.op e σ=some (v,σ1)->Ev T pr (.ops l (e.putO i.dst v) σ1 e' σ')->Ev T pr (.ops (i::l) e σ e' σ')
 | opsPrim {i:AI} {f:Nat} {args:List V} {l:List AI} {e e':Env} {σ σ':St} {s:List V->Option V} {vs:List V} {v:V}:Cx e i=some true->B9 e i.op=some (f,args)->pr f=some s ->
   Dr σ args=some vs->s vs=some v->Ev T pr (.ops l (e.putO i.dst v) (after σ args v) e' σ')->Ev T pr (.ops (i::l) e σ e' σ')
 | opsPure {i:AI} {f:Nat} {args:List V} {l:List AI} {e e':Env} {σ σ0 σ':St} {F:AF} {vs:List V} {v v':V}:Cx e i=some true->B9 e i.op=some (f,args)->T f=some F->F.thr=false->F.spec=none ->
   Dr σ args=some vs->Ev T pr (.fn f vs [] v σ0)->Ex σ0 v=some v'->Ev T pr (.ops l (e.putO i.dst v') (after σ args v') e' σ')->Ev T pr (.ops (i::l) e σ e' σ')
 | opsOwn {i:AI} {f:Nat} {args:List V} {l:List AI} {e e':Env} {σ σ0 σ':St} {F:AF} {vs:List V} {v:V}:Cx e i=some true->B9 e i.op=some (f,args)->T f=some F->F.thr=false->F.spec=none ->
   Dr σ args=some vs->Ev T pr (.fn f vs [] v σ0)->Ev T pr (.ops l (e.putO i.dst (v.ren (·+σ.length))) (own σ args σ0) e' σ')->Ev T pr (.ops (i::l) e σ e' σ')
 | opsAny {i:AI} {f:Nat} {args:List V} {l:List AI} {e e':Env} {σ σ1 σ':St} {F:AF} {v:V}:Cx e i=some true->B9 e i.op=some (f,args)->T f=some F->F.spec=none ->
   Ev T pr (.fn f args σ v σ1)->Ev T pr (.ops l (e.putO i.dst v) σ1 e' σ')->Ev T pr (.ops (i::l) e σ e' σ')
 | opsThr {i:AI} {f:Nat} {args:List V} {l:List AI} {e e':Env} {σ σ1 σ':St} {F:AF} {v:V}:Cx e i=some true->B9 e i.op=some (f,args)->T f=some F->F.thr=true->F.spec=none ->
   Ev T pr (.fn f args σ v σ1)->Ev T pr (.ops l (e.putO i.dst v) σ1 e' σ')->Ev T pr (.ops (i::l) e σ e' σ')
 | opsSpec {i:AI} {f:Nat} {args:List V} {l:List AI} {e e':Env} {σ σ1 σ':St} {F:AF} {s:List V->St->Option (V × St)} {v:V}:Cx e i=some true->B9 e i.op=some (f,args)->T f=some F->F.thr=true->F.spec=some s ->
   s args σ=some (v,σ1)->Ev T pr (.ops l (e.putO i.dst v) σ1 e' σ')->Ev T pr (.ops (i::l) e σ e' σ')
 | fn {f:Nat} {args:List V} {σ σ':St} {e':Env} {F:AF} {v:V}:T f=some F->F.spec=none->args.length=F.pars->Ev T pr (.code [.c F.body] (Dd 0 args) σ e' σ')->Cd e' σ' F.res=some v ->
   Cm v=true->E4 σ.length [] v.refs=true->(∀ i ob,i<σ.length->σ'[i]?=some ob->σ[i]?=some ob\/E4 σ.length [] ob.refs=true)->Ev T pr (.fn f args σ v (σ'.take σ.length))
 | fnL {f:Nat} {args:List V} {σ σ':St} {e':Env} {F:AF} {v:V} {js:List Nat}:T f=some F->F.spec=none->args.length=F.pars->Ev T pr (.code [.c F.body] (Dd 0 args) σ e' σ')->Cd e' σ' F.res=some v ->
   H2 σ.length js v σ'=true->Ev T pr (.fn f args σ (v.ren (ren σ.length js)) ((σ'.take σ.length++js.filterMap (σ'[·]?)).map (Ob.ren (ren σ.length js))))
 | fnS {f:Nat} {args:List V} {σ σ':St} {e':Env} {F:AF} {v v':V} {js:List Nat}:T f=some F->F.spec=none->args.length=F.pars->Ev T pr (.code [.c F.body] (Dd 0 args) σ e' σ')->Cd e' σ' F.res=some v ->
   Cm v=true->K3 σ' js v=some v'->E4 σ.length [] v'.refs=true->(∀ i ob,i<σ.length->(σ'.freeze js)[i]?=some ob->σ[i]?=some ob\/E4 σ.length [] ob.refs=true)->Ev T pr (.fn f args σ v' ((σ'.freeze js).take σ.length))
 | fnZ {f:Nat} {args:List V} {σ σ':St} {e':Env} {F:AF} {v v':V} {js ks:List Nat}:T f=some F->F.spec=none->args.length=F.pars->Ev T pr (.code [.c F.body] (Dd 0 args) σ e' σ')->Cd e' σ' F.res=some v ->
   Cm v=true->K3 σ' js v=some v'->H2 σ.length ks v' (σ'.freeze js)=true->Ev T pr (.fn f args σ (v'.ren (ren σ.length ks)) (((σ'.freeze js).take σ.length++ks.filterMap ((σ'.freeze js)[·]?)).map (Ob.ren (ren σ.length ks))))
 | cNil {e:Env} {σ:St}:Ev T pr (.code [] e σ e σ)
 | cSkip {k:List It} {e e':Env} {σ σ':St}:Ev T pr (.code k e σ e' σ')->Ev T pr (.code (.c .skip::k) e σ e' σ')
 | cReg {kill:List Nat} {ops:List AI} {k:List It} {e e1 e':Env} {σ σ1 σ':St}:Ev T pr (.ops ops e σ e1 σ1)->Ev T pr (.code k (e1.del kill) σ1 e' σ')->Ev T pr (.code (.c (.reg kill ops)::k) e σ e' σ')
 | cDrw {kill:List Nat} {qh:List (List Nat)} {ops:List AI} {k:List It} {e e1 e':Env} {σ σ1 σ':St} (E2:Nat->Env):(∀ t,Ev T pr (.ops (Dt ops (O2 qh t)) e σ (E2 t) σ1))->(∀ t n,(E2 t).get n=e1.get n)->Ev T pr (.code k (e1.del kill) σ1 e' σ')->Ev T pr (.code (.c (.drw kill qh ops)::k) e σ e' σ')
 | cSeq {a b:AC} {k:List It} {e e':Env} {σ σ':St}:Ev T pr (.code (.c a::.c b::k) e σ e' σ')->Ev T pr (.code (.c (.seq a b)::k) e σ e' σ')
 | cCond {c:S} {kill:List Nat} {x y:AC} {k:List It} {e e':Env} {σ σ':St} {z:Bool}:Ab e c=.bool z->Ev T pr (.code (.c (if z then x else y)::k) (e.del kill) σ e' σ')->Ev T pr (.code (.c (.cond c kill x y)::k) e σ e' σ')
 | cBlk {id:Nat} {c:AC} {k:List It} {e e':Env} {σ σ':St}:Ev T pr (.code (.c c::.b id::k) e σ e' σ')->Ev T pr (.code (.c (.blk id c)::k) e σ e' σ')
 | cEnd {id:Nat} {k:List It} {e e':Env} {σ σ':St}:Ev T pr (.code k e σ e' σ')->Ev T pr (.code (.b id::k) e σ e' σ')
 | cLoop {keep:List Nat} {c:AC} {k:List It} {e e':Env} {σ σ':St}:Ev T pr (.code (.l keep c::k) e σ e' σ')->Ev T pr (.code (.c (.loop keep c)::k) e σ e' σ')
 | cAgain {keep:List Nat} {c:AC} {k:List It} {e e':Env} {σ σ':St}:Ev T pr (.code (.c c::.l keep c::k) (e.keep keep) σ e' σ')->Ev T pr (.code (.l keep c::k) e σ e' σ')
 | cExit {id:Nat} {k k':List It} {e e':Env} {σ σ':St}:exitTo id k=some k'->Ev T pr (.code k' e σ e' σ')->Ev T pr (.code (.c (.exit id)::k) e σ e' σ')
 | cRet {k:List It} {e:Env} {σ:St}:Ev T pr (.code (.c .ret::k) e σ e σ)
abbrev E0:=Nat->Option Nat
inductive RepR (κ:E0) (w:World):V->Value->Prop
 | bool {b:Bool}:RepR κ w (.bool b) (.bool b)
 | int {k:IntKind} {n:Int}:RepR κ w (.int k n) (.int k n)
 | str {l:List UInt8}:l.length<=maxLen->RepR κ w (.str l) (.string ⟨l.toArray⟩)
 | nili:RepR κ w .nili .nilIface
 | ifc {t:TypeId} {u:Value}:RepR κ w .ifc (.iface t u)
 | nils:RepR κ w .nils (.slice none 0 0)
 | lst {t:Nat} {xs:List (List V)} {a:Addr} {cap m:Nat} (row:Nat->Nat->Value) :
   (t=1->cap=xs.length)->xs.length<=cap->cap<=maxLen ->
   (0<xs.length->a.spot=none/\∃ k,κ a.block=some k/\a.off+xs.length*m<=k) ->
   (∀ i,i<xs.length->(xs.getD i []).length=m) ->
   (∀ i j,i<xs.length->j<m->w.cell? ⟨a.block,a.off+i*m+j,none⟩=some (row i j)) ->
   (∀ i j,i<xs.length->j<m->RepR κ w ((xs.getD i []).getD j .und) (row i j)) ->
   RepR κ w (.lst t xs) (.slice (some a) xs.length cap)
structure Gh where
 κ:E0
 O:List (Nat × Nat)
def Eb(w:World)(b:Nat):Option Nat:=match w.heap[b]? with
 | some (.cells c _ _)=>some c.size
 | _=>none
inductive RepC (γ:Gh) (w:World):V->Value->Prop
 | row {v:V} {u:Value}:RepR γ.κ w v u->RepC γ w v u
 | imm {r:List V} {off b o k:Nat} (row:Nat->Value):γ.κ b=some k->o+r.length<=k->(∀ j,j<r.length->w.cell? ⟨b,o+j,none⟩=some (row j))->(∀ j,j<r.length->RepR γ.κ w (r.getD j .und) (row j)) ->
   RepC γ w (.imm r off) (.pointer (some ⟨b,o+off,none⟩))
 | ptr {i g off blk g' b':Nat}:γ.O[i]?=some (blk,g')->g<=g'->(g=g'->b'=blk)->RepC γ w (.ptr i g off) (.pointer (some ⟨b',off,none⟩))
 | sl {i g off len m blk g' b' o' cap:Nat} {own:Bool}:γ.O[i]?=some (blk,g')->g<=g'->len<=cap->cap<=maxLen->(0<cap->o'=off)->(g=g'->b'=blk/\(own=true->Eb w blk=some (off+cap*m)))->RepC γ w (.sl i g off len m own) (.slice (some ⟨b',o',none⟩) len cap)
 | nilp:RepC γ w .nilp (.pointer none)
 | nilf:RepC γ w .nilf .nilFunc
 | ifc {t:TypeId} {u:Value}:RepC γ w .ifc (.iface t u)
 | fn {f:Nat} {a c:List V} {ua uc:List Value}:a.length=ua.length->c.length=uc.length->(∀ j,j<a.length->RepC γ w (a.getD j .und) (ua.getD j undef))->(∀ j,j<c.length->RepC γ w (c.getD j .und) (uc.getD j undef))->RepC γ w (.fn f a c) (.func (.func f) ua.toArray uc.toArray)
 | mp {i blk g':Nat} {u:Value}:γ.O[i]?=some (blk,g')->u.oneCell'=true->(g'=0->u=.map (some blk))->RepC γ w (.mp i) u
inductive Rep1 (γ:Gh) (w:World):V->Value->Prop
 | cell {v:V} {u:Value}:RepC γ w v u->Rep1 γ w v u
 | agg {cs:List V} {us:List Value}:cs.length=us.length->(∀ j,j<cs.length->RepC γ w (cs.getD j .und) (us.getD j undef))->Rep1 γ w (.agg cs) (.agg us.toArray)
inductive RepV (γ:Gh) (w:World):V->Value->Prop
 | und {u:Value}:RepV γ w .und u
 | skp:RepV γ w .skp undef
 | one {v:V} {u:Value}:Rep1 γ w v u->RepV γ w v u
 | tup {vs:List V} {us:List Value}:vs.length=us.length->(∀ j,j<vs.length->Rep1 γ w (vs.getD j .und) (us.getD j undef))->RepV γ w (.tup vs) (.tuple us.toArray)
structure Ext (γ:Gh) (w:World) (γ':Gh) (w':World):Prop where
 kap:∀ (b k:Nat),γ.κ b=some k->∃ k',γ'.κ b=some k'/\k<=k'
 cell:∀ (b k o:Nat),γ.κ b=some k->o<k->w'.cell? ⟨b,o,none⟩=w.cell? ⟨b,o,none⟩
 obj:∀ (i blk g:Nat),γ.O[i]?=some (blk,g)->∃ qP g',γ'.O[i]?=some (qP,g')/\g<=g'/\(g'=g->qP=blk/\Eb w' blk=Eb w blk)
def Ext.refl(γ:Gh)(w:World):Ext γ w γ w:=
 ⟨fun _ k h=>⟨k,h,Ai _⟩,fun _ _ _ _ _=>rfl,fun _ blk g h=>⟨blk,g,h,Ai _,fun _=>⟨rfl,rfl⟩⟩⟩
def Ext.trans{γ γ' γ'':Gh}{w w' jX:World}(h:Ext γ w γ' w')(g:Ext γ' w' γ'' jX):Ext γ w γ'' jX where
 kap:=fun b k hb=>by
  obtain⟨k',h1,h2⟩:=h.kap b k hb;obtain⟨kG,g1,g2⟩:=g.kap b k' h1;exact⟨kG,g1,Cw h2 g2⟩
 cell:=fun b k o hb ho=>by
  obtain⟨k',h1,h2⟩:=h.kap b k hb;exact(g.cell b k' o h1 (Pa ho h2)).trans (h.cell b k o hb ho)
 obj:=fun i blk gn hi=>by
  obtain⟨b1,g1,h1,h2,h3⟩:=h.obj i blk gn hi;obtain⟨b2,g2,k1,k2,k3⟩:=g.obj i b1 g1 h1;refine⟨b2,g2,k1,Cw h2 k2,fun e=>?_⟩;obtain⟨rfl,a2⟩:=h3 (by omega);obtain⟨rfl,c2⟩:=k3 (by omega);exact⟨rfl,c2.trans a2⟩
def RepR.keep{κ κ':E0}{w w':World}(hk:∀ b k,κ b=some k->∃ k',κ' b=some k'/\k<=k')(hc:∀ b k o,κ b=some k->o<k->w'.cell? ⟨b,o,none⟩=w.cell? ⟨b,o,none⟩){v:V}{u:Value}(h:RepR κ w v u):RepR κ' w' v u:=by
 induction h with
 | bool=>exact .bool
 | int=>exact .int
 | str h=>exact .str h
 | nili=>exact .nili
 | ifc=>exact .ifc
 | nils=>exact .nils
 | @lst t xs a cap m row h1 h2 h3 h4 h5 h6 _ ih=>
  refine .lst row h1 h2 h3 (fun hl=>?_) h5 (fun i j hi hj=>?_) ih
  .obtain⟨hs,k,jA,qf⟩:=h4 hl;obtain⟨k',qg,jB⟩:=hk _ _ jA;exact⟨hs,k',qg,Cw qf jB⟩
  .obtain⟨hs,k,jA,qf⟩:=h4 (by omega);have:i*m+m<=xs.length*m:=by rw[<-Ep];exact Fp _ hi
   exact(hc _ _ _ jA (by omega)).trans (h6 i j hi hj)
section
variable {γ γ':Gh} {w w':World}
def RepC.ext(hx:Ext γ w γ' w'){v:V}{u:Value}(h:RepC γ w v u):RepC γ' w' v u:=by
 induction h with
 | row h=>exact .row (h.keep hx.kap hx.cell)
 | imm row h1 h2 h3 h4=>
  obtain⟨k',qg,qf⟩:=hx.kap _ _ h1;exact .imm row qg (Cw h2 qf) (fun j hj=>(hx.cell _ _ _ h1 (by omega)).trans (h3 j hj)) (fun j hj=>(h4 j hj).keep hx.kap hx.cell)
 | ptr h1 h2 h3=>
  obtain⟨b1,g1,k1,k2,k3⟩:=hx.obj _ _ _ h1;refine .ptr k1 (Cw h2 k2) (fun e=>?_);obtain⟨rfl,_⟩:=k3 (by omega);exact h3 (by omega)
 | sl h1 h2 h3 h4 h5 h6=>
  obtain⟨b1,g1,k1,k2,k3⟩:=hx.obj _ _ _ h1;refine .sl k1 (Cw h2 k2) h3 h4 h5 (fun e=>?_);obtain⟨rfl,hs⟩:=k3 (by omega);obtain⟨a1,a2⟩:=h6 (by omega);exact⟨a1,fun h=>hs.trans (a2 h)⟩
 | nilp=>exact .nilp
 | nilf=>exact .nilf
 | ifc=>exact .ifc
 | fn h1 h2 _ _ ih1 ih2=>exact .fn h1 h2 ih1 ih2
 | mp h1 h2 h3=>
  obtain⟨b1,g1,k1,k2,k3⟩:=hx.obj _ _ _ h1;refine .mp k1 h2 (fun e=>?_);obtain⟨rfl,_⟩:=k3 (by omega);exact h3 (by omega)
def Rep1.ext(hx:Ext γ w γ' w'){v:V}{u:Value}(h:Rep1 γ w v u):Rep1 γ' w' v u:=by
 cases h with
 | cell h=>exact .cell (h.ext hx)
 | agg h1 h2=>exact .agg h1 (fun j hj=>(h2 j hj).ext hx)
def RepV.ext(hx:Ext γ w γ' w'){v:V}{u:Value}(h:RepV γ w v u):RepV γ' w' v u:=by
 cases h with
 | und=>exact .und
 | skp=>exact .skp
 | one h=>exact .one (h.ext hx)
 | tup h1 h2=>exact .tup h1 (fun j hj=>(h2 j hj).ext hx)
end
def RepE(γ:Gh)(w:World)(e:Env)(a:Array Value):Prop:=∀ n,RepV γ w (e.get n) (a.getD n undef)
def RepE.ext{γ γ':Gh}{w w':World}(hx:Ext γ w γ' w'){e:Env}{a:Array Value}(h:RepE γ w e a):RepE γ' w' e a:=fun n=>(h n).ext hx
def Env.get_put(e:Env)(n m:Nat)(v:V):(e.put n v).get m=if n=m then v else e.get m:=by
 induction e with
 | nil=>simp[Env.put,Env.get]
 | cons p r ih=>
  obtain⟨k,u⟩:=p;unfold Env.put;by_cases h:k=n
  .rw[if_pos h];subst h;unfold Env.get
   split<;>simp_all
  .rw[if_neg h];unfold Env.get;rw[ih];by_cases hk:k=m
   .simp[hk];rintro rfl;exact absurd hk h
   .simp[hk]
def Env.get_del(e:Env)(ks:List Nat)(m:Nat):(e.del ks).get m=.und\/(e.del ks).get m=e.get m:=by
 induction e with
 | nil=>exact .inl rfl
 | cons p r ih=>
  obtain⟨k,u⟩:=p;unfold Env.del
  split
  .rename_i hk;by_cases h:k=m
   .subst h;left;clear ih
    induction r with
    | nil=>rfl
    | cons q r ih=>
     obtain⟨k',u'⟩:=q;unfold Env.del
     split
     .exact ih
     .rename_i qg;unfold Env.get;rw[if_neg (by rintro rfl;exact qg hk)];exact ih
   .rcases ih with ih | ih
    .exact .inl ih
    .right;rw[ih];simp[Env.get,h]
  .unfold Env.get
   split
   .exact .inr rfl
   .exact ih
def Env.get_keep(e:Env):∀ (ks:List Nat) (m:Nat),(e.keep ks).get m=.und\/(e.keep ks).get m=e.get m
 | [],_=>.inl rfl
 | k::ks,m=>by
  simp only[Env.keep];rw[Env.get.eq_2]
  split
  .rename_i h;subst h;exact .inr rfl
  .exact Env.get_keep e ks m
def RepE.del{γ:Gh}{w:World}{e:Env}{a:Array Value}(h:RepE γ w e a)(ks:List Nat):RepE γ w (e.del ks) a:=fun n=>by
 rcases Env.get_del e ks n with h' | h'
 .rw[h'];exact .und
 .rw[h'];exact h n
def RepE.keep{γ:Gh}{w:World}{e:Env}{a:Array Value}(h:RepE γ w e a)(ks:List Nat):RepE γ w (e.keep ks) a:=fun n=>by
 rcases Env.get_keep e ks n with h' | h'
 .rw[h'];exact .und
 .rw[h'];exact h n
def RepE.put{γ:Gh}{w:World}{e:Env}{a:Array Value}(h:RepE γ w e a){d:Nat}{v:V}{u:Value}(hd:d<a.size)(hv:RepV γ w v u):RepE γ w (e.put d v) (a.setIfInBounds d u):=fun n=>by
 rw[Env.get_put]
 split
 .rename_i hn;subst hn;simpa[Array.getD_eq_getD_getElem?,hd] using hv
 .rename_i hn;have:(a.setIfInBounds d u).getD n undef=a.getD n undef:=by simp[Array.getD_eq_getD_getElem?,Array.getElem?_setIfInBounds,hn]
  rw[this];exact h n
def ObOk(γ:Gh)(w:World)(ob:Ob)(p:Nat × Nat):Prop:=
 match ob with
 | .row cs e g z=>p.2=g/\γ.κ p.1=some z/\z<=cs.length/\∃ us lo hi,w.heap[p.1]?=some (.cells us e (lo,hi))/\(lo<=hi/\(hi<=z\/us.size<=lo))/\cs.length<=us.size/\∀ j,j<cs.length->RepC γ w (cs.getD j .und) (us.getD j undef)
 | .map kvs=>p.2=0/\γ.κ p.1=none/\∃ es:Array MapEntry,w.heap[p.1]?=some (.map es kvs.length)/\es.size=kvs.length/\∀ (i:Nat) (k:List UInt8) (v:V),kvs[i]?=some (k,v)->∃ en:MapEntry,es[i]?=some en/\en.key=.string ⟨k.toArray⟩/\k.length<=maxLen/\en.born=i/\v.flatB=true/\RepC γ w v en.val
 | .dead=>p.1<w.heap.size
structure Inv (G:List (Nat × List V)) (N:Nat) (γ:Gh) (σ:St) (w:World):Prop where
 base:N<=w.heap.size
 len:γ.O.length=σ.length
 nd:(γ.O.map (·.1)).Nodup
 low:∀ (i:Nat) (p:Nat × Nat),γ.O[i]?=some p->N<=p.1
 obj:∀ (i:Nat) (ob:Ob) (p:Nat × Nat),σ[i]?=some ob->γ.O[i]?=some p->ObOk γ w ob p
 dom:∀ b k,γ.κ b=some k->b<w.heap.size
 glob:∀ g r,(g,r)∈G->RepC γ w (.imm r 0) (.pointer (some ⟨g,0,none⟩))
 gsz:∀ g r,(g,r)∈G->g<N/\Eb w g=some r.length
open Go Go.RowKit
variable {G:List (Nat × List V)} {N:Nat} {γ:Gh} {σ:St} {w w':World}
def Inv.at(h:Inv G N γ σ w){i:Nat}{p:Nat × Nat}(hp:γ.O[i]?=some p):∃ ob,σ[i]?=some ob/\ObOk γ w ob p:=by
 have hi:i<σ.length:=by have:=h.len;have:=(Ak.1 hp).1;omega
 exact⟨σ[i],Bc hi,h.obj i _ p (Bc hi) hp⟩
def Inv.of(h:Inv G N γ σ w){i:Nat}{ob:Ob}(ho:σ[i]?=some ob):∃ p,γ.O[i]?=some p/\ObOk γ w ob p:=by
 have hi:i<γ.O.length:=by have:=h.len;have:=(Ak.1 ho).1;omega
 exact⟨γ.O[i],Bc hi,h.obj i _ _ ho (Bc hi)⟩
def ObOk.lt{ob:Ob}{p:Nat × Nat}(h:ObOk γ w ob p):p.1<w.heap.size:=by
 cases ob with
 | row cs e g z=>
  obtain⟨_,_,_,us,lo,hi,h1,_⟩:=h;exact(Array.getElem?_eq_some_iff.1 h1).1
 | map kvs=>
  obtain⟨_,_,es,h1,_⟩:=h;exact(Array.getElem?_eq_some_iff.1 h1).1
 | dead=>exact h
def Inv.oblt(h:Inv G N γ σ w){i:Nat}{p:Nat × Nat}(hp:γ.O[i]?=some p):p.1<w.heap.size:=by
 obtain⟨ob,_,h2⟩:=h.at hp;exact h2.lt
def Abr{w w':World}{b:Nat}(h:w'.heap[b]?=w.heap[b]?)(o:Nat):w'.cell? ⟨b,o,none⟩=w.cell? ⟨b,o,none⟩:=World.cell?_of_block (a:=⟨b,o,none⟩) h
def Vd{w w':World}{b:Nat}(h:w'.heap[b]?=w.heap[b]?):Eb w' b=Eb w b:=by unfold Eb;rw[h]
def Anh{l:List Nat}(h:l.Nodup){i j a:Nat}(hi:l[i]?=some a)(hj:l[j]?=some a):i=j:=by
 obtain⟨h1,e1⟩:=Ak.1 hi;obtain⟨h2,e2⟩:=Ak.1 hj;have hp:=Uz.1 h;rcases Sn i j with qd | rfl | qd
 .exact absurd (e1.trans e2.symm) (hp i j h1 h2 qd)
 .rfl
 .exact absurd (e2.trans e1.symm) (hp j i h2 h1 qd)
def Inv.ne(h:Inv G N γ σ w){i j:Nat}{p q:Nat × Nat}(hp:γ.O[i]?=some p)(hq:γ.O[j]?=some q)(qi:i≠j):p.1≠q.1:=fun e=>
 qi (Anh h.nd (i:=i) (j:=j) (a:=p.1) (by simp[hp]) (by simp[hq,e]))
def ObOk.keep{γ':Gh}{ob:Ob}{p:Nat × Nat}(h:ObOk γ w ob p)(hx:Ext γ w γ' w')(hk:γ'.κ p.1=γ.κ p.1)(hh:w'.heap[p.1]?=w.heap[p.1]?):ObOk γ' w' ob p:=by
 cases ob with
 | row cs e g z=>
  obtain⟨h1,h2,h3,us,lo,hi,h4,h5,h6,h7⟩:=h;exact⟨h1,hk.trans h2,h3,us,lo,hi,hh.trans h4,h5,h6,fun j hj=>(h7 j hj).ext hx⟩
 | map kvs=>
  obtain⟨h1,h2,es,h3,h4,h5⟩:=h;refine⟨h1,hk.trans h2,es,hh.trans h3,h4,fun i k v hi=>?_⟩;obtain⟨en,a1,a2,a3,a4,a5,a6⟩:=h5 i k v hi;exact⟨en,a1,a2,a3,a4,a5,a6.ext hx⟩
 | dead=>
  have h:p.1<w.heap.size:=h;rw[Array.getElem?_eq_getElem h]at hh;exact(Array.getElem?_eq_some_iff.1 hh).1
def Inv.more{κ':E0}(h:Inv G N γ σ w)(hb:∀ b,b<w.heap.size->w'.heap[b]?=w.heap[b]?)(hs:w.heap.size<=w'.heap.size)(hk:∀ b,b<w.heap.size->κ' b=γ.κ b)(hd:∀ b k,κ' b=some k->b<w'.heap.size):
  Inv G N ⟨κ',γ.O⟩ σ w'/\Ext γ w ⟨κ',γ.O⟩ w':=by
 have hx:Ext γ w ⟨κ',γ.O⟩ w':={
  kap:=fun b k qg=>⟨k,by show κ' b=_;rw[hk b (h.dom b k qg)];exact qg,Ai _⟩
  cell:=fun b k o qg _=>Abr (hb b (h.dom b k qg)) o
  obj:=fun i blk g hi=>⟨blk,g,hi,Ai _,fun _=>⟨rfl,Vd (hb blk (h.oblt hi))⟩⟩ }
 exact⟨⟨Cw h.base hs,h.len,h.nd,h.low,fun i ob p h1 h2=>(h.obj i ob p h1 h2).keep hx (hk _ (h.oblt h2)) (hb _ (h.oblt h2)),hd,fun g r hg=>(h.glob g r hg).ext hx,fun g r hg=>⟨(h.gsz g r hg).1,(Vd (hb g (by have:=(h.gsz g r hg).1;have:=h.base;omega))).trans (h.gsz g r hg).2⟩⟩,hx⟩
def Iz(κ:E0)(b k:Nat):E0:=fun c=>if c=b then some k else κ c
def S4(κ:E0)(b k:Nat):Iz κ b k b=some k:=by simp[Iz]
def Me(κ:E0){b c:Nat}(k:Nat)(h:c≠b):Iz κ b k c=κ c:=by simp[Iz,h]
def Ya{κ:E0}{b k n:Nat}(h:∀ c k,κ c=some k->c<n)(hb:b<n):∀ c k',Iz κ b k c=some k'->c<n:=fun c k' hc=>by
 unfold Iz at hc
 split at hc
 .omega
 .exact h c k' hc
def Inv.row(h:Inv G N γ σ w)(us:Array Value)(e:TypeId):
  Inv G N ⟨Iz γ.κ w.heap.size us.size,γ.O⟩ σ (w.alloc (.cells us e))/\Ext γ w ⟨Iz γ.κ w.heap.size us.size,γ.O⟩ (w.alloc (.cells us e)):=
 h.more (fun b hb=>Below.heap_alloc _ _ _ hb) (by simp) (fun b hb=>Me _ _ (by omega)) (Ya (fun b k hk=>by have:=h.dom b k hk;simp;omega) (by simp))
def Inv.drew(h:Inv G N γ σ w):Inv G N γ σ w.drew/\Ext γ w γ w.drew:=
 h.more (κ':=γ.κ) (fun _ _=>rfl) (Ai _) (fun _ _=>rfl) h.dom
def Ax8{O:List (Nat × Nat)}{b g n:Nat}(h:(O.map (·.1)).Nodup)(qd:∀ (i:Nat) (p:Nat × Nat),O[i]?=some p->p.1<n)(hb:n<=b):((O++[(b,g)]).map (·.1)).Nodup:=by
 rw[Dw,List.nodup_append];refine⟨h,by simp,fun a ha c hc=>?_⟩;simp at hc;subst hc;obtain⟨p,ji,rfl⟩:=Ct.1 ha;obtain⟨j,hj⟩:=List.mem_iff_getElem?.1 ji;have:=qd j p hj;omega
def Inv.newOb(h:Inv G N γ σ w)(o:Obj)(ob:Ob)(κ':E0)(hk:∀ b,b<w.heap.size->κ' b=γ.κ b)(hd:∀ b k,κ' b=some k->b<w.heap.size+1)
  (qu:Ext γ w ⟨κ',γ.O++[(w.heap.size,0)]⟩ (w.alloc o)->ObOk ⟨κ',γ.O++[(w.heap.size,0)]⟩ (w.alloc o) ob (w.heap.size,0)) :
  Inv G N ⟨κ',γ.O++[(w.heap.size,0)]⟩ (σ++[ob]) (w.alloc o)/\Ext γ w ⟨κ',γ.O++[(w.heap.size,0)]⟩ (w.alloc o):=by
 have hx:Ext γ w ⟨κ',γ.O++[(w.heap.size,0)]⟩ (w.alloc o):={
  kap:=fun b k qg=>⟨k,by show κ' b=_;rw[hk b (h.dom b k qg)];exact qg,Ai _⟩
  cell:=fun b k q qg _=>Abr (Below.heap_alloc _ _ _ (h.dom b k qg)) q
  obj:=fun i blk g hi=>⟨blk,g,by show(γ.O++_)[i]?=_;rw[B6 (Ak.1 hi).1];exact hi,Ai _,fun _=>⟨rfl,Vd (Below.heap_alloc _ _ _ (h.oblt hi))⟩⟩ }
 refine⟨⟨by have:=h.base;simp;omega,by simp[h.len],Ax8 h.nd (fun i p hp=>h.oblt hp) (Ai _),fun i p hp=>?_,fun i ob' p h1 h2=>?_,fun b k qg=>by simpa using hd b k qg,fun g r hg=>(h.glob g r hg).ext hx,fun g r hg=>⟨(h.gsz g r hg).1,(Vd (Below.heap_alloc _ _ _ (by have:=(h.gsz g r hg).1;have:=h.base;omega))).trans (h.gsz g r hg).2⟩⟩,hx⟩
 .have qx:(γ.O++[(w.heap.size,0)])[i]?=some p:=hp;by_cases hi:i<γ.O.length
  .rw[B6 hi]at qx;exact h.low i p qx
  .rw[Co (by omega)]at qx;have:=Ge qx;simp at this;subst this;exact h.base
 .have qp:(γ.O++[(w.heap.size,0)])[i]?=some p:=h2;by_cases hi:i<γ.O.length
  .rw[B6 hi]at qp;rw[B6 (by have:=h.len;omega)]at h1;exact(h.obj i ob' p h1 qp).keep hx (hk _ (h.oblt qp)) (Below.heap_alloc _ _ _ (h.oblt qp))
  .rw[Co (by omega)]at qp;have qd:i<σ.length+1:=by have:=(Ak.1 h1).1;simpa using this
   have kj:i=σ.length:=by have:=h.len;omega
   rw[Co (by omega)]at h1;subst kj;simp at h1;have:=Ge qp;simp at this;subst h1 this;exact qu hx
def Inv.newRow(h:Inv G N γ σ w)(us:Array Value)(e:TypeId)(cs:List V)(hl:cs.length<=us.size)(hc:∀ j,j<cs.length->RepC γ w (cs.getD j .und) (us.getD j undef)):
  Inv G N ⟨Iz γ.κ w.heap.size 0,γ.O++[(w.heap.size,0)]⟩ (σ++[.row cs e 0 0]) (w.alloc (.cells us e))/\Ext γ w ⟨Iz γ.κ w.heap.size 0,γ.O++[(w.heap.size,0)]⟩ (w.alloc (.cells us e)):=
 h.newOb _ _ _ (fun b hb=>Me _ _ (by omega)) (Ya (fun b k hk=>by have:=h.dom b k hk;omega) (by omega)) fun hx=>
  ⟨rfl,S4 _ _ _,Au _,us,0,0,heap_alloc_new w _,⟨Ai _,.inl (Ai _)⟩,hl,fun j hj=>(hc j hj).ext hx⟩
def Inv.newMap(h:Inv G N γ σ w):
  Inv G N ⟨γ.κ,γ.O++[(w.heap.size,0)]⟩ (σ++[.map []]) (w.alloc (.map #[] 0))/\Ext γ w ⟨γ.κ,γ.O++[(w.heap.size,0)]⟩ (w.alloc (.map #[] 0)):=
 h.newOb _ _ _ (fun _ _=>rfl) (fun b k hk=>by have:=h.dom b k hk;omega) fun _=>
  ⟨rfl,by
   show γ.κ w.heap.size=none
   cases hk:γ.κ w.heap.size with
   | none=>rfl
   | some k=>have:=h.dom _ _ hk;omega,#[],heap_alloc_new w _,rfl,fun i k v hi=>by simp at hi⟩
def Inv.turn(h:Inv G N γ σ w){i:Nat}{p p':Nat × Nat}{ob':Ob}{κ':E0}(hp:γ.O[i]?=some p)(qD:w.heap.size<=w'.heap.size)(qm:∀ b,b<w.heap.size->b≠p.1->w'.heap[b]?=w.heap[b]?)
  (hk:∀ b,b<w.heap.size->b≠p.1->κ' b=γ.κ b) (hd:∀ b k,κ' b=some k->b<w'.heap.size)
  (jl:∀ z,γ.κ p.1=some z->∃ z',κ' p.1=some z'/\z<=z'/\∀ o,o<z->w'.cell? ⟨p.1,o,none⟩=w.cell? ⟨p.1,o,none⟩)
  (jz:p.2<=p'.2) (qJ:p'.2=p.2->p'.1=p.1/\Eb w' p.1=Eb w p.1) (qC:p'.1=p.1\/w.heap.size<=p'.1)
  (qu:Ext γ w ⟨κ',γ.O.set i p'⟩ w'->ObOk ⟨κ',γ.O.set i p'⟩ w' ob' p') :
  Inv G N ⟨κ',γ.O.set i p'⟩ (σ.set i ob') w'/\Ext γ w ⟨κ',γ.O.set i p'⟩ w':=by
 have jq:=(Ak.1 hp).1
 have hx:Ext γ w ⟨κ',γ.O.set i p'⟩ w':={
  kap:=fun b k qg=>by
   by_cases hb:b=p.1
   .subst hb;obtain⟨z',h1,h2,_⟩:=jl k qg;exact⟨z',h1,h2⟩
   .exact⟨k,(hk b (h.dom b k qg) hb).trans qg,Ai _⟩
  cell:=fun b k o qg ho=>by
   by_cases hb:b=p.1
   .subst hb;obtain⟨z',h1,h2,h3⟩:=jl k qg;exact h3 o ho
   .exact Abr (qm b (h.dom b k qg) hb) o
  obj:=fun j blk g hj=>by
   by_cases qi:i=j
   .subst qi;rw[hp]at hj;injection hj with hj;subst hj;refine⟨p'.1,p'.2,by show(γ.O.set i p')[i]?=_;rw[B5 jq],jz,qJ⟩
   .exact⟨blk,g,by show(γ.O.set i p')[j]?=_;rw[Bh qi];exact hj,Ai _,fun _=>⟨rfl,Vd (qm blk (h.oblt hj) (fun e=>h.ne hp hj qi e.symm))⟩⟩ }
 refine⟨⟨Cw h.base qD,by simp[h.len],?_,fun j q hq=>?_,fun j ob q h1 h2=>?_,hd,fun g r hg=>(h.glob g r hg).ext hx,fun g r hg=>⟨(h.gsz g r hg).1,(Vd (qm g (by have:=(h.gsz g r hg).1;have:=h.base;omega) (by have:=(h.gsz g r hg).1;have:=h.low i p hp;omega))).trans (h.gsz g r hg).2⟩⟩,hx⟩
 .show((γ.O.set i p').map (·.1)).Nodup;rw[Abf];rcases qC with e | jP
  .rw[e]
   have:(γ.O.map (·.1)).set i p.1=γ.O.map (·.1):=by
    apply So;intro j;by_cases qi:i=j
    .subst qi;rw[B5 (by simpa using jq)];simp[hp]
    .rw[Bh qi]
   rw[this];exact h.nd
  .refine Uz.2 fun a b ha hb jZ=>?_
   have jF:=Uz.1 h.nd
   have qd:∀ (j:Nat) (hj:j<(γ.O.map (·.1)).length),(γ.O.map (·.1))[j]≠p'.1:=fun j hj=>by
    have qR:j<γ.O.length:=by simpa using hj
    have:=h.oblt (i:=j) (p:=γ.O[j]) (Bc qR);rw[Jn];omega
   rw[U2,U2];simp only[Hi]at ha hb
   split
   .split
    .omega
    .exact fun e=>qd b hb e.symm
   .split
    .exact qd a ha
    .exact jF a b ha hb jZ
 .have qv:(γ.O.set i p')[j]?=some q:=hq;by_cases qi:i=j
  .subst qi;rw[B5 jq]at qv;injection qv with qv;subst qv;rcases qC with e | jP
   .rw[e];exact h.low i p hp
   .exact Cw h.base jP
  .rw[Bh qi]at qv;exact h.low j q qv
 .have qp:(γ.O.set i p')[j]?=some q:=h2;by_cases qi:i=j
  .subst qi;rw[B5 jq]at qp;rw[B5 (by have:=h.len;omega)]at h1;injection qp with qp;injection h1 with h1;subst h1 qp;exact qu hx
  .rw[Bh qi]at h1 qp;have qN:q.1≠p.1:=fun e=>h.ne hp qp qi e.symm
   exact(h.obj j ob q h1 qp).keep hx (hk _ (h.oblt qp) qN) (qm _ (h.oblt qp) qN)
def Lo{α:Type}{l:List α}{i:Nat}{x:α}(h:l[i]?=some x):l.set i x=l:=by
 apply So;intro j;by_cases qi:i=j
 .subst qi;rw[B5 (Ak.1 h).1,h]
 .rw[Bh qi]
def Axo(w:World)(b:Nat){us us':Array Value}{e:TypeId}{fr:Nat × Nat}(hh:w.heap[b]?=some (.cells us e fr)){o:Nat}(ho:us'[o]?=us[o]?):(w.setRow b us').cell? ⟨b,o,none⟩=w.cell? ⟨b,o,none⟩:=by
 have qC:=setRow_heap w b us us' e _ hh;simp[World.cell?,qC,hh,ho]
def Agf(w:World)(b:Nat){us us':Array Value}{e:TypeId}{fr:Nat × Nat}(hh:w.heap[b]?=some (.cells us e fr))(hs:us'.size=us.size):Eb (w.setRow b us') b=Eb w b:=by
 have qC:=setRow_heap w b us us' e _ hh;simp[Eb,qC,hh,hs]
def Inv.write(h:Inv G N γ σ w){i:Nat}{p:Nat × Nat}{cs cs':List V}{e g g' z lo hi:Nat}{us us':Array Value}(hp:γ.O[i]?=some p)(ho:σ[i]?=some (.row cs e g z))(hh:w.heap[p.1]?=some (.cells us e (lo,hi)))(ki:lo<=hi/\(hi<=z\/us.size<=lo))(hg:g<=g')(hz:z<=cs'.length)
  (qD:us'.size=us.size) (hl:cs'.length<=us.size) (qJ:∀ o,o<z->us'[o]?=us[o]?) (hc:∀ j,j<cs'.length->RepC γ w (cs'.getD j .und) (us'.getD j undef)) :
  Inv G N ⟨γ.κ,γ.O.set i (p.1,g')⟩ (σ.set i (.row cs' e g' z)) (w.setRow p.1 us')/\Ext γ w ⟨γ.κ,γ.O.set i (p.1,g')⟩ (w.setRow p.1 us'):=by
 obtain⟨q,hq,h1,h2,h3,_⟩:=h.of ho;rw[hp]at hq;injection hq with hq;subst hq;have qn:(w.setRow p.1 us').heap.size=w.heap.size:=by simp[World.setRow]
 refine h.turn (p':=(p.1,g')) hp (by omega) (fun b _ hb=>setRow_other w p.1 b us' hb) (fun _ _ _=>rfl) (fun b k hk=>by rw[qn];exact h.dom b k hk) (fun z' qU=>?_) (by rw[h1];exact hg) (fun _=>⟨rfl,Agf w p.1 hh qD⟩) (.inl rfl) fun hx=>?_
 .rw[h2]at qU;injection qU with qU;subst qU;exact⟨z,h2,Ai _,fun o ho=>Axo w p.1 hh (qJ o ho)⟩
 .exact⟨rfl,h2,hz,us',lo,hi,setRow_heap w p.1 us us' e _ hh,by rw[qD];exact ki,by omega,fun j hj=>(hc j hj).ext hx⟩
def Inv.moved(h:Inv G N γ σ w){i:Nat}{p:Nat × Nat}{cs cs':List V}{e g z:Nat}{us':Array Value}(hp:γ.O[i]?=some p)(ho:σ[i]?=some (.row cs e g z))(hz:z<=cs'.length)
  (hl:cs'.length<=us'.size) (hc:∀ j,j<cs'.length->RepC γ w (cs'.getD j .und) (us'.getD j undef)) :
  Inv G N ⟨Iz γ.κ w.heap.size z,γ.O.set i (w.heap.size,g+1)⟩ (σ.set i (.row cs' e (g+1) z)) (w.alloc (.cells us' e))/\Ext γ w ⟨Iz γ.κ w.heap.size z,γ.O.set i (w.heap.size,g+1)⟩ (w.alloc (.cells us' e)):=by
 obtain⟨q,hq,h1,h2,h3,_⟩:=h.of ho;rw[hp]at hq;injection hq with hq;subst hq;have qN:∀ b,b<w.heap.size->b≠w.heap.size:=fun b hb=>by omega
 refine h.turn (p':=(w.heap.size,g+1)) hp (by simp) (fun b hb _=>Below.heap_alloc _ _ _ hb) (fun b hb _=>Me _ _ (qN b hb)) (Ya (fun b k hk=>by have:=h.dom b k hk;simp;omega) (by simp)) (fun z' qU=>?_) (by show p.2<=g+1;omega) (fun e=>by have e':g+1=p.2:=e;omega) (.inr (Ai _)) fun hx=>?_
 .exact⟨z',(Me _ _ (qN _ (h.oblt hp))).trans qU,Ai _,fun o _=>Abr (Below.heap_alloc _ _ _ (h.oblt hp)) o⟩
 .exact⟨rfl,S4 _ _ _,hz,us',0,0,heap_alloc_new w _,⟨Ai _,.inl (Au _)⟩,hl,fun j hj=>(hc j hj).ext hx⟩
def Inv.shut1(h:Inv G N γ σ w){i:Nat}{p:Nat × Nat}{cs:List V}{e g z z':Nat}(hp:γ.O[i]?=some p)(ho:σ[i]?=some (.row cs e g z))(hz:z<=z')(qU:z'<=cs.length):
  Inv G N ⟨Iz γ.κ p.1 z',γ.O⟩ (σ.set i (.row cs e g z')) w/\Ext γ w ⟨Iz γ.κ p.1 z',γ.O⟩ w:=by
 obtain⟨q,hq,h1,h2,h3,us,lo,hi,h4,h5,h6,h7⟩:=h.of ho;rw[hp]at hq;injection hq with hq;subst hq
 have:=h.turn (w':=w) (p':=p) (ob':=.row cs e g z') (κ':=Iz γ.κ p.1 z') hp (Ai _) (fun _ _ _=>rfl) (fun b _ hb=>Me _ _ hb) (Ya h.dom (h.oblt hp)) (fun z1 ju=>by
  rw[h2]at ju;injection ju with ju;subst ju
  exact⟨z',S4 _ _ _,hz,fun _ _=>rfl⟩) (Ai _) (fun _=>⟨rfl,rfl⟩) (.inl rfl) (fun hx=>⟨h1,S4 _ _ _,qU,us,lo,hi,h4,⟨h5.1,h5.2.imp (fun h=>Cw h hz) id⟩,h6,fun j hj=>(h7 j hj).ext hx⟩)
 rw[Lo hp]at this;exact this
def Inv.turnMap(h:Inv G N γ σ w){i:Nat}{p:Nat × Nat}{kvs kvs':List (List UInt8 × V)}{es':Array MapEntry}(hp:γ.O[i]?=some p)(ho:σ[i]?=some (.map kvs))
  (hw:w'.heap.size=w.heap.size) (qm:∀ b,b≠p.1->w'.heap[b]?=w.heap[b]?) (hh:w'.heap[p.1]?=some (.map es' kvs'.length)) (hs:es'.size=kvs'.length)
  (hc:∀ (j:Nat) (k:List UInt8) (v:V),kvs'[j]?=some (k,v)->∃ en:MapEntry,es'[j]?=some en/\en.key=.string ⟨k.toArray⟩/\k.length<=maxLen/\en.born=j/\v.flatB=true/\RepC γ w v en.val) :
  Inv G N γ (σ.set i (.map kvs')) w'/\Ext γ w γ w':=by
 obtain⟨q,hq,h1,h2,es,h3,_⟩:=h.of ho;rw[hp]at hq;injection hq with hq;subst hq;have kB:Eb w' p.1=Eb w p.1:=by simp[Eb,hh,h3]
 have:=h.turn (w':=w') (p':=p) (ob':=.map kvs') (κ':=γ.κ) hp (by omega) (fun b _ hb=>qm b hb) (fun _ _ _=>rfl) (fun b k hk=>by rw[hw];exact h.dom b k hk) (fun z hz=>by rw[h2]at hz;cases hz) (Ai _) (fun _=>⟨rfl,kB⟩) (.inl rfl) (fun hx=>⟨h1,h2,es',hh,hs,fun j k v hj=>by
  obtain⟨en,a1,a2,a3,a4,a5,a6⟩:=hc j k v hj
  exact⟨en,a1,a2,a3,a4,a5,a6.ext hx⟩⟩)
 rw[Lo hp]at this;exact this
open Go Go.RowKit
section
variable {γ:Gh} {w:World} {u:Value}
def Er{k:IntKind}{n:Int}(h:RepC γ w (.int k n) u):u=.int k n:=by cases h with | row h=>cases h;rfl
def Ph{b:Bool}(h:RepC γ w (.bool b) u):u=.bool b:=by cases h with | row h=>cases h;rfl
def Gi{l:List UInt8}(h:RepC γ w (.str l) u):u=.string ⟨l.toArray⟩/\l.length<=maxLen:=by cases h with | row h=>cases h with | str h=>exact⟨rfl,h⟩
def Abs(h:RepC γ w .nili u):u=.nilIface:=by cases h with | row h=>cases h;rfl
def Jr(h:RepC γ w .nils u):u=.slice none 0 0:=by cases h with | row h=>cases h;rfl
def S6(h:RepC γ w .nilp u):u=.pointer none:=by cases h with
 | row h=>cases h
 | nilp=>rfl
def Abt(h:RepC γ w .nilf u):u=.nilFunc:=by cases h with
 | row h=>cases h
 | nilf=>rfl
def Ahh(h:RepC γ w .ifc u):∃ t x,u=.iface t x:=by cases h with
 | row h=>cases h;exact⟨_,_,rfl⟩
 | ifc=>exact⟨_,_,rfl⟩
def Ah2{f:Nat}{a c:List V}(h:RepC γ w (.fn f a c) u):∃ ua uc:List Value,u=.func (.func f) ua.toArray uc.toArray/\a.length=ua.length/\c.length=uc.length/\(∀ j,j<a.length->RepC γ w (a.getD j .und) (ua.getD j undef))/\∀ j,j<c.length->RepC γ w (c.getD j .und) (uc.getD j undef):=by cases h with
 | row h=>cases h
 | fn h1 h2 h3 h4=>exact⟨_,_,rfl,h1,h2,h3,h4⟩
def Of{i g off:Nat}(h:RepC γ w (.ptr i g off) u):∃ b' blk g',u=.pointer (some ⟨b',off,none⟩)/\γ.O[i]?=some (blk,g')/\g<=g'/\(g=g'->b'=blk):=by cases h with
 | row h=>cases h
 | ptr h1 h2 h3=>exact⟨_,_,_,rfl,h1,h2,h3⟩
def Vz{i g off len m:Nat}{own:Bool}(h:RepC γ w (.sl i g off len m own) u):∃ b' o' cap blk g',u=.slice (some ⟨b',o',none⟩) len cap/\γ.O[i]?=some (blk,g')/\g<=g'/\len<=cap/\cap<=maxLen/\(0<cap->o'=off)/\(g=g'->b'=blk/\(own=true->Eb w blk=some (off+cap*m))):=by cases h with
 | row h=>cases h
 | sl h1 h2 h3 h4 h5 h6=>exact⟨_,_,_,_,_,rfl,h1,h2,h3,h4,h5,h6⟩
def Arf{i:Nat}(h:RepC γ w (.mp i) u):∃ blk g',γ.O[i]?=some (blk,g')/\(g'=0->u=.map (some blk)):=by cases h with
 | row h=>cases h
 | mp h1 h2 h3=>exact⟨_,_,h1,h3⟩
def A1j{κ:E0}{t:Nat}{xs:List (List V)}(h:RepR κ w (.lst t xs) u):RepR κ w (.lst 0 xs) u:=by
 cases h with
 | lst row h1 h2 h3 h4 h5 h6 h7=>exact .lst row (fun h=>by omega) h2 h3 h4 h5 h6 h7
def Pk{t:Nat}{xs:List (List V)}(h:RepC γ w (.lst t xs) u):∃ a cap,u=.slice (some a) xs.length cap/\RepR γ.κ w (.lst 0 xs) (.slice (some a) xs.length cap)/\(t=1->cap=xs.length):=by
 cases h with
 | row h=>
  have h':=A1j h
  cases h with
  | lst row h1 h2 h3 h4 h5 h6 h7=>exact⟨_,_,rfl,h',h1⟩
def Mg{r:List V}{off:Nat}{u:Value}(h:RepC γ w (.imm r off) u):∃ b o k,∃ row:Nat->Value,u=.pointer (some ⟨b,o+off,none⟩)/\γ.κ b=some k/\o+r.length<=k/\(∀ j,j<r.length->w.cell? ⟨b,o+j,none⟩=some (row j))/\∀ j,j<r.length->RepR γ.κ w (r.getD j .und) (row j):=by
 cases h with
 | row h=>cases h
 | imm row h1 h2 h3 h4=>exact⟨_,_,_,row,rfl,h1,h2,h3,h4⟩
def Qx{v:V}(h:RepC γ w v u):v.cellB=true/\u.oneCell'=true:=by
 cases h with
 | row h=>cases h<;>exact⟨rfl,rfl⟩
 | imm=>exact⟨rfl,rfl⟩
 | ptr=>exact⟨rfl,rfl⟩
 | sl=>exact⟨rfl,rfl⟩
 | nilp=>exact⟨rfl,rfl⟩
 | nilf=>exact⟨rfl,rfl⟩
 | ifc=>exact⟨rfl,rfl⟩
 | fn=>exact⟨rfl,rfl⟩
 | mp _ h=>exact⟨rfl,h⟩
def Hj{v:V}(hv:v.cellB=true)(h:Rep1 γ w v u):RepC γ w v u:=by
 cases h with
 | cell h=>exact h
 | agg=>cases hv
def Az{v:V}(hv:v.cellB=true)(h:RepV γ w v u):RepC γ w v u:=by
 cases h with
 | und=>cases hv
 | skp=>cases hv
 | one h=>exact Hj hv h
 | tup=>cases hv
def C1{v:V}(h:RepC γ w v u):RepV γ w v u:=.one (.cell h)
def A1k{cs:List V}(h:Rep1 γ w (.agg cs) u):∃ us:List Value,u=.agg us.toArray/\cs.length=us.length/\∀ j,j<cs.length->RepC γ w (cs.getD j .und) (us.getD j undef):=by
 cases h with
 | cell h=>exact absurd (Qx h).1 (by simp[V.cellB])
 | agg h1 h2=>exact⟨_,rfl,h1,h2⟩
def Q1{cs:List V}(h:RepV γ w (.agg cs) u):∃ us:List Value,u=.agg us.toArray/\cs.length=us.length/\∀ j,j<cs.length->RepC γ w (cs.getD j .und) (us.getD j undef):=by
 cases h with
 | one h=>exact A1k h
def Aoy{vs:List V}(h:RepV γ w (.tup vs) u):∃ us:List Value,u=.tuple us.toArray/\vs.length=us.length/\∀ j,j<vs.length->Rep1 γ w (vs.getD j .und) (us.getD j undef):=by
 cases h with
 | one h=>cases h with
  | cell h=>exact absurd (Qx h).1 (by simp[V.cellB])
 | tup h1 h2=>exact⟨_,rfl,h1,h2⟩
def Agv{v:V}(h:RepV γ w v u)(hc:v.cells.all V.cellB=true):∃ us:List Value,u.cells=us.toArray/\v.cells.length=us.length/\∀ j,j<v.cells.length->RepC γ w (v.cells.getD j .und) (us.getD j undef):=by
 by_cases hv:∃ cs,v=.agg cs
 .obtain⟨cs,rfl⟩:=hv;obtain⟨us,rfl,h1,h2⟩:=Q1 h;exact⟨us,rfl,h1,h2⟩
 .have e:v.cells=[v]:=by
   cases v<;>first | rfl | exact absurd ⟨_,rfl⟩ hv
  rw[e]at hc ⊢;have qH:v.cellB=true:=by simpa using hc
  have h':=Az qH h
  have hu:u.cells=#[u]:=by
   have:=(Qx h').2
   cases u<;>first | rfl | simp[Value.oneCell']at this
  exact⟨[u],by rw[hu],rfl,fun j hj=>by
   obtain rfl:j=0:=by simpa using hj
   exact h'⟩
end
/-! Constants -/
def Nk:V->Value->Bool
 | .bool a,.bool b=>a==b
 | .int k a,.int k' b=>decide (k=k')&&a==b
 | .str l,.string s=>s.data.toList==l&&decide (l.length<=maxLen)
 | .nili,.nilIface=>true
 | .nils,.slice none 0 0=>true
 | .nilp,.pointer none=>true
 | .nilf,.nilFunc=>true
 | _,_=>false
def H5:List V->List Value->Bool
 | [],[]=>true
 | v::vs,u::us=>Nk v u&&H5 vs us
 | _,_=>false
def Aix:V->Value->Bool
 | .agg cs,.agg us=>H5 cs us.toList
 | v,u=>Nk v u
def Abk{γ:Gh}{w:World}{v:V}{u:Value}(h:Nk v u=true):RepC γ w v u:=by
 unfold Nk at h
 split at h
 .obtain rfl:=eq_of_beq h;exact .row .bool
 .simp only[Af,decide_eq_true_eq,beq_iff_eq]at h;obtain⟨rfl,rfl⟩:=h;exact .row .int
 .simp only[Af,decide_eq_true_eq,beq_iff_eq]at h;obtain⟨rfl,hl⟩:=h;exact .row (.str hl)
 .exact .row .nili
 .exact .row .nils
 .exact .nilp
 .exact .nilf
 .cases h
def Sx{γ:Gh}{w:World}:∀ {vs:List V} {us:List Value},H5 vs us=true->vs.length=us.length/\∀ j,j<vs.length->RepC γ w (vs.getD j .und) (us.getD j undef)
 | [],[],_=>⟨rfl,fun j hj=>absurd hj (by simp)⟩
 | v::vs,u::us,h=>by
  simp only[H5,Af]at h;obtain⟨h1,h2⟩:=Sx (γ:=γ) (w:=w) h.2;refine⟨by simp[h1],fun j hj=>?_⟩
  cases j with
  | zero=>exact Abk h.1
  | succ j=>simpa using h2 j (by simpa using hj)
def Ax9{γ:Gh}{w:World}{v:V}{u:Value}(h:Aix v u=true):RepV γ w v u:=by
 unfold Aix at h
 split at h
 .rename_i cs us;obtain⟨h1,h2⟩:=Sx (γ:=γ) (w:=w) h;have:=Rep1.agg (us:=us.toList) h1 h2;exact .one (by simpa using this)
 .exact C1 (Abk h)
def Aiy:V->V->Bool
 | .bool a,.bool b=>a==b
 | .int k a,.int k' b=>decide (k=k')&&a==b
 | .str a,.str b=>a==b
 | _,_=>false
def Azd{a b:V}(h:Aiy a b=true):a=b:=by
 unfold Aiy at h
 split at h
 .rw[eq_of_beq h]
 .simp only[Af,decide_eq_true_eq,beq_iff_eq]at h;rw[h.1,h.2]
 .rw[eq_of_beq h]
 .cases h
def Wa:List V->List V->Bool
 | [],[]=>true
 | a::r,b::s=>Aiy a b&&Wa r s
 | _,_=>false
def Ani:∀ {a b:List V},Wa a b=true->a=b
 | [],[],_=>rfl
 | a::r,b::s,h=>by
  simp only[Wa,Af]at h;rw[Azd h.1,Ani h.2]
 | [],b::s,h=>by simp[Wa]at h
 | a::r,[],h=>by simp[Wa]at h
def B0(G:List (Nat × List V)):S->Operand->Bool
 | .t n,.tmp m=>n==m
 | .k v,.const c=>Aix v c
 | .k (.imm r 0),.global g=>G.any fun p=>p.1==g&&Wa p.2 r
 | .k (.fn f [] []),.func f'=>f==f'
 | _,_=>false
def Yr{G:List (Nat × List V)}{N:Nat}{γ:Gh}{σ:St}{w:World}{e:Env}{a:Act}{s:S}{x:Operand}(h:B0 G s x=true)(hE:RepE γ w e a.tmps)(hI:Inv G N γ σ w):RepV γ w (Ab e s) (a.eval x):=by
 unfold B0 at h
 split at h
 .obtain rfl:=eq_of_beq h;exact hE _
 .exact Ax9 h
 .simp only[N5,Af,beq_iff_eq]at h;obtain⟨⟨g,r'⟩,ji,rfl,hr⟩:=h;obtain rfl:=Ani hr;exact C1 (hI.glob _ _ ji)
 .obtain rfl:=eq_of_beq h;exact C1 (RepC.fn (ua:=[]) (uc:=[]) rfl rfl (fun j hj=>absurd hj (by simp)) (fun j hj=>absurd hj (by simp)))
 .cases h
open Go Go.RowKit
variable {P:Program} {G:List (Nat × List V)} {N:Nat} {γ:Gh} {σ σ1:St} {w:World} {e:Env} {a:Act} {o:Oper} {v:V}
def Cp(P:Program)(G:List (Nat × List V))(N:Nat)(γ:Gh)(σ:St)(w:World)(r:Result Next)(v:V)(σ1:St):Prop:=
 ∃ u w1 γ1,(r=.ok (.value u) w1\/(r=.ok .skip w1/\u=undef))/\RepV γ1 w1 v u/\Inv G N γ1 σ1 w1/\Ext γ w γ1 w1/\Below N w w1/\∀ b,b<N->γ1.κ b=γ.κ b
def Cg{r:Result Next}{u:Value}(hI:Inv G N γ σ w)(hr:r=.ok (.value u) w)(hv:RepV γ w v u):Cp P G N γ σ w r v σ:=
 ⟨u,w,γ,.inl hr,hv,hI,Ext.refl _ _,Below.refl _ _,fun _ _=>rfl⟩
def Aze(l m:List UInt8):(⟨l.toArray⟩:ByteArray)++⟨m.toArray⟩=⟨(l++m).toArray⟩:=by
 apply WideShapes.bytes_inj;simp
def Jt(l:List UInt8):(⟨l.toArray⟩:ByteArray).size=l.length:=by simp[ByteArray.size]
def A9i{l:List UInt8}(h:l.length<=9223372036854775807):l.length<=maxLen:=by unfold maxLen;omega
def K4{k:IntKind}{n:Int}:RepV γ w (.int k n) (.int k n):=C1 (.row .int)
def Og{b:Bool}:RepV γ w (.bool b) (.bool b):=C1 (.row .bool)
def Ys{l:List UInt8}(h:l.length<=maxLen):RepV γ w (.str l) (.string ⟨l.toArray⟩):=C1 (.row (.str h))
def A40{op:BinOp}{t ty:TypeId}{x y:Operand}{s1 s2:S}(ho:o.op=.binOp op t x y ty)(hx:RepV γ w (Ab e s1) (a.eval x))(hy:RepV γ w (Ab e s2) (a.eval y))(hI:Inv G N γ σ w)
  (h:Z8 op (Ab e s1) (Ab e s2)=some v):Cp P G N γ σ w ((execOp a.eval o).run P w) v σ:=by
 unfold Z8 at h
 split at h
 .rename_i k m k' n e1 e2;rw[e1]at hx;rw[e2]at hy;have qb:=Er (Az rfl hx);have ql:=Er (Az rfl hy);clear e1 e2 hx hy
  cases op<;>simp only[Aks]at h<;>first
   | cases h
   | (split at h
      .cases h
      .rename_i hb;cases h
       exact Cg hI (by simp[execOp,ho,qb,ql,eqGuard,binOp,Op.shift,hb];try rfl) K4)
   | (split at h
      .rename_i hk
       first
        | (subst hk
           cases h
           exact Cg hI (by simp[execOp,ho,qb,ql,eqGuard,binOp,Op.intArith,Op.intCmp,Op.intBits];try rfl) (by first | exact K4 | exact Og))
        | (obtain⟨rfl,hb⟩:=hk
           cases h
           exact Cg hI (by simp[execOp,ho,qb,ql,eqGuard,binOp,Op.intDiv,hb];try rfl) K4)
      .cases h)
 .rename_i l m e1 e2;rw[e1]at hx;rw[e2]at hy;obtain⟨qb,kK⟩:=Gi (Az rfl hx);obtain⟨ql,kL⟩:=Gi (Az rfl hy);by_cases ha:op=.add
  .subst ha;simp only[Ao]at h;by_cases hl:l.length+m.length<=9223372036854775807
   .rw[if_pos hl]at h;cases h;refine Cg hI ?_ (Ys (A9i (by rw[Al];exact hl)))
    have hm:¬ (((⟨l.toArray⟩:ByteArray).size+(⟨m.toArray⟩:ByteArray).size:Nat):Int) > IntKind.i64.max:=by
     rw[Jt,Jt];show ¬ ((_:Nat):Int) > 9223372036854775807;omega
    have hs:(Op.stringOp .add ⟨l.toArray⟩ ⟨m.toArray⟩).run P w=.ok (.string ⟨(l++m).toArray⟩) w:=by
     simp only[Op.stringOp];rw[if_neg hm,Aze];rfl
    simp[execOp,ho,qb,ql,eqGuard,binOp,hs]
   .rw[if_neg hl]at h;cases h
  .cases op<;>simp only[Ao]at h<;>first
    | exact absurd rfl ha
    | (cases h;done)
    | (cases h;exact Cg hI (by simp[execOp,ho,qb,ql,eqGuard,binOp,Op.stringOp]) Og)
 .cases h
def Aoz(hI:Inv G N γ σ w){i g off:Nat}(h:Nj σ (.ptr i g off)=true):∃ cs e z blk,σ[i]?=some (.row cs e g z)/\γ.O[i]?=some (blk,g):=by
 unfold Nj at h
 split at h
 .rename_i i' g' qE he;cases he
  split at h
  .rename_i cs e g1 z ho;obtain rfl:=eq_of_beq h;obtain⟨⟨blk,g2⟩,hp,hk⟩:=hI.of ho;obtain rfl:g2=g:=hk.1;exact⟨cs,e,z,blk,ho,hp⟩
  .cases h
 .rename_i he;cases he
 .rename_i he _;exact absurd rfl (he _ _ _)
def Ao0(hI:Inv G N γ σ w){i g off:Nat}{u:Value}(hu:RepC γ w (.ptr i g off) u)(h:Nj σ (.ptr i g off)=true):∃ blk,γ.O[i]?=some (blk,g)/\u=.pointer (some ⟨blk,off,none⟩):=by
 obtain⟨cs,e,z,blk,ho,hp⟩:=Aoz hI h;obtain⟨b',qP,g',jJ,h1,h2,h3⟩:=Of hu;rw[hp]at h1;cases h1;obtain rfl:=h3 rfl;exact⟨_,hp,jJ⟩
def Yt(hI:Inv G N γ σ w){i g off len m o':Nat}{own:Bool}{u:Value}(hu:RepC γ w (.sl i g off len m own) u)(h:Nj σ (.ptr i g o')=true):∃ blk cap o',γ.O[i]?=some (blk,g)/\u=.slice (some ⟨blk,o',none⟩) len cap/\(0<cap->o'=off)/\(own=true->Eb w blk=some (off+cap*m))/\len<=cap/\cap<=maxLen:=by
 obtain⟨cs,e,z,blk,ho,hp⟩:=Aoz hI h;obtain⟨b',o',cap,qP,g',jJ,h1,h2,h3,h4,h5,h6⟩:=Vz hu;rw[hp]at h1;cases h1;obtain⟨rfl,a2⟩:=h6 rfl;exact⟨_,cap,o',hp,jJ,h5,a2,h3,h4⟩
def A1l{x y z:Operand}{s1 s2 s3:S}(ho:o.op=.pick x y z)(hx:RepV γ w (Ab e s1) (a.eval x))(hy:RepV γ w (Ab e s2) (a.eval y))(hz:RepV γ w (Ab e s3) (a.eval z))(hI:Inv G N γ σ w)
  (h:Ae (.pick s1 s2 s3) e σ=some (v,σ1)):Cp P G N γ σ w ((execOp a.eval o).run P w) v σ1:=by
 simp only[Ae]at h
 split at h
 .rename_i b e1;rw[e1]at hx;have qb:=Ph (Az rfl hx);cases h;refine Cg hI (u:=if b then a.eval y else a.eval z) (by simp[execOp,ho,qb,asBool]) ?_;cases b
  .exact hz
  .exact hy
 .cases h
def A9j{op:UnOp}{t:TypeId}{x:Operand}{s:S}(ho:o.op=.unOp op t x)(hx:RepV γ w (Ab e s) (a.eval x))(hI:Inv G N γ σ w)
  (h:Ae (.un op s) e σ=some (v,σ1)):Cp P G N γ σ w ((execOp a.eval o).run P w) v σ1:=by
 simp only[Ae,Bu]at h;obtain⟨v',h,h2⟩:=h;cases h2;unfold unV at h
 split at h
 .rename_i k n e1;rw[e1]at hx;have qb:=Er (Az rfl hx);cases h;exact Cg hI (by simp[execOp,ho,qb,Op.unary,Op.intArith]) K4
 .rename_i b e1;rw[e1]at hx;have qb:=Ph (Az rfl hx);cases h;exact Cg hI (by simp[execOp,ho,qb,Op.unary]) Og
 .rename_i k n e1;rw[e1]at hx;have qb:=Er (Az rfl hx);cases h;exact Cg hI (by simp[execOp,ho,qb,Op.unary,Op.intBits];try rfl) K4
 .cases h
def A41{k:IntKind}{t1 t2:TypeId}{d1:TypeDesc}{x:Operand}{s:S}(ho:o.op=.convert t1 t2 x)(h1:P.underlying t1=some d1)(h2:P.underlying t2=some (.int k))(hx:RepV γ w (Ab e s) (a.eval x))(hI:Inv G N γ σ w)
  (h:Ae (.cvi k s) e σ=some (v,σ1)):Cp P G N γ σ w ((execOp a.eval o).run P w) v σ1:=by
 simp only[Ae]at h
 split at h
 .rename_i k' n e1;rw[e1]at hx;have qb:=Er (Az rfl hx);cases h;exact Cg hI (by simp[execOp,ho,qb,convert,run_underlying h1,run_underlying h2,Conv.intToInt]) K4
 .cases h
def A42{t1 t2:TypeId}{d1:TypeDesc}{x:Operand}{s:S}(ho:o.op=.convert t1 t2 x)(h1:P.underlying t1=some d1)(h2:P.underlying t2=some .string)(hx:RepV γ w (Ab e s) (a.eval x))(hI:Inv G N γ σ w)
  (h:Ae (.cvs s) e σ=some (v,σ1)):Cp P G N γ σ w ((execOp a.eval o).run P w) v σ1:=by
 simp only[Ae]at h
 split at h
 .rename_i l e1;rw[e1]at hx;obtain⟨qb,hl⟩:=Gi (Az rfl hx);cases h;exact Cg hI (by simp[execOp,ho,qb,convert,run_underlying h1,run_underlying h2]) (Ys hl)
 .cases h
def A43{x:Operand}{s:S}(ho:o.op=.nilCheck x)(hx:RepV γ w (Ab e s) (a.eval x))(hI:Inv G N γ σ w)
  (h:Ae (.chk s) e σ=some (v,σ1)):Cp P G N γ σ w ((execOp a.eval o).run P w) v σ1:=by
 simp only[Ae]at h
 split at h
 .rename_i r off e1;rw[e1]at hx;have qb:=Az rfl hx;cases h
  cases hu:a.eval x with
  | pointer p=>
   cases p with
   | some p=>exact Cg hI (u:=.pointer (some p)) (by simp[execOp,ho,hu]) (by rw[<-hu];exact hx)
   | none=>rw[hu]at qb;cases qb with | row h=>cases h
  | _=>rw[hu]at qb;cases qb with | row h=>cases h
 .rename_i b g off e1;rw[e1]at hx;obtain⟨b',_,_,hu,_⟩:=Of (Az rfl hx);cases h;exact Cg hI (u:=.pointer (some ⟨b',off,none⟩)) (by simp[execOp,ho,hu]) (by rw[<-hu];exact hx)
 .cases h
def A44{t:TypeId}{x y:Operand}{s1 s2:S}(ho:o.op=.index t x y)(ht:P.underlying t=some .string)(hx:RepV γ w (Ab e s1) (a.eval x))(hy:RepV γ w (Ab e s2) (a.eval y))(hI:Inv G N γ σ w)
  (h:Ae (.idx s1 s2) e σ=some (v,σ1)):Cp P G N γ σ w ((execOp a.eval o).run P w) v σ1:=by
 simp only[Ae]at h
 split at h
 .rename_i l e1;rw[e1]at hx;obtain⟨qb,hl⟩:=Gi (Az rfl hx);simp only[Bu]at h;obtain⟨c,hc,h⟩:=h;cases h;unfold Ji at hc
  split at hc
  .rename_i k n e2;rw[e2]at hy;have ql:=Er (Az rfl hy)
   split at hc
   .rename_i hn;have qd:n.toNat<l.length:=(Ak.1 hc).1
    have hb:(⟨l.toArray⟩:ByteArray)[n.toNat]?=some c:=by
     rw[getElem?_pos (⟨l.toArray⟩:ByteArray) n.toNat (by rw[Jt];exact qd)];congr 1;exact(Ak.1 hc).2
    exact Cg hI (by simp[execOp,ho,qb,ql,Instr.index,asIntOf,run_underlying ht,hn,hb]) K4
   .cases hc
  .cases hc
 .cases h
def Arg{α:Type}{l:List α}{i:Nat}{x d:α}(h:l[i]?=some x):l.getD i d=x/\i<l.length:=⟨by simp[Av,h],(Ak.1 h).1⟩
def A45{x:Operand}{i:Nat}{s:S}(ho:o.op=.extract x i)(hx:RepV γ w (Ab e s) (a.eval x))(hI:Inv G N γ σ w)
  (h:Ae (.ext i s) e σ=some (v,σ1)):Cp P G N γ σ w ((execOp a.eval o).run P w) v σ1:=by
 simp only[Ae]at h
 split at h
 .rename_i vs e1;rw[e1]at hx;obtain⟨us,hu,hl,hr⟩:=Aoy hx;simp only[Bu]at h;obtain⟨c,hc,h⟩:=h;cases h;obtain⟨hg,qd⟩:=Arg (d:=V.und) hc;have h1:=hr i qd;rw[hg]at h1
  have qO:us[i]?=some (us.getD i undef):=by
   rw[Av,Bc (by omega)];rfl
  generalize us.getD i undef=z at h1 qO;exact Cg hI (u:=z) (by simp[execOp,ho,hu,Instr.extract,qO]) (.one h1)
 .cases h
def A9k{x y:Operand}{s1 s2:S}{ts:Array TypeId}(ho:o.op=.call { callee:=.builtin .max,args:=#[x,y],argTypes:=ts })(hx:RepV γ w (Ab e s1) (a.eval x))(hy:RepV γ w (Ab e s2) (a.eval y))(hI:Inv G N γ σ w)
  (h:Ae (.mx s1 s2) e σ=some (v,σ1)):Cp P G N γ σ w ((execOp a.eval o).run P w) v σ1:=by
 simp only[Ae]at h
 split at h
 .rename_i k m k' n e1 e2;rw[e1]at hx;rw[e2]at hy;have qb:=Er (Az rfl hx);have ql:=Er (Az rfl hy)
  split at h
  .rename_i hk;subst hk;cases h
   have hm:(if n > m then n else m)=max m n:=by
    rw[Int.max_def];split<;>split<;>omega
   have hr:(execOp a.eval o).run P w=.ok (.value (.int k (if n > m then n else m))) w:=by simp[execOp,ho,qb,ql,resolve,invoke,builtin,Builtin.max_,Builtin.max2]
   rw[hm]at hr;exact Cg hI hr K4
  .cases h
 .cases h
def A9l{x y:Operand}{s1 s2:S}{ts:Array TypeId}(ho:o.op=.call { callee:=.builtin .min,args:=#[x,y],argTypes:=ts })(hx:RepV γ w (Ab e s1) (a.eval x))(hy:RepV γ w (Ab e s2) (a.eval y))(hI:Inv G N γ σ w)
  (h:Ae (.mn s1 s2) e σ=some (v,σ1)):Cp P G N γ σ w ((execOp a.eval o).run P w) v σ1:=by
 simp only[Ae]at h
 split at h
 .rename_i k m k' n e1 e2;rw[e1]at hx;rw[e2]at hy;have qb:=Er (Az rfl hx);have ql:=Er (Az rfl hy)
  split at h
  .rename_i hk;subst hk;cases h
   have hm:(if n<m then n else m)=min m n:=by
    rw[Int.min_def];split<;>split<;>omega
   have hr:(execOp a.eval o).run P w=.ok (.value (.int k (if n<m then n else m))) w:=by simp[execOp,ho,qb,ql,resolve,invoke,builtin,Builtin.min_,Builtin.min2]
   rw[hm]at hr;exact Cg hI hr K4
  .cases h
 .cases h
def A1m{t:TypeId}{x:Operand}{s:S}(ho:o.op=.call { callee:=.builtin .len,args:=#[x],argTypes:=#[t] })(ht:P.underlying t=some .string)(hx:RepV γ w (Ab e s) (a.eval x))(hI:Inv G N γ σ w)
  (h:Ae (.lens s) e σ=some (v,σ1)):Cp P G N γ σ w ((execOp a.eval o).run P w) v σ1:=by
 simp only[Ae]at h
 split at h
 .rename_i l e1;rw[e1]at hx;obtain⟨qb,hl⟩:=Gi (Az rfl hx);cases h;exact Cg hI (by simp[execOp,ho,qb,resolve,invoke,builtin,Builtin.len_,run_underlying ht,goInt,Jt]) K4
 .cases h
def A46{t el:TypeId}{x:Operand}{s:S}(ho:o.op=.call { callee:=.builtin .len,args:=#[x],argTypes:=#[t] })(ht:P.underlying t=some (.slice el))(hx:RepV γ w (Ab e s) (a.eval x))(hI:Inv G N γ σ w)
  (h:Ae (.len s) e σ=some (v,σ1)):Cp P G N γ σ w ((execOp a.eval o).run P w) v σ1:=by
 simp only[Ae]at h
 split at h
 .rename_i e1;rw[e1]at hx;have qb:=Jr (Az rfl hx);cases h;exact Cg hI (by simp[execOp,ho,qb,resolve,invoke,builtin,Builtin.len_,run_underlying ht,goInt]) K4
 .rename_i t' xs e1;rw[e1]at hx;obtain⟨ad,cap,qb,_⟩:=Pk (Az rfl hx);cases h;exact Cg hI (by simp[execOp,ho,qb,resolve,invoke,builtin,Builtin.len_,run_underlying ht,goInt]) K4
 .rename_i i g off len m own e1;rw[e1]at hx;obtain⟨b',o',cap,_,_,qb,_⟩:=Vz (Az rfl hx);cases h;exact Cg hI (by simp[execOp,ho,qb,resolve,invoke,builtin,Builtin.len_,run_underlying ht,goInt]) K4
 .cases h
def A47{t el:TypeId}{x:Operand}{s:S}(ho:o.op=.call { callee:=.builtin .cap,args:=#[x],argTypes:=#[t] })(ht:P.underlying t=some (.slice el))(hx:RepV γ w (Ab e s) (a.eval x))(hI:Inv G N γ σ w)
  (h:Ae (.cap s) e σ=some (v,σ1)):Cp P G N γ σ w ((execOp a.eval o).run P w) v σ1:=by
 simp only[Ae]at h
 split at h
 .rename_i e1;rw[e1]at hx;have qb:=Jr (Az rfl hx);cases h;exact Cg hI (by simp[execOp,ho,qb,resolve,invoke,builtin,Builtin.cap_,run_underlying ht,goInt]) K4
 .cases h
open Go Go.RowKit
variable {P:Program} {G:List (Nat × List V)} {N:Nat} {γ:Gh} {σ σ1:St} {w:World} {e:Env} {a:Act} {o:Oper} {v:V}
def K1(b o n:Nat):(⟨b,o,none⟩:Addr).add n=⟨b,o+n,none⟩:=by
 unfold Addr.add
 split
 .rename_i h;subst h;rfl
 .rfl
def Arh{r:List V}{off n b o':Nat}(h:RepC γ w (.imm r off) (.pointer (some ⟨b,o',none⟩))):RepC γ w (.imm r (off+n)) (.pointer (some ⟨b,o'+n,none⟩)):=by
 obtain⟨b2,o2,k,row,hu,h1,h2,h3,h4⟩:=Mg h;simp at hu;obtain⟨rfl,rfl⟩:=hu;rw[U4];exact .imm row h1 h2 h3 h4
def Ao1{r:List V}{off:Nat}{u:Value}(hv:RepC γ w (.imm r off) u):∃ b o,u=.pointer (some ⟨b,o,none⟩):=by
 obtain⟨b,o,k,row,hu,_⟩:=Mg hv;exact⟨_,_,hu⟩
def Ari{i g blk off:Nat}(h:γ.O[i]?=some (blk,g)):RepC γ w (.ptr i g off) (.pointer (some ⟨blk,off,none⟩)):=.ptr h (Ai _) (fun _=>rfl)
def Arj{i g off n b':Nat}(h:RepC γ w (.ptr i g off) (.pointer (some ⟨b',off,none⟩))):RepC γ w (.ptr i g (off+n)) (.pointer (some ⟨b',off+n,none⟩)):=by
 obtain⟨b2,blk,g',hu,h1,h2,h3⟩:=Of h;simp at hu;subst hu;exact .ptr h1 h2 h3
def A48{t:TypeId}{fs:Array Field}{f:Field}{fi:TypeInfo}{i off:Nat}{x:Operand}{s:S}(ho:o.op=.fieldAddr t x i)(ht:P.underlying t=some (.struct fs))(hf:fs[i]?=some f)(jD:f.offset=off)(qc:P.info? f.type=some fi)(qD:fi.size≠0)
  (hx:RepV γ w (Ab e s) (a.eval x)) (hI:Inv G N γ σ w) (h:Ae (.fad off s) e σ=some (v,σ1)):Cp P G N γ σ w ((execOp a.eval o).run P w) v σ1:=by
 have run:∀ b p,a.eval x=.pointer (some ⟨b,p,none⟩)->(execOp a.eval o).run P w=.ok (.value (.pointer (some ⟨b,p+off,none⟩))) w:=fun b p hu=>by
  simp[execOp,ho,hu,Instr.fieldAt,run_underlying ht,hf,Instr.sureAddr,fieldPlace,sizeOf,typeInfo,qc,qD,jD,K1]
 simp only[Ae]at h
 split at h
 .rename_i r qE e1;rw[e1]at hx;have qb:=Az rfl hx;obtain⟨b,p,hu⟩:=Ao1 qb;cases h;rw[hu]at qb;exact Cg hI (run b p hu) (C1 (Arh qb))
 .rename_i b g qE e1;rw[e1]at hx;have qb:=Az rfl hx;obtain⟨b',_,_,hu,_⟩:=Of qb;cases h;rw[hu]at qb;exact Cg hI (run b' qE hu) (C1 (Arj qb))
 .cases h
def A49{t el:TypeId}{fi:TypeInfo}{len m:Nat}{x y:Operand}{s1 s2:S}(ho:o.op=.indexAddr t x y)(ht:P.underlying t=some (.array len el))(qc:P.info? el=some fi)(hm:fi.size=m)
  (hx:RepV γ w (Ab e s1) (a.eval x)) (hy:RepV γ w (Ab e s2) (a.eval y)) (hI:Inv G N γ σ w) (h:Ae (.iar len m s1 s2) e σ=some (v,σ1)):Cp P G N γ σ w ((execOp a.eval o).run P w) v σ1:=by
 simp only[Ae]at h
 split at h
 .rename_i k n e2;rw[e2]at hy;have ql:=Er (Az rfl hy)
  split at h
  .rename_i hn
   have run:∀ b p,a.eval x=.pointer (some ⟨b,p,none⟩)->(execOp a.eval o).run P w=.ok (.value (.pointer (some ⟨b,p+n.toNat*m,none⟩))) w:=fun b p hu=>by
    simp[execOp,ho,hu,ql,Instr.indexAt,asIntOf,run_underlying ht,Instr.sureAddr,hn,sizeOf,typeInfo,qc,hm,K1]
   split at h
   .rename_i r qE e1;rw[e1]at hx;have qb:=Az rfl hx;obtain⟨b,p,hu⟩:=Ao1 qb;cases h;rw[hu]at qb;exact Cg hI (run b p hu) (C1 (Arh qb))
   .rename_i b g qE e1;rw[e1]at hx;have qb:=Az rfl hx;obtain⟨b',_,_,hu,_⟩:=Of qb;cases h;rw[hu]at qb;exact Cg hI (run b' qE hu) (C1 (Arj qb))
   .cases h
  .cases h
 .cases h
def A5a{t el:TypeId}{fi:TypeInfo}{m:Nat}{x y:Operand}{s1 s2:S}(ho:o.op=.indexAddr t x y)(ht:P.underlying t=some (.slice el))(qc:P.info? el=some fi)(hm:fi.size=m)
  (hx:RepV γ w (Ab e s1) (a.eval x)) (hy:RepV γ w (Ab e s2) (a.eval y)) (hI:Inv G N γ σ w) (h:Ae (.iad m s1 s2) e σ=some (v,σ1)):Cp P G N γ σ w ((execOp a.eval o).run P w) v σ1:=by
 simp only[Ae]at h
 split at h
 .rename_i t' xs e1;rw[e1]at hx;obtain⟨ad,cap,hu,hR,_⟩:=Pk (Az rfl hx);simp only[Ef]at h;obtain⟨r,hr,h⟩:=h
  split at h
  .rename_i jH;cases h;unfold Ji at hr
   split at hr
   .rename_i k n e2;rw[e2]at hy;have ql:=Er (Az rfl hy)
    split at hr
    .rename_i hn;obtain⟨hg,qd⟩:=Arg (d:=[]) hr
     cases hR with
     | @lst _ _ _ _ m' row h1 h2 h3 h4 h5 h6 h7=>
     obtain⟨jm,k',hk,qf⟩:=h4 (Nat.zero_lt_of_lt qd);have jk:m'=m:=by rw[<-h5 n.toNat qd,hg,jH]
     subst jk;have jC:n<(xs.length:Int):=(Int.toNat_lt hn).1 qd;have ku:n.toNat*m'+m'<=xs.length*m':=by rw[<-Ep];exact Fp _ qd
     have ja:ad.add (n.toNat*m')=⟨ad.block,ad.off+n.toNat*m',none⟩:=by
      obtain⟨b,of,sp⟩:=ad;simp at jm;subst jm;exact K1 _ _ _
     refine Cg hI (u:=.pointer (some ⟨ad.block,ad.off+n.toNat*m'+0,none⟩)) ?_ (C1 (.imm (fun j=>row n.toNat j) hk (by rw[jH];exact Cw (by omega) qf) (fun j hj=>h6 n.toNat j qd (by omega)) (fun j hj=>?_)))
     .simp[execOp,ho,hu,ql,Instr.indexAt,asIntOf,run_underlying ht,hn,jC,sizeOf,typeInfo,qc,hm,ja]
     .have:=h7 n.toNat j qd (by omega)
      rwa [hg]at this
    .cases hr
   .cases hr
  .cases h
 .rename_i j g off len m' own e1;rw[e1]at hx
  split at h
  .rename_i k n e2;rw[e2]at hy;have ql:=Er (Az rfl hy)
   split at h
   .rename_i hc;obtain⟨hn,jC,rfl⟩:=hc;obtain⟨b',o',cap,blk,g',hu,hb,qf,qX,_,qT,hl⟩:=Vz (Az rfl hx);obtain rfl:=qT (by omega);cases h;refine Cg hI (u:=.pointer (some ⟨b',o'+n.toNat*m,none⟩)) ?_ (C1 (.ptr hb qf (fun e=>(hl e).1)));simp[execOp,ho,hu,ql,Instr.indexAt,asIntOf,run_underlying ht,hn,jC,sizeOf,typeInfo,qc,hm,K1]
   .cases h
  .cases h
 .cases h
def Ao2{n:Nat}{one:Bool}{p:V}{u:Value}(hI:Inv G N γ σ w)(hp:RepV γ w p u)(h:Ib σ n one p=some v):
  ∃ b o cs,∃ f:Nat->Value,u=.pointer (some ⟨b,o,none⟩)/\G0 one cs=some v/\cs.length=n/\(∀ j,j<n->w.cell? ⟨b,o+j,none⟩=some (f j))/\∀ j,j<n->RepC γ w (cs.getD j .und) (f j):=by
 unfold Ib at h
 split at h
 .rename_i r off;obtain⟨b,o',k,row,hu,h1,h2,h3,h4⟩:=Mg (Az rfl hp)
  split at h
  .rename_i qf;refine⟨b,o'+off,(r.drop off).take n,fun j=>row (off+j),hu,h,by rw[Eg,D1];omega,fun j hj=>?_,fun j hj=>?_⟩
   .rw[U4];exact h3 (off+j) (by omega)
   .have:=h4 (off+j) (by omega)
    have e2:((r.drop off).take n).getD j V.und=r.getD (off+j) .und:=by
     simp only[Av,F5,Hx,hj,if_true]
    rw[e2];exact .row this
  .cases h
 .rename_i i g off
  split at h
  .rename_i cs e0 g' z qB
   split at h
   .rename_i qf;obtain⟨rfl,qf⟩:=qf;obtain⟨blk,hb,hu⟩:=Ao0 hI (Az rfl hp) (by simp[Nj,qB]);obtain⟨_,_,_,us,lo,hi,g1,_,g2,g3⟩:=hI.obj i _ _ qB hb;refine⟨blk,off,(cs.drop off).take n,fun j=>us.getD (off+j) undef,hu,h,by rw[Eg,D1];omega,fun j hj=>?_,fun j hj=>?_⟩
    .have qd:off+j<us.size:=by omega
     simp[World.cell?,g1,Array.getD_eq_getD_getElem?,qd]
    .have:=g3 (off+j) (by omega)
     have e2:((cs.drop off).take n).getD j V.und=cs.getD (off+j) .und:=by
      simp only[Av,F5,Hx,hj,if_true]
     rw[e2];exact this
   .cases h
  .cases h
 .cases h
def Agw{n:Nat}{one:Bool}{cs:List V}{f:Nat->Value}(h:G0 one cs=some v)(hl:cs.length=n)(hr:∀ j,j<n->RepC γ w (cs.getD j .und) (f j)):
  (one=true->n=1/\RepC γ w v (f 0))/\(one=false->Rep1 γ w v (.agg ((List.range n).map f).toArray)):=by
 unfold G0 at h;constructor
 .rintro rfl;rw[if_pos rfl]at h
  split at h
  .cases h;simp at hl;exact⟨hl.symm,by have:=hr 0 (by omega);simpa using this⟩
  .cases h
 .rintro rfl;rw[if_neg (by simp)]at h;cases h;refine .agg (by simp[hl]) (fun j hj=>?_);have:=hr j (by omega);simpa[Av,show j<n by omega] using this
def Nw:TypeDesc->Bool
 | .struct _ | .array _ _=>true
 | _=>false
def Agx{t:TypeId}{d:TypeDesc}(h:P.underlying t=some d):(isAgg t).run P w=.ok (Nw d) w:=by
 simp only[isAgg,Sem.run_bind,run_underlying h,Result.andThen_ok]
 cases d<;>rfl
def Al8{t:TypeId}{d:TypeDesc}{fi:TypeInfo}{n:Nat}{one:Bool}{b p:Nat}{f:Nat->Value}(ht:P.underlying t=some d)(hd:Nw d=!one)(qc:P.info? t=some fi)(hn:fi.size=n)(jE:one=true->n=1)
  (hc:∀ j,j<n->w.cell? ⟨b,p+j,none⟩=some (f j)):(loadVar t ⟨b,p,none⟩).run P w=.ok (if one then f 0 else .agg ((List.range n).map f).toArray) w:=by
 have jw:=Agx (P:=P) (w:=w) ht;rw[hd]at jw
 cases one with
 | true=>
  have h0:=hc 0 (by have:=jE rfl;omega);simp at h0;simp[loadVar,jw,load,Sem.run,h0]
 | false=>
  have hl:=run_loadCells (P:=P) w ⟨b,p,none⟩ n f (fun j hj=>by rw[K1];exact hc j hj);simp[loadVar,jw,sizeOf,typeInfo,qc,hn,hl]
def A1n{t:TypeId}{d:TypeDesc}{fi:TypeInfo}{n:Nat}{one:Bool}{x:Operand}{s:S}(ho:o.op=.load t x)(ht:P.underlying t=some d)(hd:Nw d=!one)(qc:P.info? t=some fi)(hn:fi.size=n)
  (hx:RepV γ w (Ab e s) (a.eval x)) (hI:Inv G N γ σ w) (h:Ae (.load n one s) e σ=some (v,σ1)):Cp P G N γ σ w ((execOp a.eval o).run P w) v σ1:=by
 simp only[Ae,Bu]at h;obtain⟨v',h,h2⟩:=h;cases h2;obtain⟨b,p,cs,f,hu,h1,h2,h3,h4⟩:=Ao2 hI hx h;obtain⟨m1,m2⟩:=Agw h1 h2 h4;have hr:=Al8 (P:=P) (w:=w) ht hd qc hn (fun h=>(m1 h).1) h3;refine Cg hI (u:=if one then f 0 else .agg ((List.range n).map f).toArray) (by simp[execOp,ho,hu,Instr.loadAt,Instr.sureAddr,hr]) ?_
 cases one with
 | true=>exact C1 (m1 rfl).2
 | false=>exact .one (m2 rfl)
def okc{us:List Value}{cs:List V}(hl:cs.length=us.length)(h:∀ j,j<cs.length->RepC γ w (cs.getD j .und) (us.getD j undef)):∀ u∈us,u.oneCell'=true:=by
 intro u hu;obtain⟨j,hj,rfl⟩:=Qq hu;have:=(Qx (h j (by omega))).2;simpa[Av,hj] using this
def Anj{cs r cs':List V}{off:Nat}{us ur:List Value}(hp:Or cs off r=some cs')(hl:us.length=cs.length)(jT:r.length=ur.length)
  (h1:∀ j,j<cs.length->RepC γ w (cs.getD j .und) (us.getD j undef)) (h2:∀ j,j<r.length->RepC γ w (r.getD j .und) (ur.getD j undef)) :
  off+r.length<=cs.length/\cs'.length=cs.length/\(us.take off++ur++us.drop (off+ur.length)).length=cs'.length/\∀ j,j<cs'.length->RepC γ w (cs'.getD j .und) ((us.take off++ur++us.drop (off+ur.length)).getD j undef):=by
 unfold Or at hp
 split at hp
 .rename_i qf;cases hp;refine⟨qf,by simp;omega,by simp;omega,fun j hj=>?_⟩;by_cases jb:j<off
  .have e1:(cs.take off++r++cs.drop (off+r.length)).getD j V.und=cs.getD j .und:=by
    simp only[Av];rw[Da,B6 (by simp;omega),F5,if_pos jb]
   have e2:(us.take off++ur++us.drop (off+ur.length)).getD j undef=us.getD j undef:=by
    simp only[Av];rw[Da,B6 (by simp;omega),F5,if_pos jb]
   rw[e1,e2];exact h1 j (by omega)
  .by_cases jj:j<off+r.length
   .have e1:(cs.take off++r++cs.drop (off+r.length)).getD j V.und=r.getD (j - off) .und:=by
     simp only[Av];rw[Da,Co (by simp;omega),B6 (by simp;omega)];simp[show min off cs.length=off by omega]
    have e2:(us.take off++ur++us.drop (off+ur.length)).getD j undef=ur.getD (j - off) undef:=by
     simp only[Av];rw[Da,Co (by simp;omega),B6 (by simp;omega)];simp[show min off us.length=off by omega]
    rw[e1,e2];exact h2 (j - off) (by omega)
   .have kk:j<cs.length:=by simp at hj;omega
    have e1:(cs.take off++r++cs.drop (off+r.length)).getD j V.und=cs.getD j .und:=by
     simp only[Av];rw[Co (by simp;omega),Hx];congr 2;simp;omega
    have e2:(us.take off++ur++us.drop (off+ur.length)).getD j undef=us.getD j undef:=by
     simp only[Av];rw[Co (by simp;omega),Hx];congr 2;simp;omega
    rw[e1,e2];exact h1 j kk
 .cases hp
def Aaz(P:Program)(g o:Nat)(t:TypeId)(fz:Nat × Nat):∀ (vs:List Value) (i:Nat) (qo:Array Value) (w:World),w.heap[g]?=some (.cells qo t fz)->(fz.2<=o+i\/qo.size<=fz.1)->o+i+vs.length<=qo.size->(∀ v∈vs,v.oneCell'=true) ->
  (storeCells ⟨g,o,none⟩ vs i).run P w=.ok () (w.setRow g (qo.toList.take (o+i)++vs++qo.toList.drop (o+i+vs.length)).toArray)
 | [],i,qo,w,hg,_,_,_=>by
  simp only[storeCells,B3,C9,Ll,Gq,Array.toArray_toList];rw[setRow_self w g qo t fz hg];rfl
 | v::rest,i,qo,w,hg,jO,hl,h1=>by
  have hi:o+i<qo.size:=by simp at hl;omega
  have jv:(⟨g,o,none⟩:Addr).add i=⟨g,o+i,none⟩:=K1 _ _ _;have qH:w.cell? ⟨g,o+i,none⟩=some qo[o+i]:=by simp[World.cell?,hg,hi]
  have jy:w.frozen? ⟨g,o+i,none⟩=false:=by
   obtain⟨lo,jh⟩:=fz;simp only[World.frozen?,hg,Bool.and_eq_false_iff,decide_eq_false_iff_not];simp only at jO;rcases jO with h | h
   .right;omega
   .left;omega
  have jt:(store ((⟨g,o,none⟩:Addr).add i) v).run P w=.ok () (w.setRow g (qo.setIfInBounds (o+i) v)):=by
   rw[jv,run_store P w _ v _ (h1 v (by simp)),qH];simp[jy,setCell_eq_setRow w g (o+i) qo t fz v hg]
  have ih:=Aaz P g o t fz rest (i+1) (qo.setIfInBounds (o+i) v) (w.setRow g (qo.setIfInBounds (o+i) v)) (setRow_heap w g qo _ t _ hg) (by simp;omega) (by simp at hl ⊢;omega) (fun x hx=>h1 x (by simp[hx]));simp only[storeCells,Sem.run_bind,jt,Result.andThen_ok,ih,setRow_setRow];congr 3;have e:=list_seg_step qo.toList (o+i) v rest (by simp at hl ⊢;omega);simpa[Array.toList_setIfInBounds,U4] using e
def V0{α:Type}(us ur:List α)(off j:Nat)(h:off+ur.length<=us.length):(us.take off++ur++us.drop (off+ur.length))[j]?=if j<off then us[j]? else if j<off+ur.length then ur[j - off]? else us[j]?:=by
 by_cases jb:j<off
 .rw[if_pos jb,Da,B6 (by simp;omega),F5,if_pos jb]
 .rw[if_neg jb];by_cases jj:j<off+ur.length
  .rw[if_pos jj,Da,Co (by simp;omega),B6 (by simp;omega)];congr 1;simp;omega
  .rw[if_neg jj,Co (by simp;omega),Hx];congr 1;simp;omega
def Abc{b:Nat}(us:Array Value)(h:N<=b):Below N w (w.setRow b us):=
 ⟨rfl,rfl,rfl,by simp[World.setRow],fun k hk=>setRow_other w b k us (by omega)⟩
def Azf{t:TypeId}{fi:TypeInfo}{n:Nat}{x y:Operand}{s1 s2:S}(ho:o.op=.store t x y)(qc:P.info? t=some fi)(hn:fi.size=n)
  (hx:RepV γ w (Ab e s1) (a.eval x)) (hy:RepV γ w (Ab e s2) (a.eval y)) (hI:Inv G N γ σ w) (h:Ae (.store n s1 s2) e σ=some (v,σ1)):Cp P G N γ σ w ((execOp a.eval o).run P w) v σ1:=by
 simp only[Ae,Bu]at h;obtain⟨σ',h,h2⟩:=h;cases h2;unfold Pq at h
 split at h
 .rename_i b g off e1;rw[e1]at hx
  split at h
  .rename_i cs ee g' z qB
   split at h
   .rename_i hc;obtain⟨rfl,hz,kI,je⟩:=hc;simp only[Bu]at h;obtain⟨cs',hp,h⟩:=h;cases h;obtain⟨blk,hb,hu⟩:=Ao0 hI (Az rfl hx) (by simp[Nj,qB]);obtain⟨ur,jn,hl,hr⟩:=Agv hy je;obtain⟨_,kJ,kQ,us,lo,hi,g1,jL,g2,g3⟩:=hI.obj b _ _ qB hb
    have jY:∀ j,j<cs.length->RepC γ w (cs.getD j .und) ((us.toList.take cs.length).getD j undef):=fun j hj=>by
     have:=g3 j hj;simpa[Array.getD_eq_getD_getElem?,Av,F5,hj] using this
    obtain⟨p1,p2,p3,p4⟩:=Anj hp (by simp;omega) hl jY hr;have jt:=Aaz P blk off ee (lo,hi) ur 0 us w g1 (by rcases jL.2 with h | h;exact .inl (by simp;omega);exact .inr h) (by simp;omega) (okc hl hr);simp only[Ll]at jt;have qD:(a.eval y).cells.size=fi.size:=by rw[jn];simp;omega
    have kD:ur.length=n:=by omega
    have jI:((us.toList.take off++ur++us.toList.drop (off+ur.length)).toArray).size=us.size:=by simp;omega
    obtain⟨i1,i2⟩:=hI.write (us':=(us.toList.take off++ur++us.toList.drop (off+ur.length)).toArray) (cs':=cs') (g':=g) hb qB g1 jL (Ai _) (by omega) jI (by omega) (fun o ho=>by
     rw[Sd,Da,B6 (by simp;omega),F5,if_pos (by omega),Array.getElem?_toList]) (fun j hj=>by
     have:=p4 j hj
     have e2:((us.toList.take off++ur++us.toList.drop (off+ur.length)).toArray).getD j undef=((us.toList.take cs.length).take off++ur++(us.toList.take cs.length).drop (off+ur.length)).getD j undef:=by
      rw[Array.getD_eq_getD_getElem?,Sd,Av,V0 _ _ _ _ (by simp;omega),V0 _ _ _ _ (by simp;omega)];rw[F5,if_pos (show j<cs.length by omega)]
     rw[e2]
     exact this)
    rw[show(blk,g).1=blk from rfl,Lo hb]at i1 i2;refine⟨undef,_,_,.inr ⟨?_,rfl⟩,.und,i1,i2,Abc _ (hI.low _ _ hb),fun _ _=>rfl⟩;have qQ:(a.eval y).cells.toList=ur:=by rw[jn]
    simp[execOp,ho,hu,Instr.storeAt,Instr.sureAddr,storeVar,sizeOf,typeInfo,qc,qD,qQ,jt]
   .cases h
  .cases h
 .cases h
open Go Go.RowKit
variable {P:Program} {G:List (Nat × List V)} {N:Nat} {γ:Gh} {σ σ1:St} {w:World} {e:Env} {a:Act} {o:Oper} {v:V}
def Agg{o:Obj}(h:N<=w.heap.size):Below N w (w.alloc o):=(Below.refl _ _).alloc h o
def Abu{us:Array Value}{cs:List V}{el:TypeId}{r:Result Next}{v:V}{u:Value}(hI:Inv G N γ σ w)(hl:cs.length<=us.size)(hr:∀ j,j<cs.length->RepC γ w (cs.getD j .und) (us.getD j undef))
  (h:r=.ok (.value u) (w.alloc (.cells us el))) (hv:∀ γ',γ'.O[σ.length]?=some (w.heap.size,0)->RepC γ' (w.alloc (.cells us el)) v u):Cp P G N γ σ w r v (σ++[.row cs el 0 0]):=by
 obtain⟨i1,i2⟩:=hI.newRow us el cs hl hr;exact⟨_,_,_,.inl h,C1 (hv _ (by show(γ.O++_)[σ.length]?=_;rw[<-hI.len];simp)),i1,i2,Agg hI.base,fun b hb=>Me _ _ (by have:=hI.base;omega)⟩
def A5b{t:TypeId}{fi:TypeInfo}{z:Value}{zs:List V}(ho:o.op=.alloc t)(qc:P.info? t=some fi)(hz:fi.zero=some z)(hc:H5 zs z.cells.toList=true)(hI:Inv G N γ σ w)
  (h:Ae (.new t zs) e σ=some (v,σ1)):Cp P G N γ σ w ((execOp a.eval o).run P w) v σ1:=by
 simp only[Ae]at h;cases h;obtain⟨h1,h2⟩:=Sx (γ:=γ) (w:=w) hc
 refine Abu (us:=z.cells) (el:=t) (u:=.pointer (some ⟨w.heap.size,0,none⟩)) hI (by simpa using Agd h1) (fun j hj=>by
  have:=h2 j hj
  simpa[Array.getD_eq_getD_getElem?,Av] using this) ?_ (fun γ' hO=>Ari hO)
 simp[execOp,ho,Instr.alloc,zeroValue,typeInfo,qc,hz,newVar,newRow,newObj,Sem.run]
def A5c{t:TypeId}{x:Operand}{s:S}(ho:o.op=.box t x)(hx:RepV γ w (Ab e s) (a.eval x))(hI:Inv G N γ σ w)
  (h:Ae (.box t s) e σ=some (v,σ1)):Cp P G N γ σ w ((execOp a.eval o).run P w) v σ1:=by
 simp only[Ae]at h
 split at h
 .rename_i hc;cases h;obtain⟨us,hu,h1,h2⟩:=Agv hx hc
  refine Abu (us:=us.toArray) (el:=t) (u:=.pointer (some ⟨w.heap.size,0,none⟩)) hI (by simpa using Agd h1) (fun j hj=>by
   have:=h2 j hj
   simpa[Array.getD_eq_getD_getElem?,Av] using this) ?_ (fun γ' hO=>Ari hO)
  simp[execOp,ho,Instr.box,newVar,newRow,newObj,Sem.run,hu]
 .cases h
/-! filling -/
def Ao3(off:Nat):∀ (l:List Value) (k:Nat) (cs:Array Value),off+k+l.length<=cs.size ->
  ((l.zipIdx k).foldl (fun cs (p:Value × Nat)=>cs.setIfInBounds (off+p.2) p.1) cs).toList=cs.toList.take (off+k)++l++cs.toList.drop (off+k+l.length)
 | [],k,cs,h=>by simp
 | c::l,k,cs,h=>by
  rw[List.zipIdx_cons,List.foldl_cons,Ao3 off l (k+1) _ (by simp at h ⊢;omega)];simp only[Array.toList_setIfInBounds];have:=list_seg_step cs.toList (off+k) c l (by simp at h ⊢;omega);simp only[Am];rw[<-this];rfl
def A1o(off:Nat)(vs cs:Array Value)(h:off+vs.size<=cs.size):
  vs.zipIdx.foldl (fun cs (c,j)=>cs.setIfInBounds (off+j) c) cs=(cs.toList.take off++vs.toList++cs.toList.drop (off+vs.size)).toArray:=by
 apply Array.toList_inj.1;have:=Ao3 off vs.toList 0 cs (by simpa using h);simp only[Ll,Array.length_toList]at this;rw[<-this,<-Array.foldl_toList];simp
def Ab3{place:Nat->Option (Nat × Nat)}:∀ {ps:List (Nat × Nat × V)} {qs:List (Nat × Value)} {cs cs':List V} {us:Array Value},Ia cs ps=some cs'->ps.length=qs.length ->
  (∀ (i:Nat) (p:Nat × Nat × V) (q:Nat × Value),ps[i]?=some p->qs[i]?=some q->place q.1=some (p.1,p.2.1)/\RepV γ w p.2.2 q.2)->us.size=cs.length->(∀ j,j<cs.length->RepC γ w (cs.getD j .und) (us.toList.getD j undef)) ->
  ∃ us':Array Value,Instr.fill place us qs=some us'/\us'.size=cs'.length/\cs'.length=cs.length/\∀ j,j<cs'.length->RepC γ w (cs'.getD j .und) (us'.toList.getD j undef)
 | [],[],cs,cs',us,h,_,_,hs,hr=>by
  simp only[Ia]at h;cases h;exact⟨us,rfl,hs,rfl,hr⟩
 | [],_::_,_,_,_,_,hl,_,_,_=>by simp at hl
 | _::_,[],_,_,_,_,hl,_,_,_=>by simp at hl
 | (off,n,v)::ps,(i,u)::qs,cs,cs',us,h,hl,hp,hs,hr=>by
  simp only[Ia]at h
  split at h
  .rename_i hc;simp only[Ef]at h;obtain⟨c1,h1,h⟩:=h;obtain⟨jG,hv⟩:=hp 0 _ _ rfl rfl;have jN:=hc.2;have kE:RepV γ w v u:=hv;obtain⟨ur,jn,jT,kx⟩:=Agv kE hc.1;obtain⟨p1,p2,p3,p4⟩:=Anj h1 (by simpa using hs) jT hr kx;have qD:u.cells.size=n:=by rw[jn];simp only[Xm];omega
   have jx:off+u.cells.size<=us.size:=by omega
   have hf:=A1o off u.cells us jx;have qQ:u.cells.toList=ur:=by rw[jn]
   rw[qQ,qD,show n=ur.length by omega]at hf
   obtain⟨us',f1,f2,f3,f4⟩:=Ab3 (place:=place) (ps:=ps) (qs:=qs) (cs:=c1) (cs':=cs') (us:=(us.toList.take off++ur++us.toList.drop (off+ur.length)).toArray) h (by simpa using hl)
    (fun i' p q h1 h2=>hp (i'+1) p q (by simpa using h1) (by simpa using h2)) (by simpa using p3) (fun j hj=>by simpa using p4 j hj)
   refine⟨us',?_,f2,f3.trans p2,f4⟩;unfold Instr.fill;rw[show place i=some (off,n) from jG];simp only[qD];rw[if_neg (by simp;omega),hf];exact f1
  .cases h
def Azg{t:TypeId}{fi:TypeInfo}{z:Value}{zs:List V}{fs:Array Field}{qw:List (Nat × Nat)}{qa:Array (Nat × Operand)}{ps:List (Nat × Nat × S)}(ho:o.op=.build t qa)(ht:P.underlying t=some (.struct fs))(qc:P.info? t=some fi)(hz:fi.zero=some z)(hc:H5 zs z.cells.toList=true)
  (jG:fs.toList.mapM (fun f=>(P.info? f.type).map fun i=>(f.offset,i.size))=some qw)
  (hl:ps.length=qa.size) (hp:∀ (i:Nat) (p:Nat × Nat × S) (q:Nat × Operand),ps[i]?=some p->qa[i]?=some q->qw[q.1]?=some (p.1,p.2.1)/\RepV γ w (Ab e p.2.2) (a.eval q.2))
  (hI:Inv G N γ σ w)
  (h:Ae (.build zs ps) e σ=some (v,σ1)):Cp P G N γ σ w ((execOp a.eval o).run P w) v σ1:=by
 simp only[Ae,Bu]at h;obtain⟨cs,h,h2⟩:=h;cases h2;obtain⟨h1,h2⟩:=Sx (γ:=γ) (w:=w) hc
 obtain⟨us',f1,f2,f3,f4⟩:=Ab3 (γ:=γ) (w:=w) (place:=fun i=>qw.toArray[i]?) (qs:=(qa.map fun(i,x)=>(i,a.eval x)).toList) (us:=z.cells) h (by simp[hl]) (fun i p q g1 g2=>by
  simp only[Aj,Bu]at g1;obtain⟨p',g1,rfl⟩:=g1;simp only[Array.toList_map,Aj,Bu]at g2;obtain⟨q',g2,rfl⟩:=g2;obtain⟨k1,k2⟩:=hp i p' q' g1 (by simpa using g2)
  exact⟨by simpa using k1,k2⟩) (by simpa using h1.symm) h2
 refine Cg hI (u:=.agg us') ?_ (.one (by
  have:=Rep1.agg (γ:=γ) (w:=w) (cs:=cs) (us:=us'.toList) (by simp[f2]) f4
  simpa using this))
 have hb:P.built t (qa.map fun(i,x)=>(i,a.eval x)).toList=some us':=by
  unfold Program.built;simp only[qc,ht,hz,jG];exact f1
 simp[execOp,ho,run_build w t _ us' hb]
def Aya{t el:TypeId}{fi fe:TypeInfo}{z:Value}{zs:List V}{len:Nat}{qa:Array (Nat × Operand)}{ps:List (Nat × Nat × S)}(ho:o.op=.build t qa)(ht:P.underlying t=some (.array len el))(qc:P.info? t=some fi)(hz:fi.zero=some z)(hc:H5 zs z.cells.toList=true)(kg:P.info? el=some fe)
  (hl:ps.length=qa.size) (hp:∀ (i:Nat) (p:Nat × Nat × S) (q:Nat × Operand),ps[i]?=some p->qa[i]?=some q->(q.1*fe.size,fe.size)=(p.1,p.2.1)/\RepV γ w (Ab e p.2.2) (a.eval q.2))
  (hI:Inv G N γ σ w)
  (h:Ae (.build zs ps) e σ=some (v,σ1)):Cp P G N γ σ w ((execOp a.eval o).run P w) v σ1:=by
 simp only[Ae,Bu]at h;obtain⟨cs,h,h2⟩:=h;cases h2;obtain⟨h1,h2⟩:=Sx (γ:=γ) (w:=w) hc
 obtain⟨us',f1,f2,f3,f4⟩:=Ab3 (γ:=γ) (w:=w) (place:=fun i=>some (i*fe.size,fe.size)) (qs:=(qa.map fun(i,x)=>(i,a.eval x)).toList) (us:=z.cells) h (by simp[hl]) (fun i p q g1 g2=>by
  simp only[Aj,Bu]at g1;obtain⟨p',g1,rfl⟩:=g1;simp only[Array.toList_map,Aj,Bu]at g2;obtain⟨q',g2,rfl⟩:=g2;obtain⟨k1,k2⟩:=hp i p' q' g1 (by simpa using g2)
  exact⟨by simpa using k1,k2⟩) (by simpa using h1.symm) h2
 refine Cg hI (u:=.agg us') ?_ (.one (by
  have:=Rep1.agg (γ:=γ) (w:=w) (cs:=cs) (us:=us'.toList) (by simp[f2]) f4
  simpa using this))
 simp only[Array.toList_map]at f1;simp[execOp,ho,Instr.build,zeroValue,typeInfo,qc,hz,run_underlying ht,sizeOf,kg,f1]
/-! rows of cells -/
def Yu(m:Nat):∀ (n:Nat) (cs:List V),Fc m n cs=(List.range n).map fun i=>(cs.drop (i*m)).take m
 | 0,_=>rfl
 | n+1,cs=>by
  rw[Fc,Yu m n,List.range_succ_eq_map,Bb,Na];simp only[Xx,I4,List.cons.injEq,true_and];apply U0;intro i _;simp only[Function.comp,Pd,Ep];rw[Abg]
def Yb(m n:Nat)(cs:List V):(Fc m n cs).length=n:=by rw[Yu];simp
def Ao4(m n:Nat)(cs:List V){i:Nat}(hi:i<n):(Fc m n cs).getD i []=(cs.drop (i*m)).take m:=by
 rw[Yu];simp[Av,hi]
def Yv{i n m:Nat}(hi:i<n):i*m+m<=n*m:=by rw[<-Ep];exact Fp _ hi
def Amm{m n:Nat}{cs:List V}(hl:n*m<=cs.length){i:Nat}(hi:i<n):((Fc m n cs).getD i []).length=m:=by
 rw[Ao4 m n cs hi];have:=Yv (m:=m) hi;simp;omega
def Ank{m n:Nat}{cs:List V}{i j:Nat}(hi:i<n)(hj:j<m):((Fc m n cs).getD i []).getD j .und=cs.getD (i*m+j) .und:=by
 rw[Ao4 m n cs hi];simp only[Av,F5,Hx,hj,if_true]
def Pl{α β:Type}{f:α->Option β}:∀ {l:List α} {r:List β},l.mapM f=some r->r.length=l.length/\∀ (i:Nat) (x:α),l[i]?=some x->∃ y,r[i]?=some y/\f x=some y
 | [],r,h=>by
  simp at h;subst h;exact⟨rfl,fun i x hi=>by simp at hi⟩
 | a::l,r,h=>by
  rw[H0]at h
  cases ha:f a with
  | none=>simp[ha]at h
  | some b=>
   cases hl:l.mapM f with
   | none=>simp[ha,hl]at h
   | some r'=>
    simp[ha,hl]at h;subst h;obtain⟨h1,h2⟩:=Pl hl;refine⟨by simp[h1],fun i x hi=>?_⟩
    cases i with
    | zero=>simp at hi;subst hi;exact⟨b,by simp,ha⟩
    | succ i=>
     obtain⟨y,hy,hf⟩:=h2 i x (by simpa using hi);exact⟨y,by simpa using hy,hf⟩
/-! what is settled -/
def Aeu(γ:Gh)(σ:St)(js:List Nat)(κ':E0):Prop:=∀ (i:Nat) (cs:List V) (e g z:Nat) (p:Nat × Nat),i∈js->σ[i]?=some (Ob.row cs e g z)->γ.O[i]?=some p->κ' p.1=some cs.length
def Inv.freeze:∀ (js:List Nat) {γ:Gh} {σ:St},Inv G N γ σ w->∃ κ',Inv G N ⟨κ',γ.O⟩ (σ.freeze js) w/\Ext γ w ⟨κ',γ.O⟩ w/\(∀ b,b<N->κ' b=γ.κ b)/\Aeu γ σ js κ'/\(∀ (i:Nat) (cs:List V) (e g z:Nat),σ[i]?=some (Ob.row cs e g z)->∃ z',(σ.freeze js)[i]?=some (Ob.row cs e g z'))
 | [],γ,σ,h=>⟨γ.κ,h,Ext.refl _ _,fun _ _=>rfl,fun i cs e g z p hi=>(by cases hi),fun i cs e g z hi=>⟨z,hi⟩⟩
 | j::js,γ,σ,h=>by
  unfold St.freeze
  split
  .rename_i ob qu
   cases ob with
   | dead=>
    rw[show Ob.shut .dead=.dead from rfl,Lo qu];obtain⟨κ',k1,k2,k3,k4,k5⟩:=Inv.freeze js h;refine⟨κ',k1,k2,k3,fun i cs e g z p hi ho hp=>?_,k5⟩;rcases Bj.1 hi with rfl | hi
    .rw[qu]at ho;cases ho
    .exact k4 i cs e g z p hi ho hp
   | map kvs=>
    rw[show Ob.shut (.map kvs)=.map kvs from rfl,Lo qu];obtain⟨κ',k1,k2,k3,k4,k5⟩:=Inv.freeze js h;refine⟨κ',k1,k2,k3,fun i cs e g z p hi ho hp=>?_,k5⟩;rcases Bj.1 hi with rfl | hi
    .rw[qu]at ho;cases ho
    .exact k4 i cs e g z p hi ho hp
   | row cs e g z=>
    obtain⟨p,hp,hk⟩:=h.of qu;obtain⟨i1,i2⟩:=h.shut1 (z':=cs.length) hp qu hk.2.2.1 (Ai _);obtain⟨κ',k1,k2,k3,k4,k5⟩:=Inv.freeze js i1;have jQ:j<σ.length:=(Ak.1 qu).1;refine⟨κ',k1,i2.trans k2,fun b hb=>(k3 b hb).trans (Me _ _ (by have:=h.low j p hp;omega)),fun i cs' e' g' z' q hi ho hq=>?_,fun i cs' e' g' z' hi=>?_⟩
    .by_cases qi:i=j
     .subst qi;rw[qu]at ho;cases ho;rw[hp]at hq;cases hq;obtain⟨k',qg,qf⟩:=k2.kap p.1 cs.length (S4 _ _ _);obtain⟨z2,kF⟩:=k5 i cs e g cs.length (B5 jQ);obtain⟨_,o2,o3,_⟩:=k1.obj i _ p kF hp;have jW:κ' p.1=some z2:=o2;have jR:κ' p.1=some k':=qg;rw[jW]at jR;cases jR;rw[jW];congr 1;have kR:k'<=cs.length:=o3;omega
     .rcases Bj.1 hi with e1 | hi
      .exact absurd e1 qi
      .exact k4 i cs' e' g' z' q hi (by rw[Bh (fun e=>qi e.symm)];exact ho) hq
    .by_cases qi:j=i
     .subst qi;rw[qu]at hi;cases hi;exact k5 j cs e g cs.length (B5 jQ)
     .exact k5 i cs' e' g' z' (by rw[Bh qi];exact hi)
  .rename_i qu;obtain⟨κ',k1,k2,k3,k4,k5⟩:=Inv.freeze js h;refine⟨κ',k1,k2,k3,fun i cs e g z p hi ho hp=>?_,k5⟩;rcases Bj.1 hi with rfl | hi
   .rw[qu]at ho;cases ho
   .exact k4 i cs e g z p hi ho hp
def Ao5{v:V}{u:Value}(h:RepC γ w v u)(hv:v.rowB=true):RepR γ.κ w v u:=by
 cases h with
 | row h=>exact h
 | _=>cases hv
def Abl{κ':E0}{js:List Nat}(hI:Inv G N γ σ w)(hx:Ext γ w ⟨κ',γ.O⟩ w)(hs:Aeu γ σ js κ'):∀ {d:Nat} {v v':V} {u:Value},Fa σ js d v=some v'->RepC γ w v u->RepR κ' w v' u
 | 0,_,_,_,h,_=>by cases h
 | d+1,v,v',u,h,hr=>by
  unfold Fa at h
  split at h
  .rename_i hv;cases h;exact(Ao5 hr hv).keep hx.kap hx.cell
  .split at h
   .rename_i i g off len m own hv
    split at h
    .rename_i ji
     split at h
     .rename_i cs e g' z ho
      split at h
      .rename_i hc;obtain⟨rfl,hm,qf⟩:=hc;simp only[Bu]at h;obtain⟨rs,jk,rfl⟩:=h;obtain⟨blk,cap,o',hb,hu,qT,qD,qX,qZ⟩:=Yt (o':=0) hI hr (by simp[Nj,ho]);obtain⟨_,_,_,us,lo,hi,g1,_,g2,g3⟩:=hI.obj i _ _ ho hb;obtain⟨hl,hg⟩:=Pl jk;have jH:rs.length=len*m:=by rw[hl];simp;omega
       have hk:=hs i cs e g z _ (H1.1 ji) ho hb;rw[hu];have qQ:=Yb m len rs
       have key:=RepR.lst (κ:=κ') (w:=w) (t:=0) (xs:=Fc m len rs) (a:=⟨blk,o',none⟩) (cap:=cap) (m:=m) (fun i j=>us.getD (o'+i*m+j) undef) (fun h=>by omega) (by omega) qZ
        (fun h0=>⟨rfl,_,hk,by rw[qQ]at h0 ⊢;rw[qT (by omega)];exact qf⟩)
        (fun i hi=>Amm (by omega) (by omega))
        (fun i j hi hj=>by
         rw[qQ]at hi;have:=Yv (m:=m) hi;have e1:=qT (by omega);have qd:o'+i*m+j<us.size:=by omega
         simp[World.cell?,g1,Array.getD_eq_getD_getElem?,qd])
        (fun i j hi hj=>by
         rw[qQ]at hi;have:=Yv (m:=m) hi;have e1:=qT (by omega);subst e1;rw[Ank hi hj];have qd:i*m+j<((cs.drop o').take (len*m)).length:=by simp;omega
         obtain⟨y,hy,hf⟩:=hg (i*m+j) _ (Bc qd);rw[show rs.getD (i*m+j) .und=y by rw[Av,hy];rfl];refine Abl hI hx hs hf ?_;have h3:=g3 (o'+(i*m+j)) (by simp at qd;omega)
         have e2:((cs.drop o').take (len*m))[i*m+j]=cs.getD (o'+(i*m+j)) .und:=by
          rw[Afx,List.getElem_drop,Av,Bc (by simp at qd;omega)];rfl
         rw[e2,U4]
         exact h3)
       rw[qQ]at key;exact key
      .cases h
     .cases h
    .cases h
   .cases h
open Go Go.RowKit
variable {P:Program} {G:List (Nat × List V)} {N:Nat} {γ:Gh} {σ σ1:St} {w:World} {e:Env} {a:Act} {o:Oper} {v:V}
def Ahi{α:Type}(zs:List α)(d:α)(hm:0<zs.length):∀ (n j:Nat),j<n*zs.length->((List.replicate n zs).flatten).getD j d=zs.getD (j % zs.length) d
 | 0,j,h=>by omega
 | n+1,j,h=>by
  rw[Xj,Dv];by_cases hj:j<zs.length
  .rw[Xo hj];simp only[Av,B6 hj]
  .have:=Ahi zs d hm n (j - zs.length) (by rw[Ep]at h;omega);simp only[Av,Co (Nat.le_of_not_lt hj)]at this ⊢;rw[this,Nat.mod_eq_sub_mod (Nat.le_of_not_lt hj)]
def Xw{α:Type}(zs:List α)(n:Nat):((List.replicate n zs).flatten).length=n*zs.length:=by
 induction n with
 | zero=>simp
 | succ n ih=>rw[Xj,Dv,Al,ih,Ep];omega
def A1p(w:World)(us:Array Value)(el:TypeId)(k:Nat):(w.alloc (.cells us el)).cell? ⟨w.heap.size,k,none⟩=us[k]?:=by
 unfold World.cell?;rw[show(w.alloc (.cells us el)).heap[(⟨w.heap.size,k,none⟩:Addr).block]?=some (.cells us el) from heap_alloc_new w _];rfl
def As9{us:Array Value}{cs:List V}{n m:Nat}{el:TypeId}{r:Result Next}{js:List Nat}{κ':E0}(hI:Inv G N ⟨κ',γ.O⟩ (σ.freeze js) w)(hx:Ext γ w ⟨κ',γ.O⟩ w)(km:∀ b,b<N->κ' b=γ.κ b)(hm:0<m)(hn:n<=maxLen)(hl:cs.length=n*m)(hs:us.size=n*m)(hr:∀ j,j<n*m->RepR κ' w (cs.getD j .und) (us.toList.getD j undef))
  (h:r=.ok (.value (.slice (some ⟨w.heap.size,0,none⟩) n n)) (w.alloc (.cells us el))):Cp P G N γ σ w r (.lst 1 (Fc m n cs)) (σ.freeze js):=by
 obtain⟨i1,i2⟩:=hI.row us el;have qj:=Yb m n cs;refine⟨_,_,_,.inl h,?_,i1,hx.trans i2,Agg hI.base,fun b hb=>(Me _ _ (by have:=hI.base;omega)).trans (km b hb)⟩;refine C1 (.row ?_)
 have key:=RepR.lst (κ:=Iz κ' w.heap.size us.size) (w:=w.alloc (.cells us el)) (t:=1) (xs:=Fc m n cs) (a:=⟨w.heap.size,0,none⟩) (cap:=n) (m:=m) (fun i j=>us.toList.getD (i*m+j) undef) (fun _=>qj.symm) (by omega) hn
  (fun _=>⟨rfl,us.size,S4 _ _ _,by simp only[qj];omega⟩)
  (fun i hi=>Amm (by omega) (by omega))
  (fun i j hi hj=>by
   rw[qj]at hi;have:=Yv (m:=m) hi;have qd:i*m+j<us.size:=by omega
   show(w.alloc (.cells us el)).cell? ⟨w.heap.size,0+i*m+j,none⟩=_;rw[A1p,E3]
   simp[Av,qd])
  (fun i j hi hj=>by
   rw[qj]at hi;have:=Yv (m:=m) hi;rw[Ank hi hj]
   exact(hr (i*m+j) (by omega)).keep i2.kap i2.cell)
 rw[qj]at key;exact key
def Agy{fi:TypeInfo}{z:Value}{zs:List V}{n:Nat}{qa:Array (Nat × Operand)}{ps:List (Nat × S)}{cs:List V}(hc:H5 zs z.cells.toList=true)(hm:fi.size=zs.length)(qq:0<zs.length)
  (hl:ps.length=qa.size) (hp:∀ (i:Nat) (p:Nat × S) (q:Nat × Operand),ps[i]?=some p->qa[i]?=some q->p.1=q.1/\RepV γ w (Ab e p.2) (a.eval q.2))
  (h:Ia (List.replicate n zs).flatten (ps.map fun p=>(p.1*zs.length,zs.length,Ab e p.2))=some cs) :
  ∃ us':Array Value,(Instr.fill (fun i=>some (i*fi.size,fi.size)) ((Array.range (n*fi.size)).map (fun i=>(if n*fi.size=0 then #[] else z.cells)[i % (if n*fi.size=0 then(#[]:Array Value) else z.cells).size]!)) (qa.map fun(i,x)=>(i,a.eval x)).toList)=some us'/\us'.size=n*zs.length/\cs.length=n*zs.length/\∀ j,j<cs.length->RepC γ w (cs.getD j .und) (us'.toList.getD j undef):=by
 obtain⟨h1,h2⟩:=Sx (γ:=γ) (w:=w) hc;have jK:z.cells.size=zs.length:=by simpa using h1.symm
 let us0:Array Value:=(Array.range (n*zs.length)).map (fun i=>z.cells[i % z.cells.size]!)
 obtain⟨us',f1,f2,f3,f4⟩:=Ab3 (γ:=γ) (w:=w) (place:=fun i=>some (i*zs.length,zs.length)) (qs:=(qa.map fun(i,x)=>(i,a.eval x)).toList) (us:=us0) h (by simp[hl]) (fun i p q g1 g2=>by
  simp only[Aj,Bu]at g1;obtain⟨p',g1,rfl⟩:=g1;simp only[Array.toList_map,Aj,Bu]at g2;obtain⟨q',g2,rfl⟩:=g2;obtain⟨k1,k2⟩:=hp i p' q' g1 (by simpa using g2)
  exact⟨by simp[k1],k2⟩) (by simp[us0,Xw]) (fun j hj=>by
  rw[Xw]at hj;rw[Ahi zs .und qq n j hj];have qd:j % zs.length<zs.length:=Pg _ qq;have:=h2 (j % zs.length) qd
  have e1:us0.toList.getD j undef=z.cells.toList.getD (j % zs.length) undef:=by
   have qY:j % zs.length<z.cells.size:=by omega
   simp[us0,Av,hj,jK,qY,qd]
  rw[e1]
  exact this)
 rw[Xw]at f3;refine⟨us',?_,by omega,f3,f4⟩;rw[hm];by_cases h0:n*zs.length=0
 .have:∀ f g:Nat->Value,(Array.range (n*zs.length)).map f=(Array.range (n*zs.length)).map g:=fun f g=>by rw[h0];simp
  rw[this _ (fun i=>z.cells[i % z.cells.size]!)];exact f1
 .simp only[if_neg h0];exact f1
def Ah3{t el:TypeId}{fi:TypeInfo}{z:Value}{n:Nat}{qa:Array (Nat × Operand)}{us':Array Value}(ho:o.op=.buildSlice t n qa)(ht:P.underlying t=some (.slice el))(qc:P.info? el=some fi)(hz:fi.zero=some z)(qA:n*fi.size<=16777216)
  (qe:(Instr.fill (fun i=>some (i*fi.size,fi.size)) ((Array.range (n*fi.size)).map (fun i=>(if n*fi.size=0 then #[] else z.cells)[i % (if n*fi.size=0 then(#[]:Array Value) else z.cells).size]!)) (qa.map fun(i,x)=>(i,a.eval x)).toList)=some us') :
  (execOp a.eval o).run P w=.ok (.value (.slice (some ⟨w.heap.size,0,none⟩) n n)) (w.alloc (.cells us' el)):=by
 have kb:¬ (n*fi.size > 2 ^ 24):=by omega
 by_cases h0:n*fi.size=0
 .simp only[if_pos h0]at qe;simp[execOp,ho,Instr.buildSlice,run_underlying ht,sizeOf,typeInfo,qc,h0,newRow,newObj,Sem.run];simp[h0]at qe;simp[qe,Sem.run]
 .simp only[if_neg h0]at qe;rw[Array.toList_map]at qe;simp only[execOp,ho,Instr.buildSlice,run_underlying ht,sizeOf,typeInfo,qc,Sem.run_bind,Result.andThen_ok];simp[qc,kb,h0,zeroValue,typeInfo,hz,qe,newRow,newObj,Sem.run]
def A1q{t el:TypeId}{fi:TypeInfo}{z:Value}{zs:List V}{n:Nat}{qa:Array (Nat × Operand)}{ps:List (Nat × S)}(ho:o.op=.buildSlice t n qa)(ht:P.underlying t=some (.slice el))(qc:P.info? el=some fi)(hz:fi.zero=some z)(hc:H5 zs z.cells.toList=true)
  (hm:fi.size=zs.length) (qq:0<zs.length) (qA:n*zs.length<=16777216)
  (hl:ps.length=qa.size) (hp:∀ (i:Nat) (p:Nat × S) (q:Nat × Operand),ps[i]?=some p->qa[i]?=some q->p.1=q.1/\RepV γ w (Ab e p.2) (a.eval q.2))
  (hI:Inv G N γ σ w)
  (h:Ae (.rowf n zs ps) e σ=some (v,σ1)):Cp P G N γ σ w ((execOp a.eval o).run P w) v σ1:=by
 simp only[Ae,Ef,Bu]at h;obtain⟨cs,h,cs',h3,h2⟩:=h;cases h2;obtain⟨us',qe,qO,qB,f4⟩:=Agy (γ:=γ) (w:=w) hc hm qq hl hp h;obtain⟨κ',k1,k2,k3,k4,_⟩:=hI.freeze (Fl σ 9 (Ah cs).eraseDups);obtain⟨l3,g3⟩:=Pl h3;have hn:n<=n*zs.length:=Aau _ qq;refine As9 (us:=us') (cs:=cs') (n:=n) (m:=zs.length) (el:=el) k1 k2 k3 qq (by unfold maxLen;omega) (by omega) qO (fun j hj=>?_) (Ah3 ho ht qc hz (by rw[hm];exact qA) qe);have qR:j<cs.length:=by omega
 obtain⟨y,hy,hf⟩:=g3 j _ (Bc qR);rw[show cs'.getD j .und=y by rw[Av,hy];rfl];refine Abl hI k2 k4 hf ?_;have:=f4 j qR;rw[show cs.getD j .und=cs[j] by rw[Av,Bc qR];rfl]at this;exact this
def A1r{t el:TypeId}{fi:TypeInfo}{z:Value}{zs:List V}{n:Nat}{qa:Array (Nat × Operand)}{ps:List (Nat × S)}(ho:o.op=.buildSlice t n qa)(ht:P.underlying t=some (.slice el))(qc:P.info? el=some fi)(hz:fi.zero=some z)(hc:H5 zs z.cells.toList=true)
  (hm:fi.size=zs.length) (qq:0<zs.length) (qA:n*zs.length<=16777216)
  (hl:ps.length=qa.size) (hp:∀ (i:Nat) (p:Nat × S) (q:Nat × Operand),ps[i]?=some p->qa[i]?=some q->p.1=q.1/\RepV γ w (Ab e p.2) (a.eval q.2))
  (hI:Inv G N γ σ w)
  (h:Ae (.rows n zs ps) e σ=some (v,σ1)):Cp P G N γ σ w ((execOp a.eval o).run P w) v σ1:=by
 simp only[Ae,Ef]at h;obtain⟨cs,h,h2⟩:=h
 split at h2
 .rename_i qF;cases h2;obtain⟨us',qe,qO,qB,f4⟩:=Agy (γ:=γ) (w:=w) hc hm qq hl hp h;have hn:n<=n*zs.length:=Aau _ qq;refine As9 (σ:=σ) (js:=[]) (κ':=γ.κ) (us:=us') (cs:=cs) (n:=n) (m:=zs.length) (el:=el) hI (Ext.refl _ _) (fun _ _=>rfl) qq (by unfold maxLen;omega) (by omega) qO (fun j hj=>?_) (Ah3 ho ht qc hz (by rw[hm];exact qA) qe);have qR:j<cs.length:=by omega
  exact Ao5 (f4 j qR) (Bp.1 qF _ (by rw[Av,Bc qR];exact Fy qR))
 .cases h2
def Adf{γ':Gh}{i blk len cap m:Nat}(hO:γ'.O[i]?=some (blk,0))(hs:Eb w blk=some (cap*m))(hl:len<=cap)(hc:cap<=maxLen):RepC γ' w (.sl i 0 0 len m true) (.slice (some ⟨blk,0,none⟩) len cap):=
 .sl hO (Ai _) hl hc (fun _=>rfl) (fun _=>⟨rfl,fun _=>by rw[hs,E3]⟩)
def Yc(w:World)(us:Array Value)(el:TypeId)(fr:Nat × Nat):Eb (w.alloc (.cells us el fr)) w.heap.size=some us.size:=by
 unfold Eb;rw[show(w.alloc (.cells us el fr)).heap[w.heap.size]?=some (.cells us el fr) from heap_alloc_new w _]
def A1s{t el:TypeId}{fi:TypeInfo}{z:Value}{zs:List V}{n:Nat}{qa:Array (Nat × Operand)}{ps:List (Nat × S)}(ho:o.op=.buildSlice t n qa)(ht:P.underlying t=some (.slice el))(qc:P.info? el=some fi)(hz:fi.zero=some z)(hc:H5 zs z.cells.toList=true)
  (hm:fi.size=zs.length) (qq:0<zs.length) (qA:n*zs.length<=16777216)
  (hl:ps.length=qa.size) (hp:∀ (i:Nat) (p:Nat × S) (q:Nat × Operand),ps[i]?=some p->qa[i]?=some q->p.1=q.1/\RepV γ w (Ab e p.2) (a.eval q.2))
  (hI:Inv G N γ σ w)
  (h:Ae (.rowo el n zs ps) e σ=some (v,σ1)):Cp P G N γ σ w ((execOp a.eval o).run P w) v σ1:=by
 simp only[Ae,Bu]at h;obtain⟨cs,h,h2⟩:=h;cases h2;obtain⟨us',qe,qO,qB,f4⟩:=Agy (γ:=γ) (w:=w) hc hm qq hl hp h;have hn:n<=n*zs.length:=Aau _ qq
 exact Abu (us:=us') (u:=.slice (some ⟨w.heap.size,0,none⟩) n n) hI (by omega) (fun j hj=>by
  have:=f4 j hj
  simpa[Array.getD_eq_getD_getElem?,Av] using this) (Ah3 ho ht qc hz (by rw[hm];exact qA) qe) (fun γ' hO=>Adf hO (by rw[Yc,qO]) (Ai _) (by unfold maxLen;omega))
def A9m{t el:TypeId}{fi:TypeInfo}{z:Value}{zs:List V}{x y:Operand}{s1 s2:S}(ho:o.op=.makeSlice t x y)(ht:P.underlying t=some (.slice el))(qc:P.info? el=some fi)(hz:fi.zero=some z)(hc:H5 zs z.cells.toList=true)
  (hm:fi.size=zs.length) (qq:0<zs.length) (kc:0<fi.bytes) (hx:RepV γ w (Ab e s1) (a.eval x)) (hy:RepV γ w (Ab e s2) (a.eval y))
  (hI:Inv G N γ σ w)
  (h:Ae (.mk el fi.bytes zs s1 s2) e σ=some (v,σ1)):Cp P G N γ σ w ((execOp a.eval o).run P w) v σ1:=by
 simp only[Ae]at h
 split at h
 .rename_i n c e1 e2;rw[e1]at hx;rw[e2]at hy;have qb:=Er (Az rfl hx);have ql:=Er (Az rfl hy)
  split at h
  .rename_i hb;cases h;obtain⟨h0,kv,qG⟩:=hb;obtain⟨h1,h2⟩:=Sx (γ:=γ) (w:=w) hc;have jK:z.cells.size=zs.length:=by simpa using h1.symm
   have ke:c.toNat<=140737488355328:=Cw (Aau _ kc) qG;have kf:c.toNat<=maxLen:=by unfold maxLen;omega
   have qO:(madeCells z.cells (c.toNat*fi.size)).size=c.toNat*zs.length:=by rw[size_madeCells,hm]
   have qf:n.toNat*zs.length<=c.toNat*zs.length:=Fp _ (by omega)
   have ka:(fi.bytes:Int)*c<=281474976710656:=by
    have:((c.toNat*fi.bytes:Nat):Int)<=140737488355328:=Int.ofNat_le.2 qG;rw[Int.natCast_mul,Aa0 (by omega),Int.mul_comm]at this;omega
   have hr:=run_make (P:=P) w t el fi z ht qc hz .i64 .i64 n c h0 kv ka (by omega);refine Abu (us:=madeCells z.cells (c.toNat*fi.size)) (el:=el) (u:=.slice (some ⟨w.heap.size,0,none⟩) n.toNat c.toNat) hI (by rw[Xw];omega) (fun j hj=>?_) (by simp[execOp,ho,qb,ql,hr]) (fun γ' hO=>Adf hO (by rw[Yc,qO]) (by omega) kf);rw[Xw]at hj;rw[Ahi zs .und qq _ j hj];have qd:j % zs.length<zs.length:=Pg _ qq;have:=h2 (j % zs.length) qd
   have e1:(madeCells z.cells (c.toNat*fi.size)).getD j undef=z.cells.toList.getD (j % zs.length) undef:=by
    have qY:j % zs.length<z.cells.size:=by omega
    have jj:j<c.toNat*zs.length:=by omega
    simp[madeCells,hm,Array.getD_eq_getD_getElem?,Av,jj,jK,qY,qd]
   rw[e1];exact this
  .cases h
 .cases h
open Go Go.RowKit
variable {P:Program} {G:List (Nat × List V)} {N:Nat} {γ:Gh} {σ σ1:St} {w:World} {e:Env} {a:Act} {o:Oper} {v:V}
def Ih(G:List (Nat × List V)):Option S->Option Operand->Bool
 | none,none=>true
 | some s,some x=>B0 G s x
 | _,_=>false
def I5{s:Option S}{x:Option Operand}{d n y:Nat}{c:BoundsCode}(hx:Ih G s x=true)(hE:RepE γ w e a.tmps)(hI:Inv G N γ σ w)(hb:Dq (s.map (Ab e)) d=some n):
  (s=none/\x=none/\n=d)\/∃ sx xx,s=some sx/\x=some xx/\(n<=y->(Instr.sliceBound (a.eval xx) y c).run P w=.ok n w):=by
 cases s with
 | none=>
  cases x with
  | none=>simp[Dq]at hb;exact .inl ⟨rfl,rfl,hb.symm⟩
  | some x=>simp[Ih]at hx
 | some s=>
  cases x with
  | none=>simp[Ih]at hx
  | some x=>
   refine .inr ⟨s,x,rfl,rfl,fun hy=>?_⟩;have hr:=Yr hx hE hI;simp only[Gb,Dq]at hb
   split at hb
   .rename_i e1;cases e1
   .rename_i k m e1;injection e1 with e1;rw[e1]at hr;have hu:=Er (Az rfl hr)
    split at hb
    .rename_i h0;cases hb;have qf:m<=(y:Int):=by omega
     simp[Instr.sliceBound,hu,asIntOf,h0,qf]
    .cases hb
   .cases hb
def Ayb(l:List UInt8)(a b:Nat):(⟨l.toArray⟩:ByteArray).extract a b=⟨((l.take b).drop a).toArray⟩:=by
 apply WideShapes.bytes_inj;rw[Lib.extract_data];simp[List.drop_take]
def A1t{t:TypeId}{x:Operand}{lo hi:Option Operand}{s:S}{qV qS:Option S}(ho:o.op=.slice t x lo hi none)(ht:P.underlying t=some .string)(h1:Ih G qV lo=true)(h2:Ih G qS hi=true)
  (hx:RepV γ w (Ab e s) (a.eval x)) (hE:RepE γ w e a.tmps) (hI:Inv G N γ σ w)
  (h:Ae (.slcs s qV qS) e σ=some (v,σ1)):Cp P G N γ σ w ((execOp a.eval o).run P w) v σ1:=by
 simp only[Ae,Bu]at h;obtain⟨v',h,hv⟩:=h;cases hv;unfold Ry at h
 split at h
 .rename_i l e1;rw[e1]at hx;obtain⟨hu,hl⟩:=Gi (Az rfl hx);simp only[Ef]at h;obtain⟨p,hp,q,hq,h⟩:=h
  split at h
  .rename_i qf;cases h;have qj:((l.take q).drop p).length<=maxLen:=by simp;omega
   refine Cg hI (u:=.string ⟨((l.take q).drop p).toArray⟩) ?_ (Ys qj)
   have qy:(Instr.sliceBounds false l.length l.length (lo.map a.eval) (hi.map a.eval) none).run P w=.ok (p,q,l.length) w:=by
    have b1:=I5 (P:=P) (y:=l.length) (c:=.sliceAlen) h2 hE hI hq;have b2:=I5 (P:=P) (y:=q) (c:=.sliceB) h1 hE hI hp
    rcases b1 with⟨rfl,rfl,rfl⟩ | ⟨sx,xx,rfl,rfl,b1⟩<;>rcases b2 with⟨rfl,rfl,rfl⟩ | ⟨sy,xy,rfl,rfl,b2⟩
    .simp[Instr.sliceBounds]
    .simp[Instr.sliceBounds,b2 qf.1]
    .simp[Instr.sliceBounds,b1 qf.2]
    .simp[Instr.sliceBounds,b1 qf.2,b2 qf.1]
   simp[execOp,ho,hu,Instr.sliceAt,Instr.slice,run_underlying ht,Jt,qy,Ayb]
  .cases h
 .cases h
def A5d{t':Nat}{xs:List (List V)}{ad:Addr}{cap p q:Nat}(hR:RepR γ.κ w (.lst 0 xs) (.slice (some ad) xs.length cap))(hp:p<=q)(hq:q<=xs.length){c:Nat}(kH:q - p<=c)(jN:c<=maxLen)(kC:t'=1->c=q - p){jp:Addr}
  (ja:p<q->ad.spot=none->∀ m,(∀ i,i<xs.length->(xs.getD i []).length=m)->jp=⟨ad.block,ad.off+p*m,none⟩) :
  RepR γ.κ w (.lst t' ((xs.take q).drop p)) (.slice (some jp) (q - p) c):=by
 have qj:((xs.take q).drop p).length=q - p:=by simp;omega
 cases hR with
 | @lst _ _ _ _ m row h1 h2 h3 h4 h5 h6 h7=>
 have H4:=Lib.hid h4;clear h4
 have jg:∀ i,i<q - p->((xs.take q).drop p).getD i []=xs.getD (p+i) []:=fun i hi=>by
  simp only[Av,Hx,F5];rw[if_pos (by omega)]
 have jd:p<q->jp=⟨ad.block,ad.off+p*m,none⟩:=fun qr=>ja qr (H4.out (by omega)).1 m h5
 clear ja
 have key:=RepR.lst (κ:=γ.κ) (w:=w) (t:=t') (xs:=(xs.take q).drop p) (a:=jp) (cap:=c) (m:=m) (fun i j=>row (p+i) j) (fun h=>by rw[qj];exact kC h) (by omega) jN
  (fun hl=>by
   have qr:p<q:=by omega
   obtain⟨hs,k,hk,qf⟩:=H4.out (by omega);rw[jd qr];refine⟨rfl,k,hk,?_⟩;rw[qj];have:p*m+(q - p)*m=q*m:=by rw[<-Nb];congr 1;omega
   have:q*m<=xs.length*m:=Fp _ hq;show ad.off+p*m+(q - p)*m<=k
   omega)
  (fun i hi=>by rw[jg i (by omega)];exact h5 (p+i) (by omega))
  (fun i j hi hj=>by
   have qr:p<q:=by omega
   rw[jd qr];have:=h6 (p+i) j (by omega) hj;rw[show ad.off+(p+i)*m+j=ad.off+p*m+i*m+j by rw[Nb];omega]at this
   exact this)
  (fun i j hi hj=>by
   rw[jg i (by omega)]
   exact h7 (p+i) j (by omega) hj)
 rw[qj]at key;exact key
def A5e{t el:TypeId}{fi:TypeInfo}{x:Operand}{lo hi mx:Option Operand}{s:S}{qV qS qL:Option S}(ho:o.op=.slice t x lo hi mx)(ht:P.underlying t=some (.slice el))(qc:P.info? el=some fi)(h1:Ih G qV lo=true)(h2:Ih G qS hi=true)(h3:Ih G qL mx=true)(h4:qL.isSome=true->qS.isSome=true)(qn:fi.size≠0)
  (hx:RepV γ w (Ab e s) (a.eval x)) (hE:RepE γ w e a.tmps) (hI:Inv G N γ σ w)
  (h:Ae (.slc fi.size s qV qS qL) e σ=some (v,σ1)):Cp P G N γ σ w ((execOp a.eval o).run P w) v σ1:=by
 simp only[Ae,Bu]at h;obtain⟨v',h,hv⟩:=h;cases hv;unfold Je at h
 split at h
 .rename_i e1;rw[e1]at hx;have hu:=Jr (Az rfl hx);simp only[Ef]at h;obtain⟨p,hp,q,hq,c,hc,h⟩:=h
  split at h
  .rename_i qf;obtain⟨rfl,rfl,rfl⟩:=qf;cases h;refine Cg hI (u:=.slice none 0 0) ?_ (C1 (.row .nils))
   have qy:(Instr.sliceBounds true 0 0 (lo.map a.eval) (hi.map a.eval) (mx.map a.eval)).run P w=.ok (0,0,0) w:=by
    have b0:=I5 (P:=P) (y:=0) (c:=.slice3Acap) h3 hE hI hc;have b1:=I5 (P:=P) (y:=0) (c:=.sliceAcap) h2 hE hI hq;have qz:=I5 (P:=P) (y:=0) (c:=.slice3B) h2 hE hI hq;have b2:=I5 (P:=P) (y:=0) (c:=.sliceB) h1 hE hI hp;have qW:=I5 (P:=P) (y:=0) (c:=.slice3C) h1 hE hI hp
    rcases b0 with⟨rfl,rfl,_⟩ | ⟨sz,xz,rfl,rfl,b0⟩<;>rcases b1 with⟨rfl,rfl,_⟩ | ⟨sx,xx,rfl,rfl,b1⟩<;>rcases b2 with⟨rfl,rfl,_⟩ | ⟨sy,xy,rfl,rfl,b2⟩
    .simp[Instr.sliceBounds]
    .simp[Instr.sliceBounds,b2]
    .simp[Instr.sliceBounds,b1]
    .simp[Instr.sliceBounds,b1,b2]
    .simp at h4
    .simp at h4
    .rcases qz with⟨h,_⟩ | ⟨_,_,h,h',qz⟩
     .cases h
     .cases h;cases h';simp[Instr.sliceBounds,b0,qz]
    .rcases qz with⟨h,_⟩ | ⟨_,_,h,h',qz⟩
     .cases h
     .cases h;cases h';rcases qW with⟨h,_⟩ | ⟨_,_,h,h',qW⟩
      .cases h
      .cases h;cases h';simp[Instr.sliceBounds,b0,qz,qW]
   simp[execOp,ho,hu,Instr.sliceAt,Instr.slice,run_underlying ht,qy,sizeOf,typeInfo,qc]
  .cases h
 .rename_i t' xs e1;rw[e1]at hx;have jc:=Az rfl hx;obtain⟨ad,cap,hu,hR,jf⟩:=Pk jc;have qQ:xs.length<=cap/\cap<=maxLen:=by cases hR with | lst row h1 h2 h3=>exact⟨h2,h3⟩
  simp only[Ef]at h;obtain⟨p,hp,q,hq,c,hc,h⟩:=h
  split at h
  .rename_i qf;obtain⟨qr,kw,rfl,qF⟩:=qf;cases h
   have qy:∃ m,(Instr.sliceBounds true xs.length cap (lo.map a.eval) (hi.map a.eval) (mx.map a.eval)).run P w=.ok (p,c,m) w/\c<=m/\m<=cap/\(qL.isSome=true->m=c)/\(qL.isSome=false->m=cap):=by
    have b0:=I5 (P:=P) (y:=cap) (c:=.slice3Acap) h3 hE hI hc;have b1:=I5 (P:=P) (y:=cap) (c:=.sliceAcap) h2 hE hI hq;have qz:=I5 (P:=P) (y:=c) (c:=.slice3B) h2 hE hI hq;have b2:=I5 (P:=P) (y:=c) (c:=.sliceB) h1 hE hI hp;have qW:=I5 (P:=P) (y:=c) (c:=.slice3C) h1 hE hI hp;have qM:c<=cap:=by omega
    rcases b0 with⟨rfl,rfl,_⟩ | ⟨sz,xz,rfl,rfl,b0⟩<;>rcases b1 with⟨rfl,rfl,qv⟩ | ⟨sx,xx,rfl,rfl,b1⟩<;>rcases b2 with⟨rfl,rfl,qx⟩ | ⟨sy,xy,rfl,rfl,b2⟩
    .subst qv qx;exact⟨cap,by simp[Instr.sliceBounds],qM,Ai _,by simp,by simp⟩
    .subst qv;exact⟨cap,by simp[Instr.sliceBounds,b2 qr],qM,Ai _,by simp,by simp⟩
    .subst qx;exact⟨cap,by simp[Instr.sliceBounds,b1 qM],qM,Ai _,by simp,by simp⟩
    .exact⟨cap,by simp[Instr.sliceBounds,b1 qM,b2 qr],qM,Ai _,by simp,by simp⟩
    .simp at h4
    .simp at h4
    .rcases qz with⟨h,_⟩ | ⟨_,_,h,h',qz⟩
     .cases h
     .cases h;cases h';subst qx;exact⟨c,by simp[Instr.sliceBounds,b0 qM,qz],Ai _,qM,by simp,by simp⟩
    .rcases qz with⟨h,_⟩ | ⟨_,_,h,h',qz⟩
     .cases h
     .cases h;cases h';rcases qW with⟨h,_⟩ | ⟨_,_,h,h',qW⟩
      .cases h
      .cases h;cases h';exact⟨c,by simp[Instr.sliceBounds,b0 qM,qz,qW qr],Ai _,qM,by simp,by simp⟩
   obtain⟨m,qy,kM,kN,kq,kr⟩:=qy
   have kt:(qL.map (Ab e)).isSome=qL.isSome:=by cases qL<;>rfl
   rw[kt]
   have qe:(execOp a.eval o).run P w=.ok (.value (.slice (some (if m=p then ad else ad.add (p*fi.size))) (c - p) (m - p))) w:=by
    by_cases qt:m=p
    .simp[execOp,ho,hu,Instr.sliceAt,Instr.slice,run_underlying ht,qy,sizeOf,typeInfo,qc,qt]
    .simp[execOp,ho,hu,Instr.sliceAt,Instr.slice,run_underlying ht,qy,sizeOf,typeInfo,qc,qt]
   have ja:p<c->ad.spot=none->∀ m',(∀ i,i<xs.length->(xs.getD i []).length=m')->(if m=p then ad else ad.add (p*fi.size))=⟨ad.block,ad.off+p*m',none⟩:=fun qd jm m' jk=>by
    rw[if_neg (by omega)];obtain⟨b,of,sp⟩:=ad;simp at jm;subst jm;rw[K1];rcases qF with rfl | qF
    .simp
    .have jF:=jk p (by omega);have:=Bp.1 qF (xs.getD p []) (by rw[Av,Bc (by omega)];exact Fy _);have e3:=eq_of_beq this;rw[<-e3,jF]
   refine Cg hI qe (C1 ?_);refine .row (A5d hR qr kw (by omega) (by omega) ?_ ja);intro jM
   split at jM
   .rename_i hs;rw[kq hs]
   .rename_i hs;have ky:qL.isSome=false:=by simpa using hs
    have:=kr ky
    split at jM
    .rename_i kA;have:=jf kA.2;omega
    .omega
  .cases h
 .rename_i i g off len m' own e1;rw[e1]at hx;have jc:=Az rfl hx
  split at h
  .cases h
  .rename_i kO;simp only[Ef]at h;obtain⟨p,hp,q,hq,h⟩:=h
   split at h
   .rename_i qf;obtain⟨rfl,qr,kP⟩:=qf;cases h;obtain⟨b',o',cap,blk,g',hu,hb,qI,qX,qZ,qT,qk⟩:=Vz jc
    obtain rfl:qL=none:=by cases qL<;>simp_all
    obtain rfl:mx=none:=by cases mx<;>simp_all [Ih]
    have jU:q<=cap:=by omega
    have qy:(Instr.sliceBounds true len cap (lo.map a.eval) (hi.map a.eval) none).run P w=.ok (p,q,cap) w:=by
     have b1:=I5 (P:=P) (y:=cap) (c:=.sliceAcap) h2 hE hI hq;have b2:=I5 (P:=P) (y:=q) (c:=.sliceB) h1 hE hI hp
     rcases b1 with⟨rfl,rfl,qv⟩ | ⟨sx,xx,rfl,rfl,b1⟩<;>rcases b2 with⟨rfl,rfl,qx⟩ | ⟨sy,xy,rfl,rfl,b2⟩
     .subst qv qx;simp[Instr.sliceBounds]
     .subst qv;simp[Instr.sliceBounds,b2 qr]
     .subst qx;simp[Instr.sliceBounds,b1 jU]
     .simp[Instr.sliceBounds,b1 jU,b2 qr]
    have qe:(execOp a.eval o).run P w=.ok (.value (.slice (some (if cap=p then⟨b',o',none⟩ else(⟨b',o',none⟩:Addr).add (p*fi.size))) (q - p) (cap - p))) w:=by
     by_cases qt:cap=p
     .subst qt;rw[if_pos rfl];simp[execOp,ho,hu,Instr.sliceAt,Instr.slice,run_underlying ht,qy,sizeOf,typeInfo,qc]
     .simp[execOp,ho,hu,Instr.sliceAt,Instr.slice,run_underlying ht,qy,sizeOf,typeInfo,qc,qt]
    refine Cg hI qe (C1 ?_);by_cases qt:cap=p
    .rw[if_pos qt];exact .sl hb qI (by omega) (by omega) (fun h=>by omega) (fun e=>⟨(qk e).1,fun h=>by rw[(qk e).2 h];congr 1;rw[<-qt];simp⟩)
    .rw[if_neg qt,K1,qT (by omega)];refine .sl hb qI (by omega) (by omega) (fun _=>rfl) (fun e=>⟨(qk e).1,fun h=>?_⟩);rw[(qk e).2 h];congr 1;rw[U4,<-Nb];congr 2;omega
   .cases h
 .cases h
def A1u{t el:TypeId}{fi:TypeInfo}{len:Nat}{x:Operand}{lo hi:Option Operand}{s:S}{qV qS:Option S}(ho:o.op=.slice t x lo hi none)(ht:P.underlying t=some (.array len el))(qc:P.info? el=some fi)(h1:Ih G qV lo=true)(h2:Ih G qS hi=true)(qj:len<=maxLen)
  (hx:RepV γ w (Ab e s) (a.eval x)) (hE:RepE γ w e a.tmps) (hI:Inv G N γ σ w)
  (h:Ae (.slca len fi.size s qV qS) e σ=some (v,σ1)):Cp P G N γ σ w ((execOp a.eval o).run P w) v σ1:=by
 simp only[Ae]at h
 split at h
 .rename_i i g off e1;rw[e1]at hx;simp only[Ef]at h;obtain⟨p,hp,q,hq,h⟩:=h
  split at h
  .rename_i qf;obtain⟨qr,jV⟩:=qf;cases h;obtain⟨b',blk,g',hu,hb,qI,qk⟩:=Of (Az rfl hx)
   have qy:(Instr.sliceBounds false len len (lo.map a.eval) (hi.map a.eval) none).run P w=.ok (p,q,len) w:=by
    have b1:=I5 (P:=P) (y:=len) (c:=.sliceAlen) h2 hE hI hq;have b2:=I5 (P:=P) (y:=q) (c:=.sliceB) h1 hE hI hp
    rcases b1 with⟨rfl,rfl,qv⟩ | ⟨sx,xx,rfl,rfl,b1⟩<;>rcases b2 with⟨rfl,rfl,qx⟩ | ⟨sy,xy,rfl,rfl,b2⟩
    .subst qv qx;simp[Instr.sliceBounds]
    .subst qv;simp[Instr.sliceBounds,b2 qr]
    .subst qx;simp[Instr.sliceBounds,b1 jV]
    .simp[Instr.sliceBounds,b1 jV,b2 qr]
   have qe:(execOp a.eval o).run P w=.ok (.value (.slice (some (if len=p then⟨b',off,none⟩ else(⟨b',off,none⟩:Addr).add (p*fi.size))) (q - p) (len - p))) w:=by
    by_cases qt:len=p
    .subst qt;rw[if_pos rfl];simp[execOp,ho,hu,Instr.sliceAt,Instr.sureAddr,run_underlying ht,qy,sizeOf,typeInfo,qc]
    .simp[execOp,ho,hu,Instr.sliceAt,Instr.sureAddr,run_underlying ht,qy,sizeOf,typeInfo,qc,qt]
   refine Cg hI qe (C1 ?_);by_cases qt:len=p
   .rw[if_pos qt];exact .sl hb qI (by omega) (by omega) (fun h=>by omega) (fun e=>⟨qk e,fun h=>absurd h (by simp)⟩)
   .rw[if_neg qt,K1];exact .sl hb qI (by omega) (by omega) (fun _=>rfl) (fun e=>⟨qk e,fun h=>absurd h (by simp)⟩)
  .cases h
 .cases h
def A5f{t el:TypeId}{x:Operand}{s:S}(ho:o.op=.convert t t x)(ht:P.underlying t=some (.slice el))(he:P.underlying el=some (.int .u8))(hx:RepV γ w (Ab e s) (a.eval x))(hI:Inv G N γ σ w)
  (h:Ae (.cvl s) e σ=some (v,σ1)):Cp P G N γ σ w ((execOp a.eval o).run P w) v σ1:=by
 simp only[Ae]at h
 split at h
 .rename_i i g off len m own e1;rw[e1]at hx
  split at h
  .rename_i cs ee g' z qB
   split at h
   .rename_i hc;obtain⟨rfl,rfl⟩:=hc;cases h;have jc:=Az rfl hx;obtain⟨blk,cap,o',hb,hu,qT,qD,qX,qZ⟩:=Yt (o':=0) hI jc (by simp[Nj,qB]);obtain⟨_,kl,_,us,lo,hi,g1,⟨g5,g6⟩,g2,g3⟩:=hI.obj i _ _ qB hb;have qd:blk<w.heap.size:=(Array.getElem?_eq_some_iff.1 g1).1
    have kh:∃ jo jh,(w.freeze ⟨blk,us.size,none⟩ 1).heap[blk]?=some (.cells us ee (jo,jh))/\jo<=jh/\us.size<=jo:=by
     have hh:(w.freeze ⟨blk,us.size,none⟩ 1).heap[blk]?=some (.cells us ee (if lo==hi then(us.size,us.size+1) else(min lo us.size,max hi (us.size+1)))):=by
      simp[World.freeze,Array.getElem?_modify,g1]
     by_cases jS:lo=hi
     .rw[if_pos (by simp[jS])]at hh;exact⟨_,_,hh,by omega,by omega⟩
     .rw[if_neg (by simp[jS])]at hh;exact⟨_,_,hh,by omega,by omega⟩
    obtain⟨jo,jh,hh,kn,ko⟩:=kh
    have qm:∀ b,b≠blk->(w.freeze ⟨blk,us.size,none⟩ 1).heap[b]?=w.heap[b]?:=fun b qN=>by
     simp[World.freeze,Array.getElem?_modify,qN,Ne.symm qN]
    have qn:(w.freeze ⟨blk,us.size,none⟩ 1).heap.size=w.heap.size:=by simp[World.freeze]
    have hr:(execOp a.eval o).run P w=.ok (.value (a.eval x)) (w.freeze ⟨blk,us.size,none⟩ 1):=by
     simp[execOp,ho,hu,convert,run_underlying ht,run_underlying he,markStringish,World.shape?,g1]
    have hT:=hI.turn (w':=w.freeze ⟨blk,us.size,none⟩ 1) (p':=(blk,g)) (ob':=.row cs ee g 0) (κ':=γ.κ) hb (by omega) (fun b _ qN=>qm b qN) (fun _ _ _=>rfl) (fun b k hk=>by rw[qn];exact hI.dom b k hk) (fun z hz=>⟨z,hz,Ai _,fun o _=>by simp[World.cell?,hh,g1]⟩) (Ai _) (fun _=>⟨rfl,by simp[Eb,hh,g1]⟩) (.inl rfl) (fun hx=>by
     exact⟨rfl,kl,Au _,us,jo,jh,hh,⟨kn,.inr ko⟩,g2,fun j hj=>(g3 j hj).ext hx⟩)
    rw[Lo hb,Lo qB]at hT;refine⟨_,_,_,.inl hr,C1 (jc.ext hT.2),hT.1,hT.2,⟨rfl,rfl,rfl,by rw[qn];exact Ai _,fun k hk=>qm k (by have:=hI.low i _ hb;omega)⟩,fun _ _=>rfl⟩
   .cases h
  .cases h
 .cases h
