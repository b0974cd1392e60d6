/- THE PLAIN MACHINE, joined texts: Ka Kb Kc Kd Ke Kf Kg Kh Ki. -/
import Derived.WalkKit
import Derived.Below
import Derived.DataReads
import Derived.Laws.AppendOwn
import Derived.Laws.Append
import Derived.Laws.Cells
import Derived.Laws.CopyRow
import Derived.Lib.FrozenHead
import Derived.ChangeKeysEq
import Derived.Lib.Strings
import Derived.Lib.Hide
import Derived.Lib.ConvBytes
import Derived.Laws.MakeOwn
set_option linter.all false
/- THE PLAIN MACHINE, SECOND FORM: values without addresses, objects that may change, operations, code, and what comes of it. No program is named here. -/
namespace Go.Proofs.YtphikjgngompaacGreatDoor.KM
open Go
def AH{p:Prop}(h:p:=by rfl):p:=h
def AE{p:Prop}(h:p:=by simp):p:=h
def AA{p:Prop}(h:p:=by omega):p:=h
def AM{p:Prop}(h:p:=by decide):p:=h
def AP{p:Prop}(h:p:=by simp;omega):p:=h
def AJ{p:Prop}(h:p:=by simp;try omega):p:=h
def AS{p:Prop}(h:p:=by simp only;omega):p:=h
def AB{p:Prop}(h:p:=by simp only[go_sem]):p:=h
def AG{p:Prop}(h:p:=by first | rfl | simp only[go_sem]):p:=h
def Aj:=@List.length_append
def Ak:=@List.getElem?_map
def Al:=@Bool.and_eq_true
def Am:=@Nat.le_refl
def An:=@List.getElem?_eq_some_iff
def As:=@Nat.zero_le
def Av:=@List.length_map
def Az:=@Nat.lt_or_ge
def Ba:=@Bool.not_true
def Bc:=@Bool.not_false
def Be:=@List.length_cons
def Bh:=@List.map_cons
def Bz:=@List.append_nil
def B0:=@List.map_nil
def B4:=@List.getElem?_set_ne
def B5:=@List.all_cons
def B7:=@List.mem_cons
def Cb:=@List.getElem?_eq_getElem
def Cc:=@List.all_eq_true
def Cf:=@List.getElem?_set_self
def Ci:=@Option.map_eq_some_iff
def Cs:=@List.mem_append
def Ct:=@List.nil_append
def Cz:=@List.mem_cons_self
def C4:=@Int.cast_ofNat_Int
def C5:=@Option.bind_some
def Dc:=@List.all_nil
def Dd:=@Nat.le_trans
def Dh:=@List.take_length
def Di:=@List.mem_map
def Dl:=@List.mem_cons_of_mem
def Dm:=@List.append_assoc
def Dn:=@List.length_nil
def D4:=@List.drop_eq_nil_of_le
def Ex:=@List.getElem?_append_left
def E3:=@Option.bind_eq_some_iff
def E4:=@Nat.mul_le_mul_right
def Fk:=@List.getElem?_append_right
def Fl:=@List.getD_eq_getElem?_getD
def Fm:=@List.map_append
def Gi:=@List.length_drop
def Gv:=@List.flatten_cons
def Gw:=@Nat.zero_add
def G6:=@Nat.succ_mul
def Hg:=@List.mem_of_getElem?
def Hh:=@List.mem_singleton
def Hi:=@List.mem_range
def Hy:=@List.take_append_drop
def Hz:=@Bool.false_eq_true
def Ib:=@List.drop_eq_getElem_cons
def Ic:=@List.length_take
def Is:=@Nat.succ_le_of_lt
def Iu:=@Nat.sub_self
def I8:=@List.length_singleton
def I9:=@Option.map_some
def Jv:=@List.mapM_cons
def Ky:=@List.take_of_length_le
def Kz:=@Bool.false_beq
def K0:=@Bool.true_beq
def Ld:=@List.take_add_one
def Mb:=@List.length_eq_zero_iff
def Mc:=@List.drop_zero
def Mu:=@List.getElem_of_mem
def Mv:=@Int.toNat_natCast
def Mw:=@List.cons_append
def Mx:=@Nat.add_zero
def Nu:=@List.mem_of_mem_take
def Nv:=@List.filterMap_cons
def Nw:=@List.getElem_mem
def Nx:=@Bool.or_eq_true
def Ny:=@List.length_set
def Nz:=@Option.some.inj
def N0:=@Nat.add_mul
def O7:=@List.getElem?_cons_succ
def O8:=@Nat.lt_of_lt_of_le
def O9:=@List.mem_eraseDups
def Pa:=@List.any_eq_true
def Qh:=@List.pairwise_cons
def Qi:=@List.not_mem_nil
def Rg:=@List.filterMap_nil
def Rh:=@Bool.not_eq_true'
def Ri:=@List.ext_getElem
def Rj:=@List.foldl_cons
def Rk:=@List.mem_filter
def Rl:=@Nat.le_of_lt
def Td:=@Nat.exists_eq_add_of_le
def Te:=@List.getElem?_cons_zero
def Tf:=@List.ext_getElem?
def Tg:=@List.suffix_cons
def Tn:=@Nat.mod_lt
def Vg:=@List.pairwise_append
def Vh:=@List.getElem?_take
def Vi:=@Nat.eq_zero_or_pos
def Vj:=@Option.toList_some
def Vk:=@Nat.lt_trichotomy
def Vl:=@Nat.lt_succ_of_lt
def Vm:=@Nat.lt_succ_self
def Vn:=@Bool.false_and
def Vo:=@List.map_take
def Vp:=@List.set_set
def Vr:=@Int.le_refl
def Xw:=@List.pairwise_iff_getElem
def Xx:=@List.mem_of_mem_drop
def Xy:=@List.length_pos_iff
def Xz:=@List.mem_filterMap
def X0:=@Int.natCast_nonneg
def X1:=@List.findIdx_cons
def X2:=@Option.getD_some
def X3:=@Bool.not_eq_true
def X4:=@List.nodup_nil
def X5:=@List.elem_iff
def Ya:=@Nat.mul_one
def Abi:=@Nat.le_mul_of_pos_right
def Abj:=@List.getElem?_toArray
def Abk:=@List.length_replicate
def Abl:=@List.contains_iff_mem
def Abm:=@List.mem_append_left
def Abo:=@Int.toNat_of_nonneg
def Abp:=@List.dropWhile_cons
def Abq:=@List.takeWhile_cons
def Abr:=@List.flatten_append
def Abs:=@List.flatMap_cons
def Abt:=@Option.some.injEq
def Abu:=@List.flatten_nil
def Abv:=@List.drop_suffix
def Abw:=@List.drop_drop
def Abx:=@List.take_left
def Aby:=@Nat.add_assoc
def Abz:=@List.mapM_nil
def Ab0:=@Bool.true_and
def Ab1:=@Bool.false_or
def Ab5:=@Nat.sub_zero
def Agt:=@List.take_append_of_le_length
def Agu:=@List.length_eq_one_iff
def Agv:=@List.set_append_left
def Agw:=@List.replicate_succ
def Agx:=@List.replicate_zero
def Agy:=@List.set_cons_zero
def Agz:=@List.getElem_range
def Ag1:=@List.drop_append
def Ag2:=@List.lookup_cons
def Ag3:=@List.nodup_cons
def Ag4:=@List.all_append
def Ag7:=@Bool.and_false
def Ag8:=@Bool.and_true
def Ag9:=@List.map_drop
def Aha:=@Int.lt_irrefl
def Ahc:=@List.map_set
def Ahd:=@List.map_map
def Ahe:=@Nat.add_comm
def Ahf:=@Nat.mul_comm
def Ahg:=@Nat.le_total
inductive V where
 | und
 | skp
 | bool (b:Bool)
 | int (k:IntKind) (n:Int)
 | str (l:List UInt8)
 | nili
 | ifc
 | nils
 | nilp
 | nilf
 | lst (t:Nat) (xs:List (List V))
 | imm (row:List V) (off:Nat)
 | ptr (i g off:Nat)
 | sl (i g off len m:Nat) (own:Bool)
 | fn (f:Nat) (a c:List V)
 | mp (i:Nat)
 | agg (cs:List V)
 | tup (vs:List V)
inductive S where
 | t (n:Nat)
 | k (v:V)
inductive EqK where
 | bool | nilsl | nilpt | nilfn | nilif | flat (ks:List Nat)
inductive AO where
 | mov (x:S)
 | pick (c a b:S)
 | new (t:Nat) (z:List V)
 | box (t:Nat) (x:S)
 | build (z:List V) (ps:List (Nat × Nat × S))
 | rows (n:Nat) (z:List V) (ps:List (Nat × S))
 | rowf (n:Nat) (z:List V) (ps:List (Nat × S))
 | rowo (t n:Nat) (z:List V) (ps:List (Nat × S))
 | mk (t bytes:Nat) (z:List V) (x y:S)
 | load (n:Nat) (one:Bool) (x:S)
 | store (n:Nat) (x v:S)
 | chk (x:S)
 | bin (o:BinOp) (x y:S)
 | eq (k:EqK) (neg:Bool) (x y:S)
 | un (o:UnOp) (x:S)
 | cvi (k:IntKind) (x:S)
 | slc (m:Nat) (x:S) (lo hi mx:Option S)
 | slcs (x:S) (lo hi:Option S)
 | slca (len m:Nat) (x:S) (lo hi:Option S)
 | fad (off:Nat) (x:S)
 | fld (off n:Nat) (one:Bool) (x:S)
 | iad (m:Nat) (x i:S)
 | iar (len m:Nat) (x i:S)
 | idx (x i:S)
 | ida (len m:Nat) (one:Bool) (x i:S)
 | ext (i:Nat) (x:S)
 | len (x:S)
 | lens (x:S)
 | app (bytes:Nat) (m:Nat × Nat) (x y:S)
 | apps (ty:Nat) (x y:S)
 | mx (x y:S)
 | mn (x y:S)
 | mmk
 | mlk (z:V) (x k:S)
 | mup (x k v:S)
 | call (f:Nat) (xs:List S)
 | callv (x:S) (xs:List S)
structure AI where
 dst:Option Nat
 op:AO
 g:Option (Nat × Bool):=none
inductive AC where
 | skip
 | reg (kill:List Nat) (ops:List AI)
 | drw (kill:List Nat) (qe:List (List Nat)) (ops:List AI)
 | seq (a b:AC)
 | cond (c:S) (kill:List Nat) (x y:AC)
 | blk (id:Nat) (c:AC)
 | loop (keep:List Nat) (c:AC)
 | exit (id:Nat)
 | ret
inductive It where
 | c (c:AC)
 | b (id:Nat)
 | l (keep:List Nat) (c:AC)
abbrev Env:=List (Nat × V)
def Env.get:Env->Nat->V
 | [],_=>.und
 | (m,v)::r,n=>if m=n then v else Env.get r n
def Env.put:Env->Nat->V->Env
 | [],n,v=>[(n,v)]
 | (m,u)::r,n,v=>if m=n then(n,v)::r else(m,u)::Env.put r n v
def Env.putO(e:Env)(d:Option Nat)(v:V):Env:=
 match d with
 | some n=>e.put n v
 | none=>e
def Env.del:Env->List Nat->Env
 | [],_=>[]
 | (m,v)::r,ks=>if ks.elem m then Env.del r ks else(m,v)::Env.del r ks
def Env.keep(e:Env):List Nat->Env
 | []=>[]
 | n::r=>(n,e.get n)::Env.keep e r
inductive Ob where
 | row (cs:List V) (e g z:Nat)
 | map (kvs:List (List UInt8 × V))
 | dead
abbrev St:=List Ob
def Ac(e:Env):S->V
 | .t n=>e.get n
 | .k v=>v
def V.cellB:V->Bool
 | .und | .skp | .agg _ | .tup _=>false
 | _=>true
def V.rowB:V->Bool
 | .bool _ | .int _ _ | .str _ | .nili | .nils | .lst _ _=>true
 | _=>false
def AN{p:Prop}(h:p:=by simp[V.rowB]):p:=h
def V.cells:V->List V
 | .agg cs=>cs
 | v=>[v]
def Ht(one:Bool)(cs:List V):Option V:=
 if one then(match cs with
  | [c]=>some c
  | _=>none) else some (.agg cs)
def Pp(cs:List V)(off:Nat)(r:List V):Option (List V):=
 if off+r.length<=cs.length then some (cs.take off++r++cs.drop (off+r.length)) else none
def I1(cs:List V):List (Nat × Nat × V)->Option (List V)
 | []=>some cs
 | (off,n,v)::r=>if v.cells.all V.cellB=true/\v.cells.length=n then(Pp cs off v.cells).bind fun cs'=>I1 cs' r else none
def Fi(m:Nat):Nat->List V->List (List V)
 | 0,_=>[]
 | n+1,cs=>cs.take m::Fi m n (cs.drop m)
/-! which objects a value names -/
mutual
def V.refs:V->List Nat
 | .ptr i _ _=>[i]
 | .sl i _ _ _ _ _=>[i]
 | .mp i=>[i]
 | .fn _ a c=>Ah a++Ah c
 | .agg cs=>Ah cs
 | .tup vs=>Ah vs
 | _=>[]
def AQ{p:Prop}(h:p:=by simp[V.refs]):p:=h
def Ah:List V->List Nat
 | []=>[]
 | v::r=>v.refs++Ah r
end
def Ob.refs:Ob->List Nat
 | .row cs _ _ _=>Ah cs
 | .map kvs=>Ah (kvs.map (·.2))
 | .dead=>[]
def AT{p:Prop}(h:p:=by simp[Ob.refs,Ah,V.refs]):p:=h
def Fy(σ:St):Nat->List Nat->List Nat
 | 0,js=>js
 | d+1,js=>
  let new:=(js.flatMap fun i=>match σ[i]? with
   | some ob=>ob.refs
   | none=>[]).filter fun i=>!js.elem i
  if new.isEmpty then js else Fy σ d (js++new.eraseDups)
/-! settled copies: what lies in the objects js is taken as it stands -/
def Fg(σ:St)(js:List Nat):Nat->V->Option V
 | 0,_=>none
 | d+1,v=>
  if v.rowB then some v else
  match v with
  | .sl i g off len m _=>if js.elem i then(match σ[i]? with
   | some (.row cs _ g' _)=>if g=g'/\0<m/\off+len*m<=cs.length then(((cs.drop off).take (len*m)).mapM (Fg σ js d)).map fun rs=>.lst 0 (Fi m len rs) else none
   | _=>none) else none
  | _=>none
def Gy(σ:St)(js:List Nat)(v:V):Option V:=
 match v with
 | .imm r o=>some (.imm r o)
 | .agg cs=>(cs.mapM (Fg σ js 9)).map .agg
 | v=>Fg σ js 9 v
def Iw(σ:St)(js:List Nat)(v:V):Option V:=
 match v with
 | .tup vs=>(vs.mapM (Gy σ js)).map .tup
 | v=>Gy σ js v
def V.flatB:V->Bool
 | .bool _ | .int _ _ | .str _ | .nili | .ifc | .nils | .nilp | .nilf=>true
 | _=>false
def V.flatV:V->Bool
 | .agg cs=>cs.all V.flatB
 | .tup vs=>vs.all fun v=>v.cells.all V.flatB
 | v=>v.flatB
def Ob.shut:Ob->Ob
 | .row cs e g _=>.row cs e g cs.length
 | o=>o
def St.freeze(σ:St):List Nat->St
 | []=>σ
 | i::js=>match σ[i]? with
  | some ob=>St.freeze (σ.set i ob.shut) js
  | none=>St.freeze σ js
def H3(σ:St)(n:Nat)(one:Bool):V->Option V
 | .imm row off=>if off+n<=row.length then Ht one ((row.drop off).take n) else none
 | .ptr i g off=>match σ[i]? with
  | some (.row cs _ g' _)=>if g=g'/\off+n<=cs.length then Ht one ((cs.drop off).take n) else none
  | _=>none
 | _=>none
def Qr(σ:St)(n:Nat)(x v:V):Option St:=
 match x with
 | .ptr i g off=>match σ[i]? with
  | some (.row cs e g' z)=>if g=g'/\z<=off/\v.cells.length=n/\v.cells.all V.cellB=true then(Pp cs off v.cells).map fun cs'=>σ.set i (.row cs' e g z) else none
  | _=>none
 | _=>none
def eqS:Nat->V->V->Option Bool
 | 0,.bool a,.bool b=>some (a==b)
 | 1,.int k a,.int k' b=>if k=k' then some (a==b) else none
 | 2,.str a,.str b=>some (a==b)
 | _,_,_=>none
def Lk:List Nat->List V->List V->Option Bool
 | [],[],[]=>some true
 | k::ks,a::r,b::s=>(eqS k a b).bind fun x=>if x then Lk ks r s else some false
 | _,_,_=>none
def eqB:V->V->Option Bool
 | .bool a,.bool b=>some (a==b)
 | _,_=>none
def Al9:V->V->Option Bool
 | .nils,.nils=>some true
 | .nils,.lst _ _=>some false
 | .lst _ _,.nils=>some false
 | .nils,.sl _ _ _ _ _ _=>some false
 | .sl _ _ _ _ _ _,.nils=>some false
 | _,_=>none
def Ama:V->V->Option Bool
 | .nilp,.nilp=>some true
 | .nilp,.ptr _ _ _=>some false
 | .ptr _ _ _,.nilp=>some false
 | .nilp,.imm _ _=>some false
 | .imm _ _,.nilp=>some false
 | _,_=>none
def Amb:V->V->Option Bool
 | .nilf,.nilf=>some true
 | .fn _ _ _,.nilf=>some false
 | .nilf,.fn _ _ _=>some false
 | _,_=>none
def Amc:V->V->Option Bool
 | .nili,.nili=>some true
 | .ifc,.nili=>some false
 | .nili,.ifc=>some false
 | _,_=>none
def Aaw(ks:List Nat):V->V->Option Bool
 | .agg a,.agg b=>if a.length=ks.length/\b.length=ks.length then Lk ks a b else none
 | _,_=>none
def Nm(k:EqK)(x y:V):Option Bool:=
 match k with
 | .bool=>eqB x y
 | .nilsl=>Al9 x y
 | .nilpt=>Ama x y
 | .nilfn=>Amb x y
 | .nilif=>Amc x y
 | .flat ks=>Aaw ks x y
def Qs(σ:St):V->Bool
 | .ptr i g _ | .sl i g _ _ _ _=>match σ[i]? with
  | some (.row _ _ g' _)=>g==g'
  | _=>false
 | _=>true
def Amd(o:BinOp)(k:IntKind)(a:Int)(k':IntKind)(b:Int):Option V:=
 match o with
 | .shl=>if b<0 then none else some (.int k (k.wrap (a*2 ^ (min b.toNat k.bits))))
 | .shr=>if b<0 then none else some (.int k (a.fdiv (2 ^ (min b.toNat k.bits))))
 | .add=>if k=k' then some (.int k (k.wrap (a+b))) else none
 | .sub=>if k=k' then some (.int k (k.wrap (a - b))) else none
 | .mul=>if k=k' then some (.int k (k.wrap (a*b))) else none
 | .quo=>if k=k'/\b≠0 then some (.int k (k.wrap (a.tdiv b))) else none
 | .rem=>if k=k'/\b≠0 then some (.int k (a.tmod b)) else none
 | .and=>if k=k' then some (.int k (k.wrap (BitVec.ofInt k.bits a &&& BitVec.ofInt k.bits b).toNat)) else none
 | .or=>if k=k' then some (.int k (k.wrap (BitVec.ofInt k.bits a ||| BitVec.ofInt k.bits b).toNat)) else none
 | .xor=>if k=k' then some (.int k (k.wrap (BitVec.ofInt k.bits a ^^^ BitVec.ofInt k.bits b).toNat)) else none
 | .lss=>if k=k' then some (.bool (decide (a<b))) else none
 | .leq=>if k=k' then some (.bool (decide (a<=b))) else none
 | .gtr=>if k=k' then some (.bool (decide (a > b))) else none
 | .geq=>if k=k' then some (.bool (decide (a>=b))) else none
 | .eql=>if k=k' then some (.bool (a==b)) else none
 | .neq=>if k=k' then some (.bool (a != b)) else none
 | _=>none
def Ap(o:BinOp)(a b:List UInt8):Option V:=
 match o with
 | .add=>if a.length+b.length<=9223372036854775807 then some (.str (a++b)) else none
 | .lss=>some (.bool (Op.bytesLess a b))
 | .leq=>some (.bool (Op.bytesLess a b||a==b))
 | .gtr=>some (.bool !(Op.bytesLess a b||a==b))
 | .geq=>some (.bool !(Op.bytesLess a b))
 | .eql=>some (.bool (a==b))
 | .neq=>some (.bool !(a==b))
 | _=>none
def Aax(o:BinOp)(x y:V):Option V:=
 match x,y with
 | .int k a,.int k' b=>Amd o k a k' b
 | .str a,.str b=>Ap o a b
 | _,_=>none
def unV(o:UnOp)(x:V):Option V:=
 match o,x with
 | .neg,.int k n=>some (.int k (k.wrap (0 - n)))
 | .not,.bool b=>some (.bool !b)
 | .xor,.int k n=>some (.int k (k.wrap (BitVec.ofInt k.bits (if k.signed then -1 else k.max) ^^^ BitVec.ofInt k.bits n).toNat))
 | _,_=>none
def Ed(z:Option V)(d:Nat):Option Nat:=
 match z with
 | none=>some d
 | some (.int _ n)=>if 0<=n then some n.toNat else none
 | _=>none
def S4(x:V)(lo hi:Option V):Option V:=
 match x with
 | .str l=>(Ed lo 0).bind fun a=>(Ed hi l.length).bind fun b=>if a<=b/\b<=l.length then some (.str ((l.take b).drop a)) else none
 | _=>none
def Io(m:Nat)(x:V)(lo hi mx:Option V):Option V:=
 match x with
 | .nils=>(Ed lo 0).bind fun a=>(Ed hi 0).bind fun b=>(Ed mx 0).bind fun c=>if a=0/\b=0/\c=0 then some .nils else none
 | .lst t xs=>(Ed lo 0).bind fun a=>(Ed hi xs.length).bind fun b=>(Ed mx b).bind fun c=>
   if a<=b/\b<=xs.length/\c=b/\(a=0\/(xs.all fun r=>r.length==m)=true) then some (.lst (if mx.isSome then 1 else if b=xs.length/\t=1 then 1 else 0) ((xs.take b).drop a)) else none
 | .sl i g off len m' own=>if mx.isSome then none else(Ed lo 0).bind fun a=>(Ed hi len).bind fun b=>if m=m'/\a<=b/\b<=len then some (.sl i g (off+a*m) (b - a) m own) else none
 | _=>none
def By(l:List UInt8):List (List V):=l.map fun c=>[V.int .u8 (c.toNat:Int)]
def Tv:List (List V)->Option (List UInt8)
 | []=>some []
 | [.int .u8 n]::r=>if 0<=n/\n<256 then(Tv r).map fun l=>UInt8.ofNat n.toNat::l else none
 | _=>none
def E5(σ:St)(m:Nat):V->Option (List (List V))
 | .nils=>some []
 | .lst _ ys=>some ys
 | .sl i g off len m' _=>match σ[i]? with
  | some (.row cs _ g' _)=>if g=g'/\m=m'/\off+len*m<=cs.length then some (Fi m len (cs.drop off)) else none
  | _=>none
 | _=>none
def Jm(bytes:Nat)(m:Nat × Nat)(σ:St)(x:V)(ys:List (List V)):Option (V × St):=
  if(ys.all fun r=>r.length==m.1)=true/\0<m.1 then
   match x with
   | .nils=>if ys.length*bytes<=140737488355328 then(if ys.isEmpty then some (.nils,σ) else some (.sl σ.length 0 0 ys.length m.1 true,σ++[.row ys.flatten m.2 0 0])) else none
   | .lst t xs=>if(xs.length+ys.length)*bytes<=140737488355328 then
     (if ys.isEmpty then some (.lst t xs,σ)
     else if t=1/\(xs.all fun r=>r.length==m.1)=true then some (.sl σ.length 0 0 (xs.length+ys.length) m.1 true,σ++[.row (xs.flatten++ys.flatten) m.2 0 0]) else none) else none
   | .sl i g off len m' own=>if(len+ys.length)*bytes<=140737488355328/\m'=m.1 then(match σ[i]? with
    | some (.row cs e g' z)=>if g=g' then
      (if ys.isEmpty then some (.sl i g off len m' own,σ)
      else if own=true/\off=0/\e=m.2/\z<=len*m' then
       (if(len+ys.length)*m'<=cs.length then some (.sl i g 0 (len+ys.length) m' true,σ.set i (.row (cs.take (len*m')++ys.flatten++cs.drop ((len+ys.length)*m')) e g z))
       else if cs.length=len*m' then some (.sl i (g+1) 0 (len+ys.length) m' true,σ.set i (.row (cs++ys.flatten) e (g+1) z)) else none)
      else none) else none
    | _=>none) else none
   | _=>none
  else none
def Js{α:Type}(l:List α):V->Option α
 | .int _ n=>if 0<=n then l[n.toNat]? else none
 | _=>none
def H5(k:List UInt8):List (List UInt8 × V)->Nat->Option (Nat × V)
 | [],_=>none
 | (k',v)::r,i=>if k'==k then some (i,v) else H5 k r (i+1)
def Af(o:AO)(e:Env)(σ:St):Option (V × St):=
 match o with
 | .mov x=>some (Ac e x,σ)
 | .pick c a b=>match Ac e c with
  | .bool z=>some (if z then Ac e a else Ac e b,σ)
  | _=>none
 | .new t z=>some (.ptr σ.length 0 0,σ++[.row z t 0 0])
 | .box t x=>if(Ac e x).cells.all V.cellB then some (.ptr σ.length 0 0,σ++[.row (Ac e x).cells t 0 0]) else none
 | .build z ps=>(I1 z (ps.map fun p=>(p.1,p.2.1,Ac e p.2.2))).map fun cs=>(.agg cs,σ)
 | .rows n z ps=>(I1 (List.replicate n z).flatten (ps.map fun p=>(p.1*z.length,z.length,Ac e p.2))).bind fun cs=>if cs.all V.rowB then some (.lst 1 (Fi z.length n cs),σ) else none
 | .rowf n z ps=>(I1 (List.replicate n z).flatten (ps.map fun p=>(p.1*z.length,z.length,Ac e p.2))).bind fun cs=>
   (cs.mapM (Fg σ (Fy σ 9 (Ah cs).eraseDups) 9)).map fun cs'=>(.lst 1 (Fi z.length n cs'),σ.freeze (Fy σ 9 (Ah cs).eraseDups))
 | .rowo t n z ps=>(I1 (List.replicate n z).flatten (ps.map fun p=>(p.1*z.length,z.length,Ac e p.2))).map fun cs=>(.sl σ.length 0 0 n z.length true,σ++[.row cs t 0 0])
 | .mk t bytes z x y=>match Ac e x,Ac e y with
  | .int .i64 n,.int .i64 c=>if 0<=n/\n<=c/\c.toNat*bytes<=140737488355328 then some (.sl σ.length 0 0 n.toNat z.length true,σ++[.row (List.replicate n.toNat z).flatten t 0 0]) else none
  | _,_=>none
 | .load n one x=>(H3 σ n one (Ac e x)).map fun v=>(v,σ)
 | .store n x v=>(Qr σ n (Ac e x) (Ac e v)).map fun σ'=>(.und,σ')
 | .chk x=>match Ac e x with
  | .imm r o=>some (.imm r o,σ)
  | .ptr b g o=>some (.ptr b g o,σ)
  | _=>none
 | .bin o x y=>(Aax o (Ac e x) (Ac e y)).map fun v=>(v,σ)
 | .eq k neg x y=>(Nm k (Ac e x) (Ac e y)).map fun z=>(.bool (z != neg),σ)
 | .un o x=>(unV o (Ac e x)).map fun v=>(v,σ)
 | .cvi k x=>match Ac e x with
  | .int _ n=>some (.int k (k.wrap n),σ)
  | _=>none
 | .slcs x lo hi=>(S4 (Ac e x) (lo.map (Ac e)) (hi.map (Ac e))).map fun v=>(v,σ)
 | .slc m x lo hi mx=>(Io m (Ac e x) (lo.map (Ac e)) (hi.map (Ac e)) (mx.map (Ac e))).map fun v=>(v,σ)
 | .slca len m x lo hi=>match Ac e x with
  | .ptr i g off=>(Ed (lo.map (Ac e)) 0).bind fun a=>(Ed (hi.map (Ac e)) len).bind fun b=>if a<=b/\b<=len then some (.sl i g (off+a*m) (b - a) m false,σ) else none
  | _=>none
 | .fad off x=>match Ac e x with
  | .imm r o=>some (.imm r (o+off),σ)
  | .ptr b g o=>some (.ptr b g (o+off),σ)
  | _=>none
 | .fld off n one x=>match Ac e x with
  | .agg cs=>if off+n<=cs.length then(Ht one ((cs.drop off).take n)).map fun v=>(v,σ) else none
  | _=>none
 | .iad m x i=>match Ac e x with
  | .lst _ xs=>(Js xs (Ac e i)).bind fun r=>if r.length=m then some (.imm r 0,σ) else none
  | .sl j g off len m' _=>match Ac e i with
   | .int _ n=>if 0<=n/\n<len/\m=m' then some (.ptr j g (off+n.toNat*m),σ) else none
   | _=>none
  | _=>none
 | .iar len m x i=>match Ac e i with
  | .int _ n=>if 0<=n/\n<len then(match Ac e x with
   | .imm r o=>some (.imm r (o+n.toNat*m),σ)
   | .ptr b g o=>some (.ptr b g (o+n.toNat*m),σ)
   | _=>none) else none
  | _=>none
 | .idx x i=>match Ac e x with
  | .str l=>(Js l (Ac e i)).map fun c=>(.int .u8 (c.toNat:Int),σ)
  | _=>none
 | .ida len m one x i=>match Ac e i with
  | .int _ n=>if 0<=n/\n<len then(match Ac e x with
   | .agg cs=>if n.toNat*m+m<=cs.length then(Ht one ((cs.drop (n.toNat*m)).take m)).map fun v=>(v,σ) else none
   | _=>none) else none
  | _=>none
 | .ext i x=>match Ac e x with
  | .tup vs=>(vs[i]?).map fun v=>(v,σ)
  | _=>none
 | .lens x=>match Ac e x with
  | .str l=>some (.int .i64 (l.length:Int),σ)
  | _=>none
 | .len x=>match Ac e x with
  | .nils=>some (.int .i64 0,σ)
  | .lst _ xs=>some (.int .i64 (xs.length:Int),σ)
  | .sl _ _ _ len _ _=>some (.int .i64 (len:Int),σ)
  | _=>none
 | .app bytes m x y=>(E5 σ m.1 (Ac e y)).bind fun ys=>Jm bytes m σ (Ac e x) ys
 | .apps ty x y=>match Ac e y with
  | .str l=>Jm 1 (1,ty) σ (Ac e x) (By l)
  | _=>none
 | .mx x y=>match Ac e x,Ac e y with
  | .int k a,.int k' b=>if k=k' then some (.int k (max a b),σ) else none
  | _,_=>none
 | .mn x y=>match Ac e x,Ac e y with
  | .int k a,.int k' b=>if k=k' then some (.int k (min a b),σ) else none
  | _,_=>none
 | .mmk=>some (.mp σ.length,σ++[.map []])
 | .mlk z x k=>match Ac e x,Ac e k with
  | .mp i,.str s=>match σ[i]? with
   | some (.map kvs)=>some (match H5 s kvs 0 with
    | some (_,v)=>v
    | none=>z,σ)
   | _=>none
  | _,_=>none
 | .mup x k v=>match Ac e x,Ac e k with
  | .mp i,.str s=>match σ[i]? with
   | some (.map kvs)=>if(Ac e v).flatB then some (.und,σ.set i (.map (match H5 s kvs 0 with
    | some (j,_)=>kvs.set j (s,Ac e v)
    | none=>kvs++[(s,Ac e v)]))) else none
   | _=>none
  | _,_=>none
 | .call _ _=>none
 | .callv _ _=>none
def Cj(e:Env):AO->Option (Nat × List V)
 | .call f xs=>some (f,xs.map (Ac e))
 | .callv x xs=>match Ac e x with
  | .fn f a c=>some (f,a++xs.map (Ac e)++c)
  | _=>none
 | _=>none
inductive AR where
 | tmp (t:Nat)
 | cell (t n:Nat) (one:Bool)
structure AF where
 pars:Nat
 res:List AR
 thr:Bool
 body:AC
 spec:Option (List V->St->Option (V × St)):=none
def C7:Nat->List V->Env
 | _,[]=>[]
 | n,v::vs=>(n,v)::C7 (n+1) vs
def Gr(e:Env)(σ:St):AR->Option V
 | .tmp t=>some (e.get t)
 | .cell t n one=>H3 σ n one (e.get t)
def Ca(e:Env)(σ:St):List AR->Option V
 | [r]=>Gr e σ r
 | rs=>(rs.mapM (Gr e σ)).map .tup
def exitTo(id:Nat):List It->Option (List It)
 | []=>none
 | .b i::k=>if i=id then some k else exitTo id k
 | _::k=>exitTo id k
def Cv(e:Env)(i:AI):Option Bool:=
 match i.g with
 | none=>some true
 | some (t,want)=>match e.get t with
  | .bool b=>some (b==want)
  | .skp=>some false
  | _=>none
def Mm(qe:List (List Nat))(qx:List Nat)(i:Nat):Bool:=!qx.elem i&&(qe.getD i []).all fun j=>qx.elem j
def Pq(qe:List (List Nat)):Nat->Nat->List Nat->List Nat
 | 0,_,acc=>acc.reverse
 | fuel+1,t,acc=>
  let rs:=(List.range qe.length).filter (Mm qe acc)
  match rs[t % rs.length]? with
  | some i=>Pq qe fuel (t / rs.length) (i::acc)
  | none=>acc.reverse
def P5(qe:List (List Nat))(t:Nat):List Nat:=Pq qe qe.length t []
def D8(ops:List AI)(l:List Nat):List AI:=l.filterMap (ops[·]?)
/-! what a call leaves: the objects that were (n of them), and of the others those that are still named (js), under new numbers -/
def ren(n:Nat)(js:List Nat)(i:Nat):Nat:=if i<n then i else n+js.findIdx (·==i)
mutual
def V.ren(ρ:Nat->Nat):V->V
 | .ptr i g o=>.ptr (ρ i) g o
 | .sl i g o l m w=>.sl (ρ i) g o l m w
 | .mp i=>.mp (ρ i)
 | .fn f a c=>.fn f (Fw ρ a) (Fw ρ c)
 | .agg cs=>.agg (Fw ρ cs)
 | .tup vs=>.tup (Fw ρ vs)
 | v=>v
def Fw(ρ:Nat->Nat):List V->List V
 | []=>[]
 | v::r=>v.ren ρ::Fw ρ r
end
def Ob.ren(ρ:Nat->Nat):Ob->Ob
 | .row cs e g z=>.row (Fw ρ cs) e g z
 | .map kvs=>.map (kvs.map fun p=>(p.1,p.2.ren ρ))
 | .dead=>.dead
def Ga:V->Bool
 | .agg cs=>cs.all V.cellB
 | v=>v.cellB
def Cd:V->Bool
 | .tup vs=>vs.all Ga
 | v=>Ga v
def Ej(n:Nat)(js:List Nat)(is:List Nat):Bool:=is.all fun i=>decide (i<n)||js.elem i
def Ao6(n:Nat)(v:V)(σ':St):Bool:=Cd v&&(Ej n [] v.refs&&(σ'.take n).all fun o=>Ej n [] o.refs)
def Hj(n:Nat)(js:List Nat)(v:V)(σ':St):Bool:=
 Cd v&&(Ej n js v.refs&&(((σ'.take n++js.filterMap (σ'[·]?)).all fun o=>Ej n js o.refs)&&(decide js.Nodup&&js.all fun i=>decide (n<=i)&&decide (i<σ'.length))))
def leave(n:Nat)(v:V)(σ':St):Option (V × St):=
 if Ao6 n v σ' then some (v,σ'.take n) else
  let js:=(Fy σ' 9 ((v.refs++(σ'.take n).flatMap Ob.refs).eraseDups)).filter fun i=>decide (n<=i)
  if Hj n js v σ' then some (v.ren (ren n js),(σ'.take n++js.filterMap (σ'[·]?)).map (Ob.ren (ren n js))) else none
inductive J where
 | fn (f:Nat) (args:List V) (σ:St) (v:V) (σ':St)
 | ops (l:List AI) (e:Env) (σ:St) (e':Env) (σ':St)
 | code (k:List It) (e:Env) (σ:St) (e':Env) (σ':St)
def Lv(σ:St)(args:List V):List Nat:=Fy σ 9 (Ah args).eraseDups
def Dt(σ:St)(args:List V):Option (List V):=args.mapM (Gy σ (Lv σ args))
def after(σ:St)(args:List V)(v:V):St:=if v.flatV then σ else σ.freeze (Lv σ args)
def own(σ:St)(args:List V)(σ0:St):St:=σ.freeze (Lv σ args)++σ0.map (Ob.ren (·+σ.length))
def Eg(σ':St)(v:V):Option V:=Iw σ' (Fy σ' 9 v.refs.eraseDups) v
inductive Ev (T:Nat->Option AF) (pr:Nat->Option (List V->Option V)):J->Prop
 | opsNil {e:Env} {σ:St}:Ev T pr (.ops [] e σ e σ)
 | opsSkip {i:AI} {l:List AI} {e e':Env} {σ σ':St}:Cv e i=some false->Ev T pr (.ops l (e.putO i.dst .skp) σ e' σ')->Ev T pr (.ops (i::l) e σ e' σ')
 | opsVal {i:AI} {l:List AI} {e e':Env} {σ σ1 σ':St} {v:V}:Cv e i=some true->Af i.op e σ=some (v,σ1)->Ev T pr (.ops l (e.putO i.dst v) σ1 e' σ')->Ev T pr (.ops (i::l) e σ e' σ')
 | opsPrim {i:AI} {f:Nat} {args:List V} {l:List AI} {e e':Env} {σ σ':St} {s:List V->Option V} {vs:List V} {v:V}:Cv e i=some true->Cj e i.op=some (f,args)->pr f=some s ->
   Dt σ args=some vs->s vs=some v->Ev T pr (.ops l (e.putO i.dst v) (after σ args v) e' σ')->Ev T pr (.ops (i::l) e σ e' σ')
 | opsPure {i:AI} {f:Nat} {args:List V} {l:List AI} {e e':Env} {σ σ0 σ':St} {F:AF} {vs:List V} {v v':V}:Cv e i=some true->Cj e i.op=some (f,args)->T f=some F->F.thr=false->F.spec=none ->
   Dt σ args=some vs->Ev T pr (.fn f vs [] v σ0)->Eg σ0 v=some v'->Ev T pr (.ops l (e.putO i.dst v') (after σ args v') e' σ')->Ev T pr (.ops (i::l) e σ e' σ')
 | opsOwn {i:AI} {f:Nat} {args:List V} {l:List AI} {e e':Env} {σ σ0 σ':St} {F:AF} {vs:List V} {v:V}:Cv e i=some true->Cj e i.op=some (f,args)->T f=some F->F.thr=false->F.spec=none ->
   Dt σ args=some vs->Ev T pr (.fn f vs [] v σ0)->Ev T pr (.ops l (e.putO i.dst (v.ren (·+σ.length))) (own σ args σ0) e' σ')->Ev T pr (.ops (i::l) e σ e' σ')
 | opsAny {i:AI} {f:Nat} {args:List V} {l:List AI} {e e':Env} {σ σ1 σ':St} {F:AF} {v:V}:Cv e i=some true->Cj e i.op=some (f,args)->T f=some F->F.spec=none ->
   Ev T pr (.fn f args σ v σ1)->Ev T pr (.ops l (e.putO i.dst v) σ1 e' σ')->Ev T pr (.ops (i::l) e σ e' σ')
 | opsThr {i:AI} {f:Nat} {args:List V} {l:List AI} {e e':Env} {σ σ1 σ':St} {F:AF} {v:V}:Cv e i=some true->Cj e i.op=some (f,args)->T f=some F->F.thr=true->F.spec=none ->
   Ev T pr (.fn f args σ v σ1)->Ev T pr (.ops l (e.putO i.dst v) σ1 e' σ')->Ev T pr (.ops (i::l) e σ e' σ')
 | opsSpec {i:AI} {f:Nat} {args:List V} {l:List AI} {e e':Env} {σ σ1 σ':St} {F:AF} {s:List V->St->Option (V × St)} {v:V}:Cv e i=some true->Cj e i.op=some (f,args)->T f=some F->F.thr=true->F.spec=some s ->
   s args σ=some (v,σ1)->Ev T pr (.ops l (e.putO i.dst v) σ1 e' σ')->Ev T pr (.ops (i::l) e σ e' σ')
 | fn {f:Nat} {args:List V} {σ σ':St} {e':Env} {F:AF} {v:V}:T f=some F->F.spec=none->args.length=F.pars->Ev T pr (.code [.c F.body] (C7 0 args) σ e' σ')->Ca e' σ' F.res=some v ->
   Cd v=true->Ej σ.length [] v.refs=true->(∀ i ob,i<σ.length->σ'[i]?=some ob->σ[i]?=some ob\/Ej σ.length [] ob.refs=true)->Ev T pr (.fn f args σ v (σ'.take σ.length))
 | fnL {f:Nat} {args:List V} {σ σ':St} {e':Env} {F:AF} {v:V} {js:List Nat}:T f=some F->F.spec=none->args.length=F.pars->Ev T pr (.code [.c F.body] (C7 0 args) σ e' σ')->Ca e' σ' F.res=some v ->
   Hj σ.length js v σ'=true->Ev T pr (.fn f args σ (v.ren (ren σ.length js)) ((σ'.take σ.length++js.filterMap (σ'[·]?)).map (Ob.ren (ren σ.length js))))
 | fnS {f:Nat} {args:List V} {σ σ':St} {e':Env} {F:AF} {v v':V} {js:List Nat}:T f=some F->F.spec=none->args.length=F.pars->Ev T pr (.code [.c F.body] (C7 0 args) σ e' σ')->Ca e' σ' F.res=some v ->
   Cd v=true->Iw σ' js v=some v'->Ej σ.length [] v'.refs=true->(∀ i ob,i<σ.length->(σ'.freeze js)[i]?=some ob->σ[i]?=some ob\/Ej σ.length [] ob.refs=true)->Ev T pr (.fn f args σ v' ((σ'.freeze js).take σ.length))
 | fnZ {f:Nat} {args:List V} {σ σ':St} {e':Env} {F:AF} {v v':V} {js ks:List Nat}:T f=some F->F.spec=none->args.length=F.pars->Ev T pr (.code [.c F.body] (C7 0 args) σ e' σ')->Ca e' σ' F.res=some v ->
   Cd v=true->Iw σ' js v=some v'->Hj σ.length ks v' (σ'.freeze js)=true->Ev T pr (.fn f args σ (v'.ren (ren σ.length ks)) (((σ'.freeze js).take σ.length++ks.filterMap ((σ'.freeze js)[·]?)).map (Ob.ren (ren σ.length ks))))
 | cNil {e:Env} {σ:St}:Ev T pr (.code [] e σ e σ)
 | cSkip {k:List It} {e e':Env} {σ σ':St}:Ev T pr (.code k e σ e' σ')->Ev T pr (.code (.c .skip::k) e σ e' σ')
 | cReg {kill:List Nat} {ops:List AI} {k:List It} {e e1 e':Env} {σ σ1 σ':St}:Ev T pr (.ops ops e σ e1 σ1)->Ev T pr (.code k (e1.del kill) σ1 e' σ')->Ev T pr (.code (.c (.reg kill ops)::k) e σ e' σ')
 | cDrw {kill:List Nat} {qe:List (List Nat)} {ops:List AI} {k:List It} {e e1 e':Env} {σ σ1 σ':St} (E2:Nat->Env):(∀ t,Ev T pr (.ops (D8 ops (P5 qe t)) e σ (E2 t) σ1))->(∀ t n,(E2 t).get n=e1.get n)->Ev T pr (.code k (e1.del kill) σ1 e' σ')->Ev T pr (.code (.c (.drw kill qe ops)::k) e σ e' σ')
 | cSeq {a b:AC} {k:List It} {e e':Env} {σ σ':St}:Ev T pr (.code (.c a::.c b::k) e σ e' σ')->Ev T pr (.code (.c (.seq a b)::k) e σ e' σ')
 | cCond {c:S} {kill:List Nat} {x y:AC} {k:List It} {e e':Env} {σ σ':St} {z:Bool}:Ac e c=.bool z->Ev T pr (.code (.c (if z then x else y)::k) (e.del kill) σ e' σ')->Ev T pr (.code (.c (.cond c kill x y)::k) e σ e' σ')
 | cBlk {id:Nat} {c:AC} {k:List It} {e e':Env} {σ σ':St}:Ev T pr (.code (.c c::.b id::k) e σ e' σ')->Ev T pr (.code (.c (.blk id c)::k) e σ e' σ')
 | cEnd {id:Nat} {k:List It} {e e':Env} {σ σ':St}:Ev T pr (.code k e σ e' σ')->Ev T pr (.code (.b id::k) e σ e' σ')
 | cLoop {keep:List Nat} {c:AC} {k:List It} {e e':Env} {σ σ':St}:Ev T pr (.code (.l keep c::k) e σ e' σ')->Ev T pr (.code (.c (.loop keep c)::k) e σ e' σ')
 | cAgain {keep:List Nat} {c:AC} {k:List It} {e e':Env} {σ σ':St}:Ev T pr (.code (.c c::.l keep c::k) (e.keep keep) σ e' σ')->Ev T pr (.code (.l keep c::k) e σ e' σ')
 | cExit {id:Nat} {k k':List It} {e e':Env} {σ σ':St}:exitTo id k=some k'->Ev T pr (.code k' e σ e' σ')->Ev T pr (.code (.c (.exit id)::k) e σ e' σ')
 | cRet {k:List It} {e:Env} {σ:St}:Ev T pr (.code (.c .ret::k) e σ e σ)
abbrev E1:=Nat->Option Nat
inductive RepR (κ:E1) (w:World):V->Value->Prop
 | bool {b:Bool}:RepR κ w (.bool b) (.bool b)
 | int {k:IntKind} {n:Int}:RepR κ w (.int k n) (.int k n)
 | str {l:List UInt8}:l.length<=maxLen->RepR κ w (.str l) (.string ⟨l.toArray⟩)
 | nili:RepR κ w .nili .nilIface
 | ifc {t:TypeId} {u:Value}:RepR κ w .ifc (.iface t u)
 | nils:RepR κ w .nils (.slice none 0 0)
 | lst {t:Nat} {xs:List (List V)} {a:Addr} {cap m:Nat} (row:Nat->Nat->Value) :
   (t=1->cap=xs.length)->xs.length<=cap->cap<=maxLen ->
   (0<xs.length->a.spot=none/\∃ k,κ a.block=some k/\a.off+xs.length*m<=k) ->
   (∀ i,i<xs.length->(xs.getD i []).length=m) ->
   (∀ i j,i<xs.length->j<m->w.cell? ⟨a.block,a.off+i*m+j,none⟩=some (row i j)) ->
   (∀ i j,i<xs.length->j<m->RepR κ w ((xs.getD i []).getD j .und) (row i j)) ->
   RepR κ w (.lst t xs) (.slice (some a) xs.length cap)
structure Gh where
 κ:E1
 O:List (Nat × Nat)
def Ep(w:World)(b:Nat):Option Nat:=match w.heap[b]? with
 | some (.cells c _ _)=>some c.size
 | _=>none
inductive RepC (γ:Gh) (w:World):V->Value->Prop
 | row {v:V} {u:Value}:RepR γ.κ w v u->RepC γ w v u
 | imm {r:List V} {off b o k:Nat} (row:Nat->Value):γ.κ b=some k->o+r.length<=k->(∀ j,j<r.length->w.cell? ⟨b,o+j,none⟩=some (row j))->(∀ j,j<r.length->RepR γ.κ w (r.getD j .und) (row j)) ->
   RepC γ w (.imm r off) (.pointer (some ⟨b,o+off,none⟩))
 | ptr {i g off blk g' b':Nat}:γ.O[i]?=some (blk,g')->g<=g'->(g=g'->b'=blk)->RepC γ w (.ptr i g off) (.pointer (some ⟨b',off,none⟩))
 | sl {i g off len m blk g' b' o' cap:Nat} {own:Bool}:γ.O[i]?=some (blk,g')->g<=g'->len<=cap->cap<=maxLen->(0<cap->o'=off)->(g=g'->b'=blk/\(own=true->Ep w blk=some (off+cap*m)))->RepC γ w (.sl i g off len m own) (.slice (some ⟨b',o',none⟩) len cap)
 | nilp:RepC γ w .nilp (.pointer none)
 | nilf:RepC γ w .nilf .nilFunc
 | ifc {t:TypeId} {u:Value}:RepC γ w .ifc (.iface t u)
 | fn {f:Nat} {a c:List V} {ua uc:List Value}:a.length=ua.length->c.length=uc.length->(∀ j,j<a.length->RepC γ w (a.getD j .und) (ua.getD j undef))->(∀ j,j<c.length->RepC γ w (c.getD j .und) (uc.getD j undef))->RepC γ w (.fn f a c) (.func (.func f) ua.toArray uc.toArray)
 | mp {i blk g':Nat} {u:Value}:γ.O[i]?=some (blk,g')->u.oneCell'=true->(g'=0->u=.map (some blk))->RepC γ w (.mp i) u
inductive Rep1 (γ:Gh) (w:World):V->Value->Prop
 | cell {v:V} {u:Value}:RepC γ w v u->Rep1 γ w v u
 | agg {cs:List V} {us:List Value}:cs.length=us.length->(∀ j,j<cs.length->RepC γ w (cs.getD j .und) (us.getD j undef))->Rep1 γ w (.agg cs) (.agg us.toArray)
inductive RepV (γ:Gh) (w:World):V->Value->Prop
 | und {u:Value}:RepV γ w .und u
 | skp:RepV γ w .skp undef
 | one {v:V} {u:Value}:Rep1 γ w v u->RepV γ w v u
 | tup {vs:List V} {us:List Value}:vs.length=us.length->(∀ j,j<vs.length->Rep1 γ w (vs.getD j .und) (us.getD j undef))->RepV γ w (.tup vs) (.tuple us.toArray)
structure Ext (γ:Gh) (w:World) (γ':Gh) (w':World):Prop where
 kap:∀ (b k:Nat),γ.κ b=some k->∃ k',γ'.κ b=some k'/\k<=k'
 cell:∀ (b k o:Nat),γ.κ b=some k->o<k->w'.cell? ⟨b,o,none⟩=w.cell? ⟨b,o,none⟩
 obj:∀ (i blk g:Nat),γ.O[i]?=some (blk,g)->∃ qA g',γ'.O[i]?=some (qA,g')/\g<=g'/\(g'=g->qA=blk/\Ep w' blk=Ep w blk)
def Ext.refl(γ:Gh)(w:World):Ext γ w γ w:=
 ⟨fun _ k h=>⟨k,h,Am _⟩,fun _ _ _ _ _=>rfl,fun _ blk g h=>⟨blk,g,h,Am _,fun _=>⟨rfl,rfl⟩⟩⟩
def Ext.trans{γ γ' γ'':Gh}{w w' jx:World}(h:Ext γ w γ' w')(g:Ext γ' w' γ'' jx):Ext γ w γ'' jx where
 kap:=fun b k hb=>by
  obtain⟨k',h1,h2⟩:=h.kap b k hb;obtain⟨kC,g1,g2⟩:=g.kap b k' h1
  grind
 cell:=fun b k o hb ho=>by
  obtain⟨k',h1,h2⟩:=h.kap b k hb;exact(g.cell b k' o h1 (O8 ho h2)).trans (h.cell b k o hb ho)
 obj:=fun i blk gn hi=>by
  obtain⟨b1,g1,h1,h2,h3⟩:=h.obj i blk gn hi;obtain⟨b2,g2,k1,k2,k3⟩:=g.obj i b1 g1 h1
  grind
def RepR.keep{κ κ':E1}{w w':World}(hk:∀ b k,κ b=some k->∃ k',κ' b=some k'/\k<=k')(hc:∀ b k o,κ b=some k->o<k->w'.cell? ⟨b,o,none⟩=w.cell? ⟨b,o,none⟩){v:V}{u:Value}(h:RepR κ w v u):RepR κ' w' v u:=by
 induction h with
 | bool=>exact .bool
 | int=>exact .int
 | str h=>exact .str h
 | nili=>exact .nili
 | ifc=>exact .ifc
 | nils=>exact .nils
 | @lst t xs a cap m row h1 h2 h3 h4 h5 h6 _ ih=>
  refine .lst row h1 h2 h3 (fun hl=>?_) h5 (fun i j hi hj=>?_) ih
  .grind
  .obtain⟨hs,k,jO,qf⟩:=h4 AA;have:i*m+m<=xs.length*m:=by rw[<-G6];exact E4 _ hi
   exact(hc _ _ _ jO AA).trans (h6 i j hi hj)
section
variable {γ γ':Gh} {w w':World}
def RepC.ext(hx:Ext γ w γ' w'){v:V}{u:Value}(h:RepC γ w v u):RepC γ' w' v u:=by
 induction h with
 | row h=>exact .row (h.keep hx.kap hx.cell)
 | imm row h1 h2 h3 h4=>
  obtain⟨k',qi,qf⟩:=hx.kap _ _ h1;exact .imm row qi (Dd h2 qf) (fun j hj=>(hx.cell _ _ _ h1 AA).trans (h3 j hj)) (fun j hj=>(h4 j hj).keep hx.kap hx.cell)
 | ptr h1 h2 h3=>
  obtain⟨b1,g1,k1,k2,k3⟩:=hx.obj _ _ _ h1;refine .ptr k1 (Dd h2 k2) (fun e=>?_);omega
 | sl h1 h2 h3 h4 h5 h6=>
  obtain⟨b1,g1,k1,k2,k3⟩:=hx.obj _ _ _ h1;refine .sl k1 (Dd h2 k2) h3 h4 h5 (fun e=>?_)
  grind
 | nilp=>exact .nilp
 | nilf=>exact .nilf
 | ifc=>exact .ifc
 | fn h1 h2 _ _ ih1 ih2=>exact .fn h1 h2 ih1 ih2
 | mp h1 h2 h3=>
  obtain⟨b1,g1,k1,k2,k3⟩:=hx.obj _ _ _ h1;refine .mp k1 h2 (fun e=>?_)
  grind
def Rep1.ext(hx:Ext γ w γ' w'){v:V}{u:Value}(h:Rep1 γ w v u):Rep1 γ' w' v u:=by
 cases h with
 | cell h=>exact .cell (h.ext hx)
 | agg h1 h2=>exact .agg h1 (fun j hj=>(h2 j hj).ext hx)
def RepV.ext(hx:Ext γ w γ' w'){v:V}{u:Value}(h:RepV γ w v u):RepV γ' w' v u:=by
 cases h with
 | und=>exact .und
 | skp=>exact .skp
 | one h=>exact .one (h.ext hx)
 | tup h1 h2=>exact .tup h1 (fun j hj=>(h2 j hj).ext hx)
end
def RepE(γ:Gh)(w:World)(e:Env)(a:Array Value):Prop:=∀ n,RepV γ w (e.get n) (a.getD n undef)
def RepE.ext{γ γ':Gh}{w w':World}(hx:Ext γ w γ' w'){e:Env}{a:Array Value}(h:RepE γ w e a):RepE γ' w' e a:=fun n=>(h n).ext hx
def Env.get_put(e:Env)(n m:Nat)(v:V):(e.put n v).get m=if n=m then v else e.get m:=by
 induction e with
 | nil=>simp[Env.put,Env.get]
 | cons p r ih=>
  obtain⟨k,u⟩:=p;unfold Env.put;by_cases h:k=n
  .simp_all [Env.get]
  .rw[if_neg h];unfold Env.get
   grind
def Env.get_del(e:Env)(ks:List Nat)(m:Nat):(e.del ks).get m=.und\/(e.del ks).get m=e.get m:=by
 induction e with
 | nil=>exact .inl rfl
 | cons p r ih=>
  obtain⟨k,u⟩:=p;unfold Env.del
  split
  .rename_i hk;by_cases h:k=m
   .subst h;left;clear ih
    induction r with
    | nil=>rfl
    | cons q r ih=>
     obtain⟨k',u'⟩:=q;unfold Env.del
     split
     .exact ih
     .rename_i qi;unfold Env.get
      grind
   grind[Env.get]
  .unfold Env.get
   grind
def Env.get_keep(e:Env):∀ (ks:List Nat) (m:Nat),(e.keep ks).get m=.und\/(e.keep ks).get m=e.get m
 | [],_=>.inl rfl
 | k::ks,m=>by
  simp only[Env.keep];rw[Env.get.eq_2]
  split
  .rename_i h;subst h;exact .inr rfl
  .exact Env.get_keep e ks m
def RepE.del{γ:Gh}{w:World}{e:Env}{a:Array Value}(h:RepE γ w e a)(ks:List Nat):RepE γ w (e.del ks) a:=fun n=>by
 rcases Env.get_del e ks n with h' | h'
 .rw[h'];exact .und
 .rw[h'];exact h n
def RepE.keep{γ:Gh}{w:World}{e:Env}{a:Array Value}(h:RepE γ w e a)(ks:List Nat):RepE γ w (e.keep ks) a:=fun n=>by
 rcases Env.get_keep e ks n with h' | h'
 .rw[h'];exact .und
 .rw[h'];exact h n
def RepE.put{γ:Gh}{w:World}{e:Env}{a:Array Value}(h:RepE γ w e a){d:Nat}{v:V}{u:Value}(hd:d<a.size)(hv:RepV γ w v u):RepE γ w (e.put d v) (a.setIfInBounds d u):=fun n=>by
 rw[Env.get_put]
 split
 .simp_all
 .rename_i hn;have:(a.setIfInBounds d u).getD n undef=a.getD n undef:=by simp[Array.getD_eq_getD_getElem?,Array.getElem?_setIfInBounds,hn]
  rw[this];exact h n
def ObOk(γ:Gh)(w:World)(ob:Ob)(p:Nat × Nat):Prop:=
 match ob with
 | .row cs e g z=>p.2=g/\γ.κ p.1=some z/\z<=cs.length/\∃ us lo hi,w.heap[p.1]?=some (.cells us e (lo,hi))/\(lo<=hi/\(hi<=z\/us.size<=lo))/\cs.length<=us.size/\∀ j,j<cs.length->RepC γ w (cs.getD j .und) (us.getD j undef)
 | .map kvs=>p.2=0/\γ.κ p.1=none/\∃ es:Array MapEntry,w.heap[p.1]?=some (.map es kvs.length)/\es.size=kvs.length/\∀ (i:Nat) (k:List UInt8) (v:V),kvs[i]?=some (k,v)->∃ en:MapEntry,es[i]?=some en/\en.key=.string ⟨k.toArray⟩/\k.length<=maxLen/\en.born=i/\v.flatB=true/\RepC γ w v en.val
 | .dead=>p.1<w.heap.size
structure Inv (G:List (Nat × List V)) (N:Nat) (γ:Gh) (σ:St) (w:World):Prop where
 base:N<=w.heap.size
 len:γ.O.length=σ.length
 nd:(γ.O.map (·.1)).Nodup
 low:∀ (i:Nat) (p:Nat × Nat),γ.O[i]?=some p->N<=p.1
 obj:∀ (i:Nat) (ob:Ob) (p:Nat × Nat),σ[i]?=some ob->γ.O[i]?=some p->ObOk γ w ob p
 dom:∀ b k,γ.κ b=some k->b<w.heap.size
 glob:∀ g r,(g,r)∈G->RepC γ w (.imm r 0) (.pointer (some ⟨g,0,none⟩))
 gsz:∀ g r,(g,r)∈G->g<N/\Ep w g=some r.length
open Go Go.RowKit
variable {G:List (Nat × List V)} {N:Nat} {γ:Gh} {σ:St} {w w':World}
def Inv.at(h:Inv G N γ σ w){i:Nat}{p:Nat × Nat}(hp:γ.O[i]?=some p):∃ ob,σ[i]?=some ob/\ObOk γ w ob p:=by
 have hi:i<σ.length:=by have:=h.len;have:=(An.1 hp).1;omega
 exact⟨σ[i],Cb hi,h.obj i _ p (Cb hi) hp⟩
def Inv.of(h:Inv G N γ σ w){i:Nat}{ob:Ob}(ho:σ[i]?=some ob):∃ p,γ.O[i]?=some p/\ObOk γ w ob p:=by
 have hi:i<γ.O.length:=by have:=h.len;have:=(An.1 ho).1;omega
 exact⟨γ.O[i],Cb hi,h.obj i _ _ ho (Cb hi)⟩
def ObOk.lt{ob:Ob}{p:Nat × Nat}(h:ObOk γ w ob p):p.1<w.heap.size:=by
 cases ob with
 | row cs e g z=>
  obtain⟨_,_,_,us,lo,hi,h1,_⟩:=h
  grind
 | map kvs=>
  obtain⟨_,_,es,h1,_⟩:=h
  grind
 | dead=>exact h
def Inv.oblt(h:Inv G N γ σ w){i:Nat}{p:Nat × Nat}(hp:γ.O[i]?=some p):p.1<w.heap.size:=by
 obtain⟨ob,_,h2⟩:=h.at hp;exact h2.lt
def Ack{w w':World}{b:Nat}(h:w'.heap[b]?=w.heap[b]?)(o:Nat):w'.cell? ⟨b,o,none⟩=w.cell? ⟨b,o,none⟩:=World.cell?_of_block (a:=⟨b,o,none⟩) h
def Vw{w w':World}{b:Nat}(h:w'.heap[b]?=w.heap[b]?):Ep w' b=Ep w b:=by grind[Ep]
def Ao7{l:List Nat}(h:l.Nodup){i j a:Nat}(hi:l[i]?=some a)(hj:l[j]?=some a):i=j:=by
 obtain⟨h1,e1⟩:=An.1 hi;obtain⟨h2,e2⟩:=An.1 hj;have hp:=Xw.1 h
 grind
def Inv.ne(h:Inv G N γ σ w){i j:Nat}{p q:Nat × Nat}(hp:γ.O[i]?=some p)(hq:γ.O[j]?=some q)(qn:i≠j):p.1≠q.1:=fun e=>
 qn (Ao7 h.nd (i:=i) (j:=j) (a:=p.1) (by simp[hp]) (by grind))
def ObOk.keep{γ':Gh}{ob:Ob}{p:Nat × Nat}(h:ObOk γ w ob p)(hx:Ext γ w γ' w')(hk:γ'.κ p.1=γ.κ p.1)(hh:w'.heap[p.1]?=w.heap[p.1]?):ObOk γ' w' ob p:=by
 cases ob with
 | row cs e g z=>
  obtain⟨h1,h2,h3,us,lo,hi,h4,h5,h6,h7⟩:=h;exact⟨h1,hk.trans h2,h3,us,lo,hi,hh.trans h4,h5,h6,fun j hj=>(h7 j hj).ext hx⟩
 | map kvs=>
  obtain⟨h1,h2,es,h3,h4,h5⟩:=h;refine⟨h1,hk.trans h2,es,hh.trans h3,h4,fun i k v hi=>?_⟩;obtain⟨en,a1,a2,a3,a4,a5,a6⟩:=h5 i k v hi;exact⟨en,a1,a2,a3,a4,a5,a6.ext hx⟩
 | dead=>
  have h:p.1<w.heap.size:=h;rw[Array.getElem?_eq_getElem h]at hh;exact(Array.getElem?_eq_some_iff.1 hh).1
def Inv.more{κ':E1}(h:Inv G N γ σ w)(hb:∀ b,b<w.heap.size->w'.heap[b]?=w.heap[b]?)(hs:w.heap.size<=w'.heap.size)(hk:∀ b,b<w.heap.size->κ' b=γ.κ b)(hd:∀ b k,κ' b=some k->b<w'.heap.size):
  Inv G N ⟨κ',γ.O⟩ σ w'/\Ext γ w ⟨κ',γ.O⟩ w':=by
 have hx:Ext γ w ⟨κ',γ.O⟩ w':={
  kap:=fun b k qi=>⟨k,by show κ' b=_;rw[hk b (h.dom b k qi)];exact qi,Am _⟩
  cell:=fun b k o qi _=>Ack (hb b (h.dom b k qi)) o
  obj:=fun i blk g hi=>⟨blk,g,hi,Am _,fun _=>⟨rfl,Vw (hb blk (h.oblt hi))⟩⟩ }
 exact⟨⟨Dd h.base hs,h.len,h.nd,h.low,fun i ob p h1 h2=>(h.obj i ob p h1 h2).keep hx (hk _ (h.oblt h2)) (hb _ (h.oblt h2)),hd,fun g r hg=>(h.glob g r hg).ext hx,fun g r hg=>⟨(h.gsz g r hg).1,(Vw (hb g (by have:=(h.gsz g r hg).1;have:=h.base;omega))).trans (h.gsz g r hg).2⟩⟩,hx⟩
def J5(κ:E1)(b k:Nat):E1:=fun c=>if c=b then some k else κ c
def Vx(κ:E1)(b k:Nat):J5 κ b k b=some k:=by simp[J5]
def N1(κ:E1){b c:Nat}(k:Nat)(h:c≠b):J5 κ b k c=κ c:=by grind[J5]
def Acz{κ:E1}{b k n:Nat}(h:∀ c k,κ c=some k->c<n)(hb:b<n):∀ c k',J5 κ b k c=some k'->c<n:=fun c k' hc=>by
 grind[J5]
def Inv.row(h:Inv G N γ σ w)(us:Array Value)(e:TypeId):
  Inv G N ⟨J5 γ.κ w.heap.size us.size,γ.O⟩ σ (w.alloc (.cells us e))/\Ext γ w ⟨J5 γ.κ w.heap.size us.size,γ.O⟩ (w.alloc (.cells us e)):=
 h.more (fun b hb=>Below.heap_alloc _ _ _ hb) AE (fun b hb=>N1 _ _ AA) (Acz (fun b k hk=>by have:=h.dom b k hk;simp;omega) AE)
def Inv.drew(h:Inv G N γ σ w):Inv G N γ σ w.drew/\Ext γ w γ w.drew:=
 h.more (κ':=γ.κ) (fun _ _=>rfl) (Am _) (fun _ _=>rfl) h.dom
def A03{O:List (Nat × Nat)}{b g n:Nat}(h:(O.map (·.1)).Nodup)(qg:∀ (i:Nat) (p:Nat × Nat),O[i]?=some p->p.1<n)(hb:n<=b):((O++[(b,g)]).map (·.1)).Nodup:=by
 rw[Fm,List.nodup_append];refine⟨h,by simp,fun a ha c hc=>?_⟩;simp at hc;subst hc;obtain⟨p,ja,rfl⟩:=Di.1 ha
 grind[List.mem_iff_getElem?]
def Inv.newOb(h:Inv G N γ σ w)(o:Obj)(ob:Ob)(κ':E1)(hk:∀ b,b<w.heap.size->κ' b=γ.κ b)(hd:∀ b k,κ' b=some k->b<w.heap.size+1)
  (qz:Ext γ w ⟨κ',γ.O++[(w.heap.size,0)]⟩ (w.alloc o)->ObOk ⟨κ',γ.O++[(w.heap.size,0)]⟩ (w.alloc o) ob (w.heap.size,0)) :
  Inv G N ⟨κ',γ.O++[(w.heap.size,0)]⟩ (σ++[ob]) (w.alloc o)/\Ext γ w ⟨κ',γ.O++[(w.heap.size,0)]⟩ (w.alloc o):=by
 have hx:Ext γ w ⟨κ',γ.O++[(w.heap.size,0)]⟩ (w.alloc o):={
  kap:=fun b k qi=>⟨k,by show κ' b=_;rw[hk b (h.dom b k qi)];exact qi,Am _⟩
  cell:=fun b k q qi _=>Ack (Below.heap_alloc _ _ _ (h.dom b k qi)) q
  obj:=fun i blk g hi=>⟨blk,g,by grind,Am _,fun _=>⟨rfl,Vw (Below.heap_alloc _ _ _ (h.oblt hi))⟩⟩ }
 refine⟨⟨by have:=h.base;simp;omega,by simp[h.len],A03 h.nd (fun i p hp=>h.oblt hp) (Am _),fun i p hp=>?_,fun i ob' p h1 h2=>?_,fun b k qi=>by simp_all,fun g r hg=>(h.glob g r hg).ext hx,fun g r hg=>⟨(h.gsz g r hg).1,(Vw (Below.heap_alloc _ _ _ (by have:=(h.gsz g r hg).1;have:=h.base;omega))).trans (h.gsz g r hg).2⟩⟩,hx⟩
 .have qN:(γ.O++[(w.heap.size,0)])[i]?=some p:=hp;by_cases hi:i<γ.O.length
  .rw[Ex hi]at qN;exact h.low i p qN
  .rw[Fk AA]at qN;have:=Hg qN;simp at this;subst this;exact h.base
 .have qr:(γ.O++[(w.heap.size,0)])[i]?=some p:=h2;by_cases hi:i<γ.O.length
  .rw[Ex hi]at qr;rw[Ex (by have:=h.len;omega)]at h1;exact(h.obj i ob' p h1 qr).keep hx (hk _ (h.oblt qr)) (Below.heap_alloc _ _ _ (h.oblt qr))
  .rw[Fk AA]at qr;have qg:i<σ.length+1:=by have:=(An.1 h1).1;simpa using this
   have kl:i=σ.length:=by have:=h.len;omega
   grind
def Inv.newRow(h:Inv G N γ σ w)(us:Array Value)(e:TypeId)(cs:List V)(hl:cs.length<=us.size)(hc:∀ j,j<cs.length->RepC γ w (cs.getD j .und) (us.getD j undef)):
  Inv G N ⟨J5 γ.κ w.heap.size 0,γ.O++[(w.heap.size,0)]⟩ (σ++[.row cs e 0 0]) (w.alloc (.cells us e))/\Ext γ w ⟨J5 γ.κ w.heap.size 0,γ.O++[(w.heap.size,0)]⟩ (w.alloc (.cells us e)):=
 h.newOb _ _ _ (fun b hb=>N1 _ _ AA) (Acz (fun b k hk=>by have:=h.dom b k hk;omega) AA) fun hx=>
  ⟨rfl,Vx _ _ _,As _,us,0,0,heap_alloc_new w _,⟨Am _,.inl (Am _)⟩,hl,fun j hj=>(hc j hj).ext hx⟩
def Inv.newMap(h:Inv G N γ σ w):
  Inv G N ⟨γ.κ,γ.O++[(w.heap.size,0)]⟩ (σ++[.map []]) (w.alloc (.map #[] 0))/\Ext γ w ⟨γ.κ,γ.O++[(w.heap.size,0)]⟩ (w.alloc (.map #[] 0)):=
 h.newOb _ _ _ (fun _ _=>rfl) (fun b k hk=>by have:=h.dom b k hk;omega) fun _=>
  ⟨rfl,by
   show γ.κ w.heap.size=none
   cases hk:γ.κ w.heap.size with
   | none=>rfl
   | some k=>have:=h.dom _ _ hk;omega,#[],heap_alloc_new w _,rfl,fun i k v hi=>by grind⟩
def Inv.turn(h:Inv G N γ σ w){i:Nat}{p p':Nat × Nat}{ob':Ob}{κ':E1}(hp:γ.O[i]?=some p)(qD:w.heap.size<=w'.heap.size)(qq:∀ b,b<w.heap.size->b≠p.1->w'.heap[b]?=w.heap[b]?)
  (hk:∀ b,b<w.heap.size->b≠p.1->κ' b=γ.κ b) (hd:∀ b k,κ' b=some k->b<w'.heap.size)
  (jY:∀ z,γ.κ p.1=some z->∃ z',κ' p.1=some z'/\z<=z'/\∀ o,o<z->w'.cell? ⟨p.1,o,none⟩=w.cell? ⟨p.1,o,none⟩)
  (jJ:p.2<=p'.2) (qG:p'.2=p.2->p'.1=p.1/\Ep w' p.1=Ep w p.1) (qB:p'.1=p.1\/w.heap.size<=p'.1)
  (qz:Ext γ w ⟨κ',γ.O.set i p'⟩ w'->ObOk ⟨κ',γ.O.set i p'⟩ w' ob' p') :
  Inv G N ⟨κ',γ.O.set i p'⟩ (σ.set i ob') w'/\Ext γ w ⟨κ',γ.O.set i p'⟩ w':=by
 have jL:=(An.1 hp).1
 have hx:Ext γ w ⟨κ',γ.O.set i p'⟩ w':={
  kap:=fun b k qi=>by
   by_cases hb:b=p.1
   .grind
   .exact⟨k,(hk b (h.dom b k qi) hb).trans qi,Am _⟩
  cell:=fun b k o qi ho=>by
   by_cases hb:b=p.1
   .grind
   .exact Ack (qq b (h.dom b k qi) hb) o
  obj:=fun j blk g hj=>by
   by_cases qn:i=j
   .grind
   .exact⟨blk,g,by grind,Am _,fun _=>⟨rfl,Vw (qq blk (h.oblt hj) (fun e=>h.ne hp hj qn e.symm))⟩⟩ }
 refine⟨⟨Dd h.base qD,by simp[h.len],?_,fun j q hq=>?_,fun j ob q h1 h2=>?_,hd,fun g r hg=>(h.glob g r hg).ext hx,fun g r hg=>⟨(h.gsz g r hg).1,(Vw (qq g (by have:=(h.gsz g r hg).1;have:=h.base;omega) (by have:=(h.gsz g r hg).1;have:=h.low i p hp;omega))).trans (h.gsz g r hg).2⟩⟩,hx⟩
 .show((γ.O.set i p').map (·.1)).Nodup;rw[Ahc];rcases qB with e | jq
  .rw[e]
   have:(γ.O.map (·.1)).set i p.1=γ.O.map (·.1):=by
    apply Tf;intro j;by_cases qn:i=j
    .grind
    .grind
   rw[this];exact h.nd
  .refine Xw.2 fun a b ha hb kf=>?_
   have jU:=Xw.1 h.nd
   have qg:∀ (j:Nat) (hj:j<(γ.O.map (·.1)).length),(γ.O.map (·.1))[j]≠p'.1:=fun j hj=>by
    have jM:j<γ.O.length:=by simpa using hj
    have:=h.oblt (i:=j) (p:=γ.O[j]) (Cb jM)
    grind
   grind
 .have qC:(γ.O.set i p')[j]?=some q:=hq;by_cases qn:i=j
  .subst qn;rw[Cf jL]at qC;injection qC with qC;subst qC;rcases qB with e | jq
   .rw[e];exact h.low i p hp
   .exact Dd h.base jq
  .rw[B4 qn]at qC;exact h.low j q qC
 .have qr:(γ.O.set i p')[j]?=some q:=h2;by_cases qn:i=j
  .grind
  .rw[B4 qn]at h1 qr;have qX:q.1≠p.1:=fun e=>h.ne hp qr qn e.symm
   exact(h.obj j ob q h1 qr).keep hx (hk _ (h.oblt qr) qX) (qq _ (h.oblt qr) qX)
theorem N3{α:Type}{l:List α}{i:Nat}{x:α}(h:l[i]?=some x):l.set i x=l:=by
 apply Tf
 grind
def A0k(w:World)(b:Nat){us us':Array Value}{e:TypeId}{fr:Nat × Nat}(hh:w.heap[b]?=some (.cells us e fr)){o:Nat}(ho:us'[o]?=us[o]?):(w.setRow b us').cell? ⟨b,o,none⟩=w.cell? ⟨b,o,none⟩:=by
 have qB:=setRow_heap w b us us' e _ hh
 grind[World.cell?]
theorem Ahh(w:World)(b:Nat){us us':Array Value}{e:TypeId}{fr:Nat × Nat}(hh:w.heap[b]?=some (.cells us e fr))(hs:us'.size=us.size):Ep (w.setRow b us') b=Ep w b:=by
 have qB:=setRow_heap w b us us' e _ hh
 grind[Ep]
def Inv.write(h:Inv G N γ σ w){i:Nat}{p:Nat × Nat}{cs cs':List V}{e g g' z lo hi:Nat}{us us':Array Value}(hp:γ.O[i]?=some p)(ho:σ[i]?=some (.row cs e g z))(hh:w.heap[p.1]?=some (.cells us e (lo,hi)))(kj:lo<=hi/\(hi<=z\/us.size<=lo))(hg:g<=g')(hz:z<=cs'.length)
  (qD:us'.size=us.size) (hl:cs'.length<=us.size) (qG:∀ o,o<z->us'[o]?=us[o]?) (hc:∀ j,j<cs'.length->RepC γ w (cs'.getD j .und) (us'.getD j undef)) :
  Inv G N ⟨γ.κ,γ.O.set i (p.1,g')⟩ (σ.set i (.row cs' e g' z)) (w.setRow p.1 us')/\Ext γ w ⟨γ.κ,γ.O.set i (p.1,g')⟩ (w.setRow p.1 us'):=by
 obtain⟨q,hq,h1,h2,h3,_⟩:=h.of ho;rw[hp]at hq;injection hq with hq;subst hq;have qH:(w.setRow p.1 us').heap.size=w.heap.size:=by simp[World.setRow]
 refine h.turn (p':=(p.1,g')) hp AA (fun b _ hb=>setRow_other w p.1 b us' hb) (fun _ _ _=>rfl) (fun b k hk=>by rw[qH];exact h.dom b k hk) (fun z' qI=>?_) AA (fun _=>⟨rfl,Ahh w p.1 hh qD⟩) (.inl rfl) fun hx=>?_
 .rw[h2]at qI;injection qI with qI;subst qI;exact⟨z,h2,Am _,fun o ho=>A0k w p.1 hh (qG o ho)⟩
 .exact⟨rfl,h2,hz,us',lo,hi,setRow_heap w p.1 us us' e _ hh,by omega,by omega,fun j hj=>(hc j hj).ext hx⟩
def Inv.moved(h:Inv G N γ σ w){i:Nat}{p:Nat × Nat}{cs cs':List V}{e g z:Nat}{us':Array Value}(hp:γ.O[i]?=some p)(ho:σ[i]?=some (.row cs e g z))(hz:z<=cs'.length)
  (hl:cs'.length<=us'.size) (hc:∀ j,j<cs'.length->RepC γ w (cs'.getD j .und) (us'.getD j undef)) :
  Inv G N ⟨J5 γ.κ w.heap.size z,γ.O.set i (w.heap.size,g+1)⟩ (σ.set i (.row cs' e (g+1) z)) (w.alloc (.cells us' e))/\Ext γ w ⟨J5 γ.κ w.heap.size z,γ.O.set i (w.heap.size,g+1)⟩ (w.alloc (.cells us' e)):=by
 obtain⟨q,hq,h1,h2,h3,_⟩:=h.of ho;rw[hp]at hq;injection hq with hq;subst hq;have qX:∀ b,b<w.heap.size->b≠w.heap.size:=fun b hb=>by omega
 refine h.turn (p':=(w.heap.size,g+1)) hp AE (fun b hb _=>Below.heap_alloc _ _ _ hb) (fun b hb _=>N1 _ _ (qX b hb)) (Acz (fun b k hk=>by have:=h.dom b k hk;simp;omega) AE) (fun z' qI=>?_) AA (fun e=>by omega) (.inr (Am _)) fun hx=>?_
 .exact⟨z',(N1 _ _ (qX _ (h.oblt hp))).trans qI,Am _,fun o _=>Ack (Below.heap_alloc _ _ _ (h.oblt hp)) o⟩
 .exact⟨rfl,Vx _ _ _,hz,us',0,0,heap_alloc_new w _,⟨Am _,.inl (As _)⟩,hl,fun j hj=>(hc j hj).ext hx⟩
def Inv.shut1(h:Inv G N γ σ w){i:Nat}{p:Nat × Nat}{cs:List V}{e g z z':Nat}(hp:γ.O[i]?=some p)(ho:σ[i]?=some (.row cs e g z))(hz:z<=z')(qI:z'<=cs.length):
  Inv G N ⟨J5 γ.κ p.1 z',γ.O⟩ (σ.set i (.row cs e g z')) w/\Ext γ w ⟨J5 γ.κ p.1 z',γ.O⟩ w:=by
 obtain⟨q,hq,h1,h2,h3,us,lo,hi,h4,h5,h6,h7⟩:=h.of ho;rw[hp]at hq;injection hq with hq;subst hq
 have:=h.turn (w':=w) (p':=p) (ob':=.row cs e g z') (κ':=J5 γ.κ p.1 z') hp (Am _) (fun _ _ _=>rfl) (fun b _ hb=>N1 _ _ hb) (Acz h.dom (h.oblt hp)) (fun z1 jc=>by
  rw[h2]at jc;injection jc with jc;subst jc
  exact⟨z',Vx _ _ _,hz,fun _ _=>rfl⟩) (Am _) (fun _=>⟨rfl,rfl⟩) (.inl rfl) (fun hx=>⟨h1,Vx _ _ _,qI,us,lo,hi,h4,⟨h5.1,h5.2.imp (fun h=>Dd h hz) id⟩,h6,fun j hj=>(h7 j hj).ext hx⟩)
 grind[N3]
def Inv.turnMap(h:Inv G N γ σ w){i:Nat}{p:Nat × Nat}{kvs kvs':List (List UInt8 × V)}{es':Array MapEntry}(hp:γ.O[i]?=some p)(ho:σ[i]?=some (.map kvs))
  (hw:w'.heap.size=w.heap.size) (qq:∀ b,b≠p.1->w'.heap[b]?=w.heap[b]?) (hh:w'.heap[p.1]?=some (.map es' kvs'.length)) (hs:es'.size=kvs'.length)
  (hc:∀ (j:Nat) (k:List UInt8) (v:V),kvs'[j]?=some (k,v)->∃ en:MapEntry,es'[j]?=some en/\en.key=.string ⟨k.toArray⟩/\k.length<=maxLen/\en.born=j/\v.flatB=true/\RepC γ w v en.val) :
  Inv G N γ (σ.set i (.map kvs')) w'/\Ext γ w γ w':=by
 obtain⟨q,hq,h1,h2,es,h3,_⟩:=h.of ho;rw[hp]at hq;injection hq with hq;subst hq;have jZ:Ep w' p.1=Ep w p.1:=by simp[Ep,hh,h3]
 have:=h.turn (w':=w') (p':=p) (ob':=.map kvs') (κ':=γ.κ) hp AA (fun b _ hb=>qq b hb) (fun _ _ _=>rfl) (fun b k hk=>by rw[hw];exact h.dom b k hk) (fun z hz=>by grind) (Am _) (fun _=>⟨rfl,jZ⟩) (.inl rfl) (fun hx=>⟨h1,h2,es',hh,hs,fun j k v hj=>by
  obtain⟨en,a1,a2,a3,a4,a5,a6⟩:=hc j k v hj
  exact⟨en,a1,a2,a3,a4,a5,a6.ext hx⟩⟩)
 simp_all [N3]
open Go Go.RowKit
section
variable {γ:Gh} {w:World} {u:Value}
def Ey{k:IntKind}{n:Int}(h:RepC γ w (.int k n) u):u=.int k n:=by cases h with | row h=>cases h;rfl
def Pb{b:Bool}(h:RepC γ w (.bool b) u):u=.bool b:=by cases h with | row h=>cases h;rfl
def G7{l:List UInt8}(h:RepC γ w (.str l) u):u=.string ⟨l.toArray⟩/\l.length<=maxLen:=by cases h with | row h=>cases h with | str h=>grind
def Acl(h:RepC γ w .nili u):u=.nilIface:=by cases h with | row h=>cases h;rfl
def Me(h:RepC γ w .nils u):u=.slice none 0 0:=by cases h with | row h=>cases h;rfl
def To(h:RepC γ w .nilp u):u=.pointer none:=by cases h with
 | row h=>cases h
 | nilp=>rfl
def Acm(h:RepC γ w .nilf u):u=.nilFunc:=by cases h with
 | row h=>cases h
 | nilf=>rfl
def Aij(h:RepC γ w .ifc u):∃ t x,u=.iface t x:=by cases h with
 | row h=>cases h;grind
 | ifc=>grind
def Ai9{f:Nat}{a c:List V}(h:RepC γ w (.fn f a c) u):∃ ua uc:List Value,u=.func (.func f) ua.toArray uc.toArray/\a.length=ua.length/\c.length=uc.length/\(∀ j,j<a.length->RepC γ w (a.getD j .und) (ua.getD j undef))/\∀ j,j<c.length->RepC γ w (c.getD j .und) (uc.getD j undef):=by cases h with
 | row h=>cases h
 | fn h1 h2 h3 h4=>grind
theorem Pd{i g off:Nat}(h:RepC γ w (.ptr i g off) u):∃ b' blk g',u=.pointer (some ⟨b',off,none⟩)/\γ.O[i]?=some (blk,g')/\g<=g'/\(g=g'->b'=blk):=by cases h with
 | row h=>cases h
 | ptr h1 h2 h3=>grind
def We{i g off len m:Nat}{own:Bool}(h:RepC γ w (.sl i g off len m own) u):∃ b' o' cap blk g',u=.slice (some ⟨b',o',none⟩) len cap/\γ.O[i]?=some (blk,g')/\g<=g'/\len<=cap/\cap<=maxLen/\(0<cap->o'=off)/\(g=g'->b'=blk/\(own=true->Ep w blk=some (off+cap*m))):=by cases h with
 | row h=>cases h
 | sl h1 h2 h3 h4 h5 h6=>grind
def Atd{i:Nat}(h:RepC γ w (.mp i) u):∃ blk g',γ.O[i]?=some (blk,g')/\(g'=0->u=.map (some blk)):=by cases h with
 | row h=>cases h
 | mp h1 h2 h3=>grind
def A40{κ:E1}{t:Nat}{xs:List (List V)}(h:RepR κ w (.lst t xs) u):RepR κ w (.lst 0 xs) u:=by
 cases h with
 | lst row h1 h2 h3 h4 h5 h6 h7=>exact .lst row (fun h=>by omega) h2 h3 h4 h5 h6 h7
def Tw{t:Nat}{xs:List (List V)}(h:RepC γ w (.lst t xs) u):∃ a cap,u=.slice (some a) xs.length cap/\RepR γ.κ w (.lst 0 xs) (.slice (some a) xs.length cap)/\(t=1->cap=xs.length):=by
 cases h with
 | row h=>
  have h':=A40 h
  cases h with
  | lst row h1 h2 h3 h4 h5 h6 h7=>grind
theorem Mz{r:List V}{off:Nat}{u:Value}(h:RepC γ w (.imm r off) u):∃ b o k,∃ row:Nat->Value,u=.pointer (some ⟨b,o+off,none⟩)/\γ.κ b=some k/\o+r.length<=k/\(∀ j,j<r.length->w.cell? ⟨b,o+j,none⟩=some (row j))/\∀ j,j<r.length->RepR γ.κ w (r.getD j .und) (row j):=by
 cases h with
 | row h=>cases h
 | imm row h1 h2 h3 h4=>exact⟨_,_,_,row,rfl,h1,h2,h3,h4⟩
def Rn{v:V}(h:RepC γ w v u):v.cellB=true/\u.oneCell'=true:=by
 cases h with
 | row h=>cases h<;>exact⟨rfl,rfl⟩
 | imm=>exact⟨rfl,rfl⟩
 | ptr=>exact⟨rfl,rfl⟩
 | sl=>exact⟨rfl,rfl⟩
 | nilp=>exact⟨rfl,rfl⟩
 | nilf=>exact⟨rfl,rfl⟩
 | ifc=>exact⟨rfl,rfl⟩
 | fn=>exact⟨rfl,rfl⟩
 | mp _ h=>exact⟨rfl,h⟩
theorem H0{v:V}(hv:v.cellB=true)(h:Rep1 γ w v u):RepC γ w v u:=by
 cases h with
 | cell h=>exact h
 | agg=>cases hv
def Bf{v:V}(hv:v.cellB=true)(h:RepV γ w v u):RepC γ w v u:=by
 cases h with
 | und=>cases hv
 | skp=>cases hv
 | one h=>grind[H0]
 | tup=>cases hv
theorem Df{v:V}(h:RepC γ w v u):RepV γ w v u:=.one (.cell h)
def A41{cs:List V}(h:Rep1 γ w (.agg cs) u):∃ us:List Value,u=.agg us.toArray/\cs.length=us.length/\∀ j,j<cs.length->RepC γ w (cs.getD j .und) (us.getD j undef):=by
 cases h with
 | cell h=>exact absurd (Rn h).1 (by simp[V.cellB])
 | agg h1 h2=>grind
def Rq{cs:List V}(h:RepV γ w (.agg cs) u):∃ us:List Value,u=.agg us.toArray/\cs.length=us.length/\∀ j,j<cs.length->RepC γ w (cs.getD j .und) (us.getD j undef):=by
 cases h with
 | one h=>exact A41 h
def Aqk{vs:List V}(h:RepV γ w (.tup vs) u):∃ us:List Value,u=.tuple us.toArray/\vs.length=us.length/\∀ j,j<vs.length->Rep1 γ w (vs.getD j .und) (us.getD j undef):=by
 cases h with
 | one h=>cases h with
  | cell h=>exact absurd (Rn h).1 (by simp[V.cellB])
 | tup h1 h2=>grind
def Ahw{v:V}(h:RepV γ w v u)(hc:v.cells.all V.cellB=true):∃ us:List Value,u.cells=us.toArray/\v.cells.length=us.length/\∀ j,j<v.cells.length->RepC γ w (v.cells.getD j .und) (us.getD j undef):=by
 by_cases hv:∃ cs,v=.agg cs
 .obtain⟨cs,rfl⟩:=hv;obtain⟨us,rfl,h1,h2⟩:=Rq h;exact⟨us,rfl,h1,h2⟩
 .have e:v.cells=[v]:=by
   cases v<;>first | rfl | grind
  rw[e]at hc ⊢;have qu:v.cellB=true:=by simpa using hc
  have h':=Bf qu h
  have hu:u.cells=#[u]:=by
   have:=(Rn h').2
   cases u<;>first | rfl | grind[Value.oneCell']
  grind
end
/-! Constants -/
def Oi:V->Value->Bool
 | .bool a,.bool b=>a==b
 | .int k a,.int k' b=>decide (k=k')&&a==b
 | .str l,.string s=>s.data.toList==l&&decide (l.length<=maxLen)
 | .nili,.nilIface=>true
 | .nils,.slice none 0 0=>true
 | .nilp,.pointer none=>true
 | .nilf,.nilFunc=>true
 | _,_=>false
def Iv:List V->List Value->Bool
 | [],[]=>true
 | v::vs,u::us=>Oi v u&&Iv vs us
 | _,_=>false
def Akc:V->Value->Bool
 | .agg cs,.agg us=>Iv cs us.toList
 | v,u=>Oi v u
theorem Acc{γ:Gh}{w:World}{v:V}{u:Value}(h:Oi v u=true):RepC γ w v u:=by
 unfold Oi at h
 split at h
 .obtain rfl:=eq_of_beq h;exact .row .bool
 .simp only[Al,decide_eq_true_eq,beq_iff_eq]at h;obtain⟨rfl,rfl⟩:=h;exact .row .int
 .simp only[Al,decide_eq_true_eq,beq_iff_eq]at h;obtain⟨rfl,hl⟩:=h;exact .row (.str hl)
 .exact .row .nili
 .exact .row .nils
 .exact .nilp
 .exact .nilf
 grind
def Ti{γ:Gh}{w:World}:∀ {vs:List V} {us:List Value},Iv vs us=true->vs.length=us.length/\∀ j,j<vs.length->RepC γ w (vs.getD j .und) (us.getD j undef)
 | [],[],_=>⟨rfl,fun j hj=>absurd hj AE⟩
 | v::vs,u::us,h=>by
  simp only[Iv,Al]at h;obtain⟨h1,h2⟩:=Ti (γ:=γ) (w:=w) h.2
  grind[Acc]
def A04{γ:Gh}{w:World}{v:V}{u:Value}(h:Akc v u=true):RepV γ w v u:=by
 unfold Akc at h
 split at h
 .rename_i cs us;obtain⟨h1,h2⟩:=Ti (γ:=γ) (w:=w) h;have:=Rep1.agg (us:=us.toList) h1 h2;exact .one AA
 grind[Df,Acc]
def Akd:V->V->Bool
 | .bool a,.bool b=>a==b
 | .int k a,.int k' b=>decide (k=k')&&a==b
 | .str a,.str b=>a==b
 | _,_=>false
def A2e{a b:V}(h:Akd a b=true):a=b:=by
 unfold Akd at h
 grind
def Wo:List V->List V->Bool
 | [],[]=>true
 | a::r,b::s=>Akd a b&&Wo r s
 | _,_=>false
def Ao8:∀ {a b:List V},Wo a b=true->a=b
 | [],[],_=>rfl
 | a::r,b::s,h=>by
  simp only[Wo,Al]at h;rw[A2e h.1,Ao8 h.2]
 | [],b::s,h=>by grind[Wo]
 | a::r,[],h=>by grind[Wo]
def B9(G:List (Nat × List V)):S->Operand->Bool
 | .t n,.tmp m=>n==m
 | .k v,.const c=>Akc v c
 | .k (.imm r 0),.global g=>G.any fun p=>p.1==g&&Wo p.2 r
 | .k (.fn f [] []),.func f'=>f==f'
 | _,_=>false
theorem Y8{G:List (Nat × List V)}{N:Nat}{γ:Gh}{σ:St}{w:World}{e:Env}{a:Act}{s:S}{x:Operand}(h:B9 G s x=true)(hE:RepE γ w e a.tmps)(hI:Inv G N γ σ w):RepV γ w (Ac e s) (a.eval x):=by
 unfold B9 at h
 split at h
 .obtain rfl:=eq_of_beq h;exact hE _
 .exact A04 h
 .simp only[Pa,Al,beq_iff_eq]at h;obtain⟨⟨g,r'⟩,ja,rfl,hr⟩:=h;obtain rfl:=Ao8 hr;exact Df (hI.glob _ _ ja)
 .obtain rfl:=eq_of_beq h;exact Df (RepC.fn (ua:=[]) (uc:=[]) rfl rfl (fun j hj=>absurd hj AE) (fun j hj=>absurd hj AE))
 grind
open Go Go.RowKit
variable {P:Program} {G:List (Nat × List V)} {N:Nat} {γ:Gh} {σ σ1:St} {w:World} {e:Env} {a:Act} {o:Oper} {v:V}
def C3(P:Program)(G:List (Nat × List V))(N:Nat)(γ:Gh)(σ:St)(w:World)(r:Result Next)(v:V)(σ1:St):Prop:=
 ∃ u w1 γ1,(r=.ok (.value u) w1\/(r=.ok .skip w1/\u=undef))/\RepV γ1 w1 v u/\Inv G N γ1 σ1 w1/\Ext γ w γ1 w1/\Below N w w1/\∀ b,b<N->γ1.κ b=γ.κ b
theorem Cp{r:Result Next}{u:Value}(hI:Inv G N γ σ w)(hr:r=.ok (.value u) w)(hv:RepV γ w v u):C3 P G N γ σ w r v σ:=
 ⟨u,w,γ,.inl hr,hv,hI,Ext.refl _ _,Below.refl _ _,fun _ _=>rfl⟩
def A2f(l m:List UInt8):(⟨l.toArray⟩:ByteArray)++⟨m.toArray⟩=⟨(l++m).toArray⟩:=by
 apply WideShapes.bytes_inj;simp
theorem Mj(l:List UInt8):(⟨l.toArray⟩:ByteArray).size=l.length:=by simp[ByteArray.size]
def Bc9{l:List UInt8}(h:l.length<=9223372036854775807):l.length<=maxLen:=by grind[maxLen]
def N7{k:IntKind}{n:Int}:RepV γ w (.int k n) (.int k n):=Df (.row .int)
def Pe{b:Bool}:RepV γ w (.bool b) (.bool b):=Df (.row .bool)
def Ate{l:List UInt8}(h:l.length<=maxLen):RepV γ w (.str l) (.string ⟨l.toArray⟩):=Df (.row (.str h))
def A8q{op:BinOp}{t ty:TypeId}{x y:Operand}{s1 s2:S}(ho:o.op=.binOp op t x y ty)(hx:RepV γ w (Ac e s1) (a.eval x))(hy:RepV γ w (Ac e s2) (a.eval y))(hI:Inv G N γ σ w)
  (h:Aax op (Ac e s1) (Ac e s2)=some v):C3 P G N γ σ w ((execOp a.eval o).run P w) v σ:=by
 unfold Aax at h
 split at h
 .rename_i k m k' n e1 e2;rw[e1]at hx;rw[e2]at hy;have qb:=Ey (Bf rfl hx);have ql:=Ey (Bf rfl hy);clear e1 e2 hx hy
  cases op<;>simp only[Amd]at h<;>first
   | cases h
   | (split at h
      .cases h
      .rename_i hb;cases h
       exact Cp hI (by simp[execOp,ho,qb,ql,eqGuard,binOp,Op.shift,hb];try rfl) N7)
   | (split at h
      .rename_i hk
       first
        | (subst hk
           cases h
           exact Cp hI (by simp[execOp,ho,qb,ql,eqGuard,binOp,Op.intArith,Op.intCmp,Op.intBits];try rfl) (by simp[N7,Pe]))
        | (obtain⟨rfl,hb⟩:=hk
           cases h
           simp_all [Cp,execOp,eqGuard,binOp,Op.intDiv,N7])
      grind)
 .rename_i l m e1 e2;rw[e1]at hx;rw[e2]at hy;obtain⟨qb,kn⟩:=G7 (Bf rfl hx);obtain⟨ql,ko⟩:=G7 (Bf rfl hy);by_cases ha:op=.add
  .subst ha;simp only[Ap]at h;by_cases hl:l.length+m.length<=9223372036854775807
   .rw[if_pos hl]at h;cases h;refine Cp hI ?_ (Ate (Bc9 (by grind)))
    have hm:¬ (((⟨l.toArray⟩:ByteArray).size+(⟨m.toArray⟩:ByteArray).size:Nat):Int) > IntKind.i64.max:=by
     rw[Mj,Mj];show ¬ ((_:Nat):Int) > 9223372036854775807;omega
    simp_all [Op.stringOp,A2f,execOp,eqGuard,binOp]
   grind
  .cases op<;>simp only[Ap]at h<;>first
    | exact absurd rfl ha
    | (cases h;done)
    | (cases h;simp_all [Cp,execOp,eqGuard,binOp,Op.stringOp,Pe])
 grind
def Aql(hI:Inv G N γ σ w){i g off:Nat}(h:Qs σ (.ptr i g off)=true):∃ cs e z blk,σ[i]?=some (.row cs e g z)/\γ.O[i]?=some (blk,g):=by
 unfold Qs at h
 split at h
 .rename_i i' g' qy he;cases he
  split at h
  .rename_i cs e g1 z ho;obtain rfl:=eq_of_beq h;obtain⟨⟨blk,g2⟩,hp,hk⟩:=hI.of ho;obtain rfl:g2=g:=hk.1
   grind
  grind
 .grind
 grind
def Aqm(hI:Inv G N γ σ w){i g off:Nat}{u:Value}(hu:RepC γ w (.ptr i g off) u)(h:Qs σ (.ptr i g off)=true):∃ blk,γ.O[i]?=some (blk,g)/\u=.pointer (some ⟨blk,off,none⟩):=by
 obtain⟨cs,e,z,blk,ho,hp⟩:=Aql hI h;obtain⟨b',qA,g',ka,h1,h2,h3⟩:=Pd hu
 grind
def Aja(hI:Inv G N γ σ w){i g off len m o':Nat}{own:Bool}{u:Value}(hu:RepC γ w (.sl i g off len m own) u)(h:Qs σ (.ptr i g o')=true):∃ blk cap o',γ.O[i]?=some (blk,g)/\u=.slice (some ⟨blk,o',none⟩) len cap/\(0<cap->o'=off)/\(own=true->Ep w blk=some (off+cap*m))/\len<=cap/\cap<=maxLen:=by
 obtain⟨cs,e,z,blk,ho,hp⟩:=Aql hI h;obtain⟨b',o',cap,qA,g',ka,h1,h2,h3,h4,h5,h6⟩:=We hu
 grind
def A42{x y z:Operand}{s1 s2 s3:S}(ho:o.op=.pick x y z)(hx:RepV γ w (Ac e s1) (a.eval x))(hy:RepV γ w (Ac e s2) (a.eval y))(hz:RepV γ w (Ac e s3) (a.eval z))(hI:Inv G N γ σ w)
  (h:Af (.pick s1 s2 s3) e σ=some (v,σ1)):C3 P G N γ σ w ((execOp a.eval o).run P w) v σ1:=by
 simp only[Af]at h
 split at h
 .rename_i b e1;rw[e1]at hx;have qb:=Pb (Bf rfl hx);cases h;refine Cp hI (u:=if b then a.eval y else a.eval z) (by simp_all [execOp,asBool]) ?_
  grind
 grind
def Bda{op:UnOp}{t:TypeId}{x:Operand}{s:S}(ho:o.op=.unOp op t x)(hx:RepV γ w (Ac e s) (a.eval x))(hI:Inv G N γ σ w)
  (h:Af (.un op s) e σ=some (v,σ1)):C3 P G N γ σ w ((execOp a.eval o).run P w) v σ1:=by
 simp only[Af,Ci]at h;obtain⟨v',h,h2⟩:=h;cases h2;unfold unV at h
 split at h
 .rename_i k n e1;rw[e1]at hx;have qb:=Ey (Bf rfl hx);cases h
  simp_all [Cp,execOp,Op.unary,Op.intArith,N7]
 .rename_i b e1;rw[e1]at hx;have qb:=Pb (Bf rfl hx);cases h
  simp_all [Cp,execOp,Op.unary,Pe]
 .rename_i k n e1;rw[e1]at hx;have qb:=Ey (Bf rfl hx);cases h
  simp_all [Cp,execOp,Op.unary,Op.intBits,N7]
 grind
def A8r{k:IntKind}{t1 t2:TypeId}{d1:TypeDesc}{x:Operand}{s:S}(ho:o.op=.convert t1 t2 x)(h1:P.underlying t1=some d1)(h2:P.underlying t2=some (.int k))(hx:RepV γ w (Ac e s) (a.eval x))(hI:Inv G N γ σ w)
  (h:Af (.cvi k s) e σ=some (v,σ1)):C3 P G N γ σ w ((execOp a.eval o).run P w) v σ1:=by
 simp only[Af]at h
 split at h
 .rename_i k' n e1;rw[e1]at hx;have qb:=Ey (Bf rfl hx);cases h
  simp_all [Cp,execOp,convert,run_underlying,Conv.intToInt,N7]
 grind
def A8s{x:Operand}{s:S}(ho:o.op=.nilCheck x)(hx:RepV γ w (Ac e s) (a.eval x))(hI:Inv G N γ σ w)
  (h:Af (.chk s) e σ=some (v,σ1)):C3 P G N γ σ w ((execOp a.eval o).run P w) v σ1:=by
 simp only[Af]at h
 split at h
 .rename_i r off e1;rw[e1]at hx;have qb:=Bf rfl hx;cases h
  cases hu:a.eval x with
  | pointer p=>
   cases p with
   | some p=>simp_all [Cp,execOp]
   | none=>rw[hu]at qb;cases qb with | row h=>cases h
  | _=>rw[hu]at qb;cases qb with | row h=>cases h
 .rename_i b g off e1;rw[e1]at hx;obtain⟨b',_,_,hu,_⟩:=Pd (Bf rfl hx)
  simp_all [Cp,execOp]
 grind
def A8t{t:TypeId}{x y:Operand}{s1 s2:S}(ho:o.op=.index t x y)(ht:P.underlying t=some .string)(hx:RepV γ w (Ac e s1) (a.eval x))(hy:RepV γ w (Ac e s2) (a.eval y))(hI:Inv G N γ σ w)
  (h:Af (.idx s1 s2) e σ=some (v,σ1)):C3 P G N γ σ w ((execOp a.eval o).run P w) v σ1:=by
 simp only[Af]at h
 split at h
 .rename_i l e1;rw[e1]at hx;obtain⟨qb,hl⟩:=G7 (Bf rfl hx);simp only[Ci]at h;obtain⟨c,hc,h⟩:=h;cases h;unfold Js at hc
  split at hc
  .rename_i k n e2;rw[e2]at hy;have ql:=Ey (Bf rfl hy)
   split at hc
   .rename_i hn;have qg:n.toNat<l.length:=(An.1 hc).1
    have hb:(⟨l.toArray⟩:ByteArray)[n.toNat]?=some c:=by
     rw[getElem?_pos (⟨l.toArray⟩:ByteArray) n.toNat (by grind[Mj])];congr 1;exact(An.1 hc).2
    simp_all [Cp,execOp,Instr.index,asIntOf,run_underlying,N7]
   grind
  grind
 grind
def Atf{α:Type}{l:List α}{i:Nat}{x d:α}(h:l[i]?=some x):l.getD i d=x/\i<l.length:=⟨by grind,(An.1 h).1⟩
def A8u{x:Operand}{i:Nat}{s:S}(ho:o.op=.extract x i)(hx:RepV γ w (Ac e s) (a.eval x))(hI:Inv G N γ σ w)
  (h:Af (.ext i s) e σ=some (v,σ1)):C3 P G N γ σ w ((execOp a.eval o).run P w) v σ1:=by
 simp only[Af]at h
 split at h
 .rename_i vs e1;rw[e1]at hx;obtain⟨us,hu,hl,hr⟩:=Aqk hx;simp only[Ci]at h;obtain⟨c,hc,h⟩:=h;cases h;obtain⟨hg,qg⟩:=Atf (d:=V.und) hc;have h1:=hr i qg;rw[hg]at h1
  have qP:us[i]?=some (us.getD i undef):=by
   rw[Fl,Cb AA];rfl
  generalize us.getD i undef=z at h1 qP;exact Cp hI (u:=z) (by simp_all [execOp,Instr.extract]) (.one h1)
 grind
def Bdb{x y:Operand}{s1 s2:S}{ts:Array TypeId}(ho:o.op=.call { callee:=.builtin .max,args:=#[x,y],argTypes:=ts })(hx:RepV γ w (Ac e s1) (a.eval x))(hy:RepV γ w (Ac e s2) (a.eval y))(hI:Inv G N γ σ w)
  (h:Af (.mx s1 s2) e σ=some (v,σ1)):C3 P G N γ σ w ((execOp a.eval o).run P w) v σ1:=by
 simp only[Af]at h
 split at h
 .rename_i k m k' n e1 e2;rw[e1]at hx;rw[e2]at hy;have qb:=Ey (Bf rfl hx);have ql:=Ey (Bf rfl hy)
  split at h
  .rename_i hk;subst hk;cases h
   have hm:(if n > m then n else m)=max m n:=by
    rw[Int.max_def];split<;>split<;>omega
   have hr:(execOp a.eval o).run P w=.ok (.value (.int k (if n > m then n else m))) w:=by simp[execOp,ho,qb,ql,resolve,invoke,builtin,Builtin.max_,Builtin.max2]
   grind[Cp]
  grind
 grind
def Bdc{x y:Operand}{s1 s2:S}{ts:Array TypeId}(ho:o.op=.call { callee:=.builtin .min,args:=#[x,y],argTypes:=ts })(hx:RepV γ w (Ac e s1) (a.eval x))(hy:RepV γ w (Ac e s2) (a.eval y))(hI:Inv G N γ σ w)
  (h:Af (.mn s1 s2) e σ=some (v,σ1)):C3 P G N γ σ w ((execOp a.eval o).run P w) v σ1:=by
 simp only[Af]at h
 split at h
 .rename_i k m k' n e1 e2;rw[e1]at hx;rw[e2]at hy;have qb:=Ey (Bf rfl hx);have ql:=Ey (Bf rfl hy)
  split at h
  .rename_i hk;subst hk;cases h
   have hm:(if n<m then n else m)=min m n:=by
    rw[Int.min_def];split<;>split<;>omega
   have hr:(execOp a.eval o).run P w=.ok (.value (.int k (if n<m then n else m))) w:=by simp[execOp,ho,qb,ql,resolve,invoke,builtin,Builtin.min_,Builtin.min2]
   grind[Cp]
  grind
 grind
def A43{t:TypeId}{x:Operand}{s:S}(ho:o.op=.call { callee:=.builtin .len,args:=#[x],argTypes:=#[t] })(ht:P.underlying t=some .string)(hx:RepV γ w (Ac e s) (a.eval x))(hI:Inv G N γ σ w)
  (h:Af (.lens s) e σ=some (v,σ1)):C3 P G N γ σ w ((execOp a.eval o).run P w) v σ1:=by
 simp only[Af]at h
 split at h
 .rename_i l e1;rw[e1]at hx;obtain⟨qb,hl⟩:=G7 (Bf rfl hx);cases h;exact Cp hI (by simp[execOp,ho,qb,resolve,invoke,builtin,Builtin.len_,run_underlying ht,goInt,Mj]) N7
 grind
def A8v{t el:TypeId}{x:Operand}{s:S}(ho:o.op=.call { callee:=.builtin .len,args:=#[x],argTypes:=#[t] })(ht:P.underlying t=some (.slice el))(hx:RepV γ w (Ac e s) (a.eval x))(hI:Inv G N γ σ w)
  (h:Af (.len s) e σ=some (v,σ1)):C3 P G N γ σ w ((execOp a.eval o).run P w) v σ1:=by
 simp only[Af]at h
 split at h
 .rename_i e1;rw[e1]at hx;have qb:=Me (Bf rfl hx);cases h;exact Cp hI (by simp[execOp,ho,qb,resolve,invoke,builtin,Builtin.len_,run_underlying ht,goInt]) N7
 .rename_i t' xs e1;rw[e1]at hx;obtain⟨ad,cap,qb,_⟩:=Tw (Bf rfl hx);cases h;exact Cp hI (by simp[execOp,ho,qb,resolve,invoke,builtin,Builtin.len_,run_underlying ht,goInt]) N7
 .rename_i i g off len m own e1;rw[e1]at hx;obtain⟨b',o',cap,_,_,qb,_⟩:=We (Bf rfl hx);cases h;exact Cp hI (by simp[execOp,ho,qb,resolve,invoke,builtin,Builtin.len_,run_underlying ht,goInt]) N7
 grind
open Go Go.RowKit
variable {P:Program} {G:List (Nat × List V)} {N:Nat} {γ:Gh} {σ σ1:St} {w:World} {e:Env} {a:Act} {o:Oper} {v:V}
theorem Mg(b o n:Nat):(⟨b,o,none⟩:Addr).add n=⟨b,o+n,none⟩:=by
 grind[Addr.add]
def Atg{r:List V}{off n b o':Nat}(h:RepC γ w (.imm r off) (.pointer (some ⟨b,o',none⟩))):RepC γ w (.imm r (off+n)) (.pointer (some ⟨b,o'+n,none⟩)):=by
 obtain⟨b2,o2,k,row,hu,h1,h2,h3,h4⟩:=Mz h;simp at hu;obtain⟨rfl,rfl⟩:=hu;rw[Aby];exact .imm row h1 h2 h3 h4
def Aqn{r:List V}{off:Nat}{u:Value}(hv:RepC γ w (.imm r off) u):∃ b o,u=.pointer (some ⟨b,o,none⟩):=by
 grind[Mz]
def Ath{i g blk off:Nat}(h:γ.O[i]?=some (blk,g)):RepC γ w (.ptr i g off) (.pointer (some ⟨blk,off,none⟩)):=.ptr h (Am _) (fun _=>rfl)
theorem Ati{i g off n b':Nat}(h:RepC γ w (.ptr i g off) (.pointer (some ⟨b',off,none⟩))):RepC γ w (.ptr i g (off+n)) (.pointer (some ⟨b',off+n,none⟩)):=by
 obtain⟨b2,blk,g',hu,h1,h2,h3⟩:=Pd h;simp at hu;subst hu;exact .ptr h1 h2 h3
def A8w{t:TypeId}{fs:Array Field}{f:Field}{fi:TypeInfo}{i off:Nat}{x:Operand}{s:S}(ho:o.op=.fieldAddr t x i)(ht:P.underlying t=some (.struct fs))(hf:fs[i]?=some f)(jj:f.offset=off)(qc:P.info? f.type=some fi)(qD:fi.size≠0)
  (hx:RepV γ w (Ac e s) (a.eval x)) (hI:Inv G N γ σ w) (h:Af (.fad off s) e σ=some (v,σ1)):C3 P G N γ σ w ((execOp a.eval o).run P w) v σ1:=by
 have run:∀ b p,a.eval x=.pointer (some ⟨b,p,none⟩)->(execOp a.eval o).run P w=.ok (.value (.pointer (some ⟨b,p+off,none⟩))) w:=fun b p hu=>by
  simp[execOp,ho,hu,Instr.fieldAt,run_underlying ht,hf,Instr.sureAddr,fieldPlace,sizeOf,typeInfo,qc,qD,jj,Mg]
 simp only[Af]at h
 split at h
 .rename_i r qy e1;rw[e1]at hx;have qb:=Bf rfl hx;obtain⟨b,p,hu⟩:=Aqn qb;cases h;rw[hu]at qb;exact Cp hI (run b p hu) (Df (Atg qb))
 .rename_i b g qy e1;rw[e1]at hx;have qb:=Bf rfl hx;obtain⟨b',_,_,hu,_⟩:=Pd qb;cases h;rw[hu]at qb;exact Cp hI (run b' qy hu) (Df (Ati qb))
 grind
def A8x{t el:TypeId}{fi:TypeInfo}{len m:Nat}{x y:Operand}{s1 s2:S}(ho:o.op=.indexAddr t x y)(ht:P.underlying t=some (.array len el))(qc:P.info? el=some fi)(hm:fi.size=m)
  (hx:RepV γ w (Ac e s1) (a.eval x)) (hy:RepV γ w (Ac e s2) (a.eval y)) (hI:Inv G N γ σ w) (h:Af (.iar len m s1 s2) e σ=some (v,σ1)):C3 P G N γ σ w ((execOp a.eval o).run P w) v σ1:=by
 simp only[Af]at h
 split at h
 .rename_i k n e2;rw[e2]at hy;have ql:=Ey (Bf rfl hy)
  split at h
  .rename_i hn
   have run:∀ b p,a.eval x=.pointer (some ⟨b,p,none⟩)->(execOp a.eval o).run P w=.ok (.value (.pointer (some ⟨b,p+n.toNat*m,none⟩))) w:=fun b p hu=>by
    simp[execOp,ho,hu,ql,Instr.indexAt,asIntOf,run_underlying ht,Instr.sureAddr,hn,sizeOf,typeInfo,qc,hm,Mg]
   split at h
   .rename_i r qy e1;rw[e1]at hx;have qb:=Bf rfl hx;obtain⟨b,p,hu⟩:=Aqn qb;cases h;rw[hu]at qb;exact Cp hI (run b p hu) (Df (Atg qb))
   .rename_i b g qy e1;rw[e1]at hx;have qb:=Bf rfl hx
    grind[Pd,Cp,Df,Ati]
   grind
  grind
 grind
def A8y{t el:TypeId}{fi:TypeInfo}{m:Nat}{x y:Operand}{s1 s2:S}(ho:o.op=.indexAddr t x y)(ht:P.underlying t=some (.slice el))(qc:P.info? el=some fi)(hm:fi.size=m)
  (hx:RepV γ w (Ac e s1) (a.eval x)) (hy:RepV γ w (Ac e s2) (a.eval y)) (hI:Inv G N γ σ w) (h:Af (.iad m s1 s2) e σ=some (v,σ1)):C3 P G N γ σ w ((execOp a.eval o).run P w) v σ1:=by
 simp only[Af]at h
 split at h
 .rename_i t' xs e1;rw[e1]at hx;obtain⟨ad,cap,hu,hR,_⟩:=Tw (Bf rfl hx);simp only[E3]at h;obtain⟨r,hr,h⟩:=h
  split at h
  .rename_i jv;cases h;unfold Js at hr
   split at hr
   .rename_i k n e2;rw[e2]at hy;have ql:=Ey (Bf rfl hy)
    split at hr
    .rename_i hn;obtain⟨hg,qg⟩:=Atf (d:=[]) hr
     cases hR with
     | @lst _ _ _ _ m' row h1 h2 h3 h4 h5 h6 h7=>
     obtain⟨qY,k',hk,qf⟩:=h4 (Nat.zero_lt_of_lt qg);have qV:m'=m:=by rw[<-h5 n.toNat qg,hg,jv]
     subst qV;have ji:n<(xs.length:Int):=(Int.toNat_lt hn).1 qg;have jR:n.toNat*m'+m'<=xs.length*m':=by rw[<-G6];exact E4 _ qg
     have qQ:ad.add (n.toNat*m')=⟨ad.block,ad.off+n.toNat*m',none⟩:=by
      obtain⟨b,of,sp⟩:=ad;simp at qY;subst qY;exact Mg _ _ _
     refine Cp hI (u:=.pointer (some ⟨ad.block,ad.off+n.toNat*m'+0,none⟩)) ?_ (Df (.imm (fun j=>row n.toNat j) hk AA (fun j hj=>h6 n.toNat j qg AA) (fun j hj=>?_)))
     .simp[execOp,ho,hu,ql,Instr.indexAt,asIntOf,run_underlying ht,hn,ji,sizeOf,typeInfo,qc,hm,qQ]
     grind
    grind
   grind
  grind
 .rename_i j g off len m' own e1;rw[e1]at hx
  split at h
  .rename_i k n e2;rw[e2]at hy;have ql:=Ey (Bf rfl hy)
   split at h
   .rename_i hc;obtain⟨hn,ji,rfl⟩:=hc;obtain⟨b',o',cap,blk,g',hu,hb,qf,qT,_,qR,hl⟩:=We (Bf rfl hx);obtain rfl:=qR AA;cases h;refine Cp hI (u:=.pointer (some ⟨b',o'+n.toNat*m,none⟩)) ?_ (Df (.ptr hb qf (fun e=>(hl e).1)));simp[execOp,ho,hu,ql,Instr.indexAt,asIntOf,run_underlying ht,hn,ji,sizeOf,typeInfo,qc,hm,Mg]
   grind
  grind
 grind
def Aqo{n:Nat}{one:Bool}{p:V}{u:Value}(hI:Inv G N γ σ w)(hp:RepV γ w p u)(h:H3 σ n one p=some v):
  ∃ b o cs,∃ f:Nat->Value,u=.pointer (some ⟨b,o,none⟩)/\Ht one cs=some v/\cs.length=n/\(∀ j,j<n->w.cell? ⟨b,o+j,none⟩=some (f j))/\∀ j,j<n->RepC γ w (cs.getD j .und) (f j):=by
 unfold H3 at h
 split at h
 .rename_i r off;obtain⟨b,o',k,row,hu,h1,h2,h3,h4⟩:=Mz (Bf rfl hp)
  split at h
  .rename_i qf;refine⟨b,o'+off,(r.drop off).take n,fun j=>row (off+j),hu,h,by grind,fun j hj=>?_,fun j hj=>?_⟩
   .grind
   .have:=h4 (off+j) AA
    have e2:((r.drop off).take n).getD j V.und=r.getD (off+j) .und:=by
     simp only[Fl,Vh,List.getElem?_drop,hj,if_true]
    rw[e2];exact .row this
  grind
 .rename_i i g off
  split at h
  .rename_i cs e0 g' z qM
   split at h
   .rename_i qf;obtain⟨rfl,qf⟩:=qf;obtain⟨blk,hb,hu⟩:=Aqm hI (Bf rfl hp) (by grind[Qs]);obtain⟨_,_,_,us,lo,hi,g1,_,g2,g3⟩:=hI.obj i _ _ qM hb;refine⟨blk,off,(cs.drop off).take n,fun j=>us.getD (off+j) undef,hu,h,by grind,fun j hj=>?_,fun j hj=>?_⟩
    .have qg:off+j<us.size:=by omega
     simp_all [World.cell?]
    grind
   grind
  grind
 grind
def Ahx{n:Nat}{one:Bool}{cs:List V}{f:Nat->Value}(h:Ht one cs=some v)(hl:cs.length=n)(hr:∀ j,j<n->RepC γ w (cs.getD j .und) (f j)):
  (one=true->n=1/\RepC γ w v (f 0))/\(one=false->Rep1 γ w v (.agg ((List.range n).map f).toArray)):=by
 unfold Ht at h;constructor
 .grind
 .rintro rfl;rw[if_neg AE]at h;cases h;refine .agg (by simp[hl]) (fun j hj=>?_)
  grind
def Ox:TypeDesc->Bool
 | .struct _ | .array _ _=>true
 | _=>false
def Ahy{t:TypeId}{d:TypeDesc}(h:P.underlying t=some d):(isAgg t).run P w=.ok (Ox d) w:=by
 simp only[isAgg,Sem.run_bind,run_underlying h,Result.andThen_ok]
 cases d<;>rfl
def Anx{t:TypeId}{d:TypeDesc}{fi:TypeInfo}{n:Nat}{one:Bool}{b p:Nat}{f:Nat->Value}(ht:P.underlying t=some d)(hd:Ox d=!one)(qc:P.info? t=some fi)(hn:fi.size=n)(jT:one=true->n=1)
  (hc:∀ j,j<n->w.cell? ⟨b,p+j,none⟩=some (f j)):(loadVar t ⟨b,p,none⟩).run P w=.ok (if one then f 0 else .agg ((List.range n).map f).toArray) w:=by
 have jC:=Ahy (P:=P) (w:=w) ht;rw[hd]at jC
 cases one with
 | true=>
  have h0:=hc 0 (by grind)
  simp_all [loadVar]
 | false=>
  simp_all [run_loadCells,Mg,loadVar,sizeOf,typeInfo]
def A44{t:TypeId}{d:TypeDesc}{fi:TypeInfo}{n:Nat}{one:Bool}{x:Operand}{s:S}(ho:o.op=.load t x)(ht:P.underlying t=some d)(hd:Ox d=!one)(qc:P.info? t=some fi)(hn:fi.size=n)
  (hx:RepV γ w (Ac e s) (a.eval x)) (hI:Inv G N γ σ w) (h:Af (.load n one s) e σ=some (v,σ1)):C3 P G N γ σ w ((execOp a.eval o).run P w) v σ1:=by
 simp only[Af,Ci]at h;obtain⟨v',h,h2⟩:=h;cases h2;obtain⟨b,p,cs,f,hu,h1,h2,h3,h4⟩:=Aqo hI hx h;obtain⟨m1,m2⟩:=Ahx h1 h2 h4;have hr:=Anx (P:=P) (w:=w) ht hd qc hn (fun h=>(m1 h).1) h3;refine Cp hI (u:=if one then f 0 else .agg ((List.range n).map f).toArray) (by simp_all [execOp,Instr.loadAt,Instr.sureAddr]) ?_
 cases one with
 | true=>exact Df (m1 rfl).2
 | false=>exact .one (m2 rfl)
def okc{us:List Value}{cs:List V}(hl:cs.length=us.length)(h:∀ j,j<cs.length->RepC γ w (cs.getD j .und) (us.getD j undef)):∀ u∈us,u.oneCell'=true:=by
 intro u hu;obtain⟨j,hj,rfl⟩:=Mu hu;have:=(Rn (h j AA)).2
 grind
def Ao9{cs r cs':List V}{off:Nat}{us ur:List Value}(hp:Pp cs off r=some cs')(hl:us.length=cs.length)(ju:r.length=ur.length)
  (h1:∀ j,j<cs.length->RepC γ w (cs.getD j .und) (us.getD j undef)) (h2:∀ j,j<r.length->RepC γ w (r.getD j .und) (ur.getD j undef)) :
  off+r.length<=cs.length/\cs'.length=cs.length/\(us.take off++ur++us.drop (off+ur.length)).length=cs'.length/\∀ j,j<cs'.length->RepC γ w (cs'.getD j .und) ((us.take off++ur++us.drop (off+ur.length)).getD j undef):=by
 unfold Pp at hp
 grind
def Abn(P:Program)(g o:Nat)(t:TypeId)(fz:Nat × Nat):∀ (vs:List Value) (i:Nat) (qk:Array Value) (w:World),w.heap[g]?=some (.cells qk t fz)->(fz.2<=o+i\/qk.size<=fz.1)->o+i+vs.length<=qk.size->(∀ v∈vs,v.oneCell'=true) ->
  (storeCells ⟨g,o,none⟩ vs i).run P w=.ok () (w.setRow g (qk.toList.take (o+i)++vs++qk.toList.drop (o+i+vs.length)).toArray)
 | [],i,qk,w,hg,_,_,_=>by
  simp only[storeCells,Bz,Dn,Mx,Hy,Array.toArray_toList];rw[setRow_self w g qk t fz hg];rfl
 | v::rest,i,qk,w,hg,jp,hl,h1=>by
  have hi:o+i<qk.size:=by simp at hl;omega
  have je:(⟨g,o,none⟩:Addr).add i=⟨g,o+i,none⟩:=Mg _ _ _;have qu:w.cell? ⟨g,o+i,none⟩=some qk[o+i]:=by simp[World.cell?,hg,hi]
  have jg:w.frozen? ⟨g,o+i,none⟩=false:=by
   obtain⟨lo,kk⟩:=fz;simp only[World.frozen?,hg,Bool.and_eq_false_iff,decide_eq_false_iff_not];simp only at jp;rcases jp with h | h
   .omega
   .omega
  have jk:(store ((⟨g,o,none⟩:Addr).add i) v).run P w=.ok () (w.setRow g (qk.setIfInBounds (o+i) v)):=by
   rw[je,run_store P w _ v _ (h1 v AE),qu];simp[jg,setCell_eq_setRow w g (o+i) qk t fz v hg]
  have ih:=Abn P g o t fz rest (i+1) (qk.setIfInBounds (o+i) v) (w.setRow g (qk.setIfInBounds (o+i) v)) (setRow_heap w g qk _ t _ hg) (by grind) (by grind) (fun x hx=>h1 x (by simp[hx]));simp only[storeCells,Sem.run_bind,jk,Result.andThen_ok,ih,setRow_setRow];congr 3;have e:=list_seg_step qk.toList (o+i) v rest AA
  simp_all [Aby]
def Adm{α:Type}(us ur:List α)(off j:Nat)(h:off+ur.length<=us.length):(us.take off++ur++us.drop (off+ur.length))[j]?=if j<off then us[j]? else if j<off+ur.length then ur[j - off]? else us[j]?:=by
 grind
def Ab2{b:Nat}(us:Array Value)(h:N<=b):Below N w (w.setRow b us):=
 ⟨rfl,rfl,rfl,by simp_all,fun k hk=>setRow_other w b k us AA⟩
def A2g{t:TypeId}{fi:TypeInfo}{n:Nat}{x y:Operand}{s1 s2:S}(ho:o.op=.store t x y)(qc:P.info? t=some fi)(hn:fi.size=n)
  (hx:RepV γ w (Ac e s1) (a.eval x)) (hy:RepV γ w (Ac e s2) (a.eval y)) (hI:Inv G N γ σ w) (h:Af (.store n s1 s2) e σ=some (v,σ1)):C3 P G N γ σ w ((execOp a.eval o).run P w) v σ1:=by
 simp only[Af,Ci]at h;obtain⟨σ',h,h2⟩:=h;cases h2;unfold Qr at h
 split at h
 .rename_i b g off e1;rw[e1]at hx
  split at h
  .rename_i cs ee g' z qM
   split at h
   .rename_i hc;obtain⟨rfl,hz,ki,qS⟩:=hc;simp only[Ci]at h;obtain⟨cs',hp,h⟩:=h;cases h;obtain⟨blk,hb,hu⟩:=Aqm hI (Bf rfl hx) (by grind[Qs]);obtain⟨ur,jb,hl,hr⟩:=Ahw hy qS;obtain⟨_,km,kB,us,lo,hi,g1,jB,g2,g3⟩:=hI.obj b _ _ qM hb
    have jA:∀ j,j<cs.length->RepC γ w (cs.getD j .und) ((us.toList.take cs.length).getD j undef):=fun j hj=>by
     grind[Array.getD_eq_getD_getElem?]
    obtain⟨p1,p2,p3,p4⟩:=Ao9 hp (by grind) hl jA hr;have jk:=Abn P blk off ee (lo,hi) ur 0 us w g1 AA AA (okc hl hr);simp only[Mx]at jk;have qD:(a.eval y).cells.size=fi.size:=by rw[jb];simp;omega
    have kb:ur.length=n:=by omega
    have jl:((us.toList.take off++ur++us.toList.drop (off+ur.length)).toArray).size=us.size:=by simp;omega
    obtain⟨i1,i2⟩:=hI.write (us':=(us.toList.take off++ur++us.toList.drop (off+ur.length)).toArray) (cs':=cs') (g':=g) hb qM g1 jB (Am _) AA jl AA (fun o ho=>by
     rw[Abj,Dm,Ex (by grind),Vh,if_pos AA,Array.getElem?_toList]) (fun j hj=>by
     have:=p4 j hj
     have e2:((us.toList.take off++ur++us.toList.drop (off+ur.length)).toArray).getD j undef=((us.toList.take cs.length).take off++ur++(us.toList.take cs.length).drop (off+ur.length)).getD j undef:=by
      rw[Array.getD_eq_getD_getElem?,Abj,Fl,Adm _ _ _ _ (by grind),Adm _ _ _ _ (by grind)];rw[Vh,if_pos (show j<cs.length by omega)]
     grind)
    rw[show(blk,g).1=blk from rfl,N3 hb]at i1 i2;refine⟨undef,_,_,.inr ⟨?_,rfl⟩,.und,i1,i2,Ab2 _ (hI.low _ _ hb),fun _ _=>rfl⟩
    simp_all [execOp,Instr.storeAt,Instr.sureAddr,storeVar,sizeOf,typeInfo]
   grind
  grind
 grind
open Go Go.RowKit
variable {P:Program} {G:List (Nat × List V)} {N:Nat} {γ:Gh} {σ σ1:St} {w:World} {e:Env} {a:Act} {o:Oper} {v:V}
def Ahi{o:Obj}(h:N<=w.heap.size):Below N w (w.alloc o):=(Below.refl _ _).alloc h o
def Acn{us:Array Value}{cs:List V}{el:TypeId}{r:Result Next}{v:V}{u:Value}(hI:Inv G N γ σ w)(hl:cs.length<=us.size)(hr:∀ j,j<cs.length->RepC γ w (cs.getD j .und) (us.getD j undef))
  (h:r=.ok (.value u) (w.alloc (.cells us el))) (hv:∀ γ',γ'.O[σ.length]?=some (w.heap.size,0)->RepC γ' (w.alloc (.cells us el)) v u):C3 P G N γ σ w r v (σ++[.row cs el 0 0]):=by
 obtain⟨i1,i2⟩:=hI.newRow us el cs hl hr;exact⟨_,_,_,.inl h,Df (hv _ (by show(γ.O++_)[σ.length]?=_;rw[<-hI.len];simp)),i1,i2,Ahi hI.base,fun b hb=>N1 _ _ (by have:=hI.base;omega)⟩
def A8z{t:TypeId}{fi:TypeInfo}{z:Value}{zs:List V}(ho:o.op=.alloc t)(qc:P.info? t=some fi)(hz:fi.zero=some z)(hc:Iv zs z.cells.toList=true)(hI:Inv G N γ σ w)
  (h:Af (.new t zs) e σ=some (v,σ1)):C3 P G N γ σ w ((execOp a.eval o).run P w) v σ1:=by
 simp only[Af]at h;cases h;obtain⟨h1,h2⟩:=Ti (γ:=γ) (w:=w) hc
 refine Acn (us:=z.cells) (el:=t) (u:=.pointer (some ⟨w.heap.size,0,none⟩)) hI (by grind) (fun j hj=>by
  simp_all) ?_ (fun γ' hO=>Ath hO)
 simp[execOp,ho,Instr.alloc,zeroValue,typeInfo,qc,hz,newVar,newRow,newObj,Sem.run]
def A80{t:TypeId}{x:Operand}{s:S}(ho:o.op=.box t x)(hx:RepV γ w (Ac e s) (a.eval x))(hI:Inv G N γ σ w)
  (h:Af (.box t s) e σ=some (v,σ1)):C3 P G N γ σ w ((execOp a.eval o).run P w) v σ1:=by
 simp only[Af]at h
 split at h
 .rename_i hc;cases h;obtain⟨us,hu,h1,h2⟩:=Ahw hx hc
  refine Acn (us:=us.toArray) (el:=t) (u:=.pointer (some ⟨w.heap.size,0,none⟩)) hI (by grind) (fun j hj=>by
   simp_all) ?_ (fun γ' hO=>Ath hO)
  simp_all [execOp,Instr.box,newVar,newRow]
 grind
/-! filling -/
def Aqp(off:Nat):∀ (l:List Value) (k:Nat) (cs:Array Value),off+k+l.length<=cs.size ->
  ((l.zipIdx k).foldl (fun cs (p:Value × Nat)=>cs.setIfInBounds (off+p.2) p.1) cs).toList=cs.toList.take (off+k)++l++cs.toList.drop (off+k+l.length)
 | [],k,cs,h=>by simp
 | c::l,k,cs,h=>by
  rw[List.zipIdx_cons,Rj,Aqp off l (k+1) _ (by grind)];simp only[Array.toList_setIfInBounds];have:=list_seg_step cs.toList (off+k) c l AA;omega
def A45(off:Nat)(vs cs:Array Value)(h:off+vs.size<=cs.size):
  vs.zipIdx.foldl (fun cs (c,j)=>cs.setIfInBounds (off+j) c) cs=(cs.toList.take off++vs.toList++cs.toList.drop (off+vs.size)).toArray:=by
 apply Array.toList_inj.1;have:=Aqp off vs.toList 0 cs AA;simp only[Mx,Array.length_toList]at this;rw[<-this,<-Array.foldl_toList];simp
def Ac0{place:Nat->Option (Nat × Nat)}:∀ {ps:List (Nat × Nat × V)} {qs:List (Nat × Value)} {cs cs':List V} {us:Array Value},I1 cs ps=some cs'->ps.length=qs.length ->
  (∀ (i:Nat) (p:Nat × Nat × V) (q:Nat × Value),ps[i]?=some p->qs[i]?=some q->place q.1=some (p.1,p.2.1)/\RepV γ w p.2.2 q.2)->us.size=cs.length->(∀ j,j<cs.length->RepC γ w (cs.getD j .und) (us.toList.getD j undef)) ->
  ∃ us':Array Value,Instr.fill place us qs=some us'/\us'.size=cs'.length/\cs'.length=cs.length/\∀ j,j<cs'.length->RepC γ w (cs'.getD j .und) (us'.toList.getD j undef)
 | [],[],cs,cs',us,h,_,_,hs,hr=>by
  simp only[I1]at h;cases h;exact⟨us,rfl,hs,rfl,hr⟩
 | [],_::_,_,_,_,_,hl,_,_,_=>by grind
 | _::_,[],_,_,_,_,hl,_,_,_=>by grind
 | (off,n,v)::ps,(i,u)::qs,cs,cs',us,h,hl,hp,hs,hr=>by
  simp only[I1]at h
  split at h
  .rename_i hc;simp only[E3]at h;obtain⟨c1,h1,h⟩:=h;obtain⟨jV,hv⟩:=hp 0 _ _ rfl rfl;have jn:=hc.2;have kc:RepV γ w v u:=hv;obtain⟨ur,jb,ju,jX⟩:=Ahw kc hc.1;obtain⟨p1,p2,p3,p4⟩:=Ao9 h1 AA ju hr jX;have qD:u.cells.size=n:=by rw[jb];simp only[List.size_toArray];omega
   have jf:off+u.cells.size<=us.size:=by omega
   have hf:=A45 off u.cells us jf;have qU:u.cells.toList=ur:=by rw[jb]
   rw[qU,qD,show n=ur.length by omega]at hf
   obtain⟨us',f1,f2,f3,f4⟩:=Ac0 (place:=place) (ps:=ps) (qs:=qs) (cs:=c1) (cs':=cs') (us:=(us.toList.take off++ur++us.toList.drop (off+ur.length)).toArray) h (by grind)
    (fun i' p q h1 h2=>hp (i'+1) p q (by grind) (by grind)) AA (fun j hj=>by grind)
   simp_all [Instr.fill]
  grind
def A2h{t:TypeId}{fi:TypeInfo}{z:Value}{zs:List V}{fs:Array Field}{qm:List (Nat × Nat)}{qa:Array (Nat × Operand)}{ps:List (Nat × Nat × S)}(ho:o.op=.build t qa)(ht:P.underlying t=some (.struct fs))(qc:P.info? t=some fi)(hz:fi.zero=some z)(hc:Iv zs z.cells.toList=true)
  (jV:fs.toList.mapM (fun f=>(P.info? f.type).map fun i=>(f.offset,i.size))=some qm)
  (hl:ps.length=qa.size) (hp:∀ (i:Nat) (p:Nat × Nat × S) (q:Nat × Operand),ps[i]?=some p->qa[i]?=some q->qm[q.1]?=some (p.1,p.2.1)/\RepV γ w (Ac e p.2.2) (a.eval q.2))
  (hI:Inv G N γ σ w)
  (h:Af (.build zs ps) e σ=some (v,σ1)):C3 P G N γ σ w ((execOp a.eval o).run P w) v σ1:=by
 simp only[Af,Ci]at h;obtain⟨cs,h,h2⟩:=h;cases h2;obtain⟨h1,h2⟩:=Ti (γ:=γ) (w:=w) hc
 obtain⟨us',f1,f2,f3,f4⟩:=Ac0 (γ:=γ) (w:=w) (place:=fun i=>qm.toArray[i]?) (qs:=(qa.map fun(i,x)=>(i,a.eval x)).toList) (us:=z.cells) h (by simp[hl]) (fun i p q g1 g2=>by
  grind) (by grind) h2
 refine Cp hI (u:=.agg us') ?_ (.one (by
  have:=Rep1.agg (γ:=γ) (w:=w) (cs:=cs) (us:=us'.toList) (by simp[f2]) f4
  omega))
 simp_all [Program.built,execOp,run_build]
def A05{t el:TypeId}{fi fe:TypeInfo}{z:Value}{zs:List V}{len:Nat}{qa:Array (Nat × Operand)}{ps:List (Nat × Nat × S)}(ho:o.op=.build t qa)(ht:P.underlying t=some (.array len el))(qc:P.info? t=some fi)(hz:fi.zero=some z)(hc:Iv zs z.cells.toList=true)(jI:P.info? el=some fe)
  (hl:ps.length=qa.size) (hp:∀ (i:Nat) (p:Nat × Nat × S) (q:Nat × Operand),ps[i]?=some p->qa[i]?=some q->(q.1*fe.size,fe.size)=(p.1,p.2.1)/\RepV γ w (Ac e p.2.2) (a.eval q.2))
  (hI:Inv G N γ σ w)
  (h:Af (.build zs ps) e σ=some (v,σ1)):C3 P G N γ σ w ((execOp a.eval o).run P w) v σ1:=by
 simp only[Af,Ci]at h;obtain⟨cs,h,h2⟩:=h;cases h2;obtain⟨h1,h2⟩:=Ti (γ:=γ) (w:=w) hc
 obtain⟨us',f1,f2,f3,f4⟩:=Ac0 (γ:=γ) (w:=w) (place:=fun i=>some (i*fe.size,fe.size)) (qs:=(qa.map fun(i,x)=>(i,a.eval x)).toList) (us:=z.cells) h (by simp[hl]) (fun i p q g1 g2=>by
  grind) (by grind) h2
 refine Cp hI (u:=.agg us') ?_ (.one (by
  have:=Rep1.agg (γ:=γ) (w:=w) (cs:=cs) (us:=us'.toList) (by simp[f2]) f4
  omega))
 simp only[Array.toList_map]at f1;simp[execOp,ho,Instr.build,zeroValue,typeInfo,qc,hz,run_underlying ht,sizeOf,jI,f1]
/-! rows of cells -/
theorem Y9(m:Nat):∀ (n:Nat) (cs:List V),Fi m n cs=(List.range n).map fun i=>(cs.drop (i*m)).take m
 | 0,_=>rfl
 | n+1,cs=>by
  rw[Fi,Y9 m n,List.range_succ_eq_map,Bh,Ahd];simp only[Nat.zero_mul,Mc,List.cons.injEq,true_and];simp[G6,Ahe]
theorem Aik(m n:Nat)(cs:List V):(Fi m n cs).length=n:=by grind[Y9]
def Aqq(m n:Nat)(cs:List V){i:Nat}(hi:i<n):(Fi m n cs).getD i []=(cs.drop (i*m)).take m:=by
 grind[Y9]
def Za{i n m:Nat}(hi:i<n):i*m+m<=n*m:=by rw[<-G6];exact E4 _ hi
def Aoc{m n:Nat}{cs:List V}(hl:n*m<=cs.length){i:Nat}(hi:i<n):((Fi m n cs).getD i []).length=m:=by
 rw[Aqq m n cs hi];have:=Za (m:=m) hi
 grind
def Apa{m n:Nat}{cs:List V}{i j:Nat}(hi:i<n)(hj:j<m):((Fi m n cs).getD i []).getD j .und=cs.getD (i*m+j) .und:=by
 rw[Aqq m n cs hi]
 grind
def Qn{α β:Type}{f:α->Option β}:∀ {l:List α} {r:List β},l.mapM f=some r->r.length=l.length/\∀ (i:Nat) (x:α),l[i]?=some x->∃ y,r[i]?=some y/\f x=some y
 | [],r,h=>by
  grind
 | a::l,r,h=>by
  rw[Jv]at h
  cases ha:f a with
  | none=>grind
  | some b=>
   cases hl:l.mapM f with
   | none=>grind
   | some r'=>
    simp[ha,hl]at h;subst h;obtain⟨h1,h2⟩:=Qn hl
    grind
/-! what is settled -/
def Afz(γ:Gh)(σ:St)(js:List Nat)(κ':E1):Prop:=∀ (i:Nat) (cs:List V) (e g z:Nat) (p:Nat × Nat),i∈js->σ[i]?=some (Ob.row cs e g z)->γ.O[i]?=some p->κ' p.1=some cs.length
def Inv.freeze:∀ (js:List Nat) {γ:Gh} {σ:St},Inv G N γ σ w->∃ κ',Inv G N ⟨κ',γ.O⟩ (σ.freeze js) w/\Ext γ w ⟨κ',γ.O⟩ w/\(∀ b,b<N->κ' b=γ.κ b)/\Afz γ σ js κ'/\(∀ (i:Nat) (cs:List V) (e g z:Nat),σ[i]?=some (Ob.row cs e g z)->∃ z',(σ.freeze js)[i]?=some (Ob.row cs e g z'))
 | [],γ,σ,h=>⟨γ.κ,h,Ext.refl _ _,fun _ _=>rfl,fun i cs e g z p hi=>(by cases hi),fun i cs e g z hi=>⟨z,hi⟩⟩
 | j::js,γ,σ,h=>by
  unfold St.freeze
  split
  .rename_i ob qz
   cases ob with
   | dead=>
    rw[show Ob.shut .dead=.dead from rfl,N3 qz];obtain⟨κ',k1,k2,k3,k4,k5⟩:=Inv.freeze js h;refine⟨κ',k1,k2,k3,fun i cs e g z p hi ho hp=>?_,k5⟩;rcases B7.1 hi with rfl | hi
    .grind
    .exact k4 i cs e g z p hi ho hp
   | map kvs=>
    rw[show Ob.shut (.map kvs)=.map kvs from rfl,N3 qz];obtain⟨κ',k1,k2,k3,k4,k5⟩:=Inv.freeze js h;refine⟨κ',k1,k2,k3,fun i cs e g z p hi ho hp=>?_,k5⟩;rcases B7.1 hi with rfl | hi
    .grind
    .exact k4 i cs e g z p hi ho hp
   | row cs e g z=>
    obtain⟨p,hp,hk⟩:=h.of qz;obtain⟨i1,i2⟩:=h.shut1 (z':=cs.length) hp qz hk.2.2.1 (Am _);obtain⟨κ',k1,k2,k3,k4,k5⟩:=Inv.freeze js i1;have jt:j<σ.length:=(An.1 qz).1;refine⟨κ',k1,i2.trans k2,fun b hb=>(k3 b hb).trans (N1 _ _ (by have:=h.low j p hp;omega)),fun i cs' e' g' z' q hi ho hq=>?_,fun i cs' e' g' z' hi=>?_⟩
    .by_cases qn:i=j
     .subst qn;rw[qz]at ho;cases ho;rw[hp]at hq;cases hq;obtain⟨k',qi,qf⟩:=k2.kap p.1 cs.length (Vx _ _ _);obtain⟨z2,ke⟩:=k5 i cs e g cs.length (Cf jt);obtain⟨_,o2,o3,_⟩:=k1.obj i _ p ke hp
      grind
     .rcases B7.1 hi with e1 | hi
      .omega
      .exact k4 i cs' e' g' z' q hi (by grind) hq
    .by_cases qn:j=i
     .subst qn;rw[qz]at hi;cases hi;exact k5 j cs e g cs.length (Cf jt)
     .exact k5 i cs' e' g' z' (by grind)
  .rename_i qz;obtain⟨κ',k1,k2,k3,k4,k5⟩:=Inv.freeze js h;refine⟨κ',k1,k2,k3,fun i cs e g z p hi ho hp=>?_,k5⟩;rcases B7.1 hi with rfl | hi
   .grind
   .exact k4 i cs e g z p hi ho hp
theorem Aqr{v:V}{u:Value}(h:RepC γ w v u)(hv:v.rowB=true):RepR γ.κ w v u:=by
 cases h with
 | row h=>exact h
 | _=>cases hv
theorem Acd{κ':E1}{js:List Nat}(hI:Inv G N γ σ w)(hx:Ext γ w ⟨κ',γ.O⟩ w)(hs:Afz γ σ js κ'):∀ {d:Nat} {v v':V} {u:Value},Fg σ js d v=some v'->RepC γ w v u->RepR κ' w v' u
 | 0,_,_,_,h,_=>by cases h
 | d+1,v,v',u,h,hr=>by
  unfold Fg at h
  split at h
  .rename_i hv;cases h;exact(Aqr hr hv).keep hx.kap hx.cell
  .split at h
   .rename_i i g off len m own hv
    split at h
    .rename_i ja
     split at h
     .rename_i cs e g' z ho
      split at h
      .rename_i hc;obtain⟨rfl,hm,qf⟩:=hc;simp only[Ci]at h;obtain⟨rs,qV,rfl⟩:=h;obtain⟨blk,cap,o',hb,hu,qR,qD,qT,qW⟩:=Aja (o':=0) hI hr (by grind[Qs]);obtain⟨_,_,_,us,lo,hi,g1,_,g2,g3⟩:=hI.obj i _ _ ho hb;obtain⟨hl,hg⟩:=Qn qV;have jv:rs.length=len*m:=by rw[hl];simp;omega
       have hk:=hs i cs e g z _ (X5.1 ja) ho hb;rw[hu];have qU:=Aik m len rs
       have key:=RepR.lst (κ:=κ') (w:=w) (t:=0) (xs:=Fi m len rs) (a:=⟨blk,o',none⟩) (cap:=cap) (m:=m) (fun i j=>us.getD (o'+i*m+j) undef) (fun h=>by omega) AA qW
        (fun h0=>⟨rfl,_,hk,by grind⟩)
        (fun i hi=>Aoc AA AA)
        (fun i j hi hj=>by
         rw[qU]at hi;have:=Za (m:=m) hi;have e1:=qR AA;have qg:o'+i*m+j<us.size:=by omega
         simp[World.cell?,g1,Array.getD_eq_getD_getElem?,qg])
        (fun i j hi hj=>by
         rw[qU]at hi;have:=Za (m:=m) hi;have e1:=qR AA;subst e1;rw[Apa hi hj];have qg:i*m+j<((cs.drop o').take (len*m)).length:=by simp;omega
         obtain⟨y,hy,hf⟩:=hg (i*m+j) _ (Cb qg);rw[show rs.getD (i*m+j) .und=y by grind];refine Acd hI hx hs hf ?_
         grind)
       grind
      grind
     grind
    grind
   grind
open Go Go.RowKit
variable {P:Program} {G:List (Nat × List V)} {N:Nat} {γ:Gh} {σ σ1:St} {w:World} {e:Env} {a:Act} {o:Oper} {v:V}
theorem Ail{α:Type}(zs:List α)(d:α)(hm:0<zs.length):∀ (n j:Nat),j<n*zs.length->((List.replicate n zs).flatten).getD j d=zs.getD (j % zs.length) d
 | 0,j,h=>by omega
 | n+1,j,h=>by
  rw[Agw,Gv];by_cases hj:j<zs.length
  .grind[Nat.mod_eq_of_lt]
  .have:=Ail zs d hm n (j - zs.length) (by grind)
   grind[Nat.mod_eq_sub_mod]
theorem X6{α:Type}(zs:List α)(n:Nat):((List.replicate n zs).flatten).length=n*zs.length:=by
 simp_all
def Avt{us:Array Value}{cs:List V}{n m:Nat}{el:TypeId}{r:Result Next}{js:List Nat}{κ':E1}(hI:Inv G N ⟨κ',γ.O⟩ (σ.freeze js) w)(hx:Ext γ w ⟨κ',γ.O⟩ w)(jP:∀ b,b<N->κ' b=γ.κ b)(hm:0<m)(hn:n<=maxLen)(hl:cs.length=n*m)(hs:us.size=n*m)(hr:∀ j,j<n*m->RepR κ' w (cs.getD j .und) (us.toList.getD j undef))
  (h:r=.ok (.value (.slice (some ⟨w.heap.size,0,none⟩) n n)) (w.alloc (.cells us el))):C3 P G N γ σ w r (.lst 1 (Fi m n cs)) (σ.freeze js):=by
 obtain⟨i1,i2⟩:=hI.row us el;have qj:=Aik m n cs;refine⟨_,_,_,.inl h,?_,i1,hx.trans i2,Ahi hI.base,fun b hb=>(N1 _ _ (by have:=hI.base;omega)).trans (jP b hb)⟩;refine Df (.row ?_)
 have key:=RepR.lst (κ:=J5 κ' w.heap.size us.size) (w:=w.alloc (.cells us el)) (t:=1) (xs:=Fi m n cs) (a:=⟨w.heap.size,0,none⟩) (cap:=n) (m:=m) (fun i j=>us.toList.getD (i*m+j) undef) (fun _=>qj.symm) AA hn
  (fun _=>⟨rfl,us.size,Vx _ _ _,by grind⟩)
  (fun i hi=>Aoc AA AA)
  (fun i j hi hj=>by
   rw[qj]at hi;have:=Za (m:=m) hi;have qg:i*m+j<us.size:=by omega
   simp_all)
  (fun i j hi hj=>by
   rw[qj]at hi;have:=Za (m:=m) hi;rw[Apa hi hj]
   exact(hr (i*m+j) AA).keep i2.kap i2.cell)
 grind
def Ahz{fi:TypeInfo}{z:Value}{zs:List V}{n:Nat}{qa:Array (Nat × Operand)}{ps:List (Nat × S)}{cs:List V}(hc:Iv zs z.cells.toList=true)(hm:fi.size=zs.length)(qo:0<zs.length)
  (hl:ps.length=qa.size) (hp:∀ (i:Nat) (p:Nat × S) (q:Nat × Operand),ps[i]?=some p->qa[i]?=some q->p.1=q.1/\RepV γ w (Ac e p.2) (a.eval q.2))
  (h:I1 (List.replicate n zs).flatten (ps.map fun p=>(p.1*zs.length,zs.length,Ac e p.2))=some cs) :
  ∃ us':Array Value,(Instr.fill (fun i=>some (i*fi.size,fi.size)) ((Array.range (n*fi.size)).map (fun i=>(if n*fi.size=0 then #[] else z.cells)[i % (if n*fi.size=0 then(#[]:Array Value) else z.cells).size]!)) (qa.map fun(i,x)=>(i,a.eval x)).toList)=some us'/\us'.size=n*zs.length/\cs.length=n*zs.length/\∀ j,j<cs.length->RepC γ w (cs.getD j .und) (us'.toList.getD j undef):=by
 obtain⟨h1,h2⟩:=Ti (γ:=γ) (w:=w) hc;have jw:z.cells.size=zs.length:=by simpa using h1.symm
 let us0:Array Value:=(Array.range (n*zs.length)).map (fun i=>z.cells[i % z.cells.size]!)
 obtain⟨us',f1,f2,f3,f4⟩:=Ac0 (γ:=γ) (w:=w) (place:=fun i=>some (i*zs.length,zs.length)) (qs:=(qa.map fun(i,x)=>(i,a.eval x)).toList) (us:=us0) h (by simp[hl]) (fun i p q g1 g2=>by
  grind) (by grind[X6]) (fun j hj=>by
  grind[X6,Ail,Nat.mod_lt])
 rw[X6]at f3
 grind
def Ajb{t el:TypeId}{fi:TypeInfo}{z:Value}{n:Nat}{qa:Array (Nat × Operand)}{us':Array Value}(ho:o.op=.buildSlice t n qa)(ht:P.underlying t=some (.slice el))(qc:P.info? el=some fi)(hz:fi.zero=some z)(qL:n*fi.size<=16777216)
  (qd:(Instr.fill (fun i=>some (i*fi.size,fi.size)) ((Array.range (n*fi.size)).map (fun i=>(if n*fi.size=0 then #[] else z.cells)[i % (if n*fi.size=0 then(#[]:Array Value) else z.cells).size]!)) (qa.map fun(i,x)=>(i,a.eval x)).toList)=some us') :
  (execOp a.eval o).run P w=.ok (.value (.slice (some ⟨w.heap.size,0,none⟩) n n)) (w.alloc (.cells us' el)):=by
 have jE:¬ (n*fi.size > 2 ^ 24):=by omega
 by_cases h0:n*fi.size=0
 .simp only[if_pos h0]at qd;simp[execOp,ho,Instr.buildSlice,run_underlying ht,sizeOf,typeInfo,qc,h0,newRow,newObj,Sem.run]
  simp_all [Sem.run]
 .simp only[if_neg h0]at qd;rw[Array.toList_map]at qd;simp only[execOp,ho,Instr.buildSlice,run_underlying ht,sizeOf,typeInfo,qc,Sem.run_bind,Result.andThen_ok];simp[qc,jE,h0,zeroValue,typeInfo,hz,qd,newRow,newObj,Sem.run]
def A46{t el:TypeId}{fi:TypeInfo}{z:Value}{zs:List V}{n:Nat}{qa:Array (Nat × Operand)}{ps:List (Nat × S)}(ho:o.op=.buildSlice t n qa)(ht:P.underlying t=some (.slice el))(qc:P.info? el=some fi)(hz:fi.zero=some z)(hc:Iv zs z.cells.toList=true)
  (hm:fi.size=zs.length) (qo:0<zs.length) (qL:n*zs.length<=16777216)
  (hl:ps.length=qa.size) (hp:∀ (i:Nat) (p:Nat × S) (q:Nat × Operand),ps[i]?=some p->qa[i]?=some q->p.1=q.1/\RepV γ w (Ac e p.2) (a.eval q.2))
  (hI:Inv G N γ σ w)
  (h:Af (.rowf n zs ps) e σ=some (v,σ1)):C3 P G N γ σ w ((execOp a.eval o).run P w) v σ1:=by
 simp only[Af,E3,Ci]at h;obtain⟨cs,h,cs',h3,h2⟩:=h;cases h2;obtain⟨us',qd,qP,qM,f4⟩:=Ahz (γ:=γ) (w:=w) hc hm qo hl hp h;obtain⟨κ',k1,k2,k3,k4,_⟩:=hI.freeze (Fy σ 9 (Ah cs).eraseDups);obtain⟨l3,g3⟩:=Qn h3;have hn:n<=n*zs.length:=Abi _ qo;refine Avt (us:=us') (cs:=cs') (n:=n) (m:=zs.length) (el:=el) k1 k2 k3 qo (by grind[maxLen]) AA qP (fun j hj=>?_) (Ajb ho ht qc hz (by grind) qd)
 grind[Acd]
def A47{t el:TypeId}{fi:TypeInfo}{z:Value}{zs:List V}{n:Nat}{qa:Array (Nat × Operand)}{ps:List (Nat × S)}(ho:o.op=.buildSlice t n qa)(ht:P.underlying t=some (.slice el))(qc:P.info? el=some fi)(hz:fi.zero=some z)(hc:Iv zs z.cells.toList=true)
  (hm:fi.size=zs.length) (qo:0<zs.length) (qL:n*zs.length<=16777216)
  (hl:ps.length=qa.size) (hp:∀ (i:Nat) (p:Nat × S) (q:Nat × Operand),ps[i]?=some p->qa[i]?=some q->p.1=q.1/\RepV γ w (Ac e p.2) (a.eval q.2))
  (hI:Inv G N γ σ w)
  (h:Af (.rows n zs ps) e σ=some (v,σ1)):C3 P G N γ σ w ((execOp a.eval o).run P w) v σ1:=by
 simp only[Af,E3]at h;obtain⟨cs,h,h2⟩:=h
 split at h2
 .rename_i qK;cases h2;obtain⟨us',qd,qP,qM,f4⟩:=Ahz (γ:=γ) (w:=w) hc hm qo hl hp h;have hn:n<=n*zs.length:=Abi _ qo;refine Avt (σ:=σ) (js:=[]) (κ':=γ.κ) (us:=us') (cs:=cs) (n:=n) (m:=zs.length) (el:=el) hI (Ext.refl _ _) (fun _ _=>rfl) qo (by grind[maxLen]) AA qP (fun j hj=>?_) (Ajb ho ht qc hz (by grind) qd)
  grind[Aqr]
 grind
def Aea{γ':Gh}{i blk len cap m:Nat}(hO:γ'.O[i]?=some (blk,0))(hs:Ep w blk=some (cap*m))(hl:len<=cap)(hc:cap<=maxLen):RepC γ' w (.sl i 0 0 len m true) (.slice (some ⟨blk,0,none⟩) len cap):=
 .sl hO (Am _) hl hc (fun _=>rfl) (fun _=>⟨rfl,fun _=>by grind⟩)
theorem Yn(w:World)(us:Array Value)(el:TypeId)(fr:Nat × Nat):Ep (w.alloc (.cells us el fr)) w.heap.size=some us.size:=by
 grind[Ep,heap_alloc_new]
def A48{t el:TypeId}{fi:TypeInfo}{z:Value}{zs:List V}{n:Nat}{qa:Array (Nat × Operand)}{ps:List (Nat × S)}(ho:o.op=.buildSlice t n qa)(ht:P.underlying t=some (.slice el))(qc:P.info? el=some fi)(hz:fi.zero=some z)(hc:Iv zs z.cells.toList=true)
  (hm:fi.size=zs.length) (qo:0<zs.length) (qL:n*zs.length<=16777216)
  (hl:ps.length=qa.size) (hp:∀ (i:Nat) (p:Nat × S) (q:Nat × Operand),ps[i]?=some p->qa[i]?=some q->p.1=q.1/\RepV γ w (Ac e p.2) (a.eval q.2))
  (hI:Inv G N γ σ w)
  (h:Af (.rowo el n zs ps) e σ=some (v,σ1)):C3 P G N γ σ w ((execOp a.eval o).run P w) v σ1:=by
 simp only[Af,Ci]at h;obtain⟨cs,h,h2⟩:=h;cases h2;obtain⟨us',qd,qP,qM,f4⟩:=Ahz (γ:=γ) (w:=w) hc hm qo hl hp h;have hn:n<=n*zs.length:=Abi _ qo
 exact Acn (us:=us') (u:=.slice (some ⟨w.heap.size,0,none⟩) n n) hI AA (fun j hj=>by
  grind[Array.getD_eq_getD_getElem?]) (Ajb ho ht qc hz (by grind) qd) (fun γ' hO=>Aea hO (by grind[Yn]) (Am _) (by grind[maxLen]))
def Bdd{t el:TypeId}{fi:TypeInfo}{z:Value}{zs:List V}{x y:Operand}{s1 s2:S}(ho:o.op=.makeSlice t x y)(ht:P.underlying t=some (.slice el))(qc:P.info? el=some fi)(hz:fi.zero=some z)(hc:Iv zs z.cells.toList=true)
  (hm:fi.size=zs.length) (qo:0<zs.length) (jF:0<fi.bytes) (hx:RepV γ w (Ac e s1) (a.eval x)) (hy:RepV γ w (Ac e s2) (a.eval y))
  (hI:Inv G N γ σ w)
  (h:Af (.mk el fi.bytes zs s1 s2) e σ=some (v,σ1)):C3 P G N γ σ w ((execOp a.eval o).run P w) v σ1:=by
 simp only[Af]at h
 split at h
 .rename_i n c e1 e2;rw[e1]at hx;rw[e2]at hy;have qb:=Ey (Bf rfl hx);have ql:=Ey (Bf rfl hy)
  split at h
  .rename_i hb;cases h;obtain⟨h0,jS,qt⟩:=hb;obtain⟨h1,h2⟩:=Ti (γ:=γ) (w:=w) hc;have jw:z.cells.size=zs.length:=by simpa using h1.symm
   have jG:c.toNat<=140737488355328:=Dd (Abi _ jF) qt;have jH:c.toNat<=maxLen:=by unfold maxLen;omega
   have qP:(madeCells z.cells (c.toNat*fi.size)).size=c.toNat*zs.length:=by rw[size_madeCells,hm]
   have qf:n.toNat*zs.length<=c.toNat*zs.length:=E4 _ AA
   have jD:(fi.bytes:Int)*c<=281474976710656:=by
    have:((c.toNat*fi.bytes:Nat):Int)<=140737488355328:=Int.ofNat_le.2 qt;rw[Int.natCast_mul,Abo AA,Int.mul_comm]at this;omega
   have hr:=run_make (P:=P) w t el fi z ht qc hz .i64 .i64 n c h0 jS jD AA;refine Acn (us:=madeCells z.cells (c.toNat*fi.size)) (el:=el) (u:=.slice (some ⟨w.heap.size,0,none⟩) n.toNat c.toNat) hI (by grind[X6]) (fun j hj=>?_) (by simp[execOp,ho,qb,ql,hr]) (fun γ' hO=>Aea hO (by grind[Yn]) AA jH);rw[X6]at hj;rw[Ail zs .und qo _ j hj];have qg:j % zs.length<zs.length:=Tn _ qo;have:=h2 (j % zs.length) qg
   have e1:(madeCells z.cells (c.toNat*fi.size)).getD j undef=z.cells.toList.getD (j % zs.length) undef:=by
    have jh:j % zs.length<z.cells.size:=by omega
    have jN:j<c.toNat*zs.length:=by omega
    simp[madeCells,hm,Array.getD_eq_getD_getElem?,Fl,jN,jw,jh,qg]
   grind
  grind
 grind
open Go Go.RowKit
variable {P:Program} {G:List (Nat × List V)} {N:Nat} {γ:Gh} {σ σ1:St} {w:World} {e:Env} {a:Act} {o:Oper} {v:V}
def I3(G:List (Nat × List V)):Option S->Option Operand->Bool
 | none,none=>true
 | some s,some x=>B9 G s x
 | _,_=>false
def Jw{s:Option S}{x:Option Operand}{d n y:Nat}{c:BoundsCode}(hx:I3 G s x=true)(hE:RepE γ w e a.tmps)(hI:Inv G N γ σ w)(hb:Ed (s.map (Ac e)) d=some n):
  (s=none/\x=none/\n=d)\/∃ sx xx,s=some sx/\x=some xx/\(n<=y->(Instr.sliceBound (a.eval xx) y c).run P w=.ok n w):=by
 cases s with
 | none=>
  cases x with
  | none=>simp[Ed]at hb;grind
  | some x=>grind[I3]
 | some s=>
  cases x with
  | none=>grind[I3]
  | some x=>
   refine .inr ⟨s,x,rfl,rfl,fun hy=>?_⟩;have hr:=Y8 hx hE hI;simp only[I9,Ed]at hb
   split at hb
   .grind
   .rename_i k m e1;injection e1 with e1;rw[e1]at hr;have hu:=Ey (Bf rfl hr)
    split at hb
    .rename_i h0;cases hb
     simp_all [Instr.sliceBound,asIntOf]
    grind
   grind
def A06(l:List UInt8)(a b:Nat):(⟨l.toArray⟩:ByteArray).extract a b=⟨((l.take b).drop a).toArray⟩:=by
 apply WideShapes.bytes_inj
 grind[Lib.extract_data,List.drop_take]
def A49{t:TypeId}{x:Operand}{lo hi:Option Operand}{s:S}{qJ qE:Option S}(ho:o.op=.slice t x lo hi none)(ht:P.underlying t=some .string)(h1:I3 G qJ lo=true)(h2:I3 G qE hi=true)
  (hx:RepV γ w (Ac e s) (a.eval x)) (hE:RepE γ w e a.tmps) (hI:Inv G N γ σ w)
  (h:Af (.slcs s qJ qE) e σ=some (v,σ1)):C3 P G N γ σ w ((execOp a.eval o).run P w) v σ1:=by
 simp only[Af,Ci]at h;obtain⟨v',h,hv⟩:=h;cases hv;unfold S4 at h
 split at h
 .rename_i l e1;rw[e1]at hx;obtain⟨hu,hl⟩:=G7 (Bf rfl hx);simp only[E3]at h;obtain⟨p,hp,q,hq,h⟩:=h
  split at h
  .rename_i qf;cases h;have qj:((l.take q).drop p).length<=maxLen:=by simp;omega
   refine Cp hI (u:=.string ⟨((l.take q).drop p).toArray⟩) ?_ (Ate qj)
   have qw:(Instr.sliceBounds false l.length l.length (lo.map a.eval) (hi.map a.eval) none).run P w=.ok (p,q,l.length) w:=by
    have b1:=Jw (P:=P) (y:=l.length) (c:=.sliceAlen) h2 hE hI hq;have b2:=Jw (P:=P) (y:=q) (c:=.sliceB) h1 hE hI hp
    rcases b1 with⟨rfl,rfl,rfl⟩ | ⟨sx,xx,rfl,rfl,b1⟩<;>rcases b2 with⟨rfl,rfl,rfl⟩ | ⟨sy,xy,rfl,rfl,b2⟩
    .simp[Instr.sliceBounds]
    .simp_all [Instr.sliceBounds]
    .simp_all [Instr.sliceBounds]
    .simp_all [Instr.sliceBounds]
   simp_all [execOp,Instr.sliceAt,Instr.slice,run_underlying,Mj,A06]
  grind
 grind
def A81{t':Nat}{xs:List (List V)}{ad:Addr}{cap p q:Nat}(hR:RepR γ.κ w (.lst 0 xs) (.slice (some ad) xs.length cap))(hp:p<=q)(hq:q<=xs.length){c:Nat}(kg:q - p<=c)(jn:c<=maxLen)(kA:t'=1->c=q - p){qZ:Addr}
  (qQ:p<q->ad.spot=none->∀ m,(∀ i,i<xs.length->(xs.getD i []).length=m)->qZ=⟨ad.block,ad.off+p*m,none⟩) :
  RepR γ.κ w (.lst t' ((xs.take q).drop p)) (.slice (some qZ) (q - p) c):=by
 have qj:((xs.take q).drop p).length=q - p:=by simp;omega
 cases hR with
 | @lst _ _ _ _ m row h1 h2 h3 h4 h5 h6 h7=>
 have H4:=Lib.hid h4;clear h4
 have jK:∀ i,i<q - p->((xs.take q).drop p).getD i []=xs.getD (p+i) []:=fun i hi=>by
  grind
 have jd:p<q->qZ=⟨ad.block,ad.off+p*m,none⟩:=fun qO=>qQ qO (H4.out AA).1 m h5
 clear qQ
 have key:=RepR.lst (κ:=γ.κ) (w:=w) (t:=t') (xs:=(xs.take q).drop p) (a:=qZ) (cap:=c) (m:=m) (fun i j=>row (p+i) j) (fun h=>by omega) AA jn
  (fun hl=>by
   have qO:p<q:=by omega
   obtain⟨hs,k,hk,qf⟩:=H4.out AA;rw[jd qO];refine⟨rfl,k,hk,?_⟩;rw[qj];have:p*m+(q - p)*m=q*m:=by rw[<-N0];congr 1;omega
   have:q*m<=xs.length*m:=E4 _ hq
   grind)
  (fun i hi=>by grind)
  (fun i j hi hj=>by
   grind)
  (fun i j hi hj=>by
   grind)
 grind
def A82{t el:TypeId}{fi:TypeInfo}{x:Operand}{lo hi mx:Option Operand}{s:S}{qJ qE qF:Option S}(ho:o.op=.slice t x lo hi mx)(ht:P.underlying t=some (.slice el))(qc:P.info? el=some fi)(h1:I3 G qJ lo=true)(h2:I3 G qE hi=true)(h3:I3 G qF mx=true)(h4:qF.isSome=true->qE.isSome=true)(qH:fi.size≠0)
  (hx:RepV γ w (Ac e s) (a.eval x)) (hE:RepE γ w e a.tmps) (hI:Inv G N γ σ w)
  (h:Af (.slc fi.size s qJ qE qF) e σ=some (v,σ1)):C3 P G N γ σ w ((execOp a.eval o).run P w) v σ1:=by
 simp only[Af,Ci]at h;obtain⟨v',h,hv⟩:=h;cases hv;unfold Io at h
 split at h
 .rename_i e1;rw[e1]at hx;have hu:=Me (Bf rfl hx);simp only[E3]at h;obtain⟨p,hp,q,hq,c,hc,h⟩:=h
  split at h
  .rename_i qf;obtain⟨rfl,rfl,rfl⟩:=qf;cases h;refine Cp hI (u:=.slice none 0 0) ?_ (Df (.row .nils))
   have qw:(Instr.sliceBounds true 0 0 (lo.map a.eval) (hi.map a.eval) (mx.map a.eval)).run P w=.ok (0,0,0) w:=by
    have b0:=Jw (P:=P) (y:=0) (c:=.slice3Acap) h3 hE hI hc;have b1:=Jw (P:=P) (y:=0) (c:=.sliceAcap) h2 hE hI hq;have jy:=Jw (P:=P) (y:=0) (c:=.slice3B) h2 hE hI hq;have b2:=Jw (P:=P) (y:=0) (c:=.sliceB) h1 hE hI hp;have jz:=Jw (P:=P) (y:=0) (c:=.slice3C) h1 hE hI hp
    rcases b0 with⟨rfl,rfl,_⟩ | ⟨sz,xz,rfl,rfl,b0⟩<;>rcases b1 with⟨rfl,rfl,_⟩ | ⟨sx,xx,rfl,rfl,b1⟩<;>rcases b2 with⟨rfl,rfl,_⟩ | ⟨sy,xy,rfl,rfl,b2⟩
    .simp[Instr.sliceBounds]
    .simp[Instr.sliceBounds,b2]
    .simp[Instr.sliceBounds,b1]
    .simp_all [Instr.sliceBounds]
    .grind
    .grind
    .simp_all [Instr.sliceBounds]
    .simp_all [Instr.sliceBounds]
   simp[execOp,ho,hu,Instr.sliceAt,Instr.slice,run_underlying ht,qw,sizeOf,typeInfo,qc]
  grind
 .rename_i t' xs e1;rw[e1]at hx;have jm:=Bf rfl hx;obtain⟨ad,cap,hu,hR,jo⟩:=Tw jm;have qU:xs.length<=cap/\cap<=maxLen:=by cases hR with | lst row h1 h2 h3=>omega
  simp only[E3]at h;obtain⟨p,hp,q,hq,c,hc,h⟩:=h
  split at h
  .rename_i qf;obtain⟨qO,jW,rfl,qK⟩:=qf;cases h
   have qw:∃ m,(Instr.sliceBounds true xs.length cap (lo.map a.eval) (hi.map a.eval) (mx.map a.eval)).run P w=.ok (p,c,m) w/\c<=m/\m<=cap/\(qF.isSome=true->m=c)/\(qF.isSome=false->m=cap):=by
    have b0:=Jw (P:=P) (y:=cap) (c:=.slice3Acap) h3 hE hI hc;have b1:=Jw (P:=P) (y:=cap) (c:=.sliceAcap) h2 hE hI hq;have jy:=Jw (P:=P) (y:=c) (c:=.slice3B) h2 hE hI hq;have b2:=Jw (P:=P) (y:=c) (c:=.sliceB) h1 hE hI hp;have jz:=Jw (P:=P) (y:=c) (c:=.slice3C) h1 hE hI hp;have kh:c<=cap:=by omega
    rcases b0 with⟨rfl,rfl,_⟩ | ⟨sz,xz,rfl,rfl,b0⟩<;>rcases b1 with⟨rfl,rfl,qC⟩ | ⟨sx,xx,rfl,rfl,b1⟩<;>rcases b2 with⟨rfl,rfl,qN⟩ | ⟨sy,xy,rfl,rfl,b2⟩
    .simp_all [Instr.sliceBounds]
    .simp_all [Instr.sliceBounds]
    .simp_all [Instr.sliceBounds]
    .simp_all [Instr.sliceBounds]
    .grind
    .grind
    .simp_all [Instr.sliceBounds]
    .simp_all [Instr.sliceBounds]
   obtain⟨m,qw,kq,kr,kt,ku⟩:=qw
   have jQ:(qF.map (Ac e)).isSome=qF.isSome:=by cases qF<;>rfl
   rw[jQ]
   have qd:(execOp a.eval o).run P w=.ok (.value (.slice (some (if m=p then ad else ad.add (p*fi.size))) (c - p) (m - p))) w:=by
    by_cases qp:m=p
    .simp[execOp,ho,hu,Instr.sliceAt,Instr.slice,run_underlying ht,qw,sizeOf,typeInfo,qc,qp]
    .simp[execOp,ho,hu,Instr.sliceAt,Instr.slice,run_underlying ht,qw,sizeOf,typeInfo,qc,qp]
   have qQ:p<c->ad.spot=none->∀ m',(∀ i,i<xs.length->(xs.getD i []).length=m')->(if m=p then ad else ad.add (p*fi.size))=⟨ad.block,ad.off+p*m',none⟩:=fun qg qY m' qV=>by
    rw[if_neg AA];obtain⟨b,of,sp⟩:=ad;simp at qY;subst qY;rw[Mg];rcases qK with rfl | qK
    .simp
    .have jU:=qV p AA
     grind
   refine Cp hI qd (Df ?_);refine .row (A81 hR qO jW AA AA ?_ qQ)
   grind
  grind
 .rename_i i g off len m' own e1;rw[e1]at hx;have jm:=Bf rfl hx
  split at h
  .cases h
  .rename_i kv;simp only[E3]at h;obtain⟨p,hp,q,hq,h⟩:=h
   split at h
   .rename_i qf;obtain⟨rfl,qO,kw⟩:=qf;cases h;obtain⟨b',o',cap,blk,g',hu,hb,qv,qT,qW,qR,qh⟩:=We jm;obtain rfl:qF=none:=by simp_all
    obtain rfl:mx=none:=by grind[I3]
    have kx:q<=cap:=by omega
    have qw:(Instr.sliceBounds true len cap (lo.map a.eval) (hi.map a.eval) none).run P w=.ok (p,q,cap) w:=by
     have b1:=Jw (P:=P) (y:=cap) (c:=.sliceAcap) h2 hE hI hq;have b2:=Jw (P:=P) (y:=q) (c:=.sliceB) h1 hE hI hp
     rcases b1 with⟨rfl,rfl,qC⟩ | ⟨sx,xx,rfl,rfl,b1⟩<;>rcases b2 with⟨rfl,rfl,qN⟩ | ⟨sy,xy,rfl,rfl,b2⟩
     .simp_all [Instr.sliceBounds]
     .simp_all [Instr.sliceBounds]
     .simp_all [Instr.sliceBounds]
     .simp_all [Instr.sliceBounds]
    have qd:(execOp a.eval o).run P w=.ok (.value (.slice (some (if cap=p then⟨b',o',none⟩ else(⟨b',o',none⟩:Addr).add (p*fi.size))) (q - p) (cap - p))) w:=by
     by_cases qp:cap=p
     .subst qp;rw[if_pos rfl];simp[execOp,ho,hu,Instr.sliceAt,Instr.slice,run_underlying ht,qw,sizeOf,typeInfo,qc]
     .simp[execOp,ho,hu,Instr.sliceAt,Instr.slice,run_underlying ht,qw,sizeOf,typeInfo,qc,qp]
    refine Cp hI qd (Df ?_);by_cases qp:cap=p
    .rw[if_pos qp];exact .sl hb qv AA AA (fun h=>by omega) (fun e=>⟨(qh e).1,fun h=>by grind⟩)
    .rw[if_neg qp,Mg,qR AA];refine .sl hb qv AA AA (fun _=>rfl) (fun e=>⟨(qh e).1,fun h=>?_⟩);rw[(qh e).2 h];congr 1;rw[Aby,<-N0]
     grind
   grind
 grind
def A5a{t el:TypeId}{fi:TypeInfo}{len:Nat}{x:Operand}{lo hi:Option Operand}{s:S}{qJ qE:Option S}(ho:o.op=.slice t x lo hi none)(ht:P.underlying t=some (.array len el))(qc:P.info? el=some fi)(h1:I3 G qJ lo=true)(h2:I3 G qE hi=true)(qj:len<=maxLen)
  (hx:RepV γ w (Ac e s) (a.eval x)) (hE:RepE γ w e a.tmps) (hI:Inv G N γ σ w)
  (h:Af (.slca len fi.size s qJ qE) e σ=some (v,σ1)):C3 P G N γ σ w ((execOp a.eval o).run P w) v σ1:=by
 simp only[Af]at h
 split at h
 .rename_i i g off e1;rw[e1]at hx;simp only[E3]at h;obtain⟨p,hp,q,hq,h⟩:=h
  split at h
  .rename_i qf;obtain⟨qO,ky⟩:=qf;cases h;obtain⟨b',blk,g',hu,hb,qv,qh⟩:=Pd (Bf rfl hx)
   have qw:(Instr.sliceBounds false len len (lo.map a.eval) (hi.map a.eval) none).run P w=.ok (p,q,len) w:=by
    have b1:=Jw (P:=P) (y:=len) (c:=.sliceAlen) h2 hE hI hq;have b2:=Jw (P:=P) (y:=q) (c:=.sliceB) h1 hE hI hp
    rcases b1 with⟨rfl,rfl,qC⟩ | ⟨sx,xx,rfl,rfl,b1⟩<;>rcases b2 with⟨rfl,rfl,qN⟩ | ⟨sy,xy,rfl,rfl,b2⟩
    .simp_all [Instr.sliceBounds]
    .simp_all [Instr.sliceBounds]
    .simp_all [Instr.sliceBounds]
    .simp_all [Instr.sliceBounds]
   have qd:(execOp a.eval o).run P w=.ok (.value (.slice (some (if len=p then⟨b',off,none⟩ else(⟨b',off,none⟩:Addr).add (p*fi.size))) (q - p) (len - p))) w:=by
    by_cases qp:len=p
    .subst qp;rw[if_pos rfl]
     simp_all [execOp,Instr.sliceAt,Instr.sureAddr,run_underlying,sizeOf,typeInfo]
    .simp_all [execOp,Instr.sliceAt,Instr.sureAddr,run_underlying,sizeOf,typeInfo]
   refine Cp hI qd (Df ?_);by_cases qp:len=p
   .rw[if_pos qp];exact .sl hb qv AA AA (fun h=>by omega) (fun e=>⟨qh e,fun h=>absurd h AE⟩)
   .rw[if_neg qp,Mg];exact .sl hb qv AA AA (fun _=>rfl) (fun e=>⟨qh e,fun h=>absurd h AE⟩)
  grind
 grind
