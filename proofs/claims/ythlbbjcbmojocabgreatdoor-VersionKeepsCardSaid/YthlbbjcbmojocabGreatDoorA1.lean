/- THE PLAIN MACHINE, joined texts: Ka Kb Kc Kd Ke Kf Kg Kh Ki. -/
import Derived.WalkKit
import Derived.Below
import Derived.DataReads
import Derived.Laws.AppendOwn
import Derived.Laws.Append
import Derived.Laws.Cells
import Derived.Laws.CopyRow
import Derived.Lib.FrozenHead
import Derived.ChangeKeysEq
import Derived.Lib.Strings
import Derived.Lib.Hide
import Derived.Lib.ConvBytes
import Derived.Laws.MakeOwn
set_option linter.all false
/- THE PLAIN MACHINE, SECOND FORM: values without addresses, objects that may change, operations, code, and what comes of it. No program is named here. -/
namespace Go.Proofs.YthlbbjcbmojocabGreatDoor.KM
open Go
def Af:=@Bool.and_eq_true
def Ah:=@List.length_cons
def Ai:=@Nat.le_refl
def Aj:=@List.length_append
def Aq:=@List.getElem?_eq_some_iff
def Ar:=@Bool.not_true
def As:=@List.all_cons
def Au:=@List.getD_eq_getElem?_getD
def Av:=@List.getElem?_map
def Aw:=@List.map_cons
def Ax:=@Bool.not_false
def A0:=@Nat.zero_le
def A2:=@List.getElem?_eq_getElem
def Ba:=@List.length_map
def Bd:=@List.all_nil
def Bf:=@List.nil_append
def Bh:=@List.all_eq_true
def Bi:=@List.mem_cons
def Bj:=@List.getElem?_set_ne
def Bo:=@Option.map_eq_some_iff
def Bq:=@List.cons_append
def Br:=@List.append_assoc
def Bu:=@Nat.lt_or_ge
def B6:=@List.map_nil
def Ca:=@List.getElem?_append_left
def Cd:=@List.getElem?_append_right
def Ci:=@List.getElem?_set_self
def Cr:=@List.mem_append
def Cs:=@List.mem_cons_of_mem
def Cx:=@List.mem_cons_self
def Cy:=@List.append_nil
def Cz:=@Nat.le_trans
def C1:=@Int.cast_ofNat_Int
def C7:=@Option.bind_some
def C8:=@List.length_nil
def De:=@List.mem_map
def Dx:=@List.length_drop
def D3:=@List.flatten_cons
def D7:=@Option.bind_eq_some_iff
def D8:=@List.take_length
def Ei:=@List.map_append
def En:=@List.mem_range
def Ez:=@Bool.false_eq_true
def E0:=@List.mem_singleton
def E1:=@Nat.succ_mul
def Fc:=@Nat.zero_add
def Fi:=@List.getElem?_take
def Fj:=@List.getElem_mem
def Fq:=@Nat.mul_le_mul_right
def Fr:=@Option.map_some
def Ge:=@List.drop_eq_nil_of_le
def Gr:=@List.drop_eq_getElem_cons
def Gz:=@List.length_take
def Hf:=@Nat.succ_le_of_lt
def Hg:=@List.elem_iff
def Hh:=@Nat.sub_self
def Hx:=@List.mem_of_getElem?
def Hy:=@List.length_set
def Ih:=@List.length_singleton
def Ii:=@List.getElem?_drop
def Ij:=@Bool.or_eq_true
def Ik:=@List.mapM_cons
def I5:=@Bool.not_eq_true'
def I6:=@Bool.false_beq
def I7:=@Bool.true_beq
def Jm:=@List.getElem?_cons_succ
def Jn:=@List.set_append_right
def Ky:=@Option.some.inj
def Li:=@List.take_append_drop
def Lj:=@List.filterMap_cons
def Lk:=@List.not_mem_nil
def Ll:=@List.drop_zero
def Mi:=@List.take_of_length_le
def Mj:=@List.take_add_one
def Mk:=@List.tail_cons
def Nf:=@List.any_eq_true
def Ng:=@Nat.add_mul
def Oh:=@Option.some.injEq
def Oi:=@List.getElem_map
def Oj:=@List.drop_drop
def Ok:=@Nat.add_zero
def Ol:=@List.map_map
def Pq:=@List.getElem_of_mem
def Pt:=@Nat.mod_lt
def Rg:=@Nat.exists_eq_add_of_le
def Rh:=@List.getElem?_toArray
def Ri:=@List.getElem?_eq_none
def Rj:=@List.mem_append_left
def Rk:=@Nat.lt_trichotomy
def Rl:=@Int.toNat_natCast
def Rm:=@Option.getD_some
def Rn:=@List.suffix_cons
def Ta:=@List.replicate_succ
def Tb:=@List.take_succ_cons
def Tc:=@List.dropWhile_cons
def Td:=@List.takeWhile_cons
def Te:=@Nat.lt_of_lt_of_le
def Tf:=@List.getElem_range
def Tg:=@List.ext_getElem?
def Ti:=@List.flatMap_cons
def Tj:=@Nat.mod_eq_of_lt
def Tl:=@List.mem_filter
def Tm:=@List.nodup_nil
def Tn:=@Bool.false_and
def To:=@Nat.add_assoc
def Tq:=@Bool.false_or
def Ts:=@Nat.mul_comm
def V8:=@List.length_eq_zero_iff
def V9:=@List.set_append_left
def Wa:=@List.map_congr_left
def Wb:=@List.getElem?_range
def Wc:=@Nat.eq_zero_or_pos
def Wd:=@List.size_toArray
def We:=@List.drop_suffix
def Wf:=@List.take_left
def Wg:=@Bool.and_false
def Wh:=@Bool.and_true
def Wj:=@Nat.le_of_lt
def Wk:=@List.set_set
def Wn:=@Nat.mul_one
def Za:=@Nat.le_mul_of_pos_right
def Zb:=@List.getElem?_cons_zero
def Zc:=@List.contains_iff_mem
def Zd:=@List.mem_of_mem_take
def Zf:=@List.drop_succ_cons
def Zg:=@List.filterMap_nil
def Zh:=@List.mem_eraseDups
def Zi:=@List.map_singleton
def Zj:=@List.getElem_set
def Zk:=@List.range'_succ
def Zl:=@List.flatten_nil
def Zm:=@List.mem_flatten
def Zn:=@Bool.not_eq_true
def Zo:=@List.lookup_cons
def Zp:=@List.ext_getElem
def Zr:=@List.nodup_cons
def Zs:=@List.take_zero
def Zu:=@List.mapM_nil
def Zv:=@Bool.and_self
def Zw:=@List.map_take
def Z0:=@Nat.add_comm
def Adj:=@List.eq_nil_of_length_eq_zero
def Adk:=@List.pairwise_iff_getElem
def Adl:=@List.length_pos_of_mem
def Adm:=@List.length_replicate
def Adn:=@Bool.or_eq_false_iff
def Ado:=@List.set_cons_succ
def Adp:=@Option.toList_some
def Adq:=@Nat.lt_succ_of_lt
def Adt:=@List.suffix_refl
def Adw:=@Bool.true_and
def Adz:=@Nat.le_of_eq
def Ad0:=@Nat.zero_mul
def Ad1:=@Nat.sub_zero
def Ad2:=@Nat.le_total
def Ad3:=@Nat.pow_succ
def Ad8:=@Int.le_refl
inductive V where
 | und
 | skp
 | bool (b:Bool)
 | int (k:IntKind) (n:Int)
 | str (l:List UInt8)
 | nili
 | ifc
 | nils
 | nilp
 | nilf
 | lst (t:Nat) (xs:List (List V))
 | imm (row:List V) (off:Nat)
 | ptr (i g off:Nat)
 | sl (i g off len m:Nat) (own:Bool)
 | fn (f:Nat) (a c:List V)
 | mp (i:Nat)
 | agg (cs:List V)
 | tup (vs:List V)
inductive S where
 | t (n:Nat)
 | k (v:V)
inductive EqK where
 | bool | nilsl | nilpt | nilfn | nilif | flat (ks:List Nat)
inductive AO where
 | mov (x:S)
 | pick (c a b:S)
 | new (t:Nat) (z:List V)
 | box (t:Nat) (x:S)
 | build (z:List V) (ps:List (Nat × Nat × S))
 | rows (n:Nat) (z:List V) (ps:List (Nat × S))
 | rowf (n:Nat) (z:List V) (ps:List (Nat × S))
 | rowo (t n:Nat) (z:List V) (ps:List (Nat × S))
 | mk (t bytes:Nat) (z:List V) (x y:S)
 | load (n:Nat) (one:Bool) (x:S)
 | store (n:Nat) (x v:S)
 | chk (x:S)
 | bin (o:BinOp) (x y:S)
 | eq (k:EqK) (neg:Bool) (x y:S)
 | un (o:UnOp) (x:S)
 | cvi (k:IntKind) (x:S)
 | cvs (x:S)
 | cvl (x:S)
 | stb (ty:Nat) (x:S)
 | bts (x:S)
 | slc (m:Nat) (x:S) (lo hi mx:Option S)
 | slcs (x:S) (lo hi:Option S)
 | slca (len m:Nat) (x:S) (lo hi:Option S)
 | sap (n:Nat) (x:S)
 | fad (off:Nat) (x:S)
 | fld (off n:Nat) (one:Bool) (x:S)
 | iad (m:Nat) (x i:S)
 | iar (len m:Nat) (x i:S)
 | idx (x i:S)
 | ida (len m:Nat) (one:Bool) (x i:S)
 | ext (i:Nat) (x:S)
 | len (x:S)
 | lens (x:S)
 | app (bytes:Nat) (m:Nat × Nat) (x y:S)
 | apps (ty:Nat) (x y:S)
 | mx (x y:S)
 | mn (x y:S)
 | mkf (f:Nat) (a c:List S)
 | mmk
 | mlk (z:V) (x k:S)
 | mup (x k v:S)
 | call (f:Nat) (xs:List S)
 | callv (x:S) (xs:List S)
structure AI where
 dst:Option Nat
 op:AO
 g:Option (Nat × Bool):=none
inductive AC where
 | skip
 | reg (kill:List Nat) (ops:List AI)
 | drw (kill:List Nat) (qh:List (List Nat)) (ops:List AI)
 | seq (a b:AC)
 | cond (c:S) (kill:List Nat) (x y:AC)
 | blk (id:Nat) (c:AC)
 | loop (keep:List Nat) (c:AC)
 | exit (id:Nat)
 | ret
inductive It where
 | c (c:AC)
 | b (id:Nat)
 | l (keep:List Nat) (c:AC)
abbrev Env:=List (Nat × V)
def Env.get:Env->Nat->V
 | [],_=>.und
 | (m,v)::r,n=>if m=n then v else Env.get r n
def Env.put:Env->Nat->V->Env
 | [],n,v=>[(n,v)]
 | (m,u)::r,n,v=>if m=n then(n,v)::r else(m,u)::Env.put r n v
def Env.putO(e:Env)(d:Option Nat)(v:V):Env:=
 match d with
 | some n=>e.put n v
 | none=>e
def Env.del:Env->List Nat->Env
 | [],_=>[]
 | (m,v)::r,ks=>if ks.elem m then Env.del r ks else(m,v)::Env.del r ks
def Env.keep(e:Env):List Nat->Env
 | []=>[]
 | n::r=>(n,e.get n)::Env.keep e r
inductive Ob where
 | row (cs:List V) (e g z:Nat)
 | map (kvs:List (List UInt8 × V))
 | dead
abbrev St:=List Ob
def Ac(e:Env):S->V
 | .t n=>e.get n
 | .k v=>v
def V.cellB:V->Bool
 | .und | .skp | .agg _ | .tup _=>false
 | _=>true
def V.rowB:V->Bool
 | .bool _ | .int _ _ | .str _ | .nili | .nils | .lst _ _=>true
 | _=>false
def V.cells:V->List V
 | .agg cs=>cs
 | v=>[v]
def Gl(one:Bool)(cs:List V):Option V:=
 if one then(match cs with
  | [c]=>some c
  | _=>none) else some (.agg cs)
def Nw(cs:List V)(off:Nat)(r:List V):Option (List V):=
 if off+r.length<=cs.length then some (cs.take off++r++cs.drop (off+r.length)) else none
def Hm(cs:List V):List (Nat × Nat × V)->Option (List V)
 | []=>some cs
 | (off,n,v)::r=>if v.cells.all V.cellB=true/\v.cells.length=n then(Nw cs off v.cells).bind fun cs'=>Hm cs' r else none
def E6(m:Nat):Nat->List V->List (List V)
 | 0,_=>[]
 | n+1,cs=>cs.take m::E6 m n (cs.drop m)
/-! which objects a value names -/
mutual
def V.refs:V->List Nat
 | .ptr i _ _=>[i]
 | .sl i _ _ _ _ _=>[i]
 | .mp i=>[i]
 | .fn _ a c=>Am a++Am c
 | .agg cs=>Am cs
 | .tup vs=>Am vs
 | _=>[]
def Am:List V->List Nat
 | []=>[]
 | v::r=>v.refs++Am r
end
def Ob.refs:Ob->List Nat
 | .row cs _ _ _=>Am cs
 | .map kvs=>Am (kvs.map (·.2))
 | .dead=>[]
def Fw(σ:St):Nat->List Nat->List Nat
 | 0,js=>js
 | d+1,js=>
  let new:=(js.flatMap fun i=>match σ[i]? with
   | some ob=>ob.refs
   | none=>[]).filter fun i=>!js.elem i
  if new.isEmpty then js else Fw σ d (js++new.eraseDups)
/-! settled copies: what lies in the objects js is taken as it stands -/
def Fk(σ:St)(js:List Nat):Nat->V->Option V
 | 0,_=>none
 | d+1,v=>
  if v.rowB then some v else
  match v with
  | .sl i g off len m _=>if js.elem i then(match σ[i]? with
   | some (.row cs _ g' _)=>if g=g'/\0<m/\off+len*m<=cs.length then(((cs.drop off).take (len*m)).mapM (Fk σ js d)).map fun rs=>.lst 0 (E6 m len rs) else none
   | _=>none) else none
  | _=>none
def G0(σ:St)(js:List Nat)(v:V):Option V:=
 match v with
 | .imm r o=>some (.imm r o)
 | .agg cs=>(cs.mapM (Fk σ js 9)).map .agg
 | v=>Fk σ js 9 v
def Jq(σ:St)(js:List Nat)(v:V):Option V:=
 match v with
 | .tup vs=>(vs.mapM (G0 σ js)).map .tup
 | v=>G0 σ js v
def V.flatB:V->Bool
 | .bool _ | .int _ _ | .str _ | .nili | .ifc | .nils | .nilp | .nilf=>true
 | _=>false
def V.flatV:V->Bool
 | .agg cs=>cs.all V.flatB
 | .tup vs=>vs.all fun v=>v.cells.all V.flatB
 | v=>v.flatB
def Ob.shut:Ob->Ob
 | .row cs e g _=>.row cs e g cs.length
 | o=>o
def St.freeze(σ:St):List Nat->St
 | []=>σ
 | i::js=>match σ[i]? with
  | some ob=>St.freeze (σ.set i ob.shut) js
  | none=>St.freeze σ js
def H9(σ:St)(n:Nat)(one:Bool):V->Option V
 | .imm row off=>if off+n<=row.length then Gl one ((row.drop off).take n) else none
 | .ptr i g off=>match σ[i]? with
  | some (.row cs _ g' _)=>if g=g'/\off+n<=cs.length then Gl one ((cs.drop off).take n) else none
  | _=>none
 | _=>none
def Oy(σ:St)(n:Nat)(x v:V):Option St:=
 match x with
 | .ptr i g off=>match σ[i]? with
  | some (.row cs e g' z)=>if g=g'/\z<=off/\v.cells.length=n/\v.cells.all V.cellB=true then(Nw cs off v.cells).map fun cs'=>σ.set i (.row cs' e g z) else none
  | _=>none
 | _=>none
def eqS:Nat->V->V->Option Bool
 | 0,.bool a,.bool b=>some (a==b)
 | 1,.int k a,.int k' b=>if k=k' then some (a==b) else none
 | 2,.str a,.str b=>some (a==b)
 | _,_,_=>none
def La:List Nat->List V->List V->Option Bool
 | [],[],[]=>some true
 | k::ks,a::r,b::s=>(eqS k a b).bind fun x=>if x then La ks r s else some false
 | _,_,_=>none
def eqB:V->V->Option Bool
 | .bool a,.bool b=>some (a==b)
 | _,_=>none
def Ah7:V->V->Option Bool
 | .nils,.nils=>some true
 | .nils,.lst _ _=>some false
 | .lst _ _,.nils=>some false
 | .nils,.sl _ _ _ _ _ _=>some false
 | .sl _ _ _ _ _ _,.nils=>some false
 | _,_=>none
def Ah8:V->V->Option Bool
 | .nilp,.nilp=>some true
 | .nilp,.ptr _ _ _=>some false
 | .ptr _ _ _,.nilp=>some false
 | .nilp,.imm _ _=>some false
 | .imm _ _,.nilp=>some false
 | _,_=>none
def Ah9:V->V->Option Bool
 | .nilf,.nilf=>some true
 | .fn _ _ _,.nilf=>some false
 | .nilf,.fn _ _ _=>some false
 | _,_=>none
def Aia:V->V->Option Bool
 | .nili,.nili=>some true
 | .ifc,.nili=>some false
 | .nili,.ifc=>some false
 | _,_=>none
def Aib(ks:List Nat):V->V->Option Bool
 | .agg a,.agg b=>if a.length=ks.length/\b.length=ks.length then La ks a b else none
 | _,_=>none
def Mb(k:EqK)(x y:V):Option Bool:=
 match k with
 | .bool=>eqB x y
 | .nilsl=>Ah7 x y
 | .nilpt=>Ah8 x y
 | .nilfn=>Ah9 x y
 | .nilif=>Aia x y
 | .flat ks=>Aib ks x y
def Mt(σ:St):V->Bool
 | .ptr i g _ | .sl i g _ _ _ _=>match σ[i]? with
  | some (.row _ _ g' _)=>g==g'
  | _=>false
 | _=>true
def Aic(o:BinOp)(k:IntKind)(a:Int)(k':IntKind)(b:Int):Option V:=
 match o with
 | .shl=>if b<0 then none else some (.int k (k.wrap (a*2 ^ (min b.toNat k.bits))))
 | .shr=>if b<0 then none else some (.int k (a.fdiv (2 ^ (min b.toNat k.bits))))
 | .add=>if k=k' then some (.int k (k.wrap (a+b))) else none
 | .sub=>if k=k' then some (.int k (k.wrap (a - b))) else none
 | .mul=>if k=k' then some (.int k (k.wrap (a*b))) else none
 | .quo=>if k=k'/\b≠0 then some (.int k (k.wrap (a.tdiv b))) else none
 | .rem=>if k=k'/\b≠0 then some (.int k (a.tmod b)) else none
 | .and=>if k=k' then some (.int k (k.wrap (BitVec.ofInt k.bits a &&& BitVec.ofInt k.bits b).toNat)) else none
 | .or=>if k=k' then some (.int k (k.wrap (BitVec.ofInt k.bits a ||| BitVec.ofInt k.bits b).toNat)) else none
 | .xor=>if k=k' then some (.int k (k.wrap (BitVec.ofInt k.bits a ^^^ BitVec.ofInt k.bits b).toNat)) else none
 | .lss=>if k=k' then some (.bool (decide (a<b))) else none
 | .leq=>if k=k' then some (.bool (decide (a<=b))) else none
 | .gtr=>if k=k' then some (.bool (decide (a > b))) else none
 | .geq=>if k=k' then some (.bool (decide (a>=b))) else none
 | .eql=>if k=k' then some (.bool (a==b)) else none
 | .neq=>if k=k' then some (.bool (a != b)) else none
 | _=>none
def Ak(o:BinOp)(a b:List UInt8):Option V:=
 match o with
 | .add=>if a.length+b.length<=9223372036854775807 then some (.str (a++b)) else none
 | .lss=>some (.bool (Op.bytesLess a b))
 | .leq=>some (.bool (Op.bytesLess a b||a==b))
 | .gtr=>some (.bool !(Op.bytesLess a b||a==b))
 | .geq=>some (.bool !(Op.bytesLess a b))
 | .eql=>some (.bool (a==b))
 | .neq=>some (.bool !(a==b))
 | _=>none
def Ys(o:BinOp)(x y:V):Option V:=
 match x,y with
 | .int k a,.int k' b=>Aic o k a k' b
 | .str a,.str b=>Ak o a b
 | _,_=>none
def unV(o:UnOp)(x:V):Option V:=
 match o,x with
 | .neg,.int k n=>some (.int k (k.wrap (0 - n)))
 | .not,.bool b=>some (.bool !b)
 | .xor,.int k n=>some (.int k (k.wrap (BitVec.ofInt k.bits (if k.signed then -1 else k.max) ^^^ BitVec.ofInt k.bits n).toNat))
 | _,_=>none
def Eb(z:Option V)(d:Nat):Option Nat:=
 match z with
 | none=>some d
 | some (.int _ n)=>if 0<=n then some n.toNat else none
 | _=>none
def Q6(x:V)(lo hi:Option V):Option V:=
 match x with
 | .str l=>(Eb lo 0).bind fun a=>(Eb hi l.length).bind fun b=>if a<=b/\b<=l.length then some (.str ((l.take b).drop a)) else none
 | _=>none
def Pd(m:Nat)(x:V)(lo hi mx:Option V):Option V:=
 match x with
 | .nils=>(Eb lo 0).bind fun a=>(Eb hi 0).bind fun b=>(Eb mx 0).bind fun c=>if a=0/\b=0/\c=0 then some .nils else none
 | .lst t xs=>(Eb lo 0).bind fun a=>(Eb hi xs.length).bind fun b=>(Eb mx b).bind fun c=>
   if a<=b/\b<=xs.length/\c=b/\(a=0\/(xs.all fun r=>r.length==m)=true) then some (.lst (if mx.isSome then 1 else if b=xs.length/\t=1 then 1 else 0) ((xs.take b).drop a)) else none
 | .sl i g off len m' own=>if mx.isSome then none else(Eb lo 0).bind fun a=>(Eb hi len).bind fun b=>if m=m'/\a<=b/\b<=len then some (.sl i g (off+a*m) (b - a) m own) else none
 | _=>none
def Be(l:List UInt8):List (List V):=l.map fun c=>[V.int .u8 (c.toNat:Int)]
def Lp:List (List V)->Option (List UInt8)
 | []=>some []
 | [.int .u8 n]::r=>if 0<=n/\n<256 then(Lp r).map fun l=>UInt8.ofNat n.toNat::l else none
 | _=>none
def Fy(σ:St)(m:Nat):V->Option (List (List V))
 | .nils=>some []
 | .lst _ ys=>some ys
 | .sl i g off len m' _=>match σ[i]? with
  | some (.row cs _ g' _)=>if g=g'/\m=m'/\off+len*m<=cs.length then some (E6 m len (cs.drop off)) else none
  | _=>none
 | _=>none
def J5(bytes:Nat)(m:Nat × Nat)(σ:St)(x:V)(ys:List (List V)):Option (V × St):=
  if(ys.all fun r=>r.length==m.1)=true/\0<m.1 then
   match x with
   | .nils=>if ys.length*bytes<=140737488355328 then(if ys.isEmpty then some (.nils,σ) else some (.sl σ.length 0 0 ys.length m.1 true,σ++[.row ys.flatten m.2 0 0])) else none
   | .lst t xs=>if(xs.length+ys.length)*bytes<=140737488355328 then
     (if ys.isEmpty then some (.lst t xs,σ)
     else if t=1/\(xs.all fun r=>r.length==m.1)=true then some (.sl σ.length 0 0 (xs.length+ys.length) m.1 true,σ++[.row (xs.flatten++ys.flatten) m.2 0 0]) else none) else none
   | .sl i g off len m' own=>if(len+ys.length)*bytes<=140737488355328/\m'=m.1 then(match σ[i]? with
    | some (.row cs e g' z)=>if g=g' then
      (if ys.isEmpty then some (.sl i g off len m' own,σ)
      else if own=true/\off=0/\e=m.2/\z<=len*m' then
       (if(len+ys.length)*m'<=cs.length then some (.sl i g 0 (len+ys.length) m' true,σ.set i (.row (cs.take (len*m')++ys.flatten++cs.drop ((len+ys.length)*m')) e g z))
       else if cs.length=len*m' then some (.sl i (g+1) 0 (len+ys.length) m' true,σ.set i (.row (cs++ys.flatten) e (g+1) z)) else none)
      else none) else none
    | _=>none) else none
   | _=>none
  else none
def I1{α:Type}(l:List α):V->Option α
 | .int _ n=>if 0<=n then l[n.toNat]? else none
 | _=>none
def Mx(k:List UInt8):List (List UInt8 × V)->Nat->Option (Nat × V)
 | [],_=>none
 | (k',v)::r,i=>if k'==k then some (i,v) else Mx k r (i+1)
def Ac3(n:Nat)(x:V):Option V:=
 match x with
 | .lst _ ys=>if 0<n/\n<=ys.length/\(ys.all fun r=>r.length==1)=true then some (.imm ys.flatten 0) else none
 | _=>none
def Ae(o:AO)(e:Env)(σ:St):Option (V × St):=
 match o with
 | .mov x=>some (Ac e x,σ)
 | .pick c a b=>match Ac e c with
  | .bool z=>some (if z then Ac e a else Ac e b,σ)
  | _=>none
 | .new t z=>some (.ptr σ.length 0 0,σ++[.row z t 0 0])
 | .box t x=>if(Ac e x).cells.all V.cellB then some (.ptr σ.length 0 0,σ++[.row (Ac e x).cells t 0 0]) else none
 | .build z ps=>(Hm z (ps.map fun p=>(p.1,p.2.1,Ac e p.2.2))).map fun cs=>(.agg cs,σ)
 | .rows n z ps=>(Hm (List.replicate n z).flatten (ps.map fun p=>(p.1*z.length,z.length,Ac e p.2))).bind fun cs=>if cs.all V.rowB then some (.lst 1 (E6 z.length n cs),σ) else none
 | .rowf n z ps=>(Hm (List.replicate n z).flatten (ps.map fun p=>(p.1*z.length,z.length,Ac e p.2))).bind fun cs=>
   (cs.mapM (Fk σ (Fw σ 9 (Am cs).eraseDups) 9)).map fun cs'=>(.lst 1 (E6 z.length n cs'),σ.freeze (Fw σ 9 (Am cs).eraseDups))
 | .rowo t n z ps=>(Hm (List.replicate n z).flatten (ps.map fun p=>(p.1*z.length,z.length,Ac e p.2))).map fun cs=>(.sl σ.length 0 0 n z.length true,σ++[.row cs t 0 0])
 | .mk t bytes z x y=>match Ac e x,Ac e y with
  | .int .i64 n,.int .i64 c=>if 0<=n/\n<=c/\c.toNat*bytes<=140737488355328 then some (.sl σ.length 0 0 n.toNat z.length true,σ++[.row (List.replicate n.toNat z).flatten t 0 0]) else none
  | _,_=>none
 | .load n one x=>(H9 σ n one (Ac e x)).map fun v=>(v,σ)
 | .store n x v=>(Oy σ n (Ac e x) (Ac e v)).map fun σ'=>(.und,σ')
 | .chk x=>match Ac e x with
  | .imm r o=>some (.imm r o,σ)
  | .ptr b g o=>some (.ptr b g o,σ)
  | _=>none
 | .bin o x y=>(Ys o (Ac e x) (Ac e y)).map fun v=>(v,σ)
 | .eq k neg x y=>(Mb k (Ac e x) (Ac e y)).map fun z=>(.bool (z != neg),σ)
 | .un o x=>(unV o (Ac e x)).map fun v=>(v,σ)
 | .cvi k x=>match Ac e x with
  | .int _ n=>some (.int k (k.wrap n),σ)
  | _=>none
 | .cvs x=>match Ac e x with
  | .str l=>some (.str l,σ)
  | _=>none
 | .cvl x=>match Ac e x with
  | .sl i g off len m w=>match σ[i]? with
   | some (.row _ _ g' z)=>if g=g'/\z=0 then some (.sl i g off len m w,σ) else none
   | _=>none
  | _=>none
 | .stb ty x=>match Ac e x with
  | .str l=>some (.sl σ.length 0 0 l.length 1 true,σ++[.row (Be l).flatten ty 0 0])
  | _=>none
 | .bts x=>(Fy σ 1 (Ac e x)).bind fun xs=>(Lp xs).map fun l=>(.str l,σ)
 | .slcs x lo hi=>(Q6 (Ac e x) (lo.map (Ac e)) (hi.map (Ac e))).map fun v=>(v,σ)
 | .slc m x lo hi mx=>(Pd m (Ac e x) (lo.map (Ac e)) (hi.map (Ac e)) (mx.map (Ac e))).map fun v=>(v,σ)
 | .slca len m x lo hi=>match Ac e x with
  | .ptr i g off=>(Eb (lo.map (Ac e)) 0).bind fun a=>(Eb (hi.map (Ac e)) len).bind fun b=>if a<=b/\b<=len then some (.sl i g (off+a*m) (b - a) m false,σ) else none
  | _=>none
 | .sap n x=>(Ac3 n (Ac e x)).map fun v=>(v,σ)
 | .fad off x=>match Ac e x with
  | .imm r o=>some (.imm r (o+off),σ)
  | .ptr b g o=>some (.ptr b g (o+off),σ)
  | _=>none
 | .fld off n one x=>match Ac e x with
  | .agg cs=>if off+n<=cs.length then(Gl one ((cs.drop off).take n)).map fun v=>(v,σ) else none
  | _=>none
 | .iad m x i=>match Ac e x with
  | .lst _ xs=>(I1 xs (Ac e i)).bind fun r=>if r.length=m then some (.imm r 0,σ) else none
  | .sl j g off len m' _=>match Ac e i with
   | .int _ n=>if 0<=n/\n<len/\m=m' then some (.ptr j g (off+n.toNat*m),σ) else none
   | _=>none
  | _=>none
 | .iar len m x i=>match Ac e i with
  | .int _ n=>if 0<=n/\n<len then(match Ac e x with
   | .imm r o=>some (.imm r (o+n.toNat*m),σ)
   | .ptr b g o=>some (.ptr b g (o+n.toNat*m),σ)
   | _=>none) else none
  | _=>none
 | .idx x i=>match Ac e x with
  | .str l=>(I1 l (Ac e i)).map fun c=>(.int .u8 (c.toNat:Int),σ)
  | _=>none
 | .ida len m one x i=>match Ac e i with
  | .int _ n=>if 0<=n/\n<len then(match Ac e x with
   | .agg cs=>if n.toNat*m+m<=cs.length then(Gl one ((cs.drop (n.toNat*m)).take m)).map fun v=>(v,σ) else none
   | _=>none) else none
  | _=>none
 | .ext i x=>match Ac e x with
  | .tup vs=>(vs[i]?).map fun v=>(v,σ)
  | _=>none
 | .lens x=>match Ac e x with
  | .str l=>some (.int .i64 (l.length:Int),σ)
  | _=>none
 | .len x=>match Ac e x with
  | .nils=>some (.int .i64 0,σ)
  | .lst _ xs=>some (.int .i64 (xs.length:Int),σ)
  | .sl _ _ _ len _ _=>some (.int .i64 (len:Int),σ)
  | _=>none
 | .app bytes m x y=>(Fy σ m.1 (Ac e y)).bind fun ys=>J5 bytes m σ (Ac e x) ys
 | .apps ty x y=>match Ac e y with
  | .str l=>J5 1 (1,ty) σ (Ac e x) (Be l)
  | _=>none
 | .mx x y=>match Ac e x,Ac e y with
  | .int k a,.int k' b=>if k=k' then some (.int k (max a b),σ) else none
  | _,_=>none
 | .mn x y=>match Ac e x,Ac e y with
  | .int k a,.int k' b=>if k=k' then some (.int k (min a b),σ) else none
  | _,_=>none
 | .mkf f a c=>if(a.map (Ac e)).all V.cellB&&(c.map (Ac e)).all V.cellB then some (.fn f (a.map (Ac e)) (c.map (Ac e)),σ) else none
 | .mmk=>some (.mp σ.length,σ++[.map []])
 | .mlk z x k=>match Ac e x,Ac e k with
  | .mp i,.str s=>match σ[i]? with
   | some (.map kvs)=>some (match Mx s kvs 0 with
    | some (_,v)=>v
    | none=>z,σ)
   | _=>none
  | _,_=>none
 | .mup x k v=>match Ac e x,Ac e k with
  | .mp i,.str s=>match σ[i]? with
   | some (.map kvs)=>if(Ac e v).flatB then some (.und,σ.set i (.map (match Mx s kvs 0 with
    | some (j,_)=>kvs.set j (s,Ac e v)
    | none=>kvs++[(s,Ac e v)]))) else none
   | _=>none
  | _,_=>none
 | .call _ _=>none
 | .callv _ _=>none
def B7(e:Env):AO->Option (Nat × List V)
 | .call f xs=>some (f,xs.map (Ac e))
 | .callv x xs=>match Ac e x with
  | .fn f a c=>some (f,a++xs.map (Ac e)++c)
  | _=>none
 | _=>none
inductive AR where
 | tmp (t:Nat)
 | cell (t n:Nat) (one:Bool)
structure AF where
 pars:Nat
 res:List AR
 thr:Bool
 body:AC
 spec:Option (List V->St->Option (V × St)):=none
def Da:Nat->List V->Env
 | _,[]=>[]
 | n,v::vs=>(n,v)::Da (n+1) vs
def F5(e:Env)(σ:St):AR->Option V
 | .tmp t=>some (e.get t)
 | .cell t n one=>H9 σ n one (e.get t)
def Ch(e:Env)(σ:St):List AR->Option V
 | [r]=>F5 e σ r
 | rs=>(rs.mapM (F5 e σ)).map .tup
def exitTo(id:Nat):List It->Option (List It)
 | []=>none
 | .b i::k=>if i=id then some k else exitTo id k
 | _::k=>exitTo id k
def Ct(e:Env)(i:AI):Option Bool:=
 match i.g with
 | none=>some true
 | some (t,want)=>match e.get t with
  | .bool b=>some (b==want)
  | .skp=>some false
  | _=>none
def K7(qh:List (List Nat))(qK:List Nat)(i:Nat):Bool:=!qK.elem i&&(qh.getD i []).all fun j=>qK.elem j
def Nx(qh:List (List Nat)):Nat->Nat->List Nat->List Nat
 | 0,_,acc=>acc.reverse
 | fuel+1,t,acc=>
  let rs:=(List.range qh.length).filter (K7 qh acc)
  match rs[t % rs.length]? with
  | some i=>Nx qh fuel (t / rs.length) (i::acc)
  | none=>acc.reverse
def N7(qh:List (List Nat))(t:Nat):List Nat:=Nx qh qh.length t []
def Dk(ops:List AI)(l:List Nat):List AI:=l.filterMap (ops[·]?)
/-! what a call leaves: the objects that were (n of them), and of the others those that are still named (js), under new numbers -/
def ren(n:Nat)(js:List Nat)(i:Nat):Nat:=if i<n then i else n+js.findIdx (·==i)
mutual
def V.ren(ρ:Nat->Nat):V->V
 | .ptr i g o=>.ptr (ρ i) g o
 | .sl i g o l m w=>.sl (ρ i) g o l m w
 | .mp i=>.mp (ρ i)
 | .fn f a c=>.fn f (Hq ρ a) (Hq ρ c)
 | .agg cs=>.agg (Hq ρ cs)
 | .tup vs=>.tup (Hq ρ vs)
 | v=>v
def Hq(ρ:Nat->Nat):List V->List V
 | []=>[]
 | v::r=>v.ren ρ::Hq ρ r
end
def Ob.ren(ρ:Nat->Nat):Ob->Ob
 | .row cs e g z=>.row (Hq ρ cs) e g z
 | .map kvs=>.map (kvs.map fun p=>(p.1,p.2.ren ρ))
 | .dead=>.dead
def Iq:V->Bool
 | .agg cs=>cs.all V.cellB
 | v=>v.cellB
def Cq:V->Bool
 | .tup vs=>vs.all Iq
 | v=>Iq v
def Ey(n:Nat)(js:List Nat)(is:List Nat):Bool:=is.all fun i=>decide (i<n)||js.elem i
def Aks(n:Nat)(v:V)(σ':St):Bool:=Cq v&&(Ey n [] v.refs&&(σ'.take n).all fun o=>Ey n [] o.refs)
def Hz(n:Nat)(js:List Nat)(v:V)(σ':St):Bool:=
 Cq v&&(Ey n js v.refs&&(((σ'.take n++js.filterMap (σ'[·]?)).all fun o=>Ey n js o.refs)&&(decide js.Nodup&&js.all fun i=>decide (n<=i)&&decide (i<σ'.length))))
def leave(n:Nat)(v:V)(σ':St):Option (V × St):=
 if Aks n v σ' then some (v,σ'.take n) else
  let js:=(Fw σ' 9 ((v.refs++(σ'.take n).flatMap Ob.refs).eraseDups)).filter fun i=>decide (n<=i)
  if Hz n js v σ' then some (v.ren (ren n js),(σ'.take n++js.filterMap (σ'[·]?)).map (Ob.ren (ren n js))) else none
inductive J where
 | fn (f:Nat) (args:List V) (σ:St) (v:V) (σ':St)
 | ops (l:List AI) (e:Env) (σ:St) (e':Env) (σ':St)
 | code (k:List It) (e:Env) (σ:St) (e':Env) (σ':St)
def N3(σ:St)(args:List V):List Nat:=Fw σ 9 (Am args).eraseDups
def Dl(σ:St)(args:List V):Option (List V):=args.mapM (G0 σ (N3 σ args))
def after(σ:St)(args:List V)(v:V):St:=if v.flatV then σ else σ.freeze (N3 σ args)
def own(σ:St)(args:List V)(σ0:St):St:=σ.freeze (N3 σ args)++σ0.map (Ob.ren (·+σ.length))
def Es(σ':St)(v:V):Option V:=Jq σ' (Fw σ' 9 v.refs.eraseDups) v
inductive Ev (T:Nat->Option AF) (pr:Nat->Option (List V->Option V)):J->Prop
 | opsNil {e:Env} {σ:St}:Ev T pr (.ops [] e σ e σ)
 | opsSkip {i:AI} {l:List AI} {e e':Env} {σ σ':St}:Ct e i=some false->Ev T pr (.ops l (e.putO i.dst .skp) σ e' σ')->Ev T pr (.ops (i::l) e σ e' σ')
 | opsVal {i:AI} {l:List AI} {e e':Env} {σ σ1 σ':St} {v:V}:Ct e i=some true->Ae i.op e σ=some (v,σ1)->Ev T pr (.ops l (e.putO i.dst v) σ1 e' σ')->Ev T pr (.ops (i::l) e σ e' σ')
 | opsPrim {i:AI} {f:Nat} {args:List V} {l:List AI} {e e':Env} {σ σ':St} {s:List V->Option V} {vs:List V} {v:V}:Ct e i=some true->B7 e i.op=some (f,args)->pr f=some s ->
   Dl σ args=some vs->s vs=some v->Ev T pr (.ops l (e.putO i.dst v) (after σ args v) e' σ')->Ev T pr (.ops (i::l) e σ e' σ')
 | opsPure {i:AI} {f:Nat} {args:List V} {l:List AI} {e e':Env} {σ σ0 σ':St} {F:AF} {vs:List V} {v v':V}:Ct e i=some true->B7 e i.op=some (f,args)->T f=some F->F.thr=false->F.spec=none ->
   Dl σ args=some vs->Ev T pr (.fn f vs [] v σ0)->Es σ0 v=some v'->Ev T pr (.ops l (e.putO i.dst v') (after σ args v') e' σ')->Ev T pr (.ops (i::l) e σ e' σ')
 | opsOwn {i:AI} {f:Nat} {args:List V} {l:List AI} {e e':Env} {σ σ0 σ':St} {F:AF} {vs:List V} {v:V}:Ct e i=some true->B7 e i.op=some (f,args)->T f=some F->F.thr=false->F.spec=none ->
   Dl σ args=some vs->Ev T pr (.fn f vs [] v σ0)->Ev T pr (.ops l (e.putO i.dst (v.ren (·+σ.length))) (own σ args σ0) e' σ')->Ev T pr (.ops (i::l) e σ e' σ')
 | opsAny {i:AI} {f:Nat} {args:List V} {l:List AI} {e e':Env} {σ σ1 σ':St} {F:AF} {v:V}:Ct e i=some true->B7 e i.op=some (f,args)->T f=some F->F.spec=none ->
   Ev T pr (.fn f args σ v σ1)->Ev T pr (.ops l (e.putO i.dst v) σ1 e' σ')->Ev T pr (.ops (i::l) e σ e' σ')
 | opsThr {i:AI} {f:Nat} {args:List V} {l:List AI} {e e':Env} {σ σ1 σ':St} {F:AF} {v:V}:Ct e i=some true->B7 e i.op=some (f,args)->T f=some F->F.thr=true->F.spec=none ->
   Ev T pr (.fn f args σ v σ1)->Ev T pr (.ops l (e.putO i.dst v) σ1 e' σ')->Ev T pr (.ops (i::l) e σ e' σ')
 | opsSpec {i:AI} {f:Nat} {args:List V} {l:List AI} {e e':Env} {σ σ1 σ':St} {F:AF} {s:List V->St->Option (V × St)} {v:V}:Ct e i=some true->B7 e i.op=some (f,args)->T f=some F->F.thr=true->F.spec=some s ->
   s args σ=some (v,σ1)->Ev T pr (.ops l (e.putO i.dst v) σ1 e' σ')->Ev T pr (.ops (i::l) e σ e' σ')
 | fn {f:Nat} {args:List V} {σ σ':St} {e':Env} {F:AF} {v:V}:T f=some F->F.spec=none->args.length=F.pars->Ev T pr (.code [.c F.body] (Da 0 args) σ e' σ')->Ch e' σ' F.res=some v ->
   Cq v=true->Ey σ.length [] v.refs=true->(∀ i ob,i<σ.length->σ'[i]?=some ob->σ[i]?=some ob\/Ey σ.length [] ob.refs=true)->Ev T pr (.fn f args σ v (σ'.take σ.length))
 | fnL {f:Nat} {args:List V} {σ σ':St} {e':Env} {F:AF} {v:V} {js:List Nat}:T f=some F->F.spec=none->args.length=F.pars->Ev T pr (.code [.c F.body] (Da 0 args) σ e' σ')->Ch e' σ' F.res=some v ->
   Hz σ.length js v σ'=true->Ev T pr (.fn f args σ (v.ren (ren σ.length js)) ((σ'.take σ.length++js.filterMap (σ'[·]?)).map (Ob.ren (ren σ.length js))))
 | fnS {f:Nat} {args:List V} {σ σ':St} {e':Env} {F:AF} {v v':V} {js:List Nat}:T f=some F->F.spec=none->args.length=F.pars->Ev T pr (.code [.c F.body] (Da 0 args) σ e' σ')->Ch e' σ' F.res=some v ->
   Cq v=true->Jq σ' js v=some v'->Ey σ.length [] v'.refs=true->(∀ i ob,i<σ.length->(σ'.freeze js)[i]?=some ob->σ[i]?=some ob\/Ey σ.length [] ob.refs=true)->Ev T pr (.fn f args σ v' ((σ'.freeze js).take σ.length))
 | fnZ {f:Nat} {args:List V} {σ σ':St} {e':Env} {F:AF} {v v':V} {js ks:List Nat}:T f=some F->F.spec=none->args.length=F.pars->Ev T pr (.code [.c F.body] (Da 0 args) σ e' σ')->Ch e' σ' F.res=some v ->
   Cq v=true->Jq σ' js v=some v'->Hz σ.length ks v' (σ'.freeze js)=true->Ev T pr (.fn f args σ (v'.ren (ren σ.length ks)) (((σ'.freeze js).take σ.length++ks.filterMap ((σ'.freeze js)[·]?)).map (Ob.ren (ren σ.length ks))))
 | cNil {e:Env} {σ:St}:Ev T pr (.code [] e σ e σ)
 | cSkip {k:List It} {e e':Env} {σ σ':St}:Ev T pr (.code k e σ e' σ')->Ev T pr (.code (.c .skip::k) e σ e' σ')
 | cReg {kill:List Nat} {ops:List AI} {k:List It} {e e1 e':Env} {σ σ1 σ':St}:Ev T pr (.ops ops e σ e1 σ1)->Ev T pr (.code k (e1.del kill) σ1 e' σ')->Ev T pr (.code (.c (.reg kill ops)::k) e σ e' σ')
 | cDrw {kill:List Nat} {qh:List (List Nat)} {ops:List AI} {k:List It} {e e1 e':Env} {σ σ1 σ':St} (E2:Nat->Env):(∀ t,Ev T pr (.ops (Dk ops (N7 qh t)) e σ (E2 t) σ1))->(∀ t n,(E2 t).get n=e1.get n)->Ev T pr (.code k (e1.del kill) σ1 e' σ')->Ev T pr (.code (.c (.drw kill qh ops)::k) e σ e' σ')
 | cSeq {a b:AC} {k:List It} {e e':Env} {σ σ':St}:Ev T pr (.code (.c a::.c b::k) e σ e' σ')->Ev T pr (.code (.c (.seq a b)::k) e σ e' σ')
 | cCond {c:S} {kill:List Nat} {x y:AC} {k:List It} {e e':Env} {σ σ':St} {z:Bool}:Ac e c=.bool z->Ev T pr (.code (.c (if z then x else y)::k) (e.del kill) σ e' σ')->Ev T pr (.code (.c (.cond c kill x y)::k) e σ e' σ')
 | cBlk {id:Nat} {c:AC} {k:List It} {e e':Env} {σ σ':St}:Ev T pr (.code (.c c::.b id::k) e σ e' σ')->Ev T pr (.code (.c (.blk id c)::k) e σ e' σ')
 | cEnd {id:Nat} {k:List It} {e e':Env} {σ σ':St}:Ev T pr (.code k e σ e' σ')->Ev T pr (.code (.b id::k) e σ e' σ')
 | cLoop {keep:List Nat} {c:AC} {k:List It} {e e':Env} {σ σ':St}:Ev T pr (.code (.l keep c::k) e σ e' σ')->Ev T pr (.code (.c (.loop keep c)::k) e σ e' σ')
 | cAgain {keep:List Nat} {c:AC} {k:List It} {e e':Env} {σ σ':St}:Ev T pr (.code (.c c::.l keep c::k) (e.keep keep) σ e' σ')->Ev T pr (.code (.l keep c::k) e σ e' σ')
 | cExit {id:Nat} {k k':List It} {e e':Env} {σ σ':St}:exitTo id k=some k'->Ev T pr (.code k' e σ e' σ')->Ev T pr (.code (.c (.exit id)::k) e σ e' σ')
 | cRet {k:List It} {e:Env} {σ:St}:Ev T pr (.code (.c .ret::k) e σ e σ)
abbrev Em:=Nat->Option Nat
inductive RepR (κ:Em) (w:World):V->Value->Prop
 | bool {b:Bool}:RepR κ w (.bool b) (.bool b)
 | int {k:IntKind} {n:Int}:RepR κ w (.int k n) (.int k n)
 | str {l:List UInt8}:l.length<=maxLen->RepR κ w (.str l) (.string ⟨l.toArray⟩)
 | nili:RepR κ w .nili .nilIface
 | ifc {t:TypeId} {u:Value}:RepR κ w .ifc (.iface t u)
 | nils:RepR κ w .nils (.slice none 0 0)
 | lst {t:Nat} {xs:List (List V)} {a:Addr} {cap m:Nat} (row:Nat->Nat->Value) :
   (t=1->cap=xs.length)->xs.length<=cap->cap<=maxLen ->
   (0<xs.length->a.spot=none/\∃ k,κ a.block=some k/\a.off+xs.length*m<=k) ->
   (∀ i,i<xs.length->(xs.getD i []).length=m) ->
   (∀ i j,i<xs.length->j<m->w.cell? ⟨a.block,a.off+i*m+j,none⟩=some (row i j)) ->
   (∀ i j,i<xs.length->j<m->RepR κ w ((xs.getD i []).getD j .und) (row i j)) ->
   RepR κ w (.lst t xs) (.slice (some a) xs.length cap)
structure Gh where
 κ:Em
 O:List (Nat × Nat)
def Ea(w:World)(b:Nat):Option Nat:=match w.heap[b]? with
 | some (.cells c _ _)=>some c.size
 | _=>none
inductive RepC (γ:Gh) (w:World):V->Value->Prop
 | row {v:V} {u:Value}:RepR γ.κ w v u->RepC γ w v u
 | imm {r:List V} {off b o k:Nat} (row:Nat->Value):γ.κ b=some k->o+r.length<=k->(∀ j,j<r.length->w.cell? ⟨b,o+j,none⟩=some (row j))->(∀ j,j<r.length->RepR γ.κ w (r.getD j .und) (row j)) ->
   RepC γ w (.imm r off) (.pointer (some ⟨b,o+off,none⟩))
 | ptr {i g off blk g' b':Nat}:γ.O[i]?=some (blk,g')->g<=g'->(g=g'->b'=blk)->RepC γ w (.ptr i g off) (.pointer (some ⟨b',off,none⟩))
 | sl {i g off len m blk g' b' o' cap:Nat} {own:Bool}:γ.O[i]?=some (blk,g')->g<=g'->len<=cap->cap<=maxLen->(0<cap->o'=off)->(g=g'->b'=blk/\(own=true->Ea w blk=some (off+cap*m)))->RepC γ w (.sl i g off len m own) (.slice (some ⟨b',o',none⟩) len cap)
 | nilp:RepC γ w .nilp (.pointer none)
 | nilf:RepC γ w .nilf .nilFunc
 | ifc {t:TypeId} {u:Value}:RepC γ w .ifc (.iface t u)
 | fn {f:Nat} {a c:List V} {ua uc:List Value}:a.length=ua.length->c.length=uc.length->(∀ j,j<a.length->RepC γ w (a.getD j .und) (ua.getD j undef))->(∀ j,j<c.length->RepC γ w (c.getD j .und) (uc.getD j undef))->RepC γ w (.fn f a c) (.func (.func f) ua.toArray uc.toArray)
 | mp {i blk g':Nat} {u:Value}:γ.O[i]?=some (blk,g')->u.oneCell'=true->(g'=0->u=.map (some blk))->RepC γ w (.mp i) u
inductive Rep1 (γ:Gh) (w:World):V->Value->Prop
 | cell {v:V} {u:Value}:RepC γ w v u->Rep1 γ w v u
 | agg {cs:List V} {us:List Value}:cs.length=us.length->(∀ j,j<cs.length->RepC γ w (cs.getD j .und) (us.getD j undef))->Rep1 γ w (.agg cs) (.agg us.toArray)
inductive RepV (γ:Gh) (w:World):V->Value->Prop
 | und {u:Value}:RepV γ w .und u
 | skp:RepV γ w .skp undef
 | one {v:V} {u:Value}:Rep1 γ w v u->RepV γ w v u
 | tup {vs:List V} {us:List Value}:vs.length=us.length->(∀ j,j<vs.length->Rep1 γ w (vs.getD j .und) (us.getD j undef))->RepV γ w (.tup vs) (.tuple us.toArray)
structure Ext (γ:Gh) (w:World) (γ':Gh) (w':World):Prop where
 kap:∀ (b k:Nat),γ.κ b=some k->∃ k',γ'.κ b=some k'/\k<=k'
 cell:∀ (b k o:Nat),γ.κ b=some k->o<k->w'.cell? ⟨b,o,none⟩=w.cell? ⟨b,o,none⟩
 obj:∀ (i blk g:Nat),γ.O[i]?=some (blk,g)->∃ qP g',γ'.O[i]?=some (qP,g')/\g<=g'/\(g'=g->qP=blk/\Ea w' blk=Ea w blk)
def Ext.refl(γ:Gh)(w:World):Ext γ w γ w:=
 ⟨fun _ k h=>⟨k,h,Ai _⟩,fun _ _ _ _ _=>rfl,fun _ blk g h=>⟨blk,g,h,Ai _,fun _=>⟨rfl,rfl⟩⟩⟩
def Ext.trans{γ γ' γ'':Gh}{w w' jX:World}(h:Ext γ w γ' w')(g:Ext γ' w' γ'' jX):Ext γ w γ'' jX where
 kap:=fun b k hb=>by
  obtain⟨k',h1,h2⟩:=h.kap b k hb;obtain⟨kG,g1,g2⟩:=g.kap b k' h1;exact⟨kG,g1,Cz h2 g2⟩
 cell:=fun b k o hb ho=>by
  obtain⟨k',h1,h2⟩:=h.kap b k hb;exact(g.cell b k' o h1 (Te ho h2)).trans (h.cell b k o hb ho)
 obj:=fun i blk gn hi=>by
  obtain⟨b1,g1,h1,h2,h3⟩:=h.obj i blk gn hi;obtain⟨b2,g2,k1,k2,k3⟩:=g.obj i b1 g1 h1;refine⟨b2,g2,k1,Cz h2 k2,fun e=>?_⟩;obtain⟨rfl,a2⟩:=h3 (by omega);obtain⟨rfl,c2⟩:=k3 (by omega);exact⟨rfl,c2.trans a2⟩
def RepR.keep{κ κ':Em}{w w':World}(hk:∀ b k,κ b=some k->∃ k',κ' b=some k'/\k<=k')(hc:∀ b k o,κ b=some k->o<k->w'.cell? ⟨b,o,none⟩=w.cell? ⟨b,o,none⟩){v:V}{u:Value}(h:RepR κ w v u):RepR κ' w' v u:=by
 induction h with
 | bool=>exact .bool
 | int=>exact .int
 | str h=>exact .str h
 | nili=>exact .nili
 | ifc=>exact .ifc
 | nils=>exact .nils
 | @lst t xs a cap m row h1 h2 h3 h4 h5 h6 _ ih=>
  refine .lst row h1 h2 h3 (fun hl=>?_) h5 (fun i j hi hj=>?_) ih
  .obtain⟨hs,k,jA,qf⟩:=h4 hl;obtain⟨k',qg,jB⟩:=hk _ _ jA;exact⟨hs,k',qg,Cz qf jB⟩
  .obtain⟨hs,k,jA,qf⟩:=h4 (by omega);have:i*m+m<=xs.length*m:=by rw[<-E1];exact Fq _ hi
   exact(hc _ _ _ jA (by omega)).trans (h6 i j hi hj)
section
variable {γ γ':Gh} {w w':World}
def RepC.ext(hx:Ext γ w γ' w'){v:V}{u:Value}(h:RepC γ w v u):RepC γ' w' v u:=by
 induction h with
 | row h=>exact .row (h.keep hx.kap hx.cell)
 | imm row h1 h2 h3 h4=>
  obtain⟨k',qg,qf⟩:=hx.kap _ _ h1;exact .imm row qg (Cz h2 qf) (fun j hj=>(hx.cell _ _ _ h1 (by omega)).trans (h3 j hj)) (fun j hj=>(h4 j hj).keep hx.kap hx.cell)
 | ptr h1 h2 h3=>
  obtain⟨b1,g1,k1,k2,k3⟩:=hx.obj _ _ _ h1;refine .ptr k1 (Cz h2 k2) (fun e=>?_);obtain⟨rfl,_⟩:=k3 (by omega);exact h3 (by omega)
 | sl h1 h2 h3 h4 h5 h6=>
  obtain⟨b1,g1,k1,k2,k3⟩:=hx.obj _ _ _ h1;refine .sl k1 (Cz h2 k2) h3 h4 h5 (fun e=>?_);obtain⟨rfl,hs⟩:=k3 (by omega);obtain⟨a1,a2⟩:=h6 (by omega);exact⟨a1,fun h=>hs.trans (a2 h)⟩
 | nilp=>exact .nilp
 | nilf=>exact .nilf
 | ifc=>exact .ifc
 | fn h1 h2 _ _ ih1 ih2=>exact .fn h1 h2 ih1 ih2
 | mp h1 h2 h3=>
  obtain⟨b1,g1,k1,k2,k3⟩:=hx.obj _ _ _ h1;refine .mp k1 h2 (fun e=>?_);obtain⟨rfl,_⟩:=k3 (by omega);exact h3 (by omega)
def Rep1.ext(hx:Ext γ w γ' w'){v:V}{u:Value}(h:Rep1 γ w v u):Rep1 γ' w' v u:=by
 cases h with
 | cell h=>exact .cell (h.ext hx)
 | agg h1 h2=>exact .agg h1 (fun j hj=>(h2 j hj).ext hx)
def RepV.ext(hx:Ext γ w γ' w'){v:V}{u:Value}(h:RepV γ w v u):RepV γ' w' v u:=by
 cases h with
 | und=>exact .und
 | skp=>exact .skp
 | one h=>exact .one (h.ext hx)
 | tup h1 h2=>exact .tup h1 (fun j hj=>(h2 j hj).ext hx)
end
def RepE(γ:Gh)(w:World)(e:Env)(a:Array Value):Prop:=∀ n,RepV γ w (e.get n) (a.getD n undef)
def RepE.ext{γ γ':Gh}{w w':World}(hx:Ext γ w γ' w'){e:Env}{a:Array Value}(h:RepE γ w e a):RepE γ' w' e a:=fun n=>(h n).ext hx
def Env.get_put(e:Env)(n m:Nat)(v:V):(e.put n v).get m=if n=m then v else e.get m:=by
 induction e with
 | nil=>simp[Env.put,Env.get]
 | cons p r ih=>
  obtain⟨k,u⟩:=p;unfold Env.put;by_cases h:k=n
  .rw[if_pos h];subst h;unfold Env.get
   split<;>simp_all
  .rw[if_neg h];unfold Env.get;rw[ih];by_cases hk:k=m
   .simp[hk];rintro rfl;exact absurd hk h
   .simp[hk]
def Env.get_del(e:Env)(ks:List Nat)(m:Nat):(e.del ks).get m=.und\/(e.del ks).get m=e.get m:=by
 induction e with
 | nil=>exact .inl rfl
 | cons p r ih=>
  obtain⟨k,u⟩:=p;unfold Env.del
  split
  .rename_i hk;by_cases h:k=m
   .subst h;left;clear ih
    induction r with
    | nil=>rfl
    | cons q r ih=>
     obtain⟨k',u'⟩:=q;unfold Env.del
     split
     .exact ih
     .rename_i qg;unfold Env.get;rw[if_neg (by rintro rfl;exact qg hk)];exact ih
   .rcases ih with ih | ih
    .exact .inl ih
    .right;rw[ih];simp[Env.get,h]
  .unfold Env.get
   split
   .exact .inr rfl
   .exact ih
def Env.get_keep(e:Env):∀ (ks:List Nat) (m:Nat),(e.keep ks).get m=.und\/(e.keep ks).get m=e.get m
 | [],_=>.inl rfl
 | k::ks,m=>by
  simp only[Env.keep];rw[Env.get.eq_2]
  split
  .rename_i h;subst h;exact .inr rfl
  .exact Env.get_keep e ks m
def RepE.del{γ:Gh}{w:World}{e:Env}{a:Array Value}(h:RepE γ w e a)(ks:List Nat):RepE γ w (e.del ks) a:=fun n=>by
 rcases Env.get_del e ks n with h' | h'
 .rw[h'];exact .und
 .rw[h'];exact h n
def RepE.keep{γ:Gh}{w:World}{e:Env}{a:Array Value}(h:RepE γ w e a)(ks:List Nat):RepE γ w (e.keep ks) a:=fun n=>by
 rcases Env.get_keep e ks n with h' | h'
 .rw[h'];exact .und
 .rw[h'];exact h n
def RepE.put{γ:Gh}{w:World}{e:Env}{a:Array Value}(h:RepE γ w e a){d:Nat}{v:V}{u:Value}(hd:d<a.size)(hv:RepV γ w v u):RepE γ w (e.put d v) (a.setIfInBounds d u):=fun n=>by
 rw[Env.get_put]
 split
 .rename_i hn;subst hn;simpa[Array.getD_eq_getD_getElem?,hd] using hv
 .rename_i hn;have:(a.setIfInBounds d u).getD n undef=a.getD n undef:=by simp[Array.getD_eq_getD_getElem?,Array.getElem?_setIfInBounds,hn]
  rw[this];exact h n
def ObOk(γ:Gh)(w:World)(ob:Ob)(p:Nat × Nat):Prop:=
 match ob with
 | .row cs e g z=>p.2=g/\γ.κ p.1=some z/\z<=cs.length/\∃ us lo hi,w.heap[p.1]?=some (.cells us e (lo,hi))/\(lo<=hi/\(hi<=z\/us.size<=lo))/\cs.length<=us.size/\∀ j,j<cs.length->RepC γ w (cs.getD j .und) (us.getD j undef)
 | .map kvs=>p.2=0/\γ.κ p.1=none/\∃ es:Array MapEntry,w.heap[p.1]?=some (.map es kvs.length)/\es.size=kvs.length/\∀ (i:Nat) (k:List UInt8) (v:V),kvs[i]?=some (k,v)->∃ en:MapEntry,es[i]?=some en/\en.key=.string ⟨k.toArray⟩/\k.length<=maxLen/\en.born=i/\v.flatB=true/\RepC γ w v en.val
 | .dead=>p.1<w.heap.size
structure Inv (G:List (Nat × List V)) (N:Nat) (γ:Gh) (σ:St) (w:World):Prop where
 base:N<=w.heap.size
 len:γ.O.length=σ.length
 nd:(γ.O.map (·.1)).Nodup
 low:∀ (i:Nat) (p:Nat × Nat),γ.O[i]?=some p->N<=p.1
 obj:∀ (i:Nat) (ob:Ob) (p:Nat × Nat),σ[i]?=some ob->γ.O[i]?=some p->ObOk γ w ob p
 dom:∀ b k,γ.κ b=some k->b<w.heap.size
 glob:∀ g r,(g,r)∈G->RepC γ w (.imm r 0) (.pointer (some ⟨g,0,none⟩))
 gsz:∀ g r,(g,r)∈G->g<N/\Ea w g=some r.length
open Go Go.RowKit
variable {G:List (Nat × List V)} {N:Nat} {γ:Gh} {σ:St} {w w':World}
def Inv.at(h:Inv G N γ σ w){i:Nat}{p:Nat × Nat}(hp:γ.O[i]?=some p):∃ ob,σ[i]?=some ob/\ObOk γ w ob p:=by
 have hi:i<σ.length:=by have:=h.len;have:=(Aq.1 hp).1;omega
 exact⟨σ[i],A2 hi,h.obj i _ p (A2 hi) hp⟩
def Inv.of(h:Inv G N γ σ w){i:Nat}{ob:Ob}(ho:σ[i]?=some ob):∃ p,γ.O[i]?=some p/\ObOk γ w ob p:=by
 have hi:i<γ.O.length:=by have:=h.len;have:=(Aq.1 ho).1;omega
 exact⟨γ.O[i],A2 hi,h.obj i _ _ ho (A2 hi)⟩
def ObOk.lt{ob:Ob}{p:Nat × Nat}(h:ObOk γ w ob p):p.1<w.heap.size:=by
 cases ob with
 | row cs e g z=>
  obtain⟨_,_,_,us,lo,hi,h1,_⟩:=h;exact(Array.getElem?_eq_some_iff.1 h1).1
 | map kvs=>
  obtain⟨_,_,es,h1,_⟩:=h;exact(Array.getElem?_eq_some_iff.1 h1).1
 | dead=>exact h
def Inv.oblt(h:Inv G N γ σ w){i:Nat}{p:Nat × Nat}(hp:γ.O[i]?=some p):p.1<w.heap.size:=by
 obtain⟨ob,_,h2⟩:=h.at hp;exact h2.lt
def Aad{w w':World}{b:Nat}(h:w'.heap[b]?=w.heap[b]?)(o:Nat):w'.cell? ⟨b,o,none⟩=w.cell? ⟨b,o,none⟩:=World.cell?_of_block (a:=⟨b,o,none⟩) h
def Tw{w w':World}{b:Nat}(h:w'.heap[b]?=w.heap[b]?):Ea w' b=Ea w b:=by unfold Ea;rw[h]
def Akt{l:List Nat}(h:l.Nodup){i j a:Nat}(hi:l[i]?=some a)(hj:l[j]?=some a):i=j:=by
 obtain⟨h1,e1⟩:=Aq.1 hi;obtain⟨h2,e2⟩:=Aq.1 hj;have hp:=Adk.1 h;rcases Rk i j with qd | rfl | qd
 .exact absurd (e1.trans e2.symm) (hp i j h1 h2 qd)
 .rfl
 .exact absurd (e2.trans e1.symm) (hp j i h2 h1 qd)
def Inv.ne(h:Inv G N γ σ w){i j:Nat}{p q:Nat × Nat}(hp:γ.O[i]?=some p)(hq:γ.O[j]?=some q)(qi:i≠j):p.1≠q.1:=fun e=>
 qi (Akt h.nd (i:=i) (j:=j) (a:=p.1) (by simp[hp]) (by simp[hq,e]))
def ObOk.keep{γ':Gh}{ob:Ob}{p:Nat × Nat}(h:ObOk γ w ob p)(hx:Ext γ w γ' w')(hk:γ'.κ p.1=γ.κ p.1)(hh:w'.heap[p.1]?=w.heap[p.1]?):ObOk γ' w' ob p:=by
 cases ob with
 | row cs e g z=>
  obtain⟨h1,h2,h3,us,lo,hi,h4,h5,h6,h7⟩:=h;exact⟨h1,hk.trans h2,h3,us,lo,hi,hh.trans h4,h5,h6,fun j hj=>(h7 j hj).ext hx⟩
 | map kvs=>
  obtain⟨h1,h2,es,h3,h4,h5⟩:=h;refine⟨h1,hk.trans h2,es,hh.trans h3,h4,fun i k v hi=>?_⟩;obtain⟨en,a1,a2,a3,a4,a5,a6⟩:=h5 i k v hi;exact⟨en,a1,a2,a3,a4,a5,a6.ext hx⟩
 | dead=>
  have h:p.1<w.heap.size:=h;rw[Array.getElem?_eq_getElem h]at hh;exact(Array.getElem?_eq_some_iff.1 hh).1
def Inv.more{κ':Em}(h:Inv G N γ σ w)(hb:∀ b,b<w.heap.size->w'.heap[b]?=w.heap[b]?)(hs:w.heap.size<=w'.heap.size)(hk:∀ b,b<w.heap.size->κ' b=γ.κ b)(hd:∀ b k,κ' b=some k->b<w'.heap.size):
  Inv G N ⟨κ',γ.O⟩ σ w'/\Ext γ w ⟨κ',γ.O⟩ w':=by
 have hx:Ext γ w ⟨κ',γ.O⟩ w':={
  kap:=fun b k qg=>⟨k,by show κ' b=_;rw[hk b (h.dom b k qg)];exact qg,Ai _⟩
  cell:=fun b k o qg _=>Aad (hb b (h.dom b k qg)) o
  obj:=fun i blk g hi=>⟨blk,g,hi,Ai _,fun _=>⟨rfl,Tw (hb blk (h.oblt hi))⟩⟩ }
 exact⟨⟨Cz h.base hs,h.len,h.nd,h.low,fun i ob p h1 h2=>(h.obj i ob p h1 h2).keep hx (hk _ (h.oblt h2)) (hb _ (h.oblt h2)),hd,fun g r hg=>(h.glob g r hg).ext hx,fun g r hg=>⟨(h.gsz g r hg).1,(Tw (hb g (by have:=(h.gsz g r hg).1;have:=h.base;omega))).trans (h.gsz g r hg).2⟩⟩,hx⟩
def Ic(κ:Em)(b k:Nat):Em:=fun c=>if c=b then some k else κ c
def Rq(κ:Em)(b k:Nat):Ic κ b k b=some k:=by simp[Ic]
def Lm(κ:Em){b c:Nat}(k:Nat)(h:c≠b):Ic κ b k c=κ c:=by simp[Ic,h]
def W0{κ:Em}{b k n:Nat}(h:∀ c k,κ c=some k->c<n)(hb:b<n):∀ c k',Ic κ b k c=some k'->c<n:=fun c k' hc=>by
 unfold Ic at hc
 split at hc
 .omega
 .exact h c k' hc
def Inv.row(h:Inv G N γ σ w)(us:Array Value)(e:TypeId):
  Inv G N ⟨Ic γ.κ w.heap.size us.size,γ.O⟩ σ (w.alloc (.cells us e))/\Ext γ w ⟨Ic γ.κ w.heap.size us.size,γ.O⟩ (w.alloc (.cells us e)):=
 h.more (fun b hb=>Below.heap_alloc _ _ _ hb) (by simp) (fun b hb=>Lm _ _ (by omega)) (W0 (fun b k hk=>by have:=h.dom b k hk;simp;omega) (by simp))
def Inv.drew(h:Inv G N γ σ w):Inv G N γ σ w.drew/\Ext γ w γ w.drew:=
 h.more (κ':=γ.κ) (fun _ _=>rfl) (Ai _) (fun _ _=>rfl) h.dom
def At7{O:List (Nat × Nat)}{b g n:Nat}(h:(O.map (·.1)).Nodup)(qd:∀ (i:Nat) (p:Nat × Nat),O[i]?=some p->p.1<n)(hb:n<=b):((O++[(b,g)]).map (·.1)).Nodup:=by
 rw[Ei,List.nodup_append];refine⟨h,by simp,fun a ha c hc=>?_⟩;simp at hc;subst hc;obtain⟨p,ji,rfl⟩:=De.1 ha;obtain⟨j,hj⟩:=List.mem_iff_getElem?.1 ji;have:=qd j p hj;omega
def Inv.newOb(h:Inv G N γ σ w)(o:Obj)(ob:Ob)(κ':Em)(hk:∀ b,b<w.heap.size->κ' b=γ.κ b)(hd:∀ b k,κ' b=some k->b<w.heap.size+1)
  (qu:Ext γ w ⟨κ',γ.O++[(w.heap.size,0)]⟩ (w.alloc o)->ObOk ⟨κ',γ.O++[(w.heap.size,0)]⟩ (w.alloc o) ob (w.heap.size,0)) :
  Inv G N ⟨κ',γ.O++[(w.heap.size,0)]⟩ (σ++[ob]) (w.alloc o)/\Ext γ w ⟨κ',γ.O++[(w.heap.size,0)]⟩ (w.alloc o):=by
 have hx:Ext γ w ⟨κ',γ.O++[(w.heap.size,0)]⟩ (w.alloc o):={
  kap:=fun b k qg=>⟨k,by show κ' b=_;rw[hk b (h.dom b k qg)];exact qg,Ai _⟩
  cell:=fun b k q qg _=>Aad (Below.heap_alloc _ _ _ (h.dom b k qg)) q
  obj:=fun i blk g hi=>⟨blk,g,by show(γ.O++_)[i]?=_;rw[Ca (Aq.1 hi).1];exact hi,Ai _,fun _=>⟨rfl,Tw (Below.heap_alloc _ _ _ (h.oblt hi))⟩⟩ }
 refine⟨⟨by have:=h.base;simp;omega,by simp[h.len],At7 h.nd (fun i p hp=>h.oblt hp) (Ai _),fun i p hp=>?_,fun i ob' p h1 h2=>?_,fun b k qg=>by simpa using hd b k qg,fun g r hg=>(h.glob g r hg).ext hx,fun g r hg=>⟨(h.gsz g r hg).1,(Tw (Below.heap_alloc _ _ _ (by have:=(h.gsz g r hg).1;have:=h.base;omega))).trans (h.gsz g r hg).2⟩⟩,hx⟩
 .have qx:(γ.O++[(w.heap.size,0)])[i]?=some p:=hp;by_cases hi:i<γ.O.length
  .rw[Ca hi]at qx;exact h.low i p qx
  .rw[Cd (by omega)]at qx;have:=Hx qx;simp at this;subst this;exact h.base
 .have qp:(γ.O++[(w.heap.size,0)])[i]?=some p:=h2;by_cases hi:i<γ.O.length
  .rw[Ca hi]at qp;rw[Ca (by have:=h.len;omega)]at h1;exact(h.obj i ob' p h1 qp).keep hx (hk _ (h.oblt qp)) (Below.heap_alloc _ _ _ (h.oblt qp))
  .rw[Cd (by omega)]at qp;have qd:i<σ.length+1:=by have:=(Aq.1 h1).1;simpa using this
   have kj:i=σ.length:=by have:=h.len;omega
   rw[Cd (by omega)]at h1;subst kj;simp at h1;have:=Hx qp;simp at this;subst h1 this;exact qu hx
def Inv.newRow(h:Inv G N γ σ w)(us:Array Value)(e:TypeId)(cs:List V)(hl:cs.length<=us.size)(hc:∀ j,j<cs.length->RepC γ w (cs.getD j .und) (us.getD j undef)):
  Inv G N ⟨Ic γ.κ w.heap.size 0,γ.O++[(w.heap.size,0)]⟩ (σ++[.row cs e 0 0]) (w.alloc (.cells us e))/\Ext γ w ⟨Ic γ.κ w.heap.size 0,γ.O++[(w.heap.size,0)]⟩ (w.alloc (.cells us e)):=
 h.newOb _ _ _ (fun b hb=>Lm _ _ (by omega)) (W0 (fun b k hk=>by have:=h.dom b k hk;omega) (by omega)) fun hx=>
  ⟨rfl,Rq _ _ _,A0 _,us,0,0,heap_alloc_new w _,⟨Ai _,.inl (Ai _)⟩,hl,fun j hj=>(hc j hj).ext hx⟩
def Inv.newMap(h:Inv G N γ σ w):
  Inv G N ⟨γ.κ,γ.O++[(w.heap.size,0)]⟩ (σ++[.map []]) (w.alloc (.map #[] 0))/\Ext γ w ⟨γ.κ,γ.O++[(w.heap.size,0)]⟩ (w.alloc (.map #[] 0)):=
 h.newOb _ _ _ (fun _ _=>rfl) (fun b k hk=>by have:=h.dom b k hk;omega) fun _=>
  ⟨rfl,by
   show γ.κ w.heap.size=none
   cases hk:γ.κ w.heap.size with
   | none=>rfl
   | some k=>have:=h.dom _ _ hk;omega,#[],heap_alloc_new w _,rfl,fun i k v hi=>by simp at hi⟩
def Inv.turn(h:Inv G N γ σ w){i:Nat}{p p':Nat × Nat}{ob':Ob}{κ':Em}(hp:γ.O[i]?=some p)(qD:w.heap.size<=w'.heap.size)(qm:∀ b,b<w.heap.size->b≠p.1->w'.heap[b]?=w.heap[b]?)
  (hk:∀ b,b<w.heap.size->b≠p.1->κ' b=γ.κ b) (hd:∀ b k,κ' b=some k->b<w'.heap.size)
  (jl:∀ z,γ.κ p.1=some z->∃ z',κ' p.1=some z'/\z<=z'/\∀ o,o<z->w'.cell? ⟨p.1,o,none⟩=w.cell? ⟨p.1,o,none⟩)
  (jz:p.2<=p'.2) (qJ:p'.2=p.2->p'.1=p.1/\Ea w' p.1=Ea w p.1) (qC:p'.1=p.1\/w.heap.size<=p'.1)
  (qu:Ext γ w ⟨κ',γ.O.set i p'⟩ w'->ObOk ⟨κ',γ.O.set i p'⟩ w' ob' p') :
  Inv G N ⟨κ',γ.O.set i p'⟩ (σ.set i ob') w'/\Ext γ w ⟨κ',γ.O.set i p'⟩ w':=by
 have jq:=(Aq.1 hp).1
 have hx:Ext γ w ⟨κ',γ.O.set i p'⟩ w':={
  kap:=fun b k qg=>by
   by_cases hb:b=p.1
   .subst hb;obtain⟨z',h1,h2,_⟩:=jl k qg;exact⟨z',h1,h2⟩
   .exact⟨k,(hk b (h.dom b k qg) hb).trans qg,Ai _⟩
  cell:=fun b k o qg ho=>by
   by_cases hb:b=p.1
   .subst hb;obtain⟨z',h1,h2,h3⟩:=jl k qg;exact h3 o ho
   .exact Aad (qm b (h.dom b k qg) hb) o
  obj:=fun j blk g hj=>by
   by_cases qi:i=j
   .subst qi;rw[hp]at hj;injection hj with hj;subst hj;refine⟨p'.1,p'.2,by show(γ.O.set i p')[i]?=_;rw[Ci jq],jz,qJ⟩
   .exact⟨blk,g,by show(γ.O.set i p')[j]?=_;rw[Bj qi];exact hj,Ai _,fun _=>⟨rfl,Tw (qm blk (h.oblt hj) (fun e=>h.ne hp hj qi e.symm))⟩⟩ }
 refine⟨⟨Cz h.base qD,by simp[h.len],?_,fun j q hq=>?_,fun j ob q h1 h2=>?_,hd,fun g r hg=>(h.glob g r hg).ext hx,fun g r hg=>⟨(h.gsz g r hg).1,(Tw (qm g (by have:=(h.gsz g r hg).1;have:=h.base;omega) (by have:=(h.gsz g r hg).1;have:=h.low i p hp;omega))).trans (h.gsz g r hg).2⟩⟩,hx⟩
 .show((γ.O.set i p').map (·.1)).Nodup;rw[List.map_set];rcases qC with e | jP
  .rw[e]
   have:(γ.O.map (·.1)).set i p.1=γ.O.map (·.1):=by
    apply Tg;intro j;by_cases qi:i=j
    .subst qi;rw[Ci (by simpa using jq)];simp[hp]
    .rw[Bj qi]
   rw[this];exact h.nd
  .refine Adk.2 fun a b ha hb jZ=>?_
   have jF:=Adk.1 h.nd
   have qd:∀ (j:Nat) (hj:j<(γ.O.map (·.1)).length),(γ.O.map (·.1))[j]≠p'.1:=fun j hj=>by
    have qR:j<γ.O.length:=by simpa using hj
    have:=h.oblt (i:=j) (p:=γ.O[j]) (A2 qR);rw[Oi];omega
   rw[Zj,Zj];simp only[Hy]at ha hb
   split
   .split
    .omega
    .exact fun e=>qd b hb e.symm
   .split
    .exact qd a ha
    .exact jF a b ha hb jZ
 .have qv:(γ.O.set i p')[j]?=some q:=hq;by_cases qi:i=j
  .subst qi;rw[Ci jq]at qv;injection qv with qv;subst qv;rcases qC with e | jP
   .rw[e];exact h.low i p hp
   .exact Cz h.base jP
  .rw[Bj qi]at qv;exact h.low j q qv
 .have qp:(γ.O.set i p')[j]?=some q:=h2;by_cases qi:i=j
  .subst qi;rw[Ci jq]at qp;rw[Ci (by have:=h.len;omega)]at h1;injection qp with qp;injection h1 with h1;subst h1 qp;exact qu hx
  .rw[Bj qi]at h1 qp;have qN:q.1≠p.1:=fun e=>h.ne hp qp qi e.symm
   exact(h.obj j ob q h1 qp).keep hx (hk _ (h.oblt qp) qN) (qm _ (h.oblt qp) qN)
def Or{α:Type}{l:List α}{i:Nat}{x:α}(h:l[i]?=some x):l.set i x=l:=by
 apply Tg;intro j;by_cases qi:i=j
 .subst qi;rw[Ci (Aq.1 h).1,h]
 .rw[Bj qi]
def Atn(w:World)(b:Nat){us us':Array Value}{e:TypeId}{fr:Nat × Nat}(hh:w.heap[b]?=some (.cells us e fr)){o:Nat}(ho:us'[o]?=us[o]?):(w.setRow b us').cell? ⟨b,o,none⟩=w.cell? ⟨b,o,none⟩:=by
 have qC:=setRow_heap w b us us' e _ hh;simp[World.cell?,qC,hh,ho]
def Ad4(w:World)(b:Nat){us us':Array Value}{e:TypeId}{fr:Nat × Nat}(hh:w.heap[b]?=some (.cells us e fr))(hs:us'.size=us.size):Ea (w.setRow b us') b=Ea w b:=by
 have qC:=setRow_heap w b us us' e _ hh;simp[Ea,qC,hh,hs]
def Inv.write(h:Inv G N γ σ w){i:Nat}{p:Nat × Nat}{cs cs':List V}{e g g' z lo hi:Nat}{us us':Array Value}(hp:γ.O[i]?=some p)(ho:σ[i]?=some (.row cs e g z))(hh:w.heap[p.1]?=some (.cells us e (lo,hi)))(ki:lo<=hi/\(hi<=z\/us.size<=lo))(hg:g<=g')(hz:z<=cs'.length)
  (qD:us'.size=us.size) (hl:cs'.length<=us.size) (qJ:∀ o,o<z->us'[o]?=us[o]?) (hc:∀ j,j<cs'.length->RepC γ w (cs'.getD j .und) (us'.getD j undef)) :
  Inv G N ⟨γ.κ,γ.O.set i (p.1,g')⟩ (σ.set i (.row cs' e g' z)) (w.setRow p.1 us')/\Ext γ w ⟨γ.κ,γ.O.set i (p.1,g')⟩ (w.setRow p.1 us'):=by
 obtain⟨q,hq,h1,h2,h3,_⟩:=h.of ho;rw[hp]at hq;injection hq with hq;subst hq;have qn:(w.setRow p.1 us').heap.size=w.heap.size:=by simp[World.setRow]
 refine h.turn (p':=(p.1,g')) hp (by omega) (fun b _ hb=>setRow_other w p.1 b us' hb) (fun _ _ _=>rfl) (fun b k hk=>by rw[qn];exact h.dom b k hk) (fun z' qU=>?_) (by rw[h1];exact hg) (fun _=>⟨rfl,Ad4 w p.1 hh qD⟩) (.inl rfl) fun hx=>?_
 .rw[h2]at qU;injection qU with qU;subst qU;exact⟨z,h2,Ai _,fun o ho=>Atn w p.1 hh (qJ o ho)⟩
 .exact⟨rfl,h2,hz,us',lo,hi,setRow_heap w p.1 us us' e _ hh,by rw[qD];exact ki,by omega,fun j hj=>(hc j hj).ext hx⟩
def Inv.moved(h:Inv G N γ σ w){i:Nat}{p:Nat × Nat}{cs cs':List V}{e g z:Nat}{us':Array Value}(hp:γ.O[i]?=some p)(ho:σ[i]?=some (.row cs e g z))(hz:z<=cs'.length)
  (hl:cs'.length<=us'.size) (hc:∀ j,j<cs'.length->RepC γ w (cs'.getD j .und) (us'.getD j undef)) :
  Inv G N ⟨Ic γ.κ w.heap.size z,γ.O.set i (w.heap.size,g+1)⟩ (σ.set i (.row cs' e (g+1) z)) (w.alloc (.cells us' e))/\Ext γ w ⟨Ic γ.κ w.heap.size z,γ.O.set i (w.heap.size,g+1)⟩ (w.alloc (.cells us' e)):=by
 obtain⟨q,hq,h1,h2,h3,_⟩:=h.of ho;rw[hp]at hq;injection hq with hq;subst hq;have qN:∀ b,b<w.heap.size->b≠w.heap.size:=fun b hb=>by omega
 refine h.turn (p':=(w.heap.size,g+1)) hp (by simp) (fun b hb _=>Below.heap_alloc _ _ _ hb) (fun b hb _=>Lm _ _ (qN b hb)) (W0 (fun b k hk=>by have:=h.dom b k hk;simp;omega) (by simp)) (fun z' qU=>?_) (by show p.2<=g+1;omega) (fun e=>by have e':g+1=p.2:=e;omega) (.inr (Ai _)) fun hx=>?_
 .exact⟨z',(Lm _ _ (qN _ (h.oblt hp))).trans qU,Ai _,fun o _=>Aad (Below.heap_alloc _ _ _ (h.oblt hp)) o⟩
 .exact⟨rfl,Rq _ _ _,hz,us',0,0,heap_alloc_new w _,⟨Ai _,.inl (A0 _)⟩,hl,fun j hj=>(hc j hj).ext hx⟩
def Inv.shut1(h:Inv G N γ σ w){i:Nat}{p:Nat × Nat}{cs:List V}{e g z z':Nat}(hp:γ.O[i]?=some p)(ho:σ[i]?=some (.row cs e g z))(hz:z<=z')(qU:z'<=cs.length):
  Inv G N ⟨Ic γ.κ p.1 z',γ.O⟩ (σ.set i (.row cs e g z')) w/\Ext γ w ⟨Ic γ.κ p.1 z',γ.O⟩ w:=by
 obtain⟨q,hq,h1,h2,h3,us,lo,hi,h4,h5,h6,h7⟩:=h.of ho;rw[hp]at hq;injection hq with hq;subst hq
 have:=h.turn (w':=w) (p':=p) (ob':=.row cs e g z') (κ':=Ic γ.κ p.1 z') hp (Ai _) (fun _ _ _=>rfl) (fun b _ hb=>Lm _ _ hb) (W0 h.dom (h.oblt hp)) (fun z1 ju=>by
  rw[h2]at ju;injection ju with ju;subst ju
  exact⟨z',Rq _ _ _,hz,fun _ _=>rfl⟩) (Ai _) (fun _=>⟨rfl,rfl⟩) (.inl rfl) (fun hx=>⟨h1,Rq _ _ _,qU,us,lo,hi,h4,⟨h5.1,h5.2.imp (fun h=>Cz h hz) id⟩,h6,fun j hj=>(h7 j hj).ext hx⟩)
 rw[Or hp]at this;exact this
def Inv.turnMap(h:Inv G N γ σ w){i:Nat}{p:Nat × Nat}{kvs kvs':List (List UInt8 × V)}{es':Array MapEntry}(hp:γ.O[i]?=some p)(ho:σ[i]?=some (.map kvs))
  (hw:w'.heap.size=w.heap.size) (qm:∀ b,b≠p.1->w'.heap[b]?=w.heap[b]?) (hh:w'.heap[p.1]?=some (.map es' kvs'.length)) (hs:es'.size=kvs'.length)
  (hc:∀ (j:Nat) (k:List UInt8) (v:V),kvs'[j]?=some (k,v)->∃ en:MapEntry,es'[j]?=some en/\en.key=.string ⟨k.toArray⟩/\k.length<=maxLen/\en.born=j/\v.flatB=true/\RepC γ w v en.val) :
  Inv G N γ (σ.set i (.map kvs')) w'/\Ext γ w γ w':=by
 obtain⟨q,hq,h1,h2,es,h3,_⟩:=h.of ho;rw[hp]at hq;injection hq with hq;subst hq;have kB:Ea w' p.1=Ea w p.1:=by simp[Ea,hh,h3]
 have:=h.turn (w':=w') (p':=p) (ob':=.map kvs') (κ':=γ.κ) hp (by omega) (fun b _ hb=>qm b hb) (fun _ _ _=>rfl) (fun b k hk=>by rw[hw];exact h.dom b k hk) (fun z hz=>by rw[h2]at hz;cases hz) (Ai _) (fun _=>⟨rfl,kB⟩) (.inl rfl) (fun hx=>⟨h1,h2,es',hh,hs,fun j k v hj=>by
  obtain⟨en,a1,a2,a3,a4,a5,a6⟩:=hc j k v hj
  exact⟨en,a1,a2,a3,a4,a5,a6.ext hx⟩⟩)
 rw[Or hp]at this;exact this
open Go Go.RowKit
section
variable {γ:Gh} {w:World} {u:Value}
def Eo{k:IntKind}{n:Int}(h:RepC γ w (.int k n) u):u=.int k n:=by cases h with | row h=>cases h;rfl
def Oo{b:Bool}(h:RepC γ w (.bool b) u):u=.bool b:=by cases h with | row h=>cases h;rfl
def Gf{l:List UInt8}(h:RepC γ w (.str l) u):u=.string ⟨l.toArray⟩/\l.length<=maxLen:=by cases h with | row h=>cases h with | str h=>exact⟨rfl,h⟩
def Aae(h:RepC γ w .nili u):u=.nilIface:=by cases h with | row h=>cases h;rfl
def Ln(h:RepC γ w .nils u):u=.slice none 0 0:=by cases h with | row h=>cases h;rfl
def Rr(h:RepC γ w .nilp u):u=.pointer none:=by cases h with
 | row h=>cases h
 | nilp=>rfl
def Aaf(h:RepC γ w .nilf u):u=.nilFunc:=by cases h with
 | row h=>cases h
 | nilf=>rfl
def Ae3(h:RepC γ w .ifc u):∃ t x,u=.iface t x:=by cases h with
 | row h=>cases h;exact⟨_,_,rfl⟩
 | ifc=>exact⟨_,_,rfl⟩
def Afs{f:Nat}{a c:List V}(h:RepC γ w (.fn f a c) u):∃ ua uc:List Value,u=.func (.func f) ua.toArray uc.toArray/\a.length=ua.length/\c.length=uc.length/\(∀ j,j<a.length->RepC γ w (a.getD j .und) (ua.getD j undef))/\∀ j,j<c.length->RepC γ w (c.getD j .und) (uc.getD j undef):=by cases h with
 | row h=>cases h
 | fn h1 h2 h3 h4=>exact⟨_,_,rfl,h1,h2,h3,h4⟩
def Nk{i g off:Nat}(h:RepC γ w (.ptr i g off) u):∃ b' blk g',u=.pointer (some ⟨b',off,none⟩)/\γ.O[i]?=some (blk,g')/\g<=g'/\(g=g'->b'=blk):=by cases h with
 | row h=>cases h
 | ptr h1 h2 h3=>exact⟨_,_,_,rfl,h1,h2,h3⟩
def Up{i g off len m:Nat}{own:Bool}(h:RepC γ w (.sl i g off len m own) u):∃ b' o' cap blk g',u=.slice (some ⟨b',o',none⟩) len cap/\γ.O[i]?=some (blk,g')/\g<=g'/\len<=cap/\cap<=maxLen/\(0<cap->o'=off)/\(g=g'->b'=blk/\(own=true->Ea w blk=some (off+cap*m))):=by cases h with
 | row h=>cases h
 | sl h1 h2 h3 h4 h5 h6=>exact⟨_,_,_,_,_,rfl,h1,h2,h3,h4,h5,h6⟩
def An6{i:Nat}(h:RepC γ w (.mp i) u):∃ blk g',γ.O[i]?=some (blk,g')/\(g'=0->u=.map (some blk)):=by cases h with
 | row h=>cases h
 | mp h1 h2 h3=>exact⟨_,_,h1,h3⟩
def Awq{κ:Em}{t:Nat}{xs:List (List V)}(h:RepR κ w (.lst t xs) u):RepR κ w (.lst 0 xs) u:=by
 cases h with
 | lst row h1 h2 h3 h4 h5 h6 h7=>exact .lst row (fun h=>by omega) h2 h3 h4 h5 h6 h7
def Ot{t:Nat}{xs:List (List V)}(h:RepC γ w (.lst t xs) u):∃ a cap,u=.slice (some a) xs.length cap/\RepR γ.κ w (.lst 0 xs) (.slice (some a) xs.length cap)/\(t=1->cap=xs.length):=by
 cases h with
 | row h=>
  have h':=Awq h
  cases h with
  | lst row h1 h2 h3 h4 h5 h6 h7=>exact⟨_,_,rfl,h',h1⟩
def Lq{r:List V}{off:Nat}{u:Value}(h:RepC γ w (.imm r off) u):∃ b o k,∃ row:Nat->Value,u=.pointer (some ⟨b,o+off,none⟩)/\γ.κ b=some k/\o+r.length<=k/\(∀ j,j<r.length->w.cell? ⟨b,o+j,none⟩=some (row j))/\∀ j,j<r.length->RepR γ.κ w (r.getD j .und) (row j):=by
 cases h with
 | row h=>cases h
 | imm row h1 h2 h3 h4=>exact⟨_,_,_,row,rfl,h1,h2,h3,h4⟩
def Pu{v:V}(h:RepC γ w v u):v.cellB=true/\u.oneCell'=true:=by
 cases h with
 | row h=>cases h<;>exact⟨rfl,rfl⟩
 | imm=>exact⟨rfl,rfl⟩
 | ptr=>exact⟨rfl,rfl⟩
 | sl=>exact⟨rfl,rfl⟩
 | nilp=>exact⟨rfl,rfl⟩
 | nilf=>exact⟨rfl,rfl⟩
 | ifc=>exact⟨rfl,rfl⟩
 | fn=>exact⟨rfl,rfl⟩
 | mp _ h=>exact⟨rfl,h⟩
def H0{v:V}(hv:v.cellB=true)(h:Rep1 γ w v u):RepC γ w v u:=by
 cases h with
 | cell h=>exact h
 | agg=>cases hv
def Ay{v:V}(hv:v.cellB=true)(h:RepV γ w v u):RepC γ w v u:=by
 cases h with
 | und=>cases hv
 | skp=>cases hv
 | one h=>exact H0 hv h
 | tup=>cases hv
def C5{v:V}(h:RepC γ w v u):RepV γ w v u:=.one (.cell h)
def Awr{cs:List V}(h:Rep1 γ w (.agg cs) u):∃ us:List Value,u=.agg us.toArray/\cs.length=us.length/\∀ j,j<cs.length->RepC γ w (cs.getD j .und) (us.getD j undef):=by
 cases h with
 | cell h=>exact absurd (Pu h).1 (by simp[V.cellB])
 | agg h1 h2=>exact⟨_,rfl,h1,h2⟩
def Px{cs:List V}(h:RepV γ w (.agg cs) u):∃ us:List Value,u=.agg us.toArray/\cs.length=us.length/\∀ j,j<cs.length->RepC γ w (cs.getD j .und) (us.getD j undef):=by
 cases h with
 | one h=>exact Awr h
def Alx{vs:List V}(h:RepV γ w (.tup vs) u):∃ us:List Value,u=.tuple us.toArray/\vs.length=us.length/\∀ j,j<vs.length->Rep1 γ w (vs.getD j .und) (us.getD j undef):=by
 cases h with
 | one h=>cases h with
  | cell h=>exact absurd (Pu h).1 (by simp[V.cellB])
 | tup h1 h2=>exact⟨_,rfl,h1,h2⟩
def Aei{v:V}(h:RepV γ w v u)(hc:v.cells.all V.cellB=true):∃ us:List Value,u.cells=us.toArray/\v.cells.length=us.length/\∀ j,j<v.cells.length->RepC γ w (v.cells.getD j .und) (us.getD j undef):=by
 by_cases hv:∃ cs,v=.agg cs
 .obtain⟨cs,rfl⟩:=hv;obtain⟨us,rfl,h1,h2⟩:=Px h;exact⟨us,rfl,h1,h2⟩
 .have e:v.cells=[v]:=by
   cases v<;>first | rfl | exact absurd ⟨_,rfl⟩ hv
  rw[e]at hc ⊢;have qH:v.cellB=true:=by simpa using hc
  have h':=Ay qH h
  have hu:u.cells=#[u]:=by
   have:=(Pu h').2
   cases u<;>first | rfl | simp[Value.oneCell']at this
  exact⟨[u],by rw[hu],rfl,fun j hj=>by
   obtain rfl:j=0:=by simpa using hj
   exact h'⟩
end
/-! Constants -/
def Mu:V->Value->Bool
 | .bool a,.bool b=>a==b
 | .int k a,.int k' b=>decide (k=k')&&a==b
 | .str l,.string s=>s.data.toList==l&&decide (l.length<=maxLen)
 | .nili,.nilIface=>true
 | .nils,.slice none 0 0=>true
 | .nilp,.pointer none=>true
 | .nilf,.nilFunc=>true
 | _,_=>false
def Hj:List V->List Value->Bool
 | [],[]=>true
 | v::vs,u::us=>Mu v u&&Hj vs us
 | _,_=>false
def Ago:V->Value->Bool
 | .agg cs,.agg us=>Hj cs us.toList
 | v,u=>Mu v u
def Z5{γ:Gh}{w:World}{v:V}{u:Value}(h:Mu v u=true):RepC γ w v u:=by
 unfold Mu at h
 split at h
 .obtain rfl:=eq_of_beq h;exact .row .bool
 .simp only[Af,decide_eq_true_eq,beq_iff_eq]at h;obtain⟨rfl,rfl⟩:=h;exact .row .int
 .simp only[Af,decide_eq_true_eq,beq_iff_eq]at h;obtain⟨rfl,hl⟩:=h;exact .row (.str hl)
 .exact .row .nili
 .exact .row .nils
 .exact .nilp
 .exact .nilf
 .cases h
def Ro{γ:Gh}{w:World}:∀ {vs:List V} {us:List Value},Hj vs us=true->vs.length=us.length/\∀ j,j<vs.length->RepC γ w (vs.getD j .und) (us.getD j undef)
 | [],[],_=>⟨rfl,fun j hj=>absurd hj (by simp)⟩
 | v::vs,u::us,h=>by
  simp only[Hj,Af]at h;obtain⟨h1,h2⟩:=Ro (γ:=γ) (w:=w) h.2;refine⟨by simp[h1],fun j hj=>?_⟩
  cases j with
  | zero=>exact Z5 h.1
  | succ j=>simpa using h2 j (by simpa using hj)
def At8{γ:Gh}{w:World}{v:V}{u:Value}(h:Ago v u=true):RepV γ w v u:=by
 unfold Ago at h
 split at h
 .rename_i cs us;obtain⟨h1,h2⟩:=Ro (γ:=γ) (w:=w) h;have:=Rep1.agg (us:=us.toList) h1 h2;exact .one (by simpa using this)
 .exact C5 (Z5 h)
def Agp:V->V->Bool
 | .bool a,.bool b=>a==b
 | .int k a,.int k' b=>decide (k=k')&&a==b
 | .str a,.str b=>a==b
 | _,_=>false
def Au4{a b:V}(h:Agp a b=true):a=b:=by
 unfold Agp at h
 split at h
 .rw[eq_of_beq h]
 .simp only[Af,decide_eq_true_eq,beq_iff_eq]at h;rw[h.1,h.2]
 .rw[eq_of_beq h]
 .cases h
def Uy:List V->List V->Bool
 | [],[]=>true
 | a::r,b::s=>Agp a b&&Uy r s
 | _,_=>false
def Aku:∀ {a b:List V},Uy a b=true->a=b
 | [],[],_=>rfl
 | a::r,b::s,h=>by
  simp only[Uy,Af]at h;rw[Au4 h.1,Aku h.2]
 | [],b::s,h=>by simp[Uy]at h
 | a::r,[],h=>by simp[Uy]at h
def Bs(G:List (Nat × List V)):S->Operand->Bool
 | .t n,.tmp m=>n==m
 | .k v,.const c=>Ago v c
 | .k (.imm r 0),.global g=>G.any fun p=>p.1==g&&Uy p.2 r
 | .k (.fn f [] []),.func f'=>f==f'
 | _,_=>false
def Xf{G:List (Nat × List V)}{N:Nat}{γ:Gh}{σ:St}{w:World}{e:Env}{a:Act}{s:S}{x:Operand}(h:Bs G s x=true)(hE:RepE γ w e a.tmps)(hI:Inv G N γ σ w):RepV γ w (Ac e s) (a.eval x):=by
 unfold Bs at h
 split at h
 .obtain rfl:=eq_of_beq h;exact hE _
 .exact At8 h
 .simp only[Nf,Af,beq_iff_eq]at h;obtain⟨⟨g,r'⟩,ji,rfl,hr⟩:=h;obtain rfl:=Aku hr;exact C5 (hI.glob _ _ ji)
 .obtain rfl:=eq_of_beq h;exact C5 (RepC.fn (ua:=[]) (uc:=[]) rfl rfl (fun j hj=>absurd hj (by simp)) (fun j hj=>absurd hj (by simp)))
 .cases h
open Go Go.RowKit
variable {P:Program} {G:List (Nat × List V)} {N:Nat} {γ:Gh} {σ σ1:St} {w:World} {e:Env} {a:Act} {o:Oper} {v:V}
def Co(P:Program)(G:List (Nat × List V))(N:Nat)(γ:Gh)(σ:St)(w:World)(r:Result Next)(v:V)(σ1:St):Prop:=
 ∃ u w1 γ1,(r=.ok (.value u) w1\/(r=.ok .skip w1/\u=undef))/\RepV γ1 w1 v u/\Inv G N γ1 σ1 w1/\Ext γ w γ1 w1/\Below N w w1/\∀ b,b<N->γ1.κ b=γ.κ b
def Ce{r:Result Next}{u:Value}(hI:Inv G N γ σ w)(hr:r=.ok (.value u) w)(hv:RepV γ w v u):Co P G N γ σ w r v σ:=
 ⟨u,w,γ,.inl hr,hv,hI,Ext.refl _ _,Below.refl _ _,fun _ _=>rfl⟩
def Au5(l m:List UInt8):(⟨l.toArray⟩:ByteArray)++⟨m.toArray⟩=⟨(l++m).toArray⟩:=by
 apply WideShapes.bytes_inj;simp
def I9(l:List UInt8):(⟨l.toArray⟩:ByteArray).size=l.length:=by simp[ByteArray.size]
def A31{l:List UInt8}(h:l.length<=9223372036854775807):l.length<=maxLen:=by unfold maxLen;omega
def K5{k:IntKind}{n:Int}:RepV γ w (.int k n) (.int k n):=C5 (.row .int)
def Nl{b:Bool}:RepV γ w (.bool b) (.bool b):=C5 (.row .bool)
def Xg{l:List UInt8}(h:l.length<=maxLen):RepV γ w (.str l) (.string ⟨l.toArray⟩):=C5 (.row (.str h))
def Azu{op:BinOp}{t ty:TypeId}{x y:Operand}{s1 s2:S}(ho:o.op=.binOp op t x y ty)(hx:RepV γ w (Ac e s1) (a.eval x))(hy:RepV γ w (Ac e s2) (a.eval y))(hI:Inv G N γ σ w)
  (h:Ys op (Ac e s1) (Ac e s2)=some v):Co P G N γ σ w ((execOp a.eval o).run P w) v σ:=by
 unfold Ys at h
 split at h
 .rename_i k m k' n e1 e2;rw[e1]at hx;rw[e2]at hy;have qb:=Eo (Ay rfl hx);have ql:=Eo (Ay rfl hy);clear e1 e2 hx hy
  cases op<;>simp only[Aic]at h<;>first
   | cases h
   | (split at h
      .cases h
      .rename_i hb;cases h
       exact Ce hI (by simp[execOp,ho,qb,ql,eqGuard,binOp,Op.shift,hb];try rfl) K5)
   | (split at h
      .rename_i hk
       first
        | (subst hk
           cases h
           exact Ce hI (by simp[execOp,ho,qb,ql,eqGuard,binOp,Op.intArith,Op.intCmp,Op.intBits];try rfl) (by first | exact K5 | exact Nl))
        | (obtain⟨rfl,hb⟩:=hk
           cases h
           exact Ce hI (by simp[execOp,ho,qb,ql,eqGuard,binOp,Op.intDiv,hb];try rfl) K5)
      .cases h)
 .rename_i l m e1 e2;rw[e1]at hx;rw[e2]at hy;obtain⟨qb,kK⟩:=Gf (Ay rfl hx);obtain⟨ql,kL⟩:=Gf (Ay rfl hy);by_cases ha:op=.add
  .subst ha;simp only[Ak]at h;by_cases hl:l.length+m.length<=9223372036854775807
   .rw[if_pos hl]at h;cases h;refine Ce hI ?_ (Xg (A31 (by rw[Aj];exact hl)))
    have hm:¬ (((⟨l.toArray⟩:ByteArray).size+(⟨m.toArray⟩:ByteArray).size:Nat):Int) > IntKind.i64.max:=by
     rw[I9,I9];show ¬ ((_:Nat):Int) > 9223372036854775807;omega
    have hs:(Op.stringOp .add ⟨l.toArray⟩ ⟨m.toArray⟩).run P w=.ok (.string ⟨(l++m).toArray⟩) w:=by
     simp only[Op.stringOp];rw[if_neg hm,Au5];rfl
    simp[execOp,ho,qb,ql,eqGuard,binOp,hs]
   .rw[if_neg hl]at h;cases h
  .cases op<;>simp only[Ak]at h<;>first
    | exact absurd rfl ha
    | (cases h;done)
    | (cases h;exact Ce hI (by simp[execOp,ho,qb,ql,eqGuard,binOp,Op.stringOp]) Nl)
 .cases h
def Aly(hI:Inv G N γ σ w){i g off:Nat}(h:Mt σ (.ptr i g off)=true):∃ cs e z blk,σ[i]?=some (.row cs e g z)/\γ.O[i]?=some (blk,g):=by
 unfold Mt at h
 split at h
 .rename_i i' g' qE he;cases he
  split at h
  .rename_i cs e g1 z ho;obtain rfl:=eq_of_beq h;obtain⟨⟨blk,g2⟩,hp,hk⟩:=hI.of ho;obtain rfl:g2=g:=hk.1;exact⟨cs,e,z,blk,ho,hp⟩
  .cases h
 .rename_i he;cases he
 .rename_i he _;exact absurd rfl (he _ _ _)
def Alz(hI:Inv G N γ σ w){i g off:Nat}{u:Value}(hu:RepC γ w (.ptr i g off) u)(h:Mt σ (.ptr i g off)=true):∃ blk,γ.O[i]?=some (blk,g)/\u=.pointer (some ⟨blk,off,none⟩):=by
 obtain⟨cs,e,z,blk,ho,hp⟩:=Aly hI h;obtain⟨b',qP,g',jJ,h1,h2,h3⟩:=Nk hu;rw[hp]at h1;cases h1;obtain rfl:=h3 rfl;exact⟨_,hp,jJ⟩
def Xh(hI:Inv G N γ σ w){i g off len m o':Nat}{own:Bool}{u:Value}(hu:RepC γ w (.sl i g off len m own) u)(h:Mt σ (.ptr i g o')=true):∃ blk cap o',γ.O[i]?=some (blk,g)/\u=.slice (some ⟨blk,o',none⟩) len cap/\(0<cap->o'=off)/\(own=true->Ea w blk=some (off+cap*m))/\len<=cap/\cap<=maxLen:=by
 obtain⟨cs,e,z,blk,ho,hp⟩:=Aly hI h;obtain⟨b',o',cap,qP,g',jJ,h1,h2,h3,h4,h5,h6⟩:=Up hu;rw[hp]at h1;cases h1;obtain⟨rfl,a2⟩:=h6 rfl;exact⟨_,cap,o',hp,jJ,h5,a2,h3,h4⟩
def Aws{x y z:Operand}{s1 s2 s3:S}(ho:o.op=.pick x y z)(hx:RepV γ w (Ac e s1) (a.eval x))(hy:RepV γ w (Ac e s2) (a.eval y))(hz:RepV γ w (Ac e s3) (a.eval z))(hI:Inv G N γ σ w)
  (h:Ae (.pick s1 s2 s3) e σ=some (v,σ1)):Co P G N γ σ w ((execOp a.eval o).run P w) v σ1:=by
 simp only[Ae]at h
 split at h
 .rename_i b e1;rw[e1]at hx;have qb:=Oo (Ay rfl hx);cases h;refine Ce hI (u:=if b then a.eval y else a.eval z) (by simp[execOp,ho,qb,asBool]) ?_;cases b
  .exact hz
  .exact hy
 .cases h
def A32{op:UnOp}{t:TypeId}{x:Operand}{s:S}(ho:o.op=.unOp op t x)(hx:RepV γ w (Ac e s) (a.eval x))(hI:Inv G N γ σ w)
  (h:Ae (.un op s) e σ=some (v,σ1)):Co P G N γ σ w ((execOp a.eval o).run P w) v σ1:=by
 simp only[Ae,Bo]at h;obtain⟨v',h,h2⟩:=h;cases h2;unfold unV at h
 split at h
 .rename_i k n e1;rw[e1]at hx;have qb:=Eo (Ay rfl hx);cases h;exact Ce hI (by simp[execOp,ho,qb,Op.unary,Op.intArith]) K5
 .rename_i b e1;rw[e1]at hx;have qb:=Oo (Ay rfl hx);cases h;exact Ce hI (by simp[execOp,ho,qb,Op.unary]) Nl
 .rename_i k n e1;rw[e1]at hx;have qb:=Eo (Ay rfl hx);cases h;exact Ce hI (by simp[execOp,ho,qb,Op.unary,Op.intBits];try rfl) K5
 .cases h
def Azv{k:IntKind}{t1 t2:TypeId}{d1:TypeDesc}{x:Operand}{s:S}(ho:o.op=.convert t1 t2 x)(h1:P.underlying t1=some d1)(h2:P.underlying t2=some (.int k))(hx:RepV γ w (Ac e s) (a.eval x))(hI:Inv G N γ σ w)
  (h:Ae (.cvi k s) e σ=some (v,σ1)):Co P G N γ σ w ((execOp a.eval o).run P w) v σ1:=by
 simp only[Ae]at h
 split at h
 .rename_i k' n e1;rw[e1]at hx;have qb:=Eo (Ay rfl hx);cases h;exact Ce hI (by simp[execOp,ho,qb,convert,run_underlying h1,run_underlying h2,Conv.intToInt]) K5
 .cases h
def Azw{t1 t2:TypeId}{d1:TypeDesc}{x:Operand}{s:S}(ho:o.op=.convert t1 t2 x)(h1:P.underlying t1=some d1)(h2:P.underlying t2=some .string)(hx:RepV γ w (Ac e s) (a.eval x))(hI:Inv G N γ σ w)
  (h:Ae (.cvs s) e σ=some (v,σ1)):Co P G N γ σ w ((execOp a.eval o).run P w) v σ1:=by
 simp only[Ae]at h
 split at h
 .rename_i l e1;rw[e1]at hx;obtain⟨qb,hl⟩:=Gf (Ay rfl hx);cases h;exact Ce hI (by simp[execOp,ho,qb,convert,run_underlying h1,run_underlying h2]) (Xg hl)
 .cases h
def Azx{x:Operand}{s:S}(ho:o.op=.nilCheck x)(hx:RepV γ w (Ac e s) (a.eval x))(hI:Inv G N γ σ w)
  (h:Ae (.chk s) e σ=some (v,σ1)):Co P G N γ σ w ((execOp a.eval o).run P w) v σ1:=by
 simp only[Ae]at h
 split at h
 .rename_i r off e1;rw[e1]at hx;have qb:=Ay rfl hx;cases h
  cases hu:a.eval x with
  | pointer p=>
   cases p with
   | some p=>exact Ce hI (u:=.pointer (some p)) (by simp[execOp,ho,hu]) (by rw[<-hu];exact hx)
   | none=>rw[hu]at qb;cases qb with | row h=>cases h
  | _=>rw[hu]at qb;cases qb with | row h=>cases h
 .rename_i b g off e1;rw[e1]at hx;obtain⟨b',_,_,hu,_⟩:=Nk (Ay rfl hx);cases h;exact Ce hI (u:=.pointer (some ⟨b',off,none⟩)) (by simp[execOp,ho,hu]) (by rw[<-hu];exact hx)
 .cases h
def Azy{t:TypeId}{x y:Operand}{s1 s2:S}(ho:o.op=.index t x y)(ht:P.underlying t=some .string)(hx:RepV γ w (Ac e s1) (a.eval x))(hy:RepV γ w (Ac e s2) (a.eval y))(hI:Inv G N γ σ w)
  (h:Ae (.idx s1 s2) e σ=some (v,σ1)):Co P G N γ σ w ((execOp a.eval o).run P w) v σ1:=by
 simp only[Ae]at h
 split at h
 .rename_i l e1;rw[e1]at hx;obtain⟨qb,hl⟩:=Gf (Ay rfl hx);simp only[Bo]at h;obtain⟨c,hc,h⟩:=h;cases h;unfold I1 at hc
  split at hc
  .rename_i k n e2;rw[e2]at hy;have ql:=Eo (Ay rfl hy)
   split at hc
   .rename_i hn;have qd:n.toNat<l.length:=(Aq.1 hc).1
    have hb:(⟨l.toArray⟩:ByteArray)[n.toNat]?=some c:=by
     rw[getElem?_pos (⟨l.toArray⟩:ByteArray) n.toNat (by rw[I9];exact qd)];congr 1;exact(Aq.1 hc).2
    exact Ce hI (by simp[execOp,ho,qb,ql,Instr.index,asIntOf,run_underlying ht,hn,hb]) K5
   .cases hc
  .cases hc
 .cases h
def An7{α:Type}{l:List α}{i:Nat}{x d:α}(h:l[i]?=some x):l.getD i d=x/\i<l.length:=⟨by simp[Au,h],(Aq.1 h).1⟩
def Azz{x:Operand}{i:Nat}{s:S}(ho:o.op=.extract x i)(hx:RepV γ w (Ac e s) (a.eval x))(hI:Inv G N γ σ w)
  (h:Ae (.ext i s) e σ=some (v,σ1)):Co P G N γ σ w ((execOp a.eval o).run P w) v σ1:=by
 simp only[Ae]at h
 split at h
 .rename_i vs e1;rw[e1]at hx;obtain⟨us,hu,hl,hr⟩:=Alx hx;simp only[Bo]at h;obtain⟨c,hc,h⟩:=h;cases h;obtain⟨hg,qd⟩:=An7 (d:=V.und) hc;have h1:=hr i qd;rw[hg]at h1
  have qO:us[i]?=some (us.getD i undef):=by
   rw[Au,A2 (by omega)];rfl
  generalize us.getD i undef=z at h1 qO;exact Ce hI (u:=z) (by simp[execOp,ho,hu,Instr.extract,qO]) (.one h1)
 .cases h
def A33{x y:Operand}{s1 s2:S}{ts:Array TypeId}(ho:o.op=.call { callee:=.builtin .max,args:=#[x,y],argTypes:=ts })(hx:RepV γ w (Ac e s1) (a.eval x))(hy:RepV γ w (Ac e s2) (a.eval y))(hI:Inv G N γ σ w)
  (h:Ae (.mx s1 s2) e σ=some (v,σ1)):Co P G N γ σ w ((execOp a.eval o).run P w) v σ1:=by
 simp only[Ae]at h
 split at h
 .rename_i k m k' n e1 e2;rw[e1]at hx;rw[e2]at hy;have qb:=Eo (Ay rfl hx);have ql:=Eo (Ay rfl hy)
  split at h
  .rename_i hk;subst hk;cases h
   have hm:(if n > m then n else m)=max m n:=by
    rw[Int.max_def];split<;>split<;>omega
   have hr:(execOp a.eval o).run P w=.ok (.value (.int k (if n > m then n else m))) w:=by simp[execOp,ho,qb,ql,resolve,invoke,builtin,Builtin.max_,Builtin.max2]
   rw[hm]at hr;exact Ce hI hr K5
  .cases h
 .cases h
def A34{x y:Operand}{s1 s2:S}{ts:Array TypeId}(ho:o.op=.call { callee:=.builtin .min,args:=#[x,y],argTypes:=ts })(hx:RepV γ w (Ac e s1) (a.eval x))(hy:RepV γ w (Ac e s2) (a.eval y))(hI:Inv G N γ σ w)
  (h:Ae (.mn s1 s2) e σ=some (v,σ1)):Co P G N γ σ w ((execOp a.eval o).run P w) v σ1:=by
 simp only[Ae]at h
 split at h
 .rename_i k m k' n e1 e2;rw[e1]at hx;rw[e2]at hy;have qb:=Eo (Ay rfl hx);have ql:=Eo (Ay rfl hy)
  split at h
  .rename_i hk;subst hk;cases h
   have hm:(if n<m then n else m)=min m n:=by
    rw[Int.min_def];split<;>split<;>omega
   have hr:(execOp a.eval o).run P w=.ok (.value (.int k (if n<m then n else m))) w:=by simp[execOp,ho,qb,ql,resolve,invoke,builtin,Builtin.min_,Builtin.min2]
   rw[hm]at hr;exact Ce hI hr K5
  .cases h
 .cases h
def Awt{t:TypeId}{x:Operand}{s:S}(ho:o.op=.call { callee:=.builtin .len,args:=#[x],argTypes:=#[t] })(ht:P.underlying t=some .string)(hx:RepV γ w (Ac e s) (a.eval x))(hI:Inv G N γ σ w)
  (h:Ae (.lens s) e σ=some (v,σ1)):Co P G N γ σ w ((execOp a.eval o).run P w) v σ1:=by
 simp only[Ae]at h
 split at h
 .rename_i l e1;rw[e1]at hx;obtain⟨qb,hl⟩:=Gf (Ay rfl hx);cases h;exact Ce hI (by simp[execOp,ho,qb,resolve,invoke,builtin,Builtin.len_,run_underlying ht,goInt,I9]) K5
 .cases h
def Az0{t el:TypeId}{x:Operand}{s:S}(ho:o.op=.call { callee:=.builtin .len,args:=#[x],argTypes:=#[t] })(ht:P.underlying t=some (.slice el))(hx:RepV γ w (Ac e s) (a.eval x))(hI:Inv G N γ σ w)
  (h:Ae (.len s) e σ=some (v,σ1)):Co P G N γ σ w ((execOp a.eval o).run P w) v σ1:=by
 simp only[Ae]at h
 split at h
 .rename_i e1;rw[e1]at hx;have qb:=Ln (Ay rfl hx);cases h;exact Ce hI (by simp[execOp,ho,qb,resolve,invoke,builtin,Builtin.len_,run_underlying ht,goInt]) K5
 .rename_i t' xs e1;rw[e1]at hx;obtain⟨ad,cap,qb,_⟩:=Ot (Ay rfl hx);cases h;exact Ce hI (by simp[execOp,ho,qb,resolve,invoke,builtin,Builtin.len_,run_underlying ht,goInt]) K5
 .rename_i i g off len m own e1;rw[e1]at hx;obtain⟨b',o',cap,_,_,qb,_⟩:=Up (Ay rfl hx);cases h;exact Ce hI (by simp[execOp,ho,qb,resolve,invoke,builtin,Builtin.len_,run_underlying ht,goInt]) K5
 .cases h
open Go Go.RowKit
variable {P:Program} {G:List (Nat × List V)} {N:Nat} {γ:Gh} {σ σ1:St} {w:World} {e:Env} {a:Act} {o:Oper} {v:V}
def Jo(b o n:Nat):(⟨b,o,none⟩:Addr).add n=⟨b,o+n,none⟩:=by
 unfold Addr.add
 split
 .rename_i h;subst h;rfl
 .rfl
def An8{r:List V}{off n b o':Nat}(h:RepC γ w (.imm r off) (.pointer (some ⟨b,o',none⟩))):RepC γ w (.imm r (off+n)) (.pointer (some ⟨b,o'+n,none⟩)):=by
 obtain⟨b2,o2,k,row,hu,h1,h2,h3,h4⟩:=Lq h;simp at hu;obtain⟨rfl,rfl⟩:=hu;rw[To];exact .imm row h1 h2 h3 h4
def Al0{r:List V}{off:Nat}{u:Value}(hv:RepC γ w (.imm r off) u):∃ b o,u=.pointer (some ⟨b,o,none⟩):=by
 obtain⟨b,o,k,row,hu,_⟩:=Lq hv;exact⟨_,_,hu⟩
def An9{i g blk off:Nat}(h:γ.O[i]?=some (blk,g)):RepC γ w (.ptr i g off) (.pointer (some ⟨blk,off,none⟩)):=.ptr h (Ai _) (fun _=>rfl)
def Aoa{i g off n b':Nat}(h:RepC γ w (.ptr i g off) (.pointer (some ⟨b',off,none⟩))):RepC γ w (.ptr i g (off+n)) (.pointer (some ⟨b',off+n,none⟩)):=by
 obtain⟨b2,blk,g',hu,h1,h2,h3⟩:=Nk h;simp at hu;subst hu;exact .ptr h1 h2 h3
def Az1{t:TypeId}{fs:Array Field}{f:Field}{fi:TypeInfo}{i off:Nat}{x:Operand}{s:S}(ho:o.op=.fieldAddr t x i)(ht:P.underlying t=some (.struct fs))(hf:fs[i]?=some f)(jD:f.offset=off)(qc:P.info? f.type=some fi)(qD:fi.size≠0)
  (hx:RepV γ w (Ac e s) (a.eval x)) (hI:Inv G N γ σ w) (h:Ae (.fad off s) e σ=some (v,σ1)):Co P G N γ σ w ((execOp a.eval o).run P w) v σ1:=by
 have run:∀ b p,a.eval x=.pointer (some ⟨b,p,none⟩)->(execOp a.eval o).run P w=.ok (.value (.pointer (some ⟨b,p+off,none⟩))) w:=fun b p hu=>by
  simp[execOp,ho,hu,Instr.fieldAt,run_underlying ht,hf,Instr.sureAddr,fieldPlace,sizeOf,typeInfo,qc,qD,jD,Jo]
 simp only[Ae]at h
 split at h
 .rename_i r qE e1;rw[e1]at hx;have qb:=Ay rfl hx;obtain⟨b,p,hu⟩:=Al0 qb;cases h;rw[hu]at qb;exact Ce hI (run b p hu) (C5 (An8 qb))
 .rename_i b g qE e1;rw[e1]at hx;have qb:=Ay rfl hx;obtain⟨b',_,_,hu,_⟩:=Nk qb;cases h;rw[hu]at qb;exact Ce hI (run b' qE hu) (C5 (Aoa qb))
 .cases h
def Az2{t el:TypeId}{fi:TypeInfo}{len m:Nat}{x y:Operand}{s1 s2:S}(ho:o.op=.indexAddr t x y)(ht:P.underlying t=some (.array len el))(qc:P.info? el=some fi)(hm:fi.size=m)
  (hx:RepV γ w (Ac e s1) (a.eval x)) (hy:RepV γ w (Ac e s2) (a.eval y)) (hI:Inv G N γ σ w) (h:Ae (.iar len m s1 s2) e σ=some (v,σ1)):Co P G N γ σ w ((execOp a.eval o).run P w) v σ1:=by
 simp only[Ae]at h
 split at h
 .rename_i k n e2;rw[e2]at hy;have ql:=Eo (Ay rfl hy)
  split at h
  .rename_i hn
   have run:∀ b p,a.eval x=.pointer (some ⟨b,p,none⟩)->(execOp a.eval o).run P w=.ok (.value (.pointer (some ⟨b,p+n.toNat*m,none⟩))) w:=fun b p hu=>by
    simp[execOp,ho,hu,ql,Instr.indexAt,asIntOf,run_underlying ht,Instr.sureAddr,hn,sizeOf,typeInfo,qc,hm,Jo]
   split at h
   .rename_i r qE e1;rw[e1]at hx;have qb:=Ay rfl hx;obtain⟨b,p,hu⟩:=Al0 qb;cases h;rw[hu]at qb;exact Ce hI (run b p hu) (C5 (An8 qb))
   .rename_i b g qE e1;rw[e1]at hx;have qb:=Ay rfl hx;obtain⟨b',_,_,hu,_⟩:=Nk qb;cases h;rw[hu]at qb;exact Ce hI (run b' qE hu) (C5 (Aoa qb))
   .cases h
  .cases h
 .cases h
def Az3{t el:TypeId}{fi:TypeInfo}{m:Nat}{x y:Operand}{s1 s2:S}(ho:o.op=.indexAddr t x y)(ht:P.underlying t=some (.slice el))(qc:P.info? el=some fi)(hm:fi.size=m)
  (hx:RepV γ w (Ac e s1) (a.eval x)) (hy:RepV γ w (Ac e s2) (a.eval y)) (hI:Inv G N γ σ w) (h:Ae (.iad m s1 s2) e σ=some (v,σ1)):Co P G N γ σ w ((execOp a.eval o).run P w) v σ1:=by
 simp only[Ae]at h
 split at h
 .rename_i t' xs e1;rw[e1]at hx;obtain⟨ad,cap,hu,hR,_⟩:=Ot (Ay rfl hx);simp only[D7]at h;obtain⟨r,hr,h⟩:=h
  split at h
  .rename_i jH;cases h;unfold I1 at hr
   split at hr
   .rename_i k n e2;rw[e2]at hy;have ql:=Eo (Ay rfl hy)
    split at hr
    .rename_i hn;obtain⟨hg,qd⟩:=An7 (d:=[]) hr
     cases hR with
     | @lst _ _ _ _ m' row h1 h2 h3 h4 h5 h6 h7=>
     obtain⟨jm,k',hk,qf⟩:=h4 (Nat.zero_lt_of_lt qd);have jk:m'=m:=by rw[<-h5 n.toNat qd,hg,jH]
     subst jk;have jC:n<(xs.length:Int):=(Int.toNat_lt hn).1 qd;have kv:n.toNat*m'+m'<=xs.length*m':=by rw[<-E1];exact Fq _ qd
     have ja:ad.add (n.toNat*m')=⟨ad.block,ad.off+n.toNat*m',none⟩:=by
      obtain⟨b,of,sp⟩:=ad;simp at jm;subst jm;exact Jo _ _ _
     refine Ce hI (u:=.pointer (some ⟨ad.block,ad.off+n.toNat*m'+0,none⟩)) ?_ (C5 (.imm (fun j=>row n.toNat j) hk (by rw[jH];exact Cz (by omega) qf) (fun j hj=>h6 n.toNat j qd (by omega)) (fun j hj=>?_)))
     .simp[execOp,ho,hu,ql,Instr.indexAt,asIntOf,run_underlying ht,hn,jC,sizeOf,typeInfo,qc,hm,ja]
     .have:=h7 n.toNat j qd (by omega)
      rwa [hg]at this
    .cases hr
   .cases hr
  .cases h
 .rename_i j g off len m' own e1;rw[e1]at hx
  split at h
  .rename_i k n e2;rw[e2]at hy;have ql:=Eo (Ay rfl hy)
   split at h
   .rename_i hc;obtain⟨hn,jC,rfl⟩:=hc;obtain⟨b',o',cap,blk,g',hu,hb,qf,qX,_,qT,hl⟩:=Up (Ay rfl hx);obtain rfl:=qT (by omega);cases h;refine Ce hI (u:=.pointer (some ⟨b',o'+n.toNat*m,none⟩)) ?_ (C5 (.ptr hb qf (fun e=>(hl e).1)));simp[execOp,ho,hu,ql,Instr.indexAt,asIntOf,run_underlying ht,hn,jC,sizeOf,typeInfo,qc,hm,Jo]
   .cases h
  .cases h
 .cases h
def Al1{n:Nat}{one:Bool}{p:V}{u:Value}(hI:Inv G N γ σ w)(hp:RepV γ w p u)(h:H9 σ n one p=some v):
  ∃ b o cs,∃ f:Nat->Value,u=.pointer (some ⟨b,o,none⟩)/\Gl one cs=some v/\cs.length=n/\(∀ j,j<n->w.cell? ⟨b,o+j,none⟩=some (f j))/\∀ j,j<n->RepC γ w (cs.getD j .und) (f j):=by
 unfold H9 at h
 split at h
 .rename_i r off;obtain⟨b,o',k,row,hu,h1,h2,h3,h4⟩:=Lq (Ay rfl hp)
  split at h
  .rename_i qf;refine⟨b,o'+off,(r.drop off).take n,fun j=>row (off+j),hu,h,by rw[Gz,Dx];omega,fun j hj=>?_,fun j hj=>?_⟩
   .rw[To];exact h3 (off+j) (by omega)
   .have:=h4 (off+j) (by omega)
    have e2:((r.drop off).take n).getD j V.und=r.getD (off+j) .und:=by
     simp only[Au,Fi,Ii,hj,if_true]
    rw[e2];exact .row this
  .cases h
 .rename_i i g off
  split at h
  .rename_i cs e0 g' z qB
   split at h
   .rename_i qf;obtain⟨rfl,qf⟩:=qf;obtain⟨blk,hb,hu⟩:=Alz hI (Ay rfl hp) (by simp[Mt,qB]);obtain⟨_,_,_,us,lo,hi,g1,_,g2,g3⟩:=hI.obj i _ _ qB hb;refine⟨blk,off,(cs.drop off).take n,fun j=>us.getD (off+j) undef,hu,h,by rw[Gz,Dx];omega,fun j hj=>?_,fun j hj=>?_⟩
    .have qd:off+j<us.size:=by omega
     simp[World.cell?,g1,Array.getD_eq_getD_getElem?,qd]
    .have:=g3 (off+j) (by omega)
     have e2:((cs.drop off).take n).getD j V.und=cs.getD (off+j) .und:=by
      simp only[Au,Fi,Ii,hj,if_true]
     rw[e2];exact this
   .cases h
  .cases h
 .cases h
def Aej{n:Nat}{one:Bool}{cs:List V}{f:Nat->Value}(h:Gl one cs=some v)(hl:cs.length=n)(hr:∀ j,j<n->RepC γ w (cs.getD j .und) (f j)):
  (one=true->n=1/\RepC γ w v (f 0))/\(one=false->Rep1 γ w v (.agg ((List.range n).map f).toArray)):=by
 unfold Gl at h;constructor
 .rintro rfl;rw[if_pos rfl]at h
  split at h
  .cases h;simp at hl;exact⟨hl.symm,by have:=hr 0 (by omega);simpa using this⟩
  .cases h
 .rintro rfl;rw[if_neg (by simp)]at h;cases h;refine .agg (by simp[hl]) (fun j hj=>?_);have:=hr j (by omega);simpa[Au,show j<n by omega] using this
def M6:TypeDesc->Bool
 | .struct _ | .array _ _=>true
 | _=>false
def Aek{t:TypeId}{d:TypeDesc}(h:P.underlying t=some d):(isAgg t).run P w=.ok (M6 d) w:=by
 simp only[isAgg,Sem.run_bind,run_underlying h,Result.andThen_ok]
 cases d<;>rfl
def Ajo{t:TypeId}{d:TypeDesc}{fi:TypeInfo}{n:Nat}{one:Bool}{b p:Nat}{f:Nat->Value}(ht:P.underlying t=some d)(hd:M6 d=!one)(qc:P.info? t=some fi)(hn:fi.size=n)(jE:one=true->n=1)
  (hc:∀ j,j<n->w.cell? ⟨b,p+j,none⟩=some (f j)):(loadVar t ⟨b,p,none⟩).run P w=.ok (if one then f 0 else .agg ((List.range n).map f).toArray) w:=by
 have jw:=Aek (P:=P) (w:=w) ht;rw[hd]at jw
 cases one with
 | true=>
  have h0:=hc 0 (by have:=jE rfl;omega);simp at h0;simp[loadVar,jw,load,Sem.run,h0]
 | false=>
  have hl:=run_loadCells (P:=P) w ⟨b,p,none⟩ n f (fun j hj=>by rw[Jo];exact hc j hj);simp[loadVar,jw,sizeOf,typeInfo,qc,hn,hl]
def Awu{t:TypeId}{d:TypeDesc}{fi:TypeInfo}{n:Nat}{one:Bool}{x:Operand}{s:S}(ho:o.op=.load t x)(ht:P.underlying t=some d)(hd:M6 d=!one)(qc:P.info? t=some fi)(hn:fi.size=n)
  (hx:RepV γ w (Ac e s) (a.eval x)) (hI:Inv G N γ σ w) (h:Ae (.load n one s) e σ=some (v,σ1)):Co P G N γ σ w ((execOp a.eval o).run P w) v σ1:=by
 simp only[Ae,Bo]at h;obtain⟨v',h,h2⟩:=h;cases h2;obtain⟨b,p,cs,f,hu,h1,h2,h3,h4⟩:=Al1 hI hx h;obtain⟨m1,m2⟩:=Aej h1 h2 h4;have hr:=Ajo (P:=P) (w:=w) ht hd qc hn (fun h=>(m1 h).1) h3;refine Ce hI (u:=if one then f 0 else .agg ((List.range n).map f).toArray) (by simp[execOp,ho,hu,Instr.loadAt,Instr.sureAddr,hr]) ?_
 cases one with
 | true=>exact C5 (m1 rfl).2
 | false=>exact .one (m2 rfl)
def okc{us:List Value}{cs:List V}(hl:cs.length=us.length)(h:∀ j,j<cs.length->RepC γ w (cs.getD j .und) (us.getD j undef)):∀ u∈us,u.oneCell'=true:=by
 intro u hu;obtain⟨j,hj,rfl⟩:=Pq hu;have:=(Pu (h j (by omega))).2;simpa[Au,hj] using this
def Akv{cs r cs':List V}{off:Nat}{us ur:List Value}(hp:Nw cs off r=some cs')(hl:us.length=cs.length)(jT:r.length=ur.length)
  (h1:∀ j,j<cs.length->RepC γ w (cs.getD j .und) (us.getD j undef)) (h2:∀ j,j<r.length->RepC γ w (r.getD j .und) (ur.getD j undef)) :
  off+r.length<=cs.length/\cs'.length=cs.length/\(us.take off++ur++us.drop (off+ur.length)).length=cs'.length/\∀ j,j<cs'.length->RepC γ w (cs'.getD j .und) ((us.take off++ur++us.drop (off+ur.length)).getD j undef):=by
 unfold Nw at hp
 split at hp
 .rename_i qf;cases hp;refine⟨qf,by simp;omega,by simp;omega,fun j hj=>?_⟩;by_cases jb:j<off
  .have e1:(cs.take off++r++cs.drop (off+r.length)).getD j V.und=cs.getD j .und:=by
    simp only[Au];rw[Br,Ca (by simp;omega),Fi,if_pos jb]
   have e2:(us.take off++ur++us.drop (off+ur.length)).getD j undef=us.getD j undef:=by
    simp only[Au];rw[Br,Ca (by simp;omega),Fi,if_pos jb]
   rw[e1,e2];exact h1 j (by omega)
  .by_cases jj:j<off+r.length
   .have e1:(cs.take off++r++cs.drop (off+r.length)).getD j V.und=r.getD (j - off) .und:=by
     simp only[Au];rw[Br,Cd (by simp;omega),Ca (by simp;omega)];simp[show min off cs.length=off by omega]
    have e2:(us.take off++ur++us.drop (off+ur.length)).getD j undef=ur.getD (j - off) undef:=by
     simp only[Au];rw[Br,Cd (by simp;omega),Ca (by simp;omega)];simp[show min off us.length=off by omega]
    rw[e1,e2];exact h2 (j - off) (by omega)
   .have kk:j<cs.length:=by simp at hj;omega
    have e1:(cs.take off++r++cs.drop (off+r.length)).getD j V.und=cs.getD j .und:=by
     simp only[Au];rw[Cd (by simp;omega),Ii];congr 2;simp;omega
    have e2:(us.take off++ur++us.drop (off+ur.length)).getD j undef=us.getD j undef:=by
     simp only[Au];rw[Cd (by simp;omega),Ii];congr 2;simp;omega
    rw[e1,e2];exact h1 j kk
 .cases hp
def Ze(P:Program)(g o:Nat)(t:TypeId)(fz:Nat × Nat):∀ (vs:List Value) (i:Nat) (qo:Array Value) (w:World),w.heap[g]?=some (.cells qo t fz)->(fz.2<=o+i\/qo.size<=fz.1)->o+i+vs.length<=qo.size->(∀ v∈vs,v.oneCell'=true) ->
  (storeCells ⟨g,o,none⟩ vs i).run P w=.ok () (w.setRow g (qo.toList.take (o+i)++vs++qo.toList.drop (o+i+vs.length)).toArray)
 | [],i,qo,w,hg,_,_,_=>by
  simp only[storeCells,Cy,C8,Ok,Li,Array.toArray_toList];rw[setRow_self w g qo t fz hg];rfl
 | v::rest,i,qo,w,hg,jO,hl,h1=>by
  have hi:o+i<qo.size:=by simp at hl;omega
  have jv:(⟨g,o,none⟩:Addr).add i=⟨g,o+i,none⟩:=Jo _ _ _;have qH:w.cell? ⟨g,o+i,none⟩=some qo[o+i]:=by simp[World.cell?,hg,hi]
  have jy:w.frozen? ⟨g,o+i,none⟩=false:=by
   obtain⟨lo,jh⟩:=fz;simp only[World.frozen?,hg,Bool.and_eq_false_iff,decide_eq_false_iff_not];simp only at jO;rcases jO with h | h
   .right;omega
   .left;omega
  have jt:(store ((⟨g,o,none⟩:Addr).add i) v).run P w=.ok () (w.setRow g (qo.setIfInBounds (o+i) v)):=by
   rw[jv,run_store P w _ v _ (h1 v (by simp)),qH];simp[jy,setCell_eq_setRow w g (o+i) qo t fz v hg]
  have ih:=Ze P g o t fz rest (i+1) (qo.setIfInBounds (o+i) v) (w.setRow g (qo.setIfInBounds (o+i) v)) (setRow_heap w g qo _ t _ hg) (by simp;omega) (by simp at hl ⊢;omega) (fun x hx=>h1 x (by simp[hx]));simp only[storeCells,Sem.run_bind,jt,Result.andThen_ok,ih,setRow_setRow];congr 3;have e:=list_seg_step qo.toList (o+i) v rest (by simp at hl ⊢;omega);simpa[Array.toList_setIfInBounds,To] using e
def Uq{α:Type}(us ur:List α)(off j:Nat)(h:off+ur.length<=us.length):(us.take off++ur++us.drop (off+ur.length))[j]?=if j<off then us[j]? else if j<off+ur.length then ur[j - off]? else us[j]?:=by
 by_cases jb:j<off
 .rw[if_pos jb,Br,Ca (by simp;omega),Fi,if_pos jb]
 .rw[if_neg jb];by_cases jj:j<off+ur.length
  .rw[if_pos jj,Br,Cd (by simp;omega),Ca (by simp;omega)];congr 1;simp;omega
  .rw[if_neg jj,Cd (by simp;omega),Ii];congr 1;simp;omega
def Zx{b:Nat}(us:Array Value)(h:N<=b):Below N w (w.setRow b us):=
 ⟨rfl,rfl,rfl,by simp[World.setRow],fun k hk=>setRow_other w b k us (by omega)⟩
def Au6{t:TypeId}{fi:TypeInfo}{n:Nat}{x y:Operand}{s1 s2:S}(ho:o.op=.store t x y)(qc:P.info? t=some fi)(hn:fi.size=n)
  (hx:RepV γ w (Ac e s1) (a.eval x)) (hy:RepV γ w (Ac e s2) (a.eval y)) (hI:Inv G N γ σ w) (h:Ae (.store n s1 s2) e σ=some (v,σ1)):Co P G N γ σ w ((execOp a.eval o).run P w) v σ1:=by
 simp only[Ae,Bo]at h;obtain⟨σ',h,h2⟩:=h;cases h2;unfold Oy at h
 split at h
 .rename_i b g off e1;rw[e1]at hx
  split at h
  .rename_i cs ee g' z qB
   split at h
   .rename_i hc;obtain⟨rfl,hz,kI,je⟩:=hc;simp only[Bo]at h;obtain⟨cs',hp,h⟩:=h;cases h;obtain⟨blk,hb,hu⟩:=Alz hI (Ay rfl hx) (by simp[Mt,qB]);obtain⟨ur,jn,hl,hr⟩:=Aei hy je;obtain⟨_,kJ,kQ,us,lo,hi,g1,jL,g2,g3⟩:=hI.obj b _ _ qB hb
    have jY:∀ j,j<cs.length->RepC γ w (cs.getD j .und) ((us.toList.take cs.length).getD j undef):=fun j hj=>by
     have:=g3 j hj;simpa[Array.getD_eq_getD_getElem?,Au,Fi,hj] using this
    obtain⟨p1,p2,p3,p4⟩:=Akv hp (by simp;omega) hl jY hr;have jt:=Ze P blk off ee (lo,hi) ur 0 us w g1 (by rcases jL.2 with h | h;exact .inl (by simp;omega);exact .inr h) (by simp;omega) (okc hl hr);simp only[Ok]at jt;have qD:(a.eval y).cells.size=fi.size:=by rw[jn];simp;omega
    have kD:ur.length=n:=by omega
    have jI:((us.toList.take off++ur++us.toList.drop (off+ur.length)).toArray).size=us.size:=by simp;omega
    obtain⟨i1,i2⟩:=hI.write (us':=(us.toList.take off++ur++us.toList.drop (off+ur.length)).toArray) (cs':=cs') (g':=g) hb qB g1 jL (Ai _) (by omega) jI (by omega) (fun o ho=>by
     rw[Rh,Br,Ca (by simp;omega),Fi,if_pos (by omega),Array.getElem?_toList]) (fun j hj=>by
     have:=p4 j hj
     have e2:((us.toList.take off++ur++us.toList.drop (off+ur.length)).toArray).getD j undef=((us.toList.take cs.length).take off++ur++(us.toList.take cs.length).drop (off+ur.length)).getD j undef:=by
      rw[Array.getD_eq_getD_getElem?,Rh,Au,Uq _ _ _ _ (by simp;omega),Uq _ _ _ _ (by simp;omega)];rw[Fi,if_pos (show j<cs.length by omega)]
     rw[e2]
     exact this)
    rw[show(blk,g).1=blk from rfl,Or hb]at i1 i2;refine⟨undef,_,_,.inr ⟨?_,rfl⟩,.und,i1,i2,Zx _ (hI.low _ _ hb),fun _ _=>rfl⟩;have qQ:(a.eval y).cells.toList=ur:=by rw[jn]
    simp[execOp,ho,hu,Instr.storeAt,Instr.sureAddr,storeVar,sizeOf,typeInfo,qc,qD,qQ,jt]
   .cases h
  .cases h
 .cases h
open Go Go.RowKit
variable {P:Program} {G:List (Nat × List V)} {N:Nat} {γ:Gh} {σ σ1:St} {w:World} {e:Env} {a:Act} {o:Oper} {v:V}
def Ad5{o:Obj}(h:N<=w.heap.size):Below N w (w.alloc o):=(Below.refl _ _).alloc h o
def Aag{us:Array Value}{cs:List V}{el:TypeId}{r:Result Next}{v:V}{u:Value}(hI:Inv G N γ σ w)(hl:cs.length<=us.size)(hr:∀ j,j<cs.length->RepC γ w (cs.getD j .und) (us.getD j undef))
  (h:r=.ok (.value u) (w.alloc (.cells us el))) (hv:∀ γ',γ'.O[σ.length]?=some (w.heap.size,0)->RepC γ' (w.alloc (.cells us el)) v u):Co P G N γ σ w r v (σ++[.row cs el 0 0]):=by
 obtain⟨i1,i2⟩:=hI.newRow us el cs hl hr;exact⟨_,_,_,.inl h,C5 (hv _ (by show(γ.O++_)[σ.length]?=_;rw[<-hI.len];simp)),i1,i2,Ad5 hI.base,fun b hb=>Lm _ _ (by have:=hI.base;omega)⟩
def Az4{t:TypeId}{fi:TypeInfo}{z:Value}{zs:List V}(ho:o.op=.alloc t)(qc:P.info? t=some fi)(hz:fi.zero=some z)(hc:Hj zs z.cells.toList=true)(hI:Inv G N γ σ w)
  (h:Ae (.new t zs) e σ=some (v,σ1)):Co P G N γ σ w ((execOp a.eval o).run P w) v σ1:=by
 simp only[Ae]at h;cases h;obtain⟨h1,h2⟩:=Ro (γ:=γ) (w:=w) hc
 refine Aag (us:=z.cells) (el:=t) (u:=.pointer (some ⟨w.heap.size,0,none⟩)) hI (by simpa using Adz h1) (fun j hj=>by
  have:=h2 j hj
  simpa[Array.getD_eq_getD_getElem?,Au] using this) ?_ (fun γ' hO=>An9 hO)
 simp[execOp,ho,Instr.alloc,zeroValue,typeInfo,qc,hz,newVar,newRow,newObj,Sem.run]
def Az5{t:TypeId}{x:Operand}{s:S}(ho:o.op=.box t x)(hx:RepV γ w (Ac e s) (a.eval x))(hI:Inv G N γ σ w)
  (h:Ae (.box t s) e σ=some (v,σ1)):Co P G N γ σ w ((execOp a.eval o).run P w) v σ1:=by
 simp only[Ae]at h
 split at h
 .rename_i hc;cases h;obtain⟨us,hu,h1,h2⟩:=Aei hx hc
  refine Aag (us:=us.toArray) (el:=t) (u:=.pointer (some ⟨w.heap.size,0,none⟩)) hI (by simpa using Adz h1) (fun j hj=>by
   have:=h2 j hj
   simpa[Array.getD_eq_getD_getElem?,Au] using this) ?_ (fun γ' hO=>An9 hO)
  simp[execOp,ho,Instr.box,newVar,newRow,newObj,Sem.run,hu]
 .cases h
/-! filling -/
def Al2(off:Nat):∀ (l:List Value) (k:Nat) (cs:Array Value),off+k+l.length<=cs.size ->
  ((l.zipIdx k).foldl (fun cs (p:Value × Nat)=>cs.setIfInBounds (off+p.2) p.1) cs).toList=cs.toList.take (off+k)++l++cs.toList.drop (off+k+l.length)
 | [],k,cs,h=>by simp
 | c::l,k,cs,h=>by
  rw[List.zipIdx_cons,List.foldl_cons,Al2 off l (k+1) _ (by simp at h ⊢;omega)];simp only[Array.toList_setIfInBounds];have:=list_seg_step cs.toList (off+k) c l (by simp at h ⊢;omega);simp only[Ah];rw[<-this];rfl
def Awv(off:Nat)(vs cs:Array Value)(h:off+vs.size<=cs.size):
  vs.zipIdx.foldl (fun cs (c,j)=>cs.setIfInBounds (off+j) c) cs=(cs.toList.take off++vs.toList++cs.toList.drop (off+vs.size)).toArray:=by
 apply Array.toList_inj.1;have:=Al2 off vs.toList 0 cs (by simpa using h);simp only[Ok,Array.length_toList]at this;rw[<-this,<-Array.foldl_toList];simp
def Aan{place:Nat->Option (Nat × Nat)}:∀ {ps:List (Nat × Nat × V)} {qs:List (Nat × Value)} {cs cs':List V} {us:Array Value},Hm cs ps=some cs'->ps.length=qs.length ->
  (∀ (i:Nat) (p:Nat × Nat × V) (q:Nat × Value),ps[i]?=some p->qs[i]?=some q->place q.1=some (p.1,p.2.1)/\RepV γ w p.2.2 q.2)->us.size=cs.length->(∀ j,j<cs.length->RepC γ w (cs.getD j .und) (us.toList.getD j undef)) ->
  ∃ us':Array Value,Instr.fill place us qs=some us'/\us'.size=cs'.length/\cs'.length=cs.length/\∀ j,j<cs'.length->RepC γ w (cs'.getD j .und) (us'.toList.getD j undef)
 | [],[],cs,cs',us,h,_,_,hs,hr=>by
  simp only[Hm]at h;cases h;exact⟨us,rfl,hs,rfl,hr⟩
 | [],_::_,_,_,_,_,hl,_,_,_=>by simp at hl
 | _::_,[],_,_,_,_,hl,_,_,_=>by simp at hl
 | (off,n,v)::ps,(i,u)::qs,cs,cs',us,h,hl,hp,hs,hr=>by
  simp only[Hm]at h
  split at h
  .rename_i hc;simp only[D7]at h;obtain⟨c1,h1,h⟩:=h;obtain⟨jG,hv⟩:=hp 0 _ _ rfl rfl;have jN:=hc.2;have kE:RepV γ w v u:=hv;obtain⟨ur,jn,jT,ky⟩:=Aei kE hc.1;obtain⟨p1,p2,p3,p4⟩:=Akv h1 (by simpa using hs) jT hr ky;have qD:u.cells.size=n:=by rw[jn];simp only[Wd];omega
   have jx:off+u.cells.size<=us.size:=by omega
   have hf:=Awv off u.cells us jx;have qQ:u.cells.toList=ur:=by rw[jn]
   rw[qQ,qD,show n=ur.length by omega]at hf
   obtain⟨us',f1,f2,f3,f4⟩:=Aan (place:=place) (ps:=ps) (qs:=qs) (cs:=c1) (cs':=cs') (us:=(us.toList.take off++ur++us.toList.drop (off+ur.length)).toArray) h (by simpa using hl)
    (fun i' p q h1 h2=>hp (i'+1) p q (by simpa using h1) (by simpa using h2)) (by simpa using p3) (fun j hj=>by simpa using p4 j hj)
   refine⟨us',?_,f2,f3.trans p2,f4⟩;unfold Instr.fill;rw[show place i=some (off,n) from jG];simp only[qD];rw[if_neg (by simp;omega),hf];exact f1
  .cases h
def Au7{t:TypeId}{fi:TypeInfo}{z:Value}{zs:List V}{fs:Array Field}{qw:List (Nat × Nat)}{qa:Array (Nat × Operand)}{ps:List (Nat × Nat × S)}(ho:o.op=.build t qa)(ht:P.underlying t=some (.struct fs))(qc:P.info? t=some fi)(hz:fi.zero=some z)(hc:Hj zs z.cells.toList=true)
  (jG:fs.toList.mapM (fun f=>(P.info? f.type).map fun i=>(f.offset,i.size))=some qw)
  (hl:ps.length=qa.size) (hp:∀ (i:Nat) (p:Nat × Nat × S) (q:Nat × Operand),ps[i]?=some p->qa[i]?=some q->qw[q.1]?=some (p.1,p.2.1)/\RepV γ w (Ac e p.2.2) (a.eval q.2))
  (hI:Inv G N γ σ w)
  (h:Ae (.build zs ps) e σ=some (v,σ1)):Co P G N γ σ w ((execOp a.eval o).run P w) v σ1:=by
 simp only[Ae,Bo]at h;obtain⟨cs,h,h2⟩:=h;cases h2;obtain⟨h1,h2⟩:=Ro (γ:=γ) (w:=w) hc
 obtain⟨us',f1,f2,f3,f4⟩:=Aan (γ:=γ) (w:=w) (place:=fun i=>qw.toArray[i]?) (qs:=(qa.map fun(i,x)=>(i,a.eval x)).toList) (us:=z.cells) h (by simp[hl]) (fun i p q g1 g2=>by
  simp only[Av,Bo]at g1;obtain⟨p',g1,rfl⟩:=g1;simp only[Array.toList_map,Av,Bo]at g2;obtain⟨q',g2,rfl⟩:=g2;obtain⟨k1,k2⟩:=hp i p' q' g1 (by simpa using g2)
  exact⟨by simpa using k1,k2⟩) (by simpa using h1.symm) h2
 refine Ce hI (u:=.agg us') ?_ (.one (by
  have:=Rep1.agg (γ:=γ) (w:=w) (cs:=cs) (us:=us'.toList) (by simp[f2]) f4
  simpa using this))
 have hb:P.built t (qa.map fun(i,x)=>(i,a.eval x)).toList=some us':=by
  unfold Program.built;simp only[qc,ht,hz,jG];exact f1
 simp[execOp,ho,run_build w t _ us' hb]
def At9{t el:TypeId}{fi fe:TypeInfo}{z:Value}{zs:List V}{len:Nat}{qa:Array (Nat × Operand)}{ps:List (Nat × Nat × S)}(ho:o.op=.build t qa)(ht:P.underlying t=some (.array len el))(qc:P.info? t=some fi)(hz:fi.zero=some z)(hc:Hj zs z.cells.toList=true)(kg:P.info? el=some fe)
  (hl:ps.length=qa.size) (hp:∀ (i:Nat) (p:Nat × Nat × S) (q:Nat × Operand),ps[i]?=some p->qa[i]?=some q->(q.1*fe.size,fe.size)=(p.1,p.2.1)/\RepV γ w (Ac e p.2.2) (a.eval q.2))
  (hI:Inv G N γ σ w)
  (h:Ae (.build zs ps) e σ=some (v,σ1)):Co P G N γ σ w ((execOp a.eval o).run P w) v σ1:=by
 simp only[Ae,Bo]at h;obtain⟨cs,h,h2⟩:=h;cases h2;obtain⟨h1,h2⟩:=Ro (γ:=γ) (w:=w) hc
 obtain⟨us',f1,f2,f3,f4⟩:=Aan (γ:=γ) (w:=w) (place:=fun i=>some (i*fe.size,fe.size)) (qs:=(qa.map fun(i,x)=>(i,a.eval x)).toList) (us:=z.cells) h (by simp[hl]) (fun i p q g1 g2=>by
  simp only[Av,Bo]at g1;obtain⟨p',g1,rfl⟩:=g1;simp only[Array.toList_map,Av,Bo]at g2;obtain⟨q',g2,rfl⟩:=g2;obtain⟨k1,k2⟩:=hp i p' q' g1 (by simpa using g2)
  exact⟨by simpa using k1,k2⟩) (by simpa using h1.symm) h2
 refine Ce hI (u:=.agg us') ?_ (.one (by
  have:=Rep1.agg (γ:=γ) (w:=w) (cs:=cs) (us:=us'.toList) (by simp[f2]) f4
  simpa using this))
 simp only[Array.toList_map]at f1;simp[execOp,ho,Instr.build,zeroValue,typeInfo,qc,hz,run_underlying ht,sizeOf,kg,f1]
/-! rows of cells -/
def Xi(m:Nat):∀ (n:Nat) (cs:List V),E6 m n cs=(List.range n).map fun i=>(cs.drop (i*m)).take m
 | 0,_=>rfl
 | n+1,cs=>by
  rw[E6,Xi m n,List.range_succ_eq_map,Aw,Ol];simp only[Ad0,Ll,List.cons.injEq,true_and];apply Wa;intro i _;simp only[Function.comp,Oj,E1];rw[Z0]
def W1(m n:Nat)(cs:List V):(E6 m n cs).length=n:=by rw[Xi];simp
def Al3(m n:Nat)(cs:List V){i:Nat}(hi:i<n):(E6 m n cs).getD i []=(cs.drop (i*m)).take m:=by
 rw[Xi];simp[Au,hi]
def Xj{i n m:Nat}(hi:i<n):i*m+m<=n*m:=by rw[<-E1];exact Fq _ hi
def Aj2{m n:Nat}{cs:List V}(hl:n*m<=cs.length){i:Nat}(hi:i<n):((E6 m n cs).getD i []).length=m:=by
 rw[Al3 m n cs hi];have:=Xj (m:=m) hi;simp;omega
def Akw{m n:Nat}{cs:List V}{i j:Nat}(hi:i<n)(hj:j<m):((E6 m n cs).getD i []).getD j .und=cs.getD (i*m+j) .und:=by
 rw[Al3 m n cs hi];simp only[Au,Fi,Ii,hj,if_true]
def Ou{α β:Type}{f:α->Option β}:∀ {l:List α} {r:List β},l.mapM f=some r->r.length=l.length/\∀ (i:Nat) (x:α),l[i]?=some x->∃ y,r[i]?=some y/\f x=some y
 | [],r,h=>by
  simp at h;subst h;exact⟨rfl,fun i x hi=>by simp at hi⟩
 | a::l,r,h=>by
  rw[Ik]at h
  cases ha:f a with
  | none=>simp[ha]at h
  | some b=>
   cases hl:l.mapM f with
   | none=>simp[ha,hl]at h
   | some r'=>
    simp[ha,hl]at h;subst h;obtain⟨h1,h2⟩:=Ou hl;refine⟨by simp[h1],fun i x hi=>?_⟩
    cases i with
    | zero=>simp at hi;subst hi;exact⟨b,by simp,ha⟩
    | succ i=>
     obtain⟨y,hy,hf⟩:=h2 i x (by simpa using hi);exact⟨y,by simpa using hy,hf⟩
/-! what is settled -/
def Ac4(γ:Gh)(σ:St)(js:List Nat)(κ':Em):Prop:=∀ (i:Nat) (cs:List V) (e g z:Nat) (p:Nat × Nat),i∈js->σ[i]?=some (Ob.row cs e g z)->γ.O[i]?=some p->κ' p.1=some cs.length
def Inv.freeze:∀ (js:List Nat) {γ:Gh} {σ:St},Inv G N γ σ w->∃ κ',Inv G N ⟨κ',γ.O⟩ (σ.freeze js) w/\Ext γ w ⟨κ',γ.O⟩ w/\(∀ b,b<N->κ' b=γ.κ b)/\Ac4 γ σ js κ'/\(∀ (i:Nat) (cs:List V) (e g z:Nat),σ[i]?=some (Ob.row cs e g z)->∃ z',(σ.freeze js)[i]?=some (Ob.row cs e g z'))
 | [],γ,σ,h=>⟨γ.κ,h,Ext.refl _ _,fun _ _=>rfl,fun i cs e g z p hi=>(by cases hi),fun i cs e g z hi=>⟨z,hi⟩⟩
 | j::js,γ,σ,h=>by
  unfold St.freeze
  split
  .rename_i ob qu
   cases ob with
   | dead=>
    rw[show Ob.shut .dead=.dead from rfl,Or qu];obtain⟨κ',k1,k2,k3,k4,k5⟩:=Inv.freeze js h;refine⟨κ',k1,k2,k3,fun i cs e g z p hi ho hp=>?_,k5⟩;rcases Bi.1 hi with rfl | hi
    .rw[qu]at ho;cases ho
    .exact k4 i cs e g z p hi ho hp
   | map kvs=>
    rw[show Ob.shut (.map kvs)=.map kvs from rfl,Or qu];obtain⟨κ',k1,k2,k3,k4,k5⟩:=Inv.freeze js h;refine⟨κ',k1,k2,k3,fun i cs e g z p hi ho hp=>?_,k5⟩;rcases Bi.1 hi with rfl | hi
    .rw[qu]at ho;cases ho
    .exact k4 i cs e g z p hi ho hp
   | row cs e g z=>
    obtain⟨p,hp,hk⟩:=h.of qu;obtain⟨i1,i2⟩:=h.shut1 (z':=cs.length) hp qu hk.2.2.1 (Ai _);obtain⟨κ',k1,k2,k3,k4,k5⟩:=Inv.freeze js i1;have jQ:j<σ.length:=(Aq.1 qu).1;refine⟨κ',k1,i2.trans k2,fun b hb=>(k3 b hb).trans (Lm _ _ (by have:=h.low j p hp;omega)),fun i cs' e' g' z' q hi ho hq=>?_,fun i cs' e' g' z' hi=>?_⟩
    .by_cases qi:i=j
     .subst qi;rw[qu]at ho;cases ho;rw[hp]at hq;cases hq;obtain⟨k',qg,qf⟩:=k2.kap p.1 cs.length (Rq _ _ _);obtain⟨z2,kF⟩:=k5 i cs e g cs.length (Ci jQ);obtain⟨_,o2,o3,_⟩:=k1.obj i _ p kF hp;have jW:κ' p.1=some z2:=o2;have jR:κ' p.1=some k':=qg;rw[jW]at jR;cases jR;rw[jW];congr 1;have kR:k'<=cs.length:=o3;omega
     .rcases Bi.1 hi with e1 | hi
      .exact absurd e1 qi
      .exact k4 i cs' e' g' z' q hi (by rw[Bj (fun e=>qi e.symm)];exact ho) hq
    .by_cases qi:j=i
     .subst qi;rw[qu]at hi;cases hi;exact k5 j cs e g cs.length (Ci jQ)
     .exact k5 i cs' e' g' z' (by rw[Bj qi];exact hi)
  .rename_i qu;obtain⟨κ',k1,k2,k3,k4,k5⟩:=Inv.freeze js h;refine⟨κ',k1,k2,k3,fun i cs e g z p hi ho hp=>?_,k5⟩;rcases Bi.1 hi with rfl | hi
   .rw[qu]at ho;cases ho
   .exact k4 i cs e g z p hi ho hp
def Al4{v:V}{u:Value}(h:RepC γ w v u)(hv:v.rowB=true):RepR γ.κ w v u:=by
 cases h with
 | row h=>exact h
 | _=>cases hv
def Z6{κ':Em}{js:List Nat}(hI:Inv G N γ σ w)(hx:Ext γ w ⟨κ',γ.O⟩ w)(hs:Ac4 γ σ js κ'):∀ {d:Nat} {v v':V} {u:Value},Fk σ js d v=some v'->RepC γ w v u->RepR κ' w v' u
 | 0,_,_,_,h,_=>by cases h
 | d+1,v,v',u,h,hr=>by
  unfold Fk at h
  split at h
  .rename_i hv;cases h;exact(Al4 hr hv).keep hx.kap hx.cell
  .split at h
   .rename_i i g off len m own hv
    split at h
    .rename_i ji
     split at h
     .rename_i cs e g' z ho
      split at h
      .rename_i hc;obtain⟨rfl,hm,qf⟩:=hc;simp only[Bo]at h;obtain⟨rs,jk,rfl⟩:=h;obtain⟨blk,cap,o',hb,hu,qT,qD,qX,qZ⟩:=Xh (o':=0) hI hr (by simp[Mt,ho]);obtain⟨_,_,_,us,lo,hi,g1,_,g2,g3⟩:=hI.obj i _ _ ho hb;obtain⟨hl,hg⟩:=Ou jk;have jH:rs.length=len*m:=by rw[hl];simp;omega
       have hk:=hs i cs e g z _ (Hg.1 ji) ho hb;rw[hu];have qQ:=W1 m len rs
       have key:=RepR.lst (κ:=κ') (w:=w) (t:=0) (xs:=E6 m len rs) (a:=⟨blk,o',none⟩) (cap:=cap) (m:=m) (fun i j=>us.getD (o'+i*m+j) undef) (fun h=>by omega) (by omega) qZ
        (fun h0=>⟨rfl,_,hk,by rw[qQ]at h0 ⊢;rw[qT (by omega)];exact qf⟩)
        (fun i hi=>Aj2 (by omega) (by omega))
        (fun i j hi hj=>by
         rw[qQ]at hi;have:=Xj (m:=m) hi;have e1:=qT (by omega);have qd:o'+i*m+j<us.size:=by omega
         simp[World.cell?,g1,Array.getD_eq_getD_getElem?,qd])
        (fun i j hi hj=>by
         rw[qQ]at hi;have:=Xj (m:=m) hi;have e1:=qT (by omega);subst e1;rw[Akw hi hj];have qd:i*m+j<((cs.drop o').take (len*m)).length:=by simp;omega
         obtain⟨y,hy,hf⟩:=hg (i*m+j) _ (A2 qd);rw[show rs.getD (i*m+j) .und=y by rw[Au,hy];rfl];refine Z6 hI hx hs hf ?_;have h3:=g3 (o'+(i*m+j)) (by simp at qd;omega)
         have e2:((cs.drop o').take (len*m))[i*m+j]=cs.getD (o'+(i*m+j)) .und:=by
          rw[List.getElem_take,List.getElem_drop,Au,A2 (by simp at qd;omega)];rfl
         rw[e2,To]
         exact h3)
       rw[qQ]at key;exact key
      .cases h
     .cases h
    .cases h
   .cases h
open Go Go.RowKit
variable {P:Program} {G:List (Nat × List V)} {N:Nat} {γ:Gh} {σ σ1:St} {w:World} {e:Env} {a:Act} {o:Oper} {v:V}
def Ae4{α:Type}(zs:List α)(d:α)(hm:0<zs.length):∀ (n j:Nat),j<n*zs.length->((List.replicate n zs).flatten).getD j d=zs.getD (j % zs.length) d
 | 0,j,h=>by omega
 | n+1,j,h=>by
  rw[Ta,D3];by_cases hj:j<zs.length
  .rw[Tj hj];simp only[Au,Ca hj]
  .have:=Ae4 zs d hm n (j - zs.length) (by rw[E1]at h;omega);simp only[Au,Cd (Nat.le_of_not_lt hj)]at this ⊢;rw[this,Nat.mod_eq_sub_mod (Nat.le_of_not_lt hj)]
def Wi{α:Type}(zs:List α)(n:Nat):((List.replicate n zs).flatten).length=n*zs.length:=by
 induction n with
 | zero=>simp
 | succ n ih=>rw[Ta,D3,Aj,ih,E1];omega
def Aww(w:World)(us:Array Value)(el:TypeId)(k:Nat):(w.alloc (.cells us el)).cell? ⟨w.heap.size,k,none⟩=us[k]?:=by
 unfold World.cell?;rw[show(w.alloc (.cells us el)).heap[(⟨w.heap.size,k,none⟩:Addr).block]?=some (.cells us el) from heap_alloc_new w _];rfl
def Ap5{us:Array Value}{cs:List V}{n m:Nat}{el:TypeId}{r:Result Next}{js:List Nat}{κ':Em}(hI:Inv G N ⟨κ',γ.O⟩ (σ.freeze js) w)(hx:Ext γ w ⟨κ',γ.O⟩ w)(km:∀ b,b<N->κ' b=γ.κ b)(hm:0<m)(hn:n<=maxLen)(hl:cs.length=n*m)(hs:us.size=n*m)(hr:∀ j,j<n*m->RepR κ' w (cs.getD j .und) (us.toList.getD j undef))
  (h:r=.ok (.value (.slice (some ⟨w.heap.size,0,none⟩) n n)) (w.alloc (.cells us el))):Co P G N γ σ w r (.lst 1 (E6 m n cs)) (σ.freeze js):=by
 obtain⟨i1,i2⟩:=hI.row us el;have qj:=W1 m n cs;refine⟨_,_,_,.inl h,?_,i1,hx.trans i2,Ad5 hI.base,fun b hb=>(Lm _ _ (by have:=hI.base;omega)).trans (km b hb)⟩;refine C5 (.row ?_)
 have key:=RepR.lst (κ:=Ic κ' w.heap.size us.size) (w:=w.alloc (.cells us el)) (t:=1) (xs:=E6 m n cs) (a:=⟨w.heap.size,0,none⟩) (cap:=n) (m:=m) (fun i j=>us.toList.getD (i*m+j) undef) (fun _=>qj.symm) (by omega) hn
  (fun _=>⟨rfl,us.size,Rq _ _ _,by simp only[qj];omega⟩)
  (fun i hi=>Aj2 (by omega) (by omega))
  (fun i j hi hj=>by
   rw[qj]at hi;have:=Xj (m:=m) hi;have qd:i*m+j<us.size:=by omega
   show(w.alloc (.cells us el)).cell? ⟨w.heap.size,0+i*m+j,none⟩=_;rw[Aww,Fc]
   simp[Au,qd])
  (fun i j hi hj=>by
   rw[qj]at hi;have:=Xj (m:=m) hi;rw[Akw hi hj]
   exact(hr (i*m+j) (by omega)).keep i2.kap i2.cell)
 rw[qj]at key;exact key
def Ael{fi:TypeInfo}{z:Value}{zs:List V}{n:Nat}{qa:Array (Nat × Operand)}{ps:List (Nat × S)}{cs:List V}(hc:Hj zs z.cells.toList=true)(hm:fi.size=zs.length)(qq:0<zs.length)
  (hl:ps.length=qa.size) (hp:∀ (i:Nat) (p:Nat × S) (q:Nat × Operand),ps[i]?=some p->qa[i]?=some q->p.1=q.1/\RepV γ w (Ac e p.2) (a.eval q.2))
  (h:Hm (List.replicate n zs).flatten (ps.map fun p=>(p.1*zs.length,zs.length,Ac e p.2))=some cs) :
  ∃ us':Array Value,(Instr.fill (fun i=>some (i*fi.size,fi.size)) ((Array.range (n*fi.size)).map (fun i=>(if n*fi.size=0 then #[] else z.cells)[i % (if n*fi.size=0 then(#[]:Array Value) else z.cells).size]!)) (qa.map fun(i,x)=>(i,a.eval x)).toList)=some us'/\us'.size=n*zs.length/\cs.length=n*zs.length/\∀ j,j<cs.length->RepC γ w (cs.getD j .und) (us'.toList.getD j undef):=by
 obtain⟨h1,h2⟩:=Ro (γ:=γ) (w:=w) hc;have jK:z.cells.size=zs.length:=by simpa using h1.symm
 let us0:Array Value:=(Array.range (n*zs.length)).map (fun i=>z.cells[i % z.cells.size]!)
 obtain⟨us',f1,f2,f3,f4⟩:=Aan (γ:=γ) (w:=w) (place:=fun i=>some (i*zs.length,zs.length)) (qs:=(qa.map fun(i,x)=>(i,a.eval x)).toList) (us:=us0) h (by simp[hl]) (fun i p q g1 g2=>by
  simp only[Av,Bo]at g1;obtain⟨p',g1,rfl⟩:=g1;simp only[Array.toList_map,Av,Bo]at g2;obtain⟨q',g2,rfl⟩:=g2;obtain⟨k1,k2⟩:=hp i p' q' g1 (by simpa using g2)
  exact⟨by simp[k1],k2⟩) (by simp[us0,Wi]) (fun j hj=>by
  rw[Wi]at hj;rw[Ae4 zs .und qq n j hj];have qd:j % zs.length<zs.length:=Pt _ qq;have:=h2 (j % zs.length) qd
  have e1:us0.toList.getD j undef=z.cells.toList.getD (j % zs.length) undef:=by
   have qY:j % zs.length<z.cells.size:=by omega
   simp[us0,Au,hj,jK,qY,qd]
  rw[e1]
  exact this)
 rw[Wi]at f3;refine⟨us',?_,by omega,f3,f4⟩;rw[hm];by_cases h0:n*zs.length=0
 .have:∀ f g:Nat->Value,(Array.range (n*zs.length)).map f=(Array.range (n*zs.length)).map g:=fun f g=>by rw[h0];simp
  rw[this _ (fun i=>z.cells[i % z.cells.size]!)];exact f1
 .simp only[if_neg h0];exact f1
def Aft{t el:TypeId}{fi:TypeInfo}{z:Value}{n:Nat}{qa:Array (Nat × Operand)}{us':Array Value}(ho:o.op=.buildSlice t n qa)(ht:P.underlying t=some (.slice el))(qc:P.info? el=some fi)(hz:fi.zero=some z)(qA:n*fi.size<=16777216)
  (qe:(Instr.fill (fun i=>some (i*fi.size,fi.size)) ((Array.range (n*fi.size)).map (fun i=>(if n*fi.size=0 then #[] else z.cells)[i % (if n*fi.size=0 then(#[]:Array Value) else z.cells).size]!)) (qa.map fun(i,x)=>(i,a.eval x)).toList)=some us') :
  (execOp a.eval o).run P w=.ok (.value (.slice (some ⟨w.heap.size,0,none⟩) n n)) (w.alloc (.cells us' el)):=by
 have kb:¬ (n*fi.size > 2 ^ 24):=by omega
 by_cases h0:n*fi.size=0
 .simp only[if_pos h0]at qe;simp[execOp,ho,Instr.buildSlice,run_underlying ht,sizeOf,typeInfo,qc,h0,newRow,newObj,Sem.run];simp[h0]at qe;simp[qe,Sem.run]
 .simp only[if_neg h0]at qe;rw[Array.toList_map]at qe;simp only[execOp,ho,Instr.buildSlice,run_underlying ht,sizeOf,typeInfo,qc,Sem.run_bind,Result.andThen_ok];simp[qc,kb,h0,zeroValue,typeInfo,hz,qe,newRow,newObj,Sem.run]
def Awx{t el:TypeId}{fi:TypeInfo}{z:Value}{zs:List V}{n:Nat}{qa:Array (Nat × Operand)}{ps:List (Nat × S)}(ho:o.op=.buildSlice t n qa)(ht:P.underlying t=some (.slice el))(qc:P.info? el=some fi)(hz:fi.zero=some z)(hc:Hj zs z.cells.toList=true)
  (hm:fi.size=zs.length) (qq:0<zs.length) (qA:n*zs.length<=16777216)
  (hl:ps.length=qa.size) (hp:∀ (i:Nat) (p:Nat × S) (q:Nat × Operand),ps[i]?=some p->qa[i]?=some q->p.1=q.1/\RepV γ w (Ac e p.2) (a.eval q.2))
  (hI:Inv G N γ σ w)
  (h:Ae (.rowf n zs ps) e σ=some (v,σ1)):Co P G N γ σ w ((execOp a.eval o).run P w) v σ1:=by
 simp only[Ae,D7,Bo]at h;obtain⟨cs,h,cs',h3,h2⟩:=h;cases h2;obtain⟨us',qe,qO,qB,f4⟩:=Ael (γ:=γ) (w:=w) hc hm qq hl hp h;obtain⟨κ',k1,k2,k3,k4,_⟩:=hI.freeze (Fw σ 9 (Am cs).eraseDups);obtain⟨l3,g3⟩:=Ou h3;have hn:n<=n*zs.length:=Za _ qq;refine Ap5 (us:=us') (cs:=cs') (n:=n) (m:=zs.length) (el:=el) k1 k2 k3 qq (by unfold maxLen;omega) (by omega) qO (fun j hj=>?_) (Aft ho ht qc hz (by rw[hm];exact qA) qe);have qR:j<cs.length:=by omega
 obtain⟨y,hy,hf⟩:=g3 j _ (A2 qR);rw[show cs'.getD j .und=y by rw[Au,hy];rfl];refine Z6 hI k2 k4 hf ?_;have:=f4 j qR;rw[show cs.getD j .und=cs[j] by rw[Au,A2 qR];rfl]at this;exact this
def Awy{t el:TypeId}{fi:TypeInfo}{z:Value}{zs:List V}{n:Nat}{qa:Array (Nat × Operand)}{ps:List (Nat × S)}(ho:o.op=.buildSlice t n qa)(ht:P.underlying t=some (.slice el))(qc:P.info? el=some fi)(hz:fi.zero=some z)(hc:Hj zs z.cells.toList=true)
  (hm:fi.size=zs.length) (qq:0<zs.length) (qA:n*zs.length<=16777216)
  (hl:ps.length=qa.size) (hp:∀ (i:Nat) (p:Nat × S) (q:Nat × Operand),ps[i]?=some p->qa[i]?=some q->p.1=q.1/\RepV γ w (Ac e p.2) (a.eval q.2))
  (hI:Inv G N γ σ w)
  (h:Ae (.rows n zs ps) e σ=some (v,σ1)):Co P G N γ σ w ((execOp a.eval o).run P w) v σ1:=by
 simp only[Ae,D7]at h;obtain⟨cs,h,h2⟩:=h
 split at h2
 .rename_i qF;cases h2;obtain⟨us',qe,qO,qB,f4⟩:=Ael (γ:=γ) (w:=w) hc hm qq hl hp h;have hn:n<=n*zs.length:=Za _ qq;refine Ap5 (σ:=σ) (js:=[]) (κ':=γ.κ) (us:=us') (cs:=cs) (n:=n) (m:=zs.length) (el:=el) hI (Ext.refl _ _) (fun _ _=>rfl) qq (by unfold maxLen;omega) (by omega) qO (fun j hj=>?_) (Aft ho ht qc hz (by rw[hm];exact qA) qe);have qR:j<cs.length:=by omega
  exact Al4 (f4 j qR) (Bh.1 qF _ (by rw[Au,A2 qR];exact Fj qR))
 .cases h2
def Abx{γ':Gh}{i blk len cap m:Nat}(hO:γ'.O[i]?=some (blk,0))(hs:Ea w blk=some (cap*m))(hl:len<=cap)(hc:cap<=maxLen):RepC γ' w (.sl i 0 0 len m true) (.slice (some ⟨blk,0,none⟩) len cap):=
 .sl hO (Ai _) hl hc (fun _=>rfl) (fun _=>⟨rfl,fun _=>by rw[hs,Fc]⟩)
def W2(w:World)(us:Array Value)(el:TypeId)(fr:Nat × Nat):Ea (w.alloc (.cells us el fr)) w.heap.size=some us.size:=by
 unfold Ea;rw[show(w.alloc (.cells us el fr)).heap[w.heap.size]?=some (.cells us el fr) from heap_alloc_new w _]
def Awz{t el:TypeId}{fi:TypeInfo}{z:Value}{zs:List V}{n:Nat}{qa:Array (Nat × Operand)}{ps:List (Nat × S)}(ho:o.op=.buildSlice t n qa)(ht:P.underlying t=some (.slice el))(qc:P.info? el=some fi)(hz:fi.zero=some z)(hc:Hj zs z.cells.toList=true)
  (hm:fi.size=zs.length) (qq:0<zs.length) (qA:n*zs.length<=16777216)
  (hl:ps.length=qa.size) (hp:∀ (i:Nat) (p:Nat × S) (q:Nat × Operand),ps[i]?=some p->qa[i]?=some q->p.1=q.1/\RepV γ w (Ac e p.2) (a.eval q.2))
  (hI:Inv G N γ σ w)
  (h:Ae (.rowo el n zs ps) e σ=some (v,σ1)):Co P G N γ σ w ((execOp a.eval o).run P w) v σ1:=by
 simp only[Ae,Bo]at h;obtain⟨cs,h,h2⟩:=h;cases h2;obtain⟨us',qe,qO,qB,f4⟩:=Ael (γ:=γ) (w:=w) hc hm qq hl hp h;have hn:n<=n*zs.length:=Za _ qq
 exact Aag (us:=us') (u:=.slice (some ⟨w.heap.size,0,none⟩) n n) hI (by omega) (fun j hj=>by
  have:=f4 j hj
  simpa[Array.getD_eq_getD_getElem?,Au] using this) (Aft ho ht qc hz (by rw[hm];exact qA) qe) (fun γ' hO=>Abx hO (by rw[W2,qO]) (Ai _) (by unfold maxLen;omega))
def A35{t el:TypeId}{fi:TypeInfo}{z:Value}{zs:List V}{x y:Operand}{s1 s2:S}(ho:o.op=.makeSlice t x y)(ht:P.underlying t=some (.slice el))(qc:P.info? el=some fi)(hz:fi.zero=some z)(hc:Hj zs z.cells.toList=true)
  (hm:fi.size=zs.length) (qq:0<zs.length) (kc:0<fi.bytes) (hx:RepV γ w (Ac e s1) (a.eval x)) (hy:RepV γ w (Ac e s2) (a.eval y))
  (hI:Inv G N γ σ w)
  (h:Ae (.mk el fi.bytes zs s1 s2) e σ=some (v,σ1)):Co P G N γ σ w ((execOp a.eval o).run P w) v σ1:=by
 simp only[Ae]at h
 split at h
 .rename_i n c e1 e2;rw[e1]at hx;rw[e2]at hy;have qb:=Eo (Ay rfl hx);have ql:=Eo (Ay rfl hy)
  split at h
  .rename_i hb;cases h;obtain⟨h0,kw,qG⟩:=hb;obtain⟨h1,h2⟩:=Ro (γ:=γ) (w:=w) hc;have jK:z.cells.size=zs.length:=by simpa using h1.symm
   have ke:c.toNat<=140737488355328:=Cz (Za _ kc) qG;have kf:c.toNat<=maxLen:=by unfold maxLen;omega
   have qO:(madeCells z.cells (c.toNat*fi.size)).size=c.toNat*zs.length:=by rw[size_madeCells,hm]
   have qf:n.toNat*zs.length<=c.toNat*zs.length:=Fq _ (by omega)
   have ka:(fi.bytes:Int)*c<=281474976710656:=by
    have:((c.toNat*fi.bytes:Nat):Int)<=140737488355328:=Int.ofNat_le.2 qG;rw[Int.natCast_mul,Int.toNat_of_nonneg (by omega),Int.mul_comm]at this;omega
   have hr:=run_make (P:=P) w t el fi z ht qc hz .i64 .i64 n c h0 kw ka (by omega);refine Aag (us:=madeCells z.cells (c.toNat*fi.size)) (el:=el) (u:=.slice (some ⟨w.heap.size,0,none⟩) n.toNat c.toNat) hI (by rw[Wi];omega) (fun j hj=>?_) (by simp[execOp,ho,qb,ql,hr]) (fun γ' hO=>Abx hO (by rw[W2,qO]) (by omega) kf);rw[Wi]at hj;rw[Ae4 zs .und qq _ j hj];have qd:j % zs.length<zs.length:=Pt _ qq;have:=h2 (j % zs.length) qd
   have e1:(madeCells z.cells (c.toNat*fi.size)).getD j undef=z.cells.toList.getD (j % zs.length) undef:=by
    have qY:j % zs.length<z.cells.size:=by omega
    have jj:j<c.toNat*zs.length:=by omega
    simp[madeCells,hm,Array.getD_eq_getD_getElem?,Au,jj,jK,qY,qd]
   rw[e1];exact this
  .cases h
 .cases h
open Go Go.RowKit
variable {P:Program} {G:List (Nat × List V)} {N:Nat} {γ:Gh} {σ σ1:St} {w:World} {e:Env} {a:Act} {o:Oper} {v:V}
def Hr(G:List (Nat × List V)):Option S->Option Operand->Bool
 | none,none=>true
 | some s,some x=>Bs G s x
 | _,_=>false
def Il{s:Option S}{x:Option Operand}{d n y:Nat}{c:BoundsCode}(hx:Hr G s x=true)(hE:RepE γ w e a.tmps)(hI:Inv G N γ σ w)(hb:Eb (s.map (Ac e)) d=some n):
  (s=none/\x=none/\n=d)\/∃ sx xx,s=some sx/\x=some xx/\(n<=y->(Instr.sliceBound (a.eval xx) y c).run P w=.ok n w):=by
 cases s with
 | none=>
  cases x with
  | none=>simp[Eb]at hb;exact .inl ⟨rfl,rfl,hb.symm⟩
  | some x=>simp[Hr]at hx
 | some s=>
  cases x with
  | none=>simp[Hr]at hx
  | some x=>
   refine .inr ⟨s,x,rfl,rfl,fun hy=>?_⟩;have hr:=Xf hx hE hI;simp only[Fr,Eb]at hb
   split at hb
   .rename_i e1;cases e1
   .rename_i k m e1;injection e1 with e1;rw[e1]at hr;have hu:=Eo (Ay rfl hr)
    split at hb
    .rename_i h0;cases hb;have qf:m<=(y:Int):=by omega
     simp[Instr.sliceBound,hu,asIntOf,h0,qf]
    .cases hb
   .cases hb
def Aua(l:List UInt8)(a b:Nat):(⟨l.toArray⟩:ByteArray).extract a b=⟨((l.take b).drop a).toArray⟩:=by
 apply WideShapes.bytes_inj;rw[Lib.extract_data];simp[List.drop_take]
def Aw0{t:TypeId}{x:Operand}{lo hi:Option Operand}{s:S}{qV qS:Option S}(ho:o.op=.slice t x lo hi none)(ht:P.underlying t=some .string)(h1:Hr G qV lo=true)(h2:Hr G qS hi=true)
  (hx:RepV γ w (Ac e s) (a.eval x)) (hE:RepE γ w e a.tmps) (hI:Inv G N γ σ w)
  (h:Ae (.slcs s qV qS) e σ=some (v,σ1)):Co P G N γ σ w ((execOp a.eval o).run P w) v σ1:=by
 simp only[Ae,Bo]at h;obtain⟨v',h,hv⟩:=h;cases hv;unfold Q6 at h
 split at h
 .rename_i l e1;rw[e1]at hx;obtain⟨hu,hl⟩:=Gf (Ay rfl hx);simp only[D7]at h;obtain⟨p,hp,q,hq,h⟩:=h
  split at h
  .rename_i qf;cases h;have qj:((l.take q).drop p).length<=maxLen:=by simp;omega
   refine Ce hI (u:=.string ⟨((l.take q).drop p).toArray⟩) ?_ (Xg qj)
   have qy:(Instr.sliceBounds false l.length l.length (lo.map a.eval) (hi.map a.eval) none).run P w=.ok (p,q,l.length) w:=by
    have b1:=Il (P:=P) (y:=l.length) (c:=.sliceAlen) h2 hE hI hq;have b2:=Il (P:=P) (y:=q) (c:=.sliceB) h1 hE hI hp
    rcases b1 with⟨rfl,rfl,rfl⟩ | ⟨sx,xx,rfl,rfl,b1⟩<;>rcases b2 with⟨rfl,rfl,rfl⟩ | ⟨sy,xy,rfl,rfl,b2⟩
    .simp[Instr.sliceBounds]
    .simp[Instr.sliceBounds,b2 qf.1]
    .simp[Instr.sliceBounds,b1 qf.2]
    .simp[Instr.sliceBounds,b1 qf.2,b2 qf.1]
   simp[execOp,ho,hu,Instr.sliceAt,Instr.slice,run_underlying ht,I9,qy,Aua]
  .cases h
 .cases h
def Az6{t':Nat}{xs:List (List V)}{ad:Addr}{cap p q:Nat}(hR:RepR γ.κ w (.lst 0 xs) (.slice (some ad) xs.length cap))(hp:p<=q)(hq:q<=xs.length){c:Nat}(kH:q - p<=c)(jN:c<=maxLen)(kC:t'=1->c=q - p){jp:Addr}
  (ja:p<q->ad.spot=none->∀ m,(∀ i,i<xs.length->(xs.getD i []).length=m)->jp=⟨ad.block,ad.off+p*m,none⟩) :
  RepR γ.κ w (.lst t' ((xs.take q).drop p)) (.slice (some jp) (q - p) c):=by
 have qj:((xs.take q).drop p).length=q - p:=by simp;omega
 cases hR with
 | @lst _ _ _ _ m row h1 h2 h3 h4 h5 h6 h7=>
 have H4:=Lib.hid h4;clear h4
 have jg:∀ i,i<q - p->((xs.take q).drop p).getD i []=xs.getD (p+i) []:=fun i hi=>by
  simp only[Au,Ii,Fi];rw[if_pos (by omega)]
 have jd:p<q->jp=⟨ad.block,ad.off+p*m,none⟩:=fun qr=>ja qr (H4.out (by omega)).1 m h5
 clear ja
 have key:=RepR.lst (κ:=γ.κ) (w:=w) (t:=t') (xs:=(xs.take q).drop p) (a:=jp) (cap:=c) (m:=m) (fun i j=>row (p+i) j) (fun h=>by rw[qj];exact kC h) (by omega) jN
  (fun hl=>by
   have qr:p<q:=by omega
   obtain⟨hs,k,hk,qf⟩:=H4.out (by omega);rw[jd qr];refine⟨rfl,k,hk,?_⟩;rw[qj];have:p*m+(q - p)*m=q*m:=by rw[<-Ng];congr 1;omega
   have:q*m<=xs.length*m:=Fq _ hq;show ad.off+p*m+(q - p)*m<=k
   omega)
  (fun i hi=>by rw[jg i (by omega)];exact h5 (p+i) (by omega))
  (fun i j hi hj=>by
   have qr:p<q:=by omega
   rw[jd qr];have:=h6 (p+i) j (by omega) hj;rw[show ad.off+(p+i)*m+j=ad.off+p*m+i*m+j by rw[Ng];omega]at this
   exact this)
  (fun i j hi hj=>by
   rw[jg i (by omega)]
   exact h7 (p+i) j (by omega) hj)
 rw[qj]at key;exact key
def Az7{t el:TypeId}{fi:TypeInfo}{x:Operand}{lo hi mx:Option Operand}{s:S}{qV qS qL:Option S}(ho:o.op=.slice t x lo hi mx)(ht:P.underlying t=some (.slice el))(qc:P.info? el=some fi)(h1:Hr G qV lo=true)(h2:Hr G qS hi=true)(h3:Hr G qL mx=true)(h4:qL.isSome=true->qS.isSome=true)(qn:fi.size≠0)
  (hx:RepV γ w (Ac e s) (a.eval x)) (hE:RepE γ w e a.tmps) (hI:Inv G N γ σ w)
  (h:Ae (.slc fi.size s qV qS qL) e σ=some (v,σ1)):Co P G N γ σ w ((execOp a.eval o).run P w) v σ1:=by
 simp only[Ae,Bo]at h;obtain⟨v',h,hv⟩:=h;cases hv;unfold Pd at h
 split at h
 .rename_i e1;rw[e1]at hx;have hu:=Ln (Ay rfl hx);simp only[D7]at h;obtain⟨p,hp,q,hq,c,hc,h⟩:=h
  split at h
  .rename_i qf;obtain⟨rfl,rfl,rfl⟩:=qf;cases h;refine Ce hI (u:=.slice none 0 0) ?_ (C5 (.row .nils))
   have qy:(Instr.sliceBounds true 0 0 (lo.map a.eval) (hi.map a.eval) (mx.map a.eval)).run P w=.ok (0,0,0) w:=by
    have b0:=Il (P:=P) (y:=0) (c:=.slice3Acap) h3 hE hI hc;have b1:=Il (P:=P) (y:=0) (c:=.sliceAcap) h2 hE hI hq;have qz:=Il (P:=P) (y:=0) (c:=.slice3B) h2 hE hI hq;have b2:=Il (P:=P) (y:=0) (c:=.sliceB) h1 hE hI hp;have qW:=Il (P:=P) (y:=0) (c:=.slice3C) h1 hE hI hp
    rcases b0 with⟨rfl,rfl,_⟩ | ⟨sz,xz,rfl,rfl,b0⟩<;>rcases b1 with⟨rfl,rfl,_⟩ | ⟨sx,xx,rfl,rfl,b1⟩<;>rcases b2 with⟨rfl,rfl,_⟩ | ⟨sy,xy,rfl,rfl,b2⟩
    .simp[Instr.sliceBounds]
    .simp[Instr.sliceBounds,b2]
    .simp[Instr.sliceBounds,b1]
    .simp[Instr.sliceBounds,b1,b2]
    .simp at h4
    .simp at h4
    .rcases qz with⟨h,_⟩ | ⟨_,_,h,h',qz⟩
     .cases h
     .cases h;cases h';simp[Instr.sliceBounds,b0,qz]
    .rcases qz with⟨h,_⟩ | ⟨_,_,h,h',qz⟩
     .cases h
     .cases h;cases h';rcases qW with⟨h,_⟩ | ⟨_,_,h,h',qW⟩
      .cases h
      .cases h;cases h';simp[Instr.sliceBounds,b0,qz,qW]
   simp[execOp,ho,hu,Instr.sliceAt,Instr.slice,run_underlying ht,qy,sizeOf,typeInfo,qc]
  .cases h
 .rename_i t' xs e1;rw[e1]at hx;have jc:=Ay rfl hx;obtain⟨ad,cap,hu,hR,jf⟩:=Ot jc;have qQ:xs.length<=cap/\cap<=maxLen:=by cases hR with | lst row h1 h2 h3=>exact⟨h2,h3⟩
  simp only[D7]at h;obtain⟨p,hp,q,hq,c,hc,h⟩:=h
  split at h
  .rename_i qf;obtain⟨qr,kx,rfl,qF⟩:=qf;cases h
   have qy:∃ m,(Instr.sliceBounds true xs.length cap (lo.map a.eval) (hi.map a.eval) (mx.map a.eval)).run P w=.ok (p,c,m) w/\c<=m/\m<=cap/\(qL.isSome=true->m=c)/\(qL.isSome=false->m=cap):=by
    have b0:=Il (P:=P) (y:=cap) (c:=.slice3Acap) h3 hE hI hc;have b1:=Il (P:=P) (y:=cap) (c:=.sliceAcap) h2 hE hI hq;have qz:=Il (P:=P) (y:=c) (c:=.slice3B) h2 hE hI hq;have b2:=Il (P:=P) (y:=c) (c:=.sliceB) h1 hE hI hp;have qW:=Il (P:=P) (y:=c) (c:=.slice3C) h1 hE hI hp;have qM:c<=cap:=by omega
    rcases b0 with⟨rfl,rfl,_⟩ | ⟨sz,xz,rfl,rfl,b0⟩<;>rcases b1 with⟨rfl,rfl,qv⟩ | ⟨sx,xx,rfl,rfl,b1⟩<;>rcases b2 with⟨rfl,rfl,qx⟩ | ⟨sy,xy,rfl,rfl,b2⟩
    .subst qv qx;exact⟨cap,by simp[Instr.sliceBounds],qM,Ai _,by simp,by simp⟩
    .subst qv;exact⟨cap,by simp[Instr.sliceBounds,b2 qr],qM,Ai _,by simp,by simp⟩
    .subst qx;exact⟨cap,by simp[Instr.sliceBounds,b1 qM],qM,Ai _,by simp,by simp⟩
    .exact⟨cap,by simp[Instr.sliceBounds,b1 qM,b2 qr],qM,Ai _,by simp,by simp⟩
    .simp at h4
    .simp at h4
    .rcases qz with⟨h,_⟩ | ⟨_,_,h,h',qz⟩
     .cases h
     .cases h;cases h';subst qx;exact⟨c,by simp[Instr.sliceBounds,b0 qM,qz],Ai _,qM,by simp,by simp⟩
    .rcases qz with⟨h,_⟩ | ⟨_,_,h,h',qz⟩
     .cases h
     .cases h;cases h';rcases qW with⟨h,_⟩ | ⟨_,_,h,h',qW⟩
      .cases h
      .cases h;cases h';exact⟨c,by simp[Instr.sliceBounds,b0 qM,qz,qW qr],Ai _,qM,by simp,by simp⟩
   obtain⟨m,qy,kM,kN,kq,kr⟩:=qy
   have ku:(qL.map (Ac e)).isSome=qL.isSome:=by cases qL<;>rfl
   rw[ku]
   have qe:(execOp a.eval o).run P w=.ok (.value (.slice (some (if m=p then ad else ad.add (p*fi.size))) (c - p) (m - p))) w:=by
    by_cases qt:m=p
    .simp[execOp,ho,hu,Instr.sliceAt,Instr.slice,run_underlying ht,qy,sizeOf,typeInfo,qc,qt]
    .simp[execOp,ho,hu,Instr.sliceAt,Instr.slice,run_underlying ht,qy,sizeOf,typeInfo,qc,qt]
   have ja:p<c->ad.spot=none->∀ m',(∀ i,i<xs.length->(xs.getD i []).length=m')->(if m=p then ad else ad.add (p*fi.size))=⟨ad.block,ad.off+p*m',none⟩:=fun qd jm m' jk=>by
    rw[if_neg (by omega)];obtain⟨b,of,sp⟩:=ad;simp at jm;subst jm;rw[Jo];rcases qF with rfl | qF
    .simp
    .have jF:=jk p (by omega);have:=Bh.1 qF (xs.getD p []) (by rw[Au,A2 (by omega)];exact Fj _);have e3:=eq_of_beq this;rw[<-e3,jF]
   refine Ce hI qe (C5 ?_);refine .row (Az6 hR qr kx (by omega) (by omega) ?_ ja);intro jM
   split at jM
   .rename_i hs;rw[kq hs]
   .rename_i hs;have kz:qL.isSome=false:=by simpa using hs
    have:=kr kz
    split at jM
    .rename_i kA;have:=jf kA.2;omega
    .omega
  .cases h
 .rename_i i g off len m' own e1;rw[e1]at hx;have jc:=Ay rfl hx
  split at h
  .cases h
  .rename_i kO;simp only[D7]at h;obtain⟨p,hp,q,hq,h⟩:=h
   split at h
   .rename_i qf;obtain⟨rfl,qr,kP⟩:=qf;cases h;obtain⟨b',o',cap,blk,g',hu,hb,qI,qX,qZ,qT,qk⟩:=Up jc
    obtain rfl:qL=none:=by cases qL<;>simp_all
    obtain rfl:mx=none:=by cases mx<;>simp_all [Hr]
    have jU:q<=cap:=by omega
    have qy:(Instr.sliceBounds true len cap (lo.map a.eval) (hi.map a.eval) none).run P w=.ok (p,q,cap) w:=by
     have b1:=Il (P:=P) (y:=cap) (c:=.sliceAcap) h2 hE hI hq;have b2:=Il (P:=P) (y:=q) (c:=.sliceB) h1 hE hI hp
     rcases b1 with⟨rfl,rfl,qv⟩ | ⟨sx,xx,rfl,rfl,b1⟩<;>rcases b2 with⟨rfl,rfl,qx⟩ | ⟨sy,xy,rfl,rfl,b2⟩
     .subst qv qx;simp[Instr.sliceBounds]
     .subst qv;simp[Instr.sliceBounds,b2 qr]
     .subst qx;simp[Instr.sliceBounds,b1 jU]
     .simp[Instr.sliceBounds,b1 jU,b2 qr]
    have qe:(execOp a.eval o).run P w=.ok (.value (.slice (some (if cap=p then⟨b',o',none⟩ else(⟨b',o',none⟩:Addr).add (p*fi.size))) (q - p) (cap - p))) w:=by
     by_cases qt:cap=p
     .subst qt;rw[if_pos rfl];simp[execOp,ho,hu,Instr.sliceAt,Instr.slice,run_underlying ht,qy,sizeOf,typeInfo,qc]
     .simp[execOp,ho,hu,Instr.sliceAt,Instr.slice,run_underlying ht,qy,sizeOf,typeInfo,qc,qt]
    refine Ce hI qe (C5 ?_);by_cases qt:cap=p
    .rw[if_pos qt];exact .sl hb qI (by omega) (by omega) (fun h=>by omega) (fun e=>⟨(qk e).1,fun h=>by rw[(qk e).2 h];congr 1;rw[<-qt];simp⟩)
    .rw[if_neg qt,Jo,qT (by omega)];refine .sl hb qI (by omega) (by omega) (fun _=>rfl) (fun e=>⟨(qk e).1,fun h=>?_⟩);rw[(qk e).2 h];congr 1;rw[To,<-Ng];congr 2;omega
   .cases h
 .cases h
def Aw1{t el:TypeId}{fi:TypeInfo}{len:Nat}{x:Operand}{lo hi:Option Operand}{s:S}{qV qS:Option S}(ho:o.op=.slice t x lo hi none)(ht:P.underlying t=some (.array len el))(qc:P.info? el=some fi)(h1:Hr G qV lo=true)(h2:Hr G qS hi=true)(qj:len<=maxLen)
  (hx:RepV γ w (Ac e s) (a.eval x)) (hE:RepE γ w e a.tmps) (hI:Inv G N γ σ w)
  (h:Ae (.slca len fi.size s qV qS) e σ=some (v,σ1)):Co P G N γ σ w ((execOp a.eval o).run P w) v σ1:=by
 simp only[Ae]at h
 split at h
 .rename_i i g off e1;rw[e1]at hx;simp only[D7]at h;obtain⟨p,hp,q,hq,h⟩:=h
  split at h
  .rename_i qf;obtain⟨qr,jV⟩:=qf;cases h;obtain⟨b',blk,g',hu,hb,qI,qk⟩:=Nk (Ay rfl hx)
   have qy:(Instr.sliceBounds false len len (lo.map a.eval) (hi.map a.eval) none).run P w=.ok (p,q,len) w:=by
    have b1:=Il (P:=P) (y:=len) (c:=.sliceAlen) h2 hE hI hq;have b2:=Il (P:=P) (y:=q) (c:=.sliceB) h1 hE hI hp
    rcases b1 with⟨rfl,rfl,qv⟩ | ⟨sx,xx,rfl,rfl,b1⟩<;>rcases b2 with⟨rfl,rfl,qx⟩ | ⟨sy,xy,rfl,rfl,b2⟩
    .subst qv qx;simp[Instr.sliceBounds]
    .subst qv;simp[Instr.sliceBounds,b2 qr]
    .subst qx;simp[Instr.sliceBounds,b1 jV]
    .simp[Instr.sliceBounds,b1 jV,b2 qr]
   have qe:(execOp a.eval o).run P w=.ok (.value (.slice (some (if len=p then⟨b',off,none⟩ else(⟨b',off,none⟩:Addr).add (p*fi.size))) (q - p) (len - p))) w:=by
    by_cases qt:len=p
    .subst qt;rw[if_pos rfl];simp[execOp,ho,hu,Instr.sliceAt,Instr.sureAddr,run_underlying ht,qy,sizeOf,typeInfo,qc]
    .simp[execOp,ho,hu,Instr.sliceAt,Instr.sureAddr,run_underlying ht,qy,sizeOf,typeInfo,qc,qt]
   refine Ce hI qe (C5 ?_);by_cases qt:len=p
   .rw[if_pos qt];exact .sl hb qI (by omega) (by omega) (fun h=>by omega) (fun e=>⟨qk e,fun h=>absurd h (by simp)⟩)
   .rw[if_neg qt,Jo];exact .sl hb qI (by omega) (by omega) (fun _=>rfl) (fun e=>⟨qk e,fun h=>absurd h (by simp)⟩)
  .cases h
 .cases h
def Az8{t el:TypeId}{x:Operand}{s:S}(ho:o.op=.convert t t x)(ht:P.underlying t=some (.slice el))(he:P.underlying el=some (.int .u8))(hx:RepV γ w (Ac e s) (a.eval x))(hI:Inv G N γ σ w)
  (h:Ae (.cvl s) e σ=some (v,σ1)):Co P G N γ σ w ((execOp a.eval o).run P w) v σ1:=by
 simp only[Ae]at h
 split at h
 .rename_i i g off len m own e1;rw[e1]at hx
  split at h
  .rename_i cs ee g' z qB
   split at h
   .rename_i hc;obtain⟨rfl,rfl⟩:=hc;cases h;have jc:=Ay rfl hx;obtain⟨blk,cap,o',hb,hu,qT,qD,qX,qZ⟩:=Xh (o':=0) hI jc (by simp[Mt,qB]);obtain⟨_,kl,_,us,lo,hi,g1,⟨g5,g6⟩,g2,g3⟩:=hI.obj i _ _ qB hb;have qd:blk<w.heap.size:=(Array.getElem?_eq_some_iff.1 g1).1
    have kh:∃ jo jh,(w.freeze ⟨blk,us.size,none⟩ 1).heap[blk]?=some (.cells us ee (jo,jh))/\jo<=jh/\us.size<=jo:=by
     have hh:(w.freeze ⟨blk,us.size,none⟩ 1).heap[blk]?=some (.cells us ee (if lo==hi then(us.size,us.size+1) else(min lo us.size,max hi (us.size+1)))):=by
      simp[World.freeze,Array.getElem?_modify,g1]
     by_cases jS:lo=hi
     .rw[if_pos (by simp[jS])]at hh;exact⟨_,_,hh,by omega,by omega⟩
     .rw[if_neg (by simp[jS])]at hh;exact⟨_,_,hh,by omega,by omega⟩
    obtain⟨jo,jh,hh,kn,ko⟩:=kh
    have qm:∀ b,b≠blk->(w.freeze ⟨blk,us.size,none⟩ 1).heap[b]?=w.heap[b]?:=fun b qN=>by
     simp[World.freeze,Array.getElem?_modify,qN,Ne.symm qN]
    have qn:(w.freeze ⟨blk,us.size,none⟩ 1).heap.size=w.heap.size:=by simp[World.freeze]
    have hr:(execOp a.eval o).run P w=.ok (.value (a.eval x)) (w.freeze ⟨blk,us.size,none⟩ 1):=by
     simp[execOp,ho,hu,convert,run_underlying ht,run_underlying he,markStringish,World.shape?,g1]
    have hT:=hI.turn (w':=w.freeze ⟨blk,us.size,none⟩ 1) (p':=(blk,g)) (ob':=.row cs ee g 0) (κ':=γ.κ) hb (by omega) (fun b _ qN=>qm b qN) (fun _ _ _=>rfl) (fun b k hk=>by rw[qn];exact hI.dom b k hk) (fun z hz=>⟨z,hz,Ai _,fun o _=>by simp[World.cell?,hh,g1]⟩) (Ai _) (fun _=>⟨rfl,by simp[Ea,hh,g1]⟩) (.inl rfl) (fun hx=>by
     exact⟨rfl,kl,A0 _,us,jo,jh,hh,⟨kn,.inr ko⟩,g2,fun j hj=>(g3 j hj).ext hx⟩)
    rw[Or hb,Or qB]at hT;refine⟨_,_,_,.inl hr,C5 (jc.ext hT.2),hT.1,hT.2,⟨rfl,rfl,rfl,by rw[qn];exact Ai _,fun k hk=>qm k (by have:=hI.low i _ hb;omega)⟩,fun _ _=>rfl⟩
   .cases h
  .cases h
 .cases h
