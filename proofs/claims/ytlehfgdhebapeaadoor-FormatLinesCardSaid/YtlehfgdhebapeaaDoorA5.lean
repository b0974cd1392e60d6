/- THE PLAIN MACHINE, joined texts: Qa Qb Qc Qd Qe Qf Qg. -/
import Derived.Test.YtlehfgdhebapeaaDoorA4
set_option linter.all false
/- Walking by rewriting: what comes of code, as equations. -/
namespace Go.Proofs.YtlehfgdhebapeaaDoor.KM
open Go
variable {T : Nat → Option AF} {pr : Nat → Option (List V → Option V)}

/-- the proof is not looked at -/
theorem hide {α : Sort _} {a b : α} (h : a = b) : a = b := h
/-! slots -/
theorem get_put : ∀ (e : Env) (n m : Nat) (v : V), (Env.put e n v).get m = if n = m then v else Env.get e m
  | [], n, m, v => by simp only [Env.put, Env.get]
  | (i, u) :: r, n, m, v => by
    simp only [Env.put]
    split
    · rename_i h
      subst h
      simp only [Env.get]
      split <;> rfl
    · rename_i h
      simp only [Env.get, get_put r n m v]
      split
      · rename_i h2
        subst h2
        rw [if_neg (by omega)]
      · rfl
theorem putO_some (e : Env) (n : Nat) (v : V) : e.putO (some n) v = e.put n v := hide rfl
theorem putO_none (e : Env) (v : V) : e.putO none v = e := hide rfl
theorem src_t (e : Env) (n : Nat) : src e (.t n) = e.get n := rfl
theorem src_k (e : Env) (v : V) : src e (.k v) = v := rfl
theorem get_cons (e : Env) (n m : Nat) (v : V) : Env.get ((n, v) :: e) m = if n = m then v else Env.get e m := hide rfl

/-! what an operation gives -/
inductive Rs where
  | val (v : V) (σ : St)
  | call (f : Nat) (args : List V)
  | fail
def r1 (o : Option V) (σ : St) : Rs :=
  match o with
  | some v => .val v σ
  | none => .fail
def r2 (o : Option (V × St)) : Rs :=
  match o with
  | some (v, σ) => .val v σ
  | none => .fail
theorem r1_some (v : V) (σ : St) : r1 (some v) σ = .val v σ := hide rfl
theorem r1_none (σ : St) : r1 none σ = .fail := hide rfl
theorem r2_some (v : V) (σ : St) : r2 (some (v, σ)) = .val v σ := hide rfl
theorem r2_none : r2 none = .fail := hide rfl
theorem r2_map (o : Option V) (σ : St) : r2 (o.map fun v => (v, σ)) = r1 o σ := by cases o <;> rfl
def evalX (op : AO) (e : Env) (σ : St) : Rs :=
  match calleeOf e op with
  | some (f, args) => .call f args
  | none => r2 (evalOp op e σ)
def pickV (c a b : V) : Option V :=
  match c with
  | .bool z => some (if z = true then a else b)
  | _ => none
def boxV (t : Nat) (x : V) (σ : St) : Option (V × St) := if x.cells.all V.cellB = true then some (.ptr σ.length 0 0, σ ++ [.row x.cells t 0 0]) else none
def mkV (t bytes : Nat) (z : List V) (x y : V) (σ : St) : Option (V × St) :=
  match x, y with
  | .int .i64 n, .int .i64 c => if 0 ≤ n ∧ n ≤ c ∧ c.toNat * bytes ≤ 140737488355328 then some (.sl σ.length 0 0 n.toNat z.length true, σ ++ [.row (List.replicate n.toNat z).flatten t 0 0]) else none
  | _, _ => none
def rowfV (m n : Nat) (σ : St) (cs : List V) : Option (V × St) := (cs.mapM (settle σ (clo σ 9 (refsL cs).eraseDups) 9)).map fun cs' => (.lst 1 (chop m n cs'), σ.freeze (clo σ 9 (refsL cs).eraseDups))
def stoV (n : Nat) (x v : V) (σ : St) : Option (V × St) := (storeV σ n x v).map fun σ' => (.und, σ')
def chkV (x : V) : Option V :=
  match x with
  | .imm r o => some (.imm r o)
  | .ptr b g o => some (.ptr b g o)
  | _ => none
def eqqV (k : EqK) (neg : Bool) (x y : V) : Option V := (eqV k x y).map fun z => .bool (z != neg)
def cviV (k : IntKind) (x : V) : Option V :=
  match x with
  | .int _ n => some (.int k (k.wrap n))
  | _ => none
def cvsV (x : V) : Option V :=
  match x with
  | .str l => some (.str l)
  | _ => none
def cvlV (x : V) (σ : St) : Option V :=
  match x with
  | .sl i g off len m w => match σ[i]? with
    | some (.row _ _ g' z) => if g = g' ∧ z = 0 then some (.sl i g off len m w) else none
    | _ => none
  | _ => none
def stbV (ty : Nat) (x : V) (σ : St) : Option (V × St) :=
  match x with
  | .str l => some (.sl σ.length 0 0 l.length 1 true, σ ++ [.row (byteRows l).flatten ty 0 0])
  | _ => none
def btsV (x : V) (σ : St) : Option V := (srcRows σ 1 x).bind fun xs => (rowsByte xs).map fun l => .str l
def slcaV (len m : Nat) (x : V) (lo hi : Option V) : Option V :=
  match x with
  | .ptr i g off => (boundV lo 0).bind fun a => (boundV hi len).bind fun b => if a ≤ b ∧ b ≤ len then some (.sl i g (off + a * m) (b - a) m false) else none
  | _ => none
def fadV (off : Nat) (x : V) : Option V :=
  match x with
  | .imm r o => some (.imm r (o + off))
  | .ptr b g o => some (.ptr b g (o + off))
  | _ => none
def fldV (off n : Nat) (one : Bool) (x : V) : Option V :=
  match x with
  | .agg cs => if off + n ≤ cs.length then mkOne one ((cs.drop off).take n) else none
  | _ => none
def iadV (m : Nat) (x i : V) : Option V :=
  match x with
  | .lst _ xs => (atI xs i).bind fun r => if r.length = m then some (.imm r 0) else none
  | .sl j g off len m' _ => match i with
    | .int _ n => if 0 ≤ n ∧ n < len ∧ m = m' then some (.ptr j g (off + n.toNat * m)) else none
    | _ => none
  | _ => none
def iarV (len m : Nat) (x i : V) : Option V :=
  match i with
  | .int _ n => if 0 ≤ n ∧ n < len then (match x with
    | .imm r o => some (.imm r (o + n.toNat * m))
    | .ptr b g o => some (.ptr b g (o + n.toNat * m))
    | _ => none) else none
  | _ => none
def idxV (x i : V) : Option V :=
  match x with
  | .str l => (atI l i).map fun c => .int .u8 (c.toNat : Int)
  | _ => none
def idaV (len m : Nat) (one : Bool) (x i : V) : Option V :=
  match i with
  | .int _ n => if 0 ≤ n ∧ n < len then (match x with
    | .agg cs => if n.toNat * m + m ≤ cs.length then mkOne one ((cs.drop (n.toNat * m)).take m) else none
    | _ => none) else none
  | _ => none
def extV (i : Nat) (x : V) : Option V :=
  match x with
  | .tup vs => vs[i]?
  | _ => none
def lensV (x : V) : Option V :=
  match x with
  | .str l => some (.int .i64 (l.length : Int))
  | _ => none
def lenV (x : V) : Option V :=
  match x with
  | .nils => some (.int .i64 0)
  | .lst _ xs => some (.int .i64 (xs.length : Int))
  | .sl _ _ _ len _ _ => some (.int .i64 (len : Int))
  | _ => none
def appV (bytes : Nat) (m : Nat × Nat) (x y : V) (σ : St) : Option (V × St) := (srcRows σ m.1 y).bind fun ys => appR bytes m σ x ys
def appsV (ty : Nat) (x y : V) (σ : St) : Option (V × St) :=
  match y with
  | .str l => appR 1 (1, ty) σ x (byteRows l)
  | _ => none
def mxV (x y : V) : Option V :=
  match x, y with
  | .int k a, .int k' b => if k = k' then some (.int k (max a b)) else none
  | _, _ => none
def mnV (x y : V) : Option V :=
  match x, y with
  | .int k a, .int k' b => if k = k' then some (.int k (min a b)) else none
  | _, _ => none
def mkfV (f : Nat) (a c : List V) : Option V := if (a.all V.cellB && c.all V.cellB) = true then some (.fn f a c) else none
def mlkV (z x k : V) (σ : St) : Option V :=
  match x, k with
  | .mp i, .str s => match σ[i]? with
    | some (.map kvs) => some (match findK s kvs 0 with
      | some (_, v) => v
      | none => z)
    | _ => none
  | _, _ => none
def mupV (x k v : V) (σ : St) : Option (V × St) :=
  match x, k with
  | .mp i, .str s => match σ[i]? with
    | some (.map kvs) => if v.flatB = true then some (.und, σ.set i (.map (match findK s kvs 0 with
      | some (j, _) => kvs.set j (s, v)
      | none => kvs ++ [(s, v)]))) else none
    | _ => none
  | _, _ => none
section
variable {e : Env} {σ : St}
theorem x_mov (x : S) : evalX (.mov x) e σ = .val (src e x) σ := hide rfl
theorem x_pick (c a b : S) : evalX (.pick c a b) e σ = r1 (pickV (src e c) (src e a) (src e b)) σ := by
  simp only [evalX, calleeOf, evalOp, pickV]; cases src e c <;> rfl
theorem x_new (t : Nat) (z : List V) : evalX (.new t z) e σ = .val (.ptr σ.length 0 0) (σ ++ [.row z t 0 0]) := hide rfl
theorem x_box (t : Nat) (x : S) : evalX (.box t x) e σ = r2 (boxV t (src e x) σ) := hide rfl
theorem x_build (z : List V) (ps : List (Nat × Nat × S)) : evalX (.build z ps) e σ = r1 ((fills z (ps.map fun p => (p.1, p.2.1, src e p.2.2))).map fun cs => .agg cs) σ := by
  simp only [evalX, calleeOf, evalOp]; cases fills z (ps.map fun p => (p.1, p.2.1, src e p.2.2)) <;> rfl
theorem x_rows (n : Nat) (z : List V) (ps : List (Nat × S)) : evalX (.rows n z ps) e σ = r1 ((fills (List.replicate n z).flatten (ps.map fun p => (p.1 * z.length, z.length, src e p.2))).bind fun cs => if cs.all V.rowB = true then some (.lst 1 (chop z.length n cs)) else none) σ := by
  simp only [evalX, calleeOf, evalOp]
  cases fills (List.replicate n z).flatten (ps.map fun p => (p.1 * z.length, z.length, src e p.2)) with
  | none => rfl
  | some cs => simp only [Option.bind_some]; split <;> rfl
theorem x_rowf (n : Nat) (z : List V) (ps : List (Nat × S)) : evalX (.rowf n z ps) e σ = r2 ((fills (List.replicate n z).flatten (ps.map fun p => (p.1 * z.length, z.length, src e p.2))).bind fun cs => rowfV z.length n σ cs) := hide rfl
theorem x_rowo (t n : Nat) (z : List V) (ps : List (Nat × S)) : evalX (.rowo t n z ps) e σ = r2 ((fills (List.replicate n z).flatten (ps.map fun p => (p.1 * z.length, z.length, src e p.2))).map fun cs => (.sl σ.length 0 0 n z.length true, σ ++ [.row cs t 0 0])) := hide rfl
theorem x_mk (t bytes : Nat) (z : List V) (x y : S) : evalX (.mk t bytes z x y) e σ = r2 (mkV t bytes z (src e x) (src e y) σ) := hide rfl
theorem x_load (n : Nat) (one : Bool) (x : S) : evalX (.load n one x) e σ = r1 (loadV σ n one (src e x)) σ := r2_map _ _
theorem x_store (n : Nat) (x v : S) : evalX (.store n x v) e σ = r2 (stoV n (src e x) (src e v) σ) := hide rfl
theorem x_chk (x : S) : evalX (.chk x) e σ = r1 (chkV (src e x)) σ := by
  simp only [evalX, calleeOf, evalOp, chkV]; cases src e x <;> rfl
theorem x_bin (o : BinOp) (x y : S) : evalX (.bin o x y) e σ = r1 (binV o (src e x) (src e y)) σ := r2_map _ _
theorem x_eq (k : EqK) (neg : Bool) (x y : S) : evalX (.eq k neg x y) e σ = r1 (eqqV k neg (src e x) (src e y)) σ := by
  simp only [evalX, calleeOf, evalOp, eqqV]; cases eqV k (src e x) (src e y) <;> rfl
theorem x_un (o : UnOp) (x : S) : evalX (.un o x) e σ = r1 (unV o (src e x)) σ := r2_map _ _
theorem x_cvi (k : IntKind) (x : S) : evalX (.cvi k x) e σ = r1 (cviV k (src e x)) σ := by
  simp only [evalX, calleeOf, evalOp, cviV]; cases src e x <;> rfl
theorem x_cvs (x : S) : evalX (.cvs x) e σ = r1 (cvsV (src e x)) σ := by
  simp only [evalX, calleeOf, evalOp, cvsV]; cases src e x <;> rfl
theorem x_cvl (x : S) : evalX (.cvl x) e σ = r1 (cvlV (src e x) σ) σ := by
  simp only [evalX, calleeOf, evalOp, cvlV]
  cases src e x with
  | sl i g off len m w =>
    simp only
    cases σ[i]? with
    | none => rfl
    | some ob =>
      cases ob with
      | row cs e g' z => simp only; split <;> rfl
      | _ => rfl
  | _ => rfl
theorem x_stb (ty : Nat) (x : S) : evalX (.stb ty x) e σ = r2 (stbV ty (src e x) σ) := hide rfl
theorem x_bts (x : S) : evalX (.bts x) e σ = r1 (btsV (src e x) σ) σ := by
  simp only [evalX, calleeOf, evalOp, btsV]
  cases srcRows σ 1 (src e x) with
  | none => rfl
  | some xs => simp only [Option.bind_some]; cases rowsByte xs <;> rfl
theorem x_slcs (x : S) (lo hi : Option S) : evalX (.slcs x lo hi) e σ = r1 (slcS (src e x) (lo.map (src e)) (hi.map (src e))) σ := r2_map _ _
theorem x_slc (m : Nat) (x : S) (lo hi mx : Option S) : evalX (.slc m x lo hi mx) e σ = r1 (slcV m (src e x) (lo.map (src e)) (hi.map (src e)) (mx.map (src e))) σ := r2_map _ _
theorem x_sap (n : Nat) (x : S) : evalX (.sap n x) e σ = r1 (sapV n (src e x)) σ := r2_map _ _
theorem x_slca (len m : Nat) (x : S) (lo hi : Option S) : evalX (.slca len m x lo hi) e σ = r1 (slcaV len m (src e x) (lo.map (src e)) (hi.map (src e))) σ := by
  simp only [evalX, calleeOf, evalOp, slcaV]
  cases src e x with
  | ptr i g off =>
    simp only
    cases boundV (lo.map (src e)) 0 with
    | none => rfl
    | some a =>
      simp only [Option.bind_some]
      cases boundV (hi.map (src e)) len with
      | none => rfl
      | some b => simp only [Option.bind_some]; split <;> rfl
  | _ => rfl
theorem x_fad (off : Nat) (x : S) : evalX (.fad off x) e σ = r1 (fadV off (src e x)) σ := by
  simp only [evalX, calleeOf, evalOp, fadV]; cases src e x <;> rfl
theorem x_fld (off n : Nat) (one : Bool) (x : S) : evalX (.fld off n one x) e σ = r1 (fldV off n one (src e x)) σ := by
  simp only [evalX, calleeOf, evalOp, fldV]
  cases src e x with
  | agg cs => simp only; split; · exact r2_map _ _
              · rfl
  | _ => rfl
theorem x_iad (m : Nat) (x i : S) : evalX (.iad m x i) e σ = r1 (iadV m (src e x) (src e i)) σ := by
  simp only [evalX, calleeOf, evalOp, iadV]
  cases src e x with
  | lst t xs =>
    simp only
    cases atI xs (src e i) with
    | none => rfl
    | some r => simp only [Option.bind_some]; split <;> rfl
  | sl j g off len m' w =>
    simp only
    cases src e i with
    | int k n => simp only; split <;> rfl
    | _ => rfl
  | _ => rfl
theorem x_iar (len m : Nat) (x i : S) : evalX (.iar len m x i) e σ = r1 (iarV len m (src e x) (src e i)) σ := by
  simp only [evalX, calleeOf, evalOp, iarV]
  cases src e i with
  | int k n => simp only; split; · cases src e x <;> rfl
               · rfl
  | _ => rfl
theorem x_idx (x i : S) : evalX (.idx x i) e σ = r1 (idxV (src e x) (src e i)) σ := by
  simp only [evalX, calleeOf, evalOp, idxV]
  cases src e x with
  | str l => simp only; cases atI l (src e i) <;> rfl
  | _ => rfl
theorem x_ida (len m : Nat) (one : Bool) (x i : S) : evalX (.ida len m one x i) e σ = r1 (idaV len m one (src e x) (src e i)) σ := by
  simp only [evalX, calleeOf, evalOp, idaV]
  cases src e i with
  | int k n =>
    simp only
    split
    · cases src e x with
      | agg cs => simp only; split; · exact r2_map _ _
                  · rfl
      | _ => rfl
    · rfl
  | _ => rfl
theorem x_ext (i : Nat) (x : S) : evalX (.ext i x) e σ = r1 (extV i (src e x)) σ := by
  simp only [evalX, calleeOf, evalOp, extV]
  cases src e x with
  | tup vs => exact r2_map _ _
  | _ => rfl
theorem x_lens (x : S) : evalX (.lens x) e σ = r1 (lensV (src e x)) σ := by
  simp only [evalX, calleeOf, evalOp, lensV]; cases src e x <;> rfl
theorem x_len (x : S) : evalX (.len x) e σ = r1 (lenV (src e x)) σ := by
  simp only [evalX, calleeOf, evalOp, lenV]; cases src e x <;> rfl
theorem x_app (bytes : Nat) (m : Nat × Nat) (x y : S) : evalX (.app bytes m x y) e σ = r2 (appV bytes m (src e x) (src e y) σ) := hide rfl
theorem x_apps (ty : Nat) (x y : S) : evalX (.apps ty x y) e σ = r2 (appsV ty (src e x) (src e y) σ) := hide rfl
theorem x_mx (x y : S) : evalX (.mx x y) e σ = r1 (mxV (src e x) (src e y)) σ := by
  simp only [evalX, calleeOf, evalOp, mxV]
  cases src e x with
  | int k a =>
    cases src e y with
    | int k' b => simp only; split <;> rfl
    | _ => rfl
  | _ => rfl
theorem x_mn (x y : S) : evalX (.mn x y) e σ = r1 (mnV (src e x) (src e y)) σ := by
  simp only [evalX, calleeOf, evalOp, mnV]
  cases src e x with
  | int k a =>
    cases src e y with
    | int k' b => simp only; split <;> rfl
    | _ => rfl
  | _ => rfl
theorem x_mkf (f : Nat) (a c : List S) : evalX (.mkf f a c) e σ = r1 (mkfV f (a.map (src e)) (c.map (src e))) σ := by
  simp only [evalX, calleeOf, evalOp, mkfV]; split <;> rfl
theorem x_mmk : evalX .mmk e σ = .val (.mp σ.length) (σ ++ [.map []]) := hide rfl
theorem x_mlk (z : V) (x k : S) : evalX (.mlk z x k) e σ = r1 (mlkV z (src e x) (src e k) σ) σ := by
  simp only [evalX, calleeOf, evalOp, mlkV]
  cases src e x with
  | mp i =>
    cases src e k with
    | str s =>
      simp only
      cases σ[i]? with
      | none => rfl
      | some ob => cases ob <;> rfl
    | _ => rfl
  | _ => rfl
theorem x_mup (x k v : S) : evalX (.mup x k v) e σ = r2 (mupV (src e x) (src e k) (src e v) σ) := hide rfl
theorem x_call (f : Nat) (xs : List S) : evalX (.call f xs) e σ = .call f (xs.map (src e)) := hide rfl
def calV (x : V) (ys : List V) : Rs :=
  match x with
  | .fn f a c => .call f (a ++ ys ++ c)
  | _ => .fail
theorem x_callv (x : S) (xs : List S) : evalX (.callv x xs) e σ = calV (src e x) (xs.map (src e)) := by
  simp only [evalX, calleeOf, calV]; cases src e x <;> rfl
end
end Go.Proofs.YtlehfgdhebapeaaDoor.KM
/- Walking by rewriting: code. -/
namespace Go.Proofs.YtlehfgdhebapeaaDoor.KM
open Go
variable {T : Nat → Option AF} {pr : Nat → Option (List V → Option V)}
def o (d : Nat) (op : AO) : AI := ⟨some d, op, none⟩
def on (op : AO) : AI := ⟨none, op, none⟩
def og (d : Nat) (op : AO) (t : Nat) (w : Bool) : AI := ⟨some d, op, some (t, w)⟩
def oh (op : AO) (t : Nat) (w : Bool) : AI := ⟨none, op, some (t, w)⟩

/-- a call -/
inductive CallS (T : Nat → Option AF) (pr : Nat → Option (List V → Option V)) (f : Nat) (args : List V) (σ : St) : V → St → Prop
  | prim {s : List V → Option V} {vs : List V} {v : V} : pr f = some s → over σ args = some vs → s vs = some v → CallS T pr f args σ v (after σ args v)
  | pure {vs : List V} {v : V} : over σ args = some vs → Fn T pr f vs v → CallS T pr f args σ v (after σ args v)
  | own {σ0 : St} {vs : List V} {v : V} : over σ args = some vs → FnO T pr f vs v σ0 → CallS T pr f args σ (v.ren (· + σ.length)) (own σ args σ0)
  | any {v : V} {σ1 : St} : ThP T pr f args σ v σ1 → CallS T pr f args σ v σ1
  | thr {v : V} {σ1 : St} : Th T pr f args σ v σ1 → CallS T pr f args σ v σ1
  | spec {F : AF} {s : List V → St → Option (V × St)} {v : V} {σ1 : St} : T f = some F → F.thr = true → F.spec = some s → s args σ = some (v, σ1) → CallS T pr f args σ v σ1
theorem CallS.sg {i : AI} {f : Nat} {args : List V} {e : Env} {σ σ1 : St} {v : V} (h : CallS T pr f args σ v σ1) (hw : wantedB e i = some true) (hc : calleeOf e i.op = some (f, args)) : Sg T pr i e σ v σ1 := by
  cases h with
  | prim h1 h2 h3 => exact .prim hw hc h1 h2 h3
  | pure h1 h2 => exact .pure hw hc h1 h2
  | own hx h => obtain ⟨F, h1, h2, h3, h4⟩ := h; exact .own hw hc h1 h2 h3 hx h4
  | any h => obtain ⟨F, h1, h3, h4⟩ := h; exact .any hw hc h1 h3 h4
  | thr h => obtain ⟨F, h1, h2, h3, h4⟩ := h; exact .thr hw hc h1 h2 h3 h4
  | spec h1 h2 h3 h4 => exact .spec hw hc h1 h2 h3 h4

def WE (T : Nat → Option AF) (pr : Nat → Option (List V → Option V)) (e : Env) (k : List It) (σ : St) (Q : Env → St → Prop) : Prop := W T pr k e σ Q
def WR (T : Nat → Option AF) (pr : Nat → Option (List V → Option V)) (l : List AI) (kill : List Nat) (k : List It) (e : Env) (σ : St) (Q : Env → St → Prop) : Prop := WO T pr l e σ fun e1 σ1 => W T pr k (e1.del kill) σ1 Q
def WX (T : Nat → Option AF) (pr : Nat → Option (List V → Option V)) (r : Rs) (d : Option Nat) (l : List AI) (kill : List Nat) (k : List It) (e : Env) (σ : St) (Q : Env → St → Prop) : Prop :=
  match r with
  | .val v σ1 => WR T pr l kill k (e.putO d v) σ1 Q
  | .call f args => ∃ v σ1, CallS T pr f args σ v σ1 ∧ WR T pr l kill k (e.putO d v) σ1 Q
  | .fail => False
def WD (T : Nat → Option AF) (pr : Nat → Option (List V → Option V)) (g : V) (w : Bool) (d : Option Nat) (op : AO) (l : List AI) (kill : List Nat) (k : List It) (e : Env) (σ : St) (Q : Env → St → Prop) : Prop :=
  match g with
  | .bool b => if b = w then WX T pr (evalX op e σ) d l kill k e σ Q else WR T pr l kill k (e.putO d .skp) σ Q
  | .skp => WR T pr l kill k (e.putO d .skp) σ Q
  | _ => False
def WC (T : Nat → Option AF) (pr : Nat → Option (List V → Option V)) (g : V) (kill : List Nat) (x y : AC) (k : List It) (e : Env) (σ : St) (Q : Env → St → Prop) : Prop :=
  match g with
  | .bool true => WE T pr (e.del kill) (.c x :: k) σ Q
  | .bool false => WE T pr (e.del kill) (.c y :: k) σ Q
  | _ => False
def WJ (T : Nat → Option AF) (pr : Nat → Option (List V → Option V)) (id : Nat) : List It → Env → St → (Env → St → Prop) → Prop
  | [], _, _, _ => False
  | .b i :: k, e, σ, Q => if i = id then W T pr k e σ Q else WJ T pr id k e σ Q
  | .c _ :: k, e, σ, Q => WJ T pr id k e σ Q
  | .l _ _ :: k, e, σ, Q => WJ T pr id k e σ Q
theorem get_keep (e : Env) (n : Nat) : ∀ ks : List Nat, ks.elem n = true → (e.keep ks).get n = e.get n
  | [], h => by cases h
  | m :: ks, h => by
    simp only [Env.keep, Env.get]
    split
    · rename_i h; rw [h]
    · rename_i hm
      refine get_keep e n ks ?_
      simp only [List.elem_eq_mem, List.mem_cons, decide_eq_true_eq] at h ⊢
      exact h.resolve_left fun h => hm h.symm
theorem keep_sub (e : Env) (ks : List Nat) : ∀ js : List Nat, (∀ n, js.elem n = true → ks.elem n = true) → (e.keep ks).keep js = e.keep js
  | [], _ => rfl
  | m :: js, h => by
    simp only [Env.keep]
    rw [get_keep e m ks (h m (by simp)), keep_sub e ks js fun n hn => h n (by simp at hn ⊢; exact .inr hn)]
theorem keep_keep (e : Env) (ks : List Nat) : e.keep ks = (e.keep ks).keep ks := (keep_sub e ks ks fun _ h => h).symm
section
variable {Q : Env → St → Prop} {e : Env} {σ : St} {k : List It} {l : List AI} {kill : List Nat}
theorem w_seq (a b : AC) : W T pr (.c (.seq a b) :: k) e σ Q = W T pr (.c a :: .c b :: k) e σ Q := propext ⟨fun ⟨e', σ', h, q⟩ => by cases h with | cSeq h => exact ⟨e', σ', h, q⟩, W_seq⟩
theorem w_skip : W T pr (.c .skip :: k) e σ Q = W T pr k e σ Q := propext ⟨fun ⟨e', σ', h, q⟩ => by cases h with | cSkip h => exact ⟨e', σ', h, q⟩, W_skip⟩
theorem w_blk (id : Nat) (c : AC) : W T pr (.c (.blk id c) :: k) e σ Q = W T pr (.c c :: .b id :: k) e σ Q := propext ⟨fun ⟨e', σ', h, q⟩ => by cases h with | cBlk h => exact ⟨e', σ', h, q⟩, W_blk⟩
theorem w_end (id : Nat) : W T pr (.b id :: k) e σ Q = W T pr k e σ Q := propext ⟨fun ⟨e', σ', h, q⟩ => by cases h with | cEnd h => exact ⟨e', σ', h, q⟩, W_end⟩
theorem w_loop (keep : List Nat) (c : AC) : W T pr (.c (.loop keep c) :: k) e σ Q = WE T pr (e.keep keep) (.l keep c :: k) σ Q := by
  refine propext ⟨fun ⟨e', σ', h, q⟩ => ?_, fun h => W_loop (W_keep h ?_)⟩
  · cases h with
    | cLoop h => exact W_keep ⟨e', σ', h, q⟩ (keep_keep e keep).symm
  · exact (keep_keep e keep)
theorem w_again (keep : List Nat) (c : AC) : W T pr (.l keep c :: k) e σ Q = WE T pr (e.keep keep) (.c c :: .l keep c :: k) σ Q := propext ⟨fun ⟨e', σ', h, q⟩ => by cases h with | cAgain h => exact ⟨e', σ', h, q⟩, W_again⟩
theorem w_ret : W T pr (.c .ret :: k) e σ Q = Q e σ := propext ⟨fun ⟨e', σ', h, q⟩ => by cases h with | cRet => exact q, W_ret⟩
theorem w_nil : W T pr [] e σ Q = Q e σ := propext ⟨fun ⟨e', σ', h, q⟩ => by cases h with | cNil => exact q, W_nil⟩
theorem w_reg (ops : List AI) : W T pr (.c (.reg kill ops) :: k) e σ Q = WR T pr ops kill k e σ Q := propext ⟨fun ⟨e', σ', h, q⟩ => by cases h with | cReg h h2 => exact ⟨_, _, h, e', σ', h2, q⟩, fun ⟨_, _, h, e', σ', h2, q⟩ => ⟨e', σ', .cReg h h2, q⟩⟩
theorem w_cond (c : S) (x y : AC) : W T pr (.c (.cond c kill x y) :: k) e σ Q = WC T pr (src e c) kill x y k e σ Q := by
  refine propext ⟨fun ⟨e', σ', h, q⟩ => ?_, fun h => ?_⟩
  · cases h with
    | cCond hc h =>
      rw [hc]
      rename_i z
      cases z
      · exact ⟨e', σ', h, q⟩
      · exact ⟨e', σ', h, q⟩
  · unfold WC at h
    split at h
    · rename_i hc; exact W_cond_t hc h
    · rename_i hc; exact W_cond_f hc h
    · exact h.elim
theorem wj_ok (id : Nat) : ∀ k' : List It, WJ T pr id k' e σ Q ↔ ∃ k2, exitTo id k' = some k2 ∧ W T pr k2 e σ Q
  | [] => by simp [WJ, exitTo]
  | .b i :: k' => by
    simp only [WJ, exitTo]
    split
    · simp
    · exact wj_ok id k'
  | .c _ :: k' => by simp only [WJ, exitTo]; exact wj_ok id k'
  | .l _ _ :: k' => by simp only [WJ, exitTo]; exact wj_ok id k'
theorem w_exit (id : Nat) : W T pr (.c (.exit id) :: k) e σ Q = WJ T pr id k e σ Q := propext ⟨fun ⟨e', σ', h, q⟩ => by cases h with | cExit hk h => exact (wj_ok id k).2 ⟨_, hk, e', σ', h, q⟩, fun h => let ⟨_, h1, h2⟩ := (wj_ok id k).1 h; W_exit h1 h2⟩
theorem wj_b (id i : Nat) : WJ T pr id (.b i :: k) e σ Q = if i = id then W T pr k e σ Q else WJ T pr id k e σ Q := hide rfl
theorem wj_c (id : Nat) (c : AC) : WJ T pr id (.c c :: k) e σ Q = WJ T pr id k e σ Q := hide rfl
theorem wj_l (id : Nat) (kp : List Nat) (c : AC) : WJ T pr id (.l kp c :: k) e σ Q = WJ T pr id k e σ Q := hide rfl
theorem we : WE T pr e k σ Q = W T pr k e σ Q := hide rfl
theorem wr_nil : WR T pr [] kill k e σ Q = WE T pr (e.del kill) k σ Q := propext ⟨fun ⟨_, _, h, q⟩ => by cases h with | opsNil => exact q, fun h => ⟨_, _, .opsNil, h⟩⟩
theorem wx_val (v : V) (σ1 : St) (d : Option Nat) : WX T pr (.val v σ1) d l kill k e σ Q = WR T pr l kill k (e.putO d v) σ1 Q := hide rfl
theorem wx_fail (d : Option Nat) : WX T pr .fail d l kill k e σ Q = False := hide rfl
theorem wx_call {f : Nat} {args : List V} {d : Option Nat} {v : V} {σ1 : St} (hc : CallS T pr f args σ v σ1) (h : WR T pr l kill k (e.putO d v) σ1 Q) : WX T pr (.call f args) d l kill k e σ Q := ⟨v, σ1, hc, h⟩
theorem callee_none {op : AO} {r : V × St} (h : evalOp op e σ = some r) : calleeOf e op = none := by
  cases op with
  | call f xs => cases h
  | callv x xs => cases h
  | _ => rfl
theorem wr_op {i : AI} (hw : wantedB e i = some true) : WR T pr (i :: l) kill k e σ Q = WX T pr (evalX i.op e σ) i.dst l kill k e σ Q := by
  refine propext ⟨fun ⟨e', σ', h, q⟩ => ?_, fun h => ?_⟩
  · cases h with
    | opsSkip hw' _ => rw [hw] at hw'; cases hw'
    | opsVal _ hv h =>
      unfold evalX
      rw [callee_none hv, hv]
      exact ⟨_, _, h, q⟩
    | opsPrim _ hc h1 h2 h3 h =>
      unfold evalX
      rw [hc]
      exact ⟨_, _, .prim h1 h2 h3, _, _, h, q⟩
    | opsPure _ hc h1 h2 h3 h4 h5 h6 h =>
      unfold evalX
      rw [hc]
      exact ⟨_, _, .pure h4 ⟨_, h1, h2, h3, _, _, h5, h6⟩, _, _, h, q⟩
    | opsOwn _ hc h1 h2 h3 hx h4 h =>
      unfold evalX
      rw [hc]
      exact ⟨_, _, .own hx ⟨_, h1, h2, h3, h4⟩, _, _, h, q⟩
    | opsAny _ hc h1 h3 h4 h =>
      unfold evalX
      rw [hc]
      exact ⟨_, _, .any ⟨_, h1, h3, h4⟩, _, _, h, q⟩
    | opsThr _ hc h1 h2 h3 h4 h =>
      unfold evalX
      rw [hc]
      exact ⟨_, _, .thr ⟨_, h1, h2, h3, h4⟩, _, _, h, q⟩
    | opsSpec _ hc h1 h2 h3 h4 h =>
      unfold evalX
      rw [hc]
      exact ⟨_, _, .spec h1 h2 h3 h4, _, _, h, q⟩
  · unfold evalX at h
    split at h
    · rename_i f args hc
      obtain ⟨v, σ1, hs, e', σ', h, q⟩ := h
      exact ⟨e', σ', (hs.sg hw hc).ev h, q⟩
    · cases hv : evalOp i.op e σ with
      | none => rw [hv] at h; exact h.elim
      | some p =>
        obtain ⟨v, σ1⟩ := p
        rw [hv] at h
        obtain ⟨e', σ', h, q⟩ := h
        exact ⟨e', σ', .opsVal hw hv h, q⟩
theorem wr_o (d : Nat) (op : AO) : WR T pr (o d op :: l) kill k e σ Q = WX T pr (evalX op e σ) (some d) l kill k e σ Q := wr_op (i := o d op) rfl
theorem wr_on (op : AO) : WR T pr (on op :: l) kill k e σ Q = WX T pr (evalX op e σ) none l kill k e σ Q := wr_op (i := on op) rfl
theorem wr_skip {i : AI} (hw : wantedB e i = some false) : WR T pr (i :: l) kill k e σ Q = WR T pr l kill k (e.putO i.dst .skp) σ Q := by
  refine propext ⟨fun ⟨e', σ', h, q⟩ => ?_, fun ⟨e', σ', h, q⟩ => ⟨e', σ', .opsSkip hw h, q⟩⟩
  cases h with
  | opsSkip _ h => exact ⟨_, _, h, q⟩
  | opsVal hw' => rw [hw] at hw'; cases hw'
  | opsPrim hw' => rw [hw] at hw'; cases hw'
  | opsPure hw' => rw [hw] at hw'; cases hw'
  | opsOwn hw' => rw [hw] at hw'; cases hw'
  | opsAny hw' => rw [hw] at hw'; cases hw'
  | opsThr hw' => rw [hw] at hw'; cases hw'
  | opsSpec hw' => rw [hw] at hw'; cases hw'
theorem wr_g {i : AI} {t : Nat} {w : Bool} (hg : i.g = some (t, w)) : WR T pr (i :: l) kill k e σ Q = WD T pr (e.get t) w i.dst i.op l kill k e σ Q := by
  unfold WD
  have hd : wantedB e i = (match e.get t with
    | .bool b => some (b == w)
    | .skp => some false
    | _ => none) := by unfold wantedB; rw [hg]; rfl
  have no : wantedB e i = none → WR T pr (i :: l) kill k e σ Q = False := by
    intro hn
    refine propext ⟨?_, False.elim⟩
    rintro ⟨e', σ', h, q⟩
    cases h with
    | opsSkip hw' => rw [hn] at hw'; cases hw'
    | opsVal hw' => rw [hn] at hw'; cases hw'
    | opsPrim hw' => rw [hn] at hw'; cases hw'
    | opsPure hw' => rw [hn] at hw'; cases hw'
    | opsOwn hw' => rw [hn] at hw'; cases hw'
    | opsAny hw' => rw [hn] at hw'; cases hw'
    | opsThr hw' => rw [hn] at hw'; cases hw'
    | opsSpec hw' => rw [hn] at hw'; cases hw'
  split
  · rename_i b hb
    rw [hb] at hd
    simp only at hd
    split
    · rename_i hbw; subst hbw; exact wr_op (by rw [hd]; simp)
    · rename_i hbw; exact wr_skip (by rw [hd]; simp [hbw])
  · rename_i hb
    rw [hb] at hd
    exact wr_skip hd
  · rename_i h1 h2
    refine no ?_
    rw [hd]
    split
    · rename_i b hb; exact absurd hb (h1 b)
    · rename_i hb; exact absurd hb h2
    · rfl
theorem wr_og (d : Nat) (op : AO) (t : Nat) (w : Bool) : WR T pr (og d op t w :: l) kill k e σ Q = WD T pr (e.get t) w (some d) op l kill k e σ Q := wr_g (i := og d op t w) rfl
theorem wr_oh (op : AO) (t : Nat) (w : Bool) : WR T pr (oh op t w :: l) kill k e σ Q = WD T pr (e.get t) w none op l kill k e σ Q := wr_g (i := oh op t w) rfl
theorem wd_skp (w : Bool) (d : Option Nat) (op : AO) : WD T pr .skp w d op l kill k e σ Q = WR T pr l kill k (e.putO d .skp) σ Q := hide rfl
theorem wc_true (x y : AC) : WC T pr (.bool true) kill x y k e σ Q = WE T pr (e.del kill) (.c x :: k) σ Q := hide rfl
theorem wc_false (x y : AC) : WC T pr (.bool false) kill x y k e σ Q = WE T pr (e.del kill) (.c y :: k) σ Q := hide rfl
theorem wc_if {b : Bool} {x y : AC} (h1 : b = true → WE T pr (e.del kill) (.c x :: k) σ Q) (h2 : b = false → WE T pr (e.del kill) (.c y :: k) σ Q) : WC T pr (.bool b) kill x y k e σ Q := by
  cases b
  · exact h2 rfl
  · exact h1 rfl
end
/-! only the first part is looked at while it is reckoned -/
section
variable {Q : Env → St → Prop} {e e' : Env} {σ σ' : St} {k : List It} {l : List AI} {kill : List Nat}
@[congr] theorem W_congr (h : e = e') : W T pr k e σ Q = W T pr k e' σ Q := by rw [h]
@[congr] theorem WE_congr (h : e = e') : WE T pr e k σ Q = WE T pr e' k σ Q := by rw [h]
@[congr] theorem WR_congr (h : e = e') : WR T pr l kill k e σ Q = WR T pr l kill k e' σ Q := by rw [h]
@[congr] theorem WX_congr {r r' : Rs} {d : Option Nat} (h : r = r') : WX T pr r d l kill k e σ Q = WX T pr r' d l kill k e σ Q := by rw [h]
@[congr] theorem WD_congr {g g' : V} {w : Bool} {d : Option Nat} {op : AO} (h : g = g') : WD T pr g w d op l kill k e σ Q = WD T pr g' w d op l kill k e σ Q := by rw [h]
@[congr] theorem WC_congr {g g' : V} {x y : AC} (h : g = g') : WC T pr g kill x y k e σ Q = WC T pr g' kill x y k e σ Q := by rw [h]
end
end Go.Proofs.YtlehfgdhebapeaaDoor.KM
/- Walking by rewriting: drawn regions, calls, ends. -/
namespace Go.Proofs.YtlehfgdhebapeaaDoor.KM
open Go
variable {T : Nat → Option AF} {pr : Nat → Option (List V → Option V)}
/-- which kind of step: whatever the state, a read, an effect -/
inductive Kd where
  | pu | rd | ef
def kd : AO → Kd
  | .new _ _ | .box _ _ | .store _ _ _ | .app _ _ _ _ | .apps _ _ _ | .rowf _ _ _ | .rowo _ _ _ _ | .mk _ _ _ _ _ | .stb _ _ | .mmk | .mup _ _ _ | .call _ _ | .callv _ _ => .ef
  | .load _ _ _ | .mlk _ _ _ | .bts _ | .cvl _ => .rd
  | _ => .pu
theorem kd_pu {op : AO} (h : kd op = .pu) : cls T pr op = 0 := by
  cases op <;> simp [kd] at h <;> simp [cls]
theorem kd_rd {op : AO} (h : kd op = .rd) {e : Env} {σ σ1 : St} {v : V} (hv : evalOp op e σ = some (v, σ1)) : σ1 = σ := by
  cases op with
  | load n one x =>
    simp only [evalOp, Option.map_eq_some_iff] at hv
    obtain ⟨_, _, h⟩ := hv
    cases h; rfl
  | mlk z x k =>
    simp only [evalOp] at hv
    split at hv
    · split at hv
      · cases hv; rfl
      · cases hv
    · cases hv
  | bts x =>
    simp only [evalOp, Option.bind_eq_some_iff, Option.map_eq_some_iff] at hv
    obtain ⟨_, _, _, _, h⟩ := hv
    cases h; rfl
  | cvl x =>
    simp only [evalOp] at hv
    split at hv
    · split at hv
      · split at hv
        · cases hv; rfl
        · cases hv
      · cases hv
    · cases hv
  | _ => simp [kd] at h
def CallP (T : Nat → Option AF) (pr : Nat → Option (List V → Option V)) (f : Nat) (vs : List V) (v : V) : Prop := (∃ s, pr f = some s ∧ s vs = some v) ∨ Fn T pr f vs v
theorem CallP.sg {i : AI} {f : Nat} {args vs : List V} {e : Env} {σ : St} {v : V} (h : CallP T pr f vs v) (hw : wantedB e i = some true) (hc : calleeOf e i.op = some (f, args)) (hx : over σ args = some vs) : Sg T pr i e σ v (after σ args v) := by
  rcases h with ⟨s, h1, h2⟩ | h
  · exact .prim hw hc h1 hx h2
  · exact .pure hw hc hx h
def wgk (deps : List (List Nat)) (n m : Nat) (i : AI) (z : Kd) (v : V) (σ1 : St) (e : Env) (σ : St) (fs : Fs) (ls : Ls) (K : Env → St → Fs → Ls → Prop) : Prop :=
  match z with
  | .pu => K (e.putO i.dst v) σ fs ls
  | .rd => chF deps n m (fun s => evalOp i.op e s = some (v, s)) fs ∧ K (e.putO i.dst v) σ fs ((m, fun s => evalOp i.op e s = some (v, s)) :: ls)
  | .ef => chB deps n m fs ∧ chR deps n m σ σ1 ls ∧ K (e.putO i.dst v) σ1 ((m, σ, σ1) :: fs) ls
def wgx (T : Nat → Option AF) (pr : Nat → Option (List V → Option V)) (deps : List (List Nat)) (n m : Nat) (i : AI) (r : Rs) (e : Env) (σ : St) (fs : Fs) (ls : Ls) (K : Env → St → Fs → Ls → Prop) : Prop :=
  match r with
  | .val v σ1 => wgk deps n m i (kd i.op) v σ1 e σ fs ls K
  | .call f args => (∃ v vs, refsL args = [] ∧ over σ args = some vs ∧ CallP T pr f vs v ∧ K (e.putO i.dst v) σ fs ls) ∨
      (∃ v vs, over σ args = some vs ∧ CallP T pr f vs v ∧ v.flatV = true ∧ chF deps n m (fun s => over s args = some vs) fs ∧ K (e.putO i.dst v) σ fs ((m, fun s => over s args = some vs) :: ls)) ∨
      (∃ v σ1, CallS T pr f args σ v σ1 ∧ chB deps n m fs ∧ chR deps n m σ σ1 ls ∧ K (e.putO i.dst v) σ1 ((m, σ, σ1) :: fs) ls)
  | .fail => False
def wgd (T : Nat → Option AF) (pr : Nat → Option (List V → Option V)) (deps : List (List Nat)) (n m : Nat) (i : AI) (g : Option V) (w : Bool) (e : Env) (σ : St) (fs : Fs) (ls : Ls) (K : Env → St → Fs → Ls → Prop) : Prop :=
  match g with
  | none => wgx T pr deps n m i (evalX i.op e σ) e σ fs ls K
  | some (.bool b) => if b = w then wgx T pr deps n m i (evalX i.op e σ) e σ fs ls K else K (e.putO i.dst .skp) σ fs ls
  | some .skp => K (e.putO i.dst .skp) σ fs ls
  | some _ => False
def wg (T : Nat → Option AF) (pr : Nat → Option (List V → Option V)) (deps : List (List Nat)) (n : Nat) (kill : List Nat) (k : List It) (Q : Env → St → Prop) : Nat → List AI → Env → St → Fs → Ls → Prop
  | _, [], e, σ, _, _ => WE T pr (e.del kill) k σ Q
  | m, i :: l, e, σ, fs, ls => wgd T pr deps n m i (i.g.map fun p => e.get p.1) ((i.g.map fun p => p.2).getD true) e σ fs ls (wg T pr deps n kill k Q (m + 1) l)
section
variable {Q : Env → St → Prop} {e : Env} {σ : St} {k : List It} {kill : List Nat} {deps : List (List Nat)} {n : Nat}
theorem wgx_ok {m : Nat} {i : AI} {l : List AI} {fs : Fs} {ls : Ls} {K : Env → St → Prop} {P : Env → St → Fs → Ls → Prop} (hP : ∀ e σ fs ls, P e σ fs ls → WG T pr deps n (m + 1) l e σ fs ls K)
    (hw : wantedB e i = some true) (h : wgx T pr deps n m i (evalX i.op e σ) e σ fs ls P) : WG T pr deps n m (i :: l) e σ fs ls K := by
  unfold evalX at h
  split at h
  · rename_i f args hc
    rcases h with ⟨v, vs, h1, h2, h3, h4⟩ | ⟨v, vs, h1, h2, h3, h4, h5⟩ | ⟨v, σ1, h1, h2, h3, h4⟩
    · refine WG_any (fun s => ?_) (hP _ _ _ _ h4)
      have := h3.sg (σ := s) hw hc ((over_nil h1 s).trans h2)
      rw [after_nil h1] at this
      exact this
    · obtain ⟨e', σ', h, q⟩ := hP _ _ _ _ h5
      refine ⟨e', σ', .read (fun s => over s args = some vs) h1 (fun s hs => ?_) (chF_mem h4) h, q⟩
      have := h2.sg (σ := s) hw hc hs
      unfold after at this
      rw [if_pos h3] at this
      exact this
    · exact WG_eff (h1.sg hw hc) h2 h3 (hP _ _ _ _ h4)
  · cases hv : evalOp i.op e σ with
    | none => rw [hv] at h; exact h.elim
    | some p =>
      obtain ⟨v, σ1⟩ := p
      rw [hv] at h
      simp only [r2, wgx] at h
      unfold wgk at h
      split at h
      · rename_i hk
        obtain ⟨rfl, hall⟩ := evalOp_calm (kd_pu (T := T) (pr := pr) hk) hv
        exact WG_val hw hall (hP _ _ _ _ h)
      · rename_i hk
        obtain rfl := kd_rd hk hv
        exact WG_rd hw hv h.1 (hP _ _ _ _ h.2)
      · exact WG_evl hw hv h.1 h.2.1 (hP _ _ _ _ h.2.2)
theorem wg_ok : ∀ (l : List AI) (m : Nat) (e : Env) (σ : St) (fs : Fs) (ls : Ls), wg T pr deps n kill k Q m l e σ fs ls → WG T pr deps n m l e σ fs ls fun e1 σ1 => W T pr k (e1.del kill) σ1 Q
  | [], m, e, σ, fs, ls, h => WG_nil h
  | i :: l, m, e, σ, fs, ls, h => by
    unfold wg at h
    unfold wgd at h
    split at h
    · rename_i hg
      refine wgx_ok (fun e σ fs ls => wg_ok l (m + 1) e σ fs ls) ?_ h
      simp only [Option.map_eq_none_iff] at hg
      unfold wantedB
      rw [hg]
    · rename_i b hg
      obtain ⟨p, hp, hb⟩ := Option.map_eq_some_iff.1 hg
      split at h
      · rename_i hbw
        refine wgx_ok (fun e σ fs ls => wg_ok l (m + 1) e σ fs ls) ?_ h
        unfold wantedB
        obtain ⟨t, w⟩ := p
        rw [hp] at hbw ⊢
        simp only at hb
        simp only [hb]
        simp at hbw
        simp [hbw]
      · rename_i hbw
        refine WG_any (fun s => .off ?_) (wg_ok l (m + 1) _ _ _ _ h)
        unfold wantedB
        obtain ⟨t, w⟩ := p
        rw [hp] at hbw ⊢
        simp only at hb
        simp only [hb]
        simp at hbw
        simp [hbw]
    · rename_i hg
      obtain ⟨p, hp, hb⟩ := Option.map_eq_some_iff.1 hg
      refine WG_any (fun s => .off ?_) (wg_ok l (m + 1) _ _ _ _ h)
      unfold wantedB
      obtain ⟨t, w⟩ := p
      rw [hp]
      simp only at hb
      simp only [hb]
    · exact h.elim
theorem w_drw {ops : List AI} (hst : statP deps ops = true) (h : wg T pr deps ops.length kill k Q 0 ops e σ [] []) : W T pr (.c (.drw kill deps ops) :: k) e σ Q :=
  W_drwG hst fun _ hK => by
    obtain ⟨e', σ', h, q⟩ := wg_ok _ _ _ _ _ _ h
    exact ⟨e', σ', h, hK _ _ q⟩
variable {m : Nat} {l : List AI} {fs : Fs} {ls : Ls} {K : Env → St → Fs → Ls → Prop}
theorem wg_nil : wg T pr deps n kill k Q m [] e σ fs ls = WE T pr (e.del kill) k σ Q := hide rfl
theorem wg_o (d : Nat) (op : AO) : wg T pr deps n kill k Q m (o d op :: l) e σ fs ls = wgx T pr deps n m (o d op) (evalX op e σ) e σ fs ls (wg T pr deps n kill k Q (m + 1) l) := hide rfl
theorem wg_on (op : AO) : wg T pr deps n kill k Q m (on op :: l) e σ fs ls = wgx T pr deps n m (on op) (evalX op e σ) e σ fs ls (wg T pr deps n kill k Q (m + 1) l) := hide rfl
theorem wg_og (d : Nat) (op : AO) (t : Nat) (w : Bool) : wg T pr deps n kill k Q m (og d op t w :: l) e σ fs ls = wgd T pr deps n m (og d op t w) (some (e.get t)) w e σ fs ls (wg T pr deps n kill k Q (m + 1) l) := hide rfl
theorem wg_oh (op : AO) (t : Nat) (w : Bool) : wg T pr deps n kill k Q m (oh op t w :: l) e σ fs ls = wgd T pr deps n m (oh op t w) (some (e.get t)) w e σ fs ls (wg T pr deps n kill k Q (m + 1) l) := hide rfl
theorem wgx_o (d : Nat) (op : AO) (v : V) (σ1 : St) : wgx T pr deps n m (o d op) (.val v σ1) e σ fs ls K = wgk deps n m (o d op) (kd op) v σ1 e σ fs ls K := hide rfl
theorem wgx_on (op : AO) (v : V) (σ1 : St) : wgx T pr deps n m (on op) (.val v σ1) e σ fs ls K = wgk deps n m (on op) (kd op) v σ1 e σ fs ls K := hide rfl
theorem wgx_og (d : Nat) (op : AO) (t : Nat) (w : Bool) (v : V) (σ1 : St) : wgx T pr deps n m (og d op t w) (.val v σ1) e σ fs ls K = wgk deps n m (og d op t w) (kd op) v σ1 e σ fs ls K := hide rfl
theorem wgx_oh (op : AO) (t : Nat) (w : Bool) (v : V) (σ1 : St) : wgx T pr deps n m (oh op t w) (.val v σ1) e σ fs ls K = wgk deps n m (oh op t w) (kd op) v σ1 e σ fs ls K := hide rfl
theorem wgd_tt (d : Nat) (op : AO) (t : Nat) : wgd T pr deps n m (og d op t true) (some (.bool true)) true e σ fs ls K = wgx T pr deps n m (og d op t true) (evalX op e σ) e σ fs ls K := hide rfl
theorem wgd_ff (d : Nat) (op : AO) (t : Nat) : wgd T pr deps n m (og d op t false) (some (.bool false)) false e σ fs ls K = wgx T pr deps n m (og d op t false) (evalX op e σ) e σ fs ls K := hide rfl
theorem wgd_tf (d : Nat) (op : AO) (t : Nat) : wgd T pr deps n m (og d op t false) (some (.bool true)) false e σ fs ls K = K (e.put d .skp) σ fs ls := hide rfl
theorem wgd_ft (d : Nat) (op : AO) (t : Nat) : wgd T pr deps n m (og d op t true) (some (.bool false)) true e σ fs ls K = K (e.put d .skp) σ fs ls := hide rfl
theorem wgd_s (d : Nat) (op : AO) (t : Nat) (w : Bool) : wgd T pr deps n m (og d op t w) (some .skp) w e σ fs ls K = K (e.put d .skp) σ fs ls := hide rfl
theorem whd_tt (op : AO) (t : Nat) : wgd T pr deps n m (oh op t true) (some (.bool true)) true e σ fs ls K = wgx T pr deps n m (oh op t true) (evalX op e σ) e σ fs ls K := hide rfl
theorem whd_ff (op : AO) (t : Nat) : wgd T pr deps n m (oh op t false) (some (.bool false)) false e σ fs ls K = wgx T pr deps n m (oh op t false) (evalX op e σ) e σ fs ls K := hide rfl
theorem whd_tf (op : AO) (t : Nat) : wgd T pr deps n m (oh op t false) (some (.bool true)) false e σ fs ls K = K e σ fs ls := hide rfl
theorem whd_ft (op : AO) (t : Nat) : wgd T pr deps n m (oh op t true) (some (.bool false)) true e σ fs ls K = K e σ fs ls := hide rfl
theorem whd_s (op : AO) (t : Nat) (w : Bool) : wgd T pr deps n m (oh op t w) (some .skp) w e σ fs ls K = K e σ fs ls := hide rfl
theorem wgk_pu {i : AI} (v : V) (σ1 : St) : wgk deps n m i .pu v σ1 e σ fs ls K = K (e.putO i.dst v) σ fs ls := hide rfl
theorem wgk_rd {i : AI} (v : V) (σ1 : St) : wgk deps n m i .rd v σ1 e σ [] ls K = K (e.putO i.dst v) σ [] ((m, fun s => evalOp i.op e s = some (v, s)) :: ls) := propext ⟨fun h => h.2, fun h => ⟨trivial, h⟩⟩
theorem wgk_ef {i : AI} (v : V) (σ1 : St) : wgk deps n m i .ef v σ1 e σ [] [] K = K (e.putO i.dst v) σ1 [(m, σ, σ1)] [] := propext ⟨fun h => h.2.2, fun h => ⟨trivial, trivial, h⟩⟩
end
/-! settled values go over as they are -/
def setC : V → Bool
  | .agg cs => cs.all V.rowB
  | .imm _ _ => true
  | v => v.rowB
theorem rowB_refs {v : V} (h : v.rowB = true) : v.refs = [] := by cases v <;> simp [V.rowB] at h <;> rfl
theorem refsL_row : ∀ {cs : List V}, cs.all V.rowB = true → refsL cs = []
  | [], _ => rfl
  | c :: cs, h => by
    simp only [List.all_cons, Bool.and_eq_true] at h
    simp only [refsL, rowB_refs h.1, refsL_row h.2, List.append_nil]
theorem setC_refs {v : V} (h : setC v = true) : v.refs = [] := by
  unfold setC at h
  split at h
  · exact refsL_row h
  · rfl
  · exact rowB_refs h
theorem setL_refs : ∀ {vs : List V}, vs.all setC = true → refsL vs = []
  | [], _ => rfl
  | c :: cs, h => by
    simp only [List.all_cons, Bool.and_eq_true] at h
    simp only [refsL, setC_refs h.1, setL_refs h.2, List.append_nil]
theorem settle_row {σ : St} {js : List Nat} {d : Nat} {v : V} (h : v.rowB = true) : settle σ js (d + 1) v = some v := by
  unfold settle; rw [if_pos h]
theorem mapM_id {f : V → Option V} : ∀ {cs : List V}, (∀ c ∈ cs, f c = some c) → cs.mapM f = some cs
  | [], _ => rfl
  | c :: cs, h => by
    rw [List.mapM_cons, h c List.mem_cons_self, mapM_id fun c hc => h c (List.mem_cons_of_mem _ hc)]
    rfl
theorem settle1_set {σ : St} {js : List Nat} {v : V} (h : setC v = true) : settle1 σ js v = some v := by
  unfold setC at h
  split at h
  · rename_i cs
    simp only [settle1]
    rw [mapM_id fun c hc => settle_row (List.all_eq_true.1 h c hc)]
    rfl
  · rfl
  · rename_i h1 h2
    unfold settle1
    split
    · exact absurd rfl (h2 _ _)
    · exact absurd rfl (h1 _)
    · exact settle_row h
theorem over_set {σ : St} {vs : List V} (h : vs.all setC = true) : over σ vs = some vs := mapM_id fun c hc => settle1_set (List.all_eq_true.1 h c hc)
section
variable {Q : Env → St → Prop} {e : Env} {σ : St} {k : List It} {l : List AI} {kill : List Nat} {f : Nat} {vs : List V} {v : V} {d : Option Nat}
theorem wx_fn (hf : Fn T pr f vs v) (hs : vs.all setC = true) (h : WR T pr l kill k (e.putO d v) σ Q) : WX T pr (.call f vs) d l kill k e σ Q :=
  wx_call (.pure (over_set hs) hf) (by rw [after_nil (setL_refs hs)]; exact h)
theorem wx_pr {s : List V → Option V} (hp : pr f = some s) (hs : vs.all setC = true) (hv : s vs = some v) (h : WR T pr l kill k (e.putO d v) σ Q) : WX T pr (.call f vs) d l kill k e σ Q :=
  wx_call (.prim hp (over_set hs) hv) (by rw [after_nil (setL_refs hs)]; exact h)
theorem wx_th {σ1 : St} (hf : Th T pr f vs σ v σ1) (h : WR T pr l kill k (e.putO d v) σ1 Q) : WX T pr (.call f vs) d l kill k e σ Q := wx_call (.thr hf) h
theorem wx_any {σ1 : St} (hf : ThP T pr f vs σ v σ1) (h : WR T pr l kill k (e.putO d v) σ1 Q) : WX T pr (.call f vs) d l kill k e σ Q := wx_call (.any hf) h
variable {deps : List (List Nat)} {n m : Nat} {fs : Fs} {ls : Ls} {K : Env → St → Fs → Ls → Prop} {i : AI}
theorem wgx_fn (hf : Fn T pr f vs v) (hs : vs.all setC = true) (h : K (e.putO i.dst v) σ fs ls) : wgx T pr deps n m i (.call f vs) e σ fs ls K := .inl ⟨v, vs, setL_refs hs, over_set hs, .inr hf, h⟩
theorem wgx_th {σ1 : St} (hf : Th T pr f vs σ v σ1) (h1 : chB deps n m fs) (h2 : chR deps n m σ σ1 ls) (h : K (e.putO i.dst v) σ1 ((m, σ, σ1) :: fs) ls) : wgx T pr deps n m i (.call f vs) e σ fs ls K := .inr (.inr ⟨v, σ1, .thr hf, h1, h2, h⟩)
end
/-! ends -/
def FR (v0 : V) (σ1 : St) (v : V) : Prop := (okRes v0 = true ∧ v0.refs = [] ∧ back [] v0 = some v) ∨ ∃ js, leaveSome 0 js v0 σ1 = true ∧ back ((js.filterMap (σ1[·]?)).map (Ob.ren (ren 0 js))) (v0.ren (ren 0 js)) = some v
def FL (o : Option V) (σ1 : St) (v : V) : Prop := ∃ v0, o = some v0 ∧ FR v0 σ1 v
def FQ (res : List AR) (v : V) (e : Env) (σ : St) : Prop := FL (resV e σ res) σ v
theorem Fn_go {f p : Nat} {res : List AR} {body : AC} {vs : List V} {v : V} (hT : T f = some ⟨p, res, false, body, none⟩) (hl : vs.length = p) (h : W T pr [.c body] (parEnv 0 vs) [] (FQ res v)) : Fn T pr f vs v := by
  obtain ⟨e', σ', hE, v0, hr, h1 | ⟨js, h1, h2⟩⟩ := h
  · exact Fn_intro hT rfl rfl hl ⟨e', σ', hE, v0, hr, h1⟩
  · exact FnL_intro hT rfl rfl hl ⟨e', σ', hE, v0, js, hr, h1, h2⟩
theorem fq_1 (r : AR) (v : V) (e : Env) (σ : St) : FQ [r] v e σ = FL (resOne e σ r) σ v := hide rfl
theorem fq_2 (r s : AR) (v : V) (e : Env) (σ : St) : FQ [r, s] v e σ = FL ((resOne e σ r).bind fun a => (resOne e σ s).map fun b => .tup [a, b]) σ v := by
  simp only [FQ, resV, List.mapM_cons, List.mapM_nil]
  cases resOne e σ r with
  | none => rfl
  | some a => cases resOne e σ s <;> rfl
theorem fq_3 (r s t : AR) (v : V) (e : Env) (σ : St) : FQ [r, s, t] v e σ = FL ((resOne e σ r).bind fun a => (resOne e σ s).bind fun b => (resOne e σ t).map fun c => .tup [a, b, c]) σ v := by
  simp only [FQ, resV, List.mapM_cons, List.mapM_nil]
  cases resOne e σ r with
  | none => rfl
  | some a =>
    cases resOne e σ s with
    | none => rfl
    | some b => cases resOne e σ t <;> rfl
theorem fl_some (v0 v : V) (σ : St) : FL (some v0) σ v = FR v0 σ v := propext ⟨fun ⟨_, h, q⟩ => by cases h; exact q, fun h => ⟨_, rfl, h⟩⟩
theorem setC_ok {v : V} (h : setC v = true) : okRes1 v = true := by
  unfold setC at h
  split at h
  · rename_i cs
    simp only [okRes1]
    rw [List.all_eq_true] at h ⊢
    intro c hc
    have := h c hc
    cases c <;> simp [V.rowB] at this <;> rfl
  · rfl
  · cases v <;> simp [V.rowB] at h <;> rfl
theorem fr_set {v : V} {σ : St} (h : setC v = true) : FR v σ v := by
  refine .inl ⟨?_, setC_refs h, ?_⟩
  · cases v with
    | tup vs => simp [setC, V.rowB] at h
    | _ => exact setC_ok h
  · unfold back settleV
    split
    · simp [setC, V.rowB] at h
    · exact settle1_set h
theorem fr_tup {vs : List V} {σ : St} (h : vs.all setC = true) : FR (.tup vs) σ (.tup vs) := by
  refine .inl ⟨?_, setL_refs h, ?_⟩
  · simp only [okRes]
    rw [List.all_eq_true] at h ⊢
    exact fun c hc => setC_ok (h c hc)
  · simp only [back, settleV]
    rw [mapM_id fun c hc => settle1_set (List.all_eq_true.1 h c hc)]
    rfl
theorem fr_eq {v v' : V} {σ : St} (h : setC v = true) (he : v = v') : FR v σ v' := he ▸ fr_set h
/-- the end of a threaded function -/
def TQ (res : List AR) (σ : St) (v : V) (σ' : St) (e : Env) (σ1 : St) : Prop := resV e σ1 res = some v ∧ Left σ.length σ v σ1 ∧ σ' = σ1.take σ.length
theorem w_rep {keep : List Nat} {c c' : AC} {k : List It} {e : Env} {σ : St} {Q : Env → St → Prop} (hc : c = c') (h : WE T pr (e.keep keep) (.c c' :: .l keep c :: k) σ Q) : W T pr (.l keep c :: k) e σ Q := by
  subst hc
  rw [w_again]
  exact h
section
variable {deps : List (List Nat)} {n m : Nat} {e : Env} {σ : St} {fs : Fs} {ls : Ls} {K : Env → St → Fs → Ls → Prop} {i : AI}
@[congr] theorem wgx_congr {r r' : Rs} (h : r = r') : wgx T pr deps n m i r e σ fs ls K = wgx T pr deps n m i r' e σ fs ls K := by rw [h]
@[congr] theorem wgd_congr {g g' : Option V} {w : Bool} (h : g = g') : wgd T pr deps n m i g w e σ fs ls K = wgd T pr deps n m i g' w e σ fs ls K := by rw [h]
@[congr] theorem wgk_congr {z z' : Kd} {v : V} {σ1 : St} (h : z = z') : wgk deps n m i z v σ1 e σ fs ls K = wgk deps n m i z' v σ1 e σ fs ls K := by rw [h]
end
end Go.Proofs.YtlehfgdhebapeaaDoor.KM
/- Walking by rewriting: what is reckoned. -/
namespace Go.Proofs.YtlehfgdhebapeaaDoor.KM
open Go
variable {T : Nat → Option AF} {pr : Nat → Option (List V → Option V)}
def TR (v0 : V) (σ : St) (v : V) (σ' σ1 : St) : Prop := v0 = v ∧ Left σ.length σ v σ1 ∧ σ' = σ1.take σ.length
theorem elem_c (a b : Nat) (l : List Nat) : List.elem a (b :: l) = if a = b then true else List.elem a l := by
  by_cases h : a = b
  · simp [h]
  · simp [h]
theorem elem_n (a : Nat) : List.elem a [] = false := rfl
theorem put_c (m n : Nat) (u v : V) (r : Env) : Env.put ((m, u) :: r) n v = if m = n then (n, v) :: r else (m, u) :: Env.put r n v := hide rfl
theorem put_n (n : Nat) (v : V) : Env.put [] n v = [(n, v)] := hide rfl
theorem del_c (m : Nat) (u : V) (r : Env) (ks : List Nat) : Env.del ((m, u) :: r) ks = if ks.elem m = true then Env.del r ks else (m, u) :: Env.del r ks := hide rfl
theorem del_n (ks : List Nat) : Env.del [] ks = [] := hide rfl
theorem keep_c (e : Env) (n : Nat) (ks : List Nat) : e.keep (n :: ks) = (n, e.get n) :: e.keep ks := hide rfl
theorem keep_n (e : Env) : e.keep [] = [] := hide rfl
theorem get_n (n : Nat) : Env.get [] n = .und := rfl
section
variable {Q : Env → St → Prop} {e : Env} {σ : St} {k : List It} {l : List AI} {kill : List Nat}
theorem wd_tt (d : Option Nat) (op : AO) : WD T pr (.bool true) true d op l kill k e σ Q = WX T pr (evalX op e σ) d l kill k e σ Q := hide rfl
theorem wd_ff (d : Option Nat) (op : AO) : WD T pr (.bool false) false d op l kill k e σ Q = WX T pr (evalX op e σ) d l kill k e σ Q := hide rfl
theorem wd_tf (d : Option Nat) (op : AO) : WD T pr (.bool true) false d op l kill k e σ Q = WR T pr l kill k (e.putO d .skp) σ Q := hide rfl
theorem wd_ft (d : Option Nat) (op : AO) : WD T pr (.bool false) true d op l kill k e σ Q = WR T pr l kill k (e.putO d .skp) σ Q := hide rfl
end
theorem o_dst (d : Nat) (op : AO) : (o d op).dst = some d := rfl
theorem on_dst (op : AO) : (on op).dst = none := rfl
theorem og_dst (d : Nat) (op : AO) (t : Nat) (w : Bool) : (og d op t w).dst = some d := rfl
theorem oh_dst (op : AO) (t : Nat) (w : Bool) : (oh op t w).dst = none := rfl
def lo2 (o : Option Ob) (g n : Nat) (one : Bool) (off : Nat) : Option V :=
  match o with
  | some (.row cs _ g' _) => if g = g' ∧ off + n ≤ cs.length then mkOne one ((cs.drop off).take n) else none
  | _ => none
theorem lo2_r (cs : List V) (e g' z g n : Nat) (one : Bool) (off : Nat) : lo2 (some (.row cs e g' z)) g n one off = if g = g' ∧ off + n ≤ cs.length then mkOne one ((cs.drop off).take n) else none := hide rfl
theorem load_p (σ : St) (n : Nat) (one : Bool) (i g off : Nat) : loadV σ n one (.ptr i g off) = lo2 σ[i]? g n one off := hide rfl
theorem load_i (σ : St) (n : Nat) (one : Bool) (row : List V) (off : Nat) : loadV σ n one (.imm row off) = if off + n ≤ row.length then mkOne one ((row.drop off).take n) else none := hide rfl
def sto2 (o : Option Ob) (σ : St) (n i g off : Nat) (v : V) : Option (V × St) :=
  match o with
  | some (.row cs e g' z) => if g = g' ∧ z ≤ off ∧ v.cells.length = n ∧ v.cells.all V.cellB = true then (putAt cs off v.cells).map fun cs' => (.und, σ.set i (.row cs' e g z)) else none
  | _ => none
theorem sto2_r (cs : List V) (e g' z : Nat) (σ : St) (n i g off : Nat) (v : V) : sto2 (some (.row cs e g' z)) σ n i g off v = if g = g' ∧ z ≤ off ∧ v.cells.length = n ∧ v.cells.all V.cellB = true then (putAt cs off v.cells).map fun cs' => (.und, σ.set i (.row cs' e g z)) else none := hide rfl
theorem sto_p (σ : St) (n i g off : Nat) (v : V) : stoV n (.ptr i g off) v σ = sto2 σ[i]? σ n i g off v := by
  simp only [stoV, storeV, sto2]
  cases σ[i]? with
  | none => rfl
  | some ob =>
    cases ob with
    | row cs e g' z =>
      simp only
      split
      · cases putAt cs off v.cells <;> rfl
      · rfl
    | _ => rfl
theorem len_n : lenV .nils = some (.int .i64 0) := rfl
theorem len_l (t : Nat) (xs : List (List V)) : lenV (.lst t xs) = some (.int .i64 (xs.length : Int)) := rfl
theorem len_s (i g off len m : Nat) (w : Bool) : lenV (.sl i g off len m w) = some (.int .i64 (len : Int)) := rfl
theorem iad_l (m t : Nat) (xs : List (List V)) (i : V) : iadV m (.lst t xs) i = (atI xs i).bind fun r => if r.length = m then some (.imm r 0) else none := hide rfl
theorem iad_s (m j g off len m' : Nat) (w : Bool) (k : IntKind) (n : Int) : iadV m (.sl j g off len m' w) (.int k n) = if 0 ≤ n ∧ n < len ∧ m = m' then some (.ptr j g (off + n.toNat * m)) else none := hide rfl
theorem fad_i (off : Nat) (r : List V) (o : Nat) : fadV off (.imm r o) = some (.imm r (o + off)) := hide rfl
theorem fad_p (off b g o : Nat) : fadV off (.ptr b g o) = some (.ptr b g (o + off)) := hide rfl
theorem fld_a (off n : Nat) (one : Bool) (cs : List V) : fldV off n one (.agg cs) = if off + n ≤ cs.length then mkOne one ((cs.drop off).take n) else none := hide rfl
theorem cells_i (k : IntKind) (n : Int) : V.cells (.int k n) = [.int k n] := rfl
theorem cells_s (l : List UInt8) : V.cells (.str l) = [.str l] := rfl
theorem cells_b (b : Bool) : V.cells (.bool b) = [.bool b] := rfl
theorem cells_n : V.cells .nils = [.nils] := rfl
theorem cells_l (t : Nat) (xs : List (List V)) : V.cells (.lst t xs) = [.lst t xs] := rfl
theorem cells_sl (i g o l m : Nat) (w : Bool) : V.cells (.sl i g o l m w) = [.sl i g o l m w] := rfl
theorem cells_p (i g o : Nat) : V.cells (.ptr i g o) = [.ptr i g o] := rfl
theorem cells_np : V.cells .nilp = [.nilp] := rfl
theorem cells_imm (r : List V) (o : Nat) : V.cells (.imm r o) = [.imm r o] := rfl
theorem cells_fn (f : Nat) (a c : List V) : V.cells (.fn f a c) = [.fn f a c] := rfl
theorem cells_mp (i : Nat) : V.cells (.mp i) = [.mp i] := rfl
theorem cells_a (cs : List V) : V.cells (.agg cs) = cs := rfl
theorem rows_n (σ : St) (m : Nat) : srcRows σ m .nils = some [] := hide rfl
theorem rows_l (σ : St) (m t : Nat) (xs : List (List V)) : srcRows σ m (.lst t xs) = some xs := hide rfl
theorem mk1 (c : V) : mkOne true [c] = some c := rfl
theorem mkA (cs : List V) : mkOne false cs = some (.agg cs) := rfl
theorem get_app (s l : St) (n : Nat) : (s ++ l)[s.length + n]? = l[n]? := by rw [List.getElem?_append_right (by omega)]; congr 1; omega
theorem get_app0 (s l : St) : (s ++ l)[s.length]? = l[0]? := by rw [List.getElem?_append_right (by omega)]; congr 1; omega
theorem set_app (s l : St) (n : Nat) (x : Ob) : (s ++ l).set (s.length + n) x = s ++ l.set n x := by simp [List.set_append]
theorem set_app0 (s l : St) (x : Ob) : (s ++ l).set s.length x = s ++ l.set 0 x := by simp [List.set_append]
theorem atI_nat {α : Type} (l : List α) (k : IntKind) (n : Nat) : atI l (.int k (n : Int)) = l[n]? := by
  simp only [atI]
  rw [if_pos (by omega), Int.toNat_natCast]
theorem wrap64 {n : Int} (h : -9223372036854775808 ≤ n ∧ n ≤ 9223372036854775807) : IntKind.i64.wrap n = n := Go.IntWalk.i64_in _ h
theorem wrap64s {n : Int} (h1 : -9223372036854775808 ≤ n) (h2 : n ≤ 9223372036854775807) : IntKind.i64.wrap n = n := wrap64 ⟨h1, h2⟩
theorem tq_1 (t : Nat) (v : V) (σ σ' σ1 : St) (e : Env) : TQ [.tmp t] σ v σ' e σ1 = TR (e.get t) σ v σ' σ1 := hide (propext ⟨fun ⟨h1, h2⟩ => ⟨Option.some.inj h1, h2⟩, fun ⟨h1, h2⟩ => ⟨congrArg some h1, h2⟩⟩)
theorem inc64 {i : Nat} (h : i < 9223372036854775807) : IntKind.i64.wrap ((i : Int) + 1) = ((i + 1 : Nat) : Int) := by rw [wrap64 (by omega)]; rfl
theorem lt_t {i n : Nat} (h : i < n) : decide ((i : Int) < (n : Int)) = true := by simpa using h
theorem lt_f {i n : Nat} (h : n ≤ i) : decide ((i : Int) < (n : Int)) = false := by simpa using h
theorem at_some {α : Type} {l : List α} {i : Nat} (h : i < l.length) : ∃ x, l[i]? = some x ∧ l.drop i = x :: l.drop (i + 1) ∧ x ∈ l := ⟨l[i], List.getElem?_eq_getElem h, List.drop_eq_getElem_cons h, List.getElem_mem h⟩
/-- a loop: a measure falls -/
theorem loop_w {keep : List Nat} {c : AC} {k : List It} {Q : Env → St → Prop} {α : Type} (μ : α → Nat) (E : α → Env) (Z : α → St) (I : α → Prop)
    (h : ∀ a, I a → (∀ b, μ b < μ a → I b → W T pr (.l keep c :: k) (E b) (Z b) Q) → W T pr (.l keep c :: k) (E a) (Z a) Q) : ∀ a, I a → W T pr (.l keep c :: k) (E a) (Z a) Q := by
  suffices ∀ n a, μ a = n → I a → W T pr (.l keep c :: k) (E a) (Z a) Q from fun a => this _ a rfl
  intro n
  induction n using Nat.strongRecOn with
  | _ n ih => exact fun a hm hI => h a hI fun b hb => ih (μ b) (hm ▸ hb) b rfl
theorem sc_a (cs : List V) : setC (.agg cs) = cs.all V.rowB := rfl
theorem sc_m (r : List V) (o : Nat) : setC (.imm r o) = true := rfl
theorem sc_i (k : IntKind) (n : Int) : setC (.int k n) = true := rfl
theorem sc_s (l : List UInt8) : setC (.str l) = true := rfl
theorem sc_b (b : Bool) : setC (.bool b) = true := rfl
theorem sc_n : setC .nils = true := rfl
theorem sc_f : setC .nili = true := rfl
theorem sc_l (t : Nat) (xs : List (List V)) : setC (.lst t xs) = true := rfl
/-! settled slices -/
def SL (z : Bool) (t : Nat) (xs : List (List V)) : V := if z = true ∧ xs = [] then .nils else .lst t xs
theorem sl_row (z : Bool) (t : Nat) (xs : List (List V)) : (SL z t xs).rowB = true := by unfold SL; split <;> rfl
theorem sl_cell (z : Bool) (t : Nat) (xs : List (List V)) : (SL z t xs).cellB = true := by unfold SL; split <;> rfl
theorem sl_set (z : Bool) (t : Nat) (xs : List (List V)) : setC (SL z t xs) = true := by unfold SL; split <;> rfl
theorem sl_cells (z : Bool) (t : Nat) (xs : List (List V)) : (SL z t xs).cells = [SL z t xs] := by unfold SL; split <;> rfl
theorem sl_len (z : Bool) (t : Nat) (xs : List (List V)) : lenV (SL z t xs) = some (.int .i64 (xs.length : Int)) := by
  unfold SL
  split
  · rename_i h; rw [h.2]; rfl
  · rfl
theorem sl_iad (z : Bool) (t : Nat) (xs : List (List V)) (m : Nat) (i : V) : iadV m (SL z t xs) i = (atI xs i).bind fun r => if r.length = m then some (.imm r 0) else none := by
  unfold SL
  split
  · rename_i h
    rw [h.2]
    cases i <;> simp [iadV, atI]
  · rfl
theorem sl_rows (z : Bool) (t : Nat) (xs : List (List V)) (σ : St) (m : Nat) : srcRows σ m (SL z t xs) = some xs := by
  unfold SL
  split
  · rename_i h; rw [h.2]; rfl
  · rfl
attribute [go_sem] Nat.reduceEqDiff reduceIte Nat.reduceAdd Nat.reduceMul Nat.reduceLeDiff Int.reduceLT Int.reduceLE Int.reduceToNat Int.reduceAdd Int.reduceNeg Int.reduceEq
attribute [go_sem ↓] w_seq w_skip w_blk w_end w_loop w_nil w_ret w_reg w_cond w_exit wj_b wj_c wj_l wr_nil wr_o wr_on wr_og wr_oh wg_nil wg_o wg_on wg_og wg_oh src_t src_k get_put get_cons putO_some putO_none fq_1 fq_2 fq_3 tq_1
attribute [go_sem ↓] atI_nat x_mov x_pick x_new x_box x_build x_rows x_rowf x_rowo x_mk x_load x_store x_chk x_bin x_eq x_un x_cvi x_cvs x_cvl x_stb x_bts x_slcs x_slc x_slca x_sap x_fad x_fld x_iad x_iar x_idx x_ida x_ext x_lens x_len x_app x_apps x_mx x_mn x_mkf x_mmk x_mlk x_mup x_call x_callv
attribute [go_sem] we wx_val wx_fail wd_skp wd_tt wd_ff wd_tf wd_ft wc_true wc_false r1_some r1_none r2_some r2_none wgx_o wgx_on wgx_og wgx_oh wgd_tt wgd_ff wgd_tf wgd_ft wgd_s whd_tt whd_ff whd_tf whd_ft whd_s wgk_pu wgk_rd wgk_ef kd fl_some
attribute [go_sem] get_n put_c put_n del_c del_n keep_c keep_n elem_c elem_n parEnv resOne
attribute [go_sem] binV binI binS unV pickV boxV mkV chkV eqqV eqV eqB eqSl eqPt eqFn eqIf cviV cvsV cvlV stbV btsV slcaV sapV slcS boundV iarV idxV idaV extV lensV mxV mnV mkfV mlkV mupV calV mk1 mkA putAt fills chop sc_a sc_m sc_i sc_s sc_b sc_n sc_f sc_l cB_int cB_str cB_bool cB_nils cB_nili cB_lst cB_ptr cB_sl cB_nilp cB_nilf cB_ifc cB_imm cB_fn cB_mp rB_int rB_str rB_bool rB_nils rB_nili rB_lst rB_ptr rB_sl rB_nilp rB_nilf rB_ifc rB_imm rB_fn rB_mp decide_true decide_false gt_iff_lt ge_iff_le ne_eq not_false_eq_true not_true_eq_false o_dst on_dst og_dst oh_dst lo2_r load_p load_i sto2_r sto_p len_n len_l len_s iad_l iad_s fad_i fad_p fld_a cells_i cells_s cells_b cells_n cells_l cells_sl cells_p cells_np cells_imm cells_fn cells_mp cells_a rows_n rows_l
attribute [go_sem] get_app get_app0 set_app set_app0 atI wrap64s sl_row sl_cell sl_set sl_cells sl_len sl_iad sl_rows
attribute [go_sem] Option.map_some Option.map_none Option.bind_some Option.bind_none List.map_cons List.map_nil List.all_cons List.all_nil Bool.and_true Bool.true_and Bool.and_self and_self and_true true_and eq_self List.length_cons List.length_nil List.length_append List.drop_zero List.drop_succ_cons List.take_zero List.take_succ_cons List.cons_append List.nil_append List.append_assoc List.append_nil List.getElem?_cons_zero List.getElem?_cons_succ List.set_cons_zero List.set_cons_succ List.replicate List.flatten_cons List.flatten_nil Nat.zero_add Nat.add_zero Nat.zero_mul Nat.one_mul Nat.mul_one Bool.false_eq_true Bool.true_eq_false Bool.not_true Bool.not_false Bool.bne_false Bool.bne_true if_true if_false ite_true ite_false Int.toNat_natCast Int.cast_ofNat_Int
end Go.Proofs.YtlehfgdhebapeaaDoor.KM
/- Walking by rewriting: objects that go over to pure functions, lists that grow. -/
namespace Go.Proofs.YtlehfgdhebapeaaDoor.KM
open Go
variable {T : Nat → Option AF} {pr : Nat → Option (List V → Option V)}
theorem cloL_sub (σ : St) : ∀ (d : Nat) (js : List Nat) (i : Nat), i ∈ js → i ∈ clo σ d js
  | 0, _, _, h => h
  | d + 1, js, i, h => by
    simp only [clo]
    split
    · exact h
    · exact cloL_sub σ d _ i (List.mem_append_left _ h)
/-- what a cell, an argument becomes when it goes over -/
def OC (σ : St) (v v' : V) : Prop := ∀ js : List Nat, (∀ i ∈ v.refs, i ∈ js) → ∀ d, settle σ js (d + 2) v = some v'
def OV (σ : St) (v v' : V) : Prop := ∀ js : List Nat, (∀ i ∈ v.refs, i ∈ js) → settle1 σ js v = some v'
inductive OVs (σ : St) : List V → List V → Prop
  | nil : OVs σ [] []
  | cons {v v' : V} {vs vs' : List V} : OV σ v v' → OVs σ vs vs' → OVs σ (v :: vs) (v' :: vs')
inductive OCs (σ : St) : List V → List V → Prop
  | nil : OCs σ [] []
  | cons {v v' : V} {vs vs' : List V} : OC σ v v' → OCs σ vs vs' → OCs σ (v :: vs) (v' :: vs')
theorem ovs_map {σ : St} {js : List Nat} : ∀ {vs vs' : List V}, OVs σ vs vs' → (∀ i ∈ refsL vs, i ∈ js) → vs.mapM (settle1 σ js) = some vs'
  | _, _, .nil, _ => rfl
  | _, _, .cons h hs, hj => by
    simp only [refsL, List.mem_append] at hj
    rw [List.mapM_cons, h js fun i hi => hj i (.inl hi), ovs_map hs fun i hi => hj i (.inr hi)]
    rfl
theorem ocs_map {σ : St} {js : List Nat} {d : Nat} : ∀ {vs vs' : List V}, OCs σ vs vs' → (∀ i ∈ refsL vs, i ∈ js) → vs.mapM (settle σ js (d + 2)) = some vs'
  | _, _, .nil, _ => rfl
  | _, _, .cons h hs, hj => by
    simp only [refsL, List.mem_append] at hj
    rw [List.mapM_cons, h js (fun i hi => hj i (.inl hi)) d, ocs_map hs fun i hi => hj i (.inr hi)]
    rfl
theorem over_ov {σ : St} {vs vs' : List V} (h : OVs σ vs vs') : over σ vs = some vs' := ovs_map h fun i hi => cloL_sub σ 9 _ i (List.mem_eraseDups.2 hi)
theorem oc_row {σ : St} {v : V} (h : v.rowB = true) : OC σ v v := fun _ _ _ => settle_row h
theorem ov_set {σ : St} {v : V} (h : setC v = true) : OV σ v v := fun _ _ => settle1_set h
theorem ov_agg {σ : St} {cs cs' : List V} (h : OCs σ cs cs') : OV σ (.agg cs) (.agg cs') := fun js hj => by
  simp only [settle1]
  rw [ocs_map (d := 7) h hj]
  rfl
theorem ov_cell {σ : St} {v v' : V} (h : OC σ v v') (hc : v.cellB = true) : OV σ v v' := fun js hj => by
  unfold settle1
  split
  · have := h js hj 0
    simp [settle, V.rowB] at this
  · simp [V.cellB] at hc
  · exact h js hj 7
theorem chopL_app (m : Nat) : ∀ (xs : List (List V)) (tl : List V), (∀ r ∈ xs, r.length = m) → chop m xs.length (xs.flatten ++ tl) = xs
  | [], _, _ => rfl
  | r :: xs, tl, h => by
    have hr := h r List.mem_cons_self
    simp only [List.length_cons, chop, List.flatten_cons, List.append_assoc]
    rw [← hr, List.take_left, List.drop_left]
    congr 1
    rw [hr]
    exact chopL_app m xs tl fun r hr => h r (List.mem_cons_of_mem _ hr)
theorem chopL_flat {m : Nat} {xs : List (List V)} (h : ∀ r ∈ xs, r.length = m) : chop m xs.length xs.flatten = xs := by
  have := chopL_app m xs [] h
  rwa [List.append_nil] at this
theorem flatL_len {m : Nat} : ∀ {xs : List (List V)}, (∀ r ∈ xs, r.length = m) → xs.flatten.length = xs.length * m
  | [], _ => by simp
  | r :: xs, h => by
    rw [List.flatten_cons, List.length_append, h r List.mem_cons_self, flatL_len fun r hr => h r (List.mem_cons_of_mem _ hr), List.length_cons, Nat.succ_mul, Nat.add_comm]
/-- a slice of an object whose cells are settled -/
theorem oc_sl {σ : St} {i g m e z : Nat} {w : Bool} {xs : List (List V)} (ho : σ[i]? = some (.row xs.flatten e g z)) (hm : 0 < m) (hl : ∀ r ∈ xs, r.length = m) (hr : ∀ r ∈ xs, r.all V.rowB = true) : OC σ (.sl i g 0 xs.length m w) (.lst 0 xs) := by
  intro js hj d
  have hi : js.elem i = true := by
    have := hj i (by simp [V.refs])
    simpa using this
  have hf := flatL_len hl
  unfold settle
  rw [if_neg (by simp [V.rowB])]
  simp only [hi, if_true, ho]
  rw [if_pos ⟨trivial, hm, by omega⟩, List.drop_zero, ← hf, List.take_length, mapM_id fun c hc => ?_]
  · simp only [Option.map_some, chopL_flat hl]
  · obtain ⟨r, hrx, hcr⟩ := List.mem_flatten.1 hc
    exact settle_row (List.all_eq_true.1 (hr r hrx) c hcr)
section
variable {Q : Env → St → Prop} {e : Env} {σ : St} {k : List It} {l : List AI} {kill : List Nat} {f : Nat} {args vs : List V} {v : V} {d : Option Nat}
/-- a pure function, its arguments naming objects, its result flat -/
theorem wx_fo (hx : OVs σ args vs) (hf : Fn T pr f vs v) (hfl : v.flatV = true) (h : WR T pr l kill k (e.putO d v) σ Q) : WX T pr (.call f args) d l kill k e σ Q :=
  wx_call (.pure (over_ov hx) hf) (by unfold after; rw [if_pos hfl]; exact h)
variable {deps : List (List Nat)} {n m : Nat} {fs : Fs} {ls : Ls} {K : Env → St → Fs → Ls → Prop} {i : AI}
theorem wgx_fo (hx : OVs σ args vs) (hf : Fn T pr f vs v) (hfl : v.flatV = true) (h : K (e.putO i.dst v) σ [] ((m, fun s => over s args = some vs) :: ls)) : wgx T pr deps n m i (.call f args) e σ [] ls K :=
  .inr (.inl ⟨v, vs, over_ov hx, .inr hf, hfl, trivial, h⟩)
end
/-! code that ends where it ends: the rest is apart -/
def AC.flat : AC → Bool
  | .skip | .reg _ _ | .drw _ _ _ => true
  | .seq a b => a.flat && b.flat
  | .cond _ _ x y => x.flat && y.flat
  | _ => false
/-- what holds is not looked at -/
def Hd (P : Env → St → Prop) (e : Env) (σ : St) : Prop := P e σ
@[congr] theorem Hd_congr {P : Env → St → Prop} {e e' : Env} {σ : St} (h : e = e') : Hd P e σ = Hd P e' σ := by rw [h]
/-! lists that grow: nil, or a slice of an object of their own that they fill -/
def GV (σ : St) (m e lo : Nat) (u : V) (xs : List (List V)) : Prop := (u = .nils ∧ xs = []) ∨ ∃ i g, u = .sl i g 0 xs.length m true ∧ σ[i]? = some (.row xs.flatten e g 0) ∧ lo ≤ i
theorem gv_cell {σ : St} {m e lo : Nat} {u : V} {xs : List (List V)} (h : GV σ m e lo u xs) : u.cellB = true := by
  rcases h with ⟨rfl, rfl⟩ | ⟨i, g, rfl, ho, hlo⟩ <;> rfl
/-- append to a list that grows: its own object turns, or a new one comes; all others stay -/
theorem gv_app {σ : St} {m e lo bytes : Nat} {u y : V} {xs ys : List (List V)} (h : GV σ m e lo u xs) (hlo0 : lo ≤ σ.length) (hy : srcRows σ m y = some ys) (hm : 0 < m) (hl : ∀ r ∈ xs, r.length = m) (hly : ∀ r ∈ ys, r.length = m) (hb : (xs.length + ys.length) * bytes ≤ 140737488355328) :
    ∃ u' σ', appV bytes (m, e) u y σ = some (u', σ') ∧ GV σ' m e lo u' (xs ++ ys) ∧ σ.length ≤ σ'.length ∧ (∀ j, (∀ i g, u = .sl i g 0 xs.length m true → j ≠ i) → j < σ.length → σ'[j]? = σ[j]?) ∧ ∀ j, j < lo → σ'[j]? = σ[j]? := by
  have hall : (ys.all fun r => r.length == m) = true := by
    rw [List.all_eq_true]
    intro r hr
    simp [hly r hr]
  unfold appV
  simp only [hy, Option.bind_some]
  unfold appR
  rw [if_pos ⟨hall, hm⟩]
  rcases h with ⟨rfl, rfl⟩ | ⟨i, g, rfl, ho, hlo⟩
  · simp only
    rw [if_pos (by simpa using hb)]
    cases ys with
    | nil => exact ⟨.nils, σ, rfl, .inl ⟨rfl, rfl⟩, Nat.le_refl _, fun _ _ _ => rfl, fun _ _ => rfl⟩
    | cons y ys => exact ⟨_, _, rfl, .inr ⟨σ.length, 0, rfl, by simp, hlo0⟩, by simp, fun j _ hj => List.getElem?_append_left hj, fun j hj => List.getElem?_append_left (by omega)⟩
  · simp only
    rw [if_pos ⟨hb, trivial⟩]
    simp only [ho, if_true]
    cases ys with
    | nil => exact ⟨_, σ, rfl, .inr ⟨i, g, by simp, by simpa using ho, hlo⟩, Nat.le_refl _, fun _ _ _ => rfl, fun _ _ => rfl⟩
    | cons y ys =>
      have hf := flatL_len hl
      have hfy := flatL_len hly
      have hfy2 : (y :: ys).flatten.length = (ys.length + 1) * m := by rw [hfy]; rfl
      rw [if_neg (by simp), if_pos (by simp), if_neg (by
        rw [hf]
        have : (xs.length + (y :: ys).length) * m = xs.length * m + (ys.length + 1) * m := by rw [List.length_cons, Nat.add_mul]
        rw [this]
        have : 0 < (ys.length + 1) * m := Nat.mul_pos (by omega) hm
        omega), if_pos hf]
      refine ⟨_, _, rfl, .inr ⟨i, g + 1, by rw [List.length_append], ?_, hlo⟩, by simp, fun j hj _ => ?_, fun j hj => by rw [List.getElem?_set_ne (by omega)]⟩
      · have hi : i < σ.length := by
          rcases Nat.lt_or_ge i σ.length with h | h
          · exact h
          · rw [List.getElem?_eq_none h] at ho; cases ho
        rw [List.getElem?_set_self hi, List.flatten_append]
      · have := hj i g rfl
        rw [List.getElem?_set_ne (by omega)]
theorem cells1 {v : V} (h : v.cellB = true) : v.cells = [v] := by cases v <;> simp [V.cellB] at h <;> rfl
theorem get_app_some {s l : St} {j : Nat} {x : Ob} (h : s[j]? = some x) : (s ++ l)[j]? = some x := by
  have hi : j < s.length := by
    rcases Nat.lt_or_ge j s.length with h1 | h1
    · exact h1
    · rw [List.getElem?_eq_none h1] at h; cases h
  rw [List.getElem?_append_left hi, h]
end Go.Proofs.YtlehfgdhebapeaaDoor.KM
/- Walking by rewriting: results that lie in an object; cuts of settled slices. -/
namespace Go.Proofs.YtlehfgdhebapeaaDoor.KM
open Go
theorem rows_all {xs : List (List V)} (hr : ∀ r ∈ xs, r.all V.rowB = true) : xs.flatten.all V.rowB = true := by
  rw [List.all_eq_true]
  intro c hc
  obtain ⟨r, hrx, hcr⟩ := List.mem_flatten.1 hc
  exact List.all_eq_true.1 (hr r hrx) c hcr
theorem refs_app : ∀ a b : List V, refsL (a ++ b) = refsL a ++ refsL b
  | [], _ => rfl
  | c :: a, b => by simp only [List.cons_append, refsL, refs_app a b, List.append_assoc]
theorem cb_row {cs : List V} (h : cs.all V.rowB = true) : cs.all V.cellB = true := by
  rw [List.all_eq_true] at h ⊢
  intro c hc
  have := h c hc
  cases c <;> simp [V.rowB] at this <;> rfl
/-- lists that grow, nil as long as they are empty -/
def GW (σ : St) (m e lo : Nat) (u : V) (xs : List (List V)) : Prop := (u = .nils ∧ xs = []) ∨ (xs ≠ [] ∧ ∃ i g, u = .sl i g 0 xs.length m true ∧ σ[i]? = some (.row xs.flatten e g 0) ∧ lo ≤ i)
theorem gw_nil {σ : St} {m e lo : Nat} : GW σ m e lo .nils [] := .inl ⟨rfl, rfl⟩
theorem gw_gv {σ : St} {m e lo : Nat} {u : V} {xs : List (List V)} (h : GW σ m e lo u xs) : GV σ m e lo u xs := h.imp id fun h => h.2
theorem gw_cell {σ : St} {m e lo : Nat} {u : V} {xs : List (List V)} (h : GW σ m e lo u xs) : u.cellB = true := gv_cell (gw_gv h)
theorem gw_app {σ : St} {m e lo bytes : Nat} {u y : V} {xs ys : List (List V)} (h : GW σ m e lo u xs) (hlo0 : lo ≤ σ.length) (hy : srcRows σ m y = some ys) (hm : 0 < m) (hl : ∀ r ∈ xs, r.length = m) (hly : ∀ r ∈ ys, r.length = m) (hb : (xs.length + ys.length) * bytes ≤ 140737488355328) :
    ∃ u' σ', appV bytes (m, e) u y σ = some (u', σ') ∧ GW σ' m e lo u' (xs ++ ys) ∧ σ.length ≤ σ'.length ∧ (∀ j, (∀ i g, u = .sl i g 0 xs.length m true → j ≠ i) → j < σ.length → σ'[j]? = σ[j]?) ∧ ∀ j, j < lo → σ'[j]? = σ[j]? := by
  obtain ⟨u', σ', h1, h2, h3, h4, h5⟩ := gv_app (gw_gv h) hlo0 hy hm hl hly hb
  refine ⟨u', σ', h1, ?_, h3, h4, h5⟩
  by_cases he : xs ++ ys = []
  · rw [List.append_eq_nil_iff] at he
    obtain ⟨rfl, rfl⟩ := he
    rcases h with ⟨rfl, _⟩ | ⟨hn, _⟩
    · have : appV bytes (m, e) .nils y σ = some (.nils, σ) := by simp [appV, hy, appR, hm]
      rw [this] at h1
      cases h1
      exact gw_nil
    · exact absurd rfl hn
  · exact h2.imp id fun h => ⟨he, h⟩
theorem gw_push {σ l : St} {m e lo : Nat} {u : V} {xs : List (List V)} (h : GW σ m e lo u xs) : GW (σ ++ l) m e lo u xs := by
  rcases h with h | ⟨hn, i, g, h, ho, hlo⟩
  · exact .inl h
  · exact .inr ⟨hn, i, g, h, get_app_some ho, hlo⟩
theorem gw_set {σ : St} {j : Nat} {x : Ob} {m e lo : Nat} {u : V} {xs : List (List V)} (h : GW σ m e lo u xs) (hj : j < lo) : GW (σ.set j x) m e lo u xs := by
  rcases h with h | ⟨hn, i, g, h, ho, hlo⟩
  · exact .inl h
  · exact .inr ⟨hn, i, g, h, by rw [List.getElem?_set_ne (by omega)]; exact ho, hlo⟩
theorem sl_ne {t : Nat} {xs : List (List V)} (h : xs ≠ []) : SL true t xs = .lst t xs := by simp [SL, h]
theorem gw_oc {σ : St} {m e lo : Nat} {u : V} {xs : List (List V)} (h : GW σ m e lo u xs) (hm : 0 < m) (hl : ∀ r ∈ xs, r.length = m) (hr : ∀ r ∈ xs, r.all V.rowB = true) : OC σ u (SL true 0 xs) := by
  rcases h with ⟨rfl, rfl⟩ | ⟨hn, i, g, rfl, ho, hlo⟩
  · exact oc_row rfl
  · rw [sl_ne hn]; exact oc_sl ho hm hl hr
/-! what a call leaves of the state, where an argument names a list's object -/
section
variable {T : Nat → Option AF} {pr : Nat → Option (List V → Option V)} {Q : Env → St → Prop} {e : Env} {σ : St} {k : List It} {l : List AI} {kill : List Nat} {f : Nat} {args vs : List V} {v : V} {d : Option Nat}
end
/-- a literal of settled cells freezes nothing -/
theorem rf_set {σ : St} {cs : List V} {m n : Nat} (h : cs.all V.rowB = true) : rowfV m n σ cs = some (.lst 1 (chop m n cs), σ) := by
  unfold rowfV
  rw [mapM_id fun c hc => settle_row (List.all_eq_true.1 h c hc), refsL_row h]
  rfl
attribute [go_sem] rf_set
/-- cuts of settled slices -/
theorem sl_cut_hi (z : Bool) (t m : Nat) (xs : List (List V)) (k : IntKind) (b : Nat) (hb : b ≤ xs.length) : ∃ z' t', slcV m (SL z t xs) none (some (.int k (b : Int))) none = some (SL z' t' (xs.take b)) := by
  unfold SL
  split
  · rename_i h
    obtain ⟨rfl, rfl⟩ := h
    have : b = 0 := by simpa using hb
    subst this
    exact ⟨true, 0, by simp [slcV, boundV]⟩
  · refine ⟨false, (if b = xs.length ∧ t = 1 then 1 else 0), ?_⟩
    simp [slcV, boundV, hb]
end Go.Proofs.YtlehfgdhebapeaaDoor.KM
/- Walking by rewriting: threaded functions that keep all that they have made. -/
namespace Go.Proofs.YtlehfgdhebapeaaDoor.KM
open Go
/-- every object that is named is there -/
def Cl (s : St) : Prop := ∀ ob ∈ s, ∀ i ∈ ob.refs, i < s.length
theorem cl_push {s : St} {ob : Ob} (h : Cl s) (ho : ∀ i ∈ ob.refs, i < s.length + 1) : Cl (s ++ [ob]) := by
  intro o hm i hi
  rw [List.length_append]
  rcases List.mem_append.1 hm with hm | hm
  · have := h o hm i hi; simp; omega
  · simp at hm; subst hm; simpa using ho i hi
theorem cl_set {s : St} {j : Nat} {ob : Ob} (h : Cl s) (ho : ∀ i ∈ ob.refs, i < s.length) : Cl (s.set j ob) := by
  intro o hm i hi
  rw [List.length_set]
  rcases List.mem_or_eq_of_mem_set hm with hm | hm
  · exact h o hm i hi
  · subst hm; exact ho i hi
mutual
theorem ren_same (ρ : Nat → Nat) : ∀ v : V, (∀ i ∈ v.refs, ρ i = i) → v.ren ρ = v
  | .ptr i g o, h => by simp only [V.ren]; rw [h i (by simp [V.refs])]
  | .sl i g o l m w, h => by simp only [V.ren]; rw [h i (by simp [V.refs])]
  | .mp i, h => by simp only [V.ren]; rw [h i (by simp [V.refs])]
  | .fn f a c, h => by
    simp only [V.ren]
    rw [renL_same ρ a fun i hi => h i (by simp only [V.refs, List.mem_append]; exact .inl hi), renL_same ρ c fun i hi => h i (by simp only [V.refs, List.mem_append]; exact .inr hi)]
  | .agg cs, h => by simp only [V.ren]; rw [renL_same ρ cs fun i hi => h i (by simpa only [V.refs] using hi)]
  | .tup cs, h => by simp only [V.ren]; rw [renL_same ρ cs fun i hi => h i (by simpa only [V.refs] using hi)]
  | .und, _ => rfl
  | .skp, _ => rfl
  | .bool _, _ => rfl
  | .int _ _, _ => rfl
  | .str _, _ => rfl
  | .nili, _ => rfl
  | .ifc, _ => rfl
  | .nils, _ => rfl
  | .nilp, _ => rfl
  | .nilf, _ => rfl
  | .lst _ _, _ => rfl
  | .imm _ _, _ => rfl
theorem renL_same (ρ : Nat → Nat) : ∀ vs : List V, (∀ i ∈ refsL vs, ρ i = i) → renL ρ vs = vs
  | [], _ => rfl
  | v :: r, h => by
    simp only [renL]
    rw [ren_same ρ v fun i hi => h i (by simp only [refsL, List.mem_append]; exact .inl hi), renL_same ρ r fun i hi => h i (by simp only [refsL, List.mem_append]; exact .inr hi)]
end
theorem ob_ren_same (ρ : Nat → Nat) (ob : Ob) (h : ∀ i ∈ ob.refs, ρ i = i) : ob.ren ρ = ob := by
  cases ob with
  | row cs e g z => simp only [Ob.ren]; rw [renL_same ρ cs h]
  | map kvs =>
    simp only [Ob.ren]
    congr 1
    have : ∀ l : List (List UInt8 × V), (∀ i ∈ refsL (l.map (·.2)), ρ i = i) → l.map (fun p => (p.1, p.2.ren ρ)) = l := by
      intro l
      induction l with
      | nil => intro _; rfl
      | cons p l ih =>
        intro h
        simp only [List.map_cons, refsL, List.mem_append] at h ⊢
        rw [ih fun i hi => h i (.inr hi), ren_same ρ p.2 fun i hi => h i (.inl hi)]
    exact this kvs h
  | dead => rfl
theorem ren_range {n k i : Nat} (h : i < n + k) : ren n (List.range' n k) i = i := by
  unfold ren
  split
  · rfl
  · have h1 : List.findIdx (· == i) (List.range' n k) = i - n := by
      rw [List.findIdx_eq (by simp; omega)]
      simp
      constructor
      · omega
      · intro j hj
        omega
    rw [h1]
    omega
theorem gw_app_cl {σ σ' : St} {m e lo bytes : Nat} {u u' y : V} {xs ys : List (List V)} (h : GW σ m e lo u xs) (hy : srcRows σ m y = some ys) (ha : appV bytes (m, e) u y σ = some (u', σ')) (hx : refsL xs.flatten = []) (hz : refsL ys.flatten = []) (hc : Cl σ) : Cl σ' := by
  unfold appV at ha
  simp only [hy, Option.bind_some] at ha
  unfold appR at ha
  split at ha
  · rcases h with ⟨rfl, rfl⟩ | ⟨hn, i, g, rfl, ho, hlo⟩
    · simp only at ha
      split at ha
      · split at ha
        · cases ha; exact hc
        · cases ha; exact cl_push hc (by simp [Ob.refs, hz])
      · cases ha
    · simp only at ha
      split at ha
      · simp only [ho, if_true] at ha
        split at ha
        · cases ha; exact hc
        · split at ha
          · split at ha
            · cases ha
              refine cl_set hc fun j hj => ?_
              simp only [Ob.refs, refs_app, hz, List.append_nil, List.mem_append] at hj
              have sub : ∀ (a : List V) (k : Nat), refsL a = [] → refsL (a.take k) = [] ∧ refsL (a.drop k) = [] := by
                intro a k h0
                have := refs_app (a.take k) (a.drop k)
                rw [List.take_append_drop, h0] at this
                exact List.append_eq_nil_iff.1 this.symm
              rw [(sub _ _ hx).1, (sub _ _ hx).2] at hj
              simp at hj
            · split at ha
              · cases ha
                exact cl_set hc (by simp [Ob.refs, refs_app, hx, hz])
              · cases ha
          · cases ha
      · cases ha
  · cases ha
theorem gw_refs {σ : St} {m e lo : Nat} {u : V} {xs : List (List V)} (h : GW σ m e lo u xs) : ∀ i ∈ u.refs, i < σ.length := by
  rcases h with ⟨rfl, rfl⟩ | ⟨hn, i, g, rfl, ho, hlo⟩
  · intro i hi; simp [V.refs] at hi
  · intro j hj
    simp [V.refs] at hj
    subst hj
    exact (List.getElem?_eq_some_iff.1 ho).1
/-- all objects are kept -/
theorem all_kept {σ1 : St} {v : V} {n : Nat} (hr : v.refs = []) (ho : okRes v = true) (hn : n ≤ σ1.length) (hc : Cl σ1) : leaveSome n (List.range' n (σ1.length - n)) v σ1 = true ∧ v = v.ren (ren n (List.range' n (σ1.length - n))) ∧ σ1 = (σ1.take n ++ (List.range' n (σ1.length - n)).filterMap (σ1[·]?)).map (Ob.ren (ren n (List.range' n (σ1.length - n)))) := by
  refine ⟨?_, ?_, ?_⟩
  · have hw : ∀ is : List Nat, (∀ i ∈ is, i < σ1.length) → within n (List.range' n (σ1.length - n)) is = true := by
      intro is his
      unfold within
      rw [List.all_eq_true]
      intro i hi
      have := his i hi
      simp
      omega
    unfold leaveSome
    simp only [Bool.and_eq_true]
    refine ⟨ho, hw _ (by rw [hr]; simp), ?_, ?_, ?_⟩
    · rw [List.all_eq_true]
      intro o hm
      refine hw _ fun i hi => ?_
      rcases List.mem_append.1 hm with hm | hm
      · exact hc o (List.mem_of_mem_take hm) i hi
      · obtain ⟨j, _, hj⟩ := List.mem_filterMap.1 hm
        exact hc o (List.mem_of_getElem? hj) i hi
    · simp [List.nodup_range']
    · rw [List.all_eq_true]
      intro i hi
      simp at hi ⊢
      omega
  · exact (ren_same _ v (by rw [hr]; simp)).symm
  · have he : σ1.take n ++ (List.range' n (σ1.length - n)).filterMap (σ1[·]?) = σ1 := by
      have : (List.range' n (σ1.length - n)).filterMap (σ1[·]?) = σ1.drop n := by
        apply List.ext_getElem?
        intro i
        have hfm : ∀ (k n : Nat), n + k ≤ σ1.length → (List.range' n k).filterMap (σ1[·]?) = (σ1.drop n).take k := by
          intro k
          induction k with
          | zero => intro n _; simp
          | succ k ih =>
            intro n hk
            rw [List.range'_succ, List.filterMap_cons, List.getElem?_eq_getElem (by omega)]
            simp only
            rw [ih (n + 1) (by omega), List.drop_eq_getElem_cons (show n < σ1.length by omega), List.take_succ_cons]
        rw [hfm _ _ (by omega), List.take_of_length_le (by simp)]
      rw [this, List.take_append_drop]
    rw [he]
    have : ∀ l : List Ob, (∀ o ∈ l, o ∈ σ1) → l.map (Ob.ren (ren n (List.range' n (σ1.length - n)))) = l := by
      intro l
      induction l with
      | nil => intro _; rfl
      | cons o l ih =>
        intro hm
        rw [List.map_cons, ih fun o ho => hm o (List.mem_cons_of_mem _ ho), ob_ren_same _ o fun i hi => ren_range (by have := hc o (hm o List.mem_cons_self) i hi; omega)]
    exact (this σ1 fun _ h => h).symm
theorem Th_all {T : Nat → Option AF} {pr : Nat → Option (List V → Option V)} {f p : Nat} {res : List AR} {body : AC} {vs : List V} {v : V} {σ σ' : St} (hT : T f = some ⟨p, res, true, body, none⟩) (hl : vs.length = p)
    (h : W T pr [.c body] (parEnv 0 vs) σ (Hd fun e' σ1 => resV e' σ1 res = some v ∧ σ1 = σ')) (hr : v.refs = []) (ho : okRes v = true) (hn : σ.length ≤ σ'.length) (hc : Cl σ') : Th T pr f vs σ v σ' := by
  obtain ⟨e', σ1, hE, hres, rfl⟩ := h
  obtain ⟨k1, k2, k3⟩ := all_kept hr ho hn hc
  exact ThL_intro hT rfl rfl hl ⟨e', σ1, hE, v, _, hres, k1, k2, k3⟩
/-- all objects are kept, the result is settled -/
theorem ThZ_all {T : Nat → Option AF} {pr : Nat → Option (List V → Option V)} {f p : Nat} {res : List AR} {body : AC} {vs : List V} {v : V} {σ σ' : St} (hT : T f = some ⟨p, res, true, body, none⟩) (hl : vs.length = p)
    (h : W T pr [.c body] (parEnv 0 vs) σ (Hd fun e' σ1 => ∃ v0 js, resV e' σ1 res = some v0 ∧ okRes v0 = true ∧ settleV σ1 js v0 = some v ∧ σ' = σ1.freeze js)) (hr : v.refs = []) (ho : okRes v = true) (hn : σ.length ≤ σ'.length) (hc : Cl σ') : Th T pr f vs σ v σ' := by
  obtain ⟨e', σ1, hE, v0, js, hres, h0, h1, rfl⟩ := h
  obtain ⟨k1, k2, k3⟩ := all_kept hr ho hn hc
  exact ThZ_intro hT rfl rfl hl ⟨e', σ1, hE, v0, v, js, _, hres, h0, h1, k1, k2, k3⟩
theorem ThPL_intro {T : Nat → Option AF} {pr : Nat → Option (List V → Option V)} {σ : St} {f : Nat} {vs : List V} {v : V} {F : AF} {σ' : St} (hT : T f = some F) (hsp : F.spec = none) (hl : vs.length = F.pars) (h : W T pr [.c F.body] (parEnv 0 vs) σ fun e' σ1 => ∃ v0 js, resV e' σ1 F.res = some v0 ∧ leaveSome σ.length js v0 σ1 = true ∧ v = v0.ren (ren σ.length js) ∧ σ' = (σ1.take σ.length ++ js.filterMap (σ1[·]?)).map (Ob.ren (ren σ.length js))) : ThP T pr f vs σ v σ' := by
  obtain ⟨e', σ1, hE, v0, js, hr, hl2, rfl, rfl⟩ := h
  exact ⟨F, hT, hsp, .fnL hT hsp hl hE hr hl2⟩
/-- all objects are kept; the result may name them -/
theorem ThP_all {T : Nat → Option AF} {pr : Nat → Option (List V → Option V)} {f p : Nat} {res : List AR} {thr : Bool} {body : AC} {vs : List V} {v : V} {σ σ' : St} (hT : T f = some ⟨p, res, thr, body, none⟩) (hl : vs.length = p)
    (h : W T pr [.c body] (parEnv 0 vs) σ (Hd fun e' σ1 => resV e' σ1 res = some v ∧ σ1 = σ')) (hr : ∀ i ∈ v.refs, i < σ'.length) (ho : okRes v = true) (hn : σ.length ≤ σ'.length) (hc : Cl σ') : ThP T pr f vs σ v σ' := by
  obtain ⟨e', σ1, hE, hres, rfl⟩ := h
  refine ThPL_intro hT rfl hl ⟨e', σ1, hE, v, List.range' σ.length (σ1.length - σ.length), hres, ?_, ?_, ?_⟩
  · have hw : ∀ is : List Nat, (∀ i ∈ is, i < σ1.length) → within σ.length (List.range' σ.length (σ1.length - σ.length)) is = true := by
      intro is his
      unfold within
      rw [List.all_eq_true]
      intro i hi
      have := his i hi
      simp
      omega
    unfold leaveSome
    simp only [Bool.and_eq_true]
    refine ⟨ho, hw _ hr, ?_, ?_, ?_⟩
    · rw [List.all_eq_true]
      intro o hm
      refine hw _ fun i hi => ?_
      rcases List.mem_append.1 hm with hm | hm
      · exact hc o (List.mem_of_mem_take hm) i hi
      · obtain ⟨j, _, hj⟩ := List.mem_filterMap.1 hm
        exact hc o (List.mem_of_getElem? hj) i hi
    · simp [List.nodup_range']
    · rw [List.all_eq_true]
      intro i hi
      simp at hi ⊢
      omega
  · exact (ren_same _ v fun i hi => ren_range (by have := hr i hi; omega)).symm
  · have he : σ1.take σ.length ++ (List.range' σ.length (σ1.length - σ.length)).filterMap (σ1[·]?) = σ1 := by
      have : (List.range' σ.length (σ1.length - σ.length)).filterMap (σ1[·]?) = σ1.drop σ.length := by
        apply List.ext_getElem?
        intro i
        have hfm : ∀ (k n : Nat), n + k ≤ σ1.length → (List.range' n k).filterMap (σ1[·]?) = (σ1.drop n).take k := by
          intro k
          induction k with
          | zero => intro n _; simp
          | succ k ih =>
            intro n hk
            rw [List.range'_succ, List.filterMap_cons, List.getElem?_eq_getElem (by omega)]
            simp only
            rw [ih (n + 1) (by omega), List.drop_eq_getElem_cons (show n < σ1.length by omega), List.take_succ_cons]
        rw [hfm _ _ (by omega), List.take_of_length_le (by simp)]
      rw [this, List.take_append_drop]
    rw [he]
    have : ∀ l : List Ob, (∀ o ∈ l, o ∈ σ1) → l.map (Ob.ren (ren σ.length (List.range' σ.length (σ1.length - σ.length)))) = l := by
      intro l
      induction l with
      | nil => intro _; rfl
      | cons o l ih =>
        intro hm
        rw [List.map_cons, ih fun o ho => hm o (List.mem_cons_of_mem _ ho), ob_ren_same _ o fun i hi => ren_range (by have := hc o (hm o List.mem_cons_self) i hi; omega)]
    exact (this σ1 fun _ h => h).symm
end Go.Proofs.YtlehfgdhebapeaaDoor.KM
