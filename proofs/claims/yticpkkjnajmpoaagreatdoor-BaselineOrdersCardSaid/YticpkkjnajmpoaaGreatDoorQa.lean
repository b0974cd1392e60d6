/- Walking by rewriting: what comes of code, as equations. -/
import Derived.Test.YticpkkjnajmpoaaGreatDoorOe
import Derived.Test.YticpkkjnajmpoaaGreatDoorOd
set_option linter.all false
namespace Go.Proofs.YticpkkjnajmpoaaGreatDoor.KM
open Go
variable {T : Nat → Option AF} {pr : Nat → Option (List V → Option V)}

/-- the proof is not looked at -/
theorem hide {α : Sort _} {a b : α} (h : a = b) : a = b := h
/-! slots -/
theorem get_put : ∀ (e : Env) (n m : Nat) (v : V), (Env.put e n v).get m = if n = m then v else Env.get e m
  | [], n, m, v => by simp only [Env.put, Env.get]
  | (i, u) :: r, n, m, v => by
    simp only [Env.put]
    split
    · rename_i h
      subst h
      simp only [Env.get]
      split <;> rfl
    · rename_i h
      simp only [Env.get, get_put r n m v]
      split
      · rename_i h2
        subst h2
        rw [if_neg (by omega)]
      · rfl
theorem putO_some (e : Env) (n : Nat) (v : V) : e.putO (some n) v = e.put n v := hide rfl
theorem putO_none (e : Env) (v : V) : e.putO none v = e := hide rfl
theorem src_t (e : Env) (n : Nat) : src e (.t n) = e.get n := rfl
theorem src_k (e : Env) (v : V) : src e (.k v) = v := rfl
theorem get_cons (e : Env) (n m : Nat) (v : V) : Env.get ((n, v) :: e) m = if n = m then v else Env.get e m := hide rfl

/-! what an operation gives -/
inductive Rs where
  | val (v : V) (σ : St)
  | call (f : Nat) (args : List V)
  | fail
def r1 (o : Option V) (σ : St) : Rs :=
  match o with
  | some v => .val v σ
  | none => .fail
def r2 (o : Option (V × St)) : Rs :=
  match o with
  | some (v, σ) => .val v σ
  | none => .fail
theorem r1_some (v : V) (σ : St) : r1 (some v) σ = .val v σ := hide rfl
theorem r1_none (σ : St) : r1 none σ = .fail := hide rfl
theorem r2_some (v : V) (σ : St) : r2 (some (v, σ)) = .val v σ := hide rfl
theorem r2_none : r2 none = .fail := hide rfl
theorem r2_map (o : Option V) (σ : St) : r2 (o.map fun v => (v, σ)) = r1 o σ := by cases o <;> rfl
def evalX (op : AO) (e : Env) (σ : St) : Rs :=
  match calleeOf e op with
  | some (f, args) => .call f args
  | none => r2 (evalOp op e σ)
def pickV (c a b : V) : Option V :=
  match c with
  | .bool z => some (if z = true then a else b)
  | _ => none
def boxV (t : Nat) (x : V) (σ : St) : Option (V × St) := if x.cells.all V.cellB = true then some (.ptr σ.length 0 0, σ ++ [.row x.cells t 0 0]) else none
def mkV (t bytes : Nat) (z : List V) (x y : V) (σ : St) : Option (V × St) :=
  match x, y with
  | .int .i64 n, .int .i64 c => if 0 ≤ n ∧ n ≤ c ∧ c.toNat * bytes ≤ 140737488355328 then some (.sl σ.length 0 0 n.toNat z.length true, σ ++ [.row (List.replicate n.toNat z).flatten t 0 0]) else none
  | _, _ => none
def rowfV (m n : Nat) (σ : St) (cs : List V) : Option (V × St) := (cs.mapM (settle σ (clo σ 9 (refsL cs).eraseDups) 9)).map fun cs' => (.lst 1 (chop m n cs'), σ.freeze (clo σ 9 (refsL cs).eraseDups))
def stoV (n : Nat) (x v : V) (σ : St) : Option (V × St) := (storeV σ n x v).map fun σ' => (.und, σ')
def chkV (x : V) : Option V :=
  match x with
  | .imm r o => some (.imm r o)
  | .ptr b g o => some (.ptr b g o)
  | _ => none
def eqqV (k : EqK) (neg : Bool) (x y : V) : Option V := (eqV k x y).map fun z => .bool (z != neg)
def cviV (k : IntKind) (x : V) : Option V :=
  match x with
  | .int _ n => some (.int k (k.wrap n))
  | _ => none
def cvsV (x : V) : Option V :=
  match x with
  | .str l => some (.str l)
  | _ => none
def cvlV (x : V) (σ : St) : Option V :=
  match x with
  | .sl i g off len m w => match σ[i]? with
    | some (.row _ _ g' z) => if g = g' ∧ z = 0 then some (.sl i g off len m w) else none
    | _ => none
  | _ => none
def stbV (ty : Nat) (x : V) (σ : St) : Option (V × St) :=
  match x with
  | .str l => some (.sl σ.length 0 0 l.length 1 true, σ ++ [.row (byteRows l).flatten ty 0 0])
  | _ => none
def btsV (x : V) (σ : St) : Option V := (srcRows σ 1 x).bind fun xs => (rowsByte xs).map fun l => .str l
def slcaV (len m : Nat) (x : V) (lo hi : Option V) : Option V :=
  match x with
  | .ptr i g off => (boundV lo 0).bind fun a => (boundV hi len).bind fun b => if a ≤ b ∧ b ≤ len then some (.sl i g (off + a * m) (b - a) m false) else none
  | _ => none
def fadV (off : Nat) (x : V) : Option V :=
  match x with
  | .imm r o => some (.imm r (o + off))
  | .ptr b g o => some (.ptr b g (o + off))
  | _ => none
def fldV (off n : Nat) (one : Bool) (x : V) : Option V :=
  match x with
  | .agg cs => if off + n ≤ cs.length then mkOne one ((cs.drop off).take n) else none
  | _ => none
def iadV (m : Nat) (x i : V) : Option V :=
  match x with
  | .lst _ xs => (atI xs i).bind fun r => if r.length = m then some (.imm r 0) else none
  | .sl j g off len m' _ => match i with
    | .int _ n => if 0 ≤ n ∧ n < len ∧ m = m' then some (.ptr j g (off + n.toNat * m)) else none
    | _ => none
  | _ => none
def iarV (len m : Nat) (x i : V) : Option V :=
  match i with
  | .int _ n => if 0 ≤ n ∧ n < len then (match x with
    | .imm r o => some (.imm r (o + n.toNat * m))
    | .ptr b g o => some (.ptr b g (o + n.toNat * m))
    | _ => none) else none
  | _ => none
def idxV (x i : V) : Option V :=
  match x with
  | .str l => (atI l i).map fun c => .int .u8 (c.toNat : Int)
  | _ => none
def idaV (len m : Nat) (one : Bool) (x i : V) : Option V :=
  match i with
  | .int _ n => if 0 ≤ n ∧ n < len then (match x with
    | .agg cs => if n.toNat * m + m ≤ cs.length then mkOne one ((cs.drop (n.toNat * m)).take m) else none
    | _ => none) else none
  | _ => none
def extV (i : Nat) (x : V) : Option V :=
  match x with
  | .tup vs => vs[i]?
  | _ => none
def lensV (x : V) : Option V :=
  match x with
  | .str l => some (.int .i64 (l.length : Int))
  | _ => none
def lenV (x : V) : Option V :=
  match x with
  | .nils => some (.int .i64 0)
  | .lst _ xs => some (.int .i64 (xs.length : Int))
  | .sl _ _ _ len _ _ => some (.int .i64 (len : Int))
  | _ => none
def appV (bytes : Nat) (m : Nat × Nat) (x y : V) (σ : St) : Option (V × St) := (srcRows σ m.1 y).bind fun ys => appR bytes m σ x ys
def appsV (ty : Nat) (x y : V) (σ : St) : Option (V × St) :=
  match y with
  | .str l => appR 1 (1, ty) σ x (byteRows l)
  | _ => none
def mxV (x y : V) : Option V :=
  match x, y with
  | .int k a, .int k' b => if k = k' then some (.int k (max a b)) else none
  | _, _ => none
def mnV (x y : V) : Option V :=
  match x, y with
  | .int k a, .int k' b => if k = k' then some (.int k (min a b)) else none
  | _, _ => none
def mkfV (f : Nat) (a c : List V) : Option V := if (a.all V.cellB && c.all V.cellB) = true then some (.fn f a c) else none
def mlkV (z x k : V) (σ : St) : Option V :=
  match x, k with
  | .mp i, .str s => match σ[i]? with
    | some (.map kvs) => some (match findK s kvs 0 with
      | some (_, v) => v
      | none => z)
    | _ => none
  | _, _ => none
def mupV (x k v : V) (σ : St) : Option (V × St) :=
  match x, k with
  | .mp i, .str s => match σ[i]? with
    | some (.map kvs) => if v.flatB = true then some (.und, σ.set i (.map (match findK s kvs 0 with
      | some (j, _) => kvs.set j (s, v)
      | none => kvs ++ [(s, v)]))) else none
    | _ => none
  | _, _ => none
section
variable {e : Env} {σ : St}
theorem x_mov (x : S) : evalX (.mov x) e σ = .val (src e x) σ := hide rfl
theorem x_pick (c a b : S) : evalX (.pick c a b) e σ = r1 (pickV (src e c) (src e a) (src e b)) σ := by
  simp only [evalX, calleeOf, evalOp, pickV]; cases src e c <;> rfl
theorem x_new (t : Nat) (z : List V) : evalX (.new t z) e σ = .val (.ptr σ.length 0 0) (σ ++ [.row z t 0 0]) := hide rfl
theorem x_box (t : Nat) (x : S) : evalX (.box t x) e σ = r2 (boxV t (src e x) σ) := hide rfl
theorem x_build (z : List V) (ps : List (Nat × Nat × S)) : evalX (.build z ps) e σ = r1 ((fills z (ps.map fun p => (p.1, p.2.1, src e p.2.2))).map fun cs => .agg cs) σ := by
  simp only [evalX, calleeOf, evalOp]; cases fills z (ps.map fun p => (p.1, p.2.1, src e p.2.2)) <;> rfl
theorem x_rows (n : Nat) (z : List V) (ps : List (Nat × S)) : evalX (.rows n z ps) e σ = r1 ((fills (List.replicate n z).flatten (ps.map fun p => (p.1 * z.length, z.length, src e p.2))).bind fun cs => if cs.all V.rowB = true then some (.lst 1 (chop z.length n cs)) else none) σ := by
  simp only [evalX, calleeOf, evalOp]
  cases fills (List.replicate n z).flatten (ps.map fun p => (p.1 * z.length, z.length, src e p.2)) with
  | none => rfl
  | some cs => simp only [Option.bind_some]; split <;> rfl
theorem x_rowf (n : Nat) (z : List V) (ps : List (Nat × S)) : evalX (.rowf n z ps) e σ = r2 ((fills (List.replicate n z).flatten (ps.map fun p => (p.1 * z.length, z.length, src e p.2))).bind fun cs => rowfV z.length n σ cs) := hide rfl
theorem x_rowo (t n : Nat) (z : List V) (ps : List (Nat × S)) : evalX (.rowo t n z ps) e σ = r2 ((fills (List.replicate n z).flatten (ps.map fun p => (p.1 * z.length, z.length, src e p.2))).map fun cs => (.sl σ.length 0 0 n z.length true, σ ++ [.row cs t 0 0])) := hide rfl
theorem x_mk (t bytes : Nat) (z : List V) (x y : S) : evalX (.mk t bytes z x y) e σ = r2 (mkV t bytes z (src e x) (src e y) σ) := hide rfl
theorem x_load (n : Nat) (one : Bool) (x : S) : evalX (.load n one x) e σ = r1 (loadV σ n one (src e x)) σ := r2_map _ _
theorem x_store (n : Nat) (x v : S) : evalX (.store n x v) e σ = r2 (stoV n (src e x) (src e v) σ) := hide rfl
theorem x_chk (x : S) : evalX (.chk x) e σ = r1 (chkV (src e x)) σ := by
  simp only [evalX, calleeOf, evalOp, chkV]; cases src e x <;> rfl
theorem x_bin (o : BinOp) (x y : S) : evalX (.bin o x y) e σ = r1 (binV o (src e x) (src e y)) σ := r2_map _ _
theorem x_eq (k : EqK) (neg : Bool) (x y : S) : evalX (.eq k neg x y) e σ = r1 (eqqV k neg (src e x) (src e y)) σ := by
  simp only [evalX, calleeOf, evalOp, eqqV]; cases eqV k (src e x) (src e y) <;> rfl
theorem x_un (o : UnOp) (x : S) : evalX (.un o x) e σ = r1 (unV o (src e x)) σ := r2_map _ _
theorem x_cvi (k : IntKind) (x : S) : evalX (.cvi k x) e σ = r1 (cviV k (src e x)) σ := by
  simp only [evalX, calleeOf, evalOp, cviV]; cases src e x <;> rfl
theorem x_cvs (x : S) : evalX (.cvs x) e σ = r1 (cvsV (src e x)) σ := by
  simp only [evalX, calleeOf, evalOp, cvsV]; cases src e x <;> rfl
theorem x_cvl (x : S) : evalX (.cvl x) e σ = r1 (cvlV (src e x) σ) σ := by
  simp only [evalX, calleeOf, evalOp, cvlV]
  cases src e x with
  | sl i g off len m w =>
    simp only
    cases σ[i]? with
    | none => rfl
    | some ob =>
      cases ob with
      | row cs e g' z => simp only; split <;> rfl
      | _ => rfl
  | _ => rfl
theorem x_stb (ty : Nat) (x : S) : evalX (.stb ty x) e σ = r2 (stbV ty (src e x) σ) := hide rfl
theorem x_bts (x : S) : evalX (.bts x) e σ = r1 (btsV (src e x) σ) σ := by
  simp only [evalX, calleeOf, evalOp, btsV]
  cases srcRows σ 1 (src e x) with
  | none => rfl
  | some xs => simp only [Option.bind_some]; cases rowsByte xs <;> rfl
theorem x_slcs (x : S) (lo hi : Option S) : evalX (.slcs x lo hi) e σ = r1 (slcS (src e x) (lo.map (src e)) (hi.map (src e))) σ := r2_map _ _
theorem x_slc (m : Nat) (x : S) (lo hi mx : Option S) : evalX (.slc m x lo hi mx) e σ = r1 (slcV m (src e x) (lo.map (src e)) (hi.map (src e)) (mx.map (src e))) σ := r2_map _ _
theorem x_slca (len m : Nat) (x : S) (lo hi : Option S) : evalX (.slca len m x lo hi) e σ = r1 (slcaV len m (src e x) (lo.map (src e)) (hi.map (src e))) σ := by
  simp only [evalX, calleeOf, evalOp, slcaV]
  cases src e x with
  | ptr i g off =>
    simp only
    cases boundV (lo.map (src e)) 0 with
    | none => rfl
    | some a =>
      simp only [Option.bind_some]
      cases boundV (hi.map (src e)) len with
      | none => rfl
      | some b => simp only [Option.bind_some]; split <;> rfl
  | _ => rfl
theorem x_fad (off : Nat) (x : S) : evalX (.fad off x) e σ = r1 (fadV off (src e x)) σ := by
  simp only [evalX, calleeOf, evalOp, fadV]; cases src e x <;> rfl
theorem x_fld (off n : Nat) (one : Bool) (x : S) : evalX (.fld off n one x) e σ = r1 (fldV off n one (src e x)) σ := by
  simp only [evalX, calleeOf, evalOp, fldV]
  cases src e x with
  | agg cs => simp only; split; · exact r2_map _ _
              · rfl
  | _ => rfl
theorem x_iad (m : Nat) (x i : S) : evalX (.iad m x i) e σ = r1 (iadV m (src e x) (src e i)) σ := by
  simp only [evalX, calleeOf, evalOp, iadV]
  cases src e x with
  | lst t xs =>
    simp only
    cases atI xs (src e i) with
    | none => rfl
    | some r => simp only [Option.bind_some]; split <;> rfl
  | sl j g off len m' w =>
    simp only
    cases src e i with
    | int k n => simp only; split <;> rfl
    | _ => rfl
  | _ => rfl
theorem x_iar (len m : Nat) (x i : S) : evalX (.iar len m x i) e σ = r1 (iarV len m (src e x) (src e i)) σ := by
  simp only [evalX, calleeOf, evalOp, iarV]
  cases src e i with
  | int k n => simp only; split; · cases src e x <;> rfl
               · rfl
  | _ => rfl
theorem x_idx (x i : S) : evalX (.idx x i) e σ = r1 (idxV (src e x) (src e i)) σ := by
  simp only [evalX, calleeOf, evalOp, idxV]
  cases src e x with
  | str l => simp only; cases atI l (src e i) <;> rfl
  | _ => rfl
theorem x_ida (len m : Nat) (one : Bool) (x i : S) : evalX (.ida len m one x i) e σ = r1 (idaV len m one (src e x) (src e i)) σ := by
  simp only [evalX, calleeOf, evalOp, idaV]
  cases src e i with
  | int k n =>
    simp only
    split
    · cases src e x with
      | agg cs => simp only; split; · exact r2_map _ _
                  · rfl
      | _ => rfl
    · rfl
  | _ => rfl
theorem x_ext (i : Nat) (x : S) : evalX (.ext i x) e σ = r1 (extV i (src e x)) σ := by
  simp only [evalX, calleeOf, evalOp, extV]
  cases src e x with
  | tup vs => exact r2_map _ _
  | _ => rfl
theorem x_lens (x : S) : evalX (.lens x) e σ = r1 (lensV (src e x)) σ := by
  simp only [evalX, calleeOf, evalOp, lensV]; cases src e x <;> rfl
theorem x_len (x : S) : evalX (.len x) e σ = r1 (lenV (src e x)) σ := by
  simp only [evalX, calleeOf, evalOp, lenV]; cases src e x <;> rfl
theorem x_app (bytes : Nat) (m : Nat × Nat) (x y : S) : evalX (.app bytes m x y) e σ = r2 (appV bytes m (src e x) (src e y) σ) := hide rfl
theorem x_apps (ty : Nat) (x y : S) : evalX (.apps ty x y) e σ = r2 (appsV ty (src e x) (src e y) σ) := hide rfl
theorem x_mx (x y : S) : evalX (.mx x y) e σ = r1 (mxV (src e x) (src e y)) σ := by
  simp only [evalX, calleeOf, evalOp, mxV]
  cases src e x with
  | int k a =>
    cases src e y with
    | int k' b => simp only; split <;> rfl
    | _ => rfl
  | _ => rfl
theorem x_mn (x y : S) : evalX (.mn x y) e σ = r1 (mnV (src e x) (src e y)) σ := by
  simp only [evalX, calleeOf, evalOp, mnV]
  cases src e x with
  | int k a =>
    cases src e y with
    | int k' b => simp only; split <;> rfl
    | _ => rfl
  | _ => rfl
theorem x_mkf (f : Nat) (a c : List S) : evalX (.mkf f a c) e σ = r1 (mkfV f (a.map (src e)) (c.map (src e))) σ := by
  simp only [evalX, calleeOf, evalOp, mkfV]; split <;> rfl
theorem x_mmk : evalX .mmk e σ = .val (.mp σ.length) (σ ++ [.map []]) := hide rfl
theorem x_mlk (z : V) (x k : S) : evalX (.mlk z x k) e σ = r1 (mlkV z (src e x) (src e k) σ) σ := by
  simp only [evalX, calleeOf, evalOp, mlkV]
  cases src e x with
  | mp i =>
    cases src e k with
    | str s =>
      simp only
      cases σ[i]? with
      | none => rfl
      | some ob => cases ob <;> rfl
    | _ => rfl
  | _ => rfl
theorem x_mup (x k v : S) : evalX (.mup x k v) e σ = r2 (mupV (src e x) (src e k) (src e v) σ) := hide rfl
theorem x_call (f : Nat) (xs : List S) : evalX (.call f xs) e σ = .call f (xs.map (src e)) := hide rfl
def calV (x : V) (ys : List V) : Rs :=
  match x with
  | .fn f a c => .call f (a ++ ys ++ c)
  | _ => .fail
theorem x_callv (x : S) (xs : List S) : evalX (.callv x xs) e σ = calV (src e x) (xs.map (src e)) := by
  simp only [evalX, calleeOf, calV]; cases src e x <;> rfl
end
end Go.Proofs.YticpkkjnajmpoaaGreatDoor.KM
