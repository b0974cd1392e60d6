/- Walking by rewriting: what is reckoned. -/
import Derived.Test.YticpkkjnajmpoaaGreatDoorQc
set_option linter.all false
namespace Go.Proofs.YticpkkjnajmpoaaGreatDoor.KM
open Go
variable {T : Nat → Option AF} {pr : Nat → Option (List V → Option V)}
def TR (v0 : V) (σ : St) (v : V) (σ' σ1 : St) : Prop := v0 = v ∧ Left σ.length σ v σ1 ∧ σ' = σ1.take σ.length
theorem elem_c (a b : Nat) (l : List Nat) : List.elem a (b :: l) = if a = b then true else List.elem a l := by
  by_cases h : a = b
  · simp [h]
  · simp [h]
theorem elem_n (a : Nat) : List.elem a [] = false := rfl
theorem put_c (m n : Nat) (u v : V) (r : Env) : Env.put ((m, u) :: r) n v = if m = n then (n, v) :: r else (m, u) :: Env.put r n v := hide rfl
theorem put_n (n : Nat) (v : V) : Env.put [] n v = [(n, v)] := hide rfl
theorem del_c (m : Nat) (u : V) (r : Env) (ks : List Nat) : Env.del ((m, u) :: r) ks = if ks.elem m = true then Env.del r ks else (m, u) :: Env.del r ks := hide rfl
theorem del_n (ks : List Nat) : Env.del [] ks = [] := hide rfl
theorem keep_c (e : Env) (n : Nat) (ks : List Nat) : e.keep (n :: ks) = (n, e.get n) :: e.keep ks := hide rfl
theorem keep_n (e : Env) : e.keep [] = [] := hide rfl
theorem get_n (n : Nat) : Env.get [] n = .und := rfl
section
variable {Q : Env → St → Prop} {e : Env} {σ : St} {k : List It} {l : List AI} {kill : List Nat}
theorem wd_tt (d : Option Nat) (op : AO) : WD T pr (.bool true) true d op l kill k e σ Q = WX T pr (evalX op e σ) d l kill k e σ Q := hide rfl
theorem wd_ff (d : Option Nat) (op : AO) : WD T pr (.bool false) false d op l kill k e σ Q = WX T pr (evalX op e σ) d l kill k e σ Q := hide rfl
theorem wd_tf (d : Option Nat) (op : AO) : WD T pr (.bool true) false d op l kill k e σ Q = WR T pr l kill k (e.putO d .skp) σ Q := hide rfl
theorem wd_ft (d : Option Nat) (op : AO) : WD T pr (.bool false) true d op l kill k e σ Q = WR T pr l kill k (e.putO d .skp) σ Q := hide rfl
end
theorem o_dst (d : Nat) (op : AO) : (o d op).dst = some d := rfl
theorem on_dst (op : AO) : (on op).dst = none := rfl
theorem og_dst (d : Nat) (op : AO) (t : Nat) (w : Bool) : (og d op t w).dst = some d := rfl
theorem oh_dst (op : AO) (t : Nat) (w : Bool) : (oh op t w).dst = none := rfl
def lo2 (o : Option Ob) (g n : Nat) (one : Bool) (off : Nat) : Option V :=
  match o with
  | some (.row cs _ g' _) => if g = g' ∧ off + n ≤ cs.length then mkOne one ((cs.drop off).take n) else none
  | _ => none
theorem lo2_r (cs : List V) (e g' z g n : Nat) (one : Bool) (off : Nat) : lo2 (some (.row cs e g' z)) g n one off = if g = g' ∧ off + n ≤ cs.length then mkOne one ((cs.drop off).take n) else none := hide rfl
theorem load_p (σ : St) (n : Nat) (one : Bool) (i g off : Nat) : loadV σ n one (.ptr i g off) = lo2 σ[i]? g n one off := hide rfl
theorem load_i (σ : St) (n : Nat) (one : Bool) (row : List V) (off : Nat) : loadV σ n one (.imm row off) = if off + n ≤ row.length then mkOne one ((row.drop off).take n) else none := hide rfl
def sto2 (o : Option Ob) (σ : St) (n i g off : Nat) (v : V) : Option (V × St) :=
  match o with
  | some (.row cs e g' z) => if g = g' ∧ z ≤ off ∧ v.cells.length = n ∧ v.cells.all V.cellB = true then (putAt cs off v.cells).map fun cs' => (.und, σ.set i (.row cs' e g z)) else none
  | _ => none
theorem sto2_r (cs : List V) (e g' z : Nat) (σ : St) (n i g off : Nat) (v : V) : sto2 (some (.row cs e g' z)) σ n i g off v = if g = g' ∧ z ≤ off ∧ v.cells.length = n ∧ v.cells.all V.cellB = true then (putAt cs off v.cells).map fun cs' => (.und, σ.set i (.row cs' e g z)) else none := hide rfl
theorem sto_p (σ : St) (n i g off : Nat) (v : V) : stoV n (.ptr i g off) v σ = sto2 σ[i]? σ n i g off v := by
  simp only [stoV, storeV, sto2]
  cases σ[i]? with
  | none => rfl
  | some ob =>
    cases ob with
    | row cs e g' z =>
      simp only
      split
      · cases putAt cs off v.cells <;> rfl
      · rfl
    | _ => rfl
theorem len_n : lenV .nils = some (.int .i64 0) := rfl
theorem len_l (t : Nat) (xs : List (List V)) : lenV (.lst t xs) = some (.int .i64 (xs.length : Int)) := rfl
theorem len_s (i g off len m : Nat) (w : Bool) : lenV (.sl i g off len m w) = some (.int .i64 (len : Int)) := rfl
theorem iad_l (m t : Nat) (xs : List (List V)) (i : V) : iadV m (.lst t xs) i = (atI xs i).bind fun r => if r.length = m then some (.imm r 0) else none := hide rfl
theorem iad_s (m j g off len m' : Nat) (w : Bool) (k : IntKind) (n : Int) : iadV m (.sl j g off len m' w) (.int k n) = if 0 ≤ n ∧ n < len ∧ m = m' then some (.ptr j g (off + n.toNat * m)) else none := hide rfl
theorem fad_i (off : Nat) (r : List V) (o : Nat) : fadV off (.imm r o) = some (.imm r (o + off)) := hide rfl
theorem fad_p (off b g o : Nat) : fadV off (.ptr b g o) = some (.ptr b g (o + off)) := hide rfl
theorem fld_a (off n : Nat) (one : Bool) (cs : List V) : fldV off n one (.agg cs) = if off + n ≤ cs.length then mkOne one ((cs.drop off).take n) else none := hide rfl
theorem cells_i (k : IntKind) (n : Int) : V.cells (.int k n) = [.int k n] := rfl
theorem cells_s (l : List UInt8) : V.cells (.str l) = [.str l] := rfl
theorem cells_b (b : Bool) : V.cells (.bool b) = [.bool b] := rfl
theorem cells_n : V.cells .nils = [.nils] := rfl
theorem cells_l (t : Nat) (xs : List (List V)) : V.cells (.lst t xs) = [.lst t xs] := rfl
theorem cells_sl (i g o l m : Nat) (w : Bool) : V.cells (.sl i g o l m w) = [.sl i g o l m w] := rfl
theorem cells_p (i g o : Nat) : V.cells (.ptr i g o) = [.ptr i g o] := rfl
theorem cells_np : V.cells .nilp = [.nilp] := rfl
theorem cells_imm (r : List V) (o : Nat) : V.cells (.imm r o) = [.imm r o] := rfl
theorem cells_fn (f : Nat) (a c : List V) : V.cells (.fn f a c) = [.fn f a c] := rfl
theorem cells_mp (i : Nat) : V.cells (.mp i) = [.mp i] := rfl
theorem cells_a (cs : List V) : V.cells (.agg cs) = cs := rfl
theorem rows_n (σ : St) (m : Nat) : srcRows σ m .nils = some [] := hide rfl
theorem rows_l (σ : St) (m t : Nat) (xs : List (List V)) : srcRows σ m (.lst t xs) = some xs := hide rfl
theorem mk1 (c : V) : mkOne true [c] = some c := rfl
theorem mkA (cs : List V) : mkOne false cs = some (.agg cs) := rfl
theorem get_app (s l : St) (n : Nat) : (s ++ l)[s.length + n]? = l[n]? := by rw [List.getElem?_append_right (by omega)]; congr 1; omega
theorem get_app0 (s l : St) : (s ++ l)[s.length]? = l[0]? := by rw [List.getElem?_append_right (by omega)]; congr 1; omega
theorem set_app (s l : St) (n : Nat) (x : Ob) : (s ++ l).set (s.length + n) x = s ++ l.set n x := by simp [List.set_append]
theorem set_app0 (s l : St) (x : Ob) : (s ++ l).set s.length x = s ++ l.set 0 x := by simp [List.set_append]
theorem atI_nat {α : Type} (l : List α) (k : IntKind) (n : Nat) : atI l (.int k (n : Int)) = l[n]? := by
  simp only [atI]
  rw [if_pos (by omega), Int.toNat_natCast]
theorem wrap64 {n : Int} (h : -9223372036854775808 ≤ n ∧ n ≤ 9223372036854775807) : IntKind.i64.wrap n = n := Go.IntWalk.i64_in _ h
theorem wrap64s {n : Int} (h1 : -9223372036854775808 ≤ n) (h2 : n ≤ 9223372036854775807) : IntKind.i64.wrap n = n := wrap64 ⟨h1, h2⟩
theorem tq_1 (t : Nat) (v : V) (σ σ' σ1 : St) (e : Env) : TQ [.tmp t] σ v σ' e σ1 = TR (e.get t) σ v σ' σ1 := hide (propext ⟨fun ⟨h1, h2⟩ => ⟨Option.some.inj h1, h2⟩, fun ⟨h1, h2⟩ => ⟨congrArg some h1, h2⟩⟩)
theorem tr_flat {v : V} {σ : St} (J : St) (h : v.rowB = true) : TR v σ v σ (σ ++ J) := by
  refine ⟨rfl, ⟨?_, ?_, fun i ob hi ho => .inl ?_⟩, by simp⟩
  · cases v <;> simp [V.rowB] at h <;> rfl
  · rw [rowB_refs h]; rfl
  · rwa [List.getElem?_append_left hi] at ho
theorem tr_flat0 {v : V} {σ : St} (h : v.rowB = true) : TR v σ v σ σ := by
  have := tr_flat (σ := σ) [] h
  rwa [List.append_nil] at this
theorem inc64 {i : Nat} (h : i < 9223372036854775807) : IntKind.i64.wrap ((i : Int) + 1) = ((i + 1 : Nat) : Int) := by rw [wrap64 (by omega)]; rfl
theorem lt_t {i n : Nat} (h : i < n) : decide ((i : Int) < (n : Int)) = true := by simpa using h
theorem lt_f {i n : Nat} (h : n ≤ i) : decide ((i : Int) < (n : Int)) = false := by simpa using h
theorem ge_t {i n : Nat} (h : n ≤ i) : decide ((n : Int) ≤ (i : Int)) = true := by simpa using h
theorem ge_f {i n : Nat} (h : i < n) : decide ((n : Int) ≤ (i : Int)) = false := by simpa using h
theorem at_some {α : Type} {l : List α} {i : Nat} (h : i < l.length) : ∃ x, l[i]? = some x ∧ l.drop i = x :: l.drop (i + 1) ∧ x ∈ l := ⟨l[i], List.getElem?_eq_getElem h, List.drop_eq_getElem_cons h, List.getElem_mem h⟩
/-- a loop: a measure falls -/
theorem loop_w {keep : List Nat} {c : AC} {k : List It} {Q : Env → St → Prop} {α : Type} (μ : α → Nat) (E : α → Env) (Z : α → St) (I : α → Prop)
    (h : ∀ a, I a → (∀ b, μ b < μ a → I b → W T pr (.l keep c :: k) (E b) (Z b) Q) → W T pr (.l keep c :: k) (E a) (Z a) Q) : ∀ a, I a → W T pr (.l keep c :: k) (E a) (Z a) Q := by
  suffices ∀ n a, μ a = n → I a → W T pr (.l keep c :: k) (E a) (Z a) Q from fun a => this _ a rfl
  intro n
  induction n using Nat.strongRecOn with
  | _ n ih => exact fun a hm hI => h a hI fun b hb => ih (μ b) (hm ▸ hb) b rfl
theorem sc_a (cs : List V) : setC (.agg cs) = cs.all V.rowB := rfl
theorem sc_m (r : List V) (o : Nat) : setC (.imm r o) = true := rfl
theorem sc_i (k : IntKind) (n : Int) : setC (.int k n) = true := rfl
theorem sc_s (l : List UInt8) : setC (.str l) = true := rfl
theorem sc_b (b : Bool) : setC (.bool b) = true := rfl
theorem sc_n : setC .nils = true := rfl
theorem sc_f : setC .nili = true := rfl
theorem sc_l (t : Nat) (xs : List (List V)) : setC (.lst t xs) = true := rfl
/-! settled slices -/
def SL (z : Bool) (t : Nat) (xs : List (List V)) : V := if z = true ∧ xs = [] then .nils else .lst t xs
theorem sl_row (z : Bool) (t : Nat) (xs : List (List V)) : (SL z t xs).rowB = true := by unfold SL; split <;> rfl
theorem sl_cell (z : Bool) (t : Nat) (xs : List (List V)) : (SL z t xs).cellB = true := by unfold SL; split <;> rfl
theorem sl_set (z : Bool) (t : Nat) (xs : List (List V)) : setC (SL z t xs) = true := by unfold SL; split <;> rfl
theorem sl_cells (z : Bool) (t : Nat) (xs : List (List V)) : (SL z t xs).cells = [SL z t xs] := by unfold SL; split <;> rfl
theorem sl_len (z : Bool) (t : Nat) (xs : List (List V)) : lenV (SL z t xs) = some (.int .i64 (xs.length : Int)) := by
  unfold SL
  split
  · rename_i h; rw [h.2]; rfl
  · rfl
theorem sl_iad (z : Bool) (t : Nat) (xs : List (List V)) (m : Nat) (i : V) : iadV m (SL z t xs) i = (atI xs i).bind fun r => if r.length = m then some (.imm r 0) else none := by
  unfold SL
  split
  · rename_i h
    rw [h.2]
    cases i <;> simp [iadV, atI]
  · rfl
theorem sl_rows (z : Bool) (t : Nat) (xs : List (List V)) (σ : St) (m : Nat) : srcRows σ m (SL z t xs) = some xs := by
  unfold SL
  split
  · rename_i h; rw [h.2]; rfl
  · rfl
attribute [go_sem ↓] w_seq w_skip w_blk w_end w_loop w_nil w_ret w_reg w_cond w_exit wj_b wj_c wj_l wr_nil wr_o wr_on wr_og wr_oh wg_nil wg_o wg_on wg_og wg_oh src_t src_k get_put get_cons putO_some putO_none fq_1 fq_2 fq_3 tq_1
attribute [go_sem ↓] atI_nat x_mov x_pick x_new x_box x_build x_rows x_rowf x_rowo x_mk x_load x_store x_chk x_bin x_eq x_un x_cvi x_cvs x_cvl x_stb x_bts x_slcs x_slc x_slca x_fad x_fld x_iad x_iar x_idx x_ida x_ext x_lens x_len x_app x_apps x_mx x_mn x_mkf x_mmk x_mlk x_mup x_call x_callv
attribute [go_sem] we wx_val wx_fail wd_skp wd_tt wd_ff wd_tf wd_ft wc_true wc_false r1_some r1_none r2_some r2_none wgx_o wgx_on wgx_og wgx_oh wgd_tt wgd_ff wgd_tf wgd_ft wgd_s whd_tt whd_ff whd_tf whd_ft whd_s wgk_pu wgk_rd wgk_ef kd fl_some
attribute [go_sem] get_n put_c put_n del_c del_n keep_c keep_n elem_c elem_n parEnv resOne
attribute [go_sem] binV binI binS unV pickV boxV mkV chkV eqqV eqV eqB eqSl eqPt eqFn eqIf cviV cvsV cvlV stbV btsV slcaV slcS boundV iarV idxV idaV extV lensV mxV mnV mkfV mlkV mupV calV mk1 mkA putAt fills chop sc_a sc_m sc_i sc_s sc_b sc_n sc_f sc_l cB_int cB_str cB_bool cB_nils cB_nili cB_lst cB_ptr cB_sl cB_nilp cB_nilf cB_ifc cB_imm cB_fn cB_mp rB_int rB_str rB_bool rB_nils rB_nili rB_lst rB_ptr rB_sl rB_nilp rB_nilf rB_ifc rB_imm rB_fn rB_mp decide_true decide_false gt_iff_lt ge_iff_le ne_eq not_false_eq_true not_true_eq_false o_dst on_dst og_dst oh_dst lo2_r load_p load_i sto2_r sto_p len_n len_l len_s iad_l iad_s fad_i fad_p fld_a cells_i cells_s cells_b cells_n cells_l cells_sl cells_p cells_np cells_imm cells_fn cells_mp cells_a rows_n rows_l
attribute [go_sem] get_app get_app0 set_app set_app0 atI wrap64s sl_row sl_cell sl_set sl_cells sl_len sl_iad sl_rows
attribute [go_sem] Option.map_some Option.map_none Option.bind_some Option.bind_none List.map_cons List.map_nil List.all_cons List.all_nil Bool.and_true Bool.true_and Bool.and_self and_self and_true true_and eq_self List.length_cons List.length_nil List.length_append List.drop_zero List.drop_succ_cons List.take_zero List.take_succ_cons List.cons_append List.nil_append List.append_assoc List.append_nil List.getElem?_cons_zero List.getElem?_cons_succ List.set_cons_zero List.set_cons_succ List.replicate List.flatten_cons List.flatten_nil Nat.zero_add Nat.add_zero Nat.zero_mul Nat.one_mul Nat.mul_one Bool.false_eq_true Bool.true_eq_false Bool.not_true Bool.not_false Bool.bne_false Bool.bne_true if_true if_false ite_true ite_false Int.toNat_natCast Int.cast_ofNat_Int
end Go.Proofs.YticpkkjnajmpoaaGreatDoor.KM
