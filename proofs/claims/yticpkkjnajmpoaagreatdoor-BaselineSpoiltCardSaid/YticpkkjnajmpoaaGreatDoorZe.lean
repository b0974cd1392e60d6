/- Walks: the law BaselineSpoilt, whole. -/
import Derived.Test.YticpkkjnajmpoaaGreatDoorZd
set_option linter.all false
namespace Go.Proofs.YticpkkjnajmpoaaGreatDoor.KM
open Go
theorem lawSpoilt_fn (z : Bool) (t : Nat) (l : List Item) (n at' field : Nat) (N : Int) (str : List UInt8) (hn : n < 256) (hat : at' < 256) (hfi : field < 256) (hl : l.length ≤ 9223372036854775807) (hok : ∀ x ∈ l, x.ok) :
    Fn TT PT 7 [SL z t (l.map Item.row), .int .u8 n, .int .u8 at', .int .u8 field, .int .i64 N, .str str] (.bool true) := by
  obtain ⟨v0, σ0, hba, u, L, rfl, hg, hL, hcl⟩ := baseN_own z t l n hn hl hok
  obtain ⟨b1, b2, b3⟩ := preE_inv l 20
  have v1 := pre_valid l n (by omega) (by omega)
  have hown : ∀ y ∈ preE l 20, y.own = y := fun e he => by obtain ⟨y, -, rfl⟩ := b3 e he; rfl
  have hoE : okE (preE l 20) := fun e he => by obtain ⟨y, -, rfl⟩ := b3 e he; rw [ent_sites]; have := nOf_le y.kind; omega
  have hsit : ∀ e ∈ preE l 20, 2 ≤ e.sites.length := fun e he => by obtain ⟨y, -, rfl⟩ := b3 e he; rw [ent_sites]; exact (nOf_le y.kind).1
  clear b3
  generalize preE l 20 = B at hL b1 b2 v1 hown hoE hsit
  have hLB : L.length = B.length := by rw [← hL, List.length_map]
  have hva := valid_fn true 0 (n : Int) B hoE
  rw [v1] at hva
  have hca := CallS.own (σ := []) (over_set (vs := [SL z t (l.map Item.row), .int .u8 n]) (by simp only [go_sem])) hba
  rw [own_nil (setL_refs (by simp only [go_sem]))] at hca
  simp only [V.ren, renL] at hca
  have hid : ∀ v : V, v.ren (fun x => x + ([] : St).length) = v := fun v => ren_same _ v fun i _ => rfl
  have hidm : σ0.map (Ob.ren fun x => x + ([] : St).length) = σ0 := by
    conv => rhs; rw [← List.map_id σ0]
    exact List.map_congr_left fun o _ => ob_ren_same _ o fun i _ => rfl
  rw [hid, hidm, List.nil_append] at hca
  have huc := gw_cell hg.1
  have hlu : lenV u = some (.int .i64 (B.length : Int)) := by
    have := gw_len hg.1
    rw [List.length_map] at this
    rw [← hLB]
    exact this
  have h0 : ∀ J : St, (σ0 ++ [Ob.row [.int .i64 (n : Int), u] 25 0 0] ++ J)[σ0.length]? = some (.row [.int .i64 (n : Int), u] 25 0 0) := fun J => get_app_some (get_app0 ..)
  have h0' : (σ0 ++ [Ob.row [.int .i64 (n : Int), u] 25 0 0])[σ0.length]? = some (.row [.int .i64 (n : Int), u] 25 0 0) := get_app0 ..
  have hg1 : NG (σ0 ++ [Ob.row [.int .i64 (n : Int), u] 25 0 0]) 1 u L := ng_keep hg fun j _ hj => List.getElem?_append_left hj
  have hqne : ∀ i cs e g z, σ0[i]? = some (Ob.row cs e g z) → i ≠ σ0.length := fun i cs e g z h => by have := (List.getElem?_eq_some_iff.1 h).1; omega
  have how := ng_ow hg1 (n : Int)
  rw [owns_eq hL hown] at how
  generalize hσ : σ0 ++ [Ob.row [.int .i64 (n : Int), u] 25 0 0] = σ at h0' hg1 how
  have hql : σ0.length < σ.length := by rw [← hσ]; simp
  refine Fn_go T7 rfl ?_
  simp only [go_sem, Nat.reduceEqDiff, reduceIte, Nat.reduceAdd, Nat.reduceMul, Nat.reduceLeDiff, Int.reduceLT, Int.reduceLE, Int.reduceToNat, Int.reduceAdd, Int.reduceNeg, Int.reduceEq]
  refine wx_call hca ?_
  simp only [go_sem, Nat.reduceEqDiff, reduceIte, Nat.reduceAdd, Nat.reduceMul, Nat.reduceLeDiff, Int.reduceLT, Int.reduceLE, Int.reduceToNat, Int.reduceAdd, Int.reduceNeg, Int.reduceEq, cells1 huc, huc, hσ, h0']
  refine wx_ow (.cons how .nil) hva (by rfl) ?_
  cases hlen : decide ((1200 : Int) < (str.length : Int))
  rotate_left
  · simp only [go_sem, Nat.reduceEqDiff, reduceIte, Nat.reduceAdd, Nat.reduceMul, Nat.reduceLeDiff, Int.reduceLT, Int.reduceLE, Int.reduceToNat, Int.reduceAdd, Int.reduceNeg, Int.reduceEq, hlen]
    exact fr_set rfl
  have hfin : ∀ (e : Env) (σ : St), EndS σ σ0.length → e.get 13 = .ptr σ0.length 0 0 → W TT PT [.c tailS] e σ (FQ [AR.tmp 12] (.bool true)) := fun e σ h1 h2 => spoilt_end h1 h2
  rcases hg1.1 with ⟨hu0, hB0⟩ | ⟨hnL, iu, g, hu0, ho, hlo⟩
  · obtain rfl : L = [] := by simpa using hB0
    have hBn : B = [] := by rw [← hL]; rfl
    have hE : EndS σ σ0.length := by
      have := ng_on hg1
      rw [owns_eq hL hown] at this
      exact ⟨n, u, true, 0, B, h0', this, hoE⟩
    subst hu0
    simp only [go_sem, Nat.reduceEqDiff, reduceIte, Nat.reduceAdd, Nat.reduceMul, Nat.reduceLeDiff, Int.reduceLT, Int.reduceLE, Int.reduceToNat, Int.reduceAdd, Int.reduceNeg, Int.reduceEq, hlen, h0']
    have hh := hfin [(2, .int .u8 at'), (3, .int .u8 field), (4, .int .i64 N), (5, .str str), (13, .ptr σ0.length 0 0)] σ (hE) rfl
    unfold tailS af7 at hh
    dsimp only at hh
    simp only [go_sem, Nat.reduceEqDiff, reduceIte, Nat.reduceAdd, Nat.reduceMul, Nat.reduceLeDiff, Int.reduceLT, Int.reduceLE, Int.reduceToNat, Int.reduceAdd, Int.reduceNeg, Int.reduceEq] at hh
    exact hh
  rw [List.length_map] at hu0
  subst hu0
  have hLp : 0 < L.length := List.length_pos_iff.2 (by simpa using hnL)
  have hl0 : decide ((0 : Int) < (L.length : Int)) = true := by simpa using hLp
  have hz : ((L.length : Int) = 0) = False := eq_false (by omega)
  have hidx : at' % L.length < L.length := Nat.mod_lt _ hLp
  have w1 : IntKind.i64.wrap (at' : Int) = at' := wrap64 (by omega)
  have r1 := tmodN at' L.length
  obtain ⟨p, hp, -, hpm⟩ := at_some hidx
  have hx : B[at' % L.length]? = some p.2 := by rw [← hL, List.getElem?_map, hp]; rfl
  have hxm : p.2 ∈ B := List.mem_of_getElem? hx
  have hs2 : ∀ p ∈ L, p.2.sites ≠ [] ∧ p.2.sites.length ≤ 9223372036854775807 ∧ GW σ 3 41 1 p.1 (p.2.sites.map krow) := fun p hp => ⟨(hg1.2 p hp).1, hoE p.2 (by rw [← hL]; exact List.mem_map_of_mem hp), (hg1.2 p hp).2⟩
  have hoL := owns_eq hL hown
  have hcl := flatL_len (nrows_len L)
  rw [List.length_map] at hcl
  have hc1 := lo2_at (e := 32) (g := g) (z := 0) (nflat_1 hp)
  rcases hs2 p hpm with ⟨hpn, hpl, ⟨-, hp0⟩ | ⟨-, ib, gb, hpe, hob, -⟩⟩
  · exact absurd (by simpa using hp0) hpn
  rw [List.length_map] at hpe
  have hps := hsit p.2 hxm
  generalize hidxe : at' % L.length = idx at hidx hp hx hc1 r1
  have le0 : (idx * 4 + 1 ≤ (L.map nrow).flatten.length) = True := eq_true (by omega)
  have le1 : (idx * 4 + 1 + 1 ≤ (L.map nrow).flatten.length) = True := eq_true (by omega)
  have le2 : (idx * 4 + 2 + 1 ≤ (L.map nrow).flatten.length) = True := eq_true (by omega)
  have le3 : (idx * 4 + 3 + 1 ≤ (L.map nrow).flatten.length) = True := eq_true (by omega)
  obtain ⟨k0, ks, hks⟩ : ∃ k0 ks, p.2.sites = k0 :: ks := by
    match p.2.sites, hps with
    | k0 :: ks, _ => exact ⟨k0, ks, rfl⟩
  have hk1 : IntKind.i64.wrap ((p.2.sites.length : Int) - 1) = ((p.2.sites.length - 1 : Nat) : Int) := by rw [wrap64 (by omega)]; omega
  have hk2 : (p.2.sites.length - 1 ≤ p.2.sites.length) = True := eq_true (by omega)
  have hk3 : (0 < p.2.sites.length) = True := eq_true (by omega)
  have hk4 : ((0 : Int) < (p.2.sites.length : Int)) = True := eq_true (by omega)
  have hob2 := hob
  rw [hks] at hob2
  simp only [List.map_cons, List.flatten_cons, krow, List.cons_append, List.nil_append] at hob2
  have h8 : field % 8 = 0 ∨ field % 8 = 1 ∨ field % 8 = 2 ∨ field % 8 = 3 ∨ field % 8 = 4 ∨ field % 8 = 5 ∨ field % 8 = 6 ∨ field % 8 = 7 := by omega
  have t8 := tmodN field 8
  simp only [go_sem, Nat.reduceEqDiff, reduceIte, Nat.reduceAdd, Nat.reduceMul, Nat.reduceLeDiff, Int.reduceLT, Int.reduceLE, Int.reduceToNat, Int.reduceAdd, Int.reduceNeg, Int.reduceEq, hlen, h0', hl0]
  refine w_drw (by kernel_rfl) ?_
  simp only [go_sem, Nat.reduceEqDiff, reduceIte, Nat.reduceAdd, Nat.reduceMul, Nat.reduceLeDiff, Int.reduceLT, Int.reduceLE, Int.reduceToNat, Int.reduceAdd, Int.reduceNeg, Int.reduceEq, h0', hz, w1, r1, iad_nat hidx]
  rcases h8 with h8 | h8 | h8 | h8 | h8 | h8 | h8 | h8
  · have r8 : (field : Int).tmod 8 = 0 := by rw [show (8 : Int) = ((8 : Nat) : Int) from rfl, t8, h8]; rfl
    simp only [go_sem, Nat.reduceEqDiff, reduceIte, Nat.reduceAdd, Nat.reduceMul, Nat.reduceLeDiff, Int.reduceLT, Int.reduceLE, Int.reduceToNat, Int.reduceAdd, Int.reduceNeg, Int.reduceEq, r8, Int.reduceBEq, ho, le0]
    have hh := hfin [(5, .str str), (13, .ptr σ0.length 0 0), (43, .int .u8 0)] (σ.set iu (.row ((L.map nrow).flatten.take (idx * 4) ++ .int .i64 (N.tmod 7) :: (L.map nrow).flatten.drop (idx * 4 + 1)) 32 g 0)) (end_cell (n := n) (x' := { p.2 with kind := N.tmod 7 }) h0' ho hg1.2 hoL hx (f := 0) (by omega) (fun X => oc_row rfl) rfl hoE hpl) rfl
    unfold tailS af7 at hh
    dsimp only at hh
    simp only [go_sem, Nat.reduceEqDiff, reduceIte, Nat.reduceAdd, Nat.reduceMul, Nat.reduceLeDiff, Int.reduceLT, Int.reduceLE, Int.reduceToNat, Int.reduceAdd, Int.reduceNeg, Int.reduceEq] at hh
    exact hh
  · have r8 : (field : Int).tmod 8 = 1 := by rw [show (8 : Int) = ((8 : Nat) : Int) from rfl, t8, h8]; rfl
    simp only [go_sem, Nat.reduceEqDiff, reduceIte, Nat.reduceAdd, Nat.reduceMul, Nat.reduceLeDiff, Int.reduceLT, Int.reduceLE, Int.reduceToNat, Int.reduceAdd, Int.reduceNeg, Int.reduceEq, r8, Int.reduceBEq, ho, le2]
    have hh := hfin [(5, .str str), (13, .ptr σ0.length 0 0), (43, .int .u8 1)] (σ.set iu (.row ((L.map nrow).flatten.take (idx * 4 + 2) ++ .int .i64 N :: (L.map nrow).flatten.drop (idx * 4 + 2 + 1)) 32 g 0)) (end_cell (n := n) (x' := { p.2 with seen := N }) h0' ho hg1.2 hoL hx (f := 2) (by omega) (fun X => oc_row rfl) rfl hoE hpl) rfl
    unfold tailS af7 at hh
    dsimp only at hh
    simp only [go_sem, Nat.reduceEqDiff, reduceIte, Nat.reduceAdd, Nat.reduceMul, Nat.reduceLeDiff, Int.reduceLT, Int.reduceLE, Int.reduceToNat, Int.reduceAdd, Int.reduceNeg, Int.reduceEq] at hh
    exact hh
  · have r8 : (field : Int).tmod 8 = 2 := by rw [show (8 : Int) = ((8 : Nat) : Int) from rfl, t8, h8]; rfl
    simp only [go_sem, Nat.reduceEqDiff, reduceIte, Nat.reduceAdd, Nat.reduceMul, Nat.reduceLeDiff, Int.reduceLT, Int.reduceLE, Int.reduceToNat, Int.reduceAdd, Int.reduceNeg, Int.reduceEq, r8, Int.reduceBEq, ho, le3]
    have hh := hfin [(5, .str str), (13, .ptr σ0.length 0 0), (43, .int .u8 2)] (σ.set iu (.row ((L.map nrow).flatten.take (idx * 4 + 3) ++ .int .i64 (N.tmod 10) :: (L.map nrow).flatten.drop (idx * 4 + 3 + 1)) 32 g 0)) (end_cell (n := n) (x' := { p.2 with missed := N.tmod 10 }) h0' ho hg1.2 hoL hx (f := 3) (by omega) (fun X => oc_row rfl) rfl hoE hpl) rfl
    unfold tailS af7 at hh
    dsimp only at hh
    simp only [go_sem, Nat.reduceEqDiff, reduceIte, Nat.reduceAdd, Nat.reduceMul, Nat.reduceLeDiff, Int.reduceLT, Int.reduceLE, Int.reduceToNat, Int.reduceAdd, Int.reduceNeg, Int.reduceEq] at hh
    exact hh
  · have r8 : (field : Int).tmod 8 = 3 := by rw [show (8 : Int) = ((8 : Nat) : Int) from rfl, t8, h8]; rfl
    simp only [go_sem, Nat.reduceEqDiff, reduceIte, Nat.reduceAdd, Nat.reduceMul, Nat.reduceLeDiff, Int.reduceLT, Int.reduceLE, Int.reduceToNat, Int.reduceAdd, Int.reduceNeg, Int.reduceEq, r8, Int.reduceBEq]
    have hsl : slcV 3 (.sl ib gb 0 p.2.sites.length 3 true) none (some (.int .i64 ((p.2.sites.length - 1 : Nat) : Int))) none = some (.sl ib gb 0 (p.2.sites.length - 1) 3 true) := by
      simp only [slcV, bound_nat, boundV]
      simp
    refine w_drw (by kernel_rfl) ?_
    simp only [go_sem, Nat.reduceEqDiff, reduceIte, Nat.reduceAdd, Nat.reduceMul, Nat.reduceLeDiff, Int.reduceLT, Int.reduceLE, Int.reduceToNat, Int.reduceAdd, Int.reduceNeg, Int.reduceEq, ho, hc1, hpe, hk1, hsl, le1]
    refine wgk_ef' (by repeat (first | exact trivial | refine ⟨.inl (by rfl), ?_⟩ | refine ⟨by rfl, ?_⟩ | refine ⟨.inr ⟨by rfl, by rfl⟩, ?_⟩)) (by repeat (first | exact trivial | refine ⟨.inl (by rfl), ?_⟩ | refine ⟨by rfl, ?_⟩ | refine ⟨.inr ⟨by rfl, by rfl⟩, ?_⟩)) ?_
    simp only [go_sem, Nat.reduceEqDiff, reduceIte, Nat.reduceAdd, Nat.reduceMul, Nat.reduceLeDiff, Int.reduceLT, Int.reduceLE, Int.reduceToNat, Int.reduceAdd, Int.reduceNeg, Int.reduceEq]
    have hh := hfin [(4, .int .i64 N), (5, .str str), (13, .ptr σ0.length 0 0), (43, .int .u8 3)] (σ.set iu (.row ((L.map nrow).flatten.take (idx * 4 + 1) ++ .sl ib gb 0 (p.2.sites.length - 1) 3 true :: (L.map nrow).flatten.drop (idx * 4 + 1 + 1)) 32 g 0)) (end_cell (n := n) (x' := ⟨p.2.kind, p.2.sites.take (p.2.sites.length - 1), p.2.seen, p.2.missed, false, 0⟩) (v' := .lst 0 ((p.2.sites.map krow).take (p.2.sites.length - 1))) h0' ho hg1.2 hoL hx (f := 1) (by omega) (fun X => oc_cut (e := 41) (z := 0) (by rw [List.getElem?_set_ne (by rintro rfl; have h := ho.symm.trans hob; simp only [Option.some.injEq, Ob.row.injEq] at h; exact absurd h.2.1 (by decide))]; exact hob) (by omega) (krows_len _) (krows_row _) (by simp)) (by simp [Ent.row, Ent.sl, SL, List.map_take]) hoE (by simp; omega)) rfl
    unfold tailS af7 at hh
    dsimp only at hh
    simp only [go_sem, Nat.reduceEqDiff, reduceIte, Nat.reduceAdd, Nat.reduceMul, Nat.reduceLeDiff, Int.reduceLT, Int.reduceLE, Int.reduceToNat, Int.reduceAdd, Int.reduceNeg, Int.reduceEq] at hh
    exact hh
  · have r8 : (field : Int).tmod 8 = 4 := by rw [show (8 : Int) = ((8 : Nat) : Int) from rfl, t8, h8]; rfl
    simp only [go_sem, Nat.reduceEqDiff, reduceIte, Nat.reduceAdd, Nat.reduceMul, Nat.reduceLeDiff, Int.reduceLT, Int.reduceLE, Int.reduceToNat, Int.reduceAdd, Int.reduceNeg, Int.reduceEq, r8, Int.reduceBEq, ho, hc1, hpe, hk4, hob2]
    have hh := hfin [(4, .int .i64 N), (13, .ptr σ0.length 0 0), (43, .int .u8 4)] (σ.set ib (.row (((((k0.1, str, k0.2.2)) :: ks).map krow).flatten) 41 gb 0)) (end_site (n := n) (S' := ((k0.1, str, k0.2.2)) :: ks) h0' ho hs2 hob (by have := flatL_len (krows_len p.2.sites); rw [List.length_map] at this; rw [this, hks]; simp) (by simp) (by have := hpl; rw [hks] at this; simpa using this)) rfl
    unfold tailS af7 at hh
    dsimp only at hh
    simp only [List.map_cons, List.flatten_cons, krow, List.cons_append, List.nil_append] at hh
    simp only [go_sem, Nat.reduceEqDiff, reduceIte, Nat.reduceAdd, Nat.reduceMul, Nat.reduceLeDiff, Int.reduceLT, Int.reduceLE, Int.reduceToNat, Int.reduceAdd, Int.reduceNeg, Int.reduceEq] at hh
    exact hh
  · have r8 : (field : Int).tmod 8 = 5 := by rw [show (8 : Int) = ((8 : Nat) : Int) from rfl, t8, h8]; rfl
    simp only [go_sem, Nat.reduceEqDiff, reduceIte, Nat.reduceAdd, Nat.reduceMul, Nat.reduceLeDiff, Int.reduceLT, Int.reduceLE, Int.reduceToNat, Int.reduceAdd, Int.reduceNeg, Int.reduceEq, r8, Int.reduceBEq, ho, hc1, hpe, hk4, hob2]
    have hh := hfin [(4, .int .i64 N), (13, .ptr σ0.length 0 0), (43, .int .u8 5)] (σ.set ib (.row (((((str, k0.2.1, k0.2.2)) :: ks).map krow).flatten) 41 gb 0)) (end_site (n := n) (S' := ((str, k0.2.1, k0.2.2)) :: ks) h0' ho hs2 hob (by have := flatL_len (krows_len p.2.sites); rw [List.length_map] at this; rw [this, hks]; simp) (by simp) (by have := hpl; rw [hks] at this; simpa using this)) rfl
    unfold tailS af7 at hh
    dsimp only at hh
    simp only [List.map_cons, List.flatten_cons, krow, List.cons_append, List.nil_append] at hh
    simp only [go_sem, Nat.reduceEqDiff, reduceIte, Nat.reduceAdd, Nat.reduceMul, Nat.reduceLeDiff, Int.reduceLT, Int.reduceLE, Int.reduceToNat, Int.reduceAdd, Int.reduceNeg, Int.reduceEq] at hh
    exact hh
  · have r8 : (field : Int).tmod 8 = 6 := by rw [show (8 : Int) = ((8 : Nat) : Int) from rfl, t8, h8]; rfl
    simp only [go_sem, Nat.reduceEqDiff, reduceIte, Nat.reduceAdd, Nat.reduceMul, Nat.reduceLeDiff, Int.reduceLT, Int.reduceLE, Int.reduceToNat, Int.reduceAdd, Int.reduceNeg, Int.reduceEq, r8, Int.reduceBEq, ho, hc1, hpe, hk4, hob2]
    have hh := hfin [(5, .str str), (13, .ptr σ0.length 0 0), (43, .int .u8 6)] (σ.set ib (.row (((((k0.1, k0.2.1, N.tmod 70)) :: ks).map krow).flatten) 41 gb 0)) (end_site (n := n) (S' := ((k0.1, k0.2.1, N.tmod 70)) :: ks) h0' ho hs2 hob (by have := flatL_len (krows_len p.2.sites); rw [List.length_map] at this; rw [this, hks]; simp) (by simp) (by have := hpl; rw [hks] at this; simpa using this)) rfl
    unfold tailS af7 at hh
    dsimp only at hh
    simp only [List.map_cons, List.flatten_cons, krow, List.cons_append, List.nil_append] at hh
    simp only [go_sem, Nat.reduceEqDiff, reduceIte, Nat.reduceAdd, Nat.reduceMul, Nat.reduceLeDiff, Int.reduceLT, Int.reduceLE, Int.reduceToNat, Int.reduceAdd, Int.reduceNeg, Int.reduceEq] at hh
    exact hh
  · have r8 : (field : Int).tmod 8 = 7 := by rw [show (8 : Int) = ((8 : Nat) : Int) from rfl, t8, h8]; rfl
    simp only [go_sem, Nat.reduceEqDiff, reduceIte, Nat.reduceAdd, Nat.reduceMul, Nat.reduceLeDiff, Int.reduceLT, Int.reduceLE, Int.reduceToNat, Int.reduceAdd, Int.reduceNeg, Int.reduceEq, r8, Int.reduceBEq, h0']
    have hh := hfin [(5, .str str), (13, .ptr σ0.length 0 0), (14, .ptr iu g (idx * 4))] (σ.set σ0.length (.row [.int .i64 N, .sl iu g 0 L.length 4 true] 25 0 0)) (⟨N, _, true, 0, B, List.getElem?_set_self hql, by have := ng_on (s := σ.set σ0.length (.row [.int .i64 N, .sl iu g 0 L.length 4 true] 25 0 0)) (lo := 1) (u := .sl iu g 0 L.length 4 true) (L := L) ⟨gw_set_ty hg1.1 h0' (by omega), fun p hp => ⟨(hg1.2 p hp).1, gw_set_ty (hg1.2 p hp).2 h0' (by omega)⟩⟩; rw [hoL] at this; exact this, hoE⟩) rfl
    unfold tailS af7 at hh
    dsimp only at hh
    simp only [go_sem, Nat.reduceEqDiff, reduceIte, Nat.reduceAdd, Nat.reduceMul, Nat.reduceLeDiff, Int.reduceLT, Int.reduceLE, Int.reduceToNat, Int.reduceAdd, Int.reduceNeg, Int.reduceEq] at hh
    exact hh
end Go.Proofs.YticpkkjnajmpoaaGreatDoor.KM
