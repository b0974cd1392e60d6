/- Effects in drawn regions, their checks done by themselves; lists. -/
import Derived.Test.YtlehfgdhebapeaaDoorA5
set_option linter.all false
namespace Go.Proofs.YtlehfgdhebapeaaDoor.KM
open Go
theorem rd1 {s : St} {ob k off x : Nat} {cs : List V} {v : V} {e : Env} (q : s[ob]? = some (.row cs k 0 0)) (he : e.get x = .ptr ob 0 off) (hc : cs[off]? = some v) : evalOp (.load 1 true (.t x)) e s = some (v, s) := by
  simp only [evalOp, src, he, loadV, q]
  have hl := (List.getElem?_eq_some_iff.1 hc).1
  rw [if_pos ⟨trivial, by omega⟩, show (cs.drop off).take 1 = [v] by
    rw [List.drop_eq_getElem_cons hl, List.take_succ_cons, List.take_zero]
    have := (List.getElem?_eq_some_iff.1 hc).2
    rw [this]]
  rfl
theorem rd1e {s : St} {ob off x : Nat} {v : V} {e : Env} (he : e.get x = .ptr ob 0 off) (h : ∃ cs k, s[ob]? = some (.row cs k 0 0) ∧ cs[off]? = some v) : evalOp (.load 1 true (.t x)) e s = some (v, s) := by
  obtain ⟨cs, k, q, hc⟩ := h
  exact rd1 q he hc
theorem rdI {s : St} {off x : Nat} {cs : List V} {v : V} {e : Env} (he : e.get x = .imm cs off) (hc : cs[off]? = some v) : evalOp (.load 1 true (.t x)) e s = some (v, s) := by
  simp only [evalOp, src, he, loadV]
  have hl := (List.getElem?_eq_some_iff.1 hc).1
  have hd : (cs.drop off).take 1 = [v] := by
    rw [List.drop_eq_getElem_cons hl, List.take_succ_cons, List.take_zero]
    have := (List.getElem?_eq_some_iff.1 hc).2
    rw [this]
  rw [hd]
  simp [mkOne]
  omega
theorem rdN {s : St} {ob k x n : Nat} {cs : List V} {e : Env} (q : s[ob]? = some (.row cs k 0 0)) (he : e.get x = .ptr ob 0 0) (hn : cs.length = n) : evalOp (.load n false (.t x)) e s = some (.agg cs, s) := by
  subst hn
  simp only [evalOp, src, he, loadV, q]
  simp [mkOne]
theorem rdIN {s : St} {x n : Nat} {cs : List V} {e : Env} (he : e.get x = .imm cs 0) (hn : cs.length = n) : evalOp (.load n false (.t x)) e s = some (.agg cs, s) := by
  subst hn
  simp only [evalOp, src, he, loadV]
  simp [mkOne]
section
variable {T : Nat → Option AF} {pr : Nat → Option (List V → Option V)} {deps : List (List Nat)} {n m : Nat} {e : Env} {σ : St} {fs : Fs} {ls : Ls} {K : Env → St → Fs → Ls → Prop} {i : AI}
theorem wgE {v : V} {σ1 : St} (h : K (e.putO i.dst v) σ1 ((m, σ, σ1) :: fs) ls) (h1 : chB deps n m fs := by repeat (first | exact trivial | refine ⟨.inl (by rfl), ?_⟩ | refine ⟨by rfl, ?_⟩ | refine ⟨.inr ⟨by rfl, by rfl⟩, ?_⟩ | refine ⟨.inr ⟨by (first | exact rdI rfl rfl | exact rdIN rfl (by rfl) | exact rd1e rfl ⟨_, _, by assumption, by rfl⟩ | exact rd1e rfl ⟨_, _, get_app_some (by assumption), by rfl⟩ | exact rdN (by assumption) rfl (by rfl) | exact rdN (get_app_some (by assumption)) rfl (by rfl)), by (first | exact rdI rfl rfl | exact rdIN rfl (by rfl) | exact rd1e rfl ⟨_, _, by assumption, by rfl⟩ | exact rd1e rfl ⟨_, _, get_app_some (by assumption), by rfl⟩ | exact rdN (by assumption) rfl (by rfl) | exact rdN (get_app_some (by assumption)) rfl (by rfl))⟩, ?_⟩)) (h2 : chR deps n m σ σ1 ls := by repeat (first | exact trivial | refine ⟨.inl (by rfl), ?_⟩ | refine ⟨by rfl, ?_⟩ | refine ⟨.inr ⟨by rfl, by rfl⟩, ?_⟩ | refine ⟨.inr ⟨by (first | exact rdI rfl rfl | exact rdIN rfl (by rfl) | exact rd1e rfl ⟨_, _, by assumption, by rfl⟩ | exact rd1e rfl ⟨_, _, get_app_some (by assumption), by rfl⟩ | exact rdN (by assumption) rfl (by rfl) | exact rdN (get_app_some (by assumption)) rfl (by rfl)), by (first | exact rdI rfl rfl | exact rdIN rfl (by rfl) | exact rd1e rfl ⟨_, _, by assumption, by rfl⟩ | exact rd1e rfl ⟨_, _, get_app_some (by assumption), by rfl⟩ | exact rdN (by assumption) rfl (by rfl) | exact rdN (get_app_some (by assumption)) rfl (by rfl))⟩, ?_⟩)) : wgk deps n m i .ef v σ1 e σ fs ls K := ⟨h1, h2, h⟩
theorem wgR {v : V} {σ1 : St} (h : K (e.putO i.dst v) σ fs ((m, fun s => evalOp i.op e s = some (v, s)) :: ls)) (h1 : chF deps n m (fun s => evalOp i.op e s = some (v, s)) fs := by repeat (first | exact trivial | refine ⟨.inl (by rfl), ?_⟩ | refine ⟨by rfl, ?_⟩ | refine ⟨.inr ⟨by rfl, by rfl⟩, ?_⟩ | refine ⟨.inr ⟨by (first | exact rdI rfl rfl | exact rdIN rfl (by rfl) | exact rd1e rfl ⟨_, _, by assumption, by rfl⟩ | exact rd1e rfl ⟨_, _, get_app_some (by assumption), by rfl⟩ | exact rdN (by assumption) rfl (by rfl) | exact rdN (get_app_some (by assumption)) rfl (by rfl)), by (first | exact rdI rfl rfl | exact rdIN rfl (by rfl) | exact rd1e rfl ⟨_, _, by assumption, by rfl⟩ | exact rd1e rfl ⟨_, _, get_app_some (by assumption), by rfl⟩ | exact rdN (by assumption) rfl (by rfl) | exact rdN (get_app_some (by assumption)) rfl (by rfl))⟩, ?_⟩)) : wgk deps n m i .rd v σ1 e σ fs ls K := ⟨h1, h⟩
theorem wgA {f : Nat} {vs : List V} {v : V} {σ1 : St} (hf : ThP T pr f vs σ v σ1) (h : K (e.putO i.dst v) σ1 ((m, σ, σ1) :: fs) ls) (h1 : chB deps n m fs := by repeat (first | exact trivial | refine ⟨.inl (by rfl), ?_⟩ | refine ⟨by rfl, ?_⟩ | refine ⟨.inr ⟨by rfl, by rfl⟩, ?_⟩ | refine ⟨.inr ⟨by (first | exact rdI rfl rfl | exact rdIN rfl (by rfl) | exact rd1e rfl ⟨_, _, by assumption, by rfl⟩ | exact rd1e rfl ⟨_, _, get_app_some (by assumption), by rfl⟩ | exact rdN (by assumption) rfl (by rfl) | exact rdN (get_app_some (by assumption)) rfl (by rfl)), by (first | exact rdI rfl rfl | exact rdIN rfl (by rfl) | exact rd1e rfl ⟨_, _, by assumption, by rfl⟩ | exact rd1e rfl ⟨_, _, get_app_some (by assumption), by rfl⟩ | exact rdN (by assumption) rfl (by rfl) | exact rdN (get_app_some (by assumption)) rfl (by rfl))⟩, ?_⟩)) (h2 : chR deps n m σ σ1 ls := by repeat (first | exact trivial | refine ⟨.inl (by rfl), ?_⟩ | refine ⟨by rfl, ?_⟩ | refine ⟨.inr ⟨by rfl, by rfl⟩, ?_⟩ | refine ⟨.inr ⟨by (first | exact rdI rfl rfl | exact rdIN rfl (by rfl) | exact rd1e rfl ⟨_, _, by assumption, by rfl⟩ | exact rd1e rfl ⟨_, _, get_app_some (by assumption), by rfl⟩ | exact rdN (by assumption) rfl (by rfl) | exact rdN (get_app_some (by assumption)) rfl (by rfl)), by (first | exact rdI rfl rfl | exact rdIN rfl (by rfl) | exact rd1e rfl ⟨_, _, by assumption, by rfl⟩ | exact rd1e rfl ⟨_, _, get_app_some (by assumption), by rfl⟩ | exact rdN (by assumption) rfl (by rfl) | exact rdN (get_app_some (by assumption)) rfl (by rfl))⟩, ?_⟩)) : wgx T pr deps n m i (.call f vs) e σ fs ls K := .inr (.inr ⟨v, σ1, .any hf, h1, h2, h⟩)
end
end Go.Proofs.YtlehfgdhebapeaaDoor.KM
