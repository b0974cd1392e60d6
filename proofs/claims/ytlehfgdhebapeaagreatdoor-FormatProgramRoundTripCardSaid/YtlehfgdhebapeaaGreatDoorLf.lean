/- Plain: no parentheses of an expression's text can be left out. -/
import Derived.Test.YtlehfgdhebapeaaGreatDoorLe
set_option linter.all false
namespace Go.Proofs.YtlehfgdhebapeaaGreatDoor.KM
open Go
/-! equal expressions have the same tokens and texts -/
mutual
theorem same_toks:∀ (x y:Xp),sameX x y=true→x.op=y.op∧x.toks=y.toks∧x.txt=y.txt
 | ⟨op,n,nm,z,t,l⟩,⟨op',n',nm',z',t',l'⟩,h=>by
  simp only[sameX,Bool.and_eq_true,beq_iff_eq]at h
  obtain⟨rfl,rfl,rfl,h⟩:=h
  obtain⟨h1,h2⟩:=same_tokss l l' h
  simp only[Xp.toks,Xp.txt,h1,h2]
  exact⟨trivial,trivial,trivial⟩
theorem same_tokss:∀ (l l':List Xp),sameXs l l'=true→Xp.tokss l=Xp.tokss l'∧Xp.txts l=Xp.txts l'
 | [],[],_=>⟨rfl,rfl⟩
 | x::l,y::l',h=>by
  simp only[sameXs,Bool.and_eq_true]at h
  obtain⟨h1,h2,h3⟩:=same_toks x y h.1
  obtain⟨h4,h5⟩:=same_tokss l l' h.2
  simp only[Xp.tokss,Xp.txts,h1,h2,h3,h4,h5]
  exact⟨trivial,trivial⟩
 | [],_::_,h=>by cases h
 | _::_,[],h=>by cases h
end
/-! what is parsed has no more tokens than its text needs -/
theorem opT_all(s:List UInt8):opT s=(0,0)∨((6≤(opT s).1∧(opT s).1≤18)∧(opT s).2=lvE (opT s).1):=by
 unfold opT
 cases h:opTab.lookup s with
 | none=>exact .inl rfl
 | some p=>
  have hm:∃ k,(k,p)∈opTab:=by
   revert h
   generalize opTab=l
   induction l with
   | nil=>intro h;cases h
   | cons q l ih=>
    intro h
    obtain⟨k,v⟩:=q
    rw[List.lookup_cons]at h
    split at h
    ·cases h;exact⟨k,List.mem_cons_self⟩
    ·obtain⟨k',hk⟩:=ih h;exact⟨k',List.mem_cons_of_mem _ hk⟩
  obtain⟨k,hk⟩:=hm
  have hall:(opTab.all fun q=>decide ((6≤q.2.1∧q.2.1≤18)∧q.2.2=lvE q.2.1))=true:=by decide
  exact .inr (by simpa using List.all_eq_true.1 hall _ hk)
theorem opAt_all{lvl:Nat}{ts:List Tk}(h:opAt lvl ts≠0):(6≤opAt lvl ts∧opAt lvl ts≤18)∧lvE (opAt lvl ts)=lvl∧ts.length=ts.tail.length+1:=by
 cases ts with
 | nil=>exact absurd rfl h
 | cons t ts=>
  simp only[opAt]at h ⊢
  split at h
  ·split at h
   ·rename_i h1 h2
    rw[if_pos h1,if_pos h2]
    rcases opT_all t.text with e | e
    ·rw[e]at h;exact absurd rfl h
    ·exact⟨e.1,by rw[←e.2,h2],by simp⟩
   ·exact absurd rfl h
  ·exact absurd rfl h
/-! parentheses -/
def bd:Nat→List UInt8→Option Nat
 | d,[]=>some d
 | d,c::r=>if c=40 then bd (d+1) r else if c=41 then(if d≤1 then none else bd (d - 1) r) else bd d r
def flatB(l:List UInt8):Prop:=∀ c∈l,c≠40∧c≠41
end Go.Proofs.YtlehfgdhebapeaaGreatDoor.KM
