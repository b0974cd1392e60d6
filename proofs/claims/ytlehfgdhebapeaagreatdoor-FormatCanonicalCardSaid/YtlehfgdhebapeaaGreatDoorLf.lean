/- Plain: no parentheses of an expression's text can be left out. -/
import Derived.Test.YtlehfgdhebapeaaGreatDoorLe
set_option linter.all false
namespace Go.Proofs.YtlehfgdhebapeaaGreatDoor.KM
open Go
/-! equal expressions have the same tokens and texts -/
mutual
theorem Zs:∀ (x y:Xp),Cw x y=true->x.op=y.op/\x.toks=y.toks/\x.txt=y.txt
 | ⟨op,n,nm,z,t,l⟩,⟨op',n',nm',z',t',l'⟩,h=>by
  simp only[Cw,Ad,beq_iff_eq]at h
  obtain⟨rfl,rfl,rfl,h⟩:=h
  obtain⟨h1,h2⟩:=Aef l l' h
  simp only[Xp.toks,Xp.txt,h1,h2]
  exact⟨trivial,trivial,trivial⟩
theorem Aef:∀ (l l':List Xp),Cj l l'=true->Xp.tokss l=Xp.tokss l'/\Xp.txts l=Xp.txts l'
 | [],[],_=>⟨rfl,rfl⟩
 | x::l,y::l',h=>by
  simp only[Cj,Ad]at h
  obtain⟨h1,h2,h3⟩:=Zs x y h.1
  obtain⟨h4,h5⟩:=Aef l l' h.2
  simp only[Xp.tokss,Xp.txts,h1,h2,h3,h4,h5]
  exact⟨trivial,trivial⟩
 | [],_::_,h=>by cases h
 | _::_,[],h=>by cases h
end
/-! what is parsed has no more tokens than its text needs -/
theorem Asf(s:List UInt8):E0 s=(0,0)\/((6<=(E0 s).1/\(E0 s).1<=18)/\(E0 s).2=As (E0 s).1):=by
 unfold E0
 cases h:opTab.lookup s with
 | none=>exact .inl rfl
 | some p=>
  have hm:∃ k,(k,p)∈opTab:=by
   revert h
   generalize opTab=l
   induction l with
   | nil=>intro h;cases h
   | cons q l ih=>
    intro h
    obtain⟨k,v⟩:=q
    rw[Ve]at h
    split at h
    ·cases h;exact⟨k,Co⟩
    ·obtain⟨k',hk⟩:=ih h;exact⟨k',Cb _ hk⟩
  obtain⟨k,hk⟩:=hm
  have hall:(opTab.all fun q=>decide ((6<=q.2.1/\q.2.1<=18)/\q.2.2=As q.2.1))=true:=by decide
  exact .inr (by simpa using A5.1 hall _ hk)
theorem Ao4{lvl:Nat}{ts:List Tk}(h:Fp lvl ts≠0):(6<=Fp lvl ts/\Fp lvl ts<=18)/\As (Fp lvl ts)=lvl/\ts.length=ts.tail.length+1:=by
 cases ts with
 | nil=>exact absurd rfl h
 | cons t ts=>
  simp only[Fp]at h ⊢
  split at h
  ·split at h
   ·rename_i h1 h2
    rw[if_pos h1,if_pos h2]
    rcases Asf t.text with e | e
    ·rw[e]at h;exact absurd rfl h
    ·exact⟨e.1,by rw[<-e.2,h2],by simp⟩
   ·exact absurd rfl h
  ·exact absurd rfl h
/-! parentheses -/
def bd:Nat->List UInt8->Option Nat
 | d,[]=>some d
 | d,c::r=>if c=40 then bd (d+1) r else if c=41 then(if d<=1 then none else bd (d - 1) r) else bd d r
def flatB(l:List UInt8):Prop:=∀ c∈l,c≠40/\c≠41
end Go.Proofs.YtlehfgdhebapeaaGreatDoor.KM
