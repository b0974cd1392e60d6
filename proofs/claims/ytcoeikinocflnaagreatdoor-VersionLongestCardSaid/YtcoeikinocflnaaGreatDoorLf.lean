/- Plain: no parentheses of an expression's text can be left out. -/
import Derived.Test.YtcoeikinocflnaaGreatDoorLe
set_option linter.all false
namespace Go.Proofs.YtcoeikinocflnaaGreatDoor.KM
open Go
/-! equal expressions have the same tokens and texts -/
mutual
theorem Z4:∀ (x y:Xp),Fc x y=true->x.op=y.op/\x.toks=y.toks/\x.txt=y.txt
 | ⟨op,n,nm,z,t,l⟩,⟨op',n',nm',z',t',l'⟩,h=>by
  simp only[Fc,Ae,beq_iff_eq]at h
  obtain⟨rfl,rfl,rfl,h⟩:=h
  obtain⟨h1,h2⟩:=Aeu l l' h
  simp only[Xp.toks,Xp.txt,h1,h2]
  exact⟨trivial,trivial,trivial⟩
theorem Aeu:∀ (l l':List Xp),F9 l l'=true->Xp.tokss l=Xp.tokss l'/\Xp.txts l=Xp.txts l'
 | [],[],_=>⟨rfl,rfl⟩
 | x::l,y::l',h=>by
  simp only[F9,Ae]at h
  obtain⟨h1,h2,h3⟩:=Z4 x y h.1
  obtain⟨h4,h5⟩:=Aeu l l' h.2
  simp only[Xp.tokss,Xp.txts,h1,h2,h3,h4,h5]
  exact⟨trivial,trivial⟩
 | [],_::_,h=>by cases h
 | _::_,[],h=>by cases h
end
/-! what is parsed has no more tokens than its text needs -/
theorem At3(s:List UInt8):En s=(0,0)\/((6<=(En s).1/\(En s).1<=18)/\(En s).2=Ap (En s).1):=by
 unfold En
 cases h:opTab.lookup s with
 | none=>exact .inl rfl
 | some p=>
  have hm:∃ k,(k,p)∈opTab:=by
   revert h
   generalize opTab=l
   induction l with
   | nil=>intro h;cases h
   | cons q l ih=>
    intro h
    obtain⟨k,v⟩:=q
    rw[Vq]at h
    split at h
    ·cases h;exact⟨k,Dm⟩
    ·obtain⟨k',hk⟩:=ih h;exact⟨k',Db _ hk⟩
  obtain⟨k,hk⟩:=hm
  have hall:(opTab.all fun q=>decide ((6<=q.2.1/\q.2.1<=18)/\q.2.2=Ap q.2.1))=true:=by decide
  exact .inr (by simpa using A3.1 hall _ hk)
theorem Aqm{lvl:Nat}{ts:List Tk}(h:Fa lvl ts≠0):(6<=Fa lvl ts/\Fa lvl ts<=18)/\Ap (Fa lvl ts)=lvl/\ts.length=ts.tail.length+1:=by
 cases ts with
 | nil=>exact absurd rfl h
 | cons t ts=>
  simp only[Fa]at h ⊢
  split at h
  ·split at h
   ·rename_i h1 h2
    rw[if_pos h1,if_pos h2]
    rcases At3 t.text with e | e
    ·rw[e]at h;exact absurd rfl h
    ·exact⟨e.1,by rw[<-e.2,h2],by simp⟩
   ·exact absurd rfl h
  ·exact absurd rfl h
/-! parentheses -/
def bd:Nat->List UInt8->Option Nat
 | d,[]=>some d
 | d,c::r=>if c=40 then bd (d+1) r else if c=41 then(if d<=1 then none else bd (d - 1) r) else bd d r
def flatB(l:List UInt8):Prop:=∀ c∈l,c≠40/\c≠41
end Go.Proofs.YtcoeikinocflnaaGreatDoor.KM
