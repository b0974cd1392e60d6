/- Rows of programs: lengths, settled cells; texts of declarations. -/
import Derived.Test.YtcoeikinocflnaaGreatDoorGg
set_option linter.all false
namespace Go.Proofs.YtcoeikinocflnaaGreatDoor.KM
open Go
theorem Ats(n:Int):(X6 n).length<=24:=by
 have:=Aa5 n
 unfold X6
 split
 ·simp
 ·simp only[Af];omega
theorem A2m{d:Dp}(h1:d.nm.length<=12)(h2:d.on.length<=12):(Up d).length<=80:=by
 have a1:=Ats d.init
 have a2:=Aa5 d.size
 have a3:(if d.size=0 then [] else 91::(Cz d.size++[93])).length<=23:=by
  split
  ·simp
  ·simp;omega
 unfold Up
 split
 ·simp only[Aj,Af,Cf];omega
 split
 ·simp only[Aj,Af,Cf];omega
 split
 ·simp only[Aj,Af,Cf];omega
 split
 ·simp only[Aj,Af,Cf];omega
 split
 ·simp only[Aj,Af,Cf];omega
 ·simp only[Aj,Af,Cf];omega
theorem An2(a:List UInt8)(l:List (List UInt8)):(K8 (a::l)).length<=a.length+2+(K8 l).length:=by
 cases l with
 | nil=>simp[K8]
 | cons b l=>simp only[K8,Aj,Af];omega
theorem Eb{v:V}(h:v.rowB=true):v.cellB=true:=by cases v<;>simp[V.rowB]at h<;>rfl
theorem Zj{v:V}(h:v.cellB=true):v.cells=[v]/\[v].all V.cellB=true:=⟨by cases v<;>simp[V.cellB]at h<;>rfl,by simp only[Am,Av,h];rfl⟩
def Io(s:List UInt8):List V:=[.str s]
theorem Ajz{s s':St}{m m' e e' lo' n:Nat}{u w:V}{ys:List (List V)}(he:e≠e')(hu:u=.nils\/∃ i g cs,u=.sl i g 0 n m true/\s[i]?=some (.row cs e g 0))(h:GW s m' e' lo' w ys)(hf:∀ j,(∀ i g,u=.sl i g 0 n m true->j≠i)->j<s.length->s'[j]?=s[j]?):GW s' m' e' lo' w ys:=by
 rcases h with h | ⟨hn,j,g,rfl,ho,hlo⟩
 ·exact .inl h
 ·refine .inr ⟨hn,j,g,rfl,?_,hlo⟩
  rw[hf j ?_ (Au.1 ho).1]
  ·exact ho
  ·rintro i g' rfl rfl
   rcases hu with hu | ⟨i,g2,cs,hu,hs⟩
   ·cases hu
   ·cases hu
    rw[hs]at ho
    cases ho
    exact he rfl
theorem Aj0{s:St}{m e lo:Nat}{u:V}{xs:List (List V)}(h:GW s m e lo u xs):u=.nils\/∃ i g cs,u=.sl i g 0 xs.length m true/\s[i]?=some (.row cs e g 0):=by
 rcases h with⟨h,-⟩ | ⟨-,i,g,h,ho,-⟩
 ·exact .inl h
 ·exact .inr ⟨i,g,_,h,ho⟩
theorem Tx(z:Bool)(t:Nat)(xs:List (List V)):(SL z t xs).rowB=true:=by
 unfold SL
 split<;>rfl
theorem Ag4(x:Tp):x.row.all V.rowB=true:=by
 unfold Tp.row
 simp only[Am,Av,Tx]
 rfl
theorem Afu(D:List Dp):∀ r∈D.map Dp.row,r.length=6:=by intro r hr;obtain⟨x,-,rfl⟩:=Dc.1 hr;rfl
theorem An3(D:List Dp):∀ r∈D.map Dp.row,r.all V.rowB=true:=by intro r hr;obtain⟨x,-,rfl⟩:=Dc.1 hr;rfl
theorem Afv(D:List Tp):∀ r∈D.map Tp.row,r.length=4:=by intro r hr;obtain⟨x,-,rfl⟩:=Dc.1 hr;rfl
theorem An4(D:List Tp):∀ r∈D.map Tp.row,r.all V.rowB=true:=by intro r hr;obtain⟨x,-,rfl⟩:=Dc.1 hr;exact Ag4 x
end Go.Proofs.YtcoeikinocflnaaGreatDoor.KM
