/- Walks: strings.Builder. -/
import Derived.Test.YtlehfgdhebapeaaGreatDoorNu
set_option linter.all false
namespace Go.Proofs.YtlehfgdhebapeaaGreatDoor.KM
open Go
theorem V2(l:List UInt8):∀ r∈Bt l,r.length=1:=by
 intro r hr
 obtain⟨c,_,rfl⟩:=E4.1 hr
 rfl
theorem Amu(a b:List UInt8):Bt (a++b)=Bt a++Bt b:=Oq ..
theorem Wx(a:List UInt8):(Bt a).length=a.length:=Cd ..
theorem Adh:∀ l:List UInt8,Hw (Bt l)=some l
 | []=>rfl
 | c::l=>by
  have h:c.toNat<256:=c.toNat_lt
  have:=Adh l
  simp only[Bt,Ao,Hw]at this ⊢
  rw[if_pos (by omega),this]
  simp
theorem Ae9(l:List UInt8):Aw (Bt l).flatten=[]:=by
 refine Lx (Wf fun r hr=>?_)
 obtain⟨c,_,rfl⟩:=E4.1 hr
 rfl
theorem Aol(ty:Nat)(x:V)(l:List UInt8)(σ:St):Ajt ty x (.str l) σ=Ir 1 (1,ty) x (.lst 1 (Bt l)) σ:=rfl
theorem Amv{s:St}{j:Nat}{x:Ob}(h:s[j]?=some x):j<s.length:=(Ay.1 h).1
def BL(s:St)(b:Nat)(u:V)(l:List UInt8):Prop:=∃ p,s[b]?=some (.row [p,u] 84 0 0)/\(p=.nilp\/p=.ptr b 0 0)/\GW s 1 5 (b+1) u (Bt l)
theorem Arm{s:St}{b:Nat}{u:V}{l:List UInt8}(h:BL s b u l):∀ i∈u.refs,i<s.length:=by
 obtain⟨p,_,_,hg⟩:=h
 exact Aht hg
theorem Arn{s J:St}{b:Nat}{u:V}{l:List UInt8}(h:BL s b u l):BL (s++J) b u l:=by
 obtain⟨p,h1,h2,h3⟩:=h
 exact⟨p,Bv h1,h2,Tz h3⟩
theorem Abh{s:St}{cs:List V}{t:Nat}(h:Cl s)(hr:cs.all V.rowB=true):Cl (s++[.row cs t 0 0]):=Ww h (by simp only[Ob.refs,Lx hr];simp)
theorem Aom{s:St}{b:Nat}{u:V}{l:List UInt8}(t:List UInt8)(h:BL s b u l)(hc:Cl s)(hb:l.length+t.length<=100000000000000):
  ∃ s' u',Th TT PT 34 [.ptr b 0 0,.str t] s (.tup [.int .i64 (t.length:Int),.nili]) s'/\BL s' b u' (l++t)/\Cl s'/\s.length<=s'.length/\∀ j,j≠b->j ∉ u.refs->j<s.length->s'[j]?=s[j]?:=by
 have hbr:=Arm h
 obtain⟨p,hs,hp,hg⟩:=h
 have hbl:b<s.length:=Amv hs
 have h1:∃ s1,R7 84 [.ptr b 0 0] s=some (.tup [],s1)/\s1[b]?=some (.row [.ptr b 0 0,u] 84 0 0)/\GW s1 1 5 (b+1) u (Bt l)/\s1.length=s.length/\Cl s1/\∀ j,j≠b->s1[j]?=s[j]?:=by
  rcases hp with rfl | rfl
  ·refine⟨s.set b (.row [.ptr b 0 0,u] 84 0 0),?_,by rw[A1 hbl],Dt hg (by omega),by simp,Xe hc ?_,fun j hj=>by rw[Bd (by omega)]⟩
   ·simp[R7,hs]
   ·intro i hi
    simp only[Ob.refs,Aw,V.refs,Ds,Ek,J6]at hi
    rcases hi with rfl | hi
    ·exact hbl
    ·exact hbr i hi
  ·exact⟨s,by simp[R7,hs],hs,hg,rfl,hc,fun _ _=>rfl⟩
 obtain⟨s1,e1,q1,g1,l1,c1,f1⟩:=h1
 obtain⟨u2,s2,e2,g2,l2,fo,f2⟩:=Mb (bytes:=1) (y:=.lst 1 (Bt t)) (ys:=Bt t) g1 (by omega) rfl (by omega) (V2 l) (V2 t) (by rw[Wx,Wx];omega)
 rw[<-Amu]at g2
 have q2:=(f2 b (by omega)).trans q1
 have c2:Cl s2/\∀ i∈u2.refs,i<s2.length:=⟨Aml g1 rfl e2 (Ae9 l) (Ae9 t) c1,Aht g2⟩
 have c3:Cl (s2.set b (.row [.ptr b 0 0,u2] 84 0 0)):=by
  refine Xe c2.1 ?_
  intro i hi
  simp only[Ob.refs,Aw,V.refs,Ds,Ek,J6]at hi
  rcases hi with rfl | hi
  ·omega
  ·exact c2.2 i hi
 refine⟨s2.set b (.row [.ptr b 0 0,u2] 84 0 0),u2,Ai2 T34 rfl ?_ rfl rfl (by simp;omega) c3,⟨.ptr b 0 0,by rw[A1 (by omega)],.inr rfl,Dt g2 (by omega)⟩,c3,by simp;omega,fun j hj hu hl=>?_⟩
 ·simp only[go_sem]
  refine M8 (.spec T69 rfl rfl e1) ?_
  simp only[go_sem,q1,Aol,e2,q2,Avb (Em g2),Em g2]
  exact⟨rfl,rfl⟩
 ·rw[Bd (by omega),fo j ?_ (by omega),f1 j hj]
  intro i g hi hji
  subst hji
  exact hu (by rw[hi];simp[V.refs])
theorem Avg{s:St}{b:Nat}{u:V}{l:List UInt8}(h:BL s b u l):∃ s',Pn 84 5 [.ptr b 0 0] s=some (.str l,s'):=by
 obtain⟨p,hs,hp,hg⟩:=h
 rcases hg with⟨rfl,hl⟩ | ⟨hn,i,g,rfl,ho,hlo⟩
 ·have:l=[]:=by simpa[Bt] using hl
  subst this
  exact⟨s,by simp[Pn,hs]⟩
 ·have hpos:0<(Bt l).length:=Ys.2 hn
  have hch:Eg 1 (Bt l).length (Bt l).flatten=Bt l:=Ad4 (V2 l)
  have hfl:=Qq (V2 l)
  refine⟨s.set i .dead,?_⟩
  simp only[Pn,hs,ho]
  rw[if_pos ⟨trivial,trivial,hpos⟩,if_pos ⟨trivial,trivial,by omega⟩,hch,Adh]
  rfl
end Go.Proofs.YtlehfgdhebapeaaGreatDoor.KM
