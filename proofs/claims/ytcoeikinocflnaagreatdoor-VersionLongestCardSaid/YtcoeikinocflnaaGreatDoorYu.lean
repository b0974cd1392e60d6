/- Walks: strings.Builder. -/
import Derived.Test.YtcoeikinocflnaaGreatDoorNu
set_option linter.all false
namespace Go.Proofs.YtcoeikinocflnaaGreatDoor.KM
open Go
theorem Wh(l:List UInt8):∀ r∈A4 l,r.length=1:=by
 intro r hr
 obtain⟨c,_,rfl⟩:=Dc.1 hr
 rfl
theorem An0(a b:List UInt8):A4 (a++b)=A4 a++A4 b:=Hj ..
theorem Aio(a:List UInt8):(A4 a).length=a.length:=Bg ..
theorem Ad0:∀ l:List UInt8,Ix (A4 l)=some l
 | []=>rfl
 | c::l=>by
  have h:c.toNat<256:=c.toNat_lt
  have:=Ad0 l
  simp only[A4,A1,Ix]at this ⊢
  rw[if_pos (by omega),this]
  simp
theorem Aft(l:List UInt8):Aq (A4 l).flatten=[]:=by
 refine Jk (Ox fun r hr=>?_)
 obtain⟨c,_,rfl⟩:=Dc.1 hr
 rfl
theorem Aqa(ty:Nat)(x:V)(l:List UInt8)(σ:St):Akm ty x (.str l) σ=Fm 1 (1,ty) x (.lst 1 (A4 l)) σ:=rfl
theorem An1{s:St}{j:Nat}{x:Ob}(h:s[j]?=some x):j<s.length:=(Au.1 h).1
def BL(s:St)(b:Nat)(u:V)(l:List UInt8):Prop:=∃ p,s[b]?=some (.row [p,u] 192 0 0)/\(p=.nilp\/p=.ptr b 0 0)/\GW s 1 5 (b+1) u (A4 l)
theorem Atp{s:St}{b:Nat}{u:V}{l:List UInt8}(h:BL s b u l):∀ i∈u.refs,i<s.length:=by
 obtain⟨p,_,_,hg⟩:=h
 exact Aih hg
theorem Atq{s J:St}{b:Nat}{u:V}{l:List UInt8}(h:BL s b u l):BL (s++J) b u l:=by
 obtain⟨p,h1,h2,h3⟩:=h
 exact⟨p,Dn h1,h2,O2 h3⟩
theorem Jr{s:St}{cs:List V}{t:Nat}(h:Cl s)(hr:cs.all V.rowB=true):Cl (s++[.row cs t 0 0]):=Tv h (by simp only[Ob.refs,Jk hr];simp)
theorem Aqb{s:St}{b:Nat}{u:V}{l:List UInt8}(t:List UInt8)(h:BL s b u l)(hc:Cl s)(hb:l.length+t.length<=100000000000000):
  ∃ s' u',Th TT PT 186 [.ptr b 0 0,.str t] s (.tup [.int .i64 (t.length:Int),.nili]) s'/\BL s' b u' (l++t)/\Cl s'/\s.length<=s'.length/\∀ j,j≠b->j ∉ u.refs->j<s.length->s'[j]?=s[j]?:=by
 have hbr:=Atp h
 obtain⟨p,hs,hp,hg⟩:=h
 have hbl:b<s.length:=An1 hs
 have h1:∃ s1,R7 192 [.ptr b 0 0] s=some (.tup [],s1)/\s1[b]?=some (.row [.ptr b 0 0,u] 192 0 0)/\GW s1 1 5 (b+1) u (A4 l)/\s1.length=s.length/\Cl s1/\∀ j,j≠b->s1[j]?=s[j]?:=by
  rcases hp with rfl | rfl
  ·refine⟨s.set b (.row [.ptr b 0 0,u] 192 0 0),?_,by rw[Cw hbl],Ex hg (by omega),by simp,O8 hc ?_,fun j hj=>by rw[B5 (by omega)]⟩
   ·simp[R7,hs]
   ·intro i hi
    simp only[Ob.refs,Aq,V.refs,Cx,Ei,Mj]at hi
    rcases hi with rfl | hi
    ·exact hbl
    ·exact hbr i hi
  ·exact⟨s,by simp[R7,hs],hs,hg,rfl,hc,fun _ _=>rfl⟩
 obtain⟨s1,e1,q1,g1,l1,c1,f1⟩:=h1
 obtain⟨u2,s2,e2,g2,l2,fo,f2⟩:=O7 (bytes:=1) (y:=.lst 1 (A4 t)) (ys:=A4 t) g1 (by omega) rfl (by omega) (Wh l) (Wh t) (by rw[Aio,Aio];omega)
 rw[<-An0]at g2
 have q2:=(f2 b (by omega)).trans q1
 have c2:Cl s2/\∀ i∈u2.refs,i<s2.length:=⟨Anq g1 rfl e2 (Aft l) (Aft t) c1,Aih g2⟩
 have c3:Cl (s2.set b (.row [.ptr b 0 0,u2] 192 0 0)):=by
  refine O8 c2.1 ?_
  intro i hi
  simp only[Ob.refs,Aq,V.refs,Cx,Ei,Mj]at hi
  rcases hi with rfl | hi
  ·omega
  ·exact c2.2 i hi
 refine⟨s2.set b (.row [.ptr b 0 0,u2] 192 0 0),u2,Aju T186 rfl ?_ rfl rfl (by simp;omega) c3,⟨.ptr b 0 0,by rw[Cw (by omega)],.inr rfl,Ex g2 (by omega)⟩,c3,by simp;omega,fun j hj hu hl=>?_⟩
 ·simp only[go_sem]
  refine M2 (.spec T224 rfl rfl e1) ?_
  simp only[go_sem,q1,Aqa,e2,q2,Axh (Ep g2),Ep g2]
  exact⟨rfl,rfl⟩
 ·rw[B5 (by omega),fo j ?_ (by omega),f1 j hj]
  intro i g hi hji
  subst hji
  exact hu (by rw[hi];simp[V.refs])
theorem Axs{s:St}{b:Nat}{u:V}{l:List UInt8}(h:BL s b u l):∃ s',Po 192 5 [.ptr b 0 0] s=some (.str l,s'):=by
 obtain⟨p,hs,hp,hg⟩:=h
 rcases hg with⟨rfl,hl⟩ | ⟨hn,i,g,rfl,ho,hlo⟩
 ·have:l=[]:=by simpa[A4] using hl
  subst this
  exact⟨s,by simp[Po,hs]⟩
 ·have hpos:0<(A4 l).length:=List.length_pos_iff.2 hn
  have hch:D3 1 (A4 l).length (A4 l).flatten=A4 l:=Aep (Wh l)
  have hfl:=Sx (Wh l)
  refine⟨s.set i .dead,?_⟩
  simp only[Po,hs,ho]
  rw[if_pos ⟨trivial,trivial,hpos⟩,if_pos ⟨trivial,trivial,by omega⟩,hch,Ad0]
  rfl
end Go.Proofs.YtcoeikinocflnaaGreatDoor.KM
