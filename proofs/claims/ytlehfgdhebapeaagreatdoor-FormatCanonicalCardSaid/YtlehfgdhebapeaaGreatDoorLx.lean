/- Walks: SameTexts, SameStmts. -/
import Derived.Test.YtlehfgdhebapeaaGreatDoorQn
import Derived.Test.YtlehfgdhebapeaaGreatDoorLn
set_option linter.all false
namespace Go.Proofs.YtlehfgdhebapeaaGreatDoor.KM
open Go
theorem Anc(z z':Bool)(t t':Nat)(l l':List (List UInt8))(hl:l.length<=1000000):Fn TT PT 42 [SL z t (l.map fun s=>[V.str s]),SL z' t' (l'.map fun s=>[V.str s])] (.bool (l==l')):=by
 have n1:(l.map fun s=>[V.str s]).length=l.length:=Cd ..
 have n2:(l'.map fun s=>[V.str s]).length=l'.length:=Cd ..
 refine Bz T42 rfl ?_
 by_cases hlen:l.length=l'.length
 case neg=>
  have c1:((l.length:Int) != (l'.length:Int))=true:=by simp;omega
  simp only[go_sem,n1,n2,c1]
  refine A9 rfl ?_
  have:(l==l')=false:=beq_eq_false_iff_ne.2 fun h=>hlen (by rw[h])
  rw[this]
 have c1:((l.length:Int) != (l'.length:Int))=false:=by simp;omega
 simp only[go_sem,n1,n2,c1]
 refine En (α:=Nat) (fun a=>l.length - a) (fun a=>[(0,SL z t (l.map fun s=>[V.str s])),(1,SL z' t' (l'.map fun s=>[V.str s])),(5,.int .i64 (a:Int))]) (fun a=>[]) (fun a=>a<=l.length/\(l==l')=(l.drop a==l'.drop a)) ?_ 0 ⟨Bj _,by simp⟩
 rintro i ⟨hi,hinv⟩ ih
 refine Eo (by delta lp42_0;exact rfl) ?_
 by_cases hc:i<l.length
 ·have f1:((i:Int)<(l.length:Int))=True:=eq_true (by omega)
  obtain⟨x,hx⟩:∃ x,l[i]?=some x:=⟨_,Az hc⟩
  obtain⟨y,hy⟩:∃ y,l'[i]?=some y:=⟨_,Az (by omega)⟩
  have hx':(l.map fun s=>[V.str s])[i]?=some [.str x]:=by rw[Ch,hx];rfl
  have hy':(l'.map fun s=>[V.str s])[i]?=some [.str y]:=by rw[Ch,hy];rfl
  have hd:(l.drop i==l'.drop i)=(x==y&&l.drop (i+1)==l'.drop (i+1)):=by
   rw[Gq hc,Gq (by omega:i<l'.length),(Ay.1 hx).2,(Ay.1 hy).2]
   rfl
  simp only[go_sem,n1,f1]
  refine A2 (by kernel_rfl) ?_
  simp only[go_sem,hx',hy']
  by_cases hxy:x=y
  ·subst hxy
   have c2:(x==x)=true:=by simp
   simp only[go_sem,c2,El,Cr (show i<9223372036854775807 by omega)]
   exact C5 (ih (i+1) (by omega) ⟨by omega,by rw[hinv,hd,c2,J7]⟩) rfl
  ·have c2:(x==y)=false:=by simp[hxy]
   simp only[go_sem,c2,Fa]
   exact A9 rfl (by rw[hinv,hd,c2,Y1])
 ·have f1:((i:Int)<(l.length:Int))=False:=eq_false (by omega)
  simp only[go_sem,n1,f1]
  refine A9 rfl ?_
  rw[hinv,E9 (by omega),E9 (by omega)]
  rfl
noncomputable def prS (n:Nat) (f:Nat):Option (List V->Option V):=if f=43 then some (sSS n) else PT f
theorem Uk(n:Nat):prS n 43=some (sSS n):=by
 unfold prS
 rw[if_pos rfl]
theorem Ajm(n:Nat):∀ f s,PT f=some s->prS n f=some s:=by
 intro f s h
 unfold prS
 split
 ·rename_i hf
  rw[hf,show PT 43=none by kernel_rfl]at h
  cases h
 ·exact h
theorem Apg{x:Xp}(h:Ng x)(y:Xp):Fn TT PT 19 [.agg x.row,.agg y.row] (.bool (Cw x y)):=
 Qr x y (by rw[h.2.2.2];simp) (fun a ha=>by rw[h.2.2.2]at ha;cases ha)
theorem Ag2{s:Sp}(h:ShS s):s.idx.length<=1/\(∀ x∈s.idx,ShE x)/\(ShE s.ex\/Ng s.ex)/\(∀ x∈s.body,ShS x)/\(∀ x∈s.els,ShS x):=by
 cases h with
 | mk h1 h2 h3 h4 h5 h6 h7 h8 h9 h10 h11 h12 h13 h14=>
  refine⟨h6,h8,?_,h13,h14⟩
  cases hv:Ee s.op with
  | true=>exact .inl (h9 hv)
  | false=>exact .inr (h10 hv)
theorem Aim:∀ l:List Sp,l.length<=Sp.szs l
 | []=>by simp
 | x::l=>by
  have:=Aim l
  rw[Sp.szs,Q9,Ag]
  omega
theorem Azb{s:Sp}(h:ShS s)(y:Xp):Fn TT PT 19 [.agg s.ex.row,.agg y.row] (.bool (Cw s.ex y)):=by
 rcases(Ag2 h).2.2.1 with h | h
 ·exact Aig h y
 ·exact Apg h y
theorem Ael:∀ {l l':List Sp},l.length≠l'.length->Cz l l'=false
 | [],[],h=>absurd rfl h
 | [],_::_,_=>rfl
 | _::_,[],_=>rfl
 | x::l,y::l',h=>by
  rw[Cz,Ael (l:=l) (l':=l') (by simp at h;exact h),Y0]
theorem Ali{l l':List Sp}{i:Nat}{x y:Sp}(hx:l[i]?=some x)(hy:l'[i]?=some y):Cz (l.drop i) (l'.drop i)=(Ep x y&&Cz (l.drop (i+1)) (l'.drop (i+1))):=by
 obtain⟨h1,h2⟩:=Ay.1 hx
 obtain⟨h3,h4⟩:=Ay.1 hy
 rw[Gq h1,Gq h3,h2,h4,Cz]
theorem Aem:∀ {l l':List Xp},l.length≠l'.length->Cj l l'=false
 | [],[],h=>absurd rfl h
 | [],_::_,_=>rfl
 | _::_,[],_=>rfl
 | x::l,y::l',h=>by
  rw[Cj,Aem (l:=l) (l':=l') (by simp at h;exact h),Y0]
set_option maxHeartbeats 16000000 in
theorem Aph(n:Nat):∀ vs v,sSS (n+1) vs=some v->vs.length=3/\∃ z,v=.bool z/\EvM TT (prS n) [.c af43.body] (Cu 0 vs) [] (fun e' σ'=>By e' σ' [.tmp 6]=some (.bool z)):=by
 intro vs v h
 obtain⟨_,⟨z,z',t,t',l,l',hsh,hsz,hsz2,rfl,rfl⟩,rfl⟩:=Ail h
 refine⟨rfl,_,rfl,?_⟩
 have n1:(l.map Sp.row).length=l.length:=Cd ..
 have n2:(l'.map Sp.row).length=l'.length:=Cd ..
 refine .seq (F2 ?_)
 simp only[go_sem]
 refine .seq (.seq (F2 ?_))
 by_cases hlen:l.length=l'.length
 case neg=>
  have c1:((l.length:Int) != (l'.length:Int))=true:=by simp;omega
  simp only[go_sem,n1,n2,c1]
  refine Dj ?_
  simp only[go_sem,MC]
  refine F0 ?_
  simp only[go_sem]
  rw[Ael hlen]
  rfl
 have c1:((l.length:Int) != (l'.length:Int))=false:=by simp;omega
 simp only[go_sem,n1,n2,c1]
 refine Dj ?_
 simp only[go_sem,MC]
 refine .skip (.seq (.seq (F2 ?_)))
 simp only[go_sem]
 refine .blk (.loop ?_)
 have hll:l.length<=1000000:=Ed (Aim l) hsz2
 refine Abq (α:=Nat × St) (fun a=>l.length - a.1) (fun a=>[(0,SL z t (l.map Sp.row)),(1,SL z' t' (l'.map Sp.row)),(2,.bool false),(7,.int .i64 (a.1:Int))]) (fun a=>a.2) (fun a=>a.1<=l.length/\Cz l l'=Cz (l.drop a.1) (l'.drop a.1)) ?_ (0,[]) ⟨Bj _,rfl⟩ _ rfl
 rintro⟨i,σ⟩ ⟨hi,hinv⟩ ih
 simp only at hi hinv ih
 refine .seq (.seq (F2 ?_))
 by_cases hc:i<l.length
 case neg=>
  have f1:((i:Int)<(l.length:Int))=False:=eq_false (by omega)
  simp only[go_sem,n1,f1]
  refine Dj ?_
  simp only[go_sem,MC]
  refine .exit rfl (F0 ?_)
  simp only[go_sem]
  rw[hinv,E9 (by omega),E9 (by omega)]
  rfl
 have f1:((i:Int)<(l.length:Int))=True:=eq_true (by omega)
 simp only[go_sem,n1,f1]
 refine Dj ?_
 simp only[go_sem,MC]
 refine .skip (.seq (.blk (.seq ?_)))
 obtain⟨x,hx⟩:∃ x,l[i]?=some x:=⟨_,Az hc⟩
 obtain⟨y,hy⟩:∃ y,l'[i]?=some y:=⟨_,Az (by omega)⟩
 have hx':(l.map Sp.row)[i]?=some [.int .i64 x.op,.int .i64 x.line,.str x.nm,.str x.arg,SL x.iz x.it (x.idx.map Xp.row),.int .i64 x.ex.op,.int .i64 x.ex.n,.str x.ex.nm,SL x.ex.z x.ex.t (x.ex.l.map Xp.row),SL x.bz x.bt (x.body.map Sp.row),SL x.ez x.et (x.els.map Sp.row)]:=by rw[Ch,hx,<-Cp];rfl
 have hy':(l'.map Sp.row)[i]?=some [.int .i64 y.op,.int .i64 y.line,.str y.nm,.str y.arg,SL y.iz y.it (y.idx.map Xp.row),.int .i64 y.ex.op,.int .i64 y.ex.n,.str y.ex.nm,SL y.ex.z y.ex.t (y.ex.l.map Xp.row),SL y.bz y.bt (y.body.map Sp.row),SL y.ez y.et (y.els.map Sp.row)]:=by rw[Ch,hy,<-Cp];rfl
 refine Aa4 8 9 [0,1,2,3,4,5,6,7,8,9,10,11] [0,1,2,3,4,5,6,7,9,8,10,11] [[],[],[0,1],[2],[],[],[4,5],[6],[],[8],[0,1,2,3,8,9],[0,1,2,3,4,5,6,7,8,9,10]] [[],[],[0,1],[2],[],[],[4,5],[6],[],[8],[0,1,2,3,8,9],[0,1,2,3,4,5,6,7,8,9,10]] (fun e σ=>∃ p q:Nat,Aa3 e [(0,SL z t (l.map Sp.row)),(1,SL z' t' (l'.map Sp.row)),(2,.bool false),(7,.int .i64 (i:Int)),(8,.ptr p 0 0),(9,.ptr q 0 0)]/\σ[p]?=some (.row [.int .i64 x.op,.int .i64 x.line,.str x.nm,.str x.arg,SL x.iz x.it (x.idx.map Xp.row),.int .i64 x.ex.op,.int .i64 x.ex.n,.str x.ex.nm,SL x.ex.z x.ex.t (x.ex.l.map Xp.row),SL x.bz x.bt (x.body.map Sp.row),SL x.ez x.et (x.els.map Sp.row)] 92 0 0)/\σ[q]?=some (.row [.int .i64 y.op,.int .i64 y.line,.str y.nm,.str y.arg,SL y.iz y.it (y.idx.map Xp.row),.int .i64 y.ex.op,.int .i64 y.ex.n,.str y.ex.nm,SL y.ex.z y.ex.t (y.ex.l.map Xp.row),SL y.bz y.bt (y.body.map Sp.row),SL y.ez y.et (y.els.map Sp.row)] 92 0 0)) (by kernel_rfl) ?h1 ?h2 ?k0
 case h1=>
  simp only[Ba,Ft,Iy,Ie,Iw,Ag,Br,Nat.reduceAdd]
  simp only[go_sem,hx',hy']
  refine Aq ?_
  simp only[go_sem]
  refine Aq ?_
  simp only[go_sem]
  refine Aq ?_
  simp only[go_sem]
  refine Aq ?_
  simp only[go_sem]
  exact⟨σ.length,σ.length+1,L3 (by kernel_rfl),by simp,by simp⟩
 case h2=>
  simp only[Ba,Ft,Iy,Ie,Iw,Ag,Br,Nat.reduceAdd]
  simp only[go_sem,hx',hy']
  refine Aq ?_
  simp only[go_sem]
  refine Aq ?_
  simp only[go_sem]
  refine Aq ?_
  simp only[go_sem]
  refine Aq ?_
  simp only[go_sem]
  exact⟨σ.length+1,σ.length,L3 (by kernel_rfl),by simp,by simp⟩
 rintro e τ ⟨p,q,he,hp,hq⟩
 refine .env he ?_
 clear he e
 have hsx:=hsh x (Hj hx)
 obtain⟨g1,g2,-,g4,g5⟩:=Ag2 hsx
 have hS:=Ali hx hy
 have hse:Ep x y=(x.op==y.op&&(x.nm==y.nm&&(x.arg==y.arg&&(Cw x.ex y.ex&&(Cj x.idx y.idx&&(Cz x.body y.body&&Cz x.els y.els)))))):=by
  cases x;cases y;rw[Ep]
 have hsE:=Jn (Ajm n) (Azb hsx y.ex)
 rw[Au,Au]at hsE
 have n3:(x.idx.map Xp.row).length=x.idx.length:=Cd ..
 have n4:(y.idx.map Xp.row).length=y.idx.length:=Cd ..
 have hzx:x.sz<=Sp.szs l:=T0 (Hj hx)
 rw[Q9]at hzx
 refine .seq (.seq (F2 ?_))
 by_cases h1:x.op=y.op
 case neg=>
  have c1:(x.op != y.op)=true:=by simp[h1]
  have hz:Ep x y=false:=by rw[hse,show(x.op==y.op)=false by simp[h1]];rfl
  simp only[go_sem,hp,hq,c1]
  refine Dj ?_
  simp only[go_sem,MC]
  refine F0 ?_
  simp only[go_sem]
  rw[hinv,hS,hz]
  rfl
 have c1:(x.op != y.op)=false:=by simp[h1]
 by_cases h2:x.nm=y.nm
 case neg=>
  have c2:(x.nm==y.nm)=false:=by simp[h2]
  have hz:Ep x y=false:=by rw[hse,c2];simp
  simp only[go_sem,hp,hq,c1,c2,Fa]
  refine Dj ?_
  simp only[go_sem,MC]
  refine F0 ?_
  simp only[go_sem]
  rw[hinv,hS,hz]
  rfl
 have c2:(x.nm==y.nm)=true:=by simp[h2]
 by_cases h3:x.arg=y.arg
 case neg=>
  have c3:(x.arg==y.arg)=false:=by simp[h3]
  have hz:Ep x y=false:=by rw[hse,c3];simp
  simp only[go_sem,hp,hq,c1,c2,c3,Fa,El]
  refine Dj ?_
  simp only[go_sem,MC]
  refine F0 ?_
  simp only[go_sem]
  rw[hinv,hS,hz]
  rfl
 have c3:(x.arg==y.arg)=true:=by simp[h3]
 simp only[go_sem,hp,hq,c1,c2,c3,Fa,El]
 refine Ax hsE (by simp only[go_sem]) ?_
 cases h4:Cw x.ex y.ex with
 | false=>
  have hz:Ep x y=false:=by rw[hse,h4];simp
  simp only[go_sem,Fa]
  refine Dj ?_
  simp only[go_sem,MC]
  refine F0 ?_
  simp only[go_sem]
  rw[hinv,hS,hz]
  rfl
 | true=>
  by_cases h5:x.idx.length=y.idx.length
  case neg=>
   have c5:((x.idx.length:Int) != (y.idx.length:Int))=true:=by simp;omega
   have hz:Ep x y=false:=by rw[hse,Aem h5];simp
   simp only[go_sem,El,hp,hq,n3,n4,c5]
   refine Dj ?_
   simp only[go_sem,MC]
   refine F0 ?_
   simp only[go_sem]
   rw[hinv,hS,hz]
   rfl
  have c5:((x.idx.length:Int) != (y.idx.length:Int))=false:=by simp;omega
  simp only[go_sem,El,hp,hq,n3,n4,c5]
  refine Dj ?_
  simp only[go_sem,MC]
  refine .skip (.seq (Awc ?_))
  have hB:sSS n [SL x.bz x.bt (x.body.map Sp.row),SL y.bz y.bt (y.body.map Sp.row),.bool false]=some (.bool (Cz x.body y.body)):=Abr ⟨_,_,_,_,_,_,g4,by omega,by omega,rfl,rfl⟩
  have hE:sSS n [SL x.ez x.et (x.els.map Sp.row),SL y.ez y.et (y.els.map Sp.row),.bool false]=some (.bool (Cz x.els y.els)):=Abr ⟨_,_,_,_,_,_,g5,by omega,by omega,rfl,rfl⟩
  have hxi:(x.idx=[]/\y.idx=[])\/∃ a c,x.idx=[a]/\y.idx=[c]:=by
   match hx0:x.idx,hy0:y.idx with
   | [],[]=>exact .inl ⟨rfl,rfl⟩
   | [],_::_=>rw[hx0,hy0]at h5;simp at h5
   | _::_,[]=>rw[hx0,hy0]at h5;simp at h5
   | [a],[c]=>exact .inr ⟨a,c,rfl,rfl⟩
   | _::_::_,_=>rw[hx0]at g1;simp at g1
   | [_],_::_::_=>rw[hx0,hy0]at h5;simp at h5
  have e1:(x.op==y.op)=true:=by simp[h1]
  have e2:=c2
  have e3:=c3
  rcases hxi with⟨hx0,hy0⟩ | ⟨a,c,hx0,hy0⟩
  ·rw[hx0]at hp
   rw[hy0]at hq
   have e5:Cj x.idx y.idx=true:=by rw[hx0,hy0];rfl
   have f6:((0:Int)<0)=False:=by simp
   refine A2 (by kernel_rfl) ?_
   simp only[go_sem,hp,hq,Be,Br,gt_iff_lt,f6]
   refine Xc (Uk n) (by simp only[go_sem]) hB ?_
   cases hb:Cz x.body y.body with
   | false=>
    have hz:Ep x y=false:=by rw[hse,hb];simp
    simp only[go_sem,Fa]
    refine Dj ?_
    simp only[go_sem,MC]
    refine F0 ?_
    simp only[go_sem]
    rw[hinv,hS,hz]
    rfl
   | true=>
    simp only[go_sem,El,hp,hq]
    refine Xc (Uk n) (by simp only[go_sem]) hE ?_
    cases he:Cz x.els y.els with
    | false=>
     have hz:Ep x y=false:=by rw[hse,he];simp
     simp only[go_sem,Fa]
     refine Dj ?_
     simp only[go_sem,MC]
     refine F0 ?_
     simp only[go_sem]
     rw[hinv,hS,hz]
     rfl
    | true=>
     have hz:Ep x y=true:=by rw[hse,e1,e2,e3,h4,e5,hb,he];rfl
     simp only[go_sem,El]
     refine Dj ?_
     simp only[go_sem,MC]
     refine .skip (.bend (F2 ?_))
     simp only[go_sem,Cr (show i<9223372036854775807 by omega)]
     exact ih (i+1,τ) (by simp only;omega) ⟨by simp only;omega,by rw[hinv,hS,hz,J7]⟩ _ rfl
  ·rw[hx0]at hp
   rw[hy0]at hq
   have ha:=Au a
   have hcr:=Au c
   have hI:=Jn (Ajm n) (Aig (g2 a (by rw[hx0];simp)) c)
   rw[ha,hcr]at hI
   have e5a:Cj x.idx y.idx=Cw a c:=by rw[hx0,hy0,Cj];simp[Cj]
   refine A2 (by kernel_rfl) ?_
   simp only[go_sem,hp,hq,Ao,Be,Ag,Br,gt_iff_lt,ha,hcr]
   refine C6 hI (by simp only[go_sem]) ?_
   cases h6:Cw a c with
   | false=>
    have hz:Ep x y=false:=by rw[hse,e5a,h6];simp
    simp only[go_sem,Fa]
    refine Dj ?_
    simp only[go_sem,MC]
    refine F0 ?_
    simp only[go_sem]
    rw[hinv,hS,hz]
    rfl
   | true=>
    have e5:Cj x.idx y.idx=true:=by rw[e5a,h6]
    simp only[go_sem,El,hp,hq]
    refine Xc (Uk n) (by simp only[go_sem]) hB ?_
    cases hb:Cz x.body y.body with
    | false=>
     have hz:Ep x y=false:=by rw[hse,hb];simp
     simp only[go_sem,Fa]
     refine Dj ?_
     simp only[go_sem,MC]
     refine F0 ?_
     simp only[go_sem]
     rw[hinv,hS,hz]
     rfl
    | true=>
     simp only[go_sem,El,hp,hq]
     refine Xc (Uk n) (by simp only[go_sem]) hE ?_
     cases he:Cz x.els y.els with
     | false=>
      have hz:Ep x y=false:=by rw[hse,he];simp
      simp only[go_sem,Fa]
      refine Dj ?_
      simp only[go_sem,MC]
      refine F0 ?_
      simp only[go_sem]
      rw[hinv,hS,hz]
      rfl
     | true=>
      have hz:Ep x y=true:=by rw[hse,e1,e2,e3,h4,e5,hb,he];rfl
      simp only[go_sem,El]
      refine Dj ?_
      simp only[go_sem,MC]
      refine .skip (.bend (F2 ?_))
      simp only[go_sem,Cr (show i<9223372036854775807 by omega)]
      exact ih (i+1,τ) (by simp only;omega) ⟨by simp only;omega,by rw[hinv,hS,hz,J7]⟩ _ rfl
theorem Ag3{m:Int}:∃ fn c,Tryz.prog.funcs[43]?=some fn/\fn.body=some c/\fn.name ≠ "runtime.NumGoroutine":=by
 obtain⟨fn,c,hf,hb,hC,hR,hpars,hn⟩:=O1 (Yh (m:=m) _ _ T43 rfl)
 exact⟨fn,c,hf,hb,hn⟩
theorem Akn{m:Int}:∀ (n f:Nat) (s:List V->Option V),prS n f=some s->Fd Tryz.prog (GT m) f s
 | 0,f,s,h=>by
  unfold prS at h
  split at h
  ·rename_i hf
   cases h
   subst hf
   refine⟨Ag3 (m:=m),fun κ w vs us v hg hs hd hl ha hv=>?_⟩
   obtain⟨b,⟨z,z',t,t',l,l',-,h0,-⟩,-⟩:=Ail hv
   omega
  ·exact Yi f s h
 | n+1,f,s,h=>by
  unfold prS at h
  split at h
  ·rename_i hf
   cases h
   subst hf
   exact Aj6 Yh hST (Akn n) T43 rfl (Aph n)
  ·exact Yi f s h
noncomputable def prA (f:Nat):Option (List V->Option V):=if f=43 then some sSA else PT f
theorem Awf:prA 43=some sSA:=by
 unfold prA
 rw[if_pos rfl]
theorem Awg:∀ f s,PT f=some s->prA f=some s:=by
 intro f s h
 unfold prA
 split
 ·rename_i hf
  rw[hf,show PT 43=none by kernel_rfl]at h
  cases h
 ·exact h
theorem Az4{m:Int}:∀ (f:Nat) (s:List V->Option V),prA f=some s->Fd Tryz.prog (GT m) f s:=by
 intro f s h
 unfold prA at h
 split at h
 ·rename_i hf
  cases h
  subst hf
  refine⟨Ag3 (m:=m),fun κ w vs us v hg hs hd hl ha hv=>?_⟩
  obtain⟨n,b,hR,rfl⟩:=As0 hv
  exact(Akn (m:=m) n _ _ (Uk n)).2 κ w vs us _ hg hs hd hl ha (Abr hR)
 ·exact Yi f s h
end Go.Proofs.YtlehfgdhebapeaaGreatDoor.KM
