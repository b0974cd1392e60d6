/- Walks: Same. -/
import Derived.Test.YtlehfgdhebapeaaGreatDoorLx
import Derived.Test.YtlehfgdhebapeaaGreatDoorLv
import Derived.Test.YtlehfgdhebapeaaGreatDoorLh
import Derived.Test.YtlehfgdhebapeaaGreatDoorLe
import Derived.Test.YtlehfgdhebapeaaGreatDoorHf
import Derived.Test.YtlehfgdhebapeaaGreatDoorQt
set_option linter.all false
namespace Go.Proofs.YtlehfgdhebapeaaGreatDoor.KM
open Go
theorem Ag4{α:Type}{f:α × α->Bool}{l l':List α}{i:Nat}{x y:α}(hx:l[i]?=some x)(hy:l'[i]?=some y):(((l.drop i).zip (l'.drop i)).all f)=(f (x,y)&&((l.drop (i+1)).zip (l'.drop (i+1))).all f):=by
 obtain⟨h1,h2⟩:=Ay.1 hx
 obtain⟨h3,h4⟩:=Ay.1 hy
 rw[Gq h1,Gq h3,h2,h4,List.zip_cons_cons,Ar]
theorem Azc(a b d e a' b' d' e':Int)(c f c' f':List UInt8):Uv [1,1,2,1,1,2] (.agg [.int .i64 a,.int .i64 b,.str c,.int .i64 d,.int .i64 e,.str f]) (.agg [.int .i64 a',.int .i64 b',.str c',.int .i64 d',.int .i64 e',.str f'])=some (a==a'&&(b==b'&&(c==c'&&(d==d'&&(e==e'&&f==f'))))):=by
 simp only[Uv,Ag,Br,and_self,if_true,H3,Yc,Cc]
 cases a==a'<;>cases b==b'<;>cases c==c'<;>cases d==d'<;>cases e==e'<;>cases f==f'<;>rfl
set_option maxHeartbeats 16000000 in
theorem Awh:∀ vs v,sSG vs=some v->vs.length=3/\∃ z,v=.bool z/\EvM TT prA [.c af11.body] (Cu 0 vs) [] (fun e' σ'=>By e' σ' [.tmp 6]=some (.bool z)):=by
 intro vs v h
 obtain⟨_,⟨g,k,hsh,⟨hd,ht,hb⟩,rfl,rfl⟩,rfl⟩:=As2 h
 refine⟨rfl,_,rfl,?_⟩
 have n1:(g.decls.map Dp.row).length=g.decls.length:=Cd ..
 have n2:(k.decls.map Dp.row).length=k.decls.length:=Cd ..
 have n3:(g.thrs.map Tp.row).length=g.thrs.length:=Cd ..
 have n4:(k.thrs.map Tp.row).length=k.thrs.length:=Cd ..
 have hgr:g.row=[SL g.dz g.dt (g.decls.map Dp.row),SL g.tz g.tt (g.thrs.map Tp.row)]:=rfl
 have hkr:k.row=[SL k.dz k.dt (k.decls.map Dp.row),SL k.tz k.tt (k.thrs.map Tp.row)]:=rfl
 rw[hgr,hkr]
 refine .seq (F2 ?_)
 simp only[go_sem]
 refine .seq (.seq (F2 ?_))
 by_cases hl1:g.decls.length=k.decls.length
 case neg=>
  have c1:((g.decls.length:Int) != (k.decls.length:Int))=true:=by simp;omega
  simp only[go_sem,n1,n2,c1]
  refine Dj ?_
  simp only[go_sem,MC]
  refine F0 ?_
  simp only[go_sem]
  have hz:Fo g k=false:=by unfold Fo;rw[show(g.decls.length==k.decls.length)=false by simp[hl1]];rfl
  rw[hz]
  rfl
 have c1:((g.decls.length:Int) != (k.decls.length:Int))=false:=by simp;omega
 by_cases hl2:g.thrs.length=k.thrs.length
 case neg=>
  have c2:((g.thrs.length:Int) != (k.thrs.length:Int))=true:=by simp;omega
  simp only[go_sem,n1,n2,n3,n4,c1,c2]
  refine Dj ?_
  simp only[go_sem,MC]
  refine F0 ?_
  simp only[go_sem]
  have hz:Fo g k=false:=by unfold Fo;rw[show(g.thrs.length==k.thrs.length)=false by simp[hl2]];simp
  rw[hz]
  rfl
 have c2:((g.thrs.length:Int) != (k.thrs.length:Int))=false:=by simp;omega
 simp only[go_sem,n1,n2,n3,n4,c1,c2]
 refine Dj ?_
 simp only[go_sem,MC]
 refine .skip (.seq (.seq (F2 ?_)))
 simp only[go_sem]
 refine .blk (.loop ?_)
 have hG:Fo g k=(((g.decls.zip k.decls).all fun p=>Ib p.1 p.2)&&((g.thrs.zip k.thrs).all fun p=>Gs p.1 p.2)):=by
  unfold Fo
  rw[show(g.decls.length==k.decls.length)=true by simp[hl1],show(g.thrs.length==k.thrs.length)=true by simp[hl2]]
  rfl
 refine Abq (α:=Nat × St) (fun a=>g.decls.length - a.1) (fun a=>[(2,.bool false),(3,.ptr 0 0 0),(4,.ptr 1 0 0),(7,.int .i64 (a.1:Int))]) (fun a=>a.2) (fun a=>a.1<=g.decls.length/\(a.2[0]?=some (.row [SL g.dz g.dt (g.decls.map Dp.row),SL g.tz g.tt (g.thrs.map Tp.row)] 26 0 0)/\a.2[1]?=some (.row [SL k.dz k.dt (k.decls.map Dp.row),SL k.tz k.tt (k.thrs.map Tp.row)] 26 0 0))/\((g.decls.zip k.decls).all fun p=>Ib p.1 p.2)=(((g.decls.drop a.1).zip (k.decls.drop a.1)).all fun p=>Ib p.1 p.2)) ?_ (0,_) ⟨Bj _,⟨rfl,rfl⟩,rfl⟩ _ rfl
 rintro⟨i,σ⟩ ⟨hi,⟨o0,o1⟩,hinv⟩ ih
 simp only at hi o0 o1 hinv ih
 refine .seq (.seq (F2 ?_))
 by_cases hc:i<g.decls.length
 case neg=>
  have f1:((i:Int)<(g.decls.length:Int))=False:=eq_false (by omega)
  simp only[go_sem,o0,n1,f1]
  refine Dj ?_
  simp only[go_sem,MC]
  refine .exit rfl ?_
  have hinv1:((g.decls.zip k.decls).all fun p=>Ib p.1 p.2)=true:=by
   rw[hinv,E9 (by omega)]
   rfl
  rw[hinv1,J7]at hG
  clear hinv ih hinv1 f1 hc hi
  refine .seq (.seq (F2 ?_))
  simp only[go_sem]
  refine .blk (.loop ?_)
  refine Abq (α:=Nat × St) (fun a=>g.thrs.length - a.1) (fun a=>[(2,.bool false),(3,.ptr 0 0 0),(4,.ptr 1 0 0),(10,.int .i64 (a.1:Int))]) (fun a=>a.2) (fun a=>a.1<=g.thrs.length/\(a.2[0]?=some (.row [SL g.dz g.dt (g.decls.map Dp.row),SL g.tz g.tt (g.thrs.map Tp.row)] 26 0 0)/\a.2[1]?=some (.row [SL k.dz k.dt (k.decls.map Dp.row),SL k.tz k.tt (k.thrs.map Tp.row)] 26 0 0))/\Fo g k=(((g.thrs.drop a.1).zip (k.thrs.drop a.1)).all fun p=>Gs p.1 p.2)) ?_ (0,σ) ⟨Bj _,⟨o0,o1⟩,hG⟩ _ rfl
  clear o0 o1 σ
  rintro⟨j,σ⟩ ⟨hj,⟨o0,o1⟩,hinv⟩ ih
  simp only at hj o0 o1 hinv ih
  refine .seq (.seq (F2 ?_))
  by_cases hc:j<g.thrs.length
  case neg=>
   have f1:((j:Int)<(g.thrs.length:Int))=False:=eq_false (by omega)
   simp only[go_sem,o0,n3,f1]
   refine Dj ?_
   simp only[go_sem,MC]
   refine .exit rfl (F0 ?_)
   simp only[go_sem]
   rw[hinv,E9 (by omega)]
   rfl
  have f1:((j:Int)<(g.thrs.length:Int))=True:=eq_true (by omega)
  simp only[go_sem,o0,n3,f1]
  refine Dj ?_
  simp only[go_sem,MC]
  refine .skip (.seq (.blk (.seq ?_)))
  obtain⟨x,hx⟩:∃ x,g.thrs[j]?=some x:=⟨_,Az hc⟩
  obtain⟨y,hy⟩:∃ y,k.thrs[j]?=some y:=⟨_,Az (by omega)⟩
  have hx':(g.thrs.map Tp.row)[j]?=some [.str x.nm,.int .i64 x.line,SL x.lz x.lt (x.locals.map fun s=>[V.str s]),SL x.bz x.bt (x.body.map Sp.row)]:=by rw[Ch,hx];rfl
  have hy':(k.thrs.map Tp.row)[j]?=some [.str y.nm,.int .i64 y.line,SL y.lz y.lt (y.locals.map fun s=>[V.str s]),SL y.bz y.bt (y.body.map Sp.row)]:=by rw[Ch,hy];rfl
  have hsl:2<=σ.length:=by have:=(Ay.1 o1).1;omega
  refine Aa4 10 11 [0,1,2,3,4,5,6,7,8,9,10,11,12,13] [0,1,2,3,4,5,6,7,8,9,11,10,12,13] [[],[0],[],[1,2],[3],[],[5],[],[6,7],[8],[],[10],[0,1,2,3,4,10,11],[0,1,2,3,4,5,6,7,8,9,10,11,12]] [[],[0],[],[1,2],[3],[],[5],[],[6,7],[8],[],[10],[0,1,2,3,4,10,11],[0,1,2,3,4,5,6,7,8,9,10,11,12]] (fun e τ=>∃ p q:Nat,Aa3 e [(2,.bool false),(3,.ptr 0 0 0),(4,.ptr 1 0 0),(10,.int .i64 (j:Int)),(11,.ptr p 0 0),(12,.ptr q 0 0)]/\τ[p]?=some (.row [.str x.nm,.int .i64 x.line,SL x.lz x.lt (x.locals.map fun s=>[V.str s]),SL x.bz x.bt (x.body.map Sp.row)] 80 0 0)/\τ[q]?=some (.row [.str y.nm,.int .i64 y.line,SL y.lz y.lt (y.locals.map fun s=>[V.str s]),SL y.bz y.bt (y.body.map Sp.row)] 80 0 0)/\(τ[0]?=some (.row [SL g.dz g.dt (g.decls.map Dp.row),SL g.tz g.tt (g.thrs.map Tp.row)] 26 0 0)/\τ[1]?=some (.row [SL k.dz k.dt (k.decls.map Dp.row),SL k.tz k.tt (k.thrs.map Tp.row)] 26 0 0))) (by kernel_rfl) ?j1 ?j2 ?j0
  case j1=>
   simp only[Ba,Ft,Iy,Ie,Iw,Ag,Br,Nat.reduceAdd]
   simp only[go_sem,o0,o1,hx',hy']
   refine Aq ?_
   simp only[go_sem]
   refine Aq ?_
   simp only[go_sem]
   refine Aq ?_
   simp only[go_sem]
   refine Aq ?_
   simp only[go_sem]
   exact⟨σ.length,σ.length+1,L3 (by kernel_rfl),by simp,by simp,Bv o0,Bv o1⟩
  case j2=>
   simp only[Ba,Ft,Iy,Ie,Iw,Ag,Br,Nat.reduceAdd]
   simp only[go_sem,o0,o1,hx',hy']
   refine Aq ?_
   simp only[go_sem]
   refine Aq ?_
   simp only[go_sem]
   refine Aq ?_
   simp only[go_sem]
   refine Aq ?_
   simp only[go_sem]
   exact⟨σ.length+1,σ.length,L3 (by kernel_rfl),by simp,by simp,Bv o0,Bv o1⟩
  rintro e τ ⟨p,q,he,hp,hq,t0,t1⟩
  refine .env he ?_
  clear he e
  have hT:=Ag4 (f:=fun p=>Gs p.1 p.2) hx hy
  simp only at hT
  have hxt:Gs x y=(x.nm==y.nm&&(x.locals==y.locals&&Cz x.body y.body)):=rfl
  have hmx:=Hj hx
  have hL:=Jn Awg (Anc x.lz y.lz x.lt y.lt x.locals y.locals (hb x hmx).2)
  have hB:sSA [SL x.bz x.bt (x.body.map Sp.row),SL y.bz y.bt (y.body.map Sp.row),.bool false]=some (.bool (Cz x.body y.body)):=Awd ⟨_,_,_,_,_,_,hsh.thrs x hmx,Nat.lt_succ_self _,(hb x hmx).1,rfl,rfl⟩
  refine .seq (F2 ?_)
  by_cases h1:x.nm=y.nm
  case neg=>
   have c1:(x.nm==y.nm)=false:=by simp[h1]
   have hz:Fo g k=false:=by rw[hinv,hT,hxt,c1];rfl
   simp only[go_sem,hp,hq,c1,Fa]
   refine Dj ?_
   simp only[go_sem,MC]
   refine F0 ?_
   simp only[go_sem]
   rw[hz]
   rfl
  have c1:(x.nm==y.nm)=true:=by simp[h1]
  simp only[go_sem,hp,hq,c1,El]
  refine Ax hL (by simp only[go_sem]) ?_
  cases h2:x.locals==y.locals with
  | false=>
   have hz:Fo g k=false:=by rw[hinv,hT,hxt,c1,h2];rfl
   simp only[go_sem,hp,hq,Fa]
   refine Dj ?_
   simp only[go_sem,MC]
   refine F0 ?_
   simp only[go_sem]
   rw[hz]
   rfl
  | true=>
   simp only[go_sem,hp,hq,El]
   refine Ef Awf (by simp only[go_sem]) hB ?_
   cases h3:Cz x.body y.body with
   | false=>
    have hz:Fo g k=false:=by rw[hinv,hT,hxt,c1,h2,h3];rfl
    simp only[go_sem,Fa]
    refine Dj ?_
    simp only[go_sem,MC]
    refine F0 ?_
    simp only[go_sem]
    rw[hz]
    rfl
   | true=>
    have hz:Gs x y=true:=by rw[hxt,c1,h2,h3];rfl
    simp only[go_sem,El]
    refine Dj ?_
    simp only[go_sem,MC]
    refine .skip (.bend (F2 ?_))
    simp only[go_sem,Cr (show j<9223372036854775807 by omega)]
    exact ih (j+1,τ) (by simp only;omega) ⟨by simp only;omega,⟨t0,t1⟩,by rw[hinv,hT,hz,J7]⟩ _ rfl
 have f1:((i:Int)<(g.decls.length:Int))=True:=eq_true (by omega)
 simp only[go_sem,o0,n1,f1]
 refine Dj ?_
 simp only[go_sem,MC]
 refine .skip (.seq (.blk (.seq ?_)))
 obtain⟨x,hx⟩:∃ x,g.decls[i]?=some x:=⟨_,Az hc⟩
 obtain⟨y,hy⟩:∃ y,k.decls[i]?=some y:=⟨_,Az (by omega)⟩
 have hx':(g.decls.map Dp.row)[i]?=some [.int .i64 x.kind,.int .i64 x.line,.str x.nm,.int .i64 x.size,.int .i64 x.init,.str x.on]:=by rw[Ch,hx];rfl
 have hy':(k.decls.map Dp.row)[i]?=some [.int .i64 y.kind,.int .i64 y.line,.str y.nm,.int .i64 y.size,.int .i64 y.init,.str y.on]:=by rw[Ch,hy];rfl
 have hsl:2<=σ.length:=by have:=(Ay.1 o1).1;omega
 refine Aa4 10 11 [0,1,2,3,4,5,6,7,8,9,10,11,12,13] [0,1,2,3,4,5,6,7,8,9,11,10,12,13] [[],[0],[],[1,2],[3],[],[5],[],[6,7],[8],[],[10],[0,1,2,3,4,10,11],[0,1,2,3,4,5,6,7,8,9,10,11,12]] [[],[0],[],[1,2],[3],[],[5],[],[6,7],[8],[],[10],[0,1,2,3,4,10,11],[0,1,2,3,4,5,6,7,8,9,10,11,12]] (fun e τ=>∃ p q:Nat,Aa3 e [(2,.bool false),(3,.ptr 0 0 0),(4,.ptr 1 0 0),(7,.int .i64 (i:Int)),(8,.ptr p 0 0),(9,.ptr q 0 0)]/\τ[p]?=some (.row [.int .i64 x.kind,.int .i64 x.line,.str x.nm,.int .i64 x.size,.int .i64 x.init,.str x.on] 75 0 0)/\τ[q]?=some (.row [.int .i64 y.kind,.int .i64 y.line,.str y.nm,.int .i64 y.size,.int .i64 y.init,.str y.on] 75 0 0)/\(p≠q/\2<=p/\2<=q)/\(τ[0]?=some (.row [SL g.dz g.dt (g.decls.map Dp.row),SL g.tz g.tt (g.thrs.map Tp.row)] 26 0 0)/\τ[1]?=some (.row [SL k.dz k.dt (k.decls.map Dp.row),SL k.tz k.tt (k.thrs.map Tp.row)] 26 0 0))) (by kernel_rfl) ?h1 ?h2 ?k0
 case h1=>
  simp only[Ba,Ft,Iy,Ie,Iw,Ag,Br,Nat.reduceAdd]
  simp only[go_sem,o0,o1,hx',hy']
  refine Aq ?_
  simp only[go_sem]
  refine Aq ?_
  simp only[go_sem]
  refine Aq ?_
  simp only[go_sem]
  refine Aq ?_
  simp only[go_sem]
  exact⟨σ.length,σ.length+1,L3 (by kernel_rfl),by simp,by simp,⟨by omega,by omega,by omega⟩,Bv o0,Bv o1⟩
 case h2=>
  simp only[Ba,Ft,Iy,Ie,Iw,Ag,Br,Nat.reduceAdd]
  simp only[go_sem,o0,o1,hx',hy']
  refine Aq ?_
  simp only[go_sem]
  refine Aq ?_
  simp only[go_sem]
  refine Aq ?_
  simp only[go_sem]
  refine Aq ?_
  simp only[go_sem]
  exact⟨σ.length+1,σ.length,L3 (by kernel_rfl),by simp,by simp,⟨by omega,by omega,by omega⟩,Bv o0,Bv o1⟩
 rintro e τ ⟨p,q,he,hp,hq,⟨hpq,hp2,hq2⟩,t0,t1⟩
 refine .env he ?_
 clear he e
 have hpl:=(Ay.1 hp).1
 have hql:=(Ay.1 hq).1
 have s1:(τ.set p (.row [.int .i64 x.kind,.int .i64 0,.str x.nm,.int .i64 x.size,.int .i64 x.init,.str x.on] 75 0 0))[q]?=some (.row [.int .i64 y.kind,.int .i64 y.line,.str y.nm,.int .i64 y.size,.int .i64 y.init,.str y.on] 75 0 0):=by rw[Bd hpq];exact hq
 have r1:((τ.set p (.row [.int .i64 x.kind,.int .i64 0,.str x.nm,.int .i64 x.size,.int .i64 x.init,.str x.on] 75 0 0)).set q (.row [.int .i64 y.kind,.int .i64 0,.str y.nm,.int .i64 y.size,.int .i64 y.init,.str y.on] 75 0 0))[p]?=some (.row [.int .i64 x.kind,.int .i64 0,.str x.nm,.int .i64 x.size,.int .i64 x.init,.str x.on] 75 0 0):=by rw[Bd (Ne.symm hpq),A1 hpl]
 have r2:((τ.set p (.row [.int .i64 x.kind,.int .i64 0,.str x.nm,.int .i64 x.size,.int .i64 x.init,.str x.on] 75 0 0)).set q (.row [.int .i64 y.kind,.int .i64 0,.str y.nm,.int .i64 y.size,.int .i64 y.init,.str y.on] 75 0 0))[q]?=some (.row [.int .i64 y.kind,.int .i64 0,.str y.nm,.int .i64 y.size,.int .i64 y.init,.str y.on] 75 0 0):=A1 (by rw[Fi];exact hql)
 have t0':((τ.set p (.row [.int .i64 x.kind,.int .i64 0,.str x.nm,.int .i64 x.size,.int .i64 x.init,.str x.on] 75 0 0)).set q (.row [.int .i64 y.kind,.int .i64 0,.str y.nm,.int .i64 y.size,.int .i64 y.init,.str y.on] 75 0 0))[0]?=τ[0]?:=by rw[Bd (by omega),Bd (by omega)]
 have t1':((τ.set p (.row [.int .i64 x.kind,.int .i64 0,.str x.nm,.int .i64 x.size,.int .i64 x.init,.str x.on] 75 0 0)).set q (.row [.int .i64 y.kind,.int .i64 0,.str y.nm,.int .i64 y.size,.int .i64 y.init,.str y.on] 75 0 0))[1]?=τ[1]?:=by rw[Bd (by omega),Bd (by omega)]
 refine .seq (.seq (F2 ?_))
 simp only[go_sem,Fa]
 refine Dj ?_
 simp only[go_sem,MC]
 refine F2 ?_
 simp only[go_sem,hp,s1]
 generalize(τ.set p (.row [.int .i64 x.kind,.int .i64 0,.str x.nm,.int .i64 x.size,.int .i64 x.init,.str x.on] 75 0 0)).set q (.row [.int .i64 y.kind,.int .i64 0,.str y.nm,.int .i64 y.size,.int .i64 y.init,.str y.on] 75 0 0)=τ2 at r1 r2 t0' t1' ⊢
 refine .seq (F2 ?_)
 have hD:=Ag4 (f:=fun p=>Ib p.1 p.2) hx hy
 simp only at hD
 simp only[go_sem,r1,r2,Azc]
 have hxd:Ib x y=(x.kind==y.kind&&((0:Int)==0&&(x.nm==y.nm&&(x.size==y.size&&(x.init==y.init&&x.on==y.on))))):=by
  rw[show((0:Int)==0)=true from rfl,J7]
  rfl
 rw[<-hxd]
 cases he:Ib x y with
 | false=>
  have hz:Fo g k=false:=by rw[hG,hinv,hD,he];rfl
  refine Dj ?_
  simp only[go_sem,MC,Fa]
  refine F0 ?_
  simp only[go_sem]
  rw[hz]
  rfl
 | true=>
  refine Dj ?_
  simp only[go_sem,MC,El]
  refine .skip (.bend (F2 ?_))
  simp only[go_sem,Cr (show i<9223372036854775807 by omega)]
  exact ih (i+1,τ2) (by simp only;omega) ⟨by simp only;omega,⟨by rw[t0',t0],by rw[t1',t1]⟩,by rw[hinv,hD,he,J7]⟩ _ rfl
noncomputable def prG (f:Nat):Option (List V->Option V):=if f=11 then some sSG else PT f
theorem Api:prG 11=some sSG:=by
 unfold prG
 rw[if_pos rfl]
theorem Nl:∀ f s,PT f=some s->prG f=some s:=by
 intro f s h
 unfold prG
 split
 ·rename_i hf
  rw[hf,show PT 11=none by kernel_rfl]at h
  cases h
 ·exact h
theorem Az5{m:Int}:∀ (f:Nat) (s:List V->Option V),prG f=some s->Fd Tryz.prog (GT m) f s:=by
 intro f s h
 unfold prG at h
 split at h
 ·rename_i hf
  cases h
  subst hf
  exact Aj6 Yh hST Az4 T11 rfl Awh
 ·exact Yi f s h
theorem Aaf{α:Type}{f:α->List UInt8}:∀ {l:List α},(∀ x∈l,1<=(f x).length)->l.length<=((l.map f).flatten).length
 | [],_=>by simp
 | x::l,h=>by
  have h1:=h x Co
  have h2:=Aaf (l:=l) fun y hy=>h y (Cb _ hy)
  rw[Ao,Df,Al,Ag]
  omega
theorem Afg{α:Type}{f:α->List UInt8}:∀ {l:List α} {x:α},x∈l->(f x).length<=((l.map f).flatten).length
 | y::l,x,h=>by
  rw[Ao,Df,Al]
  rcases Bm.1 h with rfl | h
  ·omega
  ·have:=Afg (f:=f) h
   omega
theorem Ain:∀ l:List (List UInt8),l.length<=(Ca l).length+1
 | []=>by simp
 | [a]=>by simp
 | a::b::l=>by
  have:=Ain (b::l)
  simp only[Ca,Al,Ag]at this ⊢
  omega
theorem Alj{p:Gp}{n:Nat}(h:(D4 p).length<=n):p.decls.length<=n/\p.thrs.length<=n/\∀ t∈p.thrs,t.locals.length<=n+1:=by
 unfold D4 at h
 rw[Al]at h
 have h1:=Aaf (f:=fun d:Dp=>Bq d++[59,10]) (l:=p.decls) fun d _=>by simp
 have h2:=Aaf (f:=Cs) (l:=p.thrs) fun t _=>by unfold Cs;simp
 refine⟨by omega,by omega,fun t ht=>?_⟩
 have h3:=Afg (f:=Cs) ht
 have h4:(Ca t.locals).length<=(Cs t).length:=by
  unfold Cs
  simp only[Al,Ag,Br]
  omega
 have h5:=Ain t.locals
 omega
theorem Apj{p q:Gp}(h:ShG p)(hl:(D4 p).length<=4096)(hz:∀ t∈p.thrs,Sp.szs t.body<=1000000):sSG [.agg p.row,.agg q.row,.bool false]=some (.bool (Fo p q)):=by
 obtain⟨h1,h2,h3⟩:=Alj hl
 exact Awe ⟨p,q,h,⟨by omega,by omega,fun t ht=>⟨hz t ht,by have:=h3 t ht;omega⟩⟩,rfl,rfl⟩
end Go.Proofs.YtlehfgdhebapeaaGreatDoor.KM
