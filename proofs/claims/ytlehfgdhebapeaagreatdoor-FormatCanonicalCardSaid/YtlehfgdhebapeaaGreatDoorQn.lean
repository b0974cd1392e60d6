/- More functions known by what they return; loops whatever is drawn. -/
import Derived.Test.YtlehfgdhebapeaaGreatDoorLv
import Derived.Test.YtlehfgdhebapeaaGreatDoorLj
import Derived.Test.YtlehfgdhebapeaaGreatDoorGf
set_option linter.all false
namespace Go.Proofs.YtlehfgdhebapeaaGreatDoor.KM
open Go
def Aa3(e e':Env):Prop:=∀ m,e.get m=e'.get m
section
variable {T:Nat->Option AF} {pr pr':Nat->Option (List V->Option V)}
theorem Asz(hp:∀ f s,pr f=some s->pr' f=some s){j:J}(h:Ev T pr j):Ev T pr' j:=by
 induction h with
 | opsNil=>exact .opsNil
 | opsSkip h1 _ ih=>exact .opsSkip h1 ih
 | opsVal h1 h2 _ ih=>exact .opsVal h1 h2 ih
 | opsPrim h1 h2 h3 h4 h5 _ ih=>exact .opsPrim h1 h2 (hp _ _ h3) h4 h5 ih
 | opsPure h1 h2 h3 h4 h5 h6 _ h8 _ ih1 ih2=>exact .opsPure h1 h2 h3 h4 h5 h6 ih1 h8 ih2
 | opsOwn h1 h2 h3 h4 h5 h6 _ _ ih1 ih2=>exact .opsOwn h1 h2 h3 h4 h5 h6 ih1 ih2
 | opsAny h1 h2 h3 h4 _ _ ih1 ih2=>exact .opsAny h1 h2 h3 h4 ih1 ih2
 | opsThr h1 h2 h3 h4 h5 _ _ ih1 ih2=>exact .opsThr h1 h2 h3 h4 h5 ih1 ih2
 | opsSpec h1 h2 h3 h4 h5 h6 _ ih=>exact .opsSpec h1 h2 h3 h4 h5 h6 ih
 | fn h1 h2 h3 _ h5 h6 h7 h8 ih=>exact .fn h1 h2 h3 ih h5 h6 h7 h8
 | fnL h1 h2 h3 _ h5 h6 ih=>exact .fnL h1 h2 h3 ih h5 h6
 | fnS h1 h2 h3 _ h5 h6 h7 h8 h9 ih=>exact .fnS h1 h2 h3 ih h5 h6 h7 h8 h9
 | fnZ h1 h2 h3 _ h5 h6 h7 h8 ih=>exact .fnZ h1 h2 h3 ih h5 h6 h7 h8
 | cNil=>exact .cNil
 | cSkip _ ih=>exact .cSkip ih
 | cReg _ _ ih1 ih2=>exact .cReg ih1 ih2
 | cDrw E2 _ h2 _ ih1 ih2=>exact .cDrw E2 ih1 h2 ih2
 | cSeq _ ih=>exact .cSeq ih
 | cCond h1 _ ih=>exact .cCond h1 ih
 | cBlk _ ih=>exact .cBlk ih
 | cEnd _ ih=>exact .cEnd ih
 | cLoop _ ih=>exact .cLoop ih
 | cAgain _ ih=>exact .cAgain ih
 | cExit h1 _ ih=>exact .cExit h1 ih
 | cRet=>exact .cRet
theorem Jn(hp:∀ f s,pr f=some s->pr' f=some s){f:Nat}{vs:List V}{v:V}(h:Fn T pr f vs v):Fn T pr' f vs v:=by
 obtain⟨F,h1,h2,h3,v0,σ0,h4,h5⟩:=h
 exact⟨F,h1,h2,h3,v0,σ0,Asz hp h4,h5⟩
theorem Abq{keep:List Nat}{c:AC}{k:List It}{Q:Env->St->Prop}{α:Type}(μ:α->Nat)(E:α->Env)(Z:α->St)(I:α->Prop)
  (h:∀ a,I a->(∀ b,μ b<μ a->I b->∀ e,e.keep keep=E b->EvM T pr (.l keep c::k) e (Z b) Q)->EvM T pr (.c c::.l keep c::k) (E a) (Z a) Q):∀ a,I a->∀ e,e.keep keep=E a->EvM T pr (.l keep c::k) e (Z a) Q:=by
 suffices ∀ n a,μ a=n->I a->∀ e,e.keep keep=E a->EvM T pr (.l keep c::k) e (Z a) Q from fun a=>this _ a rfl
 intro n
 induction n using Nat.strongRecOn with
 | _ n ih=>exact fun a hm hI e he=>.again (by rw[he];exact h a hI fun b hb hI e he=>ih (μ b) (hm ▸ hb) b rfl hI e he)
theorem Aa4{deps:List (List Nat)}{ops:List AI}{kill:List Nat}{k:List It}{e:Env}{σ:St}{Q:Env->St->Prop}(a b:Nat)(P1 P2:List Nat)(d1 d2:List (List Nat))(PP:Env->St->Prop)
  (hp:((deps.length==ops.length)&&((List.range ops.length).all fun j=>(deps.getD j []).all fun d=>decide (d<j))&&(a==b)==false&&Mg deps d1 [(a,b)] ops.length P1&&Mg deps d2 [(b,a)] ops.length P2&&Ha d1 (Ba ops P1)&&Ha d2 (Ba ops P2)&&(Ba ops P1).length==ops.length&&(Ba ops P2).length==ops.length)=true)
  (h1:wg T pr d1 (Ba ops P1).length [] [] (fun e σ=>PP (e.del kill) σ) 0 (Ba ops P1) e σ [] [])
  (h2:wg T pr d2 (Ba ops P2).length [] [] (fun e σ=>PP (e.del kill) σ) 0 (Ba ops P2) e σ [] [])
  (k0:∀ e σ,PP e σ->EvM T pr k e σ Q):EvM T pr (.c (.drw kill deps ops)::k) e σ Q:=by
 simp only[Ad,beq_iff_eq]at hp
 obtain⟨⟨⟨⟨⟨⟨⟨⟨hs1,hs2⟩,hab⟩,p1⟩,p2⟩,s1⟩,s2⟩,l1⟩,l2⟩:=hp
 have fin:∀ {e1:Env} {σ1:St} {P:Env->St->Prop},W T pr [] (e1.del []) σ1 P->P e1 σ1:=fun {e1 σ1 P} h=>by
  have hd:∀ e:Env,e.del []=e:=fun e=>by
   induction e with
   | nil=>rfl
   | cons p r ih=>obtain⟨m,v⟩:=p;simp only[Env.del,Vk,Dr,if_false,ih]
  rw[hd,Ri]at h
  exact h
 obtain⟨e1,σ1,t1,g1⟩:=I5 _ _ _ _ _ _ h1
 have k1:=k0 _ _ (fin (P:=fun e σ=>PP (e.del kill) σ) g1)
 obtain⟨e2,σ2,t2,g3⟩:=I5 _ _ _ _ _ _ h2
 have k2:=k0 _ _ (fin (P:=fun e σ=>PP (e.del kill) σ) g3)
 have D1:=O7 P1 d1 _ rfl l1 p1 s1 t1 fun _=>rfl
 have D2:=O7 P2 d2 _ rfl l2 p2 s2 t2 fun _=>rfl
 simp only[A5,Ew,decide_eq_true_eq]at hs2
 have key:∀ t,∃ (E' E3:Env) (S':St),Ev T pr (.ops (Ba ops (Gz deps t)) e σ E' S')/\(∀ m,E'.get m=E3.get m)/\EvM T pr k (E3.del kill) S' Q:=fun t=>by
  have hL:LXt deps ops.length [] (Gz deps t):=by
   unfold Gz
   rw[Wd]
   exact Abj hs1 (fun j hj d hd=>hs2 j hj d hd) deps.length t [] (by simp[hs1]) Mt (fun i hi=>by cases hi)
  rcases Aja (L:=Gz deps t) (a:=a) (b:=b) (by simpa using hab) with hB | hB
  ·obtain⟨E',h,hg⟩:=D1 _ hL (fun p hp=>by simp at hp;subst hp;exact hB)
   exact⟨E',_,_,h,hg,k1⟩
  ·obtain⟨E',h,hg⟩:=D2 _ hL (fun p hp=>by simp at hp;subst hp;exact hB)
   exact⟨E',_,_,h,hg,k2⟩
 exact .drw (fun t=>(key t).choose) (fun t=>(key t).choose_spec.choose) (fun t=>(key t).choose_spec.choose_spec.choose) (fun t=>(key t).choose_spec.choose_spec.choose_spec.1) (fun t=>(key t).choose_spec.choose_spec.choose_spec.2.1) (fun t=>(key t).choose_spec.choose_spec.choose_spec.2.2)
end
theorem Fu{z z':Bool}{t t':Nat}{xs ys:List (List V)}(h:SL z t xs=SL z' t' ys):xs=ys:=by
 unfold SL at h
 split at h
 ·rename_i h1
  split at h
  ·rename_i h2
   rw[h1.2,h2.2]
  ·cases h
 ·split at h
  ·cases h
  ·injection h
mutual
theorem Aff:∀ (x x' y y':Xp),x.row=x'.row->y.row=y'.row->Cw x y=Cw x' y'
 | ⟨op,n,nm,z,t,l⟩,⟨op',n',nm',z',t',l'⟩,⟨o,m,s,a,b,k⟩,⟨o',m',s',a',b',k'⟩,h1,h2=>by
  rw[Au,Au]at h1 h2
  simp only[Hl,V.int.injEq,V.str.injEq,true_and,and_true]at h1 h2
  obtain⟨rfl,rfl,rfl,h1⟩:=h1
  obtain⟨rfl,rfl,rfl,h2⟩:=h2
  rw[Cw,Cw,Zh l l' k k' (Fu h1) (Fu h2)]
theorem Zh:∀ (l l' k k':List Xp),l.map Xp.row=l'.map Xp.row->k.map Xp.row=k'.map Xp.row->Cj l k=Cj l' k'
 | [],[],k,k',_,h2=>by
  cases k with
  | nil=>cases k' with
   | nil=>rfl
   | cons a b=>simp at h2
  | cons a b=>cases k' with
   | nil=>simp at h2
   | cons a b=>rfl
 | [],_::_,_,_,h1,_=>by simp at h1
 | _::_,[],_,_,h1,_=>by simp at h1
 | x::l,x'::l',k,k',h1,h2=>by
  simp only[Ao,Hl]at h1
  cases k with
  | nil=>cases k' with
   | nil=>rfl
   | cons a b=>simp at h2
  | cons y k=>cases k' with
   | nil=>simp at h2
   | cons y' k'=>
    simp only[Ao,Hl]at h2
    rw[Cj,Cj,Aff x x' y y' h1.1 h2.1,Zh l l' k k' h1.2 h2.2]
end
mutual
theorem Am9:∀ (x x' y y':Sp),x.row=x'.row->y.row=y'.row->Ep x y=Ep x' y'
 | ⟨op,ln,nm,ar,iz,it,ix,ex,bz,bt,bo,ez,et,el⟩,⟨op',ln',nm',ar',iz',it',ix',ex',bz',bt',bo',ez',et',el'⟩,⟨o,m,s,a,jz,jt,jx,ey,cz,ct,co,fz,ft,fl⟩,⟨o',m',s',a',jz',jt',jx',ey',cz',ct',co',fz',ft',fl'⟩,h1,h2=>by
  rw[Mz,Mz]at h1 h2
  simp only[Bg,Bf,Hl,V.int.injEq,V.str.injEq,true_and,and_true]at h1 h2
  obtain⟨rfl,-,rfl,rfl,h1,h3⟩:=h1
  obtain⟨rfl,-,rfl,rfl,h2,h4⟩:=h2
  have e1:=List.append_inj h3 (by rw[Au,Au];rfl)
  have e2:=List.append_inj h4 (by rw[Au,Au];rfl)
  simp only[Hl,and_true]at e1 e2
  rw[Ep,Ep,Aff ex ex' ey ey' e1.1 e2.1,Zh ix ix' jx jx' (Fu h1) (Fu h2),S3 bo bo' co co' (Fu e1.2.1) (Fu e2.2.1),S3 el el' fl fl' (Fu e1.2.2) (Fu e2.2.2)]
theorem S3:∀ (l l' k k':List Sp),l.map Sp.row=l'.map Sp.row->k.map Sp.row=k'.map Sp.row->Cz l k=Cz l' k'
 | [],[],k,k',_,h2=>by
  cases k with
  | nil=>cases k' with
   | nil=>rfl
   | cons a b=>simp at h2
  | cons a b=>cases k' with
   | nil=>simp at h2
   | cons a b=>rfl
 | [],_::_,_,_,h1,_=>by simp at h1
 | _::_,[],_,_,h1,_=>by simp at h1
 | x::l,x'::l',k,k',h1,h2=>by
  simp only[Ao,Hl]at h1
  cases k with
  | nil=>cases k' with
   | nil=>rfl
   | cons a b=>simp at h2
  | cons y k=>cases k' with
   | nil=>simp at h2
   | cons y' k'=>
    simp only[Ao,Hl]at h2
    rw[Cz,Cz,Am9 x x' y y' h1.1 h2.1,S3 l l' k k' h1.2 h2.2]
end
def Lt(n:Nat)(vs:List V)(b:Bool):Prop:=∃ (z z':Bool) (t t':Nat) (l l':List Sp),(∀ s∈l,ShS s)/\Sp.szs l<n/\Sp.szs l<=1000000/\vs=[SL z t (l.map Sp.row),SL z' t' (l'.map Sp.row),.bool false]/\b=Cz l l'
theorem Aik{n m:Nat}{vs:List V}{b b':Bool}(h:Lt n vs b)(h':Lt m vs b'):b=b':=by
 obtain⟨z,z',t,t',l,l',-,-,-,rfl,rfl⟩:=h
 obtain⟨y,y',u,u',k,k',-,-,-,h,rfl⟩:=h'
 simp only[Hl,and_true]at h
 exact S3 l k l' k' (Fu h.1) (Fu h.2)
open Classical in
noncomputable def sSS (n:Nat) (vs:List V):Option V:=if h:∃ b,Lt n vs b then some (.bool h.choose) else none
theorem Abr{n:Nat}{vs:List V}{b:Bool}(h:Lt n vs b):sSS n vs=some (.bool b):=by
 unfold sSS
 rw[dif_pos ⟨b,h⟩,Aik (Exists.choose_spec (⟨b,h⟩:∃ b,Lt n vs b)) h]
theorem Ail{n:Nat}{vs:List V}{v:V}(h:sSS n vs=some v):∃ b,Lt n vs b/\v=.bool b:=by
 unfold sSS at h
 split at h
 ·rename_i hb
  exact⟨_,hb.choose_spec,by injection h with h;exact h.symm⟩
 ·cases h
open Classical in
noncomputable def sSA (vs:List V):Option V:=if h:∃ n b,Lt n vs b then some (.bool h.choose_spec.choose) else none
theorem Awd{n:Nat}{vs:List V}{b:Bool}(h:Lt n vs b):sSA vs=some (.bool b):=by
 unfold sSA
 rw[dif_pos ⟨n,b,h⟩,Aik (Exists.choose_spec (Exists.choose_spec (⟨n,b,h⟩:∃ n b,Lt n vs b))) h]
theorem As0{vs:List V}{v:V}(h:sSA vs=some v):∃ n b,Lt n vs b/\v=.bool b:=by
 unfold sSA at h
 split at h
 ·rename_i hb
  exact⟨_,_,hb.choose_spec.choose_spec,by injection h with h;exact h.symm⟩
 ·cases h
def Sd(vs:List V)(b:Bool):Prop:=∃ p q:Gp,ShG p/\(p.decls.length<=1000000/\p.thrs.length<=1000000/\∀ t∈p.thrs,Sp.szs t.body<=1000000/\t.locals.length<=1000000)/\vs=[.agg p.row,.agg q.row,.bool false]/\b=Fo p q
theorem Apf{d d':Dp}(h:d.row=d'.row):d=d':=by
 obtain⟨a,b,c,e,f,g⟩:=d
 obtain⟨a',b',c',e',f',g'⟩:=d'
 simp only[Dp.row,Hl,V.int.injEq,V.str.injEq,true_and,and_true]at h
 obtain⟨rfl,rfl,rfl,rfl,rfl,rfl⟩:=h
 rfl
theorem Zx:∀ {l l':List Dp},l.map Dp.row=l'.map Dp.row->l=l'
 | [],[],_=>rfl
 | [],_::_,h=>by simp at h
 | _::_,[],h=>by simp at h
 | x::l,x'::l',h=>by
  simp only[Ao,Hl]at h
  rw[Apf h.1,Zx h.2]
theorem Aae:∀ {l l':List (List UInt8)},(l.map fun s=>[V.str s])=(l'.map fun s=>[V.str s])->l=l'
 | [],[],_=>rfl
 | [],_::_,h=>by simp at h
 | _::_,[],h=>by simp at h
 | x::l,x'::l',h=>by
  simp only[Ao,Hl,V.str.injEq,and_true]at h
  rw[h.1,Aae h.2]
theorem Ana(x x' y y':Tp)(h1:x.row=x'.row)(h2:y.row=y'.row):Gs x y=Gs x' y':=by
 simp only[Tp.row,Hl,V.int.injEq,V.str.injEq,true_and,and_true]at h1 h2
 unfold Gs
 rw[h1.1,h2.1,Aae (Fu h1.2.2.1),Aae (Fu h2.2.2.1),S3 _ _ _ _ (Fu h1.2.2.2) (Fu h2.2.2.2)]
theorem Aek:∀ {l l' k k':List Tp},l.map Tp.row=l'.map Tp.row->k.map Tp.row=k'.map Tp.row->((l.zip k).all fun p=>Gs p.1 p.2)=((l'.zip k').all fun p=>Gs p.1 p.2)
 | [],[],_,_,_,_=>by simp
 | [],_::_,_,_,h,_=>by simp at h
 | _::_,[],_,_,h,_=>by simp at h
 | _::_,_::_,[],[],_,_=>by simp
 | _::_,_::_,[],_::_,_,h=>by simp at h
 | _::_,_::_,_::_,[],_,h=>by simp at h
 | x::l,x'::l',y::k,y'::k',h1,h2=>by
  simp only[Ao,Hl]at h1 h2
  simp only[List.zip_cons_cons,Ar,Ana x x' y y' h1.1 h2.1,Aek h1.2 h2.2]
theorem Anb{p p' q q':Gp}(h1:p.row=p'.row)(h2:q.row=q'.row):Fo p q=Fo p' q':=by
 simp only[Gp.row,Hl,and_true]at h1 h2
 have e1:=congrArg List.length (Fu h1.2)
 have e2:=congrArg List.length (Fu h2.2)
 simp only[Cd]at e1 e2
 unfold Fo
 rw[Zx (Fu h1.1),Zx (Fu h2.1),e1,e2,Aek (Fu h1.2) (Fu h2.2)]
theorem As1{vs:List V}{b b':Bool}(h:Sd vs b)(h':Sd vs b'):b=b':=by
 obtain⟨p,q,-,-,rfl,rfl⟩:=h
 obtain⟨p',q',-,-,h,rfl⟩:=h'
 simp only[Hl,V.agg.injEq,and_true]at h
 exact Anb h.1 h.2
open Classical in
noncomputable def sSG (vs:List V):Option V:=if h:∃ b,Sd vs b then some (.bool h.choose) else none
theorem Awe{vs:List V}{b:Bool}(h:Sd vs b):sSG vs=some (.bool b):=by
 unfold sSG
 rw[dif_pos ⟨b,h⟩,As1 (Exists.choose_spec (⟨b,h⟩:∃ b,Sd vs b)) h]
theorem As2{vs:List V}{v:V}(h:sSG vs=some v):∃ b,Sd vs b/\v=.bool b:=by
 unfold sSG at h
 split at h
 ·rename_i hb
  exact⟨_,hb.choose_spec,by injection h with h;exact h.symm⟩
 ·cases h
end Go.Proofs.YtlehfgdhebapeaaGreatDoor.KM
