/- Plain: how both programs look for the thread of a name. -/
import Derived.Test.YtcoeikinocflnaaGreatDoorUg
import Derived.Test.YtcoeikinocflnaaGreatDoorA5
import Derived.Test.YtcoeikinocflnaaGreatDoorLn
import Derived.Test.YtcoeikinocflnaaGreatDoorLc
import Derived.Test.YtcoeikinocflnaaGreatDoorHx
import Derived.Test.YtcoeikinocflnaaGreatDoorNu
import Derived.Test.YtcoeikinocflnaaGreatDoorNj
import Derived.Test.YtcoeikinocflnaaGreatDoorKy
import Derived.Test.YtcoeikinocflnaaGreatDoorGg
import Derived.Test.YtcoeikinocflnaaGreatDoorQt
set_option linter.all false
namespace Go.Proofs.YtcoeikinocflnaaGreatDoor.KM
section
variable {α β:Type} [DecidableEq α] [DecidableEq β]
theorem Afz(A B:List (β × List α)):(Fe (A++B)).length=(Fe A).length+(Fe B).length:=by unfold Fe;simp
theorem Zp{nm:β}:∀ {A B:List (β × List α)},(∀ q∈A,q.1≠nm)->G6 nm (A++B)=((Fe A).length+(G6 nm B).1,(G6 nm B).2)
 | [],B,_=>by rw[Bw];simp[Fe]
 | q::A,B,h=>by
  rw[Cq,G6,if_neg (h q Dm),Zp fun r hr=>h r (Db _ hr),Zn,Aj,Bg]
  simp only[P5]
def Jf(nm:β)(Q:List (β × List α))(k:Nat):Prop:=∀ q∈Q.take k,q.1≠nm
theorem Ahq(nm:β)(Q:List (β × List α)):Jf nm Q 0:=fun q hq=>by simp at hq
theorem Ahr{nm:β}{Q:List (β × List α)}{k:Nat}(h:Jf nm Q k){q:β × List α}(hq:Q[k]?=some q)(hn:q.1≠nm):Jf nm Q (k+1):=fun r hr=>by
 rw[Ok,hq]at hr
 rcases Ei.1 hr with hr | hr
 ·exact h r hr
 ·simp at hr;rw[hr];exact hn
def D7(Q:List (β × List α))(k:Nat):Nat:=(Fe (Q.take k)).length
theorem Zr{Q:List (β × List α)}{k:Nat}{q:β × List α}(hq:Q[k]?=some q):D7 Q (k+1)=D7 Q k+q.2.length:=by
 unfold D7
 rw[Ok,hq,Yw,Afz]
 unfold Fe
 simp
theorem Tf(Q:List (β × List α))(k:Nat):D7 Q k<=(Fe Q).length:=by
 unfold D7
 have:=Afz (Q.take k) (Q.drop k)
 rw[Jh]at this
 omega
theorem Aoi{nm:β}{Q:List (β × List α)}{k:Nat}{q:β × List α}(h:Jf nm Q k)(hq:Q[k]?=some q)(hn:q.1=nm):G6 nm Q=(D7 Q k,some q.2):=by
 obtain⟨hk,he⟩:=Au.1 hq
 have:=Zp (B:=Q.drop k) h
 rw[Jh,Fg hk,he,G6,if_pos hn]at this
 exact this
theorem Ae0{nm:β}{Q:List (β × List α)}(h:Jf nm Q Q.length):G6 nm Q=(D7 Q Q.length,none):=by
 have:=Zp (B:=[]) h
 rw[Cx,C6,G6]at this
 rw[this]
 unfold D7
 rw[C6]
 rfl
inductive FoundR (nm:β) (Q:List (β × List α)) (k:Nat):Int->Nat->Prop
 | no:Jf nm Q k->FoundR nm Q k (-1) (D7 Q k)
 | yes {j:Nat} {q:β × List α}:j<k->Jf nm Q j->Q[j]?=some q->q.1=nm->FoundR nm Q k (j:Int) (D7 Q j)
theorem Amy(nm:β)(Q:List (β × List α)):FoundR nm Q 0 (-1) 0:=.no (Ahq nm Q)
theorem Aoj{nm:β}{Q:List (β × List α)}{k:Nat}{q:β × List α}(h:Jf nm Q k)(hq:Q[k]?=some q)(hn:q.1=nm):FoundR nm Q (k+1) (k:Int) (D7 Q k):=.yes (Y0 k) h hq hn
theorem Amz{nm:β}{Q:List (β × List α)}{k j b:Nat}(h:FoundR nm Q k (j:Int) b):FoundR nm Q (k+1) (j:Int) b:=by
 generalize hf:(j:Int)=f at h
 cases h with
 | no h=>omega
 | yes h1 h2 h3 h4=>exact .yes (by omega) h2 h3 h4
theorem Am0{nm:β}{Q:List (β × List α)}{k:Nat}{q:β × List α}(h:Jf nm Q k)(hq:Q[k]?=some q)(hn:q.1≠nm):FoundR nm Q (k+1) (-1) (D7 Q k+q.2.length):=by
 rw[<-Zr hq]
 exact .no (Ahr h hq hn)
theorem Ahs{nm:β}{s:List α}{Q:List (β × List α)}{k:Nat}{q:β × List α}(h:Jf nm Q k)(hq:Q[k]?=some q)(hn:q.1=nm):Hu (nm,s) Q=Ga (D7 Q k) (Bx 0 s q.2):=by
 unfold Hu
 rw[Aoi h hq hn,P3]
theorem Af0{nm:β}{s:List α}{Q:List (β × List α)}(h:Jf nm Q Q.length):Hu (nm,s) Q=List.replicate s.length (-1)/\Hu (nm,s) Q=Ga (D7 Q Q.length) (Bx 0 s []):=by
 have h2:(G6 nm Q).2=none:=by rw[Ae0 h]
 refine⟨Aog (p:=(nm,s)) h2,?_⟩
 unfold Hu
 rw[Ae0 h,Option.getD_none]
theorem Aef{P:List (β × List α)}{i:Nat}{p:β × List α}(Q:List (β × List α))(h:P[i]?=some p):Ey (P.take (i+1)) Q=Ey (P.take i) Q++Hu p Q:=by
 unfold Ey
 rw[Ok,h,Yw,List.flatMap_append]
 simp
end
variable {T:Nat->Option AF} {pr:Nat->Option (List V->Option V)}
section
variable {deps:List (List Nat)} {ops:List AI} {e e1:Env} {σ σ1:St} {env:Nat->Env} {st:Nat->St} {val:Nat->V} {ro:Nat->Option (St->Prop)}
end
section
variable {deps:List (List Nat)} {ops:List AI} {e e1:Env} {σ σ1:St} {X:List (Nat × Nat)}
end
/-! environments by their slots -/
/-! end of the cases -/
/-! end of the cases -/
/-! what a struct and its lists may change -/
attribute [go_sem] Nat.sub_zero A5 Int.natCast_nonneg
/-! interleaveref01 -/
/-! shapes -/
def shH(op n:Int)(nm:List UInt8)(k:Nat):Bool:=
 arE op==(k:Int)&&((op==2||op==3)==!(nm==[])&&((!(op==2||op==3)||Dz nm)&&(decide (0<=n)&&(op==1||n==0))))
mutual
def shX:Xp->Bool
 | ⟨op,n,nm,_,_,l⟩=>shH op n nm l.length&&Alf l
def Alf:List Xp->Bool
 | []=>true
 | x::l=>shX x&&Alf l
end
def Ayl(x:Xp):Bool:=x.op==0&&(x.n==0&&(x.nm==[]&&x.l.isEmpty))
def A2p(s:Sp):Bool:=
 decide (1<=s.op)&&(decide (s.op<=15)&&((if Hy s.op then s.nm==[] else Dz s.nm)&&((if s.op=15 then Dz s.arg else s.arg==[]) &&
  (decide (s.idx.length<=1)&&((s.op==1||s.idx.isEmpty)&&(s.idx.all shX&&((if Ec s.op then shX s.ex else Ayl s.ex) &&
   ((A8 s.op||s.body.isEmpty)&&(s.op==2||s.els.isEmpty)))))))))
mutual
def shS:Sp->Bool
 | ⟨op,line,nm,arg,iz,it,idx,ex,bz,bt,body,ez,et,els⟩=>A2p ⟨op,line,nm,arg,iz,it,idx,ex,bz,bt,body,ez,et,els⟩&&(Adi body&&Adi els)
def Adi:List Sp->Bool
 | []=>true
 | x::l=>shS x&&Adi l
end
/-! what is in range -/
/-! bulk -/
/-! settled objects -/
theorem Aok(o:Ob):o.shut.refs=o.refs:=by cases o<;>rfl
theorem Aby:∀ (js:List Nat) (σ:St) (j:Nat),j ∉ js->(σ.freeze js)[j]?=σ[j]?
 | [],_,_,_=>rfl
 | i::js,σ,j,h=>by
  simp only[Br,not_or]at h
  simp only[St.freeze]
  split
  ·rw[Aby js _ j h.2,B5 (Ne.symm h.1)]
  ·exact Aby js _ j h.2
theorem Ack:∀ (js:List Nat) (σ:St),Cl σ->Cl (σ.freeze js)
 | [],_,h=>h
 | i::js,σ,h=>by
  simp only[St.freeze]
  split
  ·rename_i ob ho
   refine Ack js _ (O8 h ?_)
   rw[Aok]
   exact h ob (Ji ho)
  ·exact Ack js _ h
theorem Aht{R:V->St->Prop}{f p:Nat}{res:List AR}{thr:Bool}{body:AC}{vs:List V}{σ:St}(hT:TT f=some ⟨p,res,thr,body,none⟩)(hl:vs.length=p)(h:W TT PT [.c body] (Df 0 vs) σ (Hd fun e' σ1=>∃ v,B2 e' σ1 res=some v/\(Cs v=true/\∀ i∈v.refs,i<σ1.length)/\(σ.length<=σ1.length/\Cl σ1)/\R v σ1)):∃ v σ',Bk TT PT f vs σ v σ'/\R v σ':=by
 obtain⟨e',σ1,hE,v,hr,⟨h1,h2⟩,⟨h3,h4⟩,h5⟩:=h
 exact⟨v,σ1,Atf hT hl ⟨e',σ1,hE,hr,rfl⟩ h2 h1 h3 h4,h5⟩
/-! statements that are made -/
/-! the maker's locks -/
theorem Ai9{v:V}(h:v.cellB=true):v.cells=[v]/\[v].all V.cellB=true:=⟨by cases v<;>simp[V.cellB]at h<;>rfl,by simp only[Am,Av,h];rfl⟩
theorem Nc{σ:St}{m e lo:Nat}{u:V}{xs:List (List V)}(h:GW σ m e lo u xs):∀ i∈u.refs,lo<=i/\i<σ.length:=by
 intro j hj
 rcases h with⟨rfl,-⟩ | ⟨hn,i,g,rfl,ho,hlo⟩
 ·simp[V.refs]at hj
 ·simp[V.refs]at hj
  subst hj
  exact⟨hlo,(Au.1 ho).1⟩
theorem Aq5(a:List V)(k:Nat):∀ i∈Aq (a.take k),i∈Aq a:=by
 intro i hi
 have:=Mu (a.take k) (a.drop k)
 rw[Jh]at this
 rw[this]
 exact List.mem_append_left _ hi
theorem Aq6(a:List V)(k:Nat):∀ i∈Aq (a.drop k),i∈Aq a:=by
 intro i hi
 have:=Mu (a.take k) (a.drop k)
 rw[Jh]at this
 rw[this]
 exact List.mem_append_right _ hi
theorem Xx{σ σ':St}{m e bytes:Nat}{u u' y:V}{ys:List (List V)}(ha:Fm bytes (m,e) u y σ=some (u',σ'))(hy:Gv σ m y=some ys)(hr:∀ r∈ys,r.all V.rowB=true)(hu:u=.nils\/∃ i g len,u=.sl i g 0 len m true):(∀ j∈u'.refs,j∈u.refs\/σ.length<=j)/\(Cl σ->Cl σ'):=by
 have hf:Aq ys.flatten=[]:=Jk (Ox hr)
 unfold Fm at ha
 simp only[hy,Cd]at ha
 unfold I8 at ha
 split at ha
 ·rcases hu with rfl | ⟨i,g,len,rfl⟩
  ·simp only at ha
   split at ha
   ·split at ha
    ·cases ha
     exact⟨fun j hj=>.inl hj,id⟩
    ·cases ha
     refine⟨fun j hj=>.inr (by simp[V.refs]at hj;omega),fun hc=>Tv hc ?_⟩
     simp[Ob.refs,hf]
   ·cases ha
  ·simp only at ha
   split at ha
   ·split at ha
    ·rename_i cs e' g' z ho
     have hi:=(Au.1 ho).1
     have hm:=Ji ho
     split at ha
     ·split at ha
      ·cases ha
       exact⟨fun j hj=>.inl hj,id⟩
      ·split at ha
       ·split at ha
        ·cases ha
         refine⟨fun j hj=>.inl hj,fun hc=>O8 hc fun j hj=>?_⟩
         simp only[Ob.refs,Mu,hf,Cx,Ei]at hj
         rcases hj with hj | hj
         ·exact hc _ hm j (Aq5 _ _ _ hj)
         ·exact hc _ hm j (Aq6 _ _ _ hj)
        ·split at ha
         ·cases ha
          refine⟨fun j hj=>.inl hj,fun hc=>O8 hc fun j hj=>?_⟩
          simp only[Ob.refs,Mu,hf,Cx]at hj
          exact hc _ hm j hj
         ·cases ha
       ·cases ha
     ·cases ha
    ·cases ha
   ·cases ha
 ·cases ha
theorem Aas{σ:St}{m e lo:Nat}{u:V}{xs:List (List V)}(h:GW σ m e lo u xs):u=.nils\/∃ i g len,u=.sl i g 0 len m true:=by
 rcases h with⟨rfl,-⟩ | ⟨hn,i,g,rfl,-⟩
 ·exact .inl rfl
 ·exact .inr ⟨i,g,_,rfl⟩
theorem Xg{σ:St}{m e lo bytes:Nat}{u y:V}{xs ys:List (List V)}(h:GW σ m e lo u xs)(hlo0:lo<=σ.length)(hy:Gv σ m y=some ys)(hm:0<m)(hl:∀ r∈xs,r.length=m)(hly:∀ r∈ys,r.length=m)(hr:∀ r∈ys,r.all V.rowB=true)(hb:(xs.length+ys.length)*bytes<=140737488355328):
  ∃ u' σ',Fm bytes (m,e) u y σ=some (u',σ')/\GW σ' m e lo u' (xs++ys)/\σ.length<=σ'.length/\(∀ j,j<σ.length->j ∉ u.refs->σ'[j]?=σ[j]?)/\(∀ j∈u'.refs,j∈u.refs\/σ.length<=j)/\(Cl σ->Cl σ'):=by
 obtain⟨u',σ',h1,h2,h3,h4,-⟩:=O7 h hlo0 hy hm hl hly hb
 obtain⟨h5,h6⟩:=Xx h1 hy hr (Aas h)
 refine⟨u',σ',h1,h2,h3,fun j hj hn=>h4 j (fun i g hu e=>hn ?_) hj,h5,h6⟩
 rw[hu,e]
 simp[V.refs]
end Go.Proofs.YtcoeikinocflnaaGreatDoor.KM
