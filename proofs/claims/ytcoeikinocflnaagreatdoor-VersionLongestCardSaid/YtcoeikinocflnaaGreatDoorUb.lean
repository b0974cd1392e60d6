/- Walks: the first lines of statements. -/
import Derived.Test.YtcoeikinocflnaaGreatDoorUa
import Derived.Test.YtcoeikinocflnaaGreatDoorUp
import Derived.Test.YtcoeikinocflnaaGreatDoorQt
import Derived.Test.YtcoeikinocflnaaGreatDoorGc
set_option linter.all false
namespace Go.Proofs.YtcoeikinocflnaaGreatDoor.KM
open Go
theorem Ahu(X:List (List UInt8)):∀ r∈X.map fun x=>[V.str x],r.length=1:=fun r hr=>by obtain⟨x,-,rfl⟩:=Dc.1 hr;rfl
theorem Ahv(X:List (List UInt8)):∀ r∈X.map fun x=>[V.str x],r.all V.rowB=true:=fun r hr=>by obtain⟨x,-,rfl⟩:=Dc.1 hr;rfl
structure GL (lo:Nat) (σ τ:St) (u v:V) (X:List (List UInt8)):Prop where
 len:σ.length<=τ.length
 g:GW τ 1 9 lo v (X.map fun x=>[V.str x])
 kp:∀ j,j<σ.length->j ∉ u.refs->τ[j]?=σ[j]?
 rf:∀ j∈v.refs,j∈u.refs\/σ.length<=j
 cl:Cl τ
theorem Aja{lo:Nat}{σ:St}{u:V}{X:List (List UInt8)}(h:GW σ 1 9 lo u (X.map fun x=>[V.str x]))(hc:Cl σ):GL lo σ σ u u X:=⟨Ah _,h,fun _ _ _=>rfl,fun _ hj=>.inl hj,hc⟩
theorem Tg{lo:Nat}{σ τ υ:St}{u v w:V}{X Y:List (List UInt8)}(h:GL lo σ τ u v X)(h':GL lo τ υ v w Y):GL lo σ υ u w Y:=by
 refine⟨Eo h.len h'.len,h'.g,fun j hj hn=>?_,fun j hj=>?_,h'.cl⟩
 ·rw[h'.kp j (by have:=h.len;omega) fun e=>?_,h.kp j hj hn]
  rcases h.rf j e with h2 | h2
  ·exact hn h2
  ·omega
 ·rcases h'.rf j hj with h2 | h2
  ·exact h.rf j h2
  ·exact .inr (by have:=h.len;omega)
theorem Ajb{lo:Nat}{σ τ:St}{u v:V}{X:List (List UInt8)}(h:GL lo σ τ u v X)(l:St)(hc:Cl (τ++l)):GL lo σ (τ++l) u v X:=
 ⟨by rw[Aj];have:=h.len;omega,O2 h.g,fun j hj hn=>by rw[B8 (by have:=h.len;omega)];exact h.kp j hj hn,h.rf,hc⟩
theorem Akb{lo:Nat}{σ τ:St}{u v:V}{X:List (List UInt8)}(h:GL lo σ τ u v X)(hlo:lo<=σ.length)(s:List UInt8)(hb:X.length<=1000000000):∃ v' τ',Fm 16 (1,9) v (.lst 1 [[.str s]]) τ=some (v',τ')/\v'.cellB=true/\GL lo σ τ' u v' (X++[s])/\∀ j,j<τ.length->j ∉ v.refs->τ'[j]?=τ[j]?:=by
 obtain⟨v',τ',h1,h2,h3,h4,h5,h6⟩:=Xg (bytes:=16) (y:=.lst 1 [[.str s]]) (ys:=[[.str s]]) h.g (by have:=h.len;omega) rfl (by omega) (Ahu X) (by simp) (by simp[V.rowB]) (by rw[Bg];simp;omega)
 refine⟨v',τ',h1,Ep h2,Tg h ⟨h3,by rw[Hj];exact h2,h4,h5,h6 h.cl⟩,h4⟩
def Jg(f:Nat)(l:List Sp):Prop:=∀ (lo:Nat) (σ:St) (u:V) (X:List (List UInt8)) (z:Bool) (t:Nat),GW σ 1 9 lo u (X.map fun x=>[V.str x])->lo<=σ.length->Cl σ->X.length+Sp.szs l<=1000000000 ->
  ∃ v τ,Bk TT PT f [u,SL z t (l.map Sp.row)] σ v τ/\GL lo σ τ u v (X++Sp.hdss l)
structure TxL (l:List Sp):Prop where
 sh:∀ x∈l,ShS x
 len:(Sp.txts 0 l).length<=2000000000
theorem Abe{l:List Sp}(h:TxL l){x:Sp}(hx:x∈l):ShS x/\(x.txt 0).length<=2000000000/\TxL x.body/\TxL x.els:=by
 have h1:=h.sh x hx
 have h2:=Wg 0 hx
 have h3:=h.len
 refine⟨h1,by omega,?_⟩
 cases h1 with
 | mk a1 a2 a3 a4 a5 a6 a7 a8 a9 a10 a11 a12 a13 a14=>
  cases hb:A8 x.op
  ·have e1:x.body=[]:=a11 hb
   have e2:x.els=[]:=a12 fun e=>by rw[e]at hb;cases hb
   rw[e1,e2]
   exact⟨⟨(fun x hx=>by cases hx),by simp[Sp.txts]⟩,⟨(fun x hx=>by cases hx),by simp[Sp.txts]⟩⟩
  ·have:=Aut hb
   exact⟨⟨a13,by omega⟩,⟨a14,by omega⟩⟩
theorem Af1{l:List Sp}{i:Nat}{y:Sp}(h:l.drop i=y::l.drop (i+1)):Sp.hdss (l.drop i)=Bn y::(Sp.hdss y.body++(Sp.hdss y.els++Sp.hdss (l.drop (i+1)))):=by
 rw[h,Sp.hdss,Abx]
 simp
theorem Aq7(y:Sp):(F3 y).row=[.int .i64 y.op,.int .i64 y.line,.str y.nm,.str y.arg,SL y.iz y.it (y.idx.map Xp.row),.int .i64 y.ex.op,.int .i64 y.ex.n,.str y.ex.nm,SL y.ex.z y.ex.t (y.ex.l.map Xp.row),.nils,.nils]:=by
 rw[Fk]
 rfl
theorem Abz:∀ l:List Sp,l.length<=Sp.szs l
 | []=>A5 _
 | x::l=>by
  have h1:=Abz l
  have h2:=L3 x
  rw[Af,Sp.szs]
  omega
set_option maxHeartbeats 4000000 in
theorem Aq8{l:List Sp}(hl:TxL l)(ih:∀ x∈l,Jg 58 x.body/\Jg 58 x.els):Jg 58 l:=by
 intro lo σ u X z t hg hlo hc hX
 have hlen:(l.map Sp.row).length=l.length:=Bg ..
 refine Aht T58 rfl ?_
 simp only[go_sem,hlen]
 refine Cr (α:=Nat × St × V × List (List UInt8)) (fun a=>l.length - a.1) (fun a=>[(0,a.2.2.1),(9,SL z t (l.map Sp.row)),(10,.int .i64 (l.length:Int)),(11,.int .i64 (a.1:Int))]) (fun a=>a.2.1) (fun a=>a.1<=l.length/\GL lo σ a.2.1 u a.2.2.1 a.2.2.2/\a.2.2.2++Sp.hdss (l.drop a.1)=X++Sp.hdss l) ?_ (0,σ,u,X) ⟨A5 _,Aja hg hc,rfl⟩
 rintro⟨i,s,v,Y⟩ ⟨hi,hG,hY⟩ jh
 simp only at hi hG hY jh
 have hYl:=congrArg List.length hY
 rw[Aj,Aj,Hm,Hm]at hYl
 have hcell:=Ep hG.g
 refine Ct (by delta lp58_0;exact rfl) ?_
 rcases B3 i l.length with h' | h'
 rotate_left
 ·rw[J1 h',Sp.hdss,Cx]at hY
  subst hY
  simp only[go_sem,D5 h']
  exact⟨v,rfl,⟨by cases v<;>simp[V.cellB]at hcell<;>rfl,fun j hj=>(Nc hG.g j hj).2⟩,⟨hG.len,hG.cl⟩,hG⟩
 obtain⟨y,hy,hd,hm⟩:=Eu h'
 obtain⟨hsh,htx,hb1,hb2⟩:=Abe hl hm
 have hlz:=Abz l
 have hrow:=Fk y
 have hset:=Jb y
 have hq:=Ap9 (Aj3 hsh) 0 (by omega)
 obtain⟨r,hr⟩:=Adg y
 have hib:=(ixU 10 (Bn y) r (Ai6 hsh)).2
 rw[<-hr]at hib
 have hll:=Ai7 y
 have qib:N5 [.str (y.txt 0),.int .u8 10]=some (.int .i64 ((Bn y).length:Int)):=by
  show some (V.int .i64 (Lib.indexByte (y.txt 0) 10))=_
  rw[hib]
 obtain⟨s1,e1⟩:∃ s1:St,s1=s++[.row y.row 105 0 0]:=⟨_,rfl⟩
 have k1:s1[s.length]?=some (.row y.row 105 0 0):=by rw[e1];simp
 have G1:GL lo σ s1 u v Y:=by rw[e1];exact Ajb hG _ (Jr hG.cl hset)
 have hvl:∀ j∈v.refs,j<s.length:=fun j hj=>(Nc hG.g j hj).2
 have hdr:=Af1 hd
 rw[hdr]at hY
 have hsz:Sp.szs (l.drop i)=y.sz+Sp.szs (l.drop (i+1)):=by rw[hd,Sp.szs]
 have hyz:=L3 y
 obtain⟨v2,s2,ha,hc2,G2,kp2⟩:=Akb G1 hlo (Bn y) (by omega)
 have k2:s2[s.length]?=_:=(kp2 s.length (by rw[e1];simp) fun e=>by have:=hvl _ e;omega).trans k1
 have n2:s.length ∉ v2.refs:=fun e=>by
  have h9:∀ j∈v2.refs,j∈v.refs\/s1.length<=j:=by
   obtain⟨q1,-⟩:=Xx ha rfl (by simp[V.rowB]) (Aas G1.g)
   exact q1
  rcases h9 _ e with h8 | h8
  ·have:=hvl _ h8;omega
  ·rw[e1]at h8;simp at h8;omega
 obtain⟨v3,s3,q3,G3⟩:=(ih y hm).1 lo s2 v2 (Y++[Bn y]) y.bz y.bt G2.g (by have:=G2.len;omega) G2.cl (by rw[Aj,Mi];omega)
 have l2:s.length<s2.length:=(Au.1 k2).1
 have k3:s3[s.length]?=_:=(G3.kp s.length l2 n2).trans k2
 have n3:s.length ∉ v3.refs:=fun e=>by
  rcases G3.rf _ e with h8 | h8
  ·exact n2 h8
  ·omega
 have l3:s.length<s3.length:=(Au.1 k3).1
 obtain⟨v4,s4,q4,G4⟩:=(ih y hm).2 lo s3 v3 (Y++[Bn y]++Sp.hdss y.body) y.ez y.et G3.g (by have:=G2.len;have:=G3.len;omega) G3.cl (by rw[Aj,Aj,Mi,Hm];omega)
 have G14:=Tg G2 (Tg G3 G4)
 rw[hrow]at e1 k1 k2 k3 hq hset
 have f0:(0<=((Bn y).length:Int))=True:=eq_true (by omega)
 have fle:((Bn y).length<=(y.txt 0).length)=True:=eq_true (by omega)
 have ftk:(y.txt 0).take (Bn y).length=Bn y:=by rw[hr];simp
 rw[Int.natCast_zero]at hq
 simp only[go_sem,Cb h',A7,hy,hrow]
 rw[<-e1]
 refine An hq (by simp only[go_sem]) ?_
 simp only[go_sem]
 refine F2 P100 (by simp only[go_sem]) qib ?_
 simp only[go_sem,ge_iff_le,f0,fle,ftk,ha,k2]
 refine Ac q3 ?_
 simp only[go_sem,k3]
 refine Ac q4 ?_
 simp only[go_sem,Bq (show i<9223372036854775807 by omega)]
 refine Bd (jh (i+1,s4,v4,Y++[Bn y]++Sp.hdss y.body++Sp.hdss y.els) (by simp only;omega) ⟨h',G14,by rw[<-hY];simp⟩) rfl
set_option maxHeartbeats 4000000 in
theorem Aq9{l:List Sp}(hl:TxL l)(ih:∀ x∈l,Jg 57 x.body/\Jg 57 x.els):Jg 57 l:=by
 intro lo σ u X z t hg hlo hc hX
 have hlen:(l.map Sp.row).length=l.length:=Bg ..
 refine Aht T57 rfl ?_
 simp only[go_sem,hlen]
 refine Cr (α:=Nat × St × V × List (List UInt8)) (fun a=>l.length - a.1) (fun a=>[(0,a.2.2.1),(11,SL z t (l.map Sp.row)),(12,.int .i64 (l.length:Int)),(13,.int .i64 (a.1:Int))]) (fun a=>a.2.1) (fun a=>a.1<=l.length/\GL lo σ a.2.1 u a.2.2.1 a.2.2.2/\a.2.2.2++Sp.hdss (l.drop a.1)=X++Sp.hdss l) ?_ (0,σ,u,X) ⟨A5 _,Aja hg hc,rfl⟩
 rintro⟨i,s,v,Y⟩ ⟨hi,hG,hY⟩ jh
 simp only at hi hG hY jh
 have hYl:=congrArg List.length hY
 rw[Aj,Aj,Hm,Hm]at hYl
 have hcell:=Ep hG.g
 refine Ct (by delta lp57_0;exact rfl) ?_
 rcases B3 i l.length with h' | h'
 rotate_left
 ·rw[J1 h',Sp.hdss,Cx]at hY
  subst hY
  simp only[go_sem,D5 h']
  exact⟨v,rfl,⟨by cases v<;>simp[V.cellB]at hcell<;>rfl,fun j hj=>(Nc hG.g j hj).2⟩,⟨hG.len,hG.cl⟩,hG⟩
 obtain⟨y,hy,hd,hm⟩:=Eu h'
 obtain⟨hsh,htx,hb1,hb2⟩:=Abe hl hm
 have hlz:=Abz l
 have hrow:=Fk y
 have hset:=Jb y
 have hbr:=Aq7 y
 have hbs:=Jb (F3 y)
 obtain⟨⟨r,hr⟩,hbl⟩:=Aq3 y
 have hll:=Ai7 y
 have hq:=Aqq (Aus (Aj3 hsh)) 0 (by omega) (by rw[L3];simp[F3,Sp.szs])
 have hct:=A2o (c:=10) (r:=r) (Ai6 hsh)
 rw[<-hr]at hct
 have qct:U1 [.str ((F3 y).txt 0),.str [10]]=some (.tup [.str (Bn y),.str r,.bool true]):=by
  show(if((F3 y).txt 0).length<4294967281 then some (V.tup [.str (Lib.cut ((F3 y).txt 0) [10]).1,.str (Lib.cut ((F3 y).txt 0) [10]).2.1,.bool (Lib.cut ((F3 y).txt 0) [10]).2.2]) else none)=_
  rw[if_pos (by omega),hct]
 have c1:Cl (s++[.row y.row 105 0 0,.row (F3 y).row 105 0 0]):=by
  have:=Jr (t:=105) (Jr (t:=105) hG.cl hset) hbs
  simpa using this
 obtain⟨s1,e1⟩:∃ s1:St,s1=s++[.row y.row 105 0 0,.row (F3 y).row 105 0 0]:=⟨_,rfl⟩
 have k1:s1[s.length]?=some (.row y.row 105 0 0):=by rw[e1];simp
 have l1:s1.length=s.length+2:=by rw[e1];simp
 have G1:GL lo σ s1 u v Y:=by rw[e1];exact Ajb hG _ c1
 have hvl:∀ j∈v.refs,j<s.length:=fun j hj=>(Nc hG.g j hj).2
 have hdr:=Af1 hd
 rw[hdr]at hY
 have hsz:Sp.szs (l.drop i)=y.sz+Sp.szs (l.drop (i+1)):=by rw[hd,Sp.szs]
 have hyz:=L3 y
 obtain⟨v2,s2,ha,hc2,G2,kp2⟩:=Akb G1 hlo (Bn y) (by omega)
 have k2:s2[s.length]?=_:=(kp2 s.length (by omega) fun e=>by have:=hvl _ e;omega).trans k1
 have n2:s.length ∉ v2.refs:=fun e=>by
  have h9:∀ j∈v2.refs,j∈v.refs\/s1.length<=j:=by
   obtain⟨q1,-⟩:=Xx ha rfl (by simp[V.rowB]) (Aas G1.g)
   exact q1
  rcases h9 _ e with h8 | h8
  ·have:=hvl _ h8;omega
  ·omega
 obtain⟨v3,s3,q3,G3⟩:=(ih y hm).1 lo s2 v2 (Y++[Bn y]) y.bz y.bt G2.g (by have:=G2.len;omega) G2.cl (by rw[Aj,Mi];omega)
 have l2:s.length<s2.length:=(Au.1 k2).1
 have k3:s3[s.length]?=_:=(G3.kp s.length l2 n2).trans k2
 obtain⟨v4,s4,q4,G4⟩:=(ih y hm).2 lo s3 v3 (Y++[Bn y]++Sp.hdss y.body) y.ez y.et G3.g (by have:=G2.len;have:=G3.len;omega) G3.cl (by rw[Aj,Aj,Mi,Hm];omega)
 have G14:=Tg G2 (Tg G3 G4)
 rw[hrow,hbr]at e1
 rw[hrow]at k1 k2 k3 hset
 rw[hbr]at hq hbs
 rw[Int.natCast_zero]at hq
 simp only[go_sem,Cb h',A7,hy,hrow]
 rw[<-e1]
 refine An hq (by simp only[go_sem]) ?_
 simp only[go_sem]
 refine F2 P98 (by simp only[go_sem]) qct ?_
 simp only[go_sem,ha,k2]
 refine Ac q3 ?_
 simp only[go_sem,k3]
 refine Ac q4 ?_
 simp only[go_sem,Bq (show i<9223372036854775807 by omega)]
 refine Bd (jh (i+1,s4,v4,Y++[Bn y]++Sp.hdss y.body++Sp.hdss y.els) (by simp only;omega) ⟨h',G14,by rw[<-hY];simp⟩) rfl
theorem Xy{f:Nat}(hs:∀ l,TxL l->(∀ x∈l,Jg f x.body/\Jg f x.els)->Jg f l):∀ (N:Nat) (l:List Sp),TxL l->Sp.szs l<=N->Jg f l
 | 0,l,h,hz=>hs l h fun x hx=>by
  have:=Tw hx
  have:=L3 x
  omega
 | N+1,l,h,hz=>hs l h fun x hx=>by
  obtain⟨-,-,h1,h2⟩:=Abe h hx
  have:=Tw hx
  have:=L3 x
  exact⟨Xy hs N _ h1 (by omega),Xy hs N _ h2 (by omega)⟩
theorem Aym{l:List Sp}(h:TxL l):Jg 58 l:=Xy (fun _=>Aq8) _ l h (Ah _)
theorem Ayn{l:List Sp}(h:TxL l):Jg 57 l:=Xy (fun _=>Aq9) _ l h (Ah _)
end Go.Proofs.YtcoeikinocflnaaGreatDoor.KM
