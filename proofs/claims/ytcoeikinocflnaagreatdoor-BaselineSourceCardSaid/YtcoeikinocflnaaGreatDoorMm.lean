/- Plain: the newlines in a program's text. -/
import Derived.Test.YtcoeikinocflnaaGreatDoorIn
set_option linter.all false
namespace Go.Proofs.YtcoeikinocflnaaGreatDoor.KM
open Go
def Fj(l:List UInt8):Nat:=l.count 10
theorem Gx(a b:List UInt8):Fj (a++b)=Fj a+Fj b:=List.count_append
theorem Hy(c:UInt8)(l:List UInt8):Fj (c::l)=Fj l+if c=10 then 1 else 0:=by
 unfold Fj;rw[List.count_cons]
 by_cases h:c=10<;>simp[h]
theorem Avb{l:List UInt8}(h:∀ c∈l,c≠10):Fj l=0:=List.count_eq_zero.2 fun hm=>h 10 hm rfl
mutual
def Sp.lns:Sp->Nat
 | ⟨op,_,_,_,_,_,_,_,_,_,body,_,_,els⟩=>1+(if Bq op then 1+Sp.lnss body else 0)+(if els.isEmpty then 0 else 1+Sp.lnss els)
def Sp.lnss:List Sp->Nat
 | []=>0
 | x::l=>x.lns+Sp.lnss l
end
theorem Ayw{l:List UInt8}{j:Nat}(h:Lf l j=true):l.getD j 0≠10:=fun e=>by
 unfold Lf at h;rw[e]at h
 cases j<;>simp[I6,Om]at h
theorem Y4{l:List UInt8}(h:Bv l=true):Fj l=0:=by
 refine Avb fun c hc=>?_
 obtain⟨i,hi,rfl⟩:=Ng hc;unfold Bv at h;simp only[Af,Bd]at h;have:=Ayw (h.2.2.2 i (Fc.2 hi))
 rwa [Aq,A0 hi]at this
theorem Acs:∀ (k u:Nat),Fj (Ld k u)=0
 | 0,_=>rfl
 | k+1,u=>by
  have hd:∀ n,n<10->Fj [UInt8.ofNat (48+n)]=0:=by decide
  unfold Ld
  split
  ·exact hd u (by omega)
  ·rw[Gx,Acs k,hd _ (by omega)]
theorem Avc(n:Int):Fj (Cm n)=0:=by
 unfold Cm
 split
 ·rw[Hy,Acs];decide
 ·exact Acs _ _
theorem Alw(op:Int):Fj (Cd op)=0:=by
 unfold Cd
 split<;>decide
theorem Acu{o:Int × List UInt8}(h:Fj o.2=0)(v:Int):Fj (Dg o v)=0:=by
 unfold Dg
 split
 ·rw[Hy,Gx,h];decide
 ·exact h
theorem Ak0{x:Xp}(h:ShE x):Fj x.txt=0:=by
 induction h with
 | num h=>
  rw[Ed];simp only[Di,if_pos];exact Avc _
 | name h=>
  rw[Ed];simp only[Di];exact Y4 h
 | idx hn ha ih=>
  rw[Ed];simp only[Di,Ba,Bs];simp only[Int.reduceEq,if_false,if_true];rw[Gx,Hy,Gx,Y4 hn,ih];decide
 | @un op z t a ho ha ih=>
  rw[Ed];simp only[Di,Ba,Bs];rw[if_neg (by omega),if_neg (by omega),if_neg (by omega),Gx,Alw,Acu ih]
 | @bin op z t a b ho ha hb iha ihb=>
  rw[Ed];simp only[Di,Ba,Bs];rw[if_neg (by omega),if_neg (by omega),Gx,Hy,Gx,Hy,Alw,Acu iha,Acu ihb];decide
theorem Up(op:Int):Fj (Cu op)=0:=by
 unfold Cu
 split<;>decide
theorem Avd{s:Sp}(h:ShS s):Fj (Ce s)=0:=by
 obtain⟨h1,h2,h3,h4,h5,h6,h7,h8,h9,h10,h11,h12,h13,h14⟩:=h
 have hn:Fj s.nm=0:=by
  cases e:E5 s.op
  ·exact Y4 (h3 e)
  ·rw[h2 e];rfl
 have ha:Fj s.arg=0:=by
  by_cases e:s.op=15
  ·exact Y4 (h4 e)
  ·rw[h5 e];rfl
 have hx:Dl s.op=true->Fj s.ex.txt=0:=fun e=>Ak0 (h9 e)
 have hi:Fj (En s.idx)=0:=by
  unfold En
  split
  ·rename_i a r e;rw[Hy,Gx,Ak0 (h8 a (by rw[e];simp))];decide
  ·rfl
 unfold Ce
 split
 ·rename_i e;rw[Gx,Gx,Hy,Hy,Hy,hn,hi,hx (by rw[e];rfl)];decide
 split
 ·rename_i e;rw[Gx,Hy,Up,hx (by rcases e with e | e<;>rw[e]<;>rfl)];decide
 split
 ·exact Up _
 split
 ·rename_i e;rw[Gx,Hy,Gx,Hy,Up,hn,hx (by rw[e];rfl)];decide
 split
 ·rw[Gx,Hy,Gx,Hy,Up,hn,ha];decide
 ·rw[Gx,Hy,Up,hn];decide
theorem ixU(c:UInt8):∀ (a r:List UInt8),c ∉ a->Lib.index (a++c::r) [c]=(a.length:Int)/\Lib.indexByte (a++c::r) c=(a.length:Int)
 | [],r,_=>by
  have hp:List.isPrefixOf [c] (c::r)=true:=by simp[List.isPrefixOf]
  constructor
  ·rw[Es];unfold Lib.index;rw[hp];rfl
  ·rw[Es,Lib.indexByte];simp
 | b::a,r,h=>by
  have hb:(c==b)=false:=by simp at h ⊢;exact h.1
  have hb2:(b==c)=false:=by simp at h ⊢;exact fun e=>h.1 e.symm
  obtain⟨h1,h2⟩:=ixU c a r (by simp at h;exact h.2);have hp:List.isPrefixOf [c] (b::(a++c::r))=false:=by simp[List.isPrefixOf]at hb ⊢;exact hb
  have hn:((a.length:Int) == -1)=false:=by simp
  constructor
  ·rw[Ox];unfold Lib.index;rw[hp,h1];simp only[Er,if_false,hn,Am];omega
  ·rw[Ox,Lib.indexByte,h2];simp only[hb2,Er,if_false,hn,Am];omega
theorem A26{c:UInt8}{a r:List UInt8}(h:c ∉ a):Lib.cut (a++c::r) [c]=(a,r,true):=by
 have hi:=(ixU c a r h).1;unfold Lib.cut;rw[hi,if_pos (by omega)];simp
def Dv(s:Sp):List UInt8:=Ce s++if Bq s.op then [32,123] else [59]
mutual
def Sp.hds:Sp->List (List UInt8)
 | ⟨op,line,nm,arg,iz,it,idx,ex,bz,bt,body,ez,et,els⟩=>Dv ⟨op,line,nm,arg,iz,it,idx,ex,bz,bt,body,ez,et,els⟩::(Sp.hdss body++Sp.hdss els)
def Sp.hdss:List Sp->List (List UInt8)
 | []=>[]
 | x::l=>x.hds++Sp.hdss l
end
theorem Ak1(s:Sp):s.hds=Dv s::(Sp.hdss s.body++Sp.hdss s.els):=by
 cases s;rw[Sp.hds]
mutual
theorem Ave:∀ s:Sp,s.hds.length=s.sz
 | ⟨op,line,nm,arg,iz,it,idx,ex,bz,bt,body,ez,et,els⟩=>by
  rw[Ak1,Jp];simp only[Am,Ao];rw[Iy body,Iy els];omega
theorem Iy:∀ l:List Sp,(Sp.hdss l).length=Sp.szs l
 | []=>rfl
 | x::l=>by rw[Sp.hdss,Sp.szs,Ao,Ave x,Iy l]
end
theorem Ajn{s:Sp}(h:ShS s):(10:UInt8) ∉ Dv s:=by
 have h0:Fj (Dv s)=0:=by
  unfold Dv;rw[Gx,Avd h]
  split<;>decide
 exact List.count_eq_zero.1 h0
theorem Aee(s:Sp):∃ r,s.txt 0=Dv s++10::r:=by
 rw[I0];unfold Dv
 split
 ·exact⟨Sp.txts (0+1) s.body++((if s.els.isEmpty then [] else Dr 0++125::32::101::108::115::101::32::123::10::Sp.txts (0+1) s.els)++(Dr 0++[125,10])),by simp[Dr]⟩
 ·exact⟨[],by simp[Dr]⟩
def Gj(s:Sp):Sp:=⟨s.op,s.line,s.nm,s.arg,s.iz,s.it,s.idx,s.ex,true,0,[],true,0,[]⟩
theorem Apa(s:Sp):Dv (Gj s)=Dv s:=rfl
theorem Avf{s:Sp}(h:CnS s):CnS (Gj s):=by
 cases h with
 | mk h1 h2 h3 h4 h5 h6 h7 h8 h9=>exact .mk h1 h2 h3 h4 h5 (fun _=>rfl) (fun _=>rfl) (fun x hx=>by cases hx) (fun x hx=>by cases hx)
theorem Ars(s:Sp):(∃ r,(Gj s).txt 0=Dv s++10::r)/\((Gj s).txt 0).length<=(Dv s).length+10:=by
 refine⟨Apa s ▸ Aee (Gj s),?_⟩;rw[I0];unfold Dv;have:(Gj s).op=s.op:=rfl;have h2:Ce (Gj s)=Ce s:=rfl;rw[this,h2]
 split
 ·simp[Dr,Gj,Sp.txts]
 ·simp[Dr]
mutual
theorem Art:∀ (s:Sp) (d d':Nat),d<=d'->(s.txt d).length<=(s.txt d').length
 | ⟨op,line,nm,arg,iz,it,idx,ex,bz,bt,body,ez,et,els⟩,d,d',h=>by
  have h1:=Q0 body (d+1) (d'+1) (by omega);have h2:=Q0 els (d+1) (d'+1) (by omega);rw[I0,I0];simp only[Ao,Hx]
  split
  ·cases els<;>simp[Hx]at h2 ⊢<;>omega
  ·simp;omega
theorem Q0:∀ (l:List Sp) (d d':Nat),d<=d'->(Sp.txts d l).length<=(Sp.txts d' l).length
 | [],_,_,_=>by simp[Sp.txts]
 | x::l,d,d',h=>by
  have h1:=Art x d d' h;have h2:=Q0 l d d' h;rw[J6,J6,Ao,Ao];omega
end
theorem Ajo(s:Sp):(Dv s).length+1<=(s.txt 0).length:=by
 obtain⟨r,hr⟩:=Aee s;rw[hr];simp
theorem Avg{s:Sp}(h:Bq s.op=true):(Dv s).length+(Sp.txts 0 s.body).length+(Sp.txts 0 s.els).length<=(s.txt 0).length:=by
 have h1:=Q0 s.body 0 1 (by omega);have h2:=Q0 s.els 0 1 (by omega);rw[I0,if_pos h];unfold Dv;rw[if_pos h]
 cases he:s.els with
 | nil=>rw[he]at h2;simp[Dr,Sp.txts]at h2 ⊢;omega
 | cons a l=>rw[he]at h2;simp[Dr]at h2 ⊢;omega
theorem Aib(X:List (List UInt8)):∀ r∈X.map fun x=>[V.str x],r.length=1:=fun r hr=>by obtain⟨x,-,rfl⟩:=D6.1 hr;rfl
theorem Aic(X:List (List UInt8)):∀ r∈X.map fun x=>[V.str x],r.all V.rowB=true:=fun r hr=>by obtain⟨x,-,rfl⟩:=D6.1 hr;rfl
structure GL (lo:Nat) (σ τ:St) (u v:V) (X:List (List UInt8)):Prop where
 len:σ.length<=τ.length
 g:GW τ 1 9 lo v (X.map fun x=>[V.str x])
 kp:∀ j,j<σ.length->j ∉ u.refs->τ[j]?=σ[j]?
 rf:∀ j∈v.refs,j∈u.refs\/σ.length<=j
 cl:Cl τ
theorem Ajp{lo:Nat}{σ:St}{u:V}{X:List (List UInt8)}(h:GW σ 1 9 lo u (X.map fun x=>[V.str x]))(hc:Cl σ):GL lo σ σ u u X:=⟨Ah _,h,fun _ _ _=>rfl,fun _ hj=>.inl hj,hc⟩
theorem T8{lo:Nat}{σ τ υ:St}{u v w:V}{X Y:List (List UInt8)}(h:GL lo σ τ u v X)(h':GL lo τ υ v w Y):GL lo σ υ u w Y:=by
 refine⟨Cj h.len h'.len,h'.g,fun j hj hn=>?_,fun j hj=>?_,h'.cl⟩
 ·rw[h'.kp j (by have:=h.len;omega) fun e=>?_,h.kp j hj hn];rcases h.rf j e with h2 | h2
  ·exact hn h2
  ·omega
 ·rcases h'.rf j hj with h2 | h2
  ·exact h.rf j h2
  ·exact .inr (by have:=h.len;omega)
theorem Ajq{lo:Nat}{σ τ:St}{u v:V}{X:List (List UInt8)}(h:GL lo σ τ u v X)(l:St)(hc:Cl (τ++l)):GL lo σ (τ++l) u v X:=
 ⟨by rw[Ao];have:=h.len;omega,Pd h.g,fun j hj hn=>by rw[Co (by have:=h.len;omega)];exact h.kp j hj hn,h.rf,hc⟩
theorem Ak2{lo:Nat}{σ τ:St}{u v:V}{X:List (List UInt8)}(h:GL lo σ τ u v X)(hlo:lo<=σ.length)(s:List UInt8)(hb:X.length<=1000000000):∃ v' τ',Eu 16 (1,9) v (.lst 1 [[.str s]]) τ=some (v',τ')/\v'.cellB=true/\GL lo σ τ' u v' (X++[s])/\∀ j,j<τ.length->j ∉ v.refs->τ'[j]?=τ[j]?:=by
 obtain⟨v',τ',h1,h2,h3,h4,h5,h6⟩:=Un (bytes:=16) (y:=.lst 1 [[.str s]]) (ys:=[[.str s]]) h.g (by have:=h.len;omega) rfl (by omega) (Aib X) (by simp) (by simp[V.rowB]) (by rw[Bl];simp;omega);refine⟨v',τ',h1,D2 h2,T8 h ⟨h3,by rw[Fb];exact h2,h4,h5,h6 h.cl⟩,h4⟩
def J5(f:Nat)(l:List Sp):Prop:=∀ (lo:Nat) (σ:St) (u:V) (X:List (List UInt8)) (z:Bool) (t:Nat),GW σ 1 9 lo u (X.map fun x=>[V.str x])->lo<=σ.length->Cl σ->X.length+Sp.szs l<=1000000000 ->
  ∃ v τ,Bp TT PT f [u,SL z t (l.map Sp.row)] σ v τ/\GL lo σ τ u v (X++Sp.hdss l)
structure TxL (l:List Sp):Prop where
 sh:∀ x∈l,ShS x
 len:(Sp.txts 0 l).length<=2000000000
theorem Ab5{l:List Sp}(h:TxL l){x:Sp}(hx:x∈l):ShS x/\(x.txt 0).length<=2000000000/\TxL x.body/\TxL x.els:=by
 have h1:=h.sh x hx;have h2:=To 0 hx;have h3:=h.len;refine⟨h1,by omega,?_⟩
 cases h1 with
 | mk a1 a2 a3 a4 a5 a6 a7 a8 a9 a10 a11 a12 a13 a14=>
  cases hb:Bq x.op
  ·have e1:x.body=[]:=a11 hb;have e2:x.els=[]:=a12 fun e=>by rw[e]at hb;cases hb
   rw[e1,e2];exact⟨⟨(fun x hx=>by cases hx),by simp[Sp.txts]⟩,⟨(fun x hx=>by cases hx),by simp[Sp.txts]⟩⟩
  ·have:=Avg hb;exact⟨⟨a13,by omega⟩,⟨a14,by omega⟩⟩
theorem Ago{l:List Sp}{i:Nat}{y:Sp}(h:l.drop i=y::l.drop (i+1)):Sp.hdss (l.drop i)=Dv y::(Sp.hdss y.body++(Sp.hdss y.els++Sp.hdss (l.drop (i+1)))):=by
 rw[h,Sp.hdss,Ak1];simp
theorem Aru(y:Sp):(Gj y).row=[.int .i64 y.op,.int .i64 y.line,.str y.nm,.str y.arg,SL y.iz y.it (y.idx.map Xp.row),.int .i64 y.ex.op,.int .i64 y.ex.n,.str y.ex.nm,SL y.ex.z y.ex.t (y.ex.l.map Xp.row),.nils,.nils]:=by
 rw[Eg];rfl
theorem Acv:∀ l:List Sp,l.length<=Sp.szs l
 | []=>A2 _
 | x::l=>by
  have h1:=Acv l;have h2:=Jp x;rw[Am,Sp.szs];omega
set_option maxHeartbeats 4000000 in
theorem Arv{l:List Sp}(hl:TxL l)(ih:∀ x∈l,J5 58 x.body/\J5 58 x.els):J5 58 l:=by
 intro lo σ u X z t hg hlo hc hX;have hlen:(l.map Sp.row).length=l.length:=Bl ..;refine Xj T58 rfl ?_;simp only[go_sem,hlen];refine B9 (α:=Nat × St × V × List (List UInt8)) (fun a=>l.length - a.1) (fun a=>[(0,a.2.2.1),(9,SL z t (l.map Sp.row)),(10,.int .i64 (l.length:Int)),(11,.int .i64 (a.1:Int))]) (fun a=>a.2.1) (fun a=>a.1<=l.length/\GL lo σ a.2.1 u a.2.2.1 a.2.2.2/\a.2.2.2++Sp.hdss (l.drop a.1)=X++Sp.hdss l) ?_ (0,σ,u,X) ⟨A2 _,Ajp hg hc,rfl⟩;rintro⟨i,s,v,Y⟩ ⟨hi,hG,hY⟩ jh;simp only at hi hG hY jh;have hYl:=congrArg List.length hY;rw[Ao,Ao,Iy,Iy]at hYl;have hcell:=D2 hG.g;refine Ca (by delta lp58_0;exact rfl) ?_;rcases Bx i l.length with h' | h';rotate_left
 ·rw[Fk h',Sp.hdss,Cw]at hY;subst hY;simp only[go_sem,Cr h'];exact⟨v,rfl,⟨by cases v<;>simp[V.cellB]at hcell<;>rfl,fun j hj=>(Et hG.g j hj).2⟩,⟨hG.len,hG.cl⟩,hG⟩
 obtain⟨y,hy,hd,hm⟩:=Dd h';obtain⟨hsh,htx,hb1,hb2⟩:=Ab5 hl hm;have hlz:=Acv l;have hrow:=Eg y;have hset:=Fi y;have hq:=Ahj (Ach hsh) 0 (by omega);obtain⟨r,hr⟩:=Aee y;have hib:=(ixU 10 (Dv y) r (Ajn hsh)).2;rw[<-hr]at hib;have hll:=Ajo y
 have qib:Oo [.str (y.txt 0),.int .u8 10]=some (.int .i64 ((Dv y).length:Int)):=by
  show some (V.int .i64 (Lib.indexByte (y.txt 0) 10))=_;rw[hib]
 obtain⟨s1,e1⟩:∃ s1:St,s1=s++[.row y.row 105 0 0]:=⟨_,rfl⟩;have k1:s1[s.length]?=some (.row y.row 105 0 0):=by rw[e1];simp
 have G1:GL lo σ s1 u v Y:=by rw[e1];exact Ajq hG _ (Gv hG.cl hset)
 have hvl:∀ j∈v.refs,j<s.length:=fun j hj=>(Et hG.g j hj).2
 have hdr:=Ago hd;rw[hdr]at hY;have hsz:Sp.szs (l.drop i)=y.sz+Sp.szs (l.drop (i+1)):=by rw[hd,Sp.szs]
 have hyz:=Jp y;obtain⟨v2,s2,ha,hc2,G2,kp2⟩:=Ak2 G1 hlo (Dv y) (by omega);have k2:s2[s.length]?=_:=(kp2 s.length (by rw[e1];simp) fun e=>by have:=hvl _ e;omega).trans k1
 have n2:s.length ∉ v2.refs:=fun e=>by
  have h9:∀ j∈v2.refs,j∈v.refs\/s1.length<=j:=by
   obtain⟨q1,-⟩:=Yl ha rfl (by simp[V.rowB]) (Abh G1.g);exact q1
  rcases h9 _ e with h8 | h8
  ·have:=hvl _ h8;omega
  ·rw[e1]at h8;simp at h8;omega
 obtain⟨v3,s3,q3,G3⟩:=(ih y hm).1 lo s2 v2 (Y++[Dv y]) y.bz y.bt G2.g (by have:=G2.len;omega) G2.cl (by rw[Ao,Hr];omega);have l2:s.length<s2.length:=(Ar.1 k2).1;have k3:s3[s.length]?=_:=(G3.kp s.length l2 n2).trans k2
 have n3:s.length ∉ v3.refs:=fun e=>by
  rcases G3.rf _ e with h8 | h8
  ·exact n2 h8
  ·omega
 have l3:s.length<s3.length:=(Ar.1 k3).1;obtain⟨v4,s4,q4,G4⟩:=(ih y hm).2 lo s3 v3 (Y++[Dv y]++Sp.hdss y.body) y.ez y.et G3.g (by have:=G2.len;have:=G3.len;omega) G3.cl (by rw[Ao,Ao,Hr,Iy];omega);have G14:=T8 G2 (T8 G3 G4);rw[hrow]at e1 k1 k2 k3 hq hset;have f0:(0<=((Dv y).length:Int))=True:=eq_true (by omega);have fle:((Dv y).length<=(y.txt 0).length)=True:=eq_true (by omega);have ftk:(y.txt 0).take (Dv y).length=Dv y:=by rw[hr];simp
 rw[Int.natCast_zero]at hq;simp only[go_sem,B7 h',Bb,hy,hrow];rw[<-e1];refine Ad hq (by simp only[go_sem]) ?_;simp only[go_sem];refine E6 P100 (by simp only[go_sem]) qib ?_;simp only[go_sem,ge_iff_le,f0,fle,ftk,ha,k2];refine Ac q3 ?_;simp only[go_sem,k3];refine Ac q4 ?_;simp only[go_sem,Bg (show i<9223372036854775807 by omega)];refine Bi (jh (i+1,s4,v4,Y++[Dv y]++Sp.hdss y.body++Sp.hdss y.els) (by simp only;omega) ⟨h',G14,by rw[<-hY];simp⟩) rfl
set_option maxHeartbeats 4000000 in
theorem Arw{l:List Sp}(hl:TxL l)(ih:∀ x∈l,J5 57 x.body/\J5 57 x.els):J5 57 l:=by
 intro lo σ u X z t hg hlo hc hX;have hlen:(l.map Sp.row).length=l.length:=Bl ..;refine Xj T57 rfl ?_;simp only[go_sem,hlen];refine B9 (α:=Nat × St × V × List (List UInt8)) (fun a=>l.length - a.1) (fun a=>[(0,a.2.2.1),(11,SL z t (l.map Sp.row)),(12,.int .i64 (l.length:Int)),(13,.int .i64 (a.1:Int))]) (fun a=>a.2.1) (fun a=>a.1<=l.length/\GL lo σ a.2.1 u a.2.2.1 a.2.2.2/\a.2.2.2++Sp.hdss (l.drop a.1)=X++Sp.hdss l) ?_ (0,σ,u,X) ⟨A2 _,Ajp hg hc,rfl⟩;rintro⟨i,s,v,Y⟩ ⟨hi,hG,hY⟩ jh;simp only at hi hG hY jh;have hYl:=congrArg List.length hY;rw[Ao,Ao,Iy,Iy]at hYl;have hcell:=D2 hG.g;refine Ca (by delta lp57_0;exact rfl) ?_;rcases Bx i l.length with h' | h';rotate_left
 ·rw[Fk h',Sp.hdss,Cw]at hY;subst hY;simp only[go_sem,Cr h'];exact⟨v,rfl,⟨by cases v<;>simp[V.cellB]at hcell<;>rfl,fun j hj=>(Et hG.g j hj).2⟩,⟨hG.len,hG.cl⟩,hG⟩
 obtain⟨y,hy,hd,hm⟩:=Dd h';obtain⟨hsh,htx,hb1,hb2⟩:=Ab5 hl hm;have hlz:=Acv l;have hrow:=Eg y;have hset:=Fi y;have hbr:=Aru y;have hbs:=Fi (Gj y);obtain⟨⟨r,hr⟩,hbl⟩:=Ars y;have hll:=Ajo y;have hq:=Aq1 (Avf (Ach hsh)) 0 (by omega) (by rw[Jp];simp[Gj,Sp.szs]);have hct:=A26 (c:=10) (r:=r) (Ajn hsh);rw[<-hr]at hct
 have qct:Vk [.str ((Gj y).txt 0),.str [10]]=some (.tup [.str (Dv y),.str r,.bool true]):=by
  show(if((Gj y).txt 0).length<4294967281 then some (V.tup [.str (Lib.cut ((Gj y).txt 0) [10]).1,.str (Lib.cut ((Gj y).txt 0) [10]).2.1,.bool (Lib.cut ((Gj y).txt 0) [10]).2.2]) else none)=_;rw[if_pos (by omega),hct]
 have c1:Cl (s++[.row y.row 105 0 0,.row (Gj y).row 105 0 0]):=by
  have:=Gv (t:=105) (Gv (t:=105) hG.cl hset) hbs;simpa using this
 obtain⟨s1,e1⟩:∃ s1:St,s1=s++[.row y.row 105 0 0,.row (Gj y).row 105 0 0]:=⟨_,rfl⟩;have k1:s1[s.length]?=some (.row y.row 105 0 0):=by rw[e1];simp
 have l1:s1.length=s.length+2:=by rw[e1];simp
 have G1:GL lo σ s1 u v Y:=by rw[e1];exact Ajq hG _ c1
 have hvl:∀ j∈v.refs,j<s.length:=fun j hj=>(Et hG.g j hj).2
 have hdr:=Ago hd;rw[hdr]at hY;have hsz:Sp.szs (l.drop i)=y.sz+Sp.szs (l.drop (i+1)):=by rw[hd,Sp.szs]
 have hyz:=Jp y;obtain⟨v2,s2,ha,hc2,G2,kp2⟩:=Ak2 G1 hlo (Dv y) (by omega);have k2:s2[s.length]?=_:=(kp2 s.length (by omega) fun e=>by have:=hvl _ e;omega).trans k1
 have n2:s.length ∉ v2.refs:=fun e=>by
  have h9:∀ j∈v2.refs,j∈v.refs\/s1.length<=j:=by
   obtain⟨q1,-⟩:=Yl ha rfl (by simp[V.rowB]) (Abh G1.g);exact q1
  rcases h9 _ e with h8 | h8
  ·have:=hvl _ h8;omega
  ·omega
 obtain⟨v3,s3,q3,G3⟩:=(ih y hm).1 lo s2 v2 (Y++[Dv y]) y.bz y.bt G2.g (by have:=G2.len;omega) G2.cl (by rw[Ao,Hr];omega);have l2:s.length<s2.length:=(Ar.1 k2).1;have k3:s3[s.length]?=_:=(G3.kp s.length l2 n2).trans k2;obtain⟨v4,s4,q4,G4⟩:=(ih y hm).2 lo s3 v3 (Y++[Dv y]++Sp.hdss y.body) y.ez y.et G3.g (by have:=G2.len;have:=G3.len;omega) G3.cl (by rw[Ao,Ao,Hr,Iy];omega);have G14:=T8 G2 (T8 G3 G4);rw[hrow,hbr]at e1;rw[hrow]at k1 k2 k3 hset;rw[hbr]at hq hbs;rw[Int.natCast_zero]at hq;simp only[go_sem,B7 h',Bb,hy,hrow];rw[<-e1];refine Ad hq (by simp only[go_sem]) ?_;simp only[go_sem];refine E6 P98 (by simp only[go_sem]) qct ?_;simp only[go_sem,ha,k2];refine Ac q3 ?_;simp only[go_sem,k3];refine Ac q4 ?_;simp only[go_sem,Bg (show i<9223372036854775807 by omega)];refine Bi (jh (i+1,s4,v4,Y++[Dv y]++Sp.hdss y.body++Sp.hdss y.els) (by simp only;omega) ⟨h',G14,by rw[<-hY];simp⟩) rfl
theorem Yq{f:Nat}(hs:∀ l,TxL l->(∀ x∈l,J5 f x.body/\J5 f x.els)->J5 f l):∀ (N:Nat) (l:List Sp),TxL l->Sp.szs l<=N->J5 f l
 | 0,l,h,hz=>hs l h fun x hx=>by
  have:=Uj hx;have:=Jp x;omega
 | N+1,l,h,hz=>hs l h fun x hx=>by
  obtain⟨-,-,h1,h2⟩:=Ab5 h hx;have:=Uj hx;have:=Jp x;exact⟨Yq hs N _ h1 (by omega),Yq hs N _ h2 (by omega)⟩
theorem Ayx{l:List Sp}(h:TxL l):J5 58 l:=Yq (fun _=>Arv) _ l h (Ah _)
theorem Ayy{l:List Sp}(h:TxL l):J5 57 l:=Yq (fun _=>Arw) _ l h (Ah _)
