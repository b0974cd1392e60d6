/- token.IsName and token.IsKeyword, known by what they return. -/
import Derived.Test.YtphikjgngompaacGreatDoorA5
import Derived.Test.YtphikjgngompaacGreatDoorProg
import Derived.WalkSpells
import Derived.WalkLawsBesides
import Derived.BigQuiet
import Derived.BigGuardPart
import Derived.Lib.Hide
import Derived.LoopTactic
import Derived.Laws.RangeAny
import Derived.Test.YtphikjgngompaacGreatDoorRows
import Derived.DataReads
import Derived.Test.YtphikjgngompaacGreatDoorShelf
import Derived.Lib.UnsafeStr
set_option linter.all false
namespace Go.Proofs.YtphikjgngompaacGreatDoor.KM
open Go Go.RowKit
def AD{p:Prop}(h:p:=by kernel_rfl):p:=h
def kwL:List (List UInt8):=[[118,97,114],[118,111,108,97,116,105,108,101],[109,117,116,101,120],[114,119,108,111,99,107],[99,111,110,100],[102,117,116,117,114,101],[116,104,114,101,97,100],[105,102],[101,108,115,101],[119,104,105,108,101],[108,111,99,107],[114,101,97,100],[119,114,105,116,101],[116,114,97,110,115,97,99,116,105,111,110],[97,116,111,109,105,99],[119,97,105,116],[110,111,116,105,102,121],[110,111,116,105,102,121,97,108,108],[115,112,97,119,110],[106,111,105,110],[115,101,116],[103,101,116]]
def gKw:List V:=kwL.map V.str
def Hw(l:List UInt8):Bool:=kwL.any fun k=>l==k
def Lz(n:Nat):Bool:=(decide (97<=n)&&decide (n<=122))||(decide (65<=n)&&decide (n<=90))
def Q6(n:Nat):Bool:=decide (48<=n)&&decide (n<=57)
def Nj(n:Nat):Bool:=Lz n||(Q6 n||n==95)
def Jt(l:List UInt8)(j:Nat):Bool:=Lz (l.getD j 0).toNat||(decide (0<j)&&((l.getD j 0).toNat==95||Q6 (l.getD j 0).toNat))
def B3(l:List UInt8):Bool:=decide (1<=l.length)&&(decide (l.length<=12)&&(!Hw l&&(List.range l.length).all (Jt l)))
def Afk:List V->Option V
 | [.str l]=>some (.bool (B3 l))
 | _=>none
def kwS:List V->Option V
 | [.str l]=>some (.bool (Hw l))
 | _=>none
theorem Atw{l:List UInt8}(h:l.length<1):B3 l=false:=by
 grind[B3]
theorem Atx{l:List UInt8}(h:12<l.length):B3 l=false:=by
 grind[B3]
def Aty{l:List UInt8}(h:Hw l=true):B3 l=false:=by
 grind[B3]
def Baf{l:List UInt8}{j:Nat}(hj:j<l.length)(h:Jt l j=false):B3 l=false:=by
 unfold B3
 grind
def Akj{l:List UInt8}(h1:1<=l.length)(h2:l.length<=12)(h3:Hw l=false)(h4:∀ j,j<l.length->Jt l j=true):B3 l=true:=by
 grind[B3]
def Ys{a b:Bool}(h:a=b):Ending.returned (.bool a)=.returned (.bool b):=by rw[h]
def Atz(s:ByteArray)(i:Nat)(h:i<s.size):s[i]=s.data.toList.getD i 0:=by
 simp_all [ByteArray.getElem_eq_getElem_data]
def Amt(d:Int)(qd:Nat):Prop:=(97<=d/\d<=122)\/(65<=d/\d<=90)\/(0<qd/\(d=95\/(48<=d/\d<=57)))
def At0(l:List UInt8)(j:Nat):Jt l j=true↔Amt ((l.getD j 0).toNat:Int) j:=by
 unfold Jt Lz Q6 Amt
 grind
def A5t(s:ByteArray){qd:Nat}(hp:qd<s.size)(h:(97<=((Utf8.decode s qd).1:Int)/\((Utf8.decode s qd).1:Int)<=122)\/(65<=((Utf8.decode s qd).1:Int)/\((Utf8.decode s qd).1:Int)<=90)\/(0<qd/\(((Utf8.decode s qd).1:Int)=95\/(48<=((Utf8.decode s qd).1:Int)/\((Utf8.decode s qd).1:Int)<=57)))):
  (Utf8.decode s qd).2=1/\Jt s.data.toList qd=true:=by
 by_cases ha:(s[qd]'hp).toNat<128
 .rw[decode_ascii s qd hp ha]at h ⊢;refine⟨rfl,(At0 _ _).2 ?_⟩;rw[<-Atz s qd hp];exact h
 grind[decode_high]
def Bag(s:ByteArray){qd:Nat}(hp:qd<s.size)(h:¬ ((97<=((Utf8.decode s qd).1:Int)/\((Utf8.decode s qd).1:Int)<=122)\/(65<=((Utf8.decode s qd).1:Int)/\((Utf8.decode s qd).1:Int)<=90)\/(0<qd/\(((Utf8.decode s qd).1:Int)=95\/(48<=((Utf8.decode s qd).1:Int)/\((Utf8.decode s qd).1:Int)<=57))))):
  Jt s.data.toList qd=false:=by
 rw[<-X3,At0,<-Atz s qd hp]
 grind[decode_ascii,Amt]
set_option maxHeartbeats 800000 in
def A2u(s:ByteArray)(w:World)(qN:Calls Tryz.prog 145 #[.string s] w fun e w'=>e=.returned (.bool (Hw s.data.toList))/\Below w.heap.size w w'):
  Calls Tryz.prog 125 #[.string s] w fun e w'=>e=.returned (.bool (B3 s.data.toList))/\Below w.heap.size w w':=by
 have jk:s.data.toList.length=s.size:=rfl;by_cases c1:s.size<1
 .have d1:decide ((s.size:Int)<1)=true:=by simp;omega
  have HN:=Lib.hid (Atw (l:=s.data.toList) AA)
  go_enter Tryz.func125,Tryz.ntmps125
  go_wp2_with fail
  go_ret
  exact⟨Ys HN.out.symm,Below.refl _ _⟩
 have d1:decide ((s.size:Int)<1)=false:=by simp;omega
 by_cases c2:12<s.size
 .have d2:decide ((12:Int)<(s.size:Int))=true:=by simp;omega
  have HN:=Lib.hid (Atx (l:=s.data.toList) AA)
  go_enter Tryz.func125,Tryz.ntmps125
  go_wp2_with fail
  go_ret
  exact⟨Ys HN.out.symm,Below.refl _ _⟩
 have d2:decide ((12:Int)<(s.size:Int))=false:=by simp;omega
 cases c4:Hw s.data.toList;rotate_left
 .have HN:=Lib.hid (Aty c4);rw[c4]at qN
  go_enter Tryz.func125,Tryz.ntmps125
  go_wp2_with (go_at_call 145;refine qN.mono ?_;rintro e w1 ⟨rfl,qB⟩)
  go_ret
  exact⟨Ys HN.out.symm,qB⟩
 .have HY:=Lib.hid (fun h5=>Akj (l:=s.data.toList) AA AA c4 h5);rw[c4]at qN
  go_enter Tryz.func125,Tryz.ntmps125
  go_wp2_with (go_at_call 145;refine qN.mono ?_;rintro e w1 ⟨rfl,qB⟩)
  go_loopw [] (fun w'=>∃ qd:Nat,w'=w1.iter s qd/\∀ j,j<qd->Jt s.data.toList j=true) (fun w'=>s.size - w'.iterPos w1.heap.size)
  case atStart=>grind
  case round=>
   obtain⟨qd,rfl,jC⟩:=hrel;have HN:=Lib.hid jC;clear jC;by_cases hp:qd<s.size
   .have kc:∀ ty,(Instr.next (.pointer (some ⟨w1.heap.size,0,none⟩)) true ty).run Tryz.prog (w1.iter s qd)=_:=fun ty=>run_next_any w1 s qd ty hp
    go_wp2_with fail
    all_goals first
     | (go_ret
        exact⟨Ys (Baf hp (Bag s hp AA)).symm,qB.alloc qB.size _⟩)
     | (have hg:=A5t s hp AA
        go_roundw
        case rel=>
         refine⟨qd+(Utf8.decode s qd).2,rfl,fun j hj=>?_⟩;by_cases e:j=qd
         .grind
         .exact HN.out j AA
        case measure=>
         simp
         omega)
   .have kc:∀ ty,(Instr.next (.pointer (some ⟨w1.heap.size,0,none⟩)) true ty).run Tryz.prog (w1.iter s qd)=_:=fun ty=>run_next_end w1 s qd ty hp
    go_wp2_with fail
    go_ret
    exact⟨Ys (HY.out fun j hj=>HN.out j AA).symm,qB.alloc qB.size _⟩
def GS(σ:St)(m e:Nat)(u:V)(xs:List (List V)):Prop:=
 ((∀ r∈xs,r.length=m)/\∀ r∈xs,r.all V.rowB=true)/\((u=.nils/\xs=[])\/∃ i g r q,u=.sl i g 0 xs.length m true/\σ[i]?=some (.row (xs.flatten++r) e g 0)/\r.length=q*m/\r.all V.rowB=true)
def Z3{σ:St}{m e:Nat}:GS σ m e .nils []:=⟨⟨by simp,by simp⟩,.inl ⟨rfl,rfl⟩⟩
theorem J0{σ:St}{m e:Nat}{u:V}{xs:List (List V)}(h:GS σ m e u xs):u.cellB=true:=by
 rcases h.2 with⟨rfl,-⟩ | ⟨i,g,r,q,rfl,-⟩<;>rfl
def Z4{σ:St}{m e:Nat}{u:V}{xs:List (List V)}(h:GS σ m e u xs):Ly u=some (.int .i64 (xs.length:Int)):=by
 rcases h.2 with⟨rfl,rfl⟩ | ⟨i,g,r,q,rfl,-⟩<;>rfl
theorem C0{σ:St}{m e:Nat}{u:V}{xs:List (List V)}(h:GS σ m e u xs):∀ i∈u.refs,i<σ.length:=by
 rcases h.2 with⟨rfl,rfl⟩ | ⟨i,g,r,q,rfl,ho,-⟩
 .grind[V.refs]
 grind[V.refs]
def Ih{σ τ:St}{m e:Nat}{u:V}{xs:List (List V)}(h:GS σ m e u xs)(hk:∀ i∈u.refs,τ[i]?=σ[i]?):GS τ m e u xs:=by
 refine⟨h.1,?_⟩;rcases h.2 with h2 | ⟨i,g,r,q,rfl,ho,h2⟩
 .grind
 .exact .inr ⟨i,g,r,q,rfl,by grind[V.refs],h2⟩
theorem Yf{cs:List V}(h:cs.all V.rowB=true):Ah cs=[]:=F0 h
def Wg{σ:St}{m e bytes:Nat}{u:V}{xs:List (List V)}{row:List V}(h:GS σ m e u xs)(hm:0<m)(jj:row.length=m)(qL:row.all V.rowB=true)(hb:(xs.length+1)*bytes<=140737488355328):
  ∃ u' σ',Dx bytes (m,e) u (.lst 1 [row]) σ=some (u',σ')/\GS σ' m e u' (xs++[row])/\σ.length<=σ'.length/\(∀ j,j<σ.length->j ∉ u.refs->σ'[j]?=σ[j]?)/\(∀ j∈u'.refs,j∈u.refs\/σ.length<=j)/\(Cl σ->Cl σ'):=by
 obtain⟨⟨hl,hr⟩,h⟩:=h;have qq:([row].all fun r=>r.length==m)=true:=by simp[jj]
 have jf:∀ r∈xs++[row],r.length=m:=fun r hx=>by
  grind
 have ji:∀ r∈xs++[row],r.all V.rowB=true:=fun r hx=>by
  grind
 unfold Dx;simp only[E5,C5];unfold Jm;rw[if_pos ⟨qq,hm⟩];rcases h with⟨rfl,rfl⟩ | ⟨i,g,r,q,rfl,ho,hq,qF⟩
 .simp only;rw[if_pos AA,if_neg AE];refine⟨_,_,rfl,⟨⟨jf,ji⟩,.inr ⟨σ.length,0,[],0,rfl,by simp,by simp,rfl⟩⟩,by simp,fun j hj _=>Ex hj,fun j hj=>?_,fun hc=>Mk hc ?_⟩
  .grind[V.refs]
  grind[Ob.refs,Yf]
 .have hi:i<σ.length:=(An.1 ho).1;have hf:=Gj hl;have qC:(xs.flatten++r).length=xs.length*m+q*m:=by rw[Aj,hf,hq]
  simp only;rw[if_pos ⟨hb,trivial⟩];simp only[ho,if_true];rw[if_neg AE,if_pos ⟨trivial,trivial,trivial,As _⟩];have jg:(xs.length+[row].length)*m=xs.length*m+m:=by rw[I8,G6]
  by_cases h0:q=0
  .subst h0;have jD:r=[]:=Mb.1 AA;subst jD;rw[if_neg AA,if_pos AA];refine⟨_,_,rfl,⟨⟨jf,ji⟩,.inr ⟨i,g+1,[],0,by grind,?_,by simp,rfl⟩⟩,by simp,fun j hj hn=>?_,fun j hj=>.inl hj,fun hc=>F4 hc ?_⟩
   .grind
   .grind[V.refs]
   grind[Ob.refs,Yf]
  .have kD:m<=q*m:=Nat.le_mul_of_pos_left m AA;rw[if_pos AA,jg];have e1:(xs.flatten++r).take (xs.length*m)=xs.flatten:=by rw[<-hf,Abx]
   have e2:(xs.flatten++r).drop (xs.length*m+m)=r.drop m:=by rw[<-hf,Ag1,D4 AA,Ct,Nat.add_sub_cancel_left]
   rw[e1,e2];have kg:(r.drop m).all V.rowB=true:=Cc.2 fun c hc=>Cc.1 qF c (Xx hc)
   refine⟨_,_,rfl,⟨⟨jf,ji⟩,.inr ⟨i,g,r.drop m,q - 1,by grind,?_,?_,kg⟩⟩,by simp,fun j hj hn=>?_,fun j hj=>.inl hj,fun hc=>F4 hc ?_⟩
   .grind
   .simp_all [Nat.sub_mul]
   .grind[V.refs]
   grind[Ob.refs,Yf]
def Av4{σ:St}{m e:Nat}{u:V}{xs:List (List V)}{row:List V}(h:GS σ m e u (xs++[row])):∃ u',Io m u none (some (.int .i64 (xs.length:Int))) none=some u'/\GS σ m e u' xs/\u'.refs=u.refs:=by
 obtain⟨⟨hl,hr⟩,h⟩:=h;rcases h with⟨-,h⟩ | ⟨i,g,r,q,rfl,ho,hq,qF⟩
 .simp at h
 .refine⟨.sl i g 0 xs.length m true,?_,⟨⟨fun r hx=>hl r (Abm _ hx),fun r hx=>hr r (Abm _ hx)⟩,.inr ⟨i,g,row++r,q+1,rfl,?_,?_,?_⟩⟩,rfl⟩
  .simp[Io,Ed]
  .grind
  .grind
  grind
def Bfe{σ:St}{m e:Nat}{u:V}{xs:List (List V)}{row:List V}{i:Nat}(h:GS σ m e u xs)(hi:xs[i]?=some row):∃ j g cs,u=.sl j g 0 xs.length m true/\σ[j]?=some (.row cs e g 0)/\i*m+m<=cs.length/\(cs.drop (i*m)).take m=row:=by
 obtain⟨⟨hl,hr⟩,h⟩:=h;have jv:=(An.1 hi).1;rcases h with⟨-,rfl⟩ | ⟨j,g,r,q,rfl,ho,hq,qF⟩
 .grind
 .have hf:=Gj hl;have jA:i*m+m<=xs.length*m:=by rw[<-G6];exact E4 m jv
  refine⟨j,g,_,rfl,ho,by grind,?_⟩
  have hs:xs=xs.take i++row::xs.drop (i+1):=by
   have h1:=Ib jv;rw[(An.1 hi).2]at h1;rw[<-h1,Hy]
  have ht:(xs.take i).flatten.length=i*m:=by
   rw[Gj fun r hr=>hl r (Nu hr),Ic,Nat.min_eq_left AA]
  grind
theorem Alm{σ:St}{m e:Nat}{u:V}{xs:List (List V)}(h:GS σ m e u xs)(hm:0<m):∃ z,OC σ u (SL z 0 xs):=by
 obtain⟨⟨hl,hr⟩,h⟩:=h;rcases h with⟨rfl,rfl⟩ | ⟨i,g,r,q,rfl,ho,hq,qF⟩
 .exact⟨true,Gb rfl⟩
 .refine⟨false,fun js hj d=>?_⟩
  have hi:js.elem i=true:=by
   have:=hj i AQ;simpa using this
  have hf:=Gj hl;unfold Fg;rw[if_neg AN];simp only[hi,if_true,ho];rw[if_pos ⟨trivial,hm,by grind⟩,Mc,<-hf,Abx,Uc fun c hc=>?_]
  .simp only[I9,Tm hl];rfl
  grind[Tl]
theorem Bff(a b c cells:List V)(h:c.length=cells.length):Pp (a++(c++b)) a.length cells=some (a++(cells++b)):=by
 unfold Pp
 grind
def Bfg{σ:St}{m e:Nat}{u:V}{xs:List (List V)}{r0 row:List V}(h:GS σ m e u (xs++[r0]))(jj:row.length=m)(qL:row.all V.rowB=true):∃ j g cs',u=.sl j g 0 (xs.length+1) m true/\j<σ.length/\(∀ τ:St,τ[j]?=σ[j]?->Qr τ m (.ptr j g (0+xs.length*m)) (.agg row)=some (τ.set j (.row cs' e g 0))/\(j<τ.length->GS (τ.set j (.row cs' e g 0)) m e u (xs++[row])))/\Ah cs'=[]:=by
 obtain⟨⟨hl,hr⟩,h⟩:=h;rcases h with⟨-,h⟩ | ⟨j,g,r,q,rfl,ho,hq,qF⟩
 .simp at h
 .have hf:=Gj fun r hx=>hl r (Abm _ hx)
  have jD:=hl r0 AE;have hx:xs.flatten.all V.rowB=true:=Hk fun r hx=>hr r (Abm _ hx)
  have qj:row.all V.cellB=true:=Uk qL;have qD:(V.agg row).cells=row:=rfl;refine⟨j,g,xs.flatten++(row++r),by simp,(An.1 ho).1,fun τ hk=>⟨?_,fun hj=>⟨⟨fun r hx=>?_,fun r hx=>?_⟩,.inr ⟨j,g,r,q,by simp,?_,hq,qF⟩⟩⟩,?_⟩
  .simp only[Qr,hk,ho,qD];rw[if_pos ⟨trivial,As _,jj,qj⟩,Gw,<-hf]
   grind[Bff]
  .grind
  .grind
  .grind
  grind[Yf]
/-! what a struct and its lists may change -/
def fp(σ:St)(w:Nat):List Nat:=w::match σ[w]? with
 | some ob=>ob.refs
 | none=>[]
def Akk{σ:St}{w:Nat}{cs:List V}{t g z:Nat}(h:σ[w]?=some (.row cs t g z)):fp σ w=w::Ah cs:=by
 unfold fp;rw[h];rfl
def FW(w:Nat)(σ τ:St):Prop:=σ.length<=τ.length/\(∀ j,j<σ.length->j ∉ fp σ w->τ[j]?=σ[j]?)/\(∀ j∈fp τ w,j∈fp σ w\/σ.length<=j)
def Ajj(w:Nat)(σ:St):FW w σ σ:=⟨Am _,fun _ _ _=>rfl,fun _ h=>.inl h⟩
def F1{w:Nat}{σ τ υ:St}(h:FW w σ τ)(h':FW w τ υ):FW w σ υ:=by
 refine⟨Dd h.1 h'.1,fun j hj hn=>?_,fun j hj=>?_⟩
 .rw[h'.2.1 j (by have:=h.1;omega) fun hm=>?_,h.2.1 j hj hn];rcases h.2.2 j hm with h2 | h2
  .grind
  .omega
 .rcases h'.2.2 j hj with h2 | h2
  .exact h.2.2 j h2
  .exact .inr (by have:=h.1;omega)
theorem Ajk{w:Nat}{σ:St}(l:St)(hw:w<σ.length):FW w σ (σ++l):=by
 refine⟨by simp,fun j hj _=>Ex hj,fun j hj=>?_⟩
 grind[fp]
def Av5{w:Nat}{σ τ:St}{j:Nat}{x:Ob}(h:FW w σ τ)(hj:σ.length<=j)(hw:w<σ.length):FW w σ (τ.set j x):=by
 refine⟨by simpa using h.1,fun i hi hn=>?_,fun i hi=>?_⟩
 .rw[B4 AA];exact h.2.1 i hi hn
 .unfold fp at hi;rw[B4 AA]at hi;exact h.2.2 i hi
def Akl{w:Nat}{σ τ:St}{cs:List V}{t g z:Nat}(h:FW w σ τ)(hw:w<σ.length)(hc:∀ j∈Ah cs,j∈fp σ w\/σ.length<=j):FW w σ (τ.set w (.row cs t g z)):=by
 have hm:w∈fp σ w:=by unfold fp;exact Cz
 refine⟨by simpa using h.1,fun i hi hn=>?_,fun i hi=>?_⟩
 .rw[B4 (fun e=>hn (by grind))];exact h.2.1 i hi hn
 .rw[Akk (Cf (by have:=h.1;omega))]at hi
  grind
def Av6{w:Nat}{σ τ υ:St}{B:List Nat}(h:FW w σ τ)(hw:w<σ.length)(hl:τ.length<=υ.length)(hB:∀ j∈B,j∈fp σ w\/σ.length<=j)(hk:∀ j,j<τ.length->j ∉ B->υ[j]?=τ[j]?)(ki:w ∉ B):FW w σ υ:=by
 refine⟨Dd h.1 hl,fun i hi hn=>?_,fun i hi=>?_⟩
 .rw[hk i (by have:=h.1;omega) fun hm=>?_,h.2.1 i hi hn]
  grind
 .unfold fp at hi;rw[hk w (by have:=h.1;omega) ki]at hi;exact h.2.2 i hi
variable {T:Nat->Option AF} {pr:Nat->Option (List V->Option V)}
inductive LXt (qa:List (List Nat)) (n:Nat):List Nat->List Nat->Prop
 | nil {qc:List Nat}:qc.length=n->LXt qa n qc []
 | cons {qc:List Nat} {i:Nat} {L:List Nat}:i<n->i ∉ qc->(∀ d∈qa.getD i [],d∈qc)->LXt qa n (i::qc) L->LXt qa n qc (i::L)
theorem Av7{qa:List (List Nat)}{n:Nat}(hn:qa.length=n)(qY:∀ j,j<n->∀ d∈qa.getD j [],d<j):∀ (fuel t:Nat) (qc:List Nat),qc.length+fuel=n->qc.Nodup->(∀ i∈qc,i<n)->LXt qa n qc (Oj qa fuel t qc)
 | 0,t,qc,hl,_,_=>.nil AA
 | fuel+1,t,qc,hl,hnd,qs=>by
  have qM:∃ j,j<n/\j ∉ qc/\∀ d∈qa.getD j [],d∈qc:=by
   have jU:∃ j,j<n/\j ∉ qc:=by
    rcases Classical.em (∃ j,j<n/\j ∉ qc) with h | h
    .exact h
    .exfalso;have qy:∀ j,j<n->j∈qc:=fun j hj=>Classical.byContradiction fun hc=>h ⟨j,hj,hc⟩
     have h1:=Acf n qc qy;omega
   have:∀ k,∀ j,j<=k->j<n->j ∉ qc->∃ j,j<n/\j ∉ qc/\∀ d∈qa.getD j [],d∈qc:=by
    intro k
    induction k with
    | zero=>
     grind
    | succ k ih=>
     grind
   obtain⟨j,h1,h2⟩:=jU;exact this j j (Am _) h1 h2
  unfold Oj;generalize jE:(List.range qa.length).filter (Mm qa qc)=rs
  have qx:0<rs.length:=by
   obtain⟨j,h1,h2,h3⟩:=qM
   have:j∈rs:=by
    rw[<-jE,Rk];refine⟨by grind,?_⟩;simp only[Mm,Al,Rh,Cc];refine⟨?_,fun d hd=>X5.2 (h3 d hd)⟩
    cases qZ:qc.elem j with
    | false=>rfl
    | true=>grind
   exact List.length_pos_of_mem this
  have qu:rs[t % rs.length]?=some (rs[t % rs.length]'(Tn _ qx)):=Cb _;generalize rs[t % rs.length]'(Tn _ qx)=i at qu;rw[qu];have jw:i∈rs:=Hg qu;rw[<-jE,Rk]at jw;obtain⟨jx,qo⟩:=jw;have hi:i<n:=by rw[Hi,hn]at jx;exact jx
  simp only[Mm,Al,Rh,Cc]at qo;have qK:i ∉ qc:=fun h=>by grind
  have qr:∀ d∈qa.getD i [],d∈qc:=fun d hd=>X5.1 (qo.2 d hd)
  exact .cons hi qK qr (Av7 hn qY fuel _ (i::qc) (by grind) (Ag3.2 ⟨qK,hnd⟩) (fun j hj=>by
   grind))
section
variable {qa:List (List Nat)} {ops:List AI} {e e1:Env} {σ σ1:St} {qI:Nat->Env} {st:Nat->St} {val:Nat->V} {ro:Nat->Option (St->Prop)}
def Arb(qp:StaP qa ops)(q:Sr T pr qa ops.length 0 ops e σ [] [] e1 σ1 qI st val ro):∀ (L qc:List Nat) (E:Env) (S':St),LXt qa ops.length qc L->qc.Nodup->(∀ i∈qc,i<ops.length)->DC qa qc ->
  EnvOK ops val e (·∈qc) E->Xm ops ro st qc S'->∃ E',Ev T pr (.ops (D8 ops L) E S' E' σ1)/\∀ m,E'.get m=e1.get m
 | [],qc,E,S',.nil hl,hn,qs,hdc,hE,⟨m,hm,hS,heff⟩=>by
  have qq:∀ j,j<ops.length->j∈qc:=fun j hj=>Avx hn qs AA hj
  refine⟨E,?_,fun k=>?_⟩
  .have jF:S'=σ1:=by
    rw[hS,<-q.s1,Gw];obtain⟨d,hd⟩:∃ d,m+d=ops.length:=⟨ops.length - m,by omega⟩;rw[<-hd];refine(N4 q id d m AA (fun k h1 h2 he=>?_)).symm;have:=(heff k he).2 (qq k AA);omega
   rw[jF];exact .opsNil
  .have ht:=Yd q ops.length (Am _);have jq:=q.e1;rw[Gw]at jq;rw[<-jq];exact hE.same ht (fun j hj=>⟨fun h=>qs j h,fun h=>qq j h⟩)
 | i::L,qc,E,S',.cons hi qK qr hL,hn,qs,hdc,hE,⟨m,hm,hS,heff⟩=>by
  obtain⟨x,hx⟩:∃ x,ops[i]?=some x:=⟨ops[i],Cb hi⟩
  have jJ:∀ j y,i<j->ops[j]?=some y->j∈qc->Nd x y=true:=fun j y jb hy hj=>by
   rcases qp.pair i j x y jb hx hy with h | h
   .grind[Ry]
   omega
  have jT:∀ j y,j<i->ops[j]?=some y->j ∉ qc->Nd y x=true:=fun j y jb hy hj=>by
   rcases qp.pair j i y x jb hy hx with h | h
   .grind[Aco]
   omega
  have qi:∀ {j t:Nat},On ops j=some t->∃ y,ops[j]?=some y/\y.dst=some t:=fun {j t} h=>by
   unfold On at h
   grind
  have qm:Agree (qI i) E x.rd:=fun t ht=>by
   refine(Yd q i AA).same hE (fun j hj=>?_);obtain⟨y,hy,kl⟩:=qi hj;constructor
   .intro qv;rcases Classical.em (j∈qc) with h | h
    .exact h
    .have:=jT j y qv hy h
     simp_all [Nd]
   .intro jY;rcases Vk j i with h | h | h
    .exact h
    .grind
    .have:=jJ j y h hy jY
     simp_all [Nd]
  obtain⟨ja,qe⟩:=q.stp i x hx;simp only[Gw]at ja qe
  have jM:EnvOK ops val e (·∈i::qc) (E.putO x.dst (val i)):=(hE.put hx (fun j t hj kE jZ=>by
   obtain⟨y,hy,kl⟩:=qi jZ;rcases Vk j i with h | h | h
   .exact h
   .grind
   .have:=jJ j y h hy hj
    simp_all [Nd])).iff (fun j=>by grind)
  have qX:DC qa (i::qc):=fun j hj d hd=>by
   rcases B7.1 hj with rfl | hj
   .grind
   .exact Dl _ (hdc j hj d hd)
  have next:∀ S2,Xm ops ro st (i::qc) S2->Sg T pr x E S' (val i) S2->∃ E',Ev T pr (.ops (D8 ops (i::L)) E S' E' σ1)/\∀ m,E'.get m=e1.get m:=fun S2 qR jG=>by
   obtain⟨E',h1,h2⟩:=Arb qp q L (i::qc) _ S2 hL (Ag3.2 ⟨qK,hn⟩) (fun j hj=>by
    grind) qX jM qR
   refine⟨E',?_,h2⟩
   have:D8 ops (i::L)=x::D8 ops L:=by
    unfold D8;rw[Nv,hx]
   rw[this];exact jG.ev h1
  have hb:=Avz qp.dep
  cases hro:ro i with
  | none=>
   rw[hro]at qe;have qe:Sg T pr x (qI i) (st i) (val i) (st (i+1)):=qe
   have jt:∀ k,Xh ops ro k->(k∈qc↔k<i):=fun k ⟨je,ka⟩=>by
    constructor
    .intro hk;rcases Vk k i with h | h | h
     .exact h
     .grind
     .have:=q.d0 i k h je (by grind) (by grind);simp only[Gw]at this
      grind[Ry]
    .intro hk;have:=q.d0 k i hk hi (by grind) (by grind);simp only[Gw]at this
     grind[Aco]
   have jO:S'=st i:=by
    rw[hS];rcases Ahg m i with qw | qw
    .obtain⟨d,rfl⟩:=Td qw
     exact(N4 q id d m AA (fun k a1 a2 he=>by
      grind)).symm
    .obtain⟨d,rfl⟩:=Td qw
     exact N4 q id d i AA (fun k a1 a2 he=>by
      grind)
   rw[jO]at next ⊢
   refine next (st (i+1)) ⟨i+1,by omega,rfl,fun k he=>?_⟩ (qe.move qm)
   grind
  | some R=>
   rw[hro]at qe;obtain⟨kv,kw,kb⟩:st (i+1)=st i/\R (st i)/\∀ s',R s'->Sg T pr x (qI i) s' (val i) s':=qe
   have qR:Xm ops ro st (i::qc) S':=⟨m,hm,hS,fun k he=>by
    rw[heff k he,B7];constructor
    .grind
    .rintro(rfl | h)
     .rw[he.2]at hro;cases hro
     omega⟩
   refine next S' qR ((kb S' ?_).move qm)
   have jh:∀ k,Xh ops ro k->(k∈qc/\i<k\/k ∉ qc/\k<i)->R (st (k+1))=R (st k):=fun k ⟨je,ka⟩ hk=>by
    have hd:=q.d1 i k R hi je (by grind) (by grind);simp only[Gw]at hd
    grind[Ry]
   rw[hS];rcases Ahg m i with qw | qw
   .obtain⟨d,rfl⟩:=Td qw
    have:=N4 q R d m AA (fun k a1 a2 he=>jh k he (.inr ⟨fun kx=>by
     grind,a2⟩))
    grind
   .obtain⟨d,rfl⟩:=Td qw
    have:=N4 q R d i AA (fun k a1 a2 he=>by
     grind)
    grind
def A5u(qp:Oq qa ops=true)(h:TG T pr qa ops.length 0 ops e σ [] [] e1 σ1){L:List Nat}(hL:LXt qa ops.length [] L):∃ E',Ev T pr (.ops (D8 ops L) e σ E' σ1)/\∀ m,E'.get m=e1.get m:=by
 obtain⟨qI,st,val,ro,q⟩:=h.sr;exact Arb (Atp qp) q L [] e σ hL X4 (fun i hi=>by cases hi) (fun j hj=>by cases hj) (fun t=>.inr ⟨(fun j hj=>by cases hj),rfl⟩) ⟨0,As _,q.s0.symm,fun j _=>by simp⟩
end
def Xo(L:List Nat)(a b:Nat):Prop:=∀ L1 L2,L=L1++b::L2->a∈L1
def Bfh{L:List Nat}{a b:Nat}(qS:a≠b):Xo L a b\/Xo L b a:=by
 rcases Classical.em (Xo L a b) with h | h
 .grind
 .refine .inr ?_;unfold Xo at h;obtain⟨L1,h⟩:=Classical.not_forall.1 h;obtain⟨L2,h⟩:=Classical.not_forall.1 h;obtain⟨h1,h2⟩:=Classical.not_imp.1 h;intro M1 M2 h3;rw[h1]at h3;rcases List.append_eq_append_iff.1 h3 with⟨c,rfl,h4⟩ | ⟨c,rfl,h4⟩
  .cases c with
   | nil=>grind
   | cons x c=>grind
  .cases c with
   | nil=>grind
   | cons x c=>grind
def DR(T:Nat->Option AF)(pr:Nat->Option (List V->Option V))(qa:List (List Nat))(X:List (Nat × Nat))(ops:List AI)(e:Env)(σ:St)(e1:Env)(σ1:St):Prop:=
 ∀ L,LXt qa ops.length [] L->(∀ p∈X,Xo L p.1 p.2)->∃ E',Ev T pr (.ops (D8 ops L) e σ E' σ1)/\∀ m,E'.get m=e1.get m
section
variable {qa:List (List Nat)} {ops:List AI} {e e1:Env} {σ σ1:St} {X:List (Nat × Nat)}
def A5v(a b:Nat)(qS:a≠b)(h1:DR T pr qa ((a,b)::X) ops e σ e1 σ1)(h2:DR T pr qa ((b,a)::X) ops e σ e1 σ1):DR T pr qa X ops e σ e1 σ1:=fun L hL hX=>by
 rcases Bfh (L:=L) qS with h | h
 .exact h1 L hL fun p hp=>by
   grind
 .exact h2 L hL fun p hp=>by
   grind
def O4(P:List Nat)(i:Nat):Nat:=P.idxOf i
def Afl(qa qg:List (List Nat))(X:List (Nat × Nat))(n:Nat)(P:List Nat):Bool:=
 P.length==n&&((List.range n).all fun i=>P[O4 P i]?==some i&&decide (O4 P i<n)&&((qg.getD (O4 P i) []).all fun d'=>((qa.getD i []).any fun d=>O4 P d==d')||X.any fun p=>p.2==i&&O4 P p.1==d'))
def Arc{P:List Nat}{ops qh:List AI}(ho:D8 ops P=qh)(ql:qh.length=P.length)(hP:∀ i∈P,i<ops.length):∀ L:List Nat,(∀ i∈L,P[O4 P i]?=some i)->D8 qh (L.map (O4 P))=D8 ops L
 | [],_=>rfl
 | i::L,h=>by
  have ih:=Arc ho ql hP L fun j hj=>h j (Dl _ hj)
  have hi:=h i Cz
  have qG:∀ (P:List Nat) (k:Nat) (i:Nat),(∀ i∈P,i<ops.length)->P[k]?=some i->(D8 ops P)[k]?=ops[i]?:=by
   intro P
   induction P with
   | nil=>grind
   | cons p P ihP=>
    grind[D8]
  grind[D8]
def At1(P:List Nat)(qg:List (List Nat))(qh:List AI)(ho:D8 ops P=qh)(ql:qh.length=ops.length)(hp:Afl qa qg X ops.length P=true)(qp:Oq qg qh=true){e2:Env}(h:TG T pr qg qh.length 0 qh e σ [] [] e2 σ1)(he:∀ m,e2.get m=e1.get m):DR T pr qa X ops e σ e1 σ1:=by
 intro L hL hX;unfold Afl at hp;simp only[Al,beq_iff_eq,Cc,Hi,decide_eq_true_eq,Nx,Pa]at hp;obtain⟨kC,qO⟩:=hp
 have jX:∀ i j,i<ops.length->j<ops.length->O4 P i=O4 P j->i=j:=fun i j hi hj h=>by
  grind
 have jl:∀ L qc,LXt qa ops.length qc L->(∀ i∈qc,i<ops.length)->(∀ p∈X,Xo (qc.reverse++L) p.1 p.2)->LXt qg ops.length (qc.map (O4 P)) (L.map (O4 P))/\∀ i∈L,i<ops.length:=by
  intro L
  induction L with
  | nil=>
   intro qc hl _ _
   cases hl with
   | nil hl=>exact⟨.nil (by grind),by simp⟩
  | cons i L ih=>
   intro qc hl qs hB
   cases hl with
   | cons hi qK hd hl=>
    have qv:∀ j∈i::qc,j<ops.length:=fun j hj=>by
     grind
    obtain⟨g1,g2⟩:=ih (i::qc) hl qv (by grind)
    refine⟨.cons (qO i hi).1.2 (fun hm=>?_) (fun d' jS=>?_) (by grind),fun j hj=>by
     grind⟩
    .grind
    .rcases(qO i hi).2 d' jS with⟨d,h1,h2⟩ | ⟨p,h1,h2,h3⟩
     .grind
     .have:=hB p h1 qc.reverse L (by rw[h2])
      grind
 obtain⟨g1,g2⟩:=jl L [] hL (fun i hi=>by cases hi) (by grind);rw[<-ql]at g1;obtain⟨E',h1,h2⟩:=A5u qp h g1;refine⟨E',?_,fun m=>(h2 m).trans (he m)⟩
 have qQ:∀ i∈P,i<ops.length:=by
  have qy:∀ i,i<ops.length->i∈P:=fun i hi=>Hg (qO i hi).1.1
  intro i hi;rcases Az i ops.length with h | h
  .exact h
  .exfalso;have h1:=Acf ops.length (P.erase i) (fun j hj=>(List.mem_erase_of_ne AA).2 (qy j hj))
   grind
 rw[Arc ho AA qQ L (fun i hi=>(qO i (g2 i hi)).1.1)]at h1;exact h1
def Bfi{kill:List Nat}{k:List It}{Q:Env->St->Prop}(qp:((qa.length==ops.length)&&(List.range ops.length).all fun j=>(qa.getD j []).all fun d=>decide (d<j))=true)(h:∃ e1 σ1,DR T pr qa [] ops e σ e1 σ1/\W T pr k (e1.del kill) σ1 Q):W T pr (.c (.drw kill qa ops)::k) e σ Q:=by
 obtain⟨e1,σ1,hd,e',σ',h2,q⟩:=h;simp only[Al,beq_iff_eq,Cc,Hi,decide_eq_true_eq]at qp
 have qG:∀ t,∃ E',Ev T pr (.ops (D8 ops (P5 qa t)) e σ E' σ1)/\∀ m,E'.get m=e1.get m:=fun t=>by
  refine hd _ ?_ (fun p hp=>by cases hp)
  grind[P5,Aio,Av7]
 exact⟨e',σ',.cDrw (fun t=>(qG t).choose) (fun t=>(qG t).choose_spec.1) (fun t=>(qG t).choose_spec.2) h2,q⟩
end
/-! environments by their slots -/
def Aam(k:Nat)(v:V):Env->Env
 | []=>[(k,v)]
 | (m,u)::r=>if k<m then(k,v)::(m,u)::r else if k=m then(k,v)::r else(m,u)::Aam k v r
def Q0:Env->Env
 | []=>[]
 | (k,v)::r=>Aam k v (Q0 r)
def Ard(k:Nat)(v:V)(n:Nat):∀ l:Env,(Aam k v l).get n=if k=n then v else l.get n
 | []=>by simp[Aam,Env.get]
 | (m,u)::r=>by
  have ih:=Ard k v n r;unfold Aam
  split
  .simp[Env.get]
  .split
   .grind[Env.get]
   .simp only[Env.get,ih]
    grind
def Ah3(n:Nat):∀ e:Env,(Q0 e).get n=e.get n
 | []=>rfl
 | (k,v)::r=>by
  rw[Q0,Ard,Ah3 n r];rfl
def A5w{e e':Env}(h:Q0 e=Q0 e')(n:Nat):e.get n=e'.get n:=by rw[<-Ah3 n e,h,Ah3]
def DE(E:Env)(S:St)(e:Env)(σ:St):Prop:=e=E/\σ=S
def DS(E:Env)(S:St)(e:Env)(σ:St):Prop:=Q0 e=Q0 E/\σ=S
def Bjr{E:Env}{S:St}:DE E S E S:=⟨rfl,rfl⟩
def Bjs{E e:Env}{S σ:St}(h:Q0 e=Q0 E)(h':σ=S):DS E S e σ:=⟨h,h'⟩
def Bfj{qa:List (List Nat)}{ops:List AI}{kill:List Nat}{k:List It}{e:Env}{σ:St}{Q:Env->St->Prop}(a b:Nat)(P1 P2:List Nat)(d1 d2:List (List Nat)){E:Env}{S:St}
  (hp:((qa.length==ops.length)&&((List.range ops.length).all fun j=>(qa.getD j []).all fun d=>decide (d<j))&&(a==b)==false&&Afl qa d1 [(a,b)] ops.length P1&&Afl qa d2 [(b,a)] ops.length P2&&Oq d1 (D8 ops P1)&&Oq d2 (D8 ops P2)&&(D8 ops P1).length==ops.length&&(D8 ops P2).length==ops.length)=true)
  (h1:wg T pr d1 (D8 ops P1).length [] [] (DE E S) 0 (D8 ops P1) e σ [] [])
  (h2:wg T pr d2 (D8 ops P2).length [] [] (DS E S) 0 (D8 ops P2) e σ [] [])
  (h:WE T pr (E.del kill) k S Q):W T pr (.c (.drw kill qa ops)::k) e σ Q:=by
 simp only[Al,beq_iff_eq]at hp;obtain⟨⟨⟨⟨⟨⟨⟨⟨jF,jG⟩,qS⟩,p1⟩,p2⟩,s1⟩,s2⟩,l1⟩,l2⟩:=hp
 have jn:∀ {e1:Env} {σ1:St} {P:Env->St->Prop},W T pr [] (e1.del []) σ1 P->P e1 σ1:=fun {e1 σ1 P} h=>by
  have hd:∀ e:Env,e.del []=e:=fun e=>by
   induction e with
   | nil=>rfl
   | cons p r ih=>simp_all [Env.del]
  grind[Axv]
 obtain⟨e1,σ1,t1,g1⟩:=Uv _ _ _ _ _ _ h1;obtain⟨rfl,rfl⟩:=jn g1;obtain⟨e2,σ2,t2,g3⟩:=Uv _ _ _ _ _ _ h2;obtain⟨g4,rfl⟩:=jn g3;refine Bfi ?_ ⟨_,_,A5v a b (by grind) (At1 P1 d1 _ rfl l1 p1 s1 t1 fun _=>rfl) (At1 P2 d2 _ rfl l2 p2 s2 t2 (A5w g4)),h⟩
 grind
def Jn(w:World):E1:=fun b=>match w.heap[b]? with
 | some (.cells c _ _)=>some c.size
 | _=>none
def A0g{w:World}{b o:Nat}{v:Value}(h:w.cell? ⟨b,o,none⟩=some v):∃ k,Jn w b=some k/\o<k:=by
 unfold World.cell? at h;unfold Jn
 grind
inductive HasT (P:Program):TypeId->List V->Prop
 | bool {t:TypeId} {b:Bool}:P.underlying t=some .bool->HasT P t [.bool b]
 | int {t:TypeId} {k:IntKind} {n:Int}:P.underlying t=some (.int k)->(Lit.int k n).wf=true->HasT P t [.int k n]
 | str {t:TypeId} {s:ByteArray}:P.underlying t=some .string->s.size<=maxLen->HasT P t [.str s.data.toList]
 | nils {t e:TypeId}:P.underlying t=some (.slice e)->HasT P t [.nils]
 | lst {t e:TypeId} {xs:List (List V)}:P.underlying t=some (.slice e)->xs.length<=maxLen->(∀ i,i<xs.length->HasT P e (xs.getD i []))->HasT P t [.lst 0 xs]
 | struct {t:TypeId} {fs:Array Field} (qb:List (List V)):P.underlying t=some (.struct fs)->qb.length=fs.size->(∀ i f,fs[i]?=some f->HasT P f.type (qb.getD i []))->HasT P t qb.flatten
 | array {t e:TypeId} {n:Nat} (qb:List (List V)):P.underlying t=some (.array n e)->qb.length=n->(∀ i,i<n->HasT P e (qb.getD i []))->HasT P t qb.flatten
mutual
def V.bulk:V->Nat
 | .str l=>l.length+1
 | .lst _ xs=>Cx xs+1
 | _=>1
def Cx:List (List V)->Nat
 | []=>0
 | r::rs=>C6 r+Cx rs
def C6:List V->Nat
 | []=>0
 | p::ps=>p.bulk+C6 ps
end
def Ag6(a b:List V):C6 (a++b)=C6 a+C6 b:=by
 induction a with
 | nil=>simp[C6]
 | cons x a ih=>grind[C6]
def Qv(P:Program):List Field->Nat->Nat->Bool
 | [],s,e=>s==e
 | f::fs,s,e=>f.offset==s&&Qv P fs (s+P.cellsOf f.type) e
def Bah(P:Program)(ts:List TypeId):Bool:=ts.all fun t=>
 match P.underlying t with
 | some .bool | some (.int _) | some .string=>true
 | some (.slice e)=>ts.contains e&&decide (0<P.cellsOf e)
 | some (.struct fs)=>fs.toList.all (fun f=>ts.contains f.type)&&Qv P fs.toList 0 (P.cellsOf t)
 | some (.array n e)=>ts.contains e&&P.cellsOf t==n*P.cellsOf e
 | _=>false
def Apo{α β:Type}{f:α->Option β}:∀ {l:List α} {r:List β},l.mapM f=some r->r.length=l.length/\∀ i (hi:i<l.length),f l[i]=r[i]?
 | [],r,h=>by
  grind
 | a::l,r,h=>by
  rw[Jv]at h
  cases ha:f a with
  | none=>grind
  | some b=>
   cases hl:l.mapM f with
   | none=>grind
   | some r'=>
    simp[ha,hl]at h;subst h;obtain⟨h1,h2⟩:=Apo hl
    grind
structure RowAt {H:Type} (P:Program) (w:World) (t:TypeId) (cs:List Value) (d:DataW H) (qf:List V):Prop where
 len:qf.length=cs.length
 rep:∀ j,j<cs.length->RepR (Jn w) w (qf.getD j .und) (cs.getD j undef)
 typ:HasT P t qf
 bulk:C6 qf<=Rows.uptoBulk d
def An0{H:Type}:∀ (xs:List (List V)) (ds:List (DataW H)),xs.length=ds.length->(∀ i,i<xs.length->∀ d,ds[i]?=some d->C6 (xs.getD i [])<=Rows.uptoBulk d)->Cx xs<=Rows.uptoBulkAll ds
 | [],ds,_,_=>by simp[Cx]
 | x::xs,[],h,_=>by simp at h
 | x::xs,d::ds,h,hb=>by
  have h0:=hb 0 AE d rfl;have:=An0 xs ds (by grind) (fun i hi d' hd=>by simpa using hb (i+1) (by grind) d' (by grind))
  grind[Cx,Rows.uptoBulkAll]
def Aoj{α:Type}(a b:List α)(i:Nat)(d:α)(h:i<a.length):(a++b).getD i d=a.getD i d:=by
 grind
def At2{Q:Nat->List V->Prop}:∀ (n:Nat),(∀ i,i<n->∃ r,Q i r)->∃ xs:List (List V),xs.length=n/\∀ i,i<n->Q i (xs.getD i [])
 | 0,_=>⟨[],rfl,fun i hi=>absurd hi AA⟩
 | n+1,h=>by
  obtain⟨xs,hl,hx⟩:=At2 n (fun i hi=>h i AA);obtain⟨r,hr⟩:=h n AA;refine⟨xs++[r],by simp[hl],fun i hi=>?_⟩
  grind
def Aok{H:Type}{P:Program}{w:World}{cs:List Value}{g:Field->Option (DataW H × List MemPlace)}:
  ∀ (fl:List Field) (s e:Nat) (xs:List (DataW H × List MemPlace)),Qv P fl s e=true->fl.mapM g=some xs->e<=cs.length ->
   (∀ f∈fl,∀ x,g f=some x->∃ qf,RowAt P w f.type ((cs.drop f.offset).take (P.cellsOf f.type)) x.1 qf) ->
   ∃ qb:List (List V),qb.length=fl.length/\s<=e/\qb.flatten.length=e - s/\(∀ i f,fl[i]?=some f->HasT P f.type (qb.getD i [])) /\
    (∀ j,j<e - s->RepR (Jn w) w (qb.flatten.getD j .und) (cs.getD (s+j) undef))/\C6 qb.flatten<=Rows.uptoBulkAll (xs.map (·.1))
 | [],s,e,xs,hc,hm,_,_=>by
  simp[Qv]at hc;simp at hm;subst hc hm;exact⟨[],rfl,Am _,by simp,fun i f h=>by simp at h,fun j hj=>by omega,by simp[C6]⟩
 | f::fl,s,e,xs,hc,hm,he,hg=>by
  simp only[Qv,Al,beq_iff_eq]at hc;rw[Jv]at hm
  cases hf:g f with
  | none=>grind
  | some x=>
   cases hl:fl.mapM g with
   | none=>grind
   | some r=>
    simp[hf,hl]at hm;subst hm;obtain⟨qb,h1,h2,h3,h4,h5,h6⟩:=Aok fl _ e r hc.2 hl he (fun f' jV=>hg f' (Dl _ jV));obtain⟨qf,hp⟩:=hg f (Cz) x hf
    have ql:qf.length=P.cellsOf f.type:=by
     rw[hp.len,Ic,Gi,hc.1];omega
    refine⟨qf::qb,by simp[h1],by omega,by grind,fun i f' hi=>?_,fun j hj=>?_,?_⟩
    .cases i with
     | zero=>simp at hi;subst hi;simpa using hp.typ
     | succ i=>grind
    .rw[Gv];by_cases jd:j<P.cellsOf f.type
     .rw[Aoj _ _ _ _ AA];have:=hp.rep j (by grind)
      grind
     grind
    .rw[Gv,Ag6,Bh];simp only[Rows.uptoBulkAll];have:=hp.bulk;omega
def App{H:Type}{P:Program}{w:World}{cs:List Value}{e:TypeId}{g:Nat->Option (DataW H × List MemPlace)}(hg:∀ i x,g i=some x->∃ qf,RowAt P w e ((cs.drop (i*P.cellsOf e)).take (P.cellsOf e)) x.1 qf):
  ∀ (n s:Nat) (xs:List (DataW H × List MemPlace)),(List.range' s n).mapM g=some xs->(s+n)*P.cellsOf e<=cs.length ->
   ∃ qb:List (List V),qb.length=n/\qb.flatten.length=n*P.cellsOf e/\(∀ i,i<n->HasT P e (qb.getD i [])) /\
    (∀ j,j<n*P.cellsOf e->RepR (Jn w) w (qb.flatten.getD j .und) (cs.getD (s*P.cellsOf e+j) undef))/\C6 qb.flatten<=Rows.uptoBulkAll (xs.map (·.1))
 | 0,s,xs,hm,_=>by
  simp at hm;subst hm;exact⟨[],rfl,by simp,fun i hi=>by omega,fun j hj=>by omega,by simp[C6]⟩
 | n+1,s,xs,hm,hl=>by
  rw[List.range'_succ,Jv]at hm
  cases hf:g s with
  | none=>grind
  | some x=>
   cases hr:(List.range' (s+1) n).mapM g with
   | none=>grind
   | some r=>
    simp[hf,hr]at hm;subst hm;have el:(s+(n+1))*P.cellsOf e=s*P.cellsOf e+P.cellsOf e+n*P.cellsOf e:=by rw[N0,G6];omega
    have es:(s+1)*P.cellsOf e=s*P.cellsOf e+P.cellsOf e:=G6 ..;obtain⟨qb,h1,h3,h4,h5,h6⟩:=App hg n (s+1) r hr (by grind);obtain⟨qf,hp⟩:=hg s x hf
    have ql:qf.length=P.cellsOf e:=by
     rw[hp.len,Ic,Gi];omega
    have en:(n+1)*P.cellsOf e=n*P.cellsOf e+P.cellsOf e:=G6 ..;refine⟨qf::qb,by simp[h1],by grind,fun i hi=>?_,fun j hj=>?_,?_⟩
    .cases i with
     | zero=>simpa using hp.typ
     | succ i=>grind
    .rw[Gv];by_cases jd:j<P.cellsOf e
     .rw[Aoj _ _ _ _ AA];have:=hp.rep j (by grind)
      grind
     grind
    .rw[Gv,Ag6,Bh];simp only[Rows.uptoBulkAll];have:=hp.bulk;omega
def Bai(a:Addr)(n m:Nat)(h:a.spot=none):(a.add n).add m=⟨a.block,a.off+n+m,none⟩:=by
 unfold Addr.add
 split<;>split<;>simp_all<;>(cases a;simp_all)
def Yt{H:Type}(qH:TypeId × Value->H)(P:Program)(w:World)(qk:Nat->Bool)(qn:Bool)(ts:List TypeId)(qP:Bah P ts=true):
  ∀ (fuel:Nat) (t:TypeId) (cs:List Value) (d:DataW H) (ps:List MemPlace),t∈ts->DataW.trod qH P w 0 qk qn fuel t cs=some (d,ps)->∃ qf,RowAt P w t cs d qf
 | 0,_,_,_,_,_,h=>by simp_all [DataW.trod]
 | fuel+1,t,cs,d,ps,ht,h=>by
  have hp:=Cc.1 qP t ht;simp only[DataW.trod]at h
  split at h
  .rename_i b hu;simp at h;obtain⟨rfl,_⟩:=h
   exact⟨[.bool b],rfl,(fun j hj=>by
    obtain rfl:j=0:=by grind
    exact .bool),.bool hu,by simp[C6,V.bulk,Rows.uptoBulk]⟩
  .rename_i k k' n hu
   split at h
   .rename_i hk;simp at h;obtain⟨rfl,_⟩:=h;obtain⟨rfl,kj⟩:=hk
    exact⟨[.int k' n],rfl,(fun j hj=>by
    obtain rfl:j=0:=by grind
    exact .int),.int hu kj,by simp[C6,V.bulk,Rows.uptoBulk]⟩
   grind
  .grind
  .rename_i s hu
   split at h
   .rename_i hs;simp at h;obtain⟨rfl,_⟩:=h;have jk:s.data.toList.length=s.size:=by rw[Array.length_toList];rfl
    exact⟨[.str s.data.toList],rfl,(fun j hj=>by
     obtain rfl:j=0:=by grind
     have hh:RepR (Jn w) w (.str s.data.toList) (.string ⟨s.data.toList.toArray⟩):=.str AA
     simp_all),.str hu hs,by simp[C6,V.bulk,Rows.uptoBulk]⟩
   grind
  .grind
  .grind
  .rename_i e hu;simp at h;obtain⟨rfl,_⟩:=h
   exact⟨[.nils],rfl,(fun j hj=>by
    obtain rfl:j=0:=by grind
    exact .nils),.nils hu,by simp[C6,V.bulk,Rows.uptoBulk]⟩
  .rename_i e a len cap hu;rw[hu]at hp;simp only[Al,decide_eq_true_eq,Abl]at hp
   split at h
   .rename_i hc;obtain⟨_,kA,jR⟩:=hc
    cases hm:(List.range len).mapM (fun i=>(w.cells? 0 (a.add (i*P.cellsOf e)) (P.cellsOf e)).bind (DataW.trod qH P w 0 qk qn fuel e)) with
    | none=>grind
    | some elems=>
     simp only[hm,C5,Ci]at h;obtain⟨km,_,h⟩:=h;simp at h;obtain⟨rfl,_⟩:=h;obtain⟨hl,qZ⟩:=Apo hm;simp only[List.length_range]at hl qZ
     have qG:∀ i,i<len->∃ r,(∃ cs' x,(∀ j,j<P.cellsOf e->w.cell? ((a.add (i*P.cellsOf e)).add j)=some (cs'.getD j undef))/\elems[i]?=some x/\cs'.length=P.cellsOf e/\RowAt P w e cs' x.1 r):=by
      intro i hi;have h1:=qZ i AA;simp only[Agz]at h1;have qs:i<elems.length:=by omega
      cases qD:w.cells? 0 (a.add (i*P.cellsOf e)) (P.cellsOf e) with
      | none=>grind
      | some cs'=>
       obtain⟨_,qC,kr⟩:=World.cells?_some qD;rw[qD,C5,Cb qs]at h1;obtain⟨r,hr⟩:=Yt qH P w qk qn ts qP fuel e cs' _ _ hp.1 h1
       grind
     obtain⟨xs,kk,hx⟩:=At2 len qG
     have jI:0<len->a.spot=none:=fun h0=>by
      grind[World.cell?_spot,Addr.add]
     have qj:∀ i j,i<len->j<P.cellsOf e->∃ v,w.cell? ⟨a.block,a.off+i*P.cellsOf e+j,none⟩=some v/\RepR (Jn w) w ((xs.getD i []).getD j .und) v:=by
      intro i j hi hj;obtain⟨cs',x,hc,_,qC,hr⟩:=hx i hi;have h1:=hc j hj;rw[Bai _ _ _ (jI AA)]at h1;exact⟨_,h1,hr.rep j AA⟩
     refine⟨[.lst 0 xs],rfl,fun j hj=>?_,.lst hu AA (fun i hi=>?_),?_⟩
     .obtain rfl:j=0:=by grind
      show RepR (Jn w) w (.lst 0 xs) (.slice (some a) len cap);rw[<-kk];refine .lst (m:=P.cellsOf e) (fun i j=>(w.cell? ⟨a.block,a.off+i*P.cellsOf e+j,none⟩).getD undef) (fun h=>by omega) AA jR (fun h0=>⟨jI AA,?_⟩) (fun i hi=>?_) (fun i j hi hj=>?_) (fun i j hi hj=>?_)
      .obtain⟨v,hv,_⟩:=qj (xs.length - 1) (P.cellsOf e - 1) AA AA;obtain⟨k,hk,qs⟩:=A0g hv;refine⟨k,hk,?_⟩
       have:(xs.length - 1)*P.cellsOf e+P.cellsOf e=xs.length*P.cellsOf e:=by
        rw[<-G6];congr 1;omega
       omega
      .obtain⟨cs',x,_,_,qC,hr⟩:=hx i AA;rw[hr.len,qC]
      .grind
      grind
     .obtain⟨_,_,_,_,_,hr⟩:=hx i AA;exact hr.typ
     .simp only[C6,V.bulk,Rows.uptoBulk]
      have:=An0 xs (elems.map (·.1)) (by grind) (fun i hi d' hd=>by
       obtain⟨_,x,_,he,_,hr⟩:=hx i AA;simp[he]at hd;subst hd
       exact hr.bulk)
      omega
   grind
  .rename_i fs hu;rw[hu]at hp;simp only[Al,Cc,Abl]at hp
   split at h
   .rename_i qC;simp only[Ci]at h;obtain⟨xs,hm,h⟩:=h;simp at h;obtain⟨rfl,_⟩:=h;obtain⟨qb,h1,h2,h3,h4,h5,h6⟩:=Aok (P:=P) (w:=w) (cs:=_) fs.toList 0 _ xs hp.2 hm AA (fun f hf x hx=>Yt qH P w qk qn ts qP fuel f.type _ x.1 x.2 (hp.1 f hf) hx);refine⟨qb.flatten,by omega,fun j hj=>by grind,.struct qb hu AA (fun i f hf=>h4 i f (by grind)),?_⟩
    grind[Rows.uptoBulk]
   grind
  .rename_i n e hu;rw[hu]at hp;simp only[Al,beq_iff_eq,Abl]at hp
   split at h
   .rename_i qC;simp only[Ci]at h;obtain⟨xs,hm,h⟩:=h;simp at h;obtain⟨rfl,_⟩:=h;rw[List.range_eq_range']at hm;obtain⟨qb,h1,h3,h4,h5,h6⟩:=App (P:=P) (w:=w) (e:=e) (cs:=_) (fun i x hx=>Yt qH P w qk qn ts qP fuel e _ x.1 x.2 hp.1 hx) n 0 xs hm (by grind);refine⟨qb.flatten,by omega,fun j hj=>by grind,.array qb hu h1 h4,?_⟩
    grind[Rows.uptoBulk]
   grind
  all_goals grind
section
open Go.RowKit
variable {P:Program} {G:List (Nat × List V)} {T:Nat->Option AF} {pr:Nat->Option (List V->Option V)}
def Af3:V->Bool
 | .bool _ | .int _ _ | .str _=>true
 | _=>false
theorem A2v{κ:E1}{w:World}{v:V}{u:Value}(h:Oi v u=true)(hf:Af3 v=true):RepR κ w v u:=by
 have h':RepC ⟨κ,[]⟩ w v u:=Acc h
 cases h' with
 | row h=>exact h
 | _=>cases hf
def Anv:∀ {vs:List V} {us:List Value},Iv vs us=true->vs.length=us.length/\∀ j,j<vs.length->Oi (vs.getD j .und) (us.getD j undef)=true
 | [],[],_=>⟨rfl,fun j hj=>absurd hj AE⟩
 | v::vs,u::us,h=>by
  simp only[Iv,Al]at h;obtain⟨h1,h2⟩:=Anv h.2
  grind
def W1(v:V)(u:Value):Prop:=(Oi v u=true/\Af3 v=true)\/(v=.ifc/\∃ t p,u=.iface t p)
def A2w{κ:E1}{w:World}{v:V}{u:Value}(h:W1 v u):RepR κ w v u:=by
 rcases h with⟨h1,h2⟩ | ⟨rfl,t,p,rfl⟩
 .grind[A2v]
 .exact .ifc
theorem A0o{r:List V}{us:List Value}(h:Iv r us=true)(hf:r.all Af3=true):r.length=us.length/\∀ j,j<r.length->W1 (r.getD j .und) (us.getD j undef):=by
 obtain⟨h1,h2⟩:=Anv h;exact⟨h1,fun j hj=>.inl ⟨h2 j hj,Cc.1 hf _ (by grind)⟩⟩
def Amu(G:List (Nat × List V))(w:World):Prop:=∀ g r,(g,r)∈G->∃ us e fz,w.heap[g]?=some (.cells us e fz)/\r.length=us.toList.length/\∀ j,j<r.length->W1 (r.getD j .und) (us.toList.getD j undef)
def Bnx{w:World}(h:Amu G w):Inv G w.heap.size ⟨Jn w,[]⟩ [] w where
 base:=Am _
 len:=rfl
 nd:=X4
 low:=fun i p h=>by simp at h
 obj:=fun i ob p h=>by simp at h
 dom:=fun b k hk=>by
  grind[Jn]
 glob:=fun g r hg=>by
  obtain⟨us,e,fz,hh,hl,hj⟩:=h g r hg;have hk:Jn w g=some us.size:=by unfold Jn;rw[hh]
  have:=RepC.imm (γ:=⟨Jn w,[]⟩) (w:=w) (r:=r) (off:=0) (b:=g) (o:=0) (k:=us.size) (fun j=>us.toList.getD j undef) hk (by grind) (fun j jy=>by
    grind[World.cell?]) (fun j jy=>A2w (hj j jy))
  omega
 gsz:=fun g r hg=>by
  obtain⟨us,e,fz,hh,hl,hj⟩:=h g r hg
  grind[Ep]
def A2x{σ:St}{v:V}{b:Bool}(h:Eg σ v=some (.bool b)):v=.bool b:=by
 unfold Eg Iw at h
 split at h
 .simp_all
 .unfold Gy at h
  split at h
  .cases h
  .simp_all
  .unfold Fg at h
   grind[Option.map_eq_some_iff]
def A2y(hT:∀ f F,T f=some F->F.spec=none->Q9 P G f F=true)(hS:∀ f F s,T f=some F->F.spec=some s->Sl P G f s)(ke:∀ f s,pr f=some s->Iy P G f s){f:Nat}{vs:List V}{us:List Value}{w:World}(hf:Fn T pr f vs (.bool true))(hg:Amu G w)(hl:vs.length=us.length)
  (hr:∀ j,j<vs.length->RepV ⟨Jn w,[]⟩ w (vs.getD j .und) (us.getD j undef)):Calls P f us.toArray w fun e w'=>e=.returned (.bool true)/\Below w.heap.size w w':=by
 obtain⟨F,h1,h2,h3,v0,σ0,hE,hv⟩:=hf;have kh:=A2x hv;subst kh;refine(Axq hT hS ke hE us w ⟨Jn w,[]⟩ w.heap.size hl hr (Bnx hg)).mono ?_;rintro _ w' ⟨u,γ',rfl,hu,_,_,hb,_⟩;exact⟨by rw[Pb (Bf rfl hu)],hb⟩
def At3{H:Type}{w:World}{t:TypeId}{cs:Array Value}{d:DataW H}{qf:List V}(h:RowAt P w t (Value.agg cs).cells.toList d qf):RepV ⟨Jn w,[]⟩ w (.agg qf) (.agg cs):=by
 have h1:qf.length=cs.toList.length:=h.len;have:=Rep1.agg (γ:=⟨Jn w,[]⟩) (w:=w) (cs:=qf) (us:=cs.toList) h1 (fun j hj=>.row (h.rep j (by rw[<-h.len];exact hj)));exact .one AA
end
open Go Go.RowKit Go.Shelf
def A0h(w:World)(g n b:Nat)(h:b≠g):(w.freeze ⟨g,0,none⟩ n).heap[b]?=w.heap[b]?:=by
 unfold World.freeze
 grind
def A0p(w:World)(g n:Nat){qt:Array Value}{e:TypeId}{lo hi:Nat}(h:w.heap[g]?=some (.cells qt e (lo,hi))):∃ jK qE,(w.freeze ⟨g,0,none⟩ n).heap[g]?=some (.cells qt e (jK,qE))/\qE<=max hi n:=by
 unfold World.freeze
 grind
section
variable {P:Program} {ρ:Ren}
set_option maxHeartbeats 1000000 in
set_option maxRecDepth 100000 in
def A1a(L:Lays.n169 P ρ)(X:Builder.Extra P ρ)(b g cap:Nat)(qt:Array Value)(fz:Nat × Nat)(l:List UInt8)(w:World)(h0:l≠[])(qU:w.cell? ⟨b,1,none⟩=some (.slice (some ⟨g,0,none⟩) l.length cap))
  (hg:w.heap[g]?=some (.cells qt (ρ.t 5) fz)) (kB:l.length<=cap) (qD:l.length<=qt.size) (hm:l.length<=9223372036854775807) (qj:∀ j x,l[j]?=some x->w.cell? ((⟨g,0,none⟩:Addr).add j)=some (.int .u8 x.toNat)) :
  Calls P (ρ.f 169) #[.pointer (some ⟨b,0,none⟩)] w fun e w'=>e=.returned (.string ⟨l.toArray⟩)/\w'=w.drew.freeze ⟨g,0,none⟩ l.length:=by
 have ky:l.length≠0:=by simpa using h0
 have c1:w.drew.cell? ⟨b,1,none⟩=some (.slice (some ⟨g,0,none⟩) l.length cap):=qU
 have jN:(Builtin.unsafeSliceData_ #[(ρ.t 37)] (ρ.t 127) #[.slice (some ⟨g,0,none⟩) l.length cap]).run P w.drew=.ok (.pointer (some ⟨g,0,none⟩)) w.drew:=
  Lib.run_unsafeSliceData_row _ _ _ _ _ _ AA
 have jP:(Builtin.unsafeString_ #[(ρ.t 127),(ρ.t 3)] (ρ.t 9) #[.pointer (some ⟨g,0,none⟩),.int .i64 l.length]).run P w.drew=.ok (.string ⟨l.toArray⟩) (w.drew.freeze ⟨g,0,none⟩ l.length):=
  Lib.run_unsafeString_row w.drew (ρ.t 127) (ρ.t 3) (ρ.t 9) (ρ.t 5) L.t127 X.cellsByte g qt.size (by have ku:w.drew.heap[g]?=some (.cells qt (ρ.t 5) fz):=hg;grind[World.shape?]) l h0 qD hm qj
 have mixed:=L.mixed;have t72:=L.t72;have a72:=L.a72;have z72:=L.z72;have v72:=L.v72;have kq:=run_underlying L.t72;have t70:=L.t70;have a70:=L.a70;have z70:=L.z70;have v70:=L.v70;have ko:=run_underlying L.t70;have t37:=L.t37;have a37:=L.a37;have z37:=L.z37;have v37:=L.v37;have kn:=run_underlying L.t37;have t127:=L.t127;have a127:=L.a127;have z127:=L.z127;have v127:=L.v127;have jm:=run_underlying L.t127;have t3:=L.t3;have a3:=L.a3;have z3:=L.z3;have v3:=L.v3;have u3:=run_underlying L.t3;have t9:=L.t9;have a9:=L.a9;have z9:=L.z9;have v9:=L.v9;have u9:=run_underlying L.t9;have t5:=X.t5;have a5:=X.a5;have z5:=X.z5;have v5:=X.v5;have u5:=run_underlying X.t5
 go_enter L.f169,Body.n169_ntmps ρ
 go_wp2
 go_region_o
 all_goals (go_wp2;go_ret;simp_all)
set_option maxHeartbeats 1000000 in
set_option maxRecDepth 100000 in
def A1b(L:Lays.n169 P ρ)(X:Builder.Extra P ρ)(b:Nat)(w:World)(qU:w.cell? ⟨b,1,none⟩=some (.slice none 0 0)):
  Calls P (ρ.f 169) #[.pointer (some ⟨b,0,none⟩)] w fun e w'=>e=.returned (.string ⟨#[]⟩)/\w'=w.drew:=by
 have jP:=Any.unsafeString_none L X;have c1:w.drew.cell? ⟨b,1,none⟩=some (.slice none 0 0):=qU;have jN:(Builtin.unsafeSliceData_ #[(ρ.t 37)] (ρ.t 127) #[.slice none 0 0]).run P w.drew=.ok (.pointer none) w.drew:=rfl;have mixed:=L.mixed;have t72:=L.t72;have a72:=L.a72;have z72:=L.z72;have v72:=L.v72;have kq:=run_underlying L.t72;have t70:=L.t70;have a70:=L.a70;have z70:=L.z70;have v70:=L.v70;have ko:=run_underlying L.t70;have t37:=L.t37;have a37:=L.a37;have z37:=L.z37;have v37:=L.v37;have kn:=run_underlying L.t37;have t127:=L.t127;have a127:=L.a127;have z127:=L.z127;have v127:=L.v127;have jm:=run_underlying L.t127;have t3:=L.t3;have a3:=L.a3;have z3:=L.z3;have v3:=L.v3;have u3:=run_underlying L.t3;have t9:=L.t9;have a9:=L.a9;have z9:=L.z9;have v9:=L.v9;have u9:=run_underlying L.t9;have t5:=X.t5;have a5:=X.a5;have z5:=X.z5;have v5:=X.v5;have u5:=run_underlying X.t5
 go_enter L.f169,Body.n169_ntmps ρ
 go_wp2
 go_region_o
 all_goals (go_wp2;go_ret;exact⟨rfl,rfl⟩)
end
def A0q(w:World)(b:Nat)(us:Array Value)(e:TypeId)(u:Value){fz:Nat × Nat}(h:w.heap[b]?=some (.cells us e fz)):w.setCell ⟨b,0,none⟩ u=w.setRow b (us.setIfInBounds 0 u):=by
 unfold World.setCell World.setRow;congr 1
 grind
def An1:∀ {xs:List (List V)} {l:List UInt8},Tv xs=some l->l.length=xs.length/\∀ (j:Nat) x,l[j]?=some x->xs.getD j []=[.int .u8 (x.toNat:Int)]
 | [],l,h=>by
  simp[Tv]at h
  grind
 | r::xs,l,h=>by
  unfold Tv at h
  split at h
  .grind
  .rename_i n r' e;injection e with e1 e2;subst e1 e2
   split at h
   .rename_i hn;simp only[Ci]at h;obtain⟨l',h,rfl⟩:=h;obtain⟨g1,g2⟩:=An1 h
    grind[UInt8.toNat_ofNat']
   grind
  grind
/-! copyCheck -/
def Ajl:Tryz.prog.underlying 206=some (.pointer 208):=by kernel_rfl
def Are:(Tryz.prog.info? 208).map (·.size)=some 2:=by kernel_rfl
theorem Apq:Tryz.prog.cellsOf 208=2:=by kernel_rfl
def A5x:sameLayout Tryz.prog Tryz.prog.depth 208 208=true:=by kernel_rfl
def A2z:∃ d,Tryz.prog.depth=d+1:=⟨Tryz.prog.depth - 1,by kernel_rfl⟩
theorem A5y(n:Nat)(hn:1<=n):liesAt Tryz.prog Tryz.prog.depth 208 n 0 208 1=true:=by
 obtain⟨d,hd⟩:=A2z
 have hr:rowAt Tryz.prog (sameLayout Tryz.prog Tryz.prog.depth · 208) Tryz.prog.depth 208 n 0 1=true:=by
  have:=A5x;generalize hf:(fun x=>sameLayout Tryz.prog Tryz.prog.depth x 208)=f;have jW:f 208=true:=by rw[<-hf];exact this
  rw[hd];unfold rowAt;simp[Apq,jW,hn]
 grind[liesAt]
def Aol:Tryz.prog.underlying 276=some .unsafePointer:=by kernel_rfl
set_option maxHeartbeats 1000000 in
set_option maxRecDepth 100000 in
def Baj(b:Nat)(w:World)(h0:w.cell? ⟨b,0,none⟩=some (.pointer (some ⟨b,0,none⟩))):
  Calls Tryz.prog 218 #[.pointer (some ⟨b,0,none⟩)] w fun e w'=>e=.returned (.tuple #[])/\w'=w:=by
 obtain⟨j,hj,_⟩:=Ci.1 Are
 go_enter Tryz.func218,Tryz.ntmps218
 go_wp2
 rw[Lib.run_neq_ptr_same w _ Ajl hj]
 go_wp2
 go_end0
 grind
set_option maxHeartbeats 1000000 in
set_option maxRecDepth 100000 in
def A5z(b:Nat)(w:World)(h0:w.cell? ⟨b,0,none⟩=some (.pointer none))(n:Nat)(hn:2<=n)(jH:w.shape? b=some (208,n))(kt:w.frozen? ⟨b,0,none⟩=false):
  Calls Tryz.prog 218 #[.pointer (some ⟨b,0,none⟩)] w fun e w'=>e=.returned (.tuple #[])/\w'=w.setCell ⟨b,0,none⟩ (.pointer (some ⟨b,0,none⟩)):=by
 obtain⟨j,hj,jz⟩:=Ci.1 Are
 go_enter Tryz.func218,Tryz.ntmps218
 go_wp2
 rw[Lib.run_to_unsafe w ⟨b,0,none⟩ Ajl Aol hj AA jH (by grind)];simp only[Result.andThen];rw[Oper.upon_value]
 go_wp2
 rw[run_callFunc_extern Tryz.func232 AD AD AD (e:=Extern.AbiNoEscape.same) AD];rw[Lib.run_noEscape];simp only[Result.andThen];rw[Oper.upon_value]
 go_wp2
 rw[Lib.run_from_unsafe w ⟨b,0,none⟩ Aol Ajl hj jH (by grind[Apq,A5y])];simp only[Result.andThen];rw[Oper.upon_value]
 go_wp2
 go_end0
 grind
/-! what they do -/
def Xq(tB:Nat):List V->St->Option (V × St)
 | [.ptr b g 0],σ=>match σ[b]? with
  | some (.row [.nilp,x] e g' 0)=>if g=g'/\e=tB then some (.tup [],σ.set b (.row [.ptr b g 0,x] e g 0)) else none
  | some (.row [.ptr b' g2 0,_] _ g' _)=>if g=g'/\b'=b/\g2=g then some (.tup [],σ) else none
  | _=>none
 | _,_=>none
def U4(tB tE:Nat):List V->St->Option (V × St)
 | [.ptr b g 0],σ=>match σ[b]? with
  | some (.row [_,.nils] e g' _)=>if g=g'/\e=tB then some (.str [],σ) else none
  | some (.row [_,.sl i gi 0 len 1 _] e g' _)=>if g=g'/\e=tB/\0<len then(match σ[i]? with
   | some (.row cs e' jo _)=>if gi=jo/\e'=tE/\len<=cs.length then(Tv (Fi 1 len cs)).map fun l=>(.str l,σ.set i .dead) else none
   | _=>none) else none
  | _=>none
 | _,_=>none
section
variable {G:List (Nat × List V)} {N:Nat} {γ:Gh} {σ:St} {w:World}
def Inv.kill(h:Inv G N γ σ w){i k:Nat}{p:Nat × Nat}{cs:List V}{e g z:Nat}(hp:γ.O[i]?=some p)(ho:σ[i]?=some (.row cs e g z)):
  Inv G N γ (σ.set i .dead) (w.freeze ⟨p.1,0,none⟩ k)/\Ext γ w γ (w.freeze ⟨p.1,0,none⟩ k)/\Below N w (w.freeze ⟨p.1,0,none⟩ k):=by
 obtain⟨q,hq,h1,h2,h3,us,lo,hi,h4,h5,h6,h7⟩:=h.of ho;rw[hp]at hq;injection hq with hq;subst hq;obtain⟨jK,qE,f1,f2⟩:=A0p w p.1 k h4
 have jk:(w.freeze ⟨p.1,0,none⟩ k).heap.size=w.heap.size:=by unfold World.freeze;split<;>simp
 have hs:Ep (w.freeze ⟨p.1,0,none⟩ k) p.1=Ep w p.1:=by simp[Ep,f1,h4]
 have:=h.turn (w':=w.freeze ⟨p.1,0,none⟩ k) (p':=p) (ob':=.dead) (κ':=γ.κ) hp AA (fun b _ hb=>A0h w p.1 k b hb) (fun _ _ _=>rfl) (fun b k hk=>by rw[jk];exact h.dom b k hk) (fun z' hz=>⟨z',hz,Am _,fun o _=>by grind[World.cell?]⟩) (Am _) (fun _=>⟨rfl,hs⟩) (.inl rfl) (fun _=>by show p.1<_;grind);rw[N3 hp]at this;exact⟨this.1,this.2,Lib.below_freeze (Below.refl N w) (p:=⟨p.1,0,none⟩) (h.low i p hp) k⟩
end
def Bjt{G:List (Nat × List V)}:Sl Tryz.prog G 218 (Xq 208):=by
 refine⟨⟨Tryz.f218,_,by kernel_rfl,rfl,by decide⟩,fun args σ v σ' h us w γ N hl ha hI=>?_⟩;unfold Xq at h
 split at h
 .rename_i b g
  match us,hl with
  | [u],_=>
  have hu:=ha 0 AE;obtain⟨b1,blk,g1,qA,hB,jA,qJ⟩:=Pd (Bf rfl hu);have qA:u=.pointer (some ⟨b1,0,none⟩):=qA;subst qA
  split at h
  .rename_i x e g' hb
   split at h
   .rename_i qz;cases h;obtain⟨rfl,rfl⟩:=qz;obtain⟨p,hp,q1,q2,q3,us,lo,hi,q4,q5,q6,q7⟩:=hI.of hb;rw[hB]at hp;cases hp;have q1:g1=g:=q1;subst q1;obtain rfl:=qJ rfl;have q4:w.heap[b1]?=some (.cells us 208 (lo,hi)):=q4;have q6:2<=us.size:=q6;have c0:us.getD 0 undef=.pointer none:=To (q7 0 AE);have c1:=q7 1 AE
    have qV:w.cell? ⟨b1,0,none⟩=some (.pointer none):=by
     simp[World.cell?,q4];have:us.getD 0 undef=us[0]:=by simp[Array.getD,show 0<us.size by omega]
     rw[<-c0,this];simp
    refine(A5z b1 w qV us.size q6 (by grind[World.shape?]) (by
     grind[World.frozen?])).mono ?_
    rintro e w' ⟨rfl,rfl⟩;rw[A0q w b1 us _ _ q4]
    obtain⟨i1,i2⟩:=hI.write (g':=g1) (us':=us.setIfInBounds 0 (.pointer (some ⟨b1,0,none⟩))) (cs':=[.ptr b g1 0,x]) hB hb q4 q5 (Am _) (As _) AE q6 (fun o ho=>by omega) (fun j hj=>by
     match j,hj with
     | 0,_=>
      have:(us.setIfInBounds 0 (.pointer (some ⟨b1,0,none⟩))).getD 0 undef=.pointer (some ⟨b1,0,none⟩):=by simp[Array.getD_eq_getD_getElem?,show 0<us.size by omega]
      rw[this];exact .ptr hB (Am _) (fun _=>rfl)
     | 1,_=>
      have:(us.setIfInBounds 0 (.pointer (some ⟨b1,0,none⟩))).getD 1 undef=us.getD 1 undef:=by simp[Array.getD_eq_getD_getElem?,Array.getElem?_setIfInBounds]
      grind)
    exact⟨_,_,rfl,.tup rfl (fun j hj=>by grind),i1,i2,Ab2 _ (hI.low _ _ hB),fun _ _=>rfl⟩
   grind
  .rename_i b' g2 x e g' z hb
   split at h
   .rename_i qz;cases h;obtain⟨rfl,rfl,rfl⟩:=qz;obtain⟨p,hp,q1,q2,q3,us,lo,hi,q4,q5,q6,q7⟩:=hI.of hb;rw[hB]at hp;cases hp;have q1:g1=g2:=q1;subst q1;obtain rfl:=qJ rfl;have q4:w.heap[b1]?=some (.cells us e (lo,hi)):=q4;have q6:2<=us.size:=q6;obtain⟨b2,jL,g3,c0,jp,_,qT⟩:=Pd (q7 0 AE);rw[hB]at jp;cases jp;obtain rfl:=qT rfl
    have qV:w.cell? ⟨b2,0,none⟩=some (.pointer (some ⟨b2,0,none⟩)):=by
     simp[World.cell?,q4];have:us.getD 0 undef=us[0]:=by simp[Array.getD,show 0<us.size by omega]
     rw[<-c0,this];simp
    refine(Baj b2 w qV).mono ?_;rintro e w' ⟨rfl,rfl⟩;exact⟨_,γ,rfl,.tup rfl (fun j hj=>by grind),hI,Ext.refl _ _,Below.refl _ _,fun _ _=>rfl⟩
   grind
  grind
 grind
def Bfk{G:List (Nat × List V)}:Sl Tryz.prog G 162 (U4 208 5):=by
 refine⟨⟨Tryz.f162,_,by kernel_rfl,rfl,by decide⟩,fun args σ v σ' h us w γ N hl ha hI=>?_⟩;unfold U4 at h
 split at h
 .rename_i b g
  match us,hl with
  | [u],_=>
  have hu:=ha 0 AE;obtain⟨b1,blk,g1,qA,hB,jA,qJ⟩:=Pd (Bf rfl hu);have qA:u=.pointer (some ⟨b1,0,none⟩):=qA;subst qA
  split at h
  .rename_i x e g' z hb
   split at h
   .rename_i qz;cases h;obtain⟨rfl,rfl⟩:=qz;obtain⟨p,hp,q1,q2,q3,us,lo,hi,q4,q5,q6,q7⟩:=hI.of hb;rw[hB]at hp;cases hp;have q1:g1=g:=q1;subst q1;obtain rfl:=qJ rfl;have q4:w.heap[b1]?=some (.cells us 208 (lo,hi)):=q4;have q6:2<=us.size:=q6;have c1:us.getD 1 undef=.slice none 0 0:=Me (q7 1 AE)
    have qW:w.cell? ⟨b1,1,none⟩=some (.slice none 0 0):=by
     simp[World.cell?,q4];have:us.getD 1 undef=us[1]:=by simp[Array.getD,show 1<us.size by omega]
     rw[<-c1,this];simp
    refine(A1b Tryz.lays169 Tryz.Builder_Extra_169 b1 w qW).mono ?_;rintro e w' ⟨rfl,rfl⟩;obtain⟨d1,d2⟩:=hI.drew;exact⟨_,γ,rfl,Df (.row (.str (by grind))),d1,d2,(Below.refl N w).drew,fun _ _=>rfl⟩
   grind
  .rename_i x i gi len own e g' z hb
   split at h
   .rename_i qz;obtain⟨rfl,rfl,qx⟩:=qz
    split at h
    .rename_i cs e' jo zi qE
     split at h
     .rename_i hc;obtain⟨rfl,rfl,ql⟩:=hc;simp only[Ci]at h;obtain⟨l,kf,h⟩:=h;cases h;obtain⟨p,hp,q1,q2,q3,us,lo,hi,q4,q5,q6,q7⟩:=hI.of hb;rw[hB]at hp;cases hp;have q1:g1=g:=q1;subst q1;obtain rfl:=qJ rfl;have q4:w.heap[b1]?=some (.cells us 208 (lo,hi)):=q4;have q6:2<=us.size:=q6;obtain⟨bb,oo,cap,bk,gk,c1,k1,k2,k3,k4,k5,k6⟩:=We (q7 1 AE);have c1:us.getD 1 undef=.slice (some ⟨bb,oo,none⟩) len cap:=c1;obtain⟨p,hp,r1,r2,r3,vs,L7,ju,r4,r5,r6,r7⟩:=hI.of qE;rw[k1]at hp;cases hp;have r1:gk=gi:=r1;subst r1;obtain⟨rfl,_⟩:=k6 rfl;obtain rfl:=k5 AA;have r4:w.heap[bb]?=some (.cells vs 5 (L7,ju)):=r4;obtain⟨n1,n2⟩:=An1 kf;have jB:l.length=len:=by rw[n1];simp[Y9]
      have qW:w.cell? ⟨b1,1,none⟩=some (.slice (some ⟨bb,0,none⟩) l.length cap):=by
       rw[jB];simp[World.cell?,q4];have:us.getD 1 undef=us[1]:=by simp only[Array.getD];rw[dif_pos (show 1<us.size by omega)];rfl
       rw[<-c1,this];simp
      refine(A1a Tryz.lays169 Tryz.Builder_Extra_169 b1 bb cap vs (L7,ju) l w (by grind) qW r4 AA AA (by grind[maxLen]) (fun j x hj=>?_)).mono ?_
      .have jd:j<len:=by rw[<-jB];exact(An.1 hj).1
       have a1:=n2 j x hj;have a2:=r7 j AA
       have jQ:cs.getD j .und=.int .u8 (x.toNat:Int):=by
        rw[Y9]at a1;have jc:j<cs.length:=by omega
        simp[Fl,jd,jc]at a1;rw[Fl,Cb jc];rw[List.take_one]at a1;simpa[jc] using a1
       rw[jQ]at a2;have a3:=Ey a2;rw[Mg];have jz:j<vs.size:=by omega
       have:vs.getD j undef=vs[j]:=by simp[Array.getD,jz]
       grind[World.cell?]
      .rintro e w' ⟨rfl,rfl⟩;obtain⟨d1,d2⟩:=hI.drew;obtain⟨f1,f2,f3⟩:=d1.kill (k:=l.length) k1 qE;exact⟨_,γ,rfl,Df (.row (.str AA)),f1,d2.trans f2,((Below.refl N w).drew).trans f3,fun _ _=>rfl⟩
     grind
    grind
   grind
  grind
 grind
