/- Walks: the scanner. -/
import Derived.Test.YtcoeikinocflnaaGreatDoorLj
set_option linter.all false
namespace Go.Proofs.YtcoeikinocflnaaGreatDoor.KM
open Go
theorem Auv(l:List UInt8)(c:UInt8):decide (0<=Lib.indexByte l c)=l.elem c:=by
 induction l with
 | nil=>rfl
 | cons b l ih=>
  have hg:=Lib.indexByte_ge l c;rw[Lib.indexByte,List.elem_cons];by_cases h:b=c
  ·subst h;simp
  ·have h1:(b==c)=false:=by simp[h]
   have h2:(c==b)=false:=by simp[Ne.symm h]
   simp only[h1,h2,Er,if_false,Ta,<-ih];by_cases h3:Lib.indexByte l c = -1
   ·rw[h3];rfl
   ·have h4:(Lib.indexByte l c == -1)=false:=by simp[h3]
    rw[h4];simp only[Er,if_false];rw[decide_eq_decide];omega
theorem Ajf:∀ l:List UInt8,(Lib.indexByte l 10 = -1/\(l.takeWhile (· != 10)).length=l.length)\/Lib.indexByte l 10=((l.takeWhile (· != 10)).length:Int)
 | []=>.inl ⟨rfl,rfl⟩
 | b::l=>by
  have ih:=Ajf l;rw[Lib.indexByte,V5];by_cases h:b=10
  ·subst h;exact .inr (by simp)
  ·have h1:(b==10)=false:=by simp[h]
   have h2:(b != 10)=true:=by simp[h]
   simp only[h1,h2,Er,if_false,if_true,Am];rcases ih with⟨h3,h4⟩ | h3
   ·rw[h3,h4];exact .inl ⟨rfl,rfl⟩
   ·have h4:(Lib.indexByte l 10 == -1)=false:=by rw[h3,beq_eq_false_iff_ne];omega
    rw[h4,h3];exact .inr (by simp)
theorem Ab0(p:UInt8->Bool):∀ l:List UInt8,l.drop (l.takeWhile p).length=l.dropWhile p
 | []=>rfl
 | c::l=>by
  rw[V5,V4];cases p c
  ·rfl
  ·simp only[if_true,Am,List.drop_succ_cons];exact Ab0 p l
theorem Akq:∀ a b:List UInt8,(!(Op.bytesLess a b||a==b))=Op.bytesLess b a
 | [],[]=>rfl
 | [],b::y=>by simp[Op.bytesLess]
 | a::x,[]=>by simp[Op.bytesLess]
 | a::x,b::y=>by
  have ih:=Akq x y;simp only[Op.bytesLess,List.cons_beq_cons,<-ih];by_cases h:a=b
  ·subst h;have h1:¬ a<a:=UInt8.lt_irrefl a;simp[h1]
  ·have h1:(a==b)=false:=by simp[h]
   have h2:(b==a)=false:=by simp[Ne.symm h]
   rw[h1,h2];have h5:a.toNat≠b.toNat:=fun e=>h (UInt8.toNat_inj.1 e)
   rcases(show a<b\/b<a by rw[UInt8.lt_iff_toNat_lt,UInt8.lt_iff_toNat_lt];omega) with h3 | h3
   ·have h4:¬ b<a:=UInt8.lt_asymm h3;simp[h3,h4]
   ·have h4:¬ a<b:=UInt8.lt_asymm h3;simp[h3,h4]
theorem Anw(l:List UInt8)(hl:l.length<=4096):Fn TT PT 82 [.str l] (.int .i64 ((l.takeWhile (· != 10)).length:Int)):=by
 refine Bn T82 rfl ?_;have hg:=Lib.indexByte_ge l 10;have ht:=Vd (p:=(· != 10)) l;have q:Oo [.str l,.int .u8 10]=some (.int .i64 (Lib.indexByte l 10)):=rfl;rcases Ajf l with⟨h1,h2⟩ | h1
 ·rw[h1]at q;rw[h2];simp only[go_sem];refine E6 P100 (by simp only[go_sem]) q ?_;simp only[go_sem,ge_iff_le];exact An rfl rfl
 ·rw[h1]at q;generalize(l.takeWhile (· != 10)).length=n at q;have f1:((0:Int)<=(n:Int))=True:=eq_true (by omega);simp only[go_sem];refine E6 P100 (by simp only[go_sem]) q ?_;simp only[go_sem,ge_iff_le,f1];exact An rfl rfl
theorem Arc(c:UInt8)(r:List UInt8)(hl:(c::r).length<=4096):Fn TT PT 118 [.str (c::r)] (.int .i64 (H1 (c::r):Int)):=by
 have q:Oo [.str oneS,.int .u8 (c.toNat:Int)]=some (.int .i64 (Lib.indexByte oneS c)):=by
  simp only[Oo,Mf,Nat.toUInt8_eq,UInt8.ofNat_toNat]
 have hib:=Auv oneS c;have hone:∀ b:Bool,oneS.elem c=b->decide (0<=Lib.indexByte oneS c)=b:=fun b h=>hib.trans h
 rw[Am]at hl;refine Bn T118 rfl ?_
 have fin:∀ b:Bool,oneS.elem c=b->(0<=Lib.indexByte oneS c)=(b=true):=fun b h=>by
  have:=hone b h;cases b
  ·simp only[decide_eq_false_iff_not]at this
   exact eq_false this |>.trans (by simp)
  ·simp only[decide_eq_true_eq]at this
   exact eq_true this |>.trans (by simp)
 have i0:(c::r)[0]?=some c:=rfl;have hk:∀ b:Bool,oneS.elem c=b->((0<=Lib.indexByte oneS c)=(b=true)):=fin;unfold H1;by_cases h2:2<=r.length+1
 ·have g2:((2:Int)<=((r.length+1:Nat):Int))=True:=eq_true (by omega);have g3:(2<=r.length+1)=True:=eq_true h2;have d2:decide (2<=(c::r).length)=true:=by simp;omega
  rw[d2,Z5];generalize hw:(c::r).take 2=w;by_cases a1:w=[124,124]
  ·rw[a1]at hw ⊢;have e1:(([124,124]:List UInt8)==[124,124])=true:=by decide
   simp only[go_sem,ge_iff_le,g2,g3,hw,e1];exact An rfl rfl
  have e1:(w==[124,124])=false:=by simp[a1]
  by_cases a2:w=[38,38]
  ·rw[a2]at hw ⊢;rw[a2]at e1;have e2:(([38,38]:List UInt8)==[38,38])=true:=by decide
   simp only[go_sem,ge_iff_le,g2,g3,hw,e1,e2];exact An rfl rfl
  have e2:(w==[38,38])=false:=by simp[a2]
  by_cases a3:w=[61,61]
  ·rw[a3]at hw ⊢;rw[a3]at e1;rw[a3]at e2;have e3:(([61,61]:List UInt8)==[61,61])=true:=by decide
   simp only[go_sem,ge_iff_le,g2,g3,hw,e1,e2,e3];exact An rfl rfl
  have e3:(w==[61,61])=false:=by simp[a3]
  by_cases a4:w=[33,61]
  ·rw[a4]at hw ⊢;rw[a4]at e1;rw[a4]at e2;rw[a4]at e3;have e4:(([33,61]:List UInt8)==[33,61])=true:=by decide
   simp only[go_sem,ge_iff_le,g2,g3,hw,e1,e2,e3,e4];exact An rfl rfl
  have e4:(w==[33,61])=false:=by simp[a4]
  by_cases a5:w=[60,61]
  ·rw[a5]at hw ⊢;rw[a5]at e1;rw[a5]at e2;rw[a5]at e3;rw[a5]at e4;have e5:(([60,61]:List UInt8)==[60,61])=true:=by decide
   simp only[go_sem,ge_iff_le,g2,g3,hw,e1,e2,e3,e4,e5];exact An rfl rfl
  have e5:(w==[60,61])=false:=by simp[a5]
  by_cases a6:w=[62,61]
  ·rw[a6]at hw ⊢;rw[a6]at e1;rw[a6]at e2;rw[a6]at e3;rw[a6]at e4;rw[a6]at e5;have e6:(([62,61]:List UInt8)==[62,61])=true:=by decide
   simp only[go_sem,ge_iff_le,g2,g3,hw,e1,e2,e3,e4,e5,e6];exact An rfl rfl
  have e6:(w==[62,61])=false:=by simp[a6]
  have en:twoS.elem w=false:=by simp[twoS,a1,a2,a3,a4,a5,a6]
  rw[en];cases hb:oneS.elem c
  all_goals
   have f:=hk _ hb;simp only[go_sem,ge_iff_le,g2,g3,hw,e1,e2,e3,e4,e5,e6,i0];refine E6 P100 (by simp only[go_sem]) q ?_;simp only[go_sem,ge_iff_le,f];exact An rfl (by rw[hb];rfl)
 ·have g2:((2:Int)<=((r.length+1:Nat):Int))=False:=eq_false (by omega);have d2:decide (2<=(c::r).length)=false:=decide_eq_false (by rw[Am];omega);rw[d2,Qp];cases hb:oneS.elem c
  all_goals
   have f:=hk _ hb;simp only[go_sem,ge_iff_le,g2,i0];refine E6 P100 (by simp only[go_sem]) q ?_;simp only[go_sem,ge_iff_le,f];exact An rfl (by rw[hb];rfl)
theorem Auw(c:UInt8)(r:List UInt8)(hc:Ei c=true)(hl:(c::r).length<=4096):Fn TT PT 117 [.str (c::r)] (if Pt (r.dropWhile Ei) then .tup [.agg (Tk.row Tk.zero),.int .i64 3] else if Mz (Du c r) then .tup [.agg (Tk.row ⟨2,Du c r,0⟩),.int .i64 0] else .tup [.agg (Tk.row Tk.zero),.int .i64 3]):=by
 obtain⟨w1,w2,w3,w4⟩:=Vd (p:=Ei) r;have hd:=Ab0 Ei r;have hW:(c::r).take (Du c r).length=Du c r:=by simp[Du,w4]
 have hWl:(Du c r).length=(r.takeWhile Ei).length+1:=by simp[Du]
 rw[Am]at hl;generalize hn:(Du c r).length=n at hW hWl ⊢;refine Bn T117 rfl ?_;simp only[go_sem];refine B9 (α:=Nat) (fun i=>n - i) (fun i=>[(0,.str (c::r)),(2,.ptr 0 0 0),(4,.int .i64 (i:Int))]) (fun _=>[.row [.int .i64 0,.str [],.int .i64 0] 137 0 0]) (fun i=>1<=i/\i<=n) ?_ 1 ⟨by omega,by omega⟩;rintro i ⟨h1,h2⟩ ih;refine Ca (by delta lp117_0;exact rfl) ?_;by_cases hi:i<n
 ·obtain⟨x,x1,x2⟩:=w1 (i - 1) (by omega)
  have x3:(c::r)[i]?=some x:=by
   obtain⟨j,rfl⟩:∃ j,i=j+1:=⟨i - 1,by omega⟩;simpa using x1
  have lt1:=B7 (show i<r.length+1 by omega);have hin:=Bg (show i<9223372036854775807 by omega);simp only[go_sem,lt1,nn,x3];refine Ad (Nq x) (by simp only[go_sem]) ?_;simp only[go_sem,x2,hin];exact Bi (ih (i+1) (by omega) (by omega)) rfl
 ·obtain rfl:i=n:=by omega
  have gi:(i<=r.length+1)=True:=eq_true (by omega)
  have hcut:Oj (.str (c::r)) none (some (.int .i64 (i:Int)))=some (.str (Du c r)):=by
   rw[Alo _ _ (by simp;omega),hW]
  have hnok:Mz (Du c r)=!(decide (19<((Du c r).dropWhile (·==48)).length)||(decide (((Du c r).dropWhile (·==48)).length=19)&&Op.bytesLess greatS ((Du c r).dropWhile (·==48)))):=rfl;have q:Sq [.str (Du c r),.str [48]]=some (.str ((Du c r).dropWhile (·==48))):=rfl;generalize(Du c r).dropWhile (·==48)=d at hnok q
  have hcase:(i<r.length+1/\∃ x,(c::r)[i]?=some x/\Ei x=false/\Pt (r.dropWhile Ei)=(G8 x||x==95))\/(r.length+1<=i/\Pt (r.dropWhile Ei)=false):=by
   by_cases hb:i<r.length+1
   ·obtain⟨x,x1,x2⟩:=w2 (by omega);have x3:(c::r)[i]?=some x:=by rw[hWl];simpa using x1
    refine .inl ⟨hb,x,x3,x2,?_⟩;rw[<-hd,Je (Ar.1 x1).1,(Ar.1 x1).2];rfl
   ·refine .inr ⟨by omega,?_⟩;rw[<-hd,Fk (by omega)];rfl
  have q:Sq [.str (Du c r),.str [48]]=some (.str d):=q;have hg9:(!(Op.bytesLess d [57,50,50,51,51,55,50,48,51,54,56,53,52,55,55,53,56,48,55]||d==[57,50,50,51,51,55,50,48,51,54,56,53,52,55,55,53,56,48,55]))=Op.bytesLess greatS d:=Akq d greatS
  have tail:∀ b:Bool,Mz (Du c r)=b->(b=true/\decide (19<(d.length:Int))=false/\(((d.length:Int)==19)=false\/(((d.length:Int)==19)=true/\Op.bytesLess greatS d=false)))\/(b=false/\(decide (19<(d.length:Int))=true\/(decide (19<(d.length:Int))=false/\((d.length:Int)==19)=true/\Op.bytesLess greatS d=true))):=fun b hb=>by
   have k1:decide (19<(d.length:Int))=decide (19<d.length):=by rw[decide_eq_decide];omega
   have k2:((d.length:Int)==19)=decide (d.length=19):=by
    rw[Bool.eq_iff_iff,beq_iff_eq,decide_eq_true_eq];omega
   rw[k1,k2];rw[hnok]at hb;subst hb
   cases decide (19<d.length)<;>cases decide (d.length=19)<;>cases Op.bytesLess greatS d<;>simp
  rcases hcase with⟨hb,x,x3,hD,hg⟩ | ⟨hb,hg⟩
  ·have lt1:=B7 hb;have e95:((x.toNat:Int)==95)=(x==95):=Og x 95 (by decide);simp only[go_sem,lt1,nn,x3];refine Ad (Nq x) (by simp only[go_sem]) ?_;simp only[go_sem,hD,lt1,nn,x3];refine Ad (Lm x) (by simp only[go_sem]) ?_;rw[hg];cases hL:G8 x
   ·cases h9:(x==95)
    ·simp only[go_sem,nn,x3,e95,h9,gi,hW,A2,true_and,if_true,Cz];refine E6 P167 (by simp only[go_sem]) q ?_;rcases tail _ rfl with⟨hb,k1,k2 | ⟨k2,k3⟩⟩ | ⟨hb,k1 | ⟨k1,k2,k3⟩⟩
     all_goals rw[hb]
     ·simp only[go_sem,gt_iff_lt,k1,k2,nn,gi,hW,A2,true_and,if_true,Cz];exact Fp (by simp only[go_sem]) rfl
     ·simp only[go_sem,gt_iff_lt,k1,k2,hg9,k3,nn,gi,hW,A2,true_and,if_true,Cz];exact Fp (by simp only[go_sem]) rfl
     ·simp only[go_sem,gt_iff_lt,k1];exact Fp (by simp only[go_sem]) rfl
     ·simp only[go_sem,gt_iff_lt,k1,k2,hg9,k3];exact Fp (by simp only[go_sem]) rfl
    ·simp only[go_sem,nn,x3,e95,h9];exact Fp (by simp only[go_sem]) rfl
   ·simp only[go_sem];exact Fp (by simp only[go_sem]) rfl
  ·rw[hg];simp only[go_sem,Cr hb,nn,gi,hW,A2,true_and,if_true,Cz];refine E6 P167 (by simp only[go_sem]) q ?_;rcases tail _ rfl with⟨hb,k1,k2 | ⟨k2,k3⟩⟩ | ⟨hb,k1 | ⟨k1,k2,k3⟩⟩
   all_goals rw[hb]
   ·simp only[go_sem,gt_iff_lt,k1,k2,nn,gi,hW,A2,true_and,if_true,Cz];exact Fp (by simp only[go_sem]) rfl
   ·simp only[go_sem,gt_iff_lt,k1,k2,hg9,k3,nn,gi,hW,A2,true_and,if_true,Cz];exact Fp (by simp only[go_sem]) rfl
   ·simp only[go_sem,gt_iff_lt,k1];exact Fp (by simp only[go_sem]) rfl
   ·simp only[go_sem,gt_iff_lt,k1,k2,hg9,k3];exact Fp (by simp only[go_sem]) rfl
theorem Ard(c:UInt8)(r:List UInt8)(hl:(c::r).length<=4096):∃ e:Int,e≠0/\Fn TT PT 83 [.str (c::r)] (match Jq (c::r) with
  | some (k,w)=>.tup [.agg (Tk.row ⟨k,w,0⟩),.int .i64 0]
  | none=>.tup [.agg (Tk.row Tk.zero),.int .i64 e]):=by
 have i0:(c::r)[0]?=some c:=rfl;have hT:TT 83=some af83:=T83;cases hL:G8 c
 ·cases hD:Ei c
  ·have hs:=Arc c r hl;by_cases h0:H1 (c::r)=0
   ·have hf:Jq (c::r)=none:=by rw[Qz,if_neg (by rw[hL];decide),if_neg (by rw[hD];decide),if_pos h0]
    rw[hf];have e0:((H1 (c::r):Int)==0)=true:=by rw[h0];rfl
    refine⟨3,by decide,Bn T83 rfl ?_⟩;simp only[go_sem,i0];refine Ad (Lm c) (by simp only[go_sem]) ?_;simp only[go_sem,hL];refine Ad (Nq c) (by simp only[go_sem]) ?_;simp only[go_sem,hD];refine Ad hs (by simp only[go_sem]) ?_;simp only[go_sem,e0];exact Fp (by simp only[go_sem]) rfl
   ·have hf:Jq (c::r)=some (4,(c::r).take (H1 (c::r))):=by rw[Qz,if_neg (by rw[hL];decide),if_neg (by rw[hD];decide),if_neg h0]
    rw[hf];have hle:=(Ajd h0).2;rw[Am]at hle;generalize H1 (c::r)=n at hs h0 hle ⊢;have e0:((n:Int)==0)=false:=by rw[beq_eq_false_iff_ne];omega
    have gi:(n<=r.length+1)=True:=eq_true hle;generalize hw:(c::r).take n=w;refine⟨3,by decide,Bn T83 rfl ?_⟩;simp only[go_sem,i0];refine Ad (Lm c) (by simp only[go_sem]) ?_;simp only[go_sem,hL];refine Ad (Nq c) (by simp only[go_sem]) ?_;simp only[go_sem,hD];refine Ad hs (by simp only[go_sem]) ?_;simp only[go_sem,e0,nn,gi,hw,A2,true_and,if_true,Cz];exact Fp (by simp only[go_sem]) rfl
  ·have hs:=Auw c r hD hl;have hd0:G8 c≠true:=by rw[hL];decide
   refine⟨3,by decide,Bn T83 rfl ?_⟩
   have hf:Jq (c::r)=if Pt (r.dropWhile Ei) then none else if Mz (Du c r) then some (2,Du c r) else none:=by rw[Qz,if_neg hd0,if_pos hD]
   rw[hf]
   cases hg:Pt (r.dropWhile Ei)<;>cases hk:Mz (Du c r)
   all_goals
    rw[hg]at hs;rw[hk]at hs;simp only[Er,if_false,if_true,Tk.row,Tk.zero]at hs ⊢;simp only[go_sem,i0];refine Ad (Lm c) (by simp only[go_sem]) ?_;simp only[go_sem,hL];refine Ad (Nq c) (by simp only[go_sem]) ?_;simp only[go_sem,hD];refine Ad hs (by simp only[go_sem]) ?_;simp only[go_sem];exact Fp (by simp only[go_sem]) rfl
 ·have hs:=Auu c r hl;refine⟨2,by decide,Bn T83 rfl ?_⟩
  have hf:Jq (c::r)=if 12<(D4 c r).length then none else some (if F9 (D4 c r) then 3 else 1,D4 c r):=by rw[Qz,if_pos hL]
  rw[hf];by_cases h12:12<(D4 c r).length
  ·rw[if_pos h12]at hs ⊢;simp only[Tk.row,Tk.zero]at hs ⊢;simp only[go_sem,i0];refine Ad (Lm c) (by simp only[go_sem]) ?_;simp only[go_sem,hL];refine Ad hs (by simp only[go_sem]) ?_;simp only[go_sem];exact Fp (by simp only[go_sem]) rfl
  ·rw[if_neg h12]at hs ⊢;simp only[Tk.row]at hs ⊢;generalize(if F9 (D4 c r)=true then(3:Int) else 1)=k at hs ⊢;simp only[go_sem,i0];refine Ad (Lm c) (by simp only[go_sem]) ?_;simp only[go_sem,hL];refine Ad hs (by simp only[go_sem]) ?_;simp only[go_sem];exact Fp (by simp only[go_sem]) rfl
/-! the whole text -/
theorem Alp{f p:Nat}{res:List AR}{body:AC}{vs:List V}{R:V->Prop}(hT:TT f=some ⟨p,res,false,body,none⟩)(hl:vs.length=p)(h:W TT PT [.c body] (C2 0 vs) [] (Hd fun e' σ1=>∃ v,FQ res v e' σ1/\R v)):∃ v,Fn TT PT f vs v/\R v:=by
 obtain⟨e',σ',hE,v,hq,hR⟩:=h;exact⟨v,Bn hT hl ⟨e',σ',hE,hq⟩,hR⟩
theorem Ayf{σ:St}{m e i g:Nat}{xs:List (List V)}{w y:Int}(ho:σ[i]?=some (.row xs.flatten e g 0))(hm:0<m)(hl:∀ r∈xs,r.length=m)(hr:∀ r∈xs,r.all V.rowB=true):
  FR (.tup [.sl i g 0 xs.length m true,.int .i64 w,.int .i64 y]) σ (.tup [.lst 0 xs,.int .i64 w,.int .i64 y]):=by
 obtain⟨hi,ho'⟩:=Ar.1 ho;have hx:Aj xs.flatten=[]:=Iu (J9 hr);have h0:ren 0 [i] i=0:=by simp[ren,List.findIdx_cons]
 refine .inr ⟨[i],?_,?_⟩
 ·simp only[Gs,Cc,Hh,V.refs,Aj,Au,A1,V.cellB,Cw];simp[D7,ho',Ob.refs,hx,hi]
 ·simp only[Jh,ho,V6,Ba,Bs,Ob.ren,Acc i _ (J9 hr),V.ren,Gk,h0,Dw,Ic];have ha:OV [Ob.row xs.flatten e g 0] (V.sl 0 g 0 xs.length m true) (.lst 0 xs):=Xo (U9 (i:=0) (g:=g) (e:=e) (z:=0) (w:=true) rfl hm hl hr) rfl;have hww:∀ n:Int,OV [Ob.row xs.flatten e g 0] (.int .i64 n) (.int .i64 n):=fun n=>Ig rfl
  exact congrArg (Option.map V.tup) (Ui (.cons ha (.cons (hww w) (.cons (hww y) .nil))) fun j hj=>Q4 _ _ _ _ (V7.2 hj))
theorem Ayg{σ:St}{m e lo:Nat}{u:V}{w y:Int}{xs:List (List V)}(h:GW σ m e lo u xs)(hm:0<m)(hl:∀ r∈xs,r.length=m)(hr:∀ r∈xs,r.all V.rowB=true):
  FR (.tup [u,.int .i64 w,.int .i64 y]) σ (.tup [SL true 0 xs,.int .i64 w,.int .i64 y]):=by
 rcases h with⟨rfl,rfl⟩ | ⟨hn,i,g,rfl,ho,hlo⟩
 ·exact Ie rfl
 ·rw[Ac8 hn];exact Ayf ho hm hl hr
theorem Ayh(c:UInt8)(r:List UInt8):Lib.hasPrefix (c::r) [47,47]=decide (c=47/\r.head?=some 47):=by
 unfold Lib.hasPrefix
 cases r with
 | nil=>simp[List.isPrefixOf]
 | cons d r=>
  simp only[List.isPrefixOf,S8,List.head?_cons,V9]
  by_cases h1:c=47<;>by_cases h2:d=47<;>simp[h1,h2]<;>exact fun h=>absurd h.symm (by assumption)
def Adh(s:List UInt8)(v:V):Prop:=match (if 4096<s.length then none else Dn s.length 1 s) with
 | some L=>v=.tup [SL true 0 (L.map Tk.row),.int .i64 0,.int .i64 0]
 | none=>∃ e ln:Int,e≠0/\v=.tup [.nils,.int .i64 e,.int .i64 ln]
theorem Ayi(t:Tk):t.row.length=3:=rfl
theorem Ayj(t:Tk):t.row.all V.rowB=true:=rfl
theorem Aux(s:List UInt8):∃ v,Fn TT PT 45 [.str s] v/\Adh s v:=by
 refine Alp T45 rfl ?_;unfold Adh;by_cases hbig:4096<s.length
 ·have f1:((4096:Int)<(s.length:Int))=True:=eq_true (by omega);rw[if_pos hbig];simp only[go_sem,gt_iff_lt,f1];exact⟨_,Ie (by rfl),2,0,by decide,rfl⟩
 ·have f1:((4096:Int)<(s.length:Int))=False:=eq_false (by omega);rw[if_neg hbig];simp only[go_sem,gt_iff_lt,f1];refine B9 (α:=Nat × Nat × V × List Tk × St) (fun a=>s.length - a.1) (fun a=>[(0,.str s),(5,a.2.2.1),(6,.int .i64 (a.2.1:Int)),(7,.int .i64 (a.1:Int))]) (fun a=>a.2.2.2.2) (fun a=>a.1<=s.length/\a.2.1<=a.1+1/\a.2.2.2.1.length<=a.1/\GW a.2.2.2.2 3 137 0 a.2.2.1 (a.2.2.2.1.map Tk.row)/\Dn s.length 1 s=(Dn s.length (a.2.1:Int) (s.drop a.1)).map (a.2.2.2.1++·)) ?_ (0,1,.nils,[],[]) ⟨A2 _,Ah _,Ah _,F4,by simp⟩;rintro⟨i,ln,u,L,σ⟩ ⟨hi,hln,hL,hg,hinv⟩ ih;simp only at hi hln hL hg hinv ih
  have hrl:∀ r∈L.map Tk.row,r.length=3:=by
   intro r hr;obtain⟨x,-,rfl⟩:=D6.1 hr;exact Ayi x
  have hrr:∀ r∈L.map Tk.row,r.all V.rowB=true:=by
   intro r hr;obtain⟨x,-,rfl⟩:=D6.1 hr;exact Ayj x
  refine Ca (by delta lp45_0;exact rfl) ?_;by_cases hc:i<s.length
  ·obtain⟨c,r,hdr⟩:∃ c r,s.drop i=c::r:=by
    rw[Je hc];exact⟨_,_,rfl⟩
   have x3:s[i]?=some c:=by
    have:=congrArg (·[0]?) hdr;simpa using this
   have hlen:(c::r).length=s.length - i:=by rw[<-hdr,D0]
   have hr1:s.drop (i+1)=r:=by
    have:=congrArg List.tail hdr;simpa[List.tail_drop] using this
   have lt1:=B7 hc;have gi:(i<=s.length)=True:=eq_true hi;have e10:((c.toNat:Int)==10)=(c==UInt8.ofNat 10):=Og c 10 (by decide);have e32:((c.toNat:Int)==32)=(c==UInt8.ofNat 32):=Og c 32 (by decide);have e9:((c.toNat:Int)==9)=(c==UInt8.ofNat 9):=Og c 9 (by decide);have e13:((c.toNat:Int)==13)=(c==UInt8.ofNat 13):=Og c 13 (by decide);have hin:=Bg (show i<9223372036854775807 by omega);have hinl:=Bg (show ln<9223372036854775807 by omega);obtain⟨k,hk⟩:∃ k,s.length=k+1:=⟨s.length - 1,by omega⟩;rw[Am]at hlen
   have hsc:Dn s.length (ln:Int) (s.drop i)=if c=10 then Dn k ((ln:Int)+1) r else if c=32\/c=9\/c=13 then Dn k (ln:Int) r else if c=47/\r.head?=some 47 then Dn k (ln:Int) ((c::r).dropWhile (· != 10)) else match Jq (c::r) with
     | none=>none
     | some (q,w)=>(Dn k (ln:Int) ((c::r).drop w.length)).map fun l=>⟨q,w,(ln:Int)⟩::l:=by rw[hk,hdr];rfl
   have any:∀ (n:Int) (l:List UInt8),l.length<=k->Dn k n l=Dn s.length n l:=fun n l h=>T4 _ _ n l h (by omega)
   by_cases h10:c=10
   ·have b10:(c==UInt8.ofNat 10)=true:=by rw[h10];rfl
    rw[if_pos h10,any _ _ (by omega)]at hsc;simp only[go_sem,lt1,nn,x3,e10,b10,hin,hinl];refine Bi (ih (i+1,ln+1,u,L,σ) (by simp;omega) ⟨by simp;omega,by simp;omega,by simp;omega,hg,?_⟩) rfl;simp only;rw[hr1,hinv,hsc];rfl
   ·have b10:(c==UInt8.ofNat 10)=false:=by rw[beq_eq_false_iff_ne];exact h10
    rw[if_neg h10]at hsc;by_cases hsp:c=32\/c=9\/c=13
    ·rw[if_pos hsp,any _ _ (by omega)]at hsc
     have next:W TT PT _ [(0,.str s),(5,u),(6,.int .i64 (ln:Int)),(7,.int .i64 ((i+1:Nat):Int))] σ _:=ih (i+1,ln,u,L,σ) (by simp;omega) ⟨by simp;omega,by simp;omega,by simp;omega,hg,by simp only;rw[hr1,hinv,hsc]⟩
     rcases hsp with rfl | rfl | rfl
     ·simp only[go_sem,lt1,nn,x3,e10,b10,e32,(show((32:UInt8)==UInt8.ofNat 32)=true from rfl),hin]
      exact Bi next rfl
     ·simp only[go_sem,lt1,nn,x3,e10,b10,e32,e9,(show((9:UInt8)==UInt8.ofNat 32)=false from rfl),(show((9:UInt8)==UInt8.ofNat 9)=true from rfl),hin]
      exact Bi next rfl
     ·simp only[go_sem,lt1,nn,x3,e10,b10,e32,e9,e13,(show((13:UInt8)==UInt8.ofNat 32)=false from rfl),(show((13:UInt8)==UInt8.ofNat 9)=false from rfl),(show((13:UInt8)==UInt8.ofNat 13)=true from rfl),hin]
      exact Bi next rfl
    ·rw[if_neg hsp]at hsc;simp only[not_or]at hsp;have b32:(c==UInt8.ofNat 32)=false:=by rw[beq_eq_false_iff_ne];exact hsp.1
     have b9:(c==UInt8.ofNat 9)=false:=by rw[beq_eq_false_iff_ne];exact hsp.2.1
     have b13:(c==UInt8.ofNat 13)=false:=by rw[beq_eq_false_iff_ne];exact hsp.2.2
     have q:Vo [.str (c::r),.str [47,47]]=some (.bool (decide (c=47/\r.head?=some 47))):=by rw[<-Ayh];rfl
     by_cases hcm:c=47/\r.head?=some 47
     ·rw[if_pos hcm]at hsc;rw[decide_eq_true hcm]at q;have hd:=Uk (· != 10) (c::r);have hcf:=Anw (c::r) (by rw[Am];omega);have hdw:=Ab0 (· != 10) (c::r)
      have hn1:1<=((c::r).takeWhile (· != 10)).length:=by
       rw[V5,if_pos (by simp[h10])];simp
      have hn2:((c::r).takeWhile (· != 10)).length<=(c::r).length:=(Vd (c::r)).2.2.1
      have hn3:((c::r).dropWhile (· != 10)).length<=k:=by
       rw[<-hdw,D0,Am];omega
      rw[any _ _ hn3,<-hdw]at hsc;rw[Am]at hn2;generalize((c::r).takeWhile (· != 10)).length=n at hcf hsc hn1 hn2;have hadd:IntKind.i64.wrap ((i:Int)+(n:Int))=((i+n:Nat):Int):=by rw[Ef (by omega)];omega
      simp only[go_sem,lt1,nn,x3,e10,b10,e32,b32,e9,b9,e13,b13,gi,hdr,A2,Ah,Dc,true_and,if_true,Cz];refine E6 P81 (by simp only[go_sem]) q ?_;simp only[go_sem,nn,gi,hdr,A2,Ah,Dc,true_and,if_true,Cz];refine Ad hcf (by simp only[go_sem]) ?_;simp only[go_sem,hadd];refine Bi (ih (i+n,ln,u,L,σ) (by simp;omega) ⟨by simp;omega,by simp;omega,by simp;omega,hg,?_⟩) rfl;simp only;rw[hinv,hsc,<-hdr,Qn]
     ·rw[if_neg hcm]at hsc;rw[decide_eq_false hcm]at q;obtain⟨e,he,hff⟩:=Ard c r (by rw[Am];omega);have ln0:∀ a:Ob,(σ++[a])[σ.length]?=some a:=fun a=>by simp
      have lu0:∀ a b:Ob,(σ++[a]).set σ.length b=σ++[b]:=fun a b=>by simp[Jg]
      cases hf:Jq (c::r) with
      | none=>
       rw[hf]at hff hsc;simp only[Tk.row,Tk.zero]at hff;have ne:(e != 0)=true:=by simp[he]
       have hinv:Dn s.length 1 s=none:=by rw[hinv,hsc];rfl
       rw[hinv];simp only[go_sem,lt1,nn,x3,e10,b10,e32,b32,e9,b9,e13,b13,gi,hdr,A2,Ah,Dc,true_and,if_true,Cz];refine E6 P81 (by simp only[go_sem]) q ?_;simp only[go_sem,nn,gi,hdr,A2,Ah,Dc,true_and,if_true,Cz];refine Ad hff (by simp only[go_sem]) ?_;simp only[go_sem,ln0,lu0,ne];exact⟨_,Ie (by rfl),e,_,he,rfl⟩
      | some p=>
       obtain⟨kd,w⟩:=p;rw[hf]at hff hsc;simp only[Tk.row]at hff hsc;obtain⟨hw1,qq,hwq⟩:=Wv hf
       have hwl:w.length+qq.length=r.length+1:=by
        have:=congrArg List.length hwq;simp at this;omega
       have hadd:IntKind.i64.wrap ((i:Int)+(w.length:Int))=((i+w.length:Nat):Int):=by rw[Ef (by omega)];omega
       have ne:((0:Int) != 0)=false:=by decide
       have hg1:GW (σ++[.row [.int .i64 kd,.str w,.int .i64 (ln:Int)] 137 0 0]) 3 137 0 u (L.map Tk.row):=Pd hg;obtain⟨u',σ',ha,hg',hl',hk',-⟩:=Pj (bytes:=32) (y:=.lst 1 [[.int .i64 kd,.str w,.int .i64 (ln:Int)]]) (ys:=[[.int .i64 kd,.str w,.int .i64 (ln:Int)]]) hg1 (A2 _) rfl (by omega) hrl (by simp) (by simp;omega)
       have hl9:σ'[σ.length]?=some (.row [.int .i64 kd,.str w,.int .i64 (ln:Int)] 137 0 0):=by
        rw[hk' σ.length ?_ (by simp)]
        ·exact ln0 _
        ·intro j g hj hjj;rcases hg with⟨rfl,-⟩ | ⟨-,j',g',rfl,ho,-⟩
         ·cases hj
         ·cases hj;have:=(Ar.1 ho).1;omega
       have hcell:=D2 hg;rw[any _ _ (by rw[D0,Am];omega)]at hsc;simp only[go_sem,lt1,nn,x3,e10,b10,e32,b32,e9,b9,e13,b13,gi,hdr,A2,Ah,Dc,true_and,if_true,Cz];refine E6 P81 (by simp only[go_sem]) q ?_;simp only[go_sem,nn,gi,hdr,A2,Ah,Dc,true_and,if_true,Cz];refine Ad hff (by simp only[go_sem]) ?_;simp only[go_sem,ln0,lu0,ne,ha,hl9,hadd];refine Bi (ih (i+w.length,ln,u',L++[⟨kd,w,(ln:Int)⟩],σ') (by simp;omega) ⟨by simp;omega,by simp;omega,by simp;omega,by simpa[Tk.row] using hg',?_⟩) rfl;simp only;rw[hinv,hsc,<-Qn,hdr]
       cases Dn s.length (ln:Int) ((c::r).drop w.length) with
       | none=>rfl
       | some l=>simp
  ·have hi2:i=s.length:=by omega
   simp only[go_sem,Cr (show s.length<=i by omega)]
   have hz:Dn s.length (ln:Int) (s.drop i)=some []:=by
    rw[Fk (by omega)]
    cases s.length<;>rfl
   rw[hz]at hinv;rw[hinv];refine⟨_,Ayg hg (by omega) hrl hrr,?_⟩;simp
