/- Walks: the scanner. -/
import Derived.Test.YthlbbjcbmojocacGreatDoorLi
import Derived.Lib.Join
set_option linter.all false
namespace Go.Proofs.YthlbbjcbmojocacGreatDoor.KM
open Go
def A72(l:List UInt8)(c:UInt8):decide (0<=Lib.indexByte l c)=l.elem c:=by
 induction l with
 | nil=>rfl
 | cons b l ih=>
  have hg:=Lib.indexByte_ge l c;rw[Lib.indexByte,List.elem_cons];by_cases h:b=c
  .subst h;simp
  .have h1:(b==c)=false:=by simp[h]
   have h2:(c==b)=false:=by simp[Ne.symm h]
   simp only[h1,h2,F6,if_false,U6,<-ih];by_cases h3:Lib.indexByte l c = -1
   .rw[h3];rfl
   .have h4:(Lib.indexByte l c == -1)=false:=by simp[h3]
    rw[h4];simp only[F6,if_false];rw[decide_eq_decide];omega
def Asa:∀ l:List UInt8,(Lib.indexByte l 10 = -1/\(l.takeWhile (· != 10)).length=l.length)\/Lib.indexByte l 10=((l.takeWhile (· != 10)).length:Int)
 | []=>.inl ⟨rfl,rfl⟩
 | b::l=>by
  have ih:=Asa l;rw[Lib.indexByte,Aa3];by_cases h:b=10
  .subst h;exact .inr (by simp)
  .have h1:(b==10)=false:=by simp[h]
   have h2:(b != 10)=true:=by simp[h]
   simp only[h1,h2,F6,if_false,if_true,Am];rcases ih with⟨h3,h4⟩ | h3
   .rw[h3,h4];exact .inl ⟨rfl,rfl⟩
   .have h4:(Lib.indexByte l 10 == -1)=false:=by rw[h3,beq_eq_false_iff_ne];omega
    rw[h4,h3];exact .inr (by simp)
def Ail(p:UInt8->Bool):∀ l:List UInt8,l.drop (l.takeWhile p).length=l.dropWhile p
 | []=>rfl
 | c::l=>by
  rw[Aa3,Aa2];cases p c
  .rfl
  .simp only[if_true,Am,Aa1];exact Ail p l
def At5:∀ a b:List UInt8,(!(Op.bytesLess a b||a==b))=Op.bytesLess b a
 | [],[]=>rfl
 | [],b::y=>by simp[Op.bytesLess]
 | a::x,[]=>by simp[Op.bytesLess]
 | a::x,b::y=>by
  have ih:=At5 x y;simp only[Op.bytesLess,List.cons_beq_cons,<-ih];by_cases h:a=b
  .subst h;have h1:¬ a<a:=UInt8.lt_irrefl a;simp[h1]
  .have h1:(a==b)=false:=by simp[h]
   have h2:(b==a)=false:=by simp[Ne.symm h]
   rw[h1,h2];have h5:a.toNat≠b.toNat:=fun e=>h (UInt8.toNat_inj.1 e)
   rcases(show a<b\/b<a by rw[UInt8.lt_iff_toNat_lt,UInt8.lt_iff_toNat_lt];omega) with h3 | h3
   .have h4:¬ b<a:=UInt8.lt_asymm h3;simp[h3,h4]
   .have h4:¬ a<b:=UInt8.lt_asymm h3;simp[h3,h4]
def Ays(l:List UInt8)(hl:l.length<=4096):Fn TT PT 65 [.str l] (iV ((l.takeWhile (· != 10)).length:Int)):=by
 refine Bo T65 rfl ?_;have hg:=Lib.indexByte_ge l 10;have ht:=Z2 (p:=(· != 10)) l;have q:R9 [.str l,.int .u8 10]=some (iV (Lib.indexByte l 10)):=rfl;rcases Asa l with⟨h1,h2⟩ | h1
 .rw[h1]at q;rw[h2];simp only[go_sem];refine F7 P109 (by simp only[go_sem]) q ?_;simp only[go_sem,ge_iff_le];exact An rfl rfl
 .rw[h1]at q;generalize(l.takeWhile (· != 10)).length=n at q;have f1:((0:Int)<=(n:Int))=True:=eq_true (by omega);simp only[go_sem];refine F7 P109 (by simp only[go_sem]) q ?_;simp only[go_sem,ge_iff_le,f1];exact An rfl rfl
def A3g(c:UInt8)(r:List UInt8)(hl:(c::r).length<=4096):Fn TT PT 114 [.str (c::r)] (iV (J1 (c::r):Int)):=by
 have q:R9 [.str oneS,.int .u8 (c.toNat:Int)]=some (iV (Lib.indexByte oneS c)):=by
  simp only[R9,Md,Nat.toUInt8_eq,UInt8.ofNat_toNat]
 have jg:=A72 oneS c;have qI:∀ b:Bool,oneS.elem c=b->decide (0<=Lib.indexByte oneS c)=b:=fun b h=>jg.trans h
 rw[Am]at hl;refine Bo T114 rfl ?_
 have qz:∀ b:Bool,oneS.elem c=b->(0<=Lib.indexByte oneS c)=(b=true):=fun b h=>by
  have:=qI b h;cases b
  .simp only[decide_eq_false_iff_not]at this
   exact eq_false this |>.trans (by simp)
  .simp only[decide_eq_true_eq]at this
   exact eq_true this |>.trans (by simp)
 have i0:(c::r)[0]?=some c:=rfl;have hk:∀ b:Bool,oneS.elem c=b->((0<=Lib.indexByte oneS c)=(b=true)):=qz;unfold J1;by_cases h2:2<=r.length+1
 .have g2:((2:Int)<=((r.length+1:Nat):Int))=True:=eq_true (by omega);have g3:(2<=r.length+1)=True:=eq_true h2;have d2:decide (2<=(c::r).length)=true:=by simp;omega
  rw[d2,Xv];generalize hw:(c::r).take 2=w;by_cases a1:w=[124,124]
  .rw[a1]at hw ⊢;have e1:(([124,124]:List UInt8)==[124,124])=true:=by decide
   simp only[go_sem,ge_iff_le,g2,g3,hw,e1];exact An rfl rfl
  have e1:(w==[124,124])=false:=by simp[a1]
  by_cases a2:w=[38,38]
  .rw[a2]at hw ⊢;rw[a2]at e1;have e2:(([38,38]:List UInt8)==[38,38])=true:=by decide
   simp only[go_sem,ge_iff_le,g2,g3,hw,e1,e2];exact An rfl rfl
  have e2:(w==[38,38])=false:=by simp[a2]
  by_cases a3:w=[61,61]
  .rw[a3]at hw ⊢;rw[a3]at e1;rw[a3]at e2;have e3:(([61,61]:List UInt8)==[61,61])=true:=by decide
   simp only[go_sem,ge_iff_le,g2,g3,hw,e1,e2,e3];exact An rfl rfl
  have e3:(w==[61,61])=false:=by simp[a3]
  by_cases a4:w=[33,61]
  .rw[a4]at hw ⊢;rw[a4]at e1;rw[a4]at e2;rw[a4]at e3;have e4:(([33,61]:List UInt8)==[33,61])=true:=by decide
   simp only[go_sem,ge_iff_le,g2,g3,hw,e1,e2,e3,e4];exact An rfl rfl
  have e4:(w==[33,61])=false:=by simp[a4]
  by_cases a5:w=[60,61]
  .rw[a5]at hw ⊢;rw[a5]at e1;rw[a5]at e2;rw[a5]at e3;rw[a5]at e4;have e5:(([60,61]:List UInt8)==[60,61])=true:=by decide
   simp only[go_sem,ge_iff_le,g2,g3,hw,e1,e2,e3,e4,e5];exact An rfl rfl
  have e5:(w==[60,61])=false:=by simp[a5]
  by_cases a6:w=[62,61]
  .rw[a6]at hw ⊢;rw[a6]at e1;rw[a6]at e2;rw[a6]at e3;rw[a6]at e4;rw[a6]at e5;have e6:(([62,61]:List UInt8)==[62,61])=true:=by decide
   simp only[go_sem,ge_iff_le,g2,g3,hw,e1,e2,e3,e4,e5,e6];exact An rfl rfl
  have e6:(w==[62,61])=false:=by simp[a6]
  have en:twoS.elem w=false:=by simp[twoS,a1,a2,a3,a4,a5,a6]
  rw[en];cases hb:oneS.elem c
  all_goals
   have f:=hk _ hb;simp only[go_sem,ge_iff_le,g2,g3,hw,e1,e2,e3,e4,e5,e6,i0];refine F7 P109 (by simp only[go_sem]) q ?_;simp only[go_sem,ge_iff_le,f];exact An rfl (by rw[hb];rfl)
 .have g2:((2:Int)<=((r.length+1:Nat):Int))=False:=eq_false (by omega);have d2:decide (2<=(c::r).length)=false:=decide_eq_false (by rw[Am];omega);rw[d2,Qu];cases hb:oneS.elem c
  all_goals
   have f:=hk _ hb;simp only[go_sem,ge_iff_le,g2,i0];refine F7 P109 (by simp only[go_sem]) q ?_;simp only[go_sem,ge_iff_le,f];exact An rfl (by rw[hb];rfl)
def A73(c:UInt8)(r:List UInt8)(hc:Fx c=true)(hl:(c::r).length<=4096):Fn TT PT 113 [.str (c::r)] (if Ui (r.dropWhile Fx) then .tup [.agg (Tk.row Tk.zero),iV 3] else if P0 (Et c r) then .tup [.agg (Tk.row ⟨2,Et c r,0⟩),iV 0] else .tup [.agg (Tk.row Tk.zero),iV 3]):=by
 obtain⟨w1,w2,w3,w4⟩:=Z2 (p:=Fx) r;have hd:=Ail Fx r;have hW:(c::r).take (Et c r).length=Et c r:=by simp[Et,w4]
 have qM:(Et c r).length=(r.takeWhile Fx).length+1:=by simp[Et]
 rw[Am]at hl;generalize hn:(Et c r).length=n at hW qM ⊢;refine Bo T113 rfl ?_;simp only[go_sem];refine Bn (α:=Nat) (fun i=>n - i) (fun i=>[(0,.str (c::r)),(2,.ptr 0 0 0),(4,iV (i:Int))]) (fun _=>[.row [iV 0,.str [],iV 0] 130 0 0]) (fun i=>1<=i/\i<=n) ?_ 1 ⟨by omega,by omega⟩;rintro i ⟨h1,h2⟩ ih;refine Bl Bbu ?_;by_cases hi:i<n
 .obtain⟨x,x1,x2⟩:=w1 (i - 1) (by omega)
  have x3:(c::r)[i]?=some x:=by
   obtain⟨j,rfl⟩:∃ j,i=j+1:=⟨i - 1,by omega⟩;simpa using x1
  have qh:=A0 (show i<r.length+1 by omega);have qg:=A2 (show i<9223372036854775807 by omega);simp only[go_sem,qh,nn,x3];refine Ad (Q5 x) (by simp only[go_sem]) ?_;simp only[go_sem,x2,qg];exact As (ih (i+1) (by omega) (by omega)) rfl
 .obtain rfl:i=n:=by omega
  have gi:(i<=r.length+1)=True:=eq_true (by omega)
  have jc:Ry (.str (c::r)) none (some (iV (i:Int)))=some (.str (Et c r)):=by
   rw[Avn _ _ (by simp;omega),hW]
  have qx:P0 (Et c r)=!(decide (19<((Et c r).dropWhile (·==48)).length)||(decide (((Et c r).dropWhile (·==48)).length=19)&&Op.bytesLess greatS ((Et c r).dropWhile (·==48)))):=rfl;have q:Xc [.str (Et c r),.str [48]]=some (.str ((Et c r).dropWhile (·==48))):=rfl;generalize(Et c r).dropWhile (·==48)=d at qx q
  have qw:(i<r.length+1/\∃ x,(c::r)[i]?=some x/\Fx x=false/\Ui (r.dropWhile Fx)=(I0 x||x==95))\/(r.length+1<=i/\Ui (r.dropWhile Fx)=false):=by
   by_cases hb:i<r.length+1
   .obtain⟨x,x1,x2⟩:=w2 (by omega);have x3:(c::r)[i]?=some x:=by rw[qM];simpa using x1
    refine .inl ⟨hb,x,x3,x2,?_⟩;rw[<-hd,Fd (Ak.1 x1).1,(Ak.1 x1).2];rfl
   .refine .inr ⟨by omega,?_⟩;rw[<-hd,Fo (by omega)];rfl
  have q:Xc [.str (Et c r),.str [48]]=some (.str d):=q;have qC:(!(Op.bytesLess d [57,50,50,51,51,55,50,48,51,54,56,53,52,55,55,53,56,48,55]||d==[57,50,50,51,51,55,50,48,51,54,56,53,52,55,55,53,56,48,55]))=Op.bytesLess greatS d:=At5 d greatS
  have tail:∀ b:Bool,P0 (Et c r)=b->(b=true/\decide (19<(d.length:Int))=false/\(((d.length:Int)==19)=false\/(((d.length:Int)==19)=true/\Op.bytesLess greatS d=false)))\/(b=false/\(decide (19<(d.length:Int))=true\/(decide (19<(d.length:Int))=false/\((d.length:Int)==19)=true/\Op.bytesLess greatS d=true))):=fun b hb=>by
   have k1:decide (19<(d.length:Int))=decide (19<d.length):=by rw[decide_eq_decide];omega
   have k2:((d.length:Int)==19)=decide (d.length=19):=by
    rw[Xt,beq_iff_eq,decide_eq_true_eq];omega
   rw[k1,k2];rw[qx]at hb;subst hb
   cases decide (19<d.length)<;>cases decide (d.length=19)<;>cases Op.bytesLess greatS d<;>simp
  rcases qw with⟨hb,x,x3,hD,hg⟩ | ⟨hb,hg⟩
  .have qh:=A0 hb;have qK:((x.toNat:Int)==95)=(x==95):=Rq x 95 (by decide);simp only[go_sem,qh,nn,x3];refine Ad (Q5 x) (by simp only[go_sem]) ?_;simp only[go_sem,hD,qh,nn,x3];refine Ad (N8 x) (by simp only[go_sem]) ?_;rw[hg];cases hL:I0 x
   .cases h9:(x==95)
    .simp only[go_sem,nn,x3,qK,h9,gi,hW,Au,true_and,if_true,Db];refine F7 P150 (by simp only[go_sem]) q ?_;rcases tail _ rfl with⟨hb,k1,k2 | ⟨k2,k3⟩⟩ | ⟨hb,k1 | ⟨k1,k2,k3⟩⟩
     all_goals rw[hb]
     .simp only[go_sem,gt_iff_lt,k1,k2,nn,gi,hW,Au,true_and,if_true,Db];exact Gy (by simp only[go_sem]) rfl
     .simp only[go_sem,gt_iff_lt,k1,k2,qC,k3,nn,gi,hW,Au,true_and,if_true,Db];exact Gy (by simp only[go_sem]) rfl
     .simp only[go_sem,gt_iff_lt,k1];exact Gy (by simp only[go_sem]) rfl
     .simp only[go_sem,gt_iff_lt,k1,k2,qC,k3];exact Gy (by simp only[go_sem]) rfl
    .simp only[go_sem,nn,x3,qK,h9];exact Gy (by simp only[go_sem]) rfl
   .simp only[go_sem];exact Gy (by simp only[go_sem]) rfl
  .rw[hg];simp only[go_sem,Bq hb,nn,gi,hW,Au,true_and,if_true,Db];refine F7 P150 (by simp only[go_sem]) q ?_;rcases tail _ rfl with⟨hb,k1,k2 | ⟨k2,k3⟩⟩ | ⟨hb,k1 | ⟨k1,k2,k3⟩⟩
   all_goals rw[hb]
   .simp only[go_sem,gt_iff_lt,k1,k2,nn,gi,hW,Au,true_and,if_true,Db];exact Gy (by simp only[go_sem]) rfl
   .simp only[go_sem,gt_iff_lt,k1,k2,qC,k3,nn,gi,hW,Au,true_and,if_true,Db];exact Gy (by simp only[go_sem]) rfl
   .simp only[go_sem,gt_iff_lt,k1];exact Gy (by simp only[go_sem]) rfl
   .simp only[go_sem,gt_iff_lt,k1,k2,qC,k3];exact Gy (by simp only[go_sem]) rfl
def A3h(c:UInt8)(r:List UInt8)(hl:(c::r).length<=4096):∃ e:Int,e≠0/\Fn TT PT 66 [.str (c::r)] (match Mn (c::r) with
  | some (k,w)=>.tup [.agg (Tk.row ⟨k,w,0⟩),.int .i64 0]
  | none=>.tup [.agg (Tk.row Tk.zero),.int .i64 e]):=by
 have i0:(c::r)[0]?=some c:=rfl;have hT:TT 66=some af66:=by rfl
 cases hL:I0 c
 .cases hD:Fx c
  .have hs:=A3g c r hl;by_cases h0:J1 (c::r)=0
   .have hf:Mn (c::r)=none:=by rw[Vk,if_neg (by rw[hL];decide),if_neg (by rw[hD];decide),if_pos h0]
    rw[hf];have e0:((J1 (c::r):Int)==0)=true:=by rw[h0];rfl
    refine⟨3,by decide,Bo T66 rfl ?_⟩;simp only[go_sem,i0];refine Ad (N8 c) (by simp only[go_sem]) ?_;simp only[go_sem,hL];refine Ad (Q5 c) (by simp only[go_sem]) ?_;simp only[go_sem,hD];refine Ad hs (by simp only[go_sem]) ?_;simp only[go_sem,e0];exact Gy (by simp only[go_sem]) rfl
   .have hf:Mn (c::r)=some (4,(c::r).take (J1 (c::r))):=by rw[Vk,if_neg (by rw[hL];decide),if_neg (by rw[hD];decide),if_neg h0]
    rw[hf];have qG:=(Ar9 h0).2;rw[Am]at qG;generalize J1 (c::r)=n at hs h0 qG ⊢;have e0:((n:Int)==0)=false:=by rw[beq_eq_false_iff_ne];omega
    have gi:(n<=r.length+1)=True:=eq_true qG;generalize hw:(c::r).take n=w;refine⟨3,by decide,Bo T66 rfl ?_⟩;simp only[go_sem,i0];refine Ad (N8 c) (by simp only[go_sem]) ?_;simp only[go_sem,hL];refine Ad (Q5 c) (by simp only[go_sem]) ?_;simp only[go_sem,hD];refine Ad hs (by simp only[go_sem]) ?_;simp only[go_sem,e0,nn,gi,hw,Au,true_and,if_true,Db];exact Gy (by simp only[go_sem]) rfl
  .have hs:=A73 c r hD hl;have jd:I0 c≠true:=by rw[hL];decide
   refine⟨3,by decide,Bo T66 rfl ?_⟩
   have hf:Mn (c::r)=if Ui (r.dropWhile Fx) then none else if P0 (Et c r) then some (2,Et c r) else none:=by rw[Vk,if_neg jd,if_pos hD]
   rw[hf]
   cases hg:Ui (r.dropWhile Fx)<;>cases hk:P0 (Et c r)
   all_goals
    rw[hg]at hs;rw[hk]at hs;simp only[F6,if_false,if_true,Tk.row,Tk.zero]at hs ⊢;simp only[go_sem,i0];refine Ad (N8 c) (by simp only[go_sem]) ?_;simp only[go_sem,hL];refine Ad (Q5 c) (by simp only[go_sem]) ?_;simp only[go_sem,hD];refine Ad hs (by simp only[go_sem]) ?_;simp only[go_sem];exact Gy (by simp only[go_sem]) rfl
 .have hs:=A71 c r hl;refine⟨2,by decide,Bo T66 rfl ?_⟩
  have hf:Mn (c::r)=if 12<(E6 c r).length then none else some (if Hv (E6 c r) then 3 else 1,E6 c r):=by rw[Vk,if_pos hL]
  rw[hf];by_cases qL:12<(E6 c r).length
  .rw[if_pos qL]at hs ⊢;simp only[Tk.row,Tk.zero]at hs ⊢;simp only[go_sem,i0];refine Ad (N8 c) (by simp only[go_sem]) ?_;simp only[go_sem,hL];refine Ad hs (by simp only[go_sem]) ?_;simp only[go_sem];exact Gy (by simp only[go_sem]) rfl
  .rw[if_neg qL]at hs ⊢;simp only[Tk.row]at hs ⊢;generalize(if Hv (E6 c r)=true then(3:Int) else 1)=k at hs ⊢;simp only[go_sem,i0];refine Ad (N8 c) (by simp only[go_sem]) ?_;simp only[go_sem,hL];refine Ad hs (by simp only[go_sem]) ?_;simp only[go_sem];exact Gy (by simp only[go_sem]) rfl
/-! the whole text -/
def Akd{f p:Nat}{res:List AR}{body:AC}{vs:List V}{R:V->Prop}(hT:TT f=some ⟨p,res,false,body,none⟩)(hl:vs.length=p)(h:W TT PT [.c body] (Dd 0 vs) [] (Hd fun e' σ1=>∃ v,FQ res v e' σ1/\R v)):∃ v,Fn TT PT f vs v/\R v:=by
 obtain⟨e',σ',hE,v,hq,hR⟩:=h;exact⟨v,Bo hT hl ⟨e',σ',hE,hq⟩,hR⟩
def Bcn{σ:St}{m e i g:Nat}{xs:List (List V)}{w y:Int}(ho:σ[i]?=some (.row xs.flatten e g 0))(hm:0<m)(hl:∀ r∈xs,r.length=m)(hr:∀ r∈xs,r.all V.rowB=true):
  FR (.tup [.sl i g 0 xs.length m true,iV w,iV y]) σ (.tup [.lst 0 xs,iV w,iV y]):=by
 obtain⟨hi,jl⟩:=Ak.1 ho;have hx:Ah xs.flatten=[]:=G8 (Im hr);have h0:ren 0 [i] i=0:=by simp[ren,List.findIdx_cons]
 refine .inr ⟨[i],?_,?_⟩
 .simp only[H2,Cm,H8,V.refs,Ah,Aw,Bi,V.cellB,B3];simp[E4,jl,Ob.refs,hx,hi]
 .simp only[Jm,ho,Sk,Bb,B7,Ob.ren,Wd i _ (Im hr),V.ren,Fv,h0,Ex,K3];have ha:OV [Ob.row xs.flatten e g 0] (V.sl 0 g 0 xs.length m true) (.lst 0 xs):=Acv (Ud (i:=0) (g:=g) (e:=e) (z:=0) (w:=true) rfl hm hl hr) rfl;have qW:∀ n:Int,OV [Ob.row xs.flatten e g 0] (iV n) (iV n):=fun n=>Jy rfl
  exact congrArg (Option.map V.tup) (Yz (.cons ha (.cons (qW w) (.cons (qW y) .nil))) fun j hj=>Oh _ _ _ _ (Sl.2 hj))
def Bco{σ:St}{m e lo:Nat}{u:V}{w y:Int}{xs:List (List V)}(h:GW σ m e lo u xs)(hm:0<m)(hl:∀ r∈xs,r.length=m)(hr:∀ r∈xs,r.all V.rowB=true):
  FR (.tup [u,iV w,iV y]) σ (.tup [SL true 0 xs,iV w,iV y]):=by
 rcases h with⟨rfl,rfl⟩ | ⟨hn,i,g,rfl,ho,jv⟩
 .exact Hk rfl
 .rw[Zx hn];exact Bcn ho hm hl hr
def Bcp(c:UInt8)(r:List UInt8):Lib.hasPrefix (c::r) [47,47]=decide (c=47/\r.head?=some 47):=by
 unfold Lib.hasPrefix
 cases r with
 | nil=>simp[List.isPrefixOf]
 | cons d r=>
  simp only[List.isPrefixOf,U5,List.head?_cons,Xn]
  by_cases h1:c=47<;>by_cases h2:d=47<;>simp[h1,h2]<;>exact fun h=>absurd h.symm (by assumption)
def Ake(s:List UInt8)(v:V):Prop:=match (if 4096<s.length then none else Ej s.length 1 s) with
 | some L=>v=.tup [SL true 0 (L.map Tk.row),.int .i64 0,.int .i64 0]
 | none=>∃ e ln:Int,e≠0/\v=.tup [.nils,.int .i64 e,.int .i64 ln]
def Bcq(t:Tk):t.row.length=3:=rfl
def Bcr(t:Tk):t.row.all V.rowB=true:=rfl
def A74(s:List UInt8):∃ v,Fn TT PT 39 [.str s] v/\Ake s v:=by
 refine Akd T39 rfl ?_;unfold Ake;by_cases qv:4096<s.length
 .have f1:((4096:Int)<(s.length:Int))=True:=eq_true (by omega);rw[if_pos qv];simp only[go_sem,gt_iff_lt,f1];exact⟨_,Hk (by rfl),2,0,by decide,rfl⟩
 .have f1:((4096:Int)<(s.length:Int))=False:=eq_false (by omega);rw[if_neg qv];simp only[go_sem,gt_iff_lt,f1];refine Bn (α:=Nat × Nat × V × List Tk × St) (fun a=>s.length - a.1) (fun a=>[(0,.str s),(5,a.2.2.1),(6,iV (a.2.1:Int)),(7,iV (a.1:Int))]) (fun a=>a.2.2.2.2) (fun a=>a.1<=s.length/\a.2.1<=a.1+1/\a.2.2.2.1.length<=a.1/\GW a.2.2.2.2 3 130 0 a.2.2.1 (a.2.2.2.1.map Tk.row)/\Ej s.length 1 s=(Ej s.length (a.2.1:Int) (s.drop a.1)).map (a.2.2.2.1++·)) ?_ (0,1,.nils,[],[]) ⟨Au _,Ai _,Ai _,D5,by simp⟩;rintro⟨i,ln,u,L,σ⟩ ⟨hi,jj,hL,hg,qb⟩ ih;simp only at hi jj hL hg qb ih
  have qU:∀ r∈L.map Tk.row,r.length=3:=by
   intro r hr;obtain⟨x,-,rfl⟩:=Ct.1 hr;exact Bcq x
  have jm:∀ r∈L.map Tk.row,r.all V.rowB=true:=by
   intro r hr;obtain⟨x,-,rfl⟩:=Ct.1 hr;exact Bcr x
  refine Bl Bg3 ?_;by_cases hc:i<s.length
  .obtain⟨c,r,qf⟩:∃ c r,s.drop i=c::r:=by
    rw[Fd hc];exact⟨_,_,rfl⟩
   have x3:s[i]?=some c:=by
    have:=congrArg (·[0]?) qf;simpa using this
   have qd:(c::r).length=s.length - i:=by rw[<-qf,D1]
   have qT:s.drop (i+1)=r:=by
    have:=congrArg List.tail qf;simpa[List.tail_drop] using this
   have qh:=A0 hc;have gi:(i<=s.length)=True:=eq_true hi;have qn:((c.toNat:Int)==10)=(c==UInt8.ofNat 10):=Rq c 10 (by decide);have qs:((c.toNat:Int)==32)=(c==UInt8.ofNat 32):=Rq c 32 (by decide);have e9:((c.toNat:Int)==9)=(c==UInt8.ofNat 9):=Rq c 9 (by decide);have qy:((c.toNat:Int)==13)=(c==UInt8.ofNat 13):=Rq c 13 (by decide);have qg:=A2 (show i<9223372036854775807 by omega);have qF:=A2 (show ln<9223372036854775807 by omega);obtain⟨k,hk⟩:∃ k,s.length=k+1:=⟨s.length - 1,by omega⟩;rw[Am]at qd
   have qe:Ej s.length (ln:Int) (s.drop i)=if c=10 then Ej k ((ln:Int)+1) r else if c=32\/c=9\/c=13 then Ej k (ln:Int) r else if c=47/\r.head?=some 47 then Ej k (ln:Int) ((c::r).dropWhile (· != 10)) else match Mn (c::r) with
     | none=>none
     | some (q,w)=>(Ej k (ln:Int) ((c::r).drop w.length)).map fun l=>⟨q,w,(ln:Int)⟩::l:=by rw[hk,qf];rfl
   have any:∀ (n:Int) (l:List UInt8),l.length<=k->Ej k n l=Ej s.length n l:=fun n l h=>Yi _ _ n l h (by omega)
   by_cases qu:c=10
   .have qm:(c==UInt8.ofNat 10)=true:=by rw[qu];rfl
    rw[if_pos qu,any _ _ (by omega)]at qe;simp only[go_sem,qh,nn,x3,qn,qm,qg,qF];refine As (ih (i+1,ln+1,u,L,σ) (by simp;omega) ⟨by simp;omega,by simp;omega,by simp;omega,hg,?_⟩) rfl;simp only;rw[qT,qb,qe];rfl
   .have qm:(c==UInt8.ofNat 10)=false:=by rw[beq_eq_false_iff_ne];exact qu
    rw[if_neg qu]at qe;by_cases qr:c=32\/c=9\/c=13
    .rw[if_pos qr,any _ _ (by omega)]at qe
     have next:W TT PT _ [(0,.str s),(5,u),(6,iV (ln:Int)),(7,iV ((i+1:Nat):Int))] σ _:=ih (i+1,ln,u,L,σ) (by simp;omega) ⟨by simp;omega,by simp;omega,by simp;omega,hg,by simp only;rw[qT,qb,qe]⟩
     rcases qr with rfl | rfl | rfl
     .simp only[go_sem,qh,nn,x3,qn,qm,qs,(show((32:UInt8)==UInt8.ofNat 32)=true from rfl),qg]
      exact As next rfl
     .simp only[go_sem,qh,nn,x3,qn,qm,qs,e9,(show((9:UInt8)==UInt8.ofNat 32)=false from rfl),(show((9:UInt8)==UInt8.ofNat 9)=true from rfl),qg]
      exact As next rfl
     .simp only[go_sem,qh,nn,x3,qn,qm,qs,e9,qy,(show((13:UInt8)==UInt8.ofNat 32)=false from rfl),(show((13:UInt8)==UInt8.ofNat 9)=false from rfl),(show((13:UInt8)==UInt8.ofNat 13)=true from rfl),qg]
      exact As next rfl
    .rw[if_neg qr]at qe;simp only[not_or]at qr;have qE:(c==UInt8.ofNat 32)=false:=by rw[beq_eq_false_iff_ne];exact qr.1
     have b9:(c==UInt8.ofNat 9)=false:=by rw[beq_eq_false_iff_ne];exact qr.2.1
     have qD:(c==UInt8.ofNat 13)=false:=by rw[beq_eq_false_iff_ne];exact qr.2.2
     have q:hpS [.str (c::r),.str [47,47]]=some (.bool (decide (c=47/\r.head?=some 47))):=by rw[<-Bcp];rfl
     by_cases qB:c=47/\r.head?=some 47
     .rw[if_pos qB]at qe;rw[decide_eq_true qB]at q;have hd:=Y2 (· != 10) (c::r);have qP:=Ays (c::r) (by rw[Am];omega);have qQ:=Ail (· != 10) (c::r)
      have qR:1<=((c::r).takeWhile (· != 10)).length:=by
       rw[Aa3,if_pos (by simp[qu])];simp
      have qS:((c::r).takeWhile (· != 10)).length<=(c::r).length:=(Z2 (c::r)).2.2.1
      have jk:((c::r).dropWhile (· != 10)).length<=k:=by
       rw[<-qQ,D1,Am];omega
      rw[any _ _ jk,<-qQ]at qe;rw[Am]at qS;generalize((c::r).takeWhile (· != 10)).length=n at qP qe qR qS;have qo:IntKind.i64.wrap ((i:Int)+(n:Int))=((i+n:Nat):Int):=by rw[Ch (by omega)];omega
      simp only[go_sem,qh,nn,x3,qn,qm,qs,qE,e9,b9,qy,qD,gi,qf,Au,Ai,Dc,true_and,if_true,Db];refine F7 P64 (by simp only[go_sem]) q ?_;simp only[go_sem,nn,gi,qf,Au,Ai,Dc,true_and,if_true,Db];refine Ad qP (by simp only[go_sem]) ?_;simp only[go_sem,qo];refine As (ih (i+n,ln,u,L,σ) (by simp;omega) ⟨by simp;omega,by simp;omega,by simp;omega,hg,?_⟩) rfl;simp only;rw[qb,qe,<-qf,Pd]
     .rw[if_neg qB]at qe;rw[decide_eq_false qB]at q;obtain⟨e,he,qt⟩:=A3h c r (by rw[Am];omega);have qJ:∀ a:Ob,(σ++[a])[σ.length]?=some a:=fun a=>by simp
      have qX:∀ a b:Ob,(σ++[a]).set σ.length b=σ++[b]:=fun a b=>by simp[I3]
      cases hf:Mn (c::r) with
      | none=>
       rw[hf]at qt qe;simp only[Tk.row,Tk.zero]at qt;have ne:(e != 0)=true:=by simp[he]
       have qb:Ej s.length 1 s=none:=by rw[qb,qe];rfl
       rw[qb];simp only[go_sem,qh,nn,x3,qn,qm,qs,qE,e9,b9,qy,qD,gi,qf,Au,Ai,Dc,true_and,if_true,Db];refine F7 P64 (by simp only[go_sem]) q ?_;simp only[go_sem,nn,gi,qf,Au,Ai,Dc,true_and,if_true,Db];refine Ad qt (by simp only[go_sem]) ?_;simp only[go_sem,qJ,qX,ne];exact⟨_,Hk (by rfl),e,_,he,rfl⟩
      | some p=>
       obtain⟨kd,w⟩:=p;rw[hf]at qt qe;simp only[Tk.row]at qt qe;obtain⟨jx,qq,jo⟩:=Abp hf
       have jy:w.length+qq.length=r.length+1:=by
        have:=congrArg List.length jo;simp at this;omega
       have qo:IntKind.i64.wrap ((i:Int)+(w.length:Int))=((i+w.length:Nat):Int):=by rw[Ch (by omega)];omega
       have ne:((0:Int) != 0)=false:=by decide
       have jf:GW (σ++[.row [iV kd,.str w,iV (ln:Int)] 130 0 0]) 3 130 0 u (L.map Tk.row):=Gk hg;obtain⟨u',σ',ha,je,ju,jh,-⟩:=Hl (bytes:=32) (y:=.lst 1 [[iV kd,.str w,iV (ln:Int)]]) (ys:=[[iV kd,.str w,iV (ln:Int)]]) jf (Au _) rfl (by omega) qU (by simp) (by simp;omega)
       have ji:σ'[σ.length]?=some (.row [iV kd,.str w,iV (ln:Int)] 130 0 0):=by
        rw[jh σ.length ?_ (by simp)]
        .exact qJ _
        .intro j g hj jt;rcases hg with⟨rfl,-⟩ | ⟨-,j',g',rfl,ho,-⟩
         .cases hj
         .cases hj;have:=(Ak.1 ho).1;omega
       have qO:=Cu hg;rw[any _ _ (by rw[D1,Am];omega)]at qe;simp only[go_sem,qh,nn,x3,qn,qm,qs,qE,e9,b9,qy,qD,gi,qf,Au,Ai,Dc,true_and,if_true,Db];refine F7 P64 (by simp only[go_sem]) q ?_;simp only[go_sem,nn,gi,qf,Au,Ai,Dc,true_and,if_true,Db];refine Ad qt (by simp only[go_sem]) ?_;simp only[go_sem,qJ,qX,ne,ha,ji,qo];refine As (ih (i+w.length,ln,u',L++[⟨kd,w,(ln:Int)⟩],σ') (by simp;omega) ⟨by simp;omega,by simp;omega,by simp;omega,by simpa[Tk.row] using je,?_⟩) rfl;simp only;rw[qb,qe,<-Pd,qf]
       cases Ej s.length (ln:Int) ((c::r).drop w.length) with
       | none=>rfl
       | some l=>simp
  .have js:i=s.length:=by omega
   simp only[go_sem,Bq (show s.length<=i by omega)]
   have hz:Ej s.length (ln:Int) (s.drop i)=some []:=by
    rw[Fo (by omega)]
    cases s.length<;>rfl
   rw[hz]at qb;rw[qb];refine⟨_,Bco hg (by omega) qU jm,?_⟩;simp
def rd1{s:St}{ob k off x:Nat}{cs:List V}{v:V}{e:Env}(q:s[ob]?=some (.row cs k 0 0))(he:e.get x=.ptr ob 0 off)(hc:cs[off]?=some v):Ae (.load 1 true (.t x)) e s=some (v,s):=by
 simp only[Ae,Ab,he,Ib,q];have hl:=(Ak.1 hc).1
 rw[if_pos ⟨trivial,by omega⟩,show(cs.drop off).take 1=[v] by
  rw[Fd hl,Xk,Xu];have:=(Ak.1 hc).2
  rw[this]]
 rfl
def Em{s:St}{ob off x:Nat}{v:V}{e:Env}(he:e.get x=.ptr ob 0 off)(h:∃ cs k,s[ob]?=some (.row cs k 0 0)/\cs[off]?=some v):Ae (.load 1 true (.t x)) e s=some (v,s):=by
 obtain⟨cs,k,q,hc⟩:=h;exact rd1 q he hc
def Jl{s:St}{off x:Nat}{cs:List V}{v:V}{e:Env}(he:e.get x=.imm cs off)(hc:cs[off]?=some v):Ae (.load 1 true (.t x)) e s=some (v,s):=by
 simp only[Ae,Ab,he,Ib];have hl:=(Ak.1 hc).1
 have hd:(cs.drop off).take 1=[v]:=by
  rw[Fd hl,Xk,Xu];have:=(Ak.1 hc).2;rw[this]
 rw[hd];simp[G0];omega
def En{s:St}{ob k x n:Nat}{cs:List V}{e:Env}(q:s[ob]?=some (.row cs k 0 0))(he:e.get x=.ptr ob 0 0)(hn:cs.length=n):Ae (.load n false (.t x)) e s=some (.agg cs,s):=by
 subst hn;simp only[Ae,Ab,he,Ib,q];simp[G0]
def O1{s:St}{x n:Nat}{cs:List V}{e:Env}(he:e.get x=.imm cs 0)(hn:cs.length=n):Ae (.load n false (.t x)) e s=some (.agg cs,s):=by
 subst hn;simp only[Ae,Ab,he,Ib];simp[G0]
section
variable {T:Nat->Option AF} {pr:Nat->Option (List V->Option V)} {qc:List (List Nat)} {n m:Nat} {e:Env} {σ:St} {fs:Fs} {ls:Ls} {K:Env->St->Fs->Ls->Prop} {i:AI}
def Ba{v:V}{σ1:St}(h:K (e.putO i.dst v) σ1 ((m,σ,σ1)::fs) ls)(h1:O3 qc n m fs:=by repeat (first | exact trivial | refine⟨.inl (by rfl),?_⟩ | refine⟨by rfl,?_⟩ | refine⟨.inr ⟨by rfl,by rfl⟩,?_⟩ | refine⟨.inr ⟨by(first | exact Jl rfl rfl | exact O1 rfl (by rfl) | exact Em rfl ⟨_,_,by assumption,by rfl⟩ | exact Em rfl ⟨_,_,Bx (by assumption),by rfl⟩ | exact En (by assumption) rfl (by rfl) | exact En (Bx (by assumption)) rfl (by rfl)),by(first | exact Jl rfl rfl | exact O1 rfl (by rfl) | exact Em rfl ⟨_,_,by assumption,by rfl⟩ | exact Em rfl ⟨_,_,Bx (by assumption),by rfl⟩ | exact En (by assumption) rfl (by rfl) | exact En (Bx (by assumption)) rfl (by rfl))⟩,?_⟩))(h2:O4 qc n m σ σ1 ls:=by repeat (first | exact trivial | refine⟨.inl (by rfl),?_⟩ | refine⟨by rfl,?_⟩ | refine⟨.inr ⟨by rfl,by rfl⟩,?_⟩ | refine⟨.inr ⟨by(first | exact Jl rfl rfl | exact O1 rfl (by rfl) | exact Em rfl ⟨_,_,by assumption,by rfl⟩ | exact Em rfl ⟨_,_,Bx (by assumption),by rfl⟩ | exact En (by assumption) rfl (by rfl) | exact En (Bx (by assumption)) rfl (by rfl)),by(first | exact Jl rfl rfl | exact O1 rfl (by rfl) | exact Em rfl ⟨_,_,by assumption,by rfl⟩ | exact Em rfl ⟨_,_,Bx (by assumption),by rfl⟩ | exact En (by assumption) rfl (by rfl) | exact En (Bx (by assumption)) rfl (by rfl))⟩,?_⟩)):M3 qc n m i .ef v σ1 e σ fs ls K:=⟨h1,h2,h⟩
def wgR{v:V}{σ1:St}(h:K (e.putO i.dst v) σ fs ((m,fun s=>Ae i.op e s=some (v,s))::ls))(h1:Xa qc n m (fun s=>Ae i.op e s=some (v,s)) fs:=by repeat (first | exact trivial | refine⟨.inl (by rfl),?_⟩ | refine⟨by rfl,?_⟩ | refine⟨.inr ⟨by rfl,by rfl⟩,?_⟩ | refine⟨.inr ⟨by(first | exact Jl rfl rfl | exact O1 rfl (by rfl) | exact Em rfl ⟨_,_,by assumption,by rfl⟩ | exact Em rfl ⟨_,_,Bx (by assumption),by rfl⟩ | exact En (by assumption) rfl (by rfl) | exact En (Bx (by assumption)) rfl (by rfl)),by(first | exact Jl rfl rfl | exact O1 rfl (by rfl) | exact Em rfl ⟨_,_,by assumption,by rfl⟩ | exact Em rfl ⟨_,_,Bx (by assumption),by rfl⟩ | exact En (by assumption) rfl (by rfl) | exact En (Bx (by assumption)) rfl (by rfl))⟩,?_⟩)):M3 qc n m i .rd v σ1 e σ fs ls K:=⟨h1,h⟩
def Hh{f:Nat}{vs:List V}{v:V}{σ1:St}(hf:Bv T pr f vs σ v σ1)(h:K (e.putO i.dst v) σ1 ((m,σ,σ1)::fs) ls)(h1:O3 qc n m fs:=by repeat (first | exact trivial | refine⟨.inl (by rfl),?_⟩ | refine⟨by rfl,?_⟩ | refine⟨.inr ⟨by rfl,by rfl⟩,?_⟩ | refine⟨.inr ⟨by(first | exact Jl rfl rfl | exact O1 rfl (by rfl) | exact Em rfl ⟨_,_,by assumption,by rfl⟩ | exact Em rfl ⟨_,_,Bx (by assumption),by rfl⟩ | exact En (by assumption) rfl (by rfl) | exact En (Bx (by assumption)) rfl (by rfl)),by(first | exact Jl rfl rfl | exact O1 rfl (by rfl) | exact Em rfl ⟨_,_,by assumption,by rfl⟩ | exact Em rfl ⟨_,_,Bx (by assumption),by rfl⟩ | exact En (by assumption) rfl (by rfl) | exact En (Bx (by assumption)) rfl (by rfl))⟩,?_⟩))(h2:O4 qc n m σ σ1 ls:=by repeat (first | exact trivial | refine⟨.inl (by rfl),?_⟩ | refine⟨by rfl,?_⟩ | refine⟨.inr ⟨by rfl,by rfl⟩,?_⟩ | refine⟨.inr ⟨by(first | exact Jl rfl rfl | exact O1 rfl (by rfl) | exact Em rfl ⟨_,_,by assumption,by rfl⟩ | exact Em rfl ⟨_,_,Bx (by assumption),by rfl⟩ | exact En (by assumption) rfl (by rfl) | exact En (Bx (by assumption)) rfl (by rfl)),by(first | exact Jl rfl rfl | exact O1 rfl (by rfl) | exact Em rfl ⟨_,_,by assumption,by rfl⟩ | exact Em rfl ⟨_,_,Bx (by assumption),by rfl⟩ | exact En (by assumption) rfl (by rfl) | exact En (Bx (by assumption)) rfl (by rfl))⟩,?_⟩)):G5 T pr qc n m i (.call f vs) e σ fs ls K:=.inr (.inr ⟨v,σ1,.any hf,h1,h2,h⟩)
end
open Go Go.RowKit Go.Sort
variable {G:List (Nat × List V)}
def A0k{x:Sp}(h:CnS x)(d:Nat)(D:Int)(g0:max D 0=(d:Int))(hl:(x.txt d).length<=10000000000000)(hd:d+x.sz<=1073741823):Fn TT PT 137 [.agg x.row,iV D] (.str (x.txt d)):=by
 have qk:=Gu x;refine Bo T137 rfl ?_
 have w0:WB [.row x.row 104 0 0,.row [.nilp,.nils] 219 0 0] [.row x.row 104 0 0,.row [.nilp,.nils] 219 0 0] 1 []:=by
  refine Ap1 (u:=.nils) ⟨.nilp,rfl,.inl rfl,D5⟩ ?_;exact I8 (Iu (s:=[]) (fun _ h=>by cases h) qk) (by simp[Ob.refs,Ah,V.refs])
 obtain⟨s1,q1,v1⟩:=A27 h _ 1 [] d w0 (by simpa using hl) hd;obtain⟨s2,qV⟩:=Atz v1;rw[Cr]at qV;have qp:=Fg x;rw[qp]at q1 qk ⊢;simp only[go_sem,g0];refine Ck q1 ?_;simp only[go_sem];refine Ju (.spec T169 rfl rfl qV) ?_;simp only[go_sem];exact Gm rfl
def A3i{x:Sp}(h:CnS x)(d:Nat)(hl:(x.txt d).length<=10000000000000)(hd:d+x.sz<=1073741823):Fn TT PT 137 [.agg x.row,iV (d:Int)] (.str (x.txt d)):=A0k h d _ (by omega) hl hd
def TS(s:St)(b:Nat):Prop:=∃ (z:Bool) (t:Nat) (l:List UInt8) (qa:Nat),s[b]?=some (.row [SL z t (Bs l),iV (qa:Int)] 95 0 0)/\qa<=l.length/\l.length<=9223372036854775807
def TW(s σ:St)(b:Nat):Prop:=s.length<=σ.length/\(∀ i,i<s.length->i≠b->σ[i]?=s[i]?)/\TS σ b/\b<s.length
def Lx{s:St}{b:Nat}(h:TS s b):b<s.length:=by
 obtain⟨z,t,l,a,h,-⟩:=h;exact(Ak.1 h).1
def A75{s:St}{b:Nat}(h:TS s b):TW s s b:=⟨Ai _,fun _ _ _=>rfl,h,Lx h⟩
def A76{s l:St}{b:Nat}(h:TS s b):TS (s++l) b:=by
 obtain⟨z,t,r,a,h,h'⟩:=h;exact⟨z,t,r,a,Bx h,h'⟩
def Am1{z:Bool}{t:Nat}{l:List UInt8}{a:Int}{T:Nat}:(Ob.row [SL z t (Bs l),iV a] T 0 0).refs=[]:=by
 unfold SL
 split<;>rfl
def At6{T:Nat->Option AF}{pr:Nat->Option (List V->Option V)}{f p:Nat}{res:List AR}{thr:Bool}{body:AC}{vs:List V}{σ:St}{R:V->St->Prop}(hT:T f=some ⟨p,res,thr,body,none⟩)(hl:vs.length=p)
  (h:W T pr [.c body] (Dd 0 vs) σ (Hd fun e' σ1=>∃ v,Cd e' σ1 res=some v/\(Cm v=true/\v.refs=[])/\(∀ i ob,i<σ.length->σ1[i]?=some ob->σ[i]?=some ob\/E4 σ.length [] ob.refs=true)/\R v (σ1.take σ.length))):∃ v σ',Bv T pr f vs σ v σ'/\R v σ':=by
 obtain⟨e',σ1,hE,v,hr,⟨h1,h2⟩,h3,h4⟩:=h;exact⟨v,_,⟨_,hT,rfl,.fn hT rfl hl hE hr h1 (by rw[h2];rfl) h3⟩,h4⟩
def A77{s σ:St}{b:Nat}(h:TW s σ b):∀ i ob,i<s.length->σ[i]?=some ob->s[i]?=some ob\/E4 s.length [] ob.refs=true:=by
 intro i ob hi ho;by_cases hb:i=b
 .subst hb;obtain⟨z,t,l,a,h1,-⟩:=h.2.2.1;rw[ho]at h1;cases h1;exact .inr (by rw[Am1];rfl)
 .rw[h.2.1 i hi hb]at ho;exact .inl ho
def Qm(l:List UInt8)(a n:Nat):Nat:=if a<l.length/\1<=n then((l[a]?).getD 0).toNat % n else 0
def Uw(l:List UInt8)(a n:Nat):Nat:=if a<l.length/\1<=n then a+1 else a
def Mk{s:St}{b:Nat}{x:Ob}(h:s[b]?=some x):s.set b x=s:=by
 refine So fun i=>?_
 by_cases hi:b=i
 .subst hi;rw[B5 (Ak.1 h).1,h]
 .rw[Bh hi]
def Asb{s:St}{b t:Nat}{z:Bool}{l:List UInt8}{qa:Nat}(hs:s[b]?=some (.row [SL z t (Bs l),iV (qa:Int)] 95 0 0))(h1:qa<=l.length)(h2:l.length<=9223372036854775807)(n:Nat)(hn:n<=1000000000):
  Bv TT PT 45 [.ptr b 0 0,iV (n:Int)] s (iV (Qm l qa n:Int)) (s.set b (.row [SL z t (Bs l),iV (Uw l qa n:Int)] 95 0 0)):=by
 have hw:TW s s b:=A75 ⟨z,t,l,qa,hs,h1,h2⟩;have qA:(Bs l).length=l.length:=by simp[Bs]
 suffices hh:∃ v s',Bv TT PT 45 [.ptr b 0 0,iV (n:Int)] s v s'/\v=iV (Qm l qa n:Int)/\s'=(s.set b (.row [SL z t (Bs l),iV (Uw l qa n:Int)] 95 0 0)) by
  obtain⟨v,s',h3,rfl,rfl⟩:=hh;exact h3
 refine At6 T45 rfl ?_
 have qz:¬ (qa<l.length/\1<=n)->iV 0=iV (Qm l qa n:Int)/\s.take s.length=(s.set b (.row [SL z t (Bs l),iV (Uw l qa n:Int)] 95 0 0)):=fun h=>by
  unfold Qm Uw;rw[if_neg h,if_neg h,Mk hs,Dc];exact⟨rfl,rfl⟩
 by_cases hg:l.length<=qa
 .have f1:((l.length:Int)<=(qa:Int))=True:=eq_true (by omega);simp only[go_sem];refine Ag (by kernel_rfl) ?_;simp only[go_sem,hs,qA,f1];exact⟨_,rfl,⟨rfl,rfl⟩,fun i ob _ h=>.inl h,qz (by omega)⟩
 .have f1:((l.length:Int)<=(qa:Int))=False:=eq_false (by omega);by_cases qR:n<1
  .have f2:((n:Int)<1)=True:=eq_true (by omega);simp only[go_sem];refine Ag (by kernel_rfl) ?_;simp only[go_sem,hs,qA,f1,f2];exact⟨_,rfl,⟨rfl,rfl⟩,fun i ob _ h=>.inl h,qz (by omega)⟩
  .have f2:((n:Int)<1)=False:=eq_false (by omega);simp only[go_sem];refine Ag (by kernel_rfl) ?_;simp only[go_sem,hs,qA,f1,f2];have hx:∃ c:UInt8,l[qa]?=some c:=⟨_,Bc (by omega)⟩;obtain⟨c,hc⟩:=hx;have qp:(Bs l)[qa]?=some [.int .u8 (c.toNat:Int)]:=by unfold Bs;rw[Aj,hc];rfl
   have e1:IntKind.i64.wrap ((qa:Int)+1)=((qa+1:Nat):Int):=by rw[Ch (by omega)];rfl
   have qN:=Lx hw.2.2.1;have k1:(s.set b (.row [SL z t (Bs l),iV ((qa+1:Nat):Int)] 95 0 0))[b]?=some (.row [SL z t (Bs l),iV ((qa+1:Nat):Int)] 95 0 0):=by rw[B5 qN]
   have e2:IntKind.i64.wrap (((qa+1:Nat):Int) - 1)=(qa:Int):=by rw[Ch (by omega)];omega
   have f3:((n:Int)=0)=False:=eq_false (by omega);have jq:c.toNat<256:=c.toNat_lt;have e3:IntKind.i64.wrap (c.toNat:Int)=(c.toNat:Int):=Ch (by omega);have e4:((c.toNat:Int).tmod (n:Int))=((c.toNat % n:Nat):Int):=by rw[Int.tmod_eq_emod_of_nonneg (by omega)];rfl
   simp only[go_sem,e1];refine Ag (by kernel_rfl) ?_;simp only[go_sem,k1,e2,qA,qp,f3,not_false_eq_true,e3,e4]
   have qk:TW s (s.set b (.row [SL z t (Bs l),iV ((qa+1:Nat):Int)] 95 0 0)) b:=
    ⟨by simp,fun i hi hb=>by rw[Bh (Ne.symm hb)],⟨z,t,l,qa+1,k1,by omega,h2⟩,qN⟩
   refine⟨_,rfl,⟨rfl,rfl⟩,A77 qk,?_,?_⟩
   .unfold Qm;rw[if_pos (by omega),hc];rfl
   .unfold Uw;rw[if_pos (by omega),Kz (by simp)]
def A3j(l:List UInt8)(a n:Nat):(Qm l a n<n\/Qm l a n=0)/\Qm l a n<=255:=by
 unfold Qm
 split
 .rename_i h;have hm:=Pg ((l[a]?).getD 0).toNat (show 0<n by omega);have jw:=Nat.mod_le ((l[a]?).getD 0).toNat n;have:=((l[a]?).getD 0).toNat_lt;omega
 .omega
def Bie{l:List UInt8}{a:Nat}(n:Nat)(h:a<=l.length):Uw l a n<=l.length:=by
 unfold Uw
 split<;>omega
def Aqc{s:St}{b:Nat}(h:TS s b)(n:Nat)(hn:n<=1000000000):∃ (r:Nat) (s':St),Bv TT PT 45 [.ptr b 0 0,iV (n:Int)] s (iV (r:Int)) s'/\TW s s' b/\s'.length=s.length/\(r<n\/r=0)/\r<=255/\∀ z,Bv TT PT 45 [.ptr b 0 0,iV (n:Int)] (s++[z]) (iV (r:Int)) (s'++[z]):=by
 have hb:=Lx h;obtain⟨z,t,l,qa,hs,h1,h2⟩:=h;have hx:=Asb hs h1 h2 n hn;obtain⟨b1,b2⟩:=A3j l qa n;refine⟨_,_,hx,⟨by simp,fun i hi hb=>by rw[Bh (Ne.symm hb)],⟨z,t,l,_,B5 hb,Bie n h1,h2⟩,hb⟩,by simp,b1,b2,fun z'=>?_⟩;have:=Asb (Bx (l:=[z']) hs) h1 h2 n hn;rw[Xi _ _ hb]at this;exact this
def Ur{τ:St}{i x t n:Nat}{cs:List V}{e:Env}(h:τ[i]?=some (.row cs t 0 0))(h1:e.get x=.ptr i 0 0)(hn:cs.length=n):Cd e τ [AR.cell x n false]=some (.agg cs):=by
 subst hn;simp only[Cd,Gl,h1,Ib,h];simp[G0]
def Bcs{cs:List V}(h:Dl (.agg cs)=true):Cm (.agg cs)=true/\(V.agg cs).refs=[]:=⟨Yy h,Vh h⟩
def Lj(nm:List UInt8):Prop:=Cc nm=true/\nm.length<=4
def Yj(l:List (List UInt8))(hl:(l.all fun x=>Cc x&&decide (x.length<=4))=true){j:Nat}(hj:j<l.length):∃ nm,(l.map fun x=>[V.str x])[j]?=some [.str nm]/\Lj nm:=by
 refine⟨l[j],by rw[Aj,Bc hj];rfl,?_⟩;have:=Bp.1 hl l[j] (Fy _);simp only[Af,decide_eq_true_eq]at this;exact this
def A3k(nm:List UInt8):Fn TT PT 126 [.str nm] (.agg (Xp.row ⟨2,0,nm,true,0,[]⟩)):=by
 refine Bo T126 rfl ?_;simp only[go_sem];exact Gm rfl
def Asd(op:Int)(a c:Xp):Fn TT PT 125 [iV op,.agg a.row,.agg c.row] (.agg (Xp.row ⟨op,0,[],true,1,[a,c]⟩)):=by
 have ha:=Du a;have hc:=Du c;refine Bo T125 rfl ?_;rw[Bf ⟨op,0,[],true,1,[a,c]⟩];simp only[Bb,B7];rw[Bf a,Bf c]at *;simp only[go_sem];exact Gm (by simp only[go_sem])
def EB:Nat->Nat
 | 0=>22
 | d+1=>2*EB d+10
def Aek(d:Nat):22<=EB d:=by
 cases d with
 | zero=>exact Ai _
 | succ d=>
  have:∀ d,22<=EB d:=fun d=>by
   induction d with
   | zero=>exact Ai _
   | succ d ih=>simp only[EB];omega
  exact this (d+1)
def Ase{d:Nat}(h:d≠0):EB d=2*EB (d - 1)+10:=by
 cases d with
 | zero=>exact absurd rfl h
 | succ d=>rfl
def Asf(op:Int):(Cs op).length<=2:=by
 unfold Cs
 split<;>simp
def RO(z:Bool)(t:Nat)(A:List Tk)(p:Nat):Ob:=.row [SL z t (A.map Tk.row),iV (p:Int)] 80 0 0
def Acy(z:Bool)(t:Nat)(A:List Tk)(p:Nat):(RO z t A p).refs=[]:=by
 unfold RO SL
 split<;>rfl
structure RdS (s:St) (m:Nat) (z:Bool) (t:Nat) (A:List Tk) (S:Nat->St):Prop where
 low:m<s.length
 eq:∀ p,S p=s.set m (RO z t A p)
 len:∀ p,(S p).length=s.length
 get:∀ (p:Nat) (l:St),(S p++l)[m]?=some (.row [SL z t (A.map Tk.row),iV (p:Int)] 80 0 0)
 get0:∀ (p:Nat),(S p)[m]?=some (.row [SL z t (A.map Tk.row),iV (p:Int)] 80 0 0)
 set:∀ (p q:Nat) (l:St),(S p++l).set m (.row [SL z t (A.map Tk.row),iV (q:Int)] 80 0 0)=S q++l
 set0:∀ (p q:Nat),(S p).set m (.row [SL z t (A.map Tk.row),iV (q:Int)] 80 0 0)=S q
 n0:∀ (p:Nat) (a:Ob) (l:St),(S p++a::l)[s.length]?=some a
 n1:∀ (p:Nat) (a b:Ob) (l:St),(S p++a::b::l)[s.length+1]?=some b
 n2:∀ (p:Nat) (a b c:Ob) (l:St),(S p++a::b::c::l)[s.length+2]?=some c
 u0:∀ (p:Nat) (a x:Ob) (l:St),(S p++a::l).set s.length x=S p++x::l
 u1:∀ (p:Nat) (a b x:Ob) (l:St),(S p++a::b::l).set (s.length+1) x=S p++a::x::l
 u2:∀ (p:Nat) (a b c x:Ob) (l:St),(S p++a::b::c::l).set (s.length+2) x=S p++a::b::x::l
def Ds{s:St}{m:Nat}{z:Bool}{t:Nat}{A:List Tk}{S:Nat->St}(h:RdS s m z t A S):=And.intro h.len (And.intro h.get (And.intro h.get0 (And.intro h.set (And.intro h.set0 (And.intro h.n0 (And.intro h.n1 (And.intro h.n2 (And.intro h.u0 (And.intro h.u1 (h.u2))))))))))
def Asg{s:St}{m:Nat}(z:Bool)(t:Nat)(A:List Tk)(hm:m<s.length):RdS s m z t A (fun p=>s.set m (RO z t A p)):=by
 have hl:∀ p,(s.set m (RO z t A p)).length=s.length:=fun p=>by simp
 have hs:∀ p q,(s.set m (RO z t A p)).set m (RO z t A q)=s.set m (RO z t A q):=fun p q=>by rw[Qv]
 refine⟨hm,fun _=>rfl,hl,fun p l=>?_,fun p=>?_,fun p q l=>?_,fun p q=>hs p q,fun p a l=>?_,fun p a b l=>?_,fun p a b c l=>?_,fun p a x l=>?_,fun p a b x l=>?_,fun p a b c x l=>?_⟩
 .exact Bx (B5 hm)
 .exact B5 hm
 .rw[Xi _ _ (by simpa using hm)];exact congrArg (·++l) (hs p q)
 .rw[Co (by simp)];simp
 .rw[Co (by simp)];simp
 .rw[Co (by simp)];simp
 .rw[I3 _ _ (by simp)];simp
 .rw[I3 _ _ (by simp)];simp
 .rw[I3 _ _ (by simp)];simp
def RT(f:Nat)(av:List V)(s:St)(m:Nat)(z:Bool)(t:Nat)(A:List Tk)(R:V->Nat->Prop):Prop:=∃ v p',Bv TT PT f (.ptr m 0 0::av) s v (s.set m (RO z t A p'))/\p'<=A.length/\R v p'
def Lc{z:Bool}{t:Nat}{A:List Tk}{f p m q:Nat}{res:List AR}{thr:Bool}{body:AC}{av:List V}{s:St}{R:V->Nat->Prop}(hT:TT f=some ⟨p,res,thr,body,none⟩)(hl:(V.ptr m 0 0::av).length=p)(hs:s[m]?=some (RO z t A q))
  (h:∀ S,RdS s m z t A S->W TT PT [.c body] (Dd 0 (.ptr m 0 0::av)) (S q) (Hd fun e' σ1=>∃ v p' l,Cd e' σ1 res=some v/\(Cm v=true/\v.refs=[])/\σ1=S p'++l/\p'<=A.length/\R v p')):RT f av s m z t A R:=by
 have hm:=(Ak.1 hs).1;have h:=h _ (Asg z t A hm);rw[Mk hs]at h;obtain⟨e',σ1,hE,v,p',l,hr,⟨h1,h2⟩,rfl,h3,h4⟩:=h;have jn:(s.set m (RO z t A p')++l).take s.length=s.set m (RO z t A p'):=by rw[List.take_append_of_le_length (by simp),Kz (by simp)]
 refine⟨v,p',?_,h3,h4⟩
 have:=Ev.fn hT rfl hl hE hr h1 (by rw[h2];rfl) (fun i ob hi ho=>by
  rw[B6 (by simpa using hi)]at ho;by_cases hb:m=i
  .subst hb;rw[B5 hm]at ho;cases ho;exact .inr (by rw[Acy];rfl)
  .rw[Bh hb]at ho
   exact .inl ho)
 rw[jn]at this;exact⟨_,hT,rfl,this⟩
def Cf{S:Nat->St}{A:List Tk}{R:V->Nat->Prop}{e:Env}{res:List AR}{v:V}{p:Nat}{l:St}(hr:Cd e (S p++l) res=some v)(hv:Cm v=true/\v.refs=[])(hp:p<=A.length)(hR:R v p):
  ∃ v p' l',Cd e (S p++l) res=some v/\(Cm v=true/\v.refs=[])/\S p++l=S p'++l'/\p'<=A.length/\R v p':=⟨v,p,l,hr,hv,rfl,hp,hR⟩
def Y4{S:Nat->St}{A:List Tk}{R:V->Nat->Prop}{e:Env}{res:List AR}{v:V}{p:Nat}(hr:Cd e (S p) res=some v)(hv:Cm v=true/\v.refs=[])(hp:p<=A.length)(hR:R v p):
  ∃ v p' l',Cd e (S p) res=some v/\(Cm v=true/\v.refs=[])/\S p=S p'++l'/\p'<=A.length/\R v p':=⟨v,p,[],hr,hv,(B3 _).symm,hp,hR⟩
def Om{s:St}{m:Nat}{z:Bool}{t:Nat}{A:List Tk}{S:Nat->St}(hS:RdS s m z t A S){f p:Nat}{av:List V}{l:St}{R:V->Nat->Prop}(h:(S p++l)[m]?=some (RO z t A p)->RT f av (S p++l) m z t A R):∃ v q,Bv TT PT f (.ptr m 0 0::av) (S p++l) v (S q++l)/\q<=A.length/\R v q:=by
 obtain⟨v,q,h1,h2,h3⟩:=h (hS.get p l);have e:(S p++l).set m (RO z t A q)=S q++l:=hS.set p q l;rw[e]at h1;exact⟨v,q,h1,h2,h3⟩
def Ti{f:Nat}{av:List V}{s:St}{m:Nat}{z:Bool}{t:Nat}{A:List Tk}{w:V}{q:Nat}(h:RT f av s m z t A (fun v p'=>v=w/\p'=q)):Bv TT PT f (.ptr m 0 0::av) s w (s.set m (RO z t A q)):=by
 obtain⟨v,p',h1,-,rfl,rfl⟩:=h;exact h1
def Ci{τ:St}{i x y n t:Nat}{cs:List V}{e:Env}{v:V}(h:τ[i]?=some (.row cs t 0 0))(h1:e.get x=.ptr i 0 0)(hn:cs.length=n)(h2:e.get y=v):Cd e τ [AR.cell x n false,AR.tmp y]=some (.tup [.agg cs,v]):=by
 subst hn h2;simp only[Cd,Gl,H0,Abb,h1,Ib,h];simp[G0]
/-! tokens -/
def Aa(A:List Tk)(p:Nat):Tk:=(A[p]?).getD Tk.zero
def Bct(w:List UInt8)(A:List Tk)(p:Nat):Ax w (A.drop p)=(((Aa A p).kind==3||(Aa A p).kind==4)&&(Aa A p).text==w):=by
 unfold Aa
 cases h:A[p]? with
 | none=>
  rw[Fo (by simpa using h)];simp[Ax,Tk.zero]
 | some x=>
  rw[Fd (Ak.1 h).1,(Ak.1 h).2];rfl
def On(A:List Tk):(A.map Tk.row).length=A.length:=Ap ..
def Aim{A:List Tk}{p:Nat}{x:Tk}(h:A[p]?=some x):(A.map Tk.row)[p]?=some [iV x.kind,.str x.text,iV x.line]:=by rw[Aj,h];rfl
def Rh{s:St}{m:Nat}{z:Bool}{t:Nat}{A:List Tk}{p:Nat}(hs:s[m]?=some (RO z t A p))(hA:A.length<=1000000)(hp:p<=A.length):Bv TT PT 67 [.ptr m 0 0] s (.agg [iV (Aa A p).kind,.str (Aa A p).text,iV (Aa A p).line]) s:=by
 suffices h:RT 67 [] s m z t A (fun v p'=>v=.agg [iV (Aa A p).kind,.str (Aa A p).text,iV (Aa A p).line]/\p'=p) by
  have:=Ti h;rw[Mk hs]at this;exact this
 refine Lc T67 rfl hs fun S hS=>?_
 have Zq:=Ds hS;obtain⟨-,-,qd,get,get0,set,set0,n0,n1,n2,u0,u1,u2⟩:=hS;unfold Aa;by_cases h:A.length<=p
 .have g:((A.length:Int)<=(p:Int))=True:=eq_true (by omega);have e:A[p]?=none:=by simpa using h
  simp only[go_sem,Zq,LZ];refine Ag (by kernel_rfl) ?_;simp only[go_sem,Zq,LZ,On,ge_iff_le,g];refine Cf (v:=.agg [iV 0,.str [],iV 0]) (Ur (n0 _ _ _) rfl rfl) ⟨rfl,rfl⟩ hp ⟨?_,rfl⟩;rw[e];rfl
 .have g:((A.length:Int)<=(p:Int))=False:=eq_false (by omega);obtain⟨x,hx⟩:∃ x,A[p]?=some x:=⟨_,Bc (by omega)⟩;have jp:=Aim hx;simp only[go_sem,Zq,LZ];refine Ag (by kernel_rfl) ?_;simp only[go_sem,Zq,LZ,On,ge_iff_le,g];refine Ag (by kernel_rfl) ?_;simp only[go_sem,Zq,LZ,On,jp];refine Ba ?_;simp only[go_sem,Zq,LZ];refine Cf (v:=.agg [iV x.kind,.str x.text,iV x.line]) (Ur (n0 _ _ _) rfl rfl) ⟨rfl,rfl⟩ hp ⟨?_,rfl⟩;rw[hx];rfl
def Akf{s:St}{m:Nat}{z:Bool}{t:Nat}{A:List Tk}{p:Nat}(hs:s[m]?=some (RO z t A p))(hA:A.length<=1000000)(hp:p<=A.length)(w:List UInt8):Bv TT PT 70 [.ptr m 0 0,.str w] s (.bool (Ax w (A.drop p))) s:=by
 suffices h:RT 70 [.str w] s m z t A (fun v p'=>v=.bool (Ax w (A.drop p))/\p'=p) by
  have:=Ti h;rw[Mk hs]at this;exact this
 refine Lc T70 rfl hs fun S hS=>?_
 have hn:=Rh (hS.get0 p) hA hp;have Zq:=Ds hS;obtain⟨-,-,qd,get,get0,set,set0,n0,n1,n2,u0,u1,u2⟩:=hS;rw[Bct];generalize Aa A p=x at hn;obtain⟨k,tx,ln⟩:=x;simp only at hn ⊢;simp only[go_sem,Zq,LZ];refine Ac hn ?_;simp only[go_sem,Zq,LZ]
 cases h3:(k==3)<;>cases h4:(k==4)<;>cases hw:(tx==w)
 all_goals
  simp only[go_sem,Zq,LZ,h3,h4,hw];exact Cf rfl ⟨rfl,rfl⟩ hp ⟨rfl,rfl⟩
def Eh{A:List Tk}{p:Nat}:A.drop (p+1)=(A.drop p).tail:=by rw[List.tail_drop]
def Ec{w:List UInt8}{A:List Tk}{p:Nat}(h:Ax w (A.drop p)=true):p<A.length:=by
 rcases Be p A.length with h' | h'
 .exact h'
 .rw[Fo h']at h;cases h
def Rr{s:St}{m:Nat}{z:Bool}{t:Nat}{A:List Tk}{p:Nat}(hs:s[m]?=some (RO z t A p))(hA:A.length<=1000000){w:List UInt8}(h:Ax w (A.drop p)=true):Bv TT PT 118 [.ptr m 0 0,.str w] s (.bool true) (s.set m (RO z t A (p+1))):=by
 have qi:=Ec h;refine Ti (A:=A) (z:=z) (t:=t) (Lc T118 rfl hs fun S hS=>?_);have ha:=Akf (hS.get0 p) hA (by omega) w;rw[h]at ha;have qg:=A2 (show p<9223372036854775807 by omega);have Zq:=Ds hS;obtain⟨-,-,qd,get,get0,set,set0,n0,n1,n2,u0,u1,u2⟩:=hS;simp only[go_sem,Zq,LZ];refine Ac ha ?_;simp only[go_sem,Zq,LZ,qg];exact Y4 rfl ⟨rfl,rfl⟩ (by omega) ⟨rfl,rfl⟩
def Rt{s:St}{m:Nat}{z:Bool}{t:Nat}{A:List Tk}{p:Nat}(hs:s[m]?=some (RO z t A p))(hA:A.length<=1000000)(hp:p<=A.length){w:List UInt8}(h:Ax w (A.drop p)=false):Bv TT PT 118 [.ptr m 0 0,.str w] s (.bool false) s:=by
 suffices h:Bv TT PT 118 [.ptr m 0 0,.str w] s (.bool false) (s.set m (RO z t A p)) by
  rw[Mk hs]at h;exact h
 refine Ti (A:=A) (z:=z) (t:=t) (Lc T118 rfl hs fun S hS=>?_);have ha:=Akf (hS.get0 p) hA hp w;rw[h]at ha;have Zq:=Ds hS;obtain⟨-,-,qd,get,get0,set,set0,n0,n1,n2,u0,u1,u2⟩:=hS;simp only[go_sem,Zq,LZ];refine Ac ha ?_;simp only[go_sem,Zq,LZ];exact Y4 rfl ⟨rfl,rfl⟩ hp ⟨rfl,rfl⟩
/-! the same, in the states of a reader's function -/
def K5{s:St}{m:Nat}{z:Bool}{t:Nat}{A:List Tk}{S:Nat->St}(hS:RdS s m z t A S){p:Nat}(l:St)(hA:A.length<=1000000){w:List UInt8}(h:Ax w (A.drop p)=true):Bv TT PT 118 [.ptr m 0 0,.str w] (S p++l) (.bool true) (S (p+1)++l):=by
 have:=Rr (hS.get p l) hA h;rw[show(S p++l).set m (RO z t A (p+1))=S (p+1)++l from hS.set p (p+1) l]at this;exact this
def Ja{s:St}{m:Nat}{z:Bool}{t:Nat}{A:List Tk}{S:Nat->St}(hS:RdS s m z t A S){p:Nat}(l:St)(hA:A.length<=1000000)(hp:p<=A.length){w:List UInt8}(h:Ax w (A.drop p)=false):Bv TT PT 118 [.ptr m 0 0,.str w] (S p++l) (.bool false) (S p++l):=Rt (hS.get p l) hA hp h
def Lv{A:List Tk}{p:Nat}(h:p<A.length):A.drop p=Aa A p::A.drop (p+1):=by
 unfold Aa;rw[Fd h,Bc h];rfl
def J3{A:List Tk}{p:Nat}(h:A.length<=p):A.drop p=[]/\Aa A p=Tk.zero:=by
 unfold Aa;rw[Fo h,O8 h];exact⟨rfl,rfl⟩
def Acz{A:List Tk}{p:Nat}(h:(Aa A p).kind≠0):p<A.length:=by
 rcases Be p A.length with h' | h'
 .exact h'
 .rw[(J3 h').2]at h;exact absurd rfl h
def Ww{s:St}{m:Nat}{z:Bool}{t:Nat}{A:List Tk}{p:Nat}(hs:s[m]?=some (RO z t A p))(hA:A.length<=1000000)(hp:p<=A.length):
  (∀ w r,Df (A.drop p)=some (w,r)->Bv TT PT 115 [.ptr m 0 0] s (.tup [.str w,.bool true]) (s.set m (RO z t A (p+1)))/\p<A.length/\A.drop (p+1)=r)/\(Df (A.drop p)=none->Bv TT PT 115 [.ptr m 0 0] s (.tup [.str [],.bool false]) s):=by
 have hk:∀ b:Bool,((Aa A p).kind==1)=b->Bv TT PT 115 [.ptr m 0 0] s (.tup [.str (if b then(Aa A p).text else []),.bool b]) (s.set m (RO z t A (if b then p+1 else p))):=fun b hb=>by
  have qi:b=true->p<A.length:=fun h=>Acz (by subst h;simp at hb;omega)
  refine Ti (A:=A) (z:=z) (t:=t) (Lc T115 rfl hs fun S hS=>?_);have hn:=Rh (hS.get0 p) hA hp;have qj:((Aa A p).kind != 1)=!b:=by rw[bne,hb]
  have Zq:=Ds hS;obtain⟨-,-,qd,get,get0,set,set0,n0,n1,n2,u0,u1,u2⟩:=hS;cases b
  .simp only[go_sem,Zq,LZ];refine Ac hn ?_;simp only[go_sem,Zq,LZ,qj,A1,Ay];exact Cf rfl ⟨rfl,rfl⟩ hp ⟨rfl,rfl⟩
  .have qg:=A2 (show p<9223372036854775807 by omega);simp only[go_sem,Zq,LZ];refine Ac hn ?_;simp only[go_sem,Zq,LZ,qj,qg,A1,Ay];exact Cf rfl ⟨rfl,rfl⟩ (qi rfl) ⟨rfl,rfl⟩
 refine⟨fun w r h=>?_,fun h=>?_⟩
 .have qi:p<A.length:=by
   rcases Be p A.length with h' | h'
   .exact h'
   .rw[(J3 h').1]at h;cases h
  rw[Lv qi]at h;simp only[Df]at h
  split at h
  .rename_i h1;cases h;have:=hk true (by simp[h1]);exact⟨this,qi,rfl⟩
  .cases h
 .have hb:((Aa A p).kind==1)=false:=by
   rcases Be p A.length with h' | h'
   .rw[Lv h']at h;simp only[Df]at h
    split at h
    .cases h
    .rename_i h1;simpa using h1
   .rw[(J3 h').2];rfl
  have:=hk false hb;simp only[F6,if_false]at this;rw[Mk hs]at this;exact this
def Adr{s:St}{m:Nat}{z:Bool}{t:Nat}{A:List Tk}{p:Nat}(hs:s[m]?=some (RO z t A p))(hA:A.length<=1000000)(hp:p<=A.length)(hN:∀ t∈A,t.kind=2->Lib.parseIntB 64 t.text=.ok (Jh t.text)/\t.text.length<=4096):
  (∀ w r,Hf (A.drop p)=some (w,r)->Bv TT PT 151 [.ptr m 0 0] s (.tup [iV w,.bool true]) (s.set m (RO z t A (p+1)))/\p<A.length/\A.drop (p+1)=r)/\(Hf (A.drop p)=none->Bv TT PT 151 [.ptr m 0 0] s (.tup [iV 0,.bool false]) s):=by
 have hk:∀ b:Bool,((Aa A p).kind==2)=b->Bv TT PT 151 [.ptr m 0 0] s (.tup [iV (if b then Jh (Aa A p).text else 0),.bool b]) (s.set m (RO z t A (if b then p+1 else p))):=fun b hb=>by
  have qi:b=true->p<A.length:=fun h=>Acz (by subst h;simp at hb;omega)
  refine Ti (A:=A) (z:=z) (t:=t) (Lc T151 rfl hs fun S hS=>?_);have hn:=Rh (hS.get0 p) hA hp;have qj:((Aa A p).kind != 2)=!b:=by rw[bne,hb]
  have Zq:=Ds hS;obtain⟨-,-,qd,get,get0,set,set0,n0,n1,n2,u0,u1,u2⟩:=hS;cases b
  .simp only[go_sem,Zq,LZ];refine Ac hn ?_;simp only[go_sem,Zq,LZ,qj,A1,Ay];exact Cf rfl ⟨rfl,rfl⟩ hp ⟨rfl,rfl⟩
  .have qg:=A2 (show p<9223372036854775807 by omega)
   have qH:Aa A p∈A:=by
    have h:=qi rfl;unfold Aa;rw[Bc h];exact Fy h
   obtain⟨hv,hl⟩:=hN _ qH (by simpa using hb)
   have q:Xd [.str (Aa A p).text,iV 10,iV 64]=some (.tup [iV (Jh (Aa A p).text),.nili]):=by
    simp only[Xd];rw[if_pos (by omega),hv]
   simp only[go_sem,Zq,LZ];refine Ac hn ?_;simp only[go_sem,Zq,LZ,qj,A1,Ay];refine F7 P177 (by simp only[go_sem]) q ?_;simp only[go_sem,Zq,LZ,qg];exact Cf rfl ⟨rfl,rfl⟩ (qi rfl) ⟨rfl,rfl⟩
 refine⟨fun w r h=>?_,fun h=>?_⟩
 .have qi:p<A.length:=by
   rcases Be p A.length with h' | h'
   .exact h'
   .rw[(J3 h').1]at h;cases h
  rw[Lv qi]at h;simp only[Hf]at h
  split at h
  .rename_i h1;cases h;have:=hk true (by simp[h1]);exact⟨this,qi,rfl⟩
  .cases h
 .have hb:((Aa A p).kind==2)=false:=by
   rcases Be p A.length with h' | h'
   .rw[Lv h']at h;simp only[Hf]at h
    split at h
    .cases h
    .rename_i h1;simpa using h1
   .rw[(J3 h').2];rfl
  have:=hk false hb;simp only[F6,if_false]at this;rw[Mk hs]at this;exact this
/-! operators -/
def A3l:(opTab.all fun p=>match (Jz (Mw TT PT 300) af247 [.str p.1] []).bind fun q=>Ex q.2 q.1 with
  | some (.tup [.int .i64 a,.int .i64 b])=>a==(I2 p.1).1&&b==(I2 p.1).2
  | _=>false)=true:=by kernel_rfl
def Bcu(w:List UInt8):Fn TT PT 247 [.str w] (.tup [iV (I2 w).1,iV (I2 w).2]):=by
 by_cases hm:∃ p∈opTab,p.1=w
 .obtain⟨p,hp,rfl⟩:=hm;have hr:=Bp.1 A3l p hp
  split at hr
  .rename_i a b hv;simp only[Af,beq_iff_eq]at hr;rw[<-hr.1,<-hr.2];exact Pm Qj T247 rfl rfl hv
  .cases hr
 .have qj:∀ p∈opTab,(w==p.1)=false:=fun p hp=>by
   rw[beq_eq_false_iff_ne];exact fun h=>hm ⟨p,hp,h.symm⟩
  have h0:I2 w=(0,0):=by
   unfold I2
   have:opTab.lookup w=none:=by
    rw[List.lookup_eq_none_iff];exact fun p hp=>by rw[bne,qj p hp];rfl
   rw[this];rfl
  rw[h0];simp only[opTab,Bj,Qs,or_false,forall_eq_or_imp,forall_eq]at qj;obtain⟨a1,a2,a3,a4,a5,a6,a7,a8,a9,qY,qZ,ja,jb⟩:=qj;refine Bo T247 rfl ?_;simp only[go_sem,a1,a2,a3,a4,a5,a6,a7,a8,a9,qY,qZ,ja,jb];exact Hk rfl
def A78{s:St}{m:Nat}{z:Bool}{t:Nat}{A:List Tk}{p:Nat}(hs:s[m]?=some (RO z t A p))(hA:A.length<=1000000)(hp:p<=A.length)(ql:Nat):Bv TT PT 241 [.ptr m 0 0,iV (ql:Int)] s (iV (Hu ql (A.drop p))) s:=by
 suffices h:Bv TT PT 241 [.ptr m 0 0,iV (ql:Int)] s (iV (Hu ql (A.drop p))) (s.set m (RO z t A p)) by
  rw[Mk hs]at h;exact h
 have ho:Hu ql (A.drop p)=if(Aa A p).kind=4 then(if(I2 (Aa A p).text).2=(ql:Int) then(I2 (Aa A p).text).1 else 0) else 0:=by
  rcases Be p A.length with h' | h'
  .rw[Lv h'];rfl
  .rw[(J3 h').1,(J3 h').2];rfl
 rw[ho];refine Ti (A:=A) (z:=z) (t:=t) (Lc T241 rfl hs fun S hS=>?_);have hn:=Rh (hS.get0 p) hA hp;have hb:=Bcu (Aa A p).text;generalize I2 (Aa A p).text=o at hb ⊢;obtain⟨o1,o2⟩:=o;simp only at hb ⊢;have Zq:=Ds hS;obtain⟨-,-,qd,get,get0,set,set0,n0,n1,n2,u0,u1,u2⟩:=hS;by_cases h4:(Aa A p).kind=4
 .have g4:((Aa A p).kind != 4)=false:=by simp[h4]
  rw[if_pos h4];by_cases hl:o2=(ql:Int)
  .have gl:(o2 != (ql:Int))=false:=by simp[hl]
   rw[if_pos hl];simp only[go_sem,Zq,LZ];refine Ac hn ?_;simp only[go_sem,Zq,LZ,g4];refine Ad hb (by simp only[go_sem]) ?_;simp only[go_sem,Zq,LZ,gl];exact Cf rfl ⟨rfl,rfl⟩ hp ⟨rfl,rfl⟩
  .have gl:(o2 != (ql:Int))=true:=by simp[hl]
   rw[if_neg hl];simp only[go_sem,Zq,LZ];refine Ac hn ?_;simp only[go_sem,Zq,LZ,g4];refine Ad hb (by simp only[go_sem]) ?_;simp only[go_sem,Zq,LZ,gl];exact Cf rfl ⟨rfl,rfl⟩ hp ⟨rfl,rfl⟩
 .have g4:((Aa A p).kind != 4)=true:=by simp[h4]
  rw[if_neg h4];simp only[go_sem,Zq,LZ];refine Ac hn ?_;simp only[go_sem,Zq,LZ,g4];exact Cf rfl ⟨rfl,rfl⟩ hp ⟨rfl,rfl⟩
