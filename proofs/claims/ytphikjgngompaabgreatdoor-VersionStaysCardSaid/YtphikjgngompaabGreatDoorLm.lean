/- Walks: the scanner. -/
import Derived.Test.YtphikjgngompaabGreatDoorVz
set_option linter.all false
namespace Go.Proofs.YtphikjgngompaabGreatDoor.KM
open Go
def Bgd(l:List UInt8)(c:UInt8):decide (0<=Lib.indexByte l c)=l.elem c:=by
 induction l with
 | nil=>rfl
 | cons b l ih=>
  have hg:=Lib.indexByte_ge l c;rw[Lib.indexByte,List.elem_cons]
  grind
def Axs:∀ l:List UInt8,(Lib.indexByte l 10 = -1/\(l.takeWhile (· != 10)).length=l.length)\/Lib.indexByte l 10=((l.takeWhile (· != 10)).length:Int)
 | []=>.inl ⟨rfl,rfl⟩
 | b::l=>by
  have ih:=Axs l;rw[Lib.indexByte,Wu]
  grind
def Al5(p:UInt8->Bool):∀ l:List UInt8,l.drop (l.takeWhile p).length=l.dropWhile p
 | []=>rfl
 | c::l=>by
  rw[Wu,Wt];cases p c
  .rfl
  .simp only[if_true,An,Aig];exact Al5 p l
def Azr:∀ a b:List UInt8,(!(Op.bytesLess a b||a==b))=Op.bytesLess b a
 | [],[]=>rfl
 | [],b::y=>by simp[Op.bytesLess]
 | a::x,[]=>by simp[Op.bytesLess]
 | a::x,b::y=>by
  have ih:=Azr x y;simp only[Op.bytesLess,List.cons_beq_cons,<-ih];by_cases h:a=b
  .grind
  grind
def A4l(l:List UInt8)(hl:l.length<=4096):Fn TT PT 54 [.str l] (iV ((l.takeWhile (· != 10)).length:Int)):=by
 refine Bg T54 rfl ?_;have hg:=Lib.indexByte_ge l 10;have ht:=Ab3 (p:=(· != 10)) l;have q:Ur [.str l,.int .u8 10]=some (iV (Lib.indexByte l 10)):=rfl;rcases Axs l with⟨h1,h2⟩ | h1
 .rw[h1]at q;rw[h2];simp only[go_sem];refine Fm P91 AB q ?_;simp only[go_sem,ge_iff_le];exact Ah rfl rfl
 .rw[h1]at q;generalize(l.takeWhile (· != 10)).length=n at q;have f1:((0:Int)<=(n:Int))=True:=eq_true AA;simp only[go_sem];refine Fm P91 AB q ?_;simp only[go_sem,ge_iff_le,f1];exact Ah rfl rfl
def Ba7(c:UInt8)(r:List UInt8)(hl:(c::r).length<=4096):Fn TT PT 96 [.str (c::r)] (iV (I6 (c::r):Int)):=by
 have q:Ur [.str oneS,.int .u8 (c.toNat:Int)]=some (iV (Lib.indexByte oneS c)):=by
  simp only[Ur,Nr,Nat.toUInt8_eq,UInt8.ofNat_toNat]
 have jo:=Bgd oneS c;have jv:∀ b:Bool,oneS.elem c=b->decide (0<=Lib.indexByte oneS c)=b:=fun b h=>jo.trans h
 rw[An]at hl;refine Bg T96 rfl ?_
 have jg:∀ b:Bool,oneS.elem c=b->(0<=Lib.indexByte oneS c)=(b=true):=fun b h=>by
  grind
 have i0:(c::r)[0]?=some c:=rfl;have hk:∀ b:Bool,oneS.elem c=b->((0<=Lib.indexByte oneS c)=(b=true)):=jg;unfold I6;by_cases h2:2<=r.length+1
 .have g2:((2:Int)<=((r.length+1:Nat):Int))=True:=eq_true AA;have g3:(2<=r.length+1)=True:=eq_true h2;have d2:decide (2<=(c::r).length)=true:=by simp;omega
  rw[d2,W3];generalize hw:(c::r).take 2=w;by_cases a1:w=[124,124]
  .rw[a1]at hw ⊢;have e1:(([124,124]:List UInt8)==[124,124])=true:=by decide
   simp only[go_sem,ge_iff_le,g2,g3,hw,e1];exact Ah rfl rfl
  have e1:(w==[124,124])=false:=by simp[a1]
  by_cases a2:w=[38,38]
  .rw[a2]at hw ⊢;rw[a2]at e1;have e2:(([38,38]:List UInt8)==[38,38])=true:=by decide
   simp only[go_sem,ge_iff_le,g2,g3,hw,e1,e2];exact Ah rfl rfl
  have e2:(w==[38,38])=false:=by simp[a2]
  by_cases a3:w=[61,61]
  .rw[a3]at hw ⊢;rw[a3]at e1;rw[a3]at e2;have e3:(([61,61]:List UInt8)==[61,61])=true:=by decide
   simp only[go_sem,ge_iff_le,g2,g3,hw,e1,e2,e3];exact Ah rfl rfl
  have e3:(w==[61,61])=false:=by simp[a3]
  by_cases a4:w=[33,61]
  .rw[a4]at hw ⊢;rw[a4]at e1;rw[a4]at e2;rw[a4]at e3;have e4:(([33,61]:List UInt8)==[33,61])=true:=by decide
   simp only[go_sem,ge_iff_le,g2,g3,hw,e1,e2,e3,e4];exact Ah rfl rfl
  have e4:(w==[33,61])=false:=by simp[a4]
  by_cases a5:w=[60,61]
  .rw[a5]at hw ⊢;rw[a5]at e1;rw[a5]at e2;rw[a5]at e3;rw[a5]at e4;have e5:(([60,61]:List UInt8)==[60,61])=true:=by decide
   simp only[go_sem,ge_iff_le,g2,g3,hw,e1,e2,e3,e4,e5];exact Ah rfl rfl
  have e5:(w==[60,61])=false:=by simp[a5]
  by_cases a6:w=[62,61]
  .rw[a6]at hw ⊢;rw[a6]at e1;rw[a6]at e2;rw[a6]at e3;rw[a6]at e4;rw[a6]at e5;have e6:(([62,61]:List UInt8)==[62,61])=true:=by decide
   simp only[go_sem,ge_iff_le,g2,g3,hw,e1,e2,e3,e4,e5,e6];exact Ah rfl rfl
  have e6:(w==[62,61])=false:=by simp[a6]
  have en:twoS.elem w=false:=by simp[twoS,a1,a2,a3,a4,a5,a6]
  rw[en];cases hb:oneS.elem c
  all_goals
   have f:=hk _ hb;simp only[go_sem,ge_iff_le,g2,g3,hw,e1,e2,e3,e4,e5,e6,i0];refine Fm P91 AB q ?_;simp only[go_sem,ge_iff_le,f];exact Ah rfl (by grind)
 .have g2:((2:Int)<=((r.length+1:Nat):Int))=False:=eq_false AA;have d2:decide (2<=(c::r).length)=false:=decide_eq_false AA;rw[d2,W2];cases hb:oneS.elem c
  all_goals
   have f:=hk _ hb;simp only[go_sem,ge_iff_le,g2,i0];refine Fm P91 AB q ?_;simp only[go_sem,ge_iff_le,f];exact Ah rfl (by grind)
def Bge(c:UInt8)(r:List UInt8)(hc:Du c=true)(hl:(c::r).length<=4096):Fn TT PT 95 [.str (c::r)] (if Rz (r.dropWhile Du) then .tup [.agg (Tk.row Tk.zero),iV 3] else if Qq (Eo c r) then .tup [.agg (Tk.row ⟨2,Eo c r,0⟩),iV 0] else .tup [.agg (Tk.row Tk.zero),iV 3]):=by
 obtain⟨w1,w2,w3,w4⟩:=Ab3 (p:=Du) r;have hd:=Al5 Du r;have hW:(c::r).take (Eo c r).length=Eo c r:=by simp[Eo,w4]
 have qS:(Eo c r).length=(r.takeWhile Du).length+1:=by simp[Eo]
 rw[An]at hl;generalize hn:(Eo c r).length=n at hW qS ⊢;refine Bg T95 rfl ?_;simp only[go_sem];refine Bk (α:=Nat) (fun i=>n - i) (fun i=>[(0,.str (c::r)),(2,.ptr 0 0 0),(4,iV (i:Int))]) (fun _=>[.row [iV 0,.str [],iV 0] 123 0 0]) (fun i=>1<=i/\i<=n) ?_ 1 ⟨by omega,by omega⟩;rintro i ⟨h1,h2⟩ ih;refine Bd Bp3 ?_;by_cases hi:i<n
 .obtain⟨x,x1,x2⟩:=w1 (i - 1) AA
  have x3:(c::r)[i]?=some x:=by
   obtain⟨j,rfl⟩:∃ j,i=j+1:=⟨i - 1,by omega⟩;simpa using x1
  have qh:=Az (show i<r.length+1 by omega);have qt:=A2 (show i<9223372036854775807 by omega);simp only[go_sem,qh,nn,x3];refine Ab (S3 x) AB ?_;simp only[go_sem,x2,qt];exact Av (ih (i+1) AA AA) rfl
 .obtain rfl:i=n:=by omega
  have gi:(i<=r.length+1)=True:=eq_true AA
  have jk:Ul (.str (c::r)) none (some (iV (i:Int)))=some (.str (Eo c r)):=by
   rw[A0r _ _ (by grind),hW]
  have qL:Qq (Eo c r)=!(decide (19<((Eo c r).dropWhile (·==48)).length)||(decide (((Eo c r).dropWhile (·==48)).length=19)&&Op.bytesLess greatS ((Eo c r).dropWhile (·==48)))):=rfl;have q:Y6 [.str (Eo c r),.str [48]]=some (.str ((Eo c r).dropWhile (·==48))):=rfl;generalize(Eo c r).dropWhile (·==48)=d at qL q
  have qv:(i<r.length+1/\∃ x,(c::r)[i]?=some x/\Du x=false/\Rz (r.dropWhile Du)=(Gw x||x==95))\/(r.length+1<=i/\Rz (r.dropWhile Du)=false):=by
   by_cases hb:i<r.length+1
   .obtain⟨x,x1,x2⟩:=w2 AA;have x3:(c::r)[i]?=some x:=by rw[qS];simpa using x1
    refine .inl ⟨hb,x,x3,x2,?_⟩;rw[<-hd,Io (Ao.1 x1).1,(Ao.1 x1).2];rfl
   .refine .inr ⟨by omega,?_⟩;rw[<-hd,D1 AA];rfl
  have q:Y6 [.str (Eo c r),.str [48]]=some (.str d):=q;have qB:(!(Op.bytesLess d [57,50,50,51,51,55,50,48,51,54,56,53,52,55,55,53,56,48,55]||d==[57,50,50,51,51,55,50,48,51,54,56,53,52,55,55,53,56,48,55]))=Op.bytesLess greatS d:=Azr d greatS
  have tail:∀ b:Bool,Qq (Eo c r)=b->(b=true/\decide (19<(d.length:Int))=false/\(((d.length:Int)==19)=false\/(((d.length:Int)==19)=true/\Op.bytesLess greatS d=false)))\/(b=false/\(decide (19<(d.length:Int))=true\/(decide (19<(d.length:Int))=false/\((d.length:Int)==19)=true/\Op.bytesLess greatS d=true))):=fun b hb=>by
   grind
  rcases qv with⟨hb,x,x3,hD,hg⟩ | ⟨hb,hg⟩
  .have qh:=Az hb;have qQ:((x.toNat:Int)==95)=(x==95):=Ud x 95 AG;simp only[go_sem,qh,nn,x3];refine Ab (S3 x) AB ?_;simp only[go_sem,hD,qh,nn,x3];refine Ab (P3 x) AB ?_;rw[hg];cases hL:Gw x
   .cases h9:(x==95)
    .simp only[go_sem,nn,x3,qQ,h9,gi,hW,Ax,true_and,if_true,C5];refine Fm P137 AB q ?_;rcases tail _ rfl with⟨hb,k1,k2 | ⟨k2,k3⟩⟩ | ⟨hb,k1 | ⟨k1,k2,k3⟩⟩
     all_goals rw[hb]
     .simp only[go_sem,gt_iff_lt,k1,k2,nn,gi,hW,Ax,true_and,if_true,C5];exact Hk AB rfl
     .simp only[go_sem,gt_iff_lt,k1,k2,qB,k3,nn,gi,hW,Ax,true_and,if_true,C5];exact Hk AB rfl
     .simp only[go_sem,gt_iff_lt,k1];exact Hk AB rfl
     .simp only[go_sem,gt_iff_lt,k1,k2,qB,k3];exact Hk AB rfl
    .simp only[go_sem,nn,x3,qQ,h9];exact Hk AB rfl
   .simp only[go_sem];exact Hk AB rfl
  .rw[hg];simp only[go_sem,Bl hb,nn,gi,hW,Ax,true_and,if_true,C5];refine Fm P137 AB q ?_;rcases tail _ rfl with⟨hb,k1,k2 | ⟨k2,k3⟩⟩ | ⟨hb,k1 | ⟨k1,k2,k3⟩⟩
   all_goals rw[hb]
   .simp only[go_sem,gt_iff_lt,k1,k2,nn,gi,hW,Ax,true_and,if_true,C5];exact Hk AB rfl
   .simp only[go_sem,gt_iff_lt,k1,k2,qB,k3,nn,gi,hW,Ax,true_and,if_true,C5];exact Hk AB rfl
   .simp only[go_sem,gt_iff_lt,k1];exact Hk AB rfl
   .simp only[go_sem,gt_iff_lt,k1,k2,qB,k3];exact Hk AB rfl
def Ba8(c:UInt8)(r:List UInt8)(hl:(c::r).length<=4096):∃ e:Int,e≠0/\Fn TT PT 55 [.str (c::r)] (match K0 (c::r) with
  | some (k,w)=>.tup [.agg (Tk.row ⟨k,w,0⟩),.int .i64 0]
  | none=>.tup [.agg (Tk.row Tk.zero),.int .i64 e]):=by
 have i0:(c::r)[0]?=some c:=rfl;have hT:TT 55=some af55:=by rfl
 cases hL:Gw c
 .cases hD:Du c
  .have hs:=Ba7 c r hl;by_cases h0:I6 (c::r)=0
   .have hf:K0 (c::r)=none:=by rw[Pz,if_neg (by grind),if_neg (by grind),if_pos h0]
    rw[hf];have e0:((I6 (c::r):Int)==0)=true:=by rw[h0];rfl
    refine⟨3,by decide,Bg T55 rfl ?_⟩;simp only[go_sem,i0];refine Ab (P3 c) AB ?_;simp only[go_sem,hL];refine Ab (S3 c) AB ?_;simp only[go_sem,hD];refine Ab hs AB ?_;simp only[go_sem,e0];exact Hk AB rfl
   .have hf:K0 (c::r)=some (4,(c::r).take (I6 (c::r))):=by rw[Pz,if_neg (by grind),if_neg (by grind),if_neg h0]
    rw[hf];have qJ:=(Awr h0).2;rw[An]at qJ;generalize I6 (c::r)=n at hs h0 qJ ⊢;have e0:((n:Int)==0)=false:=by rw[beq_eq_false_iff_ne];omega
    have gi:(n<=r.length+1)=True:=eq_true qJ;generalize hw:(c::r).take n=w;refine⟨3,by decide,Bg T55 rfl ?_⟩;simp only[go_sem,i0];refine Ab (P3 c) AB ?_;simp only[go_sem,hL];refine Ab (S3 c) AB ?_;simp only[go_sem,hD];refine Ab hs AB ?_;simp only[go_sem,e0,nn,gi,hw,Ax,true_and,if_true,C5];exact Hk AB rfl
  .have hs:=Bge c r hD hl;have jl:Gw c≠true:=by rw[hL];decide
   refine⟨3,by decide,Bg T55 rfl ?_⟩
   have hf:K0 (c::r)=if Rz (r.dropWhile Du) then none else if Qq (Eo c r) then some (2,Eo c r) else none:=by rw[Pz,if_neg jl,if_pos hD]
   rw[hf]
   cases hg:Rz (r.dropWhile Du)<;>cases hk:Qq (Eo c r)
   all_goals
    rw[hg]at hs;rw[hk]at hs;simp only[Hg,if_false,if_true,Tk.row,Tk.zero]at hs ⊢;simp only[go_sem,i0];refine Ab (P3 c) AB ?_;simp only[go_sem,hL];refine Ab (S3 c) AB ?_;simp only[go_sem,hD];refine Ab hs AB ?_;simp only[go_sem];exact Hk AB rfl
 .have hs:=Bfd c r hl;refine⟨2,by decide,Bg T55 rfl ?_⟩
  have hf:K0 (c::r)=if 12<(Ex c r).length then none else some (if Gk (Ex c r) then 3 else 1,Ex c r):=by rw[Pz,if_pos hL]
  rw[hf];by_cases qR:12<(Ex c r).length
  .rw[if_pos qR]at hs ⊢;simp only[Tk.row,Tk.zero]at hs ⊢;simp only[go_sem,i0];refine Ab (P3 c) AB ?_;simp only[go_sem,hL];refine Ab hs AB ?_;simp only[go_sem];exact Hk AB rfl
  .rw[if_neg qR]at hs ⊢;simp only[Tk.row]at hs ⊢;generalize(if Gk (Ex c r)=true then(3:Int) else 1)=k at hs ⊢;simp only[go_sem,i0];refine Ab (P3 c) AB ?_;simp only[go_sem,hL];refine Ab hs AB ?_;simp only[go_sem];exact Hk AB rfl
/-! the whole text -/
def An3{f p:Nat}{res:List AR}{body:AC}{vs:List V}{R:V->Prop}(hT:TT f=some ⟨p,res,false,body,none⟩)(hl:vs.length=p)(h:W TT PT [.c body] (C4 0 vs) [] (Hd fun e' σ1=>∃ v,FQ res v e' σ1/\R v)):∃ v,Fn TT PT f vs v/\R v:=by
 obtain⟨e',σ',hE,v,hq,hR⟩:=h;exact⟨v,Bg hT hl ⟨e',σ',hE,hq⟩,hR⟩
def Blo{σ:St}{m e i g:Nat}{xs:List (List V)}{w y:Int}(ho:σ[i]?=some (.row xs.flatten e g 0))(hm:0<m)(hl:∀ r∈xs,r.length=m)(hr:∀ r∈xs,r.all V.rowB=true):
  FR (.tup [.sl i g 0 xs.length m true,iV w,iV y]) σ (.tup [.lst 0 xs,iV w,iV y]):=by
 obtain⟨hi,jF⟩:=Ao.1 ho;have hx:Ag xs.flatten=[]:=Ft (Id hr);have h0:ren 0 [i] i=0:=by simp[ren,Adb]
 refine .inr ⟨[i],?_,?_⟩
 .simp only[Hy,Ci,Hm,V.refs,Ag,B5,Db,V.cellB,Cc]
  grind[El,Ob.refs]
 .simp only[Nq,ho,Ux,Aw,B0,Ob.ren,Pd i _ (Id hr),V.ren,Fh,h0,Ed,Ky];have ha:OV [Ob.row xs.flatten e g 0] (V.sl 0 g 0 xs.length m true) (.lst 0 xs):=Vl (Rw (i:=0) (g:=g) (e:=e) (z:=0) (w:=true) rfl hm hl hr) rfl;have jc:∀ n:Int,OV [Ob.row xs.flatten e g 0] (iV n) (iV n):=fun n=>I0 rfl
  exact congrArg (Option.map V.tup) (Vk (.cons ha (.cons (jc w) (.cons (jc y) .nil))) fun j hj=>Nz _ _ _ _ (Sn.2 hj))
def Blp{σ:St}{m e lo:Nat}{u:V}{w y:Int}{xs:List (List V)}(h:GW σ m e lo u xs)(hm:0<m)(hl:∀ r∈xs,r.length=m)(hr:∀ r∈xs,r.all V.rowB=true):
  FR (.tup [u,iV w,iV y]) σ (.tup [SL true 0 xs,iV w,iV y]):=by
 rcases h with⟨rfl,rfl⟩ | ⟨hn,i,g,rfl,ho,jE⟩
 .exact Gt rfl
 .rw[V3 hn];exact Blo ho hm hl hr
def Blq(c:UInt8)(r:List UInt8):Lib.hasPrefix (c::r) [47,47]=decide (c=47/\r.head?=some 47):=by
 unfold Lib.hasPrefix
 cases r with
 | nil=>grind
 | cons d r=>
  grind
def An4(s:List UInt8)(v:V):Prop:=match (if 4096<s.length then none else C0 s.length 1 s) with
 | some L=>v=.tup [SL true 0 (L.map Tk.row),.int .i64 0,.int .i64 0]
 | none=>∃ e ln:Int,e≠0/\v=.tup [.nils,.int .i64 e,.int .i64 ln]
def Blr(t:Tk):t.row.length=3:=rfl
def Bls(t:Tk):t.row.all V.rowB=true:=rfl
def Bgf(s:List UInt8):∃ v,Fn TT PT 28 [.str s] v/\An4 s v:=by
 refine An3 T28 rfl ?_;unfold An4;by_cases qu:4096<s.length
 .have f1:((4096:Int)<(s.length:Int))=True:=eq_true AA;rw[if_pos qu];simp only[go_sem,gt_iff_lt,f1];exact⟨_,Gt AK,2,0,by decide,rfl⟩
 .have f1:((4096:Int)<(s.length:Int))=False:=eq_false AA;rw[if_neg qu];simp only[go_sem,gt_iff_lt,f1];refine Bk (α:=Nat × Nat × V × List Tk × St) (fun a=>s.length - a.1) (fun a=>[(0,.str s),(5,a.2.2.1),(6,iV (a.2.1:Int)),(7,iV (a.1:Int))]) (fun a=>a.2.2.2.2) (fun a=>a.1<=s.length/\a.2.1<=a.1+1/\a.2.2.2.1.length<=a.1/\GW a.2.2.2.2 3 123 0 a.2.2.1 (a.2.2.2.1.map Tk.row)/\C0 s.length 1 s=(C0 s.length (a.2.1:Int) (s.drop a.1)).map (a.2.2.2.1++·)) ?_ (0,1,.nils,[],[]) ⟨Ax _,Aj _,Aj _,D3,by simp⟩;rintro⟨i,ln,u,L,σ⟩ ⟨hi,js,hL,hg,qf⟩ ih;simp only at hi js hL hg qf ih
  have qN:∀ r∈L.map Tk.row,r.length=3:=by
   intro r hr;obtain⟨x,-,rfl⟩:=Cs.1 hr;exact Blr x
  have jx:∀ r∈L.map Tk.row,r.all V.rowB=true:=by
   intro r hr;obtain⟨x,-,rfl⟩:=Cs.1 hr;exact Bls x
  refine Bd Bo2 ?_;by_cases hc:i<s.length
  .obtain⟨c,r,qi⟩:∃ c r,s.drop i=c::r:=by
    rw[Io hc]
    grind
   have x3:s[i]?=some c:=by
    have:=congrArg (·[0]?) qi;simpa using this
   have qd:(c::r).length=s.length - i:=by rw[<-qi,Gz]
   have jG:s.drop (i+1)=r:=by
    have:=congrArg List.tail qi;simpa[List.tail_drop] using this
   have qh:=Az hc;have gi:(i<=s.length)=True:=eq_true hi;have ql:((c.toNat:Int)==10)=(c==UInt8.ofNat 10):=Ud c 10 AG;have qp:((c.toNat:Int)==32)=(c==UInt8.ofNat 32):=Ud c 32 AG;have e9:((c.toNat:Int)==9)=(c==UInt8.ofNat 9):=Ud c 9 AG;have qy:((c.toNat:Int)==13)=(c==UInt8.ofNat 13):=Ud c 13 AG;have qt:=A2 (show i<9223372036854775807 by omega);have qF:=A2 (show ln<9223372036854775807 by omega);obtain⟨k,hk⟩:∃ k,s.length=k+1:=⟨s.length - 1,by omega⟩;rw[An]at qd
   have qg:C0 s.length (ln:Int) (s.drop i)=if c=10 then C0 k ((ln:Int)+1) r else if c=32\/c=9\/c=13 then C0 k (ln:Int) r else if c=47/\r.head?=some 47 then C0 k (ln:Int) ((c::r).dropWhile (· != 10)) else match K0 (c::r) with
     | none=>none
     | some (q,w)=>(C0 k (ln:Int) ((c::r).drop w.length)).map fun l=>⟨q,w,(ln:Int)⟩::l:=by rw[hk,qi];rfl
   have any:∀ (n:Int) (l:List UInt8),l.length<=k->C0 k n l=C0 s.length n l:=fun n l h=>Xl _ _ n l h AA
   by_cases qz:c=10
   .have qj:(c==UInt8.ofNat 10)=true:=by rw[qz];rfl
    rw[if_pos qz,any _ _ AA]at qg;simp only[go_sem,qh,nn,x3,ql,qj,qt,qF];refine Av (ih (i+1,ln+1,u,L,σ) AA ⟨by omega,by grind,by grind,hg,?_⟩) rfl
    grind
   .have qj:(c==UInt8.ofNat 10)=false:=by rw[beq_eq_false_iff_ne];exact qz
    rw[if_neg qz]at qg;by_cases qo:c=32\/c=9\/c=13
    .rw[if_pos qo,any _ _ AA]at qg
     have next:W TT PT _ [(0,.str s),(5,u),(6,iV (ln:Int)),(7,iV ((i+1:Nat):Int))] σ _:=ih (i+1,ln,u,L,σ) AA ⟨by omega,by grind,by grind,hg,by grind⟩
     rcases qo with rfl | rfl | rfl
     .simp only[go_sem,qh,nn,x3,ql,qj,qp,(show((32:UInt8)==UInt8.ofNat 32)=true from rfl),qt]
      exact Av next rfl
     .simp only[go_sem,qh,nn,x3,ql,qj,qp,e9,(show((9:UInt8)==UInt8.ofNat 32)=false from rfl),(show((9:UInt8)==UInt8.ofNat 9)=true from rfl),qt]
      exact Av next rfl
     .simp only[go_sem,qh,nn,x3,ql,qj,qp,e9,qy,(show((13:UInt8)==UInt8.ofNat 32)=false from rfl),(show((13:UInt8)==UInt8.ofNat 9)=false from rfl),(show((13:UInt8)==UInt8.ofNat 13)=true from rfl),qt]
      exact Av next rfl
    .rw[if_neg qo]at qg;simp only[not_or]at qo;have qD:(c==UInt8.ofNat 32)=false:=by rw[beq_eq_false_iff_ne];exact qo.1
     have b9:(c==UInt8.ofNat 9)=false:=by rw[beq_eq_false_iff_ne];exact qo.2.1
     have qC:(c==UInt8.ofNat 13)=false:=by rw[beq_eq_false_iff_ne];exact qo.2.2
     have q:hpS [.str (c::r),.str [47,47]]=some (.bool (decide (c=47/\r.head?=some 47))):=by rw[<-Blq];rfl
     by_cases qA:c=47/\r.head?=some 47
     .rw[if_pos qA]at qg;rw[decide_eq_true qA]at q;have hd:=Aat (· != 10) (c::r);have qW:=A4l (c::r) (by grind);have qX:=Al5 (· != 10) (c::r)
      have jt:1<=((c::r).takeWhile (· != 10)).length:=by
       rw[Wu,if_pos (by grind)];simp
      have qZ:((c::r).takeWhile (· != 10)).length<=(c::r).length:=(Ab3 (c::r)).2.2.1
      have ju:((c::r).dropWhile (· != 10)).length<=k:=by
       rw[<-qX,Gz,An];omega
      rw[any _ _ ju,<-qX]at qg;rw[An]at qZ;generalize((c::r).takeWhile (· != 10)).length=n at qW qg jt qZ;have qn:IntKind.i64.wrap ((i:Int)+(n:Int))=((i+n:Nat):Int):=by rw[Cm AA];omega
      simp only[go_sem,qh,nn,x3,ql,qj,qp,qD,e9,b9,qy,qC,gi,qi,Ax,Aj,Dq,true_and,if_true,C5];refine Fm P53 AB q ?_;simp only[go_sem,nn,gi,qi,Ax,Aj,Dq,true_and,if_true,C5];refine Ab qW AB ?_;simp only[go_sem,qn];refine Av (ih (i+n,ln,u,L,σ) AA ⟨by omega,by grind,by grind,hg,?_⟩) rfl
      grind[List.drop_drop]
     .rw[if_neg qA]at qg;rw[decide_eq_false qA]at q;obtain⟨e,he,qs⟩:=Ba8 c r (by grind);have jd:∀ a:Ob,(σ++[a])[σ.length]?=some a:=fun a=>by simp
      have je:∀ a b:Ob,(σ++[a]).set σ.length b=σ++[b]:=fun a b=>by grind
      cases hf:K0 (c::r) with
      | none=>
       rw[hf]at qs qg;simp only[Tk.row,Tk.zero]at qs;have ne:(e != 0)=true:=by simp[he]
       have qf:C0 s.length 1 s=none:=by rw[qf,qg];rfl
       rw[qf];simp only[go_sem,qh,nn,x3,ql,qj,qp,qD,e9,b9,qy,qC,gi,qi,Ax,Aj,Dq,true_and,if_true,C5];refine Fm P53 AB q ?_;simp only[go_sem,nn,gi,qi,Ax,Aj,Dq,true_and,if_true,C5];refine Ab qs AB ?_;simp only[go_sem,jd,je,ne];exact⟨_,Gt AK,e,_,he,rfl⟩
      | some p=>
       obtain⟨kd,w⟩:=p;rw[hf]at qs qg;simp only[Tk.row]at qs qg;obtain⟨jH,qq,jy⟩:=Zt hf
       have jb:w.length+qq.length=r.length+1:=by
        have:=congrArg List.length jy;simp at this;omega
       have qn:IntKind.i64.wrap ((i:Int)+(w.length:Int))=((i+w.length:Nat):Int):=by rw[Cm AA];omega
       have ne:((0:Int) != 0)=false:=by decide
       have jm:GW (σ++[.row [iV kd,.str w,iV (ln:Int)] 123 0 0]) 3 123 0 u (L.map Tk.row):=Ix hg;obtain⟨u',σ',ha,jA,jD,jp,-⟩:=I1 (bytes:=32) (y:=.lst 1 [[iV kd,.str w,iV (ln:Int)]]) (ys:=[[iV kd,.str w,iV (ln:Int)]]) jm (Ax _) rfl AA qN AE (by grind)
       have jq:σ'[σ.length]?=some (.row [iV kd,.str w,iV (ln:Int)] 123 0 0):=by
        rw[jp σ.length ?_ AE]
        .grind
        .intro j g hj jC;rcases hg with⟨rfl,-⟩ | ⟨-,j',g',rfl,ho,-⟩
         .cases hj
         grind
       have qV:=Cg hg;rw[any _ _ (by grind)]at qg;simp only[go_sem,qh,nn,x3,ql,qj,qp,qD,e9,b9,qy,qC,gi,qi,Ax,Aj,Dq,true_and,if_true,C5];refine Fm P53 AB q ?_;simp only[go_sem,nn,gi,qi,Ax,Aj,Dq,true_and,if_true,C5];refine Ab qs AB ?_;simp only[go_sem,jd,je,ne,ha,jq,qn];refine Av (ih (i+w.length,ln,u',L++[⟨kd,w,(ln:Int)⟩],σ') AA ⟨by omega,by grind,by grind,by grind[Tk.row],?_⟩) rfl;simp only;rw[qf,qg,<-Zi,qi]
       cases C0 s.length (ln:Int) ((c::r).drop w.length) with
       | none=>rfl
       | some l=>simp
  .have jB:i=s.length:=by omega
   simp only[go_sem,Bl (show s.length<=i by omega)]
   have hz:C0 s.length (ln:Int) (s.drop i)=some []:=by
    rw[D1 AA]
    cases s.length<;>rfl
   rw[hz]at qf;rw[qf];refine⟨_,Blp hg AA qN jx,?_⟩;simp
def Ys:∀ n,(∀ lvl ts x r,pe n lvl ts=some (x,r)->r.length<ts.length)/\(∀ lvl x0 ts x r,lp n lvl x0 ts=some (x,r)->r.length<=ts.length) /\
  (∀ ts x r,pu n ts=some (x,r)->r.length<ts.length)/\(∀ ts x r,pp n ts=some (x,r)->r.length<ts.length)
 | 0=>⟨fun _ _ _ _ h=>by grind[pe],fun _ _ _ _ _ h=>by grind[lp],fun _ _ _ h=>by grind[pu],fun _ _ _ h=>by grind[pp]⟩
 | n+1=>by
  obtain⟨jI,jJ,jK,jL⟩:=Ys n;refine⟨fun lvl ts x r h=>?_,fun lvl x0 ts x r h=>?_,fun ts x r h=>?_,fun ts x r h=>?_⟩
  .grind[pe]
  .rw[lp]at h
   grind
  .grind[pu]
  .cases ts with
   | nil=>grind[pp]
   | cons t ts=>
    grind[pp]
structure OkA (A:List Tk):Prop where
 len:A.length<=4096
 num:∀ t∈A,t.kind=2->Lib.parseIntB 64 t.text=.ok (J1 t.text)/\t.text.length<=4096
def PR(A:List Tk)(o:Option (Xp × List Tk))(v:V)(p':Nat):Prop:=match o with
 | some (x,r)=>v=.tup [.agg x.row,.bool true]/\A.drop p'=r
 | none=>v=.tup [.agg zX,.bool false]
def PE(n:Nat):Prop:=∀ (lvl:Nat) (s:St) (m:Nat) (z:Bool) (t:Nat) (A:List Tk) (p:Nat),OkA A->s[m]?=some (RO z t A p)->p<=A.length->1<=lvl->lvl<=6->8*(A.length - p)+7<=n+lvl ->
 RT 222 [iV (lvl:Int)] s m z t A (PR A (pe n lvl (A.drop p)))
def PU(n:Nat):Prop:=∀ (s:St) (m:Nat) (z:Bool) (t:Nat) (A:List Tk) (p:Nat),OkA A->s[m]?=some (RO z t A p)->p<=A.length->8*(A.length - p)<=n->RT 234 [] s m z t A (PR A (pu n (A.drop p)))
def PP(n:Nat):Prop:=∀ (s:St) (m:Nat) (z:Bool) (t:Nat) (A:List Tk) (p:Nat),OkA A->s[m]?=some (RO z t A p)->p<=A.length->8*(A.length - p)<=n+1->RT 240 [] s m z t A (PR A (pp n (A.drop p)))
def Cx{cs:List V}{b:Bool}(h:Da (.agg cs)=true):Ci (.tup [.agg cs,.bool b])=true/\(V.tup [.agg cs,.bool b]).refs=[]:=by
 have h1:=Aaq h;have h2:=Xc h;have jh:cs.all V.cellB=true:=h1;have ji:Ag cs=[]:=h2;refine⟨?_,?_⟩
 .show((cs.all V.cellB)&&_)=true;rw[jh];rfl
 .show Ag cs++_=[];rw[ji];rfl
def Vc{n:Nat}(h:PE n){s:St}{m:Nat}{z:Bool}{t:Nat}{A:List Tk}{p:Nat}(hA:OkA A)(hs:s[m]?=some (RO z t A p))(hp:p<=A.length)(hb:8*(A.length - p)+6<=n):RT 196 [] s m z t A (PR A (pe n 1 (A.drop p))):=by
 refine Mn T196 rfl hs fun S hS=>?_
 obtain⟨v,q,h1,h2,h3⟩:=Ql hS (l:=[zY]) fun hs=>h 1 _ m z t A p hA hs hp AA AA AA
 have hm:=hS.low;have Zq:=Dn hS;obtain⟨-,-,qd,get,get0,set,set0,n0,n1,n2,u0,u1,u2⟩:=hS;rw[Int.natCast_one]at h1;simp only[go_sem,Zq,LZ];unfold PR at h3 ⊢
 split at h3
 .rename_i x r ho;obtain⟨rfl,h3⟩:=h3;have hx:=Dw x;have hr:=Bi x;rw[hr]at h1 hx ⊢;refine Aa h1 ?_;simp only[go_sem,Zq,LZ];exact Ch (v:=.tup [.agg _,.bool true]) (Cj (n0 _ _ _) rfl rfl rfl) (Cx hx) h2 ⟨rfl,h3⟩
 .subst h3;refine Aa h1 ?_;simp only[go_sem,Zq,LZ];exact Ch (v:=.tup [.agg _,.bool false]) (Cj (n0 _ _ _) rfl rfl rfl) (Cx rfl) h2 rfl
def Ahz{s:St}{m:Nat}{z:Bool}{t:Nat}{A:List Tk}{S:Nat->St}(hS:RdS s m z t A S){p:Nat}(l:St)(hl:A.length<=1000000)(hp:p<=A.length){w:List UInt8}{r:List Tk}(h:C6 (A.drop p)=some (w,r)):Bw TT PT 97 [.ptr m 0 0] (S p++l) (.tup [.str w,.bool true]) (S (p+1)++l)/\p<A.length/\A.drop (p+1)=r:=by
 obtain⟨h1,h2⟩:=(Yr (hS.get p l) hl hp).1 w r h;rw[show(S p++l).set m (RO z t A (p+1))=S (p+1)++l from hS.set p (p+1) l]at h1
 grind
def Acj{s:St}{m:Nat}{z:Bool}{t:Nat}{A:List Tk}{S:Nat->St}(hS:RdS s m z t A S){p:Nat}(l:St)(hl:A.length<=1000000)(hp:p<=A.length)(h:C6 (A.drop p)=none):Bw TT PT 97 [.ptr m 0 0] (S p++l) (.tup [.str [],.bool false]) (S p++l):=(Yr (hS.get p l) hl hp).2 h
def Bqx{s:St}{m:Nat}{z:Bool}{t:Nat}{A:List Tk}{S:Nat->St}(hS:RdS s m z t A S){p:Nat}(l:St)(hA:OkA A)(hp:p<=A.length){w:Int}{r:List Tk}(h:Hb (A.drop p)=some (w,r)):Bw TT PT 138 [.ptr m 0 0] (S p++l) (.tup [iV w,.bool true]) (S (p+1)++l)/\p<A.length/\A.drop (p+1)=r:=by
 obtain⟨h1,h2⟩:=(Agv (hS.get p l) (by have:=hA.len;omega) hp hA.num).1 w r h;rw[show(S p++l).set m (RO z t A (p+1))=S (p+1)++l from hS.set p (p+1) l]at h1
 grind
def A01{s:St}{m:Nat}{z:Bool}{t:Nat}{A:List Tk}{S:Nat->St}(hS:RdS s m z t A S){p:Nat}(l:St)(hA:OkA A)(hp:p<=A.length)(h:Hb (A.drop p)=none):Bw TT PT 138 [.ptr m 0 0] (S p++l) (.tup [iV 0,.bool false]) (S p++l):=(Agv (hS.get p l) (by have:=hA.len;omega) hp hA.num).2 h
theorem Bgg{n:Nat}(hE:∀ k,k<n->PE k):PP n:=by
 intro s m z t A p hA hs hp hb;refine Mn T240 rfl hs fun S hS=>?_
 have hl:A.length<=1000000:=by have:=hA.len;omega
 have qa:=hS;have hm:=hS.low;have Zq:=Dn hS;obtain⟨-,-,qd,get,get0,set,set0,n0,n1,n2,u0,u1,u2⟩:=hS;rcases Bh p A.length with qk | jn
 .obtain⟨k,rfl⟩:∃ k,n=k+1:=⟨n - 1,by omega⟩;have hd:=Nf qk;by_cases h2:(Ae A p).kind=2
  .have hq:Hb (A.drop p)=some (J1 (Ae A p).text,A.drop (p+1)):=by rw[hd];simp only[Hb];rw[if_pos h2]
   obtain⟨c1,-,-⟩:=Bqx qa [zY] hA hp hq;have ho:pp (k+1) (A.drop p)=some (⟨1,J1 (Ae A p).text,[],true,0,[]⟩,A.drop (p+1)):=by rw[hd,pp,if_pos h2]
   rw[ho];simp only[go_sem,Zq,LZ];refine Aa c1 ?_;simp only[go_sem,Zq,LZ];exact Ch (v:=.tup [.agg _,.bool true]) (Cj (n0 _ _ _) rfl rfl rfl) (Cx rfl) qk ⟨rfl,rfl⟩
  .have hq:Hb (A.drop p)=none:=by rw[hd];simp only[Hb];rw[if_neg h2]
   have c1:=A01 qa [zY] hA hp hq;by_cases h1:(Ae A p).kind=1
   .have hn:C6 (A.drop p)=some ((Ae A p).text,A.drop (p+1)):=by rw[hd];simp only[C6];rw[if_pos h1]
    obtain⟨c2,-,-⟩:=Ahz qa [zY] hl hp hn;by_cases qr:As [91] (A.drop (p+1))=true
    .have c3:=Me qa [zY] hl qr;have qx:=Ec qr;obtain⟨v,q,c4,qb,h3⟩:=Ql qa (l:=[zY]) fun hs=>Vc (hE k AA) (p:=p+1+1) hA hs AA AA
     have ho:pp (k+1) (A.drop p)=match pe k 1 (A.drop (p+1+1)) with
       | none=>none
       | some (x,r)=>if As [93] r then some (⟨3,0,(Ae A p).text,true,1,[x]⟩,r.tail) else none:=by
      rw[hd,pp,if_neg h2,if_pos h1,if_pos qr,<-Eh];rfl
     rw[ho];simp only[go_sem,Zq,LZ];refine Aa c1 ?_;simp only[go_sem,Zq,LZ];refine Aa c2 ?_;simp only[go_sem,Zq,LZ];refine Aa c3 ?_;simp only[go_sem,Zq,LZ];unfold PR at h3
     split at h3
     .rename_i x r hx;obtain⟨rfl,h3⟩:=h3;have qc:=Dw x;have hr:=Bi x;rw[hr]at c4 qc;rw[hx];simp only;refine Aa c4 ?_;by_cases qe:As [93] r=true
      .rw[<-h3]at qe;have c5:=Me qa [zY,xO x] hl qe;rw[<-h3,if_pos qe];simp only[go_sem,Zq,LZ];refine Aa c5 ?_;simp only[go_sem,Zq,LZ];exact Ch (v:=.tup [.agg _,.bool true]) (Cj (n0 _ _ _) rfl rfl rfl) (Cx AB) (Ec qe) ⟨by rw[Bi ⟨3,0,_,_,_,_⟩];simp only[Aw,B0,hr];rfl,Eh⟩
      .have qe:As [93] (A.drop q)=false:=by rw[h3];simpa using qe
       have c5:=K2 qa [zY,xO x] hl qb qe;rw[<-h3,if_neg (by grind)];simp only[go_sem,Zq,LZ];refine Aa c5 ?_;simp only[go_sem,Zq,LZ];exact Ch (v:=.tup [.agg _,.bool false]) (Cj (n0 _ _ _) rfl rfl rfl) (Cx rfl) qb rfl
     .rename_i hx;subst h3;rw[hx];simp only;refine Aa c4 ?_;simp only[go_sem,Zq,LZ];exact Ch (v:=.tup [.agg _,.bool false]) (Cj (n0 _ _ _) rfl rfl rfl) (Cx rfl) qb rfl
    .have qr:As [91] (A.drop (p+1))=false:=by simpa using qr
     have c3:=K2 qa [zY] hl (Ip qk) qr;have ho:pp (k+1) (A.drop p)=some (⟨2,0,(Ae A p).text,true,0,[]⟩,A.drop (p+1)):=by rw[hd,pp,if_neg h2,if_pos h1,if_neg AA]
     rw[ho];simp only[go_sem,Zq,LZ];refine Aa c1 ?_;simp only[go_sem,Zq,LZ];refine Aa c2 ?_;simp only[go_sem,Zq,LZ];refine Aa c3 ?_;simp only[go_sem,Zq,LZ];exact Ch (v:=.tup [.agg _,.bool true]) (Cj (n0 _ _ _) rfl rfl rfl) (Cx rfl) qk ⟨rfl,rfl⟩
   .have hn:C6 (A.drop p)=none:=by rw[hd];simp only[C6];rw[if_neg h1]
    have c2:=Acj qa [zY] hl hp hn;by_cases qm:As [40] (A.drop p)=true
    .have c3:=Me qa [zY] hl qm;obtain⟨v,q,c4,qb,h3⟩:=Ql qa (l:=[zY]) fun hs=>Vc (hE k AA) (p:=p+1) hA hs AA AA
     have ho:pp (k+1) (A.drop p)=match pe k 1 (A.drop (p+1)) with
       | none=>none
       | some (x,r)=>if As [41] r then some (x,r.tail) else none:=by
      rw[hd]at qm ⊢;rw[pp,if_neg h2,if_neg h1,if_pos qm];rfl
     rw[ho];simp only[go_sem,Zq,LZ];refine Aa c1 ?_;simp only[go_sem,Zq,LZ];refine Aa c2 ?_;simp only[go_sem,Zq,LZ];refine Aa c3 ?_;simp only[go_sem,Zq,LZ];unfold PR at h3
     split at h3
     .rename_i x r hx;obtain⟨rfl,h3⟩:=h3;have qc:=Dw x;have hr:=Bi x;rw[hr]at c4 qc;rw[hx];simp only;refine Aa c4 ?_;by_cases qe:As [41] r=true
      .rw[<-h3]at qe;have c5:=Me qa [zY,xO x] hl qe;rw[<-h3,if_pos qe];simp only[go_sem,Zq,LZ];refine Aa c5 ?_;simp only[go_sem,Zq,LZ];exact Ch (v:=.tup [.agg _,.bool true]) (Cj (n0 _ _ _) rfl rfl rfl) (Cx qc) (Ec qe) ⟨by rw[hr],Eh⟩
      .have qe:As [41] (A.drop q)=false:=by rw[h3];simpa using qe
       have c5:=K2 qa [zY,xO x] hl qb qe;rw[<-h3,if_neg (by grind)];simp only[go_sem,Zq,LZ];refine Aa c5 ?_;simp only[go_sem,Zq,LZ];exact Ch (v:=.tup [.agg _,.bool false]) (Cj (n0 _ _ _) rfl rfl rfl) (Cx rfl) qb rfl
     .rename_i hx;subst h3;rw[hx];simp only;refine Aa c4 ?_;simp only[go_sem,Zq,LZ];exact Ch (v:=.tup [.agg _,.bool false]) (Cj (n0 _ _ _) rfl rfl rfl) (Cx rfl) qb rfl
    .have qm:As [40] (A.drop p)=false:=by simpa using qm
     have c3:=K2 qa [zY] hl hp qm
     have ho:pp (k+1) (A.drop p)=none:=by
      rw[hd]at qm ⊢;rw[pp,if_neg h2,if_neg h1,if_neg (by grind)]
     rw[ho];simp only[go_sem,Zq,LZ];refine Aa c1 ?_;simp only[go_sem,Zq,LZ];refine Aa c2 ?_;simp only[go_sem,Zq,LZ];refine Aa c3 ?_;simp only[go_sem,Zq,LZ];exact Ch (v:=.tup [.agg _,.bool false]) (Cj (n0 _ _ _) rfl rfl rfl) (Cx rfl) hp rfl
 .have hd:=(Lv jn).1
  have ho:pp n (A.drop p)=none:=by
   rw[hd]
   cases n<;>simp[pp]
  rw[ho];have c1:=A01 qa [zY] hA hp (by rw[hd];rfl);have c2:=Acj qa [zY] hl hp (by rw[hd];rfl);have c3:=K2 qa [zY] hl hp (w:=[40]) (by rw[hd];rfl);simp only[go_sem,Zq,LZ];refine Aa c1 ?_;simp only[go_sem,Zq,LZ];refine Aa c2 ?_;simp only[go_sem,Zq,LZ];refine Aa c3 ?_;simp only[go_sem,Zq,LZ];exact Ch (v:=.tup [.agg _,.bool false]) (Cj (n0 _ _ _) rfl rfl rfl) (Cx rfl) hp rfl
theorem Bgh{n:Nat}(hU:∀ k,k<n->PU k)(hP:∀ k,k<=n->PP k):PU n:=by
 intro s m z t A p hA hs hp hb;refine Mn T234 rfl hs fun S hS=>?_
 have hl:A.length<=1000000:=by have:=hA.len;omega
 have qa:=hS;have hm:=hS.low;have Zq:=Dn hS;obtain⟨-,-,qd,get,get0,set,set0,n0,n1,n2,u0,u1,u2⟩:=hS
 have prim:∀ k,8*(A.length - p)<=k+1->k<=n->As [45] (A.drop p)=false->As [33] (A.drop p)=false->pu n (A.drop p)=pp k (A.drop p)->W TT PT [.c b234.body] (C4 0 [.ptr m 0 0]) (S p) (Hd fun e' σ1=>∃ v p' l,Cd e' σ1 [.cell 2 4 false,.tmp 3]=some v/\(Ci v=true/\v.refs=[])/\σ1=S p'++l/\p'<=A.length/\PR A (pu n (A.drop p)) v p'):=by
  intro k hk qH h4 h5 ho;have qE:=K2 qa [zY] hl hp h4;have jf:=K2 qa [zY] hl hp h5;obtain⟨v,q,c4,qb,h3⟩:=Ql qa (l:=[zY]) fun hs=>hP k qH _ m z t A p hA hs hp hk
  rw[ho];unfold b234 tX;simp only[go_sem,Zq,LZ];refine Aa qE ?_;simp only[go_sem,Zq,LZ];refine Aa jf ?_;simp only[go_sem,Zq,LZ];unfold PR at h3 ⊢
  split at h3
  .rename_i x r hx;obtain⟨rfl,h3⟩:=h3;have qc:=Dw x;have hr:=Bi x;rw[hr]at c4 qc;rw[hr];refine Aa c4 ?_;simp only[go_sem,Zq,LZ];exact Ch (v:=.tup [.agg _,.bool true]) (Cj (n0 _ _ _) rfl rfl rfl) (Cx qc) qb ⟨rfl,h3⟩
  .rename_i hx;subst h3;refine Aa c4 ?_;simp only[go_sem,Zq,LZ];exact Ch (v:=.tup [.agg _,.bool false]) (Cj (n0 _ _ _) rfl rfl rfl) (Cx rfl) qb rfl
 rcases n with _ | k
 .have hd:=(Lv (A:=A) (p:=p) AA).1;refine prim 0 AA (Aj _) (by rw[hd];rfl) (by rw[hd];rfl) ?_
  grind[pu,pp]
 .by_cases h4:As [45] (A.drop p)=true
  .have qk:=Ec h4;have cA:=Me qa [zY] hl h4;obtain⟨v,q,c4,qb,h3⟩:=Ql qa (l:=[zY]) fun hs=>hU k AA _ m z t A (p+1) hA hs AA AA
   have ho:pu (k+1) (A.drop p)=match pu k (A.drop (p+1)) with
     | none=>none
     | some (x,r)=>some (Pu 4 x,r):=by
    rw[pu,if_pos h4,<-Eh];rfl
   rw[ho];simp only[go_sem,Zq,LZ];refine Aa cA ?_;simp only[go_sem,Zq,LZ];unfold PR at h3
   split at h3
   .rename_i x r hx;obtain⟨rfl,h3⟩:=h3;have qc:=Dw x;have hr:=Bi x;rw[hr]at c4 qc;rw[hx];simp only;refine Aa c4 ?_;simp only[go_sem,Zq,LZ];exact Ch (v:=.tup [.agg _,.bool true]) (Cj (n0 _ _ _) rfl rfl rfl) (Cx AB) qb ⟨by unfold Pu;rw[Bi ⟨4,0,_,_,_,_⟩];simp only[Aw,B0,hr];rfl,h3⟩
   .rename_i hx;subst h3;rw[hx];simp only;refine Aa c4 ?_;simp only[go_sem,Zq,LZ];exact Ch (v:=.tup [.agg _,.bool false]) (Cj (n0 _ _ _) rfl rfl rfl) (Cx rfl) qb rfl
  .have h4:As [45] (A.drop p)=false:=by simpa using h4
   have qE:=K2 qa [zY] hl hp h4;by_cases h5:As [33] (A.drop p)=true
   .have qk:=Ec h5;have cA:=Me qa [zY] hl h5;obtain⟨v,q,c4,qb,h3⟩:=Ql qa (l:=[zY]) fun hs=>hU k AA _ m z t A (p+1) hA hs AA AA
    have ho:pu (k+1) (A.drop p)=match pu k (A.drop (p+1)) with
      | none=>none
      | some (x,r)=>some (Pu 5 x,r):=by
     rw[pu,if_neg AA,if_pos h5,<-Eh];rfl
    rw[ho];simp only[go_sem,Zq,LZ];refine Aa qE ?_;simp only[go_sem,Zq,LZ];refine Aa cA ?_;simp only[go_sem,Zq,LZ];unfold PR at h3
    split at h3
    .rename_i x r hx;obtain⟨rfl,h3⟩:=h3;have qc:=Dw x;have hr:=Bi x;rw[hr]at c4 qc;rw[hx];simp only;refine Aa c4 ?_;simp only[go_sem,Zq,LZ];exact Ch (v:=.tup [.agg _,.bool true]) (Cj (n0 _ _ _) rfl rfl rfl) (Cx AB) qb ⟨by unfold Pu;rw[Bi ⟨5,0,_,_,_,_⟩];simp only[Aw,B0,hr];rfl,h3⟩
    .rename_i hx;subst h3;rw[hx];simp only;refine Aa c4 ?_;simp only[go_sem,Zq,LZ];exact Ch (v:=.tup [.agg _,.bool false]) (Cj (n0 _ _ _) rfl rfl rfl) (Cx rfl) qb rfl
   .have h5:As [33] (A.drop p)=false:=by simpa using h5
    exact prim k hb AA h4 h5 (by simp_all [pu])
theorem Bgi{n:Nat}(hE:∀ k,k<n->PE k)(hU:∀ k,k<n->PU k):PE n:=by
 intro lvl s m z t A p hA hs hp h1 h6 hb;obtain⟨n,rfl⟩:∃ k,n=k+1:=⟨n - 1,by omega⟩;refine Mn T222 rfl hs fun S hS=>?_
 have hl:A.length<=1000000:=by have:=hA.len;omega
 have qa:=hS;have hm:=hS.low;have Zq:=Dn hS;obtain⟨-,-,qd,get,get0,set,set0,n0,n1,n2,u0,u1,u2⟩:=hS;by_cases h5:5<lvl
 .have f5:((5:Int)<(lvl:Int))=True:=eq_true AA;have ho:pe (n+1) lvl (A.drop p)=pu n (A.drop p):=by rw[pe,if_pos h5]
  obtain⟨v,q,c4,qb,h3⟩:=Ql qa (l:=[.row [iV 0,iV 0,.str [],.nils] 96 0 0]) fun hs=>hU n AA _ m z t A p hA hs hp AA
  rw[ho];simp only[go_sem,Zq,LZ,gt_iff_lt,f5];unfold PR at h3 ⊢
  split at h3
  .rename_i x r hx;obtain⟨rfl,h3⟩:=h3;have qc:=Dw x;have hr:=Bi x;rw[hr]at c4 qc;rw[hr];refine Aa c4 ?_;simp only[go_sem,Zq,LZ];exact Ch (v:=.tup [.agg _,.bool true]) (Cj (n0 _ _ _) rfl rfl rfl) (Cx qc) qb ⟨rfl,h3⟩
  .rename_i hx;subst h3;refine Aa c4 ?_;simp only[go_sem,Zq,LZ];exact Ch (v:=.tup [.agg _,.bool false]) (Cj (n0 _ _ _) rfl rfl rfl) (Cx rfl) qb rfl
 .have f5:((5:Int)<(lvl:Int))=False:=eq_false AA;have qw:=A2 (show lvl<9223372036854775807 by omega);obtain⟨v,q,c4,qb,h3⟩:=Ql qa (l:=[.row [iV 0,iV 0,.str [],.nils] 96 0 0]) fun hs=>hE n AA (lvl+1) _ m z t A p hA hs hp AA AA AA
  have ho:pe (n+1) lvl (A.drop p)=match pe n (lvl+1) (A.drop p) with
    | none=>none
    | some (x,r)=>lp n lvl x r:=by
   rw[pe,if_neg h5];rfl
  rw[ho];simp only[go_sem,Zq,LZ,gt_iff_lt,f5,qw];unfold PR at h3
  split at h3
  rotate_left
  .rename_i hx;subst h3;rw[hx];simp only;refine Aa c4 ?_;simp only[go_sem,Zq,LZ];exact Ch (v:=.tup [.agg _,.bool false]) (Cj (n0 _ _ _) rfl rfl rfl) (Cx rfl) qb rfl
  .rename_i x r hx;obtain⟨rfl,h3⟩:=h3;have qc:=Dw x;have hr:=Bi x;rw[hr]at c4 qc;rw[hx];simp only;have qk:=(Ys n).1 _ _ _ _ hx;rw[Gz]at qk;have qN:r.length=A.length - q:=by rw[<-h3,Gz]
   refine Aa c4 ?_;simp only[go_sem,Zq,LZ];refine Bk (α:=Nat × Nat × Xp × St) (fun a=>a.1) (fun a=>[(0,.ptr m 0 0),(1,iV (lvl:Int)),(4,.ptr s.length 0 0),(6,.ptr (s.length+1) 0 0)]) (fun a=>S a.2.1++.row [iV 0,iV 0,.str [],.nils] 96 0 0::.row [iV a.2.2.1.op,iV a.2.2.1.n,.str a.2.2.1.nm,SL a.2.2.1.z a.2.2.1.t (a.2.2.1.l.map Xp.row)] 96 0 0::a.2.2.2) (fun a=>a.1<=n/\a.2.1<=A.length/\lp a.1 lvl a.2.2.1 (A.drop a.2.1)=lp n lvl x r/\8*(A.length - a.2.1)+6<=a.1+lvl) ?_ (n,q,x,[]) ⟨Aj _,qb,by rw[h3],by grind⟩;rintro⟨k,q,x,J⟩ ⟨qH,hq,qK,jj⟩ ih;simp only at qH hq qK jj ih;refine Bd Bkb ?_;rw[<-qK];obtain⟨k,rfl⟩:∃ j,k=j+1:=⟨k - 1,by omega⟩;have qc:=Dw x;have hr:=Bi x;rw[hr]at qc;obtain⟨X,hX⟩:∃ X:List V,X=[iV x.op,iV x.n,.str x.nm,SL x.z x.t (x.l.map Xp.row)]:=⟨_,rfl⟩;have co:=Bgc (get q (.row [iV 0,iV 0,.str [],.nils] 96 0 0::.row [iV x.op,iV x.n,.str x.nm,SL x.z x.t (x.l.map Xp.row)] 96 0 0::J)) hl hq lvl
   have nJ:∀ (q:Nat) (a b c:Ob),(S q++a::b::(J++[c]))[s.length+(J.length+1+1)]?=some c:=fun q a b c=>by
    rw[F6 (by grind),qd,show s.length+(J.length+1+1) - s.length=J.length+1+1 by omega,Q5,Q5,F6 (Aj _),Is];rfl
   have uJ:∀ (q:Nat) (a b c d:Ob),(S q++a::b::(J++[c])).set (s.length+(J.length+1+1)) d=S q++a::b::(J++[d]):=fun q a b c d=>by
    rw[Aic _ _ (by grind),qd,show s.length+(J.length+1+1) - s.length=J.length+1+1 by omega,List.set_cons_succ,List.set_cons_succ,Aic _ _ (Aj _),Is];rfl
   by_cases h0:H8 lvl (A.drop q)=0
   .have ho:lp (k+1) lvl x (A.drop q)=some (x,A.drop q):=by rw[lp,if_pos h0]
    rw[h0]at co;rw[ho];simp only[go_sem,Zq,LZ];refine Aa co ?_;simp only[go_sem,Zq,LZ,Int.reduceBEq];exact Ch (v:=.tup [.agg _,.bool true]) (Cj (n0 _ _ _) rfl rfl rfl) (Cx qc) hq ⟨by rw[hr],rfl⟩
   .have qM:q<A.length:=by
     rcases Bh q A.length with h | h
     .exact h
     .rw[(Lv h).1]at h0;exact absurd rfl h0
    have b0:(H8 lvl (A.drop q)==0)=false:=by simp[h0]
    have qG:=A2 (show q<9223372036854775807 by omega);obtain⟨v,q2,c4,qb,h3⟩:=Ql qa (p:=q+1) (l:=.row [iV 0,iV 0,.str [],.nils] 96 0 0::.row [iV x.op,iV x.n,.str x.nm,SL x.z x.t (x.l.map Xp.row)] 96 0 0::J) fun hs=>hE k AA (lvl+1) _ m z t A (q+1) hA hs qM AA AA AA
    have ho:lp (k+1) lvl x (A.drop q)=match pe k (lvl+1) (A.drop (q+1)) with
      | none=>none
      | some (y,r)=>if lvl=3 then some (J3 (H8 lvl (A.drop q)) x y,r) else lp k lvl (J3 (H8 lvl (A.drop q)) x y) r:=by
     rw[lp,if_neg h0,<-Eh];rfl
    generalize H8 lvl (A.drop q)=op at co b0 ho;simp only[go_sem,Zq,LZ];refine Aa co ?_;simp only[go_sem,Zq,LZ,b0,qG,qw];unfold PR at h3
    split at h3
    .rename_i y r2 hy;obtain⟨rfl,h3⟩:=h3;have jz:=Dw y;have qP:=Bi y;rw[qP]at c4 jz;rw[hy]at ho;simp only at ho;have qx:=(Ys k).1 _ _ _ _ hy;rw[Gz]at qx;have jw:r2.length=A.length - q2:=by rw[<-h3,Gz]
     refine Aa c4 ?_
     have qT:Xp.row (J3 op x y)=[iV op,iV 0,.str [],.lst 1 [[iV x.op,iV x.n,.str x.nm,SL x.z x.t (x.l.map Xp.row)],[iV y.op,iV y.n,.str y.nm,SL y.z y.t (y.l.map Xp.row)]]]:=by
      unfold J3;rw[Bi ⟨op,0,_,_,_,_⟩];simp only[Aw,B0,hr,qP];rfl
     have qU:=Dw (J3 op x y);rw[qT]at qU;by_cases qI:lvl=3
     .have b3:((lvl:Int)==3)=true:=by rw[qI];rfl
      rw[if_pos qI]at ho;rw[ho];simp only[go_sem,Zq,LZ,nJ,uJ,b3];exact Ch (v:=.tup [.agg _,.bool true]) (Cj (n0 _ _ _) rfl rfl rfl) (Cx qU) qb ⟨by rw[qT],h3⟩
     .have b3:((lvl:Int)==3)=false:=by rw[beq_eq_false_iff_ne];omega
      rw[if_neg qI]at ho;rw[ho];simp only[go_sem,Zq,LZ,nJ,uJ,b3];have:=ih (k,q2,J3 op x y,J++[.row [iV y.op,iV y.n,.str y.nm,SL y.z y.t (y.l.map Xp.row)] 96 0 0]) AE ⟨by omega,qb,by grind,by grind⟩;have e:lp k lvl (J3 op x y) r2=_:=ho.symm.trans qK;rw[e];simp only[J3,Aw,B0,hr,qP]at this;exact this
    .rename_i hy;subst h3;rw[hy]at ho;simp only at ho;rw[ho];refine Aa c4 ?_;simp only[go_sem,Zq,LZ,nJ,uJ];exact Ch (v:=.tup [.agg _,.bool false]) (Cj (n0 _ _ _) rfl rfl rfl) (Cx rfl) qb rfl
def Z2:∀ n,PE n/\PU n:=by
 intro n
 induction n using Nat.strongRecOn with
 | ind n ih=>
  grind[Bgi,Bgh,Bgg]
theorem Aaj:∀ (n:Nat) (ln:Int) (l:List UInt8) (ts:List Tk),C0 n ln l=some ts->∀ t∈ts,t.kind=2->Lib.parseIntB 64 t.text=.ok (J1 t.text)/\t.text.length<=l.length
 | n,ln,[],ts,h=>by
  grind[C0]
 | 0,ln,c::r,ts,h=>by cases h
 | n+1,ln,c::r,ts,h=>by
  rw[C0]at h
  have up:∀ {l':List UInt8} {ts':List Tk},l'.length<=(c::r).length->(∀ t∈ts',t.kind=2->Lib.parseIntB 64 t.text=.ok (J1 t.text)/\t.text.length<=l'.length)->∀ t∈ts',t.kind=2->Lib.parseIntB 64 t.text=.ok (J1 t.text)/\t.text.length<=(c::r).length:=
   fun hl h t ht hk=>⟨(h t ht hk).1,C8 (h t ht hk).2 hl⟩
  split at h
  .exact up AE (Aaj n _ _ _ h)
  .split at h
   .exact up AE (Aaj n _ _ _ h)
   .split at h
    .exact up (Aat _ _) (Aaj n _ _ _ h)
    .split at h
     .cases h
     .rename_i k w hf;simp only[Cf]at h;obtain⟨l,hl,rfl⟩:=h;intro t ht;rcases Bp.1 ht with rfl | ht
      .intro qY;simp only at qY;subst qY;obtain⟨-,q,hq⟩:=Zt hf;have jb:w.length<=(c::r).length:=by rw[hq];simp
       refine⟨?_,jb⟩;rw[Pz]at hf;simp only
       split at hf
       .grind
       .split at hf
        .rename_i hc
         split at hf
         .cases hf
         .split at hf
          .rename_i ja;cases hf
           have hd:K9 (Eo c r):=fun d hd=>by
            rcases Bp.1 hd with rfl | hd
            .exact hc
            grind[Agu]
           rw[Aj2 hd]at ja;have hv:=of_decide_eq_true ja
           grind[Ak1,A13,Eo]
          grind
        grind
      .exact up (by grind) (Aaj n _ _ _ hl) t ht
def Ba9{s:List UInt8}{L:List Tk}(hs:s.length<=4096)(h:C0 s.length 1 s=some L):OkA L:=
 ⟨C8 (Xq _ _ _ _ h) hs,fun t ht hk=>by
  grind[Aaj]⟩
def Bgj{s:St}{m:Nat}{z:Bool}{t:Nat}{A:List Tk}{p:Nat}(hs:s[m]?=some (RO z t A p))(hA:A.length<=1000000)(hp:p<=A.length):∃ n:Int,Bw TT PT 30 [.ptr m 0 0] s (iV n) s:=by
 suffices h:RT 30 [] s m z t A (fun v p'=>(∃ n:Int,v=iV n)/\p'=p) by
  obtain⟨v,p',h1,-,⟨n,rfl⟩,rfl⟩:=h
  grind[O8]
 refine Mn T30 rfl hs fun S hS=>?_
 have Zq:=Dn hS;obtain⟨-,-,qd,get,get0,set,set0,n0,n1,n2,u0,u1,u2⟩:=hS;by_cases h0:A.length=0
 .have b0:((A.length:Int)==0)=true:=by rw[h0];rfl
  simp only[go_sem,Zq,LZ,Qm,b0];exact Aa4 rfl ⟨rfl,rfl⟩ hp ⟨⟨_,rfl⟩,rfl⟩
 .have b0:((A.length:Int)==0)=false:=by rw[beq_eq_false_iff_ne];omega
  by_cases h1:A.length<=p
  .have f1:((A.length:Int)<=(p:Int))=True:=eq_true AA;have e1:IntKind.i64.wrap ((A.length:Int) - 1)=((A.length - 1:Nat):Int):=by rw[Cm AA];omega
   obtain⟨x,hx⟩:∃ x,A[A.length - 1]?=some x:=⟨_,B9 AA⟩;have qO:=Al4 hx;simp only[go_sem,Zq,LZ,Qm,b0,ge_iff_le,f1,e1,qO];exact Aa4 rfl ⟨rfl,rfl⟩ hp ⟨⟨_,rfl⟩,rfl⟩
  .have f1:((A.length:Int)<=(p:Int))=False:=eq_false AA;obtain⟨x,hx⟩:∃ x,A[p]?=some x:=⟨_,B9 AA⟩;have qO:=Al4 hx;simp only[go_sem,Zq,LZ,Qm,b0,ge_iff_le,f1];refine Af AD ?_;simp only[go_sem,Zq,LZ,Qm,qO];exact Aa4 rfl ⟨rfl,rfl⟩ hp ⟨⟨_,rfl⟩,rfl⟩
/-! SameExpr -/
/-! the maker -/
