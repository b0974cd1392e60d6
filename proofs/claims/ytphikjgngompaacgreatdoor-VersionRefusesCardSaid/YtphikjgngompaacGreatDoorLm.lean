/- Walks: the scanner. -/
import Derived.Test.YtphikjgngompaacGreatDoorGa
set_option linter.all false
namespace Go.Proofs.YtphikjgngompaacGreatDoor.KM
open Go
def Bbg(l:List UInt8)(c:UInt8):decide (0<=Lib.indexByte l c)=l.elem c:=by
 induction l with
 | nil=>rfl
 | cons b l ih=>
  have hg:=Lib.indexByte_ge l c;rw[Lib.indexByte,List.elem_cons]
  grind
def Auj:∀ l:List UInt8,(Lib.indexByte l 10 = -1/\(l.takeWhile (· != 10)).length=l.length)\/Lib.indexByte l 10=((l.takeWhile (· != 10)).length:Int)
 | []=>.inl ⟨rfl,rfl⟩
 | b::l=>by
  have ih:=Auj l;rw[Lib.indexByte,Abq]
  grind
def Ajr(p:UInt8->Bool):∀ l:List UInt8,l.drop (l.takeWhile p).length=l.dropWhile p
 | []=>rfl
 | c::l=>by
  rw[Abq,Abp];cases p c
  .rfl
  .simp only[if_true,Be,List.drop_succ_cons];exact Ajr p l
def Awm:∀ a b:List UInt8,(!(Op.bytesLess a b||a==b))=Op.bytesLess b a
 | [],[]=>rfl
 | [],b::y=>by simp[Op.bytesLess]
 | a::x,[]=>by simp[Op.bytesLess]
 | a::x,b::y=>by
  have ih:=Awm x y;simp only[Op.bytesLess,List.cons_beq_cons,<-ih];by_cases h:a=b
  .grind
  grind
def A1u(l:List UInt8)(hl:l.length<=4096):Fn TT PT 60 [.str l] (iV ((l.takeWhile (· != 10)).length:Int)):=by
 refine Bg T60 rfl ?_;have hg:=Lib.indexByte_ge l 10;have ht:=Aaq (p:=(· != 10)) l;have q:Ta [.str l,.int .u8 10]=some (iV (Lib.indexByte l 10)):=rfl;rcases Auj l with⟨h1,h2⟩ | h1
 .rw[h1]at q;rw[h2];simp only[go_sem];refine Fu P97 AB q ?_;simp only[go_sem,ge_iff_le];exact Ae rfl rfl
 .rw[h1]at q;generalize(l.takeWhile (· != 10)).length=n at q;have f1:((0:Int)<=(n:Int))=True:=eq_true AA;simp only[go_sem];refine Fu P97 AB q ?_;simp only[go_sem,ge_iff_le,f1];exact Ae rfl rfl
def A6t(c:UInt8)(r:List UInt8)(hl:(c::r).length<=4096):Fn TT PT 102 [.str (c::r)] (iV (Lq (c::r):Int)):=by
 have q:Ta [.str oneS,.int .u8 (c.toNat:Int)]=some (iV (Lib.indexByte oneS c)):=by
  simp only[Ta,Mv,Nat.toUInt8_eq,UInt8.ofNat_toNat]
 have qZ:=Bbg oneS c;have jg:∀ b:Bool,oneS.elem c=b->decide (0<=Lib.indexByte oneS c)=b:=fun b h=>qZ.trans h
 rw[Be]at hl;refine Bg T102 rfl ?_
 have qV:∀ b:Bool,oneS.elem c=b->(0<=Lib.indexByte oneS c)=(b=true):=fun b h=>by
  grind
 have i0:(c::r)[0]?=some c:=rfl;have hk:∀ b:Bool,oneS.elem c=b->((0<=Lib.indexByte oneS c)=(b=true)):=qV;unfold Lq;by_cases h2:2<=r.length+1
 .have g2:((2:Int)<=((r.length+1:Nat):Int))=True:=eq_true AA;have g3:(2<=r.length+1)=True:=eq_true h2;have d2:decide (2<=(c::r).length)=true:=by simp;omega
  rw[d2,Ab0];generalize hw:(c::r).take 2=w;by_cases a1:w=[124,124]
  .rw[a1]at hw ⊢;have e1:(([124,124]:List UInt8)==[124,124])=true:=by decide
   simp only[go_sem,ge_iff_le,g2,g3,hw,e1];exact Ae rfl rfl
  have e1:(w==[124,124])=false:=by simp[a1]
  by_cases a2:w=[38,38]
  .rw[a2]at hw ⊢;rw[a2]at e1;have e2:(([38,38]:List UInt8)==[38,38])=true:=by decide
   simp only[go_sem,ge_iff_le,g2,g3,hw,e1,e2];exact Ae rfl rfl
  have e2:(w==[38,38])=false:=by simp[a2]
  by_cases a3:w=[61,61]
  .rw[a3]at hw ⊢;rw[a3]at e1;rw[a3]at e2;have e3:(([61,61]:List UInt8)==[61,61])=true:=by decide
   simp only[go_sem,ge_iff_le,g2,g3,hw,e1,e2,e3];exact Ae rfl rfl
  have e3:(w==[61,61])=false:=by simp[a3]
  by_cases a4:w=[33,61]
  .rw[a4]at hw ⊢;rw[a4]at e1;rw[a4]at e2;rw[a4]at e3;have e4:(([33,61]:List UInt8)==[33,61])=true:=by decide
   simp only[go_sem,ge_iff_le,g2,g3,hw,e1,e2,e3,e4];exact Ae rfl rfl
  have e4:(w==[33,61])=false:=by simp[a4]
  by_cases a5:w=[60,61]
  .rw[a5]at hw ⊢;rw[a5]at e1;rw[a5]at e2;rw[a5]at e3;rw[a5]at e4;have e5:(([60,61]:List UInt8)==[60,61])=true:=by decide
   simp only[go_sem,ge_iff_le,g2,g3,hw,e1,e2,e3,e4,e5];exact Ae rfl rfl
  have e5:(w==[60,61])=false:=by simp[a5]
  by_cases a6:w=[62,61]
  .rw[a6]at hw ⊢;rw[a6]at e1;rw[a6]at e2;rw[a6]at e3;rw[a6]at e4;rw[a6]at e5;have e6:(([62,61]:List UInt8)==[62,61])=true:=by decide
   simp only[go_sem,ge_iff_le,g2,g3,hw,e1,e2,e3,e4,e5,e6];exact Ae rfl rfl
  have e6:(w==[62,61])=false:=by simp[a6]
  have en:twoS.elem w=false:=by simp[twoS,a1,a2,a3,a4,a5,a6]
  rw[en];cases hb:oneS.elem c
  all_goals
   have f:=hk _ hb;simp only[go_sem,ge_iff_le,g2,g3,hw,e1,e2,e3,e4,e5,e6,i0];refine Fu P97 AB q ?_;simp only[go_sem,ge_iff_le,f];exact Ae rfl (by grind)
 .have g2:((2:Int)<=((r.length+1:Nat):Int))=False:=eq_false AA;have d2:decide (2<=(c::r).length)=false:=decide_eq_false AA;rw[d2,Vn];cases hb:oneS.elem c
  all_goals
   have f:=hk _ hb;simp only[go_sem,ge_iff_le,g2,i0];refine Fu P97 AB q ?_;simp only[go_sem,ge_iff_le,f];exact Ae rfl (by grind)
def Bbh(c:UInt8)(r:List UInt8)(hc:F7 c=true)(hl:(c::r).length<=4096):Fn TT PT 101 [.str (c::r)] (if Uy (r.dropWhile F7) then .tup [.agg (Tk.row Tk.zero),iV 3] else if Q2 (Ez c r) then .tup [.agg (Tk.row ⟨2,Ez c r,0⟩),iV 0] else .tup [.agg (Tk.row Tk.zero),iV 3]):=by
 obtain⟨w1,w2,w3,w4⟩:=Aaq (p:=F7) r;have hd:=Ajr F7 r;have hW:(c::r).take (Ez c r).length=Ez c r:=by simp[Ez,w4]
 have qK:(Ez c r).length=(r.takeWhile F7).length+1:=by simp[Ez]
 rw[Be]at hl;generalize hn:(Ez c r).length=n at hW qK ⊢;refine Bg T101 rfl ?_;simp only[go_sem];refine Bb (α:=Nat) (fun i=>n - i) (fun i=>[(0,.str (c::r)),(2,.ptr 0 0 0),(4,iV (i:Int))]) (fun _=>[.row [iV 0,.str [],iV 0] 121 0 0]) (fun i=>1<=i/\i<=n) ?_ 1 ⟨by omega,by omega⟩;rintro i ⟨h1,h2⟩ ih;refine Ay Bf0 ?_;by_cases hi:i<n
 .obtain⟨x,x1,x2⟩:=w1 (i - 1) AA
  have x3:(c::r)[i]?=some x:=by
   obtain⟨j,rfl⟩:∃ j,i=j+1:=⟨i - 1,by omega⟩;simpa using x1
  have qd:=Aq (show i<r.length+1 by omega);have qr:=Aw (show i<9223372036854775807 by omega);simp only[go_sem,qd,nn,x3];refine Ab (Rv x) AB ?_;simp only[go_sem,x2,qr];exact Ai (ih (i+1) AA AA) rfl
 .obtain rfl:i=n:=by omega
  have gi:(i<=r.length+1)=True:=eq_true AA
  have qW:S4 (.str (c::r)) none (some (iV (i:Int)))=some (.str (Ez c r)):=by
   rw[Ayd _ _ (by grind),hW]
  have qG:Q2 (Ez c r)=!(decide (19<((Ez c r).dropWhile (·==48)).length)||(decide (((Ez c r).dropWhile (·==48)).length=19)&&Op.bytesLess greatS ((Ez c r).dropWhile (·==48)))):=rfl;have q:Xr [.str (Ez c r),.str [48]]=some (.str ((Ez c r).dropWhile (·==48))):=rfl;generalize(Ez c r).dropWhile (·==48)=d at qG q
  have qt:(i<r.length+1/\∃ x,(c::r)[i]?=some x/\F7 x=false/\Uy (r.dropWhile F7)=(Jp x||x==95))\/(r.length+1<=i/\Uy (r.dropWhile F7)=false):=by
   by_cases hb:i<r.length+1
   .obtain⟨x,x1,x2⟩:=w2 AA;have x3:(c::r)[i]?=some x:=by rw[qK];simpa using x1
    refine .inl ⟨hb,x,x3,x2,?_⟩;rw[<-hd,Ib (An.1 x1).1,(An.1 x1).2];rfl
   .refine .inr ⟨by omega,?_⟩;rw[<-hd,D4 AA];rfl
  have q:Xr [.str (Ez c r),.str [48]]=some (.str d):=q;have qy:(!(Op.bytesLess d [57,50,50,51,51,55,50,48,51,54,56,53,52,55,55,53,56,48,55]||d==[57,50,50,51,51,55,50,48,51,54,56,53,52,55,55,53,56,48,55]))=Op.bytesLess greatS d:=Awm d greatS
  have tail:∀ b:Bool,Q2 (Ez c r)=b->(b=true/\decide (19<(d.length:Int))=false/\(((d.length:Int)==19)=false\/(((d.length:Int)==19)=true/\Op.bytesLess greatS d=false)))\/(b=false/\(decide (19<(d.length:Int))=true\/(decide (19<(d.length:Int))=false/\((d.length:Int)==19)=true/\Op.bytesLess greatS d=true))):=fun b hb=>by
   grind
  rcases qt with⟨hb,x,x3,hD,hg⟩ | ⟨hb,hg⟩
  .have qd:=Aq hb;have qI:((x.toNat:Int)==95)=(x==95):=Ss x 95 AM;simp only[go_sem,qd,nn,x3];refine Ab (Rv x) AB ?_;simp only[go_sem,hD,qd,nn,x3];refine Ab (Pc x) AB ?_;rw[hg];cases hL:Jp x
   .cases h9:(x==95)
    .simp only[go_sem,nn,x3,qI,h9,gi,hW,As,true_and,if_true,C5];refine Fu P146 AB q ?_;rcases tail _ rfl with⟨hb,k1,k2 | ⟨k2,k3⟩⟩ | ⟨hb,k1 | ⟨k1,k2,k3⟩⟩
     all_goals rw[hb]
     .simp only[go_sem,gt_iff_lt,k1,k2,nn,gi,hW,As,true_and,if_true,C5];exact Hn AB rfl
     .simp only[go_sem,gt_iff_lt,k1,k2,qy,k3,nn,gi,hW,As,true_and,if_true,C5];exact Hn AB rfl
     .simp only[go_sem,gt_iff_lt,k1];exact Hn AB rfl
     .simp only[go_sem,gt_iff_lt,k1,k2,qy,k3];exact Hn AB rfl
    .simp only[go_sem,nn,x3,qI,h9];exact Hn AB rfl
   .simp only[go_sem];exact Hn AB rfl
  .rw[hg];simp only[go_sem,Bj hb,nn,gi,hW,As,true_and,if_true,C5];refine Fu P146 AB q ?_;rcases tail _ rfl with⟨hb,k1,k2 | ⟨k2,k3⟩⟩ | ⟨hb,k1 | ⟨k1,k2,k3⟩⟩
   all_goals rw[hb]
   .simp only[go_sem,gt_iff_lt,k1,k2,nn,gi,hW,As,true_and,if_true,C5];exact Hn AB rfl
   .simp only[go_sem,gt_iff_lt,k1,k2,qy,k3,nn,gi,hW,As,true_and,if_true,C5];exact Hn AB rfl
   .simp only[go_sem,gt_iff_lt,k1];exact Hn AB rfl
   .simp only[go_sem,gt_iff_lt,k1,k2,qy,k3];exact Hn AB rfl
def A6u(c:UInt8)(r:List UInt8)(hl:(c::r).length<=4096):∃ e:Int,e≠0/\Fn TT PT 61 [.str (c::r)] (match M8 (c::r) with
  | some (k,w)=>.tup [.agg (Tk.row ⟨k,w,0⟩),.int .i64 0]
  | none=>.tup [.agg (Tk.row Tk.zero),.int .i64 e]):=by
 have i0:(c::r)[0]?=some c:=rfl;have hT:TT 61=some af61:=by rfl
 cases hL:Jp c
 .cases hD:F7 c
  .have hs:=A6t c r hl;by_cases h0:Lq (c::r)=0
   .have hf:M8 (c::r)=none:=by rw[V1,if_neg (by grind),if_neg (by grind),if_pos h0]
    rw[hf];have e0:((Lq (c::r):Int)==0)=true:=by rw[h0];rfl
    refine⟨3,by decide,Bg T61 rfl ?_⟩;simp only[go_sem,i0];refine Ab (Pc c) AB ?_;simp only[go_sem,hL];refine Ab (Rv c) AB ?_;simp only[go_sem,hD];refine Ab hs AB ?_;simp only[go_sem,e0];exact Hn AB rfl
   .have hf:M8 (c::r)=some (4,(c::r).take (Lq (c::r))):=by rw[V1,if_neg (by grind),if_neg (by grind),if_neg h0]
    rw[hf];have qg:=(Aui h0).2;rw[Be]at qg;generalize Lq (c::r)=n at hs h0 qg ⊢;have e0:((n:Int)==0)=false:=by rw[beq_eq_false_iff_ne];omega
    have gi:(n<=r.length+1)=True:=eq_true qg;generalize hw:(c::r).take n=w;refine⟨3,by decide,Bg T61 rfl ?_⟩;simp only[go_sem,i0];refine Ab (Pc c) AB ?_;simp only[go_sem,hL];refine Ab (Rv c) AB ?_;simp only[go_sem,hD];refine Ab hs AB ?_;simp only[go_sem,e0,nn,gi,hw,As,true_and,if_true,C5];exact Hn AB rfl
  .have hs:=Bbh c r hD hl;have qX:Jp c≠true:=by rw[hL];decide
   refine⟨3,by decide,Bg T61 rfl ?_⟩
   have hf:M8 (c::r)=if Uy (r.dropWhile F7) then none else if Q2 (Ez c r) then some (2,Ez c r) else none:=by rw[V1,if_neg qX,if_pos hD]
   rw[hf]
   cases hg:Uy (r.dropWhile F7)<;>cases hk:Q2 (Ez c r)
   all_goals
    rw[hg]at hs;rw[hk]at hs;simp only[Hz,if_false,if_true,Tk.row,Tk.zero]at hs ⊢;simp only[go_sem,i0];refine Ab (Pc c) AB ?_;simp only[go_sem,hL];refine Ab (Rv c) AB ?_;simp only[go_sem,hD];refine Ab hs AB ?_;simp only[go_sem];exact Hn AB rfl
 .have hs:=Bbe c r hl;refine⟨2,by decide,Bg T61 rfl ?_⟩
  have hf:M8 (c::r)=if 12<(Fa c r).length then none else some (if Hw (Fa c r) then 3 else 1,Fa c r):=by rw[V1,if_pos hL]
  rw[hf];by_cases qJ:12<(Fa c r).length
  .rw[if_pos qJ]at hs ⊢;simp only[Tk.row,Tk.zero]at hs ⊢;simp only[go_sem,i0];refine Ab (Pc c) AB ?_;simp only[go_sem,hL];refine Ab hs AB ?_;simp only[go_sem];exact Hn AB rfl
  .rw[if_neg qJ]at hs ⊢;simp only[Tk.row]at hs ⊢;generalize(if Hw (Fa c r)=true then(3:Int) else 1)=k at hs ⊢;simp only[go_sem,i0];refine Ab (Pc c) AB ?_;simp only[go_sem,hL];refine Ab hs AB ?_;simp only[go_sem];exact Hn AB rfl
/-! the whole text -/
def Alx{f p:Nat}{res:List AR}{body:AC}{vs:List V}{R:V->Prop}(hT:TT f=some ⟨p,res,false,body,none⟩)(hl:vs.length=p)(h:W TT PT [.c body] (C7 0 vs) [] (Hd fun e' σ1=>∃ v,FQ res v e' σ1/\R v)):∃ v,Fn TT PT f vs v/\R v:=by
 obtain⟨e',σ',hE,v,hq,hR⟩:=h;exact⟨v,Bg hT hl ⟨e',σ',hE,hq⟩,hR⟩
def Bgs{σ:St}{m e i g:Nat}{xs:List (List V)}{w y:Int}(ho:σ[i]?=some (.row xs.flatten e g 0))(hm:0<m)(hl:∀ r∈xs,r.length=m)(hr:∀ r∈xs,r.all V.rowB=true):
  FR (.tup [.sl i g 0 xs.length m true,iV w,iV y]) σ (.tup [.lst 0 xs,iV w,iV y]):=by
 obtain⟨hi,ju⟩:=An.1 ho;have hx:Ah xs.flatten=[]:=F0 (Hk hr);have h0:ren 0 [i] i=0:=by simp[ren,X1]
 refine .inr ⟨[i],?_,?_⟩
 .simp only[Hj,Cd,Ga,V.refs,Ah,B5,Dc,V.cellB,Bz]
  grind[Ej,Ob.refs]
 .simp only[Nv,ho,Rg,Bh,B0,Ob.ren,M6 i _ (Hk hr),V.ren,Fw,h0,Eg,Iw];have ha:OV [Ob.row xs.flatten e g 0] (V.sl 0 g 0 xs.length m true) (.lst 0 xs):=N8 (Ps (i:=0) (g:=g) (e:=e) (z:=0) (w:=true) rfl hm hl hr) rfl;have qS:∀ n:Int,OV [Ob.row xs.flatten e g 0] (iV n) (iV n):=fun n=>Ig rfl
  exact congrArg (Option.map V.tup) (R4 (.cons ha (.cons (qS w) (.cons (qS y) .nil))) fun j hj=>Mh _ _ _ _ (O9.2 hj))
def Bgt{σ:St}{m e lo:Nat}{u:V}{w y:Int}{xs:List (List V)}(h:GW σ m e lo u xs)(hm:0<m)(hl:∀ r∈xs,r.length=m)(hr:∀ r∈xs,r.all V.rowB=true):
  FR (.tup [u,iV w,iV y]) σ (.tup [SL true 0 xs,iV w,iV y]):=by
 rcases h with⟨rfl,rfl⟩ | ⟨hn,i,g,rfl,ho,js⟩
 .exact Fq rfl
 .rw[Sm hn];exact Bgs ho hm hl hr
def Bgu(c:UInt8)(r:List UInt8):Lib.hasPrefix (c::r) [47,47]=decide (c=47/\r.head?=some 47):=by
 unfold Lib.hasPrefix
 cases r with
 | nil=>grind
 | cons d r=>
  grind
def Aly(s:List UInt8)(v:V):Prop:=match (if 4096<s.length then none else Er s.length 1 s) with
 | some L=>v=.tup [SL true 0 (L.map Tk.row),.int .i64 0,.int .i64 0]
 | none=>∃ e ln:Int,e≠0/\v=.tup [.nils,.int .i64 e,.int .i64 ln]
def Bgv(t:Tk):t.row.length=3:=rfl
def Bgw(t:Tk):t.row.all V.rowB=true:=rfl
def Bbi(s:List UInt8):∃ v,Fn TT PT 32 [.str s] v/\Aly s v:=by
 refine Alx T32 rfl ?_;unfold Aly;by_cases qs:4096<s.length
 .have f1:((4096:Int)<(s.length:Int))=True:=eq_true AA;rw[if_pos qs];simp only[go_sem,gt_iff_lt,f1];exact⟨_,Fq AH,2,0,by decide,rfl⟩
 .have f1:((4096:Int)<(s.length:Int))=False:=eq_false AA;rw[if_neg qs];simp only[go_sem,gt_iff_lt,f1];refine Bb (α:=Nat × Nat × V × List Tk × St) (fun a=>s.length - a.1) (fun a=>[(0,.str s),(5,a.2.2.1),(6,iV (a.2.1:Int)),(7,iV (a.1:Int))]) (fun a=>a.2.2.2.2) (fun a=>a.1<=s.length/\a.2.1<=a.1+1/\a.2.2.2.1.length<=a.1/\GW a.2.2.2.2 3 121 0 a.2.2.1 (a.2.2.2.1.map Tk.row)/\Er s.length 1 s=(Er s.length (a.2.1:Int) (s.drop a.1)).map (a.2.2.2.1++·)) ?_ (0,1,.nils,[],[]) ⟨As _,Am _,Am _,Dr,by simp⟩;rintro⟨i,ln,u,L,σ⟩ ⟨hi,jd,hL,hg,qb⟩ ih;simp only at hi jd hL hg qb ih
  have qR:∀ r∈L.map Tk.row,r.length=3:=by
   intro r hr;obtain⟨x,-,rfl⟩:=Di.1 hr;exact Bgv x
  have jh:∀ r∈L.map Tk.row,r.all V.rowB=true:=by
   intro r hr;obtain⟨x,-,rfl⟩:=Di.1 hr;exact Bgw x
  refine Ay Bkt ?_;by_cases hc:i<s.length
  .obtain⟨c,r,qf⟩:∃ c r,s.drop i=c::r:=by
    rw[Ib hc]
    grind
   have x3:s[i]?=some c:=by
    have:=congrArg (·[0]?) qf;simpa using this
   have qm:(c::r).length=s.length - i:=by rw[<-qf,Gi]
   have jv:s.drop (i+1)=r:=by
    have:=congrArg List.tail qf;simpa[List.tail_drop] using this
   have qd:=Aq hc;have gi:(i<=s.length)=True:=eq_true hi;have qj:((c.toNat:Int)==10)=(c==UInt8.ofNat 10):=Ss c 10 AM;have qo:((c.toNat:Int)==32)=(c==UInt8.ofNat 32):=Ss c 32 AM;have e9:((c.toNat:Int)==9)=(c==UInt8.ofNat 9):=Ss c 9 AM;have qv:((c.toNat:Int)==13)=(c==UInt8.ofNat 13):=Ss c 13 AM;have qr:=Aw (show i<9223372036854775807 by omega);have qE:=Aw (show ln<9223372036854775807 by omega);obtain⟨k,hk⟩:∃ k,s.length=k+1:=⟨s.length - 1,by omega⟩;rw[Be]at qm
   have qc:Er s.length (ln:Int) (s.drop i)=if c=10 then Er k ((ln:Int)+1) r else if c=32\/c=9\/c=13 then Er k (ln:Int) r else if c=47/\r.head?=some 47 then Er k (ln:Int) ((c::r).dropWhile (· != 10)) else match M8 (c::r) with
     | none=>none
     | some (q,w)=>(Er k (ln:Int) ((c::r).drop w.length)).map fun l=>⟨q,w,(ln:Int)⟩::l:=by rw[hk,qf];rfl
   have any:∀ (n:Int) (l:List UInt8),l.length<=k->Er k n l=Er s.length n l:=fun n l h=>Yx _ _ n l h AA
   by_cases qw:c=10
   .have qi:(c==UInt8.ofNat 10)=true:=by rw[qw];rfl
    rw[if_pos qw,any _ _ AA]at qc;simp only[go_sem,qd,nn,x3,qj,qi,qr,qE];refine Ai (ih (i+1,ln+1,u,L,σ) AA ⟨by omega,by grind,by grind,hg,?_⟩) rfl
    grind
   .have qi:(c==UInt8.ofNat 10)=false:=by rw[beq_eq_false_iff_ne];exact qw
    rw[if_neg qw]at qc;by_cases qn:c=32\/c=9\/c=13
    .rw[if_pos qn,any _ _ AA]at qc
     have next:W TT PT _ [(0,.str s),(5,u),(6,iV (ln:Int)),(7,iV ((i+1:Nat):Int))] σ _:=ih (i+1,ln,u,L,σ) AA ⟨by omega,by grind,by grind,hg,by grind⟩
     rcases qn with rfl | rfl | rfl
     .simp only[go_sem,qd,nn,x3,qj,qi,qo,(show((32:UInt8)==UInt8.ofNat 32)=true from rfl),qr]
      exact Ai next rfl
     .simp only[go_sem,qd,nn,x3,qj,qi,qo,e9,(show((9:UInt8)==UInt8.ofNat 32)=false from rfl),(show((9:UInt8)==UInt8.ofNat 9)=true from rfl),qr]
      exact Ai next rfl
     .simp only[go_sem,qd,nn,x3,qj,qi,qo,e9,qv,(show((13:UInt8)==UInt8.ofNat 32)=false from rfl),(show((13:UInt8)==UInt8.ofNat 9)=false from rfl),(show((13:UInt8)==UInt8.ofNat 13)=true from rfl),qr]
      exact Ai next rfl
    .rw[if_neg qn]at qc;simp only[not_or]at qn;have qB:(c==UInt8.ofNat 32)=false:=by rw[beq_eq_false_iff_ne];exact qn.1
     have b9:(c==UInt8.ofNat 9)=false:=by rw[beq_eq_false_iff_ne];exact qn.2.1
     have qA:(c==UInt8.ofNat 13)=false:=by rw[beq_eq_false_iff_ne];exact qn.2.2
     have q:hpS [.str (c::r),.str [47,47]]=some (.bool (decide (c=47/\r.head?=some 47))):=by rw[<-Bgu];rfl
     by_cases qx:c=47/\r.head?=some 47
     .rw[if_pos qx]at qc;rw[decide_eq_true qx]at q;have hd:=Zj (· != 10) (c::r);have qM:=A1u (c::r) (by grind);have qN:=Ajr (· != 10) (c::r)
      have je:1<=((c::r).takeWhile (· != 10)).length:=by
       rw[Abq,if_pos (by grind)];simp
      have qQ:((c::r).takeWhile (· != 10)).length<=(c::r).length:=(Aaq (c::r)).2.2.1
      have jf:((c::r).dropWhile (· != 10)).length<=k:=by
       rw[<-qN,Gi,Be];omega
      rw[any _ _ jf,<-qN]at qc;rw[Be]at qQ;generalize((c::r).takeWhile (· != 10)).length=n at qM qc je qQ;have qk:IntKind.i64.wrap ((i:Int)+(n:Int))=((i+n:Nat):Int):=by rw[Bo AA];omega
      simp only[go_sem,qd,nn,x3,qj,qi,qo,qB,e9,b9,qv,qA,gi,qf,As,Am,Dh,true_and,if_true,C5];refine Fu P59 AB q ?_;simp only[go_sem,nn,gi,qf,As,Am,Dh,true_and,if_true,C5];refine Ab qM AB ?_;simp only[go_sem,qk];refine Ai (ih (i+n,ln,u,L,σ) AA ⟨by omega,by grind,by grind,hg,?_⟩) rfl
      grind[List.drop_drop]
     .rw[if_neg qx]at qc;rw[decide_eq_false qx]at q;obtain⟨e,he,qp⟩:=A6u c r (by grind);have qT:∀ a:Ob,(σ++[a])[σ.length]?=some a:=fun a=>by simp
      have qU:∀ a b:Ob,(σ++[a]).set σ.length b=σ++[b]:=fun a b=>by grind
      cases hf:M8 (c::r) with
      | none=>
       rw[hf]at qp qc;simp only[Tk.row,Tk.zero]at qp;have ne:(e != 0)=true:=by simp[he]
       have qb:Er s.length 1 s=none:=by rw[qb,qc];rfl
       rw[qb];simp only[go_sem,qd,nn,x3,qj,qi,qo,qB,e9,b9,qv,qA,gi,qf,As,Am,Dh,true_and,if_true,C5];refine Fu P59 AB q ?_;simp only[go_sem,nn,gi,qf,As,Am,Dh,true_and,if_true,C5];refine Ab qp AB ?_;simp only[go_sem,qT,qU,ne];exact⟨_,Fq AH,e,_,he,rfl⟩
      | some p=>
       obtain⟨kd,w⟩:=p;rw[hf]at qp qc;simp only[Tk.row]at qp qc;obtain⟨jw,qq,ji⟩:=Ach hf
       have jx:w.length+qq.length=r.length+1:=by
        have:=congrArg List.length ji;simp at this;omega
       have qk:IntKind.i64.wrap ((i:Int)+(w.length:Int))=((i+w.length:Nat):Int):=by rw[Bo AA];omega
       have ne:((0:Int) != 0)=false:=by decide
       have qY:GW (σ++[.row [iV kd,.str w,iV (ln:Int)] 121 0 0]) 3 121 0 u (L.map Tk.row):=Ix hg;obtain⟨u',σ',ha,jm,jp,jb,-⟩:=Iz (bytes:=32) (y:=.lst 1 [[iV kd,.str w,iV (ln:Int)]]) (ys:=[[iV kd,.str w,iV (ln:Int)]]) qY (As _) rfl AA qR AE (by grind)
       have jc:σ'[σ.length]?=some (.row [iV kd,.str w,iV (ln:Int)] 121 0 0):=by
        rw[jb σ.length ?_ AE]
        .grind
        .intro j g hj jo;rcases hg with⟨rfl,-⟩ | ⟨-,j',g',rfl,ho,-⟩
         .cases hj
         grind
       have qL:=B8 hg;rw[any _ _ (by grind)]at qc;simp only[go_sem,qd,nn,x3,qj,qi,qo,qB,e9,b9,qv,qA,gi,qf,As,Am,Dh,true_and,if_true,C5];refine Fu P59 AB q ?_;simp only[go_sem,nn,gi,qf,As,Am,Dh,true_and,if_true,C5];refine Ab qp AB ?_;simp only[go_sem,qT,qU,ne,ha,jc,qk];refine Ai (ih (i+w.length,ln,u',L++[⟨kd,w,(ln:Int)⟩],σ') AA ⟨by omega,by grind,by grind,by grind[Tk.row],?_⟩) rfl;simp only;rw[qb,qc,<-Abw,qf]
       cases Er s.length (ln:Int) ((c::r).drop w.length) with
       | none=>rfl
       | some l=>simp
  .have jn:i=s.length:=by omega
   simp only[go_sem,Bj (show s.length<=i by omega)]
   have hz:Er s.length (ln:Int) (s.drop i)=some []:=by
    rw[D4 AA]
    cases s.length<;>rfl
   rw[hz]at qb;rw[qb];refine⟨_,Bgt hg AA qR jh,?_⟩;simp
def Su{x:Xp}(h:Cn x):1<=x.op/\x.op<=18:=by
 cases h with
 | num _=>grind
 | name=>grind
 | idx _=>grind
 | un h _=>grind
 | bin h _ _=>grind
def Z7{op:Int}(h:1<=op/\op<=18):∃ i:Nat,i<18/\op=(i:Int)+1:=⟨(op - 1).toNat,by omega,by omega⟩
def A3p:((List.range 18).all fun i=>match (Lm (Oz TT PT 300) af184 [iV ((i:Int)+1)] []).bind fun p=>Eg p.2 p.1 with
  | some (.tup [.str s,.int .i64 n])=>s==Cr ((i:Int)+1)&&n==Bu ((i:Int)+1)
  | _=>false)=true:=by kernel_rfl
def Wi{op:Int}(h:1<=op/\op<=18):Fn TT PT 184 [iV op] (.tup [.str (Cr op),iV (Bu op)]):=by
 obtain⟨i,hi,rfl⟩:=Z7 h;have hr:=Cc.1 A3p i (Hi.2 hi)
 split at hr
 .rename_i s n hv;simp only[Al,beq_iff_eq]at hr;rw[<-hr.1,<-hr.2];exact R2 Tb T184 rfl rfl hv
 .cases hr
def Bbj:((List.range 18).all fun i=>match (Lm (Oz TT PT 300) af242 [iV ((i:Int)+1)] []).bind fun p=>Eg p.2 p.1 with
  | some (.agg [.str s,.int .i64 n])=>s==Cr ((i:Int)+1)&&n==Bu ((i:Int)+1)
  | _=>false)=true:=by kernel_rfl
def W5{op:Int}(h:1<=op/\op<=18):Fn TT PT 242 [iV op] (.agg [.str (Cr op),iV (Bu op)]):=by
 obtain⟨i,hi,rfl⟩:=Z7 h;have hr:=Cc.1 Bbj i (Hi.2 hi)
 split at hr
 .rename_i s n hv;simp only[Al,beq_iff_eq]at hr;rw[<-hr.1,<-hr.2];exact R2 Tb T242 rfl rfl hv
 .cases hr
def Bbk:((List.range 18).all fun i=>decide ((Cr ((i:Int)+1)).length<=2/\1<=Bu ((i:Int)+1)/\Bu ((i:Int)+1)<=7))=true:=by decide
def Aen{op:Int}(h:1<=op/\op<=18):(Cr op).length<=2/\1<=Bu op/\Bu op<=7:=by
 obtain⟨i,hi,rfl⟩:=Z7 h;exact of_decide_eq_true (Cc.1 Bbk i (Hi.2 hi))
theorem Dy(x:Xp):De (.agg x.row)=true:=by
 rw[Bi];simp only[go_sem]
def Ar{a b c:List UInt8}(h:a.length+b.length<=9223372036854775807)(hc:a++b=c):Ap .add a b=some (.str c):=by
 simp_all [Ap]
def N9(o:Int × List UInt8)(qa:Int):o.2.length<=(Eh o qa).length/\(Eh o qa).length<=o.2.length+2:=by
 grind[Eh]
def Akt{x:Xp}(he:Fn TT PT 153 [.agg x.row] (.str x.txt))(ho:1<=x.op/\x.op<=18)(hl:x.txt.length<=1000000000000000)(qa:Int):Fn TT PT 185 [.agg x.row,iV qa] (.str (Eh (x.op,x.txt) qa)):=by
 have hs:=Wi ho;have qh:=Dy x;rw[Bi]at he qh ⊢;refine Bg T185 rfl ?_;have a1:Ap .add [40] x.txt=some (.str (40::x.txt)):=Ar (by grind) rfl;have a2:Ap .add (40::x.txt) [41]=some (.str (40::(x.txt++[41]))):=Ar (by grind) AE;unfold Eh;by_cases h:Bu x.op<qa
 .rw[if_pos h];have f:(Bu x.op<qa)=True:=eq_true h;simp only[go_sem];refine Ab hs AB ?_;simp only[go_sem,f];refine Ab he (by grind) ?_;simp only[go_sem,↓a1,↓a2];exact Gs rfl
 .rw[if_neg h];have f:(Bu x.op<qa)=False:=eq_false h;simp only[go_sem];refine Ab hs AB ?_;simp only[go_sem,f];refine Ab he (by grind) ?_;simp only[go_sem];exact Gs rfl
set_option maxHeartbeats 4000000 in
def Yy{x:Xp}(h:Cn x):x.txt.length<=1000000000000000->Fn TT PT 153 [.agg x.row] (.str x.txt):=by
 induction h with
 | @num n nm z t hn=>
  intro hl;have hs:=Wi (op:=1) AA;rw[Bi,F2];simp only[B0,Em,if_true];refine Bg T153 rfl ?_;have hf:Pz [iV n,iV 10]=some (.str (Cy n)):=by unfold Pz;exact if_pos hn
  simp only[go_sem];refine Ab hs AB ?_;simp only[go_sem,Int.reduceBEq];refine Fu P68 AB hf ?_;simp only[go_sem];exact Gs rfl
 | @name n nm z t=>
  intro hl;have hs:=Wi (op:=2) AA;rw[Bi,F2];simp only[B0,Em];refine Bg T153 rfl ?_;simp only[go_sem];refine Ab hs AB ?_;simp only[go_sem,Int.reduceBEq];exact Gs rfl
 | @idx n nm z t a ha ih=>
  intro hl;have hs:=Wi (op:=3) AA;rw[Bi];rw[F2]at hl ⊢;simp only[Bh,B0,Em]at hl ⊢;have hl:nm.length+a.txt.length+2<=1000000000000000:=by simp at hl;omega
  have hi:=ih AA;rw[Bi a]at hi ⊢;refine Bg T153 rfl ?_;simp only[go_sem];refine Ab hs AB ?_;simp only[go_sem,Int.reduceBEq];have a1:Ap .add nm [91]=some (.str (nm++[91])):=Ar (by grind) rfl;have a2:Ap .add (nm++[91]) a.txt=some (.str (nm++91::a.txt)):=Ar (by grind) AE;have a3:Ap .add (nm++91::a.txt) [93]=some (.str (nm++91::(a.txt++[93]))):=Ar (by grind) AE;refine Ad AD ?_;simp only[go_sem,↓a1];refine Ax hi AB ?_;simp only[go_sem,↓a2,↓a3];exact Gs rfl
 | @un op n nm z t a qH ha ih=>
  intro hl;have ho:1<=op/\op<=18:=by omega
  have hs:=Wi ho
  have qF:Bu op=6:=by rcases qH with rfl | rfl<;>rfl
  rw[qF]at hs;obtain⟨s1,-,-⟩:=Aen ho;rw[Bi];rw[F2]at hl ⊢
  have e1:Em op n nm [(a.op,a.txt)]=Cr op++Eh (a.op,a.txt) 6:=by
   unfold Em;rw[if_neg AA,if_neg AA];simp only;rw[if_neg AA]
  simp only[Bh,B0,e1,Aj]at hl ⊢;obtain⟨p1,p2⟩:=N9 (a.op,a.txt) 6;have hi:=Akt (ih (by grind)) (Su ha) (by grind) 6;rw[Bi a]at hi ⊢;refine Bg T153 rfl ?_;have b1:(op==1)=false:=by simp;omega
  have b2:(op==2)=false:=by simp;omega
  have b3:(op==3)=false:=by simp;omega
  simp only[go_sem];refine Ab hs AB ?_;simp only[go_sem,Int.reduceBEq,b1,b2,b3];refine Ab hi AB ?_;have a1:Ap .add (Cr op) (Eh (a.op,a.txt) 6)=some (.str (Cr op++Eh (a.op,a.txt) 6)):=Ar AA rfl;simp only[go_sem,↓a1];exact Gs rfl
 | @bin op n nm z t a b qH ha hb iha ihb=>
  intro hl;have ho:1<=op/\op<=18:=by omega
  have hs:=Wi ho;obtain⟨s1,s2,s3⟩:=Aen ho
  have qF:Bu op<6:=by
   obtain⟨i,hi,rfl⟩:=Z7 ho;have:((List.range 18).all fun i=>decide (5<=i->Bu ((i:Int)+1)<6))=true:=by decide
   exact of_decide_eq_true (Cc.1 this i (Hi.2 hi)) AA
  rw[Bi];rw[F2]at hl ⊢
  have e1:Em op n nm [(a.op,a.txt),(b.op,b.txt)]=Eh (a.op,a.txt) (Ik op)++32::(Cr op++32::Eh (b.op,b.txt) (Bu op+1)):=by
   unfold Em;rw[if_neg AA,if_neg AA]
  simp only[Bh,B0,e1,Aj,Be]at hl ⊢;obtain⟨p1,p2⟩:=N9 (a.op,a.txt) (Ik op);obtain⟨q1,q2⟩:=N9 (b.op,b.txt) (Bu op+1);simp only at p1 q1;have hi:=Akt (iha AA) (Su ha) AA (Ik op);have hj:=Akt (ihb AA) (Su hb) AA (Bu op+1);rw[Bi a]at hi ⊢;rw[Bi b]at hj ⊢;refine Bg T153 rfl ?_;have b1:(op==1)=false:=by simp;omega
  have b2:(op==2)=false:=by simp;omega
  have b3:(op==3)=false:=by simp;omega
  have b6:(Bu op==6)=false:=by simp;omega
  have f6:(Bu op<6)=True:=eq_true qF;have w1:IntKind.i64.wrap (Bu op+1)=Bu op+1:=Bo AA;generalize Eh (a.op,a.txt) (Ik op)=pa at hl hi p1 p2 ⊢;generalize Eh (b.op,b.txt) (Bu op+1)=pb at hl hj q1 q2 ⊢;have a1:Ap .add pa [32]=some (.str (pa++[32])):=Ar (by grind) rfl;have a2:Ap .add (pa++[32]) (Cr op)=some (.str (pa++32::Cr op)):=Ar (by grind) AE;have a3:Ap .add (pa++32::Cr op) [32]=some (.str (pa++32::(Cr op++[32]))):=Ar (by grind) AE;have a4:Ap .add (pa++32::(Cr op++[32])) pb=some (.str (pa++32::(Cr op++32::pb))):=Ar (by grind) AE;cases h3:(Bu op==3)
  all_goals
   have qg:Ik op=(if(Bu op==3)=true then 4 else Bu op):=by unfold Ik;simp
   rw[h3]at qg;simp only[if_true,if_false,Hz]at qg;rw[qg]at hi;simp only[go_sem];refine Ab hs AB ?_;simp only[go_sem,Int.reduceBEq,b1,b2,b3,b6,f6,h3];refine Ad AD ?_;simp only[go_sem];refine Ax hi AB ?_;simp only[go_sem,↓a1,↓a2,↓a3,w1];refine Ax hj AB ?_;simp only[go_sem,↓a4];exact Gs rfl
def A6v(x:Xp):x.row.length=4:=by simp[Bi]
theorem N5(s:Sp):s.row.length=11:=by simp[Ru,Bi]
def He(s:Sp):De (.agg s.row)=true:=by
 rw[Ru,Bi];simp only[go_sem]
def Bmr(s:Sp):s.row.take 11=s.row:=Ky (by grind[N5])
def A3q(d:Nat)(hd:d<=100000000000000):Fn TT PT 110 [iV (d:Int)] (.str (Et d)):=by
 refine Bg T110 rfl ?_;simp only[go_sem];refine Bb (α:=Nat) (fun i=>d - i) (fun i=>[(0,iV (d:Int)),(3,.str (Et i)),(4,iV (i:Int))]) (fun _=>[]) (fun i=>i<=d) ?_ 0 (As _);rintro i hi ih;refine Ay Bf2 ?_;rcases Az i d with h | h
 .have a1:Ap .add (Et i) [32,32]=some (.str (Et (i+1))):=Ar (by grind[Et]) (by
   grind[Et,List.replicate_append_replicate])
  simp only[go_sem,Aq h,↓a1,Aw (show i<9223372036854775807 by omega)];exact Ai (ih (i+1) AA AA) rfl
 .obtain rfl:i=d:=by omega
  simp only[go_sem,Bj h];exact Gs rfl
theorem K4(d:Nat):(Et d).length=2*d:=by simp[Et]
def Iq(op:Int):List UInt8:=if B6 op then [32,123] else [59]
theorem Aiz(l:List Xp):(F6 l).length<=(match l with | a::_=>a.txt.length+2 | []=>0):=by
 grind[F6]
def A6w{s:Sp}(h:CnS s)(hl:(Cu s).length<=100000000000000):Fn TT PT 111 [.agg s.row] (.str (Cu s++Iq s.op)):=by
 obtain⟨h1,h2,h3,h4,h5,-,-,-,-⟩:=h;obtain⟨op,line,nm,arg,iz,it,idx,ex,bz,bt,body,ez,et,els⟩:=s;simp only at h1 h2 h3 h4 h5 hl ⊢;rw[Ru];simp only;have hw:op=1\/op=2\/op=3\/op=4\/op=5\/op=6\/op=7\/op=8\/op=9\/op=10\/op=11\/op=12\/op=13\/op=14\/op=15:=by omega
 refine Bg T111 rfl ?_;rw[Bi];rcases hw with rfl | hw
 .have hx:=Yy (h5 (.inl rfl));simp only[Cu,if_true,Aj,Be]at hl ⊢;have hx:=hx AA;rw[Bi]at hx
  cases idx with
  | nil=>
   simp only[F6,Dn]at hl ⊢;have a1:Ap .add nm []=some (.str nm):=Ar AA AE;have a2:Ap .add nm [32,61,32]=some (.str (nm++[32,61,32])):=Ar (by grind) rfl;have a3:Ap .add (nm++[32,61,32]) ex.txt=some (.str (nm++32::61::32::ex.txt)):=Ar (by grind) AE;have a4:Ap .add (nm++32::61::32::ex.txt) [59]=some (.str (nm++32::61::32::(ex.txt++[59]))):=Ar (by grind) AE;simp only[go_sem,Int.reduceBEq,Int.reduceLT];refine Ad AD ?_;simp only[go_sem,↓a1,↓a2];refine Ax hx AB ?_;simp only[go_sem,↓a3,↓a4];exact Ae rfl (by simp[Iq,B6])
  | cons a r=>
   have ha:=Yy (h4 a Cz);simp only[F6,Be,Aj]at hl ⊢;have ha:=ha AA;rw[Bi]at ha;have r0:r=[]:=by simpa using h2
   subst r0;have a1:Ap .add [91] a.txt=some (.str (91::a.txt)):=Ar (by grind) rfl;have a2:Ap .add (91::a.txt) [93]=some (.str (91::(a.txt++[93]))):=Ar (by grind) AE;have a3:Ap .add nm (91::(a.txt++[93]))=some (.str (nm++91::(a.txt++[93]))):=Ar (by grind) rfl;have a4:Ap .add (nm++91::(a.txt++[93])) [32,61,32]=some (.str (nm++91::(a.txt++[93,32,61,32]))):=Ar (by grind) AE;have a5:Ap .add (nm++91::(a.txt++[93,32,61,32])) ex.txt=some (.str (nm++91::(a.txt++93::32::61::32::ex.txt))):=Ar (by grind) AE;have a6:Ap .add (nm++91::(a.txt++93::32::61::32::ex.txt)) [59]=some (.str (nm++91::(a.txt++93::32::61::32::(ex.txt++[59])))):=Ar (by grind) AE;simp only[Bh,B0];rw[Bi a];simp only[go_sem,Int.reduceBEq,Int.reduceLT];refine Ab ha AB ?_;simp only[go_sem,↓a1,↓a2];refine Ad AD ?_;simp only[go_sem,↓a3,↓a4];refine Ax hx AB ?_;simp only[go_sem,↓a5,↓a6];exact Ae rfl (by simp[Iq,B6])
 rcases hw with rfl | hw
 .simp only[Cu,C9,Iq,B6]at hl ⊢;simp at hl;have hx:=Yy (h5 AA) AA;rw[Bi]at hx;have a1:Ap .add ([105,102,32]) (ex.txt)=some (.str (105::102::32::ex.txt)):=Ar (by grind) AE;have a2:Ap .add (105::102::32::ex.txt) ([32,123])=some (.str (105::102::32::(ex.txt++[32,123]))):=Ar (by grind) AE;simp only[go_sem,Int.reduceBEq,Int.reduceLT];refine Ab hx AB ?_;simp only[go_sem,↓a1,↓a2];exact Ae rfl AE
 rcases hw with rfl | hw
 .simp only[Cu,C9,Iq,B6]at hl ⊢;simp at hl;have hx:=Yy (h5 AA) AA;rw[Bi]at hx;have a1:Ap .add ([119,104,105,108,101,32]) (ex.txt)=some (.str (119::104::105::108::101::32::ex.txt)):=Ar AJ AE;have a2:Ap .add (119::104::105::108::101::32::ex.txt) ([32,123])=some (.str (119::104::105::108::101::32::(ex.txt++[32,123]))):=Ar AJ AE;simp only[go_sem,Int.reduceBEq,Int.reduceLT];refine Ab hx AB ?_;simp only[go_sem,↓a1,↓a2];exact Ae rfl AE
 rcases hw with rfl | hw
 .simp only[Cu,C9,Iq,B6]at hl ⊢;simp at hl;have a1:Ap .add ([108,111,99,107,32]) (nm)=some (.str (108::111::99::107::32::nm)):=Ar AJ AE;have a2:Ap .add (108::111::99::107::32::nm) ([32,123])=some (.str (108::111::99::107::32::(nm++[32,123]))):=Ar (by grind) AE;simp only[go_sem,Int.reduceBEq,Int.reduceLT,↓a1,↓a2];exact Ae rfl AE
 rcases hw with rfl | hw
 .simp only[Cu,C9,Iq,B6]at hl ⊢;simp at hl;have a1:Ap .add ([114,101,97,100,32]) (nm)=some (.str (114::101::97::100::32::nm)):=Ar AJ AE;have a2:Ap .add (114::101::97::100::32::nm) ([32,123])=some (.str (114::101::97::100::32::(nm++[32,123]))):=Ar (by grind) AE;simp only[go_sem,Int.reduceBEq,Int.reduceLT,↓a1,↓a2];exact Ae rfl AE
 rcases hw with rfl | hw
 .simp only[Cu,C9,Iq,B6]at hl ⊢;simp at hl;have a1:Ap .add ([119,114,105,116,101,32]) (nm)=some (.str (119::114::105::116::101::32::nm)):=Ar AJ AE;have a2:Ap .add (119::114::105::116::101::32::nm) ([32,123])=some (.str (119::114::105::116::101::32::(nm++[32,123]))):=Ar AJ AE;simp only[go_sem,Int.reduceBEq,Int.reduceLT,↓a1,↓a2];exact Ae rfl AE
 rcases hw with rfl | hw
 .simp only[Cu,C9,Iq,B6]at hl ⊢;simp at hl;simp only[go_sem,Int.reduceBEq,Int.reduceLT];exact Ae rfl AE
 rcases hw with rfl | hw
 .simp only[Cu,C9,Iq,B6]at hl ⊢;simp at hl;simp only[go_sem,Int.reduceBEq,Int.reduceLT];exact Ae rfl AE
 rcases hw with rfl | hw
 .simp only[Cu,C9,Iq,B6]at hl ⊢;simp at hl;have a1:Ap .add ([119,97,105,116,32]) (nm)=some (.str (119::97::105::116::32::nm)):=Ar AJ AE;have a2:Ap .add (119::97::105::116::32::nm) ([59])=some (.str (119::97::105::116::32::(nm++[59]))):=Ar (by grind) AE;simp only[go_sem,Int.reduceBEq,Int.reduceLT,↓a1,↓a2];exact Ae rfl AE
 rcases hw with rfl | hw
 .simp only[Cu,C9,Iq,B6]at hl ⊢;simp at hl;have a1:Ap .add ([110,111,116,105,102,121,32]) (nm)=some (.str (110::111::116::105::102::121::32::nm)):=Ar AJ AE;have a2:Ap .add (110::111::116::105::102::121::32::nm) ([59])=some (.str (110::111::116::105::102::121::32::(nm++[59]))):=Ar AJ AE;simp only[go_sem,Int.reduceBEq,Int.reduceLT,↓a1,↓a2];exact Ae rfl AE
 rcases hw with rfl | hw
 .simp only[Cu,C9,Iq,B6]at hl ⊢;simp at hl;have a1:Ap .add ([110,111,116,105,102,121,97,108,108,32]) (nm)=some (.str (110::111::116::105::102::121::97::108::108::32::nm)):=Ar AJ AE;have a2:Ap .add (110::111::116::105::102::121::97::108::108::32::nm) ([59])=some (.str (110::111::116::105::102::121::97::108::108::32::(nm++[59]))):=Ar AJ AE;simp only[go_sem,Int.reduceBEq,Int.reduceLT,↓a1,↓a2];exact Ae rfl AE
 rcases hw with rfl | hw
 .simp only[Cu,C9,Iq,B6]at hl ⊢;simp at hl;have a1:Ap .add ([115,112,97,119,110,32]) (nm)=some (.str (115::112::97::119::110::32::nm)):=Ar AJ AE;have a2:Ap .add (115::112::97::119::110::32::nm) ([59])=some (.str (115::112::97::119::110::32::(nm++[59]))):=Ar AJ AE;simp only[go_sem,Int.reduceBEq,Int.reduceLT,↓a1,↓a2];exact Ae rfl AE
 rcases hw with rfl | hw
 .simp only[Cu,C9,Iq,B6]at hl ⊢;simp at hl;have a1:Ap .add ([106,111,105,110,32]) (nm)=some (.str (106::111::105::110::32::nm)):=Ar AJ AE;have a2:Ap .add (106::111::105::110::32::nm) ([59])=some (.str (106::111::105::110::32::(nm++[59]))):=Ar (by grind) AE;simp only[go_sem,Int.reduceBEq,Int.reduceLT,↓a1,↓a2];exact Ae rfl AE
 rcases hw with rfl | hw
 .simp only[Cu,C9,Iq,B6]at hl ⊢;simp at hl;have hx:=Yy (h5 AA) AA;rw[Bi]at hx;have a1:Ap .add ([115,101,116,32]) (nm)=some (.str (115::101::116::32::nm)):=Ar (by grind) AE;have a2:Ap .add (115::101::116::32::nm) ([32])=some (.str (115::101::116::32::(nm++[32]))):=Ar (by grind) AE;have a3:Ap .add (115::101::116::32::(nm++[32])) (ex.txt)=some (.str (115::101::116::32::(nm++32::ex.txt))):=Ar (by grind) AE;have a4:Ap .add (115::101::116::32::(nm++32::ex.txt)) ([59])=some (.str (115::101::116::32::(nm++32::(ex.txt++[59])))):=Ar (by grind) AE;simp only[go_sem,Int.reduceBEq,Int.reduceLT];refine Ad AD ?_;simp only[go_sem,↓a1,↓a2];refine Ax hx AB ?_;simp only[go_sem,↓a3,↓a4];exact Ae rfl AE
 subst hw;simp only[Cu,C9,Iq,B6]at hl ⊢;simp at hl;have a1:Ap .add ([103,101,116,32]) (nm)=some (.str (103::101::116::32::nm)):=Ar (by grind) AE;have a2:Ap .add (103::101::116::32::nm) ([32])=some (.str (103::101::116::32::(nm++[32]))):=Ar (by grind) AE;have a3:Ap .add (103::101::116::32::(nm++[32])) (arg)=some (.str (103::101::116::32::(nm++32::arg))):=Ar (by grind) AE;have a4:Ap .add (103::101::116::32::(nm++32::arg)) ([59])=some (.str (103::101::116::32::(nm++32::(arg++[59])))):=Ar (by grind) AE;simp only[go_sem,Int.reduceBEq,Int.reduceLT,↓a1,↓a2,↓a3,↓a4];exact Ae rfl AE
theorem N2(d:Nat)(x:Sp)(l:List Sp):Sp.txts d (x::l)=x.txt d++Sp.txts d l:=by rw[Sp.txts]
def Ah8(z:Bool)(t d:Nat)(l:List Sp)(h:∀ s∈l,Fn TT PT 69 [.agg s.row,iV (d:Int)] (.str (s.txt d)))(hl:(Sp.txts d l).length<=100000000000000)(jq:l.length<=9223372036854775806):Fn TT PT 36 [SL z t (l.map Sp.row),iV (d:Int)] (.str (Sp.txts d l)):=by
 refine Bg T36 rfl ?_;have qP:(l.map Sp.row).length=l.length:=Av ..;simp only[go_sem];refine Bb (α:=Nat × List UInt8) (fun a=>l.length - a.1) (fun a=>[(0,SL z t (l.map Sp.row)),(1,iV (d:Int)),(5,.str a.2),(6,iV (a.1:Int))]) (fun _=>[]) (fun a=>a.1<=l.length/\a.2++Sp.txts d (l.drop a.1)=Sp.txts d l) ?_ (0,[]) ⟨As _,rfl⟩;rintro⟨i,qz⟩ ⟨hi,qe⟩ ih;simp only at hi qe ih;refine Ay Bkw ?_;rcases Az i l.length with h' | h'
 .obtain⟨x,hx,hd,hm⟩:=Bk h';rw[hd,N2]at qe;have qm:=congrArg List.length qe;simp only[Aj]at qm;have hr:=N5 x;have ht:=Bmr x;have a1:Ap .add qz (x.txt d)=some (.str (qz++x.txt d)):=Ar AA rfl;simp only[go_sem,qP,Aq h',Ak,hx,hr,ht];refine Ab (h x hm) (by simp[He,Ayy]) ?_;simp only[go_sem,↓a1,Aw (show i<9223372036854775807 by omega)];exact Ai (ih (i+1,qz++x.txt d) AA ⟨by omega,by grind⟩) rfl
 .obtain rfl:i=l.length:=by omega
  rw[D4 h',show Sp.txts d []=[] by rw[Sp.txts],Bz]at qe;rw[<-qe];simp only[go_sem,qP,Bj h'];exact Gs rfl
theorem M3(d:Nat)(s:Sp):s.txt d=Et d++(Cu s++if B6 s.op then 32::123::10::(Sp.txts (d+1) s.body++((if s.els.isEmpty then [] else Et d++125::32::101::108::115::101::32::123::10::Sp.txts (d+1) s.els)++(Et d++[125,10]))) else [59,10]):=by
 obtain⟨op,line,nm,arg,iz,it,idx,ex,bz,bt,body,ez,et,els⟩:=s;rw[Sp.txt]
def Yh(d:Nat):∀ {l:List Sp} {x:Sp},x∈l->(x.txt d).length<=(Sp.txts d l).length
 | y::l,x,h=>by
  rw[N2,Aj];rcases B7.1 h with rfl | h
  .omega
  .have:=Yh d h;omega
theorem Yc(l:List Sp)(d:Nat):l.length<=(Sp.txts d l).length:=by
 induction l with
 | nil=>simp
 | cons x l ih=>
  grind[N2,M3]
def A3r{s:Sp}(h:CnS s):∀ (d:Nat) (D:Int),max D 0=(d:Int)->(s.txt d).length<=100000000000000->Fn TT PT 69 [.agg s.row,iV D] (.str (s.txt d)):=by
 induction h with
 | @mk s h1 h2 h3 h4 h5 h6 h7 h8 h9 ihb ihe=>
  intro d D mx hl;have hs:CnS s:=.mk h1 h2 h3 h4 h5 h6 h7 h8 h9;rw[M3]at hl ⊢;simp only[Aj,K4]at hl;have hh:=A6w hs AA;have hi:=A3q d AA;have qh:=He s;have qH:=h1;generalize hH:Cu s=H at hl hh ⊢;have g1:(s.op<1)=False:=eq_false AA;have g2:(15<s.op)=False:=eq_false AA;refine Bg T69 rfl ?_;rw[Ru,Bi]at hh qh ⊢;simp only[Mw,Ct]at hh qh ⊢;cases hb:B6 s.op
  .have g3:(s.op<2)=True/\(s.op<2)=True\/(s.op<2)=False/\(8<s.op)=True:=by
    unfold B6 at hb;by_cases jt:s.op<2
    .grind
    .grind
   simp only[Iq,hb]at hh;have a1:Ap .add (Et d) (H++[59])=some (.str (Et d++(H++[59]))):=Ar (by grind[K4]) rfl;have a2:Ap .add (Et d++(H++[59])) [10]=some (.str (Et d++(H++[59,10]))):=Ar (by grind[K4]) AE;rcases g3 with⟨g3,g4⟩ | ⟨g3,g4⟩
   all_goals
    simp only[go_sem,g1,g2,mx];refine Ab hi AB ?_;simp only[go_sem];refine Ab hh (by grind) ?_;simp only[go_sem,↓a1,↓a2,g3,g4];exact Ae rfl AE
  .rw[hb]at hl;rw[if_pos rfl]at hl ⊢;simp only[Be,Aj,K4,Dn]at hl;have qg:=Yc s.body (d+1);have qC:=Ah8 s.bz s.bt (d+1) s.body (fun x hx=>ihb x hx (d+1) _ AA (by have:=Yh (d+1) hx;omega)) AA AA;have qu:=Yc s.els (d+1)
   have g3:(s.op<2)=False/\(8<s.op)=False:=by
    unfold B6 at hb;simp only[Al,decide_eq_true_eq]at hb;exact⟨eq_false AA,eq_false AA⟩
   obtain⟨g3,g4⟩:=g3;simp only[Iq,hb,if_true]at hh;have ja:=K4 d;have ql:=Aw (show d<9223372036854775807 by omega);have jl:(s.body.map Sp.row).length=s.body.length:=Av ..;have qO:(s.els.map Sp.row).length=s.els.length:=Av ..;generalize hT:Et d=T at hl hi ja ⊢;generalize jj:Sp.txts (d+1) s.body=B at hl qC qg ⊢;have a1:Ap .add T (H++[32,123])=some (.str (T++(H++[32,123]))):=Ar (by grind) rfl;have a2:Ap .add (T++(H++[32,123])) [10]=some (.str (T++(H++[32,123,10]))):=Ar (by grind) AE;have a3:Ap .add (T++(H++[32,123,10])) B=some (.str (T++(H++32::123::10::B))):=Ar (by grind) AE;have a4:Ap .add (T++(H++32::123::10::B)) T=some (.str (T++(H++32::123::10::(B++T)))):=Ar (by grind) AE
   cases hels:s.els with
   | nil=>
    rw[hels]at hl qO hh;simp only[B0]at hh;have e0:((0:Int)<((([]:List Sp).map Sp.row).length:Int))=False:=eq_false AE;have a5:Ap .add (T++(H++32::123::10::(B++T))) [125,10]=some (.str (T++(H++32::123::10::(B++(T++[125,10]))))):=Ar (by grind) AE;simp only[go_sem,g1,g2,mx];refine Ab hi AB ?_;simp only[go_sem];refine Ab hh (by grind) ?_;simp only[go_sem,↓a1,↓a2,g3,g4,ql];refine Ab qC AB ?_;simp only[go_sem,↓a3,Int.reduceLT,↓a4,↓a5];exact Ae rfl AE
   | cons y ys=>
    rw[hels]at hl qO qu hh;simp only[Bh]at hh;have qD:=Ah8 s.ez s.et (d+1) (y::ys) (fun x hx=>ihe x (by grind) (d+1) _ AA (by have:=Yh (d+1) hx;simp at hl;omega)) (by simp at hl;omega) (by simp at hl;omega);simp only[Bh]at qD;have e0:((0:Int)<((ys.length+1:Nat):Int))=True:=eq_true AA;generalize jk:Sp.txts (d+1) (y::ys)=E at hl qD qu ⊢;simp only[List.isEmpty_cons,Hz,if_false,Aj,Be]at hl;have a5:Ap .add (T++(H++32::123::10::(B++T))) [125,32,101,108,115,101,32,123,10]=some (.str (T++(H++32::123::10::(B++(T++[125,32,101,108,115,101,32,123,10]))))):=Ar AP AE;have a6:Ap .add (T++(H++32::123::10::(B++(T++[125,32,101,108,115,101,32,123,10])))) E=some (.str (T++(H++32::123::10::(B++(T++125::32::101::108::115::101::32::123::10::E))))):=Ar AP AE;have a7:Ap .add (T++(H++32::123::10::(B++(T++125::32::101::108::115::101::32::123::10::E)))) T=some (.str (T++(H++32::123::10::(B++(T++125::32::101::108::115::101::32::123::10::(E++T)))))):=Ar AP AE;have a8:Ap .add (T++(H++32::123::10::(B++(T++125::32::101::108::115::101::32::123::10::(E++T))))) [125,10]=some (.str (T++(H++32::123::10::(B++(T++125::32::101::108::115::101::32::123::10::(E++(T++[125,10]))))))):=Ar AP AE;simp only[go_sem,g1,g2,mx];refine Ab hi AB ?_;simp only[go_sem];refine Ab hh (by grind) ?_;simp only[go_sem,↓a1,↓a2,g3,g4,ql];refine Ab qC AB ?_;simp only[go_sem,↓a3,Av,e0,↓a4,↓a5,ql];refine Ab qD (by simp only[go_sem,Bh]) ?_;simp only[go_sem,↓a6,↓a7,↓a8];exact Ae rfl AE
def Ar1{s:Sp}(h:CnS s)(d:Nat)(hl:(s.txt d).length<=100000000000000):Fn TT PT 69 [.agg s.row,iV (d:Int)] (.str (s.txt d)):=A3r h d _ AA hl
