/- Walks: the scanner's words, numbers and signs. -/
import Derived.Test.YthlbbjcbmojocaaGreatDoorLa
import Derived.Lib.Join
set_option linter.all false
namespace Go.Proofs.YthlbbjcbmojocaaGreatDoor.KM
open Go
def Atn:((List.range 256).all fun i=>match (I9 (Mc TT PT 300) af71 [.int .u8 (i:Int)] []).bind fun p=>Ei p.2 p.1 with
  | some (.bool b)=>b==Jy i
  | _=>false)=true:=by kernel_rfl
def Mo(c:UInt8):Fn TT PT 71 [.int .u8 (c.toNat:Int)] (.bool (Hr c)):=by
 have hr:=Bi.1 Atn c.toNat (E5.2 c.toNat_lt)
 split at hr
 .rename_i b hv;rw[show Hr c=b from(beq_iff_eq.1 hr).symm];exact O4 Px T71 rfl rfl hv
 .cases hr
def Ato:((List.range 256).all fun i=>match (I9 (Mc TT PT 300) af73 [.int .u8 (i:Int)] []).bind fun p=>Ei p.2 p.1 with
  | some (.bool b)=>b==Pu i
  | _=>false)=true:=by kernel_rfl
def Oy(c:UInt8):Fn TT PT 73 [.int .u8 (c.toNat:Int)] (.bool (E3 c)):=by
 have hr:=Bi.1 Ato c.toNat (E5.2 c.toNat_lt)
 split at hr
 .rename_i b hv;rw[show E3 c=b from(beq_iff_eq.1 hr).symm];exact O4 Px T73 rfl rfl hv
 .cases hr
def Xe{p:UInt8->Bool}:∀ l:List UInt8,(∀ i,i<(l.takeWhile p).length->∃ x,l[i]?=some x/\p x=true)/\((l.takeWhile p).length<l.length->∃ x,l[(l.takeWhile p).length]?=some x/\p x=false)/\(l.takeWhile p).length<=l.length/\l.take (l.takeWhile p).length=l.takeWhile p
 | []=>⟨fun i h=>by simp at h,fun h=>by simp at h,by simp,rfl⟩
 | c::l=>by
  obtain⟨h1,h2,h3,h4⟩:=Xe (p:=p) l;rw[X9];by_cases hc:p c=true
  .rw[if_pos hc];refine⟨fun i hi=>?_,fun h=>?_,by simp;omega,by simp[h4]⟩
   .cases i with
    | zero=>exact⟨c,rfl,hc⟩
    | succ i=>simpa using h1 i (by simp at hi;omega)
   .simpa using h2 (by simp at h;omega)
  .rw[if_neg hc];exact⟨fun i h=>by simp at h,fun _=>⟨c,rfl,by simpa using hc⟩,by simp,rfl⟩
def F7{vs:List V}{σ:St}{v:V}(h:vs.all Dg=true)(he:V.tup vs=v):FR (.tup vs) σ v:=he ▸ I4 h
def Pi(c:UInt8)(n:Nat)(hn:n<256):(((c.toNat:Int))==(n:Int))=(c==UInt8.ofNat n):=by
 by_cases h:c=UInt8.ofNat n
 .subst h;simp[UInt8.toNat_ofNat,U5 hn]
 .have:(c.toNat:Int)≠n:=fun e=>h (by
   have:c.toNat=n:=by omega
   exact UInt8.toNat_inj.1 (by rw[this];simp[UInt8.toNat_ofNat,U5 hn]))
  rw[beq_eq_false_iff_ne.2 h,beq_eq_false_iff_ne.2 this]
def Aoj(c:UInt8):Me c=(Hr c||(E3 c||c==95)):=by
 unfold Me Lf Hr E3;congr 2;have:=Pi c 95 (by decide);rw[show(c==95)=(c==UInt8.ofNat 95) from rfl,<-this];by_cases h:c.toNat=95
 .rw[h];rfl
 .rw[beq_eq_false_iff_ne.2 h];exact(beq_eq_false_iff_ne.2 (by omega)).symm
def nn(i:Nat):(0<=(i:Int))=True:=eq_true (Int.natCast_nonneg i)
def Apu(s:List UInt8)(i:Nat)(h:i<=s.length):Pq (.str s) none (some (iV (i:Int)))=some (.str (s.take i)):=by
 rw[show Pq (.str s) none (some (iV (i:Int)))=(D2 none 0).bind fun a=>(D2 (some (iV (i:Int))) s.length).bind fun b=>if a<=b/\b<=s.length then some (V.str ((s.take b).drop a)) else none from rfl];have e:D2 (some (iV (i:Int))) s.length=some i:=by simp[D2]
 rw[e];simp only[D2,C4];rw[if_pos ⟨Ay _,h⟩,Ln]
set_option maxHeartbeats 2000000 in
def Azy(c:UInt8)(r:List UInt8)(hl:(c::r).length<=4096):Fn TT PT 72 [.str (c::r)] (if 12<(Ej c r).length then .tup [.agg (Tk.row Tk.zero),iV 2] else .tup [.agg (Tk.row ⟨if Gv (Ej c r) then 3 else 1,Ej c r,0⟩),iV 0]):=by
 obtain⟨w1,w2,w3,w4⟩:=Xe (p:=Me) r;have hW:(c::r).take (Ej c r).length=Ej c r:=by simp[Ej,w4]
 have qu:(Ej c r).length=(r.takeWhile Me).length+1:=by simp[Ej]
 rw[Ak]at hl;generalize hn:(Ej c r).length=n at hW qu ⊢;refine Bn T72 rfl ?_;simp only[go_sem];refine Bv (α:=Nat) (fun i=>n - i) (fun i=>[(0,.str (c::r)),(2,.ptr 0 0 0),(4,iV (i:Int))]) (fun _=>[.row [iV 0,.str [],iV 0] 100 0 0]) (fun i=>1<=i/\i<=n) ?_ 1 ⟨by omega,by omega⟩;rintro i ⟨h1,h2⟩ ih;refine Bw (by delta lp72_0;exact rfl) ?_;by_cases hi:i<n
 .obtain⟨x,x1,x2⟩:=w1 (i - 1) (by omega)
  have x3:(c::r)[i]?=some x:=by
   obtain⟨j,rfl⟩:∃ j,i=j+1:=⟨i - 1,by omega⟩;simpa using x1
  have g1:decide ((i:Int)<((r.length+1:Nat):Int))=true:=by simp;omega
  have qr:((x.toNat:Int)==95)=(x==95):=Pi x 95 (by decide);have qc:=Bp (show i<r.length+1 by omega);have qg:=Bf (show i<9223372036854775807 by omega);rw[Aoj]at x2;by_cases hL:Hr x=true
  .simp only[go_sem,qc,nn,x3];refine Ad (Mo x) (by simp only[go_sem]) ?_;simp only[go_sem,hL,qg];exact Bd (ih (i+1) (by omega) (by omega)) rfl
  .have hL:Hr x=false:=by simpa using hL
   by_cases hD:E3 x=true
   .simp only[go_sem,qc,nn,x3];refine Ad (Mo x) (by simp only[go_sem]) ?_;simp only[go_sem,hL,nn,x3];refine Ad (Oy x) (by simp only[go_sem]) ?_;simp only[go_sem,hD,qg];exact Bd (ih (i+1) (by omega) (by omega)) rfl
   .have hD:E3 x=false:=by simpa using hD
    rw[hL,hD]at x2;simp only[Va]at x2;simp only[go_sem,qc,nn,x3];refine Ad (Mo x) (by simp only[go_sem]) ?_;simp only[go_sem,hL,nn,x3];refine Ad (Oy x) (by simp only[go_sem]) ?_;simp only[go_sem,hD,nn,x3,qr,x2,qg];exact Bd (ih (i+1) (by omega) (by omega)) rfl
 .obtain rfl:i=n:=by omega
  have gi:(i<=r.length+1)=True:=eq_true (by omega)
  have qF:Pq (.str (c::r)) none (some (iV (i:Int)))=some (.str (Ej c r)):=by
   rw[Apu _ _ (by simp;omega),hW]
  by_cases hb:i<r.length+1
  .obtain⟨x,x1,x2⟩:=w2 (by omega);have x3:(c::r)[i]?=some x:=by rw[qu];simpa using x1
   have qr:((x.toNat:Int)==95)=(x==95):=Pi x 95 (by decide);have qc:=Bp (show i<r.length+1 by omega);rw[Aoj]at x2;simp only[Bool.or_eq_false_iff]at x2;obtain⟨hL,hD,h9⟩:=x2;simp only[go_sem,qc,nn,x3];refine Ad (Mo x) (by simp only[go_sem]) ?_;simp only[go_sem,hL,nn,x3];refine Ad (Oy x) (by simp only[go_sem]) ?_;simp only[go_sem,hD,nn,x3,qr,h9];by_cases qj:12<i
   .have ql:decide ((12:Int)<(i:Int))=true:=by simp;omega
    rw[if_pos qj];simp only[go_sem,gt_iff_lt,ql];exact F7 (by simp only[go_sem]) rfl
   .have ql:decide ((12:Int)<(i:Int))=false:=by simp;omega
    rw[if_neg qj];simp only[go_sem,gt_iff_lt,ql,nn,gi,hW,Ay,true_and,if_true,C4];refine Ft P99 rfl (by rfl) ?_;cases hk:Gv (Ej c r)
    .simp only[go_sem,hk,nn,gi,hW,Ay,true_and,if_true,C4];exact F7 (by simp only[go_sem]) rfl
    .simp only[go_sem,hk,nn,gi,hW,Ay,true_and,if_true,C4];exact F7 (by simp only[go_sem]) rfl
  .simp only[go_sem,Ce (show r.length+1<=i by omega)];by_cases qj:12<i
   .have ql:decide ((12:Int)<(i:Int))=true:=by simp;omega
    rw[if_pos qj];simp only[go_sem,gt_iff_lt,ql];exact F7 (by simp only[go_sem]) rfl
   .have ql:decide ((12:Int)<(i:Int))=false:=by simp;omega
    rw[if_neg qj];simp only[go_sem,gt_iff_lt,ql,nn,gi,hW,Ay,true_and,if_true,C4];refine Ft P99 rfl (by rfl) ?_;cases hk:Gv (Ej c r)
    .simp only[go_sem,hk,nn,gi,hW,Ay,true_and,if_true,C4];exact F7 (by simp only[go_sem]) rfl
    .simp only[go_sem,hk,nn,gi,hW,Ay,true_and,if_true,C4];exact F7 (by simp only[go_sem]) rfl
def Azz(l:List UInt8)(c:UInt8):decide (0<=Lib.indexByte l c)=l.elem c:=by
 induction l with
 | nil=>rfl
 | cons b l ih=>
  have hg:=Lib.indexByte_ge l c;rw[Lib.indexByte,List.elem_cons];by_cases h:b=c
  .subst h;simp
  .have h1:(b==c)=false:=by simp[h]
   have h2:(c==b)=false:=by simp[Ne.symm h]
   simp only[h1,h2,Fb,if_false,Va,<-ih];by_cases h3:Lib.indexByte l c = -1
   .rw[h3];rfl
   .have h4:(Lib.indexByte l c == -1)=false:=by simp[h3]
    rw[h4];simp only[Fb,if_false];rw[decide_eq_decide];omega
def Amz:∀ l:List UInt8,(Lib.indexByte l 10 = -1/\(l.takeWhile (· != 10)).length=l.length)\/Lib.indexByte l 10=((l.takeWhile (· != 10)).length:Int)
 | []=>.inl ⟨rfl,rfl⟩
 | b::l=>by
  have ih:=Amz l;rw[Lib.indexByte,X9];by_cases h:b=10
  .subst h;exact .inr (by simp)
  .have h1:(b==10)=false:=by simp[h]
   have h2:(b != 10)=true:=by simp[h]
   simp only[h1,h2,Fb,if_false,if_true,Ak];rcases ih with⟨h3,h4⟩ | h3
   .rw[h3,h4];exact .inl ⟨rfl,rfl⟩
   .have h4:(Lib.indexByte l 10 == -1)=false:=by rw[h3,beq_eq_false_iff_ne];omega
    rw[h4,h3];exact .inr (by simp)
def Aeq(p:UInt8->Bool):∀ l:List UInt8,l.drop (l.takeWhile p).length=l.dropWhile p
 | []=>rfl
 | c::l=>by
  rw[X9,X8];cases p c
  .rfl
  .simp only[if_true,Ak,Acg];exact Aeq p l
def Aok:∀ a b:List UInt8,(!(Op.bytesLess a b||a==b))=Op.bytesLess b a
 | [],[]=>rfl
 | [],b::y=>by simp[Op.bytesLess]
 | a::x,[]=>by simp[Op.bytesLess]
 | a::x,b::y=>by
  have ih:=Aok x y;simp only[Op.bytesLess,List.cons_beq_cons,<-ih];by_cases h:a=b
  .subst h;have h1:¬ a<a:=UInt8.lt_irrefl a;simp[h1]
  .have h1:(a==b)=false:=by simp[h]
   have h2:(b==a)=false:=by simp[Ne.symm h]
   rw[h1,h2];have h5:a.toNat≠b.toNat:=fun e=>h (UInt8.toNat_inj.1 e)
   rcases(show a<b\/b<a by rw[UInt8.lt_iff_toNat_lt,UInt8.lt_iff_toNat_lt];omega) with h3 | h3
   .have h4:¬ b<a:=UInt8.lt_asymm h3;simp[h3,h4]
   .have h4:¬ a<b:=UInt8.lt_asymm h3;simp[h3,h4]
def Ar9(l:List UInt8)(hl:l.length<=4096):Fn TT PT 44 [.str l] (iV ((l.takeWhile (· != 10)).length:Int)):=by
 refine Bn T44 rfl ?_;have hg:=Lib.indexByte_ge l 10;have ht:=Xe (p:=(· != 10)) l;have q:Pw [.str l,.int .u8 10]=some (iV (Lib.indexByte l 10)):=rfl;rcases Amz l with⟨h1,h2⟩ | h1
 .rw[h1]at q;rw[h2];simp only[go_sem];refine Ft P53 (by simp only[go_sem]) q ?_;simp only[go_sem,ge_iff_le];exact Ao rfl rfl
 .rw[h1]at q;generalize(l.takeWhile (· != 10)).length=n at q;have f1:((0:Int)<=(n:Int))=True:=eq_true (by omega);simp only[go_sem];refine Ft P53 (by simp only[go_sem]) q ?_;simp only[go_sem,ge_iff_le,f1];exact Ao rfl rfl
def Av3(c:UInt8)(r:List UInt8)(hl:(c::r).length<=4096):Fn TT PT 75 [.str (c::r)] (iV (Iq (c::r):Int)):=by
 have q:Pw [.str oneS,.int .u8 (c.toNat:Int)]=some (iV (Lib.indexByte oneS c)):=by
  simp only[Pw,P8,Nat.toUInt8_eq,UInt8.ofNat_toNat]
 have qZ:=Azz oneS c;have qJ:∀ b:Bool,oneS.elem c=b->decide (0<=Lib.indexByte oneS c)=b:=fun b h=>qZ.trans h
 rw[Ak]at hl;refine Bn T75 rfl ?_
 have qz:∀ b:Bool,oneS.elem c=b->(0<=Lib.indexByte oneS c)=(b=true):=fun b h=>by
  have:=qJ b h;cases b
  .simp only[decide_eq_false_iff_not]at this
   exact eq_false this |>.trans (by simp)
  .simp only[decide_eq_true_eq]at this
   exact eq_true this |>.trans (by simp)
 have i0:(c::r)[0]?=some c:=rfl;have hk:∀ b:Bool,oneS.elem c=b->((0<=Lib.indexByte oneS c)=(b=true)):=qz;unfold Iq;by_cases h2:2<=r.length+1
 .have g2:((2:Int)<=((r.length+1:Nat):Int))=True:=eq_true (by omega);have g3:(2<=r.length+1)=True:=eq_true h2;have d2:decide (2<=(c::r).length)=true:=by simp;omega
  rw[d2,Acu];generalize hw:(c::r).take 2=w;by_cases a1:w=[124,124]
  .rw[a1]at hw ⊢;have e1:(([124,124]:List UInt8)==[124,124])=true:=by decide
   simp only[go_sem,ge_iff_le,g2,g3,hw,e1];exact Ao rfl rfl
  have e1:(w==[124,124])=false:=by simp[a1]
  by_cases a2:w=[38,38]
  .rw[a2]at hw ⊢;rw[a2]at e1;have e2:(([38,38]:List UInt8)==[38,38])=true:=by decide
   simp only[go_sem,ge_iff_le,g2,g3,hw,e1,e2];exact Ao rfl rfl
  have e2:(w==[38,38])=false:=by simp[a2]
  by_cases a3:w=[61,61]
  .rw[a3]at hw ⊢;rw[a3]at e1;rw[a3]at e2;have e3:(([61,61]:List UInt8)==[61,61])=true:=by decide
   simp only[go_sem,ge_iff_le,g2,g3,hw,e1,e2,e3];exact Ao rfl rfl
  have e3:(w==[61,61])=false:=by simp[a3]
  by_cases a4:w=[33,61]
  .rw[a4]at hw ⊢;rw[a4]at e1;rw[a4]at e2;rw[a4]at e3;have e4:(([33,61]:List UInt8)==[33,61])=true:=by decide
   simp only[go_sem,ge_iff_le,g2,g3,hw,e1,e2,e3,e4];exact Ao rfl rfl
  have e4:(w==[33,61])=false:=by simp[a4]
  by_cases a5:w=[60,61]
  .rw[a5]at hw ⊢;rw[a5]at e1;rw[a5]at e2;rw[a5]at e3;rw[a5]at e4;have e5:(([60,61]:List UInt8)==[60,61])=true:=by decide
   simp only[go_sem,ge_iff_le,g2,g3,hw,e1,e2,e3,e4,e5];exact Ao rfl rfl
  have e5:(w==[60,61])=false:=by simp[a5]
  by_cases a6:w=[62,61]
  .rw[a6]at hw ⊢;rw[a6]at e1;rw[a6]at e2;rw[a6]at e3;rw[a6]at e4;rw[a6]at e5;have e6:(([62,61]:List UInt8)==[62,61])=true:=by decide
   simp only[go_sem,ge_iff_le,g2,g3,hw,e1,e2,e3,e4,e5,e6];exact Ao rfl rfl
  have e6:(w==[62,61])=false:=by simp[a6]
  have en:twoS.elem w=false:=by simp[twoS,a1,a2,a3,a4,a5,a6]
  rw[en];cases hb:oneS.elem c
  all_goals
   have f:=hk _ hb;simp only[go_sem,ge_iff_le,g2,g3,hw,e1,e2,e3,e4,e5,e6,i0];refine Ft P53 (by simp only[go_sem]) q ?_;simp only[go_sem,ge_iff_le,f];exact Ao rfl (by rw[hb];rfl)
 .have g2:((2:Int)<=((r.length+1:Nat):Int))=False:=eq_false (by omega);have d2:decide (2<=(c::r).length)=false:=decide_eq_false (by rw[Ak];omega);rw[d2,R8];cases hb:oneS.elem c
  all_goals
   have f:=hk _ hb;simp only[go_sem,ge_iff_le,g2,i0];refine Ft P53 (by simp only[go_sem]) q ?_;simp only[go_sem,ge_iff_le,f];exact Ao rfl (by rw[hb];rfl)
def Az0(c:UInt8)(r:List UInt8)(hc:E3 c=true)(hl:(c::r).length<=4096):Fn TT PT 74 [.str (c::r)] (if Rf (r.dropWhile E3) then .tup [.agg (Tk.row Tk.zero),iV 3] else if N4 (Ea c r) then .tup [.agg (Tk.row ⟨2,Ea c r,0⟩),iV 0] else .tup [.agg (Tk.row Tk.zero),iV 3]):=by
 obtain⟨w1,w2,w3,w4⟩:=Xe (p:=E3) r;have hd:=Aeq E3 r;have hW:(c::r).take (Ea c r).length=Ea c r:=by simp[Ea,w4]
 have qu:(Ea c r).length=(r.takeWhile E3).length+1:=by simp[Ea]
 rw[Ak]at hl;generalize hn:(Ea c r).length=n at hW qu ⊢;refine Bn T74 rfl ?_;simp only[go_sem];refine Bv (α:=Nat) (fun i=>n - i) (fun i=>[(0,.str (c::r)),(2,.ptr 0 0 0),(4,iV (i:Int))]) (fun _=>[.row [iV 0,.str [],iV 0] 100 0 0]) (fun i=>1<=i/\i<=n) ?_ 1 ⟨by omega,by omega⟩;rintro i ⟨h1,h2⟩ ih;refine Bw (by delta lp74_0;exact rfl) ?_;by_cases hi:i<n
 .obtain⟨x,x1,x2⟩:=w1 (i - 1) (by omega)
  have x3:(c::r)[i]?=some x:=by
   obtain⟨j,rfl⟩:∃ j,i=j+1:=⟨i - 1,by omega⟩;simpa using x1
  have qc:=Bp (show i<r.length+1 by omega);have qg:=Bf (show i<9223372036854775807 by omega);simp only[go_sem,qc,nn,x3];refine Ad (Oy x) (by simp only[go_sem]) ?_;simp only[go_sem,x2,qg];exact Bd (ih (i+1) (by omega) (by omega)) rfl
 .obtain rfl:i=n:=by omega
  have gi:(i<=r.length+1)=True:=eq_true (by omega)
  have qF:Pq (.str (c::r)) none (some (iV (i:Int)))=some (.str (Ea c r)):=by
   rw[Apu _ _ (by simp;omega),hW]
  have qx:N4 (Ea c r)=!(decide (19<((Ea c r).dropWhile (·==48)).length)||(decide (((Ea c r).dropWhile (·==48)).length=19)&&Op.bytesLess greatS ((Ea c r).dropWhile (·==48)))):=rfl;have q:Uv [.str (Ea c r),.str [48]]=some (.str ((Ea c r).dropWhile (·==48))):=rfl;generalize(Ea c r).dropWhile (·==48)=d at qx q
  have qw:(i<r.length+1/\∃ x,(c::r)[i]?=some x/\E3 x=false/\Rf (r.dropWhile E3)=(Hr x||x==95))\/(r.length+1<=i/\Rf (r.dropWhile E3)=false):=by
   by_cases hb:i<r.length+1
   .obtain⟨x,x1,x2⟩:=w2 (by omega);have x3:(c::r)[i]?=some x:=by rw[qu];simpa using x1
    refine .inl ⟨hb,x,x3,x2,?_⟩;rw[<-hd,Fv (Ap.1 x1).1,(Ap.1 x1).2];rfl
   .refine .inr ⟨by omega,?_⟩;rw[<-hd,F4 (by omega)];rfl
  have q:Uv [.str (Ea c r),.str [48]]=some (.str d):=q;have qC:(!(Op.bytesLess d [57,50,50,51,51,55,50,48,51,54,56,53,52,55,55,53,56,48,55]||d==[57,50,50,51,51,55,50,48,51,54,56,53,52,55,55,53,56,48,55]))=Op.bytesLess greatS d:=Aok d greatS
  have tail:∀ b:Bool,N4 (Ea c r)=b->(b=true/\decide (19<(d.length:Int))=false/\(((d.length:Int)==19)=false\/(((d.length:Int)==19)=true/\Op.bytesLess greatS d=false)))\/(b=false/\(decide (19<(d.length:Int))=true\/(decide (19<(d.length:Int))=false/\((d.length:Int)==19)=true/\Op.bytesLess greatS d=true))):=fun b hb=>by
   have k1:decide (19<(d.length:Int))=decide (19<d.length):=by rw[decide_eq_decide];omega
   have k2:((d.length:Int)==19)=decide (d.length=19):=by
    rw[Bool.eq_iff_iff,beq_iff_eq,decide_eq_true_eq];omega
   rw[k1,k2];rw[qx]at hb;subst hb
   cases decide (19<d.length)<;>cases decide (d.length=19)<;>cases Op.bytesLess greatS d<;>simp
  rcases qw with⟨hb,x,x3,hD,hg⟩ | ⟨hb,hg⟩
  .have qc:=Bp hb;have qr:((x.toNat:Int)==95)=(x==95):=Pi x 95 (by decide);simp only[go_sem,qc,nn,x3];refine Ad (Oy x) (by simp only[go_sem]) ?_;simp only[go_sem,hD,qc,nn,x3];refine Ad (Mo x) (by simp only[go_sem]) ?_;rw[hg];cases hL:Hr x
   .cases h9:(x==95)
    .simp only[go_sem,nn,x3,qr,h9,gi,hW,Ay,true_and,if_true,C4];refine Ft P100 (by simp only[go_sem]) q ?_;rcases tail _ rfl with⟨hb,k1,k2 | ⟨k2,k3⟩⟩ | ⟨hb,k1 | ⟨k1,k2,k3⟩⟩
     all_goals rw[hb]
     .simp only[go_sem,gt_iff_lt,k1,k2,nn,gi,hW,Ay,true_and,if_true,C4];exact F7 (by simp only[go_sem]) rfl
     .simp only[go_sem,gt_iff_lt,k1,k2,qC,k3,nn,gi,hW,Ay,true_and,if_true,C4];exact F7 (by simp only[go_sem]) rfl
     .simp only[go_sem,gt_iff_lt,k1];exact F7 (by simp only[go_sem]) rfl
     .simp only[go_sem,gt_iff_lt,k1,k2,qC,k3];exact F7 (by simp only[go_sem]) rfl
    .simp only[go_sem,nn,x3,qr,h9];exact F7 (by simp only[go_sem]) rfl
   .simp only[go_sem];exact F7 (by simp only[go_sem]) rfl
  .rw[hg];simp only[go_sem,Ce hb,nn,gi,hW,Ay,true_and,if_true,C4];refine Ft P100 (by simp only[go_sem]) q ?_;rcases tail _ rfl with⟨hb,k1,k2 | ⟨k2,k3⟩⟩ | ⟨hb,k1 | ⟨k1,k2,k3⟩⟩
   all_goals rw[hb]
   .simp only[go_sem,gt_iff_lt,k1,k2,nn,gi,hW,Ay,true_and,if_true,C4];exact F7 (by simp only[go_sem]) rfl
   .simp only[go_sem,gt_iff_lt,k1,k2,qC,k3,nn,gi,hW,Ay,true_and,if_true,C4];exact F7 (by simp only[go_sem]) rfl
   .simp only[go_sem,gt_iff_lt,k1];exact F7 (by simp only[go_sem]) rfl
   .simp only[go_sem,gt_iff_lt,k1,k2,qC,k3];exact F7 (by simp only[go_sem]) rfl
def Av4(c:UInt8)(r:List UInt8)(hl:(c::r).length<=4096):∃ e:Int,e≠0/\Fn TT PT 45 [.str (c::r)] (match K7 (c::r) with
  | some (k,w)=>.tup [.agg (Tk.row ⟨k,w,0⟩),.int .i64 0]
  | none=>.tup [.agg (Tk.row Tk.zero),.int .i64 e]):=by
 have i0:(c::r)[0]?=some c:=rfl;have hT:TT 45=some af45:=T45;cases hL:Hr c
 .cases hD:E3 c
  .have hs:=Av3 c r hl;by_cases h0:Iq (c::r)=0
   .have hf:K7 (c::r)=none:=by rw[Sm,if_neg (by rw[hL];decide),if_neg (by rw[hD];decide),if_pos h0]
    rw[hf];have e0:((Iq (c::r):Int)==0)=true:=by rw[h0];rfl
    refine⟨3,by decide,Bn T45 rfl ?_⟩;simp only[go_sem,i0];refine Ad (Mo c) (by simp only[go_sem]) ?_;simp only[go_sem,hL];refine Ad (Oy c) (by simp only[go_sem]) ?_;simp only[go_sem,hD];refine Ad hs (by simp only[go_sem]) ?_;simp only[go_sem,e0];exact F7 (by simp only[go_sem]) rfl
   .have hf:K7 (c::r)=some (4,(c::r).take (Iq (c::r))):=by rw[Sm,if_neg (by rw[hL];decide),if_neg (by rw[hD];decide),if_neg h0]
    rw[hf];have qH:=(Amy h0).2;rw[Ak]at qH;generalize Iq (c::r)=n at hs h0 qH ⊢;have e0:((n:Int)==0)=false:=by rw[beq_eq_false_iff_ne];omega
    have gi:(n<=r.length+1)=True:=eq_true qH;generalize hw:(c::r).take n=w;refine⟨3,by decide,Bn T45 rfl ?_⟩;simp only[go_sem,i0];refine Ad (Mo c) (by simp only[go_sem]) ?_;simp only[go_sem,hL];refine Ad (Oy c) (by simp only[go_sem]) ?_;simp only[go_sem,hD];refine Ad hs (by simp only[go_sem]) ?_;simp only[go_sem,e0,nn,gi,hw,Ay,true_and,if_true,C4];exact F7 (by simp only[go_sem]) rfl
  .have hs:=Az0 c r hD hl;have qW:Hr c≠true:=by rw[hL];decide
   refine⟨3,by decide,Bn T45 rfl ?_⟩
   have hf:K7 (c::r)=if Rf (r.dropWhile E3) then none else if N4 (Ea c r) then some (2,Ea c r) else none:=by rw[Sm,if_neg qW,if_pos hD]
   rw[hf]
   cases hg:Rf (r.dropWhile E3)<;>cases hk:N4 (Ea c r)
   all_goals
    rw[hg]at hs;rw[hk]at hs;simp only[Fb,if_false,if_true,Tk.row,Tk.zero]at hs ⊢;simp only[go_sem,i0];refine Ad (Mo c) (by simp only[go_sem]) ?_;simp only[go_sem,hL];refine Ad (Oy c) (by simp only[go_sem]) ?_;simp only[go_sem,hD];refine Ad hs (by simp only[go_sem]) ?_;simp only[go_sem];exact F7 (by simp only[go_sem]) rfl
 .have hs:=Azy c r hl;refine⟨2,by decide,Bn T45 rfl ?_⟩
  have hf:K7 (c::r)=if 12<(Ej c r).length then none else some (if Gv (Ej c r) then 3 else 1,Ej c r):=by rw[Sm,if_pos hL]
  rw[hf];by_cases qj:12<(Ej c r).length
  .rw[if_pos qj]at hs ⊢;simp only[Tk.row,Tk.zero]at hs ⊢;simp only[go_sem,i0];refine Ad (Mo c) (by simp only[go_sem]) ?_;simp only[go_sem,hL];refine Ad hs (by simp only[go_sem]) ?_;simp only[go_sem];exact F7 (by simp only[go_sem]) rfl
  .rw[if_neg qj]at hs ⊢;simp only[Tk.row]at hs ⊢;generalize(if Gv (Ej c r)=true then(3:Int) else 1)=k at hs ⊢;simp only[go_sem,i0];refine Ad (Mo c) (by simp only[go_sem]) ?_;simp only[go_sem,hL];refine Ad hs (by simp only[go_sem]) ?_;simp only[go_sem];exact F7 (by simp only[go_sem]) rfl
/-! the whole text -/
def Agb{f p:Nat}{res:List AR}{body:AC}{vs:List V}{R:V->Prop}(hT:TT f=some ⟨p,res,false,body,none⟩)(hl:vs.length=p)(h:W TT PT [.c body] (C6 0 vs) [] (Hd fun e' σ1=>∃ v,FQ res v e' σ1/\R v)):∃ v,Fn TT PT f vs v/\R v:=by
 obtain⟨e',σ',hE,v,hq,hR⟩:=h;exact⟨v,Bn hT hl ⟨e',σ',hE,hq⟩,hR⟩
def A3u{σ:St}{m e i g:Nat}{xs:List (List V)}{w y:Int}(ho:σ[i]?=some (.row xs.flatten e g 0))(hm:0<m)(hl:∀ r∈xs,r.length=m)(hr:∀ r∈xs,r.all V.rowB=true):
  FR (.tup [.sl i g 0 xs.length m true,iV w,iV y]) σ (.tup [.lst 0 xs,iV w,iV y]):=by
 obtain⟨hi,je⟩:=Ap.1 ho;have hx:Al xs.flatten=[]:=Jk (Lq hr);have h0:ren 0 [i] i=0:=by simp[ren,List.findIdx_cons]
 refine .inr ⟨[i],?_,?_⟩
 .simp only[Hf,Ch,H3,V.refs,Al,Av,Be,V.cellB,Cm];simp[En,je,Ob.refs,hx,hi]
 .simp only[J8,ho,Ya,Bb,By,Ob.ren,Ae9 i _ (Lq hr),V.ren,Hb,h0,Ei,I3];have ha:OV [Ob.row xs.flatten e g 0] (V.sl 0 g 0 xs.length m true) (.lst 0 xs):=Z3 (Tz (i:=0) (g:=g) (e:=e) (z:=0) (w:=true) rfl hm hl hr) rfl;have qU:∀ n:Int,OV [Ob.row xs.flatten e g 0] (iV n) (iV n):=fun n=>I6 rfl
  exact congrArg (Option.map V.tup) (Wg (.cons ha (.cons (qU w) (.cons (qU y) .nil))) fun j hj=>Sv _ _ _ _ (Yc.2 hj))
def A3v{σ:St}{m e lo:Nat}{u:V}{w y:Int}{xs:List (List V)}(h:GW σ m e lo u xs)(hm:0<m)(hl:∀ r∈xs,r.length=m)(hr:∀ r∈xs,r.all V.rowB=true):
  FR (.tup [u,iV w,iV y]) σ (.tup [SL true 0 xs,iV w,iV y]):=by
 rcases h with⟨rfl,rfl⟩ | ⟨hn,i,g,rfl,ho,jl⟩
 .exact I4 rfl
 .rw[Af7 hn];exact A3u ho hm hl hr
def A3w(c:UInt8)(r:List UInt8):Lib.hasPrefix (c::r) [47,47]=decide (c=47/\r.head?=some 47):=by
 unfold Lib.hasPrefix
 cases r with
 | nil=>simp[List.isPrefixOf]
 | cons d r=>
  simp only[List.isPrefixOf,U9,List.head?_cons,Ye]
  by_cases h1:c=47<;>by_cases h2:d=47<;>simp[h1,h2]<;>exact fun h=>absurd h.symm (by assumption)
def Agc(s:List UInt8)(v:V):Prop:=match (if 4096<s.length then none else D3 s.length 1 s) with
 | some L=>v=.tup [SL true 0 (L.map Tk.row),.int .i64 0,.int .i64 0]
 | none=>∃ e ln:Int,e≠0/\v=.tup [.nils,.int .i64 e,.int .i64 ln]
def A3x(t:Tk):t.row.length=3:=rfl
def A3y(t:Tk):t.row.all V.rowB=true:=rfl
def Az1(s:List UInt8):∃ v,Fn TT PT 27 [.str s] v/\Agc s v:=by
 refine Agb T27 rfl ?_;unfold Agc;by_cases qv:4096<s.length
 .have f1:((4096:Int)<(s.length:Int))=True:=eq_true (by omega);rw[if_pos qv];simp only[go_sem,gt_iff_lt,f1];exact⟨_,I4 (by rfl),2,0,by decide,rfl⟩
 .have f1:((4096:Int)<(s.length:Int))=False:=eq_false (by omega);rw[if_neg qv];simp only[go_sem,gt_iff_lt,f1];refine Bv (α:=Nat × Nat × V × List Tk × St) (fun a=>s.length - a.1) (fun a=>[(0,.str s),(5,a.2.2.1),(6,iV (a.2.1:Int)),(7,iV (a.1:Int))]) (fun a=>a.2.2.2.2) (fun a=>a.1<=s.length/\a.2.1<=a.1+1/\a.2.2.2.1.length<=a.1/\GW a.2.2.2.2 3 100 0 a.2.2.1 (a.2.2.2.1.map Tk.row)/\D3 s.length 1 s=(D3 s.length (a.2.1:Int) (s.drop a.1)).map (a.2.2.2.1++·)) ?_ (0,1,.nils,[],[]) ⟨Ay _,Ah _,Ah _,F9,by simp⟩;rintro⟨i,ln,u,L,σ⟩ ⟨hi,jc,hL,hg,qb⟩ ih;simp only at hi jc hL hg qb ih
  have qS:∀ r∈L.map Tk.row,r.length=3:=by
   intro r hr;obtain⟨x,-,rfl⟩:=Dq.1 hr;exact A3x x
  have jf:∀ r∈L.map Tk.row,r.all V.rowB=true:=by
   intro r hr;obtain⟨x,-,rfl⟩:=Dq.1 hr;exact A3y x
  refine Bw (by delta lp27_0;exact rfl) ?_;by_cases hc:i<s.length
  .obtain⟨c,r,qf⟩:∃ c r,s.drop i=c::r:=by
    rw[Fv hc];exact⟨_,_,rfl⟩
   have x3:s[i]?=some c:=by
    have:=congrArg (·[0]?) qf;simpa using this
   have qI:(c::r).length=s.length - i:=by rw[<-qf,Dn]
   have qR:s.drop (i+1)=r:=by
    have:=congrArg List.tail qf;simpa[List.tail_drop] using this
   have qc:=Bp hc;have gi:(i<=s.length)=True:=eq_true hi;have qk:((c.toNat:Int)==10)=(c==UInt8.ofNat 10):=Pi c 10 (by decide);have qp:((c.toNat:Int)==32)=(c==UInt8.ofNat 32):=Pi c 32 (by decide);have e9:((c.toNat:Int)==9)=(c==UInt8.ofNat 9):=Pi c 9 (by decide);have qy:((c.toNat:Int)==13)=(c==UInt8.ofNat 13):=Pi c 13 (by decide);have qg:=Bf (show i<9223372036854775807 by omega);have qG:=Bf (show ln<9223372036854775807 by omega);obtain⟨k,hk⟩:∃ k,s.length=k+1:=⟨s.length - 1,by omega⟩;rw[Ak]at qI
   have qe:D3 s.length (ln:Int) (s.drop i)=if c=10 then D3 k ((ln:Int)+1) r else if c=32\/c=9\/c=13 then D3 k (ln:Int) r else if c=47/\r.head?=some 47 then D3 k (ln:Int) ((c::r).dropWhile (· != 10)) else match K7 (c::r) with
     | none=>none
     | some (q,w)=>(D3 k (ln:Int) ((c::r).drop w.length)).map fun l=>⟨q,w,(ln:Int)⟩::l:=by rw[hk,qf];rfl
   have any:∀ (n:Int) (l:List UInt8),l.length<=k->D3 k n l=D3 s.length n l:=fun n l h=>Vy _ _ n l h (by omega)
   by_cases qt:c=10
   .have qi:(c==UInt8.ofNat 10)=true:=by rw[qt];rfl
    rw[if_pos qt,any _ _ (by omega)]at qe;simp only[go_sem,qc,nn,x3,qk,qi,qg,qG];refine Bd (ih (i+1,ln+1,u,L,σ) (by simp;omega) ⟨by simp;omega,by simp;omega,by simp;omega,hg,?_⟩) rfl;simp only;rw[qR,qb,qe];rfl
   .have qi:(c==UInt8.ofNat 10)=false:=by rw[beq_eq_false_iff_ne];exact qt
    rw[if_neg qt]at qe;by_cases qo:c=32\/c=9\/c=13
    .rw[if_pos qo,any _ _ (by omega)]at qe
     have next:W TT PT _ [(0,.str s),(5,u),(6,iV (ln:Int)),(7,iV ((i+1:Nat):Int))] σ _:=ih (i+1,ln,u,L,σ) (by simp;omega) ⟨by simp;omega,by simp;omega,by simp;omega,hg,by simp only;rw[qR,qb,qe]⟩
     rcases qo with rfl | rfl | rfl
     .simp only[go_sem,qc,nn,x3,qk,qi,qp,(show((32:UInt8)==UInt8.ofNat 32)=true from rfl),qg]
      exact Bd next rfl
     .simp only[go_sem,qc,nn,x3,qk,qi,qp,e9,(show((9:UInt8)==UInt8.ofNat 32)=false from rfl),(show((9:UInt8)==UInt8.ofNat 9)=true from rfl),qg]
      exact Bd next rfl
     .simp only[go_sem,qc,nn,x3,qk,qi,qp,e9,qy,(show((13:UInt8)==UInt8.ofNat 32)=false from rfl),(show((13:UInt8)==UInt8.ofNat 9)=false from rfl),(show((13:UInt8)==UInt8.ofNat 13)=true from rfl),qg]
      exact Bd next rfl
    .rw[if_neg qo]at qe;simp only[not_or]at qo;have qE:(c==UInt8.ofNat 32)=false:=by rw[beq_eq_false_iff_ne];exact qo.1
     have b9:(c==UInt8.ofNat 9)=false:=by rw[beq_eq_false_iff_ne];exact qo.2.1
     have qD:(c==UInt8.ofNat 13)=false:=by rw[beq_eq_false_iff_ne];exact qo.2.2
     have q:Xq [.str (c::r),.str [47,47]]=some (.bool (decide (c=47/\r.head?=some 47))):=by rw[<-A3w];rfl
     by_cases qB:c=47/\r.head?=some 47
     .rw[if_pos qB]at qe;rw[decide_eq_true qB]at q;have hd:=Wi (· != 10) (c::r);have qN:=Ar9 (c::r) (by rw[Ak];omega);have qO:=Aeq (· != 10) (c::r)
      have qP:1<=((c::r).takeWhile (· != 10)).length:=by
       rw[X9,if_pos (by simp[qt])];simp
      have qQ:((c::r).takeWhile (· != 10)).length<=(c::r).length:=(Xe (c::r)).2.2.1
      have jd:((c::r).dropWhile (· != 10)).length<=k:=by
       rw[<-qO,Dn,Ak];omega
      rw[any _ _ jd,<-qO]at qe;rw[Ak]at qQ;generalize((c::r).takeWhile (· != 10)).length=n at qN qe qP qQ;have qm:IntKind.i64.wrap ((i:Int)+(n:Int))=((i+n:Nat):Int):=by rw[C7 (by omega)];omega
      simp only[go_sem,qc,nn,x3,qk,qi,qp,qE,e9,b9,qy,qD,gi,qf,Ay,Ah,Cz,true_and,if_true,C4];refine Ft P43 (by simp only[go_sem]) q ?_;simp only[go_sem,nn,gi,qf,Ay,Ah,Cz,true_and,if_true,C4];refine Ad qN (by simp only[go_sem]) ?_;simp only[go_sem,qm];refine Bd (ih (i+n,ln,u,L,σ) (by simp;omega) ⟨by simp;omega,by simp;omega,by simp;omega,hg,?_⟩) rfl;simp only;rw[qb,qe,<-qf,Ni]
     .rw[if_neg qB]at qe;rw[decide_eq_false qB]at q;obtain⟨e,he,qs⟩:=Av4 c r (by rw[Ak];omega);have qK:∀ a:Ob,(σ++[a])[σ.length]?=some a:=fun a=>by simp
      have qV:∀ a b:Ob,(σ++[a]).set σ.length b=σ++[b]:=fun a b=>by simp[Ie]
      cases hf:K7 (c::r) with
      | none=>
       rw[hf]at qs qe;simp only[Tk.row,Tk.zero]at qs;have ne:(e != 0)=true:=by simp[he]
       have qb:D3 s.length 1 s=none:=by rw[qb,qe];rfl
       rw[qb];simp only[go_sem,qc,nn,x3,qk,qi,qp,qE,e9,b9,qy,qD,gi,qf,Ay,Ah,Cz,true_and,if_true,C4];refine Ft P43 (by simp only[go_sem]) q ?_;simp only[go_sem,nn,gi,qf,Ay,Ah,Cz,true_and,if_true,C4];refine Ad qs (by simp only[go_sem]) ?_;simp only[go_sem,qK,qV,ne];exact⟨_,I4 (by rfl),e,_,he,rfl⟩
      | some p=>
       obtain⟨kd,w⟩:=p;rw[hf]at qs qe;simp only[Tk.row]at qs qe;obtain⟨jn,qq,jg⟩:=Yx hf
       have jo:w.length+qq.length=r.length+1:=by
        have:=congrArg List.length jg;simp at this;omega
       have qm:IntKind.i64.wrap ((i:Int)+(w.length:Int))=((i+w.length:Nat):Int):=by rw[C7 (by omega)];omega
       have ne:((0:Int) != 0)=false:=by decide
       have qY:GW (σ++[.row [iV kd,.str w,iV (ln:Int)] 100 0 0]) 3 100 0 u (L.map Tk.row):=O5 hg;obtain⟨u',σ',ha,qX,jk,ja,-⟩:=Q5 (bytes:=32) (y:=.lst 1 [[iV kd,.str w,iV (ln:Int)]]) (ys:=[[iV kd,.str w,iV (ln:Int)]]) qY (Ay _) rfl (by omega) qS (by simp) (by simp;omega)
       have jb:σ'[σ.length]?=some (.row [iV kd,.str w,iV (ln:Int)] 100 0 0):=by
        rw[ja σ.length ?_ (by simp)]
        .exact qK _
        .intro j g hj jj;rcases hg with⟨rfl,-⟩ | ⟨-,j',g',rfl,ho,-⟩
         .cases hj
         .cases hj;have:=(Ap.1 ho).1;omega
       have qM:=Dk hg;rw[any _ _ (by rw[Dn,Ak];omega)]at qe;simp only[go_sem,qc,nn,x3,qk,qi,qp,qE,e9,b9,qy,qD,gi,qf,Ay,Ah,Cz,true_and,if_true,C4];refine Ft P43 (by simp only[go_sem]) q ?_;simp only[go_sem,nn,gi,qf,Ay,Ah,Cz,true_and,if_true,C4];refine Ad qs (by simp only[go_sem]) ?_;simp only[go_sem,qK,qV,ne,ha,jb,qm];refine Bd (ih (i+w.length,ln,u',L++[⟨kd,w,(ln:Int)⟩],σ') (by simp;omega) ⟨by simp;omega,by simp;omega,by simp;omega,by simpa[Tk.row] using qX,?_⟩) rfl;simp only;rw[qb,qe,<-Ni,qf]
       cases D3 s.length (ln:Int) ((c::r).drop w.length) with
       | none=>rfl
       | some l=>simp
  .have ji:i=s.length:=by omega
   simp only[go_sem,Ce (show s.length<=i by omega)]
   have hz:D3 s.length (ln:Int) (s.drop i)=some []:=by
    rw[F4 (by omega)]
    cases s.length<;>rfl
   rw[hz]at qb;rw[qb];refine⟨_,A3v hg (by omega) qS jf,?_⟩;simp
def Xu{s:St}{ob k off x:Nat}{cs:List V}{v:V}{e:Env}(q:s[ob]?=some (.row cs k 0 0))(he:e.get x=.ptr ob 0 off)(hc:cs[off]?=some v):Ae (.load 1 true (.t x)) e s=some (v,s):=by
 simp only[Ae,Ac,he,Hn,q];have hl:=(Ap.1 hc).1
 rw[if_pos ⟨trivial,by omega⟩,show(cs.drop off).take 1=[v] by
  rw[Fv hl,X7,List.take_zero];have:=(Ap.1 hc).2
  rw[this]]
 rfl
def D7{s:St}{ob off x:Nat}{v:V}{e:Env}(he:e.get x=.ptr ob 0 off)(h:∃ cs k,s[ob]?=some (.row cs k 0 0)/\cs[off]?=some v):Ae (.load 1 true (.t x)) e s=some (v,s):=by
 obtain⟨cs,k,q,hc⟩:=h;exact Xu q he hc
def Id{s:St}{off x:Nat}{cs:List V}{v:V}{e:Env}(he:e.get x=.imm cs off)(hc:cs[off]?=some v):Ae (.load 1 true (.t x)) e s=some (v,s):=by
 simp only[Ae,Ac,he,Hn];have hl:=(Ap.1 hc).1
 have hd:(cs.drop off).take 1=[v]:=by
  rw[Fv hl,X7,List.take_zero];have:=(Ap.1 hc).2;rw[this]
 rw[hd];simp[Ga];omega
def D8{s:St}{ob k x n:Nat}{cs:List V}{e:Env}(q:s[ob]?=some (.row cs k 0 0))(he:e.get x=.ptr ob 0 0)(hn:cs.length=n):Ae (.load n false (.t x)) e s=some (.agg cs,s):=by
 subst hn;simp only[Ae,Ac,he,Hn,q];simp[Ga]
def M9{s:St}{x n:Nat}{cs:List V}{e:Env}(he:e.get x=.imm cs 0)(hn:cs.length=n):Ae (.load n false (.t x)) e s=some (.agg cs,s):=by
 subst hn;simp only[Ae,Ac,he,Hn];simp[Ga]
section
variable {T:Nat->Option AF} {pr:Nat->Option (List V->Option V)} {qd:List (List Nat)} {n m:Nat} {e:Env} {σ:St} {fs:Fs} {ls:Ls} {K:Env->St->Fs->Ls->Prop} {i:AI}
def Az{v:V}{σ1:St}(h:K (e.putO i.dst v) σ1 ((m,σ,σ1)::fs) ls)(h1:Nb qd n m fs:=by repeat (first | exact trivial | refine⟨.inl (by rfl),?_⟩ | refine⟨by rfl,?_⟩ | refine⟨.inr ⟨by rfl,by rfl⟩,?_⟩ | refine⟨.inr ⟨by(first | exact Id rfl rfl | exact M9 rfl (by rfl) | exact D7 rfl ⟨_,_,by assumption,by rfl⟩ | exact D7 rfl ⟨_,_,Bx (by assumption),by rfl⟩ | exact D8 (by assumption) rfl (by rfl) | exact D8 (Bx (by assumption)) rfl (by rfl)),by(first | exact Id rfl rfl | exact M9 rfl (by rfl) | exact D7 rfl ⟨_,_,by assumption,by rfl⟩ | exact D7 rfl ⟨_,_,Bx (by assumption),by rfl⟩ | exact D8 (by assumption) rfl (by rfl) | exact D8 (Bx (by assumption)) rfl (by rfl))⟩,?_⟩))(h2:Nc qd n m σ σ1 ls:=by repeat (first | exact trivial | refine⟨.inl (by rfl),?_⟩ | refine⟨by rfl,?_⟩ | refine⟨.inr ⟨by rfl,by rfl⟩,?_⟩ | refine⟨.inr ⟨by(first | exact Id rfl rfl | exact M9 rfl (by rfl) | exact D7 rfl ⟨_,_,by assumption,by rfl⟩ | exact D7 rfl ⟨_,_,Bx (by assumption),by rfl⟩ | exact D8 (by assumption) rfl (by rfl) | exact D8 (Bx (by assumption)) rfl (by rfl)),by(first | exact Id rfl rfl | exact M9 rfl (by rfl) | exact D7 rfl ⟨_,_,by assumption,by rfl⟩ | exact D7 rfl ⟨_,_,Bx (by assumption),by rfl⟩ | exact D8 (by assumption) rfl (by rfl) | exact D8 (Bx (by assumption)) rfl (by rfl))⟩,?_⟩)):Jh qd n m i .ef v σ1 e σ fs ls K:=⟨h1,h2,h⟩
def wgR{v:V}{σ1:St}(h:K (e.putO i.dst v) σ fs ((m,fun s=>Ae i.op e s=some (v,s))::ls))(h1:Us qd n m (fun s=>Ae i.op e s=some (v,s)) fs:=by repeat (first | exact trivial | refine⟨.inl (by rfl),?_⟩ | refine⟨by rfl,?_⟩ | refine⟨.inr ⟨by rfl,by rfl⟩,?_⟩ | refine⟨.inr ⟨by(first | exact Id rfl rfl | exact M9 rfl (by rfl) | exact D7 rfl ⟨_,_,by assumption,by rfl⟩ | exact D7 rfl ⟨_,_,Bx (by assumption),by rfl⟩ | exact D8 (by assumption) rfl (by rfl) | exact D8 (Bx (by assumption)) rfl (by rfl)),by(first | exact Id rfl rfl | exact M9 rfl (by rfl) | exact D7 rfl ⟨_,_,by assumption,by rfl⟩ | exact D7 rfl ⟨_,_,Bx (by assumption),by rfl⟩ | exact D8 (by assumption) rfl (by rfl) | exact D8 (Bx (by assumption)) rfl (by rfl))⟩,?_⟩)):Jh qd n m i .rd v σ1 e σ fs ls K:=⟨h1,h⟩
def Gk{f:Nat}{vs:List V}{v:V}{σ1:St}(hf:Bt T pr f vs σ v σ1)(h:K (e.putO i.dst v) σ1 ((m,σ,σ1)::fs) ls)(h1:Nb qd n m fs:=by repeat (first | exact trivial | refine⟨.inl (by rfl),?_⟩ | refine⟨by rfl,?_⟩ | refine⟨.inr ⟨by rfl,by rfl⟩,?_⟩ | refine⟨.inr ⟨by(first | exact Id rfl rfl | exact M9 rfl (by rfl) | exact D7 rfl ⟨_,_,by assumption,by rfl⟩ | exact D7 rfl ⟨_,_,Bx (by assumption),by rfl⟩ | exact D8 (by assumption) rfl (by rfl) | exact D8 (Bx (by assumption)) rfl (by rfl)),by(first | exact Id rfl rfl | exact M9 rfl (by rfl) | exact D7 rfl ⟨_,_,by assumption,by rfl⟩ | exact D7 rfl ⟨_,_,Bx (by assumption),by rfl⟩ | exact D8 (by assumption) rfl (by rfl) | exact D8 (Bx (by assumption)) rfl (by rfl))⟩,?_⟩))(h2:Nc qd n m σ σ1 ls:=by repeat (first | exact trivial | refine⟨.inl (by rfl),?_⟩ | refine⟨by rfl,?_⟩ | refine⟨.inr ⟨by rfl,by rfl⟩,?_⟩ | refine⟨.inr ⟨by(first | exact Id rfl rfl | exact M9 rfl (by rfl) | exact D7 rfl ⟨_,_,by assumption,by rfl⟩ | exact D7 rfl ⟨_,_,Bx (by assumption),by rfl⟩ | exact D8 (by assumption) rfl (by rfl) | exact D8 (Bx (by assumption)) rfl (by rfl)),by(first | exact Id rfl rfl | exact M9 rfl (by rfl) | exact D7 rfl ⟨_,_,by assumption,by rfl⟩ | exact D7 rfl ⟨_,_,Bx (by assumption),by rfl⟩ | exact D8 (by assumption) rfl (by rfl) | exact D8 (Bx (by assumption)) rfl (by rfl))⟩,?_⟩)):Gj T pr qd n m i (.call f vs) e σ fs ls K:=.inr (.inr ⟨v,σ1,.any hf,h1,h2,h⟩)
end
open Go Go.RowKit Go.Sort
variable {G:List (Nat × List V)}
def Atp{x:Sp}(h:CnS x)(d:Nat)(D:Int)(g0:max D 0=(d:Int))(hl:(x.txt d).length<=10000000000000)(hd:d+x.sz<=1073741823):Fn TT PT 52 [.agg x.row,iV D] (.str (x.txt d)):=by
 have qh:=F2 x;refine Bn T52 rfl ?_
 have w0:WB [.row x.row 68 0 0,.row [.nilp,.nils] 131 0 0] [.row x.row 68 0 0,.row [.nilp,.nils] 131 0 0] 1 []:=by
  refine Akx (u:=.nils) ⟨.nilp,rfl,.inl rfl,F9⟩ ?_;exact Qy (Hk (s:=[]) (fun _ h=>by cases h) qh) (by simp[Ob.refs,Al,V.refs])
 obtain⟨s1,q1,v1⟩:=Avu h _ 1 [] d w0 (by simpa using hl) hd;obtain⟨s2,qT⟩:=Aoe v1;rw[Fd]at qT;have qn:=Es x;rw[qn]at q1 qh ⊢;simp only[go_sem,g0];refine Ca q1 ?_;simp only[go_sem];refine Ms (.spec T83 rfl rfl qT) ?_;simp only[go_sem];exact E7 rfl
def Av5{x:Sp}(h:CnS x)(d:Nat)(hl:(x.txt d).length<=10000000000000)(hd:d+x.sz<=1073741823):Fn TT PT 52 [.agg x.row,iV (d:Int)] (.str (x.txt d)):=Atp h d _ (by omega) hl hd
def TS(s:St)(b:Nat):Prop:=∃ (z:Bool) (t:Nat) (l:List UInt8) (qa:Nat),s[b]?=some (.row [SL z t (Bh l),iV (qa:Int)] 59 0 0)/\qa<=l.length/\l.length<=9223372036854775807
def TW(s σ:St)(b:Nat):Prop:=s.length<=σ.length/\(∀ i,i<s.length->i≠b->σ[i]?=s[i]?)/\TS σ b/\b<s.length
def Jx{s:St}{b:Nat}(h:TS s b):b<s.length:=by
 obtain⟨z,t,l,a,h,-⟩:=h;exact(Ap.1 h).1
def Az2{s:St}{b:Nat}(h:TS s b):TW s s b:=⟨Ah _,fun _ _ _=>rfl,h,Jx h⟩
def Az3{s l:St}{b:Nat}(h:TS s b):TS (s++l) b:=by
 obtain⟨z,t,r,a,h,h'⟩:=h;exact⟨z,t,r,a,Bx h,h'⟩
def Air{z:Bool}{t:Nat}{l:List UInt8}{a:Int}{T:Nat}:(Ob.row [SL z t (Bh l),iV a] T 0 0).refs=[]:=by
 unfold SL
 split<;>rfl
def Aol{T:Nat->Option AF}{pr:Nat->Option (List V->Option V)}{f p:Nat}{res:List AR}{thr:Bool}{body:AC}{vs:List V}{σ:St}{R:V->St->Prop}(hT:T f=some ⟨p,res,thr,body,none⟩)(hl:vs.length=p)
  (h:W T pr [.c body] (C6 0 vs) σ (Hd fun e' σ1=>∃ v,Cd e' σ1 res=some v/\(Ch v=true/\v.refs=[])/\(∀ i ob,i<σ.length->σ1[i]?=some ob->σ[i]?=some ob\/En σ.length [] ob.refs=true)/\R v (σ1.take σ.length))):∃ v σ',Bt T pr f vs σ v σ'/\R v σ':=by
 obtain⟨e',σ1,hE,v,hr,⟨h1,h2⟩,h3,h4⟩:=h;exact⟨v,_,⟨_,hT,rfl,.fn hT rfl hl hE hr h1 (by rw[h2];rfl) h3⟩,h4⟩
def Az4{s σ:St}{b:Nat}(h:TW s σ b):∀ i ob,i<s.length->σ[i]?=some ob->s[i]?=some ob\/En s.length [] ob.refs=true:=by
 intro i ob hi ho;by_cases hb:i=b
 .subst hb;obtain⟨z,t,l,a,h1,-⟩:=h.2.2.1;rw[ho]at h1;cases h1;exact .inr (by rw[Air];rfl)
 .rw[h.2.1 i hi hb]at ho;exact .inl ho
def Ok(l:List UInt8)(a n:Nat):Nat:=if a<l.length/\1<=n then((l[a]?).getD 0).toNat % n else 0
def Ru(l:List UInt8)(a n:Nat):Nat:=if a<l.length/\1<=n then a+1 else a
def K5{s:St}{b:Nat}{x:Ob}(h:s[b]?=some x):s.set b x=s:=by
 refine Ry fun i=>?_
 by_cases hi:b=i
 .subst hi;rw[Cc (Ap.1 h).1,h]
 .rw[Bg hi]
def Am0{s:St}{b t:Nat}{z:Bool}{l:List UInt8}{qa:Nat}(hs:s[b]?=some (.row [SL z t (Bh l),iV (qa:Int)] 59 0 0))(h1:qa<=l.length)(h2:l.length<=9223372036854775807)(n:Nat)(hn:n<=1000000000):
  Bt TT PT 22 [.ptr b 0 0,iV (n:Int)] s (iV (Ok l qa n:Int)) (s.set b (.row [SL z t (Bh l),iV (Ru l qa n:Int)] 59 0 0)):=by
 have hw:TW s s b:=Az2 ⟨z,t,l,qa,hs,h1,h2⟩;have qA:(Bh l).length=l.length:=by simp[Bh]
 suffices hh:∃ v s',Bt TT PT 22 [.ptr b 0 0,iV (n:Int)] s v s'/\v=iV (Ok l qa n:Int)/\s'=(s.set b (.row [SL z t (Bh l),iV (Ru l qa n:Int)] 59 0 0)) by
  obtain⟨v,s',h3,rfl,rfl⟩:=hh;exact h3
 refine Aol T22 rfl ?_
 have qz:¬ (qa<l.length/\1<=n)->iV 0=iV (Ok l qa n:Int)/\s.take s.length=(s.set b (.row [SL z t (Bh l),iV (Ru l qa n:Int)] 59 0 0)):=fun h=>by
  unfold Ok Ru;rw[if_neg h,if_neg h,K5 hs,Cz];exact⟨rfl,rfl⟩
 by_cases hg:l.length<=qa
 .have f1:((l.length:Int)<=(qa:Int))=True:=eq_true (by omega);simp only[go_sem];refine Ag (by kernel_rfl) ?_;simp only[go_sem,hs,qA,f1];exact⟨_,rfl,⟨rfl,rfl⟩,fun i ob _ h=>.inl h,qz (by omega)⟩
 .have f1:((l.length:Int)<=(qa:Int))=False:=eq_false (by omega);by_cases qP:n<1
  .have f2:((n:Int)<1)=True:=eq_true (by omega);simp only[go_sem];refine Ag (by kernel_rfl) ?_;simp only[go_sem,hs,qA,f1,f2];exact⟨_,rfl,⟨rfl,rfl⟩,fun i ob _ h=>.inl h,qz (by omega)⟩
  .have f2:((n:Int)<1)=False:=eq_false (by omega);simp only[go_sem];refine Ag (by kernel_rfl) ?_;simp only[go_sem,hs,qA,f1,f2];have hx:∃ c:UInt8,l[qa]?=some c:=⟨_,A2 (by omega)⟩;obtain⟨c,hc⟩:=hx;have qn:(Bh l)[qa]?=some [.int .u8 (c.toNat:Int)]:=by unfold Bh;rw[Aq,hc];rfl
   have e1:IntKind.i64.wrap ((qa:Int)+1)=((qa+1:Nat):Int):=by rw[C7 (by omega)];rfl
   have qL:=Jx hw.2.2.1;have k1:(s.set b (.row [SL z t (Bh l),iV ((qa+1:Nat):Int)] 59 0 0))[b]?=some (.row [SL z t (Bh l),iV ((qa+1:Nat):Int)] 59 0 0):=by rw[Cc qL]
   have e2:IntKind.i64.wrap (((qa+1:Nat):Int) - 1)=(qa:Int):=by rw[C7 (by omega)];omega
   have f3:((n:Int)=0)=False:=eq_false (by omega);have jh:c.toNat<256:=c.toNat_lt;have e3:IntKind.i64.wrap (c.toNat:Int)=(c.toNat:Int):=C7 (by omega);have e4:((c.toNat:Int).tmod (n:Int))=((c.toNat % n:Nat):Int):=by rw[Int.tmod_eq_emod_of_nonneg (by omega)];rfl
   simp only[go_sem,e1];refine Ag (by kernel_rfl) ?_;simp only[go_sem,k1,e2,qA,qn,f3,not_false_eq_true,e3,e4]
   have qh:TW s (s.set b (.row [SL z t (Bh l),iV ((qa+1:Nat):Int)] 59 0 0)) b:=
    ⟨by simp,fun i hi hb=>by rw[Bg (Ne.symm hb)],⟨z,t,l,qa+1,k1,by omega,h2⟩,qL⟩
   refine⟨_,rfl,⟨rfl,rfl⟩,Az4 qh,?_,?_⟩
   .unfold Ok;rw[if_pos (by omega),hc];rfl
   .unfold Ru;rw[if_pos (by omega),Mj (by simp)]
def Av6(l:List UInt8)(a n:Nat):(Ok l a n<n\/Ok l a n=0)/\Ok l a n<=255:=by
 unfold Ok
 split
 .rename_i h;have hm:=Nm ((l[a]?).getD 0).toNat (show 0<n by omega);have jm:=Nat.mod_le ((l[a]?).getD 0).toNat n;have:=((l[a]?).getD 0).toNat_lt;omega
 .omega
def A7l{l:List UInt8}{a:Nat}(n:Nat)(h:a<=l.length):Ru l a n<=l.length:=by
 unfold Ru
 split<;>omega
def Ak7{s:St}{b:Nat}(h:TS s b)(n:Nat)(hn:n<=1000000000):∃ (r:Nat) (s':St),Bt TT PT 22 [.ptr b 0 0,iV (n:Int)] s (iV (r:Int)) s'/\TW s s' b/\s'.length=s.length/\(r<n\/r=0)/\r<=255/\∀ z,Bt TT PT 22 [.ptr b 0 0,iV (n:Int)] (s++[z]) (iV (r:Int)) (s'++[z]):=by
 have hb:=Jx h;obtain⟨z,t,l,qa,hs,h1,h2⟩:=h;have hx:=Am0 hs h1 h2 n hn;obtain⟨b1,b2⟩:=Av6 l qa n;refine⟨_,_,hx,⟨by simp,fun i hi hb=>by rw[Bg (Ne.symm hb)],⟨z,t,l,_,Cc hb,A7l n h1,h2⟩,hb⟩,by simp,b1,b2,fun z'=>?_⟩;have:=Am0 (Bx (l:=[z']) hs) h1 h2 n hn;rw[U1 _ _ hb]at this;exact this
def Ro{τ:St}{i x t n:Nat}{cs:List V}{e:Env}(h:τ[i]?=some (.row cs t 0 0))(h1:e.get x=.ptr i 0 0)(hn:cs.length=n):Cd e τ [AR.cell x n false]=some (.agg cs):=by
 subst hn;simp only[Cd,Fw,h1,Hn,h];simp[Ga]
def A3z{cs:List V}(h:Dg (.agg cs)=true):Ch (.agg cs)=true/\(V.agg cs).refs=[]:=⟨Wf h,Sk h⟩
def Ji(nm:List UInt8):Prop:=B3 nm=true/\nm.length<=4
def Vz(l:List (List UInt8))(hl:(l.all fun x=>B3 x&&decide (x.length<=4))=true){j:Nat}(hj:j<l.length):∃ nm,(l.map fun x=>[V.str x])[j]?=some [.str nm]/\Ji nm:=by
 refine⟨l[j],by rw[Aq,A2 hj];rfl,?_⟩;have:=Bi.1 hl l[j] (Fc _);simp only[Af,decide_eq_true_eq]at this;exact this
def Av7(nm:List UInt8):Fn TT PT 60 [.str nm] (.agg (Xp.row ⟨2,0,nm,true,0,[]⟩)):=by
 refine Bn T60 rfl ?_;simp only[go_sem];exact E7 rfl
def Am1(op:Int)(a c:Xp):Fn TT PT 59 [iV op,.agg a.row,.agg c.row] (.agg (Xp.row ⟨op,0,[],true,1,[a,c]⟩)):=by
 have ha:=Df a;have hc:=Df c;refine Bn T59 rfl ?_;rw[A0 ⟨op,0,[],true,1,[a,c]⟩];simp only[Bb,By];rw[A0 a,A0 c]at *;simp only[go_sem];exact E7 (by simp only[go_sem])
def EB:Nat->Nat
 | 0=>22
 | d+1=>2*EB d+10
def Abh(d:Nat):22<=EB d:=by
 cases d with
 | zero=>exact Ah _
 | succ d=>
  have:∀ d,22<=EB d:=fun d=>by
   induction d with
   | zero=>exact Ah _
   | succ d ih=>simp only[EB];omega
  exact this (d+1)
def Am2{d:Nat}(h:d≠0):EB d=2*EB (d - 1)+10:=by
 cases d with
 | zero=>exact absurd rfl h
 | succ d=>rfl
def Am3(op:Int):(Ci op).length<=2:=by
 unfold Ci
 split<;>simp
