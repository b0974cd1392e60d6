/- Plain: numerals. -/
import Derived.Test.YtphikjgngompaaaGreatDoorLa
set_option linter.all false
namespace Go.Proofs.YtphikjgngompaaaGreatDoor.KM
open Go
def Hf(qa:Nat)(l:List UInt8):Nat:=l.foldl (fun a c=>a*10+(c.toNat - 48)) qa
def K2(l:List UInt8):Prop:=∀ c∈l,Dx c=true
theorem Abr(qa:Nat):Hf qa []=qa:=rfl
theorem Vx(qa:Nat)(c:UInt8)(r:List UInt8):Hf qa (c::r)=Hf (qa*10+(c.toNat - 48)) r:=by grind[Hf]
def To{c:UInt8}{l:List UInt8}(h:K2 (c::l)):K2 l:=fun d hd=>h d (Ci _ hd)
def Bkm{c:UInt8}(h:Dx c=true):48<=c.toNat/\c.toNat<=57:=by
 grind[Dx,Mu]
def X6{c:UInt8}{l:List UInt8}(h:K2 (c::l)):48<=c.toNat/\c.toNat<=57:=Bkm (h c B7)
def Auc:∀ (l:List UInt8) (qa:Nat) (c:UInt8),Hf qa (l++[c])=Hf qa l*10+(c.toNat - 48)
 | [],_,_=>rfl
 | d::l,qa,c=>by rw[Bt,Vx,Vx];exact Auc l _ c
def Aa4:∀ (l:List UInt8) (qa:Nat),qa*10 ^ l.length<=Hf qa l
 | [],qa=>by grind[Abr]
 | c::l,qa=>by
  have:=Aa4 l (qa*10+(c.toNat - 48));have h1:qa*10*10 ^ l.length<=(qa*10+(c.toNat - 48))*10 ^ l.length:=E1 _ AA;have e:qa*10 ^ (l.length+1)=qa*10*10 ^ l.length:=by rw[Nat.pow_succ,Ai2 (10 ^ l.length),Nat.mul_assoc]
  rw[Ao,e];exact C9 h1 this
def Afp:∀ (l:List UInt8) (qa:Nat),K2 l->Hf qa l<(qa+1)*10 ^ l.length
 | [],qa,_=>by grind[Abr]
 | c::l,qa,h=>by
  have:=Afp l (qa*10+(c.toNat - 48)) (To h);have hc:=X6 h;have h1:(qa*10+(c.toNat - 48)+1)*10 ^ l.length<=(qa*10+10)*10 ^ l.length:=E1 _ AA;have e:(qa+1)*10 ^ (l.length+1)=(qa*10+10)*10 ^ l.length:=by rw[Nat.pow_succ,Ai2 (10 ^ l.length),<-Nat.mul_assoc,show(qa+1)*10=qa*10+10 by omega]
  rw[Ao,e];exact Px this h1
def Aud:∀ (a b:List UInt8) (qa:Nat),K2 a->K2 b->a.length=b.length->Op.bytesLess a b=decide (Hf qa a<Hf qa b)
 | [],[],qa,_,_,_=>by simp[Op.bytesLess]
 | [],_::_,_,_,_,h=>by simp at h
 | _::_,[],_,_,_,h=>by simp at h
 | x::a,y::b,qa,ha,hb,h=>by
  have hx:=X6 ha;have hy:=X6 hb;have hl:a.length=b.length:=by simpa using h
  simp only[Op.bytesLess];by_cases h1:x<y
  .have je:x.toNat<y.toNat:=h1;rw[decide_eq_true h1,Ai4]
   symm
   rw[decide_eq_true_eq];have p1:=Afp a (qa*10+(x.toNat - 48)) (To ha);have p2:=Aa4 b (qa*10+(y.toNat - 48));have p3:(qa*10+(x.toNat - 48)+1)*10 ^ a.length<=(qa*10+(y.toNat - 48))*10 ^ a.length:=E1 _ AA
   grind[Vx]
  .rw[decide_eq_false h1,U5];have je:y.toNat<=x.toNat:=Nat.le_of_not_lt h1;by_cases h2:x=y
   .subst h2;rw[beq_self_eq_true,W4];exact Aud a b _ (To ha) (To hb) hl
   .have jz:y.toNat<x.toNat:=by
     have:x.toNat≠y.toNat:=fun e=>h2 (UInt8.toNat_inj.1 e)
     omega
    rw[beq_eq_false_iff_ne.2 h2,W3]
    symm
    rw[decide_eq_false_iff_not];have p1:=Afp b (qa*10+(y.toNat - 48)) (To hb);have p2:=Aa4 a (qa*10+(x.toNat - 48));have p3:(qa*10+(y.toNat - 48)+1)*10 ^ b.length<=(qa*10+(x.toNat - 48))*10 ^ b.length:=E1 _ AA
    grind[Vx]
def Aue:∀ (l:List UInt8),Hf 0 (l.dropWhile (·==48))=Hf 0 l
 | []=>rfl
 | c::l=>by
  rw[Wx]
  split
  .rename_i h;have hc:c=48:=by simpa using h
   subst hc;rw[Aue l];rfl
  .rfl
def Ar0:∀ {l:List UInt8},K2 l->K2 (l.dropWhile (·==48))/\∀ c r,l.dropWhile (·==48)=c::r->49<=c.toNat
 | [],_=>⟨fun _ h=>by simp at h,fun c r h=>by simp at h⟩
 | c::l,h=>by
  rw[Wx]
  split
  .exact Ar0 (To h)
  .rename_i hc;refine⟨h,fun d r e=>?_⟩;cases e;have:=X6 h;have h2:c.toNat≠48:=fun e=>hc (by simp[UInt8.toNat_inj.1 (show c.toNat=(48:UInt8).toNat from e)])
   omega
def Ajz{w:List UInt8}(h:K2 w):Qo w=decide (Hf 0 w<=9223372036854775807):=by
 obtain⟨h1,h2⟩:=Ar0 h;rw[<-Aue w];unfold Qo;simp only;generalize w.dropWhile (·==48)=d at h1 h2 ⊢;have hg:Hf 0 greatS=9223372036854775807:=by decide
 have jj:K2 greatS:=fun c hc=>by
  have:greatS.all Dx=true:=by decide
  grind
 by_cases hl:19<d.length
 .rw[decide_eq_true hl,Ai4,A0]
  symm
  rw[decide_eq_false_iff_not]
  match d,hl,h1,h2 with
  | c::r,hl,h1,h2=>
   have hc:=h2 c r rfl;have jq:=Aa4 r (0*10+(c.toNat - 48));simp only[Vx,Abr];have:10 ^ 19<=10 ^ r.length:=Nat.pow_le_pow_right AG (by grind);have h3:1*10 ^ r.length<=(0*10+(c.toNat - 48))*10 ^ r.length:=E1 _ AA;omega
 .rw[decide_eq_false hl,U5];by_cases qM:d.length=19
  .rw[decide_eq_true qM,W4,Aud greatS d 0 jj h1 (by rw[qM];rfl),hg]
   grind
  .rw[decide_eq_false qM,W3,A2]
   symm
   rw[decide_eq_true_eq];have jC:=Afp d 0 h1;have:10 ^ d.length<=10 ^ 18:=Nat.pow_le_pow_right AG AA;omega
def Bee(l:List UInt8)(qa:Nat):qa<=Hf qa l:=by
 have:=Aa4 l qa;have h:1<=10 ^ l.length:=Nat.one_le_pow _ _ AG;have:=Nat.mul_le_mul_left qa h;omega
def pum:∀ (l:List UInt8) (qa:Nat),K2 l->Hf qa l<=18446744073709551615->Lib.parseUintM 18446744073709551615 qa l=.ok (Hf qa l)
 | [],_,_,_=>rfl
 | c::l,qa,h,hv=>by
  have hc:=X6 h;have jB:=Bee l (qa*10+(c.toNat - 48));simp only[Vx,Abr]at hv ⊢;rw[Lib.parseUintM,if_pos hc,if_neg AA,if_neg AA];exact pum l _ (To h) hv
theorem A1x{c:UInt8}{l:List UInt8}(h:K2 (c::l))(hv:Hf 0 (c::l)<=9223372036854775807):Lib.parseIntB 64 (c::l)=.ok (Hf 0 (c::l):Int):=by
 have hc:=X6 h;have hp:=pum (c::l) 0 h AA;unfold Lib.parseIntB;simp only;rw[if_neg AA];unfold Lib.parseUintB
 grind
theorem Akx{c:UInt8}{l:List UInt8}(h:K2 (c::l))(hv:Hf 0 (c::l)<=9223372036854775807):Jv (c::l)=(Hf 0 (c::l):Int):=by
 grind[Jv,A1x]
def u8n{n:Nat}(h:n<256):(UInt8.ofNat n).toNat=n:=by simp[Ais h]
def Aj0:∀ (k u:Nat),K2 (Il k u)/\(u<10 ^ k->Hf 0 (Il k u)=u)/\(1<=k->Il k u≠[])
 | 0,u=>⟨fun c h=>by simp[Il]at h,fun h=>by simp at h;subst h;rfl,fun h=>by omega⟩
 | k+1,u=>by
  obtain⟨h1,h2,h3⟩:=Aj0 k (u / 10);unfold Il
  split
  .rename_i hu;have e:(UInt8.ofNat (48+u)).toNat=48+u:=u8n AA;refine⟨fun c hc=>?_,fun _=>?_,fun _=>by simp⟩
   .rw[F5]at hc;subst hc;unfold Dx Mu;rw[e];simp;omega
   .simp only[Vx,Abr,e];omega
  .rename_i hu;have e:(UInt8.ofNat (48+u % 10)).toNat=48+u % 10:=u8n AA;refine⟨fun c hc=>?_,fun hk=>?_,fun _=>by simp⟩
   .rcases Ct.1 hc with hc | hc
    .exact h1 c hc
    .rw[F5]at hc;subst hc;unfold Dx Mu;rw[e];simp;omega
   .rw[Auc,h2 (by rw[Nat.pow_succ]at hk;omega),e];omega
def Aw2{n:Int}(hn:0<=n):B4 n=Il 20 n.toNat:=by
 unfold B4;rw[if_neg AA]
def Ay0:Mn:=fun n hn=>by
 rw[Aw2 hn.1]
 obtain⟨h1,h2,h3⟩:=Aj0 20 n.toNat
 have jf:(10:Nat) ^ 20=100000000000000000000:=by decide
 have hv:=h2 AA
 match hd:Il 20 n.toNat with
 | []=>exact absurd hd (h3 AG)
 | c::l=>
  rw[hd]at h1 hv;rw[Akx h1 AA,hv];omega
def Amr:Qr:=fun n hn=>by
 rw[Aw2 hn.1]
 obtain⟨h1,h2,h3⟩:=Aj0 20 n.toNat
 have jf:(10:Nat) ^ 20=100000000000000000000:=by decide
 have hv:=h2 AA;refine⟨?_,by rw[Ajz h1,hv];simp;omega⟩
 match hd:Il 20 n.toNat with
 | []=>exact absurd hd (h3 AG)
 | c::l=>
  rw[hd]at h1;exact⟨c,l,rfl,h1 c B7,To h1⟩
def A58:((List.range 256).all fun i=>match (Ln (N5 TT PT 300) af103 [.int .u8 (i:Int)] []).bind fun p=>Eg p.2 p.1 with
  | some (.bool b)=>b==K0 i
  | _=>false)=true:=by kernel_rfl
def P3(c:UInt8):Fn TT PT 103 [.int .u8 (c.toNat:Int)] (.bool (Gv c)):=by
 have hr:=Bw.1 A58 c.toNat (Ed.2 c.toNat_lt)
 split at hr
 .rename_i b hv;rw[show Gv c=b from(beq_iff_eq.1 hr).symm];exact Rd Si T103 rfl rfl hv
 .cases hr
def A6a:((List.range 256).all fun i=>match (Ln (N5 TT PT 300) af105 [.int .u8 (i:Int)] []).bind fun p=>Eg p.2 p.1 with
  | some (.bool b)=>b==Mu i
  | _=>false)=true:=by kernel_rfl
def S8(c:UInt8):Fn TT PT 105 [.int .u8 (c.toNat:Int)] (.bool (Dx c)):=by
 have hr:=Bw.1 A6a c.toNat (Ed.2 c.toNat_lt)
 split at hr
 .rename_i b hv;rw[show Dx c=b from(beq_iff_eq.1 hr).symm];exact Rd Si T105 rfl rfl hv
 .cases hr
def Acb{p:UInt8->Bool}:∀ l:List UInt8,(∀ i,i<(l.takeWhile p).length->∃ x,l[i]?=some x/\p x=true)/\((l.takeWhile p).length<l.length->∃ x,l[(l.takeWhile p).length]?=some x/\p x=false)/\(l.takeWhile p).length<=l.length/\l.take (l.takeWhile p).length=l.takeWhile p
 | []=>⟨fun i h=>by simp at h,fun h=>by simp at h,by simp,rfl⟩
 | c::l=>by
  obtain⟨h1,h2,h3,h4⟩:=Acb (p:=p) l;rw[Wy];by_cases hc:p c=true
  .rw[if_pos hc];refine⟨fun i hi=>?_,fun h=>?_,by grind,by simp[h4]⟩
   .cases i with
    | zero=>grind
    | succ i=>simp_all
   grind
  grind
def Hm{vs:List V}{σ:St}{v:V}(h:vs.all Dc=true)(he:V.tup vs=v):FR (.tup vs) σ v:=he ▸ Gr h
def Ub(c:UInt8)(n:Nat)(hn:n<256):(((c.toNat:Int))==(n:Int))=(c==UInt8.ofNat n):=by
 by_cases h:c=UInt8.ofNat n
 .simp_all [Ais]
 .have:(c.toNat:Int)≠n:=fun e=>h (by
   have:c.toNat=n:=by omega
   exact UInt8.toNat_inj.1 (by simp_all [Ais]))
  grind
def Ay1(c:UInt8):H8 c=(Gv c||(Dx c||c==95)):=by
 unfold H8 Lv Gv Dx;congr 2;have:=Ub c 95 AG
 grind
def nn(i:Nat):(0<=(i:Int))=True:=eq_true (Zi i)
def A0o(s:List UInt8)(i:Nat)(h:i<=s.length):Un (.str s) none (some (iV (i:Int)))=some (.str (s.take i)):=by
 rw[show Un (.str s) none (some (iV (i:Int)))=(Dz none 0).bind fun a=>(Dz (some (iV (i:Int))) s.length).bind fun b=>if a<=b/\b<=s.length then some (V.str ((s.take b).drop a)) else none from rfl]
 simp_all [Dz]
set_option maxHeartbeats 2000000 in
def Beg(c:UInt8)(r:List UInt8)(hl:(c::r).length<=4096):Fn TT PT 104 [.str (c::r)] (if 12<(Ey c r).length then .tup [.agg (Tk.row Tk.zero),iV 2] else .tup [.agg (Tk.row ⟨if Gi (Ey c r) then 3 else 1,Ey c r,0⟩),iV 0]):=by
 obtain⟨w1,w2,w3,w4⟩:=Acb (p:=H8) r;have hW:(c::r).take (Ey c r).length=Ey c r:=by simp[Ey,w4]
 have qB:(Ey c r).length=(r.takeWhile H8).length+1:=by simp[Ey]
 rw[Ao]at hl;generalize hn:(Ey c r).length=n at hW qB ⊢;refine Bj T104 rfl ?_;simp only[go_sem];refine Bk (α:=Nat) (fun i=>n - i) (fun i=>[(0,.str (c::r)),(2,.ptr 0 0 0),(4,iV (i:Int))]) (fun _=>[.row [iV 0,.str [],iV 0] 129 0 0]) (fun i=>1<=i/\i<=n) ?_ 1 ⟨by omega,by omega⟩;rintro i ⟨h1,h2⟩ ih;refine Bd Bjm ?_;by_cases hi:i<n
 .obtain⟨x,x1,x2⟩:=w1 (i - 1) AA
  have x3:(c::r)[i]?=some x:=by
   obtain⟨j,rfl⟩:∃ j,i=j+1:=⟨i - 1,by omega⟩;simpa using x1
  have g1:decide ((i:Int)<((r.length+1:Nat):Int))=true:=by simp;omega
  have qx:((x.toNat:Int)==95)=(x==95):=Ub x 95 AG;have qd:=Ay (show i<r.length+1 by omega);have qi:=A1 (show i<9223372036854775807 by omega);rw[Ay1]at x2;by_cases hL:Gv x=true
  .simp only[go_sem,qd,nn,x3];refine Ab (P3 x) AB ?_;simp only[go_sem,hL,qi];exact Aq (ih (i+1) AA AA) rfl
  .have hL:Gv x=false:=by simpa using hL
   by_cases hD:Dx x=true
   .simp only[go_sem,qd,nn,x3];refine Ab (P3 x) AB ?_;simp only[go_sem,hL,nn,x3];refine Ab (S8 x) AB ?_;simp only[go_sem,hD,qi];exact Aq (ih (i+1) AA AA) rfl
   .have hD:Dx x=false:=by simpa using hD
    rw[hL,hD]at x2;simp only[U5]at x2;simp only[go_sem,qd,nn,x3];refine Ab (P3 x) AB ?_;simp only[go_sem,hL,nn,x3];refine Ab (S8 x) AB ?_;simp only[go_sem,hD,nn,x3,qx,x2,qi];exact Aq (ih (i+1) AA AA) rfl
 .obtain rfl:i=n:=by omega
  have gi:(i<=r.length+1)=True:=eq_true AA
  have qN:Un (.str (c::r)) none (some (iV (i:Int)))=some (.str (Ey c r)):=by
   rw[A0o _ _ (by grind),hW]
  by_cases hb:i<r.length+1
  .obtain⟨x,x1,x2⟩:=w2 AA;have x3:(c::r)[i]?=some x:=by rw[qB];simpa using x1
   have qx:((x.toNat:Int)==95)=(x==95):=Ub x 95 AG;have qd:=Ay (show i<r.length+1 by omega);rw[Ay1]at x2;simp only[Aik]at x2;obtain⟨hL,hD,h9⟩:=x2;simp only[go_sem,qd,nn,x3];refine Ab (P3 x) AB ?_;simp only[go_sem,hL,nn,x3];refine Ab (S8 x) AB ?_;simp only[go_sem,hD,nn,x3,qx,h9];by_cases qg:12<i
   .have qr:decide ((12:Int)<(i:Int))=true:=by simp;omega
    rw[if_pos qg];simp only[go_sem,gt_iff_lt,qr];exact Hm AB rfl
   .have qr:decide ((12:Int)<(i:Int))=false:=by simp;omega
    rw[if_neg qg];simp only[go_sem,gt_iff_lt,qr,nn,gi,hW,Ax,true_and,if_true,C8];refine Fl P142 rfl AK ?_;cases hk:Gi (Ey c r)
    .simp only[go_sem,hk,nn,gi,hW,Ax,true_and,if_true,C8];exact Hm AB rfl
    .simp only[go_sem,hk,nn,gi,hW,Ax,true_and,if_true,C8];exact Hm AB rfl
  .simp only[go_sem,Bl (show r.length+1<=i by omega)];by_cases qg:12<i
   .have qr:decide ((12:Int)<(i:Int))=true:=by simp;omega
    rw[if_pos qg];simp only[go_sem,gt_iff_lt,qr];exact Hm AB rfl
   .have qr:decide ((12:Int)<(i:Int))=false:=by simp;omega
    rw[if_neg qg];simp only[go_sem,gt_iff_lt,qr,nn,gi,hW,Ax,true_and,if_true,C8];refine Fl P142 rfl AK ?_;cases hk:Gi (Ey c r)
    .simp only[go_sem,hk,nn,gi,hW,Ax,true_and,if_true,C8];exact Hm AB rfl
    .simp only[go_sem,hk,nn,gi,hW,Ax,true_and,if_true,C8];exact Hm AB rfl
def Beh(l:List UInt8)(c:UInt8):decide (0<=Lib.indexByte l c)=l.elem c:=by
 induction l with
 | nil=>rfl
 | cons b l ih=>
  have hg:=Lib.indexByte_ge l c;rw[Lib.indexByte,List.elem_cons]
  grind
def Aw3:∀ l:List UInt8,(Lib.indexByte l 10 = -1/\(l.takeWhile (· != 10)).length=l.length)\/Lib.indexByte l 10=((l.takeWhile (· != 10)).length:Int)
 | []=>.inl ⟨rfl,rfl⟩
 | b::l=>by
  have ih:=Aw3 l;rw[Lib.indexByte,Wy]
  grind
def Alt(p:UInt8->Bool):∀ l:List UInt8,l.drop (l.takeWhile p).length=l.dropWhile p
 | []=>rfl
 | c::l=>by
  rw[Wy,Wx];cases p c
  .rfl
  .simp only[if_true,Ao,List.drop_succ_cons];exact Alt p l
def Ay2:∀ a b:List UInt8,(!(Op.bytesLess a b||a==b))=Op.bytesLess b a
 | [],[]=>rfl
 | [],b::y=>by simp[Op.bytesLess]
 | a::x,[]=>by simp[Op.bytesLess]
 | a::x,b::y=>by
  have ih:=Ay2 x y;simp only[Op.bytesLess,List.cons_beq_cons,<-ih];by_cases h:a=b
  .grind
  grind
def A4c(l:List UInt8)(hl:l.length<=4096):Fn TT PT 59 [.str l] (iV ((l.takeWhile (· != 10)).length:Int)):=by
 refine Bj T59 rfl ?_;have hg:=Lib.indexByte_ge l 10;have ht:=Acb (p:=(· != 10)) l;have q:Uu [.str l,.int .u8 10]=some (iV (Lib.indexByte l 10)):=rfl;rcases Aw3 l with⟨h1,h2⟩ | h1
 .rw[h1]at q;rw[h2];simp only[go_sem];refine Fl P102 AB q ?_;simp only[go_sem,ge_iff_le];exact Ah rfl rfl
 .rw[h1]at q;generalize(l.takeWhile (· != 10)).length=n at q;have f1:((0:Int)<=(n:Int))=True:=eq_true AA;simp only[go_sem];refine Fl P102 AB q ?_;simp only[go_sem,ge_iff_le,f1];exact Ah rfl rfl
def A9v(c:UInt8)(r:List UInt8)(hl:(c::r).length<=4096):Fn TT PT 107 [.str (c::r)] (iV (I0 (c::r):Int)):=by
 have q:Uu [.str oneS,.int .u8 (c.toNat:Int)]=some (iV (Lib.indexByte oneS c)):=by
  simp only[Uu,Nk,Nat.toUInt8_eq,UInt8.ofNat_toNat]
 have jk:=Beh oneS c;have ju:∀ b:Bool,oneS.elem c=b->decide (0<=Lib.indexByte oneS c)=b:=fun b h=>jk.trans h
 rw[Ao]at hl;refine Bj T107 rfl ?_
 have jd:∀ b:Bool,oneS.elem c=b->(0<=Lib.indexByte oneS c)=(b=true):=fun b h=>by
  grind
 have i0:(c::r)[0]?=some c:=rfl;have hk:∀ b:Bool,oneS.elem c=b->((0<=Lib.indexByte oneS c)=(b=true)):=jd;unfold I0;by_cases h2:2<=r.length+1
 .have g2:((2:Int)<=((r.length+1:Nat):Int))=True:=eq_true AA;have g3:(2<=r.length+1)=True:=eq_true h2;have d2:decide (2<=(c::r).length)=true:=by simp;omega
  rw[d2,W4];generalize hw:(c::r).take 2=w;by_cases a1:w=[124,124]
  .rw[a1]at hw ⊢;have e1:(([124,124]:List UInt8)==[124,124])=true:=by decide
   simp only[go_sem,ge_iff_le,g2,g3,hw,e1];exact Ah rfl rfl
  have e1:(w==[124,124])=false:=by simp[a1]
  by_cases a2:w=[38,38]
  .rw[a2]at hw ⊢;rw[a2]at e1;have e2:(([38,38]:List UInt8)==[38,38])=true:=by decide
   simp only[go_sem,ge_iff_le,g2,g3,hw,e1,e2];exact Ah rfl rfl
  have e2:(w==[38,38])=false:=by simp[a2]
  by_cases a3:w=[61,61]
  .rw[a3]at hw ⊢;rw[a3]at e1;rw[a3]at e2;have e3:(([61,61]:List UInt8)==[61,61])=true:=by decide
   simp only[go_sem,ge_iff_le,g2,g3,hw,e1,e2,e3];exact Ah rfl rfl
  have e3:(w==[61,61])=false:=by simp[a3]
  by_cases a4:w=[33,61]
  .rw[a4]at hw ⊢;rw[a4]at e1;rw[a4]at e2;rw[a4]at e3;have e4:(([33,61]:List UInt8)==[33,61])=true:=by decide
   simp only[go_sem,ge_iff_le,g2,g3,hw,e1,e2,e3,e4];exact Ah rfl rfl
  have e4:(w==[33,61])=false:=by simp[a4]
  by_cases a5:w=[60,61]
  .rw[a5]at hw ⊢;rw[a5]at e1;rw[a5]at e2;rw[a5]at e3;rw[a5]at e4;have e5:(([60,61]:List UInt8)==[60,61])=true:=by decide
   simp only[go_sem,ge_iff_le,g2,g3,hw,e1,e2,e3,e4,e5];exact Ah rfl rfl
  have e5:(w==[60,61])=false:=by simp[a5]
  by_cases a6:w=[62,61]
  .rw[a6]at hw ⊢;rw[a6]at e1;rw[a6]at e2;rw[a6]at e3;rw[a6]at e4;rw[a6]at e5;have e6:(([62,61]:List UInt8)==[62,61])=true:=by decide
   simp only[go_sem,ge_iff_le,g2,g3,hw,e1,e2,e3,e4,e5,e6];exact Ah rfl rfl
  have e6:(w==[62,61])=false:=by simp[a6]
  have en:twoS.elem w=false:=by simp[twoS,a1,a2,a3,a4,a5,a6]
  rw[en];cases hb:oneS.elem c
  all_goals
   have f:=hk _ hb;simp only[go_sem,ge_iff_le,g2,g3,hw,e1,e2,e3,e4,e5,e6,i0];refine Fl P102 AB q ?_;simp only[go_sem,ge_iff_le,f];exact Ah rfl (by grind)
 .have g2:((2:Int)<=((r.length+1:Nat):Int))=False:=eq_false AA;have d2:decide (2<=(c::r).length)=false:=decide_eq_false AA;rw[d2,W3];cases hb:oneS.elem c
  all_goals
   have f:=hk _ hb;simp only[go_sem,ge_iff_le,g2,i0];refine Fl P102 AB q ?_;simp only[go_sem,ge_iff_le,f];exact Ah rfl (by grind)
def Bei(c:UInt8)(r:List UInt8)(hc:Dx c=true)(hl:(c::r).length<=4096):Fn TT PT 106 [.str (c::r)] (if Ry (r.dropWhile Dx) then .tup [.agg (Tk.row Tk.zero),iV 3] else if Qo (Ep c r) then .tup [.agg (Tk.row ⟨2,Ep c r,0⟩),iV 0] else .tup [.agg (Tk.row Tk.zero),iV 3]):=by
 obtain⟨w1,w2,w3,w4⟩:=Acb (p:=Dx) r;have hd:=Alt Dx r;have hW:(c::r).take (Ep c r).length=Ep c r:=by simp[Ep,w4]
 have qB:(Ep c r).length=(r.takeWhile Dx).length+1:=by simp[Ep]
 rw[Ao]at hl;generalize hn:(Ep c r).length=n at hW qB ⊢;refine Bj T106 rfl ?_;simp only[go_sem];refine Bk (α:=Nat) (fun i=>n - i) (fun i=>[(0,.str (c::r)),(2,.ptr 0 0 0),(4,iV (i:Int))]) (fun _=>[.row [iV 0,.str [],iV 0] 129 0 0]) (fun i=>1<=i/\i<=n) ?_ 1 ⟨by omega,by omega⟩;rintro i ⟨h1,h2⟩ ih;refine Bd Bjn ?_;by_cases hi:i<n
 .obtain⟨x,x1,x2⟩:=w1 (i - 1) AA
  have x3:(c::r)[i]?=some x:=by
   obtain⟨j,rfl⟩:∃ j,i=j+1:=⟨i - 1,by omega⟩;simpa using x1
  have qd:=Ay (show i<r.length+1 by omega);have qi:=A1 (show i<9223372036854775807 by omega);simp only[go_sem,qd,nn,x3];refine Ab (S8 x) AB ?_;simp only[go_sem,x2,qi];exact Aq (ih (i+1) AA AA) rfl
 .obtain rfl:i=n:=by omega
  have gi:(i<=r.length+1)=True:=eq_true AA
  have qN:Un (.str (c::r)) none (some (iV (i:Int)))=some (.str (Ep c r)):=by
   rw[A0o _ _ (by grind),hW]
  have qR:Qo (Ep c r)=!(decide (19<((Ep c r).dropWhile (·==48)).length)||(decide (((Ep c r).dropWhile (·==48)).length=19)&&Op.bytesLess greatS ((Ep c r).dropWhile (·==48)))):=rfl;have q:Y8 [.str (Ep c r),.str [48]]=some (.str ((Ep c r).dropWhile (·==48))):=rfl;generalize(Ep c r).dropWhile (·==48)=d at qR q
  have qD:(i<r.length+1/\∃ x,(c::r)[i]?=some x/\Dx x=false/\Ry (r.dropWhile Dx)=(Gv x||x==95))\/(r.length+1<=i/\Ry (r.dropWhile Dx)=false):=by
   by_cases hb:i<r.length+1
   .obtain⟨x,x1,x2⟩:=w2 AA;have x3:(c::r)[i]?=some x:=by rw[qB];simpa using x1
    refine .inl ⟨hb,x,x3,x2,?_⟩;rw[<-hd,Hv (Al.1 x1).1,(Al.1 x1).2];rfl
   .refine .inr ⟨by omega,?_⟩;rw[<-hd,Ec AA];rfl
  have q:Y8 [.str (Ep c r),.str [48]]=some (.str d):=q;have qI:(!(Op.bytesLess d [57,50,50,51,51,55,50,48,51,54,56,53,52,55,55,53,56,48,55]||d==[57,50,50,51,51,55,50,48,51,54,56,53,52,55,55,53,56,48,55]))=Op.bytesLess greatS d:=Ay2 d greatS
  have tail:∀ b:Bool,Qo (Ep c r)=b->(b=true/\decide (19<(d.length:Int))=false/\(((d.length:Int)==19)=false\/(((d.length:Int)==19)=true/\Op.bytesLess greatS d=false)))\/(b=false/\(decide (19<(d.length:Int))=true\/(decide (19<(d.length:Int))=false/\((d.length:Int)==19)=true/\Op.bytesLess greatS d=true))):=fun b hb=>by
   grind
  rcases qD with⟨hb,x,x3,hD,hg⟩ | ⟨hb,hg⟩
  .have qd:=Ay hb;have qx:((x.toNat:Int)==95)=(x==95):=Ub x 95 AG;simp only[go_sem,qd,nn,x3];refine Ab (S8 x) AB ?_;simp only[go_sem,hD,qd,nn,x3];refine Ab (P3 x) AB ?_;rw[hg];cases hL:Gv x
   .cases h9:(x==95)
    .simp only[go_sem,nn,x3,qx,h9,gi,hW,Ax,true_and,if_true,C8];refine Fl P143 AB q ?_;rcases tail _ rfl with⟨hb,k1,k2 | ⟨k2,k3⟩⟩ | ⟨hb,k1 | ⟨k1,k2,k3⟩⟩
     all_goals rw[hb]
     .simp only[go_sem,gt_iff_lt,k1,k2,nn,gi,hW,Ax,true_and,if_true,C8];exact Hm AB rfl
     .simp only[go_sem,gt_iff_lt,k1,k2,qI,k3,nn,gi,hW,Ax,true_and,if_true,C8];exact Hm AB rfl
     .simp only[go_sem,gt_iff_lt,k1];exact Hm AB rfl
     .simp only[go_sem,gt_iff_lt,k1,k2,qI,k3];exact Hm AB rfl
    .simp only[go_sem,nn,x3,qx,h9];exact Hm AB rfl
   .simp only[go_sem];exact Hm AB rfl
  .rw[hg];simp only[go_sem,Bl hb,nn,gi,hW,Ax,true_and,if_true,C8];refine Fl P143 AB q ?_;rcases tail _ rfl with⟨hb,k1,k2 | ⟨k2,k3⟩⟩ | ⟨hb,k1 | ⟨k1,k2,k3⟩⟩
   all_goals rw[hb]
   .simp only[go_sem,gt_iff_lt,k1,k2,nn,gi,hW,Ax,true_and,if_true,C8];exact Hm AB rfl
   .simp only[go_sem,gt_iff_lt,k1,k2,qI,k3,nn,gi,hW,Ax,true_and,if_true,C8];exact Hm AB rfl
   .simp only[go_sem,gt_iff_lt,k1];exact Hm AB rfl
   .simp only[go_sem,gt_iff_lt,k1,k2,qI,k3];exact Hm AB rfl
def A9w(c:UInt8)(r:List UInt8)(hl:(c::r).length<=4096):∃ e:Int,e≠0/\Fn TT PT 60 [.str (c::r)] (match J6 (c::r) with
  | some (k,w)=>.tup [.agg (Tk.row ⟨k,w,0⟩),.int .i64 0]
  | none=>.tup [.agg (Tk.row Tk.zero),.int .i64 e]):=by
 have i0:(c::r)[0]?=some c:=rfl;have hT:TT 60=some af60:=by rfl
 cases hL:Gv c
 .cases hD:Dx c
  .have hs:=A9v c r hl;by_cases h0:I0 (c::r)=0
   .have hf:J6 (c::r)=none:=by rw[Pz,if_neg (by grind),if_neg (by grind),if_pos h0]
    rw[hf];have e0:((I0 (c::r):Int)==0)=true:=by rw[h0];rfl
    refine⟨3,by decide,Bj T60 rfl ?_⟩;simp only[go_sem,i0];refine Ab (P3 c) AB ?_;simp only[go_sem,hL];refine Ab (S8 c) AB ?_;simp only[go_sem,hD];refine Ab hs AB ?_;simp only[go_sem,e0];exact Hm AB rfl
   .have hf:J6 (c::r)=some (4,(c::r).take (I0 (c::r))):=by rw[Pz,if_neg (by grind),if_neg (by grind),if_neg h0]
    rw[hf];have qP:=(Awx h0).2;rw[Ao]at qP;generalize I0 (c::r)=n at hs h0 qP ⊢;have e0:((n:Int)==0)=false:=by rw[beq_eq_false_iff_ne];omega
    have gi:(n<=r.length+1)=True:=eq_true qP;generalize hw:(c::r).take n=w;refine⟨3,by decide,Bj T60 rfl ?_⟩;simp only[go_sem,i0];refine Ab (P3 c) AB ?_;simp only[go_sem,hL];refine Ab (S8 c) AB ?_;simp only[go_sem,hD];refine Ab hs AB ?_;simp only[go_sem,e0,nn,gi,hw,Ax,true_and,if_true,C8];exact Hm AB rfl
  .have hs:=Bei c r hD hl;have jh:Gv c≠true:=by rw[hL];decide
   refine⟨3,by decide,Bj T60 rfl ?_⟩
   have hf:J6 (c::r)=if Ry (r.dropWhile Dx) then none else if Qo (Ep c r) then some (2,Ep c r) else none:=by rw[Pz,if_neg jh,if_pos hD]
   rw[hf]
   cases hg:Ry (r.dropWhile Dx)<;>cases hk:Qo (Ep c r)
   all_goals
    rw[hg]at hs;rw[hk]at hs;simp only[Hh,if_false,if_true,Tk.row,Tk.zero]at hs ⊢;simp only[go_sem,i0];refine Ab (P3 c) AB ?_;simp only[go_sem,hL];refine Ab (S8 c) AB ?_;simp only[go_sem,hD];refine Ab hs AB ?_;simp only[go_sem];exact Hm AB rfl
 .have hs:=Beg c r hl;refine⟨2,by decide,Bj T60 rfl ?_⟩
  have hf:J6 (c::r)=if 12<(Ey c r).length then none else some (if Gi (Ey c r) then 3 else 1,Ey c r):=by rw[Pz,if_pos hL]
  rw[hf];by_cases qg:12<(Ey c r).length
  .rw[if_pos qg]at hs ⊢;simp only[Tk.row,Tk.zero]at hs ⊢;simp only[go_sem,i0];refine Ab (P3 c) AB ?_;simp only[go_sem,hL];refine Ab hs AB ?_;simp only[go_sem];exact Hm AB rfl
  .rw[if_neg qg]at hs ⊢;simp only[Tk.row]at hs ⊢;generalize(if Gi (Ey c r)=true then(3:Int) else 1)=k at hs ⊢;simp only[go_sem,i0];refine Ab (P3 c) AB ?_;simp only[go_sem,hL];refine Ab hs AB ?_;simp only[go_sem];exact Hm AB rfl
/-! the whole text -/
def Anz{f p:Nat}{res:List AR}{body:AC}{vs:List V}{R:V->Prop}(hT:TT f=some ⟨p,res,false,body,none⟩)(hl:vs.length=p)(h:W TT PT [.c body] (C6 0 vs) [] (Hd fun e' σ1=>∃ v,FQ res v e' σ1/\R v)):∃ v,Fn TT PT f vs v/\R v:=by
 obtain⟨e',σ',hE,v,hq,hR⟩:=h;exact⟨v,Bj hT hl ⟨e',σ',hE,hq⟩,hR⟩
def Bkn{σ:St}{m e i g:Nat}{xs:List (List V)}{w y:Int}(ho:σ[i]?=some (.row xs.flatten e g 0))(hm:0<m)(hl:∀ r∈xs,r.length=m)(hr:∀ r∈xs,r.all V.rowB=true):
  FR (.tup [.sl i g 0 xs.length m true,iV w,iV y]) σ (.tup [.lst 0 xs,iV w,iV y]):=by
 obtain⟨hi,jH⟩:=Al.1 ho;have hx:Ag xs.flatten=[]:=Fr (Ie hr);have h0:ren 0 [i] i=0:=by simp[ren,Adi]
 refine .inr ⟨[i],?_,?_⟩
 .simp only[Hw,Cg,Hp,V.refs,Ag,B5,Dd,V.cellB,B3]
  grind[En,Ob.refs]
 .simp only[Nj,ho,Q5,Az,Bz,Ob.ren,Pa i _ (Ie hr),V.ren,Ff,h0,Eg,J4];have ha:OV [Ob.row xs.flatten e g 0] (V.sl 0 g 0 xs.length m true) (.lst 0 xs):=Vo (Rt (i:=0) (g:=g) (e:=e) (z:=0) (w:=true) rfl hm hl hr) rfl;have qY:∀ n:Int,OV [Ob.row xs.flatten e g 0] (iV n) (iV n):=fun n=>Iv rfl
  exact congrArg (Option.map V.tup) (Vn (.cons ha (.cons (qY w) (.cons (qY y) .nil))) fun j hj=>Nr _ _ _ _ (Ss.2 hj))
def Bko{σ:St}{m e lo:Nat}{u:V}{w y:Int}{xs:List (List V)}(h:GW σ m e lo u xs)(hm:0<m)(hl:∀ r∈xs,r.length=m)(hr:∀ r∈xs,r.all V.rowB=true):
  FR (.tup [u,iV w,iV y]) σ (.tup [SL true 0 xs,iV w,iV y]):=by
 rcases h with⟨rfl,rfl⟩ | ⟨hn,i,g,rfl,ho,jq⟩
 .exact Gr rfl
 .rw[V6 hn];exact Bkn ho hm hl hr
def Bkp(c:UInt8)(r:List UInt8):Lib.hasPrefix (c::r) [47,47]=decide (c=47/\r.head?=some 47):=by
 unfold Lib.hasPrefix
 cases r with
 | nil=>grind
 | cons d r=>
  grind
def An0(s:List UInt8)(v:V):Prop:=match (if 4096<s.length then none else C2 s.length 1 s) with
 | some L=>v=.tup [SL true 0 (L.map Tk.row),.int .i64 0,.int .i64 0]
 | none=>∃ e ln:Int,e≠0/\v=.tup [.nils,.int .i64 e,.int .i64 ln]
def Bkq(t:Tk):t.row.length=3:=rfl
def Bkr(t:Tk):t.row.all V.rowB=true:=rfl
def Bej(s:List UInt8):∃ v,Fn TT PT 34 [.str s] v/\An0 s v:=by
 refine Anz T34 rfl ?_;unfold An0;by_cases qC:4096<s.length
 .have f1:((4096:Int)<(s.length:Int))=True:=eq_true AA;rw[if_pos qC];simp only[go_sem,gt_iff_lt,f1];exact⟨_,Gr AK,2,0,by decide,rfl⟩
 .have f1:((4096:Int)<(s.length:Int))=False:=eq_false AA;rw[if_neg qC];simp only[go_sem,gt_iff_lt,f1];refine Bk (α:=Nat × Nat × V × List Tk × St) (fun a=>s.length - a.1) (fun a=>[(0,.str s),(5,a.2.2.1),(6,iV (a.2.1:Int)),(7,iV (a.1:Int))]) (fun a=>a.2.2.2.2) (fun a=>a.1<=s.length/\a.2.1<=a.1+1/\a.2.2.2.1.length<=a.1/\GW a.2.2.2.2 3 129 0 a.2.2.1 (a.2.2.2.1.map Tk.row)/\C2 s.length 1 s=(C2 s.length (a.2.1:Int) (s.drop a.1)).map (a.2.2.2.1++·)) ?_ (0,1,.nils,[],[]) ⟨Ax _,Ak _,Ak _,Ds,by simp⟩;rintro⟨i,ln,u,L,σ⟩ ⟨hi,jp,hL,hg,qe⟩ ih;simp only at hi jp hL hg qe ih
  have qX:∀ r∈L.map Tk.row,r.length=3:=by
   intro r hr;obtain⟨x,-,rfl⟩:=Cy.1 hr;exact Bkq x
  have jv:∀ r∈L.map Tk.row,r.all V.rowB=true:=by
   intro r hr;obtain⟨x,-,rfl⟩:=Cy.1 hr;exact Bkr x
  refine Bd Box ?_;by_cases hc:i<s.length
  .obtain⟨c,r,qh⟩:∃ c r,s.drop i=c::r:=by
    rw[Hv hc]
    grind
   have x3:s[i]?=some c:=by
    have:=congrArg (·[0]?) qh;simpa using this
   have qQ:(c::r).length=s.length - i:=by rw[<-qh,Hi]
   have jI:s.drop (i+1)=r:=by
    have:=congrArg List.tail qh;simpa[List.tail_drop] using this
   have qd:=Ay hc;have gi:(i<=s.length)=True:=eq_true hi;have qp:((c.toNat:Int)==10)=(c==UInt8.ofNat 10):=Ub c 10 AG;have qw:((c.toNat:Int)==32)=(c==UInt8.ofNat 32):=Ub c 32 AG;have e9:((c.toNat:Int)==9)=(c==UInt8.ofNat 9):=Ub c 9 AG;have qG:((c.toNat:Int)==13)=(c==UInt8.ofNat 13):=Ub c 13 AG;have qi:=A1 (show i<9223372036854775807 by omega);have qO:=A1 (show ln<9223372036854775807 by omega);obtain⟨k,hk⟩:∃ k,s.length=k+1:=⟨s.length - 1,by omega⟩;rw[Ao]at qQ
   have qf:C2 s.length (ln:Int) (s.drop i)=if c=10 then C2 k ((ln:Int)+1) r else if c=32\/c=9\/c=13 then C2 k (ln:Int) r else if c=47/\r.head?=some 47 then C2 k (ln:Int) ((c::r).dropWhile (· != 10)) else match J6 (c::r) with
     | none=>none
     | some (q,w)=>(C2 k (ln:Int) ((c::r).drop w.length)).map fun l=>⟨q,w,(ln:Int)⟩::l:=by rw[hk,qh];rfl
   have any:∀ (n:Int) (l:List UInt8),l.length<=k->C2 k n l=C2 s.length n l:=fun n l h=>Xk _ _ n l h AA
   by_cases ql:c=10
   .have qo:(c==UInt8.ofNat 10)=true:=by rw[ql];rfl
    rw[if_pos ql,any _ _ AA]at qf;simp only[go_sem,qd,nn,x3,qp,qo,qi,qO];refine Aq (ih (i+1,ln+1,u,L,σ) AA ⟨by omega,by grind,by grind,hg,?_⟩) rfl
    grind
   .have qo:(c==UInt8.ofNat 10)=false:=by rw[beq_eq_false_iff_ne];exact ql
    rw[if_neg ql]at qf;by_cases qt:c=32\/c=9\/c=13
    .rw[if_pos qt,any _ _ AA]at qf
     have next:W TT PT _ [(0,.str s),(5,u),(6,iV (ln:Int)),(7,iV ((i+1:Nat):Int))] σ _:=ih (i+1,ln,u,L,σ) AA ⟨by omega,by grind,by grind,hg,by grind⟩
     rcases qt with rfl | rfl | rfl
     .simp only[go_sem,qd,nn,x3,qp,qo,qw,(show((32:UInt8)==UInt8.ofNat 32)=true from rfl),qi]
      exact Aq next rfl
     .simp only[go_sem,qd,nn,x3,qp,qo,qw,e9,(show((9:UInt8)==UInt8.ofNat 32)=false from rfl),(show((9:UInt8)==UInt8.ofNat 9)=true from rfl),qi]
      exact Aq next rfl
     .simp only[go_sem,qd,nn,x3,qp,qo,qw,e9,qG,(show((13:UInt8)==UInt8.ofNat 32)=false from rfl),(show((13:UInt8)==UInt8.ofNat 9)=false from rfl),(show((13:UInt8)==UInt8.ofNat 13)=true from rfl),qi]
      exact Aq next rfl
    .rw[if_neg qt]at qf;simp only[not_or]at qt;have qL:(c==UInt8.ofNat 32)=false:=by rw[beq_eq_false_iff_ne];exact qt.1
     have b9:(c==UInt8.ofNat 9)=false:=by rw[beq_eq_false_iff_ne];exact qt.2.1
     have qK:(c==UInt8.ofNat 13)=false:=by rw[beq_eq_false_iff_ne];exact qt.2.2
     have q:hpS [.str (c::r),.str [47,47]]=some (.bool (decide (c=47/\r.head?=some 47))):=by rw[<-Bkp];rfl
     by_cases qH:c=47/\r.head?=some 47
     .rw[if_pos qH]at qf;rw[decide_eq_true qH]at q;have hd:=Aa2 (· != 10) (c::r);have qT:=A4c (c::r) (by grind);have qV:=Alt (· != 10) (c::r)
      have js:1<=((c::r).takeWhile (· != 10)).length:=by
       rw[Wy,if_pos (by grind)];simp
      have qW:((c::r).takeWhile (· != 10)).length<=(c::r).length:=(Acb (c::r)).2.2.1
      have jt:((c::r).dropWhile (· != 10)).length<=k:=by
       rw[<-qV,Hi,Ao];omega
      rw[any _ _ jt,<-qV]at qf;rw[Ao]at qW;generalize((c::r).takeWhile (· != 10)).length=n at qT qf js qW;have qs:IntKind.i64.wrap ((i:Int)+(n:Int))=((i+n:Nat):Int):=by rw[Cs AA];omega
      simp only[go_sem,qd,nn,x3,qp,qo,qw,qL,e9,b9,qG,qK,gi,qh,Ax,Ak,Db,true_and,if_true,C8];refine Fl P58 AB q ?_;simp only[go_sem,nn,gi,qh,Ax,Ak,Db,true_and,if_true,C8];refine Ab qT AB ?_;simp only[go_sem,qs];refine Aq (ih (i+n,ln,u,L,σ) AA ⟨by omega,by grind,by grind,hg,?_⟩) rfl
      grind[List.drop_drop]
     .rw[if_neg qH]at qf;rw[decide_eq_false qH]at q;obtain⟨e,he,qz⟩:=A9w c r (by grind);have qZ:∀ a:Ob,(σ++[a])[σ.length]?=some a:=fun a=>by simp
      have ja:∀ a b:Ob,(σ++[a]).set σ.length b=σ++[b]:=fun a b=>by grind
      cases hf:J6 (c::r) with
      | none=>
       rw[hf]at qz qf;simp only[Tk.row,Tk.zero]at qz;have ne:(e != 0)=true:=by simp[he]
       have qe:C2 s.length 1 s=none:=by rw[qe,qf];rfl
       rw[qe];simp only[go_sem,qd,nn,x3,qp,qo,qw,qL,e9,b9,qG,qK,gi,qh,Ax,Ak,Db,true_and,if_true,C8];refine Fl P58 AB q ?_;simp only[go_sem,nn,gi,qh,Ax,Ak,Db,true_and,if_true,C8];refine Ab qz AB ?_;simp only[go_sem,qZ,ja,ne];exact⟨_,Gr AK,e,_,he,rfl⟩
      | some p=>
       obtain⟨kd,w⟩:=p;rw[hf]at qz qf;simp only[Tk.row]at qz qf;obtain⟨jJ,qq,jx⟩:=Z1 hf
       have jK:w.length+qq.length=r.length+1:=by
        have:=congrArg List.length jx;simp at this;omega
       have qs:IntKind.i64.wrap ((i:Int)+(w.length:Int))=((i+w.length:Nat):Int):=by rw[Cs AA];omega
       have ne:((0:Int) != 0)=false:=by decide
       have ji:GW (σ++[.row [iV kd,.str w,iV (ln:Int)] 129 0 0]) 3 129 0 u (L.map Tk.row):=Gm hg;obtain⟨u',σ',ha,jA,jF,jl,-⟩:=Hz (bytes:=32) (y:=.lst 1 [[iV kd,.str w,iV (ln:Int)]]) (ys:=[[iV kd,.str w,iV (ln:Int)]]) ji (Ax _) rfl AA qX AE (by grind)
       have jo:σ'[σ.length]?=some (.row [iV kd,.str w,iV (ln:Int)] 129 0 0):=by
        rw[jl σ.length ?_ AE]
        .grind
        .intro j g hj jE;rcases hg with⟨rfl,-⟩ | ⟨-,j',g',rfl,ho,-⟩
         .cases hj
         grind
       have qS:=Ce hg;rw[any _ _ (by grind)]at qf;simp only[go_sem,qd,nn,x3,qp,qo,qw,qL,e9,b9,qG,qK,gi,qh,Ax,Ak,Db,true_and,if_true,C8];refine Fl P58 AB q ?_;simp only[go_sem,nn,gi,qh,Ax,Ak,Db,true_and,if_true,C8];refine Ab qz AB ?_;simp only[go_sem,qZ,ja,ne,ha,jo,qs];refine Aq (ih (i+w.length,ln,u',L++[⟨kd,w,(ln:Int)⟩],σ') AA ⟨by omega,by grind,by grind,by grind[Tk.row],?_⟩) rfl;simp only;rw[qe,qf,<-Adn,qh]
       cases C2 s.length (ln:Int) ((c::r).drop w.length) with
       | none=>rfl
       | some l=>simp
  .have jD:i=s.length:=by omega
   simp only[go_sem,Bl (show s.length<=i by omega)]
   have hz:C2 s.length (ln:Int) (s.drop i)=some []:=by
    rw[Ec AA]
    cases s.length<;>rfl
   rw[hz]at qe;rw[qe];refine⟨_,Bko hg AA qX jv,?_⟩;simp
def R4{w r:List UInt8}{c:UInt8}{cs:List UInt8}(e:w=c::cs)(h1:Gv c=true)(h2:cs.all H8=true)(h3:w.length<=12)(hk:Gi w=true)(hr:Lr r):B8 (w++r)=cons [(3,w)] (B8 r):=by
 subst e;rw[Awz h1 (Bw.1 h2) h3 hr,hk];rfl
def Bek:((List.range 14).all fun i=>match Cp ((i:Int)+2) with
  | c::cs=>Gv c&&(cs.all H8&&(decide ((c::cs).length<=12)&&Gi (c::cs)))
  | []=>false)=true:=by decide
def Aan{op:Int}(h:2<=op/\op<=15){r:List UInt8}(hr:Lr r):B8 (Cp op++r)=cons [(3,Cp op)] (B8 r):=by
 obtain⟨i,hi,rfl⟩:∃ i:Nat,i<14/\op=(i:Int)+2:=⟨(op - 2).toNat,by omega,by omega⟩;have:=Bw.1 Bek i (Ed.2 hi)
 split at this
 .rename_i c cs he;simp only[Ai,decide_eq_true_eq]at this;rw[he];exact R4 rfl this.1 this.2.1 this.2.2.1 this.2.2.2 hr
 .cases this
def Iq(r:List UInt8):Lr (32::r):=Mc r AG
def Bel(hd:Qr){s:Sp}(h:ShS s):Tx (Cq s) (Yp s):=by
 obtain⟨op,line,nm,arg,iz,it,idx,ex,bz,bt,body,ez,et,els⟩:=s
 cases h with
 | mk h1 h2 h3 h4 h5 h6 h7 h8 h9 ql h11 qg h13 h14=>
  simp only at h1 h2 h3 h4 h5 h6 h7 h8 h9 ql h11 qg h13 h14;intro r hr;simp only[Cq,Yp];by_cases a:op=1
  .subst a;rw[if_pos rfl,if_pos rfl];have qA:=h3 rfl;have qy:=(Agi hd (h9 rfl)).1
   match hi:idx,h6 with
   | [],_=>
    simp only[E7,Y3,Be,Br,Bt];rw[Ih qA (Iq _),E5,Aeh,E5,qy r hr];simp only[Ft,Bt,Be]
   | [x],_=>
    have hx:=(Agi hd (h8 x AE)).1;simp only[E7,Y3,Be,Br,Bt];rw[Ih qA (Mc _ AG),G5 AG,hx _ (Mc _ AG),G5 AG,E5,Aeh,E5,qy r hr];simp only[Ft,Bt,Be]
   | _::_::_,h=>simp at h
  have qE:2<=op/\op<=15:=by omega
  rw[if_neg a,if_neg a];by_cases b:op=2\/op=3
  .rw[if_pos b,if_pos b];have qy:=(Agi hd (h9 (by rcases b with rfl | rfl<;>rfl))).1;simp only[Br,Bt];rw[Aan qE (Iq _),E5,qy r hr];simp only[Ft,Bt,Be]
  rw[if_neg b,if_neg b];by_cases c:op=7\/op=8
  .rw[if_pos c,if_pos c];exact Aan qE hr
  rw[if_neg c,if_neg c];have qA:=h3 (by unfold F6;simp;omega);by_cases d:op=14
  .rw[if_pos d,if_pos d];have qy:=(Agi hd (h9 (by subst d;rfl))).1;simp only[Br,Bt];rw[Aan qE (Iq _),E5,Ih qA (Iq _),E5,qy r hr];simp only[Ft,Bt,Be]
  rw[if_neg d,if_neg d];by_cases e:op=15
  .rw[if_pos e,if_pos e];simp only[Br,Bt];rw[Aan qE (Iq _),E5,Ih qA (Iq _),E5,Ih (h4 e) hr];simp only[Ft,Bt,Be]
  rw[if_neg e,if_neg e];simp only[Br,Bt];rw[Aan qE (Iq _),E5,Ih qA hr];simp only[Ft,Bt,Be]
def Agm{d:Nat}:∀ {l:List Sp},(∀ s∈l,∀ r,B8 (Sp.txt d s++r)=cons s.toks (B8 r))->∀ r,B8 (Sp.txts d l++r)=cons (Sp.tokss l) (B8 r)
 | [],_,r=>(Aal _).symm
 | s::l,h,r=>by
  simp only[Sp.txts,Sp.tokss,Br];rw[h s B7,Agm (fun s hs=>h s (Ci _ hs)) r,Ft]
def Aa5(d:Nat)(r:List UInt8):B8 (Eh d++r)=B8 r:=Bki _ r
def Bem{r:List UInt8}(hr:Lr r):B8 (101::108::115::101::r)=cons [(3,Tz)] (B8 r):=R4 (w:=Tz) rfl AG AG AG AG hr
def Ben(hd:Qr){s:Sp}(h:ShS s):∀ (d:Nat) (r:List UInt8),B8 (s.txt d++r)=cons s.toks (B8 r):=by
 induction h with
 | @mk s h1 h2 h3 h4 h5 h6 h7 h8 h9 ql h11 qg h13 h14 ih1 ih2=>
  intro d r;have hh:=Bel hd (ShS.mk h1 h2 h3 h4 h5 h6 h7 h8 h9 ql h11 qg h13 h14);obtain⟨op,line,nm,arg,iz,it,idx,ex,bz,bt,body,ez,et,els⟩:=s;simp only at h1 h2 h3 h4 h5 h6 h7 h8 h9 ql h11 qg h13 h14 ih1 ih2;simp only[Sp.txt,Sp.toks];generalize Cq ⟨op,line,nm,arg,iz,it,idx,ex,bz,bt,body,ez,et,els⟩=H at hh ⊢;generalize Yp ⟨op,line,nm,arg,iz,it,idx,ex,bz,bt,body,ez,et,els⟩=K at hh ⊢;have i1:=Agm (d:=d+1) (l:=body) fun s hs r=>ih1 s hs (d+1) r
  have i2:=Agm (d:=d+1) (l:=els) fun s hs r=>ih2 s hs (d+1) r
  cases hb:Bv op
  .simp only[Hh,if_false,Br,Bt,Be];rw[Aa5,hh _ (Mc _ AG),G5 AG,Ua];simp only[Ft,Bt,Be]
  .simp only[if_true,Br,Bt,Be];rw[Aa5,hh _ (Iq _),E5,G5 AG,Ua,i1];cases he:els.isEmpty
   .simp only[Hh,if_false,Br,Bt,Be];rw[Aa5,G5 AG,E5,Bem (Iq _),E5,G5 AG,Ua,i2,Aa5,G5 AG,Ua];simp only[Ft,Bt,Be,Br]
   .simp only[if_true,Br,Bt,Be];rw[Aa5,G5 AG,Ua];simp only[Ft,Bt,Be,Br]
/-! declarations -/
def Uc(k:Int):List UInt8:=if k=1 then [118,97,114] else if k=2 then [118,111,108,97,116,105,108,101] else if k=3 then [109,117,116,101,120] else if k=4 then [114,119,108,111,99,107] else if k=5 then [99,111,110,100] else [102,117,116,117,114,101]
def Pi(n:Int):List Kt:=if n=0 then [] else if n<0 then [(4,[61]),(4,[45]),(2,B4 (-n))] else [(4,[61]),(2,B4 n)]
def Pj(n:Int):List Kt:=if n=0 then [] else [(4,[91]),(2,B4 n),(4,[93])]
def Mo(d:Dp):List Kt:=(3,Uc d.kind)::(1,d.nm)::(Pj d.size++(Pi d.init++((if d.kind=5 then [(1,d.on)] else [])++[(4,[59])])))
def A9x{n:Int}(h:n<0):B4 n=45::B4 (-n):=by
 unfold B4;rw[if_pos h,if_neg AA,show(-n).toNat=n.natAbs by omega]
def Alu(hd:Qr){n:Int}(hn : -9223372036854775808<n/\n<=9223372036854775807){r:List UInt8}(hr:Lr r):B8 (Jp n++r)=cons (Pi n) (B8 r):=by
 unfold Jp Pi;by_cases h:n=0
 .rw[if_pos h,if_pos h];exact(Aal _).symm
 rw[if_neg h,if_neg h];by_cases h2:n<0
 .rw[if_pos h2,A9x h2];simp only[Bt];rw[E5,Aeh,E5,G5 AG,Agh hd AA hr];simp only[Ft,Bt,Be]
 .rw[if_neg h2];simp only[Bt];rw[E5,Aeh,E5,Agh hd AA hr];simp only[Ft,Bt,Be]
def Aql(n:Int){r:List UInt8}(hr:Lr r):Lr (Jp n++r):=by
 unfold Jp
 split
 .exact hr
 .exact Iq _
def Beo(hd:Qr){d:Dp}(h:ShD d)(r:List UInt8):B8 (De d++59::10::r)=cons (Mo d) (B8 r):=by
 obtain⟨kind,line,nm,size,init,on⟩:=d;obtain⟨h1,h2,h3,h4,h5,h6⟩:=h;simp only at h1 h2 h3 h4 h5 h6;have qk:Lr (59::10::r):=Mc _ AG;have qu:B8 (59::10::r)=cons [(4,[59])] (B8 r):=by rw[G5 AG,Ua]
 have hw:kind=1\/kind=2\/kind=3\/kind=4\/kind=5\/kind=6:=by omega
 rcases hw with rfl | rfl | rfl | rfl | rfl | rfl
 .simp only[De,Mo,Uc,if_true,Br,Bt,Be];rw[show(118::97::114::32::(nm++((if size=0 then [] else 91::(B4 size++[93]))++(Jp init++59::10::r))))=[118,97,114]++32::(nm++((if size=0 then [] else 91::(B4 size++[93]))++(Jp init++59::10::r))) from rfl];rw[R4 rfl AG AG AG AG (Iq _),E5];by_cases hz:size=0
  .subst hz;simp only[if_true,Be,Pj];rw[Ih h2 (Aql _ qk),Alu hd AA qk,qu];simp[Ft]
  .simp only[Pj,hz,if_false,Br,Bt,Be];rw[Ih h2 (Mc _ AG),G5 AG,Agh hd AA (Mc _ AG),G5 AG,Alu hd AA qk,qu];simp[Ft]
 .have hz:size=0:=h3.2.2 AA;subst hz;have e:De ⟨2,line,nm,0,init,on⟩++59::10::r=[118,111,108,97,116,105,108,101]++32::(nm++(Jp init++59::10::r)):=by simp[De]
  rw[e,R4 rfl AG AG AG AG (Iq _),E5,Ih h2 (Aql _ qk),Alu hd AA qk,qu];simp[Ft,Mo,Uc,Pj]
 .have hz:size=0:=h3.2.2 AA;have hi:init=0:=h4.2.2 AA AA;subst hz hi;have e:De ⟨3,line,nm,0,0,on⟩++59::10::r=[109,117,116,101,120]++32::(nm++59::10::r):=by simp[De]
  rw[e,R4 rfl AG AG AG AG (Iq _),E5,Ih h2 qk,qu];simp[Ft,Mo,Uc,Pj,Pi]
 .have hz:size=0:=h3.2.2 AA;have hi:init=0:=h4.2.2 AA AA;subst hz hi;have e:De ⟨4,line,nm,0,0,on⟩++59::10::r=[114,119,108,111,99,107]++32::(nm++59::10::r):=by simp[De]
  rw[e,R4 rfl AG AG AG AG (Iq _),E5,Ih h2 qk,qu];simp[Ft,Mo,Uc,Pj,Pi]
 .have hz:size=0:=h3.2.2 AA;have hi:init=0:=h4.2.2 AA AA;subst hz hi;have e:De ⟨5,line,nm,0,0,on⟩++59::10::r=[99,111,110,100]++32::(nm++32::(on++59::10::r)):=by simp[De]
  rw[e,R4 rfl AG AG AG AG (Iq _),E5,Ih h2 (Iq _),E5,Ih (h5 rfl) qk,qu];simp[Ft,Mo,Uc,Pj,Pi]
 .have hz:size=0:=h3.2.2 AA;have hi:init=0:=h4.2.2 AA AA;subst hz hi;have e:De ⟨6,line,nm,0,0,on⟩++59::10::r=[102,117,116,117,114,101]++32::(nm++59::10::r):=by simp[De]
  rw[e,R4 rfl AG AG AG AG (Iq _),E5,Ih h2 qk,qu];simp[Ft,Mo,Uc,Pj,Pi]
def Ams(qb:Mn){n:Int}(hn:0<=n/\n<=9223372036854775807){ts:List Tk}{r:List Kt}(h:ts.map Tk.kt=(2,B4 n)::r):∃ qc,He ts=some (n,qc)/\qc.map Tk.kt=r:=by
 obtain⟨t,qc,rfl,h1,h2,h3⟩:=Ee h;exact⟨qc,by unfold He;simp only;rw[if_pos h1,h2,qb n hn],h3⟩
def Bep(qb:Mn){n:Int}(hn:0<=n/\n<=9223372036854775807){ts:List Tk}{r:List Kt}(hr:L7 [91] r=false)(h:ts.map Tk.kt=Pj n++r):∃ qc,Tv ts=some (n,qc)/\qc.map Tk.kt=r:=by
 unfold Pj at h;unfold Tv;by_cases hz:n=0
 .rw[if_pos hz,Be]at h;rw[if_neg (by rw[Tf,h,hr];simp),hz];exact⟨ts,rfl,h⟩
 .rw[if_neg hz]at h;simp only[Bt,Be]at h;obtain⟨t,qm,rfl,k1,k2,k3⟩:=Ee h;obtain⟨qn,a1,a2⟩:=Ams qb hn k3;obtain⟨qj,b1,b2⟩:=M9 a2;rw[if_pos (P6 (.inr rfl) k1 k2),Om,a1];simp only;rw[if_neg hz,b1];exact⟨qj,rfl,b2⟩
def Aw4(qb:Mn){n:Int}(hn : -9223372036854775808<n/\n<=9223372036854775807){ts:List Tk}{r:List Kt}(hr:L7 [61] r=false)(h:ts.map Tk.kt=Pi n++r):∃ qc,Qp ts=some (n,qc)/\qc.map Tk.kt=r:=by
 unfold Pi at h;unfold Qp;by_cases hz:n=0
 .rw[if_pos hz,Be]at h;rw[if_neg (by rw[Tf,h,hr];simp),hz];exact⟨ts,rfl,h⟩
 rw[if_neg hz]at h;by_cases hm:n<0
 .rw[if_pos hm]at h;simp only[Bt,Be]at h;obtain⟨t,qm,rfl,k1,k2,k3⟩:=Ee h;obtain⟨t2,qn,rfl,k4,k5,k6⟩:=Ee k3;obtain⟨qj,a1,a2⟩:=Ams qb AA k6;rw[if_pos (P6 (.inr rfl) k1 k2),Om,if_pos (P6 (.inr rfl) k4 k5),Om,a1];exact⟨qj,by simp,a2⟩
 .rw[if_neg hm]at h;simp only[Bt,Be]at h;obtain⟨t,qm,rfl,k1,k2,k3⟩:=Ee h;obtain⟨t2,qn,rfl,k4,k5,k6⟩:=Ee k3;rw[if_pos (P6 (.inr rfl) k1 k2),Om,if_neg (by rw[Wa (.inr k4)];simp)];obtain⟨qj,a1,a2⟩:=Ams qb AA k3;exact⟨qj,a1,a2⟩
def Beq{k:Int}(h:1<=k/\k<=6):G8 (Uc k)=k:=by
 have hw:k=1\/k=2\/k=3\/k=4\/k=5\/k=6:=by omega
 rcases hw with rfl | rfl | rfl | rfl | rfl | rfl<;>rfl
def Aez{d d':Dp}(h1:d.kind=d'.kind)(h2:d.nm=d'.nm)(h3:d.size=d'.size)(h4:d.init=d'.init)(h5:d.on=d'.on):Ab9 d d'=true:=by
 unfold Ab9;rw[h1,h2,h3,h4,h5];simp
def Ber(qb:Mn){d:Dp}(h:ShD d){ts:List Tk}{r:List Kt}(hm:ts.map Tk.kt=Mo d++r):Nw ts=true/\∃ d' qc,R3 ts=some (d',qc)/\qc.map Tk.kt=r/\Ab9 d d'=true:=by
 obtain⟨kind,line,nm,size,init,on⟩:=d;obtain⟨h1,h2,h3,h4,h5,h6⟩:=h;simp only at h1 h2 h3 h4 h5 h6;simp only[Mo,Bt,Br,Be]at hm;obtain⟨t,qm,rfl,k1,k2,k3⟩:=Ee hm;obtain⟨qn,a1,a2⟩:=O4 k3;have qU:=Beq h1;refine⟨by simp only[Nw];rw[k1,k2,qU];simp;omega,?_⟩;simp only[R3,a1];rw[k2,qU];by_cases e1:kind=1
 .subst e1;rw[if_pos rfl];rw[if_neg AG,Be]at a2
  obtain⟨qj,b1,b2⟩:=Bep qb (n:=size) AA (by
   unfold Pi
   split
   .rfl
   .split<;>rfl) a2
  obtain⟨jc,c1,c2⟩:=Aw4 qb (n:=init) AA rfl b2;obtain⟨qF,d1,d2⟩:=M9 c2;rw[b1];simp only;rw[c1];simp only;rw[d1];exact⟨_,_,rfl,d2,Aez rfl rfl rfl rfl (h6 AG)⟩
 have hz:size=0:=h3.2.2 e1;subst hz;rw[if_neg e1];simp only[Pj,if_true,Be]at a2;by_cases e2:kind=2
 .subst e2;rw[if_pos rfl];rw[if_neg AG,Be]at a2;obtain⟨jc,c1,c2⟩:=Aw4 qb (n:=init) AA rfl a2;obtain⟨qF,d1,d2⟩:=M9 c2;rw[c1];simp only;rw[d1];exact⟨_,_,rfl,d2,Aez rfl rfl rfl rfl (h6 AG)⟩
 have hi:init=0:=h4.2.2 e1 e2;subst hi;rw[if_neg e2];simp only[Pi,if_true,Be]at a2;by_cases e5:kind=5
 .subst e5;rw[if_pos rfl];simp only[if_true,Bt,Be]at a2;obtain⟨qj,b1,b2⟩:=O4 a2;obtain⟨qF,d1,d2⟩:=M9 b2;rw[b1];simp only;rw[d1];exact⟨_,_,rfl,d2,Aez rfl rfl rfl rfl rfl⟩
 .rw[if_neg e5];rw[if_neg e5,Be]at a2;obtain⟨qF,d1,d2⟩:=M9 a2;rw[d1];exact⟨_,_,rfl,d2,Aez rfl rfl rfl rfl (h6 e5)⟩
def Auf(qb:Mn){r:List Kt}(hr:r≠[]->∃ r',r=(3,Po)::r'):∀ {l:List Dp},(∀ d∈l,ShD d)->∀ {n:Nat} {ts:List Tk},ts.map Tk.kt=(l.map Mo).flatten++r->l.length<n->∃ l' qc,Lm n ts=some (l',qc)/\qc.map Tk.kt=r/\l.length=l'.length/\((l.zip l').all fun p=>Ab9 p.1 p.2)=true
 | [],_,n,ts,hm,hn=>by
  obtain⟨n,rfl⟩:∃ k,n=k+1:=⟨n - 1,by omega⟩;simp only[Bz,Zl,Be]at hm;refine⟨[],ts,?_,hm,rfl,rfl⟩;rw[Lm,if_neg ?_]
  cases ts with
  | nil=>simp[Nw]
  | cons t ts=>
   obtain⟨r',e⟩:=hr (by rw[<-hm];simp);rw[e]at hm;obtain⟨t',qc,e2,k1,k2,k3⟩:=Ee hm;cases e2;simp only[Nw];rw[k2];rw[show G8 Po=0 from rfl];simp
 | d::l,h,n,ts,hm,hn=>by
  obtain⟨n,rfl⟩:∃ k,n=k+1:=⟨n - 1,by simp at hn;omega⟩;simp only[Az,Fg,Br]at hm;obtain⟨h1,d',qm,h2,h3,h4⟩:=Ber qb (h d B7) hm;obtain⟨l',qn,a1,a2,a3,a4⟩:=Auf qb hr (l:=l) (fun d hd=>h d (Ci _ hd)) (n:=n) h3 (by simp at hn;omega);refine⟨d'::l',qn,?_,a2,by simp[a3],by simp[h4];simpa using a4⟩;rw[Lm,if_pos h1,h2];simp only;rw[a1]
/-! threads -/
def Pp:List (List UInt8)->List Kt
 | []=>[]
 | [a]=>[(1,a)]
 | a::b::l=>(1,a)::(4,[44])::Pp (b::l)
def Nd(t:Tp):List Kt:=(3,Po)::(1,t.nm)::(4,[40])::(Pp t.locals++(4,[41])::(4,[123])::(Sp.tokss t.body++[(4,[125])]))
def Ahh(p:Gp):List Kt:=(p.decls.map Mo).flatten++(p.thrs.map Nd).flatten
def Ay3:∀ {l:List (List UInt8)},(∀ s∈l,Bm s=true)->∀ r,Lr r->B8 (Eo l++r)=cons (Pp l) (B8 r)
 | [],_,r,_=>(Aal _).symm
 | [a],h,r,hr=>Ih (h a AE) hr
 | a::b::l,h,r,hr=>by
  simp only[Eo,Pp,Br,Bt];rw[Ih (h a AE) (Mc _ AG),G5 AG,E5,Ay3 (l:=b::l) (fun s hs=>h s (Ci _ hs)) r hr];simp only[Ft,Bt,Be]
def Bks(hd:Qr){t:Tp}(h1:Bm t.nm=true)(h2:∀ s∈t.locals,Bm s=true)(h3:∀ s∈t.body,ShS s)(r:List UInt8):B8 (Ea t++r)=cons (Nd t) (B8 r):=by
 have e:Ea t++r=Po++32::(t.nm++40::(Eo t.locals++41::32::123::10::(Sp.txts 1 t.body++125::10::r))):=by simp[Ea,Po]
 rw[e,R4 (w:=Po) rfl AG AG AG AG (Iq _),E5,Ih h1 (Mc _ AG),G5 AG,Ay3 h2 _ (Mc _ AG),G5 AG,E5,G5 AG,Ua,
  Agm (d:=1) (fun s hs r=>Ben hd (h3 s hs) 1 r),G5 AG,Ua]
 simp only[Ft,Nd,Bt,Be,Br]
def Bes(hd:Qr){p:Gp}(h:ShG p):B8 (Fd p)=some (Ahh p):=by
 have a:∀ (l:List Dp),(∀ d∈l,ShD d)->∀ r,B8 ((l.map fun d=>De d++[59,10]).flatten++r)=cons ((l.map Mo).flatten) (B8 r):=by
  intro l
  induction l with
  | nil=>intro _ r;exact(Aal _).symm
  | cons d l ih=>
   intro hl r;simp only[Az,Fg,Br,Bt,Be];rw[Beo hd (hl d B7),ih (fun d hd=>hl d (Ci _ hd)),Ft]
 have b:∀ (l:List Tp),(∀ t∈l,Bm t.nm=true)->(∀ t∈l,∀ s∈t.locals,Bm s=true)->(∀ t∈l,∀ s∈t.body,ShS s)->∀ r,B8 ((l.map Ea).flatten++r)=cons ((l.map Nd).flatten) (B8 r):=by
  intro l
  induction l with
  | nil=>intro _ _ _ r;exact(Aal _).symm
  | cons t l ih=>
   intro h1 h2 h3 r;simp only[Az,Fg,Br];rw[Bks hd (h1 t B7) (h2 t B7) (h3 t B7),ih (fun t ht=>h1 t (Ci _ ht)) (fun t ht=>h2 t (Ci _ ht)) (fun t ht=>h3 t (Ci _ ht)),Ft]
 unfold Fd Ahh;rw[a p.decls h.decls,show(p.thrs.map Ea).flatten=(p.thrs.map Ea).flatten++[] by simp,b p.thrs h.nms h.locs h.thrs,Bkh];simp[cons]
def Ay4:∀ {l:List (List UInt8)},l≠[]->∀ {n:Nat} {ts:List Tk} {r:List Kt},ts.map Tk.kt=Pp l++(4,[41])::r->l.length<=n->∃ qc,Lw n ts=some (l,qc)/\qc.map Tk.kt=r
 | [],h,_,_,_,_,_=>absurd rfl h
 | [a],_,n,ts,r,hm,hn=>by
  obtain⟨n,rfl⟩:∃ k,n=k+1:=⟨n - 1,by simp at hn;omega⟩;obtain⟨qm,a1,a2⟩:=O4 (r:=(4,[41])::r) hm;obtain⟨qn,b1,b2⟩:=M9 a2;refine⟨qn,?_,b2⟩;rw[Lw,a1];simp only;rw[if_neg (by rw[Tf,a2];simp[L7]),b1];rfl
 | a::b::l,_,n,ts,r,hm,hn=>by
  obtain⟨n,rfl⟩:∃ k,n=k+1:=⟨n - 1,by simp at hn;omega⟩;obtain⟨qm,a1,a2⟩:=O4 (r:=(4,[44])::(Pp (b::l)++(4,[41])::r)) hm;obtain⟨t2,qn,rfl,k1,k2,k3⟩:=Ee a2;obtain⟨qj,b1,b2⟩:=Ay4 (l:=b::l) AE (n:=n) k3 (by simp at hn ⊢;omega);refine⟨qj,?_,b2⟩;rw[Lw,a1];simp only;rw[if_pos (P6 (.inr rfl) k1 k2),Om,b1]
def Bet{l:List (List UInt8)}{n:Nat}{ts:List Tk}{r:List Kt}(hm:ts.map Tk.kt=Pp l++(4,[41])::r)(hn:l.length<=n):∃ qc,Ab8 n ts=some (l,qc)/\qc.map Tk.kt=r:=by
 unfold Ab8;by_cases h:l=[]
 .subst h;obtain⟨t,qc,rfl,k1,k2,k3⟩:=Ee (r:=r) hm;rw[if_pos (P6 (.inr rfl) k1 k2)];exact⟨qc,rfl,k3⟩
 .obtain⟨qc,a1,a2⟩:=Ay4 h hm hn;refine⟨qc,?_,a2⟩;rw[if_neg ?_,a1];rw[Tf,hm]
  match l with
  | []=>exact absurd rfl h
  | [a]=>simp[Pp,L7]
  | a::b::l=>simp[Pp,L7]
def A9y{t t':Tp}(h1:t.nm=t'.nm)(h2:t.locals=t'.locals)(h3:Mf t.body t'.body=true):Wb t t'=true:=by
 unfold Wb;rw[h1,h2,h3];simp
def Aug:∀ l:List (List UInt8),l.length<=(Pp l).length
 | []=>Ak _
 | [a]=>Ak _
 | a::b::l=>by
  have:=Aug (b::l);simp only[Pp,Ao]at this ⊢;omega
def Bkt(qb:Mn){t:Tp}(h:∀ s∈t.body,ShS s){n:Nat}{ts:List Tk}{r:List Kt}(hm:ts.map Tk.kt=Nd t++r)(hn:10*ts.length+2<=n):∃ t' qc,Sf n ts=some (t',qc)/\qc.map Tk.kt=r/\Wb t t'=true:=by
 have hl:=H5 hm;simp only[Nd,Bt,Br,Be]at hm;obtain⟨t0,qm,rfl,k1,k2,k3⟩:=Ee hm;obtain⟨qn,a1,a2⟩:=O4 k3;obtain⟨qj,b1,b2⟩:=M9 a2;have jG:=Aug t.locals;simp only[Nd,Ao,Ar,Di]at hl;rw[Ao]at hn;obtain⟨jc,c1,c2⟩:=Bet (n:=n) b2 AA;have jn:=H5 c2;simp only[Ao,Ar]at jn;obtain⟨l',qF,d1,d2,d3⟩:=Aak h (fun s hs=>Bea qb (h s hs)) (n:=n) c2 AA;refine⟨_,qF,?_,d2,A9y (t':=⟨t.nm,t0.line,true,0,t.locals,true,0,l'⟩) rfl rfl d3⟩;simp only[Sf,a1];rw[b1];simp only;rw[c1];simp only;rw[d1]
def Aw5(qb:Mn){m:Nat}:∀ {l:List Tp},(∀ t∈l,∀ s∈t.body,ShS s)->∀ {n:Nat} {ts:List Tk},ts.map Tk.kt=(l.map Nd).flatten->10*ts.length+2<=m->l.length<n->∃ l',Lq m n ts=some (l',[])/\l.length=l'.length/\((l.zip l').all fun p=>Wb p.1 p.2)=true
 | [],_,n,ts,hm,_,hn=>by
  obtain⟨n,rfl⟩:∃ k,n=k+1:=⟨n - 1,by omega⟩;have:ts=[]:=by simpa using hm
  subst this;exact⟨[],by rw[Lq,if_neg (by simp[Av])],rfl,rfl⟩
 | t::l,h,n,ts,hm,hb,hn=>by
  obtain⟨n,rfl⟩:∃ k,n=k+1:=⟨n - 1,by simp at hn;omega⟩;simp only[Az,Fg]at hm;obtain⟨t',qm,a1,a2,a3⟩:=Bkt qb (h t B7) hm hb;have hl:=H5 hm;have jm:=H5 a2;rw[Ar]at hl;obtain⟨l',b1,b2,b3⟩:=Aw5 qb (m:=m) (l:=l) (fun t ht=>h t (Ci _ ht)) (n:=n) a2 AA (by simp at hn;omega);refine⟨t'::l',?_,by simp[b2],by simp[a3];simpa using b3⟩
  have jw:Av Po ts=true:=by
   rw[Tf,hm];simp[Nd,L7]
  rw[Lq,if_pos jw,a1];simp only;rw[b1]
def Alv{α:Type}(f:α->List Kt)(hf:∀ x,1<=(f x).length):∀ l:List α,l.length<=((l.map f).flatten).length
 | []=>Ak _
 | x::l=>by
  have:=Alv f hf l;have:=hf x;simp only[Az,Fg,Ar,Ao];omega
def Beu(qb:Mn){p:Gp}(h:ShG p){ts:List Tk}(hm:ts.map Tk.kt=Ahh p):∃ p',V9 ts=some (p',[])/\Wc p p'=true:=by
 have hl:=H5 hm;unfold Ahh at hm hl;have g1:=Alv Mo (fun d=>by simp[Mo]) p.decls;have g2:=Alv Nd (fun t=>by simp[Nd]) p.thrs;rw[Ar]at hl
 obtain⟨l1,qm,a1,a2,a3,a4⟩:=Auf qb (r:=(p.thrs.map Nd).flatten) (fun qJ=>by
  match hp:p.thrs with
  | []=>rw[hp]at qJ;exact absurd rfl qJ
  | t::l=>simp[Nd]) h.decls (n:=ts.length+1) hm AA
 have jm:=H5 a2;obtain⟨l2,b1,b2,b3⟩:=Aw5 qb (m:=Nb ts.length) (l:=p.thrs) h.thrs (n:=ts.length+1) a2 (by unfold Nb;omega) AA
 have qJ:l2.isEmpty=false:=by
  cases l2 with
  | nil=>exact absurd (U0.1 b2) h.some
  | cons _ _=>rfl
 refine⟨⟨true,0,l1,true,0,l2⟩,?_,?_⟩
 .unfold V9;rw[a1];simp only;rw[b1];simp only;rw[if_neg (by rw[qJ];simp)]
 .unfold Wc;simp only[a3,b2,a4,b3,beq_self_eq_true,Bool.and_self]
def Aqm(hd:Qr)(qb:Mn){p:Gp}(h:ShG p)(hl:(Fd p).length<=4096):∃ p',Jh (Fd p)=some p'/\Wc p p'=true:=by
 have hs:=Bes hd h;unfold B8 Uw at hs;obtain⟨ts,h1,h2⟩:=Ck.1 hs;obtain⟨p',h3,h4⟩:=Beu qb h h2;refine⟨p',?_,h4⟩;unfold Jh;rw[if_neg AA,h1];simp only;rw[h3]
/-! equal expressions have the same tokens and texts -/
mutual
theorem Aei:∀ (x y:Xp),H3 x y=true->x.op=y.op/\x.toks=y.toks/\x.txt=y.txt
 | ⟨op,n,nm,z,t,l⟩,⟨op',n',nm',z',t',l'⟩,h=>by
  simp only[H3,Ai,beq_iff_eq]at h;obtain⟨rfl,rfl,rfl,h⟩:=h;obtain⟨h1,h2⟩:=Aqn l l' h
  simp_all [Xp.toks,Xp.txt]
theorem Aqn:∀ (l l':List Xp),Ji l l'=true->Xp.tokss l=Xp.tokss l'/\Xp.txts l=Xp.txts l'
 | [],[],_=>⟨rfl,rfl⟩
 | x::l,y::l',h=>by
  simp only[Ji,Ai]at h;obtain⟨h1,h2,h3⟩:=Aei x y h.1;obtain⟨h4,h5⟩:=Aqn l l' h.2
  simp_all [Xp.tokss,Xp.txts]
 | [],_::_,h=>by cases h
 | _::_,[],h=>by cases h
end
/-! what is parsed has no more tokens than its text needs -/
def Bev(s:List UInt8):Gj s=(0,0)\/((6<=(Gj s).1/\(Gj s).1<=18)/\(Gj s).2=Bf (Gj s).1):=by
 unfold Gj
 cases h:opTab.lookup s with
 | none=>grind
 | some p=>
  have hm:∃ k,(k,p)∈opTab:=by
   revert h;generalize opTab=l
   induction l with
   | nil=>grind
   | cons q l ih=>
    grind
  obtain⟨k,hk⟩:=hm;have jg:(opTab.all fun q=>decide ((6<=q.2.1/\q.2.1<=18)/\q.2.2=Bf q.2.1))=true:=by decide
  grind
def A9z{lvl:Nat}{ts:List Tk}(h:H9 lvl ts≠0):(6<=H9 lvl ts/\H9 lvl ts<=18)/\Bf (H9 lvl ts)=lvl/\ts.length=ts.tail.length+1:=by
 cases ts with
 | nil=>exact absurd rfl h
 | cons t ts=>
  simp only[H9]at h ⊢
  split at h
  .split at h
   .rename_i h1 h2;rw[if_pos h1,if_pos h2];rcases Bev t.text with e | e
    .grind
    grind
   omega
  omega
/-! parentheses -/
def bd:Nat->List UInt8->Option Nat
 | d,[]=>some d
 | d,c::r=>if c=40 then bd (d+1) r else if c=41 then(if d<=1 then none else bd (d - 1) r) else bd d r
def flatB(l:List UInt8):Prop:=∀ c∈l,c≠40/\c≠41
def A4d(k:IntKind)(n d:Nat):Dz (some (.int k (n:Int))) d=some n:=by
 simp only[Dz];rw[if_pos AA,Nk]
attribute [go_sem ↓] A4d
attribute [go_sem] Adu Ax Zi
