/- Walks: both versions of a program; the laws of corresponding sites. -/
import Derived.Test.YtphikjgngompaacGreatDoorLu
import Derived.Test.YtphikjgngompaacGreatDoorPi
set_option linter.all false
namespace Go.Proofs.YtphikjgngompaacGreatDoor.KM
open Go
def zeroG:Gp:=⟨true,0,[],true,0,[]⟩
def A4o:zeroG.row=[.nils,.nils]:=by grind[Ef,zeroG,SL]
def Axi{s:List UInt8}{v:V}(h:Xv s v):∃ (g:Gp) (e ln:Int),v=.tup [.agg g.row,iV e,iV ln]/\(e=0->Ol s=some g)/\(e≠0->g=zeroG):=by
 unfold Xv at h
 cases hp:Ol s with
 | some g=>grind
 | none=>
  rw[hp]at h;obtain⟨e,ln,he,rfl⟩:=h;exact⟨zeroG,e,ln,by rw[A4o],fun h=>absurd h he,fun _=>rfl⟩
def VeR(v:V):Prop:=∃ (A B:Gp) (ok:Bool),v=.tup [.agg A.row,.agg B.row,.bool ok]/\(ok=true->PY A/\PY B/\∃ P,OKp P/\Ol (Il P)=some A)
def A8g{g:V}{kill:List Nat}{x y:AC}{k:List It}{e:Env}{σ:St}{Q:Env->St->Prop}(P:Env->St->Prop)(h1:∀ k',(∀ e σ,P e σ->W TT PT k' e σ Q)->WC TT PT g kill x y k' e σ Q)(h2:∀ e σ,P e σ->W TT PT k e σ Q):WC TT PT g kill x y k e σ Q:=h1 k h2
set_option maxHeartbeats 4000000 in
def A01(z0 z1 z2:Bool)(t0 t1 t2:Nat)(a b c:List UInt8)(un:Bool)(ha:a.length<=9223372036854775807)(hb:b.length<=9223372036854775807)(hc:c.length<=9223372036854775807):∃ v,Fn TT PT 4 [.agg [SL z0 t0 (By a),SL z1 t1 (By b),SL z2 t2 (By c),.bool un]] v/\VeR v:=by
 obtain⟨P,q1,qH⟩:=As2 z0 t0 a ha;obtain⟨P2,q2,qA⟩:=As2 z2 t2 c hc;have jo:=qH.len;have q3:=Ar2 (Aks qH.sh) AA;obtain⟨v4,q4,je⟩:=Adk (Il P);obtain⟨A,eA,lA,rfl,jK,jL⟩:=Axi je;obtain⟨E,q5,hd,hE⟩:=Bct qH z1 t1 b hb;obtain⟨jf,lE⟩:=Bm1 qH hd hE;have jp:=Ef P;have qJ:=Ef P2;have jj:=Ef A;have jl:=Ef E;rw[jp]at q1 q3 q5;rw[qJ]at q2;rw[jj]at q4;rw[jl]at q5;refine Alx T4 rfl ?_;simp only[go_sem];refine Ab q1 AB ?_;simp only[go_sem];refine Ab q3 AB ?_;simp only[go_sem];refine Ab q4 AB ?_;simp only[go_sem];refine Ad AD ?_;simp only[go_sem];refine Ax q1 AB ?_;simp only[go_sem];refine Ax q5 AB ?_;simp only[go_sem];refine Bd ?_;simp only[go_sem];refine Bd ?_;simp only[go_sem];refine A8g (fun e s=>∃ R:Gp,(CnG R/\(Il R).length<=20000000000)/\(e=[(1,.ptr 0 0 0),(2,.ptr 1 0 0),(3,.ptr 2 0 0),(5,.ptr 3 0 0),(8,.ptr 4 0 0)]\/e=[(2,.ptr 1 0 0),(3,.ptr 2 0 0),(5,.ptr 3 0 0),(8,.ptr 4 0 0)])/\s=[.row [SL z0 t0 (By a),SL z1 t1 (By b),SL z2 t2 (By c),.bool un] 24 0 0,.row [.nils,.nils] 34 0 0,.row [.nils,.nils] 34 0 0,gO A,gO R]) ?_ ?_
 .intro k' qX;cases un
  .simp only[go_sem];exact qX _ _ ⟨E,⟨jf,lE⟩,.inl rfl,rfl⟩
  .simp only[go_sem];refine Ab q2 AB ?_;simp only[go_sem];exact qX _ _ ⟨P2,⟨Aks qA.sh,by have:=qA.len;omega⟩,.inr rfl,rfl⟩
 rintro _ _ ⟨R,⟨jg,lR⟩,he,rfl⟩;have q6:=Ar2 jg AA;obtain⟨v7,q7,jG⟩:=Adk (Il R);obtain⟨B,eB,lB,rfl,jM,jN⟩:=Axi jG;have jq:=Ef R;have jk:=Ef B;have qO:(A.thrs.map Tp.row).length=A.thrs.length:=Av ..;rw[jq]at q6;rw[jk]at q7
 have qm:∀ ok:Bool,(ok=true->eB=0/\0<A.thrs.length)->VeR (.tup [.agg (gR A),.agg (gR B),.bool ok]):=fun ok h=>by
  refine⟨A,B,ok,by grind,fun jD=>?_⟩;obtain⟨h1,h2⟩:=h jD
  have h3:eA=0:=Decidable.byContradiction fun jC=>by
   grind[zeroG]
  grind[Ai4]
 rcases he with rfl | rfl
 all_goals (
  simp only[go_sem];refine Ab q6 AB ?_;simp only[go_sem];refine Ab q7 AB ?_;simp only[go_sem];by_cases h0:eB=0
  .by_cases h1:0<A.thrs.length
   .have f1:(eB==0)=true:=by simp[h0]
    have f2:(0<(A.thrs.length:Int))=True:=eq_true AA;refine Ad AD ?_;simp only[go_sem,f1,qO,f2];refine Bd ?_;simp only[go_sem];refine Bd ?_;simp only[go_sem];refine⟨.tup [.agg (gR A),.agg (gR B),.bool true],?_,qm true fun _=>⟨h0,h1⟩⟩;simp only[go_sem];exact Fq AB
   .have f1:(eB==0)=true:=by simp[h0]
    have f2:(0<(A.thrs.length:Int))=False:=eq_false AA;refine Ad AD ?_;simp only[go_sem,f1,qO,f2];refine Bd ?_;simp only[go_sem];refine Bd ?_;simp only[go_sem];refine⟨.tup [.agg (gR A),.agg (gR B),.bool false],?_,qm false fun h=>by cases h⟩;simp only[go_sem];exact Fq AB
  .have f1:(eB==0)=false:=by simp[h0]
   refine Ad AD ?_;simp only[go_sem,f1,qO];refine Bd ?_;simp only[go_sem];refine Bd ?_;simp only[go_sem];refine⟨.tup [.agg (gR A),.agg (gR B),.bool false],?_,qm false fun h=>by cases h⟩;simp only[go_sem]
   exact Fq AB)
def kz:Bp:=([],[],0)
def A8h{p:Gp}(h:PX p){s:Nat}{k:Bp}(hk:(Cq p)[s]?=some k):Fn TT PT 49 [.agg p.row,iV (s:Int)] (.tup [.agg (kR k),.bool true]):=by
 have h1:=Bhp h (s:Int);have h2:(Im p)[s]?=some (Bl k):=by rw[Zt,Ak,hk];rfl
 have h3:=(An.1 h2).1
 have h4:Agi p (s:Int)=.tup [.agg (Bl k),.bool true]:=by
  unfold Agi;rw[if_pos AA,Mv,Fl,h2];rfl
 rw[h4]at h1;exact h1
theorem Al7(L:List Int):(Ao L).flatten=Dz L:=by
 induction L with
 | nil=>rfl
 | cons a L ih=>
  unfold Ao Dz at ih ⊢;rw[Bh,Gv,Bh,ih];rfl
theorem Ao5(L:List Int):(Jk L).Perm L:=List.mergeSort_perm _ _
def A4p(L:List Int):(Jk L).Pairwise (·<=·):=by
 have:=List.pairwise_mergeSort (le:=fun x y:Int=>decide (x<=y)) (fun a b c h1 h2=>by simp at h1 h2 ⊢;omega) (fun a b=>by simp;omega) L;exact this.imp fun h=>by simpa using h
def A4q(z:Bool)(t:Nat)(l:List Int)(hn:l≠[])(hb:l.length<=1000000):Fn TT PT 83 [SL z t (Ao l)] (SL true 0 (Ao l)):=by
 have qc:Ao l≠[]:=by simpa[Ao] using hn
 have ha:=Axf (σ:=[]) (m:=1) (e:=3) (bytes:=8) (y:=.lst t (Ao l)) (ys:=Ao l) rfl qc AA (Ie l) (by grind[F8]);rw[Aah qc];refine Bg T83 rfl ?_;simp only[go_sem,ha];exact Sn (m:=1) (e:=3) (lo:=0) (.inr ⟨qc,0,0,rfl,rfl,Am _⟩) AA (Ie l) (Ph l)
def As7{σ:St}{i t:Nat}{P A:List Int}{R:List V}(ho:σ[i]?=some (.row (Dz P++R) 3 0 0))(hr:A.length<=R.length)(hb:P.length+A.length<=1000000):
  Dx 8 (1,3) (.sl i 0 0 P.length 1 true) (.lst t (Ao A)) σ=some (.sl i 0 0 (P++A).length 1 true,σ.set i (.row (Dz (P++A)++R.drop A.length) 3 0 0)):=by
 have qi:((Ao A).all fun r=>r.length==1)=true:=by
  rw[Cc];intro r hr;simp[Ie A r hr]
 have jo:(Dz P).length=P.length:=by unfold Dz;rw[Av]
 have qe:=F8 A;unfold Dx;simp only[E5,C5];unfold Jm;simp only;rw[if_pos ⟨qi,by omega⟩,if_pos ⟨by omega,trivial⟩];simp only[ho,if_pos];by_cases hA:A=[]
 .subst hA;simp only[Ao,B0,List.isEmpty_nil,if_pos,Bz,Dn,Mc];rw[N3 ho]
 .have he:(Ao A).isEmpty=false:=by simpa[Ao] using hA
  rw[he,if_neg AE,if_pos ⟨trivial,trivial,trivial,As _⟩,if_pos (by grind),qe,Al7,Ya,Ya,Aj]
  grind[Dz,List.drop_append,List.drop_eq_nil_of_le]
def A4r(a b:Nat)(A B:List Int)(h0:A++B≠[])(hb:A.length+B.length<=1000000):
  Fn TT PT 84 [.lst 1 [[.lst a (Ao A)],[.lst b (Ao B)]]] (SL true 0 (Ao (A++B))):=by
 have qc:Ao (A++B)≠[]:=by simpa[Ao] using h0
 have qe:=F8 A;have qp:=F8 B;have w1:IntKind.i64.wrap (0+(A.length:Int))=(A.length:Int):=by rw[Bo AA];omega
 have w2:IntKind.i64.wrap ((A.length:Int)+(B.length:Int))=((A.length+B.length:Nat):Int):=by rw[Bo AA];omega
 have f1:((A.length:Int)<0)=False:=eq_false AA;have f2:(((A.length+B.length:Nat):Int)<0)=False:=eq_false AA
 have qx:0<A.length+B.length:=by
  rcases Vi (A.length+B.length) with h | h
  .simp_all
  .exact h
 have hg:Aan [.nils,iV ((A.length+B.length:Nat):Int)] []=some (.sl 0 0 0 0 1 true,[.row (List.replicate (A.length+B.length) (iV 0)) 3 0 0]):=by
  unfold Aan;simp only;rw[if_neg AA,if_pos ⟨by omega,by omega⟩,Mv];rfl
 have a1:=As7 (σ:=[.row (List.replicate (A.length+B.length) (iV 0)) 3 0 0]) (i:=0) (t:=a) (P:=[]) (A:=A) (R:=List.replicate (A.length+B.length) (iV 0)) rfl AE (by grind);have a2:=As7 (σ:=[.row (Dz A++List.replicate B.length (iV 0)) 3 0 0]) (i:=0) (t:=b) (P:=A) (A:=B) (R:=List.replicate B.length (iV 0)) rfl AE AA;simp only[Ct,Dn,List.drop_replicate,Nat.add_sub_cancel_left,Agy,Iu,Agx,Bz]at a1 a2;rw[Aah qc];refine Bg T84 rfl ?_;simp only[go_sem];refine Ay Alt ?_;simp only[go_sem,qe,w1,f1];refine Ay Alt ?_;simp only[go_sem,qp,w2,f2];refine Ay Alt ?_;simp only[go_sem];refine Jz (.spec T137 rfl rfl hg) ?_;simp only[go_sem];refine Ay Alu ?_;simp only[go_sem,a1];refine Ay Alu ?_;simp only[go_sem,a2];refine Ay Alu ?_;simp only[go_sem];have:=Afj (σ:=[.row (Dz (A++B)) 3 0 0]) (m:=1) (e:=3) (i:=0) (g:=0) (xs:=Ao (A++B)) (by grind[Al7]) AA (Ie _) (Ph _);rw[F8,Aj]at this;exact this
abbrev Gg:List Int->List Int->Int:=H8 Lib.compareInt
def K8(l:List Int):List Int:=M7 (fun x y=>decide (Gg x y<0)) l (List.range l.length) l
def A02(z u:Bool)(t w:Nat)(A B:List Int)(ha:A.length<=1000000)(hb:B.length<=1000000):
  Fn TT PT 85 [SL z t (Ao A),SL u w (Ao B)] (iV (Gg A B)):=by
 have qe:=F8 A;have qp:=F8 B;refine Bg T85 rfl ?_;simp only[go_sem,qe]
 refine Bb (α:=Nat) (fun i=>A.length - i) (fun i=>[(0,SL z t (Ao A)),(1,SL u w (Ao B)),(9,SL z t (Ao A)),(10,iV (A.length:Int)),(11,iV (i:Int))]) (fun _=>[])
  (fun i=>i<=A.length/\i<=B.length/\Gg A B=Gg (A.drop i) (B.drop i)) ?_ 0 ⟨As _,As _,rfl⟩
 rintro i ⟨hi,qW,hc⟩ ih;refine Ay Blu ?_;rcases Az i A.length with h | h;rotate_left
 .have jw:i=A.length:=by omega
  subst jw;rw[List.drop_length]at hc;simp only[go_sem,Bj h,qe,qp];by_cases h2:A.length<B.length
  .have f1:((A.length:Int)<(B.length:Int))=True:=eq_true AA;rw[Ib h2]at hc;simp only[go_sem,f1];exact Ae rfl (by rw[hc];rfl)
  .have f1:((A.length:Int)<(B.length:Int))=False:=eq_false AA;rw[D4 AA]at hc;simp only[go_sem,f1];exact Ae rfl (by rw[hc];rfl)
 obtain⟨x,hx,qF,-⟩:=Bk h;have ql:(Ao A)[i]?=some [iV x]:=by unfold Ao;rw[Ak,hx];rfl
 have i1:IntKind.i64.wrap ((i:Int)+1)=((i+1:Nat):Int):=Aw AA;rcases Az i B.length with h2 | h2;rotate_left
 .have f1:((i:Int)>=(B.length:Int))=True:=eq_true AA;rw[qF,D4 h2]at hc;simp only[go_sem,Aq h,ql,qp,f1];exact Ae rfl (by rw[hc];rfl)
 obtain⟨y,hy,qR,-⟩:=Bk h2;have qG:(Ao B)[i]?=some [iV y]:=by unfold Ao;rw[Ak,hy];rfl
 have f1:((i:Int)>=(B.length:Int))=False:=eq_false AA;rw[qF,qR]at hc
 have qf:Gg A B=if Lib.compareInt x y≠0 then Lib.compareInt x y else Gg (A.drop (i+1)) (B.drop (i+1)):=hc
 simp only[go_sem,Aq h,ql,qp,f1,qG];refine Ab (Zi x y) AB ?_;simp only[go_sem];by_cases h3:Lib.compareInt x y=0
 .rw[if_neg AA]at qf;have f2:(Lib.compareInt x y != 0)=false:=by simpa using h3
  simp only[go_sem,f2,i1];exact Ai (ih (i+1) AA ⟨h,h2,qf⟩) rfl
 .rw[if_pos h3]at qf;have f2:(Lib.compareInt x y != 0)=true:=by simpa using h3
  simp only[go_sem,f2];exact Ae rfl (by rw[qf])
def Avn(t:Nat)(l:List Int)(i:Nat)(h:i<=l.length):∃ t1,Io 1 (.lst t (Ao l)) (some (iV (i:Int))) none none=some (.lst t1 (Ao (l.drop i))):=by
 have qi:((Ao l).all fun r=>r.length==1)=true:=by
  rw[Cc];intro r hr;simp[Ie l r hr]
 have hd:Ao (l.drop i)=(Ao l).drop i:=by unfold Ao;rw[Ag9]
 have hl:=F8 l
 have h2:Io 1 (.lst t (Ao l)) (some (iV (i:Int))) none none=some (.lst (if(none:Option V).isSome then 1 else if(Ao l).length=(Ao l).length/\t=1 then 1 else 0) (((Ao l).take (Ao l).length).drop i)):=by
  simp only[Io,Ed,if_pos (X0 i),Mv,C5];rw[if_pos ⟨by omega,Am _,trivial,.inr qi⟩]
 grind
def Avo(t:Nat)(l:List Int)(i:Nat)(h:i<=l.length):∃ t1,Io 1 (.lst t (Ao l)) none (some (iV (i:Int))) none=some (.lst t1 (Ao (l.take i))):=by
 have hd:Ao (l.take i)=(Ao l).take i:=by unfold Ao;rw[Vo]
 have hl:=F8 l
 have h2:Io 1 (.lst t (Ao l)) none (some (iV (i:Int))) none=some (.lst (if(none:Option V).isSome then 1 else if i=(Ao l).length/\t=1 then 1 else 0) (((Ao l).take i).drop 0)):=by
  simp only[Io,Ed,if_pos (X0 i),Mv,C5];rw[if_pos ⟨As _,by omega,trivial,.inl trivial⟩]
 grind
def Bcx{l:List Int}(hn:l≠[])(i:Nat):G0 l i≠[]:=fun e=>by
 grind[Ty]
def Bcy(z:Bool)(t:Nat)(l:List Int)(hn:l≠[])(hb:l.length<=1000):
  Fn TT PT 48 [SL z t (Ao l)] (SL true 0 (Ao (K8 l))):=by
 have hl:=F8 l;have qc:Ao l≠[]:=by simpa[Ao] using hn
 have g1:=A4q z t l hn AA;rw[Aah qc]at g1 ⊢;refine Bg T48 rfl ?_;simp only[go_sem];refine Ab g1 AB ?_;simp only[go_sem,hl]
 refine Bb (α:=Nat × List Int) (fun a=>l.length - a.1) (fun a=>[(0,.lst t (Ao l)),(3,SL true 0 (Ao a.2)),(9,iV (l.length:Int)),(10,iV (a.1:Int))]) (fun _=>[])
  (fun a=>a.1<=l.length/\a.2.length=l.length/\K8 l=M7 (fun x y=>decide (Gg x y<0)) l ((List.range l.length).drop a.1) a.2) ?_ (0,l) ⟨As _,rfl,rfl⟩
 rintro⟨i,qa⟩ ⟨hi,qr,hc⟩ ih;simp only at hi qr hc ih;refine Ay Bk4 ?_;rcases Az i l.length with h | h;rotate_left
 .rw[D4 (by grind)]at hc;have hc:K8 l=qa:=hc;simp only[go_sem,Bj h];rw[hc];exact Gs AB
 rw[Ib (by grind),Agz]at hc;have hc:K8 l=M7 (fun x y=>decide (Gg x y<0)) l ((List.range l.length).drop (i+1)) (if decide (Gg (G0 l i) qa<0)=true then G0 l i else qa):=hc;obtain⟨t1,c1⟩:=Avn t l i hi;obtain⟨t2,c2⟩:=Avo t l i hi;have i1:IntKind.i64.wrap ((i:Int)+1)=((i+1:Nat):Int):=Aw AA;have g2:=A4r t1 t2 (l.drop i) (l.take i) (Bcx hn i) (by grind);have g3:=A02 true true 0 0 (G0 l i) qa (by grind[Ty]) AA;simp only[go_sem,Aq h];refine Ad AD ?_;simp only[go_sem,c1,c2];refine Ax g2 AB ?_;simp only[go_sem];refine Ab g3 AB ?_;simp only[go_sem];by_cases h3:Gg (G0 l i) qa<0
 .have f2:(Gg (G0 l i) qa<0)=True:=eq_true h3;rw[if_pos (decide_eq_true h3)]at hc;simp only[go_sem,f2,i1];exact Ai (ih (i+1,_) AA ⟨h,Ty l i,hc⟩) rfl
 .have f2:(Gg (G0 l i) qa<0)=False:=eq_false h3;rw[if_neg (by grind)]at hc;simp only[go_sem,f2,i1];exact Ai (ih (i+1,_) AA ⟨h,qr,hc⟩) rfl
def A8i(z u:Bool)(t w:Nat)(A B:List Int)(he:A.length=B.length)(ha:A.length<=1000000):
  Fn TT PT 56 [SL z t (Ao A),SL u w (Ao B)] (.bool (decide (Gg A B<0))):=by
 have qe:=F8 A;refine Bg T56 rfl ?_;simp only[go_sem,qe]
 refine Bb (α:=Nat) (fun i=>A.length - i) (fun i=>[(0,SL z t (Ao A)),(1,SL u w (Ao B)),(7,iV (A.length:Int)),(8,iV (i:Int))]) (fun _=>[])
  (fun i=>i<=A.length/\Gg A B=Gg (A.drop i) (B.drop i)) ?_ 0 ⟨As _,rfl⟩
 rintro i ⟨hi,hc⟩ ih;refine Ay Blb ?_;rcases Az i A.length with h | h;rotate_left
 .rw[D4 h,D4 AA]at hc;simp only[go_sem,Bj h];exact Ae rfl (by rw[hc];rfl)
 obtain⟨x,hx,qF,-⟩:=Bk h;obtain⟨y,hy,qR,-⟩:=Bk (l:=B) (i:=i) AA;have ql:(Ao A)[i]?=some [iV x]:=by unfold Ao;rw[Ak,hx];rfl
 have qG:(Ao B)[i]?=some [iV y]:=by unfold Ao;rw[Ak,hy];rfl
 have i1:IntKind.i64.wrap ((i:Int)+1)=((i+1:Nat):Int):=Aw AA;rw[qF,qR]at hc
 have qf:Gg A B=if Lib.compareInt x y≠0 then Lib.compareInt x y else Gg (A.drop (i+1)) (B.drop (i+1)):=hc
 simp only[go_sem,Aq h];refine Ad AD ?_;simp only[go_sem,ql,qG];by_cases h3:x=y
 .have f2:(x != y)=false:=by simpa using h3
  rw[if_neg (by grind[Lib.compareInt])]at qf;simp only[go_sem,f2,i1];exact Ai (ih (i+1) AA ⟨h,qf⟩) rfl
 .have f2:(x != y)=true:=by simpa using h3
  simp only[go_sem,f2];refine Ad AD ?_;simp only[go_sem,ql,qG];refine Ae rfl ?_;rw[qf];congr 1;unfold Lib.compareInt;by_cases h4:x<y
  .simp[h4]
  .have h5:y<x:=by omega
   simp[h4,h5]
def Bcz(x:List Int):decide (Gg x x<0)=false:=by
 have h2:Gg x x=0:=((Aiv Ajp).zero x x).2 rfl
 grind
def A4s(z:Bool)(t:Nat)(l:List Int)(hn:l≠[])(hb:l.length<=1000):
  Fn TT PT 28 [SL z t (Ao l)] (SL true 0 (Ao (K8 l))):=by
 have hl:=F8 l;have qc:Ao l≠[]:=by simpa[Ao] using hn
 have qx:0<l.length:=Xy.2 hn;obtain⟨u0,s0,e0,g0,-,-,-⟩:=Iz (σ:=[]) (lo:=0) (m:=1) (e:=3) (bytes:=8) (y:=.lst t (Ao l)) (ys:=Ao l) Dr (As _) rfl AA AE (Ie _) (by grind);rw[Ct]at g0;rw[Aah (z:=z) (t:=t) qc];refine Bg T28 rfl ?_;simp only[go_sem,e0]
 refine Bb (α:=Nat × V × St × List Int) (fun a=>l.length - a.1) (fun a=>[(0,.lst t (Ao l)),(3,a.2.1),(4,iV (a.1:Int))]) (fun a=>a.2.2.1)
  (fun a=>1<=a.1/\a.1<=l.length/\a.2.2.2.length=l.length/\GW a.2.2.1 1 3 0 a.2.1 (Ao a.2.2.2)/\K8 l=M7 (fun x y=>decide (Gg x y<0)) l ((List.range l.length).drop a.1) a.2.2.2) ?_ (1,u0,s0,l) ⟨Am _,qx,rfl,g0,by
   have h1:=A0t (lt:=fun x y=>decide (Gg x y<0)) Bcz l ((List.range l.length).drop 1);rw[<-h1];unfold K8;congr 1;have h2:=Ib (l:=List.range l.length) (i:=0) (by grind)
   grind⟩
 rintro⟨i,u,s,qa⟩ ⟨h1,hi,qr,hg,hc⟩ ih;simp only at h1 hi qr hg hc ih;refine Ay Bkq ?_;rcases Az i l.length with h | h;rotate_left
 .rw[D4 (by grind)]at hc;have hc:K8 l=qa:=hc;simp only[go_sem,Bj h,hl];rw[hc];exact Sn hg AA (Ie _) (Ph _)
 rw[Ib (by grind),Agz]at hc;have hc:K8 l=M7 (fun x y=>decide (Gg x y<0)) l ((List.range l.length).drop (i+1)) (if decide (Gg (G0 l i) qa<0)=true then G0 l i else qa):=hc;obtain⟨t1,c1⟩:=Avn t l i hi;obtain⟨t2,c2⟩:=Avo t l i hi;have i1:IntKind.i64.wrap ((i:Int)+1)=((i+1:Nat):Int):=Aw AA;obtain⟨v1,s1,e1,g1,l1,-,k1⟩:=Iz (σ:=s) (lo:=s.length) (m:=1) (e:=3) (bytes:=8) (y:=.lst t1 (Ao (l.drop i))) (ys:=Ao (l.drop i)) Dr (Am _) rfl AA AE (Ie _) (by grind[F8]);rw[Ct]at g1;obtain⟨v2,s2,e2,g2,l2,-,k2⟩:=Iz (bytes:=8) (y:=.lst t2 (Ao (l.take i))) (ys:=Ao (l.take i)) g1 l1 rfl AA (Ie _) (Ie _) (by grind[F8]);rw[<-Acx]at g2
 have qM:GW s2 1 3 0 u (Ao qa):=Gt hg fun j hj=>by
  grind[F9]
 have g3:=A8i true true 0 0 (G0 l i) qa (by grind[Ty]) (by grind[Ty]);simp only[go_sem,Aq h,hl];refine Ad AD ?_;simp only[go_sem,c1,e1,c2,e2];refine Id (by repeat (first | exact trivial | refine⟨.inl AH,?_⟩ | refine⟨by rfl,?_⟩ | refine⟨.inr ⟨by rfl,by rfl⟩,?_⟩)) (by repeat (first | exact trivial | refine⟨.inl AH,?_⟩ | refine⟨by rfl,?_⟩ | refine⟨.inr ⟨by rfl,by rfl⟩,?_⟩)) ?_;simp only[go_sem];refine Axz (.cons (N8 (J3 g2 AA (Ie _) (Ph _)) (B8 g2)) (.cons (N8 (J3 qM AA (Ie _) (Ph _)) (B8 qM)) .nil)) g3 rfl ?_;have ha:∀ (b:Bool) (args:List V),after s2 args (.bool b)=s2:=fun _ _=>rfl
 simp only[go_sem,ha];by_cases h3:Gg (G0 l i) qa<0
 .have f2:decide (Gg (G0 l i) qa<0)=true:=decide_eq_true h3;rw[if_pos f2]at hc;simp only[go_sem,f2,i1];exact Ai (ih (i+1,v2,s2,G0 l i) AA ⟨by omega,h,Ty l i,g2.imp id fun⟨x1,x2,x3,x4,x5,_⟩=>⟨x1,x2,x3,x4,x5,As _⟩,hc⟩) rfl
 .have f2:decide (Gg (G0 l i) qa<0)=false:=decide_eq_false h3;rw[if_neg (by simp[f2])]at hc;simp only[go_sem,f2,i1];exact Ai (ih (i+1,u,s2,qa) AA ⟨by omega,h,qr,qM,hc⟩) rfl
def Zv{m:Nat}:∀ {xs:List (List V)} {i j:Nat} {r:List V} {c:V},(∀ r∈xs,r.length=m)->xs[i]?=some r->r[j]?=some c->xs.flatten[i*m+j]?=some c
 | x::xs,0,j,r,c,hl,hi,hj=>by
  grind
 | x::xs,i+1,j,r,c,hl,hi,hj=>by
  have hx:=hl x Cz;rw[Gv,Fk (by grind),hx,show(i+1)*m+j - m=i*m+j by grind];exact Zv (fun r hr=>hl r (Dl _ hr)) (by grind) hj
def Afy{cs:List V}{e g z off:Nat}{c:V}(h:cs[off]?=some c):L7 (some (.row cs e g z)) g 1 true off=some c:=by
 obtain⟨hl,rfl⟩:=An.1 h;rw[Afi,if_pos ⟨rfl,by omega⟩,Ib hl];rfl
def Avp{m:Nat}{xs:List (List V)}{e g z i:Nat}{r:List V}(hl:∀ r∈xs,r.length=m)(hi:xs[i]?=some r):L7 (some (.row xs.flatten e g z)) g m false (i*m)=some (.agg r):=by
 obtain⟨h1,h2⟩:=An.1 hi;have hf:=Gj hl;have jA:(i+1)*m<=xs.length*m:=E4 m h1;rw[G6]at jA;have hr:=hl r (Hg hi)
 have e1:xs.flatten=(xs.take i).flatten++(r++(xs.drop (i+1)).flatten):=by
  rw[<-h2,<-Gv,<-Ib h1,<-Abr,Hy]
 have e2:(xs.take i).flatten.length=i*m:=by rw[Gj fun r hr=>hl r (Nu hr),Ic,Nat.min_eq_left AA]
 rw[Afi,if_pos ⟨rfl,by omega⟩,e1,<-e2,List.drop_left,<-hr,Abx];rfl
def Aj7{m:Nat}{xs:List (List V)}{i:Nat}{r:List V}(hl:∀ r∈xs,r.length=m)(hi:i<xs.length)(hr:r.length=m):xs.flatten.take (i*m)++r++xs.flatten.drop (i*m+m)=(xs.set i r).flatten:=by
 have e1:xs.flatten=(xs.take i).flatten++(xs[i]++(xs.drop (i+1)).flatten):=by
  rw[<-Gv,<-Ib hi,<-Abr,Hy]
 have e2:(xs.take i).flatten.length=i*m:=by rw[Gj fun r hr=>hl r (Nu hr),Ic,Nat.min_eq_left AA]
 have e3:xs[i].length=m:=hl _ (Nw hi);rw[e1,<-e2,Abx,Ag1,Ag1,D4 AA,Ct,D4 AA,Ct,show(xs.take i).flatten.length+m - (xs.take i).flatten.length - xs[i].length=0 by omega,Mc,List.set_eq_take_append_cons_drop,if_pos hi,Abr,Gv,Dm]
def Aqi{σ:St}{m e lo:Nat}{u:V}{xs:List (List V)}(h:GW σ m e lo u xs)(hr:∀ r∈xs,r.all V.rowB=true){args:List V}{v:V}(ha:Ah args=u.refs):∃ σ',after σ args v=σ'/\σ'.length=σ.length/\∀ j,j ∉ u.refs->σ'[j]?=σ[j]?:=by
 refine⟨_,rfl,?_⟩;unfold after
 split
 .grind
 .rcases h with⟨rfl,rfl⟩ | ⟨hn,i,g,rfl,ho,qD⟩
  .have:Lv σ args=[]:=by unfold Lv;rw[ha];rfl
   rw[this];exact⟨rfl,fun _ _=>rfl⟩
  .have:Lv σ args=[i]:=by
    unfold Lv;rw[ha];have e1:(V.refs (.sl i g 0 xs.length m true)).eraseDups=[i]:=by simp[V.refs,List.eraseDups_cons]
    rw[e1];have hx:Ah xs.flatten=[]:=F0 (Hk hr);simp[Fy,ho,Ob.refs,hx]
   grind[A0c,Aoi,V.refs]
def Ak9{p:Gp}(hp:PY p):(Cq p).length<=1000000000000:=by
 have h1:(G9 (H2 p)).length=(Im p).length:=Yk p.thrs;have:=Y6 hp.px
 grind[Acy]
def Ahl{ks:List Bp}{m:List Int}{k:Bp}:∀ l:List Bp,Ft ks m (l++[k])=(Ft ks m l).bind fun r=>(Gk ks m k).map fun n=>r++[n]
 | []=>by
  grind[Ft]
 | a::l=>by
  rw[Mw,Ft,Ft,Ahl l]
  cases Gk ks m a with
  | none=>rfl
  | some n=>
   simp only
   cases Ft ks m l with
   | none=>rfl
   | some r=>cases Gk ks m k<;>rfl
def Aii{ks:List Bp}{m:List Int}{b:Int}(hm:∀ x∈m,x<b):∀ {l:List Bp} {r:List Nat},Ft ks m l=some r->∀ n∈r,(n:Int)<b
 | [],r,h,n,hn=>by
  grind[Ft]
 | k::l,r,h,n,hn=>by
  rw[Ft]at h
  cases h1:Gk ks m k with
  | none=>grind
  | some n'=>
   rw[h1]at h;simp only at h
   cases h2:Ft ks m l with
   | none=>grind
   | some r'=>
    rw[h2]at h;rw[<-Nz h]at hn;rcases B7.1 hn with rfl | hn
    .unfold Gk at h1
     split at h1
     .rename_i s hs
      split at h1
      .cases h1
      .rename_i h3
       cases h4:m[s]? with
       | none=>grind
       | some x=>
        rw[Fl,h4,X2]at h1 h3;have:=hm x (Hg h4)
        grind
     grind
    .exact Aii hm h2 n hn
def Jr(K:List Bp)(M:List Int)(J:List Bp)(e:Ent):Option Ent:=(Ft K M e.sites).map fun r=>⟨e.kind,(Ir e.kind (r.map fun n:Nat=>(n:Int))).map (fun s=>J.getD s.toNat kz),e.seen,e.missed,true,0⟩
def Am3:Option Ent->V
 | some y=>.tup [.agg y.row,.bool true]
 | none=>.tup [.agg [.int .i64 0,.nils,.int .i64 0,.int .i64 0],.bool false]
def As8{P:Int->Prop}{kind:Int}{L:List Int}(h:∀ x∈L,P x):∀ x∈Ir kind L,P x:=by
 unfold Ir
 split
 .grind[Ao5]
 .split
  .exact Ahp (P:=fun l=>∀ x∈l,P x) (fun i x hx=>h x (A6m hx)) _ _ h
  omega
theorem Ai5(kind:Int)(L:List Int):(Ir kind L).length=L.length:=by
 unfold Ir
 split
 .simp[Acq]
 .split
  .exact Ahp (P:=fun l=>l.length=L.length) (fun i=>Ty L i) _ _ rfl
  .rfl
inductive IntsL (s:St) (L:List Int):V->Prop
 | set {z:Bool} {t:Nat}:IntsL s L (SL z t (Ao L))
 | obj {i g e:Nat}:s[i]?=some (.row (Dz L) e g 0)->4<=i->IntsL s L (.sl i g 0 L.length 1 true)
def Ai6{s:St}{u:V}{L:List Int}(h:IntsL s L u):Ly u=some (iV (L.length:Int)):=by
 cases h with
 | set=>rw[Z2,F8]
 | obj _ _=>grind[Axx]
def ilo{L:List Int}{e g j:Nat}{r:Int}(hr:L[j]?=some r):L7 (some (.row (Dz L) e g 0)) g 1 true j=some (iV r):=by
 have h5:(Dz L)[j]?=some (iV r):=by
  unfold Dz;rw[Ak,hr];rfl
 have h6:=(An.1 h5).1;rw[Afi,if_pos ⟨rfl,by omega⟩,Ib h6,(An.1 h5).2];rfl
def Ai7{J:List Bp}{q:Gp}(gk:∀ (s:Nat) (k:Bp),J[s]?=some k->Fn TT PT 49 [.agg (gR q),iV (s:Int)] (.tup [.agg (kR k),.bool true]))
  {L:List Int} (hL:∀ x∈L,0<=x/\x<(J.length:Int)) (jm:L.length<=1000) {v:V} {s0:St} (hv:IntsL s0 L v) (h4:4<=s0.length)
  (h2:s0[2]?=some (gO q))
  {kd sn ms:Int} {k0:List It} {Q:Env->St->Prop}
  (qL:∀ (u:V) (s:St),(∀ i,i<s0.length->s[i]?=s0[i]?)->s[s0.length]?=some (.row [iV kd,u,iV sn,iV ms] 30 0 0)->GW s 3 57 (s0.length+1) u ((L.map fun x=>J.getD x.toNat kz).map Bl)->W TT PT k0 [(6,.ptr 2 0 0),(8,.ptr 3 0 0),(14,.ptr s0.length 0 0),(74,v),(75,iV (L.length:Int)),(76,iV (L.length:Int))] s Q) :
  W TT PT (.l [6,8,14,74,75,76] lp17_1::.b 3::k0) [(6,.ptr 2 0 0),(8,.ptr 3 0 0),(14,.ptr s0.length 0 0),(74,v),(75,iV (L.length:Int)),(76,iV 0)] (s0++[.row [iV kd,.nils,iV sn,iV ms] 30 0 0]) Q:=by
 refine Bb (α:=Nat × V × St) (fun a=>L.length - a.1) (fun a=>[(6,.ptr 2 0 0),(8,.ptr 3 0 0),(14,.ptr s0.length 0 0),(74,v),(75,iV (L.length:Int)),(76,iV (a.1:Int))]) (fun a=>a.2.2)
  (fun a=>a.1<=L.length/\(∀ i,i<s0.length->a.2.2[i]?=s0[i]?)/\a.2.2[s0.length]?=some (.row [iV kd,a.2.1,iV sn,iV ms] 30 0 0)/\GW a.2.2 3 57 (s0.length+1) a.2.1 (((L.take a.1).map fun x=>J.getD x.toNat kz).map Bl)) ?_ (0,.nils,_) ⟨As _,fun i hi=>Ex hi,Tx _ _,Dr⟩
 rintro⟨j,u,s⟩ ⟨hj,hk,ho,hg⟩ jh;simp only at hj hk ho hg jh;refine Ay Bke ?_;rcases Az j L.length with h | h;rotate_left
 .have jy:j=L.length:=by omega
  subst jy;rw[Dh]at hg;simp only[go_sem,Bj h];exact qL u s hk ho hg
 obtain⟨x,hx,-,jI⟩:=Bk h;obtain⟨jS,jT⟩:=hL x jI;obtain⟨r,rfl⟩:∃ r:Nat,x=r:=⟨x.toNat,by omega⟩;obtain⟨k,qN,-,-⟩:=Bk (l:=J) (i:=r) AA;have j1:IntKind.i64.wrap ((j:Int)+1)=((j+1:Nat):Int):=Aw AA;have jB:=(An.1 ho).1
 have jd:((L.take (j+1)).map fun x=>J.getD x.toNat kz).map Bl=((L.take j).map fun x=>J.getD x.toNat kz).map Bl++[(kR k)]:=by
  rw[Ld,hx];simp only[Vj,Fm,Bh,B0,Mv,Fl,qN];rfl
 have jb:=(hk 2 AA).trans h2;obtain⟨u2,s5,e5,g5,l5,-,k5⟩:=Iz (bytes:=40) (y:=.lst 1 [(kR k)]) (ys:=[(kR k)]) (Ix (l:=[Ob.row (kR k) 57 0 0]) hg) (by grind) rfl AA (Le _) AE (by grind);have qP:∀ X,(s++[X])[s0.length]?=some (.row [iV kd,u,iV sn,iV ms] 30 0 0):=fun X=>Bt ho
 have qZ:=(k5 s0.length AA).trans (qP _);have cu:=Ok (B8 g5);have cv:=B8 g5
 have qm:W TT PT (.l [6,8,14,74,75,76] lp17_1::.b 3::k0) [(6,.ptr 2 0 0),(8,.ptr 3 0 0),(14,.ptr s0.length 0 0),(74,v),(75,iV (L.length:Int)),(76,iV ((j+1:Nat):Int))] (s5.set s0.length (.row [iV kd,u2,iV sn,iV ms] 30 0 0)) Q:=by
  refine jh (j+1,u2,_) AA ⟨h,fun i hi=>?_,?_,?_⟩
  .grind[List.getElem?_set_ne]
  .grind
  .grind[Dw]
 cases hv with
 | set=>
  have ql:(Ao L)[j]?=some [iV (r:Int)]:=by unfold Ao;rw[Ak,hx];rfl
  simp only[go_sem,Aq h,ql,jb];refine Ab (gk r k qN) AB ?_;simp only[go_sem,qP,e5,qZ,cu,cv,j1];exact Ai qm rfl
 | obj hvo je=>
  have jH:=(hk _ (An.1 hvo).1).trans hvo;simp only[go_sem,Aq h,F3 h,jH,ilo hx,jb];refine Ab (gk r k qN) AB ?_;simp only[go_sem,qP,e5,qZ,cu,cv,j1];exact Ai qm rfl
set_option maxHeartbeats 4000000 in
def A8j{p q:Gp}(hp:PX p)(hq:PX q)(M:List Int)(jn:M.length=(Cq p).length)(hM:∀ x∈M,x<((Cq q).length:Int))(e:Ent)(hs:e.sites.length<=1000)(jC:e.sites≠[])(hK:(Cq p).length<=1000000000000):
  Fn TT PT 17 [.agg e.row,.agg p.row,.agg q.row,SL true 0 (Ao M)] (Am3 (Jr (Cq p) M (Cq q) e)):=by
 have gs:=fun k=>Bcp hp k hK
 have gk:=fun(s:Nat) (k:Bp) (h:(Cq q)[s]?=some k)=>A8h hq h
 have jE:=Ef p;have jF:=Ef q;rw[jE]at gs ⊢;rw[jF]at gk ⊢;generalize Cq p=K at *;generalize Cq q=J at *;have qT:=F8 M;have jt:(e.sites.map Bl).length=e.sites.length:=Av ..
 have qj:∀ (j:Nat) (k:Bp),e.sites[j]?=some k->Lx 3 e.sl (iV (j:Int))=some (.imm (kR k) 0):=fun j k hk=>by
  simp_all [Bl,Ent.sl,Aed,Ajg]
 have qK:Ly e.sl=some (iV (e.sites.length:Int)):=by unfold Ent.sl;rw[Z2,jt]
 have ju:e.sl.cellB=true:=by unfold Ent.sl;exact R3 ..
 have js:(e.sites.length*8<=140737488355328)=True:=eq_true AA;obtain⟨σ0,jJ⟩:∃ σ0:St,σ0=[eO e e.sl,gO p,gO q,.row [iV 0,.nils,iV 0,iV 0] 30 0 0]:=⟨_,rfl⟩;refine Bg T17 rfl ?_;unfold Ent.row;simp only[go_sem,js,qK]
 refine Bb (α:=Nat × V × St × List Nat) (fun a=>e.sites.length - a.1) (fun a=>[(3,SL true 0 (Ao M)),(4,.ptr 0 0 0),(5,.ptr 1 0 0),(6,.ptr 2 0 0),(8,.ptr 3 0 0),(10,a.2.1),(24,e.sl),(25,iV (e.sites.length:Int)),(26,iV (a.1:Int))]) (fun a=>a.2.2.1)
  (fun a=>a.1<=e.sites.length/\Ft K M (e.sites.take a.1)=some a.2.2.2/\(∀ j,j<4->a.2.2.1[j]?=σ0[j]?)/\4<=a.2.2.1.length/\GV a.2.2.1 1 3 4 a.2.1 (Ao (a.2.2.2.map fun n:Nat=>(n:Int)))) ?_ (0,_,_,[]) ⟨As _,rfl,fun j hj=>by grind,by simp,.inr ⟨4,0,rfl,rfl,Am _⟩⟩
 rintro⟨i,u,s,r⟩ ⟨hi,hc,h0,jc,hg⟩ ih;simp only at hi hc h0 jc hg ih;refine Ay Bkd ?_;have e1:=h0 1 AA;have e3:=h0 3 AA;have e0:=h0 0 AA;have e2:=h0 2 AA;rw[jJ]at e0 e1 e2 e3;simp only[Te,O7]at e0 e1 e2 e3;rcases Az i e.sites.length with h | h
 .obtain⟨k,hk,-,jz⟩:=Bk h;have i1:IntKind.i64.wrap ((i:Int)+1)=((i+1:Nat):Int):=Aw AA;have jd:e.sites.take (i+1)=e.sites.take i++[k]:=by rw[Ld,hk];rfl
  have hA:∀ X,(s++[X])[1]?=some (gO p):=fun X=>Bt e1
  have qS:∀ X,(s++[X])[3]?=some (.row [iV 0,.nils,iV 0,iV 0] 30 0 0):=fun X=>Bt e3
  have qn:=gs k;unfold sI at qn
  have qg:Gk K M k=none->Jr K M J e=none:=fun h1=>by
   unfold Jr;rw[Aca.2 ⟨k,jz,h1⟩];rfl
  have qb:∀ X Y:Ob,((s++[X]).set 3 Y)[3]?=some Y:=fun X Y=>Cf (by grind)
  have next:Ft K M (e.sites.take (i+1))=(Gk K M k).map fun n=>r++[n]:=by rw[jd,Ahl,hc,C5]
  cases hsn:Lr K k with
  | none=>
   have qs:Gk K M k=none:=by unfold Gk;rw[hsn]
   rw[hsn]at qn;rw[qg qs];simp only[go_sem,Aq h,qj i k hk,hA];refine Ab qn AB ?_;simp only[go_sem,qS,qb];exact Fq AH
  | some s'=>
   rw[hsn]at qn;have qQ:s'<M.length:=by rw[jn];exact(An.1 (Vt.1 hsn).1).1
   obtain⟨m,hm,-,jQ⟩:=Bk qQ;have qY:(Ao M)[s']?=some [iV m]:=by unfold Ao;rw[Ak,hm];rfl
   have qV:M.getD s' (-1)=m:=by rw[Fl,hm];rfl
   have f3:((s':Int)<0)=False:=eq_false AA;have f4:((s':Int)>=(M.length:Int))=False:=eq_false AA;by_cases qd:m<0
   .have f5:(m<0)=True:=eq_true qd;have qs:Gk K M k=none:=by unfold Gk;rw[hsn];simp only[qV];rw[if_pos qd]
    rw[qg qs];simp only[go_sem,Aq h,qj i k hk,hA];refine Ab qn AB ?_;simp only[go_sem,f3,qT,f4,Aq qQ,qY,f5,qS,qb];exact Fq AH
   .have f5:(m<0)=False:=eq_false qd;have qs:Gk K M k=some m.toNat:=by unfold Gk;rw[hsn];simp only[qV];rw[if_neg qd]
    rw[qs]at next
    have qE:=Vu hc;rw[Ic]at qE;obtain⟨v2,s3,ji,g3,l3,-,k3⟩:=Akh (bytes:=8) (y:=.lst 1 [[iV m]]) (ys:=[[iV m]]) (Bad (l:=[Ob.row (kR k) 57 0 0]) hg) (by grind) rfl AA (Ie _) AE (by rw[F8];simp;omega);simp only[go_sem,Aq h,qj i k hk,hA];refine Ab qn AB ?_;simp only[go_sem,f3,qT,f4,Aq qQ,qY,f5,ji,i1];refine Ai (ih (i+1,v2,s3,r++[m.toNat]) AA ⟨h,next,fun j hj=>?_,by grind,?_⟩) rfl
    .simp only;rw[k3 j AA,Ex AA]
     grind
    .simp only;rw[Fm,Acx,Bh,B0,Abo AA];exact g3
 have qW:i=e.sites.length:=by omega
 subst qW;rw[Dh]at hc;have qE:=Vu hc;have qU:Jr K M J e=some ⟨e.kind,(Ir e.kind (r.map fun n:Nat=>(n:Int))).map (fun s=>J.getD s.toNat kz),e.seen,e.missed,true,0⟩:=by unfold Jr;rw[hc];rfl
 have jR:∀ n∈r,(n:Int)<(J.length:Int):=Aii hM hc
 have qI:∀ x∈Ir e.kind (r.map fun n:Nat=>(n:Int)),0<=x/\x<(J.length:Int):=As8 fun x hx=>by
  obtain⟨n,hn,rfl⟩:=Di.1 hx
  grind
 have jO:(Ir e.kind (r.map fun n:Nat=>(n:Int))).length=e.sites.length:=by rw[Ai5,Av,qE]
 have ja:(r.map fun n:Nat=>(n:Int))≠[]:=fun e1=>by
  have h1:=congrArg List.length e1
  grind
 have jm:(r.map fun n:Nat=>(n:Int)).length=e.sites.length:=by rw[Av,qE]
 rw[qU];clear qU;generalize(r.map fun n:Nat=>(n:Int))=L at *;rcases hg with⟨-,hg⟩ | ⟨ii,g,rfl,ho,qD⟩
 .exact absurd (by grind[Ao,List.map_eq_nil_iff]) ja
 have qB:GW s 1 3 4 (.sl ii g 0 (Ao L).length 1 true) (Ao L):=.inr ⟨by simp_all [Ao],ii,g,rfl,ho,qD⟩;have jx:=(An.1 ho).1;rw[F8]at qB ⊢;rw[Al7]at ho;generalize hZ:Ir e.kind L=Z at *;by_cases qt:e.kind=1
 .have qq:Z=Jk L:=by rw[<-hZ];unfold Ir;rw[if_pos qt]
  clear hZ;subst qq
  have q1:Aaz [.sl ii g 0 L.length 1 true] s=some (.tup [],s.set ii (.row (Dz (Jk L)) 3 g 0)):=by
   simp only[Aaz,ho,Arf];rw[if_pos ⟨trivial,trivial,by omega⟩]
  have f1:(e.kind==1)=true:=by simpa using qt
  simp only[go_sem,Bj h,e0,f1];refine Jz (.spec T47 rfl rfl q1) ?_;have qk:∀ j,j<4->(s.set ii (.row (Dz (Jk L)) 3 g 0))[j]?=s[j]?:=fun j hj=>B4 AA
  have hv:IntsL (s.set ii (.row (Dz (Jk L)) 3 g 0)) (Jk L) (.sl ii g 0 L.length 1 true):=by
   rw[<-Acq L];exact .obj (Cf jx) qD
  have qz:=Ai6 hv;have qv:4<=(s.set ii (.row (Dz (Jk L)) 3 g 0)).length:=by simp;omega
  generalize s.set ii (.row (Dz (Jk L)) 3 g 0)=s2 at *;generalize V.sl ii g 0 L.length 1 true=v at *;have q0:=(qk 0 AA).trans e0;have q2:=(qk 2 AA).trans e2;have q3:=(qk 3 AA).trans e3;simp only[go_sem,q0,qz];refine Ai (Ai7 gk qI AA hv qv q2 fun u s3 qu qw qb=>?_) rfl;have qh:=(qu 3 AA).trans q3;have qy:=B8 qb;have qo:=fun X:Ob=>Cf (a:=X) (An.1 qh).1
  simp only[go_sem,qw,qh,qy,qo];exact Aih (pre:=[iV e.kind]) (post:=[iV e.seen,iV e.missed]) (Dw qb AA) AA (Le _) (Ql _) rfl rfl rfl
 have f1:(e.kind==1)=false:=by simpa using qt
 by_cases qC:e.kind=2
 .have qq:Z=K8 L:=by rw[<-hZ];unfold Ir;rw[if_neg qt,if_pos qC];rfl
  clear hZ;subst qq;have f2:(e.kind==2)=true:=by simpa using qC
  have g5:=Bcy true 0 L ja AA;obtain⟨s2,ha,jP,jv⟩:=Aqi qB (Ph _) (args:=[.sl ii g 0 L.length 1 true]) (v:=SL true 0 (Ao (K8 L))) (by grind[Ah]);simp only[go_sem,Bj h,e0,f1,f2];refine Axz (.cons (N8 (J3 qB AA (Ie _) (Ph _)) (B8 qB)) .nil) g5 ha ?_;have qk:∀ j,j<4->s2[j]?=s[j]?:=fun j hj=>jv j (by grind[V.refs])
  have hv:IntsL s2 (K8 L) (SL true 0 (Ao (K8 L))):=.set;have qz:=Ai6 hv;have qv:4<=s2.length:=by omega
  generalize SL true 0 (Ao (K8 L))=v at *;have q0:=(qk 0 AA).trans e0;have q2:=(qk 2 AA).trans e2;have q3:=(qk 3 AA).trans e3;simp only[go_sem,q0,qz];refine Ai (Ai7 gk qI AA hv qv q2 fun u s3 qu qw qb=>?_) rfl;have qh:=(qu 3 AA).trans q3;have qy:=B8 qb;have qo:=fun X:Ob=>Cf (a:=X) (An.1 qh).1
  simp only[go_sem,qw,qh,qy,qo];exact Aih (pre:=[iV e.kind]) (post:=[iV e.seen,iV e.missed]) (Dw qb AA) AA (Le _) (Ql _) rfl rfl rfl
 .have qq:Z=L:=by rw[<-hZ];unfold Ir;rw[if_neg qt,if_neg qC]
  clear hZ;subst qq;have f2:(e.kind==2)=false:=by simpa using qC
  have qk:∀ j,j<4->s[j]?=s[j]?:=fun _ _=>rfl
  have hv:IntsL s Z (.sl ii g 0 Z.length 1 true):=.obj ho qD;have qz:=Ai6 hv;have qv:=jc;generalize V.sl ii g 0 Z.length 1 true=v at *;simp only[go_sem,Bj h,e0,f1,f2];have q0:=(qk 0 AA).trans e0;have q2:=(qk 2 AA).trans e2;have q3:=(qk 3 AA).trans e3;simp only[go_sem,q0,qz];refine Ai (Ai7 gk qI AA hv qv q2 fun u s3 qu qw qb=>?_) rfl;have qh:=(qu 3 AA).trans q3;have qy:=B8 qb;have qo:=fun X:Ob=>Cf (a:=X) (An.1 qh).1
  simp only[go_sem,qw,qh,qy,qo];exact Aih (pre:=[iV e.kind]) (post:=[iV e.seen,iV e.missed]) (Dw qb AA) AA (Le _) (Ql _) rfl rfl rfl
def L0(x y:Ent):Int:=if Bs x y<0 then -1 else if Bs y x<0 then 1 else 0
def R9{x y:Ent}:L0 x y<0↔Bs x y<0:=by
 grind[L0]
def Ad9(x y:Ent)(hx:x.sites.length<=9223372036854775807)(hy:y.sites.length<=9223372036854775807):Fn TT PT 20 [.agg x.row,.agg y.row] (iV (L0 x y)):=by
 have g1:=Adu x y hx hy;have g2:=Adu y x hy hx;refine Bg T20 rfl ?_;unfold Ent.row at *;simp only[go_sem];refine Ab g1 AB ?_;simp only[go_sem];by_cases h1:Bs x y<0
 .have f1:decide (Bs x y<0)=true:=decide_eq_true h1;simp only[go_sem,f1];exact Ae rfl (by simp_all [L0])
 have f1:decide (Bs x y<0)=false:=decide_eq_false h1;simp only[go_sem,f1];refine Ab g2 AB ?_;simp only[go_sem];by_cases h2:Bs y x<0
 .have f2:decide (Bs y x<0)=true:=decide_eq_true h2;simp only[go_sem,f2];exact Ae rfl (by simp_all [L0])
 have f2:decide (Bs y x<0)=false:=decide_eq_false h2;simp only[go_sem,f2];exact Ae rfl (by unfold L0;grind)
def Aav(L:List Ent):List V:=(L.map Ent.row).flatten
theorem A4t(L:List Ent):(Aav L).all V.rowB=true:=Hk (K1 L)
theorem As9{s:St}{i g:Nat}(L:List Ent)(h:Cl s):Cl (s.set i (.row (Aav L) 30 g 0)):=F4 h (by grind[Ob.refs,F0,A4t])
def Bc0{s:St}(hc:Cl s)(v:V)(a b:Nat)(h:b<=a+1)(ha:a<=1000):
  ∃ s',Th TT PT 86 [v,iV (a:Int),iV (b:Int),.fn 20 [] []] s (.tup []) s'/\s'=s:=by
 have w1:IntKind.i64.wrap ((a:Int)+1)=((a+1:Nat):Int):=Aw AA;have f1:(((a+1:Nat):Int)<(b:Int))=False:=eq_false AA;refine Qz T86 rfl ?_ rfl rfl (fun s' h=>by grind);simp only[go_sem,w1];refine Ay Ayb ?_;simp only[go_sem,f1];trivial
def A19{s:St}(hc:Cl s):
  ∃ s',Th TT PT 50 [.nils,iV 0,.fn 20 [] []] s (.tup []) s'/\s'=s:=by
 obtain⟨s1,h1,rfl⟩:=Bc0 hc .nils 0 0 AA AA;refine Qz T50 rfl ?_ rfl rfl (fun s' h=>by grind);simp only[go_sem];refine Ay Ax8 ?_;simp only[go_sem];refine Bv h1 ?_;simp only[go_sem];refine Ay Ax9 ?_;simp only[go_sem];trivial
def A4u{s:St}(hc:Cl s):
  ∃ s',Th TT PT 19 [.nils,.fn 20 [] []] s (.tup []) s'/\s'=s:=by
 obtain⟨s1,h1,rfl⟩:=A19 hc;refine Qz T19 rfl ?_ rfl rfl (fun s' h=>by grind);simp only[go_sem];refine Bv h1 ?_;simp only[go_sem];trivial
