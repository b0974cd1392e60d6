/- Plain: the keys of programs whose names and lines are good are keys, no two are equal; stored baselines are valid. -/
import Derived.Test.YtphikjgngompaaaGreatDoorVp
import Derived.Shelf.Vars
import Derived.Test.YtphikjgngompaaaGreatDoorCards
import Derived.Test.YtphikjgngompaaaGreatDoorTie
import Derived.ProofKit
import Derived.OpenShut
import Derived.Carry
import Derived.Deep.DeepHandedRow
import Derived.Lib.LaidTab
set_option linter.all false
namespace Go.Proofs.YtphikjgngompaaaGreatDoor.KM
open Go
def Aq3{nm:List UInt8}:∀ {X P:List (List UInt8)} {k:Aj},k∈Yi nm P X->k.1=nm/\k.2.1∈X/\(P.count k.2.1:Int)<=k.2.2/\k.2.2<((P.length+X.length:Nat):Int)
 | x::X,P,k,h=>by
  rw[Yi]at h;rcases Bp.1 h with rfl | h
  .have:=List.count_le_length (a:=x) (l:=P);refine⟨rfl,B7,Zy _,?_⟩;show((P.count x:Nat):Int)<_;simp only[Ao];omega
  .obtain⟨h1,h2,h3,h4⟩:=Aq3 h;rw[Ain]at h3;simp only[Ar,Ao,Di]at h4 ⊢;exact⟨h1,Ci _ h2,by omega,by omega⟩
structure KG (p:Gp):Prop where
 nm:∀ t∈p.thrs,Bm t.nm=true
 ln:∀ t∈p.thrs,∀ x∈Sp.hdss t.body,N2 x=true
 ct:∀ t∈p.thrs,(Sp.hdss t.body).length<=60
 nd:(p.thrs.map fun t=>t.nm).Nodup
def Blx{p:Gp}(h:KG p):∀ k∈Ch p,Fo k=true:=fun k hk=>by
 unfold Ch at hk;obtain⟨l,hl,hk⟩:=List.mem_flatten.1 hk;obtain⟨t,ht,rfl⟩:=Cy.1 hl;obtain⟨h1,h2,h3,h4⟩:=Aq3 hk;have h5:=h.ct t ht;simp only[Di,Gd]at h4;unfold Fo;rw[h1,h.nm t ht,h.ln t ht _ h2,decide_eq_true (show 0<=k.2.2 by omega),decide_eq_true (show k.2.2<60 by omega)];rfl
def Bly{K:List Aj}(hK:∀ k∈K,Fo k=true){e:Ent}(h:Zd e):Zd (e.sto K):=by
 unfold Zd I7 at h ⊢;simp only[Ai]at h ⊢;obtain⟨⟨h1,h2⟩,h3⟩:=h;refine⟨⟨?_,Bw.2 fun k hk=>?_⟩,h3⟩
 .show N3 e.kind (Jr K e.seen 0 e.sites).length=true;rw[S3];exact h1
 .rcases Asd hk with h4 | h4
  .exact hK k h4
  .exact Bw.1 h2 k h4
def A7n{K:List Aj}(hK:∀ k∈K,Fo k=true)(l:List Item)(n:Int)(h0:0<=n)(h1:n<=1073741824):Pc n (K4 K l)=true:=by
 obtain⟨b1,b2,b3⟩:=Aap l 20;obtain⟨v1,v2,v3⟩:=Afa K (F3 l 20) (F3 l 20).length;unfold K4;refine Ban h0 h1 AA v2 fun x hx=>?_
 obtain⟨y,hy,rfl⟩:=v3 x hx;obtain⟨z,-,rfl⟩:=b3 y hy;exact Bly hK (Bam z)
mutual
theorem Bgs:∀ (s s':Sp),Ty s s'=true->s.hds=s'.hds
 | ⟨op,line,nm,arg,iz,it,idx,ex,bz,bt,body,ez,et,els⟩,⟨op',line',nm',arg',iz',it',idx',ex',bz',bt',body',ez',et',els'⟩,h=>by
  simp only[Ty,Ai,beq_iff_eq]at h;obtain⟨rfl,rfl,rfl,hx,hi,hb,he⟩:=h;have h1:=(Aei ex ex' hx).2.2;have h2:=Auq hi;rw[Sp.hds,Sp.hds,Aem body body' hb,Aem els els' he];simp only[Du,Cq,h1,h2]
theorem Aem:∀ (l l':List Sp),Mf l l'=true->Sp.hdss l=Sp.hdss l'
 | [],[],_=>rfl
 | x::l,y::l',h=>by
  simp only[Mf,Ai]at h;rw[Sp.hdss,Sp.hdss,Bgs x y h.1,Aem l l' h.2]
 | [],_::_,h=>by cases h
 | _::_,[],h=>by cases h
end
def A3m{p q:Gp}(h:Wc p q=true):H1 p=H1 q:=by
 simp only[Wc,Ai,beq_iff_eq]at h;obtain⟨-,h1,h2⟩:=h;unfold H1;revert h1 h2;generalize p.thrs=L;generalize q.thrs=L'
 induction L generalizing L' with
 | nil=>intro h1 _;cases L' with
  | nil=>rfl
  | cons _ _=>simp at h1
 | cons a L ih=>intro h1 h2;cases L' with
  | nil=>simp at h1
  | cons b L'=>
   simp only[List.zip_cons_cons,B5,Ai]at h2;have h3:=h2.1;unfold Wb at h3;simp only[Ai,beq_iff_eq]at h3;rw[Az,Az,h3.1,Aem _ _ h3.2.2,ih L' (by simpa using h1) h2.2]
def Bgt{P A:Gp}(hP:OKp P)(h:Jh (Fd P)=some A):KG A:=by
 obtain⟨hs,-,-⟩:=Ap2 h
 have hl:(Fd P).length<=4096:=by
  rcases Bh 4096 (Fd P).length with h1 | h1
  .unfold Jh at h;rw[if_pos h1]at h;cases h
  .exact h1
 obtain⟨g',h1,h2⟩:=Aqm Amr Ay0 hP.sh hl;rw[h]at h1;obtain rfl:=Lb h1;have hL:=A3m h2
 have hA:∀ t∈A.thrs,∃ u∈P.thrs,Sp.hdss u.body=Sp.hdss t.body:=fun t ht=>by
  have h3:(t.nm,Sp.hdss t.body)∈H1 P:=by rw[hL];exact Cy.2 ⟨t,ht,rfl⟩
  obtain⟨u,hu,e⟩:=Cy.1 h3;exact⟨u,hu,(Prod.mk.inj e).2⟩
 refine⟨hs.nms,fun t ht x hx=>?_,fun t ht=>?_,Bqq hP h⟩
 .obtain⟨u,hu,e⟩:=hA t ht;have h4:=(hP.sx u hu).2 x (by rw[e];exact hx);obtain⟨s,qH,qo⟩:=Ae5 hx;obtain⟨h5,h6⟩:=Bk9 (hs.thrs t ht s qH) x qo;exact Bfz h5 h6 AA
 .obtain⟨u,hu,e⟩:=hA t ht;have h4:=(hP.sx u hu).1;rw[<-e,Lh];exact h4
def A7o(p q:Gp):∀ x∈Gf p q,x<((Ch q).length:Int):=fun x hx=>by
 unfold Gf Ll at hx;obtain⟨y,-,hy⟩:=List.mem_flatMap.1 hx;obtain⟨i,hi⟩:=List.mem_iff_getElem?.1 hy;rw[Aab,show(Ik q).length=(G7 (H1 q)).length from(Aaa q.thrs).symm];rcases A5i hi with rfl | ⟨k,rfl,⟨y,-,h⟩,-⟩
 .omega
 grind
def Blz{N:Nat}(h:N<=20):A03 N:=by
 intro s hc i g w L hL hi hs;exact Bbl hc L AA hi hs
def Ax5(K:List Aj)(M:List Int)(J:List Aj)(A B:List Ent):Fy K M J (A++B)=Fy K M J A++Fy K M J B:=by
 unfold Fy;rw[List.filter_append,F0]
def Bl0{K:List Aj}{M:List Int}{J:List Aj}{E:List Ent}{i:Nat}{e:Ent}(h:E[i]?=some e)(hc:(I8 K M J e).isNone=true):(Fy K M J E)[(Fy K M J (E.take i)).length]?=some e.own:=by
 obtain⟨hi,rfl⟩:=Al.1 h
 conv=>lhs;rw[<-L8 i E,Ax5]
 rw[L8,Fz (Ak _),Id,Hv hi];unfold Fy;rw[List.filter_cons,if_pos hc];rfl
def Bl1(K:List Aj)(M:List Int)(J:List Aj)(E:List Ent)(i:Nat):(Fy K M J (E.take i)).length<=(Fy K M J E).length:=by
 conv=>rhs;rw[<-L8 i E,Ax5,Ar]
 omega
def A7p{K D:List Aj}{S:List Aj}{j:Nat}{k:Aj}(h:S[j]?=some k):R9 K D (S.take (j+1))=(R9 K D (S.take j)||(decide (sI K k<0)||decide (k∈D))):=by
 unfold R9;rw[Ic,h,Su,List.any_append];simp
def Bbo{D:List Aj}{j:Nat}{x:Aj}(h:D[j]?=some x)(k:Aj):decide (k∈D.take (j+1))=(decide (k∈D.take j)||decide (x=k)):=by
 rw[Ic,h,Su,Zm];simp only[decide_eq_true_eq,Nm,Ct,F5];exact or_congr_right ⟨Eq.symm,Eq.symm⟩
def Avp{D:List Aj}{k:Aj}{G:Bool}{sC:St}{q:Nat}{A7 A13 A15 A17 A52 A53 A54 A59 A60 A61:V}{k0:List It}{Q:Env->St->Prop}(hD:D.length<=1000000000000)(hq:∀ J,(sC++J)[q]?=some (.row (kR k) 45 0 0))
  (qD:∀ J,W TT PT k0 [(7,A7),(11,SL true 0 (D.map Aw)),(13,A13),(15,A15),(17,A17),(18,.bool (G||decide (k∈D))),(20,.ptr q 0 0),(52,A52),(53,A53),(54,A54),(59,A59),(60,A60),(61,A61),(72,SL true 0 (D.map Aw)),(73,.int .i64 (D.length:Int)),(74,.int .i64 (D.length:Int))] (sC++J) Q) :
  W TT PT (.l [7,11,13,15,17,18,20,52,53,54,59,60,61,72,73,74] lp3_0::.b 4::k0) [(7,A7),(11,SL true 0 (D.map Aw)),(13,A13),(15,A15),(17,A17),(18,.bool G),(20,.ptr q 0 0),(52,A52),(53,A53),(54,A54),(59,A59),(60,A60),(61,A61),(72,SL true 0 (D.map Aw)),(73,.int .i64 (D.length:Int)),(74,.int .i64 0)] sC Q:=by
 refine Bk (α:=Nat × St) (fun a=>D.length - a.1) (fun a=>[(7,A7),(11,SL true 0 (D.map Aw)),(13,A13),(15,A15),(17,A17),(18,.bool (G||decide (k∈D.take a.1))),(20,.ptr q 0 0),(52,A52),(53,A53),(54,A54),(59,A59),(60,A60),(61,A61),(72,SL true 0 (D.map Aw)),(73,.int .i64 (D.length:Int)),(74,.int .i64 (a.1:Int))]) (fun a=>sC++a.2) (fun a=>a.1<=D.length) ?_ (0,[]) (Ax _) |> fun h=>Aq (by simp only[Zp,B3,La,decide_false,Bool.or_false]at h;exact h) rfl
 rintro⟨m,J⟩ hm ih;simp only at hm ih;refine Bd Bri ?_;rcases Bh m D.length with h2 | h2;rotate_left
 .have jd:m=D.length:=by omega
  subst jd;rw[Db];simp only[go_sem,Bl h2];exact qD J
 obtain⟨x,hx,-,-⟩:=Bq h2;have m1:IntKind.i64.wrap ((m:Int)+1)=((m+1:Nat):Int):=A1 AA;have qf:=ih (m+1,J++[.row (kR x) 45 0 0]) AP h2;simp only[Bbo hx k,<-Bool.or_assoc]at qf;cases hb:G||decide (k∈D.take m)
 .rw[hb,U5]at qf;simp only[go_sem,Ay h2,As,hx,Aw,hq,An8,m1];exact Aq qf rfl
 .rw[hb,Ai4]at qf;simp only[go_sem,Ay h2,As,hx,Aw,m1];exact Aq qf rfl
set_option maxHeartbeats 4000000 in
def A2z(z0 z1 z2:Bool)(t0 t1 t2:Nat)(a b c:List UInt8)(un:Bool)(z:Bool)(t:Nat)(l:List Item)(n:Nat)(ha:a.length<=9223372036854775807)(hb:b.length<=9223372036854775807)(hc:c.length<=9223372036854775807)(hn:n<256)(hl:l.length<=9223372036854775807)(je:∀ x∈l,x.ok):
  Fn TT PT 3 [.agg [SL z0 t0 (B6 a),SL z1 t1 (B6 b),SL z2 t2 (B6 c),.bool un],SL z t (l.map Item.row),.int .u8 n] (.bool true):=by
 obtain⟨v,q1,A,B,ok,rfl,hv⟩:=A3j z0 z1 z2 t0 t1 t2 a b c un ha hb hc;have qK:=Fv A;have qL:=Fv B;rw[qK,qL]at q1;refine Bj T3 rfl ?_;simp only[go_sem];refine Ab q1 AB ?_;simp only[go_sem];cases ok
 .simp only[go_sem];refine Ab Aq1 AB ?_;simp only[go_sem];exact Ah rfl rfl
 obtain⟨pA,pB,P,jg,jf⟩:=hv rfl;obtain⟨qH,qo⟩:=A4s (Ch A) l;have qy:=Blw pA;have g1:=A7m pA.px z t l n hn hl je qy;have qx:=A7n (Blx (Bgt jg jf)) l (n:Int) AA AA;have ho:Wp (K4 (Ch A) l):=fun e he=>by have:=qo e he;omega
 have g2:=Bbf pA pB true 0 (K4 (Ch A) l) AA (fun e he=>by have:=qo e he;omega) qy
 have g3:=A7k pA pB (A7o A B) true 0 (n:Int) (K4 (Ch A) l) AA (Blz qH) (fun e he=>by
  have:=qo e he
  exact⟨by omega,fun h=>by rw[h]at this;simp at this⟩) ho qx qy
 have gs:=fun k=>Al7 pA.px k qy
 have qO:(Gf A B).length=(Ch A).length:=by rw[Aab];exact Ajk A B
 have qF:∀ e∈K4 (Ch A) l,R9 (Ch A) (R7 (Ch A) (Gf A B) (Dq (K4 (Ch A) l))) e.sites=(I8 (Ch A) (Gf A B) (Ch B) e).isNone:=fun e he=>Bgq qO he
 have hD:(R7 (Ch A) (Gf A B) (Dq (K4 (Ch A) l))).length<=1000000000000:=by
  unfold R7;rw[Au,<-Akd];have:=A4m (Ch A) (Gf A B) (Dq (K4 (Ch A) l)) (Ch A).length;omega
 clear qx qO;unfold A16 at g3;rw[qK]at g1 g2 g3 gs;rw[qL]at g2 g3;generalize(Qx (Ch A) (Gf A B) (Ch B) (K4 (Ch A) l)).foldl K3 []=X at g3;generalize Ch A=K at *;generalize Ch B=J' at *;generalize Gf A B=M at *;generalize K4 K l=E at *;generalize R7 K M (Dq E)=D at *;have jk:=Ax4 K M J' E;have f0:((0:Int) != 0)=false:=rfl;have qX:(E.map Ent.row).length=E.length:=Au ..;have qN:(D.map Aw).length=D.length:=Au ..;have qP:((Fy K M J' E).map Ent.row).length=(Fy K M J' E).length:=Au ..;simp only[go_sem];refine Ab g1 AB ?_;simp only[go_sem];refine Ab g2 AB ?_;simp only[go_sem];refine Ab g3 AB ?_;simp only[go_sem,f0,qX];obtain⟨σ0,qJ⟩:∃ σ0:St,σ0=[.row [SL z0 t0 (B6 a),SL z1 t1 (B6 b),SL z2 t2 (B6 c),.bool un] 24 0 0,gO A,gO B,.row [.int .i64 (n:Int),SL true 0 (E.map Ent.row)] 35 0 0,.row [.int .i64 (n:Int),SL true 0 (X.map Ent.row)] 35 0 0]:=⟨_,rfl⟩;have qT:σ0[1]?=some (gO A):=by rw[qJ];rfl
 rw[<-qJ];clear qJ
 refine Bk (α:=Nat × St) (fun a=>E.length - a.1) (fun a=>[(7,.ptr 1 0 0),(11,SL true 0 (D.map Aw)),(13,SL true 0 ((Fy K M J' E).map Ent.row)),(15,.int .i64 ((Fy K M J' (E.take a.1)).length:Int)),(52,SL true 0 (E.map Ent.row)),(53,.int .i64 (E.length:Int)),(54,.int .i64 (a.1:Int))]) (fun a=>σ0++a.2) (fun a=>a.1<=E.length) ?_ (0,[]) (Ax _) |> fun h=>Aq (by rw[B3]at h;exact h) rfl
 rintro⟨i,J⟩ hi ih;simp only at hi ih;refine Bd Brk ?_;rcases Bh i E.length with h' | h';rotate_left
 .have qZ:i=E.length:=by omega
  subst qZ;rw[Db];simp only[go_sem,Bl h',qP,beq_self_eq_true];refine Ab Aq1 AB ?_;simp only[go_sem];exact Ah rfl rfl
 obtain⟨e,he,-,qR⟩:=Bq h';have i1:IntKind.i64.wrap ((i:Int)+1)=((i+1:Nat):Int):=A1 AA;have ji:=qo e qR;have qd:=Avn (K:=K) (M:=M) (J:=J') he;have qF:=qF e qR;have jc:=Bl0 (K:=K) (M:=M) (J:=J') he;have jj:=Bl1 K M J' E i;simp only[go_sem,Ay h',As,he];obtain⟨sB,qv⟩:∃ sB,sB=σ0++(J++[eO e e.sl]):=⟨_,rfl⟩;have qU:∀ X,(sB++X)[1]?=some (gO A):=fun X=>by rw[qv,Br];exact Bs qT
 have qV:∀ X,(sB++X)[σ0.length+J.length]?=some (eO e e.sl):=fun X=>Bs (by
  rw[qv,<-Br,<-Ar]
  exact Oy _ _)
 have qE:∀ J2,∃ J3,σ0++J3=sB++J2:=fun J2=>⟨_,by rw[qv,Br]⟩
 rw[<-qv];clear qv
 refine Bk (α:=Nat × St) (fun a=>e.sites.length - a.1) (fun a=>[(7,.ptr 1 0 0),(11,SL true 0 (D.map Aw)),(13,SL true 0 ((Fy K M J' E).map Ent.row)),(15,.int .i64 ((Fy K M J' (E.take i)).length:Int)),(17,.ptr (σ0.length+J.length) 0 0),(18,.bool (R9 K D (e.sites.take a.1))),(52,SL true 0 (E.map Ent.row)),(53,.int .i64 (E.length:Int)),(54,.int .i64 (i:Int)),(59,e.sl),(60,.int .i64 (e.sites.length:Int)),(61,.int .i64 (a.1:Int))]) (fun a=>sB++a.2) (fun a=>a.1<=e.sites.length) ?_ (0,[]) (Ax _) |> fun h=>Aq (by rw[B3]at h;exact h) rfl
 rintro⟨j,J2⟩ hj jh;simp only at hj jh;refine Bd Brj ?_;rcases Bh j e.sites.length with h2 | h2;rotate_left
 .have ja:j=e.sites.length:=by omega
  subst ja;rw[Db,qF];obtain⟨J3,h3⟩:=qE J2;cases hg:(I8 K M J' e).isNone
  .rw[hg,if_neg AG,B3]at qd;have qf:=ih (i+1,J3) AP h';rw[qd,h3]at qf;simp only[go_sem,Bl h2,i1];exact Aq qf rfl
  .rw[hg,if_pos rfl]at qd;have qf:=ih (i+1,J3) AP h';rw[qd,h3,Ar]at qf;have hy:=jc hg;have jm:=(Al.1 hy).1;have f1:(((Fy K M J' E).length:Int)<=((Fy K M J' (E.take i)).length:Int))=False:=eq_false AA;have n1:IntKind.i64.wrap (((Fy K M J' (E.take i)).length:Int)+1)=(((Fy K M J' (E.take i)).length+1:Nat):Int):=A1 AA;have hc:=Alq e.own e (show e.sites.length<=_ by omega) AA;rw[show C7 e.own e=0 from A6q e]at hc;simp only[Vq]at hc;simp only[go_sem,Bl h2];refine Af AD ?_;simp only[go_sem,qP,f1,As,hy,qV];refine Bg hc AB ?_;simp only[go_sem,f0,n1,i1];exact Aq qf rfl
 obtain⟨k,hk,-,-⟩:=Bq h2;have j1:IntKind.i64.wrap ((j:Int)+1)=((j+1:Nat):Int):=A1 AA;have qS:=gs k
 have qr:Lu 3 e.sl (.int .i64 (j:Int))=some (.imm (kR k) 0):=by
  unfold Ent.sl;rw[Abk,Afg,As,hk];rfl
 obtain⟨sC,qw⟩:∃ sC,sC=sB++(J2++[Ob.row (kR k) 45 0 0]):=⟨_,rfl⟩
 have qC:∀ X,(sC++X)[sB.length+J2.length]?=some (.row (kR k) 45 0 0):=fun X=>Bs (by
  rw[qw,<-Br,<-Ar]
  exact Oy _ _)
 have qW:sC[1]?=some (gO A):=by rw[qw];exact qU _
 have next:∀ X,∃ J3,sB++J3=sC++X:=fun X=>⟨_,by rw[qw,Br]⟩
 have qA:=A7p (K:=K) (D:=D) hk;cases hb:R9 K D (e.sites.take j)
 .rw[hb,U5]at qA;have qM:=qC [];rw[B3]at qM;simp only[go_sem,Ay h2,qr];rw[<-qw];simp only[go_sem,qW,qM];refine Ab qS AB ?_;simp only[go_sem,qN];refine Avp (G:=decide (sI K k<0)) hD qC fun X=>?_
  obtain⟨J3,h3⟩:=next X
  have qt:=jh (j+1,J3) AP h2;simp only[qA,h3]at qt;simp only[go_sem,j1];exact Aq qt rfl
 .rw[hb,Ai4]at qA;simp only[go_sem,Ay h2,qr,qN];rw[<-qw];refine Avp (G:=true) hD qC fun X=>?_
  obtain⟨J3,h3⟩:=next X
  have qt:=jh (j+1,J3) AP h2;simp only[qA,h3]at qt;simp only[go_sem,j1];exact Aq qt rfl
end Go.Proofs.YtphikjgngompaaaGreatDoor.KM
/- What every law's closing needs: listed tables, the post of a law that answers true and leaves its arguments. -/
namespace Go.Proofs.YtphikjgngompaaaGreatDoor
open Go.ChangeShapes Go.WideShapes Go.ChangeAt Go.RowKit KM
mutual
def flatV{H:Type}:DataW H->List Value
 | .lit (.bool b)=>[.bool b]
 | .lit (.int k n)=>[.int k n]
 | .lit (.string l)=>[.string ⟨l.toArray⟩]
 | .agg ps=>Ts ps
 | _=>[]
def Ts{H:Type}:List (DataW H)->List Value
 | []=>[]
 | d::ds=>flatV d++Ts ds
end
def Am6(P:Program)(ts:List TypeId):Bool:=ts.all fun t=>
 match P.underlying t with
 | some .bool | some (.int _) | some .string=>P.cellsOf t==1
 | some (.struct fs)=>fs.toList.all (fun f=>ts.contains f.type)&&Rm P fs.toList 0 (P.cellsOf t)
 | some (.array n e)=>ts.contains e&&P.cellsOf t==n*P.cellsOf e
 | _=>false
def Ap5{H:Type}{P:Program}{cs:List Value}{g:Field->Option (DataW H × List MemPlace)}:
  ∀ (fl:List Field) (s e:Nat) (xs:List (DataW H × List MemPlace)),Rm P fl s e=true->fl.mapM g=some xs->e=cs.length ->
   (∀ f∈fl,∀ x,g f=some x->(cs.drop f.offset).take (P.cellsOf f.type)=flatV x.1)->cs.drop s=Ts (xs.map (·.1))
 | [],s,e,xs,hc,hm,he,_=>by
  grind[Rm,Ts]
 | f::fl,s,e,xs,hc,hm,he,hg=>by
  simp only[Rm,Ai,beq_iff_eq]at hc;rw[Lc]at hm
  cases hf:g f with
  | none=>grind
  | some x=>
   cases hl:fl.mapM g with
   | none=>grind
   | some r=>
    simp[hf,hl]at hm;subst hm;have h1:=Ap5 fl _ e r hc.2 hl he (fun f' qY=>hg f' (Ci _ qY))
    grind[Ts,List.drop_drop,List.take_append_drop]
def Aq4{H:Type}{cs:List Value}{m:Nat}{g:Nat->Option (DataW H × List MemPlace)}(hg:∀ i x,g i=some x->(cs.drop (i*m)).take m=flatV x.1):
  ∀ (n s:Nat) (xs:List (DataW H × List MemPlace)),(List.range' s n).mapM g=some xs->cs.length=(s+n)*m->cs.drop (s*m)=Ts (xs.map (·.1))
 | 0,s,xs,hm,hl=>by
  grind[Ts]
 | n+1,s,xs,hm,hl=>by
  rw[List.range'_succ,Lc]at hm
  cases hf:g s with
  | none=>grind
  | some x=>
   cases hr:(List.range' (s+1) n).mapM g with
   | none=>grind
   | some r=>
    simp[hf,hr]at hm;subst hm;have h1:=Aq4 hg n (s+1) r hr (by grind)
    grind[Ts,List.drop_drop,List.take_append_drop]
def Ai0{H:Type}(qe:TypeId × Value->H)(P:Program)(w:World)(qg:Nat->Bool)(qm:Bool)(ts:List TypeId)(qk:Am6 P ts=true):
  ∀ (fuel:Nat) (t:TypeId) (cs:List Value) (d:DataW H) (ps:List MemPlace),t∈ts->DataW.trod qe P w 0 qg qm fuel t cs=some (d,ps)->cs=flatV d
 | 0,_,_,_,_,_,h=>by simp_all [DataW.trod]
 | fuel+1,t,cs,d,ps,ht,h=>by
  have hp:=Bw.1 qk t ht;simp only[DataW.trod]at h
  split at h
  .simp at h;obtain⟨rfl,_⟩:=h;rfl
  .split at h
   .rename_i hk;simp at h;obtain⟨rfl,_⟩:=h;obtain⟨rfl,_⟩:=hk;rfl
   grind
  .grind
  .split at h
   .simp at h;obtain⟨rfl,_⟩:=h;simp[flatV]
   grind
  .grind
  .grind
  .grind
  .grind
  .rename_i fs hu;rw[hu]at hp;simp only[Ai,Bw,Ada]at hp
   split at h
   .rename_i qQ;simp only[Ck]at h;obtain⟨xs,hm,h⟩:=h;simp at h;obtain⟨rfl,_⟩:=h;have:=Ap5 (P:=P) (cs:=_) fs.toList 0 _ xs hp.2 hm qQ.symm (fun f hf x hx=>Ai0 qe P w qg qm ts qk fuel f.type _ x.1 x.2 (hp.1 f hf) hx)
    grind[flatV]
   grind
  .rename_i n e hu;rw[hu]at hp;simp only[Ai,beq_iff_eq,Ada]at hp
   split at h
   .rename_i qQ;simp only[Ck]at h;obtain⟨xs,hm,h⟩:=h;simp at h;obtain⟨rfl,_⟩:=h;rw[List.range_eq_range']at hm;have:=Aq4 (cs:=_) (m:=P.cellsOf e) (fun i x hx=>Ai0 qe P w qg qm ts qk fuel e _ x.1 x.2 hp.1 hx) n 0 xs hm (by grind)
    grind[flatV]
   grind
  all_goals grind
def Ak9{P:Program}{w:World}{n:String}{d:DataW Unit}:∀ {qb:List (String × DataW Unit)} {ps:List MemPlace},DataW.LaidVars P w qb ps->(n,d)∈qb ->
  ∃ g t cs fuel p,P.globalNamed n=some g/\(P.globals[g]?).map (·.type)=some t/\w.var? P n=some cs/\DataW.trod (fun _=>()) P w 0 (fun _=>true) false fuel t cs.toList=some (d,p)
 | [],_,_,hm=>by cases hm
 | (n',d')::r,ps,h,hm=>by
  obtain⟨g,t,cs,fuel,p,q,h1,h2,h3,h4,h5,_⟩:=h;rcases Bp.1 hm with e | hm
  .grind
  .exact Ak9 h5 hm
def Bbp{P:Program}{w:World}{n:String}{d:DataW Unit}{g:Nat}{t:TypeId}{ts:List TypeId}{qb:List (String × DataW Unit)}(h:laidMet P qb w)(hm:(n,d)∈qb)
  (hg:P.globalNamed n=some g) (ht:(P.globals[g]?).map (·.type)=some t) (qk:Am6 P ts=true) (qn:t∈ts):w.var? P n=some (flatV d).toArray:=by
 obtain⟨ps,h,_⟩:=h;obtain⟨g',t',cs,fuel,p,h1,h2,h3,h4⟩:=Ak9 h hm;obtain rfl:g'=g:=Lb (h1.symm.trans hg);obtain rfl:t'=t:=Lb (h2.symm.trans ht);rw[h3,<-Ai0 _ P w _ _ ts qk fuel t' _ d p qn h4]
theorem App{H:Type}{qe:TypeId × Value->H}{P:Program}(hl:laidOutB P=true){W W':World}(hb:Below W.heap.size W W'){sp:Nat->Bool}:
  ∀ {ts:List TypeId} {vs:List Value} {ds:List (DataW H)} {ps:List MemPlace},(ts.all fun t=>P.readableRec t&&decide (t<P.types.size))=true->DataW.TrodAll qe P W 0 (fun _=>true) true ts vs ds ps ->
   (∀ x∈ps,x.block<W.heap.size)->(∀ x∈ps,sp x.block=true)->DataW.TrodAll qe P W' 0 sp true ts vs ds ps
 | [],[],[],_,_,h,_,_=>h
 | t::ts,v::vs,d::ds,ps,hr,h,qB,qI=>by
  obtain⟨p,q,h1,h2,rfl⟩:=h;simp only[B5,Ai,decide_eq_true_eq]at hr;refine⟨p,q,WideElems.Trod_stays hl hr.1.1 hr.1.2 h1 (fun x hx=>hb.same (qB x (by simp[hx]))) (fun x hx=>qI x (by simp[hx])),?_,rfl⟩;exact App hl hb (by grind) h2 (fun x hx=>qB x (by simp[hx])) (fun x hx=>qI x (by simp[hx]))
 | [],_::_,_,_,_,h,_,_=>by grind[DataW.TrodAll]
 | [],[],_::_,_,_,h,_,_=>by grind[DataW.TrodAll]
 | _::_,[],_,_,_,h,_,_=>by grind[DataW.TrodAll]
 | _::_,_::_,[],_,_,h,_,_=>by grind[DataW.TrodAll]
def Bbq{H:Type}{qe:TypeId × Value->H}{P:Program}{f:Func}{s:ChangeSpec}{qi qq qh qp:Bool}{W W':World}{args:Array Value}{ds gs:List (DataW H)}{qa:List MemPlace}{tb:TypeId}
  (hW:DataW.Whole qe P f.params.toList s.vars qi W args.toList ds gs qa) (hl:laidOutB P=true) (qk:(f.params.toList.all fun t=>P.readableRec t&&decide (t<P.types.size))=true)
  (hv:s.vars=[]) (hr:f.resultTypes=#[tb]) (hu:P.underlying tb=some .bool) (h1:(s.fn H (ds++gs)).results=[.lit (.bool true)]) (h2:(s.fn H (ds++gs)).args=ds) (h3:(s.fn H (ds++gs)).vars=[])
  (hb:Below W.heap.size W W'):s.post qe P f qi qq qh qp W args (.bool true) W':=by
 have qB:∀ p∈qa,p.block<W.heap.size:=fun p hp=>hW.lt p hp
 have qG:∀ p∈qa,(fun b=>decide (b<W.heap.size)) p.block=true:=fun p hp=>by grind
 have qu:∀ (b:Nat) (sp:Nat->Bool) (hd:Bool),DataW.TrodAll qe P W' b sp hd f.resultTypes.toList ((Value.bool true).resultList f.resultTypes.size) (s.fn H (ds++gs)).results []:=fun b sp hd=>by
  rw[hr,h1];exact trodAll_cons_mk (shut_bool hu _) trodAll_mk0
 obtain⟨p,q,hA,hV,jl,hz,hn⟩:=id hW;have hg:gs=[]/\q=[]:=by rw[hv]at hV;exact trodVars_none hV
 obtain⟨rfl,rfl⟩:=hg
 have qj:∀ sp:Nat->Bool,(∀ p∈qa,sp p.block=true)->DataW.TrodAll qe P W' 0 sp true f.params.toList args.toList (s.fn H (ds++[])).args qa:=fun sp qI=>by
  grind[App]
 have ql:∀ sp:Nat->Bool,DataW.TrodVars qe P W' sp s.vars (s.fn H (ds++[])).vars []:=fun sp=>by
  rw[hv,h3];rfl
 refine⟨ds,[],qa,[],qa,[],hW,qu _ _ _,qj _ qG,ql _,World.keptBut_mono (fun p hp=>⟨hp,.inr (by grind)⟩) (hb.frame (·∈qa)),fun _=>?_⟩;refine⟨?_,_,_,([]++qa)++[],⟨[]++qa,[],trodAll_append (qj _ (fun _ _=>rfl)) (qu _ _ _),ql _,rfl,?_,?_⟩,?_⟩
 .exact ok_one hr rfl (okWide_bool_mk hu _)
 .intro b off hp;have qn:MemPlace.cell b off∈qa:=by simpa using hp
  rw[hb.frozen (qB _ qn)];exact hz b off qn
 .grind
 grind
def Avq{P:Program}{w:World}{n:String}{g:Nat}{cs:Array Value}(h:w.var? P n=some cs)(hg:P.globalNamed n=some g):∃ e fz,w.heap[g]?=some (.cells cs e fz):=by
 grind[World.var?]
def Al8{P:Program}{w:World}{n:String}{d:DataW Unit}{g:Nat}{t:TypeId}{ts:List TypeId}{qb:List (String × DataW Unit)}{r:List V}(h:laidMet P qb w)(hm:(n,d)∈qb)
  (hg:P.globalNamed n=some g) (ht:(P.globals[g]?).map (·.type)=some t) (qk:Am6 P ts=true) (qn:t∈ts) (hr:Ir r (flatV d)=true) (hf:r.all Ahu=true) :
  ∃ us e fz,w.heap[g]?=some (.cells us e fz)/\r.length=us.toList.length/\∀ j,j<r.length->Ym (r.getD j .und) (us.toList.getD j undef):=by
 obtain⟨e,fz,hh⟩:=Avq (Bbp h hm hg ht qk qn) hg
 grind[A25]
def Ax6{P:Program}{w:World}{n:String}{nm:String}{d:DataW Unit}{g:Nat}{t:TypeId}{ms:Array (String × TypeId)}{qb:List (String × DataW Unit)}(h:laidMet P qb w)(hm:(n,.iface nm d)∈qb)
  (hg:P.globalNamed n=some g) (ht:(P.globals[g]?).map (·.type)=some t) (hu:P.underlying t=some (.interface ms)) :
  ∃ us e fz,w.heap[g]?=some (.cells us e fz)/\[V.ifc].length=us.toList.length/\∀ j,j<[V.ifc].length->Ym ([V.ifc].getD j .und) (us.toList.getD j undef):=by
 obtain⟨ps,h,_⟩:=h;obtain⟨g',t',cs,fuel,p,h1,h2,h3,h4⟩:=Ak9 h hm;obtain rfl:g'=g:=Lb (h1.symm.trans hg);obtain rfl:t'=t:=Lb (h2.symm.trans ht);obtain⟨e,fz,hh⟩:=Avq h3 hg;refine⟨cs,e,fz,hh,?_⟩
 cases fuel with
 | zero=>simp_all [DataW.trod]
 | succ fuel=>
  unfold DataW.trod at h4;rw[hu]at h4;generalize cs.toList=l at h4;rcases l with _ | ⟨x,_ | ⟨y,l⟩⟩
  .grind
  .cases x with
   | iface u v=>
    refine⟨rfl,fun j hj=>.inr ?_⟩
    simp_all
   | _=>grind
  grind
def Bgu{P:Program}{w:World}{g:Nat}{t:TypeId}{zero:Array Value}
  (h:w.ShapedOpen P) (hg:g<P.globals.size)
  (h0:((begin P (fun _ _=>0) default).world.heap[g]?).bind Obj.row?=some (zero,t)) (hz:zero.size=1)
  (hb:P.buildable t=true) (hc:P.cellTypes P.depth t=some [t]) (hu:P.underlying t=some (.int .i64)) :
  ∃ m,∃ us e fz,w.heap[g]?=some (.cells us e fz)/\[V.int .i64 m].length=us.toList.length/\∀ j,j<[V.int .i64 m].length->Ym ([V.int .i64 m].getD j .und) (us.toList.getD j undef):=by
 obtain⟨m,hm⟩:=cell_of_shapedOpen_int h hg h0 hz hb hc hu;obtain⟨cs,hh,hs,_⟩:=h.1 g zero t hg h0;refine⟨m,cs,_,_,hh,by grind,fun j hj=>.inl ?_⟩;obtain rfl:j=0:=by grind
 have:cs[0]?=some (.int .i64 m):=by simpa[World.cell?,hh] using hm
 have:cs.toList.getD 0 undef=.int .i64 m:=by rw[D3,Array.getElem?_toList,this];rfl
 rw[this];exact⟨by simp[O8],rfl⟩
end Go.Proofs.YtphikjgngompaaaGreatDoor
/- What every closing of this seat's laws needs: the tables, plain data out of what a row reads, the world of the witness. -/
namespace Go.Proofs.YtphikjgngompaaaGreatDoor
open Go.ChangeShapes Go.WideShapes Go.ChangeAt Go.RowKit KM
def A20:ownKnob Tryz.prog.godebug=none:=by kernel_rfl
def Bbr{P:Program}{t:TypeId}{k:IntKind}{qc:List V}(hu:P.underlying t=some (.int k))(h:HasT P t qc):∃ n,qc=[.int k n]/\(Lit.int k n).wf=true:=by
 cases h with
 | int hu' hw=>
  grind
 | _=>simp_all
def Ap6{P:Program}{t:TypeId}{fs:Array Field}{qc:List V}(hu:P.underlying t=some (.struct fs))(h:HasT P t qc):∃ parts:List (List V),qc=parts.flatten/\parts.length=fs.size/\∀ i f,fs[i]?=some f->HasT P f.type (parts.getD i []):=by
 cases h with
 | struct parts hu' hl hT=>
  grind
 | _=>simp_all
def A4t{P:Program}{t e:TypeId}{qc:List V}(hu:P.underlying t=some (.slice e))(h:HasT P t qc):qc=[.nils]\/∃ xs,qc=[.lst 0 xs]/\xs.length<=maxLen/\∀ i,i<xs.length->HasT P e (xs.getD i []):=by
 cases h with
 | nils _=>grind
 | lst hu' hl hT=>
  grind
 | _=>simp_all
def Avr{α:Type}{f:α->List V}:∀ {xs:List (List V)},(∀ i,i<xs.length->∃ a,xs.getD i []=f a)->∃ l:List α,xs=l.map f
 | [],_=>⟨[],rfl⟩
 | x::xs,h=>by
  obtain⟨a,ha⟩:=h 0 AE;obtain⟨l,hl⟩:=Avr (xs:=xs) fun i hi=>h (i+1) (by grind)
  exact⟨a::l,by grind⟩
def Asl{P:Program}{t e:TypeId}{α:Type}{f:α->List V}{qc:List V}(hu:P.underlying t=some (.slice e))(h:HasT P t qc)(hf:∀ r,HasT P e r->∃ a,r=f a):∃ z u,∃ l:List α,qc=[SL z u (l.map f)]/\l.length<=9223372036854775807:=by
 rcases A4t hu h with rfl | ⟨xs,rfl,hl,hT⟩
 .exact⟨true,0,[],rfl,by simp⟩
 .obtain⟨l,rfl⟩:=Avr (f:=f) fun i hi=>hf _ (hT i hi)
  exact⟨false,0,l,by simp[SL],by grind[maxLen]⟩
def Am7{α:Type}{ps:List (List α)}(h:ps.length=4):∃ a b c d,ps=[a,b,c,d]:=by
 match ps,h with
 | [a,b,c,d],_=>grind
def Bgv:Tryz.prog.globalNamed "interleave/format.operators"=some 9:=by kernel_rfl
def Bl2:Tryz.prog.globalNamed "interleave/token.keywords"=some 1:=by kernel_rfl
def Bgw:Tryz.prog.globalNamed "internal/strconv.uint64pow10"=some 2:=by kernel_rfl
def Bgx{w:World}{qb:List (String × DataW Unit)}(h:laidMet Tryz.prog qb w)(hs:w.ShapedOpen Tryz.prog)(h1:("interleave/format.operators",Rows.laid_interleave_format_operators)∈qb) (h2:("internal/strconv.uint64pow10",Rows.laid_internal_strconv_uint64pow10)∈qb)
  (h3:("interleave/token.keywords",Rows.laid_interleave_token_keywords)∈qb) (h4:("strconv.ErrSyntax",Rows.laid_strconv_ErrSyntax)∈qb) (h5:("strconv.ErrRange",Rows.laid_strconv_ErrRange)∈qb):∃ m,Aot (GT m) w:=by
 obtain⟨m,hm⟩:=Bgu (g:=0) (zero:=#[.int .i64 0]) (t:=3) hs (of_decide_eq_true AD) AD rfl AD AD Tryz.underlying3;refine⟨m,fun g r hg=>?_⟩;simp only[GT,Bp,La,or_false,Prod.mk.injEq]at hg
 rcases hg with⟨rfl,rfl⟩ | ⟨rfl,rfl⟩ | ⟨rfl,rfl⟩ | ⟨rfl,rfl⟩ | ⟨rfl,rfl⟩ | ⟨rfl,rfl⟩<;>first
  | exact hm
  | exact Ax6 h h4 Awc AD Tryz.underlying233
  | exact Ax6 h h5 Awd AD Tryz.underlying233
  | exact Al8 (ts:=[3,9,295,303]) (t:=303) h h1 Bgv AD AD AG AD AD
  | exact Al8 (ts:=[9,224]) (t:=224) h h3 Bl2 AD AD AG AD AD
  | exact Al8 (ts:=[164,242]) (t:=242) h h2 Bgw AD AD AG AD AD
end Go.Proofs.YtphikjgngompaaaGreatDoor
/- The world of the witness: the settled one, the listed variables holding what their initialisers lay. -/
namespace Go.Proofs.YtphikjgngompaaaGreatDoor
open Go.ChangeShapes Go.WideShapes Go.ChangeAt Go.RowKit KM
def Bqr{a b:Bool}(h1:a=true)(h2:b=true):(a&&b)=true:=by rw[h1,h2];rfl
def setRow(d:DataW Unit):Obj->Obj
 | .cells _ t frozen=>.cells (flatV d).toArray t frozen
 | o=>o
def Azz(b:Nat):Obj->Obj
 | .cells _ t frozen=>.cells #[.iface 299 (.pointer (some ⟨b,0,none⟩))] t frozen
 | o=>o
def Ax7:DataW Unit->Array UInt8
 | .iface _ (.ptr (.agg [.lit (.string l)]))=>l.toArray
 | _=>#[]
noncomputable def holds0 (os:Os):Array Obj:=(World.holding Tryz.prog os ⟨#[],#[],[]⟩).heap
noncomputable def laidWorld (os:Os):World:=
 { World.holding Tryz.prog os ⟨#[],#[],[]⟩ with heap:=((((((((((holds0 os).modify 9 (setRow Rows.laid_interleave_format_operators)).modify 2 (setRow Rows.laid_internal_strconv_uint64pow10)).modify 3 (setRow Rows.laid_math_bits_deBruijn32tab)).modify 4 (setRow Rows.laid_math_bits_deBruijn64tab)).modify 6 (setRow Rows.laid_unicode_utf8_acceptRanges)).modify 1 (setRow Rows.laid_interleave_token_keywords)).modify 5 (setRow Rows.laid_unicode_utf8_first)).modify 8 (Azz (holds0 os).size)).modify 7 (Azz ((holds0 os).size+1))).push (.cells #[.string ⟨Ax7 Rows.laid_strconv_ErrRange⟩] 301 (0,0)) |>.push (.cells #[.string ⟨Ax7 Rows.laid_strconv_ErrSyntax⟩] 301 (0,0)) }
end Go.Proofs.YtphikjgngompaaaGreatDoor
/- What a row reads: bytes. -/
namespace Go.Proofs.YtphikjgngompaaaGreatDoor
open Go.ChangeShapes Go.WideShapes Go.ChangeAt Go.RowKit KM
def Sa{P:Program}{t:TypeId}{qc:List V}(hu:P.underlying t=some (.int .u8))(h:HasT P t qc):∃ n:Nat,n<256/\qc=[.int .u8 (n:Int)]:=by
 obtain⟨n,rfl,hw⟩:=Bbr hu h;simp only[Lit.wf,Ai,decide_eq_true_eq]at hw;have h1:(0:Int)<=n:=hw.1;have h2:n<=255:=hw.2;refine⟨n.toNat,by omega,?_⟩;rw[Zh h1]
def Am8{qc:List V}(h:HasT Tryz.prog 22 qc):∃ z u,∃ l:List UInt8,qc=[SL z u (B6 l)]/\l.length<=9223372036854775807:=by
 obtain⟨z,u,l,rfl,hl⟩:=Asl (f:=fun c:UInt8=>[V.int .u8 (c.toNat:Int)]) Tryz.underlying22 h fun r hr=>by
  obtain⟨n,hn,rfl⟩:=Sa Tryz.underlying5 hr;exact⟨UInt8.ofNat n,by simp[Ais hn]⟩
 exact⟨z,u,l,rfl,hl⟩
end Go.Proofs.YtphikjgngompaaaGreatDoor
/- Both versions' numbers out of what a row reads. -/
namespace Go.Proofs.YtphikjgngompaaaGreatDoor
open Go.ChangeShapes Go.WideShapes Go.ChangeAt Go.RowKit KM
def A7q{P:Program}{t:TypeId}{qc:List V}(hu:P.underlying t=some .bool)(h:HasT P t qc):∃ b,qc=[.bool b]:=by
 cases h with
 | bool hu'=>exact⟨_,rfl⟩
 | _=>simp_all
structure PairP where
 z0:Bool
 t0:Nat
 a:List UInt8
 z1:Bool
 t1:Nat
 b:List UInt8
 z2:Bool
 t2:Nat
 c:List UInt8
 un:Bool
def PairP.row(x:PairP):List V:=[SL x.z0 x.t0 (B6 x.a),SL x.z1 x.t1 (B6 x.b),SL x.z2 x.t2 (B6 x.c),.bool x.un]
def Bgy{qc:List V}(h:HasT Tryz.prog 24 qc):∃ x:PairP,qc=x.row/\x.a.length<=9223372036854775807/\x.b.length<=9223372036854775807/\x.c.length<=9223372036854775807:=by
 obtain⟨ps,rfl,hl,hT⟩:=Ap6 Tryz.underlying24 h;obtain⟨a,b,c,d,rfl⟩:=Am7 hl;have h0:=hT 0 _ rfl;have h1:=hT 1 _ rfl;have h2:=hT 2 _ rfl;have h3:=hT 3 _ rfl;simp at h0 h1 h2 h3;obtain⟨z0,t0,l0,rfl,k0⟩:=Am8 h0;obtain⟨z1,t1,l1,rfl,k1⟩:=Am8 h1;obtain⟨z2,t2,l2,rfl,k2⟩:=Am8 h2;obtain⟨un,rfl⟩:=A7q Tryz.underlying4 h3;exact⟨⟨z0,t0,l0,z1,t1,l1,z2,t2,l2,un⟩,rfl,k0,k1,k2⟩
end Go.Proofs.YtphikjgngompaaaGreatDoor
/- Items, out of what a row reads (beside the numbers of both versions). -/
namespace Go.Proofs.YtphikjgngompaaaGreatDoor
open Go.ChangeShapes Go.WideShapes Go.ChangeAt Go.RowKit KM
def A4u{P:Program}{t e:TypeId}{n:Nat}{qc:List V}(hu:P.underlying t=some (.array n e))(h:HasT P t qc):∃ parts:List (List V),qc=parts.flatten/\parts.length=n/\∀ i,i<n->HasT P e (parts.getD i []):=by
 cases h with
 | array parts hu' hl hT=>
  rw[hu]at hu';injection hu' with e;injection e with e1 e2;subst e1 e2;exact⟨parts,rfl,hl,hT⟩
 | _=>simp_all
def Bgz{qc:List V}(h:HasT Tryz.prog 114 qc):∃ x:{ x:KM.Item // x.ok },qc=x.1.row:=by
 obtain⟨ps,rfl,hl,hT⟩:=Ap6 Tryz.underlying114 h;obtain⟨a,b,c,d,rfl⟩:=Am7 hl;obtain⟨n1,l1,h1⟩:=Sa Tryz.underlying5 (hT 0 _ rfl);obtain⟨n2,l2,h2⟩:=Sa Tryz.underlying5 (hT 1 _ rfl);obtain⟨n3,l3,h3⟩:=Sa Tryz.underlying5 (hT 2 _ rfl);obtain⟨qs,h4,jb,qz⟩:=A4u Tryz.underlying112 (hT 3 _ rfl);obtain⟨a4,b4,c4,d4,rfl⟩:=Am7 jb;obtain⟨m1,k1,g1⟩:=Sa Tryz.underlying5 (qz 0 AA);obtain⟨m2,k2,g2⟩:=Sa Tryz.underlying5 (qz 1 AA);obtain⟨m3,k3,g3⟩:=Sa Tryz.underlying5 (qz 2 AA);obtain⟨m4,k4,g4⟩:=Sa Tryz.underlying5 (qz 3 AA);simp at h1 h2 h3 h4 g1 g2 g3 g4;subst h1 h2 h3 g1 g2 g3 g4;subst h4;exact⟨⟨⟨n1,n2,n3,m1,m2,m3,m4⟩,l1,l2,l3,k1,k2,k3,k4⟩,rfl⟩
def Bbs{qc:List V}(h:HasT Tryz.prog 25 qc):∃ z u,∃ l:List KM.Item,qc=[SL z u (l.map KM.Item.row)]/\l.length<=9223372036854775807/\∀ x∈l,x.ok:=by
 obtain⟨z,u,l,rfl,hl⟩:=Asl (α:={ x:KM.Item // x.ok }) (f:=fun x=>x.1.row) Tryz.underlying25 h fun r hr=>Bgz hr
 refine⟨z,u,l.map (·.1),by rw[Adt];rfl,by simpa using hl,fun x hx=>?_⟩;obtain⟨y,-,rfl⟩:=Cy.1 hx;exact y.2
end Go.Proofs.YtphikjgngompaaaGreatDoor
