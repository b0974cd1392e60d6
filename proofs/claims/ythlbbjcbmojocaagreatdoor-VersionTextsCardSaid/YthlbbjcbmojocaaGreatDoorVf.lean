/- Walks: both versions of a program; the laws of corresponding sites. -/
import Derived.Test.YthlbbjcbmojocaaGreatDoorVa
set_option linter.all false
namespace Go.Proofs.YthlbbjcbmojocaaGreatDoor.KM
open Go
def zeroG:Gp:=⟨true,0,[],true,0,[]⟩
def Aug:zeroG.row=[.nils,.nils]:=by rw[F1];simp[zeroG,SL]
def Aba{s:List UInt8}{v:V}(h:Uy s v):∃ (g:Gp) (e ln:Int),v=.tup [.agg g.row,iV e,iV ln]/\(e=0->Lz s=some g)/\(e≠0->g=zeroG):=by
 unfold Uy at h
 cases hp:Lz s with
 | some g=>rw[hp]at h;exact⟨g,0,0,h,fun _=>rfl,fun h=>absurd rfl h⟩
 | none=>
  rw[hp]at h;obtain⟨e,ln,he,rfl⟩:=h;exact⟨zeroG,e,ln,by rw[Aug],fun h=>absurd h he,fun _=>rfl⟩
def VeR(v:V):Prop:=∃ (A B:Gp) (ok:Bool),v=.tup [.agg A.row,.agg B.row,.bool ok]/\(ok=true->PY A/\PY B/\∃ P,OKp P/\Lz (Fy P)=some A)
def Al1{g:V}{kill:List Nat}{x y:AC}{k:List It}{e:Env}{σ:St}{Q:Env->St->Prop}(P:Env->St->Prop)(h1:∀ k',(∀ e σ,P e σ->W TT PT k' e σ Q)->WC TT PT g kill x y k' e σ Q)(h2:∀ e σ,P e σ->W TT PT k e σ Q):WC TT PT g kill x y k e σ Q:=h1 k h2
set_option maxHeartbeats 4000000 in
def Art(z0 z1 z2:Bool)(t0 t1 t2:Nat)(a b c:List UInt8)(un:Bool)(ha:a.length<=9223372036854775807)(hb:b.length<=9223372036854775807)(hc:c.length<=9223372036854775807):∃ v,Fn TT PT 5 [.agg [SL z0 t0 (Bh a),SL z1 t1 (Bh b),SL z2 t2 (Bh c),.bool un]] v/\VeR v:=by
 obtain⟨P,q1,qa⟩:=Aec z0 t0 a ha;obtain⟨P2,q2,qe⟩:=Aec z2 t2 c hc;have qr:=qa.len;have q3:=Zn (Aao qa.sh) (by omega);obtain⟨v4,q4,qw⟩:=Sy (Fy P);obtain⟨A,eA,lA,rfl,qf,qq⟩:=Aba qw;obtain⟨E,q5,hd,hE⟩:=Ano qa z1 t1 b hb;obtain⟨qh,lE⟩:=Ap6 qa hd hE;have ql:=F1 P;have qk:=F1 P2;have qb:=F1 A;have Xs:=F1 E;rw[ql]at q1 q3 q5;rw[qk]at q2;rw[qb]at q4;rw[Xs]at q5;refine Agb T5 rfl ?_;simp only[go_sem];refine Ad q1 (by simp only[go_sem]) ?_;simp only[go_sem];refine Ad q3 (by simp only[go_sem]) ?_;simp only[go_sem];refine Ad q4 (by simp only[go_sem]) ?_;simp only[go_sem];refine Ag (by kernel_rfl) ?_;simp only[go_sem];refine A1 q1 (by simp only[go_sem]) ?_;simp only[go_sem];refine A1 q5 (by simp only[go_sem]) ?_;simp only[go_sem];refine Az ?_;simp only[go_sem];refine Az ?_;simp only[go_sem];refine Al1 (fun e s=>∃ R:Gp,(CnG R/\(Fy R).length<=20000000000)/\(e=[(1,.ptr 0 0 0),(2,.ptr 1 0 0),(3,.ptr 2 0 0),(5,.ptr 3 0 0),(8,.ptr 4 0 0)]\/e=[(2,.ptr 1 0 0),(3,.ptr 2 0 0),(5,.ptr 3 0 0),(8,.ptr 4 0 0)])/\s=[.row [SL z0 t0 (Bh a),SL z1 t1 (Bh b),SL z2 t2 (Bh c),.bool un] 24 0 0,.row [.nils,.nils] 28 0 0,.row [.nils,.nils] 28 0 0,.row [SL A.dz A.dt (A.decls.map Dp.row),SL A.tz A.tt (A.thrs.map Tp.row)] 28 0 0,.row [SL R.dz R.dt (R.decls.map Dp.row),SL R.tz R.tt (R.thrs.map Tp.row)] 28 0 0]) ?_ ?_
 .intro k' qd;cases un
  .simp only[go_sem];exact qd _ _ ⟨E,⟨qh,lE⟩,.inl rfl,rfl⟩
  .simp only[go_sem];refine Ad q2 (by simp only[go_sem]) ?_;simp only[go_sem];exact qd _ _ ⟨P2,⟨Aao qe.sh,by have:=qe.len;omega⟩,.inr rfl,rfl⟩
 rintro _ _ ⟨R,⟨qp,lR⟩,he,rfl⟩;have q6:=Zn qp (by omega);obtain⟨v7,q7,qx⟩:=Sy (Fy R);obtain⟨B,eB,lB,rfl,qj,qA⟩:=Aba qx;have qs:=F1 R;have qc:=F1 B;have qm:(A.thrs.map Tp.row).length=A.thrs.length:=Ba ..;rw[qs]at q6;rw[qc]at q7
 have qi:∀ ok:Bool,(ok=true->eB=0/\0<A.thrs.length)->VeR (.tup [.agg [SL A.dz A.dt (A.decls.map Dp.row),SL A.tz A.tt (A.thrs.map Tp.row)],.agg [SL B.dz B.dt (B.decls.map Dp.row),SL B.tz B.tt (B.thrs.map Tp.row)],.bool ok]):=fun ok h=>by
  refine⟨A,B,ok,by rw[qb,qc],fun qn=>?_⟩;obtain⟨h1,h2⟩:=h qn
  have h3:eA=0:=Decidable.byContradiction fun qv=>by
   have:=qq qv;rw[this]at h2;simp[zeroG]at h2
  exact⟨S7 (qf h3),S7 (qj h1),P,qa,qf h3⟩
 rcases he with rfl | rfl
 all_goals (
  simp only[go_sem];refine Ad q6 (by simp only[go_sem]) ?_;simp only[go_sem];refine Ad q7 (by simp only[go_sem]) ?_;simp only[go_sem];by_cases h0:eB=0
  .by_cases h1:0<A.thrs.length
   .have f1:(eB==0)=true:=by simp[h0]
    have f2:(0<(A.thrs.length:Int))=True:=eq_true (by omega);refine Ag (by kernel_rfl) ?_;simp only[go_sem,f1,qm,f2];refine Az ?_;simp only[go_sem];refine Az ?_;simp only[go_sem];refine⟨.tup [.agg [SL A.dz A.dt (A.decls.map Dp.row),SL A.tz A.tt (A.thrs.map Tp.row)],.agg [SL B.dz B.dt (B.decls.map Dp.row),SL B.tz B.tt (B.thrs.map Tp.row)],.bool true],?_,qi true fun _=>⟨h0,h1⟩⟩;simp only[go_sem];exact I4 (by simp only[go_sem])
   .have f1:(eB==0)=true:=by simp[h0]
    have f2:(0<(A.thrs.length:Int))=False:=eq_false (by omega);refine Ag (by kernel_rfl) ?_;simp only[go_sem,f1,qm,f2];refine Az ?_;simp only[go_sem];refine Az ?_;simp only[go_sem];refine⟨.tup [.agg [SL A.dz A.dt (A.decls.map Dp.row),SL A.tz A.tt (A.thrs.map Tp.row)],.agg [SL B.dz B.dt (B.decls.map Dp.row),SL B.tz B.tt (B.thrs.map Tp.row)],.bool false],?_,qi false fun h=>by cases h⟩;simp only[go_sem];exact I4 (by simp only[go_sem])
  .have f1:(eB==0)=false:=by simp[h0]
   refine Ag (by kernel_rfl) ?_;simp only[go_sem,f1,qm];refine Az ?_;simp only[go_sem];refine Az ?_;simp only[go_sem];refine⟨.tup [.agg [SL A.dz A.dt (A.decls.map Dp.row),SL A.tz A.tt (A.thrs.map Tp.row)],.agg [SL B.dz B.dt (B.decls.map Dp.row),SL B.tz B.tt (B.thrs.map Tp.row)],.bool false],?_,qi false fun h=>by cases h⟩;simp only[go_sem]
   exact I4 (by simp only[go_sem]))
def Ab3{p q:Gp}(hp:PY p):(Ju p q).length<=1000000000000:=by
 rw[Asj];have h1:(Gr (Gn p)).length=(Abn p).length:=Y8 p.thrs;have:=V6 hp.px;omega
set_option maxHeartbeats 4000000 in
def Aq6(z0 z1 z2:Bool)(t0 t1 t2:Nat)(a b c:List UInt8)(un:Bool)(ha:a.length<=9223372036854775807)(hb:b.length<=9223372036854775807)(hc:c.length<=9223372036854775807):Fn TT PT 3 [.agg [SL z0 t0 (Bh a),SL z1 t1 (Bh b),SL z2 t2 (Bh c),.bool un]] (.bool true):=by
 obtain⟨v,q1,A,B,ok,rfl,qn⟩:=Art z0 z1 z2 t0 t1 t2 a b c un ha hb hc;have qb:=F1 A;have qc:=F1 B;rw[qb,qc]at q1;refine Bn T3 rfl ?_;simp only[go_sem];refine Ad q1 (by simp only[go_sem]) ?_;simp only[go_sem];cases ok
 .refine Ag (by kernel_rfl) ?_;simp only[go_sem];refine A1 Vh (by simp only[go_sem]) ?_;simp only[go_sem];exact Ao rfl rfl
 .obtain⟨pA,pB,-⟩:=qn rfl;have g1:=Vq pA pB;have g2:=Za pA pB;have g3:=V7 true true 0 0 (Ju A B) (by have:=Ab3 (q:=B) pA;omega);have g4:=Vq pB pA;have g5:=Za pB pA;have g6:=V7 true true 0 0 (Ju B A) (by have:=Ab3 (q:=A) pB;omega);rw[qb,qc]at g1 g2 g4 g5;refine Ag (by kernel_rfl) ?_;simp only[go_sem];refine A1 g1 (by simp only[go_sem]) ?_;simp only[go_sem];refine A1 g2 (by simp only[go_sem]) ?_;simp only[go_sem];refine A1 g3 (by simp only[go_sem]) ?_;simp only[go_sem];refine A1 g4 (by simp only[go_sem]) ?_;simp only[go_sem];refine A1 g5 (by simp only[go_sem]) ?_;simp only[go_sem];refine A1 g6 (by simp only[go_sem]) ?_;simp only[go_sem];refine A1 Vh (by simp only[go_sem]) ?_;simp only[go_sem];exact Ao rfl rfl
set_option maxHeartbeats 4000000 in
def Ard(z0 z1 z2:Bool)(t0 t1 t2:Nat)(a b c:List UInt8)(un:Bool)(qg qo ch:Nat)(tw:Bool)(ha:a.length<=9223372036854775807)(hb:b.length<=9223372036854775807)(qt:qg<65536)(qu:ch<256):Fn TT PT 4 [.agg [SL z0 t0 (Bh a),SL z1 t1 (Bh b),SL z2 t2 (Bh c),.bool un],.int .u16 qg,.int .u16 qo,.int .u8 ch,.bool tw] (.bool true):=by
 obtain⟨P,q1,qa⟩:=Aec z0 t0 a ha;have qr:=qa.len;have q3:=Zn (Aao qa.sh) (by omega);obtain⟨E,q5,hd,hE⟩:=Ano qa z1 t1 b hb;obtain⟨qh,lE⟩:=Ap6 qa hd hE;have q6:=Zn qh (by omega);obtain⟨sp,q7,qC⟩:=Atf (Fy E) qg qo ch (by omega) qt qu;have ql:=F1 P;have Xs:=F1 E;rw[ql]at q1 q3 q5;rw[Xs]at q5 q6;refine Bn T4 rfl ?_;simp only[go_sem];refine Ad q1 (by simp only[go_sem]) ?_;simp only[go_sem];refine Ad q3 (by simp only[go_sem]) ?_;simp only[go_sem];refine Ag (by kernel_rfl) ?_;simp only[go_sem];refine A1 q1 (by simp only[go_sem]) ?_;simp only[go_sem];refine A1 q5 (by simp only[go_sem]) ?_;simp only[go_sem];refine A1 q6 (by simp only[go_sem]) ?_;simp only[go_sem];refine A1 q7 (by simp only[go_sem]) ?_;simp only[go_sem];have qB:(Fy P).length<=100000000000:=by omega
 generalize Fy P=S1 at *;refine Al1 (fun e s=>∃ (X Y:List UInt8),e=[(11,.str X),(12,.str Y)]/\s=[.row [SL z0 t0 (Bh a),SL z1 t1 (Bh b),SL z2 t2 (Bh c),.bool un] 24 0 0]) ?_ ?_
 .intro k' qd;cases tw
  .simp only[go_sem];exact qd _ _ ⟨S1,sp,rfl,rfl⟩
  .have a1:Ai .add S1 [116,104,114,101,97,100,32,109,97,105,110,40,41,32,123,32,120,32,61,32,49,59,32,125]=some (.str (S1++[116,104,114,101,97,100,32,109,97,105,110,40,41,32,123,32,120,32,61,32,49,59,32,125])):=Am (by simp;omega) rfl;have a2:Ai .add sp [116,104,114,101,97,100,32,109,97,105,110,40,41,32,123,32,120,32,61,32,49,59,32,120,32,61,32,50,59,32,125]=some (.str (sp++[116,104,114,101,97,100,32,109,97,105,110,40,41,32,123,32,120,32,61,32,49,59,32,120,32,61,32,50,59,32,125])):=Am (by simp;omega) rfl;simp only[go_sem,↓a1,↓a2];exact qd _ _ ⟨_,_,rfl,rfl⟩
 rintro _ _ ⟨X,Y,rfl,rfl⟩;obtain⟨v8,q8,qy⟩:=Sy X;obtain⟨A,eA,lA,rfl,qf,-⟩:=Aba qy;obtain⟨v9,q9,qz⟩:=Sy Y;obtain⟨B,eB,lB,rfl,qj,-⟩:=Aba qz;have qb:=F1 A;have qc:=F1 B;rw[qb]at q8;rw[qc]at q9;simp only[go_sem];refine Ad q8 (by simp only[go_sem]) ?_;simp only[go_sem];refine Ad q9 (by simp only[go_sem]) ?_;by_cases h0:eA=0;rotate_left
 .have f1:(eA != 0)=true:=by simp[h0]
  simp only[go_sem,f1];refine Ad Vh (by simp only[go_sem]) ?_;simp only[go_sem];exact Ao rfl rfl
 have f1:(eA != 0)=false:=by simp[h0]
 by_cases h1:eB=0;rotate_left
 .have f2:(eB != 0)=true:=by simp[h1]
  simp only[go_sem,f1,f2];refine Ad Vh (by simp only[go_sem]) ?_;simp only[go_sem];exact Ao rfl rfl
 have f2:(eB != 0)=false:=by simp[h1]
 have pA:=S7 (qf h0);have pB:=S7 (qj h1);have g1:=Vq pA pB;have g2:=Za pA pB;have g3:=V7 true true 0 0 (Ju A B) (by have:=Ab3 (q:=B) pA;omega);have g4:=Vq pB pA;have g5:=Za pB pA;have g6:=V7 true true 0 0 (Ju B A) (by have:=Ab3 (q:=A) pB;omega);rw[qb,qc]at g1 g2 g4 g5;simp only[go_sem,f1,f2];refine Ag (by kernel_rfl) ?_;simp only[go_sem];refine A1 g1 (by simp only[go_sem]) ?_;simp only[go_sem];refine A1 g2 (by simp only[go_sem]) ?_;simp only[go_sem];refine A1 g3 (by simp only[go_sem]) ?_;simp only[go_sem];refine A1 g4 (by simp only[go_sem]) ?_;simp only[go_sem];refine A1 g5 (by simp only[go_sem]) ?_;simp only[go_sem];refine A1 g6 (by simp only[go_sem]) ?_;simp only[go_sem];refine A1 Vh (by simp only[go_sem]) ?_;simp only[go_sem];exact Ao rfl rfl
