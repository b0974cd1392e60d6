/- Walks: entries that stand together are joined. -/
import Derived.Test.YtphikjgngompaacGreatDoorWh
set_option linter.all false
namespace Go.Proofs.YtphikjgngompaacGreatDoor.KM
open Go
def Adl{m:Nat}{xs:List (List V)}{i j:Nat}{r:List V}{c:V}(hl:∀ r∈xs,r.length=m)(hr:xs[i]?=some r)(hj:j<m):
  xs.flatten.take (i*m+j)++c::xs.flatten.drop (i*m+j+1)=(xs.set i (r.set j c)).flatten:=by
 obtain⟨hi,kP⟩:=An.1 hr;have qv:=hl r (Hg hr);have h1:=Aj7 (r:=r) hl hi qv;have h2:=Aj7 (r:=r.set j c) hl hi (by grind);rw[show xs.set i r=xs by grind[List.set_getElem_self]]at h1;rw[<-h2];have jY:=Gj hl
 have hA:(xs.flatten.take (i*m)).length=i*m:=by
  rw[Ic,jY];have:i*m<=xs.length*m:=E4 m AA;omega
 generalize xs.flatten.drop (i*m+m)=B at *;generalize xs.flatten.take (i*m)=A at *;rw[<-h1,List.set_eq_take_append_cons_drop,if_pos AA]
 have e1:(A++r++B).take (i*m+j)=A++r.take j:=by
  rw[Dm,List.take_append,hA,Ky AA,show i*m+j - i*m=j by omega,Agt AA]
 have e2:(A++r++B).drop (i*m+j+1)=r.drop (j+1)++B:=by
  rw[Dm,Ag1,hA,D4 AA,show i*m+j+1 - i*m=j+1 by omega,List.drop_append_of_le_length AA,Ct]
 grind
theorem A2b{O:List Ent}{x e:Ent}(h:¬ Bs x e<0):J4 (O++[x]) e=O++[Nt x e]:=by
 grind[J4]
theorem A2c{O:List Ent}{x e:Ent}(h:Bs x e<0):J4 (O++[x]) e=O++[x]++[e]:=by
 grind[J4]
set_option maxHeartbeats 2000000 in
def A4v(z:Bool)(t:Nat)(S:List Ent)(hn:S.length<=1000)(hs:∀ e∈S,e.sites.length<=1000):
  Fn TT PT 22 [SL z t (S.map Ent.row)] (SL true 0 ((S.foldl J4 []).map Ent.row)):=by
 have kb:(S.map Ent.row).length=S.length:=Av ..;refine Bg T22 rfl ?_;simp only[go_sem,kb]
 refine Bb (α:=Nat × V × St × List Ent) (fun a=>S.length - a.1) (fun a=>[(3,a.2.1),(7,SL z t (S.map Ent.row)),(8,iV (S.length:Int)),(9,iV (a.1:Int))]) (fun a=>a.2.2.1)
  (fun a=>a.1<=S.length/\a.2.2.2=(S.take a.1).foldl J4 []/\a.2.2.2.length<=a.1/\(∀ e∈a.2.2.2,e.sites.length<=1000)/\GW a.2.2.1 4 30 0 a.2.1 (a.2.2.2.map Ent.row)) ?_ (0,.nils,[],[]) ⟨As _,rfl,Am _,(fun e he=>by cases he),Dr⟩
 rintro⟨i,u,s,O⟩ ⟨hi,hO,ja,jC,hg⟩ ih;simp only at hi hO ja jC hg ih;refine Ay Bkf ?_;rcases Az i S.length with h | h;rotate_left
 .simp only[go_sem,Bj h];rw[Ky h]at hO;rw[<-hO];exact Sn hg AA (Ja _) (K1 _)
 obtain⟨e,he,-,qg⟩:=Bk h;have i1:IntKind.i64.wrap ((i:Int)+1)=((i+1:Nat):Int):=Aw AA;have kg:=hs e qg;have qn:(S.map Ent.row)[i]?=some (eR e e.sl):=by rw[Ak,he];rfl
 have kt:(S.take (i+1)).foldl J4 []=J4 O e:=by rw[Ld,he,Vj,List.foldl_append,<-hO];rfl
 have qf:∀ X:Ob,(s++[X])[s.length]?=some X:=fun X=>Tx _ _
 have ki:=Ix (l:=[eO e e.sl]) hg;obtain⟨v2,s3,e3,g3,-,-,-⟩:=Iz (bytes:=48) (y:=.lst 1 [(eR e e.sl)]) (ys:=[(eR e e.sl)]) ki (As _) rfl AA (Ja _) AE (by grind);rcases List.eq_nil_or_concat O with rfl | ⟨O,x,rfl⟩
 .have ky:=Bhq hg;simp only[go_sem,Aq h,qn,ky];refine Ad AD ?_;simp only[go_sem];simp only[go_sem,qf,e3,i1];exact Ai (ih (i+1,v2,s3,[e]) AA ⟨h,kt.symm,by simp,fun y hy=>by grind,g3⟩) rfl
 rw[List.concat_eq_append]at *;rcases hg with⟨-,hg⟩ | ⟨-,o,g,rfl,ho,-⟩
 .simp at hg
 have qT:((O++[x]).map Ent.row).length=O.length+1:=by simp
 rw[qT]at e3 ⊢;have hx:((O++[x]).map Ent.row)[O.length]?=some x.row:=by simp
 have kE:=Avp (e:=30) (g:=g) (z:=0) (Ja _) hx;have jN:=fun X:Ob=>Bt (l:=[X]) ho
 have f1:((0:Int)<((O.length+1:Nat):Int))=True:=eq_true AA;have ja:O.length+1<=i:=by simpa using ja
 have w1:IntKind.i64.wrap (((O.length+1:Nat):Int) - 1)=((O.length:Nat):Int):=by rw[Bo AA];omega
 have kC:=jC x AE;have gl:=Adu x e AA AA;simp only[Wh]at gl;simp only[go_sem,Aq h,qn];refine Ad AD ?_;simp only[go_sem,f1,w1,F3 (Vm O.length),jN,kE,qf];refine Ax gl AB ?_;by_cases jK:Bs x e<0
 .have f2:decide (Bs x e<0)=true:=decide_eq_true jK;simp only[go_sem,f2,qf,e3,i1];refine Ai (ih (i+1,v2,s3,O++[x]++[e]) AA ⟨h,by grind[A2c],by grind,fun y hy=>?_,?_⟩) rfl
  .grind
  grind
 have f2:decide (Bs x e<0)=false:=decide_eq_false jK;simp only[go_sem,f2];have hF:∀ L:List Ent,((L.map Ent.row).flatten).length=L.length*4:=fun L=>by rw[Gj (Ja L),Av]
 obtain⟨x2,qN⟩:∃ x2:Ent,x2={ x with seen:=max x.seen e.seen }:=⟨_,rfl⟩;have c2:=Afy (e:=30) (g:=g) (z:=0) (Zv (j:=2) (c:=iV x.seen) (Ja _) hx rfl);have q1:=Adl (j:=2) (c:=iV (max x.seen e.seen)) (Ja (O++[x])) hx AA;rw[show((O++[x]).map Ent.row).set O.length (x.row.set 2 (iV (max x.seen e.seen)))=(O++[x2]).map Ent.row by rw[qN];simp[Ent.row,Ent.sl]]at q1;have l1:(O.length*4+2+1<=((O++[x]).map Ent.row).flatten.length)=True:=eq_true (by grind);have kM:=(An.1 ho).1;have qO:=fun X:Ob=>Cf (l:=s++[eO e e.sl]) (i:=o) (a:=X) (by grind)
 have jW:∀ X:Ob,((s++[eO e e.sl]).set o X)[s.length]?=some (eO e e.sl):=fun X=>by grind
 have qX:=fun X Y:Ob=>Vp (l:=s++[eO e e.sl]) (i:=o) (a:=X) (b:=Y)
 have jS:((O++[x2]).map Ent.row)[O.length]?=some [iV x.kind,x.sl,iV (max x.seen e.seen),iV x.missed]:=by rw[qN];simp[Ent.row,Ent.sl]
 have c3:=Afy (e:=30) (g:=g) (z:=0) (Zv (j:=3) (c:=iV x.missed) (Ja _) jS rfl);have q3:=Adl (j:=3) (c:=iV (min x.missed e.missed)) (Ja (O++[x2])) jS AA;rw[show((O++[x2]).map Ent.row).set O.length (([iV x.kind,x.sl,iV (max x.seen e.seen),iV x.missed]:List V).set 3 (iV (min x.missed e.missed)))=(O++[Nt x e]).map Ent.row by simp[Ent.row,Ent.sl,Nt]]at q3;have l3:(O.length*4+3+1<=((O++[x2]).map Ent.row).flatten.length)=True:=eq_true (by grind);refine Ad AD ?_;simp only[go_sem,w1,F3 (Vm O.length),jN,c2,qf,l1,q1];refine Id (by repeat (first | exact trivial | refine⟨.inl AH,?_⟩ | refine⟨by rfl,?_⟩ | refine⟨.inr ⟨by rfl,by rfl⟩,?_⟩)) (by repeat (first | exact trivial | refine⟨.inl AH,?_⟩ | refine⟨by rfl,?_⟩ | refine⟨.inr ⟨by rfl,by rfl⟩,?_⟩)) ?_;simp only[go_sem];refine Ad AD ?_;simp only[go_sem,w1,F3 (Vm O.length),qO,jW,c3,l3,q3,qX];refine Id (by repeat (first | exact trivial | refine⟨.inl AH,?_⟩ | refine⟨by rfl,?_⟩ | refine⟨.inr ⟨by rfl,by rfl⟩,?_⟩)) (by repeat (first | exact trivial | refine⟨.inl AH,?_⟩ | refine⟨by rfl,?_⟩ | refine⟨.inr ⟨by rfl,by rfl⟩,?_⟩)) ?_;simp only[go_sem,i1];refine Ai (ih (i+1,.sl o g 0 (O.length+1) 4 true,_,O++[Nt x e]) AA ⟨h,by grind[A2b],by grind,fun y hy=>?_,.inr ⟨by simp,o,g,by simp,qO _,As _⟩⟩) rfl;rcases Cs.1 hy with hy | hy
 .grind
 .rw[Hh.1 hy];exact kC
def A2d{σ:St}{m e i g:Nat}{xs:List (List V)}{cs:List V}{c:Int}(ho:σ[i]?=some (.row xs.flatten e g 0))(hm:0<m)(hl:∀ r∈xs,r.length=m)(hr:∀ r∈xs,r.all V.rowB=true)(h1:cs.all V.rowB=true):
  FR (.tup [.agg cs,.sl i g 0 xs.length m true,iV c]) σ (.tup [.agg cs,.lst 0 xs,iV c]):=by
 obtain⟨hi,qe⟩:=An.1 ho;have hx:Ah xs.flatten=[]:=F0 (Hk hr);have h0:ren 0 [i] i=0:=by simp[ren,X1]
 refine .inr ⟨[i],?_,?_⟩
 .simp only[Hj,Cd,Ga,V.refs,Ah,F0 h1,B5,Dc,Uk h1,V.cellB,Bz,Ct]
  grind[Ej,Ob.refs]
 .simp only[Nv,ho,Rg,Bh,B0,Ob.ren,M6 i _ (Hk hr),V.ren,Fw,M6 i _ h1,h0,Eg,Iw];have ha:OV [Ob.row xs.flatten e g 0] (.agg cs) (.agg cs):=Ig h1;have hb:OV [Ob.row xs.flatten e g 0] (.sl 0 g 0 xs.length m true) (.lst 0 xs):=N8 (Ps (i:=0) (g:=g) (e:=e) (z:=0) (w:=true) rfl hm hl hr) rfl;have hc:OV [Ob.row xs.flatten e g 0] (iV c) (iV c):=Ig rfl;exact congrArg (Option.map V.tup) (R4 (.cons ha (.cons hb (.cons hc .nil))) fun j hj=>Mh _ _ _ _ (O9.2 hj))
def Bc2{σ:St}{m e lo:Nat}{u:V}{xs:List (List V)}{cs:List V}{c:Int}(h:GW σ m e lo u xs)(hm:0<m)(hl:∀ r∈xs,r.length=m)(hr:∀ r∈xs,r.all V.rowB=true)(h1:cs.all V.rowB=true):
  FR (.tup [.agg cs,u,iV c]) σ (.tup [.agg cs,SL true 0 xs,iV c]):=by
 rcases h with⟨rfl,rfl⟩ | ⟨hn,i,g,rfl,ho,qK⟩
 .exact Fq (by simp only[B5,Dc,De,h1];rfl)
 .rw[Sm hn];exact A2d ho hm hl hr h1
def Mr(K:List Bp)(M:List Int)(J:List Bp)(E:List Ent):List Ent:=(E.filter fun e=>(Jr K M J e).isNone).map Ent.own
def Fj(K:List Bp)(M:List Int)(J:List Bp)(E:List Ent):List Ent:=E.filterMap (Jr K M J)
def Azs(n:Int)(X L:List Ent):V:=.tup [.agg [iV n,SL true 0 (X.map Ent.row)],SL true 0 (L.map Ent.row),iV 0]
def Azt:V:=.tup [.agg [iV 0,.nils],.nils,iV 1]
def Atb{K:List Bp}{M:List Int}{J:List Bp}{E:List Ent}{i:Nat}{e:Ent}(h:E[i]?=some e):Fj K M J (E.take (i+1))=Fj K M J (E.take i)++(Jr K M J e).toList:=by
 grind[Fj,List.take_add_one]
def Atc{K:List Bp}{M:List Int}{J:List Bp}{E:List Ent}{i:Nat}{e:Ent}(h:E[i]?=some e):Mr K M J (E.take (i+1))=Mr K M J (E.take i)++if(Jr K M J e).isNone then [e.own] else []:=by
 grind[Mr,List.take_add_one]
def Y7{K:List Bp}{M:List Int}{J:List Bp}{e y:Ent}(h:Jr K M J e=some y):y.own=y/\y.sites.length=e.sites.length:=by
 unfold Jr at h
 cases hr:Ft K M e.sites with
 | none=>grind
 | some r=>
  rw[hr]at h;have h:=Nz h;subst h;refine⟨rfl,?_⟩
  grind[Ai5,Vu]
def Aj9(K:List Bp)(M:List Int)(J:List Bp)(E:List Ent):Lc (Fj K M J E):=fun y hy=>by
 obtain⟨e,-,he⟩:=Xz.1 hy;exact(Y7 he).1
theorem Aka(K:List Bp)(M:List Int)(J:List Bp)(E:List Ent):(Fj K M J E).length<=E.length:=List.length_filterMap_le _ _
theorem Akb(K:List Bp)(M:List Int)(J:List Bp)(E:List Ent):(Mr K M J E).length<=E.length:=by
 grind[Mr]
def Al8(N:Nat):Prop:=∀ {s:St},Cl s->∀ {i g:Nat} {w:Bool} (L:List Ent),L.length<=N->s[i]?=some (.row (Aav L) 30 g 0)->(∀ e∈L,e.sites.length<=1000) ->
  ∃ s',Th TT PT 19 [.sl i g 0 L.length 4 w,.fn 20 [] []] s (.tup []) s'/\∃ D:List Ent,D.Perm L/\Ec Dk Ent.ks D/\s'=s.set i (.row (Aav D) 30 g 0)
set_option maxHeartbeats 4000000 in
def A4w{p q:Gp}(hp:PY p)(hq:PY q)(hM:∀ x∈Gl p q,x<((Cq q).length:Int))(z:Bool)(t:Nat)(n:Int)(E:List Ent)(hE:E.length<=900)(jn:Al8 E.length)(hs:∀ e∈E,e.sites.length<=1000/\e.sites≠[])(ho:I6 E)(hv:Hr n E=true)(hK:(Cq p).length<=1000000000000):
  Fn TT PT 6 [.agg [iV n,SL z t (E.map Ent.row)],.agg p.row,.agg q.row] (Azs n ((Fj (Cq p) (Gl p q) (Cq q) E).foldl Db []) (Mr (Cq p) (Gl p q) (Cq q) E)):=by
 have g0:=As3 z t n E ho;rw[hv]at g0;have g1:=Aqc hp hq;have qC:(Gl p q).length=(Cq p).length:=by rw[Acy];exact Ao0 p q
 have g2:=fun(e:Ent) (he:e∈E)=>A8j hp.px hq.px (Gl p q) qC hM e (hs e he).1 (hs e he).2 hK
 have qM:=Ef p;have jk:=Ef q;rw[qM]at g1 g2 ⊢;rw[jk]at g1 g2 ⊢;generalize Cq p=K at *;generalize Cq q=J at *;generalize Gl p q=M at *;have qm:(E.map Ent.row).length=E.length:=Av ..;refine Bg T6 rfl ?_;simp only[go_sem];refine Ab g0 AB ?_;simp only[go_sem];refine Ab g1 AB ?_;simp only[go_sem,qm];obtain⟨σ0,jp⟩:∃ σ0:St,σ0=[.row [iV n,SL z t (E.map Ent.row)] 27 0 0,gO p,gO q,.row [iV 0,.nils] 27 0 0]:=⟨_,rfl⟩
 refine Bb (α:=Nat × V × V × St) (fun a=>E.length - a.1) (fun a=>[(4,.ptr 1 0 0),(5,.ptr 2 0 0),(6,.ptr 3 0 0),(9,SL true 0 (Ao M)),(10,.ptr 4 0 0),(11,a.2.2.1),(27,SL z t (E.map Ent.row)),(28,iV (E.length:Int)),(29,iV (a.1:Int))]) (fun a=>a.2.2.2)
  (fun a=>a.1<=E.length/\(∀ j,j<4->a.2.2.2[j]?=σ0[j]?)/\a.2.2.2[4]?=some (.row [iV n,a.2.1] 27 0 0)/\Cl a.2.2.2/\GW a.2.2.2 4 30 5 a.2.1 ((Fj K M J (E.take a.1)).map Ent.row)/\GW a.2.2.2 4 30 5 a.2.2.1 ((Mr K M J (E.take a.1)).map Ent.row)/\∀ j∈a.2.1.refs,j ∉ a.2.2.1.refs) ?_ (0,.nils,.nils,_) ⟨As _,fun j hj=>by grind,rfl,(by intro ob qA j hj;simp only[B7,Qi,or_false]at qA;rcases qA with rfl | rfl | rfl | rfl | rfl<;>simp[Ob.refs,Ah,V.refs,Qk (Hq _ _ _)]at hj),Dr,Dr,fun j hj=>by grind[V.refs]⟩
 rintro⟨i,uE,uL,s⟩ ⟨hi,hf,h4,qc,qa,qb,qR⟩ ih;simp only at hi hf h4 qc qa qb qR ih;refine Ay Bn0 ?_;have e1:=hf 1 AA;have e2:=hf 2 AA;have e3:=hf 3 AA;rw[jp]at e1 e2 e3;simp only[Te,O7]at e1 e2 e3;have jQ:=(An.1 h4).1;have qU:=Akb K M J (E.take i);have qV:=Aka K M J (E.take i);rw[Ic]at qU qV;rcases Az i E.length with h | h
 .obtain⟨e,he,-,qg⟩:=Bk h;have i1:IntKind.i64.wrap ((i:Int)+1)=((i+1:Nat):Int):=Aw AA;have qn:(E.map Ent.row)[i]?=some (eR e e.sl):=by rw[Ak,he];rfl
  have gc:=g2 e qg;have qi:=Atb (K:=K) (M:=M) (J:=J) he;have qh:=Atc (K:=K) (M:=M) (J:=J) he;simp only[Wh]at gc;have gA:∀ (j:Nat) (o:Ob) (X:St),s[j]?=some o->(s++X)[j]?=some o:=fun j o X h=>Bt h
  cases qr:Jr K M J e with
  | none=>
   rw[qr]at gc qi qh;unfold Am3 at gc;simp only at gc;simp only[go_sem,Aq h,qn,gA _ _ _ e1,gA _ _ _ e2];refine Ab gc AB ?_;simp only[go_sem];have jV:Fn TT PT 18 [e.sl] (SL true 0 (e.sites.map Bl)):=A8a e.z e.t e.sites (hs e qg).2 (by grind);refine Ab jV AB ?_;obtain⟨u2,s2,a1,g5,l5,k5,r5,c5⟩:=Ml (bytes:=48) (y:=.lst 1 [(eR e (SL true 0 (e.sites.map Bl)))]) (ys:=[(eR e (SL true 0 (e.sites.map Bl)))]) (Ix (l:=[eO e (SL true 0 (e.sites.map Bl)),Ob.row [iV 0,.nils,iV 0,iV 0] 30 0 0]) qb) (by grind) rfl AA (Ja _) AE (K1 [e.own]) (by grind);simp only[go_sem,a1,i1];have hk:∀ j,j<s.length->j ∉ uL.refs->s2[j]?=s[j]?:=fun j h1 h2=>by grind
   have qq:∀ j,j<5->j ∉ uL.refs:=fun j hj hm=>by have:=(C8 qb j hm).1;omega
   refine Ai (ih (i+1,uE,u2,s2) AA ⟨h,fun j hj=>(hk j AA (qq j AA)).trans (hf j hj),(hk 4 AA (qq 4 AA)).trans h4,c5 ?_,?_,?_,fun j hj hm=>?_⟩) rfl
   .have:=Ui (t:=30) (cs:=[iV 0,.nils,iV 0,iV 0]) (Ui (t:=30) qc (K1 [e.own] _ Cz)) rfl;rw[Dm]at this;exact this
   .simp only;rw[qi];simp only[Option.toList_none,Bz];exact Gt qa fun j hj=>hk j (F9 qa j hj) (qR j hj)
   .simp only;rw[qh];simp only[Option.isNone_none,if_pos,Fm];exact g5
   .rcases r5 j hm with h1 | h1
    .grind
    .have:=F9 qa j hj
     grind
  | some y=>
   rw[qr]at gc qi qh;unfold Am3 at gc;simp only[Wh]at gc;obtain⟨u2,s2,a1,g5,l5,k5,r5,c5⟩:=Ml (bytes:=48) (y:=.lst 1 [(eR y y.sl)]) (ys:=[(eR y y.sl)]) (Ix (l:=[eO e e.sl,eO y y.sl]) qa) (by grind) rfl AA (Ja _) AE (K1 [y]) (by grind);have hk:∀ j,j<s.length->j ∉ uE.refs->s2[j]?=s[j]?:=fun j h1 h2=>by grind
   have qq:∀ j,j<5->j ∉ uE.refs:=fun j hj hm=>by have:=(C8 qa j hm).1;omega
   have jx:=(hk 4 AA (qq 4 AA)).trans h4;have cu:=Ok (B8 g5);have cv:=B8 g5;simp only[go_sem,Aq h,qn,gA _ _ _ e1,gA _ _ _ e2];refine Ab gc AB ?_;simp only[go_sem,gA _ _ _ h4,a1,jx,cu,cv,i1];refine Ai (ih (i+1,u2,uL,_) AA ⟨h,fun j hj=>?_,Cf (An.1 jx).1,F4 (c5 ?_) ?_,?_,?_,fun j hj hm=>?_⟩) rfl
   .simp only;rw[B4 AA]
    grind
   .have:=Ui (t:=30) (Ui (t:=30) qc (K1 [e] _ Cz)) (K1 [y] _ Cz);rw[Dm]at this;exact this
   .intro j hj;exact F9 g5 j (by simpa[Ob.refs,Ah,V.refs] using hj)
   .simp only;rw[qi];simp only[Vj,Fm];exact Dw g5 AA
   .simp only;rw[qh];simp only[Option.isNone_some,Hz,if_false,Bz];exact Dw (Gt qb fun j hj=>hk j (F9 qb j hj) fun h1=>qR j h1 hj) AA
   .rcases r5 j hj with h1 | h1
    .grind
    .have:=F9 qb j hm
     grind
 have qI:i=E.length:=by omega
 subst qI;rw[Dh]at qa qb qU qV;have jb:=Aj9 K M J E
 have qQ:∀ y∈Fj K M J E,y.sites.length<=1000:=fun y hy=>by
  obtain⟨e,qg,he⟩:=Xz.1 hy;rw[(Y7 he).2]
  grind
 generalize Fj K M J E=X at *;generalize Mr K M J E=Y at *
 obtain⟨s1,s2,c1,c2,hk⟩:∃ s1 s2,CallS TT PT 19 [uE,.fn 20 [] []] s (.tup []) s1/\CallS TT PT 22 [uE] s1 (SL true 0 ((X.foldl Db []).map Ent.row)) s2/\∀ j,j ∉ uE.refs->s1[j]?=s[j]?/\s2[j]?=s[j]?:=by
  have jT:∀ (s1:St) (D:List Ent),D.Perm X->Ec Dk Ent.ks D->GW s1 4 30 5 uE (D.map Ent.row)->∃ s2,CallS TT PT 22 [uE] s1 (SL true 0 ((X.foldl Db []).map Ent.row)) s2/\∀ j,j ∉ uE.refs->s2[j]?=s1[j]?:=fun s1 D hp hl hg=>by
   have gm:=A4v true 0 D (by rw[hp.length_eq];omega) fun e he=>qQ e (hp.mem_iff.1 he)
   rw[A72 jb hp hl]at gm;obtain⟨s2,ha,-,kh⟩:=Aqi hg (K1 _) (args:=[uE]) (v:=SL true 0 ((X.foldl Db []).map Ent.row)) (by simp[Ah]);refine⟨s2,?_,kh⟩;rw[<-ha];exact .pure (Adr (.cons (N8 (J3 hg AA (Ja _) (K1 _)) (B8 hg)) .nil)) gm
  rcases qa with⟨rfl,qD⟩ | ⟨qD,o,g,rfl,qe,qK⟩
  .have qD:X=[]:=by simpa using qD
   subst qD;obtain⟨s1,h1,rfl⟩:=A4u qc;obtain⟨s2,h2,h3⟩:=jT s1 [] (.refl _) .nil Dr;exact⟨s1,s2,.thr h1,h2,fun j hj=>⟨rfl,h3 j hj⟩⟩
  .rw[Av]at *;obtain⟨s1,h1,D,hp,hl,rfl⟩:=jn qc (w:=true) X AA qe qQ
   obtain⟨s2,h2,h3⟩:=jT _ D hp hl (.inr ⟨fun e=>qD (by
    simp_all),o,g,by rw[Av,hp.length_eq],Cf (An.1 qe).1,qK⟩)
   refine⟨_,s2,.thr h1,h2,fun j hj=>?_⟩
   grind[V.refs]
 have qY:∀ j,j<5->j ∉ uE.refs:=fun j hj hm=>by have:=(C8 qa j hm).1;omega
 have q4:=(hk 4 (qY 4 AA)).1.trans h4;have r4:=(hk 4 (qY 4 AA)).2.trans h4;have r3:=(hk 3 (qY 3 AA)).2.trans e3;simp only[go_sem,Bj h,h4];refine Jz c1 ?_;simp only[go_sem,q4];refine Jz c2 ?_;have w4:=fun X:Ob=>Cf (a:=X) (An.1 r4).1
 have w3:∀ X:Ob,(s2.set 4 X)[3]?=some (.row [iV 0,.nils] 27 0 0):=fun X=>(B4 AA).trans r3
 have kG:=fun X Z:Ob=>Cf (l:=s2.set 4 X) (i:=3) (a:=Z) (by grind)
 simp only[go_sem,r4,w4,w3,kG];refine Bc2 (Dw (Dw (Gt qb fun j hj=>(hk j fun h1=>qR j h1 hj).2) AA) AA) AA (Ja _) (K1 _) ?_;simp only[B5,Dc,Hq];rfl
def A8l{N:Nat}(hN:N<=1000):Al8 N:=by
 intro s hc i g w L hL hi hs;have qy:=(An.1 hi).1;obtain⟨s1,h1,h2⟩:=A8k hc (i:=i) (g:=g) (w:=w) qy AA L rfl hs (n:=L.length);rw[show Cm s i g L=s from N3 hi]at h1
 refine Qz T19 rfl ?_ rfl rfl (fun s' h=>by
  obtain⟨D,-,-,rfl⟩:=h
  grind[As9])
 simp only[go_sem];refine Bv h1 ?_;simp only[go_sem];exact⟨rfl,h2⟩
def Bc3{σ:St}{m e lo:Nat}{u:V}{xs:List (List V)}(h:GW σ m e lo u xs)(hm:0<m)(hl:∀ r∈xs,r.length=m)(hr:∀ r∈xs,r.all V.rowB=true)(b:Bool):
  FR (.tup [u,.bool b]) σ (.tup [SL true 0 xs,.bool b]):=by
 rcases h with⟨rfl,rfl⟩ | ⟨hn,i,g,rfl,ho,qK⟩
 .exact Fq rfl
 rw[Sm hn];obtain⟨hi,qe⟩:=An.1 ho;have hx:Ah xs.flatten=[]:=F0 (Hk hr);have h0:ren 0 [i] i=0:=by simp[ren,X1]
 refine .inr ⟨[i],?_,?_⟩
 .simp only[Hj,Cd,Ga,V.refs,Ah,B5,Dc,V.cellB,Bz,Ct]
  grind[Ej,Ob.refs]
 .simp only[Nv,ho,Rg,Bh,B0,Ob.ren,M6 i _ (Hk hr),V.ren,Fw,h0,Eg,Iw];have hb:OV [Ob.row xs.flatten e g 0] (.sl 0 g 0 xs.length m true) (.lst 0 xs):=N8 (Ps (i:=0) (g:=g) (e:=e) (z:=0) (w:=true) rfl hm hl hr) rfl;have hc:OV [Ob.row xs.flatten e g 0] (.bool b) (.bool b):=Ig rfl;exact congrArg (Option.map V.tup) (R4 (.cons hb (.cons hc .nil)) fun j hj=>Mh _ _ _ _ (O9.2 hj))
def Am4:Option (List Nat)->V
 | some r=>.tup [SL true 0 (Ao (r.map fun n:Nat=>(n:Int))),.bool true]
 | none=>.tup [.nils,.bool false]
set_option maxHeartbeats 4000000 in
def A8m{p:Gp}(hp:PX p)(M:List Int)(qC:M.length=(Cq p).length)(e:Ent)(hs:e.sites.length<=1000)(hK:(Cq p).length<=1000000000000):
  Fn TT PT 26 [.agg e.row,.agg p.row,SL true 0 (Ao M)] (Am4 (Ft (Cq p) M e.sites)):=by
 have gs:=fun k=>A4d hp k hK
 have qM:=Ef p;rw[qM]at gs ⊢;generalize Cq p=K at *;have jB:=F8 M;have kf:(e.sites.map Bl).length=e.sites.length:=Av ..
 have qs:∀ (j:Nat) (k:Bp),e.sites[j]?=some k->Lx 3 e.sl (iV (j:Int))=some (.imm (kR k) 0):=fun j k hk=>by
  simp_all [Bl,Ent.sl,Aed,Ajg]
 have je:Ly e.sl=some (iV (e.sites.length:Int)):=by unfold Ent.sl;rw[Z2,kf]
 refine Bg T26 rfl ?_;unfold Ent.row;simp only[go_sem,je]
 refine Bb (α:=Nat × V × St × List Nat) (fun a=>e.sites.length - a.1) (fun a=>[(2,SL true 0 (Ao M)),(4,.ptr 1 0 0),(8,a.2.1),(13,e.sl),(14,iV (e.sites.length:Int)),(15,iV (a.1:Int))]) (fun a=>a.2.2.1)
  (fun a=>a.1<=e.sites.length/\Ft K M (e.sites.take a.1)=some a.2.2.2/\a.2.2.1[1]?=some (gO p)/\GW a.2.2.1 1 3 2 a.2.1 (Ao (a.2.2.2.map fun n:Nat=>(n:Int)))) ?_ (0,.nils,_,[]) ⟨As _,rfl,rfl,Dr⟩
 rintro⟨i,u,s,r⟩ ⟨hi,hc,e1,hg⟩ ih;simp only at hi hc e1 hg ih;refine Ay Bkp ?_;rcases Az i e.sites.length with h | h;rotate_left
 .have qI:i=e.sites.length:=by omega
  subst qI;rw[Dh]at hc;rw[hc];simp only[go_sem,Bj h];exact Bc3 hg AA (Ie _) (Ph _) true
 obtain⟨k,hk,-,kl⟩:=Bk h;have i1:IntKind.i64.wrap ((i:Int)+1)=((i+1:Nat):Int):=Aw AA;have jR:e.sites.take (i+1)=e.sites.take i++[k]:=by rw[Ld,hk];rfl
 have hA:∀ X,(s++[X])[1]?=some (gO p):=fun X=>Bt e1
 have qx:=gs k;unfold sI at qx;have qo:Gk K M k=none->Ft K M e.sites=none:=fun h1=>Aca.2 ⟨k,kl,h1⟩
 have next:Ft K M (e.sites.take (i+1))=(Gk K M k).map fun n=>r++[n]:=by rw[jR,Ahl,hc,C5]
 have jQ:=(An.1 e1).1
 cases hsn:Lr K k with
 | none=>
  have qH:Gk K M k=none:=by unfold Gk;rw[hsn]
  rw[hsn]at qx;rw[qo qH];simp only[go_sem,Aq h,qs i k hk,hA];refine Ab qx AB ?_;simp only[go_sem];exact Fq AH
 | some s'=>
  rw[hsn]at qx;have jm:s'<M.length:=by rw[qC];exact(An.1 (Vt.1 hsn).1).1
  obtain⟨m,hm,-,qi⟩:=Bk jm;have jL:(Ao M)[s']?=some [iV m]:=by unfold Ao;rw[Ak,hm];rfl
  have jF:M.getD s' (-1)=m:=by rw[Fl,hm];rfl
  have f3:((s':Int)<0)=False:=eq_false AA;by_cases ql:m<0
  .have f5:(m<0)=True:=eq_true ql;have qH:Gk K M k=none:=by unfold Gk;rw[hsn];simp only[jF];rw[if_pos ql]
   rw[qo qH];simp only[go_sem,Aq h,qs i k hk,hA];refine Ab qx AB ?_;simp only[go_sem,f3,jB,Aq jm,jL,f5];exact Fq AH
  .have f5:(m<0)=False:=eq_false ql;have qH:Gk K M k=some m.toNat:=by unfold Gk;rw[hsn];simp only[jF];rw[if_neg ql]
   rw[qH]at next
   have qv:=Vu hc;rw[Ic]at qv;obtain⟨v2,s3,jU,g3,l3,-,k3⟩:=Iz (bytes:=8) (y:=.lst 1 [[iV m]]) (ys:=[[iV m]]) (Ix (l:=[Ob.row (kR k) 57 0 0]) hg) (by grind) rfl AA (Ie _) AE (by grind[F8]);simp only[go_sem,Aq h,qs i k hk,hA];refine Ab qx AB ?_;simp only[go_sem,f3,jB,Aq jm,jL,f5,jU,i1];refine Ai (ih (i+1,v2,s3,r++[m.toNat]) AA ⟨h,next,(k3 1 AA).trans (hA _),?_⟩) rfl;simp only;rw[Fm,Acx,Bh,B0,Abo AA];exact g3
def Bc4{J:List Bp}{L:List Int}(hL:∀ x∈L,0<=x/\x<(J.length:Int))(kJ:L.length<=1000)(hJ:J.length<=1000000000000){s0:St}{z:Bool}{t:Nat}{p4 p6 p9 jq js jt ju jv:V}
  {kd sn ms:Int} {k0:List It} {Q:Env->St->Prop}
  (jf:∀ (u:V) (s:St),(∀ i,i<s0.length->s[i]?=s0[i]?)->s[s0.length]?=some (.row [iV kd,u,iV sn,iV ms] 30 0 0)->GW s 3 57 (s0.length+1) u ((L.map fun x=>J.getD x.toNat kz).map Bl)->(Cl s0->Cl s)->W TT PT k0 [(4,p4),(6,p6),(9,p9),(10,SL true 0 (J.map Bl)),(11,jq),(12,js),(17,.ptr s0.length 0 0),(36,jt),(37,ju),(38,jv),(86,SL z t (Ao L)),(87,iV (L.length:Int)),(88,iV (L.length:Int))] s Q) :
  W TT PT (.l [4,6,9,10,11,12,17,36,37,38,86,87,88] lp7_0::.b 3::k0) [(4,p4),(6,p6),(9,p9),(10,SL true 0 (J.map Bl)),(11,jq),(12,js),(17,.ptr s0.length 0 0),(36,jt),(37,ju),(38,jv),(86,SL z t (Ao L)),(87,iV (L.length:Int)),(88,iV 0)] (s0++[.row [iV kd,.nils,iV sn,iV ms] 30 0 0]) Q:=by
 have kI:(J.map Bl).length=J.length:=Av ..
 refine Bb (α:=Nat × V × St) (fun a=>L.length - a.1) (fun a=>[(4,p4),(6,p6),(9,p9),(10,SL true 0 (J.map Bl)),(11,jq),(12,js),(17,.ptr s0.length 0 0),(36,jt),(37,ju),(38,jv),(86,SL z t (Ao L)),(87,iV (L.length:Int)),(88,iV (a.1:Int))]) (fun a=>a.2.2)
  (fun a=>a.1<=L.length/\(∀ i,i<s0.length->a.2.2[i]?=s0[i]?)/\a.2.2[s0.length]?=some (.row [iV kd,a.2.1,iV sn,iV ms] 30 0 0)/\GW a.2.2 3 57 (s0.length+1) a.2.1 (((L.take a.1).map fun x=>J.getD x.toNat kz).map Bl)/\(Cl s0->Cl a.2.2)) ?_ (0,.nils,_) ⟨As _,fun i hi=>Ex hi,Tx _ _,Dr,fun h=>Ui h rfl⟩
 rintro⟨j,u,s⟩ ⟨hj,hk,ho,hg,qc⟩ jh;simp only at hj hk ho hg qc jh;refine Ay Bn1 ?_;rcases Az j L.length with h | h;rotate_left
 .have kj:j=L.length:=by omega
  subst kj;rw[Dh]at hg;simp only[go_sem,Bj h];exact jf u s hk ho hg qc
 obtain⟨x,hx,-,kA⟩:=Bk h;obtain⟨jo,kQ⟩:=hL x kA;obtain⟨r,rfl⟩:∃ r:Nat,x=r:=⟨x.toNat,by omega⟩;obtain⟨k,jJ,-,-⟩:=Bk (l:=J) (i:=r) AA;have j1:IntKind.i64.wrap ((j:Int)+1)=((j+1:Nat):Int):=Aw AA;have ji:=(An.1 ho).1;have km:(J.map Bl)[r]?=some (kR k):=by rw[Ak,jJ];rfl
 have jR:((L.take (j+1)).map fun x=>J.getD x.toNat kz).map Bl=((L.take j).map fun x=>J.getD x.toNat kz).map Bl++[(kR k)]:=by
  rw[Ld,hx];simp only[Vj,Fm,Bh,B0,Mv,Fl,jJ];rfl
 obtain⟨u2,s5,e5,g5,l5,k5,-,c5⟩:=Ml (bytes:=40) (y:=.lst 1 [(kR k)]) (ys:=[(kR k)]) hg AA rfl AA (Le _) AE (Ql [k]) (by grind);have kr:∀ i,i<s0.length+1->i ∉ u.refs:=fun i hi hm=>by have:=(C8 hg i hm).1;omega
 have jM:=(k5 s0.length ji (kr _ AA)).trans ho;have cu:=Ok (B8 g5);have cv:=B8 g5;have kB:(Ao L)[j]?=some [iV (r:Int)]:=by unfold Ao;rw[Ak,hx];rfl
 simp only[go_sem,Aq h,kB];refine Ad AD ?_;simp only[go_sem,ho,km,e5];refine Id (by repeat (first | exact trivial | refine⟨.inl AH,?_⟩ | refine⟨by rfl,?_⟩ | refine⟨.inr ⟨by rfl,by rfl⟩,?_⟩)) (by repeat (first | exact trivial | refine⟨.inl AH,?_⟩ | refine⟨by rfl,?_⟩ | refine⟨.inr ⟨by rfl,by rfl⟩,?_⟩)) ?_;simp only[go_sem,jM,cu,cv];refine Id (by repeat (first | exact trivial | refine⟨.inl AH,?_⟩ | refine⟨by rfl,?_⟩ | refine⟨.inr ⟨by rfl,by rfl⟩,?_⟩)) (by repeat (first | exact trivial | refine⟨.inl AH,?_⟩ | refine⟨by rfl,?_⟩ | refine⟨.inr ⟨by rfl,by rfl⟩,?_⟩)) ?_;simp only[go_sem,j1];refine Ai (jh (j+1,u2,_) AA ⟨h,fun i hi=>?_,Cf (An.1 jM).1,?_,fun hc=>F4 (c5 (qc hc)) ?_⟩) rfl
 .grind
 .grind[Dw]
 .intro i hi;exact F9 g5 i (by grind[Ob.refs,Ah,V.refs])
def A8n{s:St}{lo kF:Nat}{u w:V}{L:List (V × Ent)}{Y:List Ent}(h:NG s lo u L)(hw:GW s 4 30 kF w (Y.map Ent.row)):
  (∀ j∈u.refs,j ∉ w.refs)/\∀ p∈L,∀ j∈p.1.refs,j ∉ w.refs:=by
 obtain⟨h1,h2⟩:=h;refine⟨fun j hj hm=>?_,fun p hp j hj hm=>?_⟩
 .rcases h1 with⟨rfl,-⟩ | ⟨hn,o,g,rfl,ho,-⟩
  .grind[V.refs]
  rcases hw with⟨rfl,-⟩ | ⟨-,o',g',rfl,qe,-⟩
  .grind[V.refs]
  simp[V.refs]at hj hm;subst hj hm;rw[ho]at qe
  have h3:(L.map Fb).flatten=(Y.map Ent.row).flatten:=by
   simp only[Abt,Ob.row.injEq]at qe;exact qe.1
  match L,hn with
  | p::L,_=>
   have h4:=congrArg Ah h3;rw[A4e]at h4;rcases(h2 p Cz).2 with⟨-,h5⟩ | ⟨-,ib,gb,h5,-⟩
   .simp_all
   grind[Fb,Ah,V.refs]
 .rcases(h2 p hp).2 with⟨h5,-⟩ | ⟨-,ib,gb,h5,ho,-⟩
  .grind[V.refs]
  rcases hw with⟨rfl,-⟩ | ⟨-,o',g',rfl,qe,-⟩
  .grind[V.refs]
  grind[V.refs]
def Afd{s s':St}{lo:Nat}{u:V}{L:List (V × Ent)}(h:NG s lo u L)(h1:∀ j∈u.refs,s'[j]?=s[j]?)(h2:∀ p∈L,∀ j∈p.1.refs,s'[j]?=s[j]?):NG s' lo u L:=
 ⟨Gt h.1 h1,fun p hp=>⟨(h.2 p hp).1,Gt (h.2 p hp).2 (h2 p hp)⟩⟩
def Bm7{s:St}{lo:Nat}{u:V}{L:List (V × Ent)}(h:NG s lo u L):(∀ j∈u.refs,j<s.length)/\∀ p∈L,∀ j∈p.1.refs,j<s.length:=⟨F9 h.1,fun p hp=>F9 (h.2 p hp).2⟩
def A4x{out:List Ent}{y:Ent}(h:∀ x∈out,x.sites.length<=1000)(hy:y.sites.length<=1000):∀ x∈Db out y,x.sites.length<=1000:=by
 unfold Db
 split
 .intro x hx;obtain⟨i,hi⟩:=List.mem_iff_getElem?.1 hx;rw[List.getElem?_modify]at hi
  cases hg:out[i]? with
  | none=>grind
  | some y0=>
   rw[hg]at hi;have hm:=h y0 (Hg hg);simp only[Option.map_eq_map,I9,Abt]at hi;rw[<-hi]
   split<;>exact hm
 grind
def Ahv:∀ {L out:List Ent},(∀ x∈out,x.sites.length<=1000)->(∀ x∈L,x.sites.length<=1000)->∀ x∈L.foldl Db out,x.sites.length<=1000
 | [],_,h,_=>h
 | e::L,out,h,hs=>Ahv (L:=L) (out:=Db out e) (A4x h (hs e Cz)) fun x hx=>hs x (Dl _ hx)
theorem Bc5(out:List Ent)(y:Ent):(Db out y).length<=out.length+1:=by
 grind[Db]
theorem Ai8:∀ (L out:List Ent),(L.foldl Db out).length<=out.length+L.length
 | [],_=>Am _
 | e::L,out=>by
  have h1:=Ai8 L (Db out e)
  grind[Bc5]
theorem A8o{out:List Ent}{y:Ent}(h:Lg y out=false):Db out y=out.take (Gc y out)++y::out.drop (Gc y out):=by
 simp_all [Db]
def A8p{out:List Ent}{y:Ent}(h:Lg y out=true):Db out y=out.modify (Gc y out) (fun x=>Nt x y):=by
 simp_all [Db]
def Axl{s:St}{ob k:Nat}{a b c d:V}{e:Env}{x:Nat}(q:s[ob]?=some (.row [a,b,c,d] k 0 0))(he:e.get x=.ptr ob 0 3:=by rfl):Af (.load 1 true (.t x)) e s=some (d,s):=by
 simp only[Af,Ac,he,H3,q];rfl
def Bm8{τ:St}{i x y y2 t:Nat}{a b u:V}{e:Env}{k:IntKind}{c:Int}(h:τ[i]?=some (.row [a,b] t 0 0))(h1:e.get x=.ptr i 0 0)(h2:e.get y=u)(hu:u.cellB=true)(h3:e.get y2=.int k c):Ca e τ [AR.cell x 2 false,AR.tmp y,AR.tmp y2]=some (.tup [.agg [a,b],u,.int k c]):=by
 simp only[Ca,Jv,Abz,Gr,h1,h2,h3,H3,h]
 cases u<;>first | rfl | cases hu
def A4y(a b:Int):Jk [a,b]=[min a b,max a b]:=by
 have hp:=Ao5 [a,b];have hs:=A4p [a,b];have hl:=Acq [a,b]
 match hq:Jk [a,b],hl with
 | [x,y],_=>
  rw[hq]at hp hs;have h1:x<=y:=by simpa using hs
  have hx:x∈[a,b]:=hp.mem_iff.1 AE;have hy:y∈[a,b]:=hp.mem_iff.1 AE;have ha:a∈[x,y]:=hp.mem_iff.2 AE;have hb:b∈[x,y]:=hp.mem_iff.2 AE
  grind
set_option maxHeartbeats 4000000 in
def Bc6{p q:Gp}(hp:PY p)(hq:PY q)(hM:∀ x∈Gl p q,x<((Cq q).length:Int))(z:Bool)(t:Nat)(n:Int)(E:List Ent)(hE:E.length<=900)(hs:∀ e∈E,e.sites.length<=1000/\e.sites≠[])(ho:I6 E)(hv:Hr n E=true)(hK:(Cq p).length<=1000000000000)(hJ:(Cq q).length<=1000000000000):
  Fn TT PT 7 [.agg [iV n,SL z t (E.map Ent.row)],.agg p.row,.agg q.row] (Azs n ((Fj (Cq p) (Gl p q) (Cq q) E).foldl Db []) (Mr (Cq p) (Gl p q) (Cq q) E)):=by
 have g0:=Aqg z t n E ho;rw[hv]at g0;have g1:=A4b hp hq;have gk:=Asv hq.px;rw[Zt]at gk;have qC:(Gl p q).length=(Cq p).length:=by rw[Acy];exact Ao0 p q
 have g2:=fun(e:Ent) (he:e∈E)=>A8m hp.px (Gl p q) qC e (hs e he).1 hK
 have qM:=Ef p;have jk:=Ef q;rw[qM]at g1 g2 ⊢;rw[jk]at g1 gk ⊢;generalize Cq p=K at *;generalize Cq q=J at *;generalize Gl p q=M at *;have qm:(E.map Ent.row).length=E.length:=Av ..;have jb:=Adj (L:=Fj K M J E) (out:=[]) (fun x hx=>by cases hx) (Aj9 K M J E)
 suffices h:∃ v s,Xl TT PT 7 [.agg [iV n,SL z t (E.map Ent.row)],.agg (gR p),.agg (gR q)] v s/\∃ uE LE uL,v=.tup [.agg [iV n,uE],uL,iV 0]/\Cl s/\NG s 5 uE LE/\LE.map (·.2)=(Fj K M J E).foldl Db []/\GW s 4 30 5 uL ((Mr K M J E).map Ent.row) by
  obtain⟨v,s,hf,uE,LE,uL,rfl,-,h1,h2,h3⟩:=h;have h4:=A4g hf (.cons (Bm3 h1 _) (.cons (Ayq (N8 (J3 h3 AA (Ja _) (K1 _)) (B8 h3))) (.cons (Ayq (Ig rfl)) .nil)));rw[Avm h2 jb]at h4;exact h4
 refine Bhr T7 rfl ?_ ?_;rotate_left
 .rintro v s ⟨uE,LE,uL,rfl,h1,h2,-,h3⟩;refine⟨h1,?_,fun i hi=>?_⟩
  .have h4:Ga uL=true:=by rcases h3 with⟨rfl,-⟩ | ⟨-,_,_,rfl,-⟩<;>rfl
   show(Ga (.agg [iV n,uE])&&(Ga uL&&true))=true;rw[h4];simp only[Ga,B5,Dc,B8 h2.1];rfl
  .simp only[V.refs,Ah,Ct,Bz]at hi;rcases Cs.1 hi with hi | hi
   .exact F9 h2.1 i hi
   .exact F9 h3 i hi
 simp only[go_sem];refine Ab g0 AB ?_;simp only[go_sem];refine Ad AD ?_;simp only[go_sem];refine Ax g1 AB ?_;simp only[go_sem];refine Ax gk AB ?_;simp only[go_sem,qm];obtain⟨σ0,jp⟩:∃ σ0:St,σ0=[.row [iV n,SL z t (E.map Ent.row)] 27 0 0,gO p,gO q,.row [iV 0,.nils] 27 0 0]:=⟨_,rfl⟩
 refine Bb (α:=Nat × V × List (V × Ent) × V × St) (fun a=>E.length - a.1) (fun a=>[(4,.ptr 1 0 0),(6,.ptr 3 0 0),(9,SL true 0 (Ao M)),(10,SL true 0 (J.map Bl)),(11,.ptr 4 0 0),(12,a.2.2.2.1),(36,SL z t (E.map Ent.row)),(37,iV (E.length:Int)),(38,iV (a.1:Int))]) (fun a=>a.2.2.2.2)
  (fun a=>a.1<=E.length/\(∀ j,j<4->a.2.2.2.2[j]?=σ0[j]?)/\a.2.2.2.2[4]?=some (.row [iV n,a.2.1] 27 0 0)/\Cl a.2.2.2.2/\NG a.2.2.2.2 5 a.2.1 a.2.2.1/\a.2.2.1.map (·.2)=(Fj K M J (E.take a.1)).foldl Db []/\GW a.2.2.2.2 4 30 5 a.2.2.2.1 ((Mr K M J (E.take a.1)).map Ent.row)) ?_ (0,.nils,[],.nils,_) ⟨As _,fun j hj=>by grind,rfl,(by intro ob qA j hj;simp only[B7,Qi,or_false]at qA;rcases qA with rfl | rfl | rfl | rfl | rfl<;>simp[Ob.refs,Ah,V.refs,Qk (Hq _ _ _)]at hj),⟨Dr,fun p hp=>by cases hp⟩,rfl,Dr⟩
 rintro⟨i,uE,LE,uL,s⟩ ⟨hi,hf,h4,qc,qa,qj,qb⟩ ih;simp only at hi hf h4 qc qa qj qb ih;refine Ay Bn2 ?_;have e1:=hf 1 AA;have e3:=hf 3 AA;rw[jp]at e1 e3;simp only[Te,O7]at e1 e3;have jQ:=(An.1 h4).1;have qU:=Akb K M J (E.take i);have qV:=Aka K M J (E.take i);rw[Ic]at qU qV;obtain⟨qF,jd⟩:=A8n qa qb;obtain⟨qu,qL⟩:=Bm7 qa;have qq:∀ j,j<5->j ∉ uL.refs:=fun j hj hm=>by have:=(C8 qb j hm).1;omega
 rcases Az i E.length with h | h;rotate_left
 .have qI:i=E.length:=by omega
  subst qI;rw[Dh]at qj qb;have w3:∀ X:Ob,(s.set 3 X)[3]?=some X:=fun X=>Cf AA
  have cu:=Ok (B8 qa.1);have cv:=B8 qa.1;simp only[go_sem,Bj h,h4,e3,w3,cu,cv];exact⟨_,Bm8 (w3 _) rfl rfl (B8 qb) rfl,uE,LE,uL,rfl,F4 qc fun j hj=>F9 qa.1 j (by grind[Ob.refs,Ah,V.refs]),Afd qa (fun j hj=>B4 (by have:=(C8 qa.1 j hj).1;omega)) (fun p hp j hj=>B4 (by have:=(C8 (qa.2 p hp).2 j hj).1;omega)),qj,Dw qb AA⟩
 obtain⟨e,he,-,qg⟩:=Bk h;have i1:IntKind.i64.wrap ((i:Int)+1)=((i+1:Nat):Int):=Aw AA;have qn:(E.map Ent.row)[i]?=some (eR e e.sl):=by rw[Ak,he];rfl
 have gc:=g2 e qg;have qi:=Atb (K:=K) (M:=M) (J:=J) he;have qh:=Atc (K:=K) (M:=M) (J:=J) he;simp only[Wh]at gc;have gA:∀ (j:Nat) (o:Ob) (X:St),s[j]?=some o->(s++X)[j]?=some o:=fun j o X h=>Bt h
 have qf:∀ X:Ob,(s++[X])[s.length]?=some X:=fun X=>Tx _ _
 cases hcs:Ft K M e.sites with
 | none=>
  have qr:Jr K M J e=none:=by unfold Jr;rw[hcs];rfl
  rw[hcs]at gc;rw[qr]at qi qh;unfold Am4 at gc;simp only at gc;have jw:=A3d e (by grind);simp only[Wh]at jw;simp only[go_sem,Aq h,qn,gA _ _ _ e1];refine Ab gc AB ?_;simp only[go_sem,qf];refine Ab jw AB ?_;obtain⟨u2,s2,a1,g5,l5,k5,r5,c5⟩:=Ml (bytes:=48) (y:=.lst 1 [(eR e.own e.own.sl)]) (ys:=[(eR e.own e.own.sl)]) (Ix (l:=[eO e e.sl]) qb) (by grind) rfl AA (Ja _) AE (K1 [e.own]) (by grind);have hk:∀ j,j<s.length->j ∉ uL.refs->s2[j]?=s[j]?:=fun j h1 h2=>by grind
  simp only[go_sem,a1,i1];refine Ai (ih (i+1,uE,LE,u2,s2) AA ⟨h,fun j hj=>(hk j AA (qq j AA)).trans (hf j hj),(hk 4 AA (qq 4 AA)).trans h4,c5 (Ui qc (K1 [e] _ Cz)),Afd qa (fun j hj=>hk j (qu j hj) (qF j hj)) (fun p hp j hj=>hk j (qL p hp j hj) (jd p hp j hj)),?_,?_⟩) rfl
  .grind
  .simp only;rw[qh];simp only[Option.isNone_none,if_pos,Fm];exact g5
 | some r=>
  have qv:=Vu hcs;have qr:Jr K M J e=some ⟨e.kind,(Ir e.kind (r.map fun n:Nat=>(n:Int))).map (fun s=>J.getD s.toNat kz),e.seen,e.missed,true,0⟩:=by unfold Jr;rw[hcs];rfl
  have kO:∀ n∈r,(n:Int)<(J.length:Int):=Aii hM hcs
  have jZ:∀ x∈Ir e.kind (r.map fun n:Nat=>(n:Int)),0<=x/\x<(J.length:Int):=As8 fun x hx=>by
   obtain⟨n,hn,rfl⟩:=Di.1 hx
   grind
  have kK:(Ir e.kind (r.map fun n:Nat=>(n:Int))).length=e.sites.length:=by rw[Ai5,Av,qv]
  rw[hcs]at gc;unfold Am4 at gc;simp only at gc;have kg:=(hs e qg).1;simp only[go_sem,Aq h,qn,gA _ _ _ e1];refine Ab gc AB ?_
  have qw:Hc e.kind e.sites.length=true:=by
   have h1:=(An9 hv).2.2.1 e qg;unfold okV Da at h1;simp only[Al]at h1;exact h1.1.1
  generalize hZ:Ir e.kind (r.map fun n:Nat=>(n:Int))=Z at *;have h3:e.kind=1\/e.kind=2\/e.kind≠1/\e.kind≠2:=by omega
  rcases h3 with hk | hk | ⟨jH,jI⟩
  case' inl=>
   obtain⟨a,b,rfl⟩:∃ a b,r=[a,b]:=by
    unfold Hc at qw;rw[hk]at qw;have h2:e.sites.length=2:=by simpa using qw
    rw[h2]at qv
    match r,qv with
    | [a,b],_=>grind
   have qE:Z=[min (a:Int) (b:Int),max (a:Int) (b:Int)]:=by rw[<-hZ];unfold Ir;rw[if_pos hk];exact A4y _ _
   clear hZ;subst qE;have f1:(e.kind==1)=true:=by simpa using hk
   have kc:(Ao [(a:Int),(b:Int)])[0]?=some [iV (a:Int)]:=rfl;have ke:(Ao [(a:Int),(b:Int)])[1]?=some [iV (b:Int)]:=rfl;have kn:V.lst 1 [[iV (min (a:Int) (b:Int))],[iV (max (a:Int) (b:Int))]]=SL false 1 (Ao [min (a:Int) (b:Int),max (a:Int) (b:Int)]):=rfl;simp only[go_sem,qf,f1];refine Ad AD ?_;simp only[go_sem,qf,kc,ke];rw[kn]
  case' inr.inl=>
   have kx:(r.map fun n:Nat=>(n:Int))≠[]:=fun e1=>by
    have h1:=congrArg List.length e1
    grind
   have qE:Z=K8 (r.map fun n:Nat=>(n:Int)):=by rw[<-hZ];unfold Ir;rw[if_neg AA,if_pos hk];rfl
   clear hZ;subst qE;have f1:(e.kind==1)=false:=by rw[hk];rfl
   have f2:(e.kind==2)=true:=by rw[hk];rfl
   have g5:=A4s true 0 (r.map fun n:Nat=>(n:Int)) kx (by grind);simp only[go_sem,qf,f1,f2];refine Ab g5 AB ?_;simp only[go_sem,qf]
  case' inr.inr=>
   have qE:Z=r.map fun n:Nat=>(n:Int):=by rw[<-hZ];unfold Ir;rw[if_neg jH,if_neg jI]
   clear hZ;subst qE;have f1:(e.kind==1)=false:=by simpa using jH
   have f2:(e.kind==2)=false:=by simpa using jI
   simp only[go_sem,qf,f1,f2]
  all_goals
   rw[show s++[eO e e.sl,eO e .nils]=(s++[eO e e.sl])++[eO e .nils] by simp,show s.length+1=(s++[eO e e.sl]).length by simp];refine Ai (Bc4 jZ AA hJ fun u s3 kk qz jE jD=>?_) (by simp[F8];rfl);have qJ:(s++[eO e e.sl]).length=s.length+1:=by simp
   have hk:∀ j,j<s.length->s3[j]?=s[j]?:=fun j hj=>(kk j AA).trans (Ex hj)
   have qd:=Afd qa (fun j hj=>hk j (qu j hj)) (fun p hp j hj=>hk j (qL p hp j hj));have qt:=Gt qb fun j hj=>hk j (F9 qb j hj)
   have qG:=jD (Ui qc (K1 [e] _ Cz));have qp:=(hk 4 AA).trans h4;have qS:GW s3 3 57 5 u _:=Afx jE AA;clear jE jD;obtain⟨y,hy⟩:=Option.isSome_iff_exists.1 (by grind:(Jr K M J e).isSome=true);have kD:=Y7 hy;rw[qr]at hy;have hy:=(Nz hy).symm;have jg:y.kind=e.kind/\y.seen=e.seen/\y.missed=e.missed:=by rw[hy];exact⟨rfl,rfl,rfl⟩
   have qS:GW s3 3 57 5 u (y.sites.map Bl):=by rw[hy];exact qS
   rw[qJ,<-jg.1,<-jg.2.1,<-jg.2.2]at qz;have jj:∀ x∈(Fj K M J (E.take i)).foldl Db [],x.own=x:=Adj (fun x hx=>by cases hx) (Aj9 K M J _)
   have ka:LE.length<=i:=by
    have h1:=congrArg List.length qj;rw[Av]at h1;have h2:=Ai8 (Fj K M J (E.take i)) [];simp only[Dn]at h2;omega
   have qQ:I6 ((Fj K M J (E.take i)).foldl Db []):=fun x hx=>by
    have h1:=Ahv (L:=Fj K M J (E.take i)) (out:=[]) (fun x hx=>by cases hx) (fun x hx=>by
     obtain⟨e2,h2,h3⟩:=Xz.1 hx;rw[(Y7 h3).2]
     grind) x hx
    omega
   have hX:LE.length=((Fj K M J (E.take i)).foldl Db []).length:=by rw[<-qj,Av]
   have ku:=A6h true 0 ((Fj K M J (E.take i)).foldl Db []) y AA qQ AA;have o1:=Bm5 (Ayr qd) (B8 qd.1);rw[Avm qj jj]at o1
   have oe:OW s3 (.agg (eR y u)) (.agg y.row):=by
    have:=Axg (σ:=s3) (.cons (Xa (Gb (v:=iV y.kind) rfl)) (.cons (Xa (J3 qS AA (Le _) (Ql _))) (.cons (Xa (Gb (v:=iV y.seen) rfl)) (.cons (Xa (Gb (v:=iV y.missed) rfl)) .nil))));rw[<-kD.1];exact this
   simp only[go_sem,qp,qz];refine Bm4 (.cons o1 (.cons oe .nil)) ku rfl ?_;rw[qr]at qi qh;cases ht:Lg y ((Fj K M J (E.take i)).foldl Db [])
   .obtain⟨u',s4,w',kv,c4,l4,k4,g4,-⟩:=Bcw (i:=Gc y ((Fj K M J (E.take i)).foldl Db [])) qG qd (by grind) (by grind[Apw]) AA qS (fun e1=>(hs e qg).2 (Mb.1 (by grind))) AA;have kL:=(An.1 qp).1;have jy:=(k4 4 AA).trans qp;have cu:=Ok (B8 g4.1);have cv:=B8 g4.1;simp only[go_sem,qp,qz];refine Aa kv ?_;simp only[go_sem,jy,cu,cv,i1];refine Ai (ih (i+1,u',_,uL,_) AA ⟨h,fun j hj=>?_,Cf (An.1 jy).1,F4 c4 fun j hj=>F9 g4.1 j (by simpa[Ob.refs,Ah,V.refs] using hj),Afd g4 (fun j hj=>B4 (by have:=(C8 g4.1 j hj).1;omega)) (fun p hp j hj=>B4 (by have:=(C8 (g4.2 p hp).2 j hj).1;omega)),?_,?_⟩) rfl
    .simp only;rw[B4 AA,k4 j AA]
     grind
    .simp only;rw[qi,<-hy,List.foldl_append,Fm,Bh,Vo,Ag9,qj];simp only[Vj,Rj,List.foldl_nil]
     grind[A8o]
    .simp only;rw[qh];simp only[Option.isNone_some,Hz,if_false,Bz];exact Dw (Gt qt fun j hj=>k4 j (F9 qt j hj)) AA
   .obtain⟨x0,jo⟩:∃ x0,((Fj K M J (E.take i)).foldl Db [])[Gc y ((Fj K M J (E.take i)).foldl Db [])]?=some x0:=by
     unfold Lg at ht
     split at ht
     .grind
     grind
    have jc:Db ((Fj K M J (E.take i)).foldl Db []) y=((Fj K M J (E.take i)).foldl Db []).modify (Gc y ((Fj K M J (E.take i)).foldl Db [])) (fun x=>Nt x y):=A8p ht;generalize Gc y ((Fj K M J (E.take i)).foldl Db [])=i0 at *;rw[<-qj,Ak]at jo;obtain⟨p0,qW,rfl⟩:=Ci.1 jo;have qy:=(An.1 qW).1;have jl:(LE.map Fb)[i0]?=some (eR p0.2 p0.1):=by rw[Ak,qW];rfl
    rcases qd.1 with⟨rfl,ko⟩ | ⟨ko,o,g,rfl,qe,qK⟩
    .rw[show LE=[] by grind]at qy;cases qy
    have qZ:(LE.map Fb).length=LE.length:=Av ..;rw[qZ]at qp;have jO:=(An.1 qe).1;obtain⟨L1,qB⟩:∃ L1,L1=(LE.map Fb).set i0 [iV p0.2.kind,p0.1,iV (max p0.2.seen y.seen),iV p0.2.missed]:=⟨_,rfl⟩;obtain⟨LE2,qk⟩:∃ LE2,LE2=LE.set i0 (p0.1,Nt p0.2 y):=⟨_,rfl⟩
    have qT:∀ r∈L1,r.length=4:=fun r hr=>by
     rw[qB]at hr;rcases List.mem_or_eq_of_mem_set hr with hr | rfl
     .grind[Mf]
     .rfl
    have kw:L1[i0]?=some [iV p0.2.kind,p0.1,iV (max p0.2.seen y.seen),iV p0.2.missed]:=by rw[qB];exact Cf AA
    have jX:L1.length=LE.length:=by rw[qB,Ny,qZ]
    have c2:=Afy (e:=30) (g:=g) (z:=0) (Zv (j:=2) (Mf LE) jl rfl);have c3:=Afy (e:=30) (g:=g) (z:=0) (Zv (j:=3) (Mf LE) jl rfl);have q1:=Adl (j:=2) (c:=iV (max p0.2.seen y.seen)) (Mf LE) jl AA;have q3:=Adl (j:=3) (c:=iV (min p0.2.missed y.missed)) qT kw AA;rw[show(LE.map Fb).set i0 (((eR p0.2 p0.1):List V).set 2 (iV (max p0.2.seen y.seen)))=L1 from qB.symm]at q1;rw[show L1.set i0 (([iV p0.2.kind,p0.1,iV (max p0.2.seen y.seen),iV p0.2.missed]:List V).set 3 (iV (min p0.2.missed y.missed)))=LE2.map Fb by rw[qB,qk,Vp,Ahc];rfl]at q3;have b1:(i0*4+2+1<=(LE.map Fb).flatten.length)=True:=eq_true (by rw[Gj (Mf LE),qZ];omega);have b3:(i0*4+3+1<=L1.flatten.length)=True:=eq_true (by rw[Gj qT,jX];omega);have qO:=fun X:Ob=>Cf (l:=s3) (a:=X) jO
    have qX:=fun X Y:Ob=>Vp (l:=s3) (i:=o) (a:=X) (b:=Y)
    simp only[go_sem,qp,F3 qy];refine Ad AD ?_;simp only[go_sem,qe,qz,c2,c3,b1,q1];have kN:o<s.length:=qu o AQ;refine Id (by repeat (first | exact trivial | refine⟨.inl AH,?_⟩ | refine⟨by rfl,?_⟩ | refine⟨.inr ⟨by rfl,by rfl⟩,?_⟩)) ⟨.inr ⟨Axl qz rfl,Axl ((B4 AA).trans qz) rfl⟩,.inl AH,.inl AH,.inl AH,trivial⟩ ?_;simp only[go_sem,qO,b3,q3,qX];refine Id (by repeat (first | exact trivial | refine⟨.inl AH,?_⟩ | refine⟨by rfl,?_⟩ | refine⟨.inr ⟨by rfl,by rfl⟩,?_⟩)) (by repeat (first | exact trivial | refine⟨.inl AH,?_⟩ | refine⟨by rfl,?_⟩ | refine⟨.inr ⟨by rfl,by rfl⟩,?_⟩)) ?_
    have kq:∀ v xs,GW s3 3 57 5 v xs->∀ j∈v.refs,o≠j:=fun v xs hg j hj e1=>by
     subst e1;rcases hg with⟨rfl,-⟩ | ⟨-,ib,gb,rfl,qA,-⟩
     .simp[V.refs]at hj
     .simp[V.refs]at hj
      grind
    have qP:∀ p∈LE2,p.2.sites≠[]/\GW s3 3 57 5 p.1 (p.2.sites.map Bl):=fun p hp=>by
     rw[qk]at hp;rcases List.mem_or_eq_of_mem_set hp with hp | rfl
     .exact qd.2 p hp
     .exact qd.2 p0 (Hg qW)
    have kH:LE2.length=LE.length:=by rw[qk,Ny]
    simp only[go_sem,i1];refine Ai (ih (i+1,.sl o g 0 LE.length 4 true,LE2,uL,_) AA ⟨h,fun j hj=>?_,(B4 AA).trans qp,F4 qG fun j hj=>Aj6 (L:=LE2) (fun p hp=>qP p hp) j hj,⟨.inr ⟨fun e1=>?_,o,g,by grind,Cf jO,qK⟩,fun p hp=>⟨(qP p hp).1,Gt (qP p hp).2 fun j hj=>B4 (kq _ _ (qP p hp).2 j hj)⟩⟩,?_,?_⟩) rfl
    .simp only;rw[B4 AA]
     grind
    .have h1:=congrArg List.length e1
     grind
    .simp only;rw[qi,<-hy,List.foldl_append];simp only[Vj,Rj,List.foldl_nil];rw[jc,<-qj,qk,Ahc];refine Tf fun k=>?_
     rw[List.getElem?_modify,List.getElem?_set,Ak,Av];by_cases h7:i0=k
     .subst h7;simp[qW,qy]
      grind
     .simp[h7]
    .simp only;rw[qh];simp only[Option.isNone_some,Hz,if_false,Bz];exact Gt qt fun j hj=>B4 fun(e1:o=_)=>qF o AQ (by grind)
def Aqj(p q:Gp):∀ x∈Gl p q,x<((Cq q).length:Int):=fun x hx=>by
 unfold Gl Ii at hx;obtain⟨y,-,hy⟩:=List.mem_flatMap.1 hx;obtain⟨i,hi⟩:=List.mem_iff_getElem?.1 hy;rw[Acy,show(Im q).length=(G9 (H2 q)).length from(Yk q.thrs).symm];rcases A22 hi with rfl | ⟨k,rfl,⟨y,-,h⟩,-⟩
 .omega
 grind
def Aoa(p q:Gp)(z:Bool)(t:Nat)(n:Int)(E:List Ent)(ho:I6 E)(hv:Hr n E=false):
  Fn TT PT 6 [.agg [iV n,SL z t (E.map Ent.row)],.agg p.row,.agg q.row] Azt:=by
 have g0:=As3 z t n E ho;rw[hv]at g0;rw[Ef p,Ef q];refine Bg T6 rfl ?_;simp only[go_sem];refine Ab g0 AB ?_;simp only[go_sem];exact Fq rfl
def Aob(p q:Gp)(z:Bool)(t:Nat)(n:Int)(E:List Ent)(ho:I6 E)(hv:Hr n E=false):
  Fn TT PT 7 [.agg [iV n,SL z t (E.map Ent.row)],.agg p.row,.agg q.row] Azt:=by
 have g0:=Aqg z t n E ho;rw[hv]at g0;rw[Ef p,Ef q];refine Bg T7 rfl ?_;simp only[go_sem];refine Ab g0 AB ?_;simp only[go_sem];exact Fq rfl
def Bc7{p q:Gp}(hp:PY p)(hq:PY q)(z:Bool)(t:Nat)(n:Int)(E:List Ent)(hE:E.length<=900)(jn:Al8 E.length)(hs:∀ e∈E,2<=e.sites.length/\e.sites.length<=4):
  ∃ (m c:Int) (X Y:List Ent),(∀ f,f=6\/f=7->Fn TT PT f [.agg [iV n,SL z t (E.map Ent.row)],.agg p.row,.agg q.row] (.tup [.agg [iV m,SL true 0 (X.map Ent.row)],SL true 0 (Y.map Ent.row),iV c]))/\I6 X/\I6 Y/\X.length<=900/\Y.length<=900:=by
 have ho:I6 E:=fun e he=>by grind
 cases hv:Hr n E
 .refine⟨0,1,[],[],?_,fun x hx=>by grind,fun x hx=>by grind,by simp,by simp⟩;rintro f (rfl | rfl)
  .exact Aoa p q z t n E ho hv
  .exact Aob p q z t n E ho hv
 .have jP:∀ e∈E,e.sites.length<=1000/\e.sites≠[]:=fun e he=>by
   grind
  refine⟨n,0,(Fj (Cq p) (Gl p q) (Cq q) E).foldl Db [],Mr (Cq p) (Gl p q) (Cq q) E,?_,fun x hx=>?_,fun x hx=>?_,?_,?_⟩
  .rintro f (rfl | rfl)
   .exact A4w hp hq (Aqj p q) z t n E hE jn jP ho hv (Ak9 hp)
   .exact Bc6 hp hq (Aqj p q) z t n E hE jP ho hv (Ak9 hp) (Ak9 hq)
  .have:=Ahv (L:=Fj (Cq p) (Gl p q) (Cq q) E) (out:=[]) (fun x hx=>by cases hx) (fun x hx=>by
    obtain⟨e,h2,h3⟩:=Xz.1 hx;rw[(Y7 h3).2]
    grind) x hx
   omega
  .unfold Mr at hx;obtain⟨e,he,rfl⟩:=Di.1 hx;have:=hs e (Rk.1 he).1;show e.sites.length<=_;omega
  .grind[Ai8,Aka]
  grind[Akb]
def A4z{k:Int}{n:Nat}(h:Hc k n=true):2<=n/\n<=4:=by
 grind[Hc]
def Bc8{p q:Gp}(hp:PY p)(hq:PY q)(z:Bool)(t:Nat)(n:Int)(E:List Ent)(ho:I6 E):
  ∃ (m c:Int) (X Y:List Ent),(∀ f,f=6\/f=7->Fn TT PT f [.agg [iV n,SL z t (E.map Ent.row)],.agg p.row,.agg q.row] (.tup [.agg [iV m,SL true 0 (X.map Ent.row)],SL true 0 (Y.map Ent.row),iV c]))/\I6 X/\I6 Y/\X.length<=900/\Y.length<=900:=by
 cases hv:Hr n E
 .refine⟨0,1,[],[],?_,fun x hx=>by grind,fun x hx=>by grind,by simp,by simp⟩;rintro f (rfl | rfl)
  .exact Aoa p q z t n E ho hv
  .exact Aob p q z t n E ho hv
 .obtain⟨b1,-,b3,-⟩:=An9 hv;refine Bc7 hp hq z t n E AA (A8l AA) fun e he=>?_
  have h1:=b3 e he;unfold okV Da at h1;simp only[Al]at h1;exact A4z h1.1.1
set_option maxHeartbeats 4000000 in
def A0d(z0 z1 z2:Bool)(t0 t1 t2:Nat)(a b c:List UInt8)(un:Bool)(z:Bool)(t:Nat)(n:Int)(E:List Ent)(ha:a.length<=9223372036854775807)(hb:b.length<=9223372036854775807)(hc:c.length<=9223372036854775807)(ho:I6 E)(hl:E.length<=9223372036854775807):
  Fn TT PT 3 [.agg [SL z0 t0 (By a),SL z1 t1 (By b),SL z2 t2 (By c),.bool un],.agg [iV n,SL z t (E.map Ent.row)]] (.bool true):=by
 obtain⟨v,q1,A,B,ok,rfl,hv⟩:=A01 z0 z1 z2 t0 t1 t2 a b c un ha hb hc;have jz:=Ef A;have jA:=Ef B;rw[jz,jA]at q1;have qm:(E.map Ent.row).length=E.length:=Av ..;refine Bg T3 rfl ?_;simp only[go_sem,qm];refine Avc (fun e s=>∃ m i:Int,e=[(2,.ptr 0 0 0),(3,.ptr 1 0 0),(5,iV m),(6,iV i)]/\s=[.row [SL z0 t0 (By a),SL z1 t1 (By b),SL z2 t2 (By c),.bool un] 24 0 0,.row [iV n,SL z t (E.map Ent.row)] 27 0 0]) ?_ ?_
 .intro k' jG
  refine Bb (α:=Nat × Int) (fun a=>E.length - a.1) (fun a=>[(2,.ptr 0 0 0),(3,.ptr 1 0 0),(5,iV a.2),(6,iV (a.1:Int))]) (fun _=>[.row [SL z0 t0 (By a),SL z1 t1 (By b),SL z2 t2 (By c),.bool un] 24 0 0,.row [iV n,SL z t (E.map Ent.row)] 27 0 0])
   (fun a=>a.1<=E.length) ?_ (0,(E.length:Int)) (As _)
  rintro⟨i,m⟩ hi ih;simp only at hi ih;refine Ay Bnz ?_;rcases Az i E.length with h | h
  .obtain⟨x,hx,-,hm⟩:=Bk h;cases h7:decide (m<1000)
   .simp only[go_sem,Aq h,qm,h7];exact jG _ _ ⟨_,_,rfl,rfl⟩
   .simp only[go_sem,Aq h,qm,h7,Ak,hx,Aw (show i<9223372036854775807 by omega)];exact Ai (ih (i+1,_) AS AS) rfl
  .simp only[go_sem,Bj h,qm];exact jG _ _ ⟨_,_,rfl,rfl⟩
 rintro _ _ ⟨m,i,rfl,rfl⟩;simp only[go_sem];refine Ab q1 AB ?_;simp only[go_sem];cases ok
 .simp only[go_sem];refine Ab Aht AB ?_;simp only[go_sem];exact Ae rfl rfl
 obtain⟨pA,pB,-⟩:=hv rfl;cases h8:decide (300<m);rotate_left
 .simp only[go_sem,h8];refine Ab Aht AB ?_;simp only[go_sem];exact Ae rfl rfl
 obtain⟨m',c',X,Y,gR,oX,oY,lX,lY⟩:=Bc8 pA pB z t n E ho;have gx:=A8f true true 0 0 m' X oX AA;have gy:=As6 true true 0 0 Y oY AA;have g2:=gR _ (.inl rfl);have g3:=gR _ (.inr rfl);clear gR;rw[jz,jA]at g2 g3;simp only[go_sem,h8];refine Ab g2 AB ?_;simp only[go_sem];refine Ab g3 AB ?_;simp only[go_sem,beq_self_eq_true];refine Ab gx AB ?_;simp only[go_sem];refine Ab gy AB ?_;simp only[go_sem];refine Ab Aht AB ?_;simp only[go_sem];exact Ae rfl rfl
