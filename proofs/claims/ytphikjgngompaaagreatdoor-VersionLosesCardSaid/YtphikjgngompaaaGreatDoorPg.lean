/- Walks: which values are baselines. -/
import Derived.Test.YtphikjgngompaaaGreatDoorIv
set_option linter.all false
namespace Go.Proofs.YtphikjgngompaaaGreatDoor.KM
open Go
attribute [go_sem] Adu Ax Zi
/-! interleaveref01 -/
noncomputable def runOneG (f:AF) (args:List V):Option V:=(Ln (N5 TT PT 60) f args []).bind fun p=>Eg p.2 p.1
def A3b:((List.range 256).all fun n=>match runOneG af151 [.int .u8 n] with
  | some v=>v.eqv (.bool (K0 n))
  | none=>false)=true:=by kernel_rfl
def A35(n:Nat)(h:n<256):Fn TT PT 151 [.int .u8 n] (.bool (K0 n)):=by
 have:=Bw.1 A3b n (Ed.2 h)
 split at this
 .rename_i v hv;have e:=X3 this;subst e;exact Rd Si T151 rfl rfl hv
 .cases this
def A36:((List.range 256).all fun n=>match runOneG af153 [.int .u8 n] with
  | some v=>v.eqv (.bool (Lv n))
  | none=>false)=true:=by kernel_rfl
def A9b(n:Nat)(h:n<256):Fn TT PT 153 [.int .u8 n] (.bool (Lv n)):=by
 have:=Bw.1 A36 n (Ed.2 h)
 split at this
 .rename_i v hv;have e:=X3 this;subst e;exact Rd Si T153 rfl rfl hv
 .cases this
def kwRows:List (List V):=kwL.map fun k=>[V.str k]
def A3c:Fn TT PT 179 [] (.lst 1 kwRows):=by
 have:(match runOneG af179 [] with
  | some v=>v.eqv (.lst 1 kwRows)
  | none=>false)=true:=by kernel_rfl
 split at this
 .rename_i v hv;have e:=X3 this;subst e;exact Rd Si T179 rfl rfl hv
 .cases this
def Ayr(l:List UInt8):Fn TT PT 152 [.str l] (.bool (Gi l)):=by
 have qf:kwRows.length=22:=rfl
 have ql:∀ i,i<22->kwRows[i]?=some [.str (kwL.getD i [])]:=fun i hi=>by
  grind[kwRows]
 have hk:=A3c;generalize kwRows=g at qf ql hk;refine Bj T152 rfl ?_;simp only[go_sem];refine Ab hk rfl ?_;simp only[go_sem];refine Bk (fun i=>22 - i) (fun i:Nat=>[(0,.str l),(3,.lst 1 g),(4,iV i)]) (fun _=>[]) (fun i=>i<=22/\∀ j,j<i->(l==kwL.getD j [])=false) ?_ 0 ⟨by omega,fun j hj=>by omega⟩;rintro i ⟨hi,qo⟩ ih;refine Bd Bjv ?_;rcases Bh i 22 with h | h
 .have qn:decide ((i:Int)<22)=true:=by simp;omega
  simp only[go_sem,qf,qn,ql i h];refine Lo (fun h3=>?_) (fun h3=>?_)
  .simp only[go_sem];refine Ah rfl ?_;unfold Gi;rw[Ok.2 ⟨kwL.getD i [],?_,?_⟩]
   .have hl:i<kwL.length:=h
    grind
   grind
  .simp only[go_sem,A1 (show i<9223372036854775807 by omega)];refine Aq (ih (i+1) AA ⟨by omega,fun j hj=>?_⟩) rfl
   grind
 .have qn:decide ((i:Int)<22)=false:=by simp;omega
  simp only[go_sem,qf,qn];refine Ah rfl ?_
  symm
  congr 1;unfold Gi;rw[<-W1];intro ha;obtain⟨k,hk,he⟩:=Ok.1 ha;obtain⟨j,hj,rfl⟩:=Pw hk;have qW:j<22:=hj
  grind
theorem Aks{l:List UInt8}(h0:0<l.length):((K0 (l.getD 0 0).toNat=true)/\∀ j,j<l.length->Lv (l.getD j 0).toNat=true)↔∀ j,j<l.length->I9 l j=true:=by
 have ja:∀ n,Lv n=true↔K0 n=true\/(n=95\/Mu n=true):=fun n=>by
  unfold Lv
  grind
 have nm:∀ j,I9 l j=true↔K0 (l.getD j 0).toNat=true\/(0<j/\((l.getD j 0).toNat=95\/Mu (l.getD j 0).toNat=true)):=fun j=>by
  simp[I9]
 grind
def Vi(l:List UInt8):Fn TT PT 123 [.str l] (.bool (Bm l)):=by
 refine Bj T123 rfl ?_;cases h0:decide ((l.length:Int)<1);rotate_left
 .simp only[go_sem,h0];exact Ah rfl (by grind[Awg])
 have qs:0<l.length:=by simp at h0;omega
 cases h1:decide ((12:Int)<(l.length:Int));rotate_left
 .simp only[go_sem,h0,h1];exact Ah rfl (by grind[Awh])
 have hg:l[0]?=some (l.getD 0 0):=by rw[D3,Ca qs];rfl
 have qc:=A35 (l.getD 0 0).toNat (l.getD 0 0).toNat_lt
 cases h2:K0 (l.getD 0 0).toNat
 .rw[h2]at qc;simp only[go_sem,h0,h1,hg];refine Ab qc rfl ?_;simp only[go_sem];refine Ah rfl ?_;rw[show Bm l=false from ?_];have:=mt (Aks qs).2 (by grind)
  simp_all [Bm]
 rw[h2]at qc;cases h3:Gi l;rotate_left
 .have hk:=Ayr l;rw[h3]at hk;simp only[go_sem,h0,h1,hg];refine Ab qc rfl ?_;simp only[go_sem];refine Ab hk rfl ?_;simp only[go_sem];exact Ah rfl (by rw[Awi h3])
 have hk:=Ayr l;rw[h3]at hk;simp only[go_sem,h0,h1,hg];refine Ab qc rfl ?_;simp only[go_sem];refine Ab hk rfl ?_;simp only[go_sem];refine Bk (fun i=>l.length - i) (fun i:Nat=>[(0,.str l),(3,iV i)]) (fun _=>[]) (fun i=>i<=l.length/\∀ j,j<i->Lv (l.getD j 0).toNat=true) ?_ 0 ⟨by omega,fun j hj=>by omega⟩;rintro i ⟨hi,qo⟩ ih;refine Bd Bjq ?_;have qH:l.length<=12:=by simp at h1;omega
 rcases Bh i l.length with h | h
 .have qE:l[i]?=some (l.getD i 0):=by rw[D3,Ca h];rfl
  have qr:=A9b (l.getD i 0).toNat (l.getD i 0).toNat_lt
  cases h4:Lv (l.getD i 0).toNat
  .rw[h4]at qr;simp only[go_sem,Ay h,qE];refine Ab qr rfl ?_;simp only[go_sem];refine Ah rfl ?_;rw[show Bm l=false from ?_];rw[<-W1];intro hn;unfold Bm at hn;simp only[Ai,Bw,Ed]at hn
   grind[Aks]
  .rw[h4]at qr;simp only[go_sem,Ay h,qE];refine Ab qr rfl ?_;simp only[go_sem,A1 (show i<9223372036854775807 by omega)];refine Aq (ih (i+1) AA ⟨by omega,fun j hj=>?_⟩) rfl
   grind
 .simp only[go_sem,Bl h];refine Ah rfl ?_;rw[Amg AA qH h3 ((Aks qs).1 ⟨h2,fun j hj=>qo j AA⟩)]
def Aef(l:List UInt8):∀ r∈B6 l,r.length=1:=by
 intro r hr;obtain⟨c,_,rfl⟩:=Cy.1 hr;rfl
def A5v(a b:List UInt8):B6 (a++b)=B6 a++B6 b:=F0 ..
def Awo(a:List UInt8):(B6 a).length=a.length:=Au ..
def Apo:∀ l:List UInt8,Vg (B6 l)=some l
 | []=>rfl
 | c::l=>by
  have h:c.toNat<256:=c.toNat_lt;have:=Apo l;simp only[B6,Az,Vg]at this ⊢;rw[if_pos AA,this];simp
def Ary(l:List UInt8):Ag (B6 l).flatten=[]:=by
 refine Fr (Ie fun r hr=>?_);obtain⟨c,_,rfl⟩:=Cy.1 hr;rfl
def A9c(ty:Nat)(x:V)(l:List UInt8)(σ:St):Az7 ty x (.str l) σ=Dv 1 (1,ty) x (.lst 1 (B6 l)) σ:=rfl
def A5w{s:St}{j:Nat}{x:Ob}(h:s[j]?=some x):j<s.length:=(Al.1 h).1
def BL(s:St)(b:Nat)(u:V)(l:List UInt8):Prop:=∃ p,s[b]?=some (.row [p,u] 218 0 0)/\(p=.nilp\/p=.ptr b 0 0)/\GW s 1 5 (b+1) u (B6 l)
def Bd1{s:St}{b:Nat}{u:V}{l:List UInt8}(h:BL s b u l):∀ i∈u.refs,i<s.length:=by
 obtain⟨p,_,_,hg⟩:=h;exact Gn hg
def Bd2{s J:St}{b:Nat}{u:V}{l:List UInt8}(h:BL s b u l):BL (s++J) b u l:=by
 obtain⟨p,h1,h2,h3⟩:=h;exact⟨p,Bs h1,h2,Gm h3⟩
def Jg{s:St}{cs:List V}{t:Nat}(h:Cl s)(hr:cs.all V.rowB=true):Cl (s++[.row cs t 0 0]):=Jd h (by simp only[Ob.refs,Fr hr];simp)
def A9d{s:St}{b:Nat}{u:V}{l:List UInt8}(t:List UInt8)(h:BL s b u l)(hc:Cl s)(hb:l.length+t.length<=100000000000000):
  ∃ s' u',Th TT PT 188 [.ptr b 0 0,.str t] s (.tup [iV (t.length:Int),.nili]) s'/\BL s' b u' (l++t)/\Cl s'/\s.length<=s'.length/\∀ j,j≠b->j ∉ u.refs->j<s.length->s'[j]?=s[j]?:=by
 have qK:=Bd1 h;obtain⟨p,hs,hp,hg⟩:=h;have qD:b<s.length:=A5w hs
 have h1:∃ s1,Y7 218 [.ptr b 0 0] s=some (.tup [],s1)/\s1[b]?=some (.row [.ptr b 0 0,u] 218 0 0)/\GW s1 1 5 (b+1) u (B6 l)/\s1.length=s.length/\Cl s1/\∀ j,j≠b->s1[j]?=s[j]?:=by
  rcases hp with rfl | rfl
  .refine⟨s.set b (.row [.ptr b 0 0,u] 218 0 0),?_,by rw[Cm qD],D5 hg AA,by simp,F8 hc ?_,fun j hj=>by rw[Cc AA]⟩
   .simp[Y7,hs]
   .intro i hi;simp only[Ob.refs,Ag,V.refs,B3,Ct,F5]at hi;rcases hi with rfl | hi
    .exact qD
    .exact qK i hi
  .exact⟨s,by simp[Y7,hs],hs,hg,rfl,hc,fun _ _=>rfl⟩
 obtain⟨s1,e1,q1,g1,l1,c1,f1⟩:=h1;obtain⟨u2,s2,e2,g2,l2,fo,f2⟩:=Hz (bytes:=1) (y:=.lst 1 (B6 t)) (ys:=B6 t) g1 AA rfl AA (Aef l) (Aef t) (by rw[Awo,Awo];omega);rw[<-A5v]at g2;have q2:=(f2 b AA).trans q1;have c2:Cl s2/\∀ i∈u2.refs,i<s2.length:=⟨Ajs g1 rfl e2 (Ary l) (Ary t) c1,Gn g2⟩
 have c3:Cl (s2.set b (.row [.ptr b 0 0,u2] 218 0 0)):=by
  refine F8 c2.1 ?_;intro i hi;simp only[Ob.refs,Ag,V.refs,B3,Ct,F5]at hi;rcases hi with rfl | hi
  .omega
  .exact c2.2 i hi
 refine⟨s2.set b (.row [.ptr b 0 0,u2] 218 0 0),u2,Af9 T188 rfl ?_ rfl rfl AQ c3,⟨.ptr b 0 0,by rw[Cm AA],.inr rfl,D5 g2 AA⟩,c3,by simp;omega,fun j hj hu hl=>?_⟩
 .simp only[go_sem];refine Ig (.spec T212 rfl rfl e1) ?_;simp only[go_sem,q1,A9c,e2,q2,Nv (Ce g2),Ce g2];exact⟨rfl,rfl⟩
 .rw[Cc AA,fo j ?_ AA,f1 j hj];intro i g hi qO;subst qO;exact hu (by rw[hi];simp[V.refs])
theorem Bj5{s:St}{b:Nat}{u:V}{l:List UInt8}(h:BL s b u l):∃ s',Wh 218 5 [.ptr b 0 0] s=some (.str l,s'):=by
 obtain⟨p,hs,hp,hg⟩:=h;rcases hg with⟨rfl,hl⟩ | ⟨hn,i,g,rfl,ho,qX⟩
 .have:l=[]:=by simpa[B6] using hl
  subst this;exact⟨s,by simp[Wh,hs]⟩
 .have qy:0<(B6 l).length:=List.length_pos_iff.2 hn;have qM:Fe 1 (B6 l).length (B6 l).flatten=B6 l:=U9 (Aef l);have qV:=Ge (Aef l);refine⟨s.set i .dead,?_⟩;simp only[Wh,hs,ho];rw[if_pos ⟨trivial,trivial,qy⟩,if_pos ⟨trivial,trivial,by omega⟩,qM,Apo];rfl
def tk1{l:List V}{i:Nat}{x:V}(h:l[i]?=some x):List.take 1 (List.drop i l)=[x]:=by
 grind[List.drop_eq_getElem_cons]
theorem tds{l:List V}{i:Nat}(h:i<l.length)(x:V):List.take i l++x::List.drop (i+1) l=l.set i x:=by
 simp_all [List.set_eq_take_append_cons_drop]
def Ajx(n:Nat)(v:V):(List.replicate n [v]).flatten=List.replicate n v:=by
 simp_all
theorem Aaj(l:List Int):(Df l).length=l.length:=by grind[Df]
def Aln{l:List Int}{i:Nat}{x:Int}(h:l[i]?=some x):List.take 1 (List.drop i (Df l))=[iV x]:=tk1 (A83 h)
theorem Atu{l:List Int}{i:Nat}(h:i<l.length)(x:Int):List.take i (Df l)++iV x::List.drop (i+1) (Df l)=Df (l.set i x):=by
 grind[tds,Aaj,A84]
def A5x{n m i:Nat}(hi:i<n):List.take i (E6 n m (i+1))++V.sl (1+(n - i)) 0 0 (m+1) 1 true::List.drop (i+1) (E6 n m (i+1))=E6 n m i:=by
 rw[tds (by grind[Akq])];exact A85 hi
def Awp{n m i k:Nat}(h:i<=k)(hk:k<=n):List.take 1 (List.drop k (E6 n m i))=[.sl (1+(n - k)) 0 0 (m+1) 1 true]:=tk1 (A86 h hk)
def A5y(X Y:List (List UInt8))(OT IT:Nat):([.row (E6 X.length Y.length X.length) OT 0 0,.row (List.replicate (Y.length+1) (iV 0)) IT 0 0]:St)=Gb OT IT X.length Y.length X.length (Fm X Y (X.length - X.length+1)):=by
 rw[Id];unfold Gb Fm;simp[A8w,Akp]
def A9e(X Y:List (List UInt8))(OT IT i:Nat)(hi:i<X.length):(Gb OT IT X.length Y.length (i+1) (Fm X Y (X.length - i))++[Ob.row (List.replicate (Y.length+1) (iV 0)) IT 0 0]).set 0 (.row (E6 X.length Y.length i) OT 0 0)=Gb OT IT X.length Y.length i (Fm X Y (X.length - i)++[Fw X Y i Y.length]):=by
 rw[Akp,Bdv,A8v];rfl
set_option maxHeartbeats 4000000 in
def A37(z1 z2:Bool)(t1 t2:Nat)(X Y:List (List UInt8))(hX:X.length<=1000000)(hY:Y.length<=1000000):Fn TT PT 76 [SL z1 t1 (X.map fun x=>[V.str x]),SL z2 t2 (Y.map fun x=>[V.str x])] (Acn (Wj X Y)):=by
 refine Bji T76 rfl ?_;have qq:(X.map fun x=>[V.str x]).length=X.length:=Au ..;have qd:(Y.map fun x=>[V.str x]).length=Y.length:=Au ..;obtain⟨N,hN⟩:∃ N,N=X.length+1:=⟨_,rfl⟩;obtain⟨M,hM⟩:∃ M,M=Y.length+1:=⟨_,rfl⟩;have w1:IntKind.i64.wrap ((X.length:Int)+1)=(N:Int):=by rw[hN];exact A1 AA
 have w2:IntKind.i64.wrap ((Y.length:Int)+1)=(M:Int):=by rw[hM];exact A1 AA
 have w3:IntKind.i64.wrap ((X.length:Int) - 1)=(X.length:Int) - 1:=Cs AA;have w4:IntKind.i64.wrap ((Y.length:Int) - 1)=(Y.length:Int) - 1:=Cs AA;have a1:(0<=(N:Int))=True:=eq_true AA;have a2:((N:Int)<=(N:Int))=True:=eq_true (Zy _);have a3:(N*24<=140737488355328)=True:=eq_true AA;have b1:(0<=(M:Int))=True:=eq_true AA;have b2:((M:Int)<=(M:Int))=True:=eq_true (Zy _);have b3:(M*8<=140737488355328)=True:=eq_true AA;have c1:(0<=(X.length:Int))=True:=eq_true AA;have c2:((X.length:Int)<(N:Int))=True:=eq_true AA;have c3:∀ n:Nat,(0<=n)=True:=fun n=>eq_true (Ax n)
 have c4:(X.length+1<=(List.replicate N V.nils).length)=True:=eq_true (by grind)
 have e1:List.take X.length (List.replicate N V.nils)++V.sl 1 0 0 M 1 true::List.drop (X.length+1) (List.replicate N V.nils)=E6 X.length Y.length X.length:=by
  rw[tds (by grind),hN,hM];exact A5m _ _
 simp only[go_sem,qq,qd,w1,w2,w3,a1,a2,a3,b1,b2,b3,c1,c2,c3,c4,Ajx,e1];rw[hM,A5y X Y];refine Bk (α:=Nat) (fun i=>i) (fun i=>[(0,SL z1 t1 (X.map fun x=>[V.str x])),(1,SL z2 t2 (Y.map fun x=>[V.str x])),(5,.sl 0 0 0 N 1 true),(6,iV ((i:Int) - 1))]) (fun i=>Gb 55 3 X.length Y.length i (Fm X Y (X.length - i+1))) (fun i=>i<=X.length) ?_ X.length (Ak _);intro i hi ih;refine Bd Bpn ?_
 cases i with
 | zero=>
  have d0:decide ((0:Int)<=0 - 1)=false:=by decide
  simp only[go_sem,d0];unfold Hd;refine⟨0,55,0,vL X Y,?_,?_,?_,Bjk X Y⟩
  .rw[Bjj,<-hN];rfl
  .rw[Bjl];rfl
  simp_all [Bdx]
 | succ i=>
 have qa:i<X.length:=hi;have q1:(((i+1:Nat):Int) - 1)=(i:Int):=by omega
 have q2:X.length - (i+1)+1=X.length - i:=by omega
 have d0:decide ((0:Int)<=(i:Int))=true:=by simp
 simp only[q1,q2];generalize hs:Gb 55 3 X.length Y.length (i+1) (Fm X Y (X.length - i))=s;have qR:s.length=1+(X.length - i):=by rw[<-hs,Bdu,Aju]
 have k0:(s++[Ob.row (List.replicate M (iV 0)) 3 0 0])[0]?=some (.row (E6 X.length Y.length (i+1)) 55 0 0):=by rw[<-hs];rfl
 have g1:(0<=(i:Int))=True:=eq_true AA;have g2:((i:Int)<(N:Int))=True:=eq_true AA;have g3:(i+1<=(E6 X.length Y.length (i+1)).length)=True:=eq_true (by grind[Akq]);have e2:List.take i (E6 X.length Y.length (i+1))++V.sl (1+(X.length - i)) 0 0 M 1 true::List.drop (i+1) (E6 X.length Y.length (i+1))=E6 X.length Y.length i:=by rw[hM];exact A5x qa
 have e3:(s++[Ob.row (List.replicate M (iV 0)) 3 0 0]).set 0 (.row (E6 X.length Y.length i) 55 0 0)=Gb 55 3 X.length Y.length i (Fm X Y (X.length - i)++[Fw X Y i Y.length]):=by rw[<-hs,hM];exact A9e X Y _ _ i qa
 simp only[go_sem,d0,qd,w2,w4,b1,b2,b3,c3,qR,k0,g1,g2,g3,Ajx,e2,e3];refine Bk (α:=Nat) (fun j=>j) (fun j=>[(0,SL z1 t1 (X.map fun x=>[V.str x])),(1,SL z2 t2 (Y.map fun x=>[V.str x])),(5,.sl 0 0 0 N 1 true),(6,iV (i:Int)),(7,iV ((j:Int) - 1))]) (fun j=>Gb 55 3 X.length Y.length i (Fm X Y (X.length - i)++[Fw X Y i j])) (fun j=>j<=Y.length) ?_ Y.length (Ak _);intro j hj jh;refine Bd Bpm ?_
 cases j with
 | zero=>
  have d0:decide ((0:Int)<=0 - 1)=false:=by decide
  have w5:IntKind.i64.wrap ((i:Int) - 1)=(i:Int) - 1:=Cs AA;simp only[go_sem,d0,w5];rw[Ars,A32 X Y (Adv qa)];exact Aq (ih i AA AA) rfl
 | succ j=>
 have qg:j<Y.length:=hj;have q3:(((j+1:Nat):Int) - 1)=(j:Int):=by omega
 have d1:decide ((0:Int)<=(j:Int))=true:=by simp
 have qB:=jh j (Adl j) AA;simp only[q3];obtain⟨x,hx,-,-⟩:=Bq qa;obtain⟨y,hy,-,-⟩:=Bq qg;have qC:X[i]=x/\Y[j]=y:=⟨(Al.1 hx).2,(Al.1 hy).2⟩;have qi:=Bds X Y qa qg;rw[qC.1,qC.2]at qi;have l1:=Awm X Y (i+1) (j+1);have r0:(Gb 55 3 X.length Y.length i (Fm X Y (X.length - i)++[Fw X Y i (j+1)]))[1+(X.length - i)]?=some (.row (Df (Fw X Y i (j+1))) 3 0 0):=All _ _ _ _ _ (A5n X Y i _);have r1:(Gb 55 3 X.length Y.length i (Fm X Y (X.length - i)++[Fw X Y i (j+1)]))[1+(X.length - (i+1))]?=some (.row (Df (Jt X Y (i+1))) 3 0 0):=All _ _ _ _ _ (A31 X Y qa _);have r2:(Gb 55 3 X.length Y.length i (Fm X Y (X.length - i)++[Fw X Y i (j+1)]))[0]?=some (.row (E6 X.length Y.length i) 55 0 0):=rfl;have e4:(Gb 55 3 X.length Y.length i (Fm X Y (X.length - i)++[Fw X Y i (j+1)])).set (1+(X.length - i)) (.row (Df (Fw X Y i j)) 3 0 0)=Gb 55 3 X.length Y.length i (Fm X Y (X.length - i)++[Fw X Y i j]):=by rw[Bdw,A5o]
 rw[<-e4]at qB;generalize Gb 55 3 X.length Y.length i (Fm X Y (X.length - i)++[Fw X Y i (j+1)])=s2 at *;have o1:List.take 1 (List.drop i (E6 X.length Y.length i))=[.sl (1+(X.length - i)) 0 0 M 1 true]:=by rw[hM];exact Awp (Ak _) AA
 have o2:List.take 1 (List.drop (i+1) (E6 X.length Y.length i))=[.sl (1+(X.length - (i+1))) 0 0 M 1 true]:=by rw[hM];exact Awp AA AA
 have o3:(i+1<=(E6 X.length Y.length i).length)=True:=eq_true (by grind[Akq]);have o4:(i+1+1<=(E6 X.length Y.length i).length)=True:=eq_true (by grind);have i1:IntKind.i64.wrap ((i:Int)+1)=((i+1:Nat):Int):=A1 AA;have i2:(0<=((i+1:Nat):Int))=True:=eq_true AA;have i3:(((i+1:Nat):Int)<(N:Int))=True:=eq_true AA;have j0:(0<=(j:Int))=True:=eq_true AA;have j1:IntKind.i64.wrap ((j:Int)+1)=((j+1:Nat):Int):=A1 AA;have j2:(0<=((j+1:Nat):Int))=True:=eq_true AA;have j3:(((j+1:Nat):Int)<(M:Int))=True:=eq_true AA;have j4:((j:Int)<(M:Int))=True:=eq_true AA;have j5:IntKind.i64.wrap ((j:Int) - 1)=(j:Int) - 1:=Cs AA;have m1:(j+1<=(Df (Fw X Y i (j+1))).length)=True:=eq_true (by grind[Aaj,Akn]);have m2:(j+1+1<=(Df (Fw X Y i (j+1))).length)=True:=eq_true (by grind[Aaj,Akn]);have m3:(j+1+1<=(Df (Jt X Y (i+1))).length)=True:=eq_true (by grind[Aaj,Atm]);have m4:(j+1<=(Df (Jt X Y (i+1))).length)=True:=eq_true (by grind);have n1:=Aln (Aey X Y (i:=i+1) (k:=j+1) qg);have n2:=Aln (Aey X Y (i:=i+1) (k:=j) (Adv qg));have n3:=Aln (Atn X Y (i:=i) (j:=j+1) (k:=j+1) qg (Ak _));have e5:List.take j (Df (Fw X Y i (j+1)))++iV (D9 X Y i j:Int)::List.drop (j+1) (Df (Fw X Y i (j+1)))=Df (Fw X Y i j):=by rw[Atu (by grind[Akn]),A8x X Y qg]
 by_cases e:x=y
 .rw[if_pos e]at qi;have f1:(x==y)=true:=by simp[e]
  have f2:IntKind.i64.wrap (1+((D9 X Y (i+1) (j+1):Nat):Int))=((D9 X Y i j:Nat):Int):=by rw[qi,Cs AA];rfl
  simp only[go_sem,d1];refine Af AD ?_;simp only[go_sem,As,hx,hy];simp only[go_sem,f1];refine Af AD ?_;simp only[go_sem,r0,r1,r2,o1,o2,o3,o4,g1,g2,i1,i2,i3,j0,j1,j2,j3,j4,m1,m2,m3,m4,n1,n2,n3,c3];simp only[go_sem,f2,r0,m1,e5,c3];refine Re (by repeat (first | exact trivial | refine⟨.inl AK,?_⟩ | refine⟨by rfl,?_⟩ | refine⟨.inr ⟨by rfl,by rfl⟩,?_⟩)) (by repeat (first | exact trivial | refine⟨.inl AK,?_⟩ | refine⟨by rfl,?_⟩ | refine⟨.inr ⟨by rfl,by rfl⟩,?_⟩)) ?_;simp only[go_sem,j5];exact Aq qB rfl
 .rw[if_neg e]at qi;have f1:(x==y)=false:=by simp[e]
  have f2:max ((D9 X Y (i+1) j:Nat):Int) ((D9 X Y i (j+1):Nat):Int)=((D9 X Y i j:Nat):Int):=by rw[qi];omega
  simp only[go_sem,d1];refine Af AD ?_;simp only[go_sem,As,hx,hy];simp only[go_sem,f1];refine Af AD ?_;simp only[go_sem,r0,r1,r2,o1,o2,o3,o4,g1,g2,i1,i2,i3,j0,j1,j2,j3,j4,m1,m2,m3,m4,n1,n2,n3,c3];simp only[go_sem,f2,r0,m1,e5,c3];refine Re (by repeat (first | exact trivial | refine⟨.inl AK,?_⟩ | refine⟨by rfl,?_⟩ | refine⟨.inr ⟨by rfl,by rfl⟩,?_⟩)) (by repeat (first | exact trivial | refine⟨.inl AK,?_⟩ | refine⟨by rfl,?_⟩ | refine⟨.inr ⟨by rfl,by rfl⟩,?_⟩)) ?_;simp only[go_sem,j5];exact Aq qB rfl
/-! the reference's table -/
def Bb(l:List Int):List (List V):=l.map fun k=>[iV k]
theorem Hj(l:List Int):(Bb l).length=l.length:=by grind[Bb]
def O3(l:List Int):∀ r∈Bb l,r.length=1:=fun r hr=>by obtain⟨x,-,rfl⟩:=Cy.1 hr;rfl
def Xu(l:List Int):∀ r∈Bb l,r.all V.rowB=true:=fun r hr=>by obtain⟨x,-,rfl⟩:=Cy.1 hr;rfl
theorem A9f{D:List Int}{n i:Nat}(h:D.length=i)(hi:i<n)(v:Int):(D++List.replicate (n - i) 0).set i v=(D++[v])++List.replicate (n - (i+1)) 0:=by
 rw[Aij _ _ AA,h,Id,show n - i=(n - (i+1))+1 by omega,Ade,Adg,Br];rfl
def Bj6{D:List Int}{n:Nat}{e:Nat}(h:D.length=n):FR (.sl 0 0 0 n 1 true) [.row (Df D) e 0 0] (.lst 0 (Bb D)):=by
 have:=Ahc (σ:=[.row (Df D) e 0 0]) (i:=0) (g:=0) (m:=1) (e:=e) (xs:=Bb D) (by rw[Aru];rfl) AA (O3 D) (Xu D);rw[Hj,h]at this;exact this
set_option maxHeartbeats 4000000 in
def A9g(z1 z2:Bool)(t1 t2:Nat)(X Y:List (List UInt8))(hX:X.length<=4096)(hY:Y.length<=4096):Fn TT PT 46 [SL z1 t1 (X.map fun x=>[V.str x]),SL z2 t2 (Y.map fun x=>[V.str x])] (.lst 0 (Bb (Et 0 X Y))):=by
 refine Bj T46 rfl ?_;have qq:(X.map fun x=>[V.str x]).length=X.length:=Au ..;have qd:(Y.map fun x=>[V.str x]).length=Y.length:=Au ..;have q:=A37 z1 z2 t1 t2 X Y AA AA;unfold Acn at q;have a1:(4096<(X.length:Int))=False:=eq_false AA;have a2:(4096<(Y.length:Int))=False:=eq_false AA;have b1:(0<=(X.length:Int))=True:=eq_true AA;have b2:((X.length:Int)<=(X.length:Int))=True:=eq_true (Zy _);have b3:(X.length*8<=140737488355328)=True:=eq_true AA;have c3:∀ n:Nat,(0<=n)=True:=fun n=>eq_true (Ax n)
 simp only[go_sem,qq,qd,a1,a2];refine Ab q AB ?_;simp only[go_sem,qq,b1,b2,b3,Ajx,Akp];refine Bk (α:=Nat × Nat × List Int) (fun a=>X.length - a.1) (fun a=>[(0,SL z1 t1 (X.map fun x=>[V.str x])),(1,SL z2 t2 (Y.map fun x=>[V.str x])),(5,.lst 0 ((Wj X Y).map fun r=>[V.lst 0 (r.map fun x=>[iV x])])),(6,.sl 0 0 0 X.length 1 true),(7,iV (a.2.1:Int)),(25,iV (X.length:Int)),(26,iV (a.1:Int))]) (fun a=>[.row (Df (a.2.2++List.replicate (X.length - a.1) 0)) 3 0 0]) (fun a=>a.1<=X.length/\a.2.1<=Y.length/\a.2.2.length=a.1/\a.2.2++Et a.2.1 (X.drop a.1) (Y.drop a.2.1)=Et 0 X Y) ?_ (0,0,[]) ⟨Ax _,Ax _,rfl,by simp⟩;rintro⟨i,j,D⟩ ⟨hi,hj,hD,hA⟩ ih;simp only at hi hj hD hA ih;refine Bd Bo6 ?_;rcases Bh i X.length with qa | qa;rotate_left
 .obtain rfl:i=X.length:=by omega
  rw[List.drop_length,Et,B3]at hA;subst hA;rw[Id,List.replicate_zero,B3];simp only[go_sem,Bl qa];exact Bj6 hD
 obtain⟨x,hx,-,-⟩:=Bq qa;have g1:(0<=(i:Int))=True:=eq_true AA;have g2:((i:Int)<(X.length:Int))=True:=eq_true AA;have qT:(D++List.replicate (X.length - i) (0:Int)).length=X.length:=by rw[Ar,List.length_replicate];omega
 have m1:(i+1<=(Df (D++List.replicate (X.length - i) 0)).length)=True:=eq_true (by grind[Aaj]);obtain⟨nx,qI⟩:∃ nx:Int->List Int,∀ v,nx v=(D++[v])++List.replicate (X.length - (i+1)) 0:=⟨_,fun _=>rfl⟩;have e1:∀ v:Int,List.take i (Df (D++List.replicate (X.length - i) 0))++iV v::List.drop (i+1) (Df (D++List.replicate (X.length - i) 0))=Df (nx v):=fun v=>by grind[Atu,A9f]
 have i1:IntKind.i64.wrap ((i:Int)+1)=((i+1:Nat):Int):=A1 AA;simp only[go_sem,Ay qa];refine Bk (α:=Nat) (fun k=>Y.length - k) (fun k=>[(0,SL z1 t1 (X.map fun x=>[V.str x])),(1,SL z2 t2 (Y.map fun x=>[V.str x])),(5,.lst 0 ((Wj X Y).map fun r=>[V.lst 0 (r.map fun x=>[iV x])])),(6,.sl 0 0 0 X.length 1 true),(7,iV (j:Int)),(8,iV (i:Int)),(9,iV (k:Int)),(25,iV (X.length:Int)),(26,iV (i:Int))]) (fun _=>[.row (Df (D++List.replicate (X.length - i) 0)) 3 0 0]) (fun k=>j<=k/\k<=Y.length/\∀ k',j<=k'->k'<k->¬ Sc X Y i j k') ?_ j ⟨Ak _,hj,fun k' h1 h2=>by omega⟩;rintro k ⟨qP,hk,qo⟩ kh;refine Bd Bo5 ?_;rcases Bh k Y.length with qb | qb;rotate_left
 .obtain rfl:k=Y.length:=by omega
  rw[A8y qa qo]at hA;simp only[go_sem,Bl qb,qd,g1,g2,m1,c3,e1,i1];rw[qI];refine Aq (ih (i+1,j,D++[-1]) AA ⟨qa,hj,by simp[hD],?_⟩) rfl
  grind
 obtain⟨y,hy,-,-⟩:=Bq qb;have k1:IntKind.i64.wrap ((k:Int)+1)=((k+1:Nat):Int):=A1 AA;by_cases e:x=y;rotate_left
 .have f1:(x==y)=false:=by simp[e]
  simp only[go_sem,Ay qb,qd];refine Af AD ?_;simp only[go_sem,As,hx,hy,f1];simp only[go_sem,k1];refine Aq (kh (k+1) AA ⟨by omega,qb,fun k' h1 h2=>?_⟩) rfl;rcases Bh k' k with h | h
  .grind
  .obtain rfl:k'=k:=by omega
   intro hh;have:=hh.1
   grind
 have f1:(x==y)=true:=by simp[e]
 have T1:=Atq (Ato X Y (i:=i+1) qa);have T0:=Atq (Ato X Y (i:=i) (Adv qa));have n1:=A0e (Aey X Y (i:=i+1) (k:=k+1) qb);have n0:=A0e (Aey X Y (i:=i) (k:=j) hj);have l1:=Awm X Y (i+1) (k+1);have f2:IntKind.i64.wrap (1+((D9 X Y (i+1) (k+1):Nat):Int))=((1+D9 X Y (i+1) (k+1):Nat):Int):=by rw[Cs AA];rfl
 by_cases hh:1+D9 X Y (i+1) (k+1)=D9 X Y i j
 .have f3:(((1+D9 X Y (i+1) (k+1):Nat):Int)==((D9 X Y i j:Nat):Int))=true:=by rw[hh];simp
  have qu:Sc X Y i j k:=⟨by grind,hh⟩;rw[Bdt qa qP qb qu qo]at hA;simp only[go_sem,Ay qb,qd];refine Af AD ?_;simp only[go_sem,As,hx,hy,f1,i1,k1,T1,T0,n1,n0,f2,f3];simp only[go_sem,g1,g2,m1,c3,e1,k1,i1];rw[qI];refine Aq (ih (i+1,k+1,D++[(k:Int)]) AA ⟨qa,qb,by simp[hD],?_⟩) rfl;rw[Br];exact hA
 .have f3:(((1+D9 X Y (i+1) (k+1):Nat):Int)==((D9 X Y i j:Nat):Int))=false:=by
   rw[beq_eq_false_iff_ne];omega
  simp only[go_sem,Ay qb,qd];refine Af AD ?_;simp only[go_sem,As,hx,hy,f1,i1,k1,T1,T0,n1,n0,f2,f3];refine Aq (kh (k+1) AA ⟨by omega,qb,fun k' h1 h2=>?_⟩) rfl;rcases Bh k' k with h | h
  .grind
  .obtain rfl:k'=k:=by omega
   exact fun h=>hh h.2
def GS(σ:St)(m e:Nat)(u:V)(xs:List (List V)):Prop:=
 ((∀ r∈xs,r.length=m)/\∀ r∈xs,r.all V.rowB=true)/\((u=.nils/\xs=[])\/∃ i g r q,u=.sl i g 0 xs.length m true/\σ[i]?=some (.row (xs.flatten++r) e g 0)/\r.length=q*m/\r.all V.rowB=true)
def Abn{σ:St}{m e:Nat}:GS σ m e .nils []:=⟨⟨by simp,by simp⟩,.inl ⟨rfl,rfl⟩⟩
theorem J5{σ:St}{m e:Nat}{u:V}{xs:List (List V)}(h:GS σ m e u xs):u.cellB=true:=by
 rcases h.2 with⟨rfl,-⟩ | ⟨i,g,r,q,rfl,-⟩<;>rfl
def Abo{σ:St}{m e:Nat}{u:V}{xs:List (List V)}(h:GS σ m e u xs):Mt u=some (iV (xs.length:Int)):=by
 rcases h.2 with⟨rfl,rfl⟩ | ⟨i,g,r,q,rfl,-⟩<;>rfl
theorem C1{σ:St}{m e:Nat}{u:V}{xs:List (List V)}(h:GS σ m e u xs):∀ i∈u.refs,i<σ.length:=by
 rcases h.2 with⟨rfl,rfl⟩ | ⟨i,g,r,q,rfl,ho,-⟩
 .grind[V.refs]
 grind[V.refs]
def Ii{σ τ:St}{m e:Nat}{u:V}{xs:List (List V)}(h:GS σ m e u xs)(hk:∀ i∈u.refs,τ[i]?=σ[i]?):GS τ m e u xs:=by
 refine⟨h.1,?_⟩;rcases h.2 with h2 | ⟨i,g,r,q,rfl,ho,h2⟩
 .grind
 .exact .inr ⟨i,g,r,q,rfl,by grind[V.refs],h2⟩
theorem Z5{cs:List V}(h:cs.all V.rowB=true):Ag cs=[]:=Fr h
def Xv{σ:St}{m e bytes:Nat}{u:V}{xs:List (List V)}{row:List V}(h:GS σ m e u xs)(hm:0<m)(qA:row.length=m)(qp:row.all V.rowB=true)(hb:(xs.length+1)*bytes<=140737488355328):
  ∃ u' σ',Dv bytes (m,e) u (.lst 1 [row]) σ=some (u',σ')/\GS σ' m e u' (xs++[row])/\σ.length<=σ'.length/\(∀ j,j<σ.length->j ∉ u.refs->σ'[j]?=σ[j]?)/\(∀ j∈u'.refs,j∈u.refs\/σ.length<=j)/\(Cl σ->Cl σ'):=by
 obtain⟨⟨hl,hr⟩,h⟩:=h;have qt:([row].all fun r=>r.length==m)=true:=by simp[qA]
 have qv:∀ r∈xs++[row],r.length=m:=fun r hx=>by
  grind
 have qz:∀ r∈xs++[row],r.all V.rowB=true:=fun r hx=>by
  grind
 unfold Dv;simp only[Ew,C8];unfold Js;rw[if_pos ⟨qt,hm⟩];rcases h with⟨rfl,rfl⟩ | ⟨i,g,r,q,rfl,ho,hq,qh⟩
 .simp only;rw[if_pos AA,if_neg AE];refine⟨_,_,rfl,⟨⟨qv,qz⟩,.inr ⟨σ.length,0,[],0,rfl,by simp,by simp,rfl⟩⟩,by simp,fun j hj _=>Eb hj,fun j hj=>?_,fun hc=>Jd hc ?_⟩
  .grind[V.refs]
  grind[Ob.refs,Z5]
 .have hi:i<σ.length:=(Al.1 ho).1;have hf:=Ge hl;have qU:(xs.flatten++r).length=xs.length*m+q*m:=by rw[Ar,hf,hq]
  simp only;rw[if_pos ⟨hb,trivial⟩];simp only[ho,if_true];rw[if_neg AE,if_pos ⟨trivial,trivial,trivial,Ax _⟩];have qw:(xs.length+[row].length)*m=xs.length*m+m:=by rw[Q4,Gy]
  by_cases h0:q=0
  .subst h0;have qJ:r=[]:=U0.1 AA;subst qJ;rw[if_neg AA,if_pos AA];refine⟨_,_,rfl,⟨⟨qv,qz⟩,.inr ⟨i,g+1,[],0,by grind,?_,by simp,rfl⟩⟩,by simp,fun j hj hn=>?_,fun j hj=>.inl hj,fun hc=>F8 hc ?_⟩
   .grind
   .grind[V.refs]
   grind[Ob.refs,Z5]
  .have qZ:m<=q*m:=Nat.le_mul_of_pos_left m AA;rw[if_pos AA,qw];have e1:(xs.flatten++r).take (xs.length*m)=xs.flatten:=by rw[<-hf,Ado]
   have e2:(xs.flatten++r).drop (xs.length*m+m)=r.drop m:=by rw[<-hf,Aiq,Ec AA,Be,Nat.add_sub_cancel_left]
   rw[e1,e2];have qQ:(r.drop m).all V.rowB=true:=Bw.2 fun c hc=>Bw.1 qh c (Zg hc)
   refine⟨_,_,rfl,⟨⟨qv,qz⟩,.inr ⟨i,g,r.drop m,q - 1,by grind,?_,?_,qQ⟩⟩,by simp,fun j hj hn=>?_,fun j hj=>.inl hj,fun hc=>F8 hc ?_⟩
   .grind
   .simp_all [Nat.sub_mul]
   .grind[V.refs]
   grind[Ob.refs,Z5]
def Ays{σ:St}{m e:Nat}{u:V}{xs:List (List V)}{row:List V}(h:GS σ m e u (xs++[row])):∃ u',Hb m u none (some (iV (xs.length:Int))) none=some u'/\GS σ m e u' xs/\u'.refs=u.refs:=by
 obtain⟨⟨hl,hr⟩,h⟩:=h;rcases h with⟨-,h⟩ | ⟨i,g,r,q,rfl,ho,hq,qh⟩
 .simp at h
 .refine⟨.sl i g 0 xs.length m true,?_,⟨⟨fun r hx=>hl r (Adb _ hx),fun r hx=>hr r (Adb _ hx)⟩,.inr ⟨i,g,row++r,q+1,rfl,?_,?_,?_⟩⟩,rfl⟩
  .simp[Hb,Dz]
  .grind
  .grind
  grind
def Bj7{σ:St}{m e:Nat}{u:V}{xs:List (List V)}{row:List V}{i:Nat}(h:GS σ m e u xs)(hi:xs[i]?=some row):∃ j g cs,u=.sl j g 0 xs.length m true/\σ[j]?=some (.row cs e g 0)/\i*m+m<=cs.length/\(cs.drop (i*m)).take m=row:=by
 obtain⟨⟨hl,hr⟩,h⟩:=h;have qG:=(Al.1 hi).1;rcases h with⟨-,rfl⟩ | ⟨j,g,r,q,rfl,ho,hq,qh⟩
 .grind
 .have hf:=Ge hl;have qH:i*m+m<=xs.length*m:=by rw[<-Gy];exact E1 m qG
  refine⟨j,g,_,rfl,ho,by grind,?_⟩
  have hs:xs=xs.take i++row::xs.drop (i+1):=by
   have h1:=Hv qG;rw[(Al.1 hi).2]at h1;rw[<-h1,L8]
  have ht:(xs.take i).flatten.length=i*m:=by
   rw[Ge fun r hr=>hl r (Ni hr),Ip,Zn AA]
  grind
theorem Anw{σ:St}{m e:Nat}{u:V}{xs:List (List V)}(h:GS σ m e u xs)(hm:0<m):∃ z,OC σ u (SL z 0 xs):=by
 obtain⟨⟨hl,hr⟩,h⟩:=h;rcases h with⟨rfl,rfl⟩ | ⟨i,g,r,q,rfl,ho,hq,qh⟩
 .exact⟨true,Fj rfl⟩
 .refine⟨false,fun js hj d=>?_⟩
  have hi:js.elem i=true:=by
   have:=hj i AS;simpa using this
  have hf:=Ge hl;unfold Fc;rw[if_neg AN];simp only[hi,if_true,ho];rw[if_pos ⟨trivial,hm,by grind⟩,L9,<-hf,Ado,Vm fun c hc=>?_]
  .simp only[Jc,U9 hl];rfl
  grind[U8]
theorem Bj8(a b c cells:List V)(h:c.length=cells.length):Ql (a++(c++b)) a.length cells=some (a++(cells++b)):=by
 unfold Ql
 grind
def Bj9{σ:St}{m e:Nat}{u:V}{xs:List (List V)}{r0 row:List V}(h:GS σ m e u (xs++[r0]))(qA:row.length=m)(qp:row.all V.rowB=true):∃ j g cs',u=.sl j g 0 (xs.length+1) m true/\j<σ.length/\(∀ τ:St,τ[j]?=σ[j]?->Ri τ m (.ptr j g (0+xs.length*m)) (.agg row)=some (τ.set j (.row cs' e g 0))/\(j<τ.length->GS (τ.set j (.row cs' e g 0)) m e u (xs++[row])))/\Ag cs'=[]:=by
 obtain⟨⟨hl,hr⟩,h⟩:=h;rcases h with⟨-,h⟩ | ⟨j,g,r,q,rfl,ho,hq,qh⟩
 .simp at h
 .have hf:=Ge fun r hx=>hl r (Adb _ hx)
  have qJ:=hl r0 AE;have hx:xs.flatten.all V.rowB=true:=Ie fun r hx=>hr r (Adb _ hx)
  have qj:row.all V.cellB=true:=Vv qp;have qN:(V.agg row).cells=row:=rfl;refine⟨j,g,xs.flatten++(row++r),by simp,(Al.1 ho).1,fun τ hk=>⟨?_,fun hj=>⟨⟨fun r hx=>?_,fun r hx=>?_⟩,.inr ⟨j,g,r,q,by simp,?_,hq,qh⟩⟩⟩,?_⟩
  .simp only[Ri,hk,ho,qN];rw[if_pos ⟨trivial,Ax _,qA,qj⟩,Gd,<-hf]
   grind[Bj8]
  .grind
  .grind
  .grind
  grind[Z5]
/-! what a struct and its lists may change -/
def fp(σ:St)(w:Nat):List Nat:=w::match σ[w]? with
 | some ob=>ob.refs
 | none=>[]
def Aml{σ:St}{w:Nat}{cs:List V}{t g z:Nat}(h:σ[w]?=some (.row cs t g z)):fp σ w=w::Ag cs:=by
 unfold fp;rw[h];rfl
def FW(w:Nat)(σ τ:St):Prop:=σ.length<=τ.length/\(∀ j,j<σ.length->j ∉ fp σ w->τ[j]?=σ[j]?)/\(∀ j∈fp τ w,j∈fp σ w\/σ.length<=j)
def Alo(w:Nat)(σ:St):FW w σ σ:=⟨Ak _,fun _ _ _=>rfl,fun _ h=>.inl h⟩
def Fu{w:Nat}{σ τ υ:St}(h:FW w σ τ)(h':FW w τ υ):FW w σ υ:=by
 refine⟨C9 h.1 h'.1,fun j hj hn=>?_,fun j hj=>?_⟩
 .rw[h'.2.1 j (by have:=h.1;omega) fun hm=>?_,h.2.1 j hj hn];rcases h.2.2 j hm with h2 | h2
  .grind
  .omega
 .rcases h'.2.2 j hj with h2 | h2
  .exact h.2.2 j h2
  .exact .inr (by have:=h.1;omega)
theorem Alp{w:Nat}{σ:St}(l:St)(hw:w<σ.length):FW w σ (σ++l):=by
 refine⟨by simp,fun j hj _=>Eb hj,fun j hj=>?_⟩
 grind[fp]
def Ayt{w:Nat}{σ τ:St}{j:Nat}{x:Ob}(h:FW w σ τ)(hj:σ.length<=j)(hw:w<σ.length):FW w σ (τ.set j x):=by
 refine⟨by simpa using h.1,fun i hi hn=>?_,fun i hi=>?_⟩
 .rw[Cc AA];exact h.2.1 i hi hn
 .unfold fp at hi;rw[Cc AA]at hi;exact h.2.2 i hi
def Amm{w:Nat}{σ τ:St}{cs:List V}{t g z:Nat}(h:FW w σ τ)(hw:w<σ.length)(hc:∀ j∈Ag cs,j∈fp σ w\/σ.length<=j):FW w σ (τ.set w (.row cs t g z)):=by
 have hm:w∈fp σ w:=by unfold fp;exact B7
 refine⟨by simpa using h.1,fun i hi hn=>?_,fun i hi=>?_⟩
 .rw[Cc (fun e=>hn (by grind))];exact h.2.1 i hi hn
 .rw[Aml (Cm (by have:=h.1;omega))]at hi
  grind
def Ayu{w:Nat}{σ τ υ:St}{B:List Nat}(h:FW w σ τ)(hw:w<σ.length)(hl:τ.length<=υ.length)(hB:∀ j∈B,j∈fp σ w\/σ.length<=j)(hk:∀ j,j<τ.length->j ∉ B->υ[j]?=τ[j]?)(qS:w ∉ B):FW w σ υ:=by
 refine⟨C9 h.1 hl,fun i hi hn=>?_,fun i hi=>?_⟩
 .rw[hk i (by have:=h.1;omega) fun hm=>?_,h.2.1 i hi hn]
  grind
 .unfold fp at hi;rw[hk w (by have:=h.1;omega) qS]at hi;exact h.2.2 i hi
def Agf(a:Int):Fn TT PT 136 [iV a] (.bool false):=by
 refine Bj T136 rfl ?_;simp only[go_sem];exact Ah rfl AE
def Aa1(a b:Int):Fn TT PT 97 [iV a,iV b] (iV (Lib.compareInt a b)):=by
 refine Bj T97 rfl ?_;simp only[go_sem]
 first | refine Ab (Agf a) AH ?_ | refine Bg (Agf a) AH ?_
 simp only[go_sem]
 first | refine Ab (Agf b) AH ?_ | refine Bg (Agf b) AH ?_
 simp only[go_sem];refine Lo (fun h=>?_) (fun h=>?_)
 .simp only[go_sem,h];refine Ah rfl ?_
  grind[Lib.compareInt]
 .simp only[go_sem,h];refine Lo (fun h=>?_) (fun h=>?_)
  .simp only[go_sem,h];refine Ah rfl ?_
   simp_all [Lib.compareInt]
  .simp only[go_sem,h];refine Ah rfl ?_
   simp_all [Lib.compareInt,if_neg]
def Sj:List Int->Int
 | []=>0
 | a::r=>if a≠0 then a else Sj r
def Agg(t:Nat)(xs:List Int)(hn:xs.length<9223372036854775807):Fn TT PT 96 [.lst t (xs.map fun a=>[iV a])] (iV (Sj xs)):=by
 refine Bj T96 rfl ?_;simp only[go_sem,Au];refine Bk (fun i=>xs.length - i) (fun i:Nat=>[(3,iV 0),(6,.lst t (xs.map fun a=>[iV a])),(7,iV xs.length),(8,iV i)]) (fun _=>[]) (fun i=>i<=xs.length/\Sj xs=Sj (xs.drop i)) ?_ 0 ⟨by omega,rfl⟩;rintro i ⟨hi,ho⟩ ih;refine Bd Bps ?_;rcases Bh i xs.length with h | h
 .obtain⟨x,hx,hd,-⟩:=Bq h;rw[hd,Sj]at ho;simp only[go_sem,Ay h,hx,As];refine Lo (fun h2=>?_) (fun h2=>?_)
  .simp only[go_sem];refine Ah rfl ?_
   grind
  .simp only[go_sem,A1 (Nat.lt_trans h hn)];refine Aq (ih (i+1) AA ⟨by omega,?_⟩) rfl
   grind
 .simp only[go_sem,Bl h];refine Ah rfl ?_;rw[ho,Ec h];rfl
def Te(t u:Nat)(a b:Int):Fn TT PT 32 [.lst t [[iV a]],.lst u [[iV b]]] (iV (Lib.compareInt a b)):=by
 refine Bj T32 rfl ?_;simp only[go_sem];refine Bd A0m ?_;simp only[go_sem];refine Af AD ?_;simp only[go_sem];refine Lo (fun h1=>?_) (fun h1=>?_)
 .simp only[go_sem];refine Af AD ?_;simp only[go_sem];refine Lo (fun h2=>?_) (fun h2=>?_)
  .simp only[go_sem];simp at h2;exact Ah rfl (by grind[Lib.compareInt])
  .simp only[go_sem];simp at h1 h2;exact Ah rfl (by rw[Lib.compareInt,if_neg AA,if_pos AA])
 .simp only[go_sem];refine Bd A0m ?_;simp only[go_sem];simp at h1;exact Ah rfl (by simp_all [Lib.compareInt])
/-! keys -/
abbrev Aj:=List UInt8 × List UInt8 × Int
def Aw(k:Aj):List V:=[.str k.1,.str k.2.1,iV k.2.2]
def Nc(a b:Aj):Int:=if a.1≠b.1 then Lib.compareBytes a.1 b.1 else if a.2.1≠b.2.1 then Lib.compareBytes a.2.1 b.2.1 else Lib.compareInt a.2.2 b.2.2
def Atv(a b:Aj):Fn TT PT 33 [.agg (Aw a),.agg (Aw b)] (iV (Nc a b)):=by
 refine Bj T33 rfl ?_;unfold Aw;simp only[go_sem];refine Lo (fun h1=>?_) (fun h1=>?_)
 .simp only[go_sem]
  first | refine Fl P57 AH AK ?_ | refine Af7 P57 AH AK ?_
  simp only[go_sem];refine Ah rfl ?_
  grind[Nc]
 .simp only[go_sem];refine Lo (fun h2=>?_) (fun h2=>?_)
  .simp only[go_sem]
   first | refine Fl P57 AH AK ?_ | refine Af7 P57 AH AK ?_
   simp only[go_sem];refine Ah rfl ?_
   grind[Nc]
  .simp only[go_sem]
   first | refine Ab (Te _ _ a.2.2 b.2.2) AH ?_ | refine Bg (Te _ _ a.2.2 b.2.2) AH ?_
   simp only[go_sem];refine Ah rfl ?_
   grind[Nc]
theorem Awq:∀ l:List UInt8,Lib.compareBytes l l=0
 | []=>rfl
 | a::l=>by
  simp[Lib.compareBytes,Awq l]
theorem Awr:∀ {a b:List UInt8},Lib.compareBytes a b=0->a=b
 | [],[],_=>rfl
 | [],_::_,h=>by grind[Lib.compareBytes]
 | _::_,[],h=>by grind[Lib.compareBytes]
 | a::r,b::s,h=>by
  simp only[Lib.compareBytes]at h
  split at h
  .omega
  .split at h
   .omega
   .rename_i h1 h2;rw[Awr h]
    grind
def A9h(a b:Aj):Sj [Lib.compareBytes a.1 b.1,Lib.compareBytes a.2.1 b.2.1,Lib.compareInt a.2.2 b.2.2]=Nc a b:=by
 grind[Nc,Sj,Awq,Awr]
def Atw(a b:Aj):Fn TT PT 99 [.agg (Aw a),.agg (Aw b)] (iV (Nc a b)):=by
 refine Bj T99 rfl ?_;unfold Aw;simp only[go_sem];refine Af AD ?_;simp only[go_sem]
 first | refine Fl P57 AH AK ?_ | refine Af7 P57 AH AK ?_
 simp only[go_sem]
 first | refine Fl P57 AH AK ?_ | refine Af7 P57 AH AK ?_
 simp only[go_sem]
 first | refine Ab (Aa1 a.2.2 b.2.2) AH ?_ | refine Bg (Aa1 a.2.2 b.2.2) AH ?_
 simp only[go_sem]
 first | refine Ab (Agg 1 [_,_,_] AE) AH ?_ | refine Bg (Agg 1 [_,_,_] AE) AH ?_
 simp only[go_sem];exact Ah rfl (by rw[A9h])
/-! entries -/
structure Ent where
 kind:Int
 sites:List Aj
 seen:Int
 missed:Int
 z:Bool:=true
 t:Nat:=0
def Ent.sl(x:Ent):V:=SL x.z x.t (x.sites.map Aw)
def Ent.row(x:Ent):List V:=[iV x.kind,x.sl,iV x.seen,iV x.missed]
def Gu:List Aj->List Aj->Int
 | [],[]=>0
 | [],_::_ => -1
 | _::_,[]=>1
 | a::r,b::s=>if Nc a b≠0 then Nc a b else Gu r s
def C7(x y:Ent):Int:=if x.kind≠y.kind then Lib.compareInt x.kind y.kind else Gu x.sites y.sites
def Alq(x y:Ent)(hx:x.sites.length<=9223372036854775807)(hy:y.sites.length<=9223372036854775807):Fn TT PT 10 [.agg x.row,.agg y.row] (iV (C7 x y)):=by
 refine Bj T10 rfl ?_;unfold Ent.row Ent.sl;simp only[go_sem];refine Lo (fun h1=>?_) (fun h1=>?_)
 .simp only[go_sem]
  first | refine Ab (Te _ _ _ _) AH ?_ | refine Bg (Te _ _ _ _) AH ?_
  simp only[go_sem];simp at h1;exact Ah rfl (by grind[C7])
 .simp only[go_sem];simp at h1;have he:C7 x y=Gu x.sites y.sites:=by simp[C7,h1]
  rw[he]
  refine Bk (fun i=>x.sites.length - i) (fun i:Nat=>[(2,.ptr 0 0 0),(3,.ptr 1 0 0),(5,iV i)]) (fun _=>[.row [iV x.kind,SL x.z x.t (x.sites.map Aw),iV x.seen,iV x.missed] 43 0 0,.row [iV y.kind,SL y.z y.t (y.sites.map Aw),iV y.seen,iV y.missed] 43 0 0])
   (fun i=>i<=x.sites.length/\i<=y.sites.length/\Gu x.sites y.sites=Gu (x.sites.drop i) (y.sites.drop i)) ?_ 0 ⟨by omega,by omega,rfl⟩
  rintro i ⟨hi,qF,ho⟩ ih;refine Bd Bn9 ?_;rcases Bh i x.sites.length with h | h
  .obtain⟨a,ha,qk,-⟩:=Bq h;rcases Bh i y.sites.length with h2 | h2
   .obtain⟨b,hb,qe,-⟩:=Bq h2;rw[qk,qe,Gu]at ho;simp only[go_sem,Ay h,Ay h2,ha,hb,As,Au];refine Af AD ?_;simp only[go_sem,Ay h,Ay h2,ha,hb,As,Au,Aw]
    first | refine Ab (Atv a b) AH ?_ | refine Bg (Atv a b) AH ?_
    simp only[go_sem];refine Lo (fun h3=>?_) (fun h3=>?_)
    .simp only[go_sem];simp at h3;exact Ah rfl (by grind)
    .simp only[go_sem,A1 (Px h hx)];simp at h3;refine Aq (ih (i+1) AA ⟨by omega,by omega,by omega⟩) rfl
   .simp only[go_sem,Ay h,Bl h2,Au]
    first | refine Ab (Te _ _ _ _) AH ?_ | refine Bg (Te _ _ _ _) AH ?_
    simp only[go_sem];refine Ah rfl ?_;rw[ho,qk,Ec h2,Gu,Lib.compareInt,if_neg AA,if_pos AA]
  .simp only[go_sem,Bl h,Au]
   first | refine Ab (Te _ _ _ _) AH ?_ | refine Bg (Te _ _ _ _) AH ?_
   simp only[go_sem];refine Ah rfl ?_;rw[ho,Ec h];rcases Bh i y.sites.length with h2 | h2
   .obtain⟨b,hb,qe,-⟩:=Bq h2;rw[qe,Gu,Lib.compareInt,if_pos AA]
   .rw[Ec h2,Gu,Lib.compareInt,if_neg AA,if_neg AA]
def Bp5(x y:Ent)(hx:x.sites.length<=9223372036854775807)(hy:y.sites.length<=9223372036854775807)(σ:St):
  Th TT PT 98 [x.sl,y.sl,.fn 99 [] []] σ (iV (Gu x.sites y.sites)) σ:=by
 refine Bnh T98 rfl ?_;unfold Ent.sl;simp only[go_sem,Au]
 refine Bk (α:=Nat × St) (fun a=>x.sites.length - a.1) (fun a=>[(0,SL x.z x.t (x.sites.map Aw)),(1,SL y.z y.t (y.sites.map Aw)),(2,.fn 99 [] []),(11,SL x.z x.t (x.sites.map Aw)),(12,iV x.sites.length),(13,iV a.1)]) (fun a=>a.2)
   (fun a=>a.1<=x.sites.length/\a.1<=y.sites.length/\Gu x.sites y.sites=Gu (x.sites.drop a.1) (y.sites.drop a.1)/\∃ J,a.2=σ++J) ?_ (0,σ) ⟨by simp,by simp,rfl,[],by simp⟩
 rintro⟨i,s⟩ ⟨hi,qF,ho,J,hJ⟩ ih;simp only at hi qF ho hJ ih;refine Bd Bpt ?_;rcases Bh i x.sites.length with h | h
 .obtain⟨a,ha,qk,-⟩:=Bq h;rcases Bh i y.sites.length with h2 | h2
  .obtain⟨b,hb,qe,-⟩:=Bq h2;rw[qk,qe,Gu]at ho;simp only[go_sem,Ay h,ha,As,Au,Aw,Bq8 h2,hb]
   first | refine Ab (Atw a b) AH ?_ | refine Bg (Atw a b) AH ?_
   simp only[go_sem];refine Lo (fun h3=>?_) (fun h3=>?_)
   .simp only[go_sem];simp at h3;rw[ho,if_pos h3,hJ,Br];exact Afh _ rfl
   .simp only[go_sem,A1 (Px h hx)];simp at h3;refine Aq (ih (i+1,_) AA ⟨by omega,by omega,by grind,_,by simp only;rw[hJ,Br]⟩) rfl
  .simp only[go_sem,Ay h,ha,As,Au,Aw,Bq7 h2];rw[ho,qk,Ec h2,Gu,hJ,Br];exact Afh _ rfl
 .have hk:Gu x.sites y.sites=if x.sites.length<y.sites.length then -1 else 0:=by
   rw[ho,Ec h];rcases Bh i y.sites.length with h2 | h2
   .obtain⟨b,hb,qe,-⟩:=Bq h2;rw[qe,Gu,if_pos AA]
   .rw[Ec h2,Gu,if_neg AA]
  simp only[go_sem,Bl h,Au];rw[hk,hJ];refine Lo (fun h2=>?_) (fun h2=>?_)
  .simp only[go_sem];rw[if_pos (by grind)];exact Afh _ rfl
  .simp only[go_sem];rw[if_neg (by grind)];exact Afh _ rfl
def A9i(x y:Ent):Sj [Lib.compareInt x.kind y.kind,Gu x.sites y.sites]=C7 x y:=by
 grind[C7,Sj,Lib.compareInt]
def A38(x y:Ent)(hx:x.sites.length<=9223372036854775807)(hy:y.sites.length<=9223372036854775807):Fn TT PT 56 [.agg x.row,.agg y.row] (iV (C7 x y)):=by
 refine Bj T56 rfl ?_;have cx:x.sl.cellB=true:=Td ..;have cy:y.sl.cellB=true:=Td ..;unfold Ent.row;simp only[go_sem,cx,cy];refine Af AD ?_;simp only[go_sem]
 first | refine Ab (Aa1 x.kind y.kind) AH ?_ | refine Bg (Aa1 x.kind y.kind) AH ?_
 simp only[go_sem];refine Abi (Bp5 x y hx hy _) (by repeat (first | exact trivial | refine⟨.inl AK,?_⟩ | refine⟨by rfl,?_⟩ | refine⟨.inr ⟨by rfl,by rfl⟩,?_⟩)) (by repeat (first | exact trivial | refine⟨.inl AK,?_⟩ | refine⟨by rfl,?_⟩ | refine⟨.inr ⟨by rfl,by rfl⟩,?_⟩)) ?_;simp only[go_sem]
 first | refine Ab (Agg 1 [_,_] AE) AH ?_ | refine Bg (Agg 1 [_,_] AE) AH ?_
 simp only[go_sem];exact Ah rfl (by rw[A9i])
def Afk(x y:Ent)(hx:x.sites.length<=9223372036854775807)(hy:y.sites.length<=9223372036854775807):Fn TT PT 28 [.agg x.row,.agg y.row] (.bool (decide (C7 x y<0))):=by
 refine Bj T28 rfl ?_;have cx:x.sl.cellB=true:=Td ..;have cy:y.sl.cellB=true:=Td ..;have rx:x.sl.rowB=true:=Hq ..;have ry:y.sl.rowB=true:=Hq ..;unfold Ent.row;simp only[go_sem,cx,cy];refine Ab (A38 x y hx hy) (by simp only[go_sem,Ent.row,rx,ry]) ?_;simp only[go_sem];exact F7 rfl
abbrev eR (x:Ent) (w:V):List V:=[iV x.kind,w,iV x.seen,iV x.missed]
abbrev eO (x:Ent) (w:V):Ob:=.row (eR x w) 43 0 0
abbrev kR (k:Aj):List V:=[.str k.1,.str k.2.1,iV k.2.2]
def Gz(l:List Aj):∀ r∈l.map Aw,r.length=3:=by
 intro r hr;obtain⟨k,_,rfl⟩:=Cy.1 hr;rfl
theorem M3(l:List Aj):∀ r∈l.map Aw,r.all V.rowB=true:=by
 intro r hr;obtain⟨k,_,rfl⟩:=Cy.1 hr;rfl
def Bd3(x:Ent):Dc (.agg x.row)=true:=by
 have:=Hq x.z x.t (x.sites.map Aw);simp only[go_sem,Ent.row,Ent.sl]
@[go_sem] theorem Vq (x:Ent):x.row=(eR x x.sl):=Bu rfl
@[go_sem] theorem Bsx (x:Ent):x.sl.rowB=true:=Hq ..
@[go_sem] theorem Bsp (x:Ent):x.sl.cellB=true:=Td ..
@[go_sem] theorem Bsl (x:Ent):x.sl.cells=[x.sl]:=Atb ..
@[go_sem] theorem Bsy (x:Ent):Dc x.sl=true:=Abj ..
@[go_sem] theorem Bsz (x:Ent):Mt x.sl=some (iV (x.sites.length:Int)):=(Af8 ..).trans (by grind)
@[go_sem] theorem Bsq (x:Ent) (σ:St) (m:Nat):Ew σ m x.sl=some (x.sites.map Aw):=Aaz ..
theorem Gk(l:List Ent):∀ r∈l.map Ent.row,r.length=4:=by
 intro r hr;obtain⟨k,_,rfl⟩:=Cy.1 hr;rfl
def Bd4(x:Ent):x.row.all V.rowB=true:=Bd3 x
def Ow(l:List Ent):∀ r∈l.map Ent.row,r.all V.rowB=true:=by
 intro r hr;obtain⟨k,_,rfl⟩:=Cy.1 hr;simp[Bd4]
def D0(e:Ent):List Ent->Nat
 | []=>0
 | x::r=>if C7 x e<0 then D0 e r+1 else 0
theorem Ajy(e:Ent):∀ l,D0 e l<=l.length
 | []=>Ak _
 | x::r=>by
  simp only[D0,Ao];have:=Ajy e r
  grind
def Iw(e:Ent)(l:List Ent):Bool:=match l[D0 e l]? with
 | some x=>C7 x e==0
 | none=>false
def Wp(l:List Ent):Prop:=∀ x∈l,x.sites.length<=9223372036854775807
def Atx(z:Bool)(t:Nat)(l:List Ent)(e:Ent)(hl:l.length<=9223372036854775807)(ho:Wp l)(he:e.sites.length<=9223372036854775807):
  Fn TT PT 49 [SL z t (l.map Ent.row),.agg e.row] (.tup [iV (D0 e l:Int),.bool (Iw e l)]):=by
 refine Bj T49 rfl ?_;simp only[go_sem];refine Bk (fun i=>l.length - i) (fun i:Nat=>[(0,SL z t (l.map Ent.row)),(3,.ptr 0 0 0),(6,iV i)]) (fun _=>[.row e.row 43 0 0]) (fun i=>i<=l.length/\D0 e l=i+D0 e (l.drop i)) ?_ 0 ⟨by omega,by simp⟩;rintro i ⟨hi,hp⟩ ih;refine Bd Bo8 ?_;rcases Bh i l.length with h | h
 .obtain⟨x,hx,hd,hm⟩:=Bq h;rw[hd,D0]at hp;simp only[go_sem];refine Af AD ?_;simp only[go_sem,Ay h,Au,As,hx];refine Bg (Alq x e (ho x hm) he) AB ?_;simp only[go_sem];refine Lo (fun h3=>?_) (fun h3=>?_)
  .simp only[go_sem,A1 (Px h hl)];refine Aq (ih (i+1) AA ⟨by omega,?_⟩) rfl
   grind
  .simp only[go_sem];rw[if_neg (by grind)]at hp;have qx:D0 e l=i:=by omega
   refine Af AD ?_;simp only[go_sem,Ay h,Au,As,hx];refine Bg (Alq x e (ho x hm) he) AB ?_;simp only[go_sem];rw[Iw,qx,hx];exact Gr rfl
 .simp only[go_sem];refine Af AD ?_;simp only[go_sem,Bl h,Au];have qx:D0 e l=i:=by rw[hp,Ec h,D0];rfl
  refine Af AD ?_;simp only[go_sem,Bl h,Au];rw[Iw,qx,List.getElem?_eq_none h];exact Gr rfl
def Ent.own(e:Ent):Ent:={ e with z:=true,t:=0 }
def Bka{σ:St}{e lo:Nat}{u:V}{x:Ent}(h:GW σ 3 e lo u (x.sites.map Aw)):FR (.agg (eR x u)) σ (.agg x.own.row):=
 Bi3 (pre:=[iV x.kind]) (post:=[iV x.seen,iV x.missed]) h AA (Gz _) (M3 _) rfl rfl
def A5z(e:Ent)(he:e.sites.length<=1000000):Fn TT PT 78 [.agg e.row] (.agg e.own.row):=by
 obtain⟨u1,s1,e1,g1,l1,-,f1⟩:=Hz (lo:=2) (σ:=[eO e e.sl,.row [iV 0,.nils,iV 0,iV 0] 43 0 0]) (m:=3) (e:=45) (bytes:=40) (y:=e.sl) (ys:=e.sites.map Aw) Ds AE (Aaz ..) AA AE (Gz _) (by grind);have q0:=f1 0 AE;have q1:=f1 1 AE;rw[Be]at g1;have hl:2<=s1.length:=l1
 match s1,q0,q1,hl with
 | a::b::J,q0,q1,_=>
 cases q0;cases q1;refine Bj T78 rfl ?_;simp only[go_sem,e1,Nv (Ce g1),Ce g1];exact Bka (σ:=eO e u1::eO e u1::J) (D5 (j:=1) (x:=eO e u1) (D5 (j:=0) (x:=eO e u1) g1 AA) AA)
def Bd5(z:Bool)(t:Nat)(l:List Ent)(i:Nat)(e:Ent)(hi:i<=l.length)(hl:l.length<=1000000)(he:e.sites.length<=1000000):
  Fn TT PT 50 [SL z t (l.map Ent.row),iV (i:Int),.agg e.row] (SL true 0 ((l.take i++e.own::l.drop i).map Ent.row)):=by
 have hc:=A5z e he;obtain⟨za,ta,ha⟩:=Xd z t 4 (l.map Ent.row) .i64 i (by grind);obtain⟨zb,tb,hb⟩:=A5b z t 4 (l.map Ent.row) .i64 i (by grind) (Gk _);rw[<-W5]at ha;rw[<-Aiz]at hb;obtain⟨u1,s1,e1,g1,l1,-,f1⟩:=Hz (lo:=1) (σ:=[.row e.row 43 0 0]) (m:=4) (e:=43) (bytes:=48) (y:=SL za ta ((l.take i).map Ent.row)) Ds AE (Aaz ..) AA AE (Gk _) (by grind);rw[Be]at g1;have q1:=f1 0 AE;obtain⟨u2,s2,e2,g2,l2,-,f2⟩:=Hz (m:=4) (e:=43) (bytes:=48) (y:=.sl s1.length 0 0 1 4 true) (ys:=[e.own.row]) (Gm (l:=[.row e.own.row 43 0 0]) g1) (by grind) (by simp only[Ew,Oy]<;>rfl) AA (Gk _) (by simp[Ent.row]) (by grind);rw[Ar]at l2
 have qm:∀ r∈(l.take i).map Ent.row++[e.own.row],r.length=4:=by
  intro r hr;rcases Ct.1 hr with h | h
  .grind[Gk]
  .simp at h;rw[h];rfl
 obtain⟨u3,s3,e3,g3,l3,-,f3⟩:=Hz (m:=4) (e:=43) (bytes:=48) (y:=SL zb tb ((l.drop i).map Ent.row)) g2 (by grind) (Aaz ..) AA qm (Gk _) (by grind);have hw:((l.take i).map Ent.row++[e.own.row])++(l.drop i).map Ent.row=(l.take i++e.own::l.drop i).map Ent.row:=by simp
 rw[hw]at g3;refine Bj T50 rfl ?_;simp only[Vq]at e1 e2 q1;simp only[go_sem,ha,e1,q1];refine Ab hc AB ?_;simp only[go_sem,e2,hb,e3];exact Ru g3 AA (Gk _) (Ow _)
def K1(e':Ent)(l:List Ent):List Ent:=if Iw e' l then l else l.take (D0 e' l)++e'::l.drop (D0 e' l)
def Ajc(e:Ent):∀ l,D0 e.own l=D0 e l
 | []=>rfl
 | x::r=>by simp only[D0,Ajc e r];rfl
def A39(e:Ent)(l:List Ent):Iw e.own l=Iw e l:=by
 unfold Iw;rw[Ajc];rfl
def A50(l:List Ent)(e:Ent)(hl:l.length<=1000000)(ho:Wp l)(he:e.sites.length<=1000000):
  Fn TT PT 19 [SL true 0 (l.map Ent.row),.agg e.row] (SL true 0 ((K1 e.own l).map Ent.row)):=by
 have hp:=Atx true 0 l e AA ho AA;unfold K1;rw[A39,Ajc];by_cases h:Iw e l=true
 .rw[if_pos h];refine Bj T19 rfl ?_;rw[h]at hp;simp only[go_sem];refine Ab hp AB ?_;simp only[go_sem];exact F7 (Abj ..)
 .have hq:=Bd5 true 0 l (D0 e l) e (Ajy e l) hl he;rw[if_neg h];refine Bj T19 rfl ?_;rw[W1]at h;rw[h]at hp;simp only[go_sem];refine Ab hp AB ?_;simp only[go_sem];refine Ab hq AB ?_;simp only[go_sem];exact F7 (Abj ..)
structure Lin {α:Type} (c:α->α->Int):Prop where
 zero:∀ x y,c x y=0↔x=y
 flip:∀ x y,c x y<0↔0<c y x
 trans:∀ x y z,c x y<0->c y z<0->c x z<0
def Lin.tri{α:Type}{c:α->α->Int}(h:Lin c)(x y:α):c x y<0\/x=y\/c y x<0:=by
 rcases Int.lt_trichotomy (c x y) 0 with h1 | h1 | h1
 .omega
 .exact .inr (.inl ((h.zero x y).1 h1))
 .exact .inr (.inr ((h.flip y x).2 h1))
def Lin.asym{α:Type}{c:α->α->Int}(h:Lin c){x y:α}(h1:c x y<0):¬ c y x<0:=fun h2=>by
 have:=(h.flip x y).1 h1;omega
def Ahf{x y:Int}:Lib.compareInt x y<0↔x<y:=by
 grind[Lib.compareInt]
def Bp6{x y:Int}:0<Lib.compareInt x y↔y<x:=by
 grind[Lib.compareInt]
def Bd6{x y:Int}:Lib.compareInt x y=0↔x=y:=by
 grind[Lib.compareInt]
theorem Aws:Lin Lib.compareInt where
 zero _ _:=Bd6
 flip _ _:=Ahf.trans Bp6.symm
 trans _ _ _ h1 h2:=Ahf.2 (Int.lt_trans (Ahf.1 h1) (Ahf.1 h2))
def H7{α:Type}(c:α->α->Int):List α->List α->Int
 | [],[]=>0
 | [],_::_ => -1
 | _::_,[]=>1
 | a::r,b::s=>if c a b≠0 then c a b else H7 c r s
theorem Aty{α:Type}{c:α->α->Int}(h:Lin c):Lin (H7 c) where
 zero:=by
  intro x
  induction x with
  | nil=>intro y;cases y<;>simp[H7]
  | cons a r ih=>
   intro y
   cases y with
   | nil=>simp[H7]
   | cons b s=>
    simp only[H7];by_cases hc:c a b=0
    .have:=(h.zero a b).1 hc
     grind
    .have:a≠b:=fun e=>hc ((h.zero a b).2 e)
     grind
 flip:=by
  intro x
  induction x with
  | nil=>intro y;cases y<;>simp[H7]
  | cons a r ih=>
   intro y
   cases y with
   | nil=>simp[H7]
   | cons b s=>
    simp only[H7];by_cases hc:c a b=0
    .have:=(h.zero a b).1 hc
     grind
    .have qL:c b a≠0:=fun e=>hc ((h.zero a b).2 ((h.zero b a).1 e).symm)
     simp[hc,qL,h.flip a b]
 trans:=by
  intro x
  induction x with
  | nil=>
   intro y z
   cases y with
   | nil=>omega
   | cons b s=>cases z<;>simp[H7]
  | cons a r ih=>
   intro y z
   cases y with
   | nil=>simp[H7]
   | cons b s=>
    cases z with
    | nil=>simp[H7]
    | cons d u=>
     simp only[H7];by_cases h1:c a b=0
     .have:=(h.zero a b).1 h1
      grind
     .by_cases h2:c b d=0
      .have:=(h.zero b d).1 h2
       grind
      .simp only[ne_eq,h1,h2,not_false_eq_true,if_true];intro g1 g2;have g3:=h.trans a b d g1 g2;omega
def Wk{α β:Type}[DecidableEq α](c:α->α->Int)(d:β->β->Int)(x y:α × β):Int:=if x.1≠y.1 then c x.1 y.1 else d x.2 y.2
theorem Atz{α β:Type}[DecidableEq α]{c:α->α->Int}{d:β->β->Int}(h:Lin c)(g:Lin d):Lin (Wk c d) where
 zero x y:=by
  unfold Wk;obtain⟨a,b⟩:=x;obtain⟨a',b'⟩:=y;by_cases e:a=a'
  .subst e;simp[g.zero b b']
  .simp[e,h.zero a a']
 flip x y:=by
  unfold Wk;by_cases e:x.1=y.1
  .simp[e,g.flip x.2 y.2]
  .have e':¬ y.1=x.1:=fun q=>e q.symm
   simp[e,e',h.flip x.1 y.1]
 trans x y z:=by
  unfold Wk;by_cases e:x.1=y.1
  .by_cases e2:y.1=z.1
   .simp[e,e2];exact g.trans _ _ _
   grind
  .by_cases e2:y.1=z.1
   .grind
   .simp only[ne_eq,e,e2,not_false_eq_true,if_true];intro h1 h2;have h3:=h.trans _ _ _ h1 h2
    have:¬ x.1=z.1:=fun q=>by
     have:=(h.zero x.1 z.1).2 q;omega
    grind
def V8(a b:UInt8):Int:=if a<b then -1 else if b<a then 1 else 0
theorem A9j:Lin V8 where
 zero x y:=by
  grind[V8]
 flip x y:=by
  grind[V8]
 trans x y z:=by
  grind[V8]
def Ayv:∀ a b:List UInt8,Lib.compareBytes a b=H7 V8 a b
 | [],[]=>rfl
 | [],_::_=>rfl
 | _::_,[]=>rfl
 | a::r,b::s=>by
  simp only[Lib.compareBytes,H7,V8];by_cases h1:a<b
  .simp[h1]
  .by_cases h2:b<a
   .grind
   .simp[h1,h2,Ayv r s]
theorem A51:Lin Lib.compareBytes:=by
 have:Lib.compareBytes=H7 V8:=by funext a b;exact Ayv a b
 grind[Aty,A9j]
theorem Bd7:Lin Nc:=by
 have:Nc=Wk Lib.compareBytes (Wk Lib.compareBytes Lib.compareInt):=by funext a b;rfl
 grind[Atz,A51,Aws]
def At0:∀ a b,Gu a b=H7 Nc a b
 | [],[]=>rfl
 | [],_::_=>rfl
 | _::_,[]=>rfl
 | a::r,b::s=>by simp only[Gu,H7,At0 r s]
def A9k:Lin Gu:=by
 have:Gu=H7 Nc:=by funext a b;exact At0 a b
 grind[Aty,Bd7]
def Ent.ks(x:Ent):Int × List Aj:=(x.kind,x.sites)
def I5:Int × List Aj->Int × List Aj->Int:=Wk Lib.compareInt Gu
def lin_p:Lin I5:=Atz Aws A9k
theorem Bkb(x y:Ent):C7 x y=I5 x.ks y.ks:=rfl
def Ps(l:List Ent):Prop:=l.Pairwise fun x y=>C7 x y<0
def Ajd(e:Ent):∀ {l:List Ent},Ps l->(∀ x∈l.take (D0 e l),C7 x e<0)/\∀ x∈l.drop (D0 e l),¬ C7 x e<0
 | [],_=>by grind
 | x::r,h=>by
  simp only[D0];have hr:=Ajd e (K9.1 h).2
  split
  .grind
  .rename_i hx;simp only[Zp,La,false_implies,implies_true,true_and,L9,Bp];rintro y (rfl | hy)
   .exact hx
   .intro qn;have h1:=(K9.1 h).1 y hy;exact hx (lin_p.trans x.ks y.ks e.ks h1 qn)
def A4a{e:Ent}{l:List Ent}(h:Ps l):Iw e l=true↔∃ x∈l,x.ks=e.ks:=by
 have hs:=Ajd e h;unfold Iw;constructor
 .intro ht
  cases hx:l[D0 e l]? with
  | none=>grind
  | some x=>
   rw[hx]at ht;have hz:C7 x e=0:=by simpa using ht
   exact⟨x,Gx hx,(lin_p.zero _ _).1 hz⟩
 .rintro⟨x,hx,he⟩;have hz:C7 x e=0:=(lin_p.zero _ _).2 he;have hm:x∈l.take (D0 e l)++l.drop (D0 e l):=by rw[L8];exact hx
  rcases Ct.1 hm with hm | hm
  .grind
  .cases hd:l.drop (D0 e l) with
   | nil=>grind
   | cons y r=>
    have hy:l[D0 e l]?=some y:=by
     have:(l.drop (D0 e l))[0]?=some y:=by rw[hd];rfl
     rwa [Aim,On]at this
    rw[hy];rw[hd]at hm;rcases Bp.1 hm with rfl | hm
    .grind
    .-- y is ahead of x,and not ahead of e
     have qY:(y::r).Pairwise fun x y=>C7 x y<0:=by rw[<-hd];exact h.drop
     grind[List.pairwise_cons,Bkb]
def At1{e:Ent}{l:List Ent}(h:Ps l):Ps (K1 e l):=by
 unfold K1
 split
 .exact h
 .rename_i ht;have hs:=Ajd e h;have hn:∀ x∈l,x.ks≠e.ks:=fun x hx he=>ht ((A4a h).2 ⟨x,hx,he⟩)
  unfold Ps at h ⊢;rw[Zf,K9];refine⟨h.take,⟨fun y hy=>?_,h.drop⟩,fun x hx y hy=>?_⟩
  .rcases lin_p.tri e.ks y.ks with h1 | h1 | h1
   .exact h1
   .grind
   .exact absurd h1 (hs.2 y hy)
  .rcases Bp.1 hy with rfl | hy
   .grind
   grind[List.take_append_drop]
def At2{e x:Ent}{l:List Ent}(h:x∈K1 e l):x=e\/x∈l:=by
 grind[K1]
theorem At3{e:Ent}{l:List Ent}:(K1 e l).length<=l.length+1:=by
 grind[K1]
