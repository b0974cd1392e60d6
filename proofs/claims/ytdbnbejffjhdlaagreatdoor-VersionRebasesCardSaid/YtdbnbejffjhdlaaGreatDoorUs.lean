/- Plain: the keys of programs as keys; the entries of a stored baseline. -/
import Derived.Test.YtdbnbejffjhdlaaGreatDoorVa
set_option linter.all false
namespace Go.Proofs.YtdbnbejffjhdlaaGreatDoor.KM
open Go
def Afu(nm:List UInt8):List (List UInt8)->List (List UInt8)->List A0
 | _,[]=>[]
 | P,x::X=>(nm,x,(P.count x:Int))::Afu nm (P++[x]) X
def Av2(nm:List UInt8):∀ (X P:List (List UInt8)),Gf nm P X=(Afu nm P X).map Aw
 | [],_=>rfl
 | x::X,P=>by rw[Gf,Afu,A2,Av2 nm X];rfl
def B9(p:Gp):List A0:=(p.thrs.map fun t=>Afu t.nm [] (Sp.hdss t.body)).flatten
def W8(p:Gp):Ik p=(B9 p).map Aw:=by
 unfold Ik B9;rw[List.map_flatten,Yq];congr 1;exact List.map_congr_left fun t _=>Av2 _ _ _
def Add(p:Gp):(B9 p).length=(Ik p).length:=by rw[W8,Aj]
def Pa(k:A0):Int:=k.2.2+3*(k.2.1.length:Int)+5*(k.1.length:Int)
def Ri(K:List A0)(seen:Int)(i:Nat)(k:A0):A0:=
 if K.length=0\/(Pa k).tmod 7=0 then k else K.getD ((Pa k+seen*(i:Int)).tmod (K.length:Int)).toNat k
def L8(K:List A0)(seen:Int):Nat->List A0->List A0
 | _,[]=>[]
 | i,k::l=>Ri K seen i k::L8 K seen (i+1) l
def Um(K:List A0)(seen:Int):∀ (l:List A0) (i:Nat),(L8 K seen i l).length=l.length
 | [],_=>rfl
 | _::l,i=>by rw[L8,Bg,Bg,Um K seen l]
def Ent.sto(K:List A0)(e:Ent):Ent:=⟨e.kind,L8 K e.seen 0 e.sites,e.seen,e.missed,true,0⟩
def I7(K:List A0)(l:List Ent)(n:Nat):List Ent:=(l.take n).foldl (fun s e=>K0 (e.sto K) s) []
def Aqv{K:List A0}{l:List Ent}{i:Nat}{e:Ent}(h:l[i]?=some e):I7 K l (i+1)=K0 (e.sto K) (I7 K l i):=by
 unfold I7;rw[Hk,h];simp[Acb]
def Ajk(K:List A0)(l:List Ent):∀ i,(I7 K l i).length<=i/\Mz (I7 K l i)/\∀ e∈I7 K l i,∃ x∈l,e=x.sto K
 | 0=>by simp[I7,Mz]
 | i+1=>by
  obtain⟨h1,h2,h3⟩:=Ajk K l i
  cases hx:l[i]? with
  | none=>
   have:I7 K l (i+1)=I7 K l i:=by
    unfold I7;rw[Hk,hx];simp
   rw[this];exact⟨by omega,h2,h3⟩
  | some x=>
   rw[Aqv hx];refine⟨by have:=Ar3 (e:=x.sto K) (l:=I7 K l i);omega,Ar1 h2,fun e he=>?_⟩;rcases Ar2 he with rfl | he
   .exact⟨x,F0 hx,rfl⟩
   .exact h3 e he
def sI(K:List A0)(k:A0):Int:=match L7 K k with
 | some s=>(s:Int)
 | none => -1
def Axw{K:List A0}{k:A0}{i:Nat}(h:K[i]?=some k)(hn:∀ j,j<i->K[j]?≠some k):sI K k=(i:Int):=by
 unfold sI;rw[Wc.2 ⟨h,hn⟩]
def Av3{K:List A0}{k:A0}(hn:∀ j,j<K.length->K[j]?≠some k):sI K k = -1:=by
 unfold sI
 rw[A2r.2 fun j=>by
  rcases Bb j K.length with h | h
  .exact hn j h
  .rw[Ahc h];exact fun e=>by cases e]
def Agf(k x:A0):Abc [2,2,1] (.agg (kR k)) (.agg (kR x))=some (decide (k=x)):=by
 obtain⟨a,b,c⟩:=k;obtain⟨a',b',c'⟩:=x;simp only[Abc,Bg,Dq,and_self,if_true,Lv,eqS,Cy,Prod.mk.injEq]
 by_cases h1:a=a'<;>by_cases h2:b=b'<;>by_cases h3:c=c'<;>simp[h1,h2,h3]
def A81(z:Bool)(t:Nat)(K:List A0)(k:A0)(hK:K.length<=1000000000000):Fn TT PT 84 [SL z t (K.map Aw),.agg (kR k)] (iV (sI K k)):=by
 have hl:(K.map Aw).length=K.length:=Aj ..;refine Bc T84 rfl ?_;simp only[go_sem,hl];refine Bh (α:=Nat) (fun i=>K.length - i) (fun i=>[(0,SL z t (K.map Aw)),(3,.ptr 0 0 0),(7,iV (K.length:Int)),(8,iV (i:Int))]) (fun _=>[.row (kR k) 57 0 0]) (fun i=>i<=K.length/\∀ j,j<i->K[j]?≠some k) ?_ 0 ⟨Av _,fun j hj=>by omega⟩;rintro i ⟨hi,hn⟩ ih;refine Az Bmi ?_;rcases Bb i K.length with h' | h'
 .obtain⟨x,hx,-,-⟩:=Bl h';have i1:IntKind.i64.wrap ((i:Int)+1)=((i+1:Nat):Int):=Ay AA;by_cases e:k=x
  .have f1:decide (k=x)=true:=decide_eq_true e;simp only[go_sem,Ar h'];refine Ad AD ?_;simp only[go_sem,Ai,hx,Aw,Agf,f1];exact Ae rfl (by rw[Axw (by rw[hx,e]) hn])
  .have f1:decide (k=x)=false:=decide_eq_false e;simp only[go_sem,Ar h'];refine Ad AD ?_;simp only[go_sem,Ai,hx,Aw,Agf,f1];simp only[go_sem,i1]
   exact Am (ih (i+1) AA ⟨h',fun j hj=>by
    rcases Bb j i with h2 | h2
    .exact hn j h2
    .have:j=i:=by omega
     subst this;rw[hx]
     exact fun e2=>e (Iu e2).symm⟩) rfl
 .simp only[go_sem,Bi h'];have:i=K.length:=by omega
  subst this;exact Ae rfl (by rw[Av3 hn])
def Bdp{p:Gp}(h:PX p)(k:A0)(hK:(B9 p).length<=1000000000000):Fn TT PT 51 [.agg p.row,.agg (kR k)] (iV (sI (B9 p) k)):=by
 have hk:=Atd h;rw[W8]at hk;have hi:=A81 true 0 (B9 p) k hK;have qk:=D7 p;rw[qk]at hk ⊢;refine Bc T51 rfl ?_;simp only[go_sem];refine Ad AD ?_;simp only[go_sem];refine Ax hk AB ?_;simp only[go_sem];refine Ax hi AB ?_;simp only[go_sem];exact Ae rfl rfl
set_option maxHeartbeats 1000000 in
def A46{p:Gp}(h:PX p)(k:A0)(hK:(B9 p).length<=1000000000000):Fn TT PT 59 [.agg p.row,.agg (kR k)] (iV (sI (B9 p) k)):=by
 have hk:=Aji h;rw[W8]at hk;have qk:=D7 p;rw[qk]at hk ⊢;generalize B9 p=K at *;have hl:(K.map Aw).length=K.length:=Aj ..;refine Bc T59 rfl ?_;simp only[go_sem];refine Ab hk AB ?_;simp only[go_sem,hl];refine Bh (α:=Nat × St) (fun a=>K.length - a.1) (fun a=>[(3,.ptr 1 0 0),(8,SL true 0 (K.map Aw)),(9,iV (K.length:Int)),(10,iV (a.1:Int))]) (fun a=>gO p::.row (kR k) 57 0 0::a.2) (fun a=>a.1<=K.length/\∀ j,j<a.1->K[j]?≠some k) ?_ (0,[]) ⟨Av _,fun j hj=>by simp at hj⟩;rintro⟨i,s⟩ ⟨hi,hn⟩ ih;simp only at hi hn ih;refine Az Bl1 ?_;rcases Bb i K.length with h' | h'
 .obtain⟨x,hx,-,-⟩:=Bl h';have i1:IntKind.i64.wrap ((i:Int)+1)=((i+1:Nat):Int):=Ay AA;by_cases e:x=k
  .have f1:decide (x=k)=true:=decide_eq_true e;simp only[go_sem,Ar h',Ai,hx,Aw,Agf,f1];exact Ae rfl (by rw[Axw (by rw[hx,e]) hn])
  .have f1:decide (x=k)=false:=decide_eq_false e;simp only[go_sem,Ar h',Ai,hx,Aw,Agf,f1,i1]
   exact Am (ih (i+1,_) AH ⟨h',fun j hj=>by
    rcases Bb j i with h2 | h2
    .exact hn j h2
    .have:j=i:=by simp only at hj;omega
     subst this;rw[hx]
     exact fun e2=>e (Iu e2)⟩) rfl
 .simp only[go_sem,Bi h'];have:i=K.length:=by omega
  subst this;exact Ae rfl (by rw[Av3 hn])
def kz:A0:=([],[],0)
def A82{p:Gp}(h:PX p){s:Nat}{k:A0}(hk:(B9 p)[s]?=some k):Fn TT PT 54 [.agg p.row,iV (s:Int)] (.tup [.agg (kR k),.bool true]):=by
 have h1:=Bia h (s:Int);have h2:(Ik p)[s]?=some (Aw k):=by rw[W8,Ai,hk];rfl
 have h3:=(Al.1 h2).1
 have h4:Ag0 p (s:Int)=.tup [.agg (Aw k),.bool true]:=by
  unfold Ag0;rw[if_pos AA,J0,E0,h2];rfl
 rw[h4]at h1;exact h1
def Amp(L:List Int):(Ao L).flatten=Di L:=by
 induction L with
 | nil=>rfl
 | cons a L ih=>
  unfold Ao Di at ih ⊢;rw[A2,Fe,A2,ih];rfl
def Apj(L:List Int):(Jp L).Perm L:=List.mergeSort_perm _ _
def A47(L:List Int):(Jp L).Pairwise (·<=·):=by
 have:=List.pairwise_mergeSort (le:=fun x y:Int=>decide (x<=y)) (fun a b c h1 h2=>by simp at h1 h2 ⊢;omega) (fun a b=>by simp;omega) L;exact this.imp fun h=>by simpa using h
def Ato(n:Nat){σ:St}{m e lo:Nat}{v:V}{xs:List (List V)}(h:GW σ m e lo v xs):(v.ren (·+n)).refs=v.refs.map (·+n):=by
 rcases h with⟨rfl,-⟩ | ⟨-,i,g,rfl,-⟩
 .rfl
 .rfl
def A83(σ:St){σ0:St}{lo:Nat}{u:V}{L:List (V × Ent)}(h:NG σ0 lo u L):NG (σ++σ0.map (Ob.ren (·+σ.length))) σ.length (u.ren (·+σ.length)) (L.map fun p=>(p.1.ren (·+σ.length),p.2)):=by
 have qp:∀ (i:Nat) (ob:Ob),σ0[i]?=some ob->(σ++σ0.map (Ob.ren (·+σ.length)))[i+σ.length]?=some (ob.ren (·+σ.length)):=fun i ob ho=>by
  rw[Fd AA,Nat.add_sub_cancel,Ai,ho];rfl
 refine⟨?_,fun p hp=>?_⟩
 .rcases h.1 with⟨rfl,h1⟩ | ⟨qK,i,g,rfl,ho,qw⟩
  .refine .inl ⟨rfl,?_⟩;obtain rfl:L=[]:=by simpa using h1
   rfl
  .refine .inr ⟨by simpa using qK,i+σ.length,g,by simp[V.ren],?_,by omega⟩;rw[qp i _ ho];simp only[Ob.ren];congr 2
   have:∀ L:List (V × Ent),E6 (·+σ.length) (L.map Ea).flatten=((L.map fun p=>(p.1.ren (·+σ.length),p.2)).map Ea).flatten:=by
    intro L
    induction L with
    | nil=>rfl
    | cons p L ih=>
     simp only[A2,Fe,Ea,Jb,Ci,E6,V.ren];rw[ih]
   exact this L
 .obtain⟨p0,qy,rfl⟩:=Cs.1 hp;refine⟨(h.2 p0 qy).1,?_⟩;rcases(h.2 p0 qy).2 with⟨e1,h1⟩ | ⟨qK,i,g,e1,ho,qw⟩
  .exact .inl ⟨by simp only[e1,V.ren],h1⟩
  .refine .inr ⟨qK,i+σ.length,g,by simp only[e1,V.ren],?_,by omega⟩;rw[qp i _ ho];simp only[Ob.ren];rw[R8 _ _ fun j hj=>by rw[Ff (Gl (Lp _))]at hj;cases hj]
def A84(n:Nat){σ0:St}{lo:Nat}{u:V}{L:List (V × Ent)}(h:NG σ0 lo u L)(hd:Dj L):Dj (L.map fun p=>(p.1.ren (·+n),p.2)):=by
 unfold Dj at hd ⊢;rw[List.pairwise_map];refine hd.imp_of_mem fun {p q} hp hq jI=>?_
 simp only;rw[Ato n (h.2 p hp).2,Ato n (h.2 q hq).2];intro i hi qv;obtain⟨a,ha,rfl⟩:=Cs.1 hi;obtain⟨b,hb,e⟩:=Cs.1 qv;have:b=a:=by omega
 subst this;exact jI b ha hb
def Ss{m:Nat}:∀ {xs:List (List V)} {i j:Nat} {r:List V} {c:V},(∀ r∈xs,r.length=m)->xs[i]?=some r->r[j]?=some c->xs.flatten[i*m+j]?=some c
 | x::xs,0,j,r,c,hl,hi,hj=>by
  cases hi;rw[Fe,Ahu,F9,C3 (Al.1 hj).1];exact hj
 | x::xs,i+1,j,r,c,hl,hi,hj=>by
  have hx:=hl x Cr;rw[Fe,Fd (by rw[hx,F1];omega),hx,show(i+1)*m+j - m=i*m+j by rw[F1];omega];exact Ss (fun r hr=>hl r (Db _ hr)) (by simpa using hi) hj
def Vj{cs:List V}{e g z off:Nat}{c:V}(h:cs[off]?=some c):Mf (some (.row cs e g z)) g 1 true off=some c:=by
 obtain⟨hl,rfl⟩:=Al.1 h;rw[Af1,if_pos ⟨rfl,by omega⟩,Gr hl];rfl
def Aev{m:Nat}{xs:List (List V)}{e g z i:Nat}{r:List V}(hl:∀ r∈xs,r.length=m)(hi:xs[i]?=some r):Mf (some (.row xs.flatten e g z)) g m false (i*m)=some (.agg r):=by
 obtain⟨h1,h2⟩:=Al.1 hi;have hf:=Ga hl;have qI:(i+1)*m<=xs.length*m:=Fl m h1;rw[F1]at qI;have hr:=hl r (F0 hi)
 have e1:xs.flatten=(xs.take i).flatten++(r++(xs.drop (i+1)).flatten):=by
  rw[<-h2,<-Fe,<-Gr h1,<-Yg,Ja]
 have e2:(xs.take i).flatten.length=i*m:=by rw[Ga fun r hr=>hl r (Jz hr),D5,Ym AA]
 rw[Af1,if_pos ⟨rfl,by omega⟩,e1,<-e2,List.drop_left,<-hr,Ua];rfl
def Aab{m:Nat}{xs:List (List V)}{i:Nat}{r:List V}(hl:∀ r∈xs,r.length=m)(hi:i<xs.length)(hr:r.length=m):xs.flatten.take (i*m)++r++xs.flatten.drop (i*m+m)=(xs.set i r).flatten:=by
 have e1:xs.flatten=(xs.take i).flatten++(xs[i]++(xs.drop (i+1)).flatten):=by
  rw[<-Fe,<-Gr hi,<-Yg,Ja]
 have e2:(xs.take i).flatten.length=i*m:=by rw[Ga fun r hr=>hl r (Jz hr),D5,Ym AA]
 have e3:xs[i].length=m:=hl _ (N9 hi);rw[e1,<-e2,Ua,Yl,Yl,Dt AA,Ci,Dt AA,Ci,show(xs.take i).flatten.length+m - (xs.take i).flatten.length - xs[i].length=0 by omega,Jd,List.set_eq_take_append_cons_drop,if_pos hi,Yg,Fe,Dk]
def Fx(K:List A0)(seen:Int)(S:List A0)(j:Nat):List A0:=L8 K seen 0 (S.take j)++S.drop j
def Aqw(K:List A0)(seen:Int):∀ (a b:List A0) (i:Nat),L8 K seen i (a++b)=L8 K seen i a++L8 K seen (i+a.length) b
 | [],b,i=>rfl
 | x::a,b,i=>by rw[Jb,L8,L8,Aqw K seen a b (i+1),Jb,Bg,show i+1+a.length=i+(a.length+1) by omega]
def A85(K:List A0)(seen:Int)(S:List A0)(j:Nat):(Fx K seen S j).length=S.length:=by
 unfold Fx;rw[Aq,Um,<-Aq,Ja]
def Atp{K:List A0}{seen:Int}{S:List A0}{j:Nat}{k:A0}(h:S[j]?=some k):(Fx K seen S j)[j]?=some k:=by
 obtain⟨hj,rfl⟩:=Al.1 h;have hl:(L8 K seen 0 (S.take j)).length=j:=by rw[Um,D5,Ym AA]
 unfold Fx;rw[Fd AA,hl,Hl,Gr hj];rfl
def Atq{K:List A0}{seen:Int}{S:List A0}{j:Nat}{k:A0}(h:S[j]?=some k):Fx K seen S (j+1)=(Fx K seen S j).set j (Ri K seen j k):=by
 obtain⟨hj,rfl⟩:=Al.1 h;have hl:(L8 K seen 0 (S.take j)).length=j:=by rw[Um,D5,Ym AA]
 unfold Fx;rw[Qp _ _ AA,hl,Hl,Gr hj,Ab8,Hk,h,Pf,Aqw,D5,Ym AA,Dk];simp only[F9,L8,Jb,Ci]
def Aqx{K:List A0}{seen:Int}{S:List A0}{j:Nat}{k:A0}(h:S[j]?=some k)(hk:Ri K seen j k=k):Fx K seen S (j+1)=Fx K seen S j:=by
 rw[Atq h,hk];have h2:=Atp (K:=K) (seen:=seen) h;obtain⟨h3,h4⟩:=Al.1 h2;rw[<-h4];exact List.set_getElem_self h3
def Aiz{σ:St}{m e lo:Nat}{u:V}{xs:List (List V)}(h:GW σ m e lo u xs)(hr:∀ r∈xs,r.all V.rowB=true){args:List V}{v:V}(ha:Ah args=u.refs):∃ σ',after σ args v=σ'/\σ'.length=σ.length/\∀ j,j ∉ u.refs->σ'[j]?=σ[j]?:=by
 refine⟨_,rfl,?_⟩;unfold after
 split
 .exact⟨rfl,fun _ _=>rfl⟩
 .rcases h with⟨rfl,rfl⟩ | ⟨hn,i,g,rfl,ho,qw⟩
  .have:L9 σ args=[]:=by unfold L9;rw[ha];rfl
   rw[this];exact⟨rfl,fun _ _=>rfl⟩
  .have:L9 σ args=[i]:=by
    unfold L9;rw[ha];have e1:(V.refs (.sl i g 0 xs.length m true)).eraseDups=[i]:=by simp[V.refs,List.eraseDups_cons]
    rw[e1];have hx:Ah xs.flatten=[]:=Ff (Gl hr);simp[Fy,ho,Ob.refs,hx]
   rw[this];exact⟨A0m σ i,fun j hj=>Aow σ i j (by simpa[V.refs] using hj)⟩
def Xm(k:A0):Prop:=0<=k.2.2/\k.2.2<=1000/\k.2.1.length<=1000/\k.1.length<=1000
def A1e(n:Nat):Xm (Nq n):=by
 unfold Xm Nq;simp only;refine⟨by omega,by omega,?_,?_⟩
 .split
  .decide
  .split<;>decide
 .split
  .decide
  .split<;>decide
def A2s(x:Item):∀ k∈x.ent.sites,Xm k:=fun k hk=>by
 unfold Item.ent at hk;obtain⟨n,-,rfl⟩:=Cs.1 hk;exact A1e n
def A48{K:List A0}{S:List A0}{sB:St}{ib gb q:Nat}{kd sn ms:Int}{A B:V}{I:Nat}{k0:List It}{Q:Env->St->Prop}(qW:K.length<=1000000000000)(hS:∀ k∈S,Xm k)(jS:S.length<=1000)(jd:0<=sn/\sn<=1000)
  (jt:ib<sB.length) (hq:sB[q]?=some (.row [iV kd,.sl ib gb 0 S.length 3 true,iV sn,iV ms] 55 0 0)) (jK:q≠ib)
  (qD:W TT PT k0 [(6,.ptr 1 0 0),(7,SL true 0 (K.map Aw)),(8,.ptr 2 0 0),(10,.ptr q 0 0),(19,A),(20,B),(21,iV (I:Int)),(27,iV (S.length:Int)),(28,iV (S.length:Int))] (sB.set ib (.row ((Fx K sn S S.length).map Aw).flatten 57 gb 0)) Q) :
  ∀ j,j<=S.length->W TT PT (.l [6,7,8,10,19,20,21,27,28] lp6_0::.b 2::k0) [(6,.ptr 1 0 0),(7,SL true 0 (K.map Aw)),(8,.ptr 2 0 0),(10,.ptr q 0 0),(19,A),(20,B),(21,iV (I:Int)),(27,iV (S.length:Int)),(28,iV (j:Int))] (sB.set ib (.row ((Fx K sn S j).map Aw).flatten 57 gb 0)) Q:=by
 refine Bh (α:=Nat) (fun j=>S.length - j) _ _ _ ?_;intro j hj jh;have qn:(K.map Aw).length=K.length:=Aj ..;refine Az Boi ?_;rcases Bb j S.length with h2 | h2;rotate_left
 .have jv:j=S.length:=by omega
  subst jv;simp only[go_sem,Bi h2];exact qD
 obtain⟨k,hk,-,jx⟩:=Bl h2;have jy:=hS k jx;unfold Xm at jy;have j1:IntKind.i64.wrap ((j:Int)+1)=((j+1:Nat):Int):=Ay AA;have jD:=A85 K sn S j;have jC:=Atp (K:=K) (seen:=sn) hk;have qJ:((Fx K sn S j).map Aw)[j]?=some (kR k):=by rw[Ai,jC];rfl
 have c0:=Ss (j:=0) (c:=.str k.1) (G6 _) qJ rfl;have c1:=Ss (j:=1) (c:=.str k.2.1) (G6 _) qJ rfl;have c2:=Ss (j:=2) (c:=iV k.2.2) (G6 _) qJ rfl;rw[Oh]at c0;have l0:=Vj (e:=57) (g:=gb) (z:=0) c0;have l1:=Vj (e:=57) (g:=gb) (z:=0) c1;have l2:=Vj (e:=57) (g:=gb) (z:=0) c2;have gi:(sB.set ib (.row ((Fx K sn S j).map Aw).flatten 57 gb 0))[ib]?=some (.row ((Fx K sn S j).map Aw).flatten 57 gb 0):=Bv jt;have gq:(sB.set ib (.row ((Fx K sn S j).map Aw).flatten 57 gb 0))[q]?=some (.row [iV kd,.sl ib gb 0 S.length 3 true,iV sn,iV ms] 55 0 0):=by rw[Bk (Ne.symm jK)];exact hq
 have w1:IntKind.i64.wrap (3*(k.2.1.length:Int))=3*(k.2.1.length:Int):=B7 AA;have w2:IntKind.i64.wrap (k.2.2+3*(k.2.1.length:Int))=k.2.2+3*(k.2.1.length:Int):=B7 AA;have w3:IntKind.i64.wrap (5*(k.1.length:Int))=5*(k.1.length:Int):=B7 AA;have w4:IntKind.i64.wrap (k.2.2+3*(k.2.1.length:Int)+5*(k.1.length:Int))=Pa k:=by rw[B7 AA];rfl
 have jW:0<=Pa k/\Pa k<=20000:=by unfold Pa;omega
 generalize qs:sB.set ib (.row ((Fx K sn S j).map Aw).flatten 57 gb 0)=st at *;simp only[go_sem,Ar h2];refine Ad AD ?_;simp only[go_sem,gq,gi,Lt h2,l0,l1,l2,w1,w2,w3,w4];by_cases qV:K.length=0
 .have f1:((0:Int)<(K.length:Int))=False:=eq_false AA;have hp:Ri K sn j k=k:=by unfold Ri;rw[if_pos (.inl qV)]
  have qb:=jh (j+1) AA h2;rw[Aqx hk hp,qs]at qb;simp only[go_sem,qn,f1,j1];exact Am qb rfl
 have f1:((0:Int)<(K.length:Int))=True:=eq_true AA;by_cases h7:(Pa k).tmod 7=0
 .have f2:((0:Int) != 0)=false:=rfl;have hp:Ri K sn j k=k:=by unfold Ri;rw[if_pos (.inr h7)]
  have qb:=jh (j+1) AA h2;rw[Aqx hk hp,qs]at qb;simp only[go_sem,qn,f1,h7,f2,j1];exact Am qb rfl
 have f2:((Pa k).tmod 7 != 0)=true:=by simpa using h7
 obtain⟨a,ha⟩:∃ a:Nat,Pa k=(a:Int):=⟨(Pa k).toNat,by omega⟩;obtain⟨b,hb⟩:∃ b:Nat,sn=(b:Int):=⟨sn.toNat,by omega⟩
 have jT:b*j<=1000000:=by
  have h1:b<=1000:=by omega
  have h3:j<=1000:=by omega
  calc b*j<=1000*1000:=Nat.mul_le_mul h1 h3
   _=1000000:=rfl
 have w5:IntKind.i64.wrap (sn*(j:Int))=((b*j:Nat):Int):=by
  rw[hb,show(b:Int)*(j:Int)=((b*j:Nat):Int) by simp,B7 AA]
 have w6:IntKind.i64.wrap (Pa k+((b*j:Nat):Int))=((a+b*j:Nat):Int):=by rw[ha,B7 AA];simp
 have r1:(((a+b*j:Nat):Int)).tmod (K.length:Int)=(((a+b*j) % K.length:Nat):Int):=Aa3 _ _;have hc:(a+b*j) % K.length<K.length:=R5 _ AA;obtain⟨y,hy,-,-⟩:=Bl hc;have qm:(K.map Aw)[(a+b*j) % K.length]?=some (kR y):=by rw[Ai,hy];rfl
 have hp:Ri K sn j k=y:=by
  unfold Ri
  rw[if_neg (by
   rintro(h | h)
   .exact qV h
   .exact h7 h),ha,hb,show((a:Int)+(b:Int)*(j:Int))=((a+b*j:Nat):Int) by simp,r1,J0,E0,hy]
  rfl
 have qb:=jh (j+1) AA h2;rw[Atq hk,hp,Aht]at qb;have qk:=Aab (r:=[V.str y.1,V.str y.2.1,iV y.2.2]) (G6 (Fx K sn S j)) (i:=j) (by rw[Aj];omega) rfl;have jq:=Ga (G6 (Fx K sn S j));rw[Aj,jD]at jq;have qI:(j*3+3<=((Fx K sn S j).map Aw).flatten.length)=True:=eq_true AA;rw[show(Aw y)=[V.str y.1,V.str y.2.1,iV y.2.2] from rfl,<-qk]at qb;have qO:sB.set ib (.row (((Fx K sn S j).map Aw).flatten.take (j*3)++[V.str y.1,V.str y.2.1,iV y.2.2]++((Fx K sn S j).map Aw).flatten.drop (j*3+3)) 57 gb 0)=st.set ib (.row (((Fx K sn S j).map Aw).flatten.take (j*3)++[V.str y.1,V.str y.2.1,iV y.2.2]++((Fx K sn S j).map Aw).flatten.drop (j*3+3)) 57 gb 0):=by rw[<-qs,Qs]
 rw[qO]at qb;simp only[Dk,Jb,Ci]at qb;have jw:(K.length:Int)≠0:=by omega
 simp only[go_sem,qn,f1,f2];refine Ad AD ?_;simp only[go_sem,gq,gi,Lt h2,w5,w6,qn,r1,qm,jw,qI];refine J6 (by repeat (first | exact trivial | refine⟨.inl AK,?_⟩ | refine⟨by rfl,?_⟩ | refine⟨.inr ⟨by rfl,by rfl⟩,?_⟩)) (by repeat (first | exact trivial | refine⟨.inl AK,?_⟩ | refine⟨by rfl,?_⟩ | refine⟨.inr ⟨by rfl,by rfl⟩,?_⟩)) ?_;simp only[go_sem,j1];exact Am qb rfl
def Vr(K:List A0)(l:List Item):List Ent:=I7 K (F7 l 20) (F7 l 20).length
def Bdq(x:Item):0<=x.ent.seen/\x.ent.seen<=1000:=by
 unfold Item.ent;simp only;omega
def A49{p:Gp}(hp:PX p)(z:Bool)(t:Nat)(l:List Item)(n:Nat)(hn:n<256)(hl:l.length<=9223372036854775807)(jH:∀ x∈l,x.ok)(qW:(B9 p).length<=1000000000000):
  Fn TT PT 6 [.agg p.row,SL z t (l.map Item.row),.int .u8 n] (.agg [iV (n:Int),SL true 0 ((Vr (B9 p) l).map Ent.row)]):=by
 have g2:=Aji hp;rw[W8]at g2;have qk:=D7 p;rw[qk]at g2 ⊢;obtain⟨b1,b2,b3⟩:=Adn l 20;obtain⟨u0,σ0,jp,L0,hg,hL,jU,jo⟩:=A0t z t l hl jH;have w1:IntKind.i64.wrap (n:Int)=n:=B7 AA;unfold Vr
 have qr:∀ e∈F7 l 20,(∀ k∈e.sites,Xm k)/\e.sites.length<=1000/\(0<=e.seen/\e.seen<=1000):=fun e he=>by
  obtain⟨y,-,rfl⟩:=b3 e he;refine⟨A2s y,?_,Bdq y⟩;rw[Y0];have:=Aai y.kind;omega
 clear b3;generalize hE:F7 l 20=E at *;generalize B9 p=K at *;have qn:(K.map Aw).length=K.length:=Aj ..;obtain⟨σ1,qB⟩:∃ σ1:St,σ1=[gO p,.row [iV 0,.nils] 35 0 0,.row [iV (n:Int),.nils] 35 0 0]:=⟨_,rfl⟩;have qu:=CallS.own (σ:=σ1) (Wp (vs:=[SL z t (l.map Item.row)]) AB) jp;rw[Bbz (Uh AB)]at qu;have qd:=A83 σ1 hg;have jn:=A84 σ1.length hg jo;have qX:(L0.map fun p=>(p.1.ren (·+σ1.length),p.2)).map (·.2)=E:=by rw[Yq];exact hL
 have jN:σ1.length=3:=by rw[qB];rfl
 have hJ:∀ j,j<3->(σ1++σ0.map (Ob.ren (·+σ1.length)))[j]?=σ1[j]?:=fun j hj=>C3 AA
 have e1:=(hJ 1 AA).trans (show σ1[1]?=some (.row [iV 0,.nils] 35 0 0) by rw[qB];rfl);have e2:=(hJ 2 AA).trans (show σ1[2]?=some (.row [iV (n:Int),.nils] 35 0 0) by rw[qB];rfl);generalize u0.ren (·+σ1.length)=u at qu qd;generalize qs:σ1++σ0.map (Ob.ren (·+σ1.length))=st at *;generalize(L0.map fun p=>(p.1.ren (·+σ1.length),p.2))=L at *;rw[jN]at qd;have jY:=Bx qd.1;have jf:=Awt qd.1;rw[Aj]at jf;have jl:L.length=E.length:=by rw[<-qX,Aj]
 rw[qB]at qu;refine Bc T6 rfl ?_;simp only[go_sem];refine Ab g2 AB ?_;simp only[go_sem,w1];refine Jf qu ?_;simp only[go_sem,jf]
 refine Bh (α:=Nat × St) (fun a=>L.length - a.1) (fun a=>[(6,.ptr 1 0 0),(7,SL true 0 (K.map Aw)),(8,.ptr 2 0 0),(19,u),(20,iV (L.length:Int)),(21,iV (a.1:Int))]) (fun a=>a.2)
  (fun a=>a.1<=L.length/\a.2[1]?=some (.row [iV 0,.nils] 35 0 0)/\a.2[2]?=some (.row [iV (n:Int),SL true 0 ((I7 K E a.1).map Ent.row)] 35 0 0)/\GW a.2 4 55 3 u (L.map Ea)/\∀ q∈L.drop a.1,q.2.sites≠[]/\GW a.2 3 57 3 q.1 (q.2.sites.map Aw)) ?_ (0,st) ⟨Av _,e1,e2,qd.1,fun q hq=>qd.2 q (by simpa using hq)⟩
 clear e1 e2 qs hJ;rintro⟨i,s⟩ ⟨hi,h1,h2,qZ,qE⟩ ih;simp only at hi h1 h2 qZ qE ih;obtain⟨v1,v2,v3⟩:=Ajk K E i;refine Az Boj ?_;rcases Bb i L.length with h' | h';rotate_left
 .have qv:i=L.length:=by omega
  subst qv;have g1:=fun X:Ob=>Bv (a:=X) (Al.1 h1).1
  simp only[go_sem,Bi h',h2,h1,g1];rw[jl];exact F5 AB
 obtain⟨q,hq,qN,jX⟩:=Bl h';have qU:E[i]?=some q.2:=by rw[<-qX,Ai,hq];rfl
 obtain⟨jO,jP,jd⟩:=qr q.2 (F0 qU);obtain⟨jc,jJ⟩:=qE q (by rw[qN];exact Cr);have i1:IntKind.i64.wrap ((i:Int)+1)=((i+1:Nat):Int):=Ay AA;rcases qZ with⟨-,jk⟩ | ⟨jE,iu,g,je,ho,qw⟩
 .rw[show L=[] by simpa using jk]at h';simp at h'
 rw[Aj]at je;rcases jJ with⟨-,qy⟩ | ⟨-,ib,gb,qM,qL,qF⟩
 .exact absurd (by simpa using qy) jc
 rw[Aj]at qM;have qG:=(Al.1 qL).1
 have ju:iu≠ib:=by
  rintro rfl;have h:=ho.symm.trans qL;simp only[Pg,Ob.row.injEq]at h;exact absurd h.2.1 AP
 have jF:(L.map Ea)[i]?=some [iV q.2.kind,.sl ib gb 0 q.2.sites.length 3 true,iV q.2.seen,iV q.2.missed]:=by
  rw[Ai,hq,<-qM];rfl
 have jz:=Aev (e:=55) (g:=g) (z:=0) (Lq L) jF;obtain⟨sB,qz⟩:∃ sB:St,sB=s++[.row [iV q.2.kind,.sl ib gb 0 q.2.sites.length 3 true,iV q.2.seen,iV q.2.missed] 55 0 0]:=⟨_,rfl⟩;have ql:sB.length=s.length+1:=by rw[qz];simp
 have qR:∀ j,j<s.length->sB[j]?=s[j]?:=fun j hj=>by rw[qz,C3 hj]
 have qS:sB[s.length]?=some (.row [iV q.2.kind,.sl ib gb 0 q.2.sites.length 3 true,iV q.2.seen,iV q.2.missed] 55 0 0):=by rw[qz];exact Nc _ _
 have jj:=(Al.1 h2).1
 have jA:sB=sB.set ib (.row ((Fx K q.2.seen q.2.sites 0).map Aw).flatten 57 gb 0):=by
  have h3:Fx K q.2.seen q.2.sites 0=q.2.sites:=by unfold Fx;simp[L8]
  rw[h3];exact(M9 ((qR ib qG).trans qL)).symm
 have jB:Fx K q.2.seen q.2.sites q.2.sites.length=(q.2.sto K).sites:=by
  unfold Fx Ent.sto;simp
 subst je;simp only[go_sem,Ar h',Lt h',ho,jz];rw[<-qz,jA];refine Am (A48 qW jO jP jd AA qS AA ?_ 0 (Av _)) rfl;rw[jB];have qP:(q.2.sto K).sites.length=q.2.sites.length:=Um _ _ _ _;obtain⟨sE,qq⟩:∃ sE:St,sE=sB.set ib (.row (((q.2.sto K).sites.map Aw).flatten) 57 gb 0):=⟨_,rfl⟩;have jR:sE.length=sB.length:=by rw[qq];simp
 have qT:∀ j,j<s.length->j≠ib->sE[j]?=s[j]?:=fun j hj qx=>by rw[qq,Bk (Ne.symm qx)];exact qR j hj
 have gq:sE[s.length]?=some (.row [iV q.2.kind,.sl ib gb 0 q.2.sites.length 3 true,iV q.2.seen,iV q.2.missed] 55 0 0):=by rw[qq,Bk AA];exact qS
 have g2:=(qT 2 jj AA).trans h2
 have ja:GW sE 3 57 3 (.sl ib gb 0 q.2.sites.length 3 true) ((q.2.sto K).sites.map Aw):=by
  refine .inr ⟨fun e=>?_,ib,gb,by rw[Aj,qP],?_,qF⟩
  .have h3:=congrArg List.length e;rw[Aj,qP]at h3;exact jc (M6.1 h3)
  .rw[qq,Bv AA]
 obtain⟨s',ha,jV,qY⟩:=Aiz ja (Lp _) (args:=[SL true 0 ((I7 K E i).map Ent.row),.agg [iV q.2.kind,.sl ib gb 0 q.2.sites.length 3 true,iV q.2.seen,iV q.2.missed]]) (v:=SL true 0 ((K0 (q.2.sto K) (I7 K E i)).map Ent.row)) (by simp[Ah,V.refs,Pj (G8 _ _ _)])
 have qH:Fn TT PT 19 [SL true 0 ((I7 K E i).map Ent.row),.agg [iV q.2.kind,SL true 0 ((q.2.sto K).sites.map Aw),iV q.2.seen,iV q.2.missed]] (SL true 0 ((K0 (q.2.sto K) (I7 K E i)).map Ent.row)):=
  A3o (I7 K E i) (q.2.sto K) AA (fun e he=>by
   obtain⟨y,hy,rfl⟩:=v3 e he;have h3:(y.sto K).sites.length=y.sites.length:=Um _ _ _ _;have:=(qr y hy).2.1
   omega) (by rw[qP];omega)
 rw[<-qq];have jM:=(qY 2 (by simp[V.refs];omega)).trans g2;simp only[go_sem,g2,gq];refine Alz (.cons (H2 (Aag ..)) (.cons (Sw (.cons (Em rfl) (.cons (I1 ja AA (G6 _) (Lp _)) (.cons (Em rfl) (.cons (Em rfl) .nil))))) .nil)) qH ha ?_
 have qc:∀ j,j<s.length->j≠ib->j≠2->∀ X:Ob,(s'.set 2 X)[j]?=s[j]?:=fun j hj h3 h4 X=>by
  rw[Bk (Ne.symm h4),qY j (by simpa[V.refs] using h3)];exact qT j hj h3
 simp only[go_sem,jM,i1];refine Am (ih (i+1,_) AH ⟨h',?_,?_,?_,?_⟩) rfl
 .simp only;rw[qc 1 AA AA AA];exact h1
 .simp only;rw[Bv AA,Aqv qU]
 .refine .inr ⟨jE,iu,g,by rw[Aj],?_,qw⟩;simp only;rw[qc iu (Al.1 ho).1 ju AA];exact ho
 .intro r hr;have jL:r∈L.drop i:=by rw[qN];exact Db _ hr
  obtain⟨r1,r2⟩:=qE r jL;refine⟨r1,?_⟩;rcases r2 with r2 | ⟨r2,jb,gj,r3,r4,r5⟩
  .exact .inl r2
  .refine .inr ⟨r2,jb,gj,r3,?_,r5⟩;have h5:=jn.sublist (List.drop_sublist i L);rw[qN]at h5;have qi:=(Mh.1 h5).1 r hr;have qi:=qi ib (by rw[qM];simp[V.refs]);have qx:jb≠ib:=fun e=>qi (by rw[r3,e];simp[V.refs])
   simp only;rw[qc jb (Al.1 r4).1 qx AA];exact r4
def Afv{p:Gp}(hp:PY p):(B9 p).length<=1000000000000:=by
 have h1:(He (H5 p)).length=(Ik p).length:=Y6 p.thrs;have:=Zn hp.px;rw[Add];omega
def A2t(K:List A0)(l:List Item):(Vr K l).length<=20/\∀ e∈Vr K l,2<=e.sites.length/\e.sites.length<=4:=by
 obtain⟨b1,b2,b3⟩:=Adn l 20;obtain⟨v1,v2,v3⟩:=Ajk K (F7 l 20) (F7 l 20).length;refine⟨by unfold Vr;omega,fun e he=>?_⟩;obtain⟨y,hy,rfl⟩:=v3 e he;obtain⟨x,-,rfl⟩:=b3 y hy;have h3:(x.ent.sto K).sites.length=x.ent.sites.length:=Um _ _ _ _;rw[h3,Y0];exact Aai x.kind
section
variable {κ:Type} [DecidableEq κ] {c:κ->κ->Int}
def Il(x y:κ × Int × Int):κ × Int × Int:=(x.1,max x.2.1 y.2.1,min x.2.2 y.2.2)
def Ej(c:κ->κ->Int)(y:κ × Int × Int):List (κ × Int × Int)->List (κ × Int × Int)
 | []=>[y]
 | x::l=>if c x.1 y.1<0 then x::Ej c y l else if x.1=y.1 then Il x y::l else y::x::l
def Ank(c:κ->κ->Int)(L:List (κ × Int × Int)):List (κ × Int × Int):=L.foldl (fun s y=>Ej c y s) []
def Vs(c:κ->κ->Int)(l:List (κ × Int × Int)):Prop:=l.Pairwise fun x y=>c x.1 y.1<0
theorem Ajl{y:κ × Int × Int}:∀ {l:List (κ × Int × Int)} {x:κ × Int × Int},x∈Ej c y l->x.1=y.1\/∃ z∈l,z.1=x.1
 | [],x,h=>by
  grind[Ej]
 | a::l,x,h=>by
  rw[Ej]at h
  split at h
  .rcases Bo.1 h with rfl | h
   .grind
   .rcases Ajl h with h | ⟨z,hz,e⟩
    .grind
    grind
  .split at h
   .rcases Bo.1 h with rfl | h
    .exact .inr ⟨a,Cr,rfl⟩
    grind
   grind
theorem Ajm(hc:Lin c){y:κ × Int × Int}:∀ {l:List (κ × Int × Int)},Vs c l->Vs c (Ej c y l)
 | [],_=>by rw[Ej];exact List.pairwise_singleton _ _
 | a::l,h=>by
  unfold Vs at h ⊢;obtain⟨h1,h2⟩:=Mh.1 h;rw[Ej]
  split
  .rename_i jm;refine Mh.2 ⟨fun x hx=>?_,Ajm hc h2⟩
   grind[Ajl]
  .rename_i jm
   split
   .exact Mh.2 ⟨fun x hx=>h1 x hx,h2⟩
   .rename_i qx
    have jg:c y.1 a.1<0:=by
     rcases hc.tri a.1 y.1 with h | h | h
     .omega
     .grind
     .exact h
    refine Mh.2 ⟨fun x hx=>?_,h⟩;rcases Bo.1 hx with rfl | hx
    .exact jg
    .exact hc.trans _ _ _ jg (h1 x hx)
def A2u(x y z:κ × Int × Int):Il (Il x y) z=Il (Il x z) y:=by
 unfold Il
 grind
def Apk{x y:κ × Int × Int}(h:x.1=y.1):Il x y=Il y x:=by
 grind[Il]
theorem Aqy(hc:Lin c)(y z:κ × Int × Int):∀ (l:List (κ × Int × Int)),Vs c l->Ej c y (Ej c z l)=Ej c z (Ej c y l)
 | [],_=>by
  simp only[Ej];rcases hc.tri y.1 z.1 with h | h | h
  .have h1:=hc.asym h
   grind
  .have h0:¬ c z.1 y.1<0:=by rw[h];exact fun e=>by have:=hc.asym e;omega
   simp_all [if_neg,Apk]
  .have h1:=hc.asym h
   grind
 | a::l,ha=>by
  have ji:∀ k:κ,¬ c k k<0:=fun k e=>hc.asym e e
  obtain⟨h1,h2⟩:=Mh.1 ha;have ih:=Aqy hc y z l h2;by_cases ay:c a.1 y.1<0
  .by_cases az:c a.1 z.1<0
   .simp_all [Ej]
   .by_cases ez:a.1=z.1
    .simp_all [Il,Ej,if_neg]
    .have za:c z.1 a.1<0:=by
      rcases hc.tri a.1 z.1 with h | h | h
      .omega
      .grind
      .exact h
     have zy:=hc.trans _ _ _ za ay
     simp_all [Ej,if_neg]
  .by_cases ey:a.1=y.1
   .by_cases az:c a.1 z.1<0
    .simp_all [Il,Ej,if_neg]
    .by_cases ez:a.1=z.1
     .have n1:¬ c (Il a z).1 y.1<0:=ay;have n2:¬ c (Il a y).1 z.1<0:=az;have n3:(Il a z).1=y.1:=ey;have n4:(Il a y).1=z.1:=ez
      simp_all [Ej,if_neg,A2u]
     .have za:c z.1 a.1<0:=by
       rcases hc.tri a.1 z.1 with h | h | h
       .omega
       .grind
       .exact h
      simp_all [Il,Ej,if_neg]
   .have ya:c y.1 a.1<0:=by
     rcases hc.tri a.1 y.1 with h | h | h
     .omega
     .grind
     .exact h
    by_cases az:c a.1 z.1<0
    .have yz:=hc.trans _ _ _ ya az
     simp_all [Ej,if_neg]
    .by_cases ez:a.1=z.1
     .simp_all [Il,Ej,if_neg]
     .have za:c z.1 a.1<0:=by
       rcases hc.tri a.1 z.1 with h | h | h
       .omega
       .grind
       .exact h
      rcases hc.tri y.1 z.1 with h | h | h
      .have g1:=hc.asym h;have g2:¬ z.1=y.1:=fun e=>ji _ (by rw[e]at h;exact h)
       simp_all [Ej,if_neg]
      .simp_all [Ej,if_neg,Apk]
      .have g1:=hc.asym h;have g2:¬ y.1=z.1:=fun e=>ji _ (by rw[e]at h;exact h)
       simp_all [Ej,if_neg]
def A5a(hc:Lin c){L L':List (κ × Int × Int)}(h:L.Perm L'):∀ s,Vs c s->L.foldl (fun s y=>Ej c y s) s=L'.foldl (fun s y=>Ej c y s) s:=by
 induction h with
 | nil=>grind
 | cons x _ ih=>grind[Ajm]
 | swap x y l=>grind[Aqy]
 | trans _ _ ih1 ih2=>grind
def Tl(c:κ->κ->Int)(out:List (κ × Int × Int))(e:κ × Int × Int):List (κ × Int × Int):=match out.getLast? with
 | some x=>if c x.1 e.1<0 then out++[e] else out.dropLast++[Il x e]
 | none=>[e]
def Atr(hc:Lin c){e:κ × Int × Int}:∀ {out:List (κ × Int × Int)},Vs c out->(∀ x∈out,¬ c e.1 x.1<0)->Tl c out e=Ej c e out
 | [],_,_=>rfl
 | [x],_,h=>by
  unfold Tl;simp only[List.getLast?_singleton,Ej];by_cases h1:c x.1 e.1<0
  .grind
  .have h2:x.1=e.1:=by
    rcases hc.tri x.1 e.1 with h3 | h3 | h3
    .omega
    .exact h3
    .grind
   grind
 | x::y::l,ha,h=>by
  obtain⟨h1,h2⟩:=Mh.1 ha;have ih:=Atr hc (e:=e) h2 fun z hz=>h z (Db _ hz)
  have hx:c x.1 e.1<0:=by
   rcases hc.tri y.1 e.1 with h3 | h3 | h3
   .exact hc.trans _ _ _ (h1 y AE) h3
   .grind
   .grind
  rw[Ej,if_pos hx,<-ih];unfold Tl
  grind
def Av4(hc:Lin c):∀ (S out:List (κ × Int × Int)),Vs c out->(∀ x∈out,∀ y∈S,¬ c y.1 x.1<0)->(S.Pairwise fun x y=>¬ c y.1 x.1<0)->S.foldl (Tl c) out=S.foldl (fun s y=>Ej c y s) out
 | [],_,_,_,_=>rfl
 | e::S,out,ha,h,hs=>by
  obtain⟨h1,h2⟩:=Mh.1 hs;rw[Qq,Qq,Atr hc ha fun x hx=>h x hx e Cr];refine Av4 hc S _ (Ajm hc ha) (fun x hx y hy=>?_) h2
  grind[Ajl]
def Bo6(hc:Lin c){L S:List (κ × Int × Int)}(hp:L.Perm S)(hs:S.Pairwise fun x y=>¬ c y.1 x.1<0):S.foldl (Tl c) []=Ank c L:=by
 unfold Ank;rw[Av4 hc S [] List.Pairwise.nil (fun x hx=>by cases hx) hs,A5a hc hp [] List.Pairwise.nil]
end
section
variable {α κ:Type} {c:κ->κ->Int} {k:α->κ}
def N6(c:κ->κ->Int)(k:α->κ)(l:List α):Prop:=l.Pairwise fun x y=>¬ c (k y) (k x)<0
def Bnp(hc:Lin c){x y z:κ}(h1:¬ c y x<0)(h2:¬ c z y<0):¬ c z x<0:=fun h=>by
 rcases hc.tri y z with h3 | h3 | h3
 .exact h1 (hc.trans _ _ _ h3 h)
 .rw[<-h3]at h;exact h1 h
 .exact h2 h3
structure InsI (c:κ->κ->Int) (k:α->κ) (P:List α) (x:α) (Q:List α):Prop where
 srt:N6 c k (P++Q)
 low:∀ q∈Q,c (k x) (k q)<0
def Bdr{P:List α}{x:α}(h:N6 c k P):InsI c k P x []:=⟨by rw[Bw];exact h,fun q hq=>by cases hq⟩
def A86{P Q:List α}{p x:α}(h:InsI c k (P++[p]) x Q)(hx:c (k x) (k p)<0):InsI c k P x (p::Q):=by
 refine⟨?_,fun q hq=>?_⟩
 .have:=h.srt;rw[Dk]at this;exact this
 .rcases Bo.1 hq with rfl | hq
  .exact hx
  .exact h.low q hq
def A5b(hc:Lin c){Q:List α}{x:α}(h:InsI c k [] x Q):N6 c k (x::Q):=
 Mh.2 ⟨fun q hq=>hc.asym (h.low q hq),h.srt⟩
def A87(hc:Lin c){P Q:List α}{p x:α}(h:InsI c k (P++[p]) x Q)(hx:¬ c (k x) (k p)<0):N6 c k (P++[p]++x::Q):=by
 have h1:=h.srt;unfold N6 at h1 ⊢;rw[Ab1]at h1 ⊢;obtain⟨a,b,d⟩:=h1;refine⟨a,Mh.2 ⟨fun q hq=>hc.asym (h.low q hq),b⟩,fun y hy z hz=>?_⟩;rcases Bo.1 hz with rfl | hz
 .rcases Ch.1 hy with hy | hy
  .rw[Ab1]at a;exact Bnp hc (a.2.2 y hy p AE) hx
  .rw[D4.1 hy];exact hx
 .exact d y hy z hz
def A5c(P R:List α)(p x:α):(P++p::x::R).Perm (P++x::p::R):=List.Perm.append_left P (List.Perm.swap x p R)
/-! rotations -/
def G0(l:List Int)(i:Nat):List Int:=l.drop i++l.take i
def Nm(lt:List Int->List Int->Bool)(l:List Int):List Nat->List Int->List Int
 | [],qa=>qa
 | i::is,qa=>Nm lt l is (if lt (G0 l i) qa then G0 l i else qa)
def A5d(l:List Int):G0 l 0=l:=by simp[G0]
def A1f{lt:List Int->List Int->Bool}(h:∀ x,lt x x=false)(l:List Int)(is:List Nat):Nm lt l (0::is) l=Nm lt l is l:=by
 rw[Nm,A5d,h];rfl
def Ur(l:List Int)(i:Nat):(G0 l i).length=l.length:=by
 unfold G0;rw[Aq,E3,D5];omega
def A88{l:List Int}{i:Nat}{x:Int}(h:x∈G0 l i):x∈l:=by
 unfold G0 at h;rcases Ch.1 h with h | h
 .exact Vz h
 .exact Jz h
def Aib{lt:List Int->List Int->Bool}{P:List Int->Prop}{l:List Int}(hr:∀ i,P (G0 l i)):∀ (is:List Nat) (b:List Int),P b->P (Nm lt l is b)
 | [],_,h=>h
 | i::is,b,h=>by
  rw[Nm];refine Aib hr is _ ?_
  split
  .exact hr i
  .exact h
end
def Ent.tri(x:Ent):(Int × List A0) × Int × Int:=(x.ks,x.seen,x.missed)
def N7(x e:Ent):Ent:={ x with seen:=max x.seen e.seen,missed:=min x.missed e.missed }
def Bds(x e:Ent):(N7 x e).tri=Il x.tri e.tri:=rfl
def Ky(out:List Ent)(e:Ent):List Ent:=match out.getLast? with
 | some x=>if Cw x e<0 then out++[e] else out.dropLast++[N7 x e]
 | none=>[e]
def A5e(out:List Ent)(e:Ent):(Ky out e).map Ent.tri=Tl Js (out.map Ent.tri) e.tri:=by
 unfold Ky Tl;rw[List.getLast?_map]
 cases h:out.getLast? with
 | none=>rfl
 | some x=>
  simp only[Is];have e1:Js x.tri.1 e.tri.1=Cw x e:=rfl;rw[e1]
  split
  .simp
  .simp[Bds]
def Aqz:∀ (S out:List Ent),(S.foldl Ky out).map Ent.tri=(S.map Ent.tri).foldl (Tl Js) (out.map Ent.tri)
 | [],_=>rfl
 | e::S,out=>by rw[Qq,Aqz S,A5e,A2,Qq]
def C8(out:List Ent)(y:Ent):List Ent:=if Gt y out=true then out.modify (C9 y out) (fun x=>N7 x y) else out.take (C9 y out)++y::out.drop (C9 y out)
def Ats(y:Ent):∀ out:List Ent,(C8 out y).map Ent.tri=Ej Js y.tri (out.map Ent.tri)
 | []=>by
  unfold C8;rw[if_neg (by simp[Gt])];rfl
 | x::out=>by
  have ih:=Ats y out;have e1:Js x.tri.1 y.tri.1=Cw x y:=rfl;rw[A2,Ej,e1];by_cases h:Cw x y<0
  .rw[if_pos h,<-ih];have hp:C9 y (x::out)=C9 y out+1:=by rw[C9,if_pos h]
   have ht:Gt y (x::out)=Gt y out:=by unfold Gt;rw[hp];rfl
   unfold C8;rw[ht,hp]
   split
   .rfl
   .rfl
  .have hp:C9 y (x::out)=0:=by rw[C9,if_neg h]
   rw[if_neg h];by_cases h2:x.tri.1=y.tri.1
   .have ht:Gt y (x::out)=true:=by
     unfold Gt;rw[hp];have:Cw x y=0:=(lin_p.zero _ _).2 h2;simp[this]
    rw[if_pos h2];unfold C8;rw[if_pos ht,hp];rfl
   .have ht:Gt y (x::out)=false:=by
     unfold Gt;rw[hp];have:Cw x y≠0:=fun e=>h2 ((lin_p.zero _ _).1 e)
     simp[this]
    rw[if_neg h2];unfold C8;rw[if_neg (by rw[ht];decide),hp];rfl
def Att:∀ (L out:List Ent),(L.foldl C8 out).map Ent.tri=(L.map Ent.tri).foldl (fun s y=>Ej Js y s) (out.map Ent.tri)
 | [],_=>rfl
 | e::L,out=>by rw[Qq,Att L,Ats,A2,Qq]
def Lm(l:List Ent):Prop:=∀ x∈l,x.own=x
def Atu{x e:Ent}(h:x.own=x):(N7 x e).own=N7 x e:=by
 obtain⟨a,b,c,d,z,t⟩:=x;unfold Ent.own at h;simp only[Ent.mk.injEq]at h;obtain⟨-,-,-,-,rfl,rfl⟩:=h;rfl
def A89{out:List Ent}{e:Ent}(h:Lm out)(he:e.own=e):Lm (Ky out e):=by
 unfold Ky
 split
 .rename_i x hx;have jQ:x∈out:=List.mem_of_getLast? hx
  split
  .intro y hy;rcases Ch.1 hy with hy | hy
   .exact h y hy
   .rw[D4.1 hy];exact he
  .intro y hy;rcases Ch.1 hy with hy | hy
   .exact h y (List.dropLast_subset _ hy)
   .rw[D4.1 hy];exact Atu (h x jQ)
 .intro y hy;rw[D4.1 hy];exact he
def Aq0:∀ {S out:List Ent},Lm out->Lm S->Lm (S.foldl Ky out)
 | [],_,h,_=>h
 | e::S,out,h,hs=>Aq0 (S:=S) (out:=Ky out e) (A89 h (hs e Cr)) fun x hx=>hs x (Db _ hx)
def Bdt{out:List Ent}{y:Ent}(h:Lm out)(hy:y.own=y):Lm (C8 out y):=by
 unfold C8
 split
 .intro x hx;obtain⟨i,hi⟩:=List.mem_iff_getElem?.1 hx;rw[List.getElem?_modify]at hi
  cases hg:out[i]? with
  | none=>rw[hg]at hi;simp at hi
  | some y0=>
   rw[hg]at hi;have hm:=h y0 (F0 hg);simp only[Option.map_eq_map,Is,Pg]at hi;rw[<-hi]
   split
   .exact Atu hm
   .exact hm
 .intro x hx;rcases Ch.1 hx with hx | hx
  .exact h x (Jz hx)
  .rcases Bo.1 hx with rfl | hx
   .exact hy
   .exact h x (Vz hx)
def Ad1:∀ {L out:List Ent},Lm out->Lm L->Lm (L.foldl C8 out)
 | [],_,h,_=>h
 | e::L,out,h,hs=>Ad1 (L:=L) (out:=C8 out e) (Bdt h (hs e Cr)) fun x hx=>hs x (Db _ hx)
def Bdu{x y:Ent}(hx:x.own=x)(hy:y.own=y)(h:x.tri=y.tri):x=y:=by
 obtain⟨a,b,c,d,z,t⟩:=x;obtain⟨a',b',c',d',z',t'⟩:=y;unfold Ent.own at hx hy;unfold Ent.tri Ent.ks at h;simp only[Prod.mk.injEq,Ent.mk.injEq]at h hx hy ⊢;obtain⟨⟨h1,h2⟩,h3,h4⟩:=h;obtain⟨-,-,-,-,h5,h6⟩:=hx;obtain⟨-,-,-,-,h7,h8⟩:=hy;exact⟨h1,h2,h3,h4,h5.symm.trans h7,h6.symm.trans h8⟩
def Atv:∀ {a b:List Ent},Lm a->Lm b->a.map Ent.tri=b.map Ent.tri->a=b
 | [],[],_,_,_=>rfl
 | [],_::_,_,_,h=>by simp at h
 | _::_,[],_,_,h=>by simp at h
 | x::a,y::b,ha,hb,h=>by
  rw[A2,A2,List.cons.injEq]at h;rw[Bdu (ha x Cr) (hb y Cr) h.1,Atv (fun z hz=>ha z (Db _ hz)) (fun z hz=>hb z (Db _ hz)) h.2]
def A9a{L S:List Ent}(ho:Lm L)(hp:S.Perm L)(hs:S.Pairwise fun x y=>¬ Cw y x<0):S.foldl Ky []=L.foldl C8 []:=by
 have jG:Lm S:=fun x hx=>ho x (hp.mem_iff.1 hx)
 refine Atv (Aq0 (fun x hx=>by cases hx) jG) (Ad1 (fun x hx=>by cases hx) ho) ?_;rw[Aqz,Att]
 have h:=Bo6 (c:=Js) lin_p (L:=L.map Ent.tri) (S:=S.map Ent.tri) (hp.symm.map _) (by
  rw[List.pairwise_map]
  exact hs.imp fun h=>h)
 unfold Ank at h;exact h
/-! an entry carried over -/
def Ip(kind:Int)(ns:List Int):List Int:=if kind=1 then Jp ns else if kind=2 then Nm (fun x y=>decide (Ib Lib.compareInt x y<0)) ns (List.range ns.length) ns else ns
def A5f(z:Bool)(t:Nat)(l:List Int)(hn:l≠[])(hb:l.length<=1000000):Fn TT PT 88 [SL z t (Ao l)] (SL true 0 (Ao l)):=by
 have qf:Ao l≠[]:=by simpa[Ao] using hn
 have ha:=Aws (σ:=[]) (m:=1) (e:=3) (bytes:=8) (y:=.lst t (Ao l)) (ys:=Ao l) rfl qf AA (Ie l) (by rw[F2];omega);rw[Aak qf];refine Bc T88 rfl ?_;simp only[go_sem,ha];exact Rb (m:=1) (e:=3) (lo:=0) (.inr ⟨qf,0,0,rfl,rfl,An _⟩) AA (Ie l) (Pq l)
def Atw{σ:St}{i t:Nat}{P A:List Int}{R:List V}(ho:σ[i]?=some (.row (Di P++R) 3 0 0))(hr:A.length<=R.length)(hb:P.length+A.length<=1000000):
  Dz 8 (1,3) (.sl i 0 0 P.length 1 true) (.lst t (Ao A)) σ=some (.sl i 0 0 (P++A).length 1 true,σ.set i (.row (Di (P++A)++R.drop A.length) 3 0 0)):=by
 have qh:((Ao A).all fun r=>r.length==1)=true:=by
  rw[B6];intro r hr;simp[Ie A r hr]
 have qC:(Di P).length=P.length:=by unfold Di;rw[Aj]
 have qe:=F2 A;unfold Dz;simp only[Eu,Cy];unfold Jr;simp only;rw[if_pos ⟨qh,by omega⟩,if_pos ⟨by omega,trivial⟩];simp only[ho,if_pos];by_cases hA:A=[]
 .subst hA;simp only[Ao,Bz,List.isEmpty_nil,if_pos,Bw,Dq,Jd];rw[M9 ho]
 .have he:(Ao A).isEmpty=false:=by simpa[Ao] using hA
  rw[he,if_neg AE,if_pos ⟨trivial,trivial,trivial,Av _⟩,if_pos (by rw[qe,Aq,qC];omega),qe,Amp,Yu,Yu,Aq];congr 3;rw[List.take_left' qC,show P.length+A.length=(Di P).length+A.length by rw[qC],Yl,show Di (P++A)=Di P++Di A by unfold Di;rw[Dl],Dt AA,Ahb,Ci]
def A5g(a b:Nat)(A B:List Int)(h0:A++B≠[])(hb:A.length+B.length<=1000000):
  Fn TT PT 89 [.lst 1 [[.lst a (Ao A)],[.lst b (Ao B)]]] (SL true 0 (Ao (A++B))):=by
 have qf:Ao (A++B)≠[]:=by simpa[Ao] using h0
 have qe:=F2 A;have ql:=F2 B;have w1:IntKind.i64.wrap (0+(A.length:Int))=(A.length:Int):=by rw[B7 AA];omega
 have w2:IntKind.i64.wrap ((A.length:Int)+(B.length:Int))=((A.length+B.length:Nat):Int):=by rw[B7 AA];omega
 have f1:((A.length:Int)<0)=False:=eq_false AA;have f2:(((A.length+B.length:Nat):Int)<0)=False:=eq_false AA
 have qj:0<A.length+B.length:=by
  rcases V1 (A.length+B.length) with h | h
  .exact absurd (M6.1 (by rw[Aq];exact h)) h0
  .exact h
 have hg:Aa2 [.nils,iV ((A.length+B.length:Nat):Int)] []=some (.sl 0 0 0 0 1 true,[.row (List.replicate (A.length+B.length) (iV 0)) 3 0 0]):=by
  unfold Aa2;simp only;rw[if_neg AA,if_pos ⟨by omega,by omega⟩,J0];rfl
 have a1:=Atw (σ:=[.row (List.replicate (A.length+B.length) (iV 0)) 3 0 0]) (i:=0) (t:=a) (P:=[]) (A:=A) (R:=List.replicate (A.length+B.length) (iV 0)) rfl AE AJ;have a2:=Atw (σ:=[.row (Di A++List.replicate B.length (iV 0)) 3 0 0]) (i:=0) (t:=b) (P:=A) (A:=B) (R:=List.replicate B.length (iV 0)) rfl AE AA;simp only[Ci,Dq,List.drop_replicate,Ahb,Ab8,Hl,Ahe,Bw]at a1 a2;rw[Aak qf];refine Bc T89 rfl ?_;simp only[go_sem];refine Az Al7 ?_;simp only[go_sem,qe,w1,f1];refine Az Al7 ?_;simp only[go_sem,ql,w2,f2];refine Az Al7 ?_;simp only[go_sem];refine Jf (.spec T141 rfl rfl hg) ?_;simp only[go_sem];refine Az Al8 ?_;simp only[go_sem,a1];refine Az Al8 ?_;simp only[go_sem,a2];refine Az Al8 ?_;simp only[go_sem];have:=Af2 (σ:=[.row (Di (A++B)) 3 0 0]) (m:=1) (e:=3) (i:=0) (g:=0) (xs:=Ao (A++B)) (by rw[Amp];rfl) AA (Ie _) (Pq _);rw[F2,Aq]at this;exact this
abbrev Gj:List Int->List Int->Int:=Ib Lib.compareInt
def Lh(l:List Int):List Int:=Nm (fun x y=>decide (Gj x y<0)) l (List.range l.length) l
def A1g(z u:Bool)(t w:Nat)(A B:List Int)(ha:A.length<=1000000)(hb:B.length<=1000000):
  Fn TT PT 90 [SL z t (Ao A),SL u w (Ao B)] (iV (Gj A B)):=by
 have qe:=F2 A;have ql:=F2 B;refine Bc T90 rfl ?_;simp only[go_sem,qe]
 refine Bh (α:=Nat) (fun i=>A.length - i) (fun i=>[(0,SL z t (Ao A)),(1,SL u w (Ao B)),(9,SL z t (Ao A)),(10,iV (A.length:Int)),(11,iV (i:Int))]) (fun _=>[])
  (fun i=>i<=A.length/\i<=B.length/\Gj A B=Gj (A.drop i) (B.drop i)) ?_ 0 ⟨Av _,Av _,rfl⟩
 rintro i ⟨hi,qv,hc⟩ ih;refine Az Bml ?_;rcases Bb i A.length with h | h;rotate_left
 .have js:i=A.length:=by omega
  subst js;rw[List.drop_length]at hc;simp only[go_sem,Bi h,qe,ql];by_cases h2:A.length<B.length
  .have f1:((A.length:Int)<(B.length:Int))=True:=eq_true AA;rw[Gr h2]at hc;simp only[go_sem,f1];exact Ae rfl (by rw[hc];rfl)
  .have f1:((A.length:Int)<(B.length:Int))=False:=eq_false AA;rw[Dt AA]at hc;simp only[go_sem,f1];exact Ae rfl (by rw[hc];rfl)
 obtain⟨x,hx,qA,-⟩:=Bl h;have qt:(Ao A)[i]?=some [iV x]:=by unfold Ao;rw[Ai,hx];rfl
 have i1:IntKind.i64.wrap ((i:Int)+1)=((i+1:Nat):Int):=Ay AA;rcases Bb i B.length with h2 | h2;rotate_left
 .have f1:((i:Int)>=(B.length:Int))=True:=eq_true AA;rw[qA,Dt h2]at hc;simp only[go_sem,Ar h,qt,ql,f1];exact Ae rfl (by rw[hc];rfl)
 obtain⟨y,hy,qQ,-⟩:=Bl h2;have qm:(Ao B)[i]?=some [iV y]:=by unfold Ao;rw[Ai,hy];rfl
 have f1:((i:Int)>=(B.length:Int))=False:=eq_false AA;rw[qA,qQ]at hc
 have qg:Gj A B=if Lib.compareInt x y≠0 then Lib.compareInt x y else Gj (A.drop (i+1)) (B.drop (i+1)):=hc
 simp only[go_sem,Ar h,qt,ql,f1,qm];refine Ab (Zy x y) AB ?_;simp only[go_sem];by_cases h3:Lib.compareInt x y=0
 .rw[if_neg AA]at qg;have f2:(Lib.compareInt x y != 0)=false:=by simpa using h3
  simp only[go_sem,f2,i1];exact Am (ih (i+1) AA ⟨h,h2,qg⟩) rfl
 .rw[if_pos h3]at qg;have f2:(Lib.compareInt x y != 0)=true:=by simpa using h3
  simp only[go_sem,f2];exact Ae rfl (by rw[qg])
def Av5(t:Nat)(l:List Int)(i:Nat)(h:i<=l.length):∃ t1,Hf 1 (.lst t (Ao l)) (some (iV (i:Int))) none none=some (.lst t1 (Ao (l.drop i))):=by
 have qh:((Ao l).all fun r=>r.length==1)=true:=by
  rw[B6];intro r hr;simp[Ie l r hr]
 have hd:Ao (l.drop i)=(Ao l).drop i:=by unfold Ao;rw[Ach]
 have hl:=F2 l
 have h2:Hf 1 (.lst t (Ao l)) (some (iV (i:Int))) none none=some (.lst (if(none:Option V).isSome then 1 else if(Ao l).length=(Ao l).length/\t=1 then 1 else 0) (((Ao l).take (Ao l).length).drop i)):=by
  simp only[Hf,Du,if_pos (Yi i),J0,Cy];rw[if_pos ⟨by omega,An _,trivial,.inr qh⟩]
 rw[Dg,<-hd]at h2;exact⟨_,h2⟩
def Av6(t:Nat)(l:List Int)(i:Nat)(h:i<=l.length):∃ t1,Hf 1 (.lst t (Ao l)) none (some (iV (i:Int))) none=some (.lst t1 (Ao (l.take i))):=by
 have hd:Ao (l.take i)=(Ao l).take i:=by unfold Ao;rw[R3]
 have hl:=F2 l
 have h2:Hf 1 (.lst t (Ao l)) none (some (iV (i:Int))) none=some (.lst (if(none:Option V).isSome then 1 else if i=(Ao l).length/\t=1 then 1 else 0) (((Ao l).take i).drop 0)):=by
  simp only[Hf,Du,if_pos (Yi i),J0,Cy];rw[if_pos ⟨Av _,by omega,trivial,.inl trivial⟩]
 rw[Jd,<-hd]at h2;exact⟨_,h2⟩
def Bdv{l:List Int}(hn:l≠[])(i:Nat):G0 l i≠[]:=fun e=>by
 have h1:=Ur l i;rw[e]at h1;exact hn (M6.1 h1.symm)
def Bdw(z:Bool)(t:Nat)(l:List Int)(hn:l≠[])(hb:l.length<=1000):
  Fn TT PT 53 [SL z t (Ao l)] (SL true 0 (Ao (Lh l))):=by
 have hl:=F2 l;have qf:Ao l≠[]:=by simpa[Ao] using hn
 have g1:=A5f z t l hn AA;rw[Aak qf]at g1 ⊢;refine Bc T53 rfl ?_;simp only[go_sem];refine Ab g1 AB ?_;simp only[go_sem,hl]
 refine Bh (α:=Nat × List Int) (fun a=>l.length - a.1) (fun a=>[(0,.lst t (Ao l)),(3,SL true 0 (Ao a.2)),(9,iV (l.length:Int)),(10,iV (a.1:Int))]) (fun _=>[])
  (fun a=>a.1<=l.length/\a.2.length=l.length/\Lh l=Nm (fun x y=>decide (Gj x y<0)) l ((List.range l.length).drop a.1) a.2) ?_ (0,l) ⟨Av _,rfl,rfl⟩
 rintro⟨i,qa⟩ ⟨hi,qo,hc⟩ ih;simp only at hi qo hc ih;refine Az Blx ?_;rcases Bb i l.length with h | h;rotate_left
 .rw[Dt (by simpa using h)]at hc;have hc:Lh l=qa:=hc;simp only[go_sem,Bi h];rw[hc];exact F5 AB
 rw[Gr (by simpa using h),Ab9]at hc;have hc:Lh l=Nm (fun x y=>decide (Gj x y<0)) l ((List.range l.length).drop (i+1)) (if decide (Gj (G0 l i) qa<0)=true then G0 l i else qa):=hc;obtain⟨t1,c1⟩:=Av5 t l i hi;obtain⟨t2,c2⟩:=Av6 t l i hi;have i1:IntKind.i64.wrap ((i:Int)+1)=((i+1:Nat):Int):=Ay AA;have g2:=A5g t1 t2 (l.drop i) (l.take i) (Bdv hn i) (by rw[E3,D5];omega);have g3:=A1g true true 0 0 (G0 l i) qa (by rw[Ur];omega) AA;simp only[go_sem,Ar h];refine Ad AD ?_;simp only[go_sem,c1,c2];refine Ax g2 AB ?_;simp only[go_sem];refine Ab g3 AB ?_;simp only[go_sem];by_cases h3:Gj (G0 l i) qa<0
 .have f2:(Gj (G0 l i) qa<0)=True:=eq_true h3;rw[if_pos (decide_eq_true h3)]at hc;simp only[go_sem,f2,i1];exact Am (ih (i+1,_) AH ⟨h,Ur l i,hc⟩) rfl
 .have f2:(Gj (G0 l i) qa<0)=False:=eq_false h3;rw[if_neg (by simpa using h3)]at hc;simp only[go_sem,f2,i1];exact Am (ih (i+1,_) AH ⟨h,qo,hc⟩) rfl
def A9b(z u:Bool)(t w:Nat)(A B:List Int)(he:A.length=B.length)(ha:A.length<=1000000):
  Fn TT PT 60 [SL z t (Ao A),SL u w (Ao B)] (.bool (decide (Gj A B<0))):=by
 have qe:=F2 A;refine Bc T60 rfl ?_;simp only[go_sem,qe]
 refine Bh (α:=Nat) (fun i=>A.length - i) (fun i=>[(0,SL z t (Ao A)),(1,SL u w (Ao B)),(7,iV (A.length:Int)),(8,iV (i:Int))]) (fun _=>[])
  (fun i=>i<=A.length/\Gj A B=Gj (A.drop i) (B.drop i)) ?_ 0 ⟨Av _,rfl⟩
 rintro i ⟨hi,hc⟩ ih;refine Az Bl2 ?_;rcases Bb i A.length with h | h;rotate_left
 .rw[Dt h,Dt AA]at hc;simp only[go_sem,Bi h];exact Ae rfl (by rw[hc];rfl)
 obtain⟨x,hx,qA,-⟩:=Bl h;obtain⟨y,hy,qQ,-⟩:=Bl (l:=B) (i:=i) AA;have qt:(Ao A)[i]?=some [iV x]:=by unfold Ao;rw[Ai,hx];rfl
 have qm:(Ao B)[i]?=some [iV y]:=by unfold Ao;rw[Ai,hy];rfl
 have i1:IntKind.i64.wrap ((i:Int)+1)=((i+1:Nat):Int):=Ay AA;rw[qA,qQ]at hc
 have qg:Gj A B=if Lib.compareInt x y≠0 then Lib.compareInt x y else Gj (A.drop (i+1)) (B.drop (i+1)):=hc
 simp only[go_sem,Ar h];refine Ad AD ?_;simp only[go_sem,qt,qm];by_cases h3:x=y
 .have f2:(x != y)=false:=by simpa using h3
  rw[if_neg (by rw[h3];simp[Lib.compareInt])]at qg;simp only[go_sem,f2,i1];exact Am (ih (i+1) AA ⟨h,qg⟩) rfl
 .have f2:(x != y)=true:=by simpa using h3
  simp only[go_sem,f2];refine Ad AD ?_;simp only[go_sem,qt,qm];refine Ae rfl ?_;rw[qg];congr 1;unfold Lib.compareInt;by_cases h4:x<y
  .simp[h4]
  .have h5:y<x:=by omega
   simp[h4,h5]
def Bdx(x:List Int):decide (Gj x x<0)=false:=by
 have h2:Gj x x=0:=((Aja Aj3).zero x x).2 rfl;rw[h2];rfl
def A5h(z:Bool)(t:Nat)(l:List Int)(hn:l≠[])(hb:l.length<=1000):
  Fn TT PT 31 [SL z t (Ao l)] (SL true 0 (Ao (Lh l))):=by
 have hl:=F2 l;have qf:Ao l≠[]:=by simpa[Ao] using hn
 have qj:0<l.length:=List.length_pos_iff.2 hn;obtain⟨u0,s0,e0,g0,-,-,-⟩:=G9 (σ:=[]) (lo:=0) (m:=1) (e:=3) (bytes:=8) (y:=.lst t (Ao l)) (ys:=Ao l) De (Av _) rfl AA AE (Ie _) AJ;rw[Ci]at g0;rw[Aak (z:=z) (t:=t) qf];refine Bc T31 rfl ?_;simp only[go_sem,e0]
 refine Bh (α:=Nat × V × St × List Int) (fun a=>l.length - a.1) (fun a=>[(0,.lst t (Ao l)),(3,a.2.1),(4,iV (a.1:Int))]) (fun a=>a.2.2.1)
  (fun a=>1<=a.1/\a.1<=l.length/\a.2.2.2.length=l.length/\GW a.2.2.1 1 3 0 a.2.1 (Ao a.2.2.2)/\Lh l=Nm (fun x y=>decide (Gj x y<0)) l ((List.range l.length).drop a.1) a.2.2.2) ?_ (1,u0,s0,l) ⟨An _,qj,rfl,g0,by
   have h1:=A1f (lt:=fun x y=>decide (Gj x y<0)) Bdx l ((List.range l.length).drop 1);rw[<-h1];unfold Lh;congr 1;have h2:=Gr (l:=List.range l.length) (i:=0) (by simpa using qj);rw[Jd,Ab9]at h2
   exact h2⟩
 rintro⟨i,u,s,qa⟩ ⟨h1,hi,qo,hg,hc⟩ ih;simp only at h1 hi qo hg hc ih;refine Az Bli ?_;rcases Bb i l.length with h | h;rotate_left
 .rw[Dt (by simpa using h)]at hc;have hc:Lh l=qa:=hc;simp only[go_sem,Bi h,hl];rw[hc];exact Rb hg AA (Ie _) (Pq _)
 rw[Gr (by simpa using h),Ab9]at hc;have hc:Lh l=Nm (fun x y=>decide (Gj x y<0)) l ((List.range l.length).drop (i+1)) (if decide (Gj (G0 l i) qa<0)=true then G0 l i else qa):=hc;obtain⟨t1,c1⟩:=Av5 t l i hi;obtain⟨t2,c2⟩:=Av6 t l i hi;have i1:IntKind.i64.wrap ((i:Int)+1)=((i+1:Nat):Int):=Ay AA;obtain⟨v1,s1,e1,g1,l1,-,k1⟩:=G9 (σ:=s) (lo:=s.length) (m:=1) (e:=3) (bytes:=8) (y:=.lst t1 (Ao (l.drop i))) (ys:=Ao (l.drop i)) De (An _) rfl AA AE (Ie _) (by rw[F2,E3];simp;omega);rw[Ci]at g1;obtain⟨v2,s2,e2,g2,l2,-,k2⟩:=G9 (bytes:=8) (y:=.lst t2 (Ao (l.take i))) (ys:=Ao (l.take i)) g1 l1 rfl AA (Ie _) (Ie _) (by rw[F2,F2,E3,D5];omega);rw[<-Adc]at g2
 have qd:GW s2 1 3 0 u (Ao qa):=Gu hg fun j hj=>by
  have:=Ee hg j hj;rw[k2 j this,k1 j this]
 have g3:=A9b true true 0 0 (G0 l i) qa (by rw[Ur];omega) (by rw[Ur];omega);simp only[go_sem,Ar h,hl];refine Ad AD ?_;simp only[go_sem,c1,e1,c2,e2];refine J6 (by repeat (first | exact trivial | refine⟨.inl AK,?_⟩ | refine⟨by rfl,?_⟩ | refine⟨.inr ⟨by rfl,by rfl⟩,?_⟩)) (by repeat (first | exact trivial | refine⟨.inl AK,?_⟩ | refine⟨by rfl,?_⟩ | refine⟨.inr ⟨by rfl,by rfl⟩,?_⟩)) ?_;simp only[go_sem];refine Alz (.cons (Oo (I1 g2 AA (Ie _) (Pq _)) (Bx g2)) (.cons (Oo (I1 qd AA (Ie _) (Pq _)) (Bx qd)) .nil)) g3 rfl ?_;have ha:∀ (b:Bool) (args:List V),after s2 args (.bool b)=s2:=fun _ _=>rfl
 simp only[go_sem,ha];by_cases h3:Gj (G0 l i) qa<0
 .have f2:decide (Gj (G0 l i) qa<0)=true:=decide_eq_true h3;rw[if_pos f2]at hc;simp only[go_sem,f2,i1];exact Am (ih (i+1,v2,s2,G0 l i) AH ⟨by omega,h,Ur l i,g2.imp id fun⟨x1,x2,x3,x4,x5,_⟩=>⟨x1,x2,x3,x4,x5,Av _⟩,hc⟩) rfl
 .have f2:decide (Gj (G0 l i) qa<0)=false:=decide_eq_false h3;rw[if_neg (by simp[f2])]at hc;simp only[go_sem,f2,i1];exact Am (ih (i+1,u,s2,qa) AH ⟨by omega,h,qo,qd,hc⟩) rfl
section
variable {κ:Type} [DecidableEq κ]
def Gd(ks:List κ)(m:List Int)(k:κ):Option Nat:=match L7 ks k with
 | some s=>if m.getD s (-1)<0 then none else some (m.getD s (-1)).toNat
 | none=>none
def Ft(ks:List κ)(m:List Int):List κ->Option (List Nat)
 | []=>some []
 | k::l=>match Gd ks m k with
  | some n=>(Ft ks m l).map (n::·)
  | none=>none
def Acr{ks:List κ}{m:List Int}:∀ {l:List κ},Ft ks m l=none↔∃ k∈l,Gd ks m k=none
 | []=>by simp[Ft]
 | k::l=>by
  rw[Ft]
  cases h:Gd ks m k with
  | none=>simp[h]
  | some n=>
   simp only[Bo];constructor
   .intro e;have:Ft ks m l=none:=by simpa using e
    obtain⟨k',h1,h2⟩:=Acr.1 this
    grind
   .rintro⟨k',h1 | h1,h2⟩
    .grind
    .have:=Acr.2 ⟨k',h1,h2⟩
     grind
def Wd{ks:List κ}{m:List Int}:∀ {l:List κ} {r:List Nat},Ft ks m l=some r->r.length=l.length
 | [],r,h=>by grind[Ft]
 | k::l,r,h=>by
  rw[Ft]at h
  cases h1:Gd ks m k with
  | none=>grind
  | some n=>
   rw[h1]at h
   cases h2:Ft ks m l with
   | none=>grind
   | some r'=>
    rw[h2]at h;simp at h;rw[<-h,Bg,Bg,Wd h2]
end
