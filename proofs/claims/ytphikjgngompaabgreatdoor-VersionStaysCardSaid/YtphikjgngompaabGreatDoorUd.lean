/- Walks: the keys of programs, both sides. -/
import Derived.Test.YtphikjgngompaabGreatDoorIj
set_option linter.all false
namespace Go.Proofs.YtphikjgngompaabGreatDoor.KM
open Go
/-! maps -/
def fk(s:List UInt8):List (List UInt8 × V)->Option V
 | []=>none
 | (k,v)::r=>if k==s then some v else fk s r
def Axf(s:List UInt8):∀ (kvs:List (List UInt8 × V)) (i:Nat),(H2 s kvs i).map Prod.snd=fk s kvs
 | [],_=>rfl
 | (k,v)::r,i=>by
  rw[H2,fk]
  split
  .rfl
  .exact Axf s r (i+1)
def Aus(s:List UInt8)(v:V):∀ (kvs:List (List UInt8 × V)) (i j:Nat) (w:V),H2 s kvs i=some (j,w)->i<=j/\∀ s',fk s' (kvs.set (j - i) (s,v))=if s'=s then some v else fk s' kvs
 | [],_,_,_,h=>by cases h
 | (k,x)::r,i,j,w,h=>by
  rw[H2]at h
  split at h
  .rename_i hk;cases h;refine⟨Aj _,fun s'=>?_⟩;have hk:=eq_of_beq hk;rw[Is,Ac7,fk,fk,hk]
   grind
  .rename_i hk;obtain⟨h1,h2⟩:=Aus s v r (i+1) j w h;refine⟨by omega,fun s'=>?_⟩;obtain⟨m,hm⟩:∃ m,j - i=m+1:=⟨j - i - 1,by omega⟩
   grind[fk]
def Ar2(s:List UInt8)(v:V):∀ (kvs:List (List UInt8 × V)) (i:Nat),H2 s kvs i=none->∀ s',fk s' (kvs++[(s,v)])=if s'=s then some v else fk s' kvs
 | [],_,_,s'=>by
  rw[Ba,fk,fk,fk]
  grind
 | (k,x)::r,i,h,s'=>by
  rw[H2]at h
  split at h
  .cases h
  .rename_i hk;rw[Bq,fk,fk,Ar2 s v r (i+1) h s']
   grind
def KVs(kvs:List (List UInt8 × V))(X:List (List UInt8)):Prop:=∀ s,fk s kvs=if X.count s=0 then none else some (iV (X.count s:Int))
theorem Bk8:KVs [] []:=fun _=>rfl
def Axg{kvs kvs':List (List UInt8 × V)}{X:List (List UInt8)}{s:List UInt8}(h:KVs kvs X)(hs:∀ s',fk s' kvs'=if s'=s then some (iV ((X.count s+1:Nat):Int)) else fk s' kvs):KVs kvs' (X++[s]):=fun s'=>by
 rw[hs s',Aij];by_cases e:s'=s
 .grind
 .have:[s].count s'=0:=List.count_eq_zero.2 fun hm=>e (Gm.1 hm)
  rw[if_neg e,this,Nt];exact h s'
def Bk9{kvs:List (List UInt8 × V)}{X:List (List UInt8)}(h:KVs kvs X)(s:List UInt8):(H2 s kvs 0=none/\X.count s=0)\/∃ j,H2 s kvs 0=some (j,iV (X.count s:Int)):=by
 have h1:=Axf s kvs 0;rw[h s]at h1
 cases hf:H2 s kvs 0 with
 | none=>
  grind
 | some p=>
  grind
/-! keys -/
def Ar3(nm:List UInt8):∀ (X P:List (List UInt8)) (k:Nat) (x:List UInt8),X[k]?=some x->(F2 nm P X)[k]?=some (J4 nm x ((P++X.take k).count x))
 | [],_,_,_,h=>by simp at h
 | y::X,P,0,x,h=>by
  grind[F2]
 | y::X,P,k+1,x,h=>by
  rw[F2,Q5,Ar3 nm X (P++[y]) k x (by grind)];simp
def Aqr{nm:List UInt8}{X:List (List UInt8)}{k:Nat}{x:List UInt8}(h:X[k]?=some x):(F2 nm [] X).take k++[J4 nm x ((X.take k).count x)]=(F2 nm [] X).take (k+1):=by
 simp_all [Ar3,M3]
def Aay{L:List Tp}(h:∀ t∈L,Sp.szs t.body<=10000):(L.map fun t=>Sp.szs t.body).sum<=L.length*10000:=by
 induction L with
 | nil=>simp
 | cons a l ih=>
  grind
def Pn(L:List Tp):List (List V):=(L.map fun t=>F2 t.nm [] (Sp.hdss t.body)).flatten
def Aqs{L:List Tp}{i:Nat}{x:Tp}(h:L[i]?=some x):Pn (L.take (i+1))=Pn (L.take i)++F2 x.nm [] (Sp.hdss x.body):=by
 grind[Pn,List.take_add_one]
set_option maxHeartbeats 4000000 in
def Aut{p:Gp}(h:PX p):Fn TT PT 17 [.agg p.row] (SL true 0 (Hr p)):=by
 obtain⟨zL,hL⟩:=A6p h;have ji:=Uf p;have qI:=F1 p;have jb:=h.few;have jj:=Aay h.sz;have je:(p.thrs.map Dh).length=p.thrs.length:=Ar ..;rw[qI]at hL ji ⊢;refine Bg T17 rfl ?_;simp only[go_sem];refine Ab hL AB ?_;simp only[go_sem,je];refine Bk (α:=Nat × St × V) (fun a=>p.thrs.length - a.1) (fun a=>[(1,.ptr 0 0 0),(3,a.2.2),(12,SL zL 0 (p.thrs.map Dh)),(13,iV (p.thrs.length:Int)),(14,iV (a.1:Int))]) (fun a=>a.2.1) (fun a=>a.1<=p.thrs.length/\GW a.2.1 3 45 1 a.2.2 (Pn (p.thrs.take a.1))/\a.2.1[0]?=some (gO p)) ?_ (0,_,.nils) ⟨Ax _,D3,rfl⟩;rintro⟨i,s,u⟩ ⟨hi,hg,hs⟩ ih;simp only at hi hg hs ih;refine Bd Bou ?_;rcases Bh i p.thrs.length with h' | h';rotate_left
 .have jc:i=p.thrs.length:=by omega
  subst jc;rw[Dq]at hg;simp only[go_sem,Bl h'];exact Tr hg AA (fun r hr=>(Xy _ r hr).1) (fun r hr=>(Xy _ r hr).2)
 obtain⟨x,hx,hd,hm⟩:=Br h';have qw:=Ue x;have jl:=h.sz x hm;have jf:Dh x=[SL true 0 ((Sp.hdss x.body).map fun x=>[V.str x])]:=rfl;have qV:((Sp.hdss x.body).map fun x=>[V.str x]).length=(Sp.hdss x.body).length:=Ar ..;have jK:=Lj x.body;have jk:=Aqs hx
 have qY:(Pn (p.thrs.take i)).length<=100000000*10000:=by
  have h1:=Ajy (p.thrs.take i);have h2:=Aay (L:=p.thrs.take i) fun t ht=>h.sz t (Np ht)
  have h3:(p.thrs.take i).length*10000<=100000000*10000:=E0 _ (by grind);unfold Pn;omega
 generalize hX:Sp.hdss x.body=X at *;simp only[go_sem,Az h',Au,hx,jf,hX,qV];refine Bk (α:=Nat × St × V) (fun a=>X.length - a.1) (fun a=>[(1,.ptr 0 0 0),(3,a.2.2),(4,iV (i:Int)),(5,SL true 0 (X.map fun x=>[V.str x])),(12,SL zL 0 (p.thrs.map Dh)),(13,iV (p.thrs.length:Int)),(14,iV (i:Int)),(19,SL true 0 (X.map fun x=>[V.str x])),(20,iV (X.length:Int)),(21,iV (a.1:Int))]) (fun a=>a.2.1) (fun a=>a.1<=X.length/\GW a.2.1 3 45 1 a.2.2 (Pn (p.thrs.take i)++(F2 x.nm [] X).take a.1)/\a.2.1[0]?=some (gO p)) ?_ (0,s,u) ⟨Ax _,by grind,hs⟩;clear hg hs u s;rintro⟨k,s,u⟩ ⟨hk,hg,hs⟩ jh;simp only at hk hg hs jh;refine Bd Bot ?_;rcases Bh k X.length with h3 | h3;rotate_left
 .rw[show(F2 x.nm [] X).take k=F2 x.nm [] X from Ic (by grind[Z0]),<-jk]at hg;simp only[go_sem,Bl h3,A2 (show i<9223372036854775807 by omega)];exact Av (ih (i+1,s,u) AA ⟨h',hg,hs⟩) rfl
 obtain⟨y,hy,-,-⟩:=Br h3;obtain⟨z2,t2,qP⟩:=Xd true 0 1 (X.map fun x=>[V.str x]) .i64 k AA;rw[<-W4]at qP;have jO:((X.take k).map fun x=>[V.str x]).length=k:=by rw[Ar,Iq];omega
 simp only[go_sem,Az h3,Au,hy,qP,jO];refine Bk (α:=Nat) (fun j=>k - j) (fun j=>[(1,.ptr 0 0 0),(3,u),(4,iV (i:Int)),(5,SL true 0 (X.map fun x=>[V.str x])),(7,.str y),(8,iV (((X.take j).count y:Nat):Int)),(12,SL zL 0 (p.thrs.map Dh)),(13,iV (p.thrs.length:Int)),(14,iV (i:Int)),(19,SL true 0 (X.map fun x=>[V.str x])),(20,iV (X.length:Int)),(21,iV (k:Int)),(28,SL z2 t2 ((X.take k).map fun x=>[V.str x])),(29,iV (k:Int)),(30,iV (j:Int))]) (fun _=>s) (fun j=>j<=k) ?_ 0 (Ax _);rintro j hj kh;have kc:(X.take j).count y<=k:=C8 List.count_le_length (by rw[Iq];omega);refine Bd Bos ?_;rcases Bh j k with h4 | h4
 .obtain⟨w,hw⟩:∃ w,X[j]?=some w:=⟨_,B9 AA⟩;have jx:(X.take k)[j]?=some w:=by rw[Wv,if_pos h4];exact hw
  have qZ:(X.take (j+1)).count y=(X.take j).count y+(if w=y then 1 else 0):=by
   rw[M3,hw,Aij]
   by_cases e:w=y<;>simp[e]
  by_cases e:w=y
  .have f1:(w==y)=true:=by simp[e]
   rw[if_pos e]at qZ;have w1:IntKind.i64.wrap ((((X.take j).count y:Nat):Int)+1)=(((X.take (j+1)).count y:Nat):Int):=by rw[Cm AA,qZ];rfl
   simp only[go_sem,Az h4,Au,jx,f1,w1,A2 (show j<9223372036854775807 by omega)];exact Av (kh (j+1) AA h4) rfl
  .have f1:(w==y)=false:=by simp[e]
   rw[if_neg e]at qZ;have ja:(X.take j).count y=(X.take (j+1)).count y:=by omega
   rw[ja];simp only[go_sem,Az h4,Au,jx,f1,A2 (show j<9223372036854775807 by omega)];exact Av (kh (j+1) AA h4) rfl
 obtain rfl:j=k:=by omega
 have jd:=Aqr (nm:=x.nm) hy
 obtain⟨u',s',ha,g',l',kp,rf,-⟩:=Pa (bytes:=40) (y:=.lst 1 [J4 x.nm y ((X.take j).count y)]) (ys:=[J4 x.nm y ((X.take j).count y)]) hg (by grind) rfl AA (fun r hr=>by
  rcases Cu.1 hr with hr | hr
  .exact(Xy _ r hr).1
  grind[Afm]) (by simp[J4]) (by simp[J4,V.rowB]) (by grind)
 rw[Bt,jd]at g';have jv:=(kp 0 (Ao.1 hs).1 fun e=>by have:=(Dl hg 0 e).1;omega).trans hs;have qO:=Cg g';unfold J4 at ha;simp only[go_sem,Bl h4,hs,Au,hx,qw,ha,A2 (show j<9223372036854775807 by omega)];exact Av (jh (j+1,s',u') AA ⟨h3,g',jv⟩) rfl
set_option maxHeartbeats 4000000 in
def Auu{p:Gp}(h:PX p):Fn TT PT 75 [.agg p.row] (SL true 0 (Hr p)):=by
 have hL:=Ajx h;have ji:=Uf p;have qI:=F1 p;have jb:=h.few;have jj:=Aay h.sz;have je:(p.thrs.map Dh).length=p.thrs.length:=Ar ..;rw[qI]at hL ji ⊢;refine Bg T75 rfl ?_;simp only[go_sem];refine Ab hL AB ?_;simp only[go_sem,je];refine Bk (α:=Nat × St × V) (fun a=>p.thrs.length - a.1) (fun a=>[(1,.ptr 0 0 0),(3,a.2.2),(10,.lst 0 (p.thrs.map Dh)),(11,iV (p.thrs.length:Int)),(12,iV (a.1:Int))]) (fun a=>a.2.1) (fun a=>a.1<=p.thrs.length/\GW a.2.1 3 45 1 a.2.2 (Pn (p.thrs.take a.1))/\a.2.1[0]?=some (gO p)) ?_ (0,_,.nils) ⟨Ax _,D3,rfl⟩;rintro⟨i,s,u⟩ ⟨hi,hg,hs⟩ ih;simp only at hi hg hs ih;refine Bd Bpx ?_;rcases Bh i p.thrs.length with h' | h';rotate_left
 .have jc:i=p.thrs.length:=by omega
  subst jc;rw[Dq]at hg;simp only[go_sem,Bl h'];exact Tr hg AA (fun r hr=>(Xy _ r hr).1) (fun r hr=>(Xy _ r hr).2)
 obtain⟨x,hx,hd,hm⟩:=Br h';have qw:=Ue x;have jl:=h.sz x hm;have jf:Dh x=[SL true 0 ((Sp.hdss x.body).map fun x=>[V.str x])]:=rfl;have qV:((Sp.hdss x.body).map fun x=>[V.str x]).length=(Sp.hdss x.body).length:=Ar ..;have jK:=Lj x.body;have jk:=Aqs hx
 have qY:(Pn (p.thrs.take i)).length<=100000000*10000:=by
  have h1:=Ajy (p.thrs.take i);have h2:=Aay (L:=p.thrs.take i) fun t ht=>h.sz t (Np ht)
  have h3:(p.thrs.take i).length*10000<=100000000*10000:=E0 _ (by grind);unfold Pn;omega
 generalize hX:Sp.hdss x.body=X at *;have ki:0<s.length:=(Ao.1 hs).1;have jW:∀ j∈u.refs,1<=j/\j<s.length:=Dl hg;simp only[go_sem,Az h',Au,hx,jf,hX,qV];have qK:(s++([.map []]:St))[s.length]?=some (.map []):=by simp
 refine Bk (α:=Nat × St × V × List (List UInt8 × V)) (fun a=>X.length - a.1) (fun a=>[(1,.ptr 0 0 0),(3,a.2.2.1),(4,iV (i:Int)),(6,.mp s.length),(10,.lst 0 (p.thrs.map Dh)),(11,iV (p.thrs.length:Int)),(12,iV (i:Int)),(18,SL true 0 (X.map fun x=>[V.str x])),(19,iV (X.length:Int)),(20,iV (a.1:Int))]) (fun a=>a.2.1) (fun a=>a.1<=X.length/\(GW a.2.1 3 45 1 a.2.2.1 (Pn (p.thrs.take i)++(F2 x.nm [] X).take a.1)/\s.length ∉ a.2.2.1.refs)/\a.2.1[0]?=some (gO p)/\a.2.1[s.length]?=some (.map a.2.2.2)/\KVs a.2.2.2 (X.take a.1)) ?_ (0,s++([.map []]:St),u,[]) ⟨Ax _,⟨by grind[Ix],fun e=>by grind⟩,By hs,qK,by grind[Bk8]⟩;generalize hn:s.length=n at *;clear hg hs jW qK u hn s;rintro⟨k,s,u,kvs⟩ ⟨hk,⟨hg,jt⟩,hs,qn,qT⟩ jh;simp only at hk hg jt hs qn qT jh;refine Bd Bpw ?_;rcases Bh k X.length with h3 | h3;rotate_left
 .rw[show(F2 x.nm [] X).take k=F2 x.nm [] X from Ic (by grind[Z0]),<-jk]at hg;simp only[go_sem,Bl h3,A2 (show i<9223372036854775807 by omega)];exact Av (ih (i+1,s,u) AA ⟨h',hg,hs⟩) rfl
 obtain⟨y,hy,-,-⟩:=Br h3;have jd:=Aqr (nm:=x.nm) hy;have jP:=(Ao.1 hs).1;have jR:=(Ao.1 qn).1;have ke:(X.take k).count y<=k:=C8 List.count_le_length (by grind)
 obtain⟨u',s',ha,g',l',kp,rf,-⟩:=Pa (bytes:=40) (y:=.lst 1 [J4 x.nm y ((X.take k).count y)]) (ys:=[J4 x.nm y ((X.take k).count y)]) hg AA rfl AA (fun r hr=>by
  rcases Cu.1 hr with hr | hr
  .exact(Xy _ r hr).1
  grind[Afm]) (by simp[J4]) (by simp[J4,V.rowB]) (by grind)
 rw[Bt,jd]at g';have jv:=(kp 0 jP fun e=>by have:=(Dl hg 0 e).1;omega).trans hs;have qC:=(kp n jR jt).trans qn;have qO:=Cg g'
 have qv:n ∉ u'.refs:=fun e=>by
  grind
 have kf:n≠0:=fun e=>by omega
 have w1:IntKind.i64.wrap ((((X.take k).count y:Nat):Int)+1)=(((X.take k).count y+1:Nat):Int):=by rw[Cm AA];rfl
 have fb:∀ n:Int,(iV n).flatB=true:=fun _=>rfl
 have qR:X.take k++[y]=X.take (k+1):=by rw[M3,hy];rfl
 unfold J4 at ha;rcases Bk9 qT y with⟨hf,h0⟩ | ⟨j,hf⟩
 .have qg:=Axg (s:=y) qT (Ar2 y (iV (((X.take k).count y+1:Nat):Int)) kvs 0 hf);rw[qR]at qg;rw[h0]at ha w1 qg;rw[Int.natCast_zero]at ha w1;simp only[go_sem,Az h3,Au,hy];refine Af AD ?_;simp only[go_sem,hs,qn,hf,Au,hx,qw];simp only[go_sem,ha];refine Bb ?_;simp only[go_sem,qC,hf,w1,fb,A2 (show k<9223372036854775807 by omega)];exact Av (jh (k+1,s'.set n (.map (kvs++[(y,iV 1)])),u',kvs++[(y,iV 1)]) AA ⟨h3,⟨Jq g' fun q hq=>Ce fun(e:n=q)=>qv (by grind),qv⟩,by grind,Cr AA,qg⟩) rfl
 .have qg:=Axg (s:=y) qT (by have:=(Aus y (iV (((X.take k).count y+1:Nat):Int)) kvs 0 j _ hf).2;rw[Adl]at this;exact this);rw[qR]at qg;simp only[go_sem,Az h3,Au,hy];refine Af AD ?_;simp only[go_sem,hs,qn,hf,Au,hx,qw];simp only[go_sem,ha];refine Bb ?_;simp only[go_sem,qC,hf,w1,fb,A2 (show k<9223372036854775807 by omega)];exact Av (jh (k+1,s'.set n (.map (kvs.set j (y,iV (((X.take k).count y+1:Nat):Int)))),u',kvs.set j (y,iV (((X.take k).count y+1:Nat):Int))) AA ⟨h3,⟨Jq g' fun q hq=>Ce fun(e:n=q)=>qv (by grind),qv⟩,by grind,Cr AA,qg⟩) rfl
def Tj(nm:List UInt8):List (List UInt8)->List (List UInt8)->List Ak
 | _,[]=>[]
 | P,x::X=>(nm,x,(P.count x:Int))::Tj nm (P++[x]) X
theorem Axh(nm:List UInt8):∀ (X P:List (List UInt8)),F2 nm P X=(Tj nm P X).map A0
 | [],_=>rfl
 | x::X,P=>by rw[F2,Tj,Aw,Axh nm X];rfl
def C7(p:Gp):List Ak:=(p.thrs.map fun t=>Tj t.nm [] (Sp.hdss t.body)).flatten
theorem Aaz(p:Gp):Hr p=(C7 p).map A0:=by
 grind[Hr,C7,List.map_congr_left,Axh]
theorem Aed(p:Gp):(C7 p).length=(Hr p).length:=by grind[Aaz]
def Ol(k:Ak):Int:=k.2.2+3*(k.2.1.length:Int)+5*(k.1.length:Int)
def Qu(K:List Ak)(seen:Int)(i:Nat)(k:Ak):Ak:=
 if K.length=0\/(Ol k).tmod 7=0 then k else K.getD ((Ol k+seen*(i:Int)).tmod (K.length:Int)).toNat k
def Jy(K:List Ak)(seen:Int):Nat->List Ak->List Ak
 | _,[]=>[]
 | i,k::l=>Qu K seen i k::Jy K seen (i+1) l
theorem Sx(K:List Ak)(seen:Int):∀ (l:List Ak) (i:Nat),(Jy K seen i l).length=l.length
 | [],_=>rfl
 | _::l,i=>by rw[Jy,An,An,Sx K seen l]
def Ar4{K:List Ak}{seen:Int}{x:Ak}:∀ {l:List Ak} {i:Nat},x∈Jy K seen i l->x∈K\/x∈l
 | k::l,i,h=>by
  rw[Jy]at h;rcases Bp.1 h with rfl | h
  .unfold Qu
   split
   .exact .inr B4
   .rw[Ef]
    cases hg:K[((Ol k+seen*(i:Int)).tmod (K.length:Int)).toNat]? with
    | none=>exact .inr B4
    | some y=>exact .inl (F7 hg)
  .exact(Ar4 h).imp id (Cb _)
def Ent.sto(K:List Ak)(e:Ent):Ent:=⟨e.kind,Jy K e.seen 0 e.sites,e.seen,e.missed,true,0⟩
def Lz(K:List Ak)(l:List Ent)(n:Nat):List Ent:=(l.take n).foldl (fun s e=>K7 (e.sto K) s) []
theorem Ar5{K:List Ak}{l:List Ent}{i:Nat}{e:Ent}(h:l[i]?=some e):Lz K l (i+1)=K7 (e.sto K) (Lz K l i):=by
 grind[Lz,List.take_add_one]
def Aew(K:List Ak)(l:List Ent):∀ i,(Lz K l i).length<=i/\Hw (Lz K l i)/\∀ e∈Lz K l i,∃ x∈l,e=x.sto K
 | 0=>by simp[Lz,Hw]
 | i+1=>by
  obtain⟨h1,h2,h3⟩:=Aew K l i
  cases hx:l[i]? with
  | none=>
   grind[Lz,List.take_add_one]
  | some x=>
   rw[Ar5 hx];refine⟨by grind[Aud],Aub h2,fun e he=>?_⟩;rcases Auc he with rfl | he
   .grind
   grind
def Ent.tri(x:Ent):(Int × List Ak) × Int × Int:=(x.ks,x.seen,x.missed)
def Mx(x e:Ent):Ent:={ x with seen:=max x.seen e.seen,missed:=min x.missed e.missed }
theorem Bfl(x e:Ent):(Mx x e).tri=Ii x.tri e.tri:=rfl
def K3(out:List Ent)(e:Ent):List Ent:=match out.getLast? with
 | some x=>if Cv x e<0 then out++[e] else out.dropLast++[Mx x e]
 | none=>[e]
def A6q(out:List Ent)(e:Ent):(K3 out e).map Ent.tri=Ua Im (out.map Ent.tri) e.tri:=by
 unfold K3 Ua;rw[List.getLast?_map]
 cases h:out.getLast? with
 | none=>rfl
 | some x=>
  simp only[Ir];have e1:Im x.tri.1 e.tri.1=Cv x e:=rfl
  grind[Bfl]
def Ar6:∀ (S out:List Ent),(S.foldl K3 out).map Ent.tri=(S.map Ent.tri).foldl (Ua Im) (out.map Ent.tri)
 | [],_=>rfl
 | e::S,out=>by rw[So,Ar6 S,A6q,Aw,So]
def Fp(out:List Ent)(y:Ent):List Ent:=if Ho y out=true then out.modify (Dd y out) (fun x=>Mx x y) else out.take (Dd y out)++y::out.drop (Dd y out)
def Auv(y:Ent):∀ out:List Ent,(Fp out y).map Ent.tri=Ea Im y.tri (out.map Ent.tri)
 | []=>by
  unfold Fp;rw[if_neg (by simp[Ho])];rfl
 | x::out=>by
  have ih:=Auv y out;have e1:Im x.tri.1 y.tri.1=Cv x y:=rfl;rw[Aw,Ea,e1];by_cases h:Cv x y<0
  .rw[if_pos h,<-ih];have hp:Dd y (x::out)=Dd y out+1:=by rw[Dd,if_pos h]
   grind[Ho,Fp]
  .have hp:Dd y (x::out)=0:=by rw[Dd,if_neg h]
   rw[if_neg h];by_cases h2:x.tri.1=y.tri.1
   .have ht:Ho y (x::out)=true:=by
     unfold Ho;rw[hp];have:Cv x y=0:=(lin_p.zero _ _).2 h2;simp[this]
    rw[if_pos h2];unfold Fp;rw[if_pos ht,hp];rfl
   .have ht:Ho y (x::out)=false:=by
     unfold Ho;rw[hp];have:Cv x y≠0:=fun e=>h2 ((lin_p.zero _ _).1 e)
     simp[this]
    simp_all [Fp]
def Aky:∀ (L out:List Ent),(L.foldl Fp out).map Ent.tri=(L.map Ent.tri).foldl (fun s y=>Ea Im y s) (out.map Ent.tri)
 | [],_=>rfl
 | e::L,out=>by rw[So,Aky L,Auv,Aw,So]
def L5(l:List Ent):Prop:=∀ x∈l,x.own=x
theorem Auw{x e:Ent}(h:x.own=x):(Mx x e).own=Mx x e:=by
 obtain⟨a,b,c,d,z,t⟩:=x;unfold Ent.own at h;simp only[Ent.mk.injEq]at h;obtain⟨-,-,-,-,rfl,rfl⟩:=h;rfl
def Bam{out:List Ent}{e:Ent}(h:L5 out)(he:e.own=e):L5 (K3 out e):=by
 unfold K3
 split
 .rename_i x hx;have jX:x∈out:=List.mem_of_getLast? hx
  split
  .intro y hy;rcases Cu.1 hy with hy | hy
   .exact h y hy
   grind
  .intro y hy;rcases Cu.1 hy with hy | hy
   .exact h y (List.dropLast_subset _ hy)
   .rw[Gm.1 hy];exact Auw (h x jX)
 .intro y hy
  grind
def Ar7:∀ {S out:List Ent},L5 out->L5 S->L5 (S.foldl K3 out)
 | [],_,h,_=>h
 | e::S,out,h,hs=>Ar7 (S:=S) (out:=K3 out e) (Bam h (hs e B4)) fun x hx=>hs x (Cb _ hx)
def Bfm{out:List Ent}{y:Ent}(h:L5 out)(hy:y.own=y):L5 (Fp out y):=by
 unfold Fp
 split
 .intro x hx;obtain⟨i,hi⟩:=Aib.1 hx;rw[List.getElem?_modify]at hi
  cases hg:out[i]? with
  | none=>grind
  | some y0=>
   rw[hg]at hi;have hm:=h y0 (F7 hg)
   grind[Auw]
 .intro x hx;rcases Cu.1 hx with hx | hx
  .exact h x (Np hx)
  .rcases Bp.1 hx with rfl | hx
   .exact hy
   .exact h x (Ws hx)
def Aux:∀ {L out:List Ent},L5 out->L5 L->L5 (L.foldl Fp out)
 | [],_,h,_=>h
 | e::L,out,h,hs=>Aux (L:=L) (out:=Fp out e) (Bfm h (hs e B4)) fun x hx=>hs x (Cb _ hx)
def Bfn{x y:Ent}(hx:x.own=x)(hy:y.own=y)(h:x.tri=y.tri):x=y:=by
 grind[Ent.own,Ent.tri,Ent.ks]
def Auy:∀ {a b:List Ent},L5 a->L5 b->a.map Ent.tri=b.map Ent.tri->a=b
 | [],[],_,_,_=>rfl
 | [],_::_,_,_,h=>by simp at h
 | _::_,[],_,_,h=>by simp at h
 | x::a,y::b,ha,hb,h=>by
  rw[Aw,Aw,List.cons.injEq]at h;rw[Bfn (ha x B4) (hb y B4) h.1,Auy (fun z hz=>ha z (Cb _ hz)) (fun z hz=>hb z (Cb _ hz)) h.2]
def Ban{L S:List Ent}(ho:L5 L)(hp:S.Perm L)(hs:S.Pairwise fun x y=>¬ Cv y x<0):S.foldl K3 []=L.foldl Fp []:=by
 have jS:L5 S:=fun x hx=>ho x (hp.mem_iff.1 hx)
 refine Auy (Ar7 (fun x hx=>by cases hx) jS) (Aux (fun x hx=>by cases hx) ho) ?_;rw[Ar6,Aky]
 have h:=Bsa (c:=Im) lin_p (L:=L.map Ent.tri) (S:=S.map Ent.tri) (hp.symm.map _) (by
  rw[List.pairwise_map]
  exact hs.imp fun h=>h)
 grind[Aox]
/-! an entry carried over -/
def Hs(kind:Int)(ns:List Int):List Int:=if kind=1 then I5 ns else if kind=2 then N5 (fun x y=>decide (H9 Lib.compareInt x y<0)) ns (List.range ns.length) ns else ns
def Gu(p:Gp):List (List UInt8 × List (List UInt8)):=p.thrs.map fun t=>(t.nm,Sp.hdss t.body)
def Jr(p q:Gp):List Int:=Jk (Gu p) (Gu q)
def A6r(p:Gp):((Gu p).map fun x=>x.1)=p.thrs.map fun t=>t.nm:=by
 unfold Gu;rw[Q9];rfl
def Bao{p q:Gp}(h:V8 p q=true):(p.thrs.map fun t=>t.nm)=q.thrs.map fun t=>t.nm:=by
 unfold V8 at h;simp only[Ai,beq_iff_eq]at h;obtain⟨-,h1,h2⟩:=h;revert h1 h2;generalize p.thrs=L;generalize q.thrs=L'
 induction L generalizing L' with
 | nil=>intro h1 _;cases L' with
  | nil=>rfl
  | cons _ _=>simp at h1
 | cons a L ih=>intro h1 h2;cases L' with
  | nil=>simp at h1
  | cons b L'=>
   simp only[List.zip_cons_cons,B5,Ai]at h2;have h3:=h2.1;unfold V7 at h3;simp only[Ai,beq_iff_eq]at h3;rw[Aw,Aw,h3.1,ih L' (by simpa using h1) h2.2]
def Xg:∀ L:List Tp,(Em (L.map fun t=>(t.nm,Sp.hdss t.body))).length=((L.map fun t=>F2 t.nm [] (Sp.hdss t.body)).flatten).length
 | []=>rfl
 | t::L=>by rw[Aw,W7,Aw,Fd,Aq,Aq,Ar,Z0,Xg L]
def A4g(p q:Gp):(Jr p q).length=(Hr p).length:=by
 unfold Jr;rw[Ai6];exact Xg p.thrs
def A3e{p:Gp}(h:(p.thrs.map fun t=>t.nm).Nodup):Jr p p=(List.range (Hr p).length).map fun i:Nat=>(i:Int):=by
 unfold Jr;rw[A27 (by rw[A6r];exact h)];have:(Em (Gu p)).length=(Hr p).length:=Xg p.thrs;rw[this]
def Ot(l:List Sp):Nat:=(Sp.txts 1 l).length
def Aa0:Ot []=0:=rfl
def Xn(s:Sp)(l:List Sp):Ot (s::l)=(s.txt 1).length+Ot l:=by unfold Ot;rw[Sp.txts,Aq]
def Aa1:∀ a b:List Sp,Ot (a++b)=Ot a+Ot b
 | [],b=>by rw[Ba,Aa0];omega
 | s::a,b=>by rw[Bq,Xn,Xn,Aa1 a b];omega
def Aex{l:List Sp}{i:Nat}(h:i<l.length):Ot (l.take (i+1))=Ot (l.take i)+(l[i].txt 1).length:=by
 rw[M3,B9 h,Ac9,Aa1,Xn,Aa0];omega
structure EdB (l:List Sp) (i:Nat) (b:List Sp):Prop where
 mem:∀ s∈b,s∈l
 len:Ot b<=2*Ot (l.take i)
 cnt:b.length<=2*i
def Bap(l:List Sp):EdB l 0 []:=⟨fun _ h=>absurd h AE,(by simp[Aa0]),Ax _⟩
def Baq{l b:List Sp}{i:Nat}(h:EdB l i b)(hi:i<l.length):EdB l (i+1) b:=⟨h.mem,by have:=h.len;rw[Aex hi];omega,by have:=h.cnt;omega⟩
def Axi{l b:List Sp}{i:Nat}(h:EdB l i b)(hi:i<l.length):EdB l (i+1) (b++[l[i]]):=by
 refine⟨fun s hs=>?_,?_,?_⟩
 .rcases Cu.1 hs with hs | hs
  .exact h.mem s hs
  .rw[Gm]at hs;rw[hs];exact M4 hi
 .have:=h.len;rw[Aex hi,Aa1,Xn,Aa0];omega
 .have:=h.cnt;simp;omega
def Bfo{l b:List Sp}{i:Nat}(h:EdB l i b)(hi:i<l.length):EdB l (i+1) ((b++[l[i]])++[l[i]]):=by
 refine⟨fun s hs=>?_,?_,?_⟩
 .rcases Cu.1 hs with hs | hs
  .exact(Axi h hi).mem s hs
  .rw[Gm]at hs;rw[hs];exact M4 hi
 .have:=h.len;rw[Aex hi,Aa1,Aa1,Xn,Aa0];omega
 .have:=h.cnt;simp;omega
def A6s{l b:List Sp}{i:Nat}(h:EdB l i b)(hi:i<l.length):EdB l (i+1) (l[i]::b):=by
 refine⟨fun s hs=>?_,?_,?_⟩
 .rcases Bp.1 hs with hs | hs
  .rw[hs];exact M4 hi
  .exact h.mem s hs
 .have:=h.len;rw[Aex hi,Xn];omega
 .have:=h.cnt;simp;omega
inductive EdT:List Tp->List Tp->Prop
 | nil:EdT [] []
 | cons {t t':Tp} {l l':List Tp}:t'.nm=t.nm->t'.locals=t.locals->EdB t.body t.body.length t'.body->EdT l l'->EdT (t::l) (t'::l')
def Axj:∀ {l l':List Tp} {t t':Tp},EdT l l'->t'.nm=t.nm->t'.locals=t.locals->EdB t.body t.body.length t'.body->EdT (l++[t]) (l'++[t'])
 | _,_,_,_,.nil,h1,h2,h3=>.cons h1 h2 h3 .nil
 | _,_,_,_,.cons a b c d,h1,h2,h3=>.cons a b c (Axj d h1 h2 h3)
def Al0:∀ {l l':List Tp},EdT l l'->((l'.map D9).flatten).length<=2*((l.map D9).flatten).length/\l'.length=l.length
 | _,_,.nil=>⟨Aj _,rfl⟩
 | _,_,.cons (t:=t) (t':=t') a b c d=>by
  obtain⟨h1,h2⟩:=Al0 d;have h3:=c.len;rw[Dq]at h3;unfold Ot at h3;rw[Aw,Aw,Fd,Fd,Aq,Aq,An,An,h2]
  have h4:(D9 t').length<=2*(D9 t).length:=by
   unfold D9;rw[a,b];simp only[Aq,An,Dc];omega
  exact⟨by omega,rfl⟩
def Azj:∀ {l l':List Tp},EdT l l'->(∀ t∈l,∀ s∈t.body,CnS s)->∀ t∈l',∀ s∈t.body,CnS s
 | _,_,.nil,_,t,ht,_,_=>by cases ht
 | _,_,.cons a b c d,h,t,ht,s,hs=>by
  rcases Bp.1 ht with rfl | ht
  .exact h _ B4 s (c.mem s hs)
  .exact Azj d (fun t ht=>h t (Cb _ ht)) t ht s hs
def Bfp{p q:Gp}(hd:q.decls=p.decls)(ht:EdT p.thrs q.thrs)(hc:CnG p):CnG q/\(Ff q).length<=2*(Ff p).length:=by
 refine⟨⟨fun d h=>hc.decls d (hd ▸ h),Azj ht hc.thrs⟩,?_⟩;have:=(Al0 ht).1;unfold Ff;rw[hd,Aq,Aq];omega
def sI(K:List Ak)(k:Ak):Int:=match Jv K k with
 | some s=>(s:Int)
 | none => -1
theorem Azk{K:List Ak}{k:Ak}{i:Nat}(h:K[i]?=some k)(hn:∀ j,j<i->K[j]?≠some k):sI K k=(i:Int):=by
 unfold sI;rw[U6.2 ⟨h,hn⟩]
def Axk{K:List Ak}{k:Ak}(hn:∀ j,j<K.length->K[j]?≠some k):sI K k = -1:=by
 grind[sI,A3x]
def Ahg(k x:Ak):Ab8 [2,2,1] (.agg (kR k)) (.agg (kR x))=some (decide (k=x)):=by
 obtain⟨a,b,c⟩:=k;obtain⟨a',b',c'⟩:=x;simp only[Ab8,An,Dc,and_self,if_true,Mf,eqS,C5,Prod.mk.injEq]
 grind
def Bar(z:Bool)(t:Nat)(K:List Ak)(k:Ak)(hK:K.length<=1000000000000):Fn TT PT 74 [SL z t (K.map A0),.agg (kR k)] (iV (sI K k)):=by
 have hl:(K.map A0).length=K.length:=Ar ..;refine Bg T74 rfl ?_;simp only[go_sem,hl];refine Bk (α:=Nat) (fun i=>K.length - i) (fun i=>[(0,SL z t (K.map A0)),(3,.ptr 0 0 0),(7,iV (K.length:Int)),(8,iV (i:Int))]) (fun _=>[.row (kR k) 45 0 0]) (fun i=>i<=K.length/\∀ j,j<i->K[j]?≠some k) ?_ 0 ⟨Ax _,fun j hj=>by omega⟩;rintro i ⟨hi,hn⟩ ih;refine Bd Bpv ?_;rcases Bh i K.length with h' | h'
 .obtain⟨x,hx,-,-⟩:=Br h';have i1:IntKind.i64.wrap ((i:Int)+1)=((i+1:Nat):Int):=A2 AA;by_cases e:k=x
  .have f1:decide (k=x)=true:=decide_eq_true e;simp only[go_sem,Az h'];refine Af AD ?_;simp only[go_sem,Au,hx,A0,Ahg,f1];exact Ah rfl (by rw[Azk (by grind) hn])
  .have f1:decide (k=x)=false:=decide_eq_false e;simp only[go_sem,Az h'];refine Af AD ?_;simp only[go_sem,Au,hx,A0,Ahg,f1];simp only[go_sem,i1]
   exact Av (ih (i+1) AA ⟨h',fun j hj=>by
    grind⟩) rfl
 .simp only[go_sem,Bl h'];have:i=K.length:=by omega
  subst this;exact Ah rfl (by rw[Axk hn])
def Bfq{p:Gp}(h:PX p)(k:Ak)(hK:(C7 p).length<=1000000000000):Fn TT PT 45 [.agg p.row,.agg (kR k)] (iV (sI (C7 p) k)):=by
 have hk:=Auu h;rw[Aaz]at hk;have hi:=Bar true 0 (C7 p) k hK;have qI:=F1 p;rw[qI]at hk ⊢;refine Bg T45 rfl ?_;simp only[go_sem];refine Af AD ?_;simp only[go_sem];refine Bf hk AB ?_;simp only[go_sem];refine Bf hi AB ?_;simp only[go_sem];exact Ah rfl rfl
set_option maxHeartbeats 1000000 in
def A6t{p:Gp}(h:PX p)(k:Ak)(hK:(C7 p).length<=1000000000000):Fn TT PT 9 [.agg p.row,.agg (kR k)] (iV (sI (C7 p) k)):=by
 have hk:=Aut h;rw[Aaz]at hk;have qI:=F1 p;rw[qI]at hk ⊢;generalize C7 p=K at *;have hl:(K.map A0).length=K.length:=Ar ..;refine Bg T9 rfl ?_;simp only[go_sem];refine Ab hk AB ?_;simp only[go_sem,hl];refine Bk (α:=Nat × St) (fun a=>K.length - a.1) (fun a=>[(3,.ptr 1 0 0),(8,SL true 0 (K.map A0)),(9,iV (K.length:Int)),(10,iV (a.1:Int))]) (fun a=>gO p::.row (kR k) 45 0 0::a.2) (fun a=>a.1<=K.length/\∀ j,j<a.1->K[j]?≠some k) ?_ (0,[]) ⟨Ax _,fun j hj=>by omega⟩;rintro⟨i,s⟩ ⟨hi,hn⟩ ih;simp only at hi hn ih;refine Bd Bry ?_;rcases Bh i K.length with h' | h'
 .obtain⟨x,hx,-,-⟩:=Br h';have i1:IntKind.i64.wrap ((i:Int)+1)=((i+1:Nat):Int):=A2 AA;by_cases e:x=k
  .have f1:decide (x=k)=true:=decide_eq_true e;simp only[go_sem,Az h',Au,hx,A0,Ahg,f1];exact Ah rfl (by grind[Azk])
  .have f1:decide (x=k)=false:=decide_eq_false e;simp only[go_sem,Az h',Au,hx,A0,Ahg,f1,i1]
   exact Av (ih (i+1,_) AA ⟨h',fun j hj=>by
    grind⟩) rfl
 .simp only[go_sem,Bl h'];have:i=K.length:=by omega
  subst this;exact Ah rfl (by rw[Axk hn])
set_option maxHeartbeats 2000000 in
def Aee{k:Nat}(hS:MSs k):MBl k:=by
 intro σ m b uH H nm h hH;have qK:=Mm h;obtain⟨th,left,se,tx,ao,lp,m1⟩:=h.row;have n1:(H.map fun x=>[V.str x]).length=H.length:=Ar ..;obtain⟨u',s2,e1,g,hl,hB,hr,hc⟩:=Xt (bytes:=16) (row:=[.str nm]) h.h AA rfl rfl AA;have g':GS s2 1 9 u' ((H++[nm]).map fun x=>[V.str x]):=by rw[Fz];exact g
 obtain⟨h2,w2⟩:=Azc h th left se tx ao lp hl hB g' hr (hc h.cl);have m2:s2[m]?=some (mO b th left se tx ao lp uH):=(hB m qK fun e=>(h.hd m e).1 rfl).trans m1;obtain⟨jM,jL⟩:=Jj (Kz g);obtain⟨s3,e3⟩:∃ t,t=s2.set m (mO b th left se tx ao lp u'):=⟨_,rfl⟩;rw[<-e3]at h2 w2;have m3:s3[m]?=some (mO b th left se tx ao lp u'):=by rw[e3];exact Cr AA
 obtain⟨r,s4,q4,h4,w4,l4,r4,kl⟩:=Rj h2 2 2 rfl AA;have e4:IntKind.i64.wrap (1+(r:Int))=((1+r:Nat):Int):=by rw[Cm AA];omega
 obtain⟨v,s5,q5,L,kr,hO,hL,hn,h5,w5⟩:=hS s4 m b u' (H++[nm]) h4 (by grind) (1+r) AA;have jN:=Kz hO.1;obtain⟨qp,qb,qo,qy,qu,qx,m5⟩:=h5.row;have g5:=h5.h;rw[Fz,Aw,B0]at g5;obtain⟨u6,jw,g6,kg⟩:=Ayh g5;rw[n1]at jw;obtain⟨qX,qW⟩:=Jj (Kz g6);obtain⟨h6,w6⟩:=Azc (H':=H) h5 qp qb qo qy qu qx (Aj _) (fun _ _ _=>rfl) g6 (fun j hj=>.inl (by grind)) h5.cl;have qU:=A0t hO w6;have jC:=Fv w2 (Fv w4 (Fv w5 w6));have l5:=Abe h5.h;rw[Ar,Aq,Q6]at l5;have e5:IntKind.i64.wrap (((H.length+1:Nat):Int) - 1)=(H.length:Int):=by rw[Cm AA];omega
 have js:OL σ (s5.set m (mO b qp qb qo qy qu qx u6)) m v L:=⟨qU.1,fun j hj=>⟨by have:=(qU.2 j hj).1;grind,(qU.2 j hj).2⟩⟩;refine Aeu T110 rfl ?_;simp only[go_sem,m1,e1,m2,jM,jL];rw[<-e3];simp only[go_sem,m3];refine Aa q4 ?_;simp only[go_sem,e4];refine Aa q5 ?_;simp only[go_sem];refine Af AD ?_;simp only[go_sem,m5,l5,e5,jw,qX,qW];refine Bb ?_;simp only[go_sem];exact⟨v,rfl,⟨by cases v<;>simp[V.cellB]at jN<;>rfl,Cz js.1⟩,⟨jC.1,h6.cl⟩,L,u6,js,hL,by omega,h6,jC⟩
def H1{l:List UInt8}(h:(Bm l&&decide (l.length<=4))=true):Mw l:=by
 simp only[Ai,decide_eq_true_eq]at h;exact h
def Gy(nm:List UInt8):Xp:=⟨2,0,nm,true,0,[]⟩
def Ge(n:Int):Xp:=⟨1,n,[],true,0,[]⟩
def Nm(op:Int)(nm:List UInt8)(n:Int):Xp:=⟨op,0,[],true,1,[Gy nm,Ge n]⟩
def A12(op:Int)(nm:List UInt8)(n:Int):Fn TT PT 107 [iV op,.agg [iV 2,iV 0,.str nm,.nils],.agg [iV 1,iV n,.str [],.nils]] (.agg [iV op,iV 0,.str [],.lst 1 [[iV 2,iV 0,.str nm,.nils],[iV 1,iV n,.str [],.nils]]]):=by
 have h:=Aw4 op (Gy nm) (Ge n);rw[Bi ⟨op,0,[],true,1,[Gy nm,Ge n]⟩]at h;simp only[Aw,B0]at h;rw[Bi (Gy nm),Bi (Ge n)]at h;exact h
def Am0(op:Int)(nm:List UInt8)(n:Int):(Nm op nm n).l.map Xp.row=[[iV 2,iV 0,.str nm,.nils],[iV 1,iV n,.str [],.nils]]:=by
 unfold Nm;simp only[Aw,B0];rw[Bi (Gy nm),Bi (Ge n)];rfl
def Bqs{nm:List UInt8}(h:Mw nm)(d:Nat):MX d (Gy nm):=by
 refine⟨.name h.1,?_,?_⟩
 .rw[show(Gy nm).txt=nm by unfold Gy;rw[Ei];rfl];have:=Ahb d;have:=h.2;omega
 .unfold Gy;rw[G8];have:=Agj d;have:=h.2;simp[Cy];omega
def A0x{op:Int}(ho:6<=op/\op<=18):MX 1 (Nm op [98] 2)/\MX 1 (Nm op [98] 1):=by
 have jy:∀ n:Int,(n=1\/n=2)->MX 1 (Nm op [98] n):=by
  intro n hn;have hx:ShE (Gy [98]):=.name AD;have hy:ShE (Ge n):=.num AA;have t1:(Gy [98]).txt=[98]:=by unfold Gy;rw[Ei];rfl
  have t2:(Ge n).txt.length=1:=by
   rcases hn with rfl | rfl<;>(unfold Ge;rw[Ei];rfl)
  refine⟨.bin ho hx hy,?_,?_⟩
  .unfold Nm;rw[Ei];have h2:=(O7 ((Gy [98]).op,(Gy [98]).txt) (Gi op)).2;have jJ:=(O7 ((Ge n).op,(Ge n).txt) (Be op+1)).2;simp only at h2 jJ;have h3:(Bz op).length<=2:=Aw6 _
   have h0:Dr op 0 [] [((Gy [98]).op,(Gy [98]).txt),((Ge n).op,(Ge n).txt)]=Dg ((Gy [98]).op,(Gy [98]).txt) (Gi op)++32::(Bz op++32::Dg ((Ge n).op,(Ge n).txt) (Be op+1)):=by
    unfold Dr;rw[if_neg AA,if_neg AA]
   have e1:EB 1=54:=rfl;have t3:(Gy [98]).txt.length=1:=by rw[t1];rfl
   simp only[Aw,B0,h0,Aq,An];omega
  .have x1:Pw 1=36:=rfl;rw[G8];unfold Nm;simp only[Aw,B0,Cy,Dc];rw[G8,G8,x1];unfold Gy Ge;simp[Cy]
 exact⟨jy 2 (.inr rfl),jy 1 (.inl rfl)⟩
def My(nm:List UInt8)(x:Xp):Sp:=⟨1,0,nm,[],true,0,[],x,true,0,[],true,0,[]⟩
def Agq(nm:List UInt8)(x:Xp):(My nm x).row=[iV 1,iV 0,.str nm,.str [],.nils,iV x.op,iV x.n,.str x.nm,SL x.z x.t (x.l.map Xp.row),.nils,.nils]:=by
 rw[Fl];rfl
def Am1{k:Nat}{nm:List UInt8}{x:Xp}(hn:Mw nm)(hx:MX 1 x)(z:Bool)(t:Nat)(z':Bool)(t':Nat):SM k ⟨1,0,nm,[],true,0,[],x,z,t,[],z',t',[]⟩:=
 Jx AE AE (fun h=>absurd rfl h) AE (.inl ⟨rfl,hx⟩) (.inr ⟨rfl,hn⟩) (.inl ⟨by simp,rfl⟩) (fun _=>rfl) (fun _=>rfl) (fun h=>by have h:false=true:=h;cases h)
def An0{k:Nat}{nm:List UInt8}{x:Xp}(hn:Mw nm)(hx:MX 1 x):SM k (My nm x):=
 Jx (by simp[My]) (by simp[My]) (fun h=>absurd rfl h) (by simp[My]) (.inl ⟨rfl,hx⟩) (.inr ⟨rfl,hn⟩) (.inl ⟨by simp[My],rfl⟩) (fun _=>rfl) (fun _=>rfl) (fun h=>by have h:false=true:=h;cases h) (by simp[My])
def Mz(op:Int)(nm:List UInt8):Sp:=⟨op,0,nm,[],true,0,[],Xp.zero,true,0,[],true,0,[]⟩
def Yb(op:Int)(nm:List UInt8):(Mz op nm).row=(sZ op 0 nm []):=by
 rw[Fl];rfl
def Ab4{k:Nat}{op:Int}{nm:List UInt8}(ho:op=9\/op=10\/op=11\/op=12\/op=13)(hn:Mw nm):SM k (Mz op nm):=by
 rcases ho with rfl | rfl | rfl | rfl | rfl
 all_goals exact Jx (by simp[Mz]) (by simp[Mz]) (fun _=>rfl) (by simp[Mz]) (.inr ⟨rfl,rfl⟩) (.inr ⟨rfl,hn⟩) (.inl ⟨by simp[Mz],rfl⟩) (fun _=>rfl) (fun _=>rfl) (fun h=>by have h:false=true:=h;cases h) (by simp[Mz])
set_option maxRecDepth 20000 in
set_option maxHeartbeats 16000000 in
def Aqt{k:Nat}(hk:k<=20)(ih:∀ j,j<k->MSs j):MSt k:=by
 intro σ m b uH H h hH;have qK:=Mm h
 suffices hh:∃ v σ',Th TT PT 64 [.ptr m 0 0,iV (k:Int)] σ v σ'/\((∃ x:Sp,v=.agg x.row/\SM k x)/\(∃ uH',MKr σ' m b uH' H)/\FW m σ σ') from hh
 refine Bad T64 rfl ?_;have e3:k≠0->IntKind.i64.wrap ((k:Int) - 1)=((k - 1:Nat):Int):=fun h0=>by rw[Cm AA];omega
 refine Iy (fun e s=>e=[(0,.ptr m 0 0),(1,iV (k:Int)),(4,.ptr σ.length 0 0)]/\MW σ s m b H) ?_ ?_
 .intro k' qc;simp only[go_sem];obtain⟨a1,a2⟩:=Afk h [sP 0 0 [] []] (Jl h.cl rfl);exact qc _ _ ⟨rfl,⟨_,a1⟩,a2,by simp,fun hm=>by rw[H6 a1,<-H6 h]at hm;exact Agh (τ:=σ) h (Aj _) hm,qK⟩
 clear h uH;rintro e s ⟨rfl,h1⟩;refine Iy (fun e s=>e=[(0,.ptr m 0 0),(1,iV (k:Int)),(4,.ptr σ.length 0 0)]/\MW σ s m b H) ?_ ?_
 .intro k' qc;obtain⟨th,left,se,tx,ao,lp,vH,m1,ho⟩:=K1 h1;simp only[go_sem,m1];exact qc _ _ ⟨rfl,(ho _ _ _ _ _ _).1⟩
 clear h1 s;rintro e s ⟨rfl,h1⟩;refine Iy (fun e s=>∃ r:Nat,r<18/\e=[(0,.ptr m 0 0),(1,iV (k:Int)),(4,.ptr σ.length 0 0),(5,iV (r:Int))]/\MW σ s m b H) ?_ ?_
 .intro k' qc;obtain⟨th,left,se,tx,ao,lp,vH,m1,-⟩:=K1 h1;obtain⟨r,s2,q,hr,h2,w2,mm⟩:=Xx h1 18;simp only[go_sem,m1];refine Aa q ?_;simp only[go_sem];exact qc _ _ ⟨r,by omega,rfl,h2⟩
 clear h1 s;rintro e s ⟨r,hr,rfl,h1⟩;refine Iy (fun e s=>∃ nb:Bool,(nb=true->k≠0)/\e=[(0,.ptr m 0 0),(1,iV (k:Int)),(4,.ptr σ.length 0 0),(5,iV (r:Int)),(6,.bool nb)]/\MW σ s m b H) ?_ ?_
 .intro k' qc;obtain⟨th,left,se,tx,ao,lp,vH,m1,-⟩:=K1 h1;by_cases qd:k=0
  .have f1:((0:Int)<(k:Int))=False:=eq_false AA;simp only[go_sem,gt_iff_lt,f1];exact qc _ _ ⟨false,(fun h=>by cases h),rfl,h1⟩
  have f1:((0:Int)<(k:Int))=True:=eq_true AA;by_cases hl:0<left
  .have f2:((0:Int)<left)=True:=eq_true hl;cases tx
   .simp only[go_sem,gt_iff_lt,f1,f2,m1,A1];exact qc _ _ ⟨true,fun _=>qd,rfl,h1⟩
   .simp only[go_sem,gt_iff_lt,f1,f2,m1,Ay];exact qc _ _ ⟨false,(fun h=>by cases h),rfl,h1⟩
  .have f2:((0:Int)<left)=False:=eq_false hl;simp only[go_sem,gt_iff_lt,f1,f2,m1];exact qc _ _ ⟨false,(fun h=>by cases h),rfl,h1⟩
 clear h1 s;rintro e s ⟨nb,qD,rfl,h1⟩;have qJ:H.length<=1000:=by omega
 refine Iy (fun e s=>e=[(0,.ptr m 0 0),(1,iV (k:Int)),(4,.ptr σ.length 0 0)]/\MW σ s m b H) ?_ ?_;rotate_left
 .clear h1 s;rintro e s ⟨rfl,h1⟩;obtain⟨x,s2,q2,hx,h2,w2,xs⟩:=Vq h1 1;simp only[go_sem];refine Ca q2 ?_;simp only[go_sem];refine Ab (W8 [120] x) AB ?_;simp only[go_sem,h2.z];exact Jp (op:=1) (line:=0) (nm:=[120]) (arg:=[]) (iz:=true) (it:=0) (idx:=[]) (ex:=x) (LB:=[]) (LE:=[]) h2 rfl (.inl ⟨true,0,rfl⟩) (.inl ⟨true,0,rfl⟩) AK fun _ _ _ _=>Am1 (H1 AD) hx _ _ _ _
 intro k' qc;rcases(show r<4\/r=4\/r=5\/r=6\/r=7\/r=8\/r=9\/r=10\/r=11\/r=12\/r=13\/r=14\/r=15\/r=16\/r=17 by omega) with h4 | rfl | rfl | rfl | rfl | rfl | rfl | rfl | rfl | rfl | rfl | rfl | rfl | rfl | rfl
 .obtain⟨nm,hn,jg⟩:=Aag [[120],[121],[120],[118]] AD (j:=r) AQ;simp only[Aw,B0]at hn;have f1:((r:Int)<4)=True:=eq_true AA;obtain⟨x,s2,q2,hx,h2,w2,xs⟩:=Vq h1 1;simp only[go_sem,f1];refine Af AD ?_;simp only[go_sem,hn];refine Ia (Agi q2) ?_;simp only[go_sem];refine Bf (W8 nm x) (by simp only[go_sem,xs]) ?_;simp only[go_sem,h2.z];refine Bb ?_;simp only[go_sem];exact Jp (op:=1) (line:=0) (nm:=nm) (arg:=[]) (iz:=true) (it:=0) (idx:=[]) (ex:=x) (LB:=[]) (LE:=[]) h2 rfl (.inl ⟨true,0,rfl⟩) (.inl ⟨true,0,rfl⟩) AK fun _ _ _ _=>Am1 jg hx _ _ _ _
 .obtain⟨th,left,se,tx,ao,lp,vH,m1,-⟩:=K1 h1;obtain⟨j,s2,q2,hj,h2,w2,kk⟩:=Xx h1 2;obtain⟨nm,hn,jg⟩:=Aag [[97],[98]] AD (j:=j) AQ;simp only[Aw,B0]at hn;obtain⟨x,s3,q3,hx,h3,w3,xs⟩:=Vq h2 1;have jZ:Bw TT PT 34 [.ptr b 0 0,iV 2] s (iV (j:Int)) s2:=q2;simp only[go_sem,C2,Int.reduceLT,Int.reduceBEq];refine Af AD ?_;simp only[go_sem,m1];refine Ia jZ ?_;simp only[go_sem,hn];refine wgR ?_;simp only[go_sem];have ka:Th TT PT 106 [.ptr m 0 0,iV 1] s2 (.agg (xR x)) s3:=q3;refine Ia (Agi ka) ?_;simp only[go_sem];refine Bf (W8 nm x) (by simp only[go_sem,xs]) ?_;simp only[go_sem,h3.z];refine Bb ?_;simp only[go_sem];exact Jp (op:=1) (line:=0) (nm:=nm) (arg:=[]) (iz:=true) (it:=0) (idx:=[]) (ex:=x) (LB:=[]) (LE:=[]) h3 rfl (.inl ⟨true,0,rfl⟩) (.inl ⟨true,0,rfl⟩) AK fun _ _ _ _=>Am1 jg hx _ _ _ _
 .obtain⟨y,s2,q2,hy,h2,w2,ys⟩:=Vq h1 0;obtain⟨x,s3,q3,hx,h3,w3,xs⟩:=Vq h2 1;have jY:=Bi y;simp only[go_sem,C2,Int.reduceLT,Int.reduceBEq];refine Ca q2 ?_;simp only[go_sem];refine Ca q3 ?_;simp only[go_sem,h3.z];exact Jp (op:=1) (line:=0) (nm:=[113]) (arg:=[]) (iz:=true) (it:=1) (idx:=[y]) (ex:=x) (LB:=[]) (LE:=[]) h3 rfl (.inl ⟨true,0,rfl⟩) (.inl ⟨true,0,rfl⟩) (by simp only[Aw,B0,jY];rfl) fun _ _ _ _=>Jx AE AE (fun h=>absurd rfl h) (by simp;exact hy) (.inl ⟨rfl,hx⟩) (.inr ⟨rfl,H1 AD⟩) (.inl ⟨by simp,rfl⟩) (fun _=>rfl) (fun _=>rfl) (fun h=>by have h:false=true:=h;cases h)
 .by_cases qd:k=0
  .have f1:((0:Int)<(k:Int))=False:=eq_false AA;simp only[go_sem,C2,Int.reduceLT,Int.reduceBEq,gt_iff_lt,f1];exact qc _ _ ⟨rfl,h1⟩
  have f1:((0:Int)<(k:Int))=True:=eq_true AA;have ek:=e3 qd;obtain⟨x,s2,q2,hx,h2,w2,xs⟩:=Vq h1 1;obtain⟨u3,L3,s3,q3,b3,⟨qq,qr,qk,r3⟩,⟨L31,L32⟩,h3,w3⟩:=Aah (ih (k - 1) AA) h2 AA 1;obtain⟨ju,jD,jB,jm,jo⟩:=Afl h3 (.row [iV 2,iV 0,.str [],.str [],.nils,iV x.op,iV x.n,.str x.nm,SL x.z x.t (x.l.map Xp.row),u3,.nils] 98 0 0) (by simp only[Ob.refs,Ag,O4,V.refs,Ba,Cc];exact fun i hi=>Uy (Cz b3.1 i hi));obtain⟨s4,jq⟩:∃ t,t=s3++[Ob.row [iV 2,iV 0,.str [],.str [],.nils,iV x.op,iV x.n,.str x.nm,SL x.z x.t (x.l.map Xp.row),u3,.nils] 98 0 0]:=⟨_,rfl⟩;rw[<-jq]at ju jD jB jm;have h4:=ju;have b4:=R6 b3 jD;obtain⟨th,left,se,tx,ao,lp,vH,m4,-⟩:=K1 h4;obtain⟨j,s5,q5,hj,h5,w5,km⟩:=Xx h4 2;have b5:=R6 b4 w5;obtain⟨k5,n5⟩:=Ji w5 jm jB;simp only[go_sem,C2,Int.reduceLT,Int.reduceBEq,gt_iff_lt,f1];refine Ca q2 ?_;simp only[go_sem,ek];refine Aa q3 ?_;simp only[go_sem,qq,qr,qk];rw[<-jq];simp only[go_sem,m4];refine Aa q5 ?_;by_cases j1:j=1
  .subst j1;obtain⟨u6,L6,s6,q6,b6,⟨jG,jH,jI,r6⟩,⟨L61,L62⟩,h6,w6⟩:=Aah (ih (k - 1) AA) h5 AA 1;obtain⟨k6,n6⟩:=Ji w6 k5 n5;have jn:=R6 b5 w6;have jT:σ.length<s3.length:=Yq h3;have jQ:s3.length<s6.length:=(Ao.1 k6).1;have jU:s3.length ∉ u3.refs:=fun e=>by have:=Cz b3.1 _ e;omega
   have jV:s3.length ∉ u6.refs:=fun e=>by
    have:=r6 _ e;have:=w5.1;have:=(Ao.1 jm).1;omega
   have h7:=Bk0 h6 (.row [iV 2,iV 0,.str [],.str [],.nils,iV x.op,iV x.n,.str x.nm,SL x.z x.t (x.l.map Xp.row),u3,u6] 98 0 0) jT n6 (by
    simp only[Ob.refs,Ag,O4,V.refs,Ba,Cc];intro i hi;rcases Cu.1 hi with hi | hi
    .exact Cz jn.1 i hi
    .exact Cz b6.1 i hi)
   have k7:(s6.set s3.length (.row [iV 2,iV 0,.str [],.str [],.nils,iV x.op,iV x.n,.str x.nm,SL x.z x.t (x.l.map Xp.row),u3,u6] 98 0 0))[s3.length]?=some (.row [iV 2,iV 0,.str [],.str [],.nils,iV x.op,iV x.n,.str x.nm,SL x.z x.t (x.l.map Xp.row),u3,u6] 98 0 0):=Cr jQ;have z7:=h7.z;have jE:=Azf (.row [iV 2,iV 0,.str [],.str [],.nils,iV x.op,iV x.n,.str x.nm,SL x.z x.t (x.l.map Xp.row),u3,u6] 98 0 0) jn jU jo;have jF:=Azf (.row [iV 2,iV 0,.str [],.str [],.nils,iV x.op,iV x.n,.str x.nm,SL x.z x.t (x.l.map Xp.row),u3,u6] 98 0 0) b6 jV jo;simp only[go_sem,C2,Int.reduceBEq,ek];refine Aa q6 ?_;simp only[go_sem,k6,jG,jH,jI,qk,k7,z7];exact Jp (op:=2) (line:=0) (nm:=[]) (arg:=[]) (iz:=true) (it:=0) (idx:=[]) (ex:=x) (LB:=L3) (LE:=L6) h7 rfl (.inr jE) (.inr jF) AK fun _ _ _ _=>Jx AE AE (fun _=>rfl) AE (.inl ⟨rfl,hx⟩) (.inl ⟨rfl,rfl⟩) (.inl ⟨by simp,rfl⟩) (fun h=>by have h:true=false:=h;cases h) (fun h=>absurd rfl h) (fun _=>⟨qd,⟨C8 L32 AA,L31⟩,⟨L62,L61⟩⟩)
  .have fj:((j:Int)==1)=false:=by simp;omega
   simp only[go_sem,fj,k5,h5.z,qk];exact Jp (op:=2) (line:=0) (nm:=[]) (arg:=[]) (iz:=true) (it:=0) (idx:=[]) (ex:=x) (LB:=L3) (LE:=[]) h5 rfl (.inr b5) (.inl ⟨true,0,rfl⟩) AK fun _ _ _ _=>Jx AE AE (fun _=>rfl) AE (.inl ⟨rfl,hx⟩) (.inl ⟨rfl,rfl⟩) (.inl ⟨by simp,rfl⟩) (fun h=>by have h:true=false:=h;cases h) (fun h=>absurd rfl h) (fun _=>⟨qd,⟨C8 L32 AA,L31⟩,⟨by simp,by simp⟩⟩)
 .by_cases qd:k=0
  .have f1:((0:Int)<(k:Int))=False:=eq_false AA;simp only[go_sem,C2,Int.reduceLT,Int.reduceBEq,gt_iff_lt,f1];exact qc _ _ ⟨rfl,h1⟩
  have f1:((0:Int)<(k:Int))=True:=eq_true AA;have ek:=e3 qd;obtain⟨qf,qa,qj,ql,qe,qi,qt,m1,qs⟩:=K1 h1;obtain⟨h2,w2⟩:=qs qf qa qj ql qe true;obtain⟨s2,qm⟩:∃ t,t=s.set m (mO b qf qa qj ql qe true qt):=⟨_,rfl⟩;rw[<-qm]at h2 w2;obtain⟨u3,L3,s3,q3,b3,⟨qq,qr,qk,r3⟩,⟨L31,L32⟩,h3,w3⟩:=Aah (ih (k - 1) AA) h2 AA 1;obtain⟨u4,s4,ha,b4,⟨qM,qN,qz⟩,h4⟩:=Bk1 b3 h3 (My [98] (Nm 6 [98] 1)) AA;rw[Agq,Am0]at ha;simp only[Nm,SL,reduceCtorEq,and_false,true_and,if_false]at ha;have qL:=W8 [98] (Nm 6 [98] 1);rw[Am0]at qL;simp only[Nm,SL,reduceCtorEq,and_false,true_and,if_false]at qL;obtain⟨qE,qH,qG,qF,jp⟩:=Afl h4 (.row [iV 3,iV 0,.str [],.str [],.nils,iV 13,iV 0,.str [],.lst 1 [[iV 2,iV 0,.str [98],.nils],[iV 1,iV 2,.str [],.nils]],u4,.nils] 98 0 0) (by simp only[Ob.refs,Ag,O4,V.refs,Ba,Cc];exact fun i hi=>Uy (Cz b4.1 i hi));obtain⟨s5,qA⟩:∃ t,t=s4++[Ob.row [iV 3,iV 0,.str [],.str [],.nils,iV 13,iV 0,.str [],.lst 1 [[iV 2,iV 0,.str [98],.nils],[iV 1,iV 2,.str [],.nils]],u4,.nils] 98 0 0]:=⟨_,rfl⟩;rw[<-qA]at qE qH qG qF;have h5:=qE;have b5:=R6 b4 qH;obtain⟨qp,qb,qo,qy,qu,qx,qS,m5,qQ⟩:=K1 h5;obtain⟨h6,w6⟩:=qQ qp qb qo qy qu qi;obtain⟨s6,qB⟩:∃ t,t=s5.set m (mO b qp qb qo qy qu qi qS):=⟨_,rfl⟩;rw[<-qB]at h6 w6;have b6:=R6 b5 w6;obtain⟨k6,n6⟩:=Ji w6 qF qG;simp only[go_sem,C2,Int.reduceLT,Int.reduceBEq,gt_iff_lt,f1,m1];rw[<-qm];refine Ab (Ahd _) AK ?_;simp only[go_sem];refine Ab (Ahx _) AK ?_;simp only[go_sem];refine Ab (A12 _ _ _) AK ?_;simp only[go_sem,ek];refine Aa q3 ?_;simp only[go_sem];refine Ab (Ahd _) AK ?_;simp only[go_sem];refine Ab (Ahx _) AK ?_;simp only[go_sem];refine Ab (A12 _ _ _) AK ?_;simp only[go_sem];refine Ab qL AK ?_;simp only[go_sem,ha,qM,qN,qz];rw[<-qA];simp only[go_sem,m5];rw[<-qB];simp only[go_sem,k6,h6.z,qz]
  exact Jp (op:=3) (line:=0) (nm:=[]) (arg:=[]) (iz:=true) (it:=0) (idx:=[]) (ex:=Nm 13 [98] 2) (LB:=(L3++[My [98] (Nm 6 [98] 1)])) (LE:=[]) h6 rfl (.inr b6) (.inl ⟨true,0,rfl⟩) (by rw[Am0];rfl) fun _ _ _ _=>Jx AE AE (fun _=>rfl) AE (.inl ⟨rfl,(A0x AA).1⟩) (.inl ⟨rfl,rfl⟩) (.inl ⟨by simp,rfl⟩) (fun h=>by have h:true=false:=h;cases h) (fun _=>rfl) (fun _=>⟨qd,⟨C8 (Nat.le_of_eq Aq) (by rw[Q6];omega),fun y hy=>(Cu.1 hy).elim (L31 y) fun hy=>by rw[Gm.1 hy];exact An0 (H1 AD) (A0x AA).2⟩,⟨by simp,by simp⟩⟩)
 .cases nb
  .simp only[go_sem,C2,Int.reduceLT,Int.reduceBEq];exact qc _ _ ⟨rfl,h1⟩
  have qd:=qD rfl;have ek:=e3 qd;obtain⟨z,qh⟩:=Xm h1 qJ [109];simp only[go_sem,C2,Int.reduceLT,Int.reduceBEq,Int.reduceSub];refine Ca qh ?_;cases z;rotate_left
  .simp only[go_sem,C2,Int.reduceLT,Int.reduceBEq,Ay];exact qc _ _ ⟨rfl,h1⟩
  obtain⟨u3,L3,s3,q3,b3,⟨qq,qr,qk,r3⟩,⟨L31,L32⟩,h3,w3⟩:=Aev (Aee (ih (k - 1) AA)) h1 AA [109];simp only[go_sem,C2,Int.reduceLT,Int.reduceBEq,Int.reduceSub,A1,ek];refine Aa q3 ?_;simp only[go_sem,qq,qr,qk,h3.z];exact Jp (op:=4) (line:=0) (nm:=[109]) (arg:=[]) (iz:=true) (it:=0) (idx:=[]) (ex:=Xp.zero) (LB:=L3) (LE:=[]) h3 rfl (.inr b3) (.inl ⟨true,0,rfl⟩) AK fun _ _ _ _=>Jx AE AE (fun _=>rfl) AE (.inr ⟨rfl,rfl⟩) (.inr ⟨rfl,H1 AD⟩) (.inl ⟨by simp,rfl⟩) (fun h=>by have h:true=false:=h;cases h) (fun _=>rfl) (fun _=>⟨qd,⟨C8 L32 AA,L31⟩,⟨by simp,by simp⟩⟩)
 .cases nb
  .simp only[go_sem,C2,Int.reduceLT,Int.reduceBEq];exact qc _ _ ⟨rfl,h1⟩
  have qd:=qD rfl;have ek:=e3 qd;obtain⟨z,qh⟩:=Xm h1 qJ [110];simp only[go_sem,C2,Int.reduceLT,Int.reduceBEq,Int.reduceSub];refine Ca qh ?_;cases z;rotate_left
  .simp only[go_sem,C2,Int.reduceLT,Int.reduceBEq,Ay];exact qc _ _ ⟨rfl,h1⟩
  obtain⟨u3,L3,s3,q3,b3,⟨qq,qr,qk,r3⟩,⟨L31,L32⟩,h3,w3⟩:=Aev (Aee (ih (k - 1) AA)) h1 AA [110];simp only[go_sem,C2,Int.reduceLT,Int.reduceBEq,Int.reduceSub,A1,ek];refine Aa q3 ?_;simp only[go_sem,qq,qr,qk,h3.z];exact Jp (op:=4) (line:=0) (nm:=[110]) (arg:=[]) (iz:=true) (it:=0) (idx:=[]) (ex:=Xp.zero) (LB:=L3) (LE:=[]) h3 rfl (.inr b3) (.inl ⟨true,0,rfl⟩) AK fun _ _ _ _=>Jx AE AE (fun _=>rfl) AE (.inr ⟨rfl,rfl⟩) (.inr ⟨rfl,H1 AD⟩) (.inl ⟨by simp,rfl⟩) (fun h=>by have h:true=false:=h;cases h) (fun _=>rfl) (fun _=>⟨qd,⟨C8 L32 AA,L31⟩,⟨by simp,by simp⟩⟩)
 .cases nb
  .simp only[go_sem,C2,Int.reduceLT,Int.reduceBEq];exact qc _ _ ⟨rfl,h1⟩
  have qd:=qD rfl;have ek:=e3 qd;obtain⟨z,qh⟩:=Xm h1 qJ [114];simp only[go_sem,C2,Int.reduceLT,Int.reduceBEq,Int.reduceSub];refine Ca qh ?_;cases z;rotate_left
  .simp only[go_sem,C2,Int.reduceLT,Int.reduceBEq,Ay];exact qc _ _ ⟨rfl,h1⟩
  obtain⟨u3,L3,s3,q3,b3,⟨qq,qr,qk,r3⟩,⟨L31,L32⟩,h3,w3⟩:=Aev (Aee (ih (k - 1) AA)) h1 AA [114];simp only[go_sem,C2,Int.reduceLT,Int.reduceBEq,Int.reduceSub,Int.reduceAdd,A1,ek];refine Aa q3 ?_;simp only[go_sem,qq,qr,qk,h3.z];exact Jp (op:=5) (line:=0) (nm:=[114]) (arg:=[]) (iz:=true) (it:=0) (idx:=[]) (ex:=Xp.zero) (LB:=L3) (LE:=[]) h3 rfl (.inr b3) (.inl ⟨true,0,rfl⟩) AK fun _ _ _ _=>Jx AE AE (fun _=>rfl) AE (.inr ⟨rfl,rfl⟩) (.inr ⟨rfl,H1 AD⟩) (.inl ⟨by simp,rfl⟩) (fun h=>by have h:true=false:=h;cases h) (fun _=>rfl) (fun _=>⟨qd,⟨C8 L32 AA,L31⟩,⟨by simp,by simp⟩⟩)
 .cases nb
  .simp only[go_sem,C2,Int.reduceLT,Int.reduceBEq];exact qc _ _ ⟨rfl,h1⟩
  have qd:=qD rfl;have ek:=e3 qd;obtain⟨z,qh⟩:=Xm h1 qJ [114];simp only[go_sem,C2,Int.reduceLT,Int.reduceBEq,Int.reduceSub];refine Ca qh ?_;cases z;rotate_left
  .simp only[go_sem,C2,Int.reduceLT,Int.reduceBEq,Ay];exact qc _ _ ⟨rfl,h1⟩
  obtain⟨u3,L3,s3,q3,b3,⟨qq,qr,qk,r3⟩,⟨L31,L32⟩,h3,w3⟩:=Aev (Aee (ih (k - 1) AA)) h1 AA [114];simp only[go_sem,C2,Int.reduceLT,Int.reduceBEq,Int.reduceSub,Int.reduceAdd,A1,ek];refine Aa q3 ?_;simp only[go_sem,qq,qr,qk,h3.z];exact Jp (op:=6) (line:=0) (nm:=[114]) (arg:=[]) (iz:=true) (it:=0) (idx:=[]) (ex:=Xp.zero) (LB:=L3) (LE:=[]) h3 rfl (.inr b3) (.inl ⟨true,0,rfl⟩) AK fun _ _ _ _=>Jx AE AE (fun _=>rfl) AE (.inr ⟨rfl,rfl⟩) (.inr ⟨rfl,H1 AD⟩) (.inl ⟨by simp,rfl⟩) (fun h=>by have h:true=false:=h;cases h) (fun _=>rfl) (fun _=>⟨qd,⟨C8 L32 AA,L31⟩,⟨by simp,by simp⟩⟩)
 .cases nb
  .simp only[go_sem,C2,Int.reduceLT,Int.reduceBEq];exact qc _ _ ⟨rfl,h1⟩
  have qd:=qD rfl;have ek:=e3 qd;obtain⟨qf,qa,qj,ql,qe,qi,qt,m1,qs⟩:=K1 h1;obtain⟨h2,w2⟩:=qs qf qa qj true qe qi;obtain⟨s2,qm⟩:∃ t,t=s.set m (mO b qf qa qj true qe qi qt):=⟨_,rfl⟩;rw[<-qm]at h2 w2;obtain⟨ko,jz,kn,kq,kb,kj,ku,m2,-⟩:=K1 h2;obtain⟨j,s3,q3,hj,h3,w3,jA⟩:=Xx h2 2;have ej:IntKind.i64.wrap (1+(j:Int))=((1+j:Nat):Int):=by rw[Cm AA];omega
  obtain⟨u4,L4,s4,q4,b4,⟨qM,qN,qz,r4⟩,⟨L41,L42⟩,h4,w4⟩:=Aah (ih 0 AA) h3 AA (1+j);obtain⟨qE,qH,qG,qF,jp⟩:=Afl h4 (.row [iV 7,iV 0,.str [],.str [],.nils,iV 0,iV 0,.str [],.nils,u4,.nils] 98 0 0) (by simp only[Ob.refs,Ag,O4,V.refs,Ba,Cc];exact fun i hi=>Uy (Cz b4.1 i hi));obtain⟨s5,qA⟩:∃ t,t=s4++[Ob.row [iV 7,iV 0,.str [],.str [],.nils,iV 0,iV 0,.str [],.nils,u4,.nils] 98 0 0]:=⟨_,rfl⟩;rw[<-qA]at qE qH qG qF;have h5:=qE;have b5:=R6 b4 qH;obtain⟨qp,qb,qo,qy,qu,qx,qS,m5,qQ⟩:=K1 h5;obtain⟨h6,w6⟩:=qQ qp qb qo false qu qx;obtain⟨s6,qB⟩:∃ t,t=s5.set m (mO b qp qb qo false qu qx qS):=⟨_,rfl⟩;rw[<-qB]at h6 w6;have b6:=R6 b5 w6;obtain⟨k6,n6⟩:=Ji w6 qF qG;simp only[go_sem,C2,Int.reduceLT,Int.reduceBEq,m1];rw[<-qm];simp only[go_sem,m2];refine Aa q3 ?_;simp only[go_sem,ej];refine Aa q4 ?_;simp only[go_sem,qM,qN,qz];rw[<-qA];simp only[go_sem,m5];rw[<-qB];simp only[go_sem,k6,h6.z,qz];exact Jp (op:=7) (line:=0) (nm:=[]) (arg:=[]) (iz:=true) (it:=0) (idx:=[]) (ex:=Xp.zero) (LB:=L4) (LE:=[]) h6 rfl (.inr b6) (.inl ⟨true,0,rfl⟩) AK fun _ _ _ _=>Jx AE AE (fun _=>rfl) AE (.inr ⟨rfl,rfl⟩) (.inl ⟨rfl,rfl⟩) (.inl ⟨by simp,rfl⟩) (fun h=>by have h:true=false:=h;cases h) (fun _=>rfl) (fun _=>⟨qd,⟨C8 L42 AA,fun y hy=>Bfk (Ax _) (L41 y hy)⟩,⟨by simp,by simp⟩⟩)
 .cases nb
  .simp only[go_sem,C2,Int.reduceLT,Int.reduceBEq];exact qc _ _ ⟨rfl,h1⟩
  have qd:=qD rfl;have ek:=e3 qd;obtain⟨qf,qa,qj,ql,qe,qi,qt,m1,qs⟩:=K1 h1;cases qe;rotate_left
  .simp only[go_sem,C2,Int.reduceLT,Int.reduceBEq,m1,Ay];exact qc _ _ ⟨rfl,h1⟩
  obtain⟨h2,w2⟩:=qs qf qa qj ql true qi;obtain⟨s2,qm⟩:∃ t,t=s.set m (mO b qf qa qj ql true qi qt):=⟨_,rfl⟩;rw[<-qm]at h2 w2;obtain⟨u4,L4,s4,q4,b4,⟨qM,qN,qz,r4⟩,⟨L41,L42⟩,h4,w4⟩:=Aah (ih (k - 1) AA) h2 AA 2;obtain⟨qE,qH,qG,qF,jp⟩:=Afl h4 (.row [iV 8,iV 0,.str [],.str [],.nils,iV 0,iV 0,.str [],.nils,u4,.nils] 98 0 0) (by simp only[Ob.refs,Ag,O4,V.refs,Ba,Cc];exact fun i hi=>Uy (Cz b4.1 i hi));obtain⟨s5,qA⟩:∃ t,t=s4++[Ob.row [iV 8,iV 0,.str [],.str [],.nils,iV 0,iV 0,.str [],.nils,u4,.nils] 98 0 0]:=⟨_,rfl⟩;rw[<-qA]at qE qH qG qF;have h5:=qE;have b5:=R6 b4 qH;obtain⟨qp,qb,qo,qy,qu,qx,qS,m5,qQ⟩:=K1 h5;obtain⟨h6,w6⟩:=qQ qp qb qo qy false qx;obtain⟨s6,qB⟩:∃ t,t=s5.set m (mO b qp qb qo qy false qx qS):=⟨_,rfl⟩;rw[<-qB]at h6 w6;have b6:=R6 b5 w6;obtain⟨k6,n6⟩:=Ji w6 qF qG;simp only[go_sem,C2,Int.reduceLT,Int.reduceBEq,m1,A1];rw[<-qm];simp only[go_sem,ek];refine Aa q4 ?_;simp only[go_sem,qM,qN,qz];rw[<-qA];simp only[go_sem,m5];rw[<-qB];simp only[go_sem,k6,h6.z,qz];exact Jp (op:=8) (line:=0) (nm:=[]) (arg:=[]) (iz:=true) (it:=0) (idx:=[]) (ex:=Xp.zero) (LB:=L4) (LE:=[]) h6 rfl (.inr b6) (.inl ⟨true,0,rfl⟩) AK fun _ _ _ _=>Jx AE AE (fun _=>rfl) AE (.inr ⟨rfl,rfl⟩) (.inl ⟨rfl,rfl⟩) (.inl ⟨by simp,rfl⟩) (fun h=>by have h:true=false:=h;cases h) (fun _=>rfl) (fun _=>⟨qd,⟨C8 L42 AA,L41⟩,⟨by simp,by simp⟩⟩)
 .cases nb
  .simp only[go_sem,C2,Int.reduceLT,Int.reduceBEq];exact qc _ _ ⟨rfl,h1⟩
  have qd:=qD rfl;have ek:=e3 qd;obtain⟨qf,qa,qj,ql,qe,qi,qt,m1,qs⟩:=K1 h1;cases qe;rotate_left
  .simp only[go_sem,C2,Int.reduceLT,Int.reduceBEq,m1,Ay];exact qc _ _ ⟨rfl,h1⟩
  obtain⟨z,qh⟩:=Xm h1 qJ [109];simp only[go_sem,C2,Int.reduceLT,Int.reduceBEq,m1,A1];refine Ca qh ?_;cases z;rotate_left
  .simp only[go_sem,C2,Int.reduceLT,Int.reduceBEq,Ay];exact qc _ _ ⟨rfl,h1⟩
  have qL:=W8 [97] (Gy [120]);simp only[Gy,SL,B0,and_self,true_and,if_true]at qL;simp only[go_sem,A1];refine Ab (Ahd _) AK ?_;simp only[go_sem];refine Ab qL AK ?_;simp only[go_sem,h1.z];exact Jp (op:=4) (line:=0) (nm:=[109]) (arg:=[]) (iz:=true) (it:=0) (idx:=[]) (ex:=Xp.zero) (LB:=[Mz 9 [99],My [97] (Gy [120])]) (LE:=[]) h1 rfl (.inl ⟨true,1,by simp only[Aw,B0,Yb,Agq];rfl⟩) (.inl ⟨true,0,rfl⟩) (by simp only[Aw,B0,Yb,Agq];rfl) fun _ _ _ _=>Jx AE AE (fun _=>rfl) AE (.inr ⟨rfl,rfl⟩) (.inr ⟨rfl,H1 AD⟩) (.inl ⟨by simp,rfl⟩) (fun h=>by have h:true=false:=h;cases h) (fun _=>rfl) (fun _=>⟨qd,⟨by simp,fun y hy=>by simp only[Bp,L8,or_false]at hy;rcases hy with rfl | rfl<;>first | exact Ab4 (.inl rfl) (H1 AD) | exact An0 (H1 AD) (Bqs (H1 AD) 1)⟩,⟨by simp,by simp⟩⟩)
 .cases nb
  .simp only[go_sem,C2,Int.reduceLT,Int.reduceBEq];exact qc _ _ ⟨rfl,h1⟩
  have qd:=qD rfl;have ek:=e3 qd;obtain⟨z,qh⟩:=Xm h1 qJ [109];simp only[go_sem,C2,Int.reduceLT,Int.reduceBEq];refine Ca qh ?_;cases z;rotate_left
  .simp only[go_sem,C2,Int.reduceLT,Int.reduceBEq,Ay];exact qc _ _ ⟨rfl,h1⟩
  obtain⟨qf,qa,qj,ql,qe,qi,qt,m1,qs⟩:=K1 h1;obtain⟨j,s3,q3,hj,h3,w3,jA⟩:=Xx h1 2;have ej:IntKind.i64.wrap (10+(j:Int))=10+(j:Int):=Cm AA;simp only[go_sem,A1,m1];refine Aa q3 ?_;simp only[go_sem,ej,h3.z];exact Jp (op:=4) (line:=0) (nm:=[109]) (arg:=[]) (iz:=true) (it:=0) (idx:=[]) (ex:=Xp.zero) (LB:=[Mz (10+(j:Int)) [99]]) (LE:=[]) h3 rfl (.inl ⟨true,1,by simp only[Aw,B0,Yb];rfl⟩) (.inl ⟨true,0,rfl⟩) (by simp only[Aw,B0,Yb];rfl) fun _ _ _ _=>Jx AE AE (fun _=>rfl) AE (.inr ⟨rfl,rfl⟩) (.inr ⟨rfl,H1 AD⟩) (.inl ⟨by simp,rfl⟩) (fun h=>by have h:true=false:=h;cases h) (fun _=>rfl) (fun _=>⟨qd,⟨by simp,fun y hy=>by rw[Gm.1 hy];exact Ab4 AA (H1 AD)⟩,⟨by simp,by simp⟩⟩)
 .obtain⟨qf,qa,qj,ql,qe,qi,qt,m1,qs⟩:=K1 h1;cases ql;rotate_left
  .simp only[go_sem,C2,Int.reduceLT,Int.reduceBEq,m1,Ay];exact qc _ _ ⟨rfl,h1⟩
  cases qi;rotate_left
  .simp only[go_sem,C2,Int.reduceLT,Int.reduceBEq,m1,Ay,A1];exact qc _ _ ⟨rfl,h1⟩
  cases qj;rotate_left
  .simp only[go_sem,C2,Int.reduceLT,Int.reduceBEq,m1,Ay,A1];exact qc _ _ ⟨rfl,h1⟩
  obtain⟨h2,w2⟩:=qs qf qa true false qe false;obtain⟨s2,qm⟩:∃ t,t=s.set m (mO b qf qa true false qe false qt):=⟨_,rfl⟩;rw[<-qm]at h2 w2;obtain⟨x,s3,q3,hx,h3,w3,xs⟩:=Vq h2 1;simp only[go_sem,C2,Int.reduceLT,Int.reduceBEq,m1,A1];rw[<-qm];refine Ca q3 ?_;simp only[go_sem,h3.z];exact Jp (op:=14) (line:=0) (nm:=[102]) (arg:=[]) (iz:=true) (it:=0) (idx:=[]) (ex:=x) (LB:=[]) (LE:=[]) h3 rfl (.inl ⟨true,0,rfl⟩) (.inl ⟨true,0,rfl⟩) AK fun _ _ _ _=>Jx AE AE (fun _=>rfl) AE (.inl ⟨rfl,hx⟩) (.inr ⟨rfl,H1 AD⟩) (.inl ⟨by simp,rfl⟩) (fun _=>rfl) (fun _=>rfl) (fun h=>by have h:false=true:=h;cases h)
 .obtain⟨qf,qa,qj,ql,qe,qi,qt,m1,qs⟩:=K1 h1;cases ql;rotate_left
  .simp only[go_sem,C2,Int.reduceLT,Int.reduceBEq,m1,Ay];exact qc _ _ ⟨rfl,h1⟩
  obtain⟨j,s3,q3,hj,h3,w3,jA⟩:=Xx h1 2;simp only[go_sem,C2,Int.reduceLT,Int.reduceBEq,m1,A1];refine Aa q3 ?_;by_cases j1:j=1
  .subst j1;simp only[go_sem,C2,Int.reduceBEq,h3.z];exact Jp (op:=15) (line:=0) (nm:=[97]) (arg:=[102]) (iz:=true) (it:=0) (idx:=[]) (ex:=Xp.zero) (LB:=[]) (LE:=[]) h3 rfl (.inl ⟨true,0,rfl⟩) (.inl ⟨true,0,rfl⟩) AK fun _ _ _ _=>Jx AE AE (fun _=>rfl) AE (.inr ⟨rfl,rfl⟩) (.inr ⟨rfl,H1 AD⟩) (.inr ⟨rfl,H1 AD⟩) (fun _=>rfl) (fun _=>rfl) (fun h=>by have h:false=true:=h;cases h)
  .have fj:((j:Int)==1)=false:=by simp;omega
   simp only[go_sem,fj];exact qc _ _ ⟨rfl,h3⟩
def Ar8:∀ (K:Nat),K<=20->∀ k,k<=K->MSt k/\MSs k
 | 0,hK,k,hk=>by
  have h:=Aqt (k:=k) AA fun j hj=>by omega
  exact⟨h,Arz h⟩
 | K+1,hK,k,hk=>by
  have h:=Aqt (k:=k) AA fun j hj=>(Ar8 K AA j AA).2
  exact⟨h,Arz h⟩
