/- Walks: strings.Builder. -/
import Derived.Test.YtphikjgngompaabGreatDoorNu
import Derived.Lib.ParseIntB
set_option linter.all false
namespace Go.Proofs.YtphikjgngompaabGreatDoor.KM
open Go
def Ad7(l:List UInt8):∀ r∈B6 l,r.length=1:=by
 intro r hr;obtain⟨c,_,rfl⟩:=Cs.1 hr;rfl
def A5u(a b:List UInt8):B6 (a++b)=B6 a++B6 b:=Fz ..
def Awm(a:List UInt8):(B6 a).length=a.length:=Ar ..
def Apn:∀ l:List UInt8,Vd (B6 l)=some l
 | []=>rfl
 | c::l=>by
  have h:c.toNat<256:=c.toNat_lt;have:=Apn l;simp only[B6,Aw,Vd]at this ⊢;rw[if_pos AA,this];simp
def Arq(l:List UInt8):Ag (B6 l).flatten=[]:=by
 refine Ft (Id fun r hr=>?_);obtain⟨c,_,rfl⟩:=Cs.1 hr;rfl
def A89(ty:Nat)(x:V)(l:List UInt8)(σ:St):Az7 ty x (.str l) σ=Dt 1 (1,ty) x (.lst 1 (B6 l)) σ:=rfl
def A5v{s:St}{j:Nat}{x:Ob}(h:s[j]?=some x):j<s.length:=(Ao.1 h).1
def BL(s:St)(b:Nat)(u:V)(l:List UInt8):Prop:=∃ p,s[b]?=some (.row [p,u] 213 0 0)/\(p=.nilp\/p=.ptr b 0 0)/\GW s 1 5 (b+1) u (B6 l)
def Bd4{s:St}{b:Nat}{u:V}{l:List UInt8}(h:BL s b u l):∀ i∈u.refs,i<s.length:=by
 obtain⟨p,_,_,hg⟩:=h;exact Gr hg
def Bd5{s J:St}{b:Nat}{u:V}{l:List UInt8}(h:BL s b u l):BL (s++J) b u l:=by
 obtain⟨p,h1,h2,h3⟩:=h;exact⟨p,By h1,h2,Ix h3⟩
def Jl{s:St}{cs:List V}{t:Nat}(h:Cl s)(hr:cs.all V.rowB=true):Cl (s++[.row cs t 0 0]):=Jh h (by simp only[Ob.refs,Ft hr];simp)
def A9a{s:St}{b:Nat}{u:V}{l:List UInt8}(t:List UInt8)(h:BL s b u l)(hc:Cl s)(hb:l.length+t.length<=100000000000000):
  ∃ s' u',Th TT PT 187 [.ptr b 0 0,.str t] s (.tup [iV (t.length:Int),.nili]) s'/\BL s' b u' (l++t)/\Cl s'/\s.length<=s'.length/\∀ j,j≠b->j ∉ u.refs->j<s.length->s'[j]?=s[j]?:=by
 have qy:=Bd4 h;obtain⟨p,hs,hp,hg⟩:=h;have qg:b<s.length:=A5v hs
 have h1:∃ s1,Y5 213 [.ptr b 0 0] s=some (.tup [],s1)/\s1[b]?=some (.row [.ptr b 0 0,u] 213 0 0)/\GW s1 1 5 (b+1) u (B6 l)/\s1.length=s.length/\Cl s1/\∀ j,j≠b->s1[j]?=s[j]?:=by
  rcases hp with rfl | rfl
  .refine⟨s.set b (.row [.ptr b 0 0,u] 213 0 0),?_,by rw[Cr qg],D4 hg AA,by simp,F9 hc ?_,fun j hj=>by rw[Ce AA]⟩
   .simp[Y5,hs]
   .intro i hi;simp only[Ob.refs,Ag,V.refs,Cc,Cu,Gm]at hi;rcases hi with rfl | hi
    .exact qg
    .exact qy i hi
  .exact⟨s,by simp[Y5,hs],hs,hg,rfl,hc,fun _ _=>rfl⟩
 obtain⟨s1,e1,q1,g1,l1,c1,f1⟩:=h1;obtain⟨u2,s2,e2,g2,l2,fo,f2⟩:=I1 (bytes:=1) (y:=.lst 1 (B6 t)) (ys:=B6 t) g1 AA rfl AA (Ad7 l) (Ad7 t) (by rw[Awm,Awm];omega);rw[<-A5u]at g2;have q2:=(f2 b AA).trans q1;have c2:Cl s2/\∀ i∈u2.refs,i<s2.length:=⟨Ajn g1 rfl e2 (Arq l) (Arq t) c1,Gr g2⟩
 have c3:Cl (s2.set b (.row [.ptr b 0 0,u2] 213 0 0)):=by
  refine F9 c2.1 ?_;intro i hi;simp only[Ob.refs,Ag,V.refs,Cc,Cu,Gm]at hi;rcases hi with rfl | hi
  .omega
  .exact c2.2 i hi
 refine⟨s2.set b (.row [.ptr b 0 0,u2] 213 0 0),u2,Af1 T187 rfl ?_ rfl rfl AQ c3,⟨.ptr b 0 0,by rw[Cr AA],.inr rfl,D4 g2 AA⟩,c3,by simp;omega,fun j hj hu hl=>?_⟩
 .simp only[go_sem];refine Jg (.spec T213 rfl rfl e1) ?_;simp only[go_sem,q1,A89,e2,q2,N3 (Cg g2),Cg g2];exact⟨rfl,rfl⟩
 .rw[Ce AA,fo j ?_ AA,f1 j hj];intro i g hi qD;subst qD;exact hu (by rw[hi];simp[V.refs])
theorem Bke{s:St}{b:Nat}{u:V}{l:List UInt8}(h:BL s b u l):∃ s',We 213 5 [.ptr b 0 0] s=some (.str l,s'):=by
 obtain⟨p,hs,hp,hg⟩:=h;rcases hg with⟨rfl,hl⟩ | ⟨hn,i,g,rfl,ho,qJ⟩
 .have:l=[]:=by simpa[B6] using hl
  subst this;exact⟨s,by simp[We,hs]⟩
 .have qv:0<(B6 l).length:=List.length_pos_iff.2 hn;have qz:Fg 1 (B6 l).length (B6 l).flatten=B6 l:=U5 (Ad7 l);have qH:=Gg (Ad7 l);refine⟨s.set i .dead,?_⟩;simp only[We,hs,ho];rw[if_pos ⟨trivial,trivial,qv⟩,if_pos ⟨trivial,trivial,by omega⟩,qz,Apn];rfl
section
variable {α β:Type} [DecidableEq α] [DecidableEq β]
theorem A5w(A B:List (β × List α)):(Em (A++B)).length=(Em A).length+(Em B).length:=by grind[Em]
def Ai7{nm:β}:∀ {A B:List (β × List α)},(∀ q∈A,q.1≠nm)->Gb nm (A++B)=((Em A).length+(Gb nm B).1,(Gb nm B).2)
 | [],B,_=>by grind[Em]
 | q::A,B,h=>by
  rw[Bq,Gb,if_neg (h q B4),Ai7 fun r hr=>h r (Cb _ hr),W7,Aq,Ar]
  grind
def Us(nm:β)(Q:List (β × List α))(k:Nat):Prop:=∀ q∈Q.take k,q.1≠nm
def A9b(nm:β)(Q:List (β × List α)):Us nm Q 0:=fun q hq=>by grind
def A9c{nm:β}{Q:List (β × List α)}{k:Nat}(h:Us nm Q k){q:β × List α}(hq:Q[k]?=some q)(hn:q.1≠nm):Us nm Q (k+1):=fun r hr=>by
 rw[M3,hq]at hr;rcases Cu.1 hr with hr | hr
 .exact h r hr
 grind
def Lr(Q:List (β × List α))(k:Nat):Nat:=(Em (Q.take k)).length
def A33{Q:List (β × List α)}{k:Nat}{q:β × List α}(hq:Q[k]?=some q):Lr Q (k+1)=Lr Q k+q.2.length:=by
 grind[Lr,List.take_add_one,Em]
def Akk(Q:List (β × List α))(k:Nat):Lr Q k<=(Em Q).length:=by
 grind[Lr,A5w,List.take_append_drop]
def A5x{nm:β}{Q:List (β × List α)}{k:Nat}{q:β × List α}(h:Us nm Q k)(hq:Q[k]?=some q)(hn:q.1=nm):Gb nm Q=(Lr Q k,some q.2):=by
 obtain⟨hk,he⟩:=Ao.1 hq;have:=Ai7 (B:=Q.drop k) h;rw[Nn,Io hk,he,Gb,if_pos hn]at this;exact this
theorem A34{nm:β}{Q:List (β × List α)}(h:Us nm Q Q.length):Gb nm Q=(Lr Q Q.length,none):=by
 have:=Ai7 (B:=[]) h
 grind[Gb,Lr]
def A9d{nm:β}{s:List α}{Q:List (β × List α)}{k:Nat}{q:β × List α}(h:Us nm Q k)(hq:Q[k]?=some q)(hn:q.1=nm):Ik (nm,s) Q=Ln (Lr Q k) (D6 0 s q.2):=by
 unfold Ik;rw[A5x h hq hn,Q8]
def A5y{nm:β}{s:List α}{Q:List (β × List α)}(h:Us nm Q Q.length):Ik (nm,s) Q=List.replicate s.length (-1)/\Ik (nm,s) Q=Ln (Lr Q Q.length) (D6 0 s []):=by
 grind[A34,Aro,Ik]
def A28{P:List (β × List α)}{i:Nat}{p:β × List α}(Q:List (β × List α))(h:P[i]?=some p):Jk (P.take (i+1)) Q=Jk (P.take i) Q++Ik p Q:=by
 grind[Jk,List.take_add_one]
end
/-! expressions -/
structure Xp where
 op:Int
 n:Int
 nm:List UInt8
 z:Bool
 t:Nat
 l:List Xp
mutual
def Xp.row:Xp->List V
 | ⟨op,n,nm,z,t,l⟩=>[.int .i64 op,.int .i64 n,.str nm,SL z t (Xp.rows l)]
def Xp.rows:List Xp->List (List V)
 | []=>[]
 | x::l=>x.row::Xp.rows l
end
def Arr:∀ l:List Xp,Xp.rows l=l.map Xp.row
 | []=>rfl
 | x::l=>by rw[Xp.rows,Arr l];rfl
theorem Bi(x:Xp):x.row=[iV x.op,iV x.n,.str x.nm,SL x.z x.t (x.l.map Xp.row)]:=by
 rw[<-Arr];cases x;rfl
def Xp.zero:Xp:=⟨0,0,[],true,0,[]⟩
def Bz(op:Int):List UInt8:=
 match op with
 | 4=>[45] | 5=>[33] | 6=>[43] | 7=>[45] | 8=>[42] | 9=>[47] | 10=>[37] | 11=>[61,61] | 12=>[33,61] | 13=>[60] | 14=>[60,61] | 15=>[62] | 16=>[62,61] | 17=>[38,38] | 18=>[124,124] | _=>[]
def Be(op:Int):Int:=
 match op with
 | 4=>6 | 5=>6 | 6=>4 | 7=>4 | 8=>5 | 9=>5 | 10=>5 | 11=>3 | 12=>3 | 13=>3 | 14=>3 | 15=>3 | 16=>3 | 17=>2 | 18=>1 | _=>7
def AV{p:Prop}(h:p:=by simp[Be]):p:=h
def Y9(op:Int):Int:=if op=1\/op=2 then 0 else if 3<=op/\op<=5 then 1 else if 6<=op/\op<=18 then 2 else -1
def Dg(o:Int × List UInt8)(qe:Int):List UInt8:=if Be o.1<qe then 40::(o.2++[41]) else o.2
def Gi(op:Int):Int:=if Be op=3 then 4 else Be op
def Dr(op n:Int)(nm:List UInt8)(ts:List (Int × List UInt8)):List UInt8:=
 if op=1 then B3 n else if op=2 then nm else
 match ts with
 | [a]=>if op=3 then nm++91::(a.2++[93]) else Bz op++Dg a 6
 | [a,b]=>Dg a (Gi op)++32::(Bz op++32::Dg b (Be op+1))
 | _=>[]
mutual
def Xp.txt:Xp->List UInt8
 | ⟨op,n,nm,_,_,l⟩=>Dr op n nm (Xp.txts l)
def Xp.txts:List Xp->List (Int × List UInt8)
 | []=>[]
 | x::l=>(x.op,x.txt)::Xp.txts l
end
def Ars:∀ l:List Xp,Xp.txts l=l.map fun x=>(x.op,x.txt)
 | []=>rfl
 | x::l=>by rw[Xp.txts,Ars l];rfl
theorem Ei(x:Xp):x.txt=Dr x.op x.n x.nm (x.l.map fun x=>(x.op,x.txt)):=by
 rw[<-Ars];cases x;rfl
inductive Cn:Xp->Prop
 | num {n:Int} {nm:List UInt8} {z:Bool} {t:Nat} : -9223372036854775808<=n/\n<=9223372036854775807->Cn ⟨1,n,nm,z,t,[]⟩
 | name {n:Int} {nm:List UInt8} {z:Bool} {t:Nat}:Cn ⟨2,n,nm,z,t,[]⟩
 | idx {n:Int} {nm:List UInt8} {z:Bool} {t:Nat} {a:Xp}:Cn a->Cn ⟨3,n,nm,z,t,[a]⟩
 | un {op n:Int} {nm:List UInt8} {z:Bool} {t:Nat} {a:Xp}:op=4\/op=5->Cn a->Cn ⟨op,n,nm,z,t,[a]⟩
 | bin {op n:Int} {nm:List UInt8} {z:Bool} {t:Nat} {a b:Xp}:6<=op/\op<=18->Cn a->Cn b->Cn ⟨op,n,nm,z,t,[a,b]⟩
/-! statements -/
structure Sp where
 op:Int
 line:Int
 nm:List UInt8
 arg:List UInt8
 iz:Bool
 it:Nat
 idx:List Xp
 ex:Xp
 bz:Bool
 bt:Nat
 body:List Sp
 ez:Bool
 et:Nat
 els:List Sp
mutual
def Sp.row:Sp->List V
 | ⟨op,line,nm,arg,iz,it,idx,ex,bz,bt,body,ez,et,els⟩=>[.int .i64 op,.int .i64 line,.str nm,.str arg,SL iz it (idx.map Xp.row)]++ex.row++[SL bz bt (Sp.rows body),SL ez et (Sp.rows els)]
def Sp.rows:List Sp->List (List V)
 | []=>[]
 | x::l=>x.row::Sp.rows l
end
def Ajr:∀ l:List Sp,Sp.rows l=l.map Sp.row
 | []=>rfl
 | x::l=>by rw[Sp.rows,Ajr l];rfl
def Sz(s:Sp):s.row=[iV s.op,iV s.line,.str s.nm,.str s.arg,SL s.iz s.it (s.idx.map Xp.row)]++s.ex.row++[SL s.bz s.bt (s.body.map Sp.row),SL s.ez s.et (s.els.map Sp.row)]:=by
 rw[<-Ajr,<-Ajr];cases s;rfl
def Co(op:Int):List UInt8:=
 match op with
 | 2=>[105,102] | 3=>[119,104,105,108,101] | 4=>[108,111,99,107] | 5=>[114,101,97,100] | 6=>[119,114,105,116,101] | 7=>[116,114,97,110,115,97,99,116,105,111,110] | 8=>[97,116,111,109,105,99] | 9=>[119,97,105,116] | 10=>[110,111,116,105,102,121] | 11=>[110,111,116,105,102,121,97,108,108] | 12=>[115,112,97,119,110] | 13=>[106,111,105,110] | 14=>[115,101,116] | 15=>[103,101,116] | _=>[]
def E6(l:List Xp):List UInt8:=match l with
 | a::_=>91::(a.txt++[93])
 | []=>[]
def Cp(s:Sp):List UInt8:=
 if s.op=1 then s.nm++(E6 s.idx++32::61::32::s.ex.txt)
 else if s.op=2\/s.op=3 then Co s.op++32::s.ex.txt
 else if s.op=7\/s.op=8 then Co s.op
 else if s.op=14 then Co s.op++32::(s.nm++32::s.ex.txt)
 else if s.op=15 then Co s.op++32::(s.nm++32::s.arg)
 else Co s.op++32::s.nm
def Ee(d:Nat):List UInt8:=List.replicate (2*d) 32
def Bv(op:Int):Bool:=decide (2<=op)&&decide (op<=8)
mutual
def Sp.txt:Nat->Sp->List UInt8
 | d,⟨op,line,nm,arg,iz,it,idx,ex,bz,bt,body,ez,et,els⟩=>
  Ee d++(Cp ⟨op,line,nm,arg,iz,it,idx,ex,bz,bt,body,ez,et,els⟩ ++
   if Bv op then 32::123::10::(Sp.txts (d+1) body++((if els.isEmpty then [] else Ee d++125::32::101::108::115::101::32::123::10::Sp.txts (d+1) els)++(Ee d++[125,10]))) else [59,10])
def Sp.txts:Nat->List Sp->List UInt8
 | _,[]=>[]
 | d,x::l=>x.txt d++Sp.txts d l
end
inductive CnS:Sp->Prop
 | mk {s:Sp}:1<=s.op/\s.op<=15->s.idx.length<=1->(s.op≠1->s.idx=[])->(∀ x∈s.idx,Cn x)->((s.op=1\/s.op=2\/s.op=3\/s.op=14)->Cn s.ex)->(Bv s.op=false->s.body=[])->(s.op≠2->s.els=[])->(∀ x∈s.body,CnS x)->(∀ x∈s.els,CnS x)->CnS s
/-! declarations, threads, programs -/
structure Dp where
 kind:Int
 line:Int
 nm:List UInt8
 size:Int
 init:Int
 on:List UInt8
def Dp.row(d:Dp):List V:=[iV d.kind,iV d.line,.str d.nm,iV d.size,iV d.init,.str d.on]
def Jw(n:Int):List UInt8:=if n=0 then [] else 32::61::32::B3 n
def De(d:Dp):List UInt8:=
 if d.kind=1 then [118,97,114,32]++(d.nm++((if d.size=0 then [] else 91::(B3 d.size++[93]))++Jw d.init))
 else if d.kind=2 then [118,111,108,97,116,105,108,101,32]++(d.nm++Jw d.init)
 else if d.kind=3 then [109,117,116,101,120,32]++d.nm
 else if d.kind=4 then [114,119,108,111,99,107,32]++d.nm
 else if d.kind=5 then [99,111,110,100,32]++(d.nm++32::d.on)
 else [102,117,116,117,114,101,32]++d.nm
structure CnD (d:Dp):Prop where
 kind:1<=d.kind/\d.kind<=6
 size:0<=d.size/\d.size<=9223372036854775807/\(d.kind≠1->d.size=0)
 init : -9223372036854775808<=d.init/\d.init<=9223372036854775807/\(d.kind≠1->d.kind≠2->d.init=0)
structure Tp where
 nm:List UInt8
 line:Int
 lz:Bool
 lt:Nat
 locals:List (List UInt8)
 bz:Bool
 bt:Nat
 body:List Sp
def Tp.row(t:Tp):List V:=[.str t.nm,iV t.line,SL t.lz t.lt (t.locals.map fun s=>[V.str s]),SL t.bz t.bt (t.body.map Sp.row)]
def En:List (List UInt8)->List UInt8
 | []=>[]
 | [a]=>a
 | a::b::l=>a++44::32::En (b::l)
def D9(t:Tp):List UInt8:=[116,104,114,101,97,100,32]++(t.nm++40::(En t.locals++41::32::123::10::(Sp.txts 1 t.body++[125,10])))
structure Gp where
 dz:Bool
 dt:Nat
 decls:List Dp
 tz:Bool
 tt:Nat
 thrs:List Tp
def Gp.row(p:Gp):List V:=[SL p.dz p.dt (p.decls.map Dp.row),SL p.tz p.tt (p.thrs.map Tp.row)]
def Ff(p:Gp):List UInt8:=(p.decls.map fun d=>De d++[59,10]).flatten++(p.thrs.map D9).flatten
structure CnG (p:Gp):Prop where
 decls:∀ d∈p.decls,CnD d
 thrs:∀ t∈p.thrs,∀ s∈t.body,CnS s
abbrev gR (p:Gp):List V:=[SL p.dz p.dt (p.decls.map Dp.row),SL p.tz p.tt (p.thrs.map Tp.row)]
abbrev gO (p:Gp):Ob:=.row (gR p) 29 0 0
abbrev wkR (p:Gp) (th:Int) (a b c:V):List V:=[SL p.dz p.dt (p.decls.map Dp.row),SL p.tz p.tt (p.thrs.map Tp.row),iV th,a,b,c]
abbrev Fa (p:Gp) (th:Int) (a b c:V):Ob:=.row (wkR p th a b c) 141 0 0
abbrev tR (x:Tp):List V:=[.str x.nm,iV x.line,SL x.lz x.lt (x.locals.map fun s=>[V.str s]),SL x.bz x.bt (x.body.map Sp.row)]
abbrev tO (x:Tp):Ob:=.row (tR x) 84 0 0
abbrev xR (x:Xp):List V:=[iV x.op,iV x.n,.str x.nm,SL x.z x.t (x.l.map Xp.row)]
abbrev xO (x:Xp):Ob:=.row (xR x) 96 0 0
abbrev sW (op line:Int) (nm arg:List UInt8) (iz:Bool) (it:Nat) (idx:List Xp) (xo xn:Int) (xm:List UInt8) (xz:Bool) (xt:Nat) (xl:List Xp) (bz:Bool) (bt:Nat) (body:List Sp) (ez:Bool) (et:Nat) (els:List Sp):List V:=[iV op,iV line,.str nm,.str arg,SL iz it (idx.map Xp.row),iV xo,iV xn,.str xm,SL xz xt (xl.map Xp.row),SL bz bt (body.map Sp.row),SL ez et (els.map Sp.row)]
abbrev sO (op line:Int) (nm arg:List UInt8) (iz:Bool) (it:Nat) (idx:List Xp) (xo xn:Int) (xm:List UInt8) (xz:Bool) (xt:Nat) (xl:List Xp) (bz:Bool) (bt:Nat) (body:List Sp) (ez:Bool) (et:Nat) (els:List Sp):Ob:=.row (sW op line nm arg iz it idx xo xn xm xz xt xl bz bt body ez et els) 98 0 0
abbrev sZ (op ln:Int) (nm arg:List UInt8):List V:=[iV op,iV ln,.str nm,.str arg,.nils,iV 0,iV 0,.str [],.nils,.nils,.nils]
abbrev sP (op ln:Int) (nm arg:List UInt8):Ob:=.row (sZ op ln nm arg) 98 0 0
abbrev zD:List V:=[iV 0,iV 0,.str [],iV 0,iV 0,.str []]
abbrev zO:Ob:=.row zD 80 0 0
abbrev zX:List V:=[iV 0,iV 0,.str [],.nils]
abbrev zY:Ob:=.row zX 96 0 0
abbrev mO (b:Nat) (th left:Int) (se tx ao lp:Bool) (u:V):Ob:=.row [.ptr b 0 0,iV th,iV left,.bool se,.bool tx,.bool ao,.bool lp,u] 91 0 0
structure Tk where
 kind:Int
 text:List UInt8
 line:Int
def Tk.row(t:Tk):List V:=[iV t.kind,.str t.text,iV t.line]
def Tk.zero:Tk:=⟨0,[],0⟩
def Gw(c:UInt8):Bool:=K6 c.toNat
def Du(c:UInt8):Bool:=Ms c.toNat
def H7(c:UInt8):Bool:=Lw c.toNat
def twoS:List (List UInt8):=[[124,124],[38,38],[61,61],[33,61],[60,61],[62,61]]
def oneS:List UInt8:=[60,62,43,45,42,47,37,33,61,40,41,91,93,123,125,44,59]
def greatS:List UInt8:=[57,50,50,51,51,55,50,48,51,54,56,53,52,55,55,53,56,48,55]
def I6(l:List UInt8):Nat:=
 if decide (2<=l.length)&&twoS.elem (l.take 2) then 2 else
 match l with
 | c::_=>if oneS.elem c then 1 else 0
 | []=>0
def Qq(w:List UInt8):Bool:=
 let d:=w.dropWhile (·==48)
 !(decide (19<d.length)||(decide (d.length=19)&&Op.bytesLess greatS d))
def Ex(c:UInt8)(r:List UInt8):List UInt8:=c::r.takeWhile H7
def Eo(c:UInt8)(r:List UInt8):List UInt8:=c::r.takeWhile Du
def Rz:List UInt8->Bool
 | d::_=>Gw d||d==95
 | []=>false
def K0:List UInt8->Option (Int × List UInt8)
 | []=>none
 | c::r=>
  if Gw c then(if 12<(Ex c r).length then none else some (if Gk (Ex c r) then 3 else 1,Ex c r))
  else if Du c then(if Rz (r.dropWhile Du) then none else if Qq (Eo c r) then some (2,Eo c r) else none)
  else if I6 (c::r)=0 then none else some (4,(c::r).take (I6 (c::r)))
def C0:Nat->Int->List UInt8->Option (List Tk)
 | _,_,[]=>some []
 | 0,_,_::_=>none
 | n+1,ln,c::r=>
  if c=10 then C0 n (ln+1) r
  else if c=32\/c=9\/c=13 then C0 n ln r
  else if c=47/\r.head?=some 47 then C0 n ln ((c::r).dropWhile (· != 10))
  else match K0 (c::r) with
  | none=>none
  | some (k,w)=>(C0 n ln ((c::r).drop w.length)).map fun l=>⟨k,w,ln⟩::l
/-! expressions -/
def As(s:List UInt8):List Tk->Bool
 | t::_=>(t.kind==3||t.kind==4)&&t.text==s
 | []=>false
def opTab:List (List UInt8 × Int × Int):=[([124,124],18,1),([38,38],17,2),([61,61],11,3),([33,61],12,3),([60],13,3),([60,61],14,3),([62],15,3),([62,61],16,3),([43],6,4),([45],7,4),([42],8,5),([47],9,5),([37],10,5)]
def Gl(s:List UInt8):Int × Int:=(opTab.lookup s).getD (0,0)
def H8(lvl:Nat):List Tk->Int
 | t::_=>if t.kind=4 then(if(Gl t.text).2=(lvl:Int) then(Gl t.text).1 else 0) else 0
 | []=>0
def J1(w:List UInt8):Int:=
 match Lib.parseIntB 64 w with
 | .ok v=>v
 | _=>0
def J3(op:Int)(x y:Xp):Xp:=⟨op,0,[],true,1,[x,y]⟩
def Pu(op:Int)(x:Xp):Xp:=⟨op,0,[],true,1,[x]⟩
mutual
def pe:Nat->Nat->List Tk->Option (Xp × List Tk)
 | 0,_,_=>none
 | n+1,lvl,ts=>if 5<lvl then pu n ts else
  match pe n (lvl+1) ts with
  | none=>none
  | some (x,r)=>lp n lvl x r
def lp:Nat->Nat->Xp->List Tk->Option (Xp × List Tk)
 | 0,_,_,_=>none
 | n+1,lvl,x,ts=>if H8 lvl ts=0 then some (x,ts) else
  match pe n (lvl+1) ts.tail with
  | none=>none
  | some (y,r)=>if lvl=3 then some (J3 (H8 lvl ts) x y,r) else lp n lvl (J3 (H8 lvl ts) x y) r
def pu:Nat->List Tk->Option (Xp × List Tk)
 | 0,_=>none
 | n+1,ts=>if As [45] ts then(match pu n ts.tail with
   | none=>none
   | some (x,r)=>some (Pu 4 x,r))
  else if As [33] ts then(match pu n ts.tail with
   | none=>none
   | some (x,r)=>some (Pu 5 x,r))
  else pp n ts
def pp:Nat->List Tk->Option (Xp × List Tk)
 | 0,_=>none
 | _+1,[]=>none
 | n+1,t::ts=>if t.kind=2 then some (⟨1,J1 t.text,[],true,0,[]⟩,ts)
  else if t.kind=1 then
   (if As [91] ts then(match pe n 1 ts.tail with
    | none=>none
    | some (x,r)=>if As [93] r then some (⟨3,0,t.text,true,1,[x]⟩,r.tail) else none)
   else some (⟨2,0,t.text,true,0,[]⟩,ts))
  else if As [40] (t::ts) then(match pe n 1 ts with
   | none=>none
   | some (x,r)=>if As [41] r then some (x,r.tail) else none)
  else none
end
/-! statements -/
def wordTab:List (List UInt8 × Int):=[([105,102],2),([119,104,105,108,101],3),([108,111,99,107],4),([114,101,97,100],5),([119,114,105,116,101],6),([116,114,97,110,115,97,99,116,105,111,110],7),([97,116,111,109,105,99],8),([119,97,105,116],9),([110,111,116,105,102,121],10),([110,111,116,105,102,121,97,108,108],11),([115,112,97,119,110],12),([106,111,105,110],13),([115,101,116],14),([103,101,116],15)]
def D7(s:List UInt8):Int:=(wordTab.lookup s).getD 0
def C6:List Tk->Option (List UInt8 × List Tk)
 | t::ts=>if t.kind=1 then some (t.text,ts) else none
 | []=>none
def Hb:List Tk->Option (Int × List Tk)
 | t::ts=>if t.kind=2 then some (J1 t.text,ts) else none
 | []=>none
def Dv(s:List UInt8)(ts:List Tk):Option (List Tk):=if As s ts then some ts.tail else none
def Am(op line:Int):Sp:=⟨op,line,[],[],true,0,[],Xp.zero,true,0,[],true,0,[]⟩
def AL{p:Prop}(h:p:=by simp[Am]):p:=h
def Ach(n:Nat)(ts:List Tk):Option (List Xp × List Tk):=
 if As [91] ts then
  match pe n 1 ts.tail with
  | none=>none
  | some (x,r)=>(Dv [93] r).map fun r=>([x],r)
 else some ([],ts)
def Sb(n:Nat)(line:Int)(ts:List Tk):Option (Sp × List Tk):=
 match C6 ts with
 | none=>none
 | some (nm,ts)=>
  match Ach n ts with
  | none=>none
  | some (ix,ts)=>
   match Dv [61] ts with
   | none=>none
   | some ts=>
    match pe n 1 ts with
    | none=>none
    | some (x,ts)=>(Dv [59] ts).map fun ts=>({ Am 1 line with nm:=nm,it:=ix.length,idx:=ix,ex:=x },ts)
mutual
def F4:Nat->List Tk->Option (Sp × List Tk)
 | 0,_=>none
 | _+1,[]=>none
 | n+1,t::ts=>
  if t.kind=1 then Sb n t.line (t::ts)
  else if t.kind=3 then
   (if D7 t.text=0 then none
   else if D7 t.text=2\/D7 t.text=3 then
    (match pe n 1 ts with
    | none=>none
    | some (x,ts)=>
     match Fb n ts with
     | none=>none
     | some (b,ts)=>
      if D7 t.text=2/\As [101,108,115,101] ts=true then
       (match Fb n ts.tail with
       | none=>none
       | some (e,ts)=>some ({ Am (D7 t.text) t.line with ex:=x,body:=b,els:=e },ts))
      else some ({ Am (D7 t.text) t.line with ex:=x,body:=b },ts))
   else if D7 t.text=7\/D7 t.text=8 then
    (match Fb n ts with
    | none=>none
    | some (b,ts)=>some ({ Am (D7 t.text) t.line with body:=b },ts))
   else
    (match C6 ts with
    | none=>none
    | some (nm,ts)=>
     if D7 t.text=4\/D7 t.text=5\/D7 t.text=6 then
      (match Fb n ts with
      | none=>none
      | some (b,ts)=>some ({ Am (D7 t.text) t.line with nm:=nm,body:=b },ts))
     else if D7 t.text=14 then
      (match pe n 1 ts with
      | none=>none
      | some (x,ts)=>(Dv [59] ts).map fun ts=>({ Am (D7 t.text) t.line with nm:=nm,ex:=x },ts))
     else if D7 t.text=15 then
      (match C6 ts with
      | none=>none
      | some (ar,ts)=>(Dv [59] ts).map fun ts=>({ Am (D7 t.text) t.line with nm:=nm,arg:=ar },ts))
     else(Dv [59] ts).map fun ts=>({ Am (D7 t.text) t.line with nm:=nm },ts)))
  else none
def Fb:Nat->List Tk->Option (List Sp × List Tk)
 | 0,_=>none
 | n+1,ts=>if As [123] ts then Ld n ts.tail else none
def Ld:Nat->List Tk->Option (List Sp × List Tk)
 | 0,_=>none
 | n+1,ts=>if As [125] ts then some ([],ts.tail) else
  match F4 n ts with
  | none=>none
  | some (s,r)=>
   match Ld n r with
   | none=>none
   | some (l,r)=>some (s::l,r)
end
/-! declarations, threads, programs -/
def declTab:List (List UInt8 × Int):=[([118,97,114],1),([118,111,108,97,116,105,108,101],2),([109,117,116,101,120],3),([114,119,108,111,99,107],4),([99,111,110,100],5),([102,117,116,117,114,101],6)]
def G7(s:List UInt8):Int:=(declTab.lookup s).getD 0
def Ts(ts:List Tk):Option (Int × List Tk):=
 if As [91] ts then
  match Hb ts.tail with
  | none=>none
  | some (n,r)=>if n=0 then none else(Dv [93] r).map fun r=>(n,r)
 else some (0,ts)
def Qr(ts:List Tk):Option (Int × List Tk):=
 if As [61] ts then
  if As [45] ts.tail then(Hb ts.tail.tail).map fun p=>(-p.1,p.2) else Hb ts.tail
 else some (0,ts)
def R3:List Tk->Option (Dp × List Tk)
 | []=>none
 | t::ts=>
  match C6 ts with
  | none=>none
  | some (nm,ts)=>
   if G7 t.text=1 then
    (match Ts ts with
    | none=>none
    | some (sz,ts)=>
       match Qr ts with
       | none=>none
       | some (i,ts)=>(Dv [59] ts).map fun ts=>(⟨1,t.line,nm,sz,i,[]⟩,ts))
   else if G7 t.text=2 then
    (match Qr ts with
    | none=>none
    | some (i,ts)=>(Dv [59] ts).map fun ts=>(⟨2,t.line,nm,0,i,[]⟩,ts))
   else if G7 t.text=5 then
    (match C6 ts with
    | none=>none
    | some (on,ts)=>(Dv [59] ts).map fun ts=>(⟨5,t.line,nm,0,0,on⟩,ts))
   else(Dv [59] ts).map fun ts=>(⟨G7 t.text,t.line,nm,0,0,[]⟩,ts)
def N4:List Tk->Bool
 | t::_=>t.kind==3&&G7 t.text != 0
 | []=>false
def Lo:Nat->List Tk->Option (List Dp × List Tk)
 | 0,_=>none
 | n+1,ts=>if N4 ts then
   (match R3 ts with
   | none=>none
   | some (d,r)=>
    match Lo n r with
    | none=>none
    | some (l,r)=>some (d::l,r))
  else some ([],ts)
def Lx:Nat->List Tk->Option (List (List UInt8) × List Tk)
 | 0,_=>none
 | n+1,ts=>
  match C6 ts with
  | none=>none
  | some (nm,ts)=>
   if As [44] ts then
    (match Lx n ts.tail with
    | none=>none
    | some (l,r)=>some (nm::l,r))
   else(Dv [41] ts).map fun ts=>([nm],ts)
def Abz(n:Nat)(ts:List Tk):Option (List (List UInt8) × List Tk):=if As [41] ts then some ([],ts.tail) else Lx n ts
def Sc(n:Nat):List Tk->Option (Tp × List Tk)
 | []=>none
 | t::ts=>
  match C6 ts with
  | none=>none
  | some (nm,ts)=>
   match Dv [40] ts with
   | none=>none
   | some ts=>
    match Abz n ts with
    | none=>none
    | some (l,ts)=>
       match Fb n ts with
       | none=>none
       | some (b,ts)=>some (⟨nm,t.line,true,0,l,true,0,b⟩,ts)
def Pq:List UInt8:=[116,104,114,101,97,100]
def Lt(m:Nat):Nat->List Tk->Option (List Tp × List Tk)
 | 0,_=>none
 | n+1,ts=>if As Pq ts then
   (match Sc m ts with
   | none=>none
   | some (t,r)=>
    match Lt m n r with
    | none=>none
    | some (l,r)=>some (t::l,r))
  else some ([],ts)
def Ng(k:Nat):Nat:=10*k+20
def V5(ts:List Tk):Option (Gp × List Tk):=
 match Lo (ts.length+1) ts with
 | none=>none
 | some (ds,r)=>
  match Lt (Ng ts.length) (ts.length+1) r with
  | none=>none
  | some (l,r)=>if l.isEmpty then none else some (⟨true,0,ds,true,0,l⟩,r)
def Jm(s:List UInt8):Option Gp:=
 if 4096<s.length then none else
 match C0 s.length 1 s with
 | none=>none
 | some ts=>
  match V5 ts with
  | some (p,[])=>some p
  | _=>none
/-! the rows' flags say nothing -/
mutual
def H3:Xp->Xp->Bool
 | ⟨op,n,nm,_,_,l⟩,⟨op',n',nm',_,_,l'⟩=>op==op'&&(n==n'&&(nm==nm'&&Jn l l'))
def Jn:List Xp->List Xp->Bool
 | [],[]=>true
 | x::l,y::l'=>H3 x y&&Jn l l'
 | [],_::_=>false
 | _::_,[]=>false
end
abbrev Kt:=Int × List UInt8
def Tk.kt(t:Tk):Kt:=(t.kind,t.text)
def Jb(o:Int × List Kt)(qe:Int):List Kt:=if Be o.1<qe then(4,[40])::(o.2++[(4,[41])]) else o.2
def Qs(op n:Int)(nm:List UInt8)(ts:List (Int × List Kt)):List Kt:=
 if op=1 then [(2,B3 n)] else if op=2 then [(1,nm)] else
 match ts with
 | [a]=>if op=3 then(1,nm)::(4,[91])::(a.2++[(4,[93])]) else(4,Bz op)::Jb a 6
 | [a,b]=>Jb a (Gi op)++(4,Bz op)::Jb b (Be op+1)
 | _=>[]
mutual
def Xp.toks:Xp->List Kt
 | ⟨op,n,nm,_,_,l⟩=>Qs op n nm (Xp.tokss l)
def Xp.tokss:List Xp->List (Int × List Kt)
 | []=>[]
 | x::l=>(x.op,x.toks)::Xp.tokss l
end
inductive ShE:Xp->Prop
 | num {n:Int} {z:Bool} {t:Nat}:0<=n/\n<=9223372036854775807->ShE ⟨1,n,[],z,t,[]⟩
 | name {nm:List UInt8} {z:Bool} {t:Nat}:Bm nm=true->ShE ⟨2,0,nm,z,t,[]⟩
 | idx {nm:List UInt8} {z:Bool} {t:Nat} {a:Xp}:Bm nm=true->ShE a->ShE ⟨3,0,nm,z,t,[a]⟩
 | un {op:Int} {z:Bool} {t:Nat} {a:Xp}:op=4\/op=5->ShE a->ShE ⟨op,0,[],z,t,[a]⟩
 | bin {op:Int} {z:Bool} {t:Nat} {a b:Xp}:6<=op/\op<=18->ShE a->ShE b->ShE ⟨op,0,[],z,t,[a,b]⟩
def A9e:((List.range 18).all fun i=>decide ((Bz ((i:Int)+1)).length<=2/\1<=Be ((i:Int)+1)/\Be ((i:Int)+1)<=7))=true:=by decide
def Bd6{op:Int}(h:1<=op/\op<=18):∃ i:Nat,i<18/\op=(i:Int)+1:=⟨(op - 1).toNat,by omega,by omega⟩
theorem Afc{op:Int}(h:1<=op/\op<=18):(Bz op).length<=2/\1<=Be op/\Be op<=7:=by
 obtain⟨i,hi,rfl⟩:=Bd6 h;exact of_decide_eq_true (Bu.1 A9e i (Eg.2 hi))
def Ayr{x:Xp}(h:ShE x):1<=x.op/\x.op<=18:=by
 cases h with
 | num _=>exact⟨by simp,by simp⟩
 | name=>exact⟨by simp,by simp⟩
 | idx _ _=>exact⟨by simp,by simp⟩
 | un h _=>simp only;omega
 | bin h _ _=>simp only;omega
def Ays{x:Xp}(h:ShE x):Cn x:=by
 induction h with
 | num h=>exact .num AA
 | name _=>exact .name
 | idx _ _ ih=>exact .idx ih
 | un h _ ih=>exact .un h ih
 | bin h _ _ ih1 ih2=>exact .bin h ih1 ih2
def L7(s:List UInt8):List Kt->Bool
 | t::_=>(t.1==3||t.1==4)&&t.2==s
 | []=>false
def Wk(lvl:Nat):List Kt->Int
 | t::_=>if t.1=4 then(if(Gl t.2).2=(lvl:Int) then(Gl t.2).1 else 0) else 0
 | []=>0
def Ta(s:List UInt8)(ts:List Tk):As s ts=L7 s (ts.map Tk.kt):=by cases ts<;>rfl
def Ats(lvl:Nat)(ts:List Tk):H8 lvl ts=Wk lvl (ts.map Tk.kt):=by cases ts<;>rfl
def A9f:((List.range 13).all fun i=>Gl (Bz ((i:Int)+6))==((i:Int)+6,Be ((i:Int)+6))&&(1<=Be ((i:Int)+6))&&(Be ((i:Int)+6)<=5)&&(Bz ((i:Int)+6) != [91]))=true:=by decide
def Abg{op:Int}(h:6<=op/\op<=18):Gl (Bz op)=(op,Be op)/\1<=Be op/\Be op<=5/\Bz op≠[91]:=by
 obtain⟨i,hi,rfl⟩:∃ i:Nat,i<13/\op=(i:Int)+6:=⟨(op - 6).toNat,by omega,by omega⟩;have:=Bu.1 A9f i (Eg.2 hi);simp only[Ai,beq_iff_eq,decide_eq_true_eq,bne_iff_ne]at this;exact⟨this.1.1.1,this.1.1.2,this.1.2,this.2⟩
def Tt(lvl:Nat)(r:List Kt):Prop:=(∀ l:Nat,lvl<=l->Wk l r=0)/\L7 [91] r=false
def Awn{lvl:Nat}{r:List Kt}(h:Tt lvl r):Tt (lvl+1) r:=⟨fun l hl=>h.1 l AA,h.2⟩
def Je(x:Xp)(lvl:Nat):Prop:=∀ (n:Nat) (ts:List Tk) (r:List Kt),ts.map Tk.kt=Jb (x.op,x.toks) lvl++r->Tt lvl r->8*ts.length+7<=n+lvl->∃ y qa,pe n lvl ts=some (y,qa)/\qa.map Tk.kt=r/\H3 x y=true
def Wl(x:Xp)(lvl:Nat):Prop:=∀ (n:Nat) (ts:List Tk) (r:List Kt),ts.map Tk.kt=Jb (x.op,x.toks) lvl++r->Tt (lvl+1) r->8*ts.length+7<=n+lvl->∃ y qa m,pe n lvl ts=lp m lvl y qa/\qa.map Tk.kt=r/\H3 x y=true/\8*qa.length<=m+lvl+1/\1<=m
def Att{x:Xp}{lvl:Nat}(h:Wl x lvl):Je x lvl:=by
 intro n ts r hm hs hn;obtain⟨y,qa,m,h1,h2,h3,h4,h5⟩:=h n ts r hm (Awn hs) hn;refine⟨y,qa,?_,h2,h3⟩;obtain⟨m,rfl⟩:∃ k,m=k+1:=⟨m - 1,by omega⟩;rw[h1,lp,if_pos (by rw[Ats,h2];exact hs.1 lvl (Aj _))]
def Aln{ts:List Tk}{a b:List Kt}(h:ts.map Tk.kt=a++b):ts.length=a.length+b.length:=by
 have:=congrArg List.length h;simpa using this
def Akl{x:Xp}{lvl:Nat}(hl:lvl<=5)(qK:Be x.op≠(lvl:Int))(h:Je x (lvl+1)):Wl x lvl:=by
 intro n ts r hm hs hn
 have e:Jb (x.op,x.toks) (lvl:Int)=Jb (x.op,x.toks) ((lvl+1:Nat):Int):=by
  unfold Jb;simp only;by_cases h1:Be x.op<(lvl:Int)
  .rw[if_pos h1,if_pos AA]
  .rw[if_neg h1,if_neg AA]
 rw[e]at hm;obtain⟨n,rfl⟩:∃ k,n=k+1:=⟨n - 1,by omega⟩;obtain⟨y,qa,h1,h2,h3⟩:=h n ts r hm hs AA;refine⟨y,qa,n,?_,h2,h3,?_,by omega⟩
 .rw[pe,if_neg AA,h1]
 .have:=Aln hm;have qq:=congrArg List.length h2;simp only[Ar]at qq;omega
def Awo{op:Int}(h:6<=op/\op<=18){lvl:Nat}(hl:Be op<lvl)(r:List Kt):Tt lvl ((4,Bz op)::r):=by
 obtain⟨h1,-,-,h2⟩:=Abg h;refine⟨fun l qI=>?_,?_⟩
 .simp only[Wk,if_true,h1];rw[if_neg AA]
 .unfold L7;simp[h2]
def Rg{x:Xp}{lvl:Int}(h:lvl<=Be x.op):Jb (x.op,x.toks) lvl=x.toks:=by
 unfold Jb;rw[if_neg AP]
def Akm{op:Int}{z:Bool}{t:Nat}{a b:Xp}(h:6<=op/\op<=18):Xp.toks ⟨op,0,[],z,t,[a,b]⟩=Jb (a.op,a.toks) (Gi op)++(4,Bz op)::Jb (b.op,b.toks) (Be op+1):=by
 simp only[Xp.toks,Xp.tokss,Qs];rw[if_neg AA,if_neg AA]
def Atu{op:Int}{z:Bool}{t:Nat}{a b y1 y2:Xp}(h1:H3 a y1=true)(h2:H3 b y2=true):H3 ⟨op,0,[],z,t,[a,b]⟩ (J3 op y1 y2)=true:=by
 simp[H3,Jn,J3,h1,h2]
def Awp{op:Int}(h:6<=op/\op<=18){ts:List Tk}{r:List Kt}(hm:ts.map Tk.kt=(4,Bz op)::r){lvl:Nat}(hl:Be op=lvl):∃ t qa,ts=t::qa/\qa.map Tk.kt=r/\H8 lvl ts=op/\op≠0:=by
 cases ts with
 | nil=>cases hm
 | cons t qa=>
  rw[Aw]at hm;injection hm with h1 h2;refine⟨t,qa,rfl,h2,?_,by omega⟩;obtain⟨e,-⟩:=Abg h;rw[Ats,Aw,h1];simp only[Wk,if_true,e,hl]
def Bkf{op:Int}{z:Bool}{t:Nat}{a b:Xp}(h:6<=op/\op<=18){lvl:Nat}(hl:Be op=lvl)(h3:lvl≠3)(ha:Wl a lvl)(hb:Je b (lvl+1)):Wl ⟨op,0,[],z,t,[a,b]⟩ lvl:=by
 intro n ts r hm hs hn;obtain⟨-,l1,l2,-⟩:=Abg h;rw[Rg AP,Akm h,Bt,Bq]at hm
 have qt:Gi op=(lvl:Int):=by
  unfold Gi;rw[if_neg AA,hl]
 rw[qt]at hm;obtain⟨y1,qd,m,p1,p2,p3,p4,p5⟩:=ha n ts _ hm (Awo h AA _) hn;obtain⟨t1,qj,rfl,q1,q2,q3⟩:=Awp h p2 hl;obtain⟨m,rfl⟩:∃ k,m=k+1:=⟨m - 1,by omega⟩;rw[An]at p4;rw[hl,show((lvl:Int)+1)=((lvl+1:Nat):Int) by omega]at q1;obtain⟨y2,qc,s1,s2,s3⟩:=hb m qj r q1 hs AA;refine⟨J3 op y1 y2,qc,m,?_,s2,Atu p3 s3,?_,by omega⟩
 .rw[p1,lp,if_neg (by rw[q2];exact q3),Ow,s1];simp only;rw[if_neg h3,q2]
 .have:=Aln q1;have qq:=congrArg List.length s2;simp only[Ar]at qq;omega
def Bkg{op:Int}{z:Bool}{t:Nat}{a b:Xp}(h:6<=op/\op<=18)(hl:Be op=((3:Nat):Int))(ha:Je a 4)(hb:Je b 4):Je ⟨op,0,[],z,t,[a,b]⟩ 3:=by
 intro n ts r hm hs hn;obtain⟨-,l1,l2,-⟩:=Abg h;rw[Rg AP,Akm h,Bt,Bq]at hm
 have qt:Gi op=((4:Nat):Int):=by
  unfold Gi;rw[if_pos AA];rfl
 rw[qt]at hm;obtain⟨n,rfl⟩:∃ k,n=k+1:=⟨n - 1,by omega⟩;obtain⟨y1,qd,p1,p2,p3⟩:=ha n ts _ hm (Awo h AA _) AA;have qu:=Aln hm;obtain⟨t1,qj,rfl,q1,q2,q3⟩:=Awp h p2 hl;have qo:=congrArg List.length p2;simp only[Ar,An]at qu qo;obtain⟨n,rfl⟩:∃ k,n=k+1:=⟨n - 1,by omega⟩;rw[hl,show(((3:Nat):Int)+1)=((4:Nat):Int) by omega]at q1;obtain⟨y2,qc,s1,s2,s3⟩:=hb n qj r q1 (Awn hs) AA;refine⟨J3 op y1 y2,qc,?_,s2,Atu p3 s3⟩;rw[pe,if_neg AA,p1];simp only;rw[lp,if_neg (by rw[q2];exact q3),Ow,s1];simp only[if_true];rw[q2]
def Abh{x:Xp}(hx:∀ (n:Nat) (ts:List Tk) (r:List Kt),ts.map Tk.kt=Jb (x.op,x.toks) 6++r->Tt 6 r->8*ts.length<=n->∃ y qa,pu n ts=some (y,qa)/\qa.map Tk.kt=r/\H3 x y=true):Je x 6:=by
 intro n ts r hm hs hn;obtain⟨n,rfl⟩:∃ k,n=k+1:=⟨n - 1,by omega⟩;obtain⟨y,qa,h1,h2⟩:=hx n ts r hm hs AA;exact⟨y,qa,by rw[pe,if_pos AA,h1],h2⟩
def Eb{ts:List Tk}{k:Int}{w:List UInt8}{r:List Kt}(h:ts.map Tk.kt=(k,w)::r):∃ t qa,ts=t::qa/\t.kind=k/\t.text=w/\qa.map Tk.kt=r:=by
 cases ts with
 | nil=>cases h
 | cons t qa=>
  rw[Aw]at h;injection h with h1 h2;unfold Tk.kt at h1;injection h1 with h3 h4;exact⟨t,qa,rfl,h3,h4,h2⟩
def Ag8{n:Nat}{ts:List Tk}(h1:As [45] ts=false)(h2:As [33] ts=false):pu (n+1) ts=pp n ts:=by
 rw[pu,h1,h2];rfl
def V6{s:List UInt8}{t:Tk}{ts:List Tk}(h:t.kind=1\/t.kind=2):As s (t::ts)=false:=by
 simp only[As]
 rcases h with h | h<;>rw[h]<;>rfl
def Pj{s w:List UInt8}{t:Tk}{ts:List Tk}(h:t.kind=4)(hw:t.text=w):As s (t::ts)=(w==s):=by
 simp only[As];rw[h,hw];rfl
def Mk:Prop:=∀ n:Int,0<=n/\n<=9223372036854775807->J1 (B3 n)=n
def Afd{x:Xp}{k:Nat}(hk:k<=6)(h:Je x k):∀ (d:Nat),d<=k->(∀ l:Nat,k - d<=l->l<k->Be x.op≠(l:Int))->Je x (k - d)
 | 0,_,_=>h
 | d+1,hd,hl=>by
  have ih:=Afd hk h d AA fun l h1 h2=>hl l AA h2
  have e:k - d=k - (d+1)+1:=by omega
  rw[e]at ih;exact Att (Akl AA (hl _ (Aj _) AA) ih)
def Bkh{x:Xp}(hx:Be x.op<6)(h:Je x 1)(h1:1<=Be x.op):Je x 6:=by
 refine Abh fun n ts r hm hs hn=>?_
 unfold Jb at hm;rw[if_pos (by simpa using hx)]at hm;simp only[Bq,Bt,Ba]at hm;obtain⟨t,qa,rfl,k1,k2,k3⟩:=Eb hm;rw[An]at hn;obtain⟨n,rfl⟩:∃ k,n=k+2:=⟨n - 2,by omega⟩;rw[Ag8 (by rw[Pj k1 k2];rfl) (by rw[Pj k1 k2];rfl),pp,if_neg AA,if_neg AA,if_pos (by rw[Pj k1 k2];rfl)]
 obtain⟨y,qd,p1,p2,p3⟩:=h n qa _ (by rw[Rg (by simpa using h1)];exact k3) ⟨fun l _=>by
  simp only[Wk,if_true];rw[show Gl [41]=(0,0) from rfl]
  split<;>rfl,rfl⟩ AA
 obtain⟨t2,qc,rfl,e1,e2,e3⟩:=Eb p2;refine⟨y,qc,?_,e3,p3⟩;rw[p1];simp only;rw[if_pos (by rw[Pj e1 e2];rfl)];rfl
def Bki(qb:Mk){x:Xp}(h:ShE x):∀ lvl:Nat,1<=lvl->lvl<=6->Je x lvl/\(lvl≠3->lvl<=5->Wl x lvl):=by
 have qf:∀ {x:Xp},(6<=Be x.op)->Je x 6->∀ lvl:Nat,1<=lvl->lvl<=6->Je x lvl/\(lvl≠3->lvl<=5->Wl x lvl):=by
  intro x h6 h lvl l1 l2
  have hr:∀ l:Nat,1<=l->l<=6->Je x l:=fun l h1 h2=>by
   have:=Afd (Aj 6) h (6 - l) AA fun k _ hk=>by omega
   rwa [show 6 - (6 - l)=l by omega]at this
  exact⟨hr lvl l1 l2,fun _ h5=>Akl h5 AA (hr (lvl+1) AA AA)⟩
 induction h with
 | @num n z t hn=>
  refine qf AV (Abh fun m ts r hm hs hl=>?_);rw[Rg AV]at hm;obtain⟨t1,qa,rfl,k1,k2,k3⟩:=Eb (r:=r) (k:=2) (w:=B3 n) (by simpa[Xp.toks,Qs] using hm);rw[An]at hl;obtain⟨m,rfl⟩:∃ k,m=k+2:=⟨m - 2,by omega⟩;rw[Ag8 (V6 (.inr k1)) (V6 (.inr k1)),pp,if_pos k1];exact⟨_,_,rfl,k3,by rw[k2,qb n hn];simp[H3,Jn]⟩
 | @name nm z t hn=>
  refine qf AV (Abh fun m ts r hm hs hl=>?_);rw[Rg AV]at hm;obtain⟨t1,qa,rfl,k1,k2,k3⟩:=Eb (r:=r) (k:=1) (w:=nm) (by simpa[Xp.toks,Qs] using hm);rw[An]at hl;obtain⟨m,rfl⟩:∃ k,m=k+2:=⟨m - 2,by omega⟩;have qF:As [91] qa=false:=by rw[Ta,k3];exact hs.2
  rw[Ag8 (V6 (.inl k1)) (V6 (.inl k1)),pp,if_neg AA,if_pos k1,qF];exact⟨_,_,rfl,k3,by rw[k2];simp[H3,Jn]⟩
 | @idx nm z t a hn ha ih=>
  refine qf AV (Abh fun m ts r hm hs hl=>?_);rw[Rg AV]at hm;obtain⟨t1,qd,rfl,k1,k2,k3⟩:=Eb (r:=(4,[91])::(a.toks++(4,[93])::r)) (k:=1) (w:=nm) (by simpa[Xp.toks,Xp.tokss,Qs] using hm);obtain⟨t2,qc,rfl,k4,k5,k6⟩:=Eb k3;simp only[An]at hl;obtain⟨m,rfl⟩:∃ k,m=k+2:=⟨m - 2,by omega⟩
  have qi:1<=Be a.op:=by
   exact(Afc (Ayr ha)).2.1
  obtain⟨y,qk,p1,p2,p3⟩:=(ih 1 AA AA).1 m qc ((4,[93])::r) (by rw[Rg (by simpa using qi)];exact k6) ⟨fun l _=>by
   simp only[Wk,if_true];rw[show Gl [93]=(0,0) from rfl]
   split<;>rfl,rfl⟩ AA
  obtain⟨t4,qn,rfl,e1,e2,e3⟩:=Eb p2;rw[Ag8 (V6 (.inl k1)) (V6 (.inl k1)),pp,if_neg AA,if_pos k1,if_pos (by rw[Pj k4 k5];rfl),Ow,p1];simp only;rw[if_pos (by rw[Pj e1 e2];rfl)];exact⟨_,_,rfl,e3,by rw[k2];simp[H3,Jn,p3]⟩
 | @un op z t a qi ha ih=>
  have qw:Be op=6:=by rcases qi with rfl | rfl<;>rfl
  refine qf (by simp[qw]) (Abh fun m ts r hm hs hl=>?_);rw[Rg (by simp[qw])]at hm
  have e1:Xp.toks ⟨op,0,[],z,t,[a]⟩=(4,Bz op)::Jb (a.op,a.toks) 6:=by
   simp only[Xp.toks,Xp.tokss,Qs];rw[if_neg AA,if_neg AA,if_neg AA]
  rw[e1,Bq]at hm;obtain⟨t1,qd,rfl,k1,k2,k3⟩:=Eb hm;simp only[An]at hl;obtain⟨m,rfl⟩:∃ k,m=k+1:=⟨m - 1,by omega⟩;obtain⟨y,qc,p1,p2,p3⟩:=(ih 6 AA AA).1 (m+1) qd r k3 hs AA;rw[pe,if_pos AA]at p1;rcases qi with rfl | rfl
  .rw[pu,if_pos (by rw[Pj k1 k2];rfl),Ow,p1];exact⟨_,_,rfl,p2,by simp[H3,Jn,Pu,p3]⟩
  .rw[pu,if_neg (by rw[Pj k1 k2];decide),if_pos (by rw[Pj k1 k2];rfl),Ow,p1];exact⟨_,_,rfl,p2,by simp[H3,Jn,Pu,p3]⟩
 | @bin op z t a b qi ha hb iha ihb=>
  obtain⟨-,l1,l2,-⟩:=Abg qi;obtain⟨L,hL⟩:∃ L:Nat,Be op=L:=⟨(Be op).toNat,by omega⟩
  have own:Je ⟨op,0,[],z,t,[a,b]⟩ L/\(L≠3->Wl ⟨op,0,[],z,t,[a,b]⟩ L):=by
   by_cases h3:L=3
   .subst h3;exact⟨Bkg qi hL (iha 4 AA AA).1 (ihb 4 AA AA).1,fun h=>absurd rfl h⟩
   .have:=Bkf (z:=z) (t:=t) qi hL h3 ((iha L AA AA).2 h3 AA) (ihb (L+1) AA AA).1;exact⟨Att this,fun _=>this⟩
  have low:∀ l:Nat,1<=l->l<=L->Je ⟨op,0,[],z,t,[a,b]⟩ l:=fun l h1 h2=>by
   have:=Afd AA own.1 (L - l) AA fun k h3 h4=>by simp only;omega
   rwa [show L - (L - l)=l by omega]at this
  have qG:=Bkh AP (low 1 AA AA) AP
  have hr:∀ l:Nat,1<=l->l<=6->Je ⟨op,0,[],z,t,[a,b]⟩ l:=fun l h1 h2=>by
   by_cases hl:l<=L
   .exact low l h1 hl
   .have:=Afd (Aj 6) qG (6 - l) AA fun k h3 h4=>by simp only;omega
    rwa [show 6 - (6 - l)=l by omega]at this
  intro lvl q1 q2;refine⟨hr lvl q1 q2,fun h3 h5=>?_⟩;by_cases hl:lvl=L
  .subst hl;exact own.2 h3
  .exact Akl h5 AP (hr (lvl+1) AA AA)
/-! what a shaped program has -/
def X5(x:Xp):Prop:=x.op=0/\x.n=0/\x.nm=[]/\x.l=[]
def F8(op:Int):Bool:=op==2||(op==3||(op==7||op==8))
def Ek(op:Int):Bool:=op==1||(op==2||(op==3||op==14))
inductive ShS:Sp->Prop
 | mk {s:Sp}:1<=s.op/\s.op<=15->(F8 s.op=true->s.nm=[])->(F8 s.op=false->Bm s.nm=true)->(s.op=15->Bm s.arg=true)->(s.op≠15->s.arg=[]) ->
   s.idx.length<=1->(s.op≠1->s.idx=[])->(∀ x∈s.idx,ShE x)->(Ek s.op=true->ShE s.ex)->(Ek s.op=false->X5 s.ex) ->
   (Bv s.op=false->s.body=[])->(s.op≠2->s.els=[])->(∀ x∈s.body,ShS x)->(∀ x∈s.els,ShS x)->ShS s
structure ShD (d:Dp):Prop where
 kind:1<=d.kind/\d.kind<=6
 nm:Bm d.nm=true
 size:0<=d.size/\d.size<=9223372036854775807/\(d.kind≠1->d.size=0)
 init : -9223372036854775808<d.init/\d.init<=9223372036854775807/\(d.kind≠1->d.kind≠2->d.init=0)
 on:(d.kind=5->Bm d.on=true)/\(d.kind≠5->d.on=[])
structure ShG (p:Gp):Prop where
 decls:∀ d∈p.decls,ShD d
 nms:∀ t∈p.thrs,Bm t.nm=true
 locs:∀ t∈p.thrs,∀ s∈t.locals,Bm s=true
 thrs:∀ t∈p.thrs,∀ s∈t.body,ShS s
 some:p.thrs≠[]
def Amm{s:Sp}(h:ShS s):CnS s:=by
 induction h with
 | mk h1 h2 h3 h4 h5 h6 h7 h8 h9 h10 h11 h12 h13 h14 ih1 ih2=>
  refine .mk h1 h6 h7 (fun x hx=>Ays (h8 x hx)) (fun hv=>Ays (h9 ?_)) h11 h12 ih1 ih2
  rcases hv with h | h | h | h<;>rw[h]<;>rfl
def Amn{p:Gp}(h:ShG p):CnG p:=⟨fun d hd=>let h:=h.decls d hd;⟨h.kind,h.size,by have:=h.init;omega,by have:=h.init;omega,h.init.2.2⟩,fun t ht s hs=>Amm (h.thrs t ht s hs)⟩
/-! equal apart from lines -/
mutual
def Tu:Sp->Sp->Bool
 | ⟨op,_,nm,arg,_,_,idx,ex,_,_,body,_,_,els⟩,⟨op',_,nm',arg',_,_,idx',ex',_,_,body',_,_,els'⟩=>op==op'&&(nm==nm'&&(arg==arg'&&(H3 ex ex'&&(Jn idx idx'&&(Mb body body'&&Mb els els')))))
def Mb:List Sp->List Sp->Bool
 | [],[]=>true
 | x::l,y::l'=>Tu x y&&Mb l l'
 | [],_::_=>false
 | _::_,[]=>false
end
def Ab0(a b:Dp):Bool:=a.kind==b.kind&&(a.nm==b.nm&&(a.size==b.size&&(a.init==b.init&&a.on==b.on)))
def V7(a b:Tp):Bool:=a.nm==b.nm&&(a.locals==b.locals&&Mb a.body b.body)
def V8(a b:Gp):Bool:=(a.decls.length==b.decls.length&&(a.decls.zip b.decls).all fun p=>Ab0 p.1 p.2)&&(a.thrs.length==b.thrs.length&&(a.thrs.zip b.thrs).all fun p=>V7 p.1 p.2)
/-! tokens -/
def Y1(l:List Xp):List Kt:=match l with
 | a::_=>(4,[91])::(a.toks++[(4,[93])])
 | []=>[]
def Ym(s:Sp):List Kt:=
 if s.op=1 then(1,s.nm)::(Y1 s.idx++(4,[61])::s.ex.toks)
 else if s.op=2\/s.op=3 then(3,Co s.op)::s.ex.toks
 else if s.op=7\/s.op=8 then [(3,Co s.op)]
 else if s.op=14 then(3,Co s.op)::(1,s.nm)::s.ex.toks
 else if s.op=15 then [(3,Co s.op),(1,s.nm),(1,s.arg)]
 else [(3,Co s.op),(1,s.nm)]
def Tv:List UInt8:=[101,108,115,101]
mutual
def Sp.toks:Sp->List Kt
 | ⟨op,line,nm,arg,iz,it,idx,ex,bz,bt,body,ez,et,els⟩=>
  Ym ⟨op,line,nm,arg,iz,it,idx,ex,bz,bt,body,ez,et,els⟩ ++
   if Bv op then(4,[123])::(Sp.tokss body++(4,[125])::(if els.isEmpty then [] else(3,Tv)::(4,[123])::(Sp.tokss els++[(4,[125])]))) else [(4,[59])]
def Sp.tokss:List Sp->List Kt
 | []=>[]
 | x::l=>x.toks++Sp.tokss l
end
def A5z:((List.range 14).all fun i=>D7 (Co ((i:Int)+2))==(i:Int)+2)=true:=by decide
def Bd7{op:Int}(h:2<=op/\op<=15):D7 (Co op)=op:=by
 obtain⟨i,hi,rfl⟩:∃ i:Nat,i<14/\op=(i:Int)+2:=⟨(op - 2).toNat,by omega,by omega⟩;simpa using Bu.1 A5z i (Eg.2 hi)
def Afe(qb:Mk){x:Xp}(h:ShE x){n:Nat}{ts:List Tk}{r:List Kt}(hm:ts.map Tk.kt=x.toks++r)(hs:Tt 1 r)(hn:8*ts.length+7<=n+1):∃ y qa,pe n 1 ts=some (y,qa)/\qa.map Tk.kt=r/\H3 x y=true:=by
 refine(Bki qb h 1 AA AA).1 n ts r ?_ hs hn;have:=(Afc (Ayr h)).2.1;rw[Rg (by simpa using this)];exact hm
def Ad8{w:List UInt8}(h1:Gl w=(0,0))(h2:(w==[91])=false)(r:List Kt):Tt 1 ((4,w)::r):=⟨fun l _=>by
 simp only[Wk,if_true,h1]
 split<;>rfl,by simp only[L7];simp at h2 ⊢;exact h2⟩
def P6{k:Int}{w:List UInt8}{t:Tk}{ts:List Tk}(hk:k=3\/k=4)(h:t.kind=k)(hw:t.text=w):As w (t::ts)=true:=by
 simp only[As];rw[h,hw]
 rcases hk with rfl | rfl<;>simp
def Nd{w:List UInt8}{ts:List Tk}{r:List Kt}(h:ts.map Tk.kt=(4,w)::r):∃ qa,Dv w ts=some qa/\qa.map Tk.kt=r:=by
 obtain⟨t,qa,rfl,h1,h2,h3⟩:=Eb h;exact⟨qa,by simp only[Dv];rw[P6 (.inr rfl) h1 h2];rfl,h3⟩
def O6{w:List UInt8}{ts:List Tk}{r:List Kt}(h:ts.map Tk.kt=(1,w)::r):∃ qa,C6 ts=some (w,qa)/\qa.map Tk.kt=r:=by
 obtain⟨t,qa,rfl,h1,h2,h3⟩:=Eb h;exact⟨qa,by simp only[C6];rw[if_pos h1,h2],h3⟩
def H5{ts:List Tk}{r:List Kt}(h:ts.map Tk.kt=r):ts.length=r.length:=by
 have:=congrArg List.length h;simpa using this
def Bkj(qb:Mk){s:Sp}(h1:s.idx.length<=1)(h2:∀ x∈s.idx,ShE x)(h3:ShE s.ex){n:Nat}{line:Int}{ts:List Tk}{r:List Kt}(hm:ts.map Tk.kt=(1,s.nm)::(Y1 s.idx++(4,[61])::(s.ex.toks++(4,[59])::r)))(hn:8*ts.length+7<=n+1):
  ∃ s' qa,Sb n line ts=some (s',qa)/\qa.map Tk.kt=r/\s'.op=1/\s'.nm=s.nm/\s'.arg=[]/\Jn s.idx s'.idx=true/\H3 s.ex s'.ex=true/\s'.body=[]/\s'.els=[]:=by
 have hl:=H5 hm;obtain⟨qd,a1,a2⟩:=O6 hm;have ql:=H5 a2;simp only[An,Aq]at hl ql
 have qs:∃ ix qc,Ach n qd=some (ix,qc)/\qc.map Tk.kt=(4,[61])::(s.ex.toks++(4,[59])::r)/\Jn s.idx ix=true:=by
  unfold Ach
  match hi:s.idx,h1 with
  | [],_=>
   rw[hi]at a2;obtain⟨t,qa,rfl,k1,k2,k3⟩:=Eb a2;rw[if_neg (by rw[Pj k1 k2];decide)];exact⟨_,_,rfl,a2,rfl⟩
  | [a],_=>
   rw[hi]at a2;simp only[Y1,Bq,Bt,Ba]at a2;obtain⟨t,qa,rfl,k1,k2,k3⟩:=Eb a2;have qh:=H5 k3;simp only[An,Aq]at qh ql;obtain⟨y,qk,p1,p2,p3⟩:=Afe qb (h2 a (by rw[hi];simp)) k3 (Ad8 rfl rfl _) (n:=n) (by rw[hi]at hl ql;simp only[Y1,An,Aq]at hl ql;omega);obtain⟨qn,q1,q2⟩:=Nd p2;rw[if_pos (by rw[Pj k1 k2];rfl),Ow,p1];simp only;rw[q1];exact⟨_,_,rfl,q2,by simp[Jn,p3]⟩
  | _::_::_,h=>simp at h
 obtain⟨ix,qc,b1,b2,b3⟩:=qs;obtain⟨qk,c1,c2⟩:=Nd b2;have qm:=H5 c2;simp only[An,Aq]at qm;obtain⟨y,qn,d1,d2,d3⟩:=Afe qb h3 c2 (Ad8 rfl rfl _) (n:=n) AA;obtain⟨qx,e1,e2⟩:=Nd d2;refine⟨{ Am 1 line with nm:=s.nm,it:=ix.length,idx:=ix,ex:=y },qx,?_,e2,rfl,rfl,rfl,b3,d3,rfl,rfl⟩;unfold Sb;rw[a1];simp only;rw[b1];simp only;rw[c1];simp only;rw[d1];simp only;rw[e1];rfl
def S0{s s':Sp}(h1:s.op=s'.op)(h2:s.nm=s'.nm)(h3:s.arg=s'.arg)(h4:H3 s.ex s'.ex=true)(h5:Jn s.idx s'.idx=true)(h6:Mb s.body s'.body=true)(h7:Mb s.els s'.els=true):Tu s s'=true:=by
 cases s;cases s';simp only at h1 h2 h3 h4 h5 h6 h7;subst h1 h2 h3;simp[Tu,h4,h5,h6,h7]
def Ady{x:Xp}(h:X5 x):H3 x Xp.zero=true:=by
 obtain⟨h1,h2,h3,h4⟩:=h;cases x;simp only at h1 h2 h3 h4;subst h1 h2 h3 h4;rfl
def RTs(s:Sp):Prop:=∀ (n:Nat) (ts:List Tk) (r:List Kt),ts.map Tk.kt=s.toks++r->L7 Tv r=false->10*ts.length+10<=n->∃ s' qa,F4 n ts=some (s',qa)/\qa.map Tk.kt=r/\Tu s s'=true
def Art{s:Sp}(h:ShS s):∃ k w l,s.toks=(k,w)::l/\((k=1/\s.op=1)\/(k=3/\w=Co s.op/\2<=s.op/\s.op<=15)):=by
 obtain⟨op,line,nm,arg,iz,it,idx,ex,bz,bt,body,ez,et,els⟩:=s
 cases h with
 | mk h1=>
  simp only at h1;simp only[Sp.toks,Ym];by_cases a:op=1
  .rw[if_pos a];exact⟨_,_,_,rfl,.inl ⟨rfl,a⟩⟩
  rw[if_neg a];have hr:2<=op/\op<=15:=by omega
  by_cases b:op=2\/op=3
  .rw[if_pos b];exact⟨_,_,_,rfl,.inr ⟨rfl,rfl,hr⟩⟩
  rw[if_neg b];by_cases c:op=7\/op=8
  .rw[if_pos c];exact⟨_,_,_,rfl,.inr ⟨rfl,rfl,hr⟩⟩
  rw[if_neg c];by_cases d:op=14
  .rw[if_pos d];exact⟨_,_,_,rfl,.inr ⟨rfl,rfl,hr⟩⟩
  rw[if_neg d];by_cases e:op=15
  .rw[if_pos e];exact⟨_,_,_,rfl,.inr ⟨rfl,rfl,hr⟩⟩
  rw[if_neg e];exact⟨_,_,_,rfl,.inr ⟨rfl,rfl,hr⟩⟩
def A35:((List.range 14).all fun i=>Co ((i:Int)+2) != Tv)=true:=by decide
def Aqi{s:Sp}(h:ShS s)(r:List Kt):L7 Tv (s.toks++r)=false/\L7 [125] (s.toks++r)=false:=by
 obtain⟨k,w,l,e,hk⟩:=Art h;rw[e,Bq];rcases hk with⟨rfl,-⟩ | ⟨rfl,rfl,h2⟩
 .exact⟨rfl,rfl⟩
 .obtain⟨i,hi,he⟩:∃ i:Nat,i<14/\s.op=(i:Int)+2:=⟨(s.op - 2).toNat,by omega,by omega⟩;have h1:=Bu.1 A35 i (Eg.2 hi);have h2:((List.range 14).all fun i=>Co ((i:Int)+2) != [125])=true:=by decide
  have h2:=Bu.1 h2 i (Eg.2 hi);rw[<-he]at h1 h2;simp only[bne_iff_ne,ne_eq]at h1 h2;simp only[L7];simp[h1,h2]
def Awq:∀ {l:List Sp},(∀ s∈l,ShS s)->(∀ s∈l,RTs s)->∀ {n:Nat} {ts:List Tk} {r:List Kt},ts.map Tk.kt=Sp.tokss l++(4,[125])::r->10*ts.length+11<=n->∃ l' qa,Ld n ts=some (l',qa)/\qa.map Tk.kt=r/\Mb l l'=true
 | [],_,_,n,ts,r,hm,hn=>by
  obtain⟨n,rfl⟩:∃ k,n=k+1:=⟨n - 1,by omega⟩;simp only[Sp.tokss,Ba]at hm;obtain⟨t,qa,rfl,k1,k2,k3⟩:=Eb hm;exact⟨[],qa,by rw[Ld,if_pos (P6 (.inr rfl) k1 k2)];rfl,k3,rfl⟩
 | s::l,h1,h2,n,ts,r,hm,hn=>by
  obtain⟨n,rfl⟩:∃ k,n=k+1:=⟨n - 1,by omega⟩;simp only[Sp.tokss,Bt]at hm;have hs:=h1 s B4
  have qr:L7 Tv (Sp.tokss l++(4,[125])::r)=false:=by
   cases l with
   | nil=>rfl
   | cons s2 l=>
    simp only[Sp.tokss,Bt];exact(Aqi (h1 s2 AE) _).1
  obtain⟨s',qd,p1,p2,p3⟩:=h2 s B4 n ts _ hm qr AA;have hl:=H5 hm;have ql:=H5 p2;obtain⟨k,w,q,e,-⟩:=Art hs;rw[e]at hl;simp only[An,Aq]at hl ql;obtain⟨l',qc,q1,q2,q3⟩:=Awq (n:=n) (l:=l) (fun s hs=>h1 s (Cb _ hs)) (fun s hs=>h2 s (Cb _ hs)) p2 AA;refine⟨s'::l',qc,?_,q2,by simp[Mb,p3,q3]⟩;rw[Ld,if_neg (by rw[Ta,hm,(Aqi hs _).2];simp),p1];simp only;rw[q1]
def Z9{l:List Sp}(h1:∀ s∈l,ShS s)(h2:∀ s∈l,RTs s){n:Nat}{ts:List Tk}{r:List Kt}(hm:ts.map Tk.kt=(4,[123])::(Sp.tokss l++(4,[125])::r))(hn:10*ts.length+2<=n):∃ l' qa,Fb n ts=some (l',qa)/\qa.map Tk.kt=r/\Mb l l'=true:=by
 obtain⟨t,qa,rfl,k1,k2,k3⟩:=Eb hm;rw[An]at hn;obtain⟨n,rfl⟩:∃ k,n=k+1:=⟨n - 1,by omega⟩;obtain⟨l',qd,p1,p2,p3⟩:=Awq (n:=n) h1 h2 k3 AA;exact⟨l',qd,by rw[Fb,if_pos (P6 (.inr rfl) k1 k2)];exact p1,p2,p3⟩
def Bd8(qb:Mk){s:Sp}(h:ShS s):RTs s:=by
 induction h with
 | @mk s h1 h2 h3 h4 h5 h6 h7 h8 h9 h10 h11 h12 h13 h14 ih1 ih2=>
  intro n ts r hm qr hn;obtain⟨op,line,nm,arg,iz,it,idx,ex,bz,bt,body,ez,et,els⟩:=s;simp only at h1 h2 h3 h4 h5 h6 h7 h8 h9 h10 h11 h12 h13 h14 ih1 ih2;simp only[Sp.toks,Ym]at hm;obtain⟨n,rfl⟩:∃ k,n=k+1:=⟨n - 1,by omega⟩;by_cases a:op=1
  .subst a;rw[if_pos rfl,if_neg AG]at hm;simp only[Bq,Bt,Ba]at hm;obtain⟨t,qa,rfl,k1,k2,k3⟩:=Eb hm;obtain⟨s',qd,p1,p2,p3,p4,p5,p6,p7,p8,p9⟩:=Bkj qb (s:=⟨1,line,nm,arg,iz,it,idx,ex,bz,bt,body,ez,et,els⟩) h6 h8 (h9 rfl) (line:=t.line) hm (n:=n) AA;refine⟨s',qd,by rw[F4,if_pos k1];exact p1,p2,S0 p3.symm p4.symm ?_ p7 p6 ?_ ?_⟩
   .rw[p5];exact h5 AG
   .rw[p8];simp only;rw[h11 rfl];rfl
   .rw[p9];simp only;rw[h12 AG];rfl
  have hr:2<=op/\op<=15:=by omega
  have qC:=h7 a;subst qC;have hw:=Bd7 hr;rw[if_neg a]at hm;by_cases b:op=2\/op=3
  .have hv:Ek op=true:=by rcases b with rfl | rfl<;>rfl
   have hb:Bv op=true:=by rcases b with rfl | rfl<;>rfl
   have qp:nm=[]:=h2 (by rcases b with rfl | rfl<;>rfl);rw[if_pos b,if_pos hb]at hm;simp only[Bq,Bt,Ba]at hm;obtain⟨t,qd,rfl,k1,k2,k3⟩:=Eb hm;have hl:=H5 k3;rw[An]at hn;simp only[Aq,An]at hl;obtain⟨y,qc,p1,p2,p3⟩:=Afe qb (h9 hv) k3 (Ad8 rfl rfl _) (n:=n) AA;have qh:=H5 p2;simp only[Aq,An]at qh;obtain⟨bd,qk,q1,q2,q3⟩:=Z9 h13 ih1 p2 (n:=n) AA;have qm:=H5 q2;simp only[Aq]at qm;rw[F4,if_neg AA,if_pos k1,k2,hw,if_neg AA,if_pos b,p1];simp only;rw[q1];simp only;by_cases he:els=[]
   .subst he;simp only[Aim,if_true,Ba]at q2;rw[if_neg (by rw[Ta,q2,show [101,108,115,101]=Tv from rfl,qr];simp)];exact⟨_,_,rfl,q2,S0 rfl (by simp[Am,qp]) (by simpa[Am] using h5 AA) p3 rfl q3 rfl⟩
   .have h2:op=2:=by
     by_cases h:op=2
     .exact h
     .exact absurd (h12 h) he
    have qB:els.isEmpty=false:=by simpa using he
    rw[qB]at q2 qm qh hl;simp only[Hg,if_false,Bq,Bt,Ba,An,Aq]at q2 qm qh hl;obtain⟨t4,qn,rfl,k4,k5,k6⟩:=Eb q2;have qE:=H5 k6;simp only[Aq,An]at qE qm;obtain⟨ed,qx,r1,r2,r3⟩:=Z9 h14 ih2 k6 (n:=n) AA;rw[if_pos ⟨h2,P6 (.inl rfl) k4 k5⟩,Ow,r1];exact⟨_,_,rfl,r2,S0 rfl (by simp[Am,qp]) (by simpa[Am] using h5 AA) p3 rfl q3 r3⟩
  rw[if_neg b]at hm;have qA:els=[]:=h12 AA;subst qA;by_cases c:op=7\/op=8
  .have hb:Bv op=true:=by rcases c with rfl | rfl<;>rfl
   have qp:nm=[]:=h2 (by rcases c with rfl | rfl<;>rfl);have qg:X5 ex:=h10 (by rcases c with rfl | rfl<;>rfl);rw[if_pos c,if_pos hb]at hm;simp only[Bq,Bt,Ba,Aim,if_true]at hm;obtain⟨t,qd,rfl,k1,k2,k3⟩:=Eb hm;rw[An]at hn;obtain⟨bd,qk,q1,q2,q3⟩:=Z9 h13 ih1 k3 (n:=n) AA;rw[F4,if_neg AA,if_pos k1,k2,hw,if_neg AA,if_neg b,if_pos c,q1];exact⟨_,_,rfl,q2,S0 rfl (by simp[Am,qp]) (by simpa[Am] using h5 AA) (Ady qg) rfl q3 rfl⟩
  rw[if_neg c]at hm;have qL:op≠2/\op≠3/\op≠7/\op≠8:=by omega
  by_cases d:op=14
  .subst d;rw[if_pos rfl,if_neg AG]at hm;simp only[Bq,Bt,Ba]at hm;obtain⟨t,qd,rfl,k1,k2,k3⟩:=Eb hm;rw[An]at hn;obtain⟨qc,a1,a2⟩:=O6 k3;have hl:=H5 k3;have qh:=H5 a2;simp only[Aq,An]at hl qh;obtain⟨y,qk,p1,p2,p3⟩:=Afe qb (h9 rfl) a2 (Ad8 rfl rfl _) (n:=n) AA;obtain⟨qn,e1,e2⟩:=Nd p2;rw[F4,if_neg AA,if_pos k1,k2,hw,if_neg AA,if_neg b,if_neg c,a1];simp only;rw[if_neg AA,if_pos trivial,p1];simp only;rw[e1];exact⟨_,_,rfl,e2,S0 rfl rfl (by simpa[Am] using h5 AA) p3 rfl (by simp only;rw[h11 rfl];rfl) rfl⟩
  rw[if_neg d]at hm;by_cases e:op=15
  .subst e;rw[if_pos rfl,if_neg AG]at hm;simp only[Bq,Bt,Ba]at hm;obtain⟨t,qd,rfl,k1,k2,k3⟩:=Eb hm;obtain⟨qc,a1,a2⟩:=O6 k3;obtain⟨qk,b1,b2⟩:=O6 a2;obtain⟨qn,e1,e2⟩:=Nd b2;have qg:X5 ex:=h10 rfl;rw[F4,if_neg AA,if_pos k1,k2,hw,if_neg AA,if_neg b,if_neg c,a1];simp only;rw[if_neg AA,if_neg AA,if_pos trivial,b1];simp only;rw[e1];exact⟨_,_,rfl,e2,S0 rfl rfl rfl (Ady qg) rfl (by simp only;rw[h11 rfl];rfl) rfl⟩
  rw[if_neg e]at hm;have qg:X5 ex:=h10 (by unfold Ek;simp;omega);by_cases f:op=4\/op=5\/op=6
  .have hb:Bv op=true:=by rcases f with rfl | rfl | rfl<;>rfl
   rw[if_pos hb]at hm;simp only[Bq,Bt,Ba,Aim,if_true]at hm;obtain⟨t,qd,rfl,k1,k2,k3⟩:=Eb hm;rw[An]at hn;obtain⟨qc,a1,a2⟩:=O6 k3;have hl:=H5 k3;have qh:=H5 a2;simp only[Aq,An]at hl qh;obtain⟨bd,qk,q1,q2,q3⟩:=Z9 h13 ih1 a2 (n:=n) AA;rw[F4,if_neg AA,if_pos k1,k2,hw,if_neg AA,if_neg b,if_neg c,a1];simp only;rw[if_pos f,q1];exact⟨_,_,rfl,q2,S0 rfl rfl (by simpa[Am] using h5 AA) (Ady qg) rfl q3 rfl⟩
  .have hb:Bv op=false:=by unfold Bv;simp;omega
   rw[if_neg (by rw[hb];simp)]at hm;simp only[Bq,Bt,Ba]at hm;obtain⟨t,qd,rfl,k1,k2,k3⟩:=Eb hm;obtain⟨qc,a1,a2⟩:=O6 k3;obtain⟨qn,e1,e2⟩:=Nd a2;rw[F4,if_neg AA,if_pos k1,k2,hw,if_neg AA,if_neg b,if_neg c,a1];simp only;rw[if_neg f,if_neg d,if_neg e,e1];exact⟨_,_,rfl,e2,S0 rfl rfl (by simpa[Am] using h5 AA) (Ady qg) rfl (by simp only;rw[h11 hb];rfl) rfl⟩
