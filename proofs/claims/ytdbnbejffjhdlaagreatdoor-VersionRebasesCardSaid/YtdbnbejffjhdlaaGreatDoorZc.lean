/- Walks: scene.Entries and scene.Baseline, the sites of their entries being lists of their own. -/
import Derived.Test.YtdbnbejffjhdlaaGreatDoorPh
set_option linter.all false
namespace Go.Proofs.YtdbnbejffjhdlaaGreatDoor.KM
open Go
def Ayo(l:List Ent)(u:V)(s:St):Prop:=∃ L,NG s 1 u L/\L.map (·.2)=l/\Cl s/\Dj L
def A0t(z:Bool)(t:Nat)(l:List Item)(hl:l.length<=9223372036854775807)(qU:∀ x∈l,x.ok):∃ u σ0,Vt TT PT 18 [SL z t (l.map Item.row)] u σ0/\Ayo (F7 l 20) u σ0:=by
 refine Awu (P:=Ayo (F7 l 20)) T18 rfl ?_ (fun v s ⟨L,h,_,hc,_⟩=>⟨hc,Ado h.1,Ee h.1⟩);simp only[go_sem,Aj]
 refine Bh (α:=Nat × V × List (V × Ent) × St) (fun a=>l.length - a.1) (fun a=>[(3,.ptr 0 0 0),(11,SL z t (l.map Item.row)),(12,iV l.length),(13,iV a.1)]) (fun a=>a.2.2.2)
  (fun a=>a.1<=l.length/\a.1<=20/\a.2.2.2[0]?=some (.row [iV 0,a.2.1] 35 0 0)/\NG a.2.2.2 1 a.2.1 a.2.2.1/\a.2.2.1.map (·.2)=F7 l a.1/\Cl a.2.2.2/\Dj a.2.2.1) ?_ (0,.nils,[],[.row [iV 0,.nils] 35 0 0]) ⟨by simp,by simp,rfl,Bg6,rfl,fun o ho i hi=>by grind[List.mem_singleton,Ob.refs,Ah,V.refs],List.Pairwise.nil⟩
 rintro⟨i,U,L,s⟩ ⟨hi,qQ,h0,hG,hL,hC,hD⟩ ih;simp only at hi qQ h0 hG hL hC hD ih;have hs:1<=s.length:=(Al.1 h0).1;obtain⟨jb,jc,qF⟩:=Adn l i;refine Az Bk6 ?_;rcases Bb i l.length with h | h
 .obtain⟨x,hx,-,hm⟩:=Bl h;have qp:=qU x hm;have hk:x.kind<256/\x.seen<256/\x.missed<256:=⟨qp.1,qp.2.1,qp.2.2.1⟩;have qL:Cl (s++[.row x.row 115 0 0]):=Jg hC (by simp[Item.row,Ob.refs,Ah,V.refs]);have qK:∀ J,(s++J)[0]?=some (.row [iV 0,U] 35 0 0):=fun J=>Bs h0
  simp only[go_sem,Ar h,Ai,hx];refine Le (fun h2=>?_) (fun h2=>?_)
  .simp only[go_sem,qK]
   have:F7 l 20=F7 l i:=by
    have:i=20:=by simp at h2;omega
    rw[this]
   rw[this];exact⟨_,rfl,L,Aee hG fun j _ hj=>C3 hj,hL,qL,hD⟩
  .have qR:i<20:=by simp at h2;omega
   have w1:IntKind.i64.wrap (x.kind:Int)=x.kind:=B7 AA;have w2:IntKind.i64.wrap (x.seen:Int)=x.seen:=B7 AA;have w3:IntKind.i64.wrap (x.missed:Int)=x.missed:=B7 AA;have r1:(x.kind:Int).tmod 4=((x.kind % 4:Nat):Int):=Aa3 x.kind 4;have r2:(x.seen:Int).tmod 9=((x.seen % 9:Nat):Int):=Aa3 x.seen 9;have r3:(x.missed:Int).tmod 8=((x.missed % 8:Nat):Int):=Aa3 x.missed 8;have r4:(x.kind:Int).tdiv 4=((x.kind / 4:Nat):Int):=Bm6 x.kind 4;have r5:((x.kind / 4:Nat):Int).tmod 3=((x.kind / 4 % 3:Nat):Int):=Aa3 (x.kind / 4) 3;have a1:IntKind.i64.wrap (1+((x.kind % 4:Nat):Int))=1+((x.kind % 4:Nat):Int):=B7 AA;have a2:IntKind.i64.wrap (1+((x.seen % 9:Nat):Int))=1+((x.seen % 9:Nat):Int):=B7 AA;have a3:IntKind.i64.wrap ((x.kind / 4:Nat):Int)=((x.kind / 4:Nat):Int):=B7 AA;have a4:IntKind.i64.wrap (2+((x.kind / 4 % 3:Nat):Int))=2+((x.kind / 4 % 3:Nat):Int):=B7 AA;have a5:IntKind.i64.wrap (1+((x.kind % 4:Nat):Int) - 1)=((x.kind % 4:Nat):Int):=by rw[B7 AA];omega
   have hn:=Aai x.kind
   have qS:([[iV 2],[iV (2+((x.kind / 4 % 3:Nat):Int))],[iV 2],[iV 4]]:List (List V))[x.kind % 4]?=some [iV ((Tt x.kind:Nat):Int)]:=by
    have:x.kind % 4=0\/x.kind % 4=1\/x.kind % 4=2\/x.kind % 4=3:=by omega
    unfold Tt
    rcases this with h | h | h | h<;>rw[h]<;>simp
   simp only[go_sem,w1,w2,w3,r1,r2,r3,r4,r5,a1,a2,a3,a4,a5,qS,hn.2];refine A06 x qp (p:=s.length) (n:=Tt x.kind) AA hn.2 _ _ _ (1+((x.kind % 4:Nat):Int)) (1+((x.seen % 9:Nat):Int)) ((x.missed % 8:Nat):Int) s _ _ ?_ (0,.nils,s++[.row x.row 115 0 0,.row [iV (1+((x.kind % 4:Nat):Int)),.nils,iV (1+((x.seen % 9:Nat):Int)),iV ((x.missed % 8:Nat):Int)] 55 0 0]) ⟨by simp,?_,by simp,fun j hj=>C3 hj,Nc _ _,Ajy _ _ 1,De⟩;rotate_left
   .have c1:=Jg (ob:=.row x.row 115 0 0) hC (by simp[Item.row,Ob.refs,Ah,V.refs]);have c2:=Jg (ob:=.row [iV (1+((x.kind % 4:Nat):Int)),.nils,iV (1+((x.seen % 9:Nat):Int)),iV ((x.missed % 8:Nat):Int)] 55 0 0) c1 AT
    grind
   intro u s' qO qZ qC qJ qP;have qy:s'[0]?=some (.row [iV 0,U] 35 0 0):=(qC 0 AA).trans h0;have qN:NG s' 1 U L:=Aee hG fun j _ hj=>qC j hj
   have qT:K4 (F7 l i):=fun e he=>by obtain⟨y,-,rfl⟩:=qF e he;grind[Y0,Aai]
   have qw:∀ y∈F7 l i,y.own=y:=fun e he=>by obtain⟨y,-,rfl⟩:=qF e he;rfl
   have qV:x.ent.sites≠[]:=by
    intro e;have:=Y0 x;rw[e]at this;simp at this;omega
   have qE:=Ap7 (l:=l) (i:=i) hx;obtain⟨u',s2,L2,qt,c2,l2,k2,g2,qY,qM⟩:=A14 (w:=u) (x:=x.ent) qO qN AA hL qw rfl AA qT (Aa5 qP AA) qV (by grind[Y0]);have q0:s2[0]?=some (.row [iV 0,U] 35 0 0):=(k2 0 AA).trans qy;have qH:=Bx g2.1;simp only[go_sem,qy,qJ];refine Aa qt ?_;simp only[go_sem,q0,Lc qH,qH,Ay (show i<9223372036854775807 by omega)];refine Am (ih (i+1,u',L2,_) AA ⟨by omega,by omega,?_,Aee g2 fun j hj _=>by grind,?_,Fi c2 ?_,qM hD⟩) rfl
   .grind
   .grind
   .intro j hj;simp only[Ob.refs,Ah,V.refs,Bw,Ci]at hj;exact Ee g2.1 j hj
 .simp only[go_sem,Bi h,h0]
  have:F7 l 20=F7 l i:=by
   unfold F7;rw[I9 h,I9 AA]
  rw[this];exact⟨_,rfl,L,hG,hL,hC,hD⟩
/-! expressions -/
structure Xp where
 op:Int
 n:Int
 nm:List UInt8
 z:Bool
 t:Nat
 l:List Xp
mutual
def Xp.row:Xp->List V
 | ⟨op,n,nm,z,t,l⟩=>[.int .i64 op,.int .i64 n,.str nm,SL z t (Xp.rows l)]
def Xp.rows:List Xp->List (List V)
 | []=>[]
 | x::l=>x.row::Xp.rows l
end
def Aqd:∀ l:List Xp,Xp.rows l=l.map Xp.row
 | []=>rfl
 | x::l=>by rw[Xp.rows,Aqd l];rfl
def Bj(x:Xp):x.row=[iV x.op,iV x.n,.str x.nm,SL x.z x.t (x.l.map Xp.row)]:=by
 rw[<-Aqd];cases x;rfl
def Xp.zero:Xp:=⟨0,0,[],true,0,[]⟩
def Cq(op:Int):List UInt8:=
 match op with
 | 4=>[45] | 5=>[33] | 6=>[43] | 7=>[45] | 8=>[42] | 9=>[47] | 10=>[37] | 11=>[61,61] | 12=>[33,61] | 13=>[60] | 14=>[60,61] | 15=>[62] | 16=>[62,61] | 17=>[38,38] | 18=>[124,124] | _=>[]
def Bu(op:Int):Int:=
 match op with
 | 4=>6 | 5=>6 | 6=>4 | 7=>4 | 8=>5 | 9=>5 | 10=>5 | 11=>3 | 12=>3 | 13=>3 | 14=>3 | 15=>3 | 16=>3 | 17=>2 | 18=>1 | _=>7
def Yc(op:Int):Int:=if op=1\/op=2 then 0 else if 3<=op/\op<=5 then 1 else if 6<=op/\op<=18 then 2 else -1
def Ec(o:Int × List UInt8)(qa:Int):List UInt8:=if Bu o.1<qa then 40::(o.2++[41]) else o.2
def Ii(op:Int):Int:=if Bu op=3 then 4 else Bu op
def Eh(op n:Int)(nm:List UInt8)(ts:List (Int × List UInt8)):List UInt8:=
 if op=1 then C0 n else if op=2 then nm else
 match ts with
 | [a]=>if op=3 then nm++91::(a.2++[93]) else Cq op++Ec a 6
 | [a,b]=>Ec a (Ii op)++32::(Cq op++32::Ec b (Bu op+1))
 | _=>[]
mutual
def Xp.txt:Xp->List UInt8
 | ⟨op,n,nm,_,_,l⟩=>Eh op n nm (Xp.txts l)
def Xp.txts:List Xp->List (Int × List UInt8)
 | []=>[]
 | x::l=>(x.op,x.txt)::Xp.txts l
end
def Aqe:∀ l:List Xp,Xp.txts l=l.map fun x=>(x.op,x.txt)
 | []=>rfl
 | x::l=>by rw[Xp.txts,Aqe l];rfl
theorem F3(x:Xp):x.txt=Eh x.op x.n x.nm (x.l.map fun x=>(x.op,x.txt)):=by
 rw[<-Aqe];cases x;rfl
inductive Cn:Xp->Prop
 | num {n:Int} {nm:List UInt8} {z:Bool} {t:Nat} : -9223372036854775808<=n/\n<=9223372036854775807->Cn ⟨1,n,nm,z,t,[]⟩
 | name {n:Int} {nm:List UInt8} {z:Bool} {t:Nat}:Cn ⟨2,n,nm,z,t,[]⟩
 | idx {n:Int} {nm:List UInt8} {z:Bool} {t:Nat} {a:Xp}:Cn a->Cn ⟨3,n,nm,z,t,[a]⟩
 | un {op n:Int} {nm:List UInt8} {z:Bool} {t:Nat} {a:Xp}:op=4\/op=5->Cn a->Cn ⟨op,n,nm,z,t,[a]⟩
 | bin {op n:Int} {nm:List UInt8} {z:Bool} {t:Nat} {a b:Xp}:6<=op/\op<=18->Cn a->Cn b->Cn ⟨op,n,nm,z,t,[a,b]⟩
/-! statements -/
structure Sp where
 op:Int
 line:Int
 nm:List UInt8
 arg:List UInt8
 iz:Bool
 it:Nat
 idx:List Xp
 ex:Xp
 bz:Bool
 bt:Nat
 body:List Sp
 ez:Bool
 et:Nat
 els:List Sp
mutual
def Sp.row:Sp->List V
 | ⟨op,line,nm,arg,iz,it,idx,ex,bz,bt,body,ez,et,els⟩=>[.int .i64 op,.int .i64 line,.str nm,.str arg,SL iz it (idx.map Xp.row)]++ex.row++[SL bz bt (Sp.rows body),SL ez et (Sp.rows els)]
def Sp.rows:List Sp->List (List V)
 | []=>[]
 | x::l=>x.row::Sp.rows l
end
def Aim:∀ l:List Sp,Sp.rows l=l.map Sp.row
 | []=>rfl
 | x::l=>by rw[Sp.rows,Aim l];rfl
def Sc(s:Sp):s.row=[iV s.op,iV s.line,.str s.nm,.str s.arg,SL s.iz s.it (s.idx.map Xp.row)]++s.ex.row++[SL s.bz s.bt (s.body.map Sp.row),SL s.ez s.et (s.els.map Sp.row)]:=by
 rw[<-Aim,<-Aim];cases s;rfl
def C7(op:Int):List UInt8:=
 match op with
 | 2=>[105,102] | 3=>[119,104,105,108,101] | 4=>[108,111,99,107] | 5=>[114,101,97,100] | 6=>[119,114,105,116,101] | 7=>[116,114,97,110,115,97,99,116,105,111,110] | 8=>[97,116,111,109,105,99] | 9=>[119,97,105,116] | 10=>[110,111,116,105,102,121] | 11=>[110,111,116,105,102,121,97,108,108] | 12=>[115,112,97,119,110] | 13=>[106,111,105,110] | 14=>[115,101,116] | 15=>[103,101,116] | _=>[]
def Gi(l:List Xp):List UInt8:=match l with
 | a::_=>91::(a.txt++[93])
 | []=>[]
def Ct(s:Sp):List UInt8:=
 if s.op=1 then s.nm++(Gi s.idx++32::61::32::s.ex.txt)
 else if s.op=2\/s.op=3 then C7 s.op++32::s.ex.txt
 else if s.op=7\/s.op=8 then C7 s.op
 else if s.op=14 then C7 s.op++32::(s.nm++32::s.ex.txt)
 else if s.op=15 then C7 s.op++32::(s.nm++32::s.arg)
 else C7 s.op++32::s.nm
def Ep(d:Nat):List UInt8:=List.replicate (2*d) 32
def B3(op:Int):Bool:=decide (2<=op)&&decide (op<=8)
mutual
def Sp.txt:Nat->Sp->List UInt8
 | d,⟨op,line,nm,arg,iz,it,idx,ex,bz,bt,body,ez,et,els⟩=>
  Ep d++(Ct ⟨op,line,nm,arg,iz,it,idx,ex,bz,bt,body,ez,et,els⟩ ++
   if B3 op then 32::123::10::(Sp.txts (d+1) body++((if els.isEmpty then [] else Ep d++125::32::101::108::115::101::32::123::10::Sp.txts (d+1) els)++(Ep d++[125,10]))) else [59,10])
def Sp.txts:Nat->List Sp->List UInt8
 | _,[]=>[]
 | d,x::l=>x.txt d++Sp.txts d l
end
inductive CnS:Sp->Prop
 | mk {s:Sp}:1<=s.op/\s.op<=15->s.idx.length<=1->(s.op≠1->s.idx=[])->(∀ x∈s.idx,Cn x)->((s.op=1\/s.op=2\/s.op=3\/s.op=14)->Cn s.ex)->(B3 s.op=false->s.body=[])->(s.op≠2->s.els=[])->(∀ x∈s.body,CnS x)->(∀ x∈s.els,CnS x)->CnS s
/-! declarations, threads, programs -/
structure Dp where
 kind:Int
 line:Int
 nm:List UInt8
 size:Int
 init:Int
 on:List UInt8
def Dp.row(d:Dp):List V:=[iV d.kind,iV d.line,.str d.nm,iV d.size,iV d.init,.str d.on]
def P4(n:Int):List UInt8:=if n=0 then [] else 32::61::32::C0 n
def F6(d:Dp):List UInt8:=
 if d.kind=1 then [118,97,114,32]++(d.nm++((if d.size=0 then [] else 91::(C0 d.size++[93]))++P4 d.init))
 else if d.kind=2 then [118,111,108,97,116,105,108,101,32]++(d.nm++P4 d.init)
 else if d.kind=3 then [109,117,116,101,120,32]++d.nm
 else if d.kind=4 then [114,119,108,111,99,107,32]++d.nm
 else if d.kind=5 then [99,111,110,100,32]++(d.nm++32::d.on)
 else [102,117,116,117,114,101,32]++d.nm
structure CnD (d:Dp):Prop where
 kind:1<=d.kind/\d.kind<=6
 size:0<=d.size/\d.size<=9223372036854775807/\(d.kind≠1->d.size=0)
 init : -9223372036854775808<=d.init/\d.init<=9223372036854775807/\(d.kind≠1->d.kind≠2->d.init=0)
structure Tp where
 nm:List UInt8
 line:Int
 lz:Bool
 lt:Nat
 locals:List (List UInt8)
 bz:Bool
 bt:Nat
 body:List Sp
def Tp.row(t:Tp):List V:=[.str t.nm,iV t.line,SL t.lz t.lt (t.locals.map fun s=>[V.str s]),SL t.bz t.bt (t.body.map Sp.row)]
def Fj:List (List UInt8)->List UInt8
 | []=>[]
 | [a]=>a
 | a::b::l=>a++44::32::Fj (b::l)
def Fw(t:Tp):List UInt8:=[116,104,114,101,97,100,32]++(t.nm++40::(Fj t.locals++41::32::123::10::(Sp.txts 1 t.body++[125,10])))
structure Gp where
 dz:Bool
 dt:Nat
 decls:List Dp
 tz:Bool
 tt:Nat
 thrs:List Tp
def Gp.row(p:Gp):List V:=[SL p.dz p.dt (p.decls.map Dp.row),SL p.tz p.tt (p.thrs.map Tp.row)]
def Ij(p:Gp):List UInt8:=(p.decls.map fun d=>F6 d++[59,10]).flatten++(p.thrs.map Fw).flatten
structure CnG (p:Gp):Prop where
 decls:∀ d∈p.decls,CnD d
 thrs:∀ t∈p.thrs,∀ s∈t.body,CnS s
abbrev gR (p:Gp):List V:=[SL p.dz p.dt (p.decls.map Dp.row),SL p.tz p.tt (p.thrs.map Tp.row)]
abbrev gO (p:Gp):Ob:=.row (gR p) 29 0 0
abbrev wkR (p:Gp) (th:Int) (a b c:V):List V:=[SL p.dz p.dt (p.decls.map Dp.row),SL p.tz p.tt (p.thrs.map Tp.row),iV th,a,b,c]
abbrev Fb (p:Gp) (th:Int) (a b c:V):Ob:=.row (wkR p th a b c) 147 0 0
abbrev tR (x:Tp):List V:=[.str x.nm,iV x.line,SL x.lz x.lt (x.locals.map fun s=>[V.str s]),SL x.bz x.bt (x.body.map Sp.row)]
abbrev tO (x:Tp):Ob:=.row (tR x) 90 0 0
abbrev xR (x:Xp):List V:=[iV x.op,iV x.n,.str x.nm,SL x.z x.t (x.l.map Xp.row)]
abbrev xO (x:Xp):Ob:=.row (xR x) 102 0 0
abbrev sW (op line:Int) (nm arg:List UInt8) (iz:Bool) (it:Nat) (idx:List Xp) (xo xn:Int) (xm:List UInt8) (xz:Bool) (xt:Nat) (xl:List Xp) (bz:Bool) (bt:Nat) (body:List Sp) (ez:Bool) (et:Nat) (els:List Sp):List V:=[iV op,iV line,.str nm,.str arg,SL iz it (idx.map Xp.row),iV xo,iV xn,.str xm,SL xz xt (xl.map Xp.row),SL bz bt (body.map Sp.row),SL ez et (els.map Sp.row)]
abbrev sO (op line:Int) (nm arg:List UInt8) (iz:Bool) (it:Nat) (idx:List Xp) (xo xn:Int) (xm:List UInt8) (xz:Bool) (xt:Nat) (xl:List Xp) (bz:Bool) (bt:Nat) (body:List Sp) (ez:Bool) (et:Nat) (els:List Sp):Ob:=.row (sW op line nm arg iz it idx xo xn xm xz xt xl bz bt body ez et els) 104 0 0
abbrev sZ (op ln:Int) (nm arg:List UInt8):List V:=[iV op,iV ln,.str nm,.str arg,.nils,iV 0,iV 0,.str [],.nils,.nils,.nils]
abbrev sP (op ln:Int) (nm arg:List UInt8):Ob:=.row (sZ op ln nm arg) 104 0 0
abbrev zD:List V:=[iV 0,iV 0,.str [],iV 0,iV 0,.str []]
abbrev zO:Ob:=.row zD 86 0 0
abbrev zX:List V:=[iV 0,iV 0,.str [],.nils]
abbrev zY:Ob:=.row zX 102 0 0
abbrev mO (b:Nat) (th left:Int) (se tx ao lp:Bool) (u:V):Ob:=.row [.ptr b 0 0,iV th,iV left,.bool se,.bool tx,.bool ao,.bool lp,u] 97 0 0
def S8{x:Xp}(h:Cn x):1<=x.op/\x.op<=18:=by
 cases h with
 | num _=>grind
 | name=>grind
 | idx _=>grind
 | un h _=>grind
 | bin h _ _=>grind
def Aal{op:Int}(h:1<=op/\op<=18):∃ i:Nat,i<18/\op=(i:Int)+1:=⟨(op - 1).toNat,by omega,by omega⟩
def A36:((List.range 18).all fun i=>match (Ld (Nv TT PT 300) af188 [iV ((i:Int)+1)] []).bind fun p=>D8 p.2 p.1 with
  | some (.tup [.str s,.int .i64 n])=>s==Cq ((i:Int)+1)&&n==Bu ((i:Int)+1)
  | _=>false)=true:=by kernel_rfl
def W1{op:Int}(h:1<=op/\op<=18):Fn TT PT 188 [iV op] (.tup [.str (Cq op),iV (Bu op)]):=by
 obtain⟨i,hi,rfl⟩:=Aal h;have hr:=B6.1 A36 i (Gw.2 hi)
 split at hr
 .rename_i s n hv;simp only[Ak,beq_iff_eq]at hr;rw[<-hr.1,<-hr.2];exact Qz Ro T188 rfl rfl hv
 .cases hr
def Bb1:((List.range 18).all fun i=>match (Ld (Nv TT PT 300) af246 [iV ((i:Int)+1)] []).bind fun p=>D8 p.2 p.1 with
  | some (.agg [.str s,.int .i64 n])=>s==Cq ((i:Int)+1)&&n==Bu ((i:Int)+1)
  | _=>false)=true:=by kernel_rfl
def Xr{op:Int}(h:1<=op/\op<=18):Fn TT PT 246 [iV op] (.agg [.str (Cq op),iV (Bu op)]):=by
 obtain⟨i,hi,rfl⟩:=Aal h;have hr:=B6.1 Bb1 i (Gw.2 hi)
 split at hr
 .rename_i s n hv;simp only[Ak,beq_iff_eq]at hr;rw[<-hr.1,<-hr.2];exact Qz Ro T246 rfl rfl hv
 .cases hr
def Bb2:((List.range 18).all fun i=>decide ((Cq ((i:Int)+1)).length<=2/\1<=Bu ((i:Int)+1)/\Bu ((i:Int)+1)<=7))=true:=by decide
def Ae6{op:Int}(h:1<=op/\op<=18):(Cq op).length<=2/\1<=Bu op/\Bu op<=7:=by
 obtain⟨i,hi,rfl⟩:=Aal h;exact of_decide_eq_true (B6.1 Bb2 i (Gw.2 hi))
def D0(x:Xp):Df (.agg x.row)=true:=by
 rw[Bj];simp only[go_sem]
def As{a b c:List UInt8}(h:a.length+b.length<=9223372036854775807)(hc:a++b=c):Ap .add a b=some (.str c):=by
 simp_all [Ap]
def Oq(o:Int × List UInt8)(qa:Int):o.2.length<=(Ec o qa).length/\(Ec o qa).length<=o.2.length+2:=by
 grind[Ec]
def Ak6{x:Xp}(he:Fn TT PT 157 [.agg x.row] (.str x.txt))(ho:1<=x.op/\x.op<=18)(hl:x.txt.length<=1000000000000000)(qa:Int):Fn TT PT 189 [.agg x.row,iV qa] (.str (Ec (x.op,x.txt) qa)):=by
 have hs:=W1 ho;have qb:=D0 x;rw[Bj]at he qb ⊢;refine Bc T189 rfl ?_;have a1:Ap .add [40] x.txt=some (.str (40::x.txt)):=As (by grind) rfl;have a2:Ap .add (40::x.txt) [41]=some (.str (40::(x.txt++[41]))):=As (by grind) AE;unfold Ec;by_cases h:Bu x.op<qa
 .rw[if_pos h];have f:(Bu x.op<qa)=True:=eq_true h;simp only[go_sem];refine Ab hs AB ?_;simp only[go_sem,f];refine Ab he (by grind) ?_;simp only[go_sem,↓a1,↓a2];exact F5 rfl
 .rw[if_neg h];have f:(Bu x.op<qa)=False:=eq_false h;simp only[go_sem];refine Ab hs AB ?_;simp only[go_sem,f];refine Ab he (by grind) ?_;simp only[go_sem];exact F5 rfl
set_option maxHeartbeats 4000000 in
def Zd{x:Xp}(h:Cn x):x.txt.length<=1000000000000000->Fn TT PT 157 [.agg x.row] (.str x.txt):=by
 induction h with
 | @num n nm z t hn=>
  intro hl;have hs:=W1 (op:=1) AA;rw[Bj,F3];simp only[Bz,Eh,if_true];refine Bc T157 rfl ?_;have hf:P9 [iV n,iV 10]=some (.str (C0 n)):=by unfold P9;exact if_pos hn
  simp only[go_sem];refine Ab hs AB ?_;simp only[go_sem,Int.reduceBEq];refine Fu P72 AB hf ?_;simp only[go_sem];exact F5 rfl
 | @name n nm z t=>
  intro hl;have hs:=W1 (op:=2) AA;rw[Bj,F3];simp only[Bz,Eh];refine Bc T157 rfl ?_;simp only[go_sem];refine Ab hs AB ?_;simp only[go_sem,Int.reduceBEq];exact F5 rfl
 | @idx n nm z t a ha ih=>
  intro hl;have hs:=W1 (op:=3) AA;rw[Bj];rw[F3]at hl ⊢;simp only[A2,Bz,Eh]at hl ⊢;have hl:nm.length+a.txt.length+2<=1000000000000000:=by simp at hl;omega
  have hi:=ih AA;rw[Bj a]at hi ⊢;refine Bc T157 rfl ?_;simp only[go_sem];refine Ab hs AB ?_;simp only[go_sem,Int.reduceBEq];have a1:Ap .add nm [91]=some (.str (nm++[91])):=As (by grind) rfl;have a2:Ap .add (nm++[91]) a.txt=some (.str (nm++91::a.txt)):=As (by grind) AE;have a3:Ap .add (nm++91::a.txt) [93]=some (.str (nm++91::(a.txt++[93]))):=As (by grind) AE;refine Ad AD ?_;simp only[go_sem,↓a1];refine Ax hi AB ?_;simp only[go_sem,↓a2,↓a3];exact F5 rfl
 | @un op n nm z t a qd ha ih=>
  intro hl;have ho:1<=op/\op<=18:=by omega
  have hs:=W1 ho
  have ql:Bu op=6:=by rcases qd with rfl | rfl<;>rfl
  rw[ql]at hs;obtain⟨s1,-,-⟩:=Ae6 ho;rw[Bj];rw[F3]at hl ⊢
  have e1:Eh op n nm [(a.op,a.txt)]=Cq op++Ec (a.op,a.txt) 6:=by
   unfold Eh;rw[if_neg AA,if_neg AA];simp only;rw[if_neg AA]
  simp only[A2,Bz,e1,Aq]at hl ⊢;obtain⟨p1,p2⟩:=Oq (a.op,a.txt) 6;have hi:=Ak6 (ih (by grind)) (S8 ha) (by grind) 6;rw[Bj a]at hi ⊢;refine Bc T157 rfl ?_;have b1:(op==1)=false:=by simp;omega
  have b2:(op==2)=false:=by simp;omega
  have b3:(op==3)=false:=by simp;omega
  simp only[go_sem];refine Ab hs AB ?_;simp only[go_sem,Int.reduceBEq,b1,b2,b3];refine Ab hi AB ?_;have a1:Ap .add (Cq op) (Ec (a.op,a.txt) 6)=some (.str (Cq op++Ec (a.op,a.txt) 6)):=As AA rfl;simp only[go_sem,↓a1];exact F5 rfl
 | @bin op n nm z t a b qd ha hb iha ihb=>
  intro hl;have ho:1<=op/\op<=18:=by omega
  have hs:=W1 ho;obtain⟨s1,s2,s3⟩:=Ae6 ho
  have ql:Bu op<6:=by
   obtain⟨i,hi,rfl⟩:=Aal ho;have:((List.range 18).all fun i=>decide (5<=i->Bu ((i:Int)+1)<6))=true:=by decide
   exact of_decide_eq_true (B6.1 this i (Gw.2 hi)) AA
  rw[Bj];rw[F3]at hl ⊢
  have e1:Eh op n nm [(a.op,a.txt),(b.op,b.txt)]=Ec (a.op,a.txt) (Ii op)++32::(Cq op++32::Ec (b.op,b.txt) (Bu op+1)):=by
   unfold Eh;rw[if_neg AA,if_neg AA]
  simp only[A2,Bz,e1,Aq,Bg]at hl ⊢;obtain⟨p1,p2⟩:=Oq (a.op,a.txt) (Ii op);obtain⟨q1,q2⟩:=Oq (b.op,b.txt) (Bu op+1);simp only at p1 q1;have hi:=Ak6 (iha AA) (S8 ha) AA (Ii op);have hj:=Ak6 (ihb AA) (S8 hb) AA (Bu op+1);rw[Bj a]at hi ⊢;rw[Bj b]at hj ⊢;refine Bc T157 rfl ?_;have b1:(op==1)=false:=by simp;omega
  have b2:(op==2)=false:=by simp;omega
  have b3:(op==3)=false:=by simp;omega
  have b6:(Bu op==6)=false:=by simp;omega
  have f6:(Bu op<6)=True:=eq_true ql;have w1:IntKind.i64.wrap (Bu op+1)=Bu op+1:=B7 AA;generalize Ec (a.op,a.txt) (Ii op)=pa at hl hi p1 p2 ⊢;generalize Ec (b.op,b.txt) (Bu op+1)=pb at hl hj q1 q2 ⊢;have a1:Ap .add pa [32]=some (.str (pa++[32])):=As (by grind) rfl;have a2:Ap .add (pa++[32]) (Cq op)=some (.str (pa++32::Cq op)):=As (by grind) AE;have a3:Ap .add (pa++32::Cq op) [32]=some (.str (pa++32::(Cq op++[32]))):=As (by grind) AE;have a4:Ap .add (pa++32::(Cq op++[32])) pb=some (.str (pa++32::(Cq op++32::pb))):=As (by grind) AE;cases h3:(Bu op==3)
  all_goals
   have qg:Ii op=(if(Bu op==3)=true then 4 else Bu op):=by unfold Ii;simp
   rw[h3]at qg;simp only[if_true,if_false,Hj]at qg;rw[qg]at hi;simp only[go_sem];refine Ab hs AB ?_;simp only[go_sem,Int.reduceBEq,b1,b2,b3,b6,f6,h3];refine Ad AD ?_;simp only[go_sem];refine Ax hi AB ?_;simp only[go_sem,↓a1,↓a2,↓a3,w1];refine Ax hj AB ?_;simp only[go_sem,↓a4];exact F5 rfl
def A15(k:IntKind)(n d:Nat):Du (some (.int k (n:Int))) d=some n:=by
 simp only[Du];rw[if_pos AA,J0]
attribute [go_sem ↓] A15
attribute [go_sem] Yr Av Yi
def A7b(x:Xp):x.row.length=4:=by simp[Bj]
theorem Ol(s:Sp):s.row.length=11:=by simp[Sc,Bj]
def Hg(s:Sp):Df (.agg s.row)=true:=by
 rw[Sc,Bj];simp only[go_sem]
def Bna(s:Sp):s.row.take 11=s.row:=I9 (by grind[Ol])
def A37(d:Nat)(hd:d<=100000000000000):Fn TT PT 114 [iV (d:Int)] (.str (Ep d)):=by
 refine Bc T114 rfl ?_;simp only[go_sem];refine Bh (α:=Nat) (fun i=>d - i) (fun i=>[(0,iV (d:Int)),(3,.str (Ep i)),(4,iV (i:Int))]) (fun _=>[]) (fun i=>i<=d) ?_ 0 (Av _);rintro i hi ih;refine Az Bgk ?_;rcases Bb i d with h | h
 .have a1:Ap .add (Ep i) [32,32]=some (.str (Ep (i+1))):=As (by grind[Ep]) (by
   grind[Ep,List.replicate_append_replicate])
  simp only[go_sem,Ar h,↓a1,Ay (show i<9223372036854775807 by omega)];exact Am (ih (i+1) AA AA) rfl
 .obtain rfl:i=d:=by omega
  simp only[go_sem,Bi h];exact F5 rfl
theorem K9(d:Nat):(Ep d).length=2*d:=by simp[Ep]
def Im(op:Int):List UInt8:=if B3 op then [32,123] else [59]
theorem Ase(l:List Xp):(Gi l).length<=(match l with | a::_=>a.txt.length+2 | []=>0):=by
 grind[Gi]
def A7c{s:Sp}(h:CnS s)(hl:(Ct s).length<=100000000000000):Fn TT PT 115 [.agg s.row] (.str (Ct s++Im s.op)):=by
 obtain⟨h1,h2,h3,h4,h5,-,-,-,-⟩:=h;obtain⟨op,line,nm,arg,iz,it,idx,ex,bz,bt,body,ez,et,els⟩:=s;simp only at h1 h2 h3 h4 h5 hl ⊢;rw[Sc];simp only;have hw:op=1\/op=2\/op=3\/op=4\/op=5\/op=6\/op=7\/op=8\/op=9\/op=10\/op=11\/op=12\/op=13\/op=14\/op=15:=by omega
 refine Bc T115 rfl ?_;rw[Bj];rcases hw with rfl | hw
 .have hx:=Zd (h5 (.inl rfl));simp only[Ct,if_true,Aq,Bg]at hl ⊢;have hx:=hx AA;rw[Bj]at hx
  cases idx with
  | nil=>
   simp only[Gi,Dq]at hl ⊢;have a1:Ap .add nm []=some (.str nm):=As AA AE;have a2:Ap .add nm [32,61,32]=some (.str (nm++[32,61,32])):=As (by grind) rfl;have a3:Ap .add (nm++[32,61,32]) ex.txt=some (.str (nm++32::61::32::ex.txt)):=As (by grind) AE;have a4:Ap .add (nm++32::61::32::ex.txt) [59]=some (.str (nm++32::61::32::(ex.txt++[59]))):=As (by grind) AE;simp only[go_sem,Int.reduceBEq,Int.reduceLT];refine Ad AD ?_;simp only[go_sem,↓a1,↓a2];refine Ax hx AB ?_;simp only[go_sem,↓a3,↓a4];exact Ae rfl (by simp[Im,B3])
  | cons a r=>
   have ha:=Zd (h4 a Cr);simp only[Gi,Bg,Aq]at hl ⊢;have ha:=ha AA;rw[Bj]at ha;have r0:r=[]:=by simpa using h2
   subst r0;have a1:Ap .add [91] a.txt=some (.str (91::a.txt)):=As (by grind) rfl;have a2:Ap .add (91::a.txt) [93]=some (.str (91::(a.txt++[93]))):=As (by grind) AE;have a3:Ap .add nm (91::(a.txt++[93]))=some (.str (nm++91::(a.txt++[93]))):=As (by grind) rfl;have a4:Ap .add (nm++91::(a.txt++[93])) [32,61,32]=some (.str (nm++91::(a.txt++[93,32,61,32]))):=As (by grind) AE;have a5:Ap .add (nm++91::(a.txt++[93,32,61,32])) ex.txt=some (.str (nm++91::(a.txt++93::32::61::32::ex.txt))):=As (by grind) AE;have a6:Ap .add (nm++91::(a.txt++93::32::61::32::ex.txt)) [59]=some (.str (nm++91::(a.txt++93::32::61::32::(ex.txt++[59])))):=As (by grind) AE;simp only[A2,Bz];rw[Bj a];simp only[go_sem,Int.reduceBEq,Int.reduceLT];refine Ab ha AB ?_;simp only[go_sem,↓a1,↓a2];refine Ad AD ?_;simp only[go_sem,↓a3,↓a4];refine Ax hx AB ?_;simp only[go_sem,↓a5,↓a6];exact Ae rfl (by simp[Im,B3])
 rcases hw with rfl | hw
 .simp only[Ct,C7,Im,B3]at hl ⊢;simp at hl;have hx:=Zd (h5 AA) AA;rw[Bj]at hx;have a1:Ap .add ([105,102,32]) (ex.txt)=some (.str (105::102::32::ex.txt)):=As (by grind) AE;have a2:Ap .add (105::102::32::ex.txt) ([32,123])=some (.str (105::102::32::(ex.txt++[32,123]))):=As (by grind) AE;simp only[go_sem,Int.reduceBEq,Int.reduceLT];refine Ab hx AB ?_;simp only[go_sem,↓a1,↓a2];exact Ae rfl AE
 rcases hw with rfl | hw
 .simp only[Ct,C7,Im,B3]at hl ⊢;simp at hl;have hx:=Zd (h5 AA) AA;rw[Bj]at hx;have a1:Ap .add ([119,104,105,108,101,32]) (ex.txt)=some (.str (119::104::105::108::101::32::ex.txt)):=As AL AE;have a2:Ap .add (119::104::105::108::101::32::ex.txt) ([32,123])=some (.str (119::104::105::108::101::32::(ex.txt++[32,123]))):=As AL AE;simp only[go_sem,Int.reduceBEq,Int.reduceLT];refine Ab hx AB ?_;simp only[go_sem,↓a1,↓a2];exact Ae rfl AE
 rcases hw with rfl | hw
 .simp only[Ct,C7,Im,B3]at hl ⊢;simp at hl;have a1:Ap .add ([108,111,99,107,32]) (nm)=some (.str (108::111::99::107::32::nm)):=As AL AE;have a2:Ap .add (108::111::99::107::32::nm) ([32,123])=some (.str (108::111::99::107::32::(nm++[32,123]))):=As (by grind) AE;simp only[go_sem,Int.reduceBEq,Int.reduceLT,↓a1,↓a2];exact Ae rfl AE
 rcases hw with rfl | hw
 .simp only[Ct,C7,Im,B3]at hl ⊢;simp at hl;have a1:Ap .add ([114,101,97,100,32]) (nm)=some (.str (114::101::97::100::32::nm)):=As AL AE;have a2:Ap .add (114::101::97::100::32::nm) ([32,123])=some (.str (114::101::97::100::32::(nm++[32,123]))):=As (by grind) AE;simp only[go_sem,Int.reduceBEq,Int.reduceLT,↓a1,↓a2];exact Ae rfl AE
 rcases hw with rfl | hw
 .simp only[Ct,C7,Im,B3]at hl ⊢;simp at hl;have a1:Ap .add ([119,114,105,116,101,32]) (nm)=some (.str (119::114::105::116::101::32::nm)):=As AL AE;have a2:Ap .add (119::114::105::116::101::32::nm) ([32,123])=some (.str (119::114::105::116::101::32::(nm++[32,123]))):=As AL AE;simp only[go_sem,Int.reduceBEq,Int.reduceLT,↓a1,↓a2];exact Ae rfl AE
 rcases hw with rfl | hw
 .simp only[Ct,C7,Im,B3]at hl ⊢;simp at hl;simp only[go_sem,Int.reduceBEq,Int.reduceLT];exact Ae rfl AE
 rcases hw with rfl | hw
 .simp only[Ct,C7,Im,B3]at hl ⊢;simp at hl;simp only[go_sem,Int.reduceBEq,Int.reduceLT];exact Ae rfl AE
 rcases hw with rfl | hw
 .simp only[Ct,C7,Im,B3]at hl ⊢;simp at hl;have a1:Ap .add ([119,97,105,116,32]) (nm)=some (.str (119::97::105::116::32::nm)):=As AL AE;have a2:Ap .add (119::97::105::116::32::nm) ([59])=some (.str (119::97::105::116::32::(nm++[59]))):=As (by grind) AE;simp only[go_sem,Int.reduceBEq,Int.reduceLT,↓a1,↓a2];exact Ae rfl AE
 rcases hw with rfl | hw
 .simp only[Ct,C7,Im,B3]at hl ⊢;simp at hl;have a1:Ap .add ([110,111,116,105,102,121,32]) (nm)=some (.str (110::111::116::105::102::121::32::nm)):=As AL AE;have a2:Ap .add (110::111::116::105::102::121::32::nm) ([59])=some (.str (110::111::116::105::102::121::32::(nm++[59]))):=As AL AE;simp only[go_sem,Int.reduceBEq,Int.reduceLT,↓a1,↓a2];exact Ae rfl AE
 rcases hw with rfl | hw
 .simp only[Ct,C7,Im,B3]at hl ⊢;simp at hl;have a1:Ap .add ([110,111,116,105,102,121,97,108,108,32]) (nm)=some (.str (110::111::116::105::102::121::97::108::108::32::nm)):=As AL AE;have a2:Ap .add (110::111::116::105::102::121::97::108::108::32::nm) ([59])=some (.str (110::111::116::105::102::121::97::108::108::32::(nm++[59]))):=As AL AE;simp only[go_sem,Int.reduceBEq,Int.reduceLT,↓a1,↓a2];exact Ae rfl AE
 rcases hw with rfl | hw
 .simp only[Ct,C7,Im,B3]at hl ⊢;simp at hl;have a1:Ap .add ([115,112,97,119,110,32]) (nm)=some (.str (115::112::97::119::110::32::nm)):=As AL AE;have a2:Ap .add (115::112::97::119::110::32::nm) ([59])=some (.str (115::112::97::119::110::32::(nm++[59]))):=As AL AE;simp only[go_sem,Int.reduceBEq,Int.reduceLT,↓a1,↓a2];exact Ae rfl AE
 rcases hw with rfl | hw
 .simp only[Ct,C7,Im,B3]at hl ⊢;simp at hl;have a1:Ap .add ([106,111,105,110,32]) (nm)=some (.str (106::111::105::110::32::nm)):=As AL AE;have a2:Ap .add (106::111::105::110::32::nm) ([59])=some (.str (106::111::105::110::32::(nm++[59]))):=As (by grind) AE;simp only[go_sem,Int.reduceBEq,Int.reduceLT,↓a1,↓a2];exact Ae rfl AE
 rcases hw with rfl | hw
 .simp only[Ct,C7,Im,B3]at hl ⊢;simp at hl;have hx:=Zd (h5 AA) AA;rw[Bj]at hx;have a1:Ap .add ([115,101,116,32]) (nm)=some (.str (115::101::116::32::nm)):=As (by grind) AE;have a2:Ap .add (115::101::116::32::nm) ([32])=some (.str (115::101::116::32::(nm++[32]))):=As (by grind) AE;have a3:Ap .add (115::101::116::32::(nm++[32])) (ex.txt)=some (.str (115::101::116::32::(nm++32::ex.txt))):=As (by grind) AE;have a4:Ap .add (115::101::116::32::(nm++32::ex.txt)) ([59])=some (.str (115::101::116::32::(nm++32::(ex.txt++[59])))):=As (by grind) AE;simp only[go_sem,Int.reduceBEq,Int.reduceLT];refine Ad AD ?_;simp only[go_sem,↓a1,↓a2];refine Ax hx AB ?_;simp only[go_sem,↓a3,↓a4];exact Ae rfl AE
 subst hw;simp only[Ct,C7,Im,B3]at hl ⊢;simp at hl;have a1:Ap .add ([103,101,116,32]) (nm)=some (.str (103::101::116::32::nm)):=As (by grind) AE;have a2:Ap .add (103::101::116::32::nm) ([32])=some (.str (103::101::116::32::(nm++[32]))):=As (by grind) AE;have a3:Ap .add (103::101::116::32::(nm++[32])) (arg)=some (.str (103::101::116::32::(nm++32::arg))):=As (by grind) AE;have a4:Ap .add (103::101::116::32::(nm++32::arg)) ([59])=some (.str (103::101::116::32::(nm++32::(arg++[59])))):=As (by grind) AE;simp only[go_sem,Int.reduceBEq,Int.reduceLT,↓a1,↓a2,↓a3,↓a4];exact Ae rfl AE
theorem Oj(d:Nat)(x:Sp)(l:List Sp):Sp.txts d (x::l)=x.txt d++Sp.txts d l:=by rw[Sp.txts]
def Ain(z:Bool)(t d:Nat)(l:List Sp)(h:∀ s∈l,Fn TT PT 73 [.agg s.row,iV (d:Int)] (.str (s.txt d)))(hl:(Sp.txts d l).length<=100000000000000)(ja:l.length<=9223372036854775806):Fn TT PT 39 [SL z t (l.map Sp.row),iV (d:Int)] (.str (Sp.txts d l)):=by
 refine Bc T39 rfl ?_;have qD:(l.map Sp.row).length=l.length:=Aj ..;simp only[go_sem];refine Bh (α:=Nat × List UInt8) (fun a=>l.length - a.1) (fun a=>[(0,SL z t (l.map Sp.row)),(1,iV (d:Int)),(5,.str a.2),(6,iV (a.1:Int))]) (fun _=>[]) (fun a=>a.1<=l.length/\a.2++Sp.txts d (l.drop a.1)=Sp.txts d l) ?_ (0,[]) ⟨Av _,rfl⟩;rintro⟨i,qq⟩ ⟨hi,qf⟩ ih;simp only at hi qf ih;refine Az Blo ?_;rcases Bb i l.length with h' | h'
 .obtain⟨x,hx,hd,hm⟩:=Bl h';rw[hd,Oj]at qf;have qu:=congrArg List.length qf;simp only[Aq]at qu;have hr:=Ol x;have ht:=Bna x;have a1:Ap .add qq (x.txt d)=some (.str (qq++x.txt d)):=As AA rfl;simp only[go_sem,qD,Ar h',Ai,hx,hr,ht];refine Ab (h x hm) (by simp[Hg,Ay8]) ?_;simp only[go_sem,↓a1,Ay (show i<9223372036854775807 by omega)];exact Am (ih (i+1,qq++x.txt d) AA ⟨by omega,by grind⟩) rfl
 .obtain rfl:i=l.length:=by omega
  rw[Dt h',show Sp.txts d []=[] by rw[Sp.txts],Bw]at qf;rw[<-qf];simp only[go_sem,qD,Bi h'];exact F5 rfl
theorem Nd(d:Nat)(s:Sp):s.txt d=Ep d++(Ct s++if B3 s.op then 32::123::10::(Sp.txts (d+1) s.body++((if s.els.isEmpty then [] else Ep d++125::32::101::108::115::101::32::123::10::Sp.txts (d+1) s.els)++(Ep d++[125,10]))) else [59,10]):=by
 obtain⟨op,line,nm,arg,iz,it,idx,ex,bz,bt,body,ez,et,els⟩:=s;rw[Sp.txt]
def Y3(d:Nat):∀ {l:List Sp} {x:Sp},x∈l->(x.txt d).length<=(Sp.txts d l).length
 | y::l,x,h=>by
  rw[Oj,Aq];rcases Bo.1 h with rfl | h
  .omega
  .have:=Y3 d h;omega
theorem Yw(l:List Sp)(d:Nat):l.length<=(Sp.txts d l).length:=by
 induction l with
 | nil=>simp
 | cons x l ih=>
  grind[Oj,Nd]
def A38{s:Sp}(h:CnS s):∀ (d:Nat) (D:Int),max D 0=(d:Int)->(s.txt d).length<=100000000000000->Fn TT PT 73 [.agg s.row,iV D] (.str (s.txt d)):=by
 induction h with
 | @mk s h1 h2 h3 h4 h5 h6 h7 h8 h9 ihb ihe=>
  intro d D mx hl;have hs:CnS s:=.mk h1 h2 h3 h4 h5 h6 h7 h8 h9;rw[Nd]at hl ⊢;simp only[Aq,K9]at hl;have hh:=A7c hs AA;have hi:=A37 d AA;have qb:=Hg s;have qd:=h1;generalize hH:Ct s=H at hl hh ⊢;have g1:(s.op<1)=False:=eq_false AA;have g2:(15<s.op)=False:=eq_false AA;refine Bc T73 rfl ?_;rw[Sc,Bj]at hh qb ⊢;simp only[Jb,Ci]at hh qb ⊢;cases hb:B3 s.op
  .have g3:(s.op<2)=True/\(s.op<2)=True\/(s.op<2)=False/\(8<s.op)=True:=by
    unfold B3 at hb;by_cases qv:s.op<2
    .grind
    .grind
   simp only[Im,hb]at hh;have a1:Ap .add (Ep d) (H++[59])=some (.str (Ep d++(H++[59]))):=As (by grind[K9]) rfl;have a2:Ap .add (Ep d++(H++[59])) [10]=some (.str (Ep d++(H++[59,10]))):=As (by grind[K9]) AE;rcases g3 with⟨g3,g4⟩ | ⟨g3,g4⟩
   all_goals
    simp only[go_sem,g1,g2,mx];refine Ab hi AB ?_;simp only[go_sem];refine Ab hh (by grind) ?_;simp only[go_sem,↓a1,↓a2,g3,g4];exact Ae rfl AE
  .rw[hb]at hl;rw[if_pos rfl]at hl ⊢;simp only[Bg,Aq,K9,Dq]at hl;have qg:=Yw s.body (d+1);have qr:=Ain s.bz s.bt (d+1) s.body (fun x hx=>ihb x hx (d+1) _ AA (by have:=Y3 (d+1) hx;omega)) AA AA;have qm:=Yw s.els (d+1)
   have g3:(s.op<2)=False/\(8<s.op)=False:=by
    unfold B3 at hb;simp only[Ak,decide_eq_true_eq]at hb;exact⟨eq_false AA,eq_false AA⟩
   obtain⟨g3,g4⟩:=g3;simp only[Im,hb,if_true]at hh;have qB:=K9 d;have qh:=Ay (show d<9223372036854775807 by omega);have qc:(s.body.map Sp.row).length=s.body.length:=Aj ..;have qA:(s.els.map Sp.row).length=s.els.length:=Aj ..;generalize hT:Ep d=T at hl hi qB ⊢;generalize qW:Sp.txts (d+1) s.body=B at hl qr qg ⊢;have a1:Ap .add T (H++[32,123])=some (.str (T++(H++[32,123]))):=As (by grind) rfl;have a2:Ap .add (T++(H++[32,123])) [10]=some (.str (T++(H++[32,123,10]))):=As (by grind) AE;have a3:Ap .add (T++(H++[32,123,10])) B=some (.str (T++(H++32::123::10::B))):=As (by grind) AE;have a4:Ap .add (T++(H++32::123::10::B)) T=some (.str (T++(H++32::123::10::(B++T)))):=As (by grind) AE
   cases hels:s.els with
   | nil=>
    rw[hels]at hl qA hh;simp only[Bz]at hh;have e0:((0:Int)<((([]:List Sp).map Sp.row).length:Int))=False:=eq_false AE;have a5:Ap .add (T++(H++32::123::10::(B++T))) [125,10]=some (.str (T++(H++32::123::10::(B++(T++[125,10]))))):=As (by grind) AE;simp only[go_sem,g1,g2,mx];refine Ab hi AB ?_;simp only[go_sem];refine Ab hh (by grind) ?_;simp only[go_sem,↓a1,↓a2,g3,g4,qh];refine Ab qr AB ?_;simp only[go_sem,↓a3,Int.reduceLT,↓a4,↓a5];exact Ae rfl AE
   | cons y ys=>
    rw[hels]at hl qA qm hh;simp only[A2]at hh;have qs:=Ain s.ez s.et (d+1) (y::ys) (fun x hx=>ihe x (by grind) (d+1) _ AA (by have:=Y3 (d+1) hx;simp at hl;omega)) (by simp at hl;omega) (by simp at hl;omega);simp only[A2]at qs;have e0:((0:Int)<((ys.length+1:Nat):Int))=True:=eq_true AA;generalize qX:Sp.txts (d+1) (y::ys)=E at hl qs qm ⊢;simp only[List.isEmpty_cons,Hj,if_false,Aq,Bg]at hl;have a5:Ap .add (T++(H++32::123::10::(B++T))) [125,32,101,108,115,101,32,123,10]=some (.str (T++(H++32::123::10::(B++(T++[125,32,101,108,115,101,32,123,10]))))):=As AJ AE;have a6:Ap .add (T++(H++32::123::10::(B++(T++[125,32,101,108,115,101,32,123,10])))) E=some (.str (T++(H++32::123::10::(B++(T++125::32::101::108::115::101::32::123::10::E))))):=As AJ AE;have a7:Ap .add (T++(H++32::123::10::(B++(T++125::32::101::108::115::101::32::123::10::E)))) T=some (.str (T++(H++32::123::10::(B++(T++125::32::101::108::115::101::32::123::10::(E++T)))))):=As AJ AE;have a8:Ap .add (T++(H++32::123::10::(B++(T++125::32::101::108::115::101::32::123::10::(E++T))))) [125,10]=some (.str (T++(H++32::123::10::(B++(T++125::32::101::108::115::101::32::123::10::(E++(T++[125,10]))))))):=As AJ AE;simp only[go_sem,g1,g2,mx];refine Ab hi AB ?_;simp only[go_sem];refine Ab hh (by grind) ?_;simp only[go_sem,↓a1,↓a2,g3,g4,qh];refine Ab qr AB ?_;simp only[go_sem,↓a3,Aj,e0,↓a4,↓a5,qh];refine Ab qs (by simp only[go_sem,A2]) ?_;simp only[go_sem,↓a6,↓a7,↓a8];exact Ae rfl AE
def Asf{s:Sp}(h:CnS s)(d:Nat)(hl:(s.txt d).length<=100000000000000):Fn TT PT 73 [.agg s.row,iV (d:Int)] (.str (s.txt d)):=A38 h d _ AA hl
def WB(s0 s:St)(b:Nat)(l:List UInt8):Prop:=(∃ u,BL s b u l)/\Cl s/\s0.length<=s.length/\∀ (j:Nat) (cs:List V) (e g z:Nat),j≠b->e≠5->s0[j]?=some (.row cs e g z)->s[j]?=some (.row cs e g z)
def Asg{s:St}{b:Nat}{u:V}{l:List UInt8}(h:BL s b u l)(hc:Cl s):WB s s b l:=⟨⟨u,h⟩,hc,An _,fun _ _ _ _ _ _ _ h=>h⟩
theorem K8{s0 s1 s2:St}{b:Nat}{l l':List UInt8}(h1:WB s0 s1 b l)(h2:WB s1 s2 b l'):WB s0 s2 b l':=
 ⟨h2.1,h2.2.1,Dc h1.2.2.1 h2.2.2.1,fun j cs e g z hj he h=>h2.2.2.2 j cs e g z hj he (h1.2.2.2 j cs e g z hj he h)⟩
def Nf{s0 s:St}{b:Nat}{l:List UInt8}{cs:List V}{t:Nat}(h:WB s0 s b l)(hr:cs.all V.rowB=true):WB s0 (s++[.row cs t 0 0]) b l:=by
 obtain⟨⟨u,h1⟩,h2,h3,h4⟩:=h;refine⟨⟨u,Bbu h1⟩,Jj h2 hr,by grind,fun j cs e g z hj he h=>Bs (h4 j cs e g z hj he h)⟩
def Uw{s0 s:St}{b:Nat}{l:List UInt8}(h:WB s0 s b l):WB s s b l:=⟨h.1,h.2.1,An _,fun _ _ _ _ _ _ _ h=>h⟩
def Ho{s0 s:St}{b:Nat}{l:List UInt8}(h:WB s0 s b l)(t:List UInt8)(hb:l.length+t.length<=100000000000000):∃ s',Th TT PT 197 [.ptr b 0 0,.str t] s (.tup [iV (t.length:Int),.nili]) s'/\WB s0 s' b (l++t)/\WB s s' b (l++t):=by
 obtain⟨⟨u,h1⟩,h2,h3,h4⟩:=h;obtain⟨s',u',q1,q2,q3,q4,q5⟩:=A61 t h1 h2 hb
 have hw:WB s s' b (l++t):=by
  refine⟨⟨u',q2⟩,q3,q4,fun j cs e g z hj he hs=>?_⟩;rw[q5 j hj ?_ (Al.1 hs).1]
  .exact hs
  .intro hm;obtain⟨p,-,-,hg⟩:=h1;rcases hg with⟨rfl,-⟩ | ⟨-,i,g',rfl,ho,-⟩
   .grind[V.refs]
   grind[V.refs]
 exact⟨s',q1,K8 ⟨⟨u,h1⟩,h2,h3,h4⟩ hw,hw⟩
def Ve{T:Nat->Option AF}{pr:Nat->Option (List V->Option V)}{f p:Nat}{res:List AR}{body:AC}{vs:List V}{v:V}{σ:St}{R:St->Prop}(hT:T f=some ⟨p,res,true,body,none⟩)(hl:vs.length=p)
  (h:W T pr [.c body] (C6 0 vs) σ (Hd fun e' σ1=>Ca e' σ1 res=some v/\R σ1)) (hr:v.refs=[]) (ho:Cb v=true) (hR:∀ σ1,R σ1->σ.length<=σ1.length/\Cl σ1):∃ σ',Th T pr f vs σ v σ'/\R σ':=by
 obtain⟨e',σ1,hE,qx,h1⟩:=h;obtain⟨h2,h3⟩:=hR σ1 h1;exact⟨σ1,Ae0 hT hl ⟨e',σ1,hE,qx,rfl⟩ hr ho h2 h3,h1⟩
def Acx{x a:Xp}{i:Nat}(h:x.l[i]?=some a)(hi:i<2):Fn TT PT 248 [.agg x.row,iV (i:Int)] (.agg a.row):=by
 have qB:=(Al.1 h).1;rw[Bj x];have qb:=D0 a;have hn:(x.l.map Xp.row).length=x.l.length:=Aj ..;have g1:((x.l.length:Int)<=(i:Int))=False:=eq_false AA;refine Bc T248 rfl ?_;rw[Bj a]at qb ⊢;have qk:a.row=(xR a):=Bj a;simp only[go_sem,hn,g1,Ai,h,qk];exact F5 qb
def Ae7{x:Xp}(ho:1<=x.op/\x.op<=18){s0 s:St}{b:Nat}{l:List UInt8}(hx:∀ (s:St) (l:List UInt8),WB s s b l->l.length+x.txt.length<=10000000000000->∃ s',Th TT PT 237 [.ptr b 0 0,.agg x.row] s (.tup []) s'/\WB s s' b (l++x.txt))(qa:Int)(h:WB s0 s b l)(hl:l.length+(Ec (x.op,x.txt) qa).length<=10000000000000):
  ∃ s',Th TT PT 247 [.ptr b 0 0,.agg x.row,iV qa] s (.tup []) s'/\WB s s' b (l++Ec (x.op,x.txt) qa):=by
 have qd:=Xr ho;have qb:=D0 x;have qo:=Uw h;refine Ve T247 rfl ?_ rfl rfl (fun σ1 h=>⟨h.2.2.1,h.2.1⟩);rw[Bj]at hx qb ⊢;have qk:([iV x.op,iV x.n,.str x.nm,SL x.z x.t (x.l.map Xp.row)]).all V.rowB=true:=qb;obtain⟨s1,e1⟩:∃ s1,s1=s++[xO x]:=⟨_,rfl⟩;have w1:WB s s1 b l:=by rw[e1];exact Nf qo qk
 have k1:s1[s.length]?=some (xO x):=by rw[e1,Fd (An _),Hl];rfl
 have qc:s.length≠b:=by
  obtain⟨⟨u,p,hb,-⟩,-⟩:=h;have:=(Al.1 hb).1;omega
 unfold Ec at hl ⊢;by_cases qv:Bu x.op<qa
 .have f:(qa<=Bu x.op)=False:=eq_false AA;rw[if_pos qv]at hl ⊢;simp only[Bg,Aq,Dq]at hl;obtain⟨s2,q2,w2,v2⟩:=Ho w1 [40] (by grind);obtain⟨s3,q3,v3⟩:=hx s2 (l++[40]) (Uw w2) (by grind);obtain⟨s4,q4,w4,v4⟩:=Ho (K8 w2 v3) [41] (by grind);have k2:=v2.2.2.2 s.length _ _ _ _ qc AP k1;simp only[go_sem];refine Ab qd AB ?_;simp only[go_sem,f];rw[e1]at q2;refine B8 q2 ?_;simp only[go_sem,k2];refine B8 q3 ?_;simp only[go_sem];refine B8 q4 ?_;simp only[go_sem];exact⟨rfl,by grind⟩
 .have f:(qa<=Bu x.op)=True:=eq_true AA;rw[if_neg qv]at hl ⊢;obtain⟨s3,q3,v3⟩:=hx s1 l (Uw w1) AA;rw[e1]at q3;simp only[go_sem];refine Ab qd AB ?_;simp only[go_sem,f];refine B8 q3 ?_;simp only[go_sem];exact⟨rfl,K8 w1 v3⟩
def A7d{x:Xp}(h:Cn x):∀ (s:St) (b:Nat) (l:List UInt8),WB s s b l->l.length+x.txt.length<=10000000000000->∃ s',Th TT PT 237 [.ptr b 0 0,.agg x.row] s (.tup []) s'/\WB s s' b (l++x.txt):=by
 induction h with
 | @num n nm z t hn=>
  intro s b l h hl;rw[F3]at hl ⊢;simp only[Bz,Eh,if_true]at hl ⊢
  have qc:s.length≠b:=by
   obtain⟨⟨u,p,hb,-⟩,-⟩:=h;have:=(Al.1 hb).1;omega
  have qd:=Xr (op:=1) AA;have hf:P9 [iV n,iV 10]=some (.str (C0 n)):=by unfold P9;exact if_pos hn
  refine Ve T237 rfl ?_ rfl rfl (fun σ1 h=>⟨h.2.2.1,h.2.1⟩);rw[Bj];obtain⟨s1,e1⟩:∃ s1,s1=s++[Ob.row [iV 1,iV n,.str nm,SL z t []] 102 0 0,Ob.row [.str (Cq 1),iV (Bu 1)] 299 0 0]:=⟨_,rfl⟩
  have w1:WB s s1 b l:=by
   have:=Nf (Nf h (t:=102) (cs:=[iV 1,iV n,.str nm,SL z t []]) AB) (t:=299) (cs:=[.str (Cq 1),iV (Bu 1)]) rfl;rw[e1];simpa using this
  obtain⟨s2,q2,w2,v2⟩:=Ho w1 (C0 n) AA;rw[e1]at q2;simp only[Bz];simp only[go_sem];refine Ab qd AB ?_;simp only[go_sem,Int.reduceBEq];refine Fu P72 AB hf ?_;simp only[go_sem];refine B8 q2 ?_;simp only[go_sem];exact⟨rfl,w2⟩
 | @name n nm z t=>
  intro s b l h hl;rw[F3]at hl ⊢;simp only[Bz,Eh,show((2:Int)=1)=False from eq_false AA,if_false,if_true]at hl ⊢
  have qc:s.length≠b:=by
   obtain⟨⟨u,p,hb,-⟩,-⟩:=h;have:=(Al.1 hb).1;omega
  have qd:=Xr (op:=2) AA;refine Ve T237 rfl ?_ rfl rfl (fun σ1 h=>⟨h.2.2.1,h.2.1⟩);rw[Bj];obtain⟨s1,e1⟩:∃ s1,s1=s++[Ob.row [iV 2,iV n,.str nm,SL z t []] 102 0 0,Ob.row [.str (Cq 2),iV (Bu 2)] 299 0 0]:=⟨_,rfl⟩
  have w1:WB s s1 b l:=by
   have:=Nf (Nf h (t:=102) (cs:=[iV 2,iV n,.str nm,SL z t []]) AB) (t:=299) (cs:=[.str (Cq 2),iV (Bu 2)]) rfl;rw[e1];simpa using this
  obtain⟨s2,q2,w2,v2⟩:=Ho w1 nm AA;rw[e1]at q2;simp only[Bz];have lv:(Bu 2==7)=true:=by decide
  simp only[go_sem];refine Ab qd AB ?_;simp only[go_sem,Int.reduceBEq,lv];refine B8 q2 ?_;simp only[go_sem];exact⟨rfl,w2⟩
 | @idx n nm z t a ha ih=>
  intro s b l h hl;rw[F3]at hl ⊢;simp only[A2,Bz,Eh,show((3:Int)=1)=False from eq_false AA,show((3:Int)=2)=False from eq_false AA,if_false,if_true]at hl ⊢;have hl:l.length+nm.length+a.txt.length+2<=10000000000000:=by simp at hl;omega
  have qc:s.length≠b:=by
   obtain⟨⟨u,p,hb,-⟩,-⟩:=h;have:=(Al.1 hb).1;omega
  have qd:=Xr (op:=3) AA;have qe:=Acx (x:=⟨3,n,nm,z,t,[a]⟩) (a:=a) (i:=0) rfl AA;refine Ve T237 rfl ?_ rfl rfl (fun σ1 h=>⟨h.2.2.1,h.2.1⟩);rw[Bj]at qe ⊢;simp only[A2,Bz]at qe ⊢;obtain⟨s1,e1⟩:∃ s1,s1=s++[Ob.row [iV 3,iV n,.str nm,SL z t [a.row]] 102 0 0,Ob.row [.str (Cq 3),iV (Bu 3)] 299 0 0]:=⟨_,rfl⟩
  have w1:WB s s1 b l:=by
   have:=Nf (Nf h (t:=102) (cs:=[iV 3,iV n,.str nm,SL z t [a.row]]) AB) (t:=299) (cs:=[.str (Cq 3),iV (Bu 3)]) rfl;rw[e1];simpa using this
  have k1:s1[s.length]?=some (.row [iV 3,iV n,.str nm,SL z t [a.row]] 102 0 0):=by rw[e1,Fd (An _),Hl];rfl
  obtain⟨s2,q2,w2,v2⟩:=Ho w1 nm AA;obtain⟨s3,q3,w3,v3⟩:=Ho w2 [91] (by grind);have k3:=(K8 v2 v3).2.2.2 s.length _ _ _ _ qc AP k1
  have qg:Ec (a.op,a.txt) 1=a.txt:=by
   unfold Ec;have:=(Ae6 (S8 ha)).2.1;exact if_neg (by grind)
  obtain⟨s4,q4,v4⟩:=Ae7 (S8 ha) (fun s l h hl=>ih s b l h hl) 1 w3 (by grind);rw[qg]at v4;obtain⟨s5,q5,w5,v5⟩:=Ho (K8 w3 v4) [93] (by grind);rw[e1]at q2;have qz:=D0 a;simp only[go_sem];refine Ab qd AB ?_;simp only[go_sem,Int.reduceBEq];refine B8 q2 ?_;simp only[go_sem];refine B8 q3 ?_;simp only[go_sem,k3];refine Ab qe AB ?_;simp only[go_sem];refine B8 q4 ?_;simp only[go_sem];refine B8 q5 ?_;simp only[go_sem];exact⟨rfl,by grind⟩
 | @un op n nm z t a qn ha ih=>
  intro s b l h hl;have ho:1<=op/\op<=18:=by omega
  have ql:Bu op=6:=by rcases qn with rfl | rfl<;>rfl
  rw[F3]at hl ⊢
  have e0:Eh op n nm [(a.op,a.txt)]=Cq op++Ec (a.op,a.txt) 6:=by
   unfold Eh;rw[if_neg AA,if_neg AA];simp only;rw[if_neg AA]
  simp only[A2,Bz,e0,Aq]at hl ⊢;obtain⟨p1,p2⟩:=Oq (a.op,a.txt) 6;simp only at p1
  have qc:s.length≠b:=by
   obtain⟨⟨u,p,hb,-⟩,-⟩:=h;have:=(Al.1 hb).1;omega
  have qd:=Xr ho;rw[ql]at qd;have qe:=Acx (x:=⟨op,n,nm,z,t,[a]⟩) (a:=a) (i:=0) rfl AA;refine Ve T237 rfl ?_ rfl rfl (fun σ1 h=>⟨h.2.2.1,h.2.1⟩);rw[Bj]at qe ⊢;simp only[A2,Bz]at qe ⊢;obtain⟨s1,e1⟩:∃ s1,s1=s++[Ob.row [iV op,iV n,.str nm,SL z t [a.row]] 102 0 0,Ob.row [.str (Cq op),iV 6] 299 0 0]:=⟨_,rfl⟩
  have w1:WB s s1 b l:=by
   have:=Nf (Nf h (t:=102) (cs:=[iV op,iV n,.str nm,SL z t [a.row]]) AB) (t:=299) (cs:=[.str (Cq op),iV 6]) rfl;rw[e1];simpa using this
  have k1:s1[s.length]?=some (.row [iV op,iV n,.str nm,SL z t [a.row]] 102 0 0):=by rw[e1,Fd (An _),Hl];rfl
  obtain⟨s2,q2,w2,v2⟩:=Ho w1 (Cq op) AA;have k2:=v2.2.2.2 s.length _ _ _ _ qc AP k1;obtain⟨s3,q3,v3⟩:=Ae7 (S8 ha) (fun s l h hl=>ih s b l h hl) 6 w2 (by grind);rw[e1]at q2;have b1:(op==1)=false:=by simp;omega
  have b3:(op==3)=false:=by simp;omega
  simp only[go_sem];refine Ab qd AB ?_;simp only[go_sem,Int.reduceBEq,b1,b3];refine B8 q2 ?_;simp only[go_sem,k2];refine Ab qe AB ?_;simp only[go_sem];refine B8 q3 ?_;simp only[go_sem];exact⟨rfl,by grind[K8]⟩
 | @bin op n nm z t a c qn ha hc iha ihc=>
  intro s b l h hl;have ho:1<=op/\op<=18:=by omega
  obtain⟨jd,je,jf⟩:=Ae6 ho
  have ql:Bu op<6:=by
   obtain⟨i,hi,rfl⟩:=Aal ho;have:((List.range 18).all fun i=>decide (5<=i->Bu ((i:Int)+1)<6))=true:=by decide
   exact of_decide_eq_true (B6.1 this i (Gw.2 hi)) AA
  rw[F3]at hl ⊢
  have e0:Eh op n nm [(a.op,a.txt),(c.op,c.txt)]=Ec (a.op,a.txt) (Ii op)++32::(Cq op++32::Ec (c.op,c.txt) (Bu op+1)):=by
   unfold Eh;rw[if_neg AA,if_neg AA]
  simp only[A2,Bz,e0,Aq,Bg]at hl ⊢
  have qc:s.length≠b/\s.length+1≠b:=by
   obtain⟨⟨u,p,hb,-⟩,-⟩:=h;have:=(Al.1 hb).1;omega
  have qd:=Xr ho;have qi:=Acx (x:=⟨op,n,nm,z,t,[a,c]⟩) (a:=a) (i:=0) rfl AA;have qj:=Acx (x:=⟨op,n,nm,z,t,[a,c]⟩) (a:=c) (i:=1) rfl AA;refine Ve T237 rfl ?_ rfl rfl (fun σ1 h=>⟨h.2.2.1,h.2.1⟩);rw[Bj]at qi qj ⊢;simp only[A2,Bz]at qi qj ⊢;obtain⟨s1,e1⟩:∃ s1,s1=s++[Ob.row [iV op,iV n,.str nm,SL z t [a.row,c.row]] 102 0 0,Ob.row [.str (Cq op),iV (Bu op)] 299 0 0]:=⟨_,rfl⟩
  have w1:WB s s1 b l:=by
   have:=Nf (Nf h (t:=102) (cs:=[iV op,iV n,.str nm,SL z t [a.row,c.row]]) AB) (t:=299) (cs:=[.str (Cq op),iV (Bu op)]) rfl;rw[e1];simpa using this
  have k1:s1[s.length]?=some (.row [iV op,iV n,.str nm,SL z t [a.row,c.row]] 102 0 0):=by rw[e1,Fd (An _),Hl];rfl
  have m1:s1[s.length+1]?=some (.row [.str (Cq op),iV (Bu op)] 299 0 0):=by rw[e1,Fd AA,Ahb];rfl
  have qg:Ii op=(if(Bu op==3)=true then 4 else Bu op):=by unfold Ii;simp
  obtain⟨s2,q2,v2⟩:=Ae7 (S8 ha) (fun s l h hl=>iha s b l h hl) (Ii op) w1 AA;have k2:=v2.2.2.2 s.length _ _ _ _ qc.1 AP k1;have m2:=v2.2.2.2 (s.length+1) _ _ _ _ qc.2 AP m1;obtain⟨s3,q3,w3,v3⟩:=Ho v2 [32] (by grind);have k3:=v3.2.2.2 s.length _ _ _ _ qc.1 AP k2;have m3:=v3.2.2.2 (s.length+1) _ _ _ _ qc.2 AP m2;obtain⟨s4,q4,w4,v4⟩:=Ho v3 (Cq op) (by grind);have k4:=v4.2.2.2 s.length _ _ _ _ qc.1 AP k3;have m4:=v4.2.2.2 (s.length+1) _ _ _ _ qc.2 AP m3;obtain⟨s5,q5,w5,v5⟩:=Ho v4 [32] (by grind);have k5:=v5.2.2.2 s.length _ _ _ _ qc.1 AP k4;have m5:=v5.2.2.2 (s.length+1) _ _ _ _ qc.2 AP m4;obtain⟨s6,q6,v6⟩:=Ae7 (S8 hc) (fun s l h hl=>ihc s b l h hl) (Bu op+1) v5 (by grind);rw[e1]at q2;have b1:(op==1)=false:=by simp;omega
  have b3:(op==3)=false:=by simp;omega
  have b7:(Bu op==7)=false:=by simp;omega
  have b6:(Bu op==6)=false:=by simp;omega
  have wi:IntKind.i64.wrap (Bu op+1)=Bu op+1:=B7 AA
  have qI:WB s s6 b (l++(Ec (a.op,a.txt) (Ii op)++32::(Cq op++32::Ec (c.op,c.txt) (Bu op+1)))):=by
   have:=K8 w1 (K8 v2 (K8 v3 (K8 v4 (K8 v5 v6))));simpa using this
  cases h3:(Bu op==3)
  all_goals
   rw[h3]at qg;simp only[if_true,if_false,Hj]at qg;rw[qg]at q2;simp only[go_sem];refine Ab qd AB ?_;simp only[go_sem,Int.reduceBEq,b1,b3,b7,b6,h3];refine Ab qi AB ?_;simp only[go_sem];refine B8 q2 ?_;simp only[go_sem];refine B8 q3 ?_;simp only[go_sem,m3];refine B8 q4 ?_;simp only[go_sem];refine B8 q5 ?_;simp only[go_sem];refine Ad AD ?_;simp only[go_sem,k5];refine Ax qj AB ?_;simp only[go_sem,m5,wi];refine Aaf q6 (by repeat (first | exact trivial | refine⟨.inl AK,?_⟩ | refine⟨by rfl,?_⟩ | refine⟨.inr ⟨by rfl,by rfl⟩,?_⟩)) (by repeat (first | exact trivial | refine⟨.inl AK,?_⟩ | refine⟨by rfl,?_⟩ | refine⟨.inr ⟨by rfl,by rfl⟩,?_⟩)) ?_;simp only[go_sem];exact⟨rfl,qI⟩
def J4{vs:List V}{σ:St}{v:V}(h:vs.all Df=true)(he:V.tup vs=v):FR (.tup vs) σ v:=he ▸ Fp h
def Aww{s0 s:St}{b:Nat}{l:List UInt8}(h:WB s0 s b l):∃ s',Vl 216 5 [.ptr b 0 0] s=some (.str l,s'):=by
 obtain⟨⟨u,hu⟩,-⟩:=h
 grind[Bg2]
def Ze{x:Xp}(h:Cn x)(hl:x.txt.length<=10000000000000):Fn TT PT 223 [.agg x.row] (.str x.txt):=by
 have qb:=D0 x;refine Bc T223 rfl ?_
 have w0:WB [.row x.row 102 0 0,.row [.nilp,.nils] 216 0 0] [.row x.row 102 0 0,.row [.nilp,.nils] 216 0 0] 1 []:=by
  refine Asg (u:=.nils) ⟨.nilp,rfl,.inl rfl,De⟩ ?_;exact Jg (Jj (s:=[]) (fun _ h=>by cases h) (by rw[Bj];simp only[go_sem])) AT
 obtain⟨s1,q1,v1⟩:=A7d h _ 1 [] w0 (by grind);obtain⟨s2,qG⟩:=Aww v1;rw[Ci]at qG;rw[Bj]at q1 qb ⊢;simp only[go_sem];refine B8 q1 ?_;simp only[go_sem];refine Jf (.spec T166 rfl rfl qG) ?_;simp only[go_sem];exact F5 rfl
def A7e{s:Sp}(h:CnS s)(hl:(Ct s).length<=10000000000000):Fn TT PT 198 [.agg s.row] (.tup [.str (Ct s),.bool (B3 s.op)]):=by
 obtain⟨h1,h2,h3,h4,h5,-,-,-,-⟩:=h;obtain⟨op,line,nm,arg,iz,it,idx,ex,bz,bt,body,ez,et,els⟩:=s;simp only at h1 h2 h3 h4 h5 hl ⊢;rw[Sc];simp only;have hw:op=1\/op=2\/op=3\/op=4\/op=5\/op=6\/op=7\/op=8\/op=9\/op=10\/op=11\/op=12\/op=13\/op=14\/op=15:=by omega
 refine Bc T198 rfl ?_;rw[Bj];rcases hw with rfl | hw
 .have hx:=Ze (h5 (.inl rfl));simp only[Ct,if_true,Aq,Bg]at hl ⊢;have hx:=hx AA;rw[Bj]at hx
  cases idx with
  | nil=>
   simp only[Gi,Dq]at hl ⊢;have a2:Ap .add nm [32,61,32]=some (.str (nm++[32,61,32])):=As (by grind) rfl;have a3:Ap .add (nm++[32,61,32]) ex.txt=some (.str (nm++32::61::32::ex.txt)):=As (by grind) AE;simp only[go_sem,Int.reduceBEq,Int.reduceLT,↓a2];refine Ab hx AB ?_;simp only[go_sem,↓a3];exact J4 rfl (by simp[B3])
  | cons a r=>
   have ha:=Ze (h4 a Cr);simp only[Gi,Bg,Aq]at hl ⊢;have ha:=ha AA;rw[Bj]at ha;have r0:r=[]:=by simpa using h2
   subst r0;have a1:Ap .add [91] a.txt=some (.str (91::a.txt)):=As (by grind) rfl;have a2:Ap .add (91::a.txt) [93]=some (.str (91::(a.txt++[93]))):=As (by grind) AE;have a3:Ap .add nm (91::(a.txt++[93]))=some (.str (nm++91::(a.txt++[93]))):=As (by grind) rfl;have a4:Ap .add (nm++91::(a.txt++[93])) [32,61,32]=some (.str (nm++91::(a.txt++[93,32,61,32]))):=As (by grind) AE;have a5:Ap .add (nm++91::(a.txt++[93,32,61,32])) ex.txt=some (.str (nm++91::(a.txt++93::32::61::32::ex.txt))):=As (by grind) AE;simp only[A2,Bz];rw[Bj a];simp only[go_sem,Int.reduceBEq,Int.reduceLT];refine Ab ha AB ?_;simp only[go_sem,↓a1,↓a2,↓a3,↓a4];refine Ab hx AB ?_;simp only[go_sem,↓a5];exact J4 rfl (by simp[B3])
 rcases hw with rfl | hw
 .simp only[Ct,C7,B3]at hl ⊢;simp at hl;have hx:=Ze (h5 AA) AA;rw[Bj]at hx;have a1:Ap .add ([105,102,32]) (ex.txt)=some (.str (105::102::32::ex.txt)):=As (by grind) AE;simp only[go_sem,Int.reduceBEq,Int.reduceLT];refine Ab hx AB ?_;simp only[go_sem,↓a1];exact J4 rfl AE
 rcases hw with rfl | hw
 .simp only[Ct,C7,B3]at hl ⊢;simp at hl;have hx:=Ze (h5 AA) AA;rw[Bj]at hx;have a1:Ap .add ([119,104,105,108,101,32]) (ex.txt)=some (.str (119::104::105::108::101::32::ex.txt)):=As AL AE;simp only[go_sem,Int.reduceBEq,Int.reduceLT];refine Ab hx AB ?_;simp only[go_sem,↓a1];exact J4 rfl AE
 rcases hw with rfl | hw
 .simp only[Ct,C7,B3]at hl ⊢;simp at hl;have a1:Ap .add ([108,111,99,107,32]) (nm)=some (.str (108::111::99::107::32::nm)):=As AL AE;simp only[go_sem,Int.reduceBEq,Int.reduceLT,↓a1];exact J4 rfl AE
 rcases hw with rfl | hw
 .simp only[Ct,C7,B3]at hl ⊢;simp at hl;have a1:Ap .add ([114,101,97,100,32]) (nm)=some (.str (114::101::97::100::32::nm)):=As AL AE;simp only[go_sem,Int.reduceBEq,Int.reduceLT,↓a1];exact J4 rfl AE
 rcases hw with rfl | hw
 .simp only[Ct,C7,B3]at hl ⊢;simp at hl;have a1:Ap .add ([119,114,105,116,101,32]) (nm)=some (.str (119::114::105::116::101::32::nm)):=As AL AE;simp only[go_sem,Int.reduceBEq,Int.reduceLT,↓a1];exact J4 rfl AE
 rcases hw with rfl | hw
 .simp only[Ct,C7,B3]at hl ⊢;simp at hl;simp only[go_sem,Int.reduceBEq,Int.reduceLT];exact J4 rfl AE
 rcases hw with rfl | hw
 .simp only[Ct,C7,B3]at hl ⊢;simp at hl;simp only[go_sem,Int.reduceBEq,Int.reduceLT];exact J4 rfl AE
 rcases hw with rfl | hw
 .simp only[Ct,C7,B3]at hl ⊢;simp at hl;have a1:Ap .add ([119,97,105,116,32]) (nm)=some (.str (119::97::105::116::32::nm)):=As AL AE;simp only[go_sem,Int.reduceBEq,Int.reduceLT,↓a1];exact J4 rfl AE
 rcases hw with rfl | hw
 .simp only[Ct,C7,B3]at hl ⊢;simp at hl;have a1:Ap .add ([110,111,116,105,102,121,32]) (nm)=some (.str (110::111::116::105::102::121::32::nm)):=As AL AE;simp only[go_sem,Int.reduceBEq,Int.reduceLT,↓a1];exact J4 rfl AE
 rcases hw with rfl | hw
 .simp only[Ct,C7,B3]at hl ⊢;simp at hl;have a1:Ap .add ([110,111,116,105,102,121,97,108,108,32]) (nm)=some (.str (110::111::116::105::102::121::97::108::108::32::nm)):=As AL AE;simp only[go_sem,Int.reduceBEq,Int.reduceLT,↓a1];exact J4 rfl AE
 rcases hw with rfl | hw
 .simp only[Ct,C7,B3]at hl ⊢;simp at hl;have a1:Ap .add ([115,112,97,119,110,32]) (nm)=some (.str (115::112::97::119::110::32::nm)):=As AL AE;simp only[go_sem,Int.reduceBEq,Int.reduceLT,↓a1];exact J4 rfl AE
 rcases hw with rfl | hw
 .simp only[Ct,C7,B3]at hl ⊢;simp at hl;have a1:Ap .add ([106,111,105,110,32]) (nm)=some (.str (106::111::105::110::32::nm)):=As AL AE;simp only[go_sem,Int.reduceBEq,Int.reduceLT,↓a1];exact J4 rfl AE
 rcases hw with rfl | hw
 .simp only[Ct,C7,B3]at hl ⊢;simp at hl;have hx:=Ze (h5 AA) AA;rw[Bj]at hx;have a1:Ap .add ([115,101,116,32]) (nm)=some (.str (115::101::116::32::nm)):=As (by grind) AE;have a2:Ap .add (115::101::116::32::nm) ([32])=some (.str (115::101::116::32::(nm++[32]))):=As (by grind) AE;have a3:Ap .add (115::101::116::32::(nm++[32])) (ex.txt)=some (.str (115::101::116::32::(nm++32::ex.txt))):=As (by grind) AE;simp only[go_sem,Int.reduceBEq,Int.reduceLT];refine Ad AD ?_;simp only[go_sem,↓a1,↓a2];refine Ax hx AB ?_;simp only[go_sem,↓a3];exact J4 rfl AE
 subst hw;simp only[Ct,C7,B3]at hl ⊢;simp at hl;have a1:Ap .add ([103,101,116,32]) (nm)=some (.str (103::101::116::32::nm)):=As (by grind) AE;have a2:Ap .add (103::101::116::32::nm) ([32])=some (.str (103::101::116::32::(nm++[32]))):=As (by grind) AE;have a3:Ap .add (103::101::116::32::(nm++[32])) (arg)=some (.str (103::101::116::32::(nm++32::arg))):=As (by grind) AE;simp only[go_sem,Int.reduceBEq,Int.reduceLT,↓a1,↓a2,↓a3];exact J4 rfl AE
