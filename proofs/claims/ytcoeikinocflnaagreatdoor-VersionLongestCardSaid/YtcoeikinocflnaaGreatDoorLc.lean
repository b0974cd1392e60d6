/- Plain: the tokens of a program's text are parsed as that program, apart from lines. -/
import Derived.Test.YtcoeikinocflnaaGreatDoorLb
set_option linter.all false
namespace Go.Proofs.YtcoeikinocflnaaGreatDoor.KM
open Go
/-! what a shaped program has -/
def Uf(x:Xp):Prop:=x.op=0/\x.n=0/\x.nm=[]/\x.l=[]
def Hy(op:Int):Bool:=op==2||(op==3||(op==7||op==8))
def Ec(op:Int):Bool:=op==1||(op==2||(op==3||op==14))
inductive ShS:Sp->Prop
 | mk {s:Sp}:1<=s.op/\s.op<=15->(Hy s.op=true->s.nm=[])->(Hy s.op=false->Dz s.nm=true)->(s.op=15->Dz s.arg=true)->(s.op≠15->s.arg=[]) ->
   s.idx.length<=1->(s.op≠1->s.idx=[])->(∀ x∈s.idx,ShE x)->(Ec s.op=true->ShE s.ex)->(Ec s.op=false->Uf s.ex) ->
   (A8 s.op=false->s.body=[])->(s.op≠2->s.els=[])->(∀ x∈s.body,ShS x)->(∀ x∈s.els,ShS x)->ShS s
structure ShD (d:Dp):Prop where
 kind:1<=d.kind/\d.kind<=6
 nm:Dz d.nm=true
 size:0<=d.size/\d.size<=9223372036854775807/\(d.kind≠1->d.size=0)
 init : -9223372036854775808<d.init/\d.init<=9223372036854775807/\(d.kind≠1->d.kind≠2->d.init=0)
 on:(d.kind=5->Dz d.on=true)/\(d.kind≠5->d.on=[])
structure ShG (p:Gp):Prop where
 decls:∀ d∈p.decls,ShD d
 nms:∀ t∈p.thrs,Dz t.nm=true
 locs:∀ t∈p.thrs,∀ s∈t.locals,Dz s=true
 thrs:∀ t∈p.thrs,∀ s∈t.body,ShS s
 some:p.thrs≠[]
theorem Aj3{s:Sp}(h:ShS s):CnS s:=by
 induction h with
 | mk h1 h2 h3 h4 h5 h6 h7 h8 h9 h10 h11 h12 h13 h14 ih1 ih2=>
  refine .mk h1 h6 h7 (fun x hx=>Aj2 (h8 x hx)) (fun hv=>Aj2 (h9 ?_)) h11 h12 ih1 ih2
  rcases hv with h | h | h | h<;>rw[h]<;>rfl
/-! equal apart from lines -/
mutual
def Nl:Sp->Sp->Bool
 | ⟨op,_,nm,arg,_,_,idx,ex,_,_,body,_,_,els⟩,⟨op',_,nm',arg',_,_,idx',ex',_,_,body',_,_,els'⟩=>op==op'&&(nm==nm'&&(arg==arg'&&(Fc ex ex'&&(F9 idx idx'&&(Fl body body'&&Fl els els')))))
def Fl:List Sp->List Sp->Bool
 | [],[]=>true
 | x::l,y::l'=>Nl x y&&Fl l l'
 | [],_::_=>false
 | _::_,[]=>false
end
def Us(a b:Dp):Bool:=a.kind==b.kind&&(a.nm==b.nm&&(a.size==b.size&&(a.init==b.init&&a.on==b.on)))
def Rp(a b:Tp):Bool:=a.nm==b.nm&&(a.locals==b.locals&&Fl a.body b.body)
def L8(a b:Gp):Bool:=(a.decls.length==b.decls.length&&(a.decls.zip b.decls).all fun p=>Us p.1 p.2)&&(a.thrs.length==b.thrs.length&&(a.thrs.zip b.thrs).all fun p=>Rp p.1 p.2)
/-! tokens -/
def U3(l:List Xp):List Kt:=match l with
 | a::_=>(4,[91])::(a.toks++[(4,[93])])
 | []=>[]
def X8(s:Sp):List Kt:=
 if s.op=1 then(1,s.nm)::(U3 s.idx++(4,[61])::s.ex.toks)
 else if s.op=2\/s.op=3 then(3,Bt s.op)::s.ex.toks
 else if s.op=7\/s.op=8 then [(3,Bt s.op)]
 else if s.op=14 then(3,Bt s.op)::(1,s.nm)::s.ex.toks
 else if s.op=15 then [(3,Bt s.op),(1,s.nm),(1,s.arg)]
 else [(3,Bt s.op),(1,s.nm)]
def Rq:List UInt8:=[101,108,115,101]
mutual
def Sp.toks:Sp->List Kt
 | ⟨op,line,nm,arg,iz,it,idx,ex,bz,bt,body,ez,et,els⟩=>
  X8 ⟨op,line,nm,arg,iz,it,idx,ex,bz,bt,body,ez,et,els⟩ ++
   if A8 op then(4,[123])::(Sp.tokss body++(4,[125])::(if els.isEmpty then [] else(3,Rq)::(4,[123])::(Sp.tokss els++[(4,[125])]))) else [(4,[59])]
def Sp.tokss:List Sp->List Kt
 | []=>[]
 | x::l=>x.toks++Sp.tokss l
end
theorem An5:((List.range 14).all fun i=>C2 (Bt ((i:Int)+2))==(i:Int)+2)=true:=by decide
theorem Atu{op:Int}(h:2<=op/\op<=15):C2 (Bt op)=op:=by
 obtain⟨i,hi,rfl⟩:∃ i:Nat,i<14/\op=(i:Int)+2:=⟨(op - 2).toNat,by omega,by omega⟩
 simpa using A3.1 An5 i (Ej.2 hi)
theorem W9(hnum:Im){x:Xp}(h:ShE x){n:Nat}{ts:List Tk}{r:List Kt}(hm:ts.map Tk.kt=x.toks++r)(hs:Nk 1 r)(hn:8*ts.length+7<=n+1):∃ y ts',pe n 1 ts=some (y,ts')/\ts'.map Tk.kt=r/\Fc x y=true:=by
 refine(Axw hnum h 1 (by omega) (by omega)).1 n ts r ?_ hs hn
 have:=(W7 (Aj1 h)).2.1
 rw[Lv (by simpa using this)]
 exact hm
theorem Wi{w:List UInt8}(h1:En w=(0,0))(h2:(w==[91])=false)(r:List Kt):Nk 1 ((4,w)::r):=⟨fun l _=>by
 simp only[Pr,if_true,h1]
 split<;>rfl,by simp only[Hw];simp at h2 ⊢;exact h2⟩
theorem J9{k:Int}{w:List UInt8}{t:Tk}{ts:List Tk}(hk:k=3\/k=4)(h:t.kind=k)(hw:t.text=w):Ai w (t::ts)=true:=by
 simp only[Ai]
 rw[h,hw]
 rcases hk with rfl | rfl<;>simp
theorem Ih{w:List UInt8}{ts:List Tk}{r:List Kt}(h:ts.map Tk.kt=(4,w)::r):∃ ts',Co w ts=some ts'/\ts'.map Tk.kt=r:=by
 obtain⟨t,ts',rfl,h1,h2,h3⟩:=C7 h
 exact⟨ts',by simp only[Co];rw[J9 (.inr rfl) h1 h2];rfl,h3⟩
theorem Jm{w:List UInt8}{ts:List Tk}{r:List Kt}(h:ts.map Tk.kt=(1,w)::r):∃ ts',B4 ts=some (w,ts')/\ts'.map Tk.kt=r:=by
 obtain⟨t,ts',rfl,h1,h2,h3⟩:=C7 h
 exact⟨ts',by simp only[B4];rw[if_pos h1,h2],h3⟩
theorem Fd{ts:List Tk}{r:List Kt}(h:ts.map Tk.kt=r):ts.length=r.length:=by
 have:=congrArg List.length h
 simpa using this
theorem Axx(hnum:Im){s:Sp}(h1:s.idx.length<=1)(h2:∀ x∈s.idx,ShE x)(h3:ShE s.ex){n:Nat}{line:Int}{ts:List Tk}{r:List Kt}(hm:ts.map Tk.kt=(1,s.nm)::(U3 s.idx++(4,[61])::(s.ex.toks++(4,[59])::r)))(hn:8*ts.length+7<=n+1):
  ∃ s' ts',Mc n line ts=some (s',ts')/\ts'.map Tk.kt=r/\s'.op=1/\s'.nm=s.nm/\s'.arg=[]/\F9 s.idx s'.idx=true/\Fc s.ex s'.ex=true/\s'.body=[]/\s'.els=[]:=by
 have hl:=Fd hm
 obtain⟨ts1,a1,a2⟩:=Jm hm
 have hl1:=Fd a2
 simp only[Af,Aj]at hl hl1
 have hidx:∃ ix ts2,U2 n ts1=some (ix,ts2)/\ts2.map Tk.kt=(4,[61])::(s.ex.toks++(4,[59])::r)/\F9 s.idx ix=true:=by
  unfold U2
  match hi:s.idx,h1 with
  | [],_=>
   rw[hi]at a2
   obtain⟨t,ts',rfl,k1,k2,k3⟩:=C7 a2
   rw[if_neg (by rw[Ju k1 k2];decide)]
   exact⟨_,_,rfl,a2,rfl⟩
  | [a],_=>
   rw[hi]at a2
   simp only[U3,Cq,Bz,Bw]at a2
   obtain⟨t,ts',rfl,k1,k2,k3⟩:=C7 a2
   have hl2:=Fd k3
   simp only[Af,Aj]at hl2 hl1
   obtain⟨y,ts3,p1,p2,p3⟩:=W9 hnum (h2 a (by rw[hi];simp)) k3 (Wi rfl rfl _) (n:=n) (by rw[hi]at hl hl1;simp only[U3,Af,Aj]at hl hl1;omega)
   obtain⟨ts4,q1,q2⟩:=Ih p2
   rw[if_pos (by rw[Ju k1 k2];rfl),Jj,p1]
   simp only
   rw[q1]
   exact⟨_,_,rfl,q2,by simp[F9,p3]⟩
  | _::_::_,h=>simp at h
 obtain⟨ix,ts2,b1,b2,b3⟩:=hidx
 obtain⟨ts3,c1,c2⟩:=Ih b2
 have hl3:=Fd c2
 simp only[Af,Aj]at hl3
 obtain⟨y,ts4,d1,d2,d3⟩:=W9 hnum h3 c2 (Wi rfl rfl _) (n:=n) (by omega)
 obtain⟨ts5,e1,e2⟩:=Ih d2
 refine⟨{ Ag 1 line with nm:=s.nm,it:=ix.length,idx:=ix,ex:=y },ts5,?_,e2,rfl,rfl,rfl,b3,d3,rfl,rfl⟩
 unfold Mc
 rw[a1]
 simp only
 rw[b1]
 simp only
 rw[c1]
 simp only
 rw[d1]
 simp only
 rw[e1]
 rfl
theorem Mv{s s':Sp}(h1:s.op=s'.op)(h2:s.nm=s'.nm)(h3:s.arg=s'.arg)(h4:Fc s.ex s'.ex=true)(h5:F9 s.idx s'.idx=true)(h6:Fl s.body s'.body=true)(h7:Fl s.els s'.els=true):Nl s s'=true:=by
 cases s
 cases s'
 simp only at h1 h2 h3 h4 h5 h6 h7
 subst h1 h2 h3
 simp[Nl,h4,h5,h6,h7]
theorem V8{x:Xp}(h:Uf x):Fc x Xp.zero=true:=by
 obtain⟨h1,h2,h3,h4⟩:=h
 cases x
 simp only at h1 h2 h3 h4
 subst h1 h2 h3 h4
 rfl
def RTs(s:Sp):Prop:=∀ (n:Nat) (ts:List Tk) (r:List Kt),ts.map Tk.kt=s.toks++r->Hw Rq r=false->10*ts.length+10<=n->∃ s' ts',D8 n ts=some (s',ts')/\ts'.map Tk.kt=r/\Nl s s'=true
theorem Afw{s:Sp}(h:ShS s):∃ k w l,s.toks=(k,w)::l/\((k=1/\s.op=1)\/(k=3/\w=Bt s.op/\2<=s.op/\s.op<=15)):=by
 obtain⟨op,line,nm,arg,iz,it,idx,ex,bz,bt,body,ez,et,els⟩:=s
 cases h with
 | mk h1=>
  simp only at h1
  simp only[Sp.toks,X8]
  by_cases a:op=1
  ·rw[if_pos a];exact⟨_,_,_,rfl,.inl ⟨rfl,a⟩⟩
  rw[if_neg a]
  have hr:2<=op/\op<=15:=by omega
  by_cases b:op=2\/op=3
  ·rw[if_pos b];exact⟨_,_,_,rfl,.inr ⟨rfl,rfl,hr⟩⟩
  rw[if_neg b]
  by_cases c:op=7\/op=8
  ·rw[if_pos c];exact⟨_,_,_,rfl,.inr ⟨rfl,rfl,hr⟩⟩
  rw[if_neg c]
  by_cases d:op=14
  ·rw[if_pos d];exact⟨_,_,_,rfl,.inr ⟨rfl,rfl,hr⟩⟩
  rw[if_neg d]
  by_cases e:op=15
  ·rw[if_pos e];exact⟨_,_,_,rfl,.inr ⟨rfl,rfl,hr⟩⟩
  rw[if_neg e]
  exact⟨_,_,_,rfl,.inr ⟨rfl,rfl,hr⟩⟩
theorem Amq:((List.range 14).all fun i=>Bt ((i:Int)+2) != Rq)=true:=by decide
theorem Aet{s:Sp}(h:ShS s)(r:List Kt):Hw Rq (s.toks++r)=false/\Hw [125] (s.toks++r)=false:=by
 obtain⟨k,w,l,e,hk⟩:=Afw h
 rw[e,Cq]
 rcases hk with⟨rfl,-⟩ | ⟨rfl,rfl,h2⟩
 ·exact⟨rfl,rfl⟩
 ·obtain⟨i,hi,he⟩:∃ i:Nat,i<14/\s.op=(i:Int)+2:=⟨(s.op - 2).toNat,by omega,by omega⟩
  have h1:=A3.1 Amq i (Ej.2 hi)
  have h2:((List.range 14).all fun i=>Bt ((i:Int)+2) != [125])=true:=by decide
  have h2:=A3.1 h2 i (Ej.2 hi)
  rw[<-he]at h1 h2
  simp only[bne_iff_ne,ne_eq]at h1 h2
  simp only[Hw]
  simp[h1,h2]
theorem Ais:∀ {l:List Sp},(∀ s∈l,ShS s)->(∀ s∈l,RTs s)->∀ {n:Nat} {ts:List Tk} {r:List Kt},ts.map Tk.kt=Sp.tokss l++(4,[125])::r->10*ts.length+11<=n->∃ l' ts',F7 n ts=some (l',ts')/\ts'.map Tk.kt=r/\Fl l l'=true
 | [],_,_,n,ts,r,hm,hn=>by
  obtain⟨n,rfl⟩:∃ k,n=k+1:=⟨n - 1,by omega⟩
  simp only[Sp.tokss,Bw]at hm
  obtain⟨t,ts',rfl,k1,k2,k3⟩:=C7 hm
  exact⟨[],ts',by rw[F7,if_pos (J9 (.inr rfl) k1 k2)];rfl,k3,rfl⟩
 | s::l,h1,h2,n,ts,r,hm,hn=>by
  obtain⟨n,rfl⟩:∃ k,n=k+1:=⟨n - 1,by omega⟩
  simp only[Sp.tokss,Bz]at hm
  have hs:=h1 s Dm
  have hel:Hw Rq (Sp.tokss l++(4,[125])::r)=false:=by
   cases l with
   | nil=>rfl
   | cons s2 l=>
    simp only[Sp.tokss,Bz]
    exact(Aet (h1 s2 (by simp)) _).1
  obtain⟨s',ts1,p1,p2,p3⟩:=h2 s Dm n ts _ hm hel (by omega)
  have hl:=Fd hm
  have hl1:=Fd p2
  obtain⟨k,w,q,e,-⟩:=Afw hs
  rw[e]at hl
  simp only[Af,Aj]at hl hl1
  obtain⟨l',ts2,q1,q2,q3⟩:=Ais (n:=n) (l:=l) (fun s hs=>h1 s (Db _ hs)) (fun s hs=>h2 s (Db _ hs)) p2 (by omega)
  refine⟨s'::l',ts2,?_,q2,by simp[Fl,p3,q3]⟩
  rw[F7,if_neg (by rw[M3,hm,(Aet hs _).2];simp),p1]
  simp only
  rw[q1]
theorem Tc{l:List Sp}(h1:∀ s∈l,ShS s)(h2:∀ s∈l,RTs s){n:Nat}{ts:List Tk}{r:List Kt}(hm:ts.map Tk.kt=(4,[123])::(Sp.tokss l++(4,[125])::r))(hn:10*ts.length+2<=n):∃ l' ts',Dw n ts=some (l',ts')/\ts'.map Tk.kt=r/\Fl l l'=true:=by
 obtain⟨t,ts',rfl,k1,k2,k3⟩:=C7 hm
 rw[Af]at hn
 obtain⟨n,rfl⟩:∃ k,n=k+1:=⟨n - 1,by omega⟩
 obtain⟨l',ts1,p1,p2,p3⟩:=Ais (n:=n) h1 h2 k3 (by omega)
 exact⟨l',ts1,by rw[Dw,if_pos (J9 (.inr rfl) k1 k2)];exact p1,p2,p3⟩
theorem Atv(hnum:Im){s:Sp}(h:ShS s):RTs s:=by
 induction h with
 | @mk s h1 h2 h3 h4 h5 h6 h7 h8 h9 h10 h11 h12 h13 h14 ih1 ih2=>
  intro n ts r hm hel hn
  obtain⟨op,line,nm,arg,iz,it,idx,ex,bz,bt,body,ez,et,els⟩:=s
  simp only at h1 h2 h3 h4 h5 h6 h7 h8 h9 h10 h11 h12 h13 h14 ih1 ih2
  simp only[Sp.toks,X8]at hm
  obtain⟨n,rfl⟩:∃ k,n=k+1:=⟨n - 1,by omega⟩
  by_cases a:op=1
  ·subst a
   rw[if_pos rfl,if_neg (by decide)]at hm
   simp only[Cq,Bz,Bw]at hm
   obtain⟨t,ts',rfl,k1,k2,k3⟩:=C7 hm
   obtain⟨s',ts1,p1,p2,p3,p4,p5,p6,p7,p8,p9⟩:=Axx hnum (s:=⟨1,line,nm,arg,iz,it,idx,ex,bz,bt,body,ez,et,els⟩) h6 h8 (h9 rfl) (line:=t.line) hm (n:=n) (by omega)
   refine⟨s',ts1,by rw[D8,if_pos k1];exact p1,p2,Mv p3.symm p4.symm ?_ p7 p6 ?_ ?_⟩
   ·rw[p5];exact h5 (by decide)
   ·rw[p8];simp only;rw[h11 rfl];rfl
   ·rw[p9];simp only;rw[h12 (by decide)];rfl
  have hr:2<=op/\op<=15:=by omega
  have hix:=h7 a
  subst hix
  have hw:=Atu hr
  rw[if_neg a]at hm
  by_cases b:op=2\/op=3
  ·have hv:Ec op=true:=by rcases b with rfl | rfl<;>rfl
   have hb:A8 op=true:=by rcases b with rfl | rfl<;>rfl
   have hnl:nm=[]:=h2 (by rcases b with rfl | rfl<;>rfl)
   rw[if_pos b,if_pos hb]at hm
   simp only[Cq,Bz,Bw]at hm
   obtain⟨t,ts1,rfl,k1,k2,k3⟩:=C7 hm
   have hl:=Fd k3
   rw[Af]at hn
   simp only[Aj,Af]at hl
   obtain⟨y,ts2,p1,p2,p3⟩:=W9 hnum (h9 hv) k3 (Wi rfl rfl _) (n:=n) (by omega)
   have hl2:=Fd p2
   simp only[Aj,Af]at hl2
   obtain⟨bd,ts3,q1,q2,q3⟩:=Tc h13 ih1 p2 (n:=n) (by omega)
   have hl3:=Fd q2
   simp only[Aj]at hl3
   rw[D8,if_neg (by omega),if_pos k1,k2,hw,if_neg (by omega),if_pos b,p1]
   simp only
   rw[q1]
   simp only
   by_cases he:els=[]
   ·subst he
    simp only[List.isEmpty_nil,if_true,Bw]at q2
    rw[if_neg (by rw[M3,q2,show [101,108,115,101]=Rq from rfl,hel];simp)]
    exact⟨_,_,rfl,q2,Mv rfl (by simp[Ag,hnl]) (by simpa[Ag] using h5 (by omega)) p3 rfl q3 rfl⟩
   ·have h2:op=2:=by
     by_cases h:op=2
     ·exact h
     ·exact absurd (h12 h) he
    have hie:els.isEmpty=false:=by simpa using he
    rw[hie]at q2 hl3 hl2 hl
    simp only[Eh,if_false,Cq,Bz,Bw,Af,Aj]at q2 hl3 hl2 hl
    obtain⟨t4,ts4,rfl,k4,k5,k6⟩:=C7 q2
    have hl4:=Fd k6
    simp only[Aj,Af]at hl4 hl3
    obtain⟨ed,ts5,r1,r2,r3⟩:=Tc h14 ih2 k6 (n:=n) (by omega)
    rw[if_pos ⟨h2,J9 (.inl rfl) k4 k5⟩,Jj,r1]
    exact⟨_,_,rfl,r2,Mv rfl (by simp[Ag,hnl]) (by simpa[Ag] using h5 (by omega)) p3 rfl q3 r3⟩
  rw[if_neg b]at hm
  have hes:els=[]:=h12 (by omega)
  subst hes
  by_cases c:op=7\/op=8
  ·have hb:A8 op=true:=by rcases c with rfl | rfl<;>rfl
   have hnl:nm=[]:=h2 (by rcases c with rfl | rfl<;>rfl)
   have hbl:Uf ex:=h10 (by rcases c with rfl | rfl<;>rfl)
   rw[if_pos c,if_pos hb]at hm
   simp only[Cq,Bz,Bw,List.isEmpty_nil,if_true]at hm
   obtain⟨t,ts1,rfl,k1,k2,k3⟩:=C7 hm
   rw[Af]at hn
   obtain⟨bd,ts3,q1,q2,q3⟩:=Tc h13 ih1 k3 (n:=n) (by omega)
   rw[D8,if_neg (by omega),if_pos k1,k2,hw,if_neg (by omega),if_neg b,if_pos c,q1]
   exact⟨_,_,rfl,q2,Mv rfl (by simp[Ag,hnl]) (by simpa[Ag] using h5 (by omega)) (V8 hbl) rfl q3 rfl⟩
  rw[if_neg c]at hm
  have hnn:op≠2/\op≠3/\op≠7/\op≠8:=by omega
  by_cases d:op=14
  ·subst d
   rw[if_pos rfl,if_neg (by decide)]at hm
   simp only[Cq,Bz,Bw]at hm
   obtain⟨t,ts1,rfl,k1,k2,k3⟩:=C7 hm
   rw[Af]at hn
   obtain⟨ts2,a1,a2⟩:=Jm k3
   have hl:=Fd k3
   have hl2:=Fd a2
   simp only[Aj,Af]at hl hl2
   obtain⟨y,ts3,p1,p2,p3⟩:=W9 hnum (h9 rfl) a2 (Wi rfl rfl _) (n:=n) (by omega)
   obtain⟨ts4,e1,e2⟩:=Ih p2
   rw[D8,if_neg (by omega),if_pos k1,k2,hw,if_neg (by omega),if_neg b,if_neg c,a1]
   simp only
   rw[if_neg (by omega),if_pos trivial,p1]
   simp only
   rw[e1]
   exact⟨_,_,rfl,e2,Mv rfl rfl (by simpa[Ag] using h5 (by omega)) p3 rfl (by simp only;rw[h11 rfl];rfl) rfl⟩
  rw[if_neg d]at hm
  by_cases e:op=15
  ·subst e
   rw[if_pos rfl,if_neg (by decide)]at hm
   simp only[Cq,Bz,Bw]at hm
   obtain⟨t,ts1,rfl,k1,k2,k3⟩:=C7 hm
   obtain⟨ts2,a1,a2⟩:=Jm k3
   obtain⟨ts3,b1,b2⟩:=Jm a2
   obtain⟨ts4,e1,e2⟩:=Ih b2
   have hbl:Uf ex:=h10 rfl
   rw[D8,if_neg (by omega),if_pos k1,k2,hw,if_neg (by omega),if_neg b,if_neg c,a1]
   simp only
   rw[if_neg (by omega),if_neg (by omega),if_pos trivial,b1]
   simp only
   rw[e1]
   exact⟨_,_,rfl,e2,Mv rfl rfl rfl (V8 hbl) rfl (by simp only;rw[h11 rfl];rfl) rfl⟩
  rw[if_neg e]at hm
  have hbl:Uf ex:=h10 (by unfold Ec;simp;omega)
  by_cases f:op=4\/op=5\/op=6
  ·have hb:A8 op=true:=by rcases f with rfl | rfl | rfl<;>rfl
   rw[if_pos hb]at hm
   simp only[Cq,Bz,Bw,List.isEmpty_nil,if_true]at hm
   obtain⟨t,ts1,rfl,k1,k2,k3⟩:=C7 hm
   rw[Af]at hn
   obtain⟨ts2,a1,a2⟩:=Jm k3
   have hl:=Fd k3
   have hl2:=Fd a2
   simp only[Aj,Af]at hl hl2
   obtain⟨bd,ts3,q1,q2,q3⟩:=Tc h13 ih1 a2 (n:=n) (by omega)
   rw[D8,if_neg (by omega),if_pos k1,k2,hw,if_neg (by omega),if_neg b,if_neg c,a1]
   simp only
   rw[if_pos f,q1]
   exact⟨_,_,rfl,q2,Mv rfl rfl (by simpa[Ag] using h5 (by omega)) (V8 hbl) rfl q3 rfl⟩
  ·have hb:A8 op=false:=by unfold A8;simp;omega
   rw[if_neg (by rw[hb];simp)]at hm
   simp only[Cq,Bz,Bw]at hm
   obtain⟨t,ts1,rfl,k1,k2,k3⟩:=C7 hm
   obtain⟨ts2,a1,a2⟩:=Jm k3
   obtain⟨ts4,e1,e2⟩:=Ih a2
   rw[D8,if_neg (by omega),if_pos k1,k2,hw,if_neg (by omega),if_neg b,if_neg c,a1]
   simp only
   rw[if_neg f,if_neg d,if_neg e,e1]
   exact⟨_,_,rfl,e2,Mv rfl rfl (by simpa[Ag] using h5 (by omega)) (V8 hbl) rfl (by simp only;rw[h11 hb];rfl) rfl⟩
end Go.Proofs.YtcoeikinocflnaaGreatDoor.KM
