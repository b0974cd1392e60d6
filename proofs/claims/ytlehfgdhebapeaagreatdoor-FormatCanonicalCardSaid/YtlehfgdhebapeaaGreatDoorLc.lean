/- Plain: the tokens of a program's text are parsed as that program, apart from lines. -/
import Derived.Test.YtlehfgdhebapeaaGreatDoorLb
set_option linter.all false
namespace Go.Proofs.YtlehfgdhebapeaaGreatDoor.KM
open Go
/-! what a shaped program has -/
def Ng(x:Xp):Prop:=x.op=0/\x.n=0/\x.nm=[]/\x.l=[]
def G3(op:Int):Bool:=op==2||(op==3||(op==7||op==8))
def Ee(op:Int):Bool:=op==1||(op==2||(op==3||op==14))
inductive ShS:Sp->Prop
 | mk {s:Sp}:1<=s.op/\s.op<=15->(G3 s.op=true->s.nm=[])->(G3 s.op=false->Cx s.nm=true)->(s.op=15->Cx s.arg=true)->(s.op≠15->s.arg=[]) ->
   s.idx.length<=1->(s.op≠1->s.idx=[])->(∀ x∈s.idx,ShE x)->(Ee s.op=true->ShE s.ex)->(Ee s.op=false->Ng s.ex) ->
   (Bk s.op=false->s.body=[])->(s.op≠2->s.els=[])->(∀ x∈s.body,ShS x)->(∀ x∈s.els,ShS x)->ShS s
structure ShD (d:Dp):Prop where
 kind:1<=d.kind/\d.kind<=6
 nm:Cx d.nm=true
 size:0<=d.size/\d.size<=9223372036854775807/\(d.kind≠1->d.size=0)
 init : -9223372036854775808<d.init/\d.init<=9223372036854775807/\(d.kind≠1->d.kind≠2->d.init=0)
 on:(d.kind=5->Cx d.on=true)/\(d.kind≠5->d.on=[])
structure ShG (p:Gp):Prop where
 decls:∀ d∈p.decls,ShD d
 nms:∀ t∈p.thrs,Cx t.nm=true
 locs:∀ t∈p.thrs,∀ s∈t.locals,Cx s=true
 thrs:∀ t∈p.thrs,∀ s∈t.body,ShS s
 some:p.thrs≠[]
theorem Avl{s:Sp}(h:ShS s):CnS s:=by
 induction h with
 | mk h1 h2 h3 h4 h5 h6 h7 h8 h9 h10 h11 h12 h13 h14 ih1 ih2=>
  refine .mk h1 h6 h7 (fun x hx=>Ai8 (h8 x hx)) (fun hv=>Ai8 (h9 ?_)) h11 h12 ih1 ih2
  rcases hv with h | h | h | h<;>rw[h]<;>rfl
theorem Abi{p:Gp}(h:ShG p):CnG p:=⟨fun d hd=>let h:=h.decls d hd;⟨h.kind,h.size,by have:=h.init;omega,by have:=h.init;omega,h.init.2.2⟩,fun t ht s hs=>Avl (h.thrs t ht s hs)⟩
/-! equal apart from lines -/
mutual
def Ep:Sp->Sp->Bool
 | ⟨op,_,nm,arg,_,_,idx,ex,_,_,body,_,_,els⟩,⟨op',_,nm',arg',_,_,idx',ex',_,_,body',_,_,els'⟩=>op==op'&&(nm==nm'&&(arg==arg'&&(Cw ex ex'&&(Cj idx idx'&&(Cz body body'&&Cz els els')))))
def Cz:List Sp->List Sp->Bool
 | [],[]=>true
 | x::l,y::l'=>Ep x y&&Cz l l'
 | [],_::_=>false
 | _::_,[]=>false
end
def Ib(a b:Dp):Bool:=a.kind==b.kind&&(a.nm==b.nm&&(a.size==b.size&&(a.init==b.init&&a.on==b.on)))
def Gs(a b:Tp):Bool:=a.nm==b.nm&&(a.locals==b.locals&&Cz a.body b.body)
def Fo(a b:Gp):Bool:=(a.decls.length==b.decls.length&&(a.decls.zip b.decls).all fun p=>Ib p.1 p.2)&&(a.thrs.length==b.thrs.length&&(a.thrs.zip b.thrs).all fun p=>Gs p.1 p.2)
/-! tokens -/
def R4(l:List Xp):List Kt:=match l with
 | a::_=>(4,[91])::(a.toks++[(4,[93])])
 | []=>[]
def Rn(s:Sp):List Kt:=
 if s.op=1 then(1,s.nm)::(R4 s.idx++(4,[61])::s.ex.toks)
 else if s.op=2\/s.op=3 then(3,B2 s.op)::s.ex.toks
 else if s.op=7\/s.op=8 then [(3,B2 s.op)]
 else if s.op=14 then(3,B2 s.op)::(1,s.nm)::s.ex.toks
 else if s.op=15 then [(3,B2 s.op),(1,s.nm),(1,s.arg)]
 else [(3,B2 s.op),(1,s.nm)]
def Nz:List UInt8:=[101,108,115,101]
mutual
def Sp.toks:Sp->List Kt
 | ⟨op,line,nm,arg,iz,it,idx,ex,bz,bt,body,ez,et,els⟩=>
  Rn ⟨op,line,nm,arg,iz,it,idx,ex,bz,bt,body,ez,et,els⟩ ++
   if Bk op then(4,[123])::(Sp.tokss body++(4,[125])::(if els.isEmpty then [] else(3,Nz)::(4,[123])::(Sp.tokss els++[(4,[125])]))) else [(4,[59])]
def Sp.tokss:List Sp->List Kt
 | []=>[]
 | x::l=>x.toks++Sp.tokss l
end
theorem Amw:((List.range 14).all fun i=>C7 (B2 ((i:Int)+2))==(i:Int)+2)=true:=by decide
theorem Arx{op:Int}(h:2<=op/\op<=15):C7 (B2 op)=op:=by
 obtain⟨i,hi,rfl⟩:∃ i:Nat,i<14/\op=(i:Int)+2:=⟨(op - 2).toNat,by omega,by omega⟩
 simpa using A5.1 Amw i (Ew.2 hi)
theorem W0(hnum:Ia){x:Xp}(h:ShE x){n:Nat}{ts:List Tk}{r:List Kt}(hm:ts.map Tk.kt=x.toks++r)(hs:Nx 1 r)(hn:8*ts.length+7<=n+1):∃ y ts',pe n 1 ts=some (y,ts')/\ts'.map Tk.kt=r/\Cw x y=true:=by
 refine(Avk hnum h 1 (by omega) (by omega)).1 n ts r ?_ hs hn
 have:=(Wy (Ai7 h)).2.1
 rw[L0 (by simpa using this)]
 exact hm
theorem V4{w:List UInt8}(h1:E0 w=(0,0))(h2:(w==[91])=false)(r:List Kt):Nx 1 ((4,w)::r):=⟨fun l _=>by
 simp only[Pt,if_true,h1]
 split<;>rfl,by simp only[Ht];simp at h2 ⊢;exact h2⟩
theorem K4{k:Int}{w:List UInt8}{t:Tk}{ts:List Tk}(hk:k=3\/k=4)(h:t.kind=k)(hw:t.text=w):Ak w (t::ts)=true:=by
 simp only[Ak]
 rw[h,hw]
 rcases hk with rfl | rfl<;>simp
theorem Ip{w:List UInt8}{ts:List Tk}{r:List Kt}(h:ts.map Tk.kt=(4,w)::r):∃ ts',Ct w ts=some ts'/\ts'.map Tk.kt=r:=by
 obtain⟨t,ts',rfl,h1,h2,h3⟩:=Da h
 exact⟨ts',by simp only[Ct];rw[K4 (.inr rfl) h1 h2];rfl,h3⟩
theorem Jl{w:List UInt8}{ts:List Tk}{r:List Kt}(h:ts.map Tk.kt=(1,w)::r):∃ ts',B8 ts=some (w,ts')/\ts'.map Tk.kt=r:=by
 obtain⟨t,ts',rfl,h1,h2,h3⟩:=Da h
 exact⟨ts',by simp only[B8];rw[if_pos h1,h2],h3⟩
theorem Fv{ts:List Tk}{r:List Kt}(h:ts.map Tk.kt=r):ts.length=r.length:=by
 have:=congrArg List.length h
 simpa using this
theorem Avm(hnum:Ia){s:Sp}(h1:s.idx.length<=1)(h2:∀ x∈s.idx,ShE x)(h3:ShE s.ex){n:Nat}{line:Int}{ts:List Tk}{r:List Kt}(hm:ts.map Tk.kt=(1,s.nm)::(R4 s.idx++(4,[61])::(s.ex.toks++(4,[59])::r)))(hn:8*ts.length+7<=n+1):
  ∃ s' ts',Mk n line ts=some (s',ts')/\ts'.map Tk.kt=r/\s'.op=1/\s'.nm=s.nm/\s'.arg=[]/\Cj s.idx s'.idx=true/\Cw s.ex s'.ex=true/\s'.body=[]/\s'.els=[]:=by
 have hl:=Fv hm
 obtain⟨ts1,a1,a2⟩:=Jl hm
 have hl1:=Fv a2
 simp only[Ag,Al]at hl hl1
 have hidx:∃ ix ts2,Ux n ts1=some (ix,ts2)/\ts2.map Tk.kt=(4,[61])::(s.ex.toks++(4,[59])::r)/\Cj s.idx ix=true:=by
  unfold Ux
  match hi:s.idx,h1 with
  | [],_=>
   rw[hi]at a2
   obtain⟨t,ts',rfl,k1,k2,k3⟩:=Da a2
   rw[if_neg (by rw[Jv k1 k2];decide)]
   exact⟨_,_,rfl,a2,rfl⟩
  | [a],_=>
   rw[hi]at a2
   simp only[R4,Bg,Bl,Bf]at a2
   obtain⟨t,ts',rfl,k1,k2,k3⟩:=Da a2
   have hl2:=Fv k3
   simp only[Ag,Al]at hl2 hl1
   obtain⟨y,ts3,p1,p2,p3⟩:=W0 hnum (h2 a (by rw[hi];simp)) k3 (V4 rfl rfl _) (n:=n) (by rw[hi]at hl hl1;simp only[R4,Ag,Al]at hl hl1;omega)
   obtain⟨ts4,q1,q2⟩:=Ip p2
   rw[if_pos (by rw[Jv k1 k2];rfl),Jg,p1]
   simp only
   rw[q1]
   exact⟨_,_,rfl,q2,by simp[Cj,p3]⟩
  | _::_::_,h=>simp at h
 obtain⟨ix,ts2,b1,b2,b3⟩:=hidx
 obtain⟨ts3,c1,c2⟩:=Ip b2
 have hl3:=Fv c2
 simp only[Ag,Al]at hl3
 obtain⟨y,ts4,d1,d2,d3⟩:=W0 hnum h3 c2 (V4 rfl rfl _) (n:=n) (by omega)
 obtain⟨ts5,e1,e2⟩:=Ip d2
 refine⟨{ Aj 1 line with nm:=s.nm,it:=ix.length,idx:=ix,ex:=y },ts5,?_,e2,rfl,rfl,rfl,b3,d3,rfl,rfl⟩
 unfold Mk
 rw[a1]
 simp only
 rw[b1]
 simp only
 rw[c1]
 simp only
 rw[d1]
 simp only
 rw[e1]
 rfl
theorem M3{s s':Sp}(h1:s.op=s'.op)(h2:s.nm=s'.nm)(h3:s.arg=s'.arg)(h4:Cw s.ex s'.ex=true)(h5:Cj s.idx s'.idx=true)(h6:Cz s.body s'.body=true)(h7:Cz s.els s'.els=true):Ep s s'=true:=by
 cases s
 cases s'
 simp only at h1 h2 h3 h4 h5 h6 h7
 subst h1 h2 h3
 simp[Ep,h4,h5,h6,h7]
theorem Vw{x:Xp}(h:Ng x):Cw x Xp.zero=true:=by
 obtain⟨h1,h2,h3,h4⟩:=h
 cases x
 simp only at h1 h2 h3 h4
 subst h1 h2 h3 h4
 rfl
def RTs(s:Sp):Prop:=∀ (n:Nat) (ts:List Tk) (r:List Kt),ts.map Tk.kt=s.toks++r->Ht Nz r=false->10*ts.length+10<=n->∃ s' ts',Ei n ts=some (s',ts')/\ts'.map Tk.kt=r/\Ep s s'=true
theorem Afd{s:Sp}(h:ShS s):∃ k w l,s.toks=(k,w)::l/\((k=1/\s.op=1)\/(k=3/\w=B2 s.op/\2<=s.op/\s.op<=15)):=by
 obtain⟨op,line,nm,arg,iz,it,idx,ex,bz,bt,body,ez,et,els⟩:=s
 cases h with
 | mk h1=>
  simp only at h1
  simp only[Sp.toks,Rn]
  by_cases a:op=1
  ·rw[if_pos a];exact⟨_,_,_,rfl,.inl ⟨rfl,a⟩⟩
  rw[if_neg a]
  have hr:2<=op/\op<=15:=by omega
  by_cases b:op=2\/op=3
  ·rw[if_pos b];exact⟨_,_,_,rfl,.inr ⟨rfl,rfl,hr⟩⟩
  rw[if_neg b]
  by_cases c:op=7\/op=8
  ·rw[if_pos c];exact⟨_,_,_,rfl,.inr ⟨rfl,rfl,hr⟩⟩
  rw[if_neg c]
  by_cases d:op=14
  ·rw[if_pos d];exact⟨_,_,_,rfl,.inr ⟨rfl,rfl,hr⟩⟩
  rw[if_neg d]
  by_cases e:op=15
  ·rw[if_pos e];exact⟨_,_,_,rfl,.inr ⟨rfl,rfl,hr⟩⟩
  rw[if_neg e]
  exact⟨_,_,_,rfl,.inr ⟨rfl,rfl,hr⟩⟩
theorem Alv:((List.range 14).all fun i=>B2 ((i:Int)+2) != Nz)=true:=by decide
theorem Aec{s:Sp}(h:ShS s)(r:List Kt):Ht Nz (s.toks++r)=false/\Ht [125] (s.toks++r)=false:=by
 obtain⟨k,w,l,e,hk⟩:=Afd h
 rw[e,Bg]
 rcases hk with⟨rfl,-⟩ | ⟨rfl,rfl,h2⟩
 ·exact⟨rfl,rfl⟩
 ·obtain⟨i,hi,he⟩:∃ i:Nat,i<14/\s.op=(i:Int)+2:=⟨(s.op - 2).toNat,by omega,by omega⟩
  have h1:=A5.1 Alv i (Ew.2 hi)
  have h2:((List.range 14).all fun i=>B2 ((i:Int)+2) != [125])=true:=by decide
  have h2:=A5.1 h2 i (Ew.2 hi)
  rw[<-he]at h1 h2
  simp only[bne_iff_ne,ne_eq]at h1 h2
  simp only[Ht]
  simp[h1,h2]
theorem Ah4:∀ {l:List Sp},(∀ s∈l,ShS s)->(∀ s∈l,RTs s)->∀ {n:Nat} {ts:List Tk} {r:List Kt},ts.map Tk.kt=Sp.tokss l++(4,[125])::r->10*ts.length+11<=n->∃ l' ts',Gm n ts=some (l',ts')/\ts'.map Tk.kt=r/\Cz l l'=true
 | [],_,_,n,ts,r,hm,hn=>by
  obtain⟨n,rfl⟩:∃ k,n=k+1:=⟨n - 1,by omega⟩
  simp only[Sp.tokss,Bf]at hm
  obtain⟨t,ts',rfl,k1,k2,k3⟩:=Da hm
  exact⟨[],ts',by rw[Gm,if_pos (K4 (.inr rfl) k1 k2)];rfl,k3,rfl⟩
 | s::l,h1,h2,n,ts,r,hm,hn=>by
  obtain⟨n,rfl⟩:∃ k,n=k+1:=⟨n - 1,by omega⟩
  simp only[Sp.tokss,Bl]at hm
  have hs:=h1 s Co
  have hel:Ht Nz (Sp.tokss l++(4,[125])::r)=false:=by
   cases l with
   | nil=>rfl
   | cons s2 l=>
    simp only[Sp.tokss,Bl]
    exact(Aec (h1 s2 (by simp)) _).1
  obtain⟨s',ts1,p1,p2,p3⟩:=h2 s Co n ts _ hm hel (by omega)
  have hl:=Fv hm
  have hl1:=Fv p2
  obtain⟨k,w,q,e,-⟩:=Afd hs
  rw[e]at hl
  simp only[Ag,Al]at hl hl1
  obtain⟨l',ts2,q1,q2,q3⟩:=Ah4 (n:=n) (l:=l) (fun s hs=>h1 s (Cb _ hs)) (fun s hs=>h2 s (Cb _ hs)) p2 (by omega)
  refine⟨s'::l',ts2,?_,q2,by simp[Cz,p3,q3]⟩
  rw[Gm,if_neg (by rw[Nc,hm,(Aec hs _).2];simp),p1]
  simp only
  rw[q1]
theorem Tn{l:List Sp}(h1:∀ s∈l,ShS s)(h2:∀ s∈l,RTs s){n:Nat}{ts:List Tk}{r:List Kt}(hm:ts.map Tk.kt=(4,[123])::(Sp.tokss l++(4,[125])::r))(hn:10*ts.length+2<=n):∃ l' ts',Dy n ts=some (l',ts')/\ts'.map Tk.kt=r/\Cz l l'=true:=by
 obtain⟨t,ts',rfl,k1,k2,k3⟩:=Da hm
 rw[Ag]at hn
 obtain⟨n,rfl⟩:∃ k,n=k+1:=⟨n - 1,by omega⟩
 obtain⟨l',ts1,p1,p2,p3⟩:=Ah4 (n:=n) h1 h2 k3 (by omega)
 exact⟨l',ts1,by rw[Dy,if_pos (K4 (.inr rfl) k1 k2)];exact p1,p2,p3⟩
theorem Ary(hnum:Ia){s:Sp}(h:ShS s):RTs s:=by
 induction h with
 | @mk s h1 h2 h3 h4 h5 h6 h7 h8 h9 h10 h11 h12 h13 h14 ih1 ih2=>
  intro n ts r hm hel hn
  obtain⟨op,line,nm,arg,iz,it,idx,ex,bz,bt,body,ez,et,els⟩:=s
  simp only at h1 h2 h3 h4 h5 h6 h7 h8 h9 h10 h11 h12 h13 h14 ih1 ih2
  simp only[Sp.toks,Rn]at hm
  obtain⟨n,rfl⟩:∃ k,n=k+1:=⟨n - 1,by omega⟩
  by_cases a:op=1
  ·subst a
   rw[if_pos rfl,if_neg (by decide)]at hm
   simp only[Bg,Bl,Bf]at hm
   obtain⟨t,ts',rfl,k1,k2,k3⟩:=Da hm
   obtain⟨s',ts1,p1,p2,p3,p4,p5,p6,p7,p8,p9⟩:=Avm hnum (s:=⟨1,line,nm,arg,iz,it,idx,ex,bz,bt,body,ez,et,els⟩) h6 h8 (h9 rfl) (line:=t.line) hm (n:=n) (by omega)
   refine⟨s',ts1,by rw[Ei,if_pos k1];exact p1,p2,M3 p3.symm p4.symm ?_ p7 p6 ?_ ?_⟩
   ·rw[p5];exact h5 (by decide)
   ·rw[p8];simp only;rw[h11 rfl];rfl
   ·rw[p9];simp only;rw[h12 (by decide)];rfl
  have hr:2<=op/\op<=15:=by omega
  have hix:=h7 a
  subst hix
  have hw:=Arx hr
  rw[if_neg a]at hm
  by_cases b:op=2\/op=3
  ·have hv:Ee op=true:=by rcases b with rfl | rfl<;>rfl
   have hb:Bk op=true:=by rcases b with rfl | rfl<;>rfl
   have hnl:nm=[]:=h2 (by rcases b with rfl | rfl<;>rfl)
   rw[if_pos b,if_pos hb]at hm
   simp only[Bg,Bl,Bf]at hm
   obtain⟨t,ts1,rfl,k1,k2,k3⟩:=Da hm
   have hl:=Fv k3
   rw[Ag]at hn
   simp only[Al,Ag]at hl
   obtain⟨y,ts2,p1,p2,p3⟩:=W0 hnum (h9 hv) k3 (V4 rfl rfl _) (n:=n) (by omega)
   have hl2:=Fv p2
   simp only[Al,Ag]at hl2
   obtain⟨bd,ts3,q1,q2,q3⟩:=Tn h13 ih1 p2 (n:=n) (by omega)
   have hl3:=Fv q2
   simp only[Al]at hl3
   rw[Ei,if_neg (by omega),if_pos k1,k2,hw,if_neg (by omega),if_pos b,p1]
   simp only
   rw[q1]
   simp only
   by_cases he:els=[]
   ·subst he
    simp only[List.isEmpty_nil,if_true,Bf]at q2
    rw[if_neg (by rw[Nc,q2,show [101,108,115,101]=Nz from rfl,hel];simp)]
    exact⟨_,_,rfl,q2,M3 rfl (by simp[Aj,hnl]) (by simpa[Aj] using h5 (by omega)) p3 rfl q3 rfl⟩
   ·have h2:op=2:=by
     by_cases h:op=2
     ·exact h
     ·exact absurd (h12 h) he
    have hie:els.isEmpty=false:=by simpa using he
    rw[hie]at q2 hl3 hl2 hl
    simp only[Dr,if_false,Bg,Bl,Bf,Ag,Al]at q2 hl3 hl2 hl
    obtain⟨t4,ts4,rfl,k4,k5,k6⟩:=Da q2
    have hl4:=Fv k6
    simp only[Al,Ag]at hl4 hl3
    obtain⟨ed,ts5,r1,r2,r3⟩:=Tn h14 ih2 k6 (n:=n) (by omega)
    rw[if_pos ⟨h2,K4 (.inl rfl) k4 k5⟩,Jg,r1]
    exact⟨_,_,rfl,r2,M3 rfl (by simp[Aj,hnl]) (by simpa[Aj] using h5 (by omega)) p3 rfl q3 r3⟩
  rw[if_neg b]at hm
  have hes:els=[]:=h12 (by omega)
  subst hes
  by_cases c:op=7\/op=8
  ·have hb:Bk op=true:=by rcases c with rfl | rfl<;>rfl
   have hnl:nm=[]:=h2 (by rcases c with rfl | rfl<;>rfl)
   have hbl:Ng ex:=h10 (by rcases c with rfl | rfl<;>rfl)
   rw[if_pos c,if_pos hb]at hm
   simp only[Bg,Bl,Bf,List.isEmpty_nil,if_true]at hm
   obtain⟨t,ts1,rfl,k1,k2,k3⟩:=Da hm
   rw[Ag]at hn
   obtain⟨bd,ts3,q1,q2,q3⟩:=Tn h13 ih1 k3 (n:=n) (by omega)
   rw[Ei,if_neg (by omega),if_pos k1,k2,hw,if_neg (by omega),if_neg b,if_pos c,q1]
   exact⟨_,_,rfl,q2,M3 rfl (by simp[Aj,hnl]) (by simpa[Aj] using h5 (by omega)) (Vw hbl) rfl q3 rfl⟩
  rw[if_neg c]at hm
  have hnn:op≠2/\op≠3/\op≠7/\op≠8:=by omega
  by_cases d:op=14
  ·subst d
   rw[if_pos rfl,if_neg (by decide)]at hm
   simp only[Bg,Bl,Bf]at hm
   obtain⟨t,ts1,rfl,k1,k2,k3⟩:=Da hm
   rw[Ag]at hn
   obtain⟨ts2,a1,a2⟩:=Jl k3
   have hl:=Fv k3
   have hl2:=Fv a2
   simp only[Al,Ag]at hl hl2
   obtain⟨y,ts3,p1,p2,p3⟩:=W0 hnum (h9 rfl) a2 (V4 rfl rfl _) (n:=n) (by omega)
   obtain⟨ts4,e1,e2⟩:=Ip p2
   rw[Ei,if_neg (by omega),if_pos k1,k2,hw,if_neg (by omega),if_neg b,if_neg c,a1]
   simp only
   rw[if_neg (by omega),if_pos trivial,p1]
   simp only
   rw[e1]
   exact⟨_,_,rfl,e2,M3 rfl rfl (by simpa[Aj] using h5 (by omega)) p3 rfl (by simp only;rw[h11 rfl];rfl) rfl⟩
  rw[if_neg d]at hm
  by_cases e:op=15
  ·subst e
   rw[if_pos rfl,if_neg (by decide)]at hm
   simp only[Bg,Bl,Bf]at hm
   obtain⟨t,ts1,rfl,k1,k2,k3⟩:=Da hm
   obtain⟨ts2,a1,a2⟩:=Jl k3
   obtain⟨ts3,b1,b2⟩:=Jl a2
   obtain⟨ts4,e1,e2⟩:=Ip b2
   have hbl:Ng ex:=h10 rfl
   rw[Ei,if_neg (by omega),if_pos k1,k2,hw,if_neg (by omega),if_neg b,if_neg c,a1]
   simp only
   rw[if_neg (by omega),if_neg (by omega),if_pos trivial,b1]
   simp only
   rw[e1]
   exact⟨_,_,rfl,e2,M3 rfl rfl rfl (Vw hbl) rfl (by simp only;rw[h11 rfl];rfl) rfl⟩
  rw[if_neg e]at hm
  have hbl:Ng ex:=h10 (by unfold Ee;simp;omega)
  by_cases f:op=4\/op=5\/op=6
  ·have hb:Bk op=true:=by rcases f with rfl | rfl | rfl<;>rfl
   rw[if_pos hb]at hm
   simp only[Bg,Bl,Bf,List.isEmpty_nil,if_true]at hm
   obtain⟨t,ts1,rfl,k1,k2,k3⟩:=Da hm
   rw[Ag]at hn
   obtain⟨ts2,a1,a2⟩:=Jl k3
   have hl:=Fv k3
   have hl2:=Fv a2
   simp only[Al,Ag]at hl hl2
   obtain⟨bd,ts3,q1,q2,q3⟩:=Tn h13 ih1 a2 (n:=n) (by omega)
   rw[Ei,if_neg (by omega),if_pos k1,k2,hw,if_neg (by omega),if_neg b,if_neg c,a1]
   simp only
   rw[if_pos f,q1]
   exact⟨_,_,rfl,q2,M3 rfl rfl (by simpa[Aj] using h5 (by omega)) (Vw hbl) rfl q3 rfl⟩
  ·have hb:Bk op=false:=by unfold Bk;simp;omega
   rw[if_neg (by rw[hb];simp)]at hm
   simp only[Bg,Bl,Bf]at hm
   obtain⟨t,ts1,rfl,k1,k2,k3⟩:=Da hm
   obtain⟨ts2,a1,a2⟩:=Jl k3
   obtain⟨ts4,e1,e2⟩:=Ip a2
   rw[Ei,if_neg (by omega),if_pos k1,k2,hw,if_neg (by omega),if_neg b,if_neg c,a1]
   simp only
   rw[if_neg f,if_neg d,if_neg e,e1]
   exact⟨_,_,rfl,e2,M3 rfl rfl (by simpa[Aj] using h5 (by omega)) (Vw hbl) rfl (by simp only;rw[h11 hb];rfl) rfl⟩
end Go.Proofs.YtlehfgdhebapeaaGreatDoor.KM
