/- Plain: the tokens of a program's text are parsed as that program, apart from lines. -/
import Derived.Test.YtlehfgdhebapeaaGreatDoorLb
set_option linter.all false
namespace Go.Proofs.YtlehfgdhebapeaaGreatDoor.KM
open Go
/-! what a shaped program has -/
def blankX(x:Xp):Prop:=x.op=0∧x.n=0∧x.nm=[]∧x.l=[]
def namelessE(op:Int):Bool:=op==2||(op==3||(op==7||op==8))
def valuedE(op:Int):Bool:=op==1||(op==2||(op==3||op==14))
inductive ShS:Sp→Prop
 | mk {s:Sp}:1≤s.op∧s.op≤15→(namelessE s.op=true→s.nm=[])→(namelessE s.op=false→isNameE s.nm=true)→(s.op=15→isNameE s.arg=true)→(s.op≠15→s.arg=[]) →
   s.idx.length≤1→(s.op≠1→s.idx=[])→(∀ x∈s.idx,ShE x)→(valuedE s.op=true→ShE s.ex)→(valuedE s.op=false→blankX s.ex) →
   (bodyE s.op=false→s.body=[])→(s.op≠2→s.els=[])→(∀ x∈s.body,ShS x)→(∀ x∈s.els,ShS x)→ShS s
structure ShD (d:Dp):Prop where
 kind:1≤d.kind∧d.kind≤6
 nm:isNameE d.nm=true
 size:0≤d.size∧d.size≤9223372036854775807∧(d.kind≠1→d.size=0)
 init : -9223372036854775808<d.init∧d.init≤9223372036854775807∧(d.kind≠1→d.kind≠2→d.init=0)
 on:(d.kind=5→isNameE d.on=true)∧(d.kind≠5→d.on=[])
structure ShG (p:Gp):Prop where
 decls:∀ d∈p.decls,ShD d
 nms:∀ t∈p.thrs,isNameE t.nm=true
 locs:∀ t∈p.thrs,∀ s∈t.locals,isNameE s=true
 thrs:∀ t∈p.thrs,∀ s∈t.body,ShS s
 some:p.thrs≠[]
theorem shs_cn{s:Sp}(h:ShS s):CnS s:=by
 induction h with
 | mk h1 h2 h3 h4 h5 h6 h7 h8 h9 h10 h11 h12 h13 h14 ih1 ih2=>
  refine .mk h1 h6 h7 (fun x hx=>she_cn (h8 x hx)) (fun hv=>she_cn (h9 ?_)) h11 h12 ih1 ih2
  rcases hv with h | h | h | h<;>rw[h]<;>rfl
theorem shg_cn{p:Gp}(h:ShG p):CnG p:=⟨fun d hd=>let h:=h.decls d hd;⟨h.kind,h.size,by have:=h.init;omega,by have:=h.init;omega,h.init.2.2⟩,fun t ht s hs=>shs_cn (h.thrs t ht s hs)⟩
/-! equal apart from lines -/
mutual
def sameS:Sp→Sp→Bool
 | ⟨op,_,nm,arg,_,_,idx,ex,_,_,body,_,_,els⟩,⟨op',_,nm',arg',_,_,idx',ex',_,_,body',_,_,els'⟩=>op==op'&&(nm==nm'&&(arg==arg'&&(sameX ex ex'&&(sameXs idx idx'&&(sameSs body body'&&sameSs els els')))))
def sameSs:List Sp→List Sp→Bool
 | [],[]=>true
 | x::l,y::l'=>sameS x y&&sameSs l l'
 | [],_::_=>false
 | _::_,[]=>false
end
def sameD(a b:Dp):Bool:=a.kind==b.kind&&(a.nm==b.nm&&(a.size==b.size&&(a.init==b.init&&a.on==b.on)))
def sameT(a b:Tp):Bool:=a.nm==b.nm&&(a.locals==b.locals&&sameSs a.body b.body)
def sameG(a b:Gp):Bool:=(a.decls.length==b.decls.length&&(a.decls.zip b.decls).all fun p=>sameD p.1 p.2)&&(a.thrs.length==b.thrs.length&&(a.thrs.zip b.thrs).all fun p=>sameT p.1 p.2)
/-! tokens -/
def idxK(l:List Xp):List Kt:=match l with
 | a::_=>(4,[91])::(a.toks++[(4,[93])])
 | []=>[]
def headK(s:Sp):List Kt:=
 if s.op=1 then(1,s.nm)::(idxK s.idx++(4,[61])::s.ex.toks)
 else if s.op=2∨s.op=3 then(3,wordE s.op)::s.ex.toks
 else if s.op=7∨s.op=8 then [(3,wordE s.op)]
 else if s.op=14 then(3,wordE s.op)::(1,s.nm)::s.ex.toks
 else if s.op=15 then [(3,wordE s.op),(1,s.nm),(1,s.arg)]
 else [(3,wordE s.op),(1,s.nm)]
def elseW:List UInt8:=[101,108,115,101]
mutual
def Sp.toks:Sp→List Kt
 | ⟨op,line,nm,arg,iz,it,idx,ex,bz,bt,body,ez,et,els⟩=>
  headK ⟨op,line,nm,arg,iz,it,idx,ex,bz,bt,body,ez,et,els⟩ ++
   if bodyE op then(4,[123])::(Sp.tokss body++(4,[125])::(if els.isEmpty then [] else(3,elseW)::(4,[123])::(Sp.tokss els++[(4,[125])]))) else [(4,[59])]
def Sp.tokss:List Sp→List Kt
 | []=>[]
 | x::l=>x.toks++Sp.tokss l
end
theorem word_runs:((List.range 14).all fun i=>wordT (wordE ((i:Int)+2))==(i:Int)+2)=true:=by decide
theorem wordT_E{op:Int}(h:2≤op∧op≤15):wordT (wordE op)=op:=by
 obtain⟨i,hi,rfl⟩:∃ i:Nat,i<14∧op=(i:Int)+2:=⟨(op - 2).toNat,by omega,by omega⟩
 simpa using List.all_eq_true.1 word_runs i (List.mem_range.2 hi)
theorem rt_expr(hnum:NumRT){x:Xp}(h:ShE x){n:Nat}{ts:List Tk}{r:List Kt}(hm:ts.map Tk.kt=x.toks++r)(hs:stopK 1 r)(hn:8*ts.length+7≤n+1):∃ y ts',pe n 1 ts=some (y,ts')∧ts'.map Tk.kt=r∧sameX x y=true:=by
 refine(rt_all hnum h 1 (by omega) (by omega)).1 n ts r ?_ hs hn
 have:=(sgl_len (she_op h)).2.1
 rw[put_same (by simpa using this)]
 exact hm
theorem stop_sign{w:List UInt8}(h1:opT w=(0,0))(h2:(w==[91])=false)(r:List Kt):stopK 1 ((4,w)::r):=⟨fun l _=>by
 simp only[opK,if_true,h1]
 split<;>rfl,by simp only[isK];simp at h2 ⊢;exact h2⟩
theorem isT_same{k:Int}{w:List UInt8}{t:Tk}{ts:List Tk}(hk:k=3∨k=4)(h:t.kind=k)(hw:t.text=w):isT w (t::ts)=true:=by
 simp only[isT]
 rw[h,hw]
 rcases hk with rfl | rfl<;>simp
theorem pTok_k{w:List UInt8}{ts:List Tk}{r:List Kt}(h:ts.map Tk.kt=(4,w)::r):∃ ts',pTok w ts=some ts'∧ts'.map Tk.kt=r:=by
 obtain⟨t,ts',rfl,h1,h2,h3⟩:=kt_cons h
 exact⟨ts',by simp only[pTok];rw[isT_same (.inr rfl) h1 h2];rfl,h3⟩
theorem pName_k{w:List UInt8}{ts:List Tk}{r:List Kt}(h:ts.map Tk.kt=(1,w)::r):∃ ts',pName ts=some (w,ts')∧ts'.map Tk.kt=r:=by
 obtain⟨t,ts',rfl,h1,h2,h3⟩:=kt_cons h
 exact⟨ts',by simp only[pName];rw[if_pos h1,h2],h3⟩
theorem len_k{ts:List Tk}{r:List Kt}(h:ts.map Tk.kt=r):ts.length=r.length:=by
 have:=congrArg List.length h
 simpa using this
theorem rt_asg(hnum:NumRT){s:Sp}(h1:s.idx.length≤1)(h2:∀ x∈s.idx,ShE x)(h3:ShE s.ex){n:Nat}{line:Int}{ts:List Tk}{r:List Kt}(hm:ts.map Tk.kt=(1,s.nm)::(idxK s.idx++(4,[61])::(s.ex.toks++(4,[59])::r)))(hn:8*ts.length+7≤n+1):
  ∃ s' ts',pAsg n line ts=some (s',ts')∧ts'.map Tk.kt=r∧s'.op=1∧s'.nm=s.nm∧s'.arg=[]∧sameXs s.idx s'.idx=true∧sameX s.ex s'.ex=true∧s'.body=[]∧s'.els=[]:=by
 have hl:=len_k hm
 obtain⟨ts1,a1,a2⟩:=pName_k hm
 have hl1:=len_k a2
 simp only[List.length_cons,List.length_append]at hl hl1
 have hidx:∃ ix ts2,pIdx n ts1=some (ix,ts2)∧ts2.map Tk.kt=(4,[61])::(s.ex.toks++(4,[59])::r)∧sameXs s.idx ix=true:=by
  unfold pIdx
  match hi:s.idx,h1 with
  | [],_=>
   rw[hi]at a2
   obtain⟨t,ts',rfl,k1,k2,k3⟩:=kt_cons a2
   rw[if_neg (by rw[isT_4 k1 k2];decide)]
   exact⟨_,_,rfl,a2,rfl⟩
  | [a],_=>
   rw[hi]at a2
   simp only[idxK,List.cons_append,List.append_assoc,List.nil_append]at a2
   obtain⟨t,ts',rfl,k1,k2,k3⟩:=kt_cons a2
   have hl2:=len_k k3
   simp only[List.length_cons,List.length_append]at hl2 hl1
   obtain⟨y,ts3,p1,p2,p3⟩:=rt_expr hnum (h2 a (by rw[hi];simp)) k3 (stop_sign rfl rfl _) (n:=n) (by rw[hi]at hl hl1;simp only[idxK,List.length_cons,List.length_append]at hl hl1;omega)
   obtain⟨ts4,q1,q2⟩:=pTok_k p2
   rw[if_pos (by rw[isT_4 k1 k2];rfl),List.tail_cons,p1]
   simp only
   rw[q1]
   exact⟨_,_,rfl,q2,by simp[sameXs,p3]⟩
  | _::_::_,h=>simp at h
 obtain⟨ix,ts2,b1,b2,b3⟩:=hidx
 obtain⟨ts3,c1,c2⟩:=pTok_k b2
 have hl3:=len_k c2
 simp only[List.length_cons,List.length_append]at hl3
 obtain⟨y,ts4,d1,d2,d3⟩:=rt_expr hnum h3 c2 (stop_sign rfl rfl _) (n:=n) (by omega)
 obtain⟨ts5,e1,e2⟩:=pTok_k d2
 refine⟨{ zSp 1 line with nm:=s.nm,it:=ix.length,idx:=ix,ex:=y },ts5,?_,e2,rfl,rfl,rfl,b3,d3,rfl,rfl⟩
 unfold pAsg
 rw[a1]
 simp only
 rw[b1]
 simp only
 rw[c1]
 simp only
 rw[d1]
 simp only
 rw[e1]
 rfl
theorem sameS_mk{s s':Sp}(h1:s.op=s'.op)(h2:s.nm=s'.nm)(h3:s.arg=s'.arg)(h4:sameX s.ex s'.ex=true)(h5:sameXs s.idx s'.idx=true)(h6:sameSs s.body s'.body=true)(h7:sameSs s.els s'.els=true):sameS s s'=true:=by
 cases s
 cases s'
 simp only at h1 h2 h3 h4 h5 h6 h7
 subst h1 h2 h3
 simp[sameS,h4,h5,h6,h7]
theorem blank_same{x:Xp}(h:blankX x):sameX x Xp.zero=true:=by
 obtain⟨h1,h2,h3,h4⟩:=h
 cases x
 simp only at h1 h2 h3 h4
 subst h1 h2 h3 h4
 rfl
def RTs(s:Sp):Prop:=∀ (n:Nat) (ts:List Tk) (r:List Kt),ts.map Tk.kt=s.toks++r→isK elseW r=false→10*ts.length+10≤n→∃ s' ts',pst n ts=some (s',ts')∧ts'.map Tk.kt=r∧sameS s s'=true
theorem first_tok{s:Sp}(h:ShS s):∃ k w l,s.toks=(k,w)::l∧((k=1∧s.op=1)∨(k=3∧w=wordE s.op∧2≤s.op∧s.op≤15)):=by
 obtain⟨op,line,nm,arg,iz,it,idx,ex,bz,bt,body,ez,et,els⟩:=s
 cases h with
 | mk h1=>
  simp only at h1
  simp only[Sp.toks,headK]
  by_cases a:op=1
  ·rw[if_pos a];exact⟨_,_,_,rfl,.inl ⟨rfl,a⟩⟩
  rw[if_neg a]
  have hr:2≤op∧op≤15:=by omega
  by_cases b:op=2∨op=3
  ·rw[if_pos b];exact⟨_,_,_,rfl,.inr ⟨rfl,rfl,hr⟩⟩
  rw[if_neg b]
  by_cases c:op=7∨op=8
  ·rw[if_pos c];exact⟨_,_,_,rfl,.inr ⟨rfl,rfl,hr⟩⟩
  rw[if_neg c]
  by_cases d:op=14
  ·rw[if_pos d];exact⟨_,_,_,rfl,.inr ⟨rfl,rfl,hr⟩⟩
  rw[if_neg d]
  by_cases e:op=15
  ·rw[if_pos e];exact⟨_,_,_,rfl,.inr ⟨rfl,rfl,hr⟩⟩
  rw[if_neg e]
  exact⟨_,_,_,rfl,.inr ⟨rfl,rfl,hr⟩⟩
theorem words_else:((List.range 14).all fun i=>wordE ((i:Int)+2) != elseW)=true:=by decide
theorem first_else{s:Sp}(h:ShS s)(r:List Kt):isK elseW (s.toks++r)=false∧isK [125] (s.toks++r)=false:=by
 obtain⟨k,w,l,e,hk⟩:=first_tok h
 rw[e,List.cons_append]
 rcases hk with⟨rfl,-⟩ | ⟨rfl,rfl,h2⟩
 ·exact⟨rfl,rfl⟩
 ·obtain⟨i,hi,he⟩:∃ i:Nat,i<14∧s.op=(i:Int)+2:=⟨(s.op - 2).toNat,by omega,by omega⟩
  have h1:=List.all_eq_true.1 words_else i (List.mem_range.2 hi)
  have h2:((List.range 14).all fun i=>wordE ((i:Int)+2) != [125])=true:=by decide
  have h2:=List.all_eq_true.1 h2 i (List.mem_range.2 hi)
  rw[←he]at h1 h2
  simp only[bne_iff_ne,ne_eq]at h1 h2
  simp only[isK]
  simp[h1,h2]
theorem rt_list:∀ {l:List Sp},(∀ s∈l,ShS s)→(∀ s∈l,RTs s)→∀ {n:Nat} {ts:List Tk} {r:List Kt},ts.map Tk.kt=Sp.tokss l++(4,[125])::r→10*ts.length+11≤n→∃ l' ts',pls n ts=some (l',ts')∧ts'.map Tk.kt=r∧sameSs l l'=true
 | [],_,_,n,ts,r,hm,hn=>by
  obtain⟨n,rfl⟩:∃ k,n=k+1:=⟨n - 1,by omega⟩
  simp only[Sp.tokss,List.nil_append]at hm
  obtain⟨t,ts',rfl,k1,k2,k3⟩:=kt_cons hm
  exact⟨[],ts',by rw[pls,if_pos (isT_same (.inr rfl) k1 k2)];rfl,k3,rfl⟩
 | s::l,h1,h2,n,ts,r,hm,hn=>by
  obtain⟨n,rfl⟩:∃ k,n=k+1:=⟨n - 1,by omega⟩
  simp only[Sp.tokss,List.append_assoc]at hm
  have hs:=h1 s List.mem_cons_self
  have hel:isK elseW (Sp.tokss l++(4,[125])::r)=false:=by
   cases l with
   | nil=>rfl
   | cons s2 l=>
    simp only[Sp.tokss,List.append_assoc]
    exact(first_else (h1 s2 (by simp)) _).1
  obtain⟨s',ts1,p1,p2,p3⟩:=h2 s List.mem_cons_self n ts _ hm hel (by omega)
  have hl:=len_k hm
  have hl1:=len_k p2
  obtain⟨k,w,q,e,-⟩:=first_tok hs
  rw[e]at hl
  simp only[List.length_cons,List.length_append]at hl hl1
  obtain⟨l',ts2,q1,q2,q3⟩:=rt_list (n:=n) (l:=l) (fun s hs=>h1 s (List.mem_cons_of_mem _ hs)) (fun s hs=>h2 s (List.mem_cons_of_mem _ hs)) p2 (by omega)
  refine⟨s'::l',ts2,?_,q2,by simp[sameSs,p3,q3]⟩
  rw[pls,if_neg (by rw[isT_map,hm,(first_else hs _).2];simp),p1]
  simp only
  rw[q1]
theorem rt_block{l:List Sp}(h1:∀ s∈l,ShS s)(h2:∀ s∈l,RTs s){n:Nat}{ts:List Tk}{r:List Kt}(hm:ts.map Tk.kt=(4,[123])::(Sp.tokss l++(4,[125])::r))(hn:10*ts.length+2≤n):∃ l' ts',pbl n ts=some (l',ts')∧ts'.map Tk.kt=r∧sameSs l l'=true:=by
 obtain⟨t,ts',rfl,k1,k2,k3⟩:=kt_cons hm
 rw[List.length_cons]at hn
 obtain⟨n,rfl⟩:∃ k,n=k+1:=⟨n - 1,by omega⟩
 obtain⟨l',ts1,p1,p2,p3⟩:=rt_list (n:=n) h1 h2 k3 (by omega)
 exact⟨l',ts1,by rw[pbl,if_pos (isT_same (.inr rfl) k1 k2)];exact p1,p2,p3⟩
theorem rt_stmt(hnum:NumRT){s:Sp}(h:ShS s):RTs s:=by
 induction h with
 | @mk s h1 h2 h3 h4 h5 h6 h7 h8 h9 h10 h11 h12 h13 h14 ih1 ih2=>
  intro n ts r hm hel hn
  obtain⟨op,line,nm,arg,iz,it,idx,ex,bz,bt,body,ez,et,els⟩:=s
  simp only at h1 h2 h3 h4 h5 h6 h7 h8 h9 h10 h11 h12 h13 h14 ih1 ih2
  simp only[Sp.toks,headK]at hm
  obtain⟨n,rfl⟩:∃ k,n=k+1:=⟨n - 1,by omega⟩
  by_cases a:op=1
  ·subst a
   rw[if_pos rfl,if_neg (by decide)]at hm
   simp only[List.cons_append,List.append_assoc,List.nil_append]at hm
   obtain⟨t,ts',rfl,k1,k2,k3⟩:=kt_cons hm
   obtain⟨s',ts1,p1,p2,p3,p4,p5,p6,p7,p8,p9⟩:=rt_asg hnum (s:=⟨1,line,nm,arg,iz,it,idx,ex,bz,bt,body,ez,et,els⟩) h6 h8 (h9 rfl) (line:=t.line) hm (n:=n) (by omega)
   refine⟨s',ts1,by rw[pst,if_pos k1];exact p1,p2,sameS_mk p3.symm p4.symm ?_ p7 p6 ?_ ?_⟩
   ·rw[p5];exact h5 (by decide)
   ·rw[p8];simp only;rw[h11 rfl];rfl
   ·rw[p9];simp only;rw[h12 (by decide)];rfl
  have hr:2≤op∧op≤15:=by omega
  have hix:=h7 a
  subst hix
  have hw:=wordT_E hr
  rw[if_neg a]at hm
  by_cases b:op=2∨op=3
  ·have hv:valuedE op=true:=by rcases b with rfl | rfl<;>rfl
   have hb:bodyE op=true:=by rcases b with rfl | rfl<;>rfl
   have hnl:nm=[]:=h2 (by rcases b with rfl | rfl<;>rfl)
   rw[if_pos b,if_pos hb]at hm
   simp only[List.cons_append,List.append_assoc,List.nil_append]at hm
   obtain⟨t,ts1,rfl,k1,k2,k3⟩:=kt_cons hm
   have hl:=len_k k3
   rw[List.length_cons]at hn
   simp only[List.length_append,List.length_cons]at hl
   obtain⟨y,ts2,p1,p2,p3⟩:=rt_expr hnum (h9 hv) k3 (stop_sign rfl rfl _) (n:=n) (by omega)
   have hl2:=len_k p2
   simp only[List.length_append,List.length_cons]at hl2
   obtain⟨bd,ts3,q1,q2,q3⟩:=rt_block h13 ih1 p2 (n:=n) (by omega)
   have hl3:=len_k q2
   simp only[List.length_append]at hl3
   rw[pst,if_neg (by omega),if_pos k1,k2,hw,if_neg (by omega),if_pos b,p1]
   simp only
   rw[q1]
   simp only
   by_cases he:els=[]
   ·subst he
    simp only[List.isEmpty_nil,if_true,List.nil_append]at q2
    rw[if_neg (by rw[isT_map,q2,show [101,108,115,101]=elseW from rfl,hel];simp)]
    exact⟨_,_,rfl,q2,sameS_mk rfl (by simp[zSp,hnl]) (by simpa[zSp] using h5 (by omega)) p3 rfl q3 rfl⟩
   ·have h2:op=2:=by
     by_cases h:op=2
     ·exact h
     ·exact absurd (h12 h) he
    have hie:els.isEmpty=false:=by simpa using he
    rw[hie]at q2 hl3 hl2 hl
    simp only[Bool.false_eq_true,if_false,List.cons_append,List.append_assoc,List.nil_append,List.length_cons,List.length_append]at q2 hl3 hl2 hl
    obtain⟨t4,ts4,rfl,k4,k5,k6⟩:=kt_cons q2
    have hl4:=len_k k6
    simp only[List.length_append,List.length_cons]at hl4 hl3
    obtain⟨ed,ts5,r1,r2,r3⟩:=rt_block h14 ih2 k6 (n:=n) (by omega)
    rw[if_pos ⟨h2,isT_same (.inl rfl) k4 k5⟩,List.tail_cons,r1]
    exact⟨_,_,rfl,r2,sameS_mk rfl (by simp[zSp,hnl]) (by simpa[zSp] using h5 (by omega)) p3 rfl q3 r3⟩
  rw[if_neg b]at hm
  have hes:els=[]:=h12 (by omega)
  subst hes
  by_cases c:op=7∨op=8
  ·have hb:bodyE op=true:=by rcases c with rfl | rfl<;>rfl
   have hnl:nm=[]:=h2 (by rcases c with rfl | rfl<;>rfl)
   have hbl:blankX ex:=h10 (by rcases c with rfl | rfl<;>rfl)
   rw[if_pos c,if_pos hb]at hm
   simp only[List.cons_append,List.append_assoc,List.nil_append,List.isEmpty_nil,if_true]at hm
   obtain⟨t,ts1,rfl,k1,k2,k3⟩:=kt_cons hm
   rw[List.length_cons]at hn
   obtain⟨bd,ts3,q1,q2,q3⟩:=rt_block h13 ih1 k3 (n:=n) (by omega)
   rw[pst,if_neg (by omega),if_pos k1,k2,hw,if_neg (by omega),if_neg b,if_pos c,q1]
   exact⟨_,_,rfl,q2,sameS_mk rfl (by simp[zSp,hnl]) (by simpa[zSp] using h5 (by omega)) (blank_same hbl) rfl q3 rfl⟩
  rw[if_neg c]at hm
  have hnn:op≠2∧op≠3∧op≠7∧op≠8:=by omega
  by_cases d:op=14
  ·subst d
   rw[if_pos rfl,if_neg (by decide)]at hm
   simp only[List.cons_append,List.append_assoc,List.nil_append]at hm
   obtain⟨t,ts1,rfl,k1,k2,k3⟩:=kt_cons hm
   rw[List.length_cons]at hn
   obtain⟨ts2,a1,a2⟩:=pName_k k3
   have hl:=len_k k3
   have hl2:=len_k a2
   simp only[List.length_append,List.length_cons]at hl hl2
   obtain⟨y,ts3,p1,p2,p3⟩:=rt_expr hnum (h9 rfl) a2 (stop_sign rfl rfl _) (n:=n) (by omega)
   obtain⟨ts4,e1,e2⟩:=pTok_k p2
   rw[pst,if_neg (by omega),if_pos k1,k2,hw,if_neg (by omega),if_neg b,if_neg c,a1]
   simp only
   rw[if_neg (by omega),if_pos trivial,p1]
   simp only
   rw[e1]
   exact⟨_,_,rfl,e2,sameS_mk rfl rfl (by simpa[zSp] using h5 (by omega)) p3 rfl (by simp only;rw[h11 rfl];rfl) rfl⟩
  rw[if_neg d]at hm
  by_cases e:op=15
  ·subst e
   rw[if_pos rfl,if_neg (by decide)]at hm
   simp only[List.cons_append,List.append_assoc,List.nil_append]at hm
   obtain⟨t,ts1,rfl,k1,k2,k3⟩:=kt_cons hm
   obtain⟨ts2,a1,a2⟩:=pName_k k3
   obtain⟨ts3,b1,b2⟩:=pName_k a2
   obtain⟨ts4,e1,e2⟩:=pTok_k b2
   have hbl:blankX ex:=h10 rfl
   rw[pst,if_neg (by omega),if_pos k1,k2,hw,if_neg (by omega),if_neg b,if_neg c,a1]
   simp only
   rw[if_neg (by omega),if_neg (by omega),if_pos trivial,b1]
   simp only
   rw[e1]
   exact⟨_,_,rfl,e2,sameS_mk rfl rfl rfl (blank_same hbl) rfl (by simp only;rw[h11 rfl];rfl) rfl⟩
  rw[if_neg e]at hm
  have hbl:blankX ex:=h10 (by unfold valuedE;simp;omega)
  by_cases f:op=4∨op=5∨op=6
  ·have hb:bodyE op=true:=by rcases f with rfl | rfl | rfl<;>rfl
   rw[if_pos hb]at hm
   simp only[List.cons_append,List.append_assoc,List.nil_append,List.isEmpty_nil,if_true]at hm
   obtain⟨t,ts1,rfl,k1,k2,k3⟩:=kt_cons hm
   rw[List.length_cons]at hn
   obtain⟨ts2,a1,a2⟩:=pName_k k3
   have hl:=len_k k3
   have hl2:=len_k a2
   simp only[List.length_append,List.length_cons]at hl hl2
   obtain⟨bd,ts3,q1,q2,q3⟩:=rt_block h13 ih1 a2 (n:=n) (by omega)
   rw[pst,if_neg (by omega),if_pos k1,k2,hw,if_neg (by omega),if_neg b,if_neg c,a1]
   simp only
   rw[if_pos f,q1]
   exact⟨_,_,rfl,q2,sameS_mk rfl rfl (by simpa[zSp] using h5 (by omega)) (blank_same hbl) rfl q3 rfl⟩
  ·have hb:bodyE op=false:=by unfold bodyE;simp;omega
   rw[if_neg (by rw[hb];simp)]at hm
   simp only[List.cons_append,List.append_assoc,List.nil_append]at hm
   obtain⟨t,ts1,rfl,k1,k2,k3⟩:=kt_cons hm
   obtain⟨ts2,a1,a2⟩:=pName_k k3
   obtain⟨ts4,e1,e2⟩:=pTok_k a2
   rw[pst,if_neg (by omega),if_pos k1,k2,hw,if_neg (by omega),if_neg b,if_neg c,a1]
   simp only
   rw[if_neg f,if_neg d,if_neg e,e1]
   exact⟨_,_,rfl,e2,sameS_mk rfl rfl (by simpa[zSp] using h5 (by omega)) (blank_same hbl) rfl (by simp only;rw[h11 hb];rfl) rfl⟩
end Go.Proofs.YtlehfgdhebapeaaGreatDoor.KM
