/- Plain: the first lines of statements. -/
import Derived.Test.YtcoeikinocflnaaGreatDoorUg
import Derived.Test.YtcoeikinocflnaaGreatDoorNa
import Derived.Test.YtcoeikinocflnaaGreatDoorLh
import Derived.Test.YtcoeikinocflnaaGreatDoorLj
set_option linter.all false
namespace Go.Proofs.YtcoeikinocflnaaGreatDoor.KM
open Go
theorem ixU(c:UInt8):∀ (a r:List UInt8),c ∉ a->Lib.index (a++c::r) [c]=(a.length:Int)/\Lib.indexByte (a++c::r) c=(a.length:Int)
 | [],r,_=>by
  have hp:List.isPrefixOf [c] (c::r)=true:=by simp[List.isPrefixOf]
  constructor
  ·rw[Bw];unfold Lib.index;rw[hp];rfl
  ·rw[Bw,Lib.indexByte];simp
 | b::a,r,h=>by
  have hb:(c==b)=false:=by simp at h ⊢;exact h.1
  have hb2:(b==c)=false:=by simp at h ⊢;exact fun e=>h.1 e.symm
  obtain⟨h1,h2⟩:=ixU c a r (by simp at h;exact h.2)
  have hp:List.isPrefixOf [c] (b::(a++c::r))=false:=by simp[List.isPrefixOf]at hb ⊢;exact hb
  have hn:((a.length:Int) == -1)=false:=by simp
  constructor
  ·rw[Cq]
   unfold Lib.index
   rw[hp,h1]
   simp only[Eh,if_false,hn,Af]
   omega
  ·rw[Cq,Lib.indexByte,h2]
   simp only[hb2,Eh,if_false,hn,Af]
   omega
theorem A2o{c:UInt8}{a r:List UInt8}(h:c ∉ a):Lib.cut (a++c::r) [c]=(a,r,true):=by
 have hi:=(ixU c a r h).1
 unfold Lib.cut
 rw[hi,if_pos (by omega)]
 simp
def Bn(s:Sp):List UInt8:=Bv s++if A8 s.op then [32,123] else [59]
mutual
def Sp.hds:Sp->List (List UInt8)
 | ⟨op,line,nm,arg,iz,it,idx,ex,bz,bt,body,ez,et,els⟩=>Bn ⟨op,line,nm,arg,iz,it,idx,ex,bz,bt,body,ez,et,els⟩::(Sp.hdss body++Sp.hdss els)
def Sp.hdss:List Sp->List (List UInt8)
 | []=>[]
 | x::l=>x.hds++Sp.hdss l
end
theorem Abx(s:Sp):s.hds=Bn s::(Sp.hdss s.body++Sp.hdss s.els):=by
 cases s
 rw[Sp.hds]
mutual
theorem Aur:∀ s:Sp,s.hds.length=s.sz
 | ⟨op,line,nm,arg,iz,it,idx,ex,bz,bt,body,ez,et,els⟩=>by
  rw[Abx,L3]
  simp only[Af,Aj]
  rw[Hm body,Hm els]
  omega
theorem Hm:∀ l:List Sp,(Sp.hdss l).length=Sp.szs l
 | []=>rfl
 | x::l=>by rw[Sp.hdss,Sp.szs,Aj,Aur x,Hm l]
end
theorem Ai6{s:Sp}(h:ShS s):(10:UInt8) ∉ Bn s:=by
 have h0:E3 (Bn s)=0:=by
  unfold Bn
  rw[Gb,Auq h]
  split<;>decide
 exact List.count_eq_zero.1 h0
theorem Adg(s:Sp):∃ r,s.txt 0=Bn s++10::r:=by
 rw[Ig]
 unfold Bn
 split
 ·exact⟨Sp.txts (0+1) s.body++((if s.els.isEmpty then [] else Di 0++125::32::101::108::115::101::32::123::10::Sp.txts (0+1) s.els)++(Di 0++[125,10])),by simp[Di]⟩
 ·exact⟨[],by simp[Di]⟩
def F3(s:Sp):Sp:=⟨s.op,s.line,s.nm,s.arg,s.iz,s.it,s.idx,s.ex,true,0,[],true,0,[]⟩
theorem Aoh(s:Sp):Bn (F3 s)=Bn s:=rfl
theorem Aus{s:Sp}(h:CnS s):CnS (F3 s):=by
 cases h with
 | mk h1 h2 h3 h4 h5 h6 h7 h8 h9=>exact .mk h1 h2 h3 h4 h5 (fun _=>rfl) (fun _=>rfl) (fun x hx=>by cases hx) (fun x hx=>by cases hx)
theorem Aq3(s:Sp):(∃ r,(F3 s).txt 0=Bn s++10::r)/\((F3 s).txt 0).length<=(Bn s).length+10:=by
 refine⟨Aoh s ▸ Adg (F3 s),?_⟩
 rw[Ig]
 unfold Bn
 have:(F3 s).op=s.op:=rfl
 have h2:Bv (F3 s)=Bv s:=rfl
 rw[this,h2]
 split
 ·simp[Di,F3,Sp.txts]
 ·simp[Di]
mutual
theorem Aq4:∀ (s:Sp) (d d':Nat),d<=d'->(s.txt d).length<=(s.txt d').length
 | ⟨op,line,nm,arg,iz,it,idx,ex,bz,bt,body,ez,et,els⟩,d,d',h=>by
  have h1:=Qn body (d+1) (d'+1) (by omega)
  have h2:=Qn els (d+1) (d'+1) (by omega)
  rw[Ig,Ig]
  simp only[Aj,I1]
  split
  ·cases els<;>simp[I1]at h2 ⊢<;>omega
  ·simp;omega
theorem Qn:∀ (l:List Sp) (d d':Nat),d<=d'->(Sp.txts d l).length<=(Sp.txts d' l).length
 | [],_,_,_=>by simp[Sp.txts]
 | x::l,d,d',h=>by
  have h1:=Aq4 x d d' h
  have h2:=Qn l d d' h
  rw[J5,J5,Aj,Aj]
  omega
end
theorem Ai7(s:Sp):(Bn s).length+1<=(s.txt 0).length:=by
 obtain⟨r,hr⟩:=Adg s
 rw[hr]
 simp
theorem Aut{s:Sp}(h:A8 s.op=true):(Bn s).length+(Sp.txts 0 s.body).length+(Sp.txts 0 s.els).length<=(s.txt 0).length:=by
 have h1:=Qn s.body 0 1 (by omega)
 have h2:=Qn s.els 0 1 (by omega)
 rw[Ig,if_pos h]
 unfold Bn
 rw[if_pos h]
 cases he:s.els with
 | nil=>rw[he]at h2;simp[Di,Sp.txts]at h2 ⊢;omega
 | cons a l=>rw[he]at h2;simp[Di]at h2 ⊢;omega
def Adh(d:Nat):Xp:=⟨1,(d:Int),[],true,0,[]⟩
def Da(d:Nat):Sp:=⟨1,0,[120],[],true,0,[],Adh d,true,0,[],true,0,[]⟩
def Yk:Dp:=⟨1,0,[120],0,0,[]⟩
def Ma:List UInt8:=[109,97,105,110]
def H9(l:List Nat):Gp:=⟨true,0,[Yk],true,0,[⟨Ma,0,true,0,[],true,0,l.map Da⟩]⟩
def Ff(d:Nat):List UInt8:=[120,32,61,32]++(Cz (d:Int)++[59,32])
def K6:List UInt8:=[118,97,114,32,120,59,32,116,104,114,101,97,100,32,109,97,105,110,40,41,32,123,32]
def Fq(l:List Nat):List UInt8:=K6++((l.map Ff).flatten++[125])
theorem Auu{d:Nat}(h:d<=9):ShE (Adh d):=.num (by omega)
theorem Auv{d:Nat}(h:d<=9):ShS (Da d):=by
 refine .mk (by show(1:Int)<=1/\(1:Int)<=15;decide) (fun h=>by simp[Hy,Da]at h) (fun _=>by show Dz [120]=true;decide) (fun h=>by simp[Da]at h) ?_ ?_ ?_ ?_ ?_ ?_ ?_ ?_ ?_ ?_
 all_goals simp[Da,A8,Ec,Auu h]
theorem Auw{l:List Nat}(h:∀ d∈l,d<=9):ShG (H9 l) where
 decls:=fun d hd=>by
  simp[H9]at hd
  subst hd
  exact⟨by decide,by decide,by simp[Yk],by simp[Yk],by simp[Yk]⟩
 nms:=fun t ht=>by
  simp[H9]at ht
  subst ht
  show Dz Ma=true
  decide
 locs:=fun t ht s hs=>by
  simp[H9]at ht
  subst ht
  simp at hs
 thrs:=fun t ht s hs=>by
  simp[H9]at ht
  subst ht
  simp only[Dc]at hs
  obtain⟨d,hd,rfl⟩:=hs
  exact Auv (h d hd)
 some:=by simp[H9]
theorem Aux{d:Nat}(h:d<=9)(r:List UInt8):Ee (Ff d++r)=cons (Da d).toks (Ee r):=by
 have e:(Da d).toks=[(1,[120]),(4,[61]),(2,Cz (d:Int)),(4,[59])]:=by
  simp[Da,Sp.toks,X8,U3,Adh,Xp.toks,Nj,Xp.tokss,A8]
 rw[e]
 unfold Ff
 simp only[Bz,Cq,Bw]
 rw[show(120:UInt8)::32::61::32::(Cz (d:Int)++59::32::r)=[120]++(32::61::32::(Cz (d:Int)++59::32::r)) from rfl]
 rw[Aa8 (by decide) (Q8 _ (by decide)),Nm,An8,Nm,Axz Ax4 (by omega) (Q8 _ (by decide)),Q9 (by decide),Nm]
 simp only[Z3,Cq,Bw]
theorem Ai8:∀ {l:List Nat},(∀ d∈l,d<=9)->∀ r,Ee ((l.map Ff).flatten++r)=cons (Sp.tokss (l.map Da)) (Ee r)
 | [],_,r=>by simp[Sp.tokss,Aqk]
 | d::l,h,r=>by
  rw[A1,Ea,Bz,Aux (h d Dm),Ai8 (fun x hx=>h x (Db _ hx)),Z3,A1,Sp.tokss]
theorem Ayk{l:List Nat}(h:∀ d∈l,d<=9):Ee (Fq l)=some (Ace (H9 l)):=by
 unfold Fq K6
 rw[show([118,97,114,32,120,59,32,116,104,114,101,97,100,32,109,97,105,110,40,41,32,123,32]:List UInt8)++((l.map Ff).flatten++[125])=(118::[97,114])++(32::([120]++(59::32::((116::[104,114,101,97,100])++(32::(Ma++(40::41::32::123::32::((l.map Ff).flatten++[125])))))))) from rfl]
 rw[Aa7 (by decide) (by decide) (by decide) (Q8 _ (by decide)),Nm,Aa8 (by decide) (Q8 _ (by decide)),Q9 (by decide),Nm,Aa7 (by decide) (by decide) (by decide) (Q8 _ (by decide)),Nm,Aa8 (by decide) (Q8 _ (by decide)),Q9 (by decide),Q9 (by decide),Nm,Q9 (by decide),Nm,Ai8 h,Q9 (by decide),Axy]
 simp only[Z3]
 unfold cons
 rw[Et]
 congr 1
theorem Aky{d:Nat}(h:d<=9):(Cz (d:Int)).length=1:=by
 have:d=0\/d=1\/d=2\/d=3\/d=4\/d=5\/d=6\/d=7\/d=8\/d=9:=by omega
 rcases this with rfl | rfl | rfl | rfl | rfl | rfl | rfl | rfl | rfl | rfl<;>rfl
theorem Aar:∀ {l:List Nat},(∀ d∈l,d<=9)->((l.map Ff).flatten).length=7*l.length
 | [],_=>rfl
 | d::l,h=>by
  rw[A1,Ea,Aj,Aar fun x hx=>h x (Db _ hx),Af]
  have:=Aky (h d Dm)
  unfold Ff
  simp
  omega
theorem Mr{l:List Nat}(h:∀ d∈l,d<=9)(hl:l.length<=20):∃ p,M8 (Fq l)=some p/\L8 (H9 l) p=true:=by
 have hs:=Ayk h
 unfold Ee N7 at hs
 obtain⟨ts,h1,h2⟩:=A0.1 hs
 obtain⟨p',h3,h4⟩:=At2 Ax3 (Auw h) h2
 refine⟨p',?_,h4⟩
 have hlen:(Fq l).length<=4096:=by
  unfold Fq K6
  have:=Aar h
  simp only[Aj,Af,Cf,this]
  omega
 unfold M8
 rw[if_neg (by omega),h1]
 simp only
 rw[h3]
theorem Aez:∀ {l:List Nat} {b:List Sp},Fl (l.map Da) b=true->Sp.hdss b=l.map fun d=>Bn (Da d)
 | [],[],_=>rfl
 | [],b::bs,h=>by simp[Fl]at h
 | d::l,[],h=>by simp[Fl]at h
 | d::l,b::bs,h=>by
  rw[A1]at h
  have h0:Nl (Da d) b=true/\Fl (l.map Da) bs=true:=by simpa[Fl] using h
  have ht:=Aiy (Da d) b h0.1 0
  have hb:b.op=1/\b.body=[]/\b.els=[]:=by
   have h1:=h0.1
   obtain⟨op,line,nm,arg,iz,it,idx,ex,bz,bt,body,ez,et,els⟩:=b
   simp only[Da,Nl,Ae,beq_iff_eq]at h1
   have hn:∀ {x:List Sp},Fl [] x=true->x=[]:=fun {x} hx=>by
    cases x with
    | nil=>rfl
    | cons _ _=>simp[Fl]at hx
   simp only
   exact⟨by simp_all,hn (by simp_all),hn (by simp_all)⟩
  have hline:Bn b=Bn (Da d):=by
   rw[Ig,Ig]at ht
   unfold Bn
   rw[hb.1]at ht ⊢
   simp[A8,Da,Di]at ht ⊢
   exact ht.symm
  rw[Sp.hdss,Abx,hb.2.1,hb.2.2,hline,Aez h0.2]
  rfl
theorem Afy{l:List Nat}{p:Gp}(h:L8 (H9 l) p=true):∃ t,p.thrs=[t]/\t.nm=Ma/\Sp.hdss t.body=l.map fun d=>Bn (Da d):=by
 unfold L8 H9 at h
 simp only[Ae,beq_iff_eq,Af,Cf]at h
 obtain⟨-,h1,h2⟩:=h
 match hp:p.thrs,h1 with
 | [t],_=>
  rw[hp]at h2
  simp[Rp]at h2
  exact⟨t,rfl,h2.1.symm,Aez h2.2.2⟩
end Go.Proofs.YtcoeikinocflnaaGreatDoor.KM
