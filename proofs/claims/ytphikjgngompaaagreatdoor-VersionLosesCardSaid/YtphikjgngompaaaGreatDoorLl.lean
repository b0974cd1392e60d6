/- Walks: the parser's expressions. -/
import Derived.Test.YtphikjgngompaaaGreatDoorHx
import Derived.Test.YtphikjgngompaaaGreatDoorPe
set_option linter.all false
namespace Go.Proofs.YtphikjgngompaaaGreatDoor.KM
open Go
def Ys:∀ n,(∀ lvl ts x r,pe n lvl ts=some (x,r)->r.length<ts.length)/\(∀ lvl x0 ts x r,lp n lvl x0 ts=some (x,r)->r.length<=ts.length) /\
  (∀ ts x r,pu n ts=some (x,r)->r.length<ts.length)/\(∀ ts x r,pp n ts=some (x,r)->r.length<ts.length)
 | 0=>⟨fun _ _ _ _ h=>by grind[pe],fun _ _ _ _ _ h=>by grind[lp],fun _ _ _ h=>by grind[pu],fun _ _ _ h=>by grind[pp]⟩
 | n+1=>by
  obtain⟨qN,qO,jh,ji⟩:=Ys n;refine⟨fun lvl ts x r h=>?_,fun lvl x0 ts x r h=>?_,fun ts x r h=>?_,fun ts x r h=>?_⟩
  .grind[pe]
  .rw[lp]at h
   grind
  .grind[pu]
  .cases ts with
   | nil=>grind[pp]
   | cons t ts=>
    grind[pp]
structure OkA (A:List Tk):Prop where
 len:A.length<=4096
 num:∀ t∈A,t.kind=2->Lib.parseIntB 64 t.text=.ok (Jv t.text)/\t.text.length<=4096
def PR(A:List Tk)(o:Option (Xp × List Tk))(v:V)(p':Nat):Prop:=match o with
 | some (x,r)=>v=.tup [.agg x.row,.bool true]/\A.drop p'=r
 | none=>v=.tup [.agg zX,.bool false]
def PE(n:Nat):Prop:=∀ (lvl:Nat) (s:St) (m:Nat) (z:Bool) (t:Nat) (A:List Tk) (p:Nat),OkA A->s[m]?=some (RO z t A p)->p<=A.length->1<=lvl->lvl<=6->8*(A.length - p)+7<=n+lvl ->
 RT 221 [iV (lvl:Int)] s m z t A (PR A (pe n lvl (A.drop p)))
def PU(n:Nat):Prop:=∀ (s:St) (m:Nat) (z:Bool) (t:Nat) (A:List Tk) (p:Nat),OkA A->s[m]?=some (RO z t A p)->p<=A.length->8*(A.length - p)<=n->RT 233 [] s m z t A (PR A (pu n (A.drop p)))
def PP(n:Nat):Prop:=∀ (s:St) (m:Nat) (z:Bool) (t:Nat) (A:List Tk) (p:Nat),OkA A->s[m]?=some (RO z t A p)->p<=A.length->8*(A.length - p)<=n+1->RT 239 [] s m z t A (PR A (pp n (A.drop p)))
def Cx{cs:List V}{b:Bool}(h:Dc (.agg cs)=true):Cg (.tup [.agg cs,.bool b])=true/\(V.tup [.agg cs,.bool b]).refs=[]:=by
 have h1:=Aay h;have h2:=Xc h;have qR:cs.all V.cellB=true:=h1;have qS:Ag cs=[]:=h2;refine⟨?_,?_⟩
 .show((cs.all V.cellB)&&_)=true;rw[qR];rfl
 .show Ag cs++_=[];rw[qS];rfl
def Vf{n:Nat}(h:PE n){s:St}{m:Nat}{z:Bool}{t:Nat}{A:List Tk}{p:Nat}(hA:OkA A)(hs:s[m]?=some (RO z t A p))(hp:p<=A.length)(hb:8*(A.length - p)+6<=n):RT 195 [] s m z t A (PR A (pe n 1 (A.drop p))):=by
 refine Mq T195 rfl hs fun S hS=>?_
 obtain⟨v,q,h1,h2,h3⟩:=Qj hS (l:=[zY]) fun hs=>h 1 _ m z t A p hA hs hp AA AA AA
 have hm:=hS.low;have Zq:=Dr hS;obtain⟨-,-,qd,get,get0,set,set0,n0,n1,n2,u0,u1,u2⟩:=hS;rw[Int.natCast_one]at h1;simp only[go_sem,Zq,LZ];unfold PR at h3 ⊢
 split at h3
 .rename_i x r ho;obtain⟨rfl,h3⟩:=h3;have hx:=Dw x;have hr:=Bi x;rw[hr]at h1 hx ⊢;refine Aa h1 ?_;simp only[go_sem,Zq,LZ];exact Cf (v:=.tup [.agg _,.bool true]) (Cj (n0 _ _ _) rfl rfl rfl) (Cx hx) h2 ⟨rfl,h3⟩
 .subst h3;refine Aa h1 ?_;simp only[go_sem,Zq,LZ];exact Cf (v:=.tup [.agg _,.bool false]) (Cj (n0 _ _ _) rfl rfl rfl) (Cx rfl) h2 rfl
def Ah6{s:St}{m:Nat}{z:Bool}{t:Nat}{A:List Tk}{S:Nat->St}(hS:RdS s m z t A S){p:Nat}(l:St)(hl:A.length<=1000000)(hp:p<=A.length){w:List UInt8}{r:List Tk}(h:Da (A.drop p)=some (w,r)):Bx TT PT 108 [.ptr m 0 0] (S p++l) (.tup [.str w,.bool true]) (S (p+1)++l)/\p<A.length/\A.drop (p+1)=r:=by
 obtain⟨h1,h2⟩:=(Yr (hS.get p l) hl hp).1 w r h;rw[show(S p++l).set m (RO z t A (p+1))=S (p+1)++l from hS.set p (p+1) l]at h1
 grind
def Acu{s:St}{m:Nat}{z:Bool}{t:Nat}{A:List Tk}{S:Nat->St}(hS:RdS s m z t A S){p:Nat}(l:St)(hl:A.length<=1000000)(hp:p<=A.length)(h:Da (A.drop p)=none):Bx TT PT 108 [.ptr m 0 0] (S p++l) (.tup [.str [],.bool false]) (S p++l):=(Yr (hS.get p l) hl hp).2 h
def Bqi{s:St}{m:Nat}{z:Bool}{t:Nat}{A:List Tk}{S:Nat->St}(hS:RdS s m z t A S){p:Nat}(l:St)(hA:OkA A)(hp:p<=A.length){w:Int}{r:List Tk}(h:He (A.drop p)=some (w,r)):Bx TT PT 144 [.ptr m 0 0] (S p++l) (.tup [iV w,.bool true]) (S (p+1)++l)/\p<A.length/\A.drop (p+1)=r:=by
 obtain⟨h1,h2⟩:=(Ags (hS.get p l) (by have:=hA.len;omega) hp hA.num).1 w r h;rw[show(S p++l).set m (RO z t A (p+1))=S (p+1)++l from hS.set p (p+1) l]at h1
 grind
def A0t{s:St}{m:Nat}{z:Bool}{t:Nat}{A:List Tk}{S:Nat->St}(hS:RdS s m z t A S){p:Nat}(l:St)(hA:OkA A)(hp:p<=A.length)(h:He (A.drop p)=none):Bx TT PT 144 [.ptr m 0 0] (S p++l) (.tup [iV 0,.bool false]) (S p++l):=(Ags (hS.get p l) (by have:=hA.len;omega) hp hA.num).2 h
theorem Bfo{n:Nat}(hE:∀ k,k<n->PE k):PP n:=by
 intro s m z t A p hA hs hp hb;refine Mq T239 rfl hs fun S hS=>?_
 have hl:A.length<=1000000:=by have:=hA.len;omega
 have qa:=hS;have hm:=hS.low;have Zq:=Dr hS;obtain⟨-,-,qd,get,get0,set,set0,n0,n1,n2,u0,u1,u2⟩:=hS;rcases Bh p A.length with qf | qX
 .obtain⟨k,rfl⟩:∃ k,n=k+1:=⟨n - 1,by omega⟩;have hd:=Na qf;by_cases h2:(Ae A p).kind=2
  .have hq:He (A.drop p)=some (Jv (Ae A p).text,A.drop (p+1)):=by rw[hd];simp only[He];rw[if_pos h2]
   obtain⟨c1,-,-⟩:=Bqi qa [zY] hA hp hq;have ho:pp (k+1) (A.drop p)=some (⟨1,Jv (Ae A p).text,[],true,0,[]⟩,A.drop (p+1)):=by rw[hd,pp,if_pos h2]
   rw[ho];simp only[go_sem,Zq,LZ];refine Aa c1 ?_;simp only[go_sem,Zq,LZ];exact Cf (v:=.tup [.agg _,.bool true]) (Cj (n0 _ _ _) rfl rfl rfl) (Cx rfl) qf ⟨rfl,rfl⟩
  .have hq:He (A.drop p)=none:=by rw[hd];simp only[He];rw[if_neg h2]
   have c1:=A0t qa [zY] hA hp hq;by_cases h1:(Ae A p).kind=1
   .have hn:Da (A.drop p)=some ((Ae A p).text,A.drop (p+1)):=by rw[hd];simp only[Da];rw[if_pos h1]
    obtain⟨c2,-,-⟩:=Ah6 qa [zY] hl hp hn;by_cases qh:Av [91] (A.drop (p+1))=true
    .have c3:=Mh qa [zY] hl qh;have qk:=Ef qh;obtain⟨v,q,c4,qb,h3⟩:=Qj qa (l:=[zY]) fun hs=>Vf (hE k AA) (p:=p+1+1) hA hs AA AA
     have ho:pp (k+1) (A.drop p)=match pe k 1 (A.drop (p+1+1)) with
       | none=>none
       | some (x,r)=>if Av [93] r then some (⟨3,0,(Ae A p).text,true,1,[x]⟩,r.tail) else none:=by
      rw[hd,pp,if_neg h2,if_pos h1,if_pos qh,<-Ej];rfl
     rw[ho];simp only[go_sem,Zq,LZ];refine Aa c1 ?_;simp only[go_sem,Zq,LZ];refine Aa c2 ?_;simp only[go_sem,Zq,LZ];refine Aa c3 ?_;simp only[go_sem,Zq,LZ];unfold PR at h3
     split at h3
     .rename_i x r hx;obtain⟨rfl,h3⟩:=h3;have qc:=Dw x;have hr:=Bi x;rw[hr]at c4 qc;rw[hx];simp only;refine Aa c4 ?_;by_cases qe:Av [93] r=true
      .rw[<-h3]at qe;have c5:=Mh qa [zY,xO x] hl qe;rw[<-h3,if_pos qe];simp only[go_sem,Zq,LZ];refine Aa c5 ?_;simp only[go_sem,Zq,LZ];exact Cf (v:=.tup [.agg _,.bool true]) (Cj (n0 _ _ _) rfl rfl rfl) (Cx AB) (Ef qe) ⟨by rw[Bi ⟨3,0,_,_,_,_⟩];simp only[Az,Bz,hr];rfl,Ej⟩
      .have qe:Av [93] (A.drop q)=false:=by rw[h3];simpa using qe
       have c5:=J7 qa [zY,xO x] hl qb qe;rw[<-h3,if_neg (by grind)];simp only[go_sem,Zq,LZ];refine Aa c5 ?_;simp only[go_sem,Zq,LZ];exact Cf (v:=.tup [.agg _,.bool false]) (Cj (n0 _ _ _) rfl rfl rfl) (Cx rfl) qb rfl
     .rename_i hx;subst h3;rw[hx];simp only;refine Aa c4 ?_;simp only[go_sem,Zq,LZ];exact Cf (v:=.tup [.agg _,.bool false]) (Cj (n0 _ _ _) rfl rfl rfl) (Cx rfl) qb rfl
    .have qh:Av [91] (A.drop (p+1))=false:=by simpa using qh
     have c3:=J7 qa [zY] hl (Io qf) qh;have ho:pp (k+1) (A.drop p)=some (⟨2,0,(Ae A p).text,true,0,[]⟩,A.drop (p+1)):=by rw[hd,pp,if_neg h2,if_pos h1,if_neg AA]
     rw[ho];simp only[go_sem,Zq,LZ];refine Aa c1 ?_;simp only[go_sem,Zq,LZ];refine Aa c2 ?_;simp only[go_sem,Zq,LZ];refine Aa c3 ?_;simp only[go_sem,Zq,LZ];exact Cf (v:=.tup [.agg _,.bool true]) (Cj (n0 _ _ _) rfl rfl rfl) (Cx rfl) qf ⟨rfl,rfl⟩
   .have hn:Da (A.drop p)=none:=by rw[hd];simp only[Da];rw[if_neg h1]
    have c2:=Acu qa [zY] hl hp hn;by_cases qg:Av [40] (A.drop p)=true
    .have c3:=Mh qa [zY] hl qg;obtain⟨v,q,c4,qb,h3⟩:=Qj qa (l:=[zY]) fun hs=>Vf (hE k AA) (p:=p+1) hA hs AA AA
     have ho:pp (k+1) (A.drop p)=match pe k 1 (A.drop (p+1)) with
       | none=>none
       | some (x,r)=>if Av [41] r then some (x,r.tail) else none:=by
      rw[hd]at qg ⊢;rw[pp,if_neg h2,if_neg h1,if_pos qg];rfl
     rw[ho];simp only[go_sem,Zq,LZ];refine Aa c1 ?_;simp only[go_sem,Zq,LZ];refine Aa c2 ?_;simp only[go_sem,Zq,LZ];refine Aa c3 ?_;simp only[go_sem,Zq,LZ];unfold PR at h3
     split at h3
     .rename_i x r hx;obtain⟨rfl,h3⟩:=h3;have qc:=Dw x;have hr:=Bi x;rw[hr]at c4 qc;rw[hx];simp only;refine Aa c4 ?_;by_cases qe:Av [41] r=true
      .rw[<-h3]at qe;have c5:=Mh qa [zY,xO x] hl qe;rw[<-h3,if_pos qe];simp only[go_sem,Zq,LZ];refine Aa c5 ?_;simp only[go_sem,Zq,LZ];exact Cf (v:=.tup [.agg _,.bool true]) (Cj (n0 _ _ _) rfl rfl rfl) (Cx qc) (Ef qe) ⟨by rw[hr],Ej⟩
      .have qe:Av [41] (A.drop q)=false:=by rw[h3];simpa using qe
       have c5:=J7 qa [zY,xO x] hl qb qe;rw[<-h3,if_neg (by grind)];simp only[go_sem,Zq,LZ];refine Aa c5 ?_;simp only[go_sem,Zq,LZ];exact Cf (v:=.tup [.agg _,.bool false]) (Cj (n0 _ _ _) rfl rfl rfl) (Cx rfl) qb rfl
     .rename_i hx;subst h3;rw[hx];simp only;refine Aa c4 ?_;simp only[go_sem,Zq,LZ];exact Cf (v:=.tup [.agg _,.bool false]) (Cj (n0 _ _ _) rfl rfl rfl) (Cx rfl) qb rfl
    .have qg:Av [40] (A.drop p)=false:=by simpa using qg
     have c3:=J7 qa [zY] hl hp qg
     have ho:pp (k+1) (A.drop p)=none:=by
      rw[hd]at qg ⊢;rw[pp,if_neg h2,if_neg h1,if_neg (by grind)]
     rw[ho];simp only[go_sem,Zq,LZ];refine Aa c1 ?_;simp only[go_sem,Zq,LZ];refine Aa c2 ?_;simp only[go_sem,Zq,LZ];refine Aa c3 ?_;simp only[go_sem,Zq,LZ];exact Cf (v:=.tup [.agg _,.bool false]) (Cj (n0 _ _ _) rfl rfl rfl) (Cx rfl) hp rfl
 .have hd:=(Lt qX).1
  have ho:pp n (A.drop p)=none:=by
   rw[hd]
   cases n<;>simp[pp]
  rw[ho];have c1:=A0t qa [zY] hA hp (by rw[hd];rfl);have c2:=Acu qa [zY] hl hp (by rw[hd];rfl);have c3:=J7 qa [zY] hl hp (w:=[40]) (by rw[hd];rfl);simp only[go_sem,Zq,LZ];refine Aa c1 ?_;simp only[go_sem,Zq,LZ];refine Aa c2 ?_;simp only[go_sem,Zq,LZ];refine Aa c3 ?_;simp only[go_sem,Zq,LZ];exact Cf (v:=.tup [.agg _,.bool false]) (Cj (n0 _ _ _) rfl rfl rfl) (Cx rfl) hp rfl
theorem Bfp{n:Nat}(hU:∀ k,k<n->PU k)(hP:∀ k,k<=n->PP k):PU n:=by
 intro s m z t A p hA hs hp hb;refine Mq T233 rfl hs fun S hS=>?_
 have hl:A.length<=1000000:=by have:=hA.len;omega
 have qa:=hS;have hm:=hS.low;have Zq:=Dr hS;obtain⟨-,-,qd,get,get0,set,set0,n0,n1,n2,u0,u1,u2⟩:=hS
 have prim:∀ k,8*(A.length - p)<=k+1->k<=n->Av [45] (A.drop p)=false->Av [33] (A.drop p)=false->pu n (A.drop p)=pp k (A.drop p)->W TT PT [.c b233.body] (C6 0 [.ptr m 0 0]) (S p) (Hd fun e' σ1=>∃ v p' l,Cd e' σ1 [.cell 2 4 false,.tmp 3]=some v/\(Cg v=true/\v.refs=[])/\σ1=S p'++l/\p'<=A.length/\PR A (pu n (A.drop p)) v p'):=by
  intro k hk qw h4 h5 ho;have qo:=J7 qa [zY] hl hp h4;have qP:=J7 qa [zY] hl hp h5;obtain⟨v,q,c4,qb,h3⟩:=Qj qa (l:=[zY]) fun hs=>hP k qw _ m z t A p hA hs hp hk
  rw[ho];unfold b233 tX;simp only[go_sem,Zq,LZ];refine Aa qo ?_;simp only[go_sem,Zq,LZ];refine Aa qP ?_;simp only[go_sem,Zq,LZ];unfold PR at h3 ⊢
  split at h3
  .rename_i x r hx;obtain⟨rfl,h3⟩:=h3;have qc:=Dw x;have hr:=Bi x;rw[hr]at c4 qc;rw[hr];refine Aa c4 ?_;simp only[go_sem,Zq,LZ];exact Cf (v:=.tup [.agg _,.bool true]) (Cj (n0 _ _ _) rfl rfl rfl) (Cx qc) qb ⟨rfl,h3⟩
  .rename_i hx;subst h3;refine Aa c4 ?_;simp only[go_sem,Zq,LZ];exact Cf (v:=.tup [.agg _,.bool false]) (Cj (n0 _ _ _) rfl rfl rfl) (Cx rfl) qb rfl
 rcases n with _ | k
 .have hd:=(Lt (A:=A) (p:=p) AA).1;refine prim 0 AA (Ak _) (by rw[hd];rfl) (by rw[hd];rfl) ?_
  grind[pu,pp]
 .by_cases h4:Av [45] (A.drop p)=true
  .have qf:=Ef h4;have cA:=Mh qa [zY] hl h4;obtain⟨v,q,c4,qb,h3⟩:=Qj qa (l:=[zY]) fun hs=>hU k AA _ m z t A (p+1) hA hs AA AA
   have ho:pu (k+1) (A.drop p)=match pu k (A.drop (p+1)) with
     | none=>none
     | some (x,r)=>some (Pt 4 x,r):=by
    rw[pu,if_pos h4,<-Ej];rfl
   rw[ho];simp only[go_sem,Zq,LZ];refine Aa cA ?_;simp only[go_sem,Zq,LZ];unfold PR at h3
   split at h3
   .rename_i x r hx;obtain⟨rfl,h3⟩:=h3;have qc:=Dw x;have hr:=Bi x;rw[hr]at c4 qc;rw[hx];simp only;refine Aa c4 ?_;simp only[go_sem,Zq,LZ];exact Cf (v:=.tup [.agg _,.bool true]) (Cj (n0 _ _ _) rfl rfl rfl) (Cx AB) qb ⟨by unfold Pt;rw[Bi ⟨4,0,_,_,_,_⟩];simp only[Az,Bz,hr];rfl,h3⟩
   .rename_i hx;subst h3;rw[hx];simp only;refine Aa c4 ?_;simp only[go_sem,Zq,LZ];exact Cf (v:=.tup [.agg _,.bool false]) (Cj (n0 _ _ _) rfl rfl rfl) (Cx rfl) qb rfl
  .have h4:Av [45] (A.drop p)=false:=by simpa using h4
   have qo:=J7 qa [zY] hl hp h4;by_cases h5:Av [33] (A.drop p)=true
   .have qf:=Ef h5;have cA:=Mh qa [zY] hl h5;obtain⟨v,q,c4,qb,h3⟩:=Qj qa (l:=[zY]) fun hs=>hU k AA _ m z t A (p+1) hA hs AA AA
    have ho:pu (k+1) (A.drop p)=match pu k (A.drop (p+1)) with
      | none=>none
      | some (x,r)=>some (Pt 5 x,r):=by
     rw[pu,if_neg AA,if_pos h5,<-Ej];rfl
    rw[ho];simp only[go_sem,Zq,LZ];refine Aa qo ?_;simp only[go_sem,Zq,LZ];refine Aa cA ?_;simp only[go_sem,Zq,LZ];unfold PR at h3
    split at h3
    .rename_i x r hx;obtain⟨rfl,h3⟩:=h3;have qc:=Dw x;have hr:=Bi x;rw[hr]at c4 qc;rw[hx];simp only;refine Aa c4 ?_;simp only[go_sem,Zq,LZ];exact Cf (v:=.tup [.agg _,.bool true]) (Cj (n0 _ _ _) rfl rfl rfl) (Cx AB) qb ⟨by unfold Pt;rw[Bi ⟨5,0,_,_,_,_⟩];simp only[Az,Bz,hr];rfl,h3⟩
    .rename_i hx;subst h3;rw[hx];simp only;refine Aa c4 ?_;simp only[go_sem,Zq,LZ];exact Cf (v:=.tup [.agg _,.bool false]) (Cj (n0 _ _ _) rfl rfl rfl) (Cx rfl) qb rfl
   .have h5:Av [33] (A.drop p)=false:=by simpa using h5
    exact prim k hb AA h4 h5 (by simp_all [pu])
theorem Bfq{n:Nat}(hE:∀ k,k<n->PE k)(hU:∀ k,k<n->PU k):PE n:=by
 intro lvl s m z t A p hA hs hp h1 h6 hb;obtain⟨n,rfl⟩:∃ k,n=k+1:=⟨n - 1,by omega⟩;refine Mq T221 rfl hs fun S hS=>?_
 have hl:A.length<=1000000:=by have:=hA.len;omega
 have qa:=hS;have hm:=hS.low;have Zq:=Dr hS;obtain⟨-,-,qd,get,get0,set,set0,n0,n1,n2,u0,u1,u2⟩:=hS;by_cases h5:5<lvl
 .have f5:((5:Int)<(lvl:Int))=True:=eq_true AA;have ho:pe (n+1) lvl (A.drop p)=pu n (A.drop p):=by rw[pe,if_pos h5]
  obtain⟨v,q,c4,qb,h3⟩:=Qj qa (l:=[.row [iV 0,iV 0,.str [],.nils] 101 0 0]) fun hs=>hU n AA _ m z t A p hA hs hp AA
  rw[ho];simp only[go_sem,Zq,LZ,gt_iff_lt,f5];unfold PR at h3 ⊢
  split at h3
  .rename_i x r hx;obtain⟨rfl,h3⟩:=h3;have qc:=Dw x;have hr:=Bi x;rw[hr]at c4 qc;rw[hr];refine Aa c4 ?_;simp only[go_sem,Zq,LZ];exact Cf (v:=.tup [.agg _,.bool true]) (Cj (n0 _ _ _) rfl rfl rfl) (Cx qc) qb ⟨rfl,h3⟩
  .rename_i hx;subst h3;refine Aa c4 ?_;simp only[go_sem,Zq,LZ];exact Cf (v:=.tup [.agg _,.bool false]) (Cj (n0 _ _ _) rfl rfl rfl) (Cx rfl) qb rfl
 .have f5:((5:Int)<(lvl:Int))=False:=eq_false AA;have qj:=A1 (show lvl<9223372036854775807 by omega);obtain⟨v,q,c4,qb,h3⟩:=Qj qa (l:=[.row [iV 0,iV 0,.str [],.nils] 101 0 0]) fun hs=>hE n AA (lvl+1) _ m z t A p hA hs hp AA AA AA
  have ho:pe (n+1) lvl (A.drop p)=match pe n (lvl+1) (A.drop p) with
    | none=>none
    | some (x,r)=>lp n lvl x r:=by
   rw[pe,if_neg h5];rfl
  rw[ho];simp only[go_sem,Zq,LZ,gt_iff_lt,f5,qj];unfold PR at h3
  split at h3
  rotate_left
  .rename_i hx;subst h3;rw[hx];simp only;refine Aa c4 ?_;simp only[go_sem,Zq,LZ];exact Cf (v:=.tup [.agg _,.bool false]) (Cj (n0 _ _ _) rfl rfl rfl) (Cx rfl) qb rfl
  .rename_i x r hx;obtain⟨rfl,h3⟩:=h3;have qc:=Dw x;have hr:=Bi x;rw[hr]at c4 qc;rw[hx];simp only;have qf:=(Ys n).1 _ _ _ _ hx;rw[Hi]at qf;have jg:r.length=A.length - q:=by rw[<-h3,Hi]
   refine Aa c4 ?_;simp only[go_sem,Zq,LZ];refine Bk (α:=Nat × Nat × Xp × St) (fun a=>a.1) (fun a=>[(0,.ptr m 0 0),(1,iV (lvl:Int)),(4,.ptr s.length 0 0),(6,.ptr (s.length+1) 0 0)]) (fun a=>S a.2.1++.row [iV 0,iV 0,.str [],.nils] 101 0 0::.row [iV a.2.2.1.op,iV a.2.2.1.n,.str a.2.2.1.nm,SL a.2.2.1.z a.2.2.1.t (a.2.2.1.l.map Xp.row)] 101 0 0::a.2.2.2) (fun a=>a.1<=n/\a.2.1<=A.length/\lp a.1 lvl a.2.2.1 (A.drop a.2.1)=lp n lvl x r/\8*(A.length - a.2.1)+6<=a.1+lvl) ?_ (n,q,x,[]) ⟨Ak _,qb,by rw[h3],by grind⟩;rintro⟨k,q,x,J⟩ ⟨qw,hq,qy,qW⟩ ih;simp only at qw hq qy qW ih;refine Bd Bj2 ?_;rw[<-qy];obtain⟨k,rfl⟩:∃ j,k=j+1:=⟨k - 1,by omega⟩;have qc:=Dw x;have hr:=Bi x;rw[hr]at qc;obtain⟨X,hX⟩:∃ X:List V,X=[iV x.op,iV x.n,.str x.nm,SL x.z x.t (x.l.map Xp.row)]:=⟨_,rfl⟩;have co:=Be8 (get q (.row [iV 0,iV 0,.str [],.nils] 101 0 0::.row [iV x.op,iV x.n,.str x.nm,SL x.z x.t (x.l.map Xp.row)] 101 0 0::J)) hl hq lvl
   have nJ:∀ (q:Nat) (a b c:Ob),(S q++a::b::(J++[c]))[s.length+(J.length+1+1)]?=some c:=fun q a b c=>by
    rw[Fz (by grind),qd,show s.length+(J.length+1+1) - s.length=J.length+1+1 by omega,Q3,Q3,Fz (Ak _),Id];rfl
   have uJ:∀ (q:Nat) (a b c d:Ob),(S q++a::b::(J++[c])).set (s.length+(J.length+1+1)) d=S q++a::b::(J++[d]):=fun q a b c d=>by
    rw[Aij _ _ (by grind),qd,show s.length+(J.length+1+1) - s.length=J.length+1+1 by omega,List.set_cons_succ,List.set_cons_succ,Aij _ _ (Ak _),Id];rfl
   by_cases h0:H9 lvl (A.drop q)=0
   .have ho:lp (k+1) lvl x (A.drop q)=some (x,A.drop q):=by rw[lp,if_pos h0]
    rw[h0]at co;rw[ho];simp only[go_sem,Zq,LZ];refine Aa co ?_;simp only[go_sem,Zq,LZ,Int.reduceBEq];exact Cf (v:=.tup [.agg _,.bool true]) (Cj (n0 _ _ _) rfl rfl rfl) (Cx qc) hq ⟨by rw[hr],rfl⟩
   .have qA:q<A.length:=by
     rcases Bh q A.length with h | h
     .exact h
     .rw[(Lt h).1]at h0;exact absurd rfl h0
    have b0:(H9 lvl (A.drop q)==0)=false:=by simp[h0]
    have qv:=A1 (show q<9223372036854775807 by omega);obtain⟨v,q2,c4,qb,h3⟩:=Qj qa (p:=q+1) (l:=.row [iV 0,iV 0,.str [],.nils] 101 0 0::.row [iV x.op,iV x.n,.str x.nm,SL x.z x.t (x.l.map Xp.row)] 101 0 0::J) fun hs=>hE k AA (lvl+1) _ m z t A (q+1) hA hs qA AA AA AA
    have ho:lp (k+1) lvl x (A.drop q)=match pe k (lvl+1) (A.drop (q+1)) with
      | none=>none
      | some (y,r)=>if lvl=3 then some (Jw (H9 lvl (A.drop q)) x y,r) else lp k lvl (Jw (H9 lvl (A.drop q)) x y) r:=by
     rw[lp,if_neg h0,<-Ej];rfl
    generalize H9 lvl (A.drop q)=op at co b0 ho;simp only[go_sem,Zq,LZ];refine Aa co ?_;simp only[go_sem,Zq,LZ,b0,qv,qj];unfold PR at h3
    split at h3
    .rename_i y r2 hy;obtain⟨rfl,h3⟩:=h3;have jc:=Dw y;have qC:=Bi y;rw[qC]at c4 jc;rw[hy]at ho;simp only at ho;have qk:=(Ys k).1 _ _ _ _ hy;rw[Hi]at qk;have qZ:r2.length=A.length - q2:=by rw[<-h3,Hi]
     refine Aa c4 ?_
     have qH:Xp.row (Jw op x y)=[iV op,iV 0,.str [],.lst 1 [[iV x.op,iV x.n,.str x.nm,SL x.z x.t (x.l.map Xp.row)],[iV y.op,iV y.n,.str y.nm,SL y.z y.t (y.l.map Xp.row)]]]:=by
      unfold Jw;rw[Bi ⟨op,0,_,_,_,_⟩];simp only[Az,Bz,hr,qC];rfl
     have qI:=Dw (Jw op x y);rw[qH]at qI;by_cases qx:lvl=3
     .have b3:((lvl:Int)==3)=true:=by rw[qx];rfl
      rw[if_pos qx]at ho;rw[ho];simp only[go_sem,Zq,LZ,nJ,uJ,b3];exact Cf (v:=.tup [.agg _,.bool true]) (Cj (n0 _ _ _) rfl rfl rfl) (Cx qI) qb ⟨by rw[qH],h3⟩
     .have b3:((lvl:Int)==3)=false:=by rw[beq_eq_false_iff_ne];omega
      rw[if_neg qx]at ho;rw[ho];simp only[go_sem,Zq,LZ,nJ,uJ,b3];have:=ih (k,q2,Jw op x y,J++[.row [iV y.op,iV y.n,.str y.nm,SL y.z y.t (y.l.map Xp.row)] 101 0 0]) AE ⟨by omega,qb,by grind,by grind⟩;have e:lp k lvl (Jw op x y) r2=_:=ho.symm.trans qy;rw[e];simp only[Jw,Az,Bz,hr,qC]at this;exact this
    .rename_i hy;subst h3;rw[hy]at ho;simp only at ho;rw[ho];refine Aa c4 ?_;simp only[go_sem,Zq,LZ,nJ,uJ];exact Cf (v:=.tup [.agg _,.bool false]) (Cj (n0 _ _ _) rfl rfl rfl) (Cx rfl) qb rfl
def Z8:∀ n,PE n/\PU n:=by
 intro n
 induction n using Nat.strongRecOn with
 | ind n ih=>
  grind[Bfq,Bfp,Bfo]
theorem Aaq:∀ (n:Nat) (ln:Int) (l:List UInt8) (ts:List Tk),C2 n ln l=some ts->∀ t∈ts,t.kind=2->Lib.parseIntB 64 t.text=.ok (Jv t.text)/\t.text.length<=l.length
 | n,ln,[],ts,h=>by
  grind[C2]
 | 0,ln,c::r,ts,h=>by cases h
 | n+1,ln,c::r,ts,h=>by
  rw[C2]at h
  have up:∀ {l':List UInt8} {ts':List Tk},l'.length<=(c::r).length->(∀ t∈ts',t.kind=2->Lib.parseIntB 64 t.text=.ok (Jv t.text)/\t.text.length<=l'.length)->∀ t∈ts',t.kind=2->Lib.parseIntB 64 t.text=.ok (Jv t.text)/\t.text.length<=(c::r).length:=
   fun hl h t ht hk=>⟨(h t ht hk).1,C9 (h t ht hk).2 hl⟩
  split at h
  .exact up AE (Aaq n _ _ _ h)
  .split at h
   .exact up AE (Aaq n _ _ _ h)
   .split at h
    .exact up (Aa2 _ _) (Aaq n _ _ _ h)
    .split at h
     .cases h
     .rename_i k w hf;simp only[Ck]at h;obtain⟨l,hl,rfl⟩:=h;intro t ht;rcases Bp.1 ht with rfl | ht
      .intro qn;simp only at qn;subst qn;obtain⟨-,q,hq⟩:=Z1 hf;have ja:w.length<=(c::r).length:=by rw[hq];simp
       refine⟨?_,ja⟩;rw[Pz]at hf;simp only
       split at hf
       .grind
       .split at hf
        .rename_i hc
         split at hf
         .cases hf
         .split at hf
          .rename_i qM;cases hf
           have hd:K2 (Ep c r):=fun d hd=>by
            rcases Bp.1 hd with rfl | hd
            .exact hc
            grind[Agn]
           rw[Ajz hd]at qM;have hv:=of_decide_eq_true qM
           grind[Akx,A1x,Ep]
          grind
        grind
      .exact up (by grind) (Aaq n _ _ _ hl) t ht
def Bao{s:List UInt8}{L:List Tk}(hs:s.length<=4096)(h:C2 s.length 1 s=some L):OkA L:=
 ⟨C9 (Xm _ _ _ _ h) hs,fun t ht hk=>by
  grind[Aaq]⟩
def Bfr{s:St}{m:Nat}{z:Bool}{t:Nat}{A:List Tk}{p:Nat}(hs:s[m]?=some (RO z t A p))(hA:A.length<=1000000)(hp:p<=A.length):∃ n:Int,Bx TT PT 36 [.ptr m 0 0] s (iV n) s:=by
 suffices h:RT 36 [] s m z t A (fun v p'=>(∃ n:Int,v=iV n)/\p'=p) by
  obtain⟨v,p',h1,-,⟨n,rfl⟩,rfl⟩:=h
  grind[O6]
 refine Mq T36 rfl hs fun S hS=>?_
 have Zq:=Dr hS;obtain⟨-,-,qd,get,get0,set,set0,n0,n1,n2,u0,u1,u2⟩:=hS;by_cases h0:A.length=0
 .have b0:((A.length:Int)==0)=true:=by rw[h0];rfl
  simp only[go_sem,Zq,LZ,Qk,b0];exact Aa6 rfl ⟨rfl,rfl⟩ hp ⟨⟨_,rfl⟩,rfl⟩
 .have b0:((A.length:Int)==0)=false:=by rw[beq_eq_false_iff_ne];omega
  by_cases h1:A.length<=p
  .have f1:((A.length:Int)<=(p:Int))=True:=eq_true AA;have e1:IntKind.i64.wrap ((A.length:Int) - 1)=((A.length - 1:Nat):Int):=by rw[Cs AA];omega
   obtain⟨x,hx⟩:∃ x,A[A.length - 1]?=some x:=⟨_,Ca AA⟩;have qB:=Aly hx;simp only[go_sem,Zq,LZ,Qk,b0,ge_iff_le,f1,e1,qB];exact Aa6 rfl ⟨rfl,rfl⟩ hp ⟨⟨_,rfl⟩,rfl⟩
  .have f1:((A.length:Int)<=(p:Int))=False:=eq_false AA;obtain⟨x,hx⟩:∃ x,A[p]?=some x:=⟨_,Ca AA⟩;have qB:=Aly hx;simp only[go_sem,Zq,LZ,Qk,b0,ge_iff_le,f1];refine Af AD ?_;simp only[go_sem,Zq,LZ,Qk,qB];exact Aa6 rfl ⟨rfl,rfl⟩ hp ⟨⟨_,rfl⟩,rfl⟩
/-! SameExpr -/
/-! the maker -/
def Hg(l:List UInt8):Nat:=l.count 10
def Jj(a b:List UInt8):Hg (a++b)=Hg a+Hg b:=Ain
def Lj(c:UInt8)(l:List UInt8):Hg (c::l)=Hg l+if c=10 then 1 else 0:=by
 unfold Hg;rw[List.count_cons]
 by_cases h:c=10<;>simp[h]
def Bfs{l:List UInt8}(h:∀ c∈l,c≠10):Hg l=0:=List.count_eq_zero.2 fun hm=>h 10 hm rfl
mutual
def Sp.lns:Sp->Nat
 | ⟨op,_,_,_,_,_,_,_,_,_,body,_,_,els⟩=>1+(if Bv op then 1+Sp.lnss body else 0)+(if els.isEmpty then 0 else 1+Sp.lnss els)
def Sp.lnss:List Sp->Nat
 | []=>0
 | x::l=>x.lns+Sp.lnss l
end
def Bk7{l:List UInt8}{j:Nat}(h:I9 l j=true):l.getD j 0≠10:=fun e=>by
 unfold I9 at h;rw[e]at h
 cases j<;>simp[K0,Mu]at h
def Ahn{l:List UInt8}(h:Bm l=true):Hg l=0:=by
 refine Bfs fun c hc=>?_
 obtain⟨i,hi,rfl⟩:=Pw hc;unfold Bm at h;simp only[Ai,Bw]at h;have:=Bk7 (h.2.2.2 i (Ed.2 hi))
 rwa [D3,Ca hi]at this
def Amw:∀ (k u:Nat),Hg (Il k u)=0
 | 0,_=>rfl
 | k+1,u=>by
  have hd:∀ n,n<10->Hg [UInt8.ofNat (48+n)]=0:=by decide
  unfold Il
  split
  .exact hd u AA
  .rw[Jj,Amw k,hd _ AA]
def Bft(n:Int):Hg (B4 n)=0:=by
 unfold B4
 split
 .rw[Lj,Amw];decide
 .exact Amw _ _
def A0u(op:Int):Hg (B0 op)=0:=by
 unfold B0
 split<;>decide
def Amx{o:Int × List UInt8}(h:Hg o.2=0)(v:Int):Hg (Dg o v)=0:=by
 unfold Dg
 split
 .rw[Lj,Jj,h];decide
 .exact h
def Azg{x:Xp}(h:ShE x):Hg x.txt=0:=by
 induction h with
 | num h=>
  rw[Ek];simp only[Dt,if_pos];exact Bft _
 | name h=>
  rw[Ek];simp only[Dt];exact Ahn h
 | idx hn ha ih=>
  rw[Ek];simp only[Dt,Az,Bz];simp only[Int.reduceEq,if_false,if_true];rw[Jj,Lj,Jj,Ahn hn,ih];decide
 | @un op z t a ho ha ih=>
  rw[Ek];simp only[Dt,Az,Bz];rw[if_neg AA,if_neg AA,if_neg AA,Jj,A0u,Amx ih]
 | @bin op z t a b ho ha hb iha ihb=>
  rw[Ek];simp only[Dt,Az,Bz];rw[if_neg AA,if_neg AA,Jj,Lj,Jj,Lj,A0u,Amx iha,Amx ihb];decide
def Aa7(op:Int):Hg (Cp op)=0:=by
 unfold Cp
 split<;>decide
def Bfu{s:Sp}(h:ShS s):Hg (Cq s)=0:=by
 obtain⟨h1,h2,h3,h4,h5,h6,h7,h8,h9,qp,qq,qr,qs,qt⟩:=h
 have hn:Hg s.nm=0:=by
  cases e:F6 s.op
  .exact Ahn (h3 e)
  .rw[h2 e];rfl
 have ha:Hg s.arg=0:=by
  by_cases e:s.op=15
  .exact Ahn (h4 e)
  .rw[h5 e];rfl
 have hx:Em s.op=true->Hg s.ex.txt=0:=fun e=>Azg (h9 e)
 have hi:Hg (E7 s.idx)=0:=by
  unfold E7
  split
  .rename_i a r e;rw[Lj,Jj,Azg (h8 a (by rw[e];simp))];decide
  .rfl
 unfold Cq
 split
 .rename_i e;rw[Jj,Jj,Lj,Lj,Lj,hn,hi,hx (by rw[e];rfl)];decide
 split
 .rename_i e;rw[Jj,Lj,Aa7,hx (by rcases e with e | e<;>rw[e]<;>rfl)];decide
 split
 .exact Aa7 _
 split
 .rename_i e;rw[Jj,Lj,Jj,Lj,Aa7,hn,hx (by rw[e];rfl)];decide
 split
 .rw[Jj,Lj,Jj,Lj,Aa7,hn,ha];decide
 .rw[Jj,Lj,Aa7,hn];decide
def ixU(c:UInt8):∀ (a r:List UInt8),c ∉ a->Lib.index (a++c::r) [c]=(a.length:Int)/\Lib.indexByte (a++c::r) c=(a.length:Int)
 | [],r,_=>by
  have hp:List.isPrefixOf [c] (c::r)=true:=by simp[List.isPrefixOf]
  constructor
  .rw[Be];unfold Lib.index;rw[hp];rfl
  .rw[Be,Lib.indexByte];simp
 | b::a,r,h=>by
  have hb:(c==b)=false:=by simp at h ⊢;exact h.1
  have qV:(b==c)=false:=by simp at h ⊢;exact fun e=>h.1 e.symm
  obtain⟨h1,h2⟩:=ixU c a r (by simp at h;exact h.2);have hp:List.isPrefixOf [c] (b::(a++c::r))=false:=by simp[List.isPrefixOf]at hb ⊢;exact hb
  have hn:((a.length:Int) == -1)=false:=by simp
  constructor
  .rw[Bt];unfold Lib.index;rw[hp,h1];simp only[Hh,if_false,hn,Ao];omega
  .rw[Bt,Lib.indexByte,h2];simp only[qV,Hh,if_false,hn,Ao];omega
def Br7{c:UInt8}{a r:List UInt8}(h:c ∉ a):Lib.cut (a++c::r) [c]=(a,r,true):=by
 have hi:=(ixU c a r h).1;unfold Lib.cut;rw[hi,if_pos AA];simp
def Du(s:Sp):List UInt8:=Cq s++if Bv s.op then [32,123] else [59]
mutual
def Sp.hds:Sp->List (List UInt8)
 | ⟨op,line,nm,arg,iz,it,idx,ex,bz,bt,body,ez,et,els⟩=>Du ⟨op,line,nm,arg,iz,it,idx,ex,bz,bt,body,ez,et,els⟩::(Sp.hdss body++Sp.hdss els)
def Sp.hdss:List Sp->List (List UInt8)
 | []=>[]
 | x::l=>x.hds++Sp.hdss l
end
theorem Azh(s:Sp):s.hds=Du s::(Sp.hdss s.body++Sp.hdss s.els):=by
 cases s;rw[Sp.hds]
mutual
theorem Bfv:∀ s:Sp,s.hds.length=s.sz
 | ⟨op,line,nm,arg,iz,it,idx,ex,bz,bt,body,ez,et,els⟩=>by
  rw[Azh,Mg];simp only[Ao,Ar];rw[Lh body,Lh els];omega
theorem Lh:∀ l:List Sp,(Sp.hdss l).length=Sp.szs l
 | []=>rfl
 | x::l=>by rw[Sp.hdss,Sp.szs,Ar,Bfv x,Lh l]
end
def Axi{s:Sp}(h:ShS s):(10:UInt8) ∉ Du s:=by
 have h0:Hg (Du s)=0:=by
  unfold Du;rw[Jj,Bfu h]
  split<;>decide
 exact List.count_eq_zero.1 h0
def Aoz(s:Sp):∃ r,s.txt 0=Du s++10::r:=by
 rw[Ns];unfold Du
 split
 .exact⟨Sp.txts (0+1) s.body++((if s.els.isEmpty then [] else Eh 0++125::32::101::108::115::101::32::123::10::Sp.txts (0+1) s.els)++(Eh 0++[125,10])),by simp[Eh]⟩
 .exact⟨[],by simp[Eh]⟩
def I1(s:Sp):Sp:=⟨s.op,s.line,s.nm,s.arg,s.iz,s.it,s.idx,s.ex,true,0,[],true,0,[]⟩
def A6v(s:Sp):Du (I1 s)=Du s:=rfl
def Bfw{s:Sp}(h:CnS s):CnS (I1 s):=by
 cases h with
 | mk h1 h2 h3 h4 h5 h6 h7 h8 h9=>exact .mk h1 h2 h3 h4 h5 (fun _=>rfl) (fun _=>rfl) (fun x hx=>by cases hx) (fun x hx=>by cases hx)
def Bap(s:Sp):(∃ r,(I1 s).txt 0=Du s++10::r)/\((I1 s).txt 0).length<=(Du s).length+10:=by
 refine⟨A6v s ▸ Aoz (I1 s),?_⟩;rw[Ns];unfold Du;have:(I1 s).op=s.op:=rfl;have h2:Cq (I1 s)=Cq s:=rfl;rw[this,h2]
 split
 .simp[Eh,I1,Sp.txts]
 .simp[Eh]
mutual
theorem Baq:∀ (s:Sp) (d d':Nat),d<=d'->(s.txt d).length<=(s.txt d').length
 | ⟨op,line,nm,arg,iz,it,idx,ex,bz,bt,body,ez,et,els⟩,d,d',h=>by
  have h1:=Xf body (d+1) (d'+1) AA;have h2:=Xf els (d+1) (d'+1) AA;rw[Ns,Ns];simp only[Ar,Li]
  split
  .cases els<;>simp[Li]at h2 ⊢<;>omega
  .simp;omega
theorem Xf:∀ (l:List Sp) (d d':Nat),d<=d'->(Sp.txts d l).length<=(Sp.txts d' l).length
 | [],_,_,_=>by simp[Sp.txts]
 | x::l,d,d',h=>by
  have h1:=Baq x d d' h;have h2:=Xf l d d' h;rw[Ou,Ou,Ar,Ar];omega
end
def Axj(s:Sp):(Du s).length+1<=(s.txt 0).length:=by
 obtain⟨r,hr⟩:=Aoz s;rw[hr];simp
def Bfx{s:Sp}(h:Bv s.op=true):(Du s).length+(Sp.txts 0 s.body).length+(Sp.txts 0 s.els).length<=(s.txt 0).length:=by
 have h1:=Xf s.body 0 1 AA;have h2:=Xf s.els 0 1 AA;rw[Ns,if_pos h];unfold Du;rw[if_pos h]
 cases he:s.els with
 | nil=>rw[he]at h2;simp[Eh,Sp.txts]at h2 ⊢;omega
 | cons a l=>rw[he]at h2;simp[Eh]at h2 ⊢;omega
def Ib(l:List UInt8):Prop:=∀ c∈l,32<=c.toNat/\c.toNat<=126
def Vz:Ib []:=fun c h=>by cases h
def Jk{a b:List UInt8}(ha:Ib a)(hb:Ib b):Ib (a++b):=fun c h=>by
 rcases Ct.1 h with h | h
 .exact ha c h
 .exact hb c h
def Ho{c:UInt8}{l:List UInt8}(hc:32<=c.toNat/\c.toNat<=126)(h:Ib l):Ib (c::l):=fun d hd=>by
 rcases Bp.1 hd with rfl | hd
 .exact hc
 .exact h d hd
def Azi{c:UInt8}(h:Dx c=true):32<=c.toNat/\c.toNat<=126:=by
 unfold Dx Mu at h;simp at h;omega
def Bk8{n:Int}(h:0<=n/\n<=9223372036854775807):Ib (B4 n):=by
 obtain⟨⟨c,cs,e,h1,h2⟩,-⟩:=Amr n h;rw[e];exact Ho (Azi h1) fun d hd=>Azi (h2 d hd)
def Afy{l:List UInt8}(h:Bm l=true):Ib l:=fun c hc=>by
 unfold Bm at h;simp only[Ai,Bw,Ed]at h;obtain⟨j,hj,rfl⟩:=Adc.1 hc;have h1:=h.2.2.2 j hj;unfold I9 K0 Mu at h1;rw[D3,Ca hj,Sv]at h1;simp at h1;omega
def A0v(op:Int):Ib (B0 op):=by
 unfold B0 Ib
 split<;>decide
def Aa8(op:Int):Ib (Cp op):=by
 unfold Cp Ib
 split<;>decide
def Amy{o:Int × List UInt8}{l:Int}(h:Ib o.2):Ib (Dg o l):=by
 unfold Dg
 split
 .exact Ho AG (Jk h (Ho AG Vz))
 .exact h
def Agv{x:Xp}(h:ShE x):Ib x.txt:=by
 induction h with
 | num hn=>rw[Ek];exact Bk8 hn
 | name hn=>rw[Ek];exact Afy hn
 | idx hn _ ih=>rw[Ek];exact Jk (Afy hn) (Ho AG (Jk ih (Ho AG Vz)))
 | un ho _ ih=>
  rw[Ek]
  rcases ho with rfl | rfl<;>exact Jk (A0v _) (Amy ih)
 | @bin op z t a b ho _ _ qN qO=>
  rw[Ek];simp only[Dt,Az,Bz];rw[if_neg AA,if_neg AA];exact Jk (Amy qN) (Ho AG (Jk (A0v _) (Ho AG (Amy qO))))
def Bfy{s:Sp}(h:ShS s):Ib (Cq s):=by
 cases h with
 | mk h1 h2 h3 h4 h5 h6 h7 h8 h9 qp qq qr qs qt=>
 have hn:Ib s.nm:=by
  cases hb:F6 s.op
  .exact Afy (h3 hb)
  .rw[h2 hb];exact Vz
 have hi:Ib (E7 s.idx):=by
  cases hx:s.idx with
  | nil=>exact Vz
  | cons a r=>exact Ho AG (Jk (Agv (h8 a (by rw[hx];exact B7))) (Ho AG Vz))
 have hv:∀ n:Int,(n=1\/n=2\/n=3\/n=14)->Em n=true:=by
  rintro n (rfl | rfl | rfl | rfl)<;>rfl
 unfold Cq
 split
 .rename_i e;exact Jk hn (Jk hi (Ho AG (Ho AG (Ho AG (Agv (h9 (hv _ (.inl e))))))))
 split
 .rename_i e;exact Jk (Aa8 _) (Ho AG (Agv (h9 (hv _ AA))))
 split
 .exact Aa8 _
 split
 .rename_i e;exact Jk (Aa8 _) (Ho AG (Jk hn (Ho AG (Agv (h9 (hv _ AA))))))
 split
 .rename_i e;exact Jk (Aa8 _) (Ho AG (Jk hn (Ho AG (Afy (h4 e)))))
 .exact Jk (Aa8 _) (Ho AG hn)
def Ae5{l:List UInt8}:∀ {L:List Sp},l∈Sp.hdss L->∃ x∈L,l∈x.hds
 | x::L,h=>by
  rw[Sp.hdss]at h;rcases Ct.1 h with h | h
  .exact⟨x,B7,h⟩
  .obtain⟨y,h1,h2⟩:=Ae5 h;exact⟨y,Ci _ h1,h2⟩
def Bk9{s:Sp}(h:ShS s):∀ l∈s.hds,Ib l/\1<=l.length:=by
 induction h with
 | @mk s h1 h2 h3 h4 h5 h6 h7 h8 h9 qp qq qr qs qt ihb ihe=>
 have hh:=Bfy (.mk h1 h2 h3 h4 h5 h6 h7 h8 h9 qp qq qr qs qt);intro l hl;rw[show s.hds=Du s::(Sp.hdss s.body++Sp.hdss s.els) by cases s;rw[Sp.hds]]at hl;rcases Bp.1 hl with rfl | hl
 .unfold Du
  split
  .exact⟨Jk hh (Ho AG (Ho AG Vz)),by simp⟩
  .exact⟨Jk hh (Ho AG Vz),by simp⟩
 .rcases Ct.1 hl with hl | hl
  .obtain⟨x,hx,hl⟩:=Ae5 hl;exact ihb x hx l hl
  .obtain⟨x,hx,hl⟩:=Ae5 hl;exact ihe x hx l hl
def Bfz{l:List UInt8}(h:Ib l)(h1:1<=l.length)(h2:l.length<=1000):N2 l=true:=by
 unfold N2;rw[decide_eq_true h1,decide_eq_true h2];simp only[W4,Bw,Ai,decide_eq_true_eq];exact h
def Oi(l:List Sp):Nat:=(Sp.txts 1 l).length
def Aa9:Oi []=0:=rfl
def Xn(s:Sp)(l:List Sp):Oi (s::l)=(s.txt 1).length+Oi l:=by unfold Oi;rw[Sp.txts,Ar]
def Aba:∀ a b:List Sp,Oi (a++b)=Oi a+Oi b
 | [],b=>by rw[Be,Aa9];omega
 | s::a,b=>by rw[Bt,Xn,Xn,Aba a b];omega
def Ae6{l:List Sp}{i:Nat}(h:i<l.length):Oi (l.take (i+1))=Oi (l.take i)+(l[i].txt 1).length:=by
 rw[Ic,Ca h,Su,Aba,Xn,Aa9];omega
structure EdB (l:List Sp) (i:Nat) (b:List Sp):Prop where
 mem:∀ s∈b,s∈l
 len:Oi b<=2*Oi (l.take i)
 cnt:b.length<=2*i
def Bar(l:List Sp):EdB l 0 []:=⟨fun _ h=>absurd h AE,(by simp[Aa9]),Ax _⟩
def Bas{l b:List Sp}{i:Nat}(h:EdB l i b)(hi:i<l.length):EdB l (i+1) b:=⟨h.mem,by have:=h.len;rw[Ae6 hi];omega,by have:=h.cnt;omega⟩
def Axk{l b:List Sp}{i:Nat}(h:EdB l i b)(hi:i<l.length):EdB l (i+1) (b++[l[i]]):=by
 refine⟨fun s hs=>?_,?_,?_⟩
 .rcases Ct.1 hs with hs | hs
  .exact h.mem s hs
  .rw[F5]at hs;rw[hs];exact Nl hi
 .have:=h.len;rw[Ae6 hi,Aba,Xn,Aa9];omega
 .have:=h.cnt;simp;omega
def Bf0{l b:List Sp}{i:Nat}(h:EdB l i b)(hi:i<l.length):EdB l (i+1) ((b++[l[i]])++[l[i]]):=by
 refine⟨fun s hs=>?_,?_,?_⟩
 .rcases Ct.1 hs with hs | hs
  .exact(Axk h hi).mem s hs
  .rw[F5]at hs;rw[hs];exact Nl hi
 .have:=h.len;rw[Ae6 hi,Aba,Aba,Xn,Aa9];omega
 .have:=h.cnt;simp;omega
def A6w{l b:List Sp}{i:Nat}(h:EdB l i b)(hi:i<l.length):EdB l (i+1) (l[i]::b):=by
 refine⟨fun s hs=>?_,?_,?_⟩
 .rcases Bp.1 hs with hs | hs
  .rw[hs];exact Nl hi
  .exact h.mem s hs
 .have:=h.len;rw[Ae6 hi,Xn];omega
 .have:=h.cnt;simp;omega
inductive EdT:List Tp->List Tp->Prop
 | nil:EdT [] []
 | cons {t t':Tp} {l l':List Tp}:t'.nm=t.nm->t'.locals=t.locals->EdB t.body t.body.length t'.body->EdT l l'->EdT (t::l) (t'::l')
def Axl:∀ {l l':List Tp} {t t':Tp},EdT l l'->t'.nm=t.nm->t'.locals=t.locals->EdB t.body t.body.length t'.body->EdT (l++[t]) (l'++[t'])
 | _,_,_,_,.nil,h1,h2,h3=>.cons h1 h2 h3 .nil
 | _,_,_,_,.cons a b c d,h1,h2,h3=>.cons a b c (Axl d h1 h2 h3)
def Al1:∀ {l l':List Tp},EdT l l'->((l'.map Ea).flatten).length<=2*((l.map Ea).flatten).length/\l'.length=l.length
 | _,_,.nil=>⟨Ak _,rfl⟩
 | _,_,.cons (t:=t) (t':=t') a b c d=>by
  obtain⟨h1,h2⟩:=Al1 d;have h3:=c.len;rw[Db]at h3;unfold Oi at h3;rw[Az,Az,Fg,Fg,Ar,Ar,Ao,Ao,h2]
  have h4:(Ea t').length<=2*(Ea t).length:=by
   unfold Ea;rw[a,b];simp only[Ar,Ao,Di];omega
  exact⟨by omega,rfl⟩
def Azj:∀ {l l':List Tp},EdT l l'->(∀ t∈l,∀ s∈t.body,CnS s)->∀ t∈l',∀ s∈t.body,CnS s
 | _,_,.nil,_,t,ht,_,_=>by cases ht
 | _,_,.cons a b c d,h,t,ht,s,hs=>by
  rcases Bp.1 ht with rfl | ht
  .exact h _ B7 s (c.mem s hs)
  .exact Azj d (fun t ht=>h t (Ci _ ht)) t ht s hs
def Bf1{p q:Gp}(hd:q.decls=p.decls)(ht:EdT p.thrs q.thrs)(hc:CnG p):CnG q/\(Fd q).length<=2*(Fd p).length:=by
 refine⟨⟨fun d h=>hc.decls d (hd ▸ h),Azj ht hc.thrs⟩,?_⟩;have:=(Al1 ht).1;unfold Fd;rw[hd,Ar,Ar];omega
def ZB:Nat->Nat
 | 0=>1
 | k+1=>1+4*ZB k
def SB(k:Nat)(x:Sp):Prop:=ShS x/\x.sz<=ZB k/\∀ d,d+k<=100->(x.txt d).length<=1000*ZB k
def Abu{k:Nat}:∀ {l:List Sp},(∀ x∈l,SB k x)->Sp.szs l<=l.length*ZB k
 | [],_=>by simp[Sp.szs]
 | x::l,h=>by
  have h1:=Abu (fun y hy=>h y (Ci _ hy));obtain⟨-,h3,-⟩:=h x B7;rw[Sp.szs,Ao,Oo];omega
def Agw{k d:Nat}:∀ {l:List Sp},(∀ x∈l,SB k x)->d+k<=100->(Sp.txts d l).length<=l.length*(1000*ZB k)
 | [],_,_=>by simp[Sp.txts]
 | x::l,h,hd=>by
  have h1:=Agw (fun y hy=>h y (Ci _ hy)) hd;obtain⟨-,-,h4⟩:=h x B7;have h4:=h4 d hd;rw[Ou,Ar,Ao,Oo];omega
def Azk{s:Sp}(h1:s.nm.length<=4)(h2:s.arg.length<=4)(h3:(E7 s.idx).length<=56)(h4:s.op=1\/s.op=2\/s.op=3\/s.op=14->s.ex.txt.length<=118):(Cq s).length<=300:=by
 have hw:(Cp s.op).length<=11:=by
  unfold Cp
  split<;>simp
 unfold Cq
 repeat' split
 all_goals simp
 all_goals omega
def Bqj{k:Nat}{x:Sp}(h1:1<=x.op/\x.op<=15)(h2:x.idx.length<=1)(h3:x.op≠1->x.idx=[])(h4:∀ y∈x.idx,ShE y/\y.txt.length<=54)(h5:(x.op=1\/x.op=2\/x.op=3\/x.op=14)->ShE x.ex/\x.ex.txt.length<=118)(qE:Em x.op=false->X4 x.ex)(h6:(F6 x.op=true/\x.nm=[])\/(F6 x.op=false/\Mx x.nm))(h7:(x.op≠15/\x.arg=[])\/(x.op=15/\Mx x.arg))
  (h8:Bv x.op=false->x.body=[]) (qu:x.op≠2->x.els=[]) (h9:Bv x.op=true->k≠0/\x.body.length<=3/\x.els.length<=1/\(∀ y∈x.body,SB (k - 1) y)/\∀ y∈x.els,SB (k - 1) y):SB k x:=by
 have hi:(E7 x.idx).length<=56:=by
  refine C9 (Akr _) ?_
  cases hx:x.idx with
  | nil=>simp
  | cons a r=>
   have:=(h4 a (by rw[hx];exact B7)).2;simp only;omega
 have l6:x.nm.length<=4:=by
  rcases h6 with⟨-,h⟩ | ⟨-,-,h⟩
  .rw[h];exact Ax _
  .exact h
 have l7:x.arg.length<=4:=by
  rcases h7 with⟨-,h⟩ | ⟨-,-,h⟩
  .rw[h];exact Ax _
  .exact h
 have g1:F6 x.op=true->x.nm=[]:=fun h=>by
  rcases h6 with⟨-,h'⟩ | ⟨h',-⟩
  .exact h'
  .rw[h]at h';cases h'
 have g2:F6 x.op=false->Bm x.nm=true:=fun h=>by
  rcases h6 with⟨h',-⟩ | ⟨-,h',-⟩
  .rw[h]at h';cases h'
  .exact h'
 have g3:x.op=15->Bm x.arg=true:=fun h=>by
  rcases h7 with⟨h',-⟩ | ⟨-,h',-⟩
  .exact absurd h h'
  .exact h'
 have g4:x.op≠15->x.arg=[]:=fun h=>by
  rcases h7 with⟨-,h'⟩ | ⟨h',-⟩
  .exact h'
  .exact absurd h' h
 have g5:Em x.op=true->ShE x.ex:=fun h=>(h5 (by
  simp only[Em,Nm,beq_iff_eq]at h
  exact h)).1
 have hh:=Azk l6 l7 hi (fun h=>(h5 h).2);cases hb:Bv x.op
 .have qF:=h8 hb
  have qJ:x.els=[]:=by
   refine qu fun h=>?_
   rw[h]at hb;cases hb
  have hz:1<=ZB k:=by cases k<;>simp[ZB]
  refine⟨.mk h1 g1 g2 g3 g4 h2 h3 (fun y hy=>(h4 y hy).1) g5 qE h8 qu (by rw[qF];simp) (by rw[qJ];simp),?_,fun d hd=>?_⟩
  .rw[Mg,qF,qJ];simp[Sp.szs];omega
  .rw[Ns,hb];simp only[Ar,Li,Hh,if_false,Ao,Di];omega
 .obtain⟨hk,qG,qK,hB,hE⟩:=h9 hb;obtain⟨k,rfl⟩:∃ j,k=j+1:=⟨k - 1,by omega⟩;rw[Nat.add_sub_cancel]at hB hE;refine⟨.mk h1 g1 g2 g3 g4 h2 h3 (fun y hy=>(h4 y hy).1) g5 qE h8 qu (fun y hy=>(hB y hy).1) (fun y hy=>(hE y hy).1),?_,fun d hd=>?_⟩
  .have h1:=Abu hB;have h2:=Abu hE;have h3:=E1 (ZB k) qG;have h4:=E1 (ZB k) qK;rw[Mg,ZB];omega
  .have h1:=Agw (d:=d+1) hB AA;have h2:=Agw (d:=d+1) hE AA;have h3:=E1 (1000*ZB k) qG;have h4:=E1 (1000*ZB k) qK;rw[Ns,hb]
   have h5:(if x.els.isEmpty=true then [] else Eh d++125::32::101::108::115::101::32::123::10::Sp.txts (d+1) x.els).length<=2*d+9+(Sp.txts (d+1) x.els).length:=by
    split
    .simp
    .simp[Li];omega
   simp only[Ar,Li,if_true,Ao,Di,ZB];omega
/-! end of the cases -/
/-! end of the cases -/
def declsL:List Dp:=[⟨1,0,[120],0,0,[]⟩,⟨1,0,[121],0,1,[]⟩,⟨2,0,[118],0,0,[]⟩,⟨1,0,[113],2,0,[]⟩,⟨3,0,[109],0,0,[]⟩,⟨3,0,[110],0,0,[]⟩,⟨4,0,[114],0,0,[]⟩,⟨5,0,[99],0,0,[109]⟩,⟨6,0,[102],0,0,[]⟩]
def Ai9:Ag (declsL.map Dp.row).flatten=[]:=by kernel_rfl
def A6x:FnO TT PT 39 [] (.sl 0 0 0 9 6 true) [.row (declsL.map Dp.row).flatten 85 0 0]:=by
 have hT:=T39
 obtain⟨F,h1,h2,h3⟩:=Vp (σ:=[]) (vs:=[]) (v:=.sl 0 0 0 9 6 true) (σ':=[.row (declsL.map Dp.row).flatten 85 0 0]) hT rfl (by simp only[go_sem];exact⟨rfl,rfl⟩) AS rfl (Ax _) (by
  intro ob qL i hi;simp only[F5]at qL;subst qL;rw[Ob.refs,Ai9]at hi
  cases hi)
 have e:=h1.symm.trans hT;cases e;exact⟨_,hT,rfl,rfl,h3⟩
def Aqt(σ:St):CallS TT PT 39 [] σ (.sl σ.length 0 0 9 6 true) (σ++[.row (declsL.map Dp.row).flatten 85 0 0]):=by
 have h:=CallS.own (σ:=σ) (args:=[]) (Xi rfl) A6x
 have e1:own σ [] [.row (declsL.map Dp.row).flatten 85 0 0]=σ++[.row (declsL.map Dp.row).flatten 85 0 0]:=by
  unfold own;rw[Aaf rfl];simp only[St.freeze,Az,Bz,Ob.ren];rw[Sz _ _ (by rw[Ai9];simp)]
 have e2:(V.sl 0 0 0 9 6 true).ren (·+σ.length)=.sl σ.length 0 0 9 6 true:=by simp[V.ren]
 rw[e1,e2]at h;exact h
def MD(n:Nat)(D:List Dp):Prop:=(∀ d∈D,ShD d/\d.nm.length<=12/\d.on.length<=12)/\D.length<=n
def A6y:MD 9 declsL:=by
 refine⟨fun d hd=>?_,by decide⟩;simp only[declsL,Bp,La,or_false]at hd
 rcases hd with rfl | rfl | rfl | rfl | rfl | rfl | rfl | rfl | rfl<;>exact⟨⟨by decide,by decide,by decide,by decide,by decide⟩,by decide,by decide⟩
def Is{a b:AC}{k:List It}{e:Env}{σ:St}{Q:Env->St->Prop}(P:Env->St->Prop)(h1:∀ k',(∀ e σ,P e σ->W TT PT k' e σ Q)->W TT PT (.c a::k') e σ Q)(h2:∀ e σ,P e σ->W TT PT (.c b::k) e σ Q):W TT PT (.c (.seq a b)::k) e σ Q:=by
 rw[Anh];exact h1 _ h2
def MT(t:Tp):Prop:=Mx t.nm/\((∀ s∈t.locals,Mx s)/\t.locals.length<=5)/\∃ k,k<=7/\(∀ s∈t.body,SB k s)/\t.body.length<=40
def Al2{α:Type}{f:α->List UInt8}{M:Nat}:∀ {l:List α},(∀ x∈l,(f x).length<=M)->((l.map f).flatten).length<=l.length*M
 | [],_=>by simp
 | x::l,h=>by
  have h1:=h x B7;have h2:=Al2 (l:=l) fun y hy=>h y (Ci _ hy)
  rw[Az,Fg,Ar,Ao,Gy];omega
def Auz:∀ {l:List (List UInt8)},(∀ s∈l,s.length<=4)->(Eo l).length<=l.length*6
 | [],_=>by simp[Eo]
 | a::l,h=>by
  have h1:=h a B7;have h2:=Auz (l:=l) fun y hy=>h y (Ci _ hy)
  have h3:=Ar1 a l;rw[Ao,Gy];omega
def zb7:∀ {k:Nat},k<=7->ZB k<=21845:=by
 intro k hk;have:k=0\/k=1\/k=2\/k=3\/k=4\/k=5\/k=6\/k=7:=by omega
 rcases this with rfl | rfl | rfl | rfl | rfl | rfl | rfl | rfl<;>decide
def Azl{t:Tp}(h:MT t):(Ea t).length<=900000000/\Sp.szs t.body<=1000000:=by
 obtain⟨h1,⟨h2,h3⟩,k,hk,h4,h5⟩:=h;have z:=zb7 hk;have a1:=Agw (d:=1) h4 AA;have a2:=Abu h4;have a3:=Auz fun s hs=>(h2 s hs).2
 have a4:t.body.length*ZB k<=40*21845:=Nat.mul_le_mul h5 z;have a5:t.body.length*(1000*ZB k)<=40*(1000*21845):=Nat.mul_le_mul h5 AA;have a6:=h1.2;refine⟨?_,by omega⟩;unfold Ea;simp only[Ar,Ao,Di];omega
def Bqk{D:List Dp}{L:List Tp}(hD:MD 16 D)(hL:∀ t∈L,MT t)(h5:L.length<=5)(h0:L≠[]):ShG ⟨true,0,D,true,0,L⟩/\(Fd ⟨true,0,D,true,0,L⟩).length<=10000000000/\∀ t∈L,Sp.szs t.body<=1000000:=by
 refine⟨⟨fun d hd=>(hD.1 d hd).1,fun t ht=>(hL t ht).1.1,fun t ht s hs=>((hL t ht).2.1.1 s hs).1,fun t ht s hs=>?_,h0⟩,?_,fun t ht=>(Azl (hL t ht)).2⟩
 .obtain⟨-,-,k,-,h4,-⟩:=hL t ht;exact(h4 s hs).1
 .have a1:=Al2 (f:=fun d:Dp=>De d++[59,10]) (M:=82) (l:=D) fun d hd=>by
   have:=A1y (hD.1 d hd).2.1 (hD.1 d hd).2.2;simp only[Ar,Ao,Di];omega
  have a2:=Al2 (f:=Ea) (M:=900000000) (l:=L) fun t ht=>(Azl (hL t ht)).1
  have a3:=hD.2;unfold Fd;rw[Ar];simp only;omega
def Bf2{ls:List (List UInt8)}(h:(ls.all fun x=>Bm x&&decide (x.length<=4))=true):∀ s∈ls,Mx s:=fun s hs=>by
 have:=Bw.1 h s hs;simp only[Ai,decide_eq_true_eq]at this;exact this
/-! settled objects -/
def A6z(o:Ob):o.shut.refs=o.refs:=by cases o<;>rfl
theorem Yc:∀ (js:List Nat) (σ:St) (j:Nat),j ∉ js->(σ.freeze js)[j]?=σ[j]?
 | [],_,_,_=>rfl
 | i::js,σ,j,h=>by
  simp only[Bp,not_or]at h;simp only[St.freeze]
  split
  .rw[Yc js _ j h.2,Cc (Ne.symm h.1)]
  .exact Yc js _ j h.2
def Yt:∀ (js:List Nat) (σ:St),Cl σ->Cl (σ.freeze js)
 | [],_,h=>h
 | i::js,σ,h=>by
  simp only[St.freeze]
  split
  .rename_i ob ho;refine Yt js _ (F8 h ?_);rw[A6z];exact h ob (Gx ho)
  .exact Yt js _ h
def Ae7{R:V->St->Prop}{f p:Nat}{res:List AR}{thr:Bool}{body:AC}{vs:List V}{σ:St}(hT:TT f=some ⟨p,res,thr,body,none⟩)(hl:vs.length=p)(h:W TT PT [.c body] (C6 0 vs) σ (Hd fun e' σ1=>∃ v,Cd e' σ1 res=some v/\(Cg v=true/\∀ i∈v.refs,i<σ1.length)/\(σ.length<=σ1.length/\Cl σ1)/\R v σ1)):∃ v σ',Bx TT PT f vs σ v σ'/\R v σ':=by
 obtain⟨e',σ1,hE,v,hr,⟨h1,h2⟩,⟨h3,h4⟩,h5⟩:=h;exact⟨v,σ1,Vp hT hl ⟨e',σ1,hE,hr,rfl⟩ h2 h1 h3 h4,h5⟩
def Bat{R:V->St->Prop}{f p:Nat}{res:List AR}{body:AC}{vs:List V}{σ:St}(hT:TT f=some ⟨p,res,true,body,none⟩)(hl:vs.length=p)(h:W TT PT [.c body] (C6 0 vs) σ (Hd fun e' σ1=>∃ cs cs',Cd e' σ1 res=some (.agg cs)/\(cs.all V.cellB=true/\OCs σ1 cs cs'/\cs'.all V.rowB=true)/\(σ.length<=σ1.length/\Cl σ1)/\R (.agg cs') (σ1.freeze (Ag cs)))):∃ v σ',Th TT PT f vs σ v σ'/\R v σ':=by
 obtain⟨e',σ1,hE,cs,cs',hr,⟨h1,h2,h3⟩,⟨h4,h5⟩,h6⟩:=h;have qm:Dc (.agg cs')=true:=h3;exact⟨.agg cs',σ1.freeze (Ag cs),Bdh hT hl ⟨e',σ1,hE,.agg cs,Ag cs,hr,h1,Tl h2 _ (fun i hi=>hi),rfl⟩ (Xc qm) (Aay qm) (by grind[Q7]) (Yt _ _ h5),h6⟩
/-! statements that are made -/
def BK:Nat->Nat
 | 0=>100
 | k+1=>100+4*BK k
def YB:Nat->Nat
 | 0=>1
 | k+1=>1+2*YB k
def SX(k:Nat)(x:Sp):Prop:=x.sz<=YB k/\∀ l∈x.hds,l.length<=302
def SM(k:Nat)(x:Sp):Prop:=(SB k x/\SX k x)/\C5 x.row<=BK k
def Axm:∀ {k k':Nat},k<=k'->YB k<=YB k'
 | 0,0,_=>Ak _
 | 0,k'+1,_=>by simp[YB]
 | k+1,k'+1,h=>by
  have:=Axm (k:=k) (k':=k') AA;simp only[YB];omega
def Agx{k:Nat}:∀ {l:List Sp},(∀ x∈l,SX k x)->Sp.szs l<=l.length*YB k/\∀ y∈Sp.hdss l,y.length<=302
 | [],_=>⟨by simp[Sp.szs],fun y hy=>by cases hy⟩
 | x::l,h=>by
  obtain⟨h1,h2⟩:=Agx (l:=l) fun y hy=>h y (Ci _ hy)
  obtain⟨h3,h4⟩:=h x B7;refine⟨by rw[Sp.szs,Ao,Oo];omega,fun y hy=>?_⟩;rw[Sp.hdss]at hy;rcases Ct.1 hy with hy | hy
  .exact h4 y hy
  .exact h2 y hy
def Axn:∀ {k k':Nat},k<=k'->ZB k<=ZB k'
 | 0,0,_=>Ak _
 | 0,k'+1,_=>by simp[ZB]
 | k+1,k'+1,h=>by
  have:=Axn (k:=k) (k':=k') AA
  grind[ZB]
def Al3:∀ {k k':Nat},k<=k'->BK k<=BK k'
 | 0,0,_=>Ak _
 | 0,k'+1,_=>by simp[BK]
 | k+1,k'+1,h=>by
  have:=Al3 (k:=k) (k':=k') AA
  grind[BK]
def Bf3{k k':Nat}{x:Sp}(hk:k<=k')(h:SM k x):SM k' x:=by
 obtain⟨⟨⟨h1,h2,h3⟩,h5,h6⟩,h4⟩:=h;have:=Axm hk;have:=Axn hk;have:=Al3 hk;exact⟨⟨⟨h1,by omega,fun d hd=>C9 (h3 d AA) (Nat.mul_le_mul_left _ AA)⟩,by omega,h6⟩,by omega⟩
/-! the maker's locks -/
def Azm{σ σ2:St}{m b:Nat}{uH vH:V}{H H':List (List UInt8)}(h:MKr σ m b uH H)(th left:Int)(se tx ao lp:Bool)(hl:σ.length<=σ2.length)(hB:∀ j,j<σ.length->j ∉ uH.refs->σ2[j]?=σ[j]?)(g:GS σ2 1 9 vH (H'.map fun x=>[V.str x]))(hr:∀ j∈vH.refs,j∈uH.refs\/σ.length<=j)(hc:Cl σ2):
  MKr (σ2.set m (mO b th left se tx ao lp vH)) m b vH H'/\FW m σ (σ2.set m (mO b th left se tx ao lp vH)):=by
 have hm:=Mp h;have hb:=Pk h.tape;have hf:=H6 h;have ql:Ag [.ptr b 0 0,iV th,iV left,.bool se,.bool tx,.bool ao,.bool lp,vH]=b::vH.refs:=by simp[Ag,V.refs]
 have nv:∀ j∈vH.refs,j≠m/\j≠b:=fun j hj=>by
  rcases hr j hj with h2 | h2
  .exact h.hd j h2
  .omega
 have e2:σ2[m]?=σ[m]?:=hB m hm fun e=>(h.hd m e).1 rfl
 have e3:σ2[b]?=σ[b]?:=hB b hb fun e=>(h.hd b e).2 rfl
 refine⟨⟨⟨th,left,se,tx,ao,lp,Cm AA⟩,?_,h.ne,Ii g fun i hi=>Cc (Ne.symm (nv i hi).1),nv,F8 hc fun i hi=>?_⟩,Amm (τ:=σ2) ⟨hl,fun j hj hn=>?_,fun j hj=>?_⟩ hm fun j hj=>?_⟩
 .obtain⟨z,t,l,a,h1,h2⟩:=h.tape;exact⟨z,t,l,a,by rw[Cc h.ne,e3];exact h1,h2⟩
 .simp only[Ob.refs,ql,Bp]at hi;rcases hi with rfl | hi
  .omega
  grind[C1]
 .grind
 .grind[fp]
 grind
def OL(σ0 σ:St)(m:Nat)(u:V)(L:List Sp):Prop:=GS σ 11 103 u (L.map Sp.row)/\∀ j∈u.refs,σ0.length<=j/\j ∉ fp σ m
def A0w{σ0 σ τ:St}{m:Nat}{u:V}{L:List Sp}(h:OL σ0 σ m u L)(hw:FW m σ τ):OL σ0 τ m u L:=by
 obtain⟨h1,h2⟩:=h;refine⟨Ii h1 fun i hi=>hw.2.1 i (C1 h1 i hi) (h2 i hi).2,fun j hj=>⟨(h2 j hj).1,fun hm=>?_⟩⟩;have:=C1 h1 j hj;rcases hw.2.2 j hm with h3 | h3
 .grind
 .omega
def Bla{σ0 σ:St}{m b:Nat}{uH u:V}{H:List (List UInt8)}{L:List Sp}(h:OL σ0 σ m u L)(hk:MKr σ m b uH H)(h0:FW m σ0 σ)(qz:m<σ0.length)(x:Sp)(hb:L.length<=1000000):∃ u' σ',Dv 176 (11,103) u (.lst 1 [x.row]) σ=some (u',σ')/\OL σ0 σ' m u' (L++[x])/\MKr σ' m b uH H/\FW m σ0 σ':=by
 obtain⟨h1,h2⟩:=h;have jf:(L.map Sp.row).length=L.length:=Au ..;obtain⟨u',σ',e1,g,hl,hB,hr,hc⟩:=Xv (bytes:=176) (row:=x.row) h1 AA (Oz x) (Hc x) AA;have hf:=H6 hk
 have nf:∀ i∈fp σ m,i<σ.length/\i ∉ u.refs:=fun i hi=>by
  refine⟨?_,fun e=>(h2 i e).2 hi⟩;rw[hf]at hi;simp only[Bp]at hi;rcases hi with rfl | rfl | hi
  .grind[Mp]
  .exact Pk hk.tape
  .exact C1 hk.h i hi
 have kp:∀ i∈fp σ m,σ'[i]?=σ[i]?:=fun i hi=>hB i (nf i hi).1 (nf i hi).2
 have hm:σ'[m]?=σ[m]?:=kp m (by grind);have je:σ'[b]?=σ[b]?:=kp b (by grind);have qQ:fp σ' m=fp σ m:=by unfold fp;rw[hm]
 refine⟨u',σ',e1,⟨by grind,fun j hj=>?_⟩,Ro hk (hc hk.cl) hm ?_ (fun i hi=>kp i (by grind)),Ayu h0 qz hl (fun j hj=>.inr (h2 j hj).1) (fun j hj hn=>hB j hj hn) fun e=>(h2 m e).2 (by grind)⟩
 .rw[qQ];rcases hr j hj with h3 | h3
  .grind
  .exact⟨by have:=h0.1;omega,fun e=>by grind⟩
 .obtain⟨z,t,l,a,h1,h2⟩:=hk.tape;exact⟨z,t,l,a,by grind,h2⟩
def MSt(k:Nat):Prop:=∀ (σ:St) (m b:Nat) (uH:V) (H:List (List UInt8)),MKr σ m b uH H->H.length+k<=100->∃ v σ',Th TT PT 69 [.ptr m 0 0,iV (k:Int)] σ v σ'/\(∃ x:Sp,v=.agg x.row/\SM k x)/\(∃ uH',MKr σ' m b uH' H)/\FW m σ σ'
def MSs(k:Nat):Prop:=∀ (σ:St) (m b:Nat) (uH:V) (H:List (List UInt8)),MKr σ m b uH H->H.length+k<=100->∀ n:Nat,n<=1000000->∃ v σ',Bx TT PT 41 [.ptr m 0 0,iV (k:Int),iV (n:Int)] σ v σ'/\∃ (L:List Sp) (uH':V),OL σ σ' m v L/\(∀ x∈L,SM k x)/\L.length<=n/\MKr σ' m b uH' H/\FW m σ σ'
def Ar5{k:Nat}(hS:MSt k):MSs k:=by
 intro σ m b uH H h hH n hn;have qz:=Mp h;refine Ae7 T41 rfl ?_;simp only[go_sem];refine Bk (α:=Nat × St × V × V × List Sp) (fun a=>n - a.1) (fun a=>[(0,.ptr m 0 0),(1,iV (k:Int)),(2,iV (n:Int)),(7,a.2.2.1),(8,iV (a.1:Int))]) (fun a=>a.2.1) (fun a=>a.1<=n/\(OL σ a.2.1 m a.2.2.1 a.2.2.2.2/\(∀ x∈a.2.2.2.2,SM k x)/\a.2.2.2.2.length=a.1)/\MKr a.2.1 m b a.2.2.2.1 H/\FW m σ a.2.1) ?_ (0,σ,.nils,uH,[]) ⟨Ax _,⟨⟨Abn,by simp[V.refs]⟩,by simp,rfl⟩,h,Alo _ _⟩;rintro⟨i,s,u,vH,L⟩ ⟨hi,⟨hO,hL,qd⟩,hk,hw⟩ ih;simp only at hi hO hL qd hk hw ih;obtain⟨_,left,_,_,_,_,m1⟩:=hk.row;have qi:=J5 hO.1;have qD:∃ v,some u=some v/\(Cg v=true/\∀ i∈v.refs,i<s.length)/\(σ.length<=s.length/\Cl s)/\∃ (L:List Sp) (uH':V),OL σ s m v L/\(∀ x∈L,SM k x)/\L.length<=n/\MKr s m b uH' H/\FW m σ s:=⟨u,rfl,⟨by cases u<;>simp[V.cellB]at qi<;>rfl,C1 hO.1⟩,⟨hw.1,hk.cl⟩,L,vH,hO,hL,by omega,hk,hw⟩;refine Bd Bo1 ?_;by_cases hc:i<n/\(i=0\/0<left)
 .have f1:((i:Int)<(n:Int))=True:=eq_true AA;obtain⟨_,s2,q2,⟨x,rfl,hx⟩,⟨jd,qn⟩,w2⟩:=hS s m b vH H hk hH;have qT:=A0w hO w2;obtain⟨u',s3,ha,qU,qY,w3⟩:=Bla qT qn (Fu hw w2) qz x AA;have qc:=Hc x;have jb:=Fk x;rw[jb]at q2 qc ha;rcases(show i=0\/(i≠0/\0<left) by omega) with h0 | ⟨h0,hl⟩
  case' inl=>have f2:((i:Int)==0)=true:=by simp[h0]
  case' inr=>have f2:((i:Int)==0)=false:=by simp[h0]
  case' inr=>have f3:((0:Int)<left)=True:=eq_true hl
  case' inl=>simp only[go_sem,m1,f1,f2]
  case' inr=>simp only[go_sem,m1,f1,f2,f3,gt_iff_lt]
  all_goals
   refine Cb q2 ?_;simp only[go_sem,ha,A1 (show i<9223372036854775807 by omega)];refine Aq (ih (i+1,s3,u',jd,L++[x]) AA ⟨by omega,⟨qU,fun y hy=>?_,by grind⟩,qY,w3⟩) rfl
   grind
 .by_cases h1:i<n
  .have f1:((i:Int)<(n:Int))=True:=eq_true AA;have f2:((i:Int)==0)=false:=by simp;omega
   have f3:((0:Int)<left)=False:=eq_false AA;simp only[go_sem,m1,f1,f2,f3,gt_iff_lt];exact qD
  .have f1:((i:Int)<(n:Int))=False:=eq_false AA;simp only[go_sem,m1,f1];exact qD
