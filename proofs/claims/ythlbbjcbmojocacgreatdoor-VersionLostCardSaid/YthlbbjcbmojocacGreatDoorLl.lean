/- Walks: the parser's expressions. -/
import Derived.Test.YthlbbjcbmojocacGreatDoorLm
set_option linter.all false
namespace Go.Proofs.YthlbbjcbmojocacGreatDoor.KM
open Go
def Acg{s:List UInt8}{ts:List Tk}(h:Ax s ts=true):ts.tail.length+1=ts.length:=by
 cases ts with
 | nil=>cases h
 | cons t r=>rfl
def A79{qa:Nat}{ts:List Tk}(h:Hu qa ts≠0):ts.tail.length+1=ts.length:=by
 cases ts with
 | nil=>exact absurd rfl h
 | cons t r=>rfl
def Wx:∀ n,(∀ qa ts x r,pe n qa ts=some (x,r)->r.length<ts.length)/\(∀ qa x0 ts x r,lp n qa x0 ts=some (x,r)->r.length<=ts.length) /\
  (∀ ts x r,pu n ts=some (x,r)->r.length<ts.length)/\(∀ ts x r,pp n ts=some (x,r)->r.length<ts.length)
 | 0=>⟨fun _ _ _ _ h=>by simp[pe]at h,fun _ _ _ _ _ h=>by simp[lp]at h,fun _ _ _ h=>by simp[pu]at h,fun _ _ _ h=>by simp[pp]at h⟩
 | n+1=>by
  obtain⟨qm,qF,qG,qP⟩:=Wx n;refine⟨fun qa ts x r h=>?_,fun qa x0 ts x r h=>?_,fun ts x r h=>?_,fun ts x r h=>?_⟩
  .rw[pe]at h
   split at h
   .exact qG ts x r h
   .split at h
    .cases h
    .rename_i y q hy;have a:=qm _ _ _ _ hy;have b:=qF _ _ _ _ _ h;omega
  .rw[lp]at h
   split at h
   .cases h;exact Ai _
   .rename_i ho;have t:=A79 ho
    split at h
    .cases h
    .rename_i y q hy;have a:=qm _ _ _ _ hy
     split at h
     .cases h;omega
     .have b:=qF _ _ _ _ _ h;omega
  .have un:∀ (op:Int) s,Ax s ts=true->(match pu n ts.tail with
     | none=>none
     | some (x,r)=>some (O5 op x,r))=some (x,r)->r.length<ts.length:=fun op s hs h=>by
    have t:=Acg hs
    split at h
    .cases h
    .rename_i y q hy;cases h;have a:=qG _ _ _ hy;omega
   rw[pu]at h
   split at h
   .rename_i hs;exact un 4 _ hs h
   .split at h
    .rename_i hs;exact un 5 _ hs h
    .exact qP ts x r h
  .cases ts with
   | nil=>simp[pp]at h
   | cons t ts=>
    rw[Am];rw[pp]at h
    split at h
    .cases h;omega
    .split at h
     .split at h
      .rename_i hs;have t:=Acg hs
       split at h
       .cases h
       .rename_i y q hy;have a:=qm _ _ _ _ hy
        split at h
        .rename_i qt;have u:=Acg qt;cases h;omega
        .cases h
      .cases h;omega
     .split at h
      .split at h
       .cases h
       .rename_i y q hy;have a:=qm _ _ _ _ hy
        split at h
        .rename_i qt;have u:=Acg qt;cases h;omega
        .cases h
      .cases h
structure OkA (A:List Tk):Prop where
 len:A.length<=4096
 num:∀ t∈A,t.kind=2->Lib.parseIntB 64 t.text=.ok (Jh t.text)/\t.text.length<=4096
def PR(A:List Tk)(o:Option (Xp × List Tk))(v:V)(p':Nat):Prop:=match o with
 | some (x,r)=>v=.tup [.agg x.row,.bool true]/\A.drop p'=r
 | none=>v=.tup [.agg [.int .i64 0,.int .i64 0,.str [],.nils],.bool false]
def PE(n:Nat):Prop:=∀ (qa:Nat) (s:St) (m:Nat) (z:Bool) (t:Nat) (A:List Tk) (p:Nat),OkA A->s[m]?=some (RO z t A p)->p<=A.length->1<=qa->qa<=6->8*(A.length - p)+7<=n+qa ->
 RT 228 [iV (qa:Int)] s m z t A (PR A (pe n qa (A.drop p)))
def PU(n:Nat):Prop:=∀ (s:St) (m:Nat) (z:Bool) (t:Nat) (A:List Tk) (p:Nat),OkA A->s[m]?=some (RO z t A p)->p<=A.length->8*(A.length - p)<=n->RT 240 [] s m z t A (PR A (pu n (A.drop p)))
def PP(n:Nat):Prop:=∀ (s:St) (m:Nat) (z:Bool) (t:Nat) (A:List Tk) (p:Nat),OkA A->s[m]?=some (RO z t A p)->p<=A.length->8*(A.length - p)<=n+1->RT 246 [] s m z t A (PR A (pp n (A.drop p)))
def Cz{cs:List V}{b:Bool}(h:Dl (.agg cs)=true):Cm (.tup [.agg cs,.bool b])=true/\(V.tup [.agg cs,.bool b]).refs=[]:=by
 have h1:=Yy h;have h2:=Vh h;have qI:cs.all V.cellB=true:=h1;have qJ:Ah cs=[]:=h2;refine⟨?_,?_⟩
 .show((cs.all V.cellB)&&_)=true;rw[qI];rfl
 .show Ah cs++_=[];rw[qJ];rfl
def Td{n:Nat}(h:PE n){s:St}{m:Nat}{z:Bool}{t:Nat}{A:List Tk}{p:Nat}(hA:OkA A)(hs:s[m]?=some (RO z t A p))(hp:p<=A.length)(hb:8*(A.length - p)+6<=n):RT 202 [] s m z t A (PR A (pe n 1 (A.drop p))):=by
 refine Lc T202 rfl hs fun S hS=>?_
 obtain⟨v,q,h1,h2,h3⟩:=Om hS (l:=[.row [iV 0,iV 0,.str [],.nils] 102 0 0]) fun hs=>h 1 _ m z t A p hA hs hp (by omega) (by omega) (by omega)
 have hm:=hS.low;have Zq:=Ds hS;obtain⟨-,-,qf,get,get0,set,set0,n0,n1,n2,u0,u1,u2⟩:=hS;rw[Int.natCast_one]at h1;simp only[go_sem,Zq,LZ];unfold PR at h3 ⊢
 split at h3
 .rename_i x r ho;obtain⟨rfl,h3⟩:=h3;have hx:=Du x;have hr:=Bf x;rw[hr]at h1 hx ⊢;refine Ac h1 ?_;simp only[go_sem,Zq,LZ];exact Cf (v:=.tup [.agg _,.bool true]) (Ci (n0 _ _ _) rfl rfl rfl) (Cz hx) h2 ⟨rfl,h3⟩
 .subst h3;refine Ac h1 ?_;simp only[go_sem,Zq,LZ];exact Cf (v:=.tup [.agg _,.bool false]) (Ci (n0 _ _ _) rfl rfl rfl) (Cz rfl) h2 rfl
def Ae9{s:St}{m:Nat}{z:Bool}{t:Nat}{A:List Tk}{S:Nat->St}(hS:RdS s m z t A S){p:Nat}(l:St)(hl:A.length<=1000000)(hp:p<=A.length){w:List UInt8}{r:List Tk}(h:Df (A.drop p)=some (w,r)):Bv TT PT 115 [.ptr m 0 0] (S p++l) (.tup [.str w,.bool true]) (S (p+1)++l)/\p<A.length/\A.drop (p+1)=r:=by
 obtain⟨h1,h2⟩:=(Ww (hS.get p l) hl hp).1 w r h;rw[show(S p++l).set m (RO z t A (p+1))=S (p+1)++l from hS.set p (p+1) l]at h1;exact⟨h1,h2⟩
def Aag{s:St}{m:Nat}{z:Bool}{t:Nat}{A:List Tk}{S:Nat->St}(hS:RdS s m z t A S){p:Nat}(l:St)(hl:A.length<=1000000)(hp:p<=A.length)(h:Df (A.drop p)=none):Bv TT PT 115 [.ptr m 0 0] (S p++l) (.tup [.str [],.bool false]) (S p++l):=(Ww (hS.get p l) hl hp).2 h
def Bif{s:St}{m:Nat}{z:Bool}{t:Nat}{A:List Tk}{S:Nat->St}(hS:RdS s m z t A S){p:Nat}(l:St)(hA:OkA A)(hp:p<=A.length){w:Int}{r:List Tk}(h:Hf (A.drop p)=some (w,r)):Bv TT PT 151 [.ptr m 0 0] (S p++l) (.tup [iV w,.bool true]) (S (p+1)++l)/\p<A.length/\A.drop (p+1)=r:=by
 obtain⟨h1,h2⟩:=(Adr (hS.get p l) (by have:=hA.len;omega) hp hA.num).1 w r h;rw[show(S p++l).set m (RO z t A (p+1))=S (p+1)++l from hS.set p (p+1) l]at h1;exact⟨h1,h2⟩
def Avo{s:St}{m:Nat}{z:Bool}{t:Nat}{A:List Tk}{S:Nat->St}(hS:RdS s m z t A S){p:Nat}(l:St)(hA:OkA A)(hp:p<=A.length)(h:Hf (A.drop p)=none):Bv TT PT 151 [.ptr m 0 0] (S p++l) (.tup [iV 0,.bool false]) (S p++l):=(Adr (hS.get p l) (by have:=hA.len;omega) hp hA.num).2 h
def A8a{n:Nat}(hE:∀ k,k<n->PE k):PP n:=by
 intro s m z t A p hA hs hp hb;refine Lc T246 rfl hs fun S hS=>?_
 have hl:A.length<=1000000:=by have:=hA.len;omega
 have qb:=hS;have hm:=hS.low;have Zq:=Ds hS;obtain⟨-,-,qf,get,get0,set,set0,n0,n1,n2,u0,u1,u2⟩:=hS;rcases Be p A.length with qh | qL
 .obtain⟨k,rfl⟩:∃ k,n=k+1:=⟨n - 1,by omega⟩;have hd:=Lv qh;by_cases h2:(Aa A p).kind=2
  .have hq:Hf (A.drop p)=some (Jh (Aa A p).text,A.drop (p+1)):=by rw[hd];simp only[Hf];rw[if_pos h2]
   obtain⟨c1,-,-⟩:=Bif qb [.row [iV 0,iV 0,.str [],.nils] 102 0 0] hA hp hq;have ho:pp (k+1) (A.drop p)=some (⟨1,Jh (Aa A p).text,[],true,0,[]⟩,A.drop (p+1)):=by rw[hd,pp,if_pos h2]
   rw[ho];simp only[go_sem,Zq,LZ];refine Ac c1 ?_;simp only[go_sem,Zq,LZ];exact Cf (v:=.tup [.agg _,.bool true]) (Ci (n0 _ _ _) rfl rfl rfl) (Cz rfl) qh ⟨rfl,rfl⟩
  .have hq:Hf (A.drop p)=none:=by rw[hd];simp only[Hf];rw[if_neg h2]
   have c1:=Avo qb [.row [iV 0,iV 0,.str [],.nils] 102 0 0] hA hp hq;by_cases h1:(Aa A p).kind=1
   .have hn:Df (A.drop p)=some ((Aa A p).text,A.drop (p+1)):=by rw[hd];simp only[Df];rw[if_pos h1]
    obtain⟨c2,-,-⟩:=Ae9 qb [.row [iV 0,iV 0,.str [],.nils] 102 0 0] hl hp hn;by_cases qi:Ax [91] (A.drop (p+1))=true
    .have c3:=K5 qb [.row [iV 0,iV 0,.str [],.nils] 102 0 0] hl qi;have qk:=Ec qi;obtain⟨v,q,c4,qc,h3⟩:=Om qb (l:=[.row [iV 0,iV 0,.str [],.nils] 102 0 0]) fun hs=>Td (hE k (by omega)) (p:=p+1+1) hA hs (by omega) (by omega)
     have ho:pp (k+1) (A.drop p)=match pe k 1 (A.drop (p+1+1)) with
       | none=>none
       | some (x,r)=>if Ax [93] r then some (⟨3,0,(Aa A p).text,true,1,[x]⟩,r.tail) else none:=by
      rw[hd,pp,if_neg h2,if_pos h1,if_pos qi,<-Eh];rfl
     rw[ho];simp only[go_sem,Zq,LZ];refine Ac c1 ?_;simp only[go_sem,Zq,LZ];refine Ac c2 ?_;simp only[go_sem,Zq,LZ];refine Ac c3 ?_;simp only[go_sem,Zq,LZ];unfold PR at h3
     split at h3
     .rename_i x r hx;obtain⟨rfl,h3⟩:=h3;have qd:=Du x;have hr:=Bf x;rw[hr]at c4 qd;rw[hx];simp only;refine Ac c4 ?_;by_cases qe:Ax [93] r=true
      .rw[<-h3]at qe;have c5:=K5 qb [.row [iV 0,iV 0,.str [],.nils] 102 0 0,.row [iV x.op,iV x.n,.str x.nm,SL x.z x.t (x.l.map Xp.row)] 102 0 0] hl qe;rw[<-h3,if_pos qe];simp only[go_sem,Zq,LZ];refine Ac c5 ?_;simp only[go_sem,Zq,LZ];exact Cf (v:=.tup [.agg _,.bool true]) (Ci (n0 _ _ _) rfl rfl rfl) (Cz (by simp only[go_sem])) (Ec qe) ⟨by rw[Bf ⟨3,0,_,_,_,_⟩];simp only[Bb,B7,hr];rfl,Eh⟩
      .have qe:Ax [93] (A.drop q)=false:=by rw[h3];simpa using qe
       have c5:=Ja qb [.row [iV 0,iV 0,.str [],.nils] 102 0 0,.row [iV x.op,iV x.n,.str x.nm,SL x.z x.t (x.l.map Xp.row)] 102 0 0] hl qc qe;rw[<-h3,if_neg (by rw[qe];decide)];simp only[go_sem,Zq,LZ];refine Ac c5 ?_;simp only[go_sem,Zq,LZ];exact Cf (v:=.tup [.agg _,.bool false]) (Ci (n0 _ _ _) rfl rfl rfl) (Cz rfl) qc rfl
     .rename_i hx;subst h3;rw[hx];simp only;refine Ac c4 ?_;simp only[go_sem,Zq,LZ];exact Cf (v:=.tup [.agg _,.bool false]) (Ci (n0 _ _ _) rfl rfl rfl) (Cz rfl) qc rfl
    .have qi:Ax [91] (A.drop (p+1))=false:=by simpa using qi
     have c3:=Ja qb [.row [iV 0,iV 0,.str [],.nils] 102 0 0] hl (Hy qh) qi;have ho:pp (k+1) (A.drop p)=some (⟨2,0,(Aa A p).text,true,0,[]⟩,A.drop (p+1)):=by rw[hd,pp,if_neg h2,if_pos h1,if_neg (by rw[qi];decide)]
     rw[ho];simp only[go_sem,Zq,LZ];refine Ac c1 ?_;simp only[go_sem,Zq,LZ];refine Ac c2 ?_;simp only[go_sem,Zq,LZ];refine Ac c3 ?_;simp only[go_sem,Zq,LZ];exact Cf (v:=.tup [.agg _,.bool true]) (Ci (n0 _ _ _) rfl rfl rfl) (Cz rfl) qh ⟨rfl,rfl⟩
   .have hn:Df (A.drop p)=none:=by rw[hd];simp only[Df];rw[if_neg h1]
    have c2:=Aag qb [.row [iV 0,iV 0,.str [],.nils] 102 0 0] hl hp hn;by_cases qg:Ax [40] (A.drop p)=true
    .have c3:=K5 qb [.row [iV 0,iV 0,.str [],.nils] 102 0 0] hl qg;obtain⟨v,q,c4,qc,h3⟩:=Om qb (l:=[.row [iV 0,iV 0,.str [],.nils] 102 0 0]) fun hs=>Td (hE k (by omega)) (p:=p+1) hA hs (by omega) (by omega)
     have ho:pp (k+1) (A.drop p)=match pe k 1 (A.drop (p+1)) with
       | none=>none
       | some (x,r)=>if Ax [41] r then some (x,r.tail) else none:=by
      rw[hd]at qg ⊢;rw[pp,if_neg h2,if_neg h1,if_pos qg];rfl
     rw[ho];simp only[go_sem,Zq,LZ];refine Ac c1 ?_;simp only[go_sem,Zq,LZ];refine Ac c2 ?_;simp only[go_sem,Zq,LZ];refine Ac c3 ?_;simp only[go_sem,Zq,LZ];unfold PR at h3
     split at h3
     .rename_i x r hx;obtain⟨rfl,h3⟩:=h3;have qd:=Du x;have hr:=Bf x;rw[hr]at c4 qd;rw[hx];simp only;refine Ac c4 ?_;by_cases qe:Ax [41] r=true
      .rw[<-h3]at qe;have c5:=K5 qb [.row [iV 0,iV 0,.str [],.nils] 102 0 0,.row [iV x.op,iV x.n,.str x.nm,SL x.z x.t (x.l.map Xp.row)] 102 0 0] hl qe;rw[<-h3,if_pos qe];simp only[go_sem,Zq,LZ];refine Ac c5 ?_;simp only[go_sem,Zq,LZ];exact Cf (v:=.tup [.agg _,.bool true]) (Ci (n0 _ _ _) rfl rfl rfl) (Cz qd) (Ec qe) ⟨by rw[hr],Eh⟩
      .have qe:Ax [41] (A.drop q)=false:=by rw[h3];simpa using qe
       have c5:=Ja qb [.row [iV 0,iV 0,.str [],.nils] 102 0 0,.row [iV x.op,iV x.n,.str x.nm,SL x.z x.t (x.l.map Xp.row)] 102 0 0] hl qc qe;rw[<-h3,if_neg (by rw[qe];decide)];simp only[go_sem,Zq,LZ];refine Ac c5 ?_;simp only[go_sem,Zq,LZ];exact Cf (v:=.tup [.agg _,.bool false]) (Ci (n0 _ _ _) rfl rfl rfl) (Cz rfl) qc rfl
     .rename_i hx;subst h3;rw[hx];simp only;refine Ac c4 ?_;simp only[go_sem,Zq,LZ];exact Cf (v:=.tup [.agg _,.bool false]) (Ci (n0 _ _ _) rfl rfl rfl) (Cz rfl) qc rfl
    .have qg:Ax [40] (A.drop p)=false:=by simpa using qg
     have c3:=Ja qb [.row [iV 0,iV 0,.str [],.nils] 102 0 0] hl hp qg
     have ho:pp (k+1) (A.drop p)=none:=by
      rw[hd]at qg ⊢;rw[pp,if_neg h2,if_neg h1,if_neg (by rw[qg];decide)]
     rw[ho];simp only[go_sem,Zq,LZ];refine Ac c1 ?_;simp only[go_sem,Zq,LZ];refine Ac c2 ?_;simp only[go_sem,Zq,LZ];refine Ac c3 ?_;simp only[go_sem,Zq,LZ];exact Cf (v:=.tup [.agg _,.bool false]) (Ci (n0 _ _ _) rfl rfl rfl) (Cz rfl) hp rfl
 .have hd:=(J3 qL).1
  have ho:pp n (A.drop p)=none:=by
   rw[hd]
   cases n<;>simp[pp]
  rw[ho];have c1:=Avo qb [.row [iV 0,iV 0,.str [],.nils] 102 0 0] hA hp (by rw[hd];rfl);have c2:=Aag qb [.row [iV 0,iV 0,.str [],.nils] 102 0 0] hl hp (by rw[hd];rfl);have c3:=Ja qb [.row [iV 0,iV 0,.str [],.nils] 102 0 0] hl hp (w:=[40]) (by rw[hd];rfl);simp only[go_sem,Zq,LZ];refine Ac c1 ?_;simp only[go_sem,Zq,LZ];refine Ac c2 ?_;simp only[go_sem,Zq,LZ];refine Ac c3 ?_;simp only[go_sem,Zq,LZ];exact Cf (v:=.tup [.agg _,.bool false]) (Ci (n0 _ _ _) rfl rfl rfl) (Cz rfl) hp rfl
def A8b{n:Nat}(hU:∀ k,k<n->PU k)(hP:∀ k,k<=n->PP k):PU n:=by
 intro s m z t A p hA hs hp hb;refine Lc T240 rfl hs fun S hS=>?_
 have hl:A.length<=1000000:=by have:=hA.len;omega
 have qb:=hS;have hm:=hS.low;have Zq:=Ds hS;obtain⟨-,-,qf,get,get0,set,set0,n0,n1,n2,u0,u1,u2⟩:=hS
 have prim:∀ k,8*(A.length - p)<=k+1->k<=n->Ax [45] (A.drop p)=false->Ax [33] (A.drop p)=false->pu n (A.drop p)=pp k (A.drop p)->W TT PT [.c b240.body] (Dd 0 [.ptr m 0 0]) (S p) (Hd fun e' σ1=>∃ v p' l,Cd e' σ1 [.cell 2 4 false,.tmp 3]=some v/\(Cm v=true/\v.refs=[])/\σ1=S p'++l/\p'<=A.length/\PR A (pu n (A.drop p)) v p'):=by
  intro k hk qq h4 h5 ho;have qn:=Ja qb [.row [iV 0,iV 0,.str [],.nils] 102 0 0] hl hp h4;have qH:=Ja qb [.row [iV 0,iV 0,.str [],.nils] 102 0 0] hl hp h5;obtain⟨v,q,c4,qc,h3⟩:=Om qb (l:=[.row [iV 0,iV 0,.str [],.nils] 102 0 0]) fun hs=>hP k qq _ m z t A p hA hs hp hk
  rw[ho];unfold b240 tX;simp only[go_sem,Zq,LZ];refine Ac qn ?_;simp only[go_sem,Zq,LZ];refine Ac qH ?_;simp only[go_sem,Zq,LZ];unfold PR at h3 ⊢
  split at h3
  .rename_i x r hx;obtain⟨rfl,h3⟩:=h3;have qd:=Du x;have hr:=Bf x;rw[hr]at c4 qd;rw[hr];refine Ac c4 ?_;simp only[go_sem,Zq,LZ];exact Cf (v:=.tup [.agg _,.bool true]) (Ci (n0 _ _ _) rfl rfl rfl) (Cz qd) qc ⟨rfl,h3⟩
  .rename_i hx;subst h3;refine Ac c4 ?_;simp only[go_sem,Zq,LZ];exact Cf (v:=.tup [.agg _,.bool false]) (Ci (n0 _ _ _) rfl rfl rfl) (Cz rfl) qc rfl
 rcases n with _ | k
 .have hd:=(J3 (A:=A) (p:=p) (by omega)).1;refine prim 0 (by omega) (Ai _) (by rw[hd];rfl) (by rw[hd];rfl) ?_;rw[hd];simp[pu,pp]
 .by_cases h4:Ax [45] (A.drop p)=true
  .have qh:=Ec h4;have cA:=K5 qb [.row [iV 0,iV 0,.str [],.nils] 102 0 0] hl h4;obtain⟨v,q,c4,qc,h3⟩:=Om qb (l:=[.row [iV 0,iV 0,.str [],.nils] 102 0 0]) fun hs=>hU k (by omega) _ m z t A (p+1) hA hs (by omega) (by omega)
   have ho:pu (k+1) (A.drop p)=match pu k (A.drop (p+1)) with
     | none=>none
     | some (x,r)=>some (O5 4 x,r):=by
    rw[pu,if_pos h4,<-Eh];rfl
   rw[ho];simp only[go_sem,Zq,LZ];refine Ac cA ?_;simp only[go_sem,Zq,LZ];unfold PR at h3
   split at h3
   .rename_i x r hx;obtain⟨rfl,h3⟩:=h3;have qd:=Du x;have hr:=Bf x;rw[hr]at c4 qd;rw[hx];simp only;refine Ac c4 ?_;simp only[go_sem,Zq,LZ];exact Cf (v:=.tup [.agg _,.bool true]) (Ci (n0 _ _ _) rfl rfl rfl) (Cz (by simp only[go_sem])) qc ⟨by unfold O5;rw[Bf ⟨4,0,_,_,_,_⟩];simp only[Bb,B7,hr];rfl,h3⟩
   .rename_i hx;subst h3;rw[hx];simp only;refine Ac c4 ?_;simp only[go_sem,Zq,LZ];exact Cf (v:=.tup [.agg _,.bool false]) (Ci (n0 _ _ _) rfl rfl rfl) (Cz rfl) qc rfl
  .have h4:Ax [45] (A.drop p)=false:=by simpa using h4
   have qn:=Ja qb [.row [iV 0,iV 0,.str [],.nils] 102 0 0] hl hp h4;by_cases h5:Ax [33] (A.drop p)=true
   .have qh:=Ec h5;have cA:=K5 qb [.row [iV 0,iV 0,.str [],.nils] 102 0 0] hl h5;obtain⟨v,q,c4,qc,h3⟩:=Om qb (l:=[.row [iV 0,iV 0,.str [],.nils] 102 0 0]) fun hs=>hU k (by omega) _ m z t A (p+1) hA hs (by omega) (by omega)
    have ho:pu (k+1) (A.drop p)=match pu k (A.drop (p+1)) with
      | none=>none
      | some (x,r)=>some (O5 5 x,r):=by
     rw[pu,if_neg (by rw[h4];decide),if_pos h5,<-Eh];rfl
    rw[ho];simp only[go_sem,Zq,LZ];refine Ac qn ?_;simp only[go_sem,Zq,LZ];refine Ac cA ?_;simp only[go_sem,Zq,LZ];unfold PR at h3
    split at h3
    .rename_i x r hx;obtain⟨rfl,h3⟩:=h3;have qd:=Du x;have hr:=Bf x;rw[hr]at c4 qd;rw[hx];simp only;refine Ac c4 ?_;simp only[go_sem,Zq,LZ];exact Cf (v:=.tup [.agg _,.bool true]) (Ci (n0 _ _ _) rfl rfl rfl) (Cz (by simp only[go_sem])) qc ⟨by unfold O5;rw[Bf ⟨5,0,_,_,_,_⟩];simp only[Bb,B7,hr];rfl,h3⟩
    .rename_i hx;subst h3;rw[hx];simp only;refine Ac c4 ?_;simp only[go_sem,Zq,LZ];exact Cf (v:=.tup [.agg _,.bool false]) (Ci (n0 _ _ _) rfl rfl rfl) (Cz rfl) qc rfl
   .have h5:Ax [33] (A.drop p)=false:=by simpa using h5
    exact prim k hb (by omega) h4 h5 (by rw[pu,if_neg (by rw[h4];decide),if_neg (by rw[h5];decide)])
def A8c{n:Nat}(hE:∀ k,k<n->PE k)(hU:∀ k,k<n->PU k):PE n:=by
 intro qa s m z t A p hA hs hp h1 h6 hb;obtain⟨n,rfl⟩:∃ k,n=k+1:=⟨n - 1,by omega⟩;refine Lc T228 rfl hs fun S hS=>?_
 have hl:A.length<=1000000:=by have:=hA.len;omega
 have qb:=hS;have hm:=hS.low;have Zq:=Ds hS;obtain⟨-,-,qf,get,get0,set,set0,n0,n1,n2,u0,u1,u2⟩:=hS;by_cases h5:5<qa
 .have f5:((5:Int)<(qa:Int))=True:=eq_true (by omega);have ho:pe (n+1) qa (A.drop p)=pu n (A.drop p):=by rw[pe,if_pos h5]
  obtain⟨v,q,c4,qc,h3⟩:=Om qb (l:=[.row [iV 0,iV 0,.str [],.nils] 102 0 0]) fun hs=>hU n (by omega) _ m z t A p hA hs hp (by omega)
  rw[ho];simp only[go_sem,Zq,LZ,gt_iff_lt,f5];unfold PR at h3 ⊢
  split at h3
  .rename_i x r hx;obtain⟨rfl,h3⟩:=h3;have qd:=Du x;have hr:=Bf x;rw[hr]at c4 qd;rw[hr];refine Ac c4 ?_;simp only[go_sem,Zq,LZ];exact Cf (v:=.tup [.agg _,.bool true]) (Ci (n0 _ _ _) rfl rfl rfl) (Cz qd) qc ⟨rfl,h3⟩
  .rename_i hx;subst h3;refine Ac c4 ?_;simp only[go_sem,Zq,LZ];exact Cf (v:=.tup [.agg _,.bool false]) (Ci (n0 _ _ _) rfl rfl rfl) (Cz rfl) qc rfl
 .have f5:((5:Int)<(qa:Int))=False:=eq_false (by omega);have qj:=A2 (show qa<9223372036854775807 by omega);obtain⟨v,q,c4,qc,h3⟩:=Om qb (l:=[.row [iV 0,iV 0,.str [],.nils] 102 0 0]) fun hs=>hE n (by omega) (qa+1) _ m z t A p hA hs hp (by omega) (by omega) (by omega)
  have ho:pe (n+1) qa (A.drop p)=match pe n (qa+1) (A.drop p) with
    | none=>none
    | some (x,r)=>lp n qa x r:=by
   rw[pe,if_neg h5];rfl
  rw[ho];simp only[go_sem,Zq,LZ,gt_iff_lt,f5,qj];unfold PR at h3
  split at h3
  rotate_left
  .rename_i hx;subst h3;rw[hx];simp only;refine Ac c4 ?_;simp only[go_sem,Zq,LZ];exact Cf (v:=.tup [.agg _,.bool false]) (Ci (n0 _ _ _) rfl rfl rfl) (Cz rfl) qc rfl
  .rename_i x r hx;obtain⟨rfl,h3⟩:=h3;have qd:=Du x;have hr:=Bf x;rw[hr]at c4 qd;rw[hx];simp only;have qh:=(Wx n).1 _ _ _ _ hx;rw[D1]at qh;have qQ:r.length=A.length - q:=by rw[<-h3,D1]
   refine Ac c4 ?_;simp only[go_sem,Zq,LZ];refine Bn (α:=Nat × Nat × Xp × St) (fun a=>a.1) (fun a=>[(0,.ptr m 0 0),(1,iV (qa:Int)),(4,.ptr s.length 0 0),(6,.ptr (s.length+1) 0 0)]) (fun a=>S a.2.1++.row [iV 0,iV 0,.str [],.nils] 102 0 0::.row [iV a.2.2.1.op,iV a.2.2.1.n,.str a.2.2.1.nm,SL a.2.2.1.z a.2.2.1.t (a.2.2.1.l.map Xp.row)] 102 0 0::a.2.2.2) (fun a=>a.1<=n/\a.2.1<=A.length/\lp a.1 qa a.2.2.1 (A.drop a.2.1)=lp n qa x r/\8*(A.length - a.2.1)+6<=a.1+qa) ?_ (n,q,x,[]) ⟨Ai _,qc,by rw[h3],by simp only;omega⟩;rintro⟨k,q,x,J⟩ ⟨qq,hq,ql,qK⟩ ih;simp only at qq hq ql qK ih;refine Bl Bb9 ?_;rw[<-ql];obtain⟨k,rfl⟩:∃ j,k=j+1:=⟨k - 1,by omega⟩;have qd:=Du x;have hr:=Bf x;rw[hr]at qd;obtain⟨X,hX⟩:∃ X:List V,X=[iV x.op,iV x.n,.str x.nm,SL x.z x.t (x.l.map Xp.row)]:=⟨_,rfl⟩;have co:=A78 (get q (.row [iV 0,iV 0,.str [],.nils] 102 0 0::.row [iV x.op,iV x.n,.str x.nm,SL x.z x.t (x.l.map Xp.row)] 102 0 0::J)) hl hq qa
   have nJ:∀ (q:Nat) (a b c:Ob),(S q++a::b::(J++[c]))[s.length+(J.length+1+1)]?=some c:=fun q a b c=>by
    rw[Co (by rw[qf];omega),qf,show s.length+(J.length+1+1) - s.length=J.length+1+1 by omega,Lk,Lk,Co (Ai _),Gf];rfl
   have uJ:∀ (q:Nat) (a b c d:Ob),(S q++a::b::(J++[c])).set (s.length+(J.length+1+1)) d=S q++a::b::(J++[d]):=fun q a b c d=>by
    rw[I3 _ _ (by rw[qf];omega),qf,show s.length+(J.length+1+1) - s.length=J.length+1+1 by omega,Xl,Xl,I3 _ _ (Ai _),Gf];rfl
   by_cases h0:Hu qa (A.drop q)=0
   .have ho:lp (k+1) qa x (A.drop q)=some (x,A.drop q):=by rw[lp,if_pos h0]
    rw[h0]at co;rw[ho];simp only[go_sem,Zq,LZ];refine Ac co ?_;simp only[go_sem,Zq,LZ,Int.reduceBEq];exact Cf (v:=.tup [.agg _,.bool true]) (Ci (n0 _ _ _) rfl rfl rfl) (Cz qd) hq ⟨by rw[hr],rfl⟩
   .have qs:q<A.length:=by
     rcases Be q A.length with h | h
     .exact h
     .rw[(J3 h).1]at h0;exact absurd rfl h0
    have b0:(Hu qa (A.drop q)==0)=false:=by simp[h0]
    have qp:=A2 (show q<9223372036854775807 by omega);obtain⟨v,q2,c4,qc,h3⟩:=Om qb (p:=q+1) (l:=.row [iV 0,iV 0,.str [],.nils] 102 0 0::.row [iV x.op,iV x.n,.str x.nm,SL x.z x.t (x.l.map Xp.row)] 102 0 0::J) fun hs=>hE k (by omega) (qa+1) _ m z t A (q+1) hA hs qs (by omega) (by omega) (by omega)
    have ho:lp (k+1) qa x (A.drop q)=match pe k (qa+1) (A.drop (q+1)) with
      | none=>none
      | some (y,r)=>if qa=3 then some (L7 (Hu qa (A.drop q)) x y,r) else lp k qa (L7 (Hu qa (A.drop q)) x y) r:=by
     rw[lp,if_neg h0,<-Eh];rfl
    generalize Hu qa (A.drop q)=op at co b0 ho;simp only[go_sem,Zq,LZ];refine Ac co ?_;simp only[go_sem,Zq,LZ,b0,qp,qj];unfold PR at h3
    split at h3
    .rename_i y r2 hy;obtain⟨rfl,h3⟩:=h3;have qO:=Du y;have qv:=Bf y;rw[qv]at c4 qO;rw[hy]at ho;simp only at ho;have qk:=(Wx k).1 _ _ _ _ hy;rw[D1]at qk;have qM:r2.length=A.length - q2:=by rw[<-h3,D1]
     refine Ac c4 ?_
     have qz:Xp.row (L7 op x y)=[iV op,iV 0,.str [],.lst 1 [[iV x.op,iV x.n,.str x.nm,SL x.z x.t (x.l.map Xp.row)],[iV y.op,iV y.n,.str y.nm,SL y.z y.t (y.l.map Xp.row)]]]:=by
      unfold L7;rw[Bf ⟨op,0,_,_,_,_⟩];simp only[Bb,B7,hr,qv];rfl
     have qA:=Du (L7 op x y);rw[qz]at qA;by_cases qr:qa=3
     .have b3:((qa:Int)==3)=true:=by rw[qr];rfl
      rw[if_pos qr]at ho;rw[ho];simp only[go_sem,Zq,LZ,nJ,uJ,b3];exact Cf (v:=.tup [.agg _,.bool true]) (Ci (n0 _ _ _) rfl rfl rfl) (Cz qA) qc ⟨by rw[qz],h3⟩
     .have b3:((qa:Int)==3)=false:=by rw[beq_eq_false_iff_ne];omega
      rw[if_neg qr]at ho;rw[ho];simp only[go_sem,Zq,LZ,nJ,uJ,b3];have:=ih (k,q2,L7 op x y,J++[.row [iV y.op,iV y.n,.str y.nm,SL y.z y.t (y.l.map Xp.row)] 102 0 0]) (by simp) ⟨by simp only;omega,qc,by simp only;rw[h3,<-ql,ho],by simp only;omega⟩;have e:lp k qa (L7 op x y) r2=_:=ho.symm.trans ql;rw[e];simp only[L7,Bb,B7,hr,qv]at this;exact this
    .rename_i hy;subst h3;rw[hy]at ho;simp only at ho;rw[ho];refine Ac c4 ?_;simp only[go_sem,Zq,LZ,nJ,uJ];exact Cf (v:=.tup [.agg _,.bool false]) (Ci (n0 _ _ _) rfl rfl rfl) (Cz rfl) qc rfl
def X8:∀ n,PE n/\PU n:=by
 intro n
 induction n using Nat.strongRecOn with
 | ind n ih=>
  exact⟨A8c (fun k hk=>(ih k hk).1) (fun k hk=>(ih k hk).2),A8b (fun k hk=>(ih k hk).2) (fun k hk=>A8a fun j hj=>(ih j (by omega)).1)⟩
def Yk:∀ (n:Nat) (ln:Int) (l:List UInt8) (ts:List Tk),Ej n ln l=some ts->∀ t∈ts,t.kind=2->Lib.parseIntB 64 t.text=.ok (Jh t.text)/\t.text.length<=l.length
 | n,ln,[],ts,h=>by
  have:Ej n ln []=some []:=by cases n<;>rfl
  rw[this]at h;cases h;intro t ht;cases ht
 | 0,ln,c::r,ts,h=>by cases h
 | n+1,ln,c::r,ts,h=>by
  rw[Ej]at h
  have up:∀ {l':List UInt8} {ts':List Tk},l'.length<=(c::r).length->(∀ t∈ts',t.kind=2->Lib.parseIntB 64 t.text=.ok (Jh t.text)/\t.text.length<=l'.length)->∀ t∈ts',t.kind=2->Lib.parseIntB 64 t.text=.ok (Jh t.text)/\t.text.length<=(c::r).length:=
   fun hl h t ht hk=>⟨(h t ht hk).1,Cw (h t ht hk).2 hl⟩
  split at h
  .exact up (by simp) (Yk n _ _ _ h)
  .split at h
   .exact up (by simp) (Yk n _ _ _ h)
   .split at h
    .exact up (Y2 _ _) (Yk n _ _ _ h)
    .split at h
     .cases h
     .rename_i k w hf;simp only[Bu]at h;obtain⟨l,hl,rfl⟩:=h;intro t ht;rcases Bj.1 ht with rfl | ht
      .intro qD;simp only at qD;subst qD;obtain⟨-,q,hq⟩:=Abp hf;have qN:w.length<=(c::r).length:=by rw[hq];simp
       refine⟨?_,qN⟩;rw[Vk]at hf;simp only
       split at hf
       .split at hf
        .cases hf
        .simp only[Xn,Prod.mk.injEq]at hf;obtain⟨hf,-⟩:=hf
         split at hf<;>omega
       .split at hf
        .rename_i hc
         split at hf
         .cases hf
         .split at hf
          .rename_i qE;cases hf
           have hd:J7 (Et c r):=fun d hd=>by
            rcases Bj.1 hd with rfl | hd
            .exact hc
            .exact Adq hd
           rw[Aoc hd]at qE;have hv:=of_decide_eq_true qE;have h1:=Ap6 hd hv;have h2:=Awu hd hv;unfold Et at hv ⊢;rw[h1,h2]
          .cases hf
        .split at hf
         .cases hf
         .simp only[Xn,Prod.mk.injEq]at hf;omega
      .exact up (by rw[D1];omega) (Yk n _ _ _ hl) t ht
def A3m{s:List UInt8}{L:List Tk}(hs:s.length<=4096)(h:Ej s.length 1 s=some L):OkA L:=
 ⟨Cw (Vt _ _ _ _ h) hs,fun t ht hk=>by
  obtain⟨h1,h2⟩:=Yk _ _ _ _ h t ht hk
  exact⟨h1,Cw h2 hs⟩⟩
def A8d{s:St}{m:Nat}{z:Bool}{t:Nat}{A:List Tk}{p:Nat}(hs:s[m]?=some (RO z t A p))(hA:A.length<=1000000)(hp:p<=A.length):∃ n:Int,Bv TT PT 41 [.ptr m 0 0] s (iV n) s:=by
 suffices h:RT 41 [] s m z t A (fun v p'=>(∃ n:Int,v=iV n)/\p'=p) by
  obtain⟨v,p',h1,-,⟨n,rfl⟩,rfl⟩:=h;rw[Mk hs]at h1;exact⟨n,h1⟩
 refine Lc T41 rfl hs fun S hS=>?_
 have Zq:=Ds hS;obtain⟨-,-,qf,get,get0,set,set0,n0,n1,n2,u0,u1,u2⟩:=hS;by_cases h0:A.length=0
 .have b0:((A.length:Int)==0)=true:=by rw[h0];rfl
  simp only[go_sem,Zq,LZ,On,b0];exact Y4 rfl ⟨rfl,rfl⟩ hp ⟨⟨_,rfl⟩,rfl⟩
 .have b0:((A.length:Int)==0)=false:=by rw[beq_eq_false_iff_ne];omega
  by_cases h1:A.length<=p
  .have f1:((A.length:Int)<=(p:Int))=True:=eq_true (by omega);have e1:IntKind.i64.wrap ((A.length:Int) - 1)=((A.length - 1:Nat):Int):=by rw[Ch (by omega)];omega
   obtain⟨x,hx⟩:∃ x,A[A.length - 1]?=some x:=⟨_,Bc (by omega)⟩;have qu:=Aim hx;simp only[go_sem,Zq,LZ,On,b0,ge_iff_le,f1,e1,qu];exact Y4 rfl ⟨rfl,rfl⟩ hp ⟨⟨_,rfl⟩,rfl⟩
  .have f1:((A.length:Int)<=(p:Int))=False:=eq_false (by omega);obtain⟨x,hx⟩:∃ x,A[p]?=some x:=⟨_,Bc (by omega)⟩;have qu:=Aim hx;simp only[go_sem,Zq,LZ,On,b0,ge_iff_le,f1];refine Ag (by kernel_rfl) ?_;simp only[go_sem,Zq,LZ,On,qu];exact Y4 rfl ⟨rfl,rfl⟩ hp ⟨⟨_,rfl⟩,rfl⟩
/-! SameExpr -/
/-! the maker -/
def ZB:Nat->Nat
 | 0=>1
 | k+1=>1+4*ZB k
def SB(k:Nat)(x:Sp):Prop:=ShS x/\x.sz<=ZB k/\∀ d,d+k<=100->(x.txt d).length<=1000*ZB k
def Zj{k:Nat}:∀ {l:List Sp},(∀ x∈l,SB k x)->Sp.szs l<=l.length*ZB k
 | [],_=>by simp[Sp.szs]
 | x::l,h=>by
  have h1:=Zj (fun y hy=>h y (C4 _ hy));obtain⟨-,h3,-⟩:=h x C5;rw[Sp.szs,Am,Nb];omega
def Ads{k d:Nat}:∀ {l:List Sp},(∀ x∈l,SB k x)->d+k<=100->(Sp.txts d l).length<=l.length*(1000*ZB k)
 | [],_,_=>by simp[Sp.txts]
 | x::l,h,hd=>by
  have h1:=Ads (fun y hy=>h y (C4 _ hy)) hd;obtain⟨-,-,h4⟩:=h x C5;have h4:=h4 d hd;rw[Nc,Al,Am,Nb];omega
def Bcv{s:Sp}(h1:s.nm.length<=4)(h2:s.arg.length<=4)(h3:(F4 s.idx).length<=56)(h4:s.op=1\/s.op=2\/s.op=3\/s.op=14->s.ex.txt.length<=118):(Cv s).length<=300:=by
 have hw:(C8 s.op).length<=11:=by
  unfold C8
  split<;>simp
 unfold Cv
 repeat' split
 all_goals simp
 all_goals omega
def Big{k:Nat}{x:Sp}(h1:1<=x.op/\x.op<=15)(h2:x.idx.length<=1)(h3:x.op≠1->x.idx=[])(h4:∀ y∈x.idx,ShE y/\y.txt.length<=54)(h5:(x.op=1\/x.op=2\/x.op=3\/x.op=14)->ShE x.ex/\x.ex.txt.length<=118)(qw:Ei x.op=false->At3 x.ex)(h6:(Gg x.op=true/\x.nm=[])\/(Gg x.op=false/\Lj x.nm))(h7:(x.op≠15/\x.arg=[])\/(x.op=15/\Lj x.arg))
  (h8:B4 x.op=false->x.body=[]) (qo:x.op≠2->x.els=[]) (h9:B4 x.op=true->k≠0/\x.body.length<=3/\x.els.length<=1/\(∀ y∈x.body,SB (k - 1) y)/\∀ y∈x.els,SB (k - 1) y):SB k x:=by
 have hi:(F4 x.idx).length<=56:=by
  refine Cw (Apz _) ?_
  cases hx:x.idx with
  | nil=>simp
  | cons a r=>
   have:=(h4 a (by rw[hx];exact C5)).2;simp only;omega
 have l6:x.nm.length<=4:=by
  rcases h6 with⟨-,h⟩ | ⟨-,-,h⟩
  .rw[h];exact Au _
  .exact h
 have l7:x.arg.length<=4:=by
  rcases h7 with⟨-,h⟩ | ⟨-,-,h⟩
  .rw[h];exact Au _
  .exact h
 have g1:Gg x.op=true->x.nm=[]:=fun h=>by
  rcases h6 with⟨-,h'⟩ | ⟨h',-⟩
  .exact h'
  .rw[h]at h';cases h'
 have g2:Gg x.op=false->Cc x.nm=true:=fun h=>by
  rcases h6 with⟨h',-⟩ | ⟨-,h',-⟩
  .rw[h]at h';cases h'
  .exact h'
 have g3:x.op=15->Cc x.arg=true:=fun h=>by
  rcases h7 with⟨h',-⟩ | ⟨-,h',-⟩
  .exact absurd h h'
  .exact h'
 have g4:x.op≠15->x.arg=[]:=fun h=>by
  rcases h7 with⟨-,h'⟩ | ⟨h',-⟩
  .exact h'
  .exact absurd h' h
 have g5:Ei x.op=true->ShE x.ex:=fun h=>(h5 (by
  simp only[Ei,Il,beq_iff_eq]at h
  exact h)).1
 have hh:=Bcv l6 l7 hi (fun h=>(h5 h).2);cases hb:B4 x.op
 .have qx:=h8 hb
  have qB:x.els=[]:=by
   refine qo fun h=>?_
   rw[h]at hb;cases hb
  have hz:1<=ZB k:=by cases k<;>simp[ZB]
  refine⟨.mk h1 g1 g2 g3 g4 h2 h3 (fun y hy=>(h4 y hy).1) g5 qw h8 qo (by rw[qx];simp) (by rw[qB];simp),?_,fun d hd=>?_⟩
  .rw[Mm,qx,qB];simp[Sp.szs];omega
  .rw[Lr,hb];simp only[Al,Jv,F6,if_false,Am,C9];omega
 .obtain⟨hk,qy,qC,hB,hE⟩:=h9 hb;obtain⟨k,rfl⟩:∃ j,k=j+1:=⟨k - 1,by omega⟩;rw[Afu]at hB hE;refine⟨.mk h1 g1 g2 g3 g4 h2 h3 (fun y hy=>(h4 y hy).1) g5 qw h8 qo (fun y hy=>(hB y hy).1) (fun y hy=>(hE y hy).1),?_,fun d hd=>?_⟩
  .have h1:=Zj hB;have h2:=Zj hE;have h3:=Fp (ZB k) qy;have h4:=Fp (ZB k) qC;rw[Mm,ZB];omega
  .have h1:=Ads (d:=d+1) hB (by omega);have h2:=Ads (d:=d+1) hE (by omega);have h3:=Fp (1000*ZB k) qy;have h4:=Fp (1000*ZB k) qC;rw[Lr,hb]
   have h5:(if x.els.isEmpty=true then [] else El d++125::32::101::108::115::101::32::123::10::Sp.txts (d+1) x.els).length<=2*d+9+(Sp.txts (d+1) x.els).length:=by
    split
    .simp
    .simp[Jv];omega
   simp only[Al,Jv,if_true,Am,C9,ZB];omega
