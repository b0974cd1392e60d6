/- Walks: the parser's expressions. -/
import Derived.Test.YtcoeikinocflnaaGreatDoorLk
import Derived.Test.YtcoeikinocflnaaGreatDoorLm
set_option linter.all false
namespace Go.Proofs.YtcoeikinocflnaaGreatDoor.KM
open Go
theorem Xi{s:List UInt8}{ts:List Tk}(h:As s ts=true):ts.tail.length+1=ts.length:=by
 cases ts with
 | nil=>cases h
 | cons t r=>rfl
theorem Auy{lvl:Nat}{ts:List Tk}(h:F8 lvl ts≠0):ts.tail.length+1=ts.length:=by
 cases ts with
 | nil=>exact absurd rfl h
 | cons t r=>rfl
theorem R9:∀ n,(∀ lvl ts x r,pe n lvl ts=some (x,r)->r.length<ts.length)/\(∀ lvl x0 ts x r,lp n lvl x0 ts=some (x,r)->r.length<=ts.length) /\
  (∀ ts x r,pu n ts=some (x,r)->r.length<ts.length)/\(∀ ts x r,pp n ts=some (x,r)->r.length<ts.length)
 | 0=>⟨fun _ _ _ _ h=>by simp[pe]at h,fun _ _ _ _ _ h=>by simp[lp]at h,fun _ _ _ h=>by simp[pu]at h,fun _ _ _ h=>by simp[pp]at h⟩
 | n+1=>by
  obtain⟨ih1,ih2,ih3,ih4⟩:=R9 n;refine⟨fun lvl ts x r h=>?_,fun lvl x0 ts x r h=>?_,fun ts x r h=>?_,fun ts x r h=>?_⟩
  ·rw[pe]at h
   split at h
   ·exact ih3 ts x r h
   ·split at h
    ·cases h
    ·rename_i y q hy;have a:=ih1 _ _ _ _ hy;have b:=ih2 _ _ _ _ _ h;omega
  ·rw[lp]at h
   split at h
   ·cases h;exact Ah _
   ·rename_i ho;have t:=Auy ho
    split at h
    ·cases h
    ·rename_i y q hy;have a:=ih1 _ _ _ _ hy
     split at h
     ·cases h;omega
     ·have b:=ih2 _ _ _ _ _ h;omega
  ·have un:∀ (op:Int) s,As s ts=true->(match pu n ts.tail with
     | none=>none
     | some (x,r)=>some (Mc op x,r))=some (x,r)->r.length<ts.length:=fun op s hs h=>by
    have t:=Xi hs
    split at h
    ·cases h
    ·rename_i y q hy;cases h;have a:=ih3 _ _ _ hy;omega
   rw[pu]at h
   split at h
   ·rename_i hs;exact un 4 _ hs h
   ·split at h
    ·rename_i hs;exact un 5 _ hs h
    ·exact ih4 ts x r h
  ·cases ts with
   | nil=>simp[pp]at h
   | cons t ts=>
    rw[Am];rw[pp]at h
    split at h
    ·cases h;omega
    ·split at h
     ·split at h
      ·rename_i hs;have t:=Xi hs
       split at h
       ·cases h
       ·rename_i y q hy;have a:=ih1 _ _ _ _ hy
        split at h
        ·rename_i hs2;have u:=Xi hs2;cases h;omega
        ·cases h
      ·cases h;omega
     ·split at h
      ·split at h
       ·cases h
       ·rename_i y q hy;have a:=ih1 _ _ _ _ hy
        split at h
        ·rename_i hs2;have u:=Xi hs2;cases h;omega
        ·cases h
      ·cases h
structure OkA (A:List Tk):Prop where
 len:A.length<=4096
 num:∀ t∈A,t.kind=2->Lib.parseIntB 64 t.text=.ok (Hm t.text)/\t.text.length<=4096
def PR(A:List Tk)(o:Option (Xp × List Tk))(v:V)(p':Nat):Prop:=match o with
 | some (x,r)=>v=.tup [.agg x.row,.bool true]/\A.drop p'=r
 | none=>v=.tup [.agg [.int .i64 0,.int .i64 0,.str [],.nils],.bool false]
def PE(n:Nat):Prop:=∀ (lvl:Nat) (s:St) (m:Nat) (z:Bool) (t:Nat) (A:List Tk) (p:Nat),OkA A->s[m]?=some (RO z t A p)->p<=A.length->1<=lvl->lvl<=6->8*(A.length - p)+7<=n+lvl ->
 RT 257 [.int .i64 (lvl:Int)] s m z t A (PR A (pe n lvl (A.drop p)))
def PU(n:Nat):Prop:=∀ (s:St) (m:Nat) (z:Bool) (t:Nat) (A:List Tk) (p:Nat),OkA A->s[m]?=some (RO z t A p)->p<=A.length->8*(A.length - p)<=n->RT 267 [] s m z t A (PR A (pu n (A.drop p)))
def PP(n:Nat):Prop:=∀ (s:St) (m:Nat) (z:Bool) (t:Nat) (A:List Tk) (p:Nat),OkA A->s[m]?=some (RO z t A p)->p<=A.length->8*(A.length - p)<=n+1->RT 269 [] s m z t A (PR A (pp n (A.drop p)))
theorem Ci{cs:List V}{b:Bool}(h:Da (.agg cs)=true):Cc (.tup [.agg cs,.bool b])=true/\(V.tup [.agg cs,.bool b]).refs=[]:=by
 have h1:=Uh h;have h2:=Qx h;have h1':cs.all V.cellB=true:=h1;have h2':Aj cs=[]:=h2;refine⟨?_,?_⟩
 ·show((cs.all V.cellB)&&_)=true;rw[h1'];rfl
 ·show Aj cs++_=[];rw[h2'];rfl
theorem O8{n:Nat}(h:PE n){s:St}{m:Nat}{z:Bool}{t:Nat}{A:List Tk}{p:Nat}(hA:OkA A)(hs:s[m]?=some (RO z t A p))(hp:p<=A.length)(hb:8*(A.length - p)+6<=n):RT 233 [] s m z t A (PR A (pe n 1 (A.drop p))):=by
 refine Io T233 rfl hs fun S hS=>?_
 obtain⟨v,q,h1,h2,h3⟩:=Lv hS (l:=[.row [.int .i64 0,.int .i64 0,.str [],.nils] 103 0 0]) fun hs=>h 1 _ m z t A p hA hs hp (by omega) (by omega) (by omega)
 have hm:=hS.low;have Zq:=C4 hS;obtain⟨-,-,hlen,get,get0,set,set0,n0,n1,n2,u0,u1,u2⟩:=hS;rw[Int.natCast_one]at h1;simp only[go_sem,Zq,LZ];unfold PR at h3 ⊢
 split at h3
 ·rename_i x r ho;obtain⟨rfl,h3⟩:=h3;have hx:=C7 x;have hr:=Ax x;rw[hr]at h1 hx ⊢;refine Ac h1 ?_;simp only[go_sem,Zq,LZ];exact By (v:=.tup [.agg _,.bool true]) (B0 (n0 _ _ _) rfl rfl rfl) (Ci hx) h2 ⟨rfl,h3⟩
 ·subst h3;refine Ac h1 ?_;simp only[go_sem,Zq,LZ];exact By (v:=.tup [.agg _,.bool false]) (B0 (n0 _ _ _) rfl rfl rfl) (Ci rfl) h2 rfl
theorem Zf{s:St}{m:Nat}{z:Bool}{t:Nat}{A:List Tk}{S:Nat->St}(hS:RdS s m z t A S){p:Nat}(l:St)(hl:A.length<=1000000)(hp:p<=A.length){w:List UInt8}{r:List Tk}(h:Cy (A.drop p)=some (w,r)):Bp TT PT 119 [.ptr m 0 0] (S p++l) (.tup [.str w,.bool true]) (S (p+1)++l)/\p<A.length/\A.drop (p+1)=r:=by
 obtain⟨h1,h2⟩:=(R8 (hS.get p l) hl hp).1 w r h;rw[show(S p++l).set m (RO z t A (p+1))=S (p+1)++l from hS.set p (p+1) l]at h1;exact⟨h1,h2⟩
theorem Vl{s:St}{m:Nat}{z:Bool}{t:Nat}{A:List Tk}{S:Nat->St}(hS:RdS s m z t A S){p:Nat}(l:St)(hl:A.length<=1000000)(hp:p<=A.length)(h:Cy (A.drop p)=none):Bp TT PT 119 [.ptr m 0 0] (S p++l) (.tup [.str [],.bool false]) (S p++l):=(R8 (hS.get p l) hl hp).2 h
theorem A1s{s:St}{m:Nat}{z:Bool}{t:Nat}{A:List Tk}{S:Nat->St}(hS:RdS s m z t A S){p:Nat}(l:St)(hA:OkA A)(hp:p<=A.length){w:Int}{r:List Tk}(h:Fy (A.drop p)=some (w,r)):Bp TT PT 168 [.ptr m 0 0] (S p++l) (.tup [.int .i64 w,.bool true]) (S (p+1)++l)/\p<A.length/\A.drop (p+1)=r:=by
 obtain⟨h1,h2⟩:=(Ye (hS.get p l) (by have:=hA.len;omega) hp hA.num).1 w r h;rw[show(S p++l).set m (RO z t A (p+1))=S (p+1)++l from hS.set p (p+1) l]at h1;exact⟨h1,h2⟩
theorem Alq{s:St}{m:Nat}{z:Bool}{t:Nat}{A:List Tk}{S:Nat->St}(hS:RdS s m z t A S){p:Nat}(l:St)(hA:OkA A)(hp:p<=A.length)(h:Fy (A.drop p)=none):Bp TT PT 168 [.ptr m 0 0] (S p++l) (.tup [.int .i64 0,.bool false]) (S p++l):=(Ye (hS.get p l) (by have:=hA.len;omega) hp hA.num).2 h
theorem Auz{n:Nat}(hE:∀ k,k<n->PE k):PP n:=by
 intro s m z t A p hA hs hp hb;refine Io T269 rfl hs fun S hS=>?_
 have hl:A.length<=1000000:=by have:=hA.len;omega
 have hS':=hS;have hm:=hS.low;have Zq:=C4 hS;obtain⟨-,-,hlen,get,get0,set,set0,n0,n1,n2,u0,u1,u2⟩:=hS;rcases Bx p A.length with hlt | hge
 ·obtain⟨k,rfl⟩:∃ k,n=k+1:=⟨n - 1,by omega⟩;have hd:=I3 hlt;by_cases h2:(Aa A p).kind=2
  ·have hq:Fy (A.drop p)=some (Hm (Aa A p).text,A.drop (p+1)):=by rw[hd];simp only[Fy];rw[if_pos h2]
   obtain⟨c1,-,-⟩:=A1s hS' [.row [.int .i64 0,.int .i64 0,.str [],.nils] 103 0 0] hA hp hq;have ho:pp (k+1) (A.drop p)=some (⟨1,Hm (Aa A p).text,[],true,0,[]⟩,A.drop (p+1)):=by rw[hd,pp,if_pos h2]
   rw[ho];simp only[go_sem,Zq,LZ];refine Ac c1 ?_;simp only[go_sem,Zq,LZ];exact By (v:=.tup [.agg _,.bool true]) (B0 (n0 _ _ _) rfl rfl rfl) (Ci rfl) hlt ⟨rfl,rfl⟩
  ·have hq:Fy (A.drop p)=none:=by rw[hd];simp only[Fy];rw[if_neg h2]
   have c1:=Alq hS' [.row [.int .i64 0,.int .i64 0,.str [],.nils] 103 0 0] hA hp hq;by_cases h1:(Aa A p).kind=1
   ·have hn:Cy (A.drop p)=some ((Aa A p).text,A.drop (p+1)):=by rw[hd];simp only[Cy];rw[if_pos h1]
    obtain⟨c2,-,-⟩:=Zf hS' [.row [.int .i64 0,.int .i64 0,.str [],.nils] 103 0 0] hl hp hn;by_cases h91:As [91] (A.drop (p+1))=true
    ·have c3:=Ih hS' [.row [.int .i64 0,.int .i64 0,.str [],.nils] 103 0 0] hl h91;have hlt2:=Dh h91;obtain⟨v,q,c4,hq2,h3⟩:=Lv hS' (l:=[.row [.int .i64 0,.int .i64 0,.str [],.nils] 103 0 0]) fun hs=>O8 (hE k (by omega)) (p:=p+1+1) hA hs (by omega) (by omega)
     have ho:pp (k+1) (A.drop p)=match pe k 1 (A.drop (p+1+1)) with
       | none=>none
       | some (x,r)=>if As [93] r then some (⟨3,0,(Aa A p).text,true,1,[x]⟩,r.tail) else none:=by
      rw[hd,pp,if_neg h2,if_pos h1,if_pos h91,<-Dj];rfl
     rw[ho];simp only[go_sem,Zq,LZ];refine Ac c1 ?_;simp only[go_sem,Zq,LZ];refine Ac c2 ?_;simp only[go_sem,Zq,LZ];refine Ac c3 ?_;simp only[go_sem,Zq,LZ];unfold PR at h3
     split at h3
     ·rename_i x r hx;obtain⟨rfl,h3⟩:=h3;have hxs:=C7 x;have hr:=Ax x;rw[hr]at c4 hxs;rw[hx];simp only;refine Ac c4 ?_;by_cases h93:As [93] r=true
      ·rw[<-h3]at h93;have c5:=Ih hS' [.row [.int .i64 0,.int .i64 0,.str [],.nils] 103 0 0,.row [.int .i64 x.op,.int .i64 x.n,.str x.nm,SL x.z x.t (x.l.map Xp.row)] 103 0 0] hl h93;rw[<-h3,if_pos h93];simp only[go_sem,Zq,LZ];refine Ac c5 ?_;simp only[go_sem,Zq,LZ];exact By (v:=.tup [.agg _,.bool true]) (B0 (n0 _ _ _) rfl rfl rfl) (Ci (by simp only[go_sem])) (Dh h93) ⟨by rw[Ax ⟨3,0,_,_,_,_⟩];simp only[Ba,Bs,hr];rfl,Dj⟩
      ·have h93:As [93] (A.drop q)=false:=by rw[h3];simpa using h93
       have c5:=Hk hS' [.row [.int .i64 0,.int .i64 0,.str [],.nils] 103 0 0,.row [.int .i64 x.op,.int .i64 x.n,.str x.nm,SL x.z x.t (x.l.map Xp.row)] 103 0 0] hl hq2 h93;rw[<-h3,if_neg (by rw[h93];decide)];simp only[go_sem,Zq,LZ];refine Ac c5 ?_;simp only[go_sem,Zq,LZ];exact By (v:=.tup [.agg _,.bool false]) (B0 (n0 _ _ _) rfl rfl rfl) (Ci rfl) hq2 rfl
     ·rename_i hx;subst h3;rw[hx];simp only;refine Ac c4 ?_;simp only[go_sem,Zq,LZ];exact By (v:=.tup [.agg _,.bool false]) (B0 (n0 _ _ _) rfl rfl rfl) (Ci rfl) hq2 rfl
    ·have h91:As [91] (A.drop (p+1))=false:=by simpa using h91
     have c3:=Hk hS' [.row [.int .i64 0,.int .i64 0,.str [],.nils] 103 0 0] hl (Ga hlt) h91;have ho:pp (k+1) (A.drop p)=some (⟨2,0,(Aa A p).text,true,0,[]⟩,A.drop (p+1)):=by rw[hd,pp,if_neg h2,if_pos h1,if_neg (by rw[h91];decide)]
     rw[ho];simp only[go_sem,Zq,LZ];refine Ac c1 ?_;simp only[go_sem,Zq,LZ];refine Ac c2 ?_;simp only[go_sem,Zq,LZ];refine Ac c3 ?_;simp only[go_sem,Zq,LZ];exact By (v:=.tup [.agg _,.bool true]) (B0 (n0 _ _ _) rfl rfl rfl) (Ci rfl) hlt ⟨rfl,rfl⟩
   ·have hn:Cy (A.drop p)=none:=by rw[hd];simp only[Cy];rw[if_neg h1]
    have c2:=Vl hS' [.row [.int .i64 0,.int .i64 0,.str [],.nils] 103 0 0] hl hp hn;by_cases h40:As [40] (A.drop p)=true
    ·have c3:=Ih hS' [.row [.int .i64 0,.int .i64 0,.str [],.nils] 103 0 0] hl h40;obtain⟨v,q,c4,hq2,h3⟩:=Lv hS' (l:=[.row [.int .i64 0,.int .i64 0,.str [],.nils] 103 0 0]) fun hs=>O8 (hE k (by omega)) (p:=p+1) hA hs (by omega) (by omega)
     have ho:pp (k+1) (A.drop p)=match pe k 1 (A.drop (p+1)) with
       | none=>none
       | some (x,r)=>if As [41] r then some (x,r.tail) else none:=by
      rw[hd]at h40 ⊢;rw[pp,if_neg h2,if_neg h1,if_pos h40];rfl
     rw[ho];simp only[go_sem,Zq,LZ];refine Ac c1 ?_;simp only[go_sem,Zq,LZ];refine Ac c2 ?_;simp only[go_sem,Zq,LZ];refine Ac c3 ?_;simp only[go_sem,Zq,LZ];unfold PR at h3
     split at h3
     ·rename_i x r hx;obtain⟨rfl,h3⟩:=h3;have hxs:=C7 x;have hr:=Ax x;rw[hr]at c4 hxs;rw[hx];simp only;refine Ac c4 ?_;by_cases h93:As [41] r=true
      ·rw[<-h3]at h93;have c5:=Ih hS' [.row [.int .i64 0,.int .i64 0,.str [],.nils] 103 0 0,.row [.int .i64 x.op,.int .i64 x.n,.str x.nm,SL x.z x.t (x.l.map Xp.row)] 103 0 0] hl h93;rw[<-h3,if_pos h93];simp only[go_sem,Zq,LZ];refine Ac c5 ?_;simp only[go_sem,Zq,LZ];exact By (v:=.tup [.agg _,.bool true]) (B0 (n0 _ _ _) rfl rfl rfl) (Ci hxs) (Dh h93) ⟨by rw[hr],Dj⟩
      ·have h93:As [41] (A.drop q)=false:=by rw[h3];simpa using h93
       have c5:=Hk hS' [.row [.int .i64 0,.int .i64 0,.str [],.nils] 103 0 0,.row [.int .i64 x.op,.int .i64 x.n,.str x.nm,SL x.z x.t (x.l.map Xp.row)] 103 0 0] hl hq2 h93;rw[<-h3,if_neg (by rw[h93];decide)];simp only[go_sem,Zq,LZ];refine Ac c5 ?_;simp only[go_sem,Zq,LZ];exact By (v:=.tup [.agg _,.bool false]) (B0 (n0 _ _ _) rfl rfl rfl) (Ci rfl) hq2 rfl
     ·rename_i hx;subst h3;rw[hx];simp only;refine Ac c4 ?_;simp only[go_sem,Zq,LZ];exact By (v:=.tup [.agg _,.bool false]) (B0 (n0 _ _ _) rfl rfl rfl) (Ci rfl) hq2 rfl
    ·have h40:As [40] (A.drop p)=false:=by simpa using h40
     have c3:=Hk hS' [.row [.int .i64 0,.int .i64 0,.str [],.nils] 103 0 0] hl hp h40
     have ho:pp (k+1) (A.drop p)=none:=by
      rw[hd]at h40 ⊢;rw[pp,if_neg h2,if_neg h1,if_neg (by rw[h40];decide)]
     rw[ho];simp only[go_sem,Zq,LZ];refine Ac c1 ?_;simp only[go_sem,Zq,LZ];refine Ac c2 ?_;simp only[go_sem,Zq,LZ];refine Ac c3 ?_;simp only[go_sem,Zq,LZ];exact By (v:=.tup [.agg _,.bool false]) (B0 (n0 _ _ _) rfl rfl rfl) (Ci rfl) hp rfl
 ·have hd:=(H2 hge).1
  have ho:pp n (A.drop p)=none:=by
   rw[hd]
   cases n<;>simp[pp]
  rw[ho];have c1:=Alq hS' [.row [.int .i64 0,.int .i64 0,.str [],.nils] 103 0 0] hA hp (by rw[hd];rfl);have c2:=Vl hS' [.row [.int .i64 0,.int .i64 0,.str [],.nils] 103 0 0] hl hp (by rw[hd];rfl);have c3:=Hk hS' [.row [.int .i64 0,.int .i64 0,.str [],.nils] 103 0 0] hl hp (w:=[40]) (by rw[hd];rfl);simp only[go_sem,Zq,LZ];refine Ac c1 ?_;simp only[go_sem,Zq,LZ];refine Ac c2 ?_;simp only[go_sem,Zq,LZ];refine Ac c3 ?_;simp only[go_sem,Zq,LZ];exact By (v:=.tup [.agg _,.bool false]) (B0 (n0 _ _ _) rfl rfl rfl) (Ci rfl) hp rfl
theorem Au0{n:Nat}(hU:∀ k,k<n->PU k)(hP:∀ k,k<=n->PP k):PU n:=by
 intro s m z t A p hA hs hp hb;refine Io T267 rfl hs fun S hS=>?_
 have hl:A.length<=1000000:=by have:=hA.len;omega
 have hS':=hS;have hm:=hS.low;have Zq:=C4 hS;obtain⟨-,-,hlen,get,get0,set,set0,n0,n1,n2,u0,u1,u2⟩:=hS
 have prim:∀ k,8*(A.length - p)<=k+1->k<=n->As [45] (A.drop p)=false->As [33] (A.drop p)=false->pu n (A.drop p)=pp k (A.drop p)->W TT PT [.c af267.body] (C2 0 [.ptr m 0 0]) (S p) (Hd fun e' σ1=>∃ v p' l,B6 e' σ1 [.cell 2 4 false,.tmp 3]=some v/\(Cc v=true/\v.refs=[])/\σ1=S p'++l/\p'<=A.length/\PR A (pu n (A.drop p)) v p'):=by
  intro k hk hkn h4 h5 ho;have c4n:=Hk hS' [.row [.int .i64 0,.int .i64 0,.str [],.nils] 103 0 0] hl hp h4;have c5n:=Hk hS' [.row [.int .i64 0,.int .i64 0,.str [],.nils] 103 0 0] hl hp h5;obtain⟨v,q,c4,hq2,h3⟩:=Lv hS' (l:=[.row [.int .i64 0,.int .i64 0,.str [],.nils] 103 0 0]) fun hs=>hP k hkn _ m z t A p hA hs hp hk
  rw[ho];unfold af267;simp only[go_sem,Zq,LZ];refine Ac c4n ?_;simp only[go_sem,Zq,LZ];refine Ac c5n ?_;simp only[go_sem,Zq,LZ];unfold PR at h3 ⊢
  split at h3
  ·rename_i x r hx;obtain⟨rfl,h3⟩:=h3;have hxs:=C7 x;have hr:=Ax x;rw[hr]at c4 hxs;rw[hr];refine Ac c4 ?_;simp only[go_sem,Zq,LZ];exact By (v:=.tup [.agg _,.bool true]) (B0 (n0 _ _ _) rfl rfl rfl) (Ci hxs) hq2 ⟨rfl,h3⟩
  ·rename_i hx;subst h3;refine Ac c4 ?_;simp only[go_sem,Zq,LZ];exact By (v:=.tup [.agg _,.bool false]) (B0 (n0 _ _ _) rfl rfl rfl) (Ci rfl) hq2 rfl
 rcases n with _ | k
 ·have hd:=(H2 (A:=A) (p:=p) (by omega)).1;refine prim 0 (by omega) (Ah _) (by rw[hd];rfl) (by rw[hd];rfl) ?_;rw[hd];simp[pu,pp]
 ·by_cases h4:As [45] (A.drop p)=true
  ·have hlt:=Dh h4;have cA:=Ih hS' [.row [.int .i64 0,.int .i64 0,.str [],.nils] 103 0 0] hl h4;obtain⟨v,q,c4,hq2,h3⟩:=Lv hS' (l:=[.row [.int .i64 0,.int .i64 0,.str [],.nils] 103 0 0]) fun hs=>hU k (by omega) _ m z t A (p+1) hA hs (by omega) (by omega)
   have ho:pu (k+1) (A.drop p)=match pu k (A.drop (p+1)) with
     | none=>none
     | some (x,r)=>some (Mc 4 x,r):=by
    rw[pu,if_pos h4,<-Dj];rfl
   rw[ho];simp only[go_sem,Zq,LZ];refine Ac cA ?_;simp only[go_sem,Zq,LZ];unfold PR at h3
   split at h3
   ·rename_i x r hx;obtain⟨rfl,h3⟩:=h3;have hxs:=C7 x;have hr:=Ax x;rw[hr]at c4 hxs;rw[hx];simp only;refine Ac c4 ?_;simp only[go_sem,Zq,LZ];exact By (v:=.tup [.agg _,.bool true]) (B0 (n0 _ _ _) rfl rfl rfl) (Ci (by simp only[go_sem])) hq2 ⟨by unfold Mc;rw[Ax ⟨4,0,_,_,_,_⟩];simp only[Ba,Bs,hr];rfl,h3⟩
   ·rename_i hx;subst h3;rw[hx];simp only;refine Ac c4 ?_;simp only[go_sem,Zq,LZ];exact By (v:=.tup [.agg _,.bool false]) (B0 (n0 _ _ _) rfl rfl rfl) (Ci rfl) hq2 rfl
  ·have h4:As [45] (A.drop p)=false:=by simpa using h4
   have c4n:=Hk hS' [.row [.int .i64 0,.int .i64 0,.str [],.nils] 103 0 0] hl hp h4;by_cases h5:As [33] (A.drop p)=true
   ·have hlt:=Dh h5;have cA:=Ih hS' [.row [.int .i64 0,.int .i64 0,.str [],.nils] 103 0 0] hl h5;obtain⟨v,q,c4,hq2,h3⟩:=Lv hS' (l:=[.row [.int .i64 0,.int .i64 0,.str [],.nils] 103 0 0]) fun hs=>hU k (by omega) _ m z t A (p+1) hA hs (by omega) (by omega)
    have ho:pu (k+1) (A.drop p)=match pu k (A.drop (p+1)) with
      | none=>none
      | some (x,r)=>some (Mc 5 x,r):=by
     rw[pu,if_neg (by rw[h4];decide),if_pos h5,<-Dj];rfl
    rw[ho];simp only[go_sem,Zq,LZ];refine Ac c4n ?_;simp only[go_sem,Zq,LZ];refine Ac cA ?_;simp only[go_sem,Zq,LZ];unfold PR at h3
    split at h3
    ·rename_i x r hx;obtain⟨rfl,h3⟩:=h3;have hxs:=C7 x;have hr:=Ax x;rw[hr]at c4 hxs;rw[hx];simp only;refine Ac c4 ?_;simp only[go_sem,Zq,LZ];exact By (v:=.tup [.agg _,.bool true]) (B0 (n0 _ _ _) rfl rfl rfl) (Ci (by simp only[go_sem])) hq2 ⟨by unfold Mc;rw[Ax ⟨5,0,_,_,_,_⟩];simp only[Ba,Bs,hr];rfl,h3⟩
    ·rename_i hx;subst h3;rw[hx];simp only;refine Ac c4 ?_;simp only[go_sem,Zq,LZ];exact By (v:=.tup [.agg _,.bool false]) (B0 (n0 _ _ _) rfl rfl rfl) (Ci rfl) hq2 rfl
   ·have h5:As [33] (A.drop p)=false:=by simpa using h5
    exact prim k hb (by omega) h4 h5 (by rw[pu,if_neg (by rw[h4];decide),if_neg (by rw[h5];decide)])
theorem Au1{n:Nat}(hE:∀ k,k<n->PE k)(hU:∀ k,k<n->PU k):PE n:=by
 intro lvl s m z t A p hA hs hp h1 h6 hb;obtain⟨n,rfl⟩:∃ k,n=k+1:=⟨n - 1,by omega⟩;refine Io T257 rfl hs fun S hS=>?_
 have hl:A.length<=1000000:=by have:=hA.len;omega
 have hS':=hS;have hm:=hS.low;have Zq:=C4 hS;obtain⟨-,-,hlen,get,get0,set,set0,n0,n1,n2,u0,u1,u2⟩:=hS;by_cases h5:5<lvl
 ·have f5:((5:Int)<(lvl:Int))=True:=eq_true (by omega);have ho:pe (n+1) lvl (A.drop p)=pu n (A.drop p):=by rw[pe,if_pos h5]
  obtain⟨v,q,c4,hq2,h3⟩:=Lv hS' (l:=[.row [.int .i64 0,.int .i64 0,.str [],.nils] 103 0 0]) fun hs=>hU n (by omega) _ m z t A p hA hs hp (by omega)
  rw[ho];simp only[go_sem,Zq,LZ,gt_iff_lt,f5];unfold PR at h3 ⊢
  split at h3
  ·rename_i x r hx;obtain⟨rfl,h3⟩:=h3;have hxs:=C7 x;have hr:=Ax x;rw[hr]at c4 hxs;rw[hr];refine Ac c4 ?_;simp only[go_sem,Zq,LZ];exact By (v:=.tup [.agg _,.bool true]) (B0 (n0 _ _ _) rfl rfl rfl) (Ci hxs) hq2 ⟨rfl,h3⟩
  ·rename_i hx;subst h3;refine Ac c4 ?_;simp only[go_sem,Zq,LZ];exact By (v:=.tup [.agg _,.bool false]) (B0 (n0 _ _ _) rfl rfl rfl) (Ci rfl) hq2 rfl
 ·have f5:((5:Int)<(lvl:Int))=False:=eq_false (by omega);have hinc:=Bg (show lvl<9223372036854775807 by omega);obtain⟨v,q,c4,hq2,h3⟩:=Lv hS' (l:=[.row [.int .i64 0,.int .i64 0,.str [],.nils] 103 0 0]) fun hs=>hE n (by omega) (lvl+1) _ m z t A p hA hs hp (by omega) (by omega) (by omega)
  have ho:pe (n+1) lvl (A.drop p)=match pe n (lvl+1) (A.drop p) with
    | none=>none
    | some (x,r)=>lp n lvl x r:=by
   rw[pe,if_neg h5];rfl
  rw[ho];simp only[go_sem,Zq,LZ,gt_iff_lt,f5,hinc];unfold PR at h3
  split at h3
  rotate_left
  ·rename_i hx;subst h3;rw[hx];simp only;refine Ac c4 ?_;simp only[go_sem,Zq,LZ];exact By (v:=.tup [.agg _,.bool false]) (B0 (n0 _ _ _) rfl rfl rfl) (Ci rfl) hq2 rfl
  ·rename_i x r hx;obtain⟨rfl,h3⟩:=h3;have hxs:=C7 x;have hr:=Ax x;rw[hr]at c4 hxs;rw[hx];simp only;have hlt:=(R9 n).1 _ _ _ _ hx;rw[D0]at hlt;have hrl:r.length=A.length - q:=by rw[<-h3,D0]
   refine Ac c4 ?_;simp only[go_sem,Zq,LZ];refine B9 (α:=Nat × Nat × Xp × St) (fun a=>a.1) (fun a=>[(0,.ptr m 0 0),(1,.int .i64 (lvl:Int)),(4,.ptr s.length 0 0),(6,.ptr (s.length+1) 0 0)]) (fun a=>S a.2.1++.row [.int .i64 0,.int .i64 0,.str [],.nils] 103 0 0::.row [.int .i64 a.2.2.1.op,.int .i64 a.2.2.1.n,.str a.2.2.1.nm,SL a.2.2.1.z a.2.2.1.t (a.2.2.1.l.map Xp.row)] 103 0 0::a.2.2.2) (fun a=>a.1<=n/\a.2.1<=A.length/\lp a.1 lvl a.2.2.1 (A.drop a.2.1)=lp n lvl x r/\8*(A.length - a.2.1)+6<=a.1+lvl) ?_ (n,q,x,[]) ⟨Ah _,hq2,by rw[h3],by simp only;omega⟩;rintro⟨k,q,x,J⟩ ⟨hkn,hq,hlp,hbk⟩ ih;simp only at hkn hq hlp hbk ih;refine Ca (by delta lp257_0;exact rfl) ?_;rw[<-hlp];obtain⟨k,rfl⟩:∃ j,k=j+1:=⟨k - 1,by omega⟩;have hxs:=C7 x;have hr:=Ax x;rw[hr]at hxs;obtain⟨X,hX⟩:∃ X:List V,X=[.int .i64 x.op,.int .i64 x.n,.str x.nm,SL x.z x.t (x.l.map Xp.row)]:=⟨_,rfl⟩;have co:=Aup (get q (.row [.int .i64 0,.int .i64 0,.str [],.nils] 103 0 0::.row [.int .i64 x.op,.int .i64 x.n,.str x.nm,SL x.z x.t (x.l.map Xp.row)] 103 0 0::J)) hl hq lvl
   have nJ:∀ (q:Nat) (a b c:Ob),(S q++a::b::(J++[c]))[s.length+(J.length+1+1)]?=some c:=fun q a b c=>by
    rw[Cf (by rw[hlen];omega),hlen,show s.length+(J.length+1+1) - s.length=J.length+1+1 by omega,Sx,Sx,Cf (Ah _),Ir];rfl
   have uJ:∀ (q:Nat) (a b c d:Ob),(S q++a::b::(J++[c])).set (s.length+(J.length+1+1)) d=S q++a::b::(J++[d]):=fun q a b c d=>by
    rw[Jg _ _ (by rw[hlen];omega),hlen,show s.length+(J.length+1+1) - s.length=J.length+1+1 by omega,Zv,Zv,Jg _ _ (Ah _),Ir];rfl
   by_cases h0:F8 lvl (A.drop q)=0
   ·have ho:lp (k+1) lvl x (A.drop q)=some (x,A.drop q):=by rw[lp,if_pos h0]
    rw[h0]at co;rw[ho];simp only[go_sem,Zq,LZ];refine Ac co ?_;simp only[go_sem,Zq,LZ,Int.reduceBEq];exact By (v:=.tup [.agg _,.bool true]) (B0 (n0 _ _ _) rfl rfl rfl) (Ci hxs) hq ⟨by rw[hr],rfl⟩
   ·have hqlt:q<A.length:=by
     rcases Bx q A.length with h | h
     ·exact h
     ·rw[(H2 h).1]at h0;exact absurd rfl h0
    have b0:(F8 lvl (A.drop q)==0)=false:=by simp[h0]
    have hinq:=Bg (show q<9223372036854775807 by omega);obtain⟨v,q2,c4,hq2,h3⟩:=Lv hS' (p:=q+1) (l:=.row [.int .i64 0,.int .i64 0,.str [],.nils] 103 0 0::.row [.int .i64 x.op,.int .i64 x.n,.str x.nm,SL x.z x.t (x.l.map Xp.row)] 103 0 0::J) fun hs=>hE k (by omega) (lvl+1) _ m z t A (q+1) hA hs hqlt (by omega) (by omega) (by omega)
    have ho:lp (k+1) lvl x (A.drop q)=match pe k (lvl+1) (A.drop (q+1)) with
      | none=>none
      | some (y,r)=>if lvl=3 then some (I8 (F8 lvl (A.drop q)) x y,r) else lp k lvl (I8 (F8 lvl (A.drop q)) x y) r:=by
     rw[lp,if_neg h0,<-Dj];rfl
    generalize F8 lvl (A.drop q)=op at co b0 ho;simp only[go_sem,Zq,LZ];refine Ac co ?_;simp only[go_sem,Zq,LZ,b0,hinq,hinc];unfold PR at h3
    split at h3
    ·rename_i y r2 hy;obtain⟨rfl,h3⟩:=h3;have hys:=C7 y;have hyr:=Ax y;rw[hyr]at c4 hys;rw[hy]at ho;simp only at ho;have hlt2:=(R9 k).1 _ _ _ _ hy;rw[D0]at hlt2;have hrl2:r2.length=A.length - q2:=by rw[<-h3,D0]
     refine Ac c4 ?_
     have hbr:Xp.row (I8 op x y)=[.int .i64 op,.int .i64 0,.str [],.lst 1 [[.int .i64 x.op,.int .i64 x.n,.str x.nm,SL x.z x.t (x.l.map Xp.row)],[.int .i64 y.op,.int .i64 y.n,.str y.nm,SL y.z y.t (y.l.map Xp.row)]]]:=by
      unfold I8;rw[Ax ⟨op,0,_,_,_,_⟩];simp only[Ba,Bs,hr,hyr];rfl
     have hbs:=C7 (I8 op x y);rw[hbr]at hbs;by_cases hl3:lvl=3
     ·have b3:((lvl:Int)==3)=true:=by rw[hl3];rfl
      rw[if_pos hl3]at ho;rw[ho];simp only[go_sem,Zq,LZ,nJ,uJ,b3];exact By (v:=.tup [.agg _,.bool true]) (B0 (n0 _ _ _) rfl rfl rfl) (Ci hbs) hq2 ⟨by rw[hbr],h3⟩
     ·have b3:((lvl:Int)==3)=false:=by rw[beq_eq_false_iff_ne];omega
      rw[if_neg hl3]at ho;rw[ho];simp only[go_sem,Zq,LZ,nJ,uJ,b3];have:=ih (k,q2,I8 op x y,J++[.row [.int .i64 y.op,.int .i64 y.n,.str y.nm,SL y.z y.t (y.l.map Xp.row)] 103 0 0]) (by simp) ⟨by simp only;omega,hq2,by simp only;rw[h3,<-hlp,ho],by simp only;omega⟩;have e:lp k lvl (I8 op x y) r2=_:=ho.symm.trans hlp;rw[e];simp only[I8,Ba,Bs,hr,hyr]at this;exact this
    ·rename_i hy;subst h3;rw[hy]at ho;simp only at ho;rw[ho];refine Ac c4 ?_;simp only[go_sem,Zq,LZ,nJ,uJ];exact By (v:=.tup [.agg _,.bool false]) (B0 (n0 _ _ _) rfl rfl rfl) (Ci rfl) hq2 rfl
theorem Tr:∀ n,PE n/\PU n:=by
 intro n
 induction n using Nat.strongRecOn with
 | ind n ih=>
  exact⟨Au1 (fun k hk=>(ih k hk).1) (fun k hk=>(ih k hk).2),Au0 (fun k hk=>(ih k hk).2) (fun k hk=>Auz fun j hj=>(ih j (by omega)).1)⟩
