/- Walks: the parser's expressions. -/
import Derived.Test.YtlehfgdhebapeaaGreatDoorLk
import Derived.Test.YtlehfgdhebapeaaGreatDoorLm
set_option linter.all false
namespace Go.Proofs.YtlehfgdhebapeaaGreatDoor.KM
open Go
theorem Wn{s:List UInt8}{ts:List Tk}(h:Ak s ts=true):ts.tail.length+1=ts.length:=by
 cases ts with
 | nil=>cases h
 | cons t r=>rfl
theorem Asq{lvl:Nat}{ts:List Tk}(h:Fp lvl ts≠0):ts.tail.length+1=ts.length:=by
 cases ts with
 | nil=>exact absurd rfl h
 | cons t r=>rfl
theorem Rq:∀ n,(∀ lvl ts x r,pe n lvl ts=some (x,r)->r.length<ts.length)/\(∀ lvl x0 ts x r,lp n lvl x0 ts=some (x,r)->r.length<=ts.length) /\
  (∀ ts x r,pu n ts=some (x,r)->r.length<ts.length)/\(∀ ts x r,pp n ts=some (x,r)->r.length<ts.length)
 | 0=>⟨fun _ _ _ _ h=>by simp[pe]at h,fun _ _ _ _ _ h=>by simp[lp]at h,fun _ _ _ h=>by simp[pu]at h,fun _ _ _ h=>by simp[pp]at h⟩
 | n+1=>by
  obtain⟨ih1,ih2,ih3,ih4⟩:=Rq n
  refine⟨fun lvl ts x r h=>?_,fun lvl x0 ts x r h=>?_,fun ts x r h=>?_,fun ts x r h=>?_⟩
  ·rw[pe]at h
   split at h
   ·exact ih3 ts x r h
   ·split at h
    ·cases h
    ·rename_i y q hy
     have a:=ih1 _ _ _ _ hy
     have b:=ih2 _ _ _ _ _ h
     omega
  ·rw[lp]at h
   split at h
   ·cases h
    exact Af _
   ·rename_i ho
    have t:=Asq ho
    split at h
    ·cases h
    ·rename_i y q hy
     have a:=ih1 _ _ _ _ hy
     split at h
     ·cases h
      omega
     ·have b:=ih2 _ _ _ _ _ h
      omega
  ·have un:∀ (op:Int) s,Ak s ts=true->(match pu n ts.tail with
     | none=>none
     | some (x,r)=>some (Jd op x,r))=some (x,r)->r.length<ts.length:=fun op s hs h=>by
    have t:=Wn hs
    split at h
    ·cases h
    ·rename_i y q hy
     cases h
     have a:=ih3 _ _ _ hy
     omega
   rw[pu]at h
   split at h
   ·rename_i hs;exact un 4 _ hs h
   ·split at h
    ·rename_i hs;exact un 5 _ hs h
    ·exact ih4 ts x r h
  ·cases ts with
   | nil=>simp[pp]at h
   | cons t ts=>
    rw[Ag]
    rw[pp]at h
    split at h
    ·cases h
     omega
    ·split at h
     ·split at h
      ·rename_i hs
       have t:=Wn hs
       split at h
       ·cases h
       ·rename_i y q hy
        have a:=ih1 _ _ _ _ hy
        split at h
        ·rename_i hs2
         have u:=Wn hs2
         cases h
         omega
        ·cases h
      ·cases h
       omega
     ·split at h
      ·split at h
       ·cases h
       ·rename_i y q hy
        have a:=ih1 _ _ _ _ hy
        split at h
        ·rename_i hs2
         have u:=Wn hs2
         cases h
         omega
        ·cases h
      ·cases h
structure OkA (A:List Tk):Prop where
 len:A.length<=4096
 num:∀ t∈A,t.kind=2->Lib.parseIntB 64 t.text=.ok (Gx t.text)/\t.text.length<=4096
def PR(A:List Tk)(o:Option (Xp × List Tk))(v:V)(p':Nat):Prop:=match o with
 | some (x,r)=>v=.tup [.agg x.row,.bool true]/\A.drop p'=r
 | none=>v=.tup [.agg [.int .i64 0,.int .i64 0,.str [],.nils],.bool false]
def PE(n:Nat):Prop:=∀ (lvl:Nat) (s:St) (m:Nat) (z:Bool) (t:Nat) (A:List Tk) (p:Nat),OkA A->s[m]?=some (RO z t A p)->p<=A.length->1<=lvl->lvl<=6->8*(A.length - p)+7<=n+lvl ->
 RT 90 [.int .i64 (lvl:Int)] s m z t A (PR A (pe n lvl (A.drop p)))
def PU(n:Nat):Prop:=∀ (s:St) (m:Nat) (z:Bool) (t:Nat) (A:List Tk) (p:Nat),OkA A->s[m]?=some (RO z t A p)->p<=A.length->8*(A.length - p)<=n->RT 130 [] s m z t A (PR A (pu n (A.drop p)))
def PP(n:Nat):Prop:=∀ (s:St) (m:Nat) (z:Bool) (t:Nat) (A:List Tk) (p:Nat),OkA A->s[m]?=some (RO z t A p)->p<=A.length->8*(A.length - p)<=n+1->RT 168 [] s m z t A (PR A (pp n (A.drop p)))
theorem B5{cs:List V}{b:Bool}(h:C2 (.agg cs)=true):Cq (.tup [.agg cs,.bool b])=true/\(V.tup [.agg cs,.bool b]).refs=[]:=by
 have h1:=Wu h
 have h2:=S7 h
 have h1':cs.all V.cellB=true:=h1
 have h2':Aw cs=[]:=h2
 refine⟨?_,?_⟩
 ·show((cs.all V.cellB)&&_)=true
  rw[h1']
  rfl
 ·show Aw cs++_=[]
  rw[h2']
  rfl
theorem O0{n:Nat}(h:PE n){s:St}{m:Nat}{z:Bool}{t:Nat}{A:List Tk}{p:Nat}(hA:OkA A)(hs:s[m]?=some (RO z t A p))(hp:p<=A.length)(hb:8*(A.length - p)+6<=n):RT 48 [] s m z t A (PR A (pe n 1 (A.drop p))):=by
 refine Id T48 rfl hs fun S hS=>?_
 obtain⟨v,q,h1,h2,h3⟩:=Lb hS (l:=[.row [.int .i64 0,.int .i64 0,.str [],.nils] 40 0 0]) fun hs=>h 1 _ m z t A p hA hs hp (by omega) (by omega) (by omega)
 have hm:=hS.low
 obtain⟨-,-,hlen,get,get0,set,set0,n0,n1,n2,u0,u1,u2⟩:=hS
 rw[Vf]at h1
 simp only[go_sem,hlen,get,get0,set,set0,n0,n1,n2,u0,u1,u2,LZ]
 unfold PR at h3 ⊢
 split at h3
 ·rename_i x r ho
  obtain⟨rfl,h3⟩:=h3
  have hx:=Dn x
  have hr:=Au x
  rw[hr]at h1 hx ⊢
  refine Ab h1 ?_
  simp only[go_sem,hlen,get,get0,set,set0,n0,n1,n2,u0,u1,u2,LZ]
  exact Bs (v:=.tup [.agg _,.bool true]) (Bu (n0 _ _ _) rfl rfl rfl) (B5 hx) h2 ⟨rfl,h3⟩
 ·subst h3
  refine Ab h1 ?_
  simp only[go_sem,hlen,get,get0,set,set0,n0,n1,n2,u0,u1,u2,LZ]
  exact Bs (v:=.tup [.agg _,.bool false]) (Bu (n0 _ _ _) rfl rfl rfl) (B5 rfl) h2 rfl
theorem Ya{s:St}{m:Nat}{z:Bool}{t:Nat}{A:List Tk}{S:Nat->St}(hS:RdS s m z t A S){p:Nat}(l:St)(hl:A.length<=1000000)(hp:p<=A.length){w:List UInt8}{r:List Tk}(h:B8 (A.drop p)=some (w,r)):Bc TT PT 122 [.ptr m 0 0] (S p++l) (.tup [.str w,.bool true]) (S (p+1)++l)/\p<A.length/\A.drop (p+1)=r:=by
 obtain⟨h1,h2⟩:=(Rp (hS.get p l) hl hp).1 w r h
 rw[show(S p++l).set m (RO z t A (p+1))=S (p+1)++l from hS.set p (p+1) l]at h1
 exact⟨h1,h2⟩
theorem Uy{s:St}{m:Nat}{z:Bool}{t:Nat}{A:List Tk}{S:Nat->St}(hS:RdS s m z t A S){p:Nat}(l:St)(hl:A.length<=1000000)(hp:p<=A.length)(h:B8 (A.drop p)=none):Bc TT PT 122 [.ptr m 0 0] (S p++l) (.tup [.str [],.bool false]) (S p++l):=(Rp (hS.get p l) hl hp).2 h
theorem Ay9{s:St}{m:Nat}{z:Bool}{t:Nat}{A:List Tk}{S:Nat->St}(hS:RdS s m z t A S){p:Nat}(l:St)(hA:OkA A)(hp:p<=A.length){w:Int}{r:List Tk}(h:Fg (A.drop p)=some (w,r)):Bc TT PT 161 [.ptr m 0 0] (S p++l) (.tup [.int .i64 w,.bool true]) (S (p+1)++l)/\p<A.length/\A.drop (p+1)=r:=by
 obtain⟨h1,h2⟩:=(Xr (hS.get p l) (by have:=hA.len;omega) hp hA.num).1 w r h
 rw[show(S p++l).set m (RO z t A (p+1))=S (p+1)++l from hS.set p (p+1) l]at h1
 exact⟨h1,h2⟩
theorem Aj4{s:St}{m:Nat}{z:Bool}{t:Nat}{A:List Tk}{S:Nat->St}(hS:RdS s m z t A S){p:Nat}(l:St)(hA:OkA A)(hp:p<=A.length)(h:Fg (A.drop p)=none):Bc TT PT 161 [.ptr m 0 0] (S p++l) (.tup [.int .i64 0,.bool false]) (S p++l):=(Xr (hS.get p l) (by have:=hA.len;omega) hp hA.num).2 h
theorem Asr{n:Nat}(hE:∀ k,k<n->PE k):PP n:=by
 intro s m z t A p hA hs hp hb
 refine Id T168 rfl hs fun S hS=>?_
 have hl:A.length<=1000000:=by have:=hA.len;omega
 have hS':=hS
 have hm:=hS.low
 obtain⟨-,-,hlen,get,get0,set,set0,n0,n1,n2,u0,u1,u2⟩:=hS
 rcases D7 p A.length with hlt | hge
 ·obtain⟨k,rfl⟩:∃ k,n=k+1:=⟨n - 1,by omega⟩
  have hd:=Iq hlt
  by_cases h2:(Aa A p).kind=2
  ·have hq:Fg (A.drop p)=some (Gx (Aa A p).text,A.drop (p+1)):=by rw[hd];simp only[Fg];rw[if_pos h2]
   obtain⟨c1,-,-⟩:=Ay9 hS' [.row [.int .i64 0,.int .i64 0,.str [],.nils] 40 0 0] hA hp hq
   have ho:pp (k+1) (A.drop p)=some (⟨1,Gx (Aa A p).text,[],true,0,[]⟩,A.drop (p+1)):=by rw[hd,pp,if_pos h2]
   rw[ho]
   simp only[go_sem,hlen,get,get0,set,set0,n0,n1,n2,u0,u1,u2,LZ]
   refine Ab c1 ?_
   simp only[go_sem,hlen,get,get0,set,set0,n0,n1,n2,u0,u1,u2,LZ]
   exact Bs (v:=.tup [.agg _,.bool true]) (Bu (n0 _ _ _) rfl rfl rfl) (B5 rfl) hlt ⟨rfl,rfl⟩
  ·have hq:Fg (A.drop p)=none:=by rw[hd];simp only[Fg];rw[if_neg h2]
   have c1:=Aj4 hS' [.row [.int .i64 0,.int .i64 0,.str [],.nils] 40 0 0] hA hp hq
   by_cases h1:(Aa A p).kind=1
   ·have hn:B8 (A.drop p)=some ((Aa A p).text,A.drop (p+1)):=by rw[hd];simp only[B8];rw[if_pos h1]
    obtain⟨c2,-,-⟩:=Ya hS' [.row [.int .i64 0,.int .i64 0,.str [],.nils] 40 0 0] hl hp hn
    by_cases h91:Ak [91] (A.drop (p+1))=true
    ·have c3:=H2 hS' [.row [.int .i64 0,.int .i64 0,.str [],.nils] 40 0 0] hl h91
     have hlt2:=Db h91
     obtain⟨v,q,c4,hq2,h3⟩:=Lb hS' (l:=[.row [.int .i64 0,.int .i64 0,.str [],.nils] 40 0 0]) fun hs=>O0 (hE k (by omega)) (p:=p+1+1) hA hs (by omega) (by omega)
     have ho:pp (k+1) (A.drop p)=match pe k 1 (A.drop (p+1+1)) with
       | none=>none
       | some (x,r)=>if Ak [93] r then some (⟨3,0,(Aa A p).text,true,1,[x]⟩,r.tail) else none:=by
      rw[hd,pp,if_neg h2,if_pos h1,if_pos h91,<-Dd]
      rfl
     rw[ho]
     simp only[go_sem,hlen,get,get0,set,set0,n0,n1,n2,u0,u1,u2,LZ]
     refine Ab c1 ?_
     simp only[go_sem,hlen,get,get0,set,set0,n0,n1,n2,u0,u1,u2,LZ]
     refine Ab c2 ?_
     simp only[go_sem,hlen,get,get0,set,set0,n0,n1,n2,u0,u1,u2,LZ]
     refine Ab c3 ?_
     simp only[go_sem,hlen,get,get0,set,set0,n0,n1,n2,u0,u1,u2,LZ]
     unfold PR at h3
     split at h3
     ·rename_i x r hx
      obtain⟨rfl,h3⟩:=h3
      have hxs:=Dn x
      have hr:=Au x
      rw[hr]at c4 hxs
      rw[hx]
      simp only
      refine Ab c4 ?_
      by_cases h93:Ak [93] r=true
      ·rw[<-h3]at h93
       have c5:=H2 hS' [.row [.int .i64 0,.int .i64 0,.str [],.nils] 40 0 0,.row [.int .i64 x.op,.int .i64 x.n,.str x.nm,SL x.z x.t (x.l.map Xp.row)] 40 0 0] hl h93
       rw[<-h3,if_pos h93]
       simp only[go_sem,hlen,get,get0,set,set0,n0,n1,n2,u0,u1,u2,LZ]
       refine Ab c5 ?_
       simp only[go_sem,hlen,get,get0,set,set0,n0,n1,n2,u0,u1,u2,LZ]
       exact Bs (v:=.tup [.agg _,.bool true]) (Bu (n0 _ _ _) rfl rfl rfl) (B5 (by simp only[go_sem])) (Db h93) ⟨by rw[Au ⟨3,0,_,_,_,_⟩];simp only[Ao,Be,hr];rfl,Dd⟩
      ·have h93:Ak [93] (A.drop q)=false:=by rw[h3];simpa using h93
       have c5:=G8 hS' [.row [.int .i64 0,.int .i64 0,.str [],.nils] 40 0 0,.row [.int .i64 x.op,.int .i64 x.n,.str x.nm,SL x.z x.t (x.l.map Xp.row)] 40 0 0] hl hq2 h93
       rw[<-h3,if_neg (by rw[h93];decide)]
       simp only[go_sem,hlen,get,get0,set,set0,n0,n1,n2,u0,u1,u2,LZ]
       refine Ab c5 ?_
       simp only[go_sem,hlen,get,get0,set,set0,n0,n1,n2,u0,u1,u2,LZ]
       exact Bs (v:=.tup [.agg _,.bool false]) (Bu (n0 _ _ _) rfl rfl rfl) (B5 rfl) hq2 rfl
     ·rename_i hx
      subst h3
      rw[hx]
      simp only
      refine Ab c4 ?_
      simp only[go_sem,hlen,get,get0,set,set0,n0,n1,n2,u0,u1,u2,LZ]
      exact Bs (v:=.tup [.agg _,.bool false]) (Bu (n0 _ _ _) rfl rfl rfl) (B5 rfl) hq2 rfl
    ·have h91:Ak [91] (A.drop (p+1))=false:=by simpa using h91
     have c3:=G8 hS' [.row [.int .i64 0,.int .i64 0,.str [],.nils] 40 0 0] hl (F4 hlt) h91
     have ho:pp (k+1) (A.drop p)=some (⟨2,0,(Aa A p).text,true,0,[]⟩,A.drop (p+1)):=by rw[hd,pp,if_neg h2,if_pos h1,if_neg (by rw[h91];decide)]
     rw[ho]
     simp only[go_sem,hlen,get,get0,set,set0,n0,n1,n2,u0,u1,u2,LZ]
     refine Ab c1 ?_
     simp only[go_sem,hlen,get,get0,set,set0,n0,n1,n2,u0,u1,u2,LZ]
     refine Ab c2 ?_
     simp only[go_sem,hlen,get,get0,set,set0,n0,n1,n2,u0,u1,u2,LZ]
     refine Ab c3 ?_
     simp only[go_sem,hlen,get,get0,set,set0,n0,n1,n2,u0,u1,u2,LZ]
     exact Bs (v:=.tup [.agg _,.bool true]) (Bu (n0 _ _ _) rfl rfl rfl) (B5 rfl) hlt ⟨rfl,rfl⟩
   ·have hn:B8 (A.drop p)=none:=by rw[hd];simp only[B8];rw[if_neg h1]
    have c2:=Uy hS' [.row [.int .i64 0,.int .i64 0,.str [],.nils] 40 0 0] hl hp hn
    by_cases h40:Ak [40] (A.drop p)=true
    ·have c3:=H2 hS' [.row [.int .i64 0,.int .i64 0,.str [],.nils] 40 0 0] hl h40
     obtain⟨v,q,c4,hq2,h3⟩:=Lb hS' (l:=[.row [.int .i64 0,.int .i64 0,.str [],.nils] 40 0 0]) fun hs=>O0 (hE k (by omega)) (p:=p+1) hA hs (by omega) (by omega)
     have ho:pp (k+1) (A.drop p)=match pe k 1 (A.drop (p+1)) with
       | none=>none
       | some (x,r)=>if Ak [41] r then some (x,r.tail) else none:=by
      rw[hd]at h40 ⊢
      rw[pp,if_neg h2,if_neg h1,if_pos h40]
      rfl
     rw[ho]
     simp only[go_sem,hlen,get,get0,set,set0,n0,n1,n2,u0,u1,u2,LZ]
     refine Ab c1 ?_
     simp only[go_sem,hlen,get,get0,set,set0,n0,n1,n2,u0,u1,u2,LZ]
     refine Ab c2 ?_
     simp only[go_sem,hlen,get,get0,set,set0,n0,n1,n2,u0,u1,u2,LZ]
     refine Ab c3 ?_
     simp only[go_sem,hlen,get,get0,set,set0,n0,n1,n2,u0,u1,u2,LZ]
     unfold PR at h3
     split at h3
     ·rename_i x r hx
      obtain⟨rfl,h3⟩:=h3
      have hxs:=Dn x
      have hr:=Au x
      rw[hr]at c4 hxs
      rw[hx]
      simp only
      refine Ab c4 ?_
      by_cases h93:Ak [41] r=true
      ·rw[<-h3]at h93
       have c5:=H2 hS' [.row [.int .i64 0,.int .i64 0,.str [],.nils] 40 0 0,.row [.int .i64 x.op,.int .i64 x.n,.str x.nm,SL x.z x.t (x.l.map Xp.row)] 40 0 0] hl h93
       rw[<-h3,if_pos h93]
       simp only[go_sem,hlen,get,get0,set,set0,n0,n1,n2,u0,u1,u2,LZ]
       refine Ab c5 ?_
       simp only[go_sem,hlen,get,get0,set,set0,n0,n1,n2,u0,u1,u2,LZ]
       exact Bs (v:=.tup [.agg _,.bool true]) (Bu (n0 _ _ _) rfl rfl rfl) (B5 hxs) (Db h93) ⟨by rw[hr],Dd⟩
      ·have h93:Ak [41] (A.drop q)=false:=by rw[h3];simpa using h93
       have c5:=G8 hS' [.row [.int .i64 0,.int .i64 0,.str [],.nils] 40 0 0,.row [.int .i64 x.op,.int .i64 x.n,.str x.nm,SL x.z x.t (x.l.map Xp.row)] 40 0 0] hl hq2 h93
       rw[<-h3,if_neg (by rw[h93];decide)]
       simp only[go_sem,hlen,get,get0,set,set0,n0,n1,n2,u0,u1,u2,LZ]
       refine Ab c5 ?_
       simp only[go_sem,hlen,get,get0,set,set0,n0,n1,n2,u0,u1,u2,LZ]
       exact Bs (v:=.tup [.agg _,.bool false]) (Bu (n0 _ _ _) rfl rfl rfl) (B5 rfl) hq2 rfl
     ·rename_i hx
      subst h3
      rw[hx]
      simp only
      refine Ab c4 ?_
      simp only[go_sem,hlen,get,get0,set,set0,n0,n1,n2,u0,u1,u2,LZ]
      exact Bs (v:=.tup [.agg _,.bool false]) (Bu (n0 _ _ _) rfl rfl rfl) (B5 rfl) hq2 rfl
    ·have h40:Ak [40] (A.drop p)=false:=by simpa using h40
     have c3:=G8 hS' [.row [.int .i64 0,.int .i64 0,.str [],.nils] 40 0 0] hl hp h40
     have ho:pp (k+1) (A.drop p)=none:=by
      rw[hd]at h40 ⊢
      rw[pp,if_neg h2,if_neg h1,if_neg (by rw[h40];decide)]
     rw[ho]
     simp only[go_sem,hlen,get,get0,set,set0,n0,n1,n2,u0,u1,u2,LZ]
     refine Ab c1 ?_
     simp only[go_sem,hlen,get,get0,set,set0,n0,n1,n2,u0,u1,u2,LZ]
     refine Ab c2 ?_
     simp only[go_sem,hlen,get,get0,set,set0,n0,n1,n2,u0,u1,u2,LZ]
     refine Ab c3 ?_
     simp only[go_sem,hlen,get,get0,set,set0,n0,n1,n2,u0,u1,u2,LZ]
     exact Bs (v:=.tup [.agg _,.bool false]) (Bu (n0 _ _ _) rfl rfl rfl) (B5 rfl) hp rfl
 ·have hd:=(Hr hge).1
  have ho:pp n (A.drop p)=none:=by
   rw[hd]
   cases n<;>simp[pp]
  rw[ho]
  have c1:=Aj4 hS' [.row [.int .i64 0,.int .i64 0,.str [],.nils] 40 0 0] hA hp (by rw[hd];rfl)
  have c2:=Uy hS' [.row [.int .i64 0,.int .i64 0,.str [],.nils] 40 0 0] hl hp (by rw[hd];rfl)
  have c3:=G8 hS' [.row [.int .i64 0,.int .i64 0,.str [],.nils] 40 0 0] hl hp (w:=[40]) (by rw[hd];rfl)
  simp only[go_sem,hlen,get,get0,set,set0,n0,n1,n2,u0,u1,u2,LZ]
  refine Ab c1 ?_
  simp only[go_sem,hlen,get,get0,set,set0,n0,n1,n2,u0,u1,u2,LZ]
  refine Ab c2 ?_
  simp only[go_sem,hlen,get,get0,set,set0,n0,n1,n2,u0,u1,u2,LZ]
  refine Ab c3 ?_
  simp only[go_sem,hlen,get,get0,set,set0,n0,n1,n2,u0,u1,u2,LZ]
  exact Bs (v:=.tup [.agg _,.bool false]) (Bu (n0 _ _ _) rfl rfl rfl) (B5 rfl) hp rfl
theorem Ass{n:Nat}(hU:∀ k,k<n->PU k)(hP:∀ k,k<=n->PP k):PU n:=by
 intro s m z t A p hA hs hp hb
 refine Id T130 rfl hs fun S hS=>?_
 have hl:A.length<=1000000:=by have:=hA.len;omega
 have hS':=hS
 have hm:=hS.low
 obtain⟨-,-,hlen,get,get0,set,set0,n0,n1,n2,u0,u1,u2⟩:=hS
 have prim:∀ k,8*(A.length - p)<=k+1->k<=n->Ak [45] (A.drop p)=false->Ak [33] (A.drop p)=false->pu n (A.drop p)=pp k (A.drop p)->W TT PT [.c af130.body] (Cu 0 [.ptr m 0 0]) (S p) (Hd fun e' σ1=>∃ v p' l,By e' σ1 [.cell 2 4 false,.tmp 3]=some v/\(Cq v=true/\v.refs=[])/\σ1=S p'++l/\p'<=A.length/\PR A (pu n (A.drop p)) v p'):=by
  intro k hk hkn h4 h5 ho
  have c4n:=G8 hS' [.row [.int .i64 0,.int .i64 0,.str [],.nils] 40 0 0] hl hp h4
  have c5n:=G8 hS' [.row [.int .i64 0,.int .i64 0,.str [],.nils] 40 0 0] hl hp h5
  obtain⟨v,q,c4,hq2,h3⟩:=Lb hS' (l:=[.row [.int .i64 0,.int .i64 0,.str [],.nils] 40 0 0]) fun hs=>hP k hkn _ m z t A p hA hs hp hk
  rw[ho]
  unfold af130
  simp only[go_sem,hlen,get,get0,set,set0,n0,n1,n2,u0,u1,u2,LZ]
  refine Ab c4n ?_
  simp only[go_sem,hlen,get,get0,set,set0,n0,n1,n2,u0,u1,u2,LZ]
  refine Ab c5n ?_
  simp only[go_sem,hlen,get,get0,set,set0,n0,n1,n2,u0,u1,u2,LZ]
  unfold PR at h3 ⊢
  split at h3
  ·rename_i x r hx
   obtain⟨rfl,h3⟩:=h3
   have hxs:=Dn x
   have hr:=Au x
   rw[hr]at c4 hxs
   rw[hr]
   refine Ab c4 ?_
   simp only[go_sem,hlen,get,get0,set,set0,n0,n1,n2,u0,u1,u2,LZ]
   exact Bs (v:=.tup [.agg _,.bool true]) (Bu (n0 _ _ _) rfl rfl rfl) (B5 hxs) hq2 ⟨rfl,h3⟩
  ·rename_i hx
   subst h3
   refine Ab c4 ?_
   simp only[go_sem,hlen,get,get0,set,set0,n0,n1,n2,u0,u1,u2,LZ]
   exact Bs (v:=.tup [.agg _,.bool false]) (Bu (n0 _ _ _) rfl rfl rfl) (B5 rfl) hq2 rfl
 rcases n with _ | k
 ·have hd:=(Hr (A:=A) (p:=p) (by omega)).1
  refine prim 0 (by omega) (Af _) (by rw[hd];rfl) (by rw[hd];rfl) ?_
  rw[hd]
  simp[pu,pp]
 ·by_cases h4:Ak [45] (A.drop p)=true
  ·have hlt:=Db h4
   have cA:=H2 hS' [.row [.int .i64 0,.int .i64 0,.str [],.nils] 40 0 0] hl h4
   obtain⟨v,q,c4,hq2,h3⟩:=Lb hS' (l:=[.row [.int .i64 0,.int .i64 0,.str [],.nils] 40 0 0]) fun hs=>hU k (by omega) _ m z t A (p+1) hA hs (by omega) (by omega)
   have ho:pu (k+1) (A.drop p)=match pu k (A.drop (p+1)) with
     | none=>none
     | some (x,r)=>some (Jd 4 x,r):=by
    rw[pu,if_pos h4,<-Dd]
    rfl
   rw[ho]
   simp only[go_sem,hlen,get,get0,set,set0,n0,n1,n2,u0,u1,u2,LZ]
   refine Ab cA ?_
   simp only[go_sem,hlen,get,get0,set,set0,n0,n1,n2,u0,u1,u2,LZ]
   unfold PR at h3
   split at h3
   ·rename_i x r hx
    obtain⟨rfl,h3⟩:=h3
    have hxs:=Dn x
    have hr:=Au x
    rw[hr]at c4 hxs
    rw[hx]
    simp only
    refine Ab c4 ?_
    simp only[go_sem,hlen,get,get0,set,set0,n0,n1,n2,u0,u1,u2,LZ]
    exact Bs (v:=.tup [.agg _,.bool true]) (Bu (n0 _ _ _) rfl rfl rfl) (B5 (by simp only[go_sem])) hq2 ⟨by unfold Jd;rw[Au ⟨4,0,_,_,_,_⟩];simp only[Ao,Be,hr];rfl,h3⟩
   ·rename_i hx
    subst h3
    rw[hx]
    simp only
    refine Ab c4 ?_
    simp only[go_sem,hlen,get,get0,set,set0,n0,n1,n2,u0,u1,u2,LZ]
    exact Bs (v:=.tup [.agg _,.bool false]) (Bu (n0 _ _ _) rfl rfl rfl) (B5 rfl) hq2 rfl
  ·have h4:Ak [45] (A.drop p)=false:=by simpa using h4
   have c4n:=G8 hS' [.row [.int .i64 0,.int .i64 0,.str [],.nils] 40 0 0] hl hp h4
   by_cases h5:Ak [33] (A.drop p)=true
   ·have hlt:=Db h5
    have cA:=H2 hS' [.row [.int .i64 0,.int .i64 0,.str [],.nils] 40 0 0] hl h5
    obtain⟨v,q,c4,hq2,h3⟩:=Lb hS' (l:=[.row [.int .i64 0,.int .i64 0,.str [],.nils] 40 0 0]) fun hs=>hU k (by omega) _ m z t A (p+1) hA hs (by omega) (by omega)
    have ho:pu (k+1) (A.drop p)=match pu k (A.drop (p+1)) with
      | none=>none
      | some (x,r)=>some (Jd 5 x,r):=by
     rw[pu,if_neg (by rw[h4];decide),if_pos h5,<-Dd]
     rfl
    rw[ho]
    simp only[go_sem,hlen,get,get0,set,set0,n0,n1,n2,u0,u1,u2,LZ]
    refine Ab c4n ?_
    simp only[go_sem,hlen,get,get0,set,set0,n0,n1,n2,u0,u1,u2,LZ]
    refine Ab cA ?_
    simp only[go_sem,hlen,get,get0,set,set0,n0,n1,n2,u0,u1,u2,LZ]
    unfold PR at h3
    split at h3
    ·rename_i x r hx
     obtain⟨rfl,h3⟩:=h3
     have hxs:=Dn x
     have hr:=Au x
     rw[hr]at c4 hxs
     rw[hx]
     simp only
     refine Ab c4 ?_
     simp only[go_sem,hlen,get,get0,set,set0,n0,n1,n2,u0,u1,u2,LZ]
     exact Bs (v:=.tup [.agg _,.bool true]) (Bu (n0 _ _ _) rfl rfl rfl) (B5 (by simp only[go_sem])) hq2 ⟨by unfold Jd;rw[Au ⟨5,0,_,_,_,_⟩];simp only[Ao,Be,hr];rfl,h3⟩
    ·rename_i hx
     subst h3
     rw[hx]
     simp only
     refine Ab c4 ?_
     simp only[go_sem,hlen,get,get0,set,set0,n0,n1,n2,u0,u1,u2,LZ]
     exact Bs (v:=.tup [.agg _,.bool false]) (Bu (n0 _ _ _) rfl rfl rfl) (B5 rfl) hq2 rfl
   ·have h5:Ak [33] (A.drop p)=false:=by simpa using h5
    exact prim k hb (by omega) h4 h5 (by rw[pu,if_neg (by rw[h4];decide),if_neg (by rw[h5];decide)])
theorem Ast{n:Nat}(hE:∀ k,k<n->PE k)(hU:∀ k,k<n->PU k):PE n:=by
 intro lvl s m z t A p hA hs hp h1 h6 hb
 obtain⟨n,rfl⟩:∃ k,n=k+1:=⟨n - 1,by omega⟩
 refine Id T90 rfl hs fun S hS=>?_
 have hl:A.length<=1000000:=by have:=hA.len;omega
 have hS':=hS
 have hm:=hS.low
 obtain⟨-,-,hlen,get,get0,set,set0,n0,n1,n2,u0,u1,u2⟩:=hS
 by_cases h5:5<lvl
 ·have f5:((5:Int)<(lvl:Int))=True:=eq_true (by omega)
  have ho:pe (n+1) lvl (A.drop p)=pu n (A.drop p):=by rw[pe,if_pos h5]
  obtain⟨v,q,c4,hq2,h3⟩:=Lb hS' (l:=[.row [.int .i64 0,.int .i64 0,.str [],.nils] 40 0 0]) fun hs=>hU n (by omega) _ m z t A p hA hs hp (by omega)
  rw[ho]
  simp only[go_sem,hlen,get,get0,set,set0,n0,n1,n2,u0,u1,u2,LZ,gt_iff_lt,f5]
  unfold PR at h3 ⊢
  split at h3
  ·rename_i x r hx
   obtain⟨rfl,h3⟩:=h3
   have hxs:=Dn x
   have hr:=Au x
   rw[hr]at c4 hxs
   rw[hr]
   refine Ab c4 ?_
   simp only[go_sem,hlen,get,get0,set,set0,n0,n1,n2,u0,u1,u2,LZ]
   exact Bs (v:=.tup [.agg _,.bool true]) (Bu (n0 _ _ _) rfl rfl rfl) (B5 hxs) hq2 ⟨rfl,h3⟩
  ·rename_i hx
   subst h3
   refine Ab c4 ?_
   simp only[go_sem,hlen,get,get0,set,set0,n0,n1,n2,u0,u1,u2,LZ]
   exact Bs (v:=.tup [.agg _,.bool false]) (Bu (n0 _ _ _) rfl rfl rfl) (B5 rfl) hq2 rfl
 ·have f5:((5:Int)<(lvl:Int))=False:=eq_false (by omega)
  have hinc:=Cr (show lvl<9223372036854775807 by omega)
  obtain⟨v,q,c4,hq2,h3⟩:=Lb hS' (l:=[.row [.int .i64 0,.int .i64 0,.str [],.nils] 40 0 0]) fun hs=>hE n (by omega) (lvl+1) _ m z t A p hA hs hp (by omega) (by omega) (by omega)
  have ho:pe (n+1) lvl (A.drop p)=match pe n (lvl+1) (A.drop p) with
    | none=>none
    | some (x,r)=>lp n lvl x r:=by
   rw[pe,if_neg h5]
   rfl
  rw[ho]
  simp only[go_sem,hlen,get,get0,set,set0,n0,n1,n2,u0,u1,u2,LZ,gt_iff_lt,f5,hinc]
  unfold PR at h3
  split at h3
  rotate_left
  ·rename_i hx
   subst h3
   rw[hx]
   simp only
   refine Ab c4 ?_
   simp only[go_sem,hlen,get,get0,set,set0,n0,n1,n2,u0,u1,u2,LZ]
   exact Bs (v:=.tup [.agg _,.bool false]) (Bu (n0 _ _ _) rfl rfl rfl) (B5 rfl) hq2 rfl
  ·rename_i x r hx
   obtain⟨rfl,h3⟩:=h3
   have hxs:=Dn x
   have hr:=Au x
   rw[hr]at c4 hxs
   rw[hx]
   simp only
   have hlt:=(Rq n).1 _ _ _ _ hx
   rw[D5]at hlt
   have hrl:r.length=A.length - q:=by rw[<-h3,D5]
   refine Ab c4 ?_
   simp only[go_sem,hlen,get,get0,set,set0,n0,n1,n2,u0,u1,u2,LZ]
   refine En (α:=Nat × Nat × Xp × St) (fun a=>a.1) (fun a=>[(0,.ptr m 0 0),(1,.int .i64 (lvl:Int)),(4,.ptr s.length 0 0),(6,.ptr (s.length+1) 0 0)]) (fun a=>S a.2.1++.row [.int .i64 0,.int .i64 0,.str [],.nils] 40 0 0::.row [.int .i64 a.2.2.1.op,.int .i64 a.2.2.1.n,.str a.2.2.1.nm,SL a.2.2.1.z a.2.2.1.t (a.2.2.1.l.map Xp.row)] 40 0 0::a.2.2.2) (fun a=>a.1<=n/\a.2.1<=A.length/\lp a.1 lvl a.2.2.1 (A.drop a.2.1)=lp n lvl x r/\8*(A.length - a.2.1)+6<=a.1+lvl) ?_ (n,q,x,[]) ⟨Af _,hq2,by rw[h3],by simp only;omega⟩
   rintro⟨k,q,x,J⟩ ⟨hkn,hq,hlp,hbk⟩ ih
   simp only at hkn hq hlp hbk ih
   refine Eo (by delta lp90_0;exact rfl) ?_
   rw[<-hlp]
   obtain⟨k,rfl⟩:∃ j,k=j+1:=⟨k - 1,by omega⟩
   have hxs:=Dn x
   have hr:=Au x
   rw[hr]at hxs
   obtain⟨X,hX⟩:∃ X:List V,X=[.int .i64 x.op,.int .i64 x.n,.str x.nm,SL x.z x.t (x.l.map Xp.row)]:=⟨_,rfl⟩
   have co:=Asm (get q (.row [.int .i64 0,.int .i64 0,.str [],.nils] 40 0 0::.row [.int .i64 x.op,.int .i64 x.n,.str x.nm,SL x.z x.t (x.l.map Xp.row)] 40 0 0::J)) hl hq lvl
   have nJ:∀ (q:Nat) (a b c:Ob),(S q++a::b::(J++[c]))[s.length+(J.length+1+1)]?=some c:=fun q a b c=>by
    rw[B1 (by rw[hlen];omega),hlen,show s.length+(J.length+1+1) - s.length=J.length+1+1 by omega,Ie,Ie,B1 (Af _),Hm]
    rfl
   have uJ:∀ (q:Nat) (a b c d:Ob),(S q++a::b::(J++[c])).set (s.length+(J.length+1+1)) d=S q++a::b::(J++[d]):=fun q a b c d=>by
    rw[Ix _ _ (by rw[hlen];omega),hlen,show s.length+(J.length+1+1) - s.length=J.length+1+1 by omega,Yt,Yt,Ix _ _ (Af _),Hm]
    rfl
   by_cases h0:Fp lvl (A.drop q)=0
   ·have ho:lp (k+1) lvl x (A.drop q)=some (x,A.drop q):=by rw[lp,if_pos h0]
    rw[h0]at co
    rw[ho]
    simp only[go_sem,hlen,get,get0,set,set0,n0,n1,n2,u0,u1,u2,LZ]
    refine Ab co ?_
    simp only[go_sem,hlen,get,get0,set,set0,n0,n1,n2,u0,u1,u2,LZ,Int.reduceBEq]
    exact Bs (v:=.tup [.agg _,.bool true]) (Bu (n0 _ _ _) rfl rfl rfl) (B5 hxs) hq ⟨by rw[hr],rfl⟩
   ·have hqlt:q<A.length:=by
     rcases D7 q A.length with h | h
     ·exact h
     ·rw[(Hr h).1]at h0;exact absurd rfl h0
    have b0:(Fp lvl (A.drop q)==0)=false:=by simp[h0]
    have hinq:=Cr (show q<9223372036854775807 by omega)
    obtain⟨v,q2,c4,hq2,h3⟩:=Lb hS' (p:=q+1) (l:=.row [.int .i64 0,.int .i64 0,.str [],.nils] 40 0 0::.row [.int .i64 x.op,.int .i64 x.n,.str x.nm,SL x.z x.t (x.l.map Xp.row)] 40 0 0::J) fun hs=>hE k (by omega) (lvl+1) _ m z t A (q+1) hA hs hqlt (by omega) (by omega) (by omega)
    have ho:lp (k+1) lvl x (A.drop q)=match pe k (lvl+1) (A.drop (q+1)) with
      | none=>none
      | some (y,r)=>if lvl=3 then some (Gy (Fp lvl (A.drop q)) x y,r) else lp k lvl (Gy (Fp lvl (A.drop q)) x y) r:=by
     rw[lp,if_neg h0,<-Dd]
     rfl
    generalize Fp lvl (A.drop q)=op at co b0 ho
    simp only[go_sem,hlen,get,get0,set,set0,n0,n1,n2,u0,u1,u2,LZ]
    refine Ab co ?_
    simp only[go_sem,hlen,get,get0,set,set0,n0,n1,n2,u0,u1,u2,LZ,b0,hinq,hinc]
    unfold PR at h3
    split at h3
    ·rename_i y r2 hy
     obtain⟨rfl,h3⟩:=h3
     have hys:=Dn y
     have hyr:=Au y
     rw[hyr]at c4 hys
     rw[hy]at ho
     simp only at ho
     have hlt2:=(Rq k).1 _ _ _ _ hy
     rw[D5]at hlt2
     have hrl2:r2.length=A.length - q2:=by rw[<-h3,D5]
     refine Ab c4 ?_
     have hbr:Xp.row (Gy op x y)=[.int .i64 op,.int .i64 0,.str [],.lst 1 [[.int .i64 x.op,.int .i64 x.n,.str x.nm,SL x.z x.t (x.l.map Xp.row)],[.int .i64 y.op,.int .i64 y.n,.str y.nm,SL y.z y.t (y.l.map Xp.row)]]]:=by
      unfold Gy
      rw[Au ⟨op,0,_,_,_,_⟩]
      simp only[Ao,Be,hr,hyr]
      rfl
     have hbs:=Dn (Gy op x y)
     rw[hbr]at hbs
     by_cases hl3:lvl=3
     ·have b3:((lvl:Int)==3)=true:=by rw[hl3];rfl
      rw[if_pos hl3]at ho
      rw[ho]
      simp only[go_sem,hlen,get,get0,set,set0,n0,n1,n2,u0,u1,u2,LZ,nJ,uJ,b3]
      exact Bs (v:=.tup [.agg _,.bool true]) (Bu (n0 _ _ _) rfl rfl rfl) (B5 hbs) hq2 ⟨by rw[hbr],h3⟩
     ·have b3:((lvl:Int)==3)=false:=by rw[beq_eq_false_iff_ne];omega
      rw[if_neg hl3]at ho
      rw[ho]
      simp only[go_sem,hlen,get,get0,set,set0,n0,n1,n2,u0,u1,u2,LZ,nJ,uJ,b3]
      have:=ih (k,q2,Gy op x y,J++[.row [.int .i64 y.op,.int .i64 y.n,.str y.nm,SL y.z y.t (y.l.map Xp.row)] 40 0 0]) (by simp) ⟨by simp only;omega,hq2,by simp only;rw[h3,<-hlp,ho],by simp only;omega⟩
      have e:lp k lvl (Gy op x y) r2=_:=ho.symm.trans hlp
      rw[e]
      simp only[Gy,Ao,Be,hr,hyr]at this
      exact this
    ·rename_i hy
     subst h3
     rw[hy]at ho
     simp only at ho
     rw[ho]
     refine Ab c4 ?_
     simp only[go_sem,hlen,get,get0,set,set0,n0,n1,n2,u0,u1,u2,LZ,nJ,uJ]
     exact Bs (v:=.tup [.agg _,.bool false]) (Bu (n0 _ _ _) rfl rfl rfl) (B5 rfl) hq2 rfl
theorem Tb:∀ n,PE n/\PU n:=by
 intro n
 induction n using Nat.strongRecOn with
 | ind n ih=>
  exact⟨Ast (fun k hk=>(ih k hk).1) (fun k hk=>(ih k hk).2),Ass (fun k hk=>(ih k hk).2) (fun k hk=>Asr fun j hj=>(ih j (by omega)).1)⟩
end Go.Proofs.YtlehfgdhebapeaaGreatDoor.KM
