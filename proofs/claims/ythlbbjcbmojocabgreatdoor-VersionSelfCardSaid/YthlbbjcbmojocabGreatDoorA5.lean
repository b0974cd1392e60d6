/- THE PLAIN MACHINE, joined texts: Qa Qb Qc Qd Qe Qf Qg. -/
import Derived.Test.YthlbbjcbmojocabGreatDoorA4
set_option linter.all false
/- Walking by rewriting: what comes of code, as equations. -/
namespace Go.Proofs.YthlbbjcbmojocabGreatDoor.KM
open Go
variable {T:Nat->Option AF} {pr:Nat->Option (List V->Option V)}
def Bm{α:Sort _}{a b:α}(h:a=b):a=b:=h
/-! slots -/
def get_put:∀ (e:Env) (n m:Nat) (v:V),(Env.put e n v).get m=if n=m then v else Env.get e m
 | [],n,m,v=>by simp only[Env.put,Env.get]
 | (i,u)::r,n,m,v=>by
  simp only[Env.put]
  split
  .rename_i h;subst h;simp only[Env.get]
   split<;>rfl
  .rename_i h;simp only[Env.get,get_put r n m v]
   split
   .rename_i h2;subst h2;rw[if_neg (by omega)]
   .rfl
def Avg(e:Env)(n:Nat)(v:V):e.putO (some n) v=e.put n v:=Bm rfl
def Avh(e:Env)(v:V):e.putO none v=e:=Bm rfl
def A8k(e:Env)(n:Nat):Ac e (.t n)=e.get n:=rfl
def A8l(e:Env)(v:V):Ac e (.k v)=v:=rfl
def Axf(e:Env)(n m:Nat)(v:V):Env.get ((n,v)::e) m=if n=m then v else Env.get e m:=Bm rfl
/-! what an operation gives -/
inductive Rs where
 | val (v:V) (σ:St)
 | call (f:Nat) (args:List V)
 | fail
def r1(o:Option V)(σ:St):Rs:=
 match o with
 | some v=>.val v σ
 | none=>.fail
def r2(o:Option (V × St)):Rs:=
 match o with
 | some (v,σ)=>.val v σ
 | none=>.fail
def A01(v:V)(σ:St):r1 (some v) σ=.val v σ:=Bm rfl
def A02(σ:St):r1 none σ=.fail:=Bm rfl
def A03(v:V)(σ:St):r2 (some (v,σ))=.val v σ:=Bm rfl
def A04:r2 none=.fail:=Bm rfl
def O1(o:Option V)(σ:St):r2 (o.map fun v=>(v,σ))=r1 o σ:=by cases o<;>rfl
def Bc(op:AO)(e:Env)(σ:St):Rs:=
 match B7 e op with
 | some (f,args)=>.call f args
 | none=>r2 (Ae op e σ)
def Ahl(c a b:V):Option V:=
 match c with
 | .bool z=>some (if z=true then a else b)
 | _=>none
def Ash(t:Nat)(x:V)(σ:St):Option (V × St):=if x.cells.all V.cellB=true then some (.ptr σ.length 0 0,σ++[.row x.cells t 0 0]) else none
def mkV(t bytes:Nat)(z:List V)(x y:V)(σ:St):Option (V × St):=
 match x,y with
 | .int .i64 n,.int .i64 c=>if 0<=n/\n<=c/\c.toNat*bytes<=140737488355328 then some (.sl σ.length 0 0 n.toNat z.length true,σ++[.row (List.replicate n.toNat z).flatten t 0 0]) else none
 | _,_=>none
def Ny(m n:Nat)(σ:St)(cs:List V):Option (V × St):=(cs.mapM (Fk σ (Fw σ 9 (Am cs).eraseDups) 9)).map fun cs'=>(.lst 1 (E6 m n cs'),σ.freeze (Fw σ 9 (Am cs).eraseDups))
def Ac6(n:Nat)(x v:V)(σ:St):Option (V × St):=(Oy σ n x v).map fun σ'=>(.und,σ')
def Aih(x:V):Option V:=
 match x with
 | .imm r o=>some (.imm r o)
 | .ptr b g o=>some (.ptr b g o)
 | _=>none
def Aii(k:EqK)(qi:Bool)(x y:V):Option V:=(Mb k x y).map fun z=>.bool (z != qi)
def Aij(k:IntKind)(x:V):Option V:=
 match x with
 | .int _ n=>some (.int k (k.wrap n))
 | _=>none
def Aik(x:V):Option V:=
 match x with
 | .str l=>some (.str l)
 | _=>none
def Ail(x:V)(σ:St):Option V:=
 match x with
 | .sl i g off len m w=>match σ[i]? with
  | some (.row _ _ g' z)=>if g=g'/\z=0 then some (.sl i g off len m w) else none
  | _=>none
 | _=>none
def Asi(ty:Nat)(x:V)(σ:St):Option (V × St):=
 match x with
 | .str l=>some (.sl σ.length 0 0 l.length 1 true,σ++[.row (Be l).flatten ty 0 0])
 | _=>none
def Aim(x:V)(σ:St):Option V:=(Fy σ 1 x).bind fun xs=>(Lp xs).map fun l=>.str l
def Ahm(len m:Nat)(x:V)(lo hi:Option V):Option V:=
 match x with
 | .ptr i g off=>(Eb lo 0).bind fun a=>(Eb hi len).bind fun b=>if a<=b/\b<=len then some (.sl i g (off+a*m) (b - a) m false) else none
 | _=>none
def Ac7(off:Nat)(x:V):Option V:=
 match x with
 | .imm r o=>some (.imm r (o+off))
 | .ptr b g o=>some (.ptr b g (o+off))
 | _=>none
def Ain(off n:Nat)(one:Bool)(x:V):Option V:=
 match x with
 | .agg cs=>if off+n<=cs.length then Gl one ((cs.drop off).take n) else none
 | _=>none
def Pf(m:Nat)(x i:V):Option V:=
 match x with
 | .lst _ xs=>(I1 xs i).bind fun r=>if r.length=m then some (.imm r 0) else none
 | .sl j g off len m' _=>match i with
  | .int _ n=>if 0<=n/\n<len/\m=m' then some (.ptr j g (off+n.toNat*m)) else none
  | _=>none
 | _=>none
def Aio(len m:Nat)(x i:V):Option V:=
 match i with
 | .int _ n=>if 0<=n/\n<len then(match x with
  | .imm r o=>some (.imm r (o+n.toNat*m))
  | .ptr b g o=>some (.ptr b g (o+n.toNat*m))
  | _=>none) else none
 | _=>none
def Aip(x i:V):Option V:=
 match x with
 | .str l=>(I1 l i).map fun c=>.int .u8 (c.toNat:Int)
 | _=>none
def Aiq(len m:Nat)(one:Bool)(x i:V):Option V:=
 match i with
 | .int _ n=>if 0<=n/\n<len then(match x with
  | .agg cs=>if n.toNat*m+m<=cs.length then Gl one ((cs.drop (n.toNat*m)).take m) else none
  | _=>none) else none
 | _=>none
def Air(i:Nat)(x:V):Option V:=
 match x with
 | .tup vs=>vs[i]?
 | _=>none
def Ahn(x:V):Option V:=
 match x with
 | .str l=>some (.int .i64 (l.length:Int))
 | _=>none
def Pg(x:V):Option V:=
 match x with
 | .nils=>some (.int .i64 0)
 | .lst _ xs=>some (.int .i64 (xs.length:Int))
 | .sl _ _ _ len _ _=>some (.int .i64 (len:Int))
 | _=>none
def Ef(bytes:Nat)(m:Nat × Nat)(x y:V)(σ:St):Option (V × St):=(Fy σ m.1 y).bind fun ys=>J5 bytes m σ x ys
def Art(ty:Nat)(x y:V)(σ:St):Option (V × St):=
 match y with
 | .str l=>J5 1 (1,ty) σ x (Be l)
 | _=>none
def mxV(x y:V):Option V:=
 match x,y with
 | .int k a,.int k' b=>if k=k' then some (.int k (max a b)) else none
 | _,_=>none
def mnV(x y:V):Option V:=
 match x,y with
 | .int k a,.int k' b=>if k=k' then some (.int k (min a b)) else none
 | _,_=>none
def Ais(f:Nat)(a c:List V):Option V:=if(a.all V.cellB&&c.all V.cellB)=true then some (.fn f a c) else none
def Ait(z x k:V)(σ:St):Option V:=
 match x,k with
 | .mp i,.str s=>match σ[i]? with
  | some (.map kvs)=>some (match Mx s kvs 0 with
   | some (_,v)=>v
   | none=>z)
  | _=>none
 | _,_=>none
def Asj(x k v:V)(σ:St):Option (V × St):=
 match x,k with
 | .mp i,.str s=>match σ[i]? with
  | some (.map kvs)=>if v.flatB=true then some (.und,σ.set i (.map (match Mx s kvs 0 with
   | some (j,_)=>kvs.set j (s,v)
   | none=>kvs++[(s,v)]))) else none
  | _=>none
 | _,_=>none
section
variable {e:Env} {σ:St}
def A8m(x:S):Bc (.mov x) e σ=.val (Ac e x) σ:=Bm rfl
def A4u(c a b:S):Bc (.pick c a b) e σ=r1 (Ahl (Ac e c) (Ac e a) (Ac e b)) σ:=by
 simp only[Bc,B7,Ae,Ahl];cases Ac e c<;>rfl
def A8n(t:Nat)(z:List V):Bc (.new t z) e σ=.val (.ptr σ.length 0 0) (σ++[.row z t 0 0]):=Bm rfl
def A8o(t:Nat)(x:S):Bc (.box t x) e σ=r2 (Ash t (Ac e x) σ):=Bm rfl
def A05(z:List V)(ps:List (Nat × Nat × S)):Bc (.build z ps) e σ=r1 ((Hm z (ps.map fun p=>(p.1,p.2.1,Ac e p.2.2))).map fun cs=>.agg cs) σ:=by
 simp only[Bc,B7,Ae];cases Hm z (ps.map fun p=>(p.1,p.2.1,Ac e p.2.2))<;>rfl
def A4v(n:Nat)(z:List V)(ps:List (Nat × S)):Bc (.rows n z ps) e σ=r1 ((Hm (List.replicate n z).flatten (ps.map fun p=>(p.1*z.length,z.length,Ac e p.2))).bind fun cs=>if cs.all V.rowB=true then some (.lst 1 (E6 z.length n cs)) else none) σ:=by
 simp only[Bc,B7,Ae]
 cases Hm (List.replicate n z).flatten (ps.map fun p=>(p.1*z.length,z.length,Ac e p.2)) with
 | none=>rfl
 | some cs=>simp only[C7];split<;>rfl
def A4w(n:Nat)(z:List V)(ps:List (Nat × S)):Bc (.rowf n z ps) e σ=r2 ((Hm (List.replicate n z).flatten (ps.map fun p=>(p.1*z.length,z.length,Ac e p.2))).bind fun cs=>Ny z.length n σ cs):=Bm rfl
def A4x(t n:Nat)(z:List V)(ps:List (Nat × S)):Bc (.rowo t n z ps) e σ=r2 ((Hm (List.replicate n z).flatten (ps.map fun p=>(p.1*z.length,z.length,Ac e p.2))).map fun cs=>(.sl σ.length 0 0 n z.length true,σ++[.row cs t 0 0])):=Bm rfl
def Ba4(t bytes:Nat)(z:List V)(x y:S):Bc (.mk t bytes z x y) e σ=r2 (mkV t bytes z (Ac e x) (Ac e y) σ):=Bm rfl
def A4y(n:Nat)(one:Bool)(x:S):Bc (.load n one x) e σ=r1 (H9 σ n one (Ac e x)) σ:=O1 _ _
def A06(n:Nat)(x v:S):Bc (.store n x v) e σ=r2 (Ac6 n (Ac e x) (Ac e v) σ):=Bm rfl
def A8p(x:S):Bc (.chk x) e σ=r1 (Aih (Ac e x)) σ:=by
 simp only[Bc,B7,Ae,Aih];cases Ac e x<;>rfl
def A8q(o:BinOp)(x y:S):Bc (.bin o x y) e σ=r1 (Ys o (Ac e x) (Ac e y)) σ:=O1 _ _
def Ba5(k:EqK)(qi:Bool)(x y:S):Bc (.eq k qi x y) e σ=r1 (Aii k qi (Ac e x) (Ac e y)) σ:=by
 simp only[Bc,B7,Ae,Aii];cases Mb k (Ac e x) (Ac e y)<;>rfl
def Ba6(o:UnOp)(x:S):Bc (.un o x) e σ=r1 (unV o (Ac e x)) σ:=O1 _ _
def A8r(k:IntKind)(x:S):Bc (.cvi k x) e σ=r1 (Aij k (Ac e x)) σ:=by
 simp only[Bc,B7,Ae,Aij];cases Ac e x<;>rfl
def A8s(x:S):Bc (.cvs x) e σ=r1 (Aik (Ac e x)) σ:=by
 simp only[Bc,B7,Ae,Aik];cases Ac e x<;>rfl
def A8t(x:S):Bc (.cvl x) e σ=r1 (Ail (Ac e x) σ) σ:=by
 simp only[Bc,B7,Ae,Ail]
 cases Ac e x with
 | sl i g off len m w=>
  simp only
  cases σ[i]? with
  | none=>rfl
  | some ob=>
   cases ob with
   | row cs e g' z=>simp only;split<;>rfl
   | _=>rfl
 | _=>rfl
def A8u(ty:Nat)(x:S):Bc (.stb ty x) e σ=r2 (Asi ty (Ac e x) σ):=Bm rfl
def A8v(x:S):Bc (.bts x) e σ=r1 (Aim (Ac e x) σ) σ:=by
 simp only[Bc,B7,Ae,Aim]
 cases Fy σ 1 (Ac e x) with
 | none=>rfl
 | some xs=>simp only[C7];cases Lp xs<;>rfl
def A4z(x:S)(lo hi:Option S):Bc (.slcs x lo hi) e σ=r1 (Q6 (Ac e x) (lo.map (Ac e)) (hi.map (Ac e))) σ:=O1 _ _
def A8w(m:Nat)(x:S)(lo hi mx:Option S):Bc (.slc m x lo hi mx) e σ=r1 (Pd m (Ac e x) (lo.map (Ac e)) (hi.map (Ac e)) (mx.map (Ac e))) σ:=O1 _ _
def A8x(n:Nat)(x:S):Bc (.sap n x) e σ=r1 (Ac3 n (Ac e x)) σ:=O1 _ _
def A40(len m:Nat)(x:S)(lo hi:Option S):Bc (.slca len m x lo hi) e σ=r1 (Ahm len m (Ac e x) (lo.map (Ac e)) (hi.map (Ac e))) σ:=by
 simp only[Bc,B7,Ae,Ahm]
 cases Ac e x with
 | ptr i g off=>
  simp only
  cases Eb (lo.map (Ac e)) 0 with
  | none=>rfl
  | some a=>
   simp only[C7]
   cases Eb (hi.map (Ac e)) len with
   | none=>rfl
   | some b=>simp only[C7];split<;>rfl
 | _=>rfl
def A8y(off:Nat)(x:S):Bc (.fad off x) e σ=r1 (Ac7 off (Ac e x)) σ:=by
 simp only[Bc,B7,Ae,Ac7];cases Ac e x<;>rfl
def A8z(off n:Nat)(one:Bool)(x:S):Bc (.fld off n one x) e σ=r1 (Ain off n one (Ac e x)) σ:=by
 simp only[Bc,B7,Ae,Ain]
 cases Ac e x with
 | agg cs=>simp only;split;· exact O1 _ _
           .rfl
 | _=>rfl
def A80(m:Nat)(x i:S):Bc (.iad m x i) e σ=r1 (Pf m (Ac e x) (Ac e i)) σ:=by
 simp only[Bc,B7,Ae,Pf]
 cases Ac e x with
 | lst t xs=>
  simp only
  cases I1 xs (Ac e i) with
  | none=>rfl
  | some r=>simp only[C7];split<;>rfl
 | sl j g off len m' w=>
  simp only
  cases Ac e i with
  | int k n=>simp only;split<;>rfl
  | _=>rfl
 | _=>rfl
def A81(len m:Nat)(x i:S):Bc (.iar len m x i) e σ=r1 (Aio len m (Ac e x) (Ac e i)) σ:=by
 simp only[Bc,B7,Ae,Aio]
 cases Ac e i with
 | int k n=>simp only;split;· cases Ac e x<;>rfl
            .rfl
 | _=>rfl
def A82(x i:S):Bc (.idx x i) e σ=r1 (Aip (Ac e x) (Ac e i)) σ:=by
 simp only[Bc,B7,Ae,Aip]
 cases Ac e x with
 | str l=>simp only;cases I1 l (Ac e i)<;>rfl
 | _=>rfl
def A83(len m:Nat)(one:Bool)(x i:S):Bc (.ida len m one x i) e σ=r1 (Aiq len m one (Ac e x) (Ac e i)) σ:=by
 simp only[Bc,B7,Ae,Aiq]
 cases Ac e i with
 | int k n=>
  simp only
  split
  .cases Ac e x with
   | agg cs=>simp only;split;· exact O1 _ _
             .rfl
   | _=>rfl
  .rfl
 | _=>rfl
def A84(i:Nat)(x:S):Bc (.ext i x) e σ=r1 (Air i (Ac e x)) σ:=by
 simp only[Bc,B7,Ae,Air]
 cases Ac e x with
 | tup vs=>exact O1 _ _
 | _=>rfl
def A41(x:S):Bc (.lens x) e σ=r1 (Ahn (Ac e x)) σ:=by
 simp only[Bc,B7,Ae,Ahn];cases Ac e x<;>rfl
def A85(x:S):Bc (.len x) e σ=r1 (Pg (Ac e x)) σ:=by
 simp only[Bc,B7,Ae,Pg];cases Ac e x<;>rfl
def A86(bytes:Nat)(m:Nat × Nat)(x y:S):Bc (.app bytes m x y) e σ=r2 (Ef bytes m (Ac e x) (Ac e y) σ):=Bm rfl
def A42(ty:Nat)(x y:S):Bc (.apps ty x y) e σ=r2 (Art ty (Ac e x) (Ac e y) σ):=Bm rfl
def Ba7(x y:S):Bc (.mx x y) e σ=r1 (mxV (Ac e x) (Ac e y)) σ:=by
 simp only[Bc,B7,Ae,mxV]
 cases Ac e x with
 | int k a=>
  cases Ac e y with
  | int k' b=>simp only;split<;>rfl
  | _=>rfl
 | _=>rfl
def Ba8(x y:S):Bc (.mn x y) e σ=r1 (mnV (Ac e x) (Ac e y)) σ:=by
 simp only[Bc,B7,Ae,mnV]
 cases Ac e x with
 | int k a=>
  cases Ac e y with
  | int k' b=>simp only;split<;>rfl
  | _=>rfl
 | _=>rfl
def A87(f:Nat)(a c:List S):Bc (.mkf f a c) e σ=r1 (Ais f (a.map (Ac e)) (c.map (Ac e))) σ:=by
 simp only[Bc,B7,Ae,Ais];split<;>rfl
def A88:Bc .mmk e σ=.val (.mp σ.length) (σ++[.map []]):=Bm rfl
def A89(z:V)(x k:S):Bc (.mlk z x k) e σ=r1 (Ait z (Ac e x) (Ac e k) σ) σ:=by
 simp only[Bc,B7,Ae,Ait]
 cases Ac e x with
 | mp i=>
  cases Ac e k with
  | str s=>
   simp only
   cases σ[i]? with
   | none=>rfl
   | some ob=>cases ob<;>rfl
  | _=>rfl
 | _=>rfl
def A9a(x k v:S):Bc (.mup x k v) e σ=r2 (Asj (Ac e x) (Ac e k) (Ac e v) σ):=Bm rfl
def A43(f:Nat)(xs:List S):Bc (.call f xs) e σ=.call f (xs.map (Ac e)):=Bm rfl
def Aiu(x:V)(ys:List V):Rs:=
 match x with
 | .fn f a c=>.call f (a++ys++c)
 | _=>.fail
def A07(x:S)(xs:List S):Bc (.callv x xs) e σ=Aiu (Ac e x) (xs.map (Ac e)):=by
 simp only[Bc,B7,Aiu];cases Ac e x<;>rfl
end
variable {T:Nat->Option AF} {pr:Nat->Option (List V->Option V)}
def o(d:Nat)(op:AO):AI:=⟨some d,op,none⟩
def on(op:AO):AI:=⟨none,op,none⟩
def og(d:Nat)(op:AO)(t:Nat)(w:Bool):AI:=⟨some d,op,some (t,w)⟩
def oh(op:AO)(t:Nat)(w:Bool):AI:=⟨none,op,some (t,w)⟩
inductive CallS (T:Nat->Option AF) (pr:Nat->Option (List V->Option V)) (f:Nat) (args:List V) (σ:St):V->St->Prop
 | prim {s:List V->Option V} {vs:List V} {v:V}:pr f=some s->Dl σ args=some vs->s vs=some v->CallS T pr f args σ v (after σ args v)
 | pure {vs:List V} {v:V}:Dl σ args=some vs->Fn T pr f vs v->CallS T pr f args σ v (after σ args v)
 | own {σ0:St} {vs:List V} {v:V}:Dl σ args=some vs->FnO T pr f vs v σ0->CallS T pr f args σ (v.ren (·+σ.length)) (own σ args σ0)
 | any {v:V} {σ1:St}:Bt T pr f args σ v σ1->CallS T pr f args σ v σ1
 | thr {v:V} {σ1:St}:Th T pr f args σ v σ1->CallS T pr f args σ v σ1
 | spec {F:AF} {s:List V->St->Option (V × St)} {v:V} {σ1:St}:T f=some F->F.thr=true->F.spec=some s->s args σ=some (v,σ1)->CallS T pr f args σ v σ1
def CallS.sg{i:AI}{f:Nat}{args:List V}{e:Env}{σ σ1:St}{v:V}(h:CallS T pr f args σ v σ1)(hw:Ct e i=some true)(hc:B7 e i.op=some (f,args)):Sg T pr i e σ v σ1:=by
 cases h with
 | prim h1 h2 h3=>exact .prim hw hc h1 h2 h3
 | pure h1 h2=>exact .pure hw hc h1 h2
 | own hx h=>obtain⟨F,h1,h2,h3,h4⟩:=h;exact .own hw hc h1 h2 h3 hx h4
 | any h=>obtain⟨F,h1,h3,h4⟩:=h;exact .any hw hc h1 h3 h4
 | thr h=>obtain⟨F,h1,h2,h3,h4⟩:=h;exact .thr hw hc h1 h2 h3 h4
 | spec h1 h2 h3 h4=>exact .spec hw hc h1 h2 h3 h4
def WE(T:Nat->Option AF)(pr:Nat->Option (List V->Option V))(e:Env)(k:List It)(σ:St)(Q:Env->St->Prop):Prop:=W T pr k e σ Q
def WR(T:Nat->Option AF)(pr:Nat->Option (List V->Option V))(l:List AI)(kill:List Nat)(k:List It)(e:Env)(σ:St)(Q:Env->St->Prop):Prop:=WO T pr l e σ fun e1 σ1=>W T pr k (e1.del kill) σ1 Q
def WX(T:Nat->Option AF)(pr:Nat->Option (List V->Option V))(r:Rs)(d:Option Nat)(l:List AI)(kill:List Nat)(k:List It)(e:Env)(σ:St)(Q:Env->St->Prop):Prop:=
 match r with
 | .val v σ1=>WR T pr l kill k (e.putO d v) σ1 Q
 | .call f args=>∃ v σ1,CallS T pr f args σ v σ1/\WR T pr l kill k (e.putO d v) σ1 Q
 | .fail=>False
def WD(T:Nat->Option AF)(pr:Nat->Option (List V->Option V))(g:V)(w:Bool)(d:Option Nat)(op:AO)(l:List AI)(kill:List Nat)(k:List It)(e:Env)(σ:St)(Q:Env->St->Prop):Prop:=
 match g with
 | .bool b=>if b=w then WX T pr (Bc op e σ) d l kill k e σ Q else WR T pr l kill k (e.putO d .skp) σ Q
 | .skp=>WR T pr l kill k (e.putO d .skp) σ Q
 | _=>False
def WC(T:Nat->Option AF)(pr:Nat->Option (List V->Option V))(g:V)(kill:List Nat)(x y:AC)(k:List It)(e:Env)(σ:St)(Q:Env->St->Prop):Prop:=
 match g with
 | .bool true=>WE T pr (e.del kill) (.c x::k) σ Q
 | .bool false=>WE T pr (e.del kill) (.c y::k) σ Q
 | _=>False
def WJ(T:Nat->Option AF)(pr:Nat->Option (List V->Option V))(id:Nat):List It->Env->St->(Env->St->Prop)->Prop
 | [],_,_,_=>False
 | .b i::k,e,σ,Q=>if i=id then W T pr k e σ Q else WJ T pr id k e σ Q
 | .c _::k,e,σ,Q=>WJ T pr id k e σ Q
 | .l _ _::k,e,σ,Q=>WJ T pr id k e σ Q
def get_keep(e:Env)(n:Nat):∀ ks:List Nat,ks.elem n=true->(e.keep ks).get n=e.get n
 | [],h=>by cases h
 | m::ks,h=>by
  simp only[Env.keep,Env.get]
  split
  .rename_i h;rw[h]
  .rename_i hm;refine get_keep e n ks ?_;simp only[List.elem_eq_mem,Bi,decide_eq_true_eq]at h ⊢;exact h.resolve_left fun h=>hm h.symm
def Ami(e:Env)(ks:List Nat):∀ js:List Nat,(∀ n,js.elem n=true->ks.elem n=true)->(e.keep ks).keep js=e.keep js
 | [],_=>rfl
 | m::js,h=>by
  simp only[Env.keep];rw[get_keep e m ks (h m (by simp)),Ami e ks js fun n hn=>h n (by simp at hn ⊢;exact .inr hn)]
def Ak8(e:Env)(ks:List Nat):e.keep ks=(e.keep ks).keep ks:=(Ami e ks ks fun _ h=>h).symm
section
variable {Q:Env->St->Prop} {e:Env} {σ:St} {k:List It} {l:List AI} {kill:List Nat}
def Aho(a b:AC):W T pr (.c (.seq a b)::k) e σ Q=W T pr (.c a::.c b::k) e σ Q:=propext ⟨fun⟨e',σ',h,q⟩=>by cases h with | cSeq h=>exact⟨e',σ',h,q⟩,A76⟩
def A44:W T pr (.c .skip::k) e σ Q=W T pr k e σ Q:=propext ⟨fun⟨e',σ',h,q⟩=>by cases h with | cSkip h=>exact⟨e',σ',h,q⟩,A4b⟩
def Aru(id:Nat)(c:AC):W T pr (.c (.blk id c)::k) e σ Q=W T pr (.c c::.b id::k) e σ Q:=propext ⟨fun⟨e',σ',h,q⟩=>by cases h with | cBlk h=>exact⟨e',σ',h,q⟩,A77⟩
def A9b(id:Nat):W T pr (.b id::k) e σ Q=W T pr k e σ Q:=propext ⟨fun⟨e',σ',h,q⟩=>by cases h with | cEnd h=>exact⟨e',σ',h,q⟩,A78⟩
def A45(keep:List Nat)(c:AC):W T pr (.c (.loop keep c)::k) e σ Q=WE T pr (e.keep keep) (.l keep c::k) σ Q:=by
 refine propext ⟨fun⟨e',σ',h,q⟩=>?_,fun h=>A4c (Bg h ?_)⟩
 .cases h with
  | cLoop h=>exact Bg ⟨e',σ',h,q⟩ (Ak8 e keep).symm
 .exact(Ak8 e keep)
def A08(keep:List Nat)(c:AC):W T pr (.l keep c::k) e σ Q=WE T pr (e.keep keep) (.c c::.l keep c::k) σ Q:=propext ⟨fun⟨e',σ',h,q⟩=>by cases h with | cAgain h=>exact⟨e',σ',h,q⟩,A0p⟩
def A9c:W T pr (.c .ret::k) e σ Q=Q e σ:=propext ⟨fun⟨e',σ',h,q⟩=>by cases h with | cRet=>exact q,A79⟩
def Arv:W T pr [] e σ Q=Q e σ:=propext ⟨fun⟨e',σ',h,q⟩=>by cases h with | cNil=>exact q,A8a⟩
def A9d(ops:List AI):W T pr (.c (.reg kill ops)::k) e σ Q=WR T pr ops kill k e σ Q:=propext ⟨fun⟨e',σ',h,q⟩=>by cases h with | cReg h h2=>exact⟨_,_,h,e',σ',h2,q⟩,fun⟨_,_,h,e',σ',h2,q⟩=>⟨e',σ',.cReg h h2,q⟩⟩
def A46(c:S)(x y:AC):W T pr (.c (.cond c kill x y)::k) e σ Q=WC T pr (Ac e c) kill x y k e σ Q:=by
 refine propext ⟨fun⟨e',σ',h,q⟩=>?_,fun h=>?_⟩
 .cases h with
  | cCond hc h=>
   rw[hc];rename_i z;cases z
   .exact⟨e',σ',h,q⟩
   .exact⟨e',σ',h,q⟩
 .unfold WC at h
  split at h
  .rename_i hc;exact Axb hc h
  .rename_i hc;exact Axc hc h
  .exact h.elim
def Yj(id:Nat):∀ k':List It,WJ T pr id k' e σ Q↔∃ k2,exitTo id k'=some k2/\W T pr k2 e σ Q
 | []=>by simp[WJ,exitTo]
 | .b i::k'=>by
  simp only[WJ,exitTo]
  split
  .simp
  .exact Yj id k'
 | .c _::k'=>by simp only[WJ,exitTo];exact Yj id k'
 | .l _ _::k'=>by simp only[WJ,exitTo];exact Yj id k'
def A47(id:Nat):W T pr (.c (.exit id)::k) e σ Q=WJ T pr id k e σ Q:=propext ⟨fun⟨e',σ',h,q⟩=>by cases h with | cExit hk h=>exact(Yj id k).2 ⟨_,hk,e',σ',h,q⟩,fun h=>let ⟨_,h1,h2⟩:=(Yj id k).1 h;A4d h1 h2⟩
def Ba9(id i:Nat):WJ T pr id (.b i::k) e σ Q=if i=id then W T pr k e σ Q else WJ T pr id k e σ Q:=Bm rfl
def Bba(id:Nat)(c:AC):WJ T pr id (.c c::k) e σ Q=WJ T pr id k e σ Q:=Bm rfl
def Bbb(id:Nat)(kp:List Nat)(c:AC):WJ T pr id (.l kp c::k) e σ Q=WJ T pr id k e σ Q:=Bm rfl
def we:WE T pr e k σ Q=W T pr k e σ Q:=Bm rfl
def A48:WR T pr [] kill k e σ Q=WE T pr (e.del kill) k σ Q:=propext ⟨fun⟨_,_,h,q⟩=>by cases h with | opsNil=>exact q,fun h=>⟨_,_,.opsNil,h⟩⟩
def A49(v:V)(σ1:St)(d:Option Nat):WX T pr (.val v σ1) d l kill k e σ Q=WR T pr l kill k (e.putO d v) σ1 Q:=Bm rfl
def A09(d:Option Nat):WX T pr .fail d l kill k e σ Q=False:=Bm rfl
def Nn{f:Nat}{args:List V}{d:Option Nat}{v:V}{σ1:St}(hc:CallS T pr f args σ v σ1)(h:WR T pr l kill k (e.putO d v) σ1 Q):WX T pr (.call f args) d l kill k e σ Q:=⟨v,σ1,hc,h⟩
def Atp{op:AO}{r:V × St}(h:Ae op e σ=some r):B7 e op=none:=by
 cases op with
 | call f xs=>cases h
 | callv x xs=>cases h
 | _=>rfl
def Ahp{i:AI}(hw:Ct e i=some true):WR T pr (i::l) kill k e σ Q=WX T pr (Bc i.op e σ) i.dst l kill k e σ Q:=by
 refine propext ⟨fun⟨e',σ',h,q⟩=>?_,fun h=>?_⟩
 .cases h with
  | opsSkip hw' _=>rw[hw]at hw';cases hw'
  | opsVal _ hv h=>
   unfold Bc;rw[Atp hv,hv];exact⟨_,_,h,q⟩
  | opsPrim _ hc h1 h2 h3 h=>
   unfold Bc;rw[hc];exact⟨_,_,.prim h1 h2 h3,_,_,h,q⟩
  | opsPure _ hc h1 h2 h3 h4 h5 h6 h=>
   unfold Bc;rw[hc];exact⟨_,_,.pure h4 ⟨_,h1,h2,h3,_,_,h5,h6⟩,_,_,h,q⟩
  | opsOwn _ hc h1 h2 h3 hx h4 h=>
   unfold Bc;rw[hc];exact⟨_,_,.own hx ⟨_,h1,h2,h3,h4⟩,_,_,h,q⟩
  | opsAny _ hc h1 h3 h4 h=>
   unfold Bc;rw[hc];exact⟨_,_,.any ⟨_,h1,h3,h4⟩,_,_,h,q⟩
  | opsThr _ hc h1 h2 h3 h4 h=>
   unfold Bc;rw[hc];exact⟨_,_,.thr ⟨_,h1,h2,h3,h4⟩,_,_,h,q⟩
  | opsSpec _ hc h1 h2 h3 h4 h=>
   unfold Bc;rw[hc];exact⟨_,_,.spec h1 h2 h3 h4,_,_,h,q⟩
 .unfold Bc at h
  split at h
  .rename_i f args hc;obtain⟨v,σ1,hs,e',σ',h,q⟩:=h;exact⟨e',σ',(hs.sg hw hc).ev h,q⟩
  .cases hv:Ae i.op e σ with
   | none=>rw[hv]at h;exact h.elim
   | some p=>
    obtain⟨v,σ1⟩:=p;rw[hv]at h;obtain⟨e',σ',h,q⟩:=h;exact⟨e',σ',.opsVal hw hv h,q⟩
def Bbc(d:Nat)(op:AO):WR T pr (o d op::l) kill k e σ Q=WX T pr (Bc op e σ) (some d) l kill k e σ Q:=Ahp (i:=o d op) rfl
def A9e(op:AO):WR T pr (on op::l) kill k e σ Q=WX T pr (Bc op e σ) none l kill k e σ Q:=Ahp (i:=on op) rfl
def Aol{i:AI}(hw:Ct e i=some false):WR T pr (i::l) kill k e σ Q=WR T pr l kill k (e.putO i.dst .skp) σ Q:=by
 refine propext ⟨fun⟨e',σ',h,q⟩=>?_,fun⟨e',σ',h,q⟩=>⟨e',σ',.opsSkip hw h,q⟩⟩
 cases h with
 | opsSkip _ h=>exact⟨_,_,h,q⟩
 | opsVal hw'=>rw[hw]at hw';cases hw'
 | opsPrim hw'=>rw[hw]at hw';cases hw'
 | opsPure hw'=>rw[hw]at hw';cases hw'
 | opsOwn hw'=>rw[hw]at hw';cases hw'
 | opsAny hw'=>rw[hw]at hw';cases hw'
 | opsThr hw'=>rw[hw]at hw';cases hw'
 | opsSpec hw'=>rw[hw]at hw';cases hw'
def Ask{i:AI}{t:Nat}{w:Bool}(hg:i.g=some (t,w)):WR T pr (i::l) kill k e σ Q=WD T pr (e.get t) w i.dst i.op l kill k e σ Q:=by
 unfold WD
 have hd:Ct e i=(match e.get t with
  | .bool b=>some (b==w)
  | .skp=>some false
  | _=>none):=by unfold Ct;rw[hg];rfl
 have no:Ct e i=none->WR T pr (i::l) kill k e σ Q=False:=by
  intro hn;refine propext ⟨?_,False.elim⟩;rintro⟨e',σ',h,q⟩
  cases h with
  | opsSkip hw'=>rw[hn]at hw';cases hw'
  | opsVal hw'=>rw[hn]at hw';cases hw'
  | opsPrim hw'=>rw[hn]at hw';cases hw'
  | opsPure hw'=>rw[hn]at hw';cases hw'
  | opsOwn hw'=>rw[hn]at hw';cases hw'
  | opsAny hw'=>rw[hn]at hw';cases hw'
  | opsThr hw'=>rw[hn]at hw';cases hw'
  | opsSpec hw'=>rw[hn]at hw';cases hw'
 split
 .rename_i b hb;rw[hb]at hd;simp only at hd
  split
  .rename_i qd;subst qd;exact Ahp (by rw[hd];simp)
  .rename_i qd;exact Aol (by rw[hd];simp[qd])
 .rename_i hb;rw[hb]at hd;exact Aol hd
 .rename_i h1 h2;refine no ?_;rw[hd]
  split
  .rename_i b hb;exact absurd hb (h1 b)
  .rename_i hb;exact absurd hb h2
  .rfl
def A9f(d:Nat)(op:AO)(t:Nat)(w:Bool):WR T pr (og d op t w::l) kill k e σ Q=WD T pr (e.get t) w (some d) op l kill k e σ Q:=Ask (i:=og d op t w) rfl
def A9g(op:AO)(t:Nat)(w:Bool):WR T pr (oh op t w::l) kill k e σ Q=WD T pr (e.get t) w none op l kill k e σ Q:=Ask (i:=oh op t w) rfl
def A5a(w:Bool)(d:Option Nat)(op:AO):WD T pr .skp w d op l kill k e σ Q=WR T pr l kill k (e.putO d .skp) σ Q:=Bm rfl
def A1a(x y:AC):WC T pr (.bool true) kill x y k e σ Q=WE T pr (e.del kill) (.c x::k) σ Q:=Bm rfl
def Axg(x y:AC):WC T pr (.bool false) kill x y k e σ Q=WE T pr (e.del kill) (.c y::k) σ Q:=Bm rfl
def Arw{b:Bool}{x y:AC}(h1:b=true->WE T pr (e.del kill) (.c x::k) σ Q)(h2:b=false->WE T pr (e.del kill) (.c y::k) σ Q):WC T pr (.bool b) kill x y k e σ Q:=by
 cases b
 .exact h2 rfl
 .exact h1 rfl
end
/-! only the first part is looked at while it is reckoned -/
section
variable {Q:Env->St->Prop} {e e':Env} {σ σ':St} {k:List It} {l:List AI} {kill:List Nat}
@[congr] theorem Bcs (h:e=e'):W T pr k e σ Q=W T pr k e' σ Q:=by rw[h]
@[congr] theorem Bcm (h:e=e'):WE T pr e k σ Q=WE T pr e' k σ Q:=by rw[h]
@[congr] theorem Bcn (h:e=e'):WR T pr l kill k e σ Q=WR T pr l kill k e' σ Q:=by rw[h]
@[congr] theorem Bco {r r':Rs} {d:Option Nat} (h:r=r'):WX T pr r d l kill k e σ Q=WX T pr r' d l kill k e σ Q:=by rw[h]
@[congr] theorem Bcp {g g':V} {w:Bool} {d:Option Nat} {op:AO} (h:g=g'):WD T pr g w d op l kill k e σ Q=WD T pr g' w d op l kill k e σ Q:=by rw[h]
@[congr] theorem Bcq {g g':V} {x y:AC} (h:g=g'):WC T pr g kill x y k e σ Q=WC T pr g' kill x y k e σ Q:=by rw[h]
end
variable {T:Nat->Option AF} {pr:Nat->Option (List V->Option V)}
inductive Kd where
 | pu | rd | ef
def kd:AO->Kd
 | .new _ _ | .box _ _ | .store _ _ _ | .app _ _ _ _ | .apps _ _ _ | .rowf _ _ _ | .rowo _ _ _ _ | .mk _ _ _ _ _ | .stb _ _ | .mmk | .mup _ _ _ | .call _ _ | .callv _ _=>.ef
 | .load _ _ _ | .mlk _ _ _ | .bts _ | .cvl _=>.rd
 | _=>.pu
def A9h{op:AO}(h:kd op=.pu):Fm T pr op=0:=by
 cases op<;>simp[kd]at h<;>simp[Fm]
def A9i{op:AO}(h:kd op=.rd){e:Env}{σ σ1:St}{v:V}(hv:Ae op e σ=some (v,σ1)):σ1=σ:=by
 cases op with
 | load n one x=>
  simp only[Ae,Bo]at hv;obtain⟨_,_,h⟩:=hv;cases h;rfl
 | mlk z x k=>
  simp only[Ae]at hv
  split at hv
  .split at hv
   .cases hv;rfl
   .cases hv
  .cases hv
 | bts x=>
  simp only[Ae,D7,Bo]at hv;obtain⟨_,_,_,_,h⟩:=hv;cases h;rfl
 | cvl x=>
  simp only[Ae]at hv
  split at hv
  .split at hv
   .split at hv
    .cases hv;rfl
    .cases hv
   .cases hv
  .cases hv
 | _=>simp[kd]at h
def CallP(T:Nat->Option AF)(pr:Nat->Option (List V->Option V))(f:Nat)(vs:List V)(v:V):Prop:=(∃ s,pr f=some s/\s vs=some v)\/Fn T pr f vs v
def CallP.sg{i:AI}{f:Nat}{args vs:List V}{e:Env}{σ:St}{v:V}(h:CallP T pr f vs v)(hw:Ct e i=some true)(hc:B7 e i.op=some (f,args))(hx:Dl σ args=some vs):Sg T pr i e σ v (after σ args v):=by
 rcases h with⟨s,h1,h2⟩ | h
 .exact .prim hw hc h1 hx h2
 .exact .pure hw hc hx h
def J8(qa:List (List Nat))(n m:Nat)(i:AI)(z:Kd)(v:V)(σ1:St)(e:Env)(σ:St)(fs:Fs)(ls:Ls)(K:Env->St->Fs->Ls->Prop):Prop:=
 match z with
 | .pu=>K (e.putO i.dst v) σ fs ls
 | .rd=>Vz qa n m (fun s=>Ae i.op e s=some (v,s)) fs/\K (e.putO i.dst v) σ fs ((m,fun s=>Ae i.op e s=some (v,s))::ls)
 | .ef=>N8 qa n m fs/\N9 qa n m σ σ1 ls/\K (e.putO i.dst v) σ1 ((m,σ,σ1)::fs) ls
def Gx(T:Nat->Option AF)(pr:Nat->Option (List V->Option V))(qa:List (List Nat))(n m:Nat)(i:AI)(r:Rs)(e:Env)(σ:St)(fs:Fs)(ls:Ls)(K:Env->St->Fs->Ls->Prop):Prop:=
 match r with
 | .val v σ1=>J8 qa n m i (kd i.op) v σ1 e σ fs ls K
 | .call f args=>(∃ v vs,Am args=[]/\Dl σ args=some vs/\CallP T pr f vs v/\K (e.putO i.dst v) σ fs ls) \/
   (∃ v vs,Dl σ args=some vs/\CallP T pr f vs v/\v.flatV=true/\Vz qa n m (fun s=>Dl s args=some vs) fs/\K (e.putO i.dst v) σ fs ((m,fun s=>Dl s args=some vs)::ls)) \/
   (∃ v σ1,CallS T pr f args σ v σ1/\N8 qa n m fs/\N9 qa n m σ σ1 ls/\K (e.putO i.dst v) σ1 ((m,σ,σ1)::fs) ls)
 | .fail=>False
def I3(T:Nat->Option AF)(pr:Nat->Option (List V->Option V))(qa:List (List Nat))(n m:Nat)(i:AI)(g:Option V)(w:Bool)(e:Env)(σ:St)(fs:Fs)(ls:Ls)(K:Env->St->Fs->Ls->Prop):Prop:=
 match g with
 | none=>Gx T pr qa n m i (Bc i.op e σ) e σ fs ls K
 | some (.bool b)=>if b=w then Gx T pr qa n m i (Bc i.op e σ) e σ fs ls K else K (e.putO i.dst .skp) σ fs ls
 | some .skp=>K (e.putO i.dst .skp) σ fs ls
 | some _=>False
def wg(T:Nat->Option AF)(pr:Nat->Option (List V->Option V))(qa:List (List Nat))(n:Nat)(kill:List Nat)(k:List It)(Q:Env->St->Prop):Nat->List AI->Env->St->Fs->Ls->Prop
 | _,[],e,σ,_,_=>WE T pr (e.del kill) k σ Q
 | m,i::l,e,σ,fs,ls=>I3 T pr qa n m i (i.g.map fun p=>e.get p.1) ((i.g.map fun p=>p.2).getD true) e σ fs ls (wg T pr qa n kill k Q (m+1) l)
section
variable {Q:Env->St->Prop} {e:Env} {σ:St} {k:List It} {kill:List Nat} {qa:List (List Nat)} {n:Nat}
def Aqd{m:Nat}{i:AI}{l:List AI}{fs:Fs}{ls:Ls}{K:Env->St->Prop}{P:Env->St->Fs->Ls->Prop}(hP:∀ e σ fs ls,P e σ fs ls->WG T pr qa n (m+1) l e σ fs ls K)
  (hw:Ct e i=some true) (h:Gx T pr qa n m i (Bc i.op e σ) e σ fs ls P):WG T pr qa n m (i::l) e σ fs ls K:=by
 unfold Bc at h
 split at h
 .rename_i f args hc;rcases h with⟨v,vs,h1,h2,h3,h4⟩ | ⟨v,vs,h1,h2,h3,h4,h5⟩ | ⟨v,σ1,h1,h2,h3,h4⟩
  .refine Aby (fun s=>?_) (hP _ _ _ _ h4);have:=h3.sg (σ:=s) hw hc ((Aau h1 s).trans h2);rw[Ty h1]at this;exact this
  .obtain⟨e',σ',h,q⟩:=hP _ _ _ _ h5;refine⟨e',σ',.read (fun s=>Dl s args=some vs) h1 (fun s hs=>?_) (Afx h4) h,q⟩;have:=h2.sg (σ:=s) hw hc hs;unfold after at this;rw[if_pos h3]at this;exact this
  .exact Aqc (h1.sg hw hc) h2 h3 (hP _ _ _ _ h4)
 .cases hv:Ae i.op e σ with
  | none=>rw[hv]at h;exact h.elim
  | some p=>
   obtain⟨v,σ1⟩:=p;rw[hv]at h;simp only[r2,Gx]at h;unfold J8 at h
   split at h
   .rename_i hk;obtain⟨rfl,qf⟩:=Z3 (A9h (T:=T) (pr:=pr) hk) hv;exact A4g hw qf (hP _ _ _ _ h)
   .rename_i hk;obtain rfl:=A9i hk hv;exact A8d hw hv h.1 (hP _ _ _ _ h.2)
   .exact A4h hw hv h.1 h.2.1 (hP _ _ _ _ h.2.2)
def Sj:∀ (l:List AI) (m:Nat) (e:Env) (σ:St) (fs:Fs) (ls:Ls),wg T pr qa n kill k Q m l e σ fs ls->WG T pr qa n m l e σ fs ls fun e1 σ1=>W T pr k (e1.del kill) σ1 Q
 | [],m,e,σ,fs,ls,h=>A4f h
 | i::l,m,e,σ,fs,ls,h=>by
  unfold wg at h;unfold I3 at h
  split at h
  .rename_i hg;refine Aqd (fun e σ fs ls=>Sj l (m+1) e σ fs ls) ?_ h;simp only[Option.map_eq_none_iff]at hg;unfold Ct;rw[hg]
  .rename_i b hg;obtain⟨p,hp,hb⟩:=Bo.1 hg
   split at h
   .rename_i qd;refine Aqd (fun e σ fs ls=>Sj l (m+1) e σ fs ls) ?_ h;unfold Ct;obtain⟨t,w⟩:=p;rw[hp]at qd ⊢;simp only at hb;simp only[hb];simp at qd;simp[qd]
   .rename_i qd;refine Aby (fun s=>.off ?_) (Sj l (m+1) _ _ _ _ h);unfold Ct;obtain⟨t,w⟩:=p;rw[hp]at qd ⊢;simp only at hb;simp only[hb];simp at qd;simp[qd]
  .rename_i hg;obtain⟨p,hp,hb⟩:=Bo.1 hg;refine Aby (fun s=>.off ?_) (Sj l (m+1) _ _ _ _ h);unfold Ct;obtain⟨t,w⟩:=p;rw[hp];simp only at hb;simp only[hb]
  .exact h.elim
def Ag{ops:List AI}(qu:M0 qa ops=true)(h:wg T pr qa ops.length kill k Q 0 ops e σ [] []):W T pr (.c (.drw kill qa ops)::k) e σ Q:=
 A4e qu fun _ hK=>by
  obtain⟨e',σ',h,q⟩:=Sj _ _ _ _ _ _ h;exact⟨e',σ',h,hK _ _ q⟩
variable {m:Nat} {l:List AI} {fs:Fs} {ls:Ls} {K:Env->St->Fs->Ls->Prop}
def A5b:wg T pr qa n kill k Q m [] e σ fs ls=WE T pr (e.del kill) k σ Q:=Bm rfl
def Bbd(d:Nat)(op:AO):wg T pr qa n kill k Q m (o d op::l) e σ fs ls=Gx T pr qa n m (o d op) (Bc op e σ) e σ fs ls (wg T pr qa n kill k Q (m+1) l):=Bm rfl
def A9j(op:AO):wg T pr qa n kill k Q m (on op::l) e σ fs ls=Gx T pr qa n m (on op) (Bc op e σ) e σ fs ls (wg T pr qa n kill k Q (m+1) l):=Bm rfl
def A9k(d:Nat)(op:AO)(t:Nat)(w:Bool):wg T pr qa n kill k Q m (og d op t w::l) e σ fs ls=I3 T pr qa n m (og d op t w) (some (e.get t)) w e σ fs ls (wg T pr qa n kill k Q (m+1) l):=Bm rfl
def A9l(op:AO)(t:Nat)(w:Bool):wg T pr qa n kill k Q m (oh op t w::l) e σ fs ls=I3 T pr qa n m (oh op t w) (some (e.get t)) w e σ fs ls (wg T pr qa n kill k Q (m+1) l):=Bm rfl
def A9m(d:Nat)(op:AO)(v:V)(σ1:St):Gx T pr qa n m (o d op) (.val v σ1) e σ fs ls K=J8 qa n m (o d op) (kd op) v σ1 e σ fs ls K:=Bm rfl
def A5c(op:AO)(v:V)(σ1:St):Gx T pr qa n m (on op) (.val v σ1) e σ fs ls K=J8 qa n m (on op) (kd op) v σ1 e σ fs ls K:=Bm rfl
def A5d(d:Nat)(op:AO)(t:Nat)(w:Bool)(v:V)(σ1:St):Gx T pr qa n m (og d op t w) (.val v σ1) e σ fs ls K=J8 qa n m (og d op t w) (kd op) v σ1 e σ fs ls K:=Bm rfl
def A5e(op:AO)(t:Nat)(w:Bool)(v:V)(σ1:St):Gx T pr qa n m (oh op t w) (.val v σ1) e σ fs ls K=J8 qa n m (oh op t w) (kd op) v σ1 e σ fs ls K:=Bm rfl
def A5f(d:Nat)(op:AO)(t:Nat):I3 T pr qa n m (og d op t true) (some (.bool true)) true e σ fs ls K=Gx T pr qa n m (og d op t true) (Bc op e σ) e σ fs ls K:=Bm rfl
def A5g(d:Nat)(op:AO)(t:Nat):I3 T pr qa n m (og d op t false) (some (.bool false)) false e σ fs ls K=Gx T pr qa n m (og d op t false) (Bc op e σ) e σ fs ls K:=Bm rfl
def A5h(d:Nat)(op:AO)(t:Nat):I3 T pr qa n m (og d op t false) (some (.bool true)) false e σ fs ls K=K (e.put d .skp) σ fs ls:=Bm rfl
def A5i(d:Nat)(op:AO)(t:Nat):I3 T pr qa n m (og d op t true) (some (.bool false)) true e σ fs ls K=K (e.put d .skp) σ fs ls:=Bm rfl
def A9n(d:Nat)(op:AO)(t:Nat)(w:Bool):I3 T pr qa n m (og d op t w) (some .skp) w e σ fs ls K=K (e.put d .skp) σ fs ls:=Bm rfl
def A5j(op:AO)(t:Nat):I3 T pr qa n m (oh op t true) (some (.bool true)) true e σ fs ls K=Gx T pr qa n m (oh op t true) (Bc op e σ) e σ fs ls K:=Bm rfl
def A5k(op:AO)(t:Nat):I3 T pr qa n m (oh op t false) (some (.bool false)) false e σ fs ls K=Gx T pr qa n m (oh op t false) (Bc op e σ) e σ fs ls K:=Bm rfl
def A5l(op:AO)(t:Nat):I3 T pr qa n m (oh op t false) (some (.bool true)) false e σ fs ls K=K e σ fs ls:=Bm rfl
def A5m(op:AO)(t:Nat):I3 T pr qa n m (oh op t true) (some (.bool false)) true e σ fs ls K=K e σ fs ls:=Bm rfl
def A9o(op:AO)(t:Nat)(w:Bool):I3 T pr qa n m (oh op t w) (some .skp) w e σ fs ls K=K e σ fs ls:=Bm rfl
def A5n{i:AI}(v:V)(σ1:St):J8 qa n m i .pu v σ1 e σ fs ls K=K (e.putO i.dst v) σ fs ls:=Bm rfl
def A5o{i:AI}(v:V)(σ1:St):J8 qa n m i .rd v σ1 e σ [] ls K=K (e.putO i.dst v) σ [] ((m,fun s=>Ae i.op e s=some (v,s))::ls):=propext ⟨fun h=>h.2,fun h=>⟨trivial,h⟩⟩
def A5p{i:AI}(v:V)(σ1:St):J8 qa n m i .ef v σ1 e σ [] [] K=K (e.putO i.dst v) σ1 [(m,σ,σ1)] []:=propext ⟨fun h=>h.2.2,fun h=>⟨trivial,trivial,h⟩⟩
def Aom{i:AI}{v:V}{σ1:St}(h1:N8 qa n m fs)(h2:N9 qa n m σ σ1 ls)(h:K (e.putO i.dst v) σ1 ((m,σ,σ1)::fs) ls):J8 qa n m i .ef v σ1 e σ fs ls K:=⟨h1,h2,h⟩
end
/-! settled values go over as they are -/
def Ds:V->Bool
 | .agg cs=>cs.all V.rowB
 | .imm _ _=>true
 | v=>v.rowB
def Wu{v:V}(h:v.rowB=true):v.refs=[]:=by cases v<;>simp[V.rowB]at h<;>rfl
def K0:∀ {cs:List V},cs.all V.rowB=true->Am cs=[]
 | [],_=>rfl
 | c::cs,h=>by
  simp only[As,Af]at h;simp only[Am,Wu h.1,K0 h.2,Cy]
def Ua{v:V}(h:Ds v=true):v.refs=[]:=by
 unfold Ds at h
 split at h
 .exact K0 h
 .rfl
 .exact Wu h
def Wv:∀ {vs:List V},vs.all Ds=true->Am vs=[]
 | [],_=>rfl
 | c::cs,h=>by
  simp only[As,Af]at h;simp only[Am,Ua h.1,Wv h.2,Cy]
def Rp{σ:St}{js:List Nat}{d:Nat}{v:V}(h:v.rowB=true):Fk σ js (d+1) v=some v:=by
 unfold Fk;rw[if_pos h]
def R4{f:V->Option V}:∀ {cs:List V},(∀ c∈cs,f c=some c)->cs.mapM f=some cs
 | [],_=>rfl
 | c::cs,h=>by
  rw[Ik,h c Cx,R4 fun c hc=>h c (Cs _ hc)];rfl
def Wm{σ:St}{js:List Nat}{v:V}(h:Ds v=true):G0 σ js v=some v:=by
 unfold Ds at h
 split at h
 .rename_i cs;simp only[G0];rw[R4 fun c hc=>Rp (Bh.1 h c hc)];rfl
 .rfl
 .rename_i h1 h2;unfold G0
  split
  .exact absurd rfl (h2 _ _)
  .exact absurd rfl (h1 _)
  .exact Rp h
def Aaw{σ:St}{vs:List V}(h:vs.all Ds=true):Dl σ vs=some vs:=R4 fun c hc=>Wm (Bh.1 h c hc)
section
variable {Q:Env->St->Prop} {e:Env} {σ:St} {k:List It} {l:List AI} {kill:List Nat} {f:Nat} {vs:List V} {v:V} {d:Option Nat}
def Ad(hf:Fn T pr f vs v)(hs:vs.all Ds=true)(h:WR T pr l kill k (e.putO d v) σ Q):WX T pr (.call f vs) d l kill k e σ Q:=
 Nn (.pure (Aaw hs) hf) (by rw[Ty (Wv hs)];exact h)
def F0{s:List V->Option V}(hp:pr f=some s)(hs:vs.all Ds=true)(hv:s vs=some v)(h:WR T pr l kill k (e.putO d v) σ Q):WX T pr (.call f vs) d l kill k e σ Q:=
 Nn (.prim hp (Aaw hs) hv) (by rw[Ty (Wv hs)];exact h)
def Cg{σ1:St}(hf:Th T pr f vs σ v σ1)(h:WR T pr l kill k (e.putO d v) σ1 Q):WX T pr (.call f vs) d l kill k e σ Q:=Nn (.thr hf) h
def Ab{σ1:St}(hf:Bt T pr f vs σ v σ1)(h:WR T pr l kill k (e.putO d v) σ1 Q):WX T pr (.call f vs) d l kill k e σ Q:=Nn (.any hf) h
variable {qa:List (List Nat)} {n m:Nat} {fs:Fs} {ls:Ls} {K:Env->St->Fs->Ls->Prop} {i:AI}
def Bl(hf:Fn T pr f vs v)(hs:vs.all Ds=true)(h:K (e.putO i.dst v) σ fs ls):Gx T pr qa n m i (.call f vs) e σ fs ls K:=.inl ⟨v,vs,Wv hs,Aaw hs,.inr hf,h⟩
def Abz{σ1:St}(hf:Th T pr f vs σ v σ1)(h1:N8 qa n m fs)(h2:N9 qa n m σ σ1 ls)(h:K (e.putO i.dst v) σ1 ((m,σ,σ1)::fs) ls):Gx T pr qa n m i (.call f vs) e σ fs ls K:=.inr (.inr ⟨v,σ1,.thr hf,h1,h2,h⟩)
end
/-! ends -/
def FR(v0:V)(σ1:St)(v:V):Prop:=(Cq v0=true/\v0.refs=[]/\Es [] v0=some v)\/∃ js,Hz 0 js v0 σ1=true/\Es ((js.filterMap (σ1[·]?)).map (Ob.ren (ren 0 js))) (v0.ren (ren 0 js))=some v
def FL(o:Option V)(σ1:St)(v:V):Prop:=∃ v0,o=some v0/\FR v0 σ1 v
def FQ(res:List AR)(v:V)(e:Env)(σ:St):Prop:=FL (Ch e σ res) σ v
def Bz{f p:Nat}{res:List AR}{body:AC}{vs:List V}{v:V}(hT:T f=some ⟨p,res,false,body,none⟩)(hl:vs.length=p)(h:W T pr [.c body] (Da 0 vs) [] (FQ res v)):Fn T pr f vs v:=by
 obtain⟨e',σ',hE,v0,hr,h1 | ⟨js,h1,h2⟩⟩:=h
 .exact Amd hT rfl rfl hl ⟨e',σ',hE,v0,hr,h1⟩
 .exact Avd hT rfl rfl hl ⟨e',σ',hE,v0,js,hr,h1,h2⟩
def Bbe(r:AR)(v:V)(e:Env)(σ:St):FQ [r] v e σ=FL (F5 e σ r) σ v:=Bm rfl
def Bbf(r s:AR)(v:V)(e:Env)(σ:St):FQ [r,s] v e σ=FL ((F5 e σ r).bind fun a=>(F5 e σ s).map fun b=>.tup [a,b]) σ v:=by
 simp only[FQ,Ch,Ik,Zu]
 cases F5 e σ r with
 | none=>rfl
 | some a=>cases F5 e σ s<;>rfl
def Bbg(r s t:AR)(v:V)(e:Env)(σ:St):FQ [r,s,t] v e σ=FL ((F5 e σ r).bind fun a=>(F5 e σ s).bind fun b=>(F5 e σ t).map fun c=>.tup [a,b,c]) σ v:=by
 simp only[FQ,Ch,Ik,Zu]
 cases F5 e σ r with
 | none=>rfl
 | some a=>
  cases F5 e σ s with
  | none=>rfl
  | some b=>cases F5 e σ t<;>rfl
def A1b(v0 v:V)(σ:St):FL (some v0) σ v=FR v0 σ v:=propext ⟨fun⟨_,h,q⟩=>by cases h;exact q,fun h=>⟨_,rfl,h⟩⟩
def Xm{v:V}(h:Ds v=true):Iq v=true:=by
 unfold Ds at h
 split at h
 .rename_i cs;simp only[Iq];rw[Bh]at h ⊢;intro c hc;have:=h c hc
  cases c<;>simp[V.rowB]at this<;>rfl
 .rfl
 .cases v<;>simp[V.rowB]at h<;>rfl
def G6{v:V}{σ:St}(h:Ds v=true):FR v σ v:=by
 refine .inl ⟨?_,Ua h,?_⟩
 .cases v with
  | tup vs=>simp[Ds,V.rowB]at h
  | _=>exact Xm h
 .unfold Es Jq
  split
  .simp[Ds,V.rowB]at h
  .exact Wm h
def Js{vs:List V}{σ:St}(h:vs.all Ds=true):FR (.tup vs) σ (.tup vs):=by
 refine .inl ⟨?_,Wv h,?_⟩
 .simp only[Cq];rw[Bh]at h ⊢;exact fun c hc=>Xm (h c hc)
 .simp only[Es,Jq];rw[R4 fun c hc=>Wm (Bh.1 h c hc)];rfl
def Ap{v v':V}{σ:St}(h:Ds v=true)(he:v=v'):FR v σ v':=he ▸ G6 h
def TQ(res:List AR)(σ:St)(v:V)(σ':St)(e:Env)(σ1:St):Prop:=Ch e σ1 res=some v/\Aie σ.length σ v σ1/\σ'=σ1.take σ.length
def B4{keep:List Nat}{c c':AC}{k:List It}{e:Env}{σ:St}{Q:Env->St->Prop}(hc:c=c')(h:WE T pr (e.keep keep) (.c c'::.l keep c::k) σ Q):W T pr (.l keep c::k) e σ Q:=by
 subst hc;rw[A08];exact h
section
variable {qa:List (List Nat)} {n m:Nat} {e:Env} {σ:St} {fs:Fs} {ls:Ls} {K:Env->St->Fs->Ls->Prop} {i:AI}
@[congr] theorem Bcj {r r':Rs} (h:r=r'):Gx T pr qa n m i r e σ fs ls K=Gx T pr qa n m i r' e σ fs ls K:=by rw[h]
@[congr] theorem Bck {g g':Option V} {w:Bool} (h:g=g'):I3 T pr qa n m i g w e σ fs ls K=I3 T pr qa n m i g' w e σ fs ls K:=by rw[h]
@[congr] theorem Bcl {z z':Kd} {v:V} {σ1:St} (h:z=z'):J8 qa n m i z v σ1 e σ fs ls K=J8 qa n m i z' v σ1 e σ fs ls K:=by rw[h]
end
variable {T:Nat->Option AF} {pr:Nat->Option (List V->Option V)}
def TR(v0:V)(σ:St)(v:V)(σ' σ1:St):Prop:=v0=v/\Aie σ.length σ v σ1/\σ'=σ1.take σ.length
def A5q(a b:Nat)(l:List Nat):List.elem a (b::l)=if a=b then true else List.elem a l:=by
 by_cases h:a=b
 .simp[h]
 .simp[h]
def A5r(a:Nat):List.elem a []=false:=rfl
def A9p(m n:Nat)(u v:V)(r:Env):Env.put ((m,u)::r) n v=if m=n then(n,v)::r else(m,u)::Env.put r n v:=Bm rfl
def A9q(n:Nat)(v:V):Env.put [] n v=[(n,v)]:=Bm rfl
def A9r(m:Nat)(u:V)(r:Env)(ks:List Nat):Env.del ((m,u)::r) ks=if ks.elem m=true then Env.del r ks else(m,u)::Env.del r ks:=Bm rfl
def A9s(ks:List Nat):Env.del [] ks=[]:=Bm rfl
def A5s(e:Env)(n:Nat)(ks:List Nat):e.keep (n::ks)=(n,e.get n)::e.keep ks:=Bm rfl
def A5t(e:Env):e.keep []=[]:=Bm rfl
def A9t(n:Nat):Env.get [] n=.und:=rfl
section
variable {Q:Env->St->Prop} {e:Env} {σ:St} {k:List It} {l:List AI} {kill:List Nat}
def A9u(d:Option Nat)(op:AO):WD T pr (.bool true) true d op l kill k e σ Q=WX T pr (Bc op e σ) d l kill k e σ Q:=Bm rfl
def A9v(d:Option Nat)(op:AO):WD T pr (.bool false) false d op l kill k e σ Q=WX T pr (Bc op e σ) d l kill k e σ Q:=Bm rfl
def A9w(d:Option Nat)(op:AO):WD T pr (.bool true) false d op l kill k e σ Q=WR T pr l kill k (e.putO d .skp) σ Q:=Bm rfl
def A9x(d:Option Nat)(op:AO):WD T pr (.bool false) true d op l kill k e σ Q=WR T pr l kill k (e.putO d .skp) σ Q:=Bm rfl
end
def A9y(d:Nat)(op:AO):(o d op).dst=some d:=rfl
def A5u(op:AO):(on op).dst=none:=rfl
def A5v(d:Nat)(op:AO)(t:Nat)(w:Bool):(og d op t w).dst=some d:=rfl
def A5w(op:AO)(t:Nat)(w:Bool):(oh op t w).dst=none:=rfl
def S0(o:Option Ob)(g n:Nat)(one:Bool)(off:Nat):Option V:=
 match o with
 | some (.row cs _ g' _)=>if g=g'/\off+n<=cs.length then Gl one ((cs.drop off).take n) else none
 | _=>none
def A9z(cs:List V)(e g' z g n:Nat)(one:Bool)(off:Nat):S0 (some (.row cs e g' z)) g n one off=if g=g'/\off+n<=cs.length then Gl one ((cs.drop off).take n) else none:=Bm rfl
def A5x(σ:St)(n:Nat)(one:Bool)(i g off:Nat):H9 σ n one (.ptr i g off)=S0 σ[i]? g n one off:=Bm rfl
def A5y(σ:St)(n:Nat)(one:Bool)(row:List V)(off:Nat):H9 σ n one (.imm row off)=if off+n<=row.length then Gl one ((row.drop off).take n) else none:=Bm rfl
def Yt(o:Option Ob)(σ:St)(n i g off:Nat)(v:V):Option (V × St):=
 match o with
 | some (.row cs e g' z)=>if g=g'/\z<=off/\v.cells.length=n/\v.cells.all V.cellB=true then(Nw cs off v.cells).map fun cs'=>(.und,σ.set i (.row cs' e g z)) else none
 | _=>none
def A5z(cs:List V)(e g' z:Nat)(σ:St)(n i g off:Nat)(v:V):Yt (some (.row cs e g' z)) σ n i g off v=if g=g'/\z<=off/\v.cells.length=n/\v.cells.all V.cellB=true then(Nw cs off v.cells).map fun cs'=>(.und,σ.set i (.row cs' e g z)) else none:=Bm rfl
def Arx(σ:St)(n i g off:Nat)(v:V):Ac6 n (.ptr i g off) v σ=Yt σ[i]? σ n i g off v:=by
 simp only[Ac6,Oy,Yt]
 cases σ[i]? with
 | none=>rfl
 | some ob=>
  cases ob with
  | row cs e g' z=>
   simp only
   split
   .cases Nw cs off v.cells<;>rfl
   .rfl
  | _=>rfl
def A90:Pg .nils=some (.int .i64 0):=rfl
def A91(t:Nat)(xs:List (List V)):Pg (.lst t xs)=some (.int .i64 (xs.length:Int)):=rfl
def A92(i g off len m:Nat)(w:Bool):Pg (.sl i g off len m w)=some (.int .i64 (len:Int)):=rfl
def A93(m t:Nat)(xs:List (List V))(i:V):Pf m (.lst t xs) i=(I1 xs i).bind fun r=>if r.length=m then some (.imm r 0) else none:=Bm rfl
def A94(m j g off len m':Nat)(w:Bool)(k:IntKind)(n:Int):Pf m (.sl j g off len m' w) (.int k n)=if 0<=n/\n<len/\m=m' then some (.ptr j g (off+n.toNat*m)) else none:=Bm rfl
def A95(off:Nat)(r:List V)(o:Nat):Ac7 off (.imm r o)=some (.imm r (o+off)):=Bm rfl
def A96(off b g o:Nat):Ac7 off (.ptr b g o)=some (.ptr b g (o+off)):=Bm rfl
def A97(off n:Nat)(one:Bool)(cs:List V):Ain off n one (.agg cs)=if off+n<=cs.length then Gl one ((cs.drop off).take n) else none:=Bm rfl
def A1c(k:IntKind)(n:Int):V.cells (.int k n)=[.int k n]:=rfl
def A1d(l:List UInt8):V.cells (.str l)=[.str l]:=rfl
def A1e(b:Bool):V.cells (.bool b)=[.bool b]:=rfl
def A1f:V.cells .nils=[.nils]:=rfl
def A1g(t:Nat)(xs:List (List V)):V.cells (.lst t xs)=[.lst t xs]:=rfl
def Axh(i g o l m:Nat)(w:Bool):V.cells (.sl i g o l m w)=[.sl i g o l m w]:=rfl
def A1h(i g o:Nat):V.cells (.ptr i g o)=[.ptr i g o]:=rfl
def Axi:V.cells .nilp=[.nilp]:=rfl
def Avi(r:List V)(o:Nat):V.cells (.imm r o)=[.imm r o]:=rfl
def Axj(f:Nat)(a c:List V):V.cells (.fn f a c)=[.fn f a c]:=rfl
def Axk(i:Nat):V.cells (.mp i)=[.mp i]:=rfl
def A1i(cs:List V):V.cells (.agg cs)=cs:=rfl
def A50(σ:St)(m:Nat):Fy σ m .nils=some []:=Bm rfl
def A51(σ:St)(m t:Nat)(xs:List (List V)):Fy σ m (.lst t xs)=some xs:=Bm rfl
def mk1(c:V):Gl true [c]=some c:=rfl
def mkA(cs:List V):Gl false cs=some (.agg cs):=rfl
def A1j(s l:St)(n:Nat):(s++l)[s.length+n]?=l[n]?:=by rw[Cd (by omega)];congr 1;omega
def Axl(s l:St):(s++l)[s.length]?=l[0]?:=by rw[Cd (by omega)];congr 1;omega
def A1k(s l:St)(n:Nat)(x:Ob):(s++l).set (s.length+n) x=s++l.set n x:=by simp[List.set_append]
def Axm(s l:St)(x:Ob):(s++l).set s.length x=s++l.set 0 x:=by simp[List.set_append]
def A1l{α:Type}(l:List α)(k:IntKind)(n:Nat):I1 l (.int k (n:Int))=l[n]?:=by
 simp only[I1];rw[if_pos (by omega),Rl]
def Ec{n:Int}(h : -9223372036854775808<=n/\n<=9223372036854775807):IntKind.i64.wrap n=n:=Go.IntWalk.i64_in _ h
def A1m{n:Int}(h1 : -9223372036854775808<=n)(h2:n<=9223372036854775807):IntKind.i64.wrap n=n:=Ec ⟨h1,h2⟩
def Bbh(t:Nat)(v:V)(σ σ' σ1:St)(e:Env):TQ [.tmp t] σ v σ' e σ1=TR (e.get t) σ v σ' σ1:=Bm (propext ⟨fun⟨h1,h2⟩=>⟨Ky h1,h2⟩,fun⟨h1,h2⟩=>⟨congrArg some h1,h2⟩⟩)
def Bk{i:Nat}(h:i<9223372036854775807):IntKind.i64.wrap ((i:Int)+1)=((i+1:Nat):Int):=by rw[Ec (by omega)];rfl
def Bx{i n:Nat}(h:i<n):decide ((i:Int)<(n:Int))=true:=by simpa using h
def Ck{i n:Nat}(h:n<=i):decide ((i:Int)<(n:Int))=false:=by simpa using h
def C3{α:Type}{l:List α}{i:Nat}(h:i<l.length):∃ x,l[i]?=some x/\l.drop i=x::l.drop (i+1)/\x∈l:=⟨l[i],A2 h,Gr h,Fj h⟩
def B3{keep:List Nat}{c:AC}{k:List It}{Q:Env->St->Prop}{α:Type}(μ:α->Nat)(E:α->Env)(Z:α->St)(I:α->Prop)
  (h:∀ a,I a->(∀ b,μ b<μ a->I b->W T pr (.l keep c::k) (E b) (Z b) Q)->W T pr (.l keep c::k) (E a) (Z a) Q):∀ a,I a->W T pr (.l keep c::k) (E a) (Z a) Q:=by
 suffices ∀ n a,μ a=n->I a->W T pr (.l keep c::k) (E a) (Z a) Q from fun a=>this _ a rfl
 intro n
 induction n using Nat.strongRecOn with
 | _ n ih=>exact fun a hm hI=>h a hI fun b hb=>ih (μ b) (hm ▸ hb) b rfl
def Bbi(cs:List V):Ds (.agg cs)=cs.all V.rowB:=rfl
def Bbj(r:List V)(o:Nat):Ds (.imm r o)=true:=rfl
def Asl(k:IntKind)(n:Int):Ds (.int k n)=true:=rfl
def Bbk(l:List UInt8):Ds (.str l)=true:=rfl
def Bbl(b:Bool):Ds (.bool b)=true:=rfl
def Bbm:Ds .nils=true:=rfl
def Bbn:Ds .nili=true:=rfl
def Bbo(t:Nat)(xs:List (List V)):Ds (.lst t xs)=true:=rfl
/-! settled slices -/
def SL(z:Bool)(t:Nat)(xs:List (List V)):V:=if z=true/\xs=[] then .nils else .lst t xs
def Jt(z:Bool)(t:Nat)(xs:List (List V)):(SL z t xs).rowB=true:=by unfold SL;split<;>rfl
def Aon(z:Bool)(t:Nat)(xs:List (List V)):(SL z t xs).cellB=true:=by unfold SL;split<;>rfl
def A52(z:Bool)(t:Nat)(xs:List (List V)):Ds (SL z t xs)=true:=by unfold SL;split<;>rfl
def Axn(z:Bool)(t:Nat)(xs:List (List V)):(SL z t xs).cells=[SL z t xs]:=by unfold SL;split<;>rfl
def A53(z:Bool)(t:Nat)(xs:List (List V)):Pg (SL z t xs)=some (.int .i64 (xs.length:Int)):=by
 unfold SL
 split
 .rename_i h;rw[h.2];rfl
 .rfl
def A54(z:Bool)(t:Nat)(xs:List (List V))(m:Nat)(i:V):Pf m (SL z t xs) i=(I1 xs i).bind fun r=>if r.length=m then some (.imm r 0) else none:=by
 unfold SL
 split
 .rename_i h;rw[h.2]
  cases i<;>simp[Pf,I1]
 .rfl
def A1n(z:Bool)(t:Nat)(xs:List (List V))(σ:St)(m:Nat):Fy σ m (SL z t xs)=some xs:=by
 unfold SL
 split
 .rename_i h;rw[h.2];rfl
 .rfl
attribute [go_sem] Nat.reduceEqDiff reduceIte Nat.reduceAdd Nat.reduceMul Nat.reduceLeDiff Int.reduceLT Int.reduceLE Int.reduceToNat Int.reduceAdd Int.reduceNeg Int.reduceEq
attribute [go_sem ↓] Aho A44 Aru A9b A45 Arv A9c A9d A46 A47 Ba9 Bba Bbb A48 Bbc A9e A9f A9g A5b Bbd A9j A9k A9l A8k A8l get_put Axf Avg Avh Bbe Bbf Bbg Bbh
attribute [go_sem ↓] A1l A8m A4u A8n A8o A05 A4v A4w A4x Ba4 A4y A06 A8p A8q Ba5 Ba6 A8r A8s A8t A8u A8v A4z A8w A40 A8x A8y A8z A80 A81 A82 A83 A84 A41 A85 A86 A42 Ba7 Ba8 A87 A88 A89 A9a A43 A07
attribute [go_sem] we A49 A09 A5a A9u A9v A9w A9x A1a Axg A01 A02 A03 A04 A9m A5c A5d A5e A5f A5g A5h A5i A9n A5j A5k A5l A5m A9o A5n A5o A5p kd A1b
attribute [go_sem] A9t A9p A9q A9r A9s A5s A5t A5q A5r Da F5
attribute [go_sem] Ys Aic Ak unV Ahl Ash mkV Aih Aii Mb eqB Ah7 Ah8 Ah9 Aia Aij Aik Ail Asi Aim Ahm Ac3 Q6 Eb Aio Aip Aiq Air Ahn mxV mnV Ais Ait Asj Aiu mk1 mkA Nw Hm E6 Bbi Bbj Asl Bbk Bbl Bbm Bbn Bbo A4i A4k A0r A0t A0v A4m A4o A8e A0x A0z A4q A4s A8g A8i A4j A4l A0s A0u A0w A4n A4p A8f A0y A00 A4r A4t A8h A8j decide_true decide_false gt_iff_lt ge_iff_le ne_eq not_false_eq_true not_true_eq_false A9y A5u A5v A5w A9z A5x A5y A5z Arx A90 A91 A92 A93 A94 A95 A96 A97 A1c A1d A1e A1f A1g Axh A1h Axi Avi Axj Axk A1i A50 A51
attribute [go_sem] A1j Axl A1k Axm I1 A1m Jt Aon A52 Axn A53 A54 A1n
attribute [go_sem] Fr Option.map_none C7 Option.bind_none Aw B6 As Bd Wh Adw Zv and_self and_true true_and eq_self Ah C8 Aj Ll Zf Zs Tb Bq Bf Br Cy Zb Jm List.set_cons_zero Ado List.replicate D3 Zl Fc Ok Ad0 Nat.one_mul Wn Ez Bool.true_eq_false Ar Ax Bool.bne_false Bool.bne_true if_true if_false ite_true ite_false Rl C1
variable {T:Nat->Option AF} {pr:Nat->Option (List V->Option V)}
def Ui(σ:St):∀ (d:Nat) (js:List Nat) (i:Nat),i∈js->i∈Fw σ d js
 | 0,_,_,h=>h
 | d+1,js,i,h=>by
  simp only[Fw]
  split
  .exact h
  .exact Ui σ d _ i (Rj _ h)
def OC(σ:St)(v v':V):Prop:=∀ js:List Nat,(∀ i∈v.refs,i∈js)->∀ d,Fk σ js (d+2) v=some v'
def OV(σ:St)(v v':V):Prop:=∀ js:List Nat,(∀ i∈v.refs,i∈js)->G0 σ js v=some v'
inductive OVs (σ:St):List V->List V->Prop
 | nil:OVs σ [] []
 | cons {v v':V} {vs qb:List V}:OV σ v v'->OVs σ vs qb->OVs σ (v::vs) (v'::qb)
inductive OCs (σ:St):List V->List V->Prop
 | nil:OCs σ [] []
 | cons {v v':V} {vs qb:List V}:OC σ v v'->OCs σ vs qb->OCs σ (v::vs) (v'::qb)
def Xn{σ:St}{js:List Nat}:∀ {vs qb:List V},OVs σ vs qb->(∀ i∈Am vs,i∈js)->vs.mapM (G0 σ js)=some qb
 | _,_,.nil,_=>rfl
 | _,_,.cons h hs,hj=>by
  simp only[Am,Cr]at hj;rw[Ik,h js fun i hi=>hj i (.inl hi),Xn hs fun i hi=>hj i (.inr hi)];rfl
def Aoo{σ:St}{js:List Nat}{d:Nat}:∀ {vs qb:List V},OCs σ vs qb->(∀ i∈Am vs,i∈js)->vs.mapM (Fk σ js (d+2))=some qb
 | _,_,.nil,_=>rfl
 | _,_,.cons h hs,hj=>by
  simp only[Am,Cr]at hj;rw[Ik,h js (fun i hi=>hj i (.inl hi)) d,Aoo hs fun i hi=>hj i (.inr hi)];rfl
def Aop{σ:St}{vs qb:List V}(h:OVs σ vs qb):Dl σ vs=some qb:=Xn h fun i hi=>Ui σ 9 _ i (Zh.2 hi)
def H3{σ:St}{v:V}(h:v.rowB=true):OC σ v v:=fun _ _ _=>Rp h
def Ju{σ:St}{v:V}(h:Ds v=true):OV σ v v:=fun _ _=>Wm h
def X3{σ:St}{cs cs':List V}(h:OCs σ cs cs'):OV σ (.agg cs) (.agg cs'):=fun js hj=>by
 simp only[G0];rw[Aoo (d:=7) h hj];rfl
def Abe{σ:St}{v v':V}(h:OC σ v v')(hc:v.cellB=true):OV σ v v':=fun js hj=>by
 unfold G0
 split
 .have:=h js hj 0;simp[Fk,V.rowB]at this
 .simp[V.cellB]at hc
 .exact h js hj 7
def Aen(m:Nat):∀ (xs:List (List V)) (tl:List V),(∀ r∈xs,r.length=m)->E6 m xs.length (xs.flatten++tl)=xs
 | [],_,_=>rfl
 | r::xs,tl,h=>by
  have hr:=h r Cx;simp only[Ah,E6,D3,Br];rw[<-hr,Wf,List.drop_left];congr 1;rw[hr];exact Aen m xs tl fun r hr=>h r (Cs _ hr)
def Z9{m:Nat}{xs:List (List V)}(h:∀ r∈xs,r.length=m):E6 m xs.length xs.flatten=xs:=by
 have:=Aen m xs [] h
 rwa [Cy]at this
def Lo{m:Nat}:∀ {xs:List (List V)},(∀ r∈xs,r.length=m)->xs.flatten.length=xs.length*m
 | [],_=>by simp
 | r::xs,h=>by
  rw[D3,Aj,h r Cx,Lo fun r hr=>h r (Cs _ hr),Ah,E1,Z0]
def Vd{σ:St}{i g m e z:Nat}{w:Bool}{xs:List (List V)}(ho:σ[i]?=some (.row xs.flatten e g z))(hm:0<m)(hl:∀ r∈xs,r.length=m)(hr:∀ r∈xs,r.all V.rowB=true):OC σ (.sl i g 0 xs.length m w) (.lst 0 xs):=by
 intro js hj d
 have hi:js.elem i=true:=by
  have:=hj i (by simp[V.refs]);simpa using this
 have hf:=Lo hl;unfold Fk;rw[if_neg (by simp[V.rowB])];simp only[hi,if_true,ho];rw[if_pos ⟨trivial,hm,by omega⟩,Ll,<-hf,D8,R4 fun c hc=>?_]
 .simp only[Fr,Z9 hl]
 .obtain⟨r,qn,qj⟩:=Zm.1 hc;exact Rp (Bh.1 (hr r qn) c qj)
section
variable {Q:Env->St->Prop} {e:Env} {σ:St} {k:List It} {l:List AI} {kill:List Nat} {f:Nat} {args vs:List V} {v:V} {d:Option Nat}
def Ary(hx:OVs σ args vs)(hf:Fn T pr f vs v)(qk:v.flatV=true)(h:WR T pr l kill k (e.putO d v) σ Q):WX T pr (.call f args) d l kill k e σ Q:=
 Nn (.pure (Aop hx) hf) (by unfold after;rw[if_pos qk];exact h)
variable {qa:List (List Nat)} {n m:Nat} {fs:Fs} {ls:Ls} {K:Env->St->Fs->Ls->Prop} {i:AI}
def Ags(hx:OVs σ args vs)(hf:Fn T pr f vs v)(qk:v.flatV=true)(h:K (e.putO i.dst v) σ [] ((m,fun s=>Dl s args=some vs)::ls)):Gx T pr qa n m i (.call f args) e σ [] ls K:=
 .inr (.inl ⟨v,vs,Aop hx,.inr hf,qk,trivial,h⟩)
end
/-! code that ends where it ends: the rest is apart -/
def AC.flat:AC->Bool
 | .skip | .reg _ _ | .drw _ _ _=>true
 | .seq a b=>a.flat&&b.flat
 | .cond _ _ x y=>x.flat&&y.flat
 | _=>false
def Hd(P:Env->St->Prop)(e:Env)(σ:St):Prop:=P e σ
@[congr] theorem Bcr {P:Env->St->Prop} {e e':Env} {σ:St} (h:e=e'):Hd P e σ=Hd P e' σ:=by rw[h]
/-! lists that grow: nil, or a slice of an object of their own that they fill -/
def GV(σ:St)(m e lo:Nat)(u:V)(xs:List (List V)):Prop:=(u=.nils/\xs=[])\/∃ i g,u=.sl i g 0 xs.length m true/\σ[i]?=some (.row xs.flatten e g 0)/\lo<=i
def A55{σ:St}{m e lo:Nat}:GV σ m e lo .nils []:=.inl ⟨rfl,rfl⟩
def Aoq{σ:St}{m e lo:Nat}{u:V}{xs:List (List V)}(h:GV σ m e lo u xs):u.cellB=true:=by
 rcases h with⟨rfl,rfl⟩ | ⟨i,g,rfl,ho,qc⟩<;>rfl
def A56{σ:St}{m e lo:Nat}{u:V}{xs:List (List V)}(h:GV σ m e lo u xs):Pg u=some (.int .i64 (xs.length:Int)):=by
 rcases h with⟨rfl,rfl⟩ | ⟨i,g,rfl,ho,qc⟩<;>rfl
def Aqe{σ:St}{m e lo bytes:Nat}{u y:V}{xs ys:List (List V)}(h:GV σ m e lo u xs)(qg:lo<=σ.length)(hy:Fy σ m y=some ys)(hm:0<m)(hl:∀ r∈xs,r.length=m)(qh:∀ r∈ys,r.length=m)(hb:(xs.length+ys.length)*bytes<=140737488355328):
  ∃ u' σ',Ef bytes (m,e) u y σ=some (u',σ')/\GV σ' m e lo u' (xs++ys)/\σ.length<=σ'.length/\(∀ j,(∀ i g,u=.sl i g 0 xs.length m true->j≠i)->j<σ.length->σ'[j]?=σ[j]?)/\∀ j,j<lo->σ'[j]?=σ[j]?:=by
 have qf:(ys.all fun r=>r.length==m)=true:=by
  rw[Bh];intro r hr;simp[qh r hr]
 unfold Ef;simp only[hy,C7];unfold J5;rw[if_pos ⟨qf,hm⟩];rcases h with⟨rfl,rfl⟩ | ⟨i,g,rfl,ho,qc⟩
 .simp only;rw[if_pos (by simpa using hb)]
  cases ys with
  | nil=>exact⟨.nils,σ,rfl,.inl ⟨rfl,rfl⟩,Ai _,fun _ _ _=>rfl,fun _ _=>rfl⟩
  | cons y ys=>exact⟨_,_,rfl,.inr ⟨σ.length,0,rfl,by simp,qg⟩,by simp,fun j _ hj=>Ca hj,fun j hj=>Ca (by omega)⟩
 .simp only;rw[if_pos ⟨hb,trivial⟩];simp only[ho,if_true]
  cases ys with
  | nil=>exact⟨_,σ,rfl,.inr ⟨i,g,by simp,by simpa using ho,qc⟩,Ai _,fun _ _ _=>rfl,fun _ _=>rfl⟩
  | cons y ys=>
   have hf:=Lo hl;have qq:=Lo qh;have qr:(y::ys).flatten.length=(ys.length+1)*m:=by rw[qq];rfl
   rw[if_neg (by simp),if_pos (by simp),if_neg (by
    rw[hf];have:(xs.length+(y::ys).length)*m=xs.length*m+(ys.length+1)*m:=by rw[Ah,Ng]
    rw[this];have:0<(ys.length+1)*m:=Nat.mul_pos (by omega) hm
    omega),if_pos hf]
   refine⟨_,_,rfl,.inr ⟨i,g+1,by rw[Aj],?_,qc⟩,by simp,fun j hj _=>?_,fun j hj=>by rw[Bj (by omega)]⟩
   .have hi:i<σ.length:=by
     rcases Bu i σ.length with h | h
     .exact h
     .rw[Ri h]at ho;cases ho
    rw[Ci hi,List.flatten_append]
   .have:=hj i g rfl;rw[Bj (by omega)]
def A57{v:V}(h:v.cellB=true):v.cells=[v]:=by cases v<;>simp[V.cellB]at h<;>rfl
def B5{s l:St}{j:Nat}{x:Ob}(h:s[j]?=some x):(s++l)[j]?=some x:=by
 have hi:j<s.length:=by
  rcases Bu j s.length with h1 | h1
  .exact h1
  .rw[Ri h1]at h;cases h
 rw[Ca hi,h]
def Mn{xs:List (List V)}(hr:∀ r∈xs,r.all V.rowB=true):xs.flatten.all V.rowB=true:=by
 rw[Bh];intro c hc;obtain⟨r,qn,qj⟩:=Zm.1 hc;exact Bh.1 (hr r qn) c qj
def Agt(i:Nat):∀ cs:List V,cs.all V.rowB=true->Hq (ren 0 [i]) cs=cs
 | [],_=>rfl
 | c::cs,h=>by
  simp only[As,Af]at h;simp only[Hq];rw[Agt i cs h.2];congr 1
  cases c<;>simp[V.rowB]at h<;>rfl
def K2:∀ a b:List V,Am (a++b)=Am a++Am b
 | [],_=>rfl
 | c::a,b=>by simp only[Bq,Am,K2 a b,Br]
def Aqf{cs:List V}(h:cs.all V.rowB=true):cs.all V.cellB=true:=by
 rw[Bh]at h ⊢;intro c hc;have:=h c hc
 cases c<;>simp[V.rowB]at this<;>rfl
def Ahq{σ:St}{m e i g:Nat}{xs:List (List V)}(ho:σ[i]?=some (.row xs.flatten e g 0))(hm:0<m)(hl:∀ r∈xs,r.length=m)(hr:∀ r∈xs,r.all V.rowB=true):FR (.sl i g 0 xs.length m true) σ (.lst 0 xs):=by
 obtain⟨hi,qt⟩:=Aq.1 ho;have hx:Am xs.flatten=[]:=K0 (Mn hr);have h0:ren 0 [i] i=0:=by simp[ren,List.findIdx_cons]
 refine .inr ⟨[i],?_,?_⟩
 .simp[Hz,Cq,Iq,V.cellB,V.refs,Ey,qt,Ob.refs,hx,hi]
 .simp only[Lj,ho,Zg,Aw,B6,Ob.ren,Agt i _ (Mn hr),V.ren,h0];simp only[Es,Jq,G0];exact Vd (σ:=[.row xs.flatten e g 0]) (i:=0) (g:=g) (e:=e) (z:=0) (w:=true) rfl hm hl hr (Fw [.row xs.flatten e g 0] 9 (V.refs (.sl 0 g 0 xs.length m true)).eraseDups) (fun j hj=>Ui _ _ _ _ (Zh.2 hj)) 7
def GW(σ:St)(m e lo:Nat)(u:V)(xs:List (List V)):Prop:=(u=.nils/\xs=[])\/(xs≠[]/\∃ i g,u=.sl i g 0 xs.length m true/\σ[i]?=some (.row xs.flatten e g 0)/\lo<=i)
def Gk{σ:St}{m e lo:Nat}:GW σ m e lo .nils []:=.inl ⟨rfl,rfl⟩
def Ahr{σ:St}{m e lo:Nat}{u:V}{xs:List (List V)}(h:GW σ m e lo u xs):GV σ m e lo u xs:=h.imp id fun h=>h.2
def Dq{σ:St}{m e lo:Nat}{u:V}{xs:List (List V)}(h:GW σ m e lo u xs):u.cellB=true:=Aoq (Ahr h)
def Sa{σ:St}{m e lo bytes:Nat}{u y:V}{xs ys:List (List V)}(h:GW σ m e lo u xs)(qg:lo<=σ.length)(hy:Fy σ m y=some ys)(hm:0<m)(hl:∀ r∈xs,r.length=m)(qh:∀ r∈ys,r.length=m)(hb:(xs.length+ys.length)*bytes<=140737488355328):
  ∃ u' σ',Ef bytes (m,e) u y σ=some (u',σ')/\GW σ' m e lo u' (xs++ys)/\σ.length<=σ'.length/\(∀ j,(∀ i g,u=.sl i g 0 xs.length m true->j≠i)->j<σ.length->σ'[j]?=σ[j]?)/\∀ j,j<lo->σ'[j]?=σ[j]?:=by
 obtain⟨u',σ',h1,h2,h3,h4,h5⟩:=Aqe (Ahr h) qg hy hm hl qh hb;refine⟨u',σ',h1,?_,h3,h4,h5⟩;by_cases he:xs++ys=[]
 .rw[List.append_eq_nil_iff]at he;obtain⟨rfl,rfl⟩:=he;rcases h with⟨rfl,_⟩ | ⟨hn,_⟩
  .have:Ef bytes (m,e) .nils y σ=some (.nils,σ):=by simp[Ef,hy,J5,hm]
   rw[this]at h1;cases h1;exact Gk
  .exact absurd rfl hn
 .exact h2.imp id fun h=>⟨he,h⟩
def P8{σ l:St}{m e lo:Nat}{u:V}{xs:List (List V)}(h:GW σ m e lo u xs):GW (σ++l) m e lo u xs:=by
 rcases h with h | ⟨hn,i,g,h,ho,qc⟩
 .exact .inl h
 .exact .inr ⟨hn,i,g,h,B5 ho,qc⟩
def F6{σ:St}{j:Nat}{x:Ob}{m e lo:Nat}{u:V}{xs:List (List V)}(h:GW σ m e lo u xs)(hj:j<lo):GW (σ.set j x) m e lo u xs:=by
 rcases h with h | ⟨hn,i,g,h,ho,qc⟩
 .exact .inl h
 .exact .inr ⟨hn,i,g,h,by rw[Bj (by omega)];exact ho,qc⟩
def Ahs{t:Nat}{xs:List (List V)}(h:xs≠[]):SL true t xs=.lst t xs:=by simp[SL,h]
def O6{σ:St}{m e lo:Nat}{u:V}{xs:List (List V)}(h:GW σ m e lo u xs)(hm:0<m)(hl:∀ r∈xs,r.length=m)(hr:∀ r∈xs,r.all V.rowB=true):OC σ u (SL true 0 xs):=by
 rcases h with⟨rfl,rfl⟩ | ⟨hn,i,g,rfl,ho,qc⟩
 .exact H3 rfl
 .rw[Ahs hn];exact Vd ho hm hl hr
def Aht{σ:St}{m e lo:Nat}{u:V}{xs:List (List V)}(h:GW σ m e lo u xs)(hm:0<m)(hl:∀ r∈xs,r.length=m)(hr:∀ r∈xs,r.all V.rowB=true):FR u σ (SL true 0 xs):=by
 rcases h with⟨rfl,rfl⟩ | ⟨hn,i,g,rfl,ho,qc⟩
 .exact G6 rfl
 .rw[Ahs hn];exact Ahq ho hm hl hr
/-! what a call leaves of the state, where an argument names a list's object -/
def Aud(σ:St)(i j:Nat)(h:j≠i):(σ.freeze [i])[j]?=σ[j]?:=by
 simp only[St.freeze]
 split
 .rw[Bj (by omega)]
 .rfl
section
variable {T:Nat->Option AF} {pr:Nat->Option (List V->Option V)} {Q:Env->St->Prop} {e:Env} {σ:St} {k:List It} {l:List AI} {kill:List Nat} {f:Nat} {args vs:List V} {v:V} {d:Option Nat}
end
def Aqg{σ:St}{cs:List V}{m n:Nat}(h:cs.all V.rowB=true):Ny m n σ cs=some (.lst 1 (E6 m n cs),σ):=by
 unfold Ny;rw[R4 fun c hc=>Rp (Bh.1 h c hc),K0 h];rfl
attribute [go_sem] Aqg
def Ww(z:Bool)(t m:Nat)(xs:List (List V))(k:IntKind)(b:Nat)(hb:b<=xs.length):∃ z' t',Pd m (SL z t xs) none (some (.int k (b:Int))) none=some (SL z' t' (xs.take b)):=by
 unfold SL
 split
 .rename_i h;obtain⟨rfl,rfl⟩:=h;have:b=0:=by simpa using hb
  subst this;exact⟨true,0,by simp[Pd,Eb]⟩
 .refine⟨false,(if b=xs.length/\t=1 then 1 else 0),?_⟩;simp[Pd,Eb,hb]
def Cl(s:St):Prop:=∀ ob∈s,∀ i∈ob.refs,i<s.length
def R5{s:St}{ob:Ob}(h:Cl s)(ho:∀ i∈ob.refs,i<s.length+1):Cl (s++[ob]):=by
 intro o hm i hi;rw[Aj];rcases Cr.1 hm with hm | hm
 .have:=h o hm i hi;simp;omega
 .simp at hm;subst hm;simpa using ho i hi
def Hl{s:St}{j:Nat}{ob:Ob}(h:Cl s)(ho:∀ i∈ob.refs,i<s.length):Cl (s.set j ob):=by
 intro o hm i hi;rw[Hy];rcases List.mem_or_eq_of_mem_set hm with hm | hm
 .exact h o hm i hi
 .subst hm;exact ho i hi
mutual
theorem Aax(ρ:Nat->Nat):∀ v:V,(∀ i∈v.refs,ρ i=i)->v.ren ρ=v
 | .ptr i g o,h=>by simp only[V.ren];rw[h i (by simp[V.refs])]
 | .sl i g o l m w,h=>by simp only[V.ren];rw[h i (by simp[V.refs])]
 | .mp i,h=>by simp only[V.ren];rw[h i (by simp[V.refs])]
 | .fn f a c,h=>by
  simp only[V.ren];rw[Ru ρ a fun i hi=>h i (by simp only[V.refs,Cr];exact .inl hi),Ru ρ c fun i hi=>h i (by simp only[V.refs,Cr];exact .inr hi)]
 | .agg cs,h=>by simp only[V.ren];rw[Ru ρ cs fun i hi=>h i (by simpa only[V.refs] using hi)]
 | .tup cs,h=>by simp only[V.ren];rw[Ru ρ cs fun i hi=>h i (by simpa only[V.refs] using hi)]
 | .und,_=>rfl
 | .skp,_=>rfl
 | .bool _,_=>rfl
 | .int _ _,_=>rfl
 | .str _,_=>rfl
 | .nili,_=>rfl
 | .ifc,_=>rfl
 | .nils,_=>rfl
 | .nilp,_=>rfl
 | .nilf,_=>rfl
 | .lst _ _,_=>rfl
 | .imm _ _,_=>rfl
theorem Ru(ρ:Nat->Nat):∀ vs:List V,(∀ i∈Am vs,ρ i=i)->Hq ρ vs=vs
 | [],_=>rfl
 | v::r,h=>by
  simp only[Hq];rw[Aax ρ v fun i hi=>h i (by simp only[Am,Cr];exact .inl hi),Ru ρ r fun i hi=>h i (by simp only[Am,Cr];exact .inr hi)]
end
def Ajr(ρ:Nat->Nat)(ob:Ob)(h:∀ i∈ob.refs,ρ i=i):ob.ren ρ=ob:=by
 cases ob with
 | row cs e g z=>simp only[Ob.ren];rw[Ru ρ cs h]
 | map kvs=>
  simp only[Ob.ren];congr 1
  have:∀ l:List (List UInt8 × V),(∀ i∈Am (l.map (·.2)),ρ i=i)->l.map (fun p=>(p.1,p.2.ren ρ))=l:=by
   intro l
   induction l with
   | nil=>intro _;rfl
   | cons p l ih=>
    intro h;simp only[Aw,Am,Cr]at h ⊢;rw[ih fun i hi=>h i (.inr hi),Aax ρ p.2 fun i hi=>h i (.inl hi)]
  exact this kvs h
 | dead=>rfl
def Aeo{n k i:Nat}(h:i<n+k):ren n (List.range' n k) i=i:=by
 unfold ren
 split
 .rfl
 .have h1:List.findIdx (·==i) (List.range' n k)=i - n:=by
   rw[List.findIdx_eq (by simp;omega)];simp;constructor
   .omega
   .intro j hj;omega
  rw[h1];omega
def Avj{σ σ':St}{m e lo bytes:Nat}{u u' y:V}{xs ys:List (List V)}(h:GW σ m e lo u xs)(hy:Fy σ m y=some ys)(ha:Ef bytes (m,e) u y σ=some (u',σ'))(hx:Am xs.flatten=[])(hz:Am ys.flatten=[])(hc:Cl σ):Cl σ':=by
 unfold Ef at ha;simp only[hy,C7]at ha;unfold J5 at ha
 split at ha
 .rcases h with⟨rfl,rfl⟩ | ⟨hn,i,g,rfl,ho,qc⟩
  .simp only at ha
   split at ha
   .split at ha
    .cases ha;exact hc
    .cases ha;exact R5 hc (by simp[Ob.refs,hz])
   .cases ha
  .simp only at ha
   split at ha
   .simp only[ho,if_true]at ha
    split at ha
    .cases ha;exact hc
    .split at ha
     .split at ha
      .cases ha;refine Hl hc fun j hj=>?_
       simp only[Ob.refs,K2,hz,Cy,Cr]at hj
       have qp:∀ (a:List V) (k:Nat),Am a=[]->Am (a.take k)=[]/\Am (a.drop k)=[]:=by
        intro a k h0;have:=K2 (a.take k) (a.drop k);rw[Li,h0]at this;exact List.append_eq_nil_iff.1 this.symm
       rw[(qp _ _ hx).1,(qp _ _ hx).2]at hj;simp at hj
      .split at ha
       .cases ha;exact Hl hc (by simp[Ob.refs,K2,hx,hz])
       .cases ha
     .cases ha
   .cases ha
 .cases ha
def Aor{σ:St}{m e lo:Nat}{u:V}{xs:List (List V)}(h:GW σ m e lo u xs):∀ i∈u.refs,i<σ.length:=by
 rcases h with⟨rfl,rfl⟩ | ⟨hn,i,g,rfl,ho,qc⟩
 .intro i hi;simp[V.refs]at hi
 .intro j hj;simp[V.refs]at hj;subst hj;exact(Aq.1 ho).1
def Amj{σ1:St}{v:V}{n:Nat}(hr:v.refs=[])(ho:Cq v=true)(hn:n<=σ1.length)(hc:Cl σ1):Hz n (List.range' n (σ1.length - n)) v σ1=true/\v=v.ren (ren n (List.range' n (σ1.length - n)))/\σ1=(σ1.take n++(List.range' n (σ1.length - n)).filterMap (σ1[·]?)).map (Ob.ren (ren n (List.range' n (σ1.length - n)))):=by
 refine⟨?_,?_,?_⟩
 .have hw:∀ is:List Nat,(∀ i∈is,i<σ1.length)->Ey n (List.range' n (σ1.length - n)) is=true:=by
   intro is qm;unfold Ey;rw[Bh];intro i hi;have:=qm i hi;simp;omega
  unfold Hz;simp only[Af];refine⟨ho,hw _ (by rw[hr];simp),?_,?_,?_⟩
  .rw[Bh];intro o hm;refine hw _ fun i hi=>?_
   rcases Cr.1 hm with hm | hm
   .exact hc o (Zd hm) i hi
   .obtain⟨j,_,hj⟩:=List.mem_filterMap.1 hm;exact hc o (Hx hj) i hi
  .simp[List.nodup_range']
  .rw[Bh];intro i hi;simp at hi ⊢;omega
 .exact(Aax _ v (by rw[hr];simp)).symm
 .have he:σ1.take n++(List.range' n (σ1.length - n)).filterMap (σ1[·]?)=σ1:=by
   have:(List.range' n (σ1.length - n)).filterMap (σ1[·]?)=σ1.drop n:=by
    apply Tg;intro i
    have ql:∀ (k n:Nat),n+k<=σ1.length->(List.range' n k).filterMap (σ1[·]?)=(σ1.drop n).take k:=by
     intro k
     induction k with
     | zero=>intro n _;simp
     | succ k ih=>
      intro n hk;rw[Zk,Lj,A2 (by omega)];simp only;rw[ih (n+1) (by omega),Gr (show n<σ1.length by omega),Tb]
    rw[ql _ _ (by omega),Mi (by simp)]
   rw[this,Li]
  rw[he]
  have:∀ l:List Ob,(∀ o∈l,o∈σ1)->l.map (Ob.ren (ren n (List.range' n (σ1.length - n))))=l:=by
   intro l
   induction l with
   | nil=>intro _;rfl
   | cons o l ih=>
    intro hm;rw[Aw,ih fun o ho=>hm o (Cs _ ho),Ajr _ o fun i hi=>Aeo (by have:=hc o (hm o Cx) i hi;omega)]
  exact(this σ1 fun _ h=>h).symm
def Agu{T:Nat->Option AF}{pr:Nat->Option (List V->Option V)}{f p:Nat}{res:List AR}{body:AC}{vs:List V}{v:V}{σ σ':St}(hT:T f=some ⟨p,res,true,body,none⟩)(hl:vs.length=p)
  (h:W T pr [.c body] (Da 0 vs) σ (Hd fun e' σ1=>Ch e' σ1 res=some v/\σ1=σ')) (hr:v.refs=[]) (ho:Cq v=true) (hn:σ.length<=σ'.length) (hc:Cl σ'):Th T pr f vs σ v σ':=by
 obtain⟨e',σ1,hE,qe,rfl⟩:=h;obtain⟨k1,k2,k3⟩:=Amj hr ho hn hc;exact Avc hT rfl rfl hl ⟨e',σ1,hE,v,_,qe,k1,k2,k3⟩
def A1o{T:Nat->Option AF}{pr:Nat->Option (List V->Option V)}{f p:Nat}{res:List AR}{body:AC}{vs:List V}{v:V}{σ σ':St}(hT:T f=some ⟨p,res,true,body,none⟩)(hl:vs.length=p)
  (h:W T pr [.c body] (Da 0 vs) σ (Hd fun e' σ1=>∃ v0 js,Ch e' σ1 res=some v0/\Cq v0=true/\Jq σ1 js v0=some v/\σ'=σ1.freeze js)) (hr:v.refs=[]) (ho:Cq v=true) (hn:σ.length<=σ'.length) (hc:Cl σ'):Th T pr f vs σ v σ':=by
 obtain⟨e',σ1,hE,v0,js,qe,h0,h1,rfl⟩:=h;obtain⟨k1,k2,k3⟩:=Amj hr ho hn hc;exact Ave hT rfl rfl hl ⟨e',σ1,hE,v0,v,js,_,qe,h0,h1,k1,k2,k3⟩
def Aue{T:Nat->Option AF}{pr:Nat->Option (List V->Option V)}{σ:St}{f:Nat}{vs:List V}{v:V}{F:AF}{σ':St}(hT:T f=some F)(qo:F.spec=none)(hl:vs.length=F.pars)(h:W T pr [.c F.body] (Da 0 vs) σ fun e' σ1=>∃ v0 js,Ch e' σ1 F.res=some v0/\Hz σ.length js v0 σ1=true/\v=v0.ren (ren σ.length js)/\σ'=(σ1.take σ.length++js.filterMap (σ1[·]?)).map (Ob.ren (ren σ.length js))):Bt T pr f vs σ v σ':=by
 obtain⟨e',σ1,hE,v0,js,hr,qs,rfl,rfl⟩:=h;exact⟨F,hT,qo,.fnL hT qo hl hE hr qs⟩
def Aos{T:Nat->Option AF}{pr:Nat->Option (List V->Option V)}{f p:Nat}{res:List AR}{thr:Bool}{body:AC}{vs:List V}{v:V}{σ σ':St}(hT:T f=some ⟨p,res,thr,body,none⟩)(hl:vs.length=p)
  (h:W T pr [.c body] (Da 0 vs) σ (Hd fun e' σ1=>Ch e' σ1 res=some v/\σ1=σ')) (hr:∀ i∈v.refs,i<σ'.length) (ho:Cq v=true) (hn:σ.length<=σ'.length) (hc:Cl σ'):Bt T pr f vs σ v σ':=by
 obtain⟨e',σ1,hE,qe,rfl⟩:=h;refine Aue hT rfl hl ⟨e',σ1,hE,v,List.range' σ.length (σ1.length - σ.length),qe,?_,?_,?_⟩
 .have hw:∀ is:List Nat,(∀ i∈is,i<σ1.length)->Ey σ.length (List.range' σ.length (σ1.length - σ.length)) is=true:=by
   intro is qm;unfold Ey;rw[Bh];intro i hi;have:=qm i hi;simp;omega
  unfold Hz;simp only[Af];refine⟨ho,hw _ hr,?_,?_,?_⟩
  .rw[Bh];intro o hm;refine hw _ fun i hi=>?_
   rcases Cr.1 hm with hm | hm
   .exact hc o (Zd hm) i hi
   .obtain⟨j,_,hj⟩:=List.mem_filterMap.1 hm;exact hc o (Hx hj) i hi
  .simp[List.nodup_range']
  .rw[Bh];intro i hi;simp at hi ⊢;omega
 .exact(Aax _ v fun i hi=>Aeo (by have:=hr i hi;omega)).symm
 .have he:σ1.take σ.length++(List.range' σ.length (σ1.length - σ.length)).filterMap (σ1[·]?)=σ1:=by
   have:(List.range' σ.length (σ1.length - σ.length)).filterMap (σ1[·]?)=σ1.drop σ.length:=by
    apply Tg;intro i
    have ql:∀ (k n:Nat),n+k<=σ1.length->(List.range' n k).filterMap (σ1[·]?)=(σ1.drop n).take k:=by
     intro k
     induction k with
     | zero=>intro n _;simp
     | succ k ih=>
      intro n hk;rw[Zk,Lj,A2 (by omega)];simp only;rw[ih (n+1) (by omega),Gr (show n<σ1.length by omega),Tb]
    rw[ql _ _ (by omega),Mi (by simp)]
   rw[this,Li]
  rw[he]
  have:∀ l:List Ob,(∀ o∈l,o∈σ1)->l.map (Ob.ren (ren σ.length (List.range' σ.length (σ1.length - σ.length))))=l:=by
   intro l
   induction l with
   | nil=>intro _;rfl
   | cons o l ih=>
    intro hm;rw[Aw,ih fun o ho=>hm o (Cs _ ho),Ajr _ o fun i hi=>Aeo (by have:=hc o (hm o Cx) i hi;omega)]
  exact(this σ1 fun _ h=>h).symm
def LZ{α:Type}:(∀ a b c:List α,a++b++c=a++(b++c))/\(∀ (a:α) (b c:List α),a::b++c=a::(b++c))/\(∀ a:List α,[]++a=a)/\(∀ a b:List α,(a++b).length=a.length+b.length)/\(∀ (a:α) (b:List α),(a::b).length=b.length+1)/\([]:List α).length=0/\∀ n:Nat,0+n=n:=⟨Br,fun _ _ _=>rfl,fun _=>rfl,fun _ _=>Aj,fun _ _=>rfl,rfl,Fc⟩
