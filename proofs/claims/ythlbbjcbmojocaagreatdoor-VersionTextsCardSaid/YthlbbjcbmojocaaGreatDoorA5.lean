/- THE PLAIN MACHINE, joined texts: Qa Qb Qc Qd Qe Qf Qg. -/
import Derived.Test.YthlbbjcbmojocaaGreatDoorA4
set_option linter.all false
/- Walking by rewriting: what comes of code, as equations. -/
namespace Go.Proofs.YthlbbjcbmojocaaGreatDoor.KM
open Go
variable {T:Nat->Option AF} {pr:Nat->Option (List V->Option V)}
def Bk{α:Sort _}{a b:α}(h:a=b):a=b:=h
/-! slots -/
def get_put:∀ (e:Env) (n m:Nat) (v:V),(Env.put e n v).get m=if n=m then v else Env.get e m
 | [],n,m,v=>by simp only[Env.put,Env.get]
 | (i,u)::r,n,m,v=>by
  simp only[Env.put]
  split
  .rename_i h;subst h;simp only[Env.get]
   split<;>rfl
  .rename_i h;simp only[Env.get,get_put r n m v]
   split
   .rename_i h2;subst h2;rw[if_neg (by omega)]
   .rfl
def As5(e:Env)(n:Nat)(v:V):e.putO (some n) v=e.put n v:=Bk rfl
def As6(e:Env)(v:V):e.putO none v=e:=Bk rfl
def A5g(e:Env)(n:Nat):Ac e (.t n)=e.get n:=rfl
def A5h(e:Env)(v:V):Ac e (.k v)=v:=rfl
def Au6(e:Env)(n m:Nat)(v:V):Env.get ((n,v)::e) m=if n=m then v else Env.get e m:=Bk rfl
/-! what an operation gives -/
inductive Rs where
 | val (v:V) (σ:St)
 | call (f:Nat) (args:List V)
 | fail
def r1(o:Option V)(σ:St):Rs:=
 match o with
 | some v=>.val v σ
 | none=>.fail
def r2(o:Option (V × St)):Rs:=
 match o with
 | some (v,σ)=>.val v σ
 | none=>.fail
def Ayk(v:V)(σ:St):r1 (some v) σ=.val v σ:=Bk rfl
def Ayl(σ:St):r1 none σ=.fail:=Bk rfl
def Aym(v:V)(σ:St):r2 (some (v,σ))=.val v σ:=Bk rfl
def Ayn:r2 none=.fail:=Bk rfl
def Nz(o:Option V)(σ:St):r2 (o.map fun v=>(v,σ))=r1 o σ:=by cases o<;>rfl
def Bc(op:AO)(e:Env)(σ:St):Rs:=
 match Bz e op with
 | some (f,args)=>.call f args
 | none=>r2 (Ae op e σ)
def Af0(c a b:V):Option V:=
 match c with
 | .bool z=>some (if z=true then a else b)
 | _=>none
def Aqa(t:Nat)(x:V)(σ:St):Option (V × St):=if x.cells.all V.cellB=true then some (.ptr σ.length 0 0,σ++[.row x.cells t 0 0]) else none
def mkV(t bytes:Nat)(z:List V)(x y:V)(σ:St):Option (V × St):=
 match x,y with
 | .int .i64 n,.int .i64 c=>if 0<=n/\n<=c/\c.toNat*bytes<=140737488355328 then some (.sl σ.length 0 0 n.toNat z.length true,σ++[.row (List.replicate n.toNat z).flatten t 0 0]) else none
 | _,_=>none
def M5(m n:Nat)(σ:St)(cs:List V):Option (V × St):=(cs.mapM (Ff σ (Fm σ 9 (Al cs).eraseDups) 9)).map fun cs'=>(.lst 1 (Eu m n cs'),σ.freeze (Fm σ 9 (Al cs).eraseDups))
def Abu(n:Nat)(x v:V)(σ:St):Option (V × St):=(Nw σ n x v).map fun σ'=>(.und,σ')
def Agv(x:V):Option V:=
 match x with
 | .imm r o=>some (.imm r o)
 | .ptr b g o=>some (.ptr b g o)
 | _=>none
def Agw(k:EqK)(qi:Bool)(x y:V):Option V:=(Lg k x y).map fun z=>.bool (z != qi)
def Agx(k:IntKind)(x:V):Option V:=
 match x with
 | .int _ n=>some (.int k (k.wrap n))
 | _=>none
def Agy(x:V):Option V:=
 match x with
 | .str l=>some (.str l)
 | _=>none
def Agz(x:V)(σ:St):Option V:=
 match x with
 | .sl i g off len m w=>match σ[i]? with
  | some (.row _ _ g' z)=>if g=g'/\z=0 then some (.sl i g off len m w) else none
  | _=>none
 | _=>none
def Aqb(ty:Nat)(x:V)(σ:St):Option (V × St):=
 match x with
 | .str l=>some (.sl σ.length 0 0 l.length 1 true,σ++[.row (Bh l).flatten ty 0 0])
 | _=>none
def Ag0(x:V)(σ:St):Option V:=(Fr σ 1 x).bind fun xs=>(I0 xs).map fun l=>.str l
def Af1(len m:Nat)(x:V)(lo hi:Option V):Option V:=
 match x with
 | .ptr i g off=>(D2 lo 0).bind fun a=>(D2 hi len).bind fun b=>if a<=b/\b<=len then some (.sl i g (off+a*m) (b - a) m false) else none
 | _=>none
def Abv(off:Nat)(x:V):Option V:=
 match x with
 | .imm r o=>some (.imm r (o+off))
 | .ptr b g o=>some (.ptr b g (o+off))
 | _=>none
def Ag1(off n:Nat)(one:Bool)(x:V):Option V:=
 match x with
 | .agg cs=>if off+n<=cs.length then Ga one ((cs.drop off).take n) else none
 | _=>none
def Of(m:Nat)(x i:V):Option V:=
 match x with
 | .lst _ xs=>(Ia xs i).bind fun r=>if r.length=m then some (.imm r 0) else none
 | .sl j g off len m' _=>match i with
  | .int _ n=>if 0<=n/\n<len/\m=m' then some (.ptr j g (off+n.toNat*m)) else none
  | _=>none
 | _=>none
def Ag2(len m:Nat)(x i:V):Option V:=
 match i with
 | .int _ n=>if 0<=n/\n<len then(match x with
  | .imm r o=>some (.imm r (o+n.toNat*m))
  | .ptr b g o=>some (.ptr b g (o+n.toNat*m))
  | _=>none) else none
 | _=>none
def Ag3(x i:V):Option V:=
 match x with
 | .str l=>(Ia l i).map fun c=>.int .u8 (c.toNat:Int)
 | _=>none
def Ag4(len m:Nat)(one:Bool)(x i:V):Option V:=
 match i with
 | .int _ n=>if 0<=n/\n<len then(match x with
  | .agg cs=>if n.toNat*m+m<=cs.length then Ga one ((cs.drop (n.toNat*m)).take m) else none
  | _=>none) else none
 | _=>none
def Ag5(i:Nat)(x:V):Option V:=
 match x with
 | .tup vs=>vs[i]?
 | _=>none
def Af2(x:V):Option V:=
 match x with
 | .str l=>some (.int .i64 (l.length:Int))
 | _=>none
def Og(x:V):Option V:=
 match x with
 | .nils=>some (.int .i64 0)
 | .lst _ xs=>some (.int .i64 (xs.length:Int))
 | .sl _ _ _ len _ _=>some (.int .i64 (len:Int))
 | _=>none
def D5(bytes:Nat)(m:Nat × Nat)(x y:V)(σ:St):Option (V × St):=(Fr σ m.1 y).bind fun ys=>Je bytes m σ x ys
def Apj(ty:Nat)(x y:V)(σ:St):Option (V × St):=
 match y with
 | .str l=>Je 1 (1,ty) σ x (Bh l)
 | _=>none
def mxV(x y:V):Option V:=
 match x,y with
 | .int k a,.int k' b=>if k=k' then some (.int k (max a b)) else none
 | _,_=>none
def mnV(x y:V):Option V:=
 match x,y with
 | .int k a,.int k' b=>if k=k' then some (.int k (min a b)) else none
 | _,_=>none
def Ag6(f:Nat)(a c:List V):Option V:=if(a.all V.cellB&&c.all V.cellB)=true then some (.fn f a c) else none
def Ag7(z x k:V)(σ:St):Option V:=
 match x,k with
 | .mp i,.str s=>match σ[i]? with
  | some (.map kvs)=>some (match L5 s kvs 0 with
   | some (_,v)=>v
   | none=>z)
  | _=>none
 | _,_=>none
def Aqc(x k v:V)(σ:St):Option (V × St):=
 match x,k with
 | .mp i,.str s=>match σ[i]? with
  | some (.map kvs)=>if v.flatB=true then some (.und,σ.set i (.map (match L5 s kvs 0 with
   | some (j,_)=>kvs.set j (s,v)
   | none=>kvs++[(s,v)]))) else none
  | _=>none
 | _,_=>none
section
variable {e:Env} {σ:St}
def A5i(x:S):Bc (.mov x) e σ=.val (Ac e x) σ:=Bk rfl
def A14(c a b:S):Bc (.pick c a b) e σ=r1 (Af0 (Ac e c) (Ac e a) (Ac e b)) σ:=by
 simp only[Bc,Bz,Ae,Af0];cases Ac e c<;>rfl
def A5j(t:Nat)(z:List V):Bc (.new t z) e σ=.val (.ptr σ.length 0 0) (σ++[.row z t 0 0]):=Bk rfl
def A5k(t:Nat)(x:S):Bc (.box t x) e σ=r2 (Aqa t (Ac e x) σ):=Bk rfl
def Ayo(z:List V)(ps:List (Nat × Nat × S)):Bc (.build z ps) e σ=r1 ((G7 z (ps.map fun p=>(p.1,p.2.1,Ac e p.2.2))).map fun cs=>.agg cs) σ:=by
 simp only[Bc,Bz,Ae];cases G7 z (ps.map fun p=>(p.1,p.2.1,Ac e p.2.2))<;>rfl
def A15(n:Nat)(z:List V)(ps:List (Nat × S)):Bc (.rows n z ps) e σ=r1 ((G7 (List.replicate n z).flatten (ps.map fun p=>(p.1*z.length,z.length,Ac e p.2))).bind fun cs=>if cs.all V.rowB=true then some (.lst 1 (Eu z.length n cs)) else none) σ:=by
 simp only[Bc,Bz,Ae]
 cases G7 (List.replicate n z).flatten (ps.map fun p=>(p.1*z.length,z.length,Ac e p.2)) with
 | none=>rfl
 | some cs=>simp only[C4];split<;>rfl
def A16(n:Nat)(z:List V)(ps:List (Nat × S)):Bc (.rowf n z ps) e σ=r2 ((G7 (List.replicate n z).flatten (ps.map fun p=>(p.1*z.length,z.length,Ac e p.2))).bind fun cs=>M5 z.length n σ cs):=Bk rfl
def A17(t n:Nat)(z:List V)(ps:List (Nat × S)):Bc (.rowo t n z ps) e σ=r2 ((G7 (List.replicate n z).flatten (ps.map fun p=>(p.1*z.length,z.length,Ac e p.2))).map fun cs=>(.sl σ.length 0 0 n z.length true,σ++[.row cs t 0 0])):=Bk rfl
def A7x(t bytes:Nat)(z:List V)(x y:S):Bc (.mk t bytes z x y) e σ=r2 (mkV t bytes z (Ac e x) (Ac e y) σ):=Bk rfl
def A18(n:Nat)(one:Bool)(x:S):Bc (.load n one x) e σ=r1 (Hn σ n one (Ac e x)) σ:=Nz _ _
def Ayp(n:Nat)(x v:S):Bc (.store n x v) e σ=r2 (Abu n (Ac e x) (Ac e v) σ):=Bk rfl
def A5l(x:S):Bc (.chk x) e σ=r1 (Agv (Ac e x)) σ:=by
 simp only[Bc,Bz,Ae,Agv];cases Ac e x<;>rfl
def A5m(o:BinOp)(x y:S):Bc (.bin o x y) e σ=r1 (Xj o (Ac e x) (Ac e y)) σ:=Nz _ _
def A7y(k:EqK)(qi:Bool)(x y:S):Bc (.eq k qi x y) e σ=r1 (Agw k qi (Ac e x) (Ac e y)) σ:=by
 simp only[Bc,Bz,Ae,Agw];cases Lg k (Ac e x) (Ac e y)<;>rfl
def A7z(o:UnOp)(x:S):Bc (.un o x) e σ=r1 (unV o (Ac e x)) σ:=Nz _ _
def A5n(k:IntKind)(x:S):Bc (.cvi k x) e σ=r1 (Agx k (Ac e x)) σ:=by
 simp only[Bc,Bz,Ae,Agx];cases Ac e x<;>rfl
def A5o(x:S):Bc (.cvs x) e σ=r1 (Agy (Ac e x)) σ:=by
 simp only[Bc,Bz,Ae,Agy];cases Ac e x<;>rfl
def A5p(x:S):Bc (.cvl x) e σ=r1 (Agz (Ac e x) σ) σ:=by
 simp only[Bc,Bz,Ae,Agz]
 cases Ac e x with
 | sl i g off len m w=>
  simp only
  cases σ[i]? with
  | none=>rfl
  | some ob=>
   cases ob with
   | row cs e g' z=>simp only;split<;>rfl
   | _=>rfl
 | _=>rfl
def A5q(ty:Nat)(x:S):Bc (.stb ty x) e σ=r2 (Aqb ty (Ac e x) σ):=Bk rfl
def A5r(x:S):Bc (.bts x) e σ=r1 (Ag0 (Ac e x) σ) σ:=by
 simp only[Bc,Bz,Ae,Ag0]
 cases Fr σ 1 (Ac e x) with
 | none=>rfl
 | some xs=>simp only[C4];cases I0 xs<;>rfl
def A19(x:S)(lo hi:Option S):Bc (.slcs x lo hi) e σ=r1 (Pq (Ac e x) (lo.map (Ac e)) (hi.map (Ac e))) σ:=Nz _ _
def A5s(m:Nat)(x:S)(lo hi mx:Option S):Bc (.slc m x lo hi mx) e σ=r1 (N8 m (Ac e x) (lo.map (Ac e)) (hi.map (Ac e)) (mx.map (Ac e))) σ:=Nz _ _
def A5t(n:Nat)(x:S):Bc (.sap n x) e σ=r1 (Abr n (Ac e x)) σ:=Nz _ _
def A2a(len m:Nat)(x:S)(lo hi:Option S):Bc (.slca len m x lo hi) e σ=r1 (Af1 len m (Ac e x) (lo.map (Ac e)) (hi.map (Ac e))) σ:=by
 simp only[Bc,Bz,Ae,Af1]
 cases Ac e x with
 | ptr i g off=>
  simp only
  cases D2 (lo.map (Ac e)) 0 with
  | none=>rfl
  | some a=>
   simp only[C4]
   cases D2 (hi.map (Ac e)) len with
   | none=>rfl
   | some b=>simp only[C4];split<;>rfl
 | _=>rfl
def A5u(off:Nat)(x:S):Bc (.fad off x) e σ=r1 (Abv off (Ac e x)) σ:=by
 simp only[Bc,Bz,Ae,Abv];cases Ac e x<;>rfl
def A5v(off n:Nat)(one:Bool)(x:S):Bc (.fld off n one x) e σ=r1 (Ag1 off n one (Ac e x)) σ:=by
 simp only[Bc,Bz,Ae,Ag1]
 cases Ac e x with
 | agg cs=>simp only;split;· exact Nz _ _
           .rfl
 | _=>rfl
def A5w(m:Nat)(x i:S):Bc (.iad m x i) e σ=r1 (Of m (Ac e x) (Ac e i)) σ:=by
 simp only[Bc,Bz,Ae,Of]
 cases Ac e x with
 | lst t xs=>
  simp only
  cases Ia xs (Ac e i) with
  | none=>rfl
  | some r=>simp only[C4];split<;>rfl
 | sl j g off len m' w=>
  simp only
  cases Ac e i with
  | int k n=>simp only;split<;>rfl
  | _=>rfl
 | _=>rfl
def A5x(len m:Nat)(x i:S):Bc (.iar len m x i) e σ=r1 (Ag2 len m (Ac e x) (Ac e i)) σ:=by
 simp only[Bc,Bz,Ae,Ag2]
 cases Ac e i with
 | int k n=>simp only;split;· cases Ac e x<;>rfl
            .rfl
 | _=>rfl
def A5y(x i:S):Bc (.idx x i) e σ=r1 (Ag3 (Ac e x) (Ac e i)) σ:=by
 simp only[Bc,Bz,Ae,Ag3]
 cases Ac e x with
 | str l=>simp only;cases Ia l (Ac e i)<;>rfl
 | _=>rfl
def A5z(len m:Nat)(one:Bool)(x i:S):Bc (.ida len m one x i) e σ=r1 (Ag4 len m one (Ac e x) (Ac e i)) σ:=by
 simp only[Bc,Bz,Ae,Ag4]
 cases Ac e i with
 | int k n=>
  simp only
  split
  .cases Ac e x with
   | agg cs=>simp only;split;· exact Nz _ _
             .rfl
   | _=>rfl
  .rfl
 | _=>rfl
def A50(i:Nat)(x:S):Bc (.ext i x) e σ=r1 (Ag5 i (Ac e x)) σ:=by
 simp only[Bc,Bz,Ae,Ag5]
 cases Ac e x with
 | tup vs=>exact Nz _ _
 | _=>rfl
def A2b(x:S):Bc (.lens x) e σ=r1 (Af2 (Ac e x)) σ:=by
 simp only[Bc,Bz,Ae,Af2];cases Ac e x<;>rfl
def A51(x:S):Bc (.len x) e σ=r1 (Og (Ac e x)) σ:=by
 simp only[Bc,Bz,Ae,Og];cases Ac e x<;>rfl
def A52(bytes:Nat)(m:Nat × Nat)(x y:S):Bc (.app bytes m x y) e σ=r2 (D5 bytes m (Ac e x) (Ac e y) σ):=Bk rfl
def A2c(ty:Nat)(x y:S):Bc (.apps ty x y) e σ=r2 (Apj ty (Ac e x) (Ac e y) σ):=Bk rfl
def A70(x y:S):Bc (.mx x y) e σ=r1 (mxV (Ac e x) (Ac e y)) σ:=by
 simp only[Bc,Bz,Ae,mxV]
 cases Ac e x with
 | int k a=>
  cases Ac e y with
  | int k' b=>simp only;split<;>rfl
  | _=>rfl
 | _=>rfl
def A71(x y:S):Bc (.mn x y) e σ=r1 (mnV (Ac e x) (Ac e y)) σ:=by
 simp only[Bc,Bz,Ae,mnV]
 cases Ac e x with
 | int k a=>
  cases Ac e y with
  | int k' b=>simp only;split<;>rfl
  | _=>rfl
 | _=>rfl
def A53(f:Nat)(a c:List S):Bc (.mkf f a c) e σ=r1 (Ag6 f (a.map (Ac e)) (c.map (Ac e))) σ:=by
 simp only[Bc,Bz,Ae,Ag6];split<;>rfl
def A54:Bc .mmk e σ=.val (.mp σ.length) (σ++[.map []]):=Bk rfl
def A55(z:V)(x k:S):Bc (.mlk z x k) e σ=r1 (Ag7 z (Ac e x) (Ac e k) σ) σ:=by
 simp only[Bc,Bz,Ae,Ag7]
 cases Ac e x with
 | mp i=>
  cases Ac e k with
  | str s=>
   simp only
   cases σ[i]? with
   | none=>rfl
   | some ob=>cases ob<;>rfl
  | _=>rfl
 | _=>rfl
def A56(x k v:S):Bc (.mup x k v) e σ=r2 (Aqc (Ac e x) (Ac e k) (Ac e v) σ):=Bk rfl
def A2d(f:Nat)(xs:List S):Bc (.call f xs) e σ=.call f (xs.map (Ac e)):=Bk rfl
def Ag8(x:V)(ys:List V):Rs:=
 match x with
 | .fn f a c=>.call f (a++ys++c)
 | _=>.fail
def Ayq(x:S)(xs:List S):Bc (.callv x xs) e σ=Ag8 (Ac e x) (xs.map (Ac e)):=by
 simp only[Bc,Bz,Ag8];cases Ac e x<;>rfl
end
variable {T:Nat->Option AF} {pr:Nat->Option (List V->Option V)}
def o(d:Nat)(op:AO):AI:=⟨some d,op,none⟩
def on(op:AO):AI:=⟨none,op,none⟩
def og(d:Nat)(op:AO)(t:Nat)(w:Bool):AI:=⟨some d,op,some (t,w)⟩
def oh(op:AO)(t:Nat)(w:Bool):AI:=⟨none,op,some (t,w)⟩
inductive CallS (T:Nat->Option AF) (pr:Nat->Option (List V->Option V)) (f:Nat) (args:List V) (σ:St):V->St->Prop
 | prim {s:List V->Option V} {vs:List V} {v:V}:pr f=some s->De σ args=some vs->s vs=some v->CallS T pr f args σ v (after σ args v)
 | pure {vs:List V} {v:V}:De σ args=some vs->Fn T pr f vs v->CallS T pr f args σ v (after σ args v)
 | own {σ0:St} {vs:List V} {v:V}:De σ args=some vs->FnO T pr f vs v σ0->CallS T pr f args σ (v.ren (·+σ.length)) (own σ args σ0)
 | any {v:V} {σ1:St}:Bt T pr f args σ v σ1->CallS T pr f args σ v σ1
 | thr {v:V} {σ1:St}:Th T pr f args σ v σ1->CallS T pr f args σ v σ1
 | spec {F:AF} {s:List V->St->Option (V × St)} {v:V} {σ1:St}:T f=some F->F.thr=true->F.spec=some s->s args σ=some (v,σ1)->CallS T pr f args σ v σ1
def CallS.sg{i:AI}{f:Nat}{args:List V}{e:Env}{σ σ1:St}{v:V}(h:CallS T pr f args σ v σ1)(hw:Co e i=some true)(hc:Bz e i.op=some (f,args)):Sg T pr i e σ v σ1:=by
 cases h with
 | prim h1 h2 h3=>exact .prim hw hc h1 h2 h3
 | pure h1 h2=>exact .pure hw hc h1 h2
 | own hx h=>obtain⟨F,h1,h2,h3,h4⟩:=h;exact .own hw hc h1 h2 h3 hx h4
 | any h=>obtain⟨F,h1,h3,h4⟩:=h;exact .any hw hc h1 h3 h4
 | thr h=>obtain⟨F,h1,h2,h3,h4⟩:=h;exact .thr hw hc h1 h2 h3 h4
 | spec h1 h2 h3 h4=>exact .spec hw hc h1 h2 h3 h4
def WE(T:Nat->Option AF)(pr:Nat->Option (List V->Option V))(e:Env)(k:List It)(σ:St)(Q:Env->St->Prop):Prop:=W T pr k e σ Q
def WR(T:Nat->Option AF)(pr:Nat->Option (List V->Option V))(l:List AI)(kill:List Nat)(k:List It)(e:Env)(σ:St)(Q:Env->St->Prop):Prop:=WO T pr l e σ fun e1 σ1=>W T pr k (e1.del kill) σ1 Q
def WX(T:Nat->Option AF)(pr:Nat->Option (List V->Option V))(r:Rs)(d:Option Nat)(l:List AI)(kill:List Nat)(k:List It)(e:Env)(σ:St)(Q:Env->St->Prop):Prop:=
 match r with
 | .val v σ1=>WR T pr l kill k (e.putO d v) σ1 Q
 | .call f args=>∃ v σ1,CallS T pr f args σ v σ1/\WR T pr l kill k (e.putO d v) σ1 Q
 | .fail=>False
def WD(T:Nat->Option AF)(pr:Nat->Option (List V->Option V))(g:V)(w:Bool)(d:Option Nat)(op:AO)(l:List AI)(kill:List Nat)(k:List It)(e:Env)(σ:St)(Q:Env->St->Prop):Prop:=
 match g with
 | .bool b=>if b=w then WX T pr (Bc op e σ) d l kill k e σ Q else WR T pr l kill k (e.putO d .skp) σ Q
 | .skp=>WR T pr l kill k (e.putO d .skp) σ Q
 | _=>False
def WC(T:Nat->Option AF)(pr:Nat->Option (List V->Option V))(g:V)(kill:List Nat)(x y:AC)(k:List It)(e:Env)(σ:St)(Q:Env->St->Prop):Prop:=
 match g with
 | .bool true=>WE T pr (e.del kill) (.c x::k) σ Q
 | .bool false=>WE T pr (e.del kill) (.c y::k) σ Q
 | _=>False
def WJ(T:Nat->Option AF)(pr:Nat->Option (List V->Option V))(id:Nat):List It->Env->St->(Env->St->Prop)->Prop
 | [],_,_,_=>False
 | .b i::k,e,σ,Q=>if i=id then W T pr k e σ Q else WJ T pr id k e σ Q
 | .c _::k,e,σ,Q=>WJ T pr id k e σ Q
 | .l _ _::k,e,σ,Q=>WJ T pr id k e σ Q
def get_keep(e:Env)(n:Nat):∀ ks:List Nat,ks.elem n=true->(e.keep ks).get n=e.get n
 | [],h=>by cases h
 | m::ks,h=>by
  simp only[Env.keep,Env.get]
  split
  .rename_i h;rw[h]
  .rename_i hm;refine get_keep e n ks ?_;simp only[List.elem_eq_mem,Bj,decide_eq_true_eq]at h ⊢;exact h.resolve_left fun h=>hm h.symm
def Akn(e:Env)(ks:List Nat):∀ js:List Nat,(∀ n,js.elem n=true->ks.elem n=true)->(e.keep ks).keep js=e.keep js
 | [],_=>rfl
 | m::js,h=>by
  simp only[Env.keep];rw[get_keep e m ks (h m (by simp)),Akn e ks js fun n hn=>h n (by simp at hn ⊢;exact .inr hn)]
def Aje(e:Env)(ks:List Nat):e.keep ks=(e.keep ks).keep ks:=(Akn e ks ks fun _ h=>h).symm
section
variable {Q:Env->St->Prop} {e:Env} {σ:St} {k:List It} {l:List AI} {kill:List Nat}
def Af3(a b:AC):W T pr (.c (.seq a b)::k) e σ Q=W T pr (.c a::.c b::k) e σ Q:=propext ⟨fun⟨e',σ',h,q⟩=>by cases h with | cSeq h=>exact⟨e',σ',h,q⟩,A42⟩
def A2e:W T pr (.c .skip::k) e σ Q=W T pr k e σ Q:=propext ⟨fun⟨e',σ',h,q⟩=>by cases h with | cSkip h=>exact⟨e',σ',h,q⟩,A1k⟩
def Apk(id:Nat)(c:AC):W T pr (.c (.blk id c)::k) e σ Q=W T pr (.c c::.b id::k) e σ Q:=propext ⟨fun⟨e',σ',h,q⟩=>by cases h with | cBlk h=>exact⟨e',σ',h,q⟩,A43⟩
def A57(id:Nat):W T pr (.b id::k) e σ Q=W T pr k e σ Q:=propext ⟨fun⟨e',σ',h,q⟩=>by cases h with | cEnd h=>exact⟨e',σ',h,q⟩,A44⟩
def A2f(keep:List Nat)(c:AC):W T pr (.c (.loop keep c)::k) e σ Q=WE T pr (e.keep keep) (.l keep c::k) σ Q:=by
 refine propext ⟨fun⟨e',σ',h,q⟩=>?_,fun h=>A1l (Bd h ?_)⟩
 .cases h with
  | cLoop h=>exact Bd ⟨e',σ',h,q⟩ (Aje e keep).symm
 .exact(Aje e keep)
def Ayr(keep:List Nat)(c:AC):W T pr (.l keep c::k) e σ Q=WE T pr (e.keep keep) (.c c::.l keep c::k) σ Q:=propext ⟨fun⟨e',σ',h,q⟩=>by cases h with | cAgain h=>exact⟨e',σ',h,q⟩,Ax8⟩
def A58:W T pr (.c .ret::k) e σ Q=Q e σ:=propext ⟨fun⟨e',σ',h,q⟩=>by cases h with | cRet=>exact q,A45⟩
def Apl:W T pr [] e σ Q=Q e σ:=propext ⟨fun⟨e',σ',h,q⟩=>by cases h with | cNil=>exact q,A46⟩
def A59(ops:List AI):W T pr (.c (.reg kill ops)::k) e σ Q=WR T pr ops kill k e σ Q:=propext ⟨fun⟨e',σ',h,q⟩=>by cases h with | cReg h h2=>exact⟨_,_,h,e',σ',h2,q⟩,fun⟨_,_,h,e',σ',h2,q⟩=>⟨e',σ',.cReg h h2,q⟩⟩
def A2g(c:S)(x y:AC):W T pr (.c (.cond c kill x y)::k) e σ Q=WC T pr (Ac e c) kill x y k e σ Q:=by
 refine propext ⟨fun⟨e',σ',h,q⟩=>?_,fun h=>?_⟩
 .cases h with
  | cCond hc h=>
   rw[hc];rename_i z;cases z
   .exact⟨e',σ',h,q⟩
   .exact⟨e',σ',h,q⟩
 .unfold WC at h
  split at h
  .rename_i hc;exact Au2 hc h
  .rename_i hc;exact Au3 hc h
  .exact h.elim
def Xc(id:Nat):∀ k':List It,WJ T pr id k' e σ Q↔∃ k2,exitTo id k'=some k2/\W T pr k2 e σ Q
 | []=>by simp[WJ,exitTo]
 | .b i::k'=>by
  simp only[WJ,exitTo]
  split
  .simp
  .exact Xc id k'
 | .c _::k'=>by simp only[WJ,exitTo];exact Xc id k'
 | .l _ _::k'=>by simp only[WJ,exitTo];exact Xc id k'
def A2h(id:Nat):W T pr (.c (.exit id)::k) e σ Q=WJ T pr id k e σ Q:=propext ⟨fun⟨e',σ',h,q⟩=>by cases h with | cExit hk h=>exact(Xc id k).2 ⟨_,hk,e',σ',h,q⟩,fun h=>let ⟨_,h1,h2⟩:=(Xc id k).1 h;A1m h1 h2⟩
def A72(id i:Nat):WJ T pr id (.b i::k) e σ Q=if i=id then W T pr k e σ Q else WJ T pr id k e σ Q:=Bk rfl
def A73(id:Nat)(c:AC):WJ T pr id (.c c::k) e σ Q=WJ T pr id k e σ Q:=Bk rfl
def A74(id:Nat)(kp:List Nat)(c:AC):WJ T pr id (.l kp c::k) e σ Q=WJ T pr id k e σ Q:=Bk rfl
def we:WE T pr e k σ Q=W T pr k e σ Q:=Bk rfl
def A2i:WR T pr [] kill k e σ Q=WE T pr (e.del kill) k σ Q:=propext ⟨fun⟨_,_,h,q⟩=>by cases h with | opsNil=>exact q,fun h=>⟨_,_,.opsNil,h⟩⟩
def A2j(v:V)(σ1:St)(d:Option Nat):WX T pr (.val v σ1) d l kill k e σ Q=WR T pr l kill k (e.putO d v) σ1 Q:=Bk rfl
def Ays(d:Option Nat):WX T pr .fail d l kill k e σ Q=False:=Bk rfl
def Ms{f:Nat}{args:List V}{d:Option Nat}{v:V}{σ1:St}(hc:CallS T pr f args σ v σ1)(h:WR T pr l kill k (e.putO d v) σ1 Q):WX T pr (.call f args) d l kill k e σ Q:=⟨v,σ1,hc,h⟩
def Arg{op:AO}{r:V × St}(h:Ae op e σ=some r):Bz e op=none:=by
 cases op with
 | call f xs=>cases h
 | callv x xs=>cases h
 | _=>rfl
def Af4{i:AI}(hw:Co e i=some true):WR T pr (i::l) kill k e σ Q=WX T pr (Bc i.op e σ) i.dst l kill k e σ Q:=by
 refine propext ⟨fun⟨e',σ',h,q⟩=>?_,fun h=>?_⟩
 .cases h with
  | opsSkip hw' _=>rw[hw]at hw';cases hw'
  | opsVal _ hv h=>
   unfold Bc;rw[Arg hv,hv];exact⟨_,_,h,q⟩
  | opsPrim _ hc h1 h2 h3 h=>
   unfold Bc;rw[hc];exact⟨_,_,.prim h1 h2 h3,_,_,h,q⟩
  | opsPure _ hc h1 h2 h3 h4 h5 h6 h=>
   unfold Bc;rw[hc];exact⟨_,_,.pure h4 ⟨_,h1,h2,h3,_,_,h5,h6⟩,_,_,h,q⟩
  | opsOwn _ hc h1 h2 h3 hx h4 h=>
   unfold Bc;rw[hc];exact⟨_,_,.own hx ⟨_,h1,h2,h3,h4⟩,_,_,h,q⟩
  | opsAny _ hc h1 h3 h4 h=>
   unfold Bc;rw[hc];exact⟨_,_,.any ⟨_,h1,h3,h4⟩,_,_,h,q⟩
  | opsThr _ hc h1 h2 h3 h4 h=>
   unfold Bc;rw[hc];exact⟨_,_,.thr ⟨_,h1,h2,h3,h4⟩,_,_,h,q⟩
  | opsSpec _ hc h1 h2 h3 h4 h=>
   unfold Bc;rw[hc];exact⟨_,_,.spec h1 h2 h3 h4,_,_,h,q⟩
 .unfold Bc at h
  split at h
  .rename_i f args hc;obtain⟨v,σ1,hs,e',σ',h,q⟩:=h;exact⟨e',σ',(hs.sg hw hc).ev h,q⟩
  .cases hv:Ae i.op e σ with
   | none=>rw[hv]at h;exact h.elim
   | some p=>
    obtain⟨v,σ1⟩:=p;rw[hv]at h;obtain⟨e',σ',h,q⟩:=h;exact⟨e',σ',.opsVal hw hv h,q⟩
def A75(d:Nat)(op:AO):WR T pr (o d op::l) kill k e σ Q=WX T pr (Bc op e σ) (some d) l kill k e σ Q:=Af4 (i:=o d op) rfl
def A6a(op:AO):WR T pr (on op::l) kill k e σ Q=WX T pr (Bc op e σ) none l kill k e σ Q:=Af4 (i:=on op) rfl
def Amh{i:AI}(hw:Co e i=some false):WR T pr (i::l) kill k e σ Q=WR T pr l kill k (e.putO i.dst .skp) σ Q:=by
 refine propext ⟨fun⟨e',σ',h,q⟩=>?_,fun⟨e',σ',h,q⟩=>⟨e',σ',.opsSkip hw h,q⟩⟩
 cases h with
 | opsSkip _ h=>exact⟨_,_,h,q⟩
 | opsVal hw'=>rw[hw]at hw';cases hw'
 | opsPrim hw'=>rw[hw]at hw';cases hw'
 | opsPure hw'=>rw[hw]at hw';cases hw'
 | opsOwn hw'=>rw[hw]at hw';cases hw'
 | opsAny hw'=>rw[hw]at hw';cases hw'
 | opsThr hw'=>rw[hw]at hw';cases hw'
 | opsSpec hw'=>rw[hw]at hw';cases hw'
def Aqd{i:AI}{t:Nat}{w:Bool}(hg:i.g=some (t,w)):WR T pr (i::l) kill k e σ Q=WD T pr (e.get t) w i.dst i.op l kill k e σ Q:=by
 unfold WD
 have hd:Co e i=(match e.get t with
  | .bool b=>some (b==w)
  | .skp=>some false
  | _=>none):=by unfold Co;rw[hg];rfl
 have no:Co e i=none->WR T pr (i::l) kill k e σ Q=False:=by
  intro hn;refine propext ⟨?_,False.elim⟩;rintro⟨e',σ',h,q⟩
  cases h with
  | opsSkip hw'=>rw[hn]at hw';cases hw'
  | opsVal hw'=>rw[hn]at hw';cases hw'
  | opsPrim hw'=>rw[hn]at hw';cases hw'
  | opsPure hw'=>rw[hn]at hw';cases hw'
  | opsOwn hw'=>rw[hn]at hw';cases hw'
  | opsAny hw'=>rw[hn]at hw';cases hw'
  | opsThr hw'=>rw[hn]at hw';cases hw'
  | opsSpec hw'=>rw[hn]at hw';cases hw'
 split
 .rename_i b hb;rw[hb]at hd;simp only at hd
  split
  .rename_i qd;subst qd;exact Af4 (by rw[hd];simp)
  .rename_i qd;exact Amh (by rw[hd];simp[qd])
 .rename_i hb;rw[hb]at hd;exact Amh hd
 .rename_i h1 h2;refine no ?_;rw[hd]
  split
  .rename_i b hb;exact absurd hb (h1 b)
  .rename_i hb;exact absurd hb h2
  .rfl
def A6b(d:Nat)(op:AO)(t:Nat)(w:Bool):WR T pr (og d op t w::l) kill k e σ Q=WD T pr (e.get t) w (some d) op l kill k e σ Q:=Aqd (i:=og d op t w) rfl
def A6c(op:AO)(t:Nat)(w:Bool):WR T pr (oh op t w::l) kill k e σ Q=WD T pr (e.get t) w none op l kill k e σ Q:=Aqd (i:=oh op t w) rfl
def A2k(w:Bool)(d:Option Nat)(op:AO):WD T pr .skp w d op l kill k e σ Q=WR T pr l kill k (e.putO d .skp) σ Q:=Bk rfl
def Ayt(x y:AC):WC T pr (.bool true) kill x y k e σ Q=WE T pr (e.del kill) (.c x::k) σ Q:=Bk rfl
def Au7(x y:AC):WC T pr (.bool false) kill x y k e σ Q=WE T pr (e.del kill) (.c y::k) σ Q:=Bk rfl
def Apm{b:Bool}{x y:AC}(h1:b=true->WE T pr (e.del kill) (.c x::k) σ Q)(h2:b=false->WE T pr (e.del kill) (.c y::k) σ Q):WC T pr (.bool b) kill x y k e σ Q:=by
 cases b
 .exact h2 rfl
 .exact h1 rfl
end
/-! only the first part is looked at while it is reckoned -/
section
variable {Q:Env->St->Prop} {e e':Env} {σ σ':St} {k:List It} {l:List AI} {kill:List Nat}
@[congr] theorem A9n (h:e=e'):W T pr k e σ Q=W T pr k e' σ Q:=by rw[h]
@[congr] theorem A9h (h:e=e'):WE T pr e k σ Q=WE T pr e' k σ Q:=by rw[h]
@[congr] theorem A9i (h:e=e'):WR T pr l kill k e σ Q=WR T pr l kill k e' σ Q:=by rw[h]
@[congr] theorem A9j {r r':Rs} {d:Option Nat} (h:r=r'):WX T pr r d l kill k e σ Q=WX T pr r' d l kill k e σ Q:=by rw[h]
@[congr] theorem A9k {g g':V} {w:Bool} {d:Option Nat} {op:AO} (h:g=g'):WD T pr g w d op l kill k e σ Q=WD T pr g' w d op l kill k e σ Q:=by rw[h]
@[congr] theorem A9l {g g':V} {x y:AC} (h:g=g'):WC T pr g kill x y k e σ Q=WC T pr g' kill x y k e σ Q:=by rw[h]
end
variable {T:Nat->Option AF} {pr:Nat->Option (List V->Option V)}
inductive Kd where
 | pu | rd | ef
def kd:AO->Kd
 | .new _ _ | .box _ _ | .store _ _ _ | .app _ _ _ _ | .apps _ _ _ | .rowf _ _ _ | .rowo _ _ _ _ | .mk _ _ _ _ _ | .stb _ _ | .mmk | .mup _ _ _ | .call _ _ | .callv _ _=>.ef
 | .load _ _ _ | .mlk _ _ _ | .bts _ | .cvl _=>.rd
 | _=>.pu
def A6d{op:AO}(h:kd op=.pu):Fg T pr op=0:=by
 cases op<;>simp[kd]at h<;>simp[Fg]
def A6e{op:AO}(h:kd op=.rd){e:Env}{σ σ1:St}{v:V}(hv:Ae op e σ=some (v,σ1)):σ1=σ:=by
 cases op with
 | load n one x=>
  simp only[Ae,Bm]at hv;obtain⟨_,_,h⟩:=hv;cases h;rfl
 | mlk z x k=>
  simp only[Ae]at hv
  split at hv
  .split at hv
   .cases hv;rfl
   .cases hv
  .cases hv
 | bts x=>
  simp only[Ae,Dx,Bm]at hv;obtain⟨_,_,_,_,h⟩:=hv;cases h;rfl
 | cvl x=>
  simp only[Ae]at hv
  split at hv
  .split at hv
   .split at hv
    .cases hv;rfl
    .cases hv
   .cases hv
  .cases hv
 | _=>simp[kd]at h
def CallP(T:Nat->Option AF)(pr:Nat->Option (List V->Option V))(f:Nat)(vs:List V)(v:V):Prop:=(∃ s,pr f=some s/\s vs=some v)\/Fn T pr f vs v
def CallP.sg{i:AI}{f:Nat}{args vs:List V}{e:Env}{σ:St}{v:V}(h:CallP T pr f vs v)(hw:Co e i=some true)(hc:Bz e i.op=some (f,args))(hx:De σ args=some vs):Sg T pr i e σ v (after σ args v):=by
 rcases h with⟨s,h1,h2⟩ | h
 .exact .prim hw hc h1 hx h2
 .exact .pure hw hc hx h
def Jh(qa:List (List Nat))(n m:Nat)(i:AI)(z:Kd)(v:V)(σ1:St)(e:Env)(σ:St)(fs:Fs)(ls:Ls)(K:Env->St->Fs->Ls->Prop):Prop:=
 match z with
 | .pu=>K (e.putO i.dst v) σ fs ls
 | .rd=>Us qa n m (fun s=>Ae i.op e s=some (v,s)) fs/\K (e.putO i.dst v) σ fs ((m,fun s=>Ae i.op e s=some (v,s))::ls)
 | .ef=>Nb qa n m fs/\Nc qa n m σ σ1 ls/\K (e.putO i.dst v) σ1 ((m,σ,σ1)::fs) ls
def Gj(T:Nat->Option AF)(pr:Nat->Option (List V->Option V))(qa:List (List Nat))(n m:Nat)(i:AI)(r:Rs)(e:Env)(σ:St)(fs:Fs)(ls:Ls)(K:Env->St->Fs->Ls->Prop):Prop:=
 match r with
 | .val v σ1=>Jh qa n m i (kd i.op) v σ1 e σ fs ls K
 | .call f args=>(∃ v vs,Al args=[]/\De σ args=some vs/\CallP T pr f vs v/\K (e.putO i.dst v) σ fs ls) \/
   (∃ v vs,De σ args=some vs/\CallP T pr f vs v/\v.flatV=true/\Us qa n m (fun s=>De s args=some vs) fs/\K (e.putO i.dst v) σ fs ((m,fun s=>De s args=some vs)::ls)) \/
   (∃ v σ1,CallS T pr f args σ v σ1/\Nb qa n m fs/\Nc qa n m σ σ1 ls/\K (e.putO i.dst v) σ1 ((m,σ,σ1)::fs) ls)
 | .fail=>False
def Ic(T:Nat->Option AF)(pr:Nat->Option (List V->Option V))(qa:List (List Nat))(n m:Nat)(i:AI)(g:Option V)(w:Bool)(e:Env)(σ:St)(fs:Fs)(ls:Ls)(K:Env->St->Fs->Ls->Prop):Prop:=
 match g with
 | none=>Gj T pr qa n m i (Bc i.op e σ) e σ fs ls K
 | some (.bool b)=>if b=w then Gj T pr qa n m i (Bc i.op e σ) e σ fs ls K else K (e.putO i.dst .skp) σ fs ls
 | some .skp=>K (e.putO i.dst .skp) σ fs ls
 | some _=>False
def wg(T:Nat->Option AF)(pr:Nat->Option (List V->Option V))(qa:List (List Nat))(n:Nat)(kill:List Nat)(k:List It)(Q:Env->St->Prop):Nat->List AI->Env->St->Fs->Ls->Prop
 | _,[],e,σ,_,_=>WE T pr (e.del kill) k σ Q
 | m,i::l,e,σ,fs,ls=>Ic T pr qa n m i (i.g.map fun p=>e.get p.1) ((i.g.map fun p=>p.2).getD true) e σ fs ls (wg T pr qa n kill k Q (m+1) l)
section
variable {Q:Env->St->Prop} {e:Env} {σ:St} {k:List It} {kill:List Nat} {qa:List (List Nat)} {n:Nat}
def An4{m:Nat}{i:AI}{l:List AI}{fs:Fs}{ls:Ls}{K:Env->St->Prop}{P:Env->St->Fs->Ls->Prop}(hP:∀ e σ fs ls,P e σ fs ls->WG T pr qa n (m+1) l e σ fs ls K)
  (hw:Co e i=some true) (h:Gj T pr qa n m i (Bc i.op e σ) e σ fs ls P):WG T pr qa n m (i::l) e σ fs ls K:=by
 unfold Bc at h
 split at h
 .rename_i f args hc;rcases h with⟨v,vs,h1,h2,h3,h4⟩ | ⟨v,vs,h1,h2,h3,h4,h5⟩ | ⟨v,σ1,h1,h2,h3,h4⟩
  .refine Aak (fun s=>?_) (hP _ _ _ _ h4);have:=h3.sg (σ:=s) hw hc ((Zi h1 s).trans h2);rw[Si h1]at this;exact this
  .obtain⟨e',σ',h,q⟩:=hP _ _ _ _ h5;refine⟨e',σ',.read (fun s=>De s args=some vs) h1 (fun s hs=>?_) (Aek h4) h,q⟩;have:=h2.sg (σ:=s) hw hc hs;unfold after at this;rw[if_pos h3]at this;exact this
  .exact An3 (h1.sg hw hc) h2 h3 (hP _ _ _ _ h4)
 .cases hv:Ae i.op e σ with
  | none=>rw[hv]at h;exact h.elim
  | some p=>
   obtain⟨v,σ1⟩:=p;rw[hv]at h;simp only[r2,Gj]at h;unfold Jh at h
   split at h
   .rename_i hk;obtain⟨rfl,qf⟩:=Yq (A6d (T:=T) (pr:=pr) hk) hv;exact A1p hw qf (hP _ _ _ _ h)
   .rename_i hk;obtain rfl:=A6e hk hv;exact A49 hw hv h.1 (hP _ _ _ _ h.2)
   .exact A1q hw hv h.1 h.2.1 (hP _ _ _ _ h.2.2)
def Rd:∀ (l:List AI) (m:Nat) (e:Env) (σ:St) (fs:Fs) (ls:Ls),wg T pr qa n kill k Q m l e σ fs ls->WG T pr qa n m l e σ fs ls fun e1 σ1=>W T pr k (e1.del kill) σ1 Q
 | [],m,e,σ,fs,ls,h=>A1o h
 | i::l,m,e,σ,fs,ls,h=>by
  unfold wg at h;unfold Ic at h
  split at h
  .rename_i hg;refine An4 (fun e σ fs ls=>Rd l (m+1) e σ fs ls) ?_ h;simp only[Option.map_eq_none_iff]at hg;unfold Co;rw[hg]
  .rename_i b hg;obtain⟨p,hp,hb⟩:=Bm.1 hg
   split at h
   .rename_i qd;refine An4 (fun e σ fs ls=>Rd l (m+1) e σ fs ls) ?_ h;unfold Co;obtain⟨t,w⟩:=p;rw[hp]at qd ⊢;simp only at hb;simp only[hb];simp at qd;simp[qd]
   .rename_i qd;refine Aak (fun s=>.off ?_) (Rd l (m+1) _ _ _ _ h);unfold Co;obtain⟨t,w⟩:=p;rw[hp]at qd ⊢;simp only at hb;simp only[hb];simp at qd;simp[qd]
  .rename_i hg;obtain⟨p,hp,hb⟩:=Bm.1 hg;refine Aak (fun s=>.off ?_) (Rd l (m+1) _ _ _ _ h);unfold Co;obtain⟨t,w⟩:=p;rw[hp];simp only at hb;simp only[hb]
  .exact h.elim
def Ag{ops:List AI}(qu:L9 qa ops=true)(h:wg T pr qa ops.length kill k Q 0 ops e σ [] []):W T pr (.c (.drw kill qa ops)::k) e σ Q:=
 A1n qu fun _ hK=>by
  obtain⟨e',σ',h,q⟩:=Rd _ _ _ _ _ _ h;exact⟨e',σ',h,hK _ _ q⟩
variable {m:Nat} {l:List AI} {fs:Fs} {ls:Ls} {K:Env->St->Fs->Ls->Prop}
def A2l:wg T pr qa n kill k Q m [] e σ fs ls=WE T pr (e.del kill) k σ Q:=Bk rfl
def A76(d:Nat)(op:AO):wg T pr qa n kill k Q m (o d op::l) e σ fs ls=Gj T pr qa n m (o d op) (Bc op e σ) e σ fs ls (wg T pr qa n kill k Q (m+1) l):=Bk rfl
def A6f(op:AO):wg T pr qa n kill k Q m (on op::l) e σ fs ls=Gj T pr qa n m (on op) (Bc op e σ) e σ fs ls (wg T pr qa n kill k Q (m+1) l):=Bk rfl
def A6g(d:Nat)(op:AO)(t:Nat)(w:Bool):wg T pr qa n kill k Q m (og d op t w::l) e σ fs ls=Ic T pr qa n m (og d op t w) (some (e.get t)) w e σ fs ls (wg T pr qa n kill k Q (m+1) l):=Bk rfl
def A6h(op:AO)(t:Nat)(w:Bool):wg T pr qa n kill k Q m (oh op t w::l) e σ fs ls=Ic T pr qa n m (oh op t w) (some (e.get t)) w e σ fs ls (wg T pr qa n kill k Q (m+1) l):=Bk rfl
def A6i(d:Nat)(op:AO)(v:V)(σ1:St):Gj T pr qa n m (o d op) (.val v σ1) e σ fs ls K=Jh qa n m (o d op) (kd op) v σ1 e σ fs ls K:=Bk rfl
def A2m(op:AO)(v:V)(σ1:St):Gj T pr qa n m (on op) (.val v σ1) e σ fs ls K=Jh qa n m (on op) (kd op) v σ1 e σ fs ls K:=Bk rfl
def A2n(d:Nat)(op:AO)(t:Nat)(w:Bool)(v:V)(σ1:St):Gj T pr qa n m (og d op t w) (.val v σ1) e σ fs ls K=Jh qa n m (og d op t w) (kd op) v σ1 e σ fs ls K:=Bk rfl
def A2o(op:AO)(t:Nat)(w:Bool)(v:V)(σ1:St):Gj T pr qa n m (oh op t w) (.val v σ1) e σ fs ls K=Jh qa n m (oh op t w) (kd op) v σ1 e σ fs ls K:=Bk rfl
def A2p(d:Nat)(op:AO)(t:Nat):Ic T pr qa n m (og d op t true) (some (.bool true)) true e σ fs ls K=Gj T pr qa n m (og d op t true) (Bc op e σ) e σ fs ls K:=Bk rfl
def A2q(d:Nat)(op:AO)(t:Nat):Ic T pr qa n m (og d op t false) (some (.bool false)) false e σ fs ls K=Gj T pr qa n m (og d op t false) (Bc op e σ) e σ fs ls K:=Bk rfl
def A2r(d:Nat)(op:AO)(t:Nat):Ic T pr qa n m (og d op t false) (some (.bool true)) false e σ fs ls K=K (e.put d .skp) σ fs ls:=Bk rfl
def A2s(d:Nat)(op:AO)(t:Nat):Ic T pr qa n m (og d op t true) (some (.bool false)) true e σ fs ls K=K (e.put d .skp) σ fs ls:=Bk rfl
def A6j(d:Nat)(op:AO)(t:Nat)(w:Bool):Ic T pr qa n m (og d op t w) (some .skp) w e σ fs ls K=K (e.put d .skp) σ fs ls:=Bk rfl
def A2t(op:AO)(t:Nat):Ic T pr qa n m (oh op t true) (some (.bool true)) true e σ fs ls K=Gj T pr qa n m (oh op t true) (Bc op e σ) e σ fs ls K:=Bk rfl
def A2u(op:AO)(t:Nat):Ic T pr qa n m (oh op t false) (some (.bool false)) false e σ fs ls K=Gj T pr qa n m (oh op t false) (Bc op e σ) e σ fs ls K:=Bk rfl
def A2v(op:AO)(t:Nat):Ic T pr qa n m (oh op t false) (some (.bool true)) false e σ fs ls K=K e σ fs ls:=Bk rfl
def A2w(op:AO)(t:Nat):Ic T pr qa n m (oh op t true) (some (.bool false)) true e σ fs ls K=K e σ fs ls:=Bk rfl
def A6k(op:AO)(t:Nat)(w:Bool):Ic T pr qa n m (oh op t w) (some .skp) w e σ fs ls K=K e σ fs ls:=Bk rfl
def A2x{i:AI}(v:V)(σ1:St):Jh qa n m i .pu v σ1 e σ fs ls K=K (e.putO i.dst v) σ fs ls:=Bk rfl
def A2y{i:AI}(v:V)(σ1:St):Jh qa n m i .rd v σ1 e σ [] ls K=K (e.putO i.dst v) σ [] ((m,fun s=>Ae i.op e s=some (v,s))::ls):=propext ⟨fun h=>h.2,fun h=>⟨trivial,h⟩⟩
def A2z{i:AI}(v:V)(σ1:St):Jh qa n m i .ef v σ1 e σ [] [] K=K (e.putO i.dst v) σ1 [(m,σ,σ1)] []:=propext ⟨fun h=>h.2.2,fun h=>⟨trivial,trivial,h⟩⟩
def Z2{i:AI}{v:V}{σ1:St}(h1:Nb qa n m fs)(h2:Nc qa n m σ σ1 ls)(h:K (e.putO i.dst v) σ1 ((m,σ,σ1)::fs) ls):Jh qa n m i .ef v σ1 e σ fs ls K:=⟨h1,h2,h⟩
end
/-! settled values go over as they are -/
def Dg:V->Bool
 | .agg cs=>cs.all V.rowB
 | .imm _ _=>true
 | v=>v.rowB
def Vk{v:V}(h:v.rowB=true):v.refs=[]:=by cases v<;>simp[V.rowB]at h<;>rfl
def Jk:∀ {cs:List V},cs.all V.rowB=true->Al cs=[]
 | [],_=>rfl
 | c::cs,h=>by
  simp only[Av,Af]at h;simp only[Al,Vk h.1,Jk h.2,Cm]
def Sk{v:V}(h:Dg v=true):v.refs=[]:=by
 unfold Dg at h
 split at h
 .exact Jk h
 .rfl
 .exact Vk h
def Vl:∀ {vs:List V},vs.all Dg=true->Al vs=[]
 | [],_=>rfl
 | c::cs,h=>by
  simp only[Av,Af]at h;simp only[Al,Sk h.1,Vl h.2,Cm]
def Ql{σ:St}{js:List Nat}{d:Nat}{v:V}(h:v.rowB=true):Ff σ js (d+1) v=some v:=by
 unfold Ff;rw[if_pos h]
def Qx{f:V->Option V}:∀ {cs:List V},(∀ c∈cs,f c=some c)->cs.mapM f=some cs
 | [],_=>rfl
 | c::cs,h=>by
  rw[Hy,h c Dy,Qx fun c hc=>h c (Dj _ hc)];rfl
def Vd{σ:St}{js:List Nat}{v:V}(h:Dg v=true):Gl σ js v=some v:=by
 unfold Dg at h
 split at h
 .rename_i cs;simp only[Gl];rw[Qx fun c hc=>Ql (Bi.1 h c hc)];rfl
 .rfl
 .rename_i h1 h2;unfold Gl
  split
  .exact absurd rfl (h2 _ _)
  .exact absurd rfl (h1 _)
  .exact Ql h
def Zk{σ:St}{vs:List V}(h:vs.all Dg=true):De σ vs=some vs:=Qx fun c hc=>Vd (Bi.1 h c hc)
section
variable {Q:Env->St->Prop} {e:Env} {σ:St} {k:List It} {l:List AI} {kill:List Nat} {f:Nat} {vs:List V} {v:V} {d:Option Nat}
def Ad(hf:Fn T pr f vs v)(hs:vs.all Dg=true)(h:WR T pr l kill k (e.putO d v) σ Q):WX T pr (.call f vs) d l kill k e σ Q:=
 Ms (.pure (Zk hs) hf) (by rw[Si (Vl hs)];exact h)
def Ft{s:List V->Option V}(hp:pr f=some s)(hs:vs.all Dg=true)(hv:s vs=some v)(h:WR T pr l kill k (e.putO d v) σ Q):WX T pr (.call f vs) d l kill k e σ Q:=
 Ms (.prim hp (Zk hs) hv) (by rw[Si (Vl hs)];exact h)
def Ca{σ1:St}(hf:Th T pr f vs σ v σ1)(h:WR T pr l kill k (e.putO d v) σ1 Q):WX T pr (.call f vs) d l kill k e σ Q:=Ms (.thr hf) h
def Ab{σ1:St}(hf:Bt T pr f vs σ v σ1)(h:WR T pr l kill k (e.putO d v) σ1 Q):WX T pr (.call f vs) d l kill k e σ Q:=Ms (.any hf) h
variable {qa:List (List Nat)} {n m:Nat} {fs:Fs} {ls:Ls} {K:Env->St->Fs->Ls->Prop} {i:AI}
def A1(hf:Fn T pr f vs v)(hs:vs.all Dg=true)(h:K (e.putO i.dst v) σ fs ls):Gj T pr qa n m i (.call f vs) e σ fs ls K:=.inl ⟨v,vs,Vl hs,Zk hs,.inr hf,h⟩
def Aal{σ1:St}(hf:Th T pr f vs σ v σ1)(h1:Nb qa n m fs)(h2:Nc qa n m σ σ1 ls)(h:K (e.putO i.dst v) σ1 ((m,σ,σ1)::fs) ls):Gj T pr qa n m i (.call f vs) e σ fs ls K:=.inr (.inr ⟨v,σ1,.thr hf,h1,h2,h⟩)
end
/-! ends -/
def FR(v0:V)(σ1:St)(v:V):Prop:=(Ch v0=true/\v0.refs=[]/\Ei [] v0=some v)\/∃ js,Hf 0 js v0 σ1=true/\Ei ((js.filterMap (σ1[·]?)).map (Ob.ren (ren 0 js))) (v0.ren (ren 0 js))=some v
def FL(o:Option V)(σ1:St)(v:V):Prop:=∃ v0,o=some v0/\FR v0 σ1 v
def FQ(res:List AR)(v:V)(e:Env)(σ:St):Prop:=FL (Cd e σ res) σ v
def Bn{f p:Nat}{res:List AR}{body:AC}{vs:List V}{v:V}(hT:T f=some ⟨p,res,false,body,none⟩)(hl:vs.length=p)(h:W T pr [.c body] (C6 0 vs) [] (FQ res v)):Fn T pr f vs v:=by
 obtain⟨e',σ',hE,v0,hr,h1 | ⟨js,h1,h2⟩⟩:=h
 .exact Aki hT rfl rfl hl ⟨e',σ',hE,v0,hr,h1⟩
 .exact As2 hT rfl rfl hl ⟨e',σ',hE,v0,js,hr,h1,h2⟩
def A77(r:AR)(v:V)(e:Env)(σ:St):FQ [r] v e σ=FL (Fw e σ r) σ v:=Bk rfl
def A78(r s:AR)(v:V)(e:Env)(σ:St):FQ [r,s] v e σ=FL ((Fw e σ r).bind fun a=>(Fw e σ s).map fun b=>.tup [a,b]) σ v:=by
 simp only[FQ,Cd,Hy,Yj]
 cases Fw e σ r with
 | none=>rfl
 | some a=>cases Fw e σ s<;>rfl
def A79(r s t:AR)(v:V)(e:Env)(σ:St):FQ [r,s,t] v e σ=FL ((Fw e σ r).bind fun a=>(Fw e σ s).bind fun b=>(Fw e σ t).map fun c=>.tup [a,b,c]) σ v:=by
 simp only[FQ,Cd,Hy,Yj]
 cases Fw e σ r with
 | none=>rfl
 | some a=>
  cases Fw e σ s with
  | none=>rfl
  | some b=>cases Fw e σ t<;>rfl
def Ayu(v0 v:V)(σ:St):FL (some v0) σ v=FR v0 σ v:=propext ⟨fun⟨_,h,q⟩=>by cases h;exact q,fun h=>⟨_,rfl,h⟩⟩
def Wf{v:V}(h:Dg v=true):H3 v=true:=by
 unfold Dg at h
 split at h
 .rename_i cs;simp only[H3];rw[Bi]at h ⊢;intro c hc;have:=h c hc
  cases c<;>simp[V.rowB]at this<;>rfl
 .rfl
 .cases v<;>simp[V.rowB]at h<;>rfl
def E7{v:V}{σ:St}(h:Dg v=true):FR v σ v:=by
 refine .inl ⟨?_,Sk h,?_⟩
 .cases v with
  | tup vs=>simp[Dg,V.rowB]at h
  | _=>exact Wf h
 .unfold Ei I3
  split
  .simp[Dg,V.rowB]at h
  .exact Vd h
def I4{vs:List V}{σ:St}(h:vs.all Dg=true):FR (.tup vs) σ (.tup vs):=by
 refine .inl ⟨?_,Vl h,?_⟩
 .simp only[Ch];rw[Bi]at h ⊢;exact fun c hc=>Wf (h c hc)
 .simp only[Ei,I3];rw[Qx fun c hc=>Vd (Bi.1 h c hc)];rfl
def Ao{v v':V}{σ:St}(h:Dg v=true)(he:v=v'):FR v σ v':=he ▸ E7 h
def TQ(res:List AR)(σ:St)(v:V)(σ':St)(e:Env)(σ1:St):Prop:=Cd e σ1 res=some v/\Ags σ.length σ v σ1/\σ'=σ1.take σ.length
def Bw{keep:List Nat}{c c':AC}{k:List It}{e:Env}{σ:St}{Q:Env->St->Prop}(hc:c=c')(h:WE T pr (e.keep keep) (.c c'::.l keep c::k) σ Q):W T pr (.l keep c::k) e σ Q:=by
 subst hc;rw[Ayr];exact h
section
variable {qa:List (List Nat)} {n m:Nat} {e:Env} {σ:St} {fs:Fs} {ls:Ls} {K:Env->St->Fs->Ls->Prop} {i:AI}
@[congr] theorem A9e {r r':Rs} (h:r=r'):Gj T pr qa n m i r e σ fs ls K=Gj T pr qa n m i r' e σ fs ls K:=by rw[h]
@[congr] theorem A9f {g g':Option V} {w:Bool} (h:g=g'):Ic T pr qa n m i g w e σ fs ls K=Ic T pr qa n m i g' w e σ fs ls K:=by rw[h]
@[congr] theorem A9g {z z':Kd} {v:V} {σ1:St} (h:z=z'):Jh qa n m i z v σ1 e σ fs ls K=Jh qa n m i z' v σ1 e σ fs ls K:=by rw[h]
end
variable {T:Nat->Option AF} {pr:Nat->Option (List V->Option V)}
def TR(v0:V)(σ:St)(v:V)(σ' σ1:St):Prop:=v0=v/\Ags σ.length σ v σ1/\σ'=σ1.take σ.length
def A20(a b:Nat)(l:List Nat):List.elem a (b::l)=if a=b then true else List.elem a l:=by
 by_cases h:a=b
 .simp[h]
 .simp[h]
def A21(a:Nat):List.elem a []=false:=rfl
def A6l(m n:Nat)(u v:V)(r:Env):Env.put ((m,u)::r) n v=if m=n then(n,v)::r else(m,u)::Env.put r n v:=Bk rfl
def A6m(n:Nat)(v:V):Env.put [] n v=[(n,v)]:=Bk rfl
def A6n(m:Nat)(u:V)(r:Env)(ks:List Nat):Env.del ((m,u)::r) ks=if ks.elem m=true then Env.del r ks else(m,u)::Env.del r ks:=Bk rfl
def A6o(ks:List Nat):Env.del [] ks=[]:=Bk rfl
def A22(e:Env)(n:Nat)(ks:List Nat):e.keep (n::ks)=(n,e.get n)::e.keep ks:=Bk rfl
def A23(e:Env):e.keep []=[]:=Bk rfl
def A6p(n:Nat):Env.get [] n=.und:=rfl
section
variable {Q:Env->St->Prop} {e:Env} {σ:St} {k:List It} {l:List AI} {kill:List Nat}
def A6q(d:Option Nat)(op:AO):WD T pr (.bool true) true d op l kill k e σ Q=WX T pr (Bc op e σ) d l kill k e σ Q:=Bk rfl
def A6r(d:Option Nat)(op:AO):WD T pr (.bool false) false d op l kill k e σ Q=WX T pr (Bc op e σ) d l kill k e σ Q:=Bk rfl
def A6s(d:Option Nat)(op:AO):WD T pr (.bool true) false d op l kill k e σ Q=WR T pr l kill k (e.putO d .skp) σ Q:=Bk rfl
def A6t(d:Option Nat)(op:AO):WD T pr (.bool false) true d op l kill k e σ Q=WR T pr l kill k (e.putO d .skp) σ Q:=Bk rfl
end
def A6u(d:Nat)(op:AO):(o d op).dst=some d:=rfl
def A24(op:AO):(on op).dst=none:=rfl
def A25(d:Nat)(op:AO)(t:Nat)(w:Bool):(og d op t w).dst=some d:=rfl
def A26(op:AO)(t:Nat)(w:Bool):(oh op t w).dst=none:=rfl
def Rt(o:Option Ob)(g n:Nat)(one:Bool)(off:Nat):Option V:=
 match o with
 | some (.row cs _ g' _)=>if g=g'/\off+n<=cs.length then Ga one ((cs.drop off).take n) else none
 | _=>none
def A6v(cs:List V)(e g' z g n:Nat)(one:Bool)(off:Nat):Rt (some (.row cs e g' z)) g n one off=if g=g'/\off+n<=cs.length then Ga one ((cs.drop off).take n) else none:=Bk rfl
def A27(σ:St)(n:Nat)(one:Bool)(i g off:Nat):Hn σ n one (.ptr i g off)=Rt σ[i]? g n one off:=Bk rfl
def A28(σ:St)(n:Nat)(one:Bool)(row:List V)(off:Nat):Hn σ n one (.imm row off)=if off+n<=row.length then Ga one ((row.drop off).take n) else none:=Bk rfl
def Xk(o:Option Ob)(σ:St)(n i g off:Nat)(v:V):Option (V × St):=
 match o with
 | some (.row cs e g' z)=>if g=g'/\z<=off/\v.cells.length=n/\v.cells.all V.cellB=true then(M3 cs off v.cells).map fun cs'=>(.und,σ.set i (.row cs' e g z)) else none
 | _=>none
def A29(cs:List V)(e g' z:Nat)(σ:St)(n i g off:Nat)(v:V):Xk (some (.row cs e g' z)) σ n i g off v=if g=g'/\z<=off/\v.cells.length=n/\v.cells.all V.cellB=true then(M3 cs off v.cells).map fun cs'=>(.und,σ.set i (.row cs' e g z)) else none:=Bk rfl
def Apn(σ:St)(n i g off:Nat)(v:V):Abu n (.ptr i g off) v σ=Xk σ[i]? σ n i g off v:=by
 simp only[Abu,Nw,Xk]
 cases σ[i]? with
 | none=>rfl
 | some ob=>
  cases ob with
  | row cs e g' z=>
   simp only
   split
   .cases M3 cs off v.cells<;>rfl
   .rfl
  | _=>rfl
def A6w:Og .nils=some (.int .i64 0):=rfl
def A6x(t:Nat)(xs:List (List V)):Og (.lst t xs)=some (.int .i64 (xs.length:Int)):=rfl
def A6y(i g off len m:Nat)(w:Bool):Og (.sl i g off len m w)=some (.int .i64 (len:Int)):=rfl
def A6z(m t:Nat)(xs:List (List V))(i:V):Of m (.lst t xs) i=(Ia xs i).bind fun r=>if r.length=m then some (.imm r 0) else none:=Bk rfl
def A60(m j g off len m':Nat)(w:Bool)(k:IntKind)(n:Int):Of m (.sl j g off len m' w) (.int k n)=if 0<=n/\n<len/\m=m' then some (.ptr j g (off+n.toNat*m)) else none:=Bk rfl
def A61(off:Nat)(r:List V)(o:Nat):Abv off (.imm r o)=some (.imm r (o+off)):=Bk rfl
def A62(off b g o:Nat):Abv off (.ptr b g o)=some (.ptr b g (o+off)):=Bk rfl
def A63(off n:Nat)(one:Bool)(cs:List V):Ag1 off n one (.agg cs)=if off+n<=cs.length then Ga one ((cs.drop off).take n) else none:=Bk rfl
def Ayv(k:IntKind)(n:Int):V.cells (.int k n)=[.int k n]:=rfl
def Ayw(l:List UInt8):V.cells (.str l)=[.str l]:=rfl
def Ayx(b:Bool):V.cells (.bool b)=[.bool b]:=rfl
def Ayy:V.cells .nils=[.nils]:=rfl
def Ayz(t:Nat)(xs:List (List V)):V.cells (.lst t xs)=[.lst t xs]:=rfl
def Au8(i g o l m:Nat)(w:Bool):V.cells (.sl i g o l m w)=[.sl i g o l m w]:=rfl
def Ay0(i g o:Nat):V.cells (.ptr i g o)=[.ptr i g o]:=rfl
def Au9:V.cells .nilp=[.nilp]:=rfl
def As7(r:List V)(o:Nat):V.cells (.imm r o)=[.imm r o]:=rfl
def Ava(f:Nat)(a c:List V):V.cells (.fn f a c)=[.fn f a c]:=rfl
def Avb(i:Nat):V.cells (.mp i)=[.mp i]:=rfl
def Ay1(cs:List V):V.cells (.agg cs)=cs:=rfl
def A3a(σ:St)(m:Nat):Fr σ m .nils=some []:=Bk rfl
def A3b(σ:St)(m t:Nat)(xs:List (List V)):Fr σ m (.lst t xs)=some xs:=Bk rfl
def mk1(c:V):Ga true [c]=some c:=rfl
def mkA(cs:List V):Ga false cs=some (.agg cs):=rfl
def Ay2(s l:St)(n:Nat):(s++l)[s.length+n]?=l[n]?:=by rw[Cj (by omega)];congr 1;omega
def Avc(s l:St):(s++l)[s.length]?=l[0]?:=by rw[Cj (by omega)];congr 1;omega
def Ay3(s l:St)(n:Nat)(x:Ob):(s++l).set (s.length+n) x=s++l.set n x:=by simp[List.set_append]
def Avd(s l:St)(x:Ob):(s++l).set s.length x=s++l.set 0 x:=by simp[List.set_append]
def Ay4{α:Type}(l:List α)(k:IntKind)(n:Nat):Ia l (.int k (n:Int))=l[n]?:=by
 simp only[Ia];rw[if_pos (by omega),P8]
def C7{n:Int}(h : -9223372036854775808<=n/\n<=9223372036854775807):IntKind.i64.wrap n=n:=Go.IntWalk.i64_in _ h
def Ay5{n:Int}(h1 : -9223372036854775808<=n)(h2:n<=9223372036854775807):IntKind.i64.wrap n=n:=C7 ⟨h1,h2⟩
def A8a(t:Nat)(v:V)(σ σ' σ1:St)(e:Env):TQ [.tmp t] σ v σ' e σ1=TR (e.get t) σ v σ' σ1:=Bk (propext ⟨fun⟨h1,h2⟩=>⟨J9 h1,h2⟩,fun⟨h1,h2⟩=>⟨congrArg some h1,h2⟩⟩)
def Bf{i:Nat}(h:i<9223372036854775807):IntKind.i64.wrap ((i:Int)+1)=((i+1:Nat):Int):=by rw[C7 (by omega)];rfl
def Bp{i n:Nat}(h:i<n):decide ((i:Int)<(n:Int))=true:=by simpa using h
def Ce{i n:Nat}(h:n<=i):decide ((i:Int)<(n:Int))=false:=by simpa using h
def Cw{α:Type}{l:List α}{i:Nat}(h:i<l.length):∃ x,l[i]?=some x/\l.drop i=x::l.drop (i+1)/\x∈l:=⟨l[i],A2 h,Fv h,Fc h⟩
def Bv{keep:List Nat}{c:AC}{k:List It}{Q:Env->St->Prop}{α:Type}(μ:α->Nat)(E:α->Env)(Z:α->St)(I:α->Prop)
  (h:∀ a,I a->(∀ b,μ b<μ a->I b->W T pr (.l keep c::k) (E b) (Z b) Q)->W T pr (.l keep c::k) (E a) (Z a) Q):∀ a,I a->W T pr (.l keep c::k) (E a) (Z a) Q:=by
 suffices ∀ n a,μ a=n->I a->W T pr (.l keep c::k) (E a) (Z a) Q from fun a=>this _ a rfl
 intro n
 induction n using Nat.strongRecOn with
 | _ n ih=>exact fun a hm hI=>h a hI fun b hb=>ih (μ b) (hm ▸ hb) b rfl
def A8b(cs:List V):Dg (.agg cs)=cs.all V.rowB:=rfl
def A8c(r:List V)(o:Nat):Dg (.imm r o)=true:=rfl
def Aqe(k:IntKind)(n:Int):Dg (.int k n)=true:=rfl
def A8d(l:List UInt8):Dg (.str l)=true:=rfl
def A8e(b:Bool):Dg (.bool b)=true:=rfl
def A8f:Dg .nils=true:=rfl
def A8g:Dg .nili=true:=rfl
def A8h(t:Nat)(xs:List (List V)):Dg (.lst t xs)=true:=rfl
/-! settled slices -/
def SL(z:Bool)(t:Nat)(xs:List (List V)):V:=if z=true/\xs=[] then .nils else .lst t xs
def I5(z:Bool)(t:Nat)(xs:List (List V)):(SL z t xs).rowB=true:=by unfold SL;split<;>rfl
def Ami(z:Bool)(t:Nat)(xs:List (List V)):(SL z t xs).cellB=true:=by unfold SL;split<;>rfl
def A3c(z:Bool)(t:Nat)(xs:List (List V)):Dg (SL z t xs)=true:=by unfold SL;split<;>rfl
def Ave(z:Bool)(t:Nat)(xs:List (List V)):(SL z t xs).cells=[SL z t xs]:=by unfold SL;split<;>rfl
def A3d(z:Bool)(t:Nat)(xs:List (List V)):Og (SL z t xs)=some (.int .i64 (xs.length:Int)):=by
 unfold SL
 split
 .rename_i h;rw[h.2];rfl
 .rfl
def A3e(z:Bool)(t:Nat)(xs:List (List V))(m:Nat)(i:V):Of m (SL z t xs) i=(Ia xs i).bind fun r=>if r.length=m then some (.imm r 0) else none:=by
 unfold SL
 split
 .rename_i h;rw[h.2]
  cases i<;>simp[Of,Ia]
 .rfl
def Ay6(z:Bool)(t:Nat)(xs:List (List V))(σ:St)(m:Nat):Fr σ m (SL z t xs)=some xs:=by
 unfold SL
 split
 .rename_i h;rw[h.2];rfl
 .rfl
attribute [go_sem] Nat.reduceEqDiff reduceIte Nat.reduceAdd Nat.reduceMul Nat.reduceLeDiff Int.reduceLT Int.reduceLE Int.reduceToNat Int.reduceAdd Int.reduceNeg Int.reduceEq
attribute [go_sem ↓] Af3 A2e Apk A57 A2f Apl A58 A59 A2g A2h A72 A73 A74 A2i A75 A6a A6b A6c A2l A76 A6f A6g A6h A5g A5h get_put Au6 As5 As6 A77 A78 A79 A8a
attribute [go_sem ↓] Ay4 A5i A14 A5j A5k Ayo A15 A16 A17 A7x A18 Ayp A5l A5m A7y A7z A5n A5o A5p A5q A5r A19 A5s A2a A5t A5u A5v A5w A5x A5y A5z A50 A2b A51 A52 A2c A70 A71 A53 A54 A55 A56 A2d Ayq
attribute [go_sem] we A2j Ays A2k A6q A6r A6s A6t Ayt Au7 Ayk Ayl Aym Ayn A6i A2m A2n A2o A2p A2q A2r A2s A6j A2t A2u A2v A2w A6k A2x A2y A2z kd Ayu
attribute [go_sem] A6p A6l A6m A6n A6o A22 A23 A20 A21 C6 Fw
attribute [go_sem] Xj Agq Ai unV Af0 Aqa mkV Agv Agw Lg eqB Agl Agm Agn Ago Agx Agy Agz Aqb Ag0 Af1 Abr Pq D2 Ag2 Ag3 Ag4 Ag5 Af2 mxV mnV Ag6 Ag7 Aqc Ag8 mk1 mkA M3 G7 Eu A8b A8c Aqe A8d A8e A8f A8g A8h A1r A1t Aya Ayc Aye A1v A1x A5a Ayg Ayi A1z A12 A5c A5e A1s A1u Ayb Ayd Ayf A1w A1y A5b Ayh Ayj A11 A13 A5d A5f decide_true decide_false gt_iff_lt ge_iff_le ne_eq not_false_eq_true not_true_eq_false A6u A24 A25 A26 A6v A27 A28 A29 Apn A6w A6x A6y A6z A60 A61 A62 A63 Ayv Ayw Ayx Ayy Ayz Au8 Ay0 Au9 As7 Ava Avb Ay1 A3a A3b
attribute [go_sem] Ay2 Avc Ay3 Avd Ia Ay5 I5 Ami A3c Ave A3d A3e Ay6
attribute [go_sem] Fp Option.map_none C4 Option.bind_none Bb By Av Be U9 Acu Acv and_self and_true true_and eq_self Ak C0 Aj Ln Acg List.take_zero X7 Ml Fd D9 Cm X1 J6 List.set_cons_zero Yb List.replicate Ey Acl Fe Nj Ac1 Nat.one_mul Ve Fb Bool.true_eq_false Au Aw Bool.bne_false Bool.bne_true if_true if_false ite_true ite_false P8 Cu
variable {T:Nat->Option AF} {pr:Nat->Option (List V->Option V)}
def Sv(σ:St):∀ (d:Nat) (js:List Nat) (i:Nat),i∈js->i∈Fm σ d js
 | 0,_,_,h=>h
 | d+1,js,i,h=>by
  simp only[Fm]
  split
  .exact h
  .exact Sv σ d _ i (P5 _ h)
def OC(σ:St)(v v':V):Prop:=∀ js:List Nat,(∀ i∈v.refs,i∈js)->∀ d,Ff σ js (d+2) v=some v'
def OV(σ:St)(v v':V):Prop:=∀ js:List Nat,(∀ i∈v.refs,i∈js)->Gl σ js v=some v'
inductive OVs (σ:St):List V->List V->Prop
 | nil:OVs σ [] []
 | cons {v v':V} {vs qb:List V}:OV σ v v'->OVs σ vs qb->OVs σ (v::vs) (v'::qb)
inductive OCs (σ:St):List V->List V->Prop
 | nil:OCs σ [] []
 | cons {v v':V} {vs qb:List V}:OC σ v v'->OCs σ vs qb->OCs σ (v::vs) (v'::qb)
def Wg{σ:St}{js:List Nat}:∀ {vs qb:List V},OVs σ vs qb->(∀ i∈Al vs,i∈js)->vs.mapM (Gl σ js)=some qb
 | _,_,.nil,_=>rfl
 | _,_,.cons h hs,hj=>by
  simp only[Al,Cr]at hj;rw[Hy,h js fun i hi=>hj i (.inl hi),Wg hs fun i hi=>hj i (.inr hi)];rfl
def Amj{σ:St}{js:List Nat}{d:Nat}:∀ {vs qb:List V},OCs σ vs qb->(∀ i∈Al vs,i∈js)->vs.mapM (Ff σ js (d+2))=some qb
 | _,_,.nil,_=>rfl
 | _,_,.cons h hs,hj=>by
  simp only[Al,Cr]at hj;rw[Hy,h js (fun i hi=>hj i (.inl hi)) d,Amj hs fun i hi=>hj i (.inr hi)];rfl
def Amk{σ:St}{vs qb:List V}(h:OVs σ vs qb):De σ vs=some qb:=Wg h fun i hi=>Sv σ 9 _ i (Yc.2 hi)
def Hj{σ:St}{v:V}(h:v.rowB=true):OC σ v v:=fun _ _ _=>Ql h
def I6{σ:St}{v:V}(h:Dg v=true):OV σ v v:=fun _ _=>Vd h
def Wx{σ:St}{cs cs':List V}(h:OCs σ cs cs'):OV σ (.agg cs) (.agg cs'):=fun js hj=>by
 simp only[Gl];rw[Amj (d:=7) h hj];rfl
def Z3{σ:St}{v v':V}(h:OC σ v v')(hc:v.cellB=true):OV σ v v':=fun js hj=>by
 unfold Gl
 split
 .have:=h js hj 0;simp[Ff,V.rowB]at this
 .simp[V.cellB]at hc
 .exact h js hj 7
def Adm(m:Nat):∀ (xs:List (List V)) (tl:List V),(∀ r∈xs,r.length=m)->Eu m xs.length (xs.flatten++tl)=xs
 | [],_,_=>rfl
 | r::xs,tl,h=>by
  have hr:=h r Dy;simp only[Ak,Eu,Ey,D9];rw[<-hr,U8,List.drop_left];congr 1;rw[hr];exact Adm m xs tl fun r hr=>h r (Dj _ hr)
def Yv{m:Nat}{xs:List (List V)}(h:∀ r∈xs,r.length=m):Eu m xs.length xs.flatten=xs:=by
 have:=Adm m xs [] h
 rwa [Cm]at this
def K0{m:Nat}:∀ {xs:List (List V)},(∀ r∈xs,r.length=m)->xs.flatten.length=xs.length*m
 | [],_=>by simp
 | r::xs,h=>by
  rw[Ey,Aj,h r Dy,K0 fun r hr=>h r (Dj _ hr),Ak,Ep,Yn]
def Tz{σ:St}{i g m e z:Nat}{w:Bool}{xs:List (List V)}(ho:σ[i]?=some (.row xs.flatten e g z))(hm:0<m)(hl:∀ r∈xs,r.length=m)(hr:∀ r∈xs,r.all V.rowB=true):OC σ (.sl i g 0 xs.length m w) (.lst 0 xs):=by
 intro js hj d
 have hi:js.elem i=true:=by
  have:=hj i (by simp[V.refs]);simpa using this
 have hf:=K0 hl;unfold Ff;rw[if_neg (by simp[V.rowB])];simp only[hi,if_true,ho];rw[if_pos ⟨trivial,hm,by omega⟩,Ln,<-hf,Cz,Qx fun c hc=>?_]
 .simp only[Fp,Yv hl]
 .obtain⟨r,qn,qj⟩:=List.mem_flatten.1 hc;exact Ql (Bi.1 (hr r qn) c qj)
section
variable {Q:Env->St->Prop} {e:Env} {σ:St} {k:List It} {l:List AI} {kill:List Nat} {f:Nat} {args vs:List V} {v:V} {d:Option Nat}
def Apo(hx:OVs σ args vs)(hf:Fn T pr f vs v)(qk:v.flatV=true)(h:WR T pr l kill k (e.putO d v) σ Q):WX T pr (.call f args) d l kill k e σ Q:=
 Ms (.pure (Amk hx) hf) (by unfold after;rw[if_pos qk];exact h)
variable {qa:List (List Nat)} {n m:Nat} {fs:Fs} {ls:Ls} {K:Env->St->Fs->Ls->Prop} {i:AI}
def Ae8(hx:OVs σ args vs)(hf:Fn T pr f vs v)(qk:v.flatV=true)(h:K (e.putO i.dst v) σ [] ((m,fun s=>De s args=some vs)::ls)):Gj T pr qa n m i (.call f args) e σ [] ls K:=
 .inr (.inl ⟨v,vs,Amk hx,.inr hf,qk,trivial,h⟩)
end
/-! code that ends where it ends: the rest is apart -/
def AC.flat:AC->Bool
 | .skip | .reg _ _ | .drw _ _ _=>true
 | .seq a b=>a.flat&&b.flat
 | .cond _ _ x y=>x.flat&&y.flat
 | _=>false
def Hd(P:Env->St->Prop)(e:Env)(σ:St):Prop:=P e σ
@[congr] theorem A9m {P:Env->St->Prop} {e e':Env} {σ:St} (h:e=e'):Hd P e σ=Hd P e' σ:=by rw[h]
/-! lists that grow: nil, or a slice of an object of their own that they fill -/
def GV(σ:St)(m e lo:Nat)(u:V)(xs:List (List V)):Prop:=(u=.nils/\xs=[])\/∃ i g,u=.sl i g 0 xs.length m true/\σ[i]?=some (.row xs.flatten e g 0)/\lo<=i
def A3f{σ:St}{m e lo:Nat}:GV σ m e lo .nils []:=.inl ⟨rfl,rfl⟩
def Aml{σ:St}{m e lo:Nat}{u:V}{xs:List (List V)}(h:GV σ m e lo u xs):u.cellB=true:=by
 rcases h with⟨rfl,rfl⟩ | ⟨i,g,rfl,ho,qc⟩<;>rfl
def A3g{σ:St}{m e lo:Nat}{u:V}{xs:List (List V)}(h:GV σ m e lo u xs):Og u=some (.int .i64 (xs.length:Int)):=by
 rcases h with⟨rfl,rfl⟩ | ⟨i,g,rfl,ho,qc⟩<;>rfl
def An5{σ:St}{m e lo bytes:Nat}{u y:V}{xs ys:List (List V)}(h:GV σ m e lo u xs)(qg:lo<=σ.length)(hy:Fr σ m y=some ys)(hm:0<m)(hl:∀ r∈xs,r.length=m)(qh:∀ r∈ys,r.length=m)(hb:(xs.length+ys.length)*bytes<=140737488355328):
  ∃ u' σ',D5 bytes (m,e) u y σ=some (u',σ')/\GV σ' m e lo u' (xs++ys)/\σ.length<=σ'.length/\(∀ j,(∀ i g,u=.sl i g 0 xs.length m true->j≠i)->j<σ.length->σ'[j]?=σ[j]?)/\∀ j,j<lo->σ'[j]?=σ[j]?:=by
 have qf:(ys.all fun r=>r.length==m)=true:=by
  rw[Bi];intro r hr;simp[qh r hr]
 unfold D5;simp only[hy,C4];unfold Je;rw[if_pos ⟨qf,hm⟩];rcases h with⟨rfl,rfl⟩ | ⟨i,g,rfl,ho,qc⟩
 .simp only;rw[if_pos (by simpa using hb)]
  cases ys with
  | nil=>exact⟨.nils,σ,rfl,.inl ⟨rfl,rfl⟩,Ah _,fun _ _ _=>rfl,fun _ _=>rfl⟩
  | cons y ys=>exact⟨_,_,rfl,.inr ⟨σ.length,0,rfl,by simp,qg⟩,by simp,fun j _ hj=>Cg hj,fun j hj=>Cg (by omega)⟩
 .simp only;rw[if_pos ⟨hb,trivial⟩];simp only[ho,if_true]
  cases ys with
  | nil=>exact⟨_,σ,rfl,.inr ⟨i,g,by simp,by simpa using ho,qc⟩,Ah _,fun _ _ _=>rfl,fun _ _=>rfl⟩
  | cons y ys=>
   have hf:=K0 hl;have qq:=K0 qh;have qr:(y::ys).flatten.length=(ys.length+1)*m:=by rw[qq];rfl
   rw[if_neg (by simp),if_pos (by simp),if_neg (by
    rw[hf];have:(xs.length+(y::ys).length)*m=xs.length*m+(ys.length+1)*m:=by rw[Ak,Mn]
    rw[this];have:0<(ys.length+1)*m:=Nat.mul_pos (by omega) hm
    omega),if_pos hf]
   refine⟨_,_,rfl,.inr ⟨i,g+1,by rw[Aj],?_,qc⟩,by simp,fun j hj _=>?_,fun j hj=>by rw[Bg (by omega)]⟩
   .have hi:i<σ.length:=by
     rcases Br i σ.length with h | h
     .exact h
     .rw[P3 h]at ho;cases ho
    rw[Cc hi,List.flatten_append]
   .have:=hj i g rfl;rw[Bg (by omega)]
def A3h{v:V}(h:v.cellB=true):v.cells=[v]:=by cases v<;>simp[V.cellB]at h<;>rfl
def Bx{s l:St}{j:Nat}{x:Ob}(h:s[j]?=some x):(s++l)[j]?=some x:=by
 have hi:j<s.length:=by
  rcases Br j s.length with h1 | h1
  .exact h1
  .rw[P3 h1]at h;cases h
 rw[Cg hi,h]
def Lq{xs:List (List V)}(hr:∀ r∈xs,r.all V.rowB=true):xs.flatten.all V.rowB=true:=by
 rw[Bi];intro c hc;obtain⟨r,qn,qj⟩:=List.mem_flatten.1 hc;exact Bi.1 (hr r qn) c qj
def Ae9(i:Nat):∀ cs:List V,cs.all V.rowB=true->Hb (ren 0 [i]) cs=cs
 | [],_=>rfl
 | c::cs,h=>by
  simp only[Av,Af]at h;simp only[Hb];rw[Ae9 i cs h.2];congr 1
  cases c<;>simp[V.rowB]at h<;>rfl
def Jm:∀ a b:List V,Al (a++b)=Al a++Al b
 | [],_=>rfl
 | c::a,b=>by simp only[Ml,Al,Jm a b,D9]
def An6{cs:List V}(h:cs.all V.rowB=true):cs.all V.cellB=true:=by
 rw[Bi]at h ⊢;intro c hc;have:=h c hc
 cases c<;>simp[V.rowB]at this<;>rfl
def Af5{σ:St}{m e i g:Nat}{xs:List (List V)}(ho:σ[i]?=some (.row xs.flatten e g 0))(hm:0<m)(hl:∀ r∈xs,r.length=m)(hr:∀ r∈xs,r.all V.rowB=true):FR (.sl i g 0 xs.length m true) σ (.lst 0 xs):=by
 obtain⟨hi,qt⟩:=Ap.1 ho;have hx:Al xs.flatten=[]:=Jk (Lq hr);have h0:ren 0 [i] i=0:=by simp[ren,List.findIdx_cons]
 refine .inr ⟨[i],?_,?_⟩
 .simp[Hf,Ch,H3,V.cellB,V.refs,En,qt,Ob.refs,hx,hi]
 .simp only[J8,ho,Ya,Bb,By,Ob.ren,Ae9 i _ (Lq hr),V.ren,h0];simp only[Ei,I3,Gl];exact Tz (σ:=[.row xs.flatten e g 0]) (i:=0) (g:=g) (e:=e) (z:=0) (w:=true) rfl hm hl hr (Fm [.row xs.flatten e g 0] 9 (V.refs (.sl 0 g 0 xs.length m true)).eraseDups) (fun j hj=>Sv _ _ _ _ (Yc.2 hj)) 7
def GW(σ:St)(m e lo:Nat)(u:V)(xs:List (List V)):Prop:=(u=.nils/\xs=[])\/(xs≠[]/\∃ i g,u=.sl i g 0 xs.length m true/\σ[i]?=some (.row xs.flatten e g 0)/\lo<=i)
def F9{σ:St}{m e lo:Nat}:GW σ m e lo .nils []:=.inl ⟨rfl,rfl⟩
def Af6{σ:St}{m e lo:Nat}{u:V}{xs:List (List V)}(h:GW σ m e lo u xs):GV σ m e lo u xs:=h.imp id fun h=>h.2
def Dk{σ:St}{m e lo:Nat}{u:V}{xs:List (List V)}(h:GW σ m e lo u xs):u.cellB=true:=Aml (Af6 h)
def Q5{σ:St}{m e lo bytes:Nat}{u y:V}{xs ys:List (List V)}(h:GW σ m e lo u xs)(qg:lo<=σ.length)(hy:Fr σ m y=some ys)(hm:0<m)(hl:∀ r∈xs,r.length=m)(qh:∀ r∈ys,r.length=m)(hb:(xs.length+ys.length)*bytes<=140737488355328):
  ∃ u' σ',D5 bytes (m,e) u y σ=some (u',σ')/\GW σ' m e lo u' (xs++ys)/\σ.length<=σ'.length/\(∀ j,(∀ i g,u=.sl i g 0 xs.length m true->j≠i)->j<σ.length->σ'[j]?=σ[j]?)/\∀ j,j<lo->σ'[j]?=σ[j]?:=by
 obtain⟨u',σ',h1,h2,h3,h4,h5⟩:=An5 (Af6 h) qg hy hm hl qh hb;refine⟨u',σ',h1,?_,h3,h4,h5⟩;by_cases he:xs++ys=[]
 .rw[List.append_eq_nil_iff]at he;obtain⟨rfl,rfl⟩:=he;rcases h with⟨rfl,_⟩ | ⟨hn,_⟩
  .have:D5 bytes (m,e) .nils y σ=some (.nils,σ):=by simp[D5,hy,Je,hm]
   rw[this]at h1;cases h1;exact F9
  .exact absurd rfl hn
 .exact h2.imp id fun h=>⟨he,h⟩
def O5{σ l:St}{m e lo:Nat}{u:V}{xs:List (List V)}(h:GW σ m e lo u xs):GW (σ++l) m e lo u xs:=by
 rcases h with h | ⟨hn,i,g,h,ho,qc⟩
 .exact .inl h
 .exact .inr ⟨hn,i,g,h,Bx ho,qc⟩
def Fx{σ:St}{j:Nat}{x:Ob}{m e lo:Nat}{u:V}{xs:List (List V)}(h:GW σ m e lo u xs)(hj:j<lo):GW (σ.set j x) m e lo u xs:=by
 rcases h with h | ⟨hn,i,g,h,ho,qc⟩
 .exact .inl h
 .exact .inr ⟨hn,i,g,h,by rw[Bg (by omega)];exact ho,qc⟩
def Af7{t:Nat}{xs:List (List V)}(h:xs≠[]):SL true t xs=.lst t xs:=by simp[SL,h]
def N3{σ:St}{m e lo:Nat}{u:V}{xs:List (List V)}(h:GW σ m e lo u xs)(hm:0<m)(hl:∀ r∈xs,r.length=m)(hr:∀ r∈xs,r.all V.rowB=true):OC σ u (SL true 0 xs):=by
 rcases h with⟨rfl,rfl⟩ | ⟨hn,i,g,rfl,ho,qc⟩
 .exact Hj rfl
 .rw[Af7 hn];exact Tz ho hm hl hr
def App{σ:St}{m e lo:Nat}{u:V}{xs:List (List V)}(h:GW σ m e lo u xs)(hm:0<m)(hl:∀ r∈xs,r.length=m)(hr:∀ r∈xs,r.all V.rowB=true):FR u σ (SL true 0 xs):=by
 rcases h with⟨rfl,rfl⟩ | ⟨hn,i,g,rfl,ho,qc⟩
 .exact E7 rfl
 .rw[Af7 hn];exact Af5 ho hm hl hr
/-! what a call leaves of the state, where an argument names a list's object -/
def Ar0(σ:St)(i j:Nat)(h:j≠i):(σ.freeze [i])[j]?=σ[j]?:=by
 simp only[St.freeze]
 split
 .rw[Bg (by omega)]
 .rfl
section
variable {T:Nat->Option AF} {pr:Nat->Option (List V->Option V)} {Q:Env->St->Prop} {e:Env} {σ:St} {k:List It} {l:List AI} {kill:List Nat} {f:Nat} {args vs:List V} {v:V} {d:Option Nat}
end
def An7{σ:St}{cs:List V}{m n:Nat}(h:cs.all V.rowB=true):M5 m n σ cs=some (.lst 1 (Eu m n cs),σ):=by
 unfold M5;rw[Qx fun c hc=>Ql (Bi.1 h c hc),Jk h];rfl
attribute [go_sem] An7
def Y3(z:Bool)(t m:Nat)(xs:List (List V))(k:IntKind)(b:Nat)(hb:b<=xs.length):∃ z' t',N8 m (SL z t xs) none (some (.int k (b:Int))) none=some (SL z' t' (xs.take b)):=by
 unfold SL
 split
 .rename_i h;obtain⟨rfl,rfl⟩:=h;have:b=0:=by simpa using hb
  subst this;exact⟨true,0,by simp[N8,D2]⟩
 .refine⟨false,(if b=xs.length/\t=1 then 1 else 0),?_⟩;simp[N8,D2,hb]
def Cl(s:St):Prop:=∀ ob∈s,∀ i∈ob.refs,i<s.length
def Qy{s:St}{ob:Ob}(h:Cl s)(ho:∀ i∈ob.refs,i<s.length+1):Cl (s++[ob]):=by
 intro o hm i hi;rw[Aj];rcases Cr.1 hm with hm | hm
 .have:=h o hm i hi;simp;omega
 .simp at hm;subst hm;simpa using ho i hi
def G5{s:St}{j:Nat}{ob:Ob}(h:Cl s)(ho:∀ i∈ob.refs,i<s.length):Cl (s.set j ob):=by
 intro o hm i hi;rw[Gx];rcases List.mem_or_eq_of_mem_set hm with hm | hm
 .exact h o hm i hi
 .subst hm;exact ho i hi
mutual
theorem Zl(ρ:Nat->Nat):∀ v:V,(∀ i∈v.refs,ρ i=i)->v.ren ρ=v
 | .ptr i g o,h=>by simp only[V.ren];rw[h i (by simp[V.refs])]
 | .sl i g o l m w,h=>by simp only[V.ren];rw[h i (by simp[V.refs])]
 | .mp i,h=>by simp only[V.ren];rw[h i (by simp[V.refs])]
 | .fn f a c,h=>by
  simp only[V.ren];rw[Qp ρ a fun i hi=>h i (by simp only[V.refs,Cr];exact .inl hi),Qp ρ c fun i hi=>h i (by simp only[V.refs,Cr];exact .inr hi)]
 | .agg cs,h=>by simp only[V.ren];rw[Qp ρ cs fun i hi=>h i (by simpa only[V.refs] using hi)]
 | .tup cs,h=>by simp only[V.ren];rw[Qp ρ cs fun i hi=>h i (by simpa only[V.refs] using hi)]
 | .und,_=>rfl
 | .skp,_=>rfl
 | .bool _,_=>rfl
 | .int _ _,_=>rfl
 | .str _,_=>rfl
 | .nili,_=>rfl
 | .ifc,_=>rfl
 | .nils,_=>rfl
 | .nilp,_=>rfl
 | .nilf,_=>rfl
 | .lst _ _,_=>rfl
 | .imm _ _,_=>rfl
theorem Qp(ρ:Nat->Nat):∀ vs:List V,(∀ i∈Al vs,ρ i=i)->Hb ρ vs=vs
 | [],_=>rfl
 | v::r,h=>by
  simp only[Hb];rw[Zl ρ v fun i hi=>h i (by simp only[Al,Cr];exact .inl hi),Qp ρ r fun i hi=>h i (by simp only[Al,Cr];exact .inr hi)]
end
def Ah4(ρ:Nat->Nat)(ob:Ob)(h:∀ i∈ob.refs,ρ i=i):ob.ren ρ=ob:=by
 cases ob with
 | row cs e g z=>simp only[Ob.ren];rw[Qp ρ cs h]
 | map kvs=>
  simp only[Ob.ren];congr 1
  have:∀ l:List (List UInt8 × V),(∀ i∈Al (l.map (·.2)),ρ i=i)->l.map (fun p=>(p.1,p.2.ren ρ))=l:=by
   intro l
   induction l with
   | nil=>intro _;rfl
   | cons p l ih=>
    intro h;simp only[Bb,Al,Cr]at h ⊢;rw[ih fun i hi=>h i (.inr hi),Zl ρ p.2 fun i hi=>h i (.inl hi)]
  exact this kvs h
 | dead=>rfl
def Adn{n k i:Nat}(h:i<n+k):ren n (List.range' n k) i=i:=by
 unfold ren
 split
 .rfl
 .have h1:List.findIdx (·==i) (List.range' n k)=i - n:=by
   rw[List.findIdx_eq (by simp;omega)];simp;constructor
   .omega
   .intro j hj;omega
  rw[h1];omega
def As8{σ σ':St}{m e lo bytes:Nat}{u u' y:V}{xs ys:List (List V)}(h:GW σ m e lo u xs)(hy:Fr σ m y=some ys)(ha:D5 bytes (m,e) u y σ=some (u',σ'))(hx:Al xs.flatten=[])(hz:Al ys.flatten=[])(hc:Cl σ):Cl σ':=by
 unfold D5 at ha;simp only[hy,C4]at ha;unfold Je at ha
 split at ha
 .rcases h with⟨rfl,rfl⟩ | ⟨hn,i,g,rfl,ho,qc⟩
  .simp only at ha
   split at ha
   .split at ha
    .cases ha;exact hc
    .cases ha;exact Qy hc (by simp[Ob.refs,hz])
   .cases ha
  .simp only at ha
   split at ha
   .simp only[ho,if_true]at ha
    split at ha
    .cases ha;exact hc
    .split at ha
     .split at ha
      .cases ha;refine G5 hc fun j hj=>?_
       simp only[Ob.refs,Jm,hz,Cm,Cr]at hj
       have qp:∀ (a:List V) (k:Nat),Al a=[]->Al (a.take k)=[]/\Al (a.drop k)=[]:=by
        intro a k h0;have:=Jm (a.take k) (a.drop k);rw[J7,h0]at this;exact List.append_eq_nil_iff.1 this.symm
       rw[(qp _ _ hx).1,(qp _ _ hx).2]at hj;simp at hj
      .split at ha
       .cases ha;exact G5 hc (by simp[Ob.refs,Jm,hx,hz])
       .cases ha
     .cases ha
   .cases ha
 .cases ha
def Amm{σ:St}{m e lo:Nat}{u:V}{xs:List (List V)}(h:GW σ m e lo u xs):∀ i∈u.refs,i<σ.length:=by
 rcases h with⟨rfl,rfl⟩ | ⟨hn,i,g,rfl,ho,qc⟩
 .intro i hi;simp[V.refs]at hi
 .intro j hj;simp[V.refs]at hj;subst hj;exact(Ap.1 ho).1
def Ako{σ1:St}{v:V}{n:Nat}(hr:v.refs=[])(ho:Ch v=true)(hn:n<=σ1.length)(hc:Cl σ1):Hf n (List.range' n (σ1.length - n)) v σ1=true/\v=v.ren (ren n (List.range' n (σ1.length - n)))/\σ1=(σ1.take n++(List.range' n (σ1.length - n)).filterMap (σ1[·]?)).map (Ob.ren (ren n (List.range' n (σ1.length - n)))):=by
 refine⟨?_,?_,?_⟩
 .have hw:∀ is:List Nat,(∀ i∈is,i<σ1.length)->En n (List.range' n (σ1.length - n)) is=true:=by
   intro is qm;unfold En;rw[Bi];intro i hi;have:=qm i hi;simp;omega
  unfold Hf;simp only[Af];refine⟨ho,hw _ (by rw[hr];simp),?_,?_,?_⟩
  .rw[Bi];intro o hm;refine hw _ fun i hi=>?_
   rcases Cr.1 hm with hm | hm
   .exact hc o (List.mem_of_mem_take hm) i hi
   .obtain⟨j,_,hj⟩:=List.mem_filterMap.1 hm;exact hc o (Hu hj) i hi
  .simp[List.nodup_range']
  .rw[Bi];intro i hi;simp at hi ⊢;omega
 .exact(Zl _ v (by rw[hr];simp)).symm
 .have he:σ1.take n++(List.range' n (σ1.length - n)).filterMap (σ1[·]?)=σ1:=by
   have:(List.range' n (σ1.length - n)).filterMap (σ1[·]?)=σ1.drop n:=by
    apply Ry;intro i
    have ql:∀ (k n:Nat),n+k<=σ1.length->(List.range' n k).filterMap (σ1[·]?)=(σ1.drop n).take k:=by
     intro k
     induction k with
     | zero=>intro n _;simp
     | succ k ih=>
      intro n hk;rw[Yf,J8,A2 (by omega)];simp only;rw[ih (n+1) (by omega),Fv (show n<σ1.length by omega),X7]
    rw[ql _ _ (by omega),Mj (by simp)]
   rw[this,J7]
  rw[he]
  have:∀ l:List Ob,(∀ o∈l,o∈σ1)->l.map (Ob.ren (ren n (List.range' n (σ1.length - n))))=l:=by
   intro l
   induction l with
   | nil=>intro _;rfl
   | cons o l ih=>
    intro hm;rw[Bb,ih fun o ho=>hm o (Dj _ ho),Ah4 _ o fun i hi=>Adn (by have:=hc o (hm o Dy) i hi;omega)]
  exact(this σ1 fun _ h=>h).symm
def Afa{T:Nat->Option AF}{pr:Nat->Option (List V->Option V)}{f p:Nat}{res:List AR}{body:AC}{vs:List V}{v:V}{σ σ':St}(hT:T f=some ⟨p,res,true,body,none⟩)(hl:vs.length=p)
  (h:W T pr [.c body] (C6 0 vs) σ (Hd fun e' σ1=>Cd e' σ1 res=some v/\σ1=σ')) (hr:v.refs=[]) (ho:Ch v=true) (hn:σ.length<=σ'.length) (hc:Cl σ'):Th T pr f vs σ v σ':=by
 obtain⟨e',σ1,hE,qe,rfl⟩:=h;obtain⟨k1,k2,k3⟩:=Ako hr ho hn hc;exact As1 hT rfl rfl hl ⟨e',σ1,hE,v,_,qe,k1,k2,k3⟩
def Ay7{T:Nat->Option AF}{pr:Nat->Option (List V->Option V)}{f p:Nat}{res:List AR}{body:AC}{vs:List V}{v:V}{σ σ':St}(hT:T f=some ⟨p,res,true,body,none⟩)(hl:vs.length=p)
  (h:W T pr [.c body] (C6 0 vs) σ (Hd fun e' σ1=>∃ v0 js,Cd e' σ1 res=some v0/\Ch v0=true/\I3 σ1 js v0=some v/\σ'=σ1.freeze js)) (hr:v.refs=[]) (ho:Ch v=true) (hn:σ.length<=σ'.length) (hc:Cl σ'):Th T pr f vs σ v σ':=by
 obtain⟨e',σ1,hE,v0,js,qe,h0,h1,rfl⟩:=h;obtain⟨k1,k2,k3⟩:=Ako hr ho hn hc;exact As3 hT rfl rfl hl ⟨e',σ1,hE,v0,v,js,_,qe,h0,h1,k1,k2,k3⟩
def Ar1{T:Nat->Option AF}{pr:Nat->Option (List V->Option V)}{σ:St}{f:Nat}{vs:List V}{v:V}{F:AF}{σ':St}(hT:T f=some F)(qo:F.spec=none)(hl:vs.length=F.pars)(h:W T pr [.c F.body] (C6 0 vs) σ fun e' σ1=>∃ v0 js,Cd e' σ1 F.res=some v0/\Hf σ.length js v0 σ1=true/\v=v0.ren (ren σ.length js)/\σ'=(σ1.take σ.length++js.filterMap (σ1[·]?)).map (Ob.ren (ren σ.length js))):Bt T pr f vs σ v σ':=by
 obtain⟨e',σ1,hE,v0,js,hr,qs,rfl,rfl⟩:=h;exact⟨F,hT,qo,.fnL hT qo hl hE hr qs⟩
def Amn{T:Nat->Option AF}{pr:Nat->Option (List V->Option V)}{f p:Nat}{res:List AR}{thr:Bool}{body:AC}{vs:List V}{v:V}{σ σ':St}(hT:T f=some ⟨p,res,thr,body,none⟩)(hl:vs.length=p)
  (h:W T pr [.c body] (C6 0 vs) σ (Hd fun e' σ1=>Cd e' σ1 res=some v/\σ1=σ')) (hr:∀ i∈v.refs,i<σ'.length) (ho:Ch v=true) (hn:σ.length<=σ'.length) (hc:Cl σ'):Bt T pr f vs σ v σ':=by
 obtain⟨e',σ1,hE,qe,rfl⟩:=h;refine Ar1 hT rfl hl ⟨e',σ1,hE,v,List.range' σ.length (σ1.length - σ.length),qe,?_,?_,?_⟩
 .have hw:∀ is:List Nat,(∀ i∈is,i<σ1.length)->En σ.length (List.range' σ.length (σ1.length - σ.length)) is=true:=by
   intro is qm;unfold En;rw[Bi];intro i hi;have:=qm i hi;simp;omega
  unfold Hf;simp only[Af];refine⟨ho,hw _ hr,?_,?_,?_⟩
  .rw[Bi];intro o hm;refine hw _ fun i hi=>?_
   rcases Cr.1 hm with hm | hm
   .exact hc o (List.mem_of_mem_take hm) i hi
   .obtain⟨j,_,hj⟩:=List.mem_filterMap.1 hm;exact hc o (Hu hj) i hi
  .simp[List.nodup_range']
  .rw[Bi];intro i hi;simp at hi ⊢;omega
 .exact(Zl _ v fun i hi=>Adn (by have:=hr i hi;omega)).symm
 .have he:σ1.take σ.length++(List.range' σ.length (σ1.length - σ.length)).filterMap (σ1[·]?)=σ1:=by
   have:(List.range' σ.length (σ1.length - σ.length)).filterMap (σ1[·]?)=σ1.drop σ.length:=by
    apply Ry;intro i
    have ql:∀ (k n:Nat),n+k<=σ1.length->(List.range' n k).filterMap (σ1[·]?)=(σ1.drop n).take k:=by
     intro k
     induction k with
     | zero=>intro n _;simp
     | succ k ih=>
      intro n hk;rw[Yf,J8,A2 (by omega)];simp only;rw[ih (n+1) (by omega),Fv (show n<σ1.length by omega),X7]
    rw[ql _ _ (by omega),Mj (by simp)]
   rw[this,J7]
  rw[he]
  have:∀ l:List Ob,(∀ o∈l,o∈σ1)->l.map (Ob.ren (ren σ.length (List.range' σ.length (σ1.length - σ.length))))=l:=by
   intro l
   induction l with
   | nil=>intro _;rfl
   | cons o l ih=>
    intro hm;rw[Bb,ih fun o ho=>hm o (Dj _ ho),Ah4 _ o fun i hi=>Adn (by have:=hc o (hm o Dy) i hi;omega)]
  exact(this σ1 fun _ h=>h).symm
def LZ{α:Type}:(∀ a b c:List α,a++b++c=a++(b++c))/\(∀ (a:α) (b c:List α),a::b++c=a::(b++c))/\(∀ a:List α,[]++a=a)/\(∀ a b:List α,(a++b).length=a.length+b.length)/\(∀ (a:α) (b:List α),(a::b).length=b.length+1)/\([]:List α).length=0/\∀ n:Nat,0+n=n:=⟨D9,fun _ _ _=>rfl,fun _=>rfl,fun _ _=>Aj,fun _ _=>rfl,rfl,Fe⟩
