/- THE PLAIN MACHINE, joined texts: Qa Qb Qc Qd Qe Qf Qg. -/
import Derived.Test.YtphikjgngompaacGreatDoorA4
set_option linter.all false
/- Walking by rewriting: what comes of code, as equations. -/
namespace Go.Proofs.YtphikjgngompaacGreatDoor.KM
open Go
variable {T:Nat->Option AF} {pr:Nat->Option (List V->Option V)}
def Bq{α:Sort _}{a b:α}(h:a=b):a=b:=h
/-! slots -/
def get_put:∀ (e:Env) (n m:Nat) (v:V),(Env.put e n v).get m=if n=m then v else Env.get e m
 | [],n,m,v=>by grind[Env.put,Env.get]
 | (i,u)::r,n,m,v=>by
  simp only[Env.put]
  split
  .grind[Env.get]
  .rename_i h;simp only[Env.get,get_put r n m v]
   grind
def A2q(e:Env)(n:Nat)(v:V):e.putO (some n) v=e.put n v:=Bq rfl
def A2r(e:Env)(v:V):e.putO none v=e:=Bq rfl
def Bia(e:Env)(n:Nat):Ac e (.t n)=e.get n:=rfl
def Bib(e:Env)(v:V):Ac e (.k v)=v:=rfl
def A5m(e:Env)(n m:Nat)(v:V):Env.get ((n,v)::e) m=if n=m then v else Env.get e m:=Bq rfl
/-! what an operation gives -/
inductive Rs where
 | val (v:V) (σ:St)
 | call (f:Nat) (args:List V)
 | fail
def r1(o:Option V)(σ:St):Rs:=
 match o with
 | some v=>.val v σ
 | none=>.fail
def r2(o:Option (V × St)):Rs:=
 match o with
 | some (v,σ)=>.val v σ
 | none=>.fail
def A9s(v:V)(σ:St):r1 (some v) σ=.val v σ:=Bq rfl
def A9t(σ:St):r1 none σ=.fail:=Bq rfl
def A9u(v:V)(σ:St):r2 (some (v,σ))=.val v σ:=Bq rfl
def A9v:r2 none=.fail:=Bq rfl
theorem Sd(o:Option V)(σ:St):r2 (o.map fun v=>(v,σ))=r1 o σ:=by cases o<;>rfl
def Bm(op:AO)(e:Env)(σ:St):Rs:=
 match Cj e op with
 | some (f,args)=>.call f args
 | none=>r2 (Af op e σ)
def Alg(c a b:V):Option V:=
 match c with
 | .bool z=>some (if z=true then a else b)
 | _=>none
def Ayv(t:Nat)(x:V)(σ:St):Option (V × St):=if x.cells.all V.cellB=true then some (.ptr σ.length 0 0,σ++[.row x.cells t 0 0]) else none
def mkV(t bytes:Nat)(z:List V)(x y:V)(σ:St):Option (V × St):=
 match x,y with
 | .int .i64 n,.int .i64 c=>if 0<=n/\n<=c/\c.toNat*bytes<=140737488355328 then some (.sl σ.length 0 0 n.toNat z.length true,σ++[.row (List.replicate n.toNat z).flatten t 0 0]) else none
 | _,_=>none
def Pr(m n:Nat)(σ:St)(cs:List V):Option (V × St):=(cs.mapM (Fg σ (Fy σ 9 (Ah cs).eraseDups) 9)).map fun cs'=>(.lst 1 (Fi m n cs'),σ.freeze (Fy σ 9 (Ah cs).eraseDups))
def Af1(n:Nat)(x v:V)(σ:St):Option (V × St):=(Qr σ n x v).map fun σ'=>(.und,σ')
def Amj(x:V):Option V:=
 match x with
 | .imm r o=>some (.imm r o)
 | .ptr b g o=>some (.ptr b g o)
 | _=>none
def Amk(k:EqK)(qi:Bool)(x y:V):Option V:=(Nm k x y).map fun z=>.bool (z != qi)
def Aml(k:IntKind)(x:V):Option V:=
 match x with
 | .int _ n=>some (.int k (k.wrap n))
 | _=>none
def Alh(len m:Nat)(x:V)(lo hi:Option V):Option V:=
 match x with
 | .ptr i g off=>(Ed lo 0).bind fun a=>(Ed hi len).bind fun b=>if a<=b/\b<=len then some (.sl i g (off+a*m) (b - a) m false) else none
 | _=>none
def Af2(off:Nat)(x:V):Option V:=
 match x with
 | .imm r o=>some (.imm r (o+off))
 | .ptr b g o=>some (.ptr b g (o+off))
 | _=>none
def Amm(off n:Nat)(one:Bool)(x:V):Option V:=
 match x with
 | .agg cs=>if off+n<=cs.length then Ht one ((cs.drop off).take n) else none
 | _=>none
def Lx(m:Nat)(x i:V):Option V:=
 match x with
 | .lst _ xs=>(Js xs i).bind fun r=>if r.length=m then some (.imm r 0) else none
 | .sl j g off len m' _=>match i with
  | .int _ n=>if 0<=n/\n<len/\m=m' then some (.ptr j g (off+n.toNat*m)) else none
  | _=>none
 | _=>none
def Amn(len m:Nat)(x i:V):Option V:=
 match i with
 | .int _ n=>if 0<=n/\n<len then(match x with
  | .imm r o=>some (.imm r (o+n.toNat*m))
  | .ptr b g o=>some (.ptr b g (o+n.toNat*m))
  | _=>none) else none
 | _=>none
def Amo(x i:V):Option V:=
 match x with
 | .str l=>(Js l i).map fun c=>.int .u8 (c.toNat:Int)
 | _=>none
def Amp(len m:Nat)(one:Bool)(x i:V):Option V:=
 match i with
 | .int _ n=>if 0<=n/\n<len then(match x with
  | .agg cs=>if n.toNat*m+m<=cs.length then Ht one ((cs.drop (n.toNat*m)).take m) else none
  | _=>none) else none
 | _=>none
def Amq(i:Nat)(x:V):Option V:=
 match x with
 | .tup vs=>vs[i]?
 | _=>none
def Ali(x:V):Option V:=
 match x with
 | .str l=>some (.int .i64 (l.length:Int))
 | _=>none
def Ly(x:V):Option V:=
 match x with
 | .nils=>some (.int .i64 0)
 | .lst _ xs=>some (.int .i64 (xs.length:Int))
 | .sl _ _ _ len _ _=>some (.int .i64 (len:Int))
 | _=>none
def Dx(bytes:Nat)(m:Nat × Nat)(x y:V)(σ:St):Option (V × St):=(E5 σ m.1 y).bind fun ys=>Jm bytes m σ x ys
def Axt(ty:Nat)(x y:V)(σ:St):Option (V × St):=
 match y with
 | .str l=>Jm 1 (1,ty) σ x (By l)
 | _=>none
def mxV(x y:V):Option V:=
 match x,y with
 | .int k a,.int k' b=>if k=k' then some (.int k (max a b)) else none
 | _,_=>none
def mnV(x y:V):Option V:=
 match x,y with
 | .int k a,.int k' b=>if k=k' then some (.int k (min a b)) else none
 | _,_=>none
def Amr(z x k:V)(σ:St):Option V:=
 match x,k with
 | .mp i,.str s=>match σ[i]? with
  | some (.map kvs)=>some (match H5 s kvs 0 with
   | some (_,v)=>v
   | none=>z)
  | _=>none
 | _,_=>none
def Ayw(x k v:V)(σ:St):Option (V × St):=
 match x,k with
 | .mp i,.str s=>match σ[i]? with
  | some (.map kvs)=>if v.flatB=true then some (.und,σ.set i (.map (match H5 s kvs 0 with
   | some (j,_)=>kvs.set j (s,v)
   | none=>kvs++[(s,v)]))) else none
  | _=>none
 | _,_=>none
section
variable {e:Env} {σ:St}
def Bic(x:S):Bm (.mov x) e σ=.val (Ac e x) σ:=Bq rfl
def Bd2(c a b:S):Bm (.pick c a b) e σ=r1 (Alg (Ac e c) (Ac e a) (Ac e b)) σ:=by
 simp only[Bm,Cj,Af,Alg];cases Ac e c<;>rfl
def Bid(t:Nat)(z:List V):Bm (.new t z) e σ=.val (.ptr σ.length 0 0) (σ++[.row z t 0 0]):=Bq rfl
def Bie(t:Nat)(x:S):Bm (.box t x) e σ=r2 (Ayv t (Ac e x) σ):=Bq rfl
def A9w(z:List V)(ps:List (Nat × Nat × S)):Bm (.build z ps) e σ=r1 ((I1 z (ps.map fun p=>(p.1,p.2.1,Ac e p.2.2))).map fun cs=>.agg cs) σ:=by
 simp only[Bm,Cj,Af];cases I1 z (ps.map fun p=>(p.1,p.2.1,Ac e p.2.2))<;>rfl
def Bd3(n:Nat)(z:List V)(ps:List (Nat × S)):Bm (.rows n z ps) e σ=r1 ((I1 (List.replicate n z).flatten (ps.map fun p=>(p.1*z.length,z.length,Ac e p.2))).bind fun cs=>if cs.all V.rowB=true then some (.lst 1 (Fi z.length n cs)) else none) σ:=by
 simp only[Bm,Cj,Af]
 cases I1 (List.replicate n z).flatten (ps.map fun p=>(p.1*z.length,z.length,Ac e p.2)) with
 | none=>rfl
 | some cs=>simp only[C5];split<;>rfl
def Bd4(n:Nat)(z:List V)(ps:List (Nat × S)):Bm (.rowf n z ps) e σ=r2 ((I1 (List.replicate n z).flatten (ps.map fun p=>(p.1*z.length,z.length,Ac e p.2))).bind fun cs=>Pr z.length n σ cs):=Bq rfl
def Bd5(t n:Nat)(z:List V)(ps:List (Nat × S)):Bm (.rowo t n z ps) e σ=r2 ((I1 (List.replicate n z).flatten (ps.map fun p=>(p.1*z.length,z.length,Ac e p.2))).map fun cs=>(.sl σ.length 0 0 n z.length true,σ++[.row cs t 0 0])):=Bq rfl
def Bna(t bytes:Nat)(z:List V)(x y:S):Bm (.mk t bytes z x y) e σ=r2 (mkV t bytes z (Ac e x) (Ac e y) σ):=Bq rfl
def Bd6(n:Nat)(one:Bool)(x:S):Bm (.load n one x) e σ=r1 (H3 σ n one (Ac e x)) σ:=Sd _ _
def A9x(n:Nat)(x v:S):Bm (.store n x v) e σ=r2 (Af1 n (Ac e x) (Ac e v) σ):=Bq rfl
def Bif(x:S):Bm (.chk x) e σ=r1 (Amj (Ac e x)) σ:=by
 simp only[Bm,Cj,Af,Amj];cases Ac e x<;>rfl
def Big(o:BinOp)(x y:S):Bm (.bin o x y) e σ=r1 (Aax o (Ac e x) (Ac e y)) σ:=Sd _ _
def Bnb(k:EqK)(qi:Bool)(x y:S):Bm (.eq k qi x y) e σ=r1 (Amk k qi (Ac e x) (Ac e y)) σ:=by
 simp only[Bm,Cj,Af,Amk];cases Nm k (Ac e x) (Ac e y)<;>rfl
def Bnc(o:UnOp)(x:S):Bm (.un o x) e σ=r1 (unV o (Ac e x)) σ:=Sd _ _
def Bih(k:IntKind)(x:S):Bm (.cvi k x) e σ=r1 (Aml k (Ac e x)) σ:=by
 simp only[Bm,Cj,Af,Aml];cases Ac e x<;>rfl
def Bd7(x:S)(lo hi:Option S):Bm (.slcs x lo hi) e σ=r1 (S4 (Ac e x) (lo.map (Ac e)) (hi.map (Ac e))) σ:=Sd _ _
def Bii(m:Nat)(x:S)(lo hi mx:Option S):Bm (.slc m x lo hi mx) e σ=r1 (Io m (Ac e x) (lo.map (Ac e)) (hi.map (Ac e)) (mx.map (Ac e))) σ:=Sd _ _
def Bd8(len m:Nat)(x:S)(lo hi:Option S):Bm (.slca len m x lo hi) e σ=r1 (Alh len m (Ac e x) (lo.map (Ac e)) (hi.map (Ac e))) σ:=by
 simp only[Bm,Cj,Af,Alh]
 cases Ac e x with
 | ptr i g off=>
  simp only
  cases Ed (lo.map (Ac e)) 0 with
  | none=>rfl
  | some a=>
   simp only[C5]
   cases Ed (hi.map (Ac e)) len with
   | none=>rfl
   | some b=>simp only[C5];split<;>rfl
 | _=>rfl
def Bij(off:Nat)(x:S):Bm (.fad off x) e σ=r1 (Af2 off (Ac e x)) σ:=by
 simp only[Bm,Cj,Af,Af2];cases Ac e x<;>rfl
def Bik(off n:Nat)(one:Bool)(x:S):Bm (.fld off n one x) e σ=r1 (Amm off n one (Ac e x)) σ:=by
 simp only[Bm,Cj,Af,Amm]
 cases Ac e x with
 | agg cs=>simp only;split;· grind[Sd]
           .rfl
 | _=>rfl
def Bil(m:Nat)(x i:S):Bm (.iad m x i) e σ=r1 (Lx m (Ac e x) (Ac e i)) σ:=by
 simp only[Bm,Cj,Af,Lx]
 cases Ac e x with
 | lst t xs=>
  simp only
  cases Js xs (Ac e i) with
  | none=>rfl
  | some r=>simp only[C5];split<;>rfl
 | sl j g off len m' w=>
  simp only
  cases Ac e i with
  | int k n=>simp only;split<;>rfl
  | _=>rfl
 | _=>rfl
def Bim(len m:Nat)(x i:S):Bm (.iar len m x i) e σ=r1 (Amn len m (Ac e x) (Ac e i)) σ:=by
 simp only[Bm,Cj,Af,Amn]
 cases Ac e i with
 | int k n=>simp only;split;· cases Ac e x<;>rfl
            .rfl
 | _=>rfl
def Bin(x i:S):Bm (.idx x i) e σ=r1 (Amo (Ac e x) (Ac e i)) σ:=by
 simp only[Bm,Cj,Af,Amo]
 cases Ac e x with
 | str l=>simp only;cases Js l (Ac e i)<;>rfl
 | _=>rfl
def Bio(len m:Nat)(one:Bool)(x i:S):Bm (.ida len m one x i) e σ=r1 (Amp len m one (Ac e x) (Ac e i)) σ:=by
 simp only[Bm,Cj,Af,Amp]
 cases Ac e i with
 | int k n=>
  simp only
  split
  .cases Ac e x with
   | agg cs=>simp only;split;· grind[Sd]
             .rfl
   | _=>rfl
  .rfl
 | _=>rfl
def Bip(i:Nat)(x:S):Bm (.ext i x) e σ=r1 (Amq i (Ac e x)) σ:=by
 simp only[Bm,Cj,Af,Amq]
 cases Ac e x with
 | tup vs=>grind[Sd]
 | _=>rfl
def Bd9(x:S):Bm (.lens x) e σ=r1 (Ali (Ac e x)) σ:=by
 simp only[Bm,Cj,Af,Ali];cases Ac e x<;>rfl
def Biq(x:S):Bm (.len x) e σ=r1 (Ly (Ac e x)) σ:=by
 simp only[Bm,Cj,Af,Ly];cases Ac e x<;>rfl
def Bir(bytes:Nat)(m:Nat × Nat)(x y:S):Bm (.app bytes m x y) e σ=r2 (Dx bytes m (Ac e x) (Ac e y) σ):=Bq rfl
def Bea(ty:Nat)(x y:S):Bm (.apps ty x y) e σ=r2 (Axt ty (Ac e x) (Ac e y) σ):=Bq rfl
def Bnd(x y:S):Bm (.mx x y) e σ=r1 (mxV (Ac e x) (Ac e y)) σ:=by
 simp only[Bm,Cj,Af,mxV]
 cases Ac e x with
 | int k a=>
  cases Ac e y with
  | int k' b=>simp only;split<;>rfl
  | _=>rfl
 | _=>rfl
def Bne(x y:S):Bm (.mn x y) e σ=r1 (mnV (Ac e x) (Ac e y)) σ:=by
 simp only[Bm,Cj,Af,mnV]
 cases Ac e x with
 | int k a=>
  cases Ac e y with
  | int k' b=>simp only;split<;>rfl
  | _=>rfl
 | _=>rfl
def Bis:Bm .mmk e σ=.val (.mp σ.length) (σ++[.map []]):=Bq rfl
def Bit(z:V)(x k:S):Bm (.mlk z x k) e σ=r1 (Amr z (Ac e x) (Ac e k) σ) σ:=by
 simp only[Bm,Cj,Af,Amr]
 cases Ac e x with
 | mp i=>
  cases Ac e k with
  | str s=>
   simp only
   cases σ[i]? with
   | none=>rfl
   | some ob=>cases ob<;>rfl
  | _=>rfl
 | _=>rfl
def Biu(x k v:S):Bm (.mup x k v) e σ=r2 (Ayw (Ac e x) (Ac e k) (Ac e v) σ):=Bq rfl
def Beb(f:Nat)(xs:List S):Bm (.call f xs) e σ=.call f (xs.map (Ac e)):=Bq rfl
def Ams(x:V)(ys:List V):Rs:=
 match x with
 | .fn f a c=>.call f (a++ys++c)
 | _=>.fail
def A9y(x:S)(xs:List S):Bm (.callv x xs) e σ=Ams (Ac e x) (xs.map (Ac e)):=by
 simp only[Bm,Cj,Ams];cases Ac e x<;>rfl
end
variable {T:Nat->Option AF} {pr:Nat->Option (List V->Option V)}
def o(d:Nat)(op:AO):AI:=⟨some d,op,none⟩
def on(op:AO):AI:=⟨none,op,none⟩
def og(d:Nat)(op:AO)(t:Nat)(w:Bool):AI:=⟨some d,op,some (t,w)⟩
def oh(op:AO)(t:Nat)(w:Bool):AI:=⟨none,op,some (t,w)⟩
inductive CallS (T:Nat->Option AF) (pr:Nat->Option (List V->Option V)) (f:Nat) (args:List V) (σ:St):V->St->Prop
 | prim {s:List V->Option V} {vs:List V} {v:V}:pr f=some s->Dt σ args=some vs->s vs=some v->CallS T pr f args σ v (after σ args v)
 | pure {vs:List V} {v:V}:Dt σ args=some vs->Fn T pr f vs v->CallS T pr f args σ v (after σ args v)
 | own {σ0:St} {vs:List V} {v:V}:Dt σ args=some vs->Xl T pr f vs v σ0->CallS T pr f args σ (v.ren (·+σ.length)) (own σ args σ0)
 | any {v:V} {σ1:St}:Bw T pr f args σ v σ1->CallS T pr f args σ v σ1
 | thr {v:V} {σ1:St}:Th T pr f args σ v σ1->CallS T pr f args σ v σ1
 | spec {F:AF} {s:List V->St->Option (V × St)} {v:V} {σ1:St}:T f=some F->F.thr=true->F.spec=some s->s args σ=some (v,σ1)->CallS T pr f args σ v σ1
def CallS.sg{i:AI}{f:Nat}{args:List V}{e:Env}{σ σ1:St}{v:V}(h:CallS T pr f args σ v σ1)(hw:Cv e i=some true)(hc:Cj e i.op=some (f,args)):Sg T pr i e σ v σ1:=by
 cases h with
 | prim h1 h2 h3=>exact .prim hw hc h1 h2 h3
 | pure h1 h2=>exact .pure hw hc h1 h2
 | own hx h=>obtain⟨F,h1,h2,h3,h4⟩:=h;exact .own hw hc h1 h2 h3 hx h4
 | any h=>obtain⟨F,h1,h3,h4⟩:=h;exact .any hw hc h1 h3 h4
 | thr h=>obtain⟨F,h1,h2,h3,h4⟩:=h;exact .thr hw hc h1 h2 h3 h4
 | spec h1 h2 h3 h4=>exact .spec hw hc h1 h2 h3 h4
def WE(T:Nat->Option AF)(pr:Nat->Option (List V->Option V))(e:Env)(k:List It)(σ:St)(Q:Env->St->Prop):Prop:=W T pr k e σ Q
def WR(T:Nat->Option AF)(pr:Nat->Option (List V->Option V))(l:List AI)(kill:List Nat)(k:List It)(e:Env)(σ:St)(Q:Env->St->Prop):Prop:=WO T pr l e σ fun e1 σ1=>W T pr k (e1.del kill) σ1 Q
def WX(T:Nat->Option AF)(pr:Nat->Option (List V->Option V))(r:Rs)(d:Option Nat)(l:List AI)(kill:List Nat)(k:List It)(e:Env)(σ:St)(Q:Env->St->Prop):Prop:=
 match r with
 | .val v σ1=>WR T pr l kill k (e.putO d v) σ1 Q
 | .call f args=>∃ v σ1,CallS T pr f args σ v σ1/\WR T pr l kill k (e.putO d v) σ1 Q
 | .fail=>False
def WD(T:Nat->Option AF)(pr:Nat->Option (List V->Option V))(g:V)(w:Bool)(d:Option Nat)(op:AO)(l:List AI)(kill:List Nat)(k:List It)(e:Env)(σ:St)(Q:Env->St->Prop):Prop:=
 match g with
 | .bool b=>if b=w then WX T pr (Bm op e σ) d l kill k e σ Q else WR T pr l kill k (e.putO d .skp) σ Q
 | .skp=>WR T pr l kill k (e.putO d .skp) σ Q
 | _=>False
def WC(T:Nat->Option AF)(pr:Nat->Option (List V->Option V))(g:V)(kill:List Nat)(x y:AC)(k:List It)(e:Env)(σ:St)(Q:Env->St->Prop):Prop:=
 match g with
 | .bool true=>WE T pr (e.del kill) (.c x::k) σ Q
 | .bool false=>WE T pr (e.del kill) (.c y::k) σ Q
 | _=>False
def WJ(T:Nat->Option AF)(pr:Nat->Option (List V->Option V))(id:Nat):List It->Env->St->(Env->St->Prop)->Prop
 | [],_,_,_=>False
 | .b i::k,e,σ,Q=>if i=id then W T pr k e σ Q else WJ T pr id k e σ Q
 | .c _::k,e,σ,Q=>WJ T pr id k e σ Q
 | .l _ _::k,e,σ,Q=>WJ T pr id k e σ Q
def get_keep(e:Env)(n:Nat):∀ ks:List Nat,ks.elem n=true->(e.keep ks).get n=e.get n
 | [],h=>by cases h
 | m::ks,h=>by
  simp only[Env.keep,Env.get]
  split
  .grind
  .rename_i hm;refine get_keep e n ks ?_
   grind
def Aq8(e:Env)(ks:List Nat):∀ js:List Nat,(∀ n,js.elem n=true->ks.elem n=true)->(e.keep ks).keep js=e.keep js
 | [],_=>rfl
 | m::js,h=>by
  simp only[Env.keep];rw[get_keep e m ks (h m AE),Aq8 e ks js fun n hn=>h n (by grind)]
theorem Apm(e:Env)(ks:List Nat):e.keep ks=(e.keep ks).keep ks:=(Aq8 e ks ks fun _ h=>h).symm
section
variable {Q:Env->St->Prop} {e:Env} {σ:St} {k:List It} {l:List AI} {kill:List Nat}
def Alj(a b:AC):W T pr (.c (.seq a b)::k) e σ Q=W T pr (.c a::.c b::k) e σ Q:=propext ⟨fun⟨e',σ',h,q⟩=>by cases h with | cSeq h=>exact⟨e',σ',h,q⟩,Bhw⟩
def Bec:W T pr (.c .skip::k) e σ Q=W T pr k e σ Q:=propext ⟨fun⟨e',σ',h,q⟩=>by cases h with | cSkip h=>exact⟨e',σ',h,q⟩,Bdj⟩
def Axu(id:Nat)(c:AC):W T pr (.c (.blk id c)::k) e σ Q=W T pr (.c c::.b id::k) e σ Q:=propext ⟨fun⟨e',σ',h,q⟩=>by cases h with | cBlk h=>exact⟨e',σ',h,q⟩,Bhx⟩
def Biv(id:Nat):W T pr (.b id::k) e σ Q=W T pr k e σ Q:=propext ⟨fun⟨e',σ',h,q⟩=>by cases h with | cEnd h=>exact⟨e',σ',h,q⟩,Bhy⟩
def Bed(keep:List Nat)(c:AC):W T pr (.c (.loop keep c)::k) e σ Q=WE T pr (e.keep keep) (.l keep c::k) σ Q:=by
 refine propext ⟨fun⟨e',σ',h,q⟩=>?_,fun h=>Bdk (Ai h ?_)⟩
 .cases h with
  | cLoop h=>exact Ai ⟨e',σ',h,q⟩ (Apm e keep).symm
 grind[Apm]
def A9z(keep:List Nat)(c:AC):W T pr (.l keep c::k) e σ Q=WE T pr (e.keep keep) (.c c::.l keep c::k) σ Q:=propext ⟨fun⟨e',σ',h,q⟩=>by cases h with | cAgain h=>exact⟨e',σ',h,q⟩,A9g⟩
def Biw:W T pr (.c .ret::k) e σ Q=Q e σ:=propext ⟨fun⟨e',σ',h,q⟩=>by cases h with | cRet=>exact q,Bhz⟩
theorem Axv:W T pr [] e σ Q=Q e σ:=propext ⟨fun⟨e',σ',h,q⟩=>by cases h with | cNil=>exact q,Bh0⟩
def Bix(ops:List AI):W T pr (.c (.reg kill ops)::k) e σ Q=WR T pr ops kill k e σ Q:=propext ⟨fun⟨e',σ',h,q⟩=>by cases h with | cReg h h2=>exact⟨_,_,h,e',σ',h2,q⟩,fun⟨_,_,h,e',σ',h2,q⟩=>⟨e',σ',.cReg h h2,q⟩⟩
def Bee(c:S)(x y:AC):W T pr (.c (.cond c kill x y)::k) e σ Q=WC T pr (Ac e c) kill x y k e σ Q:=by
 refine propext ⟨fun⟨e',σ',h,q⟩=>?_,fun h=>?_⟩
 .cases h with
  | cCond hc h=>
   rw[hc];rename_i z;cases z
   .exact⟨e',σ',h,q⟩
   .exact⟨e',σ',h,q⟩
 .unfold WC at h
  split at h
  .rename_i hc;exact A5j hc h
  .rename_i hc;exact A5k hc h
  .exact h.elim
def Aal(id:Nat):∀ k':List It,WJ T pr id k' e σ Q↔∃ k2,exitTo id k'=some k2/\W T pr k2 e σ Q
 | []=>by simp[WJ,exitTo]
 | .b i::k'=>by
  simp only[WJ,exitTo]
  split
  .simp
  .exact Aal id k'
 | .c _::k'=>by simp only[WJ,exitTo];exact Aal id k'
 | .l _ _::k'=>by simp only[WJ,exitTo];exact Aal id k'
def Beg(id:Nat):W T pr (.c (.exit id)::k) e σ Q=WJ T pr id k e σ Q:=propext ⟨fun⟨e',σ',h,q⟩=>by cases h with | cExit hk h=>exact(Aal id k).2 ⟨_,hk,e',σ',h,q⟩,fun h=>let ⟨_,h1,h2⟩:=(Aal id k).1 h;Bdl h1 h2⟩
def Bnf(id i:Nat):WJ T pr id (.b i::k) e σ Q=if i=id then W T pr k e σ Q else WJ T pr id k e σ Q:=Bq rfl
def Bng(id:Nat)(c:AC):WJ T pr id (.c c::k) e σ Q=WJ T pr id k e σ Q:=Bq rfl
def Bnh(id:Nat)(kp:List Nat)(c:AC):WJ T pr id (.l kp c::k) e σ Q=WJ T pr id k e σ Q:=Bq rfl
def we:WE T pr e k σ Q=W T pr k e σ Q:=Bq rfl
def Beh:WR T pr [] kill k e σ Q=WE T pr (e.del kill) k σ Q:=propext ⟨fun⟨_,_,h,q⟩=>by cases h with | opsNil=>exact q,fun h=>⟨_,_,.opsNil,h⟩⟩
def Bei(v:V)(σ1:St)(d:Option Nat):WX T pr (.val v σ1) d l kill k e σ Q=WR T pr l kill k (e.putO d v) σ1 Q:=Bq rfl
def A90(d:Option Nat):WX T pr .fail d l kill k e σ Q=False:=Bq rfl
def Jz{f:Nat}{args:List V}{d:Option Nat}{v:V}{σ1:St}(hc:CallS T pr f args σ v σ1)(h:WR T pr l kill k (e.putO d v) σ1 Q):WX T pr (.call f args) d l kill k e σ Q:=⟨v,σ1,hc,h⟩
def A0n{op:AO}{r:V × St}(h:Af op e σ=some r):Cj e op=none:=by
 cases op with
 | call f xs=>cases h
 | callv x xs=>cases h
 | _=>rfl
theorem Alk{i:AI}(hw:Cv e i=some true):WR T pr (i::l) kill k e σ Q=WX T pr (Bm i.op e σ) i.dst l kill k e σ Q:=by
 refine propext ⟨fun⟨e',σ',h,q⟩=>?_,fun h=>?_⟩
 .cases h with
  | opsSkip hw' _=>rw[hw]at hw';cases hw'
  | opsVal _ hv h=>
   unfold Bm;rw[A0n hv,hv];exact⟨_,_,h,q⟩
  | opsPrim _ hc h1 h2 h3 h=>
   unfold Bm;rw[hc];exact⟨_,_,.prim h1 h2 h3,_,_,h,q⟩
  | opsPure _ hc h1 h2 h3 h4 h5 h6 h=>
   unfold Bm;rw[hc];exact⟨_,_,.pure h4 ⟨_,h1,h2,h3,_,_,h5,h6⟩,_,_,h,q⟩
  | opsOwn _ hc h1 h2 h3 hx h4 h=>
   unfold Bm;rw[hc];exact⟨_,_,.own hx ⟨_,h1,h2,h3,h4⟩,_,_,h,q⟩
  | opsAny _ hc h1 h3 h4 h=>
   unfold Bm;rw[hc];exact⟨_,_,.any ⟨_,h1,h3,h4⟩,_,_,h,q⟩
  | opsThr _ hc h1 h2 h3 h4 h=>
   unfold Bm;rw[hc];exact⟨_,_,.thr ⟨_,h1,h2,h3,h4⟩,_,_,h,q⟩
  | opsSpec _ hc h1 h2 h3 h4 h=>
   unfold Bm;rw[hc];exact⟨_,_,.spec h1 h2 h3 h4,_,_,h,q⟩
 .unfold Bm at h
  split at h
  .rename_i f args hc;obtain⟨v,σ1,hs,e',σ',h,q⟩:=h;exact⟨e',σ',(hs.sg hw hc).ev h,q⟩
  .cases hv:Af i.op e σ with
   | none=>rw[hv]at h;exact h.elim
   | some p=>
    obtain⟨v,σ1⟩:=p;rw[hv]at h;obtain⟨e',σ',h,q⟩:=h;exact⟨e',σ',.opsVal hw hv h,q⟩
def Bni(d:Nat)(op:AO):WR T pr (o d op::l) kill k e σ Q=WX T pr (Bm op e σ) (some d) l kill k e σ Q:=Alk (i:=o d op) rfl
def Biy(op:AO):WR T pr (on op::l) kill k e σ Q=WX T pr (Bm op e σ) none l kill k e σ Q:=Alk (i:=on op) rfl
theorem A91{i:AI}(hw:Cv e i=some false):WR T pr (i::l) kill k e σ Q=WR T pr l kill k (e.putO i.dst .skp) σ Q:=by
 refine propext ⟨fun⟨e',σ',h,q⟩=>?_,fun⟨e',σ',h,q⟩=>⟨e',σ',.opsSkip hw h,q⟩⟩
 cases h with
 | opsSkip _ h=>exact⟨_,_,h,q⟩
 | opsVal hw'=>rw[hw]at hw';cases hw'
 | opsPrim hw'=>rw[hw]at hw';cases hw'
 | opsPure hw'=>rw[hw]at hw';cases hw'
 | opsOwn hw'=>rw[hw]at hw';cases hw'
 | opsAny hw'=>rw[hw]at hw';cases hw'
 | opsThr hw'=>rw[hw]at hw';cases hw'
 | opsSpec hw'=>rw[hw]at hw';cases hw'
def Ayx{i:AI}{t:Nat}{w:Bool}(hg:i.g=some (t,w)):WR T pr (i::l) kill k e σ Q=WD T pr (e.get t) w i.dst i.op l kill k e σ Q:=by
 unfold WD
 have hd:Cv e i=(match e.get t with
  | .bool b=>some (b==w)
  | .skp=>some false
  | _=>none):=by unfold Cv;rw[hg];rfl
 have no:Cv e i=none->WR T pr (i::l) kill k e σ Q=False:=by
  intro hn;refine propext ⟨?_,False.elim⟩;rintro⟨e',σ',h,q⟩
  cases h with
  | opsSkip hw'=>grind
  | opsVal hw'=>grind
  | opsPrim hw'=>grind
  | opsPure hw'=>grind
  | opsOwn hw'=>grind
  | opsAny hw'=>grind
  | opsThr hw'=>grind
  | opsSpec hw'=>grind
 grind[Alk,A91]
def Biz(d:Nat)(op:AO)(t:Nat)(w:Bool):WR T pr (og d op t w::l) kill k e σ Q=WD T pr (e.get t) w (some d) op l kill k e σ Q:=Ayx (i:=og d op t w) rfl
def Bi0(op:AO)(t:Nat)(w:Bool):WR T pr (oh op t w::l) kill k e σ Q=WD T pr (e.get t) w none op l kill k e σ Q:=Ayx (i:=oh op t w) rfl
def Bej(w:Bool)(d:Option Nat)(op:AO):WD T pr .skp w d op l kill k e σ Q=WR T pr l kill k (e.putO d .skp) σ Q:=Bq rfl
def A92(x y:AC):WC T pr (.bool true) kill x y k e σ Q=WE T pr (e.del kill) (.c x::k) σ Q:=Bq rfl
def A5n(x y:AC):WC T pr (.bool false) kill x y k e σ Q=WE T pr (e.del kill) (.c y::k) σ Q:=Bq rfl
def Lp{b:Bool}{x y:AC}(h1:b=true->WE T pr (e.del kill) (.c x::k) σ Q)(h2:b=false->WE T pr (e.del kill) (.c y::k) σ Q):WC T pr (.bool b) kill x y k e σ Q:=by
 cases b
 .exact h2 rfl
 .exact h1 rfl
end
/-! only the first part is looked at while it is reckoned -/
section
variable {Q:Env->St->Prop} {e e':Env} {σ σ':St} {k:List It} {l:List AI} {kill:List Nat}
@[congr] theorem Bpl (h:e=e'):W T pr k e σ Q=W T pr k e' σ Q:=by rw[h]
@[congr] theorem Bpb (h:e=e'):WE T pr e k σ Q=WE T pr e' k σ Q:=by rw[h]
@[congr] theorem Bpc (h:e=e'):WR T pr l kill k e σ Q=WR T pr l kill k e' σ Q:=by rw[h]
@[congr] theorem Bpd {r r':Rs} {d:Option Nat} (h:r=r'):WX T pr r d l kill k e σ Q=WX T pr r' d l kill k e σ Q:=by rw[h]
@[congr] theorem Bpe {g g':V} {w:Bool} {d:Option Nat} {op:AO} (h:g=g'):WD T pr g w d op l kill k e σ Q=WD T pr g' w d op l kill k e σ Q:=by rw[h]
@[congr] theorem Bpf {g g':V} {x y:AC} (h:g=g'):WC T pr g kill x y k e σ Q=WC T pr g' kill x y k e σ Q:=by rw[h]
end
variable {T:Nat->Option AF} {pr:Nat->Option (List V->Option V)}
inductive Kd where
 | pu | rd | ef
def kd:AO->Kd
 | .new _ _ | .box _ _ | .store _ _ _ | .app _ _ _ _ | .apps _ _ _ | .rowf _ _ _ | .rowo _ _ _ _ | .mk _ _ _ _ _ | .mmk | .mup _ _ _ | .call _ _ | .callv _ _=>.ef
 | .load _ _ _ | .mlk _ _ _=>.rd
 | _=>.pu
def Bi1{op:AO}(h:kd op=.pu):Gm T pr op=0:=by
 cases op<;>simp[kd]at h<;>simp[Gm]
def Bi2{op:AO}(h:kd op=.rd){e:Env}{σ σ1:St}{v:V}(hv:Af op e σ=some (v,σ1)):σ1=σ:=by
 cases op with
 | load n one x=>
  simp only[Af,Ci]at hv;obtain⟨_,_,h⟩:=hv;cases h;rfl
 | mlk z x k=>
  simp only[Af]at hv
  split at hv
  .split at hv
   .cases hv;rfl
   .cases hv
  .cases hv
 | _=>simp[kd]at h
def CallP(T:Nat->Option AF)(pr:Nat->Option (List V->Option V))(f:Nat)(vs:List V)(v:V):Prop:=(∃ s,pr f=some s/\s vs=some v)\/Fn T pr f vs v
def CallP.sg{i:AI}{f:Nat}{args vs:List V}{e:Env}{σ:St}{v:V}(h:CallP T pr f vs v)(hw:Cv e i=some true)(hc:Cj e i.op=some (f,args))(hx:Dt σ args=some vs):Sg T pr i e σ v (after σ args v):=by
 rcases h with⟨s,h1,h2⟩ | h
 .exact .prim hw hc h1 hx h2
 .exact .pure hw hc hx h
def L5(qa:List (List Nat))(n m:Nat)(i:AI)(z:Kd)(v:V)(σ1:St)(e:Env)(σ:St)(fs:Fs)(ls:Ls)(K:Env->St->Fs->Ls->Prop):Prop:=
 match z with
 | .pu=>K (e.putO i.dst v) σ fs ls
 | .rd=>Xn qa n m (fun s=>Af i.op e s=some (v,s)) fs/\K (e.putO i.dst v) σ fs ((m,fun s=>Af i.op e s=some (v,s))::ls)
 | .ef=>P6 qa n m fs/\P7 qa n m σ σ1 ls/\K (e.putO i.dst v) σ1 ((m,σ,σ1)::fs) ls
def Hv(T:Nat->Option AF)(pr:Nat->Option (List V->Option V))(qa:List (List Nat))(n m:Nat)(i:AI)(r:Rs)(e:Env)(σ:St)(fs:Fs)(ls:Ls)(K:Env->St->Fs->Ls->Prop):Prop:=
 match r with
 | .val v σ1=>L5 qa n m i (kd i.op) v σ1 e σ fs ls K
 | .call f args=>(∃ v vs,Ah args=[]/\Dt σ args=some vs/\CallP T pr f vs v/\K (e.putO i.dst v) σ fs ls) \/
   (∃ v vs,Dt σ args=some vs/\CallP T pr f vs v/\v.flatV=true/\Xn qa n m (fun s=>Dt s args=some vs) fs/\K (e.putO i.dst v) σ fs ((m,fun s=>Dt s args=some vs)::ls)) \/
   (∃ v σ1,CallS T pr f args σ v σ1/\P6 qa n m fs/\P7 qa n m σ σ1 ls/\K (e.putO i.dst v) σ1 ((m,σ,σ1)::fs) ls)
 | .fail=>False
def J8(T:Nat->Option AF)(pr:Nat->Option (List V->Option V))(qa:List (List Nat))(n m:Nat)(i:AI)(g:Option V)(w:Bool)(e:Env)(σ:St)(fs:Fs)(ls:Ls)(K:Env->St->Fs->Ls->Prop):Prop:=
 match g with
 | none=>Hv T pr qa n m i (Bm i.op e σ) e σ fs ls K
 | some (.bool b)=>if b=w then Hv T pr qa n m i (Bm i.op e σ) e σ fs ls K else K (e.putO i.dst .skp) σ fs ls
 | some .skp=>K (e.putO i.dst .skp) σ fs ls
 | some _=>False
def wg(T:Nat->Option AF)(pr:Nat->Option (List V->Option V))(qa:List (List Nat))(n:Nat)(kill:List Nat)(k:List It)(Q:Env->St->Prop):Nat->List AI->Env->St->Fs->Ls->Prop
 | _,[],e,σ,_,_=>WE T pr (e.del kill) k σ Q
 | m,i::l,e,σ,fs,ls=>J8 T pr qa n m i (i.g.map fun p=>e.get p.1) ((i.g.map fun p=>p.2).getD true) e σ fs ls (wg T pr qa n kill k Q (m+1) l)
section
variable {Q:Env->St->Prop} {e:Env} {σ:St} {k:List It} {kill:List Nat} {qa:List (List Nat)} {n:Nat}
def Av1{m:Nat}{i:AI}{l:List AI}{fs:Fs}{ls:Ls}{K:Env->St->Prop}{P:Env->St->Fs->Ls->Prop}(hP:∀ e σ fs ls,P e σ fs ls->WG T pr qa n (m+1) l e σ fs ls K)
  (hw:Cv e i=some true) (h:Hv T pr qa n m i (Bm i.op e σ) e σ fs ls P):WG T pr qa n m (i::l) e σ fs ls K:=by
 unfold Bm at h
 split at h
 .rename_i f args hc;rcases h with⟨v,vs,h1,h2,h3,h4⟩ | ⟨v,vs,h1,h2,h3,h4,h5⟩ | ⟨v,σ1,h1,h2,h3,h4⟩
  .refine Aeb (fun s=>?_) (hP _ _ _ _ h4);have:=h3.sg (σ:=s) hw hc ((Ac7 h1 s).trans h2)
   grind[Vy]
  .obtain⟨e',σ',h,q⟩:=hP _ _ _ _ h5;refine⟨e',σ',.read (fun s=>Dt s args=some vs) h1 (fun s hs=>?_) (Ajf h4) h,q⟩;have:=h2.sg (σ:=s) hw hc hs
   simp_all [after]
  .exact Av0 (h1.sg hw hc) h2 h3 (hP _ _ _ _ h4)
 .cases hv:Af i.op e σ with
  | none=>rw[hv]at h;exact h.elim
  | some p=>
   obtain⟨v,σ1⟩:=p;rw[hv]at h;simp only[r2,Hv]at h;unfold L5 at h
   split at h
   .rename_i hk;obtain⟨rfl,qf⟩:=Ab8 (Bi1 (T:=T) (pr:=pr) hk) hv
    grind[Bdo]
   .rename_i hk;obtain rfl:=Bi2 hk hv
    grind[Bh3]
   grind[Bdp]
def Uv:∀ (l:List AI) (m:Nat) (e:Env) (σ:St) (fs:Fs) (ls:Ls),wg T pr qa n kill k Q m l e σ fs ls->WG T pr qa n m l e σ fs ls fun e1 σ1=>W T pr k (e1.del kill) σ1 Q
 | [],m,e,σ,fs,ls,h=>Bdn h
 | i::l,m,e,σ,fs,ls,h=>by
  unfold wg at h;unfold J8 at h
  split at h
  .rename_i hg;refine Av1 (fun e σ fs ls=>Uv l (m+1) e σ fs ls) ?_ h
   grind[Cv]
  .rename_i b hg;obtain⟨p,hp,hb⟩:=Ci.1 hg
   split at h
   .rename_i qn;refine Av1 (fun e σ fs ls=>Uv l (m+1) e σ fs ls) ?_ h
    grind[Cv]
   .rename_i qn;refine Aeb (fun s=>.off ?_) (Uv l (m+1) _ _ _ _ h)
    grind[Cv]
  .rename_i hg;obtain⟨p,hp,hb⟩:=Ci.1 hg;refine Aeb (fun s=>.off ?_) (Uv l (m+1) _ _ _ _ h)
   grind[Cv]
  grind
def Ad{ops:List AI}(qs:Oq qa ops=true)(h:wg T pr qa ops.length kill k Q 0 ops e σ [] []):W T pr (.c (.drw kill qa ops)::k) e σ Q:=
 Bdm qs fun _ hK=>by
  obtain⟨e',σ',h,q⟩:=Uv _ _ _ _ _ _ h;exact⟨e',σ',h,hK _ _ q⟩
variable {m:Nat} {l:List AI} {fs:Fs} {ls:Ls} {K:Env->St->Fs->Ls->Prop}
def Bek:wg T pr qa n kill k Q m [] e σ fs ls=WE T pr (e.del kill) k σ Q:=Bq rfl
def Bnj(d:Nat)(op:AO):wg T pr qa n kill k Q m (o d op::l) e σ fs ls=Hv T pr qa n m (o d op) (Bm op e σ) e σ fs ls (wg T pr qa n kill k Q (m+1) l):=Bq rfl
def Bi3(op:AO):wg T pr qa n kill k Q m (on op::l) e σ fs ls=Hv T pr qa n m (on op) (Bm op e σ) e σ fs ls (wg T pr qa n kill k Q (m+1) l):=Bq rfl
def Bi4(d:Nat)(op:AO)(t:Nat)(w:Bool):wg T pr qa n kill k Q m (og d op t w::l) e σ fs ls=J8 T pr qa n m (og d op t w) (some (e.get t)) w e σ fs ls (wg T pr qa n kill k Q (m+1) l):=Bq rfl
def Bi5(op:AO)(t:Nat)(w:Bool):wg T pr qa n kill k Q m (oh op t w::l) e σ fs ls=J8 T pr qa n m (oh op t w) (some (e.get t)) w e σ fs ls (wg T pr qa n kill k Q (m+1) l):=Bq rfl
def Bi6(d:Nat)(op:AO)(v:V)(σ1:St):Hv T pr qa n m (o d op) (.val v σ1) e σ fs ls K=L5 qa n m (o d op) (kd op) v σ1 e σ fs ls K:=Bq rfl
def Bel(op:AO)(v:V)(σ1:St):Hv T pr qa n m (on op) (.val v σ1) e σ fs ls K=L5 qa n m (on op) (kd op) v σ1 e σ fs ls K:=Bq rfl
def Bem(d:Nat)(op:AO)(t:Nat)(w:Bool)(v:V)(σ1:St):Hv T pr qa n m (og d op t w) (.val v σ1) e σ fs ls K=L5 qa n m (og d op t w) (kd op) v σ1 e σ fs ls K:=Bq rfl
def Ben(op:AO)(t:Nat)(w:Bool)(v:V)(σ1:St):Hv T pr qa n m (oh op t w) (.val v σ1) e σ fs ls K=L5 qa n m (oh op t w) (kd op) v σ1 e σ fs ls K:=Bq rfl
def Beo(d:Nat)(op:AO)(t:Nat):J8 T pr qa n m (og d op t true) (some (.bool true)) true e σ fs ls K=Hv T pr qa n m (og d op t true) (Bm op e σ) e σ fs ls K:=Bq rfl
def Bep(d:Nat)(op:AO)(t:Nat):J8 T pr qa n m (og d op t false) (some (.bool false)) false e σ fs ls K=Hv T pr qa n m (og d op t false) (Bm op e σ) e σ fs ls K:=Bq rfl
def Beq(d:Nat)(op:AO)(t:Nat):J8 T pr qa n m (og d op t false) (some (.bool true)) false e σ fs ls K=K (e.put d .skp) σ fs ls:=Bq rfl
def Ber(d:Nat)(op:AO)(t:Nat):J8 T pr qa n m (og d op t true) (some (.bool false)) true e σ fs ls K=K (e.put d .skp) σ fs ls:=Bq rfl
def Bi7(d:Nat)(op:AO)(t:Nat)(w:Bool):J8 T pr qa n m (og d op t w) (some .skp) w e σ fs ls K=K (e.put d .skp) σ fs ls:=Bq rfl
def Bes(op:AO)(t:Nat):J8 T pr qa n m (oh op t true) (some (.bool true)) true e σ fs ls K=Hv T pr qa n m (oh op t true) (Bm op e σ) e σ fs ls K:=Bq rfl
def Bet(op:AO)(t:Nat):J8 T pr qa n m (oh op t false) (some (.bool false)) false e σ fs ls K=Hv T pr qa n m (oh op t false) (Bm op e σ) e σ fs ls K:=Bq rfl
def Beu(op:AO)(t:Nat):J8 T pr qa n m (oh op t false) (some (.bool true)) false e σ fs ls K=K e σ fs ls:=Bq rfl
def Bev(op:AO)(t:Nat):J8 T pr qa n m (oh op t true) (some (.bool false)) true e σ fs ls K=K e σ fs ls:=Bq rfl
def Bi8(op:AO)(t:Nat)(w:Bool):J8 T pr qa n m (oh op t w) (some .skp) w e σ fs ls K=K e σ fs ls:=Bq rfl
def Bew{i:AI}(v:V)(σ1:St):L5 qa n m i .pu v σ1 e σ fs ls K=K (e.putO i.dst v) σ fs ls:=Bq rfl
def Bex{i:AI}(v:V)(σ1:St):L5 qa n m i .rd v σ1 e σ [] ls K=K (e.putO i.dst v) σ [] ((m,fun s=>Af i.op e s=some (v,s))::ls):=propext ⟨fun h=>h.2,fun h=>⟨trivial,h⟩⟩
def Bey{i:AI}(v:V)(σ1:St):L5 qa n m i .ef v σ1 e σ [] [] K=K (e.putO i.dst v) σ1 [(m,σ,σ1)] []:=propext ⟨fun h=>h.2.2,fun h=>⟨trivial,trivial,h⟩⟩
def Id{i:AI}{v:V}{σ1:St}(h1:P6 qa n m fs)(h2:P7 qa n m σ σ1 ls)(h:K (e.putO i.dst v) σ1 ((m,σ,σ1)::fs) ls):L5 qa n m i .ef v σ1 e σ fs ls K:=⟨h1,h2,h⟩
end
/-! settled values go over as they are -/
def De:V->Bool
 | .agg cs=>cs.all V.rowB
 | .imm _ _=>true
 | v=>v.rowB
theorem Qk{v:V}(h:v.rowB=true):v.refs=[]:=by cases v<;>simp[V.rowB]at h<;>rfl
theorem F0:∀ {cs:List V},cs.all V.rowB=true->Ah cs=[]
 | [],_=>rfl
 | c::cs,h=>by
  simp only[B5,Al]at h;simp only[Ah,Qk h.1,F0 h.2,Bz]
def Vz{v:V}(h:De v=true):v.refs=[]:=by
 unfold De at h
 split at h
 .exact F0 h
 .rfl
 grind[Qk]
def V0:∀ {vs:List V},vs.all De=true->Ah vs=[]
 | [],_=>rfl
 | c::cs,h=>by
  simp only[B5,Al]at h;simp only[Ah,Vz h.1,V0 h.2,Bz]
theorem Tl{σ:St}{js:List Nat}{d:Nat}{v:V}(h:v.rowB=true):Fg σ js (d+1) v=some v:=by
 simp_all [Fg]
theorem Uc{f:V->Option V}:∀ {cs:List V},(∀ c∈cs,f c=some c)->cs.mapM f=some cs
 | [],_=>rfl
 | c::cs,h=>by
  rw[Jv,h c Cz,Uc fun c hc=>h c (Dl _ hc)];rfl
theorem X9{σ:St}{js:List Nat}{v:V}(h:De v=true):Gy σ js v=some v:=by
 unfold De at h
 split at h
 .grind[Gy,Uc,Tl]
 .rfl
 .rename_i h1 h2;unfold Gy
  split
  .grind
  .grind
  grind[Tl]
def Yq{σ:St}{vs:List V}(h:vs.all De=true):Dt σ vs=some vs:=Uc fun c hc=>X9 (Cc.1 h c hc)
section
variable {Q:Env->St->Prop} {e:Env} {σ:St} {k:List It} {l:List AI} {kill:List Nat} {f:Nat} {vs:List V} {v:V} {d:Option Nat}
def Ab(hf:Fn T pr f vs v)(hs:vs.all De=true)(h:WR T pr l kill k (e.putO d v) σ Q):WX T pr (.call f vs) d l kill k e σ Q:=
 Jz (.pure (Yq hs) hf) (by rw[Vy (V0 hs)];exact h)
def Fu{s:List V->Option V}(hp:pr f=some s)(hs:vs.all De=true)(hv:s vs=some v)(h:WR T pr l kill k (e.putO d v) σ Q):WX T pr (.call f vs) d l kill k e σ Q:=
 Jz (.prim hp (Yq hs) hv) (by rw[Vy (V0 hs)];exact h)
def Bv{σ1:St}(hf:Th T pr f vs σ v σ1)(h:WR T pr l kill k (e.putO d v) σ1 Q):WX T pr (.call f vs) d l kill k e σ Q:=Jz (.thr hf) h
def Aa{σ1:St}(hf:Bw T pr f vs σ v σ1)(h:WR T pr l kill k (e.putO d v) σ1 Q):WX T pr (.call f vs) d l kill k e σ Q:=Jz (.any hf) h
variable {qa:List (List Nat)} {n m:Nat} {fs:Fs} {ls:Ls} {K:Env->St->Fs->Ls->Prop} {i:AI}
def Ax(hf:Fn T pr f vs v)(hs:vs.all De=true)(h:K (e.putO i.dst v) σ fs ls):Hv T pr qa n m i (.call f vs) e σ fs ls K:=.inl ⟨v,vs,V0 hs,Yq hs,.inr hf,h⟩
def Aec{s:List V->Option V}(hp:pr f=some s)(hs:vs.all De=true)(hv:s vs=some v)(h:K (e.putO i.dst v) σ fs ls):Hv T pr qa n m i (.call f vs) e σ fs ls K:=.inl ⟨v,vs,V0 hs,Yq hs,.inl ⟨s,hp,hv⟩,h⟩
def Z1{σ1:St}(hf:Th T pr f vs σ v σ1)(h1:P6 qa n m fs)(h2:P7 qa n m σ σ1 ls)(h:K (e.putO i.dst v) σ1 ((m,σ,σ1)::fs) ls):Hv T pr qa n m i (.call f vs) e σ fs ls K:=.inr (.inr ⟨v,σ1,.thr hf,h1,h2,h⟩)
end
/-! ends -/
def FR(v0:V)(σ1:St)(v:V):Prop:=(Cd v0=true/\v0.refs=[]/\Eg [] v0=some v)\/∃ js,Hj 0 js v0 σ1=true/\Eg ((js.filterMap (σ1[·]?)).map (Ob.ren (ren 0 js))) (v0.ren (ren 0 js))=some v
def FL(o:Option V)(σ1:St)(v:V):Prop:=∃ v0,o=some v0/\FR v0 σ1 v
def FQ(res:List AR)(v:V)(e:Env)(σ:St):Prop:=FL (Ca e σ res) σ v
def Bg{f p:Nat}{res:List AR}{body:AC}{vs:List V}{v:V}(hT:T f=some ⟨p,res,false,body,none⟩)(hl:vs.length=p)(h:W T pr [.c body] (C7 0 vs) [] (FQ res v)):Fn T pr f vs v:=by
 obtain⟨e',σ',hE,v0,hr,h1 | ⟨js,h1,h2⟩⟩:=h
 .exact Aq3 hT rfl rfl hl ⟨e',σ',hE,v0,hr,h1⟩
 .exact A2n hT rfl rfl hl ⟨e',σ',hE,v0,js,hr,h1,h2⟩
def Bnk(r:AR)(v:V)(e:Env)(σ:St):FQ [r] v e σ=FL (Gr e σ r) σ v:=Bq rfl
def Bnl(r s:AR)(v:V)(e:Env)(σ:St):FQ [r,s] v e σ=FL ((Gr e σ r).bind fun a=>(Gr e σ s).map fun b=>.tup [a,b]) σ v:=by
 simp only[FQ,Ca,Jv,Abz]
 cases Gr e σ r with
 | none=>rfl
 | some a=>cases Gr e σ s<;>rfl
def Bnm(r s t:AR)(v:V)(e:Env)(σ:St):FQ [r,s,t] v e σ=FL ((Gr e σ r).bind fun a=>(Gr e σ s).bind fun b=>(Gr e σ t).map fun c=>.tup [a,b,c]) σ v:=by
 simp only[FQ,Ca,Jv,Abz]
 cases Gr e σ r with
 | none=>rfl
 | some a=>
  cases Gr e σ s with
  | none=>rfl
  | some b=>cases Gr e σ t<;>rfl
def A93(v0 v:V)(σ:St):FL (some v0) σ v=FR v0 σ v:=propext ⟨fun⟨_,h,q⟩=>by cases h;exact q,fun h=>⟨_,rfl,h⟩⟩
theorem Zd{v:V}(h:De v=true):Ga v=true:=by
 unfold De at h
 split at h
 .rename_i cs;simp only[Ga];rw[Cc]at h ⊢;intro c hc;have:=h c hc
  cases c<;>simp[V.rowB]at this<;>rfl
 .rfl
 .cases v<;>simp[V.rowB]at h<;>rfl
def Gs{v:V}{σ:St}(h:De v=true):FR v σ v:=by
 refine .inl ⟨?_,Vz h,?_⟩
 .cases v with
  | tup vs=>grind[De,V.rowB]
  | _=>exact Zd h
 .unfold Eg Iw
  grind[De,V.rowB,X9]
def Fq{vs:List V}{σ:St}(h:vs.all De=true):FR (.tup vs) σ (.tup vs):=by
 refine .inl ⟨?_,V0 h,?_⟩
 .grind[Cd,Zd]
 grind[Eg,Iw,Uc,X9]
def Ae{v v':V}{σ:St}(h:De v=true)(he:v=v'):FR v σ v':=he ▸ Gs h
def TQ(res:List AR)(σ:St)(v:V)(σ':St)(e:Env)(σ1:St):Prop:=Ca e σ1 res=some v/\Amg σ.length σ v σ1/\σ'=σ1.take σ.length
def Bi9{f p:Nat}{res:List AR}{body:AC}{vs:List V}{v:V}{σ σ':St}(hT:T f=some ⟨p,res,true,body,none⟩)(hl:vs.length=p)(h:W T pr [.c body] (C7 0 vs) σ (TQ res σ v σ')):Th T pr f vs σ v σ':=Aq2 hT rfl rfl hl h
def Ay{keep:List Nat}{c c':AC}{k:List It}{e:Env}{σ:St}{Q:Env->St->Prop}(hc:c=c')(h:WE T pr (e.keep keep) (.c c'::.l keep c::k) σ Q):W T pr (.l keep c::k) e σ Q:=by
 subst hc;rw[A9z];exact h
section
variable {qa:List (List Nat)} {n m:Nat} {e:Env} {σ:St} {fs:Fs} {ls:Ls} {K:Env->St->Fs->Ls->Prop} {i:AI}
@[congr] theorem Bo6 {r r':Rs} (h:r=r'):Hv T pr qa n m i r e σ fs ls K=Hv T pr qa n m i r' e σ fs ls K:=by rw[h]
@[congr] theorem Bo7 {g g':Option V} {w:Bool} (h:g=g'):J8 T pr qa n m i g w e σ fs ls K=J8 T pr qa n m i g' w e σ fs ls K:=by rw[h]
@[congr] theorem Bo8 {z z':Kd} {v:V} {σ1:St} (h:z=z'):L5 qa n m i z v σ1 e σ fs ls K=L5 qa n m i z' v σ1 e σ fs ls K:=by rw[h]
end
variable {T:Nat->Option AF} {pr:Nat->Option (List V->Option V)}
def TR(v0:V)(σ:St)(v:V)(σ' σ1:St):Prop:=v0=v/\Amg σ.length σ v σ1/\σ'=σ1.take σ.length
def Bez(a b:Nat)(l:List Nat):List.elem a (b::l)=if a=b then true else List.elem a l:=by
 grind
def Be0(a:Nat):List.elem a []=false:=rfl
def Bja(m n:Nat)(u v:V)(r:Env):Env.put ((m,u)::r) n v=if m=n then(n,v)::r else(m,u)::Env.put r n v:=Bq rfl
def Bjb(n:Nat)(v:V):Env.put [] n v=[(n,v)]:=Bq rfl
def Bjc(m:Nat)(u:V)(r:Env)(ks:List Nat):Env.del ((m,u)::r) ks=if ks.elem m=true then Env.del r ks else(m,u)::Env.del r ks:=Bq rfl
def Bjd(ks:List Nat):Env.del [] ks=[]:=Bq rfl
def Be1(e:Env)(n:Nat)(ks:List Nat):e.keep (n::ks)=(n,e.get n)::e.keep ks:=Bq rfl
def Be2(e:Env):e.keep []=[]:=Bq rfl
def Bje(n:Nat):Env.get [] n=.und:=rfl
section
variable {Q:Env->St->Prop} {e:Env} {σ:St} {k:List It} {l:List AI} {kill:List Nat}
def Bjf(d:Option Nat)(op:AO):WD T pr (.bool true) true d op l kill k e σ Q=WX T pr (Bm op e σ) d l kill k e σ Q:=Bq rfl
def Bjg(d:Option Nat)(op:AO):WD T pr (.bool false) false d op l kill k e σ Q=WX T pr (Bm op e σ) d l kill k e σ Q:=Bq rfl
def Bjh(d:Option Nat)(op:AO):WD T pr (.bool true) false d op l kill k e σ Q=WR T pr l kill k (e.putO d .skp) σ Q:=Bq rfl
def Bji(d:Option Nat)(op:AO):WD T pr (.bool false) true d op l kill k e σ Q=WR T pr l kill k (e.putO d .skp) σ Q:=Bq rfl
end
def Bjj(d:Nat)(op:AO):(o d op).dst=some d:=rfl
def Be3(op:AO):(on op).dst=none:=rfl
def Be4(d:Nat)(op:AO)(t:Nat)(w:Bool):(og d op t w).dst=some d:=rfl
def Be5(op:AO)(t:Nat)(w:Bool):(oh op t w).dst=none:=rfl
def L7(o:Option Ob)(g n:Nat)(one:Bool)(off:Nat):Option V:=
 match o with
 | some (.row cs _ g' _)=>if g=g'/\off+n<=cs.length then Ht one ((cs.drop off).take n) else none
 | _=>none
def Afi(cs:List V)(e g' z g n:Nat)(one:Bool)(off:Nat):L7 (some (.row cs e g' z)) g n one off=if g=g'/\off+n<=cs.length then Ht one ((cs.drop off).take n) else none:=Bq rfl
def Be6(σ:St)(n:Nat)(one:Bool)(i g off:Nat):H3 σ n one (.ptr i g off)=L7 σ[i]? g n one off:=Bq rfl
def Be7(σ:St)(n:Nat)(one:Bool)(row:List V)(off:Nat):H3 σ n one (.imm row off)=if off+n<=row.length then Ht one ((row.drop off).take n) else none:=Bq rfl
def Aay(o:Option Ob)(σ:St)(n i g off:Nat)(v:V):Option (V × St):=
 match o with
 | some (.row cs e g' z)=>if g=g'/\z<=off/\v.cells.length=n/\v.cells.all V.cellB=true then(Pp cs off v.cells).map fun cs'=>(.und,σ.set i (.row cs' e g z)) else none
 | _=>none
def Be8(cs:List V)(e g' z:Nat)(σ:St)(n i g off:Nat)(v:V):Aay (some (.row cs e g' z)) σ n i g off v=if g=g'/\z<=off/\v.cells.length=n/\v.cells.all V.cellB=true then(Pp cs off v.cells).map fun cs'=>(.und,σ.set i (.row cs' e g z)) else none:=Bq rfl
def Axw(σ:St)(n i g off:Nat)(v:V):Af1 n (.ptr i g off) v σ=Aay σ[i]? σ n i g off v:=by
 grind[Af1,Qr,Aay,Pp]
def Bjk:Ly .nils=some (.int .i64 0):=rfl
def Bjl(t:Nat)(xs:List (List V)):Ly (.lst t xs)=some (.int .i64 (xs.length:Int)):=rfl
theorem Axx(i g off len m:Nat)(w:Bool):Ly (.sl i g off len m w)=some (.int .i64 (len:Int)):=rfl
def Bjm(m t:Nat)(xs:List (List V))(i:V):Lx m (.lst t xs) i=(Js xs i).bind fun r=>if r.length=m then some (.imm r 0) else none:=Bq rfl
def Bjn(m j g off len m':Nat)(w:Bool)(k:IntKind)(n:Int):Lx m (.sl j g off len m' w) (.int k n)=if 0<=n/\n<len/\m=m' then some (.ptr j g (off+n.toNat*m)) else none:=Bq rfl
def Bjo(off:Nat)(r:List V)(o:Nat):Af2 off (.imm r o)=some (.imm r (o+off)):=Bq rfl
def Bjp(off b g o:Nat):Af2 off (.ptr b g o)=some (.ptr b g (o+off)):=Bq rfl
def Bjq(off n:Nat)(one:Bool)(cs:List V):Amm off n one (.agg cs)=if off+n<=cs.length then Ht one ((cs.drop off).take n) else none:=Bq rfl
def A94(k:IntKind)(n:Int):V.cells (.int k n)=[.int k n]:=rfl
def A95(l:List UInt8):V.cells (.str l)=[.str l]:=rfl
def A96(b:Bool):V.cells (.bool b)=[.bool b]:=rfl
def A97:V.cells .nils=[.nils]:=rfl
def A98(t:Nat)(xs:List (List V)):V.cells (.lst t xs)=[.lst t xs]:=rfl
def A5o(i g o l m:Nat)(w:Bool):V.cells (.sl i g o l m w)=[.sl i g o l m w]:=rfl
def A99(i g o:Nat):V.cells (.ptr i g o)=[.ptr i g o]:=rfl
def A5p:V.cells .nilp=[.nilp]:=rfl
def A2s(r:List V)(o:Nat):V.cells (.imm r o)=[.imm r o]:=rfl
def A5q(f:Nat)(a c:List V):V.cells (.fn f a c)=[.fn f a c]:=rfl
def A5r(i:Nat):V.cells (.mp i)=[.mp i]:=rfl
def Baa(cs:List V):V.cells (.agg cs)=cs:=rfl
def Be9(σ:St)(m:Nat):E5 σ m .nils=some []:=Bq rfl
def Bfa(σ:St)(m t:Nat)(xs:List (List V)):E5 σ m (.lst t xs)=some xs:=Bq rfl
def mk1(c:V):Ht true [c]=some c:=rfl
def mkA(cs:List V):Ht false cs=some (.agg cs):=rfl
def Att(s l:St)(n:Nat):(s++l)[s.length+n]?=l[n]?:=by grind
def Tx(s l:St):(s++l)[s.length]?=l[0]?:=by grind
def Bab(s l:St)(n:Nat)(x:Ob):(s++l).set (s.length+n) x=s++l.set n x:=by grind
def A5s(s l:St)(x:Ob):(s++l).set s.length x=s++l.set 0 x:=by grind
def Ajg{α:Type}(l:List α)(k:IntKind)(n:Nat):Js l (.int k (n:Int))=l[n]?:=by
 simp[Js]
theorem Bo{n:Int}(h : -9223372036854775808<=n/\n<=9223372036854775807):IntKind.i64.wrap n=n:=Go.IntWalk.i64_in _ h
def Bac{n:Int}(h1 : -9223372036854775808<=n)(h2:n<=9223372036854775807):IntKind.i64.wrap n=n:=Bo ⟨h1,h2⟩
def Bnn(t:Nat)(v:V)(σ σ' σ1:St)(e:Env):TQ [.tmp t] σ v σ' e σ1=TR (e.get t) σ v σ' σ1:=Bq (propext ⟨fun⟨h1,h2⟩=>⟨Nz h1,h2⟩,fun⟨h1,h2⟩=>⟨congrArg some h1,h2⟩⟩)
def Adq{v:V}{σ:St}(J:St)(h:v.rowB=true):TR v σ v σ (σ++J):=by
 refine⟨rfl,⟨?_,?_,fun i ob hi ho=>.inl ?_⟩,by simp⟩
 .cases v<;>simp[V.rowB]at h<;>rfl
 .rw[Qk h];rfl
 grind
def Aw{i:Nat}(h:i<9223372036854775807):IntKind.i64.wrap ((i:Int)+1)=((i+1:Nat):Int):=by grind[Bo]
def Aq{i n:Nat}(h:i<n):decide ((i:Int)<(n:Int))=true:=by grind
def Bj{i n:Nat}(h:n<=i):decide ((i:Int)<(n:Int))=false:=by grind
def Bno{i n:Nat}(h:n<=i):decide ((n:Int)<=(i:Int))=true:=by grind
def Bnp{i n:Nat}(h:i<n):decide ((n:Int)<=(i:Int))=false:=by grind
def Bk{α:Type}{l:List α}{i:Nat}(h:i<l.length):∃ x,l[i]?=some x/\l.drop i=x::l.drop (i+1)/\x∈l:=⟨l[i],Cb h,Ib h,Nw h⟩
def Bb{keep:List Nat}{c:AC}{k:List It}{Q:Env->St->Prop}{α:Type}(μ:α->Nat)(E:α->Env)(Z:α->St)(I:α->Prop)
  (h:∀ a,I a->(∀ b,μ b<μ a->I b->W T pr (.l keep c::k) (E b) (Z b) Q)->W T pr (.l keep c::k) (E a) (Z a) Q):∀ a,I a->W T pr (.l keep c::k) (E a) (Z a) Q:=by
 suffices ∀ n a,μ a=n->I a->W T pr (.l keep c::k) (E a) (Z a) Q from fun a=>this _ a rfl
 intro n
 induction n using Nat.strongRecOn with
 | _ n ih=>grind
def Bnq(cs:List V):De (.agg cs)=cs.all V.rowB:=rfl
def Bnr(r:List V)(o:Nat):De (.imm r o)=true:=rfl
def Ayy(k:IntKind)(n:Int):De (.int k n)=true:=rfl
def Bns(l:List UInt8):De (.str l)=true:=rfl
def Bnt(b:Bool):De (.bool b)=true:=rfl
def Bnu:De .nils=true:=rfl
def Bnv:De .nili=true:=rfl
def Bnw(t:Nat)(xs:List (List V)):De (.lst t xs)=true:=rfl
/-! settled slices -/
def SL(z:Bool)(t:Nat)(xs:List (List V)):V:=if z=true/\xs=[] then .nils else .lst t xs
theorem Hq(z:Bool)(t:Nat)(xs:List (List V)):(SL z t xs).rowB=true:=by unfold SL;split<;>rfl
def R3(z:Bool)(t:Nat)(xs:List (List V)):(SL z t xs).cellB=true:=by unfold SL;split<;>rfl
def Av2(z:Bool)(t:Nat)(xs:List (List V)):De (SL z t xs)=true:=by unfold SL;split<;>rfl
def Aq9(z:Bool)(t:Nat)(xs:List (List V)):(SL z t xs).cells=[SL z t xs]:=by unfold SL;split<;>rfl
def Z2(z:Bool)(t:Nat)(xs:List (List V)):Ly (SL z t xs)=some (.int .i64 (xs.length:Int)):=by
 unfold SL
 split
 .rename_i h;rw[h.2];rfl
 .rfl
def Aed(z:Bool)(t:Nat)(xs:List (List V))(m:Nat)(i:V):Lx m (SL z t xs) i=(Js xs i).bind fun r=>if r.length=m then some (.imm r 0) else none:=by
 unfold SL
 split
 .rename_i h;rw[h.2]
  cases i<;>simp[Lx,Js]
 .rfl
def Ajh(z:Bool)(t:Nat)(xs:List (List V))(σ:St)(m:Nat):E5 σ m (SL z t xs)=some xs:=by
 unfold SL
 split
 .rename_i h;rw[h.2];rfl
 .rfl
attribute [go_sem] Nat.reduceEqDiff reduceIte Nat.reduceAdd Nat.reduceMul Nat.reduceLeDiff Int.reduceLT Int.reduceLE Int.reduceToNat Int.reduceAdd Int.reduceNeg Int.reduceEq
attribute [go_sem ↓] Alj Bec Axu Biv Bed Axv Biw Bix Bee Beg Bnf Bng Bnh Beh Bni Biy Biz Bi0 Bek Bnj Bi3 Bi4 Bi5 Bia Bib get_put A5m A2q A2r Bnk Bnl Bnm Bnn
attribute [go_sem ↓] Ajg Bic Bd2 Bid Bie A9w Bd3 Bd4 Bd5 Bna Bd6 A9x Bif Big Bnb Bnc Bih Bd7 Bii Bd8 Bij Bik Bil Bim Bin Bio Bip Bd9 Biq Bir Bea Bnd Bne Bis Bit Biu Beb A9y
attribute [go_sem] we Bei A90 Bej Bjf Bjg Bjh Bji A92 A5n A9s A9t A9u A9v Bi6 Bel Bem Ben Beo Bep Beq Ber Bi7 Bes Bet Beu Bev Bi8 Bew Bex Bey kd A93
attribute [go_sem] Bje Bja Bjb Bjc Bjd Be1 Be2 Bez Be0 C7 Gr
attribute [go_sem] Aax Amd Ap unV Alg Ayv mkV Amj Amk Nm eqB Al9 Ama Amb Amc Aml Alh S4 Ed Amn Amo Amp Amq Ali mxV mnV Amr Ayw Ams mk1 mkA Pp I1 Fi Bnq Bnr Ayy Bns Bnt Bnu Bnv Bnw Bdq Bds A9i A9k A9m Bdu Bdw Bh4 A9o A9q Bdy Bd0 Bh6 Bh8 Bdr Bdt A9j A9l A9n Bdv Bdx Bh5 A9p A9r Bdz Bd1 Bh7 Bh9 decide_true decide_false gt_iff_lt ge_iff_le ne_eq not_false_eq_true not_true_eq_false Bjj Be3 Be4 Be5 Afi Be6 Be7 Be8 Axw Bjk Bjl Axx Bjm Bjn Bjo Bjp Bjq A94 A95 A96 A97 A98 A5o A99 A5p A2s A5q A5r Baa Be9 Bfa
attribute [go_sem] Att Tx Bab A5s Js Bac Hq R3 Av2 Aq9 Z2 Aed Ajh
attribute [go_sem] I9 Option.map_none C5 Option.bind_none Bh B0 B5 Dc Ag8 Ab0 Bool.and_self and_self and_true true_and eq_self Be Dn Aj Mc List.drop_succ_cons List.take_zero List.take_succ_cons Mw Ct Dm Bz Te O7 Agy List.set_cons_succ List.replicate Gv Abu Gw Mx Nat.zero_mul Nat.one_mul Ya Hz Bool.true_eq_false Ba Bc Bool.bne_false Bool.bne_true if_true if_false ite_true ite_false Mv C4
variable {T:Nat->Option AF} {pr:Nat->Option (List V->Option V)}
theorem Mh(σ:St):∀ (d:Nat) (js:List Nat) (i:Nat),i∈js->i∈Fy σ d js
 | 0,_,_,h=>h
 | d+1,js,i,h=>by
  simp only[Fy]
  split
  .exact h
  .exact Mh σ d _ i (Abm _ h)
def OC(σ:St)(v v':V):Prop:=∀ js:List Nat,(∀ i∈v.refs,i∈js)->∀ d,Fg σ js (d+2) v=some v'
def OV(σ:St)(v v':V):Prop:=∀ js:List Nat,(∀ i∈v.refs,i∈js)->Gy σ js v=some v'
inductive OVs (σ:St):List V->List V->Prop
 | nil:OVs σ [] []
 | cons {v v':V} {vs qc:List V}:OV σ v v'->OVs σ vs qc->OVs σ (v::vs) (v'::qc)
inductive OCs (σ:St):List V->List V->Prop
 | nil:OCs σ [] []
 | cons {v v':V} {vs qc:List V}:OC σ v v'->OCs σ vs qc->OCs σ (v::vs) (v'::qc)
def R4{σ:St}{js:List Nat}:∀ {vs qc:List V},OVs σ vs qc->(∀ i∈Ah vs,i∈js)->vs.mapM (Gy σ js)=some qc
 | _,_,.nil,_=>rfl
 | _,_,.cons h hs,hj=>by
  simp only[Ah,Cs]at hj;rw[Jv,h js fun i hi=>hj i (.inl hi),R4 hs fun i hi=>hj i (.inr hi)];rfl
def Aji{σ:St}{js:List Nat}{d:Nat}:∀ {vs qc:List V},OCs σ vs qc->(∀ i∈Ah vs,i∈js)->vs.mapM (Fg σ js (d+2))=some qc
 | _,_,.nil,_=>rfl
 | _,_,.cons h hs,hj=>by
  simp only[Ah,Cs]at hj;rw[Jv,h js (fun i hi=>hj i (.inl hi)) d,Aji hs fun i hi=>hj i (.inr hi)];rfl
def Adr{σ:St}{vs qc:List V}(h:OVs σ vs qc):Dt σ vs=some qc:=R4 h fun i hi=>Mh σ 9 _ i (O9.2 hi)
def Gb{σ:St}{v:V}(h:v.rowB=true):OC σ v v:=fun _ _ _=>Tl h
def Ig{σ:St}{v:V}(h:De v=true):OV σ v v:=fun _ _=>X9 h
def Uj{σ:St}{cs cs':List V}(h:OCs σ cs cs'):OV σ (.agg cs) (.agg cs'):=fun js hj=>by
 simp only[Gy];rw[Aji (d:=7) h hj];rfl
theorem N8{σ:St}{v v':V}(h:OC σ v v')(hc:v.cellB=true):OV σ v v':=fun js hj=>by
 unfold Gy
 split
 .have:=h js hj 0
  grind[Fg]
 .grind[V.cellB]
 .exact h js hj 7
theorem Acp(m:Nat):∀ (xs:List (List V)) (tl:List V),(∀ r∈xs,r.length=m)->Fi m xs.length (xs.flatten++tl)=xs
 | [],_,_=>rfl
 | r::xs,tl,h=>by
  have hr:=h r Cz;simp only[Be,Fi,Gv,Dm];rw[<-hr,Abx,List.drop_left];congr 1;rw[hr];exact Acp m xs tl fun r hr=>h r (Dl _ hr)
theorem Tm{m:Nat}{xs:List (List V)}(h:∀ r∈xs,r.length=m):Fi m xs.length xs.flatten=xs:=by
 have:=Acp m xs [] h
 grind
theorem Gj{m:Nat}:∀ {xs:List (List V)},(∀ r∈xs,r.length=m)->xs.flatten.length=xs.length*m
 | [],_=>by simp
 | r::xs,h=>by
  rw[Gv,Aj,h r Cz,Gj fun r hr=>h r (Dl _ hr),Be,G6,Ahe]
theorem Ps{σ:St}{i g m e z:Nat}{w:Bool}{xs:List (List V)}(ho:σ[i]?=some (.row xs.flatten e g z))(hm:0<m)(hl:∀ r∈xs,r.length=m)(hr:∀ r∈xs,r.all V.rowB=true):OC σ (.sl i g 0 xs.length m w) (.lst 0 xs):=by
 intro js hj d
 have hi:js.elem i=true:=by
  have:=hj i AQ;simpa using this
 have hf:=Gj hl;unfold Fg;rw[if_neg AN];simp only[hi,if_true,ho];rw[if_pos ⟨trivial,hm,by omega⟩,Mc,<-hf,Dh,Uc fun c hc=>?_]
 .grind[Tm]
 grind[Tl]
section
variable {Q:Env->St->Prop} {e:Env} {σ:St} {k:List It} {l:List AI} {kill:List Nat} {f:Nat} {args vs:List V} {v:V} {d:Option Nat}
def Axy(hx:OVs σ args vs)(hf:Fn T pr f vs v)(qj:v.flatV=true)(h:WR T pr l kill k (e.putO d v) σ Q):WX T pr (.call f args) d l kill k e σ Q:=
 Jz (.pure (Adr hx) hf) (by unfold after;rw[if_pos qj];exact h)
variable {qa:List (List Nat)} {n m:Nat} {fs:Fs} {ls:Ls} {K:Env->St->Fs->Ls->Prop} {i:AI}
def Akg(hx:OVs σ args vs)(hf:Fn T pr f vs v)(qj:v.flatV=true)(h:K (e.putO i.dst v) σ [] ((m,fun s=>Dt s args=some vs)::ls)):Hv T pr qa n m i (.call f args) e σ [] ls K:=
 .inr (.inl ⟨v,vs,Adr hx,.inr hf,qj,trivial,h⟩)
end
/-! code that ends where it ends: the rest is apart -/
def AC.flat:AC->Bool
 | .skip | .reg _ _ | .drw _ _ _=>true
 | .seq a b=>a.flat&&b.flat
 | .cond _ _ x y=>x.flat&&y.flat
 | _=>false
def Hd(P:Env->St->Prop)(e:Env)(σ:St):Prop:=P e σ
@[congr] theorem Bpg {P:Env->St->Prop} {e e':Env} {σ:St} (h:e=e'):Hd P e σ=Hd P e' σ:=by rw[h]
/-! lists that grow: nil, or a slice of an object of their own that they fill -/
def GV(σ:St)(m e lo:Nat)(u:V)(xs:List (List V)):Prop:=(u=.nils/\xs=[])\/∃ i g,u=.sl i g 0 xs.length m true/\σ[i]?=some (.row xs.flatten e g 0)/\lo<=i
def Bfb{σ:St}{m e lo:Nat}:GV σ m e lo .nils []:=.inl ⟨rfl,rfl⟩
theorem Atu{σ:St}{m e lo:Nat}{u:V}{xs:List (List V)}(h:GV σ m e lo u xs):u.cellB=true:=by
 rcases h with⟨rfl,rfl⟩ | ⟨i,g,rfl,ho,qb⟩<;>rfl
def Bfc{σ:St}{m e lo:Nat}{u:V}{xs:List (List V)}(h:GV σ m e lo u xs):Ly u=some (.int .i64 (xs.length:Int)):=by
 rcases h with⟨rfl,rfl⟩ | ⟨i,g,rfl,ho,qb⟩<;>rfl
def Akh{σ:St}{m e lo bytes:Nat}{u y:V}{xs ys:List (List V)}(h:GV σ m e lo u xs)(qe:lo<=σ.length)(hy:E5 σ m y=some ys)(hm:0<m)(hl:∀ r∈xs,r.length=m)(qh:∀ r∈ys,r.length=m)(hb:(xs.length+ys.length)*bytes<=140737488355328):
  ∃ u' σ',Dx bytes (m,e) u y σ=some (u',σ')/\GV σ' m e lo u' (xs++ys)/\σ.length<=σ'.length/\(∀ j,(∀ i g,u=.sl i g 0 xs.length m true->j≠i)->j<σ.length->σ'[j]?=σ[j]?)/\∀ j,j<lo->σ'[j]?=σ[j]?:=by
 have qf:(ys.all fun r=>r.length==m)=true:=by
  rw[Cc];intro r hr;simp[qh r hr]
 unfold Dx;simp only[hy,C5];unfold Jm;rw[if_pos ⟨qf,hm⟩];rcases h with⟨rfl,rfl⟩ | ⟨i,g,rfl,ho,qb⟩
 .simp only;rw[if_pos (by grind)]
  cases ys with
  | nil=>exact⟨.nils,σ,rfl,.inl ⟨rfl,rfl⟩,Am _,fun _ _ _=>rfl,fun _ _=>rfl⟩
  | cons y ys=>exact⟨_,_,rfl,.inr ⟨σ.length,0,rfl,by simp,qe⟩,by simp,fun j _ hj=>Ex hj,fun j hj=>Ex AA⟩
 .simp only;rw[if_pos ⟨hb,trivial⟩];simp only[ho,if_true]
  cases ys with
  | nil=>exact⟨_,σ,rfl,.inr ⟨i,g,by simp,by grind,qb⟩,Am _,fun _ _ _=>rfl,fun _ _=>rfl⟩
  | cons y ys=>
   have hf:=Gj hl;have qo:=Gj qh;have qp:(y::ys).flatten.length=(ys.length+1)*m:=by rw[qo];rfl
   rw[if_neg AE,if_pos AE,if_neg (by
    grind),if_pos hf]
   refine⟨_,_,rfl,.inr ⟨i,g+1,by grind,?_,qb⟩,by simp,fun j hj _=>?_,fun j hj=>by grind⟩
   .grind
   grind
def Ok{v:V}(h:v.cellB=true):v.cells=[v]:=by cases v<;>simp[V.cellB]at h<;>rfl
def Bt{s l:St}{j:Nat}{x:Ob}(h:s[j]?=some x):(s++l)[j]?=some x:=by
 grind
def Bad{σ l:St}{m e lo:Nat}{u:V}{xs:List (List V)}(h:GV σ m e lo u xs):GV (σ++l) m e lo u xs:=by
 rcases h with h | ⟨i,g,h,ho,qb⟩
 .exact .inl h
 .exact .inr ⟨i,g,h,Bt ho,qb⟩
def Hk{xs:List (List V)}(hr:∀ r∈xs,r.all V.rowB=true):xs.flatten.all V.rowB=true:=by
 grind
def M6(i:Nat):∀ cs:List V,cs.all V.rowB=true->Fw (ren 0 [i]) cs=cs
 | [],_=>rfl
 | c::cs,h=>by
  simp only[B5,Al]at h;simp only[Fw];rw[M6 i cs h.2];congr 1
  cases c<;>simp[V.rowB]at h<;>rfl
def Aki(ρ:Nat->Nat):∀ a b:List V,Fw ρ (a++b)=Fw ρ a++Fw ρ b
 | [],_=>rfl
 | c::a,b=>by simp only[Mw,Fw,Aki ρ a b]
theorem K2:∀ a b:List V,Ah (a++b)=Ah a++Ah b
 | [],_=>rfl
 | c::a,b=>by simp only[Mw,Ah,K2 a b,Dm]
def Uk{cs:List V}(h:cs.all V.rowB=true):cs.all V.cellB=true:=by
 rw[Cc]at h ⊢;intro c hc;have:=h c hc
 cases c<;>simp[V.rowB]at this<;>rfl
def Atv{σ:St}{a a' b b':List V}(h1:OCs σ a a')(h2:OCs σ b b'):OCs σ (a++b) (a'++b'):=by
 induction h1 with
 | nil=>exact h2
 | cons h _ ih=>exact .cons h ih
def Ze{σ:St}:∀ {cs:List V},cs.all V.rowB=true->OCs σ cs cs
 | [],_=>.nil
 | c::cs,h=>by
  simp only[B5,Al]at h;exact .cons (Gb h.1) (Ze h.2)
def Afj{σ:St}{m e i g:Nat}{xs:List (List V)}(ho:σ[i]?=some (.row xs.flatten e g 0))(hm:0<m)(hl:∀ r∈xs,r.length=m)(hr:∀ r∈xs,r.all V.rowB=true):FR (.sl i g 0 xs.length m true) σ (.lst 0 xs):=by
 obtain⟨hi,qr⟩:=An.1 ho;have hx:Ah xs.flatten=[]:=F0 (Hk hr);have h0:ren 0 [i] i=0:=by simp[ren,X1]
 refine .inr ⟨[i],?_,?_⟩
 .grind[Hj,Cd,Ga,V.cellB,V.refs,Ej,Ob.refs]
 .simp only[Nv,ho,Rg,Bh,B0,Ob.ren,M6 i _ (Hk hr),V.ren,h0];simp only[Eg,Iw,Gy];exact Ps (σ:=[.row xs.flatten e g 0]) (i:=0) (g:=g) (e:=e) (z:=0) (w:=true) rfl hm hl hr (Fy [.row xs.flatten e g 0] 9 (V.refs (.sl 0 g 0 xs.length m true)).eraseDups) (fun j hj=>Mh _ _ _ _ (O9.2 hj)) 7
def A2t{σ:St}{m e i g:Nat}{xs:List (List V)}{pre post:List V}(ho:σ[i]?=some (.row xs.flatten e g 0))(hm:0<m)(hl:∀ r∈xs,r.length=m)(hr:∀ r∈xs,r.all V.rowB=true)(h1:pre.all V.rowB=true)(h2:post.all V.rowB=true):FR (.agg (pre++.sl i g 0 xs.length m true::post)) σ (.agg (pre++.lst 0 xs::post)):=by
 obtain⟨hi,qr⟩:=An.1 ho;have hx:Ah xs.flatten=[]:=F0 (Hk hr)
 have qg:Ah (pre++V.sl i g 0 xs.length m true::post)=[i]:=by
  rw[K2,F0 h1];simp only[Ah,F0 h2,V.refs,Ct,Bz]
 have h0:ren 0 [i] i=0:=by simp[ren,X1]
 refine .inr ⟨[i],?_,?_⟩
 .simp only[Hj,Cd,Ga,V.refs,qg,Ag4,B5,Uk h1,Uk h2,V.cellB]
  simp_all [Ej,Ob.refs]
 .simp only[Nv,ho,Rg,Bh,B0,Ob.ren,M6 i _ (Hk hr),V.ren,Aki,M6 i _ h1,Fw,M6 i _ h2,h0];exact Uj (σ:=[.row xs.flatten e g 0]) (Atv (Ze h1) (.cons (Ps (σ:=[.row xs.flatten e g 0]) (i:=0) (g:=g) (e:=e) (z:=0) (w:=true) rfl hm hl hr) (Ze h2))) _ fun j hj=>Mh _ _ _ _ (O9.2 hj)
def GW(σ:St)(m e lo:Nat)(u:V)(xs:List (List V)):Prop:=(u=.nils/\xs=[])\/(xs≠[]/\∃ i g,u=.sl i g 0 xs.length m true/\σ[i]?=some (.row xs.flatten e g 0)/\lo<=i)
theorem Dr{σ:St}{m e lo:Nat}:GW σ m e lo .nils []:=.inl ⟨rfl,rfl⟩
def All{σ:St}{m e lo:Nat}{u:V}{xs:List (List V)}(h:GW σ m e lo u xs):GV σ m e lo u xs:=h.imp id fun h=>h.2
theorem B8{σ:St}{m e lo:Nat}{u:V}{xs:List (List V)}(h:GW σ m e lo u xs):u.cellB=true:=Atu (All h)
theorem Iz{σ:St}{m e lo bytes:Nat}{u y:V}{xs ys:List (List V)}(h:GW σ m e lo u xs)(qe:lo<=σ.length)(hy:E5 σ m y=some ys)(hm:0<m)(hl:∀ r∈xs,r.length=m)(qh:∀ r∈ys,r.length=m)(hb:(xs.length+ys.length)*bytes<=140737488355328):
  ∃ u' σ',Dx bytes (m,e) u y σ=some (u',σ')/\GW σ' m e lo u' (xs++ys)/\σ.length<=σ'.length/\(∀ j,(∀ i g,u=.sl i g 0 xs.length m true->j≠i)->j<σ.length->σ'[j]?=σ[j]?)/\∀ j,j<lo->σ'[j]?=σ[j]?:=by
 obtain⟨u',σ',h1,h2,h3,h4,h5⟩:=Akh (All h) qe hy hm hl qh hb;refine⟨u',σ',h1,?_,h3,h4,h5⟩;by_cases he:xs++ys=[]
 .rw[List.append_eq_nil_iff]at he;obtain⟨rfl,rfl⟩:=he;rcases h with⟨rfl,_⟩ | ⟨hn,_⟩
  .grind[Dx,Jm,Dr]
  grind
 .exact h2.imp id fun h=>⟨he,h⟩
theorem Ix{σ l:St}{m e lo:Nat}{u:V}{xs:List (List V)}(h:GW σ m e lo u xs):GW (σ++l) m e lo u xs:=by
 rcases h with h | ⟨hn,i,g,h,ho,qb⟩
 .exact .inl h
 .exact .inr ⟨hn,i,g,h,Bt ho,qb⟩
theorem Dw{σ:St}{j:Nat}{x:Ob}{m e lo:Nat}{u:V}{xs:List (List V)}(h:GW σ m e lo u xs)(hj:j<lo):GW (σ.set j x) m e lo u xs:=by
 rcases h with h | ⟨hn,i,g,h,ho,qb⟩
 .exact .inl h
 .exact .inr ⟨hn,i,g,h,by grind,qb⟩
theorem Sm{t:Nat}{xs:List (List V)}(h:xs≠[]):SL true t xs=.lst t xs:=by grind[SL]
def J3{σ:St}{m e lo:Nat}{u:V}{xs:List (List V)}(h:GW σ m e lo u xs)(hm:0<m)(hl:∀ r∈xs,r.length=m)(hr:∀ r∈xs,r.all V.rowB=true):OC σ u (SL true 0 xs):=by
 rcases h with⟨rfl,rfl⟩ | ⟨hn,i,g,rfl,ho,qb⟩
 .exact Gb rfl
 grind[Sm,Ps]
def Sn{σ:St}{m e lo:Nat}{u:V}{xs:List (List V)}(h:GW σ m e lo u xs)(hm:0<m)(hl:∀ r∈xs,r.length=m)(hr:∀ r∈xs,r.all V.rowB=true):FR u σ (SL true 0 xs):=by
 rcases h with⟨rfl,rfl⟩ | ⟨hn,i,g,rfl,ho,qb⟩
 .exact Gs rfl
 .rw[Sm hn];exact Afj ho hm hl hr
def Bfd{σ:St}{m e lo:Nat}{u:V}{xs:List (List V)}{pre post:List V}(h:GW σ m e lo u xs)(hm:0<m)(hl:∀ r∈xs,r.length=m)(hr:∀ r∈xs,r.all V.rowB=true)(h1:pre.all V.rowB=true)(h2:post.all V.rowB=true):FR (.agg (pre++u::post)) σ (.agg (pre++SL true 0 xs::post)):=by
 rcases h with⟨rfl,rfl⟩ | ⟨hn,i,g,rfl,ho,qb⟩
 .exact Gs (by simp only[De,Ag4,B5,h1,h2];rfl)
 .rw[Sm hn];exact A2t ho hm hl hr h1 h2
/-! what a call leaves of the state, where an argument names a list's object -/
theorem Aoi(σ:St)(i j:Nat)(h:j≠i):(σ.freeze [i])[j]?=σ[j]?:=by
 grind[St.freeze]
theorem A0c(σ:St)(i:Nat):(σ.freeze [i]).length=σ.length:=by
 grind[St.freeze]
section
variable {T:Nat->Option AF} {pr:Nat->Option (List V->Option V)} {Q:Env->St->Prop} {e:Env} {σ:St} {k:List It} {l:List AI} {kill:List Nat} {f:Nat} {args vs:List V} {v:V} {d:Option Nat}
def Axz{σ':St}(hx:OVs σ args vs)(hf:Fn T pr f vs v)(ha:after σ args v=σ')(h:WR T pr l kill k (e.putO d v) σ' Q):WX T pr (.call f args) d l kill k e σ Q:=
 Jz (.pure (Adr hx) hf) (by rw[ha];exact h)
end
def Av3{σ:St}{cs:List V}{m n:Nat}(h:cs.all V.rowB=true):Pr m n σ cs=some (.lst 1 (Fi m n cs),σ):=by
 unfold Pr;rw[Uc fun c hc=>Tl (Cc.1 h c hc),F0 h];rfl
attribute [go_sem] Av3
def Ye(z:Bool)(t m:Nat)(xs:List (List V))(k:IntKind)(b:Nat)(hb:b<=xs.length):∃ z' t',Io m (SL z t xs) none (some (.int k (b:Int))) none=some (SL z' t' (xs.take b)):=by
 unfold SL
 split
 .rename_i h;obtain⟨rfl,rfl⟩:=h
  simp_all [Io,Ed]
 simp_all [Io,Ed]
def Cl(s:St):Prop:=∀ ob∈s,∀ i∈ob.refs,i<s.length
theorem Mk{s:St}{ob:Ob}(h:Cl s)(ho:∀ i∈ob.refs,i<s.length+1):Cl (s++[ob]):=by
 intro o hm i hi;rw[Aj];rcases Cs.1 hm with hm | hm
 .have:=h o hm i hi;omega
 grind
theorem F4{s:St}{j:Nat}{ob:Ob}(h:Cl s)(ho:∀ i∈ob.refs,i<s.length):Cl (s.set j ob):=by
 intro o hm i hi;rw[Ny];rcases List.mem_or_eq_of_mem_set hm with hm | hm
 .exact h o hm i hi
 grind
mutual
theorem Yr(ρ:Nat->Nat):∀ v:V,(∀ i∈v.refs,ρ i=i)->v.ren ρ=v
 | .ptr i g o,h=>by grind[V.ren,V.refs]
 | .sl i g o l m w,h=>by grind[V.ren,V.refs]
 | .mp i,h=>by grind[V.ren,V.refs]
 | .fn f a c,h=>by
  simp only[V.ren];rw[Tr ρ a fun i hi=>h i (by grind[V.refs]),Tr ρ c fun i hi=>h i (by grind[V.refs])]
 | .agg cs,h=>by simp only[V.ren];rw[Tr ρ cs fun i hi=>h i (by grind[V.refs])]
 | .tup cs,h=>by simp only[V.ren];rw[Tr ρ cs fun i hi=>h i (by grind[V.refs])]
 | .und,_=>rfl
 | .skp,_=>rfl
 | .bool _,_=>rfl
 | .int _ _,_=>rfl
 | .str _,_=>rfl
 | .nili,_=>rfl
 | .ifc,_=>rfl
 | .nils,_=>rfl
 | .nilp,_=>rfl
 | .nilf,_=>rfl
 | .lst _ _,_=>rfl
 | .imm _ _,_=>rfl
theorem Tr(ρ:Nat->Nat):∀ vs:List V,(∀ i∈Ah vs,ρ i=i)->Fw ρ vs=vs
 | [],_=>rfl
 | v::r,h=>by
  simp only[Fw];rw[Yr ρ v fun i hi=>h i (by grind[Ah]),Tr ρ r fun i hi=>h i (by grind[Ah])]
end
def Anz(ρ:Nat->Nat)(ob:Ob)(h:∀ i∈ob.refs,ρ i=i):ob.ren ρ=ob:=by
 cases ob with
 | row cs e g z=>simp only[Ob.ren];rw[Tr ρ cs h]
 | map kvs=>
  simp only[Ob.ren];congr 1
  have:∀ l:List (List UInt8 × V),(∀ i∈Ah (l.map (·.2)),ρ i=i)->l.map (fun p=>(p.1,p.2.ren ρ))=l:=by
   intro l
   induction l with
   | nil=>grind
   | cons p l ih=>
    simp_all [Ah,Yr]
  exact this kvs h
 | dead=>rfl
theorem Ah2{n k i:Nat}(h:i<n+k):ren n (List.range' n k) i=i:=by
 unfold ren
 split
 .rfl
 .have h1:List.findIdx (·==i) (List.range' n k)=i - n:=by
   rw[List.findIdx_eq (by grind)];simp;constructor
   .omega
   .omega
  omega
def Apn{σ σ':St}{m e lo bytes:Nat}{u u' y:V}{xs ys:List (List V)}(h:GW σ m e lo u xs)(hy:E5 σ m y=some ys)(ha:Dx bytes (m,e) u y σ=some (u',σ'))(hx:Ah xs.flatten=[])(hz:Ah ys.flatten=[])(hc:Cl σ):Cl σ':=by
 unfold Dx at ha;simp only[hy,C5]at ha;unfold Jm at ha
 split at ha
 .rcases h with⟨rfl,rfl⟩ | ⟨hn,i,g,rfl,ho,qb⟩
  .grind[Mk,Ob.refs]
  .simp only at ha
   split at ha
   .simp only[ho,if_true]at ha
    split at ha
    .grind
    .split at ha
     .split at ha
      .cases ha;refine F4 hc fun j hj=>?_
       simp only[Ob.refs,K2,hz,Bz,Cs]at hj
       have qt:∀ (a:List V) (k:Nat),Ah a=[]->Ah (a.take k)=[]/\Ah (a.drop k)=[]:=by
        intro a k h0;have:=K2 (a.take k) (a.drop k);rw[Hy,h0]at this;exact List.append_eq_nil_iff.1 this.symm
       grind
      grind[F4,Ob.refs,K2]
     grind
   grind
 grind
theorem F9{σ:St}{m e lo:Nat}{u:V}{xs:List (List V)}(h:GW σ m e lo u xs):∀ i∈u.refs,i<σ.length:=by
 rcases h with⟨rfl,rfl⟩ | ⟨hn,i,g,rfl,ho,qb⟩
 .grind[V.refs]
 grind[V.refs]
def Ara{σ1:St}{v:V}{n:Nat}(hr:v.refs=[])(ho:Cd v=true)(hn:n<=σ1.length)(hc:Cl σ1):Hj n (List.range' n (σ1.length - n)) v σ1=true/\v=v.ren (ren n (List.range' n (σ1.length - n)))/\σ1=(σ1.take n++(List.range' n (σ1.length - n)).filterMap (σ1[·]?)).map (Ob.ren (ren n (List.range' n (σ1.length - n)))):=by
 refine⟨?_,?_,?_⟩
 .have hw:∀ is:List Nat,(∀ i∈is,i<σ1.length)->Ej n (List.range' n (σ1.length - n)) is=true:=by
   intro is ql;unfold Ej;rw[Cc];intro i hi;have:=ql i hi;simp;omega
  unfold Hj;simp only[Al];refine⟨ho,hw _ (by grind),?_,?_,?_⟩
  .rw[Cc];intro o hm;refine hw _ fun i hi=>?_
   rcases Cs.1 hm with hm | hm
   .exact hc o (Nu hm) i hi
   .obtain⟨j,_,hj⟩:=Xz.1 hm;exact hc o (Hg hj) i hi
  .grind
  grind
 .grind[Yr]
 .have he:σ1.take n++(List.range' n (σ1.length - n)).filterMap (σ1[·]?)=σ1:=by
   have:(List.range' n (σ1.length - n)).filterMap (σ1[·]?)=σ1.drop n:=by
    apply Tf;intro i
    have qk:∀ (k n:Nat),n+k<=σ1.length->(List.range' n k).filterMap (σ1[·]?)=(σ1.drop n).take k:=by
     intro k
     induction k with
     | zero=>grind
     | succ k ih=>
      grind[List.range'_succ,List.drop_eq_getElem_cons]
    rw[qk _ _ AA,Ky AE]
   rw[this,Hy]
  rw[he]
  have:∀ l:List Ob,(∀ o∈l,o∈σ1)->l.map (Ob.ren (ren n (List.range' n (σ1.length - n))))=l:=by
   intro l
   induction l with
   | nil=>grind
   | cons o l ih=>
    intro hm;rw[Bh,ih fun o ho=>hm o (Dl _ ho),Anz _ o fun i hi=>Ah2 (by have:=hc o (hm o Cz) i hi;omega)]
  grind
def Aee{T:Nat->Option AF}{pr:Nat->Option (List V->Option V)}{f p:Nat}{res:List AR}{body:AC}{vs:List V}{v:V}{σ σ':St}(hT:T f=some ⟨p,res,true,body,none⟩)(hl:vs.length=p)
  (h:W T pr [.c body] (C7 0 vs) σ (Hd fun e' σ1=>Ca e' σ1 res=some v/\σ1=σ')) (hr:v.refs=[]) (ho:Cd v=true) (hn:σ.length<=σ'.length) (hc:Cl σ'):Th T pr f vs σ v σ':=by
 obtain⟨e',σ1,hE,qd,rfl⟩:=h;obtain⟨k1,k2,k3⟩:=Ara hr ho hn hc;exact A2m hT rfl rfl hl ⟨e',σ1,hE,v,_,qd,k1,k2,k3⟩
def Bae{T:Nat->Option AF}{pr:Nat->Option (List V->Option V)}{f p:Nat}{res:List AR}{body:AC}{vs:List V}{v:V}{σ σ':St}(hT:T f=some ⟨p,res,true,body,none⟩)(hl:vs.length=p)
  (h:W T pr [.c body] (C7 0 vs) σ (Hd fun e' σ1=>∃ v0 js,Ca e' σ1 res=some v0/\Cd v0=true/\Iw σ1 js v0=some v/\σ'=σ1.freeze js)) (hr:v.refs=[]) (ho:Cd v=true) (hn:σ.length<=σ'.length) (hc:Cl σ'):Th T pr f vs σ v σ':=by
 obtain⟨e',σ1,hE,v0,js,qd,h0,h1,rfl⟩:=h;obtain⟨k1,k2,k3⟩:=Ara hr ho hn hc;exact A2o hT rfl rfl hl ⟨e',σ1,hE,v0,v,js,_,qd,h0,h1,k1,k2,k3⟩
def A09{T:Nat->Option AF}{pr:Nat->Option (List V->Option V)}{σ:St}{f:Nat}{vs:List V}{v:V}{F:AF}{σ':St}(hT:T f=some F)(qm:F.spec=none)(hl:vs.length=F.pars)(h:W T pr [.c F.body] (C7 0 vs) σ fun e' σ1=>∃ v0 js,Ca e' σ1 F.res=some v0/\Hj σ.length js v0 σ1=true/\v=v0.ren (ren σ.length js)/\σ'=(σ1.take σ.length++js.filterMap (σ1[·]?)).map (Ob.ren (ren σ.length js))):Bw T pr f vs σ v σ':=by
 obtain⟨e',σ1,hE,v0,js,hr,qq,rfl,rfl⟩:=h;exact⟨F,hT,qm,.fnL hT qm hl hE hr qq⟩
def Zf{T:Nat->Option AF}{pr:Nat->Option (List V->Option V)}{f p:Nat}{res:List AR}{thr:Bool}{body:AC}{vs:List V}{v:V}{σ σ':St}(hT:T f=some ⟨p,res,thr,body,none⟩)(hl:vs.length=p)
  (h:W T pr [.c body] (C7 0 vs) σ (Hd fun e' σ1=>Ca e' σ1 res=some v/\σ1=σ')) (hr:∀ i∈v.refs,i<σ'.length) (ho:Cd v=true) (hn:σ.length<=σ'.length) (hc:Cl σ'):Bw T pr f vs σ v σ':=by
 obtain⟨e',σ1,hE,qd,rfl⟩:=h;refine A09 hT rfl hl ⟨e',σ1,hE,v,List.range' σ.length (σ1.length - σ.length),qd,?_,?_,?_⟩
 .have hw:∀ is:List Nat,(∀ i∈is,i<σ1.length)->Ej σ.length (List.range' σ.length (σ1.length - σ.length)) is=true:=by
   intro is ql;unfold Ej;rw[Cc];intro i hi;have:=ql i hi;simp;omega
  unfold Hj;simp only[Al];refine⟨ho,hw _ hr,?_,?_,?_⟩
  .rw[Cc];intro o hm;refine hw _ fun i hi=>?_
   rcases Cs.1 hm with hm | hm
   .exact hc o (Nu hm) i hi
   .obtain⟨j,_,hj⟩:=Xz.1 hm;exact hc o (Hg hj) i hi
  .grind
  grind
 .grind[Yr,Ah2]
 .have he:σ1.take σ.length++(List.range' σ.length (σ1.length - σ.length)).filterMap (σ1[·]?)=σ1:=by
   have:(List.range' σ.length (σ1.length - σ.length)).filterMap (σ1[·]?)=σ1.drop σ.length:=by
    apply Tf;intro i
    have qk:∀ (k n:Nat),n+k<=σ1.length->(List.range' n k).filterMap (σ1[·]?)=(σ1.drop n).take k:=by
     intro k
     induction k with
     | zero=>grind
     | succ k ih=>
      grind[List.range'_succ,List.drop_eq_getElem_cons]
    rw[qk _ _ AA,Ky AE]
   rw[this,Hy]
  rw[he]
  have:∀ l:List Ob,(∀ o∈l,o∈σ1)->l.map (Ob.ren (ren σ.length (List.range' σ.length (σ1.length - σ.length))))=l:=by
   intro l
   induction l with
   | nil=>grind
   | cons o l ih=>
    intro hm;rw[Bh,ih fun o ho=>hm o (Dl _ ho),Anz _ o fun i hi=>Ah2 (by have:=hc o (hm o Cz) i hi;omega)]
  grind
def LZ{α:Type}:(∀ a b c:List α,a++b++c=a++(b++c))/\(∀ (a:α) (b c:List α),a::b++c=a::(b++c))/\(∀ a:List α,[]++a=a)/\(∀ a b:List α,(a++b).length=a.length+b.length)/\(∀ (a:α) (b:List α),(a::b).length=b.length+1)/\([]:List α).length=0/\∀ n:Nat,0+n=n:=⟨Dm,fun _ _ _=>rfl,fun _=>rfl,fun _ _=>Aj,fun _ _=>rfl,rfl,Gw⟩
