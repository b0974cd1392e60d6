/- THE PLAIN MACHINE, joined texts: Qa Qb Qc Qd Qe Qf Qg. -/
import Derived.Test.YtphikjgngompaabGreatDoorA4
set_option linter.all false
/- Walking by rewriting: what comes of code, as equations. -/
namespace Go.Proofs.YtphikjgngompaabGreatDoor.KM
open Go
variable {T:Nat->Option AF} {pr:Nat->Option (List V->Option V)}
def Bs{α:Sort _}{a b:α}(h:a=b):a=b:=h
/-! slots -/
def get_put:∀ (e:Env) (n m:Nat) (v:V),(Env.put e n v).get m=if n=m then v else Env.get e m
 | [],n,m,v=>by grind[Env.put,Env.get]
 | (i,u)::r,n,m,v=>by
  simp only[Env.put]
  split
  .grind[Env.get]
  .rename_i h;simp only[Env.get,get_put r n m v]
   grind
def A5d(e:Env)(n:Nat)(v:V):e.putO (some n) v=e.put n v:=Bs rfl
def A5e(e:Env)(v:V):e.putO none v=e:=Bs rfl
def Bmq(e:Env)(n:Nat):Ac e (.t n)=e.get n:=rfl
def Bmr(e:Env)(v:V):Ac e (.k v)=v:=rfl
def A8i(e:Env)(n m:Nat)(v:V):Env.get ((n,v)::e) m=if n=m then v else Env.get e m:=Bs rfl
/-! what an operation gives -/
inductive Rs where
 | val (v:V) (σ:St)
 | call (f:Nat) (args:List V)
 | fail
def r1(o:Option V)(σ:St):Rs:=
 match o with
 | some v=>.val v σ
 | none=>.fail
def r2(o:Option (V × St)):Rs:=
 match o with
 | some (v,σ)=>.val v σ
 | none=>.fail
def Bc1(v:V)(σ:St):r1 (some v) σ=.val v σ:=Bs rfl
def Bc2(σ:St):r1 none σ=.fail:=Bs rfl
def Bc3(v:V)(σ:St):r2 (some (v,σ))=.val v σ:=Bs rfl
def Bc4:r2 none=.fail:=Bs rfl
theorem Te(o:Option V)(σ:St):r2 (o.map fun v=>(v,σ))=r1 o σ:=by cases o<;>rfl
def Bn(op:AO)(e:Env)(σ:St):Rs:=
 match Ck e op with
 | some (f,args)=>.call f args
 | none=>r2 (Ad op e σ)
def Ane(c a b:V):Option V:=
 match c with
 | .bool z=>some (if z=true then a else b)
 | _=>none
def A08(t:Nat)(x:V)(σ:St):Option (V × St):=if x.cells.all V.cellB=true then some (.ptr σ.length 0 0,σ++[.row x.cells t 0 0]) else none
def mkV(t bytes:Nat)(z:List V)(x y:V)(σ:St):Option (V × St):=
 match x,y with
 | .int .i64 n,.int .i64 c=>if 0<=n/\n<=c/\c.toNat*bytes<=140737488355328 then some (.sl σ.length 0 0 n.toNat z.length true,σ++[.row (List.replicate n.toNat z).flatten t 0 0]) else none
 | _,_=>none
def Qp(m n:Nat)(σ:St)(cs:List V):Option (V × St):=(cs.mapM (Fe σ (Fr σ 9 (Ag cs).eraseDups) 9)).map fun cs'=>(.lst 1 (Fg m n cs'),σ.freeze (Fr σ 9 (Ag cs).eraseDups))
def Ahl(n:Nat)(x v:V)(σ:St):Option (V × St):=(Rm σ n x v).map fun σ'=>(.und,σ')
def Aoi(x:V):Option V:=
 match x with
 | .imm r o=>some (.imm r o)
 | .ptr b g o=>some (.ptr b g o)
 | _=>none
def Aoj(k:EqK)(qi:Bool)(x y:V):Option V:=(Om k x y).map fun z=>.bool (z != qi)
def Aok(k:IntKind)(x:V):Option V:=
 match x with
 | .int _ n=>some (.int k (k.wrap n))
 | _=>none
def Anf(len m:Nat)(x:V)(lo hi:Option V):Option V:=
 match x with
 | .ptr i g off=>(Dy lo 0).bind fun a=>(Dy hi len).bind fun b=>if a<=b/\b<=len then some (.sl i g (off+a*m) (b - a) m false) else none
 | _=>none
def Ahm(off:Nat)(x:V):Option V:=
 match x with
 | .imm r o=>some (.imm r (o+off))
 | .ptr b g o=>some (.ptr b g (o+off))
 | _=>none
def Aol(off n:Nat)(one:Bool)(x:V):Option V:=
 match x with
 | .agg cs=>if off+n<=cs.length then Hp one ((cs.drop off).take n) else none
 | _=>none
def Mr(m:Nat)(x i:V):Option V:=
 match x with
 | .lst _ xs=>(J6 xs i).bind fun r=>if r.length=m then some (.imm r 0) else none
 | .sl j g off len m' _=>match i with
  | .int _ n=>if 0<=n/\n<len/\m=m' then some (.ptr j g (off+n.toNat*m)) else none
  | _=>none
 | _=>none
def Aom(len m:Nat)(x i:V):Option V:=
 match i with
 | .int _ n=>if 0<=n/\n<len then(match x with
  | .imm r o=>some (.imm r (o+n.toNat*m))
  | .ptr b g o=>some (.ptr b g (o+n.toNat*m))
  | _=>none) else none
 | _=>none
def Aon(x i:V):Option V:=
 match x with
 | .str l=>(J6 l i).map fun c=>.int .u8 (c.toNat:Int)
 | _=>none
def Aoo(len m:Nat)(one:Bool)(x i:V):Option V:=
 match i with
 | .int _ n=>if 0<=n/\n<len then(match x with
  | .agg cs=>if n.toNat*m+m<=cs.length then Hp one ((cs.drop (n.toNat*m)).take m) else none
  | _=>none) else none
 | _=>none
def Aop(i:Nat)(x:V):Option V:=
 match x with
 | .tup vs=>vs[i]?
 | _=>none
def Ang(x:V):Option V:=
 match x with
 | .str l=>some (.int .i64 (l.length:Int))
 | _=>none
def Nh(x:V):Option V:=
 match x with
 | .nils=>some (.int .i64 0)
 | .lst _ xs=>some (.int .i64 (xs.length:Int))
 | .sl _ _ _ len _ _=>some (.int .i64 (len:Int))
 | _=>none
def Dt(bytes:Nat)(m:Nat × Nat)(x y:V)(σ:St):Option (V × St):=(Eu σ m.1 y).bind fun ys=>Jz bytes m σ x ys
def Az7(ty:Nat)(x y:V)(σ:St):Option (V × St):=
 match y with
 | .str l=>Jz 1 (1,ty) σ x (B6 l)
 | _=>none
def mxV(x y:V):Option V:=
 match x,y with
 | .int k a,.int k' b=>if k=k' then some (.int k (max a b)) else none
 | _,_=>none
def mnV(x y:V):Option V:=
 match x,y with
 | .int k a,.int k' b=>if k=k' then some (.int k (min a b)) else none
 | _,_=>none
def Aoq(z x k:V)(σ:St):Option V:=
 match x,k with
 | .mp i,.str s=>match σ[i]? with
  | some (.map kvs)=>some (match H2 s kvs 0 with
   | some (_,v)=>v
   | none=>z)
  | _=>none
 | _,_=>none
def A09(x k v:V)(σ:St):Option (V × St):=
 match x,k with
 | .mp i,.str s=>match σ[i]? with
  | some (.map kvs)=>if v.flatB=true then some (.und,σ.set i (.map (match H2 s kvs 0 with
   | some (j,_)=>kvs.set j (s,v)
   | none=>kvs++[(s,v)]))) else none
  | _=>none
 | _,_=>none
section
variable {e:Env} {σ:St}
def Bms(x:S):Bn (.mov x) e σ=.val (Ac e x) σ:=Bs rfl
def Bh2(c a b:S):Bn (.pick c a b) e σ=r1 (Ane (Ac e c) (Ac e a) (Ac e b)) σ:=by
 simp only[Bn,Ck,Ad,Ane];cases Ac e c<;>rfl
def Bmt(t:Nat)(z:List V):Bn (.new t z) e σ=.val (.ptr σ.length 0 0) (σ++[.row z t 0 0]):=Bs rfl
def Bmu(t:Nat)(x:S):Bn (.box t x) e σ=r2 (A08 t (Ac e x) σ):=Bs rfl
def Bc5(z:List V)(ps:List (Nat × Nat × S)):Bn (.build z ps) e σ=r1 ((I3 z (ps.map fun p=>(p.1,p.2.1,Ac e p.2.2))).map fun cs=>.agg cs) σ:=by
 simp only[Bn,Ck,Ad];cases I3 z (ps.map fun p=>(p.1,p.2.1,Ac e p.2.2))<;>rfl
def Bh3(n:Nat)(z:List V)(ps:List (Nat × S)):Bn (.rows n z ps) e σ=r1 ((I3 (List.replicate n z).flatten (ps.map fun p=>(p.1*z.length,z.length,Ac e p.2))).bind fun cs=>if cs.all V.rowB=true then some (.lst 1 (Fg z.length n cs)) else none) σ:=by
 simp only[Bn,Ck,Ad]
 cases I3 (List.replicate n z).flatten (ps.map fun p=>(p.1*z.length,z.length,Ac e p.2)) with
 | none=>rfl
 | some cs=>simp only[C5];split<;>rfl
def Bh4(n:Nat)(z:List V)(ps:List (Nat × S)):Bn (.rowf n z ps) e σ=r2 ((I3 (List.replicate n z).flatten (ps.map fun p=>(p.1*z.length,z.length,Ac e p.2))).bind fun cs=>Qp z.length n σ cs):=Bs rfl
def Bh5(t n:Nat)(z:List V)(ps:List (Nat × S)):Bn (.rowo t n z ps) e σ=r2 ((I3 (List.replicate n z).flatten (ps.map fun p=>(p.1*z.length,z.length,Ac e p.2))).map fun cs=>(.sl σ.length 0 0 n z.length true,σ++[.row cs t 0 0])):=Bs rfl
def Bq3(t bytes:Nat)(z:List V)(x y:S):Bn (.mk t bytes z x y) e σ=r2 (mkV t bytes z (Ac e x) (Ac e y) σ):=Bs rfl
def Bh6(n:Nat)(one:Bool)(x:S):Bn (.load n one x) e σ=r1 (I4 σ n one (Ac e x)) σ:=Te _ _
def Bc6(n:Nat)(x v:S):Bn (.store n x v) e σ=r2 (Ahl n (Ac e x) (Ac e v) σ):=Bs rfl
def Bmv(x:S):Bn (.chk x) e σ=r1 (Aoi (Ac e x)) σ:=by
 simp only[Bn,Ck,Ad,Aoi];cases Ac e x<;>rfl
def Bmw(o:BinOp)(x y:S):Bn (.bin o x y) e σ=r1 (Ab9 o (Ac e x) (Ac e y)) σ:=Te _ _
def Bq4(k:EqK)(qi:Bool)(x y:S):Bn (.eq k qi x y) e σ=r1 (Aoj k qi (Ac e x) (Ac e y)) σ:=by
 simp only[Bn,Ck,Ad,Aoj];cases Om k (Ac e x) (Ac e y)<;>rfl
def Bq5(o:UnOp)(x:S):Bn (.un o x) e σ=r1 (unV o (Ac e x)) σ:=Te _ _
def Bmx(k:IntKind)(x:S):Bn (.cvi k x) e σ=r1 (Aok k (Ac e x)) σ:=by
 simp only[Bn,Ck,Ad,Aok];cases Ac e x<;>rfl
def Bh7(x:S)(lo hi:Option S):Bn (.slcs x lo hi) e σ=r1 (Ul (Ac e x) (lo.map (Ac e)) (hi.map (Ac e))) σ:=Te _ _
def Bmy(m:Nat)(x:S)(lo hi mx:Option S):Bn (.slc m x lo hi mx) e σ=r1 (Ha m (Ac e x) (lo.map (Ac e)) (hi.map (Ac e)) (mx.map (Ac e))) σ:=Te _ _
def Bh8(len m:Nat)(x:S)(lo hi:Option S):Bn (.slca len m x lo hi) e σ=r1 (Anf len m (Ac e x) (lo.map (Ac e)) (hi.map (Ac e))) σ:=by
 simp only[Bn,Ck,Ad,Anf]
 cases Ac e x with
 | ptr i g off=>
  simp only
  cases Dy (lo.map (Ac e)) 0 with
  | none=>rfl
  | some a=>
   simp only[C5]
   cases Dy (hi.map (Ac e)) len with
   | none=>rfl
   | some b=>simp only[C5];split<;>rfl
 | _=>rfl
def Bmz(off:Nat)(x:S):Bn (.fad off x) e σ=r1 (Ahm off (Ac e x)) σ:=by
 simp only[Bn,Ck,Ad,Ahm];cases Ac e x<;>rfl
def Bm0(off n:Nat)(one:Bool)(x:S):Bn (.fld off n one x) e σ=r1 (Aol off n one (Ac e x)) σ:=by
 simp only[Bn,Ck,Ad,Aol]
 cases Ac e x with
 | agg cs=>simp only;split;· grind[Te]
           .rfl
 | _=>rfl
def Bm1(m:Nat)(x i:S):Bn (.iad m x i) e σ=r1 (Mr m (Ac e x) (Ac e i)) σ:=by
 simp only[Bn,Ck,Ad,Mr]
 cases Ac e x with
 | lst t xs=>
  simp only
  cases J6 xs (Ac e i) with
  | none=>rfl
  | some r=>simp only[C5];split<;>rfl
 | sl j g off len m' w=>
  simp only
  cases Ac e i with
  | int k n=>simp only;split<;>rfl
  | _=>rfl
 | _=>rfl
def Bm2(len m:Nat)(x i:S):Bn (.iar len m x i) e σ=r1 (Aom len m (Ac e x) (Ac e i)) σ:=by
 simp only[Bn,Ck,Ad,Aom]
 cases Ac e i with
 | int k n=>simp only;split;· cases Ac e x<;>rfl
            .rfl
 | _=>rfl
def Bm3(x i:S):Bn (.idx x i) e σ=r1 (Aon (Ac e x) (Ac e i)) σ:=by
 simp only[Bn,Ck,Ad,Aon]
 cases Ac e x with
 | str l=>simp only;cases J6 l (Ac e i)<;>rfl
 | _=>rfl
def Bm4(len m:Nat)(one:Bool)(x i:S):Bn (.ida len m one x i) e σ=r1 (Aoo len m one (Ac e x) (Ac e i)) σ:=by
 simp only[Bn,Ck,Ad,Aoo]
 cases Ac e i with
 | int k n=>
  simp only
  split
  .cases Ac e x with
   | agg cs=>simp only;split;· grind[Te]
             .rfl
   | _=>rfl
  .rfl
 | _=>rfl
def Bm5(i:Nat)(x:S):Bn (.ext i x) e σ=r1 (Aop i (Ac e x)) σ:=by
 simp only[Bn,Ck,Ad,Aop]
 cases Ac e x with
 | tup vs=>grind[Te]
 | _=>rfl
def Bh9(x:S):Bn (.lens x) e σ=r1 (Ang (Ac e x)) σ:=by
 simp only[Bn,Ck,Ad,Ang];cases Ac e x<;>rfl
def Bm6(x:S):Bn (.len x) e σ=r1 (Nh (Ac e x)) σ:=by
 simp only[Bn,Ck,Ad,Nh];cases Ac e x<;>rfl
def Bm7(bytes:Nat)(m:Nat × Nat)(x y:S):Bn (.app bytes m x y) e σ=r2 (Dt bytes m (Ac e x) (Ac e y) σ):=Bs rfl
def Bia(ty:Nat)(x y:S):Bn (.apps ty x y) e σ=r2 (Az7 ty (Ac e x) (Ac e y) σ):=Bs rfl
def Bq6(x y:S):Bn (.mx x y) e σ=r1 (mxV (Ac e x) (Ac e y)) σ:=by
 simp only[Bn,Ck,Ad,mxV]
 cases Ac e x with
 | int k a=>
  cases Ac e y with
  | int k' b=>simp only;split<;>rfl
  | _=>rfl
 | _=>rfl
def Bq7(x y:S):Bn (.mn x y) e σ=r1 (mnV (Ac e x) (Ac e y)) σ:=by
 simp only[Bn,Ck,Ad,mnV]
 cases Ac e x with
 | int k a=>
  cases Ac e y with
  | int k' b=>simp only;split<;>rfl
  | _=>rfl
 | _=>rfl
def Bm8:Bn .mmk e σ=.val (.mp σ.length) (σ++[.map []]):=Bs rfl
def Bm9(z:V)(x k:S):Bn (.mlk z x k) e σ=r1 (Aoq z (Ac e x) (Ac e k) σ) σ:=by
 simp only[Bn,Ck,Ad,Aoq]
 cases Ac e x with
 | mp i=>
  cases Ac e k with
  | str s=>
   simp only
   cases σ[i]? with
   | none=>rfl
   | some ob=>cases ob<;>rfl
  | _=>rfl
 | _=>rfl
def Bna(x k v:S):Bn (.mup x k v) e σ=r2 (A09 (Ac e x) (Ac e k) (Ac e v) σ):=Bs rfl
def Bib(f:Nat)(xs:List S):Bn (.call f xs) e σ=.call f (xs.map (Ac e)):=Bs rfl
def Aor(x:V)(ys:List V):Rs:=
 match x with
 | .fn f a c=>.call f (a++ys++c)
 | _=>.fail
def Bc7(x:S)(xs:List S):Bn (.callv x xs) e σ=Aor (Ac e x) (xs.map (Ac e)):=by
 simp only[Bn,Ck,Aor];cases Ac e x<;>rfl
end
variable {T:Nat->Option AF} {pr:Nat->Option (List V->Option V)}
def o(d:Nat)(op:AO):AI:=⟨some d,op,none⟩
def on(op:AO):AI:=⟨none,op,none⟩
def og(d:Nat)(op:AO)(t:Nat)(w:Bool):AI:=⟨some d,op,some (t,w)⟩
def oh(op:AO)(t:Nat)(w:Bool):AI:=⟨none,op,some (t,w)⟩
inductive CallS (T:Nat->Option AF) (pr:Nat->Option (List V->Option V)) (f:Nat) (args:List V) (σ:St):V->St->Prop
 | prim {s:List V->Option V} {vs:List V} {v:V}:pr f=some s->Dm σ args=some vs->s vs=some v->CallS T pr f args σ v (after σ args v)
 | pure {vs:List V} {v:V}:Dm σ args=some vs->Fn T pr f vs v->CallS T pr f args σ v (after σ args v)
 | own {σ0:St} {vs:List V} {v:V}:Dm σ args=some vs->FnO T pr f vs v σ0->CallS T pr f args σ (v.ren (·+σ.length)) (own σ args σ0)
 | any {v:V} {σ1:St}:Bw T pr f args σ v σ1->CallS T pr f args σ v σ1
 | thr {v:V} {σ1:St}:Th T pr f args σ v σ1->CallS T pr f args σ v σ1
 | spec {F:AF} {s:List V->St->Option (V × St)} {v:V} {σ1:St}:T f=some F->F.thr=true->F.spec=some s->s args σ=some (v,σ1)->CallS T pr f args σ v σ1
def CallS.sg{i:AI}{f:Nat}{args:List V}{e:Env}{σ σ1:St}{v:V}(h:CallS T pr f args σ v σ1)(hw:Cw e i=some true)(hc:Ck e i.op=some (f,args)):Sg T pr i e σ v σ1:=by
 cases h with
 | prim h1 h2 h3=>exact .prim hw hc h1 h2 h3
 | pure h1 h2=>exact .pure hw hc h1 h2
 | own hx h=>obtain⟨F,h1,h2,h3,h4⟩:=h;exact .own hw hc h1 h2 h3 hx h4
 | any h=>obtain⟨F,h1,h3,h4⟩:=h;exact .any hw hc h1 h3 h4
 | thr h=>obtain⟨F,h1,h2,h3,h4⟩:=h;exact .thr hw hc h1 h2 h3 h4
 | spec h1 h2 h3 h4=>exact .spec hw hc h1 h2 h3 h4
def WE(T:Nat->Option AF)(pr:Nat->Option (List V->Option V))(e:Env)(k:List It)(σ:St)(Q:Env->St->Prop):Prop:=W T pr k e σ Q
def WR(T:Nat->Option AF)(pr:Nat->Option (List V->Option V))(l:List AI)(kill:List Nat)(k:List It)(e:Env)(σ:St)(Q:Env->St->Prop):Prop:=WO T pr l e σ fun e1 σ1=>W T pr k (e1.del kill) σ1 Q
def WX(T:Nat->Option AF)(pr:Nat->Option (List V->Option V))(r:Rs)(d:Option Nat)(l:List AI)(kill:List Nat)(k:List It)(e:Env)(σ:St)(Q:Env->St->Prop):Prop:=
 match r with
 | .val v σ1=>WR T pr l kill k (e.putO d v) σ1 Q
 | .call f args=>∃ v σ1,CallS T pr f args σ v σ1/\WR T pr l kill k (e.putO d v) σ1 Q
 | .fail=>False
def WD(T:Nat->Option AF)(pr:Nat->Option (List V->Option V))(g:V)(w:Bool)(d:Option Nat)(op:AO)(l:List AI)(kill:List Nat)(k:List It)(e:Env)(σ:St)(Q:Env->St->Prop):Prop:=
 match g with
 | .bool b=>if b=w then WX T pr (Bn op e σ) d l kill k e σ Q else WR T pr l kill k (e.putO d .skp) σ Q
 | .skp=>WR T pr l kill k (e.putO d .skp) σ Q
 | _=>False
def WC(T:Nat->Option AF)(pr:Nat->Option (List V->Option V))(g:V)(kill:List Nat)(x y:AC)(k:List It)(e:Env)(σ:St)(Q:Env->St->Prop):Prop:=
 match g with
 | .bool true=>WE T pr (e.del kill) (.c x::k) σ Q
 | .bool false=>WE T pr (e.del kill) (.c y::k) σ Q
 | _=>False
def WJ(T:Nat->Option AF)(pr:Nat->Option (List V->Option V))(id:Nat):List It->Env->St->(Env->St->Prop)->Prop
 | [],_,_,_=>False
 | .b i::k,e,σ,Q=>if i=id then W T pr k e σ Q else WJ T pr id k e σ Q
 | .c _::k,e,σ,Q=>WJ T pr id k e σ Q
 | .l _ _::k,e,σ,Q=>WJ T pr id k e σ Q
def get_keep(e:Env)(n:Nat):∀ ks:List Nat,ks.elem n=true->(e.keep ks).get n=e.get n
 | [],h=>by cases h
 | m::ks,h=>by
  simp only[Env.keep,Env.get]
  split
  .grind
  .rename_i hm;refine get_keep e n ks ?_
   grind
def As8(e:Env)(ks:List Nat):∀ js:List Nat,(∀ n,js.elem n=true->ks.elem n=true)->(e.keep ks).keep js=e.keep js
 | [],_=>rfl
 | m::js,h=>by
  simp only[Env.keep];rw[get_keep e m ks (h m AE),As8 e ks js fun n hn=>h n (by grind)]
theorem Ari(e:Env)(ks:List Nat):e.keep ks=(e.keep ks).keep ks:=(As8 e ks ks fun _ h=>h).symm
section
variable {Q:Env->St->Prop} {e:Env} {σ:St} {k:List It} {l:List AI} {kill:List Nat}
def Anh(a b:AC):W T pr (.c (.seq a b)::k) e σ Q=W T pr (.c a::.c b::k) e σ Q:=propext ⟨fun⟨e',σ',h,q⟩=>by cases h with | cSeq h=>exact⟨e',σ',h,q⟩,Bmc⟩
def Bic:W T pr (.c .skip::k) e σ Q=W T pr k e σ Q:=propext ⟨fun⟨e',σ',h,q⟩=>by cases h with | cSkip h=>exact⟨e',σ',h,q⟩,Bhj⟩
def Az8(id:Nat)(c:AC):W T pr (.c (.blk id c)::k) e σ Q=W T pr (.c c::.b id::k) e σ Q:=propext ⟨fun⟨e',σ',h,q⟩=>by cases h with | cBlk h=>exact⟨e',σ',h,q⟩,Bmd⟩
def Bnb(id:Nat):W T pr (.b id::k) e σ Q=W T pr k e σ Q:=propext ⟨fun⟨e',σ',h,q⟩=>by cases h with | cEnd h=>exact⟨e',σ',h,q⟩,Bme⟩
def Bid(keep:List Nat)(c:AC):W T pr (.c (.loop keep c)::k) e σ Q=WE T pr (e.keep keep) (.l keep c::k) σ Q:=by
 refine propext ⟨fun⟨e',σ',h,q⟩=>?_,fun h=>Bhk (Av h ?_)⟩
 .cases h with
  | cLoop h=>exact Av ⟨e',σ',h,q⟩ (Ari e keep).symm
 grind[Ari]
def Bc8(keep:List Nat)(c:AC):W T pr (.l keep c::k) e σ Q=WE T pr (e.keep keep) (.c c::.l keep c::k) σ Q:=propext ⟨fun⟨e',σ',h,q⟩=>by cases h with | cAgain h=>exact⟨e',σ',h,q⟩,Bcp⟩
def Bnc:W T pr (.c .ret::k) e σ Q=Q e σ:=propext ⟨fun⟨e',σ',h,q⟩=>by cases h with | cRet=>exact q,Bmf⟩
theorem Az9:W T pr [] e σ Q=Q e σ:=propext ⟨fun⟨e',σ',h,q⟩=>by cases h with | cNil=>exact q,Bmg⟩
def Bnd(ops:List AI):W T pr (.c (.reg kill ops)::k) e σ Q=WR T pr ops kill k e σ Q:=propext ⟨fun⟨e',σ',h,q⟩=>by cases h with | cReg h h2=>exact⟨_,_,h,e',σ',h2,q⟩,fun⟨_,_,h,e',σ',h2,q⟩=>⟨e',σ',.cReg h h2,q⟩⟩
def Bie(c:S)(x y:AC):W T pr (.c (.cond c kill x y)::k) e σ Q=WC T pr (Ac e c) kill x y k e σ Q:=by
 refine propext ⟨fun⟨e',σ',h,q⟩=>?_,fun h=>?_⟩
 .cases h with
  | cCond hc h=>
   rw[hc];rename_i z;cases z
   .exact⟨e',σ',h,q⟩
   .exact⟨e',σ',h,q⟩
 .unfold WC at h
  split at h
  .rename_i hc;exact A8f hc h
  .rename_i hc;exact A8g hc h
  .exact h.elim
def Abv(id:Nat):∀ k':List It,WJ T pr id k' e σ Q↔∃ k2,exitTo id k'=some k2/\W T pr k2 e σ Q
 | []=>by simp[WJ,exitTo]
 | .b i::k'=>by
  simp only[WJ,exitTo]
  split
  .simp
  .exact Abv id k'
 | .c _::k'=>by simp only[WJ,exitTo];exact Abv id k'
 | .l _ _::k'=>by simp only[WJ,exitTo];exact Abv id k'
def Bif(id:Nat):W T pr (.c (.exit id)::k) e σ Q=WJ T pr id k e σ Q:=propext ⟨fun⟨e',σ',h,q⟩=>by cases h with | cExit hk h=>exact(Abv id k).2 ⟨_,hk,e',σ',h,q⟩,fun h=>let ⟨_,h1,h2⟩:=(Abv id k).1 h;Bhl h1 h2⟩
def Bq8(id i:Nat):WJ T pr id (.b i::k) e σ Q=if i=id then W T pr k e σ Q else WJ T pr id k e σ Q:=Bs rfl
def Bq9(id:Nat)(c:AC):WJ T pr id (.c c::k) e σ Q=WJ T pr id k e σ Q:=Bs rfl
def Bra(id:Nat)(kp:List Nat)(c:AC):WJ T pr id (.l kp c::k) e σ Q=WJ T pr id k e σ Q:=Bs rfl
def we:WE T pr e k σ Q=W T pr k e σ Q:=Bs rfl
def Big:WR T pr [] kill k e σ Q=WE T pr (e.del kill) k σ Q:=propext ⟨fun⟨_,_,h,q⟩=>by cases h with | opsNil=>exact q,fun h=>⟨_,_,.opsNil,h⟩⟩
def Bih(v:V)(σ1:St)(d:Option Nat):WX T pr (.val v σ1) d l kill k e σ Q=WR T pr l kill k (e.putO d v) σ1 Q:=Bs rfl
def Bc9(d:Option Nat):WX T pr .fail d l kill k e σ Q=False:=Bs rfl
def Jg{f:Nat}{args:List V}{d:Option Nat}{v:V}{σ1:St}(hc:CallS T pr f args σ v σ1)(h:WR T pr l kill k (e.putO d v) σ1 Q):WX T pr (.call f args) d l kill k e σ Q:=⟨v,σ1,hc,h⟩
def A22{op:AO}{r:V × St}(h:Ad op e σ=some r):Ck e op=none:=by
 cases op with
 | call f xs=>cases h
 | callv x xs=>cases h
 | _=>rfl
theorem Ani{i:AI}(hw:Cw e i=some true):WR T pr (i::l) kill k e σ Q=WX T pr (Bn i.op e σ) i.dst l kill k e σ Q:=by
 refine propext ⟨fun⟨e',σ',h,q⟩=>?_,fun h=>?_⟩
 .cases h with
  | opsSkip hw' _=>rw[hw]at hw';cases hw'
  | opsVal _ hv h=>
   unfold Bn;rw[A22 hv,hv];exact⟨_,_,h,q⟩
  | opsPrim _ hc h1 h2 h3 h=>
   unfold Bn;rw[hc];exact⟨_,_,.prim h1 h2 h3,_,_,h,q⟩
  | opsPure _ hc h1 h2 h3 h4 h5 h6 h=>
   unfold Bn;rw[hc];exact⟨_,_,.pure h4 ⟨_,h1,h2,h3,_,_,h5,h6⟩,_,_,h,q⟩
  | opsOwn _ hc h1 h2 h3 hx h4 h=>
   unfold Bn;rw[hc];exact⟨_,_,.own hx ⟨_,h1,h2,h3,h4⟩,_,_,h,q⟩
  | opsAny _ hc h1 h3 h4 h=>
   unfold Bn;rw[hc];exact⟨_,_,.any ⟨_,h1,h3,h4⟩,_,_,h,q⟩
  | opsThr _ hc h1 h2 h3 h4 h=>
   unfold Bn;rw[hc];exact⟨_,_,.thr ⟨_,h1,h2,h3,h4⟩,_,_,h,q⟩
  | opsSpec _ hc h1 h2 h3 h4 h=>
   unfold Bn;rw[hc];exact⟨_,_,.spec h1 h2 h3 h4,_,_,h,q⟩
 .unfold Bn at h
  split at h
  .rename_i f args hc;obtain⟨v,σ1,hs,e',σ',h,q⟩:=h;exact⟨e',σ',(hs.sg hw hc).ev h,q⟩
  .cases hv:Ad i.op e σ with
   | none=>rw[hv]at h;exact h.elim
   | some p=>
    obtain⟨v,σ1⟩:=p;rw[hv]at h;obtain⟨e',σ',h,q⟩:=h;exact⟨e',σ',.opsVal hw hv h,q⟩
def Brb(d:Nat)(op:AO):WR T pr (o d op::l) kill k e σ Q=WX T pr (Bn op e σ) (some d) l kill k e σ Q:=Ani (i:=o d op) rfl
def Bne(op:AO):WR T pr (on op::l) kill k e σ Q=WX T pr (Bn op e σ) none l kill k e σ Q:=Ani (i:=on op) rfl
theorem Bda{i:AI}(hw:Cw e i=some false):WR T pr (i::l) kill k e σ Q=WR T pr l kill k (e.putO i.dst .skp) σ Q:=by
 refine propext ⟨fun⟨e',σ',h,q⟩=>?_,fun⟨e',σ',h,q⟩=>⟨e',σ',.opsSkip hw h,q⟩⟩
 cases h with
 | opsSkip _ h=>exact⟨_,_,h,q⟩
 | opsVal hw'=>rw[hw]at hw';cases hw'
 | opsPrim hw'=>rw[hw]at hw';cases hw'
 | opsPure hw'=>rw[hw]at hw';cases hw'
 | opsOwn hw'=>rw[hw]at hw';cases hw'
 | opsAny hw'=>rw[hw]at hw';cases hw'
 | opsThr hw'=>rw[hw]at hw';cases hw'
 | opsSpec hw'=>rw[hw]at hw';cases hw'
def A1a{i:AI}{t:Nat}{w:Bool}(hg:i.g=some (t,w)):WR T pr (i::l) kill k e σ Q=WD T pr (e.get t) w i.dst i.op l kill k e σ Q:=by
 unfold WD
 have hd:Cw e i=(match e.get t with
  | .bool b=>some (b==w)
  | .skp=>some false
  | _=>none):=by unfold Cw;rw[hg];rfl
 have no:Cw e i=none->WR T pr (i::l) kill k e σ Q=False:=by
  intro hn;refine propext ⟨?_,False.elim⟩;rintro⟨e',σ',h,q⟩
  cases h with
  | opsSkip hw'=>grind
  | opsVal hw'=>grind
  | opsPrim hw'=>grind
  | opsPure hw'=>grind
  | opsOwn hw'=>grind
  | opsAny hw'=>grind
  | opsThr hw'=>grind
  | opsSpec hw'=>grind
 grind[Ani,Bda]
def Bnf(d:Nat)(op:AO)(t:Nat)(w:Bool):WR T pr (og d op t w::l) kill k e σ Q=WD T pr (e.get t) w (some d) op l kill k e σ Q:=A1a (i:=og d op t w) rfl
def Bng(op:AO)(t:Nat)(w:Bool):WR T pr (oh op t w::l) kill k e σ Q=WD T pr (e.get t) w none op l kill k e σ Q:=A1a (i:=oh op t w) rfl
def Bii(w:Bool)(d:Option Nat)(op:AO):WD T pr .skp w d op l kill k e σ Q=WR T pr l kill k (e.putO d .skp) σ Q:=Bs rfl
def Bdb(x y:AC):WC T pr (.bool true) kill x y k e σ Q=WE T pr (e.del kill) (.c x::k) σ Q:=Bs rfl
def A8j(x y:AC):WC T pr (.bool false) kill x y k e σ Q=WE T pr (e.del kill) (.c y::k) σ Q:=Bs rfl
def Lq{b:Bool}{x y:AC}(h1:b=true->WE T pr (e.del kill) (.c x::k) σ Q)(h2:b=false->WE T pr (e.del kill) (.c y::k) σ Q):WC T pr (.bool b) kill x y k e σ Q:=by
 cases b
 .exact h2 rfl
 .exact h1 rfl
end
/-! only the first part is looked at while it is reckoned -/
section
variable {Q:Env->St->Prop} {e e':Env} {σ σ':St} {k:List It} {l:List AI} {kill:List Nat}
@[congr] theorem Bs8 (h:e=e'):W T pr k e σ Q=W T pr k e' σ Q:=by rw[h]
@[congr] theorem Bsz (h:e=e'):WE T pr e k σ Q=WE T pr e' k σ Q:=by rw[h]
@[congr] theorem Bs0 (h:e=e'):WR T pr l kill k e σ Q=WR T pr l kill k e' σ Q:=by rw[h]
@[congr] theorem Bs1 {r r':Rs} {d:Option Nat} (h:r=r'):WX T pr r d l kill k e σ Q=WX T pr r' d l kill k e σ Q:=by rw[h]
@[congr] theorem Bs2 {g g':V} {w:Bool} {d:Option Nat} {op:AO} (h:g=g'):WD T pr g w d op l kill k e σ Q=WD T pr g' w d op l kill k e σ Q:=by rw[h]
@[congr] theorem Bs3 {g g':V} {x y:AC} (h:g=g'):WC T pr g kill x y k e σ Q=WC T pr g' kill x y k e σ Q:=by rw[h]
end
variable {T:Nat->Option AF} {pr:Nat->Option (List V->Option V)}
inductive Kd where
 | pu | rd | ef
def kd:AO->Kd
 | .new _ _ | .box _ _ | .store _ _ _ | .app _ _ _ _ | .apps _ _ _ | .rowf _ _ _ | .rowo _ _ _ _ | .mk _ _ _ _ _ | .mmk | .mup _ _ _ | .call _ _ | .callv _ _=>.ef
 | .load _ _ _ | .mlk _ _ _=>.rd
 | _=>.pu
def Bnh{op:AO}(h:kd op=.pu):Gc T pr op=0:=by
 cases op<;>simp[kd]at h<;>simp[Gc]
def Bni{op:AO}(h:kd op=.rd){e:Env}{σ σ1:St}{v:V}(hv:Ad op e σ=some (v,σ1)):σ1=σ:=by
 cases op with
 | load n one x=>
  simp only[Ad,Cf]at hv;obtain⟨_,_,h⟩:=hv;cases h;rfl
 | mlk z x k=>
  simp only[Ad]at hv
  split at hv
  .split at hv
   .cases hv;rfl
   .cases hv
  .cases hv
 | _=>simp[kd]at h
def CallP(T:Nat->Option AF)(pr:Nat->Option (List V->Option V))(f:Nat)(vs:List V)(v:V):Prop:=(∃ s,pr f=some s/\s vs=some v)\/Fn T pr f vs v
def CallP.sg{i:AI}{f:Nat}{args vs:List V}{e:Env}{σ:St}{v:V}(h:CallP T pr f vs v)(hw:Cw e i=some true)(hc:Ck e i.op=some (f,args))(hx:Dm σ args=some vs):Sg T pr i e σ v (after σ args v):=by
 rcases h with⟨s,h1,h2⟩ | h
 .exact .prim hw hc h1 hx h2
 .exact .pure hw hc hx h
def Mu(qa:List (List Nat))(n m:Nat)(i:AI)(z:Kd)(v:V)(σ1:St)(e:Env)(σ:St)(fs:Fs)(ls:Ls)(K:Env->St->Fs->Ls->Prop):Prop:=
 match z with
 | .pu=>K (e.putO i.dst v) σ fs ls
 | .rd=>Y4 qa n m (fun s=>Ad i.op e s=some (v,s)) fs/\K (e.putO i.dst v) σ fs ((m,fun s=>Ad i.op e s=some (v,s))::ls)
 | .ef=>Q1 qa n m fs/\Q2 qa n m σ σ1 ls/\K (e.putO i.dst v) σ1 ((m,σ,σ1)::fs) ls
def Hu(T:Nat->Option AF)(pr:Nat->Option (List V->Option V))(qa:List (List Nat))(n m:Nat)(i:AI)(r:Rs)(e:Env)(σ:St)(fs:Fs)(ls:Ls)(K:Env->St->Fs->Ls->Prop):Prop:=
 match r with
 | .val v σ1=>Mu qa n m i (kd i.op) v σ1 e σ fs ls K
 | .call f args=>(∃ v vs,Ag args=[]/\Dm σ args=some vs/\CallP T pr f vs v/\K (e.putO i.dst v) σ fs ls) \/
   (∃ v vs,Dm σ args=some vs/\CallP T pr f vs v/\v.flatV=true/\Y4 qa n m (fun s=>Dm s args=some vs) fs/\K (e.putO i.dst v) σ fs ((m,fun s=>Dm s args=some vs)::ls)) \/
   (∃ v σ1,CallS T pr f args σ v σ1/\Q1 qa n m fs/\Q2 qa n m σ σ1 ls/\K (e.putO i.dst v) σ1 ((m,σ,σ1)::fs) ls)
 | .fail=>False
def Lb(T:Nat->Option AF)(pr:Nat->Option (List V->Option V))(qa:List (List Nat))(n m:Nat)(i:AI)(g:Option V)(w:Bool)(e:Env)(σ:St)(fs:Fs)(ls:Ls)(K:Env->St->Fs->Ls->Prop):Prop:=
 match g with
 | none=>Hu T pr qa n m i (Bn i.op e σ) e σ fs ls K
 | some (.bool b)=>if b=w then Hu T pr qa n m i (Bn i.op e σ) e σ fs ls K else K (e.putO i.dst .skp) σ fs ls
 | some .skp=>K (e.putO i.dst .skp) σ fs ls
 | some _=>False
def wg(T:Nat->Option AF)(pr:Nat->Option (List V->Option V))(qa:List (List Nat))(n:Nat)(kill:List Nat)(k:List It)(Q:Env->St->Prop):Nat->List AI->Env->St->Fs->Ls->Prop
 | _,[],e,σ,_,_=>WE T pr (e.del kill) k σ Q
 | m,i::l,e,σ,fs,ls=>Lb T pr qa n m i (i.g.map fun p=>e.get p.1) ((i.g.map fun p=>p.2).getD true) e σ fs ls (wg T pr qa n kill k Q (m+1) l)
section
variable {Q:Env->St->Prop} {e:Env} {σ:St} {k:List It} {kill:List Nat} {qa:List (List Nat)} {n:Nat}
def Ayf{m:Nat}{i:AI}{l:List AI}{fs:Fs}{ls:Ls}{K:Env->St->Prop}{P:Env->St->Fs->Ls->Prop}(hP:∀ e σ fs ls,P e σ fs ls->WG T pr qa n (m+1) l e σ fs ls K)
  (hw:Cw e i=some true) (h:Hu T pr qa n m i (Bn i.op e σ) e σ fs ls P):WG T pr qa n m (i::l) e σ fs ls K:=by
 unfold Bn at h
 split at h
 .rename_i f args hc;rcases h with⟨v,vs,h1,h2,h3,h4⟩ | ⟨v,vs,h1,h2,h3,h4,h5⟩ | ⟨v,σ1,h1,h2,h3,h4⟩
  .refine Afx (fun s=>?_) (hP _ _ _ _ h4);have:=h3.sg (σ:=s) hw hc ((Aen h1 s).trans h2)
   grind[Xb]
  .obtain⟨e',σ',h,q⟩:=hP _ _ _ _ h5;refine⟨e',σ',.read (fun s=>Dm s args=some vs) h1 (fun s hs=>?_) (Ale h4) h,q⟩;have:=h2.sg (σ:=s) hw hc hs
   simp_all [after]
  .exact Aye (h1.sg hw hc) h2 h3 (hP _ _ _ _ h4)
 .cases hv:Ad i.op e σ with
  | none=>rw[hv]at h;exact h.elim
  | some p=>
   obtain⟨v,σ1⟩:=p;rw[hv]at h;simp only[r2,Hu]at h;unfold Mu at h
   split at h
   .rename_i hk;obtain⟨rfl,qf⟩:=Adp (Bnh (T:=T) (pr:=pr) hk) hv
    grind[Bho]
   .rename_i hk;obtain rfl:=Bni hk hv
    grind[Bmj]
   grind[Bhp]
def V2:∀ (l:List AI) (m:Nat) (e:Env) (σ:St) (fs:Fs) (ls:Ls),wg T pr qa n kill k Q m l e σ fs ls->WG T pr qa n m l e σ fs ls fun e1 σ1=>W T pr k (e1.del kill) σ1 Q
 | [],m,e,σ,fs,ls,h=>Bhn h
 | i::l,m,e,σ,fs,ls,h=>by
  unfold wg at h;unfold Lb at h
  split at h
  .rename_i hg;refine Ayf (fun e σ fs ls=>V2 l (m+1) e σ fs ls) ?_ h
   grind[Cw]
  .rename_i b hg;obtain⟨p,hp,hb⟩:=Cf.1 hg
   split at h
   .rename_i qn;refine Ayf (fun e σ fs ls=>V2 l (m+1) e σ fs ls) ?_ h
    grind[Cw]
   .rename_i qn;refine Afx (fun s=>.off ?_) (V2 l (m+1) _ _ _ _ h)
    grind[Cw]
  .rename_i hg;obtain⟨p,hp,hb⟩:=Cf.1 hg;refine Afx (fun s=>.off ?_) (V2 l (m+1) _ _ _ _ h)
   grind[Cw]
  grind
def Af{ops:List AI}(qs:Ph qa ops=true)(h:wg T pr qa ops.length kill k Q 0 ops e σ [] []):W T pr (.c (.drw kill qa ops)::k) e σ Q:=
 Bhm qs fun _ hK=>by
  obtain⟨e',σ',h,q⟩:=V2 _ _ _ _ _ _ h;exact⟨e',σ',h,hK _ _ q⟩
variable {m:Nat} {l:List AI} {fs:Fs} {ls:Ls} {K:Env->St->Fs->Ls->Prop}
def Bij:wg T pr qa n kill k Q m [] e σ fs ls=WE T pr (e.del kill) k σ Q:=Bs rfl
def Brc(d:Nat)(op:AO):wg T pr qa n kill k Q m (o d op::l) e σ fs ls=Hu T pr qa n m (o d op) (Bn op e σ) e σ fs ls (wg T pr qa n kill k Q (m+1) l):=Bs rfl
def Bnj(op:AO):wg T pr qa n kill k Q m (on op::l) e σ fs ls=Hu T pr qa n m (on op) (Bn op e σ) e σ fs ls (wg T pr qa n kill k Q (m+1) l):=Bs rfl
def Bnk(d:Nat)(op:AO)(t:Nat)(w:Bool):wg T pr qa n kill k Q m (og d op t w::l) e σ fs ls=Lb T pr qa n m (og d op t w) (some (e.get t)) w e σ fs ls (wg T pr qa n kill k Q (m+1) l):=Bs rfl
def Bnl(op:AO)(t:Nat)(w:Bool):wg T pr qa n kill k Q m (oh op t w::l) e σ fs ls=Lb T pr qa n m (oh op t w) (some (e.get t)) w e σ fs ls (wg T pr qa n kill k Q (m+1) l):=Bs rfl
def Bnm(d:Nat)(op:AO)(v:V)(σ1:St):Hu T pr qa n m (o d op) (.val v σ1) e σ fs ls K=Mu qa n m (o d op) (kd op) v σ1 e σ fs ls K:=Bs rfl
def Bik(op:AO)(v:V)(σ1:St):Hu T pr qa n m (on op) (.val v σ1) e σ fs ls K=Mu qa n m (on op) (kd op) v σ1 e σ fs ls K:=Bs rfl
def Bil(d:Nat)(op:AO)(t:Nat)(w:Bool)(v:V)(σ1:St):Hu T pr qa n m (og d op t w) (.val v σ1) e σ fs ls K=Mu qa n m (og d op t w) (kd op) v σ1 e σ fs ls K:=Bs rfl
def Bim(op:AO)(t:Nat)(w:Bool)(v:V)(σ1:St):Hu T pr qa n m (oh op t w) (.val v σ1) e σ fs ls K=Mu qa n m (oh op t w) (kd op) v σ1 e σ fs ls K:=Bs rfl
def Bin(d:Nat)(op:AO)(t:Nat):Lb T pr qa n m (og d op t true) (some (.bool true)) true e σ fs ls K=Hu T pr qa n m (og d op t true) (Bn op e σ) e σ fs ls K:=Bs rfl
def Bio(d:Nat)(op:AO)(t:Nat):Lb T pr qa n m (og d op t false) (some (.bool false)) false e σ fs ls K=Hu T pr qa n m (og d op t false) (Bn op e σ) e σ fs ls K:=Bs rfl
def Bip(d:Nat)(op:AO)(t:Nat):Lb T pr qa n m (og d op t false) (some (.bool true)) false e σ fs ls K=K (e.put d .skp) σ fs ls:=Bs rfl
def Biq(d:Nat)(op:AO)(t:Nat):Lb T pr qa n m (og d op t true) (some (.bool false)) true e σ fs ls K=K (e.put d .skp) σ fs ls:=Bs rfl
def Bnn(d:Nat)(op:AO)(t:Nat)(w:Bool):Lb T pr qa n m (og d op t w) (some .skp) w e σ fs ls K=K (e.put d .skp) σ fs ls:=Bs rfl
def Bir(op:AO)(t:Nat):Lb T pr qa n m (oh op t true) (some (.bool true)) true e σ fs ls K=Hu T pr qa n m (oh op t true) (Bn op e σ) e σ fs ls K:=Bs rfl
def Bis(op:AO)(t:Nat):Lb T pr qa n m (oh op t false) (some (.bool false)) false e σ fs ls K=Hu T pr qa n m (oh op t false) (Bn op e σ) e σ fs ls K:=Bs rfl
def Bit(op:AO)(t:Nat):Lb T pr qa n m (oh op t false) (some (.bool true)) false e σ fs ls K=K e σ fs ls:=Bs rfl
def Biu(op:AO)(t:Nat):Lb T pr qa n m (oh op t true) (some (.bool false)) true e σ fs ls K=K e σ fs ls:=Bs rfl
def Bno(op:AO)(t:Nat)(w:Bool):Lb T pr qa n m (oh op t w) (some .skp) w e σ fs ls K=K e σ fs ls:=Bs rfl
def Biv{i:AI}(v:V)(σ1:St):Mu qa n m i .pu v σ1 e σ fs ls K=K (e.putO i.dst v) σ fs ls:=Bs rfl
def Biw{i:AI}(v:V)(σ1:St):Mu qa n m i .rd v σ1 e σ [] ls K=K (e.putO i.dst v) σ [] ((m,fun s=>Ad i.op e s=some (v,s))::ls):=propext ⟨fun h=>h.2,fun h=>⟨trivial,h⟩⟩
def Bix{i:AI}(v:V)(σ1:St):Mu qa n m i .ef v σ1 e σ [] [] K=K (e.putO i.dst v) σ1 [(m,σ,σ1)] []:=propext ⟨fun h=>h.2.2,fun h=>⟨trivial,trivial,h⟩⟩
def Ri{i:AI}{v:V}{σ1:St}(h1:Q1 qa n m fs)(h2:Q2 qa n m σ σ1 ls)(h:K (e.putO i.dst v) σ1 ((m,σ,σ1)::fs) ls):Mu qa n m i .ef v σ1 e σ fs ls K:=⟨h1,h2,h⟩
end
/-! settled values go over as they are -/
def Da:V->Bool
 | .agg cs=>cs.all V.rowB
 | .imm _ _=>true
 | v=>v.rowB
theorem Rb{v:V}(h:v.rowB=true):v.refs=[]:=by cases v<;>simp[V.rowB]at h<;>rfl
theorem Ft:∀ {cs:List V},cs.all V.rowB=true->Ag cs=[]
 | [],_=>rfl
 | c::cs,h=>by
  simp only[B5,Ai]at h;simp only[Ag,Rb h.1,Ft h.2,Cc]
def Xc{v:V}(h:Da v=true):v.refs=[]:=by
 unfold Da at h
 split at h
 .exact Ft h
 .rfl
 grind[Rb]
def U9:∀ {vs:List V},vs.all Da=true->Ag vs=[]
 | [],_=>rfl
 | c::cs,h=>by
  simp only[B5,Ai]at h;simp only[Ag,Xc h.1,U9 h.2,Cc]
theorem U4{σ:St}{js:List Nat}{d:Nat}{v:V}(h:v.rowB=true):Fe σ js (d+1) v=some v:=by
 simp_all [Fe]
theorem Vj{f:V->Option V}:∀ {cs:List V},(∀ c∈cs,f c=some c)->cs.mapM f=some cs
 | [],_=>rfl
 | c::cs,h=>by
  rw[Le,h c B4,Vj fun c hc=>h c (Cb _ hc)];rfl
theorem Zp{σ:St}{js:List Nat}{v:V}(h:Da v=true):Gq σ js v=some v:=by
 unfold Da at h
 split at h
 .grind[Gq,Vj,U4]
 .rfl
 .rename_i h1 h2;unfold Gq
  split
  .grind
  .grind
  grind[U4]
def Xj{σ:St}{vs:List V}(h:vs.all Da=true):Dm σ vs=some vs:=Vj fun c hc=>Zp (Bu.1 h c hc)
section
variable {Q:Env->St->Prop} {e:Env} {σ:St} {k:List It} {l:List AI} {kill:List Nat} {f:Nat} {vs:List V} {v:V} {d:Option Nat}
def Ab(hf:Fn T pr f vs v)(hs:vs.all Da=true)(h:WR T pr l kill k (e.putO d v) σ Q):WX T pr (.call f vs) d l kill k e σ Q:=
 Jg (.pure (Xj hs) hf) (by rw[Xb (U9 hs)];exact h)
def Fm{s:List V->Option V}(hp:pr f=some s)(hs:vs.all Da=true)(hv:s vs=some v)(h:WR T pr l kill k (e.putO d v) σ Q):WX T pr (.call f vs) d l kill k e σ Q:=
 Jg (.prim hp (Xj hs) hv) (by rw[Xb (U9 hs)];exact h)
def Ca{σ1:St}(hf:Th T pr f vs σ v σ1)(h:WR T pr l kill k (e.putO d v) σ1 Q):WX T pr (.call f vs) d l kill k e σ Q:=Jg (.thr hf) h
def Aa{σ1:St}(hf:Bw T pr f vs σ v σ1)(h:WR T pr l kill k (e.putO d v) σ1 Q):WX T pr (.call f vs) d l kill k e σ Q:=Jg (.any hf) h
variable {qa:List (List Nat)} {n m:Nat} {fs:Fs} {ls:Ls} {K:Env->St->Fs->Ls->Prop} {i:AI}
def Bf(hf:Fn T pr f vs v)(hs:vs.all Da=true)(h:K (e.putO i.dst v) σ fs ls):Hu T pr qa n m i (.call f vs) e σ fs ls K:=.inl ⟨v,vs,U9 hs,Xj hs,.inr hf,h⟩
def Afy{s:List V->Option V}(hp:pr f=some s)(hs:vs.all Da=true)(hv:s vs=some v)(h:K (e.putO i.dst v) σ fs ls):Hu T pr qa n m i (.call f vs) e σ fs ls K:=.inl ⟨v,vs,U9 hs,Xj hs,.inl ⟨s,hp,hv⟩,h⟩
def Abb{σ1:St}(hf:Th T pr f vs σ v σ1)(h1:Q1 qa n m fs)(h2:Q2 qa n m σ σ1 ls)(h:K (e.putO i.dst v) σ1 ((m,σ,σ1)::fs) ls):Hu T pr qa n m i (.call f vs) e σ fs ls K:=.inr (.inr ⟨v,σ1,.thr hf,h1,h2,h⟩)
end
/-! ends -/
def FR(v0:V)(σ1:St)(v:V):Prop:=(Ci v0=true/\v0.refs=[]/\Ed [] v0=some v)\/∃ js,Hy 0 js v0 σ1=true/\Ed ((js.filterMap (σ1[·]?)).map (Ob.ren (ren 0 js))) (v0.ren (ren 0 js))=some v
def FL(o:Option V)(σ1:St)(v:V):Prop:=∃ v0,o=some v0/\FR v0 σ1 v
def FQ(res:List AR)(v:V)(e:Env)(σ:St):Prop:=FL (Cd e σ res) σ v
def Bg{f p:Nat}{res:List AR}{body:AC}{vs:List V}{v:V}(hT:T f=some ⟨p,res,false,body,none⟩)(hl:vs.length=p)(h:W T pr [.c body] (C4 0 vs) [] (FQ res v)):Fn T pr f vs v:=by
 obtain⟨e',σ',hE,v0,hr,h1 | ⟨js,h1,h2⟩⟩:=h
 .exact As3 hT rfl rfl hl ⟨e',σ',hE,v0,hr,h1⟩
 .exact A5a hT rfl rfl hl ⟨e',σ',hE,v0,js,hr,h1,h2⟩
def Brd(r:AR)(v:V)(e:Env)(σ:St):FQ [r] v e σ=FL (Gs e σ r) σ v:=Bs rfl
def Bre(r s:AR)(v:V)(e:Env)(σ:St):FQ [r,s] v e σ=FL ((Gs e σ r).bind fun a=>(Gs e σ s).map fun b=>.tup [a,b]) σ v:=by
 simp only[FQ,Cd,Le,Ait]
 cases Gs e σ r with
 | none=>rfl
 | some a=>cases Gs e σ s<;>rfl
def Brf(r s t:AR)(v:V)(e:Env)(σ:St):FQ [r,s,t] v e σ=FL ((Gs e σ r).bind fun a=>(Gs e σ s).bind fun b=>(Gs e σ t).map fun c=>.tup [a,b,c]) σ v:=by
 simp only[FQ,Cd,Le,Ait]
 cases Gs e σ r with
 | none=>rfl
 | some a=>
  cases Gs e σ s with
  | none=>rfl
  | some b=>cases Gs e σ t<;>rfl
def Bdc(v0 v:V)(σ:St):FL (some v0) σ v=FR v0 σ v:=propext ⟨fun⟨_,h,q⟩=>by cases h;exact q,fun h=>⟨_,rfl,h⟩⟩
theorem Aaq{v:V}(h:Da v=true):Hm v=true:=by
 unfold Da at h
 split at h
 .rename_i cs;simp only[Hm];rw[Bu]at h ⊢;intro c hc;have:=h c hc
  cases c<;>simp[V.rowB]at this<;>rfl
 .rfl
 .cases v<;>simp[V.rowB]at h<;>rfl
def Fw{v:V}{σ:St}(h:Da v=true):FR v σ v:=by
 refine .inl ⟨?_,Xc h,?_⟩
 .cases v with
  | tup vs=>grind[Da,V.rowB]
  | _=>exact Aaq h
 .unfold Ed Ky
  grind[Da,V.rowB,Zp]
def Gt{vs:List V}{σ:St}(h:vs.all Da=true):FR (.tup vs) σ (.tup vs):=by
 refine .inl ⟨?_,U9 h,?_⟩
 .grind[Ci,Aaq]
 grind[Ed,Ky,Vj,Zp]
def Ah{v v':V}{σ:St}(h:Da v=true)(he:v=v'):FR v σ v':=he ▸ Fw h
def TQ(res:List AR)(σ:St)(v:V)(σ':St)(e:Env)(σ1:St):Prop:=Cd e σ1 res=some v/\Aof σ.length σ v σ1/\σ'=σ1.take σ.length
def Bnp{f p:Nat}{res:List AR}{body:AC}{vs:List V}{v:V}{σ σ':St}(hT:T f=some ⟨p,res,true,body,none⟩)(hl:vs.length=p)(h:W T pr [.c body] (C4 0 vs) σ (TQ res σ v σ')):Th T pr f vs σ v σ':=As2 hT rfl rfl hl h
def Bd{keep:List Nat}{c c':AC}{k:List It}{e:Env}{σ:St}{Q:Env->St->Prop}(hc:c=c')(h:WE T pr (e.keep keep) (.c c'::.l keep c::k) σ Q):W T pr (.l keep c::k) e σ Q:=by
 subst hc;rw[Bc8];exact h
section
variable {qa:List (List Nat)} {n m:Nat} {e:Env} {σ:St} {fs:Fs} {ls:Ls} {K:Env->St->Fs->Ls->Prop} {i:AI}
@[congr] theorem Bsu {r r':Rs} (h:r=r'):Hu T pr qa n m i r e σ fs ls K=Hu T pr qa n m i r' e σ fs ls K:=by rw[h]
@[congr] theorem Bsv {g g':Option V} {w:Bool} (h:g=g'):Lb T pr qa n m i g w e σ fs ls K=Lb T pr qa n m i g' w e σ fs ls K:=by rw[h]
@[congr] theorem Bsw {z z':Kd} {v:V} {σ1:St} (h:z=z'):Mu qa n m i z v σ1 e σ fs ls K=Mu qa n m i z' v σ1 e σ fs ls K:=by rw[h]
end
variable {T:Nat->Option AF} {pr:Nat->Option (List V->Option V)}
def TR(v0:V)(σ:St)(v:V)(σ' σ1:St):Prop:=v0=v/\Aof σ.length σ v σ1/\σ'=σ1.take σ.length
def Biy(a b:Nat)(l:List Nat):List.elem a (b::l)=if a=b then true else List.elem a l:=by
 grind
def Biz(a:Nat):List.elem a []=false:=rfl
def Bnq(m n:Nat)(u v:V)(r:Env):Env.put ((m,u)::r) n v=if m=n then(n,v)::r else(m,u)::Env.put r n v:=Bs rfl
def Bnr(n:Nat)(v:V):Env.put [] n v=[(n,v)]:=Bs rfl
def Bns(m:Nat)(u:V)(r:Env)(ks:List Nat):Env.del ((m,u)::r) ks=if ks.elem m=true then Env.del r ks else(m,u)::Env.del r ks:=Bs rfl
def Bnt(ks:List Nat):Env.del [] ks=[]:=Bs rfl
def Bi0(e:Env)(n:Nat)(ks:List Nat):e.keep (n::ks)=(n,e.get n)::e.keep ks:=Bs rfl
def Bi1(e:Env):e.keep []=[]:=Bs rfl
def Bnu(n:Nat):Env.get [] n=.und:=rfl
section
variable {Q:Env->St->Prop} {e:Env} {σ:St} {k:List It} {l:List AI} {kill:List Nat}
def Bnv(d:Option Nat)(op:AO):WD T pr (.bool true) true d op l kill k e σ Q=WX T pr (Bn op e σ) d l kill k e σ Q:=Bs rfl
def Bnw(d:Option Nat)(op:AO):WD T pr (.bool false) false d op l kill k e σ Q=WX T pr (Bn op e σ) d l kill k e σ Q:=Bs rfl
def Bnx(d:Option Nat)(op:AO):WD T pr (.bool true) false d op l kill k e σ Q=WR T pr l kill k (e.putO d .skp) σ Q:=Bs rfl
def Bny(d:Option Nat)(op:AO):WD T pr (.bool false) true d op l kill k e σ Q=WR T pr l kill k (e.putO d .skp) σ Q:=Bs rfl
end
def Bnz(d:Nat)(op:AO):(o d op).dst=some d:=rfl
def Bi2(op:AO):(on op).dst=none:=rfl
def Bi3(d:Nat)(op:AO)(t:Nat)(w:Bool):(og d op t w).dst=some d:=rfl
def Bi4(op:AO)(t:Nat)(w:Bool):(oh op t w).dst=none:=rfl
def Mv(o:Option Ob)(g n:Nat)(one:Bool)(off:Nat):Option V:=
 match o with
 | some (.row cs _ g' _)=>if g=g'/\off+n<=cs.length then Hp one ((cs.drop off).take n) else none
 | _=>none
def Ag4(cs:List V)(e g' z g n:Nat)(one:Bool)(off:Nat):Mv (some (.row cs e g' z)) g n one off=if g=g'/\off+n<=cs.length then Hp one ((cs.drop off).take n) else none:=Bs rfl
def Bi5(σ:St)(n:Nat)(one:Bool)(i g off:Nat):I4 σ n one (.ptr i g off)=Mv σ[i]? g n one off:=Bs rfl
def Bi6(σ:St)(n:Nat)(one:Bool)(row:List V)(off:Nat):I4 σ n one (.imm row off)=if off+n<=row.length then Hp one ((row.drop off).take n) else none:=Bs rfl
def Aca(o:Option Ob)(σ:St)(n i g off:Nat)(v:V):Option (V × St):=
 match o with
 | some (.row cs e g' z)=>if g=g'/\z<=off/\v.cells.length=n/\v.cells.all V.cellB=true then(Qn cs off v.cells).map fun cs'=>(.und,σ.set i (.row cs' e g z)) else none
 | _=>none
def Bi7(cs:List V)(e g' z:Nat)(σ:St)(n i g off:Nat)(v:V):Aca (some (.row cs e g' z)) σ n i g off v=if g=g'/\z<=off/\v.cells.length=n/\v.cells.all V.cellB=true then(Qn cs off v.cells).map fun cs'=>(.und,σ.set i (.row cs' e g z)) else none:=Bs rfl
def A0a(σ:St)(n i g off:Nat)(v:V):Ahl n (.ptr i g off) v σ=Aca σ[i]? σ n i g off v:=by
 grind[Ahl,Rm,Aca,Qn]
def Bn0:Nh .nils=some (.int .i64 0):=rfl
def Bn1(t:Nat)(xs:List (List V)):Nh (.lst t xs)=some (.int .i64 (xs.length:Int)):=rfl
theorem A0b(i g off len m:Nat)(w:Bool):Nh (.sl i g off len m w)=some (.int .i64 (len:Int)):=rfl
def Bn2(m t:Nat)(xs:List (List V))(i:V):Mr m (.lst t xs) i=(J6 xs i).bind fun r=>if r.length=m then some (.imm r 0) else none:=Bs rfl
def Bn3(m j g off len m':Nat)(w:Bool)(k:IntKind)(n:Int):Mr m (.sl j g off len m' w) (.int k n)=if 0<=n/\n<len/\m=m' then some (.ptr j g (off+n.toNat*m)) else none:=Bs rfl
def Bn4(off:Nat)(r:List V)(o:Nat):Ahm off (.imm r o)=some (.imm r (o+off)):=Bs rfl
def Bn5(off b g o:Nat):Ahm off (.ptr b g o)=some (.ptr b g (o+off)):=Bs rfl
def Bn6(off n:Nat)(one:Bool)(cs:List V):Aol off n one (.agg cs)=if off+n<=cs.length then Hp one ((cs.drop off).take n) else none:=Bs rfl
def Bdd(k:IntKind)(n:Int):V.cells (.int k n)=[.int k n]:=rfl
def Bde(l:List UInt8):V.cells (.str l)=[.str l]:=rfl
def Bdf(b:Bool):V.cells (.bool b)=[.bool b]:=rfl
def Bdg:V.cells .nils=[.nils]:=rfl
def Bdh(t:Nat)(xs:List (List V)):V.cells (.lst t xs)=[.lst t xs]:=rfl
def A8k(i g o l m:Nat)(w:Bool):V.cells (.sl i g o l m w)=[.sl i g o l m w]:=rfl
def Bdi(i g o:Nat):V.cells (.ptr i g o)=[.ptr i g o]:=rfl
def A8l:V.cells .nilp=[.nilp]:=rfl
def A5f(r:List V)(o:Nat):V.cells (.imm r o)=[.imm r o]:=rfl
def A8m(f:Nat)(a c:List V):V.cells (.fn f a c)=[.fn f a c]:=rfl
def A8n(i:Nat):V.cells (.mp i)=[.mp i]:=rfl
def Bdj(cs:List V):V.cells (.agg cs)=cs:=rfl
def Bi8(σ:St)(m:Nat):Eu σ m .nils=some []:=Bs rfl
def Bi9(σ:St)(m t:Nat)(xs:List (List V)):Eu σ m (.lst t xs)=some xs:=Bs rfl
def mk1(c:V):Hp true [c]=some c:=rfl
def mkA(cs:List V):Hp false cs=some (.agg cs):=rfl
def Alf(s l:St)(n:Nat):(s++l)[s.length+n]?=l[n]?:=by grind
def Rf(s l:St):(s++l)[s.length]?=l[0]?:=by grind
def Bdk(s l:St)(n:Nat)(x:Ob):(s++l).set (s.length+n) x=s++l.set n x:=by grind
def A8o(s l:St)(x:Ob):(s++l).set s.length x=s++l.set 0 x:=by grind
def Alg{α:Type}(l:List α)(k:IntKind)(n:Nat):J6 l (.int k (n:Int))=l[n]?:=by
 simp[J6]
theorem Cm{n:Int}(h : -9223372036854775808<=n/\n<=9223372036854775807):IntKind.i64.wrap n=n:=Go.IntWalk.i64_in _ h
def Bdl{n:Int}(h1 : -9223372036854775808<=n)(h2:n<=9223372036854775807):IntKind.i64.wrap n=n:=Cm ⟨h1,h2⟩
def Brg(t:Nat)(v:V)(σ σ' σ1:St)(e:Env):TQ [.tmp t] σ v σ' e σ1=TR (e.get t) σ v σ' σ1:=Bs (propext ⟨fun⟨h1,h2⟩=>⟨M5 h1,h2⟩,fun⟨h1,h2⟩=>⟨congrArg some h1,h2⟩⟩)
def Ae9{v:V}{σ:St}(J:St)(h:v.rowB=true):TR v σ v σ (σ++J):=by
 refine⟨rfl,⟨?_,?_,fun i ob hi ho=>.inl ?_⟩,by simp⟩
 .cases v<;>simp[V.rowB]at h<;>rfl
 .rw[Rb h];rfl
 grind
def A2{i:Nat}(h:i<9223372036854775807):IntKind.i64.wrap ((i:Int)+1)=((i+1:Nat):Int):=by grind[Cm]
def Az{i n:Nat}(h:i<n):decide ((i:Int)<(n:Int))=true:=by grind
def Bl{i n:Nat}(h:n<=i):decide ((i:Int)<(n:Int))=false:=by grind
def Brh{i n:Nat}(h:n<=i):decide ((n:Int)<=(i:Int))=true:=by grind
def Bri{i n:Nat}(h:i<n):decide ((n:Int)<=(i:Int))=false:=by grind
def Br{α:Type}{l:List α}{i:Nat}(h:i<l.length):∃ x,l[i]?=some x/\l.drop i=x::l.drop (i+1)/\x∈l:=⟨l[i],B9 h,Io h,M4 h⟩
def Bk{keep:List Nat}{c:AC}{k:List It}{Q:Env->St->Prop}{α:Type}(μ:α->Nat)(E:α->Env)(Z:α->St)(I:α->Prop)
  (h:∀ a,I a->(∀ b,μ b<μ a->I b->W T pr (.l keep c::k) (E b) (Z b) Q)->W T pr (.l keep c::k) (E a) (Z a) Q):∀ a,I a->W T pr (.l keep c::k) (E a) (Z a) Q:=by
 suffices ∀ n a,μ a=n->I a->W T pr (.l keep c::k) (E a) (Z a) Q from fun a=>this _ a rfl
 intro n
 induction n using Nat.strongRecOn with
 | _ n ih=>grind
def Brj(cs:List V):Da (.agg cs)=cs.all V.rowB:=rfl
def Brk(r:List V)(o:Nat):Da (.imm r o)=true:=rfl
def A1b(k:IntKind)(n:Int):Da (.int k n)=true:=rfl
def Brl(l:List UInt8):Da (.str l)=true:=rfl
def Brm(b:Bool):Da (.bool b)=true:=rfl
def Brn:Da .nils=true:=rfl
def Bro:Da .nili=true:=rfl
def Brp(t:Nat)(xs:List (List V)):Da (.lst t xs)=true:=rfl
/-! settled slices -/
def SL(z:Bool)(t:Nat)(xs:List (List V)):V:=if z=true/\xs=[] then .nils else .lst t xs
theorem Hn(z:Bool)(t:Nat)(xs:List (List V)):(SL z t xs).rowB=true:=by unfold SL;split<;>rfl
def S8(z:Bool)(t:Nat)(xs:List (List V)):(SL z t xs).cellB=true:=by unfold SL;split<;>rfl
def Abc(z:Bool)(t:Nat)(xs:List (List V)):Da (SL z t xs)=true:=by unfold SL;split<;>rfl
def As9(z:Bool)(t:Nat)(xs:List (List V)):(SL z t xs).cells=[SL z t xs]:=by unfold SL;split<;>rfl
def Afz(z:Bool)(t:Nat)(xs:List (List V)):Nh (SL z t xs)=some (.int .i64 (xs.length:Int)):=by
 unfold SL
 split
 .rename_i h;rw[h.2];rfl
 .rfl
def Af0(z:Bool)(t:Nat)(xs:List (List V))(m:Nat)(i:V):Mr m (SL z t xs) i=(J6 xs i).bind fun r=>if r.length=m then some (.imm r 0) else none:=by
 unfold SL
 split
 .rename_i h;rw[h.2]
  cases i<;>simp[Mr,J6]
 .rfl
def Aar(z:Bool)(t:Nat)(xs:List (List V))(σ:St)(m:Nat):Eu σ m (SL z t xs)=some xs:=by
 unfold SL
 split
 .rename_i h;rw[h.2];rfl
 .rfl
attribute [go_sem] Nat.reduceEqDiff reduceIte Nat.reduceAdd Nat.reduceMul Nat.reduceLeDiff Int.reduceLT Int.reduceLE Int.reduceToNat Int.reduceAdd Int.reduceNeg Int.reduceEq
attribute [go_sem ↓] Anh Bic Az8 Bnb Bid Az9 Bnc Bnd Bie Bif Bq8 Bq9 Bra Big Brb Bne Bnf Bng Bij Brc Bnj Bnk Bnl Bmq Bmr get_put A8i A5d A5e Brd Bre Brf Brg
attribute [go_sem ↓] Alg Bms Bh2 Bmt Bmu Bc5 Bh3 Bh4 Bh5 Bq3 Bh6 Bc6 Bmv Bmw Bq4 Bq5 Bmx Bh7 Bmy Bh8 Bmz Bm0 Bm1 Bm2 Bm3 Bm4 Bm5 Bh9 Bm6 Bm7 Bia Bq6 Bq7 Bm8 Bm9 Bna Bib Bc7
attribute [go_sem] we Bih Bc9 Bii Bnv Bnw Bnx Bny Bdb A8j Bc1 Bc2 Bc3 Bc4 Bnm Bik Bil Bim Bin Bio Bip Biq Bnn Bir Bis Bit Biu Bno Biv Biw Bix kd Bdc
attribute [go_sem] Bnu Bnq Bnr Bns Bnt Bi0 Bi1 Biy Biz C4 Gs
attribute [go_sem] Ab9 Aoc Al unV Ane A08 mkV Aoi Aoj Om eqB An8 An9 Aoa Aob Aok Anf Ul Dy Aom Aon Aoo Aop Ang mxV mnV Aoq A09 Aor mk1 mkA Qn I3 Fg Brj Brk A1b Brl Brm Brn Bro Brp Bhq Bhs Bcr Bct Bcv Bhu Bhw Bmk Bcx Bcz Bhy Bh0 Bmm Bmo Bhr Bht Bcs Bcu Bcw Bhv Bhx Bml Bcy Bc0 Bhz Bh1 Bmn Bmp decide_true decide_false gt_iff_lt ge_iff_le ne_eq not_false_eq_true not_true_eq_false Bnz Bi2 Bi3 Bi4 Ag4 Bi5 Bi6 Bi7 A0a Bn0 Bn1 A0b Bn2 Bn3 Bn4 Bn5 Bn6 Bdd Bde Bdf Bdg Bdh A8k Bdi A8l A5f A8m A8n Bdj Bi8 Bi9
attribute [go_sem] Alf Rf Bdk A8o J6 Bdl Hn S8 Abc As9 Afz Af0 Aar
attribute [go_sem] Ir Option.map_none C5 Option.bind_none Aw B0 B5 Db Aiu W3 Bool.and_self and_self and_true true_and eq_self An Dc Aq Jf Aig Adg List.take_succ_cons Bq Ba Bt Cc Wq Q5 Ac7 List.set_cons_succ List.replicate Fd Zg Gf Nt Nat.zero_mul Nat.one_mul Zr Hg Bool.true_eq_false Ay A1 Bool.bne_false Bool.bne_true if_true if_false ite_true ite_false Nr C2
variable {T:Nat->Option AF} {pr:Nat->Option (List V->Option V)}
theorem Nz(σ:St):∀ (d:Nat) (js:List Nat) (i:Nat),i∈js->i∈Fr σ d js
 | 0,_,_,h=>h
 | d+1,js,i,h=>by
  simp only[Fr]
  split
  .exact h
  .exact Nz σ d _ i (Ac2 _ h)
def OC(σ:St)(v v':V):Prop:=∀ js:List Nat,(∀ i∈v.refs,i∈js)->∀ d,Fe σ js (d+2) v=some v'
def OV(σ:St)(v v':V):Prop:=∀ js:List Nat,(∀ i∈v.refs,i∈js)->Gq σ js v=some v'
inductive OVs (σ:St):List V->List V->Prop
 | nil:OVs σ [] []
 | cons {v v':V} {vs qc:List V}:OV σ v v'->OVs σ vs qc->OVs σ (v::vs) (v'::qc)
inductive OCs (σ:St):List V->List V->Prop
 | nil:OCs σ [] []
 | cons {v v':V} {vs qc:List V}:OC σ v v'->OCs σ vs qc->OCs σ (v::vs) (v'::qc)
def Vk{σ:St}{js:List Nat}:∀ {vs qc:List V},OVs σ vs qc->(∀ i∈Ag vs,i∈js)->vs.mapM (Gq σ js)=some qc
 | _,_,.nil,_=>rfl
 | _,_,.cons h hs,hj=>by
  simp only[Ag,Cu]at hj;rw[Le,h js fun i hi=>hj i (.inl hi),Vk hs fun i hi=>hj i (.inr hi)];rfl
def Alh{σ:St}{js:List Nat}{d:Nat}:∀ {vs qc:List V},OCs σ vs qc->(∀ i∈Ag vs,i∈js)->vs.mapM (Fe σ js (d+2))=some qc
 | _,_,.nil,_=>rfl
 | _,_,.cons h hs,hj=>by
  simp only[Ag,Cu]at hj;rw[Le,h js (fun i hi=>hj i (.inl hi)) d,Alh hs fun i hi=>hj i (.inr hi)];rfl
def Afa{σ:St}{vs qc:List V}(h:OVs σ vs qc):Dm σ vs=some qc:=Vk h fun i hi=>Nz σ 9 _ i (Sn.2 hi)
def Fk{σ:St}{v:V}(h:v.rowB=true):OC σ v v:=fun _ _ _=>U4 h
def I0{σ:St}{v:V}(h:Da v=true):OV σ v v:=fun _ _=>Zp h
def Tf{σ:St}{cs cs':List V}(h:OCs σ cs cs'):OV σ (.agg cs) (.agg cs'):=fun js hj=>by
 simp only[Gq];rw[Alh (d:=7) h hj];rfl
theorem Vl{σ:St}{v v':V}(h:OC σ v v')(hc:v.cellB=true):OV σ v v':=fun js hj=>by
 unfold Gq
 split
 .have:=h js hj 0
  grind[Fe]
 .grind[V.cellB]
 .exact h js hj 7
theorem Ad6(m:Nat):∀ (xs:List (List V)) (tl:List V),(∀ r∈xs,r.length=m)->Fg m xs.length (xs.flatten++tl)=xs
 | [],_,_=>rfl
 | r::xs,tl,h=>by
  have hr:=h r B4;simp only[An,Fg,Fd,Bt];rw[<-hr,Adh,List.drop_left];congr 1;rw[hr];exact Ad6 m xs tl fun r hr=>h r (Cb _ hr)
theorem U5{m:Nat}{xs:List (List V)}(h:∀ r∈xs,r.length=m):Fg m xs.length xs.flatten=xs:=by
 have:=Ad6 m xs [] h
 grind
theorem Gg{m:Nat}:∀ {xs:List (List V)},(∀ r∈xs,r.length=m)->xs.flatten.length=xs.length*m
 | [],_=>by simp
 | r::xs,h=>by
  rw[Fd,Aq,h r B4,Gg fun r hr=>h r (Cb _ hr),An,G0,Aix]
theorem Rw{σ:St}{i g m e z:Nat}{w:Bool}{xs:List (List V)}(ho:σ[i]?=some (.row xs.flatten e g z))(hm:0<m)(hl:∀ r∈xs,r.length=m)(hr:∀ r∈xs,r.all V.rowB=true):OC σ (.sl i g 0 xs.length m w) (.lst 0 xs):=by
 intro js hj d
 have hi:js.elem i=true:=by
  have:=hj i AS;simpa using this
 have hf:=Gg hl;unfold Fe;rw[if_neg AN];simp only[hi,if_true,ho];rw[if_pos ⟨trivial,hm,by omega⟩,Jf,<-hf,Dq,Vj fun c hc=>?_]
 .grind[U5]
 grind[U4]
section
variable {Q:Env->St->Prop} {e:Env} {σ:St} {k:List It} {l:List AI} {kill:List Nat} {f:Nat} {args vs:List V} {v:V} {d:Option Nat}
def A0c(hx:OVs σ args vs)(hf:Fn T pr f vs v)(qj:v.flatV=true)(h:WR T pr l kill k (e.putO d v) σ Q):WX T pr (.call f args) d l kill k e σ Q:=
 Jg (.pure (Afa hx) hf) (by unfold after;rw[if_pos qj];exact h)
variable {qa:List (List Nat)} {n m:Nat} {fs:Fs} {ls:Ls} {K:Env->St->Fs->Ls->Prop} {i:AI}
def Amd(hx:OVs σ args vs)(hf:Fn T pr f vs v)(qj:v.flatV=true)(h:K (e.putO i.dst v) σ [] ((m,fun s=>Dm s args=some vs)::ls)):Hu T pr qa n m i (.call f args) e σ [] ls K:=
 .inr (.inl ⟨v,vs,Afa hx,.inr hf,qj,trivial,h⟩)
end
/-! code that ends where it ends: the rest is apart -/
def AC.flat:AC->Bool
 | .skip | .reg _ _ | .drw _ _ _=>true
 | .seq a b=>a.flat&&b.flat
 | .cond _ _ x y=>x.flat&&y.flat
 | _=>false
def Hd(P:Env->St->Prop)(e:Env)(σ:St):Prop:=P e σ
@[congr] theorem Bs4 {P:Env->St->Prop} {e e':Env} {σ:St} (h:e=e'):Hd P e σ=Hd P e' σ:=by rw[h]
/-! lists that grow: nil, or a slice of an object of their own that they fill -/
def GV(σ:St)(m e lo:Nat)(u:V)(xs:List (List V)):Prop:=(u=.nils/\xs=[])\/∃ i g,u=.sl i g 0 xs.length m true/\σ[i]?=some (.row xs.flatten e g 0)/\lo<=i
def Bja{σ:St}{m e lo:Nat}:GV σ m e lo .nils []:=.inl ⟨rfl,rfl⟩
theorem Av7{σ:St}{m e lo:Nat}{u:V}{xs:List (List V)}(h:GV σ m e lo u xs):u.cellB=true:=by
 rcases h with⟨rfl,rfl⟩ | ⟨i,g,rfl,ho,qb⟩<;>rfl
def Bjb{σ:St}{m e lo:Nat}{u:V}{xs:List (List V)}(h:GV σ m e lo u xs):Nh u=some (.int .i64 (xs.length:Int)):=by
 rcases h with⟨rfl,rfl⟩ | ⟨i,g,rfl,ho,qb⟩<;>rfl
def Ame{σ:St}{m e lo bytes:Nat}{u y:V}{xs ys:List (List V)}(h:GV σ m e lo u xs)(qe:lo<=σ.length)(hy:Eu σ m y=some ys)(hm:0<m)(hl:∀ r∈xs,r.length=m)(qh:∀ r∈ys,r.length=m)(hb:(xs.length+ys.length)*bytes<=140737488355328):
  ∃ u' σ',Dt bytes (m,e) u y σ=some (u',σ')/\GV σ' m e lo u' (xs++ys)/\σ.length<=σ'.length/\(∀ j,(∀ i g,u=.sl i g 0 xs.length m true->j≠i)->j<σ.length->σ'[j]?=σ[j]?)/\∀ j,j<lo->σ'[j]?=σ[j]?:=by
 have qf:(ys.all fun r=>r.length==m)=true:=by
  rw[Bu];intro r hr;simp[qh r hr]
 unfold Dt;simp only[hy,C5];unfold Jz;rw[if_pos ⟨qf,hm⟩];rcases h with⟨rfl,rfl⟩ | ⟨i,g,rfl,ho,qb⟩
 .simp only;rw[if_pos (by grind)]
  cases ys with
  | nil=>exact⟨.nils,σ,rfl,.inl ⟨rfl,rfl⟩,Aj _,fun _ _ _=>rfl,fun _ _=>rfl⟩
  | cons y ys=>exact⟨_,_,rfl,.inr ⟨σ.length,0,rfl,by simp,qe⟩,by simp,fun j _ hj=>Es hj,fun j hj=>Es AA⟩
 .simp only;rw[if_pos ⟨hb,trivial⟩];simp only[ho,if_true]
  cases ys with
  | nil=>exact⟨_,σ,rfl,.inr ⟨i,g,by simp,by grind,qb⟩,Aj _,fun _ _ _=>rfl,fun _ _=>rfl⟩
  | cons y ys=>
   have hf:=Gg hl;have qo:=Gg qh;have qp:(y::ys).flatten.length=(ys.length+1)*m:=by rw[qo];rfl
   rw[if_neg AE,if_pos AE,if_neg (by
    grind),if_pos hf]
   refine⟨_,_,rfl,.inr ⟨i,g+1,by grind,?_,qb⟩,by simp,fun j hj _=>?_,fun j hj=>by grind⟩
   .grind
   grind
def N3{v:V}(h:v.cellB=true):v.cells=[v]:=by cases v<;>simp[V.cellB]at h<;>rfl
def By{s l:St}{j:Nat}{x:Ob}(h:s[j]?=some x):(s++l)[j]?=some x:=by
 grind
def Bdm{σ l:St}{m e lo:Nat}{u:V}{xs:List (List V)}(h:GV σ m e lo u xs):GV (σ++l) m e lo u xs:=by
 rcases h with h | ⟨i,g,h,ho,qb⟩
 .exact .inl h
 .exact .inr ⟨i,g,h,By ho,qb⟩
def Id{xs:List (List V)}(hr:∀ r∈xs,r.all V.rowB=true):xs.flatten.all V.rowB=true:=by
 grind
def Pd(i:Nat):∀ cs:List V,cs.all V.rowB=true->Fh (ren 0 [i]) cs=cs
 | [],_=>rfl
 | c::cs,h=>by
  simp only[B5,Ai]at h;simp only[Fh];rw[Pd i cs h.2];congr 1
  cases c<;>simp[V.rowB]at h<;>rfl
def Amf(ρ:Nat->Nat):∀ a b:List V,Fh ρ (a++b)=Fh ρ a++Fh ρ b
 | [],_=>rfl
 | c::a,b=>by simp only[Bq,Fh,Amf ρ a b]
theorem Lh:∀ a b:List V,Ag (a++b)=Ag a++Ag b
 | [],_=>rfl
 | c::a,b=>by simp only[Bq,Ag,Lh a b,Bt]
def Vs{cs:List V}(h:cs.all V.rowB=true):cs.all V.cellB=true:=by
 rw[Bu]at h ⊢;intro c hc;have:=h c hc
 cases c<;>simp[V.rowB]at this<;>rfl
def Av8{σ:St}{a a' b b':List V}(h1:OCs σ a a')(h2:OCs σ b b'):OCs σ (a++b) (a'++b'):=by
 induction h1 with
 | nil=>exact h2
 | cons h _ ih=>exact .cons h ih
def Aas{σ:St}:∀ {cs:List V},cs.all V.rowB=true->OCs σ cs cs
 | [],_=>.nil
 | c::cs,h=>by
  simp only[B5,Ai]at h;exact .cons (Fk h.1) (Aas h.2)
def Ag5{σ:St}{m e i g:Nat}{xs:List (List V)}(ho:σ[i]?=some (.row xs.flatten e g 0))(hm:0<m)(hl:∀ r∈xs,r.length=m)(hr:∀ r∈xs,r.all V.rowB=true):FR (.sl i g 0 xs.length m true) σ (.lst 0 xs):=by
 obtain⟨hi,qr⟩:=Ao.1 ho;have hx:Ag xs.flatten=[]:=Ft (Id hr);have h0:ren 0 [i] i=0:=by simp[ren,Adb]
 refine .inr ⟨[i],?_,?_⟩
 .grind[Hy,Ci,Hm,V.cellB,V.refs,El,Ob.refs]
 .simp only[Nq,ho,Ux,Aw,B0,Ob.ren,Pd i _ (Id hr),V.ren,h0];simp only[Ed,Ky,Gq];exact Rw (σ:=[.row xs.flatten e g 0]) (i:=0) (g:=g) (e:=e) (z:=0) (w:=true) rfl hm hl hr (Fr [.row xs.flatten e g 0] 9 (V.refs (.sl 0 g 0 xs.length m true)).eraseDups) (fun j hj=>Nz _ _ _ _ (Sn.2 hj)) 7
def A5g{σ:St}{m e i g:Nat}{xs:List (List V)}{pre post:List V}(ho:σ[i]?=some (.row xs.flatten e g 0))(hm:0<m)(hl:∀ r∈xs,r.length=m)(hr:∀ r∈xs,r.all V.rowB=true)(h1:pre.all V.rowB=true)(h2:post.all V.rowB=true):FR (.agg (pre++.sl i g 0 xs.length m true::post)) σ (.agg (pre++.lst 0 xs::post)):=by
 obtain⟨hi,qr⟩:=Ao.1 ho;have hx:Ag xs.flatten=[]:=Ft (Id hr)
 have qg:Ag (pre++V.sl i g 0 xs.length m true::post)=[i]:=by
  rw[Lh,Ft h1];simp only[Ag,Ft h2,V.refs,Ba,Cc]
 have h0:ren 0 [i] i=0:=by simp[ren,Adb]
 refine .inr ⟨[i],?_,?_⟩
 .simp only[Hy,Ci,Hm,V.refs,qg,Aip,B5,Vs h1,Vs h2,V.cellB]
  simp_all [El,Ob.refs]
 .simp only[Nq,ho,Ux,Aw,B0,Ob.ren,Pd i _ (Id hr),V.ren,Amf,Pd i _ h1,Fh,Pd i _ h2,h0];exact Tf (σ:=[.row xs.flatten e g 0]) (Av8 (Aas h1) (.cons (Rw (σ:=[.row xs.flatten e g 0]) (i:=0) (g:=g) (e:=e) (z:=0) (w:=true) rfl hm hl hr) (Aas h2))) _ fun j hj=>Nz _ _ _ _ (Sn.2 hj)
def GW(σ:St)(m e lo:Nat)(u:V)(xs:List (List V)):Prop:=(u=.nils/\xs=[])\/(xs≠[]/\∃ i g,u=.sl i g 0 xs.length m true/\σ[i]?=some (.row xs.flatten e g 0)/\lo<=i)
theorem D3{σ:St}{m e lo:Nat}:GW σ m e lo .nils []:=.inl ⟨rfl,rfl⟩
def Anj{σ:St}{m e lo:Nat}{u:V}{xs:List (List V)}(h:GW σ m e lo u xs):GV σ m e lo u xs:=h.imp id fun h=>h.2
theorem Cg{σ:St}{m e lo:Nat}{u:V}{xs:List (List V)}(h:GW σ m e lo u xs):u.cellB=true:=Av7 (Anj h)
theorem I1{σ:St}{m e lo bytes:Nat}{u y:V}{xs ys:List (List V)}(h:GW σ m e lo u xs)(qe:lo<=σ.length)(hy:Eu σ m y=some ys)(hm:0<m)(hl:∀ r∈xs,r.length=m)(qh:∀ r∈ys,r.length=m)(hb:(xs.length+ys.length)*bytes<=140737488355328):
  ∃ u' σ',Dt bytes (m,e) u y σ=some (u',σ')/\GW σ' m e lo u' (xs++ys)/\σ.length<=σ'.length/\(∀ j,(∀ i g,u=.sl i g 0 xs.length m true->j≠i)->j<σ.length->σ'[j]?=σ[j]?)/\∀ j,j<lo->σ'[j]?=σ[j]?:=by
 obtain⟨u',σ',h1,h2,h3,h4,h5⟩:=Ame (Anj h) qe hy hm hl qh hb;refine⟨u',σ',h1,?_,h3,h4,h5⟩;by_cases he:xs++ys=[]
 .rw[List.append_eq_nil_iff]at he;obtain⟨rfl,rfl⟩:=he;rcases h with⟨rfl,_⟩ | ⟨hn,_⟩
  .grind[Dt,Jz,D3]
  grind
 .exact h2.imp id fun h=>⟨he,h⟩
theorem Ix{σ l:St}{m e lo:Nat}{u:V}{xs:List (List V)}(h:GW σ m e lo u xs):GW (σ++l) m e lo u xs:=by
 rcases h with h | ⟨hn,i,g,h,ho,qb⟩
 .exact .inl h
 .exact .inr ⟨hn,i,g,h,By ho,qb⟩
theorem D4{σ:St}{j:Nat}{x:Ob}{m e lo:Nat}{u:V}{xs:List (List V)}(h:GW σ m e lo u xs)(hj:j<lo):GW (σ.set j x) m e lo u xs:=by
 rcases h with h | ⟨hn,i,g,h,ho,qb⟩
 .exact .inl h
 .exact .inr ⟨hn,i,g,h,by grind,qb⟩
theorem V3{t:Nat}{xs:List (List V)}(h:xs≠[]):SL true t xs=.lst t xs:=by grind[SL]
def Mj{σ:St}{m e lo:Nat}{u:V}{xs:List (List V)}(h:GW σ m e lo u xs)(hm:0<m)(hl:∀ r∈xs,r.length=m)(hr:∀ r∈xs,r.all V.rowB=true):OC σ u (SL true 0 xs):=by
 rcases h with⟨rfl,rfl⟩ | ⟨hn,i,g,rfl,ho,qb⟩
 .exact Fk rfl
 grind[V3,Rw]
def Tr{σ:St}{m e lo:Nat}{u:V}{xs:List (List V)}(h:GW σ m e lo u xs)(hm:0<m)(hl:∀ r∈xs,r.length=m)(hr:∀ r∈xs,r.all V.rowB=true):FR u σ (SL true 0 xs):=by
 rcases h with⟨rfl,rfl⟩ | ⟨hn,i,g,rfl,ho,qb⟩
 .exact Fw rfl
 .rw[V3 hn];exact Ag5 ho hm hl hr
def Bjc{σ:St}{m e lo:Nat}{u:V}{xs:List (List V)}{pre post:List V}(h:GW σ m e lo u xs)(hm:0<m)(hl:∀ r∈xs,r.length=m)(hr:∀ r∈xs,r.all V.rowB=true)(h1:pre.all V.rowB=true)(h2:post.all V.rowB=true):FR (.agg (pre++u::post)) σ (.agg (pre++SL true 0 xs::post)):=by
 rcases h with⟨rfl,rfl⟩ | ⟨hn,i,g,rfl,ho,qb⟩
 .exact Fw (by simp only[Da,Aip,B5,h1,h2];rfl)
 .rw[V3 hn];exact A5g ho hm hl hr h1 h2
/-! what a call leaves of the state, where an argument names a list's object -/
theorem Aqc(σ:St)(i j:Nat)(h:j≠i):(σ.freeze [i])[j]?=σ[j]?:=by
 grind[St.freeze]
theorem A2q(σ:St)(i:Nat):(σ.freeze [i]).length=σ.length:=by
 grind[St.freeze]
section
variable {T:Nat->Option AF} {pr:Nat->Option (List V->Option V)} {Q:Env->St->Prop} {e:Env} {σ:St} {k:List It} {l:List AI} {kill:List Nat} {f:Nat} {args vs:List V} {v:V} {d:Option Nat}
def A0d{σ':St}(hx:OVs σ args vs)(hf:Fn T pr f vs v)(ha:after σ args v=σ')(h:WR T pr l kill k (e.putO d v) σ' Q):WX T pr (.call f args) d l kill k e σ Q:=
 Jg (.pure (Afa hx) hf) (by rw[ha];exact h)
end
def Ayg{σ:St}{cs:List V}{m n:Nat}(h:cs.all V.rowB=true):Qp m n σ cs=some (.lst 1 (Fg m n cs),σ):=by
 unfold Qp;rw[Vj fun c hc=>U4 (Bu.1 h c hc),Ft h];rfl
attribute [go_sem] Ayg
def Xd(z:Bool)(t m:Nat)(xs:List (List V))(k:IntKind)(b:Nat)(hb:b<=xs.length):∃ z' t',Ha m (SL z t xs) none (some (.int k (b:Int))) none=some (SL z' t' (xs.take b)):=by
 unfold SL
 split
 .rename_i h;obtain⟨rfl,rfl⟩:=h
  simp_all [Ha,Dy]
 simp_all [Ha,Dy]
def A5h(z:Bool)(t m:Nat)(xs:List (List V))(k:IntKind)(b:Nat)(hb:b<=xs.length)(hm:∀ r∈xs,r.length=m):∃ z' t',Ha m (SL z t xs) (some (.int k (b:Int))) none none=some (SL z' t' (xs.drop b)):=by
 unfold SL
 split
 .rename_i h;obtain⟨rfl,rfl⟩:=h
  simp_all [Ha,Dy]
 simp_all [Ha,Dy]
def Cl(s:St):Prop:=∀ ob∈s,∀ i∈ob.refs,i<s.length
theorem Jh{s:St}{ob:Ob}(h:Cl s)(ho:∀ i∈ob.refs,i<s.length+1):Cl (s++[ob]):=by
 intro o hm i hi;rw[Aq];rcases Cu.1 hm with hm | hm
 .have:=h o hm i hi;omega
 grind
theorem F9{s:St}{j:Nat}{ob:Ob}(h:Cl s)(ho:∀ i∈ob.refs,i<s.length):Cl (s.set j ob):=by
 intro o hm i hi;rw[U1];rcases List.mem_or_eq_of_mem_set hm with hm | hm
 .exact h o hm i hi
 grind
mutual
theorem Z7(ρ:Nat->Nat):∀ v:V,(∀ i∈v.refs,ρ i=i)->v.ren ρ=v
 | .ptr i g o,h=>by grind[V.ren,V.refs]
 | .sl i g o l m w,h=>by grind[V.ren,V.refs]
 | .mp i,h=>by grind[V.ren,V.refs]
 | .fn f a c,h=>by
  simp only[V.ren];rw[Sv ρ a fun i hi=>h i (by grind[V.refs]),Sv ρ c fun i hi=>h i (by grind[V.refs])]
 | .agg cs,h=>by simp only[V.ren];rw[Sv ρ cs fun i hi=>h i (by grind[V.refs])]
 | .tup cs,h=>by simp only[V.ren];rw[Sv ρ cs fun i hi=>h i (by grind[V.refs])]
 | .und,_=>rfl
 | .skp,_=>rfl
 | .bool _,_=>rfl
 | .int _ _,_=>rfl
 | .str _,_=>rfl
 | .nili,_=>rfl
 | .ifc,_=>rfl
 | .nils,_=>rfl
 | .nilp,_=>rfl
 | .nilf,_=>rfl
 | .lst _ _,_=>rfl
 | .imm _ _,_=>rfl
theorem Sv(ρ:Nat->Nat):∀ vs:List V,(∀ i∈Ag vs,ρ i=i)->Fh ρ vs=vs
 | [],_=>rfl
 | v::r,h=>by
  simp only[Fh];rw[Z7 ρ v fun i hi=>h i (by grind[Ag]),Sv ρ r fun i hi=>h i (by grind[Ag])]
end
def Apu(ρ:Nat->Nat)(ob:Ob)(h:∀ i∈ob.refs,ρ i=i):ob.ren ρ=ob:=by
 cases ob with
 | row cs e g z=>simp only[Ob.ren];rw[Sv ρ cs h]
 | map kvs=>
  simp only[Ob.ren];congr 1
  have:∀ l:List (List UInt8 × V),(∀ i∈Ag (l.map (·.2)),ρ i=i)->l.map (fun p=>(p.1,p.2.ren ρ))=l:=by
   intro l
   induction l with
   | nil=>grind
   | cons p l ih=>
    simp_all [Ag,Z7]
  exact this kvs h
 | dead=>rfl
theorem Ajm{n k i:Nat}(h:i<n+k):ren n (List.range' n k) i=i:=by
 unfold ren
 split
 .rfl
 .have h1:List.findIdx (·==i) (List.range' n k)=i - n:=by
   rw[List.findIdx_eq (by grind)];simp;constructor
   .omega
   .omega
  omega
def Ajn{σ σ':St}{m e lo bytes:Nat}{u u' y:V}{xs ys:List (List V)}(h:GW σ m e lo u xs)(hy:Eu σ m y=some ys)(ha:Dt bytes (m,e) u y σ=some (u',σ'))(hx:Ag xs.flatten=[])(hz:Ag ys.flatten=[])(hc:Cl σ):Cl σ':=by
 unfold Dt at ha;simp only[hy,C5]at ha;unfold Jz at ha
 split at ha
 .rcases h with⟨rfl,rfl⟩ | ⟨hn,i,g,rfl,ho,qb⟩
  .grind[Jh,Ob.refs]
  .simp only at ha
   split at ha
   .simp only[ho,if_true]at ha
    split at ha
    .grind
    .split at ha
     .split at ha
      .cases ha;refine F9 hc fun j hj=>?_
       simp only[Ob.refs,Lh,hz,Cc,Cu]at hj
       have qt:∀ (a:List V) (k:Nat),Ag a=[]->Ag (a.take k)=[]/\Ag (a.drop k)=[]:=by
        intro a k h0;have:=Lh (a.take k) (a.drop k);rw[Nn,h0]at this;exact List.append_eq_nil_iff.1 this.symm
       grind
      grind[F9,Ob.refs,Lh]
     grind
   grind
 grind
def Gr{σ:St}{m e lo:Nat}{u:V}{xs:List (List V)}(h:GW σ m e lo u xs):∀ i∈u.refs,i<σ.length:=by
 rcases h with⟨rfl,rfl⟩ | ⟨hn,i,g,rfl,ho,qb⟩
 .grind[V.refs]
 grind[V.refs]
def Ata{σ1:St}{v:V}{n:Nat}(hr:v.refs=[])(ho:Ci v=true)(hn:n<=σ1.length)(hc:Cl σ1):Hy n (List.range' n (σ1.length - n)) v σ1=true/\v=v.ren (ren n (List.range' n (σ1.length - n)))/\σ1=(σ1.take n++(List.range' n (σ1.length - n)).filterMap (σ1[·]?)).map (Ob.ren (ren n (List.range' n (σ1.length - n)))):=by
 refine⟨?_,?_,?_⟩
 .have hw:∀ is:List Nat,(∀ i∈is,i<σ1.length)->El n (List.range' n (σ1.length - n)) is=true:=by
   intro is ql;unfold El;rw[Bu];intro i hi;have:=ql i hi;simp;omega
  unfold Hy;simp only[Ai];refine⟨ho,hw _ (by grind),?_,?_,?_⟩
  .rw[Bu];intro o hm;refine hw _ fun i hi=>?_
   rcases Cu.1 hm with hm | hm
   .exact hc o (Np hm) i hi
   .obtain⟨j,_,hj⟩:=Ac8.1 hm;exact hc o (F7 hj) i hi
  .grind
  grind
 .grind[Z7]
 .have he:σ1.take n++(List.range' n (σ1.length - n)).filterMap (σ1[·]?)=σ1:=by
   have:(List.range' n (σ1.length - n)).filterMap (σ1[·]?)=σ1.drop n:=by
    apply Wx;intro i
    have qk:∀ (k n:Nat),n+k<=σ1.length->(List.range' n k).filterMap (σ1[·]?)=(σ1.drop n).take k:=by
     intro k
     induction k with
     | zero=>grind
     | succ k ih=>
      grind[List.range'_succ,List.drop_eq_getElem_cons]
    rw[qk _ _ AA,Ic AE]
   rw[this,Nn]
  rw[he]
  have:∀ l:List Ob,(∀ o∈l,o∈σ1)->l.map (Ob.ren (ren n (List.range' n (σ1.length - n))))=l:=by
   intro l
   induction l with
   | nil=>grind
   | cons o l ih=>
    intro hm;rw[Aw,ih fun o ho=>hm o (Cb _ ho),Apu _ o fun i hi=>Ajm (by have:=hc o (hm o B4) i hi;omega)]
  grind
def Af1{T:Nat->Option AF}{pr:Nat->Option (List V->Option V)}{f p:Nat}{res:List AR}{body:AC}{vs:List V}{v:V}{σ σ':St}(hT:T f=some ⟨p,res,true,body,none⟩)(hl:vs.length=p)
  (h:W T pr [.c body] (C4 0 vs) σ (Hd fun e' σ1=>Cd e' σ1 res=some v/\σ1=σ')) (hr:v.refs=[]) (ho:Ci v=true) (hn:σ.length<=σ'.length) (hc:Cl σ'):Th T pr f vs σ v σ':=by
 obtain⟨e',σ1,hE,qd,rfl⟩:=h;obtain⟨k1,k2,k3⟩:=Ata hr ho hn hc;exact A49 hT rfl rfl hl ⟨e',σ1,hE,v,_,qd,k1,k2,k3⟩
def Bdn{T:Nat->Option AF}{pr:Nat->Option (List V->Option V)}{f p:Nat}{res:List AR}{body:AC}{vs:List V}{v:V}{σ σ':St}(hT:T f=some ⟨p,res,true,body,none⟩)(hl:vs.length=p)
  (h:W T pr [.c body] (C4 0 vs) σ (Hd fun e' σ1=>∃ v0 js,Cd e' σ1 res=some v0/\Ci v0=true/\Ky σ1 js v0=some v/\σ'=σ1.freeze js)) (hr:v.refs=[]) (ho:Ci v=true) (hn:σ.length<=σ'.length) (hc:Cl σ'):Th T pr f vs σ v σ':=by
 obtain⟨e',σ1,hE,v0,js,qd,h0,h1,rfl⟩:=h;obtain⟨k1,k2,k3⟩:=Ata hr ho hn hc;exact A5b hT rfl rfl hl ⟨e',σ1,hE,v0,v,js,_,qd,h0,h1,k1,k2,k3⟩
def A3t{T:Nat->Option AF}{pr:Nat->Option (List V->Option V)}{σ:St}{f:Nat}{vs:List V}{v:V}{F:AF}{σ':St}(hT:T f=some F)(qm:F.spec=none)(hl:vs.length=F.pars)(h:W T pr [.c F.body] (C4 0 vs) σ fun e' σ1=>∃ v0 js,Cd e' σ1 F.res=some v0/\Hy σ.length js v0 σ1=true/\v=v0.ren (ren σ.length js)/\σ'=(σ1.take σ.length++js.filterMap (σ1[·]?)).map (Ob.ren (ren σ.length js))):Bw T pr f vs σ v σ':=by
 obtain⟨e',σ1,hE,v0,js,hr,qq,rfl,rfl⟩:=h;exact⟨F,hT,qm,.fnL hT qm hl hE hr qq⟩
def Vm{T:Nat->Option AF}{pr:Nat->Option (List V->Option V)}{f p:Nat}{res:List AR}{thr:Bool}{body:AC}{vs:List V}{v:V}{σ σ':St}(hT:T f=some ⟨p,res,thr,body,none⟩)(hl:vs.length=p)
  (h:W T pr [.c body] (C4 0 vs) σ (Hd fun e' σ1=>Cd e' σ1 res=some v/\σ1=σ')) (hr:∀ i∈v.refs,i<σ'.length) (ho:Ci v=true) (hn:σ.length<=σ'.length) (hc:Cl σ'):Bw T pr f vs σ v σ':=by
 obtain⟨e',σ1,hE,qd,rfl⟩:=h;refine A3t hT rfl hl ⟨e',σ1,hE,v,List.range' σ.length (σ1.length - σ.length),qd,?_,?_,?_⟩
 .have hw:∀ is:List Nat,(∀ i∈is,i<σ1.length)->El σ.length (List.range' σ.length (σ1.length - σ.length)) is=true:=by
   intro is ql;unfold El;rw[Bu];intro i hi;have:=ql i hi;simp;omega
  unfold Hy;simp only[Ai];refine⟨ho,hw _ hr,?_,?_,?_⟩
  .rw[Bu];intro o hm;refine hw _ fun i hi=>?_
   rcases Cu.1 hm with hm | hm
   .exact hc o (Np hm) i hi
   .obtain⟨j,_,hj⟩:=Ac8.1 hm;exact hc o (F7 hj) i hi
  .grind
  grind
 .grind[Z7,Ajm]
 .have he:σ1.take σ.length++(List.range' σ.length (σ1.length - σ.length)).filterMap (σ1[·]?)=σ1:=by
   have:(List.range' σ.length (σ1.length - σ.length)).filterMap (σ1[·]?)=σ1.drop σ.length:=by
    apply Wx;intro i
    have qk:∀ (k n:Nat),n+k<=σ1.length->(List.range' n k).filterMap (σ1[·]?)=(σ1.drop n).take k:=by
     intro k
     induction k with
     | zero=>grind
     | succ k ih=>
      grind[List.range'_succ,List.drop_eq_getElem_cons]
    rw[qk _ _ AA,Ic AE]
   rw[this,Nn]
  rw[he]
  have:∀ l:List Ob,(∀ o∈l,o∈σ1)->l.map (Ob.ren (ren σ.length (List.range' σ.length (σ1.length - σ.length))))=l:=by
   intro l
   induction l with
   | nil=>grind
   | cons o l ih=>
    intro hm;rw[Aw,ih fun o ho=>hm o (Cb _ ho),Apu _ o fun i hi=>Ajm (by have:=hc o (hm o B4) i hi;omega)]
  grind
def LZ{α:Type}:(∀ a b c:List α,a++b++c=a++(b++c))/\(∀ (a:α) (b c:List α),a::b++c=a::(b++c))/\(∀ a:List α,[]++a=a)/\(∀ a b:List α,(a++b).length=a.length+b.length)/\(∀ (a:α) (b:List α),(a::b).length=b.length+1)/\([]:List α).length=0/\∀ n:Nat,0+n=n:=⟨Bt,fun _ _ _=>rfl,fun _=>rfl,fun _ _=>Aq,fun _ _=>rfl,rfl,Gf⟩
