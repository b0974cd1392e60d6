/- THE PLAIN MACHINE, joined texts: Qa Qb Qc Qd Qe Qf Qg. -/
import Derived.Test.YtphikjgngompaaaGreatDoorA4
set_option linter.all false
/- Walking by rewriting: what comes of code, as equations. -/
namespace Go.Proofs.YtphikjgngompaaaGreatDoor.KM
open Go
variable {T:Nat->Option AF} {pr:Nat->Option (List V->Option V)}
def Bu{α:Sort _}{a b:α}(h:a=b):a=b:=h
/-! slots -/
def get_put:∀ (e:Env) (n m:Nat) (v:V),(Env.put e n v).get m=if n=m then v else Env.get e m
 | [],n,m,v=>by grind[Env.put,Env.get]
 | (i,u)::r,n,m,v=>by
  simp only[Env.put]
  split
  .grind[Env.get]
  .rename_i h;simp only[Env.get,get_put r n m v]
   grind
def A47(e:Env)(n:Nat)(v:V):e.putO (some n) v=e.put n v:=Bu rfl
def A48(e:Env)(v:V):e.putO none v=e:=Bu rfl
def Bmi(e:Env)(n:Nat):Ac e (.t n)=e.get n:=rfl
def Bmj(e:Env)(v:V):Ac e (.k v)=v:=rfl
def A8d(e:Env)(n m:Nat)(v:V):Env.get ((n,v)::e) m=if n=m then v else Env.get e m:=Bu rfl
/-! what an operation gives -/
inductive Rs where
 | val (v:V) (σ:St)
 | call (f:Nat) (args:List V)
 | fail
def r1(o:Option V)(σ:St):Rs:=
 match o with
 | some v=>.val v σ
 | none=>.fail
def r2(o:Option (V × St)):Rs:=
 match o with
 | some (v,σ)=>.val v σ
 | none=>.fail
def Bcv(v:V)(σ:St):r1 (some v) σ=.val v σ:=Bu rfl
def Bcw(σ:St):r1 none σ=.fail:=Bu rfl
def Bcx(v:V)(σ:St):r2 (some (v,σ))=.val v σ:=Bu rfl
def Bcy:r2 none=.fail:=Bu rfl
theorem Tj(o:Option V)(σ:St):r2 (o.map fun v=>(v,σ))=r1 o σ:=by cases o<;>rfl
def Bn(op:AO)(e:Env)(σ:St):Rs:=
 match Co e op with
 | some (f,args)=>.call f args
 | none=>r2 (Ad op e σ)
def Ane(c a b:V):Option V:=
 match c with
 | .bool z=>some (if z=true then a else b)
 | _=>none
def A07(t:Nat)(x:V)(σ:St):Option (V × St):=if x.cells.all V.cellB=true then some (.ptr σ.length 0 0,σ++[.row x.cells t 0 0]) else none
def mkV(t bytes:Nat)(z:List V)(x y:V)(σ:St):Option (V × St):=
 match x,y with
 | .int .i64 n,.int .i64 c=>if 0<=n/\n<=c/\c.toNat*bytes<=140737488355328 then some (.sl σ.length 0 0 n.toNat z.length true,σ++[.row (List.replicate n.toNat z).flatten t 0 0]) else none
 | _,_=>none
def Qn(m n:Nat)(σ:St)(cs:List V):Option (V × St):=(cs.mapM (Fc σ (Fq σ 9 (Ag cs).eraseDups) 9)).map fun cs'=>(.lst 1 (Fe m n cs'),σ.freeze (Fq σ 9 (Ag cs).eraseDups))
def Ahs(n:Nat)(x v:V)(σ:St):Option (V × St):=(Ri σ n x v).map fun σ'=>(.und,σ')
def Aoj(x:V):Option V:=
 match x with
 | .imm r o=>some (.imm r o)
 | .ptr b g o=>some (.ptr b g o)
 | _=>none
def Aok(k:EqK)(qi:Bool)(x y:V):Option V:=(Of k x y).map fun z=>.bool (z != qi)
def Aol(k:IntKind)(x:V):Option V:=
 match x with
 | .int _ n=>some (.int k (k.wrap n))
 | _=>none
def Anf(len m:Nat)(x:V)(lo hi:Option V):Option V:=
 match x with
 | .ptr i g off=>(Dz lo 0).bind fun a=>(Dz hi len).bind fun b=>if a<=b/\b<=len then some (.sl i g (off+a*m) (b - a) m false) else none
 | _=>none
def Aht(off:Nat)(x:V):Option V:=
 match x with
 | .imm r o=>some (.imm r (o+off))
 | .ptr b g o=>some (.ptr b g (o+off))
 | _=>none
def Aom(off n:Nat)(one:Bool)(x:V):Option V:=
 match x with
 | .agg cs=>if off+n<=cs.length then Hr one ((cs.drop off).take n) else none
 | _=>none
def Lu(m:Nat)(x i:V):Option V:=
 match x with
 | .lst _ xs=>(Jy xs i).bind fun r=>if r.length=m then some (.imm r 0) else none
 | .sl j g off len m' _=>match i with
  | .int _ n=>if 0<=n/\n<len/\m=m' then some (.ptr j g (off+n.toNat*m)) else none
  | _=>none
 | _=>none
def Aon(len m:Nat)(x i:V):Option V:=
 match i with
 | .int _ n=>if 0<=n/\n<len then(match x with
  | .imm r o=>some (.imm r (o+n.toNat*m))
  | .ptr b g o=>some (.ptr b g (o+n.toNat*m))
  | _=>none) else none
 | _=>none
def Aoo(x i:V):Option V:=
 match x with
 | .str l=>(Jy l i).map fun c=>.int .u8 (c.toNat:Int)
 | _=>none
def Aop(len m:Nat)(one:Bool)(x i:V):Option V:=
 match i with
 | .int _ n=>if 0<=n/\n<len then(match x with
  | .agg cs=>if n.toNat*m+m<=cs.length then Hr one ((cs.drop (n.toNat*m)).take m) else none
  | _=>none) else none
 | _=>none
def Aoq(i:Nat)(x:V):Option V:=
 match x with
 | .tup vs=>vs[i]?
 | _=>none
def Ang(x:V):Option V:=
 match x with
 | .str l=>some (.int .i64 (l.length:Int))
 | _=>none
def Mt(x:V):Option V:=
 match x with
 | .nils=>some (.int .i64 0)
 | .lst _ xs=>some (.int .i64 (xs.length:Int))
 | .sl _ _ _ len _ _=>some (.int .i64 (len:Int))
 | _=>none
def Dv(bytes:Nat)(m:Nat × Nat)(x y:V)(σ:St):Option (V × St):=(Ew σ m.1 y).bind fun ys=>Js bytes m σ x ys
def Az7(ty:Nat)(x y:V)(σ:St):Option (V × St):=
 match y with
 | .str l=>Js 1 (1,ty) σ x (B6 l)
 | _=>none
def mxV(x y:V):Option V:=
 match x,y with
 | .int k a,.int k' b=>if k=k' then some (.int k (max a b)) else none
 | _,_=>none
def mnV(x y:V):Option V:=
 match x,y with
 | .int k a,.int k' b=>if k=k' then some (.int k (min a b)) else none
 | _,_=>none
def Aor(z x k:V)(σ:St):Option V:=
 match x,k with
 | .mp i,.str s=>match σ[i]? with
  | some (.map kvs)=>some (match H2 s kvs 0 with
   | some (_,v)=>v
   | none=>z)
  | _=>none
 | _,_=>none
def A08(x k v:V)(σ:St):Option (V × St):=
 match x,k with
 | .mp i,.str s=>match σ[i]? with
  | some (.map kvs)=>if v.flatB=true then some (.und,σ.set i (.map (match H2 s kvs 0 with
   | some (j,_)=>kvs.set j (s,v)
   | none=>kvs++[(s,v)]))) else none
  | _=>none
 | _,_=>none
section
variable {e:Env} {σ:St}
def Bmk(x:S):Bn (.mov x) e σ=.val (Ac e x) σ:=Bu rfl
def Bht(c a b:S):Bn (.pick c a b) e σ=r1 (Ane (Ac e c) (Ac e a) (Ac e b)) σ:=by
 simp only[Bn,Co,Ad,Ane];cases Ac e c<;>rfl
def Bml(t:Nat)(z:List V):Bn (.new t z) e σ=.val (.ptr σ.length 0 0) (σ++[.row z t 0 0]):=Bu rfl
def Bmm(t:Nat)(x:S):Bn (.box t x) e σ=r2 (A07 t (Ac e x) σ):=Bu rfl
def Bcz(z:List V)(ps:List (Nat × Nat × S)):Bn (.build z ps) e σ=r1 ((Iy z (ps.map fun p=>(p.1,p.2.1,Ac e p.2.2))).map fun cs=>.agg cs) σ:=by
 simp only[Bn,Co,Ad];cases Iy z (ps.map fun p=>(p.1,p.2.1,Ac e p.2.2))<;>rfl
def Bhu(n:Nat)(z:List V)(ps:List (Nat × S)):Bn (.rows n z ps) e σ=r1 ((Iy (List.replicate n z).flatten (ps.map fun p=>(p.1*z.length,z.length,Ac e p.2))).bind fun cs=>if cs.all V.rowB=true then some (.lst 1 (Fe z.length n cs)) else none) σ:=by
 simp only[Bn,Co,Ad]
 cases Iy (List.replicate n z).flatten (ps.map fun p=>(p.1*z.length,z.length,Ac e p.2)) with
 | none=>rfl
 | some cs=>simp only[C8];split<;>rfl
def Bhv(n:Nat)(z:List V)(ps:List (Nat × S)):Bn (.rowf n z ps) e σ=r2 ((Iy (List.replicate n z).flatten (ps.map fun p=>(p.1*z.length,z.length,Ac e p.2))).bind fun cs=>Qn z.length n σ cs):=Bu rfl
def Bhw(t n:Nat)(z:List V)(ps:List (Nat × S)):Bn (.rowo t n z ps) e σ=r2 ((Iy (List.replicate n z).flatten (ps.map fun p=>(p.1*z.length,z.length,Ac e p.2))).map fun cs=>(.sl σ.length 0 0 n z.length true,σ++[.row cs t 0 0])):=Bu rfl
def Bqt(t bytes:Nat)(z:List V)(x y:S):Bn (.mk t bytes z x y) e σ=r2 (mkV t bytes z (Ac e x) (Ac e y) σ):=Bu rfl
def Bhx(n:Nat)(one:Bool)(x:S):Bn (.load n one x) e σ=r1 (Iz σ n one (Ac e x)) σ:=Tj _ _
def Bc0(n:Nat)(x v:S):Bn (.store n x v) e σ=r2 (Ahs n (Ac e x) (Ac e v) σ):=Bu rfl
def Bmn(x:S):Bn (.chk x) e σ=r1 (Aoj (Ac e x)) σ:=by
 simp only[Bn,Co,Ad,Aoj];cases Ac e x<;>rfl
def Bmo(o:BinOp)(x y:S):Bn (.bin o x y) e σ=r1 (Acj o (Ac e x) (Ac e y)) σ:=Tj _ _
def Bqu(k:EqK)(qi:Bool)(x y:S):Bn (.eq k qi x y) e σ=r1 (Aok k qi (Ac e x) (Ac e y)) σ:=by
 simp only[Bn,Co,Ad,Aok];cases Of k (Ac e x) (Ac e y)<;>rfl
def Bqv(o:UnOp)(x:S):Bn (.un o x) e σ=r1 (unV o (Ac e x)) σ:=Tj _ _
def Bmp(k:IntKind)(x:S):Bn (.cvi k x) e σ=r1 (Aol k (Ac e x)) σ:=by
 simp only[Bn,Co,Ad,Aol];cases Ac e x<;>rfl
def Bhy(x:S)(lo hi:Option S):Bn (.slcs x lo hi) e σ=r1 (Un (Ac e x) (lo.map (Ac e)) (hi.map (Ac e))) σ:=Tj _ _
def Bmq(m:Nat)(x:S)(lo hi mx:Option S):Bn (.slc m x lo hi mx) e σ=r1 (Hb m (Ac e x) (lo.map (Ac e)) (hi.map (Ac e)) (mx.map (Ac e))) σ:=Tj _ _
def Bhz(len m:Nat)(x:S)(lo hi:Option S):Bn (.slca len m x lo hi) e σ=r1 (Anf len m (Ac e x) (lo.map (Ac e)) (hi.map (Ac e))) σ:=by
 simp only[Bn,Co,Ad,Anf]
 cases Ac e x with
 | ptr i g off=>
  simp only
  cases Dz (lo.map (Ac e)) 0 with
  | none=>rfl
  | some a=>
   simp only[C8]
   cases Dz (hi.map (Ac e)) len with
   | none=>rfl
   | some b=>simp only[C8];split<;>rfl
 | _=>rfl
def Bmr(off:Nat)(x:S):Bn (.fad off x) e σ=r1 (Aht off (Ac e x)) σ:=by
 simp only[Bn,Co,Ad,Aht];cases Ac e x<;>rfl
def Bms(off n:Nat)(one:Bool)(x:S):Bn (.fld off n one x) e σ=r1 (Aom off n one (Ac e x)) σ:=by
 simp only[Bn,Co,Ad,Aom]
 cases Ac e x with
 | agg cs=>simp only;split;· grind[Tj]
           .rfl
 | _=>rfl
def Bmt(m:Nat)(x i:S):Bn (.iad m x i) e σ=r1 (Lu m (Ac e x) (Ac e i)) σ:=by
 simp only[Bn,Co,Ad,Lu]
 cases Ac e x with
 | lst t xs=>
  simp only
  cases Jy xs (Ac e i) with
  | none=>rfl
  | some r=>simp only[C8];split<;>rfl
 | sl j g off len m' w=>
  simp only
  cases Ac e i with
  | int k n=>simp only;split<;>rfl
  | _=>rfl
 | _=>rfl
def Bmu(len m:Nat)(x i:S):Bn (.iar len m x i) e σ=r1 (Aon len m (Ac e x) (Ac e i)) σ:=by
 simp only[Bn,Co,Ad,Aon]
 cases Ac e i with
 | int k n=>simp only;split;· cases Ac e x<;>rfl
            .rfl
 | _=>rfl
def Bmv(x i:S):Bn (.idx x i) e σ=r1 (Aoo (Ac e x) (Ac e i)) σ:=by
 simp only[Bn,Co,Ad,Aoo]
 cases Ac e x with
 | str l=>simp only;cases Jy l (Ac e i)<;>rfl
 | _=>rfl
def Bmw(len m:Nat)(one:Bool)(x i:S):Bn (.ida len m one x i) e σ=r1 (Aop len m one (Ac e x) (Ac e i)) σ:=by
 simp only[Bn,Co,Ad,Aop]
 cases Ac e i with
 | int k n=>
  simp only
  split
  .cases Ac e x with
   | agg cs=>simp only;split;· grind[Tj]
             .rfl
   | _=>rfl
  .rfl
 | _=>rfl
def Bmx(i:Nat)(x:S):Bn (.ext i x) e σ=r1 (Aoq i (Ac e x)) σ:=by
 simp only[Bn,Co,Ad,Aoq]
 cases Ac e x with
 | tup vs=>grind[Tj]
 | _=>rfl
def Bh0(x:S):Bn (.lens x) e σ=r1 (Ang (Ac e x)) σ:=by
 simp only[Bn,Co,Ad,Ang];cases Ac e x<;>rfl
def Bmy(x:S):Bn (.len x) e σ=r1 (Mt (Ac e x)) σ:=by
 simp only[Bn,Co,Ad,Mt];cases Ac e x<;>rfl
def Bmz(bytes:Nat)(m:Nat × Nat)(x y:S):Bn (.app bytes m x y) e σ=r2 (Dv bytes m (Ac e x) (Ac e y) σ):=Bu rfl
def Bh1(ty:Nat)(x y:S):Bn (.apps ty x y) e σ=r2 (Az7 ty (Ac e x) (Ac e y) σ):=Bu rfl
def Bqw(x y:S):Bn (.mx x y) e σ=r1 (mxV (Ac e x) (Ac e y)) σ:=by
 simp only[Bn,Co,Ad,mxV]
 cases Ac e x with
 | int k a=>
  cases Ac e y with
  | int k' b=>simp only;split<;>rfl
  | _=>rfl
 | _=>rfl
def Bqx(x y:S):Bn (.mn x y) e σ=r1 (mnV (Ac e x) (Ac e y)) σ:=by
 simp only[Bn,Co,Ad,mnV]
 cases Ac e x with
 | int k a=>
  cases Ac e y with
  | int k' b=>simp only;split<;>rfl
  | _=>rfl
 | _=>rfl
def Bm0:Bn .mmk e σ=.val (.mp σ.length) (σ++[.map []]):=Bu rfl
def Bm1(z:V)(x k:S):Bn (.mlk z x k) e σ=r1 (Aor z (Ac e x) (Ac e k) σ) σ:=by
 simp only[Bn,Co,Ad,Aor]
 cases Ac e x with
 | mp i=>
  cases Ac e k with
  | str s=>
   simp only
   cases σ[i]? with
   | none=>rfl
   | some ob=>cases ob<;>rfl
  | _=>rfl
 | _=>rfl
def Bm2(x k v:S):Bn (.mup x k v) e σ=r2 (A08 (Ac e x) (Ac e k) (Ac e v) σ):=Bu rfl
def Bh2(f:Nat)(xs:List S):Bn (.call f xs) e σ=.call f (xs.map (Ac e)):=Bu rfl
def Aos(x:V)(ys:List V):Rs:=
 match x with
 | .fn f a c=>.call f (a++ys++c)
 | _=>.fail
def Bc1(x:S)(xs:List S):Bn (.callv x xs) e σ=Aos (Ac e x) (xs.map (Ac e)):=by
 simp only[Bn,Co,Aos];cases Ac e x<;>rfl
end
variable {T:Nat->Option AF} {pr:Nat->Option (List V->Option V)}
def o(d:Nat)(op:AO):AI:=⟨some d,op,none⟩
def on(op:AO):AI:=⟨none,op,none⟩
def og(d:Nat)(op:AO)(t:Nat)(w:Bool):AI:=⟨some d,op,some (t,w)⟩
def oh(op:AO)(t:Nat)(w:Bool):AI:=⟨none,op,some (t,w)⟩
inductive CallS (T:Nat->Option AF) (pr:Nat->Option (List V->Option V)) (f:Nat) (args:List V) (σ:St):V->St->Prop
 | prim {s:List V->Option V} {vs:List V} {v:V}:pr f=some s->Dn σ args=some vs->s vs=some v->CallS T pr f args σ v (after σ args v)
 | pure {vs:List V} {v:V}:Dn σ args=some vs->Fn T pr f vs v->CallS T pr f args σ v (after σ args v)
 | own {σ0:St} {vs:List V} {v:V}:Dn σ args=some vs->FnO T pr f vs v σ0->CallS T pr f args σ (v.ren (·+σ.length)) (own σ args σ0)
 | any {v:V} {σ1:St}:Bx T pr f args σ v σ1->CallS T pr f args σ v σ1
 | thr {v:V} {σ1:St}:Th T pr f args σ v σ1->CallS T pr f args σ v σ1
 | spec {F:AF} {s:List V->St->Option (V × St)} {v:V} {σ1:St}:T f=some F->F.thr=true->F.spec=some s->s args σ=some (v,σ1)->CallS T pr f args σ v σ1
def CallS.sg{i:AI}{f:Nat}{args:List V}{e:Env}{σ σ1:St}{v:V}(h:CallS T pr f args σ v σ1)(hw:Cw e i=some true)(hc:Co e i.op=some (f,args)):Sg T pr i e σ v σ1:=by
 cases h with
 | prim h1 h2 h3=>exact .prim hw hc h1 h2 h3
 | pure h1 h2=>exact .pure hw hc h1 h2
 | own hx h=>obtain⟨F,h1,h2,h3,h4⟩:=h;exact .own hw hc h1 h2 h3 hx h4
 | any h=>obtain⟨F,h1,h3,h4⟩:=h;exact .any hw hc h1 h3 h4
 | thr h=>obtain⟨F,h1,h2,h3,h4⟩:=h;exact .thr hw hc h1 h2 h3 h4
 | spec h1 h2 h3 h4=>exact .spec hw hc h1 h2 h3 h4
def WE(T:Nat->Option AF)(pr:Nat->Option (List V->Option V))(e:Env)(k:List It)(σ:St)(Q:Env->St->Prop):Prop:=W T pr k e σ Q
def WR(T:Nat->Option AF)(pr:Nat->Option (List V->Option V))(l:List AI)(kill:List Nat)(k:List It)(e:Env)(σ:St)(Q:Env->St->Prop):Prop:=WO T pr l e σ fun e1 σ1=>W T pr k (e1.del kill) σ1 Q
def WX(T:Nat->Option AF)(pr:Nat->Option (List V->Option V))(r:Rs)(d:Option Nat)(l:List AI)(kill:List Nat)(k:List It)(e:Env)(σ:St)(Q:Env->St->Prop):Prop:=
 match r with
 | .val v σ1=>WR T pr l kill k (e.putO d v) σ1 Q
 | .call f args=>∃ v σ1,CallS T pr f args σ v σ1/\WR T pr l kill k (e.putO d v) σ1 Q
 | .fail=>False
def WD(T:Nat->Option AF)(pr:Nat->Option (List V->Option V))(g:V)(w:Bool)(d:Option Nat)(op:AO)(l:List AI)(kill:List Nat)(k:List It)(e:Env)(σ:St)(Q:Env->St->Prop):Prop:=
 match g with
 | .bool b=>if b=w then WX T pr (Bn op e σ) d l kill k e σ Q else WR T pr l kill k (e.putO d .skp) σ Q
 | .skp=>WR T pr l kill k (e.putO d .skp) σ Q
 | _=>False
def WC(T:Nat->Option AF)(pr:Nat->Option (List V->Option V))(g:V)(kill:List Nat)(x y:AC)(k:List It)(e:Env)(σ:St)(Q:Env->St->Prop):Prop:=
 match g with
 | .bool true=>WE T pr (e.del kill) (.c x::k) σ Q
 | .bool false=>WE T pr (e.del kill) (.c y::k) σ Q
 | _=>False
def WJ(T:Nat->Option AF)(pr:Nat->Option (List V->Option V))(id:Nat):List It->Env->St->(Env->St->Prop)->Prop
 | [],_,_,_=>False
 | .b i::k,e,σ,Q=>if i=id then W T pr k e σ Q else WJ T pr id k e σ Q
 | .c _::k,e,σ,Q=>WJ T pr id k e σ Q
 | .l _ _::k,e,σ,Q=>WJ T pr id k e σ Q
def get_keep(e:Env)(n:Nat):∀ ks:List Nat,ks.elem n=true->(e.keep ks).get n=e.get n
 | [],h=>by cases h
 | m::ks,h=>by
  simp only[Env.keep,Env.get]
  split
  .grind
  .rename_i hm;refine get_keep e n ks ?_
   grind
def Ata(e:Env)(ks:List Nat):∀ js:List Nat,(∀ n,js.elem n=true->ks.elem n=true)->(e.keep ks).keep js=e.keep js
 | [],_=>rfl
 | m::js,h=>by
  simp only[Env.keep];rw[get_keep e m ks (h m AE),Ata e ks js fun n hn=>h n (by grind)]
theorem Arl(e:Env)(ks:List Nat):e.keep ks=(e.keep ks).keep ks:=(Ata e ks ks fun _ h=>h).symm
section
variable {Q:Env->St->Prop} {e:Env} {σ:St} {k:List It} {l:List AI} {kill:List Nat}
def Anh(a b:AC):W T pr (.c (.seq a b)::k) e σ Q=W T pr (.c a::.c b::k) e σ Q:=propext ⟨fun⟨e',σ',h,q⟩=>by cases h with | cSeq h=>exact⟨e',σ',h,q⟩,Bl4⟩
def Bh3:W T pr (.c .skip::k) e σ Q=W T pr k e σ Q:=propext ⟨fun⟨e',σ',h,q⟩=>by cases h with | cSkip h=>exact⟨e',σ',h,q⟩,Bha⟩
def Az8(id:Nat)(c:AC):W T pr (.c (.blk id c)::k) e σ Q=W T pr (.c c::.b id::k) e σ Q:=propext ⟨fun⟨e',σ',h,q⟩=>by cases h with | cBlk h=>exact⟨e',σ',h,q⟩,Bl5⟩
def Bm3(id:Nat):W T pr (.b id::k) e σ Q=W T pr k e σ Q:=propext ⟨fun⟨e',σ',h,q⟩=>by cases h with | cEnd h=>exact⟨e',σ',h,q⟩,Bl6⟩
def Bh4(keep:List Nat)(c:AC):W T pr (.c (.loop keep c)::k) e σ Q=WE T pr (e.keep keep) (.l keep c::k) σ Q:=by
 refine propext ⟨fun⟨e',σ',h,q⟩=>?_,fun h=>Bhb (Aq h ?_)⟩
 .cases h with
  | cLoop h=>exact Aq ⟨e',σ',h,q⟩ (Arl e keep).symm
 grind[Arl]
def Bc2(keep:List Nat)(c:AC):W T pr (.l keep c::k) e σ Q=WE T pr (e.keep keep) (.c c::.l keep c::k) σ Q:=propext ⟨fun⟨e',σ',h,q⟩=>by cases h with | cAgain h=>exact⟨e',σ',h,q⟩,Bcj⟩
def Bm4:W T pr (.c .ret::k) e σ Q=Q e σ:=propext ⟨fun⟨e',σ',h,q⟩=>by cases h with | cRet=>exact q,Bl7⟩
theorem Az9:W T pr [] e σ Q=Q e σ:=propext ⟨fun⟨e',σ',h,q⟩=>by cases h with | cNil=>exact q,Bl8⟩
def Bm5(ops:List AI):W T pr (.c (.reg kill ops)::k) e σ Q=WR T pr ops kill k e σ Q:=propext ⟨fun⟨e',σ',h,q⟩=>by cases h with | cReg h h2=>exact⟨_,_,h,e',σ',h2,q⟩,fun⟨_,_,h,e',σ',h2,q⟩=>⟨e',σ',.cReg h h2,q⟩⟩
def Bh5(c:S)(x y:AC):W T pr (.c (.cond c kill x y)::k) e σ Q=WC T pr (Ac e c) kill x y k e σ Q:=by
 refine propext ⟨fun⟨e',σ',h,q⟩=>?_,fun h=>?_⟩
 .cases h with
  | cCond hc h=>
   rw[hc];rename_i z;cases z
   .exact⟨e',σ',h,q⟩
   .exact⟨e',σ',h,q⟩
 .unfold WC at h
  split at h
  .rename_i hc;exact A8a hc h
  .rename_i hc;exact A8b hc h
  .exact h.elim
def Ab3(id:Nat):∀ k':List It,WJ T pr id k' e σ Q↔∃ k2,exitTo id k'=some k2/\W T pr k2 e σ Q
 | []=>by simp[WJ,exitTo]
 | .b i::k'=>by
  simp only[WJ,exitTo]
  split
  .simp
  .exact Ab3 id k'
 | .c _::k'=>by simp only[WJ,exitTo];exact Ab3 id k'
 | .l _ _::k'=>by simp only[WJ,exitTo];exact Ab3 id k'
def Bh6(id:Nat):W T pr (.c (.exit id)::k) e σ Q=WJ T pr id k e σ Q:=propext ⟨fun⟨e',σ',h,q⟩=>by cases h with | cExit hk h=>exact(Ab3 id k).2 ⟨_,hk,e',σ',h,q⟩,fun h=>let ⟨_,h1,h2⟩:=(Ab3 id k).1 h;Bhc h1 h2⟩
def Bqy(id i:Nat):WJ T pr id (.b i::k) e σ Q=if i=id then W T pr k e σ Q else WJ T pr id k e σ Q:=Bu rfl
def Bqz(id:Nat)(c:AC):WJ T pr id (.c c::k) e σ Q=WJ T pr id k e σ Q:=Bu rfl
def Bq0(id:Nat)(kp:List Nat)(c:AC):WJ T pr id (.l kp c::k) e σ Q=WJ T pr id k e σ Q:=Bu rfl
def we:WE T pr e k σ Q=W T pr k e σ Q:=Bu rfl
def Bh7:WR T pr [] kill k e σ Q=WE T pr (e.del kill) k σ Q:=propext ⟨fun⟨_,_,h,q⟩=>by cases h with | opsNil=>exact q,fun h=>⟨_,_,.opsNil,h⟩⟩
def Bh8(v:V)(σ1:St)(d:Option Nat):WX T pr (.val v σ1) d l kill k e σ Q=WR T pr l kill k (e.putO d v) σ1 Q:=Bu rfl
def Bc3(d:Option Nat):WX T pr .fail d l kill k e σ Q=False:=Bu rfl
def Ig{f:Nat}{args:List V}{d:Option Nat}{v:V}{σ1:St}(hc:CallS T pr f args σ v σ1)(h:WR T pr l kill k (e.putO d v) σ1 Q):WX T pr (.call f args) d l kill k e σ Q:=⟨v,σ1,hc,h⟩
def A24{op:AO}{r:V × St}(h:Ad op e σ=some r):Co e op=none:=by
 cases op with
 | call f xs=>cases h
 | callv x xs=>cases h
 | _=>rfl
theorem Ani{i:AI}(hw:Cw e i=some true):WR T pr (i::l) kill k e σ Q=WX T pr (Bn i.op e σ) i.dst l kill k e σ Q:=by
 refine propext ⟨fun⟨e',σ',h,q⟩=>?_,fun h=>?_⟩
 .cases h with
  | opsSkip hw' _=>rw[hw]at hw';cases hw'
  | opsVal _ hv h=>
   unfold Bn;rw[A24 hv,hv];exact⟨_,_,h,q⟩
  | opsPrim _ hc h1 h2 h3 h=>
   unfold Bn;rw[hc];exact⟨_,_,.prim h1 h2 h3,_,_,h,q⟩
  | opsPure _ hc h1 h2 h3 h4 h5 h6 h=>
   unfold Bn;rw[hc];exact⟨_,_,.pure h4 ⟨_,h1,h2,h3,_,_,h5,h6⟩,_,_,h,q⟩
  | opsOwn _ hc h1 h2 h3 hx h4 h=>
   unfold Bn;rw[hc];exact⟨_,_,.own hx ⟨_,h1,h2,h3,h4⟩,_,_,h,q⟩
  | opsAny _ hc h1 h3 h4 h=>
   unfold Bn;rw[hc];exact⟨_,_,.any ⟨_,h1,h3,h4⟩,_,_,h,q⟩
  | opsThr _ hc h1 h2 h3 h4 h=>
   unfold Bn;rw[hc];exact⟨_,_,.thr ⟨_,h1,h2,h3,h4⟩,_,_,h,q⟩
  | opsSpec _ hc h1 h2 h3 h4 h=>
   unfold Bn;rw[hc];exact⟨_,_,.spec h1 h2 h3 h4,_,_,h,q⟩
 .unfold Bn at h
  split at h
  .rename_i f args hc;obtain⟨v,σ1,hs,e',σ',h,q⟩:=h;exact⟨e',σ',(hs.sg hw hc).ev h,q⟩
  .cases hv:Ad i.op e σ with
   | none=>rw[hv]at h;exact h.elim
   | some p=>
    obtain⟨v,σ1⟩:=p;rw[hv]at h;obtain⟨e',σ',h,q⟩:=h;exact⟨e',σ',.opsVal hw hv h,q⟩
def Bq1(d:Nat)(op:AO):WR T pr (o d op::l) kill k e σ Q=WX T pr (Bn op e σ) (some d) l kill k e σ Q:=Ani (i:=o d op) rfl
def Bm6(op:AO):WR T pr (on op::l) kill k e σ Q=WX T pr (Bn op e σ) none l kill k e σ Q:=Ani (i:=on op) rfl
theorem Bc4{i:AI}(hw:Cw e i=some false):WR T pr (i::l) kill k e σ Q=WR T pr l kill k (e.putO i.dst .skp) σ Q:=by
 refine propext ⟨fun⟨e',σ',h,q⟩=>?_,fun⟨e',σ',h,q⟩=>⟨e',σ',.opsSkip hw h,q⟩⟩
 cases h with
 | opsSkip _ h=>exact⟨_,_,h,q⟩
 | opsVal hw'=>rw[hw]at hw';cases hw'
 | opsPrim hw'=>rw[hw]at hw';cases hw'
 | opsPure hw'=>rw[hw]at hw';cases hw'
 | opsOwn hw'=>rw[hw]at hw';cases hw'
 | opsAny hw'=>rw[hw]at hw';cases hw'
 | opsThr hw'=>rw[hw]at hw';cases hw'
 | opsSpec hw'=>rw[hw]at hw';cases hw'
def A09{i:AI}{t:Nat}{w:Bool}(hg:i.g=some (t,w)):WR T pr (i::l) kill k e σ Q=WD T pr (e.get t) w i.dst i.op l kill k e σ Q:=by
 unfold WD
 have hd:Cw e i=(match e.get t with
  | .bool b=>some (b==w)
  | .skp=>some false
  | _=>none):=by unfold Cw;rw[hg];rfl
 have no:Cw e i=none->WR T pr (i::l) kill k e σ Q=False:=by
  intro hn;refine propext ⟨?_,False.elim⟩;rintro⟨e',σ',h,q⟩
  cases h with
  | opsSkip hw'=>grind
  | opsVal hw'=>grind
  | opsPrim hw'=>grind
  | opsPure hw'=>grind
  | opsOwn hw'=>grind
  | opsAny hw'=>grind
  | opsThr hw'=>grind
  | opsSpec hw'=>grind
 grind[Ani,Bc4]
def Bm7(d:Nat)(op:AO)(t:Nat)(w:Bool):WR T pr (og d op t w::l) kill k e σ Q=WD T pr (e.get t) w (some d) op l kill k e σ Q:=A09 (i:=og d op t w) rfl
def Bm8(op:AO)(t:Nat)(w:Bool):WR T pr (oh op t w::l) kill k e σ Q=WD T pr (e.get t) w none op l kill k e σ Q:=A09 (i:=oh op t w) rfl
def Bh9(w:Bool)(d:Option Nat)(op:AO):WD T pr .skp w d op l kill k e σ Q=WR T pr l kill k (e.putO d .skp) σ Q:=Bu rfl
def Bc5(x y:AC):WC T pr (.bool true) kill x y k e σ Q=WE T pr (e.del kill) (.c x::k) σ Q:=Bu rfl
def A8e(x y:AC):WC T pr (.bool false) kill x y k e σ Q=WE T pr (e.del kill) (.c y::k) σ Q:=Bu rfl
def Lo{b:Bool}{x y:AC}(h1:b=true->WE T pr (e.del kill) (.c x::k) σ Q)(h2:b=false->WE T pr (e.del kill) (.c y::k) σ Q):WC T pr (.bool b) kill x y k e σ Q:=by
 cases b
 .exact h2 rfl
 .exact h1 rfl
end
/-! only the first part is looked at while it is reckoned -/
section
variable {Q:Env->St->Prop} {e e':Env} {σ σ':St} {k:List It} {l:List AI} {kill:List Nat}
@[congr] theorem Bs0 (h:e=e'):W T pr k e σ Q=W T pr k e' σ Q:=by rw[h]
@[congr] theorem Bsr (h:e=e'):WE T pr e k σ Q=WE T pr e' k σ Q:=by rw[h]
@[congr] theorem Bss (h:e=e'):WR T pr l kill k e σ Q=WR T pr l kill k e' σ Q:=by rw[h]
@[congr] theorem Bst {r r':Rs} {d:Option Nat} (h:r=r'):WX T pr r d l kill k e σ Q=WX T pr r' d l kill k e σ Q:=by rw[h]
@[congr] theorem Bsu {g g':V} {w:Bool} {d:Option Nat} {op:AO} (h:g=g'):WD T pr g w d op l kill k e σ Q=WD T pr g' w d op l kill k e σ Q:=by rw[h]
@[congr] theorem Bsv {g g':V} {x y:AC} (h:g=g'):WC T pr g kill x y k e σ Q=WC T pr g' kill x y k e σ Q:=by rw[h]
end
variable {T:Nat->Option AF} {pr:Nat->Option (List V->Option V)}
inductive Kd where
 | pu | rd | ef
def kd:AO->Kd
 | .new _ _ | .box _ _ | .store _ _ _ | .app _ _ _ _ | .apps _ _ _ | .rowf _ _ _ | .rowo _ _ _ _ | .mk _ _ _ _ _ | .mmk | .mup _ _ _ | .call _ _ | .callv _ _=>.ef
 | .load _ _ _ | .mlk _ _ _=>.rd
 | _=>.pu
def Bm9{op:AO}(h:kd op=.pu):Ga T pr op=0:=by
 cases op<;>simp[kd]at h<;>simp[Ga]
def Bna{op:AO}(h:kd op=.rd){e:Env}{σ σ1:St}{v:V}(hv:Ad op e σ=some (v,σ1)):σ1=σ:=by
 cases op with
 | load n one x=>
  simp only[Ad,Ck]at hv;obtain⟨_,_,h⟩:=hv;cases h;rfl
 | mlk z x k=>
  simp only[Ad]at hv
  split at hv
  .split at hv
   .cases hv;rfl
   .cases hv
  .cases hv
 | _=>simp[kd]at h
def CallP(T:Nat->Option AF)(pr:Nat->Option (List V->Option V))(f:Nat)(vs:List V)(v:V):Prop:=(∃ s,pr f=some s/\s vs=some v)\/Fn T pr f vs v
def CallP.sg{i:AI}{f:Nat}{args vs:List V}{e:Env}{σ:St}{v:V}(h:CallP T pr f vs v)(hw:Cw e i=some true)(hc:Co e i.op=some (f,args))(hx:Dn σ args=some vs):Sg T pr i e σ v (after σ args v):=by
 rcases h with⟨s,h1,h2⟩ | h
 .exact .prim hw hc h1 hx h2
 .exact .pure hw hc hx h
def Mw(qa:List (List Nat))(n m:Nat)(i:AI)(z:Kd)(v:V)(σ1:St)(e:Env)(σ:St)(fs:Fs)(ls:Ls)(K:Env->St->Fs->Ls->Prop):Prop:=
 match z with
 | .pu=>K (e.putO i.dst v) σ fs ls
 | .rd=>Y6 qa n m (fun s=>Ad i.op e s=some (v,s)) fs/\K (e.putO i.dst v) σ fs ((m,fun s=>Ad i.op e s=some (v,s))::ls)
 | .ef=>Qz qa n m fs/\Q0 qa n m σ σ1 ls/\K (e.putO i.dst v) σ1 ((m,σ,σ1)::fs) ls
def Ht(T:Nat->Option AF)(pr:Nat->Option (List V->Option V))(qa:List (List Nat))(n m:Nat)(i:AI)(r:Rs)(e:Env)(σ:St)(fs:Fs)(ls:Ls)(K:Env->St->Fs->Ls->Prop):Prop:=
 match r with
 | .val v σ1=>Mw qa n m i (kd i.op) v σ1 e σ fs ls K
 | .call f args=>(∃ v vs,Ag args=[]/\Dn σ args=some vs/\CallP T pr f vs v/\K (e.putO i.dst v) σ fs ls) \/
   (∃ v vs,Dn σ args=some vs/\CallP T pr f vs v/\v.flatV=true/\Y6 qa n m (fun s=>Dn s args=some vs) fs/\K (e.putO i.dst v) σ fs ((m,fun s=>Dn s args=some vs)::ls)) \/
   (∃ v σ1,CallS T pr f args σ v σ1/\Qz qa n m fs/\Q0 qa n m σ σ1 ls/\K (e.putO i.dst v) σ1 ((m,σ,σ1)::fs) ls)
 | .fail=>False
def K6(T:Nat->Option AF)(pr:Nat->Option (List V->Option V))(qa:List (List Nat))(n m:Nat)(i:AI)(g:Option V)(w:Bool)(e:Env)(σ:St)(fs:Fs)(ls:Ls)(K:Env->St->Fs->Ls->Prop):Prop:=
 match g with
 | none=>Ht T pr qa n m i (Bn i.op e σ) e σ fs ls K
 | some (.bool b)=>if b=w then Ht T pr qa n m i (Bn i.op e σ) e σ fs ls K else K (e.putO i.dst .skp) σ fs ls
 | some .skp=>K (e.putO i.dst .skp) σ fs ls
 | some _=>False
def wg(T:Nat->Option AF)(pr:Nat->Option (List V->Option V))(qa:List (List Nat))(n:Nat)(kill:List Nat)(k:List It)(Q:Env->St->Prop):Nat->List AI->Env->St->Fs->Ls->Prop
 | _,[],e,σ,_,_=>WE T pr (e.del kill) k σ Q
 | m,i::l,e,σ,fs,ls=>K6 T pr qa n m i (i.g.map fun p=>e.get p.1) ((i.g.map fun p=>p.2).getD true) e σ fs ls (wg T pr qa n kill k Q (m+1) l)
section
variable {Q:Env->St->Prop} {e:Env} {σ:St} {k:List It} {kill:List Nat} {qa:List (List Nat)} {n:Nat}
def Ayg{m:Nat}{i:AI}{l:List AI}{fs:Fs}{ls:Ls}{K:Env->St->Prop}{P:Env->St->Fs->Ls->Prop}(hP:∀ e σ fs ls,P e σ fs ls->WG T pr qa n (m+1) l e σ fs ls K)
  (hw:Cw e i=some true) (h:Ht T pr qa n m i (Bn i.op e σ) e σ fs ls P):WG T pr qa n m (i::l) e σ fs ls K:=by
 unfold Bn at h
 split at h
 .rename_i f args hc;rcases h with⟨v,vs,h1,h2,h3,h4⟩ | ⟨v,vs,h1,h2,h3,h4,h5⟩ | ⟨v,σ1,h1,h2,h3,h4⟩
  .refine Af6 (fun s=>?_) (hP _ _ _ _ h4);have:=h3.sg (σ:=s) hw hc ((Aeu h1 s).trans h2)
   grind[Xb]
  .obtain⟨e',σ',h,q⟩:=hP _ _ _ _ h5;refine⟨e',σ',.read (fun s=>Dn s args=some vs) h1 (fun s hs=>?_) (Alg h4) h,q⟩;have:=h2.sg (σ:=s) hw hc hs
   simp_all [after]
  .exact Ayf (h1.sg hw hc) h2 h3 (hP _ _ _ _ h4)
 .cases hv:Ad i.op e σ with
  | none=>rw[hv]at h;exact h.elim
  | some p=>
   obtain⟨v,σ1⟩:=p;rw[hv]at h;simp only[r2,Ht]at h;unfold Mw at h
   split at h
   .rename_i hk;obtain⟨rfl,qf⟩:=Ady (Bm9 (T:=T) (pr:=pr) hk) hv
    grind[Bhf]
   .rename_i hk;obtain rfl:=Bna hk hv
    grind[Bmb]
   grind[Bhg]
def V5:∀ (l:List AI) (m:Nat) (e:Env) (σ:St) (fs:Fs) (ls:Ls),wg T pr qa n kill k Q m l e σ fs ls->WG T pr qa n m l e σ fs ls fun e1 σ1=>W T pr k (e1.del kill) σ1 Q
 | [],m,e,σ,fs,ls,h=>Bhe h
 | i::l,m,e,σ,fs,ls,h=>by
  unfold wg at h;unfold K6 at h
  split at h
  .rename_i hg;refine Ayg (fun e σ fs ls=>V5 l (m+1) e σ fs ls) ?_ h
   grind[Cw]
  .rename_i b hg;obtain⟨p,hp,hb⟩:=Ck.1 hg
   split at h
   .rename_i qn;refine Ayg (fun e σ fs ls=>V5 l (m+1) e σ fs ls) ?_ h
    grind[Cw]
   .rename_i qn;refine Af6 (fun s=>.off ?_) (V5 l (m+1) _ _ _ _ h)
    grind[Cw]
  .rename_i hg;obtain⟨p,hp,hb⟩:=Ck.1 hg;refine Af6 (fun s=>.off ?_) (V5 l (m+1) _ _ _ _ h)
   grind[Cw]
  grind
def Af{ops:List AI}(qs:Pf qa ops=true)(h:wg T pr qa ops.length kill k Q 0 ops e σ [] []):W T pr (.c (.drw kill qa ops)::k) e σ Q:=
 Bhd qs fun _ hK=>by
  obtain⟨e',σ',h,q⟩:=V5 _ _ _ _ _ _ h;exact⟨e',σ',h,hK _ _ q⟩
variable {m:Nat} {l:List AI} {fs:Fs} {ls:Ls} {K:Env->St->Fs->Ls->Prop}
def Bia:wg T pr qa n kill k Q m [] e σ fs ls=WE T pr (e.del kill) k σ Q:=Bu rfl
def Bq2(d:Nat)(op:AO):wg T pr qa n kill k Q m (o d op::l) e σ fs ls=Ht T pr qa n m (o d op) (Bn op e σ) e σ fs ls (wg T pr qa n kill k Q (m+1) l):=Bu rfl
def Bnb(op:AO):wg T pr qa n kill k Q m (on op::l) e σ fs ls=Ht T pr qa n m (on op) (Bn op e σ) e σ fs ls (wg T pr qa n kill k Q (m+1) l):=Bu rfl
def Bnc(d:Nat)(op:AO)(t:Nat)(w:Bool):wg T pr qa n kill k Q m (og d op t w::l) e σ fs ls=K6 T pr qa n m (og d op t w) (some (e.get t)) w e σ fs ls (wg T pr qa n kill k Q (m+1) l):=Bu rfl
def Bnd(op:AO)(t:Nat)(w:Bool):wg T pr qa n kill k Q m (oh op t w::l) e σ fs ls=K6 T pr qa n m (oh op t w) (some (e.get t)) w e σ fs ls (wg T pr qa n kill k Q (m+1) l):=Bu rfl
def Bne(d:Nat)(op:AO)(v:V)(σ1:St):Ht T pr qa n m (o d op) (.val v σ1) e σ fs ls K=Mw qa n m (o d op) (kd op) v σ1 e σ fs ls K:=Bu rfl
def Bib(op:AO)(v:V)(σ1:St):Ht T pr qa n m (on op) (.val v σ1) e σ fs ls K=Mw qa n m (on op) (kd op) v σ1 e σ fs ls K:=Bu rfl
def Bic(d:Nat)(op:AO)(t:Nat)(w:Bool)(v:V)(σ1:St):Ht T pr qa n m (og d op t w) (.val v σ1) e σ fs ls K=Mw qa n m (og d op t w) (kd op) v σ1 e σ fs ls K:=Bu rfl
def Bid(op:AO)(t:Nat)(w:Bool)(v:V)(σ1:St):Ht T pr qa n m (oh op t w) (.val v σ1) e σ fs ls K=Mw qa n m (oh op t w) (kd op) v σ1 e σ fs ls K:=Bu rfl
def Bie(d:Nat)(op:AO)(t:Nat):K6 T pr qa n m (og d op t true) (some (.bool true)) true e σ fs ls K=Ht T pr qa n m (og d op t true) (Bn op e σ) e σ fs ls K:=Bu rfl
def Bif(d:Nat)(op:AO)(t:Nat):K6 T pr qa n m (og d op t false) (some (.bool false)) false e σ fs ls K=Ht T pr qa n m (og d op t false) (Bn op e σ) e σ fs ls K:=Bu rfl
def Big(d:Nat)(op:AO)(t:Nat):K6 T pr qa n m (og d op t false) (some (.bool true)) false e σ fs ls K=K (e.put d .skp) σ fs ls:=Bu rfl
def Bih(d:Nat)(op:AO)(t:Nat):K6 T pr qa n m (og d op t true) (some (.bool false)) true e σ fs ls K=K (e.put d .skp) σ fs ls:=Bu rfl
def Bnf(d:Nat)(op:AO)(t:Nat)(w:Bool):K6 T pr qa n m (og d op t w) (some .skp) w e σ fs ls K=K (e.put d .skp) σ fs ls:=Bu rfl
def Bii(op:AO)(t:Nat):K6 T pr qa n m (oh op t true) (some (.bool true)) true e σ fs ls K=Ht T pr qa n m (oh op t true) (Bn op e σ) e σ fs ls K:=Bu rfl
def Bij(op:AO)(t:Nat):K6 T pr qa n m (oh op t false) (some (.bool false)) false e σ fs ls K=Ht T pr qa n m (oh op t false) (Bn op e σ) e σ fs ls K:=Bu rfl
def Bik(op:AO)(t:Nat):K6 T pr qa n m (oh op t false) (some (.bool true)) false e σ fs ls K=K e σ fs ls:=Bu rfl
def Bil(op:AO)(t:Nat):K6 T pr qa n m (oh op t true) (some (.bool false)) true e σ fs ls K=K e σ fs ls:=Bu rfl
def Bng(op:AO)(t:Nat)(w:Bool):K6 T pr qa n m (oh op t w) (some .skp) w e σ fs ls K=K e σ fs ls:=Bu rfl
def Bim{i:AI}(v:V)(σ1:St):Mw qa n m i .pu v σ1 e σ fs ls K=K (e.putO i.dst v) σ fs ls:=Bu rfl
def Bin{i:AI}(v:V)(σ1:St):Mw qa n m i .rd v σ1 e σ [] ls K=K (e.putO i.dst v) σ [] ((m,fun s=>Ad i.op e s=some (v,s))::ls):=propext ⟨fun h=>h.2,fun h=>⟨trivial,h⟩⟩
def Bio{i:AI}(v:V)(σ1:St):Mw qa n m i .ef v σ1 e σ [] [] K=K (e.putO i.dst v) σ1 [(m,σ,σ1)] []:=propext ⟨fun h=>h.2.2,fun h=>⟨trivial,trivial,h⟩⟩
def Re{i:AI}{v:V}{σ1:St}(h1:Qz qa n m fs)(h2:Q0 qa n m σ σ1 ls)(h:K (e.putO i.dst v) σ1 ((m,σ,σ1)::fs) ls):Mw qa n m i .ef v σ1 e σ fs ls K:=⟨h1,h2,h⟩
end
/-! settled values go over as they are -/
def Dc:V->Bool
 | .agg cs=>cs.all V.rowB
 | .imm _ _=>true
 | v=>v.rowB
theorem Q8{v:V}(h:v.rowB=true):v.refs=[]:=by cases v<;>simp[V.rowB]at h<;>rfl
theorem Fr:∀ {cs:List V},cs.all V.rowB=true->Ag cs=[]
 | [],_=>rfl
 | c::cs,h=>by
  simp only[B5,Ai]at h;simp only[Ag,Q8 h.1,Fr h.2,B3]
def Xc{v:V}(h:Dc v=true):v.refs=[]:=by
 unfold Dc at h
 split at h
 .exact Fr h
 .rfl
 grind[Q8]
def Vc:∀ {vs:List V},vs.all Dc=true->Ag vs=[]
 | [],_=>rfl
 | c::cs,h=>by
  simp only[B5,Ai]at h;simp only[Ag,Xc h.1,Vc h.2,B3]
theorem U8{σ:St}{js:List Nat}{d:Nat}{v:V}(h:v.rowB=true):Fc σ js (d+1) v=some v:=by
 simp_all [Fc]
theorem Vm{f:V->Option V}:∀ {cs:List V},(∀ c∈cs,f c=some c)->cs.mapM f=some cs
 | [],_=>rfl
 | c::cs,h=>by
  rw[Lc,h c B7,Vm fun c hc=>h c (Ci _ hc)];rfl
theorem Zw{σ:St}{js:List Nat}{v:V}(h:Dc v=true):Gl σ js v=some v:=by
 unfold Dc at h
 split at h
 .grind[Gl,Vm,U8]
 .rfl
 .rename_i h1 h2;unfold Gl
  split
  .grind
  .grind
  grind[U8]
def Xi{σ:St}{vs:List V}(h:vs.all Dc=true):Dn σ vs=some vs:=Vm fun c hc=>Zw (Bw.1 h c hc)
section
variable {Q:Env->St->Prop} {e:Env} {σ:St} {k:List It} {l:List AI} {kill:List Nat} {f:Nat} {vs:List V} {v:V} {d:Option Nat}
def Ab(hf:Fn T pr f vs v)(hs:vs.all Dc=true)(h:WR T pr l kill k (e.putO d v) σ Q):WX T pr (.call f vs) d l kill k e σ Q:=
 Ig (.pure (Xi hs) hf) (by rw[Xb (Vc hs)];exact h)
def Fl{s:List V->Option V}(hp:pr f=some s)(hs:vs.all Dc=true)(hv:s vs=some v)(h:WR T pr l kill k (e.putO d v) σ Q):WX T pr (.call f vs) d l kill k e σ Q:=
 Ig (.prim hp (Xi hs) hv) (by rw[Xb (Vc hs)];exact h)
def Cb{σ1:St}(hf:Th T pr f vs σ v σ1)(h:WR T pr l kill k (e.putO d v) σ1 Q):WX T pr (.call f vs) d l kill k e σ Q:=Ig (.thr hf) h
def Aa{σ1:St}(hf:Bx T pr f vs σ v σ1)(h:WR T pr l kill k (e.putO d v) σ1 Q):WX T pr (.call f vs) d l kill k e σ Q:=Ig (.any hf) h
variable {qa:List (List Nat)} {n m:Nat} {fs:Fs} {ls:Ls} {K:Env->St->Fs->Ls->Prop} {i:AI}
def Bg(hf:Fn T pr f vs v)(hs:vs.all Dc=true)(h:K (e.putO i.dst v) σ fs ls):Ht T pr qa n m i (.call f vs) e σ fs ls K:=.inl ⟨v,vs,Vc hs,Xi hs,.inr hf,h⟩
def Af7{s:List V->Option V}(hp:pr f=some s)(hs:vs.all Dc=true)(hv:s vs=some v)(h:K (e.putO i.dst v) σ fs ls):Ht T pr qa n m i (.call f vs) e σ fs ls K:=.inl ⟨v,vs,Vc hs,Xi hs,.inl ⟨s,hp,hv⟩,h⟩
def Abi{σ1:St}(hf:Th T pr f vs σ v σ1)(h1:Qz qa n m fs)(h2:Q0 qa n m σ σ1 ls)(h:K (e.putO i.dst v) σ1 ((m,σ,σ1)::fs) ls):Ht T pr qa n m i (.call f vs) e σ fs ls K:=.inr (.inr ⟨v,σ1,.thr hf,h1,h2,h⟩)
end
/-! ends -/
def FR(v0:V)(σ1:St)(v:V):Prop:=(Cg v0=true/\v0.refs=[]/\Eg [] v0=some v)\/∃ js,Hw 0 js v0 σ1=true/\Eg ((js.filterMap (σ1[·]?)).map (Ob.ren (ren 0 js))) (v0.ren (ren 0 js))=some v
def FL(o:Option V)(σ1:St)(v:V):Prop:=∃ v0,o=some v0/\FR v0 σ1 v
def FQ(res:List AR)(v:V)(e:Env)(σ:St):Prop:=FL (Cd e σ res) σ v
def Bj{f p:Nat}{res:List AR}{body:AC}{vs:List V}{v:V}(hT:T f=some ⟨p,res,false,body,none⟩)(hl:vs.length=p)(h:W T pr [.c body] (C6 0 vs) [] (FQ res v)):Fn T pr f vs v:=by
 obtain⟨e',σ',hE,v0,hr,h1 | ⟨js,h1,h2⟩⟩:=h
 .exact As5 hT rfl rfl hl ⟨e',σ',hE,v0,hr,h1⟩
 .exact A44 hT rfl rfl hl ⟨e',σ',hE,v0,js,hr,h1,h2⟩
def Bq3(r:AR)(v:V)(e:Env)(σ:St):FQ [r] v e σ=FL (Gq e σ r) σ v:=Bu rfl
def Bq4(r s:AR)(v:V)(e:Env)(σ:St):FQ [r,s] v e σ=FL ((Gq e σ r).bind fun a=>(Gq e σ s).map fun b=>.tup [a,b]) σ v:=by
 simp only[FQ,Cd,Lc,Aiy]
 cases Gq e σ r with
 | none=>rfl
 | some a=>cases Gq e σ s<;>rfl
def Bq5(r s t:AR)(v:V)(e:Env)(σ:St):FQ [r,s,t] v e σ=FL ((Gq e σ r).bind fun a=>(Gq e σ s).bind fun b=>(Gq e σ t).map fun c=>.tup [a,b,c]) σ v:=by
 simp only[FQ,Cd,Lc,Aiy]
 cases Gq e σ r with
 | none=>rfl
 | some a=>
  cases Gq e σ s with
  | none=>rfl
  | some b=>cases Gq e σ t<;>rfl
def Bc6(v0 v:V)(σ:St):FL (some v0) σ v=FR v0 σ v:=propext ⟨fun⟨_,h,q⟩=>by cases h;exact q,fun h=>⟨_,rfl,h⟩⟩
theorem Aay{v:V}(h:Dc v=true):Hp v=true:=by
 unfold Dc at h
 split at h
 .rename_i cs;simp only[Hp];rw[Bw]at h ⊢;intro c hc;have:=h c hc
  cases c<;>simp[V.rowB]at this<;>rfl
 .rfl
 .cases v<;>simp[V.rowB]at h<;>rfl
def F7{v:V}{σ:St}(h:Dc v=true):FR v σ v:=by
 refine .inl ⟨?_,Xc h,?_⟩
 .cases v with
  | tup vs=>grind[Dc,V.rowB]
  | _=>exact Aay h
 .unfold Eg J4
  grind[Dc,V.rowB,Zw]
def Gr{vs:List V}{σ:St}(h:vs.all Dc=true):FR (.tup vs) σ (.tup vs):=by
 refine .inl ⟨?_,Vc h,?_⟩
 .grind[Cg,Aay]
 grind[Eg,J4,Vm,Zw]
def Ah{v v':V}{σ:St}(h:Dc v=true)(he:v=v'):FR v σ v':=he ▸ F7 h
def TQ(res:List AR)(σ:St)(v:V)(σ':St)(e:Env)(σ1:St):Prop:=Cd e σ1 res=some v/\Aog σ.length σ v σ1/\σ'=σ1.take σ.length
def Bnh{f p:Nat}{res:List AR}{body:AC}{vs:List V}{v:V}{σ σ':St}(hT:T f=some ⟨p,res,true,body,none⟩)(hl:vs.length=p)(h:W T pr [.c body] (C6 0 vs) σ (TQ res σ v σ')):Th T pr f vs σ v σ':=As4 hT rfl rfl hl h
def Bd{keep:List Nat}{c c':AC}{k:List It}{e:Env}{σ:St}{Q:Env->St->Prop}(hc:c=c')(h:WE T pr (e.keep keep) (.c c'::.l keep c::k) σ Q):W T pr (.l keep c::k) e σ Q:=by
 subst hc;rw[Bc2];exact h
section
variable {qa:List (List Nat)} {n m:Nat} {e:Env} {σ:St} {fs:Fs} {ls:Ls} {K:Env->St->Fs->Ls->Prop} {i:AI}
@[congr] theorem Bsm {r r':Rs} (h:r=r'):Ht T pr qa n m i r e σ fs ls K=Ht T pr qa n m i r' e σ fs ls K:=by rw[h]
@[congr] theorem Bsn {g g':Option V} {w:Bool} (h:g=g'):K6 T pr qa n m i g w e σ fs ls K=K6 T pr qa n m i g' w e σ fs ls K:=by rw[h]
@[congr] theorem Bso {z z':Kd} {v:V} {σ1:St} (h:z=z'):Mw qa n m i z v σ1 e σ fs ls K=Mw qa n m i z' v σ1 e σ fs ls K:=by rw[h]
end
variable {T:Nat->Option AF} {pr:Nat->Option (List V->Option V)}
def TR(v0:V)(σ:St)(v:V)(σ' σ1:St):Prop:=v0=v/\Aog σ.length σ v σ1/\σ'=σ1.take σ.length
def Bip(a b:Nat)(l:List Nat):List.elem a (b::l)=if a=b then true else List.elem a l:=by
 grind
def Biq(a:Nat):List.elem a []=false:=rfl
def Bni(m n:Nat)(u v:V)(r:Env):Env.put ((m,u)::r) n v=if m=n then(n,v)::r else(m,u)::Env.put r n v:=Bu rfl
def Bnj(n:Nat)(v:V):Env.put [] n v=[(n,v)]:=Bu rfl
def Bnk(m:Nat)(u:V)(r:Env)(ks:List Nat):Env.del ((m,u)::r) ks=if ks.elem m=true then Env.del r ks else(m,u)::Env.del r ks:=Bu rfl
def Bnl(ks:List Nat):Env.del [] ks=[]:=Bu rfl
def Bir(e:Env)(n:Nat)(ks:List Nat):e.keep (n::ks)=(n,e.get n)::e.keep ks:=Bu rfl
def Bis(e:Env):e.keep []=[]:=Bu rfl
def Bnm(n:Nat):Env.get [] n=.und:=rfl
section
variable {Q:Env->St->Prop} {e:Env} {σ:St} {k:List It} {l:List AI} {kill:List Nat}
def Bnn(d:Option Nat)(op:AO):WD T pr (.bool true) true d op l kill k e σ Q=WX T pr (Bn op e σ) d l kill k e σ Q:=Bu rfl
def Bno(d:Option Nat)(op:AO):WD T pr (.bool false) false d op l kill k e σ Q=WX T pr (Bn op e σ) d l kill k e σ Q:=Bu rfl
def Bnp(d:Option Nat)(op:AO):WD T pr (.bool true) false d op l kill k e σ Q=WR T pr l kill k (e.putO d .skp) σ Q:=Bu rfl
def Bnq(d:Option Nat)(op:AO):WD T pr (.bool false) true d op l kill k e σ Q=WR T pr l kill k (e.putO d .skp) σ Q:=Bu rfl
end
def Bnr(d:Nat)(op:AO):(o d op).dst=some d:=rfl
def Bit(op:AO):(on op).dst=none:=rfl
def Biu(d:Nat)(op:AO)(t:Nat)(w:Bool):(og d op t w).dst=some d:=rfl
def Biv(op:AO)(t:Nat)(w:Bool):(oh op t w).dst=none:=rfl
def L5(o:Option Ob)(g n:Nat)(one:Bool)(off:Nat):Option V:=
 match o with
 | some (.row cs _ g' _)=>if g=g'/\off+n<=cs.length then Hr one ((cs.drop off).take n) else none
 | _=>none
def Ab4(cs:List V)(e g' z g n:Nat)(one:Bool)(off:Nat):L5 (some (.row cs e g' z)) g n one off=if g=g'/\off+n<=cs.length then Hr one ((cs.drop off).take n) else none:=Bu rfl
def Biw(σ:St)(n:Nat)(one:Bool)(i g off:Nat):Iz σ n one (.ptr i g off)=L5 σ[i]? g n one off:=Bu rfl
def Bix(σ:St)(n:Nat)(one:Bool)(row:List V)(off:Nat):Iz σ n one (.imm row off)=if off+n<=row.length then Hr one ((row.drop off).take n) else none:=Bu rfl
def Ack(o:Option Ob)(σ:St)(n i g off:Nat)(v:V):Option (V × St):=
 match o with
 | some (.row cs e g' z)=>if g=g'/\z<=off/\v.cells.length=n/\v.cells.all V.cellB=true then(Ql cs off v.cells).map fun cs'=>(.und,σ.set i (.row cs' e g z)) else none
 | _=>none
def Biy(cs:List V)(e g' z:Nat)(σ:St)(n i g off:Nat)(v:V):Ack (some (.row cs e g' z)) σ n i g off v=if g=g'/\z<=off/\v.cells.length=n/\v.cells.all V.cellB=true then(Ql cs off v.cells).map fun cs'=>(.und,σ.set i (.row cs' e g z)) else none:=Bu rfl
def A0a(σ:St)(n i g off:Nat)(v:V):Ahs n (.ptr i g off) v σ=Ack σ[i]? σ n i g off v:=by
 grind[Ahs,Ri,Ack,Ql]
def Bns:Mt .nils=some (.int .i64 0):=rfl
def Bnt(t:Nat)(xs:List (List V)):Mt (.lst t xs)=some (.int .i64 (xs.length:Int)):=rfl
theorem Anj(i g off len m:Nat)(w:Bool):Mt (.sl i g off len m w)=some (.int .i64 (len:Int)):=rfl
def Bnu(m t:Nat)(xs:List (List V))(i:V):Lu m (.lst t xs) i=(Jy xs i).bind fun r=>if r.length=m then some (.imm r 0) else none:=Bu rfl
def Bnv(m j g off len m':Nat)(w:Bool)(k:IntKind)(n:Int):Lu m (.sl j g off len m' w) (.int k n)=if 0<=n/\n<len/\m=m' then some (.ptr j g (off+n.toNat*m)) else none:=Bu rfl
def Bnw(off:Nat)(r:List V)(o:Nat):Aht off (.imm r o)=some (.imm r (o+off)):=Bu rfl
def Bnx(off b g o:Nat):Aht off (.ptr b g o)=some (.ptr b g (o+off)):=Bu rfl
def Bny(off n:Nat)(one:Bool)(cs:List V):Aom off n one (.agg cs)=if off+n<=cs.length then Hr one ((cs.drop off).take n) else none:=Bu rfl
def Bc7(k:IntKind)(n:Int):V.cells (.int k n)=[.int k n]:=rfl
def Bc8(l:List UInt8):V.cells (.str l)=[.str l]:=rfl
def Bc9(b:Bool):V.cells (.bool b)=[.bool b]:=rfl
def Bda:V.cells .nils=[.nils]:=rfl
def Bdb(t:Nat)(xs:List (List V)):V.cells (.lst t xs)=[.lst t xs]:=rfl
def A8f(i g o l m:Nat)(w:Bool):V.cells (.sl i g o l m w)=[.sl i g o l m w]:=rfl
def Bdc(i g o:Nat):V.cells (.ptr i g o)=[.ptr i g o]:=rfl
def A8g:V.cells .nilp=[.nilp]:=rfl
def A49(r:List V)(o:Nat):V.cells (.imm r o)=[.imm r o]:=rfl
def A8h(f:Nat)(a c:List V):V.cells (.fn f a c)=[.fn f a c]:=rfl
def A8i(i:Nat):V.cells (.mp i)=[.mp i]:=rfl
def Bdd(cs:List V):V.cells (.agg cs)=cs:=rfl
def Biz(σ:St)(m:Nat):Ew σ m .nils=some []:=Bu rfl
def Bi0(σ:St)(m t:Nat)(xs:List (List V)):Ew σ m (.lst t xs)=some xs:=Bu rfl
def mk1(c:V):Hr true [c]=some c:=rfl
def mkA(cs:List V):Hr false cs=some (.agg cs):=rfl
def Alh(s l:St)(n:Nat):(s++l)[s.length+n]?=l[n]?:=by grind
def Oy(s l:St):(s++l)[s.length]?=l[0]?:=by grind
def Bde(s l:St)(n:Nat)(x:Ob):(s++l).set (s.length+n) x=s++l.set n x:=by grind
def A8j(s l:St)(x:Ob):(s++l).set s.length x=s++l.set 0 x:=by grind
def Afg{α:Type}(l:List α)(k:IntKind)(n:Nat):Jy l (.int k (n:Int))=l[n]?:=by
 simp[Jy]
theorem Cs{n:Int}(h : -9223372036854775808<=n/\n<=9223372036854775807):IntKind.i64.wrap n=n:=Go.IntWalk.i64_in _ h
def Bdf{n:Int}(h1 : -9223372036854775808<=n)(h2:n<=9223372036854775807):IntKind.i64.wrap n=n:=Cs ⟨h1,h2⟩
def Bq6(t:Nat)(v:V)(σ σ' σ1:St)(e:Env):TQ [.tmp t] σ v σ' e σ1=TR (e.get t) σ v σ' σ1:=Bu (propext ⟨fun⟨h1,h2⟩=>⟨Lb h1,h2⟩,fun⟨h1,h2⟩=>⟨congrArg some h1,h2⟩⟩)
def Afh{v:V}{σ:St}(J:St)(h:v.rowB=true):TR v σ v σ (σ++J):=by
 refine⟨rfl,⟨?_,?_,fun i ob hi ho=>.inl ?_⟩,by simp⟩
 .cases v<;>simp[V.rowB]at h<;>rfl
 .rw[Q8 h];rfl
 grind
def A1{i:Nat}(h:i<9223372036854775807):IntKind.i64.wrap ((i:Int)+1)=((i+1:Nat):Int):=by grind[Cs]
def Ay{i n:Nat}(h:i<n):decide ((i:Int)<(n:Int))=true:=by grind
def Bl{i n:Nat}(h:n<=i):decide ((i:Int)<(n:Int))=false:=by grind
def Bq7{i n:Nat}(h:n<=i):decide ((n:Int)<=(i:Int))=true:=by grind
def Bq8{i n:Nat}(h:i<n):decide ((n:Int)<=(i:Int))=false:=by grind
def Bq{α:Type}{l:List α}{i:Nat}(h:i<l.length):∃ x,l[i]?=some x/\l.drop i=x::l.drop (i+1)/\x∈l:=⟨l[i],Ca h,Hv h,Nl h⟩
def Bk{keep:List Nat}{c:AC}{k:List It}{Q:Env->St->Prop}{α:Type}(μ:α->Nat)(E:α->Env)(Z:α->St)(I:α->Prop)
  (h:∀ a,I a->(∀ b,μ b<μ a->I b->W T pr (.l keep c::k) (E b) (Z b) Q)->W T pr (.l keep c::k) (E a) (Z a) Q):∀ a,I a->W T pr (.l keep c::k) (E a) (Z a) Q:=by
 suffices ∀ n a,μ a=n->I a->W T pr (.l keep c::k) (E a) (Z a) Q from fun a=>this _ a rfl
 intro n
 induction n using Nat.strongRecOn with
 | _ n ih=>grind
def Bq9(cs:List V):Dc (.agg cs)=cs.all V.rowB:=rfl
def Bra(r:List V)(o:Nat):Dc (.imm r o)=true:=rfl
def A1a(k:IntKind)(n:Int):Dc (.int k n)=true:=rfl
def Brb(l:List UInt8):Dc (.str l)=true:=rfl
def Brc(b:Bool):Dc (.bool b)=true:=rfl
def Brd:Dc .nils=true:=rfl
def Bre:Dc .nili=true:=rfl
def Brf(t:Nat)(xs:List (List V)):Dc (.lst t xs)=true:=rfl
/-! settled slices -/
def SL(z:Bool)(t:Nat)(xs:List (List V)):V:=if z=true/\xs=[] then .nils else .lst t xs
theorem Hq(z:Bool)(t:Nat)(xs:List (List V)):(SL z t xs).rowB=true:=by unfold SL;split<;>rfl
def Td(z:Bool)(t:Nat)(xs:List (List V)):(SL z t xs).cellB=true:=by unfold SL;split<;>rfl
def Abj(z:Bool)(t:Nat)(xs:List (List V)):Dc (SL z t xs)=true:=by unfold SL;split<;>rfl
def Atb(z:Bool)(t:Nat)(xs:List (List V)):(SL z t xs).cells=[SL z t xs]:=by unfold SL;split<;>rfl
def Af8(z:Bool)(t:Nat)(xs:List (List V)):Mt (SL z t xs)=some (.int .i64 (xs.length:Int)):=by
 unfold SL
 split
 .rename_i h;rw[h.2];rfl
 .rfl
def Abk(z:Bool)(t:Nat)(xs:List (List V))(m:Nat)(i:V):Lu m (SL z t xs) i=(Jy xs i).bind fun r=>if r.length=m then some (.imm r 0) else none:=by
 unfold SL
 split
 .rename_i h;rw[h.2]
  cases i<;>simp[Lu,Jy]
 .rfl
def Aaz(z:Bool)(t:Nat)(xs:List (List V))(σ:St)(m:Nat):Ew σ m (SL z t xs)=some xs:=by
 unfold SL
 split
 .rename_i h;rw[h.2];rfl
 .rfl
attribute [go_sem] Nat.reduceEqDiff reduceIte Nat.reduceAdd Nat.reduceMul Nat.reduceLeDiff Int.reduceLT Int.reduceLE Int.reduceToNat Int.reduceAdd Int.reduceNeg Int.reduceEq
attribute [go_sem ↓] Anh Bh3 Az8 Bm3 Bh4 Az9 Bm4 Bm5 Bh5 Bh6 Bqy Bqz Bq0 Bh7 Bq1 Bm6 Bm7 Bm8 Bia Bq2 Bnb Bnc Bnd Bmi Bmj get_put A8d A47 A48 Bq3 Bq4 Bq5 Bq6
attribute [go_sem ↓] Afg Bmk Bht Bml Bmm Bcz Bhu Bhv Bhw Bqt Bhx Bc0 Bmn Bmo Bqu Bqv Bmp Bhy Bmq Bhz Bmr Bms Bmt Bmu Bmv Bmw Bmx Bh0 Bmy Bmz Bh1 Bqw Bqx Bm0 Bm1 Bm2 Bh2 Bc1
attribute [go_sem] we Bh8 Bc3 Bh9 Bnn Bno Bnp Bnq Bc5 A8e Bcv Bcw Bcx Bcy Bne Bib Bic Bid Bie Bif Big Bih Bnf Bii Bij Bik Bil Bng Bim Bin Bio kd Bc6
attribute [go_sem] Bnm Bni Bnj Bnk Bnl Bir Bis Bip Biq C6 Gq
attribute [go_sem] Acj Aod Am unV Ane A07 mkV Aoj Aok Of eqB An9 Aoa Aob Aoc Aol Anf Un Dz Aon Aoo Aop Aoq Ang mxV mnV Aor A08 Aos mk1 mkA Ql Iy Fe Bq9 Bra A1a Brb Brc Brd Bre Brf Bhh Bhj Bcl Bcn Bcp Bhl Bhn Bmc Bcr Bct Bhp Bhr Bme Bmg Bhi Bhk Bcm Bco Bcq Bhm Bho Bmd Bcs Bcu Bhq Bhs Bmf Bmh decide_true decide_false gt_iff_lt ge_iff_le ne_eq not_false_eq_true not_true_eq_false Bnr Bit Biu Biv Ab4 Biw Bix Biy A0a Bns Bnt Anj Bnu Bnv Bnw Bnx Bny Bc7 Bc8 Bc9 Bda Bdb A8f Bdc A8g A49 A8h A8i Bdd Biz Bi0
attribute [go_sem] Alh Oy Bde A8j Jy Bdf Hq Td Abj Atb Af8 Abk Aaz
attribute [go_sem] Jc Option.map_none C8 Option.bind_none Az Bz B5 Dd Adp W4 Bool.and_self and_self and_true true_and eq_self Ao Di Ar L9 List.drop_succ_cons Zp List.take_succ_cons Bt Be Br B3 Ww Q3 Adg List.set_cons_succ List.replicate Fg Zl Gd On Nat.zero_mul Nat.one_mul Zx Hh Bool.true_eq_false A0 A2 Bool.bne_false Bool.bne_true if_true if_false ite_true ite_false Nk C4
variable {T:Nat->Option AF} {pr:Nat->Option (List V->Option V)}
theorem Nr(σ:St):∀ (d:Nat) (js:List Nat) (i:Nat),i∈js->i∈Fq σ d js
 | 0,_,_,h=>h
 | d+1,js,i,h=>by
  simp only[Fq]
  split
  .exact h
  .exact Nr σ d _ i (Adb _ h)
def OC(σ:St)(v v':V):Prop:=∀ js:List Nat,(∀ i∈v.refs,i∈js)->∀ d,Fc σ js (d+2) v=some v'
def OV(σ:St)(v v':V):Prop:=∀ js:List Nat,(∀ i∈v.refs,i∈js)->Gl σ js v=some v'
inductive OVs (σ:St):List V->List V->Prop
 | nil:OVs σ [] []
 | cons {v v':V} {vs qc:List V}:OV σ v v'->OVs σ vs qc->OVs σ (v::vs) (v'::qc)
inductive OCs (σ:St):List V->List V->Prop
 | nil:OCs σ [] []
 | cons {v v':V} {vs qc:List V}:OC σ v v'->OCs σ vs qc->OCs σ (v::vs) (v'::qc)
def Vn{σ:St}{js:List Nat}:∀ {vs qc:List V},OVs σ vs qc->(∀ i∈Ag vs,i∈js)->vs.mapM (Gl σ js)=some qc
 | _,_,.nil,_=>rfl
 | _,_,.cons h hs,hj=>by
  simp only[Ag,Ct]at hj;rw[Lc,h js fun i hi=>hj i (.inl hi),Vn hs fun i hi=>hj i (.inr hi)];rfl
def Ali{σ:St}{js:List Nat}{d:Nat}:∀ {vs qc:List V},OCs σ vs qc->(∀ i∈Ag vs,i∈js)->vs.mapM (Fc σ js (d+2))=some qc
 | _,_,.nil,_=>rfl
 | _,_,.cons h hs,hj=>by
  simp only[Ag,Ct]at hj;rw[Lc,h js (fun i hi=>hj i (.inl hi)) d,Ali hs fun i hi=>hj i (.inr hi)];rfl
def Afi{σ:St}{vs qc:List V}(h:OVs σ vs qc):Dn σ vs=some qc:=Vn h fun i hi=>Nr σ 9 _ i (Ss.2 hi)
def Fj{σ:St}{v:V}(h:v.rowB=true):OC σ v v:=fun _ _ _=>U8 h
def Iv{σ:St}{v:V}(h:Dc v=true):OV σ v v:=fun _ _=>Zw h
def Tl{σ:St}{cs cs':List V}(h:OCs σ cs cs'):OV σ (.agg cs) (.agg cs'):=fun js hj=>by
 simp only[Gl];rw[Ali (d:=7) h hj];rfl
theorem Vo{σ:St}{v v':V}(h:OC σ v v')(hc:v.cellB=true):OV σ v v':=fun js hj=>by
 unfold Gl
 split
 .have:=h js hj 0
  grind[Fc]
 .grind[V.cellB]
 .exact h js hj 7
theorem Aee(m:Nat):∀ (xs:List (List V)) (tl:List V),(∀ r∈xs,r.length=m)->Fe m xs.length (xs.flatten++tl)=xs
 | [],_,_=>rfl
 | r::xs,tl,h=>by
  have hr:=h r B7;simp only[Ao,Fe,Fg,Br];rw[<-hr,Ado,List.drop_left];congr 1;rw[hr];exact Aee m xs tl fun r hr=>h r (Ci _ hr)
theorem U9{m:Nat}{xs:List (List V)}(h:∀ r∈xs,r.length=m):Fe m xs.length xs.flatten=xs:=by
 have:=Aee m xs [] h
 grind
theorem Ge{m:Nat}:∀ {xs:List (List V)},(∀ r∈xs,r.length=m)->xs.flatten.length=xs.length*m
 | [],_=>by simp
 | r::xs,h=>by
  rw[Fg,Ar,h r B7,Ge fun r hr=>h r (Ci _ hr),Ao,Gy,Ai1]
theorem Rt{σ:St}{i g m e z:Nat}{w:Bool}{xs:List (List V)}(ho:σ[i]?=some (.row xs.flatten e g z))(hm:0<m)(hl:∀ r∈xs,r.length=m)(hr:∀ r∈xs,r.all V.rowB=true):OC σ (.sl i g 0 xs.length m w) (.lst 0 xs):=by
 intro js hj d
 have hi:js.elem i=true:=by
  have:=hj i AS;simpa using this
 have hf:=Ge hl;unfold Fc;rw[if_neg AN];simp only[hi,if_true,ho];rw[if_pos ⟨trivial,hm,by omega⟩,L9,<-hf,Db,Vm fun c hc=>?_]
 .grind[U9]
 grind[U8]
section
variable {Q:Env->St->Prop} {e:Env} {σ:St} {k:List It} {l:List AI} {kill:List Nat} {f:Nat} {args vs:List V} {v:V} {d:Option Nat}
def A0b(hx:OVs σ args vs)(hf:Fn T pr f vs v)(qj:v.flatV=true)(h:WR T pr l kill k (e.putO d v) σ Q):WX T pr (.call f args) d l kill k e σ Q:=
 Ig (.pure (Afi hx) hf) (by unfold after;rw[if_pos qj];exact h)
variable {qa:List (List Nat)} {n m:Nat} {fs:Fs} {ls:Ls} {K:Env->St->Fs->Ls->Prop} {i:AI}
def Amd(hx:OVs σ args vs)(hf:Fn T pr f vs v)(qj:v.flatV=true)(h:K (e.putO i.dst v) σ [] ((m,fun s=>Dn s args=some vs)::ls)):Ht T pr qa n m i (.call f args) e σ [] ls K:=
 .inr (.inl ⟨v,vs,Afi hx,.inr hf,qj,trivial,h⟩)
end
/-! code that ends where it ends: the rest is apart -/
def AC.flat:AC->Bool
 | .skip | .reg _ _ | .drw _ _ _=>true
 | .seq a b=>a.flat&&b.flat
 | .cond _ _ x y=>x.flat&&y.flat
 | _=>false
def Hd(P:Env->St->Prop)(e:Env)(σ:St):Prop:=P e σ
@[congr] theorem Bsw {P:Env->St->Prop} {e e':Env} {σ:St} (h:e=e'):Hd P e σ=Hd P e' σ:=by rw[h]
/-! lists that grow: nil, or a slice of an object of their own that they fill -/
def GV(σ:St)(m e lo:Nat)(u:V)(xs:List (List V)):Prop:=(u=.nils/\xs=[])\/∃ i g,u=.sl i g 0 xs.length m true/\σ[i]?=some (.row xs.flatten e g 0)/\lo<=i
def Bi1{σ:St}{m e lo:Nat}:GV σ m e lo .nils []:=.inl ⟨rfl,rfl⟩
theorem Av8{σ:St}{m e lo:Nat}{u:V}{xs:List (List V)}(h:GV σ m e lo u xs):u.cellB=true:=by
 rcases h with⟨rfl,rfl⟩ | ⟨i,g,rfl,ho,qb⟩<;>rfl
def Bi2{σ:St}{m e lo:Nat}{u:V}{xs:List (List V)}(h:GV σ m e lo u xs):Mt u=some (.int .i64 (xs.length:Int)):=by
 rcases h with⟨rfl,rfl⟩ | ⟨i,g,rfl,ho,qb⟩<;>rfl
def Ame{σ:St}{m e lo bytes:Nat}{u y:V}{xs ys:List (List V)}(h:GV σ m e lo u xs)(qe:lo<=σ.length)(hy:Ew σ m y=some ys)(hm:0<m)(hl:∀ r∈xs,r.length=m)(qh:∀ r∈ys,r.length=m)(hb:(xs.length+ys.length)*bytes<=140737488355328):
  ∃ u' σ',Dv bytes (m,e) u y σ=some (u',σ')/\GV σ' m e lo u' (xs++ys)/\σ.length<=σ'.length/\(∀ j,(∀ i g,u=.sl i g 0 xs.length m true->j≠i)->j<σ.length->σ'[j]?=σ[j]?)/\∀ j,j<lo->σ'[j]?=σ[j]?:=by
 have qf:(ys.all fun r=>r.length==m)=true:=by
  rw[Bw];intro r hr;simp[qh r hr]
 unfold Dv;simp only[hy,C8];unfold Js;rw[if_pos ⟨qf,hm⟩];rcases h with⟨rfl,rfl⟩ | ⟨i,g,rfl,ho,qb⟩
 .simp only;rw[if_pos (by grind)]
  cases ys with
  | nil=>exact⟨.nils,σ,rfl,.inl ⟨rfl,rfl⟩,Ak _,fun _ _ _=>rfl,fun _ _=>rfl⟩
  | cons y ys=>exact⟨_,_,rfl,.inr ⟨σ.length,0,rfl,by simp,qe⟩,by simp,fun j _ hj=>Eb hj,fun j hj=>Eb AA⟩
 .simp only;rw[if_pos ⟨hb,trivial⟩];simp only[ho,if_true]
  cases ys with
  | nil=>exact⟨_,σ,rfl,.inr ⟨i,g,by simp,by grind,qb⟩,Ak _,fun _ _ _=>rfl,fun _ _=>rfl⟩
  | cons y ys=>
   have hf:=Ge hl;have qo:=Ge qh;have qp:(y::ys).flatten.length=(ys.length+1)*m:=by rw[qo];rfl
   rw[if_neg AE,if_pos AE,if_neg (by
    grind),if_pos hf]
   refine⟨_,_,rfl,.inr ⟨i,g+1,by grind,?_,qb⟩,by simp,fun j hj _=>?_,fun j hj=>by grind⟩
   .grind
   grind
def Nv{v:V}(h:v.cellB=true):v.cells=[v]:=by cases v<;>simp[V.cellB]at h<;>rfl
def Bs{s l:St}{j:Nat}{x:Ob}(h:s[j]?=some x):(s++l)[j]?=some x:=by
 grind
def Bdg{σ l:St}{m e lo:Nat}{u:V}{xs:List (List V)}(h:GV σ m e lo u xs):GV (σ++l) m e lo u xs:=by
 rcases h with h | ⟨i,g,h,ho,qb⟩
 .exact .inl h
 .exact .inr ⟨i,g,h,Bs ho,qb⟩
def Ie{xs:List (List V)}(hr:∀ r∈xs,r.all V.rowB=true):xs.flatten.all V.rowB=true:=by
 grind
def Pa(i:Nat):∀ cs:List V,cs.all V.rowB=true->Ff (ren 0 [i]) cs=cs
 | [],_=>rfl
 | c::cs,h=>by
  simp only[B5,Ai]at h;simp only[Ff];rw[Pa i cs h.2];congr 1
  cases c<;>simp[V.rowB]at h<;>rfl
def Amf(ρ:Nat->Nat):∀ a b:List V,Ff ρ (a++b)=Ff ρ a++Ff ρ b
 | [],_=>rfl
 | c::a,b=>by simp only[Bt,Ff,Amf ρ a b]
theorem Lf:∀ a b:List V,Ag (a++b)=Ag a++Ag b
 | [],_=>rfl
 | c::a,b=>by simp only[Bt,Ag,Lf a b,Br]
def Vv{cs:List V}(h:cs.all V.rowB=true):cs.all V.cellB=true:=by
 rw[Bw]at h ⊢;intro c hc;have:=h c hc
 cases c<;>simp[V.rowB]at this<;>rfl
def Av9{σ:St}{a a' b b':List V}(h1:OCs σ a a')(h2:OCs σ b b'):OCs σ (a++b) (a'++b'):=by
 induction h1 with
 | nil=>exact h2
 | cons h _ ih=>exact .cons h ih
def Aa0{σ:St}:∀ {cs:List V},cs.all V.rowB=true->OCs σ cs cs
 | [],_=>.nil
 | c::cs,h=>by
  simp only[B5,Ai]at h;exact .cons (Fj h.1) (Aa0 h.2)
def Ahc{σ:St}{m e i g:Nat}{xs:List (List V)}(ho:σ[i]?=some (.row xs.flatten e g 0))(hm:0<m)(hl:∀ r∈xs,r.length=m)(hr:∀ r∈xs,r.all V.rowB=true):FR (.sl i g 0 xs.length m true) σ (.lst 0 xs):=by
 obtain⟨hi,qr⟩:=Al.1 ho;have hx:Ag xs.flatten=[]:=Fr (Ie hr);have h0:ren 0 [i] i=0:=by simp[ren,Adi]
 refine .inr ⟨[i],?_,?_⟩
 .grind[Hw,Cg,Hp,V.cellB,V.refs,En,Ob.refs]
 .simp only[Nj,ho,Q5,Az,Bz,Ob.ren,Pa i _ (Ie hr),V.ren,h0];simp only[Eg,J4,Gl];exact Rt (σ:=[.row xs.flatten e g 0]) (i:=0) (g:=g) (e:=e) (z:=0) (w:=true) rfl hm hl hr (Fq [.row xs.flatten e g 0] 9 (V.refs (.sl 0 g 0 xs.length m true)).eraseDups) (fun j hj=>Nr _ _ _ _ (Ss.2 hj)) 7
def A5a{σ:St}{m e i g:Nat}{xs:List (List V)}{pre post:List V}(ho:σ[i]?=some (.row xs.flatten e g 0))(hm:0<m)(hl:∀ r∈xs,r.length=m)(hr:∀ r∈xs,r.all V.rowB=true)(h1:pre.all V.rowB=true)(h2:post.all V.rowB=true):FR (.agg (pre++.sl i g 0 xs.length m true::post)) σ (.agg (pre++.lst 0 xs::post)):=by
 obtain⟨hi,qr⟩:=Al.1 ho;have hx:Ag xs.flatten=[]:=Fr (Ie hr)
 have qg:Ag (pre++V.sl i g 0 xs.length m true::post)=[i]:=by
  rw[Lf,Fr h1];simp only[Ag,Fr h2,V.refs,Be,B3]
 have h0:ren 0 [i] i=0:=by simp[ren,Adi]
 refine .inr ⟨[i],?_,?_⟩
 .simp only[Hw,Cg,Hp,V.refs,qg,Aiu,B5,Vv h1,Vv h2,V.cellB]
  simp_all [En,Ob.refs]
 .simp only[Nj,ho,Q5,Az,Bz,Ob.ren,Pa i _ (Ie hr),V.ren,Amf,Pa i _ h1,Ff,Pa i _ h2,h0];exact Tl (σ:=[.row xs.flatten e g 0]) (Av9 (Aa0 h1) (.cons (Rt (σ:=[.row xs.flatten e g 0]) (i:=0) (g:=g) (e:=e) (z:=0) (w:=true) rfl hm hl hr) (Aa0 h2))) _ fun j hj=>Nr _ _ _ _ (Ss.2 hj)
def GW(σ:St)(m e lo:Nat)(u:V)(xs:List (List V)):Prop:=(u=.nils/\xs=[])\/(xs≠[]/\∃ i g,u=.sl i g 0 xs.length m true/\σ[i]?=some (.row xs.flatten e g 0)/\lo<=i)
theorem Ds{σ:St}{m e lo:Nat}:GW σ m e lo .nils []:=.inl ⟨rfl,rfl⟩
def Ank{σ:St}{m e lo:Nat}{u:V}{xs:List (List V)}(h:GW σ m e lo u xs):GV σ m e lo u xs:=h.imp id fun h=>h.2
theorem Ce{σ:St}{m e lo:Nat}{u:V}{xs:List (List V)}(h:GW σ m e lo u xs):u.cellB=true:=Av8 (Ank h)
theorem Hz{σ:St}{m e lo bytes:Nat}{u y:V}{xs ys:List (List V)}(h:GW σ m e lo u xs)(qe:lo<=σ.length)(hy:Ew σ m y=some ys)(hm:0<m)(hl:∀ r∈xs,r.length=m)(qh:∀ r∈ys,r.length=m)(hb:(xs.length+ys.length)*bytes<=140737488355328):
  ∃ u' σ',Dv bytes (m,e) u y σ=some (u',σ')/\GW σ' m e lo u' (xs++ys)/\σ.length<=σ'.length/\(∀ j,(∀ i g,u=.sl i g 0 xs.length m true->j≠i)->j<σ.length->σ'[j]?=σ[j]?)/\∀ j,j<lo->σ'[j]?=σ[j]?:=by
 obtain⟨u',σ',h1,h2,h3,h4,h5⟩:=Ame (Ank h) qe hy hm hl qh hb;refine⟨u',σ',h1,?_,h3,h4,h5⟩;by_cases he:xs++ys=[]
 .rw[List.append_eq_nil_iff]at he;obtain⟨rfl,rfl⟩:=he;rcases h with⟨rfl,_⟩ | ⟨hn,_⟩
  .grind[Dv,Js,Ds]
  grind
 .exact h2.imp id fun h=>⟨he,h⟩
theorem Gm{σ l:St}{m e lo:Nat}{u:V}{xs:List (List V)}(h:GW σ m e lo u xs):GW (σ++l) m e lo u xs:=by
 rcases h with h | ⟨hn,i,g,h,ho,qb⟩
 .exact .inl h
 .exact .inr ⟨hn,i,g,h,Bs ho,qb⟩
theorem D5{σ:St}{j:Nat}{x:Ob}{m e lo:Nat}{u:V}{xs:List (List V)}(h:GW σ m e lo u xs)(hj:j<lo):GW (σ.set j x) m e lo u xs:=by
 rcases h with h | ⟨hn,i,g,h,ho,qb⟩
 .exact .inl h
 .exact .inr ⟨hn,i,g,h,by grind,qb⟩
theorem V6{t:Nat}{xs:List (List V)}(h:xs≠[]):SL true t xs=.lst t xs:=by grind[SL]
def Mm{σ:St}{m e lo:Nat}{u:V}{xs:List (List V)}(h:GW σ m e lo u xs)(hm:0<m)(hl:∀ r∈xs,r.length=m)(hr:∀ r∈xs,r.all V.rowB=true):OC σ u (SL true 0 xs):=by
 rcases h with⟨rfl,rfl⟩ | ⟨hn,i,g,rfl,ho,qb⟩
 .exact Fj rfl
 grind[V6,Rt]
def Ru{σ:St}{m e lo:Nat}{u:V}{xs:List (List V)}(h:GW σ m e lo u xs)(hm:0<m)(hl:∀ r∈xs,r.length=m)(hr:∀ r∈xs,r.all V.rowB=true):FR u σ (SL true 0 xs):=by
 rcases h with⟨rfl,rfl⟩ | ⟨hn,i,g,rfl,ho,qb⟩
 .exact F7 rfl
 .rw[V6 hn];exact Ahc ho hm hl hr
def Bi3{σ:St}{m e lo:Nat}{u:V}{xs:List (List V)}{pre post:List V}(h:GW σ m e lo u xs)(hm:0<m)(hl:∀ r∈xs,r.length=m)(hr:∀ r∈xs,r.all V.rowB=true)(h1:pre.all V.rowB=true)(h2:post.all V.rowB=true):FR (.agg (pre++u::post)) σ (.agg (pre++SL true 0 xs::post)):=by
 rcases h with⟨rfl,rfl⟩ | ⟨hn,i,g,rfl,ho,qb⟩
 .exact F7 (by simp only[Dc,Aiu,B5,h1,h2];rfl)
 .rw[V6 hn];exact A5a ho hm hl hr h1 h2
/-! what a call leaves of the state, where an argument names a list's object -/
theorem Aqd(σ:St)(i j:Nat)(h:j≠i):(σ.freeze [i])[j]?=σ[j]?:=by
 grind[St.freeze]
theorem A2s(σ:St)(i:Nat):(σ.freeze [i]).length=σ.length:=by
 grind[St.freeze]
section
variable {T:Nat->Option AF} {pr:Nat->Option (List V->Option V)} {Q:Env->St->Prop} {e:Env} {σ:St} {k:List It} {l:List AI} {kill:List Nat} {f:Nat} {args vs:List V} {v:V} {d:Option Nat}
def A0c{σ':St}(hx:OVs σ args vs)(hf:Fn T pr f vs v)(ha:after σ args v=σ')(h:WR T pr l kill k (e.putO d v) σ' Q):WX T pr (.call f args) d l kill k e σ Q:=
 Ig (.pure (Afi hx) hf) (by rw[ha];exact h)
end
def Ayh{σ:St}{cs:List V}{m n:Nat}(h:cs.all V.rowB=true):Qn m n σ cs=some (.lst 1 (Fe m n cs),σ):=by
 unfold Qn;rw[Vm fun c hc=>U8 (Bw.1 h c hc),Fr h];rfl
attribute [go_sem] Ayh
def Xd(z:Bool)(t m:Nat)(xs:List (List V))(k:IntKind)(b:Nat)(hb:b<=xs.length):∃ z' t',Hb m (SL z t xs) none (some (.int k (b:Int))) none=some (SL z' t' (xs.take b)):=by
 unfold SL
 split
 .rename_i h;obtain⟨rfl,rfl⟩:=h
  simp_all [Hb,Dz]
 simp_all [Hb,Dz]
def A5b(z:Bool)(t m:Nat)(xs:List (List V))(k:IntKind)(b:Nat)(hb:b<=xs.length)(hm:∀ r∈xs,r.length=m):∃ z' t',Hb m (SL z t xs) (some (.int k (b:Int))) none none=some (SL z' t' (xs.drop b)):=by
 unfold SL
 split
 .rename_i h;obtain⟨rfl,rfl⟩:=h
  simp_all [Hb,Dz]
 simp_all [Hb,Dz]
def Cl(s:St):Prop:=∀ ob∈s,∀ i∈ob.refs,i<s.length
theorem Jd{s:St}{ob:Ob}(h:Cl s)(ho:∀ i∈ob.refs,i<s.length+1):Cl (s++[ob]):=by
 intro o hm i hi;rw[Ar];rcases Ct.1 hm with hm | hm
 .have:=h o hm i hi;omega
 grind
theorem F8{s:St}{j:Nat}{ob:Ob}(h:Cl s)(ho:∀ i∈ob.refs,i<s.length):Cl (s.set j ob):=by
 intro o hm i hi;rw[U4];rcases List.mem_or_eq_of_mem_set hm with hm | hm
 .exact h o hm i hi
 grind
mutual
theorem Aag(ρ:Nat->Nat):∀ v:V,(∀ i∈v.refs,ρ i=i)->v.ren ρ=v
 | .ptr i g o,h=>by grind[V.ren,V.refs]
 | .sl i g o l m w,h=>by grind[V.ren,V.refs]
 | .mp i,h=>by grind[V.ren,V.refs]
 | .fn f a c,h=>by
  simp only[V.ren];rw[Sz ρ a fun i hi=>h i (by grind[V.refs]),Sz ρ c fun i hi=>h i (by grind[V.refs])]
 | .agg cs,h=>by simp only[V.ren];rw[Sz ρ cs fun i hi=>h i (by grind[V.refs])]
 | .tup cs,h=>by simp only[V.ren];rw[Sz ρ cs fun i hi=>h i (by grind[V.refs])]
 | .und,_=>rfl
 | .skp,_=>rfl
 | .bool _,_=>rfl
 | .int _ _,_=>rfl
 | .str _,_=>rfl
 | .nili,_=>rfl
 | .ifc,_=>rfl
 | .nils,_=>rfl
 | .nilp,_=>rfl
 | .nilf,_=>rfl
 | .lst _ _,_=>rfl
 | .imm _ _,_=>rfl
theorem Sz(ρ:Nat->Nat):∀ vs:List V,(∀ i∈Ag vs,ρ i=i)->Ff ρ vs=vs
 | [],_=>rfl
 | v::r,h=>by
  simp only[Ff];rw[Aag ρ v fun i hi=>h i (by grind[Ag]),Sz ρ r fun i hi=>h i (by grind[Ag])]
end
def Apv(ρ:Nat->Nat)(ob:Ob)(h:∀ i∈ob.refs,ρ i=i):ob.ren ρ=ob:=by
 cases ob with
 | row cs e g z=>simp only[Ob.ren];rw[Sz ρ cs h]
 | map kvs=>
  simp only[Ob.ren];congr 1
  have:∀ l:List (List UInt8 × V),(∀ i∈Ag (l.map (·.2)),ρ i=i)->l.map (fun p=>(p.1,p.2.ren ρ))=l:=by
   intro l
   induction l with
   | nil=>grind
   | cons p l ih=>
    simp_all [Ag,Aag]
  exact this kvs h
 | dead=>rfl
theorem Ajr{n k i:Nat}(h:i<n+k):ren n (List.range' n k) i=i:=by
 unfold ren
 split
 .rfl
 .have h1:List.findIdx (·==i) (List.range' n k)=i - n:=by
   rw[List.findIdx_eq (by grind)];simp;constructor
   .omega
   .omega
  omega
def Ajs{σ σ':St}{m e lo bytes:Nat}{u u' y:V}{xs ys:List (List V)}(h:GW σ m e lo u xs)(hy:Ew σ m y=some ys)(ha:Dv bytes (m,e) u y σ=some (u',σ'))(hx:Ag xs.flatten=[])(hz:Ag ys.flatten=[])(hc:Cl σ):Cl σ':=by
 unfold Dv at ha;simp only[hy,C8]at ha;unfold Js at ha
 split at ha
 .rcases h with⟨rfl,rfl⟩ | ⟨hn,i,g,rfl,ho,qb⟩
  .grind[Jd,Ob.refs]
  .simp only at ha
   split at ha
   .simp only[ho,if_true]at ha
    split at ha
    .grind
    .split at ha
     .split at ha
      .cases ha;refine F8 hc fun j hj=>?_
       simp only[Ob.refs,Lf,hz,B3,Ct]at hj
       have qt:∀ (a:List V) (k:Nat),Ag a=[]->Ag (a.take k)=[]/\Ag (a.drop k)=[]:=by
        intro a k h0;have:=Lf (a.take k) (a.drop k);rw[L8,h0]at this;exact List.append_eq_nil_iff.1 this.symm
       grind
      grind[F8,Ob.refs,Lf]
     grind
   grind
 grind
def Gn{σ:St}{m e lo:Nat}{u:V}{xs:List (List V)}(h:GW σ m e lo u xs):∀ i∈u.refs,i<σ.length:=by
 rcases h with⟨rfl,rfl⟩ | ⟨hn,i,g,rfl,ho,qb⟩
 .grind[V.refs]
 grind[V.refs]
def Atc{σ1:St}{v:V}{n:Nat}(hr:v.refs=[])(ho:Cg v=true)(hn:n<=σ1.length)(hc:Cl σ1):Hw n (List.range' n (σ1.length - n)) v σ1=true/\v=v.ren (ren n (List.range' n (σ1.length - n)))/\σ1=(σ1.take n++(List.range' n (σ1.length - n)).filterMap (σ1[·]?)).map (Ob.ren (ren n (List.range' n (σ1.length - n)))):=by
 refine⟨?_,?_,?_⟩
 .have hw:∀ is:List Nat,(∀ i∈is,i<σ1.length)->En n (List.range' n (σ1.length - n)) is=true:=by
   intro is ql;unfold En;rw[Bw];intro i hi;have:=ql i hi;simp;omega
  unfold Hw;simp only[Ai];refine⟨ho,hw _ (by grind),?_,?_,?_⟩
  .rw[Bw];intro o hm;refine hw _ fun i hi=>?_
   rcases Ct.1 hm with hm | hm
   .exact hc o (Ni hm) i hi
   .obtain⟨j,_,hj⟩:=Adh.1 hm;exact hc o (Gx hj) i hi
  .grind
  grind
 .grind[Aag]
 .have he:σ1.take n++(List.range' n (σ1.length - n)).filterMap (σ1[·]?)=σ1:=by
   have:(List.range' n (σ1.length - n)).filterMap (σ1[·]?)=σ1.drop n:=by
    apply W0;intro i
    have qk:∀ (k n:Nat),n+k<=σ1.length->(List.range' n k).filterMap (σ1[·]?)=(σ1.drop n).take k:=by
     intro k
     induction k with
     | zero=>grind
     | succ k ih=>
      grind[List.range'_succ,List.drop_eq_getElem_cons]
    rw[qk _ _ AA,Jb AE]
   rw[this,L8]
  rw[he]
  have:∀ l:List Ob,(∀ o∈l,o∈σ1)->l.map (Ob.ren (ren n (List.range' n (σ1.length - n))))=l:=by
   intro l
   induction l with
   | nil=>grind
   | cons o l ih=>
    intro hm;rw[Az,ih fun o ho=>hm o (Ci _ ho),Apv _ o fun i hi=>Ajr (by have:=hc o (hm o B7) i hi;omega)]
  grind
def Af9{T:Nat->Option AF}{pr:Nat->Option (List V->Option V)}{f p:Nat}{res:List AR}{body:AC}{vs:List V}{v:V}{σ σ':St}(hT:T f=some ⟨p,res,true,body,none⟩)(hl:vs.length=p)
  (h:W T pr [.c body] (C6 0 vs) σ (Hd fun e' σ1=>Cd e' σ1 res=some v/\σ1=σ')) (hr:v.refs=[]) (ho:Cg v=true) (hn:σ.length<=σ'.length) (hc:Cl σ'):Th T pr f vs σ v σ':=by
 obtain⟨e',σ1,hE,qd,rfl⟩:=h;obtain⟨k1,k2,k3⟩:=Atc hr ho hn hc;exact A43 hT rfl rfl hl ⟨e',σ1,hE,v,_,qd,k1,k2,k3⟩
def Bdh{T:Nat->Option AF}{pr:Nat->Option (List V->Option V)}{f p:Nat}{res:List AR}{body:AC}{vs:List V}{v:V}{σ σ':St}(hT:T f=some ⟨p,res,true,body,none⟩)(hl:vs.length=p)
  (h:W T pr [.c body] (C6 0 vs) σ (Hd fun e' σ1=>∃ v0 js,Cd e' σ1 res=some v0/\Cg v0=true/\J4 σ1 js v0=some v/\σ'=σ1.freeze js)) (hr:v.refs=[]) (ho:Cg v=true) (hn:σ.length<=σ'.length) (hc:Cl σ'):Th T pr f vs σ v σ':=by
 obtain⟨e',σ1,hE,v0,js,qd,h0,h1,rfl⟩:=h;obtain⟨k1,k2,k3⟩:=Atc hr ho hn hc;exact A45 hT rfl rfl hl ⟨e',σ1,hE,v0,v,js,_,qd,h0,h1,k1,k2,k3⟩
def A3t{T:Nat->Option AF}{pr:Nat->Option (List V->Option V)}{σ:St}{f:Nat}{vs:List V}{v:V}{F:AF}{σ':St}(hT:T f=some F)(qm:F.spec=none)(hl:vs.length=F.pars)(h:W T pr [.c F.body] (C6 0 vs) σ fun e' σ1=>∃ v0 js,Cd e' σ1 F.res=some v0/\Hw σ.length js v0 σ1=true/\v=v0.ren (ren σ.length js)/\σ'=(σ1.take σ.length++js.filterMap (σ1[·]?)).map (Ob.ren (ren σ.length js))):Bx T pr f vs σ v σ':=by
 obtain⟨e',σ1,hE,v0,js,hr,qq,rfl,rfl⟩:=h;exact⟨F,hT,qm,.fnL hT qm hl hE hr qq⟩
def Vp{T:Nat->Option AF}{pr:Nat->Option (List V->Option V)}{f p:Nat}{res:List AR}{thr:Bool}{body:AC}{vs:List V}{v:V}{σ σ':St}(hT:T f=some ⟨p,res,thr,body,none⟩)(hl:vs.length=p)
  (h:W T pr [.c body] (C6 0 vs) σ (Hd fun e' σ1=>Cd e' σ1 res=some v/\σ1=σ')) (hr:∀ i∈v.refs,i<σ'.length) (ho:Cg v=true) (hn:σ.length<=σ'.length) (hc:Cl σ'):Bx T pr f vs σ v σ':=by
 obtain⟨e',σ1,hE,qd,rfl⟩:=h;refine A3t hT rfl hl ⟨e',σ1,hE,v,List.range' σ.length (σ1.length - σ.length),qd,?_,?_,?_⟩
 .have hw:∀ is:List Nat,(∀ i∈is,i<σ1.length)->En σ.length (List.range' σ.length (σ1.length - σ.length)) is=true:=by
   intro is ql;unfold En;rw[Bw];intro i hi;have:=ql i hi;simp;omega
  unfold Hw;simp only[Ai];refine⟨ho,hw _ hr,?_,?_,?_⟩
  .rw[Bw];intro o hm;refine hw _ fun i hi=>?_
   rcases Ct.1 hm with hm | hm
   .exact hc o (Ni hm) i hi
   .obtain⟨j,_,hj⟩:=Adh.1 hm;exact hc o (Gx hj) i hi
  .grind
  grind
 .grind[Aag,Ajr]
 .have he:σ1.take σ.length++(List.range' σ.length (σ1.length - σ.length)).filterMap (σ1[·]?)=σ1:=by
   have:(List.range' σ.length (σ1.length - σ.length)).filterMap (σ1[·]?)=σ1.drop σ.length:=by
    apply W0;intro i
    have qk:∀ (k n:Nat),n+k<=σ1.length->(List.range' n k).filterMap (σ1[·]?)=(σ1.drop n).take k:=by
     intro k
     induction k with
     | zero=>grind
     | succ k ih=>
      grind[List.range'_succ,List.drop_eq_getElem_cons]
    rw[qk _ _ AA,Jb AE]
   rw[this,L8]
  rw[he]
  have:∀ l:List Ob,(∀ o∈l,o∈σ1)->l.map (Ob.ren (ren σ.length (List.range' σ.length (σ1.length - σ.length))))=l:=by
   intro l
   induction l with
   | nil=>grind
   | cons o l ih=>
    intro hm;rw[Az,ih fun o ho=>hm o (Ci _ ho),Apv _ o fun i hi=>Ajr (by have:=hc o (hm o B7) i hi;omega)]
  grind
def LZ{α:Type}:(∀ a b c:List α,a++b++c=a++(b++c))/\(∀ (a:α) (b c:List α),a::b++c=a::(b++c))/\(∀ a:List α,[]++a=a)/\(∀ a b:List α,(a++b).length=a.length+b.length)/\(∀ (a:α) (b:List α),(a::b).length=b.length+1)/\([]:List α).length=0/\∀ n:Nat,0+n=n:=⟨Br,fun _ _ _=>rfl,fun _=>rfl,fun _ _=>Ar,fun _ _=>rfl,rfl,Gd⟩
