/- THE PLAIN MACHINE, joined texts: Qa Qb Qc Qd Qe Qf Qg. -/
import Derived.Test.YtdbnbejffjhdlaaGreatDoorA4
set_option linter.all false
/- Walking by rewriting: what comes of code, as equations. -/
namespace Go.Proofs.YtdbnbejffjhdlaaGreatDoor.KM
open Go
variable {T:Nat->Option AF} {pr:Nat->Option (List V->Option V)}
def Bq{α:Sort _}{a b:α}(h:a=b):a=b:=h
/-! slots -/
def get_put:∀ (e:Env) (n m:Nat) (v:V),(Env.put e n v).get m=if n=m then v else Env.get e m
 | [],n,m,v=>by grind[Env.put,Env.get]
 | (i,u)::r,n,m,v=>by
  simp only[Env.put]
  split
  .grind[Env.get]
  .rename_i h;simp only[Env.get,get_put r n m v]
   grind
def A3b(e:Env)(n:Nat)(v:V):e.putO (some n) v=e.put n v:=Bq rfl
def A3c(e:Env)(v:V):e.putO none v=e:=Bq rfl
def Bi1(e:Env)(n:Nat):Ac e (.t n)=e.get n:=rfl
def Bi2(e:Env)(v:V):Ac e (.k v)=v:=rfl
def A6c(e:Env)(n m:Nat)(v:V):Env.get ((n,v)::e) m=if n=m then v else Env.get e m:=Bq rfl
/-! what an operation gives -/
inductive Rs where
 | val (v:V) (σ:St)
 | call (f:Nat) (args:List V)
 | fail
def r1(o:Option V)(σ:St):Rs:=
 match o with
 | some v=>.val v σ
 | none=>.fail
def r2(o:Option (V × St)):Rs:=
 match o with
 | some (v,σ)=>.val v σ
 | none=>.fail
def Bak(v:V)(σ:St):r1 (some v) σ=.val v σ:=Bq rfl
def Bal(σ:St):r1 none σ=.fail:=Bq rfl
def Bam(v:V)(σ:St):r2 (some (v,σ))=.val v σ:=Bq rfl
def Ban:r2 none=.fail:=Bq rfl
theorem Sv(o:Option V)(σ:St):r2 (o.map fun v=>(v,σ))=r1 o σ:=by cases o<;>rfl
def Bm(op:AO)(e:Env)(σ:St):Rs:=
 match Ck e op with
 | some (f,args)=>.call f args
 | none=>r2 (Af op e σ)
def Alt(c a b:V):Option V:=
 match c with
 | .bool z=>some (if z=true then a else b)
 | _=>none
def Ay5(t:Nat)(x:V)(σ:St):Option (V × St):=if x.cells.all V.cellB=true then some (.ptr σ.length 0 0,σ++[.row x.cells t 0 0]) else none
def mkV(t bytes:Nat)(z:List V)(x y:V)(σ:St):Option (V × St):=
 match x,y with
 | .int .i64 n,.int .i64 c=>if 0<=n/\n<=c/\c.toNat*bytes<=140737488355328 then some (.sl σ.length 0 0 n.toNat z.length true,σ++[.row (List.replicate n.toNat z).flatten t 0 0]) else none
 | _,_=>none
def Py(m n:Nat)(σ:St)(cs:List V):Option (V × St):=(cs.mapM (Fh σ (Fy σ 9 (Ah cs).eraseDups) 9)).map fun cs'=>(.lst 1 (Fk m n cs'),σ.freeze (Fy σ 9 (Ah cs).eraseDups))
def Agi(n:Nat)(x v:V)(σ:St):Option (V × St):=(Q3 σ n x v).map fun σ'=>(.und,σ')
def Am0(x:V):Option V:=
 match x with
 | .imm r o=>some (.imm r o)
 | .ptr b g o=>some (.ptr b g o)
 | _=>none
def Am1(k:EqK)(qi:Bool)(x y:V):Option V:=(Nz k x y).map fun z=>.bool (z != qi)
def Am2(k:IntKind)(x:V):Option V:=
 match x with
 | .int _ n=>some (.int k (k.wrap n))
 | _=>none
def Alu(len m:Nat)(x:V)(lo hi:Option V):Option V:=
 match x with
 | .ptr i g off=>(Du lo 0).bind fun a=>(Du hi len).bind fun b=>if a<=b/\b<=len then some (.sl i g (off+a*m) (b - a) m false) else none
 | _=>none
def Agj(off:Nat)(x:V):Option V:=
 match x with
 | .imm r o=>some (.imm r (o+off))
 | .ptr b g o=>some (.ptr b g (o+off))
 | _=>none
def Am3(off n:Nat)(one:Bool)(x:V):Option V:=
 match x with
 | .agg cs=>if off+n<=cs.length then Hu one ((cs.drop off).take n) else none
 | _=>none
def Mb(m:Nat)(x i:V):Option V:=
 match x with
 | .lst _ xs=>(Jw xs i).bind fun r=>if r.length=m then some (.imm r 0) else none
 | .sl j g off len m' _=>match i with
  | .int _ n=>if 0<=n/\n<len/\m=m' then some (.ptr j g (off+n.toNat*m)) else none
  | _=>none
 | _=>none
def Am4(len m:Nat)(x i:V):Option V:=
 match i with
 | .int _ n=>if 0<=n/\n<len then(match x with
  | .imm r o=>some (.imm r (o+n.toNat*m))
  | .ptr b g o=>some (.ptr b g (o+n.toNat*m))
  | _=>none) else none
 | _=>none
def Am5(x i:V):Option V:=
 match x with
 | .str l=>(Jw l i).map fun c=>.int .u8 (c.toNat:Int)
 | _=>none
def Am6(len m:Nat)(one:Bool)(x i:V):Option V:=
 match i with
 | .int _ n=>if 0<=n/\n<len then(match x with
  | .agg cs=>if n.toNat*m+m<=cs.length then Hu one ((cs.drop (n.toNat*m)).take m) else none
  | _=>none) else none
 | _=>none
def Am7(i:Nat)(x:V):Option V:=
 match x with
 | .tup vs=>vs[i]?
 | _=>none
def Alv(x:V):Option V:=
 match x with
 | .str l=>some (.int .i64 (l.length:Int))
 | _=>none
def Mc(x:V):Option V:=
 match x with
 | .nils=>some (.int .i64 0)
 | .lst _ xs=>some (.int .i64 (xs.length:Int))
 | .sl _ _ _ len _ _=>some (.int .i64 (len:Int))
 | _=>none
def Dz(bytes:Nat)(m:Nat × Nat)(x y:V)(σ:St):Option (V × St):=(Eu σ m.1 y).bind fun ys=>Jr bytes m σ x ys
def Ax5(ty:Nat)(x y:V)(σ:St):Option (V × St):=
 match y with
 | .str l=>Jr 1 (1,ty) σ x (B4 l)
 | _=>none
def mxV(x y:V):Option V:=
 match x,y with
 | .int k a,.int k' b=>if k=k' then some (.int k (max a b)) else none
 | _,_=>none
def mnV(x y:V):Option V:=
 match x,y with
 | .int k a,.int k' b=>if k=k' then some (.int k (min a b)) else none
 | _,_=>none
def Am8(z x k:V)(σ:St):Option V:=
 match x,k with
 | .mp i,.str s=>match σ[i]? with
  | some (.map kvs)=>some (match H7 s kvs 0 with
   | some (_,v)=>v
   | none=>z)
  | _=>none
 | _,_=>none
def Ay6(x k v:V)(σ:St):Option (V × St):=
 match x,k with
 | .mp i,.str s=>match σ[i]? with
  | some (.map kvs)=>if v.flatB=true then some (.und,σ.set i (.map (match H7 s kvs 0 with
   | some (j,_)=>kvs.set j (s,v)
   | none=>kvs++[(s,v)]))) else none
  | _=>none
 | _,_=>none
section
variable {e:Env} {σ:St}
def Bi3(x:S):Bm (.mov x) e σ=.val (Ac e x) σ:=Bq rfl
def Bez(c a b:S):Bm (.pick c a b) e σ=r1 (Alt (Ac e c) (Ac e a) (Ac e b)) σ:=by
 simp only[Bm,Ck,Af,Alt];cases Ac e c<;>rfl
def Bi4(t:Nat)(z:List V):Bm (.new t z) e σ=.val (.ptr σ.length 0 0) (σ++[.row z t 0 0]):=Bq rfl
def Bi5(t:Nat)(x:S):Bm (.box t x) e σ=r2 (Ay5 t (Ac e x) σ):=Bq rfl
def Bao(z:List V)(ps:List (Nat × Nat × S)):Bm (.build z ps) e σ=r1 ((I0 z (ps.map fun p=>(p.1,p.2.1,Ac e p.2.2))).map fun cs=>.agg cs) σ:=by
 simp only[Bm,Ck,Af];cases I0 z (ps.map fun p=>(p.1,p.2.1,Ac e p.2.2))<;>rfl
def Be0(n:Nat)(z:List V)(ps:List (Nat × S)):Bm (.rows n z ps) e σ=r1 ((I0 (List.replicate n z).flatten (ps.map fun p=>(p.1*z.length,z.length,Ac e p.2))).bind fun cs=>if cs.all V.rowB=true then some (.lst 1 (Fk z.length n cs)) else none) σ:=by
 simp only[Bm,Ck,Af]
 cases I0 (List.replicate n z).flatten (ps.map fun p=>(p.1*z.length,z.length,Ac e p.2)) with
 | none=>rfl
 | some cs=>simp only[Cy];split<;>rfl
def Be1(n:Nat)(z:List V)(ps:List (Nat × S)):Bm (.rowf n z ps) e σ=r2 ((I0 (List.replicate n z).flatten (ps.map fun p=>(p.1*z.length,z.length,Ac e p.2))).bind fun cs=>Py z.length n σ cs):=Bq rfl
def Be2(t n:Nat)(z:List V)(ps:List (Nat × S)):Bm (.rowo t n z ps) e σ=r2 ((I0 (List.replicate n z).flatten (ps.map fun p=>(p.1*z.length,z.length,Ac e p.2))).map fun cs=>(.sl σ.length 0 0 n z.length true,σ++[.row cs t 0 0])):=Bq rfl
def Bnt(t bytes:Nat)(z:List V)(x y:S):Bm (.mk t bytes z x y) e σ=r2 (mkV t bytes z (Ac e x) (Ac e y) σ):=Bq rfl
def Be3(n:Nat)(one:Bool)(x:S):Bm (.load n one x) e σ=r1 (H6 σ n one (Ac e x)) σ:=Sv _ _
def Bap(n:Nat)(x v:S):Bm (.store n x v) e σ=r2 (Agi n (Ac e x) (Ac e v) σ):=Bq rfl
def Bi6(x:S):Bm (.chk x) e σ=r1 (Am0 (Ac e x)) σ:=by
 simp only[Bm,Ck,Af,Am0];cases Ac e x<;>rfl
def Bi7(o:BinOp)(x y:S):Bm (.bin o x y) e σ=r1 (Abd o (Ac e x) (Ac e y)) σ:=Sv _ _
def Bnu(k:EqK)(qi:Bool)(x y:S):Bm (.eq k qi x y) e σ=r1 (Am1 k qi (Ac e x) (Ac e y)) σ:=by
 simp only[Bm,Ck,Af,Am1];cases Nz k (Ac e x) (Ac e y)<;>rfl
def Bnv(o:UnOp)(x:S):Bm (.un o x) e σ=r1 (unV o (Ac e x)) σ:=Sv _ _
def Bi8(k:IntKind)(x:S):Bm (.cvi k x) e σ=r1 (Am2 k (Ac e x)) σ:=by
 simp only[Bm,Ck,Af,Am2];cases Ac e x<;>rfl
def Be4(x:S)(lo hi:Option S):Bm (.slcs x lo hi) e σ=r1 (Tm (Ac e x) (lo.map (Ac e)) (hi.map (Ac e))) σ:=Sv _ _
def Bi9(m:Nat)(x:S)(lo hi mx:Option S):Bm (.slc m x lo hi mx) e σ=r1 (Hf m (Ac e x) (lo.map (Ac e)) (hi.map (Ac e)) (mx.map (Ac e))) σ:=Sv _ _
def Be5(len m:Nat)(x:S)(lo hi:Option S):Bm (.slca len m x lo hi) e σ=r1 (Alu len m (Ac e x) (lo.map (Ac e)) (hi.map (Ac e))) σ:=by
 simp only[Bm,Ck,Af,Alu]
 cases Ac e x with
 | ptr i g off=>
  simp only
  cases Du (lo.map (Ac e)) 0 with
  | none=>rfl
  | some a=>
   simp only[Cy]
   cases Du (hi.map (Ac e)) len with
   | none=>rfl
   | some b=>simp only[Cy];split<;>rfl
 | _=>rfl
def Bja(off:Nat)(x:S):Bm (.fad off x) e σ=r1 (Agj off (Ac e x)) σ:=by
 simp only[Bm,Ck,Af,Agj];cases Ac e x<;>rfl
def Bjb(off n:Nat)(one:Bool)(x:S):Bm (.fld off n one x) e σ=r1 (Am3 off n one (Ac e x)) σ:=by
 simp only[Bm,Ck,Af,Am3]
 cases Ac e x with
 | agg cs=>simp only;split;· grind[Sv]
           .rfl
 | _=>rfl
def Bjc(m:Nat)(x i:S):Bm (.iad m x i) e σ=r1 (Mb m (Ac e x) (Ac e i)) σ:=by
 simp only[Bm,Ck,Af,Mb]
 cases Ac e x with
 | lst t xs=>
  simp only
  cases Jw xs (Ac e i) with
  | none=>rfl
  | some r=>simp only[Cy];split<;>rfl
 | sl j g off len m' w=>
  simp only
  cases Ac e i with
  | int k n=>simp only;split<;>rfl
  | _=>rfl
 | _=>rfl
def Bjd(len m:Nat)(x i:S):Bm (.iar len m x i) e σ=r1 (Am4 len m (Ac e x) (Ac e i)) σ:=by
 simp only[Bm,Ck,Af,Am4]
 cases Ac e i with
 | int k n=>simp only;split;· cases Ac e x<;>rfl
            .rfl
 | _=>rfl
def Bje(x i:S):Bm (.idx x i) e σ=r1 (Am5 (Ac e x) (Ac e i)) σ:=by
 simp only[Bm,Ck,Af,Am5]
 cases Ac e x with
 | str l=>simp only;cases Jw l (Ac e i)<;>rfl
 | _=>rfl
def Bjf(len m:Nat)(one:Bool)(x i:S):Bm (.ida len m one x i) e σ=r1 (Am6 len m one (Ac e x) (Ac e i)) σ:=by
 simp only[Bm,Ck,Af,Am6]
 cases Ac e i with
 | int k n=>
  simp only
  split
  .cases Ac e x with
   | agg cs=>simp only;split;· grind[Sv]
             .rfl
   | _=>rfl
  .rfl
 | _=>rfl
def Bjg(i:Nat)(x:S):Bm (.ext i x) e σ=r1 (Am7 i (Ac e x)) σ:=by
 simp only[Bm,Ck,Af,Am7]
 cases Ac e x with
 | tup vs=>grind[Sv]
 | _=>rfl
def Be6(x:S):Bm (.lens x) e σ=r1 (Alv (Ac e x)) σ:=by
 simp only[Bm,Ck,Af,Alv];cases Ac e x<;>rfl
def Bjh(x:S):Bm (.len x) e σ=r1 (Mc (Ac e x)) σ:=by
 simp only[Bm,Ck,Af,Mc];cases Ac e x<;>rfl
def Bji(bytes:Nat)(m:Nat × Nat)(x y:S):Bm (.app bytes m x y) e σ=r2 (Dz bytes m (Ac e x) (Ac e y) σ):=Bq rfl
def Be7(ty:Nat)(x y:S):Bm (.apps ty x y) e σ=r2 (Ax5 ty (Ac e x) (Ac e y) σ):=Bq rfl
def Bnw(x y:S):Bm (.mx x y) e σ=r1 (mxV (Ac e x) (Ac e y)) σ:=by
 simp only[Bm,Ck,Af,mxV]
 cases Ac e x with
 | int k a=>
  cases Ac e y with
  | int k' b=>simp only;split<;>rfl
  | _=>rfl
 | _=>rfl
def Bnx(x y:S):Bm (.mn x y) e σ=r1 (mnV (Ac e x) (Ac e y)) σ:=by
 simp only[Bm,Ck,Af,mnV]
 cases Ac e x with
 | int k a=>
  cases Ac e y with
  | int k' b=>simp only;split<;>rfl
  | _=>rfl
 | _=>rfl
def Bjj:Bm .mmk e σ=.val (.mp σ.length) (σ++[.map []]):=Bq rfl
def Bjk(z:V)(x k:S):Bm (.mlk z x k) e σ=r1 (Am8 z (Ac e x) (Ac e k) σ) σ:=by
 simp only[Bm,Ck,Af,Am8]
 cases Ac e x with
 | mp i=>
  cases Ac e k with
  | str s=>
   simp only
   cases σ[i]? with
   | none=>rfl
   | some ob=>cases ob<;>rfl
  | _=>rfl
 | _=>rfl
def Bjl(x k v:S):Bm (.mup x k v) e σ=r2 (Ay6 (Ac e x) (Ac e k) (Ac e v) σ):=Bq rfl
def Be8(f:Nat)(xs:List S):Bm (.call f xs) e σ=.call f (xs.map (Ac e)):=Bq rfl
def Am9(x:V)(ys:List V):Rs:=
 match x with
 | .fn f a c=>.call f (a++ys++c)
 | _=>.fail
def Baq(x:S)(xs:List S):Bm (.callv x xs) e σ=Am9 (Ac e x) (xs.map (Ac e)):=by
 simp only[Bm,Ck,Am9];cases Ac e x<;>rfl
end
variable {T:Nat->Option AF} {pr:Nat->Option (List V->Option V)}
def o(d:Nat)(op:AO):AI:=⟨some d,op,none⟩
def on(op:AO):AI:=⟨none,op,none⟩
def og(d:Nat)(op:AO)(t:Nat)(w:Bool):AI:=⟨some d,op,some (t,w)⟩
def oh(op:AO)(t:Nat)(w:Bool):AI:=⟨none,op,some (t,w)⟩
inductive CallS (T:Nat->Option AF) (pr:Nat->Option (List V->Option V)) (f:Nat) (args:List V) (σ:St):V->St->Prop
 | prim {s:List V->Option V} {vs:List V} {v:V}:pr f=some s->Dw σ args=some vs->s vs=some v->CallS T pr f args σ v (after σ args v)
 | pure {vs:List V} {v:V}:Dw σ args=some vs->Fn T pr f vs v->CallS T pr f args σ v (after σ args v)
 | own {σ0:St} {vs:List V} {v:V}:Dw σ args=some vs->Vt T pr f vs v σ0->CallS T pr f args σ (v.ren (·+σ.length)) (own σ args σ0)
 | any {v:V} {σ1:St}:Bt T pr f args σ v σ1->CallS T pr f args σ v σ1
 | thr {v:V} {σ1:St}:Th T pr f args σ v σ1->CallS T pr f args σ v σ1
 | spec {F:AF} {s:List V->St->Option (V × St)} {v:V} {σ1:St}:T f=some F->F.thr=true->F.spec=some s->s args σ=some (v,σ1)->CallS T pr f args σ v σ1
def CallS.sg{i:AI}{f:Nat}{args:List V}{e:Env}{σ σ1:St}{v:V}(h:CallS T pr f args σ v σ1)(hw:Cu e i=some true)(hc:Ck e i.op=some (f,args)):Sg T pr i e σ v σ1:=by
 cases h with
 | prim h1 h2 h3=>exact .prim hw hc h1 h2 h3
 | pure h1 h2=>exact .pure hw hc h1 h2
 | own hx h=>obtain⟨F,h1,h2,h3,h4⟩:=h;exact .own hw hc h1 h2 h3 hx h4
 | any h=>obtain⟨F,h1,h3,h4⟩:=h;exact .any hw hc h1 h3 h4
 | thr h=>obtain⟨F,h1,h2,h3,h4⟩:=h;exact .thr hw hc h1 h2 h3 h4
 | spec h1 h2 h3 h4=>exact .spec hw hc h1 h2 h3 h4
def WE(T:Nat->Option AF)(pr:Nat->Option (List V->Option V))(e:Env)(k:List It)(σ:St)(Q:Env->St->Prop):Prop:=W T pr k e σ Q
def WR(T:Nat->Option AF)(pr:Nat->Option (List V->Option V))(l:List AI)(kill:List Nat)(k:List It)(e:Env)(σ:St)(Q:Env->St->Prop):Prop:=WO T pr l e σ fun e1 σ1=>W T pr k (e1.del kill) σ1 Q
def WX(T:Nat->Option AF)(pr:Nat->Option (List V->Option V))(r:Rs)(d:Option Nat)(l:List AI)(kill:List Nat)(k:List It)(e:Env)(σ:St)(Q:Env->St->Prop):Prop:=
 match r with
 | .val v σ1=>WR T pr l kill k (e.putO d v) σ1 Q
 | .call f args=>∃ v σ1,CallS T pr f args σ v σ1/\WR T pr l kill k (e.putO d v) σ1 Q
 | .fail=>False
def WD(T:Nat->Option AF)(pr:Nat->Option (List V->Option V))(g:V)(w:Bool)(d:Option Nat)(op:AO)(l:List AI)(kill:List Nat)(k:List It)(e:Env)(σ:St)(Q:Env->St->Prop):Prop:=
 match g with
 | .bool b=>if b=w then WX T pr (Bm op e σ) d l kill k e σ Q else WR T pr l kill k (e.putO d .skp) σ Q
 | .skp=>WR T pr l kill k (e.putO d .skp) σ Q
 | _=>False
def WC(T:Nat->Option AF)(pr:Nat->Option (List V->Option V))(g:V)(kill:List Nat)(x y:AC)(k:List It)(e:Env)(σ:St)(Q:Env->St->Prop):Prop:=
 match g with
 | .bool true=>WE T pr (e.del kill) (.c x::k) σ Q
 | .bool false=>WE T pr (e.del kill) (.c y::k) σ Q
 | _=>False
def WJ(T:Nat->Option AF)(pr:Nat->Option (List V->Option V))(id:Nat):List It->Env->St->(Env->St->Prop)->Prop
 | [],_,_,_=>False
 | .b i::k,e,σ,Q=>if i=id then W T pr k e σ Q else WJ T pr id k e σ Q
 | .c _::k,e,σ,Q=>WJ T pr id k e σ Q
 | .l _ _::k,e,σ,Q=>WJ T pr id k e σ Q
def get_keep(e:Env)(n:Nat):∀ ks:List Nat,ks.elem n=true->(e.keep ks).get n=e.get n
 | [],h=>by cases h
 | m::ks,h=>by
  simp only[Env.keep,Env.get]
  split
  .grind
  .rename_i hm;refine get_keep e n ks ?_
   grind
def Arq(e:Env)(ks:List Nat):∀ js:List Nat,(∀ n,js.elem n=true->ks.elem n=true)->(e.keep ks).keep js=e.keep js
 | [],_=>rfl
 | m::js,h=>by
  simp only[Env.keep];rw[get_keep e m ks (h m AE),Arq e ks js fun n hn=>h n (by grind)]
theorem Ap1(e:Env)(ks:List Nat):e.keep ks=(e.keep ks).keep ks:=(Arq e ks ks fun _ h=>h).symm
section
variable {Q:Env->St->Prop} {e:Env} {σ:St} {k:List It} {l:List AI} {kill:List Nat}
def Alw(a b:AC):W T pr (.c (.seq a b)::k) e σ Q=W T pr (.c a::.c b::k) e σ Q:=propext ⟨fun⟨e',σ',h,q⟩=>by cases h with | cSeq h=>exact⟨e',σ',h,q⟩,Bin⟩
def Be9:W T pr (.c .skip::k) e σ Q=W T pr k e σ Q:=propext ⟨fun⟨e',σ',h,q⟩=>by cases h with | cSkip h=>exact⟨e',σ',h,q⟩,Beg⟩
def Ax6(id:Nat)(c:AC):W T pr (.c (.blk id c)::k) e σ Q=W T pr (.c c::.b id::k) e σ Q:=propext ⟨fun⟨e',σ',h,q⟩=>by cases h with | cBlk h=>exact⟨e',σ',h,q⟩,Bio⟩
def Bjm(id:Nat):W T pr (.b id::k) e σ Q=W T pr k e σ Q:=propext ⟨fun⟨e',σ',h,q⟩=>by cases h with | cEnd h=>exact⟨e',σ',h,q⟩,Bip⟩
def Bfa(keep:List Nat)(c:AC):W T pr (.c (.loop keep c)::k) e σ Q=WE T pr (e.keep keep) (.l keep c::k) σ Q:=by
 refine propext ⟨fun⟨e',σ',h,q⟩=>?_,fun h=>Beh (Am h ?_)⟩
 .cases h with
  | cLoop h=>exact Am ⟨e',σ',h,q⟩ (Ap1 e keep).symm
 grind[Ap1]
def Bar(keep:List Nat)(c:AC):W T pr (.l keep c::k) e σ Q=WE T pr (e.keep keep) (.c c::.l keep c::k) σ Q:=propext ⟨fun⟨e',σ',h,q⟩=>by cases h with | cAgain h=>exact⟨e',σ',h,q⟩,A98⟩
def Bjn:W T pr (.c .ret::k) e σ Q=Q e σ:=propext ⟨fun⟨e',σ',h,q⟩=>by cases h with | cRet=>exact q,Biq⟩
def Ax7:W T pr [] e σ Q=Q e σ:=propext ⟨fun⟨e',σ',h,q⟩=>by cases h with | cNil=>exact q,Bir⟩
def Bjo(ops:List AI):W T pr (.c (.reg kill ops)::k) e σ Q=WR T pr ops kill k e σ Q:=propext ⟨fun⟨e',σ',h,q⟩=>by cases h with | cReg h h2=>exact⟨_,_,h,e',σ',h2,q⟩,fun⟨_,_,h,e',σ',h2,q⟩=>⟨e',σ',.cReg h h2,q⟩⟩
def Bfb(c:S)(x y:AC):W T pr (.c (.cond c kill x y)::k) e σ Q=WC T pr (Ac e c) kill x y k e σ Q:=by
 refine propext ⟨fun⟨e',σ',h,q⟩=>?_,fun h=>?_⟩
 .cases h with
  | cCond hc h=>
   rw[hc];rename_i z;cases z
   .exact⟨e',σ',h,q⟩
   .exact⟨e',σ',h,q⟩
 .unfold WC at h
  split at h
  .rename_i hc;exact A59 hc h
  .rename_i hc;exact A6a hc h
  .exact h.elim
def Aa0(id:Nat):∀ k':List It,WJ T pr id k' e σ Q↔∃ k2,exitTo id k'=some k2/\W T pr k2 e σ Q
 | []=>by simp[WJ,exitTo]
 | .b i::k'=>by
  simp only[WJ,exitTo]
  split
  .simp
  .exact Aa0 id k'
 | .c _::k'=>by simp only[WJ,exitTo];exact Aa0 id k'
 | .l _ _::k'=>by simp only[WJ,exitTo];exact Aa0 id k'
def Bfc(id:Nat):W T pr (.c (.exit id)::k) e σ Q=WJ T pr id k e σ Q:=propext ⟨fun⟨e',σ',h,q⟩=>by cases h with | cExit hk h=>exact(Aa0 id k).2 ⟨_,hk,e',σ',h,q⟩,fun h=>let ⟨_,h1,h2⟩:=(Aa0 id k).1 h;Bei h1 h2⟩
def Bny(id i:Nat):WJ T pr id (.b i::k) e σ Q=if i=id then W T pr k e σ Q else WJ T pr id k e σ Q:=Bq rfl
def Bnz(id:Nat)(c:AC):WJ T pr id (.c c::k) e σ Q=WJ T pr id k e σ Q:=Bq rfl
def Bn0(id:Nat)(kp:List Nat)(c:AC):WJ T pr id (.l kp c::k) e σ Q=WJ T pr id k e σ Q:=Bq rfl
def we:WE T pr e k σ Q=W T pr k e σ Q:=Bq rfl
def Bfd:WR T pr [] kill k e σ Q=WE T pr (e.del kill) k σ Q:=propext ⟨fun⟨_,_,h,q⟩=>by cases h with | opsNil=>exact q,fun h=>⟨_,_,.opsNil,h⟩⟩
def Bfe(v:V)(σ1:St)(d:Option Nat):WX T pr (.val v σ1) d l kill k e σ Q=WR T pr l kill k (e.putO d v) σ1 Q:=Bq rfl
def Bas(d:Option Nat):WX T pr .fail d l kill k e σ Q=False:=Bq rfl
def Jf{f:Nat}{args:List V}{d:Option Nat}{v:V}{σ1:St}(hc:CallS T pr f args σ v σ1)(h:WR T pr l kill k (e.putO d v) σ1 Q):WX T pr (.call f args) d l kill k e σ Q:=⟨v,σ1,hc,h⟩
def A0y{op:AO}{r:V × St}(h:Af op e σ=some r):Ck e op=none:=by
 cases op with
 | call f xs=>cases h
 | callv x xs=>cases h
 | _=>rfl
theorem Alx{i:AI}(hw:Cu e i=some true):WR T pr (i::l) kill k e σ Q=WX T pr (Bm i.op e σ) i.dst l kill k e σ Q:=by
 refine propext ⟨fun⟨e',σ',h,q⟩=>?_,fun h=>?_⟩
 .cases h with
  | opsSkip hw' _=>rw[hw]at hw';cases hw'
  | opsVal _ hv h=>
   unfold Bm;rw[A0y hv,hv];exact⟨_,_,h,q⟩
  | opsPrim _ hc h1 h2 h3 h=>
   unfold Bm;rw[hc];exact⟨_,_,.prim h1 h2 h3,_,_,h,q⟩
  | opsPure _ hc h1 h2 h3 h4 h5 h6 h=>
   unfold Bm;rw[hc];exact⟨_,_,.pure h4 ⟨_,h1,h2,h3,_,_,h5,h6⟩,_,_,h,q⟩
  | opsOwn _ hc h1 h2 h3 hx h4 h=>
   unfold Bm;rw[hc];exact⟨_,_,.own hx ⟨_,h1,h2,h3,h4⟩,_,_,h,q⟩
  | opsAny _ hc h1 h3 h4 h=>
   unfold Bm;rw[hc];exact⟨_,_,.any ⟨_,h1,h3,h4⟩,_,_,h,q⟩
  | opsThr _ hc h1 h2 h3 h4 h=>
   unfold Bm;rw[hc];exact⟨_,_,.thr ⟨_,h1,h2,h3,h4⟩,_,_,h,q⟩
  | opsSpec _ hc h1 h2 h3 h4 h=>
   unfold Bm;rw[hc];exact⟨_,_,.spec h1 h2 h3 h4,_,_,h,q⟩
 .unfold Bm at h
  split at h
  .rename_i f args hc;obtain⟨v,σ1,hs,e',σ',h,q⟩:=h;exact⟨e',σ',(hs.sg hw hc).ev h,q⟩
  .cases hv:Af i.op e σ with
   | none=>rw[hv]at h;exact h.elim
   | some p=>
    obtain⟨v,σ1⟩:=p;rw[hv]at h;obtain⟨e',σ',h,q⟩:=h;exact⟨e',σ',.opsVal hw hv h,q⟩
def Bn1(d:Nat)(op:AO):WR T pr (o d op::l) kill k e σ Q=WX T pr (Bm op e σ) (some d) l kill k e σ Q:=Alx (i:=o d op) rfl
def Bjp(op:AO):WR T pr (on op::l) kill k e σ Q=WX T pr (Bm op e σ) none l kill k e σ Q:=Alx (i:=on op) rfl
theorem Bat{i:AI}(hw:Cu e i=some false):WR T pr (i::l) kill k e σ Q=WR T pr l kill k (e.putO i.dst .skp) σ Q:=by
 refine propext ⟨fun⟨e',σ',h,q⟩=>?_,fun⟨e',σ',h,q⟩=>⟨e',σ',.opsSkip hw h,q⟩⟩
 cases h with
 | opsSkip _ h=>exact⟨_,_,h,q⟩
 | opsVal hw'=>rw[hw]at hw';cases hw'
 | opsPrim hw'=>rw[hw]at hw';cases hw'
 | opsPure hw'=>rw[hw]at hw';cases hw'
 | opsOwn hw'=>rw[hw]at hw';cases hw'
 | opsAny hw'=>rw[hw]at hw';cases hw'
 | opsThr hw'=>rw[hw]at hw';cases hw'
 | opsSpec hw'=>rw[hw]at hw';cases hw'
def Ay7{i:AI}{t:Nat}{w:Bool}(hg:i.g=some (t,w)):WR T pr (i::l) kill k e σ Q=WD T pr (e.get t) w i.dst i.op l kill k e σ Q:=by
 unfold WD
 have hd:Cu e i=(match e.get t with
  | .bool b=>some (b==w)
  | .skp=>some false
  | _=>none):=by unfold Cu;rw[hg];rfl
 have no:Cu e i=none->WR T pr (i::l) kill k e σ Q=False:=by
  intro hn;refine propext ⟨?_,False.elim⟩;rintro⟨e',σ',h,q⟩
  cases h with
  | opsSkip hw'=>grind
  | opsVal hw'=>grind
  | opsPrim hw'=>grind
  | opsPure hw'=>grind
  | opsOwn hw'=>grind
  | opsAny hw'=>grind
  | opsThr hw'=>grind
  | opsSpec hw'=>grind
 grind[Alx,Bat]
def Bjq(d:Nat)(op:AO)(t:Nat)(w:Bool):WR T pr (og d op t w::l) kill k e σ Q=WD T pr (e.get t) w (some d) op l kill k e σ Q:=Ay7 (i:=og d op t w) rfl
def Bjr(op:AO)(t:Nat)(w:Bool):WR T pr (oh op t w::l) kill k e σ Q=WD T pr (e.get t) w none op l kill k e σ Q:=Ay7 (i:=oh op t w) rfl
def Bff(w:Bool)(d:Option Nat)(op:AO):WD T pr .skp w d op l kill k e σ Q=WR T pr l kill k (e.putO d .skp) σ Q:=Bq rfl
def Bau(x y:AC):WC T pr (.bool true) kill x y k e σ Q=WE T pr (e.del kill) (.c x::k) σ Q:=Bq rfl
def A6d(x y:AC):WC T pr (.bool false) kill x y k e σ Q=WE T pr (e.del kill) (.c y::k) σ Q:=Bq rfl
def Le{b:Bool}{x y:AC}(h1:b=true->WE T pr (e.del kill) (.c x::k) σ Q)(h2:b=false->WE T pr (e.del kill) (.c y::k) σ Q):WC T pr (.bool b) kill x y k e σ Q:=by
 cases b
 .exact h2 rfl
 .exact h1 rfl
end
/-! only the first part is looked at while it is reckoned -/
section
variable {Q:Env->St->Prop} {e e':Env} {σ σ':St} {k:List It} {l:List AI} {kill:List Nat}
@[congr] theorem Bpx (h:e=e'):W T pr k e σ Q=W T pr k e' σ Q:=by rw[h]
@[congr] theorem Bpo (h:e=e'):WE T pr e k σ Q=WE T pr e' k σ Q:=by rw[h]
@[congr] theorem Bpp (h:e=e'):WR T pr l kill k e σ Q=WR T pr l kill k e' σ Q:=by rw[h]
@[congr] theorem Bpq {r r':Rs} {d:Option Nat} (h:r=r'):WX T pr r d l kill k e σ Q=WX T pr r' d l kill k e σ Q:=by rw[h]
@[congr] theorem Bpr {g g':V} {w:Bool} {d:Option Nat} {op:AO} (h:g=g'):WD T pr g w d op l kill k e σ Q=WD T pr g' w d op l kill k e σ Q:=by rw[h]
@[congr] theorem Bps {g g':V} {x y:AC} (h:g=g'):WC T pr g kill x y k e σ Q=WC T pr g' kill x y k e σ Q:=by rw[h]
end
variable {T:Nat->Option AF} {pr:Nat->Option (List V->Option V)}
inductive Kd where
 | pu | rd | ef
def kd:AO->Kd
 | .new _ _ | .box _ _ | .store _ _ _ | .app _ _ _ _ | .apps _ _ _ | .rowf _ _ _ | .rowo _ _ _ _ | .mk _ _ _ _ _ | .mmk | .mup _ _ _ | .call _ _ | .callv _ _=>.ef
 | .load _ _ _ | .mlk _ _ _=>.rd
 | _=>.pu
def Bjs{op:AO}(h:kd op=.pu):Gm T pr op=0:=by
 cases op<;>simp[kd]at h<;>simp[Gm]
def Bjt{op:AO}(h:kd op=.rd){e:Env}{σ σ1:St}{v:V}(hv:Af op e σ=some (v,σ1)):σ1=σ:=by
 cases op with
 | load n one x=>
  simp only[Af,Cg]at hv;obtain⟨_,_,h⟩:=hv;cases h;rfl
 | mlk z x k=>
  simp only[Af]at hv
  split at hv
  .split at hv
   .cases hv;rfl
   .cases hv
  .cases hv
 | _=>simp[kd]at h
def CallP(T:Nat->Option AF)(pr:Nat->Option (List V->Option V))(f:Nat)(vs:List V)(v:V):Prop:=(∃ s,pr f=some s/\s vs=some v)\/Fn T pr f vs v
def CallP.sg{i:AI}{f:Nat}{args vs:List V}{e:Env}{σ:St}{v:V}(h:CallP T pr f vs v)(hw:Cu e i=some true)(hc:Ck e i.op=some (f,args))(hx:Dw σ args=some vs):Sg T pr i e σ v (after σ args v):=by
 rcases h with⟨s,h1,h2⟩ | h
 .exact .prim hw hc h1 hx h2
 .exact .pure hw hc hx h
def Me(qa:List (List Nat))(n m:Nat)(i:AI)(z:Kd)(v:V)(σ1:St)(e:Env)(σ:St)(fs:Fs)(ls:Ls)(K:Env->St->Fs->Ls->Prop):Prop:=
 match z with
 | .pu=>K (e.putO i.dst v) σ fs ls
 | .rd=>X8 qa n m (fun s=>Af i.op e s=some (v,s)) fs/\K (e.putO i.dst v) σ fs ((m,fun s=>Af i.op e s=some (v,s))::ls)
 | .ef=>Qk qa n m fs/\Ql qa n m σ σ1 ls/\K (e.putO i.dst v) σ1 ((m,σ,σ1)::fs) ls
def Hw(T:Nat->Option AF)(pr:Nat->Option (List V->Option V))(qa:List (List Nat))(n m:Nat)(i:AI)(r:Rs)(e:Env)(σ:St)(fs:Fs)(ls:Ls)(K:Env->St->Fs->Ls->Prop):Prop:=
 match r with
 | .val v σ1=>Me qa n m i (kd i.op) v σ1 e σ fs ls K
 | .call f args=>(∃ v vs,Ah args=[]/\Dw σ args=some vs/\CallP T pr f vs v/\K (e.putO i.dst v) σ fs ls) \/
   (∃ v vs,Dw σ args=some vs/\CallP T pr f vs v/\v.flatV=true/\X8 qa n m (fun s=>Dw s args=some vs) fs/\K (e.putO i.dst v) σ fs ((m,fun s=>Dw s args=some vs)::ls)) \/
   (∃ v σ1,CallS T pr f args σ v σ1/\Qk qa n m fs/\Ql qa n m σ σ1 ls/\K (e.putO i.dst v) σ1 ((m,σ,σ1)::fs) ls)
 | .fail=>False
def K3(T:Nat->Option AF)(pr:Nat->Option (List V->Option V))(qa:List (List Nat))(n m:Nat)(i:AI)(g:Option V)(w:Bool)(e:Env)(σ:St)(fs:Fs)(ls:Ls)(K:Env->St->Fs->Ls->Prop):Prop:=
 match g with
 | none=>Hw T pr qa n m i (Bm i.op e σ) e σ fs ls K
 | some (.bool b)=>if b=w then Hw T pr qa n m i (Bm i.op e σ) e σ fs ls K else K (e.putO i.dst .skp) σ fs ls
 | some .skp=>K (e.putO i.dst .skp) σ fs ls
 | some _=>False
def wg(T:Nat->Option AF)(pr:Nat->Option (List V->Option V))(qa:List (List Nat))(n:Nat)(kill:List Nat)(k:List It)(Q:Env->St->Prop):Nat->List AI->Env->St->Fs->Ls->Prop
 | _,[],e,σ,_,_=>WE T pr (e.del kill) k σ Q
 | m,i::l,e,σ,fs,ls=>K3 T pr qa n m i (i.g.map fun p=>e.get p.1) ((i.g.map fun p=>p.2).getD true) e σ fs ls (wg T pr qa n kill k Q (m+1) l)
section
variable {Q:Env->St->Prop} {e:Env} {σ:St} {k:List It} {kill:List Nat} {qa:List (List Nat)} {n:Nat}
def Awh{m:Nat}{i:AI}{l:List AI}{fs:Fs}{ls:Ls}{K:Env->St->Prop}{P:Env->St->Fs->Ls->Prop}(hP:∀ e σ fs ls,P e σ fs ls->WG T pr qa n (m+1) l e σ fs ls K)
  (hw:Cu e i=some true) (h:Hw T pr qa n m i (Bm i.op e σ) e σ fs ls P):WG T pr qa n m (i::l) e σ fs ls K:=by
 unfold Bm at h
 split at h
 .rename_i f args hc;rcases h with⟨v,vs,h1,h2,h3,h4⟩ | ⟨v,vs,h1,h2,h3,h4,h5⟩ | ⟨v,σ1,h1,h2,h3,h4⟩
  .refine Aex (fun s=>?_) (hP _ _ _ _ h4);have:=h3.sg (σ:=s) hw hc ((Adl h1 s).trans h2)
   grind[Wg]
  .obtain⟨e',σ',h,q⟩:=hP _ _ _ _ h5;refine⟨e',σ',.read (fun s=>Dw s args=some vs) h1 (fun s hs=>?_) (Ajx h4) h,q⟩;have:=h2.sg (σ:=s) hw hc hs
   simp_all [after]
  .exact Awg (h1.sg hw hc) h2 h3 (hP _ _ _ _ h4)
 .cases hv:Af i.op e σ with
  | none=>rw[hv]at h;exact h.elim
  | some p=>
   obtain⟨v,σ1⟩:=p;rw[hv]at h;simp only[r2,Hw]at h;unfold Me at h
   split at h
   .rename_i hk;obtain⟨rfl,qf⟩:=Acp (Bjs (T:=T) (pr:=pr) hk) hv
    grind[Bel]
   .rename_i hk;obtain rfl:=Bjt hk hv
    grind[Biu]
   grind[Bem]
def Vb:∀ (l:List AI) (m:Nat) (e:Env) (σ:St) (fs:Fs) (ls:Ls),wg T pr qa n kill k Q m l e σ fs ls->WG T pr qa n m l e σ fs ls fun e1 σ1=>W T pr k (e1.del kill) σ1 Q
 | [],m,e,σ,fs,ls,h=>Bek h
 | i::l,m,e,σ,fs,ls,h=>by
  unfold wg at h;unfold K3 at h
  split at h
  .rename_i hg;refine Awh (fun e σ fs ls=>Vb l (m+1) e σ fs ls) ?_ h
   grind[Cu]
  .rename_i b hg;obtain⟨p,hp,hb⟩:=Cg.1 hg
   split at h
   .rename_i qn;refine Awh (fun e σ fs ls=>Vb l (m+1) e σ fs ls) ?_ h
    grind[Cu]
   .rename_i qn;refine Aex (fun s=>.off ?_) (Vb l (m+1) _ _ _ _ h)
    grind[Cu]
  .rename_i hg;obtain⟨p,hp,hb⟩:=Cg.1 hg;refine Aex (fun s=>.off ?_) (Vb l (m+1) _ _ _ _ h)
   grind[Cu]
  grind
def Ad{ops:List AI}(qs:O1 qa ops=true)(h:wg T pr qa ops.length kill k Q 0 ops e σ [] []):W T pr (.c (.drw kill qa ops)::k) e σ Q:=
 Bej qs fun _ hK=>by
  obtain⟨e',σ',h,q⟩:=Vb _ _ _ _ _ _ h;exact⟨e',σ',h,hK _ _ q⟩
variable {m:Nat} {l:List AI} {fs:Fs} {ls:Ls} {K:Env->St->Fs->Ls->Prop}
def Bfg:wg T pr qa n kill k Q m [] e σ fs ls=WE T pr (e.del kill) k σ Q:=Bq rfl
def Bn2(d:Nat)(op:AO):wg T pr qa n kill k Q m (o d op::l) e σ fs ls=Hw T pr qa n m (o d op) (Bm op e σ) e σ fs ls (wg T pr qa n kill k Q (m+1) l):=Bq rfl
def Bju(op:AO):wg T pr qa n kill k Q m (on op::l) e σ fs ls=Hw T pr qa n m (on op) (Bm op e σ) e σ fs ls (wg T pr qa n kill k Q (m+1) l):=Bq rfl
def Bjv(d:Nat)(op:AO)(t:Nat)(w:Bool):wg T pr qa n kill k Q m (og d op t w::l) e σ fs ls=K3 T pr qa n m (og d op t w) (some (e.get t)) w e σ fs ls (wg T pr qa n kill k Q (m+1) l):=Bq rfl
def Bjw(op:AO)(t:Nat)(w:Bool):wg T pr qa n kill k Q m (oh op t w::l) e σ fs ls=K3 T pr qa n m (oh op t w) (some (e.get t)) w e σ fs ls (wg T pr qa n kill k Q (m+1) l):=Bq rfl
def Bjx(d:Nat)(op:AO)(v:V)(σ1:St):Hw T pr qa n m (o d op) (.val v σ1) e σ fs ls K=Me qa n m (o d op) (kd op) v σ1 e σ fs ls K:=Bq rfl
def Bfh(op:AO)(v:V)(σ1:St):Hw T pr qa n m (on op) (.val v σ1) e σ fs ls K=Me qa n m (on op) (kd op) v σ1 e σ fs ls K:=Bq rfl
def Bfi(d:Nat)(op:AO)(t:Nat)(w:Bool)(v:V)(σ1:St):Hw T pr qa n m (og d op t w) (.val v σ1) e σ fs ls K=Me qa n m (og d op t w) (kd op) v σ1 e σ fs ls K:=Bq rfl
def Bfj(op:AO)(t:Nat)(w:Bool)(v:V)(σ1:St):Hw T pr qa n m (oh op t w) (.val v σ1) e σ fs ls K=Me qa n m (oh op t w) (kd op) v σ1 e σ fs ls K:=Bq rfl
def Bfk(d:Nat)(op:AO)(t:Nat):K3 T pr qa n m (og d op t true) (some (.bool true)) true e σ fs ls K=Hw T pr qa n m (og d op t true) (Bm op e σ) e σ fs ls K:=Bq rfl
def Bfl(d:Nat)(op:AO)(t:Nat):K3 T pr qa n m (og d op t false) (some (.bool false)) false e σ fs ls K=Hw T pr qa n m (og d op t false) (Bm op e σ) e σ fs ls K:=Bq rfl
def Bfm(d:Nat)(op:AO)(t:Nat):K3 T pr qa n m (og d op t false) (some (.bool true)) false e σ fs ls K=K (e.put d .skp) σ fs ls:=Bq rfl
def Bfn(d:Nat)(op:AO)(t:Nat):K3 T pr qa n m (og d op t true) (some (.bool false)) true e σ fs ls K=K (e.put d .skp) σ fs ls:=Bq rfl
def Bjy(d:Nat)(op:AO)(t:Nat)(w:Bool):K3 T pr qa n m (og d op t w) (some .skp) w e σ fs ls K=K (e.put d .skp) σ fs ls:=Bq rfl
def Bfo(op:AO)(t:Nat):K3 T pr qa n m (oh op t true) (some (.bool true)) true e σ fs ls K=Hw T pr qa n m (oh op t true) (Bm op e σ) e σ fs ls K:=Bq rfl
def Bfp(op:AO)(t:Nat):K3 T pr qa n m (oh op t false) (some (.bool false)) false e σ fs ls K=Hw T pr qa n m (oh op t false) (Bm op e σ) e σ fs ls K:=Bq rfl
def Bfq(op:AO)(t:Nat):K3 T pr qa n m (oh op t false) (some (.bool true)) false e σ fs ls K=K e σ fs ls:=Bq rfl
def Bfr(op:AO)(t:Nat):K3 T pr qa n m (oh op t true) (some (.bool false)) true e σ fs ls K=K e σ fs ls:=Bq rfl
def Bjz(op:AO)(t:Nat)(w:Bool):K3 T pr qa n m (oh op t w) (some .skp) w e σ fs ls K=K e σ fs ls:=Bq rfl
def Bfs{i:AI}(v:V)(σ1:St):Me qa n m i .pu v σ1 e σ fs ls K=K (e.putO i.dst v) σ fs ls:=Bq rfl
def Bft{i:AI}(v:V)(σ1:St):Me qa n m i .rd v σ1 e σ [] ls K=K (e.putO i.dst v) σ [] ((m,fun s=>Af i.op e s=some (v,s))::ls):=propext ⟨fun h=>h.2,fun h=>⟨trivial,h⟩⟩
def Bfu{i:AI}(v:V)(σ1:St):Me qa n m i .ef v σ1 e σ [] [] K=K (e.putO i.dst v) σ1 [(m,σ,σ1)] []:=propext ⟨fun h=>h.2.2,fun h=>⟨trivial,trivial,h⟩⟩
def J6{i:AI}{v:V}{σ1:St}(h1:Qk qa n m fs)(h2:Ql qa n m σ σ1 ls)(h:K (e.putO i.dst v) σ1 ((m,σ,σ1)::fs) ls):Me qa n m i .ef v σ1 e σ fs ls K:=⟨h1,h2,h⟩
end
/-! settled values go over as they are -/
def Df:V->Bool
 | .agg cs=>cs.all V.rowB
 | .imm _ _=>true
 | v=>v.rowB
theorem Pj{v:V}(h:v.rowB=true):v.refs=[]:=by cases v<;>simp[V.rowB]at h<;>rfl
def Ff:∀ {cs:List V},cs.all V.rowB=true->Ah cs=[]
 | [],_=>rfl
 | c::cs,h=>by
  simp only[Bp,Ak]at h;simp only[Ah,Pj h.1,Ff h.2,Bw]
def Wh{v:V}(h:Df v=true):v.refs=[]:=by
 unfold Df at h
 split at h
 .exact Ff h
 .rfl
 grind[Pj]
def Uh:∀ {vs:List V},vs.all Df=true->Ah vs=[]
 | [],_=>rfl
 | c::cs,h=>by
  simp only[Bp,Ak]at h;simp only[Ah,Wh h.1,Uh h.2,Bw]
theorem Ud{σ:St}{js:List Nat}{d:Nat}{v:V}(h:v.rowB=true):Fh σ js (d+1) v=some v:=by
 simp_all [Fh]
theorem Ut{f:V->Option V}:∀ {cs:List V},(∀ c∈cs,f c=some c)->cs.mapM f=some cs
 | [],_=>rfl
 | c::cs,h=>by
  rw[J1,h c Cr,Ut fun c hc=>h c (Db _ hc)];rfl
theorem Yt{σ:St}{js:List Nat}{v:V}(h:Df v=true):Gy σ js v=some v:=by
 unfold Df at h
 split at h
 .grind[Gy,Ut,Ud]
 .rfl
 .rename_i h1 h2;unfold Gy
  split
  .grind
  .grind
  grind[Ud]
def Wp{σ:St}{vs:List V}(h:vs.all Df=true):Dw σ vs=some vs:=Ut fun c hc=>Yt (B6.1 h c hc)
section
variable {Q:Env->St->Prop} {e:Env} {σ:St} {k:List It} {l:List AI} {kill:List Nat} {f:Nat} {vs:List V} {v:V} {d:Option Nat}
def Ab(hf:Fn T pr f vs v)(hs:vs.all Df=true)(h:WR T pr l kill k (e.putO d v) σ Q):WX T pr (.call f vs) d l kill k e σ Q:=
 Jf (.pure (Wp hs) hf) (by rw[Wg (Uh hs)];exact h)
def Fu{s:List V->Option V}(hp:pr f=some s)(hs:vs.all Df=true)(hv:s vs=some v)(h:WR T pr l kill k (e.putO d v) σ Q):WX T pr (.call f vs) d l kill k e σ Q:=
 Jf (.prim hp (Wp hs) hv) (by rw[Wg (Uh hs)];exact h)
def B8{σ1:St}(hf:Th T pr f vs σ v σ1)(h:WR T pr l kill k (e.putO d v) σ1 Q):WX T pr (.call f vs) d l kill k e σ Q:=Jf (.thr hf) h
def Aa{σ1:St}(hf:Bt T pr f vs σ v σ1)(h:WR T pr l kill k (e.putO d v) σ1 Q):WX T pr (.call f vs) d l kill k e σ Q:=Jf (.any hf) h
variable {qa:List (List Nat)} {n m:Nat} {fs:Fs} {ls:Ls} {K:Env->St->Fs->Ls->Prop} {i:AI}
def Ax(hf:Fn T pr f vs v)(hs:vs.all Df=true)(h:K (e.putO i.dst v) σ fs ls):Hw T pr qa n m i (.call f vs) e σ fs ls K:=.inl ⟨v,vs,Uh hs,Wp hs,.inr hf,h⟩
def Aey{s:List V->Option V}(hp:pr f=some s)(hs:vs.all Df=true)(hv:s vs=some v)(h:K (e.putO i.dst v) σ fs ls):Hw T pr qa n m i (.call f vs) e σ fs ls K:=.inl ⟨v,vs,Uh hs,Wp hs,.inl ⟨s,hp,hv⟩,h⟩
def Aaf{σ1:St}(hf:Th T pr f vs σ v σ1)(h1:Qk qa n m fs)(h2:Ql qa n m σ σ1 ls)(h:K (e.putO i.dst v) σ1 ((m,σ,σ1)::fs) ls):Hw T pr qa n m i (.call f vs) e σ fs ls K:=.inr (.inr ⟨v,σ1,.thr hf,h1,h2,h⟩)
end
/-! ends -/
def FR(v0:V)(σ1:St)(v:V):Prop:=(Cb v0=true/\v0.refs=[]/\D8 [] v0=some v)\/∃ js,Hm 0 js v0 σ1=true/\D8 ((js.filterMap (σ1[·]?)).map (Ob.ren (ren 0 js))) (v0.ren (ren 0 js))=some v
def FL(o:Option V)(σ1:St)(v:V):Prop:=∃ v0,o=some v0/\FR v0 σ1 v
def FQ(res:List AR)(v:V)(e:Env)(σ:St):Prop:=FL (Ca e σ res) σ v
def Bc{f p:Nat}{res:List AR}{body:AC}{vs:List V}{v:V}(hT:T f=some ⟨p,res,false,body,none⟩)(hl:vs.length=p)(h:W T pr [.c body] (C6 0 vs) [] (FQ res v)):Fn T pr f vs v:=by
 obtain⟨e',σ',hE,v0,hr,h1 | ⟨js,h1,h2⟩⟩:=h
 .exact Arl hT rfl rfl hl ⟨e',σ',hE,v0,hr,h1⟩
 .exact A28 hT rfl rfl hl ⟨e',σ',hE,v0,js,hr,h1,h2⟩
def Bn3(r:AR)(v:V)(e:Env)(σ:St):FQ [r] v e σ=FL (Gs e σ r) σ v:=Bq rfl
def Bn4(r s:AR)(v:V)(e:Env)(σ:St):FQ [r,s] v e σ=FL ((Gs e σ r).bind fun a=>(Gs e σ s).map fun b=>.tup [a,b]) σ v:=by
 simp only[FQ,Ca,J1,Acf]
 cases Gs e σ r with
 | none=>rfl
 | some a=>cases Gs e σ s<;>rfl
def Bn5(r s t:AR)(v:V)(e:Env)(σ:St):FQ [r,s,t] v e σ=FL ((Gs e σ r).bind fun a=>(Gs e σ s).bind fun b=>(Gs e σ t).map fun c=>.tup [a,b,c]) σ v:=by
 simp only[FQ,Ca,J1,Acf]
 cases Gs e σ r with
 | none=>rfl
 | some a=>
  cases Gs e σ s with
  | none=>rfl
  | some b=>cases Gs e σ t<;>rfl
def Bav(v0 v:V)(σ:St):FL (some v0) σ v=FR v0 σ v:=propext ⟨fun⟨_,h,q⟩=>by cases h;exact q,fun h=>⟨_,rfl,h⟩⟩
theorem Zv{v:V}(h:Df v=true):Gc v=true:=by
 unfold Df at h
 split at h
 .rename_i cs;simp only[Gc];rw[B6]at h ⊢;intro c hc;have:=h c hc
  cases c<;>simp[V.rowB]at this<;>rfl
 .rfl
 .cases v<;>simp[V.rowB]at h<;>rfl
def F5{v:V}{σ:St}(h:Df v=true):FR v σ v:=by
 refine .inl ⟨?_,Wh h,?_⟩
 .cases v with
  | tup vs=>grind[Df,V.rowB]
  | _=>exact Zv h
 .unfold D8 Iw
  grind[Df,V.rowB,Yt]
def Fp{vs:List V}{σ:St}(h:vs.all Df=true):FR (.tup vs) σ (.tup vs):=by
 refine .inl ⟨?_,Uh h,?_⟩
 .grind[Cb,Zv]
 grind[D8,Iw,Ut,Yt]
def Ae{v v':V}{σ:St}(h:Df v=true)(he:v=v'):FR v σ v':=he ▸ F5 h
def TQ(res:List AR)(σ:St)(v:V)(σ':St)(e:Env)(σ1:St):Prop:=Ca e σ1 res=some v/\Amx σ.length σ v σ1/\σ'=σ1.take σ.length
def Bj0{f p:Nat}{res:List AR}{body:AC}{vs:List V}{v:V}{σ σ':St}(hT:T f=some ⟨p,res,true,body,none⟩)(hl:vs.length=p)(h:W T pr [.c body] (C6 0 vs) σ (TQ res σ v σ')):Th T pr f vs σ v σ':=Ark hT rfl rfl hl h
def Az{keep:List Nat}{c c':AC}{k:List It}{e:Env}{σ:St}{Q:Env->St->Prop}(hc:c=c')(h:WE T pr (e.keep keep) (.c c'::.l keep c::k) σ Q):W T pr (.l keep c::k) e σ Q:=by
 subst hc;rw[Bar];exact h
section
variable {qa:List (List Nat)} {n m:Nat} {e:Env} {σ:St} {fs:Fs} {ls:Ls} {K:Env->St->Fs->Ls->Prop} {i:AI}
@[congr] theorem Bpj {r r':Rs} (h:r=r'):Hw T pr qa n m i r e σ fs ls K=Hw T pr qa n m i r' e σ fs ls K:=by rw[h]
@[congr] theorem Bpk {g g':Option V} {w:Bool} (h:g=g'):K3 T pr qa n m i g w e σ fs ls K=K3 T pr qa n m i g' w e σ fs ls K:=by rw[h]
@[congr] theorem Bpl {z z':Kd} {v:V} {σ1:St} (h:z=z'):Me qa n m i z v σ1 e σ fs ls K=Me qa n m i z' v σ1 e σ fs ls K:=by rw[h]
end
variable {T:Nat->Option AF} {pr:Nat->Option (List V->Option V)}
def TR(v0:V)(σ:St)(v:V)(σ' σ1:St):Prop:=v0=v/\Amx σ.length σ v σ1/\σ'=σ1.take σ.length
def Bfv(a b:Nat)(l:List Nat):List.elem a (b::l)=if a=b then true else List.elem a l:=by
 grind
def Bfw(a:Nat):List.elem a []=false:=rfl
def Bj1(m n:Nat)(u v:V)(r:Env):Env.put ((m,u)::r) n v=if m=n then(n,v)::r else(m,u)::Env.put r n v:=Bq rfl
def Bj2(n:Nat)(v:V):Env.put [] n v=[(n,v)]:=Bq rfl
def Bj3(m:Nat)(u:V)(r:Env)(ks:List Nat):Env.del ((m,u)::r) ks=if ks.elem m=true then Env.del r ks else(m,u)::Env.del r ks:=Bq rfl
def Bj4(ks:List Nat):Env.del [] ks=[]:=Bq rfl
def Bfx(e:Env)(n:Nat)(ks:List Nat):e.keep (n::ks)=(n,e.get n)::e.keep ks:=Bq rfl
def Bfy(e:Env):e.keep []=[]:=Bq rfl
def Bj5(n:Nat):Env.get [] n=.und:=rfl
section
variable {Q:Env->St->Prop} {e:Env} {σ:St} {k:List It} {l:List AI} {kill:List Nat}
def Bj6(d:Option Nat)(op:AO):WD T pr (.bool true) true d op l kill k e σ Q=WX T pr (Bm op e σ) d l kill k e σ Q:=Bq rfl
def Bj7(d:Option Nat)(op:AO):WD T pr (.bool false) false d op l kill k e σ Q=WX T pr (Bm op e σ) d l kill k e σ Q:=Bq rfl
def Bj8(d:Option Nat)(op:AO):WD T pr (.bool true) false d op l kill k e σ Q=WR T pr l kill k (e.putO d .skp) σ Q:=Bq rfl
def Bj9(d:Option Nat)(op:AO):WD T pr (.bool false) true d op l kill k e σ Q=WR T pr l kill k (e.putO d .skp) σ Q:=Bq rfl
end
def Bka(d:Nat)(op:AO):(o d op).dst=some d:=rfl
def Bfz(op:AO):(on op).dst=none:=rfl
def Bf0(d:Nat)(op:AO)(t:Nat)(w:Bool):(og d op t w).dst=some d:=rfl
def Bf1(op:AO)(t:Nat)(w:Bool):(oh op t w).dst=none:=rfl
def Mf(o:Option Ob)(g n:Nat)(one:Bool)(off:Nat):Option V:=
 match o with
 | some (.row cs _ g' _)=>if g=g'/\off+n<=cs.length then Hu one ((cs.drop off).take n) else none
 | _=>none
def Af1(cs:List V)(e g' z g n:Nat)(one:Bool)(off:Nat):Mf (some (.row cs e g' z)) g n one off=if g=g'/\off+n<=cs.length then Hu one ((cs.drop off).take n) else none:=Bq rfl
def Bf2(σ:St)(n:Nat)(one:Bool)(i g off:Nat):H6 σ n one (.ptr i g off)=Mf σ[i]? g n one off:=Bq rfl
def Bf3(σ:St)(n:Nat)(one:Bool)(row:List V)(off:Nat):H6 σ n one (.imm row off)=if off+n<=row.length then Hu one ((row.drop off).take n) else none:=Bq rfl
def Abe(o:Option Ob)(σ:St)(n i g off:Nat)(v:V):Option (V × St):=
 match o with
 | some (.row cs e g' z)=>if g=g'/\z<=off/\v.cells.length=n/\v.cells.all V.cellB=true then(Pw cs off v.cells).map fun cs'=>(.und,σ.set i (.row cs' e g z)) else none
 | _=>none
def Bf4(cs:List V)(e g' z:Nat)(σ:St)(n i g off:Nat)(v:V):Abe (some (.row cs e g' z)) σ n i g off v=if g=g'/\z<=off/\v.cells.length=n/\v.cells.all V.cellB=true then(Pw cs off v.cells).map fun cs'=>(.und,σ.set i (.row cs' e g z)) else none:=Bq rfl
def Ax8(σ:St)(n i g off:Nat)(v:V):Agi n (.ptr i g off) v σ=Abe σ[i]? σ n i g off v:=by
 grind[Agi,Q3,Abe,Pw]
def Bkb:Mc .nils=some (.int .i64 0):=rfl
def Bkc(t:Nat)(xs:List (List V)):Mc (.lst t xs)=some (.int .i64 (xs.length:Int)):=rfl
def Ax9(i g off len m:Nat)(w:Bool):Mc (.sl i g off len m w)=some (.int .i64 (len:Int)):=rfl
def Bkd(m t:Nat)(xs:List (List V))(i:V):Mb m (.lst t xs) i=(Jw xs i).bind fun r=>if r.length=m then some (.imm r 0) else none:=Bq rfl
def Bke(m j g off len m':Nat)(w:Bool)(k:IntKind)(n:Int):Mb m (.sl j g off len m' w) (.int k n)=if 0<=n/\n<len/\m=m' then some (.ptr j g (off+n.toNat*m)) else none:=Bq rfl
def Bkf(off:Nat)(r:List V)(o:Nat):Agj off (.imm r o)=some (.imm r (o+off)):=Bq rfl
def Bkg(off b g o:Nat):Agj off (.ptr b g o)=some (.ptr b g (o+off)):=Bq rfl
def Bkh(off n:Nat)(one:Bool)(cs:List V):Am3 off n one (.agg cs)=if off+n<=cs.length then Hu one ((cs.drop off).take n) else none:=Bq rfl
def Baw(k:IntKind)(n:Int):V.cells (.int k n)=[.int k n]:=rfl
def Bax(l:List UInt8):V.cells (.str l)=[.str l]:=rfl
def Bay(b:Bool):V.cells (.bool b)=[.bool b]:=rfl
def Baz:V.cells .nils=[.nils]:=rfl
def Ba0(t:Nat)(xs:List (List V)):V.cells (.lst t xs)=[.lst t xs]:=rfl
def A6e(i g o l m:Nat)(w:Bool):V.cells (.sl i g o l m w)=[.sl i g o l m w]:=rfl
def Ba1(i g o:Nat):V.cells (.ptr i g o)=[.ptr i g o]:=rfl
def A6f:V.cells .nilp=[.nilp]:=rfl
def A3d(r:List V)(o:Nat):V.cells (.imm r o)=[.imm r o]:=rfl
def A6g(f:Nat)(a c:List V):V.cells (.fn f a c)=[.fn f a c]:=rfl
def A6h(i:Nat):V.cells (.mp i)=[.mp i]:=rfl
def Ba2(cs:List V):V.cells (.agg cs)=cs:=rfl
def Bf5(σ:St)(m:Nat):Eu σ m .nils=some []:=Bq rfl
def Bf6(σ:St)(m t:Nat)(xs:List (List V)):Eu σ m (.lst t xs)=some xs:=Bq rfl
def mk1(c:V):Hu true [c]=some c:=rfl
def mkA(cs:List V):Hu false cs=some (.agg cs):=rfl
def Ajy(s l:St)(n:Nat):(s++l)[s.length+n]?=l[n]?:=by grind
def Nc(s l:St):(s++l)[s.length]?=l[0]?:=by grind
def Ba3(s l:St)(n:Nat)(x:Ob):(s++l).set (s.length+n) x=s++l.set n x:=by grind
def A6i(s l:St)(x:Ob):(s++l).set s.length x=s++l.set 0 x:=by grind
def Ajz{α:Type}(l:List α)(k:IntKind)(n:Nat):Jw l (.int k (n:Int))=l[n]?:=by
 simp[Jw]
theorem B7{n:Int}(h : -9223372036854775808<=n/\n<=9223372036854775807):IntKind.i64.wrap n=n:=Go.IntWalk.i64_in _ h
def Ba4{n:Int}(h1 : -9223372036854775808<=n)(h2:n<=9223372036854775807):IntKind.i64.wrap n=n:=B7 ⟨h1,h2⟩
def Bn6(t:Nat)(v:V)(σ σ' σ1:St)(e:Env):TQ [.tmp t] σ v σ' e σ1=TR (e.get t) σ v σ' σ1:=Bq (propext ⟨fun⟨h1,h2⟩=>⟨Iu h1,h2⟩,fun⟨h1,h2⟩=>⟨congrArg some h1,h2⟩⟩)
def Ad8{v:V}{σ:St}(J:St)(h:v.rowB=true):TR v σ v σ (σ++J):=by
 refine⟨rfl,⟨?_,?_,fun i ob hi ho=>.inl ?_⟩,by simp⟩
 .cases v<;>simp[V.rowB]at h<;>rfl
 .rw[Pj h];rfl
 grind
def Ay{i:Nat}(h:i<9223372036854775807):IntKind.i64.wrap ((i:Int)+1)=((i+1:Nat):Int):=by grind[B7]
def Ar{i n:Nat}(h:i<n):decide ((i:Int)<(n:Int))=true:=by grind
def Bi{i n:Nat}(h:n<=i):decide ((i:Int)<(n:Int))=false:=by grind
def Bn7{i n:Nat}(h:n<=i):decide ((n:Int)<=(i:Int))=true:=by grind
def Bn8{i n:Nat}(h:i<n):decide ((n:Int)<=(i:Int))=false:=by grind
def Bl{α:Type}{l:List α}{i:Nat}(h:i<l.length):∃ x,l[i]?=some x/\l.drop i=x::l.drop (i+1)/\x∈l:=⟨l[i],Cd h,Gr h,N9 h⟩
def Bh{keep:List Nat}{c:AC}{k:List It}{Q:Env->St->Prop}{α:Type}(μ:α->Nat)(E:α->Env)(Z:α->St)(I:α->Prop)
  (h:∀ a,I a->(∀ b,μ b<μ a->I b->W T pr (.l keep c::k) (E b) (Z b) Q)->W T pr (.l keep c::k) (E a) (Z a) Q):∀ a,I a->W T pr (.l keep c::k) (E a) (Z a) Q:=by
 suffices ∀ n a,μ a=n->I a->W T pr (.l keep c::k) (E a) (Z a) Q from fun a=>this _ a rfl
 intro n
 induction n using Nat.strongRecOn with
 | _ n ih=>grind
def Bn9(cs:List V):Df (.agg cs)=cs.all V.rowB:=rfl
def Boa(r:List V)(o:Nat):Df (.imm r o)=true:=rfl
def Ay8(k:IntKind)(n:Int):Df (.int k n)=true:=rfl
def Bob(l:List UInt8):Df (.str l)=true:=rfl
def Boc(b:Bool):Df (.bool b)=true:=rfl
def Bod:Df .nils=true:=rfl
def Boe:Df .nili=true:=rfl
def Bof(t:Nat)(xs:List (List V)):Df (.lst t xs)=true:=rfl
/-! settled slices -/
def SL(z:Bool)(t:Nat)(xs:List (List V)):V:=if z=true/\xs=[] then .nils else .lst t xs
def G8(z:Bool)(t:Nat)(xs:List (List V)):(SL z t xs).rowB=true:=by unfold SL;split<;>rfl
def Sk(z:Bool)(t:Nat)(xs:List (List V)):(SL z t xs).cellB=true:=by unfold SL;split<;>rfl
def Aag(z:Bool)(t:Nat)(xs:List (List V)):Df (SL z t xs)=true:=by unfold SL;split<;>rfl
def Arr(z:Bool)(t:Nat)(xs:List (List V)):(SL z t xs).cells=[SL z t xs]:=by unfold SL;split<;>rfl
def Aah(z:Bool)(t:Nat)(xs:List (List V)):Mc (SL z t xs)=some (.int .i64 (xs.length:Int)):=by
 unfold SL
 split
 .rename_i h;rw[h.2];rfl
 .rfl
def Aez(z:Bool)(t:Nat)(xs:List (List V))(m:Nat)(i:V):Mb m (SL z t xs) i=(Jw xs i).bind fun r=>if r.length=m then some (.imm r 0) else none:=by
 unfold SL
 split
 .rename_i h;rw[h.2]
  cases i<;>simp[Mb,Jw]
 .rfl
def Zw(z:Bool)(t:Nat)(xs:List (List V))(σ:St)(m:Nat):Eu σ m (SL z t xs)=some xs:=by
 unfold SL
 split
 .rename_i h;rw[h.2];rfl
 .rfl
attribute [go_sem] Nat.reduceEqDiff reduceIte Nat.reduceAdd Nat.reduceMul Nat.reduceLeDiff Int.reduceLT Int.reduceLE Int.reduceToNat Int.reduceAdd Int.reduceNeg Int.reduceEq
attribute [go_sem ↓] Alw Be9 Ax6 Bjm Bfa Ax7 Bjn Bjo Bfb Bfc Bny Bnz Bn0 Bfd Bn1 Bjp Bjq Bjr Bfg Bn2 Bju Bjv Bjw Bi1 Bi2 get_put A6c A3b A3c Bn3 Bn4 Bn5 Bn6
attribute [go_sem ↓] Ajz Bi3 Bez Bi4 Bi5 Bao Be0 Be1 Be2 Bnt Be3 Bap Bi6 Bi7 Bnu Bnv Bi8 Be4 Bi9 Be5 Bja Bjb Bjc Bjd Bje Bjf Bjg Be6 Bjh Bji Be7 Bnw Bnx Bjj Bjk Bjl Be8 Baq
attribute [go_sem] we Bfe Bas Bff Bj6 Bj7 Bj8 Bj9 Bau A6d Bak Bal Bam Ban Bjx Bfh Bfi Bfj Bfk Bfl Bfm Bfn Bjy Bfo Bfp Bfq Bfr Bjz Bfs Bft Bfu kd Bav
attribute [go_sem] Bj5 Bj1 Bj2 Bj3 Bj4 Bfx Bfy Bfv Bfw C6 Gs
attribute [go_sem] Abd Amu Ap unV Alt Ay5 mkV Am0 Am1 Nz eqB Amq Amr Ams Amt Am2 Alu Tm Du Am4 Am5 Am6 Am7 Alv mxV mnV Am8 Ay6 Am9 mk1 mkA Pw I0 Fk Bn9 Boa Ay8 Bob Boc Bod Boe Bof Ben Bep Baa Bac Bae Ber Bet Biv Bag Bai Bev Bex Bix Biz Beo Beq Bab Bad Baf Bes Beu Biw Bah Baj Bew Bey Biy Bi0 decide_true decide_false gt_iff_lt ge_iff_le ne_eq not_false_eq_true not_true_eq_false Bka Bfz Bf0 Bf1 Af1 Bf2 Bf3 Bf4 Ax8 Bkb Bkc Ax9 Bkd Bke Bkf Bkg Bkh Baw Bax Bay Baz Ba0 A6e Ba1 A6f A3d A6g A6h Ba2 Bf5 Bf6
attribute [go_sem] Ajy Nc Ba3 A6i Jw Ba4 G8 Sk Aag Arr Aah Aez Zw
attribute [go_sem] Is Option.map_none Cy Option.bind_none A2 Bz Bp Ce Yn Acg Ahr and_self and_true true_and eq_self Bg Dq Aq Jd Ahd Ahn List.take_succ_cons Jb Ci Dk Bw Tw Pc Ab8 Ahg List.replicate Fe Acc F9 Oh Ahu Nat.one_mul Yu Hj Bool.true_eq_false Ba Bd Bool.bne_false Bool.bne_true if_true if_false ite_true ite_false J0 C4
variable {T:Nat->Option AF} {pr:Nat->Option (List V->Option V)}
theorem Ml(σ:St):∀ (d:Nat) (js:List Nat) (i:Nat),i∈js->i∈Fy σ d js
 | 0,_,_,h=>h
 | d+1,js,i,h=>by
  simp only[Fy]
  split
  .exact h
  .exact Ml σ d _ i (Rw _ h)
def OC(σ:St)(v v':V):Prop:=∀ js:List Nat,(∀ i∈v.refs,i∈js)->∀ d,Fh σ js (d+2) v=some v'
def OV(σ:St)(v v':V):Prop:=∀ js:List Nat,(∀ i∈v.refs,i∈js)->Gy σ js v=some v'
inductive OVs (σ:St):List V->List V->Prop
 | nil:OVs σ [] []
 | cons {v v':V} {vs qc:List V}:OV σ v v'->OVs σ vs qc->OVs σ (v::vs) (v'::qc)
inductive OCs (σ:St):List V->List V->Prop
 | nil:OCs σ [] []
 | cons {v v':V} {vs qc:List V}:OC σ v v'->OCs σ vs qc->OCs σ (v::vs) (v'::qc)
def Sl{σ:St}{js:List Nat}:∀ {vs qc:List V},OVs σ vs qc->(∀ i∈Ah vs,i∈js)->vs.mapM (Gy σ js)=some qc
 | _,_,.nil,_=>rfl
 | _,_,.cons h hs,hj=>by
  simp only[Ah,Ch]at hj;rw[J1,h js fun i hi=>hj i (.inl hi),Sl hs fun i hi=>hj i (.inr hi)];rfl
def Aj0{σ:St}{js:List Nat}{d:Nat}:∀ {vs qc:List V},OCs σ vs qc->(∀ i∈Ah vs,i∈js)->vs.mapM (Fh σ js (d+2))=some qc
 | _,_,.nil,_=>rfl
 | _,_,.cons h hs,hj=>by
  simp only[Ah,Ch]at hj;rw[J1,h js (fun i hi=>hj i (.inl hi)) d,Aj0 hs fun i hi=>hj i (.inr hi)];rfl
def Ad9{σ:St}{vs qc:List V}(h:OVs σ vs qc):Dw σ vs=some qc:=Sl h fun i hi=>Ml σ 9 _ i (Pe.2 hi)
def Em{σ:St}{v:V}(h:v.rowB=true):OC σ v v:=fun _ _ _=>Ud h
def H2{σ:St}{v:V}(h:Df v=true):OV σ v v:=fun _ _=>Yt h
def Sw{σ:St}{cs cs':List V}(h:OCs σ cs cs'):OV σ (.agg cs) (.agg cs'):=fun js hj=>by
 simp only[Gy];rw[Aj0 (d:=7) h hj];rfl
def Oo{σ:St}{v v':V}(h:OC σ v v')(hc:v.cellB=true):OV σ v v':=fun js hj=>by
 unfold Gy
 split
 .have:=h js hj 0
  grind[Fh]
 .grind[V.cellB]
 .exact h js hj 7
theorem Ac5(m:Nat):∀ (xs:List (List V)) (tl:List V),(∀ r∈xs,r.length=m)->Fk m xs.length (xs.flatten++tl)=xs
 | [],_,_=>rfl
 | r::xs,tl,h=>by
  have hr:=h r Cr;simp only[Bg,Fk,Fe,Dk];rw[<-hr,Ua,List.drop_left];congr 1;rw[hr];exact Ac5 m xs tl fun r hr=>h r (Db _ hr)
theorem Ue{m:Nat}{xs:List (List V)}(h:∀ r∈xs,r.length=m):Fk m xs.length xs.flatten=xs:=by
 have:=Ac5 m xs [] h
 grind
theorem Ga{m:Nat}:∀ {xs:List (List V)},(∀ r∈xs,r.length=m)->xs.flatten.length=xs.length*m
 | [],_=>by simp
 | r::xs,h=>by
  rw[Fe,Aq,h r Cr,Ga fun r hr=>h r (Db _ hr),Bg,F1,Acm]
theorem Pz{σ:St}{i g m e z:Nat}{w:Bool}{xs:List (List V)}(ho:σ[i]?=some (.row xs.flatten e g z))(hm:0<m)(hl:∀ r∈xs,r.length=m)(hr:∀ r∈xs,r.all V.rowB=true):OC σ (.sl i g 0 xs.length m w) (.lst 0 xs):=by
 intro js hj d
 have hi:js.elem i=true:=by
  have:=hj i AS;simpa using this
 have hf:=Ga hl;unfold Fh;rw[if_neg AQ];simp only[hi,if_true,ho];rw[if_pos ⟨trivial,hm,by omega⟩,Jd,<-hf,Dg,Ut fun c hc=>?_]
 .grind[Ue]
 grind[Ud]
section
variable {Q:Env->St->Prop} {e:Env} {σ:St} {k:List It} {l:List AI} {kill:List Nat} {f:Nat} {args vs:List V} {v:V} {d:Option Nat}
def Aya(hx:OVs σ args vs)(hf:Fn T pr f vs v)(qj:v.flatV=true)(h:WR T pr l kill k (e.putO d v) σ Q):WX T pr (.call f args) d l kill k e σ Q:=
 Jf (.pure (Ad9 hx) hf) (by unfold after;rw[if_pos qj];exact h)
variable {qa:List (List Nat)} {n m:Nat} {fs:Fs} {ls:Ls} {K:Env->St->Fs->Ls->Prop} {i:AI}
def Aku(hx:OVs σ args vs)(hf:Fn T pr f vs v)(qj:v.flatV=true)(h:K (e.putO i.dst v) σ [] ((m,fun s=>Dw s args=some vs)::ls)):Hw T pr qa n m i (.call f args) e σ [] ls K:=
 .inr (.inl ⟨v,vs,Ad9 hx,.inr hf,qj,trivial,h⟩)
end
/-! code that ends where it ends: the rest is apart -/
def AC.flat:AC->Bool
 | .skip | .reg _ _ | .drw _ _ _=>true
 | .seq a b=>a.flat&&b.flat
 | .cond _ _ x y=>x.flat&&y.flat
 | _=>false
def Hd(P:Env->St->Prop)(e:Env)(σ:St):Prop:=P e σ
@[congr] theorem Bpt {P:Env->St->Prop} {e e':Env} {σ:St} (h:e=e'):Hd P e σ=Hd P e' σ:=by rw[h]
/-! lists that grow: nil, or a slice of an object of their own that they fill -/
def GV(σ:St)(m e lo:Nat)(u:V)(xs:List (List V)):Prop:=(u=.nils/\xs=[])\/∃ i g,u=.sl i g 0 xs.length m true/\σ[i]?=some (.row xs.flatten e g 0)/\lo<=i
def Bf7{σ:St}{m e lo:Nat}:GV σ m e lo .nils []:=.inl ⟨rfl,rfl⟩
def Aug{σ:St}{m e lo:Nat}{u:V}{xs:List (List V)}(h:GV σ m e lo u xs):u.cellB=true:=by
 rcases h with⟨rfl,rfl⟩ | ⟨i,g,rfl,ho,qb⟩<;>rfl
def Bf8{σ:St}{m e lo:Nat}{u:V}{xs:List (List V)}(h:GV σ m e lo u xs):Mc u=some (.int .i64 (xs.length:Int)):=by
 rcases h with⟨rfl,rfl⟩ | ⟨i,g,rfl,ho,qb⟩<;>rfl
def Akv{σ:St}{m e lo bytes:Nat}{u y:V}{xs ys:List (List V)}(h:GV σ m e lo u xs)(qe:lo<=σ.length)(hy:Eu σ m y=some ys)(hm:0<m)(hl:∀ r∈xs,r.length=m)(qh:∀ r∈ys,r.length=m)(hb:(xs.length+ys.length)*bytes<=140737488355328):
  ∃ u' σ',Dz bytes (m,e) u y σ=some (u',σ')/\GV σ' m e lo u' (xs++ys)/\σ.length<=σ'.length/\(∀ j,(∀ i g,u=.sl i g 0 xs.length m true->j≠i)->j<σ.length->σ'[j]?=σ[j]?)/\∀ j,j<lo->σ'[j]?=σ[j]?:=by
 have qf:(ys.all fun r=>r.length==m)=true:=by
  rw[B6];intro r hr;simp[qh r hr]
 unfold Dz;simp only[hy,Cy];unfold Jr;rw[if_pos ⟨qf,hm⟩];rcases h with⟨rfl,rfl⟩ | ⟨i,g,rfl,ho,qb⟩
 .simp only;rw[if_pos (by grind)]
  cases ys with
  | nil=>exact⟨.nils,σ,rfl,.inl ⟨rfl,rfl⟩,An _,fun _ _ _=>rfl,fun _ _=>rfl⟩
  | cons y ys=>exact⟨_,_,rfl,.inr ⟨σ.length,0,rfl,by simp,qe⟩,by simp,fun j _ hj=>C3 hj,fun j hj=>C3 AA⟩
 .simp only;rw[if_pos ⟨hb,trivial⟩];simp only[ho,if_true]
  cases ys with
  | nil=>exact⟨_,σ,rfl,.inr ⟨i,g,by simp,by grind,qb⟩,An _,fun _ _ _=>rfl,fun _ _=>rfl⟩
  | cons y ys=>
   have hf:=Ga hl;have qo:=Ga qh;have qp:(y::ys).flatten.length=(ys.length+1)*m:=by rw[qo];rfl
   rw[if_neg AE,if_pos AE,if_neg (by
    grind),if_pos hf]
   refine⟨_,_,rfl,.inr ⟨i,g+1,by grind,?_,qb⟩,by simp,fun j hj _=>?_,fun j hj=>by grind⟩
   .grind
   grind
def Lc{v:V}(h:v.cellB=true):v.cells=[v]:=by cases v<;>simp[V.cellB]at h<;>rfl
def Bs{s l:St}{j:Nat}{x:Ob}(h:s[j]?=some x):(s++l)[j]?=some x:=by
 grind
def Ba5{σ l:St}{m e lo:Nat}{u:V}{xs:List (List V)}(h:GV σ m e lo u xs):GV (σ++l) m e lo u xs:=by
 rcases h with h | ⟨i,g,h,ho,qb⟩
 .exact .inl h
 .exact .inr ⟨i,g,h,Bs ho,qb⟩
def Gl{xs:List (List V)}(hr:∀ r∈xs,r.all V.rowB=true):xs.flatten.all V.rowB=true:=by
 grind
def Nh(i:Nat):∀ cs:List V,cs.all V.rowB=true->E6 (ren 0 [i]) cs=cs
 | [],_=>rfl
 | c::cs,h=>by
  simp only[Bp,Ak]at h;simp only[E6];rw[Nh i cs h.2];congr 1
  cases c<;>simp[V.rowB]at h<;>rfl
def Akw(ρ:Nat->Nat):∀ a b:List V,E6 ρ (a++b)=E6 ρ a++E6 ρ b
 | [],_=>rfl
 | c::a,b=>by simp only[Jb,E6,Akw ρ a b]
theorem Hn:∀ a b:List V,Ah (a++b)=Ah a++Ah b
 | [],_=>rfl
 | c::a,b=>by simp only[Jb,Ah,Hn a b,Dk]
def U1{cs:List V}(h:cs.all V.rowB=true):cs.all V.cellB=true:=by
 rw[B6]at h ⊢;intro c hc;have:=h c hc
 cases c<;>simp[V.rowB]at this<;>rfl
def Auh{σ:St}{a a' b b':List V}(h1:OCs σ a a')(h2:OCs σ b b'):OCs σ (a++b) (a'++b'):=by
 induction h1 with
 | nil=>exact h2
 | cons h _ ih=>exact .cons h ih
def Zx{σ:St}:∀ {cs:List V},cs.all V.rowB=true->OCs σ cs cs
 | [],_=>.nil
 | c::cs,h=>by
  simp only[Bp,Ak]at h;exact .cons (Em h.1) (Zx h.2)
def Af2{σ:St}{m e i g:Nat}{xs:List (List V)}(ho:σ[i]?=some (.row xs.flatten e g 0))(hm:0<m)(hl:∀ r∈xs,r.length=m)(hr:∀ r∈xs,r.all V.rowB=true):FR (.sl i g 0 xs.length m true) σ (.lst 0 xs):=by
 obtain⟨hi,qr⟩:=Al.1 ho;have hx:Ah xs.flatten=[]:=Ff (Gl hr);have h0:ren 0 [i] i=0:=by simp[ren,Yk]
 refine .inr ⟨[i],?_,?_⟩
 .grind[Hm,Cb,Gc,V.cellB,V.refs,Ef,Ob.refs]
 .simp only[Lo,ho,Rx,A2,Bz,Ob.ren,Nh i _ (Gl hr),V.ren,h0];simp only[D8,Iw,Gy];exact Pz (σ:=[.row xs.flatten e g 0]) (i:=0) (g:=g) (e:=e) (z:=0) (w:=true) rfl hm hl hr (Fy [.row xs.flatten e g 0] 9 (V.refs (.sl 0 g 0 xs.length m true)).eraseDups) (fun j hj=>Ml _ _ _ _ (Pe.2 hj)) 7
def A3e{σ:St}{m e i g:Nat}{xs:List (List V)}{pre post:List V}(ho:σ[i]?=some (.row xs.flatten e g 0))(hm:0<m)(hl:∀ r∈xs,r.length=m)(hr:∀ r∈xs,r.all V.rowB=true)(h1:pre.all V.rowB=true)(h2:post.all V.rowB=true):FR (.agg (pre++.sl i g 0 xs.length m true::post)) σ (.agg (pre++.lst 0 xs::post)):=by
 obtain⟨hi,qr⟩:=Al.1 ho;have hx:Ah xs.flatten=[]:=Ff (Gl hr)
 have qg:Ah (pre++V.sl i g 0 xs.length m true::post)=[i]:=by
  rw[Hn,Ff h1];simp only[Ah,Ff h2,V.refs,Ci,Bw]
 have h0:ren 0 [i] i=0:=by simp[ren,Yk]
 refine .inr ⟨[i],?_,?_⟩
 .simp only[Hm,Cb,Gc,V.refs,qg,Ace,Bp,U1 h1,U1 h2,V.cellB]
  simp_all [Ef,Ob.refs]
 .simp only[Lo,ho,Rx,A2,Bz,Ob.ren,Nh i _ (Gl hr),V.ren,Akw,Nh i _ h1,E6,Nh i _ h2,h0];exact Sw (σ:=[.row xs.flatten e g 0]) (Auh (Zx h1) (.cons (Pz (σ:=[.row xs.flatten e g 0]) (i:=0) (g:=g) (e:=e) (z:=0) (w:=true) rfl hm hl hr) (Zx h2))) _ fun j hj=>Ml _ _ _ _ (Pe.2 hj)
def GW(σ:St)(m e lo:Nat)(u:V)(xs:List (List V)):Prop:=(u=.nils/\xs=[])\/(xs≠[]/\∃ i g,u=.sl i g 0 xs.length m true/\σ[i]?=some (.row xs.flatten e g 0)/\lo<=i)
theorem De{σ:St}{m e lo:Nat}:GW σ m e lo .nils []:=.inl ⟨rfl,rfl⟩
def Aly{σ:St}{m e lo:Nat}{u:V}{xs:List (List V)}(h:GW σ m e lo u xs):GV σ m e lo u xs:=h.imp id fun h=>h.2
theorem Bx{σ:St}{m e lo:Nat}{u:V}{xs:List (List V)}(h:GW σ m e lo u xs):u.cellB=true:=Aug (Aly h)
def G9{σ:St}{m e lo bytes:Nat}{u y:V}{xs ys:List (List V)}(h:GW σ m e lo u xs)(qe:lo<=σ.length)(hy:Eu σ m y=some ys)(hm:0<m)(hl:∀ r∈xs,r.length=m)(qh:∀ r∈ys,r.length=m)(hb:(xs.length+ys.length)*bytes<=140737488355328):
  ∃ u' σ',Dz bytes (m,e) u y σ=some (u',σ')/\GW σ' m e lo u' (xs++ys)/\σ.length<=σ'.length/\(∀ j,(∀ i g,u=.sl i g 0 xs.length m true->j≠i)->j<σ.length->σ'[j]?=σ[j]?)/\∀ j,j<lo->σ'[j]?=σ[j]?:=by
 obtain⟨u',σ',h1,h2,h3,h4,h5⟩:=Akv (Aly h) qe hy hm hl qh hb;refine⟨u',σ',h1,?_,h3,h4,h5⟩;by_cases he:xs++ys=[]
 .rw[List.append_eq_nil_iff]at he;obtain⟨rfl,rfl⟩:=he;rcases h with⟨rfl,_⟩ | ⟨hn,_⟩
  .grind[Dz,Jr,De]
  grind
 .exact h2.imp id fun h=>⟨he,h⟩
def H0{σ l:St}{m e lo:Nat}{u:V}{xs:List (List V)}(h:GW σ m e lo u xs):GW (σ++l) m e lo u xs:=by
 rcases h with h | ⟨hn,i,g,h,ho,qb⟩
 .exact .inl h
 .exact .inr ⟨hn,i,g,h,Bs ho,qb⟩
def Dv{σ:St}{j:Nat}{x:Ob}{m e lo:Nat}{u:V}{xs:List (List V)}(h:GW σ m e lo u xs)(hj:j<lo):GW (σ.set j x) m e lo u xs:=by
 rcases h with h | ⟨hn,i,g,h,ho,qb⟩
 .exact .inl h
 .exact .inr ⟨hn,i,g,h,by grind,qb⟩
theorem S7{t:Nat}{xs:List (List V)}(h:xs≠[]):SL true t xs=.lst t xs:=by grind[SL]
def I1{σ:St}{m e lo:Nat}{u:V}{xs:List (List V)}(h:GW σ m e lo u xs)(hm:0<m)(hl:∀ r∈xs,r.length=m)(hr:∀ r∈xs,r.all V.rowB=true):OC σ u (SL true 0 xs):=by
 rcases h with⟨rfl,rfl⟩ | ⟨hn,i,g,rfl,ho,qb⟩
 .exact Em rfl
 grind[S7,Pz]
def Rb{σ:St}{m e lo:Nat}{u:V}{xs:List (List V)}(h:GW σ m e lo u xs)(hm:0<m)(hl:∀ r∈xs,r.length=m)(hr:∀ r∈xs,r.all V.rowB=true):FR u σ (SL true 0 xs):=by
 rcases h with⟨rfl,rfl⟩ | ⟨hn,i,g,rfl,ho,qb⟩
 .exact F5 rfl
 .rw[S7 hn];exact Af2 ho hm hl hr
def Bf9{σ:St}{m e lo:Nat}{u:V}{xs:List (List V)}{pre post:List V}(h:GW σ m e lo u xs)(hm:0<m)(hl:∀ r∈xs,r.length=m)(hr:∀ r∈xs,r.all V.rowB=true)(h1:pre.all V.rowB=true)(h2:post.all V.rowB=true):FR (.agg (pre++u::post)) σ (.agg (pre++SL true 0 xs::post)):=by
 rcases h with⟨rfl,rfl⟩ | ⟨hn,i,g,rfl,ho,qb⟩
 .exact F5 (by simp only[Df,Ace,Bp,h1,h2];rfl)
 .rw[S7 hn];exact A3e ho hm hl hr h1 h2
/-! what a call leaves of the state, where an argument names a list's object -/
def Aow(σ:St)(i j:Nat)(h:j≠i):(σ.freeze [i])[j]?=σ[j]?:=by
 grind[St.freeze]
def A0m(σ:St)(i:Nat):(σ.freeze [i]).length=σ.length:=by
 grind[St.freeze]
section
variable {T:Nat->Option AF} {pr:Nat->Option (List V->Option V)} {Q:Env->St->Prop} {e:Env} {σ:St} {k:List It} {l:List AI} {kill:List Nat} {f:Nat} {args vs:List V} {v:V} {d:Option Nat}
def Alz{σ':St}(hx:OVs σ args vs)(hf:Fn T pr f vs v)(ha:after σ args v=σ')(h:WR T pr l kill k (e.putO d v) σ' Q):WX T pr (.call f args) d l kill k e σ Q:=
 Jf (.pure (Ad9 hx) hf) (by rw[ha];exact h)
end
def Awi{σ:St}{cs:List V}{m n:Nat}(h:cs.all V.rowB=true):Py m n σ cs=some (.lst 1 (Fk m n cs),σ):=by
 unfold Py;rw[Ut fun c hc=>Ud (B6.1 h c hc),Ff h];rfl
attribute [go_sem] Awi
def Wi(z:Bool)(t m:Nat)(xs:List (List V))(k:IntKind)(b:Nat)(hb:b<=xs.length):∃ z' t',Hf m (SL z t xs) none (some (.int k (b:Int))) none=some (SL z' t' (xs.take b)):=by
 unfold SL
 split
 .rename_i h;obtain⟨rfl,rfl⟩:=h
  simp_all [Hf,Du]
 simp_all [Hf,Du]
def A3f(z:Bool)(t m:Nat)(xs:List (List V))(k:IntKind)(b:Nat)(hb:b<=xs.length)(hm:∀ r∈xs,r.length=m):∃ z' t',Hf m (SL z t xs) (some (.int k (b:Int))) none none=some (SL z' t' (xs.drop b)):=by
 unfold SL
 split
 .rename_i h;obtain⟨rfl,rfl⟩:=h
  simp_all [Hf,Du]
 simp_all [Hf,Du]
def Cl(s:St):Prop:=∀ ob∈s,∀ i∈ob.refs,i<s.length
theorem Jg{s:St}{ob:Ob}(h:Cl s)(ho:∀ i∈ob.refs,i<s.length+1):Cl (s++[ob]):=by
 intro o hm i hi;rw[Aq];rcases Ch.1 hm with hm | hm
 .have:=h o hm i hi;omega
 grind
theorem Fi{s:St}{j:Nat}{ob:Ob}(h:Cl s)(ho:∀ i∈ob.refs,i<s.length):Cl (s.set j ob):=by
 intro o hm i hi;rw[Jc];rcases List.mem_or_eq_of_mem_set hm with hm | hm
 .exact h o hm i hi
 grind
mutual
theorem Zb(ρ:Nat->Nat):∀ v:V,(∀ i∈v.refs,ρ i=i)->v.ren ρ=v
 | .ptr i g o,h=>by grind[V.ren,V.refs]
 | .sl i g o l m w,h=>by grind[V.ren,V.refs]
 | .mp i,h=>by grind[V.ren,V.refs]
 | .fn f a c,h=>by
  simp only[V.ren];rw[R8 ρ a fun i hi=>h i (by grind[V.refs]),R8 ρ c fun i hi=>h i (by grind[V.refs])]
 | .agg cs,h=>by simp only[V.ren];rw[R8 ρ cs fun i hi=>h i (by grind[V.refs])]
 | .tup cs,h=>by simp only[V.ren];rw[R8 ρ cs fun i hi=>h i (by grind[V.refs])]
 | .und,_=>rfl
 | .skp,_=>rfl
 | .bool _,_=>rfl
 | .int _ _,_=>rfl
 | .str _,_=>rfl
 | .nili,_=>rfl
 | .ifc,_=>rfl
 | .nils,_=>rfl
 | .nilp,_=>rfl
 | .nilf,_=>rfl
 | .lst _ _,_=>rfl
 | .imm _ _,_=>rfl
theorem R8(ρ:Nat->Nat):∀ vs:List V,(∀ i∈Ah vs,ρ i=i)->E6 ρ vs=vs
 | [],_=>rfl
 | v::r,h=>by
  simp only[E6];rw[Zb ρ v fun i hi=>h i (by grind[Ah]),R8 ρ r fun i hi=>h i (by grind[Ah])]
end
def Aof(ρ:Nat->Nat)(ob:Ob)(h:∀ i∈ob.refs,ρ i=i):ob.ren ρ=ob:=by
 cases ob with
 | row cs e g z=>simp only[Ob.ren];rw[R8 ρ cs h]
 | map kvs=>
  simp only[Ob.ren];congr 1
  have:∀ l:List (List UInt8 × V),(∀ i∈Ah (l.map (·.2)),ρ i=i)->l.map (fun p=>(p.1,p.2.ren ρ))=l:=by
   intro l
   induction l with
   | nil=>grind
   | cons p l ih=>
    simp_all [Ah,Zb]
  exact this kvs h
 | dead=>rfl
theorem Aij{n k i:Nat}(h:i<n+k):ren n (List.range' n k) i=i:=by
 unfold ren
 split
 .rfl
 .have h1:List.findIdx (·==i) (List.range' n k)=i - n:=by
   rw[List.findIdx_eq (by grind)];simp;constructor
   .omega
   .omega
  omega
def Aik{σ σ':St}{m e lo bytes:Nat}{u u' y:V}{xs ys:List (List V)}(h:GW σ m e lo u xs)(hy:Eu σ m y=some ys)(ha:Dz bytes (m,e) u y σ=some (u',σ'))(hx:Ah xs.flatten=[])(hz:Ah ys.flatten=[])(hc:Cl σ):Cl σ':=by
 unfold Dz at ha;simp only[hy,Cy]at ha;unfold Jr at ha
 split at ha
 .rcases h with⟨rfl,rfl⟩ | ⟨hn,i,g,rfl,ho,qb⟩
  .grind[Jg,Ob.refs]
  .simp only at ha
   split at ha
   .simp only[ho,if_true]at ha
    split at ha
    .grind
    .split at ha
     .split at ha
      .cases ha;refine Fi hc fun j hj=>?_
       simp only[Ob.refs,Hn,hz,Bw,Ch]at hj
       have qt:∀ (a:List V) (k:Nat),Ah a=[]->Ah (a.take k)=[]/\Ah (a.drop k)=[]:=by
        intro a k h0;have:=Hn (a.take k) (a.drop k);rw[Ja,h0]at this;exact List.append_eq_nil_iff.1 this.symm
       grind
      grind[Fi,Ob.refs,Hn]
     grind
   grind
 grind
def Ee{σ:St}{m e lo:Nat}{u:V}{xs:List (List V)}(h:GW σ m e lo u xs):∀ i∈u.refs,i<σ.length:=by
 rcases h with⟨rfl,rfl⟩ | ⟨hn,i,g,rfl,ho,qb⟩
 .grind[V.refs]
 grind[V.refs]
def Ars{σ1:St}{v:V}{n:Nat}(hr:v.refs=[])(ho:Cb v=true)(hn:n<=σ1.length)(hc:Cl σ1):Hm n (List.range' n (σ1.length - n)) v σ1=true/\v=v.ren (ren n (List.range' n (σ1.length - n)))/\σ1=(σ1.take n++(List.range' n (σ1.length - n)).filterMap (σ1[·]?)).map (Ob.ren (ren n (List.range' n (σ1.length - n)))):=by
 refine⟨?_,?_,?_⟩
 .have hw:∀ is:List Nat,(∀ i∈is,i<σ1.length)->Ef n (List.range' n (σ1.length - n)) is=true:=by
   intro is ql;unfold Ef;rw[B6];intro i hi;have:=ql i hi;simp;omega
  unfold Hm;simp only[Ak];refine⟨ho,hw _ (by grind),?_,?_,?_⟩
  .rw[B6];intro o hm;refine hw _ fun i hi=>?_
   rcases Ch.1 hm with hm | hm
   .exact hc o (Jz hm) i hi
   .obtain⟨j,_,hj⟩:=Yh.1 hm;exact hc o (F0 hj) i hi
  .grind
  grind
 .grind[Zb]
 .have he:σ1.take n++(List.range' n (σ1.length - n)).filterMap (σ1[·]?)=σ1:=by
   have:(List.range' n (σ1.length - n)).filterMap (σ1[·]?)=σ1.drop n:=by
    apply Tx;intro i
    have qk:∀ (k n:Nat),n+k<=σ1.length->(List.range' n k).filterMap (σ1[·]?)=(σ1.drop n).take k:=by
     intro k
     induction k with
     | zero=>grind
     | succ k ih=>
      grind[List.range'_succ,List.drop_eq_getElem_cons]
    rw[qk _ _ AA,I9 AE]
   rw[this,Ja]
  rw[he]
  have:∀ l:List Ob,(∀ o∈l,o∈σ1)->l.map (Ob.ren (ren n (List.range' n (σ1.length - n))))=l:=by
   intro l
   induction l with
   | nil=>grind
   | cons o l ih=>
    intro hm;rw[A2,ih fun o ho=>hm o (Db _ ho),Aof _ o fun i hi=>Aij (by have:=hc o (hm o Cr) i hi;omega)]
  grind
def Ae0{T:Nat->Option AF}{pr:Nat->Option (List V->Option V)}{f p:Nat}{res:List AR}{body:AC}{vs:List V}{v:V}{σ σ':St}(hT:T f=some ⟨p,res,true,body,none⟩)(hl:vs.length=p)
  (h:W T pr [.c body] (C6 0 vs) σ (Hd fun e' σ1=>Ca e' σ1 res=some v/\σ1=σ')) (hr:v.refs=[]) (ho:Cb v=true) (hn:σ.length<=σ'.length) (hc:Cl σ'):Th T pr f vs σ v σ':=by
 obtain⟨e',σ1,hE,qd,rfl⟩:=h;obtain⟨k1,k2,k3⟩:=Ars hr ho hn hc;exact A27 hT rfl rfl hl ⟨e',σ1,hE,v,_,qd,k1,k2,k3⟩
def Ba6{T:Nat->Option AF}{pr:Nat->Option (List V->Option V)}{f p:Nat}{res:List AR}{body:AC}{vs:List V}{v:V}{σ σ':St}(hT:T f=some ⟨p,res,true,body,none⟩)(hl:vs.length=p)
  (h:W T pr [.c body] (C6 0 vs) σ (Hd fun e' σ1=>∃ v0 js,Ca e' σ1 res=some v0/\Cb v0=true/\Iw σ1 js v0=some v/\σ'=σ1.freeze js)) (hr:v.refs=[]) (ho:Cb v=true) (hn:σ.length<=σ'.length) (hc:Cl σ'):Th T pr f vs σ v σ':=by
 obtain⟨e',σ1,hE,v0,js,qd,h0,h1,rfl⟩:=h;obtain⟨k1,k2,k3⟩:=Ars hr ho hn hc;exact A29 hT rfl rfl hl ⟨e',σ1,hE,v0,v,js,_,qd,h0,h1,k1,k2,k3⟩
def A1p{T:Nat->Option AF}{pr:Nat->Option (List V->Option V)}{σ:St}{f:Nat}{vs:List V}{v:V}{F:AF}{σ':St}(hT:T f=some F)(qm:F.spec=none)(hl:vs.length=F.pars)(h:W T pr [.c F.body] (C6 0 vs) σ fun e' σ1=>∃ v0 js,Ca e' σ1 F.res=some v0/\Hm σ.length js v0 σ1=true/\v=v0.ren (ren σ.length js)/\σ'=(σ1.take σ.length++js.filterMap (σ1[·]?)).map (Ob.ren (ren σ.length js))):Bt T pr f vs σ v σ':=by
 obtain⟨e',σ1,hE,v0,js,hr,qq,rfl,rfl⟩:=h;exact⟨F,hT,qm,.fnL hT qm hl hE hr qq⟩
def Uu{T:Nat->Option AF}{pr:Nat->Option (List V->Option V)}{f p:Nat}{res:List AR}{thr:Bool}{body:AC}{vs:List V}{v:V}{σ σ':St}(hT:T f=some ⟨p,res,thr,body,none⟩)(hl:vs.length=p)
  (h:W T pr [.c body] (C6 0 vs) σ (Hd fun e' σ1=>Ca e' σ1 res=some v/\σ1=σ')) (hr:∀ i∈v.refs,i<σ'.length) (ho:Cb v=true) (hn:σ.length<=σ'.length) (hc:Cl σ'):Bt T pr f vs σ v σ':=by
 obtain⟨e',σ1,hE,qd,rfl⟩:=h;refine A1p hT rfl hl ⟨e',σ1,hE,v,List.range' σ.length (σ1.length - σ.length),qd,?_,?_,?_⟩
 .have hw:∀ is:List Nat,(∀ i∈is,i<σ1.length)->Ef σ.length (List.range' σ.length (σ1.length - σ.length)) is=true:=by
   intro is ql;unfold Ef;rw[B6];intro i hi;have:=ql i hi;simp;omega
  unfold Hm;simp only[Ak];refine⟨ho,hw _ hr,?_,?_,?_⟩
  .rw[B6];intro o hm;refine hw _ fun i hi=>?_
   rcases Ch.1 hm with hm | hm
   .exact hc o (Jz hm) i hi
   .obtain⟨j,_,hj⟩:=Yh.1 hm;exact hc o (F0 hj) i hi
  .grind
  grind
 .grind[Zb,Aij]
 .have he:σ1.take σ.length++(List.range' σ.length (σ1.length - σ.length)).filterMap (σ1[·]?)=σ1:=by
   have:(List.range' σ.length (σ1.length - σ.length)).filterMap (σ1[·]?)=σ1.drop σ.length:=by
    apply Tx;intro i
    have qk:∀ (k n:Nat),n+k<=σ1.length->(List.range' n k).filterMap (σ1[·]?)=(σ1.drop n).take k:=by
     intro k
     induction k with
     | zero=>grind
     | succ k ih=>
      grind[List.range'_succ,List.drop_eq_getElem_cons]
    rw[qk _ _ AA,I9 AE]
   rw[this,Ja]
  rw[he]
  have:∀ l:List Ob,(∀ o∈l,o∈σ1)->l.map (Ob.ren (ren σ.length (List.range' σ.length (σ1.length - σ.length))))=l:=by
   intro l
   induction l with
   | nil=>grind
   | cons o l ih=>
    intro hm;rw[A2,ih fun o ho=>hm o (Db _ ho),Aof _ o fun i hi=>Aij (by have:=hc o (hm o Cr) i hi;omega)]
  grind
def LZ{α:Type}:(∀ a b c:List α,a++b++c=a++(b++c))/\(∀ (a:α) (b c:List α),a::b++c=a::(b++c))/\(∀ a:List α,[]++a=a)/\(∀ a b:List α,(a++b).length=a.length+b.length)/\(∀ (a:α) (b:List α),(a::b).length=b.length+1)/\([]:List α).length=0/\∀ n:Nat,0+n=n:=⟨Dk,fun _ _ _=>rfl,fun _=>rfl,fun _ _=>Aq,fun _ _=>rfl,rfl,F9⟩
