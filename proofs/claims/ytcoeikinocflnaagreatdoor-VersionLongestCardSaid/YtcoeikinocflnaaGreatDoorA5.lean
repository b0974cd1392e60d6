/- THE PLAIN MACHINE, joined texts: Qa Qb Qc Qd Qe Qf Qg. -/
import Derived.Test.YtcoeikinocflnaaGreatDoorA4
set_option linter.all false
/- Walking by rewriting: what comes of code, as equations. -/
namespace Go.Proofs.YtcoeikinocflnaaGreatDoor.KM
open Go
variable {T:Nat->Option AF} {pr:Nat->Option (List V->Option V)}
theorem Ay{α:Sort _}{a b:α}(h:a=b):a=b:=h
/-! slots -/
theorem get_put:∀ (e:Env) (n m:Nat) (v:V),(Env.put e n v).get m=if n=m then v else Env.get e m
 | [],n,m,v=>by simp only[Env.put,Env.get]
 | (i,u)::r,n,m,v=>by
  simp only[Env.put]
  split
  ·rename_i h
   subst h
   simp only[Env.get]
   split<;>rfl
  ·rename_i h
   simp only[Env.get,get_put r n m v]
   split
   ·rename_i h2
    subst h2
    rw[if_neg (by omega)]
   ·rfl
theorem Ann(e:Env)(n:Nat)(v:V):e.putO (some n) v=e.put n v:=Ay rfl
theorem Ano(e:Env)(v:V):e.putO none v=e:=Ay rfl
theorem Ay9(e:Env)(n:Nat):Ab e (.t n)=e.get n:=rfl
theorem Aza(e:Env)(v:V):Ab e (.k v)=v:=rfl
theorem Apo(e:Env)(n m:Nat)(v:V):Env.get ((n,v)::e) m=if n=m then v else Env.get e m:=Ay rfl
/-! what an operation gives -/
inductive Rs where
 | val (v:V) (σ:St)
 | call (f:Nat) (args:List V)
 | fail
def r1(o:Option V)(σ:St):Rs:=
 match o with
 | some v=>.val v σ
 | none=>.fail
def r2(o:Option (V × St)):Rs:=
 match o with
 | some (v,σ)=>.val v σ
 | none=>.fail
theorem Asr(v:V)(σ:St):r1 (some v) σ=.val v σ:=Ay rfl
theorem Ass(σ:St):r1 none σ=.fail:=Ay rfl
theorem Ast(v:V)(σ:St):r2 (some (v,σ))=.val v σ:=Ay rfl
theorem Asu:r2 none=.fail:=Ay rfl
theorem L0(o:Option V)(σ:St):r2 (o.map fun v=>(v,σ))=r1 o σ:=by cases o<;>rfl
def Ar(op:AO)(e:Env)(σ:St):Rs:=
 match Ba e op with
 | some (f,args)=>.call f args
 | none=>r2 (Ad op e σ)
def Ab8(c a b:V):Option V:=
 match c with
 | .bool z=>some (if z=true then a else b)
 | _=>none
def Ak5(t:Nat)(x:V)(σ:St):Option (V × St):=if x.cells.all V.cellB=true then some (.ptr σ.length 0 0,σ++[.row x.cells t 0 0]) else none
def mkV(t bytes:Nat)(z:List V)(x y:V)(σ:St):Option (V × St):=
 match x,y with
 | .int .i64 n,.int .i64 c=>if 0<=n/\n<=c/\c.toNat*bytes<=140737488355328 then some (.sl σ.length 0 0 n.toNat z.length true,σ++[.row (List.replicate n.toNat z).flatten t 0 0]) else none
 | _,_=>none
def Um(m n:Nat)(σ:St)(cs:List V):Option (V × St):=(cs.mapM (Er σ (Fr σ 9 (Aq cs).eraseDups) 9)).map fun cs'=>(.lst 1 (D3 m n cs'),σ.freeze (Fr σ 9 (Aq cs).eraseDups))
def Acx(n:Nat)(x v:V)(σ:St):Option (V × St):=(Xh σ n x v).map fun σ'=>(.und,σ')
def Acy(x:V):Option V:=
 match x with
 | .imm r o=>some (.imm r o)
 | .ptr b g o=>some (.ptr b g o)
 | _=>none
def Acz(k:EqK)(neg:Bool)(x y:V):Option V:=(Jc k x y).map fun z=>.bool (z != neg)
def Ac0(k:IntKind)(x:V):Option V:=
 match x with
 | .int _ n=>some (.int k (k.wrap n))
 | _=>none
def Ac1(x:V):Option V:=
 match x with
 | .str l=>some (.str l)
 | _=>none
def Ac2(x:V)(σ:St):Option V:=
 match x with
 | .sl i g off len m w=>match σ[i]? with
  | some (.row _ _ g' z)=>if g=g'/\z=0 then some (.sl i g off len m w) else none
  | _=>none
 | _=>none
def Ak6(ty:Nat)(x:V)(σ:St):Option (V × St):=
 match x with
 | .str l=>some (.sl σ.length 0 0 l.length 1 true,σ++[.row (A4 l).flatten ty 0 0])
 | _=>none
def Ac3(x:V)(σ:St):Option V:=(Gv σ 1 x).bind fun xs=>(Ix xs).map fun l=>.str l
def Ab9(len m:Nat)(x:V)(lo hi:Option V):Option V:=
 match x with
 | .ptr i g off=>(D4 lo 0).bind fun a=>(D4 hi len).bind fun b=>if a<=b/\b<=len then some (.sl i g (off+a*m) (b - a) m false) else none
 | _=>none
def Yh(off:Nat)(x:V):Option V:=
 match x with
 | .imm r o=>some (.imm r (o+off))
 | .ptr b g o=>some (.ptr b g (o+off))
 | _=>none
def Ac4(off n:Nat)(one:Bool)(x:V):Option V:=
 match x with
 | .agg cs=>if off+n<=cs.length then E7 one ((cs.drop off).take n) else none
 | _=>none
def R4(m:Nat)(x i:V):Option V:=
 match x with
 | .lst _ xs=>(Hc xs i).bind fun r=>if r.length=m then some (.imm r 0) else none
 | .sl j g off len m' _=>match i with
  | .int _ n=>if 0<=n/\n<len/\m=m' then some (.ptr j g (off+n.toNat*m)) else none
  | _=>none
 | _=>none
def Ac5(len m:Nat)(x i:V):Option V:=
 match i with
 | .int _ n=>if 0<=n/\n<len then(match x with
  | .imm r o=>some (.imm r (o+n.toNat*m))
  | .ptr b g o=>some (.ptr b g (o+n.toNat*m))
  | _=>none) else none
 | _=>none
def Ac6(x i:V):Option V:=
 match x with
 | .str l=>(Hc l i).map fun c=>.int .u8 (c.toNat:Int)
 | _=>none
def Ac7(len m:Nat)(one:Bool)(x i:V):Option V:=
 match i with
 | .int _ n=>if 0<=n/\n<len then(match x with
  | .agg cs=>if n.toNat*m+m<=cs.length then E7 one ((cs.drop (n.toNat*m)).take m) else none
  | _=>none) else none
 | _=>none
def Ac8(i:Nat)(x:V):Option V:=
 match x with
 | .tup vs=>vs[i]?
 | _=>none
def Aca(x:V):Option V:=
 match x with
 | .str l=>some (.int .i64 (l.length:Int))
 | _=>none
def R5(x:V):Option V:=
 match x with
 | .nils=>some (.int .i64 0)
 | .lst _ xs=>some (.int .i64 (xs.length:Int))
 | .sl _ _ _ len _ _=>some (.int .i64 (len:Int))
 | _=>none
def Fm(bytes:Nat)(m:Nat × Nat)(x y:V)(σ:St):Option (V × St):=(Gv σ m.1 y).bind fun ys=>I8 bytes m σ x ys
def Akm(ty:Nat)(x y:V)(σ:St):Option (V × St):=
 match y with
 | .str l=>I8 1 (1,ty) σ x (A4 l)
 | _=>none
def mxV(x y:V):Option V:=
 match x,y with
 | .int k a,.int k' b=>if k=k' then some (.int k (max a b)) else none
 | _,_=>none
def mnV(x y:V):Option V:=
 match x,y with
 | .int k a,.int k' b=>if k=k' then some (.int k (min a b)) else none
 | _,_=>none
def Ac9(f:Nat)(a c:List V):Option V:=if(a.all V.cellB&&c.all V.cellB)=true then some (.fn f a c) else none
def Ada(z x k:V)(σ:St):Option V:=
 match x,k with
 | .mp i,.str s=>match σ[i]? with
  | some (.map kvs)=>some (match Js s kvs 0 with
   | some (_,v)=>v
   | none=>z)
  | _=>none
 | _,_=>none
def Ak7(x k v:V)(σ:St):Option (V × St):=
 match x,k with
 | .mp i,.str s=>match σ[i]? with
  | some (.map kvs)=>if v.flatB=true then some (.und,σ.set i (.map (match Js s kvs 0 with
   | some (j,_)=>kvs.set j (s,v)
   | none=>kvs++[(s,v)]))) else none
  | _=>none
 | _,_=>none
section
variable {e:Env} {σ:St}
theorem Azb(x:S):Ar (.mov x) e σ=.val (Ab e x) σ:=Ay rfl
theorem Av4(c a b:S):Ar (.pick c a b) e σ=r1 (Ab8 (Ab e c) (Ab e a) (Ab e b)) σ:=by
 simp only[Ar,Ba,Ad,Ab8];cases Ab e c<;>rfl
theorem Azc(t:Nat)(z:List V):Ar (.new t z) e σ=.val (.ptr σ.length 0 0) (σ++[.row z t 0 0]):=Ay rfl
theorem Azd(t:Nat)(x:S):Ar (.box t x) e σ=r2 (Ak5 t (Ab e x) σ):=Ay rfl
theorem Asv(z:List V)(ps:List (Nat × Nat × S)):Ar (.build z ps) e σ=r1 ((Fz z (ps.map fun p=>(p.1,p.2.1,Ab e p.2.2))).map fun cs=>.agg cs) σ:=by
 simp only[Ar,Ba,Ad];cases Fz z (ps.map fun p=>(p.1,p.2.1,Ab e p.2.2))<;>rfl
theorem Av5(n:Nat)(z:List V)(ps:List (Nat × S)):Ar (.rows n z ps) e σ=r1 ((Fz (List.replicate n z).flatten (ps.map fun p=>(p.1*z.length,z.length,Ab e p.2))).bind fun cs=>if cs.all V.rowB=true then some (.lst 1 (D3 z.length n cs)) else none) σ:=by
 simp only[Ar,Ba,Ad]
 cases Fz (List.replicate n z).flatten (ps.map fun p=>(p.1*z.length,z.length,Ab e p.2)) with
 | none=>rfl
 | some cs=>simp only[Cd];split<;>rfl
theorem Av6(n:Nat)(z:List V)(ps:List (Nat × S)):Ar (.rowf n z ps) e σ=r2 ((Fz (List.replicate n z).flatten (ps.map fun p=>(p.1*z.length,z.length,Ab e p.2))).bind fun cs=>Um z.length n σ cs):=Ay rfl
theorem Av7(t n:Nat)(z:List V)(ps:List (Nat × S)):Ar (.rowo t n z ps) e σ=r2 ((Fz (List.replicate n z).flatten (ps.map fun p=>(p.1*z.length,z.length,Ab e p.2))).map fun cs=>(.sl σ.length 0 0 n z.length true,σ++[.row cs t 0 0])):=Ay rfl
theorem A1n(t bytes:Nat)(z:List V)(x y:S):Ar (.mk t bytes z x y) e σ=r2 (mkV t bytes z (Ab e x) (Ab e y) σ):=Ay rfl
theorem Av8(n:Nat)(one:Bool)(x:S):Ar (.load n one x) e σ=r1 (Dr σ n one (Ab e x)) σ:=L0 _ _
theorem Asw(n:Nat)(x v:S):Ar (.store n x v) e σ=r2 (Acx n (Ab e x) (Ab e v) σ):=Ay rfl
theorem Aze(x:S):Ar (.chk x) e σ=r1 (Acy (Ab e x)) σ:=by
 simp only[Ar,Ba,Ad,Acy];cases Ab e x<;>rfl
theorem Azf(o:BinOp)(x y:S):Ar (.bin o x y) e σ=r1 (U0 o (Ab e x) (Ab e y)) σ:=L0 _ _
theorem A1o(k:EqK)(neg:Bool)(x y:S):Ar (.eq k neg x y) e σ=r1 (Acz k neg (Ab e x) (Ab e y)) σ:=by
 simp only[Ar,Ba,Ad,Acz];cases Jc k (Ab e x) (Ab e y)<;>rfl
theorem A1p(o:UnOp)(x:S):Ar (.un o x) e σ=r1 (Yl o (Ab e x)) σ:=L0 _ _
theorem Azg(k:IntKind)(x:S):Ar (.cvi k x) e σ=r1 (Ac0 k (Ab e x)) σ:=by
 simp only[Ar,Ba,Ad,Ac0];cases Ab e x<;>rfl
theorem Azh(x:S):Ar (.cvs x) e σ=r1 (Ac1 (Ab e x)) σ:=by
 simp only[Ar,Ba,Ad,Ac1];cases Ab e x<;>rfl
theorem Azi(x:S):Ar (.cvl x) e σ=r1 (Ac2 (Ab e x) σ) σ:=by
 simp only[Ar,Ba,Ad,Ac2]
 cases Ab e x with
 | sl i g off len m w=>
  simp only
  cases σ[i]? with
  | none=>rfl
  | some ob=>
   cases ob with
   | row cs e g' z=>simp only;split<;>rfl
   | _=>rfl
 | _=>rfl
theorem Azj(ty:Nat)(x:S):Ar (.stb ty x) e σ=r2 (Ak6 ty (Ab e x) σ):=Ay rfl
theorem Azk(x:S):Ar (.bts x) e σ=r1 (Ac3 (Ab e x) σ) σ:=by
 simp only[Ar,Ba,Ad,Ac3]
 cases Gv σ 1 (Ab e x) with
 | none=>rfl
 | some xs=>simp only[Cd];cases Ix xs<;>rfl
theorem Av9(x:S)(lo hi:Option S):Ar (.slcs x lo hi) e σ=r1 (Nv (Ab e x) (lo.map (Ab e)) (hi.map (Ab e))) σ:=L0 _ _
theorem Azl(m:Nat)(x:S)(lo hi mx:Option S):Ar (.slc m x lo hi mx) e σ=r1 (Rx m (Ab e x) (lo.map (Ab e)) (hi.map (Ab e)) (mx.map (Ab e))) σ:=L0 _ _
theorem Azm(n:Nat)(x:S):Ar (.sap n x) e σ=r1 (Yd n (Ab e x)) σ:=L0 _ _
theorem Awa(len m:Nat)(x:S)(lo hi:Option S):Ar (.slca len m x lo hi) e σ=r1 (Ab9 len m (Ab e x) (lo.map (Ab e)) (hi.map (Ab e))) σ:=by
 simp only[Ar,Ba,Ad,Ab9]
 cases Ab e x with
 | ptr i g off=>
  simp only
  cases D4 (lo.map (Ab e)) 0 with
  | none=>rfl
  | some a=>
   simp only[Cd]
   cases D4 (hi.map (Ab e)) len with
   | none=>rfl
   | some b=>simp only[Cd];split<;>rfl
 | _=>rfl
theorem Azn(off:Nat)(x:S):Ar (.fad off x) e σ=r1 (Yh off (Ab e x)) σ:=by
 simp only[Ar,Ba,Ad,Yh];cases Ab e x<;>rfl
theorem Azo(off n:Nat)(one:Bool)(x:S):Ar (.fld off n one x) e σ=r1 (Ac4 off n one (Ab e x)) σ:=by
 simp only[Ar,Ba,Ad,Ac4]
 cases Ab e x with
 | agg cs=>simp only;split;· exact L0 _ _
           ·rfl
 | _=>rfl
theorem Azp(m:Nat)(x i:S):Ar (.iad m x i) e σ=r1 (R4 m (Ab e x) (Ab e i)) σ:=by
 simp only[Ar,Ba,Ad,R4]
 cases Ab e x with
 | lst t xs=>
  simp only
  cases Hc xs (Ab e i) with
  | none=>rfl
  | some r=>simp only[Cd];split<;>rfl
 | sl j g off len m' w=>
  simp only
  cases Ab e i with
  | int k n=>simp only;split<;>rfl
  | _=>rfl
 | _=>rfl
theorem Azq(len m:Nat)(x i:S):Ar (.iar len m x i) e σ=r1 (Ac5 len m (Ab e x) (Ab e i)) σ:=by
 simp only[Ar,Ba,Ad,Ac5]
 cases Ab e i with
 | int k n=>simp only;split;· cases Ab e x<;>rfl
            ·rfl
 | _=>rfl
theorem Azr(x i:S):Ar (.idx x i) e σ=r1 (Ac6 (Ab e x) (Ab e i)) σ:=by
 simp only[Ar,Ba,Ad,Ac6]
 cases Ab e x with
 | str l=>simp only;cases Hc l (Ab e i)<;>rfl
 | _=>rfl
theorem Azs(len m:Nat)(one:Bool)(x i:S):Ar (.ida len m one x i) e σ=r1 (Ac7 len m one (Ab e x) (Ab e i)) σ:=by
 simp only[Ar,Ba,Ad,Ac7]
 cases Ab e i with
 | int k n=>
  simp only
  split
  ·cases Ab e x with
   | agg cs=>simp only;split;· exact L0 _ _
             ·rfl
   | _=>rfl
  ·rfl
 | _=>rfl
theorem Azt(i:Nat)(x:S):Ar (.ext i x) e σ=r1 (Ac8 i (Ab e x)) σ:=by
 simp only[Ar,Ba,Ad,Ac8]
 cases Ab e x with
 | tup vs=>exact L0 _ _
 | _=>rfl
theorem Awb(x:S):Ar (.lens x) e σ=r1 (Aca (Ab e x)) σ:=by
 simp only[Ar,Ba,Ad,Aca];cases Ab e x<;>rfl
theorem Azu(x:S):Ar (.len x) e σ=r1 (R5 (Ab e x)) σ:=by
 simp only[Ar,Ba,Ad,R5];cases Ab e x<;>rfl
theorem Azv(bytes:Nat)(m:Nat × Nat)(x y:S):Ar (.app bytes m x y) e σ=r2 (Fm bytes m (Ab e x) (Ab e y) σ):=Ay rfl
theorem Awc(ty:Nat)(x y:S):Ar (.apps ty x y) e σ=r2 (Akm ty (Ab e x) (Ab e y) σ):=Ay rfl
theorem A1q(x y:S):Ar (.mx x y) e σ=r1 (mxV (Ab e x) (Ab e y)) σ:=by
 simp only[Ar,Ba,Ad,mxV]
 cases Ab e x with
 | int k a=>
  cases Ab e y with
  | int k' b=>simp only;split<;>rfl
  | _=>rfl
 | _=>rfl
theorem A1r(x y:S):Ar (.mn x y) e σ=r1 (mnV (Ab e x) (Ab e y)) σ:=by
 simp only[Ar,Ba,Ad,mnV]
 cases Ab e x with
 | int k a=>
  cases Ab e y with
  | int k' b=>simp only;split<;>rfl
  | _=>rfl
 | _=>rfl
theorem Azw(f:Nat)(a c:List S):Ar (.mkf f a c) e σ=r1 (Ac9 f (a.map (Ab e)) (c.map (Ab e))) σ:=by
 simp only[Ar,Ba,Ad,Ac9];split<;>rfl
theorem Azx:Ar .mmk e σ=.val (.mp σ.length) (σ++[.map []]):=Ay rfl
theorem Azy(z:V)(x k:S):Ar (.mlk z x k) e σ=r1 (Ada z (Ab e x) (Ab e k) σ) σ:=by
 simp only[Ar,Ba,Ad,Ada]
 cases Ab e x with
 | mp i=>
  cases Ab e k with
  | str s=>
   simp only
   cases σ[i]? with
   | none=>rfl
   | some ob=>cases ob<;>rfl
  | _=>rfl
 | _=>rfl
theorem Azz(x k v:S):Ar (.mup x k v) e σ=r2 (Ak7 (Ab e x) (Ab e k) (Ab e v) σ):=Ay rfl
theorem Awd(f:Nat)(xs:List S):Ar (.call f xs) e σ=.call f (xs.map (Ab e)):=Ay rfl
def Adb(x:V)(ys:List V):Rs:=
 match x with
 | .fn f a c=>.call f (a++ys++c)
 | _=>.fail
theorem Asx(x:S)(xs:List S):Ar (.callv x xs) e σ=Adb (Ab e x) (xs.map (Ab e)):=by
 simp only[Ar,Ba,Adb];cases Ab e x<;>rfl
end
variable {T:Nat->Option AF} {pr:Nat->Option (List V->Option V)}
def o(d:Nat)(op:AO):AI:=⟨some d,op,none⟩
def on(op:AO):AI:=⟨none,op,none⟩
def og(d:Nat)(op:AO)(t:Nat)(w:Bool):AI:=⟨some d,op,some (t,w)⟩
def oh(op:AO)(t:Nat)(w:Bool):AI:=⟨none,op,some (t,w)⟩
inductive CallS (T:Nat->Option AF) (pr:Nat->Option (List V->Option V)) (f:Nat) (args:List V) (σ:St):V->St->Prop
 | prim {s:List V->Option V} {vs:List V} {v:V}:pr f=some s->Cu σ args=some vs->s vs=some v->CallS T pr f args σ v (after σ args v)
 | pure {vs:List V} {v:V}:Cu σ args=some vs->Fn T pr f vs v->CallS T pr f args σ v (after σ args v)
 | own {σ0:St} {vs:List V} {v:V}:Cu σ args=some vs->FnO T pr f vs v σ0->CallS T pr f args σ (v.ren (·+σ.length)) (own σ args σ0)
 | any {v:V} {σ1:St}:Bk T pr f args σ v σ1->CallS T pr f args σ v σ1
 | thr {v:V} {σ1:St}:Th T pr f args σ v σ1->CallS T pr f args σ v σ1
 | spec {F:AF} {s:List V->St->Option (V × St)} {v:V} {σ1:St}:T f=some F->F.thr=true->F.spec=some s->s args σ=some (v,σ1)->CallS T pr f args σ v σ1
theorem CallS.sg{i:AI}{f:Nat}{args:List V}{e:Env}{σ σ1:St}{v:V}(h:CallS T pr f args σ v σ1)(hw:Bs e i=some true)(hc:Ba e i.op=some (f,args)):Sg T pr i e σ v σ1:=by
 cases h with
 | prim h1 h2 h3=>exact .prim hw hc h1 h2 h3
 | pure h1 h2=>exact .pure hw hc h1 h2
 | own hx h=>obtain⟨F,h1,h2,h3,h4⟩:=h;exact .own hw hc h1 h2 h3 hx h4
 | any h=>obtain⟨F,h1,h3,h4⟩:=h;exact .any hw hc h1 h3 h4
 | thr h=>obtain⟨F,h1,h2,h3,h4⟩:=h;exact .thr hw hc h1 h2 h3 h4
 | spec h1 h2 h3 h4=>exact .spec hw hc h1 h2 h3 h4
def WE(T:Nat->Option AF)(pr:Nat->Option (List V->Option V))(e:Env)(k:List It)(σ:St)(Q:Env->St->Prop):Prop:=W T pr k e σ Q
def WR(T:Nat->Option AF)(pr:Nat->Option (List V->Option V))(l:List AI)(kill:List Nat)(k:List It)(e:Env)(σ:St)(Q:Env->St->Prop):Prop:=WO T pr l e σ fun e1 σ1=>W T pr k (e1.del kill) σ1 Q
def WX(T:Nat->Option AF)(pr:Nat->Option (List V->Option V))(r:Rs)(d:Option Nat)(l:List AI)(kill:List Nat)(k:List It)(e:Env)(σ:St)(Q:Env->St->Prop):Prop:=
 match r with
 | .val v σ1=>WR T pr l kill k (e.putO d v) σ1 Q
 | .call f args=>∃ v σ1,CallS T pr f args σ v σ1/\WR T pr l kill k (e.putO d v) σ1 Q
 | .fail=>False
def WD(T:Nat->Option AF)(pr:Nat->Option (List V->Option V))(g:V)(w:Bool)(d:Option Nat)(op:AO)(l:List AI)(kill:List Nat)(k:List It)(e:Env)(σ:St)(Q:Env->St->Prop):Prop:=
 match g with
 | .bool b=>if b=w then WX T pr (Ar op e σ) d l kill k e σ Q else WR T pr l kill k (e.putO d .skp) σ Q
 | .skp=>WR T pr l kill k (e.putO d .skp) σ Q
 | _=>False
def WC(T:Nat->Option AF)(pr:Nat->Option (List V->Option V))(g:V)(kill:List Nat)(x y:AC)(k:List It)(e:Env)(σ:St)(Q:Env->St->Prop):Prop:=
 match g with
 | .bool true=>WE T pr (e.del kill) (.c x::k) σ Q
 | .bool false=>WE T pr (e.del kill) (.c y::k) σ Q
 | _=>False
def WJ(T:Nat->Option AF)(pr:Nat->Option (List V->Option V))(id:Nat):List It->Env->St->(Env->St->Prop)->Prop
 | [],_,_,_=>False
 | .b i::k,e,σ,Q=>if i=id then W T pr k e σ Q else WJ T pr id k e σ Q
 | .c _::k,e,σ,Q=>WJ T pr id k e σ Q
 | .l _ _::k,e,σ,Q=>WJ T pr id k e σ Q
theorem get_keep(e:Env)(n:Nat):∀ ks:List Nat,ks.elem n=true->(e.keep ks).get n=e.get n
 | [],h=>by cases h
 | m::ks,h=>by
  simp only[Env.keep,Env.get]
  split
  ·rename_i h;rw[h]
  ·rename_i hm
   refine get_keep e n ks ?_
   simp only[List.elem_eq_mem,Br,decide_eq_true_eq]at h ⊢
   exact h.resolve_left fun h=>hm h.symm
theorem Agx(e:Env)(ks:List Nat):∀ js:List Nat,(∀ n,js.elem n=true->ks.elem n=true)->(e.keep ks).keep js=e.keep js
 | [],_=>rfl
 | m::js,h=>by
  simp only[Env.keep]
  rw[get_keep e m ks (h m (by simp)),Agx e ks js fun n hn=>h n (by simp at hn ⊢;exact .inr hn)]
theorem Afj(e:Env)(ks:List Nat):e.keep ks=(e.keep ks).keep ks:=(Agx e ks ks fun _ h=>h).symm
section
variable {Q:Env->St->Prop} {e:Env} {σ:St} {k:List It} {l:List AI} {kill:List Nat}
theorem Az0(a b:AC):W T pr (.c (.seq a b)::k) e σ Q=W T pr (.c a::.c b::k) e σ Q:=propext ⟨fun⟨e',σ',h,q⟩=>by cases h with | cSeq h=>exact⟨e',σ',h,q⟩,Ayv⟩
theorem Awe:W T pr (.c .skip::k) e σ Q=W T pr k e σ Q:=propext ⟨fun⟨e',σ',h,q⟩=>by cases h with | cSkip h=>exact⟨e',σ',h,q⟩,Avj⟩
theorem Az1(id:Nat)(c:AC):W T pr (.c (.blk id c)::k) e σ Q=W T pr (.c c::.b id::k) e σ Q:=propext ⟨fun⟨e',σ',h,q⟩=>by cases h with | cBlk h=>exact⟨e',σ',h,q⟩,Ayw⟩
theorem Az2(id:Nat):W T pr (.b id::k) e σ Q=W T pr k e σ Q:=propext ⟨fun⟨e',σ',h,q⟩=>by cases h with | cEnd h=>exact⟨e',σ',h,q⟩,Ayx⟩
theorem Awf(keep:List Nat)(c:AC):W T pr (.c (.loop keep c)::k) e σ Q=WE T pr (e.keep keep) (.l keep c::k) σ Q:=by
 refine propext ⟨fun⟨e',σ',h,q⟩=>?_,fun h=>Avk (Bd h ?_)⟩
 ·cases h with
  | cLoop h=>exact Bd ⟨e',σ',h,q⟩ (Afj e keep).symm
 ·exact(Afj e keep)
theorem Asy(keep:List Nat)(c:AC):W T pr (.l keep c::k) e σ Q=WE T pr (e.keep keep) (.c c::.l keep c::k) σ Q:=propext ⟨fun⟨e',σ',h,q⟩=>by cases h with | cAgain h=>exact⟨e',σ',h,q⟩,Ase⟩
theorem Az3:W T pr (.c .ret::k) e σ Q=Q e σ:=propext ⟨fun⟨e',σ',h,q⟩=>by cases h with | cRet=>exact q,Ayy⟩
theorem Az4:W T pr [] e σ Q=Q e σ:=propext ⟨fun⟨e',σ',h,q⟩=>by cases h with | cNil=>exact q,Ayz⟩
theorem Az5(ops:List AI):W T pr (.c (.reg kill ops)::k) e σ Q=WR T pr ops kill k e σ Q:=propext ⟨fun⟨e',σ',h,q⟩=>by cases h with | cReg h h2=>exact⟨_,_,h,e',σ',h2,q⟩,fun⟨_,_,h,e',σ',h2,q⟩=>⟨e',σ',.cReg h h2,q⟩⟩
theorem Awg(c:S)(x y:AC):W T pr (.c (.cond c kill x y)::k) e σ Q=WC T pr (Ab e c) kill x y k e σ Q:=by
 refine propext ⟨fun⟨e',σ',h,q⟩=>?_,fun h=>?_⟩
 ·cases h with
  | cCond hc h=>
   rw[hc]
   rename_i z
   cases z
   ·exact⟨e',σ',h,q⟩
   ·exact⟨e',σ',h,q⟩
 ·unfold WC at h
  split at h
  ·rename_i hc;exact Apk hc h
  ·rename_i hc;exact Apl hc h
  ·exact h.elim
theorem Un(id:Nat):∀ k':List It,WJ T pr id k' e σ Q↔∃ k2,exitTo id k'=some k2/\W T pr k2 e σ Q
 | []=>by simp[WJ,exitTo]
 | .b i::k'=>by
  simp only[WJ,exitTo]
  split
  ·simp
  ·exact Un id k'
 | .c _::k'=>by simp only[WJ,exitTo];exact Un id k'
 | .l _ _::k'=>by simp only[WJ,exitTo];exact Un id k'
theorem Awh(id:Nat):W T pr (.c (.exit id)::k) e σ Q=WJ T pr id k e σ Q:=propext ⟨fun⟨e',σ',h,q⟩=>by cases h with | cExit hk h=>exact(Un id k).2 ⟨_,hk,e',σ',h,q⟩,fun h=>let ⟨_,h1,h2⟩:=(Un id k).1 h;Avl h1 h2⟩
theorem A1s(id i:Nat):WJ T pr id (.b i::k) e σ Q=if i=id then W T pr k e σ Q else WJ T pr id k e σ Q:=Ay rfl
theorem A1t(id:Nat)(c:AC):WJ T pr id (.c c::k) e σ Q=WJ T pr id k e σ Q:=Ay rfl
theorem A1u(id:Nat)(kp:List Nat)(c:AC):WJ T pr id (.l kp c::k) e σ Q=WJ T pr id k e σ Q:=Ay rfl
theorem we:WE T pr e k σ Q=W T pr k e σ Q:=Ay rfl
theorem Awi:WR T pr [] kill k e σ Q=WE T pr (e.del kill) k σ Q:=propext ⟨fun⟨_,_,h,q⟩=>by cases h with | opsNil=>exact q,fun h=>⟨_,_,.opsNil,h⟩⟩
theorem Awj(v:V)(σ1:St)(d:Option Nat):WX T pr (.val v σ1) d l kill k e σ Q=WR T pr l kill k (e.putO d v) σ1 Q:=Ay rfl
theorem Asz(d:Option Nat):WX T pr .fail d l kill k e σ Q=False:=Ay rfl
theorem M2{f:Nat}{args:List V}{d:Option Nat}{v:V}{σ1:St}(hc:CallS T pr f args σ v σ1)(h:WR T pr l kill k (e.putO d v) σ1 Q):WX T pr (.call f args) d l kill k e σ Q:=⟨v,σ1,hc,h⟩
theorem Al4{op:AO}{r:V × St}(h:Ad op e σ=some r):Ba e op=none:=by
 cases op with
 | call f xs=>cases h
 | callv x xs=>cases h
 | _=>rfl
theorem Acb{i:AI}(hw:Bs e i=some true):WR T pr (i::l) kill k e σ Q=WX T pr (Ar i.op e σ) i.dst l kill k e σ Q:=by
 refine propext ⟨fun⟨e',σ',h,q⟩=>?_,fun h=>?_⟩
 ·cases h with
  | opsSkip hw' _=>rw[hw]at hw';cases hw'
  | opsVal _ hv h=>
   unfold Ar
   rw[Al4 hv,hv]
   exact⟨_,_,h,q⟩
  | opsPrim _ hc h1 h2 h3 h=>
   unfold Ar
   rw[hc]
   exact⟨_,_,.prim h1 h2 h3,_,_,h,q⟩
  | opsPure _ hc h1 h2 h3 h4 h5 h6 h=>
   unfold Ar
   rw[hc]
   exact⟨_,_,.pure h4 ⟨_,h1,h2,h3,_,_,h5,h6⟩,_,_,h,q⟩
  | opsOwn _ hc h1 h2 h3 hx h4 h=>
   unfold Ar
   rw[hc]
   exact⟨_,_,.own hx ⟨_,h1,h2,h3,h4⟩,_,_,h,q⟩
  | opsAny _ hc h1 h3 h4 h=>
   unfold Ar
   rw[hc]
   exact⟨_,_,.any ⟨_,h1,h3,h4⟩,_,_,h,q⟩
  | opsThr _ hc h1 h2 h3 h4 h=>
   unfold Ar
   rw[hc]
   exact⟨_,_,.thr ⟨_,h1,h2,h3,h4⟩,_,_,h,q⟩
  | opsSpec _ hc h1 h2 h3 h4 h=>
   unfold Ar
   rw[hc]
   exact⟨_,_,.spec h1 h2 h3 h4,_,_,h,q⟩
 ·unfold Ar at h
  split at h
  ·rename_i f args hc
   obtain⟨v,σ1,hs,e',σ',h,q⟩:=h
   exact⟨e',σ',(hs.sg hw hc).ev h,q⟩
  ·cases hv:Ad i.op e σ with
   | none=>rw[hv]at h;exact h.elim
   | some p=>
    obtain⟨v,σ1⟩:=p
    rw[hv]at h
    obtain⟨e',σ',h,q⟩:=h
    exact⟨e',σ',.opsVal hw hv h,q⟩
theorem A1v(d:Nat)(op:AO):WR T pr (o d op::l) kill k e σ Q=WX T pr (Ar op e σ) (some d) l kill k e σ Q:=Acb (i:=o d op) rfl
theorem Az6(op:AO):WR T pr (on op::l) kill k e σ Q=WX T pr (Ar op e σ) none l kill k e σ Q:=Acb (i:=on op) rfl
theorem Aid{i:AI}(hw:Bs e i=some false):WR T pr (i::l) kill k e σ Q=WR T pr l kill k (e.putO i.dst .skp) σ Q:=by
 refine propext ⟨fun⟨e',σ',h,q⟩=>?_,fun⟨e',σ',h,q⟩=>⟨e',σ',.opsSkip hw h,q⟩⟩
 cases h with
 | opsSkip _ h=>exact⟨_,_,h,q⟩
 | opsVal hw'=>rw[hw]at hw';cases hw'
 | opsPrim hw'=>rw[hw]at hw';cases hw'
 | opsPure hw'=>rw[hw]at hw';cases hw'
 | opsOwn hw'=>rw[hw]at hw';cases hw'
 | opsAny hw'=>rw[hw]at hw';cases hw'
 | opsThr hw'=>rw[hw]at hw';cases hw'
 | opsSpec hw'=>rw[hw]at hw';cases hw'
theorem Ak8{i:AI}{t:Nat}{w:Bool}(hg:i.g=some (t,w)):WR T pr (i::l) kill k e σ Q=WD T pr (e.get t) w i.dst i.op l kill k e σ Q:=by
 unfold WD
 have hd:Bs e i=(match e.get t with
  | .bool b=>some (b==w)
  | .skp=>some false
  | _=>none):=by unfold Bs;rw[hg];rfl
 have no:Bs e i=none->WR T pr (i::l) kill k e σ Q=False:=by
  intro hn
  refine propext ⟨?_,False.elim⟩
  rintro⟨e',σ',h,q⟩
  cases h with
  | opsSkip hw'=>rw[hn]at hw';cases hw'
  | opsVal hw'=>rw[hn]at hw';cases hw'
  | opsPrim hw'=>rw[hn]at hw';cases hw'
  | opsPure hw'=>rw[hn]at hw';cases hw'
  | opsOwn hw'=>rw[hn]at hw';cases hw'
  | opsAny hw'=>rw[hn]at hw';cases hw'
  | opsThr hw'=>rw[hn]at hw';cases hw'
  | opsSpec hw'=>rw[hn]at hw';cases hw'
 split
 ·rename_i b hb
  rw[hb]at hd
  simp only at hd
  split
  ·rename_i hbw;subst hbw;exact Acb (by rw[hd];simp)
  ·rename_i hbw;exact Aid (by rw[hd];simp[hbw])
 ·rename_i hb
  rw[hb]at hd
  exact Aid hd
 ·rename_i h1 h2
  refine no ?_
  rw[hd]
  split
  ·rename_i b hb;exact absurd hb (h1 b)
  ·rename_i hb;exact absurd hb h2
  ·rfl
theorem Az7(d:Nat)(op:AO)(t:Nat)(w:Bool):WR T pr (og d op t w::l) kill k e σ Q=WD T pr (e.get t) w (some d) op l kill k e σ Q:=Ak8 (i:=og d op t w) rfl
theorem Az8(op:AO)(t:Nat)(w:Bool):WR T pr (oh op t w::l) kill k e σ Q=WD T pr (e.get t) w none op l kill k e σ Q:=Ak8 (i:=oh op t w) rfl
theorem Awk(w:Bool)(d:Option Nat)(op:AO):WD T pr .skp w d op l kill k e σ Q=WR T pr l kill k (e.putO d .skp) σ Q:=Ay rfl
theorem As0(x y:AC):WC T pr (.bool true) kill x y k e σ Q=WE T pr (e.del kill) (.c x::k) σ Q:=Ay rfl
theorem App(x y:AC):WC T pr (.bool false) kill x y k e σ Q=WE T pr (e.del kill) (.c y::k) σ Q:=Ay rfl
theorem Az9{b:Bool}{x y:AC}(h1:b=true->WE T pr (e.del kill) (.c x::k) σ Q)(h2:b=false->WE T pr (e.del kill) (.c y::k) σ Q):WC T pr (.bool b) kill x y k e σ Q:=by
 cases b
 ·exact h2 rfl
 ·exact h1 rfl
end
/-! only the first part is looked at while it is reckoned -/
section
variable {Q:Env->St->Prop} {e e':Env} {σ σ':St} {k:List It} {l:List AI} {kill:List Nat}
@[congr] theorem A3f (h:e=e'):W T pr k e σ Q=W T pr k e' σ Q:=by rw[h]
@[congr] theorem A29 (h:e=e'):WE T pr e k σ Q=WE T pr e' k σ Q:=by rw[h]
@[congr] theorem A3a (h:e=e'):WR T pr l kill k e σ Q=WR T pr l kill k e' σ Q:=by rw[h]
@[congr] theorem A3b {r r':Rs} {d:Option Nat} (h:r=r'):WX T pr r d l kill k e σ Q=WX T pr r' d l kill k e σ Q:=by rw[h]
@[congr] theorem A3c {g g':V} {w:Bool} {d:Option Nat} {op:AO} (h:g=g'):WD T pr g w d op l kill k e σ Q=WD T pr g' w d op l kill k e σ Q:=by rw[h]
@[congr] theorem A3d {g g':V} {x y:AC} (h:g=g'):WC T pr g kill x y k e σ Q=WC T pr g' kill x y k e σ Q:=by rw[h]
end
variable {T:Nat->Option AF} {pr:Nat->Option (List V->Option V)}
inductive Kd where
 | pu | rd | ef
def kd:AO->Kd
 | .new _ _ | .box _ _ | .store _ _ _ | .app _ _ _ _ | .apps _ _ _ | .rowf _ _ _ | .rowo _ _ _ _ | .mk _ _ _ _ _ | .stb _ _ | .mmk | .mup _ _ _ | .call _ _ | .callv _ _=>.ef
 | .load _ _ _ | .mlk _ _ _ | .bts _ | .cvl _=>.rd
 | _=>.pu
theorem A0a{op:AO}(h:kd op=.pu):Ci T pr op=0:=by
 cases op<;>simp[kd]at h<;>simp[Ci]
theorem A0b{op:AO}(h:kd op=.rd){e:Env}{σ σ1:St}{v:V}(hv:Ad op e σ=some (v,σ1)):σ1=σ:=by
 cases op with
 | load n one x=>
  simp only[Ad,A0]at hv
  obtain⟨_,_,h⟩:=hv
  cases h;rfl
 | mlk z x k=>
  simp only[Ad]at hv
  split at hv
  ·split at hv
   ·cases hv;rfl
   ·cases hv
  ·cases hv
 | bts x=>
  simp only[Ad,Cp,A0]at hv
  obtain⟨_,_,_,_,h⟩:=hv
  cases h;rfl
 | cvl x=>
  simp only[Ad]at hv
  split at hv
  ·split at hv
   ·split at hv
    ·cases hv;rfl
    ·cases hv
   ·cases hv
  ·cases hv
 | _=>simp[kd]at h
def CallP(T:Nat->Option AF)(pr:Nat->Option (List V->Option V))(f:Nat)(vs:List V)(v:V):Prop:=(∃ s,pr f=some s/\s vs=some v)\/Fn T pr f vs v
theorem CallP.sg{i:AI}{f:Nat}{args vs:List V}{e:Env}{σ:St}{v:V}(h:CallP T pr f vs v)(hw:Bs e i=some true)(hc:Ba e i.op=some (f,args))(hx:Cu σ args=some vs):Sg T pr i e σ v (after σ args v):=by
 rcases h with⟨s,h1,h2⟩ | h
 ·exact .prim hw hc h1 hx h2
 ·exact .pure hw hc hx h
def Ip(deps:List (List Nat))(n m:Nat)(i:AI)(z:Kd)(v:V)(σ1:St)(e:Env)(σ:St)(fs:Fs)(ls:Ls)(K:Env->St->Fs->Ls->Prop):Prop:=
 match z with
 | .pu=>K (e.putO i.dst v) σ fs ls
 | .rd=>U7 deps n m (fun s=>Ad i.op e s=some (v,s)) fs/\K (e.putO i.dst v) σ fs ((m,fun s=>Ad i.op e s=some (v,s))::ls)
 | .ef=>Lg deps n m fs/\Lh deps n m σ σ1 ls/\K (e.putO i.dst v) σ1 ((m,σ,σ1)::fs) ls
def Ft(T:Nat->Option AF)(pr:Nat->Option (List V->Option V))(deps:List (List Nat))(n m:Nat)(i:AI)(r:Rs)(e:Env)(σ:St)(fs:Fs)(ls:Ls)(K:Env->St->Fs->Ls->Prop):Prop:=
 match r with
 | .val v σ1=>Ip deps n m i (kd i.op) v σ1 e σ fs ls K
 | .call f args=>(∃ v vs,Aq args=[]/\Cu σ args=some vs/\CallP T pr f vs v/\K (e.putO i.dst v) σ fs ls) \/
   (∃ v vs,Cu σ args=some vs/\CallP T pr f vs v/\v.flatV=true/\U7 deps n m (fun s=>Cu s args=some vs) fs/\K (e.putO i.dst v) σ fs ((m,fun s=>Cu s args=some vs)::ls)) \/
   (∃ v σ1,CallS T pr f args σ v σ1/\Lg deps n m fs/\Lh deps n m σ σ1 ls/\K (e.putO i.dst v) σ1 ((m,σ,σ1)::fs) ls)
 | .fail=>False
def Hf(T:Nat->Option AF)(pr:Nat->Option (List V->Option V))(deps:List (List Nat))(n m:Nat)(i:AI)(g:Option V)(w:Bool)(e:Env)(σ:St)(fs:Fs)(ls:Ls)(K:Env->St->Fs->Ls->Prop):Prop:=
 match g with
 | none=>Ft T pr deps n m i (Ar i.op e σ) e σ fs ls K
 | some (.bool b)=>if b=w then Ft T pr deps n m i (Ar i.op e σ) e σ fs ls K else K (e.putO i.dst .skp) σ fs ls
 | some .skp=>K (e.putO i.dst .skp) σ fs ls
 | some _=>False
def wg(T:Nat->Option AF)(pr:Nat->Option (List V->Option V))(deps:List (List Nat))(n:Nat)(kill:List Nat)(k:List It)(Q:Env->St->Prop):Nat->List AI->Env->St->Fs->Ls->Prop
 | _,[],e,σ,_,_=>WE T pr (e.del kill) k σ Q
 | m,i::l,e,σ,fs,ls=>Hf T pr deps n m i (i.g.map fun p=>e.get p.1) ((i.g.map fun p=>p.2).getD true) e σ fs ls (wg T pr deps n kill k Q (m+1) l)
section
variable {Q:Env->St->Prop} {e:Env} {σ:St} {k:List It} {kill:List Nat} {deps:List (List Nat)} {n:Nat}
theorem Ajr{m:Nat}{i:AI}{l:List AI}{fs:Fs}{ls:Ls}{K:Env->St->Prop}{P:Env->St->Fs->Ls->Prop}(hP:∀ e σ fs ls,P e σ fs ls->WG T pr deps n (m+1) l e σ fs ls K)
  (hw:Bs e i=some true) (h:Ft T pr deps n m i (Ar i.op e σ) e σ fs ls P):WG T pr deps n m (i::l) e σ fs ls K:=by
 unfold Ar at h
 split at h
 ·rename_i f args hc
  rcases h with⟨v,vs,h1,h2,h3,h4⟩ | ⟨v,vs,h1,h2,h3,h4,h5⟩ | ⟨v,σ1,h1,h2,h3,h4⟩
  ·refine Xj (fun s=>?_) (hP _ _ _ _ h4)
   have:=h3.sg (σ:=s) hw hc ((Wq h1 s).trans h2)
   rw[Qk h1]at this
   exact this
  ·obtain⟨e',σ',h,q⟩:=hP _ _ _ _ h5
   refine⟨e',σ',.read (fun s=>Cu s args=some vs) h1 (fun s hs=>?_) (Aay h4) h,q⟩
   have:=h2.sg (σ:=s) hw hc hs
   unfold after at this
   rw[if_pos h3]at this
   exact this
  ·exact Ajq (h1.sg hw hc) h2 h3 (hP _ _ _ _ h4)
 ·cases hv:Ad i.op e σ with
  | none=>rw[hv]at h;exact h.elim
  | some p=>
   obtain⟨v,σ1⟩:=p
   rw[hv]at h
   simp only[r2,Ft]at h
   unfold Ip at h
   split at h
   ·rename_i hk
    obtain⟨rfl,hall⟩:=V1 (A0a (T:=T) (pr:=pr) hk) hv
    exact Avq hw hall (hP _ _ _ _ h)
   ·rename_i hk
    obtain rfl:=A0b hk hv
    exact Ay2 hw hv h.1 (hP _ _ _ _ h.2)
   ·exact Avr hw hv h.1 h.2.1 (hP _ _ _ _ h.2.2)
theorem Uo:∀ (l:List AI) (m:Nat) (e:Env) (σ:St) (fs:Fs) (ls:Ls),wg T pr deps n kill k Q m l e σ fs ls->WG T pr deps n m l e σ fs ls fun e1 σ1=>W T pr k (e1.del kill) σ1 Q
 | [],m,e,σ,fs,ls,h=>Avp h
 | i::l,m,e,σ,fs,ls,h=>by
  unfold wg at h
  unfold Hf at h
  split at h
  ·rename_i hg
   refine Ajr (fun e σ fs ls=>Uo l (m+1) e σ fs ls) ?_ h
   simp only[Option.map_eq_none_iff]at hg
   unfold Bs
   rw[hg]
  ·rename_i b hg
   obtain⟨p,hp,hb⟩:=A0.1 hg
   split at h
   ·rename_i hbw
    refine Ajr (fun e σ fs ls=>Uo l (m+1) e σ fs ls) ?_ h
    unfold Bs
    obtain⟨t,w⟩:=p
    rw[hp]at hbw ⊢
    simp only at hb
    simp only[hb]
    simp at hbw
    simp[hbw]
   ·rename_i hbw
    refine Xj (fun s=>.off ?_) (Uo l (m+1) _ _ _ _ h)
    unfold Bs
    obtain⟨t,w⟩:=p
    rw[hp]at hbw ⊢
    simp only at hb
    simp only[hb]
    simp at hbw
    simp[hbw]
  ·rename_i hg
   obtain⟨p,hp,hb⟩:=A0.1 hg
   refine Xj (fun s=>.off ?_) (Uo l (m+1) _ _ _ _ h)
   unfold Bs
   obtain⟨t,w⟩:=p
   rw[hp]
   simp only at hb
   simp only[hb]
  ·exact h.elim
theorem Ax{ops:List AI}(hst:Ph deps ops=true)(h:wg T pr deps ops.length kill k Q 0 ops e σ [] []):W T pr (.c (.drw kill deps ops)::k) e σ Q:=
 Avo hst fun _ hK=>by
  obtain⟨e',σ',h,q⟩:=Uo _ _ _ _ _ _ h
  exact⟨e',σ',h,hK _ _ q⟩
variable {m:Nat} {l:List AI} {fs:Fs} {ls:Ls} {K:Env->St->Fs->Ls->Prop}
theorem Awl:wg T pr deps n kill k Q m [] e σ fs ls=WE T pr (e.del kill) k σ Q:=Ay rfl
theorem A1w(d:Nat)(op:AO):wg T pr deps n kill k Q m (o d op::l) e σ fs ls=Ft T pr deps n m (o d op) (Ar op e σ) e σ fs ls (wg T pr deps n kill k Q (m+1) l):=Ay rfl
theorem A0c(op:AO):wg T pr deps n kill k Q m (on op::l) e σ fs ls=Ft T pr deps n m (on op) (Ar op e σ) e σ fs ls (wg T pr deps n kill k Q (m+1) l):=Ay rfl
theorem A0d(d:Nat)(op:AO)(t:Nat)(w:Bool):wg T pr deps n kill k Q m (og d op t w::l) e σ fs ls=Hf T pr deps n m (og d op t w) (some (e.get t)) w e σ fs ls (wg T pr deps n kill k Q (m+1) l):=Ay rfl
theorem A0e(op:AO)(t:Nat)(w:Bool):wg T pr deps n kill k Q m (oh op t w::l) e σ fs ls=Hf T pr deps n m (oh op t w) (some (e.get t)) w e σ fs ls (wg T pr deps n kill k Q (m+1) l):=Ay rfl
theorem A0f(d:Nat)(op:AO)(v:V)(σ1:St):Ft T pr deps n m (o d op) (.val v σ1) e σ fs ls K=Ip deps n m (o d op) (kd op) v σ1 e σ fs ls K:=Ay rfl
theorem Awm(op:AO)(v:V)(σ1:St):Ft T pr deps n m (on op) (.val v σ1) e σ fs ls K=Ip deps n m (on op) (kd op) v σ1 e σ fs ls K:=Ay rfl
theorem Awn(d:Nat)(op:AO)(t:Nat)(w:Bool)(v:V)(σ1:St):Ft T pr deps n m (og d op t w) (.val v σ1) e σ fs ls K=Ip deps n m (og d op t w) (kd op) v σ1 e σ fs ls K:=Ay rfl
theorem Awo(op:AO)(t:Nat)(w:Bool)(v:V)(σ1:St):Ft T pr deps n m (oh op t w) (.val v σ1) e σ fs ls K=Ip deps n m (oh op t w) (kd op) v σ1 e σ fs ls K:=Ay rfl
theorem Awp(d:Nat)(op:AO)(t:Nat):Hf T pr deps n m (og d op t true) (some (.bool true)) true e σ fs ls K=Ft T pr deps n m (og d op t true) (Ar op e σ) e σ fs ls K:=Ay rfl
theorem Awq(d:Nat)(op:AO)(t:Nat):Hf T pr deps n m (og d op t false) (some (.bool false)) false e σ fs ls K=Ft T pr deps n m (og d op t false) (Ar op e σ) e σ fs ls K:=Ay rfl
theorem Awr(d:Nat)(op:AO)(t:Nat):Hf T pr deps n m (og d op t false) (some (.bool true)) false e σ fs ls K=K (e.put d .skp) σ fs ls:=Ay rfl
theorem Aws(d:Nat)(op:AO)(t:Nat):Hf T pr deps n m (og d op t true) (some (.bool false)) true e σ fs ls K=K (e.put d .skp) σ fs ls:=Ay rfl
theorem A0g(d:Nat)(op:AO)(t:Nat)(w:Bool):Hf T pr deps n m (og d op t w) (some .skp) w e σ fs ls K=K (e.put d .skp) σ fs ls:=Ay rfl
theorem Awt(op:AO)(t:Nat):Hf T pr deps n m (oh op t true) (some (.bool true)) true e σ fs ls K=Ft T pr deps n m (oh op t true) (Ar op e σ) e σ fs ls K:=Ay rfl
theorem Awu(op:AO)(t:Nat):Hf T pr deps n m (oh op t false) (some (.bool false)) false e σ fs ls K=Ft T pr deps n m (oh op t false) (Ar op e σ) e σ fs ls K:=Ay rfl
theorem Awv(op:AO)(t:Nat):Hf T pr deps n m (oh op t false) (some (.bool true)) false e σ fs ls K=K e σ fs ls:=Ay rfl
theorem Aww(op:AO)(t:Nat):Hf T pr deps n m (oh op t true) (some (.bool false)) true e σ fs ls K=K e σ fs ls:=Ay rfl
theorem A0h(op:AO)(t:Nat)(w:Bool):Hf T pr deps n m (oh op t w) (some .skp) w e σ fs ls K=K e σ fs ls:=Ay rfl
theorem Awx{i:AI}(v:V)(σ1:St):Ip deps n m i .pu v σ1 e σ fs ls K=K (e.putO i.dst v) σ fs ls:=Ay rfl
theorem Awy{i:AI}(v:V)(σ1:St):Ip deps n m i .rd v σ1 e σ [] ls K=K (e.putO i.dst v) σ [] ((m,fun s=>Ad i.op e s=some (v,s))::ls):=propext ⟨fun h=>h.2,fun h=>⟨trivial,h⟩⟩
theorem Awz{i:AI}(v:V)(σ1:St):Ip deps n m i .ef v σ1 e σ [] [] K=K (e.putO i.dst v) σ1 [(m,σ,σ1)] []:=propext ⟨fun h=>h.2.2,fun h=>⟨trivial,trivial,h⟩⟩
theorem W6{i:AI}{v:V}{σ1:St}(h1:Lg deps n m fs)(h2:Lh deps n m σ σ1 ls)(h:K (e.putO i.dst v) σ1 ((m,σ,σ1)::fs) ls):Ip deps n m i .ef v σ1 e σ fs ls K:=⟨h1,h2,h⟩
end
/-! settled values go over as they are -/
def Dj:V->Bool
 | .agg cs=>cs.all V.rowB
 | .imm _ _=>true
 | v=>v.rowB
theorem Wf{v:V}(h:v.rowB=true):v.refs=[]:=by cases v<;>simp[V.rowB]at h<;>rfl
theorem Jk:∀ {cs:List V},cs.all V.rowB=true->Aq cs=[]
 | [],_=>rfl
 | c::cs,h=>by
  simp only[Am,Ae]at h
  simp only[Aq,Wf h.1,Jk h.2,Cx]
theorem Z0{v:V}(h:Dj v=true):v.refs=[]:=by
 unfold Dj at h
 split at h
 ·exact Jk h
 ·rfl
 ·exact Wf h
theorem Sw:∀ {vs:List V},vs.all Dj=true->Aq vs=[]
 | [],_=>rfl
 | c::cs,h=>by
  simp only[Am,Ae]at h
  simp only[Aq,Z0 h.1,Sw h.2,Cx]
theorem Sn{σ:St}{js:List Nat}{d:Nat}{v:V}(h:v.rowB=true):Er σ js (d+1) v=some v:=by
 unfold Er;rw[if_pos h]
theorem Q6{f:V->Option V}:∀ {cs:List V},(∀ c∈cs,f c=some c)->cs.mapM f=some cs
 | [],_=>rfl
 | c::cs,h=>by
  rw[Hk,h c Dm,Q6 fun c hc=>h c (Db _ hc)]
  rfl
theorem V2{σ:St}{js:List Nat}{v:V}(h:Dj v=true):Fj σ js v=some v:=by
 unfold Dj at h
 split at h
 ·rename_i cs
  simp only[Fj]
  rw[Q6 fun c hc=>Sn (A3.1 h c hc)]
  rfl
 ·rfl
 ·rename_i h1 h2
  unfold Fj
  split
  ·exact absurd rfl (h2 _ _)
  ·exact absurd rfl (h1 _)
  ·exact Sn h
theorem Aaj{σ:St}{vs:List V}(h:vs.all Dj=true):Cu σ vs=some vs:=Q6 fun c hc=>V2 (A3.1 h c hc)
section
variable {Q:Env->St->Prop} {e:Env} {σ:St} {k:List It} {l:List AI} {kill:List Nat} {f:Nat} {vs:List V} {v:V} {d:Option Nat}
theorem An(hf:Fn T pr f vs v)(hs:vs.all Dj=true)(h:WR T pr l kill k (e.putO d v) σ Q):WX T pr (.call f vs) d l kill k e σ Q:=
 M2 (.pure (Aaj hs) hf) (by rw[Qk (Sw hs)];exact h)
theorem F2{s:List V->Option V}(hp:pr f=some s)(hs:vs.all Dj=true)(hv:s vs=some v)(h:WR T pr l kill k (e.putO d v) σ Q):WX T pr (.call f vs) d l kill k e σ Q:=
 M2 (.prim hp (Aaj hs) hv) (by rw[Qk (Sw hs)];exact h)
theorem Dg{σ1:St}(hf:Th T pr f vs σ v σ1)(h:WR T pr l kill k (e.putO d v) σ1 Q):WX T pr (.call f vs) d l kill k e σ Q:=M2 (.thr hf) h
theorem Ac{σ1:St}(hf:Bk T pr f vs σ v σ1)(h:WR T pr l kill k (e.putO d v) σ1 Q):WX T pr (.call f vs) d l kill k e σ Q:=M2 (.any hf) h
variable {deps:List (List Nat)} {n m:Nat} {fs:Fs} {ls:Ls} {K:Env->St->Fs->Ls->Prop} {i:AI}
theorem Cm(hf:Fn T pr f vs v)(hs:vs.all Dj=true)(h:K (e.putO i.dst v) σ fs ls):Ft T pr deps n m i (.call f vs) e σ fs ls K:=.inl ⟨v,vs,Sw hs,Aaj hs,.inr hf,h⟩
theorem Aw0{σ1:St}(hf:Th T pr f vs σ v σ1)(h1:Lg deps n m fs)(h2:Lh deps n m σ σ1 ls)(h:K (e.putO i.dst v) σ1 ((m,σ,σ1)::fs) ls):Ft T pr deps n m i (.call f vs) e σ fs ls K:=.inr (.inr ⟨v,σ1,.thr hf,h1,h2,h⟩)
end
/-! ends -/
def FR(v0:V)(σ1:St)(v:V):Prop:=(Cs v0=true/\v0.refs=[]/\Ef [] v0=some v)\/∃ js,Gr 0 js v0 σ1=true/\Ef ((js.filterMap (σ1[·]?)).map (Ob.ren (ren 0 js))) (v0.ren (ren 0 js))=some v
def FL(o:Option V)(σ1:St)(v:V):Prop:=∃ v0,o=some v0/\FR v0 σ1 v
def FQ(res:List AR)(v:V)(e:Env)(σ:St):Prop:=FL (B2 e σ res) σ v
theorem Ch{f p:Nat}{res:List AR}{body:AC}{vs:List V}{v:V}(hT:T f=some ⟨p,res,false,body,none⟩)(hl:vs.length=p)(h:W T pr [.c body] (Df 0 vs) [] (FQ res v)):Fn T pr f vs v:=by
 obtain⟨e',σ',hE,v0,hr,h1 | ⟨js,h1,h2⟩⟩:=h
 ·exact Apm hT rfl rfl hl ⟨e',σ',hE,v0,hr,h1⟩
 ·exact Ank hT rfl rfl hl ⟨e',σ',hE,v0,js,hr,h1,h2⟩
theorem A1x(r:AR)(v:V)(e:Env)(σ:St):FQ [r] v e σ=FL (Ew e σ r) σ v:=Ay rfl
theorem A1y(r s:AR)(v:V)(e:Env)(σ:St):FQ [r,s] v e σ=FL ((Ew e σ r).bind fun a=>(Ew e σ s).map fun b=>.tup [a,b]) σ v:=by
 simp only[FQ,B2,Hk,Y5]
 cases Ew e σ r with
 | none=>rfl
 | some a=>cases Ew e σ s<;>rfl
theorem A1z(r s t:AR)(v:V)(e:Env)(σ:St):FQ [r,s,t] v e σ=FL ((Ew e σ r).bind fun a=>(Ew e σ s).bind fun b=>(Ew e σ t).map fun c=>.tup [a,b,c]) σ v:=by
 simp only[FQ,B2,Hk,Y5]
 cases Ew e σ r with
 | none=>rfl
 | some a=>
  cases Ew e σ s with
  | none=>rfl
  | some b=>cases Ew e σ t<;>rfl
theorem As1(v0 v:V)(σ:St):FL (some v0) σ v=FR v0 σ v:=propext ⟨fun⟨_,h,q⟩=>by cases h;exact q,fun h=>⟨_,rfl,h⟩⟩
theorem Aaz{v:V}(h:Dj v=true):Gw v=true:=by
 unfold Dj at h
 split at h
 ·rename_i cs
  simp only[Gw]
  rw[A3]at h ⊢
  intro c hc
  have:=h c hc
  cases c<;>simp[V.rowB]at this<;>rfl
 ·rfl
 ·cases v<;>simp[V.rowB]at h<;>rfl
theorem H0{v:V}{σ:St}(h:Dj v=true):FR v σ v:=by
 refine .inl ⟨?_,Z0 h,?_⟩
 ·cases v with
  | tup vs=>simp[Dj,V.rowB]at h
  | _=>exact Aaz h
 ·unfold Ef I0
  split
  ·simp[Dj,V.rowB]at h
  ·exact V2 h
theorem Jq{vs:List V}{σ:St}(h:vs.all Dj=true):FR (.tup vs) σ (.tup vs):=by
 refine .inl ⟨?_,Sw h,?_⟩
 ·simp only[Cs]
  rw[A3]at h ⊢
  exact fun c hc=>Aaz (h c hc)
 ·simp only[Ef,I0]
  rw[Q6 fun c hc=>V2 (A3.1 h c hc)]
  rfl
theorem B0{v v':V}{σ:St}(h:Dj v=true)(he:v=v'):FR v σ v':=he ▸ H0 h
def TQ(res:List AR)(σ:St)(v:V)(σ':St)(e:Env)(σ1:St):Prop:=B2 e σ1 res=some v/\Ak2 σ.length σ v σ1/\σ'=σ1.take σ.length
theorem Ct{keep:List Nat}{c c':AC}{k:List It}{e:Env}{σ:St}{Q:Env->St->Prop}(hc:c=c')(h:WE T pr (e.keep keep) (.c c'::.l keep c::k) σ Q):W T pr (.l keep c::k) e σ Q:=by
 subst hc
 rw[Asy]
 exact h
section
variable {deps:List (List Nat)} {n m:Nat} {e:Env} {σ:St} {fs:Fs} {ls:Ls} {K:Env->St->Fs->Ls->Prop} {i:AI}
@[congr] theorem A26 {r r':Rs} (h:r=r'):Ft T pr deps n m i r e σ fs ls K=Ft T pr deps n m i r' e σ fs ls K:=by rw[h]
@[congr] theorem A27 {g g':Option V} {w:Bool} (h:g=g'):Hf T pr deps n m i g w e σ fs ls K=Hf T pr deps n m i g' w e σ fs ls K:=by rw[h]
@[congr] theorem A28 {z z':Kd} {v:V} {σ1:St} (h:z=z'):Ip deps n m i z v σ1 e σ fs ls K=Ip deps n m i z' v σ1 e σ fs ls K:=by rw[h]
end
variable {T:Nat->Option AF} {pr:Nat->Option (List V->Option V)}
def TR(v0:V)(σ:St)(v:V)(σ' σ1:St):Prop:=v0=v/\Ak2 σ.length σ v σ1/\σ'=σ1.take σ.length
theorem Aw1(a b:Nat)(l:List Nat):List.elem a (b::l)=if a=b then true else List.elem a l:=by
 by_cases h:a=b
 ·simp[h]
 ·simp[h]
theorem Aw2(a:Nat):List.elem a []=false:=rfl
theorem A0i(m n:Nat)(u v:V)(r:Env):Env.put ((m,u)::r) n v=if m=n then(n,v)::r else(m,u)::Env.put r n v:=Ay rfl
theorem A0j(n:Nat)(v:V):Env.put [] n v=[(n,v)]:=Ay rfl
theorem A0k(m:Nat)(u:V)(r:Env)(ks:List Nat):Env.del ((m,u)::r) ks=if ks.elem m=true then Env.del r ks else(m,u)::Env.del r ks:=Ay rfl
theorem A0l(ks:List Nat):Env.del [] ks=[]:=Ay rfl
theorem Aw3(e:Env)(n:Nat)(ks:List Nat):e.keep (n::ks)=(n,e.get n)::e.keep ks:=Ay rfl
theorem Aw4(e:Env):e.keep []=[]:=Ay rfl
theorem A0m(n:Nat):Env.get [] n=.und:=rfl
section
variable {Q:Env->St->Prop} {e:Env} {σ:St} {k:List It} {l:List AI} {kill:List Nat}
theorem A0n(d:Option Nat)(op:AO):WD T pr (.bool true) true d op l kill k e σ Q=WX T pr (Ar op e σ) d l kill k e σ Q:=Ay rfl
theorem A0o(d:Option Nat)(op:AO):WD T pr (.bool false) false d op l kill k e σ Q=WX T pr (Ar op e σ) d l kill k e σ Q:=Ay rfl
theorem A0p(d:Option Nat)(op:AO):WD T pr (.bool true) false d op l kill k e σ Q=WR T pr l kill k (e.putO d .skp) σ Q:=Ay rfl
theorem A0q(d:Option Nat)(op:AO):WD T pr (.bool false) true d op l kill k e σ Q=WR T pr l kill k (e.putO d .skp) σ Q:=Ay rfl
end
theorem A0r(d:Nat)(op:AO):(o d op).dst=some d:=rfl
theorem Aw5(op:AO):(on op).dst=none:=rfl
theorem Aw6(d:Nat)(op:AO)(t:Nat)(w:Bool):(og d op t w).dst=some d:=rfl
theorem Aw7(op:AO)(t:Nat)(w:Bool):(oh op t w).dst=none:=rfl
def U8(o:Option Ob)(g n:Nat)(one:Bool)(off:Nat):Option V:=
 match o with
 | some (.row cs _ g' _)=>if g=g'/\off+n<=cs.length then E7 one ((cs.drop off).take n) else none
 | _=>none
theorem A0s(cs:List V)(e g' z g n:Nat)(one:Bool)(off:Nat):U8 (some (.row cs e g' z)) g n one off=if g=g'/\off+n<=cs.length then E7 one ((cs.drop off).take n) else none:=Ay rfl
theorem Aw8(σ:St)(n:Nat)(one:Bool)(i g off:Nat):Dr σ n one (.ptr i g off)=U8 σ[i]? g n one off:=Ay rfl
theorem Aw9(σ:St)(n:Nat)(one:Bool)(row:List V)(off:Nat):Dr σ n one (.imm row off)=if off+n<=row.length then E7 one ((row.drop off).take n) else none:=Ay rfl
def Adc(o:Option Ob)(σ:St)(n i g off:Nat)(v:V):Option (V × St):=
 match o with
 | some (.row cs e g' z)=>if g=g'/\z<=off/\v.cells.length=n/\v.cells.all V.cellB=true then(Nd cs off v.cells).map fun cs'=>(.und,σ.set i (.row cs' e g z)) else none
 | _=>none
theorem Axa(cs:List V)(e g' z:Nat)(σ:St)(n i g off:Nat)(v:V):Adc (some (.row cs e g' z)) σ n i g off v=if g=g'/\z<=off/\v.cells.length=n/\v.cells.all V.cellB=true then(Nd cs off v.cells).map fun cs'=>(.und,σ.set i (.row cs' e g z)) else none:=Ay rfl
theorem A0t(σ:St)(n i g off:Nat)(v:V):Acx n (.ptr i g off) v σ=Adc σ[i]? σ n i g off v:=by
 simp only[Acx,Xh,Adc]
 cases σ[i]? with
 | none=>rfl
 | some ob=>
  cases ob with
  | row cs e g' z=>
   simp only
   split
   ·cases Nd cs off v.cells<;>rfl
   ·rfl
  | _=>rfl
theorem A0u:R5 .nils=some (.int .i64 0):=rfl
theorem A0v(t:Nat)(xs:List (List V)):R5 (.lst t xs)=some (.int .i64 (xs.length:Int)):=rfl
theorem A0w(i g off len m:Nat)(w:Bool):R5 (.sl i g off len m w)=some (.int .i64 (len:Int)):=rfl
theorem A0x(m t:Nat)(xs:List (List V))(i:V):R4 m (.lst t xs) i=(Hc xs i).bind fun r=>if r.length=m then some (.imm r 0) else none:=Ay rfl
theorem A0y(m j g off len m':Nat)(w:Bool)(k:IntKind)(n:Int):R4 m (.sl j g off len m' w) (.int k n)=if 0<=n/\n<len/\m=m' then some (.ptr j g (off+n.toNat*m)) else none:=Ay rfl
theorem A0z(off:Nat)(r:List V)(o:Nat):Yh off (.imm r o)=some (.imm r (o+off)):=Ay rfl
theorem A00(off b g o:Nat):Yh off (.ptr b g o)=some (.ptr b g (o+off)):=Ay rfl
theorem A01(off n:Nat)(one:Bool)(cs:List V):Ac4 off n one (.agg cs)=if off+n<=cs.length then E7 one ((cs.drop off).take n) else none:=Ay rfl
theorem As2(k:IntKind)(n:Int):V.cells (.int k n)=[.int k n]:=rfl
theorem As3(l:List UInt8):V.cells (.str l)=[.str l]:=rfl
theorem As4(b:Bool):V.cells (.bool b)=[.bool b]:=rfl
theorem As5:V.cells .nils=[.nils]:=rfl
theorem As6(t:Nat)(xs:List (List V)):V.cells (.lst t xs)=[.lst t xs]:=rfl
theorem Apq(i g o l m:Nat)(w:Bool):V.cells (.sl i g o l m w)=[.sl i g o l m w]:=rfl
theorem As7(i g o:Nat):V.cells (.ptr i g o)=[.ptr i g o]:=rfl
theorem Apr:V.cells .nilp=[.nilp]:=rfl
theorem Anp(r:List V)(o:Nat):V.cells (.imm r o)=[.imm r o]:=rfl
theorem Aps(f:Nat)(a c:List V):V.cells (.fn f a c)=[.fn f a c]:=rfl
theorem Apt(i:Nat):V.cells (.mp i)=[.mp i]:=rfl
theorem As8(cs:List V):V.cells (.agg cs)=cs:=rfl
theorem Axb(σ:St)(m:Nat):Gv σ m .nils=some []:=Ay rfl
theorem Axc(σ:St)(m t:Nat)(xs:List (List V)):Gv σ m (.lst t xs)=some xs:=Ay rfl
theorem mk1(c:V):E7 true [c]=some c:=rfl
theorem mkA(cs:List V):E7 false cs=some (.agg cs):=rfl
theorem As9(s l:St)(n:Nat):(s++l)[s.length+n]?=l[n]?:=by rw[By (by omega)];congr 1;omega
theorem Apu(s l:St):(s++l)[s.length]?=l[0]?:=by rw[By (by omega)];congr 1;omega
theorem Ata(s l:St)(n:Nat)(x:Ob):(s++l).set (s.length+n) x=s++l.set n x:=by simp[List.set_append]
theorem Apv(s l:St)(x:Ob):(s++l).set s.length x=s++l.set 0 x:=by simp[List.set_append]
theorem Atb{α:Type}(l:List α)(k:IntKind)(n:Nat):Hc l (.int k (n:Int))=l[n]?:=by
 simp only[Hc]
 rw[if_pos (by omega),Sh]
theorem Ed{n:Int}(h : -9223372036854775808<=n/\n<=9223372036854775807):IntKind.i64.wrap n=n:=Go.IntWalk.i64_in _ h
theorem Atc{n:Int}(h1 : -9223372036854775808<=n)(h2:n<=9223372036854775807):IntKind.i64.wrap n=n:=Ed ⟨h1,h2⟩
theorem A10(t:Nat)(v:V)(σ σ' σ1:St)(e:Env):TQ [.tmp t] σ v σ' e σ1=TR (e.get t) σ v σ' σ1:=Ay (propext ⟨fun⟨h1,h2⟩=>⟨J3 h1,h2⟩,fun⟨h1,h2⟩=>⟨congrArg some h1,h2⟩⟩)
theorem Bq{i:Nat}(h:i<9223372036854775807):IntKind.i64.wrap ((i:Int)+1)=((i+1:Nat):Int):=by rw[Ed (by omega)];rfl
theorem Cb{i n:Nat}(h:i<n):decide ((i:Int)<(n:Int))=true:=by simpa using h
theorem D5{i n:Nat}(h:n<=i):decide ((i:Int)<(n:Int))=false:=by simpa using h
theorem Eu{α:Type}{l:List α}{i:Nat}(h:i<l.length):∃ x,l[i]?=some x/\l.drop i=x::l.drop (i+1)/\x∈l:=⟨l[i],Aw h,Fg h,Fh h⟩
theorem Cr{keep:List Nat}{c:AC}{k:List It}{Q:Env->St->Prop}{α:Type}(μ:α->Nat)(E:α->Env)(Z:α->St)(I:α->Prop)
  (h:∀ a,I a->(∀ b,μ b<μ a->I b->W T pr (.l keep c::k) (E b) (Z b) Q)->W T pr (.l keep c::k) (E a) (Z a) Q):∀ a,I a->W T pr (.l keep c::k) (E a) (Z a) Q:=by
 suffices ∀ n a,μ a=n->I a->W T pr (.l keep c::k) (E a) (Z a) Q from fun a=>this _ a rfl
 intro n
 induction n using Nat.strongRecOn with
 | _ n ih=>exact fun a hm hI=>h a hI fun b hb=>ih (μ b) (hm ▸ hb) b rfl
theorem A11(cs:List V):Dj (.agg cs)=cs.all V.rowB:=rfl
theorem A12(r:List V)(o:Nat):Dj (.imm r o)=true:=rfl
theorem Ak9(k:IntKind)(n:Int):Dj (.int k n)=true:=rfl
theorem A13(l:List UInt8):Dj (.str l)=true:=rfl
theorem A14(b:Bool):Dj (.bool b)=true:=rfl
theorem A15:Dj .nils=true:=rfl
theorem A16:Dj .nili=true:=rfl
theorem A17(t:Nat)(xs:List (List V)):Dj (.lst t xs)=true:=rfl
/-! settled slices -/
def SL(z:Bool)(t:Nat)(xs:List (List V)):V:=if z=true/\xs=[] then .nils else .lst t xs
theorem Xk(z:Bool)(t:Nat)(xs:List (List V)):(SL z t xs).rowB=true:=by unfold SL;split<;>rfl
theorem Atd(z:Bool)(t:Nat)(xs:List (List V)):(SL z t xs).cellB=true:=by unfold SL;split<;>rfl
theorem Axd(z:Bool)(t:Nat)(xs:List (List V)):Dj (SL z t xs)=true:=by unfold SL;split<;>rfl
theorem Apw(z:Bool)(t:Nat)(xs:List (List V)):(SL z t xs).cells=[SL z t xs]:=by unfold SL;split<;>rfl
theorem Axe(z:Bool)(t:Nat)(xs:List (List V)):R5 (SL z t xs)=some (.int .i64 (xs.length:Int)):=by
 unfold SL
 split
 ·rename_i h;rw[h.2];rfl
 ·rfl
theorem Axf(z:Bool)(t:Nat)(xs:List (List V))(m:Nat)(i:V):R4 m (SL z t xs) i=(Hc xs i).bind fun r=>if r.length=m then some (.imm r 0) else none:=by
 unfold SL
 split
 ·rename_i h
  rw[h.2]
  cases i<;>simp[R4,Hc]
 ·rfl
theorem Aie(z:Bool)(t:Nat)(xs:List (List V))(σ:St)(m:Nat):Gv σ m (SL z t xs)=some xs:=by
 unfold SL
 split
 ·rename_i h;rw[h.2];rfl
 ·rfl
attribute [go_sem] Nat.reduceEqDiff reduceIte Nat.reduceAdd Nat.reduceMul Nat.reduceLeDiff Int.reduceLT Int.reduceLE Int.reduceToNat Int.reduceAdd Int.reduceNeg Int.reduceEq
attribute [go_sem ↓] Az0 Awe Az1 Az2 Awf Az4 Az3 Az5 Awg Awh A1s A1t A1u Awi A1v Az6 Az7 Az8 Awl A1w A0c A0d A0e Ay9 Aza get_put Apo Ann Ano A1x A1y A1z A10
attribute [go_sem ↓] Atb Azb Av4 Azc Azd Asv Av5 Av6 Av7 A1n Av8 Asw Aze Azf A1o A1p Azg Azh Azi Azj Azk Av9 Azl Awa Azm Azn Azo Azp Azq Azr Azs Azt Awb Azu Azv Awc A1q A1r Azw Azx Azy Azz Awd Asx
attribute [go_sem] we Awj Asz Awk A0n A0o A0p A0q As0 App Asr Ass Ast Asu A0f Awm Awn Awo Awp Awq Awr Aws A0g Awt Awu Awv Aww A0h Awx Awy Awz kd As1
attribute [go_sem] A0m A0i A0j A0k A0l Aw3 Aw4 Aw1 Aw2 Df Ew
attribute [go_sem] U0 Acq Ao Yl Ab8 Ak5 mkV Acy Acz Jc eqB Acl Acm Acn Aco Ac0 Ac1 Ac2 Ak6 Ac3 Ab9 Yd Nv D4 Ac5 Ac6 Ac7 Ac8 Aca mxV mnV Ac9 Ada Ak7 Adb mk1 mkA Nd Fz D3 A11 A12 Ak9 A13 A14 A15 A16 A17 Avs Avu Ash Asj Asl Avw Avy Ay3 Asn Asp Av0 Av2 Ay5 Ay7 Avt Avv Asi Ask Asm Avx Avz Ay4 Aso Asq Av1 Av3 Ay6 Ay8 decide_true decide_false gt_iff_lt ge_iff_le ne_eq not_false_eq_true not_true_eq_false A0r Aw5 Aw6 Aw7 A0s Aw8 Aw9 Axa A0t A0u A0v A0w A0x A0y A0z A00 A01 As2 As3 As4 As5 As6 Apq As7 Apr Anp Aps Apt As8 Axb Axc
attribute [go_sem] As9 Apu Ata Apv Hc Atc Xk Atd Axd Apw Axe Axf Aie
attribute [go_sem] Et Option.map_none Cd Option.bind_none A1 Cy Am Av Y6 Y7 Vv and_self and_true true_and eq_self Af Cf Aj Mm Vl Y4 Sd Cq Bw Bz Cx List.getElem?_cons_zero J0 List.set_cons_zero Vm List.replicate Ea List.flatten_nil Gn Dq Zb Nat.one_mul Sm Eh Bool.true_eq_false Lm P4 Bool.bne_false Bool.bne_true if_true if_false ite_true ite_false Sh Int.cast_ofNat_Int
variable {T:Nat->Option AF} {pr:Nat->Option (List V->Option V)}
theorem S8(σ:St):∀ (d:Nat) (js:List Nat) (i:Nat),i∈js->i∈Fr σ d js
 | 0,_,_,h=>h
 | d+1,js,i,h=>by
  simp only[Fr]
  split
  ·exact h
  ·exact S8 σ d _ i (List.mem_append_left _ h)
def OC(σ:St)(v v':V):Prop:=∀ js:List Nat,(∀ i∈v.refs,i∈js)->∀ d,Er σ js (d+2) v=some v'
def OV(σ:St)(v v':V):Prop:=∀ js:List Nat,(∀ i∈v.refs,i∈js)->Fj σ js v=some v'
inductive OVs (σ:St):List V->List V->Prop
 | nil:OVs σ [] []
 | cons {v v':V} {vs vs':List V}:OV σ v v'->OVs σ vs vs'->OVs σ (v::vs) (v'::vs')
inductive OCs (σ:St):List V->List V->Prop
 | nil:OCs σ [] []
 | cons {v v':V} {vs vs':List V}:OC σ v v'->OCs σ vs vs'->OCs σ (v::vs) (v'::vs')
theorem Tu{σ:St}{js:List Nat}:∀ {vs vs':List V},OVs σ vs vs'->(∀ i∈Aq vs,i∈js)->vs.mapM (Fj σ js)=some vs'
 | _,_,.nil,_=>rfl
 | _,_,.cons h hs,hj=>by
  simp only[Aq,Ei]at hj
  rw[Hk,h js fun i hi=>hj i (.inl hi),Tu hs fun i hi=>hj i (.inr hi)]
  rfl
theorem Aif{σ:St}{js:List Nat}{d:Nat}:∀ {vs vs':List V},OCs σ vs vs'->(∀ i∈Aq vs,i∈js)->vs.mapM (Er σ js (d+2))=some vs'
 | _,_,.nil,_=>rfl
 | _,_,.cons h hs,hj=>by
  simp only[Aq,Ei]at hj
  rw[Hk,h js (fun i hi=>hj i (.inl hi)) d,Aif hs fun i hi=>hj i (.inr hi)]
  rfl
theorem Ate{σ:St}{vs vs':List V}(h:OVs σ vs vs'):Cu σ vs=some vs':=Tu h fun i hi=>S8 σ 9 _ i (Yv.2 hi)
theorem Xl{σ:St}{v:V}(h:v.rowB=true):OC σ v v:=fun _ _ _=>Sn h
theorem K2{σ:St}{v:V}(h:Dj v=true):OV σ v v:=fun _ _=>V2 h
theorem Ajs{σ:St}{cs cs':List V}(h:OCs σ cs cs'):OV σ (.agg cs) (.agg cs'):=fun js hj=>by
 simp only[Fj]
 rw[Aif (d:=7) h hj]
 rfl
theorem Aa0{σ:St}{v v':V}(h:OC σ v v')(hc:v.cellB=true):OV σ v v':=fun js hj=>by
 unfold Fj
 split
 ·have:=h js hj 0
  simp[Er,V.rowB]at this
 ·simp[V.cellB]at hc
 ·exact h js hj 7
theorem Afk(m:Nat):∀ (xs:List (List V)) (tl:List V),(∀ r∈xs,r.length=m)->D3 m xs.length (xs.flatten++tl)=xs
 | [],_,_=>rfl
 | r::xs,tl,h=>by
  have hr:=h r Dm
  simp only[Af,D3,Ea,Bz]
  rw[<-hr,List.take_left,List.drop_left]
  congr 1
  rw[hr]
  exact Afk m xs tl fun r hr=>h r (Db _ hr)
theorem Aep{m:Nat}{xs:List (List V)}(h:∀ r∈xs,r.length=m):D3 m xs.length xs.flatten=xs:=by
 have:=Afk m xs [] h
 rwa [Cx]at this
theorem Sx{m:Nat}:∀ {xs:List (List V)},(∀ r∈xs,r.length=m)->xs.flatten.length=xs.length*m
 | [],_=>by simp
 | r::xs,h=>by
  rw[Ea,Aj,h r Dm,Sx fun r hr=>h r (Db _ hr),Af,Fi,Zc]
theorem X5{σ:St}{i g m e z:Nat}{w:Bool}{xs:List (List V)}(ho:σ[i]?=some (.row xs.flatten e g z))(hm:0<m)(hl:∀ r∈xs,r.length=m)(hr:∀ r∈xs,r.all V.rowB=true):OC σ (.sl i g 0 xs.length m w) (.lst 0 xs):=by
 intro js hj d
 have hi:js.elem i=true:=by
  have:=hj i (by simp[V.refs])
  simpa using this
 have hf:=Sx hl
 unfold Er
 rw[if_neg (by simp[V.rowB])]
 simp only[hi,if_true,ho]
 rw[if_pos ⟨trivial,hm,by omega⟩,Mm,<-hf,C6,Q6 fun c hc=>?_]
 ·simp only[Et,Aep hl]
 ·obtain⟨r,hrx,hcr⟩:=List.mem_flatten.1 hc
  exact Sn (A3.1 (hr r hrx) c hcr)
section
variable {Q:Env->St->Prop} {e:Env} {σ:St} {k:List It} {l:List AI} {kill:List Nat} {f:Nat} {args vs:List V} {v:V} {d:Option Nat}
theorem Akn(hx:OVs σ args vs)(hf:Fn T pr f vs v)(hfl:v.flatV=true)(h:WR T pr l kill k (e.putO d v) σ Q):WX T pr (.call f args) d l kill k e σ Q:=
 M2 (.pure (Ate hx) hf) (by unfold after;rw[if_pos hfl];exact h)
variable {deps:List (List Nat)} {n m:Nat} {fs:Fs} {ls:Ls} {K:Env->St->Fs->Ls->Prop} {i:AI}
end
/-! code that ends where it ends: the rest is apart -/
def AC.flat:AC->Bool
 | .skip | .reg _ _ | .drw _ _ _=>true
 | .seq a b=>a.flat&&b.flat
 | .cond _ _ x y=>x.flat&&y.flat
 | _=>false
def Hd(P:Env->St->Prop)(e:Env)(σ:St):Prop:=P e σ
@[congr] theorem A3e {P:Env->St->Prop} {e e':Env} {σ:St} (h:e=e'):Hd P e σ=Hd P e' σ:=by rw[h]
/-! lists that grow: nil, or a slice of an object of their own that they fill -/
def GV(σ:St)(m e lo:Nat)(u:V)(xs:List (List V)):Prop:=(u=.nils/\xs=[])\/∃ i g,u=.sl i g 0 xs.length m true/\σ[i]?=some (.row xs.flatten e g 0)/\lo<=i
theorem Axg{σ:St}{m e lo:Nat}:GV σ m e lo .nils []:=.inl ⟨rfl,rfl⟩
theorem Aig{σ:St}{m e lo:Nat}{u:V}{xs:List (List V)}(h:GV σ m e lo u xs):u.cellB=true:=by
 rcases h with⟨rfl,rfl⟩ | ⟨i,g,rfl,ho,hlo⟩<;>rfl
theorem Ajt{σ:St}{m e lo bytes:Nat}{u y:V}{xs ys:List (List V)}(h:GV σ m e lo u xs)(hlo0:lo<=σ.length)(hy:Gv σ m y=some ys)(hm:0<m)(hl:∀ r∈xs,r.length=m)(hly:∀ r∈ys,r.length=m)(hb:(xs.length+ys.length)*bytes<=140737488355328):
  ∃ u' σ',Fm bytes (m,e) u y σ=some (u',σ')/\GV σ' m e lo u' (xs++ys)/\σ.length<=σ'.length/\(∀ j,(∀ i g,u=.sl i g 0 xs.length m true->j≠i)->j<σ.length->σ'[j]?=σ[j]?)/\∀ j,j<lo->σ'[j]?=σ[j]?:=by
 have hall:(ys.all fun r=>r.length==m)=true:=by
  rw[A3]
  intro r hr
  simp[hly r hr]
 unfold Fm
 simp only[hy,Cd]
 unfold I8
 rw[if_pos ⟨hall,hm⟩]
 rcases h with⟨rfl,rfl⟩ | ⟨i,g,rfl,ho,hlo⟩
 ·simp only
  rw[if_pos (by simpa using hb)]
  cases ys with
  | nil=>exact⟨.nils,σ,rfl,.inl ⟨rfl,rfl⟩,Ah _,fun _ _ _=>rfl,fun _ _=>rfl⟩
  | cons y ys=>exact⟨_,_,rfl,.inr ⟨σ.length,0,rfl,by simp,hlo0⟩,by simp,fun j _ hj=>B8 hj,fun j hj=>B8 (by omega)⟩
 ·simp only
  rw[if_pos ⟨hb,trivial⟩]
  simp only[ho,if_true]
  cases ys with
  | nil=>exact⟨_,σ,rfl,.inr ⟨i,g,by simp,by simpa using ho,hlo⟩,Ah _,fun _ _ _=>rfl,fun _ _=>rfl⟩
  | cons y ys=>
   have hf:=Sx hl
   have hfy:=Sx hly
   have hfy2:(y::ys).flatten.length=(ys.length+1)*m:=by rw[hfy];rfl
   rw[if_neg (by simp),if_pos (by simp),if_neg (by
    rw[hf]
    have:(xs.length+(y::ys).length)*m=xs.length*m+(ys.length+1)*m:=by rw[Af,Mn]
    rw[this]
    have:0<(ys.length+1)*m:=Nat.mul_pos (by omega) hm
    omega),if_pos hf]
   refine⟨_,_,rfl,.inr ⟨i,g+1,by rw[Aj],?_,hlo⟩,by simp,fun j hj _=>?_,fun j hj=>by rw[B5 (by omega)]⟩
   ·have hi:i<σ.length:=by
     rcases B3 i σ.length with h | h
     ·exact h
     ·rw[Oh h]at ho;cases ho
    rw[Cw hi,List.flatten_append]
   ·have:=hj i g rfl
    rw[B5 (by omega)]
theorem Axh{v:V}(h:v.cellB=true):v.cells=[v]:=by cases v<;>simp[V.cellB]at h<;>rfl
theorem Dn{s l:St}{j:Nat}{x:Ob}(h:s[j]?=some x):(s++l)[j]?=some x:=by
 have hi:j<s.length:=by
  rcases B3 j s.length with h1 | h1
  ·exact h1
  ·rw[Oh h1]at h;cases h
 rw[B8 hi,h]
theorem Ox{xs:List (List V)}(hr:∀ r∈xs,r.all V.rowB=true):xs.flatten.all V.rowB=true:=by
 rw[A3]
 intro c hc
 obtain⟨r,hrx,hcr⟩:=List.mem_flatten.1 hc
 exact A3.1 (hr r hrx) c hcr
theorem Abm(i:Nat):∀ cs:List V,cs.all V.rowB=true->F4 (ren 0 [i]) cs=cs
 | [],_=>rfl
 | c::cs,h=>by
  simp only[Am,Ae]at h
  simp only[F4]
  rw[Abm i cs h.2]
  congr 1
  cases c<;>simp[V.rowB]at h<;>rfl
theorem Mu:∀ a b:List V,Aq (a++b)=Aq a++Aq b
 | [],_=>rfl
 | c::a,b=>by simp only[Cq,Aq,Mu a b,Bz]
theorem Acc{σ:St}{m e i g:Nat}{xs:List (List V)}(ho:σ[i]?=some (.row xs.flatten e g 0))(hm:0<m)(hl:∀ r∈xs,r.length=m)(hr:∀ r∈xs,r.all V.rowB=true):FR (.sl i g 0 xs.length m true) σ (.lst 0 xs):=by
 obtain⟨hi,ho'⟩:=Au.1 ho
 have hx:Aq xs.flatten=[]:=Jk (Ox hr)
 have h0:ren 0 [i] i=0:=by simp[ren,List.findIdx_cons]
 refine .inr ⟨[i],?_,?_⟩
 ·simp[Gr,Cs,Gw,V.cellB,V.refs,D1,ho',Ob.refs,hx,hi]
 ·simp only[Pv,ho,List.filterMap_nil,A1,Cy,Ob.ren,Abm i _ (Ox hr),V.ren,h0]
  simp only[Ef,I0,Fj]
  exact X5 (σ:=[.row xs.flatten e g 0]) (i:=0) (g:=g) (e:=e) (z:=0) (w:=true) rfl hm hl hr (Fr [.row xs.flatten e g 0] 9 (V.refs (.sl 0 g 0 xs.length m true)).eraseDups) (fun j hj=>S8 _ _ _ _ (Yv.2 hj)) 7
def GW(σ:St)(m e lo:Nat)(u:V)(xs:List (List V)):Prop:=(u=.nils/\xs=[])\/(xs≠[]/\∃ i g,u=.sl i g 0 xs.length m true/\σ[i]?=some (.row xs.flatten e g 0)/\lo<=i)
theorem Fy{σ:St}{m e lo:Nat}:GW σ m e lo .nils []:=.inl ⟨rfl,rfl⟩
theorem Ako{σ:St}{m e lo:Nat}{u:V}{xs:List (List V)}(h:GW σ m e lo u xs):GV σ m e lo u xs:=h.imp id fun h=>h.2
theorem Ep{σ:St}{m e lo:Nat}{u:V}{xs:List (List V)}(h:GW σ m e lo u xs):u.cellB=true:=Aig (Ako h)
theorem O7{σ:St}{m e lo bytes:Nat}{u y:V}{xs ys:List (List V)}(h:GW σ m e lo u xs)(hlo0:lo<=σ.length)(hy:Gv σ m y=some ys)(hm:0<m)(hl:∀ r∈xs,r.length=m)(hly:∀ r∈ys,r.length=m)(hb:(xs.length+ys.length)*bytes<=140737488355328):
  ∃ u' σ',Fm bytes (m,e) u y σ=some (u',σ')/\GW σ' m e lo u' (xs++ys)/\σ.length<=σ'.length/\(∀ j,(∀ i g,u=.sl i g 0 xs.length m true->j≠i)->j<σ.length->σ'[j]?=σ[j]?)/\∀ j,j<lo->σ'[j]?=σ[j]?:=by
 obtain⟨u',σ',h1,h2,h3,h4,h5⟩:=Ajt (Ako h) hlo0 hy hm hl hly hb
 refine⟨u',σ',h1,?_,h3,h4,h5⟩
 by_cases he:xs++ys=[]
 ·rw[List.append_eq_nil_iff]at he
  obtain⟨rfl,rfl⟩:=he
  rcases h with⟨rfl,_⟩ | ⟨hn,_⟩
  ·have:Fm bytes (m,e) .nils y σ=some (.nils,σ):=by simp[Fm,hy,I8,hm]
   rw[this]at h1
   cases h1
   exact Fy
  ·exact absurd rfl hn
 ·exact h2.imp id fun h=>⟨he,h⟩
theorem O2{σ l:St}{m e lo:Nat}{u:V}{xs:List (List V)}(h:GW σ m e lo u xs):GW (σ++l) m e lo u xs:=by
 rcases h with h | ⟨hn,i,g,h,ho,hlo⟩
 ·exact .inl h
 ·exact .inr ⟨hn,i,g,h,Dn ho,hlo⟩
theorem Ex{σ:St}{j:Nat}{x:Ob}{m e lo:Nat}{u:V}{xs:List (List V)}(h:GW σ m e lo u xs)(hj:j<lo):GW (σ.set j x) m e lo u xs:=by
 rcases h with h | ⟨hn,i,g,h,ho,hlo⟩
 ·exact .inl h
 ·exact .inr ⟨hn,i,g,h,by rw[B5 (by omega)];exact ho,hlo⟩
theorem Acd{t:Nat}{xs:List (List V)}(h:xs≠[]):SL true t xs=.lst t xs:=by simp[SL,h]
theorem Rm{σ:St}{m e lo:Nat}{u:V}{xs:List (List V)}(h:GW σ m e lo u xs)(hm:0<m)(hl:∀ r∈xs,r.length=m)(hr:∀ r∈xs,r.all V.rowB=true):OC σ u (SL true 0 xs):=by
 rcases h with⟨rfl,rfl⟩ | ⟨hn,i,g,rfl,ho,hlo⟩
 ·exact Xl rfl
 ·rw[Acd hn];exact X5 ho hm hl hr
theorem Akp{σ:St}{m e lo:Nat}{u:V}{xs:List (List V)}(h:GW σ m e lo u xs)(hm:0<m)(hl:∀ r∈xs,r.length=m)(hr:∀ r∈xs,r.all V.rowB=true):FR u σ (SL true 0 xs):=by
 rcases h with⟨rfl,rfl⟩ | ⟨hn,i,g,rfl,ho,hlo⟩
 ·exact H0 rfl
 ·rw[Acd hn];exact Acc ho hm hl hr
/-! what a call leaves of the state, where an argument names a list's object -/
theorem Amj(σ:St)(i j:Nat)(h:j≠i):(σ.freeze [i])[j]?=σ[j]?:=by
 simp only[St.freeze]
 split
 ·rw[B5 (by omega)]
 ·rfl
section
variable {T:Nat->Option AF} {pr:Nat->Option (List V->Option V)} {Q:Env->St->Prop} {e:Env} {σ:St} {k:List It} {l:List AI} {kill:List Nat} {f:Nat} {args vs:List V} {v:V} {d:Option Nat}
end
theorem Axi{σ:St}{cs:List V}{m n:Nat}(h:cs.all V.rowB=true):Um m n σ cs=some (.lst 1 (D3 m n cs),σ):=by
 unfold Um
 rw[Q6 fun c hc=>Sn (A3.1 h c hc),Jk h]
 rfl
attribute [go_sem] Axi
theorem Afl(z:Bool)(t m:Nat)(xs:List (List V))(k:IntKind)(b:Nat)(hb:b<=xs.length):∃ z' t',Rx m (SL z t xs) none (some (.int k (b:Int))) none=some (SL z' t' (xs.take b)):=by
 unfold SL
 split
 ·rename_i h
  obtain⟨rfl,rfl⟩:=h
  have:b=0:=by simpa using hb
  subst this
  exact⟨true,0,by simp[Rx,D4]⟩
 ·refine⟨false,(if b=xs.length/\t=1 then 1 else 0),?_⟩
  simp[Rx,D4,hb]
def Cl(s:St):Prop:=∀ ob∈s,∀ i∈ob.refs,i<s.length
theorem Tv{s:St}{ob:Ob}(h:Cl s)(ho:∀ i∈ob.refs,i<s.length+1):Cl (s++[ob]):=by
 intro o hm i hi
 rw[Aj]
 rcases Ei.1 hm with hm | hm
 ·have:=h o hm i hi;simp;omega
 ·simp at hm;subst hm;simpa using ho i hi
theorem O8{s:St}{j:Nat}{ob:Ob}(h:Cl s)(ho:∀ i∈ob.refs,i<s.length):Cl (s.set j ob):=by
 intro o hm i hi
 rw[Hx]
 rcases List.mem_or_eq_of_mem_set hm with hm | hm
 ·exact h o hm i hi
 ·subst hm;exact ho i hi
mutual
theorem Wt(ρ:Nat->Nat):∀ v:V,(∀ i∈v.refs,ρ i=i)->v.ren ρ=v
 | .ptr i g o,h=>by simp only[V.ren];rw[h i (by simp[V.refs])]
 | .sl i g o l m w,h=>by simp only[V.ren];rw[h i (by simp[V.refs])]
 | .mp i,h=>by simp only[V.ren];rw[h i (by simp[V.refs])]
 | .fn f a c,h=>by
  simp only[V.ren]
  rw[Ql ρ a fun i hi=>h i (by simp only[V.refs,Ei];exact .inl hi),Ql ρ c fun i hi=>h i (by simp only[V.refs,Ei];exact .inr hi)]
 | .agg cs,h=>by simp only[V.ren];rw[Ql ρ cs fun i hi=>h i (by simpa only[V.refs] using hi)]
 | .tup cs,h=>by simp only[V.ren];rw[Ql ρ cs fun i hi=>h i (by simpa only[V.refs] using hi)]
 | .und,_=>rfl
 | .skp,_=>rfl
 | .bool _,_=>rfl
 | .int _ _,_=>rfl
 | .str _,_=>rfl
 | .nili,_=>rfl
 | .ifc,_=>rfl
 | .nils,_=>rfl
 | .nilp,_=>rfl
 | .nilf,_=>rfl
 | .lst _ _,_=>rfl
 | .imm _ _,_=>rfl
theorem Ql(ρ:Nat->Nat):∀ vs:List V,(∀ i∈Aq vs,ρ i=i)->F4 ρ vs=vs
 | [],_=>rfl
 | v::r,h=>by
  simp only[F4]
  rw[Wt ρ v fun i hi=>h i (by simp only[Aq,Ei];exact .inl hi),Ql ρ r fun i hi=>h i (by simp only[Aq,Ei];exact .inr hi)]
end
theorem Ad8(ρ:Nat->Nat)(ob:Ob)(h:∀ i∈ob.refs,ρ i=i):ob.ren ρ=ob:=by
 cases ob with
 | row cs e g z=>simp only[Ob.ren];rw[Ql ρ cs h]
 | map kvs=>
  simp only[Ob.ren]
  congr 1
  have:∀ l:List (List UInt8 × V),(∀ i∈Aq (l.map (·.2)),ρ i=i)->l.map (fun p=>(p.1,p.2.ren ρ))=l:=by
   intro l
   induction l with
   | nil=>intro _;rfl
   | cons p l ih=>
    intro h
    simp only[A1,Aq,Ei]at h ⊢
    rw[ih fun i hi=>h i (.inr hi),Wt ρ p.2 fun i hi=>h i (.inl hi)]
  exact this kvs h
 | dead=>rfl
theorem Z1{n k i:Nat}(h:i<n+k):ren n (List.range' n k) i=i:=by
 unfold ren
 split
 ·rfl
 ·have h1:List.findIdx (·==i) (List.range' n k)=i - n:=by
   rw[List.findIdx_eq (by simp;omega)]
   simp
   constructor
   ·omega
   ·intro j hj
    omega
  rw[h1]
  omega
theorem Anq{σ σ':St}{m e lo bytes:Nat}{u u' y:V}{xs ys:List (List V)}(h:GW σ m e lo u xs)(hy:Gv σ m y=some ys)(ha:Fm bytes (m,e) u y σ=some (u',σ'))(hx:Aq xs.flatten=[])(hz:Aq ys.flatten=[])(hc:Cl σ):Cl σ':=by
 unfold Fm at ha
 simp only[hy,Cd]at ha
 unfold I8 at ha
 split at ha
 ·rcases h with⟨rfl,rfl⟩ | ⟨hn,i,g,rfl,ho,hlo⟩
  ·simp only at ha
   split at ha
   ·split at ha
    ·cases ha;exact hc
    ·cases ha;exact Tv hc (by simp[Ob.refs,hz])
   ·cases ha
  ·simp only at ha
   split at ha
   ·simp only[ho,if_true]at ha
    split at ha
    ·cases ha;exact hc
    ·split at ha
     ·split at ha
      ·cases ha
       refine O8 hc fun j hj=>?_
       simp only[Ob.refs,Mu,hz,Cx,Ei]at hj
       have sub:∀ (a:List V) (k:Nat),Aq a=[]->Aq (a.take k)=[]/\Aq (a.drop k)=[]:=by
        intro a k h0
        have:=Mu (a.take k) (a.drop k)
        rw[Jh,h0]at this
        exact List.append_eq_nil_iff.1 this.symm
       rw[(sub _ _ hx).1,(sub _ _ hx).2]at hj
       simp at hj
      ·split at ha
       ·cases ha
        exact O8 hc (by simp[Ob.refs,Mu,hx,hz])
       ·cases ha
     ·cases ha
   ·cases ha
 ·cases ha
theorem Aih{σ:St}{m e lo:Nat}{u:V}{xs:List (List V)}(h:GW σ m e lo u xs):∀ i∈u.refs,i<σ.length:=by
 rcases h with⟨rfl,rfl⟩ | ⟨hn,i,g,rfl,ho,hlo⟩
 ·intro i hi;simp[V.refs]at hi
 ·intro j hj
  simp[V.refs]at hj
  subst hj
  exact(Au.1 ho).1
theorem Apx{σ1:St}{v:V}{n:Nat}(hr:v.refs=[])(ho:Cs v=true)(hn:n<=σ1.length)(hc:Cl σ1):Gr n (List.range' n (σ1.length - n)) v σ1=true/\v=v.ren (ren n (List.range' n (σ1.length - n)))/\σ1=(σ1.take n++(List.range' n (σ1.length - n)).filterMap (σ1[·]?)).map (Ob.ren (ren n (List.range' n (σ1.length - n)))):=by
 refine⟨?_,?_,?_⟩
 ·have hw:∀ is:List Nat,(∀ i∈is,i<σ1.length)->D1 n (List.range' n (σ1.length - n)) is=true:=by
   intro is his
   unfold D1
   rw[A3]
   intro i hi
   have:=his i hi
   simp
   omega
  unfold Gr
  simp only[Ae]
  refine⟨ho,hw _ (by rw[hr];simp),?_,?_,?_⟩
  ·rw[A3]
   intro o hm
   refine hw _ fun i hi=>?_
   rcases Ei.1 hm with hm | hm
   ·exact hc o (List.mem_of_mem_take hm) i hi
   ·obtain⟨j,_,hj⟩:=List.mem_filterMap.1 hm
    exact hc o (Ji hj) i hi
  ·simp[List.nodup_range']
  ·rw[A3]
   intro i hi
   simp at hi ⊢
   omega
 ·exact(Wt _ v (by rw[hr];simp)).symm
 ·have he:σ1.take n++(List.range' n (σ1.length - n)).filterMap (σ1[·]?)=σ1:=by
   have:(List.range' n (σ1.length - n)).filterMap (σ1[·]?)=σ1.drop n:=by
    apply Pz
    intro i
    have hfm:∀ (k n:Nat),n+k<=σ1.length->(List.range' n k).filterMap (σ1[·]?)=(σ1.drop n).take k:=by
     intro k
     induction k with
     | zero=>intro n _;simp
     | succ k ih=>
      intro n hk
      rw[Vp,Pv,Aw (by omega)]
      simp only
      rw[ih (n+1) (by omega),Fg (show n<σ1.length by omega),Sd]
    rw[hfm _ _ (by omega),Of (by simp)]
   rw[this,Jh]
  rw[he]
  have:∀ l:List Ob,(∀ o∈l,o∈σ1)->l.map (Ob.ren (ren n (List.range' n (σ1.length - n))))=l:=by
   intro l
   induction l with
   | nil=>intro _;rfl
   | cons o l ih=>
    intro hm
    rw[A1,ih fun o ho=>hm o (Db _ ho),Ad8 _ o fun i hi=>Z1 (by have:=hc o (hm o Dm) i hi;omega)]
  exact(this σ1 fun _ h=>h).symm
theorem Aju{T:Nat->Option AF}{pr:Nat->Option (List V->Option V)}{f p:Nat}{res:List AR}{body:AC}{vs:List V}{v:V}{σ σ':St}(hT:T f=some ⟨p,res,true,body,none⟩)(hl:vs.length=p)
  (h:W T pr [.c body] (Df 0 vs) σ (Hd fun e' σ1=>B2 e' σ1 res=some v/\σ1=σ')) (hr:v.refs=[]) (ho:Cs v=true) (hn:σ.length<=σ'.length) (hc:Cl σ'):Th T pr f vs σ v σ':=by
 obtain⟨e',σ1,hE,hres,rfl⟩:=h
 obtain⟨k1,k2,k3⟩:=Apx hr ho hn hc
 exact Anj hT rfl rfl hl ⟨e',σ1,hE,v,_,hres,k1,k2,k3⟩
theorem Amk{T:Nat->Option AF}{pr:Nat->Option (List V->Option V)}{σ:St}{f:Nat}{vs:List V}{v:V}{F:AF}{σ':St}(hT:T f=some F)(hsp:F.spec=none)(hl:vs.length=F.pars)(h:W T pr [.c F.body] (Df 0 vs) σ fun e' σ1=>∃ v0 js,B2 e' σ1 F.res=some v0/\Gr σ.length js v0 σ1=true/\v=v0.ren (ren σ.length js)/\σ'=(σ1.take σ.length++js.filterMap (σ1[·]?)).map (Ob.ren (ren σ.length js))):Bk T pr f vs σ v σ':=by
 obtain⟨e',σ1,hE,v0,js,hr,hl2,rfl,rfl⟩:=h
 exact⟨F,hT,hsp,.fnL hT hsp hl hE hr hl2⟩
theorem Atf{T:Nat->Option AF}{pr:Nat->Option (List V->Option V)}{f p:Nat}{res:List AR}{thr:Bool}{body:AC}{vs:List V}{v:V}{σ σ':St}(hT:T f=some ⟨p,res,thr,body,none⟩)(hl:vs.length=p)
  (h:W T pr [.c body] (Df 0 vs) σ (Hd fun e' σ1=>B2 e' σ1 res=some v/\σ1=σ')) (hr:∀ i∈v.refs,i<σ'.length) (ho:Cs v=true) (hn:σ.length<=σ'.length) (hc:Cl σ'):Bk T pr f vs σ v σ':=by
 obtain⟨e',σ1,hE,hres,rfl⟩:=h
 refine Amk hT rfl hl ⟨e',σ1,hE,v,List.range' σ.length (σ1.length - σ.length),hres,?_,?_,?_⟩
 ·have hw:∀ is:List Nat,(∀ i∈is,i<σ1.length)->D1 σ.length (List.range' σ.length (σ1.length - σ.length)) is=true:=by
   intro is his
   unfold D1
   rw[A3]
   intro i hi
   have:=his i hi
   simp
   omega
  unfold Gr
  simp only[Ae]
  refine⟨ho,hw _ hr,?_,?_,?_⟩
  ·rw[A3]
   intro o hm
   refine hw _ fun i hi=>?_
   rcases Ei.1 hm with hm | hm
   ·exact hc o (List.mem_of_mem_take hm) i hi
   ·obtain⟨j,_,hj⟩:=List.mem_filterMap.1 hm
    exact hc o (Ji hj) i hi
  ·simp[List.nodup_range']
  ·rw[A3]
   intro i hi
   simp at hi ⊢
   omega
 ·exact(Wt _ v fun i hi=>Z1 (by have:=hr i hi;omega)).symm
 ·have he:σ1.take σ.length++(List.range' σ.length (σ1.length - σ.length)).filterMap (σ1[·]?)=σ1:=by
   have:(List.range' σ.length (σ1.length - σ.length)).filterMap (σ1[·]?)=σ1.drop σ.length:=by
    apply Pz
    intro i
    have hfm:∀ (k n:Nat),n+k<=σ1.length->(List.range' n k).filterMap (σ1[·]?)=(σ1.drop n).take k:=by
     intro k
     induction k with
     | zero=>intro n _;simp
     | succ k ih=>
      intro n hk
      rw[Vp,Pv,Aw (by omega)]
      simp only
      rw[ih (n+1) (by omega),Fg (show n<σ1.length by omega),Sd]
    rw[hfm _ _ (by omega),Of (by simp)]
   rw[this,Jh]
  rw[he]
  have:∀ l:List Ob,(∀ o∈l,o∈σ1)->l.map (Ob.ren (ren σ.length (List.range' σ.length (σ1.length - σ.length))))=l:=by
   intro l
   induction l with
   | nil=>intro _;rfl
   | cons o l ih=>
    intro hm
    rw[A1,ih fun o ho=>hm o (Db _ ho),Ad8 _ o fun i hi=>Z1 (by have:=hc o (hm o Dm) i hi;omega)]
  exact(this σ1 fun _ h=>h).symm
theorem LZ{α:Type}:(∀ a b c:List α,a++b++c=a++(b++c))/\(∀ (a:α) (b c:List α),a::b++c=a::(b++c))/\(∀ a:List α,[]++a=a)/\(∀ a b:List α,(a++b).length=a.length+b.length)/\(∀ (a:α) (b:List α),(a::b).length=b.length+1)/\([]:List α).length=0/\∀ n:Nat,0+n=n:=⟨Bz,fun _ _ _=>rfl,fun _=>rfl,fun _ _=>Aj,fun _ _=>rfl,rfl,Gn⟩
end Go.Proofs.YtcoeikinocflnaaGreatDoor.KM
