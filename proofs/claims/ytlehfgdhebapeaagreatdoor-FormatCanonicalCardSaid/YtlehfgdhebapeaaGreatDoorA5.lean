/- THE PLAIN MACHINE, joined texts: Qa Qb Qc Qd Qe Qf Qg. -/
import Derived.Test.YtlehfgdhebapeaaGreatDoorA4
set_option linter.all false
/- Walking by rewriting: what comes of code, as equations. -/
namespace Go.Proofs.YtlehfgdhebapeaaGreatDoor.KM
open Go
variable {T:Nat->Option AF} {pr:Nat->Option (List V->Option V)}
theorem A7{α:Sort _}{a b:α}(h:a=b):a=b:=h
/-! slots -/
theorem get_put:∀ (e:Env) (n m:Nat) (v:V),(Env.put e n v).get m=if n=m then v else Env.get e m
 | [],n,m,v=>by simp only[Env.put,Env.get]
 | (i,u)::r,n,m,v=>by
  simp only[Env.put]
  split
  ·rename_i h
   subst h
   simp only[Env.get]
   split<;>rfl
  ·rename_i h
   simp only[Env.get,get_put r n m v]
   split
   ·rename_i h2
    subst h2
    rw[if_neg (by omega)]
   ·rfl
theorem Ami(e:Env)(n:Nat)(v:V):e.putO (some n) v=e.put n v:=A7 rfl
theorem Amj(e:Env)(v:V):e.putO none v=e:=A7 rfl
theorem Awz(e:Env)(n:Nat):Ac e (.t n)=e.get n:=rfl
theorem Aw0(e:Env)(v:V):Ac e (.k v)=v:=rfl
theorem An2(e:Env)(n m:Nat)(v:V):Env.get ((n,v)::e) m=if n=m then v else Env.get e m:=A7 rfl
/-! what an operation gives -/
inductive Rs where
 | val (v:V) (σ:St)
 | call (f:Nat) (args:List V)
 | fail
def r1(o:Option V)(σ:St):Rs:=
 match o with
 | some v=>.val v σ
 | none=>.fail
def r2(o:Option (V × St)):Rs:=
 match o with
 | some (v,σ)=>.val v σ
 | none=>.fail
theorem Aqp(v:V)(σ:St):r1 (some v) σ=.val v σ:=A7 rfl
theorem Aqq(σ:St):r1 none σ=.fail:=A7 rfl
theorem Aqr(v:V)(σ:St):r2 (some (v,σ))=.val v σ:=A7 rfl
theorem Aqs:r2 none=.fail:=A7 rfl
theorem Ma(o:Option V)(σ:St):r2 (o.map fun v=>(v,σ))=r1 o σ:=by cases o<;>rfl
def Av(op:AO)(e:Env)(σ:St):Rs:=
 match Bn e op with
 | some (f,args)=>.call f args
 | none=>r2 (Ae op e σ)
def Abz(c a b:V):Option V:=
 match c with
 | .bool z=>some (if z=true then a else b)
 | _=>none
def Akc(t:Nat)(x:V)(σ:St):Option (V × St):=if x.cells.all V.cellB=true then some (.ptr σ.length 0 0,σ++[.row x.cells t 0 0]) else none
def mkV(t bytes:Nat)(z:List V)(x y:V)(σ:St):Option (V × St):=
 match x,y with
 | .int .i64 n,.int .i64 c=>if 0<=n/\n<=c/\c.toNat*bytes<=140737488355328 then some (.sl σ.length 0 0 n.toNat z.length true,σ++[.row (List.replicate n.toNat z).flatten t 0 0]) else none
 | _,_=>none
def Uo(m n:Nat)(σ:St)(cs:List V):Option (V × St):=(cs.mapM (Fl σ (Gl σ 9 (Aw cs).eraseDups) 9)).map fun cs'=>(.lst 1 (Eg m n cs'),σ.freeze (Gl σ 9 (Aw cs).eraseDups))
def Ack(n:Nat)(x v:V)(σ:St):Option (V × St):=(W9 σ n x v).map fun σ'=>(.und,σ')
def Acl(x:V):Option V:=
 match x with
 | .imm r o=>some (.imm r o)
 | .ptr b g o=>some (.ptr b g o)
 | _=>none
def Acm(k:EqK)(neg:Bool)(x y:V):Option V:=(Jc k x y).map fun z=>.bool (z != neg)
def Acn(k:IntKind)(x:V):Option V:=
 match x with
 | .int _ n=>some (.int k (k.wrap n))
 | _=>none
def Aco(x:V):Option V:=
 match x with
 | .str l=>some (.str l)
 | _=>none
def Acp(x:V)(σ:St):Option V:=
 match x with
 | .sl i g off len m w=>match σ[i]? with
  | some (.row _ _ g' z)=>if g=g'/\z=0 then some (.sl i g off len m w) else none
  | _=>none
 | _=>none
def Akd(ty:Nat)(x:V)(σ:St):Option (V × St):=
 match x with
 | .str l=>some (.sl σ.length 0 0 l.length 1 true,σ++[.row (Bt l).flatten ty 0 0])
 | _=>none
def Acq(x:V)(σ:St):Option V:=(Hy σ 1 x).bind fun xs=>(Hw xs).map fun l=>.str l
def Ab0(len m:Nat)(x:V)(lo hi:Option V):Option V:=
 match x with
 | .ptr i g off=>(Ea lo 0).bind fun a=>(Ea hi len).bind fun b=>if a<=b/\b<=len then some (.sl i g (off+a*m) (b - a) m false) else none
 | _=>none
def X8(off:Nat)(x:V):Option V:=
 match x with
 | .imm r o=>some (.imm r (o+off))
 | .ptr b g o=>some (.ptr b g (o+off))
 | _=>none
def Acr(off n:Nat)(one:Bool)(x:V):Option V:=
 match x with
 | .agg cs=>if off+n<=cs.length then Fm one ((cs.drop off).take n) else none
 | _=>none
def Rx(m:Nat)(x i:V):Option V:=
 match x with
 | .lst _ xs=>(Hf xs i).bind fun r=>if r.length=m then some (.imm r 0) else none
 | .sl j g off len m' _=>match i with
  | .int _ n=>if 0<=n/\n<len/\m=m' then some (.ptr j g (off+n.toNat*m)) else none
  | _=>none
 | _=>none
def Acs(len m:Nat)(x i:V):Option V:=
 match i with
 | .int _ n=>if 0<=n/\n<len then(match x with
  | .imm r o=>some (.imm r (o+n.toNat*m))
  | .ptr b g o=>some (.ptr b g (o+n.toNat*m))
  | _=>none) else none
 | _=>none
def Acu(x i:V):Option V:=
 match x with
 | .str l=>(Hf l i).map fun c=>.int .u8 (c.toNat:Int)
 | _=>none
def Acv(len m:Nat)(one:Bool)(x i:V):Option V:=
 match i with
 | .int _ n=>if 0<=n/\n<len then(match x with
  | .agg cs=>if n.toNat*m+m<=cs.length then Fm one ((cs.drop (n.toNat*m)).take m) else none
  | _=>none) else none
 | _=>none
def Acw(i:Nat)(x:V):Option V:=
 match x with
 | .tup vs=>vs[i]?
 | _=>none
def Ab1(x:V):Option V:=
 match x with
 | .str l=>some (.int .i64 (l.length:Int))
 | _=>none
def Ry(x:V):Option V:=
 match x with
 | .nils=>some (.int .i64 0)
 | .lst _ xs=>some (.int .i64 (xs.length:Int))
 | .sl _ _ _ len _ _=>some (.int .i64 (len:Int))
 | _=>none
def Ir(bytes:Nat)(m:Nat × Nat)(x y:V)(σ:St):Option (V × St):=(Hy σ m.1 y).bind fun ys=>Jy bytes m σ x ys
def Ajt(ty:Nat)(x y:V)(σ:St):Option (V × St):=
 match y with
 | .str l=>Jy 1 (1,ty) σ x (Bt l)
 | _=>none
def mxV(x y:V):Option V:=
 match x,y with
 | .int k a,.int k' b=>if k=k' then some (.int k (max a b)) else none
 | _,_=>none
def mnV(x y:V):Option V:=
 match x,y with
 | .int k a,.int k' b=>if k=k' then some (.int k (min a b)) else none
 | _,_=>none
def Acx(f:Nat)(a c:List V):Option V:=if(a.all V.cellB&&c.all V.cellB)=true then some (.fn f a c) else none
def Acy(z x k:V)(σ:St):Option V:=
 match x,k with
 | .mp i,.str s=>match σ[i]? with
  | some (.map kvs)=>some (match Js s kvs 0 with
   | some (_,v)=>v
   | none=>z)
  | _=>none
 | _,_=>none
def Ake(x k v:V)(σ:St):Option (V × St):=
 match x,k with
 | .mp i,.str s=>match σ[i]? with
  | some (.map kvs)=>if v.flatB=true then some (.und,σ.set i (.map (match Js s kvs 0 with
   | some (j,_)=>kvs.set j (s,v)
   | none=>kvs++[(s,v)]))) else none
  | _=>none
 | _,_=>none
section
variable {e:Env} {σ:St}
theorem Aw1(x:S):Av (.mov x) e σ=.val (Ac e x) σ:=A7 rfl
theorem Atz(c a b:S):Av (.pick c a b) e σ=r1 (Abz (Ac e c) (Ac e a) (Ac e b)) σ:=by
 simp only[Av,Bn,Ae,Abz];cases Ac e c<;>rfl
theorem Aw2(t:Nat)(z:List V):Av (.new t z) e σ=.val (.ptr σ.length 0 0) (σ++[.row z t 0 0]):=A7 rfl
theorem Aw3(t:Nat)(x:S):Av (.box t x) e σ=r2 (Akc t (Ac e x) σ):=A7 rfl
theorem Aqt(z:List V)(ps:List (Nat × Nat × S)):Av (.build z ps) e σ=r1 ((Gd z (ps.map fun p=>(p.1,p.2.1,Ac e p.2.2))).map fun cs=>.agg cs) σ:=by
 simp only[Av,Bn,Ae];cases Gd z (ps.map fun p=>(p.1,p.2.1,Ac e p.2.2))<;>rfl
theorem At0(n:Nat)(z:List V)(ps:List (Nat × S)):Av (.rows n z ps) e σ=r1 ((Gd (List.replicate n z).flatten (ps.map fun p=>(p.1*z.length,z.length,Ac e p.2))).bind fun cs=>if cs.all V.rowB=true then some (.lst 1 (Eg z.length n cs)) else none) σ:=by
 simp only[Av,Bn,Ae]
 cases Gd (List.replicate n z).flatten (ps.map fun p=>(p.1*z.length,z.length,Ac e p.2)) with
 | none=>rfl
 | some cs=>simp only[Cc];split<;>rfl
theorem At1(n:Nat)(z:List V)(ps:List (Nat × S)):Av (.rowf n z ps) e σ=r2 ((Gd (List.replicate n z).flatten (ps.map fun p=>(p.1*z.length,z.length,Ac e p.2))).bind fun cs=>Uo z.length n σ cs):=A7 rfl
theorem At2(t n:Nat)(z:List V)(ps:List (Nat × S)):Av (.rowo t n z ps) e σ=r2 ((Gd (List.replicate n z).flatten (ps.map fun p=>(p.1*z.length,z.length,Ac e p.2))).map fun cs=>(.sl σ.length 0 0 n z.length true,σ++[.row cs t 0 0])):=A7 rfl
theorem Azf(t bytes:Nat)(z:List V)(x y:S):Av (.mk t bytes z x y) e σ=r2 (mkV t bytes z (Ac e x) (Ac e y) σ):=A7 rfl
theorem At3(n:Nat)(one:Bool)(x:S):Av (.load n one x) e σ=r1 (G9 σ n one (Ac e x)) σ:=Ma _ _
theorem Aqu(n:Nat)(x v:S):Av (.store n x v) e σ=r2 (Ack n (Ac e x) (Ac e v) σ):=A7 rfl
theorem Aw4(x:S):Av (.chk x) e σ=r1 (Acl (Ac e x)) σ:=by
 simp only[Av,Bn,Ae,Acl];cases Ac e x<;>rfl
theorem Aw5(o:BinOp)(x y:S):Av (.bin o x y) e σ=r1 (Uw o (Ac e x) (Ac e y)) σ:=Ma _ _
theorem Azg(k:EqK)(neg:Bool)(x y:S):Av (.eq k neg x y) e σ=r1 (Acm k neg (Ac e x) (Ac e y)) σ:=by
 simp only[Av,Bn,Ae,Acm];cases Jc k (Ac e x) (Ac e y)<;>rfl
theorem Azh(o:UnOp)(x:S):Av (.un o x) e σ=r1 (Yd o (Ac e x)) σ:=Ma _ _
theorem Aw6(k:IntKind)(x:S):Av (.cvi k x) e σ=r1 (Acn k (Ac e x)) σ:=by
 simp only[Av,Bn,Ae,Acn];cases Ac e x<;>rfl
theorem Aw7(x:S):Av (.cvs x) e σ=r1 (Aco (Ac e x)) σ:=by
 simp only[Av,Bn,Ae,Aco];cases Ac e x<;>rfl
theorem Aw8(x:S):Av (.cvl x) e σ=r1 (Acp (Ac e x) σ) σ:=by
 simp only[Av,Bn,Ae,Acp]
 cases Ac e x with
 | sl i g off len m w=>
  simp only
  cases σ[i]? with
  | none=>rfl
  | some ob=>
   cases ob with
   | row cs e g' z=>simp only;split<;>rfl
   | _=>rfl
 | _=>rfl
theorem Aw9(ty:Nat)(x:S):Av (.stb ty x) e σ=r2 (Akd ty (Ac e x) σ):=A7 rfl
theorem Axa(x:S):Av (.bts x) e σ=r1 (Acq (Ac e x) σ) σ:=by
 simp only[Av,Bn,Ae,Acq]
 cases Hy σ 1 (Ac e x) with
 | none=>rfl
 | some xs=>simp only[Cc];cases Hw xs<;>rfl
theorem At4(x:S)(lo hi:Option S):Av (.slcs x lo hi) e σ=r1 (N8 (Ac e x) (lo.map (Ac e)) (hi.map (Ac e))) σ:=Ma _ _
theorem Axb(m:Nat)(x:S)(lo hi mx:Option S):Av (.slc m x lo hi mx) e σ=r1 (Acg m (Ac e x) (lo.map (Ac e)) (hi.map (Ac e)) (mx.map (Ac e))) σ:=Ma _ _
theorem Axc(n:Nat)(x:S):Av (.sap n x) e σ=r1 (X5 n (Ac e x)) σ:=Ma _ _
theorem At5(len m:Nat)(x:S)(lo hi:Option S):Av (.slca len m x lo hi) e σ=r1 (Ab0 len m (Ac e x) (lo.map (Ac e)) (hi.map (Ac e))) σ:=by
 simp only[Av,Bn,Ae,Ab0]
 cases Ac e x with
 | ptr i g off=>
  simp only
  cases Ea (lo.map (Ac e)) 0 with
  | none=>rfl
  | some a=>
   simp only[Cc]
   cases Ea (hi.map (Ac e)) len with
   | none=>rfl
   | some b=>simp only[Cc];split<;>rfl
 | _=>rfl
theorem Axd(off:Nat)(x:S):Av (.fad off x) e σ=r1 (X8 off (Ac e x)) σ:=by
 simp only[Av,Bn,Ae,X8];cases Ac e x<;>rfl
theorem Axe(off n:Nat)(one:Bool)(x:S):Av (.fld off n one x) e σ=r1 (Acr off n one (Ac e x)) σ:=by
 simp only[Av,Bn,Ae,Acr]
 cases Ac e x with
 | agg cs=>simp only;split;· exact Ma _ _
           ·rfl
 | _=>rfl
theorem Axf(m:Nat)(x i:S):Av (.iad m x i) e σ=r1 (Rx m (Ac e x) (Ac e i)) σ:=by
 simp only[Av,Bn,Ae,Rx]
 cases Ac e x with
 | lst t xs=>
  simp only
  cases Hf xs (Ac e i) with
  | none=>rfl
  | some r=>simp only[Cc];split<;>rfl
 | sl j g off len m' w=>
  simp only
  cases Ac e i with
  | int k n=>simp only;split<;>rfl
  | _=>rfl
 | _=>rfl
theorem Axg(len m:Nat)(x i:S):Av (.iar len m x i) e σ=r1 (Acs len m (Ac e x) (Ac e i)) σ:=by
 simp only[Av,Bn,Ae,Acs]
 cases Ac e i with
 | int k n=>simp only;split;· cases Ac e x<;>rfl
            ·rfl
 | _=>rfl
theorem Axh(x i:S):Av (.idx x i) e σ=r1 (Acu (Ac e x) (Ac e i)) σ:=by
 simp only[Av,Bn,Ae,Acu]
 cases Ac e x with
 | str l=>simp only;cases Hf l (Ac e i)<;>rfl
 | _=>rfl
theorem Axi(len m:Nat)(one:Bool)(x i:S):Av (.ida len m one x i) e σ=r1 (Acv len m one (Ac e x) (Ac e i)) σ:=by
 simp only[Av,Bn,Ae,Acv]
 cases Ac e i with
 | int k n=>
  simp only
  split
  ·cases Ac e x with
   | agg cs=>simp only;split;· exact Ma _ _
             ·rfl
   | _=>rfl
  ·rfl
 | _=>rfl
theorem Axj(i:Nat)(x:S):Av (.ext i x) e σ=r1 (Acw i (Ac e x)) σ:=by
 simp only[Av,Bn,Ae,Acw]
 cases Ac e x with
 | tup vs=>exact Ma _ _
 | _=>rfl
theorem At6(x:S):Av (.lens x) e σ=r1 (Ab1 (Ac e x)) σ:=by
 simp only[Av,Bn,Ae,Ab1];cases Ac e x<;>rfl
theorem Axk(x:S):Av (.len x) e σ=r1 (Ry (Ac e x)) σ:=by
 simp only[Av,Bn,Ae,Ry];cases Ac e x<;>rfl
theorem Axl(bytes:Nat)(m:Nat × Nat)(x y:S):Av (.app bytes m x y) e σ=r2 (Ir bytes m (Ac e x) (Ac e y) σ):=A7 rfl
theorem At7(ty:Nat)(x y:S):Av (.apps ty x y) e σ=r2 (Ajt ty (Ac e x) (Ac e y) σ):=A7 rfl
theorem Azi(x y:S):Av (.mx x y) e σ=r1 (mxV (Ac e x) (Ac e y)) σ:=by
 simp only[Av,Bn,Ae,mxV]
 cases Ac e x with
 | int k a=>
  cases Ac e y with
  | int k' b=>simp only;split<;>rfl
  | _=>rfl
 | _=>rfl
theorem Azj(x y:S):Av (.mn x y) e σ=r1 (mnV (Ac e x) (Ac e y)) σ:=by
 simp only[Av,Bn,Ae,mnV]
 cases Ac e x with
 | int k a=>
  cases Ac e y with
  | int k' b=>simp only;split<;>rfl
  | _=>rfl
 | _=>rfl
theorem Axm(f:Nat)(a c:List S):Av (.mkf f a c) e σ=r1 (Acx f (a.map (Ac e)) (c.map (Ac e))) σ:=by
 simp only[Av,Bn,Ae,Acx];split<;>rfl
theorem Axn:Av .mmk e σ=.val (.mp σ.length) (σ++[.map []]):=A7 rfl
theorem Axo(z:V)(x k:S):Av (.mlk z x k) e σ=r1 (Acy z (Ac e x) (Ac e k) σ) σ:=by
 simp only[Av,Bn,Ae,Acy]
 cases Ac e x with
 | mp i=>
  cases Ac e k with
  | str s=>
   simp only
   cases σ[i]? with
   | none=>rfl
   | some ob=>cases ob<;>rfl
  | _=>rfl
 | _=>rfl
theorem Axp(x k v:S):Av (.mup x k v) e σ=r2 (Ake (Ac e x) (Ac e k) (Ac e v) σ):=A7 rfl
theorem At8(f:Nat)(xs:List S):Av (.call f xs) e σ=.call f (xs.map (Ac e)):=A7 rfl
def Acz(x:V)(ys:List V):Rs:=
 match x with
 | .fn f a c=>.call f (a++ys++c)
 | _=>.fail
theorem Aqv(x:S)(xs:List S):Av (.callv x xs) e σ=Acz (Ac e x) (xs.map (Ac e)):=by
 simp only[Av,Bn,Acz];cases Ac e x<;>rfl
end
variable {T:Nat->Option AF} {pr:Nat->Option (List V->Option V)}
def o(d:Nat)(op:AO):AI:=⟨some d,op,none⟩
def on(op:AO):AI:=⟨none,op,none⟩
def og(d:Nat)(op:AO)(t:Nat)(w:Bool):AI:=⟨some d,op,some (t,w)⟩
def oh(op:AO)(t:Nat)(w:Bool):AI:=⟨none,op,some (t,w)⟩
inductive CallS (T:Nat->Option AF) (pr:Nat->Option (List V->Option V)) (f:Nat) (args:List V) (σ:St):V->St->Prop
 | prim {s:List V->Option V} {vs:List V} {v:V}:pr f=some s->C1 σ args=some vs->s vs=some v->CallS T pr f args σ v (after σ args v)
 | pure {vs:List V} {v:V}:C1 σ args=some vs->Fn T pr f vs v->CallS T pr f args σ v (after σ args v)
 | own {σ0:St} {vs:List V} {v:V}:C1 σ args=some vs->FnO T pr f vs v σ0->CallS T pr f args σ (v.ren (·+σ.length)) (own σ args σ0)
 | any {v:V} {σ1:St}:Bc T pr f args σ v σ1->CallS T pr f args σ v σ1
 | thr {v:V} {σ1:St}:Th T pr f args σ v σ1->CallS T pr f args σ v σ1
 | spec {F:AF} {s:List V->St->Option (V × St)} {v:V} {σ1:St}:T f=some F->F.thr=true->F.spec=some s->s args σ=some (v,σ1)->CallS T pr f args σ v σ1
theorem CallS.sg{i:AI}{f:Nat}{args:List V}{e:Env}{σ σ1:St}{v:V}(h:CallS T pr f args σ v σ1)(hw:B4 e i=some true)(hc:Bn e i.op=some (f,args)):Sg T pr i e σ v σ1:=by
 cases h with
 | prim h1 h2 h3=>exact .prim hw hc h1 h2 h3
 | pure h1 h2=>exact .pure hw hc h1 h2
 | own hx h=>obtain⟨F,h1,h2,h3,h4⟩:=h;exact .own hw hc h1 h2 h3 hx h4
 | any h=>obtain⟨F,h1,h3,h4⟩:=h;exact .any hw hc h1 h3 h4
 | thr h=>obtain⟨F,h1,h2,h3,h4⟩:=h;exact .thr hw hc h1 h2 h3 h4
 | spec h1 h2 h3 h4=>exact .spec hw hc h1 h2 h3 h4
def WE(T:Nat->Option AF)(pr:Nat->Option (List V->Option V))(e:Env)(k:List It)(σ:St)(Q:Env->St->Prop):Prop:=W T pr k e σ Q
def WR(T:Nat->Option AF)(pr:Nat->Option (List V->Option V))(l:List AI)(kill:List Nat)(k:List It)(e:Env)(σ:St)(Q:Env->St->Prop):Prop:=WO T pr l e σ fun e1 σ1=>W T pr k (e1.del kill) σ1 Q
def WX(T:Nat->Option AF)(pr:Nat->Option (List V->Option V))(r:Rs)(d:Option Nat)(l:List AI)(kill:List Nat)(k:List It)(e:Env)(σ:St)(Q:Env->St->Prop):Prop:=
 match r with
 | .val v σ1=>WR T pr l kill k (e.putO d v) σ1 Q
 | .call f args=>∃ v σ1,CallS T pr f args σ v σ1/\WR T pr l kill k (e.putO d v) σ1 Q
 | .fail=>False
def WD(T:Nat->Option AF)(pr:Nat->Option (List V->Option V))(g:V)(w:Bool)(d:Option Nat)(op:AO)(l:List AI)(kill:List Nat)(k:List It)(e:Env)(σ:St)(Q:Env->St->Prop):Prop:=
 match g with
 | .bool b=>if b=w then WX T pr (Av op e σ) d l kill k e σ Q else WR T pr l kill k (e.putO d .skp) σ Q
 | .skp=>WR T pr l kill k (e.putO d .skp) σ Q
 | _=>False
def WC(T:Nat->Option AF)(pr:Nat->Option (List V->Option V))(g:V)(kill:List Nat)(x y:AC)(k:List It)(e:Env)(σ:St)(Q:Env->St->Prop):Prop:=
 match g with
 | .bool true=>WE T pr (e.del kill) (.c x::k) σ Q
 | .bool false=>WE T pr (e.del kill) (.c y::k) σ Q
 | _=>False
def WJ(T:Nat->Option AF)(pr:Nat->Option (List V->Option V))(id:Nat):List It->Env->St->(Env->St->Prop)->Prop
 | [],_,_,_=>False
 | .b i::k,e,σ,Q=>if i=id then W T pr k e σ Q else WJ T pr id k e σ Q
 | .c _::k,e,σ,Q=>WJ T pr id k e σ Q
 | .l _ _::k,e,σ,Q=>WJ T pr id k e σ Q
theorem get_keep(e:Env)(n:Nat):∀ ks:List Nat,ks.elem n=true->(e.keep ks).get n=e.get n
 | [],h=>by cases h
 | m::ks,h=>by
  simp only[Env.keep,Env.get]
  split
  ·rename_i h;rw[h]
  ·rename_i hm
   refine get_keep e n ks ?_
   simp only[List.elem_eq_mem,Bm,decide_eq_true_eq]at h ⊢
   exact h.resolve_left fun h=>hm h.symm
theorem Af4(e:Env)(ks:List Nat):∀ js:List Nat,(∀ n,js.elem n=true->ks.elem n=true)->(e.keep ks).keep js=e.keep js
 | [],_=>rfl
 | m::js,h=>by
  simp only[Env.keep]
  rw[get_keep e m ks (h m (by simp)),Af4 e ks js fun n hn=>h n (by simp at hn ⊢;exact .inr hn)]
theorem Ae2(e:Env)(ks:List Nat):e.keep ks=(e.keep ks).keep ks:=(Af4 e ks ks fun _ h=>h).symm
section
variable {Q:Env->St->Prop} {e:Env} {σ:St} {k:List It} {l:List AI} {kill:List Nat}
theorem Up(a b:AC):W T pr (.c (.seq a b)::k) e σ Q=W T pr (.c a::.c b::k) e σ Q:=propext ⟨fun⟨e',σ',h,q⟩=>by cases h with | cSeq h=>exact⟨e',σ',h,q⟩,Awl⟩
theorem Abb:W T pr (.c .skip::k) e σ Q=W T pr k e σ Q:=propext ⟨fun⟨e',σ',h,q⟩=>by cases h with | cSkip h=>exact⟨e',σ',h,q⟩,Atg⟩
theorem Axq(id:Nat)(c:AC):W T pr (.c (.blk id c)::k) e σ Q=W T pr (.c c::.b id::k) e σ Q:=propext ⟨fun⟨e',σ',h,q⟩=>by cases h with | cBlk h=>exact⟨e',σ',h,q⟩,Awm⟩
theorem Axr(id:Nat):W T pr (.b id::k) e σ Q=W T pr k e σ Q:=propext ⟨fun⟨e',σ',h,q⟩=>by cases h with | cEnd h=>exact⟨e',σ',h,q⟩,Awn⟩
theorem At9(keep:List Nat)(c:AC):W T pr (.c (.loop keep c)::k) e σ Q=WE T pr (e.keep keep) (.l keep c::k) σ Q:=by
 refine propext ⟨fun⟨e',σ',h,q⟩=>?_,fun h=>Ath (C5 h ?_)⟩
 ·cases h with
  | cLoop h=>exact C5 ⟨e',σ',h,q⟩ (Ae2 e keep).symm
 ·exact(Ae2 e keep)
theorem Aqw(keep:List Nat)(c:AC):W T pr (.l keep c::k) e σ Q=WE T pr (e.keep keep) (.c c::.l keep c::k) σ Q:=propext ⟨fun⟨e',σ',h,q⟩=>by cases h with | cAgain h=>exact⟨e',σ',h,q⟩,Aqd⟩
theorem Axs:W T pr (.c .ret::k) e σ Q=Q e σ:=propext ⟨fun⟨e',σ',h,q⟩=>by cases h with | cRet=>exact q,Awo⟩
theorem Ri:W T pr [] e σ Q=Q e σ:=propext ⟨fun⟨e',σ',h,q⟩=>by cases h with | cNil=>exact q,Awp⟩
theorem Ab2(ops:List AI):W T pr (.c (.reg kill ops)::k) e σ Q=WR T pr ops kill k e σ Q:=propext ⟨fun⟨e',σ',h,q⟩=>by cases h with | cReg h h2=>exact⟨_,_,h,e',σ',h2,q⟩,fun⟨_,_,h,e',σ',h2,q⟩=>⟨e',σ',.cReg h h2,q⟩⟩
theorem Abc(c:S)(x y:AC):W T pr (.c (.cond c kill x y)::k) e σ Q=WC T pr (Ac e c) kill x y k e σ Q:=by
 refine propext ⟨fun⟨e',σ',h,q⟩=>?_,fun h=>?_⟩
 ·cases h with
  | cCond hc h=>
   rw[hc]
   rename_i z
   cases z
   ·exact⟨e',σ',h,q⟩
   ·exact⟨e',σ',h,q⟩
 ·unfold WC at h
  split at h
  ·rename_i hc;exact Anx hc h
  ·rename_i hc;exact Anz hc h
  ·exact h.elim
theorem Uq(id:Nat):∀ k':List It,WJ T pr id k' e σ Q↔∃ k2,exitTo id k'=some k2/\W T pr k2 e σ Q
 | []=>by simp[WJ,exitTo]
 | .b i::k'=>by
  simp only[WJ,exitTo]
  split
  ·simp
  ·exact Uq id k'
 | .c _::k'=>by simp only[WJ,exitTo];exact Uq id k'
 | .l _ _::k'=>by simp only[WJ,exitTo];exact Uq id k'
theorem Aua(id:Nat):W T pr (.c (.exit id)::k) e σ Q=WJ T pr id k e σ Q:=propext ⟨fun⟨e',σ',h,q⟩=>by cases h with | cExit hk h=>exact(Uq id k).2 ⟨_,hk,e',σ',h,q⟩,fun h=>let ⟨_,h1,h2⟩:=(Uq id k).1 h;Ati h1 h2⟩
theorem Azk(id i:Nat):WJ T pr id (.b i::k) e σ Q=if i=id then W T pr k e σ Q else WJ T pr id k e σ Q:=A7 rfl
theorem Azl(id:Nat)(c:AC):WJ T pr id (.c c::k) e σ Q=WJ T pr id k e σ Q:=A7 rfl
theorem Azm(id:Nat)(kp:List Nat)(c:AC):WJ T pr id (.l kp c::k) e σ Q=WJ T pr id k e σ Q:=A7 rfl
theorem we:WE T pr e k σ Q=W T pr k e σ Q:=A7 rfl
theorem Aub:WR T pr [] kill k e σ Q=WE T pr (e.del kill) k σ Q:=propext ⟨fun⟨_,_,h,q⟩=>by cases h with | opsNil=>exact q,fun h=>⟨_,_,.opsNil,h⟩⟩
theorem Auc(v:V)(σ1:St)(d:Option Nat):WX T pr (.val v σ1) d l kill k e σ Q=WR T pr l kill k (e.putO d v) σ1 Q:=A7 rfl
theorem Aqx(d:Option Nat):WX T pr .fail d l kill k e σ Q=False:=A7 rfl
theorem M8{f:Nat}{args:List V}{d:Option Nat}{v:V}{σ1:St}(hc:CallS T pr f args σ v σ1)(h:WR T pr l kill k (e.putO d v) σ1 Q):WX T pr (.call f args) d l kill k e σ Q:=⟨v,σ1,hc,h⟩
theorem Alb{op:AO}{r:V × St}(h:Ae op e σ=some r):Bn e op=none:=by
 cases op with
 | call f xs=>cases h
 | callv x xs=>cases h
 | _=>rfl
theorem Ab3{i:AI}(hw:B4 e i=some true):WR T pr (i::l) kill k e σ Q=WX T pr (Av i.op e σ) i.dst l kill k e σ Q:=by
 refine propext ⟨fun⟨e',σ',h,q⟩=>?_,fun h=>?_⟩
 ·cases h with
  | opsSkip hw' _=>rw[hw]at hw';cases hw'
  | opsVal _ hv h=>
   unfold Av
   rw[Alb hv,hv]
   exact⟨_,_,h,q⟩
  | opsPrim _ hc h1 h2 h3 h=>
   unfold Av
   rw[hc]
   exact⟨_,_,.prim h1 h2 h3,_,_,h,q⟩
  | opsPure _ hc h1 h2 h3 h4 h5 h6 h=>
   unfold Av
   rw[hc]
   exact⟨_,_,.pure h4 ⟨_,h1,h2,h3,_,_,h5,h6⟩,_,_,h,q⟩
  | opsOwn _ hc h1 h2 h3 hx h4 h=>
   unfold Av
   rw[hc]
   exact⟨_,_,.own hx ⟨_,h1,h2,h3,h4⟩,_,_,h,q⟩
  | opsAny _ hc h1 h3 h4 h=>
   unfold Av
   rw[hc]
   exact⟨_,_,.any ⟨_,h1,h3,h4⟩,_,_,h,q⟩
  | opsThr _ hc h1 h2 h3 h4 h=>
   unfold Av
   rw[hc]
   exact⟨_,_,.thr ⟨_,h1,h2,h3,h4⟩,_,_,h,q⟩
  | opsSpec _ hc h1 h2 h3 h4 h=>
   unfold Av
   rw[hc]
   exact⟨_,_,.spec h1 h2 h3 h4,_,_,h,q⟩
 ·unfold Av at h
  split at h
  ·rename_i f args hc
   obtain⟨v,σ1,hs,e',σ',h,q⟩:=h
   exact⟨e',σ',(hs.sg hw hc).ev h,q⟩
  ·cases hv:Ae i.op e σ with
   | none=>rw[hv]at h;exact h.elim
   | some p=>
    obtain⟨v,σ1⟩:=p
    rw[hv]at h
    obtain⟨e',σ',h,q⟩:=h
    exact⟨e',σ',.opsVal hw hv h,q⟩
theorem Azn(d:Nat)(op:AO):WR T pr (o d op::l) kill k e σ Q=WX T pr (Av op e σ) (some d) l kill k e σ Q:=Ab3 (i:=o d op) rfl
theorem Axt(op:AO):WR T pr (on op::l) kill k e σ Q=WX T pr (Av op e σ) none l kill k e σ Q:=Ab3 (i:=on op) rfl
theorem Ahq{i:AI}(hw:B4 e i=some false):WR T pr (i::l) kill k e σ Q=WR T pr l kill k (e.putO i.dst .skp) σ Q:=by
 refine propext ⟨fun⟨e',σ',h,q⟩=>?_,fun⟨e',σ',h,q⟩=>⟨e',σ',.opsSkip hw h,q⟩⟩
 cases h with
 | opsSkip _ h=>exact⟨_,_,h,q⟩
 | opsVal hw'=>rw[hw]at hw';cases hw'
 | opsPrim hw'=>rw[hw]at hw';cases hw'
 | opsPure hw'=>rw[hw]at hw';cases hw'
 | opsOwn hw'=>rw[hw]at hw';cases hw'
 | opsAny hw'=>rw[hw]at hw';cases hw'
 | opsThr hw'=>rw[hw]at hw';cases hw'
 | opsSpec hw'=>rw[hw]at hw';cases hw'
theorem Akf{i:AI}{t:Nat}{w:Bool}(hg:i.g=some (t,w)):WR T pr (i::l) kill k e σ Q=WD T pr (e.get t) w i.dst i.op l kill k e σ Q:=by
 unfold WD
 have hd:B4 e i=(match e.get t with
  | .bool b=>some (b==w)
  | .skp=>some false
  | _=>none):=by unfold B4;rw[hg];rfl
 have no:B4 e i=none->WR T pr (i::l) kill k e σ Q=False:=by
  intro hn
  refine propext ⟨?_,False.elim⟩
  rintro⟨e',σ',h,q⟩
  cases h with
  | opsSkip hw'=>rw[hn]at hw';cases hw'
  | opsVal hw'=>rw[hn]at hw';cases hw'
  | opsPrim hw'=>rw[hn]at hw';cases hw'
  | opsPure hw'=>rw[hn]at hw';cases hw'
  | opsOwn hw'=>rw[hn]at hw';cases hw'
  | opsAny hw'=>rw[hn]at hw';cases hw'
  | opsThr hw'=>rw[hn]at hw';cases hw'
  | opsSpec hw'=>rw[hn]at hw';cases hw'
 split
 ·rename_i b hb
  rw[hb]at hd
  simp only at hd
  split
  ·rename_i hbw;subst hbw;exact Ab3 (by rw[hd];simp)
  ·rename_i hbw;exact Ahq (by rw[hd];simp[hbw])
 ·rename_i hb
  rw[hb]at hd
  exact Ahq hd
 ·rename_i h1 h2
  refine no ?_
  rw[hd]
  split
  ·rename_i b hb;exact absurd hb (h1 b)
  ·rename_i hb;exact absurd hb h2
  ·rfl
theorem Axu(d:Nat)(op:AO)(t:Nat)(w:Bool):WR T pr (og d op t w::l) kill k e σ Q=WD T pr (e.get t) w (some d) op l kill k e σ Q:=Akf (i:=og d op t w) rfl
theorem Axv(op:AO)(t:Nat)(w:Bool):WR T pr (oh op t w::l) kill k e σ Q=WD T pr (e.get t) w none op l kill k e σ Q:=Akf (i:=oh op t w) rfl
theorem Aud(w:Bool)(d:Option Nat)(op:AO):WD T pr .skp w d op l kill k e σ Q=WR T pr l kill k (e.putO d .skp) σ Q:=A7 rfl
theorem Aqy(x y:AC):WC T pr (.bool true) kill x y k e σ Q=WE T pr (e.del kill) (.c x::k) σ Q:=A7 rfl
theorem An3(x y:AC):WC T pr (.bool false) kill x y k e σ Q=WE T pr (e.del kill) (.c y::k) σ Q:=A7 rfl
theorem Axw{b:Bool}{x y:AC}(h1:b=true->WE T pr (e.del kill) (.c x::k) σ Q)(h2:b=false->WE T pr (e.del kill) (.c y::k) σ Q):WC T pr (.bool b) kill x y k e σ Q:=by
 cases b
 ·exact h2 rfl
 ·exact h1 rfl
end
/-! only the first part is looked at while it is reckoned -/
section
variable {Q:Env->St->Prop} {e e':Env} {σ σ':St} {k:List It} {l:List AI} {kill:List Nat}
@[congr] theorem A0q (h:e=e'):W T pr k e σ Q=W T pr k e' σ Q:=by rw[h]
@[congr] theorem A0k (h:e=e'):WE T pr e k σ Q=WE T pr e' k σ Q:=by rw[h]
@[congr] theorem A0l (h:e=e'):WR T pr l kill k e σ Q=WR T pr l kill k e' σ Q:=by rw[h]
@[congr] theorem A0m {r r':Rs} {d:Option Nat} (h:r=r'):WX T pr r d l kill k e σ Q=WX T pr r' d l kill k e σ Q:=by rw[h]
@[congr] theorem A0n {g g':V} {w:Bool} {d:Option Nat} {op:AO} (h:g=g'):WD T pr g w d op l kill k e σ Q=WD T pr g' w d op l kill k e σ Q:=by rw[h]
@[congr] theorem A0o {g g':V} {x y:AC} (h:g=g'):WC T pr g kill x y k e σ Q=WC T pr g' kill x y k e σ Q:=by rw[h]
end
variable {T:Nat->Option AF} {pr:Nat->Option (List V->Option V)}
inductive Kd where
 | pu | rd | ef
def kd:AO->Kd
 | .new _ _ | .box _ _ | .store _ _ _ | .app _ _ _ _ | .apps _ _ _ | .rowf _ _ _ | .rowo _ _ _ _ | .mk _ _ _ _ _ | .stb _ _ | .mmk | .mup _ _ _ | .call _ _ | .callv _ _=>.ef
 | .load _ _ _ | .mlk _ _ _ | .bts _ | .cvl _=>.rd
 | _=>.pu
theorem Axx{op:AO}(h:kd op=.pu):Et T pr op=0:=by
 cases op<;>simp[kd]at h<;>simp[Et]
theorem Axy{op:AO}(h:kd op=.rd){e:Env}{σ σ1:St}{v:V}(hv:Ae op e σ=some (v,σ1)):σ1=σ:=by
 cases op with
 | load n one x=>
  simp only[Ae,A8]at hv
  obtain⟨_,_,h⟩:=hv
  cases h;rfl
 | mlk z x k=>
  simp only[Ae]at hv
  split at hv
  ·split at hv
   ·cases hv;rfl
   ·cases hv
  ·cases hv
 | bts x=>
  simp only[Ae,Cm,A8]at hv
  obtain⟨_,_,_,_,h⟩:=hv
  cases h;rfl
 | cvl x=>
  simp only[Ae]at hv
  split at hv
  ·split at hv
   ·split at hv
    ·cases hv;rfl
    ·cases hv
   ·cases hv
  ·cases hv
 | _=>simp[kd]at h
def CallP(T:Nat->Option AF)(pr:Nat->Option (List V->Option V))(f:Nat)(vs:List V)(v:V):Prop:=(∃ s,pr f=some s/\s vs=some v)\/Fn T pr f vs v
theorem CallP.sg{i:AI}{f:Nat}{args vs:List V}{e:Env}{σ:St}{v:V}(h:CallP T pr f vs v)(hw:B4 e i=some true)(hc:Bn e i.op=some (f,args))(hx:C1 σ args=some vs):Sg T pr i e σ v (after σ args v):=by
 rcases h with⟨s,h1,h2⟩ | h
 ·exact .prim hw hc h1 hx h2
 ·exact .pure hw hc hx h
def Iv(deps:List (List Nat))(n m:Nat)(i:AI)(z:Kd)(v:V)(σ1:St)(e:Env)(σ:St)(fs:Fs)(ls:Ls)(K:Env->St->Fs->Ls->Prop):Prop:=
 match z with
 | .pu=>K (e.putO i.dst v) σ fs ls
 | .rd=>R6 deps n m (fun s=>Ae i.op e s=some (v,s)) fs/\K (e.putO i.dst v) σ fs ((m,fun s=>Ae i.op e s=some (v,s))::ls)
 | .ef=>Lo deps n m fs/\Lp deps n m σ σ1 ls/\K (e.putO i.dst v) σ1 ((m,σ,σ1)::fs) ls
def Fq(T:Nat->Option AF)(pr:Nat->Option (List V->Option V))(deps:List (List Nat))(n m:Nat)(i:AI)(r:Rs)(e:Env)(σ:St)(fs:Fs)(ls:Ls)(K:Env->St->Fs->Ls->Prop):Prop:=
 match r with
 | .val v σ1=>Iv deps n m i (kd i.op) v σ1 e σ fs ls K
 | .call f args=>(∃ v vs,Aw args=[]/\C1 σ args=some vs/\CallP T pr f vs v/\K (e.putO i.dst v) σ fs ls) \/
   (∃ v vs,C1 σ args=some vs/\CallP T pr f vs v/\v.flatV=true/\R6 deps n m (fun s=>C1 s args=some vs) fs/\K (e.putO i.dst v) σ fs ((m,fun s=>C1 s args=some vs)::ls)) \/
   (∃ v σ1,CallS T pr f args σ v σ1/\Lo deps n m fs/\Lp deps n m σ σ1 ls/\K (e.putO i.dst v) σ1 ((m,σ,σ1)::fs) ls)
 | .fail=>False
def Hh(T:Nat->Option AF)(pr:Nat->Option (List V->Option V))(deps:List (List Nat))(n m:Nat)(i:AI)(g:Option V)(w:Bool)(e:Env)(σ:St)(fs:Fs)(ls:Ls)(K:Env->St->Fs->Ls->Prop):Prop:=
 match g with
 | none=>Fq T pr deps n m i (Av i.op e σ) e σ fs ls K
 | some (.bool b)=>if b=w then Fq T pr deps n m i (Av i.op e σ) e σ fs ls K else K (e.putO i.dst .skp) σ fs ls
 | some .skp=>K (e.putO i.dst .skp) σ fs ls
 | some _=>False
def wg(T:Nat->Option AF)(pr:Nat->Option (List V->Option V))(deps:List (List Nat))(n:Nat)(kill:List Nat)(k:List It)(Q:Env->St->Prop):Nat->List AI->Env->St->Fs->Ls->Prop
 | _,[],e,σ,_,_=>WE T pr (e.del kill) k σ Q
 | m,i::l,e,σ,fs,ls=>Hh T pr deps n m i (i.g.map fun p=>e.get p.1) ((i.g.map fun p=>p.2).getD true) e σ fs ls (wg T pr deps n kill k Q (m+1) l)
section
variable {Q:Env->St->Prop} {e:Env} {σ:St} {k:List It} {kill:List Nat} {deps:List (List Nat)} {n:Nat}
theorem Aiz{m:Nat}{i:AI}{l:List AI}{fs:Fs}{ls:Ls}{K:Env->St->Prop}{P:Env->St->Fs->Ls->Prop}(hP:∀ e σ fs ls,P e σ fs ls->WG T pr deps n (m+1) l e σ fs ls K)
  (hw:B4 e i=some true) (h:Fq T pr deps n m i (Av i.op e σ) e σ fs ls P):WG T pr deps n m (i::l) e σ fs ls K:=by
 unfold Av at h
 split at h
 ·rename_i f args hc
  rcases h with⟨v,vs,h1,h2,h3,h4⟩ | ⟨v,vs,h1,h2,h3,h4,h5⟩ | ⟨v,σ1,h1,h2,h3,h4⟩
  ·refine Xb (fun s=>?_) (hP _ _ _ _ h4)
   have:=h3.sg (σ:=s) hw hc ((Wc h1 s).trans h2)
   rw[Qn h1]at this
   exact this
  ·obtain⟨e',σ',h,q⟩:=hP _ _ _ _ h5
   refine⟨e',σ',.read (fun s=>C1 s args=some vs) h1 (fun s hs=>?_) (Aam h4) h,q⟩
   have:=h2.sg (σ:=s) hw hc hs
   unfold after at this
   rw[if_pos h3]at this
   exact this
  ·exact Aiy (h1.sg hw hc) h2 h3 (hP _ _ _ _ h4)
 ·cases hv:Ae i.op e σ with
  | none=>rw[hv]at h;exact h.elim
  | some p=>
   obtain⟨v,σ1⟩:=p
   rw[hv]at h
   simp only[r2,Fq]at h
   unfold Iv at h
   split at h
   ·rename_i hk
    obtain⟨rfl,hall⟩:=Vp (Axx (T:=T) (pr:=pr) hk) hv
    exact Atl hw hall (hP _ _ _ _ h)
   ·rename_i hk
    obtain rfl:=Axy hk hv
    exact Aws hw hv h.1 (hP _ _ _ _ h.2)
   ·exact Atm hw hv h.1 h.2.1 (hP _ _ _ _ h.2.2)
theorem I5:∀ (l:List AI) (m:Nat) (e:Env) (σ:St) (fs:Fs) (ls:Ls),wg T pr deps n kill k Q m l e σ fs ls->WG T pr deps n m l e σ fs ls fun e1 σ1=>W T pr k (e1.del kill) σ1 Q
 | [],m,e,σ,fs,ls,h=>Atk h
 | i::l,m,e,σ,fs,ls,h=>by
  unfold wg at h
  unfold Hh at h
  split at h
  ·rename_i hg
   refine Aiz (fun e σ fs ls=>I5 l (m+1) e σ fs ls) ?_ h
   simp only[Option.map_eq_none_iff]at hg
   unfold B4
   rw[hg]
  ·rename_i b hg
   obtain⟨p,hp,hb⟩:=A8.1 hg
   split at h
   ·rename_i hbw
    refine Aiz (fun e σ fs ls=>I5 l (m+1) e σ fs ls) ?_ h
    unfold B4
    obtain⟨t,w⟩:=p
    rw[hp]at hbw ⊢
    simp only at hb
    simp only[hb]
    simp at hbw
    simp[hbw]
   ·rename_i hbw
    refine Xb (fun s=>.off ?_) (I5 l (m+1) _ _ _ _ h)
    unfold B4
    obtain⟨t,w⟩:=p
    rw[hp]at hbw ⊢
    simp only at hb
    simp only[hb]
    simp at hbw
    simp[hbw]
  ·rename_i hg
   obtain⟨p,hp,hb⟩:=A8.1 hg
   refine Xb (fun s=>.off ?_) (I5 l (m+1) _ _ _ _ h)
   unfold B4
   obtain⟨t,w⟩:=p
   rw[hp]
   simp only at hb
   simp only[hb]
  ·exact h.elim
theorem A2{ops:List AI}(hst:Ha deps ops=true)(h:wg T pr deps ops.length kill k Q 0 ops e σ [] []):W T pr (.c (.drw kill deps ops)::k) e σ Q:=
 Atj hst fun _ hK=>by
  obtain⟨e',σ',h,q⟩:=I5 _ _ _ _ _ _ h
  exact⟨e',σ',h,hK _ _ q⟩
variable {m:Nat} {l:List AI} {fs:Fs} {ls:Ls} {K:Env->St->Fs->Ls->Prop}
theorem Aue:wg T pr deps n kill k Q m [] e σ fs ls=WE T pr (e.del kill) k σ Q:=A7 rfl
theorem Azo(d:Nat)(op:AO):wg T pr deps n kill k Q m (o d op::l) e σ fs ls=Fq T pr deps n m (o d op) (Av op e σ) e σ fs ls (wg T pr deps n kill k Q (m+1) l):=A7 rfl
theorem Axz(op:AO):wg T pr deps n kill k Q m (on op::l) e σ fs ls=Fq T pr deps n m (on op) (Av op e σ) e σ fs ls (wg T pr deps n kill k Q (m+1) l):=A7 rfl
theorem Ax0(d:Nat)(op:AO)(t:Nat)(w:Bool):wg T pr deps n kill k Q m (og d op t w::l) e σ fs ls=Hh T pr deps n m (og d op t w) (some (e.get t)) w e σ fs ls (wg T pr deps n kill k Q (m+1) l):=A7 rfl
theorem Ax1(op:AO)(t:Nat)(w:Bool):wg T pr deps n kill k Q m (oh op t w::l) e σ fs ls=Hh T pr deps n m (oh op t w) (some (e.get t)) w e σ fs ls (wg T pr deps n kill k Q (m+1) l):=A7 rfl
theorem Ax2(d:Nat)(op:AO)(v:V)(σ1:St):Fq T pr deps n m (o d op) (.val v σ1) e σ fs ls K=Iv deps n m (o d op) (kd op) v σ1 e σ fs ls K:=A7 rfl
theorem Auf(op:AO)(v:V)(σ1:St):Fq T pr deps n m (on op) (.val v σ1) e σ fs ls K=Iv deps n m (on op) (kd op) v σ1 e σ fs ls K:=A7 rfl
theorem Aug(d:Nat)(op:AO)(t:Nat)(w:Bool)(v:V)(σ1:St):Fq T pr deps n m (og d op t w) (.val v σ1) e σ fs ls K=Iv deps n m (og d op t w) (kd op) v σ1 e σ fs ls K:=A7 rfl
theorem Auh(op:AO)(t:Nat)(w:Bool)(v:V)(σ1:St):Fq T pr deps n m (oh op t w) (.val v σ1) e σ fs ls K=Iv deps n m (oh op t w) (kd op) v σ1 e σ fs ls K:=A7 rfl
theorem Aui(d:Nat)(op:AO)(t:Nat):Hh T pr deps n m (og d op t true) (some (.bool true)) true e σ fs ls K=Fq T pr deps n m (og d op t true) (Av op e σ) e σ fs ls K:=A7 rfl
theorem Auj(d:Nat)(op:AO)(t:Nat):Hh T pr deps n m (og d op t false) (some (.bool false)) false e σ fs ls K=Fq T pr deps n m (og d op t false) (Av op e σ) e σ fs ls K:=A7 rfl
theorem Auk(d:Nat)(op:AO)(t:Nat):Hh T pr deps n m (og d op t false) (some (.bool true)) false e σ fs ls K=K (e.put d .skp) σ fs ls:=A7 rfl
theorem Aul(d:Nat)(op:AO)(t:Nat):Hh T pr deps n m (og d op t true) (some (.bool false)) true e σ fs ls K=K (e.put d .skp) σ fs ls:=A7 rfl
theorem Ax3(d:Nat)(op:AO)(t:Nat)(w:Bool):Hh T pr deps n m (og d op t w) (some .skp) w e σ fs ls K=K (e.put d .skp) σ fs ls:=A7 rfl
theorem Aum(op:AO)(t:Nat):Hh T pr deps n m (oh op t true) (some (.bool true)) true e σ fs ls K=Fq T pr deps n m (oh op t true) (Av op e σ) e σ fs ls K:=A7 rfl
theorem Aun(op:AO)(t:Nat):Hh T pr deps n m (oh op t false) (some (.bool false)) false e σ fs ls K=Fq T pr deps n m (oh op t false) (Av op e σ) e σ fs ls K:=A7 rfl
theorem Auo(op:AO)(t:Nat):Hh T pr deps n m (oh op t false) (some (.bool true)) false e σ fs ls K=K e σ fs ls:=A7 rfl
theorem Aup(op:AO)(t:Nat):Hh T pr deps n m (oh op t true) (some (.bool false)) true e σ fs ls K=K e σ fs ls:=A7 rfl
theorem Ax4(op:AO)(t:Nat)(w:Bool):Hh T pr deps n m (oh op t w) (some .skp) w e σ fs ls K=K e σ fs ls:=A7 rfl
theorem Auq{i:AI}(v:V)(σ1:St):Iv deps n m i .pu v σ1 e σ fs ls K=K (e.putO i.dst v) σ fs ls:=A7 rfl
theorem Aur{i:AI}(v:V)(σ1:St):Iv deps n m i .rd v σ1 e σ [] ls K=K (e.putO i.dst v) σ [] ((m,fun s=>Ae i.op e s=some (v,s))::ls):=propext ⟨fun h=>h.2,fun h=>⟨trivial,h⟩⟩
theorem Aus{i:AI}(v:V)(σ1:St):Iv deps n m i .ef v σ1 e σ [] [] K=K (e.putO i.dst v) σ1 [(m,σ,σ1)] []:=propext ⟨fun h=>h.2.2,fun h=>⟨trivial,trivial,h⟩⟩
end
/-! settled values go over as they are -/
def C2:V->Bool
 | .agg cs=>cs.all V.rowB
 | .imm _ _=>true
 | v=>v.rowB
theorem S6{v:V}(h:v.rowB=true):v.refs=[]:=by cases v<;>simp[V.rowB]at h<;>rfl
theorem Lx:∀ {cs:List V},cs.all V.rowB=true->Aw cs=[]
 | [],_=>rfl
 | c::cs,h=>by
  simp only[Ar,Ad]at h
  simp only[Aw,S6 h.1,Lx h.2,Ds]
theorem S7{v:V}(h:C2 v=true):v.refs=[]:=by
 unfold C2 at h
 split at h
 ·exact Lx h
 ·rfl
 ·exact S6 h
theorem Qp:∀ {vs:List V},vs.all C2=true->Aw vs=[]
 | [],_=>rfl
 | c::cs,h=>by
  simp only[Ar,Ad]at h
  simp only[Aw,S7 h.1,Qp h.2,Ds]
theorem Qk{σ:St}{js:List Nat}{d:Nat}{v:V}(h:v.rowB=true):Fl σ js (d+1) v=some v:=by
 unfold Fl;rw[if_pos h]
theorem Q4{f:V->Option V}:∀ {cs:List V},(∀ c∈cs,f c=some c)->cs.mapM f=some cs
 | [],_=>rfl
 | c::cs,h=>by
  rw[Hv,h c Co,Q4 fun c hc=>h c (Cb _ hc)]
  rfl
theorem Sy{σ:St}{js:List Nat}{v:V}(h:C2 v=true):Ga σ js v=some v:=by
 unfold C2 at h
 split at h
 ·rename_i cs
  simp only[Ga]
  rw[Q4 fun c hc=>Qk (A5.1 h c hc)]
  rfl
 ·rfl
 ·rename_i h1 h2
  unfold Ga
  split
  ·exact absurd rfl (h2 _ _)
  ·exact absurd rfl (h1 _)
  ·exact Qk h
theorem Ti{σ:St}{vs:List V}(h:vs.all C2=true):C1 σ vs=some vs:=Q4 fun c hc=>Sy (A5.1 h c hc)
section
variable {Q:Env->St->Prop} {e:Env} {σ:St} {k:List It} {l:List AI} {kill:List Nat} {f:Nat} {vs:List V} {v:V} {d:Option Nat}
theorem Ax(hf:Fn T pr f vs v)(hs:vs.all C2=true)(h:WR T pr l kill k (e.putO d v) σ Q):WX T pr (.call f vs) d l kill k e σ Q:=
 M8 (.pure (Ti hs) hf) (by rw[Qn (Qp hs)];exact h)
theorem Ef{s:List V->Option V}(hp:pr f=some s)(hs:vs.all C2=true)(hv:s vs=some v)(h:WR T pr l kill k (e.putO d v) σ Q):WX T pr (.call f vs) d l kill k e σ Q:=
 M8 (.prim hp (Ti hs) hv) (by rw[Qn (Qp hs)];exact h)
theorem Cg{σ1:St}(hf:Th T pr f vs σ v σ1)(h:WR T pr l kill k (e.putO d v) σ1 Q):WX T pr (.call f vs) d l kill k e σ Q:=M8 (.thr hf) h
theorem Ab{σ1:St}(hf:Bc T pr f vs σ v σ1)(h:WR T pr l kill k (e.putO d v) σ1 Q):WX T pr (.call f vs) d l kill k e σ Q:=M8 (.any hf) h
variable {deps:List (List Nat)} {n m:Nat} {fs:Fs} {ls:Ls} {K:Env->St->Fs->Ls->Prop} {i:AI}
theorem Aan{σ1:St}(hf:Bc T pr f vs σ v σ1)(h1:Lo deps n m fs)(h2:Lp deps n m σ σ1 ls)(h:K (e.putO i.dst v) σ1 ((m,σ,σ1)::fs) ls):Fq T pr deps n m i (.call f vs) e σ fs ls K:=.inr (.inr ⟨v,σ1,.any hf,h1,h2,h⟩)
theorem C6(hf:Fn T pr f vs v)(hs:vs.all C2=true)(h:K (e.putO i.dst v) σ fs ls):Fq T pr deps n m i (.call f vs) e σ fs ls K:=.inl ⟨v,vs,Qp hs,Ti hs,.inr hf,h⟩
theorem Xc{s:List V->Option V}(hp:pr f=some s)(hs:vs.all C2=true)(hv:s vs=some v)(h:K (e.putO i.dst v) σ fs ls):Fq T pr deps n m i (.call f vs) e σ fs ls K:=.inl ⟨v,vs,Qp hs,Ti hs,.inl ⟨s,hp,hv⟩,h⟩
theorem Aut{σ1:St}(hf:Th T pr f vs σ v σ1)(h1:Lo deps n m fs)(h2:Lp deps n m σ σ1 ls)(h:K (e.putO i.dst v) σ1 ((m,σ,σ1)::fs) ls):Fq T pr deps n m i (.call f vs) e σ fs ls K:=.inr (.inr ⟨v,σ1,.thr hf,h1,h2,h⟩)
end
/-! ends -/
def FR(v0:V)(σ1:St)(v:V):Prop:=(Cq v0=true/\v0.refs=[]/\Er [] v0=some v)\/∃ js,Hn 0 js v0 σ1=true/\Er ((js.filterMap (σ1[·]?)).map (Ob.ren (ren 0 js))) (v0.ren (ren 0 js))=some v
def FL(o:Option V)(σ1:St)(v:V):Prop:=∃ v0,o=some v0/\FR v0 σ1 v
def FQ(res:List AR)(v:V)(e:Env)(σ:St):Prop:=FL (By e σ res) σ v
theorem Bz{f p:Nat}{res:List AR}{body:AC}{vs:List V}{v:V}(hT:T f=some ⟨p,res,false,body,none⟩)(hl:vs.length=p)(h:W T pr [.c body] (Cu 0 vs) [] (FQ res v)):Fn T pr f vs v:=by
 obtain⟨e',σ',hE,v0,hr,h1 | ⟨js,h1,h2⟩⟩:=h
 ·exact An0 hT rfl rfl hl ⟨e',σ',hE,v0,hr,h1⟩
 ·exact Amf hT rfl rfl hl ⟨e',σ',hE,v0,js,hr,h1,h2⟩
theorem Azp(r:AR)(v:V)(e:Env)(σ:St):FQ [r] v e σ=FL (E5 e σ r) σ v:=A7 rfl
theorem Azq(r s:AR)(v:V)(e:Env)(σ:St):FQ [r,s] v e σ=FL ((E5 e σ r).bind fun a=>(E5 e σ s).map fun b=>.tup [a,b]) σ v:=by
 simp only[FQ,By,Hv,Y2]
 cases E5 e σ r with
 | none=>rfl
 | some a=>cases E5 e σ s<;>rfl
theorem Azr(r s t:AR)(v:V)(e:Env)(σ:St):FQ [r,s,t] v e σ=FL ((E5 e σ r).bind fun a=>(E5 e σ s).bind fun b=>(E5 e σ t).map fun c=>.tup [a,b,c]) σ v:=by
 simp only[FQ,By,Hv,Y2]
 cases E5 e σ r with
 | none=>rfl
 | some a=>
  cases E5 e σ s with
  | none=>rfl
  | some b=>cases E5 e σ t<;>rfl
theorem Aqz(v0 v:V)(σ:St):FL (some v0) σ v=FR v0 σ v:=propext ⟨fun⟨_,h,q⟩=>by cases h;exact q,fun h=>⟨_,rfl,h⟩⟩
theorem Wu{v:V}(h:C2 v=true):Ho v=true:=by
 unfold C2 at h
 split at h
 ·rename_i cs
  simp only[Ho]
  rw[A5]at h ⊢
  intro c hc
  have:=h c hc
  cases c<;>simp[V.rowB]at this<;>rfl
 ·rfl
 ·cases v<;>simp[V.rowB]at h<;>rfl
theorem E6{v:V}{σ:St}(h:C2 v=true):FR v σ v:=by
 refine .inl ⟨?_,S7 h,?_⟩
 ·cases v with
  | tup vs=>simp[C2,V.rowB]at h
  | _=>exact Wu h
 ·unfold Er Jj
  split
  ·simp[C2,V.rowB]at h
  ·exact Sy h
theorem Jr{vs:List V}{σ:St}(h:vs.all C2=true):FR (.tup vs) σ (.tup vs):=by
 refine .inl ⟨?_,Qp h,?_⟩
 ·simp only[Cq]
  rw[A5]at h ⊢
  exact fun c hc=>Wu (h c hc)
 ·simp only[Er,Jj]
  rw[Q4 fun c hc=>Sy (A5.1 h c hc)]
  rfl
theorem A9{v v':V}{σ:St}(h:C2 v=true)(he:v=v'):FR v σ v':=he ▸ E6 h
def TQ(res:List AR)(σ:St)(v:V)(σ':St)(e:Env)(σ1:St):Prop:=By e σ1 res=some v/\Aj9 σ.length σ v σ1/\σ'=σ1.take σ.length
theorem Eo{keep:List Nat}{c c':AC}{k:List It}{e:Env}{σ:St}{Q:Env->St->Prop}(hc:c=c')(h:WE T pr (e.keep keep) (.c c'::.l keep c::k) σ Q):W T pr (.l keep c::k) e σ Q:=by
 subst hc
 rw[Aqw]
 exact h
section
variable {deps:List (List Nat)} {n m:Nat} {e:Env} {σ:St} {fs:Fs} {ls:Ls} {K:Env->St->Fs->Ls->Prop} {i:AI}
@[congr] theorem A0h {r r':Rs} (h:r=r'):Fq T pr deps n m i r e σ fs ls K=Fq T pr deps n m i r' e σ fs ls K:=by rw[h]
@[congr] theorem A0i {g g':Option V} {w:Bool} (h:g=g'):Hh T pr deps n m i g w e σ fs ls K=Hh T pr deps n m i g' w e σ fs ls K:=by rw[h]
@[congr] theorem A0j {z z':Kd} {v:V} {σ1:St} (h:z=z'):Iv deps n m i z v σ1 e σ fs ls K=Iv deps n m i z' v σ1 e σ fs ls K:=by rw[h]
end
variable {T:Nat->Option AF} {pr:Nat->Option (List V->Option V)}
def TR(v0:V)(σ:St)(v:V)(σ' σ1:St):Prop:=v0=v/\Aj9 σ.length σ v σ1/\σ'=σ1.take σ.length
theorem Auu(a b:Nat)(l:List Nat):List.elem a (b::l)=if a=b then true else List.elem a l:=by
 by_cases h:a=b
 ·simp[h]
 ·simp[h]
theorem Auv(a:Nat):List.elem a []=false:=rfl
theorem Ax5(m n:Nat)(u v:V)(r:Env):Env.put ((m,u)::r) n v=if m=n then(n,v)::r else(m,u)::Env.put r n v:=A7 rfl
theorem Ax6(n:Nat)(v:V):Env.put [] n v=[(n,v)]:=A7 rfl
theorem Ax7(m:Nat)(u:V)(r:Env)(ks:List Nat):Env.del ((m,u)::r) ks=if ks.elem m=true then Env.del r ks else(m,u)::Env.del r ks:=A7 rfl
theorem Ax8(ks:List Nat):Env.del [] ks=[]:=A7 rfl
theorem Auw(e:Env)(n:Nat)(ks:List Nat):e.keep (n::ks)=(n,e.get n)::e.keep ks:=A7 rfl
theorem Aux(e:Env):e.keep []=[]:=A7 rfl
theorem Ax9(n:Nat):Env.get [] n=.und:=rfl
section
variable {Q:Env->St->Prop} {e:Env} {σ:St} {k:List It} {l:List AI} {kill:List Nat}
theorem Aya(d:Option Nat)(op:AO):WD T pr (.bool true) true d op l kill k e σ Q=WX T pr (Av op e σ) d l kill k e σ Q:=A7 rfl
theorem Ayb(d:Option Nat)(op:AO):WD T pr (.bool false) false d op l kill k e σ Q=WX T pr (Av op e σ) d l kill k e σ Q:=A7 rfl
theorem Ayc(d:Option Nat)(op:AO):WD T pr (.bool true) false d op l kill k e σ Q=WR T pr l kill k (e.putO d .skp) σ Q:=A7 rfl
theorem Ayd(d:Option Nat)(op:AO):WD T pr (.bool false) true d op l kill k e σ Q=WR T pr l kill k (e.putO d .skp) σ Q:=A7 rfl
end
theorem Aye(d:Nat)(op:AO):(o d op).dst=some d:=rfl
theorem Auy(op:AO):(on op).dst=none:=rfl
theorem Auz(d:Nat)(op:AO)(t:Nat)(w:Bool):(og d op t w).dst=some d:=rfl
theorem Au0(op:AO)(t:Nat)(w:Bool):(oh op t w).dst=none:=rfl
def U1(o:Option Ob)(g n:Nat)(one:Bool)(off:Nat):Option V:=
 match o with
 | some (.row cs _ g' _)=>if g=g'/\off+n<=cs.length then Fm one ((cs.drop off).take n) else none
 | _=>none
theorem Ayf(cs:List V)(e g' z g n:Nat)(one:Bool)(off:Nat):U1 (some (.row cs e g' z)) g n one off=if g=g'/\off+n<=cs.length then Fm one ((cs.drop off).take n) else none:=A7 rfl
theorem Au1(σ:St)(n:Nat)(one:Bool)(i g off:Nat):G9 σ n one (.ptr i g off)=U1 σ[i]? g n one off:=A7 rfl
theorem Au2(σ:St)(n:Nat)(one:Bool)(row:List V)(off:Nat):G9 σ n one (.imm row off)=if off+n<=row.length then Fm one ((row.drop off).take n) else none:=A7 rfl
def Ac0(o:Option Ob)(σ:St)(n i g off:Nat)(v:V):Option (V × St):=
 match o with
 | some (.row cs e g' z)=>if g=g'/\z<=off/\v.cells.length=n/\v.cells.all V.cellB=true then(Nn cs off v.cells).map fun cs'=>(.und,σ.set i (.row cs' e g z)) else none
 | _=>none
theorem Au3(cs:List V)(e g' z:Nat)(σ:St)(n i g off:Nat)(v:V):Ac0 (some (.row cs e g' z)) σ n i g off v=if g=g'/\z<=off/\v.cells.length=n/\v.cells.all V.cellB=true then(Nn cs off v.cells).map fun cs'=>(.und,σ.set i (.row cs' e g z)) else none:=A7 rfl
theorem Ayg(σ:St)(n i g off:Nat)(v:V):Ack n (.ptr i g off) v σ=Ac0 σ[i]? σ n i g off v:=by
 simp only[Ack,W9,Ac0]
 cases σ[i]? with
 | none=>rfl
 | some ob=>
  cases ob with
  | row cs e g' z=>
   simp only
   split
   ·cases Nn cs off v.cells<;>rfl
   ·rfl
  | _=>rfl
theorem Ayh:Ry .nils=some (.int .i64 0):=rfl
theorem Ayi(t:Nat)(xs:List (List V)):Ry (.lst t xs)=some (.int .i64 (xs.length:Int)):=rfl
theorem Ayj(i g off len m:Nat)(w:Bool):Ry (.sl i g off len m w)=some (.int .i64 (len:Int)):=rfl
theorem Ayk(m t:Nat)(xs:List (List V))(i:V):Rx m (.lst t xs) i=(Hf xs i).bind fun r=>if r.length=m then some (.imm r 0) else none:=A7 rfl
theorem Ayl(m j g off len m':Nat)(w:Bool)(k:IntKind)(n:Int):Rx m (.sl j g off len m' w) (.int k n)=if 0<=n/\n<len/\m=m' then some (.ptr j g (off+n.toNat*m)) else none:=A7 rfl
theorem Aym(off:Nat)(r:List V)(o:Nat):X8 off (.imm r o)=some (.imm r (o+off)):=A7 rfl
theorem Ayn(off b g o:Nat):X8 off (.ptr b g o)=some (.ptr b g (o+off)):=A7 rfl
theorem Ayo(off n:Nat)(one:Bool)(cs:List V):Acr off n one (.agg cs)=if off+n<=cs.length then Fm one ((cs.drop off).take n) else none:=A7 rfl
theorem Aq0(k:IntKind)(n:Int):V.cells (.int k n)=[.int k n]:=rfl
theorem Aq1(l:List UInt8):V.cells (.str l)=[.str l]:=rfl
theorem Aq2(b:Bool):V.cells (.bool b)=[.bool b]:=rfl
theorem Aq3:V.cells .nils=[.nils]:=rfl
theorem Aq4(t:Nat)(xs:List (List V)):V.cells (.lst t xs)=[.lst t xs]:=rfl
theorem An4(i g o l m:Nat)(w:Bool):V.cells (.sl i g o l m w)=[.sl i g o l m w]:=rfl
theorem Aq5(i g o:Nat):V.cells (.ptr i g o)=[.ptr i g o]:=rfl
theorem An5:V.cells .nilp=[.nilp]:=rfl
theorem Amk(r:List V)(o:Nat):V.cells (.imm r o)=[.imm r o]:=rfl
theorem An6(f:Nat)(a c:List V):V.cells (.fn f a c)=[.fn f a c]:=rfl
theorem An7(i:Nat):V.cells (.mp i)=[.mp i]:=rfl
theorem Aq6(cs:List V):V.cells (.agg cs)=cs:=rfl
theorem Au4(σ:St)(m:Nat):Hy σ m .nils=some []:=A7 rfl
theorem Au5(σ:St)(m t:Nat)(xs:List (List V)):Hy σ m (.lst t xs)=some xs:=A7 rfl
theorem mk1(c:V):Fm true [c]=some c:=rfl
theorem mkA(cs:List V):Fm false cs=some (.agg cs):=rfl
theorem Aq7(s l:St)(n:Nat):(s++l)[s.length+n]?=l[n]?:=by rw[B1 (by omega)];congr 1;omega
theorem An8(s l:St):(s++l)[s.length]?=l[0]?:=by rw[B1 (by omega)];congr 1;omega
theorem Aq8(s l:St)(n:Nat)(x:Ob):(s++l).set (s.length+n) x=s++l.set n x:=by simp[List.set_append]
theorem An9(s l:St)(x:Ob):(s++l).set s.length x=s++l.set 0 x:=by simp[List.set_append]
theorem Aq9{α:Type}(l:List α)(k:IntKind)(n:Nat):Hf l (.int k (n:Int))=l[n]?:=by
 simp only[Hf]
 rw[if_pos (by omega),Sj]
theorem B3{n:Int}(h : -9223372036854775808<=n/\n<=9223372036854775807):IntKind.i64.wrap n=n:=Go.IntWalk.i64_in _ h
theorem Ara{n:Int}(h1 : -9223372036854775808<=n)(h2:n<=9223372036854775807):IntKind.i64.wrap n=n:=B3 ⟨h1,h2⟩
theorem Azs(t:Nat)(v:V)(σ σ' σ1:St)(e:Env):TQ [.tmp t] σ v σ' e σ1=TR (e.get t) σ v σ' σ1:=A7 (propext ⟨fun⟨h1,h2⟩=>⟨Or h1,h2⟩,fun⟨h1,h2⟩=>⟨congrArg some h1,h2⟩⟩)
theorem Cr{i:Nat}(h:i<9223372036854775807):IntKind.i64.wrap ((i:Int)+1)=((i+1:Nat):Int):=by rw[B3 (by omega)];rfl
theorem Hs{i n:Nat}(h:i<n):decide ((i:Int)<(n:Int))=true:=by simpa using h
theorem Is{i n:Nat}(h:n<=i):decide ((i:Int)<(n:Int))=false:=by simpa using h
theorem L4{α:Type}{l:List α}{i:Nat}(h:i<l.length):∃ x,l[i]?=some x/\l.drop i=x::l.drop (i+1)/\x∈l:=⟨l[i],Az h,Gq h,E1 h⟩
theorem En{keep:List Nat}{c:AC}{k:List It}{Q:Env->St->Prop}{α:Type}(μ:α->Nat)(E:α->Env)(Z:α->St)(I:α->Prop)
  (h:∀ a,I a->(∀ b,μ b<μ a->I b->W T pr (.l keep c::k) (E b) (Z b) Q)->W T pr (.l keep c::k) (E a) (Z a) Q):∀ a,I a->W T pr (.l keep c::k) (E a) (Z a) Q:=by
 suffices ∀ n a,μ a=n->I a->W T pr (.l keep c::k) (E a) (Z a) Q from fun a=>this _ a rfl
 intro n
 induction n using Nat.strongRecOn with
 | _ n ih=>exact fun a hm hI=>h a hI fun b hb=>ih (μ b) (hm ▸ hb) b rfl
theorem Azt(cs:List V):C2 (.agg cs)=cs.all V.rowB:=rfl
theorem Azu(r:List V)(o:Nat):C2 (.imm r o)=true:=rfl
theorem Akg(k:IntKind)(n:Int):C2 (.int k n)=true:=rfl
theorem Azv(l:List UInt8):C2 (.str l)=true:=rfl
theorem Azw(b:Bool):C2 (.bool b)=true:=rfl
theorem Azx:C2 .nils=true:=rfl
theorem Azy:C2 .nili=true:=rfl
theorem Azz(t:Nat)(xs:List (List V)):C2 (.lst t xs)=true:=rfl
/-! settled slices -/
def SL(z:Bool)(t:Nat)(xs:List (List V)):V:=if z=true/\xs=[] then .nils else .lst t xs
theorem Au6(z:Bool)(t:Nat)(xs:List (List V)):(SL z t xs).rowB=true:=by unfold SL;split<;>rfl
theorem Arb(z:Bool)(t:Nat)(xs:List (List V)):(SL z t xs).cellB=true:=by unfold SL;split<;>rfl
theorem Au7(z:Bool)(t:Nat)(xs:List (List V)):C2 (SL z t xs)=true:=by unfold SL;split<;>rfl
theorem Aoa(z:Bool)(t:Nat)(xs:List (List V)):(SL z t xs).cells=[SL z t xs]:=by unfold SL;split<;>rfl
theorem Au8(z:Bool)(t:Nat)(xs:List (List V)):Ry (SL z t xs)=some (.int .i64 (xs.length:Int)):=by
 unfold SL
 split
 ·rename_i h;rw[h.2];rfl
 ·rfl
theorem Au9(z:Bool)(t:Nat)(xs:List (List V))(m:Nat)(i:V):Rx m (SL z t xs) i=(Hf xs i).bind fun r=>if r.length=m then some (.imm r 0) else none:=by
 unfold SL
 split
 ·rename_i h
  rw[h.2]
  cases i<;>simp[Rx,Hf]
 ·rfl
theorem Arc(z:Bool)(t:Nat)(xs:List (List V))(σ:St)(m:Nat):Hy σ m (SL z t xs)=some xs:=by
 unfold SL
 split
 ·rename_i h;rw[h.2];rfl
 ·rfl
attribute [go_sem] Nat.reduceEqDiff reduceIte Nat.reduceAdd Nat.reduceMul Nat.reduceLeDiff Int.reduceLT Int.reduceLE Int.reduceToNat Int.reduceAdd Int.reduceNeg Int.reduceEq
attribute [go_sem ↓] Up Abb Axq Axr At9 Ri Axs Ab2 Abc Aua Azk Azl Azm Aub Azn Axt Axu Axv Aue Azo Axz Ax0 Ax1 Awz Aw0 get_put An2 Ami Amj Azp Azq Azr Azs
attribute [go_sem ↓] Aq9 Aw1 Atz Aw2 Aw3 Aqt At0 At1 At2 Azf At3 Aqu Aw4 Aw5 Azg Azh Aw6 Aw7 Aw8 Aw9 Axa At4 Axb At5 Axc Axd Axe Axf Axg Axh Axi Axj At6 Axk Axl At7 Azi Azj Axm Axn Axo Axp At8 Aqv
attribute [go_sem] we Auc Aqx Aud Aya Ayb Ayc Ayd Aqy An3 Aqp Aqq Aqr Aqs Ax2 Auf Aug Auh Aui Auj Auk Aul Ax3 Aum Aun Auo Aup Ax4 Auq Aur Aus kd Aqz
attribute [go_sem] Ax9 Ax5 Ax6 Ax7 Ax8 Auw Aux Auu Auv Cu E5
attribute [go_sem] Uw Acf Ah Yd Abz Akc mkV Acl Acm Jc eqB Acb Acc Acd Ace Acn Aco Acp Akd Acq Ab0 X5 N8 Ea Acs Acu Acv Acw Ab1 mxV mnV Acx Acy Ake Acz mk1 mkA Nn Gd Eg Azt Azu Akg Azv Azw Azx Azy Azz Atn Atp Aqf Aqh Aqj Atr Att Awt Aql Aqn Atv Atx Awv Awx Ato Atq Aqg Aqi Aqk Ats Atu Awu Aqm Aqo Atw Aty Aww Awy decide_true decide_false gt_iff_lt ge_iff_le ne_eq not_false_eq_true not_true_eq_false Aye Auy Auz Au0 Ayf Au1 Au2 Au3 Ayg Ayh Ayi Ayj Ayk Ayl Aym Ayn Ayo Aq0 Aq1 Aq2 Aq3 Aq4 An4 Aq5 An5 Amk An6 An7 Aq6 Au4 Au5
attribute [go_sem] Aq7 An8 Aq8 An9 Hf Ara Au6 Arb Au7 Aoa Au8 Au9 Arc
attribute [go_sem] G1 Option.map_none Cc Option.bind_none Ao Be Ar A3 Y3 J7 Vj and_self and_true true_and eq_self Ag Br Al Vg List.drop_succ_cons Vh Om Bg Bf Bl Ds Iw Ie List.set_cons_zero Yt List.replicate Df Sk Fj Lu Nat.zero_mul Nat.one_mul Vq Dr Bool.true_eq_false El Fa Bool.bne_false Bool.bne_true if_true if_false ite_true ite_false Sj Ej
variable {T:Nat->Option AF} {pr:Nat->Option (List V->Option V)}
theorem Z5(σ:St):∀ (d:Nat) (js:List Nat) (i:Nat),i∈js->i∈Gl σ d js
 | 0,_,_,h=>h
 | d+1,js,i,h=>by
  simp only[Gl]
  split
  ·exact h
  ·exact Z5 σ d _ i (List.mem_append_left _ h)
def OC(σ:St)(v v':V):Prop:=∀ js:List Nat,(∀ i∈v.refs,i∈js)->∀ d,Fl σ js (d+2) v=some v'
def OV(σ:St)(v v':V):Prop:=∀ js:List Nat,(∀ i∈v.refs,i∈js)->Ga σ js v=some v'
inductive OVs (σ:St):List V->List V->Prop
 | nil:OVs σ [] []
 | cons {v v':V} {vs vs':List V}:OV σ v v'->OVs σ vs vs'->OVs σ (v::vs) (v'::vs')
inductive OCs (σ:St):List V->List V->Prop
 | nil:OCs σ [] []
 | cons {v v':V} {vs vs':List V}:OC σ v v'->OCs σ vs vs'->OCs σ (v::vs) (v'::vs')
theorem Wv{σ:St}{js:List Nat}:∀ {vs vs':List V},OVs σ vs vs'->(∀ i∈Aw vs,i∈js)->vs.mapM (Ga σ js)=some vs'
 | _,_,.nil,_=>rfl
 | _,_,.cons h hs,hj=>by
  simp only[Aw,Ek]at hj
  rw[Hv,h js fun i hi=>hj i (.inl hi),Wv hs fun i hi=>hj i (.inr hi)]
  rfl
theorem Ahr{σ:St}{js:List Nat}{d:Nat}:∀ {vs vs':List V},OCs σ vs vs'->(∀ i∈Aw vs,i∈js)->vs.mapM (Fl σ js (d+2))=some vs'
 | _,_,.nil,_=>rfl
 | _,_,.cons h hs,hj=>by
  simp only[Aw,Ek]at hj
  rw[Hv,h js (fun i hi=>hj i (.inl hi)) d,Ahr hs fun i hi=>hj i (.inr hi)]
  rfl
theorem Xd{σ:St}{v:V}(h:v.rowB=true):OC σ v v:=fun _ _ _=>Qk h
theorem K8{σ:St}{v:V}(h:C2 v=true):OV σ v v:=fun _ _=>Sy h
theorem Abd{σ:St}{cs cs':List V}(h:OCs σ cs cs'):OV σ (.agg cs) (.agg cs'):=fun js hj=>by
 simp only[Ga]
 rw[Ahr (d:=7) h hj]
 rfl
theorem Ahs{σ:St}{v v':V}(h:OC σ v v')(hc:v.cellB=true):OV σ v v':=fun js hj=>by
 unfold Ga
 split
 ·have:=h js hj 0
  simp[Fl,V.rowB]at this
 ·simp[V.cellB]at hc
 ·exact h js hj 7
theorem Ae3(m:Nat):∀ (xs:List (List V)) (tl:List V),(∀ r∈xs,r.length=m)->Eg m xs.length (xs.flatten++tl)=xs
 | [],_,_=>rfl
 | r::xs,tl,h=>by
  have hr:=h r Co
  simp only[Ag,Eg,Df,Bl]
  rw[<-hr,List.take_left,List.drop_left]
  congr 1
  rw[hr]
  exact Ae3 m xs tl fun r hr=>h r (Cb _ hr)
theorem Ad4{m:Nat}{xs:List (List V)}(h:∀ r∈xs,r.length=m):Eg m xs.length xs.flatten=xs:=by
 have:=Ae3 m xs [] h
 rwa [Ds]at this
theorem Qq{m:Nat}:∀ {xs:List (List V)},(∀ r∈xs,r.length=m)->xs.flatten.length=xs.length*m
 | [],_=>by simp
 | r::xs,h=>by
  rw[Df,Al,h r Co,Qq fun r hr=>h r (Cb _ hr),Ag,F6,Nat.add_comm]
theorem Aju{σ:St}{i g m e z:Nat}{w:Bool}{xs:List (List V)}(ho:σ[i]?=some (.row xs.flatten e g z))(hm:0<m)(hl:∀ r∈xs,r.length=m)(hr:∀ r∈xs,r.all V.rowB=true):OC σ (.sl i g 0 xs.length m w) (.lst 0 xs):=by
 intro js hj d
 have hi:js.elem i=true:=by
  have:=hj i (by simp[V.refs])
  simpa using this
 have hf:=Qq hl
 unfold Fl
 rw[if_neg (by simp[V.rowB])]
 simp only[hi,if_true,ho]
 rw[if_pos ⟨trivial,hm,by omega⟩,Vg,<-hf,Dg,Q4 fun c hc=>?_]
 ·simp only[G1,Ad4 hl]
 ·obtain⟨r,hrx,hcr⟩:=List.mem_flatten.1 hc
  exact Qk (A5.1 (hr r hrx) c hcr)
section
variable {Q:Env->St->Prop} {e:Env} {σ:St} {k:List It} {l:List AI} {kill:List Nat} {f:Nat} {args vs:List V} {v:V} {d:Option Nat}
variable {deps:List (List Nat)} {n m:Nat} {fs:Fs} {ls:Ls} {K:Env->St->Fs->Ls->Prop} {i:AI}
end
/-! code that ends where it ends: the rest is apart -/
def AC.flat:AC->Bool
 | .skip | .reg _ _ | .drw _ _ _=>true
 | .seq a b=>a.flat&&b.flat
 | .cond _ _ x y=>x.flat&&y.flat
 | _=>false
theorem Abe{k:List It}{e:Env}{σ:St}{P Q:Env->St->Prop}(h:W T pr k e σ P)(hq:∀ e σ,P e σ->Q e σ):W T pr k e σ Q:=let ⟨e',σ',h,q⟩:=h;⟨e',σ',h,hq _ _ q⟩
theorem O2:∀ (c:AC),c.flat=true->∀ (k:List It) (e:Env) (σ:St) (Q:Env->St->Prop),W T pr (.c c::k) e σ Q↔W T pr [.c c] e σ fun e σ=>W T pr k e σ Q
 | .skip,_,k,e,σ,Q=>by rw[Abb,Abb,Ri]
 | .reg kill ops,_,k,e,σ,Q=>by
  rw[Ab2,Ab2]
  unfold WR
  simp only[Ri]
 | .drw kill deps ops,_,k,e,σ,Q=>by
  constructor
  ·rintro⟨e',σ',h,q⟩
   cases h with
   | cDrw E2 h1 h2 h3=>exact⟨_,_,.cDrw E2 h1 h2 .cNil,e',σ',h3,q⟩
  ·rintro⟨e',σ',h,e2,σ2,g,q⟩
   cases h with
   | cDrw E2 h1 h2 h3=>
    cases h3
    exact⟨_,_,.cDrw E2 h1 h2 g,q⟩
 | .seq a b,h,k,e,σ,Q=>by
  simp only[AC.flat,Ad]at h
  rw[Up,Up,O2 a h.1,O2 a h.1 [.c b]]
  exact⟨fun h1=>Abe h1 fun e σ h2=>(O2 b h.2 k e σ Q).1 h2,fun h1=>Abe h1 fun e σ h2=>(O2 b h.2 k e σ Q).2 h2⟩
 | .cond c kill x y,h,k,e,σ,Q=>by
  simp only[AC.flat,Ad]at h
  rw[Abc,Abc]
  unfold WC
  split
  ·exact O2 x h.1 k _ σ Q
  ·exact O2 y h.2 k _ σ Q
  ·exact Iff.rfl
def Hd(P:Env->St->Prop)(e:Env)(σ:St):Prop:=P e σ
@[congr] theorem A0p {P:Env->St->Prop} {e e':Env} {σ:St} (h:e=e'):Hd P e σ=Hd P e' σ:=by rw[h]
/-! lists that grow: nil, or a slice of an object of their own that they fill -/
def GV(σ:St)(m e lo:Nat)(u:V)(xs:List (List V)):Prop:=(u=.nils/\xs=[])\/∃ i g,u=.sl i g 0 xs.length m true/\σ[i]?=some (.row xs.flatten e g 0)/\lo<=i
theorem Ard{σ:St}{m e lo:Nat}{u:V}{xs:List (List V)}(h:GV σ m e lo u xs):u.cellB=true:=by
 rcases h with⟨rfl,rfl⟩ | ⟨i,g,rfl,ho,hlo⟩<;>rfl
theorem Ava{σ:St}{m e lo bytes:Nat}{u y:V}{xs ys:List (List V)}(h:GV σ m e lo u xs)(hlo0:lo<=σ.length)(hy:Hy σ m y=some ys)(hm:0<m)(hl:∀ r∈xs,r.length=m)(hly:∀ r∈ys,r.length=m)(hb:(xs.length+ys.length)*bytes<=140737488355328):
  ∃ u' σ',Ir bytes (m,e) u y σ=some (u',σ')/\GV σ' m e lo u' (xs++ys)/\σ.length<=σ'.length/\(∀ j,(∀ i g,u=.sl i g 0 xs.length m true->j≠i)->j<σ.length->σ'[j]?=σ[j]?)/\∀ j,j<lo->σ'[j]?=σ[j]?:=by
 have hall:(ys.all fun r=>r.length==m)=true:=by
  rw[A5]
  intro r hr
  simp[hly r hr]
 unfold Ir
 simp only[hy,Cc]
 unfold Jy
 rw[if_pos ⟨hall,hm⟩]
 rcases h with⟨rfl,rfl⟩ | ⟨i,g,rfl,ho,hlo⟩
 ·simp only
  rw[if_pos (by simpa using hb)]
  cases ys with
  | nil=>exact⟨.nils,σ,rfl,.inl ⟨rfl,rfl⟩,Af _,fun _ _ _=>rfl,fun _ _=>rfl⟩
  | cons y ys=>exact⟨_,_,rfl,.inr ⟨σ.length,0,rfl,by simp,hlo0⟩,by simp,fun j _ hj=>Ck hj,fun j hj=>Ck (by omega)⟩
 ·simp only
  rw[if_pos ⟨hb,trivial⟩]
  simp only[ho,if_true]
  cases ys with
  | nil=>exact⟨_,σ,rfl,.inr ⟨i,g,by simp,by simpa using ho,hlo⟩,Af _,fun _ _ _=>rfl,fun _ _=>rfl⟩
  | cons y ys=>
   have hf:=Qq hl
   have hfy:=Qq hly
   have hfy2:(y::ys).flatten.length=(ys.length+1)*m:=by rw[hfy];rfl
   rw[if_neg (by simp),if_pos (by simp),if_neg (by
    rw[hf]
    have:(xs.length+(y::ys).length)*m=xs.length*m+(ys.length+1)*m:=by rw[Ag,J8]
    rw[this]
    have:0<(ys.length+1)*m:=Nat.mul_pos (by omega) hm
    omega),if_pos hf]
   refine⟨_,_,rfl,.inr ⟨i,g+1,by rw[Al],?_,hlo⟩,by simp,fun j hj _=>?_,fun j hj=>by rw[Bd (by omega)]⟩
   ·have hi:i<σ.length:=by
     rcases D7 i σ.length with h | h
     ·exact h
     ·rw[Mr h]at ho;cases ho
    rw[A1 hi,List.flatten_append]
   ·have:=hj i g rfl
    rw[Bd (by omega)]
theorem Avb{v:V}(h:v.cellB=true):v.cells=[v]:=by cases v<;>simp[V.cellB]at h<;>rfl
theorem Bv{s l:St}{j:Nat}{x:Ob}(h:s[j]?=some x):(s++l)[j]?=some x:=by
 have hi:j<s.length:=by
  rcases D7 j s.length with h1 | h1
  ·exact h1
  ·rw[Mr h1]at h;cases h
 rw[Ck hi,h]
theorem Wf{xs:List (List V)}(hr:∀ r∈xs,r.all V.rowB=true):xs.flatten.all V.rowB=true:=by
 rw[A5]
 intro c hc
 obtain⟨r,hrx,hcr⟩:=List.mem_flatten.1 hc
 exact A5.1 (hr r hrx) c hcr
theorem Ai0(i:Nat):∀ cs:List V,cs.all V.rowB=true->Gi (ren 0 [i]) cs=cs
 | [],_=>rfl
 | c::cs,h=>by
  simp only[Ar,Ad]at h
  simp only[Gi]
  rw[Ai0 i cs h.2]
  congr 1
  cases c<;>simp[V.rowB]at h<;>rfl
theorem Wg:∀ a b:List V,Aw (a++b)=Aw a++Aw b
 | [],_=>rfl
 | c::a,b=>by simp only[Bg,Aw,Wg a b,Bl]
def GW(σ:St)(m e lo:Nat)(u:V)(xs:List (List V)):Prop:=(u=.nils/\xs=[])\/(xs≠[]/\∃ i g,u=.sl i g 0 xs.length m true/\σ[i]?=some (.row xs.flatten e g 0)/\lo<=i)
theorem Gc{σ:St}{m e lo:Nat}:GW σ m e lo .nils []:=.inl ⟨rfl,rfl⟩
theorem Ajv{σ:St}{m e lo:Nat}{u:V}{xs:List (List V)}(h:GW σ m e lo u xs):GV σ m e lo u xs:=h.imp id fun h=>h.2
theorem Em{σ:St}{m e lo:Nat}{u:V}{xs:List (List V)}(h:GW σ m e lo u xs):u.cellB=true:=Ard (Ajv h)
theorem Mb{σ:St}{m e lo bytes:Nat}{u y:V}{xs ys:List (List V)}(h:GW σ m e lo u xs)(hlo0:lo<=σ.length)(hy:Hy σ m y=some ys)(hm:0<m)(hl:∀ r∈xs,r.length=m)(hly:∀ r∈ys,r.length=m)(hb:(xs.length+ys.length)*bytes<=140737488355328):
  ∃ u' σ',Ir bytes (m,e) u y σ=some (u',σ')/\GW σ' m e lo u' (xs++ys)/\σ.length<=σ'.length/\(∀ j,(∀ i g,u=.sl i g 0 xs.length m true->j≠i)->j<σ.length->σ'[j]?=σ[j]?)/\∀ j,j<lo->σ'[j]?=σ[j]?:=by
 obtain⟨u',σ',h1,h2,h3,h4,h5⟩:=Ava (Ajv h) hlo0 hy hm hl hly hb
 refine⟨u',σ',h1,?_,h3,h4,h5⟩
 by_cases he:xs++ys=[]
 ·rw[List.append_eq_nil_iff]at he
  obtain⟨rfl,rfl⟩:=he
  rcases h with⟨rfl,_⟩ | ⟨hn,_⟩
  ·have:Ir bytes (m,e) .nils y σ=some (.nils,σ):=by simp[Ir,hy,Jy,hm]
   rw[this]at h1
   cases h1
   exact Gc
  ·exact absurd rfl hn
 ·exact h2.imp id fun h=>⟨he,h⟩
theorem Tz{σ l:St}{m e lo:Nat}{u:V}{xs:List (List V)}(h:GW σ m e lo u xs):GW (σ++l) m e lo u xs:=by
 rcases h with h | ⟨hn,i,g,h,ho,hlo⟩
 ·exact .inl h
 ·exact .inr ⟨hn,i,g,h,Bv ho,hlo⟩
theorem Dt{σ:St}{j:Nat}{x:Ob}{m e lo:Nat}{u:V}{xs:List (List V)}(h:GW σ m e lo u xs)(hj:j<lo):GW (σ.set j x) m e lo u xs:=by
 rcases h with h | ⟨hn,i,g,h,ho,hlo⟩
 ·exact .inl h
 ·exact .inr ⟨hn,i,g,h,by rw[Bd (by omega)];exact ho,hlo⟩
theorem Ajw{t:Nat}{xs:List (List V)}(h:xs≠[]):SL true t xs=.lst t xs:=by simp[SL,h]
theorem Ns{σ:St}{m e lo:Nat}{u:V}{xs:List (List V)}(h:GW σ m e lo u xs)(hm:0<m)(hl:∀ r∈xs,r.length=m)(hr:∀ r∈xs,r.all V.rowB=true):OC σ u (SL true 0 xs):=by
 rcases h with⟨rfl,rfl⟩ | ⟨hn,i,g,rfl,ho,hlo⟩
 ·exact Xd rfl
 ·rw[Ajw hn];exact Aju ho hm hl hr
/-! what a call leaves of the state, where an argument names a list's object -/
theorem Zb(σ:St)(i j:Nat)(h:j≠i):(σ.freeze [i])[j]?=σ[j]?:=by
 simp only[St.freeze]
 split
 ·rw[Bd (by omega)]
 ·rfl
theorem Ak1(σ:St)(i:Nat):(σ.freeze [i]).length=σ.length:=by
 simp only[St.freeze]
 split
 ·simp
 ·rfl
section
variable {T:Nat->Option AF} {pr:Nat->Option (List V->Option V)} {Q:Env->St->Prop} {e:Env} {σ:St} {k:List It} {l:List AI} {kill:List Nat} {f:Nat} {args vs:List V} {v:V} {d:Option Nat}
end
theorem Ai1{σ:St}{cs:List V}{m n:Nat}(h:cs.all V.rowB=true):Uo m n σ cs=some (.lst 1 (Eg m n cs),σ):=by
 unfold Uo
 rw[Q4 fun c hc=>Qk (A5.1 h c hc),Lx h]
 rfl
attribute [go_sem] Ai1
def Cl(s:St):Prop:=∀ ob∈s,∀ i∈ob.refs,i<s.length
theorem Ww{s:St}{ob:Ob}(h:Cl s)(ho:∀ i∈ob.refs,i<s.length+1):Cl (s++[ob]):=by
 intro o hm i hi
 rw[Al]
 rcases Ek.1 hm with hm | hm
 ·have:=h o hm i hi;simp;omega
 ·simp at hm;subst hm;simpa using ho i hi
theorem Xe{s:St}{j:Nat}{ob:Ob}(h:Cl s)(ho:∀ i∈ob.refs,i<s.length):Cl (s.set j ob):=by
 intro o hm i hi
 rw[Fi]
 rcases List.mem_or_eq_of_mem_set hm with hm | hm
 ·exact h o hm i hi
 ·subst hm;exact ho i hi
mutual
theorem Wh(ρ:Nat->Nat):∀ v:V,(∀ i∈v.refs,ρ i=i)->v.ren ρ=v
 | .ptr i g o,h=>by simp only[V.ren];rw[h i (by simp[V.refs])]
 | .sl i g o l m w,h=>by simp only[V.ren];rw[h i (by simp[V.refs])]
 | .mp i,h=>by simp only[V.ren];rw[h i (by simp[V.refs])]
 | .fn f a c,h=>by
  simp only[V.ren]
  rw[Oy ρ a fun i hi=>h i (by simp only[V.refs,Ek];exact .inl hi),Oy ρ c fun i hi=>h i (by simp only[V.refs,Ek];exact .inr hi)]
 | .agg cs,h=>by simp only[V.ren];rw[Oy ρ cs fun i hi=>h i (by simpa only[V.refs] using hi)]
 | .tup cs,h=>by simp only[V.ren];rw[Oy ρ cs fun i hi=>h i (by simpa only[V.refs] using hi)]
 | .und,_=>rfl
 | .skp,_=>rfl
 | .bool _,_=>rfl
 | .int _ _,_=>rfl
 | .str _,_=>rfl
 | .nili,_=>rfl
 | .ifc,_=>rfl
 | .nils,_=>rfl
 | .nilp,_=>rfl
 | .nilf,_=>rfl
 | .lst _ _,_=>rfl
 | .imm _ _,_=>rfl
theorem Oy(ρ:Nat->Nat):∀ vs:List V,(∀ i∈Aw vs,ρ i=i)->Gi ρ vs=vs
 | [],_=>rfl
 | v::r,h=>by
  simp only[Gi]
  rw[Wh ρ v fun i hi=>h i (by simp only[Aw,Ek];exact .inl hi),Oy ρ r fun i hi=>h i (by simp only[Aw,Ek];exact .inr hi)]
end
theorem Adp(ρ:Nat->Nat)(ob:Ob)(h:∀ i∈ob.refs,ρ i=i):ob.ren ρ=ob:=by
 cases ob with
 | row cs e g z=>simp only[Ob.ren];rw[Oy ρ cs h]
 | map kvs=>
  simp only[Ob.ren]
  congr 1
  have:∀ l:List (List UInt8 × V),(∀ i∈Aw (l.map (·.2)),ρ i=i)->l.map (fun p=>(p.1,p.2.ren ρ))=l:=by
   intro l
   induction l with
   | nil=>intro _;rfl
   | cons p l ih=>
    intro h
    simp only[Ao,Aw,Ek]at h ⊢
    rw[ih fun i hi=>h i (.inr hi),Wh ρ p.2 fun i hi=>h i (.inl hi)]
  exact this kvs h
 | dead=>rfl
theorem Zo{n k i:Nat}(h:i<n+k):ren n (List.range' n k) i=i:=by
 unfold ren
 split
 ·rfl
 ·have h1:List.findIdx (·==i) (List.range' n k)=i - n:=by
   rw[List.findIdx_eq (by simp;omega)]
   simp
   constructor
   ·omega
   ·intro j hj
    omega
  rw[h1]
  omega
theorem Aml{σ σ':St}{m e lo bytes:Nat}{u u' y:V}{xs ys:List (List V)}(h:GW σ m e lo u xs)(hy:Hy σ m y=some ys)(ha:Ir bytes (m,e) u y σ=some (u',σ'))(hx:Aw xs.flatten=[])(hz:Aw ys.flatten=[])(hc:Cl σ):Cl σ':=by
 unfold Ir at ha
 simp only[hy,Cc]at ha
 unfold Jy at ha
 split at ha
 ·rcases h with⟨rfl,rfl⟩ | ⟨hn,i,g,rfl,ho,hlo⟩
  ·simp only at ha
   split at ha
   ·split at ha
    ·cases ha;exact hc
    ·cases ha;exact Ww hc (by simp[Ob.refs,hz])
   ·cases ha
  ·simp only at ha
   split at ha
   ·simp only[ho,if_true]at ha
    split at ha
    ·cases ha;exact hc
    ·split at ha
     ·split at ha
      ·cases ha
       refine Xe hc fun j hj=>?_
       simp only[Ob.refs,Wg,hz,Ds,Ek]at hj
       have sub:∀ (a:List V) (k:Nat),Aw a=[]->Aw (a.take k)=[]/\Aw (a.drop k)=[]:=by
        intro a k h0
        have:=Wg (a.take k) (a.drop k)
        rw[Py,h0]at this
        exact List.append_eq_nil_iff.1 this.symm
       rw[(sub _ _ hx).1,(sub _ _ hx).2]at hj
       simp at hj
      ·split at ha
       ·cases ha
        exact Xe hc (by simp[Ob.refs,Wg,hx,hz])
       ·cases ha
     ·cases ha
   ·cases ha
 ·cases ha
theorem Aht{σ:St}{m e lo:Nat}{u:V}{xs:List (List V)}(h:GW σ m e lo u xs):∀ i∈u.refs,i<σ.length:=by
 rcases h with⟨rfl,rfl⟩ | ⟨hn,i,g,rfl,ho,hlo⟩
 ·intro i hi;simp[V.refs]at hi
 ·intro j hj
  simp[V.refs]at hj
  subst hj
  exact(Ay.1 ho).1
theorem Aob{σ1:St}{v:V}{n:Nat}(hr:v.refs=[])(ho:Cq v=true)(hn:n<=σ1.length)(hc:Cl σ1):Hn n (List.range' n (σ1.length - n)) v σ1=true/\v=v.ren (ren n (List.range' n (σ1.length - n)))/\σ1=(σ1.take n++(List.range' n (σ1.length - n)).filterMap (σ1[·]?)).map (Ob.ren (ren n (List.range' n (σ1.length - n)))):=by
 refine⟨?_,?_,?_⟩
 ·have hw:∀ is:List Nat,(∀ i∈is,i<σ1.length)->Dh n (List.range' n (σ1.length - n)) is=true:=by
   intro is his
   unfold Dh
   rw[A5]
   intro i hi
   have:=his i hi
   simp
   omega
  unfold Hn
  simp only[Ad]
  refine⟨ho,hw _ (by rw[hr];simp),?_,?_,?_⟩
  ·rw[A5]
   intro o hm
   refine hw _ fun i hi=>?_
   rcases Ek.1 hm with hm | hm
   ·exact hc o (List.mem_of_mem_take hm) i hi
   ·obtain⟨j,_,hj⟩:=List.mem_filterMap.1 hm
    exact hc o (Hj hj) i hi
  ·simp[List.nodup_range']
  ·rw[A5]
   intro i hi
   simp at hi ⊢
   omega
 ·exact(Wh _ v (by rw[hr];simp)).symm
 ·have he:σ1.take n++(List.range' n (σ1.length - n)).filterMap (σ1[·]?)=σ1:=by
   have:(List.range' n (σ1.length - n)).filterMap (σ1[·]?)=σ1.drop n:=by
    apply P6
    intro i
    have hfm:∀ (k n:Nat),n+k<=σ1.length->(List.range' n k).filterMap (σ1[·]?)=(σ1.drop n).take k:=by
     intro k
     induction k with
     | zero=>intro n _;simp
     | succ k ih=>
      intro n hk
      rw[Vd,Ft,Az (by omega)]
      simp only
      rw[ih (n+1) (by omega),Gq (show n<σ1.length by omega),Om]
    rw[hfm _ _ (by omega),Px (by simp)]
   rw[this,Py]
  rw[he]
  have:∀ l:List Ob,(∀ o∈l,o∈σ1)->l.map (Ob.ren (ren n (List.range' n (σ1.length - n))))=l:=by
   intro l
   induction l with
   | nil=>intro _;rfl
   | cons o l ih=>
    intro hm
    rw[Ao,ih fun o ho=>hm o (Cb _ ho),Adp _ o fun i hi=>Zo (by have:=hc o (hm o Co) i hi;omega)]
  exact(this σ1 fun _ h=>h).symm
theorem Ai2{T:Nat->Option AF}{pr:Nat->Option (List V->Option V)}{f p:Nat}{res:List AR}{body:AC}{vs:List V}{v:V}{σ σ':St}(hT:T f=some ⟨p,res,true,body,none⟩)(hl:vs.length=p)
  (h:W T pr [.c body] (Cu 0 vs) σ (Hd fun e' σ1=>By e' σ1 res=some v/\σ1=σ')) (hr:v.refs=[]) (ho:Cq v=true) (hn:σ.length<=σ'.length) (hc:Cl σ'):Th T pr f vs σ v σ':=by
 obtain⟨e',σ1,hE,hres,rfl⟩:=h
 obtain⟨k1,k2,k3⟩:=Aob hr ho hn hc
 exact Ame hT rfl rfl hl ⟨e',σ1,hE,v,_,hres,k1,k2,k3⟩
theorem Alr{T:Nat->Option AF}{pr:Nat->Option (List V->Option V)}{σ:St}{f:Nat}{vs:List V}{v:V}{F:AF}{σ':St}(hT:T f=some F)(hsp:F.spec=none)(hl:vs.length=F.pars)(h:W T pr [.c F.body] (Cu 0 vs) σ fun e' σ1=>∃ v0 js,By e' σ1 F.res=some v0/\Hn σ.length js v0 σ1=true/\v=v0.ren (ren σ.length js)/\σ'=(σ1.take σ.length++js.filterMap (σ1[·]?)).map (Ob.ren (ren σ.length js))):Bc T pr f vs σ v σ':=by
 obtain⟨e',σ1,hE,v0,js,hr,hl2,rfl,rfl⟩:=h
 exact⟨F,hT,hsp,.fnL hT hsp hl hE hr hl2⟩
theorem Are{T:Nat->Option AF}{pr:Nat->Option (List V->Option V)}{f p:Nat}{res:List AR}{thr:Bool}{body:AC}{vs:List V}{v:V}{σ σ':St}(hT:T f=some ⟨p,res,thr,body,none⟩)(hl:vs.length=p)
  (h:W T pr [.c body] (Cu 0 vs) σ (Hd fun e' σ1=>By e' σ1 res=some v/\σ1=σ')) (hr:∀ i∈v.refs,i<σ'.length) (ho:Cq v=true) (hn:σ.length<=σ'.length) (hc:Cl σ'):Bc T pr f vs σ v σ':=by
 obtain⟨e',σ1,hE,hres,rfl⟩:=h
 refine Alr hT rfl hl ⟨e',σ1,hE,v,List.range' σ.length (σ1.length - σ.length),hres,?_,?_,?_⟩
 ·have hw:∀ is:List Nat,(∀ i∈is,i<σ1.length)->Dh σ.length (List.range' σ.length (σ1.length - σ.length)) is=true:=by
   intro is his
   unfold Dh
   rw[A5]
   intro i hi
   have:=his i hi
   simp
   omega
  unfold Hn
  simp only[Ad]
  refine⟨ho,hw _ hr,?_,?_,?_⟩
  ·rw[A5]
   intro o hm
   refine hw _ fun i hi=>?_
   rcases Ek.1 hm with hm | hm
   ·exact hc o (List.mem_of_mem_take hm) i hi
   ·obtain⟨j,_,hj⟩:=List.mem_filterMap.1 hm
    exact hc o (Hj hj) i hi
  ·simp[List.nodup_range']
  ·rw[A5]
   intro i hi
   simp at hi ⊢
   omega
 ·exact(Wh _ v fun i hi=>Zo (by have:=hr i hi;omega)).symm
 ·have he:σ1.take σ.length++(List.range' σ.length (σ1.length - σ.length)).filterMap (σ1[·]?)=σ1:=by
   have:(List.range' σ.length (σ1.length - σ.length)).filterMap (σ1[·]?)=σ1.drop σ.length:=by
    apply P6
    intro i
    have hfm:∀ (k n:Nat),n+k<=σ1.length->(List.range' n k).filterMap (σ1[·]?)=(σ1.drop n).take k:=by
     intro k
     induction k with
     | zero=>intro n _;simp
     | succ k ih=>
      intro n hk
      rw[Vd,Ft,Az (by omega)]
      simp only
      rw[ih (n+1) (by omega),Gq (show n<σ1.length by omega),Om]
    rw[hfm _ _ (by omega),Px (by simp)]
   rw[this,Py]
  rw[he]
  have:∀ l:List Ob,(∀ o∈l,o∈σ1)->l.map (Ob.ren (ren σ.length (List.range' σ.length (σ1.length - σ.length))))=l:=by
   intro l
   induction l with
   | nil=>intro _;rfl
   | cons o l ih=>
    intro hm
    rw[Ao,ih fun o ho=>hm o (Cb _ ho),Adp _ o fun i hi=>Zo (by have:=hc o (hm o Co) i hi;omega)]
  exact(this σ1 fun _ h=>h).symm
theorem LZ{α:Type}:(∀ a b c:List α,a++b++c=a++(b++c))/\(∀ (a:α) (b c:List α),a::b++c=a::(b++c))/\(∀ a:List α,[]++a=a)/\(∀ a b:List α,(a++b).length=a.length+b.length)/\(∀ (a:α) (b:List α),(a::b).length=b.length+1)/\([]:List α).length=0/\∀ n:Nat,0+n=n:=⟨Bl,fun _ _ _=>rfl,fun _=>rfl,fun _ _=>Al,fun _ _=>rfl,rfl,Fj⟩
end Go.Proofs.YtlehfgdhebapeaaGreatDoor.KM
