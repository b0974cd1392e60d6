/- THE PLAIN MACHINE, joined texts: Qa Qb Qc Qd Qe Qf Qg. -/
import Derived.Test.YtcoeikinocflnaaGreatDoorA4
set_option linter.all false
/- Walking by rewriting: what comes of code, as equations. -/
namespace Go.Proofs.YtcoeikinocflnaaGreatDoor.KM
open Go
variable {T:Nat->Option AF} {pr:Nat->Option (List V->Option V)}
theorem Bh{α:Sort _}{a b:α}(h:a=b):a=b:=h
/-! slots -/
theorem get_put:∀ (e:Env) (n m:Nat) (v:V),(Env.put e n v).get m=if n=m then v else Env.get e m
 | [],n,m,v=>by simp only[Env.put,Env.get]
 | (i,u)::r,n,m,v=>by
  simp only[Env.put]
  split
  ·rename_i h;subst h;simp only[Env.get]
   split<;>rfl
  ·rename_i h;simp only[Env.get,get_put r n m v]
   split
   ·rename_i h2;subst h2;rw[if_neg (by omega)]
   ·rfl
theorem Aog(e:Env)(n:Nat)(v:V):e.putO (some n) v=e.put n v:=Bh rfl
theorem Aoh(e:Env)(v:V):e.putO none v=e:=Bh rfl
theorem Azj(e:Env)(n:Nat):Ab e (.t n)=e.get n:=rfl
theorem Azk(e:Env)(v:V):Ab e (.k v)=v:=rfl
theorem Ap2(e:Env)(n m:Nat)(v:V):Env.get ((n,v)::e) m=if n=m then v else Env.get e m:=Bh rfl
/-! what an operation gives -/
inductive Rs where
 | val (v:V) (σ:St)
 | call (f:Nat) (args:List V)
 | fail
def r1(o:Option V)(σ:St):Rs:=
 match o with
 | some v=>.val v σ
 | none=>.fail
def r2(o:Option (V × St)):Rs:=
 match o with
 | some (v,σ)=>.val v σ
 | none=>.fail
theorem Ata(v:V)(σ:St):r1 (some v) σ=.val v σ:=Bh rfl
theorem Atb(σ:St):r1 none σ=.fail:=Bh rfl
theorem Atc(v:V)(σ:St):r2 (some (v,σ))=.val v σ:=Bh rfl
theorem Atd:r2 none=.fail:=Bh rfl
theorem Mu(o:Option V)(σ:St):r2 (o.map fun v=>(v,σ))=r1 o σ:=by cases o<;>rfl
def Az(op:AO)(e:Env)(σ:St):Rs:=
 match Bt e op with
 | some (f,args)=>.call f args
 | none=>r2 (Ae op e σ)
def Ac3(c a b:V):Option V:=
 match c with
 | .bool z=>some (if z=true then a else b)
 | _=>none
def Al2(t:Nat)(x:V)(σ:St):Option (V × St):=if x.cells.all V.cellB=true then some (.ptr σ.length 0 0,σ++[.row x.cells t 0 0]) else none
def mkV(t bytes:Nat)(z:List V)(x y:V)(σ:St):Option (V × St):=
 match x,y with
 | .int .i64 n,.int .i64 c=>if 0<=n/\n<=c/\c.toNat*bytes<=140737488355328 then some (.sl σ.length 0 0 n.toNat z.length true,σ++[.row (List.replicate n.toNat z).flatten t 0 0]) else none
 | _,_=>none
def N2(m n:Nat)(σ:St)(cs:List V):Option (V × St):=(cs.mapM (Fd σ (E3 σ 9 (Aj cs).eraseDups) 9)).map fun cs'=>(.lst 1 (Em m n cs'),σ.freeze (E3 σ 9 (Aj cs).eraseDups))
def Y8(n:Nat)(x v:V)(σ:St):Option (V × St):=(Mr σ n x v).map fun σ'=>(.und,σ')
def Adv(x:V):Option V:=
 match x with
 | .imm r o=>some (.imm r o)
 | .ptr b g o=>some (.ptr b g o)
 | _=>none
def Adw(k:EqK)(neg:Bool)(x y:V):Option V:=(J1 k x y).map fun z=>.bool (z != neg)
def Adx(k:IntKind)(x:V):Option V:=
 match x with
 | .int _ n=>some (.int k (k.wrap n))
 | _=>none
def Ady(x:V):Option V:=
 match x with
 | .str l=>some (.str l)
 | _=>none
def Adz(x:V)(σ:St):Option V:=
 match x with
 | .sl i g off len m w=>match σ[i]? with
  | some (.row _ _ g' z)=>if g=g'/\z=0 then some (.sl i g off len m w) else none
  | _=>none
 | _=>none
def Al3(ty:Nat)(x:V)(σ:St):Option (V × St):=
 match x with
 | .str l=>some (.sl σ.length 0 0 l.length 1 true,σ++[.row (Bz l).flatten ty 0 0])
 | _=>none
def Ad0(x:V)(σ:St):Option V:=(Ft σ 1 x).bind fun xs=>(H9 xs).map fun l=>.str l
def Ac4(len m:Nat)(x:V)(lo hi:Option V):Option V:=
 match x with
 | .ptr i g off=>(Dm lo 0).bind fun a=>(Dm hi len).bind fun b=>if a<=b/\b<=len then some (.sl i g (off+a*m) (b - a) m false) else none
 | _=>none
def Y9(off:Nat)(x:V):Option V:=
 match x with
 | .imm r o=>some (.imm r (o+off))
 | .ptr b g o=>some (.ptr b g (o+off))
 | _=>none
def Ad1(off n:Nat)(one:Bool)(x:V):Option V:=
 match x with
 | .agg cs=>if off+n<=cs.length then Fq one ((cs.drop off).take n) else none
 | _=>none
def M6(m:Nat)(x i:V):Option V:=
 match x with
 | .lst _ xs=>(Hn xs i).bind fun r=>if r.length=m then some (.imm r 0) else none
 | .sl j g off len m' _=>match i with
  | .int _ n=>if 0<=n/\n<len/\m=m' then some (.ptr j g (off+n.toNat*m)) else none
  | _=>none
 | _=>none
def Ad2(len m:Nat)(x i:V):Option V:=
 match i with
 | .int _ n=>if 0<=n/\n<len then(match x with
  | .imm r o=>some (.imm r (o+n.toNat*m))
  | .ptr b g o=>some (.ptr b g (o+n.toNat*m))
  | _=>none) else none
 | _=>none
def Ad3(x i:V):Option V:=
 match x with
 | .str l=>(Hn l i).map fun c=>.int .u8 (c.toNat:Int)
 | _=>none
def Ad4(len m:Nat)(one:Bool)(x i:V):Option V:=
 match i with
 | .int _ n=>if 0<=n/\n<len then(match x with
  | .agg cs=>if n.toNat*m+m<=cs.length then Fq one ((cs.drop (n.toNat*m)).take m) else none
  | _=>none) else none
 | _=>none
def Ad5(i:Nat)(x:V):Option V:=
 match x with
 | .tup vs=>vs[i]?
 | _=>none
def Ac5(x:V):Option V:=
 match x with
 | .str l=>some (.int .i64 (l.length:Int))
 | _=>none
def P0(x:V):Option V:=
 match x with
 | .nils=>some (.int .i64 0)
 | .lst _ xs=>some (.int .i64 (xs.length:Int))
 | .sl _ _ _ len _ _=>some (.int .i64 (len:Int))
 | _=>none
def Eu(bytes:Nat)(m:Nat × Nat)(x y:V)(σ:St):Option (V × St):=(Ft σ m.1 y).bind fun ys=>I5 bytes m σ x ys
def Alc(ty:Nat)(x y:V)(σ:St):Option (V × St):=
 match y with
 | .str l=>I5 1 (1,ty) σ x (Bz l)
 | _=>none
def mxV(x y:V):Option V:=
 match x,y with
 | .int k a,.int k' b=>if k=k' then some (.int k (max a b)) else none
 | _,_=>none
def mnV(x y:V):Option V:=
 match x,y with
 | .int k a,.int k' b=>if k=k' then some (.int k (min a b)) else none
 | _,_=>none
def Ad6(f:Nat)(a c:List V):Option V:=if(a.all V.cellB&&c.all V.cellB)=true then some (.fn f a c) else none
def Ad7(z x k:V)(σ:St):Option V:=
 match x,k with
 | .mp i,.str s=>match σ[i]? with
  | some (.map kvs)=>some (match Fv s kvs 0 with
   | some (_,v)=>v
   | none=>z)
  | _=>none
 | _,_=>none
def Al4(x k v:V)(σ:St):Option (V × St):=
 match x,k with
 | .mp i,.str s=>match σ[i]? with
  | some (.map kvs)=>if v.flatB=true then some (.und,σ.set i (.map (match Fv s kvs 0 with
   | some (j,_)=>kvs.set j (s,v)
   | none=>kvs++[(s,v)]))) else none
  | _=>none
 | _,_=>none
section
variable {e:Env} {σ:St}
theorem Azl(x:S):Az (.mov x) e σ=.val (Ab e x) σ:=Bh rfl
theorem Awe(c a b:S):Az (.pick c a b) e σ=r1 (Ac3 (Ab e c) (Ab e a) (Ab e b)) σ:=by
 simp only[Az,Bt,Ae,Ac3];cases Ab e c<;>rfl
theorem Azm(t:Nat)(z:List V):Az (.new t z) e σ=.val (.ptr σ.length 0 0) (σ++[.row z t 0 0]):=Bh rfl
theorem Azn(t:Nat)(x:S):Az (.box t x) e σ=r2 (Al2 t (Ab e x) σ):=Bh rfl
theorem Ate(z:List V)(ps:List (Nat × Nat × S)):Az (.build z ps) e σ=r1 ((Gf z (ps.map fun p=>(p.1,p.2.1,Ab e p.2.2))).map fun cs=>.agg cs) σ:=by
 simp only[Az,Bt,Ae];cases Gf z (ps.map fun p=>(p.1,p.2.1,Ab e p.2.2))<;>rfl
theorem Awf(n:Nat)(z:List V)(ps:List (Nat × S)):Az (.rows n z ps) e σ=r1 ((Gf (List.replicate n z).flatten (ps.map fun p=>(p.1*z.length,z.length,Ab e p.2))).bind fun cs=>if cs.all V.rowB=true then some (.lst 1 (Em z.length n cs)) else none) σ:=by
 simp only[Az,Bt,Ae]
 cases Gf (List.replicate n z).flatten (ps.map fun p=>(p.1*z.length,z.length,Ab e p.2)) with
 | none=>rfl
 | some cs=>simp only[Cz];split<;>rfl
theorem Awg(n:Nat)(z:List V)(ps:List (Nat × S)):Az (.rowf n z ps) e σ=r2 ((Gf (List.replicate n z).flatten (ps.map fun p=>(p.1*z.length,z.length,Ab e p.2))).bind fun cs=>N2 z.length n σ cs):=Bh rfl
theorem Awh(t n:Nat)(z:List V)(ps:List (Nat × S)):Az (.rowo t n z ps) e σ=r2 ((Gf (List.replicate n z).flatten (ps.map fun p=>(p.1*z.length,z.length,Ab e p.2))).map fun cs=>(.sl σ.length 0 0 n z.length true,σ++[.row cs t 0 0])):=Bh rfl
theorem A12(t bytes:Nat)(z:List V)(x y:S):Az (.mk t bytes z x y) e σ=r2 (mkV t bytes z (Ab e x) (Ab e y) σ):=Bh rfl
theorem Awi(n:Nat)(one:Bool)(x:S):Az (.load n one x) e σ=r1 (Gy σ n one (Ab e x)) σ:=Mu _ _
theorem Atf(n:Nat)(x v:S):Az (.store n x v) e σ=r2 (Y8 n (Ab e x) (Ab e v) σ):=Bh rfl
theorem Azo(x:S):Az (.chk x) e σ=r1 (Adv (Ab e x)) σ:=by
 simp only[Az,Bt,Ae,Adv];cases Ab e x<;>rfl
theorem Azp(o:BinOp)(x y:S):Az (.bin o x y) e σ=r1 (Vi o (Ab e x) (Ab e y)) σ:=Mu _ _
theorem A13(k:EqK)(neg:Bool)(x y:S):Az (.eq k neg x y) e σ=r1 (Adw k neg (Ab e x) (Ab e y)) σ:=by
 simp only[Az,Bt,Ae,Adw];cases J1 k (Ab e x) (Ab e y)<;>rfl
theorem A14(o:UnOp)(x:S):Az (.un o x) e σ=r1 (Zj o (Ab e x)) σ:=Mu _ _
theorem Azq(k:IntKind)(x:S):Az (.cvi k x) e σ=r1 (Adx k (Ab e x)) σ:=by
 simp only[Az,Bt,Ae,Adx];cases Ab e x<;>rfl
theorem Azr(x:S):Az (.cvs x) e σ=r1 (Ady (Ab e x)) σ:=by
 simp only[Az,Bt,Ae,Ady];cases Ab e x<;>rfl
theorem Azs(x:S):Az (.cvl x) e σ=r1 (Adz (Ab e x) σ) σ:=by
 simp only[Az,Bt,Ae,Adz]
 cases Ab e x with
 | sl i g off len m w=>
  simp only
  cases σ[i]? with
  | none=>rfl
  | some ob=>
   cases ob with
   | row cs e g' z=>simp only;split<;>rfl
   | _=>rfl
 | _=>rfl
theorem Azt(ty:Nat)(x:S):Az (.stb ty x) e σ=r2 (Al3 ty (Ab e x) σ):=Bh rfl
theorem Azu(x:S):Az (.bts x) e σ=r1 (Ad0 (Ab e x) σ) σ:=by
 simp only[Az,Bt,Ae,Ad0]
 cases Ft σ 1 (Ab e x) with
 | none=>rfl
 | some xs=>simp only[Cz];cases H9 xs<;>rfl
theorem Awj(x:S)(lo hi:Option S):Az (.slcs x lo hi) e σ=r1 (Oj (Ab e x) (lo.map (Ab e)) (hi.map (Ab e))) σ:=Mu _ _
theorem Azv(m:Nat)(x:S)(lo hi mx:Option S):Az (.slc m x lo hi mx) e σ=r1 (M5 m (Ab e x) (lo.map (Ab e)) (hi.map (Ab e)) (mx.map (Ab e))) σ:=Mu _ _
theorem Azw(n:Nat)(x:S):Az (.sap n x) e σ=r1 (Y5 n (Ab e x)) σ:=Mu _ _
theorem Awk(len m:Nat)(x:S)(lo hi:Option S):Az (.slca len m x lo hi) e σ=r1 (Ac4 len m (Ab e x) (lo.map (Ab e)) (hi.map (Ab e))) σ:=by
 simp only[Az,Bt,Ae,Ac4]
 cases Ab e x with
 | ptr i g off=>
  simp only
  cases Dm (lo.map (Ab e)) 0 with
  | none=>rfl
  | some a=>
   simp only[Cz]
   cases Dm (hi.map (Ab e)) len with
   | none=>rfl
   | some b=>simp only[Cz];split<;>rfl
 | _=>rfl
theorem Azx(off:Nat)(x:S):Az (.fad off x) e σ=r1 (Y9 off (Ab e x)) σ:=by
 simp only[Az,Bt,Ae,Y9];cases Ab e x<;>rfl
theorem Azy(off n:Nat)(one:Bool)(x:S):Az (.fld off n one x) e σ=r1 (Ad1 off n one (Ab e x)) σ:=by
 simp only[Az,Bt,Ae,Ad1]
 cases Ab e x with
 | agg cs=>simp only;split;· exact Mu _ _
           ·rfl
 | _=>rfl
theorem Azz(m:Nat)(x i:S):Az (.iad m x i) e σ=r1 (M6 m (Ab e x) (Ab e i)) σ:=by
 simp only[Az,Bt,Ae,M6]
 cases Ab e x with
 | lst t xs=>
  simp only
  cases Hn xs (Ab e i) with
  | none=>rfl
  | some r=>simp only[Cz];split<;>rfl
 | sl j g off len m' w=>
  simp only
  cases Ab e i with
  | int k n=>simp only;split<;>rfl
  | _=>rfl
 | _=>rfl
theorem Az0(len m:Nat)(x i:S):Az (.iar len m x i) e σ=r1 (Ad2 len m (Ab e x) (Ab e i)) σ:=by
 simp only[Az,Bt,Ae,Ad2]
 cases Ab e i with
 | int k n=>simp only;split;· cases Ab e x<;>rfl
            ·rfl
 | _=>rfl
theorem Az1(x i:S):Az (.idx x i) e σ=r1 (Ad3 (Ab e x) (Ab e i)) σ:=by
 simp only[Az,Bt,Ae,Ad3]
 cases Ab e x with
 | str l=>simp only;cases Hn l (Ab e i)<;>rfl
 | _=>rfl
theorem Az2(len m:Nat)(one:Bool)(x i:S):Az (.ida len m one x i) e σ=r1 (Ad4 len m one (Ab e x) (Ab e i)) σ:=by
 simp only[Az,Bt,Ae,Ad4]
 cases Ab e i with
 | int k n=>
  simp only
  split
  ·cases Ab e x with
   | agg cs=>simp only;split;· exact Mu _ _
             ·rfl
   | _=>rfl
  ·rfl
 | _=>rfl
theorem Az3(i:Nat)(x:S):Az (.ext i x) e σ=r1 (Ad5 i (Ab e x)) σ:=by
 simp only[Az,Bt,Ae,Ad5]
 cases Ab e x with
 | tup vs=>exact Mu _ _
 | _=>rfl
theorem Awl(x:S):Az (.lens x) e σ=r1 (Ac5 (Ab e x)) σ:=by
 simp only[Az,Bt,Ae,Ac5];cases Ab e x<;>rfl
theorem Az4(x:S):Az (.len x) e σ=r1 (P0 (Ab e x)) σ:=by
 simp only[Az,Bt,Ae,P0];cases Ab e x<;>rfl
theorem Az5(bytes:Nat)(m:Nat × Nat)(x y:S):Az (.app bytes m x y) e σ=r2 (Eu bytes m (Ab e x) (Ab e y) σ):=Bh rfl
theorem Awm(ty:Nat)(x y:S):Az (.apps ty x y) e σ=r2 (Alc ty (Ab e x) (Ab e y) σ):=Bh rfl
theorem A15(x y:S):Az (.mx x y) e σ=r1 (mxV (Ab e x) (Ab e y)) σ:=by
 simp only[Az,Bt,Ae,mxV]
 cases Ab e x with
 | int k a=>
  cases Ab e y with
  | int k' b=>simp only;split<;>rfl
  | _=>rfl
 | _=>rfl
theorem A16(x y:S):Az (.mn x y) e σ=r1 (mnV (Ab e x) (Ab e y)) σ:=by
 simp only[Az,Bt,Ae,mnV]
 cases Ab e x with
 | int k a=>
  cases Ab e y with
  | int k' b=>simp only;split<;>rfl
  | _=>rfl
 | _=>rfl
theorem Az6(f:Nat)(a c:List S):Az (.mkf f a c) e σ=r1 (Ad6 f (a.map (Ab e)) (c.map (Ab e))) σ:=by
 simp only[Az,Bt,Ae,Ad6];split<;>rfl
theorem Az7:Az .mmk e σ=.val (.mp σ.length) (σ++[.map []]):=Bh rfl
theorem Az8(z:V)(x k:S):Az (.mlk z x k) e σ=r1 (Ad7 z (Ab e x) (Ab e k) σ) σ:=by
 simp only[Az,Bt,Ae,Ad7]
 cases Ab e x with
 | mp i=>
  cases Ab e k with
  | str s=>
   simp only
   cases σ[i]? with
   | none=>rfl
   | some ob=>cases ob<;>rfl
  | _=>rfl
 | _=>rfl
theorem Az9(x k v:S):Az (.mup x k v) e σ=r2 (Al4 (Ab e x) (Ab e k) (Ab e v) σ):=Bh rfl
theorem Awn(f:Nat)(xs:List S):Az (.call f xs) e σ=.call f (xs.map (Ab e)):=Bh rfl
def Ad8(x:V)(ys:List V):Rs:=
 match x with
 | .fn f a c=>.call f (a++ys++c)
 | _=>.fail
theorem Atg(x:S)(xs:List S):Az (.callv x xs) e σ=Ad8 (Ab e x) (xs.map (Ab e)):=by
 simp only[Az,Bt,Ad8];cases Ab e x<;>rfl
end
variable {T:Nat->Option AF} {pr:Nat->Option (List V->Option V)}
def o(d:Nat)(op:AO):AI:=⟨some d,op,none⟩
def on(op:AO):AI:=⟨none,op,none⟩
def og(d:Nat)(op:AO)(t:Nat)(w:Bool):AI:=⟨some d,op,some (t,w)⟩
def oh(op:AO)(t:Nat)(w:Bool):AI:=⟨none,op,some (t,w)⟩
inductive CallS (T:Nat->Option AF) (pr:Nat->Option (List V->Option V)) (f:Nat) (args:List V) (σ:St):V->St->Prop
 | prim {s:List V->Option V} {vs:List V} {v:V}:pr f=some s->C6 σ args=some vs->s vs=some v->CallS T pr f args σ v (after σ args v)
 | pure {vs:List V} {v:V}:C6 σ args=some vs->Fn T pr f vs v->CallS T pr f args σ v (after σ args v)
 | own {σ0:St} {vs:List V} {v:V}:C6 σ args=some vs->FnO T pr f vs v σ0->CallS T pr f args σ (v.ren (·+σ.length)) (own σ args σ0)
 | any {v:V} {σ1:St}:Bp T pr f args σ v σ1->CallS T pr f args σ v σ1
 | thr {v:V} {σ1:St}:Th T pr f args σ v σ1->CallS T pr f args σ v σ1
 | spec {F:AF} {s:List V->St->Option (V × St)} {v:V} {σ1:St}:T f=some F->F.thr=true->F.spec=some s->s args σ=some (v,σ1)->CallS T pr f args σ v σ1
theorem CallS.sg{i:AI}{f:Nat}{args:List V}{e:Env}{σ σ1:St}{v:V}(h:CallS T pr f args σ v σ1)(hw:Cg e i=some true)(hc:Bt e i.op=some (f,args)):Sg T pr i e σ v σ1:=by
 cases h with
 | prim h1 h2 h3=>exact .prim hw hc h1 h2 h3
 | pure h1 h2=>exact .pure hw hc h1 h2
 | own hx h=>obtain⟨F,h1,h2,h3,h4⟩:=h;exact .own hw hc h1 h2 h3 hx h4
 | any h=>obtain⟨F,h1,h3,h4⟩:=h;exact .any hw hc h1 h3 h4
 | thr h=>obtain⟨F,h1,h2,h3,h4⟩:=h;exact .thr hw hc h1 h2 h3 h4
 | spec h1 h2 h3 h4=>exact .spec hw hc h1 h2 h3 h4
def WE(T:Nat->Option AF)(pr:Nat->Option (List V->Option V))(e:Env)(k:List It)(σ:St)(Q:Env->St->Prop):Prop:=W T pr k e σ Q
def WR(T:Nat->Option AF)(pr:Nat->Option (List V->Option V))(l:List AI)(kill:List Nat)(k:List It)(e:Env)(σ:St)(Q:Env->St->Prop):Prop:=WO T pr l e σ fun e1 σ1=>W T pr k (e1.del kill) σ1 Q
def WX(T:Nat->Option AF)(pr:Nat->Option (List V->Option V))(r:Rs)(d:Option Nat)(l:List AI)(kill:List Nat)(k:List It)(e:Env)(σ:St)(Q:Env->St->Prop):Prop:=
 match r with
 | .val v σ1=>WR T pr l kill k (e.putO d v) σ1 Q
 | .call f args=>∃ v σ1,CallS T pr f args σ v σ1/\WR T pr l kill k (e.putO d v) σ1 Q
 | .fail=>False
def WD(T:Nat->Option AF)(pr:Nat->Option (List V->Option V))(g:V)(w:Bool)(d:Option Nat)(op:AO)(l:List AI)(kill:List Nat)(k:List It)(e:Env)(σ:St)(Q:Env->St->Prop):Prop:=
 match g with
 | .bool b=>if b=w then WX T pr (Az op e σ) d l kill k e σ Q else WR T pr l kill k (e.putO d .skp) σ Q
 | .skp=>WR T pr l kill k (e.putO d .skp) σ Q
 | _=>False
def WC(T:Nat->Option AF)(pr:Nat->Option (List V->Option V))(g:V)(kill:List Nat)(x y:AC)(k:List It)(e:Env)(σ:St)(Q:Env->St->Prop):Prop:=
 match g with
 | .bool true=>WE T pr (e.del kill) (.c x::k) σ Q
 | .bool false=>WE T pr (e.del kill) (.c y::k) σ Q
 | _=>False
def WJ(T:Nat->Option AF)(pr:Nat->Option (List V->Option V))(id:Nat):List It->Env->St->(Env->St->Prop)->Prop
 | [],_,_,_=>False
 | .b i::k,e,σ,Q=>if i=id then W T pr k e σ Q else WJ T pr id k e σ Q
 | .c _::k,e,σ,Q=>WJ T pr id k e σ Q
 | .l _ _::k,e,σ,Q=>WJ T pr id k e σ Q
theorem get_keep(e:Env)(n:Nat):∀ ks:List Nat,ks.elem n=true->(e.keep ks).get n=e.get n
 | [],h=>by cases h
 | m::ks,h=>by
  simp only[Env.keep,Env.get]
  split
  ·rename_i h;rw[h]
  ·rename_i hm;refine get_keep e n ks ?_;simp only[List.elem_eq_mem,Be,decide_eq_true_eq]at h ⊢;exact h.resolve_left fun h=>hm h.symm
theorem Ahe(e:Env)(ks:List Nat):∀ js:List Nat,(∀ n,js.elem n=true->ks.elem n=true)->(e.keep ks).keep js=e.keep js
 | [],_=>rfl
 | m::js,h=>by
  simp only[Env.keep];rw[get_keep e m ks (h m (by simp)),Ahe e ks js fun n hn=>h n (by simp at hn ⊢;exact .inr hn)]
theorem Agc(e:Env)(ks:List Nat):e.keep ks=(e.keep ks).keep ks:=(Ahe e ks ks fun _ h=>h).symm
section
variable {Q:Env->St->Prop} {e:Env} {σ:St} {k:List It} {l:List AI} {kill:List Nat}
theorem Ac6(a b:AC):W T pr (.c (.seq a b)::k) e σ Q=W T pr (.c a::.c b::k) e σ Q:=propext ⟨fun⟨e',σ',h,q⟩=>by cases h with | cSeq h=>exact⟨e',σ',h,q⟩,Ay5⟩
theorem Awo:W T pr (.c .skip::k) e σ Q=W T pr k e σ Q:=propext ⟨fun⟨e',σ',h,q⟩=>by cases h with | cSkip h=>exact⟨e',σ',h,q⟩,Avv⟩
theorem Ald(id:Nat)(c:AC):W T pr (.c (.blk id c)::k) e σ Q=W T pr (.c c::.b id::k) e σ Q:=propext ⟨fun⟨e',σ',h,q⟩=>by cases h with | cBlk h=>exact⟨e',σ',h,q⟩,Ay6⟩
theorem A0a(id:Nat):W T pr (.b id::k) e σ Q=W T pr k e σ Q:=propext ⟨fun⟨e',σ',h,q⟩=>by cases h with | cEnd h=>exact⟨e',σ',h,q⟩,Ay7⟩
theorem Awp(keep:List Nat)(c:AC):W T pr (.c (.loop keep c)::k) e σ Q=WE T pr (e.keep keep) (.l keep c::k) σ Q:=by
 refine propext ⟨fun⟨e',σ',h,q⟩=>?_,fun h=>Avw (Bi h ?_)⟩
 ·cases h with
  | cLoop h=>exact Bi ⟨e',σ',h,q⟩ (Agc e keep).symm
 ·exact(Agc e keep)
theorem Ath(keep:List Nat)(c:AC):W T pr (.l keep c::k) e σ Q=WE T pr (e.keep keep) (.c c::.l keep c::k) σ Q:=propext ⟨fun⟨e',σ',h,q⟩=>by cases h with | cAgain h=>exact⟨e',σ',h,q⟩,Asy⟩
theorem A0b:W T pr (.c .ret::k) e σ Q=Q e σ:=propext ⟨fun⟨e',σ',h,q⟩=>by cases h with | cRet=>exact q,Ay8⟩
theorem Ale:W T pr [] e σ Q=Q e σ:=propext ⟨fun⟨e',σ',h,q⟩=>by cases h with | cNil=>exact q,Ay9⟩
theorem A0c(ops:List AI):W T pr (.c (.reg kill ops)::k) e σ Q=WR T pr ops kill k e σ Q:=propext ⟨fun⟨e',σ',h,q⟩=>by cases h with | cReg h h2=>exact⟨_,_,h,e',σ',h2,q⟩,fun⟨_,_,h,e',σ',h2,q⟩=>⟨e',σ',.cReg h h2,q⟩⟩
theorem Awq(c:S)(x y:AC):W T pr (.c (.cond c kill x y)::k) e σ Q=WC T pr (Ab e c) kill x y k e σ Q:=by
 refine propext ⟨fun⟨e',σ',h,q⟩=>?_,fun h=>?_⟩
 ·cases h with
  | cCond hc h=>
   rw[hc];rename_i z;cases z
   ·exact⟨e',σ',h,q⟩
   ·exact⟨e',σ',h,q⟩
 ·unfold WC at h
  split at h
  ·rename_i hc;exact Apy hc h
  ·rename_i hc;exact Apz hc h
  ·exact h.elim
theorem U8(id:Nat):∀ k':List It,WJ T pr id k' e σ Q↔∃ k2,exitTo id k'=some k2/\W T pr k2 e σ Q
 | []=>by simp[WJ,exitTo]
 | .b i::k'=>by
  simp only[WJ,exitTo]
  split
  ·simp
  ·exact U8 id k'
 | .c _::k'=>by simp only[WJ,exitTo];exact U8 id k'
 | .l _ _::k'=>by simp only[WJ,exitTo];exact U8 id k'
theorem Awr(id:Nat):W T pr (.c (.exit id)::k) e σ Q=WJ T pr id k e σ Q:=propext ⟨fun⟨e',σ',h,q⟩=>by cases h with | cExit hk h=>exact(U8 id k).2 ⟨_,hk,e',σ',h,q⟩,fun h=>let ⟨_,h1,h2⟩:=(U8 id k).1 h;Avx h1 h2⟩
theorem A17(id i:Nat):WJ T pr id (.b i::k) e σ Q=if i=id then W T pr k e σ Q else WJ T pr id k e σ Q:=Bh rfl
theorem A18(id:Nat)(c:AC):WJ T pr id (.c c::k) e σ Q=WJ T pr id k e σ Q:=Bh rfl
theorem A19(id:Nat)(kp:List Nat)(c:AC):WJ T pr id (.l kp c::k) e σ Q=WJ T pr id k e σ Q:=Bh rfl
theorem we:WE T pr e k σ Q=W T pr k e σ Q:=Bh rfl
theorem Aws:WR T pr [] kill k e σ Q=WE T pr (e.del kill) k σ Q:=propext ⟨fun⟨_,_,h,q⟩=>by cases h with | opsNil=>exact q,fun h=>⟨_,_,.opsNil,h⟩⟩
theorem Awt(v:V)(σ1:St)(d:Option Nat):WX T pr (.val v σ1) d l kill k e σ Q=WR T pr l kill k (e.putO d v) σ1 Q:=Bh rfl
theorem Ati(d:Option Nat):WX T pr .fail d l kill k e σ Q=False:=Bh rfl
theorem Lq{f:Nat}{args:List V}{d:Option Nat}{v:V}{σ1:St}(hc:CallS T pr f args σ v σ1)(h:WR T pr l kill k (e.putO d v) σ1 Q):WX T pr (.call f args) d l kill k e σ Q:=⟨v,σ1,hc,h⟩
theorem Am4{op:AO}{r:V × St}(h:Ae op e σ=some r):Bt e op=none:=by
 cases op with
 | call f xs=>cases h
 | callv x xs=>cases h
 | _=>rfl
theorem Ac7{i:AI}(hw:Cg e i=some true):WR T pr (i::l) kill k e σ Q=WX T pr (Az i.op e σ) i.dst l kill k e σ Q:=by
 refine propext ⟨fun⟨e',σ',h,q⟩=>?_,fun h=>?_⟩
 ·cases h with
  | opsSkip hw' _=>rw[hw]at hw';cases hw'
  | opsVal _ hv h=>
   unfold Az;rw[Am4 hv,hv];exact⟨_,_,h,q⟩
  | opsPrim _ hc h1 h2 h3 h=>
   unfold Az;rw[hc];exact⟨_,_,.prim h1 h2 h3,_,_,h,q⟩
  | opsPure _ hc h1 h2 h3 h4 h5 h6 h=>
   unfold Az;rw[hc];exact⟨_,_,.pure h4 ⟨_,h1,h2,h3,_,_,h5,h6⟩,_,_,h,q⟩
  | opsOwn _ hc h1 h2 h3 hx h4 h=>
   unfold Az;rw[hc];exact⟨_,_,.own hx ⟨_,h1,h2,h3,h4⟩,_,_,h,q⟩
  | opsAny _ hc h1 h3 h4 h=>
   unfold Az;rw[hc];exact⟨_,_,.any ⟨_,h1,h3,h4⟩,_,_,h,q⟩
  | opsThr _ hc h1 h2 h3 h4 h=>
   unfold Az;rw[hc];exact⟨_,_,.thr ⟨_,h1,h2,h3,h4⟩,_,_,h,q⟩
  | opsSpec _ hc h1 h2 h3 h4 h=>
   unfold Az;rw[hc];exact⟨_,_,.spec h1 h2 h3 h4,_,_,h,q⟩
 ·unfold Az at h
  split at h
  ·rename_i f args hc;obtain⟨v,σ1,hs,e',σ',h,q⟩:=h;exact⟨e',σ',(hs.sg hw hc).ev h,q⟩
  ·cases hv:Ae i.op e σ with
   | none=>rw[hv]at h;exact h.elim
   | some p=>
    obtain⟨v,σ1⟩:=p;rw[hv]at h;obtain⟨e',σ',h,q⟩:=h;exact⟨e',σ',.opsVal hw hv h,q⟩
theorem A2a(d:Nat)(op:AO):WR T pr (o d op::l) kill k e σ Q=WX T pr (Az op e σ) (some d) l kill k e σ Q:=Ac7 (i:=o d op) rfl
theorem A0d(op:AO):WR T pr (on op::l) kill k e σ Q=WX T pr (Az op e σ) none l kill k e σ Q:=Ac7 (i:=on op) rfl
theorem Aix{i:AI}(hw:Cg e i=some false):WR T pr (i::l) kill k e σ Q=WR T pr l kill k (e.putO i.dst .skp) σ Q:=by
 refine propext ⟨fun⟨e',σ',h,q⟩=>?_,fun⟨e',σ',h,q⟩=>⟨e',σ',.opsSkip hw h,q⟩⟩
 cases h with
 | opsSkip _ h=>exact⟨_,_,h,q⟩
 | opsVal hw'=>rw[hw]at hw';cases hw'
 | opsPrim hw'=>rw[hw]at hw';cases hw'
 | opsPure hw'=>rw[hw]at hw';cases hw'
 | opsOwn hw'=>rw[hw]at hw';cases hw'
 | opsAny hw'=>rw[hw]at hw';cases hw'
 | opsThr hw'=>rw[hw]at hw';cases hw'
 | opsSpec hw'=>rw[hw]at hw';cases hw'
theorem Al5{i:AI}{t:Nat}{w:Bool}(hg:i.g=some (t,w)):WR T pr (i::l) kill k e σ Q=WD T pr (e.get t) w i.dst i.op l kill k e σ Q:=by
 unfold WD
 have hd:Cg e i=(match e.get t with
  | .bool b=>some (b==w)
  | .skp=>some false
  | _=>none):=by unfold Cg;rw[hg];rfl
 have no:Cg e i=none->WR T pr (i::l) kill k e σ Q=False:=by
  intro hn;refine propext ⟨?_,False.elim⟩;rintro⟨e',σ',h,q⟩
  cases h with
  | opsSkip hw'=>rw[hn]at hw';cases hw'
  | opsVal hw'=>rw[hn]at hw';cases hw'
  | opsPrim hw'=>rw[hn]at hw';cases hw'
  | opsPure hw'=>rw[hn]at hw';cases hw'
  | opsOwn hw'=>rw[hn]at hw';cases hw'
  | opsAny hw'=>rw[hn]at hw';cases hw'
  | opsThr hw'=>rw[hn]at hw';cases hw'
  | opsSpec hw'=>rw[hn]at hw';cases hw'
 split
 ·rename_i b hb;rw[hb]at hd;simp only at hd
  split
  ·rename_i hbw;subst hbw;exact Ac7 (by rw[hd];simp)
  ·rename_i hbw;exact Aix (by rw[hd];simp[hbw])
 ·rename_i hb;rw[hb]at hd;exact Aix hd
 ·rename_i h1 h2;refine no ?_;rw[hd]
  split
  ·rename_i b hb;exact absurd hb (h1 b)
  ·rename_i hb;exact absurd hb h2
  ·rfl
theorem A0e(d:Nat)(op:AO)(t:Nat)(w:Bool):WR T pr (og d op t w::l) kill k e σ Q=WD T pr (e.get t) w (some d) op l kill k e σ Q:=Al5 (i:=og d op t w) rfl
theorem A0f(op:AO)(t:Nat)(w:Bool):WR T pr (oh op t w::l) kill k e σ Q=WD T pr (e.get t) w none op l kill k e σ Q:=Al5 (i:=oh op t w) rfl
theorem Awu(w:Bool)(d:Option Nat)(op:AO):WD T pr .skp w d op l kill k e σ Q=WR T pr l kill k (e.putO d .skp) σ Q:=Bh rfl
theorem Atj(x y:AC):WC T pr (.bool true) kill x y k e σ Q=WE T pr (e.del kill) (.c x::k) σ Q:=Bh rfl
theorem Ap3(x y:AC):WC T pr (.bool false) kill x y k e σ Q=WE T pr (e.del kill) (.c y::k) σ Q:=Bh rfl
theorem Alf{b:Bool}{x y:AC}(h1:b=true->WE T pr (e.del kill) (.c x::k) σ Q)(h2:b=false->WE T pr (e.del kill) (.c y::k) σ Q):WC T pr (.bool b) kill x y k e σ Q:=by
 cases b
 ·exact h2 rfl
 ·exact h1 rfl
end
/-! only the first part is looked at while it is reckoned -/
section
variable {Q:Env->St->Prop} {e e':Env} {σ σ':St} {k:List It} {l:List AI} {kill:List Nat}
@[congr] theorem A3t (h:e=e'):W T pr k e σ Q=W T pr k e' σ Q:=by rw[h]
@[congr] theorem A3n (h:e=e'):WE T pr e k σ Q=WE T pr e' k σ Q:=by rw[h]
@[congr] theorem A3o (h:e=e'):WR T pr l kill k e σ Q=WR T pr l kill k e' σ Q:=by rw[h]
@[congr] theorem A3p {r r':Rs} {d:Option Nat} (h:r=r'):WX T pr r d l kill k e σ Q=WX T pr r' d l kill k e σ Q:=by rw[h]
@[congr] theorem A3q {g g':V} {w:Bool} {d:Option Nat} {op:AO} (h:g=g'):WD T pr g w d op l kill k e σ Q=WD T pr g' w d op l kill k e σ Q:=by rw[h]
@[congr] theorem A3r {g g':V} {x y:AC} (h:g=g'):WC T pr g kill x y k e σ Q=WC T pr g' kill x y k e σ Q:=by rw[h]
end
variable {T:Nat->Option AF} {pr:Nat->Option (List V->Option V)}
inductive Kd where
 | pu | rd | ef
def kd:AO->Kd
 | .new _ _ | .box _ _ | .store _ _ _ | .app _ _ _ _ | .apps _ _ _ | .rowf _ _ _ | .rowo _ _ _ _ | .mk _ _ _ _ _ | .stb _ _ | .mmk | .mup _ _ _ | .call _ _ | .callv _ _=>.ef
 | .load _ _ _ | .mlk _ _ _ | .bts _ | .cvl _=>.rd
 | _=>.pu
theorem A0g{op:AO}(h:kd op=.pu):Ew T pr op=0:=by
 cases op<;>simp[kd]at h<;>simp[Ew]
theorem A0h{op:AO}(h:kd op=.rd){e:Env}{σ σ1:St}{v:V}(hv:Ae op e σ=some (v,σ1)):σ1=σ:=by
 cases op with
 | load n one x=>
  simp only[Ae,Bm]at hv;obtain⟨_,_,h⟩:=hv;cases h;rfl
 | mlk z x k=>
  simp only[Ae]at hv
  split at hv
  ·split at hv
   ·cases hv;rfl
   ·cases hv
  ·cases hv
 | bts x=>
  simp only[Ae,C9,Bm]at hv;obtain⟨_,_,_,_,h⟩:=hv;cases h;rfl
 | cvl x=>
  simp only[Ae]at hv
  split at hv
  ·split at hv
   ·split at hv
    ·cases hv;rfl
    ·cases hv
   ·cases hv
  ·cases hv
 | _=>simp[kd]at h
def CallP(T:Nat->Option AF)(pr:Nat->Option (List V->Option V))(f:Nat)(vs:List V)(v:V):Prop:=(∃ s,pr f=some s/\s vs=some v)\/Fn T pr f vs v
theorem CallP.sg{i:AI}{f:Nat}{args vs:List V}{e:Env}{σ:St}{v:V}(h:CallP T pr f vs v)(hw:Cg e i=some true)(hc:Bt e i.op=some (f,args))(hx:C6 σ args=some vs):Sg T pr i e σ v (after σ args v):=by
 rcases h with⟨s,h1,h2⟩ | h
 ·exact .prim hw hc h1 hx h2
 ·exact .pure hw hc hx h
def Ja(deps:List (List Nat))(n m:Nat)(i:AI)(z:Kd)(v:V)(σ1:St)(e:Env)(σ:St)(fs:Fs)(ls:Ls)(K:Env->St->Fs->Ls->Prop):Prop:=
 match z with
 | .pu=>K (e.putO i.dst v) σ fs ls
 | .rd=>Sm deps n m (fun s=>Ae i.op e s=some (v,s)) fs/\K (e.putO i.dst v) σ fs ((m,fun s=>Ae i.op e s=some (v,s))::ls)
 | .ef=>M8 deps n m fs/\M9 deps n m σ σ1 ls/\K (e.putO i.dst v) σ1 ((m,σ,σ1)::fs) ls
def F0(T:Nat->Option AF)(pr:Nat->Option (List V->Option V))(deps:List (List Nat))(n m:Nat)(i:AI)(r:Rs)(e:Env)(σ:St)(fs:Fs)(ls:Ls)(K:Env->St->Fs->Ls->Prop):Prop:=
 match r with
 | .val v σ1=>Ja deps n m i (kd i.op) v σ1 e σ fs ls K
 | .call f args=>(∃ v vs,Aj args=[]/\C6 σ args=some vs/\CallP T pr f vs v/\K (e.putO i.dst v) σ fs ls) \/
   (∃ v vs,C6 σ args=some vs/\CallP T pr f vs v/\v.flatV=true/\Sm deps n m (fun s=>C6 s args=some vs) fs/\K (e.putO i.dst v) σ fs ((m,fun s=>C6 s args=some vs)::ls)) \/
   (∃ v σ1,CallS T pr f args σ v σ1/\M8 deps n m fs/\M9 deps n m σ σ1 ls/\K (e.putO i.dst v) σ1 ((m,σ,σ1)::fs) ls)
 | .fail=>False
def Hp(T:Nat->Option AF)(pr:Nat->Option (List V->Option V))(deps:List (List Nat))(n m:Nat)(i:AI)(g:Option V)(w:Bool)(e:Env)(σ:St)(fs:Fs)(ls:Ls)(K:Env->St->Fs->Ls->Prop):Prop:=
 match g with
 | none=>F0 T pr deps n m i (Az i.op e σ) e σ fs ls K
 | some (.bool b)=>if b=w then F0 T pr deps n m i (Az i.op e σ) e σ fs ls K else K (e.putO i.dst .skp) σ fs ls
 | some .skp=>K (e.putO i.dst .skp) σ fs ls
 | some _=>False
def wg(T:Nat->Option AF)(pr:Nat->Option (List V->Option V))(deps:List (List Nat))(n:Nat)(kill:List Nat)(k:List It)(Q:Env->St->Prop):Nat->List AI->Env->St->Fs->Ls->Prop
 | _,[],e,σ,_,_=>WE T pr (e.del kill) k σ Q
 | m,i::l,e,σ,fs,ls=>Hp T pr deps n m i (i.g.map fun p=>e.get p.1) ((i.g.map fun p=>p.2).getD true) e σ fs ls (wg T pr deps n kill k Q (m+1) l)
section
variable {Q:Env->St->Prop} {e:Env} {σ:St} {k:List It} {kill:List Nat} {deps:List (List Nat)} {n:Nat}
theorem Aj4{m:Nat}{i:AI}{l:List AI}{fs:Fs}{ls:Ls}{K:Env->St->Prop}{P:Env->St->Fs->Ls->Prop}(hP:∀ e σ fs ls,P e σ fs ls->WG T pr deps n (m+1) l e σ fs ls K)
  (hw:Cg e i=some true) (h:F0 T pr deps n m i (Az i.op e σ) e σ fs ls P):WG T pr deps n m (i::l) e σ fs ls K:=by
 unfold Az at h
 split at h
 ·rename_i f args hc;rcases h with⟨v,vs,h1,h2,h3,h4⟩ | ⟨v,vs,h1,h2,h3,h4,h5⟩ | ⟨v,σ1,h1,h2,h3,h4⟩
  ·refine X6 (fun s=>?_) (hP _ _ _ _ h4);have:=h3.sg (σ:=s) hw hc ((Xb h1 s).trans h2);rw[Qv h1]at this;exact this
  ·obtain⟨e',σ',h,q⟩:=hP _ _ _ _ h5;refine⟨e',σ',.read (fun s=>C6 s args=some vs) h1 (fun s hs=>?_) (Abq h4) h,q⟩;have:=h2.sg (σ:=s) hw hc hs;unfold after at this;rw[if_pos h3]at this;exact this
  ·exact Aj3 (h1.sg hw hc) h2 h3 (hP _ _ _ _ h4)
 ·cases hv:Ae i.op e σ with
  | none=>rw[hv]at h;exact h.elim
  | some p=>
   obtain⟨v,σ1⟩:=p;rw[hv]at h;simp only[r2,F0]at h;unfold Ja at h
   split at h
   ·rename_i hk;obtain⟨rfl,hall⟩:=Wn (A0g (T:=T) (pr:=pr) hk) hv;exact Av0 hw hall (hP _ _ _ _ h)
   ·rename_i hk;obtain rfl:=A0h hk hv;exact Azc hw hv h.1 (hP _ _ _ _ h.2)
   ·exact Av1 hw hv h.1 h.2.1 (hP _ _ _ _ h.2.2)
theorem Pr:∀ (l:List AI) (m:Nat) (e:Env) (σ:St) (fs:Fs) (ls:Ls),wg T pr deps n kill k Q m l e σ fs ls->WG T pr deps n m l e σ fs ls fun e1 σ1=>W T pr k (e1.del kill) σ1 Q
 | [],m,e,σ,fs,ls,h=>Avz h
 | i::l,m,e,σ,fs,ls,h=>by
  unfold wg at h;unfold Hp at h
  split at h
  ·rename_i hg;refine Aj4 (fun e σ fs ls=>Pr l (m+1) e σ fs ls) ?_ h;simp only[Option.map_eq_none_iff]at hg;unfold Cg;rw[hg]
  ·rename_i b hg;obtain⟨p,hp,hb⟩:=Bm.1 hg
   split at h
   ·rename_i hbw;refine Aj4 (fun e σ fs ls=>Pr l (m+1) e σ fs ls) ?_ h;unfold Cg;obtain⟨t,w⟩:=p;rw[hp]at hbw ⊢;simp only at hb;simp only[hb];simp at hbw;simp[hbw]
   ·rename_i hbw;refine X6 (fun s=>.off ?_) (Pr l (m+1) _ _ _ _ h);unfold Cg;obtain⟨t,w⟩:=p;rw[hp]at hbw ⊢;simp only at hb;simp only[hb];simp at hbw;simp[hbw]
  ·rename_i hg;obtain⟨p,hp,hb⟩:=Bm.1 hg;refine X6 (fun s=>.off ?_) (Pr l (m+1) _ _ _ _ h);unfold Cg;obtain⟨t,w⟩:=p;rw[hp];simp only at hb;simp only[hb]
  ·exact h.elim
theorem Ag{ops:List AI}(hst:K8 deps ops=true)(h:wg T pr deps ops.length kill k Q 0 ops e σ [] []):W T pr (.c (.drw kill deps ops)::k) e σ Q:=
 Avy hst fun _ hK=>by
  obtain⟨e',σ',h,q⟩:=Pr _ _ _ _ _ _ h;exact⟨e',σ',h,hK _ _ q⟩
variable {m:Nat} {l:List AI} {fs:Fs} {ls:Ls} {K:Env->St->Fs->Ls->Prop}
theorem Awv:wg T pr deps n kill k Q m [] e σ fs ls=WE T pr (e.del kill) k σ Q:=Bh rfl
theorem A2b(d:Nat)(op:AO):wg T pr deps n kill k Q m (o d op::l) e σ fs ls=F0 T pr deps n m (o d op) (Az op e σ) e σ fs ls (wg T pr deps n kill k Q (m+1) l):=Bh rfl
theorem A0i(op:AO):wg T pr deps n kill k Q m (on op::l) e σ fs ls=F0 T pr deps n m (on op) (Az op e σ) e σ fs ls (wg T pr deps n kill k Q (m+1) l):=Bh rfl
theorem A0j(d:Nat)(op:AO)(t:Nat)(w:Bool):wg T pr deps n kill k Q m (og d op t w::l) e σ fs ls=Hp T pr deps n m (og d op t w) (some (e.get t)) w e σ fs ls (wg T pr deps n kill k Q (m+1) l):=Bh rfl
theorem A0k(op:AO)(t:Nat)(w:Bool):wg T pr deps n kill k Q m (oh op t w::l) e σ fs ls=Hp T pr deps n m (oh op t w) (some (e.get t)) w e σ fs ls (wg T pr deps n kill k Q (m+1) l):=Bh rfl
theorem A0l(d:Nat)(op:AO)(v:V)(σ1:St):F0 T pr deps n m (o d op) (.val v σ1) e σ fs ls K=Ja deps n m (o d op) (kd op) v σ1 e σ fs ls K:=Bh rfl
theorem Aww(op:AO)(v:V)(σ1:St):F0 T pr deps n m (on op) (.val v σ1) e σ fs ls K=Ja deps n m (on op) (kd op) v σ1 e σ fs ls K:=Bh rfl
theorem Awx(d:Nat)(op:AO)(t:Nat)(w:Bool)(v:V)(σ1:St):F0 T pr deps n m (og d op t w) (.val v σ1) e σ fs ls K=Ja deps n m (og d op t w) (kd op) v σ1 e σ fs ls K:=Bh rfl
theorem Awy(op:AO)(t:Nat)(w:Bool)(v:V)(σ1:St):F0 T pr deps n m (oh op t w) (.val v σ1) e σ fs ls K=Ja deps n m (oh op t w) (kd op) v σ1 e σ fs ls K:=Bh rfl
theorem Awz(d:Nat)(op:AO)(t:Nat):Hp T pr deps n m (og d op t true) (some (.bool true)) true e σ fs ls K=F0 T pr deps n m (og d op t true) (Az op e σ) e σ fs ls K:=Bh rfl
theorem Aw0(d:Nat)(op:AO)(t:Nat):Hp T pr deps n m (og d op t false) (some (.bool false)) false e σ fs ls K=F0 T pr deps n m (og d op t false) (Az op e σ) e σ fs ls K:=Bh rfl
theorem Aw1(d:Nat)(op:AO)(t:Nat):Hp T pr deps n m (og d op t false) (some (.bool true)) false e σ fs ls K=K (e.put d .skp) σ fs ls:=Bh rfl
theorem Aw2(d:Nat)(op:AO)(t:Nat):Hp T pr deps n m (og d op t true) (some (.bool false)) true e σ fs ls K=K (e.put d .skp) σ fs ls:=Bh rfl
theorem A0m(d:Nat)(op:AO)(t:Nat)(w:Bool):Hp T pr deps n m (og d op t w) (some .skp) w e σ fs ls K=K (e.put d .skp) σ fs ls:=Bh rfl
theorem Aw3(op:AO)(t:Nat):Hp T pr deps n m (oh op t true) (some (.bool true)) true e σ fs ls K=F0 T pr deps n m (oh op t true) (Az op e σ) e σ fs ls K:=Bh rfl
theorem Aw4(op:AO)(t:Nat):Hp T pr deps n m (oh op t false) (some (.bool false)) false e σ fs ls K=F0 T pr deps n m (oh op t false) (Az op e σ) e σ fs ls K:=Bh rfl
theorem Aw5(op:AO)(t:Nat):Hp T pr deps n m (oh op t false) (some (.bool true)) false e σ fs ls K=K e σ fs ls:=Bh rfl
theorem Aw6(op:AO)(t:Nat):Hp T pr deps n m (oh op t true) (some (.bool false)) true e σ fs ls K=K e σ fs ls:=Bh rfl
theorem A0n(op:AO)(t:Nat)(w:Bool):Hp T pr deps n m (oh op t w) (some .skp) w e σ fs ls K=K e σ fs ls:=Bh rfl
theorem Aw7{i:AI}(v:V)(σ1:St):Ja deps n m i .pu v σ1 e σ fs ls K=K (e.putO i.dst v) σ fs ls:=Bh rfl
theorem Aw8{i:AI}(v:V)(σ1:St):Ja deps n m i .rd v σ1 e σ [] ls K=K (e.putO i.dst v) σ [] ((m,fun s=>Ae i.op e s=some (v,s))::ls):=propext ⟨fun h=>h.2,fun h=>⟨trivial,h⟩⟩
theorem Aw9{i:AI}(v:V)(σ1:St):Ja deps n m i .ef v σ1 e σ [] [] K=K (e.putO i.dst v) σ1 [(m,σ,σ1)] []:=propext ⟨fun h=>h.2.2,fun h=>⟨trivial,trivial,h⟩⟩
end
/-! settled values go over as they are -/
def Da:V->Bool
 | .agg cs=>cs.all V.rowB
 | .imm _ _=>true
 | v=>v.rowB
theorem Tm{v:V}(h:v.rowB=true):v.refs=[]:=by cases v<;>simp[V.rowB]at h<;>rfl
theorem Iu:∀ {cs:List V},cs.all V.rowB=true->Aj cs=[]
 | [],_=>rfl
 | c::cs,h=>by
  simp only[Au,Af]at h;simp only[Aj,Tm h.1,Iu h.2,Cw]
theorem Qx{v:V}(h:Da v=true):v.refs=[]:=by
 unfold Da at h
 split at h
 ·exact Iu h
 ·rfl
 ·exact Tm h
theorem Tn:∀ {vs:List V},vs.all Da=true->Aj vs=[]
 | [],_=>rfl
 | c::cs,h=>by
  simp only[Au,Af]at h;simp only[Aj,Qx h.1,Tn h.2,Cw]
theorem O2{σ:St}{js:List Nat}{d:Nat}{v:V}(h:v.rowB=true):Fd σ js (d+1) v=some v:=by
 unfold Fd;rw[if_pos h]
theorem Pc{f:V->Option V}:∀ {cs:List V},(∀ c∈cs,f c=some c)->cs.mapM f=some cs
 | [],_=>rfl
 | c::cs,h=>by
  rw[Hs,h c Ec,Pc fun c hc=>h c (Dz _ hc)];rfl
theorem Tf{σ:St}{js:List Nat}{v:V}(h:Da v=true):F3 σ js v=some v:=by
 unfold Da at h
 split at h
 ·rename_i cs;simp only[F3];rw[Pc fun c hc=>O2 (Bd.1 h c hc)];rfl
 ·rfl
 ·rename_i h1 h2;unfold F3
  split
  ·exact absurd rfl (h2 _ _)
  ·exact absurd rfl (h1 _)
  ·exact O2 h
theorem Xd{σ:St}{vs:List V}(h:vs.all Da=true):C6 σ vs=some vs:=Pc fun c hc=>Tf (Bd.1 h c hc)
section
variable {Q:Env->St->Prop} {e:Env} {σ:St} {k:List It} {l:List AI} {kill:List Nat} {f:Nat} {vs:List V} {v:V} {d:Option Nat}
theorem Ad(hf:Fn T pr f vs v)(hs:vs.all Da=true)(h:WR T pr l kill k (e.putO d v) σ Q):WX T pr (.call f vs) d l kill k e σ Q:=
 Lq (.pure (Xd hs) hf) (by rw[Qv (Tn hs)];exact h)
theorem E6{s:List V->Option V}(hp:pr f=some s)(hs:vs.all Da=true)(hv:s vs=some v)(h:WR T pr l kill k (e.putO d v) σ Q):WX T pr (.call f vs) d l kill k e σ Q:=
 Lq (.prim hp (Xd hs) hv) (by rw[Qv (Tn hs)];exact h)
theorem B5{σ1:St}(hf:Th T pr f vs σ v σ1)(h:WR T pr l kill k (e.putO d v) σ1 Q):WX T pr (.call f vs) d l kill k e σ Q:=Lq (.thr hf) h
theorem Ac{σ1:St}(hf:Bp T pr f vs σ v σ1)(h:WR T pr l kill k (e.putO d v) σ1 Q):WX T pr (.call f vs) d l kill k e σ Q:=Lq (.any hf) h
variable {deps:List (List Nat)} {n m:Nat} {fs:Fs} {ls:Ls} {K:Env->St->Fs->Ls->Prop} {i:AI}
theorem Bf(hf:Fn T pr f vs v)(hs:vs.all Da=true)(h:K (e.putO i.dst v) σ fs ls):F0 T pr deps n m i (.call f vs) e σ fs ls K:=.inl ⟨v,vs,Tn hs,Xd hs,.inr hf,h⟩
theorem X7{σ1:St}(hf:Th T pr f vs σ v σ1)(h1:M8 deps n m fs)(h2:M9 deps n m σ σ1 ls)(h:K (e.putO i.dst v) σ1 ((m,σ,σ1)::fs) ls):F0 T pr deps n m i (.call f vs) e σ fs ls K:=.inr (.inr ⟨v,σ1,.thr hf,h1,h2,h⟩)
end
/-! ends -/
def FR(v0:V)(σ1:St)(v:V):Prop:=(Cc v0=true/\v0.refs=[]/\Dw [] v0=some v)\/∃ js,Gs 0 js v0 σ1=true/\Dw ((js.filterMap (σ1[·]?)).map (Ob.ren (ren 0 js))) (v0.ren (ren 0 js))=some v
def FL(o:Option V)(σ1:St)(v:V):Prop:=∃ v0,o=some v0/\FR v0 σ1 v
def FQ(res:List AR)(v:V)(e:Env)(σ:St):Prop:=FL (B6 e σ res) σ v
theorem Bn{f p:Nat}{res:List AR}{body:AC}{vs:List V}{v:V}(hT:T f=some ⟨p,res,false,body,none⟩)(hl:vs.length=p)(h:W T pr [.c body] (C2 0 vs) [] (FQ res v)):Fn T pr f vs v:=by
 obtain⟨e',σ',hE,v0,hr,h1 | ⟨js,h1,h2⟩⟩:=h
 ·exact Ag9 hT rfl rfl hl ⟨e',σ',hE,v0,hr,h1⟩
 ·exact Aoc hT rfl rfl hl ⟨e',σ',hE,v0,js,hr,h1,h2⟩
theorem A2c(r:AR)(v:V)(e:Env)(σ:St):FQ [r] v e σ=FL (Fe e σ r) σ v:=Bh rfl
theorem A2d(r s:AR)(v:V)(e:Env)(σ:St):FQ [r,s] v e σ=FL ((Fe e σ r).bind fun a=>(Fe e σ s).map fun b=>.tup [a,b]) σ v:=by
 simp only[FQ,B6,Hs,Wg]
 cases Fe e σ r with
 | none=>rfl
 | some a=>cases Fe e σ s<;>rfl
theorem A2e(r s t:AR)(v:V)(e:Env)(σ:St):FQ [r,s,t] v e σ=FL ((Fe e σ r).bind fun a=>(Fe e σ s).bind fun b=>(Fe e σ t).map fun c=>.tup [a,b,c]) σ v:=by
 simp only[FQ,B6,Hs,Wg]
 cases Fe e σ r with
 | none=>rfl
 | some a=>
  cases Fe e σ s with
  | none=>rfl
  | some b=>cases Fe e σ t<;>rfl
theorem Atk(v0 v:V)(σ:St):FL (some v0) σ v=FR v0 σ v:=propext ⟨fun⟨_,h,q⟩=>by cases h;exact q,fun h=>⟨_,rfl,h⟩⟩
theorem Uh{v:V}(h:Da v=true):Hh v=true:=by
 unfold Da at h
 split at h
 ·rename_i cs;simp only[Hh];rw[Bd]at h ⊢;intro c hc;have:=h c hc
  cases c<;>simp[V.rowB]at this<;>rfl
 ·rfl
 ·cases v<;>simp[V.rowB]at h<;>rfl
theorem Ek{v:V}{σ:St}(h:Da v=true):FR v σ v:=by
 refine .inl ⟨?_,Qx h,?_⟩
 ·cases v with
  | tup vs=>simp[Da,V.rowB]at h
  | _=>exact Uh h
 ·unfold Dw Ic
  split
  ·simp[Da,V.rowB]at h
  ·exact Tf h
theorem Ie{vs:List V}{σ:St}(h:vs.all Da=true):FR (.tup vs) σ (.tup vs):=by
 refine .inl ⟨?_,Tn h,?_⟩
 ·simp only[Cc];rw[Bd]at h ⊢;exact fun c hc=>Uh (h c hc)
 ·simp only[Dw,Ic];rw[Pc fun c hc=>Tf (Bd.1 h c hc)];rfl
theorem An{v v':V}{σ:St}(h:Da v=true)(he:v=v'):FR v σ v':=he ▸ Ek h
def TQ(res:List AR)(σ:St)(v:V)(σ':St)(e:Env)(σ1:St):Prop:=B6 e σ1 res=some v/\Ads σ.length σ v σ1/\σ'=σ1.take σ.length
theorem Ca{keep:List Nat}{c c':AC}{k:List It}{e:Env}{σ:St}{Q:Env->St->Prop}(hc:c=c')(h:WE T pr (e.keep keep) (.c c'::.l keep c::k) σ Q):W T pr (.l keep c::k) e σ Q:=by
 subst hc;rw[Ath];exact h
section
variable {deps:List (List Nat)} {n m:Nat} {e:Env} {σ:St} {fs:Fs} {ls:Ls} {K:Env->St->Fs->Ls->Prop} {i:AI}
@[congr] theorem A3k {r r':Rs} (h:r=r'):F0 T pr deps n m i r e σ fs ls K=F0 T pr deps n m i r' e σ fs ls K:=by rw[h]
@[congr] theorem A3l {g g':Option V} {w:Bool} (h:g=g'):Hp T pr deps n m i g w e σ fs ls K=Hp T pr deps n m i g' w e σ fs ls K:=by rw[h]
@[congr] theorem A3m {z z':Kd} {v:V} {σ1:St} (h:z=z'):Ja deps n m i z v σ1 e σ fs ls K=Ja deps n m i z' v σ1 e σ fs ls K:=by rw[h]
end
variable {T:Nat->Option AF} {pr:Nat->Option (List V->Option V)}
def TR(v0:V)(σ:St)(v:V)(σ' σ1:St):Prop:=v0=v/\Ads σ.length σ v σ1/\σ'=σ1.take σ.length
theorem Axa(a b:Nat)(l:List Nat):List.elem a (b::l)=if a=b then true else List.elem a l:=by
 by_cases h:a=b
 ·simp[h]
 ·simp[h]
theorem Axb(a:Nat):List.elem a []=false:=rfl
theorem A0o(m n:Nat)(u v:V)(r:Env):Env.put ((m,u)::r) n v=if m=n then(n,v)::r else(m,u)::Env.put r n v:=Bh rfl
theorem A0p(n:Nat)(v:V):Env.put [] n v=[(n,v)]:=Bh rfl
theorem A0q(m:Nat)(u:V)(r:Env)(ks:List Nat):Env.del ((m,u)::r) ks=if ks.elem m=true then Env.del r ks else(m,u)::Env.del r ks:=Bh rfl
theorem A0r(ks:List Nat):Env.del [] ks=[]:=Bh rfl
theorem Axc(e:Env)(n:Nat)(ks:List Nat):e.keep (n::ks)=(n,e.get n)::e.keep ks:=Bh rfl
theorem Axd(e:Env):e.keep []=[]:=Bh rfl
theorem A0s(n:Nat):Env.get [] n=.und:=rfl
section
variable {Q:Env->St->Prop} {e:Env} {σ:St} {k:List It} {l:List AI} {kill:List Nat}
theorem A0t(d:Option Nat)(op:AO):WD T pr (.bool true) true d op l kill k e σ Q=WX T pr (Az op e σ) d l kill k e σ Q:=Bh rfl
theorem A0u(d:Option Nat)(op:AO):WD T pr (.bool false) false d op l kill k e σ Q=WX T pr (Az op e σ) d l kill k e σ Q:=Bh rfl
theorem A0v(d:Option Nat)(op:AO):WD T pr (.bool true) false d op l kill k e σ Q=WR T pr l kill k (e.putO d .skp) σ Q:=Bh rfl
theorem A0w(d:Option Nat)(op:AO):WD T pr (.bool false) true d op l kill k e σ Q=WR T pr l kill k (e.putO d .skp) σ Q:=Bh rfl
end
theorem A0x(d:Nat)(op:AO):(o d op).dst=some d:=rfl
theorem Axe(op:AO):(on op).dst=none:=rfl
theorem Axf(d:Nat)(op:AO)(t:Nat)(w:Bool):(og d op t w).dst=some d:=rfl
theorem Axg(op:AO)(t:Nat)(w:Bool):(oh op t w).dst=none:=rfl
def P7(o:Option Ob)(g n:Nat)(one:Bool)(off:Nat):Option V:=
 match o with
 | some (.row cs _ g' _)=>if g=g'/\off+n<=cs.length then Fq one ((cs.drop off).take n) else none
 | _=>none
theorem A0y(cs:List V)(e g' z g n:Nat)(one:Bool)(off:Nat):P7 (some (.row cs e g' z)) g n one off=if g=g'/\off+n<=cs.length then Fq one ((cs.drop off).take n) else none:=Bh rfl
theorem Axh(σ:St)(n:Nat)(one:Bool)(i g off:Nat):Gy σ n one (.ptr i g off)=P7 σ[i]? g n one off:=Bh rfl
theorem Axi(σ:St)(n:Nat)(one:Bool)(row:List V)(off:Nat):Gy σ n one (.imm row off)=if off+n<=row.length then Fq one ((row.drop off).take n) else none:=Bh rfl
def Vj(o:Option Ob)(σ:St)(n i g off:Nat)(v:V):Option (V × St):=
 match o with
 | some (.row cs e g' z)=>if g=g'/\z<=off/\v.cells.length=n/\v.cells.all V.cellB=true then(Ly cs off v.cells).map fun cs'=>(.und,σ.set i (.row cs' e g z)) else none
 | _=>none
theorem Axj(cs:List V)(e g' z:Nat)(σ:St)(n i g off:Nat)(v:V):Vj (some (.row cs e g' z)) σ n i g off v=if g=g'/\z<=off/\v.cells.length=n/\v.cells.all V.cellB=true then(Ly cs off v.cells).map fun cs'=>(.und,σ.set i (.row cs' e g z)) else none:=Bh rfl
theorem Alg(σ:St)(n i g off:Nat)(v:V):Y8 n (.ptr i g off) v σ=Vj σ[i]? σ n i g off v:=by
 simp only[Y8,Mr,Vj]
 cases σ[i]? with
 | none=>rfl
 | some ob=>
  cases ob with
  | row cs e g' z=>
   simp only
   split
   ·cases Ly cs off v.cells<;>rfl
   ·rfl
  | _=>rfl
theorem A0z:P0 .nils=some (.int .i64 0):=rfl
theorem A00(t:Nat)(xs:List (List V)):P0 (.lst t xs)=some (.int .i64 (xs.length:Int)):=rfl
theorem A01(i g off len m:Nat)(w:Bool):P0 (.sl i g off len m w)=some (.int .i64 (len:Int)):=rfl
theorem A02(m t:Nat)(xs:List (List V))(i:V):M6 m (.lst t xs) i=(Hn xs i).bind fun r=>if r.length=m then some (.imm r 0) else none:=Bh rfl
theorem A03(m j g off len m':Nat)(w:Bool)(k:IntKind)(n:Int):M6 m (.sl j g off len m' w) (.int k n)=if 0<=n/\n<len/\m=m' then some (.ptr j g (off+n.toNat*m)) else none:=Bh rfl
theorem A04(off:Nat)(r:List V)(o:Nat):Y9 off (.imm r o)=some (.imm r (o+off)):=Bh rfl
theorem A05(off b g o:Nat):Y9 off (.ptr b g o)=some (.ptr b g (o+off)):=Bh rfl
theorem A06(off n:Nat)(one:Bool)(cs:List V):Ad1 off n one (.agg cs)=if off+n<=cs.length then Fq one ((cs.drop off).take n) else none:=Bh rfl
theorem Atl(k:IntKind)(n:Int):V.cells (.int k n)=[.int k n]:=rfl
theorem Atm(l:List UInt8):V.cells (.str l)=[.str l]:=rfl
theorem Atn(b:Bool):V.cells (.bool b)=[.bool b]:=rfl
theorem Ato:V.cells .nils=[.nils]:=rfl
theorem Atp(t:Nat)(xs:List (List V)):V.cells (.lst t xs)=[.lst t xs]:=rfl
theorem Ap4(i g o l m:Nat)(w:Bool):V.cells (.sl i g o l m w)=[.sl i g o l m w]:=rfl
theorem Atq(i g o:Nat):V.cells (.ptr i g o)=[.ptr i g o]:=rfl
theorem Ap5:V.cells .nilp=[.nilp]:=rfl
theorem Aoi(r:List V)(o:Nat):V.cells (.imm r o)=[.imm r o]:=rfl
theorem Ap6(f:Nat)(a c:List V):V.cells (.fn f a c)=[.fn f a c]:=rfl
theorem Ap7(i:Nat):V.cells (.mp i)=[.mp i]:=rfl
theorem Atr(cs:List V):V.cells (.agg cs)=cs:=rfl
theorem Axk(σ:St)(m:Nat):Ft σ m .nils=some []:=Bh rfl
theorem Axl(σ:St)(m t:Nat)(xs:List (List V)):Ft σ m (.lst t xs)=some xs:=Bh rfl
theorem mk1(c:V):Fq true [c]=some c:=rfl
theorem mkA(cs:List V):Fq false cs=some (.agg cs):=rfl
theorem Ats(s l:St)(n:Nat):(s++l)[s.length+n]?=l[n]?:=by rw[Cf (by omega)];congr 1;omega
theorem Ap8(s l:St):(s++l)[s.length]?=l[0]?:=by rw[Cf (by omega)];congr 1;omega
theorem Att(s l:St)(n:Nat)(x:Ob):(s++l).set (s.length+n) x=s++l.set n x:=by simp[List.set_append]
theorem Ap9(s l:St)(x:Ob):(s++l).set s.length x=s++l.set 0 x:=by simp[List.set_append]
theorem Atu{α:Type}(l:List α)(k:IntKind)(n:Nat):Hn l (.int k (n:Int))=l[n]?:=by
 simp only[Hn];rw[if_pos (by omega),Mf]
theorem Ef{n:Int}(h : -9223372036854775808<=n/\n<=9223372036854775807):IntKind.i64.wrap n=n:=Go.IntWalk.i64_in _ h
theorem Atv{n:Int}(h1 : -9223372036854775808<=n)(h2:n<=9223372036854775807):IntKind.i64.wrap n=n:=Ef ⟨h1,h2⟩
theorem A2f(t:Nat)(v:V)(σ σ' σ1:St)(e:Env):TQ [.tmp t] σ v σ' e σ1=TR (e.get t) σ v σ' σ1:=Bh (propext ⟨fun⟨h1,h2⟩=>⟨Nh h1,h2⟩,fun⟨h1,h2⟩=>⟨congrArg some h1,h2⟩⟩)
theorem Bg{i:Nat}(h:i<9223372036854775807):IntKind.i64.wrap ((i:Int)+1)=((i+1:Nat):Int):=by rw[Ef (by omega)];rfl
theorem B7{i n:Nat}(h:i<n):decide ((i:Int)<(n:Int))=true:=by simpa using h
theorem Cr{i n:Nat}(h:n<=i):decide ((i:Int)<(n:Int))=false:=by simpa using h
theorem Dd{α:Type}{l:List α}{i:Nat}(h:i<l.length):∃ x,l[i]?=some x/\l.drop i=x::l.drop (i+1)/\x∈l:=⟨l[i],A0 h,Je h,Fa h⟩
theorem B9{keep:List Nat}{c:AC}{k:List It}{Q:Env->St->Prop}{α:Type}(μ:α->Nat)(E:α->Env)(Z:α->St)(I:α->Prop)
  (h:∀ a,I a->(∀ b,μ b<μ a->I b->W T pr (.l keep c::k) (E b) (Z b) Q)->W T pr (.l keep c::k) (E a) (Z a) Q):∀ a,I a->W T pr (.l keep c::k) (E a) (Z a) Q:=by
 suffices ∀ n a,μ a=n->I a->W T pr (.l keep c::k) (E a) (Z a) Q from fun a=>this _ a rfl
 intro n
 induction n using Nat.strongRecOn with
 | _ n ih=>exact fun a hm hI=>h a hI fun b hb=>ih (μ b) (hm ▸ hb) b rfl
theorem A2g(cs:List V):Da (.agg cs)=cs.all V.rowB:=rfl
theorem A2h(r:List V)(o:Nat):Da (.imm r o)=true:=rfl
theorem Al6(k:IntKind)(n:Int):Da (.int k n)=true:=rfl
theorem A2i(l:List UInt8):Da (.str l)=true:=rfl
theorem A2j(b:Bool):Da (.bool b)=true:=rfl
theorem A2k:Da .nils=true:=rfl
theorem A2l:Da .nili=true:=rfl
theorem A2m(t:Nat)(xs:List (List V)):Da (.lst t xs)=true:=rfl
/-! settled slices -/
def SL(z:Bool)(t:Nat)(xs:List (List V)):V:=if z=true/\xs=[] then .nils else .lst t xs
theorem K4(z:Bool)(t:Nat)(xs:List (List V)):(SL z t xs).rowB=true:=by unfold SL;split<;>rfl
theorem Abr(z:Bool)(t:Nat)(xs:List (List V)):(SL z t xs).cellB=true:=by unfold SL;split<;>rfl
theorem Axm(z:Bool)(t:Nat)(xs:List (List V)):Da (SL z t xs)=true:=by unfold SL;split<;>rfl
theorem Aqa(z:Bool)(t:Nat)(xs:List (List V)):(SL z t xs).cells=[SL z t xs]:=by unfold SL;split<;>rfl
theorem Axn(z:Bool)(t:Nat)(xs:List (List V)):P0 (SL z t xs)=some (.int .i64 (xs.length:Int)):=by
 unfold SL
 split
 ·rename_i h;rw[h.2];rfl
 ·rfl
theorem Axo(z:Bool)(t:Nat)(xs:List (List V))(m:Nat)(i:V):M6 m (SL z t xs) i=(Hn xs i).bind fun r=>if r.length=m then some (.imm r 0) else none:=by
 unfold SL
 split
 ·rename_i h;rw[h.2]
  cases i<;>simp[M6,Hn]
 ·rfl
theorem Atw(z:Bool)(t:Nat)(xs:List (List V))(σ:St)(m:Nat):Ft σ m (SL z t xs)=some xs:=by
 unfold SL
 split
 ·rename_i h;rw[h.2];rfl
 ·rfl
attribute [go_sem] Nat.reduceEqDiff reduceIte Nat.reduceAdd Nat.reduceMul Nat.reduceLeDiff Int.reduceLT Int.reduceLE Int.reduceToNat Int.reduceAdd Int.reduceNeg Int.reduceEq
attribute [go_sem ↓] Ac6 Awo Ald A0a Awp Ale A0b A0c Awq Awr A17 A18 A19 Aws A2a A0d A0e A0f Awv A2b A0i A0j A0k Azj Azk get_put Ap2 Aog Aoh A2c A2d A2e A2f
attribute [go_sem ↓] Atu Azl Awe Azm Azn Ate Awf Awg Awh A12 Awi Atf Azo Azp A13 A14 Azq Azr Azs Azt Azu Awj Azv Awk Azw Azx Azy Azz Az0 Az1 Az2 Az3 Awl Az4 Az5 Awm A15 A16 Az6 Az7 Az8 Az9 Awn Atg
attribute [go_sem] we Awt Ati Awu A0t A0u A0v A0w Atj Ap3 Ata Atb Atc Atd A0l Aww Awx Awy Awz Aw0 Aw1 Aw2 A0m Aw3 Aw4 Aw5 Aw6 A0n Aw7 Aw8 Aw9 kd Atk
attribute [go_sem] A0s A0o A0p A0q A0r Axc Axd Axa Axb C2 Fe
attribute [go_sem] Vi Adq Ai Zj Ac3 Al2 mkV Adv Adw J1 eqB Adm Adn Ado Adp Adx Ady Adz Al3 Ad0 Ac4 Y5 Oj Dm Ad2 Ad3 Ad4 Ad5 Ac5 mxV mnV Ad6 Ad7 Al4 Ad8 mk1 mkA Ly Gf Em A2g A2h Al6 A2i A2j A2k A2l A2m Av2 Av4 As0 As2 As4 Av6 Av8 Azd As6 As8 Awa Awc Azf Azh Av3 Av5 As1 As3 As5 Av7 Av9 Aze As7 As9 Awb Awd Azg Azi decide_true decide_false gt_iff_lt ge_iff_le ne_eq not_false_eq_true not_true_eq_false A0x Axe Axf Axg A0y Axh Axi Axj Alg A0z A00 A01 A02 A03 A04 A05 A06 Atl Atm Atn Ato Atp Ap4 Atq Ap5 Aoi Ap6 Ap7 Atr Axk Axl
attribute [go_sem] Ats Ap8 Att Ap9 Hn Atv K4 Abr Axm Aqa Axn Axo Atw
attribute [go_sem] Ha Option.map_none Cz Option.bind_none Ba Bs Au A1 S8 Z5 Z6 and_self and_true true_and eq_self Am Cx Ao O0 List.drop_succ_cons List.take_zero V3 Ox Es E4 Cw Vz Sx List.set_cons_zero Zv List.replicate E9 Zz Ez Lj Aab Nat.one_mul Wo Er Bool.true_eq_false Ap Av Bool.bne_false Bool.bne_true if_true if_false ite_true ite_false Mf Cp
variable {T:Nat->Option AF} {pr:Nat->Option (List V->Option V)}
theorem Q4(σ:St):∀ (d:Nat) (js:List Nat) (i:Nat),i∈js->i∈E3 σ d js
 | 0,_,_,h=>h
 | d+1,js,i,h=>by
  simp only[E3]
  split
  ·exact h
  ·exact Q4 σ d _ i (Ov _ h)
def OC(σ:St)(v v':V):Prop:=∀ js:List Nat,(∀ i∈v.refs,i∈js)->∀ d,Fd σ js (d+2) v=some v'
def OV(σ:St)(v v':V):Prop:=∀ js:List Nat,(∀ i∈v.refs,i∈js)->F3 σ js v=some v'
inductive OVs (σ:St):List V->List V->Prop
 | nil:OVs σ [] []
 | cons {v v':V} {vs vs':List V}:OV σ v v'->OVs σ vs vs'->OVs σ (v::vs) (v'::vs')
inductive OCs (σ:St):List V->List V->Prop
 | nil:OCs σ [] []
 | cons {v v':V} {vs vs':List V}:OC σ v v'->OCs σ vs vs'->OCs σ (v::vs) (v'::vs')
theorem Ui{σ:St}{js:List Nat}:∀ {vs vs':List V},OVs σ vs vs'->(∀ i∈Aj vs,i∈js)->vs.mapM (F3 σ js)=some vs'
 | _,_,.nil,_=>rfl
 | _,_,.cons h hs,hj=>by
  simp only[Aj,Cq]at hj;rw[Hs,h js fun i hi=>hj i (.inl hi),Ui hs fun i hi=>hj i (.inr hi)];rfl
theorem Aiy{σ:St}{js:List Nat}{d:Nat}:∀ {vs vs':List V},OCs σ vs vs'->(∀ i∈Aj vs,i∈js)->vs.mapM (Fd σ js (d+2))=some vs'
 | _,_,.nil,_=>rfl
 | _,_,.cons h hs,hj=>by
  simp only[Aj,Cq]at hj;rw[Hs,h js (fun i hi=>hj i (.inl hi)) d,Aiy hs fun i hi=>hj i (.inr hi)];rfl
theorem Aiz{σ:St}{vs vs':List V}(h:OVs σ vs vs'):C6 σ vs=some vs':=Ui h fun i hi=>Q4 σ 9 _ i (V7.2 hi)
theorem Hj{σ:St}{v:V}(h:v.rowB=true):OC σ v v:=fun _ _ _=>O2 h
theorem Ig{σ:St}{v:V}(h:Da v=true):OV σ v v:=fun _ _=>Tf h
theorem Uv{σ:St}{cs cs':List V}(h:OCs σ cs cs'):OV σ (.agg cs) (.agg cs'):=fun js hj=>by
 simp only[F3];rw[Aiy (d:=7) h hj];rfl
theorem Xo{σ:St}{v v':V}(h:OC σ v v')(hc:v.cellB=true):OV σ v v':=fun js hj=>by
 unfold F3
 split
 ·have:=h js hj 0;simp[Fd,V.rowB]at this
 ·simp[V.cellB]at hc
 ·exact h js hj 7
theorem Aat(m:Nat):∀ (xs:List (List V)) (tl:List V),(∀ r∈xs,r.length=m)->Em m xs.length (xs.flatten++tl)=xs
 | [],_,_=>rfl
 | r::xs,tl,h=>by
  have hr:=h r Ec;simp only[Am,Em,E9,E4];rw[<-hr,S6,List.drop_left];congr 1;rw[hr];exact Aat m xs tl fun r hr=>h r (Dz _ hr)
theorem Aai{m:Nat}{xs:List (List V)}(h:∀ r∈xs,r.length=m):Em m xs.length xs.flatten=xs:=by
 have:=Aat m xs [] h
 rwa [Cw]at this
theorem J7{m:Nat}:∀ {xs:List (List V)},(∀ r∈xs,r.length=m)->xs.flatten.length=xs.length*m
 | [],_=>by simp
 | r::xs,h=>by
  rw[E9,Ao,h r Ec,J7 fun r hr=>h r (Dz _ hr),Am,D9,Wk]
theorem U9{σ:St}{i g m e z:Nat}{w:Bool}{xs:List (List V)}(ho:σ[i]?=some (.row xs.flatten e g z))(hm:0<m)(hl:∀ r∈xs,r.length=m)(hr:∀ r∈xs,r.all V.rowB=true):OC σ (.sl i g 0 xs.length m w) (.lst 0 xs):=by
 intro js hj d
 have hi:js.elem i=true:=by
  have:=hj i (by simp[V.refs]);simpa using this
 have hf:=J7 hl;unfold Fd;rw[if_neg (by simp[V.rowB])];simp only[hi,if_true,ho];rw[if_pos ⟨trivial,hm,by omega⟩,O0,<-hf,Dc,Pc fun c hc=>?_]
 ·simp only[Ha,Aai hl]
 ·obtain⟨r,hrx,hcr⟩:=Wc.1 hc;exact O2 (Bd.1 (hr r hrx) c hcr)
section
variable {Q:Env->St->Prop} {e:Env} {σ:St} {k:List It} {l:List AI} {kill:List Nat} {f:Nat} {args vs:List V} {v:V} {d:Option Nat}
theorem Alh(hx:OVs σ args vs)(hf:Fn T pr f vs v)(hfl:v.flatV=true)(h:WR T pr l kill k (e.putO d v) σ Q):WX T pr (.call f args) d l kill k e σ Q:=
 Lq (.pure (Aiz hx) hf) (by unfold after;rw[if_pos hfl];exact h)
variable {deps:List (List Nat)} {n m:Nat} {fs:Fs} {ls:Ls} {K:Env->St->Fs->Ls->Prop} {i:AI}
theorem Acb(hx:OVs σ args vs)(hf:Fn T pr f vs v)(hfl:v.flatV=true)(h:K (e.putO i.dst v) σ [] ((m,fun s=>C6 s args=some vs)::ls)):F0 T pr deps n m i (.call f args) e σ [] ls K:=
 .inr (.inl ⟨v,vs,Aiz hx,.inr hf,hfl,trivial,h⟩)
end
/-! code that ends where it ends: the rest is apart -/
def AC.flat:AC->Bool
 | .skip | .reg _ _ | .drw _ _ _=>true
 | .seq a b=>a.flat&&b.flat
 | .cond _ _ x y=>x.flat&&y.flat
 | _=>false
def Hd(P:Env->St->Prop)(e:Env)(σ:St):Prop:=P e σ
@[congr] theorem A3s {P:Env->St->Prop} {e e':Env} {σ:St} (h:e=e'):Hd P e σ=Hd P e' σ:=by rw[h]
/-! lists that grow: nil, or a slice of an object of their own that they fill -/
def GV(σ:St)(m e lo:Nat)(u:V)(xs:List (List V)):Prop:=(u=.nils/\xs=[])\/∃ i g,u=.sl i g 0 xs.length m true/\σ[i]?=some (.row xs.flatten e g 0)/\lo<=i
theorem Axp{σ:St}{m e lo:Nat}:GV σ m e lo .nils []:=.inl ⟨rfl,rfl⟩
theorem Ai0{σ:St}{m e lo:Nat}{u:V}{xs:List (List V)}(h:GV σ m e lo u xs):u.cellB=true:=by
 rcases h with⟨rfl,rfl⟩ | ⟨i,g,rfl,ho,hlo⟩<;>rfl
theorem Aj5{σ:St}{m e lo bytes:Nat}{u y:V}{xs ys:List (List V)}(h:GV σ m e lo u xs)(hlo0:lo<=σ.length)(hy:Ft σ m y=some ys)(hm:0<m)(hl:∀ r∈xs,r.length=m)(hly:∀ r∈ys,r.length=m)(hb:(xs.length+ys.length)*bytes<=140737488355328):
  ∃ u' σ',Eu bytes (m,e) u y σ=some (u',σ')/\GV σ' m e lo u' (xs++ys)/\σ.length<=σ'.length/\(∀ j,(∀ i g,u=.sl i g 0 xs.length m true->j≠i)->j<σ.length->σ'[j]?=σ[j]?)/\∀ j,j<lo->σ'[j]?=σ[j]?:=by
 have hall:(ys.all fun r=>r.length==m)=true:=by
  rw[Bd];intro r hr;simp[hly r hr]
 unfold Eu;simp only[hy,Cz];unfold I5;rw[if_pos ⟨hall,hm⟩];rcases h with⟨rfl,rfl⟩ | ⟨i,g,rfl,ho,hlo⟩
 ·simp only;rw[if_pos (by simpa using hb)]
  cases ys with
  | nil=>exact⟨.nils,σ,rfl,.inl ⟨rfl,rfl⟩,Ah _,fun _ _ _=>rfl,fun _ _=>rfl⟩
  | cons y ys=>exact⟨_,_,rfl,.inr ⟨σ.length,0,rfl,by simp,hlo0⟩,by simp,fun j _ hj=>Co hj,fun j hj=>Co (by omega)⟩
 ·simp only;rw[if_pos ⟨hb,trivial⟩];simp only[ho,if_true]
  cases ys with
  | nil=>exact⟨_,σ,rfl,.inr ⟨i,g,by simp,by simpa using ho,hlo⟩,Ah _,fun _ _ _=>rfl,fun _ _=>rfl⟩
  | cons y ys=>
   have hf:=J7 hl;have hfy:=J7 hly;have hfy2:(y::ys).flatten.length=(ys.length+1)*m:=by rw[hfy];rfl
   rw[if_neg (by simp),if_pos (by simp),if_neg (by
    rw[hf];have:(xs.length+(y::ys).length)*m=xs.length*m+(ys.length+1)*m:=by rw[Am,Lk]
    rw[this];have:0<(ys.length+1)*m:=Nat.mul_pos (by omega) hm
    omega),if_pos hf]
   refine⟨_,_,rfl,.inr ⟨i,g+1,by rw[Ao],?_,hlo⟩,by simp,fun j hj _=>?_,fun j hj=>by rw[Bc (by omega)]⟩
   ·have hi:i<σ.length:=by
     rcases Bx i σ.length with h | h
     ·exact h
     ·rw[Ou h]at ho;cases ho
    rw[B8 hi,List.flatten_append]
   ·have:=hj i g rfl;rw[Bc (by omega)]
theorem Axq{v:V}(h:v.cellB=true):v.cells=[v]:=by cases v<;>simp[V.cellB]at h<;>rfl
theorem Br{s l:St}{j:Nat}{x:Ob}(h:s[j]?=some x):(s++l)[j]?=some x:=by
 have hi:j<s.length:=by
  rcases Bx j s.length with h1 | h1
  ·exact h1
  ·rw[Ou h1]at h;cases h
 rw[Co hi,h]
theorem J9{xs:List (List V)}(hr:∀ r∈xs,r.all V.rowB=true):xs.flatten.all V.rowB=true:=by
 rw[Bd];intro c hc;obtain⟨r,hrx,hcr⟩:=Wc.1 hc;exact Bd.1 (hr r hrx) c hcr
theorem Acc(i:Nat):∀ cs:List V,cs.all V.rowB=true->Gk (ren 0 [i]) cs=cs
 | [],_=>rfl
 | c::cs,h=>by
  simp only[Au,Af]at h;simp only[Gk];rw[Acc i cs h.2];congr 1
  cases c<;>simp[V.rowB]at h<;>rfl
theorem Iw:∀ a b:List V,Aj (a++b)=Aj a++Aj b
 | [],_=>rfl
 | c::a,b=>by simp only[Ox,Aj,Iw a b,E4]
theorem Aj6{cs:List V}(h:cs.all V.rowB=true):cs.all V.cellB=true:=by
 rw[Bd]at h ⊢;intro c hc;have:=h c hc
 cases c<;>simp[V.rowB]at this<;>rfl
theorem Ali{σ:St}{m e i g:Nat}{xs:List (List V)}(ho:σ[i]?=some (.row xs.flatten e g 0))(hm:0<m)(hl:∀ r∈xs,r.length=m)(hr:∀ r∈xs,r.all V.rowB=true):FR (.sl i g 0 xs.length m true) σ (.lst 0 xs):=by
 obtain⟨hi,ho'⟩:=Ar.1 ho;have hx:Aj xs.flatten=[]:=Iu (J9 hr);have h0:ren 0 [i] i=0:=by simp[ren,List.findIdx_cons]
 refine .inr ⟨[i],?_,?_⟩
 ·simp[Gs,Cc,Hh,V.cellB,V.refs,D7,ho',Ob.refs,hx,hi]
 ·simp only[Jh,ho,V6,Ba,Bs,Ob.ren,Acc i _ (J9 hr),V.ren,h0];simp only[Dw,Ic,F3];exact U9 (σ:=[.row xs.flatten e g 0]) (i:=0) (g:=g) (e:=e) (z:=0) (w:=true) rfl hm hl hr (E3 [.row xs.flatten e g 0] 9 (V.refs (.sl 0 g 0 xs.length m true)).eraseDups) (fun j hj=>Q4 _ _ _ _ (V7.2 hj)) 7
def GW(σ:St)(m e lo:Nat)(u:V)(xs:List (List V)):Prop:=(u=.nils/\xs=[])\/(xs≠[]/\∃ i g,u=.sl i g 0 xs.length m true/\σ[i]?=some (.row xs.flatten e g 0)/\lo<=i)
theorem F4{σ:St}{m e lo:Nat}:GW σ m e lo .nils []:=.inl ⟨rfl,rfl⟩
theorem Alj{σ:St}{m e lo:Nat}{u:V}{xs:List (List V)}(h:GW σ m e lo u xs):GV σ m e lo u xs:=h.imp id fun h=>h.2
theorem D2{σ:St}{m e lo:Nat}{u:V}{xs:List (List V)}(h:GW σ m e lo u xs):u.cellB=true:=Ai0 (Alj h)
theorem Pj{σ:St}{m e lo bytes:Nat}{u y:V}{xs ys:List (List V)}(h:GW σ m e lo u xs)(hlo0:lo<=σ.length)(hy:Ft σ m y=some ys)(hm:0<m)(hl:∀ r∈xs,r.length=m)(hly:∀ r∈ys,r.length=m)(hb:(xs.length+ys.length)*bytes<=140737488355328):
  ∃ u' σ',Eu bytes (m,e) u y σ=some (u',σ')/\GW σ' m e lo u' (xs++ys)/\σ.length<=σ'.length/\(∀ j,(∀ i g,u=.sl i g 0 xs.length m true->j≠i)->j<σ.length->σ'[j]?=σ[j]?)/\∀ j,j<lo->σ'[j]?=σ[j]?:=by
 obtain⟨u',σ',h1,h2,h3,h4,h5⟩:=Aj5 (Alj h) hlo0 hy hm hl hly hb;refine⟨u',σ',h1,?_,h3,h4,h5⟩;by_cases he:xs++ys=[]
 ·rw[List.append_eq_nil_iff]at he;obtain⟨rfl,rfl⟩:=he;rcases h with⟨rfl,_⟩ | ⟨hn,_⟩
  ·have:Eu bytes (m,e) .nils y σ=some (.nils,σ):=by simp[Eu,hy,I5,hm]
   rw[this]at h1;cases h1;exact F4
  ·exact absurd rfl hn
 ·exact h2.imp id fun h=>⟨he,h⟩
theorem Pd{σ l:St}{m e lo:Nat}{u:V}{xs:List (List V)}(h:GW σ m e lo u xs):GW (σ++l) m e lo u xs:=by
 rcases h with h | ⟨hn,i,g,h,ho,hlo⟩
 ·exact .inl h
 ·exact .inr ⟨hn,i,g,h,Br ho,hlo⟩
theorem Ff{σ:St}{j:Nat}{x:Ob}{m e lo:Nat}{u:V}{xs:List (List V)}(h:GW σ m e lo u xs)(hj:j<lo):GW (σ.set j x) m e lo u xs:=by
 rcases h with h | ⟨hn,i,g,h,ho,hlo⟩
 ·exact .inl h
 ·exact .inr ⟨hn,i,g,h,by rw[Bc (by omega)];exact ho,hlo⟩
theorem Ac8{t:Nat}{xs:List (List V)}(h:xs≠[]):SL true t xs=.lst t xs:=by simp[SL,h]
theorem N3{σ:St}{m e lo:Nat}{u:V}{xs:List (List V)}(h:GW σ m e lo u xs)(hm:0<m)(hl:∀ r∈xs,r.length=m)(hr:∀ r∈xs,r.all V.rowB=true):OC σ u (SL true 0 xs):=by
 rcases h with⟨rfl,rfl⟩ | ⟨hn,i,g,rfl,ho,hlo⟩
 ·exact Hj rfl
 ·rw[Ac8 hn];exact U9 ho hm hl hr
theorem Ac9{σ:St}{m e lo:Nat}{u:V}{xs:List (List V)}(h:GW σ m e lo u xs)(hm:0<m)(hl:∀ r∈xs,r.length=m)(hr:∀ r∈xs,r.all V.rowB=true):FR u σ (SL true 0 xs):=by
 rcases h with⟨rfl,rfl⟩ | ⟨hn,i,g,rfl,ho,hlo⟩
 ·exact Ek rfl
 ·rw[Ac8 hn];exact Ali ho hm hl hr
/-! what a call leaves of the state, where an argument names a list's object -/
theorem Anm(σ:St)(i j:Nat)(h:j≠i):(σ.freeze [i])[j]?=σ[j]?:=by
 simp only[St.freeze]
 split
 ·rw[Bc (by omega)]
 ·rfl
section
variable {T:Nat->Option AF} {pr:Nat->Option (List V->Option V)} {Q:Env->St->Prop} {e:Env} {σ:St} {k:List It} {l:List AI} {kill:List Nat} {f:Nat} {args vs:List V} {v:V} {d:Option Nat}
end
theorem Axr{σ:St}{cs:List V}{m n:Nat}(h:cs.all V.rowB=true):N2 m n σ cs=some (.lst 1 (Em m n cs),σ):=by
 unfold N2;rw[Pc fun c hc=>O2 (Bd.1 h c hc),Iu h];rfl
attribute [go_sem] Axr
theorem W0(z:Bool)(t m:Nat)(xs:List (List V))(k:IntKind)(b:Nat)(hb:b<=xs.length):∃ z' t',M5 m (SL z t xs) none (some (.int k (b:Int))) none=some (SL z' t' (xs.take b)):=by
 unfold SL
 split
 ·rename_i h;obtain⟨rfl,rfl⟩:=h;have:b=0:=by simpa using hb
  subst this;exact⟨true,0,by simp[M5,Dm]⟩
 ·refine⟨false,(if b=xs.length/\t=1 then 1 else 0),?_⟩;simp[M5,Dm,hb]
def Cl(s:St):Prop:=∀ ob∈s,∀ i∈ob.refs,i<s.length
theorem Pe{s:St}{ob:Ob}(h:Cl s)(ho:∀ i∈ob.refs,i<s.length+1):Cl (s++[ob]):=by
 intro o hm i hi;rw[Ao];rcases Cq.1 hm with hm | hm
 ·have:=h o hm i hi;simp;omega
 ·simp at hm;subst hm;simpa using ho i hi
theorem Ge{s:St}{j:Nat}{ob:Ob}(h:Cl s)(ho:∀ i∈ob.refs,i<s.length):Cl (s.set j ob):=by
 intro o hm i hi;rw[Gr];rcases List.mem_or_eq_of_mem_set hm with hm | hm
 ·exact h o hm i hi
 ·subst hm;exact ho i hi
mutual
theorem Xe(ρ:Nat->Nat):∀ v:V,(∀ i∈v.refs,ρ i=i)->v.ren ρ=v
 | .ptr i g o,h=>by simp only[V.ren];rw[h i (by simp[V.refs])]
 | .sl i g o l m w,h=>by simp only[V.ren];rw[h i (by simp[V.refs])]
 | .mp i,h=>by simp only[V.ren];rw[h i (by simp[V.refs])]
 | .fn f a c,h=>by
  simp only[V.ren];rw[O6 ρ a fun i hi=>h i (by simp only[V.refs,Cq];exact .inl hi),O6 ρ c fun i hi=>h i (by simp only[V.refs,Cq];exact .inr hi)]
 | .agg cs,h=>by simp only[V.ren];rw[O6 ρ cs fun i hi=>h i (by simpa only[V.refs] using hi)]
 | .tup cs,h=>by simp only[V.ren];rw[O6 ρ cs fun i hi=>h i (by simpa only[V.refs] using hi)]
 | .und,_=>rfl
 | .skp,_=>rfl
 | .bool _,_=>rfl
 | .int _ _,_=>rfl
 | .str _,_=>rfl
 | .nili,_=>rfl
 | .ifc,_=>rfl
 | .nils,_=>rfl
 | .nilp,_=>rfl
 | .nilf,_=>rfl
 | .lst _ _,_=>rfl
 | .imm _ _,_=>rfl
theorem O6(ρ:Nat->Nat):∀ vs:List V,(∀ i∈Aj vs,ρ i=i)->Gk ρ vs=vs
 | [],_=>rfl
 | v::r,h=>by
  simp only[Gk];rw[Xe ρ v fun i hi=>h i (by simp only[Aj,Cq];exact .inl hi),O6 ρ r fun i hi=>h i (by simp only[Aj,Cq];exact .inr hi)]
end
theorem Ae3(ρ:Nat->Nat)(ob:Ob)(h:∀ i∈ob.refs,ρ i=i):ob.ren ρ=ob:=by
 cases ob with
 | row cs e g z=>simp only[Ob.ren];rw[O6 ρ cs h]
 | map kvs=>
  simp only[Ob.ren];congr 1
  have:∀ l:List (List UInt8 × V),(∀ i∈Aj (l.map (·.2)),ρ i=i)->l.map (fun p=>(p.1,p.2.ren ρ))=l:=by
   intro l
   induction l with
   | nil=>intro _;rfl
   | cons p l ih=>
    intro h;simp only[Ba,Aj,Cq]at h ⊢;rw[ih fun i hi=>h i (.inr hi),Xe ρ p.2 fun i hi=>h i (.inl hi)]
  exact this kvs h
 | dead=>rfl
theorem Aau{n k i:Nat}(h:i<n+k):ren n (List.range' n k) i=i:=by
 unfold ren
 split
 ·rfl
 ·have h1:List.findIdx (·==i) (List.range' n k)=i - n:=by
   rw[List.findIdx_eq (by simp;omega)];simp;constructor
   ·omega
   ·intro j hj;omega
  rw[h1];omega
theorem Aoj{σ σ':St}{m e lo bytes:Nat}{u u' y:V}{xs ys:List (List V)}(h:GW σ m e lo u xs)(hy:Ft σ m y=some ys)(ha:Eu bytes (m,e) u y σ=some (u',σ'))(hx:Aj xs.flatten=[])(hz:Aj ys.flatten=[])(hc:Cl σ):Cl σ':=by
 unfold Eu at ha;simp only[hy,Cz]at ha;unfold I5 at ha
 split at ha
 ·rcases h with⟨rfl,rfl⟩ | ⟨hn,i,g,rfl,ho,hlo⟩
  ·simp only at ha
   split at ha
   ·split at ha
    ·cases ha;exact hc
    ·cases ha;exact Pe hc (by simp[Ob.refs,hz])
   ·cases ha
  ·simp only at ha
   split at ha
   ·simp only[ho,if_true]at ha
    split at ha
    ·cases ha;exact hc
    ·split at ha
     ·split at ha
      ·cases ha;refine Ge hc fun j hj=>?_
       simp only[Ob.refs,Iw,hz,Cw,Cq]at hj
       have sub:∀ (a:List V) (k:Nat),Aj a=[]->Aj (a.take k)=[]/\Aj (a.drop k)=[]:=by
        intro a k h0;have:=Iw (a.take k) (a.drop k);rw[Lh,h0]at this;exact List.append_eq_nil_iff.1 this.symm
       rw[(sub _ _ hx).1,(sub _ _ hx).2]at hj;simp at hj
      ·split at ha
       ·cases ha;exact Ge hc (by simp[Ob.refs,Iw,hx,hz])
       ·cases ha
     ·cases ha
   ·cases ha
 ·cases ha
theorem Ai1{σ:St}{m e lo:Nat}{u:V}{xs:List (List V)}(h:GW σ m e lo u xs):∀ i∈u.refs,i<σ.length:=by
 rcases h with⟨rfl,rfl⟩ | ⟨hn,i,g,rfl,ho,hlo⟩
 ·intro i hi;simp[V.refs]at hi
 ·intro j hj;simp[V.refs]at hj;subst hj;exact(Ar.1 ho).1
theorem Ahf{σ1:St}{v:V}{n:Nat}(hr:v.refs=[])(ho:Cc v=true)(hn:n<=σ1.length)(hc:Cl σ1):Gs n (List.range' n (σ1.length - n)) v σ1=true/\v=v.ren (ren n (List.range' n (σ1.length - n)))/\σ1=(σ1.take n++(List.range' n (σ1.length - n)).filterMap (σ1[·]?)).map (Ob.ren (ren n (List.range' n (σ1.length - n)))):=by
 refine⟨?_,?_,?_⟩
 ·have hw:∀ is:List Nat,(∀ i∈is,i<σ1.length)->D7 n (List.range' n (σ1.length - n)) is=true:=by
   intro is his;unfold D7;rw[Bd];intro i hi;have:=his i hi;simp;omega
  unfold Gs;simp only[Af];refine⟨ho,hw _ (by rw[hr];simp),?_,?_,?_⟩
  ·rw[Bd];intro o hm;refine hw _ fun i hi=>?_
   rcases Cq.1 hm with hm | hm
   ·exact hc o (Qi hm) i hi
   ·obtain⟨j,_,hj⟩:=List.mem_filterMap.1 hm;exact hc o (Gq hj) i hi
  ·simp[List.nodup_range']
  ·rw[Bd];intro i hi;simp at hi ⊢;omega
 ·exact(Xe _ v (by rw[hr];simp)).symm
 ·have he:σ1.take n++(List.range' n (σ1.length - n)).filterMap (σ1[·]?)=σ1:=by
   have:(List.range' n (σ1.length - n)).filterMap (σ1[·]?)=σ1.drop n:=by
    apply Qk;intro i
    have hfm:∀ (k n:Nat),n+k<=σ1.length->(List.range' n k).filterMap (σ1[·]?)=(σ1.drop n).take k:=by
     intro k
     induction k with
     | zero=>intro n _;simp
     | succ k ih=>
      intro n hk;rw[Wb,Jh,A0 (by omega)];simp only;rw[ih (n+1) (by omega),Je (show n<σ1.length by omega),V3]
    rw[hfm _ _ (by omega),Jf (by simp)]
   rw[this,Lh]
  rw[he]
  have:∀ l:List Ob,(∀ o∈l,o∈σ1)->l.map (Ob.ren (ren n (List.range' n (σ1.length - n))))=l:=by
   intro l
   induction l with
   | nil=>intro _;rfl
   | cons o l ih=>
    intro hm;rw[Ba,ih fun o ho=>hm o (Dz _ ho),Ae3 _ o fun i hi=>Aau (by have:=hc o (hm o Ec) i hi;omega)]
  exact(this σ1 fun _ h=>h).symm
theorem Acd{T:Nat->Option AF}{pr:Nat->Option (List V->Option V)}{f p:Nat}{res:List AR}{body:AC}{vs:List V}{v:V}{σ σ':St}(hT:T f=some ⟨p,res,true,body,none⟩)(hl:vs.length=p)
  (h:W T pr [.c body] (C2 0 vs) σ (Hd fun e' σ1=>B6 e' σ1 res=some v/\σ1=σ')) (hr:v.refs=[]) (ho:Cc v=true) (hn:σ.length<=σ'.length) (hc:Cl σ'):Th T pr f vs σ v σ':=by
 obtain⟨e',σ1,hE,hres,rfl⟩:=h;obtain⟨k1,k2,k3⟩:=Ahf hr ho hn hc;exact Aob hT rfl rfl hl ⟨e',σ1,hE,v,_,hres,k1,k2,k3⟩
theorem Atx{T:Nat->Option AF}{pr:Nat->Option (List V->Option V)}{f p:Nat}{res:List AR}{body:AC}{vs:List V}{v:V}{σ σ':St}(hT:T f=some ⟨p,res,true,body,none⟩)(hl:vs.length=p)
  (h:W T pr [.c body] (C2 0 vs) σ (Hd fun e' σ1=>∃ v0 js,B6 e' σ1 res=some v0/\Cc v0=true/\Ic σ1 js v0=some v/\σ'=σ1.freeze js)) (hr:v.refs=[]) (ho:Cc v=true) (hn:σ.length<=σ'.length) (hc:Cl σ'):Th T pr f vs σ v σ':=by
 obtain⟨e',σ1,hE,v0,js,hres,h0,h1,rfl⟩:=h;obtain⟨k1,k2,k3⟩:=Ahf hr ho hn hc;exact Aod hT rfl rfl hl ⟨e',σ1,hE,v0,v,js,_,hres,h0,h1,k1,k2,k3⟩
theorem Ann{T:Nat->Option AF}{pr:Nat->Option (List V->Option V)}{σ:St}{f:Nat}{vs:List V}{v:V}{F:AF}{σ':St}(hT:T f=some F)(hsp:F.spec=none)(hl:vs.length=F.pars)(h:W T pr [.c F.body] (C2 0 vs) σ fun e' σ1=>∃ v0 js,B6 e' σ1 F.res=some v0/\Gs σ.length js v0 σ1=true/\v=v0.ren (ren σ.length js)/\σ'=(σ1.take σ.length++js.filterMap (σ1[·]?)).map (Ob.ren (ren σ.length js))):Bp T pr f vs σ v σ':=by
 obtain⟨e',σ1,hE,v0,js,hr,hl2,rfl,rfl⟩:=h;exact⟨F,hT,hsp,.fnL hT hsp hl hE hr hl2⟩
theorem Ai2{T:Nat->Option AF}{pr:Nat->Option (List V->Option V)}{f p:Nat}{res:List AR}{thr:Bool}{body:AC}{vs:List V}{v:V}{σ σ':St}(hT:T f=some ⟨p,res,thr,body,none⟩)(hl:vs.length=p)
  (h:W T pr [.c body] (C2 0 vs) σ (Hd fun e' σ1=>B6 e' σ1 res=some v/\σ1=σ')) (hr:∀ i∈v.refs,i<σ'.length) (ho:Cc v=true) (hn:σ.length<=σ'.length) (hc:Cl σ'):Bp T pr f vs σ v σ':=by
 obtain⟨e',σ1,hE,hres,rfl⟩:=h;refine Ann hT rfl hl ⟨e',σ1,hE,v,List.range' σ.length (σ1.length - σ.length),hres,?_,?_,?_⟩
 ·have hw:∀ is:List Nat,(∀ i∈is,i<σ1.length)->D7 σ.length (List.range' σ.length (σ1.length - σ.length)) is=true:=by
   intro is his;unfold D7;rw[Bd];intro i hi;have:=his i hi;simp;omega
  unfold Gs;simp only[Af];refine⟨ho,hw _ hr,?_,?_,?_⟩
  ·rw[Bd];intro o hm;refine hw _ fun i hi=>?_
   rcases Cq.1 hm with hm | hm
   ·exact hc o (Qi hm) i hi
   ·obtain⟨j,_,hj⟩:=List.mem_filterMap.1 hm;exact hc o (Gq hj) i hi
  ·simp[List.nodup_range']
  ·rw[Bd];intro i hi;simp at hi ⊢;omega
 ·exact(Xe _ v fun i hi=>Aau (by have:=hr i hi;omega)).symm
 ·have he:σ1.take σ.length++(List.range' σ.length (σ1.length - σ.length)).filterMap (σ1[·]?)=σ1:=by
   have:(List.range' σ.length (σ1.length - σ.length)).filterMap (σ1[·]?)=σ1.drop σ.length:=by
    apply Qk;intro i
    have hfm:∀ (k n:Nat),n+k<=σ1.length->(List.range' n k).filterMap (σ1[·]?)=(σ1.drop n).take k:=by
     intro k
     induction k with
     | zero=>intro n _;simp
     | succ k ih=>
      intro n hk;rw[Wb,Jh,A0 (by omega)];simp only;rw[ih (n+1) (by omega),Je (show n<σ1.length by omega),V3]
    rw[hfm _ _ (by omega),Jf (by simp)]
   rw[this,Lh]
  rw[he]
  have:∀ l:List Ob,(∀ o∈l,o∈σ1)->l.map (Ob.ren (ren σ.length (List.range' σ.length (σ1.length - σ.length))))=l:=by
   intro l
   induction l with
   | nil=>intro _;rfl
   | cons o l ih=>
    intro hm;rw[Ba,ih fun o ho=>hm o (Dz _ ho),Ae3 _ o fun i hi=>Aau (by have:=hc o (hm o Ec) i hi;omega)]
  exact(this σ1 fun _ h=>h).symm
theorem LZ{α:Type}:(∀ a b c:List α,a++b++c=a++(b++c))/\(∀ (a:α) (b c:List α),a::b++c=a::(b++c))/\(∀ a:List α,[]++a=a)/\(∀ a b:List α,(a++b).length=a.length+b.length)/\(∀ (a:α) (b:List α),(a::b).length=b.length+1)/\([]:List α).length=0/\∀ n:Nat,0+n=n:=⟨E4,fun _ _ _=>rfl,fun _=>rfl,fun _ _=>Ao,fun _ _=>rfl,rfl,Ez⟩
