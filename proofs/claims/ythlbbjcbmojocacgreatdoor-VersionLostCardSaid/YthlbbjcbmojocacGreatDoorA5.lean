/- THE PLAIN MACHINE, joined texts: Qa Qb Qc Qd Qe Qf Qg. -/
import Derived.Test.YthlbbjcbmojocacGreatDoorA4
set_option linter.all false
/- Walking by rewriting: what comes of code, as equations. -/
namespace Go.Proofs.YthlbbjcbmojocacGreatDoor.KM
open Go
variable {T:Nat->Option AF} {pr:Nat->Option (List V->Option V)}
def Br{α:Sort _}{a b:α}(h:a=b):a=b:=h
/-! slots -/
def get_put:∀ (e:Env) (n m:Nat) (v:V),(Env.put e n v).get m=if n=m then v else Env.get e m
 | [],n,m,v=>by simp only[Env.put,Env.get]
 | (i,u)::r,n,m,v=>by
  simp only[Env.put]
  split
  .rename_i h;subst h;simp only[Env.get]
   split<;>rfl
  .rename_i h;simp only[Env.get,get_put r n m v]
   split
   .rename_i h2;subst h2;rw[if_neg (by omega)]
   .rfl
def Azp(e:Env)(n:Nat)(v:V):e.putO (some n) v=e.put n v:=Br rfl
def Azq(e:Env)(v:V):e.putO none v=e:=Br rfl
def Bed(e:Env)(n:Nat):Ab e (.t n)=e.get n:=rfl
def Bee(e:Env)(v:V):Ab e (.k v)=v:=rfl
def A19(e:Env)(n m:Nat)(v:V):Env.get ((n,v)::e) m=if n=m then v else Env.get e m:=Br rfl
/-! what an operation gives -/
inductive Rs where
 | val (v:V) (σ:St)
 | call (f:Nat) (args:List V)
 | fail
def r1(o:Option V)(σ:St):Rs:=
 match o with
 | some v=>.val v σ
 | none=>.fail
def r2(o:Option (V × St)):Rs:=
 match o with
 | some (v,σ)=>.val v σ
 | none=>.fail
def A59(v:V)(σ:St):r1 (some v) σ=.val v σ:=Br rfl
def A6a(σ:St):r1 none σ=.fail:=Br rfl
def A6b(v:V)(σ:St):r2 (some (v,σ))=.val v σ:=Br rfl
def A6c:r2 none=.fail:=Br rfl
def Pt(o:Option V)(σ:St):r2 (o.map fun v=>(v,σ))=r1 o σ:=by cases o<;>rfl
def Bg(op:AO)(e:Env)(σ:St):Rs:=
 match B9 e op with
 | some (f,args)=>.call f args
 | none=>r2 (Ae op e σ)
def Ajy(c a b:V):Option V:=
 match c with
 | .bool z=>some (if z=true then a else b)
 | _=>none
def Av2(t:Nat)(x:V)(σ:St):Option (V × St):=if x.cells.all V.cellB=true then some (.ptr σ.length 0 0,σ++[.row x.cells t 0 0]) else none
def mkV(t bytes:Nat)(z:List V)(x y:V)(σ:St):Option (V × St):=
 match x,y with
 | .int .i64 n,.int .i64 c=>if 0<=n/\n<=c/\c.toNat*bytes<=140737488355328 then some (.sl σ.length 0 0 n.toNat z.length true,σ++[.row (List.replicate n.toNat z).flatten t 0 0]) else none
 | _,_=>none
def Ou(m n:Nat)(σ:St)(cs:List V):Option (V × St):=(cs.mapM (Fa σ (Fl σ 9 (Ah cs).eraseDups) 9)).map fun cs'=>(.lst 1 (Fc m n cs'),σ.freeze (Fl σ 9 (Ah cs).eraseDups))
def Aew(n:Nat)(x v:V)(σ:St):Option (V × St):=(Pq σ n x v).map fun σ'=>(.und,σ')
def Aky(x:V):Option V:=
 match x with
 | .imm r o=>some (.imm r o)
 | .ptr b g o=>some (.ptr b g o)
 | _=>none
def Akz(k:EqK)(qj:Bool)(x y:V):Option V:=(M0 k x y).map fun z=>.bool (z != qj)
def Ak0(k:IntKind)(x:V):Option V:=
 match x with
 | .int _ n=>some (.int k (k.wrap n))
 | _=>none
def Ak1(x:V):Option V:=
 match x with
 | .str l=>some (.str l)
 | _=>none
def Ak2(x:V)(σ:St):Option V:=
 match x with
 | .sl i g off len m w=>match σ[i]? with
  | some (.row _ _ g' z)=>if g=g'/\z=0 then some (.sl i g off len m w) else none
  | _=>none
 | _=>none
def Av3(ty:Nat)(x:V)(σ:St):Option (V × St):=
 match x with
 | .str l=>some (.sl σ.length 0 0 l.length 1 true,σ++[.row (Bs l).flatten ty 0 0])
 | _=>none
def Ak3(x:V)(σ:St):Option V:=(Ea σ 1 x).bind fun xs=>(Mf xs).map fun l=>.str l
def Ajz(len m:Nat)(x:V)(lo hi:Option V):Option V:=
 match x with
 | .ptr i g off=>(Dq lo 0).bind fun a=>(Dq hi len).bind fun b=>if a<=b/\b<=len then some (.sl i g (off+a*m) (b - a) m false) else none
 | _=>none
def Aex(off:Nat)(x:V):Option V:=
 match x with
 | .imm r o=>some (.imm r (o+off))
 | .ptr b g o=>some (.ptr b g (o+off))
 | _=>none
def Ak4(off n:Nat)(one:Bool)(x:V):Option V:=
 match x with
 | .agg cs=>if off+n<=cs.length then G0 one ((cs.drop off).take n) else none
 | _=>none
def Ly(m:Nat)(x i:V):Option V:=
 match x with
 | .lst _ xs=>(Ji xs i).bind fun r=>if r.length=m then some (.imm r 0) else none
 | .sl j g off len m' _=>match i with
  | .int _ n=>if 0<=n/\n<len/\m=m' then some (.ptr j g (off+n.toNat*m)) else none
  | _=>none
 | _=>none
def Ak5(len m:Nat)(x i:V):Option V:=
 match i with
 | .int _ n=>if 0<=n/\n<len then(match x with
  | .imm r o=>some (.imm r (o+n.toNat*m))
  | .ptr b g o=>some (.ptr b g (o+n.toNat*m))
  | _=>none) else none
 | _=>none
def Ak6(x i:V):Option V:=
 match x with
 | .str l=>(Ji l i).map fun c=>.int .u8 (c.toNat:Int)
 | _=>none
def Ak7(len m:Nat)(one:Bool)(x i:V):Option V:=
 match i with
 | .int _ n=>if 0<=n/\n<len then(match x with
  | .agg cs=>if n.toNat*m+m<=cs.length then G0 one ((cs.drop (n.toNat*m)).take m) else none
  | _=>none) else none
 | _=>none
def Ak8(i:Nat)(x:V):Option V:=
 match x with
 | .tup vs=>vs[i]?
 | _=>none
def Aj0(x:V):Option V:=
 match x with
 | .str l=>some (.int .i64 (l.length:Int))
 | _=>none
def Mx(x:V):Option V:=
 match x with
 | .nils=>some (.int .i64 0)
 | .lst _ xs=>some (.int .i64 (xs.length:Int))
 | .sl _ _ _ len _ _=>some (.int .i64 (len:Int))
 | _=>none
def D6(bytes:Nat)(m:Nat × Nat)(x y:V)(σ:St):Option (V × St):=(Ea σ m.1 y).bind fun ys=>J6 bytes m σ x ys
def Au6(ty:Nat)(x y:V)(σ:St):Option (V × St):=
 match y with
 | .str l=>J6 1 (1,ty) σ x (Bs l)
 | _=>none
def mxV(x y:V):Option V:=
 match x,y with
 | .int k a,.int k' b=>if k=k' then some (.int k (max a b)) else none
 | _,_=>none
def mnV(x y:V):Option V:=
 match x,y with
 | .int k a,.int k' b=>if k=k' then some (.int k (min a b)) else none
 | _,_=>none
def Ak9(f:Nat)(a c:List V):Option V:=if(a.all V.cellB&&c.all V.cellB)=true then some (.fn f a c) else none
def Ala(z x k:V)(σ:St):Option V:=
 match x,k with
 | .mp i,.str s=>match σ[i]? with
  | some (.map kvs)=>some (match Hb s kvs 0 with
   | some (_,v)=>v
   | none=>z)
  | _=>none
 | _,_=>none
def Av4(x k v:V)(σ:St):Option (V × St):=
 match x,k with
 | .mp i,.str s=>match σ[i]? with
  | some (.map kvs)=>if v.flatB=true then some (.und,σ.set i (.map (match Hb s kvs 0 with
   | some (j,_)=>kvs.set j (s,v)
   | none=>kvs++[(s,v)]))) else none
  | _=>none
 | _,_=>none
section
variable {e:Env} {σ:St}
def Beg(x:S):Bg (.mov x) e σ=.val (Ab e x) σ:=Br rfl
def Bab(c a b:S):Bg (.pick c a b) e σ=r1 (Ajy (Ab e c) (Ab e a) (Ab e b)) σ:=by
 simp only[Bg,B9,Ae,Ajy];cases Ab e c<;>rfl
def Beh(t:Nat)(z:List V):Bg (.new t z) e σ=.val (.ptr σ.length 0 0) (σ++[.row z t 0 0]):=Br rfl
def Bei(t:Nat)(x:S):Bg (.box t x) e σ=r2 (Av2 t (Ab e x) σ):=Br rfl
def A6d(z:List V)(ps:List (Nat × Nat × S)):Bg (.build z ps) e σ=r1 ((Ia z (ps.map fun p=>(p.1,p.2.1,Ab e p.2.2))).map fun cs=>.agg cs) σ:=by
 simp only[Bg,B9,Ae];cases Ia z (ps.map fun p=>(p.1,p.2.1,Ab e p.2.2))<;>rfl
def Bac(n:Nat)(z:List V)(ps:List (Nat × S)):Bg (.rows n z ps) e σ=r1 ((Ia (List.replicate n z).flatten (ps.map fun p=>(p.1*z.length,z.length,Ab e p.2))).bind fun cs=>if cs.all V.rowB=true then some (.lst 1 (Fc z.length n cs)) else none) σ:=by
 simp only[Bg,B9,Ae]
 cases Ia (List.replicate n z).flatten (ps.map fun p=>(p.1*z.length,z.length,Ab e p.2)) with
 | none=>rfl
 | some cs=>simp only[Db];split<;>rfl
def Bad(n:Nat)(z:List V)(ps:List (Nat × S)):Bg (.rowf n z ps) e σ=r2 ((Ia (List.replicate n z).flatten (ps.map fun p=>(p.1*z.length,z.length,Ab e p.2))).bind fun cs=>Ou z.length n σ cs):=Br rfl
def Bae(t n:Nat)(z:List V)(ps:List (Nat × S)):Bg (.rowo t n z ps) e σ=r2 ((Ia (List.replicate n z).flatten (ps.map fun p=>(p.1*z.length,z.length,Ab e p.2))).map fun cs=>(.sl σ.length 0 0 n z.length true,σ++[.row cs t 0 0])):=Br rfl
def Bis(t bytes:Nat)(z:List V)(x y:S):Bg (.mk t bytes z x y) e σ=r2 (mkV t bytes z (Ab e x) (Ab e y) σ):=Br rfl
def Baf(n:Nat)(one:Bool)(x:S):Bg (.load n one x) e σ=r1 (Ib σ n one (Ab e x)) σ:=Pt _ _
def A6e(n:Nat)(x v:S):Bg (.store n x v) e σ=r2 (Aew n (Ab e x) (Ab e v) σ):=Br rfl
def Bej(x:S):Bg (.chk x) e σ=r1 (Aky (Ab e x)) σ:=by
 simp only[Bg,B9,Ae,Aky];cases Ab e x<;>rfl
def Bek(o:BinOp)(x y:S):Bg (.bin o x y) e σ=r1 (Z8 o (Ab e x) (Ab e y)) σ:=Pt _ _
def Bit(k:EqK)(qj:Bool)(x y:S):Bg (.eq k qj x y) e σ=r1 (Akz k qj (Ab e x) (Ab e y)) σ:=by
 simp only[Bg,B9,Ae,Akz];cases M0 k (Ab e x) (Ab e y)<;>rfl
def Biu(o:UnOp)(x:S):Bg (.un o x) e σ=r1 (unV o (Ab e x)) σ:=Pt _ _
def Bel(k:IntKind)(x:S):Bg (.cvi k x) e σ=r1 (Ak0 k (Ab e x)) σ:=by
 simp only[Bg,B9,Ae,Ak0];cases Ab e x<;>rfl
def Bem(x:S):Bg (.cvs x) e σ=r1 (Ak1 (Ab e x)) σ:=by
 simp only[Bg,B9,Ae,Ak1];cases Ab e x<;>rfl
def Ben(x:S):Bg (.cvl x) e σ=r1 (Ak2 (Ab e x) σ) σ:=by
 simp only[Bg,B9,Ae,Ak2]
 cases Ab e x with
 | sl i g off len m w=>
  simp only
  cases σ[i]? with
  | none=>rfl
  | some ob=>
   cases ob with
   | row cs e g' z=>simp only;split<;>rfl
   | _=>rfl
 | _=>rfl
def Beo(ty:Nat)(x:S):Bg (.stb ty x) e σ=r2 (Av3 ty (Ab e x) σ):=Br rfl
def Bep(x:S):Bg (.bts x) e σ=r1 (Ak3 (Ab e x) σ) σ:=by
 simp only[Bg,B9,Ae,Ak3]
 cases Ea σ 1 (Ab e x) with
 | none=>rfl
 | some xs=>simp only[Db];cases Mf xs<;>rfl
def Bag(x:S)(lo hi:Option S):Bg (.slcs x lo hi) e σ=r1 (Ry (Ab e x) (lo.map (Ab e)) (hi.map (Ab e))) σ:=Pt _ _
def Beq(m:Nat)(x:S)(lo hi mx:Option S):Bg (.slc m x lo hi mx) e σ=r1 (Je m (Ab e x) (lo.map (Ab e)) (hi.map (Ab e)) (mx.map (Ab e))) σ:=Pt _ _
def Ber(n:Nat)(x:S):Bg (.sap n x) e σ=r1 (Aet n (Ab e x)) σ:=Pt _ _
def Bah(len m:Nat)(x:S)(lo hi:Option S):Bg (.slca len m x lo hi) e σ=r1 (Ajz len m (Ab e x) (lo.map (Ab e)) (hi.map (Ab e))) σ:=by
 simp only[Bg,B9,Ae,Ajz]
 cases Ab e x with
 | ptr i g off=>
  simp only
  cases Dq (lo.map (Ab e)) 0 with
  | none=>rfl
  | some a=>
   simp only[Db]
   cases Dq (hi.map (Ab e)) len with
   | none=>rfl
   | some b=>simp only[Db];split<;>rfl
 | _=>rfl
def Bes(off:Nat)(x:S):Bg (.fad off x) e σ=r1 (Aex off (Ab e x)) σ:=by
 simp only[Bg,B9,Ae,Aex];cases Ab e x<;>rfl
def Bet(off n:Nat)(one:Bool)(x:S):Bg (.fld off n one x) e σ=r1 (Ak4 off n one (Ab e x)) σ:=by
 simp only[Bg,B9,Ae,Ak4]
 cases Ab e x with
 | agg cs=>simp only;split;· exact Pt _ _
           .rfl
 | _=>rfl
def Beu(m:Nat)(x i:S):Bg (.iad m x i) e σ=r1 (Ly m (Ab e x) (Ab e i)) σ:=by
 simp only[Bg,B9,Ae,Ly]
 cases Ab e x with
 | lst t xs=>
  simp only
  cases Ji xs (Ab e i) with
  | none=>rfl
  | some r=>simp only[Db];split<;>rfl
 | sl j g off len m' w=>
  simp only
  cases Ab e i with
  | int k n=>simp only;split<;>rfl
  | _=>rfl
 | _=>rfl
def Bev(len m:Nat)(x i:S):Bg (.iar len m x i) e σ=r1 (Ak5 len m (Ab e x) (Ab e i)) σ:=by
 simp only[Bg,B9,Ae,Ak5]
 cases Ab e i with
 | int k n=>simp only;split;· cases Ab e x<;>rfl
            .rfl
 | _=>rfl
def Bew(x i:S):Bg (.idx x i) e σ=r1 (Ak6 (Ab e x) (Ab e i)) σ:=by
 simp only[Bg,B9,Ae,Ak6]
 cases Ab e x with
 | str l=>simp only;cases Ji l (Ab e i)<;>rfl
 | _=>rfl
def Bex(len m:Nat)(one:Bool)(x i:S):Bg (.ida len m one x i) e σ=r1 (Ak7 len m one (Ab e x) (Ab e i)) σ:=by
 simp only[Bg,B9,Ae,Ak7]
 cases Ab e i with
 | int k n=>
  simp only
  split
  .cases Ab e x with
   | agg cs=>simp only;split;· exact Pt _ _
             .rfl
   | _=>rfl
  .rfl
 | _=>rfl
def Bey(i:Nat)(x:S):Bg (.ext i x) e σ=r1 (Ak8 i (Ab e x)) σ:=by
 simp only[Bg,B9,Ae,Ak8]
 cases Ab e x with
 | tup vs=>exact Pt _ _
 | _=>rfl
def Alb(x:V):Option V:=
 match x with
 | .nils=>some (.int .i64 0)
 | _=>none
def Bez(x:S):Bg (.cap x) e σ=r1 (Alb (Ab e x)) σ:=by
 simp only[Bg,B9,Ae,Alb];cases Ab e x<;>rfl
def Bai(x:S):Bg (.lens x) e σ=r1 (Aj0 (Ab e x)) σ:=by
 simp only[Bg,B9,Ae,Aj0];cases Ab e x<;>rfl
def Be0(x:S):Bg (.len x) e σ=r1 (Mx (Ab e x)) σ:=by
 simp only[Bg,B9,Ae,Mx];cases Ab e x<;>rfl
def Be1(bytes:Nat)(m:Nat × Nat)(x y:S):Bg (.app bytes m x y) e σ=r2 (D6 bytes m (Ab e x) (Ab e y) σ):=Br rfl
def Baj(ty:Nat)(x y:S):Bg (.apps ty x y) e σ=r2 (Au6 ty (Ab e x) (Ab e y) σ):=Br rfl
def Biv(x y:S):Bg (.mx x y) e σ=r1 (mxV (Ab e x) (Ab e y)) σ:=by
 simp only[Bg,B9,Ae,mxV]
 cases Ab e x with
 | int k a=>
  cases Ab e y with
  | int k' b=>simp only;split<;>rfl
  | _=>rfl
 | _=>rfl
def Biw(x y:S):Bg (.mn x y) e σ=r1 (mnV (Ab e x) (Ab e y)) σ:=by
 simp only[Bg,B9,Ae,mnV]
 cases Ab e x with
 | int k a=>
  cases Ab e y with
  | int k' b=>simp only;split<;>rfl
  | _=>rfl
 | _=>rfl
def Be2(f:Nat)(a c:List S):Bg (.mkf f a c) e σ=r1 (Ak9 f (a.map (Ab e)) (c.map (Ab e))) σ:=by
 simp only[Bg,B9,Ae,Ak9];split<;>rfl
def Be3:Bg .mmk e σ=.val (.mp σ.length) (σ++[.map []]):=Br rfl
def Be4(z:V)(x k:S):Bg (.mlk z x k) e σ=r1 (Ala z (Ab e x) (Ab e k) σ) σ:=by
 simp only[Bg,B9,Ae,Ala]
 cases Ab e x with
 | mp i=>
  cases Ab e k with
  | str s=>
   simp only
   cases σ[i]? with
   | none=>rfl
   | some ob=>cases ob<;>rfl
  | _=>rfl
 | _=>rfl
def Be5(x k v:S):Bg (.mup x k v) e σ=r2 (Av4 (Ab e x) (Ab e k) (Ab e v) σ):=Br rfl
def Bak(f:Nat)(xs:List S):Bg (.call f xs) e σ=.call f (xs.map (Ab e)):=Br rfl
def Alc(x:V)(ys:List V):Rs:=
 match x with
 | .fn f a c=>.call f (a++ys++c)
 | _=>.fail
def A6f(x:S)(xs:List S):Bg (.callv x xs) e σ=Alc (Ab e x) (xs.map (Ab e)):=by
 simp only[Bg,B9,Alc];cases Ab e x<;>rfl
end
variable {T:Nat->Option AF} {pr:Nat->Option (List V->Option V)}
def o(d:Nat)(op:AO):AI:=⟨some d,op,none⟩
def on(op:AO):AI:=⟨none,op,none⟩
def og(d:Nat)(op:AO)(t:Nat)(w:Bool):AI:=⟨some d,op,some (t,w)⟩
def oh(op:AO)(t:Nat)(w:Bool):AI:=⟨none,op,some (t,w)⟩
inductive CallS (T:Nat->Option AF) (pr:Nat->Option (List V->Option V)) (f:Nat) (args:List V) (σ:St):V->St->Prop
 | prim {s:List V->Option V} {vs:List V} {v:V}:pr f=some s->Dr σ args=some vs->s vs=some v->CallS T pr f args σ v (after σ args v)
 | pure {vs:List V} {v:V}:Dr σ args=some vs->Fn T pr f vs v->CallS T pr f args σ v (after σ args v)
 | own {σ0:St} {vs:List V} {v:V}:Dr σ args=some vs->FnO T pr f vs v σ0->CallS T pr f args σ (v.ren (·+σ.length)) (own σ args σ0)
 | any {v:V} {σ1:St}:Bv T pr f args σ v σ1->CallS T pr f args σ v σ1
 | thr {v:V} {σ1:St}:Th T pr f args σ v σ1->CallS T pr f args σ v σ1
 | spec {F:AF} {s:List V->St->Option (V × St)} {v:V} {σ1:St}:T f=some F->F.thr=true->F.spec=some s->s args σ=some (v,σ1)->CallS T pr f args σ v σ1
def CallS.sg{i:AI}{f:Nat}{args:List V}{e:Env}{σ σ1:St}{v:V}(h:CallS T pr f args σ v σ1)(hw:Cx e i=some true)(hc:B9 e i.op=some (f,args)):Sg T pr i e σ v σ1:=by
 cases h with
 | prim h1 h2 h3=>exact .prim hw hc h1 h2 h3
 | pure h1 h2=>exact .pure hw hc h1 h2
 | own hx h=>obtain⟨F,h1,h2,h3,h4⟩:=h;exact .own hw hc h1 h2 h3 hx h4
 | any h=>obtain⟨F,h1,h3,h4⟩:=h;exact .any hw hc h1 h3 h4
 | thr h=>obtain⟨F,h1,h2,h3,h4⟩:=h;exact .thr hw hc h1 h2 h3 h4
 | spec h1 h2 h3 h4=>exact .spec hw hc h1 h2 h3 h4
def WE(T:Nat->Option AF)(pr:Nat->Option (List V->Option V))(e:Env)(k:List It)(σ:St)(Q:Env->St->Prop):Prop:=W T pr k e σ Q
def WR(T:Nat->Option AF)(pr:Nat->Option (List V->Option V))(l:List AI)(kill:List Nat)(k:List It)(e:Env)(σ:St)(Q:Env->St->Prop):Prop:=WO T pr l e σ fun e1 σ1=>W T pr k (e1.del kill) σ1 Q
def WX(T:Nat->Option AF)(pr:Nat->Option (List V->Option V))(r:Rs)(d:Option Nat)(l:List AI)(kill:List Nat)(k:List It)(e:Env)(σ:St)(Q:Env->St->Prop):Prop:=
 match r with
 | .val v σ1=>WR T pr l kill k (e.putO d v) σ1 Q
 | .call f args=>∃ v σ1,CallS T pr f args σ v σ1/\WR T pr l kill k (e.putO d v) σ1 Q
 | .fail=>False
def WD(T:Nat->Option AF)(pr:Nat->Option (List V->Option V))(g:V)(w:Bool)(d:Option Nat)(op:AO)(l:List AI)(kill:List Nat)(k:List It)(e:Env)(σ:St)(Q:Env->St->Prop):Prop:=
 match g with
 | .bool b=>if b=w then WX T pr (Bg op e σ) d l kill k e σ Q else WR T pr l kill k (e.putO d .skp) σ Q
 | .skp=>WR T pr l kill k (e.putO d .skp) σ Q
 | _=>False
def WC(T:Nat->Option AF)(pr:Nat->Option (List V->Option V))(g:V)(kill:List Nat)(x y:AC)(k:List It)(e:Env)(σ:St)(Q:Env->St->Prop):Prop:=
 match g with
 | .bool true=>WE T pr (e.del kill) (.c x::k) σ Q
 | .bool false=>WE T pr (e.del kill) (.c y::k) σ Q
 | _=>False
def WJ(T:Nat->Option AF)(pr:Nat->Option (List V->Option V))(id:Nat):List It->Env->St->(Env->St->Prop)->Prop
 | [],_,_,_=>False
 | .b i::k,e,σ,Q=>if i=id then W T pr k e σ Q else WJ T pr id k e σ Q
 | .c _::k,e,σ,Q=>WJ T pr id k e σ Q
 | .l _ _::k,e,σ,Q=>WJ T pr id k e σ Q
def get_keep(e:Env)(n:Nat):∀ ks:List Nat,ks.elem n=true->(e.keep ks).get n=e.get n
 | [],h=>by cases h
 | m::ks,h=>by
  simp only[Env.keep,Env.get]
  split
  .rename_i h;rw[h]
  .rename_i hm;refine get_keep e n ks ?_;simp only[List.elem_eq_mem,Bj,decide_eq_true_eq]at h ⊢;exact h.resolve_left fun h=>hm h.symm
def Apj(e:Env)(ks:List Nat):∀ js:List Nat,(∀ n,js.elem n=true->ks.elem n=true)->(e.keep ks).keep js=e.keep js
 | [],_=>rfl
 | m::js,h=>by
  simp only[Env.keep];rw[get_keep e m ks (h m (by simp)),Apj e ks js fun n hn=>h n (by simp at hn ⊢;exact .inr hn)]
def Anw(e:Env)(ks:List Nat):e.keep ks=(e.keep ks).keep ks:=(Apj e ks ks fun _ h=>h).symm
section
variable {Q:Env->St->Prop} {e:Env} {σ:St} {k:List It} {l:List AI} {kill:List Nat}
def Aj1(a b:AC):W T pr (.c (.seq a b)::k) e σ Q=W T pr (.c a::.c b::k) e σ Q:=propext ⟨fun⟨e',σ',h,q⟩=>by cases h with | cSeq h=>exact⟨e',σ',h,q⟩,Bdz⟩
def Bal:W T pr (.c .skip::k) e σ Q=W T pr k e σ Q:=propext ⟨fun⟨e',σ',h,q⟩=>by cases h with | cSkip h=>exact⟨e',σ',h,q⟩,A9s⟩
def Au7(id:Nat)(c:AC):W T pr (.c (.blk id c)::k) e σ Q=W T pr (.c c::.b id::k) e σ Q:=propext ⟨fun⟨e',σ',h,q⟩=>by cases h with | cBlk h=>exact⟨e',σ',h,q⟩,Bd0⟩
def Be6(id:Nat):W T pr (.b id::k) e σ Q=W T pr k e σ Q:=propext ⟨fun⟨e',σ',h,q⟩=>by cases h with | cEnd h=>exact⟨e',σ',h,q⟩,Bd1⟩
def Bam(keep:List Nat)(c:AC):W T pr (.c (.loop keep c)::k) e σ Q=WE T pr (e.keep keep) (.l keep c::k) σ Q:=by
 refine propext ⟨fun⟨e',σ',h,q⟩=>?_,fun h=>A9t (As h ?_)⟩
 .cases h with
  | cLoop h=>exact As ⟨e',σ',h,q⟩ (Anw e keep).symm
 .exact(Anw e keep)
def A6g(keep:List Nat)(c:AC):W T pr (.l keep c::k) e σ Q=WE T pr (e.keep keep) (.c c::.l keep c::k) σ Q:=propext ⟨fun⟨e',σ',h,q⟩=>by cases h with | cAgain h=>exact⟨e',σ',h,q⟩,A5x⟩
def Be7:W T pr (.c .ret::k) e σ Q=Q e σ:=propext ⟨fun⟨e',σ',h,q⟩=>by cases h with | cRet=>exact q,Bd2⟩
def Au8:W T pr [] e σ Q=Q e σ:=propext ⟨fun⟨e',σ',h,q⟩=>by cases h with | cNil=>exact q,Bd3⟩
def Be8(ops:List AI):W T pr (.c (.reg kill ops)::k) e σ Q=WR T pr ops kill k e σ Q:=propext ⟨fun⟨e',σ',h,q⟩=>by cases h with | cReg h h2=>exact⟨_,_,h,e',σ',h2,q⟩,fun⟨_,_,h,e',σ',h2,q⟩=>⟨e',σ',.cReg h h2,q⟩⟩
def Ban(c:S)(x y:AC):W T pr (.c (.cond c kill x y)::k) e σ Q=WC T pr (Ab e c) kill x y k e σ Q:=by
 refine propext ⟨fun⟨e',σ',h,q⟩=>?_,fun h=>?_⟩
 .cases h with
  | cCond hc h=>
   rw[hc];rename_i z;cases z
   .exact⟨e',σ',h,q⟩
   .exact⟨e',σ',h,q⟩
 .unfold WC at h
  split at h
  .rename_i hc;exact A15 hc h
  .rename_i hc;exact A16 hc h
  .exact h.elim
def Zw(id:Nat):∀ k':List It,WJ T pr id k' e σ Q↔∃ k2,exitTo id k'=some k2/\W T pr k2 e σ Q
 | []=>by simp[WJ,exitTo]
 | .b i::k'=>by
  simp only[WJ,exitTo]
  split
  .simp
  .exact Zw id k'
 | .c _::k'=>by simp only[WJ,exitTo];exact Zw id k'
 | .l _ _::k'=>by simp only[WJ,exitTo];exact Zw id k'
def Bao(id:Nat):W T pr (.c (.exit id)::k) e σ Q=WJ T pr id k e σ Q:=propext ⟨fun⟨e',σ',h,q⟩=>by cases h with | cExit hk h=>exact(Zw id k).2 ⟨_,hk,e',σ',h,q⟩,fun h=>let ⟨_,h1,h2⟩:=(Zw id k).1 h;A9u h1 h2⟩
def Bix(id i:Nat):WJ T pr id (.b i::k) e σ Q=if i=id then W T pr k e σ Q else WJ T pr id k e σ Q:=Br rfl
def Biy(id:Nat)(c:AC):WJ T pr id (.c c::k) e σ Q=WJ T pr id k e σ Q:=Br rfl
def Biz(id:Nat)(kp:List Nat)(c:AC):WJ T pr id (.l kp c::k) e σ Q=WJ T pr id k e σ Q:=Br rfl
def we:WE T pr e k σ Q=W T pr k e σ Q:=Br rfl
def Bap:WR T pr [] kill k e σ Q=WE T pr (e.del kill) k σ Q:=propext ⟨fun⟨_,_,h,q⟩=>by cases h with | opsNil=>exact q,fun h=>⟨_,_,.opsNil,h⟩⟩
def Baq(v:V)(σ1:St)(d:Option Nat):WX T pr (.val v σ1) d l kill k e σ Q=WR T pr l kill k (e.putO d v) σ1 Q:=Br rfl
def A6h(d:Option Nat):WX T pr .fail d l kill k e σ Q=False:=Br rfl
def Ju{f:Nat}{args:List V}{d:Option Nat}{v:V}{σ1:St}(hc:CallS T pr f args σ v σ1)(h:WR T pr l kill k (e.putO d v) σ1 Q):WX T pr (.call f args) d l kill k e σ Q:=⟨v,σ1,hc,h⟩
def Axq{op:AO}{r:V × St}(h:Ae op e σ=some r):B9 e op=none:=by
 cases op with
 | call f xs=>cases h
 | callv x xs=>cases h
 | _=>rfl
def Aj2{i:AI}(hw:Cx e i=some true):WR T pr (i::l) kill k e σ Q=WX T pr (Bg i.op e σ) i.dst l kill k e σ Q:=by
 refine propext ⟨fun⟨e',σ',h,q⟩=>?_,fun h=>?_⟩
 .cases h with
  | opsSkip hw' _=>rw[hw]at hw';cases hw'
  | opsVal _ hv h=>
   unfold Bg;rw[Axq hv,hv];exact⟨_,_,h,q⟩
  | opsPrim _ hc h1 h2 h3 h=>
   unfold Bg;rw[hc];exact⟨_,_,.prim h1 h2 h3,_,_,h,q⟩
  | opsPure _ hc h1 h2 h3 h4 h5 h6 h=>
   unfold Bg;rw[hc];exact⟨_,_,.pure h4 ⟨_,h1,h2,h3,_,_,h5,h6⟩,_,_,h,q⟩
  | opsOwn _ hc h1 h2 h3 hx h4 h=>
   unfold Bg;rw[hc];exact⟨_,_,.own hx ⟨_,h1,h2,h3,h4⟩,_,_,h,q⟩
  | opsAny _ hc h1 h3 h4 h=>
   unfold Bg;rw[hc];exact⟨_,_,.any ⟨_,h1,h3,h4⟩,_,_,h,q⟩
  | opsThr _ hc h1 h2 h3 h4 h=>
   unfold Bg;rw[hc];exact⟨_,_,.thr ⟨_,h1,h2,h3,h4⟩,_,_,h,q⟩
  | opsSpec _ hc h1 h2 h3 h4 h=>
   unfold Bg;rw[hc];exact⟨_,_,.spec h1 h2 h3 h4,_,_,h,q⟩
 .unfold Bg at h
  split at h
  .rename_i f args hc;obtain⟨v,σ1,hs,e',σ',h,q⟩:=h;exact⟨e',σ',(hs.sg hw hc).ev h,q⟩
  .cases hv:Ae i.op e σ with
   | none=>rw[hv]at h;exact h.elim
   | some p=>
    obtain⟨v,σ1⟩:=p;rw[hv]at h;obtain⟨e',σ',h,q⟩:=h;exact⟨e',σ',.opsVal hw hv h,q⟩
def Bi0(d:Nat)(op:AO):WR T pr (o d op::l) kill k e σ Q=WX T pr (Bg op e σ) (some d) l kill k e σ Q:=Aj2 (i:=o d op) rfl
def Be9(op:AO):WR T pr (on op::l) kill k e σ Q=WX T pr (Bg op e σ) none l kill k e σ Q:=Aj2 (i:=on op) rfl
def Aru{i:AI}(hw:Cx e i=some false):WR T pr (i::l) kill k e σ Q=WR T pr l kill k (e.putO i.dst .skp) σ Q:=by
 refine propext ⟨fun⟨e',σ',h,q⟩=>?_,fun⟨e',σ',h,q⟩=>⟨e',σ',.opsSkip hw h,q⟩⟩
 cases h with
 | opsSkip _ h=>exact⟨_,_,h,q⟩
 | opsVal hw'=>rw[hw]at hw';cases hw'
 | opsPrim hw'=>rw[hw]at hw';cases hw'
 | opsPure hw'=>rw[hw]at hw';cases hw'
 | opsOwn hw'=>rw[hw]at hw';cases hw'
 | opsAny hw'=>rw[hw]at hw';cases hw'
 | opsThr hw'=>rw[hw]at hw';cases hw'
 | opsSpec hw'=>rw[hw]at hw';cases hw'
def Av5{i:AI}{t:Nat}{w:Bool}(hg:i.g=some (t,w)):WR T pr (i::l) kill k e σ Q=WD T pr (e.get t) w i.dst i.op l kill k e σ Q:=by
 unfold WD
 have hd:Cx e i=(match e.get t with
  | .bool b=>some (b==w)
  | .skp=>some false
  | _=>none):=by unfold Cx;rw[hg];rfl
 have no:Cx e i=none->WR T pr (i::l) kill k e σ Q=False:=by
  intro hn;refine propext ⟨?_,False.elim⟩;rintro⟨e',σ',h,q⟩
  cases h with
  | opsSkip hw'=>rw[hn]at hw';cases hw'
  | opsVal hw'=>rw[hn]at hw';cases hw'
  | opsPrim hw'=>rw[hn]at hw';cases hw'
  | opsPure hw'=>rw[hn]at hw';cases hw'
  | opsOwn hw'=>rw[hn]at hw';cases hw'
  | opsAny hw'=>rw[hn]at hw';cases hw'
  | opsThr hw'=>rw[hn]at hw';cases hw'
  | opsSpec hw'=>rw[hn]at hw';cases hw'
 split
 .rename_i b hb;rw[hb]at hd;simp only at hd
  split
  .rename_i qd;subst qd;exact Aj2 (by rw[hd];simp)
  .rename_i qd;exact Aru (by rw[hd];simp[qd])
 .rename_i hb;rw[hb]at hd;exact Aru hd
 .rename_i h1 h2;refine no ?_;rw[hd]
  split
  .rename_i b hb;exact absurd hb (h1 b)
  .rename_i hb;exact absurd hb h2
  .rfl
def Bfa(d:Nat)(op:AO)(t:Nat)(w:Bool):WR T pr (og d op t w::l) kill k e σ Q=WD T pr (e.get t) w (some d) op l kill k e σ Q:=Av5 (i:=og d op t w) rfl
def Bfb(op:AO)(t:Nat)(w:Bool):WR T pr (oh op t w::l) kill k e σ Q=WD T pr (e.get t) w none op l kill k e σ Q:=Av5 (i:=oh op t w) rfl
def Bar(w:Bool)(d:Option Nat)(op:AO):WD T pr .skp w d op l kill k e σ Q=WR T pr l kill k (e.putO d .skp) σ Q:=Br rfl
def A6i(x y:AC):WC T pr (.bool true) kill x y k e σ Q=WE T pr (e.del kill) (.c x::k) σ Q:=Br rfl
def A2a(x y:AC):WC T pr (.bool false) kill x y k e σ Q=WE T pr (e.del kill) (.c y::k) σ Q:=Br rfl
def Ov{b:Bool}{x y:AC}(h1:b=true->WE T pr (e.del kill) (.c x::k) σ Q)(h2:b=false->WE T pr (e.del kill) (.c y::k) σ Q):WC T pr (.bool b) kill x y k e σ Q:=by
 cases b
 .exact h2 rfl
 .exact h1 rfl
end
/-! only the first part is looked at while it is reckoned -/
section
variable {Q:Env->St->Prop} {e e':Env} {σ σ':St} {k:List It} {l:List AI} {kill:List Nat}
@[congr] theorem Bkq (h:e=e'):W T pr k e σ Q=W T pr k e' σ Q:=by rw[h]
@[congr] theorem Bkk (h:e=e'):WE T pr e k σ Q=WE T pr e' k σ Q:=by rw[h]
@[congr] theorem Bkl {r r':Rs} {d:Option Nat} (h:r=r'):WX T pr r d l kill k e σ Q=WX T pr r' d l kill k e σ Q:=by rw[h]
@[congr] theorem Bkm {g g':V} {w:Bool} {d:Option Nat} {op:AO} (h:g=g'):WD T pr g w d op l kill k e σ Q=WD T pr g' w d op l kill k e σ Q:=by rw[h]
@[congr] theorem Bkn {g g':V} {x y:AC} (h:g=g'):WC T pr g kill x y k e σ Q=WC T pr g' kill x y k e σ Q:=by rw[h]
end
variable {T:Nat->Option AF} {pr:Nat->Option (List V->Option V)}
inductive Kd where
 | pu | rd | ef
def kd:AO->Kd
 | .new _ _ | .box _ _ | .store _ _ _ | .app _ _ _ _ | .apps _ _ _ | .rowf _ _ _ | .rowo _ _ _ _ | .mk _ _ _ _ _ | .stb _ _ | .mmk | .mup _ _ _ | .call _ _ | .callv _ _=>.ef
 | .load _ _ _ | .mlk _ _ _ | .bts _ | .cvl _=>.rd
 | _=>.pu
def Bfc{op:AO}(h:kd op=.pu):F8 T pr op=0:=by
 cases op<;>simp[kd]at h<;>simp[F8]
def Bfd{op:AO}(h:kd op=.rd){e:Env}{σ σ1:St}{v:V}(hv:Ae op e σ=some (v,σ1)):σ1=σ:=by
 cases op with
 | load n one x=>
  simp only[Ae,Bu]at hv;obtain⟨_,_,h⟩:=hv;cases h;rfl
 | mlk z x k=>
  simp only[Ae]at hv
  split at hv
  .split at hv
   .cases hv;rfl
   .cases hv
  .cases hv
 | bts x=>
  simp only[Ae,Ef,Bu]at hv;obtain⟨_,_,_,_,h⟩:=hv;cases h;rfl
 | cvl x=>
  simp only[Ae]at hv
  split at hv
  .split at hv
   .split at hv
    .cases hv;rfl
    .cases hv
   .cases hv
  .cases hv
 | _=>simp[kd]at h
def CallP(T:Nat->Option AF)(pr:Nat->Option (List V->Option V))(f:Nat)(vs:List V)(v:V):Prop:=(∃ s,pr f=some s/\s vs=some v)\/Fn T pr f vs v
def CallP.sg{i:AI}{f:Nat}{args vs:List V}{e:Env}{σ:St}{v:V}(h:CallP T pr f vs v)(hw:Cx e i=some true)(hc:B9 e i.op=some (f,args))(hx:Dr σ args=some vs):Sg T pr i e σ v (after σ args v):=by
 rcases h with⟨s,h1,h2⟩ | h
 .exact .prim hw hc h1 hx h2
 .exact .pure hw hc hx h
def M3(qa:List (List Nat))(n m:Nat)(i:AI)(z:Kd)(v:V)(σ1:St)(e:Env)(σ:St)(fs:Fs)(ls:Ls)(K:Env->St->Fs->Ls->Prop):Prop:=
 match z with
 | .pu=>K (e.putO i.dst v) σ fs ls
 | .rd=>Xa qa n m (fun s=>Ae i.op e s=some (v,s)) fs/\K (e.putO i.dst v) σ fs ((m,fun s=>Ae i.op e s=some (v,s))::ls)
 | .ef=>O3 qa n m fs/\O4 qa n m σ σ1 ls/\K (e.putO i.dst v) σ1 ((m,σ,σ1)::fs) ls
def G5(T:Nat->Option AF)(pr:Nat->Option (List V->Option V))(qa:List (List Nat))(n m:Nat)(i:AI)(r:Rs)(e:Env)(σ:St)(fs:Fs)(ls:Ls)(K:Env->St->Fs->Ls->Prop):Prop:=
 match r with
 | .val v σ1=>M3 qa n m i (kd i.op) v σ1 e σ fs ls K
 | .call f args=>(∃ v vs,Ah args=[]/\Dr σ args=some vs/\CallP T pr f vs v/\K (e.putO i.dst v) σ fs ls) \/
   (∃ v vs,Dr σ args=some vs/\CallP T pr f vs v/\v.flatV=true/\Xa qa n m (fun s=>Dr s args=some vs) fs/\K (e.putO i.dst v) σ fs ((m,fun s=>Dr s args=some vs)::ls)) \/
   (∃ v σ1,CallS T pr f args σ v σ1/\O3 qa n m fs/\O4 qa n m σ σ1 ls/\K (e.putO i.dst v) σ1 ((m,σ,σ1)::fs) ls)
 | .fail=>False
def Jk(T:Nat->Option AF)(pr:Nat->Option (List V->Option V))(qa:List (List Nat))(n m:Nat)(i:AI)(g:Option V)(w:Bool)(e:Env)(σ:St)(fs:Fs)(ls:Ls)(K:Env->St->Fs->Ls->Prop):Prop:=
 match g with
 | none=>G5 T pr qa n m i (Bg i.op e σ) e σ fs ls K
 | some (.bool b)=>if b=w then G5 T pr qa n m i (Bg i.op e σ) e σ fs ls K else K (e.putO i.dst .skp) σ fs ls
 | some .skp=>K (e.putO i.dst .skp) σ fs ls
 | some _=>False
def wg(T:Nat->Option AF)(pr:Nat->Option (List V->Option V))(qa:List (List Nat))(n:Nat)(kill:List Nat)(k:List It)(Q:Env->St->Prop):Nat->List AI->Env->St->Fs->Ls->Prop
 | _,[],e,σ,_,_=>WE T pr (e.del kill) k σ Q
 | m,i::l,e,σ,fs,ls=>Jk T pr qa n m i (i.g.map fun p=>e.get p.1) ((i.g.map fun p=>p.2).getD true) e σ fs ls (wg T pr qa n kill k Q (m+1) l)
section
variable {Q:Env->St->Prop} {e:Env} {σ:St} {k:List It} {kill:List Nat} {qa:List (List Nat)} {n:Nat}
def Ath{m:Nat}{i:AI}{l:List AI}{fs:Fs}{ls:Ls}{K:Env->St->Prop}{P:Env->St->Fs->Ls->Prop}(hP:∀ e σ fs ls,P e σ fs ls->WG T pr qa n (m+1) l e σ fs ls K)
  (hw:Cx e i=some true) (h:G5 T pr qa n m i (Bg i.op e σ) e σ fs ls P):WG T pr qa n m (i::l) e σ fs ls K:=by
 unfold Bg at h
 split at h
 .rename_i f args hc;rcases h with⟨v,vs,h1,h2,h3,h4⟩ | ⟨v,vs,h1,h2,h3,h4,h5⟩ | ⟨v,σ1,h1,h2,h3,h4⟩
  .refine Adg (fun s=>?_) (hP _ _ _ _ h4);have:=h3.sg (σ:=s) hw hc ((Ab9 h1 s).trans h2);rw[Ve h1]at this;exact this
  .obtain⟨e',σ',h,q⟩:=hP _ _ _ _ h5;refine⟨e',σ',.read (fun s=>Dr s args=some vs) h1 (fun s hs=>?_) (Ah7 h4) h,q⟩;have:=h2.sg (σ:=s) hw hc hs;unfold after at this;rw[if_pos h3]at this;exact this
  .exact Atg (h1.sg hw hc) h2 h3 (hP _ _ _ _ h4)
 .cases hv:Ae i.op e σ with
  | none=>rw[hv]at h;exact h.elim
  | some p=>
   obtain⟨v,σ1⟩:=p;rw[hv]at h;simp only[r2,G5]at h;unfold M3 at h
   split at h
   .rename_i hk;obtain⟨rfl,qf⟩:=Abj (Bfc (T:=T) (pr:=pr) hk) hv;exact A9x hw qf (hP _ _ _ _ h)
   .rename_i hk;obtain rfl:=Bfd hk hv;exact Bd6 hw hv h.1 (hP _ _ _ _ h.2)
   .exact A9y hw hv h.1 h.2.1 (hP _ _ _ _ h.2.2)
def Uc:∀ (l:List AI) (m:Nat) (e:Env) (σ:St) (fs:Fs) (ls:Ls),wg T pr qa n kill k Q m l e σ fs ls->WG T pr qa n m l e σ fs ls fun e1 σ1=>W T pr k (e1.del kill) σ1 Q
 | [],m,e,σ,fs,ls,h=>A9w h
 | i::l,m,e,σ,fs,ls,h=>by
  unfold wg at h;unfold Jk at h
  split at h
  .rename_i hg;refine Ath (fun e σ fs ls=>Uc l (m+1) e σ fs ls) ?_ h;simp only[Option.map_eq_none_iff]at hg;unfold Cx;rw[hg]
  .rename_i b hg;obtain⟨p,hp,hb⟩:=Bu.1 hg
   split at h
   .rename_i qd;refine Ath (fun e σ fs ls=>Uc l (m+1) e σ fs ls) ?_ h;unfold Cx;obtain⟨t,w⟩:=p;rw[hp]at qd ⊢;simp only at hb;simp only[hb];simp at qd;simp[qd]
   .rename_i qd;refine Adg (fun s=>.off ?_) (Uc l (m+1) _ _ _ _ h);unfold Cx;obtain⟨t,w⟩:=p;rw[hp]at qd ⊢;simp only at hb;simp only[hb];simp at qd;simp[qd]
  .rename_i hg;obtain⟨p,hp,hb⟩:=Bu.1 hg;refine Adg (fun s=>.off ?_) (Uc l (m+1) _ _ _ _ h);unfold Cx;obtain⟨t,w⟩:=p;rw[hp];simp only at hb;simp only[hb]
  .exact h.elim
def Ag{ops:List AI}(qv:Ns qa ops=true)(h:wg T pr qa ops.length kill k Q 0 ops e σ [] []):W T pr (.c (.drw kill qa ops)::k) e σ Q:=
 A9v qv fun _ hK=>by
  obtain⟨e',σ',h,q⟩:=Uc _ _ _ _ _ _ h;exact⟨e',σ',h,hK _ _ q⟩
variable {m:Nat} {l:List AI} {fs:Fs} {ls:Ls} {K:Env->St->Fs->Ls->Prop}
def Bas:wg T pr qa n kill k Q m [] e σ fs ls=WE T pr (e.del kill) k σ Q:=Br rfl
def Bi1(d:Nat)(op:AO):wg T pr qa n kill k Q m (o d op::l) e σ fs ls=G5 T pr qa n m (o d op) (Bg op e σ) e σ fs ls (wg T pr qa n kill k Q (m+1) l):=Br rfl
def Bfe(op:AO):wg T pr qa n kill k Q m (on op::l) e σ fs ls=G5 T pr qa n m (on op) (Bg op e σ) e σ fs ls (wg T pr qa n kill k Q (m+1) l):=Br rfl
def Bff(d:Nat)(op:AO)(t:Nat)(w:Bool):wg T pr qa n kill k Q m (og d op t w::l) e σ fs ls=Jk T pr qa n m (og d op t w) (some (e.get t)) w e σ fs ls (wg T pr qa n kill k Q (m+1) l):=Br rfl
def Bfg(op:AO)(t:Nat)(w:Bool):wg T pr qa n kill k Q m (oh op t w::l) e σ fs ls=Jk T pr qa n m (oh op t w) (some (e.get t)) w e σ fs ls (wg T pr qa n kill k Q (m+1) l):=Br rfl
def Bfh(d:Nat)(op:AO)(v:V)(σ1:St):G5 T pr qa n m (o d op) (.val v σ1) e σ fs ls K=M3 qa n m (o d op) (kd op) v σ1 e σ fs ls K:=Br rfl
def Bat(op:AO)(v:V)(σ1:St):G5 T pr qa n m (on op) (.val v σ1) e σ fs ls K=M3 qa n m (on op) (kd op) v σ1 e σ fs ls K:=Br rfl
def Bau(d:Nat)(op:AO)(t:Nat)(w:Bool)(v:V)(σ1:St):G5 T pr qa n m (og d op t w) (.val v σ1) e σ fs ls K=M3 qa n m (og d op t w) (kd op) v σ1 e σ fs ls K:=Br rfl
def Bav(op:AO)(t:Nat)(w:Bool)(v:V)(σ1:St):G5 T pr qa n m (oh op t w) (.val v σ1) e σ fs ls K=M3 qa n m (oh op t w) (kd op) v σ1 e σ fs ls K:=Br rfl
def Baw(d:Nat)(op:AO)(t:Nat):Jk T pr qa n m (og d op t true) (some (.bool true)) true e σ fs ls K=G5 T pr qa n m (og d op t true) (Bg op e σ) e σ fs ls K:=Br rfl
def Bax(d:Nat)(op:AO)(t:Nat):Jk T pr qa n m (og d op t false) (some (.bool false)) false e σ fs ls K=G5 T pr qa n m (og d op t false) (Bg op e σ) e σ fs ls K:=Br rfl
def Bay(d:Nat)(op:AO)(t:Nat):Jk T pr qa n m (og d op t false) (some (.bool true)) false e σ fs ls K=K (e.put d .skp) σ fs ls:=Br rfl
def Baz(d:Nat)(op:AO)(t:Nat):Jk T pr qa n m (og d op t true) (some (.bool false)) true e σ fs ls K=K (e.put d .skp) σ fs ls:=Br rfl
def Bfi(d:Nat)(op:AO)(t:Nat)(w:Bool):Jk T pr qa n m (og d op t w) (some .skp) w e σ fs ls K=K (e.put d .skp) σ fs ls:=Br rfl
def Ba0(op:AO)(t:Nat):Jk T pr qa n m (oh op t true) (some (.bool true)) true e σ fs ls K=G5 T pr qa n m (oh op t true) (Bg op e σ) e σ fs ls K:=Br rfl
def Ba1(op:AO)(t:Nat):Jk T pr qa n m (oh op t false) (some (.bool false)) false e σ fs ls K=G5 T pr qa n m (oh op t false) (Bg op e σ) e σ fs ls K:=Br rfl
def Ba2(op:AO)(t:Nat):Jk T pr qa n m (oh op t false) (some (.bool true)) false e σ fs ls K=K e σ fs ls:=Br rfl
def Ba3(op:AO)(t:Nat):Jk T pr qa n m (oh op t true) (some (.bool false)) true e σ fs ls K=K e σ fs ls:=Br rfl
def Bfj(op:AO)(t:Nat)(w:Bool):Jk T pr qa n m (oh op t w) (some .skp) w e σ fs ls K=K e σ fs ls:=Br rfl
def Ba4{i:AI}(v:V)(σ1:St):M3 qa n m i .pu v σ1 e σ fs ls K=K (e.putO i.dst v) σ fs ls:=Br rfl
def Ba5{i:AI}(v:V)(σ1:St):M3 qa n m i .rd v σ1 e σ [] ls K=K (e.putO i.dst v) σ [] ((m,fun s=>Ae i.op e s=some (v,s))::ls):=propext ⟨fun h=>h.2,fun h=>⟨trivial,h⟩⟩
def Ba6{i:AI}(v:V)(σ1:St):M3 qa n m i .ef v σ1 e σ [] [] K=K (e.putO i.dst v) σ1 [(m,σ,σ1)] []:=propext ⟨fun h=>h.2.2,fun h=>⟨trivial,trivial,h⟩⟩
def Tm{i:AI}{v:V}{σ1:St}(h1:O3 qa n m fs)(h2:O4 qa n m σ σ1 ls)(h:K (e.putO i.dst v) σ1 ((m,σ,σ1)::fs) ls):M3 qa n m i .ef v σ1 e σ fs ls K:=⟨h1,h2,h⟩
end
/-! settled values go over as they are -/
def Dl:V->Bool
 | .agg cs=>cs.all V.rowB
 | .imm _ _=>true
 | v=>v.rowB
def Vg{v:V}(h:v.rowB=true):v.refs=[]:=by cases v<;>simp[V.rowB]at h<;>rfl
def G8:∀ {cs:List V},cs.all V.rowB=true->Ah cs=[]
 | [],_=>rfl
 | c::cs,h=>by
  simp only[Aw,Af]at h;simp only[Ah,Vg h.1,G8 h.2,B3]
def Vh{v:V}(h:Dl v=true):v.refs=[]:=by
 unfold Dl at h
 split at h
 .exact G8 h
 .rfl
 .exact Vg h
def S8:∀ {vs:List V},vs.all Dl=true->Ah vs=[]
 | [],_=>rfl
 | c::cs,h=>by
  simp only[Aw,Af]at h;simp only[Ah,Vh h.1,S8 h.2,B3]
def Sz{σ:St}{js:List Nat}{d:Nat}{v:V}(h:v.rowB=true):Fa σ js (d+1) v=some v:=by
 unfold Fa;rw[if_pos h]
def Tn{f:V->Option V}:∀ {cs:List V},(∀ c∈cs,f c=some c)->cs.mapM f=some cs
 | [],_=>rfl
 | c::cs,h=>by
  rw[H0,h c C5,Tn fun c hc=>h c (C4 _ hc)];rfl
def Xz{σ:St}{js:List Nat}{v:V}(h:Dl v=true):Gj σ js v=some v:=by
 unfold Dl at h
 split at h
 .rename_i cs;simp only[Gj];rw[Tn fun c hc=>Sz (Bp.1 h c hc)];rfl
 .rfl
 .rename_i h1 h2;unfold Gj
  split
  .exact absurd rfl (h2 _ _)
  .exact absurd rfl (h1 _)
  .exact Sz h
def Vq{σ:St}{vs:List V}(h:vs.all Dl=true):Dr σ vs=some vs:=Tn fun c hc=>Xz (Bp.1 h c hc)
section
variable {Q:Env->St->Prop} {e:Env} {σ:St} {k:List It} {l:List AI} {kill:List Nat} {f:Nat} {vs:List V} {v:V} {d:Option Nat}
def Ad(hf:Fn T pr f vs v)(hs:vs.all Dl=true)(h:WR T pr l kill k (e.putO d v) σ Q):WX T pr (.call f vs) d l kill k e σ Q:=
 Ju (.pure (Vq hs) hf) (by rw[Ve (S8 hs)];exact h)
def F7{s:List V->Option V}(hp:pr f=some s)(hs:vs.all Dl=true)(hv:s vs=some v)(h:WR T pr l kill k (e.putO d v) σ Q):WX T pr (.call f vs) d l kill k e σ Q:=
 Ju (.prim hp (Vq hs) hv) (by rw[Ve (S8 hs)];exact h)
def Ck{σ1:St}(hf:Th T pr f vs σ v σ1)(h:WR T pr l kill k (e.putO d v) σ1 Q):WX T pr (.call f vs) d l kill k e σ Q:=Ju (.thr hf) h
def Ac{σ1:St}(hf:Bv T pr f vs σ v σ1)(h:WR T pr l kill k (e.putO d v) σ1 Q):WX T pr (.call f vs) d l kill k e σ Q:=Ju (.any hf) h
variable {qa:List (List Nat)} {n m:Nat} {fs:Fs} {ls:Ls} {K:Env->St->Fs->Ls->Prop} {i:AI}
def Bk(hf:Fn T pr f vs v)(hs:vs.all Dl=true)(h:K (e.putO i.dst v) σ fs ls):G5 T pr qa n m i (.call f vs) e σ fs ls K:=.inl ⟨v,vs,S8 hs,Vq hs,.inr hf,h⟩
def Ati{s:List V->Option V}(hp:pr f=some s)(hs:vs.all Dl=true)(hv:s vs=some v)(h:K (e.putO i.dst v) σ fs ls):G5 T pr qa n m i (.call f vs) e σ fs ls K:=.inl ⟨v,vs,S8 hs,Vq hs,.inl ⟨s,hp,hv⟩,h⟩
def Adh{σ1:St}(hf:Th T pr f vs σ v σ1)(h1:O3 qa n m fs)(h2:O4 qa n m σ σ1 ls)(h:K (e.putO i.dst v) σ1 ((m,σ,σ1)::fs) ls):G5 T pr qa n m i (.call f vs) e σ fs ls K:=.inr (.inr ⟨v,σ1,.thr hf,h1,h2,h⟩)
end
/-! ends -/
def FR(v0:V)(σ1:St)(v:V):Prop:=(Cm v0=true/\v0.refs=[]/\Ex [] v0=some v)\/∃ js,H2 0 js v0 σ1=true/\Ex ((js.filterMap (σ1[·]?)).map (Ob.ren (ren 0 js))) (v0.ren (ren 0 js))=some v
def FL(o:Option V)(σ1:St)(v:V):Prop:=∃ v0,o=some v0/\FR v0 σ1 v
def FQ(res:List AR)(v:V)(e:Env)(σ:St):Prop:=FL (Cd e σ res) σ v
def Bo{f p:Nat}{res:List AR}{body:AC}{vs:List V}{v:V}(hT:T f=some ⟨p,res,false,body,none⟩)(hl:vs.length=p)(h:W T pr [.c body] (Dd 0 vs) [] (FQ res v)):Fn T pr f vs v:=by
 obtain⟨e',σ',hE,v0,hr,h1 | ⟨js,h1,h2⟩⟩:=h
 .exact Ape hT rfl rfl hl ⟨e',σ',hE,v0,hr,h1⟩
 .exact Azm hT rfl rfl hl ⟨e',σ',hE,v0,js,hr,h1,h2⟩
def Bi2(r:AR)(v:V)(e:Env)(σ:St):FQ [r] v e σ=FL (Gl e σ r) σ v:=Br rfl
def Bi3(r s:AR)(v:V)(e:Env)(σ:St):FQ [r,s] v e σ=FL ((Gl e σ r).bind fun a=>(Gl e σ s).map fun b=>.tup [a,b]) σ v:=by
 simp only[FQ,Cd,H0,Abb]
 cases Gl e σ r with
 | none=>rfl
 | some a=>cases Gl e σ s<;>rfl
def Bi4(r s t:AR)(v:V)(e:Env)(σ:St):FQ [r,s,t] v e σ=FL ((Gl e σ r).bind fun a=>(Gl e σ s).bind fun b=>(Gl e σ t).map fun c=>.tup [a,b,c]) σ v:=by
 simp only[FQ,Cd,H0,Abb]
 cases Gl e σ r with
 | none=>rfl
 | some a=>
  cases Gl e σ s with
  | none=>rfl
  | some b=>cases Gl e σ t<;>rfl
def A6j(v0 v:V)(σ:St):FL (some v0) σ v=FR v0 σ v:=propext ⟨fun⟨_,h,q⟩=>by cases h;exact q,fun h=>⟨_,rfl,h⟩⟩
def Yy{v:V}(h:Dl v=true):H8 v=true:=by
 unfold Dl at h
 split at h
 .rename_i cs;simp only[H8];rw[Bp]at h ⊢;intro c hc;have:=h c hc
  cases c<;>simp[V.rowB]at this<;>rfl
 .rfl
 .cases v<;>simp[V.rowB]at h<;>rfl
def Gm{v:V}{σ:St}(h:Dl v=true):FR v σ v:=by
 refine .inl ⟨?_,Vh h,?_⟩
 .cases v with
  | tup vs=>simp[Dl,V.rowB]at h
  | _=>exact Yy h
 .unfold Ex K3
  split
  .simp[Dl,V.rowB]at h
  .exact Xz h
def Hk{vs:List V}{σ:St}(h:vs.all Dl=true):FR (.tup vs) σ (.tup vs):=by
 refine .inl ⟨?_,S8 h,?_⟩
 .simp only[Cm];rw[Bp]at h ⊢;exact fun c hc=>Yy (h c hc)
 .simp only[Ex,K3];rw[Tn fun c hc=>Xz (Bp.1 h c hc)];rfl
def An{v v':V}{σ:St}(h:Dl v=true)(he:v=v'):FR v σ v':=he ▸ Gm h
def TQ(res:List AR)(σ:St)(v:V)(σ':St)(e:Env)(σ1:St):Prop:=Cd e σ1 res=some v/\Akv σ.length σ v σ1/\σ'=σ1.take σ.length
def Bl{keep:List Nat}{c c':AC}{k:List It}{e:Env}{σ:St}{Q:Env->St->Prop}(hc:c=c')(h:WE T pr (e.keep keep) (.c c'::.l keep c::k) σ Q):W T pr (.l keep c::k) e σ Q:=by
 subst hc;rw[A6g];exact h
section
variable {qa:List (List Nat)} {n m:Nat} {e:Env} {σ:St} {fs:Fs} {ls:Ls} {K:Env->St->Fs->Ls->Prop} {i:AI}
@[congr] theorem Bkh {r r':Rs} (h:r=r'):G5 T pr qa n m i r e σ fs ls K=G5 T pr qa n m i r' e σ fs ls K:=by rw[h]
@[congr] theorem Bki {g g':Option V} {w:Bool} (h:g=g'):Jk T pr qa n m i g w e σ fs ls K=Jk T pr qa n m i g' w e σ fs ls K:=by rw[h]
end
variable {T:Nat->Option AF} {pr:Nat->Option (List V->Option V)}
def TR(v0:V)(σ:St)(v:V)(σ' σ1:St):Prop:=v0=v/\Akv σ.length σ v σ1/\σ'=σ1.take σ.length
def Ba7(a b:Nat)(l:List Nat):List.elem a (b::l)=if a=b then true else List.elem a l:=by
 by_cases h:a=b
 .simp[h]
 .simp[h]
def Ba8(a:Nat):List.elem a []=false:=rfl
def Bfk(m n:Nat)(u v:V)(r:Env):Env.put ((m,u)::r) n v=if m=n then(n,v)::r else(m,u)::Env.put r n v:=Br rfl
def Bfl(n:Nat)(v:V):Env.put [] n v=[(n,v)]:=Br rfl
def Bfm(m:Nat)(u:V)(r:Env)(ks:List Nat):Env.del ((m,u)::r) ks=if ks.elem m=true then Env.del r ks else(m,u)::Env.del r ks:=Br rfl
def Bfn(ks:List Nat):Env.del [] ks=[]:=Br rfl
def Ba9(e:Env)(n:Nat)(ks:List Nat):e.keep (n::ks)=(n,e.get n)::e.keep ks:=Br rfl
def Bba(e:Env):e.keep []=[]:=Br rfl
def Bfo(n:Nat):Env.get [] n=.und:=rfl
section
variable {Q:Env->St->Prop} {e:Env} {σ:St} {k:List It} {l:List AI} {kill:List Nat}
def Bfp(d:Option Nat)(op:AO):WD T pr (.bool true) true d op l kill k e σ Q=WX T pr (Bg op e σ) d l kill k e σ Q:=Br rfl
def Bfq(d:Option Nat)(op:AO):WD T pr (.bool false) false d op l kill k e σ Q=WX T pr (Bg op e σ) d l kill k e σ Q:=Br rfl
def Bfr(d:Option Nat)(op:AO):WD T pr (.bool true) false d op l kill k e σ Q=WR T pr l kill k (e.putO d .skp) σ Q:=Br rfl
def Bfs(d:Option Nat)(op:AO):WD T pr (.bool false) true d op l kill k e σ Q=WR T pr l kill k (e.putO d .skp) σ Q:=Br rfl
end
def Bft(d:Nat)(op:AO):(o d op).dst=some d:=rfl
def Bbb(op:AO):(on op).dst=none:=rfl
def Bbc(d:Nat)(op:AO)(t:Nat)(w:Bool):(og d op t w).dst=some d:=rfl
def Bbd(op:AO)(t:Nat)(w:Bool):(oh op t w).dst=none:=rfl
def Li(o:Option Ob)(g n:Nat)(one:Bool)(off:Nat):Option V:=
 match o with
 | some (.row cs _ g' _)=>if g=g'/\off+n<=cs.length then G0 one ((cs.drop off).take n) else none
 | _=>none
def Aef(cs:List V)(e g' z g n:Nat)(one:Bool)(off:Nat):Li (some (.row cs e g' z)) g n one off=if g=g'/\off+n<=cs.length then G0 one ((cs.drop off).take n) else none:=Br rfl
def Bbe(σ:St)(n:Nat)(one:Bool)(i g off:Nat):Ib σ n one (.ptr i g off)=Li σ[i]? g n one off:=Br rfl
def Bbf(σ:St)(n:Nat)(one:Bool)(row:List V)(off:Nat):Ib σ n one (.imm row off)=if off+n<=row.length then G0 one ((row.drop off).take n) else none:=Br rfl
def Z9(o:Option Ob)(σ:St)(n i g off:Nat)(v:V):Option (V × St):=
 match o with
 | some (.row cs e g' z)=>if g=g'/\z<=off/\v.cells.length=n/\v.cells.all V.cellB=true then(Or cs off v.cells).map fun cs'=>(.und,σ.set i (.row cs' e g z)) else none
 | _=>none
def Bbg(cs:List V)(e g' z:Nat)(σ:St)(n i g off:Nat)(v:V):Z9 (some (.row cs e g' z)) σ n i g off v=if g=g'/\z<=off/\v.cells.length=n/\v.cells.all V.cellB=true then(Or cs off v.cells).map fun cs'=>(.und,σ.set i (.row cs' e g z)) else none:=Br rfl
def Au9(σ:St)(n i g off:Nat)(v:V):Aew n (.ptr i g off) v σ=Z9 σ[i]? σ n i g off v:=by
 simp only[Aew,Pq,Z9]
 cases σ[i]? with
 | none=>rfl
 | some ob=>
  cases ob with
  | row cs e g' z=>
   simp only
   split
   .cases Or cs off v.cells<;>rfl
   .rfl
  | _=>rfl
def Bfu:Mx .nils=some (.int .i64 0):=rfl
def Bfv(t:Nat)(xs:List (List V)):Mx (.lst t xs)=some (.int .i64 (xs.length:Int)):=rfl
def Ava(i g off len m:Nat)(w:Bool):Mx (.sl i g off len m w)=some (.int .i64 (len:Int)):=rfl
def Bfw(m t:Nat)(xs:List (List V))(i:V):Ly m (.lst t xs) i=(Ji xs i).bind fun r=>if r.length=m then some (.imm r 0) else none:=Br rfl
def Bfx(m j g off len m':Nat)(w:Bool)(k:IntKind)(n:Int):Ly m (.sl j g off len m' w) (.int k n)=if 0<=n/\n<len/\m=m' then some (.ptr j g (off+n.toNat*m)) else none:=Br rfl
def Bfy(off:Nat)(r:List V)(o:Nat):Aex off (.imm r o)=some (.imm r (o+off)):=Br rfl
def Bfz(off b g o:Nat):Aex off (.ptr b g o)=some (.ptr b g (o+off)):=Br rfl
def Bf0(off n:Nat)(one:Bool)(cs:List V):Ak4 off n one (.agg cs)=if off+n<=cs.length then G0 one ((cs.drop off).take n) else none:=Br rfl
def A6k(k:IntKind)(n:Int):V.cells (.int k n)=[.int k n]:=rfl
def A6l(l:List UInt8):V.cells (.str l)=[.str l]:=rfl
def A6m(b:Bool):V.cells (.bool b)=[.bool b]:=rfl
def A6n:V.cells .nils=[.nils]:=rfl
def A6o(t:Nat)(xs:List (List V)):V.cells (.lst t xs)=[.lst t xs]:=rfl
def A2b(i g o l m:Nat)(w:Bool):V.cells (.sl i g o l m w)=[.sl i g o l m w]:=rfl
def A6p(i g o:Nat):V.cells (.ptr i g o)=[.ptr i g o]:=rfl
def A2c:V.cells .nilp=[.nilp]:=rfl
def Azr(r:List V)(o:Nat):V.cells (.imm r o)=[.imm r o]:=rfl
def A2d(f:Nat)(a c:List V):V.cells (.fn f a c)=[.fn f a c]:=rfl
def A2e(i:Nat):V.cells (.mp i)=[.mp i]:=rfl
def A6q(cs:List V):V.cells (.agg cs)=cs:=rfl
def Bbh(σ:St)(m:Nat):Ea σ m .nils=some []:=Br rfl
def Bbi(σ:St)(m t:Nat)(xs:List (List V)):Ea σ m (.lst t xs)=some xs:=Br rfl
def mk1(c:V):G0 true [c]=some c:=rfl
def mkA(cs:List V):G0 false cs=some (.agg cs):=rfl
def Ah8(s l:St)(n:Nat):(s++l)[s.length+n]?=l[n]?:=by rw[Co (by omega)];congr 1;omega
def Q3(s l:St):(s++l)[s.length]?=l[0]?:=by rw[Co (by omega)];congr 1;omega
def A6r(s l:St)(n:Nat)(x:Ob):(s++l).set (s.length+n) x=s++l.set n x:=by simp[List.set_append]
def A2f(s l:St)(x:Ob):(s++l).set s.length x=s++l.set 0 x:=by simp[List.set_append]
def Ah9{α:Type}(l:List α)(k:IntKind)(n:Nat):Ji l (.int k (n:Int))=l[n]?:=by
 simp only[Ji];rw[if_pos (by omega),Md]
def Ch{n:Int}(h : -9223372036854775808<=n/\n<=9223372036854775807):IntKind.i64.wrap n=n:=Go.IntWalk.i64_in _ h
def A6s{n:Int}(h1 : -9223372036854775808<=n)(h2:n<=9223372036854775807):IntKind.i64.wrap n=n:=Ch ⟨h1,h2⟩
def Bi5(t:Nat)(v:V)(σ σ' σ1:St)(e:Env):TQ [.tmp t] σ v σ' e σ1=TR (e.get t) σ v σ' σ1:=Br (propext ⟨fun⟨h1,h2⟩=>⟨Jo h1,h2⟩,fun⟨h1,h2⟩=>⟨congrArg some h1,h2⟩⟩)
def A2{i:Nat}(h:i<9223372036854775807):IntKind.i64.wrap ((i:Int)+1)=((i+1:Nat):Int):=by rw[Ch (by omega)];rfl
def A0{i n:Nat}(h:i<n):decide ((i:Int)<(n:Int))=true:=by simpa using h
def Bq{i n:Nat}(h:n<=i):decide ((i:Int)<(n:Int))=false:=by simpa using h
def By{α:Type}{l:List α}{i:Nat}(h:i<l.length):∃ x,l[i]?=some x/\l.drop i=x::l.drop (i+1)/\x∈l:=⟨l[i],Bc h,Fd h,Fy h⟩
def Bn{keep:List Nat}{c:AC}{k:List It}{Q:Env->St->Prop}{α:Type}(μ:α->Nat)(E:α->Env)(Z:α->St)(I:α->Prop)
  (h:∀ a,I a->(∀ b,μ b<μ a->I b->W T pr (.l keep c::k) (E b) (Z b) Q)->W T pr (.l keep c::k) (E a) (Z a) Q):∀ a,I a->W T pr (.l keep c::k) (E a) (Z a) Q:=by
 suffices ∀ n a,μ a=n->I a->W T pr (.l keep c::k) (E a) (Z a) Q from fun a=>this _ a rfl
 intro n
 induction n using Nat.strongRecOn with
 | _ n ih=>exact fun a hm hI=>h a hI fun b hb=>ih (μ b) (hm ▸ hb) b rfl
def Bi6(cs:List V):Dl (.agg cs)=cs.all V.rowB:=rfl
def Bi7(r:List V)(o:Nat):Dl (.imm r o)=true:=rfl
def Av6(k:IntKind)(n:Int):Dl (.int k n)=true:=rfl
def Bi8(l:List UInt8):Dl (.str l)=true:=rfl
def Bi9(b:Bool):Dl (.bool b)=true:=rfl
def Bja:Dl .nils=true:=rfl
def Bjb:Dl .nili=true:=rfl
def Bjc(t:Nat)(xs:List (List V)):Dl (.lst t xs)=true:=rfl
/-! settled slices -/
def SL(z:Bool)(t:Nat)(xs:List (List V)):V:=if z=true/\xs=[] then .nils else .lst t xs
def Is(z:Bool)(t:Nat)(xs:List (List V)):(SL z t xs).rowB=true:=by unfold SL;split<;>rfl
def Aia(z:Bool)(t:Nat)(xs:List (List V)):(SL z t xs).cellB=true:=by unfold SL;split<;>rfl
def Adi(z:Bool)(t:Nat)(xs:List (List V)):Dl (SL z t xs)=true:=by unfold SL;split<;>rfl
def A2g(z:Bool)(t:Nat)(xs:List (List V)):(SL z t xs).cells=[SL z t xs]:=by unfold SL;split<;>rfl
def Atj(z:Bool)(t:Nat)(xs:List (List V)):Mx (SL z t xs)=some (.int .i64 (xs.length:Int)):=by
 unfold SL
 split
 .rename_i h;rw[h.2];rfl
 .rfl
def Ai1(z:Bool)(t:Nat)(xs:List (List V))(m:Nat)(i:V):Ly m (SL z t xs) i=(Ji xs i).bind fun r=>if r.length=m then some (.imm r 0) else none:=by
 unfold SL
 split
 .rename_i h;rw[h.2]
  cases i<;>simp[Ly,Ji]
 .rfl
def Acu(z:Bool)(t:Nat)(xs:List (List V))(σ:St)(m:Nat):Ea σ m (SL z t xs)=some xs:=by
 unfold SL
 split
 .rename_i h;rw[h.2];rfl
 .rfl
attribute [go_sem] Nat.reduceEqDiff reduceIte Nat.reduceAdd Nat.reduceMul Nat.reduceLeDiff Int.reduceLT Int.reduceLE Int.reduceToNat Int.reduceAdd Int.reduceNeg Int.reduceEq
attribute [go_sem ↓] Aj1 Bal Au7 Be6 Bam Au8 Be7 Be8 Ban Bao Bix Biy Biz Bap Bi0 Be9 Bfa Bfb Bas Bi1 Bfe Bff Bfg Bed Bee get_put A19 Azp Azq Bi2 Bi3 Bi4 Bi5
attribute [go_sem ↓] Ah9 Beg Bab Beh Bei A6d Bac Bad Bae Bis Baf A6e Bej Bek Bit Biu Bel Bem Ben Beo Bep Bag Beq Bah Ber Bes Bet Beu Bev Bew Bex Bey Bai Be0 Bez Be1 Baj Biv Biw Be2 Be3 Be4 Be5 Bak A6f
attribute [go_sem] we Baq A6h Bar Bfp Bfq Bfr Bfs A6i A2a A59 A6a A6b A6c Bfh Bat Bau Bav Baw Bax Bay Baz Bfi Ba0 Ba1 Ba2 Ba3 Bfj Ba4 Ba5 Ba6 kd A6j
attribute [go_sem] Bfo Bfk Bfl Bfm Bfn Ba9 Bba Ba7 Ba8 Dd Gl
attribute [go_sem] Z8 Aks Ao unV Ajy Av2 mkV Aky Akz M0 eqB Ako Akp Akq Akr Ak0 Ak1 Ak2 Av3 Ak3 Ajz Aet Alb Ry Dq Ak5 Ak6 Ak7 Ak8 Aj0 mxV mnV Ak9 Ala Av4 Alc mk1 mkA Or Ia Fc Bi6 Bi7 Av6 Bi8 Bi9 Bja Bjb Bjc A9z A91 A5z A51 A53 A93 A95 Bd7 A55 A57 A97 A99 Bd9 Beb A90 A92 A50 A52 A54 A94 A96 Bd8 A56 A58 A98 Baa Bea Bec decide_true decide_false gt_iff_lt ge_iff_le ne_eq not_false_eq_true not_true_eq_false Bft Bbb Bbc Bbd Aef Bbe Bbf Bbg Au9 Bfu Bfv Ava Bfw Bfx Bfy Bfz Bf0 A6k A6l A6m A6n A6o A2b A6p A2c Azr A2d A2e A6q Bbh Bbi
attribute [go_sem] Ah8 Q3 A6r A2f Ji A6s Is Aia Adi A2g Atj Ai1 Acu
attribute [go_sem] Gb Option.map_none Db Option.bind_none Bb B7 Aw Bi U5 Xv Af9 and_self and_true true_and eq_self Am C9 Al I4 Aa1 Xu Xk Hz Cr Da B3 Aav Lk Afv Xl List.replicate Dv Aa6 E3 Ll Xx Nat.one_mul X0 F6 Bool.true_eq_false Ay A1 Bool.bne_false Bool.bne_true if_true if_false ite_true ite_false Md C6
variable {T:Nat->Option AF} {pr:Nat->Option (List V->Option V)}
def Oh(σ:St):∀ (d:Nat) (js:List Nat) (i:Nat),i∈js->i∈Fl σ d js
 | 0,_,_,h=>h
 | d+1,js,i,h=>by
  simp only[Fl]
  split
  .exact h
  .exact Oh σ d _ i (O9 _ h)
def OC(σ:St)(v v':V):Prop:=∀ js:List Nat,(∀ i∈v.refs,i∈js)->∀ d,Fa σ js (d+2) v=some v'
def OV(σ:St)(v v':V):Prop:=∀ js:List Nat,(∀ i∈v.refs,i∈js)->Gj σ js v=some v'
inductive OVs (σ:St):List V->List V->Prop
 | nil:OVs σ [] []
 | cons {v v':V} {vs qb:List V}:OV σ v v'->OVs σ vs qb->OVs σ (v::vs) (v'::qb)
inductive OCs (σ:St):List V->List V->Prop
 | nil:OCs σ [] []
 | cons {v v':V} {vs qb:List V}:OC σ v v'->OCs σ vs qb->OCs σ (v::vs) (v'::qb)
def Yz{σ:St}{js:List Nat}:∀ {vs qb:List V},OVs σ vs qb->(∀ i∈Ah vs,i∈js)->vs.mapM (Gj σ js)=some qb
 | _,_,.nil,_=>rfl
 | _,_,.cons h hs,hj=>by
  simp only[Ah,B8]at hj;rw[H0,h js fun i hi=>hj i (.inl hi),Yz hs fun i hi=>hj i (.inr hi)];rfl
def Aib{σ:St}{js:List Nat}{d:Nat}:∀ {vs qb:List V},OCs σ vs qb->(∀ i∈Ah vs,i∈js)->vs.mapM (Fa σ js (d+2))=some qb
 | _,_,.nil,_=>rfl
 | _,_,.cons h hs,hj=>by
  simp only[Ah,B8]at hj;rw[H0,h js (fun i hi=>hj i (.inl hi)) d,Aib hs fun i hi=>hj i (.inr hi)];rfl
def Aic{σ:St}{vs qb:List V}(h:OVs σ vs qb):Dr σ vs=some qb:=Yz h fun i hi=>Oh σ 9 _ i (Sl.2 hi)
def Ff{σ:St}{v:V}(h:v.rowB=true):OC σ v v:=fun _ _ _=>Sz h
def Jy{σ:St}{v:V}(h:Dl v=true):OV σ v v:=fun _ _=>Xz h
def Tv{σ:St}{cs cs':List V}(h:OCs σ cs cs'):OV σ (.agg cs) (.agg cs'):=fun js hj=>by
 simp only[Gj];rw[Aib (d:=7) h hj];rfl
def Acv{σ:St}{v v':V}(h:OC σ v v')(hc:v.cellB=true):OV σ v v':=fun js hj=>by
 unfold Gj
 split
 .have:=h js hj 0;simp[Fa,V.rowB]at this
 .simp[V.cellB]at hc
 .exact h js hj 7
def Abv(m:Nat):∀ (xs:List (List V)) (tl:List V),(∀ r∈xs,r.length=m)->Fc m xs.length (xs.flatten++tl)=xs
 | [],_,_=>rfl
 | r::xs,tl,h=>by
  have hr:=h r C5;simp only[Am,Fc,Dv,Da];rw[<-hr,Sv,Af7];congr 1;rw[hr];exact Abv m xs tl fun r hr=>h r (C4 _ hr)
def S0{m:Nat}{xs:List (List V)}(h:∀ r∈xs,r.length=m):Fc m xs.length xs.flatten=xs:=by
 have:=Abv m xs [] h
 rwa [B3]at this
def Gw{m:Nat}:∀ {xs:List (List V)},(∀ r∈xs,r.length=m)->xs.flatten.length=xs.length*m
 | [],_=>by simp
 | r::xs,h=>by
  rw[Dv,Al,h r C5,Gw fun r hr=>h r (C4 _ hr),Am,Ep,Abg]
def Ud{σ:St}{i g m e z:Nat}{w:Bool}{xs:List (List V)}(ho:σ[i]?=some (.row xs.flatten e g z))(hm:0<m)(hl:∀ r∈xs,r.length=m)(hr:∀ r∈xs,r.all V.rowB=true):OC σ (.sl i g 0 xs.length m w) (.lst 0 xs):=by
 intro js hj d
 have hi:js.elem i=true:=by
  have:=hj i (by simp[V.refs]);simpa using this
 have hf:=Gw hl;unfold Fa;rw[if_neg (by simp[V.rowB])];simp only[hi,if_true,ho];rw[if_pos ⟨trivial,hm,by omega⟩,I4,<-hf,Dc,Tn fun c hc=>?_]
 .simp only[Gb,S0 hl]
 .obtain⟨r,qp,qk⟩:=Aa7.1 hc;exact Sz (Bp.1 (hr r qp) c qk)
section
variable {Q:Env->St->Prop} {e:Env} {σ:St} {k:List It} {l:List AI} {kill:List Nat} {f:Nat} {args vs:List V} {v:V} {d:Option Nat}
def Avb(hx:OVs σ args vs)(hf:Fn T pr f vs v)(ql:v.flatV=true)(h:WR T pr l kill k (e.putO d v) σ Q):WX T pr (.call f args) d l kill k e σ Q:=
 Ju (.pure (Aic hx) hf) (by unfold after;rw[if_pos ql];exact h)
variable {qa:List (List Nat)} {n m:Nat} {fs:Fs} {ls:Ls} {K:Env->St->Fs->Ls->Prop} {i:AI}
def Ai2(hx:OVs σ args vs)(hf:Fn T pr f vs v)(ql:v.flatV=true)(h:K (e.putO i.dst v) σ [] ((m,fun s=>Dr s args=some vs)::ls)):G5 T pr qa n m i (.call f args) e σ [] ls K:=
 .inr (.inl ⟨v,vs,Aic hx,.inr hf,ql,trivial,h⟩)
end
/-! code that ends where it ends: the rest is apart -/
def AC.flat:AC->Bool
 | .skip | .reg _ _ | .drw _ _ _=>true
 | .seq a b=>a.flat&&b.flat
 | .cond _ _ x y=>x.flat&&y.flat
 | _=>false
def Hd(P:Env->St->Prop)(e:Env)(σ:St):Prop:=P e σ
/-! lists that grow: nil, or a slice of an object of their own that they fill -/
def GV(σ:St)(m e lo:Nat)(u:V)(xs:List (List V)):Prop:=(u=.nils/\xs=[])\/∃ i g,u=.sl i g 0 xs.length m true/\σ[i]?=some (.row xs.flatten e g 0)/\lo<=i
def Bbj{σ:St}{m e lo:Nat}:GV σ m e lo .nils []:=.inl ⟨rfl,rfl⟩
def Arv{σ:St}{m e lo:Nat}{u:V}{xs:List (List V)}(h:GV σ m e lo u xs):u.cellB=true:=by
 rcases h with⟨rfl,rfl⟩ | ⟨i,g,rfl,ho,qc⟩<;>rfl
def Bbk{σ:St}{m e lo:Nat}{u:V}{xs:List (List V)}(h:GV σ m e lo u xs):Mx u=some (.int .i64 (xs.length:Int)):=by
 rcases h with⟨rfl,rfl⟩ | ⟨i,g,rfl,ho,qc⟩<;>rfl
def Atk{σ:St}{m e lo bytes:Nat}{u y:V}{xs ys:List (List V)}(h:GV σ m e lo u xs)(qg:lo<=σ.length)(hy:Ea σ m y=some ys)(hm:0<m)(hl:∀ r∈xs,r.length=m)(qi:∀ r∈ys,r.length=m)(hb:(xs.length+ys.length)*bytes<=140737488355328):
  ∃ u' σ',D6 bytes (m,e) u y σ=some (u',σ')/\GV σ' m e lo u' (xs++ys)/\σ.length<=σ'.length/\(∀ j,(∀ i g,u=.sl i g 0 xs.length m true->j≠i)->j<σ.length->σ'[j]?=σ[j]?)/\∀ j,j<lo->σ'[j]?=σ[j]?:=by
 have qf:(ys.all fun r=>r.length==m)=true:=by
  rw[Bp];intro r hr;simp[qi r hr]
 unfold D6;simp only[hy,Db];unfold J6;rw[if_pos ⟨qf,hm⟩];rcases h with⟨rfl,rfl⟩ | ⟨i,g,rfl,ho,qc⟩
 .simp only;rw[if_pos (by simpa using hb)]
  cases ys with
  | nil=>exact⟨.nils,σ,rfl,.inl ⟨rfl,rfl⟩,Ai _,fun _ _ _=>rfl,fun _ _=>rfl⟩
  | cons y ys=>exact⟨_,_,rfl,.inr ⟨σ.length,0,rfl,by simp,qg⟩,by simp,fun j _ hj=>B6 hj,fun j hj=>B6 (by omega)⟩
 .simp only;rw[if_pos ⟨hb,trivial⟩];simp only[ho,if_true]
  cases ys with
  | nil=>exact⟨_,σ,rfl,.inr ⟨i,g,by simp,by simpa using ho,qc⟩,Ai _,fun _ _ _=>rfl,fun _ _=>rfl⟩
  | cons y ys=>
   have hf:=Gw hl;have qs:=Gw qi;have qt:(y::ys).flatten.length=(ys.length+1)*m:=by rw[qs];rfl
   rw[if_neg (by simp),if_pos (by simp),if_neg (by
    rw[hf];have:(xs.length+(y::ys).length)*m=xs.length*m+(ys.length+1)*m:=by rw[Am,Nb]
    rw[this];have:0<(ys.length+1)*m:=Nat.mul_pos (by omega) hm
    omega),if_pos hf]
   refine⟨_,_,rfl,.inr ⟨i,g+1,by rw[Al],?_,qc⟩,by simp,fun j hj _=>?_,fun j hj=>by rw[Bh (by omega)]⟩
   .have hi:i<σ.length:=by
     rcases Be i σ.length with h | h
     .exact h
     .rw[O8 h]at ho;cases ho
    rw[B5 hi,Sh]
   .have:=hj i g rfl;rw[Bh (by omega)]
def Ok{v:V}(h:v.cellB=true):v.cells=[v]:=by cases v<;>simp[V.cellB]at h<;>rfl
def Bx{s l:St}{j:Nat}{x:Ob}(h:s[j]?=some x):(s++l)[j]?=some x:=by
 have hi:j<s.length:=by
  rcases Be j s.length with h1 | h1
  .exact h1
  .rw[O8 h1]at h;cases h
 rw[B6 hi,h]
def Im{xs:List (List V)}(hr:∀ r∈xs,r.all V.rowB=true):xs.flatten.all V.rowB=true:=by
 rw[Bp];intro c hc;obtain⟨r,qp,qk⟩:=Aa7.1 hc;exact Bp.1 (hr r qp) c qk
def Wd(i:Nat):∀ cs:List V,cs.all V.rowB=true->Fv (ren 0 [i]) cs=cs
 | [],_=>rfl
 | c::cs,h=>by
  simp only[Aw,Af]at h;simp only[Fv];rw[Wd i cs h.2];congr 1
  cases c<;>simp[V.rowB]at h<;>rfl
def Atl(ρ:Nat->Nat):∀ a b:List V,Fv ρ (a++b)=Fv ρ a++Fv ρ b
 | [],_=>rfl
 | c::a,b=>by simp only[Hz,Fv,Atl ρ a b]
def G9:∀ a b:List V,Ah (a++b)=Ah a++Ah b
 | [],_=>rfl
 | c::a,b=>by simp only[Hz,Ah,G9 a b,Da]
def Adj{cs:List V}(h:cs.all V.rowB=true):cs.all V.cellB=true:=by
 rw[Bp]at h ⊢;intro c hc;have:=h c hc
 cases c<;>simp[V.rowB]at this<;>rfl
def A6t{σ:St}{a a' b b':List V}(h1:OCs σ a a')(h2:OCs σ b b'):OCs σ (a++b) (a'++b'):=by
 induction h1 with
 | nil=>exact h2
 | cons h _ ih=>exact .cons h ih
def Aid{σ:St}:∀ {cs:List V},cs.all V.rowB=true->OCs σ cs cs
 | [],_=>.nil
 | c::cs,h=>by
  simp only[Aw,Af]at h;exact .cons (Ff h.1) (Aid h.2)
def Aj3{σ:St}{m e i g:Nat}{xs:List (List V)}(ho:σ[i]?=some (.row xs.flatten e g 0))(hm:0<m)(hl:∀ r∈xs,r.length=m)(hr:∀ r∈xs,r.all V.rowB=true):FR (.sl i g 0 xs.length m true) σ (.lst 0 xs):=by
 obtain⟨hi,qo⟩:=Ak.1 ho;have hx:Ah xs.flatten=[]:=G8 (Im hr);have h0:ren 0 [i] i=0:=by simp[ren,List.findIdx_cons]
 refine .inr ⟨[i],?_,?_⟩
 .simp[H2,Cm,H8,V.cellB,V.refs,E4,qo,Ob.refs,hx,hi]
 .simp only[Jm,ho,Sk,Bb,B7,Ob.ren,Wd i _ (Im hr),V.ren,h0];simp only[Ex,K3,Gj];exact Ud (σ:=[.row xs.flatten e g 0]) (i:=0) (g:=g) (e:=e) (z:=0) (w:=true) rfl hm hl hr (Fl [.row xs.flatten e g 0] 9 (V.refs (.sl 0 g 0 xs.length m true)).eraseDups) (fun j hj=>Oh _ _ _ _ (Sl.2 hj)) 7
def Azs{σ:St}{m e i g:Nat}{xs:List (List V)}{pre post:List V}(ho:σ[i]?=some (.row xs.flatten e g 0))(hm:0<m)(hl:∀ r∈xs,r.length=m)(hr:∀ r∈xs,r.all V.rowB=true)(h1:pre.all V.rowB=true)(h2:post.all V.rowB=true):FR (.agg (pre++.sl i g 0 xs.length m true::post)) σ (.agg (pre++.lst 0 xs::post)):=by
 obtain⟨hi,qo⟩:=Ak.1 ho;have hx:Ah xs.flatten=[]:=G8 (Im hr)
 have qh:Ah (pre++V.sl i g 0 xs.length m true::post)=[i]:=by
  rw[G9,G8 h1];simp only[Ah,G8 h2,V.refs,Cr,B3]
 have h0:ren 0 [i] i=0:=by simp[ren,List.findIdx_cons]
 refine .inr ⟨[i],?_,?_⟩
 .simp only[H2,Cm,H8,V.refs,qh,List.all_append,Aw,Adj h1,Adj h2,V.cellB];simp[E4,qo,Ob.refs,hx,hi]
 .simp only[Jm,ho,Sk,Bb,B7,Ob.ren,Wd i _ (Im hr),V.ren,Atl,Wd i _ h1,Fv,Wd i _ h2,h0];exact Tv (σ:=[.row xs.flatten e g 0]) (A6t (Aid h1) (.cons (Ud (σ:=[.row xs.flatten e g 0]) (i:=0) (g:=g) (e:=e) (z:=0) (w:=true) rfl hm hl hr) (Aid h2))) _ fun j hj=>Oh _ _ _ _ (Sl.2 hj)
def GW(σ:St)(m e lo:Nat)(u:V)(xs:List (List V)):Prop:=(u=.nils/\xs=[])\/(xs≠[]/\∃ i g,u=.sl i g 0 xs.length m true/\σ[i]?=some (.row xs.flatten e g 0)/\lo<=i)
def D5{σ:St}{m e lo:Nat}:GW σ m e lo .nils []:=.inl ⟨rfl,rfl⟩
def Aj4{σ:St}{m e lo:Nat}{u:V}{xs:List (List V)}(h:GW σ m e lo u xs):GV σ m e lo u xs:=h.imp id fun h=>h.2
def Cu{σ:St}{m e lo:Nat}{u:V}{xs:List (List V)}(h:GW σ m e lo u xs):u.cellB=true:=Arv (Aj4 h)
def Hl{σ:St}{m e lo bytes:Nat}{u y:V}{xs ys:List (List V)}(h:GW σ m e lo u xs)(qg:lo<=σ.length)(hy:Ea σ m y=some ys)(hm:0<m)(hl:∀ r∈xs,r.length=m)(qi:∀ r∈ys,r.length=m)(hb:(xs.length+ys.length)*bytes<=140737488355328):
  ∃ u' σ',D6 bytes (m,e) u y σ=some (u',σ')/\GW σ' m e lo u' (xs++ys)/\σ.length<=σ'.length/\(∀ j,(∀ i g,u=.sl i g 0 xs.length m true->j≠i)->j<σ.length->σ'[j]?=σ[j]?)/\∀ j,j<lo->σ'[j]?=σ[j]?:=by
 obtain⟨u',σ',h1,h2,h3,h4,h5⟩:=Atk (Aj4 h) qg hy hm hl qi hb;refine⟨u',σ',h1,?_,h3,h4,h5⟩;by_cases he:xs++ys=[]
 .rw[List.append_eq_nil_iff]at he;obtain⟨rfl,rfl⟩:=he;rcases h with⟨rfl,_⟩ | ⟨hn,_⟩
  .have:D6 bytes (m,e) .nils y σ=some (.nils,σ):=by simp[D6,hy,J6,hm]
   rw[this]at h1;cases h1;exact D5
  .exact absurd rfl hn
 .exact h2.imp id fun h=>⟨he,h⟩
def Gk{σ l:St}{m e lo:Nat}{u:V}{xs:List (List V)}(h:GW σ m e lo u xs):GW (σ++l) m e lo u xs:=by
 rcases h with h | ⟨hn,i,g,h,ho,qc⟩
 .exact .inl h
 .exact .inr ⟨hn,i,g,h,Bx ho,qc⟩
def Ft{σ:St}{j:Nat}{x:Ob}{m e lo:Nat}{u:V}{xs:List (List V)}(h:GW σ m e lo u xs)(hj:j<lo):GW (σ.set j x) m e lo u xs:=by
 rcases h with h | ⟨hn,i,g,h,ho,qc⟩
 .exact .inl h
 .exact .inr ⟨hn,i,g,h,by rw[Bh (by omega)];exact ho,qc⟩
def Zx{t:Nat}{xs:List (List V)}(h:xs≠[]):SL true t xs=.lst t xs:=by simp[SL,h]
def Mp{σ:St}{m e lo:Nat}{u:V}{xs:List (List V)}(h:GW σ m e lo u xs)(hm:0<m)(hl:∀ r∈xs,r.length=m)(hr:∀ r∈xs,r.all V.rowB=true):OC σ u (SL true 0 xs):=by
 rcases h with⟨rfl,rfl⟩ | ⟨hn,i,g,rfl,ho,qc⟩
 .exact Ff rfl
 .rw[Zx hn];exact Ud ho hm hl hr
def Ue{σ:St}{m e lo:Nat}{u:V}{xs:List (List V)}(h:GW σ m e lo u xs)(hm:0<m)(hl:∀ r∈xs,r.length=m)(hr:∀ r∈xs,r.all V.rowB=true):FR u σ (SL true 0 xs):=by
 rcases h with⟨rfl,rfl⟩ | ⟨hn,i,g,rfl,ho,qc⟩
 .exact Gm rfl
 .rw[Zx hn];exact Aj3 ho hm hl hr
def Bbl{σ:St}{m e lo:Nat}{u:V}{xs:List (List V)}{pre post:List V}(h:GW σ m e lo u xs)(hm:0<m)(hl:∀ r∈xs,r.length=m)(hr:∀ r∈xs,r.all V.rowB=true)(h1:pre.all V.rowB=true)(h2:post.all V.rowB=true):FR (.agg (pre++u::post)) σ (.agg (pre++SL true 0 xs::post)):=by
 rcases h with⟨rfl,rfl⟩ | ⟨hn,i,g,rfl,ho,qc⟩
 .exact Gm (by simp only[Dl,List.all_append,Aw,h1,h2];rfl)
 .rw[Zx hn];exact Azs ho hm hl hr h1 h2
/-! what a call leaves of the state, where an argument names a list's object -/
def Ams(σ:St)(i j:Nat)(h:j≠i):(σ.freeze [i])[j]?=σ[j]?:=by
 simp only[St.freeze]
 split
 .rw[Bh (by omega)]
 .rfl
def Axf(σ:St)(i:Nat):(σ.freeze [i]).length=σ.length:=by
 simp only[St.freeze]
 split
 .simp
 .rfl
section
variable {T:Nat->Option AF} {pr:Nat->Option (List V->Option V)} {Q:Env->St->Prop} {e:Env} {σ:St} {k:List It} {l:List AI} {kill:List Nat} {f:Nat} {args vs:List V} {v:V} {d:Option Nat}
def Bf1{σ':St}(hx:OVs σ args vs)(hf:Fn T pr f vs v)(ha:after σ args v=σ')(h:WR T pr l kill k (e.putO d v) σ' Q):WX T pr (.call f args) d l kill k e σ Q:=
 Ju (.pure (Aic hx) hf) (by rw[ha];exact h)
end
def Atm{σ:St}{cs:List V}{m n:Nat}(h:cs.all V.rowB=true):Ou m n σ cs=some (.lst 1 (Fc m n cs),σ):=by
 unfold Ou;rw[Tn fun c hc=>Sz (Bp.1 h c hc),G8 h];rfl
attribute [go_sem] Atm
def Vi(z:Bool)(t m:Nat)(xs:List (List V))(k:IntKind)(b:Nat)(hb:b<=xs.length):∃ z' t',Je m (SL z t xs) none (some (.int k (b:Int))) none=some (SL z' t' (xs.take b)):=by
 unfold SL
 split
 .rename_i h;obtain⟨rfl,rfl⟩:=h;have:b=0:=by simpa using hb
  subst this;exact⟨true,0,by simp[Je,Dq]⟩
 .refine⟨false,(if b=xs.length/\t=1 then 1 else 0),?_⟩;simp[Je,Dq,hb]
def Azt(z:Bool)(t m:Nat)(xs:List (List V))(k:IntKind)(b:Nat)(hb:b<=xs.length)(hm:∀ r∈xs,r.length=m):∃ z' t',Je m (SL z t xs) (some (.int k (b:Int))) none none=some (SL z' t' (xs.drop b)):=by
 unfold SL
 split
 .rename_i h;obtain⟨rfl,rfl⟩:=h;have:b=0:=by simpa using hb
  subst this;exact⟨true,0,by simp[Je,Dq]⟩
 .refine⟨false,(if t=1 then 1 else 0),?_⟩
  have:(xs.all fun r=>r.length==m)=true:=by
   rw[Bp];intro r hr;simp[hm r hr]
  simp[Je,Dq,hb,this]
def Cl(s:St):Prop:=∀ ob∈s,∀ i∈ob.refs,i<s.length
def I8{s:St}{ob:Ob}(h:Cl s)(ho:∀ i∈ob.refs,i<s.length+1):Cl (s++[ob]):=by
 intro o hm i hi;rw[Al];rcases B8.1 hm with hm | hm
 .have:=h o hm i hi;simp;omega
 .simp at hm;subst hm;simpa using ho i hi
def Gc{s:St}{j:Nat}{ob:Ob}(h:Cl s)(ho:∀ i∈ob.refs,i<s.length):Cl (s.set j ob):=by
 intro o hm i hi;rw[Hi];rcases List.mem_or_eq_of_mem_set hm with hm | hm
 .exact h o hm i hi
 .subst hm;exact ho i hi
mutual
theorem Acb(ρ:Nat->Nat):∀ v:V,(∀ i∈v.refs,ρ i=i)->v.ren ρ=v
 | .ptr i g o,h=>by simp only[V.ren];rw[h i (by simp[V.refs])]
 | .sl i g o l m w,h=>by simp only[V.ren];rw[h i (by simp[V.refs])]
 | .mp i,h=>by simp only[V.ren];rw[h i (by simp[V.refs])]
 | .fn f a c,h=>by
  simp only[V.ren];rw[Qz ρ a fun i hi=>h i (by simp only[V.refs,B8];exact .inl hi),Qz ρ c fun i hi=>h i (by simp only[V.refs,B8];exact .inr hi)]
 | .agg cs,h=>by simp only[V.ren];rw[Qz ρ cs fun i hi=>h i (by simpa only[V.refs] using hi)]
 | .tup cs,h=>by simp only[V.ren];rw[Qz ρ cs fun i hi=>h i (by simpa only[V.refs] using hi)]
 | .und,_=>rfl
 | .skp,_=>rfl
 | .bool _,_=>rfl
 | .int _ _,_=>rfl
 | .str _,_=>rfl
 | .nili,_=>rfl
 | .ifc,_=>rfl
 | .nils,_=>rfl
 | .nilp,_=>rfl
 | .nilf,_=>rfl
 | .lst _ _,_=>rfl
 | .imm _ _,_=>rfl
theorem Qz(ρ:Nat->Nat):∀ vs:List V,(∀ i∈Ah vs,ρ i=i)->Fv ρ vs=vs
 | [],_=>rfl
 | v::r,h=>by
  simp only[Fv];rw[Acb ρ v fun i hi=>h i (by simp only[Ah,B8];exact .inl hi),Qz ρ r fun i hi=>h i (by simp only[Ah,B8];exact .inr hi)]
end
def Amb(ρ:Nat->Nat)(ob:Ob)(h:∀ i∈ob.refs,ρ i=i):ob.ren ρ=ob:=by
 cases ob with
 | row cs e g z=>simp only[Ob.ren];rw[Qz ρ cs h]
 | map kvs=>
  simp only[Ob.ren];congr 1
  have:∀ l:List (List UInt8 × V),(∀ i∈Ah (l.map (·.2)),ρ i=i)->l.map (fun p=>(p.1,p.2.ren ρ))=l:=by
   intro l
   induction l with
   | nil=>intro _;rfl
   | cons p l ih=>
    intro h;simp only[Bb,Ah,B8]at h ⊢;rw[ih fun i hi=>h i (.inr hi),Acb ρ p.2 fun i hi=>h i (.inl hi)]
  exact this kvs h
 | dead=>rfl
def Ag0{n k i:Nat}(h:i<n+k):ren n (List.range' n k) i=i:=by
 unfold ren
 split
 .rfl
 .have h1:List.findIdx (·==i) (List.range' n k)=i - n:=by
   rw[List.findIdx_eq (by simp;omega)];simp;constructor
   .omega
   .intro j hj;omega
  rw[h1];omega
def Ag1{σ σ':St}{m e lo bytes:Nat}{u u' y:V}{xs ys:List (List V)}(h:GW σ m e lo u xs)(hy:Ea σ m y=some ys)(ha:D6 bytes (m,e) u y σ=some (u',σ'))(hx:Ah xs.flatten=[])(hz:Ah ys.flatten=[])(hc:Cl σ):Cl σ':=by
 unfold D6 at ha;simp only[hy,Db]at ha;unfold J6 at ha
 split at ha
 .rcases h with⟨rfl,rfl⟩ | ⟨hn,i,g,rfl,ho,qc⟩
  .simp only at ha
   split at ha
   .split at ha
    .cases ha;exact hc
    .cases ha;exact I8 hc (by simp[Ob.refs,hz])
   .cases ha
  .simp only at ha
   split at ha
   .simp only[ho,if_true]at ha
    split at ha
    .cases ha;exact hc
    .split at ha
     .split at ha
      .cases ha;refine Gc hc fun j hj=>?_
       simp only[Ob.refs,G9,hz,B3,B8]at hj
       have qr:∀ (a:List V) (k:Nat),Ah a=[]->Ah (a.take k)=[]/\Ah (a.drop k)=[]:=by
        intro a k h0;have:=G9 (a.take k) (a.drop k);rw[Gq,h0]at this;exact List.append_eq_nil_iff.1 this.symm
       rw[(qr _ _ hx).1,(qr _ _ hx).2]at hj;simp at hj
      .split at ha
       .cases ha;exact Gc hc (by simp[Ob.refs,G9,hx,hz])
       .cases ha
     .cases ha
   .cases ha
 .cases ha
def H6{σ:St}{m e lo:Nat}{u:V}{xs:List (List V)}(h:GW σ m e lo u xs):∀ i∈u.refs,i<σ.length:=by
 rcases h with⟨rfl,rfl⟩ | ⟨hn,i,g,rfl,ho,qc⟩
 .intro i hi;simp[V.refs]at hi
 .intro j hj;simp[V.refs]at hj;subst hj;exact(Ak.1 ho).1
def Apk{σ1:St}{v:V}{n:Nat}(hr:v.refs=[])(ho:Cm v=true)(hn:n<=σ1.length)(hc:Cl σ1):H2 n (List.range' n (σ1.length - n)) v σ1=true/\v=v.ren (ren n (List.range' n (σ1.length - n)))/\σ1=(σ1.take n++(List.range' n (σ1.length - n)).filterMap (σ1[·]?)).map (Ob.ren (ren n (List.range' n (σ1.length - n)))):=by
 refine⟨?_,?_,?_⟩
 .have hw:∀ is:List Nat,(∀ i∈is,i<σ1.length)->E4 n (List.range' n (σ1.length - n)) is=true:=by
   intro is qn;unfold E4;rw[Bp];intro i hi;have:=qn i hi;simp;omega
  unfold H2;simp only[Af];refine⟨ho,hw _ (by rw[hr];simp),?_,?_,?_⟩
  .rw[Bp];intro o hm;refine hw _ fun i hi=>?_
   rcases B8.1 hm with hm | hm
   .exact hc o (Ik hm) i hi
   .obtain⟨j,_,hj⟩:=Aft.1 hm;exact hc o (Ge hj) i hi
  .simp[List.nodup_range']
  .rw[Bp];intro i hi;simp at hi ⊢;omega
 .exact(Acb _ v (by rw[hr];simp)).symm
 .have he:σ1.take n++(List.range' n (σ1.length - n)).filterMap (σ1[·]?)=σ1:=by
   have:(List.range' n (σ1.length - n)).filterMap (σ1[·]?)=σ1.drop n:=by
    apply So;intro i
    have qm:∀ (k n:Nat),n+k<=σ1.length->(List.range' n k).filterMap (σ1[·]?)=(σ1.drop n).take k:=by
     intro k
     induction k with
     | zero=>intro n _;simp
     | succ k ih=>
      intro n hk;rw[Aa5,Jm,Bc (by omega)];simp only;rw[ih (n+1) (by omega),Fd (show n<σ1.length by omega),Xk]
    rw[qm _ _ (by omega),Kz (by simp)]
   rw[this,Gq]
  rw[he]
  have:∀ l:List Ob,(∀ o∈l,o∈σ1)->l.map (Ob.ren (ren n (List.range' n (σ1.length - n))))=l:=by
   intro l
   induction l with
   | nil=>intro _;rfl
   | cons o l ih=>
    intro hm;rw[Bb,ih fun o ho=>hm o (C4 _ ho),Amb _ o fun i hi=>Ag0 (by have:=hc o (hm o C5) i hi;omega)]
  exact(this σ1 fun _ h=>h).symm
def Ai3{T:Nat->Option AF}{pr:Nat->Option (List V->Option V)}{f p:Nat}{res:List AR}{body:AC}{vs:List V}{v:V}{σ σ':St}(hT:T f=some ⟨p,res,true,body,none⟩)(hl:vs.length=p)
  (h:W T pr [.c body] (Dd 0 vs) σ (Hd fun e' σ1=>Cd e' σ1 res=some v/\σ1=σ')) (hr:v.refs=[]) (ho:Cm v=true) (hn:σ.length<=σ'.length) (hc:Cl σ'):Th T pr f vs σ v σ':=by
 obtain⟨e',σ1,hE,qe,rfl⟩:=h;obtain⟨k1,k2,k3⟩:=Apk hr ho hn hc;exact Azl hT rfl rfl hl ⟨e',σ1,hE,v,_,qe,k1,k2,k3⟩
def A6u{T:Nat->Option AF}{pr:Nat->Option (List V->Option V)}{f p:Nat}{res:List AR}{body:AC}{vs:List V}{v:V}{σ σ':St}(hT:T f=some ⟨p,res,true,body,none⟩)(hl:vs.length=p)
  (h:W T pr [.c body] (Dd 0 vs) σ (Hd fun e' σ1=>∃ v0 js,Cd e' σ1 res=some v0/\Cm v0=true/\K3 σ1 js v0=some v/\σ'=σ1.freeze js)) (hr:v.refs=[]) (ho:Cm v=true) (hn:σ.length<=σ'.length) (hc:Cl σ'):Th T pr f vs σ v σ':=by
 obtain⟨e',σ1,hE,v0,js,qe,h0,h1,rfl⟩:=h;obtain⟨k1,k2,k3⟩:=Apk hr ho hn hc;exact Azn hT rfl rfl hl ⟨e',σ1,hE,v0,v,js,_,qe,h0,h1,k1,k2,k3⟩
def Aye{T:Nat->Option AF}{pr:Nat->Option (List V->Option V)}{σ:St}{f:Nat}{vs:List V}{v:V}{F:AF}{σ':St}(hT:T f=some F)(qq:F.spec=none)(hl:vs.length=F.pars)(h:W T pr [.c F.body] (Dd 0 vs) σ fun e' σ1=>∃ v0 js,Cd e' σ1 F.res=some v0/\H2 σ.length js v0 σ1=true/\v=v0.ren (ren σ.length js)/\σ'=(σ1.take σ.length++js.filterMap (σ1[·]?)).map (Ob.ren (ren σ.length js))):Bv T pr f vs σ v σ':=by
 obtain⟨e',σ1,hE,v0,js,hr,qu,rfl,rfl⟩:=h;exact⟨F,hT,qq,.fnL hT qq hl hE hr qu⟩
def To{T:Nat->Option AF}{pr:Nat->Option (List V->Option V)}{f p:Nat}{res:List AR}{thr:Bool}{body:AC}{vs:List V}{v:V}{σ σ':St}(hT:T f=some ⟨p,res,thr,body,none⟩)(hl:vs.length=p)
  (h:W T pr [.c body] (Dd 0 vs) σ (Hd fun e' σ1=>Cd e' σ1 res=some v/\σ1=σ')) (hr:∀ i∈v.refs,i<σ'.length) (ho:Cm v=true) (hn:σ.length<=σ'.length) (hc:Cl σ'):Bv T pr f vs σ v σ':=by
 obtain⟨e',σ1,hE,qe,rfl⟩:=h;refine Aye hT rfl hl ⟨e',σ1,hE,v,List.range' σ.length (σ1.length - σ.length),qe,?_,?_,?_⟩
 .have hw:∀ is:List Nat,(∀ i∈is,i<σ1.length)->E4 σ.length (List.range' σ.length (σ1.length - σ.length)) is=true:=by
   intro is qn;unfold E4;rw[Bp];intro i hi;have:=qn i hi;simp;omega
  unfold H2;simp only[Af];refine⟨ho,hw _ hr,?_,?_,?_⟩
  .rw[Bp];intro o hm;refine hw _ fun i hi=>?_
   rcases B8.1 hm with hm | hm
   .exact hc o (Ik hm) i hi
   .obtain⟨j,_,hj⟩:=Aft.1 hm;exact hc o (Ge hj) i hi
  .simp[List.nodup_range']
  .rw[Bp];intro i hi;simp at hi ⊢;omega
 .exact(Acb _ v fun i hi=>Ag0 (by have:=hr i hi;omega)).symm
 .have he:σ1.take σ.length++(List.range' σ.length (σ1.length - σ.length)).filterMap (σ1[·]?)=σ1:=by
   have:(List.range' σ.length (σ1.length - σ.length)).filterMap (σ1[·]?)=σ1.drop σ.length:=by
    apply So;intro i
    have qm:∀ (k n:Nat),n+k<=σ1.length->(List.range' n k).filterMap (σ1[·]?)=(σ1.drop n).take k:=by
     intro k
     induction k with
     | zero=>intro n _;simp
     | succ k ih=>
      intro n hk;rw[Aa5,Jm,Bc (by omega)];simp only;rw[ih (n+1) (by omega),Fd (show n<σ1.length by omega),Xk]
    rw[qm _ _ (by omega),Kz (by simp)]
   rw[this,Gq]
  rw[he]
  have:∀ l:List Ob,(∀ o∈l,o∈σ1)->l.map (Ob.ren (ren σ.length (List.range' σ.length (σ1.length - σ.length))))=l:=by
   intro l
   induction l with
   | nil=>intro _;rfl
   | cons o l ih=>
    intro hm;rw[Bb,ih fun o ho=>hm o (C4 _ ho),Amb _ o fun i hi=>Ag0 (by have:=hc o (hm o C5) i hi;omega)]
  exact(this σ1 fun _ h=>h).symm
def LZ{α:Type}:(∀ a b c:List α,a++b++c=a++(b++c))/\(∀ (a:α) (b c:List α),a::b++c=a::(b++c))/\(∀ a:List α,[]++a=a)/\(∀ a b:List α,(a++b).length=a.length+b.length)/\(∀ (a:α) (b:List α),(a::b).length=b.length+1)/\([]:List α).length=0/\∀ n:Nat,0+n=n:=⟨Da,fun _ _ _=>rfl,fun _=>rfl,fun _ _=>Al,fun _ _=>rfl,rfl,E3⟩
