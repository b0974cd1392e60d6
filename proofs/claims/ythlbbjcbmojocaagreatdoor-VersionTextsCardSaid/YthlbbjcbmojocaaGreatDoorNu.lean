/- The table of functions, and that each form is the program's function. Printed by km_table.py. -/
import Derived.Test.YthlbbjcbmojocaaGreatDoorNt
set_option linter.all false
namespace Go.Proofs.YthlbbjcbmojocaaGreatDoor.KM
open Go
def GT(m:Int):List (Nat × List V):=[(0,gPow),(1,gKw),(2,[.int .i64 m]),(7,[.ifc]),(8,[.ifc]),(9,Aha)]
variable {m:Int}
theorem Aqh:(0,gPow)∈GT m:=by simp[GT]
theorem hEs:(7,[V.ifc])∈GT m:=by simp[GT]
theorem Xs:(8,[V.ifc])∈GT m:=by simp[GT]
theorem hKw:(1,gKw)∈GT m:=by simp[GT]
theorem A8l(m:Int):(2,[V.int .i64 m])∈GT m:=by simp[GT]
def tabL:List (Nat × AF):=[(3,af3),(4,af4),(5,af5),(6,af6),(7,af7),(8,af8),(9,af9),(10,af10),(11,af11),(12,af12),(13,af13),(14,af14),(15,af15),(16,af16),(17,af17),(18,af18),(19,af19),(20,af20),(21,af21),(22,af22),(23,af23),(24,af24),(25,af25),(26,af26),(27,af27),(28,af28),(29,af29),(30,af30),(31,af31),(32,af32),(33,af33),(36,af36),(37,af37),(38,af38),(39,af39),(40,af40),(41,af41),(42,af42),(44,af44),(45,af45),(46,af46),(47,af47),(48,af48),(49,af49),(50,af50),(52,af52),(56,af56),(57,af57),(58,af58),(59,af59),(60,af60),(61,af61),(62,af62),(63,af63),(64,af64),(65,af65),(66,af66),(67,af67),(68,af68),(69,af69),(71,af71),(72,af72),(73,af73),(74,af74),(75,af75),(76,af76),(77,af77),(78,af78),(79,af79),(80,af80),(82,af82),(83,af83),(89,af89),(90,af90),(91,af91),(92,af92),(93,af93),(94,af94),(95,af95),(96,af96),(97,af97),(98,af98),(101,af101),(102,af102),(105,af105),(106,af106),(113,af113),(114,af114),(115,af115),(116,af116),(117,af117),(118,af118),(119,af119),(120,af120),(121,af121),(127,af127),(128,af128),(135,af135),(136,af136),(139,af139),(145,af145),(146,af146),(147,af147),(148,af148),(149,af149),(150,af150),(151,af151),(152,af152),(158,af158),(166,af166),(168,af168),(169,af169),(170,af170),(176,af176),(177,af177),(178,af178),(179,af179)]
def prL:List (Nat × (List V->Option V)):=[(34,Ub),(35,M8),(43,Xq),(51,Xl),(53,Pw),(99,kwS),(100,Uv),(104,Up),(126,Uw)]
def TT(f:Nat):Option AF:=tabL.lookup f
def PT(f:Nat):Option (List V->Option V):=prL.lookup f
theorem T3:TT 3=some af3:=by rfl
theorem T4:TT 4=some af4:=by rfl
theorem T5:TT 5=some af5:=by rfl
theorem T6:TT 6=some af6:=by rfl
theorem T7:TT 7=some af7:=by rfl
theorem T8:TT 8=some af8:=by rfl
theorem T9:TT 9=some af9:=by rfl
theorem T10:TT 10=some af10:=by rfl
theorem T11:TT 11=some af11:=by rfl
theorem T12:TT 12=some af12:=by rfl
theorem T13:TT 13=some af13:=by rfl
theorem T14:TT 14=some af14:=by rfl
theorem T15:TT 15=some af15:=by rfl
theorem T16:TT 16=some af16:=by rfl
theorem T17:TT 17=some af17:=by rfl
theorem T18:TT 18=some af18:=by rfl
theorem T19:TT 19=some af19:=by rfl
theorem T20:TT 20=some af20:=by rfl
theorem T21:TT 21=some af21:=by rfl
theorem T22:TT 22=some af22:=by rfl
theorem T23:TT 23=some af23:=by rfl
theorem T24:TT 24=some af24:=by rfl
theorem T25:TT 25=some af25:=by rfl
theorem T26:TT 26=some af26:=by rfl
theorem T27:TT 27=some af27:=by rfl
theorem T28:TT 28=some af28:=by rfl
theorem T29:TT 29=some af29:=by rfl
theorem T30:TT 30=some af30:=by rfl
theorem T31:TT 31=some af31:=by rfl
theorem T32:TT 32=some af32:=by rfl
theorem T33:TT 33=some af33:=by rfl
theorem T36:TT 36=some af36:=by rfl
theorem T37:TT 37=some af37:=by rfl
theorem T38:TT 38=some af38:=by rfl
theorem T39:TT 39=some af39:=by rfl
theorem T40:TT 40=some af40:=by rfl
theorem T41:TT 41=some af41:=by rfl
theorem T42:TT 42=some af42:=by rfl
theorem T44:TT 44=some af44:=by rfl
theorem T45:TT 45=some af45:=by rfl
theorem T46:TT 46=some af46:=by rfl
theorem T47:TT 47=some af47:=by rfl
theorem T48:TT 48=some af48:=by rfl
theorem T49:TT 49=some af49:=by rfl
theorem T50:TT 50=some af50:=by rfl
theorem T52:TT 52=some af52:=by rfl
theorem T56:TT 56=some af56:=by rfl
theorem T57:TT 57=some af57:=by rfl
theorem T58:TT 58=some af58:=by rfl
theorem T59:TT 59=some af59:=by rfl
theorem T60:TT 60=some af60:=by rfl
theorem T61:TT 61=some af61:=by rfl
theorem T62:TT 62=some af62:=by rfl
theorem T63:TT 63=some af63:=by rfl
theorem T64:TT 64=some af64:=by rfl
theorem T65:TT 65=some af65:=by rfl
theorem T66:TT 66=some af66:=by rfl
theorem T67:TT 67=some af67:=by rfl
theorem T68:TT 68=some af68:=by rfl
theorem T69:TT 69=some af69:=by rfl
theorem T71:TT 71=some af71:=by rfl
theorem T72:TT 72=some af72:=by rfl
theorem T73:TT 73=some af73:=by rfl
theorem T74:TT 74=some af74:=by rfl
theorem T75:TT 75=some af75:=by rfl
theorem T76:TT 76=some af76:=by rfl
theorem T77:TT 77=some af77:=by rfl
theorem T78:TT 78=some af78:=by rfl
theorem T79:TT 79=some af79:=by rfl
theorem T80:TT 80=some af80:=by rfl
theorem T82:TT 82=some af82:=by rfl
theorem T83:TT 83=some af83:=by rfl
theorem T89:TT 89=some af89:=by rfl
theorem T90:TT 90=some af90:=by rfl
theorem T91:TT 91=some af91:=by rfl
theorem T92:TT 92=some af92:=by rfl
theorem T93:TT 93=some af93:=by rfl
theorem T94:TT 94=some af94:=by rfl
theorem T95:TT 95=some af95:=by rfl
theorem T96:TT 96=some af96:=by rfl
theorem T97:TT 97=some af97:=by rfl
theorem T98:TT 98=some af98:=by rfl
theorem T101:TT 101=some af101:=by rfl
theorem T102:TT 102=some af102:=by rfl
theorem T105:TT 105=some af105:=by rfl
theorem T106:TT 106=some af106:=by rfl
theorem T113:TT 113=some af113:=by rfl
theorem T114:TT 114=some af114:=by rfl
theorem T115:TT 115=some af115:=by rfl
theorem T116:TT 116=some af116:=by rfl
theorem T117:TT 117=some af117:=by rfl
theorem T118:TT 118=some af118:=by rfl
theorem T119:TT 119=some af119:=by rfl
theorem T120:TT 120=some af120:=by rfl
theorem T121:TT 121=some af121:=by rfl
theorem T127:TT 127=some af127:=by rfl
theorem T128:TT 128=some af128:=by rfl
theorem T135:TT 135=some af135:=by rfl
theorem T136:TT 136=some af136:=by rfl
theorem T139:TT 139=some af139:=by rfl
theorem T145:TT 145=some af145:=by rfl
theorem T146:TT 146=some af146:=by rfl
theorem T147:TT 147=some af147:=by rfl
theorem T148:TT 148=some af148:=by rfl
theorem T149:TT 149=some af149:=by rfl
theorem T150:TT 150=some af150:=by rfl
theorem T151:TT 151=some af151:=by rfl
theorem T152:TT 152=some af152:=by rfl
theorem T158:TT 158=some af158:=by rfl
theorem T166:TT 166=some af166:=by rfl
theorem T168:TT 168=some af168:=by rfl
theorem T169:TT 169=some af169:=by rfl
theorem T170:TT 170=some af170:=by rfl
theorem T176:TT 176=some af176:=by rfl
theorem T177:TT 177=some af177:=by rfl
theorem T178:TT 178=some af178:=by rfl
theorem T179:TT 179=some af179:=by rfl
theorem P34:PT 34=some Ub:=by rfl
theorem P35:PT 35=some M8:=by rfl
theorem P43:PT 43=some Xq:=by rfl
theorem P51:PT 51=some Xl:=by rfl
theorem P53:PT 53=some Pw:=by rfl
theorem P99:PT 99=some kwS:=by rfl
theorem P100:PT 100=some Uv:=by rfl
theorem P104:PT 104=some Up:=by rfl
theorem P126:PT 126=some Uw:=by rfl
noncomputable def okP (m:Int) (p:Nat × AF):Bool:=p.2.spec.isSome||Oi Tryz.prog (GT m) p.1 p.2
theorem A8m:(tabL.drop 0 |>.take 8).all (okP m)=true:=by kernel_rfl
theorem A8n:(tabL.drop 8 |>.take 8).all (okP m)=true:=by kernel_rfl
theorem A8o:(tabL.drop 16 |>.take 8).all (okP m)=true:=by kernel_rfl
theorem A8p:(tabL.drop 24 |>.take 8).all (okP m)=true:=by kernel_rfl
theorem A8q:(tabL.drop 32 |>.take 8).all (okP m)=true:=by kernel_rfl
theorem A8r:(tabL.drop 40 |>.take 8).all (okP m)=true:=by kernel_rfl
theorem A8s:(tabL.drop 48 |>.take 8).all (okP m)=true:=by kernel_rfl
theorem A8t:(tabL.drop 56 |>.take 8).all (okP m)=true:=by kernel_rfl
theorem A8u:(tabL.drop 64 |>.take 8).all (okP m)=true:=by kernel_rfl
theorem A8v:(tabL.drop 72 |>.take 8).all (okP m)=true:=by kernel_rfl
theorem A7d:(tabL.drop 80 |>.take 8).all (okP m)=true:=by kernel_rfl
theorem A7e:(tabL.drop 88 |>.take 8).all (okP m)=true:=by kernel_rfl
theorem A7f:(tabL.drop 96 |>.take 8).all (okP m)=true:=by kernel_rfl
theorem A7g:(tabL.drop 104 |>.take 8).all (okP m)=true:=by kernel_rfl
theorem A7h:(tabL.drop 112 |>.take 8).all (okP m)=true:=by kernel_rfl
theorem Vf{α:Type}:∀ {l:List (Nat × α)} {f:Nat} {a:α},l.lookup f=some a->(f,a)∈l
 | [],_,_,h=>by cases h
 | (g,b)::l,f,a,h=>by
  rw[Yh]at h
  split at h
  ·rename_i he
   cases h
   rw[eq_of_beq he]
   exact Dy
  ·exact Dj _ (Vf h)
theorem Ahu{α:Type}{p:α->Bool}(k:Nat):∀ (n:Nat) (l:List α),l.length<=n*k->(∀ i,i<n->((l.drop (i*k)).take k).all p=true)->∀ x∈l,p x=true
 | 0,l,hl,_,x,hx=>by
  have:l=[]:=X2.1 (by omega)
  subst this
  cases hx
 | n+1,l,hl,h,x,hx=>by
  rw[<-J7 k l]at hx
  rcases Cr.1 hx with hx | hx
  ·have h0:=h 0 (by omega)
   rw[Ac1,Ln]at h0
   exact Bi.1 h0 x hx
  ·refine Ahu k n (l.drop k) (by rw[Dn];rw[Ep]at hl;omega) (fun i hi=>?_) x hx
   have:=h (i+1) (by omega)
   rwa [Ni,Yn,<-Ep]
theorem A3m:∀ x∈tabL,okP m x=true:=by
 refine Ahu 8 15 tabL (of_decide_eq_true (by kernel_rfl)) fun i hi=>?_
 match i,hi with
 | 0,_=>exact A8m
 | 1,_=>exact A8n
 | 2,_=>exact A8o
 | 3,_=>exact A8p
 | 4,_=>exact A8q
 | 5,_=>exact A8r
 | 6,_=>exact A8s
 | 7,_=>exact A8t
 | 8,_=>exact A8u
 | 9,_=>exact A8v
 | 10,_=>exact A7d
 | 11,_=>exact A7e
 | 12,_=>exact A7f
 | 13,_=>exact A7g
 | 14,_=>exact A7h
 | i+15,h=>exact absurd h (by omega)
theorem hTT:∀ f F,TT f=some F->F.spec=none->Oi Tryz.prog (GT m) f F=true:=by
 intro f F h hs
 have hm:=A3m (m:=m) _ (Vf h)
 unfold okP at hm
 simp only[hs,Option.isSome_none,Va]at hm
 exact hm
theorem A3n:tabL.filter (fun p=>p.2.spec.isSome)=[(83,af83),(135,af135)]:=by rfl
theorem hST:∀ f F s,TT f=some F->F.spec=some s->Tx Tryz.prog (GT m) f s:=by
 intro f F s h hs
 have hm:(f,F)∈tabL.filter (fun p=>p.2.spec.isSome):=R6.2 ⟨Vf h,by simp[hs]⟩
 rw[A3n]at hm
 simp only[Bj,P9,or_false,Prod.mk.injEq]at hm
 rcases hm with⟨rfl,rfl⟩ | ⟨rfl,rfl⟩
 ·cases hs;exact A3i
 ·cases hs;exact A64
theorem hPT:∀ f s,PT f=some s->H5 Tryz.prog (GT m) f s:=by
 intro f s h
 have hm:=Vf h
 simp only[prL,Bj,P9,or_false,Prod.mk.injEq]at hm
 rcases hm with⟨rfl,rfl⟩ | ⟨rfl,rfl⟩ | ⟨rfl,rfl⟩ | ⟨rfl,rfl⟩ | ⟨rfl,rfl⟩ | ⟨rfl,rfl⟩ | ⟨rfl,rfl⟩ | ⟨rfl,rfl⟩ | ⟨rfl,rfl⟩
 ·exact Azb Aqh
 ·exact A3j Aqh
 ·exact A65
 ·exact A3l (A8l m)
 ·exact A66
 ·exact A7c hKw
 ·exact A67
 ·exact A3k
 ·exact A69 hEs Xs
theorem Px:∀ f F,TT f=some F->F.spec=none->Ja F.body=true:=by
 intro f F h _
 have hm:=Vf h
 have hall:(tabL.all fun p=>Ja p.2.body)=true:=by kernel_rfl
 exact Bi.1 hall _ hm
