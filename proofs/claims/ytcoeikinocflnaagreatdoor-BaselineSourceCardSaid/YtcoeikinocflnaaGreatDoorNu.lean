/- The table of functions, and that each form is the program's function. Printed by km_table.py. -/
import Derived.Test.YtcoeikinocflnaaGreatDoorNt
set_option linter.all false
namespace Go.Proofs.YtcoeikinocflnaaGreatDoor.KM
open Go
def GT(m:Int):List (Nat × List V):=[(0,[.int .i64 m]),(1,gKw),(2,gPow),(7,[.ifc]),(8,[.ifc]),(9,Aea)]
variable {m:Int}
theorem Al9:(2,gPow)∈GT m:=by simp[GT]
theorem hEs:(7,[V.ifc])∈GT m:=by simp[GT]
theorem hEr:(8,[V.ifc])∈GT m:=by simp[GT]
theorem hKw:(1,gKw)∈GT m:=by simp[GT]
theorem A2q(m:Int):(0,[V.int .i64 m])∈GT m:=by simp[GT]
def tabL:List (Nat × AF):=[(3,af3),(15,af15),(16,af16),(17,af17),(18,af18),(19,af19),(20,af20),(21,af21),(22,af22),(23,af23),(24,af24),(43,af43),(45,af45),(46,af46),(47,af47),(48,af48),(49,af49),(50,af50),(51,af51),(52,af52),(53,af53),(54,af54),(55,af55),(56,af56),(57,af57),(58,af58),(78,af78),(82,af82),(83,af83),(84,af84),(85,af85),(86,af86),(87,af87),(88,af88),(91,af91),(92,af92),(93,af93),(94,af94),(95,af95),(96,af96),(97,af97),(99,af99),(114,af114),(115,af115),(116,af116),(117,af117),(118,af118),(119,af119),(120,af120),(121,af121),(122,af122),(123,af123),(126,af126),(127,af127),(128,af128),(129,af129),(130,af130),(131,af131),(132,af132),(133,af133),(134,af134),(135,af135),(136,af136),(137,af137),(138,af138),(139,af139),(141,af141),(142,af142),(168,af168),(169,af169),(174,af174),(175,af175),(176,af176),(177,af177),(178,af178),(179,af179),(180,af180),(181,af181),(182,af182),(183,af183),(186,af186),(187,af187),(203,af203),(204,af204),(209,af209),(210,af210),(211,af211),(212,af212),(213,af213),(214,af214),(215,af215),(216,af216),(217,af217),(224,af224),(225,af225),(233,af233),(234,af234),(235,af235),(236,af236),(237,af237),(238,af238),(239,af239),(240,af240),(243,af243),(249,af249),(257,af257),(259,af259),(260,af260),(261,af261),(267,af267),(268,af268),(269,af269),(270,af270)]
def prL:List (Nat × (List V->Option V)):=[(81,Vo),(89,Rz),(90,L9),(98,Vk),(100,Oo),(166,Zm),(167,Sq),(185,Si),(202,Ss)]
def TT(f:Nat):Option AF:=tabL.lookup f
def PT(f:Nat):Option (List V->Option V):=prL.lookup f
theorem T3:TT 3=some af3:=by rfl
theorem T15:TT 15=some af15:=by rfl
theorem T16:TT 16=some af16:=by rfl
theorem T17:TT 17=some af17:=by rfl
theorem T18:TT 18=some af18:=by rfl
theorem T19:TT 19=some af19:=by rfl
theorem T20:TT 20=some af20:=by rfl
theorem T21:TT 21=some af21:=by rfl
theorem T22:TT 22=some af22:=by rfl
theorem T23:TT 23=some af23:=by rfl
theorem T24:TT 24=some af24:=by rfl
theorem T43:TT 43=some af43:=by rfl
theorem T45:TT 45=some af45:=by rfl
theorem T46:TT 46=some af46:=by rfl
theorem T47:TT 47=some af47:=by rfl
theorem T48:TT 48=some af48:=by rfl
theorem T49:TT 49=some af49:=by rfl
theorem T50:TT 50=some af50:=by rfl
theorem T51:TT 51=some af51:=by rfl
theorem T52:TT 52=some af52:=by rfl
theorem T53:TT 53=some af53:=by rfl
theorem T54:TT 54=some af54:=by rfl
theorem T55:TT 55=some af55:=by rfl
theorem T56:TT 56=some af56:=by rfl
theorem T57:TT 57=some af57:=by rfl
theorem T58:TT 58=some af58:=by rfl
theorem T78:TT 78=some af78:=by rfl
theorem T82:TT 82=some af82:=by rfl
theorem T83:TT 83=some af83:=by rfl
theorem T84:TT 84=some af84:=by rfl
theorem T85:TT 85=some af85:=by rfl
theorem T86:TT 86=some af86:=by rfl
theorem T87:TT 87=some af87:=by rfl
theorem T88:TT 88=some af88:=by rfl
theorem T91:TT 91=some af91:=by rfl
theorem T92:TT 92=some af92:=by rfl
theorem T93:TT 93=some af93:=by rfl
theorem T94:TT 94=some af94:=by rfl
theorem T95:TT 95=some af95:=by rfl
theorem T96:TT 96=some af96:=by rfl
theorem T97:TT 97=some af97:=by rfl
theorem T99:TT 99=some af99:=by rfl
theorem T114:TT 114=some af114:=by rfl
theorem T115:TT 115=some af115:=by rfl
theorem T116:TT 116=some af116:=by rfl
theorem T117:TT 117=some af117:=by rfl
theorem T118:TT 118=some af118:=by rfl
theorem T119:TT 119=some af119:=by rfl
theorem T120:TT 120=some af120:=by rfl
theorem T121:TT 121=some af121:=by rfl
theorem T122:TT 122=some af122:=by rfl
theorem T123:TT 123=some af123:=by rfl
theorem T126:TT 126=some af126:=by rfl
theorem T127:TT 127=some af127:=by rfl
theorem T128:TT 128=some af128:=by rfl
theorem T129:TT 129=some af129:=by rfl
theorem T130:TT 130=some af130:=by rfl
theorem T131:TT 131=some af131:=by rfl
theorem T132:TT 132=some af132:=by rfl
theorem T133:TT 133=some af133:=by rfl
theorem T134:TT 134=some af134:=by rfl
theorem T135:TT 135=some af135:=by rfl
theorem T136:TT 136=some af136:=by rfl
theorem T137:TT 137=some af137:=by rfl
theorem T138:TT 138=some af138:=by rfl
theorem T139:TT 139=some af139:=by rfl
theorem T141:TT 141=some af141:=by rfl
theorem T142:TT 142=some af142:=by rfl
theorem T168:TT 168=some af168:=by rfl
theorem T169:TT 169=some af169:=by rfl
theorem T174:TT 174=some af174:=by rfl
theorem T175:TT 175=some af175:=by rfl
theorem T176:TT 176=some af176:=by rfl
theorem T177:TT 177=some af177:=by rfl
theorem T178:TT 178=some af178:=by rfl
theorem T179:TT 179=some af179:=by rfl
theorem T180:TT 180=some af180:=by rfl
theorem T181:TT 181=some af181:=by rfl
theorem T182:TT 182=some af182:=by rfl
theorem T183:TT 183=some af183:=by rfl
theorem T186:TT 186=some af186:=by rfl
theorem T187:TT 187=some af187:=by rfl
theorem T203:TT 203=some af203:=by rfl
theorem T204:TT 204=some af204:=by rfl
theorem T209:TT 209=some af209:=by rfl
theorem T210:TT 210=some af210:=by rfl
theorem T211:TT 211=some af211:=by rfl
theorem T212:TT 212=some af212:=by rfl
theorem T213:TT 213=some af213:=by rfl
theorem T214:TT 214=some af214:=by rfl
theorem T215:TT 215=some af215:=by rfl
theorem T216:TT 216=some af216:=by rfl
theorem T217:TT 217=some af217:=by rfl
theorem T224:TT 224=some af224:=by rfl
theorem T225:TT 225=some af225:=by rfl
theorem T233:TT 233=some af233:=by rfl
theorem T234:TT 234=some af234:=by rfl
theorem T235:TT 235=some af235:=by rfl
theorem T236:TT 236=some af236:=by rfl
theorem T237:TT 237=some af237:=by rfl
theorem T238:TT 238=some af238:=by rfl
theorem T239:TT 239=some af239:=by rfl
theorem T240:TT 240=some af240:=by rfl
theorem T243:TT 243=some af243:=by rfl
theorem T249:TT 249=some af249:=by rfl
theorem T257:TT 257=some af257:=by rfl
theorem T259:TT 259=some af259:=by rfl
theorem T260:TT 260=some af260:=by rfl
theorem T261:TT 261=some af261:=by rfl
theorem T267:TT 267=some af267:=by rfl
theorem T268:TT 268=some af268:=by rfl
theorem T269:TT 269=some af269:=by rfl
theorem T270:TT 270=some af270:=by rfl
theorem P81:PT 81=some Vo:=by rfl
theorem P89:PT 89=some Rz:=by rfl
theorem P90:PT 90=some L9:=by rfl
theorem P98:PT 98=some Vk:=by rfl
theorem P100:PT 100=some Oo:=by rfl
theorem P166:PT 166=some Zm:=by rfl
theorem P167:PT 167=some Sq:=by rfl
theorem P185:PT 185=some Si:=by rfl
theorem P202:PT 202=some Ss:=by rfl
noncomputable def okP (m:Int) (p:Nat × AF):Bool:=p.2.spec.isSome||M7 Tryz.prog (GT m) p.1 p.2
theorem A2r:(tabL.drop 0 |>.take 8).all (okP m)=true:=by kernel_rfl
theorem A2s:(tabL.drop 8 |>.take 8).all (okP m)=true:=by kernel_rfl
theorem A2t:(tabL.drop 16 |>.take 8).all (okP m)=true:=by kernel_rfl
theorem A2u:(tabL.drop 24 |>.take 8).all (okP m)=true:=by kernel_rfl
theorem A2v:(tabL.drop 32 |>.take 8).all (okP m)=true:=by kernel_rfl
theorem A2w:(tabL.drop 40 |>.take 8).all (okP m)=true:=by kernel_rfl
theorem A2x:(tabL.drop 48 |>.take 8).all (okP m)=true:=by kernel_rfl
theorem A2y:(tabL.drop 56 |>.take 8).all (okP m)=true:=by kernel_rfl
theorem A2z:(tabL.drop 64 |>.take 8).all (okP m)=true:=by kernel_rfl
theorem A20:(tabL.drop 72 |>.take 8).all (okP m)=true:=by kernel_rfl
theorem A1g:(tabL.drop 80 |>.take 8).all (okP m)=true:=by kernel_rfl
theorem A1h:(tabL.drop 88 |>.take 8).all (okP m)=true:=by kernel_rfl
theorem A1i:(tabL.drop 96 |>.take 8).all (okP m)=true:=by kernel_rfl
theorem A1j:(tabL.drop 104 |>.take 8).all (okP m)=true:=by kernel_rfl
theorem A1k:(tabL.drop 112 |>.take 8).all (okP m)=true:=by kernel_rfl
theorem Tg{α:Type}:∀ {l:List (Nat × α)} {f:Nat} {a:α},l.lookup f=some a->(f,a)∈l
 | [],_,_,h=>by cases h
 | (g,b)::l,f,a,h=>by
  rw[We]at h
  split at h
  ·rename_i he
   cases h
   rw[eq_of_beq he]
   exact Ec
  ·exact Dz _ (Tg h)
theorem Aeu{α:Type}{p:α->Bool}(k:Nat):∀ (n:Nat) (l:List α),l.length<=n*k->(∀ i,i<n->((l.drop (i*k)).take k).all p=true)->∀ x∈l,p x=true
 | 0,l,hl,_,x,hx=>by
  have:l=[]:=V0.1 (by omega)
  subst this
  cases hx
 | n+1,l,hl,h,x,hx=>by
  rw[<-Lh k l]at hx
  rcases Cq.1 hx with hx | hx
  ·have h0:=h 0 (by omega)
   rw[Aab,O0]at h0
   exact Bd.1 h0 x hx
  ·refine Aeu k n (l.drop k) (by rw[D0];rw[D9]at hl;omega) (fun i hi=>?_) x hx
   have:=h (i+1) (by omega)
   rwa [Qn,Wk,<-D9]
theorem Axw:∀ x∈tabL,okP m x=true:=by
 refine Aeu 8 15 tabL (of_decide_eq_true (by kernel_rfl)) fun i hi=>?_
 match i,hi with
 | 0,_=>exact A2r
 | 1,_=>exact A2s
 | 2,_=>exact A2t
 | 3,_=>exact A2u
 | 4,_=>exact A2v
 | 5,_=>exact A2w
 | 6,_=>exact A2x
 | 7,_=>exact A2y
 | 8,_=>exact A2z
 | 9,_=>exact A20
 | 10,_=>exact A1g
 | 11,_=>exact A1h
 | 12,_=>exact A1i
 | 13,_=>exact A1j
 | 14,_=>exact A1k
 | i+15,h=>exact absurd h (by omega)
theorem hTT:∀ f F,TT f=some F->F.spec=none->M7 Tryz.prog (GT m) f F=true:=by
 intro f F h hs
 have hm:=Axw (m:=m) _ (Tg h)
 unfold okP at hm
 simp only[hs,Option.isSome_none,Ta]at hm
 exact hm
theorem Axx:tabL.filter (fun p=>p.2.spec.isSome)=[(142,af142),(224,af224)]:=by rfl
theorem hST:∀ f F s,TT f=some F->F.spec=some s->Rw Tryz.prog (GT m) f s:=by
 intro f F s h hs
 have hm:(f,F)∈tabL.filter (fun p=>p.2.spec.isSome):=Qm.2 ⟨Tg h,by simp[hs]⟩
 rw[Axx]at hm
 simp only[Be,Oy,or_false,Prod.mk.injEq]at hm
 rcases hm with⟨rfl,rfl⟩ | ⟨rfl,rfl⟩
 ·cases hs;exact Axs
 ·cases hs;exact A07
theorem hPT:∀ f s,PT f=some s->Hi Tryz.prog (GT m) f s:=by
 intro f s h
 have hm:=Tg h
 simp only[prL,Be,Oy,or_false,Prod.mk.injEq]at hm
 rcases hm with⟨rfl,rfl⟩ | ⟨rfl,rfl⟩ | ⟨rfl,rfl⟩ | ⟨rfl,rfl⟩ | ⟨rfl,rfl⟩ | ⟨rfl,rfl⟩ | ⟨rfl,rfl⟩ | ⟨rfl,rfl⟩ | ⟨rfl,rfl⟩
 ·exact A08
 ·exact At1 Al9
 ·exact Axt Al9
 ·exact Axv (A2q m)
 ·exact A09
 ·exact A1f hKw
 ·exact A1a
 ·exact Axu
 ·exact A1c hEs hEr
theorem Na:∀ f F,TT f=some F->F.spec=none->Ik F.body=true:=by
 intro f F h _
 have hm:=Tg h
 have hall:(tabL.all fun p=>Ik p.2.body)=true:=by kernel_rfl
 exact Bd.1 hall _ hm
