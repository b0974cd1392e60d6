/- The table of functions, and that each form is the program's function. Printed by km_table.py. -/
import Derived.Test.YtlehfgdhebapeaaGreatDoorNt
set_option linter.all false
namespace Go.Proofs.YtlehfgdhebapeaaGreatDoor.KM
open Go
def GT(m:Int):List (Nat × List V):=[(0,Ac2),(1,[.int .i64 m]),(2,[.ifc]),(3,[.ifc]),(4,gKw),(5,gPow)]
variable {m:Int}
theorem Aki:(5,gPow)∈GT m:=by simp[GT]
theorem hEs:(2,[V.ifc])∈GT m:=by simp[GT]
theorem hEr:(3,[V.ifc])∈GT m:=by simp[GT]
theorem hKw:(4,gKw)∈GT m:=by simp[GT]
def tabL:List (Nat × AF):=[(4,af4),(8,af8),(9,af9),(10,af10),(11,af11),(12,af12),(13,af13),(14,af14),(16,af16),(19,af19),(30,af30),(31,af31),(32,af32),(33,af33),(34,af34),(35,af35),(37,af37),(38,af38),(39,af39),(40,af40),(41,af41),(42,af42),(43,af43),(44,af44),(45,af45),(46,af46),(47,af47),(48,af48),(68,af68),(69,af69),(71,af71),(74,af74),(76,af76),(77,af77),(78,af78),(79,af79),(80,af80),(81,af81),(82,af82),(84,af84),(85,af85),(86,af86),(87,af87),(88,af88),(89,af89),(90,af90),(110,af110),(117,af117),(118,af118),(119,af119),(120,af120),(121,af121),(122,af122),(123,af123),(124,af124),(125,af125),(126,af126),(128,af128),(129,af129),(130,af130),(131,af131),(161,af161),(162,af162),(167,af167),(168,af168),(169,af169),(200,af200),(201,af201),(207,af207),(208,af208),(224,af224),(225,af225),(226,af226),(227,af227),(228,af228),(229,af229),(230,af230)]
def prL:List (Nat × (List V->Option V)):=[(36,Rk),(70,Nt),(73,Rz),(75,U2),(83,Jb),(99,Pr),(159,Yg),(160,R8),(199,R9)]
def TT(f:Nat):Option AF:=tabL.lookup f
def PT(f:Nat):Option (List V->Option V):=prL.lookup f
theorem T4:TT 4=some af4:=by rfl
theorem T8:TT 8=some af8:=by rfl
theorem T9:TT 9=some af9:=by rfl
theorem T10:TT 10=some af10:=by rfl
theorem T11:TT 11=some af11:=by rfl
theorem T12:TT 12=some af12:=by rfl
theorem T13:TT 13=some af13:=by rfl
theorem T14:TT 14=some af14:=by rfl
theorem T16:TT 16=some af16:=by rfl
theorem T19:TT 19=some af19:=by rfl
theorem T30:TT 30=some af30:=by rfl
theorem T31:TT 31=some af31:=by rfl
theorem T32:TT 32=some af32:=by rfl
theorem T33:TT 33=some af33:=by rfl
theorem T34:TT 34=some af34:=by rfl
theorem T35:TT 35=some af35:=by rfl
theorem T37:TT 37=some af37:=by rfl
theorem T38:TT 38=some af38:=by rfl
theorem T39:TT 39=some af39:=by rfl
theorem T40:TT 40=some af40:=by rfl
theorem T41:TT 41=some af41:=by rfl
theorem T42:TT 42=some af42:=by rfl
theorem T43:TT 43=some af43:=by rfl
theorem T44:TT 44=some af44:=by rfl
theorem T45:TT 45=some af45:=by rfl
theorem T46:TT 46=some af46:=by rfl
theorem T47:TT 47=some af47:=by rfl
theorem T48:TT 48=some af48:=by rfl
theorem T68:TT 68=some af68:=by rfl
theorem T69:TT 69=some af69:=by rfl
theorem T71:TT 71=some af71:=by rfl
theorem T74:TT 74=some af74:=by rfl
theorem T76:TT 76=some af76:=by rfl
theorem T77:TT 77=some af77:=by rfl
theorem T78:TT 78=some af78:=by rfl
theorem T79:TT 79=some af79:=by rfl
theorem T80:TT 80=some af80:=by rfl
theorem T81:TT 81=some af81:=by rfl
theorem T82:TT 82=some af82:=by rfl
theorem T84:TT 84=some af84:=by rfl
theorem T85:TT 85=some af85:=by rfl
theorem T86:TT 86=some af86:=by rfl
theorem T87:TT 87=some af87:=by rfl
theorem T88:TT 88=some af88:=by rfl
theorem T89:TT 89=some af89:=by rfl
theorem T90:TT 90=some af90:=by rfl
theorem T110:TT 110=some af110:=by rfl
theorem T117:TT 117=some af117:=by rfl
theorem T118:TT 118=some af118:=by rfl
theorem T119:TT 119=some af119:=by rfl
theorem T120:TT 120=some af120:=by rfl
theorem T121:TT 121=some af121:=by rfl
theorem T122:TT 122=some af122:=by rfl
theorem T123:TT 123=some af123:=by rfl
theorem T124:TT 124=some af124:=by rfl
theorem T125:TT 125=some af125:=by rfl
theorem T126:TT 126=some af126:=by rfl
theorem T128:TT 128=some af128:=by rfl
theorem T129:TT 129=some af129:=by rfl
theorem T130:TT 130=some af130:=by rfl
theorem T131:TT 131=some af131:=by rfl
theorem T161:TT 161=some af161:=by rfl
theorem T162:TT 162=some af162:=by rfl
theorem T167:TT 167=some af167:=by rfl
theorem T168:TT 168=some af168:=by rfl
theorem T169:TT 169=some af169:=by rfl
theorem T200:TT 200=some af200:=by rfl
theorem T201:TT 201=some af201:=by rfl
theorem T207:TT 207=some af207:=by rfl
theorem T208:TT 208=some af208:=by rfl
theorem T224:TT 224=some af224:=by rfl
theorem T225:TT 225=some af225:=by rfl
theorem T226:TT 226=some af226:=by rfl
theorem T227:TT 227=some af227:=by rfl
theorem T228:TT 228=some af228:=by rfl
theorem T229:TT 229=some af229:=by rfl
theorem T230:TT 230=some af230:=by rfl
theorem P36:PT 36=some Rk:=by rfl
theorem P70:PT 70=some Nt:=by rfl
theorem P73:PT 73=some Rz:=by rfl
theorem P75:PT 75=some U2:=by rfl
theorem P83:PT 83=some Jb:=by rfl
theorem P99:PT 99=some Pr:=by rfl
theorem P159:PT 159=some Yg:=by rfl
theorem P160:PT 160=some R8:=by rfl
theorem P199:PT 199=some R9:=by rfl
theorem ok4:A0 Tryz.prog (GT m) 4 af4=true:=by kernel_rfl
theorem ok8:A0 Tryz.prog (GT m) 8 af8=true:=by kernel_rfl
theorem ok9:A0 Tryz.prog (GT m) 9 af9=true:=by kernel_rfl
theorem ok10:A0 Tryz.prog (GT m) 10 af10=true:=by kernel_rfl
theorem ok11:A0 Tryz.prog (GT m) 11 af11=true:=by kernel_rfl
theorem ok12:A0 Tryz.prog (GT m) 12 af12=true:=by kernel_rfl
theorem ok13:A0 Tryz.prog (GT m) 13 af13=true:=by kernel_rfl
theorem ok14:A0 Tryz.prog (GT m) 14 af14=true:=by kernel_rfl
theorem ok16:A0 Tryz.prog (GT m) 16 af16=true:=by kernel_rfl
theorem ok19:A0 Tryz.prog (GT m) 19 af19=true:=by kernel_rfl
theorem ok30:A0 Tryz.prog (GT m) 30 af30=true:=by kernel_rfl
theorem ok31:A0 Tryz.prog (GT m) 31 af31=true:=by kernel_rfl
theorem ok32:A0 Tryz.prog (GT m) 32 af32=true:=by kernel_rfl
theorem ok33:A0 Tryz.prog (GT m) 33 af33=true:=by kernel_rfl
theorem ok34:A0 Tryz.prog (GT m) 34 af34=true:=by kernel_rfl
theorem ok35:A0 Tryz.prog (GT m) 35 af35=true:=by kernel_rfl
theorem ok37:A0 Tryz.prog (GT m) 37 af37=true:=by kernel_rfl
theorem ok39:A0 Tryz.prog (GT m) 39 af39=true:=by kernel_rfl
theorem ok40:A0 Tryz.prog (GT m) 40 af40=true:=by kernel_rfl
theorem ok41:A0 Tryz.prog (GT m) 41 af41=true:=by kernel_rfl
theorem ok42:A0 Tryz.prog (GT m) 42 af42=true:=by kernel_rfl
theorem ok43:A0 Tryz.prog (GT m) 43 af43=true:=by kernel_rfl
theorem ok44:A0 Tryz.prog (GT m) 44 af44=true:=by kernel_rfl
theorem ok45:A0 Tryz.prog (GT m) 45 af45=true:=by kernel_rfl
theorem ok46:A0 Tryz.prog (GT m) 46 af46=true:=by kernel_rfl
theorem ok47:A0 Tryz.prog (GT m) 47 af47=true:=by kernel_rfl
theorem ok48:A0 Tryz.prog (GT m) 48 af48=true:=by kernel_rfl
theorem ok68:A0 Tryz.prog (GT m) 68 af68=true:=by kernel_rfl
theorem ok71:A0 Tryz.prog (GT m) 71 af71=true:=by kernel_rfl
theorem ok74:A0 Tryz.prog (GT m) 74 af74=true:=by kernel_rfl
theorem ok76:A0 Tryz.prog (GT m) 76 af76=true:=by kernel_rfl
theorem ok77:A0 Tryz.prog (GT m) 77 af77=true:=by kernel_rfl
theorem ok78:A0 Tryz.prog (GT m) 78 af78=true:=by kernel_rfl
theorem ok79:A0 Tryz.prog (GT m) 79 af79=true:=by kernel_rfl
theorem ok80:A0 Tryz.prog (GT m) 80 af80=true:=by kernel_rfl
theorem ok81:A0 Tryz.prog (GT m) 81 af81=true:=by kernel_rfl
theorem ok82:A0 Tryz.prog (GT m) 82 af82=true:=by kernel_rfl
theorem ok84:A0 Tryz.prog (GT m) 84 af84=true:=by kernel_rfl
theorem ok85:A0 Tryz.prog (GT m) 85 af85=true:=by kernel_rfl
theorem ok86:A0 Tryz.prog (GT m) 86 af86=true:=by kernel_rfl
theorem ok87:A0 Tryz.prog (GT m) 87 af87=true:=by kernel_rfl
theorem ok88:A0 Tryz.prog (GT m) 88 af88=true:=by kernel_rfl
theorem ok89:A0 Tryz.prog (GT m) 89 af89=true:=by kernel_rfl
theorem ok90:A0 Tryz.prog (GT m) 90 af90=true:=by kernel_rfl
theorem ok110:A0 Tryz.prog (GT m) 110 af110=true:=by kernel_rfl
theorem ok117:A0 Tryz.prog (GT m) 117 af117=true:=by kernel_rfl
theorem ok118:A0 Tryz.prog (GT m) 118 af118=true:=by kernel_rfl
theorem ok119:A0 Tryz.prog (GT m) 119 af119=true:=by kernel_rfl
theorem ok120:A0 Tryz.prog (GT m) 120 af120=true:=by kernel_rfl
theorem ok121:A0 Tryz.prog (GT m) 121 af121=true:=by kernel_rfl
theorem ok122:A0 Tryz.prog (GT m) 122 af122=true:=by kernel_rfl
theorem ok123:A0 Tryz.prog (GT m) 123 af123=true:=by kernel_rfl
theorem ok124:A0 Tryz.prog (GT m) 124 af124=true:=by kernel_rfl
theorem ok125:A0 Tryz.prog (GT m) 125 af125=true:=by kernel_rfl
theorem ok126:A0 Tryz.prog (GT m) 126 af126=true:=by kernel_rfl
theorem ok128:A0 Tryz.prog (GT m) 128 af128=true:=by kernel_rfl
theorem ok129:A0 Tryz.prog (GT m) 129 af129=true:=by kernel_rfl
theorem ok130:A0 Tryz.prog (GT m) 130 af130=true:=by kernel_rfl
theorem ok131:A0 Tryz.prog (GT m) 131 af131=true:=by kernel_rfl
theorem ok161:A0 Tryz.prog (GT m) 161 af161=true:=by kernel_rfl
theorem ok162:A0 Tryz.prog (GT m) 162 af162=true:=by kernel_rfl
theorem ok167:A0 Tryz.prog (GT m) 167 af167=true:=by kernel_rfl
theorem ok168:A0 Tryz.prog (GT m) 168 af168=true:=by kernel_rfl
theorem ok169:A0 Tryz.prog (GT m) 169 af169=true:=by kernel_rfl
theorem ok200:A0 Tryz.prog (GT m) 200 af200=true:=by kernel_rfl
theorem ok201:A0 Tryz.prog (GT m) 201 af201=true:=by kernel_rfl
theorem ok207:A0 Tryz.prog (GT m) 207 af207=true:=by kernel_rfl
theorem ok208:A0 Tryz.prog (GT m) 208 af208=true:=by kernel_rfl
theorem ok224:A0 Tryz.prog (GT m) 224 af224=true:=by kernel_rfl
theorem ok225:A0 Tryz.prog (GT m) 225 af225=true:=by kernel_rfl
theorem ok226:A0 Tryz.prog (GT m) 226 af226=true:=by kernel_rfl
theorem ok227:A0 Tryz.prog (GT m) 227 af227=true:=by kernel_rfl
theorem ok228:A0 Tryz.prog (GT m) 228 af228=true:=by kernel_rfl
theorem ok229:A0 Tryz.prog (GT m) 229 af229=true:=by kernel_rfl
theorem ok230:A0 Tryz.prog (GT m) 230 af230=true:=by kernel_rfl
theorem S0{α:Type}:∀ {l:List (Nat × α)} {f:Nat} {a:α},l.lookup f=some a->(f,a)∈l
 | [],_,_,h=>by cases h
 | (g,b)::l,f,a,h=>by
  rw[Ve]at h
  split at h
  ·rename_i he
   cases h
   rw[eq_of_beq he]
   exact Co
  ·exact Cb _ (S0 h)
theorem Yh:∀ f F,TT f=some F->F.spec=none->A0 Tryz.prog (GT m) f F=true:=by
 intro f F h hs
 have hm:=S0 h
 simp only[tabL,Bm,Jf,or_false,Prod.mk.injEq]at hm
 rcases hm with⟨rfl,rfl⟩ | ⟨rfl,rfl⟩ | ⟨rfl,rfl⟩ | ⟨rfl,rfl⟩ | ⟨rfl,rfl⟩ | ⟨rfl,rfl⟩ | ⟨rfl,rfl⟩ | ⟨rfl,rfl⟩ | ⟨rfl,rfl⟩ | ⟨rfl,rfl⟩ | ⟨rfl,rfl⟩ | ⟨rfl,rfl⟩ | ⟨rfl,rfl⟩ | ⟨rfl,rfl⟩ | ⟨rfl,rfl⟩ | ⟨rfl,rfl⟩ | ⟨rfl,rfl⟩ | ⟨rfl,rfl⟩ | ⟨rfl,rfl⟩ | ⟨rfl,rfl⟩ | ⟨rfl,rfl⟩ | ⟨rfl,rfl⟩ | ⟨rfl,rfl⟩ | ⟨rfl,rfl⟩ | ⟨rfl,rfl⟩ | ⟨rfl,rfl⟩ | ⟨rfl,rfl⟩ | ⟨rfl,rfl⟩ | ⟨rfl,rfl⟩ | ⟨rfl,rfl⟩ | ⟨rfl,rfl⟩ | ⟨rfl,rfl⟩ | ⟨rfl,rfl⟩ | ⟨rfl,rfl⟩ | ⟨rfl,rfl⟩ | ⟨rfl,rfl⟩ | ⟨rfl,rfl⟩ | ⟨rfl,rfl⟩ | ⟨rfl,rfl⟩ | ⟨rfl,rfl⟩ | ⟨rfl,rfl⟩ | ⟨rfl,rfl⟩ | ⟨rfl,rfl⟩ | ⟨rfl,rfl⟩ | ⟨rfl,rfl⟩ | ⟨rfl,rfl⟩ | ⟨rfl,rfl⟩ | ⟨rfl,rfl⟩ | ⟨rfl,rfl⟩ | ⟨rfl,rfl⟩ | ⟨rfl,rfl⟩ | ⟨rfl,rfl⟩ | ⟨rfl,rfl⟩ | ⟨rfl,rfl⟩ | ⟨rfl,rfl⟩ | ⟨rfl,rfl⟩ | ⟨rfl,rfl⟩ | ⟨rfl,rfl⟩ | ⟨rfl,rfl⟩ | ⟨rfl,rfl⟩ | ⟨rfl,rfl⟩ | ⟨rfl,rfl⟩ | ⟨rfl,rfl⟩ | ⟨rfl,rfl⟩ | ⟨rfl,rfl⟩ | ⟨rfl,rfl⟩ | ⟨rfl,rfl⟩ | ⟨rfl,rfl⟩ | ⟨rfl,rfl⟩ | ⟨rfl,rfl⟩ | ⟨rfl,rfl⟩ | ⟨rfl,rfl⟩ | ⟨rfl,rfl⟩ | ⟨rfl,rfl⟩ | ⟨rfl,rfl⟩ | ⟨rfl,rfl⟩ | ⟨rfl,rfl⟩
 ·exact ok4
 ·exact ok8
 ·exact ok9
 ·exact ok10
 ·exact ok11
 ·exact ok12
 ·exact ok13
 ·exact ok14
 ·exact ok16
 ·exact ok19
 ·exact ok30
 ·exact ok31
 ·exact ok32
 ·exact ok33
 ·exact ok34
 ·exact ok35
 ·exact ok37
 ·cases hs
 ·exact ok39
 ·exact ok40
 ·exact ok41
 ·exact ok42
 ·exact ok43
 ·exact ok44
 ·exact ok45
 ·exact ok46
 ·exact ok47
 ·exact ok48
 ·exact ok68
 ·cases hs
 ·exact ok71
 ·exact ok74
 ·exact ok76
 ·exact ok77
 ·exact ok78
 ·exact ok79
 ·exact ok80
 ·exact ok81
 ·exact ok82
 ·exact ok84
 ·exact ok85
 ·exact ok86
 ·exact ok87
 ·exact ok88
 ·exact ok89
 ·exact ok90
 ·exact ok110
 ·exact ok117
 ·exact ok118
 ·exact ok119
 ·exact ok120
 ·exact ok121
 ·exact ok122
 ·exact ok123
 ·exact ok124
 ·exact ok125
 ·exact ok126
 ·exact ok128
 ·exact ok129
 ·exact ok130
 ·exact ok131
 ·exact ok161
 ·exact ok162
 ·exact ok167
 ·exact ok168
 ·exact ok169
 ·exact ok200
 ·exact ok201
 ·exact ok207
 ·exact ok208
 ·exact ok224
 ·exact ok225
 ·exact ok226
 ·exact ok227
 ·exact ok228
 ·exact ok229
 ·exact ok230
theorem hST:∀ f F s,TT f=some F->F.spec=some s->Nr Tryz.prog (GT m) f s:=by
 intro f F s h hs
 have hm:=S0 h
 simp only[tabL,Bm,Jf,or_false,Prod.mk.injEq]at hm
 rcases hm with⟨rfl,rfl⟩ | ⟨rfl,rfl⟩ | ⟨rfl,rfl⟩ | ⟨rfl,rfl⟩ | ⟨rfl,rfl⟩ | ⟨rfl,rfl⟩ | ⟨rfl,rfl⟩ | ⟨rfl,rfl⟩ | ⟨rfl,rfl⟩ | ⟨rfl,rfl⟩ | ⟨rfl,rfl⟩ | ⟨rfl,rfl⟩ | ⟨rfl,rfl⟩ | ⟨rfl,rfl⟩ | ⟨rfl,rfl⟩ | ⟨rfl,rfl⟩ | ⟨rfl,rfl⟩ | ⟨rfl,rfl⟩ | ⟨rfl,rfl⟩ | ⟨rfl,rfl⟩ | ⟨rfl,rfl⟩ | ⟨rfl,rfl⟩ | ⟨rfl,rfl⟩ | ⟨rfl,rfl⟩ | ⟨rfl,rfl⟩ | ⟨rfl,rfl⟩ | ⟨rfl,rfl⟩ | ⟨rfl,rfl⟩ | ⟨rfl,rfl⟩ | ⟨rfl,rfl⟩ | ⟨rfl,rfl⟩ | ⟨rfl,rfl⟩ | ⟨rfl,rfl⟩ | ⟨rfl,rfl⟩ | ⟨rfl,rfl⟩ | ⟨rfl,rfl⟩ | ⟨rfl,rfl⟩ | ⟨rfl,rfl⟩ | ⟨rfl,rfl⟩ | ⟨rfl,rfl⟩ | ⟨rfl,rfl⟩ | ⟨rfl,rfl⟩ | ⟨rfl,rfl⟩ | ⟨rfl,rfl⟩ | ⟨rfl,rfl⟩ | ⟨rfl,rfl⟩ | ⟨rfl,rfl⟩ | ⟨rfl,rfl⟩ | ⟨rfl,rfl⟩ | ⟨rfl,rfl⟩ | ⟨rfl,rfl⟩ | ⟨rfl,rfl⟩ | ⟨rfl,rfl⟩ | ⟨rfl,rfl⟩ | ⟨rfl,rfl⟩ | ⟨rfl,rfl⟩ | ⟨rfl,rfl⟩ | ⟨rfl,rfl⟩ | ⟨rfl,rfl⟩ | ⟨rfl,rfl⟩ | ⟨rfl,rfl⟩ | ⟨rfl,rfl⟩ | ⟨rfl,rfl⟩ | ⟨rfl,rfl⟩ | ⟨rfl,rfl⟩ | ⟨rfl,rfl⟩ | ⟨rfl,rfl⟩ | ⟨rfl,rfl⟩ | ⟨rfl,rfl⟩ | ⟨rfl,rfl⟩ | ⟨rfl,rfl⟩ | ⟨rfl,rfl⟩ | ⟨rfl,rfl⟩ | ⟨rfl,rfl⟩ | ⟨rfl,rfl⟩ | ⟨rfl,rfl⟩ | ⟨rfl,rfl⟩
 ·cases hs
 ·cases hs
 ·cases hs
 ·cases hs
 ·cases hs
 ·cases hs
 ·cases hs
 ·cases hs
 ·cases hs
 ·cases hs
 ·cases hs
 ·cases hs
 ·cases hs
 ·cases hs
 ·cases hs
 ·cases hs
 ·cases hs
 ·cases hs;exact Avc
 ·cases hs
 ·cases hs
 ·cases hs
 ·cases hs
 ·cases hs
 ·cases hs
 ·cases hs
 ·cases hs
 ·cases hs
 ·cases hs
 ·cases hs
 ·cases hs;exact Ayp
 ·cases hs
 ·cases hs
 ·cases hs
 ·cases hs
 ·cases hs
 ·cases hs
 ·cases hs
 ·cases hs
 ·cases hs
 ·cases hs
 ·cases hs
 ·cases hs
 ·cases hs
 ·cases hs
 ·cases hs
 ·cases hs
 ·cases hs
 ·cases hs
 ·cases hs
 ·cases hs
 ·cases hs
 ·cases hs
 ·cases hs
 ·cases hs
 ·cases hs
 ·cases hs
 ·cases hs
 ·cases hs
 ·cases hs
 ·cases hs
 ·cases hs
 ·cases hs
 ·cases hs
 ·cases hs
 ·cases hs
 ·cases hs
 ·cases hs
 ·cases hs
 ·cases hs
 ·cases hs
 ·cases hs
 ·cases hs
 ·cases hs
 ·cases hs
 ·cases hs
 ·cases hs
 ·cases hs
theorem Yi:∀ f s,PT f=some s->Fd Tryz.prog (GT m) f s:=by
 intro f s h
 have hm:=S0 h
 simp only[prL,Bm,Jf,or_false,Prod.mk.injEq]at hm
 rcases hm with⟨rfl,rfl⟩ | ⟨rfl,rfl⟩ | ⟨rfl,rfl⟩ | ⟨rfl,rfl⟩ | ⟨rfl,rfl⟩ | ⟨rfl,rfl⟩ | ⟨rfl,rfl⟩ | ⟨rfl,rfl⟩ | ⟨rfl,rfl⟩
 ·exact Arj
 ·exact Ari Aki
 ·exact Ave
 ·exact Ayq
 ·exact Avd Aki
 ·exact Ayr
 ·exact Ayx hKw
 ·exact Ays
 ·exact Ayu hEs hEr
theorem Sb:∀ f F,TT f=some F->F.spec=none->H7 F.body=true:=by
 intro f F h _
 have hm:=S0 h
 have hall:(tabL.all fun p=>H7 p.2.body)=true:=by kernel_rfl
 exact A5.1 hall _ hm
end Go.Proofs.YtlehfgdhebapeaaGreatDoor.KM
