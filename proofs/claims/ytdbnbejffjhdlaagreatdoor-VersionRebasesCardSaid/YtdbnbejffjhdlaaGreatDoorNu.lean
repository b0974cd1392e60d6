/- The table of functions, and that each form is the program's function. Printed by km_table.py. -/
import Derived.Test.YtdbnbejffjhdlaaGreatDoorNt
set_option linter.all false
set_option maxRecDepth 100000
set_option maxHeartbeats 4000000
namespace Go.Proofs.YtdbnbejffjhdlaaGreatDoor.KM
open Go
def GT(m:Int):List (Nat × List V):=[(0,[.int .i64 m]),(1,gKw),(2,gPow),(7,[.ifc]),(8,[.ifc]),(9,Azt)]
variable {m:Int}
theorem Azu:(2,gPow)∈GT m:=by simp[GT]
theorem hEs:(7,[V.ifc])∈GT m:=by simp[GT]
theorem hEr:(8,[V.ifc])∈GT m:=by simp[GT]
theorem hKw:(1,gKw)∈GT m:=by simp[GT]
theorem Bon(m:Int):(0,[V.int .i64 m])∈GT m:=by simp[GT]
noncomputable def tabL:List (Nat × AF):=[(3,af3),(4,af4),(5,af5),(6,af6),(7,af7),(8,af8),(9,af9),(10,af10),(11,af11),(12,af12),(13,af13),(14,af14),(15,af15),(16,af16),(17,af17),(18,af18),(19,af19),(20,af20),(21,af21),(22,af22),(23,af23),(24,af24),(25,af25),(26,af26),(27,af27),(28,af28),(29,af29),(30,af30),(31,af31),(32,af32),(33,af33),(34,af34),(35,af35),(36,af36),(37,af37),(38,af38),(39,af39),(40,af40),(41,af41),(42,af42),(43,af43),(44,af44),(45,af45),(46,af46),(47,af47),(48,af48),(49,af49),(50,af50),(51,af51),(52,af52),(53,af53),(54,af54),(55,af55),(56,af56),(57,af57),(58,af58),(59,af59),(60,af60),(61,af61),(62,af62),(64,af64),(65,af65),(66,af66),(67,af67),(68,af68),(69,af69),(70,af70),(73,af73),(74,af74),(75,af75),(76,af76),(77,af77),(78,af78),(79,af79),(80,af80),(81,af81),(82,af82),(83,af83),(84,af84),(85,af85),(88,af88),(89,af89),(90,af90),(91,af91),(92,af92),(93,af93),(94,af94),(95,af95),(96,af96),(97,af97),(98,af98),(102,af102),(103,af103),(104,af104),(105,af105),(106,af106),(107,af107),(108,af108),(109,af109),(110,af110),(111,af111),(114,af114),(115,af115),(116,af116),(117,af117),(118,af118),(119,af119),(120,af120),(121,af121),(122,af122),(123,af123),(124,af124),(125,af125),(126,af126),(128,af128),(141,af141),(142,af142),(143,af143),(144,af144),(145,af145),(146,af146),(151,af151),(152,af152),(157,af157),(158,af158),(159,af159),(160,af160),(161,af161),(162,af162),(163,af163),(165,af165),(166,af166),(172,af172),(173,af173),(174,af174),(182,af182),(183,af183),(188,af188),(189,af189),(190,af190),(191,af191),(192,af192),(193,af193),(194,af194),(197,af197),(198,af198),(205,af205),(206,af206),(207,af207),(208,af208),(209,af209),(210,af210),(211,af211),(212,af212),(215,af215),(222,af222),(223,af223),(231,af231),(237,af237),(243,af243),(244,af244),(246,af246),(247,af247),(248,af248),(249,af249),(250,af250)]
def prL:List (Nat × (List V->Option V)):=[(63,hpS),(71,Xq),(72,P9),(99,Ags),(101,Ts),(127,Abi),(129,Af3),(149,kwS),(150,Ya),(181,Yb),(196,X4)]
noncomputable def TT (f:Nat):Option AF:=tabL.lookup f
def PT(f:Nat):Option (List V->Option V):=prL.lookup f
theorem tG(k:Nat){F H:AF}(h:F=H)(h2:TT k=some F):TT k=some H:=h ▸ h2
def T3:=tG 3 (by simp only[go_sem,af3,Tryz.f3];rfl:af3=_) rfl
def T4:=tG 4 (by simp only[go_sem,af4,Tryz.f4];rfl:af4=_) rfl
def T5:=tG 5 (by simp only[go_sem,af5,Tryz.f5];rfl:af5=_) rfl
def T6:=tG 6 (by simp only[go_sem,af6,Tryz.f6];rfl:af6=_) rfl
def T7:=tG 7 (by simp only[go_sem,af7,Tryz.f7];rfl:af7=_) rfl
def T8:=tG 8 (by simp only[go_sem,af8,Tryz.f8];rfl:af8=_) rfl
def T9:=tG 9 (by simp only[go_sem,af9,Tryz.f9];rfl:af9=_) rfl
def T10:=tG 10 (by simp only[go_sem,af10,Tryz.f10];rfl:af10=_) rfl
def T11:=tG 11 (by simp only[go_sem,af11,Tryz.f11];rfl:af11=_) rfl
def T12:=tG 12 (by simp only[go_sem,af12,Tryz.f12];rfl:af12=_) rfl
def T13:=tG 13 (by simp only[go_sem,af13,Tryz.f13];rfl:af13=_) rfl
def T14:=tG 14 (by simp only[go_sem,af14,Tryz.f14];rfl:af14=_) rfl
def T15:=tG 15 (by simp only[go_sem,af15,Tryz.f15];rfl:af15=_) rfl
def T16:=tG 16 (by simp only[go_sem,af16,Tryz.f16];rfl:af16=_) rfl
def T17:=tG 17 (by simp only[go_sem,af17,Tryz.f17];rfl:af17=_) rfl
def T18:=tG 18 (by simp only[go_sem,af18,Tryz.f18];rfl:af18=_) rfl
def T19:=tG 19 (by simp only[go_sem,af19,Tryz.f19];rfl:af19=_) rfl
def T20:=tG 20 (by simp only[go_sem,af20,Tryz.f20];rfl:af20=_) rfl
def T21:=tG 21 (by simp only[go_sem,af21,Tryz.f21];rfl:af21=_) rfl
def T22:=tG 22 (by simp only[go_sem,af22,Tryz.f22];rfl:af22=_) rfl
def T23:=tG 23 (by simp only[go_sem,af23,Tryz.f23];rfl:af23=_) rfl
def T24:=tG 24 (by simp only[go_sem,af24,Tryz.f24];rfl:af24=_) rfl
def T25:=tG 25 (by simp only[go_sem,af25,Tryz.f25];rfl:af25=_) rfl
def T26:=tG 26 (by simp only[go_sem,af26,Tryz.f26];rfl:af26=_) rfl
def T27:=tG 27 (by simp only[go_sem,af27,Tryz.f27];rfl:af27=_) rfl
def T28:=tG 28 (by simp only[go_sem,af28,Tryz.f28];rfl:af28=_) rfl
def T29:=tG 29 (by simp only[go_sem,af29,Tryz.f29];rfl:af29=_) rfl
def T30:=tG 30 (by simp only[go_sem,af30,Tryz.f30];rfl:af30=_) rfl
def T31:=tG 31 (by simp only[go_sem,af31,Tryz.f31];rfl:af31=_) rfl
def T32:=tG 32 (by simp only[go_sem,af32,Tryz.f32];rfl:af32=_) rfl
def T33:=tG 33 (by simp only[go_sem,af33,Tryz.f33];rfl:af33=_) rfl
def T34:=tG 34 (by simp only[go_sem,af34,Tryz.f34];rfl:af34=_) rfl
def T35:=tG 35 (by simp only[go_sem,af35,Tryz.f35];rfl:af35=_) rfl
def T36:=tG 36 (by simp only[go_sem,af36,Tryz.f36];rfl:af36=_) rfl
def T37:=tG 37 (by simp only[go_sem,af37,Tryz.f37];rfl:af37=_) rfl
def T38:=tG 38 (by simp only[go_sem,af38,Tryz.f38];rfl:af38=_) rfl
def T39:=tG 39 (by simp only[go_sem,af39,Tryz.f39];rfl:af39=_) rfl
def T40:=tG 40 (by simp only[go_sem,af40,Tryz.f40];rfl:af40=_) rfl
def T41:=tG 41 (by simp only[go_sem,af41,Tryz.f41];rfl:af41=_) rfl
def T42:=tG 42 (by simp only[go_sem,af42,Tryz.f42];rfl:af42=_) rfl
def T43:=tG 43 (by simp only[go_sem,af43,Tryz.f43];rfl:af43=_) rfl
def T44:=tG 44 (by simp only[go_sem,af44,Tryz.f44];rfl:af44=_) rfl
def T45:=tG 45 (by simp only[go_sem,af45,Tryz.f45];rfl:af45=_) rfl
def T46:=tG 46 (by simp only[go_sem,af46,Tryz.f46];rfl:af46=_) rfl
def T47:=tG 47 (by simp only[go_sem,af47,Tryz.f47];rfl:af47=_) rfl
def T48:=tG 48 (by simp only[go_sem,af48,Tryz.f48];rfl:af48=_) rfl
def T49:=tG 49 (by simp only[go_sem,af49,Tryz.f49];rfl:af49=_) rfl
def T50:=tG 50 (by simp only[go_sem,af50,Tryz.f50];rfl:af50=_) rfl
def T51:=tG 51 (by simp only[go_sem,af51,Tryz.f51];rfl:af51=_) rfl
theorem T52:TT 52=some af52:=by rfl
def T53:=tG 53 (by simp only[go_sem,af53,Tryz.f53];rfl:af53=_) rfl
def T54:=tG 54 (by simp only[go_sem,af54,Tryz.f54];rfl:af54=_) rfl
def T55:=tG 55 (by simp only[go_sem,af55,Tryz.f55];rfl:af55=_) rfl
def T56:=tG 56 (by simp only[go_sem,af56,Tryz.f56];rfl:af56=_) rfl
def T57:=tG 57 (by simp only[go_sem,af57,Tryz.f57];rfl:af57=_) rfl
def T58:=tG 58 (by simp only[go_sem,af58,Tryz.f58];rfl:af58=_) rfl
def T59:=tG 59 (by simp only[go_sem,af59,Tryz.f59];rfl:af59=_) rfl
def T60:=tG 60 (by simp only[go_sem,af60,Tryz.f60];rfl:af60=_) rfl
def T61:=tG 61 (by simp only[go_sem,af61,Tryz.f61];rfl:af61=_) rfl
def T62:=tG 62 (by simp only[go_sem,af62,Tryz.f62];rfl:af62=_) rfl
def T64:=tG 64 (by simp only[go_sem,af64,Tryz.f64];rfl:af64=_) rfl
def T65:=tG 65 (by simp only[go_sem,af65,Tryz.f65];rfl:af65=_) rfl
def T66:=tG 66 (by simp only[go_sem,af66,Tryz.f66];rfl:af66=_) rfl
def T67:=tG 67 (by simp only[go_sem,af67,Tryz.f67];rfl:af67=_) rfl
def T68:=tG 68 (by simp only[go_sem,af68,Tryz.f68];rfl:af68=_) rfl
def T69:=tG 69 (by simp only[go_sem,af69,Tryz.f69];rfl:af69=_) rfl
def T70:=tG 70 (by simp only[go_sem,af70,Tryz.f70];rfl:af70=_) rfl
def T73:=tG 73 (by simp only[go_sem,af73,Tryz.f73];rfl:af73=_) rfl
def T74:=tG 74 (by simp only[go_sem,af74,Tryz.f74];rfl:af74=_) rfl
def T75:=tG 75 (by simp only[go_sem,af75,Tryz.f75];rfl:af75=_) rfl
def T76:=tG 76 (by simp only[go_sem,af76,Tryz.f76];rfl:af76=_) rfl
def T77:=tG 77 (by simp only[go_sem,af77,Tryz.f77];rfl:af77=_) rfl
def T78:=tG 78 (by simp only[go_sem,af78,Tryz.f78];rfl:af78=_) rfl
def T79:=tG 79 (by simp only[go_sem,af79,Tryz.f79];rfl:af79=_) rfl
def T80:=tG 80 (by simp only[go_sem,af80,Tryz.f80];rfl:af80=_) rfl
def T81:=tG 81 (by simp only[go_sem,af81,Tryz.f81];rfl:af81=_) rfl
def T82:=tG 82 (by simp only[go_sem,af82,Tryz.f82];rfl:af82=_) rfl
def T83:=tG 83 (by simp only[go_sem,af83,Tryz.f83];rfl:af83=_) rfl
def T84:=tG 84 (by simp only[go_sem,af84,Tryz.f84];rfl:af84=_) rfl
def T85:=tG 85 (by simp only[go_sem,af85,Tryz.f85];rfl:af85=_) rfl
def T88:=tG 88 (by simp only[go_sem,af88,Tryz.f88];rfl:af88=_) rfl
def T89:=tG 89 (by simp only[go_sem,af89,Tryz.f89];rfl:af89=_) rfl
def T90:=tG 90 (by simp only[go_sem,af90,Tryz.f90];rfl:af90=_) rfl
def T91:=tG 91 (by simp only[go_sem,af91,Tryz.f91];rfl:af91=_) rfl
def T92:=tG 92 (by simp only[go_sem,af92,Tryz.f92];rfl:af92=_) rfl
def T93:=tG 93 (by simp only[go_sem,af93,Tryz.f93];rfl:af93=_) rfl
def T94:=tG 94 (by simp only[go_sem,af94,Tryz.f94];rfl:af94=_) rfl
def T95:=tG 95 (by simp only[go_sem,af95,Tryz.f95];rfl:af95=_) rfl
def T96:=tG 96 (by simp only[go_sem,af96,Tryz.f96];rfl:af96=_) rfl
def T97:=tG 97 (by simp only[go_sem,af97,Tryz.f97];rfl:af97=_) rfl
def T98:=tG 98 (by simp only[go_sem,af98,Tryz.f98];rfl:af98=_) rfl
def T102:=tG 102 (by simp only[go_sem,af102,Tryz.f102];rfl:af102=_) rfl
def T103:=tG 103 (by simp only[go_sem,af103,Tryz.f103];rfl:af103=_) rfl
def T104:=tG 104 (by simp only[go_sem,af104,Tryz.f104];rfl:af104=_) rfl
def T105:=tG 105 (by simp only[go_sem,af105,Tryz.f105];rfl:af105=_) rfl
def T106:=tG 106 (by simp only[go_sem,af106,Tryz.f106];rfl:af106=_) rfl
def T107:=tG 107 (by simp only[go_sem,af107,Tryz.f107];rfl:af107=_) rfl
def T108:=tG 108 (by simp only[go_sem,af108,Tryz.f108];rfl:af108=_) rfl
def T109:=tG 109 (by simp only[go_sem,af109,Tryz.f109];rfl:af109=_) rfl
def T110:=tG 110 (by simp only[go_sem,af110,Tryz.f110];rfl:af110=_) rfl
def T111:=tG 111 (by simp only[go_sem,af111,Tryz.f111];rfl:af111=_) rfl
def T114:=tG 114 (by simp only[go_sem,af114,Tryz.f114];rfl:af114=_) rfl
def T115:=tG 115 (by simp only[go_sem,af115,Tryz.f115];rfl:af115=_) rfl
def T116:=tG 116 (by simp only[go_sem,af116,Tryz.f116];rfl:af116=_) rfl
def T117:=tG 117 (by simp only[go_sem,af117,Tryz.f117];rfl:af117=_) rfl
def T118:=tG 118 (by simp only[go_sem,af118,Tryz.f118];rfl:af118=_) rfl
def T119:=tG 119 (by simp only[go_sem,af119,Tryz.f119];rfl:af119=_) rfl
def T120:=tG 120 (by simp only[go_sem,af120,Tryz.f120];rfl:af120=_) rfl
def T121:=tG 121 (by simp only[go_sem,af121,Tryz.f121];rfl:af121=_) rfl
def T122:=tG 122 (by simp only[go_sem,af122,Tryz.f122];rfl:af122=_) rfl
def T123:=tG 123 (by simp only[go_sem,af123,Tryz.f123];rfl:af123=_) rfl
def T124:=tG 124 (by simp only[go_sem,af124,Tryz.f124];rfl:af124=_) rfl
def T125:=tG 125 (by simp only[go_sem,af125,Tryz.f125];rfl:af125=_) rfl
def T126:=tG 126 (by simp only[go_sem,af126,Tryz.f126];rfl:af126=_) rfl
def T128:=tG 128 (by simp only[go_sem,af128,Tryz.f128];rfl:af128=_) rfl
theorem T141:TT 141=some af141:=by rfl
def T142:=tG 142 (by simp only[go_sem,af142,Tryz.f142];rfl:af142=_) rfl
def T143:=tG 143 (by simp only[go_sem,af143,Tryz.f143];rfl:af143=_) rfl
def T144:=tG 144 (by simp only[go_sem,af144,Tryz.f144];rfl:af144=_) rfl
def T145:=tG 145 (by simp only[go_sem,af145,Tryz.f145];rfl:af145=_) rfl
def T146:=tG 146 (by simp only[go_sem,af146,Tryz.f146];rfl:af146=_) rfl
def T151:=tG 151 (by simp only[go_sem,af151,Tryz.f151];rfl:af151=_) rfl
def T152:=tG 152 (by simp only[go_sem,af152,Tryz.f152];rfl:af152=_) rfl
def T157:=tG 157 (by simp only[go_sem,af157,Tryz.f157];rfl:af157=_) rfl
def T158:=tG 158 (by simp only[go_sem,af158,Tryz.f158];rfl:af158=_) rfl
def T159:=tG 159 (by simp only[go_sem,af159,Tryz.f159];rfl:af159=_) rfl
def T160:=tG 160 (by simp only[go_sem,af160,Tryz.f160];rfl:af160=_) rfl
def T161:=tG 161 (by simp only[go_sem,af161,Tryz.f161];rfl:af161=_) rfl
def T162:=tG 162 (by simp only[go_sem,af162,Tryz.f162];rfl:af162=_) rfl
def T163:=tG 163 (by simp only[go_sem,af163,Tryz.f163];rfl:af163=_) rfl
def T165:=tG 165 (by simp only[go_sem,af165,Tryz.f165];rfl:af165=_) rfl
theorem T166:TT 166=some af166:=by rfl
def T172:=tG 172 (by simp only[go_sem,af172,Tryz.f172];rfl:af172=_) rfl
def T173:=tG 173 (by simp only[go_sem,af173,Tryz.f173];rfl:af173=_) rfl
def T174:=tG 174 (by simp only[go_sem,af174,Tryz.f174];rfl:af174=_) rfl
def T182:=tG 182 (by simp only[go_sem,af182,Tryz.f182];rfl:af182=_) rfl
def T183:=tG 183 (by simp only[go_sem,af183,Tryz.f183];rfl:af183=_) rfl
def T188:=tG 188 (by simp only[go_sem,af188,Tryz.f188];rfl:af188=_) rfl
def T189:=tG 189 (by simp only[go_sem,af189,Tryz.f189];rfl:af189=_) rfl
def T190:=tG 190 (by simp only[go_sem,af190,Tryz.f190];rfl:af190=_) rfl
def T191:=tG 191 (by simp only[go_sem,af191,Tryz.f191];rfl:af191=_) rfl
def T192:=tG 192 (by simp only[go_sem,af192,Tryz.f192];rfl:af192=_) rfl
def T193:=tG 193 (by simp only[go_sem,af193,Tryz.f193];rfl:af193=_) rfl
def T194:=tG 194 (by simp only[go_sem,af194,Tryz.f194];rfl:af194=_) rfl
def T197:=tG 197 (by simp only[go_sem,af197,Tryz.f197];rfl:af197=_) rfl
def T198:=tG 198 (by simp only[go_sem,af198,Tryz.f198];rfl:af198=_) rfl
def T205:=tG 205 (by simp only[go_sem,af205,Tryz.f205];rfl:af205=_) rfl
def T206:=tG 206 (by simp only[go_sem,af206,Tryz.f206];rfl:af206=_) rfl
def T207:=tG 207 (by simp only[go_sem,af207,Tryz.f207];rfl:af207=_) rfl
def T208:=tG 208 (by simp only[go_sem,af208,Tryz.f208];rfl:af208=_) rfl
def T209:=tG 209 (by simp only[go_sem,af209,Tryz.f209];rfl:af209=_) rfl
def T210:=tG 210 (by simp only[go_sem,af210,Tryz.f210];rfl:af210=_) rfl
def T211:=tG 211 (by simp only[go_sem,af211,Tryz.f211];rfl:af211=_) rfl
def T212:=tG 212 (by simp only[go_sem,af212,Tryz.f212];rfl:af212=_) rfl
def T215:=tG 215 (by simp only[go_sem,af215,Tryz.f215];rfl:af215=_) rfl
theorem T222:TT 222=some af222:=by rfl
def T223:=tG 223 (by simp only[go_sem,af223,Tryz.f223];rfl:af223=_) rfl
def T231:=tG 231 (by simp only[go_sem,af231,Tryz.f231];rfl:af231=_) rfl
def T237:=tG 237 (by simp only[go_sem,af237,Tryz.f237];rfl:af237=_) rfl
def T243:=tG 243 (by simp only[go_sem,af243,Tryz.f243];rfl:af243=_) rfl
def T244:=tG 244 (by simp only[go_sem,af244,Tryz.f244];rfl:af244=_) rfl
def T246:=tG 246 (by simp only[go_sem,af246,Tryz.f246];rfl:af246=_) rfl
def T247:=tG 247 (by simp only[go_sem,af247,Tryz.f247];rfl:af247=_) rfl
def T248:=tG 248 (by simp only[go_sem,af248,Tryz.f248];rfl:af248=_) rfl
def T249:=tG 249 (by simp only[go_sem,af249,Tryz.f249];rfl:af249=_) rfl
def T250:=tG 250 (by simp only[go_sem,af250,Tryz.f250];rfl:af250=_) rfl
theorem P63:PT 63=some hpS:=by rfl
theorem P71:PT 71=some Xq:=by rfl
theorem P72:PT 72=some P9:=by rfl
theorem P99:PT 99=some Ags:=by rfl
theorem P101:PT 101=some Ts:=by rfl
theorem P127:PT 127=some Abi:=by rfl
theorem P129:PT 129=some Af3:=by rfl
theorem P149:PT 149=some kwS:=by rfl
theorem P150:PT 150=some Ya:=by rfl
theorem P181:PT 181=some Yb:=by rfl
theorem P196:PT 196=some X4:=by rfl
noncomputable def okP (m:Int) (p:Nat × AF):Bool:=p.2.spec.isSome||Rn Tryz.prog (GT m) p.1 p.2
theorem Boo:(tabL.drop 0 |>.take 8).all (okP m)=true:=by kernel_rfl
theorem Bop:(tabL.drop 8 |>.take 8).all (okP m)=true:=by kernel_rfl
theorem Boq:(tabL.drop 16 |>.take 8).all (okP m)=true:=by kernel_rfl
theorem Bor:(tabL.drop 24 |>.take 8).all (okP m)=true:=by kernel_rfl
theorem Bos:(tabL.drop 32 |>.take 8).all (okP m)=true:=by kernel_rfl
theorem Bot:(tabL.drop 40 |>.take 8).all (okP m)=true:=by kernel_rfl
theorem Bou:(tabL.drop 48 |>.take 8).all (okP m)=true:=by kernel_rfl
theorem Bov:(tabL.drop 56 |>.take 8).all (okP m)=true:=by kernel_rfl
theorem Bow:(tabL.drop 64 |>.take 8).all (okP m)=true:=by kernel_rfl
theorem Box:(tabL.drop 72 |>.take 8).all (okP m)=true:=by kernel_rfl
theorem Bmt:(tabL.drop 80 |>.take 8).all (okP m)=true:=by kernel_rfl
theorem Bmu:(tabL.drop 88 |>.take 8).all (okP m)=true:=by kernel_rfl
theorem Bmv:(tabL.drop 96 |>.take 8).all (okP m)=true:=by kernel_rfl
theorem Bmw:(tabL.drop 104 |>.take 8).all (okP m)=true:=by kernel_rfl
theorem Bmx:(tabL.drop 112 |>.take 8).all (okP m)=true:=by kernel_rfl
theorem Bmy:(tabL.drop 120 |>.take 8).all (okP m)=true:=by kernel_rfl
theorem Bmz:(tabL.drop 128 |>.take 8).all (okP m)=true:=by kernel_rfl
theorem Bm0:(tabL.drop 136 |>.take 8).all (okP m)=true:=by kernel_rfl
theorem Bm1:(tabL.drop 144 |>.take 8).all (okP m)=true:=by kernel_rfl
theorem Bm2:(tabL.drop 152 |>.take 8).all (okP m)=true:=by kernel_rfl
theorem Bm3:(tabL.drop 160 |>.take 8).all (okP m)=true:=by kernel_rfl
theorem Yv{α:Type}:∀ {l:List (Nat × α)} {f:Nat} {a:α},l.lookup f=some a->(f,a)∈l
 | [],_,_,h=>by cases h
 | (g,b)::l,f,a,h=>by
  rw[Ahj]at h
  split at h
  ·rename_i he
   cases h
   rw[eq_of_beq he]
   exact Cr
  ·exact Db _ (Yv h)
theorem An7{α:Type}{p:α->Bool}(k:Nat):∀ (n:Nat) (l:List α),l.length<=n*k->(∀ i,i<n->((l.drop (i*k)).take k).all p=true)->∀ x∈l,p x=true
 | 0,l,hl,_,x,hx=>by
  have:l=[]:=M6.1 AA
  subst this
  cases hx
 | n+1,l,hl,h,x,hx=>by
  rw[<-Ja k l]at hx
  rcases Ch.1 hx with hx | hx
  ·have h0:=h 0 AA
   rw[Ahu,Jd]at h0
   exact B6.1 h0 x hx
  ·refine An7 k n (l.drop k) (by rw[E3];rw[F1]at hl;omega) (fun i hi=>?_) x hx
   have:=h (i+1) AA
   rwa [V6,Acm,<-F1]
theorem Bgx:∀ x∈tabL,okP m x=true:=by
 refine An7 8 21 tabL (of_decide_eq_true AD) fun i hi=>?_
 match i,hi with
 | 0,_=>exact Boo
 | 1,_=>exact Bop
 | 2,_=>exact Boq
 | 3,_=>exact Bor
 | 4,_=>exact Bos
 | 5,_=>exact Bot
 | 6,_=>exact Bou
 | 7,_=>exact Bov
 | 8,_=>exact Bow
 | 9,_=>exact Box
 | 10,_=>exact Bmt
 | 11,_=>exact Bmu
 | 12,_=>exact Bmv
 | 13,_=>exact Bmw
 | 14,_=>exact Bmx
 | 15,_=>exact Bmy
 | 16,_=>exact Bmz
 | 17,_=>exact Bm0
 | 18,_=>exact Bm1
 | 19,_=>exact Bm2
 | 20,_=>exact Bm3
 | i+21,h=>exact absurd h AA
theorem hTT:∀ f F,TT f=some F->F.spec=none->Rn Tryz.prog (GT m) f F=true:=by
 intro f F h hs
 have hm:=Bgx (m:=m) _ (Yv h)
 unfold okP at hm
 simp only[hs,Option.isSome_none,Aci]at hm
 exact hm
theorem Bgy:tabL.filter (fun p=>p.2.spec.isSome)=[(52,af52),(141,af141),(166,af166),(222,af222)]:=by rfl
theorem hST:∀ f F s,TT f=some F->F.spec=some s->S6 Tryz.prog (GT m) f s:=by
 intro f F s h hs
 have hm:(f,F)∈tabL.filter (fun p=>p.2.spec.isSome):=Rz.2 ⟨Yv h,by simp[hs]⟩
 rw[Bgy]at hm
 simp only[Bo,Of,or_false,Prod.mk.injEq]at hm
 rcases hm with⟨rfl,rfl⟩ | ⟨rfl,rfl⟩ | ⟨rfl,rfl⟩ | ⟨rfl,rfl⟩
 ·cases hs;exact Bgb
 ·cases hs;exact Bbb
 ·cases hs;exact Bga
 ·cases hs;exact Bki
theorem hPT:∀ f s,PT f=some s->Iy Tryz.prog (GT m) f s:=by
 intro f s h
 have hm:=Yv h
 simp only[prL,Bo,Of,or_false,Prod.mk.injEq]at hm
 rcases hm with⟨rfl,rfl⟩ | ⟨rfl,rfl⟩ | ⟨rfl,rfl⟩ | ⟨rfl,rfl⟩ | ⟨rfl,rfl⟩ | ⟨rfl,rfl⟩ | ⟨rfl,rfl⟩ | ⟨rfl,rfl⟩ | ⟨rfl,rfl⟩ | ⟨rfl,rfl⟩ | ⟨rfl,rfl⟩
 ·exact Bkj
 ·exact Bbc Azu
 ·exact Bgd Azu
 ·exact Bgf
 ·exact Bkk
 ·exact Bgg (Bon m)
 ·exact Bbg hKw
 ·exact Ayi hKw
 ·exact Bkl
 ·exact Bkn hEs hEr
 ·exact Bge
theorem Ro:∀ f F,TT f=some F->F.spec=none->Lx F.body=true:=by
 intro f F h _
 have hm:=Yv h
 have hall:(tabL.all fun p=>Lx p.2.body)=true:=by kernel_rfl
 exact B6.1 hall _ hm
