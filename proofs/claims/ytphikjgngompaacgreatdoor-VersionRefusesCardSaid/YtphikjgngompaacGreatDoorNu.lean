/- The table of functions, and that each form is the program's function. Printed by km_table.py. -/
import Derived.Test.YtphikjgngompaacGreatDoorNt
set_option linter.all false
set_option maxRecDepth 100000
set_option maxHeartbeats 4000000
namespace Go.Proofs.YtphikjgngompaacGreatDoor.KM
open Go
abbrev iV(n:Int):V:=.int .i64 n
def GT(m:Int):List (Nat × List V):=[(0,[.int .i64 m]),(1,gKw),(2,gPow),(7,[.ifc]),(8,[.ifc]),(9,Azj)]
variable {m:Int}
theorem Azk:(2,gPow)∈GT m:=by simp[GT]
theorem hEs:(7,[V.ifc])∈GT m:=by simp[GT]
theorem hEr:(8,[V.ifc])∈GT m:=by simp[GT]
theorem hKw:(1,gKw)∈GT m:=by simp[GT]
theorem Bn4(m:Int):(0,[V.int .i64 m])∈GT m:=by simp[GT]
noncomputable def tabL:List (Nat × AF):=[(3,af3),(4,af4),(5,af5),(6,af6),(7,af7),(8,af8),(9,af9),(10,af10),(11,af11),(12,af12),(13,af13),(14,af14),(15,af15),(16,af16),(17,af17),(18,af18),(19,af19),(20,af20),(21,af21),(22,af22),(23,af23),(24,af24),(25,af25),(26,af26),(27,af27),(28,af28),(29,af29),(30,af30),(31,af31),(32,af32),(33,af33),(34,af34),(35,af35),(36,af36),(37,af37),(38,af38),(39,af39),(40,af40),(41,af41),(42,af42),(43,af43),(44,af44),(45,af45),(46,af46),(47,af47),(48,af48),(49,af49),(50,af50),(51,af51),(52,af52),(53,af53),(54,af54),(55,af55),(56,af56),(57,af57),(58,af58),(60,af60),(61,af61),(62,af62),(63,af63),(64,af64),(65,af65),(66,af66),(69,af69),(70,af70),(71,af71),(72,af72),(73,af73),(74,af74),(75,af75),(76,af76),(77,af77),(78,af78),(79,af79),(80,af80),(83,af83),(84,af84),(85,af85),(86,af86),(87,af87),(88,af88),(89,af89),(90,af90),(91,af91),(92,af92),(93,af93),(94,af94),(98,af98),(99,af99),(100,af100),(101,af101),(102,af102),(103,af103),(104,af104),(105,af105),(106,af106),(107,af107),(110,af110),(111,af111),(112,af112),(113,af113),(114,af114),(115,af115),(116,af116),(117,af117),(118,af118),(119,af119),(120,af120),(121,af121),(122,af122),(124,af124),(137,af137),(138,af138),(139,af139),(140,af140),(141,af141),(142,af142),(147,af147),(148,af148),(153,af153),(154,af154),(155,af155),(156,af156),(157,af157),(158,af158),(159,af159),(161,af161),(162,af162),(168,af168),(169,af169),(170,af170),(178,af178),(179,af179),(184,af184),(185,af185),(186,af186),(187,af187),(188,af188),(189,af189),(190,af190),(193,af193),(194,af194),(201,af201),(202,af202),(203,af203),(204,af204),(205,af205),(206,af206),(207,af207),(208,af208),(211,af211),(218,af218),(219,af219),(227,af227),(233,af233),(239,af239),(240,af240),(242,af242),(243,af243),(244,af244),(245,af245),(246,af246)]
def prL:List (Nat × (List V->Option V)):=[(59,hpS),(67,W2),(68,Pz),(95,Agb),(97,Ta),(123,Aa2),(125,Afk),(145,kwS),(146,Xr),(177,Xs),(192,Xj)]
noncomputable def TT (f:Nat):Option AF:=tabL.lookup f
def PT(f:Nat):Option (List V->Option V):=prL.lookup f
theorem tG(k:Nat){F H:AF}(h:F=H)(h2:TT k=some F):TT k=some H:=h ▸ h2
def T3:=tG 3 (by simp only[go_sem,af3,Tryz.f3];rfl:af3=_) rfl
def T4:=tG 4 (by simp only[go_sem,af4,Tryz.f4];rfl:af4=_) rfl
def T5:=tG 5 (by simp only[go_sem,af5,Tryz.f5];rfl:af5=_) rfl
def T6:=tG 6 (by simp only[go_sem,af6,Tryz.f6];rfl:af6=_) rfl
def T7:=tG 7 (by simp only[go_sem,af7,Tryz.f7];rfl:af7=_) rfl
def T8:=tG 8 (by simp only[go_sem,af8,Tryz.f8];rfl:af8=_) rfl
def T9:=tG 9 (by simp only[go_sem,af9,Tryz.f9];rfl:af9=_) rfl
def T10:=tG 10 (by simp only[go_sem,af10,Tryz.f10];rfl:af10=_) rfl
def T11:=tG 11 (by simp only[go_sem,af11,Tryz.f11];rfl:af11=_) rfl
def T12:=tG 12 (by simp only[go_sem,af12,Tryz.f12];rfl:af12=_) rfl
def T13:=tG 13 (by simp only[go_sem,af13,Tryz.f13];rfl:af13=_) rfl
def T14:=tG 14 (by simp only[go_sem,af14,Tryz.f14];rfl:af14=_) rfl
def T15:=tG 15 (by simp only[go_sem,af15,Tryz.f15];rfl:af15=_) rfl
def T16:=tG 16 (by simp only[go_sem,af16,Tryz.f16];rfl:af16=_) rfl
def T17:=tG 17 (by simp only[go_sem,af17,Tryz.f17];rfl:af17=_) rfl
def T18:=tG 18 (by simp only[go_sem,af18,Tryz.f18];rfl:af18=_) rfl
def T19:=tG 19 (by simp only[go_sem,af19,Tryz.f19];rfl:af19=_) rfl
def T20:=tG 20 (by simp only[go_sem,af20,Tryz.f20];rfl:af20=_) rfl
def T21:=tG 21 (by simp only[go_sem,af21,Tryz.f21];rfl:af21=_) rfl
def T22:=tG 22 (by simp only[go_sem,af22,Tryz.f22];rfl:af22=_) rfl
def T23:=tG 23 (by simp only[go_sem,af23,Tryz.f23];rfl:af23=_) rfl
def T24:=tG 24 (by simp only[go_sem,af24,Tryz.f24];rfl:af24=_) rfl
def T25:=tG 25 (by simp only[go_sem,af25,Tryz.f25];rfl:af25=_) rfl
def T26:=tG 26 (by simp only[go_sem,af26,Tryz.f26];rfl:af26=_) rfl
def T27:=tG 27 (by simp only[go_sem,af27,Tryz.f27];rfl:af27=_) rfl
def T28:=tG 28 (by simp only[go_sem,af28,Tryz.f28];rfl:af28=_) rfl
def T29:=tG 29 (by simp only[go_sem,af29,Tryz.f29];rfl:af29=_) rfl
def T30:=tG 30 (by simp only[go_sem,af30,Tryz.f30];rfl:af30=_) rfl
def T31:=tG 31 (by simp only[go_sem,af31,Tryz.f31];rfl:af31=_) rfl
def T32:=tG 32 (by simp only[go_sem,af32,Tryz.f32];rfl:af32=_) rfl
def T33:=tG 33 (by simp only[go_sem,af33,Tryz.f33];rfl:af33=_) rfl
def T34:=tG 34 (by simp only[go_sem,af34,Tryz.f34];rfl:af34=_) rfl
def T35:=tG 35 (by simp only[go_sem,af35,Tryz.f35];rfl:af35=_) rfl
def T36:=tG 36 (by simp only[go_sem,af36,Tryz.f36];rfl:af36=_) rfl
def T37:=tG 37 (by simp only[go_sem,af37,Tryz.f37];rfl:af37=_) rfl
def T38:=tG 38 (by simp only[go_sem,af38,Tryz.f38];rfl:af38=_) rfl
def T39:=tG 39 (by simp only[go_sem,af39,Tryz.f39];rfl:af39=_) rfl
def T40:=tG 40 (by simp only[go_sem,af40,Tryz.f40];rfl:af40=_) rfl
def T41:=tG 41 (by simp only[go_sem,af41,Tryz.f41];rfl:af41=_) rfl
def T42:=tG 42 (by simp only[go_sem,af42,Tryz.f42];rfl:af42=_) rfl
def T43:=tG 43 (by simp only[go_sem,af43,Tryz.f43];rfl:af43=_) rfl
def T44:=tG 44 (by simp only[go_sem,af44,Tryz.f44];rfl:af44=_) rfl
def T45:=tG 45 (by simp only[go_sem,af45,Tryz.f45];rfl:af45=_) rfl
def T46:=tG 46 (by simp only[go_sem,af46,Tryz.f46];rfl:af46=_) rfl
theorem T47:TT 47=some af47:=by rfl
def T48:=tG 48 (by simp only[go_sem,af48,Tryz.f48];rfl:af48=_) rfl
def T49:=tG 49 (by simp only[go_sem,af49,Tryz.f49];rfl:af49=_) rfl
def T50:=tG 50 (by simp only[go_sem,af50,Tryz.f50];rfl:af50=_) rfl
def T51:=tG 51 (by simp only[go_sem,af51,Tryz.f51];rfl:af51=_) rfl
def T52:=tG 52 (by simp only[go_sem,af52,Tryz.f52];rfl:af52=_) rfl
def T53:=tG 53 (by simp only[go_sem,af53,Tryz.f53];rfl:af53=_) rfl
def T54:=tG 54 (by simp only[go_sem,af54,Tryz.f54];rfl:af54=_) rfl
def T55:=tG 55 (by simp only[go_sem,af55,Tryz.f55];rfl:af55=_) rfl
def T56:=tG 56 (by simp only[go_sem,af56,Tryz.f56];rfl:af56=_) rfl
def T57:=tG 57 (by simp only[go_sem,af57,Tryz.f57];rfl:af57=_) rfl
def T58:=tG 58 (by simp only[go_sem,af58,Tryz.f58];rfl:af58=_) rfl
def T60:=tG 60 (by simp only[go_sem,af60,Tryz.f60];rfl:af60=_) rfl
def T61:=tG 61 (by simp only[go_sem,af61,Tryz.f61];rfl:af61=_) rfl
def T62:=tG 62 (by simp only[go_sem,af62,Tryz.f62];rfl:af62=_) rfl
def T63:=tG 63 (by simp only[go_sem,af63,Tryz.f63];rfl:af63=_) rfl
def T64:=tG 64 (by simp only[go_sem,af64,Tryz.f64];rfl:af64=_) rfl
def T65:=tG 65 (by simp only[go_sem,af65,Tryz.f65];rfl:af65=_) rfl
def T66:=tG 66 (by simp only[go_sem,af66,Tryz.f66];rfl:af66=_) rfl
def T69:=tG 69 (by simp only[go_sem,af69,Tryz.f69];rfl:af69=_) rfl
def T70:=tG 70 (by simp only[go_sem,af70,Tryz.f70];rfl:af70=_) rfl
def T71:=tG 71 (by simp only[go_sem,af71,Tryz.f71];rfl:af71=_) rfl
def T72:=tG 72 (by simp only[go_sem,af72,Tryz.f72];rfl:af72=_) rfl
def T73:=tG 73 (by simp only[go_sem,af73,Tryz.f73];rfl:af73=_) rfl
def T74:=tG 74 (by simp only[go_sem,af74,Tryz.f74];rfl:af74=_) rfl
def T75:=tG 75 (by simp only[go_sem,af75,Tryz.f75];rfl:af75=_) rfl
def T76:=tG 76 (by simp only[go_sem,af76,Tryz.f76];rfl:af76=_) rfl
def T77:=tG 77 (by simp only[go_sem,af77,Tryz.f77];rfl:af77=_) rfl
def T78:=tG 78 (by simp only[go_sem,af78,Tryz.f78];rfl:af78=_) rfl
def T79:=tG 79 (by simp only[go_sem,af79,Tryz.f79];rfl:af79=_) rfl
def T80:=tG 80 (by simp only[go_sem,af80,Tryz.f80];rfl:af80=_) rfl
def T83:=tG 83 (by simp only[go_sem,af83,Tryz.f83];rfl:af83=_) rfl
def T84:=tG 84 (by simp only[go_sem,af84,Tryz.f84];rfl:af84=_) rfl
def T85:=tG 85 (by simp only[go_sem,af85,Tryz.f85];rfl:af85=_) rfl
def T86:=tG 86 (by simp only[go_sem,af86,Tryz.f86];rfl:af86=_) rfl
def T87:=tG 87 (by simp only[go_sem,af87,Tryz.f87];rfl:af87=_) rfl
def T88:=tG 88 (by simp only[go_sem,af88,Tryz.f88];rfl:af88=_) rfl
def T89:=tG 89 (by simp only[go_sem,af89,Tryz.f89];rfl:af89=_) rfl
def T90:=tG 90 (by simp only[go_sem,af90,Tryz.f90];rfl:af90=_) rfl
def T91:=tG 91 (by simp only[go_sem,af91,Tryz.f91];rfl:af91=_) rfl
def T92:=tG 92 (by simp only[go_sem,af92,Tryz.f92];rfl:af92=_) rfl
def T93:=tG 93 (by simp only[go_sem,af93,Tryz.f93];rfl:af93=_) rfl
def T94:=tG 94 (by simp only[go_sem,af94,Tryz.f94];rfl:af94=_) rfl
def T98:=tG 98 (by simp only[go_sem,af98,Tryz.f98];rfl:af98=_) rfl
def T99:=tG 99 (by simp only[go_sem,af99,Tryz.f99];rfl:af99=_) rfl
def T100:=tG 100 (by simp only[go_sem,af100,Tryz.f100];rfl:af100=_) rfl
def T101:=tG 101 (by simp only[go_sem,af101,Tryz.f101];rfl:af101=_) rfl
def T102:=tG 102 (by simp only[go_sem,af102,Tryz.f102];rfl:af102=_) rfl
def T103:=tG 103 (by simp only[go_sem,af103,Tryz.f103];rfl:af103=_) rfl
def T104:=tG 104 (by simp only[go_sem,af104,Tryz.f104];rfl:af104=_) rfl
def T105:=tG 105 (by simp only[go_sem,af105,Tryz.f105];rfl:af105=_) rfl
def T106:=tG 106 (by simp only[go_sem,af106,Tryz.f106];rfl:af106=_) rfl
def T107:=tG 107 (by simp only[go_sem,af107,Tryz.f107];rfl:af107=_) rfl
def T110:=tG 110 (by simp only[go_sem,af110,Tryz.f110];rfl:af110=_) rfl
def T111:=tG 111 (by simp only[go_sem,af111,Tryz.f111];rfl:af111=_) rfl
def T112:=tG 112 (by simp only[go_sem,af112,Tryz.f112];rfl:af112=_) rfl
def T113:=tG 113 (by simp only[go_sem,af113,Tryz.f113];rfl:af113=_) rfl
def T114:=tG 114 (by simp only[go_sem,af114,Tryz.f114];rfl:af114=_) rfl
def T115:=tG 115 (by simp only[go_sem,af115,Tryz.f115];rfl:af115=_) rfl
def T116:=tG 116 (by simp only[go_sem,af116,Tryz.f116];rfl:af116=_) rfl
def T117:=tG 117 (by simp only[go_sem,af117,Tryz.f117];rfl:af117=_) rfl
def T118:=tG 118 (by simp only[go_sem,af118,Tryz.f118];rfl:af118=_) rfl
def T119:=tG 119 (by simp only[go_sem,af119,Tryz.f119];rfl:af119=_) rfl
def T120:=tG 120 (by simp only[go_sem,af120,Tryz.f120];rfl:af120=_) rfl
def T121:=tG 121 (by simp only[go_sem,af121,Tryz.f121];rfl:af121=_) rfl
def T122:=tG 122 (by simp only[go_sem,af122,Tryz.f122];rfl:af122=_) rfl
def T124:=tG 124 (by simp only[go_sem,af124,Tryz.f124];rfl:af124=_) rfl
theorem T137:TT 137=some af137:=by rfl
def T138:=tG 138 (by simp only[go_sem,af138,Tryz.f138];rfl:af138=_) rfl
def T139:=tG 139 (by simp only[go_sem,af139,Tryz.f139];rfl:af139=_) rfl
def T140:=tG 140 (by simp only[go_sem,af140,Tryz.f140];rfl:af140=_) rfl
def T141:=tG 141 (by simp only[go_sem,af141,Tryz.f141];rfl:af141=_) rfl
def T142:=tG 142 (by simp only[go_sem,af142,Tryz.f142];rfl:af142=_) rfl
def T147:=tG 147 (by simp only[go_sem,af147,Tryz.f147];rfl:af147=_) rfl
def T148:=tG 148 (by simp only[go_sem,af148,Tryz.f148];rfl:af148=_) rfl
def T153:=tG 153 (by simp only[go_sem,af153,Tryz.f153];rfl:af153=_) rfl
def T154:=tG 154 (by simp only[go_sem,af154,Tryz.f154];rfl:af154=_) rfl
def T155:=tG 155 (by simp only[go_sem,af155,Tryz.f155];rfl:af155=_) rfl
def T156:=tG 156 (by simp only[go_sem,af156,Tryz.f156];rfl:af156=_) rfl
def T157:=tG 157 (by simp only[go_sem,af157,Tryz.f157];rfl:af157=_) rfl
def T158:=tG 158 (by simp only[go_sem,af158,Tryz.f158];rfl:af158=_) rfl
def T159:=tG 159 (by simp only[go_sem,af159,Tryz.f159];rfl:af159=_) rfl
def T161:=tG 161 (by simp only[go_sem,af161,Tryz.f161];rfl:af161=_) rfl
theorem T162:TT 162=some af162:=by rfl
def T168:=tG 168 (by simp only[go_sem,af168,Tryz.f168];rfl:af168=_) rfl
def T169:=tG 169 (by simp only[go_sem,af169,Tryz.f169];rfl:af169=_) rfl
def T170:=tG 170 (by simp only[go_sem,af170,Tryz.f170];rfl:af170=_) rfl
def T178:=tG 178 (by simp only[go_sem,af178,Tryz.f178];rfl:af178=_) rfl
def T179:=tG 179 (by simp only[go_sem,af179,Tryz.f179];rfl:af179=_) rfl
def T184:=tG 184 (by simp only[go_sem,af184,Tryz.f184];rfl:af184=_) rfl
def T185:=tG 185 (by simp only[go_sem,af185,Tryz.f185];rfl:af185=_) rfl
def T186:=tG 186 (by simp only[go_sem,af186,Tryz.f186];rfl:af186=_) rfl
def T187:=tG 187 (by simp only[go_sem,af187,Tryz.f187];rfl:af187=_) rfl
def T188:=tG 188 (by simp only[go_sem,af188,Tryz.f188];rfl:af188=_) rfl
def T189:=tG 189 (by simp only[go_sem,af189,Tryz.f189];rfl:af189=_) rfl
def T190:=tG 190 (by simp only[go_sem,af190,Tryz.f190];rfl:af190=_) rfl
def T193:=tG 193 (by simp only[go_sem,af193,Tryz.f193];rfl:af193=_) rfl
def T194:=tG 194 (by simp only[go_sem,af194,Tryz.f194];rfl:af194=_) rfl
def T201:=tG 201 (by simp only[go_sem,af201,Tryz.f201];rfl:af201=_) rfl
def T202:=tG 202 (by simp only[go_sem,af202,Tryz.f202];rfl:af202=_) rfl
def T203:=tG 203 (by simp only[go_sem,af203,Tryz.f203];rfl:af203=_) rfl
def T204:=tG 204 (by simp only[go_sem,af204,Tryz.f204];rfl:af204=_) rfl
def T205:=tG 205 (by simp only[go_sem,af205,Tryz.f205];rfl:af205=_) rfl
def T206:=tG 206 (by simp only[go_sem,af206,Tryz.f206];rfl:af206=_) rfl
def T207:=tG 207 (by simp only[go_sem,af207,Tryz.f207];rfl:af207=_) rfl
def T208:=tG 208 (by simp only[go_sem,af208,Tryz.f208];rfl:af208=_) rfl
def T211:=tG 211 (by simp only[go_sem,af211,Tryz.f211];rfl:af211=_) rfl
theorem T218:TT 218=some af218:=by rfl
def T219:=tG 219 (by simp only[go_sem,af219,Tryz.f219];rfl:af219=_) rfl
def T227:=tG 227 (by simp only[go_sem,af227,Tryz.f227];rfl:af227=_) rfl
def T233:=tG 233 (by simp only[go_sem,af233,Tryz.f233];rfl:af233=_) rfl
def T239:=tG 239 (by simp only[go_sem,af239,Tryz.f239];rfl:af239=_) rfl
def T240:=tG 240 (by simp only[go_sem,af240,Tryz.f240];rfl:af240=_) rfl
def T242:=tG 242 (by simp only[go_sem,af242,Tryz.f242];rfl:af242=_) rfl
def T243:=tG 243 (by simp only[go_sem,af243,Tryz.f243];rfl:af243=_) rfl
def T244:=tG 244 (by simp only[go_sem,af244,Tryz.f244];rfl:af244=_) rfl
def T245:=tG 245 (by simp only[go_sem,af245,Tryz.f245];rfl:af245=_) rfl
def T246:=tG 246 (by simp only[go_sem,af246,Tryz.f246];rfl:af246=_) rfl
theorem P59:PT 59=some hpS:=by rfl
theorem P67:PT 67=some W2:=by rfl
theorem P68:PT 68=some Pz:=by rfl
theorem P95:PT 95=some Agb:=by rfl
theorem P97:PT 97=some Ta:=by rfl
theorem P123:PT 123=some Aa2:=by rfl
theorem P125:PT 125=some Afk:=by rfl
theorem P145:PT 145=some kwS:=by rfl
theorem P146:PT 146=some Xr:=by rfl
theorem P177:PT 177=some Xs:=by rfl
theorem P192:PT 192=some Xj:=by rfl
noncomputable def okP (m:Int) (p:Nat × AF):Bool:=p.2.spec.isSome||Q9 Tryz.prog (GT m) p.1 p.2
theorem Bn5:(tabL.drop 0 |>.take 8).all (okP m)=true:=by kernel_rfl
theorem Bn6:(tabL.drop 8 |>.take 8).all (okP m)=true:=by kernel_rfl
theorem Bn7:(tabL.drop 16 |>.take 8).all (okP m)=true:=by kernel_rfl
theorem Bn8:(tabL.drop 24 |>.take 8).all (okP m)=true:=by kernel_rfl
theorem Bn9:(tabL.drop 32 |>.take 8).all (okP m)=true:=by kernel_rfl
theorem Boa:(tabL.drop 40 |>.take 8).all (okP m)=true:=by kernel_rfl
theorem Bob:(tabL.drop 48 |>.take 8).all (okP m)=true:=by kernel_rfl
theorem Boc:(tabL.drop 56 |>.take 8).all (okP m)=true:=by kernel_rfl
theorem Bod:(tabL.drop 64 |>.take 8).all (okP m)=true:=by kernel_rfl
theorem Boe:(tabL.drop 72 |>.take 8).all (okP m)=true:=by kernel_rfl
theorem Bl9:(tabL.drop 80 |>.take 8).all (okP m)=true:=by kernel_rfl
theorem Bma:(tabL.drop 88 |>.take 8).all (okP m)=true:=by kernel_rfl
theorem Bmb:(tabL.drop 96 |>.take 8).all (okP m)=true:=by kernel_rfl
theorem Bmc:(tabL.drop 104 |>.take 8).all (okP m)=true:=by kernel_rfl
theorem Bmd:(tabL.drop 112 |>.take 8).all (okP m)=true:=by kernel_rfl
theorem Bme:(tabL.drop 120 |>.take 8).all (okP m)=true:=by kernel_rfl
theorem Bmf:(tabL.drop 128 |>.take 8).all (okP m)=true:=by kernel_rfl
theorem Bmg:(tabL.drop 136 |>.take 8).all (okP m)=true:=by kernel_rfl
theorem Bmh:(tabL.drop 144 |>.take 8).all (okP m)=true:=by kernel_rfl
theorem Bmi:(tabL.drop 152 |>.take 8).all (okP m)=true:=by kernel_rfl
theorem Bmj:(tabL.drop 160 |>.take 8).all (okP m)=true:=by kernel_rfl
theorem Yb{α:Type}:∀ {l:List (Nat × α)} {f:Nat} {a:α},l.lookup f=some a->(f,a)∈l
 | [],_,_,h=>by cases h
 | (g,b)::l,f,a,h=>by
  rw[Ag2]at h
  split at h
  ·rename_i he
   cases h
   rw[eq_of_beq he]
   exact Cz
  ·exact Dl _ (Yb h)
theorem Anq{α:Type}{p:α->Bool}(k:Nat):∀ (n:Nat) (l:List α),l.length<=n*k->(∀ i,i<n->((l.drop (i*k)).take k).all p=true)->∀ x∈l,p x=true
 | 0,l,hl,_,x,hx=>by
  have:l=[]:=Mb.1 AA
  subst this
  cases hx
 | n+1,l,hl,h,x,hx=>by
  rw[<-Hy k l]at hx
  rcases Cs.1 hx with hx | hx
  ·have h0:=h 0 AA
   rw[Nat.zero_mul,Mc]at h0
   exact Cc.1 h0 x hx
  ·refine Anq k n (l.drop k) (by rw[Gi];rw[G6]at hl;omega) (fun i hi=>?_) x hx
   have:=h (i+1) AA
   rwa [Abw,Ahe,<-G6]
theorem Bgh:∀ x∈tabL,okP m x=true:=by
 refine Anq 8 21 tabL (of_decide_eq_true AD) fun i hi=>?_
 match i,hi with
 | 0,_=>exact Bn5
 | 1,_=>exact Bn6
 | 2,_=>exact Bn7
 | 3,_=>exact Bn8
 | 4,_=>exact Bn9
 | 5,_=>exact Boa
 | 6,_=>exact Bob
 | 7,_=>exact Boc
 | 8,_=>exact Bod
 | 9,_=>exact Boe
 | 10,_=>exact Bl9
 | 11,_=>exact Bma
 | 12,_=>exact Bmb
 | 13,_=>exact Bmc
 | 14,_=>exact Bmd
 | 15,_=>exact Bme
 | 16,_=>exact Bmf
 | 17,_=>exact Bmg
 | 18,_=>exact Bmh
 | 19,_=>exact Bmi
 | 20,_=>exact Bmj
 | i+21,h=>exact absurd h AA
theorem hTT:∀ f F,TT f=some F->F.spec=none->Q9 Tryz.prog (GT m) f F=true:=by
 intro f F h hs
 have hm:=Bgh (m:=m) _ (Yb h)
 unfold okP at hm
 simp only[hs,Option.isSome_none,Ab1]at hm
 exact hm
theorem Bgi:tabL.filter (fun p=>p.2.spec.isSome)=[(47,af47),(137,af137),(162,af162),(218,af218)]:=by rfl
theorem hST:∀ f F s,TT f=some F->F.spec=some s->Sl Tryz.prog (GT m) f s:=by
 intro f F s h hs
 have hm:(f,F)∈tabL.filter (fun p=>p.2.spec.isSome):=Rk.2 ⟨Yb h,by simp[hs]⟩
 rw[Bgi]at hm
 simp only[B7,Qi,or_false,Prod.mk.injEq]at hm
 rcases hm with⟨rfl,rfl⟩ | ⟨rfl,rfl⟩ | ⟨rfl,rfl⟩ | ⟨rfl,rfl⟩
 ·cases hs;exact Bfl
 ·cases hs;exact Bak
 ·cases hs;exact Bfk
 ·cases hs;exact Bjt
theorem hPT:∀ f s,PT f=some s->Iy Tryz.prog (GT m) f s:=by
 intro f s h
 have hm:=Yb h
 simp only[prL,B7,Qi,or_false,Prod.mk.injEq]at hm
 rcases hm with⟨rfl,rfl⟩ | ⟨rfl,rfl⟩ | ⟨rfl,rfl⟩ | ⟨rfl,rfl⟩ | ⟨rfl,rfl⟩ | ⟨rfl,rfl⟩ | ⟨rfl,rfl⟩ | ⟨rfl,rfl⟩ | ⟨rfl,rfl⟩ | ⟨rfl,rfl⟩ | ⟨rfl,rfl⟩
 ·exact Bju
 ·exact Bau Azk
 ·exact Bfw Azk
 ·exact Bfy
 ·exact Bjv
 ·exact Bfz (Bn4 m)
 ·exact Baw hKw
 ·exact Ax7 hKw
 ·exact Bjw
 ·exact Bjy hEs hEr
 ·exact Bfx
theorem Tb:∀ f F,TT f=some F->F.spec=none->Ln F.body=true:=by
 intro f F h _
 have hm:=Yb h
 have hall:(tabL.all fun p=>Ln p.2.body)=true:=by kernel_rfl
 exact Cc.1 hall _ hm
