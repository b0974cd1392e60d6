/- The table of functions, and that each form is the program's function. Printed by km_table.py. -/
import Derived.Test.YtphikjgngompaaaGreatDoorNt
set_option linter.all false
set_option maxRecDepth 100000
set_option maxHeartbeats 4000000
namespace Go.Proofs.YtphikjgngompaaaGreatDoor.KM
open Go
def GT(m:Int):List (Nat × List V):=[(0,[.int .i64 m]),(1,gKw),(2,gPow),(7,[.ifc]),(8,[.ifc]),(9,A1v)]
variable {m:Int}
theorem A1w:(2,gPow)∈GT m:=by simp[GT]
theorem hEs:(7,[V.ifc])∈GT m:=by simp[GT]
theorem hEr:(8,[V.ifc])∈GT m:=by simp[GT]
theorem hKw:(1,gKw)∈GT m:=by simp[GT]
theorem Brr(m:Int):(0,[V.int .i64 m])∈GT m:=by simp[GT]
noncomputable def tabL:List (Nat × AF):=[(3,af3),(4,af4),(5,af5),(6,af6),(7,af7),(8,af8),(9,af9),(10,af10),(11,af11),(12,af12),(13,af13),(14,af14),(15,af15),(16,af16),(17,af17),(18,af18),(19,af19),(20,af20),(21,af21),(22,af22),(23,af23),(24,af24),(25,af25),(26,af26),(27,af27),(28,af28),(29,af29),(30,af30),(31,af31),(32,af32),(33,af33),(34,af34),(35,af35),(36,af36),(37,af37),(38,af38),(39,af39),(40,af40),(41,af41),(42,af42),(43,af43),(44,af44),(45,af45),(46,af46),(47,af47),(48,af48),(49,af49),(50,af50),(53,af53),(54,af54),(55,af55),(56,af56),(59,af59),(60,af60),(61,af61),(62,af62),(63,af63),(64,af64),(65,af65),(68,af68),(69,af69),(70,af70),(71,af71),(72,af72),(73,af73),(74,af74),(75,af75),(76,af76),(77,af77),(78,af78),(90,af90),(91,af91),(92,af92),(93,af93),(94,af94),(95,af95),(96,af96),(97,af97),(98,af98),(99,af99),(103,af103),(104,af104),(105,af105),(106,af106),(107,af107),(108,af108),(109,af109),(110,af110),(111,af111),(112,af112),(115,af115),(116,af116),(117,af117),(118,af118),(119,af119),(120,af120),(121,af121),(122,af122),(123,af123),(124,af124),(125,af125),(126,af126),(127,af127),(128,af128),(130,af130),(136,af136),(138,af138),(139,af139),(144,af144),(145,af145),(150,af150),(151,af151),(152,af152),(153,af153),(154,af154),(155,af155),(156,af156),(157,af157),(158,af158),(159,af159),(161,af161),(162,af162),(164,af164),(171,af171),(172,af172),(177,af177),(178,af178),(179,af179),(180,af180),(181,af181),(182,af182),(183,af183),(184,af184),(185,af185),(188,af188),(189,af189),(195,af195),(196,af196),(197,af197),(198,af198),(199,af199),(200,af200),(201,af201),(202,af202),(205,af205),(212,af212),(213,af213),(221,af221),(227,af227),(233,af233),(234,af234),(236,af236),(237,af237),(238,af238),(239,af239),(240,af240)]
def prL:List (Nat × (List V->Option V)):=[(57,Ahv),(58,hpS),(66,Yn),(67,Qv),(102,Uu),(129,Acl),(137,Ahd),(142,kwS),(143,Y8),(170,Y9),(187,Y1)]
noncomputable def TT (f:Nat):Option AF:=tabL.lookup f
def PT(f:Nat):Option (List V->Option V):=prL.lookup f
theorem tG(k:Nat){F H:AF}(h:F=H)(h2:TT k=some F):TT k=some H:=h ▸ h2
def T3:=tG 3 (by simp only[go_sem,af3,Tryz.f3];rfl:af3=_) rfl
def T4:=tG 4 (by simp only[go_sem,af4,Tryz.f4];rfl:af4=_) rfl
def T5:=tG 5 (by simp only[go_sem,af5,Tryz.f5];rfl:af5=_) rfl
def T6:=tG 6 (by simp only[go_sem,af6,Tryz.f6];rfl:af6=_) rfl
def T7:=tG 7 (by simp only[go_sem,af7,Tryz.f7];rfl:af7=_) rfl
def T8:=tG 8 (by simp only[go_sem,af8,Tryz.f8];rfl:af8=_) rfl
def T9:=tG 9 (by simp only[go_sem,af9,Tryz.f9];rfl:af9=_) rfl
def T10:=tG 10 (by simp only[go_sem,af10,Tryz.f10];rfl:af10=_) rfl
def T11:=tG 11 (by simp only[go_sem,af11,Tryz.f11];rfl:af11=_) rfl
def T12:=tG 12 (by simp only[go_sem,af12,Tryz.f12];rfl:af12=_) rfl
def T13:=tG 13 (by simp only[go_sem,af13,Tryz.f13];rfl:af13=_) rfl
def T14:=tG 14 (by simp only[go_sem,af14,Tryz.f14];rfl:af14=_) rfl
def T15:=tG 15 (by simp only[go_sem,af15,Tryz.f15];rfl:af15=_) rfl
def T16:=tG 16 (by simp only[go_sem,af16,Tryz.f16];rfl:af16=_) rfl
def T17:=tG 17 (by simp only[go_sem,af17,Tryz.f17];rfl:af17=_) rfl
def T18:=tG 18 (by simp only[go_sem,af18,Tryz.f18];rfl:af18=_) rfl
def T19:=tG 19 (by simp only[go_sem,af19,Tryz.f19];rfl:af19=_) rfl
theorem T20:TT 20=some af20:=by rfl
theorem T21:TT 21=some af21:=by rfl
def T22:=tG 22 (by simp only[go_sem,af22,Tryz.f22];rfl:af22=_) rfl
def T23:=tG 23 (by simp only[go_sem,af23,Tryz.f23];rfl:af23=_) rfl
def T24:=tG 24 (by simp only[go_sem,af24,Tryz.f24];rfl:af24=_) rfl
def T25:=tG 25 (by simp only[go_sem,af25,Tryz.f25];rfl:af25=_) rfl
def T26:=tG 26 (by simp only[go_sem,af26,Tryz.f26];rfl:af26=_) rfl
def T27:=tG 27 (by simp only[go_sem,af27,Tryz.f27];rfl:af27=_) rfl
def T28:=tG 28 (by simp only[go_sem,af28,Tryz.f28];rfl:af28=_) rfl
def T29:=tG 29 (by simp only[go_sem,af29,Tryz.f29];rfl:af29=_) rfl
def T30:=tG 30 (by simp only[go_sem,af30,Tryz.f30];rfl:af30=_) rfl
def T31:=tG 31 (by simp only[go_sem,af31,Tryz.f31];rfl:af31=_) rfl
def T32:=tG 32 (by simp only[go_sem,af32,Tryz.f32];rfl:af32=_) rfl
def T33:=tG 33 (by simp only[go_sem,af33,Tryz.f33];rfl:af33=_) rfl
def T34:=tG 34 (by simp only[go_sem,af34,Tryz.f34];rfl:af34=_) rfl
def T35:=tG 35 (by simp only[go_sem,af35,Tryz.f35];rfl:af35=_) rfl
def T36:=tG 36 (by simp only[go_sem,af36,Tryz.f36];rfl:af36=_) rfl
def T37:=tG 37 (by simp only[go_sem,af37,Tryz.f37];rfl:af37=_) rfl
def T38:=tG 38 (by simp only[go_sem,af38,Tryz.f38];rfl:af38=_) rfl
def T39:=tG 39 (by simp only[go_sem,af39,Tryz.f39];rfl:af39=_) rfl
def T40:=tG 40 (by simp only[go_sem,af40,Tryz.f40];rfl:af40=_) rfl
def T41:=tG 41 (by simp only[go_sem,af41,Tryz.f41];rfl:af41=_) rfl
def T42:=tG 42 (by simp only[go_sem,af42,Tryz.f42];rfl:af42=_) rfl
def T43:=tG 43 (by simp only[go_sem,af43,Tryz.f43];rfl:af43=_) rfl
def T44:=tG 44 (by simp only[go_sem,af44,Tryz.f44];rfl:af44=_) rfl
def T45:=tG 45 (by simp only[go_sem,af45,Tryz.f45];rfl:af45=_) rfl
def T46:=tG 46 (by simp only[go_sem,af46,Tryz.f46];rfl:af46=_) rfl
def T47:=tG 47 (by simp only[go_sem,af47,Tryz.f47];rfl:af47=_) rfl
def T48:=tG 48 (by simp only[go_sem,af48,Tryz.f48];rfl:af48=_) rfl
def T49:=tG 49 (by simp only[go_sem,af49,Tryz.f49];rfl:af49=_) rfl
def T50:=tG 50 (by simp only[go_sem,af50,Tryz.f50];rfl:af50=_) rfl
def T53:=tG 53 (by simp only[go_sem,af53,Tryz.f53];rfl:af53=_) rfl
def T54:=tG 54 (by simp only[go_sem,af54,Tryz.f54];rfl:af54=_) rfl
def T55:=tG 55 (by simp only[go_sem,af55,Tryz.f55];rfl:af55=_) rfl
def T56:=tG 56 (by simp only[go_sem,af56,Tryz.f56];rfl:af56=_) rfl
def T59:=tG 59 (by simp only[go_sem,af59,Tryz.f59];rfl:af59=_) rfl
def T60:=tG 60 (by simp only[go_sem,af60,Tryz.f60];rfl:af60=_) rfl
def T61:=tG 61 (by simp only[go_sem,af61,Tryz.f61];rfl:af61=_) rfl
def T62:=tG 62 (by simp only[go_sem,af62,Tryz.f62];rfl:af62=_) rfl
def T63:=tG 63 (by simp only[go_sem,af63,Tryz.f63];rfl:af63=_) rfl
def T64:=tG 64 (by simp only[go_sem,af64,Tryz.f64];rfl:af64=_) rfl
def T65:=tG 65 (by simp only[go_sem,af65,Tryz.f65];rfl:af65=_) rfl
def T68:=tG 68 (by simp only[go_sem,af68,Tryz.f68];rfl:af68=_) rfl
def T69:=tG 69 (by simp only[go_sem,af69,Tryz.f69];rfl:af69=_) rfl
def T70:=tG 70 (by simp only[go_sem,af70,Tryz.f70];rfl:af70=_) rfl
def T71:=tG 71 (by simp only[go_sem,af71,Tryz.f71];rfl:af71=_) rfl
def T72:=tG 72 (by simp only[go_sem,af72,Tryz.f72];rfl:af72=_) rfl
def T73:=tG 73 (by simp only[go_sem,af73,Tryz.f73];rfl:af73=_) rfl
def T74:=tG 74 (by simp only[go_sem,af74,Tryz.f74];rfl:af74=_) rfl
def T75:=tG 75 (by simp only[go_sem,af75,Tryz.f75];rfl:af75=_) rfl
def T76:=tG 76 (by simp only[go_sem,af76,Tryz.f76];rfl:af76=_) rfl
def T77:=tG 77 (by simp only[go_sem,af77,Tryz.f77];rfl:af77=_) rfl
def T78:=tG 78 (by simp only[go_sem,af78,Tryz.f78];rfl:af78=_) rfl
def T90:=tG 90 (by simp only[go_sem,af90,Tryz.f90];rfl:af90=_) rfl
def T91:=tG 91 (by simp only[go_sem,af91,Tryz.f91];rfl:af91=_) rfl
def T92:=tG 92 (by simp only[go_sem,af92,Tryz.f92];rfl:af92=_) rfl
def T93:=tG 93 (by simp only[go_sem,af93,Tryz.f93];rfl:af93=_) rfl
def T94:=tG 94 (by simp only[go_sem,af94,Tryz.f94];rfl:af94=_) rfl
def T95:=tG 95 (by simp only[go_sem,af95,Tryz.f95];rfl:af95=_) rfl
def T96:=tG 96 (by simp only[go_sem,af96,Tryz.f96];rfl:af96=_) rfl
def T97:=tG 97 (by simp only[go_sem,af97,Tryz.f97];rfl:af97=_) rfl
def T98:=tG 98 (by simp only[go_sem,af98,Tryz.f98];rfl:af98=_) rfl
def T99:=tG 99 (by simp only[go_sem,af99,Tryz.f99];rfl:af99=_) rfl
def T103:=tG 103 (by simp only[go_sem,af103,Tryz.f103];rfl:af103=_) rfl
def T104:=tG 104 (by simp only[go_sem,af104,Tryz.f104];rfl:af104=_) rfl
def T105:=tG 105 (by simp only[go_sem,af105,Tryz.f105];rfl:af105=_) rfl
def T106:=tG 106 (by simp only[go_sem,af106,Tryz.f106];rfl:af106=_) rfl
def T107:=tG 107 (by simp only[go_sem,af107,Tryz.f107];rfl:af107=_) rfl
def T108:=tG 108 (by simp only[go_sem,af108,Tryz.f108];rfl:af108=_) rfl
def T109:=tG 109 (by simp only[go_sem,af109,Tryz.f109];rfl:af109=_) rfl
def T110:=tG 110 (by simp only[go_sem,af110,Tryz.f110];rfl:af110=_) rfl
def T111:=tG 111 (by simp only[go_sem,af111,Tryz.f111];rfl:af111=_) rfl
def T112:=tG 112 (by simp only[go_sem,af112,Tryz.f112];rfl:af112=_) rfl
def T115:=tG 115 (by simp only[go_sem,af115,Tryz.f115];rfl:af115=_) rfl
def T116:=tG 116 (by simp only[go_sem,af116,Tryz.f116];rfl:af116=_) rfl
def T117:=tG 117 (by simp only[go_sem,af117,Tryz.f117];rfl:af117=_) rfl
def T118:=tG 118 (by simp only[go_sem,af118,Tryz.f118];rfl:af118=_) rfl
def T119:=tG 119 (by simp only[go_sem,af119,Tryz.f119];rfl:af119=_) rfl
def T120:=tG 120 (by simp only[go_sem,af120,Tryz.f120];rfl:af120=_) rfl
def T121:=tG 121 (by simp only[go_sem,af121,Tryz.f121];rfl:af121=_) rfl
def T122:=tG 122 (by simp only[go_sem,af122,Tryz.f122];rfl:af122=_) rfl
def T123:=tG 123 (by simp only[go_sem,af123,Tryz.f123];rfl:af123=_) rfl
def T124:=tG 124 (by simp only[go_sem,af124,Tryz.f124];rfl:af124=_) rfl
def T125:=tG 125 (by simp only[go_sem,af125,Tryz.f125];rfl:af125=_) rfl
def T126:=tG 126 (by simp only[go_sem,af126,Tryz.f126];rfl:af126=_) rfl
def T127:=tG 127 (by simp only[go_sem,af127,Tryz.f127];rfl:af127=_) rfl
def T128:=tG 128 (by simp only[go_sem,af128,Tryz.f128];rfl:af128=_) rfl
def T130:=tG 130 (by simp only[go_sem,af130,Tryz.f130];rfl:af130=_) rfl
def T136:=tG 136 (by simp only[go_sem,af136,Tryz.f136];rfl:af136=_) rfl
theorem T138:TT 138=some af138:=by rfl
def T139:=tG 139 (by simp only[go_sem,af139,Tryz.f139];rfl:af139=_) rfl
def T144:=tG 144 (by simp only[go_sem,af144,Tryz.f144];rfl:af144=_) rfl
def T145:=tG 145 (by simp only[go_sem,af145,Tryz.f145];rfl:af145=_) rfl
def T150:=tG 150 (by simp only[go_sem,af150,Tryz.f150];rfl:af150=_) rfl
def T151:=tG 151 (by simp only[go_sem,af151,Tryz.f151];rfl:af151=_) rfl
def T152:=tG 152 (by simp only[go_sem,af152,Tryz.f152];rfl:af152=_) rfl
def T153:=tG 153 (by simp only[go_sem,af153,Tryz.f153];rfl:af153=_) rfl
def T154:=tG 154 (by simp only[go_sem,af154,Tryz.f154];rfl:af154=_) rfl
def T155:=tG 155 (by simp only[go_sem,af155,Tryz.f155];rfl:af155=_) rfl
def T156:=tG 156 (by simp only[go_sem,af156,Tryz.f156];rfl:af156=_) rfl
def T157:=tG 157 (by simp only[go_sem,af157,Tryz.f157];rfl:af157=_) rfl
def T158:=tG 158 (by simp only[go_sem,af158,Tryz.f158];rfl:af158=_) rfl
def T159:=tG 159 (by simp only[go_sem,af159,Tryz.f159];rfl:af159=_) rfl
def T161:=tG 161 (by simp only[go_sem,af161,Tryz.f161];rfl:af161=_) rfl
theorem T162:TT 162=some af162:=by rfl
def T164:=tG 164 (by simp only[go_sem,af164,Tryz.f164];rfl:af164=_) rfl
def T171:=tG 171 (by simp only[go_sem,af171,Tryz.f171];rfl:af171=_) rfl
def T172:=tG 172 (by simp only[go_sem,af172,Tryz.f172];rfl:af172=_) rfl
def T177:=tG 177 (by simp only[go_sem,af177,Tryz.f177];rfl:af177=_) rfl
def T178:=tG 178 (by simp only[go_sem,af178,Tryz.f178];rfl:af178=_) rfl
def T179:=tG 179 (by simp only[go_sem,af179,Tryz.f179];rfl:af179=_) rfl
def T180:=tG 180 (by simp only[go_sem,af180,Tryz.f180];rfl:af180=_) rfl
def T181:=tG 181 (by simp only[go_sem,af181,Tryz.f181];rfl:af181=_) rfl
def T182:=tG 182 (by simp only[go_sem,af182,Tryz.f182];rfl:af182=_) rfl
def T183:=tG 183 (by simp only[go_sem,af183,Tryz.f183];rfl:af183=_) rfl
def T184:=tG 184 (by simp only[go_sem,af184,Tryz.f184];rfl:af184=_) rfl
def T185:=tG 185 (by simp only[go_sem,af185,Tryz.f185];rfl:af185=_) rfl
def T188:=tG 188 (by simp only[go_sem,af188,Tryz.f188];rfl:af188=_) rfl
def T189:=tG 189 (by simp only[go_sem,af189,Tryz.f189];rfl:af189=_) rfl
def T195:=tG 195 (by simp only[go_sem,af195,Tryz.f195];rfl:af195=_) rfl
def T196:=tG 196 (by simp only[go_sem,af196,Tryz.f196];rfl:af196=_) rfl
def T197:=tG 197 (by simp only[go_sem,af197,Tryz.f197];rfl:af197=_) rfl
def T198:=tG 198 (by simp only[go_sem,af198,Tryz.f198];rfl:af198=_) rfl
def T199:=tG 199 (by simp only[go_sem,af199,Tryz.f199];rfl:af199=_) rfl
def T200:=tG 200 (by simp only[go_sem,af200,Tryz.f200];rfl:af200=_) rfl
def T201:=tG 201 (by simp only[go_sem,af201,Tryz.f201];rfl:af201=_) rfl
def T202:=tG 202 (by simp only[go_sem,af202,Tryz.f202];rfl:af202=_) rfl
def T205:=tG 205 (by simp only[go_sem,af205,Tryz.f205];rfl:af205=_) rfl
theorem T212:TT 212=some af212:=by rfl
def T213:=tG 213 (by simp only[go_sem,af213,Tryz.f213];rfl:af213=_) rfl
def T221:=tG 221 (by simp only[go_sem,af221,Tryz.f221];rfl:af221=_) rfl
def T227:=tG 227 (by simp only[go_sem,af227,Tryz.f227];rfl:af227=_) rfl
def T233:=tG 233 (by simp only[go_sem,af233,Tryz.f233];rfl:af233=_) rfl
def T234:=tG 234 (by simp only[go_sem,af234,Tryz.f234];rfl:af234=_) rfl
def T236:=tG 236 (by simp only[go_sem,af236,Tryz.f236];rfl:af236=_) rfl
def T237:=tG 237 (by simp only[go_sem,af237,Tryz.f237];rfl:af237=_) rfl
def T238:=tG 238 (by simp only[go_sem,af238,Tryz.f238];rfl:af238=_) rfl
def T239:=tG 239 (by simp only[go_sem,af239,Tryz.f239];rfl:af239=_) rfl
def T240:=tG 240 (by simp only[go_sem,af240,Tryz.f240];rfl:af240=_) rfl
theorem P57:PT 57=some Ahv:=by rfl
theorem P58:PT 58=some hpS:=by rfl
theorem P66:PT 66=some Yn:=by rfl
theorem P67:PT 67=some Qv:=by rfl
theorem P102:PT 102=some Uu:=by rfl
theorem P129:PT 129=some Acl:=by rfl
theorem P137:PT 137=some Ahd:=by rfl
theorem P142:PT 142=some kwS:=by rfl
theorem P143:PT 143=some Y8:=by rfl
theorem P170:PT 170=some Y9:=by rfl
theorem P187:PT 187=some Y1:=by rfl
noncomputable def okP (m:Int) (p:Nat × AF):Bool:=p.2.spec.isSome||Sh Tryz.prog (GT m) p.1 p.2
theorem Brs:(tabL.drop 0 |>.take 8).all (okP m)=true:=by kernel_rfl
theorem Brt:(tabL.drop 8 |>.take 8).all (okP m)=true:=by kernel_rfl
theorem Bru:(tabL.drop 16 |>.take 8).all (okP m)=true:=by kernel_rfl
theorem Brv:(tabL.drop 24 |>.take 8).all (okP m)=true:=by kernel_rfl
theorem Brw:(tabL.drop 32 |>.take 8).all (okP m)=true:=by kernel_rfl
theorem Brx:(tabL.drop 40 |>.take 8).all (okP m)=true:=by kernel_rfl
theorem Bry:(tabL.drop 48 |>.take 8).all (okP m)=true:=by kernel_rfl
theorem Brz:(tabL.drop 56 |>.take 8).all (okP m)=true:=by kernel_rfl
theorem Br0:(tabL.drop 64 |>.take 8).all (okP m)=true:=by kernel_rfl
theorem Br1:(tabL.drop 72 |>.take 8).all (okP m)=true:=by kernel_rfl
theorem Bpu:(tabL.drop 80 |>.take 8).all (okP m)=true:=by kernel_rfl
theorem Bpv:(tabL.drop 88 |>.take 8).all (okP m)=true:=by kernel_rfl
theorem Bpw:(tabL.drop 96 |>.take 8).all (okP m)=true:=by kernel_rfl
theorem Bpx:(tabL.drop 104 |>.take 8).all (okP m)=true:=by kernel_rfl
theorem Bpy:(tabL.drop 112 |>.take 8).all (okP m)=true:=by kernel_rfl
theorem Bpz:(tabL.drop 120 |>.take 8).all (okP m)=true:=by kernel_rfl
theorem Bp0:(tabL.drop 128 |>.take 8).all (okP m)=true:=by kernel_rfl
theorem Bp1:(tabL.drop 136 |>.take 8).all (okP m)=true:=by kernel_rfl
theorem Bp2:(tabL.drop 144 |>.take 8).all (okP m)=true:=by kernel_rfl
theorem Bp3:(tabL.drop 152 |>.take 8).all (okP m)=true:=by kernel_rfl
theorem Zz{α:Type}:∀ {l:List (Nat × α)} {f:Nat} {a:α},l.lookup f=some a->(f,a)∈l
 | [],_,_,h=>by cases h
 | (g,b)::l,f,a,h=>by
  rw[Aip]at h
  split at h
  ·rename_i he
   cases h
   rw[eq_of_beq he]
   exact B7
  ·exact Ci _ (Zz h)
theorem Apn{α:Type}{p:α->Bool}(k:Nat):∀ (n:Nat) (l:List α),l.length<=n*k->(∀ i,i<n->((l.drop (i*k)).take k).all p=true)->∀ x∈l,p x=true
 | 0,l,hl,_,x,hx=>by
  have:l=[]:=U0.1 AA
  subst this
  cases hx
 | n+1,l,hl,h,x,hx=>by
  rw[<-L8 k l]at hx
  rcases Ct.1 hx with hx | hx
  ·have h0:=h 0 AA
   rw[Nat.zero_mul,L9]at h0
   exact Bw.1 h0 x hx
  ·refine Apn k n (l.drop k) (by rw[Hi];rw[Gy]at hl;omega) (fun i hi=>?_) x hx
   have:=h (i+1) AA
   rwa [Adn,Ai1,<-Gy]
theorem Bj3:∀ x∈tabL,okP m x=true:=by
 refine Apn 8 20 tabL (of_decide_eq_true AD) fun i hi=>?_
 match i,hi with
 | 0,_=>exact Brs
 | 1,_=>exact Brt
 | 2,_=>exact Bru
 | 3,_=>exact Brv
 | 4,_=>exact Brw
 | 5,_=>exact Brx
 | 6,_=>exact Bry
 | 7,_=>exact Brz
 | 8,_=>exact Br0
 | 9,_=>exact Br1
 | 10,_=>exact Bpu
 | 11,_=>exact Bpv
 | 12,_=>exact Bpw
 | 13,_=>exact Bpx
 | 14,_=>exact Bpy
 | 15,_=>exact Bpz
 | 16,_=>exact Bp0
 | 17,_=>exact Bp1
 | 18,_=>exact Bp2
 | 19,_=>exact Bp3
 | i+20,h=>exact absurd h AA
theorem hTT:∀ f F,TT f=some F->F.spec=none->Sh Tryz.prog (GT m) f F=true:=by
 intro f F h hs
 have hm:=Bj3 (m:=m) _ (Zz h)
 unfold okP at hm
 simp only[hs,Option.isSome_none,U5]at hm
 exact hm
theorem Bj4:tabL.filter (fun p=>p.2.spec.isSome)=[(20,af20),(21,af21),(138,af138),(162,af162),(212,af212)]:=by rfl
theorem hST:∀ f F s,TT f=some F->F.spec=some s->Rr Tryz.prog (GT m) f s:=by
 intro f F s h hs
 have hm:(f,F)∈tabL.filter (fun p=>p.2.spec.isSome):=Ol.2 ⟨Zz h,by simp[hs]⟩
 rw[Bj4]at hm
 simp only[Bp,La,or_false,Prod.mk.injEq]at hm
 rcases hm with⟨rfl,rfl⟩ | ⟨rfl,rfl⟩ | ⟨rfl,rfl⟩ | ⟨rfl,rfl⟩ | ⟨rfl,rfl⟩
 ·cases hs;exact Bi9
 ·cases hs;exact Bja
 ·cases hs;exact Bdo
 ·cases hs;exact Bi4
 ·cases hs;exact Bnz
theorem hPT:∀ f s,PT f=some s->Iu Tryz.prog (GT m) f s:=by
 intro f s h
 have hm:=Zz h
 simp only[prL,Bp,La,or_false,Prod.mk.injEq]at hm
 rcases hm with⟨rfl,rfl⟩ | ⟨rfl,rfl⟩ | ⟨rfl,rfl⟩ | ⟨rfl,rfl⟩ | ⟨rfl,rfl⟩ | ⟨rfl,rfl⟩ | ⟨rfl,rfl⟩ | ⟨rfl,rfl⟩ | ⟨rfl,rfl⟩ | ⟨rfl,rfl⟩ | ⟨rfl,rfl⟩
 ·exact Bi7
 ·exact Bn0
 ·exact Bdm A1w
 ·exact Bi5 A1w
 ·exact Bn1
 ·exact Bi8 (Brr m)
 ·exact Bdr hKw
 ·exact A0d hKw
 ·exact Bn2
 ·exact Bn4 hEs hEr
 ·exact Bi6
theorem Si:∀ f F,TT f=some F->F.spec=none->Mk F.body=true:=by
 intro f F h _
 have hm:=Zz h
 have hall:(tabL.all fun p=>Mk p.2.body)=true:=by kernel_rfl
 exact Bw.1 hall _ hm
