/- The table of functions, and that each form is the program's function. Printed by km_table.py. -/
import Derived.Test.YtphikjgngompaabGreatDoorNt
set_option linter.all false
set_option maxRecDepth 100000
set_option maxHeartbeats 4000000
namespace Go.Proofs.YtphikjgngompaabGreatDoor.KM
open Go
abbrev iV(n:Int):V:=.int .i64 n
def GT(m:Int):List (Nat × List V):=[(0,gKw),(1,gPow),(2,[.int .i64 m]),(7,[.ifc]),(8,[.ifc]),(9,A1w)]
variable {m:Int}
theorem A1x:(1,gPow)∈GT m:=by simp[GT]
theorem hEs:(7,[V.ifc])∈GT m:=by simp[GT]
theorem hEr:(8,[V.ifc])∈GT m:=by simp[GT]
theorem hKw:(0,gKw)∈GT m:=by simp[GT]
theorem Brz(m:Int):(2,[V.int .i64 m])∈GT m:=by simp[GT]
noncomputable def tabL:List (Nat × AF):=[(3,af3),(4,af4),(5,af5),(6,af6),(7,af7),(8,af8),(9,af9),(10,af10),(11,af11),(12,af12),(13,af13),(14,af14),(15,af15),(16,af16),(17,af17),(18,af18),(19,af19),(20,af20),(21,af21),(22,af22),(23,af23),(24,af24),(25,af25),(26,af26),(27,af27),(28,af28),(29,af29),(30,af30),(31,af31),(32,af32),(33,af33),(34,af34),(35,af35),(36,af36),(37,af37),(38,af38),(39,af39),(40,af40),(41,af41),(42,af42),(43,af43),(44,af44),(45,af45),(46,af46),(47,af47),(48,af48),(49,af49),(50,af50),(51,af51),(52,af52),(54,af54),(55,af55),(56,af56),(57,af57),(58,af58),(59,af59),(60,af60),(63,af63),(64,af64),(65,af65),(66,af66),(67,af67),(68,af68),(69,af69),(70,af70),(71,af71),(72,af72),(73,af73),(74,af74),(75,af75),(78,af78),(79,af79),(80,af80),(81,af81),(82,af82),(83,af83),(84,af84),(85,af85),(86,af86),(88,af88),(89,af89),(92,af92),(93,af93),(94,af94),(95,af95),(96,af96),(97,af97),(98,af98),(99,af99),(100,af100),(101,af101),(104,af104),(105,af105),(106,af106),(107,af107),(108,af108),(109,af109),(110,af110),(111,af111),(112,af112),(113,af113),(114,af114),(115,af115),(116,af116),(117,af117),(119,af119),(131,af131),(132,af132),(133,af133),(138,af138),(139,af139),(144,af144),(145,af145),(146,af146),(147,af147),(148,af148),(149,af149),(150,af150),(151,af151),(152,af152),(153,af153),(155,af155),(156,af156),(162,af162),(170,af170),(171,af171),(176,af176),(177,af177),(178,af178),(179,af179),(180,af180),(181,af181),(182,af182),(183,af183),(184,af184),(187,af187),(188,af188),(196,af196),(197,af197),(198,af198),(199,af199),(200,af200),(201,af201),(202,af202),(203,af203),(206,af206),(213,af213),(214,af214),(222,af222),(228,af228),(234,af234),(235,af235),(237,af237),(238,af238),(239,af239),(240,af240),(241,af241)]
def prL:List (Nat × (List V->Option V)):=[(53,hpS),(61,Yl),(62,Qx),(87,Ag6),(91,Ur),(118,Acb),(134,Aho),(135,kwS),(137,Y6),(169,Y7),(186,Yz)]
noncomputable def TT (f:Nat):Option AF:=tabL.lookup f
def PT(f:Nat):Option (List V->Option V):=prL.lookup f
theorem tG(k:Nat){F H:AF}(h:F=H)(h2:TT k=some F):TT k=some H:=h ▸ h2
def T3:=tG 3 (by simp only[go_sem,af3,Tryz.f3];rfl:af3=_) rfl
def T4:=tG 4 (by simp only[go_sem,af4,Tryz.f4];rfl:af4=_) rfl
def T5:=tG 5 (by simp only[go_sem,af5,Tryz.f5];rfl:af5=_) rfl
def T6:=tG 6 (by simp only[go_sem,af6,Tryz.f6];rfl:af6=_) rfl
def T7:=tG 7 (by simp only[go_sem,af7,Tryz.f7];rfl:af7=_) rfl
def T8:=tG 8 (by simp only[go_sem,af8,Tryz.f8];rfl:af8=_) rfl
def T9:=tG 9 (by simp only[go_sem,af9,Tryz.f9];rfl:af9=_) rfl
def T10:=tG 10 (by simp only[go_sem,af10,Tryz.f10];rfl:af10=_) rfl
def T11:=tG 11 (by simp only[go_sem,af11,Tryz.f11];rfl:af11=_) rfl
def T12:=tG 12 (by simp only[go_sem,af12,Tryz.f12];rfl:af12=_) rfl
def T13:=tG 13 (by simp only[go_sem,af13,Tryz.f13];rfl:af13=_) rfl
def T14:=tG 14 (by simp only[go_sem,af14,Tryz.f14];rfl:af14=_) rfl
def T15:=tG 15 (by simp only[go_sem,af15,Tryz.f15];rfl:af15=_) rfl
def T16:=tG 16 (by simp only[go_sem,af16,Tryz.f16];rfl:af16=_) rfl
def T17:=tG 17 (by simp only[go_sem,af17,Tryz.f17];rfl:af17=_) rfl
def T18:=tG 18 (by simp only[go_sem,af18,Tryz.f18];rfl:af18=_) rfl
def T19:=tG 19 (by simp only[go_sem,af19,Tryz.f19];rfl:af19=_) rfl
def T20:=tG 20 (by simp only[go_sem,af20,Tryz.f20];rfl:af20=_) rfl
def T21:=tG 21 (by simp only[go_sem,af21,Tryz.f21];rfl:af21=_) rfl
def T22:=tG 22 (by simp only[go_sem,af22,Tryz.f22];rfl:af22=_) rfl
def T23:=tG 23 (by simp only[go_sem,af23,Tryz.f23];rfl:af23=_) rfl
def T24:=tG 24 (by simp only[go_sem,af24,Tryz.f24];rfl:af24=_) rfl
def T25:=tG 25 (by simp only[go_sem,af25,Tryz.f25];rfl:af25=_) rfl
def T26:=tG 26 (by simp only[go_sem,af26,Tryz.f26];rfl:af26=_) rfl
def T27:=tG 27 (by simp only[go_sem,af27,Tryz.f27];rfl:af27=_) rfl
def T28:=tG 28 (by simp only[go_sem,af28,Tryz.f28];rfl:af28=_) rfl
def T29:=tG 29 (by simp only[go_sem,af29,Tryz.f29];rfl:af29=_) rfl
def T30:=tG 30 (by simp only[go_sem,af30,Tryz.f30];rfl:af30=_) rfl
def T31:=tG 31 (by simp only[go_sem,af31,Tryz.f31];rfl:af31=_) rfl
def T32:=tG 32 (by simp only[go_sem,af32,Tryz.f32];rfl:af32=_) rfl
def T33:=tG 33 (by simp only[go_sem,af33,Tryz.f33];rfl:af33=_) rfl
def T34:=tG 34 (by simp only[go_sem,af34,Tryz.f34];rfl:af34=_) rfl
def T35:=tG 35 (by simp only[go_sem,af35,Tryz.f35];rfl:af35=_) rfl
def T36:=tG 36 (by simp only[go_sem,af36,Tryz.f36];rfl:af36=_) rfl
def T37:=tG 37 (by simp only[go_sem,af37,Tryz.f37];rfl:af37=_) rfl
def T38:=tG 38 (by simp only[go_sem,af38,Tryz.f38];rfl:af38=_) rfl
def T39:=tG 39 (by simp only[go_sem,af39,Tryz.f39];rfl:af39=_) rfl
def T40:=tG 40 (by simp only[go_sem,af40,Tryz.f40];rfl:af40=_) rfl
def T41:=tG 41 (by simp only[go_sem,af41,Tryz.f41];rfl:af41=_) rfl
def T42:=tG 42 (by simp only[go_sem,af42,Tryz.f42];rfl:af42=_) rfl
def T43:=tG 43 (by simp only[go_sem,af43,Tryz.f43];rfl:af43=_) rfl
def T44:=tG 44 (by simp only[go_sem,af44,Tryz.f44];rfl:af44=_) rfl
def T45:=tG 45 (by simp only[go_sem,af45,Tryz.f45];rfl:af45=_) rfl
theorem T46:TT 46=some af46:=by rfl
def T47:=tG 47 (by simp only[go_sem,af47,Tryz.f47];rfl:af47=_) rfl
def T48:=tG 48 (by simp only[go_sem,af48,Tryz.f48];rfl:af48=_) rfl
def T49:=tG 49 (by simp only[go_sem,af49,Tryz.f49];rfl:af49=_) rfl
def T50:=tG 50 (by simp only[go_sem,af50,Tryz.f50];rfl:af50=_) rfl
def T51:=tG 51 (by simp only[go_sem,af51,Tryz.f51];rfl:af51=_) rfl
def T52:=tG 52 (by simp only[go_sem,af52,Tryz.f52];rfl:af52=_) rfl
def T54:=tG 54 (by simp only[go_sem,af54,Tryz.f54];rfl:af54=_) rfl
def T55:=tG 55 (by simp only[go_sem,af55,Tryz.f55];rfl:af55=_) rfl
def T56:=tG 56 (by simp only[go_sem,af56,Tryz.f56];rfl:af56=_) rfl
def T57:=tG 57 (by simp only[go_sem,af57,Tryz.f57];rfl:af57=_) rfl
def T58:=tG 58 (by simp only[go_sem,af58,Tryz.f58];rfl:af58=_) rfl
def T59:=tG 59 (by simp only[go_sem,af59,Tryz.f59];rfl:af59=_) rfl
def T60:=tG 60 (by simp only[go_sem,af60,Tryz.f60];rfl:af60=_) rfl
def T63:=tG 63 (by simp only[go_sem,af63,Tryz.f63];rfl:af63=_) rfl
def T64:=tG 64 (by simp only[go_sem,af64,Tryz.f64];rfl:af64=_) rfl
def T65:=tG 65 (by simp only[go_sem,af65,Tryz.f65];rfl:af65=_) rfl
def T66:=tG 66 (by simp only[go_sem,af66,Tryz.f66];rfl:af66=_) rfl
def T67:=tG 67 (by simp only[go_sem,af67,Tryz.f67];rfl:af67=_) rfl
def T68:=tG 68 (by simp only[go_sem,af68,Tryz.f68];rfl:af68=_) rfl
def T69:=tG 69 (by simp only[go_sem,af69,Tryz.f69];rfl:af69=_) rfl
def T70:=tG 70 (by simp only[go_sem,af70,Tryz.f70];rfl:af70=_) rfl
def T71:=tG 71 (by simp only[go_sem,af71,Tryz.f71];rfl:af71=_) rfl
def T72:=tG 72 (by simp only[go_sem,af72,Tryz.f72];rfl:af72=_) rfl
def T73:=tG 73 (by simp only[go_sem,af73,Tryz.f73];rfl:af73=_) rfl
def T74:=tG 74 (by simp only[go_sem,af74,Tryz.f74];rfl:af74=_) rfl
def T75:=tG 75 (by simp only[go_sem,af75,Tryz.f75];rfl:af75=_) rfl
def T78:=tG 78 (by simp only[go_sem,af78,Tryz.f78];rfl:af78=_) rfl
def T79:=tG 79 (by simp only[go_sem,af79,Tryz.f79];rfl:af79=_) rfl
def T80:=tG 80 (by simp only[go_sem,af80,Tryz.f80];rfl:af80=_) rfl
def T81:=tG 81 (by simp only[go_sem,af81,Tryz.f81];rfl:af81=_) rfl
def T82:=tG 82 (by simp only[go_sem,af82,Tryz.f82];rfl:af82=_) rfl
def T83:=tG 83 (by simp only[go_sem,af83,Tryz.f83];rfl:af83=_) rfl
def T84:=tG 84 (by simp only[go_sem,af84,Tryz.f84];rfl:af84=_) rfl
def T85:=tG 85 (by simp only[go_sem,af85,Tryz.f85];rfl:af85=_) rfl
def T86:=tG 86 (by simp only[go_sem,af86,Tryz.f86];rfl:af86=_) rfl
def T88:=tG 88 (by simp only[go_sem,af88,Tryz.f88];rfl:af88=_) rfl
def T89:=tG 89 (by simp only[go_sem,af89,Tryz.f89];rfl:af89=_) rfl
def T92:=tG 92 (by simp only[go_sem,af92,Tryz.f92];rfl:af92=_) rfl
def T93:=tG 93 (by simp only[go_sem,af93,Tryz.f93];rfl:af93=_) rfl
def T94:=tG 94 (by simp only[go_sem,af94,Tryz.f94];rfl:af94=_) rfl
def T95:=tG 95 (by simp only[go_sem,af95,Tryz.f95];rfl:af95=_) rfl
def T96:=tG 96 (by simp only[go_sem,af96,Tryz.f96];rfl:af96=_) rfl
def T97:=tG 97 (by simp only[go_sem,af97,Tryz.f97];rfl:af97=_) rfl
def T98:=tG 98 (by simp only[go_sem,af98,Tryz.f98];rfl:af98=_) rfl
def T99:=tG 99 (by simp only[go_sem,af99,Tryz.f99];rfl:af99=_) rfl
def T100:=tG 100 (by simp only[go_sem,af100,Tryz.f100];rfl:af100=_) rfl
def T101:=tG 101 (by simp only[go_sem,af101,Tryz.f101];rfl:af101=_) rfl
def T104:=tG 104 (by simp only[go_sem,af104,Tryz.f104];rfl:af104=_) rfl
def T105:=tG 105 (by simp only[go_sem,af105,Tryz.f105];rfl:af105=_) rfl
def T106:=tG 106 (by simp only[go_sem,af106,Tryz.f106];rfl:af106=_) rfl
def T107:=tG 107 (by simp only[go_sem,af107,Tryz.f107];rfl:af107=_) rfl
def T108:=tG 108 (by simp only[go_sem,af108,Tryz.f108];rfl:af108=_) rfl
def T109:=tG 109 (by simp only[go_sem,af109,Tryz.f109];rfl:af109=_) rfl
def T110:=tG 110 (by simp only[go_sem,af110,Tryz.f110];rfl:af110=_) rfl
def T111:=tG 111 (by simp only[go_sem,af111,Tryz.f111];rfl:af111=_) rfl
def T112:=tG 112 (by simp only[go_sem,af112,Tryz.f112];rfl:af112=_) rfl
def T113:=tG 113 (by simp only[go_sem,af113,Tryz.f113];rfl:af113=_) rfl
def T114:=tG 114 (by simp only[go_sem,af114,Tryz.f114];rfl:af114=_) rfl
def T115:=tG 115 (by simp only[go_sem,af115,Tryz.f115];rfl:af115=_) rfl
def T116:=tG 116 (by simp only[go_sem,af116,Tryz.f116];rfl:af116=_) rfl
def T117:=tG 117 (by simp only[go_sem,af117,Tryz.f117];rfl:af117=_) rfl
def T119:=tG 119 (by simp only[go_sem,af119,Tryz.f119];rfl:af119=_) rfl
theorem T131:TT 131=some af131:=by rfl
def T132:=tG 132 (by simp only[go_sem,af132,Tryz.f132];rfl:af132=_) rfl
def T133:=tG 133 (by simp only[go_sem,af133,Tryz.f133];rfl:af133=_) rfl
def T138:=tG 138 (by simp only[go_sem,af138,Tryz.f138];rfl:af138=_) rfl
def T139:=tG 139 (by simp only[go_sem,af139,Tryz.f139];rfl:af139=_) rfl
def T144:=tG 144 (by simp only[go_sem,af144,Tryz.f144];rfl:af144=_) rfl
def T145:=tG 145 (by simp only[go_sem,af145,Tryz.f145];rfl:af145=_) rfl
def T146:=tG 146 (by simp only[go_sem,af146,Tryz.f146];rfl:af146=_) rfl
def T147:=tG 147 (by simp only[go_sem,af147,Tryz.f147];rfl:af147=_) rfl
def T148:=tG 148 (by simp only[go_sem,af148,Tryz.f148];rfl:af148=_) rfl
def T149:=tG 149 (by simp only[go_sem,af149,Tryz.f149];rfl:af149=_) rfl
def T150:=tG 150 (by simp only[go_sem,af150,Tryz.f150];rfl:af150=_) rfl
def T151:=tG 151 (by simp only[go_sem,af151,Tryz.f151];rfl:af151=_) rfl
def T152:=tG 152 (by simp only[go_sem,af152,Tryz.f152];rfl:af152=_) rfl
def T153:=tG 153 (by simp only[go_sem,af153,Tryz.f153];rfl:af153=_) rfl
def T155:=tG 155 (by simp only[go_sem,af155,Tryz.f155];rfl:af155=_) rfl
theorem T156:TT 156=some af156:=by rfl
def T162:=tG 162 (by simp only[go_sem,af162,Tryz.f162];rfl:af162=_) rfl
def T170:=tG 170 (by simp only[go_sem,af170,Tryz.f170];rfl:af170=_) rfl
def T171:=tG 171 (by simp only[go_sem,af171,Tryz.f171];rfl:af171=_) rfl
def T176:=tG 176 (by simp only[go_sem,af176,Tryz.f176];rfl:af176=_) rfl
def T177:=tG 177 (by simp only[go_sem,af177,Tryz.f177];rfl:af177=_) rfl
def T178:=tG 178 (by simp only[go_sem,af178,Tryz.f178];rfl:af178=_) rfl
def T179:=tG 179 (by simp only[go_sem,af179,Tryz.f179];rfl:af179=_) rfl
def T180:=tG 180 (by simp only[go_sem,af180,Tryz.f180];rfl:af180=_) rfl
def T181:=tG 181 (by simp only[go_sem,af181,Tryz.f181];rfl:af181=_) rfl
def T182:=tG 182 (by simp only[go_sem,af182,Tryz.f182];rfl:af182=_) rfl
def T183:=tG 183 (by simp only[go_sem,af183,Tryz.f183];rfl:af183=_) rfl
def T184:=tG 184 (by simp only[go_sem,af184,Tryz.f184];rfl:af184=_) rfl
def T187:=tG 187 (by simp only[go_sem,af187,Tryz.f187];rfl:af187=_) rfl
def T188:=tG 188 (by simp only[go_sem,af188,Tryz.f188];rfl:af188=_) rfl
def T196:=tG 196 (by simp only[go_sem,af196,Tryz.f196];rfl:af196=_) rfl
def T197:=tG 197 (by simp only[go_sem,af197,Tryz.f197];rfl:af197=_) rfl
def T198:=tG 198 (by simp only[go_sem,af198,Tryz.f198];rfl:af198=_) rfl
def T199:=tG 199 (by simp only[go_sem,af199,Tryz.f199];rfl:af199=_) rfl
def T200:=tG 200 (by simp only[go_sem,af200,Tryz.f200];rfl:af200=_) rfl
def T201:=tG 201 (by simp only[go_sem,af201,Tryz.f201];rfl:af201=_) rfl
def T202:=tG 202 (by simp only[go_sem,af202,Tryz.f202];rfl:af202=_) rfl
def T203:=tG 203 (by simp only[go_sem,af203,Tryz.f203];rfl:af203=_) rfl
def T206:=tG 206 (by simp only[go_sem,af206,Tryz.f206];rfl:af206=_) rfl
theorem T213:TT 213=some af213:=by rfl
def T214:=tG 214 (by simp only[go_sem,af214,Tryz.f214];rfl:af214=_) rfl
def T222:=tG 222 (by simp only[go_sem,af222,Tryz.f222];rfl:af222=_) rfl
def T228:=tG 228 (by simp only[go_sem,af228,Tryz.f228];rfl:af228=_) rfl
def T234:=tG 234 (by simp only[go_sem,af234,Tryz.f234];rfl:af234=_) rfl
def T235:=tG 235 (by simp only[go_sem,af235,Tryz.f235];rfl:af235=_) rfl
def T237:=tG 237 (by simp only[go_sem,af237,Tryz.f237];rfl:af237=_) rfl
def T238:=tG 238 (by simp only[go_sem,af238,Tryz.f238];rfl:af238=_) rfl
def T239:=tG 239 (by simp only[go_sem,af239,Tryz.f239];rfl:af239=_) rfl
def T240:=tG 240 (by simp only[go_sem,af240,Tryz.f240];rfl:af240=_) rfl
def T241:=tG 241 (by simp only[go_sem,af241,Tryz.f241];rfl:af241=_) rfl
theorem P53:PT 53=some hpS:=by rfl
theorem P61:PT 61=some Yl:=by rfl
theorem P62:PT 62=some Qx:=by rfl
theorem P87:PT 87=some Ag6:=by rfl
theorem P91:PT 91=some Ur:=by rfl
theorem P118:PT 118=some Acb:=by rfl
theorem P134:PT 134=some Aho:=by rfl
theorem P135:PT 135=some kwS:=by rfl
theorem P137:PT 137=some Y6:=by rfl
theorem P169:PT 169=some Y7:=by rfl
theorem P186:PT 186=some Yz:=by rfl
noncomputable def okP (m:Int) (p:Nat × AF):Bool:=p.2.spec.isSome||Se Tryz.prog (GT m) p.1 p.2
theorem Br0:(tabL.drop 0 |>.take 8).all (okP m)=true:=by kernel_rfl
theorem Br1:(tabL.drop 8 |>.take 8).all (okP m)=true:=by kernel_rfl
theorem Br2:(tabL.drop 16 |>.take 8).all (okP m)=true:=by kernel_rfl
theorem Br3:(tabL.drop 24 |>.take 8).all (okP m)=true:=by kernel_rfl
theorem Br4:(tabL.drop 32 |>.take 8).all (okP m)=true:=by kernel_rfl
theorem Br5:(tabL.drop 40 |>.take 8).all (okP m)=true:=by kernel_rfl
theorem Br6:(tabL.drop 48 |>.take 8).all (okP m)=true:=by kernel_rfl
theorem Br7:(tabL.drop 56 |>.take 8).all (okP m)=true:=by kernel_rfl
theorem Br8:(tabL.drop 64 |>.take 8).all (okP m)=true:=by kernel_rfl
theorem Br9:(tabL.drop 72 |>.take 8).all (okP m)=true:=by kernel_rfl
theorem Bp4:(tabL.drop 80 |>.take 8).all (okP m)=true:=by kernel_rfl
theorem Bp5:(tabL.drop 88 |>.take 8).all (okP m)=true:=by kernel_rfl
theorem Bp6:(tabL.drop 96 |>.take 8).all (okP m)=true:=by kernel_rfl
theorem Bp7:(tabL.drop 104 |>.take 8).all (okP m)=true:=by kernel_rfl
theorem Bp8:(tabL.drop 112 |>.take 8).all (okP m)=true:=by kernel_rfl
theorem Bp9:(tabL.drop 120 |>.take 8).all (okP m)=true:=by kernel_rfl
theorem Bqa:(tabL.drop 128 |>.take 8).all (okP m)=true:=by kernel_rfl
theorem Bqb:(tabL.drop 136 |>.take 8).all (okP m)=true:=by kernel_rfl
theorem Bqc:(tabL.drop 144 |>.take 8).all (okP m)=true:=by kernel_rfl
theorem Bqd:(tabL.drop 152 |>.take 8).all (okP m)=true:=by kernel_rfl
theorem Zs{α:Type}:∀ {l:List (Nat × α)} {f:Nat} {a:α},l.lookup f=some a->(f,a)∈l
 | [],_,_,h=>by cases h
 | (g,b)::l,f,a,h=>by
  rw[Ail]at h
  split at h
  ·rename_i he
   cases h
   rw[eq_of_beq he]
   exact B4
  ·exact Cb _ (Zs h)
theorem Apm{α:Type}{p:α->Bool}(k:Nat):∀ (n:Nat) (l:List α),l.length<=n*k->(∀ i,i<n->((l.drop (i*k)).take k).all p=true)->∀ x∈l,p x=true
 | 0,l,hl,_,x,hx=>by
  have:l=[]:=Zc.1 AA
  subst this
  cases hx
 | n+1,l,hl,h,x,hx=>by
  rw[<-Nn k l]at hx
  rcases Cu.1 hx with hx | hx
  ·have h0:=h 0 AA
   rw[Nat.zero_mul,Jf]at h0
   exact Bu.1 h0 x hx
  ·refine Apm k n (l.drop k) (by rw[Gz];rw[G0]at hl;omega) (fun i hi=>?_) x hx
   have:=h (i+1) AA
   rwa [Zi,Aix,<-G0]
theorem Bkc:∀ x∈tabL,okP m x=true:=by
 refine Apm 8 20 tabL (of_decide_eq_true AD) fun i hi=>?_
 match i,hi with
 | 0,_=>exact Br0
 | 1,_=>exact Br1
 | 2,_=>exact Br2
 | 3,_=>exact Br3
 | 4,_=>exact Br4
 | 5,_=>exact Br5
 | 6,_=>exact Br6
 | 7,_=>exact Br7
 | 8,_=>exact Br8
 | 9,_=>exact Br9
 | 10,_=>exact Bp4
 | 11,_=>exact Bp5
 | 12,_=>exact Bp6
 | 13,_=>exact Bp7
 | 14,_=>exact Bp8
 | 15,_=>exact Bp9
 | 16,_=>exact Bqa
 | 17,_=>exact Bqb
 | 18,_=>exact Bqc
 | 19,_=>exact Bqd
 | i+20,h=>exact absurd h AA
theorem hTT:∀ f F,TT f=some F->F.spec=none->Se Tryz.prog (GT m) f F=true:=by
 intro f F h hs
 have hm:=Bkc (m:=m) _ (Zs h)
 unfold okP at hm
 simp only[hs,Option.isSome_none,Zl]at hm
 exact hm
theorem Bkd:tabL.filter (fun p=>p.2.spec.isSome)=[(46,af46),(131,af131),(156,af156),(213,af213)]:=by rfl
theorem hST:∀ f F s,TT f=some F->F.spec=some s->Tq Tryz.prog (GT m) f s:=by
 intro f F s h hs
 have hm:(f,F)∈tabL.filter (fun p=>p.2.spec.isSome):=U0.2 ⟨Zs h,by simp[hs]⟩
 rw[Bkd]at hm
 simp only[Bp,L8,or_false,Prod.mk.injEq]at hm
 rcases hm with⟨rfl,rfl⟩ | ⟨rfl,rfl⟩ | ⟨rfl,rfl⟩ | ⟨rfl,rfl⟩
 ·cases hs;exact Bjl
 ·cases hs;exact Bd2
 ·cases hs;exact Bjg
 ·cases hs;exact Bn7
theorem hPT:∀ f s,PT f=some s->Iz Tryz.prog (GT m) f s:=by
 intro f s h
 have hm:=Zs h
 simp only[prL,Bp,L8,or_false,Prod.mk.injEq]at hm
 rcases hm with⟨rfl,rfl⟩ | ⟨rfl,rfl⟩ | ⟨rfl,rfl⟩ | ⟨rfl,rfl⟩ | ⟨rfl,rfl⟩ | ⟨rfl,rfl⟩ | ⟨rfl,rfl⟩ | ⟨rfl,rfl⟩ | ⟨rfl,rfl⟩ | ⟨rfl,rfl⟩ | ⟨rfl,rfl⟩
 ·exact Bn8
 ·exact Bds A1x
 ·exact Bjh A1x
 ·exact Bd3 hKw
 ·exact Bn9
 ·exact Bjk (Brz m)
 ·exact Bjj
 ·exact A0m hKw
 ·exact Boa
 ·exact Boc hEs hEr
 ·exact Bji
theorem Sf:∀ f F,TT f=some F->F.spec=none->Mh F.body=true:=by
 intro f F h _
 have hm:=Zs h
 have hall:(tabL.all fun p=>Mh p.2.body)=true:=by kernel_rfl
 exact Bu.1 hall _ hm
