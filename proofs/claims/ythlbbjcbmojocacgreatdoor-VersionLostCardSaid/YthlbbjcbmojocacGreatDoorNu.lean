/- The table of functions, and that each form is the program's function. Printed by km_table.py. -/
import Derived.Test.YthlbbjcbmojocacGreatDoorNt
set_option linter.all false
set_option maxRecDepth 100000
set_option maxHeartbeats 4000000
namespace Go.Proofs.YthlbbjcbmojocacGreatDoor.KM
open Go
def GT(m:Int):List (Nat × List V):=[(0,[.int .i64 m]),(1,gKw),(2,gPow),(7,[.ifc]),(8,[.ifc]),(9,Awq)]
variable {m:Int}
theorem Awr:(2,gPow)∈GT m:=by simp[GT]
theorem hEs:(7,[V.ifc])∈GT m:=by simp[GT]
theorem hEr:(8,[V.ifc])∈GT m:=by simp[GT]
theorem hKw:(1,gKw)∈GT m:=by simp[GT]
theorem Bjm(m:Int):(0,[V.int .i64 m])∈GT m:=by simp[GT]
noncomputable def tabL:List (Nat × AF):=[(3,af3),(5,af5),(6,af6),(7,af7),(8,af8),(9,af9),(10,af10),(12,af12),(13,af13),(14,af14),(15,af15),(16,af16),(17,af17),(18,af18),(19,af19),(20,af20),(21,af21),(22,af22),(23,af23),(24,af24),(25,af25),(26,af26),(27,af27),(35,af35),(36,af36),(37,af37),(38,af38),(39,af39),(40,af40),(41,af41),(42,af42),(43,af43),(44,af44),(45,af45),(46,af46),(47,af47),(48,af48),(49,af49),(50,af50),(51,af51),(52,af52),(53,af53),(54,af54),(55,af55),(58,af58),(65,af65),(66,af66),(67,af67),(68,af68),(69,af69),(70,af70),(71,af71),(74,af74),(75,af75),(76,af76),(77,af77),(78,af78),(79,af79),(80,af80),(81,af81),(82,af82),(83,af83),(84,af84),(96,af96),(110,af110),(111,af111),(112,af112),(113,af113),(114,af114),(115,af115),(116,af116),(117,af117),(118,af118),(119,af119),(122,af122),(123,af123),(124,af124),(125,af125),(126,af126),(127,af127),(128,af128),(129,af129),(130,af130),(131,af131),(132,af132),(133,af133),(134,af134),(135,af135),(137,af137),(151,af151),(152,af152),(157,af157),(158,af158),(159,af159),(160,af160),(161,af161),(162,af162),(163,af163),(164,af164),(165,af165),(166,af166),(168,af168),(169,af169),(178,af178),(179,af179),(184,af184),(185,af185),(186,af186),(187,af187),(188,af188),(189,af189),(190,af190),(191,af191),(192,af192),(195,af195),(196,af196),(202,af202),(203,af203),(204,af204),(205,af205),(206,af206),(207,af207),(208,af208),(209,af209),(212,af212),(219,af219),(220,af220),(228,af228),(234,af234),(240,af240),(241,af241),(243,af243),(244,af244),(245,af245),(246,af246),(247,af247)]
def prL:List (Nat × (List V->Option V)):=[(63,Ae6),(64,hpS),(72,Ws),(73,Oz),(109,R9),(136,Aae),(149,kwS),(150,Xc),(177,Xd),(194,W7)]
noncomputable def TT (f:Nat):Option AF:=tabL.lookup f
def PT(f:Nat):Option (List V->Option V):=prL.lookup f
theorem tG(k:Nat){F H:AF}(h:F=H)(h2:TT k=some F):TT k=some H:=h ▸ h2
def T3:=tG 3 (by simp only[go_sem,af3,Tryz.f3];rfl:af3=_) rfl
def T5:=tG 5 (by simp only[go_sem,af5,Tryz.f5];rfl:af5=_) rfl
def T6:=tG 6 (by simp only[go_sem,af6,Tryz.f6];rfl:af6=_) rfl
def T7:=tG 7 (by simp only[go_sem,af7,Tryz.f7];rfl:af7=_) rfl
def T8:=tG 8 (by simp only[go_sem,af8,Tryz.f8];rfl:af8=_) rfl
def T9:=tG 9 (by simp only[go_sem,af9,Tryz.f9];rfl:af9=_) rfl
def T10:=tG 10 (by simp only[go_sem,af10,Tryz.f10];rfl:af10=_) rfl
def T12:=tG 12 (by simp only[go_sem,af12,Tryz.f12];rfl:af12=_) rfl
def T13:=tG 13 (by simp only[go_sem,af13,Tryz.f13];rfl:af13=_) rfl
def T14:=tG 14 (by simp only[go_sem,af14,Tryz.f14];rfl:af14=_) rfl
def T15:=tG 15 (by simp only[go_sem,af15,Tryz.f15];rfl:af15=_) rfl
def T16:=tG 16 (by simp only[go_sem,af16,Tryz.f16];rfl:af16=_) rfl
def T17:=tG 17 (by simp only[go_sem,af17,Tryz.f17];rfl:af17=_) rfl
def T18:=tG 18 (by simp only[go_sem,af18,Tryz.f18];rfl:af18=_) rfl
def T19:=tG 19 (by simp only[go_sem,af19,Tryz.f19];rfl:af19=_) rfl
def T20:=tG 20 (by simp only[go_sem,af20,Tryz.f20];rfl:af20=_) rfl
def T21:=tG 21 (by simp only[go_sem,af21,Tryz.f21];rfl:af21=_) rfl
def T22:=tG 22 (by simp only[go_sem,af22,Tryz.f22];rfl:af22=_) rfl
theorem T23:TT 23=some af23:=by rfl
theorem T24:TT 24=some af24:=by rfl
def T25:=tG 25 (by simp only[go_sem,af25,Tryz.f25];rfl:af25=_) rfl
def T26:=tG 26 (by simp only[go_sem,af26,Tryz.f26];rfl:af26=_) rfl
def T27:=tG 27 (by simp only[go_sem,af27,Tryz.f27];rfl:af27=_) rfl
def T35:=tG 35 (by simp only[go_sem,af35,Tryz.f35];rfl:af35=_) rfl
def T36:=tG 36 (by simp only[go_sem,af36,Tryz.f36];rfl:af36=_) rfl
def T37:=tG 37 (by simp only[go_sem,af37,Tryz.f37];rfl:af37=_) rfl
def T38:=tG 38 (by simp only[go_sem,af38,Tryz.f38];rfl:af38=_) rfl
def T39:=tG 39 (by simp only[go_sem,af39,Tryz.f39];rfl:af39=_) rfl
def T40:=tG 40 (by simp only[go_sem,af40,Tryz.f40];rfl:af40=_) rfl
def T41:=tG 41 (by simp only[go_sem,af41,Tryz.f41];rfl:af41=_) rfl
def T42:=tG 42 (by simp only[go_sem,af42,Tryz.f42];rfl:af42=_) rfl
def T43:=tG 43 (by simp only[go_sem,af43,Tryz.f43];rfl:af43=_) rfl
def T44:=tG 44 (by simp only[go_sem,af44,Tryz.f44];rfl:af44=_) rfl
def T45:=tG 45 (by simp only[go_sem,af45,Tryz.f45];rfl:af45=_) rfl
def T46:=tG 46 (by simp only[go_sem,af46,Tryz.f46];rfl:af46=_) rfl
def T47:=tG 47 (by simp only[go_sem,af47,Tryz.f47];rfl:af47=_) rfl
def T48:=tG 48 (by simp only[go_sem,af48,Tryz.f48];rfl:af48=_) rfl
def T49:=tG 49 (by simp only[go_sem,af49,Tryz.f49];rfl:af49=_) rfl
def T50:=tG 50 (by simp only[go_sem,af50,Tryz.f50];rfl:af50=_) rfl
def T51:=tG 51 (by simp only[go_sem,af51,Tryz.f51];rfl:af51=_) rfl
def T52:=tG 52 (by simp only[go_sem,af52,Tryz.f52];rfl:af52=_) rfl
def T53:=tG 53 (by simp only[go_sem,af53,Tryz.f53];rfl:af53=_) rfl
def T54:=tG 54 (by simp only[go_sem,af54,Tryz.f54];rfl:af54=_) rfl
def T55:=tG 55 (by simp only[go_sem,af55,Tryz.f55];rfl:af55=_) rfl
def T58:=tG 58 (by simp only[go_sem,af58,Tryz.f58];rfl:af58=_) rfl
def T65:=tG 65 (by simp only[go_sem,af65,Tryz.f65];rfl:af65=_) rfl
def T66:=tG 66 (by simp only[go_sem,af66,Tryz.f66];rfl:af66=_) rfl
def T67:=tG 67 (by simp only[go_sem,af67,Tryz.f67];rfl:af67=_) rfl
def T68:=tG 68 (by simp only[go_sem,af68,Tryz.f68];rfl:af68=_) rfl
def T69:=tG 69 (by simp only[go_sem,af69,Tryz.f69];rfl:af69=_) rfl
def T70:=tG 70 (by simp only[go_sem,af70,Tryz.f70];rfl:af70=_) rfl
def T71:=tG 71 (by simp only[go_sem,af71,Tryz.f71];rfl:af71=_) rfl
def T74:=tG 74 (by simp only[go_sem,af74,Tryz.f74];rfl:af74=_) rfl
def T75:=tG 75 (by simp only[go_sem,af75,Tryz.f75];rfl:af75=_) rfl
def T76:=tG 76 (by simp only[go_sem,af76,Tryz.f76];rfl:af76=_) rfl
def T77:=tG 77 (by simp only[go_sem,af77,Tryz.f77];rfl:af77=_) rfl
def T78:=tG 78 (by simp only[go_sem,af78,Tryz.f78];rfl:af78=_) rfl
def T79:=tG 79 (by simp only[go_sem,af79,Tryz.f79];rfl:af79=_) rfl
def T80:=tG 80 (by simp only[go_sem,af80,Tryz.f80];rfl:af80=_) rfl
def T81:=tG 81 (by simp only[go_sem,af81,Tryz.f81];rfl:af81=_) rfl
def T82:=tG 82 (by simp only[go_sem,af82,Tryz.f82];rfl:af82=_) rfl
def T83:=tG 83 (by simp only[go_sem,af83,Tryz.f83];rfl:af83=_) rfl
def T84:=tG 84 (by simp only[go_sem,af84,Tryz.f84];rfl:af84=_) rfl
def T96:=tG 96 (by simp only[go_sem,af96,Tryz.f96];rfl:af96=_) rfl
def T110:=tG 110 (by simp only[go_sem,af110,Tryz.f110];rfl:af110=_) rfl
def T111:=tG 111 (by simp only[go_sem,af111,Tryz.f111];rfl:af111=_) rfl
def T112:=tG 112 (by simp only[go_sem,af112,Tryz.f112];rfl:af112=_) rfl
def T113:=tG 113 (by simp only[go_sem,af113,Tryz.f113];rfl:af113=_) rfl
def T114:=tG 114 (by simp only[go_sem,af114,Tryz.f114];rfl:af114=_) rfl
def T115:=tG 115 (by simp only[go_sem,af115,Tryz.f115];rfl:af115=_) rfl
def T116:=tG 116 (by simp only[go_sem,af116,Tryz.f116];rfl:af116=_) rfl
def T117:=tG 117 (by simp only[go_sem,af117,Tryz.f117];rfl:af117=_) rfl
def T118:=tG 118 (by simp only[go_sem,af118,Tryz.f118];rfl:af118=_) rfl
def T119:=tG 119 (by simp only[go_sem,af119,Tryz.f119];rfl:af119=_) rfl
def T122:=tG 122 (by simp only[go_sem,af122,Tryz.f122];rfl:af122=_) rfl
def T123:=tG 123 (by simp only[go_sem,af123,Tryz.f123];rfl:af123=_) rfl
def T124:=tG 124 (by simp only[go_sem,af124,Tryz.f124];rfl:af124=_) rfl
def T125:=tG 125 (by simp only[go_sem,af125,Tryz.f125];rfl:af125=_) rfl
def T126:=tG 126 (by simp only[go_sem,af126,Tryz.f126];rfl:af126=_) rfl
def T127:=tG 127 (by simp only[go_sem,af127,Tryz.f127];rfl:af127=_) rfl
def T128:=tG 128 (by simp only[go_sem,af128,Tryz.f128];rfl:af128=_) rfl
def T129:=tG 129 (by simp only[go_sem,af129,Tryz.f129];rfl:af129=_) rfl
def T130:=tG 130 (by simp only[go_sem,af130,Tryz.f130];rfl:af130=_) rfl
def T131:=tG 131 (by simp only[go_sem,af131,Tryz.f131];rfl:af131=_) rfl
def T132:=tG 132 (by simp only[go_sem,af132,Tryz.f132];rfl:af132=_) rfl
def T133:=tG 133 (by simp only[go_sem,af133,Tryz.f133];rfl:af133=_) rfl
def T134:=tG 134 (by simp only[go_sem,af134,Tryz.f134];rfl:af134=_) rfl
def T135:=tG 135 (by simp only[go_sem,af135,Tryz.f135];rfl:af135=_) rfl
def T137:=tG 137 (by simp only[go_sem,af137,Tryz.f137];rfl:af137=_) rfl
def T151:=tG 151 (by simp only[go_sem,af151,Tryz.f151];rfl:af151=_) rfl
def T152:=tG 152 (by simp only[go_sem,af152,Tryz.f152];rfl:af152=_) rfl
def T157:=tG 157 (by simp only[go_sem,af157,Tryz.f157];rfl:af157=_) rfl
def T158:=tG 158 (by simp only[go_sem,af158,Tryz.f158];rfl:af158=_) rfl
def T159:=tG 159 (by simp only[go_sem,af159,Tryz.f159];rfl:af159=_) rfl
def T160:=tG 160 (by simp only[go_sem,af160,Tryz.f160];rfl:af160=_) rfl
def T161:=tG 161 (by simp only[go_sem,af161,Tryz.f161];rfl:af161=_) rfl
def T162:=tG 162 (by simp only[go_sem,af162,Tryz.f162];rfl:af162=_) rfl
def T163:=tG 163 (by simp only[go_sem,af163,Tryz.f163];rfl:af163=_) rfl
def T164:=tG 164 (by simp only[go_sem,af164,Tryz.f164];rfl:af164=_) rfl
def T165:=tG 165 (by simp only[go_sem,af165,Tryz.f165];rfl:af165=_) rfl
def T166:=tG 166 (by simp only[go_sem,af166,Tryz.f166];rfl:af166=_) rfl
def T168:=tG 168 (by simp only[go_sem,af168,Tryz.f168];rfl:af168=_) rfl
theorem T169:TT 169=some af169:=by rfl
def T178:=tG 178 (by simp only[go_sem,af178,Tryz.f178];rfl:af178=_) rfl
def T179:=tG 179 (by simp only[go_sem,af179,Tryz.f179];rfl:af179=_) rfl
def T184:=tG 184 (by simp only[go_sem,af184,Tryz.f184];rfl:af184=_) rfl
def T185:=tG 185 (by simp only[go_sem,af185,Tryz.f185];rfl:af185=_) rfl
def T186:=tG 186 (by simp only[go_sem,af186,Tryz.f186];rfl:af186=_) rfl
def T187:=tG 187 (by simp only[go_sem,af187,Tryz.f187];rfl:af187=_) rfl
def T188:=tG 188 (by simp only[go_sem,af188,Tryz.f188];rfl:af188=_) rfl
def T189:=tG 189 (by simp only[go_sem,af189,Tryz.f189];rfl:af189=_) rfl
def T190:=tG 190 (by simp only[go_sem,af190,Tryz.f190];rfl:af190=_) rfl
def T191:=tG 191 (by simp only[go_sem,af191,Tryz.f191];rfl:af191=_) rfl
def T192:=tG 192 (by simp only[go_sem,af192,Tryz.f192];rfl:af192=_) rfl
def T195:=tG 195 (by simp only[go_sem,af195,Tryz.f195];rfl:af195=_) rfl
def T196:=tG 196 (by simp only[go_sem,af196,Tryz.f196];rfl:af196=_) rfl
def T202:=tG 202 (by simp only[go_sem,af202,Tryz.f202];rfl:af202=_) rfl
def T203:=tG 203 (by simp only[go_sem,af203,Tryz.f203];rfl:af203=_) rfl
def T204:=tG 204 (by simp only[go_sem,af204,Tryz.f204];rfl:af204=_) rfl
def T205:=tG 205 (by simp only[go_sem,af205,Tryz.f205];rfl:af205=_) rfl
def T206:=tG 206 (by simp only[go_sem,af206,Tryz.f206];rfl:af206=_) rfl
def T207:=tG 207 (by simp only[go_sem,af207,Tryz.f207];rfl:af207=_) rfl
def T208:=tG 208 (by simp only[go_sem,af208,Tryz.f208];rfl:af208=_) rfl
def T209:=tG 209 (by simp only[go_sem,af209,Tryz.f209];rfl:af209=_) rfl
def T212:=tG 212 (by simp only[go_sem,af212,Tryz.f212];rfl:af212=_) rfl
theorem T219:TT 219=some af219:=by rfl
def T220:=tG 220 (by simp only[go_sem,af220,Tryz.f220];rfl:af220=_) rfl
def T228:=tG 228 (by simp only[go_sem,af228,Tryz.f228];rfl:af228=_) rfl
def T234:=tG 234 (by simp only[go_sem,af234,Tryz.f234];rfl:af234=_) rfl
def T240:=tG 240 (by simp only[go_sem,af240,Tryz.f240];rfl:af240=_) rfl
def T241:=tG 241 (by simp only[go_sem,af241,Tryz.f241];rfl:af241=_) rfl
def T243:=tG 243 (by simp only[go_sem,af243,Tryz.f243];rfl:af243=_) rfl
def T244:=tG 244 (by simp only[go_sem,af244,Tryz.f244];rfl:af244=_) rfl
def T245:=tG 245 (by simp only[go_sem,af245,Tryz.f245];rfl:af245=_) rfl
def T246:=tG 246 (by simp only[go_sem,af246,Tryz.f246];rfl:af246=_) rfl
def T247:=tG 247 (by simp only[go_sem,af247,Tryz.f247];rfl:af247=_) rfl
theorem P63:PT 63=some Ae6:=by rfl
theorem P64:PT 64=some hpS:=by rfl
theorem P72:PT 72=some Ws:=by rfl
theorem P73:PT 73=some Oz:=by rfl
theorem P109:PT 109=some R9:=by rfl
theorem P136:PT 136=some Aae:=by rfl
theorem P149:PT 149=some kwS:=by rfl
theorem P150:PT 150=some Xc:=by rfl
theorem P177:PT 177=some Xd:=by rfl
theorem P194:PT 194=some W7:=by rfl
noncomputable def okP (m:Int) (p:Nat × AF):Bool:=p.2.spec.isSome||Qi Tryz.prog (GT m) p.1 p.2
theorem Bjn:(tabL.drop 0 |>.take 8).all (okP m)=true:=by kernel_rfl
theorem Bjo:(tabL.drop 8 |>.take 8).all (okP m)=true:=by kernel_rfl
theorem Bjp:(tabL.drop 16 |>.take 8).all (okP m)=true:=by kernel_rfl
theorem Bjq:(tabL.drop 24 |>.take 8).all (okP m)=true:=by kernel_rfl
theorem Bjr:(tabL.drop 32 |>.take 8).all (okP m)=true:=by kernel_rfl
theorem Bjs:(tabL.drop 40 |>.take 8).all (okP m)=true:=by kernel_rfl
theorem Bjt:(tabL.drop 48 |>.take 8).all (okP m)=true:=by kernel_rfl
theorem Bju:(tabL.drop 56 |>.take 8).all (okP m)=true:=by kernel_rfl
theorem Bjv:(tabL.drop 64 |>.take 8).all (okP m)=true:=by kernel_rfl
theorem Bjw:(tabL.drop 72 |>.take 8).all (okP m)=true:=by kernel_rfl
theorem Bhy:(tabL.drop 80 |>.take 8).all (okP m)=true:=by kernel_rfl
theorem Bhz:(tabL.drop 88 |>.take 8).all (okP m)=true:=by kernel_rfl
theorem Bh0:(tabL.drop 96 |>.take 8).all (okP m)=true:=by kernel_rfl
theorem Bh1:(tabL.drop 104 |>.take 8).all (okP m)=true:=by kernel_rfl
theorem Bh2:(tabL.drop 112 |>.take 8).all (okP m)=true:=by kernel_rfl
theorem Bh3:(tabL.drop 120 |>.take 8).all (okP m)=true:=by kernel_rfl
theorem Bh4:(tabL.drop 128 |>.take 8).all (okP m)=true:=by kernel_rfl
theorem X1{α:Type}:∀ {l:List (Nat × α)} {f:Nat} {a:α},l.lookup f=some a->(f,a)∈l
 | [],_,_,h=>by cases h
 | (g,b)::l,f,a,h=>by
  rw[Aa8]at h
  split at h
  ·rename_i he
   cases h
   rw[eq_of_beq he]
   exact C5
  ·exact C4 _ (X1 h)
theorem Al2{α:Type}{p:α->Bool}(k:Nat):∀ (n:Nat) (l:List α),l.length<=n*k->(∀ i,i<n->((l.drop (i*k)).take k).all p=true)->∀ x∈l,p x=true
 | 0,l,hl,_,x,hx=>by
  have:l=[]:=Qp.1 (by omega)
  subst this
  cases hx
 | n+1,l,hl,h,x,hx=>by
  rw[<-Gq k l]at hx
  rcases B8.1 hx with hx | hx
  ·have h0:=h 0 (by omega)
   rw[Xx,I4]at h0
   exact Bp.1 h0 x hx
  ·refine Al2 k n (l.drop k) (by rw[D1];rw[Ep]at hl;omega) (fun i hi=>?_) x hx
   have:=h (i+1) (by omega)
   rwa [Pd,Abg,<-Ep]
theorem Bca:∀ x∈tabL,okP m x=true:=by
 refine Al2 8 17 tabL (of_decide_eq_true (by kernel_rfl)) fun i hi=>?_
 match i,hi with
 | 0,_=>exact Bjn
 | 1,_=>exact Bjo
 | 2,_=>exact Bjp
 | 3,_=>exact Bjq
 | 4,_=>exact Bjr
 | 5,_=>exact Bjs
 | 6,_=>exact Bjt
 | 7,_=>exact Bju
 | 8,_=>exact Bjv
 | 9,_=>exact Bjw
 | 10,_=>exact Bhy
 | 11,_=>exact Bhz
 | 12,_=>exact Bh0
 | 13,_=>exact Bh1
 | 14,_=>exact Bh2
 | 15,_=>exact Bh3
 | 16,_=>exact Bh4
 | i+17,h=>exact absurd h (by omega)
theorem hTT:∀ f F,TT f=some F->F.spec=none->Qi Tryz.prog (GT m) f F=true:=by
 intro f F h hs
 have hm:=Bca (m:=m) _ (X1 h)
 unfold okP at hm
 simp only[hs,Option.isSome_none,U6]at hm
 exact hm
theorem Bcb:tabL.filter (fun p=>p.2.spec.isSome)=[(23,af23),(24,af24),(169,af169),(219,af219)]:=by rfl
theorem hST:∀ f F s,TT f=some F->F.spec=some s->Rm Tryz.prog (GT m) f s:=by
 intro f F s h hs
 have hm:(f,F)∈tabL.filter (fun p=>p.2.spec.isSome):=Pc.2 ⟨X1 h,by simp[hs]⟩
 rw[Bcb]at hm
 simp only[Bj,Qs,or_false,Prod.mk.injEq]at hm
 rcases hm with⟨rfl,rfl⟩ | ⟨rfl,rfl⟩ | ⟨rfl,rfl⟩ | ⟨rfl,rfl⟩
 ·cases hs;exact Bbn
 ·cases hs;exact Bbo
 ·cases hs;exact Bbm
 ·cases hs;exact Bf2
theorem hPT:∀ f s,PT f=some s->Ir Tryz.prog (GT m) f s:=by
 intro f s h
 have hm:=X1 h
 simp only[prL,Bj,Qs,or_false,Prod.mk.injEq]at hm
 rcases hm with⟨rfl,rfl⟩ | ⟨rfl,rfl⟩ | ⟨rfl,rfl⟩ | ⟨rfl,rfl⟩ | ⟨rfl,rfl⟩ | ⟨rfl,rfl⟩ | ⟨rfl,rfl⟩ | ⟨rfl,rfl⟩ | ⟨rfl,rfl⟩ | ⟨rfl,rfl⟩
 ·exact Bbr
 ·exact Bf3
 ·exact A6z Awr
 ·exact Bbp Awr
 ·exact Bf4
 ·exact Bbs (Bjm m)
 ·exact Bga hKw
 ·exact Bf5
 ·exact Bf7 hEs hEr
 ·exact Bbq
theorem Qj:∀ f F,TT f=some F->F.spec=none->K9 F.body=true:=by
 intro f F h _
 have hm:=X1 h
 have hall:(tabL.all fun p=>K9 p.2.body)=true:=by kernel_rfl
 exact Bp.1 hall _ hm
