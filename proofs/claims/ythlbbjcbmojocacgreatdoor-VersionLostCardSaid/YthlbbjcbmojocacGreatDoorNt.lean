/- The plain machine's forms of the functions, printed by km_table.py. -/
import Derived.Test.YthlbbjcbmojocacGreatDoorNa
set_option linter.all false
set_option maxRecDepth 100000
set_option maxHeartbeats 4000000
namespace Go.Proofs.YthlbbjcbmojocacGreatDoor.KM
open Go
def Awq:List V:=[.str [],.int .i64 0,.str [],.int .i64 7,.str [],.int .i64 7,.str [],.int .i64 7,.str [45],.int .i64 6,.str [33],.int .i64 6,.str [43],.int .i64 4,.str [45],.int .i64 4,.str [42],.int .i64 5,.str [47],.int .i64 5,.str [37],.int .i64 5,.str [61,61],.int .i64 3,.str [33,61],.int .i64 3,.str [60],.int .i64 3,.str [60,61],.int .i64 3,.str [62],.int .i64 3,.str [62,61],.int .i64 3,.str [38,38],.int .i64 2,.str [124,124],.int .i64 1]
def yI(k:IntKind)(b:Nat):TyR:=⟨.i k,[.int k 0],1,true,b,true⟩
def yB:TyR:=⟨.b,[.bool false],1,true,1,true⟩
def yS:TyR:=⟨.s,[.str []],1,true,16,true⟩
def yL(e:Nat):TyR:=⟨.sl e,[.nils],1,true,24,false⟩
def yP(e:Nat):TyR:=⟨.pt e,[.nilp],1,true,8,false⟩
def yF:TyR:=⟨.f,[.nilf],1,true,8,false⟩
def yN:TyR:=⟨.it,[.nili],1,true,16,false⟩
def yM(e:Nat):TyR:=⟨.mp e,[.nils],1,true,8,false⟩
def ty:Nat->TyR
 | 2=>yI .i64 8
 | 3=>yI .i64 8
 | 4=>yB
 | 5=>yI .u8 1
 | 9=>yS
 | 22=>yL 5
 | 24=>⟨.st [(0,22),(1,22),(2,22),(3,4)],[.nils,.nils,.nils,.bool false],4,false,80,false⟩
 | 25=>yL 115
 | 26=>yL 86
 | 27=>yL 90
 | 29=>⟨.st [(0,26),(1,27)],[.nils,.nils],2,false,48,false⟩
 | 33=>yL 45
 | 35=>⟨.st [(0,3),(1,33)],[.int .i64 0,.nils],2,false,32,false⟩
 | 38=>yL 47
 | 41=>yI .i64 8
 | 45=>⟨.st [(0,3),(1,38),(2,3),(3,3)],[.int .i64 0,.nils,.int .i64 0,.int .i64 0],4,false,48,false⟩
 | 47=>⟨.st [(0,9),(1,9),(2,3)],[.str [],.str [],.int .i64 0],3,false,40,true⟩
 | 56=>yL 3
 | 75=>yL 130
 | 78=>yP 80
 | 80=>⟨.st [(0,75),(1,3)],[.nils,.int .i64 0],2,false,32,false⟩
 | 86=>⟨.st [(0,3),(1,3),(2,9),(3,3),(4,2),(5,9)],[.int .i64 0,.int .i64 0,.str [],.int .i64 0,.int .i64 0,.str []],6,false,64,true⟩
 | 87=>yL 9
 | 88=>yL 104
 | 90=>⟨.st [(0,9),(1,3),(2,87),(3,88)],[.str [],.int .i64 0,.nils,.nils],4,false,72,false⟩
 | 92=>yP 97
 | 93=>yP 95
 | 95=>⟨.st [(0,22),(1,3)],[.nils,.int .i64 0],2,false,32,false⟩
 | 97=>⟨.st [(0,93),(1,3),(2,3),(3,4),(4,4),(5,4),(6,4),(7,87)],[.nilp,.int .i64 0,.int .i64 0,.bool false,.bool false,.bool false,.bool false,.nils],8,false,56,false⟩
 | 100=>yL 102
 | 102=>⟨.st [(0,3),(1,2),(2,9),(3,100)],[.int .i64 0,.int .i64 0,.str [],.nils],4,false,56,false⟩
 | 104=>⟨.st [(0,3),(1,3),(2,9),(3,9),(4,100),(5,102),(9,88),(10,88)],[.int .i64 0,.int .i64 0,.str [],.str [],.nils,.int .i64 0,.int .i64 0,.str [],.nils,.nils,.nils],11,false,176,false⟩
 | 110=>yL 87
 | 113=>⟨.ar 4 5,[.int .u8 0,.int .u8 0,.int .u8 0,.int .u8 0],4,false,4,true⟩
 | 115=>⟨.st [(0,5),(1,5),(2,5),(3,113)],[.int .u8 0,.int .u8 0,.int .u8 0,.int .u8 0,.int .u8 0,.int .u8 0,.int .u8 0],7,false,7,true⟩
 | 125=>yM 3
 | 130=>⟨.st [(0,3),(1,9),(2,3)],[.int .i64 0,.str [],.int .i64 0],3,false,32,true⟩
 | 146=>yP 148
 | 148=>⟨.st [(0,29),(2,3),(3,88),(4,87),(5,87)],[.nils,.nils,.int .i64 0,.nils,.nils,.nils],6,false,128,false⟩
 | 151=>yL 56
 | 217=>yP 219
 | 219=>⟨.st [(0,217),(1,22)],[.nilp,.nils],2,false,32,false⟩
 | 234=>yN
 | 239=>yF
 | 296=>⟨.st [(0,9),(1,3)],[.str [],.int .i64 0],2,false,24,true⟩
 | 304=>⟨.ar 19 296,[.str [],.int .i64 0,.str [],.int .i64 0,.str [],.int .i64 0,.str [],.int .i64 0,.str [],.int .i64 0,.str [],.int .i64 0,.str [],.int .i64 0,.str [],.int .i64 0,.str [],.int .i64 0,.str [],.int .i64 0,.str [],.int .i64 0,.str [],.int .i64 0,.str [],.int .i64 0,.str [],.int .i64 0,.str [],.int .i64 0,.str [],.int .i64 0,.str [],.int .i64 0,.str [],.int .i64 0,.str [],.int .i64 0],38,false,456,true⟩
 | _=>yN
def glV:Nat->V
 | 9=>.imm Awq 0
 | _=>.und
def aF(w p:Nat)(h:Bool)(f:Func)(ls:List AC):AF:=rF ty glV (fun _=>w) p h f ls
def aL(w:Nat)(f:Func)(ls:List AC):AC:=Awn ty glV (fun _=>w) f ls
def tX{a b:AF}(_:a=b):AF:=b
attribute [go_sem] yI yB yS yL yP yF yN yM ty glV aF aL
/- interleave/interleavelaw41.VersionLost -/
noncomputable def af3:AF:=aF 0 3 false Tryz.f3 []
/- (interleave/interleavelaw41.Pair).versions -/
noncomputable def af5:AF:=aF 0 1 false Tryz.f5 []
/- interleave/interleavelaw41.awake -/
noncomputable def af6:AF:=aF 0 0 false Tryz.f6 []
/- interleave/interleavelaw41.stored -/
noncomputable def lp7_0:AC:=aL 0 Tryz.f7 []
def Bjg:=(by simp only[go_sem,lp7_0,Tryz.f7];rfl:lp7_0=_)
noncomputable def lp7_1:AC:=aL 0 Tryz.f7 [lp7_0]
def Bjh:=(by simp only[go_sem,lp7_1,Tryz.f7];rfl:lp7_1=_)
noncomputable def af7:AF:=aF 0 3 false Tryz.f7 [lp7_0,lp7_1]
/- interleave/interleaveref39.SameKeys -/
noncomputable def lp8_0:AC:=aL 0 Tryz.f8 []
def Bji:=(by simp only[go_sem,lp8_0,Tryz.f8];rfl:lp8_0=_)
noncomputable def af8:AF:=aF 0 2 false Tryz.f8 [lp8_0]
/- interleave/version.Lost -/
noncomputable def lp9_0:AC:=aL 0 Tryz.f9 []
def Bjj:=(by simp only[go_sem,lp9_0,Tryz.f9];rfl:lp9_0=_)
noncomputable def lp9_1:AC:=aL 0 Tryz.f9 [lp9_0]
def Bjk:=(by simp only[go_sem,lp9_1,Tryz.f9];rfl:lp9_1=_)
noncomputable def lp9_2:AC:=aL 0 Tryz.f9 [lp9_0,lp9_1]
def Bjl:=(by simp only[go_sem,lp9_2,Tryz.f9];rfl:lp9_2=_)
noncomputable def af9:AF:=aF 0 3 false Tryz.f9 [lp9_0,lp9_1,lp9_2]
/- interleave/interleaveref39.Lost -/
noncomputable def lp10_0:AC:=aL 0 Tryz.f10 []
def Bgb:=(by simp only[go_sem,lp10_0,Tryz.f10];rfl:lp10_0=_)
noncomputable def lp10_1:AC:=aL 0 Tryz.f10 [lp10_0]
def Bgc:=(by simp only[go_sem,lp10_1,Tryz.f10];rfl:lp10_1=_)
noncomputable def lp10_2:AC:=aL 0 Tryz.f10 [lp10_0,lp10_1]
def Bgd:=(by simp only[go_sem,lp10_2,Tryz.f10];rfl:lp10_2=_)
noncomputable def af10:AF:=aF 0 3 false Tryz.f10 [lp10_0,lp10_1,lp10_2]
/- interleave/baseline.Site -/
noncomputable def af12:AF:=aF 0 2 false Tryz.f12 []
/- interleave/interleaveref39.CompareEntries -/
noncomputable def lp13_0:AC:=aL 0 Tryz.f13 []
def Bge:=(by simp only[go_sem,lp13_0,Tryz.f13];rfl:lp13_0=_)
noncomputable def af13:AF:=aF 0 2 false Tryz.f13 [lp13_0]
/- interleave/parse.Parse -/
noncomputable def af14:AF:=aF 0 1 false Tryz.f14 []
/- interleave/interleaveref03.Program -/
noncomputable def lp15_0:AC:=aL 0 Tryz.f15 []
def Bgf:=(by simp only[go_sem,lp15_0,Tryz.f15];rfl:lp15_0=_)
noncomputable def lp15_1:AC:=aL 0 Tryz.f15 [lp15_0]
def Bgg:=(by simp only[go_sem,lp15_1,Tryz.f15];rfl:lp15_1=_)
noncomputable def lp15_2:AC:=aL 0 Tryz.f15 [lp15_0,lp15_1]
def Bgh:=(by simp only[go_sem,lp15_2,Tryz.f15];rfl:lp15_2=_)
noncomputable def af15:AF:=aF 0 1 false Tryz.f15 [lp15_0,lp15_1,lp15_2]
/- interleave/interleavemade.Program -/
noncomputable def lp16_0:AC:=aL 0 Tryz.f16 []
def Bgi:=(by simp only[go_sem,lp16_0,Tryz.f16];rfl:lp16_0=_)
noncomputable def lp16_1:AC:=aL 0 Tryz.f16 [lp16_0]
def Bgj:=(by simp only[go_sem,lp16_1,Tryz.f16];rfl:lp16_1=_)
noncomputable def af16:AF:=aF 0 1 false Tryz.f16 [lp16_0,lp16_1]
/- interleave/interleavescene.Edit -/
noncomputable def lp17_0:AC:=aL 0 Tryz.f17 []
def Bgk:=(by simp only[go_sem,lp17_0,Tryz.f17];rfl:lp17_0=_)
noncomputable def lp17_1:AC:=aL 0 Tryz.f17 [lp17_0]
def Bgl:=(by simp only[go_sem,lp17_1,Tryz.f17];rfl:lp17_1=_)
noncomputable def af17:AF:=aF 0 2 false Tryz.f17 [lp17_0,lp17_1]
/- interleave/interleaveref31.Same -/
noncomputable def lp18_0:AC:=aL 0 Tryz.f18 []
def Bgm:=(by simp only[go_sem,lp18_0,Tryz.f18];rfl:lp18_0=_)
noncomputable def af18:AF:=aF 0 2 false Tryz.f18 [lp18_0]
/- interleave/version.Match -/
noncomputable def lp19_0:AC:=aL 0 Tryz.f19 []
def Bgn:=(by simp only[go_sem,lp19_0,Tryz.f19];rfl:lp19_0=_)
noncomputable def lp19_1:AC:=aL 0 Tryz.f19 [lp19_0]
def Bgo:=(by simp only[go_sem,lp19_1,Tryz.f19];rfl:lp19_1=_)
noncomputable def lp19_2:AC:=aL 0 Tryz.f19 [lp19_0,lp19_1]
def Bgp:=(by simp only[go_sem,lp19_2,Tryz.f19];rfl:lp19_2=_)
noncomputable def af19:AF:=aF 0 2 false Tryz.f19 [lp19_0,lp19_1,lp19_2]
/- interleave/interleaveref39.Keys -/
noncomputable def lp20_0:AC:=aL 0 Tryz.f20 []
def Bgq:=(by simp only[go_sem,lp20_0,Tryz.f20];rfl:lp20_0=_)
noncomputable def lp20_1:AC:=aL 0 Tryz.f20 [lp20_0]
def Bgr:=(by simp only[go_sem,lp20_1,Tryz.f20];rfl:lp20_1=_)
noncomputable def lp20_2:AC:=aL 0 Tryz.f20 [lp20_0,lp20_1]
def Bgs:=(by simp only[go_sem,lp20_2,Tryz.f20];rfl:lp20_2=_)
noncomputable def af20:AF:=aF 0 1 false Tryz.f20 [lp20_0,lp20_1,lp20_2]
/- interleave/interleavescene.Entries -/
noncomputable def lp21_0:AC:=aL 0 Tryz.f21 []
def Bgt:=(by simp only[go_sem,lp21_0,Tryz.f21];rfl:lp21_0=_)
noncomputable def lp21_1:AC:=aL 0 Tryz.f21 [lp21_0]
def Bgu:=(by simp only[go_sem,lp21_1,Tryz.f21];rfl:lp21_1=_)
noncomputable def af21:AF:=aF 0 1 false Tryz.f21 [lp21_0,lp21_1]
/- interleave/interleaveref39.Insert -/
noncomputable def af22:AF:=aF 0 2 false Tryz.f22 []
def af23:AF:=⟨1,[],true,.skip,some (Aac)⟩
def af24:AF:=⟨1,[],true,.skip,some (Aad)⟩
/- interleave/baseline.Key -/
noncomputable def af25:AF:=aF 0 2 false Tryz.f25 []
/- interleave/interleaveref39.Match -/
noncomputable def lp26_0:AC:=aL 0 Tryz.f26 []
def Bgv:=(by simp only[go_sem,lp26_0,Tryz.f26];rfl:lp26_0=_)
noncomputable def lp26_1:AC:=aL 0 Tryz.f26 [lp26_0]
def Bgw:=(by simp only[go_sem,lp26_1,Tryz.f26];rfl:lp26_1=_)
noncomputable def lp26_2:AC:=aL 0 Tryz.f26 [lp26_0,lp26_1]
def Bgx:=(by simp only[go_sem,lp26_2,Tryz.f26];rfl:lp26_2=_)
noncomputable def lp26_3:AC:=aL 0 Tryz.f26 [lp26_0,lp26_1,lp26_2]
def Bgy:=(by simp only[go_sem,lp26_3,Tryz.f26];rfl:lp26_3=_)
noncomputable def af26:AF:=aF 0 2 false Tryz.f26 [lp26_0,lp26_1,lp26_2,lp26_3]
/- interleave/interleaveref39.SiteOf -/
noncomputable def lp27_0:AC:=aL 0 Tryz.f27 []
def Bgz:=(by simp only[go_sem,lp27_0,Tryz.f27];rfl:lp27_0=_)
noncomputable def af27:AF:=aF 0 2 false Tryz.f27 [lp27_0]
/- slices.Index[[]interleave/api.SiteKey,interleave/api.SiteKey] -/
noncomputable def lp35_0:AC:=aL 0 Tryz.f35 []
def Bg0:=(by simp only[go_sem,lp35_0,Tryz.f35];rfl:lp35_0=_)
noncomputable def af35:AF:=aF 0 2 false Tryz.f35 [lp35_0]
/- interleave/baseline.keys -/
noncomputable def lp36_0:AC:=aL 0 Tryz.f36 []
def Bg1:=(by simp only[go_sem,lp36_0,Tryz.f36];rfl:lp36_0=_)
noncomputable def lp36_1:AC:=aL 0 Tryz.f36 [lp36_0]
def Bg2:=(by simp only[go_sem,lp36_1,Tryz.f36];rfl:lp36_1=_)
noncomputable def af36:AF:=aF 0 1 false Tryz.f36 [lp36_0,lp36_1]
/- interleave/interleaveref39.Compare -/
noncomputable def lp37_0:AC:=aL 0 Tryz.f37 []
def Avj:=(by simp only[go_sem,lp37_0,Tryz.f37];rfl:lp37_0=_)
noncomputable def af37:AF:=aF 0 2 false Tryz.f37 [lp37_0]
/- interleave/interleaveref39.CompareKeys -/
noncomputable def af38:AF:=aF 0 2 false Tryz.f38 []
/- interleave/token.Scan -/
noncomputable def lp39_0:AC:=aL 0 Tryz.f39 []
def Bg3:=(by simp only[go_sem,lp39_0,Tryz.f39];rfl:lp39_0=_)
noncomputable def af39:AF:=aF 0 1 false Tryz.f39 [lp39_0]
/- (*interleave/parse.reader).program -/
noncomputable def lp40_0:AC:=aL 0 Tryz.f40 []
def Bg4:=(by simp only[go_sem,lp40_0,Tryz.f40];rfl:lp40_0=_)
noncomputable def lp40_1:AC:=aL 0 Tryz.f40 [lp40_0]
def Bg5:=(by simp only[go_sem,lp40_1,Tryz.f40];rfl:lp40_1=_)
noncomputable def af40:AF:=aF 0 1 true Tryz.f40 [lp40_0,lp40_1]
/- (*interleave/parse.reader).line -/
noncomputable def af41:AF:=aF 0 1 true Tryz.f41 []
/- interleave/interleaveref03.decl -/
noncomputable def af42:AF:=aF 0 1 false Tryz.f42 []
/- interleave/interleaveref03.stmts -/
noncomputable def lp43_0:AC:=aL 0 Tryz.f43 []
def Bg6:=(by simp only[go_sem,lp43_0,Tryz.f43];rfl:lp43_0=_)
noncomputable def af43:AF:=aF 0 2 false Tryz.f43 [lp43_0]
/- interleave/interleavemade.decls -/
noncomputable def af44:AF:=aF 2 0 false Tryz.f44 []
/- (*interleave/interleavemade.Tape).Next -/
noncomputable def af45:AF:=aF 0 2 true Tryz.f45 []
/- (*interleave/interleavemade.maker).stmts -/
noncomputable def lp46_0:AC:=aL 0 Tryz.f46 []
def Bg7:=(by simp only[go_sem,lp46_0,Tryz.f46];rfl:lp46_0=_)
noncomputable def af46:AF:=aF 0 3 true Tryz.f46 [lp46_0]
/- interleave/interleaveref04.Program -/
noncomputable def lp47_0:AC:=aL 0 Tryz.f47 []
def Bg8:=(by simp only[go_sem,lp47_0,Tryz.f47];rfl:lp47_0=_)
noncomputable def lp47_1:AC:=aL 0 Tryz.f47 [lp47_0]
def Bg9:=(by simp only[go_sem,lp47_1,Tryz.f47];rfl:lp47_1=_)
noncomputable def af47:AF:=aF 0 1 false Tryz.f47 [lp47_0,lp47_1]
/- interleave/interleavemade.assign -/
noncomputable def af48:AF:=aF 0 2 false Tryz.f48 []
/- interleave/interleavemade.num -/
noncomputable def af49:AF:=aF 0 1 false Tryz.f49 []
/- interleave/baseline.Lines -/
noncomputable def lp50_0:AC:=aL 0 Tryz.f50 []
def Bha:=(by simp only[go_sem,lp50_0,Tryz.f50];rfl:lp50_0=_)
noncomputable def af50:AF:=aF 0 1 false Tryz.f50 [lp50_0]
/- interleave/version.align -/
noncomputable def lp51_0:AC:=aL 0 Tryz.f51 []
def Bhb:=(by simp only[go_sem,lp51_0,Tryz.f51];rfl:lp51_0=_)
noncomputable def lp51_1:AC:=aL 0 Tryz.f51 [lp51_0]
def Bhc:=(by simp only[go_sem,lp51_1,Tryz.f51];rfl:lp51_1=_)
noncomputable def af51:AF:=aF 0 2 false Tryz.f51 [lp51_0,lp51_1]
/- interleave/interleaveref39.Lines -/
noncomputable def lp52_0:AC:=aL 0 Tryz.f52 []
def Bhd:=(by simp only[go_sem,lp52_0,Tryz.f52];rfl:lp52_0=_)
noncomputable def af52:AF:=aF 0 1 false Tryz.f52 [lp52_0]
/- interleave/interleavescene.key -/
noncomputable def af53:AF:=aF 0 1 false Tryz.f53 []
/- interleave/interleaveref39.place -/
noncomputable def lp54_0:AC:=aL 0 Tryz.f54 []
def Bhe:=(by simp only[go_sem,lp54_0,Tryz.f54];rfl:lp54_0=_)
noncomputable def af54:AF:=aF 0 2 false Tryz.f54 [lp54_0]
/- interleave/interleaveref39.put -/
noncomputable def af55:AF:=aF 2 3 false Tryz.f55 []
/- interleave/interleaveref39.pair -/
noncomputable def lp58_0:AC:=aL 0 Tryz.f58 []
def Bhf:=(by simp only[go_sem,lp58_0,Tryz.f58];rfl:lp58_0=_)
noncomputable def lp58_1:AC:=aL 0 Tryz.f58 [lp58_0]
def Bhg:=(by simp only[go_sem,lp58_1,Tryz.f58];rfl:lp58_1=_)
noncomputable def af58:AF:=aF 0 2 false Tryz.f58 [lp58_0,lp58_1]
/- interleave/token.comment -/
noncomputable def af65:AF:=aF 0 1 false Tryz.f65 []
/- interleave/token.first -/
noncomputable def af66:AF:=aF 0 1 false Tryz.f66 []
/- (*interleave/parse.reader).next -/
noncomputable def af67:AF:=aF 0 1 true Tryz.f67 []
/- interleave/parse.declared -/
noncomputable def af68:AF:=aF 0 1 false Tryz.f68 []
/- (*interleave/parse.reader).declaration -/
noncomputable def af69:AF:=aF 0 1 true Tryz.f69 []
/- (*interleave/parse.reader).at -/
noncomputable def af70:AF:=aF 0 2 true Tryz.f70 []
/- (*interleave/parse.reader).thread -/
noncomputable def lp71_0:AC:=aL 0 Tryz.f71 []
def Bhh:=(by simp only[go_sem,lp71_0,Tryz.f71];rfl:lp71_0=_)
noncomputable def af71:AF:=aF 0 1 true Tryz.f71 [lp71_0]
/- interleave/interleaveref03.Stmt -/
noncomputable def af74:AF:=aF 0 2 false Tryz.f74 []
/- (*interleave/interleavemade.maker).stmt -/
noncomputable def af75:AF:=aF 0 2 true Tryz.f75 []
/- interleave/interleaveref02.Shaped -/
noncomputable def lp76_0:AC:=aL 0 Tryz.f76 []
def Bhi:=(by simp only[go_sem,lp76_0,Tryz.f76];rfl:lp76_0=_)
noncomputable def lp76_1:AC:=aL 0 Tryz.f76 [lp76_0]
def Bhj:=(by simp only[go_sem,lp76_1,Tryz.f76];rfl:lp76_1=_)
noncomputable def lp76_2:AC:=aL 0 Tryz.f76 [lp76_0,lp76_1]
def Bhk:=(by simp only[go_sem,lp76_2,Tryz.f76];rfl:lp76_2=_)
noncomputable def af76:AF:=aF 0 1 false Tryz.f76 [lp76_0,lp76_1,lp76_2]
/- interleave/interleaveref04.decls -/
noncomputable def lp77_0:AC:=aL 0 Tryz.f77 []
def Bhl:=(by simp only[go_sem,lp77_0,Tryz.f77];rfl:lp77_0=_)
noncomputable def af77:AF:=aF 0 1 false Tryz.f77 [lp77_0]
/- interleave/interleaveref04.threads -/
noncomputable def lp78_0:AC:=aL 0 Tryz.f78 []
def Bhm:=(by simp only[go_sem,lp78_0,Tryz.f78];rfl:lp78_0=_)
noncomputable def lp78_1:AC:=aL 0 Tryz.f78 [lp78_0]
def Bhn:=(by simp only[go_sem,lp78_1,Tryz.f78];rfl:lp78_1=_)
noncomputable def lp78_2:AC:=aL 0 Tryz.f78 [lp78_0,lp78_1]
def Bho:=(by simp only[go_sem,lp78_2,Tryz.f78];rfl:lp78_2=_)
noncomputable def af78:AF:=aF 0 1 false Tryz.f78 [lp78_0,lp78_1,lp78_2]
/- interleave/interleaveref04.Count -/
noncomputable def lp79_0:AC:=aL 0 Tryz.f79 []
def Bhp:=(by simp only[go_sem,lp79_0,Tryz.f79];rfl:lp79_0=_)
noncomputable def af79:AF:=aF 0 1 false Tryz.f79 [lp79_0]
/- (*interleave/interleaveref04.walk).all -/
noncomputable def lp80_0:AC:=aL 0 Tryz.f80 []
def Bhq:=(by simp only[go_sem,lp80_0,Tryz.f80];rfl:lp80_0=_)
noncomputable def af80:AF:=aF 0 2 true Tryz.f80 [lp80_0]
/- interleave/baseline.appendLines -/
noncomputable def lp81_0:AC:=aL 0 Tryz.f81 []
def Bhr:=(by simp only[go_sem,lp81_0,Tryz.f81];rfl:lp81_0=_)
noncomputable def af81:AF:=aF 0 2 true Tryz.f81 [lp81_0]
/- interleave/version.common -/
noncomputable def lp82_0:AC:=aL 0 Tryz.f82 []
def Bhs:=(by simp only[go_sem,lp82_0,Tryz.f82];rfl:lp82_0=_)
noncomputable def lp82_1:AC:=aL 0 Tryz.f82 [lp82_0]
def Bht:=(by simp only[go_sem,lp82_1,Tryz.f82];rfl:lp82_1=_)
noncomputable def af82:AF:=aF 0 2 false Tryz.f82 [lp82_0,lp82_1]
/- interleave/interleaveref39.preorder -/
noncomputable def lp83_0:AC:=aL 0 Tryz.f83 []
def Bhu:=(by simp only[go_sem,lp83_0,Tryz.f83];rfl:lp83_0=_)
noncomputable def af83:AF:=aF 0 2 false Tryz.f83 [lp83_0]
/- interleave/interleaveref39.copied -/
noncomputable def af84:AF:=aF 0 1 false Tryz.f84 []
/- interleave/interleaveref39.common -/
noncomputable def lp96_0:AC:=aL 0 Tryz.f96 []
def Bhv:=(by simp only[go_sem,lp96_0,Tryz.f96];rfl:lp96_0=_)
noncomputable def lp96_1:AC:=aL 0 Tryz.f96 [lp96_0]
def Bhw:=(by simp only[go_sem,lp96_1,Tryz.f96];rfl:lp96_1=_)
noncomputable def lp96_2:AC:=aL 0 Tryz.f96 [lp96_0,lp96_1]
def Bhx:=(by simp only[go_sem,lp96_2,Tryz.f96];rfl:lp96_2=_)
noncomputable def af96:AF:=aF 0 2 false Tryz.f96 [lp96_0,lp96_1,lp96_2]
/- interleave/token.isLetter -/
noncomputable def af110:AF:=aF 0 1 false Tryz.f110 []
/- interleave/token.word -/
noncomputable def lp111_0:AC:=aL 0 Tryz.f111 []
def Bbt:=(by simp only[go_sem,lp111_0,Tryz.f111];rfl:lp111_0=_)
noncomputable def af111:AF:=aF 0 1 false Tryz.f111 [lp111_0]
/- interleave/token.isDigit -/
noncomputable def af112:AF:=aF 0 1 false Tryz.f112 []
/- interleave/token.number -/
noncomputable def lp113_0:AC:=aL 0 Tryz.f113 []
def Bbu:=(by simp only[go_sem,lp113_0,Tryz.f113];rfl:lp113_0=_)
noncomputable def af113:AF:=aF 0 1 false Tryz.f113 [lp113_0]
/- interleave/token.sign -/
noncomputable def af114:AF:=aF 0 1 false Tryz.f114 []
/- (*interleave/parse.reader).name -/
noncomputable def af115:AF:=aF 0 1 true Tryz.f115 []
/- (*interleave/parse.reader).size -/
noncomputable def af116:AF:=aF 0 2 true Tryz.f116 []
/- (*interleave/parse.reader).initial -/
noncomputable def af117:AF:=aF 0 2 true Tryz.f117 []
/- (*interleave/parse.reader).accept -/
noncomputable def af118:AF:=aF 0 2 true Tryz.f118 []
/- (*interleave/parse.reader).block -/
noncomputable def lp119_0:AC:=aL 0 Tryz.f119 []
def Bbv:=(by simp only[go_sem,lp119_0,Tryz.f119];rfl:lp119_0=_)
noncomputable def af119:AF:=aF 0 1 true Tryz.f119 [lp119_0]
/- interleave/interleaveref03.indent -/
noncomputable def lp122_0:AC:=aL 0 Tryz.f122 []
def Bbw:=(by simp only[go_sem,lp122_0,Tryz.f122];rfl:lp122_0=_)
noncomputable def af122:AF:=aF 0 1 false Tryz.f122 [lp122_0]
/- interleave/interleaveref03.head -/
noncomputable def af123:AF:=aF 0 1 false Tryz.f123 []
/- (*interleave/interleavemade.maker).expr -/
noncomputable def af124:AF:=aF 0 2 true Tryz.f124 []
/- interleave/interleavemade.binary -/
noncomputable def af125:AF:=aF 0 3 false Tryz.f125 []
/- interleave/interleavemade.name -/
noncomputable def af126:AF:=aF 0 1 false Tryz.f126 []
/- (*interleave/interleavemade.maker).holds -/
noncomputable def af127:AF:=aF 0 2 true Tryz.f127 []
/- (*interleave/interleavemade.maker).block -/
noncomputable def af128:AF:=aF 0 3 true Tryz.f128 []
/- interleave/interleaveref02.shapedDecl -/
noncomputable def af129:AF:=aF 0 1 false Tryz.f129 []
/- interleave/interleaveref01.IsName -/
noncomputable def lp130_0:AC:=aL 0 Tryz.f130 []
def Bbx:=(by simp only[go_sem,lp130_0,Tryz.f130];rfl:lp130_0=_)
noncomputable def af130:AF:=aF 0 1 false Tryz.f130 [lp130_0]
/- interleave/interleaveref02.ShapedStmts -/
noncomputable def lp131_0:AC:=aL 0 Tryz.f131 []
def Bby:=(by simp only[go_sem,lp131_0,Tryz.f131];rfl:lp131_0=_)
noncomputable def af131:AF:=aF 0 1 false Tryz.f131 [lp131_0]
/- interleave/interleaveref04.DeclAt -/
noncomputable def lp132_0:AC:=aL 0 Tryz.f132 []
def Bbz:=(by simp only[go_sem,lp132_0,Tryz.f132];rfl:lp132_0=_)
noncomputable def af132:AF:=aF 0 2 false Tryz.f132 [lp132_0]
/- interleave/interleaveref04.ThreadAt -/
noncomputable def lp133_0:AC:=aL 0 Tryz.f133 []
def Bb0:=(by simp only[go_sem,lp133_0,Tryz.f133];rfl:lp133_0=_)
noncomputable def af133:AF:=aF 0 2 false Tryz.f133 [lp133_0]
/- interleave/interleaveref04.At -/
noncomputable def lp134_0:AC:=aL 0 Tryz.f134 []
def Bb1:=(by simp only[go_sem,lp134_0,Tryz.f134];rfl:lp134_0=_)
noncomputable def af134:AF:=aF 0 2 false Tryz.f134 [lp134_0]
/- (*interleave/interleaveref04.walk).one -/
noncomputable def af135:AF:=aF 0 2 true Tryz.f135 []
/- interleave/format.Stmt -/
noncomputable def af137:AF:=aF 0 2 false Tryz.f137 []
/- (*interleave/parse.reader).number -/
noncomputable def af151:AF:=aF 0 1 true Tryz.f151 []
/- (*interleave/parse.reader).statement -/
noncomputable def af152:AF:=aF 0 1 true Tryz.f152 []
/- interleave/interleaveref03.Expr -/
noncomputable def af157:AF:=aF 0 1 false Tryz.f157 []
/- interleave/interleaveref01.Letter -/
noncomputable def af158:AF:=aF 0 1 false Tryz.f158 []
/- interleave/interleaveref01.IsKeyword -/
noncomputable def lp159_0:AC:=aL 0 Tryz.f159 []
def Bb2:=(by simp only[go_sem,lp159_0,Tryz.f159];rfl:lp159_0=_)
noncomputable def af159:AF:=aF 0 1 false Tryz.f159 [lp159_0]
/- interleave/interleaveref01.inner -/
noncomputable def af160:AF:=aF 0 1 false Tryz.f160 []
/- interleave/interleaveref02.ShapedStmt -/
noncomputable def af161:AF:=aF 0 1 false Tryz.f161 []
/- (*interleave/interleaveref04.walk).inside -/
noncomputable def lp162_0:AC:=aL 0 Tryz.f162 []
def Bb3:=(by simp only[go_sem,lp162_0,Tryz.f162];rfl:lp162_0=_)
noncomputable def af162:AF:=aF 0 4 true Tryz.f162 [lp162_0]
/- interleave/interleaveref04.or -/
noncomputable def af163:AF:=aF 0 2 false Tryz.f163 []
/- interleave/interleaveref04.want -/
noncomputable def af164:AF:=aF 0 5 false Tryz.f164 []
/- interleave/interleaveref04.Expr -/
noncomputable def af165:AF:=aF 0 3 false Tryz.f165 []
/- interleave/interleaveref04.nesting -/
noncomputable def af166:AF:=aF 0 1 false Tryz.f166 []
/- interleave/format.writeStmt -/
noncomputable def lp168_0:AC:=aL 0 Tryz.f168 []
def Bb4:=(by simp only[go_sem,lp168_0,Tryz.f168];rfl:lp168_0=_)
noncomputable def lp168_1:AC:=aL 0 Tryz.f168 [lp168_0]
def Bb5:=(by simp only[go_sem,lp168_1,Tryz.f168];rfl:lp168_1=_)
noncomputable def af168:AF:=aF 0 3 true Tryz.f168 [lp168_0,lp168_1]
def af169:AF:=⟨1,[],true,.skip,some (Un 219 5)⟩
/- (*interleave/parse.reader).assignment -/
noncomputable def af178:AF:=aF 0 2 true Tryz.f178 []
/- interleave/parse.rest -/
noncomputable def af179:AF:=aF 0 1 false Tryz.f179 []
/- interleave/interleaveref03.sign -/
noncomputable def af184:AF:=aF 0 1 false Tryz.f184 []
/- interleave/interleaveref03.put -/
noncomputable def af185:AF:=aF 0 2 false Tryz.f185 []
/- interleave/interleaveref01.Keywords -/
noncomputable def af186:AF:=aF 0 0 false Tryz.f186 []
/- interleave/interleaveref01.Digit -/
noncomputable def af187:AF:=aF 0 1 false Tryz.f187 []
/- interleave/interleaveref02.ShapedExpr -/
noncomputable def lp188_0:AC:=aL 0 Tryz.f188 []
def Bb6:=(by simp only[go_sem,lp188_0,Tryz.f188];rfl:lp188_0=_)
noncomputable def af188:AF:=aF 0 1 false Tryz.f188 [lp188_0]
/- interleave/interleaveref02.blank -/
noncomputable def af189:AF:=aF 0 1 false Tryz.f189 []
/- interleave/interleaveref04.KindOf -/
noncomputable def af190:AF:=aF 0 3 false Tryz.f190 []
/- interleave/interleaveref04.Nodes -/
noncomputable def lp191_0:AC:=aL 0 Tryz.f191 []
def Bb7:=(by simp only[go_sem,lp191_0,Tryz.f191];rfl:lp191_0=_)
noncomputable def af191:AF:=aF 0 1 false Tryz.f191 [lp191_0]
/- interleave/interleaveref04.names -/
noncomputable def lp192_0:AC:=aL 0 Tryz.f192 []
def Bb8:=(by simp only[go_sem,lp192_0,Tryz.f192];rfl:lp192_0=_)
noncomputable def af192:AF:=aF 0 3 false Tryz.f192 [lp192_0]
/- (*strings.Builder).WriteString -/
noncomputable def af195:AF:=aF 0 2 true Tryz.f195 []
/- interleave/format.heading -/
noncomputable def af196:AF:=aF 0 1 false Tryz.f196 []
/- (*interleave/parse.reader).expr -/
noncomputable def af202:AF:=aF 0 1 true Tryz.f202 []
/- (*interleave/parse.reader).conditional -/
noncomputable def af203:AF:=aF 0 2 true Tryz.f203 []
/- (*interleave/parse.reader).loop -/
noncomputable def af204:AF:=aF 0 2 true Tryz.f204 []
/- (*interleave/parse.reader).namedBlock -/
noncomputable def af205:AF:=aF 0 2 true Tryz.f205 []
/- (*interleave/parse.reader).plainBlock -/
noncomputable def af206:AF:=aF 0 2 true Tryz.f206 []
/- (*interleave/parse.reader).named -/
noncomputable def af207:AF:=aF 0 2 true Tryz.f207 []
/- (*interleave/parse.reader).setting -/
noncomputable def af208:AF:=aF 0 2 true Tryz.f208 []
/- (*interleave/parse.reader).getting -/
noncomputable def af209:AF:=aF 0 2 true Tryz.f209 []
/- interleave/interleaveref02.Operands -/
noncomputable def af212:AF:=aF 0 1 false Tryz.f212 []
def af219:AF:=⟨1,[],true,.skip,some (Xb 219)⟩
/- interleave/format.Expr -/
noncomputable def af220:AF:=aF 0 1 false Tryz.f220 []
/- (*interleave/parse.reader).binary -/
noncomputable def lp228_0:AC:=aL 0 Tryz.f228 []
def Bb9:=(by simp only[go_sem,lp228_0,Tryz.f228];rfl:lp228_0=_)
noncomputable def af228:AF:=aF 0 2 true Tryz.f228 [lp228_0]
/- interleave/format.writeExpr -/
noncomputable def af234:AF:=aF 0 2 true Tryz.f234 []
/- (*interleave/parse.reader).unary -/
noncomputable def af240:AF:=aF 0 1 true Tryz.f240 []
noncomputable def b240:AF:=tX (by simp only[go_sem,af240,Tryz.f240];rfl:af240=_)
/- (*interleave/parse.reader).operator -/
noncomputable def af241:AF:=aF 0 2 true Tryz.f241 []
/- interleave/format.operatorOf -/
noncomputable def af243:AF:=aF 0 1 false Tryz.f243 []
/- interleave/format.writeOperand -/
noncomputable def af244:AF:=aF 0 3 true Tryz.f244 []
/- interleave/format.operand -/
noncomputable def af245:AF:=aF 0 2 false Tryz.f245 []
/- (*interleave/parse.reader).primary -/
noncomputable def af246:AF:=aF 0 1 true Tryz.f246 []
/- interleave/parse.binaryOperator -/
noncomputable def af247:AF:=aF 0 1 false Tryz.f247 []
