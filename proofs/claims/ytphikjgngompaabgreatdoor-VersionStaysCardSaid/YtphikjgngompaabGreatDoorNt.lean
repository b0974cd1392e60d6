/- The plain machine's forms of the functions, printed by km_table.py. -/
import Derived.Test.YtphikjgngompaabGreatDoorRt
set_option linter.all false
set_option maxRecDepth 100000
set_option maxHeartbeats 4000000
namespace Go.Proofs.YtphikjgngompaabGreatDoor.KM
open Go
def A1w:List V:=[.str [],.int .i64 0,.str [],.int .i64 7,.str [],.int .i64 7,.str [],.int .i64 7,.str [45],.int .i64 6,.str [33],.int .i64 6,.str [43],.int .i64 4,.str [45],.int .i64 4,.str [42],.int .i64 5,.str [47],.int .i64 5,.str [37],.int .i64 5,.str [61,61],.int .i64 3,.str [33,61],.int .i64 3,.str [60],.int .i64 3,.str [60,61],.int .i64 3,.str [62],.int .i64 3,.str [62,61],.int .i64 3,.str [38,38],.int .i64 2,.str [124,124],.int .i64 1]
def yI(k:IntKind)(b:Nat):TyR:=⟨.i k,[.int k 0],1,true,b,true⟩
def yB:TyR:=⟨.b,[.bool false],1,true,1,true⟩
def yS:TyR:=⟨.s,[.str []],1,true,16,true⟩
def yL(e:Nat):TyR:=⟨.sl e,[.nils],1,true,24,false⟩
def yP(e:Nat):TyR:=⟨.pt e,[.nilp],1,true,8,false⟩
def yF:TyR:=⟨.f,[.nilf],1,true,8,false⟩
def yN:TyR:=⟨.it,[.nili],1,true,16,false⟩
def yM(e:Nat):TyR:=⟨.mp e,[.nils],1,true,8,false⟩
def ty:Nat->TyR
 | 2=>yI .i64 8
 | 3=>yI .i64 8
 | 4=>yB
 | 5=>yI .u8 1
 | 9=>yS
 | 22=>yL 5
 | 24=>⟨.st [(0,22),(1,22),(2,22),(3,4)],[.nils,.nils,.nils,.bool false],4,false,80,false⟩
 | 25=>yL 109
 | 26=>yL 80
 | 27=>yL 84
 | 29=>⟨.st [(0,26),(1,27)],[.nils,.nils],2,false,48,false⟩
 | 33=>yL 43
 | 35=>⟨.st [(0,3),(1,33)],[.int .i64 0,.nils],2,false,32,false⟩
 | 37=>yI .i64 8
 | 41=>yL 45
 | 43=>⟨.st [(0,3),(1,41),(2,3),(3,3)],[.int .i64 0,.nils,.int .i64 0,.int .i64 0],4,false,48,false⟩
 | 45=>⟨.st [(0,9),(1,9),(2,3)],[.str [],.str [],.int .i64 0],3,false,40,true⟩
 | 55=>yL 3
 | 65=>yF
 | 69=>yL 123
 | 72=>yP 74
 | 74=>⟨.st [(0,69),(1,3)],[.nils,.int .i64 0],2,false,32,false⟩
 | 80=>⟨.st [(0,3),(1,3),(2,9),(3,3),(4,2),(5,9)],[.int .i64 0,.int .i64 0,.str [],.int .i64 0,.int .i64 0,.str []],6,false,64,true⟩
 | 81=>yL 9
 | 82=>yL 98
 | 84=>⟨.st [(0,9),(1,3),(2,81),(3,82)],[.str [],.int .i64 0,.nils,.nils],4,false,72,false⟩
 | 86=>yP 91
 | 87=>yP 89
 | 89=>⟨.st [(0,22),(1,3)],[.nils,.int .i64 0],2,false,32,false⟩
 | 91=>⟨.st [(0,87),(1,3),(2,3),(3,4),(4,4),(5,4),(6,4),(7,81)],[.nilp,.int .i64 0,.int .i64 0,.bool false,.bool false,.bool false,.bool false,.nils],8,false,56,false⟩
 | 94=>yL 96
 | 96=>⟨.st [(0,3),(1,2),(2,9),(3,94)],[.int .i64 0,.int .i64 0,.str [],.nils],4,false,56,false⟩
 | 98=>⟨.st [(0,3),(1,3),(2,9),(3,9),(4,94),(5,96),(9,82),(10,82)],[.int .i64 0,.int .i64 0,.str [],.str [],.nils,.int .i64 0,.int .i64 0,.str [],.nils,.nils,.nils],11,false,176,false⟩
 | 104=>yL 81
 | 107=>⟨.ar 4 5,[.int .u8 0,.int .u8 0,.int .u8 0,.int .u8 0],4,false,4,true⟩
 | 109=>⟨.st [(0,5),(1,5),(2,5),(3,107)],[.int .u8 0,.int .u8 0,.int .u8 0,.int .u8 0,.int .u8 0,.int .u8 0,.int .u8 0],7,false,7,true⟩
 | 123=>⟨.st [(0,3),(1,9),(2,3)],[.int .i64 0,.str [],.int .i64 0],3,false,32,true⟩
 | 139=>yP 141
 | 141=>⟨.st [(0,29),(2,3),(3,82),(4,81),(5,81)],[.nils,.nils,.int .i64 0,.nils,.nils,.nils],6,false,128,false⟩
 | 144=>yL 55
 | 150=>yI .u64 8
 | 158=>yF
 | 179=>yM 3
 | 211=>yP 213
 | 213=>⟨.st [(0,211),(1,22)],[.nilp,.nils],2,false,32,false⟩
 | 231=>yN
 | 236=>yF
 | 296=>⟨.st [(0,9),(1,3)],[.str [],.int .i64 0],2,false,24,true⟩
 | 304=>⟨.ar 19 296,[.str [],.int .i64 0,.str [],.int .i64 0,.str [],.int .i64 0,.str [],.int .i64 0,.str [],.int .i64 0,.str [],.int .i64 0,.str [],.int .i64 0,.str [],.int .i64 0,.str [],.int .i64 0,.str [],.int .i64 0,.str [],.int .i64 0,.str [],.int .i64 0,.str [],.int .i64 0,.str [],.int .i64 0,.str [],.int .i64 0,.str [],.int .i64 0,.str [],.int .i64 0,.str [],.int .i64 0,.str [],.int .i64 0],38,false,456,true⟩
 | _=>yN
def glV:Nat->V
 | 9=>.imm A1w 0
 | _=>.und
def aF(w p:Nat)(h:Bool)(f:Func)(ls:List AC):AF:=rF ty glV (fun _=>w) p h f ls
def aL(w:Nat)(f:Func)(ls:List AC):AC:=A1u ty glV (fun _=>w) f ls
def tX{a b:AF}(_:a=b):AF:=b
attribute [go_sem] yI yB yS yL yP yF yN yM ty glV aF aL
/- interleave/interleavelaw41.VersionStays -/
noncomputable def lp3_0:AC:=aL 0 Tryz.f3 []
def Brs:=(by simp only[go_sem,lp3_0,Tryz.f3];rfl:lp3_0=_)
noncomputable def lp3_1:AC:=aL 0 Tryz.f3 [lp3_0]
def Brt:=(by simp only[go_sem,lp3_1,Tryz.f3];rfl:lp3_1=_)
noncomputable def af3:AF:=aF 0 3 false Tryz.f3 [lp3_0,lp3_1]
/- (interleave/interleavelaw41.Pair).versions -/
noncomputable def af4:AF:=aF 0 1 false Tryz.f4 []
/- interleave/interleavelaw41.awake -/
noncomputable def af5:AF:=aF 0 0 false Tryz.f5 []
/- interleave/interleavelaw41.stored -/
noncomputable def lp6_0:AC:=aL 0 Tryz.f6 []
def Bru:=(by simp only[go_sem,lp6_0,Tryz.f6];rfl:lp6_0=_)
noncomputable def lp6_1:AC:=aL 0 Tryz.f6 [lp6_0]
def Brv:=(by simp only[go_sem,lp6_1,Tryz.f6];rfl:lp6_1=_)
noncomputable def af6:AF:=aF 0 3 false Tryz.f6 [lp6_0,lp6_1]
/- interleave/version.Rebase -/
noncomputable def lp7_0:AC:=aL 0 Tryz.f7 []
def Brw:=(by simp only[go_sem,lp7_0,Tryz.f7];rfl:lp7_0=_)
noncomputable def af7:AF:=aF 0 3 false Tryz.f7 [lp7_0]
/- interleave/baseline.Valid -/
noncomputable def lp8_0:AC:=aL 0 Tryz.f8 []
def Brx:=(by simp only[go_sem,lp8_0,Tryz.f8];rfl:lp8_0=_)
noncomputable def af8:AF:=aF 0 1 false Tryz.f8 [lp8_0]
/- interleave/interleaveref39.SiteOf -/
noncomputable def lp9_0:AC:=aL 0 Tryz.f9 []
def Bry:=(by simp only[go_sem,lp9_0,Tryz.f9];rfl:lp9_0=_)
noncomputable def af9:AF:=aF 0 2 false Tryz.f9 [lp9_0]
/- interleave/interleaveref39.SameBaseline -/
noncomputable def af10:AF:=aF 0 2 false Tryz.f10 []
/- interleave/parse.Parse -/
noncomputable def af11:AF:=aF 0 1 false Tryz.f11 []
/- interleave/interleaveref03.Program -/
noncomputable def lp12_0:AC:=aL 0 Tryz.f12 []
def Boh:=(by simp only[go_sem,lp12_0,Tryz.f12];rfl:lp12_0=_)
noncomputable def lp12_1:AC:=aL 0 Tryz.f12 [lp12_0]
def Boi:=(by simp only[go_sem,lp12_1,Tryz.f12];rfl:lp12_1=_)
noncomputable def lp12_2:AC:=aL 0 Tryz.f12 [lp12_0,lp12_1]
def Boj:=(by simp only[go_sem,lp12_2,Tryz.f12];rfl:lp12_2=_)
noncomputable def af12:AF:=aF 0 1 false Tryz.f12 [lp12_0,lp12_1,lp12_2]
/- interleave/interleavemade.Program -/
noncomputable def lp13_0:AC:=aL 0 Tryz.f13 []
def Bok:=(by simp only[go_sem,lp13_0,Tryz.f13];rfl:lp13_0=_)
noncomputable def lp13_1:AC:=aL 0 Tryz.f13 [lp13_0]
def Bol:=(by simp only[go_sem,lp13_1,Tryz.f13];rfl:lp13_1=_)
noncomputable def af13:AF:=aF 0 1 false Tryz.f13 [lp13_0,lp13_1]
/- interleave/interleavescene.Edit -/
noncomputable def lp14_0:AC:=aL 0 Tryz.f14 []
def Bom:=(by simp only[go_sem,lp14_0,Tryz.f14];rfl:lp14_0=_)
noncomputable def lp14_1:AC:=aL 0 Tryz.f14 [lp14_0]
def Bon:=(by simp only[go_sem,lp14_1,Tryz.f14];rfl:lp14_1=_)
noncomputable def af14:AF:=aF 0 2 false Tryz.f14 [lp14_0,lp14_1]
/- interleave/interleaveref31.Same -/
noncomputable def lp15_0:AC:=aL 0 Tryz.f15 []
def Boo:=(by simp only[go_sem,lp15_0,Tryz.f15];rfl:lp15_0=_)
noncomputable def af15:AF:=aF 0 2 false Tryz.f15 [lp15_0]
/- interleave/version.Match -/
noncomputable def lp16_0:AC:=aL 0 Tryz.f16 []
def Bop:=(by simp only[go_sem,lp16_0,Tryz.f16];rfl:lp16_0=_)
noncomputable def lp16_1:AC:=aL 0 Tryz.f16 [lp16_0]
def Boq:=(by simp only[go_sem,lp16_1,Tryz.f16];rfl:lp16_1=_)
noncomputable def lp16_2:AC:=aL 0 Tryz.f16 [lp16_0,lp16_1]
def Bor:=(by simp only[go_sem,lp16_2,Tryz.f16];rfl:lp16_2=_)
noncomputable def af16:AF:=aF 0 2 false Tryz.f16 [lp16_0,lp16_1,lp16_2]
/- interleave/interleaveref39.Keys -/
noncomputable def lp17_0:AC:=aL 0 Tryz.f17 []
def Bos:=(by simp only[go_sem,lp17_0,Tryz.f17];rfl:lp17_0=_)
noncomputable def lp17_1:AC:=aL 0 Tryz.f17 [lp17_0]
def Bot:=(by simp only[go_sem,lp17_1,Tryz.f17];rfl:lp17_1=_)
noncomputable def lp17_2:AC:=aL 0 Tryz.f17 [lp17_0,lp17_1]
def Bou:=(by simp only[go_sem,lp17_2,Tryz.f17];rfl:lp17_2=_)
noncomputable def af17:AF:=aF 0 1 false Tryz.f17 [lp17_0,lp17_1,lp17_2]
/- interleave/interleavescene.Entries -/
noncomputable def lp18_0:AC:=aL 0 Tryz.f18 []
def Bov:=(by simp only[go_sem,lp18_0,Tryz.f18];rfl:lp18_0=_)
noncomputable def lp18_1:AC:=aL 0 Tryz.f18 [lp18_0]
def Bow:=(by simp only[go_sem,lp18_1,Tryz.f18];rfl:lp18_1=_)
noncomputable def af18:AF:=aF 0 1 false Tryz.f18 [lp18_0,lp18_1]
/- interleave/interleaveref39.Insert -/
noncomputable def af19:AF:=aF 0 2 false Tryz.f19 []
/- interleave/version.carry -/
noncomputable def lp20_0:AC:=aL 0 Tryz.f20 []
def Box:=(by simp only[go_sem,lp20_0,Tryz.f20];rfl:lp20_0=_)
noncomputable def lp20_1:AC:=aL 0 Tryz.f20 [lp20_0]
def Boy:=(by simp only[go_sem,lp20_1,Tryz.f20];rfl:lp20_1=_)
noncomputable def af20:AF:=aF 0 4 false Tryz.f20 [lp20_0,lp20_1]
/- slices.Clone[[]interleave/api.SiteKey,interleave/api.SiteKey] -/
noncomputable def af21:AF:=aF 0 1 false Tryz.f21 []
/- slices.SortStableFunc[[]interleave/api.Entry,interleave/api.Entry] -/
noncomputable def af22:AF:=aF 0 2 true Tryz.f22 []
/- interleave/version.Rebase$1 -/
noncomputable def af23:AF:=aF 0 2 false Tryz.f23 []
/- interleave/baseline.Less -/
noncomputable def af24:AF:=aF 0 2 false Tryz.f24 []
/- interleave/version.merged -/
noncomputable def lp25_0:AC:=aL 0 Tryz.f25 []
def Boz:=(by simp only[go_sem,lp25_0,Tryz.f25];rfl:lp25_0=_)
noncomputable def af25:AF:=aF 0 1 false Tryz.f25 [lp25_0]
/- interleave/baseline.validEntry -/
noncomputable def lp26_0:AC:=aL 0 Tryz.f26 []
def Bo0:=(by simp only[go_sem,lp26_0,Tryz.f26];rfl:lp26_0=_)
noncomputable def af26:AF:=aF 0 1 false Tryz.f26 [lp26_0]
noncomputable def b26:AF:=tX (by simp only[go_sem,af26,Tryz.f26];rfl:af26=_)
/- interleave/interleaveref39.SameEntries -/
noncomputable def lp27_0:AC:=aL 0 Tryz.f27 []
def Bo1:=(by simp only[go_sem,lp27_0,Tryz.f27];rfl:lp27_0=_)
noncomputable def af27:AF:=aF 0 2 false Tryz.f27 [lp27_0]
/- interleave/token.Scan -/
noncomputable def lp28_0:AC:=aL 0 Tryz.f28 []
def Bo2:=(by simp only[go_sem,lp28_0,Tryz.f28];rfl:lp28_0=_)
noncomputable def af28:AF:=aF 0 1 false Tryz.f28 [lp28_0]
/- (*interleave/parse.reader).program -/
noncomputable def lp29_0:AC:=aL 0 Tryz.f29 []
def Bo3:=(by simp only[go_sem,lp29_0,Tryz.f29];rfl:lp29_0=_)
noncomputable def lp29_1:AC:=aL 0 Tryz.f29 [lp29_0]
def Bo4:=(by simp only[go_sem,lp29_1,Tryz.f29];rfl:lp29_1=_)
noncomputable def af29:AF:=aF 0 1 true Tryz.f29 [lp29_0,lp29_1]
/- (*interleave/parse.reader).line -/
noncomputable def af30:AF:=aF 0 1 true Tryz.f30 []
/- interleave/interleaveref03.decl -/
noncomputable def af31:AF:=aF 0 1 false Tryz.f31 []
/- interleave/interleaveref03.stmts -/
noncomputable def lp32_0:AC:=aL 0 Tryz.f32 []
def Bo5:=(by simp only[go_sem,lp32_0,Tryz.f32];rfl:lp32_0=_)
noncomputable def af32:AF:=aF 0 2 false Tryz.f32 [lp32_0]
/- interleave/interleavemade.decls -/
noncomputable def af33:AF:=aF 2 0 false Tryz.f33 []
/- (*interleave/interleavemade.Tape).Next -/
noncomputable def af34:AF:=aF 0 2 true Tryz.f34 []
/- (*interleave/interleavemade.maker).stmts -/
noncomputable def lp35_0:AC:=aL 0 Tryz.f35 []
def Bo6:=(by simp only[go_sem,lp35_0,Tryz.f35];rfl:lp35_0=_)
noncomputable def af35:AF:=aF 0 3 true Tryz.f35 [lp35_0]
/- interleave/interleaveref04.Program -/
noncomputable def lp36_0:AC:=aL 0 Tryz.f36 []
def Bo7:=(by simp only[go_sem,lp36_0,Tryz.f36];rfl:lp36_0=_)
noncomputable def lp36_1:AC:=aL 0 Tryz.f36 [lp36_0]
def Bo8:=(by simp only[go_sem,lp36_1,Tryz.f36];rfl:lp36_1=_)
noncomputable def af36:AF:=aF 0 1 false Tryz.f36 [lp36_0,lp36_1]
/- interleave/interleavemade.assign -/
noncomputable def af37:AF:=aF 0 2 false Tryz.f37 []
/- interleave/interleavemade.num -/
noncomputable def af38:AF:=aF 0 1 false Tryz.f38 []
/- interleave/baseline.Lines -/
noncomputable def lp39_0:AC:=aL 0 Tryz.f39 []
def Bo9:=(by simp only[go_sem,lp39_0,Tryz.f39];rfl:lp39_0=_)
noncomputable def af39:AF:=aF 0 1 false Tryz.f39 [lp39_0]
/- interleave/version.align -/
noncomputable def lp40_0:AC:=aL 0 Tryz.f40 []
def Bpa:=(by simp only[go_sem,lp40_0,Tryz.f40];rfl:lp40_0=_)
noncomputable def lp40_1:AC:=aL 0 Tryz.f40 [lp40_0]
def Bpb:=(by simp only[go_sem,lp40_1,Tryz.f40];rfl:lp40_1=_)
noncomputable def af40:AF:=aF 0 2 false Tryz.f40 [lp40_0,lp40_1]
/- interleave/interleaveref39.Lines -/
noncomputable def lp41_0:AC:=aL 0 Tryz.f41 []
def Bpc:=(by simp only[go_sem,lp41_0,Tryz.f41];rfl:lp41_0=_)
noncomputable def af41:AF:=aF 0 1 false Tryz.f41 [lp41_0]
/- interleave/interleavescene.key -/
noncomputable def af42:AF:=aF 0 1 false Tryz.f42 []
/- interleave/interleaveref39.place -/
noncomputable def lp43_0:AC:=aL 0 Tryz.f43 []
def Bpd:=(by simp only[go_sem,lp43_0,Tryz.f43];rfl:lp43_0=_)
noncomputable def af43:AF:=aF 0 2 false Tryz.f43 [lp43_0]
/- interleave/interleaveref39.put -/
noncomputable def af44:AF:=aF 2 3 false Tryz.f44 []
/- interleave/baseline.Site -/
noncomputable def af45:AF:=aF 0 2 false Tryz.f45 []
def af46:AF:=⟨1,[],true,.skip,some (Acc)⟩
/- interleave/version.leastRotation -/
noncomputable def lp47_0:AC:=aL 0 Tryz.f47 []
def Bpe:=(by simp only[go_sem,lp47_0,Tryz.f47];rfl:lp47_0=_)
noncomputable def af47:AF:=aF 0 1 false Tryz.f47 [lp47_0]
/- interleave/baseline.Key -/
noncomputable def af48:AF:=aF 0 2 false Tryz.f48 []
/- slices.stableCmpFunc[interleave/api.Entry] -/
noncomputable def lp49_0:AC:=aL 0 Tryz.f49 []
def Ans:=(by simp only[go_sem,lp49_0,Tryz.f49];rfl:lp49_0=_)
noncomputable def lp49_1:AC:=aL 0 Tryz.f49 [lp49_0]
def Btb:=(by simp only[go_sem,lp49_1,Tryz.f49];rfl:lp49_1=_)
noncomputable def lp49_2:AC:=aL 0 Tryz.f49 [lp49_0,lp49_1]
def Ant:=(by simp only[go_sem,lp49_2,Tryz.f49];rfl:lp49_2=_)
noncomputable def af49:AF:=aF 0 3 true Tryz.f49 [lp49_0,lp49_1,lp49_2]
/- interleave/baseline.compare -/
noncomputable def af50:AF:=aF 0 2 false Tryz.f50 []
/- interleave/baseline.validKey -/
noncomputable def lp51_0:AC:=aL 0 Tryz.f51 []
def Bpf:=(by simp only[go_sem,lp51_0,Tryz.f51];rfl:lp51_0=_)
noncomputable def af51:AF:=aF 0 1 false Tryz.f51 [lp51_0]
/- interleave/interleaveref39.CompareEntries -/
noncomputable def lp52_0:AC:=aL 0 Tryz.f52 []
def Bpg:=(by simp only[go_sem,lp52_0,Tryz.f52];rfl:lp52_0=_)
noncomputable def af52:AF:=aF 0 2 false Tryz.f52 [lp52_0]
/- interleave/token.comment -/
noncomputable def af54:AF:=aF 0 1 false Tryz.f54 []
/- interleave/token.first -/
noncomputable def af55:AF:=aF 0 1 false Tryz.f55 []
/- (*interleave/parse.reader).next -/
noncomputable def af56:AF:=aF 0 1 true Tryz.f56 []
/- interleave/parse.declared -/
noncomputable def af57:AF:=aF 0 1 false Tryz.f57 []
/- (*interleave/parse.reader).declaration -/
noncomputable def af58:AF:=aF 0 1 true Tryz.f58 []
/- (*interleave/parse.reader).at -/
noncomputable def af59:AF:=aF 0 2 true Tryz.f59 []
/- (*interleave/parse.reader).thread -/
noncomputable def lp60_0:AC:=aL 0 Tryz.f60 []
def Bph:=(by simp only[go_sem,lp60_0,Tryz.f60];rfl:lp60_0=_)
noncomputable def af60:AF:=aF 0 1 true Tryz.f60 [lp60_0]
/- interleave/interleaveref03.Stmt -/
noncomputable def af63:AF:=aF 0 2 false Tryz.f63 []
/- (*interleave/interleavemade.maker).stmt -/
noncomputable def af64:AF:=aF 0 2 true Tryz.f64 []
/- interleave/interleaveref02.Shaped -/
noncomputable def lp65_0:AC:=aL 0 Tryz.f65 []
def Bpi:=(by simp only[go_sem,lp65_0,Tryz.f65];rfl:lp65_0=_)
noncomputable def lp65_1:AC:=aL 0 Tryz.f65 [lp65_0]
def Bpj:=(by simp only[go_sem,lp65_1,Tryz.f65];rfl:lp65_1=_)
noncomputable def lp65_2:AC:=aL 0 Tryz.f65 [lp65_0,lp65_1]
def Bpk:=(by simp only[go_sem,lp65_2,Tryz.f65];rfl:lp65_2=_)
noncomputable def af65:AF:=aF 0 1 false Tryz.f65 [lp65_0,lp65_1,lp65_2]
/- interleave/interleaveref04.decls -/
noncomputable def lp66_0:AC:=aL 0 Tryz.f66 []
def Bpl:=(by simp only[go_sem,lp66_0,Tryz.f66];rfl:lp66_0=_)
noncomputable def af66:AF:=aF 0 1 false Tryz.f66 [lp66_0]
/- interleave/interleaveref04.threads -/
noncomputable def lp67_0:AC:=aL 0 Tryz.f67 []
def Bpm:=(by simp only[go_sem,lp67_0,Tryz.f67];rfl:lp67_0=_)
noncomputable def lp67_1:AC:=aL 0 Tryz.f67 [lp67_0]
def Bpn:=(by simp only[go_sem,lp67_1,Tryz.f67];rfl:lp67_1=_)
noncomputable def lp67_2:AC:=aL 0 Tryz.f67 [lp67_0,lp67_1]
def Bpo:=(by simp only[go_sem,lp67_2,Tryz.f67];rfl:lp67_2=_)
noncomputable def af67:AF:=aF 0 1 false Tryz.f67 [lp67_0,lp67_1,lp67_2]
/- interleave/interleaveref04.Count -/
noncomputable def lp68_0:AC:=aL 0 Tryz.f68 []
def Bpp:=(by simp only[go_sem,lp68_0,Tryz.f68];rfl:lp68_0=_)
noncomputable def af68:AF:=aF 0 1 false Tryz.f68 [lp68_0]
/- (*interleave/interleaveref04.walk).all -/
noncomputable def lp69_0:AC:=aL 0 Tryz.f69 []
def Bpq:=(by simp only[go_sem,lp69_0,Tryz.f69];rfl:lp69_0=_)
noncomputable def af69:AF:=aF 0 2 true Tryz.f69 [lp69_0]
/- interleave/baseline.appendLines -/
noncomputable def lp70_0:AC:=aL 0 Tryz.f70 []
def Bpr:=(by simp only[go_sem,lp70_0,Tryz.f70];rfl:lp70_0=_)
noncomputable def af70:AF:=aF 0 2 true Tryz.f70 [lp70_0]
/- interleave/version.common -/
noncomputable def lp71_0:AC:=aL 0 Tryz.f71 []
def Bps:=(by simp only[go_sem,lp71_0,Tryz.f71];rfl:lp71_0=_)
noncomputable def lp71_1:AC:=aL 0 Tryz.f71 [lp71_0]
def Bpt:=(by simp only[go_sem,lp71_1,Tryz.f71];rfl:lp71_1=_)
noncomputable def af71:AF:=aF 0 2 false Tryz.f71 [lp71_0,lp71_1]
/- interleave/interleaveref39.preorder -/
noncomputable def lp72_0:AC:=aL 0 Tryz.f72 []
def Bpu:=(by simp only[go_sem,lp72_0,Tryz.f72];rfl:lp72_0=_)
noncomputable def af72:AF:=aF 0 2 false Tryz.f72 [lp72_0]
/- interleave/interleaveref39.copied -/
noncomputable def af73:AF:=aF 0 1 false Tryz.f73 []
/- slices.Index[[]interleave/api.SiteKey,interleave/api.SiteKey] -/
noncomputable def lp74_0:AC:=aL 0 Tryz.f74 []
def Bpv:=(by simp only[go_sem,lp74_0,Tryz.f74];rfl:lp74_0=_)
noncomputable def af74:AF:=aF 0 2 false Tryz.f74 [lp74_0]
/- interleave/baseline.keys -/
noncomputable def lp75_0:AC:=aL 0 Tryz.f75 []
def Bpw:=(by simp only[go_sem,lp75_0,Tryz.f75];rfl:lp75_0=_)
noncomputable def lp75_1:AC:=aL 0 Tryz.f75 [lp75_0]
def Bpx:=(by simp only[go_sem,lp75_1,Tryz.f75];rfl:lp75_1=_)
noncomputable def af75:AF:=aF 0 1 false Tryz.f75 [lp75_0,lp75_1]
/- slices.Clone[[]int,int] -/
noncomputable def af78:AF:=aF 0 1 false Tryz.f78 []
/- slices.Concat[[]int,int] -/
noncomputable def lp79_0:AC:=aL 0 Tryz.f79 []
def Anu:=(by simp only[go_sem,lp79_0,Tryz.f79];rfl:lp79_0=_)
noncomputable def lp79_1:AC:=aL 0 Tryz.f79 [lp79_0]
def Anv:=(by simp only[go_sem,lp79_1,Tryz.f79];rfl:lp79_1=_)
noncomputable def af79:AF:=aF 0 1 false Tryz.f79 [lp79_0,lp79_1]
/- slices.Compare[[]int,int] -/
noncomputable def lp80_0:AC:=aL 0 Tryz.f80 []
def Bpy:=(by simp only[go_sem,lp80_0,Tryz.f80];rfl:lp80_0=_)
noncomputable def af80:AF:=aF 0 2 false Tryz.f80 [lp80_0]
/- slices.insertionSortCmpFunc[interleave/api.Entry] -/
noncomputable def lp81_0:AC:=aL 0 Tryz.f81 []
def Bpz:=(by simp only[go_sem,lp81_0,Tryz.f81];rfl:lp81_0=_)
noncomputable def lp81_1:AC:=aL 0 Tryz.f81 [lp81_0]
def A0n:=(by simp only[go_sem,lp81_1,Tryz.f81];rfl:lp81_1=_)
noncomputable def af81:AF:=aF 0 4 true Tryz.f81 [lp81_0,lp81_1]
/- slices.symMergeCmpFunc[interleave/api.Entry] -/
noncomputable def lp82_0:AC:=aL 0 Tryz.f82 []
def Btc:=(by simp only[go_sem,lp82_0,Tryz.f82];rfl:lp82_0=_)
noncomputable def lp82_1:AC:=aL 0 Tryz.f82 [lp82_0]
def Btd:=(by simp only[go_sem,lp82_1,Tryz.f82];rfl:lp82_1=_)
noncomputable def lp82_2:AC:=aL 0 Tryz.f82 [lp82_0,lp82_1]
def Bte:=(by simp only[go_sem,lp82_2,Tryz.f82];rfl:lp82_2=_)
noncomputable def lp82_3:AC:=aL 0 Tryz.f82 [lp82_0,lp82_1,lp82_2]
def Btf:=(by simp only[go_sem,lp82_3,Tryz.f82];rfl:lp82_3=_)
noncomputable def lp82_4:AC:=aL 0 Tryz.f82 [lp82_0,lp82_1,lp82_2,lp82_3]
def Btg:=(by simp only[go_sem,lp82_4,Tryz.f82];rfl:lp82_4=_)
noncomputable def af82:AF:=aF 0 5 true Tryz.f82 [lp82_0,lp82_1,lp82_2,lp82_3,lp82_4]
/- cmp.Or[int] -/
noncomputable def lp83_0:AC:=aL 0 Tryz.f83 []
def Bp0:=(by simp only[go_sem,lp83_0,Tryz.f83];rfl:lp83_0=_)
noncomputable def af83:AF:=aF 0 1 false Tryz.f83 [lp83_0]
/- cmp.Compare[int] -/
noncomputable def af84:AF:=aF 0 2 false Tryz.f84 []
/- slices.CompareFunc[[]interleave/api.SiteKey,[]interleave/api.SiteKey,interleave/api.SiteKey,interleave/api.SiteKey] -/
noncomputable def lp85_0:AC:=aL 0 Tryz.f85 []
def Bp1:=(by simp only[go_sem,lp85_0,Tryz.f85];rfl:lp85_0=_)
noncomputable def af85:AF:=aF 0 3 true Tryz.f85 [lp85_0]
/- interleave/baseline.compareKeys -/
noncomputable def af86:AF:=aF 0 2 false Tryz.f86 []
/- interleave/interleaveref39.Compare -/
noncomputable def lp88_0:AC:=aL 0 Tryz.f88 []
def A0o:=(by simp only[go_sem,lp88_0,Tryz.f88];rfl:lp88_0=_)
noncomputable def af88:AF:=aF 0 2 false Tryz.f88 [lp88_0]
/- interleave/interleaveref39.CompareKeys -/
noncomputable def af89:AF:=aF 0 2 false Tryz.f89 []
/- interleave/token.isLetter -/
noncomputable def af92:AF:=aF 0 1 false Tryz.f92 []
/- interleave/token.word -/
noncomputable def lp93_0:AC:=aL 0 Tryz.f93 []
def Bp2:=(by simp only[go_sem,lp93_0,Tryz.f93];rfl:lp93_0=_)
noncomputable def af93:AF:=aF 0 1 false Tryz.f93 [lp93_0]
/- interleave/token.isDigit -/
noncomputable def af94:AF:=aF 0 1 false Tryz.f94 []
/- interleave/token.number -/
noncomputable def lp95_0:AC:=aL 0 Tryz.f95 []
def Bp3:=(by simp only[go_sem,lp95_0,Tryz.f95];rfl:lp95_0=_)
noncomputable def af95:AF:=aF 0 1 false Tryz.f95 [lp95_0]
/- interleave/token.sign -/
noncomputable def af96:AF:=aF 0 1 false Tryz.f96 []
/- (*interleave/parse.reader).name -/
noncomputable def af97:AF:=aF 0 1 true Tryz.f97 []
/- (*interleave/parse.reader).size -/
noncomputable def af98:AF:=aF 0 2 true Tryz.f98 []
/- (*interleave/parse.reader).initial -/
noncomputable def af99:AF:=aF 0 2 true Tryz.f99 []
/- (*interleave/parse.reader).accept -/
noncomputable def af100:AF:=aF 0 2 true Tryz.f100 []
/- (*interleave/parse.reader).block -/
noncomputable def lp101_0:AC:=aL 0 Tryz.f101 []
def Bjx:=(by simp only[go_sem,lp101_0,Tryz.f101];rfl:lp101_0=_)
noncomputable def af101:AF:=aF 0 1 true Tryz.f101 [lp101_0]
/- interleave/interleaveref03.indent -/
noncomputable def lp104_0:AC:=aL 0 Tryz.f104 []
def Bjy:=(by simp only[go_sem,lp104_0,Tryz.f104];rfl:lp104_0=_)
noncomputable def af104:AF:=aF 0 1 false Tryz.f104 [lp104_0]
/- interleave/interleaveref03.head -/
noncomputable def af105:AF:=aF 0 1 false Tryz.f105 []
/- (*interleave/interleavemade.maker).expr -/
noncomputable def af106:AF:=aF 0 2 true Tryz.f106 []
/- interleave/interleavemade.binary -/
noncomputable def af107:AF:=aF 0 3 false Tryz.f107 []
/- interleave/interleavemade.name -/
noncomputable def af108:AF:=aF 0 1 false Tryz.f108 []
/- (*interleave/interleavemade.maker).holds -/
noncomputable def af109:AF:=aF 0 2 true Tryz.f109 []
/- (*interleave/interleavemade.maker).block -/
noncomputable def af110:AF:=aF 0 3 true Tryz.f110 []
/- interleave/interleaveref02.shapedDecl -/
noncomputable def af111:AF:=aF 0 1 false Tryz.f111 []
/- interleave/interleaveref01.IsName -/
noncomputable def lp112_0:AC:=aL 0 Tryz.f112 []
def Bjz:=(by simp only[go_sem,lp112_0,Tryz.f112];rfl:lp112_0=_)
noncomputable def af112:AF:=aF 0 1 false Tryz.f112 [lp112_0]
/- interleave/interleaveref02.ShapedStmts -/
noncomputable def lp113_0:AC:=aL 0 Tryz.f113 []
def Bj0:=(by simp only[go_sem,lp113_0,Tryz.f113];rfl:lp113_0=_)
noncomputable def af113:AF:=aF 0 1 false Tryz.f113 [lp113_0]
/- interleave/interleaveref04.DeclAt -/
noncomputable def lp114_0:AC:=aL 0 Tryz.f114 []
def Bj1:=(by simp only[go_sem,lp114_0,Tryz.f114];rfl:lp114_0=_)
noncomputable def af114:AF:=aF 0 2 false Tryz.f114 [lp114_0]
/- interleave/interleaveref04.ThreadAt -/
noncomputable def lp115_0:AC:=aL 0 Tryz.f115 []
def Bj2:=(by simp only[go_sem,lp115_0,Tryz.f115];rfl:lp115_0=_)
noncomputable def af115:AF:=aF 0 2 false Tryz.f115 [lp115_0]
/- interleave/interleaveref04.At -/
noncomputable def lp116_0:AC:=aL 0 Tryz.f116 []
def Bj3:=(by simp only[go_sem,lp116_0,Tryz.f116];rfl:lp116_0=_)
noncomputable def af116:AF:=aF 0 2 false Tryz.f116 [lp116_0]
/- (*interleave/interleaveref04.walk).one -/
noncomputable def af117:AF:=aF 0 2 true Tryz.f117 []
/- interleave/format.Stmt -/
noncomputable def af119:AF:=aF 0 2 false Tryz.f119 []
def af131:AF:=⟨2,[],true,.skip,some (Aby)⟩
/- slices.rotateCmpFunc[interleave/api.Entry] -/
noncomputable def lp132_0:AC:=aL 0 Tryz.f132 []
def Bs9:=(by simp only[go_sem,lp132_0,Tryz.f132];rfl:lp132_0=_)
noncomputable def af132:AF:=aF 0 5 true Tryz.f132 [lp132_0]
/- cmp.isNaN[int] -/
noncomputable def af133:AF:=aF 0 1 false Tryz.f133 []
/- (*interleave/parse.reader).number -/
noncomputable def af138:AF:=aF 0 1 true Tryz.f138 []
/- (*interleave/parse.reader).statement -/
noncomputable def af139:AF:=aF 0 1 true Tryz.f139 []
/- interleave/interleaveref03.Expr -/
noncomputable def af144:AF:=aF 0 1 false Tryz.f144 []
/- interleave/interleaveref01.Letter -/
noncomputable def af145:AF:=aF 0 1 false Tryz.f145 []
/- interleave/interleaveref01.IsKeyword -/
noncomputable def lp146_0:AC:=aL 0 Tryz.f146 []
def Bj4:=(by simp only[go_sem,lp146_0,Tryz.f146];rfl:lp146_0=_)
noncomputable def af146:AF:=aF 0 1 false Tryz.f146 [lp146_0]
/- interleave/interleaveref01.inner -/
noncomputable def af147:AF:=aF 0 1 false Tryz.f147 []
/- interleave/interleaveref02.ShapedStmt -/
noncomputable def af148:AF:=aF 0 1 false Tryz.f148 []
/- (*interleave/interleaveref04.walk).inside -/
noncomputable def lp149_0:AC:=aL 0 Tryz.f149 []
def Bj5:=(by simp only[go_sem,lp149_0,Tryz.f149];rfl:lp149_0=_)
noncomputable def af149:AF:=aF 0 4 true Tryz.f149 [lp149_0]
/- interleave/interleaveref04.or -/
noncomputable def af150:AF:=aF 0 2 false Tryz.f150 []
/- interleave/interleaveref04.want -/
noncomputable def af151:AF:=aF 0 5 false Tryz.f151 []
/- interleave/interleaveref04.Expr -/
noncomputable def af152:AF:=aF 0 3 false Tryz.f152 []
/- interleave/interleaveref04.nesting -/
noncomputable def af153:AF:=aF 0 1 false Tryz.f153 []
/- interleave/format.writeStmt -/
noncomputable def lp155_0:AC:=aL 0 Tryz.f155 []
def Bj6:=(by simp only[go_sem,lp155_0,Tryz.f155];rfl:lp155_0=_)
noncomputable def lp155_1:AC:=aL 0 Tryz.f155 [lp155_0]
def Bj7:=(by simp only[go_sem,lp155_1,Tryz.f155];rfl:lp155_1=_)
noncomputable def af155:AF:=aF 0 3 true Tryz.f155 [lp155_0,lp155_1]
def af156:AF:=⟨1,[],true,.skip,some (We 213 5)⟩
/- slices.swapRangeCmpFunc[interleave/api.Entry] -/
noncomputable def lp162_0:AC:=aL 0 Tryz.f162 []
def Bta:=(by simp only[go_sem,lp162_0,Tryz.f162];rfl:lp162_0=_)
noncomputable def af162:AF:=aF 0 5 true Tryz.f162 [lp162_0]
/- (*interleave/parse.reader).assignment -/
noncomputable def af170:AF:=aF 0 2 true Tryz.f170 []
/- interleave/parse.rest -/
noncomputable def af171:AF:=aF 0 1 false Tryz.f171 []
/- interleave/interleaveref03.sign -/
noncomputable def af176:AF:=aF 0 1 false Tryz.f176 []
/- interleave/interleaveref03.put -/
noncomputable def af177:AF:=aF 0 2 false Tryz.f177 []
/- interleave/interleaveref01.Keywords -/
noncomputable def af178:AF:=aF 0 0 false Tryz.f178 []
/- interleave/interleaveref01.Digit -/
noncomputable def af179:AF:=aF 0 1 false Tryz.f179 []
/- interleave/interleaveref02.ShapedExpr -/
noncomputable def lp180_0:AC:=aL 0 Tryz.f180 []
def Bj8:=(by simp only[go_sem,lp180_0,Tryz.f180];rfl:lp180_0=_)
noncomputable def af180:AF:=aF 0 1 false Tryz.f180 [lp180_0]
/- interleave/interleaveref02.blank -/
noncomputable def af181:AF:=aF 0 1 false Tryz.f181 []
/- interleave/interleaveref04.KindOf -/
noncomputable def af182:AF:=aF 0 3 false Tryz.f182 []
/- interleave/interleaveref04.Nodes -/
noncomputable def lp183_0:AC:=aL 0 Tryz.f183 []
def Bj9:=(by simp only[go_sem,lp183_0,Tryz.f183];rfl:lp183_0=_)
noncomputable def af183:AF:=aF 0 1 false Tryz.f183 [lp183_0]
/- interleave/interleaveref04.names -/
noncomputable def lp184_0:AC:=aL 0 Tryz.f184 []
def Bka:=(by simp only[go_sem,lp184_0,Tryz.f184];rfl:lp184_0=_)
noncomputable def af184:AF:=aF 0 3 false Tryz.f184 [lp184_0]
/- (*strings.Builder).WriteString -/
noncomputable def af187:AF:=aF 0 2 true Tryz.f187 []
/- interleave/format.heading -/
noncomputable def af188:AF:=aF 0 1 false Tryz.f188 []
/- (*interleave/parse.reader).expr -/
noncomputable def af196:AF:=aF 0 1 true Tryz.f196 []
/- (*interleave/parse.reader).conditional -/
noncomputable def af197:AF:=aF 0 2 true Tryz.f197 []
/- (*interleave/parse.reader).loop -/
noncomputable def af198:AF:=aF 0 2 true Tryz.f198 []
/- (*interleave/parse.reader).namedBlock -/
noncomputable def af199:AF:=aF 0 2 true Tryz.f199 []
/- (*interleave/parse.reader).plainBlock -/
noncomputable def af200:AF:=aF 0 2 true Tryz.f200 []
/- (*interleave/parse.reader).named -/
noncomputable def af201:AF:=aF 0 2 true Tryz.f201 []
/- (*interleave/parse.reader).setting -/
noncomputable def af202:AF:=aF 0 2 true Tryz.f202 []
/- (*interleave/parse.reader).getting -/
noncomputable def af203:AF:=aF 0 2 true Tryz.f203 []
/- interleave/interleaveref02.Operands -/
noncomputable def af206:AF:=aF 0 1 false Tryz.f206 []
def af213:AF:=⟨1,[],true,.skip,some (Y5 213)⟩
/- interleave/format.Expr -/
noncomputable def af214:AF:=aF 0 1 false Tryz.f214 []
/- (*interleave/parse.reader).binary -/
noncomputable def lp222_0:AC:=aL 0 Tryz.f222 []
def Bkb:=(by simp only[go_sem,lp222_0,Tryz.f222];rfl:lp222_0=_)
noncomputable def af222:AF:=aF 0 2 true Tryz.f222 [lp222_0]
/- interleave/format.writeExpr -/
noncomputable def af228:AF:=aF 0 2 true Tryz.f228 []
/- (*interleave/parse.reader).unary -/
noncomputable def af234:AF:=aF 0 1 true Tryz.f234 []
noncomputable def b234:AF:=tX (by simp only[go_sem,af234,Tryz.f234];rfl:af234=_)
/- (*interleave/parse.reader).operator -/
noncomputable def af235:AF:=aF 0 2 true Tryz.f235 []
/- interleave/format.operatorOf -/
noncomputable def af237:AF:=aF 0 1 false Tryz.f237 []
/- interleave/format.writeOperand -/
noncomputable def af238:AF:=aF 0 3 true Tryz.f238 []
/- interleave/format.operand -/
noncomputable def af239:AF:=aF 0 2 false Tryz.f239 []
/- (*interleave/parse.reader).primary -/
noncomputable def af240:AF:=aF 0 1 true Tryz.f240 []
/- interleave/parse.binaryOperator -/
noncomputable def af241:AF:=aF 0 1 false Tryz.f241 []
