/- The plain machine's forms of the functions, printed by km_table.py. -/
import Derived.Test.YtdbnbejffjhdlaaGreatDoorNa
set_option linter.all false
set_option maxRecDepth 100000
set_option maxHeartbeats 4000000
namespace Go.Proofs.YtdbnbejffjhdlaaGreatDoor.KM
open Go
def Azt:List V:=[.str [],.int .i64 0,.str [],.int .i64 7,.str [],.int .i64 7,.str [],.int .i64 7,.str [45],.int .i64 6,.str [33],.int .i64 6,.str [43],.int .i64 4,.str [45],.int .i64 4,.str [42],.int .i64 5,.str [47],.int .i64 5,.str [37],.int .i64 5,.str [61,61],.int .i64 3,.str [33,61],.int .i64 3,.str [60],.int .i64 3,.str [60,61],.int .i64 3,.str [62],.int .i64 3,.str [62,61],.int .i64 3,.str [38,38],.int .i64 2,.str [124,124],.int .i64 1]
def yI(k:IntKind)(b:Nat):TyR:=⟨.i k,[.int k 0],1,true,b,true⟩
def yB:TyR:=⟨.b,[.bool false],1,true,1,true⟩
def yS:TyR:=⟨.s,[.str []],1,true,16,true⟩
def yL(e:Nat):TyR:=⟨.sl e,[.nils],1,true,24,false⟩
def yP(e:Nat):TyR:=⟨.pt e,[.nilp],1,true,8,false⟩
def yF:TyR:=⟨.f,[.nilf],1,true,8,false⟩
def yN:TyR:=⟨.it,[.nili],1,true,16,false⟩
def yM(e:Nat):TyR:=⟨.mp e,[.nils],1,true,8,false⟩
def ty:Nat->TyR
 | 2=>yI .i64 8
 | 3=>yI .i64 8
 | 4=>yB
 | 5=>yI .u8 1
 | 9=>yS
 | 22=>yL 5
 | 24=>⟨.st [(0,22),(1,22),(2,22),(3,4)],[.nils,.nils,.nils,.bool false],4,false,80,false⟩
 | 25=>yL 115
 | 26=>yL 86
 | 27=>yL 90
 | 29=>⟨.st [(0,26),(1,27)],[.nils,.nils],2,false,48,false⟩
 | 33=>yL 55
 | 35=>⟨.st [(0,3),(1,33)],[.int .i64 0,.nils],2,false,32,false⟩
 | 37=>yI .i64 8
 | 49=>yL 3
 | 51=>yL 57
 | 55=>⟨.st [(0,3),(1,51),(2,3),(3,3)],[.int .i64 0,.nils,.int .i64 0,.int .i64 0],4,false,48,false⟩
 | 57=>⟨.st [(0,9),(1,9),(2,3)],[.str [],.str [],.int .i64 0],3,false,40,true⟩
 | 65=>yF
 | 75=>yL 129
 | 78=>yP 80
 | 80=>⟨.st [(0,75),(1,3)],[.nils,.int .i64 0],2,false,32,false⟩
 | 86=>⟨.st [(0,3),(1,3),(2,9),(3,3),(4,2),(5,9)],[.int .i64 0,.int .i64 0,.str [],.int .i64 0,.int .i64 0,.str []],6,false,64,true⟩
 | 87=>yL 9
 | 88=>yL 104
 | 90=>⟨.st [(0,9),(1,3),(2,87),(3,88)],[.str [],.int .i64 0,.nils,.nils],4,false,72,false⟩
 | 92=>yP 97
 | 93=>yP 95
 | 95=>⟨.st [(0,22),(1,3)],[.nils,.int .i64 0],2,false,32,false⟩
 | 97=>⟨.st [(0,93),(1,3),(2,3),(3,4),(4,4),(5,4),(6,4),(7,87)],[.nilp,.int .i64 0,.int .i64 0,.bool false,.bool false,.bool false,.bool false,.nils],8,false,56,false⟩
 | 100=>yL 102
 | 102=>⟨.st [(0,3),(1,2),(2,9),(3,100)],[.int .i64 0,.int .i64 0,.str [],.nils],4,false,56,false⟩
 | 104=>⟨.st [(0,3),(1,3),(2,9),(3,9),(4,100),(5,102),(9,88),(10,88)],[.int .i64 0,.int .i64 0,.str [],.str [],.nils,.int .i64 0,.int .i64 0,.str [],.nils,.nils,.nils],11,false,176,false⟩
 | 110=>yL 87
 | 113=>⟨.ar 4 5,[.int .u8 0,.int .u8 0,.int .u8 0,.int .u8 0],4,false,4,true⟩
 | 115=>⟨.st [(0,5),(1,5),(2,5),(3,113)],[.int .u8 0,.int .u8 0,.int .u8 0,.int .u8 0,.int .u8 0,.int .u8 0,.int .u8 0],7,false,7,true⟩
 | 125=>yF
 | 129=>⟨.st [(0,3),(1,9),(2,3)],[.int .i64 0,.str [],.int .i64 0],3,false,32,true⟩
 | 145=>yP 147
 | 147=>⟨.st [(0,29),(2,3),(3,88),(4,87),(5,87)],[.nils,.nils,.int .i64 0,.nils,.nils,.nils],6,false,128,false⟩
 | 150=>yL 49
 | 155=>yI .u64 8
 | 183=>yM 3
 | 214=>yP 216
 | 216=>⟨.st [(0,214),(1,22)],[.nilp,.nils],2,false,32,false⟩
 | 235=>yN
 | 240=>yF
 | 299=>⟨.st [(0,9),(1,3)],[.str [],.int .i64 0],2,false,24,true⟩
 | 307=>⟨.ar 19 299,[.str [],.int .i64 0,.str [],.int .i64 0,.str [],.int .i64 0,.str [],.int .i64 0,.str [],.int .i64 0,.str [],.int .i64 0,.str [],.int .i64 0,.str [],.int .i64 0,.str [],.int .i64 0,.str [],.int .i64 0,.str [],.int .i64 0,.str [],.int .i64 0,.str [],.int .i64 0,.str [],.int .i64 0,.str [],.int .i64 0,.str [],.int .i64 0,.str [],.int .i64 0,.str [],.int .i64 0,.str [],.int .i64 0],38,false,456,true⟩
 | _=>yN
def glV:Nat->V
 | 9=>.imm Azt 0
 | _=>.und
def aF(w p:Nat)(h:Bool)(f:Func)(ls:List AC):AF:=rF ty glV (fun _=>w) p h f ls
def aL(w:Nat)(f:Func)(ls:List AC):AC:=Azp ty glV (fun _=>w) f ls
def tX{a b:AF}(_:a=b):AF:=b
attribute [go_sem] yI yB yS yL yP yF yN yM ty glV aF aL
/- interleave/interleavelaw41.VersionRebases -/
noncomputable def af3:AF:=aF 0 3 false Tryz.f3 []
/- (interleave/interleavelaw41.Pair).versions -/
noncomputable def af4:AF:=aF 0 1 false Tryz.f4 []
/- interleave/interleavelaw41.awake -/
noncomputable def af5:AF:=aF 0 0 false Tryz.f5 []
/- interleave/interleavelaw41.stored -/
noncomputable def lp6_0:AC:=aL 0 Tryz.f6 []
def Boi:=(by simp only[go_sem,lp6_0,Tryz.f6];rfl:lp6_0=_)
noncomputable def lp6_1:AC:=aL 0 Tryz.f6 [lp6_0]
def Boj:=(by simp only[go_sem,lp6_1,Tryz.f6];rfl:lp6_1=_)
noncomputable def af6:AF:=aF 0 3 false Tryz.f6 [lp6_0,lp6_1]
/- interleave/version.Rebase -/
noncomputable def lp7_0:AC:=aL 0 Tryz.f7 []
def Bok:=(by simp only[go_sem,lp7_0,Tryz.f7];rfl:lp7_0=_)
noncomputable def af7:AF:=aF 0 3 false Tryz.f7 [lp7_0]
/- interleave/interleaveref39.Rebase -/
noncomputable def lp8_0:AC:=aL 0 Tryz.f8 []
def Bol:=(by simp only[go_sem,lp8_0,Tryz.f8];rfl:lp8_0=_)
noncomputable def lp8_1:AC:=aL 0 Tryz.f8 [lp8_0]
def Bom:=(by simp only[go_sem,lp8_1,Tryz.f8];rfl:lp8_1=_)
noncomputable def af8:AF:=aF 0 3 false Tryz.f8 [lp8_0,lp8_1]
/- interleave/interleaveref39.SameBaseline -/
noncomputable def af9:AF:=aF 0 2 false Tryz.f9 []
/- interleave/interleaveref39.SameEntries -/
noncomputable def lp10_0:AC:=aL 0 Tryz.f10 []
def Bkq:=(by simp only[go_sem,lp10_0,Tryz.f10];rfl:lp10_0=_)
noncomputable def af10:AF:=aF 0 2 false Tryz.f10 [lp10_0]
/- interleave/parse.Parse -/
noncomputable def af11:AF:=aF 0 1 false Tryz.f11 []
/- interleave/interleaveref03.Program -/
noncomputable def lp12_0:AC:=aL 0 Tryz.f12 []
def Bkr:=(by simp only[go_sem,lp12_0,Tryz.f12];rfl:lp12_0=_)
noncomputable def lp12_1:AC:=aL 0 Tryz.f12 [lp12_0]
def Bks:=(by simp only[go_sem,lp12_1,Tryz.f12];rfl:lp12_1=_)
noncomputable def lp12_2:AC:=aL 0 Tryz.f12 [lp12_0,lp12_1]
def Bkt:=(by simp only[go_sem,lp12_2,Tryz.f12];rfl:lp12_2=_)
noncomputable def af12:AF:=aF 0 1 false Tryz.f12 [lp12_0,lp12_1,lp12_2]
/- interleave/interleavemade.Program -/
noncomputable def lp13_0:AC:=aL 0 Tryz.f13 []
def Bku:=(by simp only[go_sem,lp13_0,Tryz.f13];rfl:lp13_0=_)
noncomputable def lp13_1:AC:=aL 0 Tryz.f13 [lp13_0]
def Bkv:=(by simp only[go_sem,lp13_1,Tryz.f13];rfl:lp13_1=_)
noncomputable def af13:AF:=aF 0 1 false Tryz.f13 [lp13_0,lp13_1]
/- interleave/interleavescene.Edit -/
noncomputable def lp14_0:AC:=aL 0 Tryz.f14 []
def Bkw:=(by simp only[go_sem,lp14_0,Tryz.f14];rfl:lp14_0=_)
noncomputable def lp14_1:AC:=aL 0 Tryz.f14 [lp14_0]
def Bkx:=(by simp only[go_sem,lp14_1,Tryz.f14];rfl:lp14_1=_)
noncomputable def af14:AF:=aF 0 2 false Tryz.f14 [lp14_0,lp14_1]
/- interleave/interleaveref31.Same -/
noncomputable def lp15_0:AC:=aL 0 Tryz.f15 []
def Bky:=(by simp only[go_sem,lp15_0,Tryz.f15];rfl:lp15_0=_)
noncomputable def af15:AF:=aF 0 2 false Tryz.f15 [lp15_0]
/- interleave/version.Match -/
noncomputable def lp16_0:AC:=aL 0 Tryz.f16 []
def Bkz:=(by simp only[go_sem,lp16_0,Tryz.f16];rfl:lp16_0=_)
noncomputable def lp16_1:AC:=aL 0 Tryz.f16 [lp16_0]
def Bk0:=(by simp only[go_sem,lp16_1,Tryz.f16];rfl:lp16_1=_)
noncomputable def lp16_2:AC:=aL 0 Tryz.f16 [lp16_0,lp16_1]
def Bk1:=(by simp only[go_sem,lp16_2,Tryz.f16];rfl:lp16_2=_)
noncomputable def af16:AF:=aF 0 2 false Tryz.f16 [lp16_0,lp16_1,lp16_2]
/- interleave/interleaveref39.Keys -/
noncomputable def lp17_0:AC:=aL 0 Tryz.f17 []
def Bk2:=(by simp only[go_sem,lp17_0,Tryz.f17];rfl:lp17_0=_)
noncomputable def lp17_1:AC:=aL 0 Tryz.f17 [lp17_0]
def Bk3:=(by simp only[go_sem,lp17_1,Tryz.f17];rfl:lp17_1=_)
noncomputable def lp17_2:AC:=aL 0 Tryz.f17 [lp17_0,lp17_1]
def Bk4:=(by simp only[go_sem,lp17_2,Tryz.f17];rfl:lp17_2=_)
noncomputable def af17:AF:=aF 0 1 false Tryz.f17 [lp17_0,lp17_1,lp17_2]
/- interleave/interleavescene.Entries -/
noncomputable def lp18_0:AC:=aL 0 Tryz.f18 []
def Bk5:=(by simp only[go_sem,lp18_0,Tryz.f18];rfl:lp18_0=_)
noncomputable def lp18_1:AC:=aL 0 Tryz.f18 [lp18_0]
def Bk6:=(by simp only[go_sem,lp18_1,Tryz.f18];rfl:lp18_1=_)
noncomputable def af18:AF:=aF 0 1 false Tryz.f18 [lp18_0,lp18_1]
/- interleave/interleaveref39.Insert -/
noncomputable def af19:AF:=aF 0 2 false Tryz.f19 []
/- interleave/baseline.Valid -/
noncomputable def lp20_0:AC:=aL 0 Tryz.f20 []
def Bk7:=(by simp only[go_sem,lp20_0,Tryz.f20];rfl:lp20_0=_)
noncomputable def af20:AF:=aF 0 1 false Tryz.f20 [lp20_0]
/- interleave/version.carry -/
noncomputable def lp21_0:AC:=aL 0 Tryz.f21 []
def Bk8:=(by simp only[go_sem,lp21_0,Tryz.f21];rfl:lp21_0=_)
noncomputable def lp21_1:AC:=aL 0 Tryz.f21 [lp21_0]
def Bk9:=(by simp only[go_sem,lp21_1,Tryz.f21];rfl:lp21_1=_)
noncomputable def af21:AF:=aF 0 4 false Tryz.f21 [lp21_0,lp21_1]
/- slices.Clone[[]interleave/api.SiteKey,interleave/api.SiteKey] -/
noncomputable def af22:AF:=aF 0 1 false Tryz.f22 []
/- slices.SortStableFunc[[]interleave/api.Entry,interleave/api.Entry] -/
noncomputable def af23:AF:=aF 0 2 true Tryz.f23 []
/- interleave/version.Rebase$1 -/
noncomputable def af24:AF:=aF 0 2 false Tryz.f24 []
/- interleave/baseline.Less -/
noncomputable def af25:AF:=aF 0 2 false Tryz.f25 []
/- interleave/version.merged -/
noncomputable def lp26_0:AC:=aL 0 Tryz.f26 []
def Bla:=(by simp only[go_sem,lp26_0,Tryz.f26];rfl:lp26_0=_)
noncomputable def af26:AF:=aF 0 1 false Tryz.f26 [lp26_0]
/- interleave/interleaveref39.ValidBaseline -/
noncomputable def lp27_0:AC:=aL 0 Tryz.f27 []
def Blb:=(by simp only[go_sem,lp27_0,Tryz.f27];rfl:lp27_0=_)
noncomputable def lp27_1:AC:=aL 0 Tryz.f27 [lp27_0]
def Blc:=(by simp only[go_sem,lp27_1,Tryz.f27];rfl:lp27_1=_)
noncomputable def af27:AF:=aF 0 1 false Tryz.f27 [lp27_0,lp27_1]
/- interleave/interleaveref39.Match -/
noncomputable def lp28_0:AC:=aL 0 Tryz.f28 []
def Bld:=(by simp only[go_sem,lp28_0,Tryz.f28];rfl:lp28_0=_)
noncomputable def lp28_1:AC:=aL 0 Tryz.f28 [lp28_0]
def Ble:=(by simp only[go_sem,lp28_1,Tryz.f28];rfl:lp28_1=_)
noncomputable def lp28_2:AC:=aL 0 Tryz.f28 [lp28_0,lp28_1]
def Blf:=(by simp only[go_sem,lp28_2,Tryz.f28];rfl:lp28_2=_)
noncomputable def lp28_3:AC:=aL 0 Tryz.f28 [lp28_0,lp28_1,lp28_2]
def Blg:=(by simp only[go_sem,lp28_3,Tryz.f28];rfl:lp28_3=_)
noncomputable def af28:AF:=aF 0 2 false Tryz.f28 [lp28_0,lp28_1,lp28_2,lp28_3]
/- interleave/interleaveref39.moved -/
noncomputable def lp29_0:AC:=aL 0 Tryz.f29 []
def Blh:=(by simp only[go_sem,lp29_0,Tryz.f29];rfl:lp29_0=_)
noncomputable def af29:AF:=aF 0 3 false Tryz.f29 [lp29_0]
/- interleave/interleaveref39.copied -/
noncomputable def af30:AF:=aF 0 1 false Tryz.f30 []
/- interleave/interleaveref37.Least -/
noncomputable def lp31_0:AC:=aL 0 Tryz.f31 []
def Bli:=(by simp only[go_sem,lp31_0,Tryz.f31];rfl:lp31_0=_)
noncomputable def af31:AF:=aF 0 1 false Tryz.f31 [lp31_0]
/- interleave/interleaveref39.place -/
noncomputable def lp32_0:AC:=aL 0 Tryz.f32 []
def Blj:=(by simp only[go_sem,lp32_0,Tryz.f32];rfl:lp32_0=_)
noncomputable def af32:AF:=aF 0 2 false Tryz.f32 [lp32_0]
/- interleave/interleaveref39.put -/
noncomputable def af33:AF:=aF 2 3 false Tryz.f33 []
/- interleave/interleaveref39.CompareEntries -/
noncomputable def lp34_0:AC:=aL 0 Tryz.f34 []
def Blk:=(by simp only[go_sem,lp34_0,Tryz.f34];rfl:lp34_0=_)
noncomputable def af34:AF:=aF 0 2 false Tryz.f34 [lp34_0]
/- interleave/token.Scan -/
noncomputable def lp35_0:AC:=aL 0 Tryz.f35 []
def Bll:=(by simp only[go_sem,lp35_0,Tryz.f35];rfl:lp35_0=_)
noncomputable def af35:AF:=aF 0 1 false Tryz.f35 [lp35_0]
/- (*interleave/parse.reader).program -/
noncomputable def lp36_0:AC:=aL 0 Tryz.f36 []
def Blm:=(by simp only[go_sem,lp36_0,Tryz.f36];rfl:lp36_0=_)
noncomputable def lp36_1:AC:=aL 0 Tryz.f36 [lp36_0]
def Bln:=(by simp only[go_sem,lp36_1,Tryz.f36];rfl:lp36_1=_)
noncomputable def af36:AF:=aF 0 1 true Tryz.f36 [lp36_0,lp36_1]
/- (*interleave/parse.reader).line -/
noncomputable def af37:AF:=aF 0 1 true Tryz.f37 []
/- interleave/interleaveref03.decl -/
noncomputable def af38:AF:=aF 0 1 false Tryz.f38 []
/- interleave/interleaveref03.stmts -/
noncomputable def lp39_0:AC:=aL 0 Tryz.f39 []
def Blo:=(by simp only[go_sem,lp39_0,Tryz.f39];rfl:lp39_0=_)
noncomputable def af39:AF:=aF 0 2 false Tryz.f39 [lp39_0]
/- interleave/interleavemade.decls -/
noncomputable def af40:AF:=aF 2 0 false Tryz.f40 []
/- (*interleave/interleavemade.Tape).Next -/
noncomputable def af41:AF:=aF 0 2 true Tryz.f41 []
/- (*interleave/interleavemade.maker).stmts -/
noncomputable def lp42_0:AC:=aL 0 Tryz.f42 []
def Blp:=(by simp only[go_sem,lp42_0,Tryz.f42];rfl:lp42_0=_)
noncomputable def af42:AF:=aF 0 3 true Tryz.f42 [lp42_0]
/- interleave/interleaveref04.Program -/
noncomputable def lp43_0:AC:=aL 0 Tryz.f43 []
def Blq:=(by simp only[go_sem,lp43_0,Tryz.f43];rfl:lp43_0=_)
noncomputable def lp43_1:AC:=aL 0 Tryz.f43 [lp43_0]
def Blr:=(by simp only[go_sem,lp43_1,Tryz.f43];rfl:lp43_1=_)
noncomputable def af43:AF:=aF 0 1 false Tryz.f43 [lp43_0,lp43_1]
/- interleave/interleavemade.assign -/
noncomputable def af44:AF:=aF 0 2 false Tryz.f44 []
/- interleave/interleavemade.num -/
noncomputable def af45:AF:=aF 0 1 false Tryz.f45 []
/- interleave/baseline.Lines -/
noncomputable def lp46_0:AC:=aL 0 Tryz.f46 []
def Bls:=(by simp only[go_sem,lp46_0,Tryz.f46];rfl:lp46_0=_)
noncomputable def af46:AF:=aF 0 1 false Tryz.f46 [lp46_0]
/- interleave/version.align -/
noncomputable def lp47_0:AC:=aL 0 Tryz.f47 []
def Blt:=(by simp only[go_sem,lp47_0,Tryz.f47];rfl:lp47_0=_)
noncomputable def lp47_1:AC:=aL 0 Tryz.f47 [lp47_0]
def Blu:=(by simp only[go_sem,lp47_1,Tryz.f47];rfl:lp47_1=_)
noncomputable def af47:AF:=aF 0 2 false Tryz.f47 [lp47_0,lp47_1]
/- interleave/interleaveref39.Lines -/
noncomputable def lp48_0:AC:=aL 0 Tryz.f48 []
def Blv:=(by simp only[go_sem,lp48_0,Tryz.f48];rfl:lp48_0=_)
noncomputable def af48:AF:=aF 0 1 false Tryz.f48 [lp48_0]
/- interleave/interleavescene.key -/
noncomputable def af49:AF:=aF 0 1 false Tryz.f49 []
/- interleave/baseline.validEntry -/
noncomputable def lp50_0:AC:=aL 0 Tryz.f50 []
def Blw:=(by simp only[go_sem,lp50_0,Tryz.f50];rfl:lp50_0=_)
noncomputable def af50:AF:=aF 0 1 false Tryz.f50 [lp50_0]
noncomputable def b50:AF:=tX (by simp only[go_sem,af50,Tryz.f50];rfl:af50=_)
/- interleave/baseline.Site -/
noncomputable def af51:AF:=aF 0 2 false Tryz.f51 []
def af52:AF:=⟨1,[],true,.skip,some (Abh)⟩
/- interleave/version.leastRotation -/
noncomputable def lp53_0:AC:=aL 0 Tryz.f53 []
def Blx:=(by simp only[go_sem,lp53_0,Tryz.f53];rfl:lp53_0=_)
noncomputable def af53:AF:=aF 0 1 false Tryz.f53 [lp53_0]
/- interleave/baseline.Key -/
noncomputable def af54:AF:=aF 0 2 false Tryz.f54 []
/- slices.stableCmpFunc[interleave/api.Entry] -/
noncomputable def lp55_0:AC:=aL 0 Tryz.f55 []
def Al5:=(by simp only[go_sem,lp55_0,Tryz.f55];rfl:lp55_0=_)
noncomputable def lp55_1:AC:=aL 0 Tryz.f55 [lp55_0]
def Bp0:=(by simp only[go_sem,lp55_1,Tryz.f55];rfl:lp55_1=_)
noncomputable def lp55_2:AC:=aL 0 Tryz.f55 [lp55_0,lp55_1]
def Al6:=(by simp only[go_sem,lp55_2,Tryz.f55];rfl:lp55_2=_)
noncomputable def af55:AF:=aF 0 3 true Tryz.f55 [lp55_0,lp55_1,lp55_2]
/- interleave/baseline.compare -/
noncomputable def af56:AF:=aF 0 2 false Tryz.f56 []
/- interleave/interleaveref39.validKey -/
noncomputable def lp57_0:AC:=aL 0 Tryz.f57 []
def Bly:=(by simp only[go_sem,lp57_0,Tryz.f57];rfl:lp57_0=_)
noncomputable def af57:AF:=aF 0 1 false Tryz.f57 [lp57_0]
/- interleave/interleaveref39.pair -/
noncomputable def lp58_0:AC:=aL 0 Tryz.f58 []
def Blz:=(by simp only[go_sem,lp58_0,Tryz.f58];rfl:lp58_0=_)
noncomputable def lp58_1:AC:=aL 0 Tryz.f58 [lp58_0]
def Bl0:=(by simp only[go_sem,lp58_1,Tryz.f58];rfl:lp58_1=_)
noncomputable def af58:AF:=aF 0 2 false Tryz.f58 [lp58_0,lp58_1]
/- interleave/interleaveref39.SiteOf -/
noncomputable def lp59_0:AC:=aL 0 Tryz.f59 []
def Bl1:=(by simp only[go_sem,lp59_0,Tryz.f59];rfl:lp59_0=_)
noncomputable def af59:AF:=aF 0 2 false Tryz.f59 [lp59_0]
/- interleave/interleaveref37.less -/
noncomputable def lp60_0:AC:=aL 0 Tryz.f60 []
def Bl2:=(by simp only[go_sem,lp60_0,Tryz.f60];rfl:lp60_0=_)
noncomputable def af60:AF:=aF 0 2 false Tryz.f60 [lp60_0]
/- interleave/interleaveref39.Compare -/
noncomputable def lp61_0:AC:=aL 0 Tryz.f61 []
def Ayj:=(by simp only[go_sem,lp61_0,Tryz.f61];rfl:lp61_0=_)
noncomputable def af61:AF:=aF 0 2 false Tryz.f61 [lp61_0]
/- interleave/interleaveref39.CompareKeys -/
noncomputable def af62:AF:=aF 0 2 false Tryz.f62 []
/- interleave/token.comment -/
noncomputable def af64:AF:=aF 0 1 false Tryz.f64 []
/- interleave/token.first -/
noncomputable def af65:AF:=aF 0 1 false Tryz.f65 []
/- (*interleave/parse.reader).next -/
noncomputable def af66:AF:=aF 0 1 true Tryz.f66 []
/- interleave/parse.declared -/
noncomputable def af67:AF:=aF 0 1 false Tryz.f67 []
/- (*interleave/parse.reader).declaration -/
noncomputable def af68:AF:=aF 0 1 true Tryz.f68 []
/- (*interleave/parse.reader).at -/
noncomputable def af69:AF:=aF 0 2 true Tryz.f69 []
/- (*interleave/parse.reader).thread -/
noncomputable def lp70_0:AC:=aL 0 Tryz.f70 []
def Bl3:=(by simp only[go_sem,lp70_0,Tryz.f70];rfl:lp70_0=_)
noncomputable def af70:AF:=aF 0 1 true Tryz.f70 [lp70_0]
/- interleave/interleaveref03.Stmt -/
noncomputable def af73:AF:=aF 0 2 false Tryz.f73 []
/- (*interleave/interleavemade.maker).stmt -/
noncomputable def af74:AF:=aF 0 2 true Tryz.f74 []
/- interleave/interleaveref02.Shaped -/
noncomputable def lp75_0:AC:=aL 0 Tryz.f75 []
def Bl4:=(by simp only[go_sem,lp75_0,Tryz.f75];rfl:lp75_0=_)
noncomputable def lp75_1:AC:=aL 0 Tryz.f75 [lp75_0]
def Bl5:=(by simp only[go_sem,lp75_1,Tryz.f75];rfl:lp75_1=_)
noncomputable def lp75_2:AC:=aL 0 Tryz.f75 [lp75_0,lp75_1]
def Bl6:=(by simp only[go_sem,lp75_2,Tryz.f75];rfl:lp75_2=_)
noncomputable def af75:AF:=aF 0 1 false Tryz.f75 [lp75_0,lp75_1,lp75_2]
/- interleave/interleaveref04.decls -/
noncomputable def lp76_0:AC:=aL 0 Tryz.f76 []
def Bl7:=(by simp only[go_sem,lp76_0,Tryz.f76];rfl:lp76_0=_)
noncomputable def af76:AF:=aF 0 1 false Tryz.f76 [lp76_0]
/- interleave/interleaveref04.threads -/
noncomputable def lp77_0:AC:=aL 0 Tryz.f77 []
def Bl8:=(by simp only[go_sem,lp77_0,Tryz.f77];rfl:lp77_0=_)
noncomputable def lp77_1:AC:=aL 0 Tryz.f77 [lp77_0]
def Bl9:=(by simp only[go_sem,lp77_1,Tryz.f77];rfl:lp77_1=_)
noncomputable def lp77_2:AC:=aL 0 Tryz.f77 [lp77_0,lp77_1]
def Bma:=(by simp only[go_sem,lp77_2,Tryz.f77];rfl:lp77_2=_)
noncomputable def af77:AF:=aF 0 1 false Tryz.f77 [lp77_0,lp77_1,lp77_2]
/- interleave/interleaveref04.Count -/
noncomputable def lp78_0:AC:=aL 0 Tryz.f78 []
def Bmb:=(by simp only[go_sem,lp78_0,Tryz.f78];rfl:lp78_0=_)
noncomputable def af78:AF:=aF 0 1 false Tryz.f78 [lp78_0]
/- (*interleave/interleaveref04.walk).all -/
noncomputable def lp79_0:AC:=aL 0 Tryz.f79 []
def Bmc:=(by simp only[go_sem,lp79_0,Tryz.f79];rfl:lp79_0=_)
noncomputable def af79:AF:=aF 0 2 true Tryz.f79 [lp79_0]
/- interleave/baseline.appendLines -/
noncomputable def lp80_0:AC:=aL 0 Tryz.f80 []
def Bmd:=(by simp only[go_sem,lp80_0,Tryz.f80];rfl:lp80_0=_)
noncomputable def af80:AF:=aF 0 2 true Tryz.f80 [lp80_0]
/- interleave/version.common -/
noncomputable def lp81_0:AC:=aL 0 Tryz.f81 []
def Bme:=(by simp only[go_sem,lp81_0,Tryz.f81];rfl:lp81_0=_)
noncomputable def lp81_1:AC:=aL 0 Tryz.f81 [lp81_0]
def Bmf:=(by simp only[go_sem,lp81_1,Tryz.f81];rfl:lp81_1=_)
noncomputable def af81:AF:=aF 0 2 false Tryz.f81 [lp81_0,lp81_1]
/- interleave/interleaveref39.preorder -/
noncomputable def lp82_0:AC:=aL 0 Tryz.f82 []
def Bmg:=(by simp only[go_sem,lp82_0,Tryz.f82];rfl:lp82_0=_)
noncomputable def af82:AF:=aF 0 2 false Tryz.f82 [lp82_0]
/- interleave/baseline.validKey -/
noncomputable def lp83_0:AC:=aL 0 Tryz.f83 []
def Bmh:=(by simp only[go_sem,lp83_0,Tryz.f83];rfl:lp83_0=_)
noncomputable def af83:AF:=aF 0 1 false Tryz.f83 [lp83_0]
/- slices.Index[[]interleave/api.SiteKey,interleave/api.SiteKey] -/
noncomputable def lp84_0:AC:=aL 0 Tryz.f84 []
def Bmi:=(by simp only[go_sem,lp84_0,Tryz.f84];rfl:lp84_0=_)
noncomputable def af84:AF:=aF 0 2 false Tryz.f84 [lp84_0]
/- interleave/baseline.keys -/
noncomputable def lp85_0:AC:=aL 0 Tryz.f85 []
def Bmj:=(by simp only[go_sem,lp85_0,Tryz.f85];rfl:lp85_0=_)
noncomputable def lp85_1:AC:=aL 0 Tryz.f85 [lp85_0]
def Bmk:=(by simp only[go_sem,lp85_1,Tryz.f85];rfl:lp85_1=_)
noncomputable def af85:AF:=aF 0 1 false Tryz.f85 [lp85_0,lp85_1]
/- slices.Clone[[]int,int] -/
noncomputable def af88:AF:=aF 0 1 false Tryz.f88 []
/- slices.Concat[[]int,int] -/
noncomputable def lp89_0:AC:=aL 0 Tryz.f89 []
def Al7:=(by simp only[go_sem,lp89_0,Tryz.f89];rfl:lp89_0=_)
noncomputable def lp89_1:AC:=aL 0 Tryz.f89 [lp89_0]
def Al8:=(by simp only[go_sem,lp89_1,Tryz.f89];rfl:lp89_1=_)
noncomputable def af89:AF:=aF 0 1 false Tryz.f89 [lp89_0,lp89_1]
/- slices.Compare[[]int,int] -/
noncomputable def lp90_0:AC:=aL 0 Tryz.f90 []
def Bml:=(by simp only[go_sem,lp90_0,Tryz.f90];rfl:lp90_0=_)
noncomputable def af90:AF:=aF 0 2 false Tryz.f90 [lp90_0]
/- slices.insertionSortCmpFunc[interleave/api.Entry] -/
noncomputable def lp91_0:AC:=aL 0 Tryz.f91 []
def Bmm:=(by simp only[go_sem,lp91_0,Tryz.f91];rfl:lp91_0=_)
noncomputable def lp91_1:AC:=aL 0 Tryz.f91 [lp91_0]
def Ayk:=(by simp only[go_sem,lp91_1,Tryz.f91];rfl:lp91_1=_)
noncomputable def af91:AF:=aF 0 4 true Tryz.f91 [lp91_0,lp91_1]
/- slices.symMergeCmpFunc[interleave/api.Entry] -/
noncomputable def lp92_0:AC:=aL 0 Tryz.f92 []
def Bp1:=(by simp only[go_sem,lp92_0,Tryz.f92];rfl:lp92_0=_)
noncomputable def lp92_1:AC:=aL 0 Tryz.f92 [lp92_0]
def Bp2:=(by simp only[go_sem,lp92_1,Tryz.f92];rfl:lp92_1=_)
noncomputable def lp92_2:AC:=aL 0 Tryz.f92 [lp92_0,lp92_1]
def Bp3:=(by simp only[go_sem,lp92_2,Tryz.f92];rfl:lp92_2=_)
noncomputable def lp92_3:AC:=aL 0 Tryz.f92 [lp92_0,lp92_1,lp92_2]
def Bp4:=(by simp only[go_sem,lp92_3,Tryz.f92];rfl:lp92_3=_)
noncomputable def lp92_4:AC:=aL 0 Tryz.f92 [lp92_0,lp92_1,lp92_2,lp92_3]
def Bp5:=(by simp only[go_sem,lp92_4,Tryz.f92];rfl:lp92_4=_)
noncomputable def af92:AF:=aF 0 5 true Tryz.f92 [lp92_0,lp92_1,lp92_2,lp92_3,lp92_4]
/- cmp.Or[int] -/
noncomputable def lp93_0:AC:=aL 0 Tryz.f93 []
def Bmn:=(by simp only[go_sem,lp93_0,Tryz.f93];rfl:lp93_0=_)
noncomputable def af93:AF:=aF 0 1 false Tryz.f93 [lp93_0]
/- cmp.Compare[int] -/
noncomputable def af94:AF:=aF 0 2 false Tryz.f94 []
/- slices.CompareFunc[[]interleave/api.SiteKey,[]interleave/api.SiteKey,interleave/api.SiteKey,interleave/api.SiteKey] -/
noncomputable def lp95_0:AC:=aL 0 Tryz.f95 []
def Bmo:=(by simp only[go_sem,lp95_0,Tryz.f95];rfl:lp95_0=_)
noncomputable def af95:AF:=aF 0 3 true Tryz.f95 [lp95_0]
/- interleave/baseline.compareKeys -/
noncomputable def af96:AF:=aF 0 2 false Tryz.f96 []
/- interleave/interleaveref01.IsName -/
noncomputable def lp97_0:AC:=aL 0 Tryz.f97 []
def Bmp:=(by simp only[go_sem,lp97_0,Tryz.f97];rfl:lp97_0=_)
noncomputable def af97:AF:=aF 0 1 false Tryz.f97 [lp97_0]
/- interleave/interleaveref39.common -/
noncomputable def lp98_0:AC:=aL 0 Tryz.f98 []
def Bmq:=(by simp only[go_sem,lp98_0,Tryz.f98];rfl:lp98_0=_)
noncomputable def lp98_1:AC:=aL 0 Tryz.f98 [lp98_0]
def Bmr:=(by simp only[go_sem,lp98_1,Tryz.f98];rfl:lp98_1=_)
noncomputable def lp98_2:AC:=aL 0 Tryz.f98 [lp98_0,lp98_1]
def Bms:=(by simp only[go_sem,lp98_2,Tryz.f98];rfl:lp98_2=_)
noncomputable def af98:AF:=aF 0 2 false Tryz.f98 [lp98_0,lp98_1,lp98_2]
/- interleave/token.isLetter -/
noncomputable def af102:AF:=aF 0 1 false Tryz.f102 []
/- interleave/token.word -/
noncomputable def lp103_0:AC:=aL 0 Tryz.f103 []
def Bgh:=(by simp only[go_sem,lp103_0,Tryz.f103];rfl:lp103_0=_)
noncomputable def af103:AF:=aF 0 1 false Tryz.f103 [lp103_0]
/- interleave/token.isDigit -/
noncomputable def af104:AF:=aF 0 1 false Tryz.f104 []
/- interleave/token.number -/
noncomputable def lp105_0:AC:=aL 0 Tryz.f105 []
def Bgi:=(by simp only[go_sem,lp105_0,Tryz.f105];rfl:lp105_0=_)
noncomputable def af105:AF:=aF 0 1 false Tryz.f105 [lp105_0]
/- interleave/token.sign -/
noncomputable def af106:AF:=aF 0 1 false Tryz.f106 []
/- (*interleave/parse.reader).name -/
noncomputable def af107:AF:=aF 0 1 true Tryz.f107 []
/- (*interleave/parse.reader).size -/
noncomputable def af108:AF:=aF 0 2 true Tryz.f108 []
/- (*interleave/parse.reader).initial -/
noncomputable def af109:AF:=aF 0 2 true Tryz.f109 []
/- (*interleave/parse.reader).accept -/
noncomputable def af110:AF:=aF 0 2 true Tryz.f110 []
/- (*interleave/parse.reader).block -/
noncomputable def lp111_0:AC:=aL 0 Tryz.f111 []
def Bgj:=(by simp only[go_sem,lp111_0,Tryz.f111];rfl:lp111_0=_)
noncomputable def af111:AF:=aF 0 1 true Tryz.f111 [lp111_0]
/- interleave/interleaveref03.indent -/
noncomputable def lp114_0:AC:=aL 0 Tryz.f114 []
def Bgk:=(by simp only[go_sem,lp114_0,Tryz.f114];rfl:lp114_0=_)
noncomputable def af114:AF:=aF 0 1 false Tryz.f114 [lp114_0]
/- interleave/interleaveref03.head -/
noncomputable def af115:AF:=aF 0 1 false Tryz.f115 []
/- (*interleave/interleavemade.maker).expr -/
noncomputable def af116:AF:=aF 0 2 true Tryz.f116 []
/- interleave/interleavemade.binary -/
noncomputable def af117:AF:=aF 0 3 false Tryz.f117 []
/- interleave/interleavemade.name -/
noncomputable def af118:AF:=aF 0 1 false Tryz.f118 []
/- (*interleave/interleavemade.maker).holds -/
noncomputable def af119:AF:=aF 0 2 true Tryz.f119 []
/- (*interleave/interleavemade.maker).block -/
noncomputable def af120:AF:=aF 0 3 true Tryz.f120 []
/- interleave/interleaveref02.shapedDecl -/
noncomputable def af121:AF:=aF 0 1 false Tryz.f121 []
/- interleave/interleaveref02.ShapedStmts -/
noncomputable def lp122_0:AC:=aL 0 Tryz.f122 []
def Bgl:=(by simp only[go_sem,lp122_0,Tryz.f122];rfl:lp122_0=_)
noncomputable def af122:AF:=aF 0 1 false Tryz.f122 [lp122_0]
/- interleave/interleaveref04.DeclAt -/
noncomputable def lp123_0:AC:=aL 0 Tryz.f123 []
def Bgm:=(by simp only[go_sem,lp123_0,Tryz.f123];rfl:lp123_0=_)
noncomputable def af123:AF:=aF 0 2 false Tryz.f123 [lp123_0]
/- interleave/interleaveref04.ThreadAt -/
noncomputable def lp124_0:AC:=aL 0 Tryz.f124 []
def Bgn:=(by simp only[go_sem,lp124_0,Tryz.f124];rfl:lp124_0=_)
noncomputable def af124:AF:=aF 0 2 false Tryz.f124 [lp124_0]
/- interleave/interleaveref04.At -/
noncomputable def lp125_0:AC:=aL 0 Tryz.f125 []
def Bgo:=(by simp only[go_sem,lp125_0,Tryz.f125];rfl:lp125_0=_)
noncomputable def af125:AF:=aF 0 2 false Tryz.f125 [lp125_0]
/- (*interleave/interleaveref04.walk).one -/
noncomputable def af126:AF:=aF 0 2 true Tryz.f126 []
/- interleave/format.Stmt -/
noncomputable def af128:AF:=aF 0 2 false Tryz.f128 []
def af141:AF:=⟨2,[],true,.skip,some (Aa2)⟩
/- slices.rotateCmpFunc[interleave/api.Entry] -/
noncomputable def lp142_0:AC:=aL 0 Tryz.f142 []
def Bpy:=(by simp only[go_sem,lp142_0,Tryz.f142];rfl:lp142_0=_)
noncomputable def af142:AF:=aF 0 5 true Tryz.f142 [lp142_0]
/- cmp.isNaN[int] -/
noncomputable def af143:AF:=aF 0 1 false Tryz.f143 []
/- interleave/interleaveref01.Letter -/
noncomputable def af144:AF:=aF 0 1 false Tryz.f144 []
/- interleave/interleaveref01.IsKeyword -/
noncomputable def lp145_0:AC:=aL 0 Tryz.f145 []
def Bgp:=(by simp only[go_sem,lp145_0,Tryz.f145];rfl:lp145_0=_)
noncomputable def af145:AF:=aF 0 1 false Tryz.f145 [lp145_0]
/- interleave/interleaveref01.inner -/
noncomputable def af146:AF:=aF 0 1 false Tryz.f146 []
/- (*interleave/parse.reader).number -/
noncomputable def af151:AF:=aF 0 1 true Tryz.f151 []
/- (*interleave/parse.reader).statement -/
noncomputable def af152:AF:=aF 0 1 true Tryz.f152 []
/- interleave/interleaveref03.Expr -/
noncomputable def af157:AF:=aF 0 1 false Tryz.f157 []
/- interleave/interleaveref02.ShapedStmt -/
noncomputable def af158:AF:=aF 0 1 false Tryz.f158 []
/- (*interleave/interleaveref04.walk).inside -/
noncomputable def lp159_0:AC:=aL 0 Tryz.f159 []
def Bgq:=(by simp only[go_sem,lp159_0,Tryz.f159];rfl:lp159_0=_)
noncomputable def af159:AF:=aF 0 4 true Tryz.f159 [lp159_0]
/- interleave/interleaveref04.or -/
noncomputable def af160:AF:=aF 0 2 false Tryz.f160 []
/- interleave/interleaveref04.want -/
noncomputable def af161:AF:=aF 0 5 false Tryz.f161 []
/- interleave/interleaveref04.Expr -/
noncomputable def af162:AF:=aF 0 3 false Tryz.f162 []
/- interleave/interleaveref04.nesting -/
noncomputable def af163:AF:=aF 0 1 false Tryz.f163 []
/- interleave/format.writeStmt -/
noncomputable def lp165_0:AC:=aL 0 Tryz.f165 []
def Bgr:=(by simp only[go_sem,lp165_0,Tryz.f165];rfl:lp165_0=_)
noncomputable def lp165_1:AC:=aL 0 Tryz.f165 [lp165_0]
def Bgs:=(by simp only[go_sem,lp165_1,Tryz.f165];rfl:lp165_1=_)
noncomputable def af165:AF:=aF 0 3 true Tryz.f165 [lp165_0,lp165_1]
def af166:AF:=⟨1,[],true,.skip,some (Vl 216 5)⟩
/- slices.swapRangeCmpFunc[interleave/api.Entry] -/
noncomputable def lp172_0:AC:=aL 0 Tryz.f172 []
def Bpz:=(by simp only[go_sem,lp172_0,Tryz.f172];rfl:lp172_0=_)
noncomputable def af172:AF:=aF 0 5 true Tryz.f172 [lp172_0]
/- interleave/interleaveref01.Keywords -/
noncomputable def af173:AF:=aF 0 0 false Tryz.f173 []
/- interleave/interleaveref01.Digit -/
noncomputable def af174:AF:=aF 0 1 false Tryz.f174 []
/- (*interleave/parse.reader).assignment -/
noncomputable def af182:AF:=aF 0 2 true Tryz.f182 []
/- interleave/parse.rest -/
noncomputable def af183:AF:=aF 0 1 false Tryz.f183 []
/- interleave/interleaveref03.sign -/
noncomputable def af188:AF:=aF 0 1 false Tryz.f188 []
/- interleave/interleaveref03.put -/
noncomputable def af189:AF:=aF 0 2 false Tryz.f189 []
/- interleave/interleaveref02.ShapedExpr -/
noncomputable def lp190_0:AC:=aL 0 Tryz.f190 []
def Bgt:=(by simp only[go_sem,lp190_0,Tryz.f190];rfl:lp190_0=_)
noncomputable def af190:AF:=aF 0 1 false Tryz.f190 [lp190_0]
/- interleave/interleaveref02.blank -/
noncomputable def af191:AF:=aF 0 1 false Tryz.f191 []
/- interleave/interleaveref04.KindOf -/
noncomputable def af192:AF:=aF 0 3 false Tryz.f192 []
/- interleave/interleaveref04.Nodes -/
noncomputable def lp193_0:AC:=aL 0 Tryz.f193 []
def Bgu:=(by simp only[go_sem,lp193_0,Tryz.f193];rfl:lp193_0=_)
noncomputable def af193:AF:=aF 0 1 false Tryz.f193 [lp193_0]
/- interleave/interleaveref04.names -/
noncomputable def lp194_0:AC:=aL 0 Tryz.f194 []
def Bgv:=(by simp only[go_sem,lp194_0,Tryz.f194];rfl:lp194_0=_)
noncomputable def af194:AF:=aF 0 3 false Tryz.f194 [lp194_0]
/- (*strings.Builder).WriteString -/
noncomputable def af197:AF:=aF 0 2 true Tryz.f197 []
/- interleave/format.heading -/
noncomputable def af198:AF:=aF 0 1 false Tryz.f198 []
/- (*interleave/parse.reader).expr -/
noncomputable def af205:AF:=aF 0 1 true Tryz.f205 []
/- (*interleave/parse.reader).conditional -/
noncomputable def af206:AF:=aF 0 2 true Tryz.f206 []
/- (*interleave/parse.reader).loop -/
noncomputable def af207:AF:=aF 0 2 true Tryz.f207 []
/- (*interleave/parse.reader).namedBlock -/
noncomputable def af208:AF:=aF 0 2 true Tryz.f208 []
/- (*interleave/parse.reader).plainBlock -/
noncomputable def af209:AF:=aF 0 2 true Tryz.f209 []
/- (*interleave/parse.reader).named -/
noncomputable def af210:AF:=aF 0 2 true Tryz.f210 []
/- (*interleave/parse.reader).setting -/
noncomputable def af211:AF:=aF 0 2 true Tryz.f211 []
/- (*interleave/parse.reader).getting -/
noncomputable def af212:AF:=aF 0 2 true Tryz.f212 []
/- interleave/interleaveref02.Operands -/
noncomputable def af215:AF:=aF 0 1 false Tryz.f215 []
def af222:AF:=⟨1,[],true,.skip,some (X9 216)⟩
/- interleave/format.Expr -/
noncomputable def af223:AF:=aF 0 1 false Tryz.f223 []
/- (*interleave/parse.reader).binary -/
noncomputable def lp231_0:AC:=aL 0 Tryz.f231 []
def Bgw:=(by simp only[go_sem,lp231_0,Tryz.f231];rfl:lp231_0=_)
noncomputable def af231:AF:=aF 0 2 true Tryz.f231 [lp231_0]
/- interleave/format.writeExpr -/
noncomputable def af237:AF:=aF 0 2 true Tryz.f237 []
/- (*interleave/parse.reader).unary -/
noncomputable def af243:AF:=aF 0 1 true Tryz.f243 []
noncomputable def b243:AF:=tX (by simp only[go_sem,af243,Tryz.f243];rfl:af243=_)
/- (*interleave/parse.reader).operator -/
noncomputable def af244:AF:=aF 0 2 true Tryz.f244 []
/- interleave/format.operatorOf -/
noncomputable def af246:AF:=aF 0 1 false Tryz.f246 []
/- interleave/format.writeOperand -/
noncomputable def af247:AF:=aF 0 3 true Tryz.f247 []
/- interleave/format.operand -/
noncomputable def af248:AF:=aF 0 2 false Tryz.f248 []
/- (*interleave/parse.reader).primary -/
noncomputable def af249:AF:=aF 0 1 true Tryz.f249 []
/- interleave/parse.binaryOperator -/
noncomputable def af250:AF:=aF 0 1 false Tryz.f250 []
