/- The plain machine's forms of the functions, printed by km_table.py. -/
import Derived.Test.YtphikjgngompaaaGreatDoorQt
import Derived.Test.YtphikjgngompaaaGreatDoorNr
set_option linter.all false
set_option maxRecDepth 100000
set_option maxHeartbeats 4000000
namespace Go.Proofs.YtphikjgngompaaaGreatDoor.KM
open Go
def A1v:List V:=[.str [],.int .i64 0,.str [],.int .i64 7,.str [],.int .i64 7,.str [],.int .i64 7,.str [45],.int .i64 6,.str [33],.int .i64 6,.str [43],.int .i64 4,.str [45],.int .i64 4,.str [42],.int .i64 5,.str [47],.int .i64 5,.str [37],.int .i64 5,.str [61,61],.int .i64 3,.str [33,61],.int .i64 3,.str [60],.int .i64 3,.str [60,61],.int .i64 3,.str [62],.int .i64 3,.str [62,61],.int .i64 3,.str [38,38],.int .i64 2,.str [124,124],.int .i64 1]
def yI(k:IntKind)(b:Nat):TyR:=⟨.i k,[.int k 0],1,true,b,true⟩
def yB:TyR:=⟨.b,[.bool false],1,true,1,true⟩
def yS:TyR:=⟨.s,[.str []],1,true,16,true⟩
def yL(e:Nat):TyR:=⟨.sl e,[.nils],1,true,24,false⟩
def yP(e:Nat):TyR:=⟨.pt e,[.nilp],1,true,8,false⟩
def yF:TyR:=⟨.f,[.nilf],1,true,8,false⟩
def yN:TyR:=⟨.it,[.nili],1,true,16,false⟩
def yM(e:Nat):TyR:=⟨.mp e,[.nils],1,true,8,false⟩
def ty:Nat->TyR
 | 2=>yI .i64 8
 | 3=>yI .i64 8
 | 4=>yB
 | 5=>yI .u8 1
 | 9=>yS
 | 22=>yL 5
 | 24=>⟨.st [(0,22),(1,22),(2,22),(3,4)],[.nils,.nils,.nils,.bool false],4,false,80,false⟩
 | 25=>yL 114
 | 26=>yL 85
 | 27=>yL 89
 | 29=>⟨.st [(0,26),(1,27)],[.nils,.nils],2,false,48,false⟩
 | 33=>yL 43
 | 35=>⟨.st [(0,3),(1,33)],[.int .i64 0,.nils],2,false,32,false⟩
 | 37=>yL 45
 | 39=>yI .i64 8
 | 43=>⟨.st [(0,3),(1,37),(2,3),(3,3)],[.int .i64 0,.nils,.int .i64 0,.int .i64 0],4,false,48,false⟩
 | 45=>⟨.st [(0,9),(1,9),(2,3)],[.str [],.str [],.int .i64 0],3,false,40,true⟩
 | 47=>yF
 | 55=>yL 3
 | 73=>yF
 | 74=>yL 129
 | 77=>yP 79
 | 79=>⟨.st [(0,74),(1,3)],[.nils,.int .i64 0],2,false,32,false⟩
 | 85=>⟨.st [(0,3),(1,3),(2,9),(3,3),(4,2),(5,9)],[.int .i64 0,.int .i64 0,.str [],.int .i64 0,.int .i64 0,.str []],6,false,64,true⟩
 | 86=>yL 9
 | 87=>yL 103
 | 89=>⟨.st [(0,9),(1,3),(2,86),(3,87)],[.str [],.int .i64 0,.nils,.nils],4,false,72,false⟩
 | 91=>yP 96
 | 92=>yP 94
 | 94=>⟨.st [(0,22),(1,3)],[.nils,.int .i64 0],2,false,32,false⟩
 | 96=>⟨.st [(0,92),(1,3),(2,3),(3,4),(4,4),(5,4),(6,4),(7,86)],[.nilp,.int .i64 0,.int .i64 0,.bool false,.bool false,.bool false,.bool false,.nils],8,false,56,false⟩
 | 99=>yL 101
 | 101=>⟨.st [(0,3),(1,2),(2,9),(3,99)],[.int .i64 0,.int .i64 0,.str [],.nils],4,false,56,false⟩
 | 103=>⟨.st [(0,3),(1,3),(2,9),(3,9),(4,99),(5,101),(9,87),(10,87)],[.int .i64 0,.int .i64 0,.str [],.str [],.nils,.int .i64 0,.int .i64 0,.str [],.nils,.nils,.nils],11,false,176,false⟩
 | 109=>yL 86
 | 112=>⟨.ar 4 5,[.int .u8 0,.int .u8 0,.int .u8 0,.int .u8 0],4,false,4,true⟩
 | 114=>⟨.st [(0,5),(1,5),(2,5),(3,112)],[.int .u8 0,.int .u8 0,.int .u8 0,.int .u8 0,.int .u8 0,.int .u8 0,.int .u8 0],7,false,7,true⟩
 | 121=>yI .u64 8
 | 124=>yM 3
 | 129=>⟨.st [(0,3),(1,9),(2,3)],[.int .i64 0,.str [],.int .i64 0],3,false,32,true⟩
 | 145=>yP 147
 | 147=>⟨.st [(0,29),(2,3),(3,87),(4,86),(5,86)],[.nils,.nils,.int .i64 0,.nils,.nils,.nils],6,false,128,false⟩
 | 150=>yL 55
 | 216=>yP 218
 | 218=>⟨.st [(0,216),(1,22)],[.nilp,.nils],2,false,32,false⟩
 | 233=>yN
 | 238=>yF
 | 295=>⟨.st [(0,9),(1,3)],[.str [],.int .i64 0],2,false,24,true⟩
 | 303=>⟨.ar 19 295,[.str [],.int .i64 0,.str [],.int .i64 0,.str [],.int .i64 0,.str [],.int .i64 0,.str [],.int .i64 0,.str [],.int .i64 0,.str [],.int .i64 0,.str [],.int .i64 0,.str [],.int .i64 0,.str [],.int .i64 0,.str [],.int .i64 0,.str [],.int .i64 0,.str [],.int .i64 0,.str [],.int .i64 0,.str [],.int .i64 0,.str [],.int .i64 0,.str [],.int .i64 0,.str [],.int .i64 0,.str [],.int .i64 0],38,false,456,true⟩
 | _=>yN
def glV:Nat->V
 | 9=>.imm A1v 0
 | _=>.und
def aF(w p:Nat)(h:Bool)(f:Func)(ls:List AC):AF:=rF ty glV (fun _=>w) p h f ls
def aL(w:Nat)(f:Func)(ls:List AC):AC:=A1u ty glV (fun _=>w) f ls
def tX{a b:AF}(_:a=b):AF:=b
attribute [go_sem] yI yB yS yL yP yF yN yM ty glV aF aL
/- interleave/interleavelaw41.VersionLoses -/
noncomputable def lp3_0:AC:=aL 0 Tryz.f3 []
def Bri:=(by simp only[go_sem,lp3_0,Tryz.f3];rfl:lp3_0=_)
noncomputable def lp3_1:AC:=aL 0 Tryz.f3 [lp3_0]
def Brj:=(by simp only[go_sem,lp3_1,Tryz.f3];rfl:lp3_1=_)
noncomputable def lp3_2:AC:=aL 0 Tryz.f3 [lp3_0,lp3_1]
def Brk:=(by simp only[go_sem,lp3_2,Tryz.f3];rfl:lp3_2=_)
noncomputable def af3:AF:=aF 0 3 false Tryz.f3 [lp3_0,lp3_1,lp3_2]
/- (interleave/interleavelaw41.Pair).versions -/
noncomputable def af4:AF:=aF 0 1 false Tryz.f4 []
/- interleave/interleavelaw41.awake -/
noncomputable def af5:AF:=aF 0 0 false Tryz.f5 []
/- interleave/interleavelaw41.stored -/
noncomputable def lp6_0:AC:=aL 0 Tryz.f6 []
def Brl:=(by simp only[go_sem,lp6_0,Tryz.f6];rfl:lp6_0=_)
noncomputable def lp6_1:AC:=aL 0 Tryz.f6 [lp6_0]
def Brm:=(by simp only[go_sem,lp6_1,Tryz.f6];rfl:lp6_1=_)
noncomputable def af6:AF:=aF 0 3 false Tryz.f6 [lp6_0,lp6_1]
/- interleave/version.Lost -/
noncomputable def lp7_0:AC:=aL 0 Tryz.f7 []
def Brn:=(by simp only[go_sem,lp7_0,Tryz.f7];rfl:lp7_0=_)
noncomputable def lp7_1:AC:=aL 0 Tryz.f7 [lp7_0]
def Bro:=(by simp only[go_sem,lp7_1,Tryz.f7];rfl:lp7_1=_)
noncomputable def lp7_2:AC:=aL 0 Tryz.f7 [lp7_0,lp7_1]
def Brp:=(by simp only[go_sem,lp7_2,Tryz.f7];rfl:lp7_2=_)
noncomputable def af7:AF:=aF 0 3 false Tryz.f7 [lp7_0,lp7_1,lp7_2]
/- interleave/version.Rebase -/
noncomputable def lp8_0:AC:=aL 0 Tryz.f8 []
def Brq:=(by simp only[go_sem,lp8_0,Tryz.f8];rfl:lp8_0=_)
noncomputable def af8:AF:=aF 0 3 false Tryz.f8 [lp8_0]
/- interleave/baseline.Site -/
noncomputable def af9:AF:=aF 0 2 false Tryz.f9 []
/- interleave/interleaveref39.CompareEntries -/
noncomputable def lp10_0:AC:=aL 0 Tryz.f10 []
def Bn9:=(by simp only[go_sem,lp10_0,Tryz.f10];rfl:lp10_0=_)
noncomputable def af10:AF:=aF 0 2 false Tryz.f10 [lp10_0]
/- interleave/parse.Parse -/
noncomputable def af11:AF:=aF 0 1 false Tryz.f11 []
/- interleave/interleaveref03.Program -/
noncomputable def lp12_0:AC:=aL 0 Tryz.f12 []
def Boa:=(by simp only[go_sem,lp12_0,Tryz.f12];rfl:lp12_0=_)
noncomputable def lp12_1:AC:=aL 0 Tryz.f12 [lp12_0]
def Bob:=(by simp only[go_sem,lp12_1,Tryz.f12];rfl:lp12_1=_)
noncomputable def lp12_2:AC:=aL 0 Tryz.f12 [lp12_0,lp12_1]
def Boc:=(by simp only[go_sem,lp12_2,Tryz.f12];rfl:lp12_2=_)
noncomputable def af12:AF:=aF 0 1 false Tryz.f12 [lp12_0,lp12_1,lp12_2]
/- interleave/interleavemade.Program -/
noncomputable def lp13_0:AC:=aL 0 Tryz.f13 []
def Bod:=(by simp only[go_sem,lp13_0,Tryz.f13];rfl:lp13_0=_)
noncomputable def lp13_1:AC:=aL 0 Tryz.f13 [lp13_0]
def Boe:=(by simp only[go_sem,lp13_1,Tryz.f13];rfl:lp13_1=_)
noncomputable def af13:AF:=aF 0 1 false Tryz.f13 [lp13_0,lp13_1]
/- interleave/interleavescene.Edit -/
noncomputable def lp14_0:AC:=aL 0 Tryz.f14 []
def Bof:=(by simp only[go_sem,lp14_0,Tryz.f14];rfl:lp14_0=_)
noncomputable def lp14_1:AC:=aL 0 Tryz.f14 [lp14_0]
def Bog:=(by simp only[go_sem,lp14_1,Tryz.f14];rfl:lp14_1=_)
noncomputable def af14:AF:=aF 0 2 false Tryz.f14 [lp14_0,lp14_1]
/- interleave/interleaveref31.Same -/
noncomputable def lp15_0:AC:=aL 0 Tryz.f15 []
def Boh:=(by simp only[go_sem,lp15_0,Tryz.f15];rfl:lp15_0=_)
noncomputable def af15:AF:=aF 0 2 false Tryz.f15 [lp15_0]
/- interleave/version.Match -/
noncomputable def lp16_0:AC:=aL 0 Tryz.f16 []
def Boi:=(by simp only[go_sem,lp16_0,Tryz.f16];rfl:lp16_0=_)
noncomputable def lp16_1:AC:=aL 0 Tryz.f16 [lp16_0]
def Boj:=(by simp only[go_sem,lp16_1,Tryz.f16];rfl:lp16_1=_)
noncomputable def lp16_2:AC:=aL 0 Tryz.f16 [lp16_0,lp16_1]
def Bok:=(by simp only[go_sem,lp16_2,Tryz.f16];rfl:lp16_2=_)
noncomputable def af16:AF:=aF 0 2 false Tryz.f16 [lp16_0,lp16_1,lp16_2]
/- interleave/interleaveref39.Keys -/
noncomputable def lp17_0:AC:=aL 0 Tryz.f17 []
def Bol:=(by simp only[go_sem,lp17_0,Tryz.f17];rfl:lp17_0=_)
noncomputable def lp17_1:AC:=aL 0 Tryz.f17 [lp17_0]
def Bom:=(by simp only[go_sem,lp17_1,Tryz.f17];rfl:lp17_1=_)
noncomputable def lp17_2:AC:=aL 0 Tryz.f17 [lp17_0,lp17_1]
def Bon:=(by simp only[go_sem,lp17_2,Tryz.f17];rfl:lp17_2=_)
noncomputable def af17:AF:=aF 0 1 false Tryz.f17 [lp17_0,lp17_1,lp17_2]
/- interleave/interleavescene.Entries -/
noncomputable def lp18_0:AC:=aL 0 Tryz.f18 []
def Boo:=(by simp only[go_sem,lp18_0,Tryz.f18];rfl:lp18_0=_)
noncomputable def lp18_1:AC:=aL 0 Tryz.f18 [lp18_0]
def Bop:=(by simp only[go_sem,lp18_1,Tryz.f18];rfl:lp18_1=_)
noncomputable def af18:AF:=aF 0 1 false Tryz.f18 [lp18_0,lp18_1]
/- interleave/interleaveref39.Insert -/
noncomputable def af19:AF:=aF 0 2 false Tryz.f19 []
def af20:AF:=⟨1,[],true,.skip,some (Wi)⟩
def af21:AF:=⟨1,[],true,.skip,some (Acm)⟩
/- interleave/baseline.Key -/
noncomputable def af22:AF:=aF 0 2 false Tryz.f22 []
/- interleave/baseline.Valid -/
noncomputable def lp23_0:AC:=aL 0 Tryz.f23 []
def Boq:=(by simp only[go_sem,lp23_0,Tryz.f23];rfl:lp23_0=_)
noncomputable def af23:AF:=aF 0 1 false Tryz.f23 [lp23_0]
/- interleave/version.carry -/
noncomputable def lp24_0:AC:=aL 0 Tryz.f24 []
def Bor:=(by simp only[go_sem,lp24_0,Tryz.f24];rfl:lp24_0=_)
noncomputable def lp24_1:AC:=aL 0 Tryz.f24 [lp24_0]
def Bos:=(by simp only[go_sem,lp24_1,Tryz.f24];rfl:lp24_1=_)
noncomputable def af24:AF:=aF 0 4 false Tryz.f24 [lp24_0,lp24_1]
/- slices.Clone[[]interleave/api.SiteKey,interleave/api.SiteKey] -/
noncomputable def af25:AF:=aF 0 1 false Tryz.f25 []
/- slices.SortStableFunc[[]interleave/api.Entry,interleave/api.Entry] -/
noncomputable def af26:AF:=aF 0 2 true Tryz.f26 []
/- interleave/version.Rebase$1 -/
noncomputable def af27:AF:=aF 0 2 false Tryz.f27 []
/- interleave/baseline.Less -/
noncomputable def af28:AF:=aF 0 2 false Tryz.f28 []
/- interleave/version.merged -/
noncomputable def lp29_0:AC:=aL 0 Tryz.f29 []
def Bot:=(by simp only[go_sem,lp29_0,Tryz.f29];rfl:lp29_0=_)
noncomputable def af29:AF:=aF 0 1 false Tryz.f29 [lp29_0]
/- slices.Index[[]interleave/api.SiteKey,interleave/api.SiteKey] -/
noncomputable def lp30_0:AC:=aL 0 Tryz.f30 []
def Bou:=(by simp only[go_sem,lp30_0,Tryz.f30];rfl:lp30_0=_)
noncomputable def af30:AF:=aF 0 2 false Tryz.f30 [lp30_0]
/- interleave/baseline.keys -/
noncomputable def lp31_0:AC:=aL 0 Tryz.f31 []
def Bov:=(by simp only[go_sem,lp31_0,Tryz.f31];rfl:lp31_0=_)
noncomputable def lp31_1:AC:=aL 0 Tryz.f31 [lp31_0]
def Bow:=(by simp only[go_sem,lp31_1,Tryz.f31];rfl:lp31_1=_)
noncomputable def af31:AF:=aF 0 1 false Tryz.f31 [lp31_0,lp31_1]
/- interleave/interleaveref39.Compare -/
noncomputable def lp32_0:AC:=aL 0 Tryz.f32 []
def A0m:=(by simp only[go_sem,lp32_0,Tryz.f32];rfl:lp32_0=_)
noncomputable def af32:AF:=aF 0 2 false Tryz.f32 [lp32_0]
/- interleave/interleaveref39.CompareKeys -/
noncomputable def af33:AF:=aF 0 2 false Tryz.f33 []
/- interleave/token.Scan -/
noncomputable def lp34_0:AC:=aL 0 Tryz.f34 []
def Box:=(by simp only[go_sem,lp34_0,Tryz.f34];rfl:lp34_0=_)
noncomputable def af34:AF:=aF 0 1 false Tryz.f34 [lp34_0]
/- (*interleave/parse.reader).program -/
noncomputable def lp35_0:AC:=aL 0 Tryz.f35 []
def Boy:=(by simp only[go_sem,lp35_0,Tryz.f35];rfl:lp35_0=_)
noncomputable def lp35_1:AC:=aL 0 Tryz.f35 [lp35_0]
def Boz:=(by simp only[go_sem,lp35_1,Tryz.f35];rfl:lp35_1=_)
noncomputable def af35:AF:=aF 0 1 true Tryz.f35 [lp35_0,lp35_1]
/- (*interleave/parse.reader).line -/
noncomputable def af36:AF:=aF 0 1 true Tryz.f36 []
/- interleave/interleaveref03.decl -/
noncomputable def af37:AF:=aF 0 1 false Tryz.f37 []
/- interleave/interleaveref03.stmts -/
noncomputable def lp38_0:AC:=aL 0 Tryz.f38 []
def Bo0:=(by simp only[go_sem,lp38_0,Tryz.f38];rfl:lp38_0=_)
noncomputable def af38:AF:=aF 0 2 false Tryz.f38 [lp38_0]
/- interleave/interleavemade.decls -/
noncomputable def af39:AF:=aF 2 0 false Tryz.f39 []
/- (*interleave/interleavemade.Tape).Next -/
noncomputable def af40:AF:=aF 0 2 true Tryz.f40 []
/- (*interleave/interleavemade.maker).stmts -/
noncomputable def lp41_0:AC:=aL 0 Tryz.f41 []
def Bo1:=(by simp only[go_sem,lp41_0,Tryz.f41];rfl:lp41_0=_)
noncomputable def af41:AF:=aF 0 3 true Tryz.f41 [lp41_0]
/- interleave/interleaveref04.Program -/
noncomputable def lp42_0:AC:=aL 0 Tryz.f42 []
def Bo2:=(by simp only[go_sem,lp42_0,Tryz.f42];rfl:lp42_0=_)
noncomputable def lp42_1:AC:=aL 0 Tryz.f42 [lp42_0]
def Bo3:=(by simp only[go_sem,lp42_1,Tryz.f42];rfl:lp42_1=_)
noncomputable def af42:AF:=aF 0 1 false Tryz.f42 [lp42_0,lp42_1]
/- interleave/interleavemade.assign -/
noncomputable def af43:AF:=aF 0 2 false Tryz.f43 []
/- interleave/interleavemade.num -/
noncomputable def af44:AF:=aF 0 1 false Tryz.f44 []
/- interleave/baseline.Lines -/
noncomputable def lp45_0:AC:=aL 0 Tryz.f45 []
def Bo4:=(by simp only[go_sem,lp45_0,Tryz.f45];rfl:lp45_0=_)
noncomputable def af45:AF:=aF 0 1 false Tryz.f45 [lp45_0]
/- interleave/version.align -/
noncomputable def lp46_0:AC:=aL 0 Tryz.f46 []
def Bo5:=(by simp only[go_sem,lp46_0,Tryz.f46];rfl:lp46_0=_)
noncomputable def lp46_1:AC:=aL 0 Tryz.f46 [lp46_0]
def Bo6:=(by simp only[go_sem,lp46_1,Tryz.f46];rfl:lp46_1=_)
noncomputable def af46:AF:=aF 0 2 false Tryz.f46 [lp46_0,lp46_1]
/- interleave/interleaveref39.Lines -/
noncomputable def lp47_0:AC:=aL 0 Tryz.f47 []
def Bo7:=(by simp only[go_sem,lp47_0,Tryz.f47];rfl:lp47_0=_)
noncomputable def af47:AF:=aF 0 1 false Tryz.f47 [lp47_0]
/- interleave/interleavescene.key -/
noncomputable def af48:AF:=aF 0 1 false Tryz.f48 []
/- interleave/interleaveref39.place -/
noncomputable def lp49_0:AC:=aL 0 Tryz.f49 []
def Bo8:=(by simp only[go_sem,lp49_0,Tryz.f49];rfl:lp49_0=_)
noncomputable def af49:AF:=aF 0 2 false Tryz.f49 [lp49_0]
/- interleave/interleaveref39.put -/
noncomputable def af50:AF:=aF 2 3 false Tryz.f50 []
/- interleave/baseline.validEntry -/
noncomputable def lp53_0:AC:=aL 0 Tryz.f53 []
def Bo9:=(by simp only[go_sem,lp53_0,Tryz.f53];rfl:lp53_0=_)
noncomputable def af53:AF:=aF 0 1 false Tryz.f53 [lp53_0]
noncomputable def b53:AF:=tX (by simp only[go_sem,af53,Tryz.f53];rfl:af53=_)
/- interleave/version.leastRotation -/
noncomputable def lp54_0:AC:=aL 0 Tryz.f54 []
def Bpa:=(by simp only[go_sem,lp54_0,Tryz.f54];rfl:lp54_0=_)
noncomputable def af54:AF:=aF 0 1 false Tryz.f54 [lp54_0]
/- slices.stableCmpFunc[interleave/api.Entry] -/
noncomputable def lp55_0:AC:=aL 0 Tryz.f55 []
def Ans:=(by simp only[go_sem,lp55_0,Tryz.f55];rfl:lp55_0=_)
noncomputable def lp55_1:AC:=aL 0 Tryz.f55 [lp55_0]
def Bs3:=(by simp only[go_sem,lp55_1,Tryz.f55];rfl:lp55_1=_)
noncomputable def lp55_2:AC:=aL 0 Tryz.f55 [lp55_0,lp55_1]
def Ant:=(by simp only[go_sem,lp55_2,Tryz.f55];rfl:lp55_2=_)
noncomputable def af55:AF:=aF 0 3 true Tryz.f55 [lp55_0,lp55_1,lp55_2]
/- interleave/baseline.compare -/
noncomputable def af56:AF:=aF 0 2 false Tryz.f56 []
/- interleave/token.comment -/
noncomputable def af59:AF:=aF 0 1 false Tryz.f59 []
/- interleave/token.first -/
noncomputable def af60:AF:=aF 0 1 false Tryz.f60 []
/- (*interleave/parse.reader).next -/
noncomputable def af61:AF:=aF 0 1 true Tryz.f61 []
/- interleave/parse.declared -/
noncomputable def af62:AF:=aF 0 1 false Tryz.f62 []
/- (*interleave/parse.reader).declaration -/
noncomputable def af63:AF:=aF 0 1 true Tryz.f63 []
/- (*interleave/parse.reader).at -/
noncomputable def af64:AF:=aF 0 2 true Tryz.f64 []
/- (*interleave/parse.reader).thread -/
noncomputable def lp65_0:AC:=aL 0 Tryz.f65 []
def Bpb:=(by simp only[go_sem,lp65_0,Tryz.f65];rfl:lp65_0=_)
noncomputable def af65:AF:=aF 0 1 true Tryz.f65 [lp65_0]
/- interleave/interleaveref03.Stmt -/
noncomputable def af68:AF:=aF 0 2 false Tryz.f68 []
/- (*interleave/interleavemade.maker).stmt -/
noncomputable def af69:AF:=aF 0 2 true Tryz.f69 []
/- interleave/interleaveref02.Shaped -/
noncomputable def lp70_0:AC:=aL 0 Tryz.f70 []
def Bpc:=(by simp only[go_sem,lp70_0,Tryz.f70];rfl:lp70_0=_)
noncomputable def lp70_1:AC:=aL 0 Tryz.f70 [lp70_0]
def Bpd:=(by simp only[go_sem,lp70_1,Tryz.f70];rfl:lp70_1=_)
noncomputable def lp70_2:AC:=aL 0 Tryz.f70 [lp70_0,lp70_1]
def Bpe:=(by simp only[go_sem,lp70_2,Tryz.f70];rfl:lp70_2=_)
noncomputable def af70:AF:=aF 0 1 false Tryz.f70 [lp70_0,lp70_1,lp70_2]
/- interleave/interleaveref04.decls -/
noncomputable def lp71_0:AC:=aL 0 Tryz.f71 []
def Bpf:=(by simp only[go_sem,lp71_0,Tryz.f71];rfl:lp71_0=_)
noncomputable def af71:AF:=aF 0 1 false Tryz.f71 [lp71_0]
/- interleave/interleaveref04.threads -/
noncomputable def lp72_0:AC:=aL 0 Tryz.f72 []
def Bpg:=(by simp only[go_sem,lp72_0,Tryz.f72];rfl:lp72_0=_)
noncomputable def lp72_1:AC:=aL 0 Tryz.f72 [lp72_0]
def Bph:=(by simp only[go_sem,lp72_1,Tryz.f72];rfl:lp72_1=_)
noncomputable def lp72_2:AC:=aL 0 Tryz.f72 [lp72_0,lp72_1]
def Bpi:=(by simp only[go_sem,lp72_2,Tryz.f72];rfl:lp72_2=_)
noncomputable def af72:AF:=aF 0 1 false Tryz.f72 [lp72_0,lp72_1,lp72_2]
/- interleave/interleaveref04.Count -/
noncomputable def lp73_0:AC:=aL 0 Tryz.f73 []
def Bpj:=(by simp only[go_sem,lp73_0,Tryz.f73];rfl:lp73_0=_)
noncomputable def af73:AF:=aF 0 1 false Tryz.f73 [lp73_0]
/- (*interleave/interleaveref04.walk).all -/
noncomputable def lp74_0:AC:=aL 0 Tryz.f74 []
def Bpk:=(by simp only[go_sem,lp74_0,Tryz.f74];rfl:lp74_0=_)
noncomputable def af74:AF:=aF 0 2 true Tryz.f74 [lp74_0]
/- interleave/baseline.appendLines -/
noncomputable def lp75_0:AC:=aL 0 Tryz.f75 []
def Bpl:=(by simp only[go_sem,lp75_0,Tryz.f75];rfl:lp75_0=_)
noncomputable def af75:AF:=aF 0 2 true Tryz.f75 [lp75_0]
/- interleave/version.common -/
noncomputable def lp76_0:AC:=aL 0 Tryz.f76 []
def Bpm:=(by simp only[go_sem,lp76_0,Tryz.f76];rfl:lp76_0=_)
noncomputable def lp76_1:AC:=aL 0 Tryz.f76 [lp76_0]
def Bpn:=(by simp only[go_sem,lp76_1,Tryz.f76];rfl:lp76_1=_)
noncomputable def af76:AF:=aF 0 2 false Tryz.f76 [lp76_0,lp76_1]
/- interleave/interleaveref39.preorder -/
noncomputable def lp77_0:AC:=aL 0 Tryz.f77 []
def Bpo:=(by simp only[go_sem,lp77_0,Tryz.f77];rfl:lp77_0=_)
noncomputable def af77:AF:=aF 0 2 false Tryz.f77 [lp77_0]
/- interleave/interleaveref39.copied -/
noncomputable def af78:AF:=aF 0 1 false Tryz.f78 []
/- interleave/baseline.validKey -/
noncomputable def lp90_0:AC:=aL 0 Tryz.f90 []
def Bpp:=(by simp only[go_sem,lp90_0,Tryz.f90];rfl:lp90_0=_)
noncomputable def af90:AF:=aF 0 1 false Tryz.f90 [lp90_0]
/- slices.Clone[[]int,int] -/
noncomputable def af91:AF:=aF 0 1 false Tryz.f91 []
/- slices.Concat[[]int,int] -/
noncomputable def lp92_0:AC:=aL 0 Tryz.f92 []
def Anu:=(by simp only[go_sem,lp92_0,Tryz.f92];rfl:lp92_0=_)
noncomputable def lp92_1:AC:=aL 0 Tryz.f92 [lp92_0]
def Anv:=(by simp only[go_sem,lp92_1,Tryz.f92];rfl:lp92_1=_)
noncomputable def af92:AF:=aF 0 1 false Tryz.f92 [lp92_0,lp92_1]
/- slices.Compare[[]int,int] -/
noncomputable def lp93_0:AC:=aL 0 Tryz.f93 []
def Bpq:=(by simp only[go_sem,lp93_0,Tryz.f93];rfl:lp93_0=_)
noncomputable def af93:AF:=aF 0 2 false Tryz.f93 [lp93_0]
/- slices.insertionSortCmpFunc[interleave/api.Entry] -/
noncomputable def lp94_0:AC:=aL 0 Tryz.f94 []
def Bpr:=(by simp only[go_sem,lp94_0,Tryz.f94];rfl:lp94_0=_)
noncomputable def lp94_1:AC:=aL 0 Tryz.f94 [lp94_0]
def A0n:=(by simp only[go_sem,lp94_1,Tryz.f94];rfl:lp94_1=_)
noncomputable def af94:AF:=aF 0 4 true Tryz.f94 [lp94_0,lp94_1]
/- slices.symMergeCmpFunc[interleave/api.Entry] -/
noncomputable def lp95_0:AC:=aL 0 Tryz.f95 []
def Bs4:=(by simp only[go_sem,lp95_0,Tryz.f95];rfl:lp95_0=_)
noncomputable def lp95_1:AC:=aL 0 Tryz.f95 [lp95_0]
def Bs5:=(by simp only[go_sem,lp95_1,Tryz.f95];rfl:lp95_1=_)
noncomputable def lp95_2:AC:=aL 0 Tryz.f95 [lp95_0,lp95_1]
def Bs6:=(by simp only[go_sem,lp95_2,Tryz.f95];rfl:lp95_2=_)
noncomputable def lp95_3:AC:=aL 0 Tryz.f95 [lp95_0,lp95_1,lp95_2]
def Bs7:=(by simp only[go_sem,lp95_3,Tryz.f95];rfl:lp95_3=_)
noncomputable def lp95_4:AC:=aL 0 Tryz.f95 [lp95_0,lp95_1,lp95_2,lp95_3]
def Bs8:=(by simp only[go_sem,lp95_4,Tryz.f95];rfl:lp95_4=_)
noncomputable def af95:AF:=aF 0 5 true Tryz.f95 [lp95_0,lp95_1,lp95_2,lp95_3,lp95_4]
/- cmp.Or[int] -/
noncomputable def lp96_0:AC:=aL 0 Tryz.f96 []
def Bps:=(by simp only[go_sem,lp96_0,Tryz.f96];rfl:lp96_0=_)
noncomputable def af96:AF:=aF 0 1 false Tryz.f96 [lp96_0]
/- cmp.Compare[int] -/
noncomputable def af97:AF:=aF 0 2 false Tryz.f97 []
/- slices.CompareFunc[[]interleave/api.SiteKey,[]interleave/api.SiteKey,interleave/api.SiteKey,interleave/api.SiteKey] -/
noncomputable def lp98_0:AC:=aL 0 Tryz.f98 []
def Bpt:=(by simp only[go_sem,lp98_0,Tryz.f98];rfl:lp98_0=_)
noncomputable def af98:AF:=aF 0 3 true Tryz.f98 [lp98_0]
/- interleave/baseline.compareKeys -/
noncomputable def af99:AF:=aF 0 2 false Tryz.f99 []
/- interleave/token.isLetter -/
noncomputable def af103:AF:=aF 0 1 false Tryz.f103 []
/- interleave/token.word -/
noncomputable def lp104_0:AC:=aL 0 Tryz.f104 []
def Bjm:=(by simp only[go_sem,lp104_0,Tryz.f104];rfl:lp104_0=_)
noncomputable def af104:AF:=aF 0 1 false Tryz.f104 [lp104_0]
/- interleave/token.isDigit -/
noncomputable def af105:AF:=aF 0 1 false Tryz.f105 []
/- interleave/token.number -/
noncomputable def lp106_0:AC:=aL 0 Tryz.f106 []
def Bjn:=(by simp only[go_sem,lp106_0,Tryz.f106];rfl:lp106_0=_)
noncomputable def af106:AF:=aF 0 1 false Tryz.f106 [lp106_0]
/- interleave/token.sign -/
noncomputable def af107:AF:=aF 0 1 false Tryz.f107 []
/- (*interleave/parse.reader).name -/
noncomputable def af108:AF:=aF 0 1 true Tryz.f108 []
/- (*interleave/parse.reader).size -/
noncomputable def af109:AF:=aF 0 2 true Tryz.f109 []
/- (*interleave/parse.reader).initial -/
noncomputable def af110:AF:=aF 0 2 true Tryz.f110 []
/- (*interleave/parse.reader).accept -/
noncomputable def af111:AF:=aF 0 2 true Tryz.f111 []
/- (*interleave/parse.reader).block -/
noncomputable def lp112_0:AC:=aL 0 Tryz.f112 []
def Bjo:=(by simp only[go_sem,lp112_0,Tryz.f112];rfl:lp112_0=_)
noncomputable def af112:AF:=aF 0 1 true Tryz.f112 [lp112_0]
/- interleave/interleaveref03.indent -/
noncomputable def lp115_0:AC:=aL 0 Tryz.f115 []
def Bjp:=(by simp only[go_sem,lp115_0,Tryz.f115];rfl:lp115_0=_)
noncomputable def af115:AF:=aF 0 1 false Tryz.f115 [lp115_0]
/- interleave/interleaveref03.head -/
noncomputable def af116:AF:=aF 0 1 false Tryz.f116 []
/- (*interleave/interleavemade.maker).expr -/
noncomputable def af117:AF:=aF 0 2 true Tryz.f117 []
/- interleave/interleavemade.binary -/
noncomputable def af118:AF:=aF 0 3 false Tryz.f118 []
/- interleave/interleavemade.name -/
noncomputable def af119:AF:=aF 0 1 false Tryz.f119 []
/- (*interleave/interleavemade.maker).holds -/
noncomputable def af120:AF:=aF 0 2 true Tryz.f120 []
/- (*interleave/interleavemade.maker).block -/
noncomputable def af121:AF:=aF 0 3 true Tryz.f121 []
/- interleave/interleaveref02.shapedDecl -/
noncomputable def af122:AF:=aF 0 1 false Tryz.f122 []
/- interleave/interleaveref01.IsName -/
noncomputable def lp123_0:AC:=aL 0 Tryz.f123 []
def Bjq:=(by simp only[go_sem,lp123_0,Tryz.f123];rfl:lp123_0=_)
noncomputable def af123:AF:=aF 0 1 false Tryz.f123 [lp123_0]
/- interleave/interleaveref02.ShapedStmts -/
noncomputable def lp124_0:AC:=aL 0 Tryz.f124 []
def Bjr:=(by simp only[go_sem,lp124_0,Tryz.f124];rfl:lp124_0=_)
noncomputable def af124:AF:=aF 0 1 false Tryz.f124 [lp124_0]
/- interleave/interleaveref04.DeclAt -/
noncomputable def lp125_0:AC:=aL 0 Tryz.f125 []
def Bjs:=(by simp only[go_sem,lp125_0,Tryz.f125];rfl:lp125_0=_)
noncomputable def af125:AF:=aF 0 2 false Tryz.f125 [lp125_0]
/- interleave/interleaveref04.ThreadAt -/
noncomputable def lp126_0:AC:=aL 0 Tryz.f126 []
def Bjt:=(by simp only[go_sem,lp126_0,Tryz.f126];rfl:lp126_0=_)
noncomputable def af126:AF:=aF 0 2 false Tryz.f126 [lp126_0]
/- interleave/interleaveref04.At -/
noncomputable def lp127_0:AC:=aL 0 Tryz.f127 []
def Bju:=(by simp only[go_sem,lp127_0,Tryz.f127];rfl:lp127_0=_)
noncomputable def af127:AF:=aF 0 2 false Tryz.f127 [lp127_0]
/- (*interleave/interleaveref04.walk).one -/
noncomputable def af128:AF:=aF 0 2 true Tryz.f128 []
/- interleave/format.Stmt -/
noncomputable def af130:AF:=aF 0 2 false Tryz.f130 []
/- cmp.isNaN[int] -/
noncomputable def af136:AF:=aF 0 1 false Tryz.f136 []
def af138:AF:=⟨2,[],true,.skip,some (Ab5)⟩
/- slices.rotateCmpFunc[interleave/api.Entry] -/
noncomputable def lp139_0:AC:=aL 0 Tryz.f139 []
def Bs1:=(by simp only[go_sem,lp139_0,Tryz.f139];rfl:lp139_0=_)
noncomputable def af139:AF:=aF 0 5 true Tryz.f139 [lp139_0]
/- (*interleave/parse.reader).number -/
noncomputable def af144:AF:=aF 0 1 true Tryz.f144 []
/- (*interleave/parse.reader).statement -/
noncomputable def af145:AF:=aF 0 1 true Tryz.f145 []
/- interleave/interleaveref03.Expr -/
noncomputable def af150:AF:=aF 0 1 false Tryz.f150 []
/- interleave/interleaveref01.Letter -/
noncomputable def af151:AF:=aF 0 1 false Tryz.f151 []
/- interleave/interleaveref01.IsKeyword -/
noncomputable def lp152_0:AC:=aL 0 Tryz.f152 []
def Bjv:=(by simp only[go_sem,lp152_0,Tryz.f152];rfl:lp152_0=_)
noncomputable def af152:AF:=aF 0 1 false Tryz.f152 [lp152_0]
/- interleave/interleaveref01.inner -/
noncomputable def af153:AF:=aF 0 1 false Tryz.f153 []
/- interleave/interleaveref02.ShapedStmt -/
noncomputable def af154:AF:=aF 0 1 false Tryz.f154 []
/- (*interleave/interleaveref04.walk).inside -/
noncomputable def lp155_0:AC:=aL 0 Tryz.f155 []
def Bjw:=(by simp only[go_sem,lp155_0,Tryz.f155];rfl:lp155_0=_)
noncomputable def af155:AF:=aF 0 4 true Tryz.f155 [lp155_0]
/- interleave/interleaveref04.or -/
noncomputable def af156:AF:=aF 0 2 false Tryz.f156 []
/- interleave/interleaveref04.want -/
noncomputable def af157:AF:=aF 0 5 false Tryz.f157 []
/- interleave/interleaveref04.Expr -/
noncomputable def af158:AF:=aF 0 3 false Tryz.f158 []
/- interleave/interleaveref04.nesting -/
noncomputable def af159:AF:=aF 0 1 false Tryz.f159 []
/- interleave/format.writeStmt -/
noncomputable def lp161_0:AC:=aL 0 Tryz.f161 []
def Bjx:=(by simp only[go_sem,lp161_0,Tryz.f161];rfl:lp161_0=_)
noncomputable def lp161_1:AC:=aL 0 Tryz.f161 [lp161_0]
def Bjy:=(by simp only[go_sem,lp161_1,Tryz.f161];rfl:lp161_1=_)
noncomputable def af161:AF:=aF 0 3 true Tryz.f161 [lp161_0,lp161_1]
def af162:AF:=⟨1,[],true,.skip,some (Wh 218 5)⟩
/- slices.swapRangeCmpFunc[interleave/api.Entry] -/
noncomputable def lp164_0:AC:=aL 0 Tryz.f164 []
def Bs2:=(by simp only[go_sem,lp164_0,Tryz.f164];rfl:lp164_0=_)
noncomputable def af164:AF:=aF 0 5 true Tryz.f164 [lp164_0]
/- (*interleave/parse.reader).assignment -/
noncomputable def af171:AF:=aF 0 2 true Tryz.f171 []
/- interleave/parse.rest -/
noncomputable def af172:AF:=aF 0 1 false Tryz.f172 []
/- interleave/interleaveref03.sign -/
noncomputable def af177:AF:=aF 0 1 false Tryz.f177 []
/- interleave/interleaveref03.put -/
noncomputable def af178:AF:=aF 0 2 false Tryz.f178 []
/- interleave/interleaveref01.Keywords -/
noncomputable def af179:AF:=aF 0 0 false Tryz.f179 []
/- interleave/interleaveref01.Digit -/
noncomputable def af180:AF:=aF 0 1 false Tryz.f180 []
/- interleave/interleaveref02.ShapedExpr -/
noncomputable def lp181_0:AC:=aL 0 Tryz.f181 []
def Bjz:=(by simp only[go_sem,lp181_0,Tryz.f181];rfl:lp181_0=_)
noncomputable def af181:AF:=aF 0 1 false Tryz.f181 [lp181_0]
/- interleave/interleaveref02.blank -/
noncomputable def af182:AF:=aF 0 1 false Tryz.f182 []
/- interleave/interleaveref04.KindOf -/
noncomputable def af183:AF:=aF 0 3 false Tryz.f183 []
/- interleave/interleaveref04.Nodes -/
noncomputable def lp184_0:AC:=aL 0 Tryz.f184 []
def Bj0:=(by simp only[go_sem,lp184_0,Tryz.f184];rfl:lp184_0=_)
noncomputable def af184:AF:=aF 0 1 false Tryz.f184 [lp184_0]
/- interleave/interleaveref04.names -/
noncomputable def lp185_0:AC:=aL 0 Tryz.f185 []
def Bj1:=(by simp only[go_sem,lp185_0,Tryz.f185];rfl:lp185_0=_)
noncomputable def af185:AF:=aF 0 3 false Tryz.f185 [lp185_0]
/- (*strings.Builder).WriteString -/
noncomputable def af188:AF:=aF 0 2 true Tryz.f188 []
/- interleave/format.heading -/
noncomputable def af189:AF:=aF 0 1 false Tryz.f189 []
/- (*interleave/parse.reader).expr -/
noncomputable def af195:AF:=aF 0 1 true Tryz.f195 []
/- (*interleave/parse.reader).conditional -/
noncomputable def af196:AF:=aF 0 2 true Tryz.f196 []
/- (*interleave/parse.reader).loop -/
noncomputable def af197:AF:=aF 0 2 true Tryz.f197 []
/- (*interleave/parse.reader).namedBlock -/
noncomputable def af198:AF:=aF 0 2 true Tryz.f198 []
/- (*interleave/parse.reader).plainBlock -/
noncomputable def af199:AF:=aF 0 2 true Tryz.f199 []
/- (*interleave/parse.reader).named -/
noncomputable def af200:AF:=aF 0 2 true Tryz.f200 []
/- (*interleave/parse.reader).setting -/
noncomputable def af201:AF:=aF 0 2 true Tryz.f201 []
/- (*interleave/parse.reader).getting -/
noncomputable def af202:AF:=aF 0 2 true Tryz.f202 []
/- interleave/interleaveref02.Operands -/
noncomputable def af205:AF:=aF 0 1 false Tryz.f205 []
def af212:AF:=⟨1,[],true,.skip,some (Y7 218)⟩
/- interleave/format.Expr -/
noncomputable def af213:AF:=aF 0 1 false Tryz.f213 []
/- (*interleave/parse.reader).binary -/
noncomputable def lp221_0:AC:=aL 0 Tryz.f221 []
def Bj2:=(by simp only[go_sem,lp221_0,Tryz.f221];rfl:lp221_0=_)
noncomputable def af221:AF:=aF 0 2 true Tryz.f221 [lp221_0]
/- interleave/format.writeExpr -/
noncomputable def af227:AF:=aF 0 2 true Tryz.f227 []
/- (*interleave/parse.reader).unary -/
noncomputable def af233:AF:=aF 0 1 true Tryz.f233 []
noncomputable def b233:AF:=tX (by simp only[go_sem,af233,Tryz.f233];rfl:af233=_)
/- (*interleave/parse.reader).operator -/
noncomputable def af234:AF:=aF 0 2 true Tryz.f234 []
/- interleave/format.operatorOf -/
noncomputable def af236:AF:=aF 0 1 false Tryz.f236 []
/- interleave/format.writeOperand -/
noncomputable def af237:AF:=aF 0 3 true Tryz.f237 []
/- interleave/format.operand -/
noncomputable def af238:AF:=aF 0 2 false Tryz.f238 []
/- (*interleave/parse.reader).primary -/
noncomputable def af239:AF:=aF 0 1 true Tryz.f239 []
/- interleave/parse.binaryOperator -/
noncomputable def af240:AF:=aF 0 1 false Tryz.f240 []
