/- The plain machine's forms of the functions, printed by km_table.py. -/
import Derived.Test.YtphikjgngompaacGreatDoorNk
set_option linter.all false
set_option maxRecDepth 100000
set_option maxHeartbeats 4000000
namespace Go.Proofs.YtphikjgngompaacGreatDoor.KM
open Go
def Azj:List V:=[.str [],.int .i64 0,.str [],.int .i64 7,.str [],.int .i64 7,.str [],.int .i64 7,.str [45],.int .i64 6,.str [33],.int .i64 6,.str [43],.int .i64 4,.str [45],.int .i64 4,.str [42],.int .i64 5,.str [47],.int .i64 5,.str [37],.int .i64 5,.str [61,61],.int .i64 3,.str [33,61],.int .i64 3,.str [60],.int .i64 3,.str [60,61],.int .i64 3,.str [62],.int .i64 3,.str [62,61],.int .i64 3,.str [38,38],.int .i64 2,.str [124,124],.int .i64 1]
def yI(k:IntKind)(b:Nat):TyR:=⟨.i k,[.int k 0],1,true,b,true⟩
def yB:TyR:=⟨.b,[.bool false],1,true,1,true⟩
def yS:TyR:=⟨.s,[.str []],1,true,16,true⟩
def yL(e:Nat):TyR:=⟨.sl e,[.nils],1,true,24,false⟩
def yP(e:Nat):TyR:=⟨.pt e,[.nilp],1,true,8,false⟩
def yF:TyR:=⟨.f,[.nilf],1,true,8,false⟩
def yN:TyR:=⟨.it,[.nili],1,true,16,false⟩
def yM(e:Nat):TyR:=⟨.mp e,[.nils],1,true,8,false⟩
def ty:Nat->TyR
 | 2=>yI .i64 8
 | 3=>yI .i64 8
 | 4=>yB
 | 5=>yI .u8 1
 | 9=>yS
 | 22=>yL 5
 | 24=>⟨.st [(0,22),(1,22),(2,22),(3,4)],[.nils,.nils,.nils,.bool false],4,false,80,false⟩
 | 25=>yL 30
 | 27=>⟨.st [(0,3),(1,25)],[.int .i64 0,.nils],2,false,32,false⟩
 | 28=>yL 57
 | 30=>⟨.st [(0,3),(1,28),(2,3),(3,3)],[.int .i64 0,.nils,.int .i64 0,.int .i64 0],4,false,48,false⟩
 | 31=>yL 82
 | 32=>yL 86
 | 34=>⟨.st [(0,31),(1,32)],[.nils,.nils],2,false,48,false⟩
 | 38=>yI .i64 8
 | 50=>yL 3
 | 57=>⟨.st [(0,9),(1,9),(2,3)],[.str [],.str [],.int .i64 0],3,false,40,true⟩
 | 60=>yF
 | 71=>yL 121
 | 74=>yP 76
 | 76=>⟨.st [(0,71),(1,3)],[.nils,.int .i64 0],2,false,32,false⟩
 | 82=>⟨.st [(0,3),(1,3),(2,9),(3,3),(4,2),(5,9)],[.int .i64 0,.int .i64 0,.str [],.int .i64 0,.int .i64 0,.str []],6,false,64,true⟩
 | 83=>yL 9
 | 84=>yL 100
 | 86=>⟨.st [(0,9),(1,3),(2,83),(3,84)],[.str [],.int .i64 0,.nils,.nils],4,false,72,false⟩
 | 88=>yP 93
 | 89=>yP 91
 | 91=>⟨.st [(0,22),(1,3)],[.nils,.int .i64 0],2,false,32,false⟩
 | 93=>⟨.st [(0,89),(1,3),(2,3),(3,4),(4,4),(5,4),(6,4),(7,83)],[.nilp,.int .i64 0,.int .i64 0,.bool false,.bool false,.bool false,.bool false,.nils],8,false,56,false⟩
 | 96=>yL 98
 | 98=>⟨.st [(0,3),(1,2),(2,9),(3,96)],[.int .i64 0,.int .i64 0,.str [],.nils],4,false,56,false⟩
 | 100=>⟨.st [(0,3),(1,3),(2,9),(3,9),(4,96),(5,98),(9,84),(10,84)],[.int .i64 0,.int .i64 0,.str [],.str [],.nils,.int .i64 0,.int .i64 0,.str [],.nils,.nils,.nils],11,false,176,false⟩
 | 106=>yL 83
 | 117=>yF
 | 121=>⟨.st [(0,3),(1,9),(2,3)],[.int .i64 0,.str [],.int .i64 0],3,false,32,true⟩
 | 137=>yP 139
 | 139=>⟨.st [(0,34),(2,3),(3,84),(4,83),(5,83)],[.nils,.nils,.int .i64 0,.nils,.nils,.nils],6,false,128,false⟩
 | 142=>yL 50
 | 147=>yI .u64 8
 | 175=>yM 3
 | 206=>yP 208
 | 208=>⟨.st [(0,206),(1,22)],[.nilp,.nils],2,false,32,false⟩
 | 227=>yN
 | 232=>yF
 | 291=>⟨.st [(0,9),(1,3)],[.str [],.int .i64 0],2,false,24,true⟩
 | 299=>⟨.ar 19 291,[.str [],.int .i64 0,.str [],.int .i64 0,.str [],.int .i64 0,.str [],.int .i64 0,.str [],.int .i64 0,.str [],.int .i64 0,.str [],.int .i64 0,.str [],.int .i64 0,.str [],.int .i64 0,.str [],.int .i64 0,.str [],.int .i64 0,.str [],.int .i64 0,.str [],.int .i64 0,.str [],.int .i64 0,.str [],.int .i64 0,.str [],.int .i64 0,.str [],.int .i64 0,.str [],.int .i64 0,.str [],.int .i64 0],38,false,456,true⟩
 | _=>yN
def glV:Nat->V
 | 9=>.imm Azj 0
 | _=>.und
def aF(w p:Nat)(h:Bool)(f:Func)(ls:List AC):AF:=rF ty glV (fun _=>w) p h f ls
def aL(w:Nat)(f:Func)(ls:List AC):AC:=Azf ty glV (fun _=>w) f ls
def tX{a b:AF}(_:a=b):AF:=b
attribute [go_sem] yI yB yS yL yP yF yN yM ty glV aF aL
/- interleave/interleavelaw41.VersionRefuses -/
noncomputable def lp3_0:AC:=aL 0 Tryz.f3 []
def Bnz:=(by simp only[go_sem,lp3_0,Tryz.f3];rfl:lp3_0=_)
noncomputable def af3:AF:=aF 0 2 false Tryz.f3 [lp3_0]
/- (interleave/interleavelaw41.Pair).versions -/
noncomputable def af4:AF:=aF 0 1 false Tryz.f4 []
/- interleave/interleavelaw41.awake -/
noncomputable def af5:AF:=aF 0 0 false Tryz.f5 []
/- interleave/version.Rebase -/
noncomputable def lp6_0:AC:=aL 0 Tryz.f6 []
def Bn0:=(by simp only[go_sem,lp6_0,Tryz.f6];rfl:lp6_0=_)
noncomputable def af6:AF:=aF 0 3 false Tryz.f6 [lp6_0]
/- interleave/interleaveref39.Rebase -/
noncomputable def lp7_0:AC:=aL 0 Tryz.f7 []
def Bn1:=(by simp only[go_sem,lp7_0,Tryz.f7];rfl:lp7_0=_)
noncomputable def lp7_1:AC:=aL 0 Tryz.f7 [lp7_0]
def Bn2:=(by simp only[go_sem,lp7_1,Tryz.f7];rfl:lp7_1=_)
noncomputable def af7:AF:=aF 0 3 false Tryz.f7 [lp7_0,lp7_1]
/- interleave/interleaveref39.SameBaseline -/
noncomputable def af8:AF:=aF 0 2 false Tryz.f8 []
/- interleave/interleaveref39.SameEntries -/
noncomputable def lp9_0:AC:=aL 0 Tryz.f9 []
def Bn3:=(by simp only[go_sem,lp9_0,Tryz.f9];rfl:lp9_0=_)
noncomputable def af9:AF:=aF 0 2 false Tryz.f9 [lp9_0]
/- interleave/parse.Parse -/
noncomputable def af10:AF:=aF 0 1 false Tryz.f10 []
/- interleave/interleaveref03.Program -/
noncomputable def lp11_0:AC:=aL 0 Tryz.f11 []
def Bj1:=(by simp only[go_sem,lp11_0,Tryz.f11];rfl:lp11_0=_)
noncomputable def lp11_1:AC:=aL 0 Tryz.f11 [lp11_0]
def Bj2:=(by simp only[go_sem,lp11_1,Tryz.f11];rfl:lp11_1=_)
noncomputable def lp11_2:AC:=aL 0 Tryz.f11 [lp11_0,lp11_1]
def Bj3:=(by simp only[go_sem,lp11_2,Tryz.f11];rfl:lp11_2=_)
noncomputable def af11:AF:=aF 0 1 false Tryz.f11 [lp11_0,lp11_1,lp11_2]
/- interleave/interleavemade.Program -/
noncomputable def lp12_0:AC:=aL 0 Tryz.f12 []
def Bj4:=(by simp only[go_sem,lp12_0,Tryz.f12];rfl:lp12_0=_)
noncomputable def lp12_1:AC:=aL 0 Tryz.f12 [lp12_0]
def Bj5:=(by simp only[go_sem,lp12_1,Tryz.f12];rfl:lp12_1=_)
noncomputable def af12:AF:=aF 0 1 false Tryz.f12 [lp12_0,lp12_1]
/- interleave/interleavescene.Edit -/
noncomputable def lp13_0:AC:=aL 0 Tryz.f13 []
def Bj6:=(by simp only[go_sem,lp13_0,Tryz.f13];rfl:lp13_0=_)
noncomputable def lp13_1:AC:=aL 0 Tryz.f13 [lp13_0]
def Bj7:=(by simp only[go_sem,lp13_1,Tryz.f13];rfl:lp13_1=_)
noncomputable def af13:AF:=aF 0 2 false Tryz.f13 [lp13_0,lp13_1]
/- interleave/interleaveref31.Same -/
noncomputable def lp14_0:AC:=aL 0 Tryz.f14 []
def Bj8:=(by simp only[go_sem,lp14_0,Tryz.f14];rfl:lp14_0=_)
noncomputable def af14:AF:=aF 0 2 false Tryz.f14 [lp14_0]
/- interleave/version.Match -/
noncomputable def lp15_0:AC:=aL 0 Tryz.f15 []
def Bj9:=(by simp only[go_sem,lp15_0,Tryz.f15];rfl:lp15_0=_)
noncomputable def lp15_1:AC:=aL 0 Tryz.f15 [lp15_0]
def Bka:=(by simp only[go_sem,lp15_1,Tryz.f15];rfl:lp15_1=_)
noncomputable def lp15_2:AC:=aL 0 Tryz.f15 [lp15_0,lp15_1]
def Bkb:=(by simp only[go_sem,lp15_2,Tryz.f15];rfl:lp15_2=_)
noncomputable def af15:AF:=aF 0 2 false Tryz.f15 [lp15_0,lp15_1,lp15_2]
/- interleave/baseline.Valid -/
noncomputable def lp16_0:AC:=aL 0 Tryz.f16 []
def Bkc:=(by simp only[go_sem,lp16_0,Tryz.f16];rfl:lp16_0=_)
noncomputable def af16:AF:=aF 0 1 false Tryz.f16 [lp16_0]
/- interleave/version.carry -/
noncomputable def lp17_0:AC:=aL 0 Tryz.f17 []
def Bkd:=(by simp only[go_sem,lp17_0,Tryz.f17];rfl:lp17_0=_)
noncomputable def lp17_1:AC:=aL 0 Tryz.f17 [lp17_0]
def Bke:=(by simp only[go_sem,lp17_1,Tryz.f17];rfl:lp17_1=_)
noncomputable def af17:AF:=aF 0 4 false Tryz.f17 [lp17_0,lp17_1]
/- slices.Clone[[]interleave/api.SiteKey,interleave/api.SiteKey] -/
noncomputable def af18:AF:=aF 0 1 false Tryz.f18 []
/- slices.SortStableFunc[[]interleave/api.Entry,interleave/api.Entry] -/
noncomputable def af19:AF:=aF 0 2 true Tryz.f19 []
/- interleave/version.Rebase$1 -/
noncomputable def af20:AF:=aF 0 2 false Tryz.f20 []
/- interleave/baseline.Less -/
noncomputable def af21:AF:=aF 0 2 false Tryz.f21 []
/- interleave/version.merged -/
noncomputable def lp22_0:AC:=aL 0 Tryz.f22 []
def Bkf:=(by simp only[go_sem,lp22_0,Tryz.f22];rfl:lp22_0=_)
noncomputable def af22:AF:=aF 0 1 false Tryz.f22 [lp22_0]
/- interleave/interleaveref39.ValidBaseline -/
noncomputable def lp23_0:AC:=aL 0 Tryz.f23 []
def Bkg:=(by simp only[go_sem,lp23_0,Tryz.f23];rfl:lp23_0=_)
noncomputable def lp23_1:AC:=aL 0 Tryz.f23 [lp23_0]
def Bkh:=(by simp only[go_sem,lp23_1,Tryz.f23];rfl:lp23_1=_)
noncomputable def af23:AF:=aF 0 1 false Tryz.f23 [lp23_0,lp23_1]
/- interleave/interleaveref39.Match -/
noncomputable def lp24_0:AC:=aL 0 Tryz.f24 []
def Bki:=(by simp only[go_sem,lp24_0,Tryz.f24];rfl:lp24_0=_)
noncomputable def lp24_1:AC:=aL 0 Tryz.f24 [lp24_0]
def Bkj:=(by simp only[go_sem,lp24_1,Tryz.f24];rfl:lp24_1=_)
noncomputable def lp24_2:AC:=aL 0 Tryz.f24 [lp24_0,lp24_1]
def Bkk:=(by simp only[go_sem,lp24_2,Tryz.f24];rfl:lp24_2=_)
noncomputable def lp24_3:AC:=aL 0 Tryz.f24 [lp24_0,lp24_1,lp24_2]
def Bkl:=(by simp only[go_sem,lp24_3,Tryz.f24];rfl:lp24_3=_)
noncomputable def af24:AF:=aF 0 2 false Tryz.f24 [lp24_0,lp24_1,lp24_2,lp24_3]
/- interleave/interleaveref39.Keys -/
noncomputable def lp25_0:AC:=aL 0 Tryz.f25 []
def Bkm:=(by simp only[go_sem,lp25_0,Tryz.f25];rfl:lp25_0=_)
noncomputable def lp25_1:AC:=aL 0 Tryz.f25 [lp25_0]
def Bkn:=(by simp only[go_sem,lp25_1,Tryz.f25];rfl:lp25_1=_)
noncomputable def lp25_2:AC:=aL 0 Tryz.f25 [lp25_0,lp25_1]
def Bko:=(by simp only[go_sem,lp25_2,Tryz.f25];rfl:lp25_2=_)
noncomputable def af25:AF:=aF 0 1 false Tryz.f25 [lp25_0,lp25_1,lp25_2]
/- interleave/interleaveref39.moved -/
noncomputable def lp26_0:AC:=aL 0 Tryz.f26 []
def Bkp:=(by simp only[go_sem,lp26_0,Tryz.f26];rfl:lp26_0=_)
noncomputable def af26:AF:=aF 0 3 false Tryz.f26 [lp26_0]
/- interleave/interleaveref39.copied -/
noncomputable def af27:AF:=aF 0 1 false Tryz.f27 []
/- interleave/interleaveref37.Least -/
noncomputable def lp28_0:AC:=aL 0 Tryz.f28 []
def Bkq:=(by simp only[go_sem,lp28_0,Tryz.f28];rfl:lp28_0=_)
noncomputable def af28:AF:=aF 0 1 false Tryz.f28 [lp28_0]
/- interleave/interleaveref39.place -/
noncomputable def lp29_0:AC:=aL 0 Tryz.f29 []
def Bkr:=(by simp only[go_sem,lp29_0,Tryz.f29];rfl:lp29_0=_)
noncomputable def af29:AF:=aF 0 2 false Tryz.f29 [lp29_0]
/- interleave/interleaveref39.put -/
noncomputable def af30:AF:=aF 2 3 false Tryz.f30 []
/- interleave/interleaveref39.CompareEntries -/
noncomputable def lp31_0:AC:=aL 0 Tryz.f31 []
def Bks:=(by simp only[go_sem,lp31_0,Tryz.f31];rfl:lp31_0=_)
noncomputable def af31:AF:=aF 0 2 false Tryz.f31 [lp31_0]
/- interleave/token.Scan -/
noncomputable def lp32_0:AC:=aL 0 Tryz.f32 []
def Bkt:=(by simp only[go_sem,lp32_0,Tryz.f32];rfl:lp32_0=_)
noncomputable def af32:AF:=aF 0 1 false Tryz.f32 [lp32_0]
/- (*interleave/parse.reader).program -/
noncomputable def lp33_0:AC:=aL 0 Tryz.f33 []
def Bku:=(by simp only[go_sem,lp33_0,Tryz.f33];rfl:lp33_0=_)
noncomputable def lp33_1:AC:=aL 0 Tryz.f33 [lp33_0]
def Bkv:=(by simp only[go_sem,lp33_1,Tryz.f33];rfl:lp33_1=_)
noncomputable def af33:AF:=aF 0 1 true Tryz.f33 [lp33_0,lp33_1]
/- (*interleave/parse.reader).line -/
noncomputable def af34:AF:=aF 0 1 true Tryz.f34 []
/- interleave/interleaveref03.decl -/
noncomputable def af35:AF:=aF 0 1 false Tryz.f35 []
/- interleave/interleaveref03.stmts -/
noncomputable def lp36_0:AC:=aL 0 Tryz.f36 []
def Bkw:=(by simp only[go_sem,lp36_0,Tryz.f36];rfl:lp36_0=_)
noncomputable def af36:AF:=aF 0 2 false Tryz.f36 [lp36_0]
/- interleave/interleavemade.decls -/
noncomputable def af37:AF:=aF 2 0 false Tryz.f37 []
/- (*interleave/interleavemade.Tape).Next -/
noncomputable def af38:AF:=aF 0 2 true Tryz.f38 []
/- (*interleave/interleavemade.maker).stmts -/
noncomputable def lp39_0:AC:=aL 0 Tryz.f39 []
def Bkx:=(by simp only[go_sem,lp39_0,Tryz.f39];rfl:lp39_0=_)
noncomputable def af39:AF:=aF 0 3 true Tryz.f39 [lp39_0]
/- interleave/interleaveref04.Program -/
noncomputable def lp40_0:AC:=aL 0 Tryz.f40 []
def Bky:=(by simp only[go_sem,lp40_0,Tryz.f40];rfl:lp40_0=_)
noncomputable def lp40_1:AC:=aL 0 Tryz.f40 [lp40_0]
def Bkz:=(by simp only[go_sem,lp40_1,Tryz.f40];rfl:lp40_1=_)
noncomputable def af40:AF:=aF 0 1 false Tryz.f40 [lp40_0,lp40_1]
/- interleave/interleavemade.assign -/
noncomputable def af41:AF:=aF 0 2 false Tryz.f41 []
/- interleave/interleavemade.num -/
noncomputable def af42:AF:=aF 0 1 false Tryz.f42 []
/- interleave/baseline.Lines -/
noncomputable def lp43_0:AC:=aL 0 Tryz.f43 []
def Bk0:=(by simp only[go_sem,lp43_0,Tryz.f43];rfl:lp43_0=_)
noncomputable def af43:AF:=aF 0 1 false Tryz.f43 [lp43_0]
/- interleave/version.align -/
noncomputable def lp44_0:AC:=aL 0 Tryz.f44 []
def Bk1:=(by simp only[go_sem,lp44_0,Tryz.f44];rfl:lp44_0=_)
noncomputable def lp44_1:AC:=aL 0 Tryz.f44 [lp44_0]
def Bk2:=(by simp only[go_sem,lp44_1,Tryz.f44];rfl:lp44_1=_)
noncomputable def af44:AF:=aF 0 2 false Tryz.f44 [lp44_0,lp44_1]
/- interleave/baseline.validEntry -/
noncomputable def lp45_0:AC:=aL 0 Tryz.f45 []
def Bk3:=(by simp only[go_sem,lp45_0,Tryz.f45];rfl:lp45_0=_)
noncomputable def af45:AF:=aF 0 1 false Tryz.f45 [lp45_0]
noncomputable def b45:AF:=tX (by simp only[go_sem,af45,Tryz.f45];rfl:af45=_)
/- interleave/baseline.Site -/
noncomputable def af46:AF:=aF 0 2 false Tryz.f46 []
def af47:AF:=⟨1,[],true,.skip,some (Aaz)⟩
/- interleave/version.leastRotation -/
noncomputable def lp48_0:AC:=aL 0 Tryz.f48 []
def Bk4:=(by simp only[go_sem,lp48_0,Tryz.f48];rfl:lp48_0=_)
noncomputable def af48:AF:=aF 0 1 false Tryz.f48 [lp48_0]
/- interleave/baseline.Key -/
noncomputable def af49:AF:=aF 0 2 false Tryz.f49 []
/- slices.stableCmpFunc[interleave/api.Entry] -/
noncomputable def lp50_0:AC:=aL 0 Tryz.f50 []
def Ax8:=(by simp only[go_sem,lp50_0,Tryz.f50];rfl:lp50_0=_)
noncomputable def lp50_1:AC:=aL 0 Tryz.f50 [lp50_0]
def Bk5:=(by simp only[go_sem,lp50_1,Tryz.f50];rfl:lp50_1=_)
noncomputable def lp50_2:AC:=aL 0 Tryz.f50 [lp50_0,lp50_1]
def Ax9:=(by simp only[go_sem,lp50_2,Tryz.f50];rfl:lp50_2=_)
noncomputable def af50:AF:=aF 0 3 true Tryz.f50 [lp50_0,lp50_1,lp50_2]
/- interleave/baseline.compare -/
noncomputable def af51:AF:=aF 0 2 false Tryz.f51 []
/- interleave/interleaveref39.validKey -/
noncomputable def lp52_0:AC:=aL 0 Tryz.f52 []
def Bk6:=(by simp only[go_sem,lp52_0,Tryz.f52];rfl:lp52_0=_)
noncomputable def af52:AF:=aF 0 1 false Tryz.f52 [lp52_0]
/- interleave/interleaveref39.Lines -/
noncomputable def lp53_0:AC:=aL 0 Tryz.f53 []
def Bk7:=(by simp only[go_sem,lp53_0,Tryz.f53];rfl:lp53_0=_)
noncomputable def af53:AF:=aF 0 1 false Tryz.f53 [lp53_0]
/- interleave/interleaveref39.pair -/
noncomputable def lp54_0:AC:=aL 0 Tryz.f54 []
def Bk8:=(by simp only[go_sem,lp54_0,Tryz.f54];rfl:lp54_0=_)
noncomputable def lp54_1:AC:=aL 0 Tryz.f54 [lp54_0]
def Bk9:=(by simp only[go_sem,lp54_1,Tryz.f54];rfl:lp54_1=_)
noncomputable def af54:AF:=aF 0 2 false Tryz.f54 [lp54_0,lp54_1]
/- interleave/interleaveref39.SiteOf -/
noncomputable def lp55_0:AC:=aL 0 Tryz.f55 []
def Bla:=(by simp only[go_sem,lp55_0,Tryz.f55];rfl:lp55_0=_)
noncomputable def af55:AF:=aF 0 2 false Tryz.f55 [lp55_0]
/- interleave/interleaveref37.less -/
noncomputable def lp56_0:AC:=aL 0 Tryz.f56 []
def Blb:=(by simp only[go_sem,lp56_0,Tryz.f56];rfl:lp56_0=_)
noncomputable def af56:AF:=aF 0 2 false Tryz.f56 [lp56_0]
/- interleave/interleaveref39.Compare -/
noncomputable def lp57_0:AC:=aL 0 Tryz.f57 []
def Aya:=(by simp only[go_sem,lp57_0,Tryz.f57];rfl:lp57_0=_)
noncomputable def af57:AF:=aF 0 2 false Tryz.f57 [lp57_0]
/- interleave/interleaveref39.CompareKeys -/
noncomputable def af58:AF:=aF 0 2 false Tryz.f58 []
/- interleave/token.comment -/
noncomputable def af60:AF:=aF 0 1 false Tryz.f60 []
/- interleave/token.first -/
noncomputable def af61:AF:=aF 0 1 false Tryz.f61 []
/- (*interleave/parse.reader).next -/
noncomputable def af62:AF:=aF 0 1 true Tryz.f62 []
/- interleave/parse.declared -/
noncomputable def af63:AF:=aF 0 1 false Tryz.f63 []
/- (*interleave/parse.reader).declaration -/
noncomputable def af64:AF:=aF 0 1 true Tryz.f64 []
/- (*interleave/parse.reader).at -/
noncomputable def af65:AF:=aF 0 2 true Tryz.f65 []
/- (*interleave/parse.reader).thread -/
noncomputable def lp66_0:AC:=aL 0 Tryz.f66 []
def Blc:=(by simp only[go_sem,lp66_0,Tryz.f66];rfl:lp66_0=_)
noncomputable def af66:AF:=aF 0 1 true Tryz.f66 [lp66_0]
/- interleave/interleaveref03.Stmt -/
noncomputable def af69:AF:=aF 0 2 false Tryz.f69 []
/- (*interleave/interleavemade.maker).stmt -/
noncomputable def af70:AF:=aF 0 2 true Tryz.f70 []
/- interleave/interleaveref02.Shaped -/
noncomputable def lp71_0:AC:=aL 0 Tryz.f71 []
def Bld:=(by simp only[go_sem,lp71_0,Tryz.f71];rfl:lp71_0=_)
noncomputable def lp71_1:AC:=aL 0 Tryz.f71 [lp71_0]
def Ble:=(by simp only[go_sem,lp71_1,Tryz.f71];rfl:lp71_1=_)
noncomputable def lp71_2:AC:=aL 0 Tryz.f71 [lp71_0,lp71_1]
def Blf:=(by simp only[go_sem,lp71_2,Tryz.f71];rfl:lp71_2=_)
noncomputable def af71:AF:=aF 0 1 false Tryz.f71 [lp71_0,lp71_1,lp71_2]
/- interleave/interleaveref04.decls -/
noncomputable def lp72_0:AC:=aL 0 Tryz.f72 []
def Blg:=(by simp only[go_sem,lp72_0,Tryz.f72];rfl:lp72_0=_)
noncomputable def af72:AF:=aF 0 1 false Tryz.f72 [lp72_0]
/- interleave/interleaveref04.threads -/
noncomputable def lp73_0:AC:=aL 0 Tryz.f73 []
def Blh:=(by simp only[go_sem,lp73_0,Tryz.f73];rfl:lp73_0=_)
noncomputable def lp73_1:AC:=aL 0 Tryz.f73 [lp73_0]
def Bli:=(by simp only[go_sem,lp73_1,Tryz.f73];rfl:lp73_1=_)
noncomputable def lp73_2:AC:=aL 0 Tryz.f73 [lp73_0,lp73_1]
def Blj:=(by simp only[go_sem,lp73_2,Tryz.f73];rfl:lp73_2=_)
noncomputable def af73:AF:=aF 0 1 false Tryz.f73 [lp73_0,lp73_1,lp73_2]
/- interleave/interleaveref04.Count -/
noncomputable def lp74_0:AC:=aL 0 Tryz.f74 []
def Bll:=(by simp only[go_sem,lp74_0,Tryz.f74];rfl:lp74_0=_)
noncomputable def af74:AF:=aF 0 1 false Tryz.f74 [lp74_0]
/- (*interleave/interleaveref04.walk).all -/
noncomputable def lp75_0:AC:=aL 0 Tryz.f75 []
def Blm:=(by simp only[go_sem,lp75_0,Tryz.f75];rfl:lp75_0=_)
noncomputable def af75:AF:=aF 0 2 true Tryz.f75 [lp75_0]
/- interleave/baseline.appendLines -/
noncomputable def lp76_0:AC:=aL 0 Tryz.f76 []
def Bln:=(by simp only[go_sem,lp76_0,Tryz.f76];rfl:lp76_0=_)
noncomputable def af76:AF:=aF 0 2 true Tryz.f76 [lp76_0]
/- interleave/version.common -/
noncomputable def lp77_0:AC:=aL 0 Tryz.f77 []
def Blo:=(by simp only[go_sem,lp77_0,Tryz.f77];rfl:lp77_0=_)
noncomputable def lp77_1:AC:=aL 0 Tryz.f77 [lp77_0]
def Blp:=(by simp only[go_sem,lp77_1,Tryz.f77];rfl:lp77_1=_)
noncomputable def af77:AF:=aF 0 2 false Tryz.f77 [lp77_0,lp77_1]
/- interleave/baseline.validKey -/
noncomputable def lp78_0:AC:=aL 0 Tryz.f78 []
def Blq:=(by simp only[go_sem,lp78_0,Tryz.f78];rfl:lp78_0=_)
noncomputable def af78:AF:=aF 0 1 false Tryz.f78 [lp78_0]
/- slices.Index[[]interleave/api.SiteKey,interleave/api.SiteKey] -/
noncomputable def lp79_0:AC:=aL 0 Tryz.f79 []
def Blr:=(by simp only[go_sem,lp79_0,Tryz.f79];rfl:lp79_0=_)
noncomputable def af79:AF:=aF 0 2 false Tryz.f79 [lp79_0]
/- interleave/baseline.keys -/
noncomputable def lp80_0:AC:=aL 0 Tryz.f80 []
def Bls:=(by simp only[go_sem,lp80_0,Tryz.f80];rfl:lp80_0=_)
noncomputable def lp80_1:AC:=aL 0 Tryz.f80 [lp80_0]
def Blt:=(by simp only[go_sem,lp80_1,Tryz.f80];rfl:lp80_1=_)
noncomputable def af80:AF:=aF 0 1 false Tryz.f80 [lp80_0,lp80_1]
/- slices.Clone[[]int,int] -/
noncomputable def af83:AF:=aF 0 1 false Tryz.f83 []
/- slices.Concat[[]int,int] -/
noncomputable def lp84_0:AC:=aL 0 Tryz.f84 []
def Alt:=(by simp only[go_sem,lp84_0,Tryz.f84];rfl:lp84_0=_)
noncomputable def lp84_1:AC:=aL 0 Tryz.f84 [lp84_0]
def Alu:=(by simp only[go_sem,lp84_1,Tryz.f84];rfl:lp84_1=_)
noncomputable def af84:AF:=aF 0 1 false Tryz.f84 [lp84_0,lp84_1]
/- slices.Compare[[]int,int] -/
noncomputable def lp85_0:AC:=aL 0 Tryz.f85 []
def Blu:=(by simp only[go_sem,lp85_0,Tryz.f85];rfl:lp85_0=_)
noncomputable def af85:AF:=aF 0 2 false Tryz.f85 [lp85_0]
/- slices.insertionSortCmpFunc[interleave/api.Entry] -/
noncomputable def lp86_0:AC:=aL 0 Tryz.f86 []
def Blv:=(by simp only[go_sem,lp86_0,Tryz.f86];rfl:lp86_0=_)
noncomputable def lp86_1:AC:=aL 0 Tryz.f86 [lp86_0]
def Ayb:=(by simp only[go_sem,lp86_1,Tryz.f86];rfl:lp86_1=_)
noncomputable def af86:AF:=aF 0 4 true Tryz.f86 [lp86_0,lp86_1]
/- slices.symMergeCmpFunc[interleave/api.Entry] -/
noncomputable def lp87_0:AC:=aL 0 Tryz.f87 []
def Blw:=(by simp only[go_sem,lp87_0,Tryz.f87];rfl:lp87_0=_)
noncomputable def lp87_1:AC:=aL 0 Tryz.f87 [lp87_0]
def Blx:=(by simp only[go_sem,lp87_1,Tryz.f87];rfl:lp87_1=_)
noncomputable def lp87_2:AC:=aL 0 Tryz.f87 [lp87_0,lp87_1]
def Bly:=(by simp only[go_sem,lp87_2,Tryz.f87];rfl:lp87_2=_)
noncomputable def lp87_3:AC:=aL 0 Tryz.f87 [lp87_0,lp87_1,lp87_2]
def Blz:=(by simp only[go_sem,lp87_3,Tryz.f87];rfl:lp87_3=_)
noncomputable def lp87_4:AC:=aL 0 Tryz.f87 [lp87_0,lp87_1,lp87_2,lp87_3]
def Bl0:=(by simp only[go_sem,lp87_4,Tryz.f87];rfl:lp87_4=_)
noncomputable def af87:AF:=aF 0 5 true Tryz.f87 [lp87_0,lp87_1,lp87_2,lp87_3,lp87_4]
/- cmp.Or[int] -/
noncomputable def lp88_0:AC:=aL 0 Tryz.f88 []
def Bl1:=(by simp only[go_sem,lp88_0,Tryz.f88];rfl:lp88_0=_)
noncomputable def af88:AF:=aF 0 1 false Tryz.f88 [lp88_0]
/- cmp.Compare[int] -/
noncomputable def af89:AF:=aF 0 2 false Tryz.f89 []
/- slices.CompareFunc[[]interleave/api.SiteKey,[]interleave/api.SiteKey,interleave/api.SiteKey,interleave/api.SiteKey] -/
noncomputable def lp90_0:AC:=aL 0 Tryz.f90 []
def Bl2:=(by simp only[go_sem,lp90_0,Tryz.f90];rfl:lp90_0=_)
noncomputable def af90:AF:=aF 0 3 true Tryz.f90 [lp90_0]
/- interleave/baseline.compareKeys -/
noncomputable def af91:AF:=aF 0 2 false Tryz.f91 []
/- interleave/interleaveref01.IsName -/
noncomputable def lp92_0:AC:=aL 0 Tryz.f92 []
def Bl3:=(by simp only[go_sem,lp92_0,Tryz.f92];rfl:lp92_0=_)
noncomputable def af92:AF:=aF 0 1 false Tryz.f92 [lp92_0]
/- interleave/interleaveref39.preorder -/
noncomputable def lp93_0:AC:=aL 0 Tryz.f93 []
def Bl4:=(by simp only[go_sem,lp93_0,Tryz.f93];rfl:lp93_0=_)
noncomputable def af93:AF:=aF 0 2 false Tryz.f93 [lp93_0]
/- interleave/interleaveref39.common -/
noncomputable def lp94_0:AC:=aL 0 Tryz.f94 []
def Bl5:=(by simp only[go_sem,lp94_0,Tryz.f94];rfl:lp94_0=_)
noncomputable def lp94_1:AC:=aL 0 Tryz.f94 [lp94_0]
def Bl6:=(by simp only[go_sem,lp94_1,Tryz.f94];rfl:lp94_1=_)
noncomputable def lp94_2:AC:=aL 0 Tryz.f94 [lp94_0,lp94_1]
def Bl7:=(by simp only[go_sem,lp94_2,Tryz.f94];rfl:lp94_2=_)
noncomputable def af94:AF:=aF 0 2 false Tryz.f94 [lp94_0,lp94_1,lp94_2]
/- interleave/token.isLetter -/
noncomputable def af98:AF:=aF 0 1 false Tryz.f98 []
/- interleave/token.word -/
noncomputable def lp99_0:AC:=aL 0 Tryz.f99 []
def Bl8:=(by simp only[go_sem,lp99_0,Tryz.f99];rfl:lp99_0=_)
noncomputable def af99:AF:=aF 0 1 false Tryz.f99 [lp99_0]
/- interleave/token.isDigit -/
noncomputable def af100:AF:=aF 0 1 false Tryz.f100 []
/- interleave/token.number -/
noncomputable def lp101_0:AC:=aL 0 Tryz.f101 []
def Bf0:=(by simp only[go_sem,lp101_0,Tryz.f101];rfl:lp101_0=_)
noncomputable def af101:AF:=aF 0 1 false Tryz.f101 [lp101_0]
/- interleave/token.sign -/
noncomputable def af102:AF:=aF 0 1 false Tryz.f102 []
/- (*interleave/parse.reader).name -/
noncomputable def af103:AF:=aF 0 1 true Tryz.f103 []
/- (*interleave/parse.reader).size -/
noncomputable def af104:AF:=aF 0 2 true Tryz.f104 []
/- (*interleave/parse.reader).initial -/
noncomputable def af105:AF:=aF 0 2 true Tryz.f105 []
/- (*interleave/parse.reader).accept -/
noncomputable def af106:AF:=aF 0 2 true Tryz.f106 []
/- (*interleave/parse.reader).block -/
noncomputable def lp107_0:AC:=aL 0 Tryz.f107 []
def Bf1:=(by simp only[go_sem,lp107_0,Tryz.f107];rfl:lp107_0=_)
noncomputable def af107:AF:=aF 0 1 true Tryz.f107 [lp107_0]
/- interleave/interleaveref03.indent -/
noncomputable def lp110_0:AC:=aL 0 Tryz.f110 []
def Bf2:=(by simp only[go_sem,lp110_0,Tryz.f110];rfl:lp110_0=_)
noncomputable def af110:AF:=aF 0 1 false Tryz.f110 [lp110_0]
/- interleave/interleaveref03.head -/
noncomputable def af111:AF:=aF 0 1 false Tryz.f111 []
/- (*interleave/interleavemade.maker).expr -/
noncomputable def af112:AF:=aF 0 2 true Tryz.f112 []
/- interleave/interleavemade.binary -/
noncomputable def af113:AF:=aF 0 3 false Tryz.f113 []
/- interleave/interleavemade.name -/
noncomputable def af114:AF:=aF 0 1 false Tryz.f114 []
/- (*interleave/interleavemade.maker).holds -/
noncomputable def af115:AF:=aF 0 2 true Tryz.f115 []
/- (*interleave/interleavemade.maker).block -/
noncomputable def af116:AF:=aF 0 3 true Tryz.f116 []
/- interleave/interleaveref02.shapedDecl -/
noncomputable def af117:AF:=aF 0 1 false Tryz.f117 []
/- interleave/interleaveref02.ShapedStmts -/
noncomputable def lp118_0:AC:=aL 0 Tryz.f118 []
def Bf3:=(by simp only[go_sem,lp118_0,Tryz.f118];rfl:lp118_0=_)
noncomputable def af118:AF:=aF 0 1 false Tryz.f118 [lp118_0]
/- interleave/interleaveref04.DeclAt -/
noncomputable def lp119_0:AC:=aL 0 Tryz.f119 []
def Bf4:=(by simp only[go_sem,lp119_0,Tryz.f119];rfl:lp119_0=_)
noncomputable def af119:AF:=aF 0 2 false Tryz.f119 [lp119_0]
/- interleave/interleaveref04.ThreadAt -/
noncomputable def lp120_0:AC:=aL 0 Tryz.f120 []
def Bf5:=(by simp only[go_sem,lp120_0,Tryz.f120];rfl:lp120_0=_)
noncomputable def af120:AF:=aF 0 2 false Tryz.f120 [lp120_0]
/- interleave/interleaveref04.At -/
noncomputable def lp121_0:AC:=aL 0 Tryz.f121 []
def Bf6:=(by simp only[go_sem,lp121_0,Tryz.f121];rfl:lp121_0=_)
noncomputable def af121:AF:=aF 0 2 false Tryz.f121 [lp121_0]
/- (*interleave/interleaveref04.walk).one -/
noncomputable def af122:AF:=aF 0 2 true Tryz.f122 []
/- interleave/format.Stmt -/
noncomputable def af124:AF:=aF 0 2 false Tryz.f124 []
def af137:AF:=⟨2,[],true,.skip,some (Aan)⟩
/- slices.rotateCmpFunc[interleave/api.Entry] -/
noncomputable def lp138_0:AC:=aL 0 Tryz.f138 []
def Bf7:=(by simp only[go_sem,lp138_0,Tryz.f138];rfl:lp138_0=_)
noncomputable def af138:AF:=aF 0 5 true Tryz.f138 [lp138_0]
/- cmp.isNaN[int] -/
noncomputable def af139:AF:=aF 0 1 false Tryz.f139 []
/- interleave/interleaveref01.Letter -/
noncomputable def af140:AF:=aF 0 1 false Tryz.f140 []
/- interleave/interleaveref01.IsKeyword -/
noncomputable def lp141_0:AC:=aL 0 Tryz.f141 []
def Bf8:=(by simp only[go_sem,lp141_0,Tryz.f141];rfl:lp141_0=_)
noncomputable def af141:AF:=aF 0 1 false Tryz.f141 [lp141_0]
/- interleave/interleaveref01.inner -/
noncomputable def af142:AF:=aF 0 1 false Tryz.f142 []
/- (*interleave/parse.reader).number -/
noncomputable def af147:AF:=aF 0 1 true Tryz.f147 []
/- (*interleave/parse.reader).statement -/
noncomputable def af148:AF:=aF 0 1 true Tryz.f148 []
/- interleave/interleaveref03.Expr -/
noncomputable def af153:AF:=aF 0 1 false Tryz.f153 []
/- interleave/interleaveref02.ShapedStmt -/
noncomputable def af154:AF:=aF 0 1 false Tryz.f154 []
/- (*interleave/interleaveref04.walk).inside -/
noncomputable def lp155_0:AC:=aL 0 Tryz.f155 []
def Bf9:=(by simp only[go_sem,lp155_0,Tryz.f155];rfl:lp155_0=_)
noncomputable def af155:AF:=aF 0 4 true Tryz.f155 [lp155_0]
/- interleave/interleaveref04.or -/
noncomputable def af156:AF:=aF 0 2 false Tryz.f156 []
/- interleave/interleaveref04.want -/
noncomputable def af157:AF:=aF 0 5 false Tryz.f157 []
/- interleave/interleaveref04.Expr -/
noncomputable def af158:AF:=aF 0 3 false Tryz.f158 []
/- interleave/interleaveref04.nesting -/
noncomputable def af159:AF:=aF 0 1 false Tryz.f159 []
/- interleave/format.writeStmt -/
noncomputable def lp161_0:AC:=aL 0 Tryz.f161 []
def Bga:=(by simp only[go_sem,lp161_0,Tryz.f161];rfl:lp161_0=_)
noncomputable def lp161_1:AC:=aL 0 Tryz.f161 [lp161_0]
def Bgb:=(by simp only[go_sem,lp161_1,Tryz.f161];rfl:lp161_1=_)
noncomputable def af161:AF:=aF 0 3 true Tryz.f161 [lp161_0,lp161_1]
def af162:AF:=⟨1,[],true,.skip,some (U4 208 5)⟩
/- slices.swapRangeCmpFunc[interleave/api.Entry] -/
noncomputable def lp168_0:AC:=aL 0 Tryz.f168 []
def Bgc:=(by simp only[go_sem,lp168_0,Tryz.f168];rfl:lp168_0=_)
noncomputable def af168:AF:=aF 0 5 true Tryz.f168 [lp168_0]
/- interleave/interleaveref01.Keywords -/
noncomputable def af169:AF:=aF 0 0 false Tryz.f169 []
/- interleave/interleaveref01.Digit -/
noncomputable def af170:AF:=aF 0 1 false Tryz.f170 []
/- (*interleave/parse.reader).assignment -/
noncomputable def af178:AF:=aF 0 2 true Tryz.f178 []
/- interleave/parse.rest -/
noncomputable def af179:AF:=aF 0 1 false Tryz.f179 []
/- interleave/interleaveref03.sign -/
noncomputable def af184:AF:=aF 0 1 false Tryz.f184 []
/- interleave/interleaveref03.put -/
noncomputable def af185:AF:=aF 0 2 false Tryz.f185 []
/- interleave/interleaveref02.ShapedExpr -/
noncomputable def lp186_0:AC:=aL 0 Tryz.f186 []
def Bgd:=(by simp only[go_sem,lp186_0,Tryz.f186];rfl:lp186_0=_)
noncomputable def af186:AF:=aF 0 1 false Tryz.f186 [lp186_0]
/- interleave/interleaveref02.blank -/
noncomputable def af187:AF:=aF 0 1 false Tryz.f187 []
/- interleave/interleaveref04.KindOf -/
noncomputable def af188:AF:=aF 0 3 false Tryz.f188 []
/- interleave/interleaveref04.Nodes -/
noncomputable def lp189_0:AC:=aL 0 Tryz.f189 []
def Bge:=(by simp only[go_sem,lp189_0,Tryz.f189];rfl:lp189_0=_)
noncomputable def af189:AF:=aF 0 1 false Tryz.f189 [lp189_0]
/- interleave/interleaveref04.names -/
noncomputable def lp190_0:AC:=aL 0 Tryz.f190 []
def Bgf:=(by simp only[go_sem,lp190_0,Tryz.f190];rfl:lp190_0=_)
noncomputable def af190:AF:=aF 0 3 false Tryz.f190 [lp190_0]
/- (*strings.Builder).WriteString -/
noncomputable def af193:AF:=aF 0 2 true Tryz.f193 []
/- interleave/format.heading -/
noncomputable def af194:AF:=aF 0 1 false Tryz.f194 []
/- (*interleave/parse.reader).expr -/
noncomputable def af201:AF:=aF 0 1 true Tryz.f201 []
/- (*interleave/parse.reader).conditional -/
noncomputable def af202:AF:=aF 0 2 true Tryz.f202 []
/- (*interleave/parse.reader).loop -/
noncomputable def af203:AF:=aF 0 2 true Tryz.f203 []
/- (*interleave/parse.reader).namedBlock -/
noncomputable def af204:AF:=aF 0 2 true Tryz.f204 []
/- (*interleave/parse.reader).plainBlock -/
noncomputable def af205:AF:=aF 0 2 true Tryz.f205 []
/- (*interleave/parse.reader).named -/
noncomputable def af206:AF:=aF 0 2 true Tryz.f206 []
/- (*interleave/parse.reader).setting -/
noncomputable def af207:AF:=aF 0 2 true Tryz.f207 []
/- (*interleave/parse.reader).getting -/
noncomputable def af208:AF:=aF 0 2 true Tryz.f208 []
/- interleave/interleaveref02.Operands -/
noncomputable def af211:AF:=aF 0 1 false Tryz.f211 []
def af218:AF:=⟨1,[],true,.skip,some (Xq 208)⟩
/- interleave/format.Expr -/
noncomputable def af219:AF:=aF 0 1 false Tryz.f219 []
/- (*interleave/parse.reader).binary -/
noncomputable def lp227_0:AC:=aL 0 Tryz.f227 []
def Bgg:=(by simp only[go_sem,lp227_0,Tryz.f227];rfl:lp227_0=_)
noncomputable def af227:AF:=aF 0 2 true Tryz.f227 [lp227_0]
/- interleave/format.writeExpr -/
noncomputable def af233:AF:=aF 0 2 true Tryz.f233 []
/- (*interleave/parse.reader).unary -/
noncomputable def af239:AF:=aF 0 1 true Tryz.f239 []
noncomputable def b239:AF:=tX (by simp only[go_sem,af239,Tryz.f239];rfl:af239=_)
/- (*interleave/parse.reader).operator -/
noncomputable def af240:AF:=aF 0 2 true Tryz.f240 []
/- interleave/format.operatorOf -/
noncomputable def af242:AF:=aF 0 1 false Tryz.f242 []
/- interleave/format.writeOperand -/
noncomputable def af243:AF:=aF 0 3 true Tryz.f243 []
/- interleave/format.operand -/
noncomputable def af244:AF:=aF 0 2 false Tryz.f244 []
/- (*interleave/parse.reader).primary -/
noncomputable def af245:AF:=aF 0 1 true Tryz.f245 []
/- interleave/parse.binaryOperator -/
noncomputable def af246:AF:=aF 0 1 false Tryz.f246 []
