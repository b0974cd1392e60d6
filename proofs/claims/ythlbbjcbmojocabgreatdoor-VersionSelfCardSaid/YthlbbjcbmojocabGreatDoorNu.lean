/- The table of functions, and that each form is the program's function. Printed by km_table.py. -/
import Derived.Test.YthlbbjcbmojocabGreatDoorNt
set_option linter.all false
namespace Go.Proofs.YthlbbjcbmojocabGreatDoor.KM
open Go
def GT(m:Int):List (Nat × List V):=[(0,gKw),(1,gPow),(2,[.int .i64 m]),(7,[.ifc]),(8,[.ifc]),(9,Aiw)]
variable {m:Int}
theorem Aso:(1,gPow)∈GT m:=by simp[GT]
theorem hEs:(7,[V.ifc])∈GT m:=by simp[GT]
theorem hEr:(8,[V.ifc])∈GT m:=by simp[GT]
theorem hKw:(0,gKw)∈GT m:=by simp[GT]
theorem Bbs(m:Int):(2,[V.int .i64 m])∈GT m:=by simp[GT]
def tabL:List (Nat × AF):=[(3,af3),(4,af4),(5,af5),(6,af6),(7,af7),(8,af8),(9,af9),(10,af10),(11,af11),(12,af12),(13,af13),(14,af14),(15,af15),(16,af16),(17,af17),(18,af18),(19,af19),(20,af20),(21,af21),(22,af22),(23,af23),(24,af24),(25,af25),(26,af26),(27,af27),(28,af28),(29,af29),(30,af30),(32,af32),(33,af33),(34,af34),(35,af35),(36,af36),(37,af37),(38,af38),(41,af41),(42,af42),(43,af43),(44,af44),(45,af45),(46,af46),(47,af47),(49,af49),(52,af52),(53,af53),(54,af54),(55,af55),(56,af56),(57,af57),(58,af58),(59,af59),(60,af60),(61,af61),(64,af64),(65,af65),(66,af66),(67,af67),(68,af68),(69,af69),(70,af70),(71,af71),(72,af72),(73,af73),(74,af74),(75,af75),(76,af76),(77,af77),(79,af79),(80,af80),(84,af84),(85,af85),(90,af90),(91,af91),(92,af92),(93,af93),(94,af94),(95,af95),(96,af96),(97,af97),(98,af98),(99,af99),(102,af102),(103,af103),(110,af110),(111,af111),(117,af117),(118,af118),(119,af119),(120,af120),(121,af121),(122,af122),(123,af123),(124,af124),(125,af125),(132,af132),(133,af133),(139,af139),(140,af140),(141,af141),(142,af142),(143,af143),(144,af144),(145,af145),(146,af146),(149,af149),(155,af155),(163,af163),(165,af165),(166,af166),(167,af167),(173,af173),(174,af174),(175,af175),(176,af176)]
def prL:List (Nat × (List V->Option V)):=[(31,Y1),(39,Vf),(40,N5),(48,Yu),(50,Rb),(82,kwS),(83,V2),(101,Vv),(109,V3)]
def TT(f:Nat):Option AF:=tabL.lookup f
def PT(f:Nat):Option (List V->Option V):=prL.lookup f
theorem T3:TT 3=some af3:=by rfl
theorem T4:TT 4=some af4:=by rfl
theorem T5:TT 5=some af5:=by rfl
theorem T6:TT 6=some af6:=by rfl
theorem T7:TT 7=some af7:=by rfl
theorem T8:TT 8=some af8:=by rfl
theorem T9:TT 9=some af9:=by rfl
theorem T10:TT 10=some af10:=by rfl
theorem T11:TT 11=some af11:=by rfl
theorem T12:TT 12=some af12:=by rfl
theorem T13:TT 13=some af13:=by rfl
theorem T14:TT 14=some af14:=by rfl
theorem T15:TT 15=some af15:=by rfl
theorem T16:TT 16=some af16:=by rfl
theorem T17:TT 17=some af17:=by rfl
theorem T18:TT 18=some af18:=by rfl
theorem T19:TT 19=some af19:=by rfl
theorem T20:TT 20=some af20:=by rfl
theorem T21:TT 21=some af21:=by rfl
theorem T22:TT 22=some af22:=by rfl
theorem T23:TT 23=some af23:=by rfl
theorem T24:TT 24=some af24:=by rfl
theorem T25:TT 25=some af25:=by rfl
theorem T26:TT 26=some af26:=by rfl
theorem T27:TT 27=some af27:=by rfl
theorem T28:TT 28=some af28:=by rfl
theorem T29:TT 29=some af29:=by rfl
theorem T30:TT 30=some af30:=by rfl
theorem T32:TT 32=some af32:=by rfl
theorem T33:TT 33=some af33:=by rfl
theorem T34:TT 34=some af34:=by rfl
theorem T35:TT 35=some af35:=by rfl
theorem T36:TT 36=some af36:=by rfl
theorem T37:TT 37=some af37:=by rfl
theorem T38:TT 38=some af38:=by rfl
theorem T41:TT 41=some af41:=by rfl
theorem T42:TT 42=some af42:=by rfl
theorem T43:TT 43=some af43:=by rfl
theorem T44:TT 44=some af44:=by rfl
theorem T45:TT 45=some af45:=by rfl
theorem T46:TT 46=some af46:=by rfl
theorem T47:TT 47=some af47:=by rfl
theorem T49:TT 49=some af49:=by rfl
theorem T52:TT 52=some af52:=by rfl
theorem T53:TT 53=some af53:=by rfl
theorem T54:TT 54=some af54:=by rfl
theorem T55:TT 55=some af55:=by rfl
theorem T56:TT 56=some af56:=by rfl
theorem T57:TT 57=some af57:=by rfl
theorem T58:TT 58=some af58:=by rfl
theorem T59:TT 59=some af59:=by rfl
theorem T60:TT 60=some af60:=by rfl
theorem T61:TT 61=some af61:=by rfl
theorem T64:TT 64=some af64:=by rfl
theorem T65:TT 65=some af65:=by rfl
theorem T66:TT 66=some af66:=by rfl
theorem T67:TT 67=some af67:=by rfl
theorem T68:TT 68=some af68:=by rfl
theorem T69:TT 69=some af69:=by rfl
theorem T70:TT 70=some af70:=by rfl
theorem T71:TT 71=some af71:=by rfl
theorem T72:TT 72=some af72:=by rfl
theorem T73:TT 73=some af73:=by rfl
theorem T74:TT 74=some af74:=by rfl
theorem T75:TT 75=some af75:=by rfl
theorem T76:TT 76=some af76:=by rfl
theorem T77:TT 77=some af77:=by rfl
theorem T79:TT 79=some af79:=by rfl
theorem T80:TT 80=some af80:=by rfl
theorem T84:TT 84=some af84:=by rfl
theorem T85:TT 85=some af85:=by rfl
theorem T90:TT 90=some af90:=by rfl
theorem T91:TT 91=some af91:=by rfl
theorem T92:TT 92=some af92:=by rfl
theorem T93:TT 93=some af93:=by rfl
theorem T94:TT 94=some af94:=by rfl
theorem T95:TT 95=some af95:=by rfl
theorem T96:TT 96=some af96:=by rfl
theorem T97:TT 97=some af97:=by rfl
theorem T98:TT 98=some af98:=by rfl
theorem T99:TT 99=some af99:=by rfl
theorem T102:TT 102=some af102:=by rfl
theorem T103:TT 103=some af103:=by rfl
theorem T110:TT 110=some af110:=by rfl
theorem T111:TT 111=some af111:=by rfl
theorem T117:TT 117=some af117:=by rfl
theorem T118:TT 118=some af118:=by rfl
theorem T119:TT 119=some af119:=by rfl
theorem T120:TT 120=some af120:=by rfl
theorem T121:TT 121=some af121:=by rfl
theorem T122:TT 122=some af122:=by rfl
theorem T123:TT 123=some af123:=by rfl
theorem T124:TT 124=some af124:=by rfl
theorem T125:TT 125=some af125:=by rfl
theorem T132:TT 132=some af132:=by rfl
theorem T133:TT 133=some af133:=by rfl
theorem T139:TT 139=some af139:=by rfl
theorem T140:TT 140=some af140:=by rfl
theorem T141:TT 141=some af141:=by rfl
theorem T142:TT 142=some af142:=by rfl
theorem T143:TT 143=some af143:=by rfl
theorem T144:TT 144=some af144:=by rfl
theorem T145:TT 145=some af145:=by rfl
theorem T146:TT 146=some af146:=by rfl
theorem T149:TT 149=some af149:=by rfl
theorem T155:TT 155=some af155:=by rfl
theorem T163:TT 163=some af163:=by rfl
theorem T165:TT 165=some af165:=by rfl
theorem T166:TT 166=some af166:=by rfl
theorem T167:TT 167=some af167:=by rfl
theorem T173:TT 173=some af173:=by rfl
theorem T174:TT 174=some af174:=by rfl
theorem T175:TT 175=some af175:=by rfl
theorem T176:TT 176=some af176:=by rfl
theorem P31:PT 31=some Y1:=by rfl
theorem P39:PT 39=some Vf:=by rfl
theorem P40:PT 40=some N5:=by rfl
theorem P48:PT 48=some Yu:=by rfl
theorem P50:PT 50=some Rb:=by rfl
theorem P82:PT 82=some kwS:=by rfl
theorem P83:PT 83=some V2:=by rfl
theorem P101:PT 101=some Vv:=by rfl
theorem P109:PT 109=some V3:=by rfl
noncomputable def okP (m:Int) (p:Nat × AF):Bool:=p.2.spec.isSome||Pl Tryz.prog (GT m) p.1 p.2
theorem Bbt:(tabL.drop 0 |>.take 8).all (okP m)=true:=by kernel_rfl
theorem Bbu:(tabL.drop 8 |>.take 8).all (okP m)=true:=by kernel_rfl
theorem Bbv:(tabL.drop 16 |>.take 8).all (okP m)=true:=by kernel_rfl
theorem Bbw:(tabL.drop 24 |>.take 8).all (okP m)=true:=by kernel_rfl
theorem Bbx:(tabL.drop 32 |>.take 8).all (okP m)=true:=by kernel_rfl
theorem Bby:(tabL.drop 40 |>.take 8).all (okP m)=true:=by kernel_rfl
theorem Bbz:(tabL.drop 48 |>.take 8).all (okP m)=true:=by kernel_rfl
theorem Bb0:(tabL.drop 56 |>.take 8).all (okP m)=true:=by kernel_rfl
theorem Bb1:(tabL.drop 64 |>.take 8).all (okP m)=true:=by kernel_rfl
theorem Bb2:(tabL.drop 72 |>.take 8).all (okP m)=true:=by kernel_rfl
theorem Bah:(tabL.drop 80 |>.take 8).all (okP m)=true:=by kernel_rfl
theorem Bai:(tabL.drop 88 |>.take 8).all (okP m)=true:=by kernel_rfl
theorem Baj:(tabL.drop 96 |>.take 8).all (okP m)=true:=by kernel_rfl
theorem Bak:(tabL.drop 104 |>.take 8).all (okP m)=true:=by kernel_rfl
theorem Bal:(tabL.drop 112 |>.take 8).all (okP m)=true:=by kernel_rfl
theorem Wo{α:Type}:∀ {l:List (Nat × α)} {f:Nat} {a:α},l.lookup f=some a->(f,a)∈l
 | [],_,_,h=>by cases h
 | (g,b)::l,f,a,h=>by
  rw[Zo]at h
  split at h
  ·rename_i he
   cases h
   rw[eq_of_beq he]
   exact Cx
  ·exact Cs _ (Wo h)
theorem Ajh{α:Type}{p:α->Bool}(k:Nat):∀ (n:Nat) (l:List α),l.length<=n*k->(∀ i,i<n->((l.drop (i*k)).take k).all p=true)->∀ x∈l,p x=true
 | 0,l,hl,_,x,hx=>by
  have:l=[]:=V8.1 (by omega)
  subst this
  cases hx
 | n+1,l,hl,h,x,hx=>by
  rw[<-Li k l]at hx
  rcases Cr.1 hx with hx | hx
  ·have h0:=h 0 (by omega)
   rw[Ad0,Ll]at h0
   exact Bh.1 h0 x hx
  ·refine Ajh k n (l.drop k) (by rw[Dx];rw[E1]at hl;omega) (fun i hi=>?_) x hx
   have:=h (i+1) (by omega)
   rwa [Oj,Z0,<-E1]
theorem A6c:∀ x∈tabL,okP m x=true:=by
 refine Ajh 8 15 tabL (of_decide_eq_true (by kernel_rfl)) fun i hi=>?_
 match i,hi with
 | 0,_=>exact Bbt
 | 1,_=>exact Bbu
 | 2,_=>exact Bbv
 | 3,_=>exact Bbw
 | 4,_=>exact Bbx
 | 5,_=>exact Bby
 | 6,_=>exact Bbz
 | 7,_=>exact Bb0
 | 8,_=>exact Bb1
 | 9,_=>exact Bb2
 | 10,_=>exact Bah
 | 11,_=>exact Bai
 | 12,_=>exact Baj
 | 13,_=>exact Bak
 | 14,_=>exact Bal
 | i+15,h=>exact absurd h (by omega)
theorem hTT:∀ f F,TT f=some F->F.spec=none->Pl Tryz.prog (GT m) f F=true:=by
 intro f F h hs
 have hm:=A6c (m:=m) _ (Wo h)
 unfold okP at hm
 simp only[hs,Option.isSome_none,Tq]at hm
 exact hm
theorem A6d:tabL.filter (fun p=>p.2.spec.isSome)=[(80,af80),(132,af132)]:=by rfl
theorem hST:∀ f F s,TT f=some F->F.spec=some s->Vb Tryz.prog (GT m) f s:=by
 intro f F s h hs
 have hm:(f,F)∈tabL.filter (fun p=>p.2.spec.isSome):=Tl.2 ⟨Wo h,by simp[hs]⟩
 rw[A6d]at hm
 simp only[Bi,Lk,or_false,Prod.mk.injEq]at hm
 rcases hm with⟨rfl,rfl⟩ | ⟨rfl,rfl⟩
 ·cases hs;exact A58
 ·cases hs;exact A98
theorem hPT:∀ f s,PT f=some s->Ir Tryz.prog (GT m) f s:=by
 intro f s h
 have hm:=Wo h
 simp only[prL,Bi,Lk,or_false,Prod.mk.injEq]at hm
 rcases hm with⟨rfl,rfl⟩ | ⟨rfl,rfl⟩ | ⟨rfl,rfl⟩ | ⟨rfl,rfl⟩ | ⟨rfl,rfl⟩ | ⟨rfl,rfl⟩ | ⟨rfl,rfl⟩ | ⟨rfl,rfl⟩ | ⟨rfl,rfl⟩
 ·exact A99
 ·exact A1s Aso
 ·exact A59 Aso
 ·exact A6b (Bbs m)
 ·exact Baa
 ·exact Bag hKw
 ·exact Bab
 ·exact A6a
 ·exact Bad hEs hEr
theorem Rc:∀ f F,TT f=some F->F.spec=none->Jz F.body=true:=by
 intro f F h _
 have hm:=Wo h
 have hall:(tabL.all fun p=>Jz p.2.body)=true:=by kernel_rfl
 exact Bh.1 hall _ hm
