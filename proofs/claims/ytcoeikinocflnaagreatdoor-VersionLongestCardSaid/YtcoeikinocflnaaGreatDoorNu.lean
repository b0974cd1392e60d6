/- The table of functions, and that each form is the program's function. Printed by km_table.py. -/
import Derived.Test.YtcoeikinocflnaaGreatDoorNt
set_option linter.all false
namespace Go.Proofs.YtcoeikinocflnaaGreatDoor.KM
open Go
def GT(m:Int):List (Nat × List V):=[(0,[.int .i64 m]),(1,gKw),(2,gPow),(7,[.ifc]),(8,[.ifc]),(9,Ade)]
variable {m:Int}
theorem A2a:(2,gPow)∈GT m:=by simp[GT]
theorem hEs:(7,[V.ifc])∈GT m:=by simp[GT]
theorem hEr:(8,[V.ifc])∈GT m:=by simp[GT]
theorem hKw:(1,gKw)∈GT m:=by simp[GT]
theorem A2b(m:Int):(0,[V.int .i64 m])∈GT m:=by simp[GT]
def tabL:List (Nat × AF):=[(6,af6),(9,af9),(15,af15),(23,af23),(24,af24),(26,af26),(27,af27),(28,af28),(29,af29),(31,af31),(32,af32),(45,af45),(46,af46),(47,af47),(49,af49),(57,af57),(58,af58),(59,af59),(60,af60),(82,af82),(83,af83),(84,af84),(85,af85),(86,af86),(87,af87),(88,af88),(91,af91),(99,af99),(101,af101),(102,af102),(114,af114),(115,af115),(116,af116),(117,af117),(118,af118),(119,af119),(120,af120),(121,af121),(122,af122),(123,af123),(126,af126),(127,af127),(141,af141),(142,af142),(168,af168),(169,af169),(174,af174),(186,af186),(187,af187),(203,af203),(204,af204),(209,af209),(210,af210),(224,af224),(225,af225),(233,af233),(234,af234),(235,af235),(236,af236),(237,af237),(238,af238),(239,af239),(240,af240),(249,af249),(257,af257),(259,af259),(260,af260),(261,af261),(267,af267),(268,af268),(269,af269),(270,af270)]
def prL:List (Nat × (List V->Option V)):=[(81,U9),(90,Ny),(98,U1),(100,N5),(166,Yo),(167,R9),(185,R6),(202,Sa)]
def TT(f:Nat):Option AF:=tabL.lookup f
def PT(f:Nat):Option (List V->Option V):=prL.lookup f
theorem T6:TT 6=some af6:=by rfl
theorem T9:TT 9=some af9:=by rfl
theorem T15:TT 15=some af15:=by rfl
theorem T23:TT 23=some af23:=by rfl
theorem T24:TT 24=some af24:=by rfl
theorem T26:TT 26=some af26:=by rfl
theorem T27:TT 27=some af27:=by rfl
theorem T28:TT 28=some af28:=by rfl
theorem T29:TT 29=some af29:=by rfl
theorem T31:TT 31=some af31:=by rfl
theorem T32:TT 32=some af32:=by rfl
theorem T45:TT 45=some af45:=by rfl
theorem T46:TT 46=some af46:=by rfl
theorem T47:TT 47=some af47:=by rfl
theorem T49:TT 49=some af49:=by rfl
theorem T57:TT 57=some af57:=by rfl
theorem T58:TT 58=some af58:=by rfl
theorem T59:TT 59=some af59:=by rfl
theorem T60:TT 60=some af60:=by rfl
theorem T82:TT 82=some af82:=by rfl
theorem T83:TT 83=some af83:=by rfl
theorem T84:TT 84=some af84:=by rfl
theorem T85:TT 85=some af85:=by rfl
theorem T86:TT 86=some af86:=by rfl
theorem T87:TT 87=some af87:=by rfl
theorem T88:TT 88=some af88:=by rfl
theorem T91:TT 91=some af91:=by rfl
theorem T99:TT 99=some af99:=by rfl
theorem T101:TT 101=some af101:=by rfl
theorem T102:TT 102=some af102:=by rfl
theorem T114:TT 114=some af114:=by rfl
theorem T115:TT 115=some af115:=by rfl
theorem T116:TT 116=some af116:=by rfl
theorem T117:TT 117=some af117:=by rfl
theorem T118:TT 118=some af118:=by rfl
theorem T119:TT 119=some af119:=by rfl
theorem T120:TT 120=some af120:=by rfl
theorem T121:TT 121=some af121:=by rfl
theorem T122:TT 122=some af122:=by rfl
theorem T123:TT 123=some af123:=by rfl
theorem T126:TT 126=some af126:=by rfl
theorem T127:TT 127=some af127:=by rfl
theorem T141:TT 141=some af141:=by rfl
theorem T142:TT 142=some af142:=by rfl
theorem T168:TT 168=some af168:=by rfl
theorem T169:TT 169=some af169:=by rfl
theorem T174:TT 174=some af174:=by rfl
theorem T186:TT 186=some af186:=by rfl
theorem T187:TT 187=some af187:=by rfl
theorem T203:TT 203=some af203:=by rfl
theorem T204:TT 204=some af204:=by rfl
theorem T209:TT 209=some af209:=by rfl
theorem T210:TT 210=some af210:=by rfl
theorem T224:TT 224=some af224:=by rfl
theorem T225:TT 225=some af225:=by rfl
theorem T233:TT 233=some af233:=by rfl
theorem T234:TT 234=some af234:=by rfl
theorem T235:TT 235=some af235:=by rfl
theorem T236:TT 236=some af236:=by rfl
theorem T237:TT 237=some af237:=by rfl
theorem T238:TT 238=some af238:=by rfl
theorem T239:TT 239=some af239:=by rfl
theorem T240:TT 240=some af240:=by rfl
theorem T249:TT 249=some af249:=by rfl
theorem T257:TT 257=some af257:=by rfl
theorem T259:TT 259=some af259:=by rfl
theorem T260:TT 260=some af260:=by rfl
theorem T261:TT 261=some af261:=by rfl
theorem T267:TT 267=some af267:=by rfl
theorem T268:TT 268=some af268:=by rfl
theorem T269:TT 269=some af269:=by rfl
theorem T270:TT 270=some af270:=by rfl
theorem P81:PT 81=some U9:=by rfl
theorem P90:PT 90=some Ny:=by rfl
theorem P98:PT 98=some U1:=by rfl
theorem P100:PT 100=some N5:=by rfl
theorem P166:PT 166=some Yo:=by rfl
theorem P167:PT 167=some R9:=by rfl
theorem P185:PT 185=some R6:=by rfl
theorem P202:PT 202=some Sa:=by rfl
noncomputable def okP (m:Int) (p:Nat × AF):Bool:=p.2.spec.isSome||Mg Tryz.prog (GT m) p.1 p.2
theorem A2c:(tabL.drop 0 |>.take 8).all (okP m)=true:=by kernel_rfl
theorem A2d:(tabL.drop 8 |>.take 8).all (okP m)=true:=by kernel_rfl
theorem A2e:(tabL.drop 16 |>.take 8).all (okP m)=true:=by kernel_rfl
theorem A2f:(tabL.drop 24 |>.take 8).all (okP m)=true:=by kernel_rfl
theorem A2g:(tabL.drop 32 |>.take 8).all (okP m)=true:=by kernel_rfl
theorem A2h:(tabL.drop 40 |>.take 8).all (okP m)=true:=by kernel_rfl
theorem A2i:(tabL.drop 48 |>.take 8).all (okP m)=true:=by kernel_rfl
theorem A2j:(tabL.drop 56 |>.take 8).all (okP m)=true:=by kernel_rfl
theorem A2k:(tabL.drop 64 |>.take 8).all (okP m)=true:=by kernel_rfl
theorem So{α:Type}:∀ {l:List (Nat × α)} {f:Nat} {a:α},l.lookup f=some a->(f,a)∈l
 | [],_,_,h=>by cases h
 | (g,b)::l,f,a,h=>by
  rw[Vq]at h
  split at h
  ·rename_i he
   cases h
   rw[eq_of_beq he]
   exact Dm
  ·exact Db _ (So h)
theorem Ady{α:Type}{p:α->Bool}(k:Nat):∀ (n:Nat) (l:List α),l.length<=n*k->(∀ i,i<n->((l.drop (i*k)).take k).all p=true)->∀ x∈l,p x=true
 | 0,l,hl,_,x,hx=>by
  have:l=[]:=List.length_eq_zero_iff.1 (by omega)
  subst this
  cases hx
 | n+1,l,hl,h,x,hx=>by
  rw[<-Jh k l]at hx
  rcases Ei.1 hx with hx | hx
  ·have h0:=h 0 (by omega)
   rw[Zb,Mm]at h0
   exact A3.1 h0 x hx
  ·refine Ady k n (l.drop k) (by rw[C5];rw[Fi]at hl;omega) (fun i hi=>?_) x hx
   have:=h (i+1) (by omega)
   rwa [Ll,Zc,<-Fi]
theorem Axp:∀ x∈tabL,okP m x=true:=by
 refine Ady 8 9 tabL (of_decide_eq_true (by kernel_rfl)) fun i hi=>?_
 match i,hi with
 | 0,_=>exact A2c
 | 1,_=>exact A2d
 | 2,_=>exact A2e
 | 3,_=>exact A2f
 | 4,_=>exact A2g
 | 5,_=>exact A2h
 | 6,_=>exact A2i
 | 7,_=>exact A2j
 | 8,_=>exact A2k
 | i+9,h=>exact absurd h (by omega)
theorem hTT:∀ f F,TT f=some F->F.spec=none->Mg Tryz.prog (GT m) f F=true:=by
 intro f F h hs
 have hm:=Axp (m:=m) _ (So h)
 unfold okP at hm
 simp only[hs,Option.isSome_none,P6]at hm
 exact hm
theorem Axq:tabL.filter (fun p=>p.2.spec.isSome)=[(142,af142),(224,af224)]:=by rfl
theorem hST:∀ f F s,TT f=some F->F.spec=some s->Rk Tryz.prog (GT m) f s:=by
 intro f F s h hs
 have hm:(f,F)∈tabL.filter (fun p=>p.2.spec.isSome):=Vr.2 ⟨So h,by simp[hs]⟩
 rw[Axq]at hm
 simp only[Br,Mk,or_false,Prod.mk.injEq]at hm
 rcases hm with⟨rfl,rfl⟩ | ⟨rfl,rfl⟩
 ·cases hs;exact Axj
 ·cases hs;exact A02
theorem hPT:∀ f s,PT f=some s->Hq Tryz.prog (GT m) f s:=by
 intro f s h
 have hm:=So h
 simp only[prL,Br,Mk,or_false,Prod.mk.injEq]at hm
 rcases hm with⟨rfl,rfl⟩ | ⟨rfl,rfl⟩ | ⟨rfl,rfl⟩ | ⟨rfl,rfl⟩ | ⟨rfl,rfl⟩ | ⟨rfl,rfl⟩ | ⟨rfl,rfl⟩ | ⟨rfl,rfl⟩
 ·exact A03
 ·exact Axl A2a
 ·exact Axn (A2b m)
 ·exact A04
 ·exact A1a hKw
 ·exact A05
 ·exact Axm
 ·exact A07 hEs hEr
theorem Vb:∀ f F,TT f=some F->F.spec=none->H5 F.body=true:=by
 intro f F h _
 have hm:=So h
 have hall:(tabL.all fun p=>H5 p.2.body)=true:=by kernel_rfl
 exact A3.1 hall _ hm
end Go.Proofs.YtcoeikinocflnaaGreatDoor.KM
