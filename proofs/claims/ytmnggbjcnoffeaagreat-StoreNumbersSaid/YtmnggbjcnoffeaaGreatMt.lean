/-
  The types of the data, and facts on their tables. Conditions: none.
-/
import Derived.Test.YtmnggbjcnoffeaaGreatRows
import Derived.Test.YtmnggbjcnoffeaaGreatMl2
namespace Go.Proofs.YtmnggbjcnoffeaaGreat
open Go Gv
set_option linter.unusedVariables false
set_option linter.unusedSimpArgs false
set_option maxRecDepth 100000
structure bm where
 cK:List (BitVec 8)
 qJ:Int
 deriving DecidableEq,Inhabited
instance:ae bm:= .str (c3 (List (BitVec 8)) (g9 Int)) (fun x=>(x.cK,x.qJ)) 2
def AZ:aO bm (List (BitVec 8)):= .str dc 0 bm.cK fun b g=> { b with cK:=g }
def xo:aO bm Int:= .str (br hK) 1 bm.qJ fun b g=> { b with qJ:=g }
instance:a2 bm:=⟨a2.cells (List (BitVec 8)) ++ a2.cells Int,fun A W=>⟨by rfl,a2.ok (α:=List (BitVec 8)) A W,a2.ok (α:=Int) A W⟩⟩
theorem Gx:bq Tryz.prog 5 (BitVec 8):=bq.of (by rfl) Tryz.underlying5 (by kernel_rfl)
theorem SV:cc Tryz.prog 117 (default:bm):=cc.of (by kernel_rfl)
theorem SU:gU Tryz.prog 117 #[(0,1),(1,1)]:=⟨_,Tryz.underlying117,by kernel_rfl,by kernel_rfl⟩
theorem za:bR Tryz.prog 15:=⟨_,Tryz.func15,rfl,by kernel_rfl⟩
structure e3 where
 bC:Int
 bZ:ByteArray
 e2:Int
 deriving DecidableEq,Inhabited
instance:ae e3:= .str (c3 Int (c3 ByteArray (g9 Int))) (fun x=>(x.bC,x.bZ,x.e2)) 3
def ow:aO e3 Int:= .str dc 0 e3.bC fun b g=> { b with bC:=g }
def qa:aO e3 ByteArray:= .str (br dc) 1 e3.bZ fun b g=> { b with bZ:=g }
def ou:aO e3 Int:= .str (br (br hK)) 2 e3.e2 fun b g=> { b with e2:=g }
instance:a2 e3:=⟨a2.cells Int ++ a2.cells ByteArray ++ a2.cells Int,fun A W=>⟨by rfl,a2.ok (α:=Int) A W,a2.ok (α:=ByteArray) A W,a2.ok (α:=Int) A W⟩⟩
structure iY where
 bC:Int
 bZ:ByteArray
 gy:List Int
 deriving DecidableEq,Inhabited
instance:ae iY:= .str (c3 Int (c3 ByteArray (g9 (List Int)))) (fun x=>(x.bC,x.bZ,x.gy)) 3
def DS:aO iY Int:= .str dc 0 iY.bC fun b g=> { b with bC:=g }
def DJ:aO iY ByteArray:= .str (br dc) 1 iY.bZ fun b g=> { b with bZ:=g }
def Dz:aO iY (List Int):= .str (br (br hK)) 2 iY.gy fun b g=> { b with gy:=g }
instance:a2 iY:=⟨a2.cells Int ++ a2.cells ByteArray ++ a2.cells (List Int),fun A W=>⟨by rfl,a2.ok (α:=Int) A W,a2.ok (α:=ByteArray) A W,a2.ok (α:=List Int) A W⟩⟩
structure az where
 eb:BitVec 64
 bV:BitVec 64
 deriving DecidableEq,Inhabited
instance:ae az:= .str (c3 (BitVec 64) (g9 (BitVec 64))) (fun x=>(x.eb,x.bV)) 2
def js:aO az (BitVec 64):= .str dc 0 az.eb fun b g=> { b with eb:=g }
def eM:aO az (BitVec 64):= .str (br hK) 1 az.bV fun b g=> { b with bV:=g }
instance:a2 az:=⟨a2.cells (BitVec 64) ++ a2.cells (BitVec 64),fun A W=>⟨by rfl,a2.ok (α:=BitVec 64) A W,a2.ok (α:=BitVec 64) A W⟩⟩
structure fW where
 db:az
 il:az
 oD:Int
 deriving DecidableEq,Inhabited
instance:ae fW:= .str (c3 az (c3 az (g9 Int))) (fun x=>(x.db,x.il,x.oD)) 5
def AW:aO fW az:= .str dc 0 fW.db fun b g=> { b with db:=g }
def A1:aO fW az:= .str (br dc) 2 fW.il fun b g=> { b with il:=g }
def A2:aO fW Int:= .str (br (br hK)) 4 fW.oD fun b g=> { b with oD:=g }
instance:a2 fW:=⟨a2.cells az ++ a2.cells az ++ a2.cells Int,fun A W=>⟨by rfl,a2.ok (α:=az) A W,a2.ok (α:=az) A W,a2.ok (α:=Int) A W⟩⟩
structure dj where
 bC:Int
 hB:Int
 mq:Int
 nQ:List fW
 gG:Int
 deriving DecidableEq,Inhabited
instance:ae dj:= .str (c3 Int (c3 Int (c3 Int (c3 (List fW) (g9 Int))))) (fun x=>(x.bC,x.hB,x.mq,x.nQ,x.gG)) 5
def DW:aO dj Int:= .str dc 0 dj.bC fun b g=> { b with bC:=g }
def DD:aO dj Int:= .str (br dc) 1 dj.hB fun b g=> { b with hB:=g }
def H5:aO dj Int:= .str (br (br dc)) 2 dj.mq fun b g=> { b with mq:=g }
def AK:aO dj (List fW):= .str (br (br (br dc))) 3 dj.nQ fun b g=> { b with nQ:=g }
def Dy:aO dj Int:= .str (br (br (br (br hK)))) 4 dj.gG fun b g=> { b with gG:=g }
instance:a2 dj:=⟨a2.cells Int ++ a2.cells Int ++ a2.cells Int ++ a2.cells (List fW) ++ a2.cells Int,fun A W=>⟨by rfl,a2.ok (α:=Int) A W,a2.ok (α:=Int) A W,a2.ok (α:=Int) A W,a2.ok (α:=List fW) A W,a2.ok (α:=Int) A W⟩⟩
structure hT where
 bZ:ByteArray
 e2:Int
 deriving DecidableEq,Inhabited
instance:ae hT:= .str (c3 ByteArray (g9 Int)) (fun x=>(x.bZ,x.e2)) 2
def AX:aO hT ByteArray:= .str dc 0 hT.bZ fun b g=> { b with bZ:=g }
def xr:aO hT Int:= .str (br hK) 1 hT.e2 fun b g=> { b with e2:=g }
instance:a2 hT:=⟨a2.cells ByteArray ++ a2.cells Int,fun A W=>⟨by rfl,a2.ok (α:=ByteArray) A W,a2.ok (α:=Int) A W⟩⟩
structure fc where
 c9:Int
 um:Int
 db:az
 deriving DecidableEq,Inhabited
instance:ae fc:= .str (c3 Int (c3 Int (g9 az))) (fun x=>(x.c9,x.um,x.db)) 4
def AJ:aO fc Int:= .str dc 0 fc.c9 fun b g=> { b with c9:=g }
def Ic:aO fc Int:= .str (br dc) 1 fc.um fun b g=> { b with um:=g }
def Oe:aO fc az:= .str (br (br hK)) 2 fc.db fun b g=> { b with db:=g }
instance:a2 fc:=⟨a2.cells Int ++ a2.cells Int ++ a2.cells az,fun A W=>⟨by rfl,a2.ok (α:=Int) A W,a2.ok (α:=Int) A W,a2.ok (α:=az) A W⟩⟩
structure eD where
 hF:Int
 jb:Int
 j2:fc
 deriving DecidableEq,Inhabited
instance:ae eD:= .str (c3 Int (c3 Int (g9 fc))) (fun x=>(x.hF,x.jb,x.j2)) 6
def qc:aO eD Int:= .str dc 0 eD.hF fun b g=> { b with hF:=g }
def sS:aO eD Int:= .str (br dc) 1 eD.jb fun b g=> { b with jb:=g }
def vh:aO eD fc:= .str (br (br hK)) 2 eD.j2 fun b g=> { b with j2:=g }
instance:a2 eD:=⟨a2.cells Int ++ a2.cells Int ++ a2.cells fc,fun A W=>⟨by rfl,a2.ok (α:=Int) A W,a2.ok (α:=Int) A W,a2.ok (α:=fc) A W⟩⟩
structure dB where
 bC:Int
 bZ:ByteArray
 jI:List hT
 nb:List eD
 pw:ByteArray
 deriving DecidableEq,Inhabited
instance:ae dB:= .str (c3 Int (c3 ByteArray (c3 (List hT) (c3 (List eD) (g9 ByteArray))))) (fun x=>(x.bC,x.bZ,x.jI,x.nb,x.pw)) 5
def sP:aO dB Int:= .str dc 0 dB.bC fun b g=> { b with bC:=g }
def u5:aO dB ByteArray:= .str (br dc) 1 dB.bZ fun b g=> { b with bZ:=g }
def AG:aO dB (List hT):= .str (br (br dc)) 2 dB.jI fun b g=> { b with jI:=g }
def xi:aO dB (List eD):= .str (br (br (br dc))) 3 dB.nb fun b g=> { b with nb:=g }
def H0:aO dB ByteArray:= .str (br (br (br (br hK)))) 4 dB.pw fun b g=> { b with pw:=g }
instance:a2 dB:=⟨a2.cells Int ++ a2.cells ByteArray ++ a2.cells (List hT) ++ a2.cells (List eD) ++ a2.cells ByteArray,fun A W=>⟨by rfl,a2.ok (α:=Int) A W,a2.ok (α:=ByteArray) A W,a2.ok (α:=List hT) A W,a2.ok (α:=List eD) A W,a2.ok (α:=ByteArray) A W⟩⟩
structure cu where
 bZ:ByteArray
 gq:Int
 c9:Int
 deriving DecidableEq,Inhabited
instance:ae cu:= .str (c3 ByteArray (c3 Int (g9 Int))) (fun x=>(x.bZ,x.gq,x.c9)) 3
def qb:aO cu ByteArray:= .str dc 0 cu.bZ fun b g=> { b with bZ:=g }
def ov:aO cu Int:= .str (br dc) 1 cu.gq fun b g=> { b with gq:=g }
def mo:aO cu Int:= .str (br (br hK)) 2 cu.c9 fun b g=> { b with c9:=g }
instance:a2 cu:=⟨a2.cells ByteArray ++ a2.cells Int ++ a2.cells Int,fun A W=>⟨by rfl,a2.ok (α:=ByteArray) A W,a2.ok (α:=Int) A W,a2.ok (α:=Int) A W⟩⟩
structure bw where
 bC:Int
 bZ:ByteArray
 cv:List cu
 dC:List Int
 gG:Int
 sX:List az
 fv:Int
 pw:ByteArray
 deriving DecidableEq,Inhabited
instance:ae bw:= .str (c3 Int (c3 ByteArray (c3 (List cu) (c3 (List Int) (c3 Int (c3 (List az) (c3 Int (g9 ByteArray)))))))) (fun x=>(x.bC,x.bZ,x.cv,x.dC,x.gG,x.sX,x.fv,x.pw)) 8
def lv:aO bw Int:= .str dc 0 bw.bC fun b g=> { b with bC:=g }
def AY:aO bw ByteArray:= .str (br dc) 1 bw.bZ fun b g=> { b with bZ:=g }
def kg:aO bw (List cu):= .str (br (br dc)) 2 bw.cv fun b g=> { b with cv:=g }
def u2:aO bw (List Int):= .str (br (br (br dc))) 3 bw.dC fun b g=> { b with dC:=g }
def AI:aO bw Int:= .str (br (br (br (br dc)))) 4 bw.gG fun b g=> { b with gG:=g }
def NX:aO bw (List az):= .str (br (br (br (br (br dc))))) 5 bw.sX fun b g=> { b with sX:=g }
def rC:aO bw Int:= .str (br (br (br (br (br (br dc)))))) 6 bw.fv fun b g=> { b with fv:=g }
def NY:aO bw ByteArray:= .str (br (br (br (br (br (br (br hK))))))) 7 bw.pw fun b g=> { b with pw:=g }
instance:a2 bw:=⟨a2.cells Int ++ a2.cells ByteArray ++ a2.cells (List cu) ++ a2.cells (List Int) ++ a2.cells Int ++ a2.cells (List az) ++ a2.cells Int ++ a2.cells ByteArray,fun A W=>⟨by rfl,a2.ok (α:=Int) A W,a2.ok (α:=ByteArray) A W,a2.ok (α:=List cu) A W,a2.ok (α:=List Int) A W,a2.ok (α:=Int) A W,a2.ok (α:=List az) A W,a2.ok (α:=Int) A W,a2.ok (α:=ByteArray) A W⟩⟩
structure fe where
 dD:Int
 hB:Int
 deriving DecidableEq,Inhabited
instance:ae fe:= .str (c3 Int (g9 Int)) (fun x=>(x.dD,x.hB)) 2
def xk:aO fe Int:= .str dc 0 fe.dD fun b g=> { b with dD:=g }
def DF:aO fe Int:= .str (br hK) 1 fe.hB fun b g=> { b with hB:=g }
instance:a2 fe:=⟨a2.cells Int ++ a2.cells Int,fun A W=>⟨by rfl,a2.ok (α:=Int) A W,a2.ok (α:=Int) A W⟩⟩
structure c7 where
 dD:Int
 qt:Bool
 qn:Bool
 cv:List Bool
 deriving DecidableEq,Inhabited
instance:ae c7:= .str (c3 Int (c3 Bool (c3 Bool (g9 (List Bool))))) (fun x=>(x.dD,x.qt,x.qn,x.cv)) 4
def DG:aO c7 Int:= .str dc 0 c7.dD fun b g=> { b with dD:=g }
def DN:aO c7 Bool:= .str (br dc) 1 c7.qt fun b g=> { b with qt:=g }
def DH:aO c7 Bool:= .str (br (br dc)) 2 c7.qn fun b g=> { b with qn:=g }
def DO:aO c7 (List Bool):= .str (br (br (br hK))) 3 c7.cv fun b g=> { b with cv:=g }
instance:a2 c7:=⟨a2.cells Int ++ a2.cells Bool ++ a2.cells Bool ++ a2.cells (List Bool),fun A W=>⟨by rfl,a2.ok (α:=Int) A W,a2.ok (α:=Bool) A W,a2.ok (α:=Bool) A W,a2.ok (α:=List Bool) A W⟩⟩
structure ch where
 bC:Int
 bZ:ByteArray
 iF:List c7
 dC:List Int
 qm:Int
 yh:Bool
 deriving DecidableEq,Inhabited
instance:ae ch:= .str (c3 Int (c3 ByteArray (c3 (List c7) (c3 (List Int) (c3 Int (g9 Bool)))))) (fun x=>(x.bC,x.bZ,x.iF,x.dC,x.qm,x.yh)) 6
def DZ:aO ch Int:= .str dc 0 ch.bC fun b g=> { b with bC:=g }
def DR:aO ch ByteArray:= .str (br dc) 1 ch.bZ fun b g=> { b with bZ:=g }
def u6:aO ch (List c7):= .str (br (br dc)) 2 ch.iF fun b g=> { b with iF:=g }
def DE:aO ch (List Int):= .str (br (br (br dc))) 3 ch.dC fun b g=> { b with dC:=g }
def DM:aO ch Int:= .str (br (br (br (br dc)))) 4 ch.qm fun b g=> { b with qm:=g }
def OJ:aO ch Bool:= .str (br (br (br (br (br hK))))) 5 ch.yh fun b g=> { b with yh:=g }
instance:a2 ch:=⟨a2.cells Int ++ a2.cells ByteArray ++ a2.cells (List c7) ++ a2.cells (List Int) ++ a2.cells Int ++ a2.cells Bool,fun A W=>⟨by rfl,a2.ok (α:=Int) A W,a2.ok (α:=ByteArray) A W,a2.ok (α:=List c7) A W,a2.ok (α:=List Int) A W,a2.ok (α:=Int) A W,a2.ok (α:=Bool) A W⟩⟩
structure eE where
 dD:Int
 tH:Int
 lx:Int
 Sa:Int
 ox:Int
 Sb:Int
 deriving DecidableEq,Inhabited
instance:ae eE:= .str (c3 Int (c3 Int (c3 Int (c3 Int (c3 Int (g9 Int)))))) (fun x=>(x.dD,x.tH,x.lx,x.Sa,x.ox,x.Sb)) 6
def A3:aO eE Int:= .str dc 0 eE.dD fun b g=> { b with dD:=g }
def Ik:aO eE Int:= .str (br dc) 1 eE.tH fun b g=> { b with tH:=g }
def Ib:aO eE Int:= .str (br (br dc)) 2 eE.lx fun b g=> { b with lx:=g }
def AM:aO eE Int:= .str (br (br (br (br dc)))) 4 eE.ox fun b g=> { b with ox:=g }
instance:a2 eE:=⟨a2.cells Int ++ a2.cells Int ++ a2.cells Int ++ a2.cells Int ++ a2.cells Int ++ a2.cells Int,fun A W=>⟨by rfl,a2.ok (α:=Int) A W,a2.ok (α:=Int) A W,a2.ok (α:=Int) A W,a2.ok (α:=Int) A W,a2.ok (α:=Int) A W,a2.ok (α:=Int) A W⟩⟩
structure aZ where
 gy:List e3
 rI:List iY
 td:List dj
 dC:List dB
 bA:List bw
 mr:List fe
 m9:List ch
 nc:List eE
 xT:Int
 x6:Int
 deriving DecidableEq,Inhabited
instance:ae aZ:= .str (c3 (List e3) (c3 (List iY) (c3 (List dj) (c3 (List dB) (c3 (List bw) (c3 (List fe) (c3 (List ch) (c3 (List eE) (c3 Int (g9 Int)))))))))) (fun x=>(x.gy,x.rI,x.td,x.dC,x.bA,x.mr,x.m9,x.nc,x.xT,x.x6)) 10
def AE:aO aZ (List e3):= .str dc 0 aZ.gy fun b g=> { b with gy:=g }
def N8:aO aZ (List iY):= .str (br dc) 1 aZ.rI fun b g=> { b with rI:=g }
def Og:aO aZ (List dj):= .str (br (br dc)) 2 aZ.td fun b g=> { b with td:=g }
def H3:aO aZ (List dB):= .str (br (br (br dc))) 3 aZ.dC fun b g=> { b with dC:=g }
def m5:aO aZ (List bw):= .str (br (br (br (br dc)))) 4 aZ.bA fun b g=> { b with bA:=g }
def DA:aO aZ (List fe):= .str (br (br (br (br (br dc))))) 5 aZ.mr fun b g=> { b with mr:=g }
def Oo:aO aZ (List ch):= .str (br (br (br (br (br (br dc)))))) 6 aZ.m9 fun b g=> { b with m9:=g }
def AL:aO aZ (List eE):= .str (br (br (br (br (br (br (br dc))))))) 7 aZ.nc fun b g=> { b with nc:=g }
def N5:aO aZ Int:= .str (br (br (br (br (br (br (br (br dc)))))))) 8 aZ.xT fun b g=> { b with xT:=g }
def Of:aO aZ Int:= .str (br (br (br (br (br (br (br (br (br hK))))))))) 9 aZ.x6 fun b g=> { b with x6:=g }
instance:a2 aZ:=⟨a2.cells (List e3) ++ a2.cells (List iY) ++ a2.cells (List dj) ++ a2.cells (List dB) ++ a2.cells (List bw) ++ a2.cells (List fe) ++ a2.cells (List ch) ++ a2.cells (List eE) ++ a2.cells Int ++ a2.cells Int,fun A W=>⟨by rfl,a2.ok (α:=List e3) A W,a2.ok (α:=List iY) A W,a2.ok (α:=List dj) A W,a2.ok (α:=List dB) A W,a2.ok (α:=List bw) A W,a2.ok (α:=List fe) A W,a2.ok (α:=List ch) A W,a2.ok (α:=List eE) A W,a2.ok (α:=Int) A W,a2.ok (α:=Int) A W⟩⟩
theorem y7:cc Tryz.prog 33 (default:aZ):=cc.of (by kernel_rfl)
theorem bP:bq Tryz.prog 3 Int:=bq.of (by rfl) Tryz.underlying3 (by kernel_rfl)
theorem yd:b4 Tryz.prog 117 1 1:=b4.of Tryz.underlying117 rfl rfl bP rfl
theorem Cj:bq Tryz.prog 22 (List (BitVec 8)):=bq.of (by rfl) Tryz.underlying22 (by kernel_rfl)
theorem EN:b4 Tryz.prog 117 0 0:=b4.of Tryz.underlying117 rfl rfl Cj rfl
theorem mixed:Tryz.prog.follows .mixedOrders=true:=by kernel_rfl
theorem F2:bR Tryz.prog 26:=⟨_,Tryz.func26,rfl,by kernel_rfl⟩
theorem fP:bR Tryz.prog 32:=⟨_,Tryz.func32,rfl,by kernel_rfl⟩
theorem Vh:gU Tryz.prog 33 #[(0,1),(1,1),(2,1),(3,1),(4,1),(5,1),(6,1),(7,1),(8,1),(9,1)]:=⟨_,Tryz.underlying33,by kernel_rfl,by kernel_rfl⟩
theorem hC:bq Tryz.prog 33 aZ:=bq.of (by rfl) Tryz.underlying33 (by kernel_rfl)
theorem oE:cc Tryz.prog 119 (default:e3):=cc.of (by kernel_rfl)
theorem qB:gU Tryz.prog 119 #[(0,1),(1,1),(2,1)]:=⟨_,Tryz.underlying119,by kernel_rfl,by kernel_rfl⟩
theorem tA:bq Tryz.prog 119 e3:=bq.of (by rfl) Tryz.underlying119 (by kernel_rfl)
theorem yV:bq Tryz.prog 24 (List e3):=bq.of (by rfl) Tryz.underlying24 (by kernel_rfl)
theorem BI:b4 Tryz.prog 33 0 0:=b4.of Tryz.underlying33 rfl rfl yV rfl
theorem kP:cc Tryz.prog 3 (default:Int):=cc.of (by kernel_rfl)
theorem B9:cc Tryz.prog 121 (default:iY):=cc.of (by kernel_rfl)
theorem FC:gU Tryz.prog 121 #[(0,1),(1,1),(2,1)]:=⟨_,Tryz.underlying121,by kernel_rfl,by kernel_rfl⟩
theorem TD:bq Tryz.prog 121 iY:=bq.of (by rfl) Tryz.underlying121 (by kernel_rfl)
theorem Mh:bq Tryz.prog 25 (List iY):=bq.of (by rfl) Tryz.underlying25 (by kernel_rfl)
theorem Si:b4 Tryz.prog 33 1 1:=b4.of Tryz.underlying33 rfl rfl Mh rfl
theorem tC:cc Tryz.prog 193 (default:dj):=cc.of (by kernel_rfl)
theorem Fy:gU Tryz.prog 193 #[(0,1),(1,1),(2,1),(3,1),(4,1)]:=⟨_,Tryz.underlying193,by kernel_rfl,by kernel_rfl⟩
theorem tD:bq Tryz.prog 193 dj:=bq.of (by rfl) Tryz.underlying193 (by kernel_rfl)
theorem er:cc Tryz.prog 43 (default:az):=cc.of (by kernel_rfl)
theorem g1:gU Tryz.prog 43 #[(0,1),(1,1)]:=⟨_,Tryz.underlying43,by kernel_rfl,by kernel_rfl⟩
theorem r2:cc Tryz.prog 195 (default:fW):=cc.of (by kernel_rfl)
theorem B4:gU Tryz.prog 195 #[(0,2),(2,2),(4,1)]:=⟨_,Tryz.underlying195,by kernel_rfl,by kernel_rfl⟩
theorem B5:bq Tryz.prog 195 fW:=bq.of (by rfl) Tryz.underlying195 (by kernel_rfl)
theorem yJ:bq Tryz.prog 191 (List fW):=bq.of (by rfl) Tryz.underlying191 (by kernel_rfl)
theorem Bz:b4 Tryz.prog 193 3 3:=b4.of Tryz.underlying193 rfl rfl yJ rfl
theorem mM:bR Tryz.prog 55:=⟨_,Tryz.func55,rfl,by kernel_rfl⟩
theorem JZ:iT Tryz.prog 193 [3]:=by unfold iT; kernel_rfl
theorem Vi:bR Tryz.prog 68:=⟨_,Tryz.func68,rfl,by kernel_rfl⟩
theorem yK:cc Tryz.prog 197 (default:fc):=cc.of (by kernel_rfl)
theorem B6:gU Tryz.prog 197 #[(0,1),(1,1),(2,2)]:=⟨_,Tryz.underlying197,by kernel_rfl,by kernel_rfl⟩
theorem B7:bq Tryz.prog 197 fc:=bq.of (by rfl) Tryz.underlying197 (by kernel_rfl)
theorem pH:cc Tryz.prog 148 (default:dB):=cc.of (by kernel_rfl)
theorem tB:gU Tryz.prog 148 #[(0,1),(1,1),(2,1),(3,1),(4,1)]:=⟨_,Tryz.underlying148,by kernel_rfl,by kernel_rfl⟩
theorem mE:cc Tryz.prog 199 (default:eD):=cc.of (by kernel_rfl)
theorem qz:gU Tryz.prog 199 #[(0,1),(1,1),(2,4)]:=⟨_,Tryz.underlying199,by kernel_rfl,by kernel_rfl⟩
theorem yL:bq Tryz.prog 199 eD:=bq.of (by rfl) Tryz.underlying199 (by kernel_rfl)
theorem rZ:cc Tryz.prog 151 (default:hT):=cc.of (by kernel_rfl)
theorem B8:gU Tryz.prog 151 #[(0,1),(1,1)]:=⟨_,Tryz.underlying151,by kernel_rfl,by kernel_rfl⟩
theorem vX:bq Tryz.prog 151 hT:=bq.of (by rfl) Tryz.underlying151 (by kernel_rfl)
theorem oF:bq Tryz.prog 148 dB:=bq.of (by rfl) Tryz.underlying148 (by kernel_rfl)
theorem o1:bq Tryz.prog 9 ByteArray:=bq.of (by rfl) Tryz.underlying9 (by kernel_rfl)
theorem J0:b4 Tryz.prog 148 4 4:=b4.of Tryz.underlying148 rfl rfl o1 rfl
theorem Vj:bR Tryz.prog 69:=⟨_,Tryz.func69,rfl,by kernel_rfl⟩
theorem jM:cc Tryz.prog 86 (default:cu):=cc.of (by kernel_rfl)
theorem qI:gU Tryz.prog 86 #[(0,1),(1,1),(2,1)]:=⟨_,Tryz.underlying86,by kernel_rfl,by kernel_rfl⟩
theorem j4:bq Tryz.prog 86 cu:=bq.of (by rfl) Tryz.underlying86 (by kernel_rfl)
theorem k6:cc Tryz.prog 65 (default:bw):=cc.of (by kernel_rfl)
theorem y6:gU Tryz.prog 65 #[(0,1),(1,1),(2,1),(3,1),(4,1),(5,1),(6,1),(7,1)]:=⟨_,Tryz.underlying65,by kernel_rfl,by kernel_rfl⟩
theorem fX:bq Tryz.prog 65 bw:=bq.of (by rfl) Tryz.underlying65 (by kernel_rfl)
theorem lF:bq Tryz.prog 62 (List cu):=bq.of (by rfl) Tryz.underlying62 (by kernel_rfl)
theorem lW:b4 Tryz.prog 65 2 2:=b4.of Tryz.underlying65 rfl rfl lF rfl
theorem Ff:iT Tryz.prog 65 [2]:=by unfold iT; kernel_rfl
theorem Fe:iT Tryz.prog 65 []:=by unfold iT; kernel_rfl
theorem cw:bq Tryz.prog 43 az:=bq.of (by rfl) Tryz.underlying43 (by kernel_rfl)
theorem CH:cc Tryz.prog 9 (default:ByteArray):=cc.of (by kernel_rfl)
theorem Fz:bq Tryz.prog 200 (List ByteArray):=bq.of (by rfl) Tryz.underlying200 (by kernel_rfl)
theorem TC:cc Tryz.prog 200 (default:List ByteArray):=cc.of (by kernel_rfl)
theorem Sh:b4 Tryz.prog 65 7 7:=b4.of Tryz.underlying65 rfl rfl o1 rfl
theorem Vk:bR Tryz.prog 70:=⟨_,Tryz.func70,rfl,by kernel_rfl⟩
theorem Mi:bq Tryz.prog 26 (List dj):=bq.of (by rfl) Tryz.underlying26 (by kernel_rfl)
theorem Sj:b4 Tryz.prog 33 2 2:=b4.of Tryz.underlying33 rfl rfl Mi rfl
theorem F0:bq Tryz.prog 27 (List dB):=bq.of (by rfl) Tryz.underlying27 (by kernel_rfl)
theorem Ko:b4 Tryz.prog 33 3 3:=b4.of Tryz.underlying33 rfl rfl F0 rfl
theorem mL:bq Tryz.prog 28 (List bw):=bq.of (by rfl) Tryz.underlying28 (by kernel_rfl)
theorem na:b4 Tryz.prog 33 4 4:=b4.of Tryz.underlying33 rfl rfl mL rfl
theorem tE:cc Tryz.prog 204 (default:ch):=cc.of (by kernel_rfl)
theorem FA:gU Tryz.prog 204 #[(0,1),(1,1),(2,1),(3,1),(4,1),(5,1)]:=⟨_,Tryz.underlying204,by kernel_rfl,by kernel_rfl⟩
theorem tF:bq Tryz.prog 204 ch:=bq.of (by rfl) Tryz.underlying204 (by kernel_rfl)
theorem lg:bq Tryz.prog 4 Bool:=bq.of (by rfl) Tryz.underlying4 (by kernel_rfl)
theorem MP:cc Tryz.prog 4 (default:Bool):=cc.of (by kernel_rfl)
theorem tG:bq Tryz.prog 202 (List c7):=bq.of (by rfl) Tryz.underlying202 (by kernel_rfl)
theorem vE:b4 Tryz.prog 204 2 2:=b4.of Tryz.underlying204 rfl rfl tG rfl
theorem nS:b4 Tryz.prog 65 0 0:=b4.of Tryz.underlying65 rfl rfl bP rfl
theorem qA:cc Tryz.prog 207 (default:c7):=cc.of (by kernel_rfl)
theorem FB:gU Tryz.prog 207 #[(0,1),(1,1),(2,1),(3,1)]:=⟨_,Tryz.underlying207,by kernel_rfl,by kernel_rfl⟩
theorem vY:bq Tryz.prog 207 c7:=bq.of (by rfl) Tryz.underlying207 (by kernel_rfl)
theorem vD:iT Tryz.prog 204 [2]:=by unfold iT; kernel_rfl
theorem Vl:bR Tryz.prog 71:=⟨_,Tryz.func71,rfl,by kernel_rfl⟩
theorem Mj:bq Tryz.prog 30 (List ch):=bq.of (by rfl) Tryz.underlying30 (by kernel_rfl)
theorem Sk:b4 Tryz.prog 33 6 6:=b4.of Tryz.underlying33 rfl rfl Mj rfl
theorem r3:cc Tryz.prog 127 (default:fe):=cc.of (by kernel_rfl)
theorem yM:gU Tryz.prog 127 #[(0,1),(1,1)]:=⟨_,Tryz.underlying127,by kernel_rfl,by kernel_rfl⟩
theorem FD:bq Tryz.prog 127 fe:=bq.of (by rfl) Tryz.underlying127 (by kernel_rfl)
theorem Cm:bq Tryz.prog 29 (List fe):=bq.of (by rfl) Tryz.underlying29 (by kernel_rfl)
theorem Fg:b4 Tryz.prog 33 5 5:=b4.of Tryz.underlying33 rfl rfl Cm rfl
theorem ua:bq Tryz.prog 31 (List eE):=bq.of (by rfl) Tryz.underlying31 (by kernel_rfl)
theorem vN:b4 Tryz.prog 33 7 7:=b4.of Tryz.underlying33 rfl rfl ua rfl
theorem pK:cc Tryz.prog 129 (default:eE):=cc.of (by kernel_rfl)
theorem Cb:gU Tryz.prog 129 #[(0,1),(1,1),(2,1),(3,1),(4,1),(5,1)]:=⟨_,Tryz.underlying129,by kernel_rfl,by kernel_rfl⟩
theorem vZ:bq Tryz.prog 129 eE:=bq.of (by rfl) Tryz.underlying129 (by kernel_rfl)
theorem Jq:iT Tryz.prog 33 [5,7]:=by unfold iT; kernel_rfl
theorem Ga:bR Tryz.prog 16:=⟨_,Tryz.func16,rfl,by kernel_rfl⟩
structure hL where
 gp:aZ
 nO:eV
 kl:Int
 deriving DecidableEq,Inhabited
instance:ae hL:= .str (c3 aZ (c3 eV (g9 Int))) (fun x=>(x.gp,x.nO,x.kl)) 12
def AB:aO hL aZ:= .str dc 0 hL.gp fun b g=> { b with gp:=g }
def AA:aO hL eV:= .str (br dc) 10 hL.nO fun b g=> { b with nO:=g }
def xa:aO hL Int:= .str (br (br hK)) 11 hL.kl fun b g=> { b with kl:=g }
instance:a2 hL:=⟨a2.cells aZ ++ a2.cells eV ++ a2.cells Int,fun A W=>⟨by rfl,a2.ok (α:=aZ) A W,a2.ok (α:=eV) A W,a2.ok (α:=Int) A W⟩⟩
theorem To:cc Tryz.prog 143 (default:hL):=cc.of (by kernel_rfl)
theorem Tn:gU Tryz.prog 143 #[(0,10),(10,1),(11,1)]:=⟨_,Tryz.underlying143,by kernel_rfl,by kernel_rfl⟩
theorem ET:b4 Tryz.prog 143 0 0:=b4.of Tryz.underlying143 rfl rfl hC rfl
theorem S9:bR Tryz.prog 119:=⟨_,Tryz.func119,rfl,by kernel_rfl⟩
theorem Ta:bR Tryz.prog 118:=⟨_,Tryz.func118,rfl,by kernel_rfl⟩
theorem F3:bR Tryz.prog 82:=⟨_,Tryz.func82,rfl,by kernel_rfl⟩
theorem yp:b4 Tryz.prog 86 2 2:=b4.of Tryz.underlying86 rfl rfl bP rfl
theorem U4:bR Tryz.prog 83:=⟨_,Tryz.func83,rfl,by kernel_rfl⟩
structure b6 where
 hi:Bool
 db:az
 il:az
 gY:Int
 oC:az
 deriving DecidableEq,Inhabited
instance:ae b6:= .str (c3 Bool (c3 az (c3 az (c3 Int (g9 az))))) (fun x=>(x.hi,x.db,x.il,x.gY,x.oC)) 8
def sK:aO b6 Bool:= .str dc 0 b6.hi fun b g=> { b with hi:=g }
def sL:aO b6 az:= .str (br dc) 1 b6.db fun b g=> { b with db:=g }
def DK:aO b6 az:= .str (br (br dc)) 3 b6.il fun b g=> { b with il:=g }
def w9:aO b6 Int:= .str (br (br (br dc))) 5 b6.gY fun b g=> { b with gY:=g }
def DL:aO b6 az:= .str (br (br (br (br hK)))) 6 b6.oC fun b g=> { b with oC:=g }
instance:a2 b6:=⟨a2.cells Bool ++ a2.cells az ++ a2.cells az ++ a2.cells Int ++ a2.cells az,fun A W=>⟨by rfl,a2.ok (α:=Bool) A W,a2.ok (α:=az) A W,a2.ok (α:=az) A W,a2.ok (α:=Int) A W,a2.ok (α:=az) A W⟩⟩
structure bo where
 dD:Int
 c8:List b6
 ic:Int
 lx:Int
 lZ:List az
 deriving DecidableEq,Inhabited
instance:ae bo:= .str (c3 Int (c3 (List b6) (c3 Int (c3 Int (g9 (List az)))))) (fun x=>(x.dD,x.c8,x.ic,x.lx,x.lZ)) 5
def p8:aO bo Int:= .str dc 0 bo.dD fun b g=> { b with dD:=g }
def m4:aO bo (List b6):= .str (br dc) 1 bo.c8 fun b g=> { b with c8:=g }
def w5:aO bo Int:= .str (br (br dc)) 2 bo.ic fun b g=> { b with ic:=g }
def DC:aO bo Int:= .str (br (br (br dc))) 3 bo.lx fun b g=> { b with lx:=g }
def AU:aO bo (List az):= .str (br (br (br (br hK)))) 4 bo.lZ fun b g=> { b with lZ:=g }
instance:a2 bo:=⟨a2.cells Int ++ a2.cells (List b6) ++ a2.cells Int ++ a2.cells Int ++ a2.cells (List az),fun A W=>⟨by rfl,a2.ok (α:=Int) A W,a2.ok (α:=List b6) A W,a2.ok (α:=Int) A W,a2.ok (α:=Int) A W,a2.ok (α:=List az) A W⟩⟩
structure aH where
 bQ:bo
 b8:Int
 kJ:Int
 deriving DecidableEq,Inhabited
instance:ae aH:= .str (c3 bo (c3 Int (g9 Int))) (fun x=>(x.bQ,x.b8,x.kJ)) 7
def m3:aO aH bo:= .str dc 0 aH.bQ fun b g=> { b with bQ:=g }
def m2:aO aH Int:= .str (br dc) 5 aH.b8 fun b g=> { b with b8:=g }
def H2:aO aH Int:= .str (br (br hK)) 6 aH.kJ fun b g=> { b with kJ:=g }
instance:a2 aH:=⟨a2.cells bo ++ a2.cells Int ++ a2.cells Int,fun A W=>⟨by rfl,a2.ok (α:=bo) A W,a2.ok (α:=Int) A W,a2.ok (α:=Int) A W⟩⟩
structure jG where
 pT:Ref
 deriving DecidableEq,Inhabited
instance:ae jG:= .str (g9 Ref) (fun x=>x.pT) 1
def AT:aO jG Ref:= .str hK 0 jG.pT fun b g=> { b with pT:=g }
instance:a2 jG:=⟨a2.cells Ref,fun A W=>⟨by rfl,a2.ok (α:=Ref) A W⟩⟩
structure gm where
 qw:Int
 fm:Int
 m8:eV
 deriving DecidableEq,Inhabited
instance:ae gm:= .str (c3 Int (c3 Int (g9 eV))) (fun x=>(x.qw,x.fm,x.m8)) 3
def w4:aO gm Int:= .str dc 0 gm.qw fun b g=> { b with qw:=g }
def Dw:aO gm Int:= .str (br dc) 1 gm.fm fun b g=> { b with fm:=g }
def p5:aO gm eV:= .str (br (br hK)) 2 gm.m8 fun b g=> { b with m8:=g }
instance:a2 gm:=⟨a2.cells Int ++ a2.cells Int ++ a2.cells eV,fun A W=>⟨by rfl,a2.ok (α:=Int) A W,a2.ok (α:=Int) A W,a2.ok (α:=eV) A W⟩⟩
structure iX where
 cK:Ref
 deriving DecidableEq,Inhabited
instance:ae iX:= .str (g9 Ref) (fun x=>x.cK) 1
def AV:aO iX Ref:= .str hK 0 iX.cK fun b g=> { b with cK:=g }
instance:a2 iX:=⟨a2.cells Ref,fun A W=>⟨by rfl,a2.ok (α:=Ref) A W⟩⟩
inductive gd where
 | nil
 | l3 (x:jG)
 | l4 (x:gm)
 | l5 (x:iX)
 deriving DecidableEq,Inhabited
instance:ae gd where
 size:=1
 agg:=false
 rep A W cs x:=match x with
  | .nil=>cs= [.nilIface]
  | .l3 x=> ∃ v,cs= [.iface 166 v]∧ (I.of x).holds A W v
  | .l4 x=> ∃ v,cs= [.iface 169 v]∧ (I.of x).holds A W v
  | .l5 x=> ∃ v,cs= [.iface 173 v]∧ (I.of x).holds A W v
 len {A W cs x} h:=by cases x <;> first | (have h:cs=_:=h; rw [h]; rfl) | (obtain⟨v,h,_⟩:=h; rw [h]; rfl)
 one {A W cs x} h:=by
  intro u hu
  cases x <;> first | (have h:cs=_:=h; rw [h] at hu; rw [List.mem_singleton.1 hu]; rfl) | (obtain⟨v,h,_⟩:=h; rw [h] at hu; rw [List.mem_singleton.1 hu]; rfl)
 flat _:=rfl
 mono {A W cN W' cs x} e h:=by cases x <;> first | exact h | (obtain⟨v,h,ad⟩:=h; exact⟨v,h,I.mono _ e ad⟩)
instance:a2 gd:=⟨[.nilIface],fun _ _=>rfl⟩
theorem Qm {A W v} {x:jG} (h:(I.of x).holds A W v):(I.of (gd.l3 x)).holds A W (.iface 166 v):=⟨rfl,v,rfl,h⟩
theorem Ep {A W u} {x:jG} (h:(I.of (gd.l3 x)).holds A W u):∃ v,u= .iface 166 v∧ (I.of x).holds A W v:=by
 obtain⟨J,v,ad,ax⟩:=h
 exact⟨v,m6 J ad,ax⟩
theorem Qn {A W v} {x:gm} (h:(I.of x).holds A W v):(I.of (gd.l4 x)).holds A W (.iface 169 v):=⟨rfl,v,rfl,h⟩
theorem Er {A W u} {x:gm} (h:(I.of (gd.l4 x)).holds A W u):∃ v,u= .iface 169 v∧ (I.of x).holds A W v:=by
 obtain⟨J,v,ad,ax⟩:=h
 exact⟨v,m6 J ad,ax⟩
theorem Qo {A W v} {x:iX} (h:(I.of x).holds A W v):(I.of (gd.l5 x)).holds A W (.iface 173 v):=⟨rfl,v,rfl,h⟩
theorem Es {A W u} {x:iX} (h:(I.of (gd.l5 x)).holds A W u):∃ v,u= .iface 173 v∧ (I.of x).holds A W v:=by
 obtain⟨J,v,ad,ax⟩:=h
 exact⟨v,m6 J ad,ax⟩
structure gn where
 qp:Int
 qq:Int
 ie:gd
 jH:eV
 deriving DecidableEq,Inhabited
instance:ae gn:= .str (c3 Int (c3 Int (c3 gd (g9 eV)))) (fun x=>(x.qp,x.qq,x.ie,x.jH)) 4
def Ol:aO gn Int:= .str dc 0 gn.qp fun b g=> { b with qp:=g }
def Om:aO gn Int:= .str (br dc) 1 gn.qq fun b g=> { b with qq:=g }
def sJ:aO gn gd:= .str (br (br dc)) 2 gn.ie fun b g=> { b with ie:=g }
def u0:aO gn eV:= .str (br (br (br hK))) 3 gn.jH fun b g=> { b with jH:=g }
instance:a2 gn:=⟨a2.cells Int ++ a2.cells Int ++ a2.cells gd ++ a2.cells eV,fun A W=>⟨by rfl,a2.ok (α:=Int) A W,a2.ok (α:=Int) A W,a2.ok (α:=gd) A W,a2.ok (α:=eV) A W⟩⟩
theorem Te:cc Tryz.prog 135 (default:gn):=cc.of (by kernel_rfl)
theorem Td:gU Tryz.prog 135 #[(0,1),(1,1),(2,1),(3,1)]:=⟨_,Tryz.underlying135,by kernel_rfl,by kernel_rfl⟩
structure lS where
 ng:eV
 deriving DecidableEq,Inhabited
instance:ae lS:= .str (g9 eV) (fun x=>x.ng) 1
def xg:aO lS eV:= .str hK 0 lS.ng fun b g=> { b with ng:=g }
instance:a2 lS:=⟨a2.cells eV,fun A W=>⟨by rfl,a2.ok (α:=eV) A W⟩⟩
theorem SX:cc Tryz.prog 224 (default:lS):=cc.of (by kernel_rfl)
theorem SW:gU Tryz.prog 224 #[(0,1)]:=⟨_,Tryz.underlying224,by kernel_rfl,by kernel_rfl⟩
theorem U5:bR Tryz.prog 84:=⟨_,Tryz.func84,rfl,by kernel_rfl⟩
theorem Tg:cc Tryz.prog 166 (default:jG):=cc.of (by kernel_rfl)
theorem Tf:gU Tryz.prog 166 #[(0,1)]:=⟨_,Tryz.underlying166,by kernel_rfl,by kernel_rfl⟩
theorem rY:bq Tryz.prog 132 gd:=bq.of (by rfl) Tryz.underlying132 (by kernel_rfl)
theorem tl:b4 Tryz.prog 135 2 2:=b4.of Tryz.underlying135 rfl rfl rY rfl
theorem JW:b4 Tryz.prog 119 0 0:=b4.of Tryz.underlying119 rfl rfl bP rfl
theorem Tb:bR Tryz.prog 121:=⟨_,Tryz.func121,rfl,by kernel_rfl⟩
theorem Tc:bR Tryz.prog 120:=⟨_,Tryz.func120,rfl,by kernel_rfl⟩
theorem Kr:b4 Tryz.prog 86 1 1:=b4.of Tryz.underlying86 rfl rfl bP rfl
theorem U6:bR Tryz.prog 85:=⟨_,Tryz.func85,rfl,by kernel_rfl⟩
theorem JX:b4 Tryz.prog 119 2 2:=b4.of Tryz.underlying119 rfl rfl bP rfl
theorem Ti:cc Tryz.prog 169 (default:gm):=cc.of (by kernel_rfl)
theorem Th:gU Tryz.prog 169 #[(0,1),(1,1),(2,1)]:=⟨_,Tryz.underlying169,by kernel_rfl,by kernel_rfl⟩
structure cG where
 oy:aZ
 cK:List aH
 deriving DecidableEq,Inhabited
instance:ae cG:= .str (c3 aZ (g9 (List aH))) (fun x=>(x.oy,x.cK)) 11
def Dv:aO cG aZ:= .str dc 0 cG.oy fun b g=> { b with oy:=g }
def u7:aO cG (List aH):= .str (br hK) 10 cG.cK fun b g=> { b with cK:=g }
instance:a2 cG:=⟨a2.cells aZ ++ a2.cells (List aH),fun A W=>⟨by rfl,a2.ok (α:=aZ) A W,a2.ok (α:=List aH) A W⟩⟩
theorem SZ:cc Tryz.prog 228 (default:cG):=cc.of (by kernel_rfl)
theorem SY:gU Tryz.prog 228 #[(0,10),(10,1)]:=⟨_,Tryz.underlying228,by kernel_rfl,by kernel_rfl⟩
theorem U7:bR Tryz.prog 86:=⟨_,Tryz.func86,rfl,by kernel_rfl⟩
theorem QW:iT Tryz.prog 228 [10]:=by unfold iT; kernel_rfl
theorem Tm:cc Tryz.prog 173 (default:iX):=cc.of (by kernel_rfl)
theorem Tl:gU Tryz.prog 173 #[(0,1)]:=⟨_,Tryz.underlying173,by kernel_rfl,by kernel_rfl⟩
theorem BY:bq Tryz.prog 141 eV:=bq.of (by rfl) Tryz.underlying141 (by kernel_rfl)
theorem EO:b4 Tryz.prog 143 1 10:=b4.of Tryz.underlying143 rfl rfl BY rfl
theorem U9:bR Tryz.prog 39:=⟨_,Tryz.func39,rfl,by kernel_rfl⟩
theorem wy:m0 Tryz.prog 3 Int:=SE Tryz.underlying3
theorem Gb:bR Tryz.prog 24:=⟨_,Tryz.func24,rfl,by kernel_rfl⟩
theorem Mc:bR Tryz.prog 25:=⟨_,Tryz.func25,rfl,by kernel_rfl⟩
theorem r9:cc Tryz.prog 50 (default:bo):=cc.of (by kernel_rfl)
theorem Md:gU Tryz.prog 50 #[(0,1),(1,1),(2,1),(3,1),(4,1)]:=⟨_,Tryz.underlying50,by kernel_rfl,by kernel_rfl⟩
theorem fH:bq Tryz.prog 50 bo:=bq.of (by rfl) Tryz.underlying50 (by kernel_rfl)
theorem l1:cc Tryz.prog 88 (default:b6):=cc.of (by kernel_rfl)
theorem Tp:bR Tryz.prog 108:=⟨_,Tryz.func108,rfl,by kernel_rfl⟩
theorem gh:bq Tryz.prog 41 (BitVec 64):=bq.of (by rfl) Tryz.underlying41 (by kernel_rfl)
theorem oB:b4 Tryz.prog 43 0 0:=b4.of Tryz.underlying43 rfl rfl gh rfl
theorem kK:b4 Tryz.prog 43 1 1:=b4.of Tryz.underlying43 rfl rfl gh rfl
theorem F4:bR Tryz.prog 46:=⟨_,Tryz.func46,rfl,by kernel_rfl⟩
theorem Tq:bR Tryz.prog 109:=⟨_,Tryz.func109,rfl,by kernel_rfl⟩
theorem Kq:HE Tryz.prog 43 1 41 1:=⟨_,_,Tryz.underlying43,rfl,rfl,rfl⟩
theorem sc:gU Tryz.prog 88 #[(0,1),(1,2),(3,2),(5,1),(6,2)]:=⟨_,Tryz.underlying88,by kernel_rfl,by kernel_rfl⟩
theorem hD:bq Tryz.prog 88 b6:=bq.of (by rfl) Tryz.underlying88 (by kernel_rfl)
theorem nj:bq Tryz.prog 47 (List b6):=bq.of (by rfl) Tryz.underlying47 (by kernel_rfl)
theorem nT:b4 Tryz.prog 50 1 1:=b4.of Tryz.underlying50 rfl rfl nj rfl
theorem Vb:bR Tryz.prog 75:=⟨_,Tryz.func75,rfl,by kernel_rfl⟩
theorem yt:b4 Tryz.prog 50 2 2:=b4.of Tryz.underlying50 rfl rfl bP rfl
theorem tW:bq Tryz.prog 63 (List Int):=bq.of (by rfl) Tryz.underlying63 (by kernel_rfl)
theorem Kt:b4 Tryz.prog 65 3 3:=b4.of Tryz.underlying65 rfl rfl tW rfl
theorem Ku:b4 Tryz.prog 50 3 3:=b4.of Tryz.underlying50 rfl rfl bP rfl
theorem Rs:b4 Tryz.prog 148 0 0:=b4.of Tryz.underlying148 rfl rfl bP rfl
theorem Vc:bR Tryz.prog 76:=⟨_,Tryz.func76,rfl,by kernel_rfl⟩
theorem Rw:HE Tryz.prog 148 2 145 2:=⟨_,_,Tryz.underlying148,rfl,rfl,rfl⟩
theorem Tr:bq Tryz.prog 145 (List hT):=bq.of (by rfl) Tryz.underlying145 (by kernel_rfl)
theorem yW:bq Tryz.prog 48 (List az):=bq.of (by rfl) Tryz.underlying48 (by kernel_rfl)
theorem BJ:b4 Tryz.prog 50 4 4:=b4.of Tryz.underlying50 rfl rfl yW rfl
theorem Rx:b4 Tryz.prog 151 1 1:=b4.of Tryz.underlying151 rfl rfl bP rfl
theorem Jo:iT Tryz.prog 50 [1,4]:=by unfold iT; kernel_rfl
theorem Mr:bR Tryz.prog 27:=⟨_,Tryz.func27,rfl,by kernel_rfl⟩
theorem hP:cc Tryz.prog 52 (default:aH):=cc.of (by kernel_rfl)
theorem U2:cc Tryz.prog 37 (default:Ref):=cc.of (by kernel_rfl)
theorem y8:gU Tryz.prog 52 #[(0,5),(5,1),(6,1)]:=⟨_,Tryz.underlying52,by kernel_rfl,by kernel_rfl⟩
theorem cZ:bq Tryz.prog 52 aH:=bq.of (by rfl) Tryz.underlying52 (by kernel_rfl)
theorem L7:cc Tryz.prog 45 (default:Vector az 4):=cc.of (by kernel_rfl)
theorem Sc:b4 Tryz.prog 88 1 1:=b4.of Tryz.underlying88 rfl rfl cw rfl
theorem F1:sB Tryz.prog 45 4 2:=sB.of Tryz.underlying45 cw rfl
theorem qG:bq Tryz.prog 45 (Vector az 4):=bq.of (by rfl) Tryz.underlying45 (by kernel_rfl)
theorem yH:bq Tryz.prog 222 eV:=bq.of (by rfl) Tryz.underlying222 (by kernel_rfl)
theorem Bv:b4 Tryz.prog 224 0 0:=b4.of Tryz.underlying224 rfl rfl yH rfl
instance X7:kf az where
 uniq {A W cs cN W' dx x} h cV:=by
  refine RP h.1 cV.1 ?_
  refine Jv 0 (ae.size (BitVec 64)) (kf.uniq (h.2.1) (cV.2.1)) ?_
  refine Jv 1 (ae.size (BitVec 64)) (kf.uniq (h.2.2) (cV.2.2)) ?_
  exact RQ h.1 cV.1 (by decide)
 plain {A W cs x} h:=by
  intro u hu n
  have bB:=BB (o:=0) (s:=ae.size (BitVec 64)) (by simpa using hu)
  rcases bB with J | bB
  ·exact kf.plain (h.2.1) u J n
  have bB:=BB (s:=ae.size (BitVec 64)) bB
  rcases bB with J | bB
  ·exact kf.plain (h.2.2) u J n
  exact J9 h.1 (by rfl) bB
theorem L6:lk Tryz.prog 41 (BitVec 64) 1:=RJ (K:= .u64) Tryz.underlying41
theorem v3:lk Tryz.prog 43 az 2:=IQ (k:=1) rfl Tryz.underlying43 (by kernel_rfl) fun d hd A W xs ys x y ak a7=>by
 refine Eq.trans (tf js gh rfl (by rfl) L6 (by omega) ak a7 (tf eM gh rfl (by rfl) L6 (by omega) ak a7 (J8))) ?_
 congr 1
 rw [Bool.eq_iff_iff]
 simp only [Bool.and_eq_true,decide_eq_true_eq,and_true]
 cases x; cases y
 simp [aO.str,js,eM]
theorem SR:lk Tryz.prog 319 (Vector az 4) 3:=J7 Tryz.underlying319 cw v3
theorem MK:p4 Tryz.prog 41 (BitVec 64) 1:=Jf Tryz.underlying41 rfl
theorem ML:p4 Tryz.prog 43 az 2:=QH (k:=1) rfl Tryz.underlying43 (.cons js rfl gh (fun b d A W u x h ak=>MK b d A W u x (by omega) ak) (.cons eM rfl gh (fun b d A W u x h ak=>MK b d A W u x (by omega) ak) (.nil)))
theorem UP:p4 Tryz.prog 319 (Vector az 4) 3:=KL Tryz.underlying319 cw ML
theorem BZ:m0 Tryz.prog 319 (Vector az 4):=KM Tryz.underlying319 rfl UP SR rfl rfl
theorem B1:bq Tryz.prog 163 Ref:=bq.of (by rfl) Tryz.underlying163 (by kernel_rfl)
theorem EP:b4 Tryz.prog 166 0 0:=b4.of Tryz.underlying166 rfl rfl B1 rfl
theorem B2:bR Tryz.prog 232:=⟨_,Tryz.func232,rfl,by kernel_rfl⟩
theorem K3:bR Tryz.prog 231:=⟨_,Tryz.func231,rfl,by kernel_rfl⟩
theorem B3:bq Tryz.prog 169 gm:=bq.of (by rfl) Tryz.underlying169 (by kernel_rfl)
theorem vV:cc Tryz.prog 320 (default:Vector az 4):=cc.of (by kernel_rfl)
theorem Bw:b4 Tryz.prog 169 0 0:=b4.of Tryz.underlying169 rfl rfl bP rfl
theorem j0:bq Tryz.prog 320 (Vector az 4):=bq.of (by rfl) Tryz.underlying320 (by kernel_rfl)
theorem S4:bR Tryz.prog 241:=⟨_,Tryz.func241,rfl,by kernel_rfl⟩
theorem Kp:b4 Tryz.prog 88 3 5:=b4.of Tryz.underlying88 rfl rfl bP rfl
theorem FK:bR Tryz.prog 239:=⟨_,Tryz.func239,rfl,by kernel_rfl⟩
theorem v5:cc Tryz.prog 331 (default:Ref):=cc.of (by kernel_rfl)
theorem K4:bR Tryz.prog 205:=⟨_,Tryz.func205,rfl,by kernel_rfl⟩
theorem K5:bR Tryz.prog 204:=⟨_,Tryz.func204,rfl,by kernel_rfl⟩
theorem Lc:bR Tryz.prog 188:=⟨_,Tryz.func188,rfl,by kernel_rfl⟩
theorem TI:bR Tryz.prog 193:=⟨_,Tryz.func193,rfl,by kernel_rfl⟩
theorem yg:b4 Tryz.prog 337 0 0:=b4.of Tryz.underlying337 rfl rfl bP rfl
structure fb where
 fm:Int
 ck:Ref
 deriving DecidableEq,Inhabited
instance:ae fb:= .str (c3 Int (g9 Ref)) (fun x=>(x.fm,x.ck)) 2
def va:aO fb Int:= .str dc 0 fb.fm fun b g=> { b with fm:=g }
def rD:aO fb Ref:= .str (br hK) 1 fb.ck fun b g=> { b with ck:=g }
instance:a2 fb:=⟨a2.cells Int ++ a2.cells Ref,fun A W=>⟨by rfl,a2.ok (α:=Int) A W,a2.ok (α:=Ref) A W⟩⟩
theorem TL:bR Tryz.prog 189:=⟨_,Tryz.func189,rfl,by kernel_rfl⟩
theorem TM:bR Tryz.prog 148:=⟨_,Tryz.func148,rfl,by kernel_rfl⟩
theorem TO:Tryz.prog.eqGuardType Tryz.prog.depth 43=false:=by kernel_rfl
theorem Lh:bR Tryz.prog 251:=⟨_,Tryz.func251,rfl,by kernel_rfl⟩
theorem dY:bq Tryz.prog 331 Ref:=bq.of (by rfl) Tryz.underlying331 (by kernel_rfl)
theorem rL:b4 Tryz.prog 337 1 1:=b4.of Tryz.underlying337 rfl rfl dY rfl
theorem FF:bR Tryz.prog 250:=⟨_,Tryz.func250,rfl,by kernel_rfl⟩
theorem Ld:bq Tryz.prog 321 Ref:=bq.of (by rfl) Tryz.underlying321 (by kernel_rfl)
theorem Lf:bR Tryz.prog 196:=⟨_,Tryz.func196,rfl,by kernel_rfl⟩
theorem K6:bq Tryz.prog 333 (Vector Ref 2):=bq.of (by rfl) Tryz.underlying333 (by kernel_rfl)
theorem qj:b4 Tryz.prog 335 0 0:=b4.of Tryz.underlying335 rfl rfl K6 rfl
theorem r1:sB Tryz.prog 333 2 1:=sB.of Tryz.underlying333 dY rfl
structure di where
 cJ:Vector Ref 2
 dr:Bool
 hW:Int
 deriving DecidableEq,Inhabited
instance:ae di:= .str (c3 (Vector Ref 2) (c3 Bool (g9 Int))) (fun x=>(x.cJ,x.dr,x.hW)) 4
def p6:aO di (Vector Ref 2):= .str dc 0 di.cJ fun b g=> { b with cJ:=g }
def p9:aO di Bool:= .str (br dc) 2 di.dr fun b g=> { b with dr:=g }
def A5:aO di Int:= .str (br (br hK)) 3 di.hW fun b g=> { b with hW:=g }
instance:a2 di:=⟨a2.cells (Vector Ref 2) ++ a2.cells Bool ++ a2.cells Int,fun A W=>⟨by rfl,a2.ok (α:=Vector Ref 2) A W,a2.ok (α:=Bool) A W,a2.ok (α:=Int) A W⟩⟩
theorem FG:bR Tryz.prog 255:=⟨_,Tryz.func255,rfl,by kernel_rfl⟩
theorem Lj:bR Tryz.prog 247:=⟨_,Tryz.func247,rfl,by kernel_rfl⟩
theorem qi:b4 Tryz.prog 335 1 2:=b4.of Tryz.underlying335 rfl rfl lg rfl
theorem By:b4 Tryz.prog 335 2 3:=b4.of Tryz.underlying335 rfl rfl bP rfl
theorem qC:bq Tryz.prog 167 eV:=bq.of (by rfl) Tryz.underlying167 (by kernel_rfl)
theorem rM:b4 Tryz.prog 169 2 2:=b4.of Tryz.underlying169 rfl rfl qC rfl
theorem SS:lk Tryz.prog 320 (Vector az 4) 3:=J7 Tryz.underlying320 cw v3
theorem UQ:p4 Tryz.prog 320 (Vector az 4) 3:=KL Tryz.underlying320 cw ML
theorem tI:m0 Tryz.prog 320 (Vector az 4):=KM Tryz.underlying320 rfl UQ SS rfl rfl
theorem yN:cc Tryz.prog 321 (default:Ref):=cc.of (by kernel_rfl)
theorem LG:bR Tryz.prog 240:=⟨_,Tryz.func240,rfl,by kernel_rfl⟩
theorem Cc:bq Tryz.prog 170 Ref:=bq.of (by rfl) Tryz.underlying170 (by kernel_rfl)
theorem EX:b4 Tryz.prog 173 0 0:=b4.of Tryz.underlying173 rfl rfl Cc rfl
theorem qH:bq Tryz.prog 38 (List aH):=bq.of (by rfl) Tryz.underlying38 (by kernel_rfl)
theorem rK:b4 Tryz.prog 228 1 10:=b4.of Tryz.underlying228 rfl rfl qH rfl
theorem nW:b4 Tryz.prog 52 0 0:=b4.of Tryz.underlying52 rfl rfl fH rfl
theorem S5:bR Tryz.prog 161:=⟨_,Tryz.func161,rfl,by kernel_rfl⟩
theorem S6:bR Tryz.prog 162:=⟨_,Tryz.func162,rfl,by kernel_rfl⟩
theorem TK:bR Tryz.prog 122:=⟨_,Tryz.func122,rfl,by kernel_rfl⟩
theorem Cn:bR Tryz.prog 87:=⟨_,Tryz.func87,rfl,by kernel_rfl⟩
theorem TV:bR Tryz.prog 269:=⟨_,Tryz.func269,rfl,by kernel_rfl⟩
theorem TY:bR Tryz.prog 264:=⟨_,Tryz.func264,rfl,by kernel_rfl⟩
theorem tr:b4 Tryz.prog 50 0 0:=b4.of Tryz.underlying50 rfl rfl bP rfl
theorem V8:lk Tryz.prog 4 Bool 1:=Q7 Tryz.underlying4
theorem V9:lk Tryz.prog 3 Int 1:=J6 (K:= .i64) Tryz.underlying3
theorem S2:lk Tryz.prog 88 b6 3:=IQ (k:=2) rfl Tryz.underlying88 (by kernel_rfl) fun d hd A W xs ys x y ak a7=>by
 refine Eq.trans (tf sK lg rfl (by rfl) V8 (by omega) ak a7 (tf sL cw rfl (by rfl) v3 (by omega) ak a7 (tf DK cw rfl (by rfl) v3 (by omega) ak a7 (tf w9 bP rfl (by rfl) V9 (by omega) ak a7 (tf DL cw rfl (by rfl) v3 (by omega) ak a7 (J8)))))) ?_
 congr 1
 rw [Bool.eq_iff_iff]
 simp only [Bool.and_eq_true,decide_eq_true_eq,and_true]
 cases x; cases y
 simp [aO.str,sK,sL,DK,w9,DL]
theorem S3:Tryz.prog.eqGuardType Tryz.prog.depth 88=false:=by kernel_rfl
theorem S7:bR Tryz.prog 270:=⟨_,Tryz.func270,rfl,by kernel_rfl⟩
theorem TZ:bR Tryz.prog 265:=⟨_,Tryz.func265,rfl,by kernel_rfl⟩
theorem nV:b4 Tryz.prog 52 1 5:=b4.of Tryz.underlying52 rfl rfl bP rfl
theorem UR:bR Tryz.prog 227:=⟨_,Tryz.func227,rfl,by kernel_rfl⟩
theorem Qr:iU Tryz.prog 166 "matchguard/index.find" 227:=iU.q9 (by kernel_rfl) Tryz.underlying166 rfl UR
theorem US:bR Tryz.prog 235:=⟨_,Tryz.func235,rfl,by kernel_rfl⟩
theorem Qs:iU Tryz.prog 169 "matchguard/index.find" 235:=iU.q9 (by kernel_rfl) Tryz.underlying169 rfl US
theorem UT:bR Tryz.prog 260:=⟨_,Tryz.func260,rfl,by kernel_rfl⟩
theorem Qt:iU Tryz.prog 173 "matchguard/index.find" 260:=iU.q9 (by kernel_rfl) Tryz.underlying173 rfl UT
theorem vW:bq Tryz.prog 133 eV:=bq.of (by rfl) Tryz.underlying133 (by kernel_rfl)
theorem yf:b4 Tryz.prog 135 3 3:=b4.of Tryz.underlying135 rfl rfl vW rfl
theorem Vw:bR Tryz.prog 72:=⟨_,Tryz.func72,rfl,by kernel_rfl⟩
theorem Cl:bR Tryz.prog 77:=⟨_,Tryz.func77,rfl,by kernel_rfl⟩
theorem F9:bR Tryz.prog 40:=⟨_,Tryz.func40,rfl,by kernel_rfl⟩
theorem Ms:bR Tryz.prog 28:=⟨_,Tryz.func28,rfl,by kernel_rfl⟩
theorem L9:bR Tryz.prog 43:=⟨_,Tryz.func43,rfl,by kernel_rfl⟩
theorem Gc:bR Tryz.prog 29:=⟨_,Tryz.func29,rfl,by kernel_rfl⟩
theorem BM:b4 Tryz.prog 65 6 6:=b4.of Tryz.underlying65 rfl rfl bP rfl
theorem Vx:bR Tryz.prog 78:=⟨_,Tryz.func78,rfl,by kernel_rfl⟩
theorem Bx:b4 Tryz.prog 143 2 11:=b4.of Tryz.underlying143 rfl rfl bP rfl
theorem TE:bR Tryz.prog 233:=⟨_,Tryz.func233,rfl,by kernel_rfl⟩
theorem Tt:cc Tryz.prog 337 (default:fb):=cc.of (by kernel_rfl)
theorem Ts:gU Tryz.prog 337 #[(0,1),(1,1)]:=⟨_,Tryz.underlying337,by kernel_rfl,by kernel_rfl⟩
theorem J2:b4 Tryz.prog 169 1 1:=b4.of Tryz.underlying169 rfl rfl bP rfl
theorem T4:bR Tryz.prog 243:=⟨_,Tryz.func243,rfl,by kernel_rfl⟩
theorem Ll:cc Tryz.prog 335 (default:di):=cc.of (by kernel_rfl)
theorem Lk:gU Tryz.prog 335 #[(0,2),(2,1),(3,1)]:=⟨_,Tryz.underlying335,by kernel_rfl,by kernel_rfl⟩
theorem T3:bR Tryz.prog 244:=⟨_,Tryz.func244,rfl,by kernel_rfl⟩
theorem K8:bR Tryz.prog 279:=⟨_,Tryz.func279,rfl,by kernel_rfl⟩
theorem K9:bR Tryz.prog 110:=⟨_,Tryz.func110,rfl,by kernel_rfl⟩
theorem Lb:bR Tryz.prog 272:=⟨_,Tryz.func272,rfl,by kernel_rfl⟩
theorem La:bR Tryz.prog 126:=⟨_,Tryz.func126,rfl,by kernel_rfl⟩
theorem TP:bR Tryz.prog 206:=⟨_,Tryz.func206,rfl,by kernel_rfl⟩
theorem TR:bR Tryz.prog 207:=⟨_,Tryz.func207,rfl,by kernel_rfl⟩
theorem TQ:bR Tryz.prog 146:=⟨_,Tryz.func146,rfl,by kernel_rfl⟩
theorem F6:bR Tryz.prog 92:=⟨_,Tryz.func92,rfl,by kernel_rfl⟩
theorem Li:bR Tryz.prog 190:=⟨_,Tryz.func190,rfl,by kernel_rfl⟩
theorem TW:bR Tryz.prog 133:=⟨_,Tryz.func133,rfl,by kernel_rfl⟩
theorem J1:b4 Tryz.prog 228 0 0:=b4.of Tryz.underlying228 rfl rfl hC rfl
theorem LF:bR Tryz.prog 150:=⟨_,Tryz.func150,rfl,by kernel_rfl⟩
theorem T9:bR Tryz.prog 273:=⟨_,Tryz.func273,rfl,by kernel_rfl⟩
theorem Ua:bR Tryz.prog 274:=⟨_,Tryz.func274,rfl,by kernel_rfl⟩
theorem Ub:bR Tryz.prog 275:=⟨_,Tryz.func275,rfl,by kernel_rfl⟩
theorem Ud:bR Tryz.prog 267:=⟨_,Tryz.func267,rfl,by kernel_rfl⟩
theorem UU:bR Tryz.prog 229:=⟨_,Tryz.func229,rfl,by kernel_rfl⟩
theorem Qu:iU Tryz.prog 166 "matchguard/index.put" 229:=iU.q9 (by kernel_rfl) Tryz.underlying166 rfl UU
theorem UW:bR Tryz.prog 237:=⟨_,Tryz.func237,rfl,by kernel_rfl⟩
theorem Qv:iU Tryz.prog 169 "matchguard/index.put" 237:=iU.q9 (by kernel_rfl) Tryz.underlying169 rfl UW
theorem UX:bR Tryz.prog 262:=⟨_,Tryz.func262,rfl,by kernel_rfl⟩
theorem Qw:iU Tryz.prog 173 "matchguard/index.put" 262:=iU.q9 (by kernel_rfl) Tryz.underlying173 rfl UX
theorem Vy:bR Tryz.prog 44:=⟨_,Tryz.func44,rfl,by kernel_rfl⟩
theorem Cq:bR Tryz.prog 30:=⟨_,Tryz.func30,rfl,by kernel_rfl⟩
theorem TF:bR Tryz.prog 234:=⟨_,Tryz.func234,rfl,by kernel_rfl⟩
theorem Uc:cc Tryz.prog 341 (default:List Ref):=cc.of (by kernel_rfl)
theorem Vv:cc Tryz.prog 63 (default:List Int):=cc.of (by kernel_rfl)
theorem r5:bq Tryz.prog 341 (List Ref):=bq.of (by rfl) Tryz.underlying341 (by kernel_rfl)
theorem RB:iT Tryz.prog 341 [0]:=by unfold iT; kernel_rfl
theorem Sr:iT Tryz.prog 63 [0]:=by unfold iT; kernel_rfl
theorem Tu:cc Tryz.prog 333 (default:Vector Ref 2):=cc.of (by kernel_rfl)
theorem Sg:Tryz.prog.eqGuardType Tryz.prog.depth 333=false:=by kernel_rfl
theorem LJ:bR Tryz.prog 252:=⟨_,Tryz.func252,rfl,by kernel_rfl⟩
theorem Ue:bR Tryz.prog 245:=⟨_,Tryz.func245,rfl,by kernel_rfl⟩
structure cW where
 db:az
 tb:Int
 bC:Int
 deriving DecidableEq,Inhabited
instance:ae cW:= .str (c3 az (c3 Int (g9 Int))) (fun x=>(x.db,x.tb,x.bC)) 4
def Od:aO cW az:= .str dc 0 cW.db fun b g=> { b with db:=g }
def N6:aO cW Int:= .str (br dc) 2 cW.tb fun b g=> { b with tb:=g }
def OH:aO cW Int:= .str (br (br hK)) 3 cW.bC fun b g=> { b with bC:=g }
instance:a2 cW:=⟨a2.cells az ++ a2.cells Int ++ a2.cells Int,fun A W=>⟨by rfl,a2.ok (α:=az) A W,a2.ok (α:=Int) A W,a2.ok (α:=Int) A W⟩⟩
theorem TS:cc Tryz.prog 342 (default:List cW):=cc.of (by kernel_rfl)
theorem Fv:bq Tryz.prog 342 (List cW):=bq.of (by rfl) Tryz.underlying342 (by kernel_rfl)
theorem Fw:cc Tryz.prog 347 (default:cW):=cc.of (by kernel_rfl)
theorem Tw:gU Tryz.prog 347 #[(0,2),(2,1),(3,1)]:=⟨_,Tryz.underlying347,by kernel_rfl,by kernel_rfl⟩
theorem K7:bq Tryz.prog 347 cW:=bq.of (by rfl) Tryz.underlying347 (by kernel_rfl)
theorem Tx:bR Tryz.prog 257:=⟨_,Tryz.func257,rfl,by kernel_rfl⟩
theorem Fx:bR Tryz.prog 258:=⟨_,Tryz.func258,rfl,by kernel_rfl⟩
theorem Ty:bR Tryz.prog 166:=⟨_,Tryz.func166,rfl,by kernel_rfl⟩
theorem Tz:bR Tryz.prog 165:=⟨_,Tryz.func165,rfl,by kernel_rfl⟩
theorem TA:bR Tryz.prog 167:=⟨_,Tryz.func167,rfl,by kernel_rfl⟩
theorem Rz:iT Tryz.prog 342 [0]:=by unfold iT; kernel_rfl
theorem TU:bR Tryz.prog 256:=⟨_,Tryz.func256,rfl,by kernel_rfl⟩
theorem TX:bR Tryz.prog 253:=⟨_,Tryz.func253,rfl,by kernel_rfl⟩
theorem Uf:bR Tryz.prog 246:=⟨_,Tryz.func246,rfl,by kernel_rfl⟩
theorem TG:bR Tryz.prog 276:=⟨_,Tryz.func276,rfl,by kernel_rfl⟩
theorem TH:bR Tryz.prog 268:=⟨_,Tryz.func268,rfl,by kernel_rfl⟩
theorem UY:bR Tryz.prog 230:=⟨_,Tryz.func230,rfl,by kernel_rfl⟩
theorem Qx:iU Tryz.prog 166 "matchguard/index.remove" 230:=iU.q9 (by kernel_rfl) Tryz.underlying166 rfl UY
theorem UZ:bR Tryz.prog 238:=⟨_,Tryz.func238,rfl,by kernel_rfl⟩
theorem Qy:iU Tryz.prog 169 "matchguard/index.remove" 238:=iU.q9 (by kernel_rfl) Tryz.underlying169 rfl UZ
theorem U0:bR Tryz.prog 263:=⟨_,Tryz.func263,rfl,by kernel_rfl⟩
theorem Qz:iU Tryz.prog 173 "matchguard/index.remove" 263:=iU.q9 (by kernel_rfl) Tryz.underlying173 rfl U0
theorem Vz:bR Tryz.prog 41:=⟨_,Tryz.func41,rfl,by kernel_rfl⟩
theorem Mq:bR Tryz.prog 33:=⟨_,Tryz.func33,rfl,by kernel_rfl⟩
theorem Mt:bR Tryz.prog 31:=⟨_,Tryz.func31,rfl,by kernel_rfl⟩
theorem Ss:b4 Tryz.prog 52 2 6:=b4.of Tryz.underlying52 rfl rfl bP rfl
theorem VA:bR Tryz.prog 34:=⟨_,Tryz.func34,rfl,by kernel_rfl⟩
inductive Cell where
 | jy (x:List (Int × aH))
 | l2 (x:gn)
 | n3 (x:List (Int × Ref))
 | oO (x:hL)
 | kL (x:List ((Vector az 4) × Ref))
 | mK (x:List ((Vector az 4) × Int))
 | wc (x:lS)
 | pO (x:cG) (key:Option Nat) (cap:Nat)
 | fp (x:di)
 | iK (x:fb)
instance:eI Cell where
 g5 p k:=match k with
  | .jy x=> [⟨some p,.map x⟩]
  | .l2 x=> [⟨some p,.var x⟩]
  | .n3 x=> [⟨some p,.map x⟩]
  | .oO x=> [⟨some p,.var x⟩]
  | .kL x=> [⟨some p,.map x⟩]
  | .mK x=> [⟨some p,.map x⟩]
  | .wc x=> [⟨some p,.var x⟩]
  | .pO x key cap=> [⟨some p,.bU ({ x with cK:= [] } :cG) [(10,a5 key (x.cK).length cap)]⟩,⟨key,.row 52 (x.cK:List aH) cap⟩]
  | .fp x=> [⟨some p,.var x⟩]
  | .iK x=> [⟨some p,.var x⟩]
 root p k:=by cases k <;> exact⟨_,List.mem_cons_self ..,rfl⟩
def j3 (hp:aI Cell) (p:Nat):Option (List (Int × aH)):=match pat hp p with
 | some (.jy x)=>some x
 | _=>none
theorem rQ {hp:aI Cell} {p:Nat} {x:List (Int × aH)} (h:j3 hp p=some x):pat hp p=some (.jy x):=by
 unfold j3 at h
 split at h
 ·rename_i ad; cases h; exact ad
 ·cases h
def hk (hp:aI Cell) (p:Nat):Option (gn):=match pat hp p with
 | some (.l2 x)=>some x
 | _=>none
theorem lX {hp:aI Cell} {p:Nat} {x:gn} (h:hk hp p=some x):pat hp p=some (.l2 x):=by
 unfold hk at h
 split at h
 ·rename_i ad; cases h; exact ad
 ·cases h
def lD (hp:aI Cell) (p:Nat):Option (List (Int × Ref)):=match pat hp p with
 | some (.n3 x)=>some x
 | _=>none
theorem vJ {hp:aI Cell} {p:Nat} {x:List (Int × Ref)} (h:lD hp p=some x):pat hp p=some (.n3 x):=by
 unfold lD at h
 split at h
 ·rename_i ad; cases h; exact ad
 ·cases h
def jc (hp:aI Cell) (p:Nat):Option (hL):=match pat hp p with
 | some (.oO x)=>some x
 | _=>none
theorem mA {hp:aI Cell} {p:Nat} {x:hL} (h:jc hp p=some x):pat hp p=some (.oO x):=by
 unfold jc at h
 split at h
 ·rename_i ad; cases h; exact ad
 ·cases h
def jd (hp:aI Cell) (p:Nat):Option (List ((Vector az 4) × Ref)):=match pat hp p with
 | some (.kL x)=>some x
 | _=>none
theorem lA {hp:aI Cell} {p:Nat} {x:List ((Vector az 4) × Ref)} (h:jd hp p=some x):pat hp p=some (.kL x):=by
 unfold jd at h
 split at h
 ·rename_i ad; cases h; exact ad
 ·cases h
def k4 (hp:aI Cell) (p:Nat):Option (List ((Vector az 4) × Int)):=match pat hp p with
 | some (.mK x)=>some x
 | _=>none
theorem pC {hp:aI Cell} {p:Nat} {x:List ((Vector az 4) × Int)} (h:k4 hp p=some x):pat hp p=some (.mK x):=by
 unfold k4 at h
 split at h
 ·rename_i ad; cases h; exact ad
 ·cases h
def l0 (hp:aI Cell) (p:Nat):Option (lS):=match pat hp p with
 | some (.wc x)=>some x
 | _=>none
theorem rP {hp:aI Cell} {p:Nat} {x:lS} (h:l0 hp p=some x):pat hp p=some (.wc x):=by
 unfold l0 at h
 split at h
 ·rename_i ad; cases h; exact ad
 ·cases h
def ni (hp:aI Cell) (p:Nat):Option (cG × Option Nat × Nat):=match pat hp p with
 | some (.pO x key cap)=>some (x,key,cap)
 | _=>none
theorem ts {hp:aI Cell} {p:Nat} {x:cG × Option Nat × Nat} (h:ni hp p=some x):pat hp p=some (.pO x.1 x.2.1 x.2.2):=by
 unfold ni at h
 split at h
 ·rename_i ad; cases h; exact ad
 ·cases h
def cf (hp:aI Cell) (p:Nat):Option (di):=match pat hp p with
 | some (.fp x)=>some x
 | _=>none
theorem ja {hp:aI Cell} {p:Nat} {x:di} (h:cf hp p=some x):pat hp p=some (.fp x):=by
 unfold cf at h
 split at h
 ·rename_i ad; cases h; exact ad
 ·cases h
def fg (hp:aI Cell) (p:Nat):Option (fb):=match pat hp p with
 | some (.iK x)=>some x
 | _=>none
theorem mB {hp:aI Cell} {p:Nat} {x:fb} (h:fg hp p=some x):pat hp p=some (.iK x):=by
 unfold fg at h
 split at h
 ·rename_i ad; cases h; exact ad
 ·cases h
end Go.Proofs.YtmnggbjcnoffeaaGreat
