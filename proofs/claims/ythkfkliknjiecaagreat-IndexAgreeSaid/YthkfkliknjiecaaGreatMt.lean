/-
  The types of the data, and facts on their tables. Conditions: none.
-/
import Derived.Test.YthkfkliknjiecaaGreatRows
import Derived.Test.YthkfkliknjiecaaGreatMl2
set_option linter.unusedVariables false
set_option linter.unusedSimpArgs false
set_option maxRecDepth 100000
namespace Go.Proofs.YthkfkliknjiecaaGreat
open Go Gv
structure b0 where
 bP:List (BitVec 8)
 tY:Int
 deriving DecidableEq,Inhabited
instance:ae b0:= .str (dt (List (BitVec 8)) (hV Int)) (fun x=>(x.bP,x.tY)) 2
def Fp:aP b0 (List (BitVec 8)):= .str dD 0 b0.bP fun b g=> { b with bP:=g }
def Cc:aP b0 Int:= .str (bz iJ) 1 b0.tY fun b g=> { b with tY:=g }
instance:bb b0:=⟨bb.cells (List (BitVec 8)) ++ bb.cells Int,fun A W=>⟨by rfl,bb.ok (α:=List (BitVec 8)) A W,bb.ok (α:=Int) A W⟩⟩
theorem x4:bs Tryz.prog 5 (BitVec 8):=bs.of (by rfl) Tryz.underlying5 (by kernel_rfl)
theorem Vm:cz Tryz.prog 103 (default:b0):=cz.of (by kernel_rfl)
theorem Vl:hB Tryz.prog 103 #[(0,1),(1,1)]:=⟨_,Tryz.underlying103,by kernel_rfl,by kernel_rfl⟩
theorem OL:bV Tryz.prog 7:=⟨_,Tryz.func7,rfl,by kernel_rfl⟩
structure fm where
 bW:Int
 b6:ByteArray
 fz:Int
 deriving DecidableEq,Inhabited
instance:ae fm:= .str (dt Int (dt ByteArray (hV Int))) (fun x=>(x.bW,x.b6,x.fz)) 3
def qu:aP fm Int:= .str dD 0 fm.bW fun b g=> { b with bW:=g }
def rn:aP fm ByteArray:= .str (bz dD) 1 fm.b6 fun b g=> { b with b6:=g }
def pz:aP fm Int:= .str (bz (bz iJ)) 2 fm.fz fun b g=> { b with fz:=g }
instance:bb fm:=⟨bb.cells Int ++ bb.cells ByteArray ++ bb.cells Int,fun A W=>⟨by rfl,bb.ok (α:=Int) A W,bb.ok (α:=ByteArray) A W,bb.ok (α:=Int) A W⟩⟩
structure jJ where
 bW:Int
 b6:ByteArray
 hP:List Int
 deriving DecidableEq,Inhabited
instance:ae jJ:= .str (dt Int (dt ByteArray (hV (List Int)))) (fun x=>(x.bW,x.b6,x.hP)) 3
def Ft:aP jJ Int:= .str dD 0 jJ.bW fun b g=> { b with bW:=g }
def Fk:aP jJ ByteArray:= .str (bz dD) 1 jJ.b6 fun b g=> { b with b6:=g }
def Fa:aP jJ (List Int):= .str (bz (bz iJ)) 2 jJ.hP fun b g=> { b with hP:=g }
instance:bb jJ:=⟨bb.cells Int ++ bb.cells ByteArray ++ bb.cells (List Int),fun A W=>⟨by rfl,bb.ok (α:=Int) A W,bb.ok (α:=ByteArray) A W,bb.ok (α:=List Int) A W⟩⟩
structure aw where
 dP:BitVec 64
 cv:BitVec 64
 deriving DecidableEq,Inhabited
instance:ae aw:= .str (dt (BitVec 64) (hV (BitVec 64))) (fun x=>(x.dP,x.cv)) 2
def iM:aP aw (BitVec 64):= .str dD 0 aw.dP fun b g=> { b with dP:=g }
def gD:aP aw (BitVec 64):= .str (bz iJ) 1 aw.cv fun b g=> { b with cv:=g }
instance:bb aw:=⟨bb.cells (BitVec 64) ++ bb.cells (BitVec 64),fun A W=>⟨by rfl,bb.ok (α:=BitVec 64) A W,bb.ok (α:=BitVec 64) A W⟩⟩
structure gE where
 cL:aw
 iP:aw
 pF:Int
 deriving DecidableEq,Inhabited
instance:ae gE:= .str (dt aw (dt aw (hV Int))) (fun x=>(x.cL,x.iP,x.pF)) 5
def Cf:aP gE aw:= .str dD 0 gE.cL fun b g=> { b with cL:=g }
def Cp:aP gE aw:= .str (bz dD) 2 gE.iP fun b g=> { b with iP:=g }
def Cq:aP gE Int:= .str (bz (bz iJ)) 4 gE.pF fun b g=> { b with pF:=g }
instance:bb gE:=⟨bb.cells aw ++ bb.cells aw ++ bb.cells Int,fun A W=>⟨by rfl,bb.ok (α:=aw) A W,bb.ok (α:=aw) A W,bb.ok (α:=Int) A W⟩⟩
structure dB where
 bW:Int
 h2:Int
 nD:Int
 o3:List gE
 g4:Int
 deriving DecidableEq,Inhabited
instance:ae dB:= .str (dt Int (dt Int (dt Int (dt (List gE) (hV Int))))) (fun x=>(x.bW,x.h2,x.nD,x.o3,x.g4)) 5
def Fw:aP dB Int:= .str dD 0 dB.bW fun b g=> { b with bW:=g }
def Fc:aP dB Int:= .str (bz dD) 1 dB.h2 fun b g=> { b with h2:=g }
def JT:aP dB Int:= .str (bz (bz dD)) 2 dB.nD fun b g=> { b with nD:=g }
def B7:aP dB (List gE):= .str (bz (bz (bz dD))) 3 dB.o3 fun b g=> { b with o3:=g }
def E8:aP dB Int:= .str (bz (bz (bz (bz iJ)))) 4 dB.g4 fun b g=> { b with g4:=g }
instance:bb dB:=⟨bb.cells Int ++ bb.cells Int ++ bb.cells Int ++ bb.cells (List gE) ++ bb.cells Int,fun A W=>⟨by rfl,bb.ok (α:=Int) A W,bb.ok (α:=Int) A W,bb.ok (α:=Int) A W,bb.ok (α:=List gE) A W,bb.ok (α:=Int) A W⟩⟩
structure jb where
 b6:ByteArray
 fz:Int
 deriving DecidableEq,Inhabited
instance:ae jb:= .str (dt ByteArray (hV Int)) (fun x=>(x.b6,x.fz)) 2
def Cg:aP jb ByteArray:= .str dD 0 jb.b6 fun b g=> { b with b6:=g }
def Ch:aP jb Int:= .str (bz iJ) 1 jb.fz fun b g=> { b with fz:=g }
instance:bb jb:=⟨bb.cells ByteArray ++ bb.cells Int,fun A W=>⟨by rfl,bb.ok (α:=ByteArray) A W,bb.ok (α:=Int) A W⟩⟩
structure fC where
 du:Int
 wg:Int
 cL:aw
 deriving DecidableEq,Inhabited
instance:ae fC:= .str (dt Int (dt Int (hV aw))) (fun x=>(x.du,x.wg,x.cL)) 4
def B6:aP fC Int:= .str dD 0 fC.du fun b g=> { b with du:=g }
def J1:aP fC Int:= .str (bz dD) 1 fC.wg fun b g=> { b with wg:=g }
def Qd:aP fC aw:= .str (bz (bz iJ)) 2 fC.cL fun b g=> { b with cL:=g }
instance:bb fC:=⟨bb.cells Int ++ bb.cells Int ++ bb.cells aw,fun A W=>⟨by rfl,bb.ok (α:=Int) A W,bb.ok (α:=Int) A W,bb.ok (α:=aw) A W⟩⟩
structure e2 where
 h8:Int
 jM:Int
 kN:fC
 deriving DecidableEq,Inhabited
instance:ae e2:= .str (dt Int (dt Int (hV fC))) (fun x=>(x.h8,x.jM,x.kN)) 6
def rv:aP e2 Int:= .str dD 0 e2.h8 fun b g=> { b with h8:=g }
def uQ:aP e2 Int:= .str (bz dD) 1 e2.jM fun b g=> { b with jM:=g }
def xc:aP e2 fC:= .str (bz (bz iJ)) 2 e2.kN fun b g=> { b with kN:=g }
instance:bb e2:=⟨bb.cells Int ++ bb.cells Int ++ bb.cells fC,fun A W=>⟨by rfl,bb.ok (α:=Int) A W,bb.ok (α:=Int) A W,bb.ok (α:=fC) A W⟩⟩
structure ee where
 bW:Int
 b6:ByteArray
 qB:List jb
 om:List e2
 qy:ByteArray
 deriving DecidableEq,Inhabited
instance:ae ee:= .str (dt Int (dt ByteArray (dt (List jb) (dt (List e2) (hV ByteArray))))) (fun x=>(x.bW,x.b6,x.qB,x.om,x.qy)) 5
def w9:aP ee Int:= .str dD 0 ee.bW fun b g=> { b with bW:=g }
def w6:aP ee ByteArray:= .str (bz dD) 1 ee.b6 fun b g=> { b with b6:=g }
def E9:aP ee (List jb):= .str (bz (bz dD)) 2 ee.qB fun b g=> { b with qB:=g }
def yK:aP ee (List e2):= .str (bz (bz (bz dD))) 3 ee.om fun b g=> { b with om:=g }
def JN:aP ee ByteArray:= .str (bz (bz (bz (bz iJ)))) 4 ee.qy fun b g=> { b with qy:=g }
instance:bb ee:=⟨bb.cells Int ++ bb.cells ByteArray ++ bb.cells (List jb) ++ bb.cells (List e2) ++ bb.cells ByteArray,fun A W=>⟨by rfl,bb.ok (α:=Int) A W,bb.ok (α:=ByteArray) A W,bb.ok (α:=List jb) A W,bb.ok (α:=List e2) A W,bb.ok (α:=ByteArray) A W⟩⟩
structure cJ where
 b6:ByteArray
 gf:Int
 du:Int
 deriving DecidableEq,Inhabited
instance:ae cJ:= .str (dt ByteArray (dt Int (hV Int))) (fun x=>(x.b6,x.gf,x.du)) 3
def qv:aP cJ ByteArray:= .str dD 0 cJ.b6 fun b g=> { b with b6:=g }
def oZ:aP cJ Int:= .str (bz dD) 1 cJ.gf fun b g=> { b with gf:=g }
def oc:aP cJ Int:= .str (bz (bz iJ)) 2 cJ.du fun b g=> { b with du:=g }
instance:bb cJ:=⟨bb.cells ByteArray ++ bb.cells Int ++ bb.cells Int,fun A W=>⟨by rfl,bb.ok (α:=ByteArray) A W,bb.ok (α:=Int) A W,bb.ok (α:=Int) A W⟩⟩
structure bx where
 bW:Int
 b6:ByteArray
 cj:List cJ
 fu:List Int
 g4:Int
 uT:List aw
 iQ:Int
 qy:ByteArray
 deriving DecidableEq,Inhabited
instance:ae bx:= .str (dt Int (dt ByteArray (dt (List cJ) (dt (List Int) (dt Int (dt (List aw) (dt Int (hV ByteArray)))))))) (fun x=>(x.bW,x.b6,x.cj,x.fu,x.g4,x.uT,x.iQ,x.qy)) 8
def ta:aP bx Int:= .str dD 0 bx.bW fun b g=> { b with bW:=g }
def Ci:aP bx ByteArray:= .str (bz dD) 1 bx.b6 fun b g=> { b with b6:=g }
def kJ:aP bx (List cJ):= .str (bz (bz dD)) 2 bx.cj fun b g=> { b with cj:=g }
def B2:aP bx (List Int):= .str (bz (bz (bz dD))) 3 bx.fu fun b g=> { b with fu:=g }
def B3:aP bx Int:= .str (bz (bz (bz (bz dD)))) 4 bx.g4 fun b g=> { b with g4:=g }
def PT:aP bx (List aw):= .str (bz (bz (bz (bz (bz dD))))) 5 bx.uT fun b g=> { b with uT:=g }
def Cj:aP bx Int:= .str (bz (bz (bz (bz (bz (bz dD)))))) 6 bx.iQ fun b g=> { b with iQ:=g }
def PU:aP bx ByteArray:= .str (bz (bz (bz (bz (bz (bz (bz iJ))))))) 7 bx.qy fun b g=> { b with qy:=g }
instance:bb bx:=⟨bb.cells Int ++ bb.cells ByteArray ++ bb.cells (List cJ) ++ bb.cells (List Int) ++ bb.cells Int ++ bb.cells (List aw) ++ bb.cells Int ++ bb.cells ByteArray,fun A W=>⟨by rfl,bb.ok (α:=Int) A W,bb.ok (α:=ByteArray) A W,bb.ok (α:=List cJ) A W,bb.ok (α:=List Int) A W,bb.ok (α:=Int) A W,bb.ok (α:=List aw) A W,bb.ok (α:=Int) A W,bb.ok (α:=ByteArray) A W⟩⟩
structure fD where
 et:Int
 h2:Int
 deriving DecidableEq,Inhabited
instance:ae fD:= .str (dt Int (hV Int)) (fun x=>(x.et,x.h2)) 2
def yM:aP fD Int:= .str dD 0 fD.et fun b g=> { b with et:=g }
def Ff:aP fD Int:= .str (bz iJ) 1 fD.h2 fun b g=> { b with h2:=g }
instance:bb fD:=⟨bb.cells Int ++ bb.cells Int,fun A W=>⟨by rfl,bb.ok (α:=Int) A W,bb.ok (α:=Int) A W⟩⟩
structure dr where
 et:Int
 rT:Bool
 rO:Bool
 cj:List Bool
 deriving DecidableEq,Inhabited
instance:ae dr:= .str (dt Int (dt Bool (dt Bool (hV (List Bool))))) (fun x=>(x.et,x.rT,x.rO,x.cj)) 4
def Fi:aP dr Int:= .str dD 0 dr.et fun b g=> { b with et:=g }
def Fm:aP dr Bool:= .str (bz dD) 1 dr.rT fun b g=> { b with rT:=g }
def Fj:aP dr Bool:= .str (bz (bz dD)) 2 dr.rO fun b g=> { b with rO:=g }
def Fo:aP dr (List Bool):= .str (bz (bz (bz iJ))) 3 dr.cj fun b g=> { b with cj:=g }
instance:bb dr:=⟨bb.cells Int ++ bb.cells Bool ++ bb.cells Bool ++ bb.cells (List Bool),fun A W=>⟨by rfl,bb.ok (α:=Int) A W,bb.ok (α:=Bool) A W,bb.ok (α:=Bool) A W,bb.ok (α:=List Bool) A W⟩⟩
structure cG where
 bW:Int
 b6:ByteArray
 jw:List dr
 fu:List Int
 rN:Int
 zw:Bool
 deriving DecidableEq,Inhabited
instance:ae cG:= .str (dt Int (dt ByteArray (dt (List dr) (dt (List Int) (dt Int (hV Bool)))))) (fun x=>(x.bW,x.b6,x.jw,x.fu,x.rN,x.zw)) 6
def Fy:aP cG Int:= .str dD 0 cG.bW fun b g=> { b with bW:=g }
def Fs:aP cG ByteArray:= .str (bz dD) 1 cG.b6 fun b g=> { b with b6:=g }
def w7:aP cG (List dr):= .str (bz (bz dD)) 2 cG.jw fun b g=> { b with jw:=g }
def Fe:aP cG (List Int):= .str (bz (bz (bz dD))) 3 cG.fu fun b g=> { b with fu:=g }
def Fl:aP cG Int:= .str (bz (bz (bz (bz dD)))) 4 cG.rN fun b g=> { b with rN:=g }
def QF:aP cG Bool:= .str (bz (bz (bz (bz (bz iJ))))) 5 cG.zw fun b g=> { b with zw:=g }
instance:bb cG:=⟨bb.cells Int ++ bb.cells ByteArray ++ bb.cells (List dr) ++ bb.cells (List Int) ++ bb.cells Int ++ bb.cells Bool,fun A W=>⟨by rfl,bb.ok (α:=Int) A W,bb.ok (α:=ByteArray) A W,bb.ok (α:=List dr) A W,bb.ok (α:=List Int) A W,bb.ok (α:=Int) A W,bb.ok (α:=Bool) A W⟩⟩
structure e3 where
 et:Int
 vz:Int
 m6:Int
 T7:Int
 pC:Int
 T8:Int
 deriving DecidableEq,Inhabited
instance:ae e3:= .str (dt Int (dt Int (dt Int (dt Int (dt Int (hV Int)))))) (fun x=>(x.et,x.vz,x.m6,x.T7,x.pC,x.T8)) 6
def Cr:aP e3 Int:= .str dD 0 e3.et fun b g=> { b with et:=g }
def J6:aP e3 Int:= .str (bz dD) 1 e3.vz fun b g=> { b with vz:=g }
def JX:aP e3 Int:= .str (bz (bz dD)) 2 e3.m6 fun b g=> { b with m6:=g }
def B9:aP e3 Int:= .str (bz (bz (bz (bz dD)))) 4 e3.pC fun b g=> { b with pC:=g }
instance:bb e3:=⟨bb.cells Int ++ bb.cells Int ++ bb.cells Int ++ bb.cells Int ++ bb.cells Int ++ bb.cells Int,fun A W=>⟨by rfl,bb.ok (α:=Int) A W,bb.ok (α:=Int) A W,bb.ok (α:=Int) A W,bb.ok (α:=Int) A W,bb.ok (α:=Int) A W,bb.ok (α:=Int) A W⟩⟩
structure a2 where
 hP:List fm
 tp:List jJ
 u4:List dB
 fu:List ee
 cA:List bx
 nF:List fD
 oi:List cG
 oo:List e3
 ze:Int
 zp:Int
 deriving DecidableEq,Inhabited
instance:ae a2:= .str (dt (List fm) (dt (List jJ) (dt (List dB) (dt (List ee) (dt (List bx) (dt (List fD) (dt (List cG) (dt (List e3) (dt Int (hV Int)))))))))) (fun x=>(x.hP,x.tp,x.u4,x.fu,x.cA,x.nF,x.oi,x.oo,x.ze,x.zp)) 10
def B0:aP a2 (List fm):= .str dD 0 a2.hP fun b g=> { b with hP:=g }
def P6:aP a2 (List jJ):= .str (bz dD) 1 a2.tp fun b g=> { b with tp:=g }
def Qf:aP a2 (List dB):= .str (bz (bz dD)) 2 a2.u4 fun b g=> { b with u4:=g }
def P7:aP a2 (List ee):= .str (bz (bz (bz dD))) 3 a2.fu fun b g=> { b with fu:=g }
def qq:aP a2 (List bx):= .str (bz (bz (bz (bz dD)))) 4 a2.cA fun b g=> { b with cA:=g }
def Fb:aP a2 (List fD):= .str (bz (bz (bz (bz (bz dD))))) 5 a2.nF fun b g=> { b with nF:=g }
def Qn:aP a2 (List cG):= .str (bz (bz (bz (bz (bz (bz dD)))))) 6 a2.oi fun b g=> { b with oi:=g }
def B8:aP a2 (List e3):= .str (bz (bz (bz (bz (bz (bz (bz dD))))))) 7 a2.oo fun b g=> { b with oo:=g }
def P2:aP a2 Int:= .str (bz (bz (bz (bz (bz (bz (bz (bz dD)))))))) 8 a2.ze fun b g=> { b with ze:=g }
def Qe:aP a2 Int:= .str (bz (bz (bz (bz (bz (bz (bz (bz (bz iJ))))))))) 9 a2.zp fun b g=> { b with zp:=g }
instance:bb a2:=⟨bb.cells (List fm) ++ bb.cells (List jJ) ++ bb.cells (List dB) ++ bb.cells (List ee) ++ bb.cells (List bx) ++ bb.cells (List fD) ++ bb.cells (List cG) ++ bb.cells (List e3) ++ bb.cells Int ++ bb.cells Int,fun A W=>⟨by rfl,bb.ok (α:=List fm) A W,bb.ok (α:=List jJ) A W,bb.ok (α:=List dB) A W,bb.ok (α:=List ee) A W,bb.ok (α:=List bx) A W,bb.ok (α:=List fD) A W,bb.ok (α:=List cG) A W,bb.ok (α:=List e3) A W,bb.ok (α:=Int) A W,bb.ok (α:=Int) A W⟩⟩
theorem xT:cz Tryz.prog 32 (default:a2):=cz.of (by kernel_rfl)
theorem cf:bs Tryz.prog 3 Int:=bs.of (by rfl) Tryz.underlying3 (by kernel_rfl)
theorem C0:cC Tryz.prog 103 1 1:=cC.of Tryz.underlying103 rfl rfl cf rfl
theorem HP:bs Tryz.prog 22 (List (BitVec 8)):=bs.of (by rfl) Tryz.underlying22 (by kernel_rfl)
theorem LV:cC Tryz.prog 103 0 0:=cC.of Tryz.underlying103 rfl rfl HP rfl
theorem mixed:Tryz.prog.follows .mixedOrders=true:=by kernel_rfl
theorem XD:bV Tryz.prog 26:=⟨_,Tryz.func26,rfl,by kernel_rfl⟩
theorem jA:bV Tryz.prog 29:=⟨_,Tryz.func29,rfl,by kernel_rfl⟩
theorem XN:hB Tryz.prog 32 #[(0,1),(1,1),(2,1),(3,1),(4,1),(5,1),(6,1),(7,1),(8,1),(9,1)]:=⟨_,Tryz.underlying32,by kernel_rfl,by kernel_rfl⟩
theorem h5:bs Tryz.prog 32 a2:=bs.of (by rfl) Tryz.underlying32 (by kernel_rfl)
theorem qL:cz Tryz.prog 105 (default:fm):=cz.of (by kernel_rfl)
theorem r5:hB Tryz.prog 105 #[(0,1),(1,1),(2,1)]:=⟨_,Tryz.underlying105,by kernel_rfl,by kernel_rfl⟩
theorem zT:bs Tryz.prog 105 fm:=bs.of (by rfl) Tryz.underlying105 (by kernel_rfl)
theorem Aj:bs Tryz.prog 23 (List fm):=bs.of (by rfl) Tryz.underlying23 (by kernel_rfl)
theorem Dr:cC Tryz.prog 32 0 0:=cC.of Tryz.underlying32 rfl rfl Aj rfl
theorem lk:cz Tryz.prog 3 (default:Int):=cz.of (by kernel_rfl)
theorem DL:cz Tryz.prog 107 (default:jJ):=cz.of (by kernel_rfl)
theorem Hn:hB Tryz.prog 107 #[(0,1),(1,1),(2,1)]:=⟨_,Tryz.underlying107,by kernel_rfl,by kernel_rfl⟩
theorem VQ:bs Tryz.prog 107 jJ:=bs.of (by rfl) Tryz.underlying107 (by kernel_rfl)
theorem Od:bs Tryz.prog 24 (List jJ):=bs.of (by rfl) Tryz.underlying24 (by kernel_rfl)
theorem Ug:cC Tryz.prog 32 1 1:=cC.of Tryz.underlying32 rfl rfl Od rfl
theorem vr:cz Tryz.prog 169 (default:dB):=cz.of (by kernel_rfl)
theorem Hh:hB Tryz.prog 169 #[(0,1),(1,1),(2,1),(3,1),(4,1)]:=⟨_,Tryz.underlying169,by kernel_rfl,by kernel_rfl⟩
theorem vt:bs Tryz.prog 169 dB:=bs.of (by rfl) Tryz.underlying169 (by kernel_rfl)
theorem fw:cz Tryz.prog 48 (default:aw):=cz.of (by kernel_rfl)
theorem jf:hB Tryz.prog 48 #[(0,1),(1,1)]:=⟨_,Tryz.underlying48,by kernel_rfl,by kernel_rfl⟩
theorem tJ:cz Tryz.prog 171 (default:gE):=cz.of (by kernel_rfl)
theorem DG:hB Tryz.prog 171 #[(0,2),(2,2),(4,1)]:=⟨_,Tryz.underlying171,by kernel_rfl,by kernel_rfl⟩
theorem DH:bs Tryz.prog 171 gE:=bs.of (by rfl) Tryz.underlying171 (by kernel_rfl)
theorem z0:bs Tryz.prog 167 (List gE):=bs.of (by rfl) Tryz.underlying167 (by kernel_rfl)
theorem C5:cC Tryz.prog 169 3 3:=cC.of Tryz.underlying169 rfl rfl z0 rfl
theorem nV:bV Tryz.prog 28:=⟨_,Tryz.func28,rfl,by kernel_rfl⟩
theorem L0:jG Tryz.prog 169 [3]:=by unfold jG; kernel_rfl
theorem XO:bV Tryz.prog 49:=⟨_,Tryz.func49,rfl,by kernel_rfl⟩
theorem z1:cz Tryz.prog 173 (default:fC):=cz.of (by kernel_rfl)
theorem DI:hB Tryz.prog 173 #[(0,1),(1,1),(2,2)]:=⟨_,Tryz.underlying173,by kernel_rfl,by kernel_rfl⟩
theorem DJ:bs Tryz.prog 173 fC:=bs.of (by rfl) Tryz.underlying173 (by kernel_rfl)
theorem vu:cz Tryz.prog 153 (default:ee):=cz.of (by kernel_rfl)
theorem xH:hB Tryz.prog 153 #[(0,1),(1,1),(2,1),(3,1),(4,1)]:=⟨_,Tryz.underlying153,by kernel_rfl,by kernel_rfl⟩
theorem nP:cz Tryz.prog 175 (default:e2):=cz.of (by kernel_rfl)
theorem r3:hB Tryz.prog 175 #[(0,1),(1,1),(2,4)]:=⟨_,Tryz.underlying175,by kernel_rfl,by kernel_rfl⟩
theorem z2:bs Tryz.prog 175 e2:=bs.of (by rfl) Tryz.underlying175 (by kernel_rfl)
theorem vv:cz Tryz.prog 156 (default:jb):=cz.of (by kernel_rfl)
theorem DK:hB Tryz.prog 156 #[(0,1),(1,1)]:=⟨_,Tryz.underlying156,by kernel_rfl,by kernel_rfl⟩
theorem Hi:bs Tryz.prog 156 jb:=bs.of (by rfl) Tryz.underlying156 (by kernel_rfl)
theorem Hj:bs Tryz.prog 153 ee:=bs.of (by rfl) Tryz.underlying153 (by kernel_rfl)
theorem pZ:bs Tryz.prog 9 ByteArray:=bs.of (by rfl) Tryz.underlying9 (by kernel_rfl)
theorem L1:cC Tryz.prog 153 4 4:=cC.of Tryz.underlying153 rfl rfl pZ rfl
theorem XP:bV Tryz.prog 50:=⟨_,Tryz.func50,rfl,by kernel_rfl⟩
theorem jN:cz Tryz.prog 39 (default:cJ):=cz.of (by kernel_rfl)
theorem qU:hB Tryz.prog 39 #[(0,1),(1,1),(2,1)]:=⟨_,Tryz.underlying39,by kernel_rfl,by kernel_rfl⟩
theorem ku:bs Tryz.prog 39 cJ:=bs.of (by rfl) Tryz.underlying39 (by kernel_rfl)
theorem l4:cz Tryz.prog 44 (default:bx):=cz.of (by kernel_rfl)
theorem Aq:hB Tryz.prog 44 #[(0,1),(1,1),(2,1),(3,1),(4,1),(5,1),(6,1),(7,1)]:=⟨_,Tryz.underlying44,by kernel_rfl,by kernel_rfl⟩
theorem hv:bs Tryz.prog 44 bx:=bs.of (by rfl) Tryz.underlying44 (by kernel_rfl)
theorem l2:bs Tryz.prog 40 (List cJ):=bs.of (by rfl) Tryz.underlying40 (by kernel_rfl)
theorem mC:cC Tryz.prog 44 2 2:=cC.of Tryz.underlying44 rfl rfl l2 rfl
theorem GQ:jG Tryz.prog 44 [2]:=by unfold jG; kernel_rfl
theorem GP:jG Tryz.prog 44 []:=by unfold jG; kernel_rfl
theorem cB:bs Tryz.prog 48 aw:=bs.of (by rfl) Tryz.underlying48 (by kernel_rfl)
theorem El:cz Tryz.prog 9 (default:ByteArray):=cz.of (by kernel_rfl)
theorem Hk:bs Tryz.prog 176 (List ByteArray):=bs.of (by rfl) Tryz.underlying176 (by kernel_rfl)
theorem VP:cz Tryz.prog 176 (default:List ByteArray):=cz.of (by kernel_rfl)
theorem Uf:cC Tryz.prog 44 7 7:=cC.of Tryz.underlying44 rfl rfl pZ rfl
theorem XQ:bV Tryz.prog 51:=⟨_,Tryz.func51,rfl,by kernel_rfl⟩
theorem Oe:bs Tryz.prog 25 (List dB):=bs.of (by rfl) Tryz.underlying25 (by kernel_rfl)
theorem Uh:cC Tryz.prog 32 2 2:=cC.of Tryz.underlying32 rfl rfl Oe rfl
theorem Of:bs Tryz.prog 26 (List ee):=bs.of (by rfl) Tryz.underlying26 (by kernel_rfl)
theorem Ui:cC Tryz.prog 32 3 3:=cC.of Tryz.underlying32 rfl rfl Of rfl
theorem pL:bs Tryz.prog 27 (List bx):=bs.of (by rfl) Tryz.underlying27 (by kernel_rfl)
theorem qG:cC Tryz.prog 32 4 4:=cC.of Tryz.underlying32 rfl rfl pL rfl
theorem vw:cz Tryz.prog 180 (default:cG):=cz.of (by kernel_rfl)
theorem Hl:hB Tryz.prog 180 #[(0,1),(1,1),(2,1),(3,1),(4,1),(5,1)]:=⟨_,Tryz.underlying180,by kernel_rfl,by kernel_rfl⟩
theorem vx:bs Tryz.prog 180 cG:=bs.of (by rfl) Tryz.underlying180 (by kernel_rfl)
theorem ix:bs Tryz.prog 4 Bool:=bs.of (by rfl) Tryz.underlying4 (by kernel_rfl)
theorem Em:cz Tryz.prog 4 (default:Bool):=cz.of (by kernel_rfl)
theorem vy:bs Tryz.prog 178 (List dr):=bs.of (by rfl) Tryz.underlying178 (by kernel_rfl)
theorem xq:cC Tryz.prog 180 2 2:=cC.of Tryz.underlying180 rfl rfl vy rfl
theorem Dn:cC Tryz.prog 44 0 0:=cC.of Tryz.underlying44 rfl rfl cf rfl
theorem r4:cz Tryz.prog 183 (default:dr):=cz.of (by kernel_rfl)
theorem Hm:hB Tryz.prog 183 #[(0,1),(1,1),(2,1),(3,1)]:=⟨_,Tryz.underlying183,by kernel_rfl,by kernel_rfl⟩
theorem xJ:bs Tryz.prog 183 dr:=bs.of (by rfl) Tryz.underlying183 (by kernel_rfl)
theorem xp:jG Tryz.prog 180 [2]:=by unfold jG; kernel_rfl
theorem XR:bV Tryz.prog 52:=⟨_,Tryz.func52,rfl,by kernel_rfl⟩
theorem Og:bs Tryz.prog 29 (List cG):=bs.of (by rfl) Tryz.underlying29 (by kernel_rfl)
theorem Uj:cC Tryz.prog 32 6 6:=cC.of Tryz.underlying32 rfl rfl Og rfl
theorem tK:cz Tryz.prog 113 (default:fD):=cz.of (by kernel_rfl)
theorem z3:hB Tryz.prog 113 #[(0,1),(1,1)]:=⟨_,Tryz.underlying113,by kernel_rfl,by kernel_rfl⟩
theorem Ho:bs Tryz.prog 113 fD:=bs.of (by rfl) Tryz.underlying113 (by kernel_rfl)
theorem DY:bs Tryz.prog 28 (List fD):=bs.of (by rfl) Tryz.underlying28 (by kernel_rfl)
theorem GR:cC Tryz.prog 32 5 5:=cC.of Tryz.underlying32 rfl rfl DY rfl
theorem vS:bs Tryz.prog 30 (List e3):=bs.of (by rfl) Tryz.underlying30 (by kernel_rfl)
theorem xy:cC Tryz.prog 32 7 7:=cC.of Tryz.underlying32 rfl rfl vS rfl
theorem qM:cz Tryz.prog 115 (default:e3):=cz.of (by kernel_rfl)
theorem DN:hB Tryz.prog 115 #[(0,1),(1,1),(2,1),(3,1),(4,1),(5,1)]:=⟨_,Tryz.underlying115,by kernel_rfl,by kernel_rfl⟩
theorem xK:bs Tryz.prog 115 e3:=bs.of (by rfl) Tryz.underlying115 (by kernel_rfl)
theorem Lu:jG Tryz.prog 32 [5,7]:=by unfold jG; kernel_rfl
theorem OM:bV Tryz.prog 8:=⟨_,Tryz.func8,rfl,by kernel_rfl⟩
theorem X4:cz Tryz.prog 37 (default:Vector Ref 4):=cz.of (by kernel_rfl)
theorem Uw:jG Tryz.prog 32 [4]:=by unfold jG; kernel_rfl
theorem XE:bV Tryz.prog 83:=⟨_,Tryz.func83,rfl,by kernel_rfl⟩
theorem XF:bV Tryz.prog 82:=⟨_,Tryz.func82,rfl,by kernel_rfl⟩
theorem N6:bV Tryz.prog 53:=⟨_,Tryz.func53,rfl,by kernel_rfl⟩
theorem GL:cC Tryz.prog 39 2 2:=cC.of Tryz.underlying39 rfl rfl cf rfl
theorem XI:bV Tryz.prog 54:=⟨_,Tryz.func54,rfl,by kernel_rfl⟩
structure c5 where
 ho:Bool
 cL:aw
 iP:aw
 fk:Int
 lV:aw
 deriving DecidableEq,Inhabited
instance:ae c5:= .str (dt Bool (dt aw (dt aw (dt Int (hV aw))))) (fun x=>(x.ho,x.cL,x.iP,x.fk,x.lV)) 8
def uF:aP c5 Bool:= .str dD 0 c5.ho fun b g=> { b with ho:=g }
def py:aP c5 aw:= .str (bz dD) 1 c5.cL fun b g=> { b with cL:=g }
def Ck:aP c5 aw:= .str (bz (bz dD)) 3 c5.iP fun b g=> { b with iP:=g }
def w5:aP c5 Int:= .str (bz (bz (bz dD))) 5 c5.fk fun b g=> { b with fk:=g }
def Cl:aP c5 aw:= .str (bz (bz (bz (bz iJ)))) 6 c5.lV fun b g=> { b with lV:=g }
instance:bb c5:=⟨bb.cells Bool ++ bb.cells aw ++ bb.cells aw ++ bb.cells Int ++ bb.cells aw,fun A W=>⟨by rfl,bb.ok (α:=Bool) A W,bb.ok (α:=aw) A W,bb.ok (α:=aw) A W,bb.ok (α:=Int) A W,bb.ok (α:=aw) A W⟩⟩
structure b1 where
 et:Int
 cd:List c5
 jv:Int
 m6:Int
 qI:List aw
 deriving DecidableEq,Inhabited
instance:ae b1:= .str (dt Int (dt (List c5) (dt Int (dt Int (hV (List aw)))))) (fun x=>(x.et,x.cd,x.jv,x.m6,x.qI)) 5
def Ca:aP b1 Int:= .str dD 0 b1.et fun b g=> { b with et:=g }
def ob:aP b1 (List c5):= .str (bz dD) 1 b1.cd fun b g=> { b with cd:=g }
def yE:aP b1 Int:= .str (bz (bz dD)) 2 b1.jv fun b g=> { b with jv:=g }
def Qt:aP b1 Int:= .str (bz (bz (bz dD))) 3 b1.m6 fun b g=> { b with m6:=g }
def JY:aP b1 (List aw):= .str (bz (bz (bz (bz iJ)))) 4 b1.qI fun b g=> { b with qI:=g }
instance:bb b1:=⟨bb.cells Int ++ bb.cells (List c5) ++ bb.cells Int ++ bb.cells Int ++ bb.cells (List aw),fun A W=>⟨by rfl,bb.ok (α:=Int) A W,bb.ok (α:=List c5) A W,bb.ok (α:=Int) A W,bb.ok (α:=Int) A W,bb.ok (α:=List aw) A W⟩⟩
structure aA where
 bd:b1
 bt:Int
 T9:Int
 deriving DecidableEq,Inhabited
instance:ae aA:= .str (dt b1 (dt Int (hV Int))) (fun x=>(x.bd,x.bt,x.T9)) 7
def nB:aP aA b1:= .str dD 0 aA.bd fun b g=> { b with bd:=g }
def m3:aP aA Int:= .str (bz dD) 5 aA.bt fun b g=> { b with bt:=g }
instance:bb aA:=⟨bb.cells b1 ++ bb.cells Int ++ bb.cells Int,fun A W=>⟨by rfl,bb.ok (α:=b1) A W,bb.ok (α:=Int) A W,bb.ok (α:=Int) A W⟩⟩
structure jI where
 pW:Ref
 deriving DecidableEq,Inhabited
instance:ae jI:= .str (hV Ref) (fun x=>x.pW) 1
def yP:aP jI Ref:= .str iJ 0 jI.pW fun b g=> { b with pW:=g }
instance:bb jI:=⟨bb.cells Ref,fun A W=>⟨by rfl,bb.ok (α:=Ref) A W⟩⟩
structure gp where
 rZ:Int
 eu:Int
 nI:fT
 deriving DecidableEq,Inhabited
instance:ae gp:= .str (dt Int (dt Int (hV fT))) (fun x=>(x.rZ,x.eu,x.nI)) 3
def yD:aP gp Int:= .str dD 0 gp.rZ fun b g=> { b with rZ:=g }
def BW:aP gp Int:= .str (bz dD) 1 gp.eu fun b g=> { b with eu:=g }
def qo:aP gp fT:= .str (bz (bz iJ)) 2 gp.nI fun b g=> { b with nI:=g }
instance:bb gp:=⟨bb.cells Int ++ bb.cells Int ++ bb.cells fT,fun A W=>⟨by rfl,bb.ok (α:=Int) A W,bb.ok (α:=Int) A W,bb.ok (α:=fT) A W⟩⟩
structure ja where
 bP:Ref
 deriving DecidableEq,Inhabited
instance:ae ja:= .str (hV Ref) (fun x=>x.bP) 1
def yQ:aP ja Ref:= .str iJ 0 ja.bP fun b g=> { b with bP:=g }
instance:bb ja:=⟨bb.cells Ref,fun A W=>⟨by rfl,bb.ok (α:=Ref) A W⟩⟩
inductive ft where
 | nil
 | l5 (x:jI)
 | kP (x:gp)
 | kQ (x:ja)
 deriving DecidableEq,Inhabited
instance:ae ft where
 size:=1
 agg:=false
 rep A W cs x:=match x with
  | .nil=>cs= [.nilIface]
  | .l5 x=> ∃ v,cs= [.iface 127 v]∧ (I.of x).holds A W v
  | .kP x=> ∃ v,cs= [.iface 130 v]∧ (I.of x).holds A W v
  | .kQ x=> ∃ v,cs= [.iface 134 v]∧ (I.of x).holds A W v
 len {A W cs x} h:=by cases x <;> first | (have h:cs=_:=h; rw [h]; rfl) | (obtain⟨v,h,_⟩:=h; rw [h]; rfl)
 one {A W cs x} h:=by
  intro u hu
  cases x <;> first | (have h:cs=_:=h; rw [h] at hu; rw [List.mem_singleton.1 hu]; rfl) | (obtain⟨v,h,_⟩:=h; rw [h] at hu; rw [List.mem_singleton.1 hu]; rfl)
 flat _:=rfl
 mono {A W c1 W' cs x} e h:=by cases x <;> first | exact h | (obtain⟨v,h,aa⟩:=h; exact⟨v,h,I.mono _ e aa⟩)
instance:bb ft:=⟨[.nilIface],fun _ _=>rfl⟩
theorem R5 {A W v} {x:jI} (h:(I.of x).holds A W v):(I.of (ft.l5 x)).holds A W (.iface 127 v):=⟨rfl,v,rfl,h⟩
theorem CC {A W u} {x:jI} (h:(I.of (ft.l5 x)).holds A W u):∃ v,u= .iface 127 v∧ (I.of x).holds A W v:=by
 obtain⟨J,v,aa,av⟩:=h
 exact⟨v,od J aa,av⟩
theorem R6 {A W v} {x:gp} (h:(I.of x).holds A W v):(I.of (ft.kP x)).holds A W (.iface 130 v):=⟨rfl,v,rfl,h⟩
theorem CD {A W u} {x:gp} (h:(I.of (ft.kP x)).holds A W u):∃ v,u= .iface 130 v∧ (I.of x).holds A W v:=by
 obtain⟨J,v,aa,av⟩:=h
 exact⟨v,od J aa,av⟩
theorem R7 {A W v} {x:ja} (h:(I.of x).holds A W v):(I.of (ft.kQ x)).holds A W (.iface 134 v):=⟨rfl,v,rfl,h⟩
theorem CE {A W u} {x:ja} (h:(I.of (ft.kQ x)).holds A W u):∃ v,u= .iface 134 v∧ (I.of x).holds A W v:=by
 obtain⟨J,v,aa,av⟩:=h
 exact⟨v,od J aa,av⟩
structure gq where
 pE:Int
 o8:Int
 ik:ft
 j2:fT
 deriving DecidableEq,Inhabited
instance:ae gq:= .str (dt Int (dt Int (dt ft (hV fT)))) (fun x=>(x.pE,x.o8,x.ik,x.j2)) 4
def JR:aP gq Int:= .str dD 0 gq.pE fun b g=> { b with pE:=g }
def JS:aP gq Int:= .str (bz dD) 1 gq.o8 fun b g=> { b with o8:=g }
def s0:aP gq ft:= .str (bz (bz dD)) 2 gq.ik fun b g=> { b with ik:=g }
def w4:aP gq fT:= .str (bz (bz (bz iJ))) 3 gq.j2 fun b g=> { b with j2:=g }
instance:bb gq:=⟨bb.cells Int ++ bb.cells Int ++ bb.cells ft ++ bb.cells fT,fun A W=>⟨by rfl,bb.ok (α:=Int) A W,bb.ok (α:=Int) A W,bb.ok (α:=ft) A W,bb.ok (α:=fT) A W⟩⟩
theorem Vs:cz Tryz.prog 123 (default:gq):=cz.of (by kernel_rfl)
theorem Vr:hB Tryz.prog 123 #[(0,1),(1,1),(2,1),(3,1)]:=⟨_,Tryz.underlying123,by kernel_rfl,by kernel_rfl⟩
structure m5 where
 ou:fT
 deriving DecidableEq,Inhabited
instance:ae m5:= .str (hV fT) (fun x=>x.ou) 1
def yI:aP m5 fT:= .str iJ 0 m5.ou fun b g=> { b with ou:=g }
instance:bb m5:=⟨bb.cells fT,fun A W=>⟨by rfl,bb.ok (α:=fT) A W⟩⟩
theorem Vo:cz Tryz.prog 188 (default:m5):=cz.of (by kernel_rfl)
theorem Vn:hB Tryz.prog 188 #[(0,1)]:=⟨_,Tryz.underlying188,by kernel_rfl,by kernel_rfl⟩
theorem XJ:bV Tryz.prog 55:=⟨_,Tryz.func55,rfl,by kernel_rfl⟩
theorem Vu:cz Tryz.prog 127 (default:jI):=cz.of (by kernel_rfl)
theorem Vt:hB Tryz.prog 127 #[(0,1)]:=⟨_,Tryz.underlying127,by kernel_rfl,by kernel_rfl⟩
theorem rY:bs Tryz.prog 121 ft:=bs.of (by rfl) Tryz.underlying121 (by kernel_rfl)
theorem tu:cC Tryz.prog 123 2 2:=cC.of Tryz.underlying123 rfl rfl rY rfl
theorem Th:cC Tryz.prog 105 0 0:=cC.of Tryz.underlying105 rfl rfl cf rfl
theorem XG:bV Tryz.prog 85:=⟨_,Tryz.func85,rfl,by kernel_rfl⟩
theorem XH:bV Tryz.prog 84:=⟨_,Tryz.func84,rfl,by kernel_rfl⟩
theorem Mr:cC Tryz.prog 39 1 1:=cC.of Tryz.underlying39 rfl rfl cf rfl
theorem N7:bV Tryz.prog 56:=⟨_,Tryz.func56,rfl,by kernel_rfl⟩
theorem LZ:cC Tryz.prog 105 2 2:=cC.of Tryz.underlying105 rfl rfl cf rfl
theorem Vw:cz Tryz.prog 130 (default:gp):=cz.of (by kernel_rfl)
theorem Vv:hB Tryz.prog 130 #[(0,1),(1,1),(2,1)]:=⟨_,Tryz.underlying130,by kernel_rfl,by kernel_rfl⟩
structure ca where
 mA:a2
 bP:List aA
 deriving DecidableEq,Inhabited
instance:ae ca:= .str (dt a2 (hV (List aA))) (fun x=>(x.mA,x.bP)) 11
def BV:aP ca a2:= .str dD 0 ca.mA fun b g=> { b with mA:=g }
def w8:aP ca (List aA):= .str (bz iJ) 10 ca.bP fun b g=> { b with bP:=g }
instance:bb ca:=⟨bb.cells a2 ++ bb.cells (List aA),fun A W=>⟨by rfl,bb.ok (α:=a2) A W,bb.ok (α:=List aA) A W⟩⟩
theorem Vq:cz Tryz.prog 192 (default:ca):=cz.of (by kernel_rfl)
theorem Vp:hB Tryz.prog 192 #[(0,10),(10,1)]:=⟨_,Tryz.underlying192,by kernel_rfl,by kernel_rfl⟩
theorem XK:bV Tryz.prog 57:=⟨_,Tryz.func57,rfl,by kernel_rfl⟩
theorem SI:jG Tryz.prog 192 [10]:=by unfold jG; kernel_rfl
theorem VA:cz Tryz.prog 134 (default:ja):=cz.of (by kernel_rfl)
theorem Vz:hB Tryz.prog 134 #[(0,1)]:=⟨_,Tryz.underlying134,by kernel_rfl,by kernel_rfl⟩
theorem x8:bV Tryz.prog 9:=⟨_,Tryz.func9,rfl,by kernel_rfl⟩
theorem qR:cz Tryz.prog 50 (default:c5):=cz.of (by kernel_rfl)
theorem D1:hB Tryz.prog 50 #[(0,1),(1,2),(3,2),(5,1),(6,2)]:=⟨_,Tryz.underlying50,by kernel_rfl,by kernel_rfl⟩
theorem kO:bs Tryz.prog 50 c5:=bs.of (by rfl) Tryz.underlying50 (by kernel_rfl)
theorem HU:cz Tryz.prog 53 (default:b1):=cz.of (by kernel_rfl)
theorem X5:hB Tryz.prog 53 #[(0,1),(1,1),(2,1),(3,1),(4,1)]:=⟨_,Tryz.underlying53,by kernel_rfl,by kernel_rfl⟩
theorem iS:bs Tryz.prog 53 b1:=bs.of (by rfl) Tryz.underlying53 (by kernel_rfl)
theorem zH:cC Tryz.prog 53 2 2:=cC.of Tryz.underlying53 rfl rfl cf rfl
theorem iv:cz Tryz.prog 56 (default:aA):=cz.of (by kernel_rfl)
theorem Av:hB Tryz.prog 56 #[(0,5),(5,1),(6,1)]:=⟨_,Tryz.underlying56,by kernel_rfl,by kernel_rfl⟩
theorem xG:bs Tryz.prog 119 fT:=bs.of (by rfl) Tryz.underlying119 (by kernel_rfl)
theorem zv:cC Tryz.prog 123 3 3:=cC.of Tryz.underlying123 rfl rfl xG rfl
theorem nM:cC Tryz.prog 56 1 5:=cC.of Tryz.underlying56 rfl rfl cf rfl
theorem En:n9 Tryz.prog 3 Int:=UJ Tryz.underlying3
theorem c6:bs Tryz.prog 56 aA:=bs.of (by rfl) Tryz.underlying56 (by kernel_rfl)
theorem oq:cC Tryz.prog 56 0 0:=cC.of Tryz.underlying56 rfl rfl iS rfl
theorem DW:cz Tryz.prog 60 (default:Vector aw 4):=cz.of (by kernel_rfl)
theorem oA:bs Tryz.prog 51 (List c5):=bs.of (by rfl) Tryz.underlying51 (by kernel_rfl)
theorem o6:cC Tryz.prog 53 1 1:=cC.of Tryz.underlying53 rfl rfl oA rfl
theorem zF:cC Tryz.prog 50 1 1:=cC.of Tryz.underlying50 rfl rfl cB rfl
theorem Ai:rf Tryz.prog 60 4 2:=rf.of Tryz.underlying60 cB rfl
theorem lz:bs Tryz.prog 60 (Vector aw 4):=bs.of (by rfl) Tryz.underlying60 (by kernel_rfl)
theorem zW:bs Tryz.prog 186 fT:=bs.of (by rfl) Tryz.underlying186 (by kernel_rfl)
theorem C1:cC Tryz.prog 188 0 0:=cC.of Tryz.underlying188 rfl rfl zW rfl
instance aaK:k4 aw where
 uniq {A W cs c1 W' dM x} h cS:=by
  refine TI h.1 cS.1 ?_
  refine Lz 0 (ae.size (BitVec 64)) (k4.uniq (h.2.1) (cS.2.1)) ?_
  refine Lz 1 (ae.size (BitVec 64)) (k4.uniq (h.2.2) (cS.2.2)) ?_
  exact TJ h.1 cS.1 (by decide)
 plain {A W cs x} h:=by
  intro u hu n
  have bA:=C9 (o:=0) (s:=ae.size (BitVec 64)) (by simpa using hu)
  rcases bA with J | bA
  ·exact k4.plain (h.2.1) u J n
  have bA:=C9 (s:=ae.size (BitVec 64)) bA
  rcases bA with J | bA
  ·exact k4.plain (h.2.2) u J n
  exact Ma h.1 (by rfl) bA
theorem N4:mf Tryz.prog 46 (BitVec 64) 1:=TB (K:= .u64) Tryz.underlying46
theorem gT:bs Tryz.prog 46 (BitVec 64):=bs.of (by rfl) Tryz.underlying46 (by kernel_rfl)
theorem qJ:mf Tryz.prog 48 aw 2:=KI (k:=1) rfl Tryz.underlying48 (by kernel_rfl) fun d hd A W xs ys x y ai a4=>by
 refine Eq.trans (u7 iM gT rfl (by rfl) N4 (by omega) ai a4 (u7 gD gT rfl (by rfl) N4 (by omega) ai a4 (L9))) ?_
 congr 1
 rw [Bool.eq_iff_iff]
 simp only [Bool.and_eq_true,decide_eq_true_eq,and_true]
 cases x; cases y
 simp [aP.str,iM,gD]
theorem Vj:mf Tryz.prog 287 (Vector aw 4) 3:=L8 Tryz.underlying287 cB qJ
theorem OH:ri Tryz.prog 46 (BitVec 64) 1:=Ld Tryz.underlying46 rfl
theorem OI:ri Tryz.prog 48 aw 2:=St (k:=1) rfl Tryz.underlying48 (.cons iM rfl gT (fun b d A W u x h ai=>OH b d A W u x (by omega) ai) (.cons gD rfl gT (fun b d A W u x h ai=>OH b d A W u x (by omega) ai) (.nil)))
theorem Xn:ri Tryz.prog 287 (Vector aw 4) 3:=MI Tryz.underlying287 cB OI
theorem DE:n9 Tryz.prog 287 (Vector aw 4):=MJ Tryz.underlying287 rfl Xn Vj rfl rfl
theorem zX:bs Tryz.prog 124 Ref:=bs.of (by rfl) Tryz.underlying124 (by kernel_rfl)
theorem C4:cC Tryz.prog 127 0 0:=cC.of Tryz.underlying127 rfl rfl zX rfl
theorem DF:bV Tryz.prog 197:=⟨_,Tryz.func197,rfl,by kernel_rfl⟩
theorem Hb:bV Tryz.prog 196:=⟨_,Tryz.func196,rfl,by kernel_rfl⟩
theorem zY:bs Tryz.prog 130 gp:=bs.of (by rfl) Tryz.underlying130 (by kernel_rfl)
theorem vq:cz Tryz.prog 288 (default:Vector aw 4):=cz.of (by kernel_rfl)
theorem C2:cC Tryz.prog 130 0 0:=cC.of Tryz.underlying130 rfl rfl cf rfl
theorem j4:bs Tryz.prog 288 (Vector aw 4):=bs.of (by rfl) Tryz.underlying288 (by kernel_rfl)
theorem M1:bV Tryz.prog 206:=⟨_,Tryz.func206,rfl,by kernel_rfl⟩
theorem GN:cC Tryz.prog 50 3 5:=cC.of Tryz.underlying50 rfl rfl cf rfl
theorem Ht:bV Tryz.prog 204:=⟨_,Tryz.func204,rfl,by kernel_rfl⟩
theorem vA:cz Tryz.prog 299 (default:Ref):=cz.of (by kernel_rfl)
theorem M3:bV Tryz.prog 169:=⟨_,Tryz.func169,rfl,by kernel_rfl⟩
theorem mD:cC Tryz.prog 48 0 0:=cC.of Tryz.underlying48 rfl rfl gT rfl
theorem oj:cC Tryz.prog 48 1 1:=cC.of Tryz.underlying48 rfl rfl gT rfl
theorem M4:bV Tryz.prog 168:=⟨_,Tryz.func168,rfl,by kernel_rfl⟩
theorem Hc:bV Tryz.prog 148:=⟨_,Tryz.func148,rfl,by kernel_rfl⟩
theorem VB:bV Tryz.prog 153:=⟨_,Tryz.func153,rfl,by kernel_rfl⟩
theorem vb:cC Tryz.prog 305 0 0:=cC.of Tryz.underlying305 rfl rfl cf rfl
structure eJ where
 eu:Int
 bK:Ref
 deriving DecidableEq,Inhabited
instance:ae eJ:= .str (dt Int (hV Ref)) (fun x=>(x.eu,x.bK)) 2
def s6:aP eJ Int:= .str dD 0 eJ.eu fun b g=> { b with eu:=g }
def rp:aP eJ Ref:= .str (bz iJ) 1 eJ.bK fun b g=> { b with bK:=g }
instance:bb eJ:=⟨bb.cells Int ++ bb.cells Ref,fun A W=>⟨by rfl,bb.ok (α:=Int) A W,bb.ok (α:=Ref) A W⟩⟩
theorem Nj:bV Tryz.prog 149:=⟨_,Tryz.func149,rfl,by kernel_rfl⟩
theorem z4:bV Tryz.prog 116:=⟨_,Tryz.func116,rfl,by kernel_rfl⟩
theorem zV:Tryz.prog.eqGuardType Tryz.prog.depth 48=false:=by kernel_rfl
theorem Nm:bV Tryz.prog 216:=⟨_,Tryz.func216,rfl,by kernel_rfl⟩
theorem dO:bs Tryz.prog 299 Ref:=bs.of (by rfl) Tryz.underlying299 (by kernel_rfl)
theorem rP:cC Tryz.prog 305 1 1:=cC.of Tryz.underlying305 rfl rfl dO rfl
theorem DO:bV Tryz.prog 215:=⟨_,Tryz.func215,rfl,by kernel_rfl⟩
theorem Ua:Pu Tryz.prog 48 1 46 1:=⟨_,_,Tryz.underlying48,rfl,rfl,rfl⟩
theorem Nc:bs Tryz.prog 289 Ref:=bs.of (by rfl) Tryz.underlying289 (by kernel_rfl)
theorem Nf:bV Tryz.prog 172:=⟨_,Tryz.func172,rfl,by kernel_rfl⟩
theorem M7:bs Tryz.prog 301 (Vector Ref 2):=bs.of (by rfl) Tryz.underlying301 (by kernel_rfl)
theorem qE:cC Tryz.prog 303 0 0:=cC.of Tryz.underlying303 rfl rfl M7 rfl
theorem r2:rf Tryz.prog 301 2 1:=rf.of Tryz.underlying301 dO rfl
structure dn where
 ct:Vector Ref 2
 cW:Bool
 gi:Int
 deriving DecidableEq,Inhabited
instance:ae dn:= .str (dt (Vector Ref 2) (dt Bool (hV Int))) (fun x=>(x.ct,x.cW,x.gi)) 4
def qp:aP dn (Vector Ref 2):= .str dD 0 dn.ct fun b g=> { b with ct:=g }
def qt:aP dn Bool:= .str (bz dD) 2 dn.cW fun b g=> { b with cW:=g }
def yU:aP dn Int:= .str (bz (bz iJ)) 3 dn.gi fun b g=> { b with gi:=g }
instance:bb dn:=⟨bb.cells (Vector Ref 2) ++ bb.cells Bool ++ bb.cells Int,fun A W=>⟨by rfl,bb.ok (α:=Vector Ref 2) A W,bb.ok (α:=Bool) A W,bb.ok (α:=Int) A W⟩⟩
theorem DP:bV Tryz.prog 220:=⟨_,Tryz.func220,rfl,by kernel_rfl⟩
theorem No:bV Tryz.prog 212:=⟨_,Tryz.func212,rfl,by kernel_rfl⟩
theorem qD:cC Tryz.prog 303 1 2:=cC.of Tryz.underlying303 rfl rfl ix rfl
theorem zu:cC Tryz.prog 303 2 3:=cC.of Tryz.underlying303 rfl rfl cf rfl
theorem qN:bs Tryz.prog 128 fT:=bs.of (by rfl) Tryz.underlying128 (by kernel_rfl)
theorem rQ:cC Tryz.prog 130 2 2:=cC.of Tryz.underlying130 rfl rfl qN rfl
theorem Vk:mf Tryz.prog 288 (Vector aw 4) 3:=L8 Tryz.underlying288 cB qJ
theorem Xo:ri Tryz.prog 288 (Vector aw 4) 3:=MI Tryz.underlying288 cB OI
theorem tN:n9 Tryz.prog 288 (Vector aw 4):=MJ Tryz.underlying288 rfl Xo Vk rfl rfl
theorem xL:cz Tryz.prog 289 (default:Ref):=cz.of (by kernel_rfl)
theorem Np:bV Tryz.prog 205:=⟨_,Tryz.func205,rfl,by kernel_rfl⟩
theorem z5:bs Tryz.prog 131 Ref:=bs.of (by rfl) Tryz.underlying131 (by kernel_rfl)
theorem C7:cC Tryz.prog 134 0 0:=cC.of Tryz.underlying134 rfl rfl z5 rfl
theorem qT:bs Tryz.prog 67 (List aA):=bs.of (by rfl) Tryz.underlying67 (by kernel_rfl)
theorem rM:cC Tryz.prog 192 1 10:=cC.of Tryz.underlying192 rfl rfl qT rfl
theorem VR:bV Tryz.prog 112:=⟨_,Tryz.func112,rfl,by kernel_rfl⟩
theorem HV:bs Tryz.prog 42 (List aw):=bs.of (by rfl) Tryz.underlying42 (by kernel_rfl)
theorem Ms:cC Tryz.prog 53 4 4:=cC.of Tryz.underlying53 rfl rfl HV rfl
theorem VS:bV Tryz.prog 113:=⟨_,Tryz.func113,rfl,by kernel_rfl⟩
theorem XT:bV Tryz.prog 86:=⟨_,Tryz.func86,rfl,by kernel_rfl⟩
theorem Au:bV Tryz.prog 58:=⟨_,Tryz.func58,rfl,by kernel_rfl⟩
theorem V4:bV Tryz.prog 234:=⟨_,Tryz.func234,rfl,by kernel_rfl⟩
theorem Wa:bV Tryz.prog 229:=⟨_,Tryz.func229,rfl,by kernel_rfl⟩
theorem GS:cC Tryz.prog 53 0 0:=cC.of Tryz.underlying53 rfl rfl cf rfl
theorem YN:mf Tryz.prog 4 Bool 1:=SS Tryz.underlying4
theorem YO:mf Tryz.prog 3 Int 1:=L7 (K:= .i64) Tryz.underlying3
theorem VD:mf Tryz.prog 50 c5 3:=KI (k:=2) rfl Tryz.underlying50 (by kernel_rfl) fun d hd A W xs ys x y ai a4=>by
 refine Eq.trans (u7 uF ix rfl (by rfl) YN (by omega) ai a4 (u7 py cB rfl (by rfl) qJ (by omega) ai a4 (u7 Ck cB rfl (by rfl) qJ (by omega) ai a4 (u7 w5 cf rfl (by rfl) YO (by omega) ai a4 (u7 Cl cB rfl (by rfl) qJ (by omega) ai a4 (L9)))))) ?_
 congr 1
 rw [Bool.eq_iff_iff]
 simp only [Bool.and_eq_true,decide_eq_true_eq,and_true]
 cases x; cases y
 simp [aP.str,uF,py,Ck,w5,Cl]
theorem VE:Tryz.prog.eqGuardType Tryz.prog.depth 50=false:=by kernel_rfl
theorem VT:bV Tryz.prog 235:=⟨_,Tryz.func235,rfl,by kernel_rfl⟩
theorem Wb:bV Tryz.prog 230:=⟨_,Tryz.func230,rfl,by kernel_rfl⟩
theorem Xp:bV Tryz.prog 192:=⟨_,Tryz.func192,rfl,by kernel_rfl⟩
theorem Sa:hZ Tryz.prog 127 "matchguard/index.find" 192:=hZ.pq (by kernel_rfl) Tryz.underlying127 rfl Xp
theorem Xq:bV Tryz.prog 200:=⟨_,Tryz.func200,rfl,by kernel_rfl⟩
theorem Sb:hZ Tryz.prog 130 "matchguard/index.find" 200:=hZ.pq (by kernel_rfl) Tryz.underlying130 rfl Xq
theorem Xr:bV Tryz.prog 225:=⟨_,Tryz.func225,rfl,by kernel_rfl⟩
theorem Sc:hZ Tryz.prog 134 "matchguard/index.find" 225:=hZ.pq (by kernel_rfl) Tryz.underlying134 rfl Xr
theorem VU:bV Tryz.prog 198:=⟨_,Tryz.func198,rfl,by kernel_rfl⟩
theorem VG:cz Tryz.prog 305 (default:eJ):=cz.of (by kernel_rfl)
theorem VF:hB Tryz.prog 305 #[(0,1),(1,1)]:=⟨_,Tryz.underlying305,by kernel_rfl,by kernel_rfl⟩
theorem Gr:cC Tryz.prog 130 1 1:=cC.of Tryz.underlying130 rfl rfl cf rfl
theorem Wx:bV Tryz.prog 208:=⟨_,Tryz.func208,rfl,by kernel_rfl⟩
theorem Nv:cz Tryz.prog 303 (default:dn):=cz.of (by kernel_rfl)
theorem Nu:hB Tryz.prog 303 #[(0,2),(2,1),(3,1)]:=⟨_,Tryz.underlying303,by kernel_rfl,by kernel_rfl⟩
theorem Ww:bV Tryz.prog 209:=⟨_,Tryz.func209,rfl,by kernel_rfl⟩
theorem M9:bV Tryz.prog 244:=⟨_,Tryz.func244,rfl,by kernel_rfl⟩
theorem N9:bV Tryz.prog 87:=⟨_,Tryz.func87,rfl,by kernel_rfl⟩
theorem Ng:bV Tryz.prog 237:=⟨_,Tryz.func237,rfl,by kernel_rfl⟩
theorem Nb:bV Tryz.prog 146:=⟨_,Tryz.func146,rfl,by kernel_rfl⟩
theorem Nl:bV Tryz.prog 170:=⟨_,Tryz.func170,rfl,by kernel_rfl⟩
theorem V1:bV Tryz.prog 171:=⟨_,Tryz.func171,rfl,by kernel_rfl⟩
theorem V0:bV Tryz.prog 114:=⟨_,Tryz.func114,rfl,by kernel_rfl⟩
theorem Hs:bV Tryz.prog 106:=⟨_,Tryz.func106,rfl,by kernel_rfl⟩
theorem Nn:bV Tryz.prog 150:=⟨_,Tryz.func150,rfl,by kernel_rfl⟩
theorem V5:bV Tryz.prog 105:=⟨_,Tryz.func105,rfl,by kernel_rfl⟩
theorem Gs:cC Tryz.prog 192 0 0:=cC.of Tryz.underlying192 rfl rfl h5 rfl
theorem Nq:bV Tryz.prog 118:=⟨_,Tryz.func118,rfl,by kernel_rfl⟩
theorem Wj:bV Tryz.prog 238:=⟨_,Tryz.func238,rfl,by kernel_rfl⟩
theorem Wk:bV Tryz.prog 239:=⟨_,Tryz.func239,rfl,by kernel_rfl⟩
theorem Wl:bV Tryz.prog 240:=⟨_,Tryz.func240,rfl,by kernel_rfl⟩
theorem Wp:bV Tryz.prog 232:=⟨_,Tryz.func232,rfl,by kernel_rfl⟩
theorem Xs:bV Tryz.prog 194:=⟨_,Tryz.func194,rfl,by kernel_rfl⟩
theorem Se:hZ Tryz.prog 127 "matchguard/index.put" 194:=hZ.pq (by kernel_rfl) Tryz.underlying127 rfl Xs
theorem Xt:bV Tryz.prog 202:=⟨_,Tryz.func202,rfl,by kernel_rfl⟩
theorem Sf:hZ Tryz.prog 130 "matchguard/index.put" 202:=hZ.pq (by kernel_rfl) Tryz.underlying130 rfl Xt
theorem Xu:bV Tryz.prog 227:=⟨_,Tryz.func227,rfl,by kernel_rfl⟩
theorem Sg:hZ Tryz.prog 134 "matchguard/index.put" 227:=hZ.pq (by kernel_rfl) Tryz.underlying134 rfl Xu
theorem X6:bV Tryz.prog 10:=⟨_,Tryz.func10,rfl,by kernel_rfl⟩
theorem On:bV Tryz.prog 59:=⟨_,Tryz.func59,rfl,by kernel_rfl⟩
theorem X3:bV Tryz.prog 32:=⟨_,Tryz.func32,rfl,by kernel_rfl⟩
theorem VW:bV Tryz.prog 199:=⟨_,Tryz.func199,rfl,by kernel_rfl⟩
theorem Wm:cz Tryz.prog 309 (default:List Ref):=cz.of (by kernel_rfl)
theorem XV:cz Tryz.prog 41 (default:List Int):=cz.of (by kernel_rfl)
theorem tO:bs Tryz.prog 309 (List Ref):=bs.of (by rfl) Tryz.underlying309 (by kernel_rfl)
theorem D0:bs Tryz.prog 41 (List Int):=bs.of (by rfl) Tryz.underlying41 (by kernel_rfl)
theorem Ts:jG Tryz.prog 309 [0]:=by unfold jG; kernel_rfl
theorem Uu:jG Tryz.prog 41 [0]:=by unfold jG; kernel_rfl
theorem VH:cz Tryz.prog 301 (default:Vector Ref 2):=cz.of (by kernel_rfl)
theorem Uc:Tryz.prog.eqGuardType Tryz.prog.depth 301=false:=by kernel_rfl
theorem Nt:bV Tryz.prog 217:=⟨_,Tryz.func217,rfl,by kernel_rfl⟩
theorem Wq:bV Tryz.prog 210:=⟨_,Tryz.func210,rfl,by kernel_rfl⟩
structure da where
 cL:aw
 u2:Int
 bW:Int
 deriving DecidableEq,Inhabited
instance:ae da:= .str (dt aw (dt Int (hV Int))) (fun x=>(x.cL,x.u2,x.bW)) 4
def Qc:aP da aw:= .str dD 0 da.cL fun b g=> { b with cL:=g }
def P4:aP da Int:= .str (bz dD) 2 da.u2 fun b g=> { b with u2:=g }
def QD:aP da Int:= .str (bz (bz iJ)) 3 da.bW fun b g=> { b with bW:=g }
instance:bb da:=⟨bb.cells aw ++ bb.cells Int ++ bb.cells Int,fun A W=>⟨by rfl,bb.ok (α:=aw) A W,bb.ok (α:=Int) A W,bb.ok (α:=Int) A W⟩⟩
theorem V2:cz Tryz.prog 310 (default:List da):=cz.of (by kernel_rfl)
theorem He:bs Tryz.prog 310 (List da):=bs.of (by rfl) Tryz.underlying310 (by kernel_rfl)
theorem Hf:cz Tryz.prog 315 (default:da):=cz.of (by kernel_rfl)
theorem VJ:hB Tryz.prog 315 #[(0,2),(2,1),(3,1)]:=⟨_,Tryz.underlying315,by kernel_rfl,by kernel_rfl⟩
theorem M8:bs Tryz.prog 315 da:=bs.of (by rfl) Tryz.underlying315 (by kernel_rfl)
theorem VK:bV Tryz.prog 222:=⟨_,Tryz.func222,rfl,by kernel_rfl⟩
theorem Hg:bV Tryz.prog 223:=⟨_,Tryz.func223,rfl,by kernel_rfl⟩
theorem VL:bV Tryz.prog 160:=⟨_,Tryz.func160,rfl,by kernel_rfl⟩
theorem VM:bV Tryz.prog 159:=⟨_,Tryz.func159,rfl,by kernel_rfl⟩
theorem VN:bV Tryz.prog 154:=⟨_,Tryz.func154,rfl,by kernel_rfl⟩
theorem Tq:jG Tryz.prog 310 [0]:=by unfold jG; kernel_rfl
theorem V3:bV Tryz.prog 221:=⟨_,Tryz.func221,rfl,by kernel_rfl⟩
theorem V6:bV Tryz.prog 218:=⟨_,Tryz.func218,rfl,by kernel_rfl⟩
theorem Wr:bV Tryz.prog 211:=⟨_,Tryz.func211,rfl,by kernel_rfl⟩
theorem VX:bV Tryz.prog 241:=⟨_,Tryz.func241,rfl,by kernel_rfl⟩
theorem Ws:bV Tryz.prog 233:=⟨_,Tryz.func233,rfl,by kernel_rfl⟩
theorem Xv:bV Tryz.prog 195:=⟨_,Tryz.func195,rfl,by kernel_rfl⟩
theorem Sh:hZ Tryz.prog 127 "matchguard/index.remove" 195:=hZ.pq (by kernel_rfl) Tryz.underlying127 rfl Xv
theorem Xw:bV Tryz.prog 203:=⟨_,Tryz.func203,rfl,by kernel_rfl⟩
theorem Si:hZ Tryz.prog 130 "matchguard/index.remove" 203:=hZ.pq (by kernel_rfl) Tryz.underlying130 rfl Xw
theorem Xx:bV Tryz.prog 228:=⟨_,Tryz.func228,rfl,by kernel_rfl⟩
theorem Sj:hZ Tryz.prog 134 "matchguard/index.remove" 228:=hZ.pq (by kernel_rfl) Tryz.underlying134 rfl Xx
theorem X7:bV Tryz.prog 11:=⟨_,Tryz.func11,rfl,by kernel_rfl⟩
theorem Aw:bs Tryz.prog 36 Ref:=bs.of (by rfl) Tryz.underlying36 (by kernel_rfl)
theorem HY:rf Tryz.prog 37 4 1:=rf.of Tryz.underlying37 Aw rfl
theorem Tt:cC Tryz.prog 123 1 1:=cC.of Tryz.underlying123 rfl rfl cf rfl
theorem Na:bV Tryz.prog 145:=⟨_,Tryz.func145,rfl,by kernel_rfl⟩
theorem VY:bV Tryz.prog 219:=⟨_,Tryz.func219,rfl,by kernel_rfl⟩
theorem VZ:bV Tryz.prog 213:=⟨_,Tryz.func213,rfl,by kernel_rfl⟩
theorem YU:cz Tryz.prog 1 (default:Raw):=cz.of (by kernel_rfl)
theorem Im:bs Tryz.prog 1 Raw:=bs.of (by rfl) Tryz.underlying1 (by kernel_rfl)
theorem Ni:bV Tryz.prog 214:=⟨_,Tryz.func214,rfl,by kernel_rfl⟩
theorem V7:bV Tryz.prog 207:=⟨_,Tryz.func207,rfl,by kernel_rfl⟩
theorem Wn:bV Tryz.prog 236:=⟨_,Tryz.func236,rfl,by kernel_rfl⟩
theorem Um:cC Tryz.prog 50 0 0:=cC.of Tryz.underlying50 rfl rfl ix rfl
theorem Un:cC Tryz.prog 50 2 3:=cC.of Tryz.underlying50 rfl rfl cB rfl
theorem Nk:bV Tryz.prog 110:=⟨_,Tryz.func110,rfl,by kernel_rfl⟩
theorem Uo:cC Tryz.prog 50 4 6:=cC.of Tryz.underlying50 rfl rfl cB rfl
theorem V8:bV Tryz.prog 248:=⟨_,Tryz.func248,rfl,by kernel_rfl⟩
theorem V9:bV Tryz.prog 247:=⟨_,Tryz.func247,rfl,by kernel_rfl⟩
theorem Wc:bV Tryz.prog 243:=⟨_,Tryz.func243,rfl,by kernel_rfl⟩
theorem Wo:bV Tryz.prog 242:=⟨_,Tryz.func242,rfl,by kernel_rfl⟩
theorem Wy:bV Tryz.prog 231:=⟨_,Tryz.func231,rfl,by kernel_rfl⟩
theorem Xy:bV Tryz.prog 193:=⟨_,Tryz.func193,rfl,by kernel_rfl⟩
theorem Sk:hZ Tryz.prog 127 "matchguard/index.lookup" 193:=hZ.pq (by kernel_rfl) Tryz.underlying127 rfl Xy
theorem Xz:bV Tryz.prog 201:=⟨_,Tryz.func201,rfl,by kernel_rfl⟩
theorem Sl:hZ Tryz.prog 130 "matchguard/index.lookup" 201:=hZ.pq (by kernel_rfl) Tryz.underlying130 rfl Xz
theorem XA:bV Tryz.prog 226:=⟨_,Tryz.func226,rfl,by kernel_rfl⟩
theorem Sm:hZ Tryz.prog 134 "matchguard/index.lookup" 226:=hZ.pq (by kernel_rfl) Tryz.underlying134 rfl XA
theorem Oo:bV Tryz.prog 12:=⟨_,Tryz.func12,rfl,by kernel_rfl⟩
theorem X8:bs Tryz.prog 37 (Vector Ref 4):=bs.of (by rfl) Tryz.underlying37 (by kernel_rfl)
theorem Oq:bV Tryz.prog 13:=⟨_,Tryz.func13,rfl,by kernel_rfl⟩
theorem Tk:cC Tryz.prog 123 0 0:=cC.of Tryz.underlying123 rfl rfl cf rfl
theorem DZ:bV Tryz.prog 24:=⟨_,Tryz.func24,rfl,by kernel_rfl⟩
theorem X9:bV Tryz.prog 14:=⟨_,Tryz.func14,rfl,by kernel_rfl⟩
inductive Cell where
 | hE (x:List (Int × aA))
 | lf (x:gq)
 | iT (x:List ((Vector aw 4) × Ref))
 | nU (x:List ((Vector aw 4) × Int))
 | xQ (x:m5)
 | qS (x:ca) (key:Option Nat) (cap:Nat)
 | ev (x:dn)
 | gL (x:eJ)
instance:e0 Cell where
 hH p k:=match k with
  | .hE x=> [⟨some p,.map x⟩]
  | .lf x=> [⟨some p,.var x⟩]
  | .iT x=> [⟨some p,.map x⟩]
  | .nU x=> [⟨some p,.map x⟩]
  | .xQ x=> [⟨some p,.var x⟩]
  | .qS x key cap=> [⟨some p,.bZ ({ x with bP:= [] } :ca) [(10,bf key (x.bP).length cap)]⟩,⟨key,.row 56 (x.bP:List aA) cap⟩]
  | .ev x=> [⟨some p,.var x⟩]
  | .gL x=> [⟨some p,.var x⟩]
 root p k:=by cases k <;> exact⟨_,List.mem_cons_self ..,rfl⟩
def iH (hp:aH Cell) (p:Nat):Option (List (Int × aA)):=match pat hp p with
 | some (.hE x)=>some x
 | _=>none
theorem pD {hp:aH Cell} {p:Nat} {x:List (Int × aA)} (h:iH hp p=some x):pat hp p=some (.hE x):=by
 unfold iH at h
 split at h
 ·rename_i aa; cases h; exact aa
 ·cases h
def fF (hp:aH Cell) (p:Nat):Option (gq):=match pat hp p with
 | some (.lf x)=>some x
 | _=>none
theorem kp {hp:aH Cell} {p:Nat} {x:gq} (h:fF hp p=some x):pat hp p=some (.lf x):=by
 unfold fF at h
 split at h
 ·rename_i aa; cases h; exact aa
 ·cases h
def g6 (hp:aH Cell) (p:Nat):Option (List ((Vector aw 4) × Ref)):=match pat hp p with
 | some (.iT x)=>some x
 | _=>none
theorem iR {hp:aH Cell} {p:Nat} {x:List ((Vector aw 4) × Ref)} (h:g6 hp p=some x):pat hp p=some (.iT x):=by
 unfold g6 at h
 split at h
 ·rename_i aa; cases h; exact aa
 ·cases h
def ly (hp:aH Cell) (p:Nat):Option (List ((Vector aw 4) × Int)):=match pat hp p with
 | some (.nU x)=>some x
 | _=>none
theorem qF {hp:aH Cell} {p:Nat} {x:List ((Vector aw 4) × Int)} (h:ly hp p=some x):pat hp p=some (.nU x):=by
 unfold ly at h
 split at h
 ·rename_i aa; cases h; exact aa
 ·cases h
def mF (hp:aH Cell) (p:Nat):Option (m5):=match pat hp p with
 | some (.xQ x)=>some x
 | _=>none
theorem tA {hp:aH Cell} {p:Nat} {x:m5} (h:mF hp p=some x):pat hp p=some (.xQ x):=by
 unfold mF at h
 split at h
 ·rename_i aa; cases h; exact aa
 ·cases h
def lZ (hp:aH Cell) (p:Nat):Option (ca × Option Nat × Nat):=match pat hp p with
 | some (.qS x key cap)=>some (x,key,cap)
 | _=>none
theorem pa {hp:aH Cell} {p:Nat} {x:ca × Option Nat × Nat} (h:lZ hp p=some x):pat hp p=some (.qS x.1 x.2.1 x.2.2):=by
 unfold lZ at h
 split at h
 ·rename_i aa; cases h; exact aa
 ·cases h
def cg (hp:aH Cell) (p:Nat):Option (dn):=match pat hp p with
 | some (.ev x)=>some x
 | _=>none
theorem iO {hp:aH Cell} {p:Nat} {x:dn} (h:cg hp p=some x):pat hp p=some (.ev x):=by
 unfold cg at h
 split at h
 ·rename_i aa; cases h; exact aa
 ·cases h
def ey (hp:aH Cell) (p:Nat):Option (eJ):=match pat hp p with
 | some (.gL x)=>some x
 | _=>none
theorem lU {hp:aH Cell} {p:Nat} {x:eJ} (h:ey hp p=some x):pat hp p=some (.gL x):=by
 unfold ey at h
 split at h
 ·rename_i aa; cases h; exact aa
 ·cases h
end Go.Proofs.YthkfkliknjiecaaGreat
