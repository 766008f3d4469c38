/-
  The types of the data, and facts on their tables. Conditions: none.
-/
import Derived.Test.YtmnggbjcnoffeaaGreatRows
import Derived.Test.YtmnggbjcnoffeaaGreatMl2
namespace Go.Proofs.YtmnggbjcnoffeaaGreat
open Go Gv
set_option linter.unusedVariables false
set_option linter.unusedSimpArgs false
set_option maxRecDepth 100000
structure ak where
 c6:BitVec 64
 bO:BitVec 64
 deriving DecidableEq,Inhabited
instance:ai ak:= .str (dp (BitVec 64) (hK (BitVec 64))) (fun x=>(x.c6,x.bO)) 2
def g8:aL ak (BitVec 64):= .str dF 0 ak.c6 fun b g=> { b with c6:=g }
def dT:aL ak (BitVec 64):= .str (bF iu) 1 ak.bO fun b g=> { b with bO:=g }
instance:bd ak:=⟨bd.cells (BitVec 64) ++ bd.cells (BitVec 64),fun A W=>⟨by rfl,bd.ok (α:=BitVec 64) A W,bd.ok (α:=BitVec 64) A W⟩⟩
structure bt where
 cu:List (BitVec 8)
 rm:Int
 deriving DecidableEq,Inhabited
instance:ai bt:= .str (dp (List (BitVec 8)) (hK Int)) (fun x=>(x.cu,x.rm)) 2
def Cf:aL bt (List (BitVec 8)):= .str dF 0 bt.cu fun b g=> { b with cu:=g }
def xW:aL bt Int:= .str (bF iu) 1 bt.rm fun b g=> { b with rm:=g }
instance:bd bt:=⟨bd.cells (List (BitVec 8)) ++ bd.cells Int,fun A W=>⟨by rfl,bd.ok (α:=List (BitVec 8)) A W,bd.ok (α:=Int) A W⟩⟩
theorem H3:bA Tryz.prog 5 (BitVec 8):=bA.of (by rfl) Tryz.underlying5 (by kernel_rfl)
theorem Va:cQ Tryz.prog 117 (default:bt):=cQ.of (by kernel_rfl)
theorem U9:hG Tryz.prog 117 #[(0,1),(1,1)]:=⟨_,Tryz.underlying117,by kernel_rfl,by kernel_rfl⟩
theorem HH:bT Tryz.prog 15:=⟨_,Tryz.func15,rfl,by kernel_rfl⟩
structure fy where
 bX:Int
 cm:ByteArray
 fe:Int
 deriving DecidableEq,Inhabited
instance:ai fy:= .str (dp Int (dp ByteArray (hK Int))) (fun x=>(x.bX,x.cm,x.fe)) 3
def od:aL fy Int:= .str dF 0 fy.bX fun b g=> { b with bX:=g }
def qD:aL fy ByteArray:= .str (bF dF) 1 fy.cm fun b g=> { b with cm:=g }
def mX:aL fy Int:= .str (bF (bF iu)) 2 fy.fe fun b g=> { b with fe:=g }
instance:bd fy:=⟨bd.cells Int ++ bd.cells ByteArray ++ bd.cells Int,fun A W=>⟨by rfl,bd.ok (α:=Int) A W,bd.ok (α:=ByteArray) A W,bd.ok (α:=Int) A W⟩⟩
structure jf where
 bX:Int
 cm:ByteArray
 fi:List Int
 deriving DecidableEq,Inhabited
instance:ai jf:= .str (dp Int (dp ByteArray (hK (List Int)))) (fun x=>(x.bX,x.cm,x.fi)) 3
def Ch:aL jf Int:= .str dF 0 jf.bX fun b g=> { b with bX:=g }
def EY:aL jf ByteArray:= .str (bF dF) 1 jf.cm fun b g=> { b with cm:=g }
def EP:aL jf (List Int):= .str (bF (bF iu)) 2 jf.fi fun b g=> { b with fi:=g }
instance:bd jf:=⟨bd.cells Int ++ bd.cells ByteArray ++ bd.cells (List Int),fun A W=>⟨by rfl,bd.ok (α:=Int) A W,bd.ok (α:=ByteArray) A W,bd.ok (α:=List Int) A W⟩⟩
structure gC where
 bI:ak
 bQ:ak
 oY:Int
 deriving DecidableEq,Inhabited
instance:ai gC:= .str (dp ak (dp ak (hK Int))) (fun x=>(x.bI,x.bQ,x.oY)) 5
def Ca:aL gC ak:= .str dF 0 gC.bI fun b g=> { b with bI:=g }
def Ci:aL gC ak:= .str (bF dF) 2 gC.bQ fun b g=> { b with bQ:=g }
def Cj:aL gC Int:= .str (bF (bF iu)) 4 gC.oY fun b g=> { b with oY:=g }
instance:bd gC:=⟨bd.cells ak ++ bd.cells ak ++ bd.cells Int,fun A W=>⟨by rfl,bd.ok (α:=ak) A W,bd.ok (α:=ak) A W,bd.ok (α:=Int) A W⟩⟩
structure dB where
 bX:Int
 hZ:Int
 m1:Int
 og:List gC
 hc:Int
 deriving DecidableEq,Inhabited
instance:ai dB:= .str (dp Int (dp Int (dp Int (dp (List gC) (hK Int))))) (fun x=>(x.bX,x.hZ,x.m1,x.og,x.hc)) 5
def Cl:aL dB Int:= .str dF 0 dB.bX fun b g=> { b with bX:=g }
def ET:aL dB Int:= .str (bF dF) 1 dB.hZ fun b g=> { b with hZ:=g }
def JW:aL dB Int:= .str (bF (bF dF)) 2 dB.m1 fun b g=> { b with m1:=g }
def B2:aL dB (List gC):= .str (bF (bF (bF dF))) 3 dB.og fun b g=> { b with og:=g }
def EO:aL dB Int:= .str (bF (bF (bF (bF iu)))) 4 dB.hc fun b g=> { b with hc:=g }
instance:bd dB:=⟨bd.cells Int ++ bd.cells Int ++ bd.cells Int ++ bd.cells (List gC) ++ bd.cells Int,fun A W=>⟨by rfl,bd.ok (α:=Int) A W,bd.ok (α:=Int) A W,bd.ok (α:=Int) A W,bd.ok (α:=List gC) A W,bd.ok (α:=Int) A W⟩⟩
structure ik where
 cm:ByteArray
 fe:Int
 deriving DecidableEq,Inhabited
instance:ai ik:= .str (dp ByteArray (hK Int)) (fun x=>(x.cm,x.fe)) 2
def Cb:aL ik ByteArray:= .str dF 0 ik.cm fun b g=> { b with cm:=g }
def x1:aL ik Int:= .str (bF iu) 1 ik.fe fun b g=> { b with fe:=g }
instance:bd ik:=⟨bd.cells ByteArray ++ bd.cells Int,fun A W=>⟨by rfl,bd.ok (α:=ByteArray) A W,bd.ok (α:=Int) A W⟩⟩
structure fF where
 cg:Int
 uN:Int
 bI:ak
 deriving DecidableEq,Inhabited
instance:ai fF:= .str (dp Int (dp Int (hK ak))) (fun x=>(x.cg,x.uN,x.bI)) 4
def BX:aL fF Int:= .str dF 0 fF.cg fun b g=> { b with cg:=g }
def J2:aL fF Int:= .str (bF dF) 1 fF.uN fun b g=> { b with uN:=g }
def P5:aL fF ak:= .str (bF (bF iu)) 2 fF.bI fun b g=> { b with bI:=g }
instance:bd fF:=⟨bd.cells Int ++ bd.cells Int ++ bd.cells ak,fun A W=>⟨by rfl,bd.ok (α:=Int) A W,bd.ok (α:=Int) A W,bd.ok (α:=ak) A W⟩⟩
structure e4 where
 h2:Int
 jk:Int
 kj:fF
 deriving DecidableEq,Inhabited
instance:ai e4:= .str (dp Int (dp Int (hK fF))) (fun x=>(x.h2,x.jk,x.kj)) 6
def qF:aL e4 Int:= .str dF 0 e4.h2 fun b g=> { b with h2:=g }
def tr:aL e4 Int:= .str (bF dF) 1 e4.jk fun b g=> { b with jk:=g }
def vx:aL e4 fF:= .str (bF (bF iu)) 2 e4.kj fun b g=> { b with kj:=g }
instance:bd e4:=⟨bd.cells Int ++ bd.cells Int ++ bd.cells fF,fun A W=>⟨by rfl,bd.ok (α:=Int) A W,bd.ok (α:=Int) A W,bd.ok (α:=fF) A W⟩⟩
structure dN where
 bX:Int
 cm:ByteArray
 jR:List ik
 nK:List e4
 pM:ByteArray
 deriving DecidableEq,Inhabited
instance:ai dN:= .str (dp Int (dp ByteArray (dp (List ik) (dp (List e4) (hK ByteArray))))) (fun x=>(x.bX,x.cm,x.jR,x.nK,x.pM)) 5
def r2:aL dN Int:= .str dF 0 dN.bX fun b g=> { b with bX:=g }
def vp:aL dN ByteArray:= .str (bF dF) 1 dN.cm fun b g=> { b with cm:=g }
def BV:aL dN (List ik):= .str (bF (bF dF)) 2 dN.jR fun b g=> { b with jR:=g }
def xR:aL dN (List e4):= .str (bF (bF (bF dF))) 3 dN.nK fun b g=> { b with nK:=g }
def JM:aL dN ByteArray:= .str (bF (bF (bF (bF iu)))) 4 dN.pM fun b g=> { b with pM:=g }
instance:bd dN:=⟨bd.cells Int ++ bd.cells ByteArray ++ bd.cells (List ik) ++ bd.cells (List e4) ++ bd.cells ByteArray,fun A W=>⟨by rfl,bd.ok (α:=Int) A W,bd.ok (α:=ByteArray) A W,bd.ok (α:=List ik) A W,bd.ok (α:=List e4) A W,bd.ok (α:=ByteArray) A W⟩⟩
structure cE where
 cm:ByteArray
 gr:Int
 cg:Int
 deriving DecidableEq,Inhabited
instance:ai cE:= .str (dp ByteArray (dp Int (hK Int))) (fun x=>(x.cm,x.gr,x.cg)) 3
def qE:aL cE ByteArray:= .str dF 0 cE.cm fun b g=> { b with cm:=g }
def mY:aL cE Int:= .str (bF dF) 1 cE.gr fun b g=> { b with gr:=g }
def k2:aL cE Int:= .str (bF (bF iu)) 2 cE.cg fun b g=> { b with cg:=g }
instance:bd cE:=⟨bd.cells ByteArray ++ bd.cells Int ++ bd.cells Int,fun A W=>⟨by rfl,bd.ok (α:=ByteArray) A W,bd.ok (α:=Int) A W,bd.ok (α:=Int) A W⟩⟩
structure bV where
 bX:Int
 cm:ByteArray
 bx:List cE
 dk:List Int
 hc:Int
 tA:List ak
 lv:Int
 pM:ByteArray
 deriving DecidableEq,Inhabited
instance:ai bV:= .str (dp Int (dp ByteArray (dp (List cE) (dp (List Int) (dp Int (dp (List ak) (dp Int (hK ByteArray)))))))) (fun x=>(x.bX,x.cm,x.bx,x.dk,x.hc,x.tA,x.lv,x.pM)) 8
def oS:aL bV Int:= .str dF 0 bV.bX fun b g=> { b with bX:=g }
def Cc:aL bV ByteArray:= .str (bF dF) 1 bV.cm fun b g=> { b with cm:=g }
def iV:aL bV (List cE):= .str (bF (bF dF)) 2 bV.bx fun b g=> { b with bx:=g }
def vn:aL bV (List Int):= .str (bF (bF (bF dF))) 3 bV.dk fun b g=> { b with dk:=g }
def BW:aL bV Int:= .str (bF (bF (bF (bF dF)))) 4 bV.hc fun b g=> { b with hc:=g }
def PU:aL bV (List ak):= .str (bF (bF (bF (bF (bF dF))))) 5 bV.tA fun b g=> { b with tA:=g }
def Cd:aL bV Int:= .str (bF (bF (bF (bF (bF (bF dF)))))) 6 bV.lv fun b g=> { b with lv:=g }
def PV:aL bV ByteArray:= .str (bF (bF (bF (bF (bF (bF (bF iu))))))) 7 bV.pM fun b g=> { b with pM:=g }
instance:bd bV:=⟨bd.cells Int ++ bd.cells ByteArray ++ bd.cells (List cE) ++ bd.cells (List Int) ++ bd.cells Int ++ bd.cells (List ak) ++ bd.cells Int ++ bd.cells ByteArray,fun A W=>⟨by rfl,bd.ok (α:=Int) A W,bd.ok (α:=ByteArray) A W,bd.ok (α:=List cE) A W,bd.ok (α:=List Int) A W,bd.ok (α:=Int) A W,bd.ok (α:=List ak) A W,bd.ok (α:=Int) A W,bd.ok (α:=ByteArray) A W⟩⟩
structure fG where
 dO:Int
 hZ:Int
 deriving DecidableEq,Inhabited
instance:ai fG:= .str (dp Int (hK Int)) (fun x=>(x.dO,x.hZ)) 2
def xT:aL fG Int:= .str dF 0 fG.dO fun b g=> { b with dO:=g }
def EV:aL fG Int:= .str (bF iu) 1 fG.hZ fun b g=> { b with hZ:=g }
instance:bd fG:=⟨bd.cells Int ++ bd.cells Int,fun A W=>⟨by rfl,bd.ok (α:=Int) A W,bd.ok (α:=Int) A W⟩⟩
structure dr where
 dO:Int
 qW:Bool
 qR:Bool
 bx:List Bool
 deriving DecidableEq,Inhabited
instance:ai dr:= .str (dp Int (dp Bool (dp Bool (hK (List Bool))))) (fun x=>(x.dO,x.qW,x.qR,x.bx)) 4
def EW:aL dr Int:= .str dF 0 dr.dO fun b g=> { b with dO:=g }
def E1:aL dr Bool:= .str (bF dF) 1 dr.qW fun b g=> { b with qW:=g }
def EX:aL dr Bool:= .str (bF (bF dF)) 2 dr.qR fun b g=> { b with qR:=g }
def E2:aL dr (List Bool):= .str (bF (bF (bF iu))) 3 dr.bx fun b g=> { b with bx:=g }
instance:bd dr:=⟨bd.cells Int ++ bd.cells Bool ++ bd.cells Bool ++ bd.cells (List Bool),fun A W=>⟨by rfl,bd.ok (α:=Int) A W,bd.ok (α:=Bool) A W,bd.ok (α:=Bool) A W,bd.ok (α:=List Bool) A W⟩⟩
structure cO where
 bX:Int
 cm:ByteArray
 iW:List dr
 dk:List Int
 qQ:Int
 y5:Bool
 deriving DecidableEq,Inhabited
instance:ai cO:= .str (dp Int (dp ByteArray (dp (List dr) (dp (List Int) (dp Int (hK Bool)))))) (fun x=>(x.bX,x.cm,x.iW,x.dk,x.qQ,x.y5)) 6
def Cn:aL cO Int:= .str dF 0 cO.bX fun b g=> { b with bX:=g }
def E5:aL cO ByteArray:= .str (bF dF) 1 cO.cm fun b g=> { b with cm:=g }
def vq:aL cO (List dr):= .str (bF (bF dF)) 2 cO.iW fun b g=> { b with iW:=g }
def EU:aL cO (List Int):= .str (bF (bF (bF dF))) 3 cO.dk fun b g=> { b with dk:=g }
def E0:aL cO Int:= .str (bF (bF (bF (bF dF)))) 4 cO.qQ fun b g=> { b with qQ:=g }
def Qy:aL cO Bool:= .str (bF (bF (bF (bF (bF iu))))) 5 cO.y5 fun b g=> { b with y5:=g }
instance:bd cO:=⟨bd.cells Int ++ bd.cells ByteArray ++ bd.cells (List dr) ++ bd.cells (List Int) ++ bd.cells Int ++ bd.cells Bool,fun A W=>⟨by rfl,bd.ok (α:=Int) A W,bd.ok (α:=ByteArray) A W,bd.ok (α:=List dr) A W,bd.ok (α:=List Int) A W,bd.ok (α:=Int) A W,bd.ok (α:=Bool) A W⟩⟩
structure e5 where
 dO:Int
 ui:Int
 ln:Int
 Ut:Int
 oU:Int
 Uu:Int
 deriving DecidableEq,Inhabited
instance:ai e5:= .str (dp Int (dp Int (dp Int (dp Int (dp Int (hK Int)))))) (fun x=>(x.dO,x.ui,x.ln,x.Ut,x.oU,x.Uu)) 6
def Ck:aL e5 Int:= .str dF 0 e5.dO fun b g=> { b with dO:=g }
def J8:aL e5 Int:= .str (bF dF) 1 e5.ui fun b g=> { b with ui:=g }
def J0:aL e5 Int:= .str (bF (bF dF)) 2 e5.ln fun b g=> { b with ln:=g }
def B4:aL e5 Int:= .str (bF (bF (bF (bF dF)))) 4 e5.oU fun b g=> { b with oU:=g }
instance:bd e5:=⟨bd.cells Int ++ bd.cells Int ++ bd.cells Int ++ bd.cells Int ++ bd.cells Int ++ bd.cells Int,fun A W=>⟨by rfl,bd.ok (α:=Int) A W,bd.ok (α:=Int) A W,bd.ok (α:=Int) A W,bd.ok (α:=Int) A W,bd.ok (α:=Int) A W,bd.ok (α:=Int) A W⟩⟩
structure a2 where
 fi:List fy
 ll:List jf
 l0:List dB
 dk:List dN
 bm:List bV
 m2:List fG
 ji:List cO
 nL:List e5
 yJ:Int
 yU:Int
 deriving DecidableEq,Inhabited
instance:ai a2:= .str (dp (List fy) (dp (List jf) (dp (List dB) (dp (List dN) (dp (List bV) (dp (List fG) (dp (List cO) (dp (List e5) (dp Int (hK Int)))))))))) (fun x=>(x.fi,x.ll,x.l0,x.dk,x.bm,x.m2,x.ji,x.nL,x.yJ,x.yU)) 10
def rY:aL a2 (List fy):= .str dF 0 a2.fi fun b g=> { b with fi:=g }
def JP:aL a2 (List jf):= .str (bF dF) 1 a2.ll fun b g=> { b with ll:=g }
def JT:aL a2 (List dB):= .str (bF (bF dF)) 2 a2.l0 fun b g=> { b with l0:=g }
def EM:aL a2 (List dN):= .str (bF (bF (bF dF))) 3 a2.dk fun b g=> { b with dk:=g }
def lX:aL a2 (List bV):= .str (bF (bF (bF (bF dF)))) 4 a2.bm fun b g=> { b with bm:=g }
def ER:aL a2 (List fG):= .str (bF (bF (bF (bF (bF dF))))) 5 a2.m2 fun b g=> { b with m2:=g }
def JU:aL a2 (List cO):= .str (bF (bF (bF (bF (bF (bF dF)))))) 6 a2.ji fun b g=> { b with ji:=g }
def B3:aL a2 (List e5):= .str (bF (bF (bF (bF (bF (bF (bF dF))))))) 7 a2.nL fun b g=> { b with nL:=g }
def P1:aL a2 Int:= .str (bF (bF (bF (bF (bF (bF (bF (bF dF)))))))) 8 a2.yJ fun b g=> { b with yJ:=g }
def P6:aL a2 Int:= .str (bF (bF (bF (bF (bF (bF (bF (bF (bF iu))))))))) 9 a2.yU fun b g=> { b with yU:=g }
instance:bd a2:=⟨bd.cells (List fy) ++ bd.cells (List jf) ++ bd.cells (List dB) ++ bd.cells (List dN) ++ bd.cells (List bV) ++ bd.cells (List fG) ++ bd.cells (List cO) ++ bd.cells (List e5) ++ bd.cells Int ++ bd.cells Int,fun A W=>⟨by rfl,bd.ok (α:=List fy) A W,bd.ok (α:=List jf) A W,bd.ok (α:=List dB) A W,bd.ok (α:=List dN) A W,bd.ok (α:=List bV) A W,bd.ok (α:=List fG) A W,bd.ok (α:=List cO) A W,bd.ok (α:=List e5) A W,bd.ok (α:=Int) A W,bd.ok (α:=Int) A W⟩⟩
theorem Ao:cQ Tryz.prog 33 (default:a2):=cQ.of (by kernel_rfl)
theorem bE:bA Tryz.prog 3 Int:=bA.of (by rfl) Tryz.underlying3 (by kernel_rfl)
theorem y2:cq Tryz.prog 117 1 1:=cq.of Tryz.underlying117 rfl rfl bE rfl
theorem DL:bA Tryz.prog 22 (List (BitVec 8)):=bA.of (by rfl) Tryz.underlying22 (by kernel_rfl)
theorem F6:cq Tryz.prog 117 0 0:=cq.of Tryz.underlying117 rfl rfl DL rfl
theorem mixed:Tryz.prog.follows .mixedOrders=true:=by kernel_rfl
theorem Oc:bT Tryz.prog 26:=⟨_,Tryz.func26,rfl,by kernel_rfl⟩
theorem gh:bT Tryz.prog 32:=⟨_,Tryz.func32,rfl,by kernel_rfl⟩
theorem Xy:hG Tryz.prog 33 #[(0,1),(1,1),(2,1),(3,1),(4,1),(5,1),(6,1),(7,1),(8,1),(9,1)]:=⟨_,Tryz.underlying33,by kernel_rfl,by kernel_rfl⟩
theorem fH:bA Tryz.prog 33 a2:=bA.of (by rfl) Tryz.underlying33 (by kernel_rfl)
theorem ou:cQ Tryz.prog 119 (default:fy):=cQ.of (by kernel_rfl)
theorem q7:hG Tryz.prog 119 #[(0,1),(1,1),(2,1)]:=⟨_,Tryz.underlying119,by kernel_rfl,by kernel_rfl⟩
theorem nP:bA Tryz.prog 119 fy:=bA.of (by rfl) Tryz.underlying119 (by kernel_rfl)
theorem rf:bA Tryz.prog 24 (List fy):=bA.of (by rfl) Tryz.underlying24 (by kernel_rfl)
theorem sv:cq Tryz.prog 33 0 0:=cq.of Tryz.underlying33 rfl rfl rf rfl
theorem hI:cQ Tryz.prog 3 (default:Int):=cQ.of (by kernel_rfl)
theorem zF:cQ Tryz.prog 121 (default:jf):=cQ.of (by kernel_rfl)
theorem G9:hG Tryz.prog 121 #[(0,1),(1,1),(2,1)]:=⟨_,Tryz.underlying121,by kernel_rfl,by kernel_rfl⟩
theorem Dj:bA Tryz.prog 121 jf:=bA.of (by rfl) Tryz.underlying121 (by kernel_rfl)
theorem Hv:bA Tryz.prog 25 (List jf):=bA.of (by rfl) Tryz.underlying25 (by kernel_rfl)
theorem MD:cq Tryz.prog 33 1 1:=cq.of Tryz.underlying33 rfl rfl Hv rfl
theorem sF:cQ Tryz.prog 193 (default:dB):=cQ.of (by kernel_rfl)
theorem G5:hG Tryz.prog 193 #[(0,1),(1,1),(2,1),(3,1),(4,1)]:=⟨_,Tryz.underlying193,by kernel_rfl,by kernel_rfl⟩
theorem pY:bA Tryz.prog 193 dB:=bA.of (by rfl) Tryz.underlying193 (by kernel_rfl)
theorem dP:cQ Tryz.prog 43 (default:ak):=cQ.of (by kernel_rfl)
theorem gT:hG Tryz.prog 43 #[(0,1),(1,1)]:=⟨_,Tryz.underlying43,by kernel_rfl,by kernel_rfl⟩
theorem sH:cQ Tryz.prog 195 (default:gC):=cQ.of (by kernel_rfl)
theorem Dr:hG Tryz.prog 195 #[(0,2),(2,2),(4,1)]:=⟨_,Tryz.underlying195,by kernel_rfl,by kernel_rfl⟩
theorem Ds:bA Tryz.prog 195 gC:=bA.of (by rfl) Tryz.underlying195 (by kernel_rfl)
theorem zH:bA Tryz.prog 191 (List gC):=bA.of (by rfl) Tryz.underlying191 (by kernel_rfl)
theorem CV:cq Tryz.prog 193 3 3:=cq.of Tryz.underlying193 rfl rfl zH rfl
theorem nk:bT Tryz.prog 55:=⟨_,Tryz.func55,rfl,by kernel_rfl⟩
theorem L3:jO Tryz.prog 193 [3]:=by unfold jO; kernel_rfl
theorem Xz:bT Tryz.prog 68:=⟨_,Tryz.func68,rfl,by kernel_rfl⟩
theorem zI:cQ Tryz.prog 197 (default:fF):=cQ.of (by kernel_rfl)
theorem Dt:hG Tryz.prog 197 #[(0,1),(1,1),(2,2)]:=⟨_,Tryz.underlying197,by kernel_rfl,by kernel_rfl⟩
theorem Du:bA Tryz.prog 197 fF:=bA.of (by rfl) Tryz.underlying197 (by kernel_rfl)
theorem o2:cQ Tryz.prog 148 (default:dN):=cQ.of (by kernel_rfl)
theorem uf:hG Tryz.prog 148 #[(0,1),(1,1),(2,1),(3,1),(4,1)]:=⟨_,Tryz.underlying148,by kernel_rfl,by kernel_rfl⟩
theorem nc:cQ Tryz.prog 199 (default:e4):=cQ.of (by kernel_rfl)
theorem q5:hG Tryz.prog 199 #[(0,1),(1,1),(2,4)]:=⟨_,Tryz.underlying199,by kernel_rfl,by kernel_rfl⟩
theorem zJ:bA Tryz.prog 199 e4:=bA.of (by rfl) Tryz.underlying199 (by kernel_rfl)
theorem sI:cQ Tryz.prog 151 (default:ik):=cQ.of (by kernel_rfl)
theorem Dv:hG Tryz.prog 151 #[(0,1),(1,1)]:=⟨_,Tryz.underlying151,by kernel_rfl,by kernel_rfl⟩
theorem wA:bA Tryz.prog 151 ik:=bA.of (by rfl) Tryz.underlying151 (by kernel_rfl)
theorem nb:bA Tryz.prog 148 dN:=bA.of (by rfl) Tryz.underlying148 (by kernel_rfl)
theorem pk:bA Tryz.prog 9 ByteArray:=bA.of (by rfl) Tryz.underlying9 (by kernel_rfl)
theorem L4:cq Tryz.prog 148 4 4:=cq.of Tryz.underlying148 rfl rfl pk rfl
theorem XA:bT Tryz.prog 69:=⟨_,Tryz.func69,rfl,by kernel_rfl⟩
theorem jl:cQ Tryz.prog 86 (default:cE):=cQ.of (by kernel_rfl)
theorem rj:hG Tryz.prog 86 #[(0,1),(1,1),(2,1)]:=⟨_,Tryz.underlying86,by kernel_rfl,by kernel_rfl⟩
theorem h8:bA Tryz.prog 86 cE:=bA.of (by rfl) Tryz.underlying86 (by kernel_rfl)
theorem k8:cQ Tryz.prog 65 (default:bV):=cQ.of (by kernel_rfl)
theorem Ag:hG Tryz.prog 65 #[(0,1),(1,1),(2,1),(3,1),(4,1),(5,1),(6,1),(7,1)]:=⟨_,Tryz.underlying65,by kernel_rfl,by kernel_rfl⟩
theorem fS:bA Tryz.prog 65 bV:=bA.of (by rfl) Tryz.underlying65 (by kernel_rfl)
theorem jY:bA Tryz.prog 62 (List cE):=bA.of (by rfl) Tryz.underlying62 (by kernel_rfl)
theorem kh:cq Tryz.prog 65 2 2:=cq.of Tryz.underlying65 rfl rfl jY rfl
theorem GD:jO Tryz.prog 65 [2]:=by unfold jO; kernel_rfl
theorem GC:jO Tryz.prog 65 []:=by unfold jO; kernel_rfl
theorem bN:bA Tryz.prog 43 ak:=bA.of (by rfl) Tryz.underlying43 (by kernel_rfl)
theorem D8:cQ Tryz.prog 9 (default:ByteArray):=cQ.of (by kernel_rfl)
theorem G6:bA Tryz.prog 200 (List ByteArray):=bA.of (by rfl) Tryz.underlying200 (by kernel_rfl)
theorem Vz:cQ Tryz.prog 200 (default:List ByteArray):=cQ.of (by kernel_rfl)
theorem Uz:cq Tryz.prog 65 7 7:=cq.of Tryz.underlying65 rfl rfl pk rfl
theorem XB:bT Tryz.prog 70:=⟨_,Tryz.func70,rfl,by kernel_rfl⟩
theorem Hw:bA Tryz.prog 26 (List dB):=bA.of (by rfl) Tryz.underlying26 (by kernel_rfl)
theorem ME:cq Tryz.prog 33 2 2:=cq.of Tryz.underlying33 rfl rfl Hw rfl
theorem DM:bA Tryz.prog 27 (List dN):=bA.of (by rfl) Tryz.underlying27 (by kernel_rfl)
theorem GA:cq Tryz.prog 33 3 3:=cq.of Tryz.underlying33 rfl rfl DM rfl
theorem lC:bA Tryz.prog 28 (List bV):=bA.of (by rfl) Tryz.underlying28 (by kernel_rfl)
theorem l2:cq Tryz.prog 33 4 4:=cq.of Tryz.underlying33 rfl rfl lC rfl
theorem sG:cQ Tryz.prog 204 (default:cO):=cQ.of (by kernel_rfl)
theorem G7:hG Tryz.prog 204 #[(0,1),(1,1),(2,1),(3,1),(4,1),(5,1)]:=⟨_,Tryz.underlying204,by kernel_rfl,by kernel_rfl⟩
theorem pZ:bA Tryz.prog 204 cO:=bA.of (by rfl) Tryz.underlying204 (by kernel_rfl)
theorem ir:bA Tryz.prog 4 Bool:=bA.of (by rfl) Tryz.underlying4 (by kernel_rfl)
theorem Ea:cQ Tryz.prog 4 (default:Bool):=cQ.of (by kernel_rfl)
theorem uh:bA Tryz.prog 202 (List dr):=bA.of (by rfl) Tryz.underlying202 (by kernel_rfl)
theorem v5:cq Tryz.prog 204 2 2:=cq.of Tryz.underlying204 rfl rfl uh rfl
theorem tV:cq Tryz.prog 65 0 0:=cq.of Tryz.underlying65 rfl rfl bE rfl
theorem q6:cQ Tryz.prog 207 (default:dr):=cQ.of (by kernel_rfl)
theorem G8:hG Tryz.prog 207 #[(0,1),(1,1),(2,1),(3,1)]:=⟨_,Tryz.underlying207,by kernel_rfl,by kernel_rfl⟩
theorem wB:bA Tryz.prog 207 dr:=bA.of (by rfl) Tryz.underlying207 (by kernel_rfl)
theorem v3:jO Tryz.prog 204 [2]:=by unfold jO; kernel_rfl
theorem XC:bT Tryz.prog 71:=⟨_,Tryz.func71,rfl,by kernel_rfl⟩
theorem Hx:bA Tryz.prog 30 (List cO):=bA.of (by rfl) Tryz.underlying30 (by kernel_rfl)
theorem MF:cq Tryz.prog 33 6 6:=cq.of Tryz.underlying33 rfl rfl Hx rfl
theorem sJ:cQ Tryz.prog 127 (default:fG):=cQ.of (by kernel_rfl)
theorem zK:hG Tryz.prog 127 #[(0,1),(1,1)]:=⟨_,Tryz.underlying127,by kernel_rfl,by kernel_rfl⟩
theorem Ha:bA Tryz.prog 127 fG:=bA.of (by rfl) Tryz.underlying127 (by kernel_rfl)
theorem DO:bA Tryz.prog 29 (List fG):=bA.of (by rfl) Tryz.underlying29 (by kernel_rfl)
theorem GF:cq Tryz.prog 33 5 5:=cq.of Tryz.underlying33 rfl rfl DO rfl
theorem uy:bA Tryz.prog 31 (List e5):=bA.of (by rfl) Tryz.underlying31 (by kernel_rfl)
theorem we:cq Tryz.prog 33 7 7:=cq.of Tryz.underlying33 rfl rfl uy rfl
theorem p1:cQ Tryz.prog 129 (default:e5):=cQ.of (by kernel_rfl)
theorem Dw:hG Tryz.prog 129 #[(0,1),(1,1),(2,1),(3,1),(4,1),(5,1)]:=⟨_,Tryz.underlying129,by kernel_rfl,by kernel_rfl⟩
theorem wC:bA Tryz.prog 129 e5:=bA.of (by rfl) Tryz.underlying129 (by kernel_rfl)
theorem Ll:jO Tryz.prog 33 [5,7]:=by unfold jO; kernel_rfl
theorem Oj:bT Tryz.prog 16:=⟨_,Tryz.func16,rfl,by kernel_rfl⟩
structure cr where
 gM:Bool
 bI:ak
 bQ:ak
 eQ:Int
 l4:ak
 deriving DecidableEq,Inhabited
instance:ai cr:= .str (dp Bool (dp ak (dp ak (dp Int (hK ak))))) (fun x=>(x.gM,x.bI,x.bQ,x.eQ,x.l4)) 8
def qB:aL cr Bool:= .str dF 0 cr.gM fun b g=> { b with gM:=g }
def lY:aL cr ak:= .str (bF dF) 1 cr.bI fun b g=> { b with bI:=g }
def r1:aL cr ak:= .str (bF (bF dF)) 3 cr.bQ fun b g=> { b with bQ:=g }
def pL:aL cr Int:= .str (bF (bF (bF dF))) 5 cr.eQ fun b g=> { b with eQ:=g }
def B9:aL cr ak:= .str (bF (bF (bF (bF iu)))) 6 cr.l4 fun b g=> { b with l4:=g }
instance:bd cr:=⟨bd.cells Bool ++ bd.cells ak ++ bd.cells ak ++ bd.cells Int ++ bd.cells ak,fun A W=>⟨by rfl,bd.ok (α:=Bool) A W,bd.ok (α:=ak) A W,bd.ok (α:=ak) A W,bd.ok (α:=Int) A W,bd.ok (α:=ak) A W⟩⟩
structure bJ where
 dO:Int
 bY:List cr
 hY:Int
 ln:Int
 mz:List ak
 deriving DecidableEq,Inhabited
instance:ai bJ:= .str (dp Int (dp (List cr) (dp Int (dp Int (hK (List ak)))))) (fun x=>(x.dO,x.bY,x.hY,x.ln,x.mz)) 5
def rZ:aL bJ Int:= .str dF 0 bJ.dO fun b g=> { b with dO:=g }
def ke:aL bJ (List cr):= .str (bF dF) 1 bJ.bY fun b g=> { b with bY:=g }
def tl:aL bJ Int:= .str (bF (bF dF)) 2 bJ.hY fun b g=> { b with hY:=g }
def B0:aL bJ Int:= .str (bF (bF (bF dF))) 3 bJ.ln fun b g=> { b with ln:=g }
def B8:aL bJ (List ak):= .str (bF (bF (bF (bF iu)))) 4 bJ.mz fun b g=> { b with mz:=g }
instance:bd bJ:=⟨bd.cells Int ++ bd.cells (List cr) ++ bd.cells Int ++ bd.cells Int ++ bd.cells (List ak),fun A W=>⟨by rfl,bd.ok (α:=Int) A W,bd.ok (α:=List cr) A W,bd.ok (α:=Int) A W,bd.ok (α:=Int) A W,bd.ok (α:=List ak) A W⟩⟩
structure aI where
 b2:bJ
 cH:Int
 Uv:Int
 deriving DecidableEq,Inhabited
instance:ai aI:= .str (dp bJ (dp Int (hK Int))) (fun x=>(x.b2,x.cH,x.Uv)) 7
def k0:aL aI bJ:= .str dF 0 aI.b2 fun b g=> { b with b2:=g }
def kd:aL aI Int:= .str (bF dF) 5 aI.cH fun b g=> { b with cH:=g }
instance:bd aI:=⟨bd.cells bJ ++ bd.cells Int ++ bd.cells Int,fun A W=>⟨by rfl,bd.ok (α:=bJ) A W,bd.ok (α:=Int) A W,bd.ok (α:=Int) A W⟩⟩
theorem Vf:bT Tryz.prog 119:=⟨_,Tryz.func119,rfl,by kernel_rfl⟩
theorem Vg:bT Tryz.prog 118:=⟨_,Tryz.func118,rfl,by kernel_rfl⟩
theorem DN:bT Tryz.prog 82:=⟨_,Tryz.func82,rfl,by kernel_rfl⟩
theorem qT:cq Tryz.prog 86 2 2:=cq.of Tryz.underlying86 rfl rfl bE rfl
theorem XM:bT Tryz.prog 83:=⟨_,Tryz.func83,rfl,by kernel_rfl⟩
structure kf where
 qk:Ref
 deriving DecidableEq,Inhabited
instance:ai kf:= .str (hK Ref) (fun x=>x.qk) 1
def B7:aL kf Ref:= .str iu 0 kf.qk fun b g=> { b with qk:=g }
instance:bd kf:=⟨bd.cells Ref,fun A W=>⟨by rfl,bd.ok (α:=Ref) A W⟩⟩
structure et where
 q8:Int
 eR:Int
 fX:gF
 deriving DecidableEq,Inhabited
instance:ai et:= .str (dp Int (dp Int (hK gF))) (fun x=>(x.q8,x.eR,x.fX)) 3
def xF:aL et Int:= .str dF 0 et.q8 fun b g=> { b with q8:=g }
def rX:aL et Int:= .str (bF dF) 1 et.eR fun b g=> { b with eR:=g }
def nB:aL et gF:= .str (bF (bF iu)) 2 et.fX fun b g=> { b with fX:=g }
instance:bd et:=⟨bd.cells Int ++ bd.cells Int ++ bd.cells gF,fun A W=>⟨by rfl,bd.ok (α:=Int) A W,bd.ok (α:=Int) A W,bd.ok (α:=gF) A W⟩⟩
structure jB where
 cu:Ref
 deriving DecidableEq,Inhabited
instance:ai jB:= .str (hK Ref) (fun x=>x.cu) 1
def Ce:aL jB Ref:= .str iu 0 jB.cu fun b g=> { b with cu:=g }
instance:bd jB:=⟨bd.cells Ref,fun A W=>⟨by rfl,bd.ok (α:=Ref) A W⟩⟩
inductive gL where
 | nil
 | mE (x:kf)
 | mF (x:et)
 | mG (x:jB)
 deriving DecidableEq,Inhabited
instance:ai gL where
 size:=1
 agg:=false
 rep A W cs x:=match x with
  | .nil=>cs= [.nilIface]
  | .mE x=> ∃ v,cs= [.iface 166 v]∧ (I.of x).holds A W v
  | .mF x=> ∃ v,cs= [.iface 169 v]∧ (I.of x).holds A W v
  | .mG x=> ∃ v,cs= [.iface 173 v]∧ (I.of x).holds A W v
 len {A W cs x} h:=by cases x <;> first | (have h:cs=_:=h; rw [h]; rfl) | (obtain⟨v,h,_⟩:=h; rw [h]; rfl)
 one {A W cs x} h:=by
  intro u hu
  cases x <;> first | (have h:cs=_:=h; rw [h] at hu; rw [List.mem_singleton.1 hu]; rfl) | (obtain⟨v,h,_⟩:=h; rw [h] at hu; rw [List.mem_singleton.1 hu]; rfl)
 flat _:=rfl
 mono {A W c7 W' cs x} e h:=by cases x <;> first | exact h | (obtain⟨v,h,ae⟩:=h; exact⟨v,h,I.mono _ e ae⟩)
instance:bd gL:=⟨[.nilIface],fun _ _=>rfl⟩
theorem SA {A W v} {x:kf} (h:(I.of x).holds A W v):(I.of (gL.mE x)).holds A W (.iface 166 v):=⟨rfl,v,rfl,h⟩
theorem FD {A W u} {x:kf} (h:(I.of (gL.mE x)).holds A W u):∃ v,u= .iface 166 v∧ (I.of x).holds A W v:=by
 obtain⟨aa,v,ae,aD⟩:=h
 exact⟨v,nF aa ae,aD⟩
theorem SB {A W v} {x:et} (h:(I.of x).holds A W v):(I.of (gL.mF x)).holds A W (.iface 169 v):=⟨rfl,v,rfl,h⟩
theorem FE {A W u} {x:et} (h:(I.of (gL.mF x)).holds A W u):∃ v,u= .iface 169 v∧ (I.of x).holds A W v:=by
 obtain⟨aa,v,ae,aD⟩:=h
 exact⟨v,nF aa ae,aD⟩
theorem SC {A W v} {x:jB} (h:(I.of x).holds A W v):(I.of (gL.mG x)).holds A W (.iface 173 v):=⟨rfl,v,rfl,h⟩
theorem FF {A W u} {x:jB} (h:(I.of (gL.mG x)).holds A W u):∃ v,u= .iface 173 v∧ (I.of x).holds A W v:=by
 obtain⟨aa,v,ae,aD⟩:=h
 exact⟨v,nF aa ae,aD⟩
structure g9 where
 qZ:Int
 oq:Int
 jg:gL
 lZ:gF
 deriving DecidableEq,Inhabited
instance:ai g9:= .str (dp Int (dp Int (dp gL (hK gF)))) (fun x=>(x.qZ,x.oq,x.jg,x.lZ)) 4
def Qj:aL g9 Int:= .str dF 0 g9.qZ fun b g=> { b with qZ:=g }
def JX:aL g9 Int:= .str (bF dF) 1 g9.oq fun b g=> { b with oq:=g }
def vl:aL g9 gL:= .str (bF (bF dF)) 2 g9.jg fun b g=> { b with jg:=g }
def BT:aL g9 gF:= .str (bF (bF (bF iu))) 3 g9.lZ fun b g=> { b with lZ:=g }
instance:bd g9:=⟨bd.cells Int ++ bd.cells Int ++ bd.cells gL ++ bd.cells gF,fun A W=>⟨by rfl,bd.ok (α:=Int) A W,bd.ok (α:=Int) A W,bd.ok (α:=gL) A W,bd.ok (α:=gF) A W⟩⟩
theorem Wl:cQ Tryz.prog 135 (default:g9):=cQ.of (by kernel_rfl)
theorem Wk:hG Tryz.prog 135 #[(0,1),(1,1),(2,1),(3,1)]:=⟨_,Tryz.underlying135,by kernel_rfl,by kernel_rfl⟩
structure m0 where
 o1:gF
 deriving DecidableEq,Inhabited
instance:ai m0:= .str (hK gF) (fun x=>x.o1) 1
def B1:aL m0 gF:= .str iu 0 m0.o1 fun b g=> { b with o1:=g }
instance:bd m0:=⟨bd.cells gF,fun A W=>⟨by rfl,bd.ok (α:=gF) A W⟩⟩
theorem Vc:cQ Tryz.prog 224 (default:m0):=cQ.of (by kernel_rfl)
theorem Vb:hG Tryz.prog 224 #[(0,1)]:=⟨_,Tryz.underlying224,by kernel_rfl,by kernel_rfl⟩
theorem XN:bT Tryz.prog 84:=⟨_,Tryz.func84,rfl,by kernel_rfl⟩
theorem Wn:cQ Tryz.prog 166 (default:kf):=cQ.of (by kernel_rfl)
theorem Wm:hG Tryz.prog 166 #[(0,1)]:=⟨_,Tryz.underlying166,by kernel_rfl,by kernel_rfl⟩
theorem uk:bA Tryz.prog 132 gL:=bA.of (by rfl) Tryz.underlying132 (by kernel_rfl)
theorem v7:cq Tryz.prog 135 2 2:=cq.of Tryz.underlying135 rfl rfl uk rfl
theorem F7:cq Tryz.prog 119 0 0:=cq.of Tryz.underlying119 rfl rfl bE rfl
theorem Vh:bT Tryz.prog 121:=⟨_,Tryz.func121,rfl,by kernel_rfl⟩
theorem Vi:bT Tryz.prog 120:=⟨_,Tryz.func120,rfl,by kernel_rfl⟩
theorem zi:cq Tryz.prog 86 1 1:=cq.of Tryz.underlying86 rfl rfl bE rfl
theorem Hy:bT Tryz.prog 85:=⟨_,Tryz.func85,rfl,by kernel_rfl⟩
theorem y3:cq Tryz.prog 119 2 2:=cq.of Tryz.underlying119 rfl rfl bE rfl
theorem Wp:cQ Tryz.prog 169 (default:et):=cQ.of (by kernel_rfl)
theorem Wo:hG Tryz.prog 169 #[(0,1),(1,1),(2,1)]:=⟨_,Tryz.underlying169,by kernel_rfl,by kernel_rfl⟩
structure cS where
 nH:a2
 cu:List aI
 deriving DecidableEq,Inhabited
instance:ai cS:= .str (dp a2 (hK (List aI))) (fun x=>(x.nH,x.cu)) 11
def BQ:aL cS a2:= .str dF 0 cS.nH fun b g=> { b with nH:=g }
def xX:aL cS (List aI):= .str (bF iu) 10 cS.cu fun b g=> { b with cu:=g }
instance:bd cS:=⟨bd.cells a2 ++ bd.cells (List aI),fun A W=>⟨by rfl,bd.ok (α:=a2) A W,bd.ok (α:=List aI) A W⟩⟩
theorem Ve:cQ Tryz.prog 228 (default:cS):=cQ.of (by kernel_rfl)
theorem Vd:hG Tryz.prog 228 #[(0,10),(10,1)]:=⟨_,Tryz.underlying228,by kernel_rfl,by kernel_rfl⟩
theorem XO:bT Tryz.prog 86:=⟨_,Tryz.func86,rfl,by kernel_rfl⟩
theorem S6:jO Tryz.prog 228 [10]:=by unfold jO; kernel_rfl
theorem Wt:cQ Tryz.prog 173 (default:jB):=cQ.of (by kernel_rfl)
theorem Ws:hG Tryz.prog 173 #[(0,1)]:=⟨_,Tryz.underlying173,by kernel_rfl,by kernel_rfl⟩
theorem HK:bT Tryz.prog 25:=⟨_,Tryz.func25,rfl,by kernel_rfl⟩
theorem XR:bT Tryz.prog 39:=⟨_,Tryz.func39,rfl,by kernel_rfl⟩
theorem wP:cQ Tryz.prog 50 (default:bJ):=cQ.of (by kernel_rfl)
theorem HI:hG Tryz.prog 50 #[(0,1),(1,1),(2,1),(3,1),(4,1)]:=⟨_,Tryz.underlying50,by kernel_rfl,by kernel_rfl⟩
theorem iC:bA Tryz.prog 50 bJ:=bA.of (by rfl) Tryz.underlying50 (by kernel_rfl)
theorem l9:cQ Tryz.prog 88 (default:cr):=cQ.of (by kernel_rfl)
theorem Wu:bT Tryz.prog 108:=⟨_,Tryz.func108,rfl,by kernel_rfl⟩
theorem en:bA Tryz.prog 41 (BitVec 64):=bA.of (by rfl) Tryz.underlying41 (by kernel_rfl)
theorem jC:cq Tryz.prog 43 0 0:=cq.of Tryz.underlying43 rfl rfl en rfl
theorem hO:cq Tryz.prog 43 1 1:=cq.of Tryz.underlying43 rfl rfl en rfl
theorem DS:bT Tryz.prog 46:=⟨_,Tryz.func46,rfl,by kernel_rfl⟩
theorem Wv:bT Tryz.prog 109:=⟨_,Tryz.func109,rfl,by kernel_rfl⟩
theorem MG:Js Tryz.prog 43 1 41 1:=⟨_,_,Tryz.underlying43,rfl,rfl,rfl⟩
theorem uz:hG Tryz.prog 88 #[(0,1),(1,2),(3,2),(5,1),(6,2)]:=⟨_,Tryz.underlying88,by kernel_rfl,by kernel_rfl⟩
theorem gG:bA Tryz.prog 88 cr:=bA.of (by rfl) Tryz.underlying88 (by kernel_rfl)
theorem kI:bA Tryz.prog 47 (List cr):=bA.of (by rfl) Tryz.underlying47 (by kernel_rfl)
theorem k4:cq Tryz.prog 50 1 1:=cq.of Tryz.underlying50 rfl rfl kI rfl
theorem XP:bT Tryz.prog 75:=⟨_,Tryz.func75,rfl,by kernel_rfl⟩
theorem zj:cq Tryz.prog 50 2 2:=cq.of Tryz.underlying50 rfl rfl bE rfl
theorem lD:bA Tryz.prog 63 (List Int):=bA.of (by rfl) Tryz.underlying63 (by kernel_rfl)
theorem ML:cq Tryz.prog 65 3 3:=cq.of Tryz.underlying65 rfl rfl lD rfl
theorem MM:cq Tryz.prog 50 3 3:=cq.of Tryz.underlying50 rfl rfl bE rfl
theorem LX:cq Tryz.prog 148 0 0:=cq.of Tryz.underlying148 rfl rfl bE rfl
theorem XQ:bT Tryz.prog 76:=⟨_,Tryz.func76,rfl,by kernel_rfl⟩
theorem TT:Js Tryz.prog 148 2 145 2:=⟨_,_,Tryz.underlying148,rfl,rfl,rfl⟩
theorem Ww:bA Tryz.prog 145 (List ik):=bA.of (by rfl) Tryz.underlying145 (by kernel_rfl)
theorem Ah:bA Tryz.prog 48 (List ak):=bA.of (by rfl) Tryz.underlying48 (by kernel_rfl)
theorem C8:cq Tryz.prog 50 4 4:=cq.of Tryz.underlying50 rfl rfl Ah rfl
theorem TU:cq Tryz.prog 151 1 1:=cq.of Tryz.underlying151 rfl rfl bE rfl
theorem Lt:jO Tryz.prog 50 [1,4]:=by unfold jO; kernel_rfl
theorem XS:bT Tryz.prog 27:=⟨_,Tryz.func27,rfl,by kernel_rfl⟩
theorem hh:cQ Tryz.prog 52 (default:aI):=cQ.of (by kernel_rfl)
theorem wQ:hG Tryz.prog 52 #[(0,5),(5,1),(6,1)]:=⟨_,Tryz.underlying52,by kernel_rfl,by kernel_rfl⟩
theorem cY:bA Tryz.prog 52 aI:=bA.of (by rfl) Tryz.underlying52 (by kernel_rfl)
theorem Dq:bA Tryz.prog 133 gF:=bA.of (by rfl) Tryz.underlying133 (by kernel_rfl)
theorem Gd:cq Tryz.prog 135 3 3:=cq.of Tryz.underlying135 rfl rfl Dq rfl
theorem lu:cq Tryz.prog 52 1 5:=cq.of Tryz.underlying52 rfl rfl bE rfl
theorem H5:oP Tryz.prog 3 Int:=UP Tryz.underlying3
theorem my:cq Tryz.prog 52 0 0:=cq.of Tryz.underlying52 rfl rfl iC rfl
theorem jm:cQ Tryz.prog 45 (default:Vector ak 4):=cQ.of (by kernel_rfl)
theorem pS:cq Tryz.prog 88 1 1:=cq.of Tryz.underlying88 rfl rfl bN rfl
theorem fD:qv Tryz.prog 45 4 2:=qv.of Tryz.underlying45 bN rfl
theorem dv:bA Tryz.prog 45 (Vector ak 4):=bA.of (by rfl) Tryz.underlying45 (by kernel_rfl)
theorem Di:bA Tryz.prog 222 gF:=bA.of (by rfl) Tryz.underlying222 (by kernel_rfl)
theorem F8:cq Tryz.prog 224 0 0:=cq.of Tryz.underlying224 rfl rfl Di rfl
instance aao:kE ak where
 uniq {A W cs c7 W' dK x} h cZ:=by
  refine T8 h.1 cZ.1 ?_
  refine LC 0 (ai.size (BitVec 64)) (kE.uniq (h.2.1) (cZ.2.1)) ?_
  refine LC 1 (ai.size (BitVec 64)) (kE.uniq (h.2.2) (cZ.2.2)) ?_
  exact T9 h.1 cZ.1 (by decide)
 plain {A W cs x} h:=by
  intro u hu n
  have bW:=CY (o:=0) (s:=ai.size (BitVec 64)) (by simpa using hu)
  rcases bW with aa | bW
  ·exact kE.plain (h.2.1) u aa n
  have bW:=CY (s:=ai.size (BitVec 64)) bW
  rcases bW with aa | bW
  ·exact kE.plain (h.2.2) u aa n
  exact Mb h.1 (by rfl) bW
theorem Ob:kR Tryz.prog 41 (BitVec 64) 1:=T2 (K:= .u64) Tryz.underlying41
theorem ov:kR Tryz.prog 43 ak 2:=Fw (k:=1) rfl Tryz.underlying43 (by kernel_rfl) fun d hd A W xs ys x y aq a6=>by
 refine Eq.trans (qP g8 en rfl (by rfl) Ob (by omega) aq a6 (qP dT en rfl (by rfl) Ob (by omega) aq a6 (Gm))) ?_
 congr 1
 rw [Bool.eq_iff_iff]
 simp only [Bool.and_eq_true,decide_eq_true_eq,and_true]
 cases x; cases y
 simp [aL.str,g8,dT]
theorem U7:kR Tryz.prog 319 (Vector ak 4) 3:=Gl Tryz.underlying319 bN ov
theorem OF:qy Tryz.prog 41 (BitVec 64) 1:=Ld Tryz.underlying41 rfl
theorem OG:qy Tryz.prog 43 ak 2:=SK (k:=1) rfl Tryz.underlying43 (.cons g8 rfl en (fun b d A W u x h aq=>OF b d A W u x (by omega) aq) (.cons dT rfl en (fun b d A W u x h aq=>OF b d A W u x (by omega) aq) (.nil)))
theorem Xj:qy Tryz.prog 319 (Vector ak 4) 3:=MV Tryz.underlying319 bN OG
theorem GZ:oP Tryz.prog 319 (Vector ak 4):=MW Tryz.underlying319 rfl Xj U7 rfl rfl
theorem Dk:bA Tryz.prog 163 Ref:=bA.of (by rfl) Tryz.underlying163 (by kernel_rfl)
theorem Gb:cq Tryz.prog 166 0 0:=cq.of Tryz.underlying166 rfl rfl Dk rfl
theorem G3:bT Tryz.prog 232:=⟨_,Tryz.func232,rfl,by kernel_rfl⟩
theorem Nl:bT Tryz.prog 231:=⟨_,Tryz.func231,rfl,by kernel_rfl⟩
theorem Dl:bA Tryz.prog 169 et:=bA.of (by rfl) Tryz.underlying169 (by kernel_rfl)
theorem wz:cQ Tryz.prog 320 (default:Vector ak 4):=cQ.of (by kernel_rfl)
theorem CT:cq Tryz.prog 169 0 0:=cq.of Tryz.underlying169 rfl rfl bE rfl
theorem h7:bA Tryz.prog 320 (Vector ak 4):=bA.of (by rfl) Tryz.underlying320 (by kernel_rfl)
theorem Nn:bT Tryz.prog 241:=⟨_,Tryz.func241,rfl,by kernel_rfl⟩
theorem tW:cq Tryz.prog 88 3 5:=cq.of Tryz.underlying88 rfl rfl bE rfl
theorem NK:bT Tryz.prog 239:=⟨_,Tryz.func239,rfl,by kernel_rfl⟩
theorem Dx:cQ Tryz.prog 331 (default:Ref):=cQ.of (by kernel_rfl)
theorem No:bT Tryz.prog 205:=⟨_,Tryz.func205,rfl,by kernel_rfl⟩
theorem Np:bT Tryz.prog 204:=⟨_,Tryz.func204,rfl,by kernel_rfl⟩
theorem zG:bT Tryz.prog 188:=⟨_,Tryz.func188,rfl,by kernel_rfl⟩
theorem Dm:bT Tryz.prog 193:=⟨_,Tryz.func193,rfl,by kernel_rfl⟩
theorem vZ:cq Tryz.prog 337 0 0:=cq.of Tryz.underlying337 rfl rfl bE rfl
structure ga where
 eR:Int
 db:Ref
 deriving DecidableEq,Inhabited
instance:ai ga:= .str (dp Int (hK Ref)) (fun x=>(x.eR,x.db)) 2
def tn:aL ga Int:= .str dF 0 ga.eR fun b g=> { b with eR:=g }
def x4:aL ga Ref:= .str (bF iu) 1 ga.db fun b g=> { b with db:=g }
instance:bd ga:=⟨bd.cells Int ++ bd.cells Ref,fun A W=>⟨by rfl,bd.ok (α:=Int) A W,bd.ok (α:=Ref) A W⟩⟩
theorem G4:bT Tryz.prog 189:=⟨_,Tryz.func189,rfl,by kernel_rfl⟩
theorem nT:bT Tryz.prog 148:=⟨_,Tryz.func148,rfl,by kernel_rfl⟩
theorem wy:Tryz.prog.eqGuardType Tryz.prog.depth 43=false:=by kernel_rfl
theorem Nz:bT Tryz.prog 251:=⟨_,Tryz.func251,rfl,by kernel_rfl⟩
theorem fq:bA Tryz.prog 331 Ref:=bA.of (by rfl) Tryz.underlying331 (by kernel_rfl)
theorem y6:cq Tryz.prog 337 1 1:=cq.of Tryz.underlying337 rfl rfl fq rfl
theorem Hc:bT Tryz.prog 250:=⟨_,Tryz.func250,rfl,by kernel_rfl⟩
theorem Nq:bA Tryz.prog 321 Ref:=bA.of (by rfl) Tryz.underlying321 (by kernel_rfl)
theorem Dn:bT Tryz.prog 196:=⟨_,Tryz.func196,rfl,by kernel_rfl⟩
theorem Xk:bA Tryz.prog 333 (Vector Ref 2):=bA.of (by rfl) Tryz.underlying333 (by kernel_rfl)
theorem y7:cq Tryz.prog 335 0 0:=cq.of Tryz.underlying335 rfl rfl Xk rfl
theorem zM:qv Tryz.prog 333 2 1:=qv.of Tryz.underlying333 fq rfl
structure eJ where
 eK:Vector Ref 2
 fp:Bool
 j1:Int
 deriving DecidableEq,Inhabited
instance:ai eJ:= .str (dp (Vector Ref 2) (dp Bool (hK Int))) (fun x=>(x.eK,x.fp,x.j1)) 4
def xG:aL eJ (Vector Ref 2):= .str dF 0 eJ.eK fun b g=> { b with eK:=g }
def tp:aL eJ Bool:= .str (bF dF) 2 eJ.fp fun b g=> { b with fp:=g }
def E7:aL eJ Int:= .str (bF (bF iu)) 3 eJ.j1 fun b g=> { b with j1:=g }
instance:bd eJ:=⟨bd.cells (Vector Ref 2) ++ bd.cells Bool ++ bd.cells Int,fun A W=>⟨by rfl,bd.ok (α:=Vector Ref 2) A W,bd.ok (α:=Bool) A W,bd.ok (α:=Int) A W⟩⟩
theorem Hd:bT Tryz.prog 255:=⟨_,Tryz.func255,rfl,by kernel_rfl⟩
theorem NG:bT Tryz.prog 247:=⟨_,Tryz.func247,rfl,by kernel_rfl⟩
theorem tO:cq Tryz.prog 335 1 2:=cq.of Tryz.underlying335 rfl rfl ir rfl
theorem Ga:cq Tryz.prog 335 2 3:=cq.of Tryz.underlying335 rfl rfl bE rfl
theorem nU:bA Tryz.prog 167 gF:=bA.of (by rfl) Tryz.underlying167 (by kernel_rfl)
theorem oh:cq Tryz.prog 169 2 2:=cq.of Tryz.underlying169 rfl rfl nU rfl
theorem U8:kR Tryz.prog 320 (Vector ak 4) 3:=Gl Tryz.underlying320 bN ov
theorem Xl:qy Tryz.prog 320 (Vector ak 4) 3:=MV Tryz.underlying320 bN OG
theorem zN:oP Tryz.prog 320 (Vector ak 4):=MW Tryz.underlying320 rfl Xl U8 rfl rfl
theorem Dy:cQ Tryz.prog 321 (default:Ref):=cQ.of (by kernel_rfl)
theorem V0:bT Tryz.prog 240:=⟨_,Tryz.func240,rfl,by kernel_rfl⟩
theorem DB:bA Tryz.prog 170 Ref:=bA.of (by rfl) Tryz.underlying170 (by kernel_rfl)
theorem Ge:cq Tryz.prog 173 0 0:=cq.of Tryz.underlying173 rfl rfl DB rfl
theorem sN:bA Tryz.prog 38 (List aI):=bA.of (by rfl) Tryz.underlying38 (by kernel_rfl)
theorem vY:cq Tryz.prog 228 1 10:=cq.of Tryz.underlying228 rfl rfl sN rfl
theorem Vs:bT Tryz.prog 161:=⟨_,Tryz.func161,rfl,by kernel_rfl⟩
theorem Vt:bT Tryz.prog 162:=⟨_,Tryz.func162,rfl,by kernel_rfl⟩
theorem Vx:bT Tryz.prog 122:=⟨_,Tryz.func122,rfl,by kernel_rfl⟩
theorem Ai:bT Tryz.prog 87:=⟨_,Tryz.func87,rfl,by kernel_rfl⟩
theorem VP:bT Tryz.prog 269:=⟨_,Tryz.func269,rfl,by kernel_rfl⟩
theorem VY:bT Tryz.prog 264:=⟨_,Tryz.func264,rfl,by kernel_rfl⟩
theorem zh:cq Tryz.prog 50 0 0:=cq.of Tryz.underlying50 rfl rfl bE rfl
theorem YB:kR Tryz.prog 4 Bool 1:=Tc Tryz.underlying4
theorem YC:kR Tryz.prog 3 Int 1:=Ma (K:= .i64) Tryz.underlying3
theorem Vq:kR Tryz.prog 88 cr 3:=Fw (k:=2) rfl Tryz.underlying88 (by kernel_rfl) fun d hd A W xs ys x y aq a6=>by
 refine Eq.trans (qP qB ir rfl (by rfl) YB (by omega) aq a6 (qP lY bN rfl (by rfl) ov (by omega) aq a6 (qP r1 bN rfl (by rfl) ov (by omega) aq a6 (qP pL bE rfl (by rfl) YC (by omega) aq a6 (qP B9 bN rfl (by rfl) ov (by omega) aq a6 (Gm)))))) ?_
 congr 1
 rw [Bool.eq_iff_iff]
 simp only [Bool.and_eq_true,decide_eq_true_eq,and_true]
 cases x; cases y
 simp [aL.str,qB,lY,r1,pL,B9]
theorem Vr:Tryz.prog.eqGuardType Tryz.prog.depth 88=false:=by kernel_rfl
theorem Vu:bT Tryz.prog 270:=⟨_,Tryz.func270,rfl,by kernel_rfl⟩
theorem VZ:bT Tryz.prog 265:=⟨_,Tryz.func265,rfl,by kernel_rfl⟩
theorem Xm:bT Tryz.prog 227:=⟨_,Tryz.func227,rfl,by kernel_rfl⟩
theorem Sr:je Tryz.prog 166 "matchguard/index.find" 227:=je.rI (by kernel_rfl) Tryz.underlying166 rfl Xm
theorem Xn:bT Tryz.prog 235:=⟨_,Tryz.func235,rfl,by kernel_rfl⟩
theorem Ss:je Tryz.prog 169 "matchguard/index.find" 235:=je.rI (by kernel_rfl) Tryz.underlying169 rfl Xn
theorem Xo:bT Tryz.prog 260:=⟨_,Tryz.func260,rfl,by kernel_rfl⟩
theorem St:je Tryz.prog 173 "matchguard/index.find" 260:=je.rI (by kernel_rfl) Tryz.underlying173 rfl Xo
theorem Vv:bT Tryz.prog 233:=⟨_,Tryz.func233,rfl,by kernel_rfl⟩
theorem Vk:cQ Tryz.prog 337 (default:ga):=cQ.of (by kernel_rfl)
theorem Vj:hG Tryz.prog 337 #[(0,1),(1,1)]:=⟨_,Tryz.underlying337,by kernel_rfl,by kernel_rfl⟩
theorem tP:cq Tryz.prog 169 1 1:=cq.of Tryz.underlying169 rfl rfl bE rfl
theorem wJ:bT Tryz.prog 243:=⟨_,Tryz.func243,rfl,by kernel_rfl⟩
theorem NI:cQ Tryz.prog 335 (default:eJ):=cQ.of (by kernel_rfl)
theorem NH:hG Tryz.prog 335 #[(0,2),(2,1),(3,1)]:=⟨_,Tryz.underlying335,by kernel_rfl,by kernel_rfl⟩
theorem VX:bT Tryz.prog 244:=⟨_,Tryz.func244,rfl,by kernel_rfl⟩
theorem Vl:bT Tryz.prog 279:=⟨_,Tryz.func279,rfl,by kernel_rfl⟩
theorem Nj:bT Tryz.prog 110:=⟨_,Tryz.func110,rfl,by kernel_rfl⟩
theorem V5:bT Tryz.prog 272:=⟨_,Tryz.func272,rfl,by kernel_rfl⟩
theorem Nk:bT Tryz.prog 126:=⟨_,Tryz.func126,rfl,by kernel_rfl⟩
theorem Nu:bT Tryz.prog 206:=⟨_,Tryz.func206,rfl,by kernel_rfl⟩
theorem VO:bT Tryz.prog 207:=⟨_,Tryz.func207,rfl,by kernel_rfl⟩
theorem Nv:bT Tryz.prog 146:=⟨_,Tryz.func146,rfl,by kernel_rfl⟩
theorem HC:bT Tryz.prog 92:=⟨_,Tryz.func92,rfl,by kernel_rfl⟩
theorem NA:bT Tryz.prog 190:=⟨_,Tryz.func190,rfl,by kernel_rfl⟩
theorem VQ:bT Tryz.prog 133:=⟨_,Tryz.func133,rfl,by kernel_rfl⟩
theorem Gh:cq Tryz.prog 228 0 0:=cq.of Tryz.underlying228 rfl rfl fH rfl
theorem Hf:bT Tryz.prog 150:=⟨_,Tryz.func150,rfl,by kernel_rfl⟩
theorem V7:bT Tryz.prog 273:=⟨_,Tryz.func273,rfl,by kernel_rfl⟩
theorem V8:bT Tryz.prog 274:=⟨_,Tryz.func274,rfl,by kernel_rfl⟩
theorem V9:bT Tryz.prog 275:=⟨_,Tryz.func275,rfl,by kernel_rfl⟩
theorem Wi:bT Tryz.prog 267:=⟨_,Tryz.func267,rfl,by kernel_rfl⟩
theorem Xp:bT Tryz.prog 229:=⟨_,Tryz.func229,rfl,by kernel_rfl⟩
theorem Su:je Tryz.prog 166 "matchguard/index.put" 229:=je.rI (by kernel_rfl) Tryz.underlying166 rfl Xp
theorem Xq:bT Tryz.prog 237:=⟨_,Tryz.func237,rfl,by kernel_rfl⟩
theorem Sv:je Tryz.prog 169 "matchguard/index.put" 237:=je.rI (by kernel_rfl) Tryz.underlying169 rfl Xq
theorem Xr:bT Tryz.prog 262:=⟨_,Tryz.func262,rfl,by kernel_rfl⟩
theorem Sw:je Tryz.prog 173 "matchguard/index.put" 262:=je.rI (by kernel_rfl) Tryz.underlying173 rfl Xr
theorem XT:bT Tryz.prog 44:=⟨_,Tryz.func44,rfl,by kernel_rfl⟩
theorem XW:bT Tryz.prog 18:=⟨_,Tryz.func18,rfl,by kernel_rfl⟩
theorem Gz:cq Tryz.prog 88 0 0:=cq.of Tryz.underlying88 rfl rfl ir rfl
theorem zg:cq Tryz.prog 88 2 3:=cq.of Tryz.underlying88 rfl rfl bN rfl
theorem XX:bT Tryz.prog 19:=⟨_,Tryz.func19,rfl,by kernel_rfl⟩
theorem TR:cq Tryz.prog 135 1 1:=cq.of Tryz.underlying135 rfl rfl bE rfl
theorem Nm:bT Tryz.prog 185:=⟨_,Tryz.func185,rfl,by kernel_rfl⟩
theorem Vo:bT Tryz.prog 254:=⟨_,Tryz.func254,rfl,by kernel_rfl⟩
theorem VA:bT Tryz.prog 248:=⟨_,Tryz.func248,rfl,by kernel_rfl⟩
theorem YD:cQ Tryz.prog 1 (default:Raw):=cQ.of (by kernel_rfl)
theorem H8:bA Tryz.prog 1 Raw:=bA.of (by rfl) Tryz.underlying1 (by kernel_rfl)
theorem Nt:bT Tryz.prog 249:=⟨_,Tryz.func249,rfl,by kernel_rfl⟩
theorem VC:bT Tryz.prog 242:=⟨_,Tryz.func242,rfl,by kernel_rfl⟩
theorem Wa:bT Tryz.prog 271:=⟨_,Tryz.func271,rfl,by kernel_rfl⟩
theorem Ns:bT Tryz.prog 137:=⟨_,Tryz.func137,rfl,by kernel_rfl⟩
theorem Uy:cq Tryz.prog 88 4 6:=cq.of Tryz.underlying88 rfl rfl bN rfl
theorem VD:bT Tryz.prog 283:=⟨_,Tryz.func283,rfl,by kernel_rfl⟩
theorem VE:bT Tryz.prog 282:=⟨_,Tryz.func282,rfl,by kernel_rfl⟩
theorem V3:bT Tryz.prog 278:=⟨_,Tryz.func278,rfl,by kernel_rfl⟩
theorem Wb:bT Tryz.prog 277:=⟨_,Tryz.func277,rfl,by kernel_rfl⟩
theorem Wj:bT Tryz.prog 266:=⟨_,Tryz.func266,rfl,by kernel_rfl⟩
theorem Xs:bT Tryz.prog 228:=⟨_,Tryz.func228,rfl,by kernel_rfl⟩
theorem Sx:je Tryz.prog 166 "matchguard/index.lookup" 228:=je.rI (by kernel_rfl) Tryz.underlying166 rfl Xs
theorem Xt:bT Tryz.prog 236:=⟨_,Tryz.func236,rfl,by kernel_rfl⟩
theorem Sy:je Tryz.prog 169 "matchguard/index.lookup" 236:=je.rI (by kernel_rfl) Tryz.underlying169 rfl Xt
theorem Xu:bT Tryz.prog 261:=⟨_,Tryz.func261,rfl,by kernel_rfl⟩
theorem Sz:je Tryz.prog 173 "matchguard/index.lookup" 261:=je.rI (by kernel_rfl) Tryz.underlying173 rfl Xu
theorem XL:bT Tryz.prog 72:=⟨_,Tryz.func72,rfl,by kernel_rfl⟩
theorem Ok:bT Tryz.prog 20:=⟨_,Tryz.func20,rfl,by kernel_rfl⟩
theorem Ni:cQ Tryz.prog 248 (default:Vector (List Int) 6):=cQ.of (by kernel_rfl)
theorem oy:qv Tryz.prog 248 6 1:=qv.of Tryz.underlying248 lD rfl
theorem TL:cq Tryz.prog 121 0 0:=cq.of Tryz.underlying121 rfl rfl bE rfl
theorem TM:cq Tryz.prog 193 0 0:=cq.of Tryz.underlying193 rfl rfl bE rfl
theorem TN:cq Tryz.prog 204 0 0:=cq.of Tryz.underlying204 rfl rfl bE rfl
theorem QO:jO Tryz.prog 248 [0,1,2,3,4,5]:=by unfold jO; kernel_rfl
theorem G1:bA Tryz.prog 248 (Vector (List Int) 6):=bA.of (by rfl) Tryz.underlying248 (by kernel_rfl)
theorem Vm:bT Tryz.prog 142:=⟨_,Tryz.func142,rfl,by kernel_rfl⟩
theorem Vn:bT Tryz.prog 141:=⟨_,Tryz.func141,rfl,by kernel_rfl⟩
theorem Vp:bT Tryz.prog 124:=⟨_,Tryz.func124,rfl,by kernel_rfl⟩
theorem Xx:bT Tryz.prog 89:=⟨_,Tryz.func89,rfl,by kernel_rfl⟩
theorem XY:bT Tryz.prog 47:=⟨_,Tryz.func47,rfl,by kernel_rfl⟩
structure Kq where
 bI:ak
 TH:Int
 bX:Int
 deriving DecidableEq,Inhabited
instance:ai Kq:= .str (dp ak (dp Int (hK Int))) (fun x=>(x.bI,x.TH,x.bX)) 4
instance:bd Kq:=⟨bd.cells ak ++ bd.cells Int ++ bd.cells Int,fun A W=>⟨by rfl,bd.ok (α:=ak) A W,bd.ok (α:=Int) A W,bd.ok (α:=Int) A W⟩⟩
theorem VM:bT Tryz.prog 166:=⟨_,Tryz.func166,rfl,by kernel_rfl⟩
theorem VN:bT Tryz.prog 165:=⟨_,Tryz.func165,rfl,by kernel_rfl⟩
theorem q4:bT Tryz.prog 167:=⟨_,Tryz.func167,rfl,by kernel_rfl⟩
theorem XU:bT Tryz.prog 35:=⟨_,Tryz.func35,rfl,by kernel_rfl⟩
structure a4 where
 bI:Vector ak 4
 bQ:Vector ak 4
 deriving DecidableEq,Inhabited
instance:ai a4:= .str (dp (Vector ak 4) (hK (Vector ak 4))) (fun x=>(x.bI,x.bQ)) 16
def mu:aL a4 (Vector ak 4):= .str dF 0 a4.bI fun b g=> { b with bI:=g }
def lj:aL a4 (Vector ak 4):= .str (bF iu) 8 a4.bQ fun b g=> { b with bQ:=g }
instance:bd a4:=⟨bd.cells (Vector ak 4) ++ bd.cells (Vector ak 4),fun A W=>⟨by rfl,bd.ok (α:=Vector ak 4) A W,bd.ok (α:=Vector ak 4) A W⟩⟩
theorem h1:cQ Tryz.prog 155 (default:a4):=cQ.of (by kernel_rfl)
theorem Wc:bT Tryz.prog 111:=⟨_,Tryz.func111,rfl,by kernel_rfl⟩
theorem wD:hG Tryz.prog 155 #[(0,8),(8,8)]:=⟨_,Tryz.underlying155,by kernel_rfl,by kernel_rfl⟩
theorem c0:bA Tryz.prog 155 a4:=bA.of (by rfl) Tryz.underlying155 (by kernel_rfl)
theorem We:bT Tryz.prog 113:=⟨_,Tryz.func113,rfl,by kernel_rfl⟩
theorem Wd:bT Tryz.prog 112:=⟨_,Tryz.func112,rfl,by kernel_rfl⟩
theorem VR:bT Tryz.prog 147:=⟨_,Tryz.func147,rfl,by kernel_rfl⟩
theorem m7:cq Tryz.prog 155 1 8:=cq.of Tryz.underlying155 rfl rfl dv rfl
theorem oe:cq Tryz.prog 155 0 0:=cq.of Tryz.underlying155 rfl rfl dv rfl
theorem ND:bT Tryz.prog 114:=⟨_,Tryz.func114,rfl,by kernel_rfl⟩
theorem Wf:cQ Tryz.prog 156 (default:List a4):=cQ.of (by kernel_rfl)
theorem Wg:bT Tryz.prog 115:=⟨_,Tryz.func115,rfl,by kernel_rfl⟩
theorem Hj:bA Tryz.prog 156 (List a4):=bA.of (by rfl) Tryz.underlying156 (by kernel_rfl)
theorem TQ:jO Tryz.prog 156 [0]:=by unfold jO; kernel_rfl
theorem Wh:bT Tryz.prog 149:=⟨_,Tryz.func149,rfl,by kernel_rfl⟩
theorem Oi:bT Tryz.prog 80:=⟨_,Tryz.func80,rfl,by kernel_rfl⟩
theorem VH:bT Tryz.prog 152:=⟨_,Tryz.func152,rfl,by kernel_rfl⟩
theorem zO:bT Tryz.prog 192:=⟨_,Tryz.func192,rfl,by kernel_rfl⟩
theorem He:kR Tryz.prog 45 (Vector ak 4) 3:=Gl Tryz.underlying45 bN ov
theorem VF:Tryz.prog.eqGuardType Tryz.prog.depth 45=false:=by kernel_rfl
theorem Nx:bT Tryz.prog 154:=⟨_,Tryz.func154,rfl,by kernel_rfl⟩
theorem VI:bT Tryz.prog 153:=⟨_,Tryz.func153,rfl,by kernel_rfl⟩
theorem Nw:bT Tryz.prog 191:=⟨_,Tryz.func191,rfl,by kernel_rfl⟩
theorem VJ:bT Tryz.prog 151:=⟨_,Tryz.func151,rfl,by kernel_rfl⟩
theorem zP:bT Tryz.prog 116:=⟨_,Tryz.func116,rfl,by kernel_rfl⟩
theorem GH:kR Tryz.prog 155 a4 4:=Fw (k:=3) rfl Tryz.underlying155 (by kernel_rfl) fun d hd A W xs ys x y aq a6=>by
 refine Eq.trans (qP mu dv rfl (by rfl) He (by omega) aq a6 (qP lj dv rfl (by rfl) He (by omega) aq a6 (Gm))) ?_
 congr 1
 rw [Bool.eq_iff_iff]
 simp only [Bool.and_eq_true,decide_eq_true_eq,and_true]
 cases x; cases y
 simp [aL.str,mu,lj]
theorem GI:Tryz.prog.eqGuardType Tryz.prog.depth 155=false:=by kernel_rfl
theorem VK:bT Tryz.prog 157:=⟨_,Tryz.func157,rfl,by kernel_rfl⟩
theorem VS:bT Tryz.prog 156:=⟨_,Tryz.func156,rfl,by kernel_rfl⟩
theorem VT:bT Tryz.prog 155:=⟨_,Tryz.func155,rfl,by kernel_rfl⟩
theorem NB:bT Tryz.prog 194:=⟨_,Tryz.func194,rfl,by kernel_rfl⟩
theorem VU:bT Tryz.prog 158:=⟨_,Tryz.func158,rfl,by kernel_rfl⟩
theorem VV:bT Tryz.prog 159:=⟨_,Tryz.func159,rfl,by kernel_rfl⟩
theorem wE:bT Tryz.prog 117:=⟨_,Tryz.func117,rfl,by kernel_rfl⟩
theorem NC:bT Tryz.prog 195:=⟨_,Tryz.func195,rfl,by kernel_rfl⟩
theorem VW:bT Tryz.prog 160:=⟨_,Tryz.func160,rfl,by kernel_rfl⟩
theorem Ny:bT Tryz.prog 164:=⟨_,Tryz.func164,rfl,by kernel_rfl⟩
theorem VL:bT Tryz.prog 163:=⟨_,Tryz.func163,rfl,by kernel_rfl⟩
theorem Dz:bT Tryz.prog 123:=⟨_,Tryz.func123,rfl,by kernel_rfl⟩
theorem XJ:bT Tryz.prog 81:=⟨_,Tryz.func81,rfl,by kernel_rfl⟩
theorem HJ:bT Tryz.prog 37:=⟨_,Tryz.func37,rfl,by kernel_rfl⟩
theorem X0:bT Tryz.prog 38:=⟨_,Tryz.func38,rfl,by kernel_rfl⟩
theorem XK:bT Tryz.prog 88:=⟨_,Tryz.func88,rfl,by kernel_rfl⟩
theorem XV:bT Tryz.prog 45:=⟨_,Tryz.func45,rfl,by kernel_rfl⟩
inductive Cell where
 | ma (x:List (Int × aI))
 | nn (x:g9)
 | nm (x:List ((Vector ak 4) × Ref))
 | o7 (x:List ((Vector ak 4) × Int))
 | wO (x:m0)
 | sP (x:cS) (key:Option Nat) (cap:Nat)
 | hl (x:eJ)
 | j0 (x:ga)
instance:fx Cell where
 im p k:=match k with
  | .ma x=> [⟨some p,.map x⟩]
  | .nn x=> [⟨some p,.var x⟩]
  | .nm x=> [⟨some p,.map x⟩]
  | .o7 x=> [⟨some p,.map x⟩]
  | .wO x=> [⟨some p,.var x⟩]
  | .sP x key cap=> [⟨some p,.cz ({ x with cu:= [] } :cS) [(10,a0 key (x.cu).length cap)]⟩,⟨key,.row 52 (x.cu:List aI) cap⟩]
  | .hl x=> [⟨some p,.var x⟩]
  | .j0 x=> [⟨some p,.var x⟩]
 root p k:=by cases k <;> exact⟨_,List.mem_cons_self ..,rfl⟩
def nd (hp:a9 Cell) (p:Nat):Option (List (Int × aI)):=match pat hp p with
 | some (.ma x)=>some x
 | _=>none
theorem zm {hp:a9 Cell} {p:Nat} {x:List (Int × aI)} (h:nd hp p=some x):pat hp p=some (.ma x):=by
 unfold nd at h
 split at h
 ·rename_i ae; cases h; exact ae
 ·cases h
def iI (hp:a9 Cell) (p:Nat):Option (g9):=match pat hp p with
 | some (.nn x)=>some x
 | _=>none
theorem oo {hp:a9 Cell} {p:Nat} {x:g9} (h:iI hp p=some x):pat hp p=some (.nn x):=by
 unfold iI at h
 split at h
 ·rename_i ae; cases h; exact ae
 ·cases h
def jX (hp:a9 Cell) (p:Nat):Option (List ((Vector ak 4) × Ref)):=match pat hp p with
 | some (.nm x)=>some x
 | _=>none
theorem oZ {hp:a9 Cell} {p:Nat} {x:List ((Vector ak 4) × Ref)} (h:jX hp p=some x):pat hp p=some (.nm x):=by
 unfold jX at h
 split at h
 ·rename_i ae; cases h; exact ae
 ·cases h
def mC (hp:a9 Cell) (p:Nat):Option (List ((Vector ak 4) × Int)):=match pat hp p with
 | some (.o7 x)=>some x
 | _=>none
theorem tX {hp:a9 Cell} {p:Nat} {x:List ((Vector ak 4) × Int)} (h:mC hp p=some x):pat hp p=some (.o7 x):=by
 unfold mC at h
 split at h
 ·rename_i ae; cases h; exact ae
 ·cases h
def nV (hp:a9 Cell) (p:Nat):Option (m0):=match pat hp p with
 | some (.wO x)=>some x
 | _=>none
theorem wb {hp:a9 Cell} {p:Nat} {x:m0} (h:nV hp p=some x):pat hp p=some (.wO x):=by
 unfold nV at h
 split at h
 ·rename_i ae; cases h; exact ae
 ·cases h
def nW (hp:a9 Cell) (p:Nat):Option (cS × Option Nat × Nat):=match pat hp p with
 | some (.sP x key cap)=>some (x,key,cap)
 | _=>none
theorem wg {hp:a9 Cell} {p:Nat} {x:cS × Option Nat × Nat} (h:nW hp p=some x):pat hp p=some (.sP x.1 x.2.1 x.2.2):=by
 unfold nW at h
 split at h
 ·rename_i ae; cases h; exact ae
 ·cases h
def dx (hp:a9 Cell) (p:Nat):Option (eJ):=match pat hp p with
 | some (.hl x)=>some x
 | _=>none
theorem l3 {hp:a9 Cell} {p:Nat} {x:eJ} (h:dx hp p=some x):pat hp p=some (.hl x):=by
 unfold dx at h
 split at h
 ·rename_i ae; cases h; exact ae
 ·cases h
def gE (hp:a9 Cell) (p:Nat):Option (ga):=match pat hp p with
 | some (.j0 x)=>some x
 | _=>none
theorem om {hp:a9 Cell} {p:Nat} {x:ga} (h:gE hp p=some x):pat hp p=some (.j0 x):=by
 unfold gE at h
 split at h
 ·rename_i ae; cases h; exact ae
 ·cases h
end Go.Proofs.YtmnggbjcnoffeaaGreat
