/-
  The types of the data, and facts on their tables. Conditions: none.
-/
import Derived.Test.YtmnggbjcnoffeaaGreatRows
import Derived.Test.YtmnggbjcnoffeaaGreatMl2
set_option linter.unusedVariables false
set_option linter.unusedSimpArgs false
set_option maxRecDepth 100000
namespace Go.Proofs.YtmnggbjcnoffeaaGreat
open Go Gv
structure bf where
 b1:List (BitVec 8)
 sd:Int
 deriving DecidableEq,Inhabited
instance:ai bf:= .str (dA (List (BitVec 8)) (h8 Int)) (fun x=>(x.b1,x.sd)) 2
def Dm:aN bf (List (BitVec 8)):= .str dN 0 bf.b1 fun b g=> { b with b1:=g }
def zF:aN bf Int:= .str (bB iB) 1 bf.sd fun b g=> { b with sd:=g }
instance:bg bf:=⟨bg.cells (List (BitVec 8)) ++ bg.cells Int,fun A W=>⟨by rfl,bg.ok (α:=List (BitVec 8)) A W,bg.ok (α:=Int) A W⟩⟩
theorem Jn:bw Tryz.prog 5 (BitVec 8):=bw.of (by rfl) Tryz.underlying5 (by kernel_rfl)
theorem WL:cF Tryz.prog 117 (default:bf):=cF.of (by kernel_rfl)
theorem WK:hO Tryz.prog 117 #[(0,1),(1,1)]:=⟨_,Tryz.underlying117,by kernel_rfl,by kernel_rfl⟩
theorem EY:bH Tryz.prog 15:=⟨_,Tryz.func15,rfl,by kernel_rfl⟩
structure fx where
 bX:Int
 cn:ByteArray
 fq:Int
 deriving DecidableEq,Inhabited
instance:ai fx:= .str (dA Int (dA ByteArray (h8 Int))) (fun x=>(x.bX,x.cn,x.fq)) 3
def pH:aN fx Int:= .str dN 0 fx.bX fun b g=> { b with bX:=g }
def rv:aN fx ByteArray:= .str (bB dN) 1 fx.cn fun b g=> { b with cn:=g }
def oZ:aN fx Int:= .str (bB (bB iB)) 2 fx.fq fun b g=> { b with fq:=g }
instance:bg fx:=⟨bg.cells Int ++ bg.cells ByteArray ++ bg.cells Int,fun A W=>⟨by rfl,bg.ok (α:=Int) A W,bg.ok (α:=ByteArray) A W,bg.ok (α:=Int) A W⟩⟩
structure jN where
 bX:Int
 cn:ByteArray
 gV:List Int
 deriving DecidableEq,Inhabited
instance:ai jN:= .str (dA Int (dA ByteArray (h8 (List Int)))) (fun x=>(x.bX,x.cn,x.gV)) 3
def GB:aN jN Int:= .str dN 0 jN.bX fun b g=> { b with bX:=g }
def Gt:aN jN ByteArray:= .str (bB dN) 1 jN.cn fun b g=> { b with cn:=g }
def Gi:aN jN (List Int):= .str (bB (bB iB)) 2 jN.gV fun b g=> { b with gV:=g }
instance:bg jN:=⟨bg.cells Int ++ bg.cells ByteArray ++ bg.cells (List Int),fun A W=>⟨by rfl,bg.ok (α:=Int) A W,bg.ok (α:=ByteArray) A W,bg.ok (α:=List Int) A W⟩⟩
structure ar where
 cV:BitVec 64
 bG:BitVec 64
 deriving DecidableEq,Inhabited
instance:ai ar:= .str (dA (BitVec 64) (h8 (BitVec 64))) (fun x=>(x.cV,x.bG)) 2
def hx:aN ar (BitVec 64):= .str dN 0 ar.cV fun b g=> { b with cV:=g }
def ef:aN ar (BitVec 64):= .str (bB iB) 1 ar.bG fun b g=> { b with bG:=g }
instance:bg ar:=⟨bg.cells (BitVec 64) ++ bg.cells (BitVec 64),fun A W=>⟨by rfl,bg.ok (α:=BitVec 64) A W,bg.ok (α:=BitVec 64) A W⟩⟩
structure gM where
 cI:ar
 fL:ar
 pM:Int
 deriving DecidableEq,Inhabited
instance:ai gM:= .str (dA ar (dA ar (h8 Int))) (fun x=>(x.cI,x.fL,x.pM)) 5
def Di:aN gM ar:= .str dN 0 gM.cI fun b g=> { b with cI:=g }
def Dq:aN gM ar:= .str (bB dN) 2 gM.fL fun b g=> { b with fL:=g }
def Dr:aN gM Int:= .str (bB (bB iB)) 4 gM.pM fun b g=> { b with pM:=g }
instance:bg gM:=⟨bg.cells ar ++ bg.cells ar ++ bg.cells Int,fun A W=>⟨by rfl,bg.ok (α:=ar) A W,bg.ok (α:=ar) A W,bg.ok (α:=Int) A W⟩⟩
structure dK where
 bX:Int
 ig:Int
 nI:Int
 o6:List gM
 hk:Int
 deriving DecidableEq,Inhabited
instance:ai dK:= .str (dA Int (dA Int (dA Int (dA (List gM) (h8 Int))))) (fun x=>(x.bX,x.ig,x.nI,x.o6,x.hk)) 5
def GG:aN dK Int:= .str dN 0 dK.bX fun b g=> { b with bX:=g }
def Gm:aN dK Int:= .str (bB dN) 1 dK.ig fun b g=> { b with ig:=g }
def KU:aN dK Int:= .str (bB (bB dN)) 2 dK.nI fun b g=> { b with nI:=g }
def Db:aN dK (List gM):= .str (bB (bB (bB dN))) 3 dK.o6 fun b g=> { b with o6:=g }
def Gh:aN dK Int:= .str (bB (bB (bB (bB iB)))) 4 dK.hk fun b g=> { b with hk:=g }
instance:bg dK:=⟨bg.cells Int ++ bg.cells Int ++ bg.cells Int ++ bg.cells (List gM) ++ bg.cells Int,fun A W=>⟨by rfl,bg.ok (α:=Int) A W,bg.ok (α:=Int) A W,bg.ok (α:=Int) A W,bg.ok (α:=List gM) A W,bg.ok (α:=Int) A W⟩⟩
structure iF where
 cn:ByteArray
 fq:Int
 deriving DecidableEq,Inhabited
instance:ai iF:= .str (dA ByteArray (h8 Int)) (fun x=>(x.cn,x.fq)) 2
def Dj:aN iF ByteArray:= .str dN 0 iF.cn fun b g=> { b with cn:=g }
def zK:aN iF Int:= .str (bB iB) 1 iF.fq fun b g=> { b with fq:=g }
instance:bg iF:=⟨bg.cells ByteArray ++ bg.cells Int,fun A W=>⟨by rfl,bg.ok (α:=ByteArray) A W,bg.ok (α:=Int) A W⟩⟩
structure fI where
 cN:Int
 wk:Int
 cI:ar
 deriving DecidableEq,Inhabited
instance:ai fI:= .str (dA Int (dA Int (h8 ar))) (fun x=>(x.cN,x.wk,x.cI)) 4
def C9:aN fI Int:= .str dN 0 fI.cN fun b g=> { b with cN:=g }
def K3:aN fI Int:= .str (bB dN) 1 fI.wk fun b g=> { b with wk:=g }
def Rw:aN fI ar:= .str (bB (bB iB)) 2 fI.cI fun b g=> { b with cI:=g }
instance:bg fI:=⟨bg.cells Int ++ bg.cells Int ++ bg.cells ar,fun A W=>⟨by rfl,bg.ok (α:=Int) A W,bg.ok (α:=Int) A W,bg.ok (α:=ar) A W⟩⟩
structure fb where
 iq:Int
 jQ:Int
 kV:fI
 deriving DecidableEq,Inhabited
instance:ai fb:= .str (dA Int (dA Int (h8 fI))) (fun x=>(x.iq,x.jQ,x.kV)) 6
def rA:aN fb Int:= .str dN 0 fb.iq fun b g=> { b with iq:=g }
def uH:aN fb Int:= .str (bB dN) 1 fb.jQ fun b g=> { b with jQ:=g }
def xm:aN fb fI:= .str (bB (bB iB)) 2 fb.kV fun b g=> { b with kV:=g }
instance:bg fb:=⟨bg.cells Int ++ bg.cells Int ++ bg.cells fI,fun A W=>⟨by rfl,bg.ok (α:=Int) A W,bg.ok (α:=Int) A W,bg.ok (α:=fI) A W⟩⟩
structure dT where
 bX:Int
 cn:ByteArray
 kt:List iF
 oz:List fb
 qD:ByteArray
 deriving DecidableEq,Inhabited
instance:ai dT:= .str (dA Int (dA ByteArray (dA (List iF) (dA (List fb) (h8 ByteArray))))) (fun x=>(x.bX,x.cn,x.kt,x.oz,x.qD)) 5
def uF:aN dT Int:= .str dN 0 dT.bX fun b g=> { b with bX:=g }
def xd:aN dT ByteArray:= .str (bB dN) 1 dT.cn fun b g=> { b with cn:=g }
def C6:aN dT (List iF):= .str (bB (bB dN)) 2 dT.kt fun b g=> { b with kt:=g }
def zz:aN dT (List fb):= .str (bB (bB (bB dN))) 3 dT.oz fun b g=> { b with oz:=g }
def KN:aN dT ByteArray:= .str (bB (bB (bB (bB iB)))) 4 dT.qD fun b g=> { b with qD:=g }
instance:bg dT:=⟨bg.cells Int ++ bg.cells ByteArray ++ bg.cells (List iF) ++ bg.cells (List fb) ++ bg.cells ByteArray,fun A W=>⟨by rfl,bg.ok (α:=Int) A W,bg.ok (α:=ByteArray) A W,bg.ok (α:=List iF) A W,bg.ok (α:=List fb) A W,bg.ok (α:=ByteArray) A W⟩⟩
structure cH where
 cn:ByteArray
 gW:Int
 cN:Int
 deriving DecidableEq,Inhabited
instance:ai cH:= .str (dA ByteArray (dA Int (h8 Int))) (fun x=>(x.cn,x.gW,x.cN)) 3
def rz:aN cH ByteArray:= .str dN 0 cH.cn fun b g=> { b with cn:=g }
def o0:aN cH Int:= .str (bB dN) 1 cH.gW fun b g=> { b with gW:=g }
def m4:aN cH Int:= .str (bB (bB iB)) 2 cH.cN fun b g=> { b with cN:=g }
instance:bg cH:=⟨bg.cells ByteArray ++ bg.cells Int ++ bg.cells Int,fun A W=>⟨by rfl,bg.ok (α:=ByteArray) A W,bg.ok (α:=Int) A W,bg.ok (α:=Int) A W⟩⟩
structure bW where
 bX:Int
 cn:ByteArray
 cl:List cH
 dU:List Int
 hk:Int
 uL:List ar
 iQ:Int
 qD:ByteArray
 deriving DecidableEq,Inhabited
instance:ai bW:= .str (dA Int (dA ByteArray (dA (List cH) (dA (List Int) (dA Int (dA (List ar) (dA Int (h8 ByteArray)))))))) (fun x=>(x.bX,x.cn,x.cl,x.dU,x.hk,x.uL,x.iQ,x.qD)) 8
def pG:aN bW Int:= .str dN 0 bW.bX fun b g=> { b with bX:=g }
def Dk:aN bW ByteArray:= .str (bB dN) 1 bW.cn fun b g=> { b with cn:=g }
def kQ:aN bW (List cH):= .str (bB (bB dN)) 2 bW.cl fun b g=> { b with cl:=g }
def w9:aN bW (List Int):= .str (bB (bB (bB dN))) 3 bW.dU fun b g=> { b with dU:=g }
def C7:aN bW Int:= .str (bB (bB (bB (bB dN)))) 4 bW.hk fun b g=> { b with hk:=g }
def Re:aN bW (List ar):= .str (bB (bB (bB (bB (bB dN))))) 5 bW.uL fun b g=> { b with uL:=g }
def Dl:aN bW Int:= .str (bB (bB (bB (bB (bB (bB dN)))))) 6 bW.iQ fun b g=> { b with iQ:=g }
def Rf:aN bW ByteArray:= .str (bB (bB (bB (bB (bB (bB (bB iB))))))) 7 bW.qD fun b g=> { b with qD:=g }
instance:bg bW:=⟨bg.cells Int ++ bg.cells ByteArray ++ bg.cells (List cH) ++ bg.cells (List Int) ++ bg.cells Int ++ bg.cells (List ar) ++ bg.cells Int ++ bg.cells ByteArray,fun A W=>⟨by rfl,bg.ok (α:=Int) A W,bg.ok (α:=ByteArray) A W,bg.ok (α:=List cH) A W,bg.ok (α:=List Int) A W,bg.ok (α:=Int) A W,bg.ok (α:=List ar) A W,bg.ok (α:=Int) A W,bg.ok (α:=ByteArray) A W⟩⟩
structure fJ where
 dW:Int
 ig:Int
 deriving DecidableEq,Inhabited
instance:ai fJ:= .str (dA Int (h8 Int)) (fun x=>(x.dW,x.ig)) 2
def zB:aN fJ Int:= .str dN 0 fJ.dW fun b g=> { b with dW:=g }
def Gp:aN fJ Int:= .str (bB iB) 1 fJ.ig fun b g=> { b with ig:=g }
instance:bg fJ:=⟨bg.cells Int ++ bg.cells Int,fun A W=>⟨by rfl,bg.ok (α:=Int) A W,bg.ok (α:=Int) A W⟩⟩
structure dy where
 dW:Int
 rS:Bool
 rL:Bool
 cl:List Bool
 deriving DecidableEq,Inhabited
instance:ai dy:= .str (dA Int (dA Bool (dA Bool (h8 (List Bool))))) (fun x=>(x.dW,x.rS,x.rL,x.cl)) 4
def Gr:aN dy Int:= .str dN 0 dy.dW fun b g=> { b with dW:=g }
def Gw:aN dy Bool:= .str (bB dN) 1 dy.rS fun b g=> { b with rS:=g }
def Gs:aN dy Bool:= .str (bB (bB dN)) 2 dy.rL fun b g=> { b with rL:=g }
def Gx:aN dy (List Bool):= .str (bB (bB (bB iB))) 3 dy.cl fun b g=> { b with cl:=g }
instance:bg dy:=⟨bg.cells Int ++ bg.cells Bool ++ bg.cells Bool ++ bg.cells (List Bool),fun A W=>⟨by rfl,bg.ok (α:=Int) A W,bg.ok (α:=Bool) A W,bg.ok (α:=Bool) A W,bg.ok (α:=List Bool) A W⟩⟩
structure cJ where
 bX:Int
 cn:ByteArray
 jt:List dy
 dU:List Int
 rK:Int
 AJ:Bool
 deriving DecidableEq,Inhabited
instance:ai cJ:= .str (dA Int (dA ByteArray (dA (List dy) (dA (List Int) (dA Int (h8 Bool)))))) (fun x=>(x.bX,x.cn,x.jt,x.dU,x.rK,x.AJ)) 6
def GI:aN cJ Int:= .str dN 0 cJ.bX fun b g=> { b with bX:=g }
def GA:aN cJ ByteArray:= .str (bB dN) 1 cJ.cn fun b g=> { b with cn:=g }
def xe:aN cJ (List dy):= .str (bB (bB dN)) 2 cJ.jt fun b g=> { b with jt:=g }
def Gn:aN cJ (List Int):= .str (bB (bB (bB dN))) 3 cJ.dU fun b g=> { b with dU:=g }
def Gu:aN cJ Int:= .str (bB (bB (bB (bB dN)))) 4 cJ.rK fun b g=> { b with rK:=g }
def R3:aN cJ Bool:= .str (bB (bB (bB (bB (bB iB))))) 5 cJ.AJ fun b g=> { b with AJ:=g }
instance:bg cJ:=⟨bg.cells Int ++ bg.cells ByteArray ++ bg.cells (List dy) ++ bg.cells (List Int) ++ bg.cells Int ++ bg.cells Bool,fun A W=>⟨by rfl,bg.ok (α:=Int) A W,bg.ok (α:=ByteArray) A W,bg.ok (α:=List dy) A W,bg.ok (α:=List Int) A W,bg.ok (α:=Int) A W,bg.ok (α:=Bool) A W⟩⟩
structure fc where
 dW:Int
 vE:Int
 kR:Int
 VY:Int
 pI:Int
 VZ:Int
 deriving DecidableEq,Inhabited
instance:ai fc:= .str (dA Int (dA Int (dA Int (dA Int (dA Int (h8 Int)))))) (fun x=>(x.dW,x.vE,x.kR,x.VY,x.pI,x.VZ)) 6
def Ds:aN fc Int:= .str dN 0 fc.dW fun b g=> { b with dW:=g }
def K7:aN fc Int:= .str (bB dN) 1 fc.vE fun b g=> { b with vE:=g }
def K0:aN fc Int:= .str (bB (bB dN)) 2 fc.kR fun b g=> { b with kR:=g }
def Dd:aN fc Int:= .str (bB (bB (bB (bB dN)))) 4 fc.pI fun b g=> { b with pI:=g }
instance:bg fc:=⟨bg.cells Int ++ bg.cells Int ++ bg.cells Int ++ bg.cells Int ++ bg.cells Int ++ bg.cells Int,fun A W=>⟨by rfl,bg.ok (α:=Int) A W,bg.ok (α:=Int) A W,bg.ok (α:=Int) A W,bg.ok (α:=Int) A W,bg.ok (α:=Int) A W,bg.ok (α:=Int) A W⟩⟩
structure a3 where
 gV:List fx
 te:List jN
 u2:List dK
 dU:List dT
 b7:List bW
 nJ:List fJ
 ow:List cJ
 oA:List fc
 Aj:Int
 AA:Int
 deriving DecidableEq,Inhabited
instance:ai a3:= .str (dA (List fx) (dA (List jN) (dA (List dK) (dA (List dT) (dA (List bW) (dA (List fJ) (dA (List cJ) (dA (List fc) (dA Int (h8 Int)))))))))) (fun x=>(x.gV,x.te,x.u2,x.dU,x.b7,x.nJ,x.ow,x.oA,x.Aj,x.AA)) 10
def zn:aN a3 (List fx):= .str dN 0 a3.gV fun b g=> { b with gV:=g }
def Rr:aN a3 (List jN):= .str (bB dN) 1 a3.te fun b g=> { b with te:=g }
def Ry:aN a3 (List dK):= .str (bB (bB dN)) 2 a3.u2 fun b g=> { b with u2:=g }
def KP:aN a3 (List dT):= .str (bB (bB (bB dN))) 3 a3.dU fun b g=> { b with dU:=g }
def om:aN a3 (List bW):= .str (bB (bB (bB (bB dN)))) 4 a3.b7 fun b g=> { b with b7:=g }
def Gj:aN a3 (List fJ):= .str (bB (bB (bB (bB (bB dN))))) 5 a3.nJ fun b g=> { b with nJ:=g }
def RI:aN a3 (List cJ):= .str (bB (bB (bB (bB (bB (bB dN)))))) 6 a3.ow fun b g=> { b with ow:=g }
def Dc:aN a3 (List fc):= .str (bB (bB (bB (bB (bB (bB (bB dN))))))) 7 a3.oA fun b g=> { b with oA:=g }
def Rl:aN a3 Int:= .str (bB (bB (bB (bB (bB (bB (bB (bB dN)))))))) 8 a3.Aj fun b g=> { b with Aj:=g }
def Rx:aN a3 Int:= .str (bB (bB (bB (bB (bB (bB (bB (bB (bB iB))))))))) 9 a3.AA fun b g=> { b with AA:=g }
instance:bg a3:=⟨bg.cells (List fx) ++ bg.cells (List jN) ++ bg.cells (List dK) ++ bg.cells (List dT) ++ bg.cells (List bW) ++ bg.cells (List fJ) ++ bg.cells (List cJ) ++ bg.cells (List fc) ++ bg.cells Int ++ bg.cells Int,fun A W=>⟨by rfl,bg.ok (α:=List fx) A W,bg.ok (α:=List jN) A W,bg.ok (α:=List dK) A W,bg.ok (α:=List dT) A W,bg.ok (α:=List bW) A W,bg.ok (α:=List fJ) A W,bg.ok (α:=List cJ) A W,bg.ok (α:=List fc) A W,bg.ok (α:=Int) A W,bg.ok (α:=Int) A W⟩⟩
theorem Bx:cF Tryz.prog 33 (default:a3):=cF.of (by kernel_rfl)
theorem bF:bw Tryz.prog 3 Int:=bw.of (by rfl) Tryz.underlying3 (by kernel_rfl)
theorem AH:cx Tryz.prog 117 1 1:=cx.of Tryz.underlying117 rfl rfl bF rfl
theorem EU:bw Tryz.prog 22 (List (BitVec 8)):=bw.of (by rfl) Tryz.underlying22 (by kernel_rfl)
theorem Hr:cx Tryz.prog 117 0 0:=cx.of Tryz.underlying117 rfl rfl EU rfl
theorem mixed:Tryz.prog.follows .mixedOrders=true:=by kernel_rfl
theorem IV:bH Tryz.prog 26:=⟨_,Tryz.func26,rfl,by kernel_rfl⟩
theorem gq:bH Tryz.prog 32:=⟨_,Tryz.func32,rfl,by kernel_rfl⟩
theorem Zi:hO Tryz.prog 33 #[(0,1),(1,1),(2,1),(3,1),(4,1),(5,1),(6,1),(7,1),(8,1),(9,1)]:=⟨_,Tryz.underlying33,by kernel_rfl,by kernel_rfl⟩
theorem ho:bw Tryz.prog 33 a3:=bw.of (by rfl) Tryz.underlying33 (by kernel_rfl)
theorem pN:cF Tryz.prog 119 (default:fx):=cF.of (by kernel_rfl)
theorem r2:hO Tryz.prog 119 #[(0,1),(1,1),(2,1)]:=⟨_,Tryz.underlying119,by kernel_rfl,by kernel_rfl⟩
theorem tw:bw Tryz.prog 119 fx:=bw.of (by rfl) Tryz.underlying119 (by kernel_rfl)
theorem yl:bw Tryz.prog 24 (List fx):=bw.of (by rfl) Tryz.underlying24 (by kernel_rfl)
theorem AS:cx Tryz.prog 33 0 0:=cx.of Tryz.underlying33 rfl rfl yl rfl
theorem jD:cF Tryz.prog 3 (default:Int):=cF.of (by kernel_rfl)
theorem EF:cF Tryz.prog 121 (default:jN):=cF.of (by kernel_rfl)
theorem Ip:hO Tryz.prog 121 #[(0,1),(1,1),(2,1)]:=⟨_,Tryz.underlying121,by kernel_rfl,by kernel_rfl⟩
theorem Xe:bw Tryz.prog 121 jN:=bw.of (by rfl) Tryz.underlying121 (by kernel_rfl)
theorem Pw:bw Tryz.prog 25 (List jN):=bw.of (by rfl) Tryz.underlying25 (by kernel_rfl)
theorem V4:cx Tryz.prog 33 1 1:=cx.of Tryz.underlying33 rfl rfl Pw rfl
theorem vz:cF Tryz.prog 193 (default:dK):=cF.of (by kernel_rfl)
theorem Ik:hO Tryz.prog 193 #[(0,1),(1,1),(2,1),(3,1),(4,1)]:=⟨_,Tryz.underlying193,by kernel_rfl,by kernel_rfl⟩
theorem vA:bw Tryz.prog 193 dK:=bw.of (by rfl) Tryz.underlying193 (by kernel_rfl)
theorem ek:cF Tryz.prog 43 (default:ar):=cF.of (by kernel_rfl)
theorem ha:hO Tryz.prog 43 #[(0,1),(1,1)]:=⟨_,Tryz.underlying43,by kernel_rfl,by kernel_rfl⟩
theorem tA:cF Tryz.prog 195 (default:gM):=cF.of (by kernel_rfl)
theorem EA:hO Tryz.prog 195 #[(0,2),(2,2),(4,1)]:=⟨_,Tryz.underlying195,by kernel_rfl,by kernel_rfl⟩
theorem EB:bw Tryz.prog 195 gM:=bw.of (by rfl) Tryz.underlying195 (by kernel_rfl)
theorem A9:bw Tryz.prog 191 (List gM):=bw.of (by rfl) Tryz.underlying191 (by kernel_rfl)
theorem D5:cx Tryz.prog 193 3 3:=cx.of Tryz.underlying193 rfl rfl A9 rfl
theorem n2:bH Tryz.prog 55:=⟨_,Tryz.func55,rfl,by kernel_rfl⟩
theorem MZ:jJ Tryz.prog 193 [3]:=by unfold jJ; kernel_rfl
theorem Zj:bH Tryz.prog 68:=⟨_,Tryz.func68,rfl,by kernel_rfl⟩
theorem Ba:cF Tryz.prog 197 (default:fI):=cF.of (by kernel_rfl)
theorem EC:hO Tryz.prog 197 #[(0,1),(1,1),(2,2)]:=⟨_,Tryz.underlying197,by kernel_rfl,by kernel_rfl⟩
theorem ED:bw Tryz.prog 197 fI:=bw.of (by rfl) Tryz.underlying197 (by kernel_rfl)
theorem qT:cF Tryz.prog 148 (default:dT):=cF.of (by kernel_rfl)
theorem vx:hO Tryz.prog 148 #[(0,1),(1,1),(2,1),(3,1),(4,1)]:=⟨_,Tryz.underlying148,by kernel_rfl,by kernel_rfl⟩
theorem nU:cF Tryz.prog 199 (default:fb):=cF.of (by kernel_rfl)
theorem rZ:hO Tryz.prog 199 #[(0,1),(1,1),(2,4)]:=⟨_,Tryz.underlying199,by kernel_rfl,by kernel_rfl⟩
theorem Bb:bw Tryz.prog 199 fb:=bw.of (by rfl) Tryz.underlying199 (by kernel_rfl)
theorem tz:cF Tryz.prog 151 (default:iF):=cF.of (by kernel_rfl)
theorem EE:hO Tryz.prog 151 #[(0,1),(1,1)]:=⟨_,Tryz.underlying151,by kernel_rfl,by kernel_rfl⟩
theorem x8:bw Tryz.prog 151 iF:=bw.of (by rfl) Tryz.underlying151 (by kernel_rfl)
theorem pQ:bw Tryz.prog 148 dT:=bw.of (by rfl) Tryz.underlying148 (by kernel_rfl)
theorem p7:bw Tryz.prog 9 ByteArray:=bw.of (by rfl) Tryz.underlying9 (by kernel_rfl)
theorem M0:cx Tryz.prog 148 4 4:=cx.of Tryz.underlying148 rfl rfl p7 rfl
theorem Zk:bH Tryz.prog 69:=⟨_,Tryz.func69,rfl,by kernel_rfl⟩
theorem ka:cF Tryz.prog 86 (default:cH):=cF.of (by kernel_rfl)
theorem sc:hO Tryz.prog 86 #[(0,1),(1,1),(2,1)]:=⟨_,Tryz.underlying86,by kernel_rfl,by kernel_rfl⟩
theorem jw:bw Tryz.prog 86 cH:=bw.of (by rfl) Tryz.underlying86 (by kernel_rfl)
theorem mO:cF Tryz.prog 65 (default:bW):=cF.of (by kernel_rfl)
theorem Bw:hO Tryz.prog 65 #[(0,1),(1,1),(2,1),(3,1),(4,1),(5,1),(6,1),(7,1)]:=⟨_,Tryz.underlying65,by kernel_rfl,by kernel_rfl⟩
theorem hn:bw Tryz.prog 65 bW:=bw.of (by rfl) Tryz.underlying65 (by kernel_rfl)
theorem mg:bw Tryz.prog 62 (List cH):=bw.of (by rfl) Tryz.underlying62 (by kernel_rfl)
theorem mH:cx Tryz.prog 65 2 2:=cx.of Tryz.underlying65 rfl rfl mg rfl
theorem HW:jJ Tryz.prog 65 [2]:=by unfold jJ; kernel_rfl
theorem HV:jJ Tryz.prog 65 []:=by unfold jJ; kernel_rfl
theorem bQ:bw Tryz.prog 43 ar:=bw.of (by rfl) Tryz.underlying43 (by kernel_rfl)
theorem Fk:cF Tryz.prog 9 (default:ByteArray):=cF.of (by kernel_rfl)
theorem Il:bw Tryz.prog 200 (List ByteArray):=bw.of (by rfl) Tryz.underlying200 (by kernel_rfl)
theorem Xd:cF Tryz.prog 200 (default:List ByteArray):=cF.of (by kernel_rfl)
theorem V3:cx Tryz.prog 65 7 7:=cx.of Tryz.underlying65 rfl rfl p7 rfl
theorem Zl:bH Tryz.prog 70:=⟨_,Tryz.func70,rfl,by kernel_rfl⟩
theorem Px:bw Tryz.prog 26 (List dK):=bw.of (by rfl) Tryz.underlying26 (by kernel_rfl)
theorem V5:cx Tryz.prog 33 2 2:=cx.of Tryz.underlying33 rfl rfl Px rfl
theorem IW:bw Tryz.prog 27 (List dT):=bw.of (by rfl) Tryz.underlying27 (by kernel_rfl)
theorem Ny:cx Tryz.prog 33 3 3:=cx.of Tryz.underlying33 rfl rfl IW rfl
theorem n1:bw Tryz.prog 28 (List bW):=bw.of (by rfl) Tryz.underlying28 (by kernel_rfl)
theorem oy:cx Tryz.prog 33 4 4:=cx.of Tryz.underlying33 rfl rfl n1 rfl
theorem vB:cF Tryz.prog 204 (default:cJ):=cF.of (by kernel_rfl)
theorem Im:hO Tryz.prog 204 #[(0,1),(1,1),(2,1),(3,1),(4,1),(5,1)]:=⟨_,Tryz.underlying204,by kernel_rfl,by kernel_rfl⟩
theorem vC:bw Tryz.prog 204 cJ:=bw.of (by rfl) Tryz.underlying204 (by kernel_rfl)
theorem gi:bw Tryz.prog 4 Bool:=bw.of (by rfl) Tryz.underlying4 (by kernel_rfl)
theorem Fl:cF Tryz.prog 4 (default:Bool):=cF.of (by kernel_rfl)
theorem vD:bw Tryz.prog 202 (List dy):=bw.of (by rfl) Tryz.underlying202 (by kernel_rfl)
theorem xS:cx Tryz.prog 204 2 2:=cx.of Tryz.underlying204 rfl rfl vD rfl
theorem vh:cx Tryz.prog 65 0 0:=cx.of Tryz.underlying65 rfl rfl bF rfl
theorem r1:cF Tryz.prog 207 (default:dy):=cF.of (by kernel_rfl)
theorem Io:hO Tryz.prog 207 #[(0,1),(1,1),(2,1),(3,1)]:=⟨_,Tryz.underlying207,by kernel_rfl,by kernel_rfl⟩
theorem x9:bw Tryz.prog 207 dy:=bw.of (by rfl) Tryz.underlying207 (by kernel_rfl)
theorem xR:jJ Tryz.prog 204 [2]:=by unfold jJ; kernel_rfl
theorem Zm:bH Tryz.prog 71:=⟨_,Tryz.func71,rfl,by kernel_rfl⟩
theorem Py:bw Tryz.prog 30 (List cJ):=bw.of (by rfl) Tryz.underlying30 (by kernel_rfl)
theorem V6:cx Tryz.prog 33 6 6:=cx.of Tryz.underlying33 rfl rfl Py rfl
theorem tB:cF Tryz.prog 127 (default:fJ):=cF.of (by kernel_rfl)
theorem Bc:hO Tryz.prog 127 #[(0,1),(1,1)]:=⟨_,Tryz.underlying127,by kernel_rfl,by kernel_rfl⟩
theorem Iq:bw Tryz.prog 127 fJ:=bw.of (by rfl) Tryz.underlying127 (by kernel_rfl)
theorem EX:bw Tryz.prog 29 (List fJ):=bw.of (by rfl) Tryz.underlying29 (by kernel_rfl)
theorem HX:cx Tryz.prog 33 5 5:=cx.of Tryz.underlying33 rfl rfl EX rfl
theorem vY:bw Tryz.prog 31 (List fc):=bw.of (by rfl) Tryz.underlying31 (by kernel_rfl)
theorem xZ:cx Tryz.prog 33 7 7:=cx.of Tryz.underlying33 rfl rfl vY rfl
theorem qW:cF Tryz.prog 129 (default:fc):=cF.of (by kernel_rfl)
theorem EH:hO Tryz.prog 129 #[(0,1),(1,1),(2,1),(3,1),(4,1),(5,1)]:=⟨_,Tryz.underlying129,by kernel_rfl,by kernel_rfl⟩
theorem ya:bw Tryz.prog 129 fc:=bw.of (by rfl) Tryz.underlying129 (by kernel_rfl)
theorem Ms:jJ Tryz.prog 33 [5,7]:=by unfold jJ; kernel_rfl
theorem PB:bH Tryz.prog 16:=⟨_,Tryz.func16,rfl,by kernel_rfl⟩
structure bV where
 fF:Bool
 cI:ar
 fL:ar
 ez:Int
 jP:ar
 deriving DecidableEq,Inhabited
instance:ai bV:= .str (dA Bool (dA ar (dA ar (dA Int (h8 ar))))) (fun x=>(x.fF,x.cI,x.fL,x.ez,x.jP)) 8
def nD:aN bV Bool:= .str dN 0 bV.fF fun b g=> { b with fF:=g }
def kr:aN bV ar:= .str (bB dN) 1 bV.cI fun b g=> { b with cI:=g }
def oo:aN bV ar:= .str (bB (bB dN)) 3 bV.fL fun b g=> { b with fL:=g }
def m3:aN bV Int:= .str (bB (bB (bB dN))) 5 bV.ez fun b g=> { b with ez:=g }
def sZ:aN bV ar:= .str (bB (bB (bB (bB iB)))) 6 bV.jP fun b g=> { b with jP:=g }
instance:bg bV:=⟨bg.cells Bool ++ bg.cells ar ++ bg.cells ar ++ bg.cells Int ++ bg.cells ar,fun A W=>⟨by rfl,bg.ok (α:=Bool) A W,bg.ok (α:=ar) A W,bg.ok (α:=ar) A W,bg.ok (α:=Int) A W,bg.ok (α:=ar) A W⟩⟩
structure bu where
 dW:Int
 bZ:List bV
 hI:Int
 kR:Int
 iw:List ar
 deriving DecidableEq,Inhabited
instance:ai bu:= .str (dA Int (dA (List bV) (dA Int (dA Int (h8 (List ar)))))) (fun x=>(x.dW,x.bZ,x.hI,x.kR,x.iw)) 5
def sX:aN bu Int:= .str dN 0 bu.dW fun b g=> { b with dW:=g }
def lh:aN bu (List bV):= .str (bB dN) 1 bu.bZ fun b g=> { b with bZ:=g }
def ru:aN bu Int:= .str (bB (bB dN)) 2 bu.hI fun b g=> { b with hI:=g }
def xb:aN bu Int:= .str (bB (bB (bB dN))) 3 bu.kR fun b g=> { b with kR:=g }
def s0:aN bu (List ar):= .str (bB (bB (bB (bB iB)))) 4 bu.iw fun b g=> { b with iw:=g }
instance:bg bu:=⟨bg.cells Int ++ bg.cells (List bV) ++ bg.cells Int ++ bg.cells Int ++ bg.cells (List ar),fun A W=>⟨by rfl,bg.ok (α:=Int) A W,bg.ok (α:=List bV) A W,bg.ok (α:=Int) A W,bg.ok (α:=Int) A W,bg.ok (α:=List ar) A W⟩⟩
structure aA where
 bA:bu
 cd:Int
 lL:Int
 deriving DecidableEq,Inhabited
instance:ai aA:= .str (dA bu (dA Int (h8 Int))) (fun x=>(x.bA,x.cd,x.lL)) 7
def kq:aN aA bu:= .str dN 0 aA.bA fun b g=> { b with bA:=g }
def mD:aN aA Int:= .str (bB dN) 5 aA.cd fun b g=> { b with cd:=g }
def Ge:aN aA Int:= .str (bB (bB iB)) 6 aA.lL fun b g=> { b with lL:=g }
instance:bg aA:=⟨bg.cells bu ++ bg.cells Int ++ bg.cells Int,fun A W=>⟨by rfl,bg.ok (α:=bu) A W,bg.ok (α:=Int) A W,bg.ok (α:=Int) A W⟩⟩
theorem WR:bH Tryz.prog 119:=⟨_,Tryz.func119,rfl,by kernel_rfl⟩
theorem WS:bH Tryz.prog 118:=⟨_,Tryz.func118,rfl,by kernel_rfl⟩
theorem Pq:bH Tryz.prog 82:=⟨_,Tryz.func82,rfl,by kernel_rfl⟩
theorem xW:cx Tryz.prog 86 2 2:=cx.of Tryz.underlying86 rfl rfl bF rfl
theorem Y9:bH Tryz.prog 83:=⟨_,Tryz.func83,rfl,by kernel_rfl⟩
structure jM where
 p5:Ref
 deriving DecidableEq,Inhabited
instance:ai jM:= .str (h8 Ref) (fun x=>x.p5) 1
def zG:aN jM Ref:= .str iB 0 jM.p5 fun b g=> { b with p5:=g }
instance:bg jM:=⟨bg.cells Ref,fun A W=>⟨by rfl,bg.ok (α:=Ref) A W⟩⟩
structure gz where
 rX:Int
 fw:Int
 nN:gf
 deriving DecidableEq,Inhabited
instance:ai gz:= .str (dA Int (dA Int (h8 gf))) (fun x=>(x.rX,x.fw,x.nN)) 3
def zk:aN gz Int:= .str dN 0 gz.rX fun b g=> { b with rX:=g }
def C2:aN gz Int:= .str (bB dN) 1 gz.fw fun b g=> { b with fw:=g }
def qz:aN gz gf:= .str (bB (bB iB)) 2 gz.nN fun b g=> { b with nN:=g }
instance:bg gz:=⟨bg.cells Int ++ bg.cells Int ++ bg.cells gf,fun A W=>⟨by rfl,bg.ok (α:=Int) A W,bg.ok (α:=Int) A W,bg.ok (α:=gf) A W⟩⟩
structure ja where
 b1:Ref
 deriving DecidableEq,Inhabited
instance:ai ja:= .str (h8 Ref) (fun x=>x.b1) 1
def zH:aN ja Ref:= .str iB 0 ja.b1 fun b g=> { b with b1:=g }
instance:bg ja:=⟨bg.cells Ref,fun A W=>⟨by rfl,bg.ok (α:=Ref) A W⟩⟩
inductive gm where
 | nil
 | mh (x:jM)
 | mi (x:gz)
 | mj (x:ja)
 deriving DecidableEq,Inhabited
instance:ai gm where
 size:=1
 agg:=false
 rep A W cs x:=match x with
  | .nil=>cs= [.nilIface]
  | .mh x=> ∃ v,cs= [.iface 166 v]∧ (I.of x).holds A W v
  | .mi x=> ∃ v,cs= [.iface 169 v]∧ (I.of x).holds A W v
  | .mj x=> ∃ v,cs= [.iface 173 v]∧ (I.of x).holds A W v
 len {A W cs x} h:=by cases x <;> first | (have h:cs=_:=h; rw [h]; rfl) | (obtain⟨v,h,_⟩:=h; rw [h]; rfl)
 one {A W cs x} h:=by
  intro u hu
  cases x <;> first | (have h:cs=_:=h; rw [h] at hu; rw [List.mem_singleton.1 hu]; rfl) | (obtain⟨v,h,_⟩:=h; rw [h] at hu; rw [List.mem_singleton.1 hu]; rfl)
 flat _:=rfl
 mono {A W c5 W' cs x} e h:=by cases x <;> first | exact h | (obtain⟨v,h,ad⟩:=h; exact⟨v,h,I.mono _ e ad⟩)
instance:bg gm:=⟨[.nilIface],fun _ _=>rfl⟩
theorem TN {A W v} {x:jM} (h:(I.of x).holds A W v):(I.of (gm.mh x)).holds A W (.iface 166 v):=⟨rfl,v,rfl,h⟩
theorem DM {A W u} {x:jM} (h:(I.of (gm.mh x)).holds A W u):∃ v,u= .iface 166 v∧ (I.of x).holds A W v:=by
 obtain⟨J,v,ad,aC⟩:=h
 exact⟨v,oq J ad,aC⟩
theorem TO {A W v} {x:gz} (h:(I.of x).holds A W v):(I.of (gm.mi x)).holds A W (.iface 169 v):=⟨rfl,v,rfl,h⟩
theorem DN {A W u} {x:gz} (h:(I.of (gm.mi x)).holds A W u):∃ v,u= .iface 169 v∧ (I.of x).holds A W v:=by
 obtain⟨J,v,ad,aC⟩:=h
 exact⟨v,oq J ad,aC⟩
theorem TP {A W v} {x:ja} (h:(I.of x).holds A W v):(I.of (gm.mj x)).holds A W (.iface 173 v):=⟨rfl,v,rfl,h⟩
theorem DO {A W u} {x:ja} (h:(I.of (gm.mj x)).holds A W u):∃ v,u= .iface 173 v∧ (I.of x).holds A W v:=by
 obtain⟨J,v,ad,aC⟩:=h
 exact⟨v,oq J ad,aC⟩
structure gA where
 pK:Int
 o9:Int
 iu:gm
 ks:gf
 deriving DecidableEq,Inhabited
instance:ai gA:= .str (dA Int (dA Int (dA gm (h8 gf)))) (fun x=>(x.pK,x.o9,x.iu,x.ks)) 4
def KS:aN gA Int:= .str dN 0 gA.pK fun b g=> { b with pK:=g }
def KT:aN gA Int:= .str (bB dN) 1 gA.o9 fun b g=> { b with o9:=g }
def sW:aN gA gm:= .str (bB (bB dN)) 2 gA.iu fun b g=> { b with iu:=g }
def w6:aN gA gf:= .str (bB (bB (bB iB))) 3 gA.ks fun b g=> { b with ks:=g }
instance:bg gA:=⟨bg.cells Int ++ bg.cells Int ++ bg.cells gm ++ bg.cells gf,fun A W=>⟨by rfl,bg.ok (α:=Int) A W,bg.ok (α:=Int) A W,bg.ok (α:=gm) A W,bg.ok (α:=gf) A W⟩⟩
theorem WW:cF Tryz.prog 135 (default:gA):=cF.of (by kernel_rfl)
theorem WV:hO Tryz.prog 135 #[(0,1),(1,1),(2,1),(3,1)]:=⟨_,Tryz.underlying135,by kernel_rfl,by kernel_rfl⟩
structure m5 where
 oD:gf
 deriving DecidableEq,Inhabited
instance:ai m5:= .str (h8 gf) (fun x=>x.oD) 1
def zx:aN m5 gf:= .str iB 0 m5.oD fun b g=> { b with oD:=g }
instance:bg m5:=⟨bg.cells gf,fun A W=>⟨by rfl,bg.ok (α:=gf) A W⟩⟩
theorem WN:cF Tryz.prog 224 (default:m5):=cF.of (by kernel_rfl)
theorem WM:hO Tryz.prog 224 #[(0,1)]:=⟨_,Tryz.underlying224,by kernel_rfl,by kernel_rfl⟩
theorem Za:bH Tryz.prog 84:=⟨_,Tryz.func84,rfl,by kernel_rfl⟩
theorem WY:cF Tryz.prog 166 (default:jM):=cF.of (by kernel_rfl)
theorem WX:hO Tryz.prog 166 #[(0,1)]:=⟨_,Tryz.underlying166,by kernel_rfl,by kernel_rfl⟩
theorem rW:bw Tryz.prog 132 gm:=bw.of (by rfl) Tryz.underlying132 (by kernel_rfl)
theorem ti:cx Tryz.prog 135 2 2:=cx.of Tryz.underlying135 rfl rfl rW rfl
theorem MX:cx Tryz.prog 119 0 0:=cx.of Tryz.underlying119 rfl rfl bF rfl
theorem WT:bH Tryz.prog 121:=⟨_,Tryz.func121,rfl,by kernel_rfl⟩
theorem WU:bH Tryz.prog 120:=⟨_,Tryz.func120,rfl,by kernel_rfl⟩
theorem HU:cx Tryz.prog 86 1 1:=cx.of Tryz.underlying86 rfl rfl bF rfl
theorem Pr:bH Tryz.prog 85:=⟨_,Tryz.func85,rfl,by kernel_rfl⟩
theorem Hs:cx Tryz.prog 119 2 2:=cx.of Tryz.underlying119 rfl rfl bF rfl
theorem W0:cF Tryz.prog 169 (default:gz):=cF.of (by kernel_rfl)
theorem WZ:hO Tryz.prog 169 #[(0,1),(1,1),(2,1)]:=⟨_,Tryz.underlying169,by kernel_rfl,by kernel_rfl⟩
structure cu where
 ou:a3
 b1:List aA
 deriving DecidableEq,Inhabited
instance:ai cu:= .str (dA a3 (h8 (List aA))) (fun x=>(x.ou,x.b1)) 11
def C1:aN cu a3:= .str dN 0 cu.ou fun b g=> { b with ou:=g }
def xh:aN cu (List aA):= .str (bB iB) 10 cu.b1 fun b g=> { b with b1:=g }
instance:bg cu:=⟨bg.cells a3 ++ bg.cells (List aA),fun A W=>⟨by rfl,bg.ok (α:=a3) A W,bg.ok (α:=List aA) A W⟩⟩
theorem WQ:cF Tryz.prog 228 (default:cu):=cF.of (by kernel_rfl)
theorem WO:hO Tryz.prog 228 #[(0,10),(10,1)]:=⟨_,Tryz.underlying228,by kernel_rfl,by kernel_rfl⟩
theorem Zb:bH Tryz.prog 86:=⟨_,Tryz.func86,rfl,by kernel_rfl⟩
theorem Uz:jJ Tryz.prog 228 [10]:=by unfold jJ; kernel_rfl
theorem W4:cF Tryz.prog 173 (default:ja):=cF.of (by kernel_rfl)
theorem W3:hO Tryz.prog 173 #[(0,1)]:=⟨_,Tryz.underlying173,by kernel_rfl,by kernel_rfl⟩
theorem IZ:bH Tryz.prog 25:=⟨_,Tryz.func25,rfl,by kernel_rfl⟩
theorem v3:bH Tryz.prog 39:=⟨_,Tryz.func39,rfl,by kernel_rfl⟩
theorem EW:cF Tryz.prog 50 (default:bu):=cF.of (by kernel_rfl)
theorem Zd:hO Tryz.prog 50 #[(0,1),(1,1),(2,1),(3,1),(4,1)]:=⟨_,Tryz.underlying50,by kernel_rfl,by kernel_rfl⟩
theorem hf:bw Tryz.prog 50 bu:=bw.of (by rfl) Tryz.underlying50 (by kernel_rfl)
theorem mN:cF Tryz.prog 88 (default:bV):=cF.of (by kernel_rfl)
theorem W9:bH Tryz.prog 108:=⟨_,Tryz.func108,rfl,by kernel_rfl⟩
theorem eC:bw Tryz.prog 41 (BitVec 64):=bw.of (by rfl) Tryz.underlying41 (by kernel_rfl)
theorem j5:cx Tryz.prog 43 0 0:=cx.of Tryz.underlying43 rfl rfl eC rfl
theorem h4:cx Tryz.prog 43 1 1:=cx.of Tryz.underlying43 rfl rfl eC rfl
theorem IY:bH Tryz.prog 46:=⟨_,Tryz.func46,rfl,by kernel_rfl⟩
theorem Xa:bH Tryz.prog 109:=⟨_,Tryz.func109,rfl,by kernel_rfl⟩
theorem Nz:Ku Tryz.prog 43 1 41 1:=⟨_,_,Tryz.underlying43,rfl,rfl,rfl⟩
theorem vP:hO Tryz.prog 88 #[(0,1),(1,2),(3,2),(5,1),(6,2)]:=⟨_,Tryz.underlying88,by kernel_rfl,by kernel_rfl⟩
theorem fr:bw Tryz.prog 88 bV:=bw.of (by rfl) Tryz.underlying88 (by kernel_rfl)
theorem kY:bw Tryz.prog 47 (List bV):=bw.of (by rfl) Tryz.underlying47 (by kernel_rfl)
theorem lk:cx Tryz.prog 50 1 1:=cx.of Tryz.underlying50 rfl rfl kY rfl
theorem Ze:bH Tryz.prog 75:=⟨_,Tryz.func75,rfl,by kernel_rfl⟩
theorem rR:cx Tryz.prog 50 2 2:=cx.of Tryz.underlying50 rfl rfl bF rfl
theorem vU:bw Tryz.prog 63 (List Int):=bw.of (by rfl) Tryz.underlying63 (by kernel_rfl)
theorem NA:cx Tryz.prog 65 3 3:=cx.of Tryz.underlying65 rfl rfl vU rfl
theorem xY:cx Tryz.prog 50 3 3:=cx.of Tryz.underlying50 rfl rfl bF rfl
theorem Vf:cx Tryz.prog 148 0 0:=cx.of Tryz.underlying148 rfl rfl bF rfl
theorem Zf:bH Tryz.prog 76:=⟨_,Tryz.func76,rfl,by kernel_rfl⟩
theorem Vj:Ku Tryz.prog 148 2 145 2:=⟨_,_,Tryz.underlying148,rfl,rfl,rfl⟩
theorem Xb:bw Tryz.prog 145 (List iF):=bw.of (by rfl) Tryz.underlying145 (by kernel_rfl)
theorem sb:bw Tryz.prog 48 (List ar):=bw.of (by rfl) Tryz.underlying48 (by kernel_rfl)
theorem tq:cx Tryz.prog 50 4 4:=cx.of Tryz.underlying50 rfl rfl sb rfl
theorem Vk:cx Tryz.prog 151 1 1:=cx.of Tryz.underlying151 rfl rfl bF rfl
theorem Mr:jJ Tryz.prog 50 [1,4]:=by unfold jJ; kernel_rfl
theorem PI:bH Tryz.prog 27:=⟨_,Tryz.func27,rfl,by kernel_rfl⟩
theorem gh:cF Tryz.prog 52 (default:aA):=cF.of (by kernel_rfl)
theorem yq:hO Tryz.prog 52 #[(0,5),(5,1),(6,1)]:=⟨_,Tryz.underlying52,by kernel_rfl,by kernel_rfl⟩
theorem cg:bw Tryz.prog 52 aA:=bw.of (by rfl) Tryz.underlying52 (by kernel_rfl)
theorem ye:bw Tryz.prog 133 gf:=bw.of (by rfl) Tryz.underlying133 (by kernel_rfl)
theorem AK:cx Tryz.prog 135 3 3:=cx.of Tryz.underlying135 rfl rfl ye rfl
theorem nR:cx Tryz.prog 52 1 5:=cx.of Tryz.underlying52 rfl rfl bF rfl
theorem Fo:oj Tryz.prog 3 Int:=Wt Tryz.underlying3
theorem ll:cx Tryz.prog 52 0 0:=cx.of Tryz.underlying52 rfl rfl hf rfl
theorem ym:cF Tryz.prog 45 (default:Vector ar 4):=cF.of (by kernel_rfl)
theorem na:cx Tryz.prog 88 1 1:=cx.of Tryz.underlying88 rfl rfl bQ rfl
theorem nc:rp Tryz.prog 45 4 2:=rp.of Tryz.underlying45 bQ rfl
theorem jx:bw Tryz.prog 45 (Vector ar 4):=bw.of (by rfl) Tryz.underlying45 (by kernel_rfl)
theorem A5:bw Tryz.prog 222 gf:=bw.of (by rfl) Tryz.underlying222 (by kernel_rfl)
theorem D2:cx Tryz.prog 224 0 0:=cx.of Tryz.underlying224 rfl rfl A5 rfl
instance acB:lg ar where
 uniq {A W cs c5 W' dS x} h c0:=by
  refine VD h.1 c0.1 ?_
  refine Mw 0 (ai.size (BitVec 64)) (lg.uniq (h.2.1) (c0.2.1)) ?_
  refine Mw 1 (ai.size (BitVec 64)) (lg.uniq (h.2.2) (c0.2.2)) ?_
  exact VE h.1 c0.1 (by decide)
 plain {A W cs x} h:=by
  intro u hu n
  have bI:=D9 (o:=0) (s:=ai.size (BitVec 64)) (by simpa using hu)
  rcases bI with J | bI
  ·exact lg.plain (h.2.1) u J n
  have bI:=D9 (s:=ai.size (BitVec 64)) bI
  rcases bI with J | bI
  ·exact lg.plain (h.2.2) u J n
  exact Nb h.1 (by rfl) bI
theorem Pp:mu Tryz.prog 41 (BitVec 64) 1:=Vx (K:= .u64) Tryz.underlying41
theorem oE:mu Tryz.prog 43 ar 2:=LO (k:=1) rfl Tryz.underlying43 (by kernel_rfl) fun d hd A W xs ys x y an a5=>by
 refine Eq.trans (u5 hx eC rfl (by rfl) Pp (by omega) an a5 (u5 ef eC rfl (by rfl) Pp (by omega) an a5 (Na))) ?_
 congr 1
 rw [Bool.eq_iff_iff]
 simp only [Bool.and_eq_true,decide_eq_true_eq,and_true]
 cases x; cases y
 simp [aN.str,hx,ef]
theorem WI:mu Tryz.prog 319 (Vector ar 4) 3:=M9 Tryz.underlying319 bQ oE
theorem P1:rq Tryz.prog 41 (BitVec 64) 1:=Mg Tryz.underlying41 rfl
theorem P2:rq Tryz.prog 43 ar 2:=Uc (k:=1) rfl Tryz.underlying43 (.cons hx rfl eC (fun b d A W u x h an=>P1 b d A W u x (by omega) an) (.cons ef rfl eC (fun b d A W u x h an=>P1 b d A W u x (by omega) an) (.nil)))
theorem YT:rq Tryz.prog 319 (Vector ar 4) 3:=NT Tryz.underlying319 bQ P2
theorem Ey:oj Tryz.prog 319 (Vector ar 4):=NU Tryz.underlying319 rfl YT WI rfl rfl
theorem A8:bw Tryz.prog 163 Ref:=bw.of (by rfl) Tryz.underlying163 (by kernel_rfl)
theorem D4:cx Tryz.prog 166 0 0:=cx.of Tryz.underlying166 rfl rfl A8 rfl
theorem EI:bH Tryz.prog 232:=⟨_,Tryz.func232,rfl,by kernel_rfl⟩
theorem Ij:bH Tryz.prog 231:=⟨_,Tryz.func231,rfl,by kernel_rfl⟩
theorem Bd:bw Tryz.prog 169 gz:=bw.of (by rfl) Tryz.underlying169 (by kernel_rfl)
theorem vy:cF Tryz.prog 320 (default:Vector ar 4):=cF.of (by kernel_rfl)
theorem D3:cx Tryz.prog 169 0 0:=cx.of Tryz.underlying169 rfl rfl bF rfl
theorem j7:bw Tryz.prog 320 (Vector ar 4):=bw.of (by rfl) Tryz.underlying320 (by kernel_rfl)
theorem Oj:bH Tryz.prog 241:=⟨_,Tryz.func241,rfl,by kernel_rfl⟩
theorem o8:cx Tryz.prog 88 3 5:=cx.of Tryz.underlying88 rfl rfl bF rfl
theorem ID:bH Tryz.prog 239:=⟨_,Tryz.func239,rfl,by kernel_rfl⟩
theorem vG:cF Tryz.prog 331 (default:Ref):=cF.of (by kernel_rfl)
theorem Ok:bH Tryz.prog 205:=⟨_,Tryz.func205,rfl,by kernel_rfl⟩
theorem Ol:bH Tryz.prog 204:=⟨_,Tryz.func204,rfl,by kernel_rfl⟩
theorem Is:bH Tryz.prog 188:=⟨_,Tryz.func188,rfl,by kernel_rfl⟩
theorem Xj:bH Tryz.prog 193:=⟨_,Tryz.func193,rfl,by kernel_rfl⟩
theorem va:cx Tryz.prog 337 0 0:=cx.of Tryz.underlying337 rfl rfl bF rfl
structure fv where
 fw:Int
 cB:Ref
 deriving DecidableEq,Inhabited
instance:ai fv:= .str (dA Int (h8 Ref)) (fun x=>(x.fw,x.cB)) 2
def sY:aN fv Int:= .str dN 0 fv.fw fun b g=> { b with fw:=g }
def ry:aN fv Ref:= .str (bB iB) 1 fv.cB fun b g=> { b with cB:=g }
instance:bg fv:=⟨bg.cells Int ++ bg.cells Ref,fun A W=>⟨by rfl,bg.ok (α:=Int) A W,bg.ok (α:=Ref) A W⟩⟩
theorem Ox:bH Tryz.prog 189:=⟨_,Tryz.func189,rfl,by kernel_rfl⟩
theorem Be:bH Tryz.prog 148:=⟨_,Tryz.func148,rfl,by kernel_rfl⟩
theorem tx:Tryz.prog.eqGuardType Tryz.prog.depth 43=false:=by kernel_rfl
theorem OA:bH Tryz.prog 251:=⟨_,Tryz.func251,rfl,by kernel_rfl⟩
theorem dX:bw Tryz.prog 331 Ref:=bw.of (by rfl) Tryz.underlying331 (by kernel_rfl)
theorem rO:cx Tryz.prog 337 1 1:=cx.of Tryz.underlying337 rfl rfl dX rfl
theorem EK:bH Tryz.prog 250:=⟨_,Tryz.func250,rfl,by kernel_rfl⟩
theorem Om:bw Tryz.prog 321 Ref:=bw.of (by rfl) Tryz.underlying321 (by kernel_rfl)
theorem Oo:bH Tryz.prog 196:=⟨_,Tryz.func196,rfl,by kernel_rfl⟩
theorem Oq:bw Tryz.prog 333 (Vector Ref 2):=bw.of (by rfl) Tryz.underlying333 (by kernel_rfl)
theorem qL:cx Tryz.prog 335 0 0:=cx.of Tryz.underlying335 rfl rfl Oq rfl
theorem r3:rp Tryz.prog 333 2 1:=rp.of Tryz.underlying333 dX rfl
structure dx where
 cU:Vector Ref 2
 dC:Bool
 hc:Int
 deriving DecidableEq,Inhabited
instance:ai dx:= .str (dA (Vector Ref 2) (dA Bool (h8 Int))) (fun x=>(x.cU,x.dC,x.hc)) 4
def qA:aN dx (Vector Ref 2):= .str dN 0 dx.cU fun b g=> { b with cU:=g }
def qB:aN dx Bool:= .str (bB dN) 2 dx.dC fun b g=> { b with dC:=g }
def zT:aN dx Int:= .str (bB (bB iB)) 3 dx.hc fun b g=> { b with hc:=g }
instance:bg dx:=⟨bg.cells (Vector Ref 2) ++ bg.cells Bool ++ bg.cells Int,fun A W=>⟨by rfl,bg.ok (α:=Vector Ref 2) A W,bg.ok (α:=Bool) A W,bg.ok (α:=Int) A W⟩⟩
theorem EL:bH Tryz.prog 255:=⟨_,Tryz.func255,rfl,by kernel_rfl⟩
theorem OE:bH Tryz.prog 247:=⟨_,Tryz.func247,rfl,by kernel_rfl⟩
theorem qJ:cx Tryz.prog 335 1 2:=cx.of Tryz.underlying335 rfl rfl gi rfl
theorem AI:cx Tryz.prog 335 2 3:=cx.of Tryz.underlying335 rfl rfl bF rfl
theorem qX:bw Tryz.prog 167 gf:=bw.of (by rfl) Tryz.underlying167 (by kernel_rfl)
theorem rP:cx Tryz.prog 169 2 2:=cx.of Tryz.underlying169 rfl rfl qX rfl
theorem WJ:mu Tryz.prog 320 (Vector ar 4) 3:=M9 Tryz.underlying320 bQ oE
theorem YU:rq Tryz.prog 320 (Vector ar 4) 3:=NT Tryz.underlying320 bQ P2
theorem tD:oj Tryz.prog 320 (Vector ar 4):=NU Tryz.underlying320 rfl YU WJ rfl rfl
theorem yf:cF Tryz.prog 321 (default:Ref):=cF.of (by kernel_rfl)
theorem OV:bH Tryz.prog 240:=⟨_,Tryz.func240,rfl,by kernel_rfl⟩
theorem Bf:bw Tryz.prog 170 Ref:=bw.of (by rfl) Tryz.underlying170 (by kernel_rfl)
theorem D7:cx Tryz.prog 173 0 0:=cx.of Tryz.underlying173 rfl rfl Bf rfl
theorem q1:bw Tryz.prog 38 (List aA):=bw.of (by rfl) Tryz.underlying38 (by kernel_rfl)
theorem rJ:cx Tryz.prog 228 1 10:=cx.of Tryz.underlying228 rfl rfl q1 rfl
theorem Xf:bH Tryz.prog 161:=⟨_,Tryz.func161,rfl,by kernel_rfl⟩
theorem Xg:bH Tryz.prog 162:=⟨_,Tryz.func162,rfl,by kernel_rfl⟩
theorem Xl:bH Tryz.prog 122:=⟨_,Tryz.func122,rfl,by kernel_rfl⟩
theorem yp:bH Tryz.prog 87:=⟨_,Tryz.func87,rfl,by kernel_rfl⟩
theorem XB:bH Tryz.prog 269:=⟨_,Tryz.func269,rfl,by kernel_rfl⟩
theorem XS:bH Tryz.prog 264:=⟨_,Tryz.func264,rfl,by kernel_rfl⟩
theorem vk:cx Tryz.prog 50 0 0:=cx.of Tryz.underlying50 rfl rfl bF rfl
theorem aap:mu Tryz.prog 4 Bool 1:=UM Tryz.underlying4
theorem aaq:mu Tryz.prog 3 Int 1:=M8 (K:= .i64) Tryz.underlying3
theorem Oh:mu Tryz.prog 88 bV 3:=LO (k:=2) rfl Tryz.underlying88 (by kernel_rfl) fun d hd A W xs ys x y an a5=>by
 refine Eq.trans (u5 nD gi rfl (by rfl) aap (by omega) an a5 (u5 kr bQ rfl (by rfl) oE (by omega) an a5 (u5 oo bQ rfl (by rfl) oE (by omega) an a5 (u5 m3 bF rfl (by rfl) aaq (by omega) an a5 (u5 sZ bQ rfl (by rfl) oE (by omega) an a5 (Na)))))) ?_
 congr 1
 rw [Bool.eq_iff_iff]
 simp only [Bool.and_eq_true,decide_eq_true_eq,and_true]
 cases x; cases y
 simp [aN.str,nD,kr,oo,m3,sZ]
theorem Oi:Tryz.prog.eqGuardType Tryz.prog.depth 88=false:=by kernel_rfl
theorem Xh:bH Tryz.prog 270:=⟨_,Tryz.func270,rfl,by kernel_rfl⟩
theorem XT:bH Tryz.prog 265:=⟨_,Tryz.func265,rfl,by kernel_rfl⟩
theorem YV:bH Tryz.prog 227:=⟨_,Tryz.func227,rfl,by kernel_rfl⟩
theorem TU:ie Tryz.prog 166 "matchguard/index.find" 227:=ie.pv (by kernel_rfl) Tryz.underlying166 rfl YV
theorem YW:bH Tryz.prog 235:=⟨_,Tryz.func235,rfl,by kernel_rfl⟩
theorem TV:ie Tryz.prog 169 "matchguard/index.find" 235:=ie.pv (by kernel_rfl) Tryz.underlying169 rfl YW
theorem YX:bH Tryz.prog 260:=⟨_,Tryz.func260,rfl,by kernel_rfl⟩
theorem TW:ie Tryz.prog 173 "matchguard/index.find" 260:=ie.pv (by kernel_rfl) Tryz.underlying173 rfl YX
theorem Xi:bH Tryz.prog 233:=⟨_,Tryz.func233,rfl,by kernel_rfl⟩
theorem W6:cF Tryz.prog 337 (default:fv):=cF.of (by kernel_rfl)
theorem W5:hO Tryz.prog 337 #[(0,1),(1,1)]:=⟨_,Tryz.underlying337,by kernel_rfl,by kernel_rfl⟩
theorem Hy:cx Tryz.prog 169 1 1:=cx.of Tryz.underlying169 rfl rfl bF rfl
theorem XY:bH Tryz.prog 243:=⟨_,Tryz.func243,rfl,by kernel_rfl⟩
theorem OG:cF Tryz.prog 335 (default:dx):=cF.of (by kernel_rfl)
theorem OF:hO Tryz.prog 335 #[(0,2),(2,1),(3,1)]:=⟨_,Tryz.underlying335,by kernel_rfl,by kernel_rfl⟩
theorem XX:bH Tryz.prog 244:=⟨_,Tryz.func244,rfl,by kernel_rfl⟩
theorem Oc:bH Tryz.prog 279:=⟨_,Tryz.func279,rfl,by kernel_rfl⟩
theorem Od:bH Tryz.prog 110:=⟨_,Tryz.func110,rfl,by kernel_rfl⟩
theorem Ow:bH Tryz.prog 272:=⟨_,Tryz.func272,rfl,by kernel_rfl⟩
theorem Ou:bH Tryz.prog 126:=⟨_,Tryz.func126,rfl,by kernel_rfl⟩
theorem Oy:bH Tryz.prog 206:=⟨_,Tryz.func206,rfl,by kernel_rfl⟩
theorem Xy:bH Tryz.prog 207:=⟨_,Tryz.func207,rfl,by kernel_rfl⟩
theorem Xx:bH Tryz.prog 146:=⟨_,Tryz.func146,rfl,by kernel_rfl⟩
theorem tK:bH Tryz.prog 92:=⟨_,Tryz.func92,rfl,by kernel_rfl⟩
theorem OB:bH Tryz.prog 190:=⟨_,Tryz.func190,rfl,by kernel_rfl⟩
theorem Iy:bH Tryz.prog 133:=⟨_,Tryz.func133,rfl,by kernel_rfl⟩
theorem Hz:cx Tryz.prog 228 0 0:=cx.of Tryz.underlying228 rfl rfl ho rfl
theorem OD:bH Tryz.prog 150:=⟨_,Tryz.func150,rfl,by kernel_rfl⟩
theorem X3:bH Tryz.prog 273:=⟨_,Tryz.func273,rfl,by kernel_rfl⟩
theorem X4:bH Tryz.prog 274:=⟨_,Tryz.func274,rfl,by kernel_rfl⟩
theorem X5:bH Tryz.prog 275:=⟨_,Tryz.func275,rfl,by kernel_rfl⟩
theorem X9:bH Tryz.prog 267:=⟨_,Tryz.func267,rfl,by kernel_rfl⟩
theorem YY:bH Tryz.prog 229:=⟨_,Tryz.func229,rfl,by kernel_rfl⟩
theorem TX:ie Tryz.prog 166 "matchguard/index.put" 229:=ie.pv (by kernel_rfl) Tryz.underlying166 rfl YY
theorem YZ:bH Tryz.prog 237:=⟨_,Tryz.func237,rfl,by kernel_rfl⟩
theorem TY:ie Tryz.prog 169 "matchguard/index.put" 237:=ie.pv (by kernel_rfl) Tryz.underlying169 rfl YZ
theorem Y0:bH Tryz.prog 262:=⟨_,Tryz.func262,rfl,by kernel_rfl⟩
theorem TZ:ie Tryz.prog 173 "matchguard/index.put" 262:=ie.pv (by kernel_rfl) Tryz.underlying173 rfl Y0
theorem I5:bH Tryz.prog 44:=⟨_,Tryz.func44,rfl,by kernel_rfl⟩
theorem ZC:bH Tryz.prog 17:=⟨_,Tryz.func17,rfl,by kernel_rfl⟩
theorem PH:bH Tryz.prog 72:=⟨_,Tryz.func72,rfl,by kernel_rfl⟩
theorem ZB:bH Tryz.prog 40:=⟨_,Tryz.func40,rfl,by kernel_rfl⟩
theorem Xv:bH Tryz.prog 234:=⟨_,Tryz.func234,rfl,by kernel_rfl⟩
theorem X6:cF Tryz.prog 341 (default:List Ref):=cF.of (by kernel_rfl)
theorem Zz:cF Tryz.prog 63 (default:List Int):=cF.of (by kernel_rfl)
theorem tE:bw Tryz.prog 341 (List Ref):=bw.of (by rfl) Tryz.underlying341 (by kernel_rfl)
theorem Vo:jJ Tryz.prog 341 [0]:=by unfold jJ; kernel_rfl
theorem Wi:jJ Tryz.prog 63 [0]:=by unfold jJ; kernel_rfl
theorem Xm:cF Tryz.prog 333 (default:Vector Ref 2):=cF.of (by kernel_rfl)
theorem V8:Tryz.prog.eqGuardType Tryz.prog.depth 333=false:=by kernel_rfl
theorem OY:bH Tryz.prog 252:=⟨_,Tryz.func252,rfl,by kernel_rfl⟩
theorem Ya:bH Tryz.prog 245:=⟨_,Tryz.func245,rfl,by kernel_rfl⟩
structure di where
 cI:ar
 u1:Int
 bX:Int
 deriving DecidableEq,Inhabited
instance:ai di:= .str (dA ar (dA Int (h8 Int))) (fun x=>(x.cI,x.u1,x.bX)) 4
def RA:aN di ar:= .str dN 0 di.cI fun b g=> { b with cI:=g }
def Rs:aN di Int:= .str (bB dN) 2 di.u1 fun b g=> { b with u1:=g }
def R5:aN di Int:= .str (bB (bB iB)) 3 di.bX fun b g=> { b with bX:=g }
instance:bg di:=⟨bg.cells ar ++ bg.cells Int ++ bg.cells Int,fun A W=>⟨by rfl,bg.ok (α:=ar) A W,bg.ok (α:=Int) A W,bg.ok (α:=Int) A W⟩⟩
theorem Xz:cF Tryz.prog 342 (default:List di):=cF.of (by kernel_rfl)
theorem Iu:bw Tryz.prog 342 (List di):=bw.of (by rfl) Tryz.underlying342 (by kernel_rfl)
theorem Iv:cF Tryz.prog 347 (default:di):=cF.of (by kernel_rfl)
theorem Xo:hO Tryz.prog 347 #[(0,2),(2,1),(3,1)]:=⟨_,Tryz.underlying347,by kernel_rfl,by kernel_rfl⟩
theorem Ot:bw Tryz.prog 347 di:=bw.of (by rfl) Tryz.underlying347 (by kernel_rfl)
theorem Xp:bH Tryz.prog 257:=⟨_,Tryz.func257,rfl,by kernel_rfl⟩
theorem Ix:bH Tryz.prog 258:=⟨_,Tryz.func258,rfl,by kernel_rfl⟩
theorem Xq:bH Tryz.prog 166:=⟨_,Tryz.func166,rfl,by kernel_rfl⟩
theorem Xr:bH Tryz.prog 165:=⟨_,Tryz.func165,rfl,by kernel_rfl⟩
theorem Xs:bH Tryz.prog 167:=⟨_,Tryz.func167,rfl,by kernel_rfl⟩
theorem Vm:jJ Tryz.prog 342 [0]:=by unfold jJ; kernel_rfl
theorem XA:bH Tryz.prog 256:=⟨_,Tryz.func256,rfl,by kernel_rfl⟩
theorem XC:bH Tryz.prog 253:=⟨_,Tryz.func253,rfl,by kernel_rfl⟩
theorem Yb:bH Tryz.prog 246:=⟨_,Tryz.func246,rfl,by kernel_rfl⟩
theorem Xw:bH Tryz.prog 276:=⟨_,Tryz.func276,rfl,by kernel_rfl⟩
theorem XD:bH Tryz.prog 268:=⟨_,Tryz.func268,rfl,by kernel_rfl⟩
theorem Y1:bH Tryz.prog 230:=⟨_,Tryz.func230,rfl,by kernel_rfl⟩
theorem T0:ie Tryz.prog 166 "matchguard/index.remove" 230:=ie.pv (by kernel_rfl) Tryz.underlying166 rfl Y1
theorem Y2:bH Tryz.prog 238:=⟨_,Tryz.func238,rfl,by kernel_rfl⟩
theorem T1:ie Tryz.prog 169 "matchguard/index.remove" 238:=ie.pv (by kernel_rfl) Tryz.underlying169 rfl Y2
theorem Y3:bH Tryz.prog 263:=⟨_,Tryz.func263,rfl,by kernel_rfl⟩
theorem T2:ie Tryz.prog 173 "matchguard/index.remove" 263:=ie.pv (by kernel_rfl) Tryz.underlying173 rfl Y3
theorem ZD:bH Tryz.prog 41:=⟨_,Tryz.func41,rfl,by kernel_rfl⟩
theorem tm:cx Tryz.prog 88 0 0:=cx.of Tryz.underlying88 rfl rfl gi rfl
theorem Ez:cF Tryz.prog 251 (default:Vector Bool 128):=cF.of (by kernel_rfl)
theorem A6:rp Tryz.prog 251 128 1:=rp.of Tryz.underlying251 gi rfl
theorem A7:bw Tryz.prog 251 (Vector Bool 128):=bw.of (by rfl) Tryz.underlying251 (by kernel_rfl)
theorem Oe:bH Tryz.prog 143:=⟨_,Tryz.func143,rfl,by kernel_rfl⟩
theorem EJ:bH Tryz.prog 145:=⟨_,Tryz.func145,rfl,by kernel_rfl⟩
theorem qM:cx Tryz.prog 88 2 3:=cx.of Tryz.underlying88 rfl rfl bQ rfl
theorem yc:bH Tryz.prog 139:=⟨_,Tryz.func139,rfl,by kernel_rfl⟩
theorem AV:cx Tryz.prog 88 4 6:=cx.of Tryz.underlying88 rfl rfl bQ rfl
theorem XE:bH Tryz.prog 187:=⟨_,Tryz.func187,rfl,by kernel_rfl⟩
theorem XJ:bH Tryz.prog 138:=⟨_,Tryz.func138,rfl,by kernel_rfl⟩
theorem XK:bH Tryz.prog 140:=⟨_,Tryz.func140,rfl,by kernel_rfl⟩
theorem XM:bH Tryz.prog 100:=⟨_,Tryz.func100,rfl,by kernel_rfl⟩
theorem ZA:bH Tryz.prog 74:=⟨_,Tryz.func74,rfl,by kernel_rfl⟩
theorem NN:cx Tryz.prog 52 2 6:=cx.of Tryz.underlying52 rfl rfl bF rfl
theorem I4:bH Tryz.prog 22:=⟨_,Tryz.func22,rfl,by kernel_rfl⟩
theorem Ii:bH Tryz.prog 185:=⟨_,Tryz.func185,rfl,by kernel_rfl⟩
theorem Xt:bH Tryz.prog 132:=⟨_,Tryz.func132,rfl,by kernel_rfl⟩
theorem W7:bH Tryz.prog 176:=⟨_,Tryz.func176,rfl,by kernel_rfl⟩
theorem Xu:bH Tryz.prog 131:=⟨_,Tryz.func131,rfl,by kernel_rfl⟩
theorem Ov:bH Tryz.prog 186:=⟨_,Tryz.func186,rfl,by kernel_rfl⟩
theorem yd:bH Tryz.prog 137:=⟨_,Tryz.func137,rfl,by kernel_rfl⟩
theorem XG:bH Tryz.prog 135:=⟨_,Tryz.func135,rfl,by kernel_rfl⟩
theorem XF:bH Tryz.prog 134:=⟨_,Tryz.func134,rfl,by kernel_rfl⟩
theorem XH:bH Tryz.prog 136:=⟨_,Tryz.func136,rfl,by kernel_rfl⟩
theorem Zo:bH Tryz.prog 98:=⟨_,Tryz.func98,rfl,by kernel_rfl⟩
theorem Zq:bH Tryz.prog 97:=⟨_,Tryz.func97,rfl,by kernel_rfl⟩
theorem Zp:bH Tryz.prog 96:=⟨_,Tryz.func96,rfl,by kernel_rfl⟩
theorem PJ:bH Tryz.prog 53:=⟨_,Tryz.func53,rfl,by kernel_rfl⟩
theorem ZF:bH Tryz.prog 52:=⟨_,Tryz.func52,rfl,by kernel_rfl⟩
theorem ZJ:bH Tryz.prog 18:=⟨_,Tryz.func18,rfl,by kernel_rfl⟩
theorem ZI:bH Tryz.prog 19:=⟨_,Tryz.func19,rfl,by kernel_rfl⟩
theorem Vp:cx Tryz.prog 135 1 1:=cx.of Tryz.underlying135 rfl rfl bF rfl
theorem W8:bH Tryz.prog 254:=⟨_,Tryz.func254,rfl,by kernel_rfl⟩
theorem XI:bH Tryz.prog 248:=⟨_,Tryz.func248,rfl,by kernel_rfl⟩
theorem aaw:cF Tryz.prog 1 (default:Raw):=cF.of (by kernel_rfl)
theorem Jq:bw Tryz.prog 1 Raw:=bw.of (by rfl) Tryz.underlying1 (by kernel_rfl)
theorem OC:bH Tryz.prog 249:=⟨_,Tryz.func249,rfl,by kernel_rfl⟩
theorem XL:bH Tryz.prog 242:=⟨_,Tryz.func242,rfl,by kernel_rfl⟩
theorem X7:bH Tryz.prog 271:=⟨_,Tryz.func271,rfl,by kernel_rfl⟩
theorem XO:bH Tryz.prog 283:=⟨_,Tryz.func283,rfl,by kernel_rfl⟩
theorem XP:bH Tryz.prog 282:=⟨_,Tryz.func282,rfl,by kernel_rfl⟩
theorem XQ:bH Tryz.prog 278:=⟨_,Tryz.func278,rfl,by kernel_rfl⟩
theorem X8:bH Tryz.prog 277:=⟨_,Tryz.func277,rfl,by kernel_rfl⟩
theorem Yc:bH Tryz.prog 266:=⟨_,Tryz.func266,rfl,by kernel_rfl⟩
theorem Y4:bH Tryz.prog 228:=⟨_,Tryz.func228,rfl,by kernel_rfl⟩
theorem T3:ie Tryz.prog 166 "matchguard/index.lookup" 228:=ie.pv (by kernel_rfl) Tryz.underlying166 rfl Y4
theorem Y5:bH Tryz.prog 236:=⟨_,Tryz.func236,rfl,by kernel_rfl⟩
theorem T4:ie Tryz.prog 169 "matchguard/index.lookup" 236:=ie.pv (by kernel_rfl) Tryz.underlying169 rfl Y5
theorem Y6:bH Tryz.prog 261:=⟨_,Tryz.func261,rfl,by kernel_rfl⟩
theorem T5:ie Tryz.prog 173 "matchguard/index.lookup" 261:=ie.pv (by kernel_rfl) Tryz.underlying173 rfl Y6
theorem PK:bH Tryz.prog 20:=⟨_,Tryz.func20,rfl,by kernel_rfl⟩
theorem Ve:cx Tryz.prog 135 0 0:=cx.of Tryz.underlying135 rfl rfl bF rfl
theorem EZ:bH Tryz.prog 42:=⟨_,Tryz.func42,rfl,by kernel_rfl⟩
theorem ZN:bH Tryz.prog 23:=⟨_,Tryz.func23,rfl,by kernel_rfl⟩
inductive Cell where
 | kb (x:List (Int × aA))
 | nf (x:gA)
 | lS (x:List ((Vector ar 4) × Ref))
 | n0 (x:List ((Vector ar 4) × Int))
 | yk (x:m5)
 | q0 (x:cu) (key:Option Nat) (cap:Nat)
 | fQ (x:dx)
 | jy (x:fv)
instance:eY Cell where
 hB p k:=match k with
  | .kb x=> [⟨some p,.map x⟩]
  | .nf x=> [⟨some p,.var x⟩]
  | .lS x=> [⟨some p,.map x⟩]
  | .n0 x=> [⟨some p,.map x⟩]
  | .yk x=> [⟨some p,.var x⟩]
  | .q0 x key cap=> [⟨some p,.b4 ({ x with b1:= [] } :cu) [(10,a2 key (x.b1).length cap)]⟩,⟨key,.row 52 (x.b1:List aA) cap⟩]
  | .fQ x=> [⟨some p,.var x⟩]
  | .jy x=> [⟨some p,.var x⟩]
 root p k:=by cases k <;> exact⟨_,List.mem_cons_self ..,rfl⟩
def kW (hp:aS Cell) (p:Nat):Option (List (Int × aA)):=match pat hp p with
 | some (.kb x)=>some x
 | _=>none
theorem qQ {hp:aS Cell} {p:Nat} {x:List (Int × aA)} (h:kW hp p=some x):pat hp p=some (.kb x):=by
 unfold kW at h
 split at h
 ·rename_i ad; cases h; exact ad
 ·cases h
def hz (hp:aS Cell) (p:Nat):Option (gA):=match pat hp p with
 | some (.nf x)=>some x
 | _=>none
theorem lN {hp:aS Cell} {p:Nat} {x:gA} (h:hz hp p=some x):pat hp p=some (.nf x):=by
 unfold hz at h
 split at h
 ·rename_i ad; cases h; exact ad
 ·cases h
def jv (hp:aS Cell) (p:Nat):Option (List ((Vector ar 4) × Ref)):=match pat hp p with
 | some (.lS x)=>some x
 | _=>none
theorem mc {hp:aS Cell} {p:Nat} {x:List ((Vector ar 4) × Ref)} (h:jv hp p=some x):pat hp p=some (.lS x):=by
 unfold jv at h
 split at h
 ·rename_i ad; cases h; exact ad
 ·cases h
def lQ (hp:aS Cell) (p:Nat):Option (List ((Vector ar 4) × Int)):=match pat hp p with
 | some (.n0 x)=>some x
 | _=>none
theorem qO {hp:aS Cell} {p:Nat} {x:List ((Vector ar 4) × Int)} (h:lQ hp p=some x):pat hp p=some (.n0 x):=by
 unfold lQ at h
 split at h
 ·rename_i ad; cases h; exact ad
 ·cases h
def mI (hp:aS Cell) (p:Nat):Option (m5):=match pat hp p with
 | some (.yk x)=>some x
 | _=>none
theorem tn {hp:aS Cell} {p:Nat} {x:m5} (h:mI hp p=some x):pat hp p=some (.yk x):=by
 unfold mI at h
 split at h
 ·rename_i ad; cases h; exact ad
 ·cases h
def nV (hp:aS Cell) (p:Nat):Option (cu × Option Nat × Nat):=match pat hp p with
 | some (.q0 x key cap)=>some (x,key,cap)
 | _=>none
theorem tr {hp:aS Cell} {p:Nat} {x:cu × Option Nat × Nat} (h:nV hp p=some x):pat hp p=some (.q0 x.1 x.2.1 x.2.2):=by
 unfold nV at h
 split at h
 ·rename_i ad; cases h; exact ad
 ·cases h
def cD (hp:aS Cell) (p:Nat):Option (dx):=match pat hp p with
 | some (.fQ x)=>some x
 | _=>none
theorem iP {hp:aS Cell} {p:Nat} {x:dx} (h:cD hp p=some x):pat hp p=some (.fQ x):=by
 unfold cD at h
 split at h
 ·rename_i ad; cases h; exact ad
 ·cases h
def fB (hp:aS Cell) (p:Nat):Option (fv):=match pat hp p with
 | some (.jy x)=>some x
 | _=>none
theorem mb {hp:aS Cell} {p:Nat} {x:fv} (h:fB hp p=some x):pat hp p=some (.jy x):=by
 unfold fB at h
 split at h
 ·rename_i ad; cases h; exact ad
 ·cases h
end Go.Proofs.YtmnggbjcnoffeaaGreat
