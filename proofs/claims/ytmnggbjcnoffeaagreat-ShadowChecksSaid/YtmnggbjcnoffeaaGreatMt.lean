/-
  The types of the data, and facts on their tables. Conditions: none.
-/
import Derived.Test.YtmnggbjcnoffeaaGreatRows
import Derived.Test.YtmnggbjcnoffeaaGreatMl2
namespace Go.Proofs.YtmnggbjcnoffeaaGreat
open Go Gv
set_option linter.unusedVariables false
set_option linter.unusedSimpArgs false
set_option maxRecDepth 100000
structure bI where
 ef:List (BitVec 8)
 q6:Int
 deriving DecidableEq,Inhabited
instance:ah bI:= .str (dp (List (BitVec 8)) (hK Int)) (fun x=>(x.ef,x.q6)) 2
def BG:aI bI (List (BitVec 8)):= .str dx 0 bI.ef fun b g=> { b with ef:=g }
def xN:aI bI Int:= .str (bD h5) 1 bI.q6 fun b g=> { b with q6:=g }
instance:ba bI:=⟨ba.cells (List (BitVec 8)) ++ ba.cells Int,fun A W=>⟨by rfl,ba.ok (α:=List (BitVec 8)) A W,ba.ok (α:=Int) A W⟩⟩
theorem iy:bA Tryz.prog 5 (BitVec 8):=bA.of (by rfl) Tryz.underlying5 (by kernel_rfl)
theorem VF:cF Tryz.prog 117 (default:bI):=cF.of (by kernel_rfl)
theorem VE:ho Tryz.prog 117 #[(0,1),(1,1)]:=⟨_,Tryz.underlying117,by kernel_rfl,by kernel_rfl⟩
theorem Hp:bH Tryz.prog 15:=⟨_,Tryz.func15,rfl,by kernel_rfl⟩
structure fj where
 bU:Int
 cm:ByteArray
 e7:Int
 deriving DecidableEq,Inhabited
instance:ah fj:= .str (dp Int (dp ByteArray (hK Int))) (fun x=>(x.bU,x.cm,x.e7)) 3
def n4:aI fj Int:= .str dx 0 fj.bU fun b g=> { b with bU:=g }
def ql:aI fj ByteArray:= .str (bD dx) 1 fj.cm fun b g=> { b with cm:=g }
def ni:aI fj Int:= .str (bD (bD h5)) 2 fj.e7 fun b g=> { b with e7:=g }
instance:ba fj:=⟨ba.cells Int ++ ba.cells ByteArray ++ ba.cells Int,fun A W=>⟨by rfl,ba.ok (α:=Int) A W,ba.ok (α:=ByteArray) A W,ba.ok (α:=Int) A W⟩⟩
structure jj where
 bU:Int
 cm:ByteArray
 fg:List Int
 deriving DecidableEq,Inhabited
instance:ah jj:= .str (dp Int (dp ByteArray (hK (List Int)))) (fun x=>(x.bU,x.cm,x.fg)) 3
def BK:aI jj Int:= .str dx 0 jj.bU fun b g=> { b with bU:=g }
def EB:aI jj ByteArray:= .str (bD dx) 1 jj.cm fun b g=> { b with cm:=g }
def Eu:aI jj (List Int):= .str (bD (bD h5)) 2 jj.fg fun b g=> { b with fg:=g }
instance:ba jj:=⟨ba.cells Int ++ ba.cells ByteArray ++ ba.cells (List Int),fun A W=>⟨by rfl,ba.ok (α:=Int) A W,ba.ok (α:=ByteArray) A W,ba.ok (α:=List Int) A W⟩⟩
structure aw where
 dS:BitVec 64
 b7:BitVec 64
 deriving DecidableEq,Inhabited
instance:ah aw:= .str (dp (BitVec 64) (hK (BitVec 64))) (fun x=>(x.dS,x.b7)) 2
def h9:aI aw (BitVec 64):= .str dx 0 aw.dS fun b g=> { b with dS:=g }
def eO:aI aw (BitVec 64):= .str (bD h5) 1 aw.b7 fun b g=> { b with b7:=g }
instance:ba aw:=⟨ba.cells (BitVec 64) ++ ba.cells (BitVec 64),fun A W=>⟨by rfl,ba.ok (α:=BitVec 64) A W,ba.ok (α:=BitVec 64) A W⟩⟩
structure gm where
 bW:aw
 bR:aw
 oW:Int
 deriving DecidableEq,Inhabited
instance:ah gm:= .str (dp aw (dp aw (hK Int))) (fun x=>(x.bW,x.bR,x.oW)) 5
def Bz:aI gm aw:= .str dx 0 gm.bW fun b g=> { b with bW:=g }
def BI:aI gm aw:= .str (bD dx) 2 gm.bR fun b g=> { b with bR:=g }
def BJ:aI gm Int:= .str (bD (bD h5)) 4 gm.oW fun b g=> { b with oW:=g }
instance:ba gm:=⟨ba.cells aw ++ ba.cells aw ++ ba.cells Int,fun A W=>⟨by rfl,ba.ok (α:=aw) A W,ba.ok (α:=aw) A W,ba.ok (α:=Int) A W⟩⟩
structure dy where
 bU:Int
 hW:Int
 mM:Int
 n9:List gm
 g4:Int
 deriving DecidableEq,Inhabited
instance:ah dy:= .str (dp Int (dp Int (dp Int (dp (List gm) (hK Int))))) (fun x=>(x.bU,x.hW,x.mM,x.n9,x.g4)) 5
def BM:aI dy Int:= .str dx 0 dy.bU fun b g=> { b with bU:=g }
def Ew:aI dy Int:= .str (bD dx) 1 dy.hW fun b g=> { b with hW:=g }
def JD:aI dy Int:= .str (bD (bD dx)) 2 dy.mM fun b g=> { b with mM:=g }
def Bu:aI dy (List gm):= .str (bD (bD (bD dx))) 3 dy.n9 fun b g=> { b with n9:=g }
def Et:aI dy Int:= .str (bD (bD (bD (bD h5)))) 4 dy.g4 fun b g=> { b with g4:=g }
instance:ba dy:=⟨ba.cells Int ++ ba.cells Int ++ ba.cells Int ++ ba.cells (List gm) ++ ba.cells Int,fun A W=>⟨by rfl,ba.ok (α:=Int) A W,ba.ok (α:=Int) A W,ba.ok (α:=Int) A W,ba.ok (α:=List gm) A W,ba.ok (α:=Int) A W⟩⟩
structure ia where
 cm:ByteArray
 e7:Int
 deriving DecidableEq,Inhabited
instance:ah ia:= .str (dp ByteArray (hK Int)) (fun x=>(x.cm,x.e7)) 2
def BA:aI ia ByteArray:= .str dx 0 ia.cm fun b g=> { b with cm:=g }
def xO:aI ia Int:= .str (bD h5) 1 ia.e7 fun b g=> { b with e7:=g }
instance:ba ia:=⟨ba.cells ByteArray ++ ba.cells Int,fun A W=>⟨by rfl,ba.ok (α:=ByteArray) A W,ba.ok (α:=Int) A W⟩⟩
structure fC where
 cS:Int
 uN:Int
 bW:aw
 deriving DecidableEq,Inhabited
instance:ah fC:= .str (dp Int (dp Int (hK aw))) (fun x=>(x.cS,x.uN,x.bW)) 4
def Bp:aI fC Int:= .str dx 0 fC.cS fun b g=> { b with cS:=g }
def JI:aI fC Int:= .str (bD dx) 1 fC.uN fun b g=> { b with uN:=g }
def Qz:aI fC aw:= .str (bD (bD h5)) 2 fC.bW fun b g=> { b with bW:=g }
instance:ba fC:=⟨ba.cells Int ++ ba.cells Int ++ ba.cells aw,fun A W=>⟨by rfl,ba.ok (α:=Int) A W,ba.ok (α:=Int) A W,ba.ok (α:=aw) A W⟩⟩
structure eY where
 hY:Int
 jo:Int
 ko:fC
 deriving DecidableEq,Inhabited
instance:ah eY:= .str (dp Int (dp Int (hK fC))) (fun x=>(x.hY,x.jo,x.ko)) 6
def qn:aI eY Int:= .str dx 0 eY.hY fun b g=> { b with hY:=g }
def tp:aI eY Int:= .str (bD dx) 1 eY.jo fun b g=> { b with jo:=g }
def vv:aI eY fC:= .str (bD (bD h5)) 2 eY.ko fun b g=> { b with ko:=g }
instance:ba eY:=⟨ba.cells Int ++ ba.cells Int ++ ba.cells fC,fun A W=>⟨by rfl,ba.ok (α:=Int) A W,ba.ok (α:=Int) A W,ba.ok (α:=fC) A W⟩⟩
structure dL where
 bU:Int
 cm:ByteArray
 jS:List ia
 nr:List eY
 pE:ByteArray
 deriving DecidableEq,Inhabited
instance:ah dL:= .str (dp Int (dp ByteArray (dp (List ia) (dp (List eY) (hK ByteArray))))) (fun x=>(x.bU,x.cm,x.jS,x.nr,x.pE)) 5
def rP:aI dL Int:= .str dx 0 dL.bU fun b g=> { b with bU:=g }
def vp:aI dL ByteArray:= .str (bD dx) 1 dL.cm fun b g=> { b with cm:=g }
def Bl:aI dL (List ia):= .str (bD (bD dx)) 2 dL.jS fun b g=> { b with jS:=g }
def xG:aI dL (List eY):= .str (bD (bD (bD dx))) 3 dL.nr fun b g=> { b with nr:=g }
def Jy:aI dL ByteArray:= .str (bD (bD (bD (bD h5)))) 4 dL.pE fun b g=> { b with pE:=g }
instance:ba dL:=⟨ba.cells Int ++ ba.cells ByteArray ++ ba.cells (List ia) ++ ba.cells (List eY) ++ ba.cells ByteArray,fun A W=>⟨by rfl,ba.ok (α:=Int) A W,ba.ok (α:=ByteArray) A W,ba.ok (α:=List ia) A W,ba.ok (α:=List eY) A W,ba.ok (α:=ByteArray) A W⟩⟩
structure cJ where
 cm:ByteArray
 gn:Int
 cS:Int
 deriving DecidableEq,Inhabited
instance:ah cJ:= .str (dp ByteArray (dp Int (hK Int))) (fun x=>(x.cm,x.gn,x.cS)) 3
def qm:aI cJ ByteArray:= .str dx 0 cJ.cm fun b g=> { b with cm:=g }
def nj:aI cJ Int:= .str (bD dx) 1 cJ.gn fun b g=> { b with gn:=g }
def jR:aI cJ Int:= .str (bD (bD h5)) 2 cJ.cS fun b g=> { b with cS:=g }
instance:ba cJ:=⟨ba.cells ByteArray ++ ba.cells Int ++ ba.cells Int,fun A W=>⟨by rfl,ba.ok (α:=ByteArray) A W,ba.ok (α:=Int) A W,ba.ok (α:=Int) A W⟩⟩
structure bX where
 bU:Int
 cm:ByteArray
 bQ:List cJ
 di:List Int
 g4:Int
 ts:List aw
 iv:Int
 pE:ByteArray
 deriving DecidableEq,Inhabited
instance:ah bX:= .str (dp Int (dp ByteArray (dp (List cJ) (dp (List Int) (dp Int (dp (List aw) (dp Int (hK ByteArray)))))))) (fun x=>(x.bU,x.cm,x.bQ,x.di,x.g4,x.ts,x.iv,x.pE)) 8
def oN:aI bX Int:= .str dx 0 bX.bU fun b g=> { b with bU:=g }
def BB:aI bX ByteArray:= .str (bD dx) 1 bX.cm fun b g=> { b with cm:=g }
def iP:aI bX (List cJ):= .str (bD (bD dx)) 2 bX.bQ fun b g=> { b with bQ:=g }
def vn:aI bX (List Int):= .str (bD (bD (bD dx))) 3 bX.di fun b g=> { b with di:=g }
def Bm:aI bX Int:= .str (bD (bD (bD (bD dx)))) 4 bX.g4 fun b g=> { b with g4:=g }
def Qr:aI bX (List aw):= .str (bD (bD (bD (bD (bD dx))))) 5 bX.ts fun b g=> { b with ts:=g }
def BC:aI bX Int:= .str (bD (bD (bD (bD (bD (bD dx)))))) 6 bX.iv fun b g=> { b with iv:=g }
def Qs:aI bX ByteArray:= .str (bD (bD (bD (bD (bD (bD (bD h5))))))) 7 bX.pE fun b g=> { b with pE:=g }
instance:ba bX:=⟨ba.cells Int ++ ba.cells ByteArray ++ ba.cells (List cJ) ++ ba.cells (List Int) ++ ba.cells Int ++ ba.cells (List aw) ++ ba.cells Int ++ ba.cells ByteArray,fun A W=>⟨by rfl,ba.ok (α:=Int) A W,ba.ok (α:=ByteArray) A W,ba.ok (α:=List cJ) A W,ba.ok (α:=List Int) A W,ba.ok (α:=Int) A W,ba.ok (α:=List aw) A W,ba.ok (α:=Int) A W,ba.ok (α:=ByteArray) A W⟩⟩
structure fD where
 dJ:Int
 hW:Int
 deriving DecidableEq,Inhabited
instance:ah fD:= .str (dp Int (hK Int)) (fun x=>(x.dJ,x.hW)) 2
def xI:aI fD Int:= .str dx 0 fD.dJ fun b g=> { b with dJ:=g }
def Ey:aI fD Int:= .str (bD h5) 1 fD.hW fun b g=> { b with hW:=g }
instance:ba fD:=⟨ba.cells Int ++ ba.cells Int,fun A W=>⟨by rfl,ba.ok (α:=Int) A W,ba.ok (α:=Int) A W⟩⟩
structure dq where
 dJ:Int
 qI:Bool
 qC:Bool
 bQ:List Bool
 deriving DecidableEq,Inhabited
instance:ah dq:= .str (dp Int (dp Bool (dp Bool (hK (List Bool))))) (fun x=>(x.dJ,x.qI,x.qC,x.bQ)) 4
def Ez:aI dq Int:= .str dx 0 dq.dJ fun b g=> { b with dJ:=g }
def EE:aI dq Bool:= .str (bD dx) 1 dq.qI fun b g=> { b with qI:=g }
def EA:aI dq Bool:= .str (bD (bD dx)) 2 dq.qC fun b g=> { b with qC:=g }
def EF:aI dq (List Bool):= .str (bD (bD (bD h5))) 3 dq.bQ fun b g=> { b with bQ:=g }
instance:ba dq:=⟨ba.cells Int ++ ba.cells Bool ++ ba.cells Bool ++ ba.cells (List Bool),fun A W=>⟨by rfl,ba.ok (α:=Int) A W,ba.ok (α:=Bool) A W,ba.ok (α:=Bool) A W,ba.ok (α:=List Bool) A W⟩⟩
structure cI where
 bU:Int
 cm:ByteArray
 iQ:List dq
 di:List Int
 qB:Int
 yR:Bool
 deriving DecidableEq,Inhabited
instance:ah cI:= .str (dp Int (dp ByteArray (dp (List dq) (dp (List Int) (dp Int (hK Bool)))))) (fun x=>(x.bU,x.cm,x.iQ,x.di,x.qB,x.yR)) 6
def BQ:aI cI Int:= .str dx 0 cI.bU fun b g=> { b with bU:=g }
def EK:aI cI ByteArray:= .str (bD dx) 1 cI.cm fun b g=> { b with cm:=g }
def vq:aI cI (List dq):= .str (bD (bD dx)) 2 cI.iQ fun b g=> { b with iQ:=g }
def Ex:aI cI (List Int):= .str (bD (bD (bD dx))) 3 cI.di fun b g=> { b with di:=g }
def ED:aI cI Int:= .str (bD (bD (bD (bD dx)))) 4 cI.qB fun b g=> { b with qB:=g }
def Q0:aI cI Bool:= .str (bD (bD (bD (bD (bD h5))))) 5 cI.yR fun b g=> { b with yR:=g }
instance:ba cI:=⟨ba.cells Int ++ ba.cells ByteArray ++ ba.cells (List dq) ++ ba.cells (List Int) ++ ba.cells Int ++ ba.cells Bool,fun A W=>⟨by rfl,ba.ok (α:=Int) A W,ba.ok (α:=ByteArray) A W,ba.ok (α:=List dq) A W,ba.ok (α:=List Int) A W,ba.ok (α:=Int) A W,ba.ok (α:=Bool) A W⟩⟩
structure eZ where
 dJ:Int
 uj:Int
 lB:Int
 UX:Int
 oP:Int
 UY:Int
 deriving DecidableEq,Inhabited
instance:ah eZ:= .str (dp Int (dp Int (dp Int (dp Int (dp Int (hK Int)))))) (fun x=>(x.dJ,x.uj,x.lB,x.UX,x.oP,x.UY)) 6
def BL:aI eZ Int:= .str dx 0 eZ.dJ fun b g=> { b with dJ:=g }
def JN:aI eZ Int:= .str (bD dx) 1 eZ.uj fun b g=> { b with uj:=g }
def JG:aI eZ Int:= .str (bD (bD dx)) 2 eZ.lB fun b g=> { b with lB:=g }
def Bw:aI eZ Int:= .str (bD (bD (bD (bD dx)))) 4 eZ.oP fun b g=> { b with oP:=g }
instance:ba eZ:=⟨ba.cells Int ++ ba.cells Int ++ ba.cells Int ++ ba.cells Int ++ ba.cells Int ++ ba.cells Int,fun A W=>⟨by rfl,ba.ok (α:=Int) A W,ba.ok (α:=Int) A W,ba.ok (α:=Int) A W,ba.ok (α:=Int) A W,ba.ok (α:=Int) A W,ba.ok (α:=Int) A W⟩⟩
structure a0 where
 fg:List fj
 lA:List jj
 lW:List dy
 di:List dL
 bB:List bX
 mN:List fD
 jl:List cI
 ns:List eZ
 yy:Int
 yJ:Int
 deriving DecidableEq,Inhabited
instance:ah a0:= .str (dp (List fj) (dp (List jj) (dp (List dy) (dp (List dL) (dp (List bX) (dp (List fD) (dp (List cI) (dp (List eZ) (dp Int (hK Int)))))))))) (fun x=>(x.fg,x.lA,x.lW,x.di,x.bB,x.mN,x.jl,x.ns,x.yy,x.yJ)) 10
def tl:aI a0 (List fj):= .str dx 0 a0.fg fun b g=> { b with fg:=g }
def JA:aI a0 (List jj):= .str (bD dx) 1 a0.lA fun b g=> { b with lA:=g }
def JC:aI a0 (List dy):= .str (bD (bD dx)) 2 a0.lW fun b g=> { b with lW:=g }
def Er:aI a0 (List dL):= .str (bD (bD (bD dx))) 3 a0.di fun b g=> { b with di:=g }
def ly:aI a0 (List bX):= .str (bD (bD (bD (bD dx)))) 4 a0.bB fun b g=> { b with bB:=g }
def Ev:aI a0 (List fD):= .str (bD (bD (bD (bD (bD dx))))) 5 a0.mN fun b g=> { b with mN:=g }
def JE:aI a0 (List cI):= .str (bD (bD (bD (bD (bD (bD dx)))))) 6 a0.jl fun b g=> { b with jl:=g }
def Bv:aI a0 (List eZ):= .str (bD (bD (bD (bD (bD (bD (bD dx))))))) 7 a0.ns fun b g=> { b with ns:=g }
def Qu:aI a0 Int:= .str (bD (bD (bD (bD (bD (bD (bD (bD dx)))))))) 8 a0.yy fun b g=> { b with yy:=g }
def QA:aI a0 Int:= .str (bD (bD (bD (bD (bD (bD (bD (bD (bD h5))))))))) 9 a0.yJ fun b g=> { b with yJ:=g }
instance:ba a0:=⟨ba.cells (List fj) ++ ba.cells (List jj) ++ ba.cells (List dy) ++ ba.cells (List dL) ++ ba.cells (List bX) ++ ba.cells (List fD) ++ ba.cells (List cI) ++ ba.cells (List eZ) ++ ba.cells Int ++ ba.cells Int,fun A W=>⟨by rfl,ba.ok (α:=List fj) A W,ba.ok (α:=List jj) A W,ba.ok (α:=List dy) A W,ba.ok (α:=List dL) A W,ba.ok (α:=List bX) A W,ba.ok (α:=List fD) A W,ba.ok (α:=List cI) A W,ba.ok (α:=List eZ) A W,ba.ok (α:=Int) A W,ba.ok (α:=Int) A W⟩⟩
theorem zJ:cF Tryz.prog 33 (default:a0):=cF.of (by kernel_rfl)
theorem bM:bA Tryz.prog 3 Int:=bA.of (by rfl) Tryz.underlying3 (by kernel_rfl)
theorem yP:cl Tryz.prog 117 1 1:=cl.of Tryz.underlying117 rfl rfl bM rfl
theorem Dg:bA Tryz.prog 22 (List (BitVec 8)):=bA.of (by rfl) Tryz.underlying22 (by kernel_rfl)
theorem FD:cl Tryz.prog 117 0 0:=cl.of Tryz.underlying117 rfl rfl Dg rfl
theorem mixed:Tryz.prog.follows .mixedOrders=true:=by kernel_rfl
theorem Oo:bH Tryz.prog 26:=⟨_,Tryz.func26,rfl,by kernel_rfl⟩
theorem gD:bH Tryz.prog 32:=⟨_,Tryz.func32,rfl,by kernel_rfl⟩
theorem X2:ho Tryz.prog 33 #[(0,1),(1,1),(2,1),(3,1),(4,1),(5,1),(6,1),(7,1),(8,1),(9,1)]:=⟨_,Tryz.underlying33,by kernel_rfl,by kernel_rfl⟩
theorem eP:bA Tryz.prog 33 a0:=bA.of (by rfl) Tryz.underlying33 (by kernel_rfl)
theorem oi:cF Tryz.prog 119 (default:fj):=cF.of (by kernel_rfl)
theorem qT:ho Tryz.prog 119 #[(0,1),(1,1),(2,1)]:=⟨_,Tryz.underlying119,by kernel_rfl,by kernel_rfl⟩
theorem oj:bA Tryz.prog 119 fj:=bA.of (by rfl) Tryz.underlying119 (by kernel_rfl)
theorem sE:bA Tryz.prog 24 (List fj):=bA.of (by rfl) Tryz.underlying24 (by kernel_rfl)
theorem tU:cl Tryz.prog 33 0 0:=cl.of Tryz.underlying33 rfl rfl sE rfl
theorem h3:cF Tryz.prog 3 (default:Int):=cF.of (by kernel_rfl)
theorem zi:cF Tryz.prog 121 (default:jj):=cF.of (by kernel_rfl)
theorem GG:ho Tryz.prog 121 #[(0,1),(1,1),(2,1)]:=⟨_,Tryz.underlying121,by kernel_rfl,by kernel_rfl⟩
theorem CY:bA Tryz.prog 121 jj:=bA.of (by rfl) Tryz.underlying121 (by kernel_rfl)
theorem Hi:bA Tryz.prog 25 (List jj):=bA.of (by rfl) Tryz.underlying25 (by kernel_rfl)
theorem Mv:cl Tryz.prog 33 1 1:=cl.of Tryz.underlying33 rfl rfl Hi rfl
theorem so:cF Tryz.prog 193 (default:dy):=cF.of (by kernel_rfl)
theorem GB:ho Tryz.prog 193 #[(0,1),(1,1),(2,1),(3,1),(4,1)]:=⟨_,Tryz.underlying193,by kernel_rfl,by kernel_rfl⟩
theorem pO:bA Tryz.prog 193 dy:=bA.of (by rfl) Tryz.underlying193 (by kernel_rfl)
theorem dY:cF Tryz.prog 43 (default:aw):=cF.of (by kernel_rfl)
theorem hv:ho Tryz.prog 43 #[(0,1),(1,1)]:=⟨_,Tryz.underlying43,by kernel_rfl,by kernel_rfl⟩
theorem sq:cF Tryz.prog 195 (default:gm):=cF.of (by kernel_rfl)
theorem CT:ho Tryz.prog 195 #[(0,2),(2,2),(4,1)]:=⟨_,Tryz.underlying195,by kernel_rfl,by kernel_rfl⟩
theorem CU:bA Tryz.prog 195 gm:=bA.of (by rfl) Tryz.underlying195 (by kernel_rfl)
theorem zf:bA Tryz.prog 191 (List gm):=bA.of (by rfl) Tryz.underlying191 (by kernel_rfl)
theorem Cr:cl Tryz.prog 193 3 3:=cl.of Tryz.underlying193 rfl rfl zf rfl
theorem m2:bH Tryz.prog 55:=⟨_,Tryz.func55,rfl,by kernel_rfl⟩
theorem LR:jO Tryz.prog 193 [3]:=by unfold jO; kernel_rfl
theorem X3:bH Tryz.prog 68:=⟨_,Tryz.func68,rfl,by kernel_rfl⟩
theorem zg:cF Tryz.prog 197 (default:fC):=cF.of (by kernel_rfl)
theorem CV:ho Tryz.prog 197 #[(0,1),(1,1),(2,2)]:=⟨_,Tryz.underlying197,by kernel_rfl,by kernel_rfl⟩
theorem CW:bA Tryz.prog 197 fC:=bA.of (by rfl) Tryz.underlying197 (by kernel_rfl)
theorem o0:cF Tryz.prog 148 (default:dL):=cF.of (by kernel_rfl)
theorem uh:ho Tryz.prog 148 #[(0,1),(1,1),(2,1),(3,1),(4,1)]:=⟨_,Tryz.underlying148,by kernel_rfl,by kernel_rfl⟩
theorem mV:cF Tryz.prog 199 (default:eY):=cF.of (by kernel_rfl)
theorem qR:ho Tryz.prog 199 #[(0,1),(1,1),(2,4)]:=⟨_,Tryz.underlying199,by kernel_rfl,by kernel_rfl⟩
theorem zh:bA Tryz.prog 199 eY:=bA.of (by rfl) Tryz.underlying199 (by kernel_rfl)
theorem sr:cF Tryz.prog 151 (default:ia):=cF.of (by kernel_rfl)
theorem CX:ho Tryz.prog 151 #[(0,1),(1,1)]:=⟨_,Tryz.underlying151,by kernel_rfl,by kernel_rfl⟩
theorem wD:bA Tryz.prog 151 ia:=bA.of (by rfl) Tryz.underlying151 (by kernel_rfl)
theorem mW:bA Tryz.prog 148 dL:=bA.of (by rfl) Tryz.underlying148 (by kernel_rfl)
theorem pc:bA Tryz.prog 9 ByteArray:=bA.of (by rfl) Tryz.underlying9 (by kernel_rfl)
theorem LS:cl Tryz.prog 148 4 4:=cl.of Tryz.underlying148 rfl rfl pc rfl
theorem X4:bH Tryz.prog 69:=⟨_,Tryz.func69,rfl,by kernel_rfl⟩
theorem iU:cF Tryz.prog 86 (default:cJ):=cF.of (by kernel_rfl)
theorem q2:ho Tryz.prog 86 #[(0,1),(1,1),(2,1)]:=⟨_,Tryz.underlying86,by kernel_rfl,by kernel_rfl⟩
theorem hP:bA Tryz.prog 86 cJ:=bA.of (by rfl) Tryz.underlying86 (by kernel_rfl)
theorem l3:cF Tryz.prog 65 (default:bX):=cF.of (by kernel_rfl)
theorem zF:ho Tryz.prog 65 #[(0,1),(1,1),(2,1),(3,1),(4,1),(5,1),(6,1),(7,1)]:=⟨_,Tryz.underlying65,by kernel_rfl,by kernel_rfl⟩
theorem fO:bA Tryz.prog 65 bX:=bA.of (by rfl) Tryz.underlying65 (by kernel_rfl)
theorem jW:bA Tryz.prog 62 (List cJ):=bA.of (by rfl) Tryz.underlying62 (by kernel_rfl)
theorem kl:cl Tryz.prog 65 2 2:=cl.of Tryz.underlying65 rfl rfl jW rfl
theorem F8:jO Tryz.prog 65 [2]:=by unfold jO; kernel_rfl
theorem F7:jO Tryz.prog 65 []:=by unfold jO; kernel_rfl
theorem bT:bA Tryz.prog 43 aw:=bA.of (by rfl) Tryz.underlying43 (by kernel_rfl)
theorem DE:cF Tryz.prog 9 (default:ByteArray):=cF.of (by kernel_rfl)
theorem GC:bA Tryz.prog 200 (List ByteArray):=bA.of (by rfl) Tryz.underlying200 (by kernel_rfl)
theorem VJ:cF Tryz.prog 200 (default:List ByteArray):=cF.of (by kernel_rfl)
theorem U0:cl Tryz.prog 65 7 7:=cl.of Tryz.underlying65 rfl rfl pc rfl
theorem X5:bH Tryz.prog 70:=⟨_,Tryz.func70,rfl,by kernel_rfl⟩
theorem Hj:bA Tryz.prog 26 (List dy):=bA.of (by rfl) Tryz.underlying26 (by kernel_rfl)
theorem Mw:cl Tryz.prog 33 2 2:=cl.of Tryz.underlying33 rfl rfl Hj rfl
theorem Dh:bA Tryz.prog 27 (List dL):=bA.of (by rfl) Tryz.underlying27 (by kernel_rfl)
theorem F9:cl Tryz.prog 33 3 3:=cl.of Tryz.underlying33 rfl rfl Dh rfl
theorem k2:bA Tryz.prog 28 (List bX):=bA.of (by rfl) Tryz.underlying28 (by kernel_rfl)
theorem lE:cl Tryz.prog 33 4 4:=cl.of Tryz.underlying33 rfl rfl k2 rfl
theorem ss:cF Tryz.prog 204 (default:cI):=cF.of (by kernel_rfl)
theorem GD:ho Tryz.prog 204 #[(0,1),(1,1),(2,1),(3,1),(4,1),(5,1)]:=⟨_,Tryz.underlying204,by kernel_rfl,by kernel_rfl⟩
theorem pP:bA Tryz.prog 204 cI:=bA.of (by rfl) Tryz.underlying204 (by kernel_rfl)
theorem hR:bA Tryz.prog 4 Bool:=bA.of (by rfl) Tryz.underlying4 (by kernel_rfl)
theorem O5:cF Tryz.prog 4 (default:Bool):=cF.of (by kernel_rfl)
theorem ui:bA Tryz.prog 202 (List dq):=bA.of (by rfl) Tryz.underlying202 (by kernel_rfl)
theorem wb:cl Tryz.prog 204 2 2:=cl.of Tryz.underlying204 rfl rfl ui rfl
theorem tQ:cl Tryz.prog 65 0 0:=cl.of Tryz.underlying65 rfl rfl bM rfl
theorem qS:cF Tryz.prog 207 (default:dq):=cF.of (by kernel_rfl)
theorem GF:ho Tryz.prog 207 #[(0,1),(1,1),(2,1),(3,1)]:=⟨_,Tryz.underlying207,by kernel_rfl,by kernel_rfl⟩
theorem wE:bA Tryz.prog 207 dq:=bA.of (by rfl) Tryz.underlying207 (by kernel_rfl)
theorem wa:jO Tryz.prog 204 [2]:=by unfold jO; kernel_rfl
theorem X6:bH Tryz.prog 71:=⟨_,Tryz.func71,rfl,by kernel_rfl⟩
theorem Hk:bA Tryz.prog 30 (List cI):=bA.of (by rfl) Tryz.underlying30 (by kernel_rfl)
theorem Mx:cl Tryz.prog 33 6 6:=cl.of Tryz.underlying33 rfl rfl Hk rfl
theorem su:cF Tryz.prog 127 (default:fD):=cF.of (by kernel_rfl)
theorem zj:ho Tryz.prog 127 #[(0,1),(1,1)]:=⟨_,Tryz.underlying127,by kernel_rfl,by kernel_rfl⟩
theorem GH:bA Tryz.prog 127 fD:=bA.of (by rfl) Tryz.underlying127 (by kernel_rfl)
theorem Di:bA Tryz.prog 29 (List fD):=bA.of (by rfl) Tryz.underlying29 (by kernel_rfl)
theorem Ga:cl Tryz.prog 33 5 5:=cl.of Tryz.underlying33 rfl rfl Di rfl
theorem uB:bA Tryz.prog 31 (List eZ):=bA.of (by rfl) Tryz.underlying31 (by kernel_rfl)
theorem wj:cl Tryz.prog 33 7 7:=cl.of Tryz.underlying33 rfl rfl uB rfl
theorem pQ:cF Tryz.prog 129 (default:eZ):=cF.of (by kernel_rfl)
theorem CZ:ho Tryz.prog 129 #[(0,1),(1,1),(2,1),(3,1),(4,1),(5,1)]:=⟨_,Tryz.underlying129,by kernel_rfl,by kernel_rfl⟩
theorem wF:bA Tryz.prog 129 eZ:=bA.of (by rfl) Tryz.underlying129 (by kernel_rfl)
theorem Lj:jO Tryz.prog 33 [5,7]:=by unfold jO; kernel_rfl
theorem OH:bH Tryz.prog 16:=⟨_,Tryz.func16,rfl,by kernel_rfl⟩
structure cA where
 hV:Bool
 bW:aw
 bR:aw
 gV:Int
 oX:aw
 deriving DecidableEq,Inhabited
instance:ah cA:= .str (dp Bool (dp aw (dp aw (dp Int (hK aw))))) (fun x=>(x.hV,x.bW,x.bR,x.gV,x.oX)) 8
def rN:aI cA Bool:= .str dx 0 cA.hV fun b g=> { b with hV:=g }
def qk:aI cA aw:= .str (bD dx) 1 cA.bW fun b g=> { b with bW:=g }
def xT:aI cA aw:= .str (bD (bD dx)) 3 cA.bR fun b g=> { b with bR:=g }
def rO:aI cA Int:= .str (bD (bD (bD dx))) 5 cA.gV fun b g=> { b with gV:=g }
def EJ:aI cA aw:= .str (bD (bD (bD (bD h5)))) 6 cA.oX fun b g=> { b with oX:=g }
instance:ba cA:=⟨ba.cells Bool ++ ba.cells aw ++ ba.cells aw ++ ba.cells Int ++ ba.cells aw,fun A W=>⟨by rfl,ba.ok (α:=Bool) A W,ba.ok (α:=aw) A W,ba.ok (α:=aw) A W,ba.ok (α:=Int) A W,ba.ok (α:=aw) A W⟩⟩
structure bL where
 dJ:Int
 cu:List cA
 g9:Int
 lB:Int
 mn:List aw
 deriving DecidableEq,Inhabited
instance:ah bL:= .str (dp Int (dp (List cA) (dp Int (dp Int (hK (List aw)))))) (fun x=>(x.dJ,x.cu,x.g9,x.lB,x.mn)) 5
def pC:aI bL Int:= .str dx 0 bL.dJ fun b g=> { b with dJ:=g }
def kh:aI bL (List cA):= .str (bD dx) 1 bL.cu fun b g=> { b with cu:=g }
def oM:aI bL Int:= .str (bD (bD dx)) 2 bL.g9 fun b g=> { b with g9:=g }
def Bs:aI bL Int:= .str (bD (bD (bD dx))) 3 bL.lB fun b g=> { b with lB:=g }
def BD:aI bL (List aw):= .str (bD (bD (bD (bD h5)))) 4 bL.mn fun b g=> { b with mn:=g }
instance:ba bL:=⟨ba.cells Int ++ ba.cells (List cA) ++ ba.cells Int ++ ba.cells Int ++ ba.cells (List aw),fun A W=>⟨by rfl,ba.ok (α:=Int) A W,ba.ok (α:=List cA) A W,ba.ok (α:=Int) A W,ba.ok (α:=Int) A W,ba.ok (α:=List aw) A W⟩⟩
structure aU where
 cr:bL
 cg:Int
 UZ:Int
 deriving DecidableEq,Inhabited
instance:ah aU:= .str (dp bL (dp Int (hK Int))) (fun x=>(x.cr,x.cg,x.UZ)) 7
def iO:aI aU bL:= .str dx 0 aU.cr fun b g=> { b with cr:=g }
def ji:aI aU Int:= .str (bD dx) 5 aU.cg fun b g=> { b with cg:=g }
instance:ba aU:=⟨ba.cells bL ++ ba.cells Int ++ ba.cells Int,fun A W=>⟨by rfl,ba.ok (α:=bL) A W,ba.ok (α:=Int) A W,ba.ok (α:=Int) A W⟩⟩
theorem VQ:bH Tryz.prog 119:=⟨_,Tryz.func119,rfl,by kernel_rfl⟩
theorem VR:bH Tryz.prog 118:=⟨_,Tryz.func118,rfl,by kernel_rfl⟩
theorem Dj:bH Tryz.prog 82:=⟨_,Tryz.func82,rfl,by kernel_rfl⟩
theorem od:cl Tryz.prog 86 2 2:=cl.of Tryz.underlying86 rfl rfl bM rfl
theorem Yr:bH Tryz.prog 83:=⟨_,Tryz.func83,rfl,by kernel_rfl⟩
structure kX where
 rl:Ref
 deriving DecidableEq,Inhabited
instance:ah kX:= .str (hK Ref) (fun x=>x.rl) 1
def EG:aI kX Ref:= .str h5 0 kX.rl fun b g=> { b with rl:=g }
instance:ba kX:=⟨ba.cells Ref,fun A W=>⟨by rfl,ba.ok (α:=Ref) A W⟩⟩
structure hr where
 qX:Int
 fU:Int
 ob:gp
 deriving DecidableEq,Inhabited
instance:ah hr:= .str (dp Int (dp Int (hK gp))) (fun x=>(x.qX,x.fU,x.ob)) 3
def xy:aI hr Int:= .str dx 0 hr.qX fun b g=> { b with qX:=g }
def Eo:aI hr Int:= .str (bD dx) 1 hr.fU fun b g=> { b with fU:=g }
def vl:aI hr gp:= .str (bD (bD h5)) 2 hr.ob fun b g=> { b with ob:=g }
instance:ba hr:=⟨ba.cells Int ++ ba.cells Int ++ ba.cells gp,fun A W=>⟨by rfl,ba.ok (α:=Int) A W,ba.ok (α:=Int) A W,ba.ok (α:=gp) A W⟩⟩
structure ki where
 ef:Ref
 deriving DecidableEq,Inhabited
instance:ah ki:= .str (hK Ref) (fun x=>x.ef) 1
def EH:aI ki Ref:= .str h5 0 ki.ef fun b g=> { b with ef:=g }
instance:ba ki:=⟨ba.cells Ref,fun A W=>⟨by rfl,ba.ok (α:=Ref) A W⟩⟩
inductive g3 where
 | nil
 | nB (x:kX)
 | nC (x:hr)
 | nD (x:ki)
 deriving DecidableEq,Inhabited
instance:ah g3 where
 size:=1
 agg:=false
 rep A W cs x:=match x with
  | .nil=>cs= [.nilIface]
  | .nB x=> ∃ v,cs= [.iface 166 v]∧ (I.of x).holds A W v
  | .nC x=> ∃ v,cs= [.iface 169 v]∧ (I.of x).holds A W v
  | .nD x=> ∃ v,cs= [.iface 173 v]∧ (I.of x).holds A W v
 len {A W cs x} h:=by cases x <;> first | (have h:cs=_:=h; rw [h]; rfl) | (obtain⟨v,h,_⟩:=h; rw [h]; rfl)
 one {A W cs x} h:=by
  intro u hu
  cases x <;> first | (have h:cs=_:=h; rw [h] at hu; rw [List.mem_singleton.1 hu]; rfl) | (obtain⟨v,h,_⟩:=h; rw [h] at hu; rw [List.mem_singleton.1 hu]; rfl)
 flat _:=rfl
 mono {A W c0 W' cs x} e h:=by cases x <;> first | exact h | (obtain⟨v,h,ab⟩:=h; exact⟨v,h,I.mono _ e ab⟩)
instance:ba g3:=⟨[.nilIface],fun _ _=>rfl⟩
theorem S5 {A W v} {x:kX} (h:(I.of x).holds A W v):(I.of (g3.nB x)).holds A W (.iface 166 v):=⟨rfl,v,rfl,h⟩
theorem KX {A W u} {x:kX} (h:(I.of (g3.nB x)).holds A W u):∃ v,u= .iface 166 v∧ (I.of x).holds A W v:=by
 obtain⟨J,v,ab,aE⟩:=h
 exact⟨v,n5 J ab,aE⟩
theorem S6 {A W v} {x:hr} (h:(I.of x).holds A W v):(I.of (g3.nC x)).holds A W (.iface 169 v):=⟨rfl,v,rfl,h⟩
theorem KY {A W u} {x:hr} (h:(I.of (g3.nC x)).holds A W u):∃ v,u= .iface 169 v∧ (I.of x).holds A W v:=by
 obtain⟨J,v,ab,aE⟩:=h
 exact⟨v,n5 J ab,aE⟩
theorem S7 {A W v} {x:ki} (h:(I.of x).holds A W v):(I.of (g3.nD x)).holds A W (.iface 173 v):=⟨rfl,v,rfl,h⟩
theorem KZ {A W u} {x:ki} (h:(I.of (g3.nD x)).holds A W u):∃ v,u= .iface 173 v∧ (I.of x).holds A W v:=by
 obtain⟨J,v,ab,aE⟩:=h
 exact⟨v,n5 J ab,aE⟩
structure hE where
 qM:Int
 qN:Int
 kj:g3
 mL:gp
 deriving DecidableEq,Inhabited
instance:ah hE:= .str (dp Int (dp Int (dp g3 (hK gp)))) (fun x=>(x.qM,x.qN,x.kj,x.mL)) 4
def QM:aI hE Int:= .str dx 0 hE.qM fun b g=> { b with qM:=g }
def QN:aI hE Int:= .str (bD dx) 1 hE.qN fun b g=> { b with qN:=g }
def xz:aI hE g3:= .str (bD (bD dx)) 2 hE.kj fun b g=> { b with kj:=g }
def Ep:aI hE gp:= .str (bD (bD (bD h5))) 3 hE.mL fun b g=> { b with mL:=g }
instance:ba hE:=⟨ba.cells Int ++ ba.cells Int ++ ba.cells g3 ++ ba.cells gp,fun A W=>⟨by rfl,ba.ok (α:=Int) A W,ba.ok (α:=Int) A W,ba.ok (α:=g3) A W,ba.ok (α:=gp) A W⟩⟩
theorem WX:cF Tryz.prog 135 (default:hE):=cF.of (by kernel_rfl)
theorem WW:ho Tryz.prog 135 #[(0,1),(1,1),(2,1),(3,1)]:=⟨_,Tryz.underlying135,by kernel_rfl,by kernel_rfl⟩
structure mK where
 oY:gp
 deriving DecidableEq,Inhabited
instance:ah mK:= .str (hK gp) (fun x=>x.oY) 1
def Bt:aI mK gp:= .str h5 0 mK.oY fun b g=> { b with oY:=g }
instance:ba mK:=⟨ba.cells gp,fun A W=>⟨by rfl,ba.ok (α:=gp) A W⟩⟩
theorem VH:cF Tryz.prog 224 (default:mK):=cF.of (by kernel_rfl)
theorem VG:ho Tryz.prog 224 #[(0,1)]:=⟨_,Tryz.underlying224,by kernel_rfl,by kernel_rfl⟩
theorem Ys:bH Tryz.prog 84:=⟨_,Tryz.func84,rfl,by kernel_rfl⟩
theorem WZ:cF Tryz.prog 166 (default:kX):=cF.of (by kernel_rfl)
theorem WY:ho Tryz.prog 166 #[(0,1)]:=⟨_,Tryz.underlying166,by kernel_rfl,by kernel_rfl⟩
theorem wL:bA Tryz.prog 132 g3:=bA.of (by rfl) Tryz.underlying132 (by kernel_rfl)
theorem yU:cl Tryz.prog 135 2 2:=cl.of Tryz.underlying135 rfl rfl wL rfl
theorem FE:cl Tryz.prog 119 0 0:=cl.of Tryz.underlying119 rfl rfl bM rfl
theorem VS:bH Tryz.prog 121:=⟨_,Tryz.func121,rfl,by kernel_rfl⟩
theorem VT:bH Tryz.prog 120:=⟨_,Tryz.func120,rfl,by kernel_rfl⟩
theorem CG:cl Tryz.prog 86 1 1:=cl.of Tryz.underlying86 rfl rfl bM rfl
theorem Oy:bH Tryz.prog 85:=⟨_,Tryz.func85,rfl,by kernel_rfl⟩
theorem Cs:cl Tryz.prog 119 2 2:=cl.of Tryz.underlying119 rfl rfl bM rfl
theorem W1:cF Tryz.prog 169 (default:hr):=cF.of (by kernel_rfl)
theorem W0:ho Tryz.prog 169 #[(0,1),(1,1),(2,1)]:=⟨_,Tryz.underlying169,by kernel_rfl,by kernel_rfl⟩
structure dM where
 oR:a0
 ef:List aU
 deriving DecidableEq,Inhabited
instance:ah dM:= .str (dp a0 (hK (List aU))) (fun x=>(x.oR,x.ef)) 11
def En:aI dM a0:= .str dx 0 dM.oR fun b g=> { b with oR:=g }
def xR:aI dM (List aU):= .str (bD h5) 10 dM.ef fun b g=> { b with ef:=g }
instance:ba dM:=⟨ba.cells a0 ++ ba.cells (List aU),fun A W=>⟨by rfl,ba.ok (α:=a0) A W,ba.ok (α:=List aU) A W⟩⟩
theorem VN:cF Tryz.prog 228 (default:dM):=cF.of (by kernel_rfl)
theorem VM:ho Tryz.prog 228 #[(0,10),(10,1)]:=⟨_,Tryz.underlying228,by kernel_rfl,by kernel_rfl⟩
theorem Yt:bH Tryz.prog 86:=⟨_,Tryz.func86,rfl,by kernel_rfl⟩
theorem Tz:jO Tryz.prog 228 [10]:=by unfold jO; kernel_rfl
theorem W5:cF Tryz.prog 173 (default:ki):=cF.of (by kernel_rfl)
theorem W4:ho Tryz.prog 173 #[(0,1)]:=⟨_,Tryz.underlying173,by kernel_rfl,by kernel_rfl⟩
theorem OI:bH Tryz.prog 25:=⟨_,Tryz.func25,rfl,by kernel_rfl⟩
theorem Yw:bH Tryz.prog 39:=⟨_,Tryz.func39,rfl,by kernel_rfl⟩
theorem wR:cF Tryz.prog 50 (default:bL):=cF.of (by kernel_rfl)
theorem Hq:ho Tryz.prog 50 #[(0,1),(1,1),(2,1),(3,1),(4,1)]:=⟨_,Tryz.underlying50,by kernel_rfl,by kernel_rfl⟩
theorem ig:bA Tryz.prog 50 bL:=bA.of (by rfl) Tryz.underlying50 (by kernel_rfl)
theorem l4:cF Tryz.prog 88 (default:cA):=cF.of (by kernel_rfl)
theorem W6:bH Tryz.prog 108:=⟨_,Tryz.func108,rfl,by kernel_rfl⟩
theorem fx:bA Tryz.prog 41 (BitVec 64):=bA.of (by rfl) Tryz.underlying41 (by kernel_rfl)
theorem mm:cl Tryz.prog 43 0 0:=cl.of Tryz.underlying43 rfl rfl fx rfl
theorem jD:cl Tryz.prog 43 1 1:=cl.of Tryz.underlying43 rfl rfl fx rfl
theorem Ht:bH Tryz.prog 46:=⟨_,Tryz.func46,rfl,by kernel_rfl⟩
theorem W7:bH Tryz.prog 109:=⟨_,Tryz.func109,rfl,by kernel_rfl⟩
theorem My:I9 Tryz.prog 43 1 41 1:=⟨_,_,Tryz.underlying43,rfl,rfl,rfl⟩
theorem uD:ho Tryz.prog 88 #[(0,1),(1,2),(3,2),(5,1),(6,2)]:=⟨_,Tryz.underlying88,by kernel_rfl,by kernel_rfl⟩
theorem gF:bA Tryz.prog 88 cA:=bA.of (by rfl) Tryz.underlying88 (by kernel_rfl)
theorem kI:bA Tryz.prog 47 (List cA):=bA.of (by rfl) Tryz.underlying47 (by kernel_rfl)
theorem kY:cl Tryz.prog 50 1 1:=cl.of Tryz.underlying50 rfl rfl kI rfl
theorem Yu:bH Tryz.prog 75:=⟨_,Tryz.func75,rfl,by kernel_rfl⟩
theorem qJ:cl Tryz.prog 50 2 2:=cl.of Tryz.underlying50 rfl rfl bM rfl
theorem k4:bA Tryz.prog 63 (List Int):=bA.of (by rfl) Tryz.underlying63 (by kernel_rfl)
theorem MP:cl Tryz.prog 65 3 3:=cl.of Tryz.underlying65 rfl rfl k4 rfl
theorem MQ:cl Tryz.prog 50 3 3:=cl.of Tryz.underlying50 rfl rfl bM rfl
theorem LU:cl Tryz.prog 148 0 0:=cl.of Tryz.underlying148 rfl rfl bM rfl
theorem Yv:bH Tryz.prog 76:=⟨_,Tryz.func76,rfl,by kernel_rfl⟩
theorem Um:I9 Tryz.prog 148 2 145 2:=⟨_,_,Tryz.underlying148,rfl,rfl,rfl⟩
theorem W8:bA Tryz.prog 145 (List ia):=bA.of (by rfl) Tryz.underlying145 (by kernel_rfl)
theorem zL:bA Tryz.prog 48 (List aw):=bA.of (by rfl) Tryz.underlying48 (by kernel_rfl)
theorem CF:cl Tryz.prog 50 4 4:=cl.of Tryz.underlying50 rfl rfl zL rfl
theorem Un:cl Tryz.prog 151 1 1:=cl.of Tryz.underlying151 rfl rfl bM rfl
theorem Lm:jO Tryz.prog 50 [1,4]:=by unfold jO; kernel_rfl
theorem Yx:bH Tryz.prog 27:=⟨_,Tryz.func27,rfl,by kernel_rfl⟩
theorem iI:cF Tryz.prog 52 (default:aU):=cF.of (by kernel_rfl)
theorem Hr:ho Tryz.prog 52 #[(0,5),(5,1),(6,1)]:=⟨_,Tryz.underlying52,by kernel_rfl,by kernel_rfl⟩
theorem c9:bA Tryz.prog 52 aU:=bA.of (by rfl) Tryz.underlying52 (by kernel_rfl)
theorem G3:bA Tryz.prog 133 gp:=bA.of (by rfl) Tryz.underlying133 (by kernel_rfl)
theorem L4:cl Tryz.prog 135 3 3:=cl.of Tryz.underlying135 rfl rfl G3 rfl
theorem km:cl Tryz.prog 52 1 5:=cl.of Tryz.underlying52 rfl rfl bM rfl
theorem Pa:oK Tryz.prog 3 Int:=Vp Tryz.underlying3
theorem jT:cl Tryz.prog 52 0 0:=cl.of Tryz.underlying52 rfl rfl ig rfl
theorem iV:cF Tryz.prog 45 (default:Vector aw 4):=cF.of (by kernel_rfl)
theorem Gb:cl Tryz.prog 88 1 1:=cl.of Tryz.underlying88 rfl rfl bT rfl
theorem gq:mG Tryz.prog 45 4 2:=mG.of Tryz.underlying45 bT rfl
theorem dR:bA Tryz.prog 45 (Vector aw 4):=bA.of (by rfl) Tryz.underlying45 (by kernel_rfl)
theorem C0:bA Tryz.prog 222 gp:=bA.of (by rfl) Tryz.underlying222 (by kernel_rfl)
theorem FG:cl Tryz.prog 224 0 0:=cl.of Tryz.underlying224 rfl rfl C0 rfl
instance aaY:kC aw where
 uniq {A W cs c0 W' dK x} h cR:=by
  refine UB h.1 cR.1 ?_
  refine Lv 0 (ah.size (BitVec 64)) (kC.uniq (h.2.1) (cR.2.1)) ?_
  refine Lv 1 (ah.size (BitVec 64)) (kC.uniq (h.2.2) (cR.2.2)) ?_
  exact UC h.1 cR.1 (by decide)
 plain {A W cs x} h:=by
  intro u hu n
  have bP:=Cy (o:=0) (s:=ah.size (BitVec 64)) (by simpa using hu)
  rcases bP with J | bP
  ·exact kC.plain (h.2.1) u J n
  have bP:=Cy (s:=ah.size (BitVec 64)) bP
  rcases bP with J | bP
  ·exact kC.plain (h.2.2) u J n
  exact L7 h.1 (by rfl) bP
theorem On:j7 Tryz.prog 41 (BitVec 64) 1:=Uv (K:= .u64) Tryz.underlying41
theorem uk:j7 Tryz.prog 43 aw 2:=B9 (k:=1) rfl Tryz.underlying43 (by kernel_rfl) fun d hd A W xs ys x y an a4=>by
 refine Eq.trans (n7 h9 fx rfl (by rfl) On (by omega) an a4 (n7 eO fx rfl (by rfl) On (by omega) an a4 (Cx))) ?_
 congr 1
 rw [Bool.eq_iff_iff]
 simp only [Bool.and_eq_true,decide_eq_true_eq,and_true]
 cases x; cases y
 simp [aI.str,h9,eO]
theorem VC:j7 Tryz.prog 319 (Vector aw 4) 3:=FR Tryz.underlying319 bT uk
theorem O1:qi Tryz.prog 41 (BitVec 64) 1:=Lb Tryz.underlying41 rfl
theorem O2:qi Tryz.prog 43 aw 2:=Tf (k:=1) rfl Tryz.underlying43 (.cons h9 rfl fx (fun b d A W u x h an=>O1 b d A W u x (by omega) an) (.cons eO rfl fx (fun b d A W u x h an=>O1 b d A W u x (by omega) an) (.nil)))
theorem XQ:qi Tryz.prog 319 (Vector aw 4) 3:=MY Tryz.underlying319 bT O2
theorem GK:oK Tryz.prog 319 (Vector aw 4):=MZ Tryz.underlying319 rfl XQ VC rfl rfl
theorem GM:bA Tryz.prog 163 Ref:=bA.of (by rfl) Tryz.underlying163 (by kernel_rfl)
theorem LW:cl Tryz.prog 166 0 0:=cl.of Tryz.underlying166 rfl rfl GM rfl
theorem GN:bH Tryz.prog 232:=⟨_,Tryz.func232,rfl,by kernel_rfl⟩
theorem VU:bH Tryz.prog 231:=⟨_,Tryz.func231,rfl,by kernel_rfl⟩
theorem GO:bA Tryz.prog 169 hr:=bA.of (by rfl) Tryz.underlying169 (by kernel_rfl)
theorem zm:cF Tryz.prog 320 (default:Vector aw 4):=cF.of (by kernel_rfl)
theorem Ct:cl Tryz.prog 169 0 0:=cl.of Tryz.underlying169 rfl rfl bM rfl
theorem l0:bA Tryz.prog 320 (Vector aw 4):=bA.of (by rfl) Tryz.underlying320 (by kernel_rfl)
theorem VV:bH Tryz.prog 241:=⟨_,Tryz.func241,rfl,by kernel_rfl⟩
theorem y4:cl Tryz.prog 88 3 5:=cl.of Tryz.underlying88 rfl rfl bM rfl
theorem NM:bH Tryz.prog 239:=⟨_,Tryz.func239,rfl,by kernel_rfl⟩
theorem GV:cF Tryz.prog 331 (default:Ref):=cF.of (by kernel_rfl)
theorem Nk:bH Tryz.prog 205:=⟨_,Tryz.func205,rfl,by kernel_rfl⟩
theorem Nl:bH Tryz.prog 204:=⟨_,Tryz.func204,rfl,by kernel_rfl⟩
theorem C4:bH Tryz.prog 188:=⟨_,Tryz.func188,rfl,by kernel_rfl⟩
theorem C2:bH Tryz.prog 193:=⟨_,Tryz.func193,rfl,by kernel_rfl⟩
theorem Cu:cl Tryz.prog 337 0 0:=cl.of Tryz.underlying337 rfl rfl bM rfl
structure gA where
 fU:Int
 dr:Ref
 deriving DecidableEq,Inhabited
instance:ah gA:= .str (dp Int (hK Ref)) (fun x=>(x.fU,x.dr)) 2
def xQ:aI gA Int:= .str dx 0 gA.fU fun b g=> { b with fU:=g }
def BF:aI gA Ref:= .str (bD h5) 1 gA.dr fun b g=> { b with dr:=g }
instance:ba gA:=⟨ba.cells Int ++ ba.cells Ref,fun A W=>⟨by rfl,ba.ok (α:=Int) A W,ba.ok (α:=Ref) A W⟩⟩
theorem NB:bH Tryz.prog 189:=⟨_,Tryz.func189,rfl,by kernel_rfl⟩
theorem qV:bH Tryz.prog 148:=⟨_,Tryz.func148,rfl,by kernel_rfl⟩
theorem Wc:Tryz.prog.eqGuardType Tryz.prog.depth 43=false:=by kernel_rfl
theorem NF:bH Tryz.prog 251:=⟨_,Tryz.func251,rfl,by kernel_rfl⟩
theorem fX:bA Tryz.prog 331 Ref:=bA.of (by rfl) Tryz.underlying331 (by kernel_rfl)
theorem Cv:cl Tryz.prog 337 1 1:=cl.of Tryz.underlying337 rfl rfl fX rfl
theorem NG:bH Tryz.prog 250:=⟨_,Tryz.func250,rfl,by kernel_rfl⟩
theorem Nz:bA Tryz.prog 321 Ref:=bA.of (by rfl) Tryz.underlying321 (by kernel_rfl)
theorem C5:bH Tryz.prog 196:=⟨_,Tryz.func196,rfl,by kernel_rfl⟩
theorem XR:bA Tryz.prog 333 (Vector Ref 2):=bA.of (by rfl) Tryz.underlying333 (by kernel_rfl)
theorem Cw:cl Tryz.prog 335 0 0:=cl.of Tryz.underlying335 rfl rfl XR rfl
theorem C8:mG Tryz.prog 333 2 1:=mG.of Tryz.underlying333 fX rfl
structure eX where
 fu:Vector Ref 2
 fv:Bool
 nA:Int
 deriving DecidableEq,Inhabited
instance:ah eX:= .str (dp (Vector Ref 2) (dp Bool (hK Int))) (fun x=>(x.fu,x.fv,x.nA)) 4
def Bk:aI eX (Vector Ref 2):= .str dx 0 eX.fu fun b g=> { b with fu:=g }
def vt:aI eX Bool:= .str (bD dx) 2 eX.fv fun b g=> { b with fv:=g }
def JK:aI eX Int:= .str (bD (bD h5)) 3 eX.nA fun b g=> { b with nA:=g }
instance:ba eX:=⟨ba.cells (Vector Ref 2) ++ ba.cells Bool ++ ba.cells Int,fun A W=>⟨by rfl,ba.ok (α:=Vector Ref 2) A W,ba.ok (α:=Bool) A W,ba.ok (α:=Int) A W⟩⟩
theorem NH:bH Tryz.prog 255:=⟨_,Tryz.func255,rfl,by kernel_rfl⟩
theorem NJ:bH Tryz.prog 247:=⟨_,Tryz.func247,rfl,by kernel_rfl⟩
theorem we:cl Tryz.prog 335 1 2:=cl.of Tryz.underlying335 rfl rfl hR rfl
theorem LY:cl Tryz.prog 335 2 3:=cl.of Tryz.underlying335 rfl rfl bM rfl
theorem wJ:bA Tryz.prog 167 gp:=bA.of (by rfl) Tryz.underlying167 (by kernel_rfl)
theorem yT:cl Tryz.prog 169 2 2:=cl.of Tryz.underlying169 rfl rfl wJ rfl
theorem VD:j7 Tryz.prog 320 (Vector aw 4) 3:=FR Tryz.underlying320 bT uk
theorem XS:qi Tryz.prog 320 (Vector aw 4) 3:=MY Tryz.underlying320 bT O2
theorem C9:oK Tryz.prog 320 (Vector aw 4):=MZ Tryz.underlying320 rfl XS VD rfl rfl
theorem GY:cF Tryz.prog 321 (default:Ref):=cF.of (by kernel_rfl)
theorem Wy:bH Tryz.prog 240:=⟨_,Tryz.func240,rfl,by kernel_rfl⟩
theorem GW:bA Tryz.prog 170 Ref:=bA.of (by rfl) Tryz.underlying170 (by kernel_rfl)
theorem LZ:cl Tryz.prog 173 0 0:=cl.of Tryz.underlying173 rfl rfl GW rfl
theorem uC:bA Tryz.prog 38 (List aU):=bA.of (by rfl) Tryz.underlying38 (by kernel_rfl)
theorem yS:cl Tryz.prog 228 1 10:=cl.of Tryz.underlying228 rfl rfl uC rfl
theorem VW:bH Tryz.prog 161:=⟨_,Tryz.func161,rfl,by kernel_rfl⟩
theorem VX:bH Tryz.prog 162:=⟨_,Tryz.func162,rfl,by kernel_rfl⟩
theorem Wb:bH Tryz.prog 122:=⟨_,Tryz.func122,rfl,by kernel_rfl⟩
theorem Hl:bH Tryz.prog 87:=⟨_,Tryz.func87,rfl,by kernel_rfl⟩
theorem Wp:bH Tryz.prog 269:=⟨_,Tryz.func269,rfl,by kernel_rfl⟩
theorem Ws:bH Tryz.prog 264:=⟨_,Tryz.func264,rfl,by kernel_rfl⟩
theorem tW:cl Tryz.prog 50 0 0:=cl.of Tryz.underlying50 rfl rfl bM rfl
theorem O3:j7 Tryz.prog 4 Bool 1:=TH Tryz.underlying4
theorem O4:j7 Tryz.prog 3 Int 1:=FQ (K:= .i64) Tryz.underlying3
theorem VO:j7 Tryz.prog 88 cA 3:=B9 (k:=2) rfl Tryz.underlying88 (by kernel_rfl) fun d hd A W xs ys x y an a4=>by
 refine Eq.trans (n7 rN hR rfl (by rfl) O3 (by omega) an a4 (n7 qk bT rfl (by rfl) uk (by omega) an a4 (n7 xT bT rfl (by rfl) uk (by omega) an a4 (n7 rO bM rfl (by rfl) O4 (by omega) an a4 (n7 EJ bT rfl (by rfl) uk (by omega) an a4 (Cx)))))) ?_
 congr 1
 rw [Bool.eq_iff_iff]
 simp only [Bool.and_eq_true,decide_eq_true_eq,and_true]
 cases x; cases y
 simp [aI.str,rN,qk,xT,rO,EJ]
theorem VP:Tryz.prog.eqGuardType Tryz.prog.depth 88=false:=by kernel_rfl
theorem VY:bH Tryz.prog 270:=⟨_,Tryz.func270,rfl,by kernel_rfl⟩
theorem Wt:bH Tryz.prog 265:=⟨_,Tryz.func265,rfl,by kernel_rfl⟩
theorem XT:bH Tryz.prog 227:=⟨_,Tryz.func227,rfl,by kernel_rfl⟩
theorem SX:lv Tryz.prog 166 "matchguard/index.find" 227:=lv.xc (by kernel_rfl) Tryz.underlying166 rfl XT
theorem XU:bH Tryz.prog 235:=⟨_,Tryz.func235,rfl,by kernel_rfl⟩
theorem SY:lv Tryz.prog 169 "matchguard/index.find" 235:=lv.xc (by kernel_rfl) Tryz.underlying169 rfl XU
theorem XV:bH Tryz.prog 260:=⟨_,Tryz.func260,rfl,by kernel_rfl⟩
theorem SZ:lv Tryz.prog 173 "matchguard/index.find" 260:=lv.xc (by kernel_rfl) Tryz.underlying173 rfl XV
theorem VZ:bH Tryz.prog 233:=⟨_,Tryz.func233,rfl,by kernel_rfl⟩
theorem VL:cF Tryz.prog 337 (default:gA):=cF.of (by kernel_rfl)
theorem VK:ho Tryz.prog 337 #[(0,1),(1,1)]:=⟨_,Tryz.underlying337,by kernel_rfl,by kernel_rfl⟩
theorem L1:cl Tryz.prog 169 1 1:=cl.of Tryz.underlying169 rfl rfl bM rfl
theorem WK:bH Tryz.prog 243:=⟨_,Tryz.func243,rfl,by kernel_rfl⟩
theorem NO:cF Tryz.prog 335 (default:eX):=cF.of (by kernel_rfl)
theorem NN:ho Tryz.prog 335 #[(0,2),(2,1),(3,1)]:=⟨_,Tryz.underlying335,by kernel_rfl,by kernel_rfl⟩
theorem WJ:bH Tryz.prog 244:=⟨_,Tryz.func244,rfl,by kernel_rfl⟩
theorem V0:bH Tryz.prog 279:=⟨_,Tryz.func279,rfl,by kernel_rfl⟩
theorem Nm:bH Tryz.prog 110:=⟨_,Tryz.func110,rfl,by kernel_rfl⟩
theorem WO:bH Tryz.prog 272:=⟨_,Tryz.func272,rfl,by kernel_rfl⟩
theorem Nn:bH Tryz.prog 126:=⟨_,Tryz.func126,rfl,by kernel_rfl⟩
theorem Wd:bH Tryz.prog 206:=⟨_,Tryz.func206,rfl,by kernel_rfl⟩
theorem We:bH Tryz.prog 207:=⟨_,Tryz.func207,rfl,by kernel_rfl⟩
theorem No:bH Tryz.prog 146:=⟨_,Tryz.func146,rfl,by kernel_rfl⟩
theorem Dk:bH Tryz.prog 92:=⟨_,Tryz.func92,rfl,by kernel_rfl⟩
theorem NI:bH Tryz.prog 190:=⟨_,Tryz.func190,rfl,by kernel_rfl⟩
theorem Wq:bH Tryz.prog 133:=⟨_,Tryz.func133,rfl,by kernel_rfl⟩
theorem L0:cl Tryz.prog 228 0 0:=cl.of Tryz.underlying228 rfl rfl eP rfl
theorem GX:bH Tryz.prog 150:=⟨_,Tryz.func150,rfl,by kernel_rfl⟩
theorem WR:bH Tryz.prog 273:=⟨_,Tryz.func273,rfl,by kernel_rfl⟩
theorem WS:bH Tryz.prog 274:=⟨_,Tryz.func274,rfl,by kernel_rfl⟩
theorem WT:bH Tryz.prog 275:=⟨_,Tryz.func275,rfl,by kernel_rfl⟩
theorem WU:bH Tryz.prog 267:=⟨_,Tryz.func267,rfl,by kernel_rfl⟩
theorem XW:bH Tryz.prog 229:=⟨_,Tryz.func229,rfl,by kernel_rfl⟩
theorem S2:lv Tryz.prog 166 "matchguard/index.put" 229:=lv.xc (by kernel_rfl) Tryz.underlying166 rfl XW
theorem XX:bH Tryz.prog 237:=⟨_,Tryz.func237,rfl,by kernel_rfl⟩
theorem S3:lv Tryz.prog 169 "matchguard/index.put" 237:=lv.xc (by kernel_rfl) Tryz.underlying169 rfl XX
theorem XY:bH Tryz.prog 262:=⟨_,Tryz.func262,rfl,by kernel_rfl⟩
theorem S4:lv Tryz.prog 173 "matchguard/index.put" 262:=lv.xc (by kernel_rfl) Tryz.underlying173 rfl XY
theorem Yy:bH Tryz.prog 44:=⟨_,Tryz.func44,rfl,by kernel_rfl⟩
theorem Yz:bH Tryz.prog 35:=⟨_,Tryz.func35,rfl,by kernel_rfl⟩
structure cP where
 cg:Int
 r5:Bool
 sy:Int
 deriving DecidableEq,Inhabited
instance:ah cP:= .str (dp Int (dp Bool (hK Int))) (fun x=>(x.cg,x.r5,x.sy)) 3
def vk:aI cP Int:= .str dx 0 cP.cg fun b g=> { b with cg:=g }
def Bg:aI cP Bool:= .str (bD dx) 1 cP.r5 fun b g=> { b with r5:=g }
def Bo:aI cP Int:= .str (bD (bD h5)) 2 cP.sy fun b g=> { b with sy:=g }
instance:ba cP:=⟨ba.cells Int ++ ba.cells Bool ++ ba.cells Int,fun A W=>⟨by rfl,ba.ok (α:=Int) A W,ba.ok (α:=Bool) A W,ba.ok (α:=Int) A W⟩⟩
theorem zO:cF Tryz.prog 97 (default:cP):=cF.of (by kernel_rfl)
theorem OG:ho Tryz.prog 97 #[(0,1),(1,1),(2,1)]:=⟨_,Tryz.underlying97,by kernel_rfl,by kernel_rfl⟩
theorem k3:bA Tryz.prog 97 cP:=bA.of (by rfl) Tryz.underlying97 (by kernel_rfl)
structure a1 where
 bW:Vector aw 4
 bR:Vector aw 4
 deriving DecidableEq,Inhabited
instance:ah a1:= .str (dp (Vector aw 4) (hK (Vector aw 4))) (fun x=>(x.bW,x.bR)) 16
def mi:aI a1 (Vector aw 4):= .str dx 0 a1.bW fun b g=> { b with bW:=g }
def lz:aI a1 (Vector aw 4):= .str (bD h5) 8 a1.bR fun b g=> { b with bR:=g }
instance:ba a1:=⟨ba.cells (Vector aw 4) ++ ba.cells (Vector aw 4),fun A W=>⟨by rfl,ba.ok (α:=Vector aw 4) A W,ba.ok (α:=Vector aw 4) A W⟩⟩
theorem hX:cF Tryz.prog 155 (default:a1):=cF.of (by kernel_rfl)
theorem Wz:bH Tryz.prog 111:=⟨_,Tryz.func111,rfl,by kernel_rfl⟩
theorem wH:ho Tryz.prog 155 #[(0,8),(8,8)]:=⟨_,Tryz.underlying155,by kernel_rfl,by kernel_rfl⟩
theorem cY:bA Tryz.prog 155 a1:=bA.of (by rfl) Tryz.underlying155 (by kernel_rfl)
theorem WB:bH Tryz.prog 113:=⟨_,Tryz.func113,rfl,by kernel_rfl⟩
theorem WA:bH Tryz.prog 112:=⟨_,Tryz.func112,rfl,by kernel_rfl⟩
theorem MC:cl Tryz.prog 88 0 0:=cl.of Tryz.underlying88 rfl rfl hR rfl
theorem MD:cl Tryz.prog 88 2 3:=cl.of Tryz.underlying88 rfl rfl bT rfl
theorem Wj:bH Tryz.prog 147:=⟨_,Tryz.func147,rfl,by kernel_rfl⟩
theorem mR:cl Tryz.prog 155 1 8:=cl.of Tryz.underlying155 rfl rfl dR rfl
theorem oa:cl Tryz.prog 155 0 0:=cl.of Tryz.underlying155 rfl rfl dR rfl
theorem NK:bH Tryz.prog 114:=⟨_,Tryz.func114,rfl,by kernel_rfl⟩
theorem WC:cF Tryz.prog 156 (default:List a1):=cF.of (by kernel_rfl)
theorem WD:bH Tryz.prog 115:=⟨_,Tryz.func115,rfl,by kernel_rfl⟩
theorem GZ:bA Tryz.prog 156 (List a1):=bA.of (by rfl) Tryz.underlying156 (by kernel_rfl)
theorem Ui:jO Tryz.prog 156 [0]:=by unfold jO; kernel_rfl
theorem WE:bH Tryz.prog 149:=⟨_,Tryz.func149,rfl,by kernel_rfl⟩
theorem OF:bH Tryz.prog 80:=⟨_,Tryz.func80,rfl,by kernel_rfl⟩
theorem Wf:bH Tryz.prog 152:=⟨_,Tryz.func152,rfl,by kernel_rfl⟩
theorem zo:bH Tryz.prog 192:=⟨_,Tryz.func192,rfl,by kernel_rfl⟩
theorem C3:j7 Tryz.prog 45 (Vector aw 4) 3:=FR Tryz.underlying45 bT uk
theorem Np:Tryz.prog.eqGuardType Tryz.prog.depth 45=false:=by kernel_rfl
theorem qW:bH Tryz.prog 167:=⟨_,Tryz.func167,rfl,by kernel_rfl⟩
theorem Nv:bH Tryz.prog 154:=⟨_,Tryz.func154,rfl,by kernel_rfl⟩
theorem Wg:bH Tryz.prog 153:=⟨_,Tryz.func153,rfl,by kernel_rfl⟩
theorem Ny:bH Tryz.prog 191:=⟨_,Tryz.func191,rfl,by kernel_rfl⟩
theorem Wh:bH Tryz.prog 151:=⟨_,Tryz.func151,rfl,by kernel_rfl⟩
theorem zq:bH Tryz.prog 116:=⟨_,Tryz.func116,rfl,by kernel_rfl⟩
theorem Gc:j7 Tryz.prog 155 a1 4:=B9 (k:=3) rfl Tryz.underlying155 (by kernel_rfl) fun d hd A W xs ys x y an a4=>by
 refine Eq.trans (n7 mi dR rfl (by rfl) C3 (by omega) an a4 (n7 lz dR rfl (by rfl) C3 (by omega) an a4 (Cx))) ?_
 congr 1
 rw [Bool.eq_iff_iff]
 simp only [Bool.and_eq_true,decide_eq_true_eq,and_true]
 cases x; cases y
 simp [aI.str,mi,lz]
theorem Gd:Tryz.prog.eqGuardType Tryz.prog.depth 155=false:=by kernel_rfl
theorem Wi:bH Tryz.prog 157:=⟨_,Tryz.func157,rfl,by kernel_rfl⟩
theorem Wk:bH Tryz.prog 156:=⟨_,Tryz.func156,rfl,by kernel_rfl⟩
theorem Wl:bH Tryz.prog 155:=⟨_,Tryz.func155,rfl,by kernel_rfl⟩
theorem NC:bH Tryz.prog 194:=⟨_,Tryz.func194,rfl,by kernel_rfl⟩
theorem Wm:bH Tryz.prog 158:=⟨_,Tryz.func158,rfl,by kernel_rfl⟩
theorem Wn:bH Tryz.prog 159:=⟨_,Tryz.func159,rfl,by kernel_rfl⟩
theorem wI:bH Tryz.prog 117:=⟨_,Tryz.func117,rfl,by kernel_rfl⟩
theorem ND:bH Tryz.prog 195:=⟨_,Tryz.func195,rfl,by kernel_rfl⟩
theorem Wo:bH Tryz.prog 160:=⟨_,Tryz.func160,rfl,by kernel_rfl⟩
theorem Nw:bH Tryz.prog 164:=⟨_,Tryz.func164,rfl,by kernel_rfl⟩
theorem V6:bH Tryz.prog 163:=⟨_,Tryz.func163,rfl,by kernel_rfl⟩
theorem V7:bH Tryz.prog 166:=⟨_,Tryz.func166,rfl,by kernel_rfl⟩
theorem V8:bH Tryz.prog 165:=⟨_,Tryz.func165,rfl,by kernel_rfl⟩
theorem C7:bH Tryz.prog 123:=⟨_,Tryz.func123,rfl,by kernel_rfl⟩
theorem Yn:bH Tryz.prog 81:=⟨_,Tryz.func81,rfl,by kernel_rfl⟩
theorem Dm:bH Tryz.prog 37:=⟨_,Tryz.func37,rfl,by kernel_rfl⟩
theorem Vc:cl Tryz.prog 97 1 1:=cl.of Tryz.underlying97 rfl rfl hR rfl
theorem Ho:bA Tryz.prog 70 Int:=bA.of (by rfl) Tryz.underlying70 (by kernel_rfl)
theorem Vd:cl Tryz.prog 97 2 2:=cl.of Tryz.underlying97 rfl rfl Ho rfl
theorem V2:bH Tryz.prog 168:=⟨_,Tryz.func168,rfl,by kernel_rfl⟩
theorem V3:bH Tryz.prog 125:=⟨_,Tryz.func125,rfl,by kernel_rfl⟩
theorem Mz:cl Tryz.prog 97 0 0:=cl.of Tryz.underlying97 rfl rfl bM rfl
theorem Yq:bH Tryz.prog 91:=⟨_,Tryz.func91,rfl,by kernel_rfl⟩
theorem Yp:bH Tryz.prog 90:=⟨_,Tryz.func90,rfl,by kernel_rfl⟩
theorem YA:bH Tryz.prog 48:=⟨_,Tryz.func48,rfl,by kernel_rfl⟩
theorem iS:cF Tryz.prog 181 (default:Vector (BitVec 8) 512):=cF.of (by kernel_rfl)
theorem Ns:cF Tryz.prog 248 (default:Vector (List Int) 6):=cF.of (by kernel_rfl)
theorem ot:mG Tryz.prog 248 6 1:=mG.of Tryz.underlying248 k4 rfl
theorem Uf:cl Tryz.prog 121 0 0:=cl.of Tryz.underlying121 rfl rfl bM rfl
theorem Ug:cl Tryz.prog 193 0 0:=cl.of Tryz.underlying193 rfl rfl bM rfl
theorem Uh:cl Tryz.prog 204 0 0:=cl.of Tryz.underlying204 rfl rfl bM rfl
theorem Rj:jO Tryz.prog 248 [0,1,2,3,4,5]:=by unfold jO; kernel_rfl
theorem GP:bA Tryz.prog 248 (Vector (List Int) 6):=bA.of (by rfl) Tryz.underlying248 (by kernel_rfl)
theorem Nt:bH Tryz.prog 142:=⟨_,Tryz.func142,rfl,by kernel_rfl⟩
theorem Nu:bH Tryz.prog 141:=⟨_,Tryz.func141,rfl,by kernel_rfl⟩
theorem Nx:bH Tryz.prog 106:=⟨_,Tryz.func106,rfl,by kernel_rfl⟩
theorem ej:bA Tryz.prog 181 (Vector (BitVec 8) 512):=bA.of (by rfl) Tryz.underlying181 (by kernel_rfl)
theorem V4:bH Tryz.prog 124:=⟨_,Tryz.func124,rfl,by kernel_rfl⟩
theorem X9:bH Tryz.prog 89:=⟨_,Tryz.func89,rfl,by kernel_rfl⟩
theorem Yb:bH Tryz.prog 47:=⟨_,Tryz.func47,rfl,by kernel_rfl⟩
theorem ug:cF Tryz.prog 251 (default:Vector Bool 128):=cF.of (by kernel_rfl)
theorem Nq:bH Tryz.prog 198:=⟨_,Tryz.func198,rfl,by kernel_rfl⟩
theorem qQ:mG Tryz.prog 251 128 1:=mG.of Tryz.underlying251 hR rfl
theorem sn:bA Tryz.prog 251 (Vector Bool 128):=bA.of (by rfl) Tryz.underlying251 (by kernel_rfl)
theorem GA:bH Tryz.prog 175:=⟨_,Tryz.func175,rfl,by kernel_rfl⟩
theorem Wv:bH Tryz.prog 170:=⟨_,Tryz.func170,rfl,by kernel_rfl⟩
theorem Ww:bH Tryz.prog 171:=⟨_,Tryz.func171,rfl,by kernel_rfl⟩
theorem Nr:bH Tryz.prog 143:=⟨_,Tryz.func143,rfl,by kernel_rfl⟩
theorem jE:mG Tryz.prog 181 512 1:=mG.of Tryz.underlying181 iy rfl
theorem Wx:bH Tryz.prog 172:=⟨_,Tryz.func172,rfl,by kernel_rfl⟩
theorem NL:bH Tryz.prog 127:=⟨_,Tryz.func127,rfl,by kernel_rfl⟩
theorem Ox:bH Tryz.prog 79:=⟨_,Tryz.func79,rfl,by kernel_rfl⟩
theorem Yc:bH Tryz.prog 36:=⟨_,Tryz.func36,rfl,by kernel_rfl⟩
theorem OA:bH Tryz.prog 93:=⟨_,Tryz.func93,rfl,by kernel_rfl⟩
theorem V1:bH Tryz.prog 173:=⟨_,Tryz.func173,rfl,by kernel_rfl⟩
theorem GR:bH Tryz.prog 128:=⟨_,Tryz.func128,rfl,by kernel_rfl⟩
theorem V5:bH Tryz.prog 174:=⟨_,Tryz.func174,rfl,by kernel_rfl⟩
theorem C6:bH Tryz.prog 129:=⟨_,Tryz.func129,rfl,by kernel_rfl⟩
theorem Oz:bH Tryz.prog 94:=⟨_,Tryz.func94,rfl,by kernel_rfl⟩
theorem OJ:bH Tryz.prog 49:=⟨_,Tryz.func49,rfl,by kernel_rfl⟩
theorem Wr:bH Tryz.prog 130:=⟨_,Tryz.func130,rfl,by kernel_rfl⟩
theorem Yd:bH Tryz.prog 95:=⟨_,Tryz.func95,rfl,by kernel_rfl⟩
theorem YB:bH Tryz.prog 50:=⟨_,Tryz.func50,rfl,by kernel_rfl⟩
theorem Yo:bH Tryz.prog 88:=⟨_,Tryz.func88,rfl,by kernel_rfl⟩
theorem YC:bH Tryz.prog 45:=⟨_,Tryz.func45,rfl,by kernel_rfl⟩
theorem XZ:j7 Tryz.prog 70 Int 1:=FQ (K:= .i64) Tryz.underlying70
theorem W9:j7 Tryz.prog 97 cP 2:=B9 (k:=1) rfl Tryz.underlying97 (by kernel_rfl) fun d hd A W xs ys x y an a4=>by
 refine Eq.trans (n7 vk bM rfl (by rfl) O4 (by omega) an a4 (n7 Bg hR rfl (by rfl) O3 (by omega) an a4 (n7 Bo Ho rfl (by rfl) XZ (by omega) an a4 (Cx)))) ?_
 congr 1
 rw [Bool.eq_iff_iff]
 simp only [Bool.and_eq_true,decide_eq_true_eq,and_true]
 cases x; cases y
 simp [aI.str,vk,Bg,Bo]
theorem Xa:Tryz.prog.eqGuardType Tryz.prog.depth 97=false:=by kernel_rfl
theorem YD:bH Tryz.prog 38:=⟨_,Tryz.func38,rfl,by kernel_rfl⟩
inductive Cell where
 | l6 (x:List (Int × aU))
 | m5 (x:hE)
 | m4 (x:List ((Vector aw 4) × Ref))
 | o4 (x:List ((Vector aw 4) × Int))
 | wP (x:mK)
 | sH (x:dM) (key:Option Nat) (cap:Nat)
 | hf (x:eX)
 | jX (x:gA)
instance:fi Cell where
 ih p k:=match k with
  | .l6 x=> [⟨some p,.map x⟩]
  | .m5 x=> [⟨some p,.var x⟩]
  | .m4 x=> [⟨some p,.map x⟩]
  | .o4 x=> [⟨some p,.map x⟩]
  | .wP x=> [⟨some p,.var x⟩]
  | .sH x key cap=> [⟨some p,.cC ({ x with ef:= [] } :dM) [(10,aZ key (x.ef).length cap)]⟩,⟨key,.row 52 (x.ef:List aU) cap⟩]
  | .hf x=> [⟨some p,.var x⟩]
  | .jX x=> [⟨some p,.var x⟩]
 root p k:=by cases k <;> exact⟨_,List.mem_cons_self ..,rfl⟩
def ny (hp:bg Cell) (p:Nat):Option (List (Int × aU)):=match pat hp p with
 | some (.l6 x)=>some x
 | _=>none
theorem CI {hp:bg Cell} {p:Nat} {x:List (Int × aU)} (h:ny hp p=some x):pat hp p=some (.l6 x):=by
 unfold ny at h
 split at h
 ·rename_i ab; cases h; exact ab
 ·cases h
def jF (hp:bg Cell) (p:Nat):Option (hE):=match pat hp p with
 | some (.m5 x)=>some x
 | _=>none
theorem qL {hp:bg Cell} {p:Nat} {x:hE} (h:jF hp p=some x):pat hp p=some (.m5 x):=by
 unfold jF at h
 split at h
 ·rename_i ab; cases h; exact ab
 ·cases h
def kp (hp:bg Cell) (p:Nat):Option (List ((Vector aw 4) × Ref)):=match pat hp p with
 | some (.m4 x)=>some x
 | _=>none
theorem pM {hp:bg Cell} {p:Nat} {x:List ((Vector aw 4) × Ref)} (h:kp hp p=some x):pat hp p=some (.m4 x):=by
 unfold kp at h
 split at h
 ·rename_i ab; cases h; exact ab
 ·cases h
def mZ (hp:bg Cell) (p:Nat):Option (List ((Vector aw 4) × Int)):=match pat hp p with
 | some (.o4 x)=>some x
 | _=>none
theorem tV {hp:bg Cell} {p:Nat} {x:List ((Vector aw 4) × Int)} (h:mZ hp p=some x):pat hp p=some (.o4 x):=by
 unfold mZ at h
 split at h
 ·rename_i ab; cases h; exact ab
 ·cases h
def ou (hp:bg Cell) (p:Nat):Option (mK):=match pat hp p with
 | some (.wP x)=>some x
 | _=>none
theorem wk {hp:bg Cell} {p:Nat} {x:mK} (h:ou hp p=some x):pat hp p=some (.wP x):=by
 unfold ou at h
 split at h
 ·rename_i ab; cases h; exact ab
 ·cases h
def ov (hp:bg Cell) (p:Nat):Option (dM × Option Nat × Nat):=match pat hp p with
 | some (.sH x key cap)=>some (x,key,cap)
 | _=>none
theorem y7 {hp:bg Cell} {p:Nat} {x:dM × Option Nat × Nat} (h:ov hp p=some x):pat hp p=some (.sH x.1 x.2.1 x.2.2):=by
 unfold ov at h
 split at h
 ·rename_i ab; cases h; exact ab
 ·cases h
def dH (hp:bg Cell) (p:Nat):Option (eX):=match pat hp p with
 | some (.hf x)=>some x
 | _=>none
theorem nt {hp:bg Cell} {p:Nat} {x:eX} (h:dH hp p=some x):pat hp p=some (.hf x):=by
 unfold dH at h
 split at h
 ·rename_i ab; cases h; exact ab
 ·cases h
def gM (hp:bg Cell) (p:Nat):Option (gA):=match pat hp p with
 | some (.jX x)=>some x
 | _=>none
theorem qK {hp:bg Cell} {p:Nat} {x:gA} (h:gM hp p=some x):pat hp p=some (.jX x):=by
 unfold gM at h
 split at h
 ·rename_i ab; cases h; exact ab
 ·cases h
end Go.Proofs.YtmnggbjcnoffeaaGreat
