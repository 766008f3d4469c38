/-
  The types of the data, and facts on their tables. Conditions: none.
-/
import Derived.Test.YthkfkliknjiecaaGreatRows
import Derived.Test.YthkfkliknjiecaaGreatMl2
set_option linter.unusedVariables false
set_option linter.unusedSimpArgs false
set_option maxRecDepth 100000
namespace Go.Proofs.YthkfkliknjiecaaGreat
open Go Gv Go.Proofs.Tryz
structure bq where
 cg:List (BitVec 8)
 tI:Int
 deriving DecidableEq,Inhabited
instance:ak bq:= .str (dR (List (BitVec 8)) (iE Int)) (fun x=>(x.cg,x.tI)) 2
def FD:aL bq (List (BitVec 8)):= .str ea 0 bq.cg fun b g=>{ b with cg:=g }
def Bs:aL bq Int:= .str (bJ jc) 1 bq.tI fun b g=>{ b with tI:=g }
instance:bh bq:=⟨bh.cells (List (BitVec 8))++bh.cells Int,fun A W=>⟨by rfl,bh.ok (α:=List (BitVec 8)) A W,bh.ok (α:=Int) A W⟩⟩
theorem Md:bF prog 5 (BitVec 8):=bF.of (by rfl) underlying5 (by kernel_rfl)
theorem abw:cS prog 103 (default:bq):=cS.of (by kernel_rfl)
theorem abv:ie prog 103 #[(0,1),(1,1)]:=⟨_,underlying103,by kernel_rfl,by kernel_rfl⟩
theorem Mk:bA prog 7:=⟨_,func7,rfl,by kernel_rfl⟩
structure gj where
 bP:Int
 cH:ByteArray
 fQ:Int
 deriving DecidableEq,Inhabited
instance:ak gj:= .str (dR Int (dR ByteArray (iE Int))) (fun x=>(x.bP,x.cH,x.fQ)) 3
def p5:aL gj Int:= .str ea 0 gj.bP fun b g=>{ b with bP:=g }
def sY:aL gj ByteArray:= .str (bJ ea) 1 gj.cH fun b g=>{ b with cH:=g }
def pr:aL gj Int:= .str (bJ (bJ jc)) 2 gj.fQ fun b g=>{ b with fQ:=g }
instance:bh gj:=⟨bh.cells Int++bh.cells ByteArray++bh.cells Int,fun A W=>⟨by rfl,bh.ok (α:=Int) A W,bh.ok (α:=ByteArray) A W,bh.ok (α:=Int) A W⟩⟩
structure kH where
 bP:Int
 cH:ByteArray
 fY:List Int
 deriving DecidableEq,Inhabited
instance:ak kH:= .str (dR Int (dR ByteArray (iE (List Int)))) (fun x=>(x.bP,x.cH,x.fY)) 3
def FG:aL kH Int:= .str ea 0 kH.bP fun b g=>{ b with bP:=g }
def IV:aL kH ByteArray:= .str (bJ ea) 1 kH.cH fun b g=>{ b with cH:=g }
def II:aL kH (List Int):= .str (bJ (bJ jc)) 2 kH.fY fun b g=>{ b with fY:=g }
instance:bh kH:=⟨bh.cells Int++bh.cells ByteArray++bh.cells (List Int),fun A W=>⟨by rfl,bh.ok (α:=Int) A W,bh.ok (α:=ByteArray) A W,bh.ok (α:=List Int) A W⟩⟩
structure az where
 dg:BitVec 64
 bX:BitVec 64
 deriving DecidableEq,Inhabited
instance:ak az:= .str (dR (BitVec 64) (iE (BitVec 64))) (fun x=>(x.dg,x.bX)) 2
def hV:aL az (BitVec 64):= .str ea 0 az.dg fun b g=>{ b with dg:=g }
def eI:aL az (BitVec 64):= .str (bJ jc) 1 az.bX fun b g=>{ b with bX:=g }
instance:bh az:=⟨bh.cells (BitVec 64)++bh.cells (BitVec 64),fun A W=>⟨by rfl,bh.ok (α:=BitVec 64) A W,bh.ok (α:=BitVec 64) A W⟩⟩
structure hA where
 cU:az
 gy:az
 q0:Int
 deriving DecidableEq,Inhabited
instance:ak hA:= .str (dR az (dR az (iE Int))) (fun x=>(x.cU,x.gy,x.q0)) 5
def FA:aL hA az:= .str ea 0 hA.cU fun b g=>{ b with cU:=g }
def FH:aL hA az:= .str (bJ ea) 2 hA.gy fun b g=>{ b with gy:=g }
def FI:aL hA Int:= .str (bJ (bJ jc)) 4 hA.q0 fun b g=>{ b with q0:=g }
instance:bh hA:=⟨bh.cells az++bh.cells az++bh.cells Int,fun A W=>⟨by rfl,bh.ok (α:=az) A W,bh.ok (α:=az) A W,bh.ok (α:=Int) A W⟩⟩
structure ek where
 bP:Int
 jg:Int
 oM:Int
 qc:List hA
 h6:Int
 deriving DecidableEq,Inhabited
instance:ak ek:= .str (dR Int (dR Int (dR Int (dR (List hA) (iE Int))))) (fun x=>(x.bP,x.jg,x.oM,x.qc,x.h6)) 5
def FL:aL ek Int:= .str ea 0 ek.bP fun b g=>{ b with bP:=g }
def IM:aL ek Int:= .str (bJ ea) 1 ek.jg fun b g=>{ b with jg:=g }
def NZ:aL ek Int:= .str (bJ (bJ ea)) 2 ek.oM fun b g=>{ b with oM:=g }
def Fp:aL ek (List hA):= .str (bJ (bJ (bJ ea))) 3 ek.qc fun b g=>{ b with qc:=g }
def IH:aL ek Int:= .str (bJ (bJ (bJ (bJ jc)))) 4 ek.h6 fun b g=>{ b with h6:=g }
instance:bh ek:=⟨bh.cells Int++bh.cells Int++bh.cells Int++bh.cells (List hA)++bh.cells Int,fun A W=>⟨by rfl,bh.ok (α:=Int) A W,bh.ok (α:=Int) A W,bh.ok (α:=Int) A W,bh.ok (α:=List hA) A W,bh.ok (α:=Int) A W⟩⟩
structure jE where
 cH:ByteArray
 fQ:Int
 deriving DecidableEq,Inhabited
instance:ak jE:= .str (dR ByteArray (iE Int)) (fun x=>(x.cH,x.fQ)) 2
def FB:aL jE ByteArray:= .str ea 0 jE.cH fun b g=>{ b with cH:=g }
def Bx:aL jE Int:= .str (bJ jc) 1 jE.fQ fun b g=>{ b with fQ:=g }
instance:bh jE:=⟨bh.cells ByteArray++bh.cells Int,fun A W=>⟨by rfl,bh.ok (α:=ByteArray) A W,bh.ok (α:=Int) A W⟩⟩
structure gB where
 dp:Int
 h0:Int
 cU:az
 deriving DecidableEq,Inhabited
instance:ak gB:= .str (dR Int (dR Int (iE az))) (fun x=>(x.dp,x.h0,x.cU)) 4
def Fm:aL gB Int:= .str ea 0 gB.dp fun b g=>{ b with dp:=g }
def N7:aL gB Int:= .str (bJ ea) 1 gB.h0 fun b g=>{ b with h0:=g }
def Vp:aL gB az:= .str (bJ (bJ jc)) 2 gB.cU fun b g=>{ b with cU:=g }
instance:bh gB:=⟨bh.cells Int++bh.cells Int++bh.cells az,fun A W=>⟨by rfl,bh.ok (α:=Int) A W,bh.ok (α:=Int) A W,bh.ok (α:=az) A W⟩⟩
structure fJ where
 jk:Int
 kP:Int
 lP:gB
 deriving DecidableEq,Inhabited
instance:ak fJ:= .str (dR Int (dR Int (iE gB))) (fun x=>(x.jk,x.kP,x.lP)) 6
def s4:aL fJ Int:= .str ea 0 fJ.jk fun b g=>{ b with jk:=g }
def wD:aL fJ Int:= .str (bJ ea) 1 fJ.kP fun b g=>{ b with kP:=g }
def yX:aL fJ gB:= .str (bJ (bJ jc)) 2 fJ.lP fun b g=>{ b with lP:=g }
instance:bh fJ:=⟨bh.cells Int++bh.cells Int++bh.cells gB,fun A W=>⟨by rfl,bh.ok (α:=Int) A W,bh.ok (α:=Int) A W,bh.ok (α:=gB) A W⟩⟩
structure eB where
 bP:Int
 cH:ByteArray
 lq:List jE
 pA:List fJ
 rZ:ByteArray
 deriving DecidableEq,Inhabited
instance:ak eB:= .str (dR Int (dR ByteArray (dR (List jE) (dR (List fJ) (iE ByteArray))))) (fun x=>(x.bP,x.cH,x.lq,x.pA,x.rZ)) 5
def uI:aL eB Int:= .str ea 0 eB.bP fun b g=>{ b with bP:=g }
def yG:aL eB ByteArray:= .str (bJ ea) 1 eB.cH fun b g=>{ b with cH:=g }
def Fj:aL eB (List jE):= .str (bJ (bJ ea)) 2 eB.lq fun b g=>{ b with lq:=g }
def Bk:aL eB (List fJ):= .str (bJ (bJ (bJ ea))) 3 eB.pA fun b g=>{ b with pA:=g }
def NR:aL eB ByteArray:= .str (bJ (bJ (bJ (bJ jc)))) 4 eB.rZ fun b g=>{ b with rZ:=g }
instance:bh eB:=⟨bh.cells Int++bh.cells ByteArray++bh.cells (List jE)++bh.cells (List fJ)++bh.cells ByteArray,fun A W=>⟨by rfl,bh.ok (α:=Int) A W,bh.ok (α:=ByteArray) A W,bh.ok (α:=List jE) A W,bh.ok (α:=List fJ) A W,bh.ok (α:=ByteArray) A W⟩⟩
structure c6 where
 cH:ByteArray
 hB:Int
 dp:Int
 deriving DecidableEq,Inhabited
instance:ak c6:= .str (dR ByteArray (dR Int (iE Int))) (fun x=>(x.cH,x.hB,x.dp)) 3
def s3:aL c6 ByteArray:= .str ea 0 c6.cH fun b g=>{ b with cH:=g }
def ps:aL c6 Int:= .str (bJ ea) 1 c6.hB fun b g=>{ b with hB:=g }
def m2:aL c6 Int:= .str (bJ (bJ jc)) 2 c6.dp fun b g=>{ b with dp:=g }
instance:bh c6:=⟨bh.cells ByteArray++bh.cells Int++bh.cells Int,fun A W=>⟨by rfl,bh.ok (α:=ByteArray) A W,bh.ok (α:=Int) A W,bh.ok (α:=Int) A W⟩⟩
structure b2 where
 bP:Int
 cH:ByteArray
 cn:List c6
 dV:List Int
 h6:Int
 wL:List az
 hn:Int
 rZ:ByteArray
 deriving DecidableEq,Inhabited
instance:ak b2:= .str (dR Int (dR ByteArray (dR (List c6) (dR (List Int) (dR Int (dR (List az) (dR Int (iE ByteArray)))))))) (fun x=>(x.bP,x.cH,x.cn,x.dV,x.h6,x.wL,x.hn,x.rZ)) 8
def oa:aL b2 Int:= .str ea 0 b2.bP fun b g=>{ b with bP:=g }
def FC:aL b2 ByteArray:= .str (bJ ea) 1 b2.cH fun b g=>{ b with cH:=g }
def kF:aL b2 (List c6):= .str (bJ (bJ ea)) 2 b2.cn fun b g=>{ b with cn:=g }
def yD:aL b2 (List Int):= .str (bJ (bJ (bJ ea))) 3 b2.dV fun b g=>{ b with dV:=g }
def Fk:aL b2 Int:= .str (bJ (bJ (bJ (bJ ea)))) 4 b2.h6 fun b g=>{ b with h6:=g }
def U6:aL b2 (List az):= .str (bJ (bJ (bJ (bJ (bJ ea))))) 5 b2.wL fun b g=>{ b with wL:=g }
def yQ:aL b2 Int:= .str (bJ (bJ (bJ (bJ (bJ (bJ ea)))))) 6 b2.hn fun b g=>{ b with hn:=g }
def U7:aL b2 ByteArray:= .str (bJ (bJ (bJ (bJ (bJ (bJ (bJ jc))))))) 7 b2.rZ fun b g=>{ b with rZ:=g }
instance:bh b2:=⟨bh.cells Int++bh.cells ByteArray++bh.cells (List c6)++bh.cells (List Int)++bh.cells Int++bh.cells (List az)++bh.cells Int++bh.cells ByteArray,fun A W=>⟨by rfl,bh.ok (α:=Int) A W,bh.ok (α:=ByteArray) A W,bh.ok (α:=List c6) A W,bh.ok (α:=List Int) A W,bh.ok (α:=Int) A W,bh.ok (α:=List az) A W,bh.ok (α:=Int) A W,bh.ok (α:=ByteArray) A W⟩⟩
structure gC where
 cO:Int
 jg:Int
 deriving DecidableEq,Inhabited
instance:ak gC:= .str (dR Int (iE Int)) (fun x=>(x.cO,x.jg)) 2
def Bm:aL gC Int:= .str ea 0 gC.cO fun b g=>{ b with cO:=g }
def IP:aL gC Int:= .str (bJ jc) 1 gC.jg fun b g=>{ b with jg:=g }
instance:bh gC:=⟨bh.cells Int++bh.cells Int,fun A W=>⟨by rfl,bh.ok (α:=Int) A W,bh.ok (α:=Int) A W⟩⟩
structure ed where
 cO:Int
 tn:Bool
 te:Bool
 cn:List Bool
 deriving DecidableEq,Inhabited
instance:ak ed:= .str (dR Int (dR Bool (dR Bool (iE (List Bool))))) (fun x=>(x.cO,x.tn,x.te,x.cn)) 4
def IT:aL ed Int:= .str ea 0 ed.cO fun b g=>{ b with cO:=g }
def IX:aL ed Bool:= .str (bJ ea) 1 ed.tn fun b g=>{ b with tn:=g }
def IU:aL ed Bool:= .str (bJ (bJ ea)) 2 ed.te fun b g=>{ b with te:=g }
def IY:aL ed (List Bool):= .str (bJ (bJ (bJ jc))) 3 ed.cn fun b g=>{ b with cn:=g }
instance:bh ed:=⟨bh.cells Int++bh.cells Bool++bh.cells Bool++bh.cells (List Bool),fun A W=>⟨by rfl,bh.ok (α:=Int) A W,bh.ok (α:=Bool) A W,bh.ok (α:=Bool) A W,bh.ok (α:=List Bool) A W⟩⟩
structure c4 where
 bP:Int
 cH:ByteArray
 kq:List ed
 dV:List Int
 td:Int
 Cx:Bool
 deriving DecidableEq,Inhabited
instance:ak c4:= .str (dR Int (dR ByteArray (dR (List ed) (dR (List Int) (dR Int (iE Bool)))))) (fun x=>(x.bP,x.cH,x.kq,x.dV,x.td,x.Cx)) 6
def FN:aL c4 Int:= .str ea 0 c4.bP fun b g=>{ b with bP:=g }
def I1:aL c4 ByteArray:= .str (bJ ea) 1 c4.cH fun b g=>{ b with cH:=g }
def yH:aL c4 (List ed):= .str (bJ (bJ ea)) 2 c4.kq fun b g=>{ b with kq:=g }
def IN:aL c4 (List Int):= .str (bJ (bJ (bJ ea))) 3 c4.dV fun b g=>{ b with dV:=g }
def IW:aL c4 Int:= .str (bJ (bJ (bJ (bJ ea)))) 4 c4.td fun b g=>{ b with td:=g }
def V2:aL c4 Bool:= .str (bJ (bJ (bJ (bJ (bJ jc))))) 5 c4.Cx fun b g=>{ b with Cx:=g }
instance:bh c4:=⟨bh.cells Int++bh.cells ByteArray++bh.cells (List ed)++bh.cells (List Int)++bh.cells Int++bh.cells Bool,fun A W=>⟨by rfl,bh.ok (α:=Int) A W,bh.ok (α:=ByteArray) A W,bh.ok (α:=List ed) A W,bh.ok (α:=List Int) A W,bh.ok (α:=Int) A W,bh.ok (α:=Bool) A W⟩⟩
structure fK where
 cO:Int
 xu:Int
 h7:Int
 aaJ:Int
 qT:Int
 aaK:Int
 deriving DecidableEq,Inhabited
instance:ak fK:= .str (dR Int (dR Int (dR Int (dR Int (dR Int (iE Int)))))) (fun x=>(x.cO,x.xu,x.h7,x.aaJ,x.qT,x.aaK)) 6
def FJ:aL fK Int:= .str ea 0 fK.cO fun b g=>{ b with cO:=g }
def Oc:aL fK Int:= .str (bJ ea) 1 fK.xu fun b g=>{ b with xu:=g }
def N4:aL fK Int:= .str (bJ (bJ ea)) 2 fK.h7 fun b g=>{ b with h7:=g }
def Fs:aL fK Int:= .str (bJ (bJ (bJ (bJ ea)))) 4 fK.qT fun b g=>{ b with qT:=g }
instance:bh fK:=⟨bh.cells Int++bh.cells Int++bh.cells Int++bh.cells Int++bh.cells Int++bh.cells Int,fun A W=>⟨by rfl,bh.ok (α:=Int) A W,bh.ok (α:=Int) A W,bh.ok (α:=Int) A W,bh.ok (α:=Int) A W,bh.ok (α:=Int) A W,bh.ok (α:=Int) A W⟩⟩
structure aZ where
 fY:List gj
 m3:List kH
 nG:List ek
 dV:List eB
 bE:List b2
 oN:List gC
 kJ:List c4
 pB:List fK
 Ca:Int
 Co:Int
 deriving DecidableEq,Inhabited
instance:ak aZ:= .str (dR (List gj) (dR (List kH) (dR (List ek) (dR (List eB) (dR (List b2) (dR (List gC) (dR (List c4) (dR (List fK) (dR Int (iE Int)))))))))) (fun x=>(x.fY,x.m3,x.nG,x.dV,x.bE,x.oN,x.kJ,x.pB,x.Ca,x.Co)) 10
def wz:aL aZ (List gj):= .str ea 0 aZ.fY fun b g=>{ b with fY:=g }
def NU:aL aZ (List kH):= .str (bJ ea) 1 aZ.m3 fun b g=>{ b with m3:=g }
def NW:aL aZ (List ek):= .str (bJ (bJ ea)) 2 aZ.nG fun b g=>{ b with nG:=g }
def IF:aL aZ (List eB):= .str (bJ (bJ (bJ ea))) 3 aZ.dV fun b g=>{ b with dV:=g }
def nF:aL aZ (List b2):= .str (bJ (bJ (bJ (bJ ea)))) 4 aZ.bE fun b g=>{ b with bE:=g }
def IJ:aL aZ (List gC):= .str (bJ (bJ (bJ (bJ (bJ ea))))) 5 aZ.oN fun b g=>{ b with oN:=g }
def NX:aL aZ (List c4):= .str (bJ (bJ (bJ (bJ (bJ (bJ ea)))))) 6 aZ.kJ fun b g=>{ b with kJ:=g }
def Fq:aL aZ (List fK):= .str (bJ (bJ (bJ (bJ (bJ (bJ (bJ ea))))))) 7 aZ.pB fun b g=>{ b with pB:=g }
def Vh:aL aZ Int:= .str (bJ (bJ (bJ (bJ (bJ (bJ (bJ (bJ ea)))))))) 8 aZ.Ca fun b g=>{ b with Ca:=g }
def Vq:aL aZ Int:= .str (bJ (bJ (bJ (bJ (bJ (bJ (bJ (bJ (bJ jc))))))))) 9 aZ.Co fun b g=>{ b with Co:=g }
instance:bh aZ:=⟨bh.cells (List gj)++bh.cells (List kH)++bh.cells (List ek)++bh.cells (List eB)++bh.cells (List b2)++bh.cells (List gC)++bh.cells (List c4)++bh.cells (List fK)++bh.cells Int++bh.cells Int,fun A W=>⟨by rfl,bh.ok (α:=List gj) A W,bh.ok (α:=List kH) A W,bh.ok (α:=List ek) A W,bh.ok (α:=List eB) A W,bh.ok (α:=List b2) A W,bh.ok (α:=List gC) A W,bh.ok (α:=List c4) A W,bh.ok (α:=List fK) A W,bh.ok (α:=Int) A W,bh.ok (α:=Int) A W⟩⟩
theorem Hl:cS prog 32 (default:aZ):=cS.of (by kernel_rfl)
theorem bp:bF prog 3 Int:=bF.of (by rfl) underlying3 (by kernel_rfl)
theorem Cu:cw prog 103 1 1:=cw.of underlying103 rfl rfl bp rfl
theorem Hj:bF prog 22 (List (BitVec 8)):=bF.of (by rfl) underlying22 (by kernel_rfl)
theorem J1:cw prog 103 0 0:=cw.of underlying103 rfl rfl Hj rfl
theorem mixed:prog.follows .mixedOrders=true:=by kernel_rfl
theorem S0:bA prog 26:=⟨_,func26,rfl,by kernel_rfl⟩
theorem gL:bA prog 29:=⟨_,func29,rfl,by kernel_rfl⟩
theorem aej:ie prog 32 #[(0,1),(1,1),(2,1),(3,1),(4,1),(5,1),(6,1),(7,1),(8,1),(9,1)]:=⟨_,underlying32,by kernel_rfl,by kernel_rfl⟩
theorem fU:bF prog 32 aZ:=bF.of (by rfl) underlying32 (by kernel_rfl)
theorem qj:cS prog 105 (default:gj):=cS.of (by kernel_rfl)
theorem tv:ie prog 105 #[(0,1),(1,1),(2,1)]:=⟨_,underlying105,by kernel_rfl,by kernel_rfl⟩
theorem qi:bF prog 105 gj:=bF.of (by rfl) underlying105 (by kernel_rfl)
theorem vx:bF prog 23 (List gj):=bF.of (by rfl) underlying23 (by kernel_rfl)
theorem xc:cw prog 32 0 0:=cw.of underlying32 rfl rfl vx rfl
theorem hQ:cS prog 3 (default:Int):=cS.of (by kernel_rfl)
theorem CZ:cS prog 107 (default:kH):=cS.of (by kernel_rfl)
theorem K2:ie prog 107 #[(0,1),(1,1),(2,1)]:=⟨_,underlying107,by kernel_rfl,by kernel_rfl⟩
theorem G5:bF prog 107 kH:=bF.of (by rfl) underlying107 (by kernel_rfl)
theorem LC:bF prog 24 (List kH):=bF.of (by rfl) underlying24 (by kernel_rfl)
theorem QT:cw prog 32 1 1:=cw.of underlying32 rfl rfl LC rfl
theorem vg:cS prog 169 (default:ek):=cS.of (by kernel_rfl)
theorem KY:ie prog 169 #[(0,1),(1,1),(2,1),(3,1),(4,1)]:=⟨_,underlying169,by kernel_rfl,by kernel_rfl⟩
theorem sl:bF prog 169 ek:=bF.of (by rfl) underlying169 (by kernel_rfl)
theorem eJ:cS prog 48 (default:az):=cS.of (by kernel_rfl)
theorem hX:ie prog 48 #[(0,1),(1,1)]:=⟨_,underlying48,by kernel_rfl,by kernel_rfl⟩
theorem vk:cS prog 171 (default:hA):=cS.of (by kernel_rfl)
theorem G6:ie prog 171 #[(0,2),(2,2),(4,1)]:=⟨_,underlying171,by kernel_rfl,by kernel_rfl⟩
theorem G7:bF prog 171 hA:=bF.of (by rfl) underlying171 (by kernel_rfl)
theorem C0:bF prog 167 (List hA):=bF.of (by rfl) underlying167 (by kernel_rfl)
theorem Gy:cw prog 169 3 3:=cw.of underlying169 rfl rfl C0 rfl
theorem o7:bA prog 28:=⟨_,func28,rfl,by kernel_rfl⟩
theorem Qj:j3 prog 169 [3]:=by unfold j3;kernel_rfl
theorem aek:bA prog 49:=⟨_,func49,rfl,by kernel_rfl⟩
theorem C1:cS prog 173 (default:gB):=cS.of (by kernel_rfl)
theorem G8:ie prog 173 #[(0,1),(1,1),(2,2)]:=⟨_,underlying173,by kernel_rfl,by kernel_rfl⟩
theorem G9:bF prog 173 gB:=bF.of (by rfl) underlying173 (by kernel_rfl)
theorem q4:cS prog 153 (default:eB):=cS.of (by kernel_rfl)
theorem xp:ie prog 153 #[(0,1),(1,1),(2,1),(3,1),(4,1)]:=⟨_,underlying153,by kernel_rfl,by kernel_rfl⟩
theorem o2:cS prog 175 (default:fJ):=cS.of (by kernel_rfl)
theorem tt:ie prog 175 #[(0,1),(1,1),(2,4)]:=⟨_,underlying175,by kernel_rfl,by kernel_rfl⟩
theorem C2:bF prog 175 fJ:=bF.of (by rfl) underlying175 (by kernel_rfl)
theorem vj:cS prog 156 (default:jE):=cS.of (by kernel_rfl)
theorem Ha:ie prog 156 #[(0,1),(1,1)]:=⟨_,underlying156,by kernel_rfl,by kernel_rfl⟩
theorem zR:bF prog 156 jE:=bF.of (by rfl) underlying156 (by kernel_rfl)
theorem oZ:bF prog 153 eB:=bF.of (by rfl) underlying153 (by kernel_rfl)
theorem rn:bF prog 9 ByteArray:=bF.of (by rfl) underlying9 (by kernel_rfl)
theorem Qk:cw prog 153 4 4:=cw.of underlying153 rfl rfl rn rfl
theorem ael:bA prog 50:=⟨_,func50,rfl,by kernel_rfl⟩
theorem kx:cS prog 39 (default:c6):=cS.of (by kernel_rfl)
theorem tH:ie prog 39 #[(0,1),(1,1),(2,1)]:=⟨_,underlying39,by kernel_rfl,by kernel_rfl⟩
theorem iN:bF prog 39 c6:=bF.of (by rfl) underlying39 (by kernel_rfl)
theorem lS:cS prog 44 (default:b2):=cS.of (by kernel_rfl)
theorem DB:ie prog 44 #[(0,1),(1,1),(2,1),(3,1),(4,1),(5,1),(6,1),(7,1)]:=⟨_,underlying44,by kernel_rfl,by kernel_rfl⟩
theorem ga:bF prog 44 b2:=bF.of (by rfl) underlying44 (by kernel_rfl)
theorem lR:bF prog 40 (List c6):=bF.of (by rfl) underlying40 (by kernel_rfl)
theorem mg:cw prog 44 2 2:=cw.of underlying44 rfl rfl lR rfl
theorem Kz:j3 prog 44 [2]:=by unfold j3;kernel_rfl
theorem Ky:j3 prog 44 []:=by unfold j3;kernel_rfl
theorem bS:bF prog 48 az:=bF.of (by rfl) underlying48 (by kernel_rfl)
theorem HK:cS prog 9 (default:ByteArray):=cS.of (by kernel_rfl)
theorem KZ:bF prog 176 (List ByteArray):=bF.of (by rfl) underlying176 (by kernel_rfl)
theorem abZ:cS prog 176 (default:List ByteArray):=cS.of (by kernel_rfl)
theorem aaP:cw prog 44 7 7:=cw.of underlying44 rfl rfl rn rfl
theorem aem:bA prog 51:=⟨_,func51,rfl,by kernel_rfl⟩
theorem LD:bF prog 25 (List ek):=bF.of (by rfl) underlying25 (by kernel_rfl)
theorem QU:cw prog 32 2 2:=cw.of underlying32 rfl rfl LD rfl
theorem Hk:bF prog 26 (List eB):=bF.of (by rfl) underlying26 (by kernel_rfl)
theorem Kv:cw prog 32 3 3:=cw.of underlying32 rfl rfl Hk rfl
theorem nk:bF prog 27 (List b2):=bF.of (by rfl) underlying27 (by kernel_rfl)
theorem nJ:cw prog 32 4 4:=cw.of underlying32 rfl rfl nk rfl
theorem vh:cS prog 180 (default:c4):=cS.of (by kernel_rfl)
theorem K0:ie prog 180 #[(0,1),(1,1),(2,1),(3,1),(4,1),(5,1)]:=⟨_,underlying180,by kernel_rfl,by kernel_rfl⟩
theorem sm:bF prog 180 c4:=bF.of (by rfl) underlying180 (by kernel_rfl)
theorem fW:bF prog 4 Bool:=bF.of (by rfl) underlying4 (by kernel_rfl)
theorem HL:cS prog 4 (default:Bool):=cS.of (by kernel_rfl)
theorem xt:bF prog 178 (List ed):=bF.of (by rfl) underlying178 (by kernel_rfl)
theorem zA:cw prog 180 2 2:=cw.of underlying180 rfl rfl xt rfl
theorem qX:cw prog 44 0 0:=cw.of underlying44 rfl rfl bp rfl
theorem tu:cS prog 183 (default:ed):=cS.of (by kernel_rfl)
theorem K1:ie prog 183 #[(0,1),(1,1),(2,1),(3,1)]:=⟨_,underlying183,by kernel_rfl,by kernel_rfl⟩
theorem zS:bF prog 183 ed:=bF.of (by rfl) underlying183 (by kernel_rfl)
theorem zz:j3 prog 180 [2]:=by unfold j3;kernel_rfl
theorem aen:bA prog 52:=⟨_,func52,rfl,by kernel_rfl⟩
theorem LF:bF prog 29 (List c4):=bF.of (by rfl) underlying29 (by kernel_rfl)
theorem QV:cw prog 32 6 6:=cw.of underlying32 rfl rfl LF rfl
theorem vl:cS prog 113 (default:gC):=cS.of (by kernel_rfl)
theorem C3:ie prog 113 #[(0,1),(1,1)]:=⟨_,underlying113,by kernel_rfl,by kernel_rfl⟩
theorem K3:bF prog 113 gC:=bF.of (by rfl) underlying113 (by kernel_rfl)
theorem Hm:bF prog 28 (List gC):=bF.of (by rfl) underlying28 (by kernel_rfl)
theorem KA:cw prog 32 5 5:=cw.of underlying32 rfl rfl Hm rfl
theorem xM:bF prog 30 (List fK):=bF.of (by rfl) underlying30 (by kernel_rfl)
theorem zI:cw prog 32 7 7:=cw.of underlying32 rfl rfl xM rfl
theorem so:cS prog 115 (default:fK):=cS.of (by kernel_rfl)
theorem Hb:ie prog 115 #[(0,1),(1,1),(2,1),(3,1),(4,1),(5,1)]:=⟨_,underlying115,by kernel_rfl,by kernel_rfl⟩
theorem zT:bF prog 115 fK:=bF.of (by rfl) underlying115 (by kernel_rfl)
theorem PE:j3 prog 32 [5,7]:=by unfold j3;kernel_rfl
theorem TR:bA prog 8:=⟨_,func8,rfl,by kernel_rfl⟩
structure ij where
 gq:aZ
 oL:fR
 lr:Int
 deriving DecidableEq,Inhabited
instance:ak ij:= .str (dR aZ (dR fR (iE Int))) (fun x=>(x.gq,x.oL,x.lr)) 12
def A4:aL ij aZ:= .str ea 0 ij.gq fun b g=>{ b with gq:=g }
def A2:aL ij fR:= .str (bJ ea) 10 ij.oL fun b g=>{ b with oL:=g }
def yF:aL ij Int:= .str (bJ (bJ jc)) 11 ij.lr fun b g=>{ b with lr:=g }
instance:bh ij:=⟨bh.cells aZ++bh.cells fR++bh.cells Int,fun A W=>⟨by rfl,bh.ok (α:=aZ) A W,bh.ok (α:=fR) A W,bh.ok (α:=Int) A W⟩⟩
theorem abW:cS prog 163 (default:ij):=cS.of (by kernel_rfl)
theorem abV:ie prog 163 #[(0,10),(10,1),(11,1)]:=⟨_,underlying163,by kernel_rfl,by kernel_rfl⟩
theorem Gx:cw prog 163 0 0:=cw.of underlying163 rfl rfl fU rfl
theorem ad3:bA prog 83:=⟨_,func83,rfl,by kernel_rfl⟩
theorem ad4:bA prog 82:=⟨_,func82,rfl,by kernel_rfl⟩
theorem LG:bA prog 53:=⟨_,func53,rfl,by kernel_rfl⟩
theorem u2:cw prog 39 2 2:=cw.of underlying39 rfl rfl bp rfl
theorem ad8:bA prog 54:=⟨_,func54,rfl,by kernel_rfl⟩
structure bW where
 fm:Bool
 cU:az
 gy:az
 en:Int
 jG:az
 deriving DecidableEq,Inhabited
instance:ak bW:= .str (dR Bool (dR az (dR az (dR Int (iE az))))) (fun x=>(x.fm,x.cU,x.gy,x.en,x.jG)) 8
def nE:aL bW Bool:= .str ea 0 bW.fm fun b g=>{ b with fm:=g }
def j7:aL bW az:= .str (bJ ea) 1 bW.cU fun b g=>{ b with cU:=g }
def oI:aL bW az:= .str (bJ (bJ ea)) 3 bW.gy fun b g=>{ b with gy:=g }
def m1:aL bW Int:= .str (bJ (bJ (bJ ea))) 5 bW.en fun b g=>{ b with en:=g }
def sX:aL bW az:= .str (bJ (bJ (bJ (bJ jc)))) 6 bW.jG fun b g=>{ b with jG:=g }
instance:bh bW:=⟨bh.cells Bool++bh.cells az++bh.cells az++bh.cells Int++bh.cells az,fun A W=>⟨by rfl,bh.ok (α:=Bool) A W,bh.ok (α:=az) A W,bh.ok (α:=az) A W,bh.ok (α:=Int) A W,bh.ok (α:=az) A W⟩⟩
structure a8 where
 cO:Int
 bU:List bW
 fP:Int
 h7:Int
 hl:List az
 deriving DecidableEq,Inhabited
instance:ak a8:= .str (dR Int (dR (List bW) (dR Int (dR Int (iE (List az)))))) (fun x=>(x.cO,x.bU,x.fP,x.h7,x.hl)) 5
def j8:aL a8 Int:= .str ea 0 a8.cO fun b g=>{ b with cO:=g }
def j6:aL a8 (List bW):= .str (bJ ea) 1 a8.bU fun b g=>{ b with bU:=g }
def n8:aL a8 Int:= .str (bJ (bJ ea)) 2 a8.fP fun b g=>{ b with fP:=g }
def sV:aL a8 Int:= .str (bJ (bJ (bJ ea))) 3 a8.h7 fun b g=>{ b with h7:=g }
def rX:aL a8 (List az):= .str (bJ (bJ (bJ (bJ jc)))) 4 a8.hl fun b g=>{ b with hl:=g }
instance:bh a8:=⟨bh.cells Int++bh.cells (List bW)++bh.cells Int++bh.cells Int++bh.cells (List az),fun A W=>⟨by rfl,bh.ok (α:=Int) A W,bh.ok (α:=List bW) A W,bh.ok (α:=Int) A W,bh.ok (α:=Int) A W,bh.ok (α:=List az) A W⟩⟩
structure ax where
 bj:a8
 cl:Int
 il:Int
 deriving DecidableEq,Inhabited
instance:ak ax:= .str (dR a8 (dR Int (iE Int))) (fun x=>(x.bj,x.cl,x.il)) 7
def hh:aL ax a8:= .str ea 0 ax.bj fun b g=>{ b with bj:=g }
def lN:aL ax Int:= .str (bJ ea) 5 ax.cl fun b g=>{ b with cl:=g }
def yB:aL ax Int:= .str (bJ (bJ jc)) 6 ax.il fun b g=>{ b with il:=g }
instance:bh ax:=⟨bh.cells a8++bh.cells Int++bh.cells Int,fun A W=>⟨by rfl,bh.ok (α:=a8) A W,bh.ok (α:=Int) A W,bh.ok (α:=Int) A W⟩⟩
structure kG where
 rm:Ref
 deriving DecidableEq,Inhabited
instance:ak kG:= .str (iE Ref) (fun x=>x.rm) 1
def Bu:aL kG Ref:= .str jc 0 kG.rm fun b g=>{ b with rm:=g }
instance:bh kG:=⟨bh.cells Ref,fun A W=>⟨by rfl,bh.ok (α:=Ref) A W⟩⟩
structure hi where
 ts:Int
 fZ:Int
 oS:fR
 deriving DecidableEq,Inhabited
instance:ak hi:= .str (dR Int (dR Int (iE fR))) (fun x=>(x.ts,x.fZ,x.oS)) 3
def A3:aL hi Int:= .str ea 0 hi.ts fun b g=>{ b with ts:=g }
def Fh:aL hi Int:= .str (bJ ea) 1 hi.fZ fun b g=>{ b with fZ:=g }
def rT:aL hi fR:= .str (bJ (bJ jc)) 2 hi.oS fun b g=>{ b with oS:=g }
instance:bh hi:=⟨bh.cells Int++bh.cells Int++bh.cells fR,fun A W=>⟨by rfl,bh.ok (α:=Int) A W,bh.ok (α:=Int) A W,bh.ok (α:=fR) A W⟩⟩
structure j9 where
 cg:Ref
 deriving DecidableEq,Inhabited
instance:ak j9:= .str (iE Ref) (fun x=>x.cg) 1
def Bv:aL j9 Ref:= .str jc 0 j9.cg fun b g=>{ b with cg:=g }
instance:bh j9:=⟨bh.cells Ref,fun A W=>⟨by rfl,bh.ok (α:=Ref) A W⟩⟩
inductive g6 where
 | nil
 | nm (x:kG)
 | nn (x:hi)
 | nq (x:j9)
 deriving DecidableEq,Inhabited
instance:ak g6 where
 size:=1
 agg:=false
 rep A W cs x:=match x with
  | .nil=>cs= [.nilIface]
  | .nm x=> ∃ v,cs= [.iface 127 v]∧ (I.of x).holds A W v
  | .nn x=> ∃ v,cs= [.iface 130 v]∧ (I.of x).holds A W v
  | .nq x=> ∃ v,cs= [.iface 134 v]∧ (I.of x).holds A W v
 len {A W cs x} h:=by cases x <;> first | (have h:cs=_:=h;rw [h];rfl) | (obtain⟨v,h,_⟩:=h;rw [h];rfl)
 one {A W cs x} h:=by
  intro u hu;cases x <;> first | (have h:cs=_:=h;rw [h] at hu;rw [List.mem_singleton.1 hu];rfl) | (obtain⟨v,h,_⟩:=h;rw [h] at hu;rw [List.mem_singleton.1 hu];rfl)
 flat _:=rfl
 mono {A W dy W' cs x} e h:=by cases x <;> first | exact h | (obtain⟨v,h,ae⟩:=h;exact⟨v,h,I.mono _ e ae⟩)
instance:bh g6:=⟨[.nilIface],fun _ _=>rfl⟩
theorem X9 {A W v}{x:kG}(h:(I.of x).holds A W v):(I.of (g6.nm x)).holds A W (.iface 127 v):=⟨rfl,v,rfl,h⟩
theorem F8 {A W u}{x:kG}(h:(I.of (g6.nm x)).holds A W u):∃ v,u= .iface 127 v∧ (I.of x).holds A W v:=by
 obtain⟨aa,v,ae,aG⟩:=h;exact⟨v,pw aa ae,aG⟩
theorem Ya {A W v}{x:hi}(h:(I.of x).holds A W v):(I.of (g6.nn x)).holds A W (.iface 130 v):=⟨rfl,v,rfl,h⟩
theorem F9 {A W u}{x:hi}(h:(I.of (g6.nn x)).holds A W u):∃ v,u= .iface 130 v∧ (I.of x).holds A W v:=by
 obtain⟨aa,v,ae,aG⟩:=h;exact⟨v,pw aa ae,aG⟩
theorem Yb {A W v}{x:j9}(h:(I.of x).holds A W v):(I.of (g6.nq x)).holds A W (.iface 134 v):=⟨rfl,v,rfl,h⟩
theorem Ga {A W u}{x:j9}(h:(I.of (g6.nq x)).holds A W u):∃ v,u= .iface 134 v∧ (I.of x).holds A W v:=by
 obtain⟨aa,v,ae,aG⟩:=h;exact⟨v,pw aa ae,aG⟩
structure hj where
 tl:Int
 qg:Int
 jt:g6
 kI:fR
 deriving DecidableEq,Inhabited
instance:ak hj:= .str (dR Int (dR Int (dR g6 (iE fR)))) (fun x=>(x.tl,x.qg,x.jt,x.kI)) 4
def Vz:aL hj Int:= .str ea 0 hj.tl fun b g=>{ b with tl:=g }
def NY:aL hj Int:= .str (bJ ea) 1 hj.qg fun b g=>{ b with qg:=g }
def uF:aL hj g6:= .str (bJ (bJ ea)) 2 hj.jt fun b g=>{ b with jt:=g }
def wu:aL hj fR:= .str (bJ (bJ (bJ jc))) 3 hj.kI fun b g=>{ b with kI:=g }
instance:bh hj:=⟨bh.cells Int++bh.cells Int++bh.cells g6++bh.cells fR,fun A W=>⟨by rfl,bh.ok (α:=Int) A W,bh.ok (α:=Int) A W,bh.ok (α:=g6) A W,bh.ok (α:=fR) A W⟩⟩
theorem abM:cS prog 123 (default:hj):=cS.of (by kernel_rfl)
theorem abL:ie prog 123 #[(0,1),(1,1),(2,1),(3,1)]:=⟨_,underlying123,by kernel_rfl,by kernel_rfl⟩
structure ob where
 pC:fR
 deriving DecidableEq,Inhabited
instance:ak ob:= .str (iE fR) (fun x=>x.pC) 1
def Bh:aL ob fR:= .str jc 0 ob.pC fun b g=>{ b with pC:=g }
instance:bh ob:=⟨bh.cells fR,fun A W=>⟨by rfl,bh.ok (α:=fR) A W⟩⟩
theorem aby:cS prog 188 (default:ob):=cS.of (by kernel_rfl)
theorem abx:ie prog 188 #[(0,1)]:=⟨_,underlying188,by kernel_rfl,by kernel_rfl⟩
theorem ad9:bA prog 55:=⟨_,func55,rfl,by kernel_rfl⟩
theorem abO:cS prog 127 (default:kG):=cS.of (by kernel_rfl)
theorem abN:ie prog 127 #[(0,1)]:=⟨_,underlying127,by kernel_rfl,by kernel_rfl⟩
theorem tr:bF prog 121 g6:=bF.of (by rfl) underlying121 (by kernel_rfl)
theorem uW:cw prog 123 2 2:=cw.of underlying123 rfl rfl tr rfl
theorem J2:cw prog 105 0 0:=cw.of underlying105 rfl rfl bp rfl
theorem ad5:bA prog 85:=⟨_,func85,rfl,by kernel_rfl⟩
theorem ad6:bA prog 84:=⟨_,func84,rfl,by kernel_rfl⟩
theorem GO:cw prog 39 1 1:=cw.of underlying39 rfl rfl bp rfl
theorem S5:bA prog 56:=⟨_,func56,rfl,by kernel_rfl⟩
theorem Gr:cw prog 105 2 2:=cw.of underlying105 rfl rfl bp rfl
theorem abQ:cS prog 130 (default:hi):=cS.of (by kernel_rfl)
theorem abP:ie prog 130 #[(0,1),(1,1),(2,1)]:=⟨_,underlying130,by kernel_rfl,by kernel_rfl⟩
structure cN where
 py:aZ
 cg:List ax
 deriving DecidableEq,Inhabited
instance:ak cN:= .str (dR aZ (iE (List ax))) (fun x=>(x.py,x.cg)) 11
def Fe:aL cN aZ:= .str ea 0 cN.py fun b g=>{ b with py:=g }
def yM:aL cN (List ax):= .str (bJ jc) 10 cN.cg fun b g=>{ b with cg:=g }
instance:bh cN:=⟨bh.cells aZ++bh.cells (List ax),fun A W=>⟨by rfl,bh.ok (α:=aZ) A W,bh.ok (α:=List ax) A W⟩⟩
theorem abA:cS prog 192 (default:cN):=cS.of (by kernel_rfl)
theorem abz:ie prog 192 #[(0,10),(10,1)]:=⟨_,underlying192,by kernel_rfl,by kernel_rfl⟩
theorem aea:bA prog 57:=⟨_,func57,rfl,by kernel_rfl⟩
theorem Y3:j3 prog 192 [10]:=by unfold j3;kernel_rfl
theorem abU:cS prog 134 (default:j9):=cS.of (by kernel_rfl)
theorem abT:ie prog 134 #[(0,1)]:=⟨_,underlying134,by kernel_rfl,by kernel_rfl⟩
theorem CV:bF prog 161 fR:=bF.of (by rfl) underlying161 (by kernel_rfl)
theorem Gs:cw prog 163 1 10:=cw.of underlying163 rfl rfl CV rfl
theorem afQ:bA prog 9:=⟨_,func9,rfl,by kernel_rfl⟩
theorem xW:po prog 3 Int:=abb underlying3
structure bZ where
 ou:aZ
 cb:List ax
 h0:Int
 deriving DecidableEq,Inhabited
instance:ak bZ:= .str (dR aZ (dR (List ax) (iE Int))) (fun x=>(x.ou,x.cb,x.h0)) 12
def FF:aL bZ aZ:= .str ea 0 bZ.ou fun b g=>{ b with ou:=g }
def n9:aL bZ (List ax):= .str (bJ ea) 10 bZ.cb fun b g=>{ b with cb:=g }
def uH:aL bZ Int:= .str (bJ (bJ jc)) 11 bZ.h0 fun b g=>{ b with h0:=g }
instance:bh bZ:=⟨bh.cells aZ++bh.cells (List ax)++bh.cells Int,fun A W=>⟨by rfl,bh.ok (α:=aZ) A W,bh.ok (α:=List ax) A W,bh.ok (α:=Int) A W⟩⟩
theorem ad1:cS prog 95 (default:bZ):=cS.of (by kernel_rfl)
theorem ad0:ie prog 95 #[(0,10),(10,1),(11,1)]:=⟨_,underlying95,by kernel_rfl,by kernel_rfl⟩
theorem Tn:bA prog 37:=⟨_,func37,rfl,by kernel_rfl⟩
theorem aeU:bA prog 38:=⟨_,func38,rfl,by kernel_rfl⟩
theorem tC:cS prog 53 (default:a8):=cS.of (by kernel_rfl)
theorem aef:bA prog 15:=⟨_,func15,rfl,by kernel_rfl⟩
theorem S7:ie prog 53 #[(0,1),(1,1),(2,1),(3,1),(4,1)]:=⟨_,underlying53,by kernel_rfl,by kernel_rfl⟩
theorem eF:bF prog 53 a8:=bF.of (by rfl) underlying53 (by kernel_rfl)
theorem mO:cS prog 50 (default:bW):=cS.of (by kernel_rfl)
theorem aed:bA prog 96:=⟨_,func96,rfl,by kernel_rfl⟩
theorem eR:bF prog 46 (BitVec 64):=bF.of (by rfl) underlying46 (by kernel_rfl)
theorem kr:cw prog 48 0 0:=cw.of underlying48 rfl rfl eR rfl
theorem iz:cw prog 48 1 1:=cw.of underlying48 rfl rfl eR rfl
theorem LH:bA prog 19:=⟨_,func19,rfl,by kernel_rfl⟩
theorem aee:bA prog 97:=⟨_,func97,rfl,by kernel_rfl⟩
theorem QS:Nw prog 48 1 46 1:=⟨_,_,underlying48,rfl,rfl,rfl⟩
theorem vB:ie prog 50 #[(0,1),(1,2),(3,2),(5,1),(6,2)]:=⟨_,underlying50,by kernel_rfl,by kernel_rfl⟩
theorem fH:bF prog 50 bW:=bF.of (by rfl) underlying50 (by kernel_rfl)
theorem ke:bF prog 51 (List bW):=bF.of (by rfl) underlying51 (by kernel_rfl)
theorem ks:cw prog 53 1 1:=cw.of underlying53 rfl rfl ke rfl
theorem aeg:bA prog 64:=⟨_,func64,rfl,by kernel_rfl⟩
theorem oe:cw prog 53 2 2:=cw.of underlying53 rfl rfl bp rfl
theorem la:bF prog 41 (List Int):=bF.of (by rfl) underlying41 (by kernel_rfl)
theorem QW:cw prog 44 3 3:=cw.of underlying44 rfl rfl la rfl
theorem u9:cw prog 53 3 3:=cw.of underlying53 rfl rfl bp rfl
theorem Qf:cw prog 153 0 0:=cw.of underlying153 rfl rfl bp rfl
theorem aeh:bA prog 65:=⟨_,func65,rfl,by kernel_rfl⟩
theorem ZX:Nw prog 153 2 150 2:=⟨_,_,underlying153,rfl,rfl,rfl⟩
theorem abX:bF prog 150 (List jE):=bF.of (by rfl) underlying150 (by kernel_rfl)
theorem q8:bF prog 42 (List az):=bF.of (by rfl) underlying42 (by kernel_rfl)
theorem sh:cw prog 53 4 4:=cw.of underlying53 rfl rfl q8 rfl
theorem ZY:cw prog 156 1 1:=cw.of underlying156 rfl rfl bp rfl
theorem PD:j3 prog 53 [1,4]:=by unfold j3;kernel_rfl
theorem To:bA prog 27:=⟨_,func27,rfl,by kernel_rfl⟩
theorem kL:cw prog 53 0 0:=cw.of underlying53 rfl rfl bp rfl
theorem S1:cS prog 36 (default:Ref):=cS.of (by kernel_rfl)
theorem Aa:bA prog 72:=⟨_,func72,rfl,by kernel_rfl⟩
theorem eU:cS prog 56 (default:ax):=cS.of (by kernel_rfl)
theorem rb:ie prog 56 #[(0,5),(5,1),(6,1)]:=⟨_,underlying56,by kernel_rfl,by kernel_rfl⟩
theorem bV:bF prog 56 ax:=bF.of (by rfl) underlying56 (by kernel_rfl)
theorem z6:cS prog 60 (default:Vector az 4):=cS.of (by kernel_rfl)
theorem mh:cw prog 50 1 1:=cw.of underlying50 rfl rfl bS rfl
theorem nP:qO prog 60 4 2:=qO.of underlying60 bS rfl
theorem jJ:bF prog 60 (Vector az 4):=bF.of (by rfl) underlying60 (by kernel_rfl)
theorem CW:bF prog 186 fR:=bF.of (by rfl) underlying186 (by kernel_rfl)
theorem Gt:cw prog 188 0 0:=cw.of underlying188 rfl rfl CW rfl
instance ah3:me az where
 uniq {A W cs dy W' eA x} h de:=by
  refine aak h.1 de.1 ?_;refine PL 0 (ak.size (BitVec 64)) (me.uniq h.2.1 de.2.1) ?_;refine PL 1 (ak.size (BitVec 64)) (me.uniq h.2.2 de.2.2) ?_;exact aal h.1 de.1 (by decide)
 plain {A W cs x} h:=by
  intro u hu n;have bO:=GC (o:=0) (s:=ak.size (BitVec 64)) (by simpa using hu);rcases bO with aa | bO
  ·exact me.plain h.2.1 u aa n
  have bO:=GC (s:=ak.size (BitVec 64)) bO;rcases bO with aa | bO
  ·exact me.plain h.2.2 u aa n
  exact Qt h.1 (by rfl) bO
theorem SY:nx prog 46 (BitVec 64) 1:=aac (K:= .u64) underlying46
theorem oh:nx prog 48 az 2:=OX (k:=1) rfl underlying48 (by kernel_rfl) fun d hd A W xs ys x y ar a5=>by
 refine Eq.trans (w5 hV eR rfl (by rfl) SY (by omega) ar a5 (w5 eI eR rfl (by rfl) SY (by omega) ar a5 Qs)) ?_;congr 1;rw [Bool.eq_iff_iff];simp only [Bool.and_eq_true,decide_eq_true_eq,and_true];cases x;cases y;simp [aL.str,hV,eI]
theorem abt:nx prog 287 (Vector az 4) 3:=Qr underlying287 bS oh
theorem TH:sT prog 46 (BitVec 64) 1:=Po underlying46 rfl
theorem TI:sT prog 48 az 2:=Yz (k:=1) rfl underlying48 (.cons hV rfl eR (fun b d A W u x h ar=>TH b d A W u x (by omega) ar) (.cons eI rfl eR (fun b d A W u x h ar=>TH b d A W u x (by omega) ar) (.nil)))
theorem adL:sT prog 287 (Vector az 4) 3:=Rl underlying287 bS TI
theorem G2:po prog 287 (Vector az 4):=Rm underlying287 rfl adL abt rfl rfl
theorem CX:bF prog 124 Ref:=bF.of (by rfl) underlying124 (by kernel_rfl)
theorem Gw:cw prog 127 0 0:=cw.of underlying127 rfl rfl CX rfl
theorem G4:bA prog 197:=⟨_,func197,rfl,by kernel_rfl⟩
theorem KV:bA prog 196:=⟨_,func196,rfl,by kernel_rfl⟩
theorem CY:bF prog 130 hi:=bF.of (by rfl) underlying130 (by kernel_rfl)
theorem xq:cS prog 288 (default:Vector az 4):=cS.of (by kernel_rfl)
theorem Gu:cw prog 130 0 0:=cw.of underlying130 rfl rfl bp rfl
theorem k9:bF prog 288 (Vector az 4):=bF.of (by rfl) underlying288 (by kernel_rfl)
theorem RN:bA prog 206:=⟨_,func206,rfl,by kernel_rfl⟩
theorem oU:cw prog 50 3 5:=cw.of underlying50 rfl rfl bp rfl
theorem Lh:bA prog 204:=⟨_,func204,rfl,by kernel_rfl⟩
theorem xw:cS prog 299 (default:Ref):=cS.of (by kernel_rfl)
theorem RO:bA prog 169:=⟨_,func169,rfl,by kernel_rfl⟩
theorem RP:bA prog 168:=⟨_,func168,rfl,by kernel_rfl⟩
theorem K6:bA prog 148:=⟨_,func148,rfl,by kernel_rfl⟩
theorem ab1:bA prog 153:=⟨_,func153,rfl,by kernel_rfl⟩
theorem w8:cw prog 305 0 0:=cw.of underlying305 rfl rfl bp rfl
structure fX where
 fZ:Int
 ep:Ref
 deriving DecidableEq,Inhabited
instance:ak fX:= .str (dR Int (iE Ref)) (fun x=>(x.fZ,x.ep)) 2
def uG:aL fX Int:= .str ea 0 fX.fZ fun b g=>{ b with fZ:=g }
def sZ:aL fX Ref:= .str (bJ jc) 1 fX.ep fun b g=>{ b with ep:=g }
instance:bh fX:=⟨bh.cells Int++bh.cells Ref,fun A W=>⟨by rfl,bh.ok (α:=Int) A W,bh.ok (α:=Ref) A W⟩⟩
theorem RZ:bA prog 149:=⟨_,func149,rfl,by kernel_rfl⟩
theorem C5:bA prog 116:=⟨_,func116,rfl,by kernel_rfl⟩
theorem sk:prog.eqGuardType prog.depth 48=false:=by kernel_rfl
theorem R5:bA prog 216:=⟨_,func216,rfl,by kernel_rfl⟩
theorem eC:bF prog 299 Ref:=bF.of (by rfl) underlying299 (by kernel_rfl)
theorem ti:cw prog 305 1 1:=cw.of underlying305 rfl rfl eC rfl
theorem Hd:bA prog 215:=⟨_,func215,rfl,by kernel_rfl⟩
theorem RW:bF prog 289 Ref:=bF.of (by rfl) underlying289 (by kernel_rfl)
theorem RY:bA prog 172:=⟨_,func172,rfl,by kernel_rfl⟩
theorem RR:bF prog 301 (Vector Ref 2):=bF.of (by rfl) underlying301 (by kernel_rfl)
theorem sa:cw prog 303 0 0:=cw.of underlying303 rfl rfl RR rfl
theorem tx:qO prog 301 2 1:=qO.of underlying301 eC rfl
structure ec where
 df:Vector Ref 2
 fu:Bool
 hY:Int
 deriving DecidableEq,Inhabited
instance:ak ec:= .str (dR (Vector Ref 2) (dR Bool (iE Int))) (fun x=>(x.df,x.fu,x.hY)) 4
def rU:aL ec (Vector Ref 2):= .str ea 0 ec.df fun b g=>{ b with df:=g }
def rW:aL ec Bool:= .str (bJ ea) 2 ec.fu fun b g=>{ b with fu:=g }
def BH:aL ec Int:= .str (bJ (bJ jc)) 3 ec.hY fun b g=>{ b with hY:=g }
instance:bh ec:=⟨bh.cells (Vector Ref 2)++bh.cells Bool++bh.cells Int,fun A W=>⟨by rfl,bh.ok (α:=Vector Ref 2) A W,bh.ok (α:=Bool) A W,bh.ok (α:=Int) A W⟩⟩
theorem He:bA prog 220:=⟨_,func220,rfl,by kernel_rfl⟩
theorem Sa:bA prog 212:=⟨_,func212,rfl,by kernel_rfl⟩
theorem r8:cw prog 303 1 2:=cw.of underlying303 rfl rfl fW rfl
theorem Cw:cw prog 303 2 3:=cw.of underlying303 rfl rfl bp rfl
theorem sq:bF prog 128 fR:=bF.of (by rfl) underlying128 (by kernel_rfl)
theorem tj:cw prog 130 2 2:=cw.of underlying130 rfl rfl sq rfl
theorem abu:nx prog 288 (Vector az 4) 3:=Qr underlying288 bS oh
theorem adM:sT prog 288 (Vector az 4) 3:=Rl underlying288 bS TI
theorem vp:po prog 288 (Vector az 4):=Rm underlying288 rfl adM abu rfl rfl
theorem zW:cS prog 289 (default:Ref):=cS.of (by kernel_rfl)
theorem Sg:bA prog 205:=⟨_,func205,rfl,by kernel_rfl⟩
theorem C6:bF prog 131 Ref:=bF.of (by rfl) underlying131 (by kernel_rfl)
theorem GA:cw prog 134 0 0:=cw.of underlying134 rfl rfl C6 rfl
theorem jT:bF prog 67 (List ax):=bF.of (by rfl) underlying67 (by kernel_rfl)
theorem tf:cw prog 192 1 10:=cw.of underlying192 rfl rfl jT rfl
theorem hN:cw prog 56 0 0:=cw.of underlying56 rfl rfl eF rfl
theorem abD:bA prog 112:=⟨_,func112,rfl,by kernel_rfl⟩
theorem abE:bA prog 113:=⟨_,func113,rfl,by kernel_rfl⟩
theorem aep:bA prog 86:=⟨_,func86,rfl,by kernel_rfl⟩
theorem z9:bA prog 58:=⟨_,func58,rfl,by kernel_rfl⟩
theorem acn:bA prog 234:=⟨_,func234,rfl,by kernel_rfl⟩
theorem acs:bA prog 229:=⟨_,func229,rfl,by kernel_rfl⟩
theorem afJ:nx prog 4 Bool 1:=Zg underlying4
theorem afK:nx prog 3 Int 1:=Qq (K:= .i64) underlying3
theorem RL:nx prog 50 bW 3:=OX (k:=2) rfl underlying50 (by kernel_rfl) fun d hd A W xs ys x y ar a5=>by
 refine Eq.trans (w5 nE fW rfl (by rfl) afJ (by omega) ar a5 (w5 j7 bS rfl (by rfl) oh (by omega) ar a5 (w5 oI bS rfl (by rfl) oh (by omega) ar a5 (w5 m1 bp rfl (by rfl) afK (by omega) ar a5 (w5 sX bS rfl (by rfl) oh (by omega) ar a5 Qs))))) ?_;congr 1;rw [Bool.eq_iff_iff];simp only [Bool.and_eq_true,decide_eq_true_eq,and_true];cases x;cases y;simp [aL.str,nE,j7,oI,m1,sX]
theorem RM:prog.eqGuardType prog.depth 50=false:=by kernel_rfl
theorem abF:bA prog 235:=⟨_,func235,rfl,by kernel_rfl⟩
theorem acu:bA prog 230:=⟨_,func230,rfl,by kernel_rfl⟩
theorem nb:cw prog 56 1 5:=cw.of underlying56 rfl rfl bp rfl
theorem adN:bA prog 192:=⟨_,func192,rfl,by kernel_rfl⟩
theorem Yf:jf prog 127 "matchguard/index.find" 192:=jf.qE (by kernel_rfl) underlying127 rfl adN
theorem adO:bA prog 200:=⟨_,func200,rfl,by kernel_rfl⟩
theorem Yg:jf prog 130 "matchguard/index.find" 200:=jf.qE (by kernel_rfl) underlying130 rfl adO
theorem adP:bA prog 225:=⟨_,func225,rfl,by kernel_rfl⟩
theorem Yh:jf prog 134 "matchguard/index.find" 225:=jf.qE (by kernel_rfl) underlying134 rfl adP
theorem xr:bF prog 119 fR:=bF.of (by rfl) underlying119 (by kernel_rfl)
theorem zx:cw prog 123 3 3:=cw.of underlying123 rfl rfl xr rfl
theorem Tl:bA prog 59:=⟨_,func59,rfl,by kernel_rfl⟩
theorem Tm:bA prog 32:=⟨_,func32,rfl,by kernel_rfl⟩
theorem QX:cw prog 44 6 6:=cw.of underlying44 rfl rfl bp rfl
theorem Tb:bA prog 13:=⟨_,func13,rfl,by kernel_rfl⟩
theorem aeP:bA prog 73:=⟨_,func73,rfl,by kernel_rfl⟩
theorem Cv:cw prog 163 2 11:=cw.of underlying163 rfl rfl bp rfl
theorem abG:bA prog 198:=⟨_,func198,rfl,by kernel_rfl⟩
theorem abC:cS prog 305 (default:fX):=cS.of (by kernel_rfl)
theorem abB:ie prog 305 #[(0,1),(1,1)]:=⟨_,underlying305,by kernel_rfl,by kernel_rfl⟩
theorem J9:cw prog 130 1 1:=cw.of underlying130 rfl rfl bp rfl
theorem acG:bA prog 208:=⟨_,func208,rfl,by kernel_rfl⟩
theorem Sc:cS prog 303 (default:ec):=cS.of (by kernel_rfl)
theorem Sb:ie prog 303 #[(0,2),(2,1),(3,1)]:=⟨_,underlying303,by kernel_rfl,by kernel_rfl⟩
theorem acF:bA prog 209:=⟨_,func209,rfl,by kernel_rfl⟩
theorem RU:bA prog 244:=⟨_,func244,rfl,by kernel_rfl⟩
theorem Ta:bA prog 87:=⟨_,func87,rfl,by kernel_rfl⟩
theorem R2:bA prog 237:=⟨_,func237,rfl,by kernel_rfl⟩
theorem RV:bA prog 146:=⟨_,func146,rfl,by kernel_rfl⟩
theorem R0:bA prog 170:=⟨_,func170,rfl,by kernel_rfl⟩
theorem ab4:bA prog 171:=⟨_,func171,rfl,by kernel_rfl⟩
theorem ab3:bA prog 114:=⟨_,func114,rfl,by kernel_rfl⟩
theorem vo:bA prog 106:=⟨_,func106,rfl,by kernel_rfl⟩
theorem R6:bA prog 150:=⟨_,func150,rfl,by kernel_rfl⟩
theorem Lb:bA prog 105:=⟨_,func105,rfl,by kernel_rfl⟩
theorem J8:cw prog 192 0 0:=cw.of underlying192 rfl rfl fU rfl
theorem R7:bA prog 118:=⟨_,func118,rfl,by kernel_rfl⟩
theorem acL:bA prog 238:=⟨_,func238,rfl,by kernel_rfl⟩
theorem acM:bA prog 239:=⟨_,func239,rfl,by kernel_rfl⟩
theorem acN:bA prog 240:=⟨_,func240,rfl,by kernel_rfl⟩
theorem acQ:bA prog 232:=⟨_,func232,rfl,by kernel_rfl⟩
theorem adQ:bA prog 194:=⟨_,func194,rfl,by kernel_rfl⟩
theorem Yi:jf prog 127 "matchguard/index.put" 194:=jf.qE (by kernel_rfl) underlying127 rfl adQ
theorem adR:bA prog 202:=⟨_,func202,rfl,by kernel_rfl⟩
theorem Yj:jf prog 130 "matchguard/index.put" 202:=jf.qE (by kernel_rfl) underlying130 rfl adR
theorem adS:bA prog 227:=⟨_,func227,rfl,by kernel_rfl⟩
theorem Yk:jf prog 134 "matchguard/index.put" 227:=jf.qE (by kernel_rfl) underlying134 rfl adS
theorem LQ:bA prog 10:=⟨_,func10,rfl,by kernel_rfl⟩
theorem Hr:bA prog 39:=⟨_,func39,rfl,by kernel_rfl⟩
theorem RQ:cS prog 233 (default:Vector (List Int) 6):=cS.of (by kernel_rfl)
theorem ql:qO prog 233 6 1:=qO.of underlying233 la rfl
theorem ZR:cw prog 107 0 0:=cw.of underlying107 rfl rfl bp rfl
theorem ZS:cw prog 169 0 0:=cw.of underlying169 rfl rfl bp rfl
theorem ZT:cw prog 180 0 0:=cw.of underlying180 rfl rfl bp rfl
theorem Wi:j3 prog 233 [0,1,2,3,4,5]:=by unfold j3;kernel_rfl
theorem KW:bF prog 233 (Vector (List Int) 6):=bF.of (by rfl) underlying233 (by kernel_rfl)
theorem RS:bA prog 131:=⟨_,func131,rfl,by kernel_rfl⟩
theorem RT:bA prog 130:=⟨_,func130,rfl,by kernel_rfl⟩
theorem KB:cw prog 95 0 0:=cw.of underlying95 rfl rfl fU rfl
theorem K5:bA prog 111:=⟨_,func111,rfl,by kernel_rfl⟩
theorem LL:bA prog 74:=⟨_,func74,rfl,by kernel_rfl⟩
theorem og:cw prog 95 1 10:=cw.of underlying95 rfl rfl jT rfl
theorem tk:cw prog 50 0 0:=cw.of underlying50 rfl rfl fW rfl
theorem vi:cS prog 256 (default:Vector Bool 128):=cS.of (by kernel_rfl)
theorem qk:qO prog 256 128 1:=qO.of underlying256 fW rfl
theorem sn:bF prog 256 (Vector Bool 128):=bF.of (by rfl) underlying256 (by kernel_rfl)
theorem zQ:bA prog 161:=⟨_,func161,rfl,by kernel_rfl⟩
theorem zU:bA prog 133:=⟨_,func133,rfl,by kernel_rfl⟩
theorem qY:cw prog 50 2 3:=cw.of underlying50 rfl rfl bS rfl
theorem z8:bA prog 99:=⟨_,func99,rfl,by kernel_rfl⟩
theorem zJ:cw prog 50 4 6:=cw.of underlying50 rfl rfl bS rfl
theorem acf:bA prog 132:=⟨_,func132,rfl,by kernel_rfl⟩
theorem Tc:bA prog 98:=⟨_,func98,rfl,by kernel_rfl⟩
theorem aer:bA prog 66:=⟨_,func66,rfl,by kernel_rfl⟩
theorem aet:bA prog 75:=⟨_,func75,rfl,by kernel_rfl⟩
theorem Hn:bA prog 76:=⟨_,func76,rfl,by kernel_rfl⟩
theorem acp:bA prog 100:=⟨_,func100,rfl,by kernel_rfl⟩
theorem Td:bA prog 67:=⟨_,func67,rfl,by kernel_rfl⟩
theorem xf:cw prog 95 2 11:=cw.of underlying95 rfl rfl bp rfl
theorem aeu:bA prog 77:=⟨_,func77,rfl,by kernel_rfl⟩
theorem aeV:bA prog 40:=⟨_,func40,rfl,by kernel_rfl⟩
theorem ab0:bA prog 199:=⟨_,func199,rfl,by kernel_rfl⟩
theorem acR:cS prog 309 (default:List Ref):=cS.of (by kernel_rfl)
theorem aeG:cS prog 41 (default:List Int):=cS.of (by kernel_rfl)
theorem vu:bF prog 309 (List Ref):=bF.of (by rfl) underlying309 (by kernel_rfl)
theorem Z3:j3 prog 309 [0]:=by unfold j3;kernel_rfl
theorem aaY:j3 prog 41 [0]:=by unfold j3;kernel_rfl
theorem abH:cS prog 301 (default:Vector Ref 2):=cS.of (by kernel_rfl)
theorem aaO:prog.eqGuardType prog.depth 301=false:=by kernel_rfl
theorem Sk:bA prog 217:=⟨_,func217,rfl,by kernel_rfl⟩
theorem acS:bA prog 210:=⟨_,func210,rfl,by kernel_rfl⟩
structure dL where
 cU:az
 w0:Int
 bP:Int
 deriving DecidableEq,Inhabited
instance:ak dL:= .str (dR az (dR Int (iE Int))) (fun x=>(x.cU,x.w0,x.bP)) 4
def Vs:aL dL az:= .str ea 0 dL.cU fun b g=>{ b with cU:=g }
def Vj:aL dL Int:= .str (bJ ea) 2 dL.w0 fun b g=>{ b with w0:=g }
def V3:aL dL Int:= .str (bJ (bJ jc)) 3 dL.bP fun b g=>{ b with bP:=g }
instance:bh dL:=⟨bh.cells az++bh.cells Int++bh.cells Int,fun A W=>⟨by rfl,bh.ok (α:=az) A W,bh.ok (α:=Int) A W,bh.ok (α:=Int) A W⟩⟩
theorem acg:cS prog 310 (default:List dL):=cS.of (by kernel_rfl)
theorem K8:bF prog 310 (List dL):=bF.of (by rfl) underlying310 (by kernel_rfl)
theorem K9:cS prog 315 (default:dL):=cS.of (by kernel_rfl)
theorem ab5:ie prog 315 #[(0,2),(2,1),(3,1)]:=⟨_,underlying315,by kernel_rfl,by kernel_rfl⟩
theorem R1:bF prog 315 dL:=bF.of (by rfl) underlying315 (by kernel_rfl)
theorem ab6:bA prog 222:=⟨_,func222,rfl,by kernel_rfl⟩
theorem La:bA prog 223:=⟨_,func223,rfl,by kernel_rfl⟩
theorem ab7:bA prog 160:=⟨_,func160,rfl,by kernel_rfl⟩
theorem ab8:bA prog 159:=⟨_,func159,rfl,by kernel_rfl⟩
theorem ab9:bA prog 154:=⟨_,func154,rfl,by kernel_rfl⟩
theorem Z0:j3 prog 310 [0]:=by unfold j3;kernel_rfl
theorem ach:bA prog 221:=⟨_,func221,rfl,by kernel_rfl⟩
theorem acq:bA prog 218:=⟨_,func218,rfl,by kernel_rfl⟩
theorem acT:bA prog 211:=⟨_,func211,rfl,by kernel_rfl⟩
theorem acb:bA prog 241:=⟨_,func241,rfl,by kernel_rfl⟩
theorem aci:bA prog 233:=⟨_,func233,rfl,by kernel_rfl⟩
theorem adT:bA prog 195:=⟨_,func195,rfl,by kernel_rfl⟩
theorem Yl:jf prog 127 "matchguard/index.remove" 195:=jf.qE (by kernel_rfl) underlying127 rfl adT
theorem adU:bA prog 203:=⟨_,func203,rfl,by kernel_rfl⟩
theorem Ym:jf prog 130 "matchguard/index.remove" 203:=jf.qE (by kernel_rfl) underlying130 rfl adU
theorem adV:bA prog 228:=⟨_,func228,rfl,by kernel_rfl⟩
theorem Yn:jf prog 134 "matchguard/index.remove" 228:=jf.qE (by kernel_rfl) underlying134 rfl adV
theorem aeQ:bA prog 11:=⟨_,func11,rfl,by kernel_rfl⟩
theorem Hq:bA prog 41:=⟨_,func41,rfl,by kernel_rfl⟩
theorem ae7:bA prog 42:=⟨_,func42,rfl,by kernel_rfl⟩
theorem KE:cw prog 56 2 6:=cw.of underlying56 rfl rfl bp rfl
theorem Tp:bA prog 43:=⟨_,func43,rfl,by kernel_rfl⟩
theorem ae8:bA prog 44:=⟨_,func44,rfl,by kernel_rfl⟩
theorem KX:bA prog 145:=⟨_,func145,rfl,by kernel_rfl⟩
theorem acd:bA prog 104:=⟨_,func104,rfl,by kernel_rfl⟩
theorem aca:bA prog 136:=⟨_,func136,rfl,by kernel_rfl⟩
theorem ace:bA prog 103:=⟨_,func103,rfl,by kernel_rfl⟩
theorem R3:bA prog 147:=⟨_,func147,rfl,by kernel_rfl⟩
theorem zV:bA prog 110:=⟨_,func110,rfl,by kernel_rfl⟩
theorem ack:bA prog 108:=⟨_,func108,rfl,by kernel_rfl⟩
theorem acj:bA prog 107:=⟨_,func107,rfl,by kernel_rfl⟩
theorem acm:bA prog 109:=⟨_,func109,rfl,by kernel_rfl⟩
theorem aes:bA prog 71:=⟨_,func71,rfl,by kernel_rfl⟩
theorem aew:bA prog 70:=⟨_,func70,rfl,by kernel_rfl⟩
theorem aev:bA prog 69:=⟨_,func69,rfl,by kernel_rfl⟩
theorem aeD:bA prog 36:=⟨_,func36,rfl,by kernel_rfl⟩
theorem Tg:bA prog 78:=⟨_,func78,rfl,by kernel_rfl⟩
theorem aeE:bA prog 63:=⟨_,func63,rfl,by kernel_rfl⟩
theorem Tf:bA prog 22:=⟨_,func22,rfl,by kernel_rfl⟩
theorem Th:bA prog 35:=⟨_,func35,rfl,by kernel_rfl⟩
theorem aeH:bA prog 79:=⟨_,func79,rfl,by kernel_rfl⟩
theorem DJ:bA prog 80:=⟨_,func80,rfl,by kernel_rfl⟩
theorem DI:bA prog 81:=⟨_,func81,rfl,by kernel_rfl⟩
theorem aeW:bA prog 45:=⟨_,func45,rfl,by kernel_rfl⟩
theorem aeZ:bA prog 18:=⟨_,func18,rfl,by kernel_rfl⟩
theorem aeY:bA prog 21:=⟨_,func21,rfl,by kernel_rfl⟩
theorem Z4:cw prog 123 1 1:=cw.of underlying123 rfl rfl bp rfl
theorem abK:bA prog 219:=⟨_,func219,rfl,by kernel_rfl⟩
theorem aco:bA prog 213:=⟨_,func213,rfl,by kernel_rfl⟩
theorem afT:cS prog 1 (default:Raw):=cS.of (by kernel_rfl)
theorem Mh:bF prog 1 Raw:=bF.of (by rfl) underlying1 (by kernel_rfl)
theorem R8:bA prog 214:=⟨_,func214,rfl,by kernel_rfl⟩
theorem acr:bA prog 207:=⟨_,func207,rfl,by kernel_rfl⟩
theorem acO:bA prog 236:=⟨_,func236,rfl,by kernel_rfl⟩
theorem acx:bA prog 248:=⟨_,func248,rfl,by kernel_rfl⟩
theorem acy:bA prog 247:=⟨_,func247,rfl,by kernel_rfl⟩
theorem acA:bA prog 243:=⟨_,func243,rfl,by kernel_rfl⟩
theorem acP:bA prog 242:=⟨_,func242,rfl,by kernel_rfl⟩
theorem acU:bA prog 231:=⟨_,func231,rfl,by kernel_rfl⟩
theorem adW:bA prog 193:=⟨_,func193,rfl,by kernel_rfl⟩
theorem Yo:jf prog 127 "matchguard/index.lookup" 193:=jf.qE (by kernel_rfl) underlying127 rfl adW
theorem adX:bA prog 201:=⟨_,func201,rfl,by kernel_rfl⟩
theorem Yp:jf prog 130 "matchguard/index.lookup" 201:=jf.qE (by kernel_rfl) underlying130 rfl adX
theorem adY:bA prog 226:=⟨_,func226,rfl,by kernel_rfl⟩
theorem Yq:jf prog 134 "matchguard/index.lookup" 226:=jf.qE (by kernel_rfl) underlying134 rfl adY
theorem aeR:bA prog 12:=⟨_,func12,rfl,by kernel_rfl⟩
theorem ae1:bA prog 46:=⟨_,func46,rfl,by kernel_rfl⟩
theorem ad7:bA prog 95:=⟨_,func95,rfl,by kernel_rfl⟩
theorem aex:bA prog 62:=⟨_,func62,rfl,by kernel_rfl⟩
theorem abJ:bA prog 173:=⟨_,func173,rfl,by kernel_rfl⟩
theorem acw:bA prog 162:=⟨_,func162,rfl,by kernel_rfl⟩
theorem aey:bA prog 20:=⟨_,func20,rfl,by kernel_rfl⟩
theorem acz:bA prog 134:=⟨_,func134,rfl,by kernel_rfl⟩
theorem acC:bA prog 101:=⟨_,func101,rfl,by kernel_rfl⟩
theorem R9:bA prog 135:=⟨_,func135,rfl,by kernel_rfl⟩
theorem acD:bA prog 102:=⟨_,func102,rfl,by kernel_rfl⟩
theorem aeF:bA prog 68:=⟨_,func68,rfl,by kernel_rfl⟩
theorem ae3:bA prog 47:=⟨_,func47,rfl,by kernel_rfl⟩
theorem ae5:bA prog 48:=⟨_,func48,rfl,by kernel_rfl⟩
inductive Cell where
 | lb (x:List (Int×ax))
 | oj (x:hj)
 | mQ (x:List ((Vector az 4)×Ref))
 | qt (x:List (Int×Ref))
 | pH (x:ij)
 | o6 (x:List ((Vector az 4)×Int))
 | z5 (x:ob)
 | su (x:cN) (key:Option Nat) (cap:Nat)
 | gM (x:ec)
 | ky (x:fX)
instance:fC Cell where
 ir p k:=match k with
  | .lb x=>[⟨some p,.map x⟩]
  | .oj x=>[⟨some p,.var x⟩]
  | .mQ x=>[⟨some p,.map x⟩]
  | .qt x=>[⟨some p,.map x⟩]
  | .pH x=>[⟨some p,.var x⟩]
  | .o6 x=>[⟨some p,.map x⟩]
  | .z5 x=>[⟨some p,.var x⟩]
  | .su x key cap=>[⟨some p,.cm ({ x with cg:= [] } :cN) [(10,aV key x.cg.length cap)]⟩,⟨key,.row 56 (x.cg:List ax) cap⟩]
  | .gM x=>[⟨some p,.var x⟩]
  | .ky x=>[⟨some p,.var x⟩]
 root p k:=by cases k <;> exact⟨_,List.mem_cons_self ..,rfl⟩
def lx (hp:aN Cell)(p:Nat):Option (List (Int×ax)):=match pat hp p with
 | some (.lb x)=>some x
 | _=>none
theorem qZ {hp:aN Cell}{p:Nat}{x:List (Int×ax)}(h:lx hp p=some x):pat hp p=some (.lb x):=by
 unfold lx at h;split at h
 ·rename_i ae;cases h;exact ae
 cases h
def iq (hp:aN Cell)(p:Nat):Option hj:=match pat hp p with
 | some (.oj x)=>some x
 | _=>none
theorem mJ {hp:aN Cell}{p:Nat}{x:hj}(h:iq hp p=some x):pat hp p=some (.oj x):=by
 unfold iq at h;split at h
 ·rename_i ae;cases h;exact ae
 cases h
def kt (hp:aN Cell)(p:Nat):Option (List ((Vector az 4)×Ref)):=match pat hp p with
 | some (.mQ x)=>some x
 | _=>none
theorem nd {hp:aN Cell}{p:Nat}{x:List ((Vector az 4)×Ref)}(h:kt hp p=some x):pat hp p=some (.mQ x):=by
 unfold kt at h;split at h
 ·rename_i ae;cases h;exact ae
 cases h
def ni (hp:aN Cell)(p:Nat):Option (List (Int×Ref)):=match pat hp p with
 | some (.qt x)=>some x
 | _=>none
theorem xd {hp:aN Cell}{p:Nat}{x:List (Int×Ref)}(h:ni hp p=some x):pat hp p=some (.qt x):=by
 unfold ni at h;split at h
 ·rename_i ae;cases h;exact ae
 cases h
def jR (hp:aN Cell)(p:Nat):Option ij:=match pat hp p with
 | some (.pH x)=>some x
 | _=>none
theorem na {hp:aN Cell}{p:Nat}{x:ij}(h:jR hp p=some x):pat hp p=some (.pH x):=by
 unfold jR at h;split at h
 ·rename_i ae;cases h;exact ae
 cases h
def mM (hp:aN Cell)(p:Nat):Option (List ((Vector az 4)×Int)):=match pat hp p with
 | some (.o6 x)=>some x
 | _=>none
theorem sg {hp:aN Cell}{p:Nat}{x:List ((Vector az 4)×Int)}(h:mM hp p=some x):pat hp p=some (.o6 x):=by
 unfold mM at h;split at h
 ·rename_i ae;cases h;exact ae
 cases h
def nK (hp:aN Cell)(p:Nat):Option ob:=match pat hp p with
 | some (.z5 x)=>some x
 | _=>none
theorem u4 {hp:aN Cell}{p:Nat}{x:ob}(h:nK hp p=some x):pat hp p=some (.z5 x):=by
 unfold nK at h;split at h
 ·rename_i ae;cases h;exact ae
 cases h
def o3 (hp:aN Cell)(p:Nat):Option (cN×Option Nat×Nat):=match pat hp p with
 | some (.su x key cap)=>some (x,key,cap)
 | _=>none
theorem va {hp:aN Cell}{p:Nat}{x:cN×Option Nat×Nat}(h:o3 hp p=some x):pat hp p=some (.su x.1 x.2.1 x.2.2):=by
 unfold o3 at h;split at h
 ·rename_i ae;cases h;exact ae
 cases h
def cZ (hp:aN Cell)(p:Nat):Option ec:=match pat hp p with
 | some (.gM x)=>some x
 | _=>none
theorem jQ {hp:aN Cell}{p:Nat}{x:ec}(h:cZ hp p=some x):pat hp p=some (.gM x):=by
 unfold cZ at h;split at h
 ·rename_i ae;cases h;exact ae
 cases h
def gr (hp:aN Cell)(p:Nat):Option fX:=match pat hp p with
 | some (.ky x)=>some x
 | _=>none
theorem nc {hp:aN Cell}{p:Nat}{x:fX}(h:gr hp p=some x):pat hp p=some (.ky x):=by
 unfold gr at h;split at h
 ·rename_i ae;cases h;exact ae
 cases h
end Go.Proofs.YthkfkliknjiecaaGreat
