/-
  The types of the data, and facts on their tables. Conditions: none.
-/
import Derived.Test.YtdadopcnkghbaaaGreatRows
import Derived.Test.YtdadopcnkghbaaaGreatMl1
import Derived.Test.YtdadopcnkghbaaaGreatMl2
set_option linter.defProp false
set_option linter.unusedVariables false
set_option linter.unusedSimpArgs false
set_option maxRecDepth 100000
namespace Go.Proofs.YtdadopcnkghbaaaGreat
open Go Gv Go.Proofs.Tryz
structure fr where
 da:List (BitVec 8)
 x1:Int
 deriving DecidableEq,Inhabited
instance:ah fr:=.str (cL (aa (BitVec 8)) (fZ Int)) (λx=>(x.da,x.x1)) 2
abbrev aez:aN fr (aa (BitVec 8)):=.str cR 0 fr.da λb g=>{b with da:=g}
abbrev adY:aN fr Int:=.str (bm gm) 1 fr.x1 λb g=>{b with x1:=g}
instance:aT fr:=⟨aT.cells (aa (BitVec 8))++aT.cells Int,λA W=>⟨by rfl,aT.ok (α:=aa (BitVec 8)) A W,aT.ok (α:=Int) A W⟩⟩
instance aaJ:bK prog 5 (BitVec 8):=.i underlying5
instance:hM prog 22 5 (BitVec 8):=⟨underlying22,aaJ⟩
instance:c4 prog 69 (default:fr):=.i
instance apA:bK prog 22 (aa (BitVec 8)):=.i underlying22
instance:b3 prog 69 0 aez:=.i underlying69 I apA
instance:fw prog 69 #[(0,1),(1,1)]:=.i underlying69
def aa2:bD prog 5:=.i func5
structure ia where
 cd:Int
 bO:ByteArray
 jX:Int
 deriving DecidableEq,Inhabited
instance:ah ia:=.str (cL Int (cL ByteArray (fZ Int))) (λx=>(x.cd,x.bO,x.jX)) 3
abbrev aeP:aN ia Int:=.str cR 0 ia.cd λb g=>{b with cd:=g}
abbrev adZ:aN ia ByteArray:=.str (bm cR) 1 ia.bO λb g=>{b with bO:=g}
abbrev ad0:aN ia Int:=.str (bm (bm gm)) 2 ia.jX λb g=>{b with jX:=g}
instance:aT ia:=⟨aT.cells Int++aT.cells ByteArray++aT.cells Int,λA W=>⟨by rfl,aT.ok (α:=Int) A W,aT.ok (α:=ByteArray) A W,aT.ok (α:=Int) A W⟩⟩
structure lR where
 cd:Int
 bO:ByteArray
 iL:List Int
 deriving DecidableEq,Inhabited
instance:ah lR:=.str (cL Int (cL ByteArray (fZ (aa Int)))) (λx=>(x.cd,x.bO,x.iL)) 3
abbrev aeA:aN lR Int:=.str cR 0 lR.cd λb g=>{b with cd:=g}
abbrev adC:aN lR ByteArray:=.str (bm cR) 1 lR.bO λb g=>{b with bO:=g}
abbrev ac3:aN lR (aa Int):=.str (bm (bm gm)) 2 lR.iL λb g=>{b with iL:=g}
instance:aT lR:=⟨aT.cells Int++aT.cells ByteArray++aT.cells (aa Int),λA W=>⟨by rfl,aT.ok (α:=Int) A W,aT.ok (α:=ByteArray) A W,aT.ok (α:=aa Int) A W⟩⟩
structure aV where
 eR:BitVec 64
 dA:BitVec 64
 deriving DecidableEq,Inhabited
instance:ah aV:=.str (cL (BitVec 64) (fZ (BitVec 64))) (λx=>(x.eR,x.dA)) 2
abbrev BN:aN aV (BitVec 64):=.str cR 0 aV.eR λb g=>{b with eR:=g}
abbrev q6:aN aV (BitVec 64):=.str (bm gm) 1 aV.dA λb g=>{b with dA:=g}
instance:aT aV:=⟨aT.cells (BitVec 64)++aT.cells (BitVec 64),λA W=>⟨by rfl,aT.ok (α:=BitVec 64) A W,aT.ok (α:=BitVec 64) A W⟩⟩
structure iK where
 bV:aV
 iz:aV
 vK:Int
 deriving DecidableEq,Inhabited
instance:ah iK:=.str (cL aV (cL aV (fZ Int))) (λx=>(x.bV,x.iz,x.vK)) 5
abbrev Nx:aN iK aV:=.str cR 0 iK.bV λb g=>{b with bV:=g}
abbrev NJ:aN iK aV:=.str (bm cR) 2 iK.iz λb g=>{b with iz:=g}
abbrev NK:aN iK Int:=.str (bm (bm gm)) 4 iK.vK λb g=>{b with vK:=g}
instance:aT iK:=⟨aT.cells aV++aT.cells aV++aT.cells Int,λA W=>⟨by rfl,aT.ok (α:=aV) A W,aT.ok (α:=aV) A W,aT.ok (α:=Int) A W⟩⟩
structure eO where
 cd:Int
 ky:Int
 rU:Int
 sT:List iK
 iY:Int
 deriving DecidableEq,Inhabited
instance:ah eO:=.str (cL Int (cL Int (cL Int (cL (aa iK) (fZ Int))))) (λx=>(x.cd,x.ky,x.rU,x.sT,x.iY)) 5
abbrev UR:aN eO Int:=.str cR 0 eO.cd λb g=>{b with cd:=g}
abbrev Ut:aN eO Int:=.str (bm cR) 1 eO.ky λb g=>{b with ky:=g}
abbrev Uu:aN eO Int:=.str (bm (bm cR)) 2 eO.rU λb g=>{b with rU:=g}
abbrev IQ:aN eO (aa iK):=.str (bm (bm (bm cR))) 3 eO.sT λb g=>{b with sT:=g}
abbrev Uo:aN eO Int:=.str (bm (bm (bm (bm gm)))) 4 eO.iY λb g=>{b with iY:=g}
instance:aT eO:=⟨aT.cells Int++aT.cells Int++aT.cells Int++aT.cells (aa iK)++aT.cells Int,λA W=>⟨by rfl,aT.ok (α:=Int) A W,aT.ok (α:=Int) A W,aT.ok (α:=Int) A W,aT.ok (α:=aa iK) A W,aT.ok (α:=Int) A W⟩⟩
structure nj where
 bO:ByteArray
 jX:Int
 deriving DecidableEq,Inhabited
instance:ah nj:=.str (cL ByteArray (fZ Int)) (λx=>(x.bO,x.jX)) 2
abbrev ad1:aN nj ByteArray:=.str cR 0 nj.bO λb g=>{b with bO:=g}
abbrev ad2:aN nj Int:=.str (bm gm) 1 nj.jX λb g=>{b with jX:=g}
instance:aT nj:=⟨aT.cells ByteArray++aT.cells Int,λA W=>⟨by rfl,aT.ok (α:=ByteArray) A W,aT.ok (α:=Int) A W⟩⟩
structure jB where
 cn:Int
 G1:Int
 bV:aV
 deriving DecidableEq,Inhabited
instance:ah jB:=.str (cL Int (cL Int (fZ aV))) (λx=>(x.cn,x.G1,x.bV)) 4
abbrev adp:aN jB Int:=.str cR 0 jB.cn λb g=>{b with cn:=g}
abbrev aeB:aN jB Int:=.str (bm cR) 1 jB.G1 λb g=>{b with G1:=g}
abbrev ac4:aN jB aV:=.str (bm (bm gm)) 2 jB.bV λb g=>{b with bV:=g}
instance:aT jB:=⟨aT.cells Int++aT.cells Int++aT.cells aV,λA W=>⟨by rfl,aT.ok (α:=Int) A W,aT.ok (α:=Int) A W,aT.ok (α:=aV) A W⟩⟩
structure iX where
 fX:Int
 uF:Int
 vS:jB
 deriving DecidableEq,Inhabited
instance:ah iX:=.str (cL Int (cL Int (fZ jB))) (λx=>(x.fX,x.uF,x.vS)) 6
abbrev aeV:aN iX Int:=.str cR 0 iX.fX λb g=>{b with fX:=g}
abbrev aeQ:aN iX Int:=.str (bm cR) 1 iX.uF λb g=>{b with uF:=g}
abbrev aeR:aN iX jB:=.str (bm (bm gm)) 2 iX.vS λb g=>{b with vS:=g}
instance:aT iX:=⟨aT.cells Int++aT.cells Int++aT.cells jB,λA W=>⟨by rfl,aT.ok (α:=Int) A W,aT.ok (α:=Int) A W,aT.ok (α:=jB) A W⟩⟩
structure e0 where
 cd:Int
 bO:ByteArray
 lS:List nj
 xE:List iX
 hD:ByteArray
 deriving DecidableEq,Inhabited
instance:ah e0:=.str (cL Int (cL ByteArray (cL (aa nj) (cL (aa iX) (fZ ByteArray))))) (λx=>(x.cd,x.bO,x.lS,x.xE,x.hD)) 5
abbrev aeC:aN e0 Int:=.str cR 0 e0.cd λb g=>{b with cd:=g}
abbrev adD:aN e0 ByteArray:=.str (bm cR) 1 e0.bO λb g=>{b with bO:=g}
abbrev ac5:aN e0 (aa nj):=.str (bm (bm cR)) 2 e0.lS λb g=>{b with lS:=g}
abbrev adE:aN e0 (aa iX):=.str (bm (bm (bm cR))) 3 e0.xE λb g=>{b with xE:=g}
abbrev DY:aN e0 ByteArray:=.str (bm (bm (bm (bm gm)))) 4 e0.hD λb g=>{b with hD:=g}
instance:aT e0:=⟨aT.cells Int++aT.cells ByteArray++aT.cells (aa nj)++aT.cells (aa iX)++aT.cells ByteArray,λA W=>⟨by rfl,aT.ok (α:=Int) A W,aT.ok (α:=ByteArray) A W,aT.ok (α:=aa nj) A W,aT.ok (α:=aa iX) A W,aT.ok (α:=ByteArray) A W⟩⟩
structure dn where
 bO:ByteArray
 iy:Int
 cn:Int
 deriving DecidableEq,Inhabited
instance:ah dn:=.str (cL ByteArray (cL Int (fZ Int))) (λx=>(x.bO,x.iy,x.cn)) 3
abbrev E3:aN dn ByteArray:=.str cR 0 dn.bO λb g=>{b with bO:=g}
abbrev EZ:aN dn Int:=.str (bm cR) 1 dn.iy λb g=>{b with iy:=g}
abbrev xe:aN dn Int:=.str (bm (bm gm)) 2 dn.cn λb g=>{b with cn:=g}
instance:aT dn:=⟨aT.cells ByteArray++aT.cells Int++aT.cells Int,λA W=>⟨by rfl,aT.ok (α:=ByteArray) A W,aT.ok (α:=Int) A W,aT.ok (α:=Int) A W⟩⟩
structure bU where
 cd:Int
 bO:ByteArray
 bQ:List dn
 dg:List Int
 iY:Int
 zn:List aV
 gH:Int
 hD:ByteArray
 deriving DecidableEq,Inhabited
instance:ah bU:=.str (cL Int (cL ByteArray (cL (aa dn) (cL (aa Int) (cL Int (cL (aa aV) (cL Int (fZ ByteArray)))))))) (λx=>(x.cd,x.bO,x.bQ,x.dg,x.iY,x.zn,x.gH,x.hD)) 8
abbrev zh:aN bU Int:=.str cR 0 bU.cd λb g=>{b with cd:=g}
abbrev I2:aN bU ByteArray:=.str (bm cR) 1 bU.bO λb g=>{b with bO:=g}
abbrev oS:aN bU (aa dn):=.str (bm (bm cR)) 2 bU.bQ λb g=>{b with bQ:=g}
abbrev Ek:aN bU (aa Int):=.str (bm (bm (bm cR))) 3 bU.dg λb g=>{b with dg:=g}
abbrev IC:aN bU Int:=.str (bm (bm (bm (bm cR)))) 4 bU.iY λb g=>{b with iY:=g}
abbrev acy:aN bU (aa aV):=.str (bm (bm (bm (bm (bm cR))))) 5 bU.zn λb g=>{b with zn:=g}
abbrev EO:aN bU Int:=.str (bm (bm (bm (bm (bm (bm cR)))))) 6 bU.gH λb g=>{b with gH:=g}
abbrev D2:aN bU ByteArray:=.str (bm (bm (bm (bm (bm (bm (bm gm))))))) 7 bU.hD λb g=>{b with hD:=g}
instance:aT bU:=⟨aT.cells Int++aT.cells ByteArray++aT.cells (aa dn)++aT.cells (aa Int)++aT.cells Int++aT.cells (aa aV)++aT.cells Int++aT.cells ByteArray,λA W=>⟨by rfl,aT.ok (α:=Int) A W,aT.ok (α:=ByteArray) A W,aT.ok (α:=aa dn) A W,aT.ok (α:=aa Int) A W,aT.ok (α:=Int) A W,aT.ok (α:=aa aV) A W,aT.ok (α:=Int) A W,aT.ok (α:=ByteArray) A W⟩⟩
structure gF where
 cw:Int
 ky:Int
 deriving DecidableEq,Inhabited
instance:ah gF:=.str (cL Int (fZ Int)) (λx=>(x.cw,x.ky)) 2
abbrev EF:aN gF Int:=.str cR 0 gF.cw λb g=>{b with cw:=g}
abbrev Nq:aN gF Int:=.str (bm gm) 1 gF.ky λb g=>{b with ky:=g}
instance:aT gF:=⟨aT.cells Int++aT.cells Int,λA W=>⟨by rfl,aT.ok (α:=Int) A W,aT.ok (α:=Int) A W⟩⟩
structure eA where
 cw:Int
 Cs:Bool
 zH:Bool
 bQ:List Bool
 deriving DecidableEq,Inhabited
instance:ah eA:=.str (cL Int (cL Bool (cL Bool (fZ (aa Bool))))) (λx=>(x.cw,x.Cs,x.zH,x.bQ)) 4
abbrev adF:aN eA Int:=.str cR 0 eA.cw λb g=>{b with cw:=g}
abbrev ad3:aN eA Bool:=.str (bm cR) 1 eA.Cs λb g=>{b with Cs:=g}
abbrev adG:aN eA Bool:=.str (bm (bm cR)) 2 eA.zH λb g=>{b with zH:=g}
abbrev ad4:aN eA (aa Bool):=.str (bm (bm (bm gm))) 3 eA.bQ λb g=>{b with bQ:=g}
instance:aT eA:=⟨aT.cells Int++aT.cells Bool++aT.cells Bool++aT.cells (aa Bool),λA W=>⟨by rfl,aT.ok (α:=Int) A W,aT.ok (α:=Bool) A W,aT.ok (α:=Bool) A W,aT.ok (α:=aa Bool) A W⟩⟩
structure dc where
 cd:Int
 bO:ByteArray
 jD:List eA
 dg:List Int
 kd:Int
 FK:Bool
 deriving DecidableEq,Inhabited
instance:ah dc:=.str (cL Int (cL ByteArray (cL (aa eA) (cL (aa Int) (cL Int (fZ Bool)))))) (λx=>(x.cd,x.bO,x.jD,x.dg,x.kd,x.FK)) 6
abbrev Ju:aN dc Int:=.str cR 0 dc.cd λb g=>{b with cd:=g}
abbrev NL:aN dc ByteArray:=.str (bm cR) 1 dc.bO λb g=>{b with bO:=g}
abbrev zb:aN dc (aa eA):=.str (bm (bm cR)) 2 dc.jD λb g=>{b with jD:=g}
abbrev IL:aN dc (aa Int):=.str (bm (bm (bm cR))) 3 dc.dg λb g=>{b with dg:=g}
abbrev EP:aN dc Int:=.str (bm (bm (bm (bm cR)))) 4 dc.kd λb g=>{b with kd:=g}
abbrev adO:aN dc Bool:=.str (bm (bm (bm (bm (bm gm))))) 5 dc.FK λb g=>{b with FK:=g}
instance:aT dc:=⟨aT.cells Int++aT.cells ByteArray++aT.cells (aa eA)++aT.cells (aa Int)++aT.cells Int++aT.cells Bool,λA W=>⟨by rfl,aT.ok (α:=Int) A W,aT.ok (α:=ByteArray) A W,aT.ok (α:=aa eA) A W,aT.ok (α:=aa Int) A W,aT.ok (α:=Int) A W,aT.ok (α:=Bool) A W⟩⟩
structure eB where
 cw:Int
 k3:Int
 dP:Int
 xr:Int
 nm:Int
 uj:Int
 deriving DecidableEq,Inhabited
instance:ah eB:=.str (cL Int (cL Int (cL Int (cL Int (cL Int (fZ Int)))))) (λx=>(x.cw,x.k3,x.dP,x.xr,x.nm,x.uj)) 6
abbrev UQ:aN eB Int:=.str cR 0 eB.cw λb g=>{b with cw:=g}
abbrev aeW:aN eB Int:=.str (bm cR) 1 eB.k3 λb g=>{b with k3:=g}
abbrev UM:aN eB Int:=.str (bm (bm cR)) 2 eB.dP λb g=>{b with dP:=g}
abbrev aeD:aN eB Int:=.str (bm (bm (bm cR))) 3 eB.xr λb g=>{b with xr:=g}
abbrev UE:aN eB Int:=.str (bm (bm (bm (bm cR)))) 4 eB.nm λb g=>{b with nm:=g}
abbrev aeE:aN eB Int:=.str (bm (bm (bm (bm (bm gm))))) 5 eB.uj λb g=>{b with uj:=g}
instance:aT eB:=⟨aT.cells Int++aT.cells Int++aT.cells Int++aT.cells Int++aT.cells Int++aT.cells Int,λA W=>⟨by rfl,aT.ok (α:=Int) A W,aT.ok (α:=Int) A W,aT.ok (α:=Int) A W,aT.ok (α:=Int) A W,aT.ok (α:=Int) A W,aT.ok (α:=Int) A W⟩⟩
structure aS where
 iL:List ia
 sQ:List lR
 ug:List eO
 dg:List e0
 bH:List bU
 q9:List gF
 fj:List dc
 dp:List eB
 nk:Int
 FB:Int
 deriving DecidableEq,Inhabited
instance:ah aS:=.str (cL (aa ia) (cL (aa lR) (cL (aa eO) (cL (aa e0) (cL (aa bU) (cL (aa gF) (cL (aa dc) (cL (aa eB) (cL Int (fZ Int)))))))))) (λx=>(x.iL,x.sQ,x.ug,x.dg,x.bH,x.q9,x.fj,x.dp,x.nk,x.FB)) 10
abbrev Up:aN aS (aa ia):=.str cR 0 aS.iL λb g=>{b with iL:=g}
abbrev Uj:aN aS (aa lR):=.str (bm cR) 1 aS.sQ λb g=>{b with sQ:=g}
abbrev Uq:aN aS (aa eO):=.str (bm (bm cR)) 2 aS.ug λb g=>{b with ug:=g}
abbrev w5:aN aS (aa e0):=.str (bm (bm (bm cR))) 3 aS.dg λb g=>{b with dg:=g}
abbrev pt:aN aS (aa bU):=.str (bm (bm (bm (bm cR)))) 4 aS.bH λb g=>{b with bH:=g}
abbrev ID:aN aS (aa gF):=.str (bm (bm (bm (bm (bm cR))))) 5 aS.q9 λb g=>{b with q9:=g}
abbrev Uv:aN aS (aa dc):=.str (bm (bm (bm (bm (bm (bm cR)))))) 6 aS.fj λb g=>{b with fj:=g}
abbrev BC:aN aS (aa eB):=.str (bm (bm (bm (bm (bm (bm (bm cR))))))) 7 aS.dp λb g=>{b with dp:=g}
abbrev T3:aN aS Int:=.str (bm (bm (bm (bm (bm (bm (bm (bm cR)))))))) 8 aS.nk λb g=>{b with nk:=g}
abbrev acR:aN aS Int:=.str (bm (bm (bm (bm (bm (bm (bm (bm (bm gm))))))))) 9 aS.FB λb g=>{b with FB:=g}
instance:aT aS:=⟨aT.cells (aa ia)++aT.cells (aa lR)++aT.cells (aa eO)++aT.cells (aa e0)++aT.cells (aa bU)++aT.cells (aa gF)++aT.cells (aa dc)++aT.cells (aa eB)++aT.cells Int++aT.cells Int,λA W=>⟨by rfl,aT.ok (α:=aa ia) A W,aT.ok (α:=aa lR) A W,aT.ok (α:=aa eO) A W,aT.ok (α:=aa e0) A W,aT.ok (α:=aa bU) A W,aT.ok (α:=aa gF) A W,aT.ok (α:=aa dc) A W,aT.ok (α:=aa eB) A W,aT.ok (α:=Int) A W,aT.ok (α:=Int) A W⟩⟩
instance Ra:c4 prog 32 (default:aS):=.i
instance b8:bK prog 3 Int:=.i underlying3
instance:b3 prog 69 1 adY:=.i underlying69 I b8
def mixed:prog.follows .mixedOrders=true:=by kernel_rfl
instance:Td prog:=⟨mixed⟩
def am3:bD prog 38:=.i func38
instance:oj prog 5 (.int .u8):=⟨underlying5⟩
instance:oj prog 3 (.int .i64):=⟨underlying3⟩
def k5:bD prog 13:=.i func13
instance:b3 prog 32 8 T3:=.i underlying32 I b8
instance am9:fw prog 32 #[(0,1),(1,1),(2,1),(3,1),(4,1),(5,1),(6,1),(7,1),(8,1),(9,1)]:=.i underlying32
instance kL:bK prog 32 aS:=.i underlying32
instance:c4 prog 72 (default:ia):=.i
instance:b3 prog 72 0 aeP:=.i underlying72 I b8
instance j4:bK prog 9 ByteArray:=.i underlying9
instance:b3 prog 72 1 adZ:=.i underlying72 I j4
instance:b3 prog 72 2 ad0:=.i underlying72 I b8
instance:fw prog 72 #[(0,1),(1,1),(2,1)]:=.i underlying72
instance apB:bK prog 72 ia:=.i underlying72
instance:hM prog 23 72 ia:=⟨underlying23,apB⟩
instance Zs:bK prog 23 (aa ia):=.i underlying23
instance:b3 prog 32 0 Up:=.i underlying32 I Zs
instance:hM prog 39 3 Int:=⟨underlying39,b8⟩
instance pb:c4 prog 3 (default:Int):=.i
instance:c4 prog 74 (default:lR):=.i
instance:b3 prog 74 0 aeA:=.i underlying74 I b8
instance:b3 prog 74 1 adC:=.i underlying74 I j4
instance k4:bK prog 39 (aa Int):=.i underlying39
instance:b3 prog 74 2 ac3:=.i underlying74 I k4
instance:fw prog 74 #[(0,1),(1,1),(2,1)]:=.i underlying74
instance apC:bK prog 74 lR:=.i underlying74
instance:hM prog 24 74 lR:=⟨underlying24,apC⟩
instance Zt:bK prog 24 (aa lR):=.i underlying24
instance:b3 prog 32 1 Uj:=.i underlying32 I Zt
instance Yb:c4 prog 110 (default:eO):=.i
instance:b3 prog 110 0 UR:=.i underlying110 I b8
instance:b3 prog 110 1 Ut:=.i underlying110 I b8
instance:b3 prog 110 2 Uu:=.i underlying110 I b8
instance:b3 prog 110 4 Uo:=.i underlying110 I b8
instance akn:fw prog 110 #[(0,1),(1,1),(2,1),(3,1),(4,1)]:=.i underlying110
instance Yc:bK prog 110 eO:=.i underlying110
instance vX:c4 prog 47 (default:aV):=.i
instance tc:bK prog 45 (BitVec 64):=.i underlying45
instance Xu:b3 prog 47 1 q6:=.i underlying47 I tc
instance CO:fw prog 47 #[(0,1),(1,1)]:=.i underlying47
instance KX:c4 prog 112 (default:iK):=.i
instance hV:bK prog 47 aV:=.i underlying47
instance:b3 prog 112 0 Nx:=.i underlying112 I hV
instance:b3 prog 112 1 NJ:=.i underlying112 I hV
instance:b3 prog 112 2 NK:=.i underlying112 I b8
instance Yd:fw prog 112 #[(0,2),(2,2),(4,1)]:=.i underlying112
instance Qn:bK prog 112 iK:=.i underlying112
instance:hM prog 108 112 iK:=⟨underlying108,Qn⟩
instance KY:bK prog 108 (aa iK):=.i underlying108
instance ahA:b3 prog 110 3 IQ:=.i underlying110 I KY
def qC:bD prog 18:=.i func18
instance:oj prog 45 (.int .u64):=⟨underlying45⟩
def WV:jy prog 110 [3]:=by unfold jy;kernel_rfl
instance:hM prog 25 110 eO:=⟨underlying25,Yc⟩
def ana:bD prog 14:=.i func14
instance:c4 prog 114 (default:jB):=.i
instance:b3 prog 114 0 adp:=.i underlying114 I b8
instance:fw prog 114 #[(0,1),(1,1),(2,2)]:=.i underlying114
instance amB:bK prog 114 jB:=.i underlying114
instance ako:c4 prog 105 (default:e0):=.i
instance:b3 prog 105 0 aeC:=.i underlying105 I b8
instance:b3 prog 105 1 adD:=.i underlying105 I j4
instance:fw prog 105 #[(0,1),(1,1),(2,1),(3,1),(4,1)]:=.i underlying105
instance:c4 prog 116 (default:iX):=.i
instance:b3 prog 116 0 aeV:=.i underlying116 I b8
instance:fw prog 116 #[(0,1),(1,1),(2,4)]:=.i underlying116
instance amC:bK prog 116 iX:=.i underlying116
instance:hM prog 103 116 iX:=⟨underlying103,amC⟩
instance amD:bK prog 103 (aa iX):=.i underlying103
instance:b3 prog 105 3 adE:=.i underlying105 I amD
instance:c4 prog 118 (default:nj):=.i
instance:b3 prog 118 0 ad1:=.i underlying118 I j4
instance:b3 prog 118 1 ad2:=.i underlying118 I b8
instance:fw prog 118 #[(0,1),(1,1)]:=.i underlying118
instance amE:bK prog 118 nj:=.i underlying118
instance:hM prog 102 118 nj:=⟨underlying102,amE⟩
instance:b3 prog 116 2 aeR:=.i underlying116 I amB
instance amF:bK prog 102 (aa nj):=.i underlying102
instance:b3 prog 105 2 ac5:=.i underlying105 I amF
instance:b3 prog 116 1 aeQ:=.i underlying116 I b8
instance:b3 prog 114 1 aeB:=.i underlying114 I b8
instance:b3 prog 114 2 ac4:=.i underlying114 I hV
instance qu:bK prog 105 e0:=.i underlying105
instance:hM prog 26 105 e0:=⟨underlying26,qu⟩
instance Ki:b3 prog 105 4 DY:=.i underlying105 I j4
def anb:bD prog 15:=.i func15
instance td:c4 prog 54 (default:dn):=.i
instance:b3 prog 54 0 E3:=.i underlying54 I j4
instance:b3 prog 54 1 EZ:=.i underlying54 I b8
instance P4:b3 prog 54 2 xe:=.i underlying54 I b8
instance Lj:fw prog 54 #[(0,1),(1,1),(2,1)]:=.i underlying54
instance qD:bK prog 54 dn:=.i underlying54
instance:hM prog 38 54 dn:=⟨underlying38,qD⟩
instance sd:c4 prog 42 (default:bU):=.i
instance:b3 prog 42 0 zh:=.i underlying42 I b8
instance se:bK prog 38 (aa dn):=.i underlying38
instance sZ:b3 prog 42 2 oS:=.i underlying42 I se
instance:b3 prog 42 3 Ek:=.i underlying42 I k4
instance:b3 prog 42 6 EO:=.i underlying42 I b8
instance Li:fw prog 42 #[(0,1),(1,1),(2,1),(3,1),(4,1),(5,1),(6,1),(7,1)]:=.i underlying42
instance ke:bK prog 42 bU:=.i underlying42
def P2:jy prog 42 [2]:=by unfold jy;kernel_rfl
def P1:jy prog 42 []:=by unfold jy;kernel_rfl
instance:hM prog 40 47 aV:=⟨underlying40,hV⟩
instance Ao:bK prog 40 (aa aV):=.i underlying40
instance:hM prog 27 42 bU:=⟨underlying27,ke⟩
instance:hM prog 119 9 ByteArray:=⟨underlying119,j4⟩
instance:c4 prog 9 (default:ByteArray):=.i
instance Qo:bK prog 119 (aa ByteArray):=.i underlying119
instance:hM prog 120 119 (aa ByteArray):=⟨underlying120,Qo⟩
instance:c4 prog 119 (default:aa ByteArray):=.i
instance KE:b3 prog 42 7 D2:=.i underlying42 I j4
def anc:bD prog 16:=.i func16
instance Zu:bK prog 25 (aa eO):=.i underlying25
instance aiN:b3 prog 32 2 Uq:=.i underlying32 I Zu
instance xU:bK prog 26 (aa e0):=.i underlying26
instance zM:b3 prog 32 3 w5:=.i underlying32 I xU
instance o7:bK prog 27 (aa bU):=.i underlying27
instance rW:b3 prog 32 4 pt:=.i underlying32 I o7
instance CB:c4 prog 123 (default:dc):=.i
instance:b3 prog 123 0 Ju:=.i underlying123 I b8
instance:b3 prog 123 3 IL:=.i underlying123 I k4
instance ahL:b3 prog 123 4 EP:=.i underlying123 I b8
instance n3:bK prog 4 Bool:=.i underlying4
instance Qp:fw prog 123 #[(0,1),(1,1),(2,1),(3,1),(4,1),(5,1)]:=.i underlying123
instance xM:bK prog 123 dc:=.i underlying123
instance:hM prog 124 4 Bool:=⟨underlying124,n3⟩
instance aaN:c4 prog 4 (default:Bool):=.i
instance z8:bK prog 121 (aa eA):=.i underlying121
instance ahB:b3 prog 123 2 zb:=.i underlying123 I z8
instance Qq:c4 prog 126 (default:eA):=.i
instance:b3 prog 126 0 adF:=.i underlying126 I b8
instance:b3 prog 126 1 ad3:=.i underlying126 I n3
instance:b3 prog 126 2 adG:=.i underlying126 I n3
instance amG:bK prog 124 (aa Bool):=.i underlying124
instance:b3 prog 126 3 ad4:=.i underlying126 I amG
instance:fw prog 126 #[(0,1),(1,1),(2,1),(3,1)]:=.i underlying126
instance KZ:bK prog 126 eA:=.i underlying126
instance:hM prog 121 126 eA:=⟨underlying121,KZ⟩
def Ck:jy prog 123 [2]:=by unfold jy;kernel_rfl
instance:hM prog 29 123 dc:=⟨underlying29,xM⟩
def ane:bD prog 17:=.i func17
instance Ll:bK prog 29 (aa dc):=.i underlying29
instance aiO:b3 prog 32 6 Uv:=.i underlying32 I Ll
instance CS:c4 prog 80 (default:gF):=.i
instance:b3 prog 80 0 EF:=.i underlying80 I b8
instance Lm:fw prog 80 #[(0,1),(1,1)]:=.i underlying80
instance Rb:bK prog 80 gF:=.i underlying80
instance:hM prog 28 80 gF:=⟨underlying28,Rb⟩
instance Ln:bK prog 28 (aa gF):=.i underlying28
instance P3:b3 prog 32 5 ID:=.i underlying32 I Ln
instance xV:bK prog 30 (aa eB):=.i underlying30
instance zN:b3 prog 32 7 BC:=.i underlying32 I xV
instance Gn:c4 prog 37 (default:eB):=.i
instance:b3 prog 37 0 UQ:=.i underlying37 I b8
instance:b3 prog 37 2 UM:=.i underlying37 I b8
instance:b3 prog 37 4 UE:=.i underlying37 I b8
instance an1:fw prog 37 #[(0,1),(1,1),(2,1),(3,1),(4,1),(5,1)]:=.i underlying37
instance Gm:bK prog 37 eB:=.i underlying37
instance:hM prog 30 37 eB:=⟨underlying30,Gm⟩
def V9:jy prog 32 [5,7]:=by unfold jy;kernel_rfl
instance:b3 prog 37 1 aeW:=.i underlying37 I b8
def aa3:bD prog 6:=.i func6
def ai9:jy prog 32 [4]:=by unfold jy;kernel_rfl
structure k0 where
 jU:aS
 sS:eJ
 nT:Int
 deriving DecidableEq,Inhabited
instance:ah k0:=.str (cL aS (cL eJ (fZ Int))) (λx=>(x.jU,x.sS,x.nT)) 12
abbrev Ul:aN k0 aS:=.str cR 0 k0.jU λb g=>{b with jU:=g}
abbrev Iz:aN k0 eJ:=.str (bm cR) 10 k0.sS λb g=>{b with sS:=g}
abbrev IM:aN k0 Int:=.str (bm (bm gm)) 11 k0.nT λb g=>{b with nT:=g}
instance:aT k0:=⟨aT.cells aS++aT.cells eJ++aT.cells Int,λA W=>⟨by rfl,aT.ok (α:=aS) A W,aT.ok (α:=eJ) A W,aT.ok (α:=Int) A W⟩⟩
instance akC:c4 prog 129 (default:k0):=.i
instance:b3 prog 129 0 Ul:=.i underlying129 I kL
instance YH:bK prog 127 eJ:=.i underlying127
instance ahS:b3 prog 129 1 Iz:=.i underlying129 I YH
instance:b3 prog 129 2 IM:=.i underlying129 I b8
instance akB:fw prog 129 #[(0,10),(10,1),(11,1)]:=.i underlying129
def aj4:bD prog 103:=.i func103
def aj5:bD prog 102:=.i func102
structure ct where
 gz:Bool
 bV:aV
 iz:aV
 gh:Int
 mf:aV
 deriving DecidableEq,Inhabited
instance:ah ct:=.str (cL Bool (cL aV (cL aV (cL Int (fZ aV))))) (λx=>(x.gz,x.bV,x.iz,x.gh,x.mf)) 8
abbrev By:aN ct Bool:=.str cR 0 ct.gz λb g=>{b with gz:=g}
abbrev IV:aN ct aV:=.str (bm cR) 1 ct.bV λb g=>{b with bV:=g}
abbrev NF:aN ct aV:=.str (bm (bm cR)) 3 ct.iz λb g=>{b with iz:=g}
abbrev Nt:aN ct Int:=.str (bm (bm (bm cR))) 5 ct.gh λb g=>{b with gh:=g}
abbrev NG:aN ct aV:=.str (bm (bm (bm (bm gm)))) 6 ct.mf λb g=>{b with mf:=g}
instance:aT ct:=⟨aT.cells Bool++aT.cells aV++aT.cells aV++aT.cells Int++aT.cells aV,λA W=>⟨by rfl,aT.ok (α:=Bool) A W,aT.ok (α:=aV) A W,aT.ok (α:=aV) A W,aT.ok (α:=Int) A W,aT.ok (α:=aV) A W⟩⟩
structure bp where
 cw:Int
 ck:List ct
 ka:Int
 dP:Int
 gu:List aV
 deriving DecidableEq,Inhabited
instance:ah bp:=.str (cL Int (cL (aa ct) (cL Int (cL Int (fZ (aa aV)))))) (λx=>(x.cw,x.ck,x.ka,x.dP,x.gu)) 5
abbrev ud:aN bp Int:=.str cR 0 bp.cw λb g=>{b with cw:=g}
abbrev sH:aN bp (aa ct):=.str (bm cR) 1 bp.ck λb g=>{b with ck:=g}
abbrev Ec:aN bp Int:=.str (bm (bm cR)) 2 bp.ka λb g=>{b with ka:=g}
abbrev ub:aN bp Int:=.str (bm (bm (bm cR))) 3 bp.dP λb g=>{b with dP:=g}
abbrev xc:aN bp (aa aV):=.str (bm (bm (bm (bm gm)))) 4 bp.gu λb g=>{b with gu:=g}
instance:aT bp:=⟨aT.cells Int++aT.cells (aa ct)++aT.cells Int++aT.cells Int++aT.cells (aa aV),λA W=>⟨by rfl,aT.ok (α:=Int) A W,aT.ok (α:=aa ct) A W,aT.ok (α:=Int) A W,aT.ok (α:=Int) A W,aT.ok (α:=aa aV) A W⟩⟩
structure aK where
 bb:bp
 cI:Int
 fV:Int
 deriving DecidableEq,Inhabited
instance:ah aK:=.str (cL bp (cL Int (fZ Int))) (λx=>(x.bb,x.cI,x.fV)) 7
abbrev Nf:aN aK bp:=.str cR 0 aK.bb λb g=>{b with bb:=g}
abbrev Ir:aN aK Int:=.str (bm cR) 5 aK.cI λb g=>{b with cI:=g}
abbrev Ng:aN aK Int:=.str (bm (bm gm)) 6 aK.fV λb g=>{b with fV:=g}
instance:aT aK:=⟨aT.cells bp++aT.cells Int++aT.cells Int,λA W=>⟨by rfl,aT.ok (α:=bp) A W,aT.ok (α:=Int) A W,aT.ok (α:=Int) A W⟩⟩
structure pw where
 uO:Ref
 deriving DecidableEq,Inhabited
instance:ah pw:=.str (fZ Ref) (λx=>x.uO) 1
abbrev UF:aN pw Ref:=.str gm 0 pw.uO λb g=>{b with uO:=g}
instance:aT pw:=⟨aT.cells Ref,λA W=>⟨by rfl,aT.ok (α:=Ref) A W⟩⟩
structure mD where
 vQ:Int
 hn:Int
 ui:eJ
 deriving DecidableEq,Inhabited
instance:ah mD:=.str (cL Int (cL Int (fZ eJ))) (λx=>(x.vQ,x.hn,x.ui)) 3
abbrev Ui:aN mD Int:=.str cR 0 mD.vQ λb g=>{b with vQ:=g}
abbrev Nd:aN mD Int:=.str (bm cR) 1 mD.hn λb g=>{b with hn:=g}
abbrev D4:aN mD eJ:=.str (bm (bm gm)) 2 mD.ui λb g=>{b with ui:=g}
instance:aT mD:=⟨aT.cells Int++aT.cells Int++aT.cells eJ,λA W=>⟨by rfl,aT.ok (α:=Int) A W,aT.ok (α:=Int) A W,aT.ok (α:=eJ) A W⟩⟩
structure px where
 da:Ref
 deriving DecidableEq,Inhabited
instance:ah px:=.str (fZ Ref) (λx=>x.da) 1
abbrev UG:aN px Ref:=.str gm 0 px.da λb g=>{b with da:=g}
instance:aT px:=⟨aT.cells Ref,λA W=>⟨by rfl,aT.ok (α:=Ref) A W⟩⟩
inductive h8 where
 |nil
 |pI (x:pw)
 |pJ (x:mD)
 |pK (x:px)
 deriving DecidableEq,Inhabited
instance:ah h8 where
 size:=1
 agg:=false
 rep A W cs x:=match x with
  | .nil=>cs=[.nilIface]
  | .pI x=> ∃v,cs=[.iface 167 v]∧(J.of x).holds A W v
  | .pJ x=> ∃v,cs=[.iface 170 v]∧(J.of x).holds A W v
  | .pK x=> ∃v,cs=[.iface 174 v]∧(J.of x).holds A W v
 len {A W cs x} h:=by cases x <;> first|(have h:cs=_:=h;rw[h];rfl)|(obtain⟨v,h,_⟩:=h;rw[h];rfl)
 one {A W cs x} h:=by
  intro u hu;cases x <;> first|(have h:cs=_:=h;rw[h]at hu;rw[gX.1 hu];rfl)|(obtain⟨v,h,_⟩:=h;rw[h]at hu;rw[gX.1 hu];rfl)
 flat _:=rfl
 mono {A W cE W' cs x} e h:=by cases x <;> first|exact h|(obtain⟨v,h,ad⟩:=h;exact⟨v,h,J.mono _ e ad⟩)
instance:aT h8:=⟨[.nilIface],λ_ _=>rfl⟩
def af1{A W v}{x:pw}(h:(J.of x).holds A W v):(J.of (h8.pI x)).holds A W (.iface 167 v):=⟨rfl,v,rfl,h⟩
def O2{A W u}{x:pw}(h:(J.of (h8.pI x)).holds A W u):∃v,u=.iface 167 v∧(J.of x).holds A W v:=by
 obtain⟨h1,v,ad,ay⟩:=h;exact⟨v,ov h1 ad,ay⟩
def af2{A W v}{x:mD}(h:(J.of x).holds A W v):(J.of (h8.pJ x)).holds A W (.iface 170 v):=⟨rfl,v,rfl,h⟩
def O3{A W u}{x:mD}(h:(J.of (h8.pJ x)).holds A W u):∃v,u=.iface 170 v∧(J.of x).holds A W v:=by
 obtain⟨h1,v,ad,ay⟩:=h;exact⟨v,ov h1 ad,ay⟩
def af3{A W v}{x:px}(h:(J.of x).holds A W v):(J.of (h8.pK x)).holds A W (.iface 174 v):=⟨rfl,v,rfl,h⟩
def O4{A W u}{x:px}(h:(J.of (h8.pK x)).holds A W u):∃v,u=.iface 174 v∧(J.of x).holds A W v:=by
 obtain⟨h1,v,ad,ay⟩:=h;exact⟨v,ov h1 ad,ay⟩
structure jS where
 vI:Int
 vJ:Int
 nn:h8
 oV:eJ
 deriving DecidableEq,Inhabited
instance:ah jS:=.str (cL Int (cL Int (cL h8 (fZ eJ)))) (λx=>(x.vI,x.vJ,x.nn,x.oV)) 4
abbrev ada:aN jS Int:=.str cR 0 jS.vI λb g=>{b with vI:=g}
abbrev adb:aN jS Int:=.str (bm cR) 1 jS.vJ λb g=>{b with vJ:=g}
abbrev Iy:aN jS h8:=.str (bm (bm cR)) 2 jS.nn λb g=>{b with nn:=g}
abbrev T2:aN jS eJ:=.str (bm (bm (bm gm))) 3 jS.oV λb g=>{b with oV:=g}
instance:aT jS:=⟨aT.cells Int++aT.cells Int++aT.cells h8++aT.cells eJ,λA W=>⟨by rfl,aT.ok (α:=Int) A W,aT.ok (α:=Int) A W,aT.ok (α:=h8) A W,aT.ok (α:=eJ) A W⟩⟩
instance ake:c4 prog 163 (default:jS):=.i
instance amH:bK prog 159 eJ:=.i underlying159
instance:b3 prog 163 3 T2:=.i underlying163 I amH
instance akd:fw prog 163 #[(0,1),(1,1),(2,1),(3,1)]:=.i underlying163
structure rQ where
 uB:eJ
 deriving DecidableEq,Inhabited
instance:ah rQ:=.str (fZ eJ) (λx=>x.uB) 1
abbrev Ux:aN rQ eJ:=.str gm 0 rQ.uB λb g=>{b with uB:=g}
instance:aT rQ:=⟨aT.cells eJ,λA W=>⟨by rfl,aT.ok (α:=eJ) A W⟩⟩
instance ajX:c4 prog 220 (default:rQ):=.i
instance amI:bK prog 218 eJ:=.i underlying218
instance:b3 prog 220 0 Ux:=.i underlying220 I amI
instance ajW:fw prog 220 #[(0,1)]:=.i underlying220
def am5:bD prog 56:=.i func56
instance akg:c4 prog 167 (default:pw):=.i
instance amJ:bK prog 164 Ref:=.i underlying164
instance:b3 prog 167 0 UF:=.i underlying167 I amJ
instance akf:fw prog 167 #[(0,1)]:=.i underlying167
instance KW:bK prog 161 h8:=.i underlying161
instance:b3 prog 163 2 Iy:=.i underlying163 I KW
def aj6:bD prog 105:=.i func105
def aj7:bD prog 104:=.i func104
instance aki:c4 prog 170 (default:mD):=.i
instance:b3 prog 170 0 Ui:=.i underlying170 I b8
instance:b3 prog 170 1 Nd:=.i underlying170 I b8
instance QD:bK prog 168 eJ:=.i underlying168
instance WZ:b3 prog 170 2 D4:=.i underlying170 I QD
instance akh:fw prog 170 #[(0,1),(1,1),(2,1)]:=.i underlying170
structure ep where
 mF:aS
 da:List aK
 deriving DecidableEq,Inhabited
instance:ah ep:=.str (cL aS (fZ (aa aK))) (λx=>(x.mF,x.da)) 11
abbrev T1:aN ep aS:=.str cR 0 ep.mF λb g=>{b with mF:=g}
abbrev BF:aN ep (aa aK):=.str (bm gm) 10 ep.da λb g=>{b with da:=g}
instance:aT ep:=⟨aT.cells aS++aT.cells (aa aK),λA W=>⟨by rfl,aT.ok (α:=aS) A W,aT.ok (α:=aa aK) A W⟩⟩
instance ajZ:c4 prog 224 (default:ep):=.i
instance:b3 prog 224 0 T1:=.i underlying224 I kL
instance ajY:fw prog 224 #[(0,10),(10,1)]:=.i underlying224
def am6:bD prog 58:=.i func58
def agO:jy prog 224 [10]:=by unfold jy;kernel_rfl
instance akk:c4 prog 174 (default:px):=.i
instance amK:bK prog 171 Ref:=.i underlying171
instance:b3 prog 174 0 UG:=.i underlying174 I amK
instance akj:fw prog 174 #[(0,1)]:=.i underlying174
def anj:bD prog 39:=.i func39
def AD:qb prog 3 Int:=ajn underlying3
structure cz where
 cw:Int
 k3:Int
 bV:aV
 deriving DecidableEq,Inhabited
instance:ah cz:=.str (cL Int (cL Int (fZ aV))) (λx=>(x.cw,x.k3,x.bV)) 4
abbrev IJ:aN cz Int:=.str cR 0 cz.cw λb g=>{b with cw:=g}
abbrev IY:aN cz Int:=.str (bm cR) 1 cz.k3 λb g=>{b with k3:=g}
abbrev IK:aN cz aV:=.str (bm (bm gm)) 2 cz.bV λb g=>{b with bV:=g}
instance:aT cz:=⟨aT.cells Int++aT.cells Int++aT.cells aV,λA W=>⟨by rfl,aT.ok (α:=Int) A W,aT.ok (α:=Int) A W,aT.ok (α:=aV) A W⟩⟩
structure kx where
 ql:Int
 qk:Int
 deriving DecidableEq,Inhabited
instance:ah kx:=.str (cL Int (fZ Int)) (λx=>(x.ql,x.qk)) 2
abbrev El:aN kx Int:=.str cR 0 kx.ql λb g=>{b with ql:=g}
abbrev D9:aN kx Int:=.str (bm gm) 1 kx.qk λb g=>{b with qk:=g}
instance:aT kx:=⟨aT.cells Int++aT.cells Int,λA W=>⟨by rfl,aT.ok (α:=Int) A W,aT.ok (α:=Int) A W⟩⟩
structure qj where
 mF:aS
 hT:eJ
 deriving DecidableEq,Inhabited
instance:ah qj:=.str (cL aS (fZ eJ)) (λx=>(x.mF,x.hT)) 11
abbrev Uf:aN qj aS:=.str cR 0 qj.mF λb g=>{b with mF:=g}
abbrev Ug:aN qj eJ:=.str (bm gm) 10 qj.hT λb g=>{b with hT:=g}
instance:aT qj:=⟨aT.cells aS++aT.cells eJ,λA W=>⟨by rfl,aT.ok (α:=aS) A W,aT.ok (α:=eJ) A W⟩⟩
instance aj1:c4 prog 134 (default:qj):=.i
instance:b3 prog 134 0 Uf:=.i underlying134 I kL
instance amL:bK prog 132 eJ:=.i underlying132
instance:b3 prog 134 1 Ug:=.i underlying134 I amL
instance aj0:fw prog 134 #[(0,10),(10,1)]:=.i underlying134
structure iV where
 pA:List dc
 hT:Vector Int 6
 deriving DecidableEq,Inhabited
instance:ah iV:=.str (cL (aa dc) (fZ (Vector Int 6))) (λx=>(x.pA,x.hT)) 7
abbrev Nb:aN iV (aa dc):=.str cR 0 iV.pA λb g=>{b with pA:=g}
abbrev y3:aN iV (Vector Int 6):=.str (bm gm) 1 iV.hT λb g=>{b with hT:=g}
instance:aT iV:=⟨aT.cells (aa dc)++aT.cells (Vector Int 6),λA W=>⟨by rfl,aT.ok (α:=aa dc) A W,aT.ok (α:=Vector Int 6) A W⟩⟩
instance aj3:c4 prog 137 (default:iV):=.i
instance ahK:b3 prog 137 0 Nb:=.i underlying137 I Ll
instance aj2:fw prog 137 #[(0,1),(1,6)]:=.i underlying137
def anq:bD prog 19:=.i func19
def anp:bD prog 20:=.i func20
def anm:bD prog 21:=.i func21
inductive mP where
 |nil
 |tr (a0:Ref) (bS:aK) (a2:Int) (a3:Int)
 |kj (a0:Ref) (bS:bp)
 |ts (a0:Ref) (bS:aK)
 deriving DecidableEq,Inhabited
instance:ah mP where
 size:=1
 agg:=false
 rep A W cs x:=match x with
  | .nil=>cs=[.nilFunc]
  | .tr a0 bS a2 a3=> ∃v,cs=[v]∧(J.kE 85 [J.ptr a0,J.ptr bS,J.ptr a2,J.ptr a3]).holds A W v
  | .kj a0 bS=> ∃v,cs=[v]∧(J.kE 89 [J.ptr a0,J.ptr bS]).holds A W v
  | .ts a0 bS=> ∃v,cs=[v]∧(J.kE 90 [J.ptr a0,J.ptr bS]).holds A W v
 len {A W cs x} h:=by cases x <;> first|(have h:cs=_:=h;rw[h];rfl)|(obtain⟨v,h,_⟩:=h;rw[h];rfl)
 one {A W cs x} h:=by
  intro u hu;cases x <;> first|(have h:cs=_:=h;rw[h]at hu;rw[gX.1 hu];rfl)|(obtain⟨v,h,lb,rfl,_⟩:=h;rw[h]at hu;rw[gX.1 hu];rfl)
 flat _:=rfl
 mono {A W cE W' cs x} e h:=by cases x <;> first|exact h|(obtain⟨v,h,ad⟩:=h;exact⟨v,h,J.mono _ e ad⟩)
instance:aT mP:=⟨[.nilFunc],λ_ _=>rfl⟩
def ai3{A W v}{a0:Ref}{bS:aK}{a2:Int}{a3:Int}(h:(J.kE 85 [J.ptr a0,J.ptr bS,J.ptr a2,J.ptr a3]).holds A W v):(J.of (mP.tr a0 bS a2 a3)).holds A W v:=by
 obtain⟨lb,rfl,ad⟩:=h;exact⟨rfl,_,rfl,lb,rfl,ad⟩
def ai6{A W u}{a0:Ref}{bS:aK}{a2:Int}{a3:Int}(h:(J.of (mP.tr a0 bS a2 a3)).holds A W u):(J.kE 85 [J.ptr a0,J.ptr bS,J.ptr a2,J.ptr a3]).holds A W u:=by
 obtain⟨h1,v,ad,ay⟩:=h;have e:=ov h1 ad;subst e;exact ay
def ai5{A W v}{a0:Ref}{bS:bp}(h:(J.kE 89 [J.ptr a0,J.ptr bS]).holds A W v):(J.of (mP.kj a0 bS)).holds A W v:=by
 obtain⟨lb,rfl,ad⟩:=h;exact⟨rfl,_,rfl,lb,rfl,ad⟩
def ai7{A W u}{a0:Ref}{bS:bp}(h:(J.of (mP.kj a0 bS)).holds A W u):(J.kE 89 [J.ptr a0,J.ptr bS]).holds A W u:=by
 obtain⟨h1,v,ad,ay⟩:=h;have e:=ov h1 ad;subst e;exact ay
def ai4{A W v}{a0:Ref}{bS:aK}(h:(J.kE 90 [J.ptr a0,J.ptr bS]).holds A W v):(J.of (mP.ts a0 bS)).holds A W v:=by
 obtain⟨lb,rfl,ad⟩:=h;exact⟨rfl,_,rfl,lb,rfl,ad⟩
def ai8{A W u}{a0:Ref}{bS:aK}(h:(J.of (mP.ts a0 bS)).holds A W u):(J.kE 90 [J.ptr a0,J.ptr bS]).holds A W u:=by
 obtain⟨h1,v,ad,ay⟩:=h;have e:=ov h1 ad;subst e;exact ay
structure fb where
 xA:mP
 deriving DecidableEq,Inhabited
instance:ah fb:=.str (fZ mP) (λx=>x.xA) 1
abbrev T6:aN fb mP:=.str gm 0 fb.xA λb g=>{b with xA:=g}
instance:aT fb:=⟨aT.cells mP,λA W=>⟨by rfl,aT.ok (α:=mP) A W⟩⟩
structure e7 where
 me:Ref
 qq:Ref
 sV:Ref
 fN:List fb
 deriving DecidableEq,Inhabited
instance:ah e7:=.str (cL Ref (cL Ref (cL Ref (fZ (aa fb))))) (λx=>(x.me,x.qq,x.sV,x.fN)) 4
abbrev D8:aN e7 Ref:=.str cR 0 e7.me λb g=>{b with me:=g}
abbrev Um:aN e7 Ref:=.str (bm cR) 1 e7.qq λb g=>{b with qq:=g}
abbrev T4:aN e7 Ref:=.str (bm (bm cR)) 2 e7.sV λb g=>{b with sV:=g}
abbrev D1:aN e7 (aa fb):=.str (bm (bm (bm gm))) 3 e7.fN λb g=>{b with fN:=g}
instance:aT e7:=⟨aT.cells Ref++aT.cells Ref++aT.cells Ref++aT.cells (aa fb),λA W=>⟨by rfl,aT.ok (α:=Ref) A W,aT.ok (α:=Ref) A W,aT.ok (α:=Ref) A W,aT.ok (α:=aa fb) A W⟩⟩
instance ano:c4 prog 89 (default:e7):=.i
instance apD:bK prog 81 Ref:=.i underlying81
instance:b3 prog 89 0 D8:=.i underlying89 I apD
instance apE:bK prog 83 Ref:=.i underlying83
instance:b3 prog 89 1 Um:=.i underlying89 I apE
instance apF:bK prog 85 Ref:=.i underlying85
instance:b3 prog 89 2 T4:=.i underlying89 I apF
instance ann:fw prog 89 #[(0,1),(1,1),(2,1),(3,1)]:=.i underlying89
def aiS:jy prog 89 [3]:=by unfold jy;kernel_rfl
def aa4:bD prog 7:=.i func7
instance xW:c4 prog 49 (default:ct):=.i
instance aiT:b3 prog 49 0 By:=.i underlying49 I n3
instance:b3 prog 49 1 IV:=.i underlying49 I hV
instance ZU:fw prog 49 #[(0,1),(1,2),(3,2),(5,1),(6,2)]:=.i underlying49
instance sf:bK prog 49 ct:=.i underlying49
instance:hM prog 50 49 ct:=⟨underlying50,sf⟩
instance Gu:c4 prog 52 (default:bp):=.i
instance Cq:b3 prog 52 0 ud:=.i underlying52 I b8
instance vZ:bK prog 50 (aa ct):=.i underlying50
instance zO:b3 prog 52 1 sH:=.i underlying52 I vZ
instance zQ:b3 prog 52 3 ub:=.i underlying52 I b8
instance Rj:fw prog 52 #[(0,1),(1,1),(2,1),(3,1),(4,1)]:=.i underlying52
instance pL:bK prog 52 bp:=.i underlying52
instance Cp:b3 prog 52 4 xc:=.i underlying52 I Ao
def XB:jy prog 52 [1]:=by unfold jy;kernel_rfl
structure cB where
 cn:Int
 bb:bp
 deriving DecidableEq,Inhabited
instance:ah cB:=.str (cL Int (fZ bp)) (λx=>(x.cn,x.bb)) 6
abbrev EM:aN cB Int:=.str cR 0 cB.cn λb g=>{b with cn:=g}
abbrev BB:aN cB bp:=.str (bm gm) 1 cB.bb λb g=>{b with bb:=g}
instance:aT cB:=⟨aT.cells Int++aT.cells bp,λA W=>⟨by rfl,aT.ok (α:=Int) A W,aT.ok (α:=bp) A W⟩⟩
instance Gw:c4 prog 56 (default:cB):=.i
instance ajb:b3 prog 56 0 EM:=.i underlying56 I b8
instance XC:b3 prog 56 1 BB:=.i underlying56 I pL
instance Rk:fw prog 56 #[(0,1),(1,5)]:=.i underlying56
instance mO:bK prog 56 cB:=.i underlying56
instance:hM prog 57 56 cB:=⟨underlying57,mO⟩
instance:c4 prog 58 (default:Int):=.i
instance x0:bK prog 58 Int:=.i underlying58
instance:bK prog 43 Ref:=.i underlying43
instance:oj prog 43 (.pointer 89):=⟨underlying43⟩
instance vV:bK prog 87 (aa fb):=.i underlying87
instance aiM:b3 prog 89 3 D1:=.i underlying89 I vV
instance KV:bK prog 139 fb:=.i underlying139
instance:hM prog 87 139 fb:=⟨underlying87,KV⟩
def Lv:bD prog 22:=.i func22
def anA:bD prog 59:=.i func59
def aj8:bD prog 110:=.i func110
def aj9:bD prog 109:=.i func109
def akl:bD prog 107:=.i func107
def akm:bD prog 106:=.i func106
def anB:bD prog 60:=.i func60
def anC:bD prog 62:=.i func62
def anD:bD prog 66:=.i func66
instance:bK prog 64 (kQ prog Bool):=.i underlying64
def aka:bD prog 108:=.i func108
instance:oj prog 4 .bool:=⟨underlying4⟩
def apG:mT prog 4 Bool 1:=agZ underlying4
def Zi:mT prog 45 (BitVec 64) 1:=ah8 (K:=.u64) underlying45
def xQ:mT prog 47 aV 2:=JY (k:=1) I underlying47 (by kernel_rfl) λd hd A W xs ys x y al hy=>by
 refine JD (rV BN tc I (by rfl) Zi (by omega) al hy (rV q6 tc I (by rfl) Zi (by omega) al hy Km)) ?_;congr 1;rw[oo];simp only[gq,fM,JE];cases x;cases y;simp[aN.str,BN,q6]
def GQ:mT prog 3 Int 1:=W5 (K:=.i64) underlying3
def amM:mT prog 49 ct 3:=JY (k:=2) I underlying49 (by kernel_rfl) λd hd A W xs ys x y al hy=>by
 refine JD (rV By n3 I (by rfl) apG (by omega) al hy (rV IV hV I (by rfl) xQ (by omega) al hy (rV NF hV I (by rfl) xQ (by omega) al hy (rV Nt b8 I (by rfl) GQ (by omega) al hy (rV NG hV I (by rfl) xQ (by omega) al hy Km))))) ?_;congr 1;rw[oo];simp only[gq,fM,JE];cases x;cases y;simp[aN.str,By,IV,NF,Nt,NG]
def amN:prog.eqGuardType prog.depth 49=false:=by kernel_rfl
instance:DJ prog 49 ct 3:=⟨amM,amN,rfl⟩
instance:b3 prog 49 3 Nt:=.i underlying49 I b8
instance:b3 prog 49 2 NF:=.i underlying49 I hV
instance:b3 prog 49 4 NG:=.i underlying49 I hV
instance Xt:b3 prog 47 0 BN:=.i underlying47 I tc
instance:oj prog 271 (.int .u64):=⟨underlying271⟩
def Yi:prog.eqGuardType prog.depth 47=false:=by kernel_rfl
instance:DJ prog 47 aV 2:=⟨xQ,Yi,rfl⟩
def ak0:bD prog 137:=.i func137
def akD:bD prog 114:=.i func114
def akE:bD prog 113:=.i func113
def X6:bD prog 200:=.i func200
def akz:bD prog 157:=.i func157
def aky:bD prog 156:=.i func156
instance KF:b3 prog 52 2 Ec:=.i underlying52 I b8
def anE:bD prog 68:=.i func68
instance amO:bK prog 179 (kQ prog Int):=.i underlying179
instance:hM prog 227 179 (kQ prog Int):=⟨underlying227,amO⟩
instance:c4 prog 179 (default:kQ prog Int):=.i
def anF:bD prog 70:=.i func70
def anG:bD prog 72:=.i func72
def akp:bD prog 159:=.i func159
def akq:bD prog 158:=.i func158
def anH:bD prog 74:=.i func74
structure iW where
 bO:ByteArray
 fW:ByteArray
 deriving DecidableEq,Inhabited
instance:ah iW:=.str (cL ByteArray (fZ ByteArray)) (λx=>(x.bO,x.fW)) 2
abbrev ad5:aN iW ByteArray:=.str cR 0 iW.bO λb g=>{b with bO:=g}
abbrev ad6:aN iW ByteArray:=.str (bm gm) 1 iW.fW λb g=>{b with fW:=g}
instance:aT iW:=⟨aT.cells ByteArray++aT.cells ByteArray,λA W=>⟨by rfl,aT.ok (α:=ByteArray) A W,aT.ok (α:=ByteArray) A W⟩⟩
instance Qr:c4 prog 289 (default:iW):=.i
instance:b3 prog 289 0 ad5:=.i underlying289 I j4
instance:b3 prog 289 1 ad6:=.i underlying289 I j4
instance:fw prog 289 #[(0,1),(1,1)]:=.i underlying289
instance F2:bK prog 289 iW:=.i underlying289
instance:hM prog 238 289 iW:=⟨underlying238,F2⟩
structure py where
 fX:Int
 pX:Int
 so:Int
 bO:ByteArray
 fW:ByteArray
 bV:aV
 deriving DecidableEq,Inhabited
instance:ah py:=.str (cL Int (cL Int (cL Int (cL ByteArray (cL ByteArray (fZ aV)))))) (λx=>(x.fX,x.pX,x.so,x.bO,x.fW,x.bV)) 7
abbrev UH:aN py Int:=.str cR 0 py.fX λb g=>{b with fX:=g}
abbrev Ur:aN py aV:=.str (bm (bm (bm (bm (bm gm))))) 5 py.bV λb g=>{b with bV:=g}
instance:aT py:=⟨aT.cells Int++aT.cells Int++aT.cells Int++aT.cells ByteArray++aT.cells ByteArray++aT.cells aV,λA W=>⟨by rfl,aT.ok (α:=Int) A W,aT.ok (α:=Int) A W,aT.ok (α:=Int) A W,aT.ok (α:=ByteArray) A W,aT.ok (α:=ByteArray) A W,aT.ok (α:=aV) A W⟩⟩
def akM:bD prog 161:=.i func161
instance aku:c4 prog 281 (default:py):=.i
instance ahC:b3 prog 281 0 UH:=.i underlying281 I b8
instance ahD:b3 prog 281 5 Ur:=.i underlying281 I hV
instance:fw prog 281 #[(0,1),(1,1),(2,1),(3,1),(4,1),(5,2)]:=.i underlying281
instance K3:bK prog 281 py:=.i underlying281
instance:hM prog 235 281 py:=⟨underlying235,K3⟩
structure h9 where
 bO:ByteArray
 fW:ByteArray
 bV:aV
 deriving DecidableEq,Inhabited
instance:ah h9:=.str (cL ByteArray (cL ByteArray (fZ aV))) (λx=>(x.bO,x.fW,x.bV)) 4
abbrev ac6:aN h9 ByteArray:=.str cR 0 h9.bO λb g=>{b with bO:=g}
abbrev ac7:aN h9 ByteArray:=.str (bm cR) 1 h9.fW λb g=>{b with fW:=g}
abbrev acO:aN h9 aV:=.str (bm (bm gm)) 2 h9.bV λb g=>{b with bV:=g}
instance:aT h9:=⟨aT.cells ByteArray++aT.cells ByteArray++aT.cells aV,λA W=>⟨by rfl,aT.ok (α:=ByteArray) A W,aT.ok (α:=ByteArray) A W,aT.ok (α:=aV) A W⟩⟩
instance Qs:c4 prog 304 (default:h9):=.i
instance:b3 prog 304 0 ac6:=.i underlying304 I j4
instance:b3 prog 304 1 ac7:=.i underlying304 I j4
instance:b3 prog 304 2 acO:=.i underlying304 I hV
instance:fw prog 304 #[(0,1),(1,1),(2,2)]:=.i underlying304
instance K4:bK prog 304 h9:=.i underlying304
instance:hM prog 241 304 h9:=⟨underlying241,K4⟩
def ak3:bD prog 122:=.i func122
def Yx:bD prog 121:=.i func121
def ak4:bD prog 124:=.i func124
def anI:bD prog 76:=.i func76
instance:oj prog 81 (.pointer 129):=⟨underlying81⟩
instance Ye:c4 prog 130 (default:Ref):=.i
def Gr:bD prog 93:=.i func93
instance:oj prog 130 (.pointer 163):=⟨underlying130⟩
instance qw:c4 prog 186 (default:aK):=.i
instance alr:fw prog 186 #[(0,5),(5,1),(6,1)]:=.i underlying186
instance gB:bK prog 186 aK:=.i underlying186
instance:c4 prog 436 (default:Vector aV 4):=.i
instance:pq prog 436 4 2:=pq.of underlying436 hV I
instance:bK prog 436 (Vector aV 4):=.i underlying436
instance:oj prog 164 (.pointer 220):=⟨underlying164⟩
instance:kq aV where
 uniq {A W cs cE W' dT x} h cT:=by
  refine Xb h.1 cT.1 ?_;refine FG 0 (ah.size (BitVec 64)) (kq.uniq h.2.1 cT.2.1) ?_;refine FG 1 (ah.size (BitVec 64)) (kq.uniq h.2.2 cT.2.2) ?_;exact Xc h.1 cT.1 (by decide)
 plain {A W cs x} h:=by
  intro u hu n;have bu:=zJ (o:=0) (s:=ah.size (BitVec 64)) (by simpa using hu);rcases bu with h1|bu
  ·exact kq.plain h.2.1 u h1 n
  have bu:=zJ (s:=ah.size (BitVec 64)) bu;rcases bu with h1|bu
  ·exact kq.plain h.2.2 u h1 n
  exact PL h.1 (by rfl) bu
def ajR:mT prog 440 (Vector aV 4) 3:=W6 underlying440 hV xQ
def aaI:sB prog 45 (BitVec 64) 1:=Pa underlying45 I
def RH:sB prog 47 aV 2:=VV (k:=1) I underlying47 (.cons BN I tc (λb d A W u x h al=>aaI b d A W u x (by omega) al) (.cons q6 I tc (λb d A W u x h al=>aaI b d A W u x (by omega) al) (.nil)))
def amP:sB prog 440 (Vector aV 4) 3:=XH underlying440 hV RH
def K0:qb prog 440 (Vector aV 4):=Qg underlying440 I amP ajR I I
def Yl:bD prog 326:=.i func326
instance:bK prog 170 mD:=.i underlying170
instance:c4 prog 441 (default:Vector aV 4):=.i
instance K5:bK prog 441 (Vector aV 4):=.i underlying441
instance YF:c4 prog 450 (default:Ref):=.i
instance:oj prog 442 (.pointer 456):=⟨underlying442⟩
structure gZ where
 hn:Int
 eU:Ref
 deriving DecidableEq,Inhabited
instance:ah gZ:=.str (cL Int (fZ Ref)) (λx=>(x.hn,x.eU)) 2
abbrev ES:aN gZ Int:=.str cR 0 gZ.hn λb g=>{b with hn:=g}
abbrev I3:aN gZ Ref:=.str (bm gm) 1 gZ.eU λb g=>{b with eU:=g}
instance:aT gZ:=⟨aT.cells Int++aT.cells Ref,λA W=>⟨by rfl,aT.ok (α:=Int) A W,aT.ok (α:=Ref) A W⟩⟩
instance PB:b3 prog 456 0 ES:=.i underlying456 I b8
def Yy:bD prog 342:=.i func342
instance jY:bK prog 450 Ref:=.i underlying450
instance ahP:b3 prog 456 1 I3:=.i underlying456 I jY
def QB:bD prog 343:=.i func343
def aiQ:SY prog 47 1 45 1:=⟨_,_,underlying47,rfl,rfl,rfl⟩
instance Yo:bK prog 442 Ref:=.i underlying442
instance:oj prog 450 (.pointer 454):=⟨underlying450⟩
instance Yq:bK prog 452 (Vector Ref 2):=.i underlying452
structure eG where
 du:Vector Ref 2
 gr:Bool
 kB:Int
 deriving DecidableEq,Inhabited
instance:ah eG:=.str (cL (Vector Ref 2) (cL Bool (fZ Int))) (λx=>(x.du,x.gr,x.kB)) 4
abbrev Bv:aN eG (Vector Ref 2):=.str cR 0 eG.du λb g=>{b with du:=g}
abbrev EU:aN eG Bool:=.str (bm cR) 2 eG.gr λb g=>{b with gr:=g}
abbrev Jo:aN eG Int:=.str (bm (bm gm)) 3 eG.kB λb g=>{b with kB:=g}
instance:aT eG:=⟨aT.cells (Vector Ref 2)++aT.cells Bool++aT.cells Int,λA W=>⟨by rfl,aT.ok (α:=Vector Ref 2) A W,aT.ok (α:=Bool) A W,aT.ok (α:=Int) A W⟩⟩
instance Kk:b3 prog 454 0 Bv:=.i underlying454 I Yq
instance Qy:pq prog 452 2 1:=pq.of underlying452 jY I
def QC:bD prog 346:=.i func346
def YA:bD prog 341:=.i func341
instance ahI:b3 prog 454 1 EU:=.i underlying454 I n3
instance ahJ:b3 prog 454 2 Jo:=.i underlying454 I b8
def ajS:mT prog 441 (Vector aV 4) 3:=W6 underlying441 hV xQ
def amQ:sB prog 441 (Vector aV 4) 3:=XH underlying441 hV RH
def Ab:qb prog 441 (Vector aV 4):=Qg underlying441 I amQ ajS I I
instance F7:c4 prog 442 (default:Ref):=.i
def YE:bD prog 335:=.i func335
instance xY:bK prog 61 (aa aK):=.i underlying61
instance:b3 prog 224 1 BF:=.i underlying224 I xY
instance:hM prog 61 186 aK:=⟨underlying61,gB⟩
instance ahR:b3 prog 186 0 Nf:=.i underlying186 I pL
def ak5:bD prog 362:=.i func362
def ak7:bD prog 358:=.i func358
instance W0:b3 prog 186 1 Ir:=.i underlying186 I b8
def amR:bD prog 322:=.i func322
def af7:kU prog 167 "matchguard/index.find" 322:=kU.uP (by kernel_rfl) underlying167 I amR
def amS:bD prog 330:=.i func330
def af8:kU prog 170 "matchguard/index.find" 330:=kU.uP (by kernel_rfl) underlying170 I amS
def amT:bD prog 354:=.i func354
def af9:kU prog 174 "matchguard/index.find" 354:=kU.uP (by kernel_rfl) underlying174 I amT
def aln:bD prog 173:=.i func173
def QF:bD prog 125:=.i func125
def alo:bD prog 126:=.i func126
def alp:bD prog 127:=.i func127
instance ahT:b3 prog 186 2 Ng:=.i underlying186 I b8
def akx:bD prog 328:=.i func328
instance akw:c4 prog 456 (default:gZ):=.i
instance akv:fw prog 456 #[(0,1),(1,1)]:=.i underlying456
def ak9:bD prog 336:=.i func336
instance YC:c4 prog 454 (default:eG):=.i
instance YB:fw prog 454 #[(0,2),(2,1),(3,1)]:=.i underlying454
def ak8:bD prog 337:=.i func337
def Ym:bD prog 370:=.i func370
def Yn:bD prog 369:=.i func369
def Ys:bD prog 364:=.i func364
def akQ:bD prog 376:=.i func376
def ald:bD prog 365:=.i func365
def ale:bD prog 366:=.i func366
def alf:bD prog 367:=.i func367
def alj:bD prog 360:=.i func360
def amU:bD prog 324:=.i func324
def aga:kU prog 167 "matchguard/index.put" 324:=kU.uP (by kernel_rfl) underlying167 I amU
def amV:bD prog 332:=.i func332
def agb:kU prog 170 "matchguard/index.put" 332:=kU.uP (by kernel_rfl) underlying170 I amV
def amW:bD prog 356:=.i func356
def agc:kU prog 174 "matchguard/index.put" 356:=kU.uP (by kernel_rfl) underlying174 I amW
def QG:bD prog 128:=.i func128
def ZP:bD prog 78:=.i func78
def ZM:bD prog 79:=.i func79
instance:oj prog 85 (.pointer 137):=⟨underlying85⟩
def Yr:bD prog 129:=.i func129
instance amX:bK prog 135 (Vector Int 6):=.i underlying135
instance Cl:b3 prog 137 1 y3:=.i underlying137 I amX
instance CD:pq prog 135 6 1:=pq.of underlying135 b8 I
def ZN:bD prog 80:=.i func80
def akN:bD prog 329:=.i func329
instance:hM prog 460 450 Ref:=⟨underlying460,jY⟩
instance ali:c4 prog 460 (default:aa Ref):=.i
instance anJ:c4 prog 39 (default:aa Int):=.i
instance xR:bK prog 460 (aa Ref):=.i underlying460
def ahQ:jy prog 460 [0]:=by unfold jy;kernel_rfl
def ai2:jy prog 39 [0]:=by unfold jy;kernel_rfl
instance akF:c4 prog 452 (default:Vector Ref 2):=.i
def aiU:prog.eqGuardType prog.depth 452=false:=by kernel_rfl
def YG:bD prog 344:=.i func344
def alk:bD prog 338:=.i func338
structure e8 where
 bV:aV
 zC:Int
 cd:Int
 deriving DecidableEq,Inhabited
instance:ah e8:=.str (cL aV (cL Int (fZ Int))) (λx=>(x.bV,x.zC,x.cd)) 4
abbrev acT:aN e8 aV:=.str cR 0 e8.bV λb g=>{b with bV:=g}
abbrev acJ:aN e8 Int:=.str (bm cR) 2 e8.zC λb g=>{b with zC:=g}
abbrev adQ:aN e8 Int:=.str (bm (bm gm)) 3 e8.cd λb g=>{b with cd:=g}
instance:aT e8:=⟨aT.cells aV++aT.cells Int++aT.cells Int,λA W=>⟨by rfl,aT.ok (α:=aV) A W,aT.ok (α:=Int) A W,aT.ok (α:=Int) A W⟩⟩
instance akR:c4 prog 461 (default:aa e8):=.i
instance Qu:bK prog 461 (aa e8):=.i underlying461
instance Qv:c4 prog 465 (default:e8):=.i
instance akH:fw prog 465 #[(0,2),(2,1),(3,1)]:=.i underlying465
instance Qw:bK prog 465 e8:=.i underlying465
instance:hM prog 461 465 e8:=⟨underlying461,Qw⟩
def akL:bD prog 349:=.i func349
def Qz:bD prog 350:=.i func350
def ahM:jy prog 461 [0]:=by unfold jy;kernel_rfl
def akS:bD prog 348:=.i func348
def ak6:bD prog 345:=.i func345
def alm:bD prog 339:=.i func339
def akO:bD prog 368:=.i func368
def akT:bD prog 361:=.i func361
def amY:bD prog 325:=.i func325
def agd:kU prog 167 "matchguard/index.remove" 325:=kU.uP (by kernel_rfl) underlying167 I amY
def amZ:bD prog 333:=.i func333
def age:kU prog 170 "matchguard/index.remove" 333:=kU.uP (by kernel_rfl) underlying170 I amZ
def am0:bD prog 357:=.i func357
def agf:kU prog 174 "matchguard/index.remove" 357:=kU.uP (by kernel_rfl) underlying174 I am0
def alq:bD prog 130:=.i func130
def Gt:bD prog 81:=.i func81
def ZO:bD prog 82:=.i func82
instance:oj prog 83 (.pointer 134):=⟨underlying83⟩
instance:b3 prog 37 5 aeE:=.i underlying37 I b8
instance K8:c4 prog 200 (default:cz):=.i
instance:b3 prog 200 0 IJ:=.i underlying200 I b8
instance:b3 prog 200 1 IY:=.i underlying200 I b8
instance:b3 prog 200 2 IK:=.i underlying200 I hV
instance:fw prog 200 #[(0,1),(1,1),(2,2)]:=.i underlying200
instance CC:bK prog 200 cz:=.i underlying200
instance:hM prog 93 200 cz:=⟨underlying93,CC⟩
instance:b3 prog 37 3 aeD:=.i underlying37 I b8
instance:kq cz where
 uniq {A W cs cE W' dT x} h cT:=by
  refine Xb h.1 cT.1 ?_;refine FG 0 (ah.size Int) (kq.uniq h.2.1 cT.2.1) ?_;refine FG 1 (ah.size Int) (kq.uniq h.2.2.1 cT.2.2.1) ?_;refine FG 2 (ah.size aV) (kq.uniq h.2.2.2 cT.2.2.2) ?_;exact Xc h.1 cT.1 (by decide)
 plain {A W cs x} h:=by
  intro u hu n;have bu:=zJ (o:=0) (s:=ah.size Int) (by simpa using hu);rcases bu with h1|bu
  ·exact kq.plain h.2.1 u h1 n
  have bu:=zJ (s:=ah.size Int) bu;rcases bu with h1|bu
  ·exact kq.plain h.2.2.1 u h1 n
  have bu:=zJ (s:=ah.size aV) bu;rcases bu with h1|bu
  ·exact kq.plain h.2.2.2 u h1 n
  exact PL h.1 (by rfl) bu
def X5:mT prog 200 cz 3:=JY (k:=2) I underlying200 (by kernel_rfl) λd hd A W xs ys x y al hy=>by
 refine JD (rV IJ b8 I (by rfl) GQ (by omega) al hy (rV IY b8 I (by rfl) GQ (by omega) al hy (rV IK hV I (by rfl) xQ (by omega) al hy Km))) ?_;congr 1;rw[oo];simp only[gq,fM,JE];cases x;cases y;simp[aN.str,IJ,IY,IK]
def abO:sB prog 3 Int 1:=Pa underlying3 I
def am1:sB prog 200 cz 3:=VV (k:=2) I underlying200 (.cons IJ I b8 (λb d A W u x h al=>abO b d A W u x (by omega) al) (.cons IY I b8 (λb d A W u x h al=>abO b d A W u x (by omega) al) (.cons IK I hV (λb d A W u x h al=>RH b d A W u x (by omega) al) (.nil))))
def Qx:qb prog 200 cz:=Qg underlying200 I am1 X5 I I
instance akI:c4 prog 247 (default:kx):=.i
instance:bK prog 247 kx:=.i underlying247
instance WW:b3 prog 247 0 El:=.i underlying247 I b8
instance WX:b3 prog 247 1 D9:=.i underlying247 I b8
instance:fw prog 247 #[(0,1),(1,1)]:=.i underlying247
def ajT:mT prog 247 kx 2:=JY (k:=1) I underlying247 (by kernel_rfl) λd hd A W xs ys x y al hy=>by
 refine JD (rV El b8 I (by rfl) GQ (by omega) al hy (rV D9 b8 I (by rfl) GQ (by omega) al hy Km)) ?_;congr 1;rw[oo];simp only[gq,fM,JE];cases x;cases y;simp[aN.str,El,D9]
def ajU:prog.eqGuardType prog.depth 247=false:=by kernel_rfl
instance:DJ prog 247 kx 2:=⟨ajT,ajU,rfl⟩
def Yt:bD prog 175:=.i func175
def ajV:prog.eqGuardType prog.depth 200=false:=by kernel_rfl
instance:DJ prog 200 cz 3:=⟨X5,ajV,rfl⟩
def akP:bD prog 217:=.i func217
def Yz:bD prog 131:=.i func131
def Rg:bD prog 83:=.i func83
instance akb:c4 prog 139 (default:fb):=.i
instance aa1:bK prog 1 mP:=.i underlying1
instance ahU:b3 prog 139 0 T6:=.i underlying139 I aa1
instance:fw prog 139 #[(0,1)]:=.i underlying139
def Rh:bD prog 84:=.i func84
def anS:bD prog 41:=.i func41
def YJ:bD prog 132:=.i func132
def Ri:bD prog 86:=.i func86
def ZR:bD prog 88:=.i func88
def anT:bD prog 42:=.i func42
def ZQ:bD prog 87:=.i func87
def anU:bD prog 43:=.i func43
def ZS:bD prog 26:=.i func26
structure iv where
 hj:cz
 xo:Int
 xm:Int
 deriving DecidableEq,Inhabited
instance:ah iv:=.str (cL cz (cL Int (fZ Int))) (λx=>(x.hj,x.xo,x.xm)) 6
abbrev ac8:aN iv cz:=.str cR 0 iv.hj λb g=>{b with hj:=g}
abbrev ac9:aN iv Int:=.str (bm cR) 4 iv.xo λb g=>{b with xo:=g}
abbrev acH:aN iv Int:=.str (bm (bm gm)) 5 iv.xm λb g=>{b with xm:=g}
instance:aT iv:=⟨aT.cells cz++aT.cells Int++aT.cells Int,λA W=>⟨by rfl,aT.ok (α:=cz) A W,aT.ok (α:=Int) A W,aT.ok (α:=Int) A W⟩⟩
instance akU:c4 prog 202 (default:iv):=.i
instance:b3 prog 202 0 ac8:=.i underlying202 I CC
instance:b3 prog 202 1 ac9:=.i underlying202 I b8
instance:b3 prog 202 2 acH:=.i underlying202 I b8
instance:fw prog 202 #[(0,4),(4,1),(5,1)]:=.i underlying202
instance Yv:bK prog 202 iv:=.i underlying202
instance:hM prog 197 202 iv:=⟨underlying197,Yv⟩
def akV:bD prog 133:=.i func133
def akW:bD prog 134:=.i func134
def anu:bD prog 92:=.i func92
def anw:bD prog 44:=.i func44
def ZT:bD prog 27:=.i func27
def anR:bD prog 91:=.i func91
def anV:bD prog 85:=.i func85
def anW:bD prog 89:=.i func89
def anX:bD prog 90:=.i func90
def anY:bD prog 24:=.i func24
def anZ:bD prog 25:=.i func25
def CW:bD prog 23:=.i func23
def G0:bD prog 8:=.i func8
def Zm:bD prog 28:=.i func28
def akY:bD prog 184:=.i func184
def akX:bD prog 183:=.i func183
def akZ:bD prog 185:=.i func185
def alg:bD prog 139:=.i func139
def alh:bD prog 140:=.i func140
def anK:bD prog 94:=.i func94
def anL:bD prog 45:=.i func45
def anM:bD prog 29:=.i func29
def aa5:bD prog 9:=.i func9
instance X8:c4 prog 145 (default:Vector (aa Int) 6):=.i
instance rZ:pq prog 145 6 1:=pq.of underlying145 k4 I
def aeG:jy prog 145 [0,1,2,3,4,5]:=by unfold jy;kernel_rfl
instance:bK prog 145 (Vector (aa Int) 6):=.i underlying145
structure hS where
 bO:ByteArray
 fW:ByteArray
 deriving DecidableEq,Inhabited
instance:ah hS:=.str (cL ByteArray (fZ ByteArray)) (λx=>(x.bO,x.fW)) 2
abbrev ad7:aN hS ByteArray:=.str cR 0 hS.bO λb g=>{b with bO:=g}
abbrev ad8:aN hS ByteArray:=.str (bm gm) 1 hS.fW λb g=>{b with fW:=g}
instance:aT hS:=⟨aT.cells ByteArray++aT.cells ByteArray,λA W=>⟨by rfl,aT.ok (α:=ByteArray) A W,aT.ok (α:=ByteArray) A W⟩⟩
instance Cz:c4 prog 152 (default:hS):=.i
instance:b3 prog 152 0 ad7:=.i underlying152 I j4
instance:b3 prog 152 1 ad8:=.i underlying152 I j4
instance:fw prog 152 #[(0,1),(1,1)]:=.i underlying152
instance z1:bK prog 152 hS:=.i underlying152
instance:hM prog 98 152 hS:=⟨underlying98,z1⟩
structure gf where
 bO:ByteArray
 fW:ByteArray
 bV:aV
 deriving DecidableEq,Inhabited
instance:ah gf:=.str (cL ByteArray (cL ByteArray (fZ aV))) (λx=>(x.bO,x.fW,x.bV)) 4
abbrev acP:aN gf ByteArray:=.str cR 0 gf.bO λb g=>{b with bO:=g}
abbrev acQ:aN gf ByteArray:=.str (bm cR) 1 gf.fW λb g=>{b with fW:=g}
abbrev acI:aN gf aV:=.str (bm (bm gm)) 2 gf.bV λb g=>{b with bV:=g}
instance:aT gf:=⟨aT.cells ByteArray++aT.cells ByteArray++aT.cells aV,λA W=>⟨by rfl,aT.ok (α:=ByteArray) A W,aT.ok (α:=ByteArray) A W,aT.ok (α:=aV) A W⟩⟩
instance:c4 prog 214 (default:Vector Bool 128):=.i
instance:pq prog 214 128 1:=pq.of underlying214 n3 I
instance:bK prog 214 (Vector Bool 128):=.i underlying214
instance CA:c4 prog 156 (default:gf):=.i
instance:b3 prog 156 0 acP:=.i underlying156 I j4
instance:b3 prog 156 1 acQ:=.i underlying156 I j4
instance:b3 prog 156 2 acI:=.i underlying156 I hV
instance:fw prog 156 #[(0,1),(1,1),(2,2)]:=.i underlying156
instance z6:bK prog 156 gf:=.i underlying156
instance:hM prog 100 156 gf:=⟨underlying100,z6⟩
structure jC where
 fX:Int
 pX:Int
 so:Int
 bO:ByteArray
 fW:ByteArray
 bV:aV
 deriving DecidableEq,Inhabited
instance:ah jC:=.str (cL Int (cL Int (cL Int (cL ByteArray (cL ByteArray (fZ aV)))))) (λx=>(x.fX,x.pX,x.so,x.bO,x.fW,x.bV)) 7
abbrev UO:aN jC Int:=.str cR 0 jC.fX λb g=>{b with fX:=g}
abbrev Jp:aN jC Int:=.str (bm cR) 1 jC.pX λb g=>{b with pX:=g}
abbrev Jq:aN jC Int:=.str (bm (bm cR)) 2 jC.so λb g=>{b with so:=g}
abbrev adH:aN jC ByteArray:=.str (bm (bm (bm cR))) 3 jC.bO λb g=>{b with bO:=g}
abbrev adI:aN jC ByteArray:=.str (bm (bm (bm (bm cR)))) 4 jC.fW λb g=>{b with fW:=g}
abbrev adq:aN jC aV:=.str (bm (bm (bm (bm (bm gm))))) 5 jC.bV λb g=>{b with bV:=g}
instance:aT jC:=⟨aT.cells Int++aT.cells Int++aT.cells Int++aT.cells ByteArray++aT.cells ByteArray++aT.cells aV,λA W=>⟨by rfl,aT.ok (α:=Int) A W,aT.ok (α:=Int) A W,aT.ok (α:=Int) A W,aT.ok (α:=ByteArray) A W,aT.ok (α:=ByteArray) A W,aT.ok (α:=aV) A W⟩⟩
instance:c4 prog 205 (default:jC):=.i
instance ahO:b3 prog 205 0 UO:=.i underlying205 I b8
instance:b3 prog 205 5 adq:=.i underlying205 I hV
instance:fw prog 205 #[(0,1),(1,1),(2,1),(3,1),(4,1),(5,2)]:=.i underlying205
instance am2:bK prog 205 jC:=.i underlying205
instance:hM prog 147 205 jC:=⟨underlying147,am2⟩
instance PF:b3 prog 205 1 Jp:=.i underlying205 I b8
def v7:bD prog 98:=.i func98
instance PG:b3 prog 205 2 Jq:=.i underlying205 I b8
structure jT where
 sW:Bool
 qm:List Int
 deriving DecidableEq,Inhabited
instance:ah jT:=.str (cL Bool (fZ (aa Int))) (λx=>(x.sW,x.qm)) 2
abbrev adJ:aN jT Bool:=.str cR 0 jT.sW λb g=>{b with sW:=g}
abbrev adr:aN jT (aa Int):=.str (bm gm) 1 jT.qm λb g=>{b with qm:=g}
instance:aT jT:=⟨aT.cells Bool++aT.cells (aa Int),λA W=>⟨by rfl,aT.ok (α:=Bool) A W,aT.ok (α:=aa Int) A W⟩⟩
instance akJ:c4 prog 260 (default:jT):=.i
instance:b3 prog 260 0 adJ:=.i underlying260 I n3
instance:b3 prog 260 1 adr:=.i underlying260 I k4
instance:fw prog 260 #[(0,1),(1,1)]:=.i underlying260
instance:bK prog 260 jT:=.i underlying260
def F6:bD prog 151:=.i func151
instance:b3 prog 205 3 adH:=.i underlying205 I j4
instance:b3 prog 205 4 adI:=.i underlying205 I j4
def anN:bD prog 32:=.i func32
def anO:bD prog 33:=.i func33
def ZL:bD prog 31:=.i func31
def anP:bD prog 35:=.i func35
def anQ:bD prog 36:=.i func36
def an4:bD prog 10:=.i func10
def am4:bD prog 53:=.i func53
def an0:bD prog 37:=.i func37
def an5:bD prog 11:=.i func11
inductive Cell where
 |kj (x:e7) (key:Option Nat) (cap:Nat)
 |sg (x:List (Int×Ref))
 |qE (x:k0)
 |r7 (x:List (cz×kx))
 |Aj (x:qj)
 |r8 (x:iV)
 |lX (x:List (Int×aK))
 |pH (x:jS)
 |n0 (x:List ((Vector aV 4)×Ref))
 |qA (x:List ((Vector aV 4)×Int))
 |CN (x:rQ)
 |uJ (x:ep) (key:Option Nat) (cap:Nat)
 |gP (x:eG)
 |k6 (x:gZ)
instance:dN Cell where
 gk p k:=match k with
  | .kj x key cap=>[⟨some p,.cq ({x with fN:=[]}:e7) [(3,aO key x.fN.length cap)]⟩,⟨key,.row 139 (x.fN:aa fb) cap⟩]
  | .sg x=>[⟨some p,.map x⟩]
  | .qE x=>[⟨some p,.var x⟩]
  | .r7 x=>[⟨some p,.map x⟩]
  | .Aj x=>[⟨some p,.var x⟩]
  | .r8 x=>[⟨some p,.var x⟩]
  | .lX x=>[⟨some p,.map x⟩]
  | .pH x=>[⟨some p,.var x⟩]
  | .n0 x=>[⟨some p,.map x⟩]
  | .qA x=>[⟨some p,.map x⟩]
  | .CN x=>[⟨some p,.var x⟩]
  | .uJ x key cap=>[⟨some p,.cq ({x with da:=[]}:ep) [(10,aO key x.da.length cap)]⟩,⟨key,.row 186 (x.da:aa aK) cap⟩]
  | .gP x=>[⟨some p,.var x⟩]
  | .k6 x=>[⟨some p,.var x⟩]
 root p k:=by cases k <;> exact⟨_,ln ..,rfl⟩
def gQ(hp:aH Cell)(p:Nat):aw (e7×aw Nat×Nat):=match pat hp p with
 |some (.kj x key cap)=>some (x,key,cap)
 |_=>none
def o4{hp:aH Cell}{p:Nat}{x:e7×aw Nat×Nat}(h:gQ hp p=some x):pat hp p=some (.kj x.1 x.2.1 x.2.2):=by
 unfold gQ at h;split at h
 ·rename_i ad;cases h;exact ad
 cases h
instance:ab4 e7 gQ (λx=>{x.1 with fN:=[]}) (λx=>[(3,aO x.2.1 x.1.fN.length x.2.2)]):=⟨λh=>⟨_,_,o4 h,rfl⟩⟩
def mi(hp:aH Cell)(p:Nat):aw (aa (Int×Ref)):=match pat hp p with
 |some (.sg x)=>some x
 |_=>none
def xw{hp:aH Cell}{p:Nat}{x:aa (Int×Ref)}(h:mi hp p=some x):pat hp p=some (.sg x):=by
 unfold mi at h;split at h
 ·rename_i ad;cases h;exact ad
 cases h
def ja(hp:aH Cell)(p:Nat):aw k0:=match pat hp p with
 |some (.qE x)=>some x
 |_=>none
def vL{hp:aH Cell}{p:Nat}{x:k0}(h:ja hp p=some x):pat hp p=some (.qE x):=by
 unfold ja at h;split at h
 ·rename_i ad;cases h;exact ad
 cases h
instance:yG k0 ja:=⟨λh=>⟨_,vL h,rfl⟩⟩
def pG(hp:aH Cell)(p:Nat):aw (aa (cz×kx)):=match pat hp p with
 |some (.r7 x)=>some x
 |_=>none
def uv{hp:aH Cell}{p:Nat}{x:aa (cz×kx)}(h:pG hp p=some x):pat hp p=some (.r7 x):=by
 unfold pG at h;split at h
 ·rename_i ad;cases h;exact ad
 cases h
def pF(hp:aH Cell)(p:Nat):aw qj:=match pat hp p with
 |some (.Aj x)=>some x
 |_=>none
def Qm{hp:aH Cell}{p:Nat}{x:qj}(h:pF hp p=some x):pat hp p=some (.Aj x):=by
 unfold pF at h;split at h
 ·rename_i ad;cases h;exact ad
 cases h
instance:yG qj pF:=⟨λh=>⟨_,Qm h,rfl⟩⟩
def ox(hp:aH Cell)(p:Nat):aw iV:=match pat hp p with
 |some (.r8 x)=>some x
 |_=>none
def uw{hp:aH Cell}{p:Nat}{x:iV}(h:ox hp p=some x):pat hp p=some (.r8 x):=by
 unfold ox at h;split at h
 ·rename_i ad;cases h;exact ad
 cases h
instance:yG iV ox:=⟨λh=>⟨_,uw h,rfl⟩⟩
def mj(hp:aH Cell)(p:Nat):aw (aa (Int×aK)):=match pat hp p with
 |some (.lX x)=>some x
 |_=>none
def s3{hp:aH Cell}{p:Nat}{x:aa (Int×aK)}(h:mj hp p=some x):pat hp p=some (.lX x):=by
 unfold mj at h;split at h
 ·rename_i ad;cases h;exact ad
 cases h
def iO(hp:aH Cell)(p:Nat):aw jS:=match pat hp p with
 |some (.pH x)=>some x
 |_=>none
def zL{hp:aH Cell}{p:Nat}{x:jS}(h:iO hp p=some x):pat hp p=some (.pH x):=by
 unfold iO at h;split at h
 ·rename_i ad;cases h;exact ad
 cases h
instance:yG jS iO:=⟨λh=>⟨_,zL h,rfl⟩⟩
def lu(hp:aH Cell)(p:Nat):aw (aa ((Vector aV 4)×Ref)):=match pat hp p with
 |some (.n0 x)=>some x
 |_=>none
def o1{hp:aH Cell}{p:Nat}{x:aa ((Vector aV 4)×Ref)}(h:lu hp p=some x):pat hp p=some (.n0 x):=by
 unfold lu at h;split at h
 ·rename_i ad;cases h;exact ad
 cases h
def nt(hp:aH Cell)(p:Nat):aw (aa ((Vector aV 4)×Int)):=match pat hp p with
 |some (.qA x)=>some x
 |_=>none
def ur{hp:aH Cell}{p:Nat}{x:aa ((Vector aV 4)×Int)}(h:nt hp p=some x):pat hp p=some (.qA x):=by
 unfold nt at h;split at h
 ·rename_i ad;cases h;exact ad
 cases h
def nW(hp:aH Cell)(p:Nat):aw rQ:=match pat hp p with
 |some (.CN x)=>some x
 |_=>none
def FZ{hp:aH Cell}{p:Nat}{x:rQ}(h:nW hp p=some x):pat hp p=some (.CN x):=by
 unfold nW at h;split at h
 ·rename_i ad;cases h;exact ad
 cases h
instance:yG rQ nW:=⟨λh=>⟨_,FZ h,rfl⟩⟩
def rj(hp:aH Cell)(p:Nat):aw (ep×aw Nat×Nat):=match pat hp p with
 |some (.uJ x key cap)=>some (x,key,cap)
 |_=>none
def zP{hp:aH Cell}{p:Nat}{x:ep×aw Nat×Nat}(h:rj hp p=some x):pat hp p=some (.uJ x.1 x.2.1 x.2.2):=by
 unfold rj at h;split at h
 ·rename_i ad;cases h;exact ad
 cases h
def cK(hp:aH Cell)(p:Nat):aw eG:=match pat hp p with
 |some (.gP x)=>some x
 |_=>none
def re{hp:aH Cell}{p:Nat}{x:eG}(h:cK hp p=some x):pat hp p=some (.gP x):=by
 unfold cK at h;split at h
 ·rename_i ad;cases h;exact ad
 cases h
instance:yG eG cK:=⟨λh=>⟨_,re h,rfl⟩⟩
def gi(hp:aH Cell)(p:Nat):aw gZ:=match pat hp p with
 |some (.k6 x)=>some x
 |_=>none
def xx{hp:aH Cell}{p:Nat}{x:gZ}(h:gi hp p=some x):pat hp p=some (.k6 x):=by
 unfold gi at h;split at h
 ·rename_i ad;cases h;exact ad
 cases h
instance:yG gZ gi:=⟨λh=>⟨_,xx h,rfl⟩⟩
end Go.Proofs.YtdadopcnkghbaaaGreat
