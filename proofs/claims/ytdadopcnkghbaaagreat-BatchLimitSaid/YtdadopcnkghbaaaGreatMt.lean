/-
  The types of the data, and facts on their tables. Conditions: none.
-/
import Derived.Test.YtdadopcnkghbaaaGreatRows
import Derived.Test.YtdadopcnkghbaaaGreatMl1
import Derived.Test.YtdadopcnkghbaaaGreatMl2
set_option linter.defProp false
set_option linter.unusedVariables false
set_option linter.unusedSimpArgs false
set_option maxRecDepth 100000
namespace Go.Proofs.YtdadopcnkghbaaaGreat
open Go Gv Go.Proofs.Tryz
structure e6 where
 cK:List (BitVec 8)
 vv:Int
 deriving DecidableEq,Inhabited
instance:ag e6:=.str (cz (aa (BitVec 8)) (fF Int)) (λx=>(x.cK,x.vv)) 2
abbrev ZS:aO e6 (aa (BitVec 8)):=.str cI 0 e6.cK λb g=>{b with cK:=g}
abbrev Zo:aO e6 Int:=.str (bl fO) 1 e6.vv λb g=>{b with vv:=g}
instance:aQ e6:=⟨aQ.cells (aa (BitVec 8))++aQ.cells Int,λA W=>⟨by rfl,aQ.ok (α:=aa (BitVec 8)) A W,aQ.ok (α:=Int) A W⟩⟩
instance Ws:bG prog 5 (BitVec 8):=.i underlying5
instance:hh prog 22 5 (BitVec 8):=⟨underlying22,Ws⟩
instance:cN prog 69 (default:e6):=.i
instance akt:bG prog 22 (aa (BitVec 8)):=.i underlying22
instance:bT prog 69 0 ZS:=.i underlying69 I akt
instance:ff prog 69 #[(0,1),(1,1)]:=.i underlying69
def WN:bx prog 5:=.i func5
structure gV where
 b2:Int
 cd:ByteArray
 iW:Int
 deriving DecidableEq,Inhabited
instance:ag gV:=.str (cz Int (cz ByteArray (fF Int))) (λx=>(x.b2,x.cd,x.iW)) 3
abbrev Z7:aO gV Int:=.str cI 0 gV.b2 λb g=>{b with b2:=g}
abbrev Zp:aO gV ByteArray:=.str (bl cI) 1 gV.cd λb g=>{b with cd:=g}
abbrev Zq:aO gV Int:=.str (bl (bl fO)) 2 gV.iW λb g=>{b with iW:=g}
instance:aQ gV:=⟨aQ.cells Int++aQ.cells ByteArray++aQ.cells Int,λA W=>⟨by rfl,aQ.ok (α:=Int) A W,aQ.ok (α:=ByteArray) A W,aQ.ok (α:=Int) A W⟩⟩
structure kr where
 b2:Int
 cd:ByteArray
 jl:List Int
 deriving DecidableEq,Inhabited
instance:ag kr:=.str (cz Int (cz ByteArray (fF (aa Int)))) (λx=>(x.b2,x.cd,x.jl)) 3
abbrev ZT:aO kr Int:=.str cI 0 kr.b2 λb g=>{b with b2:=g}
abbrev Y5:aO kr ByteArray:=.str (bl cI) 1 kr.cd λb g=>{b with cd:=g}
abbrev YC:aO kr (aa Int):=.str (bl (bl fO)) 2 kr.jl λb g=>{b with jl:=g}
instance:aQ kr:=⟨aQ.cells Int++aQ.cells ByteArray++aQ.cells (aa Int),λA W=>⟨by rfl,aQ.ok (α:=Int) A W,aQ.ok (α:=ByteArray) A W,aQ.ok (α:=aa Int) A W⟩⟩
structure aX where
 ey:BitVec 64
 dp:BitVec 64
 deriving DecidableEq,Inhabited
instance:ag aX:=.str (cz (BitVec 64) (fF (BitVec 64))) (λx=>(x.ey,x.dp)) 2
abbrev GG:aO aX (BitVec 64):=.str cI 0 aX.ey λb g=>{b with ey:=g}
abbrev se:aO aX (BitVec 64):=.str (bl fO) 1 aX.dp λb g=>{b with dp:=g}
instance:aQ aX:=⟨aQ.cells (BitVec 64)++aQ.cells (BitVec 64),λA W=>⟨by rfl,aQ.ok (α:=BitVec 64) A W,aQ.ok (α:=BitVec 64) A W⟩⟩
structure hB where
 b3:aX
 hF:aX
 tC:Int
 deriving DecidableEq,Inhabited
instance:ag hB:=.str (cz aX (cz aX (fF Int))) (λx=>(x.b3,x.hF,x.tC)) 5
abbrev Kr:aO hB aX:=.str cI 0 hB.b3 λb g=>{b with b3:=g}
abbrev KC:aO hB aX:=.str (bl cI) 2 hB.hF λb g=>{b with hF:=g}
abbrev KD:aO hB Int:=.str (bl (bl fO)) 4 hB.tC λb g=>{b with tC:=g}
instance:aQ hB:=⟨aQ.cells aX++aQ.cells aX++aQ.cells Int,λA W=>⟨by rfl,aQ.ok (α:=aX) A W,aQ.ok (α:=aX) A W,aQ.ok (α:=Int) A W⟩⟩
structure ee where
 b2:Int
 jk:Int
 qe:Int
 qZ:List hB
 hV:Int
 deriving DecidableEq,Inhabited
instance:ag ee:=.str (cz Int (cz Int (cz Int (cz (aa hB) (fF Int))))) (λx=>(x.b2,x.jk,x.qe,x.qZ,x.hV)) 5
abbrev Q0:aO ee Int:=.str cI 0 ee.b2 λb g=>{b with b2:=g}
abbrev QE:aO ee Int:=.str (bl cI) 1 ee.jk λb g=>{b with jk:=g}
abbrev QF:aO ee Int:=.str (bl (bl cI)) 2 ee.qe λb g=>{b with qe:=g}
abbrev F3:aO ee (aa hB):=.str (bl (bl (bl cI))) 3 ee.qZ λb g=>{b with qZ:=g}
abbrev Qz:aO ee Int:=.str (bl (bl (bl (bl fO)))) 4 ee.hV λb g=>{b with hV:=g}
instance:aQ ee:=⟨aQ.cells Int++aQ.cells Int++aQ.cells Int++aQ.cells (aa hB)++aQ.cells Int,λA W=>⟨by rfl,aQ.ok (α:=Int) A W,aQ.ok (α:=Int) A W,aQ.ok (α:=Int) A W,aQ.ok (α:=aa hB) A W,aQ.ok (α:=Int) A W⟩⟩
structure lH where
 cd:ByteArray
 iW:Int
 deriving DecidableEq,Inhabited
instance:ag lH:=.str (cz ByteArray (fF Int)) (λx=>(x.cd,x.iW)) 2
abbrev Zr:aO lH ByteArray:=.str cI 0 lH.cd λb g=>{b with cd:=g}
abbrev Zs:aO lH Int:=.str (bl fO) 1 lH.iW λb g=>{b with iW:=g}
instance:aQ lH:=⟨aQ.cells ByteArray++aQ.cells Int,λA W=>⟨by rfl,aQ.ok (α:=ByteArray) A W,aQ.ok (α:=Int) A W⟩⟩
structure ig where
 du:Int
 D6:Int
 b3:aX
 deriving DecidableEq,Inhabited
instance:ag ig:=.str (cz Int (cz Int (fF aX))) (λx=>(x.du,x.D6,x.b3)) 4
abbrev YV:aO ig Int:=.str cI 0 ig.du λb g=>{b with du:=g}
abbrev ZU:aO ig Int:=.str (bl cI) 1 ig.D6 λb g=>{b with D6:=g}
abbrev YD:aO ig aX:=.str (bl (bl fO)) 2 ig.b3 λb g=>{b with b3:=g}
instance:aQ ig:=⟨aQ.cells Int++aQ.cells Int++aQ.cells aX,λA W=>⟨by rfl,aQ.ok (α:=Int) A W,aQ.ok (α:=Int) A W,aQ.ok (α:=aX) A W⟩⟩
structure hU where
 kV:Int
 sD:Int
 tL:ig
 deriving DecidableEq,Inhabited
instance:ag hU:=.str (cz Int (cz Int (fF ig))) (λx=>(x.kV,x.sD,x.tL)) 6
abbrev aac:aO hU Int:=.str cI 0 hU.kV λb g=>{b with kV:=g}
abbrev Z8:aO hU Int:=.str (bl cI) 1 hU.sD λb g=>{b with sD:=g}
abbrev Z9:aO hU ig:=.str (bl (bl fO)) 2 hU.tL λb g=>{b with tL:=g}
instance:aQ hU:=⟨aQ.cells Int++aQ.cells Int++aQ.cells ig,λA W=>⟨by rfl,aQ.ok (α:=Int) A W,aQ.ok (α:=Int) A W,aQ.ok (α:=ig) A W⟩⟩
structure eD where
 b2:Int
 cd:ByteArray
 oU:List lH
 vc:List hU
 iT:ByteArray
 deriving DecidableEq,Inhabited
instance:ag eD:=.str (cz Int (cz ByteArray (cz (aa lH) (cz (aa hU) (fF ByteArray))))) (λx=>(x.b2,x.cd,x.oU,x.vc,x.iT)) 5
abbrev ZV:aO eD Int:=.str cI 0 eD.b2 λb g=>{b with b2:=g}
abbrev Y6:aO eD ByteArray:=.str (bl cI) 1 eD.cd λb g=>{b with cd:=g}
abbrev YE:aO eD (aa lH):=.str (bl (bl cI)) 2 eD.oU λb g=>{b with oU:=g}
abbrev Y7:aO eD (aa hU):=.str (bl (bl (bl cI))) 3 eD.vc λb g=>{b with vc:=g}
abbrev Fy:aO eD ByteArray:=.str (bl (bl (bl (bl fO)))) 4 eD.iT λb g=>{b with iT:=g}
instance:aQ eD:=⟨aQ.cells Int++aQ.cells ByteArray++aQ.cells (aa lH)++aQ.cells (aa hU)++aQ.cells ByteArray,λA W=>⟨by rfl,aQ.ok (α:=Int) A W,aQ.ok (α:=ByteArray) A W,aQ.ok (α:=aa lH) A W,aQ.ok (α:=aa hU) A W,aQ.ok (α:=ByteArray) A W⟩⟩
structure c3 where
 cd:ByteArray
 hE:Int
 du:Int
 deriving DecidableEq,Inhabited
instance:ag c3:=.str (cz ByteArray (cz Int (fF Int))) (λx=>(x.cd,x.hE,x.du)) 3
abbrev Co:aO c3 ByteArray:=.str cI 0 c3.cd λb g=>{b with cd:=g}
abbrev Cj:aO c3 Int:=.str (bl cI) 1 c3.hE λb g=>{b with hE:=g}
abbrev wS:aO c3 Int:=.str (bl (bl fO)) 2 c3.du λb g=>{b with du:=g}
instance:aQ c3:=⟨aQ.cells ByteArray++aQ.cells Int++aQ.cells Int,λA W=>⟨by rfl,aQ.ok (α:=ByteArray) A W,aQ.ok (α:=Int) A W,aQ.ok (α:=Int) A W⟩⟩
structure bC where
 b2:Int
 cd:ByteArray
 ca:List c3
 dD:List Int
 hV:Int
 wY:List aX
 e3:Int
 iT:ByteArray
 deriving DecidableEq,Inhabited
instance:ag bC:=.str (cz Int (cz ByteArray (cz (aa c3) (cz (aa Int) (cz Int (cz (aa aX) (cz Int (fF ByteArray)))))))) (λx=>(x.b2,x.cd,x.ca,x.dD,x.hV,x.wY,x.e3,x.iT)) 8
abbrev wR:aO bC Int:=.str cI 0 bC.b2 λb g=>{b with b2:=g}
abbrev Ge:aO bC ByteArray:=.str (bl cI) 1 bC.cd λb g=>{b with cd:=g}
abbrev nU:aO bC (aa c3):=.str (bl (bl cI)) 2 bC.ca λb g=>{b with ca:=g}
abbrev BI:aO bC (aa Int):=.str (bl (bl (bl cI))) 3 bC.dD λb g=>{b with dD:=g}
abbrev FQ:aO bC Int:=.str (bl (bl (bl (bl cI)))) 4 bC.hV λb g=>{b with hV:=g}
abbrev Yb:aO bC (aa aX):=.str (bl (bl (bl (bl (bl cI))))) 5 bC.wY λb g=>{b with wY:=g}
abbrev zc:aO bC Int:=.str (bl (bl (bl (bl (bl (bl cI)))))) 6 bC.e3 λb g=>{b with e3:=g}
abbrev yW:aO bC ByteArray:=.str (bl (bl (bl (bl (bl (bl (bl fO))))))) 7 bC.iT λb g=>{b with iT:=g}
instance:aQ bC:=⟨aQ.cells Int++aQ.cells ByteArray++aQ.cells (aa c3)++aQ.cells (aa Int)++aQ.cells Int++aQ.cells (aa aX)++aQ.cells Int++aQ.cells ByteArray,λA W=>⟨by rfl,aQ.ok (α:=Int) A W,aQ.ok (α:=ByteArray) A W,aQ.ok (α:=aa c3) A W,aQ.ok (α:=aa Int) A W,aQ.ok (α:=Int) A W,aQ.ok (α:=aa aX) A W,aQ.ok (α:=Int) A W,aQ.ok (α:=ByteArray) A W⟩⟩
structure fI where
 cu:Int
 jk:Int
 deriving DecidableEq,Inhabited
instance:ag fI:=.str (cz Int (fF Int)) (λx=>(x.cu,x.jk)) 2
abbrev B0:aO fI Int:=.str cI 0 fI.cu λb g=>{b with cu:=g}
abbrev Ki:aO fI Int:=.str (bl fO) 1 fI.jk λb g=>{b with jk:=g}
instance:aQ fI:=⟨aQ.cells Int++aQ.cells Int,λA W=>⟨by rfl,aQ.ok (α:=Int) A W,aQ.ok (α:=Int) A W⟩⟩
structure dU where
 cu:Int
 zY:Bool
 xj:Bool
 ca:List Bool
 deriving DecidableEq,Inhabited
instance:ag dU:=.str (cz Int (cz Bool (cz Bool (fF (aa Bool))))) (λx=>(x.cu,x.zY,x.xj,x.ca)) 4
abbrev Y8:aO dU Int:=.str cI 0 dU.cu λb g=>{b with cu:=g}
abbrev Zt:aO dU Bool:=.str (bl cI) 1 dU.zY λb g=>{b with zY:=g}
abbrev Y9:aO dU Bool:=.str (bl (bl cI)) 2 dU.xj λb g=>{b with xj:=g}
abbrev Zu:aO dU (aa Bool):=.str (bl (bl (bl fO))) 3 dU.ca λb g=>{b with ca:=g}
instance:aQ dU:=⟨aQ.cells Int++aQ.cells Bool++aQ.cells Bool++aQ.cells (aa Bool),λA W=>⟨by rfl,aQ.ok (α:=Int) A W,aQ.ok (α:=Bool) A W,aQ.ok (α:=Bool) A W,aQ.ok (α:=aa Bool) A W⟩⟩
structure cL where
 b2:Int
 cd:ByteArray
 iV:List dU
 dD:List Int
 jD:Int
 CX:Bool
 deriving DecidableEq,Inhabited
instance:ag cL:=.str (cz Int (cz ByteArray (cz (aa dU) (cz (aa Int) (cz Int (fF Bool)))))) (λx=>(x.b2,x.cd,x.iV,x.dD,x.jD,x.CX)) 6
abbrev GH:aO cL Int:=.str cI 0 cL.b2 λb g=>{b with b2:=g}
abbrev KE:aO cL ByteArray:=.str (bl cI) 1 cL.cd λb g=>{b with cd:=g}
abbrev wI:aO cL (aa dU):=.str (bl (bl cI)) 2 cL.iV λb g=>{b with iV:=g}
abbrev FZ:aO cL (aa Int):=.str (bl (bl (bl cI))) 3 cL.dD λb g=>{b with dD:=g}
abbrev Ca:aO cL Int:=.str (bl (bl (bl (bl cI)))) 4 cL.jD λb g=>{b with jD:=g}
abbrev Zg:aO cL Bool:=.str (bl (bl (bl (bl (bl fO))))) 5 cL.CX λb g=>{b with CX:=g}
instance:aQ cL:=⟨aQ.cells Int++aQ.cells ByteArray++aQ.cells (aa dU)++aQ.cells (aa Int)++aQ.cells Int++aQ.cells Bool,λA W=>⟨by rfl,aQ.ok (α:=Int) A W,aQ.ok (α:=ByteArray) A W,aQ.ok (α:=aa dU) A W,aQ.ok (α:=aa Int) A W,aQ.ok (α:=Int) A W,aQ.ok (α:=Bool) A W⟩⟩
structure ev where
 cu:Int
 jU:Int
 eg:Int
 u4:Int
 nr:Int
 sj:Int
 deriving DecidableEq,Inhabited
instance:ag ev:=.str (cz Int (cz Int (cz Int (cz Int (cz Int (fF Int)))))) (λx=>(x.cu,x.jU,x.eg,x.u4,x.nr,x.sj)) 6
abbrev ZW:aO ev Int:=.str cI 0 ev.cu λb g=>{b with cu:=g}
abbrev aad:aO ev Int:=.str (bl cI) 1 ev.jU λb g=>{b with jU:=g}
abbrev Zv:aO ev Int:=.str (bl (bl cI)) 2 ev.eg λb g=>{b with eg:=g}
abbrev ZX:aO ev Int:=.str (bl (bl (bl cI))) 3 ev.u4 λb g=>{b with u4:=g}
abbrev Za:aO ev Int:=.str (bl (bl (bl (bl cI)))) 4 ev.nr λb g=>{b with nr:=g}
abbrev ZY:aO ev Int:=.str (bl (bl (bl (bl (bl fO))))) 5 ev.sj λb g=>{b with sj:=g}
instance:aQ ev:=⟨aQ.cells Int++aQ.cells Int++aQ.cells Int++aQ.cells Int++aQ.cells Int++aQ.cells Int,λA W=>⟨by rfl,aQ.ok (α:=Int) A W,aQ.ok (α:=Int) A W,aQ.ok (α:=Int) A W,aQ.ok (α:=Int) A W,aQ.ok (α:=Int) A W,aQ.ok (α:=Int) A W⟩⟩
structure aR where
 jl:List gV
 w8:List kr
 zL:List ee
 dD:List eD
 bM:List bC
 pB:List fI
 fk:List cL
 eE:List ev
 kP:Int
 CP:Int
 deriving DecidableEq,Inhabited
instance:ag aR:=.str (cz (aa gV) (cz (aa kr) (cz (aa ee) (cz (aa eD) (cz (aa bC) (cz (aa fI) (cz (aa cL) (cz (aa ev) (cz Int (fF Int)))))))))) (λx=>(x.jl,x.w8,x.zL,x.dD,x.bM,x.pB,x.fk,x.eE,x.kP,x.CP)) 10
abbrev QA:aO aR (aa gV):=.str cI 0 aR.jl λb g=>{b with jl:=g}
abbrev Qu:aO aR (aa kr):=.str (bl cI) 1 aR.w8 λb g=>{b with w8:=g}
abbrev QB:aO aR (aa ee):=.str (bl (bl cI)) 2 aR.zL λb g=>{b with zL:=g}
abbrev BC:aO aR (aa eD):=.str (bl (bl (bl cI))) 3 aR.dD λb g=>{b with dD:=g}
abbrev qU:aO aR (aa bC):=.str (bl (bl (bl (bl cI)))) 4 aR.bM λb g=>{b with bM:=g}
abbrev FR:aO aR (aa fI):=.str (bl (bl (bl (bl (bl cI))))) 5 aR.pB λb g=>{b with pB:=g}
abbrev QG:aO aR (aa cL):=.str (bl (bl (bl (bl (bl (bl cI)))))) 6 aR.fk λb g=>{b with fk:=g}
abbrev B1:aO aR (aa ev):=.str (bl (bl (bl (bl (bl (bl (bl cI))))))) 7 aR.eE λb g=>{b with eE:=g}
abbrev FF:aO aR Int:=.str (bl (bl (bl (bl (bl (bl (bl (bl cI)))))))) 8 aR.kP λb g=>{b with kP:=g}
abbrev Yt:aO aR Int:=.str (bl (bl (bl (bl (bl (bl (bl (bl (bl fO))))))))) 9 aR.CP λb g=>{b with CP:=g}
instance:aQ aR:=⟨aQ.cells (aa gV)++aQ.cells (aa kr)++aQ.cells (aa ee)++aQ.cells (aa eD)++aQ.cells (aa bC)++aQ.cells (aa fI)++aQ.cells (aa cL)++aQ.cells (aa ev)++aQ.cells Int++aQ.cells Int,λA W=>⟨by rfl,aQ.ok (α:=aa gV) A W,aQ.ok (α:=aa kr) A W,aQ.ok (α:=aa ee) A W,aQ.ok (α:=aa eD) A W,aQ.ok (α:=aa bC) A W,aQ.ok (α:=aa fI) A W,aQ.ok (α:=aa cL) A W,aQ.ok (α:=aa ev) A W,aQ.ok (α:=Int) A W,aQ.ok (α:=Int) A W⟩⟩
instance NB:cN prog 32 (default:aR):=.i
instance cr:bG prog 3 Int:=.i underlying3
instance:bT prog 69 1 Zo:=.i underlying69 I cr
def mixed:prog.follows .mixedOrders=true:=by kernel_rfl
instance:Pq prog:=⟨mixed⟩
def ah5:bx prog 38:=.i func38
instance:nO prog 5 (.int .u8):=⟨underlying5⟩
instance:nO prog 3 (.int .i64):=⟨underlying3⟩
def jV:bx prog 13:=.i func13
instance TG:bT prog 32 8 FF:=.i underlying32 I cr
instance aid:ff prog 32 #[(0,1),(1,1),(2,1),(3,1),(4,1),(5,1),(6,1),(7,1),(8,1),(9,1)]:=.i underlying32
instance pL:bG prog 32 aR:=.i underlying32
instance:cN prog 72 (default:gV):=.i
instance:bT prog 72 0 Z7:=.i underlying72 I cr
instance kB:bG prog 9 ByteArray:=.i underlying9
instance:bT prog 72 1 Zp:=.i underlying72 I kB
instance:bT prog 72 2 Zq:=.i underlying72 I cr
instance:ff prog 72 #[(0,1),(1,1),(2,1)]:=.i underlying72
instance aku:bG prog 72 gV:=.i underlying72
instance:hh prog 23 72 gV:=⟨underlying23,aku⟩
instance Vz:bG prog 23 (aa gV):=.i underlying23
instance:bT prog 32 0 QA:=.i underlying32 I Vz
instance:hh prog 39 3 Int:=⟨underlying39,cr⟩
instance xX:cN prog 3 (default:Int):=.i
instance:cN prog 74 (default:kr):=.i
instance:bT prog 74 0 ZT:=.i underlying74 I cr
instance:bT prog 74 1 Y5:=.i underlying74 I kB
instance xN:bG prog 39 (aa Int):=.i underlying39
instance:bT prog 74 2 YC:=.i underlying74 I xN
instance:ff prog 74 #[(0,1),(1,1),(2,1)]:=.i underlying74
instance akv:bG prog 74 kr:=.i underlying74
instance:hh prog 24 74 kr:=⟨underlying24,akv⟩
instance VA:bG prog 24 (aa kr):=.i underlying24
instance:bT prog 32 1 Qu:=.i underlying32 I VA
instance Ud:cN prog 110 (default:ee):=.i
instance:bT prog 110 0 Q0:=.i underlying110 I cr
instance:bT prog 110 1 QE:=.i underlying110 I cr
instance:bT prog 110 2 QF:=.i underlying110 I cr
instance:bT prog 110 4 Qz:=.i underlying110 I cr
instance afD:ff prog 110 #[(0,1),(1,1),(2,1),(3,1),(4,1)]:=.i underlying110
instance Ue:bG prog 110 ee:=.i underlying110
instance xH:cN prog 47 (default:aX):=.i
instance xM:bG prog 45 (BitVec 64):=.i underlying45
instance:bT prog 47 1 se:=.i underlying47 I xM
instance Dp:ff prog 47 #[(0,1),(1,1)]:=.i underlying47
instance HT:cN prog 112 (default:hB):=.i
instance hI:bG prog 47 aX:=.i underlying47
instance:bT prog 112 0 Kr:=.i underlying112 I hI
instance:bT prog 112 1 KC:=.i underlying112 I hI
instance:bT prog 112 2 KD:=.i underlying112 I cr
instance Uf:ff prog 112 #[(0,2),(2,2),(4,1)]:=.i underlying112
instance MP:bG prog 112 hB:=.i underlying112
instance:hh prog 108 112 hB:=⟨underlying108,MP⟩
instance HU:bG prog 108 (aa hB):=.i underlying108
instance acS:bT prog 110 3 F3:=.i underlying110 I HU
def o3:bx prog 18:=.i func18
instance:nO prog 45 (.int .u64):=⟨underlying45⟩
def S7:jz prog 110 [3]:=by unfold jz;kernel_rfl
instance:hh prog 25 110 ee:=⟨underlying25,Ue⟩
def aie:bx prog 14:=.i func14
instance:cN prog 114 (default:ig):=.i
instance:bT prog 114 0 YV:=.i underlying114 I cr
instance:ff prog 114 #[(0,1),(1,1),(2,2)]:=.i underlying114
instance ahE:bG prog 114 ig:=.i underlying114
instance afE:cN prog 105 (default:eD):=.i
instance:bT prog 105 0 ZV:=.i underlying105 I cr
instance:bT prog 105 1 Y6:=.i underlying105 I kB
instance:ff prog 105 #[(0,1),(1,1),(2,1),(3,1),(4,1)]:=.i underlying105
instance:cN prog 116 (default:hU):=.i
instance:bT prog 116 0 aac:=.i underlying116 I cr
instance:ff prog 116 #[(0,1),(1,1),(2,4)]:=.i underlying116
instance ahF:bG prog 116 hU:=.i underlying116
instance:hh prog 103 116 hU:=⟨underlying103,ahF⟩
instance ahG:bG prog 103 (aa hU):=.i underlying103
instance:bT prog 105 3 Y7:=.i underlying105 I ahG
instance:cN prog 118 (default:lH):=.i
instance:bT prog 118 0 Zr:=.i underlying118 I kB
instance:bT prog 118 1 Zs:=.i underlying118 I cr
instance:ff prog 118 #[(0,1),(1,1)]:=.i underlying118
instance ahH:bG prog 118 lH:=.i underlying118
instance:hh prog 102 118 lH:=⟨underlying102,ahH⟩
instance:bT prog 116 2 Z9:=.i underlying116 I ahE
instance ahI:bG prog 102 (aa lH):=.i underlying102
instance:bT prog 105 2 YE:=.i underlying105 I ahI
instance:bT prog 116 1 Z8:=.i underlying116 I cr
instance:bT prog 114 1 ZU:=.i underlying114 I cr
instance:bT prog 114 2 YD:=.i underlying114 I hI
instance tK:bG prog 105 eD:=.i underlying105
instance:hh prog 26 105 eD:=⟨underlying26,tK⟩
instance LY:bT prog 105 4 Fy:=.i underlying105 I kB
def aif:bx prog 15:=.i func15
instance sG:cN prog 54 (default:c3):=.i
instance:bT prog 54 0 Co:=.i underlying54 I kB
instance:bT prog 54 1 Cj:=.i underlying54 I cr
instance TB:bT prog 54 2 wS:=.i underlying54 I cr
instance Ik:ff prog 54 #[(0,1),(1,1),(2,1)]:=.i underlying54
instance ri:bG prog 54 c3:=.i underlying54
instance:hh prog 38 54 c3:=⟨underlying38,ri⟩
instance qt:cN prog 42 (default:bC):=.i
instance:bT prog 42 0 wR:=.i underlying42 I cr
instance rj:bG prog 38 (aa c3):=.i underlying38
instance sn:bT prog 42 2 nU:=.i underlying42 I rj
instance:bT prog 42 3 BI:=.i underlying42 I xN
instance aen:bT prog 42 6 zc:=.i underlying42 I cr
instance Ij:ff prog 42 #[(0,1),(1,1),(2,1),(3,1),(4,1),(5,1),(6,1),(7,1)]:=.i underlying42
instance jW:bG prog 42 bC:=.i underlying42
def Mm:jz prog 42 [2]:=by unfold jz;kernel_rfl
def Ml:jz prog 42 []:=by unfold jz;kernel_rfl
instance:hh prog 40 47 aX:=⟨underlying40,hI⟩
instance Dw:bG prog 40 (aa aX):=.i underlying40
instance:hh prog 27 42 bC:=⟨underlying27,jW⟩
instance:hh prog 119 9 ByteArray:=⟨underlying119,kB⟩
instance:cN prog 9 (default:ByteArray):=.i
instance MQ:bG prog 119 (aa ByteArray):=.i underlying119
instance:hh prog 120 119 (aa ByteArray):=⟨underlying120,MQ⟩
instance:cN prog 119 (default:aa ByteArray):=.i
instance C2:bT prog 42 7 yW:=.i underlying42 I kB
def aih:bx prog 16:=.i func16
instance VB:bG prog 25 (aa ee):=.i underlying25
instance ad1:bT prog 32 2 QB:=.i underlying32 I VB
instance Du:bG prog 26 (aa eD):=.i underlying26
instance Hz:bT prog 32 3 BC:=.i underlying32 I Du
instance lM:bG prog 27 (aa bC):=.i underlying27
instance n3:bT prog 32 4 qU:=.i underlying32 I lM
instance Ad:cN prog 123 (default:cL):=.i
instance:bT prog 123 0 GH:=.i underlying123 I cr
instance:bT prog 123 3 FZ:=.i underlying123 I xN
instance acY:bT prog 123 4 Ca:=.i underlying123 I cr
instance nF:bG prog 4 Bool:=.i underlying4
instance MR:ff prog 123 #[(0,1),(1,1),(2,1),(3,1),(4,1),(5,1)]:=.i underlying123
instance vk:bG prog 123 cL:=.i underlying123
instance:hh prog 124 4 Bool:=⟨underlying124,nF⟩
instance Wx:cN prog 4 (default:Bool):=.i
instance xw:bG prog 121 (aa dU):=.i underlying121
instance acT:bT prog 123 2 wI:=.i underlying123 I xw
instance MS:cN prog 126 (default:dU):=.i
instance:bT prog 126 0 Y8:=.i underlying126 I cr
instance:bT prog 126 1 Zt:=.i underlying126 I nF
instance:bT prog 126 2 Y9:=.i underlying126 I nF
instance ahJ:bG prog 124 (aa Bool):=.i underlying124
instance:bT prog 126 3 Zu:=.i underlying126 I ahJ
instance:ff prog 126 #[(0,1),(1,1),(2,1),(3,1)]:=.i underlying126
instance HV:bG prog 126 dU:=.i underlying126
instance:hh prog 121 126 dU:=⟨underlying121,HV⟩
def zR:jz prog 123 [2]:=by unfold jz;kernel_rfl
instance:hh prog 29 123 cL:=⟨underlying29,vk⟩
def aii:bx prog 17:=.i func17
instance Il:bG prog 29 (aa cL):=.i underlying29
instance ad2:bT prog 32 6 QG:=.i underlying32 I Il
instance An:cN prog 80 (default:fI):=.i
instance:bT prog 80 0 B0:=.i underlying80 I cr
instance Im:ff prog 80 #[(0,1),(1,1)]:=.i underlying80
instance NC:bG prog 80 fI:=.i underlying80
instance:hh prog 28 80 fI:=⟨underlying28,NC⟩
instance Io:bG prog 28 (aa fI):=.i underlying28
instance Mn:bT prog 32 5 FR:=.i underlying32 I Io
instance xL:bG prog 30 (aa ev):=.i underlying30
instance zV:bT prog 32 7 B1:=.i underlying32 I xL
instance ND:cN prog 37 (default:ev):=.i
instance:bT prog 37 0 ZW:=.i underlying37 I cr
instance:bT prog 37 2 Zv:=.i underlying37 I cr
instance:bT prog 37 4 Za:=.i underlying37 I cr
instance:ff prog 37 #[(0,1),(1,1),(2,1),(3,1),(4,1),(5,1)]:=.i underlying37
instance Ip:bG prog 37 ev:=.i underlying37
instance:hh prog 30 37 ev:=⟨underlying30,Ip⟩
def Sl:jz prog 32 [5,7]:=by unfold jz;kernel_rfl
instance:bT prog 37 1 aad:=.i underlying37 I cr
def WO:bx prog 6:=.i func6
def aem:jz prog 32 [4]:=by unfold jz;kernel_rfl
structure jQ where
 iH:aR
 qY:dZ
 me:Int
 deriving DecidableEq,Inhabited
instance:ag jQ:=.str (cz aR (cz dZ (fF Int))) (λx=>(x.iH,x.qY,x.me)) 12
abbrev Qw:aO jQ aR:=.str cI 0 jQ.iH λb g=>{b with iH:=g}
abbrev FM:aO jQ dZ:=.str (bl cI) 10 jQ.qY λb g=>{b with qY:=g}
abbrev F0:aO jQ Int:=.str (bl (bl fO)) 11 jQ.me λb g=>{b with me:=g}
instance:aQ jQ:=⟨aQ.cells aR++aQ.cells dZ++aQ.cells Int,λA W=>⟨by rfl,aQ.ok (α:=aR) A W,aQ.ok (α:=dZ) A W,aQ.ok (α:=Int) A W⟩⟩
instance afO:cN prog 129 (default:jQ):=.i
instance:bT prog 129 0 Qw:=.i underlying129 I pL
instance UJ:bG prog 127 dZ:=.i underlying127
instance ac7:bT prog 129 1 FM:=.i underlying129 I UJ
instance:bT prog 129 2 F0:=.i underlying129 I cr
instance afN:ff prog 129 #[(0,10),(10,1),(11,1)]:=.i underlying129
def afh:bx prog 103:=.i func103
def afi:bx prog 102:=.i func102
structure cJ where
 gX:Bool
 b3:aX
 hF:aX
 ft:Int
 lh:aX
 deriving DecidableEq,Inhabited
instance:ag cJ:=.str (cz Bool (cz aX (cz aX (cz Int (fF aX))))) (λx=>(x.gX,x.b3,x.hF,x.ft,x.lh)) 8
abbrev BJ:aO cJ Bool:=.str cI 0 cJ.gX λb g=>{b with gX:=g}
abbrev F7:aO cJ aX:=.str (bl cI) 1 cJ.b3 λb g=>{b with b3:=g}
abbrev Kz:aO cJ aX:=.str (bl (bl cI)) 3 cJ.hF λb g=>{b with hF:=g}
abbrev Kn:aO cJ Int:=.str (bl (bl (bl cI))) 5 cJ.ft λb g=>{b with ft:=g}
abbrev KA:aO cJ aX:=.str (bl (bl (bl (bl fO)))) 6 cJ.lh λb g=>{b with lh:=g}
instance:aQ cJ:=⟨aQ.cells Bool++aQ.cells aX++aQ.cells aX++aQ.cells Int++aQ.cells aX,λA W=>⟨by rfl,aQ.ok (α:=Bool) A W,aQ.ok (α:=aX) A W,aQ.ok (α:=aX) A W,aQ.ok (α:=Int) A W,aQ.ok (α:=aX) A W⟩⟩
structure bD where
 cu:Int
 cm:List cJ
 jj:Int
 eg:Int
 ho:List aX
 deriving DecidableEq,Inhabited
instance:ag bD:=.str (cz Int (cz (aa cJ) (cz Int (cz Int (fF (aa aX)))))) (λx=>(x.cu,x.cm,x.jj,x.eg,x.ho)) 5
abbrev wK:aO bD Int:=.str cI 0 bD.cu λb g=>{b with cu:=g}
abbrev wF:aO bD (aa cJ):=.str (bl cI) 1 bD.cm λb g=>{b with cm:=g}
abbrev BD:aO bD Int:=.str (bl (bl cI)) 2 bD.jj λb g=>{b with jj:=g}
abbrev y5:aO bD Int:=.str (bl (bl (bl cI))) 3 bD.eg λb g=>{b with eg:=g}
abbrev Cd:aO bD (aa aX):=.str (bl (bl (bl (bl fO)))) 4 bD.ho λb g=>{b with ho:=g}
instance:aQ bD:=⟨aQ.cells Int++aQ.cells (aa cJ)++aQ.cells Int++aQ.cells Int++aQ.cells (aa aX),λA W=>⟨by rfl,aQ.ok (α:=Int) A W,aQ.ok (α:=aa cJ) A W,aQ.ok (α:=Int) A W,aQ.ok (α:=Int) A W,aQ.ok (α:=aa aX) A W⟩⟩
structure aJ where
 bj:bD
 ct:Int
 ik:Int
 deriving DecidableEq,Inhabited
instance:ag aJ:=.str (cz bD (cz Int (fF Int))) (λx=>(x.bj,x.ct,x.ik)) 7
abbrev J6:aO aJ bD:=.str cI 0 aJ.bj λb g=>{b with bj:=g}
abbrev FD:aO aJ Int:=.str (bl cI) 5 aJ.ct λb g=>{b with ct:=g}
abbrev J7:aO aJ Int:=.str (bl (bl fO)) 6 aJ.ik λb g=>{b with ik:=g}
instance:aQ aJ:=⟨aQ.cells bD++aQ.cells Int++aQ.cells Int,λA W=>⟨by rfl,aQ.ok (α:=bD) A W,aQ.ok (α:=Int) A W,aQ.ok (α:=Int) A W⟩⟩
structure nW where
 sO:Ref
 deriving DecidableEq,Inhabited
instance:ag nW:=.str (fF Ref) (λx=>x.sO) 1
abbrev QR:aO nW Ref:=.str fO 0 nW.sO λb g=>{b with sO:=g}
instance:aQ nW:=⟨aQ.cells Ref,λA W=>⟨by rfl,aQ.ok (α:=Ref) A W⟩⟩
structure k7 where
 tJ:Int
 gr:Int
 si:dZ
 deriving DecidableEq,Inhabited
instance:ag k7:=.str (cz Int (cz Int (fF dZ))) (λx=>(x.tJ,x.gr,x.si)) 3
abbrev Qt:aO k7 Int:=.str cI 0 k7.tJ λb g=>{b with tJ:=g}
abbrev J5:aO k7 Int:=.str (bl cI) 1 k7.gr λb g=>{b with gr:=g}
abbrev Bt:aO k7 dZ:=.str (bl (bl fO)) 2 k7.si λb g=>{b with si:=g}
instance:aQ k7:=⟨aQ.cells Int++aQ.cells Int++aQ.cells dZ,λA W=>⟨by rfl,aQ.ok (α:=Int) A W,aQ.ok (α:=Int) A W,aQ.ok (α:=dZ) A W⟩⟩
structure nX where
 cK:Ref
 deriving DecidableEq,Inhabited
instance:ag nX:=.str (fF Ref) (λx=>x.cK) 1
abbrev QS:aO nX Ref:=.str fO 0 nX.cK λb g=>{b with cK:=g}
instance:aQ nX:=⟨aQ.cells Ref,λA W=>⟨by rfl,aQ.ok (α:=Ref) A W⟩⟩
inductive gT where
 |nil
 |od (x:nW)
 |oe (x:k7)
 |og (x:nX)
 deriving DecidableEq,Inhabited
instance:ag gT where
 size:=1
 agg:=false
 rep A W cs x:=match x with
  | .nil=>cs=[.nilIface]
  | .od x=> ∃v,cs=[.iface 167 v]∧(J.of x).holds A W v
  | .oe x=> ∃v,cs=[.iface 170 v]∧(J.of x).holds A W v
  | .og x=> ∃v,cs=[.iface 174 v]∧(J.of x).holds A W v
 len {A W cs x} h:=by cases x <;> first|(have h:cs=_:=h;rw[h];rfl)|(obtain⟨v,h,_⟩:=h;rw[h];rfl)
 one {A W cs x} h:=by
  intro u hu;cases x <;> first|(have h:cs=_:=h;rw[h]at hu;rw[gG.1 hu];rfl)|(obtain⟨v,h,_⟩:=h;rw[h]at hu;rw[gG.1 hu];rfl)
 flat _:=rfl
 mono {A W cg W' cs x} e h:=by cases x <;> first|exact h|(obtain⟨v,h,ad⟩:=h;exact⟨v,h,J.mono _ e ad⟩)
instance:aQ gT:=⟨[.nilIface],λ_ _=>rfl⟩
def abl{A W v}{x:nW}(h:(J.of x).holds A W v):(J.of (gT.od x)).holds A W (.iface 167 v):=⟨rfl,v,rfl,h⟩
def Lu{A W u}{x:nW}(h:(J.of (gT.od x)).holds A W u):∃v,u=.iface 167 v∧(J.of x).holds A W v:=by
 obtain⟨h1,v,ad,ay⟩:=h;exact⟨v,mM h1 ad,ay⟩
def abm{A W v}{x:k7}(h:(J.of x).holds A W v):(J.of (gT.oe x)).holds A W (.iface 170 v):=⟨rfl,v,rfl,h⟩
def Lv{A W u}{x:k7}(h:(J.of (gT.oe x)).holds A W u):∃v,u=.iface 170 v∧(J.of x).holds A W v:=by
 obtain⟨h1,v,ad,ay⟩:=h;exact⟨v,mM h1 ad,ay⟩
def abn{A W v}{x:nX}(h:(J.of x).holds A W v):(J.of (gT.og x)).holds A W (.iface 174 v):=⟨rfl,v,rfl,h⟩
def Lw{A W u}{x:nX}(h:(J.of (gT.og x)).holds A W u):∃v,u=.iface 174 v∧(J.of x).holds A W v:=by
 obtain⟨h1,v,ad,ay⟩:=h;exact⟨v,mM h1 ad,ay⟩
structure iG where
 tz:Int
 tA:Int
 lI:gT
 nq:dZ
 deriving DecidableEq,Inhabited
instance:ag iG:=.str (cz Int (cz Int (cz gT (fF dZ)))) (λx=>(x.tz,x.tA,x.lI,x.nq)) 4
abbrev YJ:aO iG Int:=.str cI 0 iG.tz λb g=>{b with tz:=g}
abbrev YK:aO iG Int:=.str (bl cI) 1 iG.tA λb g=>{b with tA:=g}
abbrev FL:aO iG gT:=.str (bl (bl cI)) 2 iG.lI λb g=>{b with lI:=g}
abbrev Qg:aO iG dZ:=.str (bl (bl (bl fO))) 3 iG.nq λb g=>{b with nq:=g}
instance:aQ iG:=⟨aQ.cells Int++aQ.cells Int++aQ.cells gT++aQ.cells dZ,λA W=>⟨by rfl,aQ.ok (α:=Int) A W,aQ.ok (α:=Int) A W,aQ.ok (α:=gT) A W,aQ.ok (α:=dZ) A W⟩⟩
instance afu:cN prog 163 (default:iG):=.i
instance ahK:bG prog 159 dZ:=.i underlying159
instance:bT prog 163 3 Qg:=.i underlying163 I ahK
instance aft:ff prog 163 #[(0,1),(1,1),(2,1),(3,1)]:=.i underlying163
structure qb where
 sy:dZ
 deriving DecidableEq,Inhabited
instance:ag qb:=.str (fF dZ) (λx=>x.sy) 1
abbrev QJ:aO qb dZ:=.str fO 0 qb.sy λb g=>{b with sy:=g}
instance:aQ qb:=⟨aQ.cells dZ,λA W=>⟨by rfl,aQ.ok (α:=dZ) A W⟩⟩
instance ae9:cN prog 220 (default:qb):=.i
instance ahL:bG prog 218 dZ:=.i underlying218
instance:bT prog 220 0 QJ:=.i underlying220 I ahL
instance ae8:ff prog 220 #[(0,1)]:=.i underlying220
def ah7:bx prog 56:=.i func56
instance afw:cN prog 167 (default:nW):=.i
instance ahM:bG prog 164 Ref:=.i underlying164
instance:bT prog 167 0 QR:=.i underlying167 I ahM
instance afv:ff prog 167 #[(0,1)]:=.i underlying167
instance HS:bG prog 161 gT:=.i underlying161
instance:bT prog 163 2 FL:=.i underlying163 I HS
def afj:bx prog 105:=.i func105
def afk:bx prog 104:=.i func104
instance afy:cN prog 170 (default:k7):=.i
instance:bT prog 170 0 Qt:=.i underlying170 I cr
instance:bT prog 170 1 J5:=.i underlying170 I cr
instance M3:bG prog 168 dZ:=.i underlying168
instance Ta:bT prog 170 2 Bt:=.i underlying170 I M3
instance afx:ff prog 170 #[(0,1),(1,1),(2,1)]:=.i underlying170
structure dH where
 k9:aR
 cK:List aJ
 deriving DecidableEq,Inhabited
instance:ag dH:=.str (cz aR (fF (aa aJ))) (λx=>(x.k9,x.cK)) 11
abbrev Qf:aO dH aR:=.str cI 0 dH.k9 λb g=>{b with k9:=g}
abbrev zb:aO dH (aa aJ):=.str (bl fO) 10 dH.cK λb g=>{b with cK:=g}
instance:aQ dH:=⟨aQ.cells aR++aQ.cells (aa aJ),λA W=>⟨by rfl,aQ.ok (α:=aR) A W,aQ.ok (α:=aa aJ) A W⟩⟩
instance afb:cN prog 224 (default:dH):=.i
instance:bT prog 224 0 Qf:=.i underlying224 I pL
instance afa:ff prog 224 #[(0,10),(10,1)]:=.i underlying224
def ah8:bx prog 58:=.i func58
def ab4:jz prog 224 [10]:=by unfold jz;kernel_rfl
instance afA:cN prog 174 (default:nX):=.i
instance ahN:bG prog 171 Ref:=.i underlying171
instance:bT prog 174 0 QS:=.i underlying174 I ahN
instance afz:ff prog 174 #[(0,1)]:=.i underlying174
def aim:bx prog 39:=.i func39
def xZ:oN prog 3 Int:=aez underlying3
structure b8 where
 cu:Int
 jU:Int
 b3:aX
 deriving DecidableEq,Inhabited
instance:ag b8:=.str (cz Int (cz Int (fF aX))) (λx=>(x.cu,x.jU,x.b3)) 4
abbrev FX:aO b8 Int:=.str cI 0 b8.cu λb g=>{b with cu:=g}
abbrev Ga:aO b8 Int:=.str (bl cI) 1 b8.jU λb g=>{b with jU:=g}
abbrev FY:aO b8 aX:=.str (bl (bl fO)) 2 b8.b3 λb g=>{b with b3:=g}
instance:aQ b8:=⟨aQ.cells Int++aQ.cells Int++aQ.cells aX,λA W=>⟨by rfl,aQ.ok (α:=Int) A W,aQ.ok (α:=Int) A W,aQ.ok (α:=aX) A W⟩⟩
structure ji where
 oV:Int
 oT:Int
 deriving DecidableEq,Inhabited
instance:ag ji:=.str (cz Int (fF Int)) (λx=>(x.oV,x.oT)) 2
abbrev BK:aO ji Int:=.str cI 0 ji.oV λb g=>{b with oV:=g}
abbrev By:aO ji Int:=.str (bl fO) 1 ji.oT λb g=>{b with oT:=g}
instance:aQ ji:=⟨aQ.cells Int++aQ.cells Int,λA W=>⟨by rfl,aQ.ok (α:=Int) A W,aQ.ok (α:=Int) A W⟩⟩
structure oS where
 k9:aR
 gK:dZ
 deriving DecidableEq,Inhabited
instance:ag oS:=.str (cz aR (fF dZ)) (λx=>(x.k9,x.gK)) 11
abbrev Qq:aO oS aR:=.str cI 0 oS.k9 λb g=>{b with k9:=g}
abbrev Qr:aO oS dZ:=.str (bl fO) 10 oS.gK λb g=>{b with gK:=g}
instance:aQ oS:=⟨aQ.cells aR++aQ.cells dZ,λA W=>⟨by rfl,aQ.ok (α:=aR) A W,aQ.ok (α:=dZ) A W⟩⟩
instance afd:cN prog 134 (default:oS):=.i
instance:bT prog 134 0 Qq:=.i underlying134 I pL
instance ahO:bG prog 132 dZ:=.i underlying132
instance:bT prog 134 1 Qr:=.i underlying134 I ahO
instance afc:ff prog 134 #[(0,10),(10,1)]:=.i underlying134
structure hS where
 n0:List cL
 gK:Vector Int 6
 deriving DecidableEq,Inhabited
instance:ag hS:=.str (cz (aa cL) (fF (Vector Int 6))) (λx=>(x.n0,x.gK)) 7
abbrev J2:aO hS (aa cL):=.str cI 0 hS.n0 λb g=>{b with n0:=g}
abbrev wv:aO hS (Vector Int 6):=.str (bl fO) 1 hS.gK λb g=>{b with gK:=g}
instance:aQ hS:=⟨aQ.cells (aa cL)++aQ.cells (Vector Int 6),λA W=>⟨by rfl,aQ.ok (α:=aa cL) A W,aQ.ok (α:=Vector Int 6) A W⟩⟩
instance aff:cN prog 137 (default:hS):=.i
instance acX:bT prog 137 0 J2:=.i underlying137 I Il
instance afe:ff prog 137 #[(0,1),(1,6)]:=.i underlying137
def ait:bx prog 19:=.i func19
def ais:bx prog 20:=.i func20
def aip:bx prog 21:=.i func21
inductive ln where
 |nil
 |x4 (a0:Ref) (bK:aJ) (a2:Int) (a3:Int)
 |iZ (a0:Ref) (bK:bD)
 |x5 (a0:Ref) (bK:aJ)
 deriving DecidableEq,Inhabited
instance:ag ln where
 size:=1
 agg:=false
 rep A W cs x:=match x with
  | .nil=>cs=[.nilFunc]
  | .x4 a0 bK a2 a3=> ∃v,cs=[v]∧(J.ju 85 [J.ptr a0,J.ptr bK,J.ptr a2,J.ptr a3]).holds A W v
  | .iZ a0 bK=> ∃v,cs=[v]∧(J.ju 89 [J.ptr a0,J.ptr bK]).holds A W v
  | .x5 a0 bK=> ∃v,cs=[v]∧(J.ju 90 [J.ptr a0,J.ptr bK]).holds A W v
 len {A W cs x} h:=by cases x <;> first|(have h:cs=_:=h;rw[h];rfl)|(obtain⟨v,h,_⟩:=h;rw[h];rfl)
 one {A W cs x} h:=by
  intro u hu;cases x <;> first|(have h:cs=_:=h;rw[h]at hu;rw[gG.1 hu];rfl)|(obtain⟨v,h,fj,rfl,_⟩:=h;rw[h]at hu;rw[gG.1 hu];rfl)
 flat _:=rfl
 mono {A W cg W' cs x} e h:=by cases x <;> first|exact h|(obtain⟨v,h,ad⟩:=h;exact⟨v,h,J.mono _ e ad⟩)
instance:aQ ln:=⟨[.nilFunc],λ_ _=>rfl⟩
def aeg{A W v}{a0:Ref}{bK:aJ}{a2:Int}{a3:Int}(h:(J.ju 85 [J.ptr a0,J.ptr bK,J.ptr a2,J.ptr a3]).holds A W v):(J.of (ln.x4 a0 bK a2 a3)).holds A W v:=by
 obtain⟨fj,rfl,ad⟩:=h;exact⟨rfl,_,rfl,fj,rfl,ad⟩
def aej{A W u}{a0:Ref}{bK:aJ}{a2:Int}{a3:Int}(h:(J.of (ln.x4 a0 bK a2 a3)).holds A W u):(J.ju 85 [J.ptr a0,J.ptr bK,J.ptr a2,J.ptr a3]).holds A W u:=by
 obtain⟨h1,v,ad,ay⟩:=h;have e:=mM h1 ad;subst e;exact ay
def aei{A W v}{a0:Ref}{bK:bD}(h:(J.ju 89 [J.ptr a0,J.ptr bK]).holds A W v):(J.of (ln.iZ a0 bK)).holds A W v:=by
 obtain⟨fj,rfl,ad⟩:=h;exact⟨rfl,_,rfl,fj,rfl,ad⟩
def aek{A W u}{a0:Ref}{bK:bD}(h:(J.of (ln.iZ a0 bK)).holds A W u):(J.ju 89 [J.ptr a0,J.ptr bK]).holds A W u:=by
 obtain⟨h1,v,ad,ay⟩:=h;have e:=mM h1 ad;subst e;exact ay
def aeh{A W v}{a0:Ref}{bK:aJ}(h:(J.ju 90 [J.ptr a0,J.ptr bK]).holds A W v):(J.of (ln.x5 a0 bK)).holds A W v:=by
 obtain⟨fj,rfl,ad⟩:=h;exact⟨rfl,_,rfl,fj,rfl,ad⟩
def ael{A W u}{a0:Ref}{bK:aJ}(h:(J.of (ln.x5 a0 bK)).holds A W u):(J.ju 90 [J.ptr a0,J.ptr bK]).holds A W u:=by
 obtain⟨h1,v,ad,ay⟩:=h;have e:=mM h1 ad;subst e;exact ay
structure fh where
 zW:ln
 deriving DecidableEq,Inhabited
instance:ag fh:=.str (fF ln) (λx=>x.zW) 1
abbrev Qi:aO fh ln:=.str fO 0 fh.zW λb g=>{b with zW:=g}
instance:aQ fh:=⟨aQ.cells ln,λA W=>⟨by rfl,aQ.ok (α:=ln) A W⟩⟩
structure et where
 kR:Ref
 oZ:Ref
 q0:Ref
 e7:List fh
 deriving DecidableEq,Inhabited
instance:ag et:=.str (cz Ref (cz Ref (cz Ref (fF (aa fh))))) (λx=>(x.kR,x.oZ,x.q0,x.e7)) 4
abbrev Bx:aO et Ref:=.str cI 0 et.kR λb g=>{b with kR:=g}
abbrev Qx:aO et Ref:=.str (bl cI) 1 et.oZ λb g=>{b with oZ:=g}
abbrev Qh:aO et Ref:=.str (bl (bl cI)) 2 et.q0 λb g=>{b with q0:=g}
abbrev Bs:aO et (aa fh):=.str (bl (bl (bl fO))) 3 et.e7 λb g=>{b with e7:=g}
instance:aQ et:=⟨aQ.cells Ref++aQ.cells Ref++aQ.cells Ref++aQ.cells (aa fh),λA W=>⟨by rfl,aQ.ok (α:=Ref) A W,aQ.ok (α:=Ref) A W,aQ.ok (α:=Ref) A W,aQ.ok (α:=aa fh) A W⟩⟩
instance air:cN prog 89 (default:et):=.i
instance akw:bG prog 81 Ref:=.i underlying81
instance:bT prog 89 0 Bx:=.i underlying89 I akw
instance akx:bG prog 83 Ref:=.i underlying83
instance:bT prog 89 1 Qx:=.i underlying89 I akx
instance aky:bG prog 85 Ref:=.i underlying85
instance:bT prog 89 2 Qh:=.i underlying89 I aky
instance aiq:ff prog 89 #[(0,1),(1,1),(2,1),(3,1)]:=.i underlying89
def ad5:jz prog 89 [3]:=by unfold jz;kernel_rfl
def WQ:bx prog 7:=.i func7
structure ih where
 du:Int
 bj:bD
 deriving DecidableEq,Inhabited
instance:ag ih:=.str (cz Int (fF bD)) (λx=>(x.du,x.bj)) 6
abbrev QQ:aO ih Int:=.str cI 0 ih.du λb g=>{b with du:=g}
abbrev QI:aO ih bD:=.str (bl fO) 1 ih.bj λb g=>{b with bj:=g}
instance:aQ ih:=⟨aQ.cells Int++aQ.cells bD,λA W=>⟨by rfl,aQ.ok (α:=Int) A W,aQ.ok (α:=bD) A W⟩⟩
instance Dv:cN prog 49 (default:cJ):=.i
instance ad6:bT prog 49 0 BJ:=.i underlying49 I nF
instance:bT prog 49 1 F7:=.i underlying49 I hI
instance ai2:ff prog 49 #[(0,1),(1,2),(3,2),(5,1),(6,2)]:=.i underlying49
instance sH:bG prog 49 cJ:=.i underlying49
instance:hh prog 50 49 cJ:=⟨underlying50,sH⟩
instance ai4:cN prog 52 (default:bD):=.i
instance C5:bT prog 52 0 wK:=.i underlying52 I cr
instance Ao:bG prog 50 (aa cJ):=.i underlying50
instance HB:bT prog 52 1 wF:=.i underlying52 I Ao
instance HE:bT prog 52 3 y5:=.i underlying52 I cr
instance ai3:ff prog 52 #[(0,1),(1,1),(2,1),(3,1),(4,1)]:=.i underlying52
instance NO:cN prog 56 (default:ih):=.i
instance:bT prog 56 0 QQ:=.i underlying56 I cr
instance tQ:bG prog 52 bD:=.i underlying52
instance:bT prog 56 1 QI:=.i underlying56 I tQ
instance ai5:ff prog 56 #[(0,1),(1,5)]:=.i underlying56
instance NP:bG prog 56 ih:=.i underlying56
instance:hh prog 57 56 ih:=⟨underlying57,NP⟩
instance:cN prog 58 (default:Int):=.i
instance Iu:bG prog 58 Int:=.i underlying58
instance:bG prog 43 Ref:=.i underlying43
instance:nO prog 43 (.pointer 89):=⟨underlying43⟩
instance tP:bG prog 87 (aa fh):=.i underlying87
instance ad0:bT prog 89 3 Bs:=.i underlying89 I tP
instance HR:bG prog 139 fh:=.i underlying139
instance:hh prog 87 139 fh:=⟨underlying87,HR⟩
def NM:bx prog 22:=.i func22
def aiA:bx prog 59:=.i func59
def afl:bx prog 110:=.i func110
def afm:bx prog 109:=.i func109
def afB:bx prog 107:=.i func107
def afC:bx prog 106:=.i func106
def aiB:bx prog 60:=.i func60
def aiC:bx prog 62:=.i func62
def aiD:bx prog 66:=.i func66
instance:bG prog 64 (jI prog Bool):=.i underlying64
def afn:bx prog 108:=.i func108
def akz:lr prog 4 Bool 1:=ace underlying4
def Vn:lr prog 45 (BitVec 64) 1:=ado (K:=.u64) underlying45
def vm:lr prog 47 aX 2:=G2 (k:=1) I underlying47 (by kernel_rfl) λd hd A W xs ys x y al hy=>by
 refine GO (qf GG xM I (by rfl) Vn (by omega) al hy (qf se xM I (by rfl) Vn (by omega) al hy Hi)) ?_;congr 1;rw[mI];simp only[gJ,fZ,GP];cases x;cases y;simp[aO.str,GG,se]
def DR:lr prog 3 Int 1:=Td (K:=.i64) underlying3
def ahP:lr prog 49 cJ 3:=G2 (k:=2) I underlying49 (by kernel_rfl) λd hd A W xs ys x y al hy=>by
 refine GO (qf BJ nF I (by rfl) akz (by omega) al hy (qf F7 hI I (by rfl) vm (by omega) al hy (qf Kz hI I (by rfl) vm (by omega) al hy (qf Kn cr I (by rfl) DR (by omega) al hy (qf KA hI I (by rfl) vm (by omega) al hy Hi))))) ?_;congr 1;rw[mI];simp only[gJ,fZ,GP];cases x;cases y;simp[aO.str,BJ,F7,Kz,Kn,KA]
def ahQ:prog.eqGuardType prog.depth 49=false:=by kernel_rfl
instance:Be prog 49 cJ 3:=⟨ahP,ahQ,rfl⟩
instance:bT prog 49 3 Kn:=.i underlying49 I cr
instance:bT prog 49 2 Kz:=.i underlying49 I hI
instance:bT prog 49 4 KA:=.i underlying49 I hI
instance:bT prog 47 0 GG:=.i underlying47 I xM
instance:nO prog 271 (.int .u64):=⟨underlying271⟩
def Ux:prog.eqGuardType prog.depth 47=false:=by kernel_rfl
instance:Be prog 47 aX 2:=⟨vm,Ux,rfl⟩
def af7:bx prog 137:=.i func137
def afP:bx prog 114:=.i func114
def afQ:bx prog 113:=.i func113
def Uj:bx prog 200:=.i func200
def afL:bx prog 157:=.i func157
def afK:bx prog 156:=.i func156
instance HC:bT prog 52 2 BD:=.i underlying52 I cr
def aiE:bx prog 68:=.i func68
instance ahR:bG prog 179 (jI prog Int):=.i underlying179
instance:hh prog 227 179 (jI prog Int):=⟨underlying227,ahR⟩
instance:cN prog 179 (default:jI prog Int):=.i
instance HA:bT prog 52 4 Cd:=.i underlying52 I Dw
def aiF:bx prog 70:=.i func70
def aiG:bx prog 72:=.i func72
def afF:bx prog 159:=.i func159
def afG:bx prog 158:=.i func158
def aiH:bx prog 74:=.i func74
structure hT where
 cd:ByteArray
 pF:ByteArray
 deriving DecidableEq,Inhabited
instance:ag hT:=.str (cz ByteArray (fF ByteArray)) (λx=>(x.cd,x.pF)) 2
abbrev Zw:aO hT ByteArray:=.str cI 0 hT.cd λb g=>{b with cd:=g}
abbrev Zx:aO hT ByteArray:=.str (bl fO) 1 hT.pF λb g=>{b with pF:=g}
instance:aQ hT:=⟨aQ.cells ByteArray++aQ.cells ByteArray,λA W=>⟨by rfl,aQ.ok (α:=ByteArray) A W,aQ.ok (α:=ByteArray) A W⟩⟩
instance MT:cN prog 289 (default:hT):=.i
instance:bT prog 289 0 Zw:=.i underlying289 I kB
instance:bT prog 289 1 Zx:=.i underlying289 I kB
instance:ff prog 289 #[(0,1),(1,1)]:=.i underlying289
instance Dd:bG prog 289 hT:=.i underlying289
instance:hh prog 238 289 hT:=⟨underlying238,Dd⟩
structure nY where
 kV:Int
 ami:Int
 amj:Int
 cd:ByteArray
 pF:ByteArray
 b3:aX
 deriving DecidableEq,Inhabited
instance:ag nY:=.str (cz Int (cz Int (cz Int (cz ByteArray (cz ByteArray (fF aX)))))) (λx=>(x.kV,x.ami,x.amj,x.cd,x.pF,x.b3)) 7
abbrev QW:aO nY Int:=.str cI 0 nY.kV λb g=>{b with kV:=g}
abbrev QD:aO nY aX:=.str (bl (bl (bl (bl (bl fO))))) 5 nY.b3 λb g=>{b with b3:=g}
instance:aQ nY:=⟨aQ.cells Int++aQ.cells Int++aQ.cells Int++aQ.cells ByteArray++aQ.cells ByteArray++aQ.cells aX,λA W=>⟨by rfl,aQ.ok (α:=Int) A W,aQ.ok (α:=Int) A W,aQ.ok (α:=Int) A W,aQ.ok (α:=ByteArray) A W,aQ.ok (α:=ByteArray) A W,aQ.ok (α:=aX) A W⟩⟩
def afT:bx prog 161:=.i func161
instance agb:cN prog 281 (default:nY):=.i
instance ac0:bT prog 281 0 QW:=.i underlying281 I cr
instance ac1:bT prog 281 5 QD:=.i underlying281 I hI
instance:ff prog 281 #[(0,1),(1,1),(2,1),(3,1),(4,1),(5,2)]:=.i underlying281
instance H7:bG prog 281 nY:=.i underlying281
instance:hh prog 235 281 nY:=⟨underlying235,H7⟩
structure gU where
 cd:ByteArray
 pF:ByteArray
 b3:aX
 deriving DecidableEq,Inhabited
instance:ag gU:=.str (cz ByteArray (cz ByteArray (fF aX))) (λx=>(x.cd,x.pF,x.b3)) 4
abbrev YF:aO gU ByteArray:=.str cI 0 gU.cd λb g=>{b with cd:=g}
abbrev YG:aO gU ByteArray:=.str (bl cI) 1 gU.pF λb g=>{b with pF:=g}
abbrev Yq:aO gU aX:=.str (bl (bl fO)) 2 gU.b3 λb g=>{b with b3:=g}
instance:aQ gU:=⟨aQ.cells ByteArray++aQ.cells ByteArray++aQ.cells aX,λA W=>⟨by rfl,aQ.ok (α:=ByteArray) A W,aQ.ok (α:=ByteArray) A W,aQ.ok (α:=aX) A W⟩⟩
instance MV:cN prog 304 (default:gU):=.i
instance:bT prog 304 0 YF:=.i underlying304 I kB
instance:bT prog 304 1 YG:=.i underlying304 I kB
instance:bT prog 304 2 Yq:=.i underlying304 I hI
instance:ff prog 304 #[(0,1),(1,1),(2,2)]:=.i underlying304
instance H0:bG prog 304 gU:=.i underlying304
instance:hh prog 241 304 gU:=⟨underlying241,H0⟩
def agc:bx prog 122:=.i func122
def Uy:bx prog 121:=.i func121
def agd:bx prog 124:=.i func124
def aiI:bx prog 76:=.i func76
instance:nO prog 81 (.pointer 129):=⟨underlying81⟩
instance Ug:cN prog 130 (default:Ref):=.i
def Dz:bx prog 93:=.i func93
instance:nO prog 130 (.pointer 163):=⟨underlying130⟩
instance o1:cN prog 186 (default:aJ):=.i
instance agC:ff prog 186 #[(0,5),(5,1),(6,1)]:=.i underlying186
instance fD:bG prog 186 aJ:=.i underlying186
instance:cN prog 436 (default:Vector aX 4):=.i
instance:qM prog 436 4 2:=qM.of underlying436 hI I
instance:bG prog 436 (Vector aX 4):=.i underlying436
instance:nO prog 164 (.pointer 220):=⟨underlying164⟩
instance:je aX where
 uniq {A W cs cg W' dY x} h cC:=by
  refine Tj h.1 cC.1 ?_;refine CU 0 (ag.size (BitVec 64)) (je.uniq h.2.1 cC.2.1) ?_;refine CU 1 (ag.size (BitVec 64)) (je.uniq h.2.2 cC.2.2) ?_;exact Tk h.1 cC.1 (by decide)
 plain {A W cs x} h:=by
  intro u hu n;have bw:=xl (o:=0) (s:=ag.size (BitVec 64)) (by simpa using hu);rcases bw with h1|bw
  ·exact je.plain h.2.1 u h1 n
  have bw:=xl (s:=ag.size (BitVec 64)) bw;rcases bw with h1|bw
  ·exact je.plain h.2.2 u h1 n
  exact L6 h.1 (by rfl) bw
def ae3:lr prog 440 (Vector aX 4) 3:=Te underlying440 hI vm
def Wr:qO prog 45 (BitVec 64) 1:=LA underlying45 I
def N7:qO prog 47 aX 2:=R4 (k:=1) I underlying47 (.cons GG I xM (λb d A W u x h al=>Wr b d A W u x (by omega) al) (.cons se I xM (λb d A W u x h al=>Wr b d A W u x (by omega) al) (.nil)))
def ahS:qO prog 440 (Vector aX 4) 3:=TM underlying440 hI N7
def HW:oN prog 440 (Vector aX 4):=ME underlying440 I ahS ae3 I I
def Uq:bx prog 326:=.i func326
instance:bG prog 170 k7:=.i underlying170
instance:cN prog 441 (default:Vector aX 4):=.i
instance HY:bG prog 441 (Vector aX 4):=.i underlying441
instance UH:cN prog 450 (default:Ref):=.i
instance:nO prog 442 (.pointer 456):=⟨underlying442⟩
structure ga where
 gr:Int
 ek:Ref
 deriving DecidableEq,Inhabited
instance:ag ga:=.str (cz Int (fF Ref)) (λx=>(x.gr,x.ek)) 2
abbrev Cc:aO ga Int:=.str cI 0 ga.gr λb g=>{b with gr:=g}
abbrev Gf:aO ga Ref:=.str (bl fO) 1 ga.ek λb g=>{b with ek:=g}
instance:aQ ga:=⟨aQ.cells Int++aQ.cells Ref,λA W=>⟨by rfl,aQ.ok (α:=Int) A W,aQ.ok (α:=Ref) A W⟩⟩
instance LZ:bT prog 456 0 Cc:=.i underlying456 I cr
def Uz:bx prog 342:=.i func342
instance iK:bG prog 450 Ref:=.i underlying450
instance ac4:bT prog 456 1 Gf:=.i underlying456 I iK
def M0:bx prog 343:=.i func343
def ad3:Pa prog 47 1 45 1:=⟨_,_,underlying47,rfl,rfl,rfl⟩
instance Uo:bG prog 442 Ref:=.i underlying442
instance:nO prog 450 (.pointer 454):=⟨underlying450⟩
instance T9:bG prog 452 (Vector Ref 2):=.i underlying452
structure dT where
 cX:Vector Ref 2
 fx:Bool
 jr:Int
 deriving DecidableEq,Inhabited
instance:ag dT:=.str (cz (Vector Ref 2) (cz Bool (fF Int))) (λx=>(x.cX,x.fx,x.jr)) 4
abbrev yZ:aO dT (Vector Ref 2):=.str cI 0 dT.cX λb g=>{b with cX:=g}
abbrev B9:aO dT Bool:=.str (bl cI) 2 dT.fx λb g=>{b with fx:=g}
abbrev Gz:aO dT Int:=.str (bl (bl fO)) 3 dT.jr λb g=>{b with jr:=g}
instance:aQ dT:=⟨aQ.cells (Vector Ref 2)++aQ.cells Bool++aQ.cells Int,λA W=>⟨by rfl,aQ.ok (α:=Vector Ref 2) A W,aQ.ok (α:=Bool) A W,aQ.ok (α:=Int) A W⟩⟩
instance Hf:bT prog 454 0 yZ:=.i underlying454 I T9
instance MY:qM prog 452 2 1:=qM.of underlying452 iK I
def M1:bx prog 346:=.i func346
def UB:bx prog 341:=.i func341
instance acP:bT prog 454 1 B9:=.i underlying454 I nF
instance acQ:bT prog 454 2 Gz:=.i underlying454 I cr
def ae4:lr prog 441 (Vector aX 4) 3:=Te underlying441 hI vm
def ahT:qO prog 441 (Vector aX 4) 3:=TM underlying441 hI N7
def xx:oN prog 441 (Vector aX 4):=ME underlying441 I ahT ae4 I I
instance Dg:cN prog 442 (default:Ref):=.i
def UE:bx prog 335:=.i func335
instance vt:bG prog 61 (aa aJ):=.i underlying61
instance:bT prog 224 1 zb:=.i underlying224 I vt
instance:hh prog 61 186 aJ:=⟨underlying61,fD⟩
instance ac6:bT prog 186 0 J6:=.i underlying186 I tQ
def age:bx prog 362:=.i func362
def agh:bx prog 358:=.i func358
instance Tb:bT prog 186 1 FD:=.i underlying186 I cr
def ahU:bx prog 322:=.i func322
def abr:jK prog 167 "matchguard/index.find" 322:=jK.sS (by kernel_rfl) underlying167 I ahU
def ahV:bx prog 330:=.i func330
def abt:jK prog 170 "matchguard/index.find" 330:=jK.sS (by kernel_rfl) underlying170 I ahV
def ahW:bx prog 354:=.i func354
def abu:jK prog 174 "matchguard/index.find" 354:=jK.sS (by kernel_rfl) underlying174 I ahW
def agy:bx prog 173:=.i func173
def M4:bx prog 125:=.i func125
def agz:bx prog 126:=.i func126
def agA:bx prog 127:=.i func127
instance ac8:bT prog 186 2 J7:=.i underlying186 I cr
def afJ:bx prog 328:=.i func328
instance afI:cN prog 456 (default:ga):=.i
instance afH:ff prog 456 #[(0,1),(1,1)]:=.i underlying456
def agl:bx prog 336:=.i func336
instance UD:cN prog 454 (default:dT):=.i
instance UC:ff prog 454 #[(0,2),(2,1),(3,1)]:=.i underlying454
def agk:bx prog 337:=.i func337
def Um:bx prog 370:=.i func370
def Un:bx prog 369:=.i func369
def Ur:bx prog 364:=.i func364
def afX:bx prog 376:=.i func376
def agr:bx prog 365:=.i func365
def ags:bx prog 366:=.i func366
def agt:bx prog 367:=.i func367
def agv:bx prog 360:=.i func360
def ahX:bx prog 324:=.i func324
def abv:jK prog 167 "matchguard/index.put" 324:=jK.sS (by kernel_rfl) underlying167 I ahX
def ahY:bx prog 332:=.i func332
def abw:jK prog 170 "matchguard/index.put" 332:=jK.sS (by kernel_rfl) underlying170 I ahY
def ahZ:bx prog 356:=.i func356
def abx:jK prog 174 "matchguard/index.put" 356:=jK.sS (by kernel_rfl) underlying174 I ahZ
def M5:bx prog 128:=.i func128
def VR:bx prog 78:=.i func78
def VO:bx prog 79:=.i func79
instance:nO prog 85 (.pointer 137):=⟨underlying85⟩
def Ua:bx prog 129:=.i func129
instance ah0:bG prog 135 (Vector Int 6):=.i underlying135
instance zQ:bT prog 137 1 wv:=.i underlying137 I ah0
instance Ac:qM prog 135 6 1:=qM.of underlying135 cr I
def VP:bx prog 80:=.i func80
def afU:bx prog 329:=.i func329
instance:hh prog 460 450 Ref:=⟨underlying460,iK⟩
instance agu:cN prog 460 (default:aa Ref):=.i
instance aiM:cN prog 39 (default:aa Int):=.i
instance vn:bG prog 460 (aa Ref):=.i underlying460
def ac5:jz prog 460 [0]:=by unfold jz;kernel_rfl
def aef:jz prog 39 [0]:=by unfold jz;kernel_rfl
instance afo:cN prog 452 (default:Vector Ref 2):=.i
def adZ:prog.eqGuardType prog.depth 452=false:=by kernel_rfl
def UI:bx prog 344:=.i func344
def agw:bx prog 338:=.i func338
structure eu where
 b3:aX
 xd:Int
 b2:Int
 deriving DecidableEq,Inhabited
instance:ag eu:=.str (cz aX (cz Int (fF Int))) (λx=>(x.b3,x.xd,x.b2)) 4
abbrev Ys:aO eu aX:=.str cI 0 eu.b3 λb g=>{b with b3:=g}
abbrev Ym:aO eu Int:=.str (bl cI) 2 eu.xd λb g=>{b with xd:=g}
abbrev Ze:aO eu Int:=.str (bl (bl fO)) 3 eu.b2 λb g=>{b with b2:=g}
instance:aQ eu:=⟨aQ.cells aX++aQ.cells Int++aQ.cells Int,λA W=>⟨by rfl,aQ.ok (α:=aX) A W,aQ.ok (α:=Int) A W,aQ.ok (α:=Int) A W⟩⟩
instance afY:cN prog 461 (default:aa eu):=.i
instance MM:bG prog 461 (aa eu):=.i underlying461
instance MN:cN prog 465 (default:eu):=.i
instance afq:ff prog 465 #[(0,2),(2,1),(3,1)]:=.i underlying465
instance MO:bG prog 465 eu:=.i underlying465
instance:hh prog 461 465 eu:=⟨underlying461,MO⟩
def afS:bx prog 349:=.i func349
def MZ:bx prog 350:=.i func350
def acZ:jz prog 461 [0]:=by unfold jz;kernel_rfl
def afZ:bx prog 348:=.i func348
def agf:bx prog 345:=.i func345
def agx:bx prog 339:=.i func339
def afV:bx prog 368:=.i func368
def af0:bx prog 361:=.i func361
def ah1:bx prog 325:=.i func325
def aby:jK prog 167 "matchguard/index.remove" 325:=jK.sS (by kernel_rfl) underlying167 I ah1
def ah2:bx prog 333:=.i func333
def abz:jK prog 170 "matchguard/index.remove" 333:=jK.sS (by kernel_rfl) underlying170 I ah2
def ah3:bx prog 357:=.i func357
def abA:jK prog 174 "matchguard/index.remove" 357:=jK.sS (by kernel_rfl) underlying174 I ah3
def agB:bx prog 130:=.i func130
def DB:bx prog 81:=.i func81
def VQ:bx prog 82:=.i func82
instance:nO prog 83 (.pointer 134):=⟨underlying83⟩
instance:bT prog 37 5 ZY:=.i underlying37 I cr
instance H4:cN prog 200 (default:b8):=.i
instance:bT prog 200 0 FX:=.i underlying200 I cr
instance:bT prog 200 1 Ga:=.i underlying200 I cr
instance:bT prog 200 2 FY:=.i underlying200 I hI
instance:ff prog 200 #[(0,1),(1,1),(2,2)]:=.i underlying200
instance Ag:bG prog 200 b8:=.i underlying200
instance:hh prog 93 200 b8:=⟨underlying93,Ag⟩
instance:bT prog 37 3 ZX:=.i underlying37 I cr
instance:je b8 where
 uniq {A W cs cg W' dY x} h cC:=by
  refine Tj h.1 cC.1 ?_;refine CU 0 (ag.size Int) (je.uniq h.2.1 cC.2.1) ?_;refine CU 1 (ag.size Int) (je.uniq h.2.2.1 cC.2.2.1) ?_;refine CU 2 (ag.size aX) (je.uniq h.2.2.2 cC.2.2.2) ?_;exact Tk h.1 cC.1 (by decide)
 plain {A W cs x} h:=by
  intro u hu n;have bw:=xl (o:=0) (s:=ag.size Int) (by simpa using hu);rcases bw with h1|bw
  ·exact je.plain h.2.1 u h1 n
  have bw:=xl (s:=ag.size Int) bw;rcases bw with h1|bw
  ·exact je.plain h.2.2.1 u h1 n
  have bw:=xl (s:=ag.size aX) bw;rcases bw with h1|bw
  ·exact je.plain h.2.2.2 u h1 n
  exact L6 h.1 (by rfl) bw
def T7:lr prog 200 b8 3:=G2 (k:=2) I underlying200 (by kernel_rfl) λd hd A W xs ys x y al hy=>by
 refine GO (qf FX cr I (by rfl) DR (by omega) al hy (qf Ga cr I (by rfl) DR (by omega) al hy (qf FY hI I (by rfl) vm (by omega) al hy Hi))) ?_;congr 1;rw[mI];simp only[gJ,fZ,GP];cases x;cases y;simp[aO.str,FX,Ga,FY]
def Xw:qO prog 3 Int 1:=LA underlying3 I
def ah4:qO prog 200 b8 3:=R4 (k:=2) I underlying200 (.cons FX I cr (λb d A W u x h al=>Xw b d A W u x (by omega) al) (.cons Ga I cr (λb d A W u x h al=>Xw b d A W u x (by omega) al) (.cons FY I hI (λb d A W u x h al=>N7 b d A W u x (by omega) al) (.nil))))
def MX:oN prog 200 b8:=ME underlying200 I ah4 T7 I I
instance afR:cN prog 247 (default:ji):=.i
instance:bG prog 247 ji:=.i underlying247
instance S8:bT prog 247 0 BK:=.i underlying247 I cr
instance S9:bT prog 247 1 By:=.i underlying247 I cr
instance:ff prog 247 #[(0,1),(1,1)]:=.i underlying247
def ae5:lr prog 247 ji 2:=G2 (k:=1) I underlying247 (by kernel_rfl) λd hd A W xs ys x y al hy=>by
 refine GO (qf BK cr I (by rfl) DR (by omega) al hy (qf By cr I (by rfl) DR (by omega) al hy Hi)) ?_;congr 1;rw[mI];simp only[gJ,fZ,GP];cases x;cases y;simp[aO.str,BK,By]
def ae6:prog.eqGuardType prog.depth 247=false:=by kernel_rfl
instance:Be prog 247 ji 2:=⟨ae5,ae6,rfl⟩
def Ut:bx prog 175:=.i func175
def ae7:prog.eqGuardType prog.depth 200=false:=by kernel_rfl
instance:Be prog 200 b8 3:=⟨T7,ae7,rfl⟩
def afW:bx prog 217:=.i func217
def UA:bx prog 131:=.i func131
def NJ:bx prog 83:=.i func83
instance afr:cN prog 139 (default:fh):=.i
instance WM:bG prog 1 ln:=.i underlying1
instance ac9:bT prog 139 0 Qi:=.i underlying139 I WM
instance:ff prog 139 #[(0,1)]:=.i underlying139
def NK:bx prog 84:=.i func84
def aiR:bx prog 41:=.i func41
def UL:bx prog 132:=.i func132
def NL:bx prog 86:=.i func86
def VT:bx prog 88:=.i func88
def aiS:bx prog 42:=.i func42
def VS:bx prog 87:=.i func87
def aiT:bx prog 43:=.i func43
def aiZ:bx prog 26:=.i func26
structure hj where
 gq:b8
 u1:Int
 uZ:Int
 deriving DecidableEq,Inhabited
instance:ag hj:=.str (cz b8 (cz Int (fF Int))) (λx=>(x.gq,x.u1,x.uZ)) 6
abbrev YH:aO hj b8:=.str cI 0 hj.gq λb g=>{b with gq:=g}
abbrev YI:aO hj Int:=.str (bl cI) 4 hj.u1 λb g=>{b with u1:=g}
abbrev Yl:aO hj Int:=.str (bl (bl fO)) 5 hj.uZ λb g=>{b with uZ:=g}
instance:aQ hj:=⟨aQ.cells b8++aQ.cells Int++aQ.cells Int,λA W=>⟨by rfl,aQ.ok (α:=b8) A W,aQ.ok (α:=Int) A W,aQ.ok (α:=Int) A W⟩⟩
instance af1:cN prog 202 (default:hj):=.i
instance:bT prog 202 0 YH:=.i underlying202 I Ag
instance:bT prog 202 1 YI:=.i underlying202 I cr
instance:bT prog 202 2 Yl:=.i underlying202 I cr
instance:ff prog 202 #[(0,4),(4,1),(5,1)]:=.i underlying202
instance Uv:bG prog 202 hj:=.i underlying202
instance:hh prog 197 202 hj:=⟨underlying197,Uv⟩
def af2:bx prog 133:=.i func133
def af3:bx prog 134:=.i func134
def aix:bx prog 92:=.i func92
def aiz:bx prog 44:=.i func44
def ai0:bx prog 27:=.i func27
def aiQ:bx prog 91:=.i func91
def aiU:bx prog 85:=.i func85
def aiV:bx prog 89:=.i func89
def aiW:bx prog 90:=.i func90
def aiX:bx prog 24:=.i func24
def aiY:bx prog 25:=.i func25
def NN:bx prog 23:=.i func23
def WR:bx prog 8:=.i func8
def Vt:bx prog 28:=.i func28
def af5:bx prog 184:=.i func184
def af4:bx prog 183:=.i func183
def af6:bx prog 185:=.i func185
def agi:bx prog 139:=.i func139
def agj:bx prog 140:=.i func140
def aiN:bx prog 94:=.i func94
def aiO:bx prog 45:=.i func45
def aiP:bx prog 29:=.i func29
def Od:bx prog 9:=.i func9
def ah6:bx prog 53:=.i func53
def ai1:bx prog 37:=.i func37
def VU:bx prog 11:=.i func11
inductive Cell where
 |iZ (x:et) (key:Option Nat) (cap:Nat)
 |qu (x:List (Int×Ref))
 |o4 (x:jQ)
 |qp (x:List (b8×ji))
 |xF (x:oS)
 |qq (x:hS)
 |kz (x:List (Int×aJ))
 |oc (x:iG)
 |ml (x:List ((Vector aX 4)×Ref))
 |o2 (x:List ((Vector aX 4)×Int))
 |Al (x:qb)
 |sF (x:dH) (key:Option Nat) (cap:Nat)
 |fT (x:dT)
 |jX (x:ga)
instance:di Cell where
 fo p k:=match k with
  | .iZ x key cap=>[⟨some p,.ck ({x with e7:=[]}:et) [(3,aZ key x.e7.length cap)]⟩,⟨key,.row 139 (x.e7:aa fh) cap⟩]
  | .qu x=>[⟨some p,.map x⟩]
  | .o4 x=>[⟨some p,.var x⟩]
  | .qp x=>[⟨some p,.map x⟩]
  | .xF x=>[⟨some p,.var x⟩]
  | .qq x=>[⟨some p,.var x⟩]
  | .kz x=>[⟨some p,.map x⟩]
  | .oc x=>[⟨some p,.var x⟩]
  | .ml x=>[⟨some p,.map x⟩]
  | .o2 x=>[⟨some p,.map x⟩]
  | .Al x=>[⟨some p,.var x⟩]
  | .sF x key cap=>[⟨some p,.ck ({x with cK:=[]}:dH) [(10,aZ key x.cK.length cap)]⟩,⟨key,.row 186 (x.cK:aa aJ) cap⟩]
  | .fT x=>[⟨some p,.var x⟩]
  | .jX x=>[⟨some p,.var x⟩]
 root p k:=by cases k <;> exact⟨_,j8 ..,rfl⟩
def gh(hp:aE Cell)(p:Nat):av (et×av Nat×Nat):=match pat hp p with
 |some (.iZ x key cap)=>some (x,key,cap)
 |_=>none
def n9{hp:aE Cell}{p:Nat}{x:et×av Nat×Nat}(h:gh hp p=some x):pat hp p=some (.iZ x.1 x.2.1 x.2.2):=by
 unfold gh at h;split at h
 ·rename_i ad;cases h;exact ad
 cases h
instance:XO et gh (λx=>{x.1 with e7:=[]}) (λx=>[(3,aZ x.2.1 x.1.e7.length x.2.2)]):=⟨λh=>⟨_,_,n9 h,rfl⟩⟩
def kT(hp:aE Cell)(p:Nat):av (aa (Int×Ref)):=match pat hp p with
 |some (.qu x)=>some x
 |_=>none
def u9{hp:aE Cell}{p:Nat}{x:aa (Int×Ref)}(h:kT hp p=some x):pat hp p=some (.qu x):=by
 unfold kT at h;split at h
 ·rename_i ad;cases h;exact ad
 cases h
def hW(hp:aE Cell)(p:Nat):av jQ:=match pat hp p with
 |some (.o4 x)=>some x
 |_=>none
def tF{hp:aE Cell}{p:Nat}{x:jQ}(h:hW hp p=some x):pat hp p=some (.o4 x):=by
 unfold hW at h;split at h
 ·rename_i ad;cases h;exact ad
 cases h
instance:wc jQ hW:=⟨λh=>⟨_,tF h,rfl⟩⟩
def ob(hp:aE Cell)(p:Nat):av (aa (b8×ji)):=match pat hp p with
 |some (.qp x)=>some x
 |_=>none
def sr{hp:aE Cell}{p:Nat}{x:aa (b8×ji)}(h:ob hp p=some x):pat hp p=some (.qp x):=by
 unfold ob at h;split at h
 ·rename_i ad;cases h;exact ad
 cases h
def oa(hp:aE Cell)(p:Nat):av oS:=match pat hp p with
 |some (.xF x)=>some x
 |_=>none
def MJ{hp:aE Cell}{p:Nat}{x:oS}(h:oa hp p=some x):pat hp p=some (.xF x):=by
 unfold oa at h;split at h
 ·rename_i ad;cases h;exact ad
 cases h
instance:wc oS oa:=⟨λh=>⟨_,MJ h,rfl⟩⟩
def mQ(hp:aE Cell)(p:Nat):av hS:=match pat hp p with
 |some (.qq x)=>some x
 |_=>none
def sm{hp:aE Cell}{p:Nat}{x:hS}(h:mQ hp p=some x):pat hp p=some (.qq x):=by
 unfold mQ at h;split at h
 ·rename_i ad;cases h;exact ad
 cases h
instance:wc hS mQ:=⟨λh=>⟨_,sm h,rfl⟩⟩
def kU(hp:aE Cell)(p:Nat):av (aa (Int×aJ)):=match pat hp p with
 |some (.kz x)=>some x
 |_=>none
def q3{hp:aE Cell}{p:Nat}{x:aa (Int×aJ)}(h:kU hp p=some x):pat hp p=some (.kz x):=by
 unfold kU at h;split at h
 ·rename_i ad;cases h;exact ad
 cases h
def hG(hp:aE Cell)(p:Nat):av iG:=match pat hp p with
 |some (.oc x)=>some x
 |_=>none
def xn{hp:aE Cell}{p:Nat}{x:iG}(h:hG hp p=some x):pat hp p=some (.oc x):=by
 unfold hG at h;split at h
 ·rename_i ad;cases h;exact ad
 cases h
instance:wc iG hG:=⟨λh=>⟨_,xn h,rfl⟩⟩
def ka(hp:aE Cell)(p:Nat):av (aa ((Vector aX 4)×Ref)):=match pat hp p with
 |some (.ml x)=>some x
 |_=>none
def nx{hp:aE Cell}{p:Nat}{x:aa ((Vector aX 4)×Ref)}(h:ka hp p=some x):pat hp p=some (.ml x):=by
 unfold ka at h;split at h
 ·rename_i ad;cases h;exact ad
 cases h
def lK(hp:aE Cell)(p:Nat):av (aa ((Vector aX 4)×Int)):=match pat hp p with
 |some (.o2 x)=>some x
 |_=>none
def so{hp:aE Cell}{p:Nat}{x:aa ((Vector aX 4)×Int)}(h:lK hp p=some x):pat hp p=some (.o2 x):=by
 unfold lK at h;split at h
 ·rename_i ad;cases h;exact ad
 cases h
def mi(hp:aE Cell)(p:Nat):av qb:=match pat hp p with
 |some (.Al x)=>some x
 |_=>none
def Da{hp:aE Cell}{p:Nat}{x:qb}(h:mi hp p=some x):pat hp p=some (.Al x):=by
 unfold mi at h;split at h
 ·rename_i ad;cases h;exact ad
 cases h
instance:wc qb mi:=⟨λh=>⟨_,Da h,rfl⟩⟩
def pJ(hp:aE Cell)(p:Nat):av (dH×av Nat×Nat):=match pat hp p with
 |some (.sF x key cap)=>some (x,key,cap)
 |_=>none
def xp{hp:aE Cell}{p:Nat}{x:dH×av Nat×Nat}(h:pJ hp p=some x):pat hp p=some (.sF x.1 x.2.1 x.2.2):=by
 unfold pJ at h;split at h
 ·rename_i ad;cases h;exact ad
 cases h
def cv(hp:aE Cell)(p:Nat):av dT:=match pat hp p with
 |some (.fT x)=>some x
 |_=>none
def pE{hp:aE Cell}{p:Nat}{x:dT}(h:cv hp p=some x):pat hp p=some (.fT x):=by
 unfold cv at h;split at h
 ·rename_i ad;cases h;exact ad
 cases h
instance:wc dT cv:=⟨λh=>⟨_,pE h,rfl⟩⟩
def fl(hp:aE Cell)(p:Nat):av ga:=match pat hp p with
 |some (.jX x)=>some x
 |_=>none
def va{hp:aE Cell}{p:Nat}{x:ga}(h:fl hp p=some x):pat hp p=some (.jX x):=by
 unfold fl at h;split at h
 ·rename_i ad;cases h;exact ad
 cases h
instance:wc ga fl:=⟨λh=>⟨_,va h,rfl⟩⟩
end Go.Proofs.YtdadopcnkghbaaaGreat
