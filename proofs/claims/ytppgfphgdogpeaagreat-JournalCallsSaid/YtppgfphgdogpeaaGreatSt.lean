/-
  The types of the data, and facts on their tables. Conditions: none.
-/
import Derived.Test.YtppgfphgdogpeaaGreatRows
import Derived.Test.YtppgfphgdogpeaaGreatSl1
import Derived.Test.YtppgfphgdogpeaaGreatSl2
set_option linter.defProp false
set_option linter.unusedVariables false
set_option linter.unusedSimpArgs false
set_option maxRecDepth 100000
namespace Go.Proofs.YtppgfphgdogpeaaGreat
open Go Gv Go.Proofs.Tryz
structure dM where
 cz:List (BitVec 8)
 w2:Int
 deriving DecidableEq,Inhabited
instance:ak dM:=.str (dg (aa (BitVec 8)) (hC Int)) (λx=>(x.cz,x.w2)) 2
abbrev afG:aP dM (aa (BitVec 8)):=.str dk 0 dM.cz λb g=>{b with cz:=g}
abbrev afq:aP dM Int:=.str (bB hQ) 1 dM.w2 λb g=>{b with w2:=g}
instance:a7 dM:=⟨a7.cells (aa (BitVec 8))++a7.cells Int,λA W=>⟨by rfl,a7.ok (α:=aa (BitVec 8)) A W,a7.ok (α:=Int) A W⟩⟩
instance acm:bU prog 5 (BitVec 8):=.i underlying5
instance:jQ prog 22 5 (BitVec 8):=⟨underlying22,acm⟩
instance:dH prog 69 (default:dM):=.i
instance arB:bU prog 22 (aa (BitVec 8)):=.i underlying22
instance:cC prog 69 0 afG:=.i underlying69 I arB
instance:gF prog 69 #[(0,1),(1,1)]:=.i underlying69
def Tl:bH prog 7:=.i func7
structure jl where
 b6:Int
 du:ByteArray
 jH:Int
 deriving DecidableEq,Inhabited
instance:ak jl:=.str (dg Int (dg ByteArray (hC Int))) (λx=>(x.b6,x.du,x.jH)) 3
abbrev afV:aP jl Int:=.str dk 0 jl.b6 λb g=>{b with b6:=g}
abbrev afr:aP jl ByteArray:=.str (bB dk) 1 jl.du λb g=>{b with du:=g}
abbrev afs:aP jl Int:=.str (bB (bB hQ)) 2 jl.jH λb g=>{b with jH:=g}
instance:a7 jl:=⟨a7.cells Int++a7.cells ByteArray++a7.cells Int,λA W=>⟨by rfl,a7.ok (α:=Int) A W,a7.ok (α:=ByteArray) A W,a7.ok (α:=Int) A W⟩⟩
structure mL where
 b6:Int
 du:ByteArray
 gZ:List Int
 deriving DecidableEq,Inhabited
instance:ak mL:=.str (dg Int (dg ByteArray (hC (aa Int)))) (λx=>(x.b6,x.du,x.gZ)) 3
abbrev afH:aP mL Int:=.str dk 0 mL.b6 λb g=>{b with b6:=g}
abbrev ae4:aP mL ByteArray:=.str (bB dk) 1 mL.du λb g=>{b with du:=g}
abbrev aew:aP mL (aa Int):=.str (bB (bB hQ)) 2 mL.gZ λb g=>{b with gZ:=g}
instance:a7 mL:=⟨a7.cells Int++a7.cells ByteArray++a7.cells (aa Int),λA W=>⟨by rfl,a7.ok (α:=Int) A W,a7.ok (α:=ByteArray) A W,a7.ok (α:=aa Int) A W⟩⟩
structure aN where
 dX:BitVec 64
 cI:BitVec 64
 deriving DecidableEq,Inhabited
instance:ak aN:=.str (dg (BitVec 64) (hC (BitVec 64))) (λx=>(x.dX,x.cI)) 2
abbrev vf:aP aN (BitVec 64):=.str dk 0 aN.dX λb g=>{b with dX:=g}
abbrev ll:aP aN (BitVec 64):=.str (bB hQ) 1 aN.cI λb g=>{b with cI:=g}
instance:a7 aN:=⟨a7.cells (BitVec 64)++a7.cells (BitVec 64),λA W=>⟨by rfl,a7.ok (α:=BitVec 64) A W,a7.ok (α:=BitVec 64) A W⟩⟩
structure jE where
 cc:aN
 hx:aN
 wL:Int
 deriving DecidableEq,Inhabited
instance:ak jE:=.str (dg aN (dg aN (hC Int))) (λx=>(x.cc,x.hx,x.wL)) 5
abbrev Pc:aP jE aN:=.str dk 0 jE.cc λb g=>{b with cc:=g}
abbrev Pj:aP jE aN:=.str (bB dk) 2 jE.hx λb g=>{b with hx:=g}
abbrev Pk:aP jE Int:=.str (bB (bB hQ)) 4 jE.wL λb g=>{b with wL:=g}
instance:a7 jE:=⟨a7.cells aN++a7.cells aN++a7.cells Int,λA W=>⟨by rfl,a7.ok (α:=aN) A W,a7.ok (α:=aN) A W,a7.ok (α:=Int) A W⟩⟩
structure ft where
 b6:Int
 k3:Int
 s5:Int
 ue:List jE
 jT:Int
 deriving DecidableEq,Inhabited
instance:ak ft:=.str (dg Int (dg Int (dg Int (dg (aa jE) (hC Int))))) (λx=>(x.b6,x.k3,x.s5,x.ue,x.jT)) 5
abbrev V1:aP ft Int:=.str dk 0 ft.b6 λb g=>{b with b6:=g}
abbrev VF:aP ft Int:=.str (bB dk) 1 ft.k3 λb g=>{b with k3:=g}
abbrev VG:aP ft Int:=.str (bB (bB dk)) 2 ft.s5 λb g=>{b with s5:=g}
abbrev KV:aP ft (aa jE):=.str (bB (bB (bB dk))) 3 ft.ue λb g=>{b with ue:=g}
abbrev Vz:aP ft Int:=.str (bB (bB (bB (bB hQ)))) 4 ft.jT λb g=>{b with jT:=g}
instance:a7 ft:=⟨a7.cells Int++a7.cells Int++a7.cells Int++a7.cells (aa jE)++a7.cells Int,λA W=>⟨by rfl,a7.ok (α:=Int) A W,a7.ok (α:=Int) A W,a7.ok (α:=Int) A W,a7.ok (α:=aa jE) A W,a7.ok (α:=Int) A W⟩⟩
structure nj where
 du:ByteArray
 jH:Int
 deriving DecidableEq,Inhabited
instance:ak nj:=.str (dg ByteArray (hC Int)) (λx=>(x.du,x.jH)) 2
abbrev aft:aP nj ByteArray:=.str dk 0 nj.du λb g=>{b with du:=g}
abbrev VX:aP nj Int:=.str (bB hQ) 1 nj.jH λb g=>{b with jH:=g}
instance:a7 nj:=⟨a7.cells ByteArray++a7.cells Int,λA W=>⟨by rfl,a7.ok (α:=ByteArray) A W,a7.ok (α:=Int) A W⟩⟩
structure kf where
 dQ:Int
 ik:Int
 cc:aN
 deriving DecidableEq,Inhabited
instance:ak kf:=.str (dg Int (dg Int (hC aN))) (λx=>(x.dQ,x.ik,x.cc)) 4
abbrev aeM:aP kf Int:=.str dk 0 kf.dQ λb g=>{b with dQ:=g}
abbrev afI:aP kf Int:=.str (bB dk) 1 kf.ik λb g=>{b with ik:=g}
abbrev aex:aP kf aN:=.str (bB (bB hQ)) 2 kf.cc λb g=>{b with cc:=g}
instance:a7 kf:=⟨a7.cells Int++a7.cells Int++a7.cells aN,λA W=>⟨by rfl,a7.ok (α:=Int) A W,a7.ok (α:=Int) A W,a7.ok (α:=aN) A W⟩⟩
structure j1 where
 ts:Int
 vz:Int
 wX:kf
 deriving DecidableEq,Inhabited
instance:ak j1:=.str (dg Int (dg Int (hC kf))) (λx=>(x.ts,x.vz,x.wX)) 6
abbrev af0:aP j1 Int:=.str dk 0 j1.ts λb g=>{b with ts:=g}
abbrev afW:aP j1 Int:=.str (bB dk) 1 j1.vz λb g=>{b with vz:=g}
abbrev afX:aP j1 kf:=.str (bB (bB hQ)) 2 j1.wX λb g=>{b with wX:=g}
instance:a7 j1:=⟨a7.cells Int++a7.cells Int++a7.cells kf,λA W=>⟨by rfl,a7.ok (α:=Int) A W,a7.ok (α:=Int) A W,a7.ok (α:=kf) A W⟩⟩
structure fV where
 b6:Int
 du:ByteArray
 mN:List nj
 yl:List j1
 vi:ByteArray
 deriving DecidableEq,Inhabited
instance:ak fV:=.str (dg Int (dg ByteArray (dg (aa nj) (dg (aa j1) (hC ByteArray))))) (λx=>(x.b6,x.du,x.mN,x.yl,x.vi)) 5
abbrev afJ:aP fV Int:=.str dk 0 fV.b6 λb g=>{b with b6:=g}
abbrev ae5:aP fV ByteArray:=.str (bB dk) 1 fV.du λb g=>{b with du:=g}
abbrev VE:aP fV (aa nj):=.str (bB (bB dk)) 2 fV.mN λb g=>{b with mN:=g}
abbrev ae6:aP fV (aa j1):=.str (bB (bB (bB dk))) 3 fV.yl λb g=>{b with yl:=g}
abbrev Ot:aP fV ByteArray:=.str (bB (bB (bB (bB hQ)))) 4 fV.vi λb g=>{b with vi:=g}
instance:a7 fV:=⟨a7.cells Int++a7.cells ByteArray++a7.cells (aa nj)++a7.cells (aa j1)++a7.cells ByteArray,λA W=>⟨by rfl,a7.ok (α:=Int) A W,a7.ok (α:=ByteArray) A W,a7.ok (α:=aa nj) A W,a7.ok (α:=aa j1) A W,a7.ok (α:=ByteArray) A W⟩⟩
structure dD where
 du:ByteArray
 jo:Int
 dQ:Int
 deriving DecidableEq,Inhabited
instance:ak dD:=.str (dg ByteArray (dg Int (hC Int))) (λx=>(x.du,x.jo,x.dQ)) 3
abbrev GP:aP dD ByteArray:=.str dk 0 dD.du λb g=>{b with du:=g}
abbrev GI:aP dD Int:=.str (bB dk) 1 dD.jo λb g=>{b with jo:=g}
abbrev wk:aP dD Int:=.str (bB (bB hQ)) 2 dD.dQ λb g=>{b with dQ:=g}
instance:a7 dD:=⟨a7.cells ByteArray++a7.cells Int++a7.cells Int,λA W=>⟨by rfl,a7.ok (α:=ByteArray) A W,a7.ok (α:=Int) A W,a7.ok (α:=Int) A W⟩⟩
structure cy where
 b6:Int
 du:ByteArray
 cn:List dD
 dW:List Int
 jT:Int
 Ac:List aN
 ie:Int
 vi:ByteArray
 deriving DecidableEq,Inhabited
instance:ak cy:=.str (dg Int (dg ByteArray (dg (aa dD) (dg (aa Int) (dg Int (dg (aa aN) (dg Int (hC ByteArray)))))))) (λx=>(x.b6,x.du,x.cn,x.dW,x.jT,x.Ac,x.ie,x.vi)) 8
abbrev xX:aP cy Int:=.str dk 0 cy.b6 λb g=>{b with b6:=g}
abbrev K2:aP cy ByteArray:=.str (bB dk) 1 cy.du λb g=>{b with du:=g}
abbrev sU:aP cy (aa dD):=.str (bB (bB dk)) 2 cy.cn λb g=>{b with cn:=g}
abbrev zM:aP cy (aa Int):=.str (bB (bB (bB dk))) 3 cy.dW λb g=>{b with dW:=g}
abbrev KL:aP cy Int:=.str (bB (bB (bB (bB dk)))) 4 cy.jT λb g=>{b with jT:=g}
abbrev ad0:aP cy (aa aN):=.str (bB (bB (bB (bB (bB dk))))) 5 cy.Ac λb g=>{b with Ac:=g}
abbrev Gw:aP cy Int:=.str (bB (bB (bB (bB (bB (bB dk)))))) 6 cy.ie λb g=>{b with ie:=g}
abbrev U9:aP cy ByteArray:=.str (bB (bB (bB (bB (bB (bB (bB hQ))))))) 7 cy.vi λb g=>{b with vi:=g}
instance:a7 cy:=⟨a7.cells Int++a7.cells ByteArray++a7.cells (aa dD)++a7.cells (aa Int)++a7.cells Int++a7.cells (aa aN)++a7.cells Int++a7.cells ByteArray,λA W=>⟨by rfl,a7.ok (α:=Int) A W,a7.ok (α:=ByteArray) A W,a7.ok (α:=aa dD) A W,a7.ok (α:=aa Int) A W,a7.ok (α:=Int) A W,a7.ok (α:=aa aN) A W,a7.ok (α:=Int) A W,a7.ok (α:=ByteArray) A W⟩⟩
structure hV where
 bG:Int
 k3:Int
 deriving DecidableEq,Inhabited
instance:ak hV:=.str (dg Int (hC Int)) (λx=>(x.bG,x.k3)) 2
abbrev Ge:aP hV Int:=.str dk 0 hV.bG λb g=>{b with bG:=g}
abbrev O0:aP hV Int:=.str (bB hQ) 1 hV.k3 λb g=>{b with k3:=g}
instance:a7 hV:=⟨a7.cells Int++a7.cells Int,λA W=>⟨by rfl,a7.ok (α:=Int) A W,a7.ok (α:=Int) A W⟩⟩
structure fQ where
 bG:Int
 DQ:Bool
 DD:Bool
 cn:List Bool
 deriving DecidableEq,Inhabited
instance:ak fQ:=.str (dg Int (dg Bool (dg Bool (hC (aa Bool))))) (λx=>(x.bG,x.DQ,x.DD,x.cn)) 4
abbrev ae7:aP fQ Int:=.str dk 0 fQ.bG λb g=>{b with bG:=g}
abbrev afu:aP fQ Bool:=.str (bB dk) 1 fQ.DQ λb g=>{b with DQ:=g}
abbrev ae8:aP fQ Bool:=.str (bB (bB dk)) 2 fQ.DD λb g=>{b with DD:=g}
abbrev afv:aP fQ (aa Bool):=.str (bB (bB (bB hQ))) 3 fQ.cn λb g=>{b with cn:=g}
instance:a7 fQ:=⟨a7.cells Int++a7.cells Bool++a7.cells Bool++a7.cells (aa Bool),λA W=>⟨by rfl,a7.ok (α:=Int) A W,a7.ok (α:=Bool) A W,a7.ok (α:=Bool) A W,a7.ok (α:=aa Bool) A W⟩⟩
structure dN where
 b6:Int
 du:ByteArray
 mi:List fQ
 dW:List Int
 kg:Int
 HV:Bool
 deriving DecidableEq,Inhabited
instance:ak dN:=.str (dg Int (dg ByteArray (dg (aa fQ) (dg (aa Int) (dg Int (hC Bool)))))) (λx=>(x.b6,x.du,x.mi,x.dW,x.kg,x.HV)) 6
abbrev GX:aP dN Int:=.str dk 0 dN.b6 λb g=>{b with b6:=g}
abbrev Pl:aP dN ByteArray:=.str (bB dk) 1 dN.du λb g=>{b with du:=g}
abbrev zP:aP dN (aa fQ):=.str (bB (bB dk)) 2 dN.mi λb g=>{b with mi:=g}
abbrev OZ:aP dN (aa Int):=.str (bB (bB (bB dk))) 3 dN.dW λb g=>{b with dW:=g}
abbrev Gx:aP dN Int:=.str (bB (bB (bB (bB dk)))) 4 dN.kg λb g=>{b with kg:=g}
abbrev aff:aP dN Bool:=.str (bB (bB (bB (bB (bB hQ))))) 5 dN.HV λb g=>{b with HV:=g}
instance:a7 dN:=⟨a7.cells Int++a7.cells ByteArray++a7.cells (aa fQ)++a7.cells (aa Int)++a7.cells Int++a7.cells Bool,λA W=>⟨by rfl,a7.ok (α:=Int) A W,a7.ok (α:=ByteArray) A W,a7.ok (α:=aa fQ) A W,a7.ok (α:=aa Int) A W,a7.ok (α:=Int) A W,a7.ok (α:=Bool) A W⟩⟩
structure fD where
 bG:Int
 fx:Int
 eJ:Int
 wH:Int
 nk:Int
 rn:Int
 deriving DecidableEq,Inhabited
instance:ak fD:=.str (dg Int (dg Int (dg Int (dg Int (dg Int (hC Int)))))) (λx=>(x.bG,x.fx,x.eJ,x.wH,x.nk,x.rn)) 6
abbrev afK:aP fD Int:=.str dk 0 fD.bG λb g=>{b with bG:=g}
abbrev af1:aP fD Int:=.str (bB dk) 1 fD.fx λb g=>{b with fx:=g}
abbrev afw:aP fD Int:=.str (bB (bB dk)) 2 fD.eJ λb g=>{b with eJ:=g}
abbrev afL:aP fD Int:=.str (bB (bB (bB dk))) 3 fD.wH λb g=>{b with wH:=g}
abbrev ae9:aP fD Int:=.str (bB (bB (bB (bB dk)))) 4 fD.nk λb g=>{b with nk:=g}
abbrev afM:aP fD Int:=.str (bB (bB (bB (bB (bB hQ))))) 5 fD.rn λb g=>{b with rn:=g}
instance:a7 fD:=⟨a7.cells Int++a7.cells Int++a7.cells Int++a7.cells Int++a7.cells Int++a7.cells Int,λA W=>⟨by rfl,a7.ok (α:=Int) A W,a7.ok (α:=Int) A W,a7.ok (α:=Int) A W,a7.ok (α:=Int) A W,a7.ok (α:=Int) A W,a7.ok (α:=Int) A W⟩⟩
structure aZ where
 gZ:List jl
 pT:List mL
 qs:List ft
 dW:List fV
 bK:List cy
 r5:List hV
 eK:List dN
 dj:List fD
 HA:Int
 HM:Int
 deriving DecidableEq,Inhabited
instance:ak aZ:=.str (dg (aa jl) (dg (aa mL) (dg (aa ft) (dg (aa fV) (dg (aa cy) (dg (aa hV) (dg (aa dN) (dg (aa fD) (dg Int (hC Int)))))))))) (λx=>(x.gZ,x.pT,x.qs,x.dW,x.bK,x.r5,x.eK,x.dj,x.HA,x.HM)) 10
abbrev VA:aP aZ (aa jl):=.str dk 0 aZ.gZ λb g=>{b with gZ:=g}
abbrev Vs:aP aZ (aa mL):=.str (bB dk) 1 aZ.pT λb g=>{b with pT:=g}
abbrev VB:aP aZ (aa ft):=.str (bB (bB dk)) 2 aZ.qs λb g=>{b with qs:=g}
abbrev Vt:aP aZ (aa fV):=.str (bB (bB (bB dk))) 3 aZ.dW λb g=>{b with dW:=g}
abbrev zN:aP aZ (aa cy):=.str (bB (bB (bB (bB dk)))) 4 aZ.bK λb g=>{b with bK:=g}
abbrev KM:aP aZ (aa hV):=.str (bB (bB (bB (bB (bB dk))))) 5 aZ.r5 λb g=>{b with r5:=g}
abbrev KR:aP aZ (aa dN):=.str (bB (bB (bB (bB (bB (bB dk)))))) 6 aZ.eK λb g=>{b with eK:=g}
abbrev Gf:aP aZ (aa fD):=.str (bB (bB (bB (bB (bB (bB (bB dk))))))) 7 aZ.dj λb g=>{b with dj:=g}
abbrev aea:aP aZ Int:=.str (bB (bB (bB (bB (bB (bB (bB (bB dk)))))))) 8 aZ.HA λb g=>{b with HA:=g}
abbrev ael:aP aZ Int:=.str (bB (bB (bB (bB (bB (bB (bB (bB (bB hQ))))))))) 9 aZ.HM λb g=>{b with HM:=g}
instance:a7 aZ:=⟨a7.cells (aa jl)++a7.cells (aa mL)++a7.cells (aa ft)++a7.cells (aa fV)++a7.cells (aa cy)++a7.cells (aa hV)++a7.cells (aa dN)++a7.cells (aa fD)++a7.cells Int++a7.cells Int,λA W=>⟨by rfl,a7.ok (α:=aa jl) A W,a7.ok (α:=aa mL) A W,a7.ok (α:=aa ft) A W,a7.ok (α:=aa fV) A W,a7.ok (α:=aa cy) A W,a7.ok (α:=aa hV) A W,a7.ok (α:=aa dN) A W,a7.ok (α:=aa fD) A W,a7.ok (α:=Int) A W,a7.ok (α:=Int) A W⟩⟩
instance abi:dH prog 32 (default:aZ):=.i
instance ch:bU prog 3 Int:=.i underlying3
instance:cC prog 69 1 afq:=.i underlying69 I ch
def mixed:prog.follows .mixedOrders=true:=by kernel_rfl
instance:Uy prog:=⟨mixed⟩
def aa5:bH prog 11:=.i func11
instance:o1 prog 5 (.int .u8):=⟨underlying5⟩
instance:o1 prog 3 (.int .i64):=⟨underlying3⟩
def gR:bH prog 17:=.i func17
instance ao8:gF prog 32 #[(0,1),(1,1),(2,1),(3,1),(4,1),(5,1),(6,1),(7,1),(8,1),(9,1)]:=.i underlying32
instance rD:bU prog 32 aZ:=.i underlying32
instance:dH prog 71 (default:jl):=.i
instance:cC prog 71 0 afV:=.i underlying71 I ch
instance su:bU prog 9 ByteArray:=.i underlying9
instance:cC prog 71 1 afr:=.i underlying71 I su
instance:cC prog 71 2 afs:=.i underlying71 I ch
instance:gF prog 71 #[(0,1),(1,1),(2,1)]:=.i underlying71
instance arC:bU prog 71 jl:=.i underlying71
instance:jQ prog 23 71 jl:=⟨underlying23,arC⟩
instance abj:bU prog 23 (aa jl):=.i underlying23
instance:cC prog 32 0 VA:=.i underlying32 I abj
instance:jQ prog 56 3 Int:=⟨underlying56,ch⟩
instance so:dH prog 3 (default:Int):=.i
instance:dH prog 73 (default:mL):=.i
instance:cC prog 73 0 afH:=.i underlying73 I ch
instance:cC prog 73 1 ae4:=.i underlying73 I su
instance lL:bU prog 56 (aa Int):=.i underlying56
instance:cC prog 73 2 aew:=.i underlying73 I lL
instance:gF prog 73 #[(0,1),(1,1),(2,1)]:=.i underlying73
instance arD:bU prog 73 mL:=.i underlying73
instance:jQ prog 24 73 mL:=⟨underlying24,arD⟩
instance abk:bU prog 24 (aa mL):=.i underlying24
instance:cC prog 32 1 Vs:=.i underlying32 I abk
instance ZN:dH prog 141 (default:ft):=.i
instance:cC prog 141 0 V1:=.i underlying141 I ch
instance:cC prog 141 1 VF:=.i underlying141 I ch
instance:cC prog 141 2 VG:=.i underlying141 I ch
instance:cC prog 141 4 Vz:=.i underlying141 I ch
instance amc:gF prog 141 #[(0,1),(1,1),(2,1),(3,1),(4,1)]:=.i underlying141
instance ZO:bU prog 141 ft:=.i underlying141
instance sd:dH prog 106 (default:aN):=.i
instance lu:bU prog 104 (BitVec 64):=.i underlying104
instance ud:cC prog 106 1 ll:=.i underlying106 I lu
instance yt:gF prog 106 #[(0,1),(1,1)]:=.i underlying106
instance Mz:dH prog 143 (default:jE):=.i
instance fw:bU prog 106 aN:=.i underlying106
instance:cC prog 143 0 Pc:=.i underlying143 I fw
instance:cC prog 143 1 Pj:=.i underlying143 I fw
instance:cC prog 143 2 Pk:=.i underlying143 I ch
instance ZP:gF prog 143 #[(0,2),(2,2),(4,1)]:=.i underlying143
instance RS:bU prog 143 jE:=.i underlying143
instance:jQ prog 139 143 jE:=⟨underlying139,RS⟩
instance MA:bU prog 139 (aa jE):=.i underlying139
instance ajH:cC prog 141 3 KV:=.i underlying141 I MA
def qF:bH prog 27:=.i func27
instance:o1 prog 104 (.int .u64):=⟨underlying104⟩
def Yi:kP prog 141 [3]:=by unfold kP;kernel_rfl
instance:jQ prog 25 141 ft:=⟨underlying25,ZO⟩
def ao9:bH prog 23:=.i func23
instance:dH prog 145 (default:kf):=.i
instance:cC prog 145 0 aeM:=.i underlying145 I ch
instance:gF prog 145 #[(0,1),(1,1),(2,2)]:=.i underlying145
instance aoC:bU prog 145 kf:=.i underlying145
instance amd:dH prog 149 (default:fV):=.i
instance:cC prog 149 0 afJ:=.i underlying149 I ch
instance:cC prog 149 1 ae5:=.i underlying149 I su
instance:gF prog 149 #[(0,1),(1,1),(2,1),(3,1),(4,1)]:=.i underlying149
instance:dH prog 151 (default:j1):=.i
instance:cC prog 151 0 af0:=.i underlying151 I ch
instance:gF prog 151 #[(0,1),(1,1),(2,4)]:=.i underlying151
instance aoD:bU prog 151 j1:=.i underlying151
instance:jQ prog 147 151 j1:=⟨underlying147,aoD⟩
instance aoE:bU prog 147 (aa j1):=.i underlying147
instance:cC prog 149 3 ae6:=.i underlying149 I aoE
instance ant:dH prog 153 (default:nj):=.i
instance:cC prog 153 0 aft:=.i underlying153 I su
instance ajW:cC prog 153 1 VX:=.i underlying153 I ch
instance:gF prog 153 #[(0,1),(1,1)]:=.i underlying153
instance MR:bU prog 153 nj:=.i underlying153
instance:jQ prog 146 153 nj:=⟨underlying146,MR⟩
instance:cC prog 151 2 afX:=.i underlying151 I aoC
instance aas:bU prog 146 (aa nj):=.i underlying146
instance:cC prog 149 2 VE:=.i underlying149 I aas
instance:cC prog 151 1 afW:=.i underlying151 I ch
instance:cC prog 145 1 afI:=.i underlying145 I ch
instance:cC prog 145 2 aex:=.i underlying145 I fw
instance MB:bU prog 149 fV:=.i underlying149
instance:jQ prog 26 149 fV:=⟨underlying26,MB⟩
instance Yj:cC prog 149 4 Ot:=.i underlying149 I su
def apa:bH prog 24:=.i func24
instance um:dH prog 155 (default:dD):=.i
instance:cC prog 155 0 GP:=.i underlying155 I su
instance:cC prog 155 1 GI:=.i underlying155 I ch
instance L4:cC prog 155 2 wk:=.i underlying155 I ch
instance MC:gF prog 155 #[(0,1),(1,1),(2,1)]:=.i underlying155
instance ti:bU prog 155 dD:=.i underlying155
instance:jQ prog 82 155 dD:=⟨underlying82,ti⟩
instance vD:dH prog 84 (default:cy):=.i
instance ak4:cC prog 84 0 xX:=.i underlying84 I ch
instance yC:bU prog 82 (aa dD):=.i underlying82
instance AI:cC prog 84 2 sU:=.i underlying84 I yC
instance Y7:cC prog 84 3 zM:=.i underlying84 I lL
instance:cC prog 84 6 Gw:=.i underlying84 I ch
instance M0:gF prog 84 #[(0,1),(1,1),(2,1),(3,1),(4,1),(5,1),(6,1),(7,1)]:=.i underlying84
instance qG:bU prog 84 cy:=.i underlying84
def Q7:kP prog 84 [2]:=by unfold kP;kernel_rfl
def Q6:kP prog 84 []:=by unfold kP;kernel_rfl
instance:jQ prog 50 106 aN:=⟨underlying50,fw⟩
instance Ee:bU prog 50 (aa aN):=.i underlying50
instance:jQ prog 27 84 cy:=⟨underlying27,qG⟩
instance:jQ prog 156 9 ByteArray:=⟨underlying156,su⟩
instance:dH prog 9 (default:ByteArray):=.i
instance RT:bU prog 156 (aa ByteArray):=.i underlying156
instance:jQ prog 157 156 (aa ByteArray):=⟨underlying157,RT⟩
instance:dH prog 156 (default:aa ByteArray):=.i
instance akM:cC prog 84 7 U9:=.i underlying84 I su
def apb:bH prog 25:=.i func25
instance abl:bU prog 25 (aa ft):=.i underlying25
instance akO:cC prog 32 2 VB:=.i underlying32 I abl
instance abm:bU prog 26 (aa fV):=.i underlying26
instance akP:cC prog 32 3 Vt:=.i underlying32 I abm
instance Bc:bU prog 27 (aa cy):=.i underlying27
instance Q8:cC prog 32 4 zN:=.i underlying32 I Bc
instance Eb:dH prog 58 (default:dN):=.i
instance ak1:cC prog 58 0 GX:=.i underlying58 I ch
instance akQ:cC prog 58 4 Gx:=.i underlying58 I ch
instance la:bU prog 4 Bool:=.i underlying4
instance SD:gF prog 58 #[(0,1),(1,1),(2,1),(3,1),(4,1),(5,1)]:=.i underlying58
instance wZ:bU prog 58 dN:=.i underlying58
instance acv:dH prog 4 (default:Bool):=.i
instance Ba:bU prog 55 (aa fQ):=.i underlying55
instance akN:cC prog 58 2 zP:=.i underlying58 I Ba
instance RU:dH prog 160 (default:fQ):=.i
instance:cC prog 160 0 ae7:=.i underlying160 I ch
instance:cC prog 160 1 afu:=.i underlying160 I la
instance:cC prog 160 2 ae8:=.i underlying160 I la
instance aoF:bU prog 158 (aa Bool):=.i underlying158
instance:cC prog 160 3 afv:=.i underlying160 I aoF
instance:gF prog 160 #[(0,1),(1,1),(2,1),(3,1)]:=.i underlying160
instance MD:bU prog 160 fQ:=.i underlying160
instance:jQ prog 55 160 fQ:=⟨underlying55,MD⟩
def DL:kP prog 58 [2]:=by unfold kP;kernel_rfl
instance:jQ prog 29 58 dN:=⟨underlying29,wZ⟩
def apc:bH prog 26:=.i func26
instance Ec:bU prog 29 (aa dN):=.i underlying29
instance Q9:cC prog 32 6 KR:=.i underlying32 I Ec
instance Ed:dH prog 79 (default:hV):=.i
instance:cC prog 79 0 Ge:=.i underlying79 I ch
instance M1:gF prog 79 #[(0,1),(1,1)]:=.i underlying79
instance SE:bU prog 79 hV:=.i underlying79
instance:jQ prog 28 79 hV:=⟨underlying28,SE⟩
instance M3:bU prog 28 (aa hV):=.i underlying28
instance Ra:cC prog 32 5 KM:=.i underlying32 I M3
instance Bd:bU prog 30 (aa fD):=.i underlying30
instance DM:cC prog 32 7 Gf:=.i underlying32 I Bd
instance SF:dH prog 81 (default:fD):=.i
instance:cC prog 81 0 afK:=.i underlying81 I ch
instance:cC prog 81 2 afw:=.i underlying81 I ch
instance:cC prog 81 4 ae9:=.i underlying81 I ch
instance:gF prog 81 #[(0,1),(1,1),(2,1),(3,1),(4,1),(5,1)]:=.i underlying81
instance M4:bU prog 81 fD:=.i underlying81
instance:jQ prog 30 81 fD:=⟨underlying30,M4⟩
def Xo:kP prog 32 [5,7]:=by unfold kP;kernel_rfl
instance:cC prog 81 1 af1:=.i underlying81 I ch
def acG:bH prog 8:=.i func8
structure lG where
 kB:aZ
 ub:fj
 oA:Int
 deriving DecidableEq,Inhabited
instance:ak lG:=.str (dg aZ (dg fj (hC Int))) (λx=>(x.kB,x.ub,x.oA)) 12
abbrev Vw:aP lG aZ:=.str dk 0 lG.kB λb g=>{b with kB:=g}
abbrev KG:aP lG fj:=.str (bB dk) 10 lG.ub λb g=>{b with ub:=g}
abbrev KS:aP lG Int:=.str (bB (bB hQ)) 11 lG.oA λb g=>{b with oA:=g}
instance:a7 lG:=⟨a7.cells aZ++a7.cells fj++a7.cells Int,λA W=>⟨by rfl,a7.ok (α:=aZ) A W,a7.ok (α:=fj) A W,a7.ok (α:=Int) A W⟩⟩
instance amC:dH prog 163 (default:lG):=.i
instance:cC prog 163 0 Vw:=.i underlying163 I rD
instance aat:bU prog 161 fj:=.i underlying161
instance ajX:cC prog 163 1 KG:=.i underlying163 I aat
instance:cC prog 163 2 KS:=.i underlying163 I ch
instance amB:gF prog 163 #[(0,10),(10,1),(11,1)]:=.i underlying163
def amg:bH prog 124:=.i func124
def amh:bH prog 123:=.i func123
structure cG where
 gp:Bool
 cc:aN
 hx:aN
 er:Int
 lr:aN
 deriving DecidableEq,Inhabited
instance:ak cG:=.str (dg Bool (dg aN (dg aN (dg Int (hC aN))))) (λx=>(x.gp,x.cc,x.hx,x.er,x.lr)) 8
abbrev FP:aP cG Bool:=.str dk 0 cG.gp λb g=>{b with gp:=g}
abbrev tW:aP cG aN:=.str (bB dk) 1 cG.cc λb g=>{b with cc:=g}
abbrev CL:aP cG aN:=.str (bB (bB dk)) 3 cG.hx λb g=>{b with hx:=g}
abbrev Cz:aP cG Int:=.str (bB (bB (bB dk))) 5 cG.er λb g=>{b with er:=g}
abbrev K3:aP cG aN:=.str (bB (bB (bB (bB hQ)))) 6 cG.lr λb g=>{b with lr:=g}
instance:a7 cG:=⟨a7.cells Bool++a7.cells aN++a7.cells aN++a7.cells Int++a7.cells aN,λA W=>⟨by rfl,a7.ok (α:=Bool) A W,a7.ok (α:=aN) A W,a7.ok (α:=aN) A W,a7.ok (α:=Int) A W,a7.ok (α:=aN) A W⟩⟩
structure bl where
 bG:Int
 bP:List cG
 gI:Int
 eJ:Int
 fM:List aN
 deriving DecidableEq,Inhabited
instance:ak bl:=.str (dg Int (dg (aa cG) (dg Int (dg Int (hC (aa aN)))))) (λx=>(x.bG,x.bP,x.gI,x.eJ,x.fM)) 5
abbrev xR:aP bl Int:=.str dk 0 bl.bG λb g=>{b with bG:=g}
abbrev we:aP bl (aa cG):=.str (bB dk) 1 bl.bP λb g=>{b with bP:=g}
abbrev KH:aP bl Int:=.str (bB (bB dk)) 2 bl.gI λb g=>{b with gI:=g}
abbrev F2:aP bl Int:=.str (bB (bB (bB dk))) 3 bl.eJ λb g=>{b with eJ:=g}
abbrev CN:aP bl (aa aN):=.str (bB (bB (bB (bB hQ)))) 4 bl.fM λb g=>{b with fM:=g}
instance:a7 bl:=⟨a7.cells Int++a7.cells (aa cG)++a7.cells Int++a7.cells Int++a7.cells (aa aN),λA W=>⟨by rfl,a7.ok (α:=Int) A W,a7.ok (α:=aa cG) A W,a7.ok (α:=Int) A W,a7.ok (α:=Int) A W,a7.ok (α:=aa aN) A W⟩⟩
structure aH where
 aX:bl
 b0:Int
 dI:Int
 deriving DecidableEq,Inhabited
instance:ak aH:=.str (dg bl (dg Int (hC Int))) (λx=>(x.aX,x.b0,x.dI)) 7
abbrev tS:aP aH bl:=.str dk 0 aH.aX λb g=>{b with aX:=g}
abbrev Ku:aP aH Int:=.str (bB dk) 5 aH.b0 λb g=>{b with b0:=g}
abbrev OL:aP aH Int:=.str (bB (bB hQ)) 6 aH.dI λb g=>{b with dI:=g}
instance:a7 aH:=⟨a7.cells bl++a7.cells Int++a7.cells Int,λA W=>⟨by rfl,a7.ok (α:=bl) A W,a7.ok (α:=Int) A W,a7.ok (α:=Int) A W⟩⟩
structure pQ where
 uF:Ref
 deriving DecidableEq,Inhabited
instance:ak pQ:=.str (hC Ref) (λx=>x.uF) 1
abbrev VS:aP pQ Ref:=.str hQ 0 pQ.uF λb g=>{b with uF:=g}
instance:a7 pQ:=⟨a7.cells Ref,λA W=>⟨by rfl,a7.ok (α:=Ref) A W⟩⟩
structure mJ where
 wV:Int
 hy:Int
 uf:fj
 deriving DecidableEq,Inhabited
instance:ak mJ:=.str (dg Int (dg Int (hC fj))) (λx=>(x.wV,x.hy,x.uf)) 3
abbrev Vv:aP mJ Int:=.str dk 0 mJ.wV λb g=>{b with wV:=g}
abbrev OK:aP mJ Int:=.str (bB dk) 1 mJ.hy λb g=>{b with hy:=g}
abbrev Fs:aP mJ fj:=.str (bB (bB hQ)) 2 mJ.uf λb g=>{b with uf:=g}
instance:a7 mJ:=⟨a7.cells Int++a7.cells Int++a7.cells fj,λA W=>⟨by rfl,a7.ok (α:=Int) A W,a7.ok (α:=Int) A W,a7.ok (α:=fj) A W⟩⟩
structure pR where
 cz:Ref
 deriving DecidableEq,Inhabited
instance:ak pR:=.str (hC Ref) (λx=>x.cz) 1
abbrev VT:aP pR Ref:=.str hQ 0 pR.cz λb g=>{b with cz:=g}
instance:a7 pR:=⟨a7.cells Ref,λA W=>⟨by rfl,a7.ok (α:=Ref) A W⟩⟩
inductive iK where
 |nil
 |pn (x:pQ)
 |po (x:mJ)
 |pq (x:pR)
 deriving DecidableEq,Inhabited
instance:ak iK where
 size:=1
 agg:=false
 rep A W cs x:=match x with
  | .nil=>cs=[.nilIface]
  | .pn x=> ∃v,cs=[.iface 201 v]∧(J.of x).holds A W v
  | .po x=> ∃v,cs=[.iface 204 v]∧(J.of x).holds A W v
  | .pq x=> ∃v,cs=[.iface 208 v]∧(J.of x).holds A W v
 len {A W cs x} h:=by cases x <;> first|(have h:cs=_:=h;rw[h];rfl)|(obtain⟨v,h,_⟩:=h;rw[h];rfl)
 one {A W cs x} h:=by
  intro u hu;cases x <;> first|(have h:cs=_:=h;rw[h]at hu;rw[hT.1 hu];rfl)|(obtain⟨v,h,_⟩:=h;rw[h]at hu;rw[hT.1 hu];rfl)
 flat _:=rfl
 mono {A W cV W' cs x} e h:=by cases x <;> first|exact h|(obtain⟨v,h,ad⟩:=h;exact⟨v,h,J.mono _ e ad⟩)
instance:a7 iK:=⟨[.nilIface],λ_ _=>rfl⟩
def ahw{A W v}{x:pQ}(h:(J.of x).holds A W v):(J.of (iK.pn x)).holds A W (.iface 201 v):=⟨rfl,v,rfl,h⟩
def LC{A W u}{x:pQ}(h:(J.of (iK.pn x)).holds A W u):∃v,u=.iface 201 v∧(J.of x).holds A W v:=by
 obtain⟨h1,v,ad,aB⟩:=h;exact⟨v,pS h1 ad,aB⟩
def ahx{A W v}{x:mJ}(h:(J.of x).holds A W v):(J.of (iK.po x)).holds A W (.iface 204 v):=⟨rfl,v,rfl,h⟩
def LD{A W u}{x:mJ}(h:(J.of (iK.po x)).holds A W u):∃v,u=.iface 204 v∧(J.of x).holds A W v:=by
 obtain⟨h1,v,ad,aB⟩:=h;exact⟨v,pS h1 ad,aB⟩
def ahy{A W v}{x:pR}(h:(J.of x).holds A W v):(J.of (iK.pq x)).holds A W (.iface 208 v):=⟨rfl,v,rfl,h⟩
def LF{A W u}{x:pR}(h:(J.of (iK.pq x)).holds A W u):∃v,u=.iface 208 v∧(J.of x).holds A W v:=by
 obtain⟨h1,v,ad,aB⟩:=h;exact⟨v,pS h1 ad,aB⟩
structure kA where
 wO:Int
 vt:Int
 nn:iK
 pU:fj
 deriving DecidableEq,Inhabited
instance:ak kA:=.str (dg Int (dg Int (dg iK (hC fj)))) (λx=>(x.wO,x.vt,x.nn,x.pU)) 4
abbrev aeD:aP kA Int:=.str dk 0 kA.wO λb g=>{b with wO:=g}
abbrev VH:aP kA Int:=.str (bB dk) 1 kA.vt λb g=>{b with vt:=g}
abbrev KF:aP kA iK:=.str (bB (bB dk)) 2 kA.nn λb g=>{b with nn:=g}
abbrev Vg:aP kA fj:=.str (bB (bB (bB hQ))) 3 kA.pU λb g=>{b with pU:=g}
instance:a7 kA:=⟨a7.cells Int++a7.cells Int++a7.cells iK++a7.cells fj,λA W=>⟨by rfl,a7.ok (α:=Int) A W,a7.ok (α:=Int) A W,a7.ok (α:=iK) A W,a7.ok (α:=fj) A W⟩⟩
instance amt:dH prog 197 (default:kA):=.i
instance:cC prog 197 1 VH:=.i underlying197 I ch
instance aoG:bU prog 193 fj:=.i underlying193
instance:cC prog 197 3 Vg:=.i underlying197 I aoG
instance ams:gF prog 197 #[(0,1),(1,1),(2,1),(3,1)]:=.i underlying197
structure sZ where
 vx:fj
 deriving DecidableEq,Inhabited
instance:ak sZ:=.str (hC fj) (λx=>x.vx) 1
abbrev VJ:aP sZ fj:=.str hQ 0 sZ.vx λb g=>{b with vx:=g}
instance:a7 sZ:=⟨a7.cells fj,λA W=>⟨by rfl,a7.ok (α:=fj) A W⟩⟩
instance al0:dH prog 231 (default:sZ):=.i
instance aoH:bU prog 229 fj:=.i underlying229
instance:cC prog 231 0 VJ:=.i underlying231 I aoH
instance alZ:gF prog 231 #[(0,1)]:=.i underlying231
def apf:bH prog 92:=.i func92
instance amv:dH prog 201 (default:pQ):=.i
instance aoI:bU prog 198 Ref:=.i underlying198
instance:cC prog 201 0 VS:=.i underlying201 I aoI
instance amu:gF prog 201 #[(0,1)]:=.i underlying201
instance MJ:bU prog 195 iK:=.i underlying195
instance:cC prog 197 2 KF:=.i underlying197 I MJ
def ami:bH prog 126:=.i func126
def amj:bH prog 125:=.i func125
instance amx:dH prog 204 (default:mJ):=.i
instance:cC prog 204 0 Vv:=.i underlying204 I ch
instance:cC prog 204 1 OK:=.i underlying204 I ch
instance R0:bU prog 202 fj:=.i underlying202
instance Yp:cC prog 204 2 Fs:=.i underlying204 I R0
instance amw:gF prog 204 #[(0,1),(1,1),(2,1)]:=.i underlying204
structure eh where
 mh:aZ
 cz:List aH
 deriving DecidableEq,Inhabited
instance:ak eh:=.str (dg aZ (hC (aa aH))) (λx=>(x.mh,x.cz)) 11
abbrev OG:aP eh aZ:=.str dk 0 eh.mh λb g=>{b with mh:=g}
abbrev CJ:aP eh (aa aH):=.str (bB hQ) 10 eh.cz λb g=>{b with cz:=g}
instance:a7 eh:=⟨a7.cells aZ++a7.cells (aa aH),λA W=>⟨by rfl,a7.ok (α:=aZ) A W,a7.ok (α:=aa aH) A W⟩⟩
instance al2:dH prog 235 (default:eh):=.i
instance ajO:cC prog 235 0 OG:=.i underlying235 I rD
instance al1:gF prog 235 #[(0,10),(10,1)]:=.i underlying235
def apg:bH prog 94:=.i func94
def aiD:kP prog 235 [10]:=by unfold kP;kernel_rfl
instance amz:dH prog 208 (default:pR):=.i
instance aoJ:bU prog 205 Ref:=.i underlying205
instance:cC prog 208 0 VT:=.i underlying208 I aoJ
instance amy:gF prog 208 #[(0,1)]:=.i underlying208
def api:bH prog 57:=.i func57
def Bm:q2 prog 3 Int:=alp underlying3
structure cx where
 bG:Int
 fx:Int
 cc:aN
 deriving DecidableEq,Inhabited
instance:ak cx:=.str (dg Int (dg Int (hC aN))) (λx=>(x.bG,x.fx,x.cc)) 4
abbrev Cx:aP cx Int:=.str dk 0 cx.bG λb g=>{b with bG:=g}
abbrev CG:aP cx Int:=.str (bB dk) 1 cx.fx λb g=>{b with fx:=g}
abbrev Cy:aP cx aN:=.str (bB (bB hQ)) 2 cx.cc λb g=>{b with cc:=g}
instance:a7 cx:=⟨a7.cells Int++a7.cells Int++a7.cells aN,λA W=>⟨by rfl,a7.ok (α:=Int) A W,a7.ok (α:=Int) A W,a7.ok (α:=aN) A W⟩⟩
structure k2 where
 rl:Int
 rj:Int
 deriving DecidableEq,Inhabited
instance:ak k2:=.str (dg Int (hC Int)) (λx=>(x.rl,x.rj)) 2
abbrev FO:aP k2 Int:=.str dk 0 k2.rl λb g=>{b with rl:=g}
abbrev Fx:aP k2 Int:=.str (bB hQ) 1 k2.rj λb g=>{b with rj:=g}
instance:a7 k2:=⟨a7.cells Int++a7.cells Int,λA W=>⟨by rfl,a7.ok (α:=Int) A W,a7.ok (α:=Int) A W⟩⟩
structure ri where
 mh:aZ
 iM:fj
 deriving DecidableEq,Inhabited
instance:ak ri:=.str (dg aZ (hC fj)) (λx=>(x.mh,x.iM)) 11
abbrev Vp:aP ri aZ:=.str dk 0 ri.mh λb g=>{b with mh:=g}
abbrev Vq:aP ri fj:=.str (bB hQ) 10 ri.iM λb g=>{b with iM:=g}
instance:a7 ri:=⟨a7.cells aZ++a7.cells fj,λA W=>⟨by rfl,a7.ok (α:=aZ) A W,a7.ok (α:=fj) A W⟩⟩
instance al4:dH prog 168 (default:ri):=.i
instance:cC prog 168 0 Vp:=.i underlying168 I rD
instance aoK:bU prog 166 fj:=.i underlying166
instance:cC prog 168 1 Vq:=.i underlying168 I aoK
instance al3:gF prog 168 #[(0,10),(10,1)]:=.i underlying168
structure jS where
 nW:List dN
 iM:Vector Int 6
 deriving DecidableEq,Inhabited
instance:ak jS:=.str (dg (aa dN) (hC (Vector Int 6))) (λx=>(x.nW,x.iM)) 7
abbrev OH:aP jS (aa dN):=.str dk 0 jS.nW λb g=>{b with nW:=g}
abbrev zF:aP jS (Vector Int 6):=.str (bB hQ) 1 jS.iM λb g=>{b with iM:=g}
instance:a7 jS:=⟨a7.cells (aa dN)++a7.cells (Vector Int 6),λA W=>⟨by rfl,a7.ok (α:=aa dN) A W,a7.ok (α:=Vector Int 6) A W⟩⟩
instance al6:dH prog 171 (default:jS):=.i
instance ajK:cC prog 171 0 OH:=.i underlying171 I Ec
instance al5:gF prog 171 #[(0,1),(1,6)]:=.i underlying171
def apq:bH prog 28:=.i func28
def apo:bH prog 29:=.i func29
def apl:bH prog 30:=.i func30
inductive ny where
 |nil
 |yY (a0:Ref) (bX:aH) (a2:Int) (a3:Int)
 |xk (a0:Ref) (bX:bl)
 |yZ (a0:Ref) (bX:aH)
 deriving DecidableEq,Inhabited
instance:ak ny where
 size:=1
 agg:=false
 rep A W cs x:=match x with
  | .nil=>cs=[.nilFunc]
  | .yY a0 bX a2 a3=> ∃v,cs=[v]∧(J.lx 69 [J.ptr a0,J.ptr bX,J.ptr a2,J.ptr a3]).holds A W v
  | .xk a0 bX=> ∃v,cs=[v]∧(J.lx 75 [J.ptr a0,J.ptr bX]).holds A W v
  | .yZ a0 bX=> ∃v,cs=[v]∧(J.lx 80 [J.ptr a0,J.ptr bX]).holds A W v
 len {A W cs x} h:=by cases x <;> first|(have h:cs=_:=h;rw[h];rfl)|(obtain⟨v,h,_⟩:=h;rw[h];rfl)
 one {A W cs x} h:=by
  intro u hu;cases x <;> first|(have h:cs=_:=h;rw[h]at hu;rw[hT.1 hu];rfl)|(obtain⟨v,h,fP,rfl,_⟩:=h;rw[h]at hu;rw[hT.1 hu];rfl)
 flat _:=rfl
 mono {A W cV W' cs x} e h:=by cases x <;> first|exact h|(obtain⟨v,h,ad⟩:=h;exact⟨v,h,J.mono _ e ad⟩)
instance:a7 ny:=⟨[.nilFunc],λ_ _=>rfl⟩
def ak5{A W v}{a0:Ref}{bX:aH}{a2:Int}{a3:Int}(h:(J.lx 69 [J.ptr a0,J.ptr bX,J.ptr a2,J.ptr a3]).holds A W v):(J.of (ny.yY a0 bX a2 a3)).holds A W v:=by
 obtain⟨fP,rfl,ad⟩:=h;exact⟨rfl,_,rfl,fP,rfl,ad⟩
def ak8{A W u}{a0:Ref}{bX:aH}{a2:Int}{a3:Int}(h:(J.of (ny.yY a0 bX a2 a3)).holds A W u):(J.lx 69 [J.ptr a0,J.ptr bX,J.ptr a2,J.ptr a3]).holds A W u:=by
 obtain⟨h1,v,ad,aB⟩:=h;have e:=pS h1 ad;subst e;exact aB
def ak7{A W v}{a0:Ref}{bX:bl}(h:(J.lx 75 [J.ptr a0,J.ptr bX]).holds A W v):(J.of (ny.xk a0 bX)).holds A W v:=by
 obtain⟨fP,rfl,ad⟩:=h;exact⟨rfl,_,rfl,fP,rfl,ad⟩
def ak9{A W u}{a0:Ref}{bX:bl}(h:(J.of (ny.xk a0 bX)).holds A W u):(J.lx 75 [J.ptr a0,J.ptr bX]).holds A W u:=by
 obtain⟨h1,v,ad,aB⟩:=h;have e:=pS h1 ad;subst e;exact aB
def ak3{A W v}{a0:Ref}{bX:aH}(h:(J.lx 80 [J.ptr a0,J.ptr bX]).holds A W v):(J.of (ny.yZ a0 bX)).holds A W v:=by
 obtain⟨fP,rfl,ad⟩:=h;exact⟨rfl,_,rfl,fP,rfl,ad⟩
def ala{A W u}{a0:Ref}{bX:aH}(h:(J.of (ny.yZ a0 bX)).holds A W u):(J.lx 80 [J.ptr a0,J.ptr bX]).holds A W u:=by
 obtain⟨h1,v,ad,aB⟩:=h;have e:=pS h1 ad;subst e;exact aB
structure gn where
 AL:ny
 deriving DecidableEq,Inhabited
instance:ak gn:=.str (hC ny) (λx=>x.AL) 1
abbrev Vj:aP gn ny:=.str hQ 0 gn.AL λb g=>{b with AL:=g}
instance:a7 gn:=⟨a7.cells ny,λA W=>⟨by rfl,a7.ok (α:=ny) A W⟩⟩
structure gy where
 mO:Ref
 qA:Ref
 s7:Ref
 hX:List gn
 deriving DecidableEq,Inhabited
instance:ak gy:=.str (dg Ref (dg Ref (dg Ref (hC (aa gn))))) (λx=>(x.mO,x.qA,x.s7,x.hX)) 4
abbrev Fy:aP gy Ref:=.str dk 0 gy.mO λb g=>{b with mO:=g}
abbrev Vx:aP gy Ref:=.str (bB dk) 1 gy.qA λb g=>{b with qA:=g}
abbrev Vh:aP gy Ref:=.str (bB (bB dk)) 2 gy.s7 λb g=>{b with s7:=g}
abbrev Ks:aP gy (aa gn):=.str (bB (bB (bB hQ))) 3 gy.hX λb g=>{b with hX:=g}
instance:a7 gy:=⟨a7.cells Ref++a7.cells Ref++a7.cells Ref++a7.cells (aa gn),λA W=>⟨by rfl,a7.ok (α:=Ref) A W,a7.ok (α:=Ref) A W,a7.ok (α:=Ref) A W,a7.ok (α:=aa gn) A W⟩⟩
instance apn:dH prog 93 (default:gy):=.i
instance arE:bU prog 85 Ref:=.i underlying85
instance:cC prog 93 0 Fy:=.i underlying93 I arE
instance arF:bU prog 87 Ref:=.i underlying87
instance:cC prog 93 1 Vx:=.i underlying93 I arF
instance arG:bU prog 89 Ref:=.i underlying89
instance:cC prog 93 2 Vh:=.i underlying93 I arG
instance apm:gF prog 93 #[(0,1),(1,1),(2,1),(3,1)]:=.i underlying93
def akU:kP prog 93 [3]:=by unfold kP;kernel_rfl
structure cW where
 gK:aZ
 bN:List aH
 ik:Int
 deriving DecidableEq,Inhabited
instance:ak cW:=.str (dg aZ (dg (aa aH) (hC Int))) (λx=>(x.gK,x.bN,x.ik)) 12
abbrev GM:aP cW aZ:=.str dk 0 cW.gK λb g=>{b with gK:=g}
abbrev wj:aP cW (aa aH):=.str (bB dk) 10 cW.bN λb g=>{b with bN:=g}
abbrev GN:aP cW Int:=.str (bB (bB hQ)) 11 cW.ik λb g=>{b with ik:=g}
instance:a7 cW:=⟨a7.cells aZ++a7.cells (aa aH)++a7.cells Int,λA W=>⟨by rfl,a7.ok (α:=aZ) A W,a7.ok (α:=aa aH) A W,a7.ok (α:=Int) A W⟩⟩
instance ape:dH prog 95 (default:cW):=.i
instance Ri:cC prog 95 0 GM:=.i underlying95 I rD
instance Rq:cC prog 95 2 GN:=.i underlying95 I ch
instance apd:gF prog 95 #[(0,10),(10,1),(11,1)]:=.i underlying95
def acH:bH prog 9:=.i func9
def aqh:bH prog 10:=.i func10
instance MY:dH prog 52 (default:bl):=.i
instance DN:cC prog 52 0 xR:=.i underlying52 I ch
instance ap0:gF prog 52 #[(0,1),(1,1),(2,1),(3,1),(4,1)]:=.i underlying52
instance oG:bU prog 52 bl:=.i underlying52
instance Ik:dH prog 108 (default:cG):=.i
instance DB:cC prog 106 0 vf:=.i underlying106 I lu
instance:o1 prog 188 (.int .u64):=⟨underlying188⟩
def Yk:N6 prog 106 1 104 1:=⟨_,_,underlying106,rfl,rfl,rfl⟩
instance ajM:cC prog 108 0 FP:=.i underlying108 I la
instance Yg:cC prog 108 3 Cz:=.i underlying108 I ch
instance AB:cC prog 108 1 tW:=.i underlying108 I fw
instance amA:gF prog 108 #[(0,1),(1,2),(3,2),(5,1),(6,2)]:=.i underlying108
instance vy:bU prog 108 cG:=.i underlying108
instance Qr:cC prog 108 2 CL:=.i underlying108 I fw
instance ajN:cC prog 108 4 K3:=.i underlying108 I fw
instance w1:bU prog 49 (aa cG):=.i underlying49
instance AK:cC prog 52 1 we:=.i underlying52 I w1
def ap1:bH prog 59:=.i func59
instance:jQ prog 49 108 cG:=⟨underlying49,vy⟩
instance Rc:cC prog 52 2 KH:=.i underlying52 I ch
instance Mg:cC prog 52 3 F2:=.i underlying52 I ch
def ajV:N6 prog 149 2 146 2:=⟨_,_,underlying149,rfl,rfl,rfl⟩
instance H8:cC prog 52 4 CN:=.i underlying52 I Ee
def Xs:kP prog 52 [1,4]:=by unfold kP;kernel_rfl
def ap3:bH prog 31:=.i func31
instance pk:bU prog 43 (aa aH):=.i underlying43
instance Ic:cC prog 95 1 wj:=.i underlying95 I pk
instance dZ:bU prog 54 aH:=.i underlying54
instance:jQ prog 43 54 aH:=⟨underlying43,dZ⟩
instance wP:cC prog 54 0 tS:=.i underlying54 I oG
instance:bU prog 36 Ref:=.i underlying36
instance:o1 prog 36 (.pointer 93):=⟨underlying36⟩
instance:o1 prog 85 (.pointer 163):=⟨underlying85⟩
instance ZG:dH prog 164 (default:Ref):=.i
def Eg:bH prog 97:=.i func97
instance:o1 prog 164 (.pointer 197):=⟨underlying164⟩
instance kl:dH prog 54 (default:aH):=.i
instance ap2:gF prog 54 #[(0,5),(5,1),(6,1)]:=.i underlying54
instance RZ:dH prog 132 (default:Vector aN 4):=.i
instance uk:qi prog 132 4 2:=qi.of underlying132 fw I
instance yv:bU prog 132 (Vector aN 4):=.i underlying132
instance:o1 prog 198 (.pointer 231):=⟨underlying198⟩
instance:k0 aN where
 uniq {A W cs cV W' ff x} h cU:=by
  refine YA h.1 cU.1 ?_;refine HR 0 (ak.size (BitVec 64)) (k0.uniq h.2.1 cU.2.1) ?_;refine HR 1 (ak.size (BitVec 64)) (k0.uniq h.2.2 cU.2.2) ?_;exact YB h.1 cU.1 (by decide)
 plain {A W cs x} h:=by
  intro u hu n;have bC:=AE (o:=0) (s:=ak.size (BitVec 64)) (by simpa using hu);rcases bC with h1|bC
  ·exact k0.plain h.2.1 u h1 n
  have bC:=AE (s:=ak.size (BitVec 64)) bC;rcases bC with h1|bC
  ·exact k0.plain h.2.2 u h1 n
  exact QD h.1 (by rfl) bC
def ZE:mY prog 104 (BitVec 64) 1:=akc (K:=.u64) underlying104
def vu:mY prog 106 aN 2:=HB (k:=1) I underlying106 (by kernel_rfl) λd hd A W xs ys x y au aR=>by
 refine Hg (qt vf lu I (by rfl) ZE (by omega) au aR (qt ll lu I (by rfl) ZE (by omega) au aR HX)) ?_;congr 1;rw[kQ];simp only[gm,e2,Hh];cases x;cases y;simp[aP.str,vf,ll]
def alS:mY prog 312 (Vector aN 4) 3:=Yu underlying312 fw vu
def aa2:tO prog 104 (BitVec 64) 1:=PZ underlying104 I
def Sy:tO prog 106 aN 2:=W8 (k:=1) I underlying106 (.cons vf I lu (λb d A W u x h au=>aa2 b d A W u x (by omega) au) (.cons ll I lu (λb d A W u x h au=>aa2 b d A W u x (by omega) au) (.nil)))
def aoL:tO prog 312 (Vector aN 4) 3:=Zc underlying312 fw Sy
def My:q2 prog 312 (Vector aN 4):=RC underlying312 I aoL alS I I
def RR:bH prog 214:=.i func214
instance:bU prog 204 mJ:=.i underlying204
instance:dH prog 313 (default:Vector aN 4):=.i
instance ME:bU prog 313 (Vector aN 4):=.i underlying313
instance aae:dH prog 326 (default:Ref):=.i
instance:o1 prog 314 (.pointer 332):=⟨underlying314⟩
structure hW where
 hy:Int
 eQ:Ref
 deriving DecidableEq,Inhabited
instance:ak hW:=.str (dg Int (hC Ref)) (λx=>(x.hy,x.eQ)) 2
abbrev CM:aP hW Int:=.str dk 0 hW.hy λb g=>{b with hy:=g}
abbrev K4:aP hW Ref:=.str (bB hQ) 1 hW.eQ λb g=>{b with eQ:=g}
instance:a7 hW:=⟨a7.cells Int++a7.cells Ref,λA W=>⟨by rfl,a7.ok (α:=Int) A W,a7.ok (α:=Ref) A W⟩⟩
instance L3:cC prog 332 0 CM:=.i underlying332 I ch
def Rf:prog.eqGuardType prog.depth 106=false:=by kernel_rfl
instance:B6 prog 106 aN 2:=⟨vu,Rf,rfl⟩
def Z1:bH prog 238:=.i func238
instance kF:bU prog 326 Ref:=.i underlying326
instance ajQ:cC prog 332 1 K4:=.i underlying332 I kF
def ML:bH prog 235:=.i func235
instance ZU:bU prog 314 Ref:=.i underlying314
instance:o1 prog 326 (.pointer 330):=⟨underlying326⟩
instance ZJ:bU prog 328 (Vector Ref 2):=.i underlying328
structure e9 where
 dF:Vector Ref 2
 gP:Bool
 j5:Int
 deriving DecidableEq,Inhabited
instance:ak e9:=.str (dg (Vector Ref 2) (dg Bool (hC Int))) (λx=>(x.dF,x.gP,x.j5)) 4
abbrev Cr:aP e9 (Vector Ref 2):=.str dk 0 e9.dF λb g=>{b with dF:=g}
abbrev Gt:aP e9 Bool:=.str (bB dk) 2 e9.gP λb g=>{b with gP:=g}
abbrev K9:aP e9 Int:=.str (bB (bB hQ)) 3 e9.j5 λb g=>{b with j5:=g}
instance:a7 e9:=⟨a7.cells (Vector Ref 2)++a7.cells Bool++a7.cells Int,λA W=>⟨by rfl,a7.ok (α:=Vector Ref 2) A W,a7.ok (α:=Bool) A W,a7.ok (α:=Int) A W⟩⟩
instance L1:cC prog 330 0 Cr:=.i underlying330 I ZJ
instance RV:qi prog 328 2 1:=qi.of underlying328 kF I
def MM:bH prog 242:=.i func242
def Z8:bH prog 232:=.i func232
instance ajD:cC prog 330 1 Gt:=.i underlying330 I la
instance ajE:cC prog 330 2 K9:=.i underlying330 I ch
def alT:mY prog 313 (Vector aN 4) 3:=Yu underlying313 fw vu
def aoM:tO prog 313 (Vector aN 4) 3:=Zc underlying313 fw Sy
def yw:q2 prog 313 (Vector aN 4):=RC underlying313 I aoM alT I I
instance D2:dH prog 314 (default:Ref):=.i
def Z9:bH prog 223:=.i func223
instance:cC prog 235 1 CJ:=.i underlying235 I pk
def amM:bH prog 262:=.i func262
def amY:bH prog 257:=.i func257
instance:o1 prog 4 .bool:=⟨underlying4⟩
def arH:mY prog 4 Bool 1:=aiN underlying4
def Bk:mY prog 3 Int 1:=Yt (K:=.i64) underlying3
def alU:mY prog 108 cG 3:=HB (k:=2) I underlying108 (by kernel_rfl) λd hd A W xs ys x y au aR=>by
 refine Hg (qt FP la I (by rfl) arH (by omega) au aR (qt tW fw I (by rfl) vu (by omega) au aR (qt CL fw I (by rfl) vu (by omega) au aR (qt Cz ch I (by rfl) Bk (by omega) au aR (qt K3 fw I (by rfl) vu (by omega) au aR HX))))) ?_;congr 1;rw[kQ];simp only[gm,e2,Hh];cases x;cases y;simp[aP.str,FP,tW,CL,Cz,K3]
def alV:prog.eqGuardType prog.depth 108=false:=by kernel_rfl
instance:B6 prog 108 cG 3:=⟨alU,alV,rfl⟩
instance Y5:cC prog 54 1 Ku:=.i underlying54 I ch
def aoN:bH prog 210:=.i func210
def ahB:kd prog 201 "matchguard/index.find" 210:=kd.tE (by kernel_rfl) underlying201 I aoN
def aoO:bH prog 218:=.i func218
def ahC:kd prog 204 "matchguard/index.find" 218:=kd.tE (by kernel_rfl) underlying204 I aoO
def aoP:bH prog 253:=.i func253
def ahD:kd prog 208 "matchguard/index.find" 253:=kd.tE (by kernel_rfl) underlying208 I aoP
def aag:bH prog 127:=.i func127
def SN:bH prog 98:=.i func98
def apT:bH prog 99:=.i func99
def anq:bH prog 100:=.i func100
instance ak6:cC prog 54 2 OL:=.i underlying54 I ch
def amk:bH prog 216:=.i func216
instance amf:dH prog 332 (default:hW):=.i
instance ame:gF prog 332 #[(0,1),(1,1)]:=.i underlying332
def am4:bH prog 228:=.i func228
instance aac:dH prog 330 (default:e9):=.i
instance aab:gF prog 330 #[(0,2),(2,1),(3,1)]:=.i underlying330
def am3:bH prog 229:=.i func229
def ZS:bH prog 273:=.i func273
def ZT:bH prog 272:=.i func272
def ZW:bH prog 265:=.i func265
def amE:bH prog 283:=.i func283
def amD:bH prog 282:=.i func282
def am7:bH prog 266:=.i func266
def am8:bH prog 267:=.i func267
def am9:bH prog 268:=.i func268
def ang:bH prog 260:=.i func260
def aoQ:bH prog 212:=.i func212
def ahE:kd prog 201 "matchguard/index.put" 212:=kd.tE (by kernel_rfl) underlying201 I aoQ
def aoR:bH prog 220:=.i func220
def ahF:kd prog 204 "matchguard/index.put" 220:=kd.tE (by kernel_rfl) underlying204 I aoR
def aoS:bH prog 255:=.i func255
def ahG:kd prog 208 "matchguard/index.put" 255:=kd.tE (by kernel_rfl) underlying208 I aoS
def Sh:bH prog 101:=.i func101
def abQ:bH prog 62:=.i func62
def SO:bH prog 63:=.i func63
instance:o1 prog 89 (.pointer 171):=⟨underlying89⟩
def ZM:bH prog 102:=.i func102
instance aoT:bU prog 169 (Vector Int 6):=.i underlying169
instance DC:cC prog 171 1 zF:=.i underlying171 I aoT
instance DY:qi prog 169 6 1:=qi.of underlying169 ch I
def abO:bH prog 64:=.i func64
def amn:bH prog 217:=.i func217
instance:jQ prog 336 326 Ref:=⟨underlying336,kF⟩
instance ana:dH prog 336 (default:aa Ref):=.i
instance apy:dH prog 56 (default:aa Int):=.i
instance yx:bU prog 336 (aa Ref):=.i underlying336
def ajR:kP prog 336 [0]:=by unfold kP;kernel_rfl
def ak0:kP prog 56 [0]:=by unfold kP;kernel_rfl
instance al7:dH prog 328 (default:Vector Ref 2):=.i
def akL:prog.eqGuardType prog.depth 328=false:=by kernel_rfl
def aaf:bH prog 239:=.i func239
def anh:bH prog 230:=.i func230
structure fC where
 cc:aN
 Av:Int
 b6:Int
 deriving DecidableEq,Inhabited
instance:ak fC:=.str (dg aN (dg Int (hC Int))) (λx=>(x.cc,x.Av,x.b6)) 4
abbrev aek:aP fC aN:=.str dk 0 fC.cc λb g=>{b with cc:=g}
abbrev aee:aP fC Int:=.str (bB dk) 2 fC.Av λb g=>{b with Av:=g}
abbrev afc:aP fC Int:=.str (bB (bB hQ)) 3 fC.b6 λb g=>{b with b6:=g}
instance:a7 fC:=⟨a7.cells aN++a7.cells Int++a7.cells Int,λA W=>⟨by rfl,a7.ok (α:=aN) A W,a7.ok (α:=Int) A W,a7.ok (α:=Int) A W⟩⟩
instance amF:dH prog 337 (default:aa fC):=.i
instance RO:bU prog 337 (aa fC):=.i underlying337
instance RP:dH prog 342 (default:fC):=.i
instance al9:gF prog 342 #[(0,2),(2,1),(3,1)]:=.i underlying342
instance RQ:bU prog 342 fC:=.i underlying342
instance:jQ prog 337 342 fC:=⟨underlying337,RQ⟩
def aml:bH prog 246:=.i func246
def RW:bH prog 248:=.i func248
def ajL:kP prog 337 [0]:=by unfold kP;kernel_rfl
def amG:bH prog 245:=.i func245
def amN:bH prog 240:=.i func240
def ani:bH prog 231:=.i func231
def amq:bH prog 269:=.i func269
def amH:bH prog 261:=.i func261
def aoU:bH prog 213:=.i func213
def ahH:kd prog 201 "matchguard/index.remove" 213:=kd.tE (by kernel_rfl) underlying201 I aoU
def aoV:bH prog 221:=.i func221
def ahI:kd prog 204 "matchguard/index.remove" 221:=kd.tE (by kernel_rfl) underlying204 I aoV
def aoW:bH prog 256:=.i func256
def ahJ:kd prog 208 "matchguard/index.remove" 256:=kd.tE (by kernel_rfl) underlying208 I aoW
def anr:bH prog 103:=.i func103
def IK:bH prog 65:=.i func65
def abN:bH prog 66:=.i func66
instance:o1 prog 87 (.pointer 168):=⟨underlying87⟩
instance:cC prog 81 5 afM:=.i underlying81 I ch
instance Im:dH prog 124 (default:cx):=.i
instance Yq:cC prog 124 0 Cx:=.i underlying124 I ch
instance Yr:cC prog 124 1 CG:=.i underlying124 I ch
instance Ys:cC prog 124 2 Cy:=.i underlying124 I fw
instance:gF prog 124 #[(0,1),(1,1),(2,2)]:=.i underlying124
instance wU:bU prog 124 cx:=.i underlying124
instance:jQ prog 115 124 cx:=⟨underlying115,wU⟩
instance:cC prog 81 3 afL:=.i underlying81 I ch
instance:k0 cx where
 uniq {A W cs cV W' ff x} h cU:=by
  refine YA h.1 cU.1 ?_;refine HR 0 (ak.size Int) (k0.uniq h.2.1 cU.2.1) ?_;refine HR 1 (ak.size Int) (k0.uniq h.2.2.1 cU.2.2.1) ?_;refine HR 2 (ak.size aN) (k0.uniq h.2.2.2 cU.2.2.2) ?_;exact YB h.1 cU.1 (by decide)
 plain {A W cs x} h:=by
  intro u hu n;have bC:=AE (o:=0) (s:=ak.size Int) (by simpa using hu);rcases bC with h1|bC
  ·exact k0.plain h.2.1 u h1 n
  have bC:=AE (s:=ak.size Int) bC;rcases bC with h1|bC
  ·exact k0.plain h.2.2.1 u h1 n
  have bC:=AE (s:=ak.size aN) bC;rcases bC with h1|bC
  ·exact k0.plain h.2.2.2 u h1 n
  exact QD h.1 (by rfl) bC
def ZF:mY prog 124 cx 3:=HB (k:=2) I underlying124 (by kernel_rfl) λd hd A W xs ys x y au aR=>by
 refine Hg (qt Cx ch I (by rfl) Bk (by omega) au aR (qt CG ch I (by rfl) Bk (by omega) au aR (qt Cy fw I (by rfl) vu (by omega) au aR HX))) ?_;congr 1;rw[kQ];simp only[gm,e2,Hh];cases x;cases y;simp[aP.str,Cx,CG,Cy]
def adr:tO prog 3 Int 1:=PZ underlying3 I
def aoX:tO prog 124 cx 3:=W8 (k:=2) I underlying124 (.cons Cx I ch (λb d A W u x h au=>adr b d A W u x (by omega) au) (.cons CG I ch (λb d A W u x h au=>adr b d A W u x (by omega) au) (.cons Cy I fw (λb d A W u x h au=>Sy b d A W u x (by omega) au) (.nil))))
def RY:q2 prog 124 cx:=RC underlying124 I aoX ZF I I
instance amo:dH prog 217 (default:k2):=.i
instance:bU prog 217 k2:=.i underlying217
instance Yl:cC prog 217 0 FO:=.i underlying217 I ch
instance Ym:cC prog 217 1 Fx:=.i underlying217 I ch
instance:gF prog 217 #[(0,1),(1,1)]:=.i underlying217
def alW:mY prog 217 k2 2:=HB (k:=1) I underlying217 (by kernel_rfl) λd hd A W xs ys x y au aR=>by
 refine Hg (qt FO ch I (by rfl) Bk (by omega) au aR (qt Fx ch I (by rfl) Bk (by omega) au aR HX)) ?_;congr 1;rw[kQ];simp only[gm,e2,Hh];cases x;cases y;simp[aP.str,FO,Fx]
def alX:prog.eqGuardType prog.depth 217=false:=by kernel_rfl
instance:B6 prog 217 k2 2:=⟨alW,alX,rfl⟩
def Z0:bH prog 130:=.i func130
def alY:prog.eqGuardType prog.depth 124=false:=by kernel_rfl
instance:B6 prog 124 cx 3:=⟨ZF,alY,rfl⟩
def amr:bH prog 148:=.i func148
def Z2:bH prog 104:=.i func104
def SR:bH prog 67:=.i func67
instance yB:bU prog 91 (aa gn):=.i underlying91
instance:cC prog 93 3 Ks:=.i underlying93 I yB
instance amp:dH prog 110 (default:gn):=.i
instance acF:bU prog 1 ny:=.i underlying1
instance ajY:cC prog 110 0 Vj:=.i underlying110 I acF
instance:gF prog 110 #[(0,1)]:=.i underlying110
instance MH:bU prog 110 gn:=.i underlying110
instance:jQ prog 91 110 gn:=⟨underlying91,MH⟩
def SQ:bH prog 68:=.i func68
def apz:bH prog 16:=.i func16
instance ZK:dH prog 213 (default:Vector (aa Int) 6):=.i
instance tf:qi prog 213 6 1:=qi.of underlying213 lL I
def afO:kP prog 213 [0,1,2,3,4,5]:=by unfold kP;kernel_rfl
instance:bU prog 213 (Vector (aa Int) 6):=.i underlying213
def II:bH prog 76:=.i func76
instance DZ:dH prog 271 (default:Vector Bool 128):=.i
instance yu:qi prog 271 128 1:=qi.of underlying271 la I
instance AW:bU prog 271 (Vector Bool 128):=.i underlying271
def Z5:bH prog 150:=.i func150
def SL:bH prog 77:=.i func77
def SM:bH prog 44:=.i func44
def anb:bH prog 110:=.i func110
def abC:bH prog 79:=.i func79
def apA:bH prog 72:=.i func72
def abE:bH prog 50:=.i func50
instance:bU prog 95 cW:=.i underlying95
def SU:bH prog 32:=.i func32
def ap6:bH prog 33:=.i func33
def aau:bH prog 107:=.i func107
def SP:bH prog 70:=.i func70
def abR:bH prog 74:=.i func74
def ap7:bH prog 34:=.i func34
def abD:bH prog 78:=.i func78
def ap8:bH prog 35:=.i func35
def abM:bH prog 71:=.i func71
def ap9:bH prog 36:=.i func36
def aqa:bH prog 37:=.i func37
def aqi:bH prog 12:=.i func12
def IC:bH prog 38:=.i func38
def amL:bH prog 116:=.i func116
def amJ:bH prog 154:=.i func154
def amI:bH prog 153:=.i func153
def amK:bH prog 155:=.i func155
def amT:bH prog 135:=.i func135
def amU:bH prog 136:=.i func136
def anc:bH prog 111:=.i func111
def abF:bH prog 82:=.i func82
def apB:bH prog 39:=.i func39
def abP:bH prog 56:=.i func56
def ao2:bH prog 83:=.i func83
def IJ:bH prog 13:=.i func13
def Ei:bH prog 41:=.i func41
def apC:bH prog 43:=.i func43
structure hU where
 cX:cx
 iE:Int
 iv:Int
 deriving DecidableEq,Inhabited
instance:ak hU:=.str (dg cx (dg Int (hC Int))) (λx=>(x.cX,x.iE,x.iv)) 6
abbrev KO:aP hU cx:=.str dk 0 hU.cX λb g=>{b with cX:=g}
abbrev VD:aP hU Int:=.str (bB dk) 4 hU.iE λb g=>{b with iE:=g}
abbrev Vi:aP hU Int:=.str (bB (bB hQ)) 5 hU.iv λb g=>{b with iv:=g}
instance:a7 hU:=⟨a7.cells cx++a7.cells Int++a7.cells Int,λA W=>⟨by rfl,a7.ok (α:=cx) A W,a7.ok (α:=Int) A W,a7.ok (α:=Int) A W⟩⟩
instance Z4:dH prog 126 (default:hU):=.i
instance Qz:cC prog 126 0 KO:=.i underlying126 I wU
instance ajT:cC prog 126 1 VD:=.i underlying126 I ch
instance ajU:cC prog 126 2 Vi:=.i underlying126 I ch
instance:gF prog 126 #[(0,4),(4,1),(5,1)]:=.i underlying126
instance Io:bU prog 126 hU:=.i underlying126
instance:jQ prog 113 126 hU:=⟨underlying113,Io⟩
def amO:bH prog 112:=.i func112
def amP:bH prog 113:=.i func113
def abv:bH prog 84:=.i func84
def apD:bH prog 45:=.i func45
def apt:bH prog 85:=.i func85
def apE:bH prog 46:=.i func46
structure jD where
 pb:Int
 wG:Int
 deriving DecidableEq,Inhabited
instance:ak jD:=.str (dg Int (hC Int)) (λx=>(x.pb,x.wG)) 2
abbrev O9:aP jD Int:=.str dk 0 jD.pb λb g=>{b with pb:=g}
abbrev VI:aP jD Int:=.str (bB hQ) 1 jD.wG λb g=>{b with wG:=g}
instance:a7 jD:=⟨a7.cells Int++a7.cells Int,λA W=>⟨by rfl,a7.ok (α:=Int) A W,a7.ok (α:=Int) A W⟩⟩
instance abc:dH prog 48 (default:jD):=.i
instance Y6:cC prog 48 0 O9:=.i underlying48 I ch
instance ak2:cC prog 48 1 VI:=.i underlying48 I ch
instance:gF prog 48 #[(0,1),(1,1)]:=.i underlying48
instance IB:bU prog 48 jD:=.i underlying48
instance:jQ prog 45 48 jD:=⟨underlying45,IB⟩
def ao3:bH prog 40:=.i func40
def apF:bH prog 14:=.i func14
structure e3 where
 bG:Int
 fx:Int
 cc:aN
 deriving DecidableEq,Inhabited
instance:ak e3:=.str (dg Int (dg Int (hC aN))) (λx=>(x.bG,x.fx,x.cc)) 4
abbrev FJ:aP e3 Int:=.str dk 0 e3.bG λb g=>{b with bG:=g}
abbrev F6:aP e3 Int:=.str (bB dk) 1 e3.fx λb g=>{b with fx:=g}
abbrev FK:aP e3 aN:=.str (bB (bB hQ)) 2 e3.cc λb g=>{b with cc:=g}
instance:a7 e3:=⟨a7.cells Int++a7.cells Int++a7.cells aN,λA W=>⟨by rfl,a7.ok (α:=Int) A W,a7.ok (α:=Int) A W,a7.ok (α:=aN) A W⟩⟩
structure eY where
 cX:e3
 iE:Int
 iv:Int
 deriving DecidableEq,Inhabited
instance:ak eY:=.str (dg e3 (dg Int (hC Int))) (λx=>(x.cX,x.iE,x.iv)) 6
abbrev FF:aP eY e3:=.str dk 0 eY.cX λb g=>{b with cX:=g}
abbrev FG:aP eY Int:=.str (bB dk) 4 eY.iE λb g=>{b with iE:=g}
abbrev Ft:aP eY Int:=.str (bB (bB hQ)) 5 eY.iv λb g=>{b with iv:=g}
instance:a7 eY:=⟨a7.cells e3++a7.cells Int++a7.cells Int,λA W=>⟨by rfl,a7.ok (α:=e3) A W,a7.ok (α:=Int) A W,a7.ok (α:=Int) A W⟩⟩
instance:jQ prog 121 52 bl:=⟨underlying121,oG⟩
instance DX:dH prog 127 (default:e3):=.i
instance:cC prog 127 0 FJ:=.i underlying127 I ch
instance:cC prog 127 1 F6:=.i underlying127 I ch
instance:cC prog 127 2 FK:=.i underlying127 I fw
instance aai:gF prog 127 #[(0,1),(1,1),(2,2)]:=.i underlying127
instance pW:bU prog 127 e3:=.i underlying127
instance:jQ prog 119 127 e3:=⟨underlying119,pW⟩
instance pf:bU prog 129 eY:=.i underlying129
instance:jQ prog 117 129 eY:=⟨underlying117,pf⟩
instance Qv:cC prog 129 0 FF:=.i underlying129 I pW
def amQ:bH prog 141:=.i func141
def Mi:mY prog 127 e3 3:=HB (k:=2) I underlying127 (by kernel_rfl) λd hd A W xs ys x y au aR=>by
 refine Hg (qt FJ ch I (by rfl) Bk (by omega) au aR (qt F6 ch I (by rfl) Bk (by omega) au aR (qt FK fw I (by rfl) vu (by omega) au aR HX))) ?_;congr 1;rw[kQ];simp only[gm,e2,Hh];cases x;cases y;simp[aP.str,FJ,F6,FK]
def Mj:prog.eqGuardType prog.depth 127=false:=by kernel_rfl
instance:B6 prog 127 e3 3:=⟨Mi,Mj,rfl⟩
instance Qw:cC prog 129 1 FG:=.i underlying129 I ch
instance Qx:cC prog 129 2 Ft:=.i underlying129 I ch
instance D1:dH prog 129 (default:eY):=.i
instance amR:gF prog 129 #[(0,4),(4,1),(5,1)]:=.i underlying129
def Z7:bH prog 118:=.i func118
def abx:bH prog 49:=.i func49
def apG:bH prog 47:=.i func47
def aqj:bH prog 20:=.i func20
def SV:bH prog 21:=.i func21
def apW:bH prog 52:=.i func52
theorem apr:dH prog 1 (default:Raw):=.i
instance aps:bU prog 1 Raw:=.i underlying1
def Z6:bH prog 234:=.i func234
def amS:bH prog 225:=.i func225
def ane:bH prog 264:=.i func264
def amV:bH prog 279:=.i func279
def amW:bH prog 278:=.i func278
def anf:bH prog 270:=.i func270
def anj:bH prog 259:=.i func259
def aoY:bH prog 211:=.i func211
def ahK:kd prog 201 "matchguard/index.lookup" 211:=kd.tE (by kernel_rfl) underlying201 I aoY
def aoZ:bH prog 219:=.i func219
def ahL:kd prog 204 "matchguard/index.lookup" 219:=kd.tE (by kernel_rfl) underlying204 I aoZ
def ao0:bH prog 254:=.i func254
def ahM:kd prog 208 "matchguard/index.lookup" 254:=kd.tE (by kernel_rfl) underlying208 I ao0
def ans:bH prog 120:=.i func120
def apU:bH prog 87:=.i func87
def apX:bH prog 53:=.i func53
def amX:bH prog 142:=.i func142
def am0:bH prog 122:=.i func122
def apY:bH prog 54:=.i func54
def apZ:bH prog 55:=.i func55
def aqk:bH prog 22:=.i func22
def apV:bH prog 81:=.i func81
def aqb:bH prog 69:=.i func69
def aqc:bH prog 75:=.i func75
def aqd:bH prog 80:=.i func80
def aqe:bH prog 18:=.i func18
def aql:bH prog 15:=.i func15
inductive Cell where
 |oN (x:gy) (key:Option Nat) (cap:Nat)
 |tq (x:List (Int×Ref))
 |rF (x:lG)
 |tl (x:List (cx×k2))
 |A8 (x:ri)
 |tm (x:jS)
 |mn (x:List (Int×aH))
 |qH (x:kA)
 |oH (x:List ((Vector aN 4)×Ref))
 |rC (x:List ((Vector aN 4)×Int))
 |Ea (x:sZ)
 |vE (x:eh) (key:Option Nat) (cap:Nat)
 |h2 (x:e9)
 |lM (x:hW)
instance:ew Cell where
 gU p k:=match k with
  | .oN x key cap=>[⟨some p,.cu ({x with hX:=[]}:gy) [(3,aQ key x.hX.length cap)]⟩,⟨key,.row 110 (x.hX:aa gn) cap⟩]
  | .tq x=>[⟨some p,.map x⟩]
  | .rF x=>[⟨some p,.var x⟩]
  | .tl x=>[⟨some p,.map x⟩]
  | .A8 x=>[⟨some p,.var x⟩]
  | .tm x=>[⟨some p,.var x⟩]
  | .mn x=>[⟨some p,.map x⟩]
  | .qH x=>[⟨some p,.var x⟩]
  | .oH x=>[⟨some p,.map x⟩]
  | .rC x=>[⟨some p,.map x⟩]
  | .Ea x=>[⟨some p,.var x⟩]
  | .vE x key cap=>[⟨some p,.cu ({x with cz:=[]}:eh) [(10,aQ key x.cz.length cap)]⟩,⟨key,.row 54 (x.cz:aa aH) cap⟩]
  | .h2 x=>[⟨some p,.var x⟩]
  | .lM x=>[⟨some p,.var x⟩]
 root p k:=by cases k <;> exact⟨_,jC ..,rfl⟩
def hM(hp:aL Cell)(p:Nat):aE (gy×aE Nat×Nat):=match pat hp p with
 |some (.oN x key cap)=>some (x,key,cap)
 |_=>none
def rv{hp:aL Cell}{p:Nat}{x:gy×aE Nat×Nat}(h:hM hp p=some x):pat hp p=some (.oN x.1 x.2.1 x.2.2):=by
 unfold hM at h;split at h
 ·rename_i ad;cases h;exact ad
 cases h
instance:adI gy hM (λx=>{x.1 with hX:=[]}) (λx=>[(3,aQ x.2.1 x.1.hX.length x.2.2)]):=⟨λh=>⟨_,_,rv h,rfl⟩⟩
def mS(hp:aL Cell)(p:Nat):aE (aa (Int×Ref)):=match pat hp p with
 |some (.tq x)=>some x
 |_=>none
def yg{hp:aL Cell}{p:Nat}{x:aa (Int×Ref)}(h:mS hp p=some x):pat hp p=some (.tq x):=by
 unfold mS at h;split at h
 ·rename_i ad;cases h;exact ad
 cases h
def jU(hp:aL Cell)(p:Nat):aE lG:=match pat hp p with
 |some (.rF x)=>some x
 |_=>none
def wN{hp:aL Cell}{p:Nat}{x:lG}(h:jU hp p=some x):pat hp p=some (.rF x):=by
 unfold jU at h;split at h
 ·rename_i ad;cases h;exact ad
 cases h
instance:zp lG jU:=⟨λh=>⟨_,wN h,rfl⟩⟩
def qE(hp:aL Cell)(p:Nat):aE (aa (cx×k2)):=match pat hp p with
 |some (.tl x)=>some x
 |_=>none
def vr{hp:aL Cell}{p:Nat}{x:aa (cx×k2)}(h:qE hp p=some x):pat hp p=some (.tl x):=by
 unfold qE at h;split at h
 ·rename_i ad;cases h;exact ad
 cases h
def qD(hp:aL Cell)(p:Nat):aE ri:=match pat hp p with
 |some (.A8 x)=>some x
 |_=>none
def RL{hp:aL Cell}{p:Nat}{x:ri}(h:qD hp p=some x):pat hp p=some (.A8 x):=by
 unfold qD at h;split at h
 ·rename_i ad;cases h;exact ad
 cases h
instance:zp ri qD:=⟨λh=>⟨_,RL h,rfl⟩⟩
def oE(hp:aL Cell)(p:Nat):aE jS:=match pat hp p with
 |some (.tm x)=>some x
 |_=>none
def vp{hp:aL Cell}{p:Nat}{x:jS}(h:oE hp p=some x):pat hp p=some (.tm x):=by
 unfold oE at h;split at h
 ·rename_i ad;cases h;exact ad
 cases h
instance:zp jS oE:=⟨λh=>⟨_,vp h,rfl⟩⟩
def mT(hp:aL Cell)(p:Nat):aE (aa (Int×aH)):=match pat hp p with
 |some (.mn x)=>some x
 |_=>none
def uh{hp:aL Cell}{p:Nat}{x:aa (Int×aH)}(h:mT hp p=some x):pat hp p=some (.mn x):=by
 unfold mT at h;split at h
 ·rename_i ad;cases h;exact ad
 cases h
def jb(hp:aL Cell)(p:Nat):aE kA:=match pat hp p with
 |some (.qH x)=>some x
 |_=>none
def AJ{hp:aL Cell}{p:Nat}{x:kA}(h:jb hp p=some x):pat hp p=some (.qH x):=by
 unfold jb at h;split at h
 ·rename_i ad;cases h;exact ad
 cases h
instance:zp kA jb:=⟨λh=>⟨_,AJ h,rfl⟩⟩
def lK(hp:aL Cell)(p:Nat):aE (aa ((Vector aN 4)×Ref)):=match pat hp p with
 |some (.oH x)=>some x
 |_=>none
def pa{hp:aL Cell}{p:Nat}{x:aa ((Vector aN 4)×Ref)}(h:lK hp p=some x):pat hp p=some (.oH x):=by
 unfold lK at h;split at h
 ·rename_i ad;cases h;exact ad
 cases h
def nu(hp:aL Cell)(p:Nat):aE (aa ((Vector aN 4)×Int)):=match pat hp p with
 |some (.rC x)=>some x
 |_=>none
def vo{hp:aL Cell}{p:Nat}{x:aa ((Vector aN 4)×Int)}(h:nu hp p=some x):pat hp p=some (.rC x):=by
 unfold nu at h;split at h
 ·rename_i ad;cases h;exact ad
 cases h
def nY(hp:aL Cell)(p:Nat):aE sZ:=match pat hp p with
 |some (.Ea x)=>some x
 |_=>none
def Ii{hp:aL Cell}{p:Nat}{x:sZ}(h:nY hp p=some x):pat hp p=some (.Ea x):=by
 unfold nY at h;split at h
 ·rename_i ad;cases h;exact ad
 cases h
instance:zp sZ nY:=⟨λh=>⟨_,Ii h,rfl⟩⟩
def ry(hp:aL Cell)(p:Nat):aE (eh×aE Nat×Nat):=match pat hp p with
 |some (.vE x key cap)=>some (x,key,cap)
 |_=>none
def yj{hp:aL Cell}{p:Nat}{x:eh×aE Nat×Nat}(h:ry hp p=some x):pat hp p=some (.vE x.1 x.2.1 x.2.2):=by
 unfold ry at h;split at h
 ·rename_i ad;cases h;exact ad
 cases h
def cS(hp:aL Cell)(p:Nat):aE e9:=match pat hp p with
 |some (.h2 x)=>some x
 |_=>none
def sb{hp:aL Cell}{p:Nat}{x:e9}(h:cS hp p=some x):pat hp p=some (.h2 x):=by
 unfold cS at h;split at h
 ·rename_i ad;cases h;exact ad
 cases h
instance:zp e9 cS:=⟨λh=>⟨_,sb h,rfl⟩⟩
def gD(hp:aL Cell)(p:Nat):aE hW:=match pat hp p with
 |some (.lM x)=>some x
 |_=>none
def wM{hp:aL Cell}{p:Nat}{x:hW}(h:gD hp p=some x):pat hp p=some (.lM x):=by
 unfold gD at h;split at h
 ·rename_i ad;cases h;exact ad
 cases h
instance:zp hW gD:=⟨λh=>⟨_,wM h,rfl⟩⟩
end Go.Proofs.YtppgfphgdogpeaaGreat
