/-
  The types of the data, and facts on their tables. Conditions: none.
-/
import Derived.Test.YtppgfphgdogpeaaGreatRows
import Derived.Test.YtppgfphgdogpeaaGreatUl1
import Derived.Test.YtppgfphgdogpeaaGreatUl2
set_option linter.defProp false
set_option linter.unusedVariables false
set_option linter.unusedSimpArgs false
set_option maxRecDepth 100000
namespace Go.Proofs.YtppgfphgdogpeaaGreat
open Go Gv Go.Proofs.Tryz
structure dx where
 cz:List (BitVec 8)
 w5:Int
 deriving DecidableEq,Inhabited
instance:ak dx:=.str (de (aa (BitVec 8)) (hD Int)) (λx=>(x.cz,x.w5)) 2
abbrev agm:aQ dx (aa (BitVec 8)):=.str dj 0 dx.cz λb g=>{b with cz:=g}
abbrev af2:aQ dx Int:=.str (bB hT) 1 dx.w5 λb g=>{b with w5:=g}
instance:a8 dx:=⟨a8.cells (aa (BitVec 8))++a8.cells Int,λA W=>⟨by rfl,a8.ok (α:=aa (BitVec 8)) A W,a8.ok (α:=Int) A W⟩⟩
instance acP:bS prog 5 (BitVec 8):=.i underlying5
instance:jN prog 22 5 (BitVec 8):=⟨underlying22,acP⟩
instance:dE prog 69 (default:dx):=.i
instance asb:bS prog 22 (aa (BitVec 8)):=.i underlying22
instance:cD prog 69 0 agm:=.i underlying69 I asb
instance:gF prog 69 #[(0,1),(1,1)]:=.i underlying69
def TG:bJ prog 7:=.i func7
structure jm where
 cb:Int
 dt:ByteArray
 jG:Int
 deriving DecidableEq,Inhabited
instance:ak jm:=.str (de Int (de ByteArray (hD Int))) (λx=>(x.cb,x.dt,x.jG)) 3
abbrev agA:aQ jm Int:=.str dj 0 jm.cb λb g=>{b with cb:=g}
abbrev af3:aQ jm ByteArray:=.str (bB dj) 1 jm.dt λb g=>{b with dt:=g}
abbrev af4:aQ jm Int:=.str (bB (bB hT)) 2 jm.jG λb g=>{b with jG:=g}
instance:a8 jm:=⟨a8.cells Int++a8.cells ByteArray++a8.cells Int,λA W=>⟨by rfl,a8.ok (α:=Int) A W,a8.ok (α:=ByteArray) A W,a8.ok (α:=Int) A W⟩⟩
structure mN where
 cb:Int
 dt:ByteArray
 gW:List Int
 deriving DecidableEq,Inhabited
instance:ak mN:=.str (de Int (de ByteArray (hD (aa Int)))) (λx=>(x.cb,x.dt,x.gW)) 3
abbrev agn:aQ mN Int:=.str dj 0 mN.cb λb g=>{b with cb:=g}
abbrev afF:aQ mN ByteArray:=.str (bB dj) 1 mN.dt λb g=>{b with dt:=g}
abbrev ae7:aQ mN (aa Int):=.str (bB (bB hT)) 2 mN.gW λb g=>{b with gW:=g}
instance:a8 mN:=⟨a8.cells Int++a8.cells ByteArray++a8.cells (aa Int),λA W=>⟨by rfl,a8.ok (α:=Int) A W,a8.ok (α:=ByteArray) A W,a8.ok (α:=aa Int) A W⟩⟩
structure aN where
 dZ:BitVec 64
 cI:BitVec 64
 deriving DecidableEq,Inhabited
instance:ak aN:=.str (de (BitVec 64) (hD (BitVec 64))) (λx=>(x.dZ,x.cI)) 2
abbrev vm:aQ aN (BitVec 64):=.str dj 0 aN.dZ λb g=>{b with dZ:=g}
abbrev lk:aQ aN (BitVec 64):=.str (bB hT) 1 aN.cI λb g=>{b with cI:=g}
instance:a8 aN:=⟨a8.cells (BitVec 64)++a8.cells (BitVec 64),λA W=>⟨by rfl,a8.ok (α:=BitVec 64) A W,a8.ok (α:=BitVec 64) A W⟩⟩
structure jD where
 b6:aN
 hz:aN
 wO:Int
 deriving DecidableEq,Inhabited
instance:ak jD:=.str (de aN (de aN (hD Int))) (λx=>(x.b6,x.hz,x.wO)) 5
abbrev Pj:aQ jD aN:=.str dj 0 jD.b6 λb g=>{b with b6:=g}
abbrev Pq:aQ jD aN:=.str (bB dj) 2 jD.hz λb g=>{b with hz:=g}
abbrev Pr:aQ jD Int:=.str (bB (bB hT)) 4 jD.wO λb g=>{b with wO:=g}
instance:a8 jD:=⟨a8.cells aN++a8.cells aN++a8.cells Int,λA W=>⟨by rfl,a8.ok (α:=aN) A W,a8.ok (α:=aN) A W,a8.ok (α:=Int) A W⟩⟩
structure fw where
 cb:Int
 k1:Int
 s5:Int
 uj:List jD
 jR:Int
 deriving DecidableEq,Inhabited
instance:ak fw:=.str (de Int (de Int (de Int (de (aa jD) (hD Int))))) (λx=>(x.cb,x.k1,x.s5,x.uj,x.jR)) 5
abbrev Wp:aQ fw Int:=.str dj 0 fw.cb λb g=>{b with cb:=g}
abbrev V2:aQ fw Int:=.str (bB dj) 1 fw.k1 λb g=>{b with k1:=g}
abbrev V3:aQ fw Int:=.str (bB (bB dj)) 2 fw.s5 λb g=>{b with s5:=g}
abbrev K1:aQ fw (aa jD):=.str (bB (bB (bB dj))) 3 fw.uj λb g=>{b with uj:=g}
abbrev VV:aQ fw Int:=.str (bB (bB (bB (bB hT)))) 4 fw.jR λb g=>{b with jR:=g}
instance:a8 fw:=⟨a8.cells Int++a8.cells Int++a8.cells Int++a8.cells (aa jD)++a8.cells Int,λA W=>⟨by rfl,a8.ok (α:=Int) A W,a8.ok (α:=Int) A W,a8.ok (α:=Int) A W,a8.ok (α:=aa jD) A W,a8.ok (α:=Int) A W⟩⟩
structure nn where
 dt:ByteArray
 jG:Int
 deriving DecidableEq,Inhabited
instance:ak nn:=.str (de ByteArray (hD Int)) (λx=>(x.dt,x.jG)) 2
abbrev af5:aQ nn ByteArray:=.str dj 0 nn.dt λb g=>{b with dt:=g}
abbrev Wk:aQ nn Int:=.str (bB hT) 1 nn.jG λb g=>{b with jG:=g}
instance:a8 nn:=⟨a8.cells ByteArray++a8.cells Int,λA W=>⟨by rfl,a8.ok (α:=ByteArray) A W,a8.ok (α:=Int) A W⟩⟩
structure kf where
 dQ:Int
 h6:Int
 b6:aN
 deriving DecidableEq,Inhabited
instance:ak kf:=.str (de Int (de Int (hD aN))) (λx=>(x.dQ,x.h6,x.b6)) 4
abbrev afo:aQ kf Int:=.str dj 0 kf.dQ λb g=>{b with dQ:=g}
abbrev ago:aQ kf Int:=.str (bB dj) 1 kf.h6 λb g=>{b with h6:=g}
abbrev ae8:aQ kf aN:=.str (bB (bB hT)) 2 kf.b6 λb g=>{b with b6:=g}
instance:a8 kf:=⟨a8.cells Int++a8.cells Int++a8.cells aN,λA W=>⟨by rfl,a8.ok (α:=Int) A W,a8.ok (α:=Int) A W,a8.ok (α:=aN) A W⟩⟩
structure j1 where
 tx:Int
 vG:Int
 wZ:kf
 deriving DecidableEq,Inhabited
instance:ak j1:=.str (de Int (de Int (hD kf))) (λx=>(x.tx,x.vG,x.wZ)) 6
abbrev agF:aQ j1 Int:=.str dj 0 j1.tx λb g=>{b with tx:=g}
abbrev agB:aQ j1 Int:=.str (bB dj) 1 j1.vG λb g=>{b with vG:=g}
abbrev agC:aQ j1 kf:=.str (bB (bB hT)) 2 j1.wZ λb g=>{b with wZ:=g}
instance:a8 j1:=⟨a8.cells Int++a8.cells Int++a8.cells kf,λA W=>⟨by rfl,a8.ok (α:=Int) A W,a8.ok (α:=Int) A W,a8.ok (α:=kf) A W⟩⟩
structure fV where
 cb:Int
 dt:ByteArray
 mO:List nn
 yr:List j1
 vp:ByteArray
 deriving DecidableEq,Inhabited
instance:ak fV:=.str (de Int (de ByteArray (de (aa nn) (de (aa j1) (hD ByteArray))))) (λx=>(x.cb,x.dt,x.mO,x.yr,x.vp)) 5
abbrev agp:aQ fV Int:=.str dj 0 fV.cb λb g=>{b with cb:=g}
abbrev afG:aQ fV ByteArray:=.str (bB dj) 1 fV.dt λb g=>{b with dt:=g}
abbrev V0:aQ fV (aa nn):=.str (bB (bB dj)) 2 fV.mO λb g=>{b with mO:=g}
abbrev afH:aQ fV (aa j1):=.str (bB (bB (bB dj))) 3 fV.yr λb g=>{b with yr:=g}
abbrev Oy:aQ fV ByteArray:=.str (bB (bB (bB (bB hT)))) 4 fV.vp λb g=>{b with vp:=g}
instance:a8 fV:=⟨a8.cells Int++a8.cells ByteArray++a8.cells (aa nn)++a8.cells (aa j1)++a8.cells ByteArray,λA W=>⟨by rfl,a8.ok (α:=Int) A W,a8.ok (α:=ByteArray) A W,a8.ok (α:=aa nn) A W,a8.ok (α:=aa j1) A W,a8.ok (α:=ByteArray) A W⟩⟩
structure dC where
 dt:ByteArray
 jq:Int
 dQ:Int
 deriving DecidableEq,Inhabited
instance:ak dC:=.str (de ByteArray (de Int (hD Int))) (λx=>(x.dt,x.jq,x.dQ)) 3
abbrev G1:aQ dC ByteArray:=.str dj 0 dC.dt λb g=>{b with dt:=g}
abbrev GX:aQ dC Int:=.str (bB dj) 1 dC.jq λb g=>{b with jq:=g}
abbrev wv:aQ dC Int:=.str (bB (bB hT)) 2 dC.dQ λb g=>{b with dQ:=g}
instance:a8 dC:=⟨a8.cells ByteArray++a8.cells Int++a8.cells Int,λA W=>⟨by rfl,a8.ok (α:=ByteArray) A W,a8.ok (α:=Int) A W,a8.ok (α:=Int) A W⟩⟩
structure cy where
 cb:Int
 dt:ByteArray
 cr:List dC
 dY:List Int
 jR:Int
 An:List aN
 ij:Int
 vp:ByteArray
 deriving DecidableEq,Inhabited
instance:ak cy:=.str (de Int (de ByteArray (de (aa dC) (de (aa Int) (de Int (de (aa aN) (de Int (hD ByteArray)))))))) (λx=>(x.cb,x.dt,x.cr,x.dY,x.jR,x.An,x.ij,x.vp)) 8
abbrev x1:aQ cy Int:=.str dj 0 cy.cb λb g=>{b with cb:=g}
abbrev K8:aQ cy ByteArray:=.str (bB dj) 1 cy.dt λb g=>{b with dt:=g}
abbrev sU:aQ cy (aa dC):=.str (bB (bB dj)) 2 cy.cr λb g=>{b with cr:=g}
abbrev zV:aQ cy (aa Int):=.str (bB (bB (bB dj))) 3 cy.dY λb g=>{b with dY:=g}
abbrev KQ:aQ cy Int:=.str (bB (bB (bB (bB dj)))) 4 cy.jR λb g=>{b with jR:=g}
abbrev aez:aQ cy (aa aN):=.str (bB (bB (bB (bB (bB dj))))) 5 cy.An λb g=>{b with An:=g}
abbrev GM:aQ cy Int:=.str (bB (bB (bB (bB (bB (bB dj)))))) 6 cy.ij λb g=>{b with ij:=g}
abbrev Vu:aQ cy ByteArray:=.str (bB (bB (bB (bB (bB (bB (bB hT))))))) 7 cy.vp λb g=>{b with vp:=g}
instance:a8 cy:=⟨a8.cells Int++a8.cells ByteArray++a8.cells (aa dC)++a8.cells (aa Int)++a8.cells Int++a8.cells (aa aN)++a8.cells Int++a8.cells ByteArray,λA W=>⟨by rfl,a8.ok (α:=Int) A W,a8.ok (α:=ByteArray) A W,a8.ok (α:=aa dC) A W,a8.ok (α:=aa Int) A W,a8.ok (α:=Int) A W,a8.ok (α:=aa aN) A W,a8.ok (α:=Int) A W,a8.ok (α:=ByteArray) A W⟩⟩
structure hX where
 bF:Int
 k1:Int
 deriving DecidableEq,Inhabited
instance:ak hX:=.str (de Int (hD Int)) (λx=>(x.bF,x.k1)) 2
abbrev Gy:aQ hX Int:=.str dj 0 hX.bF λb g=>{b with bF:=g}
abbrev O6:aQ hX Int:=.str (bB hT) 1 hX.k1 λb g=>{b with k1:=g}
instance:a8 hX:=⟨a8.cells Int++a8.cells Int,λA W=>⟨by rfl,a8.ok (α:=Int) A W,a8.ok (α:=Int) A W⟩⟩
structure fR where
 bF:Int
 Ec:Bool
 D0:Bool
 cr:List Bool
 deriving DecidableEq,Inhabited
instance:ak fR:=.str (de Int (de Bool (de Bool (hD (aa Bool))))) (λx=>(x.bF,x.Ec,x.D0,x.cr)) 4
abbrev afI:aQ fR Int:=.str dj 0 fR.bF λb g=>{b with bF:=g}
abbrev af6:aQ fR Bool:=.str (bB dj) 1 fR.Ec λb g=>{b with Ec:=g}
abbrev afJ:aQ fR Bool:=.str (bB (bB dj)) 2 fR.D0 λb g=>{b with D0:=g}
abbrev af7:aQ fR (aa Bool):=.str (bB (bB (bB hT))) 3 fR.cr λb g=>{b with cr:=g}
instance:a8 fR:=⟨a8.cells Int++a8.cells Bool++a8.cells Bool++a8.cells (aa Bool),λA W=>⟨by rfl,a8.ok (α:=Int) A W,a8.ok (α:=Bool) A W,a8.ok (α:=Bool) A W,a8.ok (α:=aa Bool) A W⟩⟩
structure dN where
 cb:Int
 dt:ByteArray
 mm:List fR
 dY:List Int
 kh:Int
 HZ:Bool
 deriving DecidableEq,Inhabited
instance:ak dN:=.str (de Int (de ByteArray (de (aa fR) (de (aa Int) (de Int (hD Bool)))))) (λx=>(x.cb,x.dt,x.mm,x.dY,x.kh,x.HZ)) 6
abbrev G8:aQ dN Int:=.str dj 0 dN.cb λb g=>{b with cb:=g}
abbrev Ps:aQ dN ByteArray:=.str (bB dj) 1 dN.dt λb g=>{b with dt:=g}
abbrev zZ:aQ dN (aa fR):=.str (bB (bB dj)) 2 dN.mm λb g=>{b with mm:=g}
abbrev O5:aQ dN (aa Int):=.str (bB (bB (bB dj))) 3 dN.dY λb g=>{b with dY:=g}
abbrev GN:aQ dN Int:=.str (bB (bB (bB (bB dj)))) 4 dN.kh λb g=>{b with kh:=g}
abbrev afR:aQ dN Bool:=.str (bB (bB (bB (bB (bB hT))))) 5 dN.HZ λb g=>{b with HZ:=g}
instance:a8 dN:=⟨a8.cells Int++a8.cells ByteArray++a8.cells (aa fR)++a8.cells (aa Int)++a8.cells Int++a8.cells Bool,λA W=>⟨by rfl,a8.ok (α:=Int) A W,a8.ok (α:=ByteArray) A W,a8.ok (α:=aa fR) A W,a8.ok (α:=aa Int) A W,a8.ok (α:=Int) A W,a8.ok (α:=Bool) A W⟩⟩
structure fD where
 bF:Int
 e6:Int
 eL:Int
 wK:Int
 nq:Int
 rr:Int
 deriving DecidableEq,Inhabited
instance:ak fD:=.str (de Int (de Int (de Int (de Int (de Int (hD Int)))))) (λx=>(x.bF,x.e6,x.eL,x.wK,x.nq,x.rr)) 6
abbrev agq:aQ fD Int:=.str dj 0 fD.bF λb g=>{b with bF:=g}
abbrev agG:aQ fD Int:=.str (bB dj) 1 fD.e6 λb g=>{b with e6:=g}
abbrev af8:aQ fD Int:=.str (bB (bB dj)) 2 fD.eL λb g=>{b with eL:=g}
abbrev agr:aQ fD Int:=.str (bB (bB (bB dj))) 3 fD.wK λb g=>{b with wK:=g}
abbrev afK:aQ fD Int:=.str (bB (bB (bB (bB dj)))) 4 fD.nq λb g=>{b with nq:=g}
abbrev ags:aQ fD Int:=.str (bB (bB (bB (bB (bB hT))))) 5 fD.rr λb g=>{b with rr:=g}
instance:a8 fD:=⟨a8.cells Int++a8.cells Int++a8.cells Int++a8.cells Int++a8.cells Int++a8.cells Int,λA W=>⟨by rfl,a8.ok (α:=Int) A W,a8.ok (α:=Int) A W,a8.ok (α:=Int) A W,a8.ok (α:=Int) A W,a8.ok (α:=Int) A W,a8.ok (α:=Int) A W⟩⟩
structure aZ where
 gW:List jm
 pN:List mN
 qq:List fw
 dY:List fV
 bL:List cy
 sb:List hX
 e0:List dN
 di:List fD
 HE:Int
 HQ:Int
 deriving DecidableEq,Inhabited
instance:ak aZ:=.str (de (aa jm) (de (aa mN) (de (aa fw) (de (aa fV) (de (aa cy) (de (aa hX) (de (aa dN) (de (aa fD) (de Int (hD Int)))))))))) (λx=>(x.gW,x.pN,x.qq,x.dY,x.bL,x.sb,x.e0,x.di,x.HE,x.HQ)) 10
abbrev VW:aQ aZ (aa jm):=.str dj 0 aZ.gW λb g=>{b with gW:=g}
abbrev VO:aQ aZ (aa mN):=.str (bB dj) 1 aZ.pN λb g=>{b with pN:=g}
abbrev VX:aQ aZ (aa fw):=.str (bB (bB dj)) 2 aZ.qq λb g=>{b with qq:=g}
abbrev VP:aQ aZ (aa fV):=.str (bB (bB (bB dj))) 3 aZ.dY λb g=>{b with dY:=g}
abbrev zW:aQ aZ (aa cy):=.str (bB (bB (bB (bB dj)))) 4 aZ.bL λb g=>{b with bL:=g}
abbrev KR:aQ aZ (aa hX):=.str (bB (bB (bB (bB (bB dj))))) 5 aZ.sb λb g=>{b with sb:=g}
abbrev KX:aQ aZ (aa dN):=.str (bB (bB (bB (bB (bB (bB dj)))))) 6 aZ.e0 λb g=>{b with e0:=g}
abbrev Gz:aQ aZ (aa fD):=.str (bB (bB (bB (bB (bB (bB (bB dj))))))) 7 aZ.di λb g=>{b with di:=g}
abbrev aeJ:aQ aZ Int:=.str (bB (bB (bB (bB (bB (bB (bB (bB dj)))))))) 8 aZ.HE λb g=>{b with HE:=g}
abbrev aeU:aQ aZ Int:=.str (bB (bB (bB (bB (bB (bB (bB (bB (bB hT))))))))) 9 aZ.HQ λb g=>{b with HQ:=g}
instance:a8 aZ:=⟨a8.cells (aa jm)++a8.cells (aa mN)++a8.cells (aa fw)++a8.cells (aa fV)++a8.cells (aa cy)++a8.cells (aa hX)++a8.cells (aa dN)++a8.cells (aa fD)++a8.cells Int++a8.cells Int,λA W=>⟨by rfl,a8.ok (α:=aa jm) A W,a8.ok (α:=aa mN) A W,a8.ok (α:=aa fw) A W,a8.ok (α:=aa fV) A W,a8.ok (α:=aa cy) A W,a8.ok (α:=aa hX) A W,a8.ok (α:=aa dN) A W,a8.ok (α:=aa fD) A W,a8.ok (α:=Int) A W,a8.ok (α:=Int) A W⟩⟩
instance abK:dE prog 32 (default:aZ):=.i
instance cm:bS prog 3 Int:=.i underlying3
instance:cD prog 69 1 af2:=.i underlying69 I cm
def mixed:prog.follows .mixedOrders=true:=by kernel_rfl
instance:UT prog:=⟨mixed⟩
def abx:bJ prog 11:=.i func11
instance:oZ prog 5 (.int .u8):=⟨underlying5⟩
instance:oZ prog 3 (.int .i64):=⟨underlying3⟩
def gO:bJ prog 17:=.i func17
instance apN:gF prog 32 #[(0,1),(1,1),(2,1),(3,1),(4,1),(5,1),(6,1),(7,1),(8,1),(9,1)]:=.i underlying32
instance pW:bS prog 32 aZ:=.i underlying32
instance:dE prog 71 (default:jm):=.i
instance:cD prog 71 0 agA:=.i underlying71 I cm
instance sw:bS prog 9 ByteArray:=.i underlying9
instance:cD prog 71 1 af3:=.i underlying71 I sw
instance:cD prog 71 2 af4:=.i underlying71 I cm
instance:gF prog 71 #[(0,1),(1,1),(2,1)]:=.i underlying71
instance asc:bS prog 71 jm:=.i underlying71
instance:jN prog 23 71 jm:=⟨underlying23,asc⟩
instance abL:bS prog 23 (aa jm):=.i underlying23
instance:cD prog 32 0 VW:=.i underlying32 I abL
instance:jN prog 56 3 Int:=⟨underlying56,cm⟩
instance su:dE prog 3 (default:Int):=.i
instance:dE prog 73 (default:mN):=.i
instance:cD prog 73 0 agn:=.i underlying73 I cm
instance:cD prog 73 1 afF:=.i underlying73 I sw
instance lN:bS prog 56 (aa Int):=.i underlying56
instance:cD prog 73 2 ae7:=.i underlying73 I lN
instance:gF prog 73 #[(0,1),(1,1),(2,1)]:=.i underlying73
instance asd:bS prog 73 mN:=.i underlying73
instance:jN prog 24 73 mN:=⟨underlying24,asd⟩
instance abM:bS prog 24 (aa mN):=.i underlying24
instance:cD prog 32 1 VO:=.i underlying32 I abM
instance aae:dE prog 141 (default:fw):=.i
instance:cD prog 141 0 Wp:=.i underlying141 I cm
instance:cD prog 141 1 V2:=.i underlying141 I cm
instance:cD prog 141 2 V3:=.i underlying141 I cm
instance:cD prog 141 4 VV:=.i underlying141 I cm
instance amO:gF prog 141 #[(0,1),(1,1),(2,1),(3,1),(4,1)]:=.i underlying141
instance aaf:bS prog 141 fw:=.i underlying141
instance si:dE prog 106 (default:aN):=.i
instance lr:bS prog 104 (BitVec 64):=.i underlying104
instance ui:cD prog 106 1 lk:=.i underlying106 I lr
instance yA:gF prog 106 #[(0,1),(1,1)]:=.i underlying106
instance MM:dE prog 143 (default:jD):=.i
instance fx:bS prog 106 aN:=.i underlying106
instance:cD prog 143 0 Pj:=.i underlying143 I fx
instance:cD prog 143 1 Pq:=.i underlying143 I fx
instance:cD prog 143 2 Pr:=.i underlying143 I cm
instance aag:gF prog 143 #[(0,2),(2,2),(4,1)]:=.i underlying143
instance R3:bS prog 143 jD:=.i underlying143
instance:jN prog 139 143 jD:=⟨underlying139,R3⟩
instance MN:bS prog 139 (aa jD):=.i underlying139
instance akj:cD prog 141 3 K1:=.i underlying141 I MN
def qG:bJ prog 27:=.i func27
instance:oZ prog 104 (.int .u64):=⟨underlying104⟩
def YF:kO prog 141 [3]:=by unfold kO;kernel_rfl
instance:jN prog 25 141 fw:=⟨underlying25,aaf⟩
def apO:bJ prog 23:=.i func23
instance:dE prog 145 (default:kf):=.i
instance:cD prog 145 0 afo:=.i underlying145 I cm
instance:gF prog 145 #[(0,1),(1,1),(2,2)]:=.i underlying145
instance ape:bS prog 145 kf:=.i underlying145
instance amP:dE prog 149 (default:fV):=.i
instance:cD prog 149 0 agp:=.i underlying149 I cm
instance:cD prog 149 1 afG:=.i underlying149 I sw
instance:gF prog 149 #[(0,1),(1,1),(2,1),(3,1),(4,1)]:=.i underlying149
instance:dE prog 151 (default:j1):=.i
instance:cD prog 151 0 agF:=.i underlying151 I cm
instance:gF prog 151 #[(0,1),(1,1),(2,4)]:=.i underlying151
instance apf:bS prog 151 j1:=.i underlying151
instance:jN prog 147 151 j1:=⟨underlying147,apf⟩
instance apg:bS prog 147 (aa j1):=.i underlying147
instance:cD prog 149 3 afH:=.i underlying149 I apg
instance an5:dE prog 153 (default:nn):=.i
instance:cD prog 153 0 af5:=.i underlying153 I sw
instance aky:cD prog 153 1 Wk:=.i underlying153 I cm
instance:gF prog 153 #[(0,1),(1,1)]:=.i underlying153
instance M1:bS prog 153 nn:=.i underlying153
instance:jN prog 146 153 nn:=⟨underlying146,M1⟩
instance:cD prog 151 2 agC:=.i underlying151 I ape
instance aaU:bS prog 146 (aa nn):=.i underlying146
instance:cD prog 149 2 V0:=.i underlying149 I aaU
instance:cD prog 151 1 agB:=.i underlying151 I cm
instance:cD prog 145 1 ago:=.i underlying145 I cm
instance:cD prog 145 2 ae8:=.i underlying145 I fx
instance MO:bS prog 149 fV:=.i underlying149
instance:jN prog 26 149 fV:=⟨underlying26,MO⟩
instance YG:cD prog 149 4 Oy:=.i underlying149 I sw
def apP:bJ prog 24:=.i func24
instance uv:dE prog 155 (default:dC):=.i
instance:cD prog 155 0 G1:=.i underlying155 I sw
instance:cD prog 155 1 GX:=.i underlying155 I cm
instance Me:cD prog 155 2 wv:=.i underlying155 I cm
instance MP:gF prog 155 #[(0,1),(1,1),(2,1)]:=.i underlying155
instance tk:bS prog 155 dC:=.i underlying155
instance:jN prog 82 155 dC:=⟨underlying82,tk⟩
instance vK:dE prog 84 (default:cy):=.i
instance alJ:cD prog 84 0 x1:=.i underlying84 I cm
instance yI:bS prog 82 (aa dC):=.i underlying82
instance AU:cD prog 84 2 sU:=.i underlying84 I yI
instance Zx:cD prog 84 3 zV:=.i underlying84 I lN
instance:cD prog 84 6 GM:=.i underlying84 I cm
instance Nb:gF prog 84 #[(0,1),(1,1),(2,1),(3,1),(4,1),(5,1),(6,1),(7,1)]:=.i underlying84
instance qH:bS prog 84 cy:=.i underlying84
def Rj:kO prog 84 [2]:=by unfold kO;kernel_rfl
def Ri:kO prog 84 []:=by unfold kO;kernel_rfl
instance:jN prog 50 106 aN:=⟨underlying50,fx⟩
instance EC:bS prog 50 (aa aN):=.i underlying50
instance:jN prog 27 84 cy:=⟨underlying27,qH⟩
instance:jN prog 156 9 ByteArray:=⟨underlying156,sw⟩
instance:dE prog 9 (default:ByteArray):=.i
instance R4:bS prog 156 (aa ByteArray):=.i underlying156
instance:jN prog 157 156 (aa ByteArray):=⟨underlying157,R4⟩
instance:dE prog 156 (default:aa ByteArray):=.i
instance alq:cD prog 84 7 Vu:=.i underlying84 I sw
def apQ:bJ prog 25:=.i func25
instance abN:bS prog 25 (aa fw):=.i underlying25
instance als:cD prog 32 2 VX:=.i underlying32 I abN
instance abO:bS prog 26 (aa fV):=.i underlying26
instance alu:cD prog 32 3 VP:=.i underlying32 I abO
instance Bl:bS prog 27 (aa cy):=.i underlying27
instance Rk:cD prog 32 4 zW:=.i underlying32 I Bl
instance Ez:dE prog 58 (default:dN):=.i
instance alG:cD prog 58 0 G8:=.i underlying58 I cm
instance alv:cD prog 58 4 GN:=.i underlying58 I cm
instance k7:bS prog 4 Bool:=.i underlying4
instance SR:gF prog 58 #[(0,1),(1,1),(2,1),(3,1),(4,1),(5,1)]:=.i underlying58
instance w1:bS prog 58 dN:=.i underlying58
instance acW:dE prog 4 (default:Bool):=.i
instance Bk:bS prog 55 (aa fR):=.i underlying55
instance alr:cD prog 58 2 zZ:=.i underlying58 I Bk
instance R5:dE prog 160 (default:fR):=.i
instance:cD prog 160 0 afI:=.i underlying160 I cm
instance:cD prog 160 1 af6:=.i underlying160 I k7
instance:cD prog 160 2 afJ:=.i underlying160 I k7
instance aph:bS prog 158 (aa Bool):=.i underlying158
instance:cD prog 160 3 af7:=.i underlying160 I aph
instance:gF prog 160 #[(0,1),(1,1),(2,1),(3,1)]:=.i underlying160
instance MQ:bS prog 160 fR:=.i underlying160
instance:jN prog 55 160 fR:=⟨underlying55,MQ⟩
def D8:kO prog 58 [2]:=by unfold kO;kernel_rfl
instance:jN prog 29 58 dN:=⟨underlying29,w1⟩
def apR:bJ prog 26:=.i func26
instance EA:bS prog 29 (aa dN):=.i underlying29
instance Rl:cD prog 32 6 KX:=.i underlying32 I EA
instance EB:dE prog 79 (default:hX):=.i
instance:cD prog 79 0 Gy:=.i underlying79 I cm
instance Nc:gF prog 79 #[(0,1),(1,1)]:=.i underlying79
instance SS:bS prog 79 hX:=.i underlying79
instance:jN prog 28 79 hX:=⟨underlying28,SS⟩
instance Nd:bS prog 28 (aa hX):=.i underlying28
instance Rm:cD prog 32 5 KR:=.i underlying32 I Nd
instance Bm:bS prog 30 (aa fD):=.i underlying30
instance D9:cD prog 32 7 Gz:=.i underlying32 I Bm
instance SU:dE prog 81 (default:fD):=.i
instance:cD prog 81 0 agq:=.i underlying81 I cm
instance:cD prog 81 2 af8:=.i underlying81 I cm
instance:cD prog 81 4 afK:=.i underlying81 I cm
instance:gF prog 81 #[(0,1),(1,1),(2,1),(3,1),(4,1),(5,1)]:=.i underlying81
instance Nf:bS prog 81 fD:=.i underlying81
instance:jN prog 30 81 fD:=⟨underlying30,Nf⟩
def XL:kO prog 32 [5,7]:=by unfold kO;kernel_rfl
instance:cD prog 81 1 agG:=.i underlying81 I cm
def adf:bJ prog 8:=.i func8
structure lI where
 kB:aZ
 ug:fl
 oC:Int
 deriving DecidableEq,Inhabited
instance:ak lI:=.str (de aZ (de fl (hD Int))) (λx=>(x.kB,x.ug,x.oC)) 12
abbrev VS:aQ lI aZ:=.str dj 0 lI.kB λb g=>{b with kB:=g}
abbrev KM:aQ lI fl:=.str (bB dj) 10 lI.ug λb g=>{b with ug:=g}
abbrev KY:aQ lI Int:=.str (bB (bB hT)) 11 lI.oC λb g=>{b with oC:=g}
instance:a8 lI:=⟨a8.cells aZ++a8.cells fl++a8.cells Int,λA W=>⟨by rfl,a8.ok (α:=aZ) A W,a8.ok (α:=fl) A W,a8.ok (α:=Int) A W⟩⟩
instance ane:dE prog 163 (default:lI):=.i
instance:cD prog 163 0 VS:=.i underlying163 I pW
instance aaV:bS prog 161 fl:=.i underlying161
instance akz:cD prog 163 1 KM:=.i underlying163 I aaV
instance:cD prog 163 2 KY:=.i underlying163 I cm
instance anc:gF prog 163 #[(0,10),(10,1),(11,1)]:=.i underlying163
def amS:bJ prog 124:=.i func124
def amT:bJ prog 123:=.i func123
structure cG where
 gp:Bool
 b6:aN
 hz:aN
 ep:Int
 lq:aN
 deriving DecidableEq,Inhabited
instance:ak cG:=.str (de Bool (de aN (de aN (de Int (hD aN))))) (λx=>(x.gp,x.b6,x.hz,x.ep,x.lq)) 8
abbrev Gc:aQ cG Bool:=.str dj 0 cG.gp λb g=>{b with gp:=g}
abbrev ua:aQ cG aN:=.str (bB dj) 1 cG.b6 λb g=>{b with b6:=g}
abbrev C5:aQ cG aN:=.str (bB (bB dj)) 3 cG.hz λb g=>{b with hz:=g}
abbrev CQ:aQ cG Int:=.str (bB (bB (bB dj))) 5 cG.ep λb g=>{b with ep:=g}
abbrev K9:aQ cG aN:=.str (bB (bB (bB (bB hT)))) 6 cG.lq λb g=>{b with lq:=g}
instance:a8 cG:=⟨a8.cells Bool++a8.cells aN++a8.cells aN++a8.cells Int++a8.cells aN,λA W=>⟨by rfl,a8.ok (α:=Bool) A W,a8.ok (α:=aN) A W,a8.ok (α:=aN) A W,a8.ok (α:=Int) A W,a8.ok (α:=aN) A W⟩⟩
structure bl where
 bF:Int
 bP:List cG
 gG:Int
 eL:Int
 fN:List aN
 deriving DecidableEq,Inhabited
instance:ak bl:=.str (de Int (de (aa cG) (de Int (de Int (hD (aa aN)))))) (λx=>(x.bF,x.bP,x.gG,x.eL,x.fN)) 5
abbrev CX:aQ bl Int:=.str dj 0 bl.bF λb g=>{b with bF:=g}
abbrev wm:aQ bl (aa cG):=.str (bB dj) 1 bl.bP λb g=>{b with bP:=g}
abbrev KN:aQ bl Int:=.str (bB (bB dj)) 2 bl.gG λb g=>{b with gG:=g}
abbrev Gm:aQ bl Int:=.str (bB (bB (bB dj))) 3 bl.eL λb g=>{b with eL:=g}
abbrev C7:aQ bl (aa aN):=.str (bB (bB (bB (bB hT)))) 4 bl.fN λb g=>{b with fN:=g}
instance:a8 bl:=⟨a8.cells Int++a8.cells (aa cG)++a8.cells Int++a8.cells Int++a8.cells (aa aN),λA W=>⟨by rfl,a8.ok (α:=Int) A W,a8.ok (α:=aa cG) A W,a8.ok (α:=Int) A W,a8.ok (α:=Int) A W,a8.ok (α:=aa aN) A W⟩⟩
structure aH where
 aX:bl
 b0:Int
 dJ:Int
 deriving DecidableEq,Inhabited
instance:ak aH:=.str (de bl (de Int (hD Int))) (λx=>(x.aX,x.b0,x.dJ)) 7
abbrev zP:aQ aH bl:=.str dj 0 aH.aX λb g=>{b with aX:=g}
abbrev KA:aQ aH Int:=.str (bB dj) 5 aH.b0 λb g=>{b with b0:=g}
abbrev OQ:aQ aH Int:=.str (bB (bB hT)) 6 aH.dJ λb g=>{b with dJ:=g}
instance:a8 aH:=⟨a8.cells bl++a8.cells Int++a8.cells Int,λA W=>⟨by rfl,a8.ok (α:=bl) A W,a8.ok (α:=Int) A W,a8.ok (α:=Int) A W⟩⟩
structure pL where
 uK:Ref
 deriving DecidableEq,Inhabited
instance:ak pL:=.str (hD Ref) (λx=>x.uK) 1
abbrev Wf:aQ pL Ref:=.str hT 0 pL.uK λb g=>{b with uK:=g}
instance:a8 pL:=⟨a8.cells Ref,λA W=>⟨by rfl,a8.ok (α:=Ref) A W⟩⟩
structure mL where
 wX:Int
 hA:Int
 uk:fl
 deriving DecidableEq,Inhabited
instance:ak mL:=.str (de Int (de Int (hD fl))) (λx=>(x.wX,x.hA,x.uk)) 3
abbrev VR:aQ mL Int:=.str dj 0 mL.wX λb g=>{b with wX:=g}
abbrev OP:aQ mL Int:=.str (bB dj) 1 mL.hA λb g=>{b with hA:=g}
abbrev FP:aQ mL fl:=.str (bB (bB hT)) 2 mL.uk λb g=>{b with uk:=g}
instance:a8 mL:=⟨a8.cells Int++a8.cells Int++a8.cells fl,λA W=>⟨by rfl,a8.ok (α:=Int) A W,a8.ok (α:=Int) A W,a8.ok (α:=fl) A W⟩⟩
structure pM where
 cz:Ref
 deriving DecidableEq,Inhabited
instance:ak pM:=.str (hD Ref) (λx=>x.cz) 1
abbrev Wg:aQ pM Ref:=.str hT 0 pM.cz λb g=>{b with cz:=g}
instance:a8 pM:=⟨a8.cells Ref,λA W=>⟨by rfl,a8.ok (α:=Ref) A W⟩⟩
inductive iK where
 |nil
 |pg (x:pL)
 |ph (x:mL)
 |pj (x:pM)
 deriving DecidableEq,Inhabited
instance:ak iK where
 size:=1
 agg:=false
 rep A W cs x:=match x with
  | .nil=>cs=[.nilIface]
  | .pg x=> ∃v,cs=[.iface 201 v]∧(J.of x).holds A W v
  | .ph x=> ∃v,cs=[.iface 204 v]∧(J.of x).holds A W v
  | .pj x=> ∃v,cs=[.iface 208 v]∧(J.of x).holds A W v
 len {A W cs x} h:=by cases x <;> first|(have h:cs=_:=h;rw[h];rfl)|(obtain⟨v,h,_⟩:=h;rw[h];rfl)
 one {A W cs x} h:=by
  intro u hu;cases x <;> first|(have h:cs=_:=h;rw[h]at hu;rw[hx.1 hu];rfl)|(obtain⟨v,h,_⟩:=h;rw[h]at hu;rw[hx.1 hu];rfl)
 flat _:=rfl
 mono {A W cU W' cs x} e h:=by cases x <;> first|exact h|(obtain⟨v,h,ad⟩:=h;exact⟨v,h,J.mono _ e ad⟩)
instance:a8 iK:=⟨[.nilIface],λ_ _=>rfl⟩
def ah7{A W v}{x:pL}(h:(J.of x).holds A W v):(J.of (iK.pg x)).holds A W (.iface 201 v):=⟨rfl,v,rfl,h⟩
def LN{A W u}{x:pL}(h:(J.of (iK.pg x)).holds A W u):∃v,u=.iface 201 v∧(J.of x).holds A W v:=by
 obtain⟨h1,v,ad,az⟩:=h;exact⟨v,o6 h1 ad,az⟩
def ah8{A W v}{x:mL}(h:(J.of x).holds A W v):(J.of (iK.ph x)).holds A W (.iface 204 v):=⟨rfl,v,rfl,h⟩
def LO{A W u}{x:mL}(h:(J.of (iK.ph x)).holds A W u):∃v,u=.iface 204 v∧(J.of x).holds A W v:=by
 obtain⟨h1,v,ad,az⟩:=h;exact⟨v,o6 h1 ad,az⟩
def ah9{A W v}{x:pM}(h:(J.of x).holds A W v):(J.of (iK.pj x)).holds A W (.iface 208 v):=⟨rfl,v,rfl,h⟩
def LP{A W u}{x:pM}(h:(J.of (iK.pj x)).holds A W u):∃v,u=.iface 208 v∧(J.of x).holds A W v:=by
 obtain⟨h1,v,ad,az⟩:=h;exact⟨v,o6 h1 ad,az⟩
structure kA where
 wR:Int
 vA:Int
 ns:iK
 pO:fl
 deriving DecidableEq,Inhabited
instance:ak kA:=.str (de Int (de Int (de iK (hD fl)))) (λx=>(x.wR,x.vA,x.ns,x.pO)) 4
abbrev afe:aQ kA Int:=.str dj 0 kA.wR λb g=>{b with wR:=g}
abbrev V4:aQ kA Int:=.str (bB dj) 1 kA.vA λb g=>{b with vA:=g}
abbrev KL:aQ kA iK:=.str (bB (bB dj)) 2 kA.ns λb g=>{b with ns:=g}
abbrev VB:aQ kA fl:=.str (bB (bB (bB hT))) 3 kA.pO λb g=>{b with pO:=g}
instance:a8 kA:=⟨a8.cells Int++a8.cells Int++a8.cells iK++a8.cells fl,λA W=>⟨by rfl,a8.ok (α:=Int) A W,a8.ok (α:=Int) A W,a8.ok (α:=iK) A W,a8.ok (α:=fl) A W⟩⟩
instance am4:dE prog 197 (default:kA):=.i
instance:cD prog 197 1 V4:=.i underlying197 I cm
instance api:bS prog 193 fl:=.i underlying193
instance:cD prog 197 3 VB:=.i underlying197 I api
instance am3:gF prog 197 #[(0,1),(1,1),(2,1),(3,1)]:=.i underlying197
structure sZ where
 vE:fl
 deriving DecidableEq,Inhabited
instance:ak sZ:=.str (hD fl) (λx=>x.vE) 1
abbrev V6:aQ sZ fl:=.str hT 0 sZ.vE λb g=>{b with vE:=g}
instance:a8 sZ:=⟨a8.cells fl,λA W=>⟨by rfl,a8.ok (α:=fl) A W⟩⟩
instance amB:dE prog 231 (default:sZ):=.i
instance apj:bS prog 229 fl:=.i underlying229
instance:cD prog 231 0 V6:=.i underlying231 I apj
instance amA:gF prog 231 #[(0,1)]:=.i underlying231
def apS:bJ prog 92:=.i func92
instance am6:dE prog 201 (default:pL):=.i
instance apk:bS prog 198 Ref:=.i underlying198
instance:cD prog 201 0 Wf:=.i underlying201 I apk
instance am5:gF prog 201 #[(0,1)]:=.i underlying201
instance MU:bS prog 195 iK:=.i underlying195
instance:cD prog 197 2 KL:=.i underlying197 I MU
def amU:bJ prog 126:=.i func126
def amV:bJ prog 125:=.i func125
instance am8:dE prog 204 (default:mL):=.i
instance:cD prog 204 0 VR:=.i underlying204 I cm
instance:cD prog 204 1 OP:=.i underlying204 I cm
instance Sb:bS prog 202 fl:=.i underlying202
instance YM:cD prog 204 2 FP:=.i underlying204 I Sb
instance am7:gF prog 204 #[(0,1),(1,1),(2,1)]:=.i underlying204
structure eh where
 mj:aZ
 cz:List aH
 deriving DecidableEq,Inhabited
instance:ak eh:=.str (de aZ (hD (aa aH))) (λx=>(x.mj,x.cz)) 11
abbrev OL:aQ eh aZ:=.str dj 0 eh.mj λb g=>{b with mj:=g}
abbrev C3:aQ eh (aa aH):=.str (bB hT) 10 eh.cz λb g=>{b with cz:=g}
instance:a8 eh:=⟨a8.cells aZ++a8.cells (aa aH),λA W=>⟨by rfl,a8.ok (α:=aZ) A W,a8.ok (α:=aa aH) A W⟩⟩
instance amD:dE prog 235 (default:eh):=.i
instance akq:cD prog 235 0 OL:=.i underlying235 I pW
instance amC:gF prog 235 #[(0,10),(10,1)]:=.i underlying235
def apT:bJ prog 94:=.i func94
def aje:kO prog 235 [10]:=by unfold kO;kernel_rfl
instance ana:dE prog 208 (default:pM):=.i
instance apl:bS prog 205 Ref:=.i underlying205
instance:cD prog 208 0 Wg:=.i underlying208 I apl
instance am9:gF prog 208 #[(0,1)]:=.i underlying208
def apV:bJ prog 57:=.i func57
def Bx:q5 prog 3 Int:=al2 underlying3
structure cx where
 bF:Int
 e6:Int
 b6:aN
 deriving DecidableEq,Inhabited
instance:ak cx:=.str (de Int (de Int (hD aN))) (λx=>(x.bF,x.e6,x.b6)) 4
abbrev CN:aQ cx Int:=.str dj 0 cx.bF λb g=>{b with bF:=g}
abbrev CZ:aQ cx Int:=.str (bB dj) 1 cx.e6 λb g=>{b with e6:=g}
abbrev CO:aQ cx aN:=.str (bB (bB hT)) 2 cx.b6 λb g=>{b with b6:=g}
instance:a8 cx:=⟨a8.cells Int++a8.cells Int++a8.cells aN,λA W=>⟨by rfl,a8.ok (α:=Int) A W,a8.ok (α:=Int) A W,a8.ok (α:=aN) A W⟩⟩
structure k0 where
 rp:Int
 rm:Int
 deriving DecidableEq,Inhabited
instance:ak k0:=.str (de Int (hD Int)) (λx=>(x.rp,x.rm)) 2
abbrev Gb:aQ k0 Int:=.str dj 0 k0.rp λb g=>{b with rp:=g}
abbrev FU:aQ k0 Int:=.str (bB hT) 1 k0.rm λb g=>{b with rm:=g}
instance:a8 k0:=⟨a8.cells Int++a8.cells Int,λA W=>⟨by rfl,a8.ok (α:=Int) A W,a8.ok (α:=Int) A W⟩⟩
structure rl where
 mj:aZ
 iM:fl
 deriving DecidableEq,Inhabited
instance:ak rl:=.str (de aZ (hD fl)) (λx=>(x.mj,x.iM)) 11
abbrev VL:aQ rl aZ:=.str dj 0 rl.mj λb g=>{b with mj:=g}
abbrev VM:aQ rl fl:=.str (bB hT) 10 rl.iM λb g=>{b with iM:=g}
instance:a8 rl:=⟨a8.cells aZ++a8.cells fl,λA W=>⟨by rfl,a8.ok (α:=aZ) A W,a8.ok (α:=fl) A W⟩⟩
instance amF:dE prog 168 (default:rl):=.i
instance:cD prog 168 0 VL:=.i underlying168 I pW
instance apm:bS prog 166 fl:=.i underlying166
instance:cD prog 168 1 VM:=.i underlying168 I apm
instance amE:gF prog 168 #[(0,10),(10,1)]:=.i underlying168
structure jP where
 nX:List dN
 iM:Vector Int 6
 deriving DecidableEq,Inhabited
instance:ak jP:=.str (de (aa dN) (hD (Vector Int 6))) (λx=>(x.nX,x.iM)) 7
abbrev OM:aQ jP (aa dN):=.str dj 0 jP.nX λb g=>{b with nX:=g}
abbrev zM:aQ jP (Vector Int 6):=.str (bB hT) 1 jP.iM λb g=>{b with iM:=g}
instance:a8 jP:=⟨a8.cells (aa dN)++a8.cells (Vector Int 6),λA W=>⟨by rfl,a8.ok (α:=aa dN) A W,a8.ok (α:=Vector Int 6) A W⟩⟩
instance amH:dE prog 171 (default:jP):=.i
instance akm:cD prog 171 0 OM:=.i underlying171 I EA
instance amG:gF prog 171 #[(0,1),(1,6)]:=.i underlying171
def ap2:bJ prog 28:=.i func28
def ap1:bJ prog 29:=.i func29
def apY:bJ prog 30:=.i func30
inductive nA where
 |nil
 |y3 (a0:Ref) (bX:aH) (a2:Int) (a3:Int)
 |xn (a0:Ref) (bX:bl)
 |y4 (a0:Ref) (bX:aH)
 deriving DecidableEq,Inhabited
instance:ak nA where
 size:=1
 agg:=false
 rep A W cs x:=match x with
  | .nil=>cs=[.nilFunc]
  | .y3 a0 bX a2 a3=> ∃v,cs=[v]∧(J.lx 69 [J.ptr a0,J.ptr bX,J.ptr a2,J.ptr a3]).holds A W v
  | .xn a0 bX=> ∃v,cs=[v]∧(J.lx 75 [J.ptr a0,J.ptr bX]).holds A W v
  | .y4 a0 bX=> ∃v,cs=[v]∧(J.lx 80 [J.ptr a0,J.ptr bX]).holds A W v
 len {A W cs x} h:=by cases x <;> first|(have h:cs=_:=h;rw[h];rfl)|(obtain⟨v,h,_⟩:=h;rw[h];rfl)
 one {A W cs x} h:=by
  intro u hu;cases x <;> first|(have h:cs=_:=h;rw[h]at hu;rw[hx.1 hu];rfl)|(obtain⟨v,h,fQ,rfl,_⟩:=h;rw[h]at hu;rw[hx.1 hu];rfl)
 flat _:=rfl
 mono {A W cU W' cs x} e h:=by cases x <;> first|exact h|(obtain⟨v,h,ad⟩:=h;exact⟨v,h,J.mono _ e ad⟩)
instance:a8 nA:=⟨[.nilFunc],λ_ _=>rfl⟩
def alK{A W v}{a0:Ref}{bX:aH}{a2:Int}{a3:Int}(h:(J.lx 69 [J.ptr a0,J.ptr bX,J.ptr a2,J.ptr a3]).holds A W v):(J.of (nA.y3 a0 bX a2 a3)).holds A W v:=by
 obtain⟨fQ,rfl,ad⟩:=h;exact⟨rfl,_,rfl,fQ,rfl,ad⟩
def alN{A W u}{a0:Ref}{bX:aH}{a2:Int}{a3:Int}(h:(J.of (nA.y3 a0 bX a2 a3)).holds A W u):(J.lx 69 [J.ptr a0,J.ptr bX,J.ptr a2,J.ptr a3]).holds A W u:=by
 obtain⟨h1,v,ad,az⟩:=h;have e:=o6 h1 ad;subst e;exact az
def alM{A W v}{a0:Ref}{bX:bl}(h:(J.lx 75 [J.ptr a0,J.ptr bX]).holds A W v):(J.of (nA.xn a0 bX)).holds A W v:=by
 obtain⟨fQ,rfl,ad⟩:=h;exact⟨rfl,_,rfl,fQ,rfl,ad⟩
def alO{A W u}{a0:Ref}{bX:bl}(h:(J.of (nA.xn a0 bX)).holds A W u):(J.lx 75 [J.ptr a0,J.ptr bX]).holds A W u:=by
 obtain⟨h1,v,ad,az⟩:=h;have e:=o6 h1 ad;subst e;exact az
def alI{A W v}{a0:Ref}{bX:aH}(h:(J.lx 80 [J.ptr a0,J.ptr bX]).holds A W v):(J.of (nA.y4 a0 bX)).holds A W v:=by
 obtain⟨fQ,rfl,ad⟩:=h;exact⟨rfl,_,rfl,fQ,rfl,ad⟩
def alP{A W u}{a0:Ref}{bX:aH}(h:(J.of (nA.y4 a0 bX)).holds A W u):(J.lx 80 [J.ptr a0,J.ptr bX]).holds A W u:=by
 obtain⟨h1,v,ad,az⟩:=h;have e:=o6 h1 ad;subst e;exact az
structure gm where
 AX:nA
 deriving DecidableEq,Inhabited
instance:ak gm:=.str (hD nA) (λx=>x.AX) 1
abbrev VF:aQ gm nA:=.str hT 0 gm.AX λb g=>{b with AX:=g}
instance:a8 gm:=⟨a8.cells nA,λA W=>⟨by rfl,a8.ok (α:=nA) A W⟩⟩
structure gn where
 mP:Ref
 qA:Ref
 s7:Ref
 hM:List gm
 deriving DecidableEq,Inhabited
instance:ak gn:=.str (de Ref (de Ref (de Ref (hD (aa gm))))) (λx=>(x.mP,x.qA,x.s7,x.hM)) 4
abbrev FV:aQ gn Ref:=.str dj 0 gn.mP λb g=>{b with mP:=g}
abbrev VT:aQ gn Ref:=.str (bB dj) 1 gn.qA λb g=>{b with qA:=g}
abbrev VC:aQ gn Ref:=.str (bB (bB dj)) 2 gn.s7 λb g=>{b with s7:=g}
abbrev Kx:aQ gn (aa gm):=.str (bB (bB (bB hT))) 3 gn.hM λb g=>{b with hM:=g}
instance:a8 gn:=⟨a8.cells Ref++a8.cells Ref++a8.cells Ref++a8.cells (aa gm),λA W=>⟨by rfl,a8.ok (α:=Ref) A W,a8.ok (α:=Ref) A W,a8.ok (α:=Ref) A W,a8.ok (α:=aa gm) A W⟩⟩
instance ap0:dE prog 93 (default:gn):=.i
instance ase:bS prog 85 Ref:=.i underlying85
instance:cD prog 93 0 FV:=.i underlying93 I ase
instance asf:bS prog 87 Ref:=.i underlying87
instance:cD prog 93 1 VT:=.i underlying93 I asf
instance asg:bS prog 89 Ref:=.i underlying89
instance:cD prog 93 2 VC:=.i underlying93 I asg
instance apZ:gF prog 93 #[(0,1),(1,1),(2,1),(3,1)]:=.i underlying93
def alz:kO prog 93 [3]:=by unfold kO;kernel_rfl
structure cn where
 gT:aZ
 bE:List aH
 h6:Int
 deriving DecidableEq,Inhabited
instance:ak cn:=.str (de aZ (de (aa aH) (hD Int))) (λx=>(x.gT,x.bE,x.h6)) 12
abbrev Ad:aQ cn aZ:=.str dj 0 cn.gT λb g=>{b with gT:=g}
abbrev xX:aQ cn (aa aH):=.str (bB dj) 10 cn.bE λb g=>{b with bE:=g}
abbrev GV:aQ cn Int:=.str (bB (bB hT)) 11 cn.h6 λb g=>{b with h6:=g}
instance:a8 cn:=⟨a8.cells aZ++a8.cells (aa aH)++a8.cells Int,λA W=>⟨by rfl,a8.ok (α:=aZ) A W,a8.ok (α:=aa aH) A W,a8.ok (α:=Int) A W⟩⟩
instance apF:dE prog 95 (default:cn):=.i
instance Ij:cD prog 95 0 Ad:=.i underlying95 I pW
instance RA:cD prog 95 2 GV:=.i underlying95 I cm
instance apE:gF prog 95 #[(0,10),(10,1),(11,1)]:=.i underlying95
def adg:bJ prog 9:=.i func9
def aqR:bJ prog 10:=.i func10
instance M9:dE prog 52 (default:bl):=.i
instance Mq:cD prog 52 0 CX:=.i underlying52 I cm
instance aqB:gF prog 52 #[(0,1),(1,1),(2,1),(3,1),(4,1)]:=.i underlying52
instance pX:bS prog 52 bl:=.i underlying52
instance Iq:dE prog 108 (default:cG):=.i
instance DY:cD prog 106 0 vm:=.i underlying106 I lr
instance:oZ prog 188 (.int .u64):=⟨underlying188⟩
def YH:Ob prog 106 1 104 1:=⟨_,_,underlying106,rfl,rfl,rfl⟩
instance ako:cD prog 108 0 Gc:=.i underlying108 I k7
instance YD:cD prog 108 3 CQ:=.i underlying108 I cm
instance AO:cD prog 108 1 ua:=.i underlying108 I fx
instance anb:gF prog 108 #[(0,1),(1,2),(3,2),(5,1),(6,2)]:=.i underlying108
instance vF:bS prog 108 cG:=.i underlying108
instance QC:cD prog 108 2 C5:=.i underlying108 I fx
instance akp:cD prog 108 4 K9:=.i underlying108 I fx
instance w4:bS prog 49 (aa cG):=.i underlying49
instance AW:cD prog 52 1 wm:=.i underlying52 I w4
def aqC:bJ prog 59:=.i func59
instance:jN prog 49 108 cG:=⟨underlying49,vF⟩
instance Ro:cD prog 52 2 KN:=.i underlying52 I cm
instance Mr:cD prog 52 3 Gm:=.i underlying52 I cm
def akx:Ob prog 149 2 146 2:=⟨_,_,underlying149,rfl,rfl,rfl⟩
instance Ic:cD prog 52 4 C7:=.i underlying52 I EC
def XP:kO prog 52 [1,4]:=by unfold kO;kernel_rfl
def aqE:bJ prog 31:=.i func31
instance pY:bS prog 43 (aa aH):=.i underlying43
instance Mw:cD prog 95 1 xX:=.i underlying95 I pY
instance eC:bS prog 54 aH:=.i underlying54
instance:jN prog 43 54 aH:=⟨underlying43,eC⟩
instance Ii:cD prog 54 0 zP:=.i underlying54 I pX
instance:bS prog 36 Ref:=.i underlying36
instance:oZ prog 36 (.pointer 93):=⟨underlying36⟩
instance:oZ prog 85 (.pointer 163):=⟨underlying85⟩
instance Z7:dE prog 164 (default:Ref):=.i
def EE:bJ prog 97:=.i func97
instance:oZ prog 164 (.pointer 197):=⟨underlying164⟩
instance k4:dE prog 54 (default:aH):=.i
instance aqD:gF prog 54 #[(0,5),(5,1),(6,1)]:=.i underlying54
instance aaw:dE prog 132 (default:Vector aN 4):=.i
instance uu:qi prog 132 4 2:=qi.of underlying132 fx I
instance Eo:bS prog 132 (Vector aN 4):=.i underlying132
instance:oZ prog 198 (.pointer 231):=⟨underlying198⟩
instance:kZ aN where
 uniq {A W cs cU W' fj x} h cW:=by
  refine YY h.1 cW.1 ?_;refine HV 0 (ak.size (BitVec 64)) (kZ.uniq h.2.1 cW.2.1) ?_;refine HV 1 (ak.size (BitVec 64)) (kZ.uniq h.2.2 cW.2.2) ?_;exact YZ h.1 cW.1 (by decide)
 plain {A W cs x} h:=by
  intro u hu n;have bC:=AQ (o:=0) (s:=ak.size (BitVec 64)) (by simpa using hu);rcases bC with h1|bC
  ·exact kZ.plain h.2.1 u h1 n
  have bC:=AQ (s:=ak.size (BitVec 64)) bC;rcases bC with h1|bC
  ·exact kZ.plain h.2.2 u h1 n
  exact QO h.1 (by rfl) bC
def Z5:na prog 104 (BitVec 64) 1:=akO (K:=.u64) underlying104
def vB:na prog 106 aN 2:=HF (k:=1) I underlying106 (by kernel_rfl) λd hd A W xs ys x y au aT=>by
 refine Hn (qs vm lr I (by rfl) Z5 (by omega) au aT (qs lk lr I (by rfl) Z5 (by omega) au aT H2)) ?_;congr 1;rw[kP];simp only[gl,e5,Ho];cases x;cases y;simp[aQ.str,vm,lk]
def amt:na prog 312 (Vector aN 4) 3:=YS underlying312 fx vB
def abu:tV prog 104 (BitVec 64) 1:=Qa underlying104 I
def SM:tV prog 106 aN 2:=Xv (k:=1) I underlying106 (.cons vm I lr (λb d A W u x h au=>abu b d A W u x (by omega) au) (.cons lk I lr (λb d A W u x h au=>abu b d A W u x (by omega) au) (.nil)))
def apn:tV prog 312 (Vector aN 4) 3:=ZC underlying312 fx SM
def ML:q5 prog 312 (Vector aN 4):=RM underlying312 I apn amt I I
def R2:bJ prog 214:=.i func214
instance:bS prog 204 mL:=.i underlying204
instance:dE prog 313 (default:Vector aN 4):=.i
instance MR:bS prog 313 (Vector aN 4):=.i underlying313
instance aaG:dE prog 326 (default:Ref):=.i
instance:oZ prog 314 (.pointer 332):=⟨underlying314⟩
structure hY where
 hA:Int
 eQ:Ref
 deriving DecidableEq,Inhabited
instance:ak hY:=.str (de Int (hD Ref)) (λx=>(x.hA,x.eQ)) 2
abbrev C6:aQ hY Int:=.str dj 0 hY.hA λb g=>{b with hA:=g}
abbrev La:aQ hY Ref:=.str (bB hT) 1 hY.eQ λb g=>{b with eQ:=g}
instance:a8 hY:=⟨a8.cells Int++a8.cells Ref,λA W=>⟨by rfl,a8.ok (α:=Int) A W,a8.ok (α:=Ref) A W⟩⟩
instance Md:cD prog 332 0 C6:=.i underlying332 I cm
def Rq:prog.eqGuardType prog.depth 106=false:=by kernel_rfl
instance:Ci prog 106 aN 2:=⟨vB,Rq,rfl⟩
def aas:bJ prog 238:=.i func238
instance kD:bS prog 326 Ref:=.i underlying326
instance aks:cD prog 332 1 La:=.i underlying332 I kD
def MW:bJ prog 235:=.i func235
instance aal:bS prog 314 Ref:=.i underlying314
instance:oZ prog 326 (.pointer 330):=⟨underlying326⟩
instance aaa:bS prog 328 (Vector Ref 2):=.i underlying328
structure fc where
 dF:Vector Ref 2
 gM:Bool
 j6:Int
 deriving DecidableEq,Inhabited
instance:ak fc:=.str (de (Vector Ref 2) (de Bool (hD Int))) (λx=>(x.dF,x.gM,x.j6)) 4
abbrev CG:aQ fc (Vector Ref 2):=.str dj 0 fc.dF λb g=>{b with dF:=g}
abbrev GK:aQ fc Bool:=.str (bB dj) 2 fc.gM λb g=>{b with gM:=g}
abbrev Lg:aQ fc Int:=.str (bB (bB hT)) 3 fc.j6 λb g=>{b with j6:=g}
instance:a8 fc:=⟨a8.cells (Vector Ref 2)++a8.cells Bool++a8.cells Int,λA W=>⟨by rfl,a8.ok (α:=Vector Ref 2) A W,a8.ok (α:=Bool) A W,a8.ok (α:=Int) A W⟩⟩
instance Mc:cD prog 330 0 CG:=.i underlying330 I aaa
instance R6:qi prog 328 2 1:=qi.of underlying328 kD I
def MX:bJ prog 242:=.i func242
def aaA:bJ prog 232:=.i func232
instance akf:cD prog 330 1 GK:=.i underlying330 I k7
instance akg:cD prog 330 2 Lg:=.i underlying330 I cm
def amu:na prog 313 (Vector aN 4) 3:=YS underlying313 fx vB
def apo:tV prog 313 (Vector aN 4) 3:=ZC underlying313 fx SM
def yC:q5 prog 313 (Vector aN 4):=RM underlying313 I apo amu I I
instance Ep:dE prog 314 (default:Ref):=.i
def aaB:bJ prog 223:=.i func223
instance:cD prog 235 1 C3:=.i underlying235 I pY
def ano:bJ prog 262:=.i func262
def anB:bJ prog 257:=.i func257
instance:oZ prog 4 .bool:=⟨underlying4⟩
def ash:na prog 4 Bool 1:=ajo underlying4
def Bv:na prog 3 Int 1:=YR (K:=.i64) underlying3
def amv:na prog 108 cG 3:=HF (k:=2) I underlying108 (by kernel_rfl) λd hd A W xs ys x y au aT=>by
 refine Hn (qs Gc k7 I (by rfl) ash (by omega) au aT (qs ua fx I (by rfl) vB (by omega) au aT (qs C5 fx I (by rfl) vB (by omega) au aT (qs CQ cm I (by rfl) Bv (by omega) au aT (qs K9 fx I (by rfl) vB (by omega) au aT H2))))) ?_;congr 1;rw[kP];simp only[gl,e5,Ho];cases x;cases y;simp[aQ.str,Gc,ua,C5,CQ,K9]
def amw:prog.eqGuardType prog.depth 108=false:=by kernel_rfl
instance:Ci prog 108 cG 3:=⟨amv,amw,rfl⟩
instance Zv:cD prog 54 1 KA:=.i underlying54 I cm
def apq:bJ prog 210:=.i func210
def aic:kd prog 201 "matchguard/index.find" 210:=kd.tK (by kernel_rfl) underlying201 I apq
def apr:bJ prog 218:=.i func218
def aid:kd prog 204 "matchguard/index.find" 218:=kd.tK (by kernel_rfl) underlying204 I apr
def aps:bJ prog 253:=.i func253
def aie:kd prog 208 "matchguard/index.find" 253:=kd.tK (by kernel_rfl) underlying208 I aps
def aaI:bJ prog 127:=.i func127
def S4:bJ prog 98:=.i func98
def aqu:bJ prog 99:=.i func99
def an2:bJ prog 100:=.i func100
instance alL:cD prog 54 2 OQ:=.i underlying54 I cm
def amW:bJ prog 216:=.i func216
instance amR:dE prog 332 (default:hY):=.i
instance amQ:gF prog 332 #[(0,1),(1,1)]:=.i underlying332
def anH:bJ prog 228:=.i func228
instance aaE:dE prog 330 (default:fc):=.i
instance aaD:gF prog 330 #[(0,2),(2,1),(3,1)]:=.i underlying330
def anG:bJ prog 229:=.i func229
def aaj:bJ prog 273:=.i func273
def aak:bJ prog 272:=.i func272
def aan:bJ prog 265:=.i func265
def ang:bJ prog 283:=.i func283
def anf:bJ prog 282:=.i func282
def anK:bJ prog 266:=.i func266
def anL:bJ prog 267:=.i func267
def anM:bJ prog 268:=.i func268
def anS:bJ prog 260:=.i func260
def apt:bJ prog 212:=.i func212
def aif:kd prog 201 "matchguard/index.put" 212:=kd.tK (by kernel_rfl) underlying201 I apt
def apu:bJ prog 220:=.i func220
def aih:kd prog 204 "matchguard/index.put" 220:=kd.tK (by kernel_rfl) underlying204 I apu
def apv:bJ prog 255:=.i func255
def aii:kd prog 208 "matchguard/index.put" 255:=kd.tK (by kernel_rfl) underlying208 I apv
def Su:bJ prog 101:=.i func101
def ach:bJ prog 62:=.i func62
def S5:bJ prog 63:=.i func63
instance:oZ prog 89 (.pointer 171):=⟨underlying89⟩
def aad:bJ prog 102:=.i func102
instance apw:bS prog 169 (Vector Int 6):=.i underlying169
instance DZ:cD prog 171 1 zM:=.i underlying171 I apw
instance Ek:qi prog 169 6 1:=qi.of underlying169 cm I
def acg:bJ prog 64:=.i func64
def amZ:bJ prog 217:=.i func217
instance:jN prog 336 326 Ref:=⟨underlying336,kD⟩
instance anN:dE prog 336 (default:aa Ref):=.i
instance aqa:dE prog 56 (default:aa Int):=.i
instance yD:bS prog 336 (aa Ref):=.i underlying336
def akt:kO prog 336 [0]:=by unfold kO;kernel_rfl
def alF:kO prog 56 [0]:=by unfold kO;kernel_rfl
instance amJ:dE prog 328 (default:Vector Ref 2):=.i
def alp:prog.eqGuardType prog.depth 328=false:=by kernel_rfl
def aaH:bJ prog 239:=.i func239
def anT:bJ prog 230:=.i func230
structure fC where
 b6:aN
 AI:Int
 cb:Int
 deriving DecidableEq,Inhabited
instance:ak fC:=.str (de aN (de Int (hD Int))) (λx=>(x.b6,x.AI,x.cb)) 4
abbrev aeT:aQ fC aN:=.str dj 0 fC.b6 λb g=>{b with b6:=g}
abbrev aeM:aQ fC Int:=.str (bB dj) 2 fC.AI λb g=>{b with AI:=g}
abbrev afN:aQ fC Int:=.str (bB (bB hT)) 3 fC.cb λb g=>{b with cb:=g}
instance:a8 fC:=⟨a8.cells aN++a8.cells Int++a8.cells Int,λA W=>⟨by rfl,a8.ok (α:=aN) A W,a8.ok (α:=Int) A W,a8.ok (α:=Int) A W⟩⟩
instance anh:dE prog 337 (default:aa fC):=.i
instance RZ:bS prog 337 (aa fC):=.i underlying337
instance R0:dE prog 342 (default:fC):=.i
instance amL:gF prog 342 #[(0,2),(2,1),(3,1)]:=.i underlying342
instance R1:bS prog 342 fC:=.i underlying342
instance:jN prog 337 342 fC:=⟨underlying337,R1⟩
def amX:bJ prog 246:=.i func246
def R7:bJ prog 248:=.i func248
def akn:kO prog 337 [0]:=by unfold kO;kernel_rfl
def ani:bJ prog 245:=.i func245
def anp:bJ prog 240:=.i func240
def anU:bJ prog 231:=.i func231
def am1:bJ prog 269:=.i func269
def anj:bJ prog 261:=.i func261
def apx:bJ prog 213:=.i func213
def aij:kd prog 201 "matchguard/index.remove" 213:=kd.tK (by kernel_rfl) underlying201 I apx
def apy:bJ prog 221:=.i func221
def aik:kd prog 204 "matchguard/index.remove" 221:=kd.tK (by kernel_rfl) underlying204 I apy
def apz:bJ prog 256:=.i func256
def ail:kd prog 208 "matchguard/index.remove" 256:=kd.tK (by kernel_rfl) underlying208 I apz
def an3:bJ prog 103:=.i func103
def IQ:bJ prog 65:=.i func65
def acf:bJ prog 66:=.i func66
instance:oZ prog 87 (.pointer 168):=⟨underlying87⟩
instance:cD prog 81 5 ags:=.i underlying81 I cm
instance Is:dE prog 124 (default:cx):=.i
instance YN:cD prog 124 0 CN:=.i underlying124 I cm
instance YO:cD prog 124 1 CZ:=.i underlying124 I cm
instance YP:cD prog 124 2 CO:=.i underlying124 I fx
instance:gF prog 124 #[(0,1),(1,1),(2,2)]:=.i underlying124
instance wW:bS prog 124 cx:=.i underlying124
instance:jN prog 115 124 cx:=⟨underlying115,wW⟩
instance:cD prog 81 3 agr:=.i underlying81 I cm
instance:kZ cx where
 uniq {A W cs cU W' fj x} h cW:=by
  refine YY h.1 cW.1 ?_;refine HV 0 (ak.size Int) (kZ.uniq h.2.1 cW.2.1) ?_;refine HV 1 (ak.size Int) (kZ.uniq h.2.2.1 cW.2.2.1) ?_;refine HV 2 (ak.size aN) (kZ.uniq h.2.2.2 cW.2.2.2) ?_;exact YZ h.1 cW.1 (by decide)
 plain {A W cs x} h:=by
  intro u hu n;have bC:=AQ (o:=0) (s:=ak.size Int) (by simpa using hu);rcases bC with h1|bC
  ·exact kZ.plain h.2.1 u h1 n
  have bC:=AQ (s:=ak.size Int) bC;rcases bC with h1|bC
  ·exact kZ.plain h.2.2.1 u h1 n
  have bC:=AQ (s:=ak.size aN) bC;rcases bC with h1|bC
  ·exact kZ.plain h.2.2.2 u h1 n
  exact QO h.1 (by rfl) bC
def Z6:na prog 124 cx 3:=HF (k:=2) I underlying124 (by kernel_rfl) λd hd A W xs ys x y au aT=>by
 refine Hn (qs CN cm I (by rfl) Bv (by omega) au aT (qs CZ cm I (by rfl) Bv (by omega) au aT (qs CO fx I (by rfl) vB (by omega) au aT H2))) ?_;congr 1;rw[kP];simp only[gl,e5,Ho];cases x;cases y;simp[aQ.str,CN,CZ,CO]
def adZ:tV prog 3 Int 1:=Qa underlying3 I
def apA:tV prog 124 cx 3:=Xv (k:=2) I underlying124 (.cons CN I cm (λb d A W u x h au=>adZ b d A W u x (by omega) au) (.cons CZ I cm (λb d A W u x h au=>adZ b d A W u x (by omega) au) (.cons CO I fx (λb d A W u x h au=>SM b d A W u x (by omega) au) (.nil))))
def R9:q5 prog 124 cx:=RM underlying124 I apA Z6 I I
instance am0:dE prog 217 (default:k0):=.i
instance:bS prog 217 k0:=.i underlying217
instance YI:cD prog 217 0 Gb:=.i underlying217 I cm
instance YJ:cD prog 217 1 FU:=.i underlying217 I cm
instance:gF prog 217 #[(0,1),(1,1)]:=.i underlying217
def amx:na prog 217 k0 2:=HF (k:=1) I underlying217 (by kernel_rfl) λd hd A W xs ys x y au aT=>by
 refine Hn (qs Gb cm I (by rfl) Bv (by omega) au aT (qs FU cm I (by rfl) Bv (by omega) au aT H2)) ?_;congr 1;rw[kP];simp only[gl,e5,Ho];cases x;cases y;simp[aQ.str,Gb,FU]
def amy:prog.eqGuardType prog.depth 217=false:=by kernel_rfl
instance:Ci prog 217 k0 2:=⟨amx,amy,rfl⟩
def aar:bJ prog 130:=.i func130
def amz:prog.eqGuardType prog.depth 124=false:=by kernel_rfl
instance:Ci prog 124 cx 3:=⟨Z6,amz,rfl⟩
def am2:bJ prog 148:=.i func148
def aat:bJ prog 104:=.i func104
def S8:bJ prog 67:=.i func67
instance yH:bS prog 91 (aa gm):=.i underlying91
instance:cD prog 93 3 Kx:=.i underlying93 I yH
instance amI:dE prog 110 (default:gm):=.i
instance ade:bS prog 1 nA:=.i underlying1
instance akA:cD prog 110 0 VF:=.i underlying110 I ade
instance:gF prog 110 #[(0,1)]:=.i underlying110
instance MK:bS prog 110 gm:=.i underlying110
instance:jN prog 91 110 gm:=⟨underlying91,MK⟩
def S7:bJ prog 68:=.i func68
def S3:bJ prog 16:=.i func16
instance aab:dE prog 213 (default:Vector (aa Int) 6):=.i
instance th:qi prog 213 6 1:=qi.of underlying213 lN I
def agu:kO prog 213 [0,1,2,3,4,5]:=by unfold kO;kernel_rfl
instance:bS prog 213 (Vector (aa Int) 6):=.i underlying213
def IN:bJ prog 76:=.i func76
instance El:dE prog 271 (default:Vector Bool 128):=.i
instance yB:qi prog 271 128 1:=qi.of underlying271 k7 I
instance A7:bS prog 271 (Vector Bool 128):=.i underlying271
def aax:bJ prog 150:=.i func150
def S1:bJ prog 77:=.i func77
def S2:bJ prog 44:=.i func44
def anO:bJ prog 110:=.i func110
def ab3:bJ prog 79:=.i func79
def aqb:bJ prog 72:=.i func72
def ab5:bJ prog 50:=.i func50
instance:bS prog 95 cn:=.i underlying95
def Ta:bJ prog 32:=.i func32
def aqH:bJ prog 33:=.i func33
def aaW:bJ prog 107:=.i func107
def S6:bJ prog 70:=.i func70
def aci:bJ prog 74:=.i func74
def aqI:bJ prog 34:=.i func34
def ab4:bJ prog 78:=.i func78
def aqJ:bJ prog 35:=.i func35
def ace:bJ prog 71:=.i func71
def aqK:bJ prog 36:=.i func36
def aqL:bJ prog 37:=.i func37
def aqS:bJ prog 12:=.i func12
def IH:bJ prog 38:=.i func38
def ann:bJ prog 116:=.i func116
def anl:bJ prog 154:=.i func154
def ank:bJ prog 153:=.i func153
def anm:bJ prog 155:=.i func155
def anv:bJ prog 135:=.i func135
def anw:bJ prog 136:=.i func136
def anP:bJ prog 111:=.i func111
def ab6:bJ prog 82:=.i func82
def aqc:bJ prog 39:=.i func39
def apH:bJ prog 83:=.i func83
def IP:bJ prog 13:=.i func13
def EG:bJ prog 41:=.i func41
def aqd:bJ prog 43:=.i func43
structure hW where
 cP:cx
 ih:Int
 hy:Int
 deriving DecidableEq,Inhabited
instance:ak hW:=.str (de cx (de Int (hD Int))) (λx=>(x.cP,x.ih,x.hy)) 6
abbrev KT:aQ hW cx:=.str dj 0 hW.cP λb g=>{b with cP:=g}
abbrev VZ:aQ hW Int:=.str (bB dj) 4 hW.ih λb g=>{b with ih:=g}
abbrev VD:aQ hW Int:=.str (bB (bB hT)) 5 hW.hy λb g=>{b with hy:=g}
instance:a8 hW:=⟨a8.cells cx++a8.cells Int++a8.cells Int,λA W=>⟨by rfl,a8.ok (α:=cx) A W,a8.ok (α:=Int) A W,a8.ok (α:=Int) A W⟩⟩
instance aav:dE prog 126 (default:hW):=.i
instance QK:cD prog 126 0 KT:=.i underlying126 I wW
instance akv:cD prog 126 1 VZ:=.i underlying126 I cm
instance akw:cD prog 126 2 VD:=.i underlying126 I cm
instance:gF prog 126 #[(0,4),(4,1),(5,1)]:=.i underlying126
instance It:bS prog 126 hW:=.i underlying126
instance:jN prog 113 126 hW:=⟨underlying113,It⟩
def anq:bJ prog 112:=.i func112
def anr:bJ prog 113:=.i func113
def abW:bJ prog 84:=.i func84
def aqe:bJ prog 45:=.i func45
def ap5:bJ prog 85:=.i func85
def aqf:bJ prog 46:=.i func46
structure jQ where
 tb:Int
 yj:Int
 deriving DecidableEq,Inhabited
instance:ak jQ:=.str (de Int (hD Int)) (λx=>(x.tb,x.yj)) 2
abbrev Pf:aQ jQ Int:=.str dj 0 jQ.tb λb g=>{b with tb:=g}
abbrev V5:aQ jQ Int:=.str (bB hT) 1 jQ.yj λb g=>{b with yj:=g}
instance:a8 jQ:=⟨a8.cells Int++a8.cells Int,λA W=>⟨by rfl,a8.ok (α:=Int) A W,a8.ok (α:=Int) A W⟩⟩
instance abE:dE prog 48 (default:jQ):=.i
instance Zw:cD prog 48 0 Pf:=.i underlying48 I cm
instance alH:cD prog 48 1 V5:=.i underlying48 I cm
instance:gF prog 48 #[(0,1),(1,1)]:=.i underlying48
instance IG:bS prog 48 jQ:=.i underlying48
instance:jN prog 45 48 jQ:=⟨underlying45,IG⟩
def apI:bJ prog 40:=.i func40
def aqg:bJ prog 14:=.i func14
structure eT where
 bF:Int
 e6:Int
 b6:aN
 deriving DecidableEq,Inhabited
instance:ak eT:=.str (de Int (de Int (hD aN))) (λx=>(x.bF,x.e6,x.b6)) 4
abbrev F4:aQ eT Int:=.str dj 0 eT.bF λb g=>{b with bF:=g}
abbrev Gq:aQ eT Int:=.str (bB dj) 1 eT.e6 λb g=>{b with e6:=g}
abbrev F5:aQ eT aN:=.str (bB (bB hT)) 2 eT.b6 λb g=>{b with b6:=g}
instance:a8 eT:=⟨a8.cells Int++a8.cells Int++a8.cells aN,λA W=>⟨by rfl,a8.ok (α:=Int) A W,a8.ok (α:=Int) A W,a8.ok (α:=aN) A W⟩⟩
structure eU where
 cP:eT
 ih:Int
 hy:Int
 deriving DecidableEq,Inhabited
instance:ak eU:=.str (de eT (de Int (hD Int))) (λx=>(x.cP,x.ih,x.hy)) 6
abbrev F0:aQ eU eT:=.str dj 0 eU.cP λb g=>{b with cP:=g}
abbrev F1:aQ eU Int:=.str (bB dj) 4 eU.ih λb g=>{b with ih:=g}
abbrev FQ:aQ eU Int:=.str (bB (bB hT)) 5 eU.hy λb g=>{b with hy:=g}
instance:a8 eU:=⟨a8.cells eT++a8.cells Int++a8.cells Int,λA W=>⟨by rfl,a8.ok (α:=eT) A W,a8.ok (α:=Int) A W,a8.ok (α:=Int) A W⟩⟩
instance:jN prog 121 52 bl:=⟨underlying121,pX⟩
instance Ej:dE prog 127 (default:eT):=.i
instance:cD prog 127 0 F4:=.i underlying127 I cm
instance:cD prog 127 1 Gq:=.i underlying127 I cm
instance:cD prog 127 2 F5:=.i underlying127 I fx
instance aaK:gF prog 127 #[(0,1),(1,1),(2,2)]:=.i underlying127
instance pQ:bS prog 127 eT:=.i underlying127
instance:jN prog 119 127 eT:=⟨underlying119,pQ⟩
instance pd:bS prog 129 eU:=.i underlying129
instance:jN prog 117 129 eU:=⟨underlying117,pd⟩
instance QG:cD prog 129 0 F0:=.i underlying129 I pQ
def ans:bJ prog 141:=.i func141
def Mt:na prog 127 eT 3:=HF (k:=2) I underlying127 (by kernel_rfl) λd hd A W xs ys x y au aT=>by
 refine Hn (qs F4 cm I (by rfl) Bv (by omega) au aT (qs Gq cm I (by rfl) Bv (by omega) au aT (qs F5 fx I (by rfl) vB (by omega) au aT H2))) ?_;congr 1;rw[kP];simp only[gl,e5,Ho];cases x;cases y;simp[aQ.str,F4,Gq,F5]
def Mu:prog.eqGuardType prog.depth 127=false:=by kernel_rfl
instance:Ci prog 127 eT 3:=⟨Mt,Mu,rfl⟩
instance QH:cD prog 129 1 F1:=.i underlying129 I cm
instance QI:cD prog 129 2 FQ:=.i underlying129 I cm
instance En:dE prog 129 (default:eU):=.i
instance ant:gF prog 129 #[(0,4),(4,1),(5,1)]:=.i underlying129
def aaz:bJ prog 118:=.i func118
def ab1:bJ prog 49:=.i func49
def aqh:bJ prog 47:=.i func47
def aqT:bJ prog 20:=.i func20
def Tb:bJ prog 21:=.i func21
def aqx:bJ prog 52:=.i func52
theorem ap3:dE prog 1 (default:Raw):=.i
instance ap4:bS prog 1 Raw:=.i underlying1
def aay:bJ prog 234:=.i func234
def anu:bJ prog 225:=.i func225
def anQ:bJ prog 264:=.i func264
def anx:bJ prog 279:=.i func279
def anz:bJ prog 278:=.i func278
def anR:bJ prog 270:=.i func270
def anV:bJ prog 259:=.i func259
def apB:bJ prog 211:=.i func211
def aim:kd prog 201 "matchguard/index.lookup" 211:=kd.tK (by kernel_rfl) underlying201 I apB
def apC:bJ prog 219:=.i func219
def ain:kd prog 204 "matchguard/index.lookup" 219:=kd.tK (by kernel_rfl) underlying204 I apC
def apD:bJ prog 254:=.i func254
def aio:kd prog 208 "matchguard/index.lookup" 254:=kd.tK (by kernel_rfl) underlying208 I apD
def an4:bJ prog 120:=.i func120
def aqv:bJ prog 87:=.i func87
def aqy:bJ prog 53:=.i func53
def anA:bJ prog 142:=.i func142
def anD:bJ prog 122:=.i func122
def aqz:bJ prog 54:=.i func54
def aqA:bJ prog 55:=.i func55
def aqU:bJ prog 22:=.i func22
def aqw:bJ prog 81:=.i func81
def aqM:bJ prog 69:=.i func69
def aqN:bJ prog 75:=.i func75
def aqO:bJ prog 80:=.i func80
def acj:bJ prog 18:=.i func18
def aqV:bJ prog 15:=.i func15
instance Bo:bS prog 38 (me cn):=.i underlying38
instance Td:dE prog 38 (default:me cn):=.i
inductive Cell where
 |oM (x:gn) (key:Option Nat) (cap:Nat)
 |tv (x:List (Int×Ref))
 |rH (x:lI)
 |tq (x:List (cx×k0))
 |Bi (x:rl)
 |tr (x:jP)
 |mr (x:List (Int×aH))
 |qI (x:kA)
 |oG (x:List ((Vector aN 4)×Ref))
 |rE (x:List ((Vector aN 4)×Int))
 |Ey (x:sZ)
 |vL (x:eh) (key:Option Nat) (cap:Nat)
 |h3 (x:fc)
 |lO (x:hY)
instance:eu Cell where
 gR p k:=match k with
  | .oM x key cap=>[⟨some p,.cw ({x with hM:=[]}:gn) [(3,aP key x.hM.length cap)]⟩,⟨key,.row 110 (x.hM:aa gm) cap⟩]
  | .tv x=>[⟨some p,.map x⟩]
  | .rH x=>[⟨some p,.var x⟩]
  | .tq x=>[⟨some p,.map x⟩]
  | .Bi x=>[⟨some p,.var x⟩]
  | .tr x=>[⟨some p,.var x⟩]
  | .mr x=>[⟨some p,.map x⟩]
  | .qI x=>[⟨some p,.var x⟩]
  | .oG x=>[⟨some p,.map x⟩]
  | .rE x=>[⟨some p,.map x⟩]
  | .Ey x=>[⟨some p,.var x⟩]
  | .vL x key cap=>[⟨some p,.cw ({x with cz:=[]}:eh) [(10,aP key x.cz.length cap)]⟩,⟨key,.row 54 (x.cz:aa aH) cap⟩]
  | .h3 x=>[⟨some p,.var x⟩]
  | .lO x=>[⟨some p,.var x⟩]
 root p k:=by cases k <;> exact⟨_,jC ..,rfl⟩
def hR(hp:aL Cell)(p:Nat):aD (gn×aD Nat×Nat):=match pat hp p with
 |some (.oM x key cap)=>some (x,key,cap)
 |_=>none
def rA{hp:aL Cell}{p:Nat}{x:gn×aD Nat×Nat}(h:hR hp p=some x):pat hp p=some (.oM x.1 x.2.1 x.2.2):=by
 unfold hR at h;split at h
 ·rename_i ad;cases h;exact ad
 cases h
instance:aeh gn hR (λx=>{x.1 with hM:=[]}) (λx=>[(3,aP x.2.1 x.1.hM.length x.2.2)]):=⟨λh=>⟨_,_,rA h,rfl⟩⟩
def mU(hp:aL Cell)(p:Nat):aD (aa (Int×Ref)):=match pat hp p with
 |some (.tv x)=>some x
 |_=>none
def ym{hp:aL Cell}{p:Nat}{x:aa (Int×Ref)}(h:mU hp p=some x):pat hp p=some (.tv x):=by
 unfold mU at h;split at h
 ·rename_i ad;cases h;exact ad
 cases h
def jT(hp:aL Cell)(p:Nat):aD lI:=match pat hp p with
 |some (.rH x)=>some x
 |_=>none
def wQ{hp:aL Cell}{p:Nat}{x:lI}(h:jT hp p=some x):pat hp p=some (.rH x):=by
 unfold jT at h;split at h
 ·rename_i ad;cases h;exact ad
 cases h
instance:zv lI jT:=⟨λh=>⟨_,wQ h,rfl⟩⟩
def qF(hp:aL Cell)(p:Nat):aD (aa (cx×k0)):=match pat hp p with
 |some (.tq x)=>some x
 |_=>none
def vz{hp:aL Cell}{p:Nat}{x:aa (cx×k0)}(h:qF hp p=some x):pat hp p=some (.tq x):=by
 unfold qF at h;split at h
 ·rename_i ad;cases h;exact ad
 cases h
def qE(hp:aL Cell)(p:Nat):aD rl:=match pat hp p with
 |some (.Bi x)=>some x
 |_=>none
def RV{hp:aL Cell}{p:Nat}{x:rl}(h:qE hp p=some x):pat hp p=some (.Bi x):=by
 unfold qE at h;split at h
 ·rename_i ad;cases h;exact ad
 cases h
instance:zv rl qE:=⟨λh=>⟨_,RV h,rfl⟩⟩
def oE(hp:aL Cell)(p:Nat):aD jP:=match pat hp p with
 |some (.tr x)=>some x
 |_=>none
def vx{hp:aL Cell}{p:Nat}{x:jP}(h:oE hp p=some x):pat hp p=some (.tr x):=by
 unfold oE at h;split at h
 ·rename_i ad;cases h;exact ad
 cases h
instance:zv jP oE:=⟨λh=>⟨_,vx h,rfl⟩⟩
def mV(hp:aL Cell)(p:Nat):aD (aa (Int×aH)):=match pat hp p with
 |some (.mr x)=>some x
 |_=>none
def uo{hp:aL Cell}{p:Nat}{x:aa (Int×aH)}(h:mV hp p=some x):pat hp p=some (.mr x):=by
 unfold mV at h;split at h
 ·rename_i ad;cases h;exact ad
 cases h
def jc(hp:aL Cell)(p:Nat):aD kA:=match pat hp p with
 |some (.qI x)=>some x
 |_=>none
def AV{hp:aL Cell}{p:Nat}{x:kA}(h:jc hp p=some x):pat hp p=some (.qI x):=by
 unfold jc at h;split at h
 ·rename_i ad;cases h;exact ad
 cases h
instance:zv kA jc:=⟨λh=>⟨_,AV h,rfl⟩⟩
def lM(hp:aL Cell)(p:Nat):aD (aa ((Vector aN 4)×Ref)):=match pat hp p with
 |some (.oG x)=>some x
 |_=>none
def pa{hp:aL Cell}{p:Nat}{x:aa ((Vector aN 4)×Ref)}(h:lM hp p=some x):pat hp p=some (.oG x):=by
 unfold lM at h;split at h
 ·rename_i ad;cases h;exact ad
 cases h
def nw(hp:aL Cell)(p:Nat):aD (aa ((Vector aN 4)×Int)):=match pat hp p with
 |some (.rE x)=>some x
 |_=>none
def vw{hp:aL Cell}{p:Nat}{x:aa ((Vector aN 4)×Int)}(h:nw hp p=some x):pat hp p=some (.rE x):=by
 unfold nw at h;split at h
 ·rename_i ad;cases h;exact ad
 cases h
def n0(hp:aL Cell)(p:Nat):aD sZ:=match pat hp p with
 |some (.Ey x)=>some x
 |_=>none
def Io{hp:aL Cell}{p:Nat}{x:sZ}(h:n0 hp p=some x):pat hp p=some (.Ey x):=by
 unfold n0 at h;split at h
 ·rename_i ad;cases h;exact ad
 cases h
instance:zv sZ n0:=⟨λh=>⟨_,Io h,rfl⟩⟩
def rB(hp:aL Cell)(p:Nat):aD (eh×aD Nat×Nat):=match pat hp p with
 |some (.vL x key cap)=>some (x,key,cap)
 |_=>none
def yp{hp:aL Cell}{p:Nat}{x:eh×aD Nat×Nat}(h:rB hp p=some x):pat hp p=some (.vL x.1 x.2.1 x.2.2):=by
 unfold rB at h;split at h
 ·rename_i ad;cases h;exact ad
 cases h
def cV(hp:aL Cell)(p:Nat):aD fc:=match pat hp p with
 |some (.h3 x)=>some x
 |_=>none
def sg{hp:aL Cell}{p:Nat}{x:fc}(h:cV hp p=some x):pat hp p=some (.h3 x):=by
 unfold cV at h;split at h
 ·rename_i ad;cases h;exact ad
 cases h
instance:zv fc cV:=⟨λh=>⟨_,sg h,rfl⟩⟩
def gD(hp:aL Cell)(p:Nat):aD hY:=match pat hp p with
 |some (.lO x)=>some x
 |_=>none
def wP{hp:aL Cell}{p:Nat}{x:hY}(h:gD hp p=some x):pat hp p=some (.lO x):=by
 unfold gD at h;split at h
 ·rename_i ad;cases h;exact ad
 cases h
instance:zv hY gD:=⟨λh=>⟨_,wP h,rfl⟩⟩
end Go.Proofs.YtppgfphgdogpeaaGreat
