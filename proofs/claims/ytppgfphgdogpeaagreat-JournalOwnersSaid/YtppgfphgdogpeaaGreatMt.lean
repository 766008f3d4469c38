/-
  The types of the data, and facts on their tables. Conditions: none.
-/
import Derived.Test.YtppgfphgdogpeaaGreatRows
import Derived.Test.YtppgfphgdogpeaaGreatMl2
set_option linter.unusedVariables false
set_option linter.unusedSimpArgs false
set_option maxRecDepth 100000
namespace Go.Proofs.YtppgfphgdogpeaaGreat
open Go Gv Go.Proofs.Tryz
structure du where
 dH:List (BitVec 8)
 vA:Int
 deriving DecidableEq,Inhabited
instance:aj du:= .str (dD (List (BitVec 8)) (hP Int)) (fun x=>(x.dH,x.vA)) 2
def HE:aJ du (List (BitVec 8)):= .str dK 0 du.dH fun b g=>{ b with dH:=g }
def DB:aJ du Int:= .str (bE hY) 1 du.vA fun b g=>{ b with vA:=g }
instance:bf du:=⟨bf.cells (List (BitVec 8))++bf.cells Int,fun A W=>⟨by rfl,bf.ok (α:=List (BitVec 8)) A W,bf.ok (α:=Int) A W⟩⟩
theorem Oz:bx prog 5 (BitVec 8):=bx.of (by rfl) underlying5 (by kernel_rfl)
theorem agK:cI prog 69 (default:du):=cI.of (by kernel_rfl)
theorem agJ:hn prog 69 #[(0,1),(1,1)]:=⟨_,underlying69,by kernel_rfl,by kernel_rfl⟩
theorem OF:bF prog 7:=⟨_,func7,rfl,by kernel_rfl⟩
structure gk where
 bM:Int
 cM:ByteArray
 fX:Int
 deriving DecidableEq,Inhabited
instance:aj gk:= .str (dD Int (dD ByteArray (hP Int))) (fun x=>(x.bM,x.cM,x.fX)) 3
def rD:aJ gk Int:= .str dK 0 gk.bM fun b g=>{ b with bM:=g }
def uF:aJ gk ByteArray:= .str (bE dK) 1 gk.cM fun b g=>{ b with cM:=g }
def sE:aJ gk Int:= .str (bE (bE hY)) 2 gk.fX fun b g=>{ b with fX:=g }
instance:bf gk:=⟨bf.cells Int++bf.cells ByteArray++bf.cells Int,fun A W=>⟨by rfl,bf.ok (α:=Int) A W,bf.ok (α:=ByteArray) A W,bf.ok (α:=Int) A W⟩⟩
structure lD where
 bM:Int
 cM:ByteArray
 gI:List Int
 deriving DecidableEq,Inhabited
instance:aj lD:= .str (dD Int (dD ByteArray (hP (List Int)))) (fun x=>(x.bM,x.cM,x.gI)) 3
def HG:aJ lD Int:= .str dK 0 lD.bM fun b g=>{ b with bM:=g }
def K7:aJ lD ByteArray:= .str (bE dK) 1 lD.cM fun b g=>{ b with cM:=g }
def KX:aJ lD (List Int):= .str (bE (bE hY)) 2 lD.gI fun b g=>{ b with gI:=g }
instance:bf lD:=⟨bf.cells Int++bf.cells ByteArray++bf.cells (List Int),fun A W=>⟨by rfl,bf.ok (α:=Int) A W,bf.ok (α:=ByteArray) A W,bf.ok (α:=List Int) A W⟩⟩
structure aO where
 dG:BitVec 64
 ch:BitVec 64
 deriving DecidableEq,Inhabited
instance:aj aO:= .str (dD (BitVec 64) (hP (BitVec 64))) (fun x=>(x.dG,x.ch)) 2
def ki:aJ aO (BitVec 64):= .str dK 0 aO.dG fun b g=>{ b with dG:=g }
def fF:aJ aO (BitVec 64):= .str (bE hY) 1 aO.ch fun b g=>{ b with ch:=g }
instance:bf aO:=⟨bf.cells (BitVec 64)++bf.cells (BitVec 64),fun A W=>⟨by rfl,bf.ok (α:=BitVec 64) A W,bf.ok (α:=BitVec 64) A W⟩⟩
structure iX where
 da:aO
 ho:aO
 sP:Int
 deriving DecidableEq,Inhabited
instance:aj iX:= .str (dD aO (dD aO (hP Int))) (fun x=>(x.da,x.ho,x.sP)) 5
def Hz:aJ iX aO:= .str dK 0 iX.da fun b g=>{ b with da:=g }
def HH:aJ iX aO:= .str (bE dK) 2 iX.ho fun b g=>{ b with ho:=g }
def HI:aJ iX Int:= .str (bE (bE hY)) 4 iX.sP fun b g=>{ b with sP:=g }
instance:bf iX:=⟨bf.cells aO++bf.cells aO++bf.cells Int,fun A W=>⟨by rfl,bf.ok (α:=aO) A W,bf.ok (α:=aO) A W,bf.ok (α:=Int) A W⟩⟩
structure eQ where
 bM:Int
 jT:Int
 pW:Int
 rL:List iX
 iI:Int
 deriving DecidableEq,Inhabited
instance:aj eQ:= .str (dD Int (dD Int (dD Int (dD (List iX) (hP Int))))) (fun x=>(x.bM,x.jT,x.pW,x.rL,x.iI)) 5
def HL:aJ eQ Int:= .str dK 0 eQ.bM fun b g=>{ b with bM:=g }
def K1:aJ eQ Int:= .str (bE dK) 1 eQ.jT fun b g=>{ b with jT:=g }
def Qf:aJ eQ Int:= .str (bE (bE dK)) 2 eQ.pW fun b g=>{ b with pW:=g }
def Ht:aJ eQ (List iX):= .str (bE (bE (bE dK))) 3 eQ.rL fun b g=>{ b with rL:=g }
def KW:aJ eQ Int:= .str (bE (bE (bE (bE hY)))) 4 eQ.iI fun b g=>{ b with iI:=g }
instance:bf eQ:=⟨bf.cells Int++bf.cells Int++bf.cells Int++bf.cells (List iX)++bf.cells Int,fun A W=>⟨by rfl,bf.ok (α:=Int) A W,bf.ok (α:=Int) A W,bf.ok (α:=Int) A W,bf.ok (α:=List iX) A W,bf.ok (α:=Int) A W⟩⟩
structure kj where
 cM:ByteArray
 fX:Int
 deriving DecidableEq,Inhabited
instance:aj kj:= .str (dD ByteArray (hP Int)) (fun x=>(x.cM,x.fX)) 2
def HA:aJ kj ByteArray:= .str dK 0 kj.cM fun b g=>{ b with cM:=g }
def DG:aJ kj Int:= .str (bE hY) 1 kj.fX fun b g=>{ b with fX:=g }
instance:bf kj:=⟨bf.cells ByteArray++bf.cells Int,fun A W=>⟨by rfl,bf.ok (α:=ByteArray) A W,bf.ok (α:=Int) A W⟩⟩
structure gP where
 eg:Int
 iO:Int
 da:aO
 deriving DecidableEq,Inhabited
instance:aj gP:= .str (dD Int (dD Int (hP aO))) (fun x=>(x.eg,x.iO,x.da)) 4
def Hr:aJ gP Int:= .str dK 0 gP.eg fun b g=>{ b with eg:=g }
def Qr:aJ gP Int:= .str (bE dK) 1 gP.iO fun b g=>{ b with iO:=g }
def XI:aJ gP aO:= .str (bE (bE hY)) 2 gP.da fun b g=>{ b with da:=g }
instance:bf gP:=⟨bf.cells Int++bf.cells Int++bf.cells aO,fun A W=>⟨by rfl,bf.ok (α:=Int) A W,bf.ok (α:=Int) A W,bf.ok (α:=aO) A W⟩⟩
structure fJ where
 jY:Int
 lQ:Int
 mN:gP
 deriving DecidableEq,Inhabited
instance:aj fJ:= .str (dD Int (dD Int (hP gP))) (fun x=>(x.jY,x.lQ,x.mN)) 6
def uI:aJ fJ Int:= .str dK 0 fJ.jY fun b g=>{ b with jY:=g }
def yv:aJ fJ Int:= .str (bE dK) 1 fJ.lQ fun b g=>{ b with lQ:=g }
def AT:aJ fJ gP:= .str (bE (bE hY)) 2 fJ.mN fun b g=>{ b with mN:=g }
instance:bf fJ:=⟨bf.cells Int++bf.cells Int++bf.cells gP,fun A W=>⟨by rfl,bf.ok (α:=Int) A W,bf.ok (α:=Int) A W,bf.ok (α:=gP) A W⟩⟩
structure eP where
 bM:Int
 cM:ByteArray
 lf:List kj
 qT:List fJ
 tG:ByteArray
 deriving DecidableEq,Inhabited
instance:aj eP:= .str (dD Int (dD ByteArray (dD (List kj) (dD (List fJ) (hP ByteArray))))) (fun x=>(x.bM,x.cM,x.lf,x.qT,x.tG)) 5
def wL:aJ eP Int:= .str dK 0 eP.bM fun b g=>{ b with bM:=g }
def Ay:aJ eP ByteArray:= .str (bE dK) 1 eP.cM fun b g=>{ b with cM:=g }
def Hn:aJ eP (List kj):= .str (bE (bE dK)) 2 eP.lf fun b g=>{ b with lf:=g }
def Dt:aJ eP (List fJ):= .str (bE (bE (bE dK))) 3 eP.qT fun b g=>{ b with qT:=g }
def P5:aJ eP ByteArray:= .str (bE (bE (bE (bE hY)))) 4 eP.tG fun b g=>{ b with tG:=g }
instance:bf eP:=⟨bf.cells Int++bf.cells ByteArray++bf.cells (List kj)++bf.cells (List fJ)++bf.cells ByteArray,fun A W=>⟨by rfl,bf.ok (α:=Int) A W,bf.ok (α:=ByteArray) A W,bf.ok (α:=List kj) A W,bf.ok (α:=List fJ) A W,bf.ok (α:=ByteArray) A W⟩⟩
structure dM where
 cM:ByteArray
 iq:Int
 eg:Int
 deriving DecidableEq,Inhabited
instance:aj dM:= .str (dD ByteArray (dD Int (hP Int))) (fun x=>(x.cM,x.iq,x.eg)) 3
def uH:aJ dM ByteArray:= .str dK 0 dM.cM fun b g=>{ b with cM:=g }
def sG:aJ dM Int:= .str (bE dK) 1 dM.iq fun b g=>{ b with iq:=g }
def pU:aJ dM Int:= .str (bE (bE hY)) 2 dM.eg fun b g=>{ b with eg:=g }
instance:bf dM:=⟨bf.cells ByteArray++bf.cells Int++bf.cells Int,fun A W=>⟨by rfl,bf.ok (α:=ByteArray) A W,bf.ok (α:=Int) A W,bf.ok (α:=Int) A W⟩⟩
structure cn where
 bM:Int
 cM:ByteArray
 dr:List dM
 dV:List Int
 iI:Int
 yA:List aO
 hG:Int
 tG:ByteArray
 deriving DecidableEq,Inhabited
instance:aj cn:= .str (dD Int (dD ByteArray (dD (List dM) (dD (List Int) (dD Int (dD (List aO) (dD Int (hP ByteArray)))))))) (fun x=>(x.bM,x.cM,x.dr,x.dV,x.iI,x.yA,x.hG,x.tG)) 8
def pd:aJ cn Int:= .str dK 0 cn.bM fun b g=>{ b with bM:=g }
def HB:aJ cn ByteArray:= .str (bE dK) 1 cn.cM fun b g=>{ b with cM:=g }
def nd:aJ cn (List dM):= .str (bE (bE dK)) 2 cn.dr fun b g=>{ b with dr:=g }
def Ap:aJ cn (List Int):= .str (bE (bE (bE dK))) 3 cn.dV fun b g=>{ b with dV:=g }
def Ho:aJ cn Int:= .str (bE (bE (bE (bE dK)))) 4 cn.iI fun b g=>{ b with iI:=g }
def Xm:aJ cn (List aO):= .str (bE (bE (bE (bE (bE dK))))) 5 cn.yA fun b g=>{ b with yA:=g }
def AH:aJ cn Int:= .str (bE (bE (bE (bE (bE (bE dK)))))) 6 cn.hG fun b g=>{ b with hG:=g }
def Xn:aJ cn ByteArray:= .str (bE (bE (bE (bE (bE (bE (bE hY))))))) 7 cn.tG fun b g=>{ b with tG:=g }
instance:bf cn:=⟨bf.cells Int++bf.cells ByteArray++bf.cells (List dM)++bf.cells (List Int)++bf.cells Int++bf.cells (List aO)++bf.cells Int++bf.cells ByteArray,fun A W=>⟨by rfl,bf.ok (α:=Int) A W,bf.ok (α:=ByteArray) A W,bf.ok (α:=List dM) A W,bf.ok (α:=List Int) A W,bf.ok (α:=Int) A W,bf.ok (α:=List aO) A W,bf.ok (α:=Int) A W,bf.ok (α:=ByteArray) A W⟩⟩
structure gQ where
 b3:Int
 jT:Int
 deriving DecidableEq,Inhabited
instance:aj gQ:= .str (dD Int (hP Int)) (fun x=>(x.b3,x.jT)) 2
def Dv:aJ gQ Int:= .str dK 0 gQ.b3 fun b g=>{ b with b3:=g }
def K3:aJ gQ Int:= .str (bE hY) 1 gQ.jT fun b g=>{ b with jT:=g }
instance:bf gQ:=⟨bf.cells Int++bf.cells Int,fun A W=>⟨by rfl,bf.ok (α:=Int) A W,bf.ok (α:=Int) A W⟩⟩
structure fz where
 b3:Int
 u1:Bool
 uV:Bool
 dr:List Bool
 deriving DecidableEq,Inhabited
instance:aj fz:= .str (dD Int (dD Bool (dD Bool (hP (List Bool))))) (fun x=>(x.b3,x.u1,x.uV,x.dr)) 4
def K5:aJ fz Int:= .str dK 0 fz.b3 fun b g=>{ b with b3:=g }
def K9:aJ fz Bool:= .str (bE dK) 1 fz.u1 fun b g=>{ b with u1:=g }
def K6:aJ fz Bool:= .str (bE (bE dK)) 2 fz.uV fun b g=>{ b with uV:=g }
def La:aJ fz (List Bool):= .str (bE (bE (bE hY))) 3 fz.dr fun b g=>{ b with dr:=g }
instance:bf fz:=⟨bf.cells Int++bf.cells Bool++bf.cells Bool++bf.cells (List Bool),fun A W=>⟨by rfl,bf.ok (α:=Int) A W,bf.ok (α:=Bool) A W,bf.ok (α:=Bool) A W,bf.ok (α:=List Bool) A W⟩⟩
structure dP where
 bM:Int
 cM:ByteArray
 lg:List fz
 dV:List Int
 iK:Int
 EC:Bool
 deriving DecidableEq,Inhabited
instance:aj dP:= .str (dD Int (dD ByteArray (dD (List fz) (dD (List Int) (dD Int (hP Bool)))))) (fun x=>(x.bM,x.cM,x.lg,x.dV,x.iK,x.EC)) 6
def AW:aJ dP Int:= .str dK 0 dP.bM fun b g=>{ b with bM:=g }
def Lc:aJ dP ByteArray:= .str (bE dK) 1 dP.cM fun b g=>{ b with cM:=g }
def Az:aJ dP (List fz):= .str (bE (bE dK)) 2 dP.lg fun b g=>{ b with lg:=g }
def K2:aJ dP (List Int):= .str (bE (bE (bE dK))) 3 dP.dV fun b g=>{ b with dV:=g }
def AI:aJ dP Int:= .str (bE (bE (bE (bE dK)))) 4 dP.iK fun b g=>{ b with iK:=g }
def Yo:aJ dP Bool:= .str (bE (bE (bE (bE (bE hY))))) 5 dP.EC fun b g=>{ b with EC:=g }
instance:bf dP:=⟨bf.cells Int++bf.cells ByteArray++bf.cells (List fz)++bf.cells (List Int)++bf.cells Int++bf.cells Bool,fun A W=>⟨by rfl,bf.ok (α:=Int) A W,bf.ok (α:=ByteArray) A W,bf.ok (α:=List fz) A W,bf.ok (α:=List Int) A W,bf.ok (α:=Int) A W,bf.ok (α:=Bool) A W⟩⟩
structure e6 where
 b3:Int
 lk:Int
 fc:Int
 w4:Int
 lF:Int
 qQ:Int
 deriving DecidableEq,Inhabited
instance:aj e6:= .str (dD Int (dD Int (dD Int (dD Int (dD Int (hP Int)))))) (fun x=>(x.b3,x.lk,x.fc,x.w4,x.lF,x.qQ)) 6
def DN:aJ e6 Int:= .str dK 0 e6.b3 fun b g=>{ b with b3:=g }
def Lj:aJ e6 Int:= .str (bE dK) 1 e6.lk fun b g=>{ b with lk:=g }
def HC:aJ e6 Int:= .str (bE (bE dK)) 2 e6.fc fun b g=>{ b with fc:=g }
def YE:aJ e6 Int:= .str (bE (bE (bE dK))) 3 e6.w4 fun b g=>{ b with w4:=g }
def wG:aJ e6 Int:= .str (bE (bE (bE (bE dK)))) 4 e6.lF fun b g=>{ b with lF:=g }
def HJ:aJ e6 Int:= .str (bE (bE (bE (bE (bE hY))))) 5 e6.qQ fun b g=>{ b with qQ:=g }
instance:bf e6:=⟨bf.cells Int++bf.cells Int++bf.cells Int++bf.cells Int++bf.cells Int++bf.cells Int,fun A W=>⟨by rfl,bf.ok (α:=Int) A W,bf.ok (α:=Int) A W,bf.ok (α:=Int) A W,bf.ok (α:=Int) A W,bf.ok (α:=Int) A W,bf.ok (α:=Int) A W⟩⟩
structure aZ where
 gI:List gk
 oh:List lD
 oS:List eQ
 dV:List eP
 bQ:List cn
 pX:List gQ
 eR:List dP
 e9:List e6
 Ek:Int
 Er:Int
 deriving DecidableEq,Inhabited
instance:aj aZ:= .str (dD (List gk) (dD (List lD) (dD (List eQ) (dD (List eP) (dD (List cn) (dD (List gQ) (dD (List dP) (dD (List e6) (dD Int (hP Int)))))))))) (fun x=>(x.gI,x.oh,x.oS,x.dV,x.bQ,x.pX,x.eR,x.e9,x.Ek,x.Er)) 10
def De:aJ aZ (List gk):= .str dK 0 aZ.gI fun b g=>{ b with gI:=g }
def P8:aJ aZ (List lD):= .str (bE dK) 1 aZ.oh fun b g=>{ b with oh:=g }
def Qc:aJ aZ (List eQ):= .str (bE (bE dK)) 2 aZ.oS fun b g=>{ b with oS:=g }
def KU:aJ aZ (List eP):= .str (bE (bE (bE dK))) 3 aZ.dV fun b g=>{ b with dV:=g }
def pS:aJ aZ (List cn):= .str (bE (bE (bE (bE dK)))) 4 aZ.bQ fun b g=>{ b with bQ:=g }
def KY:aJ aZ (List gQ):= .str (bE (bE (bE (bE (bE dK))))) 5 aZ.pX fun b g=>{ b with pX:=g }
def ym:aJ aZ (List dP):= .str (bE (bE (bE (bE (bE (bE dK)))))) 6 aZ.eR fun b g=>{ b with eR:=g }
def AA:aJ aZ (List e6):= .str (bE (bE (bE (bE (bE (bE (bE dK))))))) 7 aZ.e9 fun b g=>{ b with e9:=g }
def Xx:aJ aZ Int:= .str (bE (bE (bE (bE (bE (bE (bE (bE dK)))))))) 8 aZ.Ek fun b g=>{ b with Ek:=g }
def XJ:aJ aZ Int:= .str (bE (bE (bE (bE (bE (bE (bE (bE (bE hY))))))))) 9 aZ.Er fun b g=>{ b with Er:=g }
instance:bf aZ:=⟨bf.cells (List gk)++bf.cells (List lD)++bf.cells (List eQ)++bf.cells (List eP)++bf.cells (List cn)++bf.cells (List gQ)++bf.cells (List dP)++bf.cells (List e6)++bf.cells Int++bf.cells Int,fun A W=>⟨by rfl,bf.ok (α:=List gk) A W,bf.ok (α:=List lD) A W,bf.ok (α:=List eQ) A W,bf.ok (α:=List eP) A W,bf.ok (α:=List cn) A W,bf.ok (α:=List gQ) A W,bf.ok (α:=List dP) A W,bf.ok (α:=List e6) A W,bf.ok (α:=Int) A W,bf.ok (α:=Int) A W⟩⟩
theorem JD:cI prog 32 (default:aZ):=cI.of (by kernel_rfl)
theorem bj:bx prog 3 Int:=bx.of (by rfl) underlying3 (by kernel_rfl)
theorem EI:bU prog 69 1 1:=bU.of underlying69 rfl rfl bj rfl
theorem Jz:bx prog 22 (List (BitVec 8)):=bx.of (by rfl) underlying22 (by kernel_rfl)
theorem MG:bU prog 69 0 0:=bU.of underlying69 rfl rfl Jz rfl
theorem mixed:prog.follows .mixedOrders=true:=by kernel_rfl
theorem Vv:bF prog 11:=⟨_,func11,rfl,by kernel_rfl⟩
theorem hc:bF prog 17:=⟨_,func17,rfl,by kernel_rfl⟩
theorem agQ:hn prog 32 #[(0,1),(1,1),(2,1),(3,1),(4,1),(5,1),(6,1),(7,1),(8,1),(9,1)]:=⟨_,underlying32,by kernel_rfl,by kernel_rfl⟩
theorem fr:bx prog 32 aZ:=bx.of (by rfl) underlying32 (by kernel_rfl)
theorem r9:cI prog 71 (default:gk):=cI.of (by kernel_rfl)
theorem vu:hn prog 71 #[(0,1),(1,1),(2,1)]:=⟨_,underlying71,by kernel_rfl,by kernel_rfl⟩
theorem ua:bx prog 71 gk:=bx.of (by rfl) underlying71 (by kernel_rfl)
theorem Cg:bx prog 23 (List gk):=bx.of (by rfl) underlying23 (by kernel_rfl)
theorem EK:bU prog 32 0 0:=bU.of underlying32 rfl rfl Cg rfl
theorem fk:cI prog 3 (default:Int):=cI.of (by kernel_rfl)
theorem Fi:cI prog 73 (default:lD):=cI.of (by kernel_rfl)
theorem N0:hn prog 73 #[(0,1),(1,1),(2,1)]:=⟨_,underlying73,by kernel_rfl,by kernel_rfl⟩
theorem JA:bx prog 73 lD:=bx.of (by rfl) underlying73 (by kernel_rfl)
theorem NW:bx prog 24 (List lD):=bx.of (by rfl) underlying24 (by kernel_rfl)
theorem Tu:bU prog 32 1 1:=bU.of underlying32 rfl rfl NW rfl
theorem xj:cI prog 141 (default:eQ):=cI.of (by kernel_rfl)
theorem Ni:hn prog 141 #[(0,1),(1,1),(2,1),(3,1),(4,1)]:=⟨_,underlying141,by kernel_rfl,by kernel_rfl⟩
theorem tV:bx prog 141 eQ:=bx.of (by rfl) underlying141 (by kernel_rfl)
theorem fa:cI prog 106 (default:aO):=cI.of (by kernel_rfl)
theorem jd:hn prog 106 #[(0,1),(1,1)]:=⟨_,underlying106,by kernel_rfl,by kernel_rfl⟩
theorem xk:cI prog 143 (default:iX):=cI.of (by kernel_rfl)
theorem Jd:hn prog 143 #[(0,2),(2,2),(4,1)]:=⟨_,underlying143,by kernel_rfl,by kernel_rfl⟩
theorem Je:bx prog 143 iX:=bx.of (by rfl) underlying143 (by kernel_rfl)
theorem E3:bx prog 139 (List iX):=bx.of (by rfl) underlying139 (by kernel_rfl)
theorem Iy:bU prog 141 3 3:=bU.of underlying141 rfl rfl E3 rfl
theorem pt:bF prog 27:=⟨_,func27,rfl,by kernel_rfl⟩
theorem SI:kh prog 141 [3]:=by unfold kh;kernel_rfl
theorem agR:bF prog 23:=⟨_,func23,rfl,by kernel_rfl⟩
theorem E4:cI prog 145 (default:gP):=cI.of (by kernel_rfl)
theorem Jf:hn prog 145 #[(0,1),(1,1),(2,2)]:=⟨_,underlying145,by kernel_rfl,by kernel_rfl⟩
theorem Jg:bx prog 145 gP:=bx.of (by rfl) underlying145 (by kernel_rfl)
theorem sV:cI prog 149 (default:eP):=cI.of (by kernel_rfl)
theorem za:hn prog 149 #[(0,1),(1,1),(2,1),(3,1),(4,1)]:=⟨_,underlying149,by kernel_rfl,by kernel_rfl⟩
theorem p5:cI prog 151 (default:fJ):=cI.of (by kernel_rfl)
theorem vf:hn prog 151 #[(0,1),(1,1),(2,4)]:=⟨_,underlying151,by kernel_rfl,by kernel_rfl⟩
theorem E5:bx prog 151 fJ:=bx.of (by rfl) underlying151 (by kernel_rfl)
theorem xl:cI prog 153 (default:kj):=cI.of (by kernel_rfl)
theorem Jh:hn prog 153 #[(0,1),(1,1)]:=⟨_,underlying153,by kernel_rfl,by kernel_rfl⟩
theorem B3:bx prog 153 kj:=bx.of (by rfl) underlying153 (by kernel_rfl)
theorem p3:bx prog 149 eP:=bx.of (by rfl) underlying149 (by kernel_rfl)
theorem te:bx prog 9 ByteArray:=bx.of (by rfl) underlying9 (by kernel_rfl)
theorem SJ:bU prog 149 4 4:=bU.of underlying149 rfl rfl te rfl
theorem agS:bF prog 24:=⟨_,func24,rfl,by kernel_rfl⟩
theorem mo:cI prog 155 (default:dM):=cI.of (by kernel_rfl)
theorem vg:hn prog 155 #[(0,1),(1,1),(2,1)]:=⟨_,underlying155,by kernel_rfl,by kernel_rfl⟩
theorem mM:bx prog 155 dM:=bx.of (by rfl) underlying155 (by kernel_rfl)
theorem nX:cI prog 84 (default:cn):=cI.of (by kernel_rfl)
theorem Ft:hn prog 84 #[(0,1),(1,1),(2,1),(3,1),(4,1),(5,1),(6,1),(7,1)]:=⟨_,underlying84,by kernel_rfl,by kernel_rfl⟩
theorem ha:bx prog 84 cn:=bx.of (by rfl) underlying84 (by kernel_rfl)
theorem o2:bx prog 82 (List dM):=bx.of (by rfl) underlying82 (by kernel_rfl)
theorem pk:bU prog 84 2 2:=bU.of underlying84 rfl rfl o2 rfl
theorem ML:kh prog 84 [2]:=by unfold kh;kernel_rfl
theorem MK:kh prog 84 []:=by unfold kh;kernel_rfl
theorem cm:bx prog 106 aO:=bx.of (by rfl) underlying106 (by kernel_rfl)
theorem J0:cI prog 9 (default:ByteArray):=cI.of (by kernel_rfl)
theorem Nj:bx prog 156 (List ByteArray):=bx.of (by rfl) underlying156 (by kernel_rfl)
theorem aeq:cI prog 156 (default:List ByteArray):=cI.of (by kernel_rfl)
theorem ac1:bU prog 84 7 7:=bU.of underlying84 rfl rfl te rfl
theorem agT:bF prog 25:=⟨_,func25,rfl,by kernel_rfl⟩
theorem NX:bx prog 25 (List eQ):=bx.of (by rfl) underlying25 (by kernel_rfl)
theorem Tv:bU prog 32 2 2:=bU.of underlying32 rfl rfl NX rfl
theorem JB:bx prog 26 (List eP):=bx.of (by rfl) underlying26 (by kernel_rfl)
theorem MJ:bU prog 32 3 3:=bU.of underlying32 rfl rfl JB rfl
theorem ps:bx prog 27 (List cn):=bx.of (by rfl) underlying27 (by kernel_rfl)
theorem p0:bU prog 32 4 4:=bU.of underlying32 rfl rfl ps rfl
theorem ub:cI prog 58 (default:dP):=cI.of (by kernel_rfl)
theorem NZ:hn prog 58 #[(0,1),(1,1),(2,1),(3,1),(4,1),(5,1)]:=⟨_,underlying58,by kernel_rfl,by kernel_rfl⟩
theorem mP:bx prog 58 dP:=bx.of (by rfl) underlying58 (by kernel_rfl)
theorem jP:bx prog 4 Bool:=bx.of (by rfl) underlying4 (by kernel_rfl)
theorem V7:cI prog 4 (default:Bool):=cI.of (by kernel_rfl)
theorem zt:bx prog 55 (List fz):=bx.of (by rfl) underlying55 (by kernel_rfl)
theorem BK:bU prog 58 2 2:=bU.of underlying58 rfl rfl zt rfl
theorem sO:bU prog 84 0 0:=bU.of underlying84 rfl rfl bj rfl
theorem vh:cI prog 160 (default:fz):=cI.of (by kernel_rfl)
theorem Nk:hn prog 160 #[(0,1),(1,1),(2,1),(3,1)]:=⟨_,underlying160,by kernel_rfl,by kernel_rfl⟩
theorem B4:bx prog 160 fz:=bx.of (by rfl) underlying160 (by kernel_rfl)
theorem BJ:kh prog 58 [2]:=by unfold kh;kernel_rfl
theorem agU:bF prog 26:=⟨_,func26,rfl,by kernel_rfl⟩
theorem r7:bx prog 29 (List dP):=bx.of (by rfl) underlying29 (by kernel_rfl)
theorem yV:bU prog 32 6 6:=bU.of underlying32 rfl rfl r7 rfl
theorem xB:cI prog 79 (default:gQ):=cI.of (by kernel_rfl)
theorem Fu:hn prog 79 #[(0,1),(1,1)]:=⟨_,underlying79,by kernel_rfl,by kernel_rfl⟩
theorem N1:bx prog 79 gQ:=bx.of (by rfl) underlying79 (by kernel_rfl)
theorem JE:bx prog 28 (List gQ):=bx.of (by rfl) underlying28 (by kernel_rfl)
theorem MM:bU prog 32 5 5:=bU.of underlying32 rfl rfl JE rfl
theorem vv:bx prog 30 (List e6):=bx.of (by rfl) underlying30 (by kernel_rfl)
theorem xb:bU prog 32 7 7:=bU.of underlying32 rfl rfl vv rfl
theorem sc:cI prog 81 (default:e6):=cI.of (by kernel_rfl)
theorem JF:hn prog 81 #[(0,1),(1,1),(2,1),(3,1),(4,1),(5,1)]:=⟨_,underlying81,by kernel_rfl,by kernel_rfl⟩
theorem sd:bx prog 81 e6:=bx.of (by rfl) underlying81 (by kernel_rfl)
theorem RT:kh prog 32 [5,7]:=by unfold kh;kernel_rfl
theorem Wh:bF prog 8:=⟨_,func8,rfl,by kernel_rfl⟩
structure iW where
 gJ:aZ
 pV:fj
 l6:Int
 deriving DecidableEq,Inhabited
instance:aj iW:= .str (dD aZ (dD fj (hP Int))) (fun x=>(x.gJ,x.pV,x.l6)) 12
def Dc:aJ iW aZ:= .str dK 0 iW.gJ fun b g=>{ b with gJ:=g }
def Da:aJ iW fj:= .str (bE dK) 10 iW.pV fun b g=>{ b with pV:=g }
def Av:aJ iW Int:= .str (bE (bE hY)) 11 iW.l6 fun b g=>{ b with l6:=g }
instance:bf iW:=⟨bf.cells aZ++bf.cells fj++bf.cells Int,fun A W=>⟨by rfl,bf.ok (α:=aZ) A W,bf.ok (α:=fj) A W,bf.ok (α:=Int) A W⟩⟩
theorem aeG:cI prog 163 (default:iW):=cI.of (by kernel_rfl)
theorem aeF:hn prog 163 #[(0,10),(10,1),(11,1)]:=⟨_,underlying163,by kernel_rfl,by kernel_rfl⟩
theorem IB:bU prog 163 0 0:=bU.of underlying163 rfl rfl fr rfl
theorem ael:bF prog 124:=⟨_,func124,rfl,by kernel_rfl⟩
theorem aem:bF prog 123:=⟨_,func123,rfl,by kernel_rfl⟩
theorem N2:bF prog 90:=⟨_,func90,rfl,by kernel_rfl⟩
theorem EA:bU prog 155 2 2:=bU.of underlying155 rfl rfl bj rfl
theorem agW:bF prog 91:=⟨_,func91,rfl,by kernel_rfl⟩
structure cg where
 fO:Bool
 da:aO
 ho:aO
 gm:Int
 nQ:aO
 deriving DecidableEq,Inhabited
instance:aj cg:= .str (dD Bool (dD aO (dD aO (dD Int (hP aO))))) (fun x=>(x.fO,x.da,x.ho,x.gm,x.nQ)) 8
def qM:aJ cg Bool:= .str dK 0 cg.fO fun b g=>{ b with fO:=g }
def pT:aJ cg aO:= .str (bE dK) 1 cg.da fun b g=>{ b with da:=g }
def uG:aJ cg aO:= .str (bE (bE dK)) 3 cg.ho fun b g=>{ b with ho:=g }
def sD:aJ cg Int:= .str (bE (bE (bE dK))) 5 cg.gm fun b g=>{ b with gm:=g }
def yp:aJ cg aO:= .str (bE (bE (bE (bE hY)))) 6 cg.nQ fun b g=>{ b with nQ:=g }
instance:bf cg:=⟨bf.cells Bool++bf.cells aO++bf.cells aO++bf.cells Int++bf.cells aO,fun A W=>⟨by rfl,bf.ok (α:=Bool) A W,bf.ok (α:=aO) A W,bf.ok (α:=aO) A W,bf.ok (α:=Int) A W,bf.ok (α:=aO) A W⟩⟩
structure a8 where
 b3:Int
 cU:List cg
 gl:Int
 fc:Int
 fP:List aO
 deriving DecidableEq,Inhabited
instance:aj a8:= .str (dD Int (dD (List cg) (dD Int (dD Int (hP (List aO)))))) (fun x=>(x.b3,x.cU,x.gl,x.fc,x.fP)) 5
def kQ:aJ a8 Int:= .str dK 0 a8.b3 fun b g=>{ b with b3:=g }
def mm:aJ a8 (List cg):= .str (bE dK) 1 a8.cU fun b g=>{ b with cU:=g }
def sB:aJ a8 Int:= .str (bE (bE dK)) 2 a8.gl fun b g=>{ b with gl:=g }
def tE:aJ a8 Int:= .str (bE (bE (bE dK))) 3 a8.fc fun b g=>{ b with fc:=g }
def rC:aJ a8 (List aO):= .str (bE (bE (bE (bE hY)))) 4 a8.fP fun b g=>{ b with fP:=g }
instance:bf a8:=⟨bf.cells Int++bf.cells (List cg)++bf.cells Int++bf.cells Int++bf.cells (List aO),fun A W=>⟨by rfl,bf.ok (α:=Int) A W,bf.ok (α:=List cg) A W,bf.ok (α:=Int) A W,bf.ok (α:=Int) A W,bf.ok (α:=List aO) A W⟩⟩
structure az where
 bd:a8
 b8:Int
 dA:Int
 deriving DecidableEq,Inhabited
instance:aj az:= .str (dD a8 (dD Int (hP Int))) (fun x=>(x.bd,x.b8,x.dA)) 7
def h4:aJ az a8:= .str dK 0 az.bd fun b g=>{ b with bd:=g }
def oe:aJ az Int:= .str (bE dK) 5 az.b8 fun b g=>{ b with b8:=g }
def tD:aJ az Int:= .str (bE (bE hY)) 6 az.dA fun b g=>{ b with dA:=g }
instance:bf az:=⟨bf.cells a8++bf.cells Int++bf.cells Int,fun A W=>⟨by rfl,bf.ok (α:=a8) A W,bf.ok (α:=Int) A W,bf.ok (α:=Int) A W⟩⟩
structure nG where
 uk:Ref
 deriving DecidableEq,Inhabited
instance:aj nG:= .str (hP Ref) (fun x=>x.uk) 1
def Hy:aJ nG Ref:= .str hY 0 nG.uk fun b g=>{ b with uk:=g }
instance:bf nG:=⟨bf.cells Ref,fun A W=>⟨by rfl,bf.ok (α:=Ref) A W⟩⟩
structure jS where
 vi:Int
 gR:Int
 qP:fj
 deriving DecidableEq,Inhabited
instance:aj jS:= .str (dD Int (dD Int (hP fj))) (fun x=>(x.vi,x.gR,x.qP)) 3
def Db:aJ jS Int:= .str dK 0 jS.vi fun b g=>{ b with vi:=g }
def KR:aJ jS Int:= .str (bE dK) 1 jS.gR fun b g=>{ b with gR:=g }
def uB:aJ jS fj:= .str (bE (bE hY)) 2 jS.qP fun b g=>{ b with qP:=g }
instance:bf jS:=⟨bf.cells Int++bf.cells Int++bf.cells fj,fun A W=>⟨by rfl,bf.ok (α:=Int) A W,bf.ok (α:=Int) A W,bf.ok (α:=fj) A W⟩⟩
structure nH where
 dH:Ref
 deriving DecidableEq,Inhabited
instance:aj nH:= .str (hP Ref) (fun x=>x.dH) 1
def HD:aJ nH Ref:= .str hY 0 nH.dH fun b g=>{ b with dH:=g }
instance:bf nH:=⟨bf.cells Ref,fun A W=>⟨by rfl,bf.ok (α:=Ref) A W⟩⟩
inductive h5 where
 | nil
 | pw (x:nG)
 | px (x:jS)
 | py (x:nH)
 deriving DecidableEq,Inhabited
instance:aj h5 where
 size:=1
 agg:=false
 rep A W cs x:=match x with
  | .nil=>cs= [.nilIface]
  | .pw x=> ∃ v,cs= [.iface 201 v]∧ (I.of x).holds A W v
  | .px x=> ∃ v,cs= [.iface 204 v]∧ (I.of x).holds A W v
  | .py x=> ∃ v,cs= [.iface 208 v]∧ (I.of x).holds A W v
 len {A W cs x} h:=by cases x <;> first | (have h:cs=_:=h;rw [h];rfl) | (obtain⟨v,h,_⟩:=h;rw [h];rfl)
 one {A W cs x} h:=by
  intro u hu;cases x <;> first | (have h:cs=_:=h;rw [h] at hu;rw [List.mem_singleton.1 hu];rfl) | (obtain⟨v,h,_⟩:=h;rw [h] at hu;rw [List.mem_singleton.1 hu];rfl)
 flat _:=rfl
 mono {A W dd W' cs x} e h:=by cases x <;> first | exact h | (obtain⟨v,h,ae⟩:=h;exact⟨v,h,I.mono _ e ae⟩)
instance:bf h5:=⟨[.nilIface],fun _ _=>rfl⟩
theorem aal {A W v}{x:nG}(h:(I.of x).holds A W v):(I.of (h5.pw x)).holds A W (.iface 201 v):=⟨rfl,v,rfl,h⟩
theorem LK {A W u}{x:nG}(h:(I.of (h5.pw x)).holds A W u):∃ v,u= .iface 201 v∧ (I.of x).holds A W v:=by
 obtain⟨h1,v,ae,aA⟩:=h;exact⟨v,oR h1 ae,aA⟩
theorem aam {A W v}{x:jS}(h:(I.of x).holds A W v):(I.of (h5.px x)).holds A W (.iface 204 v):=⟨rfl,v,rfl,h⟩
theorem LL {A W u}{x:jS}(h:(I.of (h5.px x)).holds A W u):∃ v,u= .iface 204 v∧ (I.of x).holds A W v:=by
 obtain⟨h1,v,ae,aA⟩:=h;exact⟨v,oR h1 ae,aA⟩
theorem aan {A W v}{x:nH}(h:(I.of x).holds A W v):(I.of (h5.py x)).holds A W (.iface 208 v):=⟨rfl,v,rfl,h⟩
theorem LM {A W u}{x:nH}(h:(I.of (h5.py x)).holds A W u):∃ v,u= .iface 208 v∧ (I.of x).holds A W v:=by
 obtain⟨h1,v,ae,aA⟩:=h;exact⟨v,oR h1 ae,aA⟩
structure h6 where
 u3:Int
 u4:Int
 kT:h5
 lG:fj
 deriving DecidableEq,Inhabited
instance:aj h6:= .str (dD Int (dD Int (dD h5 (hP fj)))) (fun x=>(x.u3,x.u4,x.kT,x.lG)) 4
def XS:aJ h6 Int:= .str dK 0 h6.u3 fun b g=>{ b with u3:=g }
def XT:aJ h6 Int:= .str (bE dK) 1 h6.u4 fun b g=>{ b with u4:=g }
def yi:aJ h6 h5:= .str (bE (bE dK)) 2 h6.kT fun b g=>{ b with kT:=g }
def yf:aJ h6 fj:= .str (bE (bE (bE hY))) 3 h6.lG fun b g=>{ b with lG:=g }
instance:bf h6:=⟨bf.cells Int++bf.cells Int++bf.cells h5++bf.cells fj,fun A W=>⟨by rfl,bf.ok (α:=Int) A W,bf.ok (α:=Int) A W,bf.ok (α:=h5) A W,bf.ok (α:=fj) A W⟩⟩
theorem aey:cI prog 197 (default:h6):=cI.of (by kernel_rfl)
theorem aex:hn prog 197 #[(0,1),(1,1),(2,1),(3,1)]:=⟨_,underlying197,by kernel_rfl,by kernel_rfl⟩
structure pe where
 o0:fj
 deriving DecidableEq,Inhabited
instance:aj pe:= .str (hP fj) (fun x=>x.o0) 1
def Dn:aJ pe fj:= .str hY 0 pe.o0 fun b g=>{ b with o0:=g }
instance:bf pe:=⟨bf.cells fj,fun A W=>⟨by rfl,bf.ok (α:=fj) A W⟩⟩
theorem ad8:cI prog 231 (default:pe):=cI.of (by kernel_rfl)
theorem ad7:hn prog 231 #[(0,1)]:=⟨_,underlying231,by kernel_rfl,by kernel_rfl⟩
theorem agX:bF prog 92:=⟨_,func92,rfl,by kernel_rfl⟩
theorem aeA:cI prog 201 (default:nG):=cI.of (by kernel_rfl)
theorem aez:hn prog 201 #[(0,1)]:=⟨_,underlying201,by kernel_rfl,by kernel_rfl⟩
theorem xm:bx prog 195 h5:=bx.of (by rfl) underlying195 (by kernel_rfl)
theorem yR:bU prog 197 2 2:=bU.of underlying197 rfl rfl xm rfl
theorem MH:bU prog 71 0 0:=bU.of underlying71 rfl rfl bj rfl
theorem aen:bF prog 126:=⟨_,func126,rfl,by kernel_rfl⟩
theorem aeo:bF prog 125:=⟨_,func125,rfl,by kernel_rfl⟩
theorem SM:bU prog 155 1 1:=bU.of underlying155 rfl rfl bj rfl
theorem agY:bF prog 93:=⟨_,func93,rfl,by kernel_rfl⟩
theorem Ts:bU prog 71 2 2:=bU.of underlying71 rfl rfl bj rfl
theorem aeC:cI prog 204 (default:jS):=cI.of (by kernel_rfl)
theorem aeB:hn prog 204 #[(0,1),(1,1),(2,1)]:=⟨_,underlying204,by kernel_rfl,by kernel_rfl⟩
structure er where
 l4:aZ
 dH:List az
 deriving DecidableEq,Inhabited
instance:aj er:= .str (dD aZ (hP (List az))) (fun x=>(x.l4,x.dH)) 11
def KQ:aJ er aZ:= .str dK 0 er.l4 fun b g=>{ b with l4:=g }
def AG:aJ er (List az):= .str (bE hY) 10 er.dH fun b g=>{ b with dH:=g }
instance:bf er:=⟨bf.cells aZ++bf.cells (List az),fun A W=>⟨by rfl,bf.ok (α:=aZ) A W,bf.ok (α:=List az) A W⟩⟩
theorem aea:cI prog 235 (default:er):=cI.of (by kernel_rfl)
theorem ad9:hn prog 235 #[(0,10),(10,1)]:=⟨_,underlying235,by kernel_rfl,by kernel_rfl⟩
theorem agZ:bF prog 94:=⟨_,func94,rfl,by kernel_rfl⟩
theorem abf:kh prog 235 [10]:=by unfold kh;kernel_rfl
theorem aeE:cI prog 208 (default:nH):=cI.of (by kernel_rfl)
theorem aeD:hn prog 208 #[(0,1)]:=⟨_,underlying208,by kernel_rfl,by kernel_rfl⟩
theorem E1:bx prog 161 fj:=bx.of (by rfl) underlying161 (by kernel_rfl)
theorem Iw:bU prog 163 1 10:=bU.of underlying163 rfl rfl E1 rfl
theorem ag0:bF prog 57:=⟨_,func57,rfl,by kernel_rfl⟩
theorem zF:pR prog 3 Int:=adF underlying3
structure dq where
 b3:Int
 lk:Int
 da:aO
 deriving DecidableEq,Inhabited
instance:aj dq:= .str (dD Int (dD Int (hP aO))) (fun x=>(x.b3,x.lk,x.da)) 4
def Ar:aJ dq Int:= .str dK 0 dq.b3 fun b g=>{ b with b3:=g }
def AB:aJ dq Int:= .str (bE dK) 1 dq.lk fun b g=>{ b with lk:=g }
def As:aJ dq aO:= .str (bE (bE hY)) 2 dq.da fun b g=>{ b with da:=g }
instance:bf dq:=⟨bf.cells Int++bf.cells Int++bf.cells aO,fun A W=>⟨by rfl,bf.ok (α:=Int) A W,bf.ok (α:=Int) A W,bf.ok (α:=aO) A W⟩⟩
structure kR where
 Bt:Int
 Bm:Int
 deriving DecidableEq,Inhabited
instance:aj kR:= .str (dD Int (hP Int)) (fun x=>(x.Bt,x.Bm)) 2
def Hq:aJ kR Int:= .str dK 0 kR.Bt fun b g=>{ b with Bt:=g }
def Hj:aJ kR Int:= .str (bE hY) 1 kR.Bm fun b g=>{ b with Bm:=g }
instance:bf kR:=⟨bf.cells Int++bf.cells Int,fun A W=>⟨by rfl,bf.ok (α:=Int) A W,bf.ok (α:=Int) A W⟩⟩
structure nJ where
 l4:aZ
 hi:fj
 deriving DecidableEq,Inhabited
instance:aj nJ:= .str (dD aZ (hP fj)) (fun x=>(x.l4,x.hi)) 11
def KT:aJ nJ aZ:= .str dK 0 nJ.l4 fun b g=>{ b with l4:=g }
def Hk:aJ nJ fj:= .str (bE hY) 10 nJ.hi fun b g=>{ b with hi:=g }
instance:bf nJ:=⟨bf.cells aZ++bf.cells fj,fun A W=>⟨by rfl,bf.ok (α:=aZ) A W,bf.ok (α:=fj) A W⟩⟩
theorem aec:cI prog 168 (default:nJ):=cI.of (by kernel_rfl)
theorem aeb:hn prog 168 #[(0,10),(10,1)]:=⟨_,underlying168,by kernel_rfl,by kernel_rfl⟩
structure iV where
 jJ:List dP
 hi:Vector Int 6
 deriving DecidableEq,Inhabited
instance:aj iV:= .str (dD (List dP) (hP (Vector Int 6))) (fun x=>(x.jJ,x.hi)) 7
def Hf:aJ iV (List dP):= .str dK 0 iV.jJ fun b g=>{ b with jJ:=g }
def ye:aJ iV (Vector Int 6):= .str (bE hY) 1 iV.hi fun b g=>{ b with hi:=g }
instance:bf iV:=⟨bf.cells (List dP)++bf.cells (Vector Int 6),fun A W=>⟨by rfl,bf.ok (α:=List dP) A W,bf.ok (α:=Vector Int 6) A W⟩⟩
theorem aee:cI prog 171 (default:iV):=cI.of (by kernel_rfl)
theorem aed:hn prog 171 #[(0,1),(1,6)]:=⟨_,underlying171,by kernel_rfl,by kernel_rfl⟩
theorem JH:bF prog 28:=⟨_,func28,rfl,by kernel_rfl⟩
theorem VD:bF prog 29:=⟨_,func29,rfl,by kernel_rfl⟩
theorem ag5:bF prog 30:=⟨_,func30,rfl,by kernel_rfl⟩
inductive me where
 | nil
 | xO (a0:Ref) (b4:az) (a2:Int) (a3:Int)
 | vP (a0:Ref) (b4:a8)
 | xP (a0:Ref) (b4:az)
 deriving DecidableEq,Inhabited
instance:aj me where
 size:=1
 agg:=false
 rep A W cs x:=match x with
  | .nil=>cs= [.nilFunc]
  | .xO a0 b4 a2 a3=> ∃ v,cs= [v]∧ (I.kc 69 [I.ptr a0,I.ptr b4,I.ptr a2,I.ptr a3]).holds A W v
  | .vP a0 b4=> ∃ v,cs= [v]∧ (I.kc 75 [I.ptr a0,I.ptr b4]).holds A W v
  | .xP a0 b4=> ∃ v,cs= [v]∧ (I.kc 80 [I.ptr a0,I.ptr b4]).holds A W v
 len {A W cs x} h:=by cases x <;> first | (have h:cs=_:=h;rw [h];rfl) | (obtain⟨v,h,_⟩:=h;rw [h];rfl)
 one {A W cs x} h:=by
  intro u hu;cases x <;> first | (have h:cs=_:=h;rw [h] at hu;rw [List.mem_singleton.1 hu];rfl) | (obtain⟨v,h,fI,rfl,_⟩:=h;rw [h] at hu;rw [List.mem_singleton.1 hu];rfl)
 flat _:=rfl
 mono {A W dd W' cs x} e h:=by cases x <;> first | exact h | (obtain⟨v,h,ae⟩:=h;exact⟨v,h,I.mono _ e ae⟩)
instance:bf me:=⟨[.nilFunc],fun _ _=>rfl⟩
theorem adn {A W v}{a0:Ref}{b4:az}{a2:Int}{a3:Int}(h:(I.kc 69 [I.ptr a0,I.ptr b4,I.ptr a2,I.ptr a3]).holds A W v):(I.of (me.xO a0 b4 a2 a3)).holds A W v:=by
 obtain⟨fI,rfl,ae⟩:=h;exact⟨rfl,_,rfl,fI,rfl,ae⟩
theorem adq {A W u}{a0:Ref}{b4:az}{a2:Int}{a3:Int}(h:(I.of (me.xO a0 b4 a2 a3)).holds A W u):(I.kc 69 [I.ptr a0,I.ptr b4,I.ptr a2,I.ptr a3]).holds A W u:=by
 obtain⟨h1,v,ae,aA⟩:=h;have e:=oR h1 ae;subst e;exact aA
theorem adp {A W v}{a0:Ref}{b4:a8}(h:(I.kc 75 [I.ptr a0,I.ptr b4]).holds A W v):(I.of (me.vP a0 b4)).holds A W v:=by
 obtain⟨fI,rfl,ae⟩:=h;exact⟨rfl,_,rfl,fI,rfl,ae⟩
theorem adr {A W u}{a0:Ref}{b4:a8}(h:(I.of (me.vP a0 b4)).holds A W u):(I.kc 75 [I.ptr a0,I.ptr b4]).holds A W u:=by
 obtain⟨h1,v,ae,aA⟩:=h;have e:=oR h1 ae;subst e;exact aA
theorem ado {A W v}{a0:Ref}{b4:az}(h:(I.kc 80 [I.ptr a0,I.ptr b4]).holds A W v):(I.of (me.xP a0 b4)).holds A W v:=by
 obtain⟨fI,rfl,ae⟩:=h;exact⟨rfl,_,rfl,fI,rfl,ae⟩
theorem ads {A W u}{a0:Ref}{b4:az}(h:(I.of (me.xP a0 b4)).holds A W u):(I.kc 80 [I.ptr a0,I.ptr b4]).holds A W u:=by
 obtain⟨h1,v,ae,aA⟩:=h;have e:=oR h1 ae;subst e;exact aA
structure gf where
 u5:me
 deriving DecidableEq,Inhabited
instance:aj gf:= .str (hP me) (fun x=>x.u5) 1
def P7:aJ gf me:= .str hY 0 gf.u5 fun b g=>{ b with u5:=g }
instance:bf gf:=⟨bf.cells me,fun A W=>⟨by rfl,bf.ok (α:=me) A W⟩⟩
structure dO where
 fe:Ref
 nh:Ref
 oj:Ref
 hS:List gf
 deriving DecidableEq,Inhabited
instance:aj dO:= .str (dD Ref (dD Ref (dD Ref (hP (List gf))))) (fun x=>(x.fe,x.nh,x.oj,x.hS)) 4
def kP:aJ dO Ref:= .str dK 0 dO.fe fun b g=>{ b with fe:=g }
def yk:aJ dO Ref:= .str (bE dK) 1 dO.nh fun b g=>{ b with nh:=g }
def An:aJ dO Ref:= .str (bE (bE dK)) 2 dO.oj fun b g=>{ b with oj:=g }
def KO:aJ dO (List gf):= .str (bE (bE (bE hY))) 3 dO.hS fun b g=>{ b with hS:=g }
instance:bf dO:=⟨bf.cells Ref++bf.cells Ref++bf.cells Ref++bf.cells (List gf),fun A W=>⟨by rfl,bf.ok (α:=Ref) A W,bf.ok (α:=Ref) A W,bf.ok (α:=Ref) A W,bf.ok (α:=List gf) A W⟩⟩
theorem ag7:cI prog 93 (default:dO):=cI.of (by kernel_rfl)
theorem ag6:hn prog 93 #[(0,1),(1,1),(2,1),(3,1)]:=⟨_,underlying93,by kernel_rfl,by kernel_rfl⟩
theorem ac6:kh prog 93 [3]:=by unfold kh;kernel_rfl
structure cW where
 hU:aZ
 bW:List az
 iO:Int
 deriving DecidableEq,Inhabited
instance:aj cW:= .str (dD aZ (dD (List az) (hP Int))) (fun x=>(x.hU,x.bW,x.iO)) 12
def wK:aJ cW aZ:= .str dK 0 cW.hU fun b g=>{ b with hU:=g }
def oQ:aJ cW (List az):= .str (bE dK) 10 cW.bW fun b g=>{ b with bW:=g }
def yr:aJ cW Int:= .str (bE (bE hY)) 11 cW.iO fun b g=>{ b with iO:=g }
instance:bf cW:=⟨bf.cells aZ++bf.cells (List az)++bf.cells Int,fun A W=>⟨by rfl,bf.ok (α:=aZ) A W,bf.ok (α:=List az) A W,bf.ok (α:=Int) A W⟩⟩
theorem Vr:cI prog 95 (default:cW):=cI.of (by kernel_rfl)
theorem Vq:hn prog 95 #[(0,10),(10,1),(11,1)]:=⟨_,underlying95,by kernel_rfl,by kernel_rfl⟩
theorem Wi:bF prog 9:=⟨_,func9,rfl,by kernel_rfl⟩
theorem ahG:bF prog 10:=⟨_,func10,rfl,by kernel_rfl⟩
theorem qc:cI prog 52 (default:a8):=cI.of (by kernel_rfl)
theorem ahm:bF prog 58:=⟨_,func58,rfl,by kernel_rfl⟩
theorem JK:hn prog 52 #[(0,1),(1,1),(2,1),(3,1),(4,1)]:=⟨_,underlying52,by kernel_rfl,by kernel_rfl⟩
theorem cq:bx prog 52 a8:=bx.of (by rfl) underlying52 (by kernel_rfl)
theorem ot:cI prog 108 (default:cg):=cI.of (by kernel_rfl)
theorem ahk:bF prog 95:=⟨_,func95,rfl,by kernel_rfl⟩
theorem gA:bx prog 104 (BitVec 64):=bx.of (by rfl) underlying104 (by kernel_rfl)
theorem oU:bU prog 106 0 0:=bU.of underlying106 rfl rfl gA rfl
theorem mn:bU prog 106 1 1:=bU.of underlying106 rfl rfl gA rfl
theorem N5:bF prog 61:=⟨_,func61,rfl,by kernel_rfl⟩
theorem ahl:bF prog 96:=⟨_,func96,rfl,by kernel_rfl⟩
theorem SL:PG prog 106 1 104 1:=⟨_,_,underlying106,rfl,rfl,rfl⟩
theorem xq:hn prog 108 #[(0,1),(1,2),(3,2),(5,1),(6,2)]:=⟨_,underlying108,by kernel_rfl,by kernel_rfl⟩
theorem gn:bx prog 108 cg:=bx.of (by rfl) underlying108 (by kernel_rfl)
theorem mv:bx prog 49 (List cg):=bx.of (by rfl) underlying49 (by kernel_rfl)
theorem mK:bU prog 52 1 1:=bU.of underlying52 rfl rfl mv rfl
theorem ahn:bF prog 59:=⟨_,func59,rfl,by kernel_rfl⟩
theorem sR:bU prog 52 2 2:=bU.of underlying52 rfl rfl bj rfl
theorem mb:bx prog 56 (List Int):=bx.of (by rfl) underlying56 (by kernel_rfl)
theorem TC:bU prog 84 3 3:=bU.of underlying84 rfl rfl mb rfl
theorem u6:bU prog 52 3 3:=bU.of underlying52 rfl rfl bj rfl
theorem SF:bU prog 149 0 0:=bU.of underlying149 rfl rfl bj rfl
theorem aho:bF prog 60:=⟨_,func60,rfl,by kernel_rfl⟩
theorem ach:PG prog 149 2 146 2:=⟨_,_,underlying149,rfl,rfl,rfl⟩
theorem afB:bx prog 146 (List kj):=bx.of (by rfl) underlying146 (by kernel_rfl)
theorem q2:bx prog 50 (List aO):=bx.of (by rfl) underlying50 (by kernel_rfl)
theorem rO:bU prog 52 4 4:=bU.of underlying52 rfl rfl q2 rfl
theorem aci:bU prog 153 1 1:=bU.of underlying153 rfl rfl bj rfl
theorem RV:kh prog 52 [1,4]:=by unfold kh;kernel_rfl
theorem BN:bU prog 95 0 0:=bU.of underlying95 rfl rfl fr rfl
theorem ahq:bF prog 31:=⟨_,func31,rfl,by kernel_rfl⟩
theorem k5:bx prog 43 (List az):=bx.of (by rfl) underlying43 (by kernel_rfl)
theorem pn:bU prog 95 1 10:=bU.of underlying95 rfl rfl k5 rfl
theorem b7:bx prog 54 az:=bx.of (by rfl) underlying54 (by kernel_rfl)
theorem ja:bU prog 54 0 0:=bU.of underlying54 rfl rfl cq rfl
theorem lI:bU prog 52 0 0:=bU.of underlying52 rfl rfl bj rfl
theorem iM:bx prog 36 Ref:=bx.of (by rfl) underlying36 (by kernel_rfl)
theorem Ua:cI prog 164 (default:Ref):=cI.of (by kernel_rfl)
theorem Fx:bF prog 97:=⟨_,func97,rfl,by kernel_rfl⟩
theorem dt:cI prog 54 (default:az):=cI.of (by kernel_rfl)
theorem qe:hn prog 54 #[(0,5),(5,1),(6,1)]:=⟨_,underlying54,by kernel_rfl,by kernel_rfl⟩
theorem Ub:cI prog 132 (default:Vector aO 4):=cI.of (by kernel_rfl)
theorem wZ:bU prog 108 1 1:=bU.of underlying108 rfl rfl cm rfl
theorem Ng:qD prog 132 4 2:=qD.of underlying132 cm rfl
theorem ve:bx prog 132 (Vector aO 4):=bx.of (by rfl) underlying132 (by kernel_rfl)
theorem E2:bx prog 229 fj:=bx.of (by rfl) underlying229 (by kernel_rfl)
theorem Ix:bU prog 231 0 0:=bU.of underlying231 rfl rfl E2 rfl
instance akI:kC aO where
 uniq {A W cs dd W' fh x} h dc:=by
  refine S2 h.1 dc.1 ?_;refine Ew 0 (aj.size (BitVec 64)) (kC.uniq h.2.1 dc.2.1) ?_;refine Ew 1 (aj.size (BitVec 64)) (kC.uniq h.2.2 dc.2.2) ?_;exact S3 h.1 dc.1 (by decide)
 plain {A W cs x} h:=by
  intro u hu n;have bH:=yU (o:=0) (s:=aj.size (BitVec 64)) (by simpa using hu);rcases bH with h1 | bH
  ·exact kC.plain h.2.1 u h1 n
  have bH:=yU (s:=aj.size (BitVec 64)) bH;rcases bH with h1 | bH
  ·exact kC.plain h.2.2 u h1 n
  exact Mp h.1 (by rfl) bH
theorem T6:nw prog 104 (BitVec 64) 1:=acr (K:= .u64) underlying104
theorem tL:nw prog 106 aO 2:=H8 (k:=1) rfl underlying106 (by kernel_rfl) fun d hd A W xs ys x y ar a1=>by
 refine Eq.trans (rI ki gA rfl (by rfl) T6 (by omega) ar a1 (rI fF gA rfl (by rfl) T6 (by omega) ar a1 IE)) ?_;congr 1;rw [Bool.eq_iff_iff];simp only [Bool.and_eq_true,decide_eq_true_eq,and_true];cases x;cases y;simp [aJ.str,ki,fF]
theorem ad5:nw prog 312 (Vector aO 4) 3:=SV underlying312 cm tL
theorem Vo:sy prog 104 (BitVec 64) 1:=LP underlying104 rfl
theorem NV:sy prog 106 aO 2:=RE (k:=1) rfl underlying106 (.cons ki rfl gA (fun b d A W u x h ar=>Vo b d A W u x (by omega) ar) (.cons fF rfl gA (fun b d A W u x h ar=>Vo b d A W u x (by omega) ar) (.nil)))
theorem agw:sy prog 312 (Vector aO 4) 3:=TH underlying312 cm NV
theorem Ja:pR prog 312 (Vector aO 4):=MY underlying312 rfl agw ad5 rfl rfl
theorem Jb:bx prog 198 Ref:=bx.of (by rfl) underlying198 (by kernel_rfl)
theorem Mh:bU prog 201 0 0:=bU.of underlying201 rfl rfl Jb rfl
theorem Jc:bF prog 215:=⟨_,func215,rfl,by kernel_rfl⟩
theorem Uc:bF prog 214:=⟨_,func214,rfl,by kernel_rfl⟩
theorem Jj:bx prog 204 jS:=bx.of (by rfl) underlying204 (by kernel_rfl)
theorem B5:cI prog 313 (default:Vector aO 4):=cI.of (by kernel_rfl)
theorem IA:bU prog 204 0 0:=bU.of underlying204 rfl rfl bj rfl
theorem mO:bx prog 313 (Vector aO 4):=bx.of (by rfl) underlying313 (by kernel_rfl)
theorem aer:bF prog 224:=⟨_,func224,rfl,by kernel_rfl⟩
theorem w0:bU prog 108 3 5:=bU.of underlying108 rfl rfl bj rfl
theorem Nw:bF prog 222:=⟨_,func222,rfl,by kernel_rfl⟩
theorem B6:cI prog 326 (default:Ref):=cI.of (by kernel_rfl)
theorem Uj:bF prog 237:=⟨_,func237,rfl,by kernel_rfl⟩
theorem Uk:bF prog 236:=⟨_,func236,rfl,by kernel_rfl⟩
theorem Ul:bF prog 227:=⟨_,func227,rfl,by kernel_rfl⟩
theorem aeu:bF prog 247:=⟨_,func247,rfl,by kernel_rfl⟩
theorem ED:bU prog 332 0 0:=bU.of underlying332 rfl rfl bj rfl
structure gy where
 gR:Int
 eT:Ref
 deriving DecidableEq,Inhabited
instance:aj gy:= .str (dD Int (hP Ref)) (fun x=>(x.gR,x.eT)) 2
def AJ:aJ gy Int:= .str dK 0 gy.gR fun b g=>{ b with gR:=g }
def wJ:aJ gy Ref:= .str (bE hY) 1 gy.eT fun b g=>{ b with eT:=g }
instance:bf gy:=⟨bf.cells Int++bf.cells Ref,fun A W=>⟨by rfl,bf.ok (α:=Int) A W,bf.ok (α:=Ref) A W⟩⟩
theorem aeR:bF prog 244:=⟨_,func244,rfl,by kernel_rfl⟩
theorem aeS:bF prog 226:=⟨_,func226,rfl,by kernel_rfl⟩
theorem IP:prog.eqGuardType prog.depth 106=false:=by kernel_rfl
theorem Uw:bF prog 238:=⟨_,func238,rfl,by kernel_rfl⟩
theorem ff:bx prog 326 Ref:=bx.of (by rfl) underlying326 (by kernel_rfl)
theorem w2:bU prog 332 1 1:=bU.of underlying332 rfl rfl ff rfl
theorem No:bF prog 235:=⟨_,func235,rfl,by kernel_rfl⟩
theorem Um:bx prog 314 Ref:=bx.of (by rfl) underlying314 (by kernel_rfl)
theorem Uo:bF prog 243:=⟨_,func243,rfl,by kernel_rfl⟩
theorem T7:bx prog 328 (Vector Ref 2):=bx.of (by rfl) underlying328 (by kernel_rfl)
theorem uT:bU prog 330 0 0:=bU.of underlying330 rfl rfl T7 rfl
theorem xn:qD prog 328 2 1:=qD.of underlying328 ff rfl
structure eo where
 dJ:Vector Ref 2
 fK:Bool
 kr:Int
 deriving DecidableEq,Inhabited
instance:aj eo:= .str (dD (Vector Ref 2) (dD Bool (hP Int))) (fun x=>(x.dJ,x.fK,x.kr)) 4
def uC:aJ eo (Vector Ref 2):= .str dK 0 eo.dJ fun b g=>{ b with dJ:=g }
def uE:aJ eo Bool:= .str (bE dK) 2 eo.fK fun b g=>{ b with fK:=g }
def HK:aJ eo Int:= .str (bE (bE hY)) 3 eo.kr fun b g=>{ b with kr:=g }
instance:bf eo:=⟨bf.cells (Vector Ref 2)++bf.cells Bool++bf.cells Int,fun A W=>⟨by rfl,bf.ok (α:=Vector Ref 2) A W,bf.ok (α:=Bool) A W,bf.ok (α:=Int) A W⟩⟩
theorem Np:bF prog 242:=⟨_,func242,rfl,by kernel_rfl⟩
theorem UA:bF prog 232:=⟨_,func232,rfl,by kernel_rfl⟩
theorem uS:bU prog 330 1 2:=bU.of underlying330 rfl rfl jP rfl
theorem Iv:bU prog 330 2 3:=bU.of underlying330 rfl rfl bj rfl
theorem vj:bx prog 202 fj:=bx.of (by rfl) underlying202 (by kernel_rfl)
theorem w3:bU prog 204 2 2:=bU.of underlying204 rfl rfl vj rfl
theorem ad6:nw prog 313 (Vector aO 4) 3:=SV underlying313 cm tL
theorem agx:sy prog 313 (Vector aO 4) 3:=TH underlying313 cm NV
theorem zc:pR prog 313 (Vector aO 4):=MY underlying313 rfl agx ad6 rfl rfl
theorem E9:cI prog 314 (default:Ref):=cI.of (by kernel_rfl)
theorem UH:bF prog 223:=⟨_,func223,rfl,by kernel_rfl⟩
theorem Jq:bx prog 205 Ref:=bx.of (by rfl) underlying205 (by kernel_rfl)
theorem Mk:bU prog 208 0 0:=bU.of underlying208 rfl rfl Jq rfl
theorem w1:bU prog 235 1 10:=bU.of underlying235 rfl rfl k5 rfl
theorem aes:bF prog 169:=⟨_,func169,rfl,by kernel_rfl⟩
theorem aet:bF prog 170:=⟨_,func170,rfl,by kernel_rfl⟩
theorem aew:bF prog 145:=⟨_,func145,rfl,by kernel_rfl⟩
theorem E7:bF prog 128:=⟨_,func128,rfl,by kernel_rfl⟩
theorem afe:bF prog 262:=⟨_,func262,rfl,by kernel_rfl⟩
theorem afi:bF prog 257:=⟨_,func257,rfl,by kernel_rfl⟩
theorem aih:nw prog 4 Bool 1:=abr underlying4
theorem FU:nw prog 3 Int 1:=SU (K:= .i64) underlying3
theorem Tx:nw prog 108 cg 3:=H8 (k:=2) rfl underlying108 (by kernel_rfl) fun d hd A W xs ys x y ar a1=>by
 refine Eq.trans (rI qM jP rfl (by rfl) aih (by omega) ar a1 (rI pT cm rfl (by rfl) tL (by omega) ar a1 (rI uG cm rfl (by rfl) tL (by omega) ar a1 (rI sD bj rfl (by rfl) FU (by omega) ar a1 (rI yp cm rfl (by rfl) tL (by omega) ar a1 IE))))) ?_;congr 1;rw [Bool.eq_iff_iff];simp only [Bool.and_eq_true,decide_eq_true_eq,and_true];cases x;cases y;simp [aJ.str,qM,pT,uG,sD,yp]
theorem Ty:prog.eqGuardType prog.depth 108=false:=by kernel_rfl
theorem aeJ:bF prog 263:=⟨_,func263,rfl,by kernel_rfl⟩
theorem afj:bF prog 258:=⟨_,func258,rfl,by kernel_rfl⟩
theorem qU:bU prog 54 1 5:=bU.of underlying54 rfl rfl bj rfl
theorem agy:bF prog 210:=⟨_,func210,rfl,by kernel_rfl⟩
theorem aas:lA prog 201 "matchguard/index.find" 210:=lA.vZ (by kernel_rfl) underlying201 rfl agy
theorem agz:bF prog 218:=⟨_,func218,rfl,by kernel_rfl⟩
theorem aat:lA prog 204 "matchguard/index.find" 218:=lA.vZ (by kernel_rfl) underlying204 rfl agz
theorem agA:bF prog 253:=⟨_,func253,rfl,by kernel_rfl⟩
theorem aau:lA prog 208 "matchguard/index.find" 253:=lA.vZ (by kernel_rfl) underlying208 rfl agA
theorem zb:bx prog 193 fj:=bx.of (by rfl) underlying193 (by kernel_rfl)
theorem BA:bU prog 197 3 3:=bU.of underlying197 rfl rfl zb rfl
theorem afA:bF prog 127:=⟨_,func127,rfl,by kernel_rfl⟩
theorem N6:bF prog 98:=⟨_,func98,rfl,by kernel_rfl⟩
theorem Tw:bU prog 84 6 6:=bU.of underlying84 rfl rfl bj rfl
theorem ahp:bF prog 99:=⟨_,func99,rfl,by kernel_rfl⟩
theorem afC:bF prog 100:=⟨_,func100,rfl,by kernel_rfl⟩
theorem EB:bU prog 163 2 11:=bU.of underlying163 rfl rfl bj rfl
theorem aeK:bF prog 216:=⟨_,func216,rfl,by kernel_rfl⟩
theorem aeI:cI prog 332 (default:gy):=cI.of (by kernel_rfl)
theorem aeH:hn prog 332 #[(0,1),(1,1)]:=⟨_,underlying332,by kernel_rfl,by kernel_rfl⟩
theorem SQ:bU prog 204 1 1:=bU.of underlying204 rfl rfl bj rfl
theorem afd:bF prog 228:=⟨_,func228,rfl,by kernel_rfl⟩
theorem UC:cI prog 330 (default:eo):=cI.of (by kernel_rfl)
theorem UB:hn prog 330 #[(0,2),(2,1),(3,1)]:=⟨_,underlying330,by kernel_rfl,by kernel_rfl⟩
theorem afc:bF prog 229:=⟨_,func229,rfl,by kernel_rfl⟩
theorem Us:bF prog 273:=⟨_,func273,rfl,by kernel_rfl⟩
theorem Ut:bF prog 272:=⟨_,func272,rfl,by kernel_rfl⟩
theorem Uv:bF prog 265:=⟨_,func265,rfl,by kernel_rfl⟩
theorem Uu:bF prog 140:=⟨_,func140,rfl,by kernel_rfl⟩
theorem aeT:bF prog 277:=⟨_,func277,rfl,by kernel_rfl⟩
theorem aeV:bF prog 283:=⟨_,func283,rfl,by kernel_rfl⟩
theorem aeU:bF prog 282:=⟨_,func282,rfl,by kernel_rfl⟩
theorem xo:bF prog 115:=⟨_,func115,rfl,by kernel_rfl⟩
theorem UD:bF prog 280:=⟨_,func280,rfl,by kernel_rfl⟩
theorem Nv:bF prog 152:=⟨_,func152,rfl,by kernel_rfl⟩
theorem SS:bU prog 235 0 0:=bU.of underlying235 rfl rfl fr rfl
theorem UJ:bF prog 274:=⟨_,func274,rfl,by kernel_rfl⟩
theorem afr:bF prog 266:=⟨_,func266,rfl,by kernel_rfl⟩
theorem afs:bF prog 267:=⟨_,func267,rfl,by kernel_rfl⟩
theorem aft:bF prog 268:=⟨_,func268,rfl,by kernel_rfl⟩
theorem afw:bF prog 260:=⟨_,func260,rfl,by kernel_rfl⟩
theorem agB:bF prog 212:=⟨_,func212,rfl,by kernel_rfl⟩
theorem aav:lA prog 201 "matchguard/index.put" 212:=lA.vZ (by kernel_rfl) underlying201 rfl agB
theorem agC:bF prog 220:=⟨_,func220,rfl,by kernel_rfl⟩
theorem aaw:lA prog 204 "matchguard/index.put" 220:=lA.vZ (by kernel_rfl) underlying204 rfl agC
theorem agD:bF prog 255:=⟨_,func255,rfl,by kernel_rfl⟩
theorem aax:lA prog 208 "matchguard/index.put" 255:=lA.vZ (by kernel_rfl) underlying208 rfl agD
theorem Nz:bF prog 101:=⟨_,func101,rfl,by kernel_rfl⟩
theorem k6:bx prog 85 Ref:=bx.of (by rfl) underlying85 (by kernel_rfl)
theorem lh:bU prog 93 0 0:=bU.of underlying93 rfl rfl k6 rfl
theorem VM:bF prog 62:=⟨_,func62,rfl,by kernel_rfl⟩
theorem VJ:bF prog 63:=⟨_,func63,rfl,by kernel_rfl⟩
theorem Me:bU prog 171 0 0:=bU.of underlying171 rfl rfl r7 rfl
theorem MI:bU prog 58 0 0:=bU.of underlying58 rfl rfl bj rfl
theorem Ug:bF prog 102:=⟨_,func102,rfl,by kernel_rfl⟩
theorem agE:bx prog 169 (Vector Int 6):=bx.of (by rfl) underlying169 (by kernel_rfl)
theorem yQ:bU prog 171 1 1:=bU.of underlying171 rfl rfl agE rfl
theorem y9:qD prog 169 6 1:=qD.of underlying169 bj rfl
theorem MO:bU prog 58 4 4:=bU.of underlying58 rfl rfl bj rfl
theorem Ch:bx prog 89 Ref:=bx.of (by rfl) underlying89 (by kernel_rfl)
theorem EL:bU prog 93 2 2:=bU.of underlying93 rfl rfl Ch rfl
theorem VK:bF prog 64:=⟨_,func64,rfl,by kernel_rfl⟩
theorem aeP:bF prog 217:=⟨_,func217,rfl,by kernel_rfl⟩
theorem afu:cI prog 336 (default:List Ref):=cI.of (by kernel_rfl)
theorem ahc:cI prog 56 (default:List Int):=cI.of (by kernel_rfl)
theorem xp:bx prog 336 (List Ref):=bx.of (by rfl) underlying336 (by kernel_rfl)
theorem acd:kh prog 336 [0]:=by unfold kh;kernel_rfl
theorem adm:kh prog 56 [0]:=by unfold kh;kernel_rfl
theorem aef:cI prog 328 (default:Vector Ref 2):=cI.of (by kernel_rfl)
theorem acZ:prog.eqGuardType prog.depth 328=false:=by kernel_rfl
theorem UL:bF prog 239:=⟨_,func239,rfl,by kernel_rfl⟩
theorem afx:bF prog 230:=⟨_,func230,rfl,by kernel_rfl⟩
structure e5 where
 da:aO
 yK:Int
 bM:Int
 deriving DecidableEq,Inhabited
instance:aj e5:= .str (dD aO (dD Int (hP Int))) (fun x=>(x.da,x.yK,x.bM)) 4
def XH:aJ e5 aO:= .str dK 0 e5.da fun b g=>{ b with da:=g }
def XC:aJ e5 Int:= .str (bE dK) 2 e5.yK fun b g=>{ b with yK:=g }
def Yj:aJ e5 Int:= .str (bE (bE hY)) 3 e5.bM fun b g=>{ b with bM:=g }
instance:bf e5:=⟨bf.cells aO++bf.cells Int++bf.cells Int,fun A W=>⟨by rfl,bf.ok (α:=aO) A W,bf.ok (α:=Int) A W,bf.ok (α:=Int) A W⟩⟩
theorem aeW:cI prog 337 (default:List e5):=cI.of (by kernel_rfl)
theorem Nc:bx prog 337 (List e5):=bx.of (by rfl) underlying337 (by kernel_rfl)
theorem Nd:cI prog 342 (default:e5):=cI.of (by kernel_rfl)
theorem aeh:hn prog 342 #[(0,2),(2,1),(3,1)]:=⟨_,underlying342,by kernel_rfl,by kernel_rfl⟩
theorem T8:bx prog 342 e5:=bx.of (by rfl) underlying342 (by kernel_rfl)
theorem aeL:bF prog 246:=⟨_,func246,rfl,by kernel_rfl⟩
theorem Nn:bF prog 248:=⟨_,func248,rfl,by kernel_rfl⟩
theorem aeM:bF prog 251:=⟨_,func251,rfl,by kernel_rfl⟩
theorem aeN:bF prog 250:=⟨_,func250,rfl,by kernel_rfl⟩
theorem aeO:bF prog 249:=⟨_,func249,rfl,by kernel_rfl⟩
theorem aca:kh prog 337 [0]:=by unfold kh;kernel_rfl
theorem aeY:bF prog 245:=⟨_,func245,rfl,by kernel_rfl⟩
theorem aff:bF prog 240:=⟨_,func240,rfl,by kernel_rfl⟩
theorem afy:bF prog 231:=⟨_,func231,rfl,by kernel_rfl⟩
theorem aeQ:bF prog 269:=⟨_,func269,rfl,by kernel_rfl⟩
theorem ae5:bF prog 261:=⟨_,func261,rfl,by kernel_rfl⟩
theorem agF:bF prog 213:=⟨_,func213,rfl,by kernel_rfl⟩
theorem aay:lA prog 201 "matchguard/index.remove" 213:=lA.vZ (by kernel_rfl) underlying201 rfl agF
theorem agG:bF prog 221:=⟨_,func221,rfl,by kernel_rfl⟩
theorem aaz:lA prog 204 "matchguard/index.remove" 221:=lA.vZ (by kernel_rfl) underlying204 rfl agG
theorem agH:bF prog 256:=⟨_,func256,rfl,by kernel_rfl⟩
theorem aaA:lA prog 208 "matchguard/index.remove" 256:=lA.vZ (by kernel_rfl) underlying208 rfl agH
theorem afD:bF prog 103:=⟨_,func103,rfl,by kernel_rfl⟩
theorem FA:bF prog 65:=⟨_,func65,rfl,by kernel_rfl⟩
theorem VL:bF prog 66:=⟨_,func66,rfl,by kernel_rfl⟩
theorem adb:bU prog 81 0 0:=bU.of underlying81 rfl rfl bj rfl
theorem TA:bU prog 81 2 2:=bU.of underlying81 rfl rfl bj rfl
theorem IU:bU prog 81 4 4:=bU.of underlying81 rfl rfl bj rfl
theorem IV:bU prog 81 5 5:=bU.of underlying81 rfl rfl bj rfl
theorem ade:bU prog 81 1 1:=bU.of underlying81 rfl rfl bj rfl
theorem Ux:bF prog 146:=⟨_,func146,rfl,by kernel_rfl⟩
theorem rY:cI prog 124 (default:dq):=cI.of (by kernel_rfl)
theorem Nu:hn prog 124 #[(0,1),(1,1),(2,2)]:=⟨_,underlying124,by kernel_rfl,by kernel_rfl⟩
theorem ll:bx prog 124 dq:=bx.of (by rfl) underlying124 (by kernel_rfl)
theorem adf:bU prog 81 3 3:=bU.of underlying81 rfl rfl bj rfl
theorem ae1:bF prog 147:=⟨_,func147,rfl,by kernel_rfl⟩
theorem SP:bU prog 168 0 0:=bU.of underlying168 rfl rfl fr rfl
theorem ae6:bF prog 129:=⟨_,func129,rfl,by kernel_rfl⟩
theorem Jm:bx prog 166 fj:=bx.of (by rfl) underlying166 (by kernel_rfl)
theorem Mj:bU prog 168 1 10:=bU.of underlying168 rfl rfl Jm rfl
instance akJ:kC dq where
 uniq {A W cs dd W' fh x} h dc:=by
  refine S2 h.1 dc.1 ?_;refine Ew 0 (aj.size Int) (kC.uniq h.2.1 dc.2.1) ?_;refine Ew 1 (aj.size Int) (kC.uniq h.2.2.1 dc.2.2.1) ?_;refine Ew 2 (aj.size aO) (kC.uniq h.2.2.2 dc.2.2.2) ?_;exact S3 h.1 dc.1 (by decide)
 plain {A W cs x} h:=by
  intro u hu n;have bH:=yU (o:=0) (s:=aj.size Int) (by simpa using hu);rcases bH with h1 | bH
  ·exact kC.plain h.2.1 u h1 n
  have bH:=yU (s:=aj.size Int) bH;rcases bH with h1 | bH
  ·exact kC.plain h.2.2.1 u h1 n
  have bH:=yU (s:=aj.size aO) bH;rcases bH with h1 | bH
  ·exact kC.plain h.2.2.2 u h1 n
  exact Mp h.1 (by rfl) bH
theorem Tz:nw prog 124 dq 3:=H8 (k:=2) rfl underlying124 (by kernel_rfl) fun d hd A W xs ys x y ar a1=>by
 refine Eq.trans (rI Ar bj rfl (by rfl) FU (by omega) ar a1 (rI AB bj rfl (by rfl) FU (by omega) ar a1 (rI As cm rfl (by rfl) tL (by omega) ar a1 IE))) ?_;congr 1;rw [Bool.eq_iff_iff];simp only [Bool.and_eq_true,decide_eq_true_eq,and_true];cases x;cases y;simp [aJ.str,Ar,AB,As]
theorem WW:sy prog 3 Int 1:=LP underlying3 rfl
theorem agI:sy prog 124 dq 3:=RE (k:=2) rfl underlying124 (.cons Ar rfl bj (fun b d A W u x h ar=>WW b d A W u x (by omega) ar) (.cons AB rfl bj (fun b d A W u x h ar=>WW b d A W u x (by omega) ar) (.cons As rfl cm (fun b d A W u x h ar=>NV b d A W u x (by omega) ar) (.nil))))
theorem Nq:pR prog 124 dq:=MY underlying124 rfl agI Tz rfl rfl
theorem Nr:cI prog 217 (default:kR):=cI.of (by kernel_rfl)
theorem Ns:bx prog 217 kR:=bx.of (by rfl) underlying217 (by kernel_rfl)
theorem SN:bU prog 217 0 0:=bU.of underlying217 rfl rfl bj rfl
theorem SO:bU prog 217 1 1:=bU.of underlying217 rfl rfl bj rfl
theorem aeZ:hn prog 217 #[(0,1),(1,1)]:=⟨_,underlying217,by kernel_rfl,by kernel_rfl⟩
theorem ac8:nw prog 217 kR 2:=H8 (k:=1) rfl underlying217 (by kernel_rfl) fun d hd A W xs ys x y ar a1=>by
 refine Eq.trans (rI Hq bj rfl (by rfl) FU (by omega) ar a1 (rI Hj bj rfl (by rfl) FU (by omega) ar a1 IE)) ?_;congr 1;rw [Bool.eq_iff_iff];simp only [Bool.and_eq_true,decide_eq_true_eq,and_true];cases x;cases y;simp [aJ.str,Hq,Hj]
theorem ac9:prog.eqGuardType prog.depth 217=false:=by kernel_rfl
theorem Uz:bF prog 130:=⟨_,func130,rfl,by kernel_rfl⟩
theorem ada:prog.eqGuardType prog.depth 124=false:=by kernel_rfl
theorem ae2:bF prog 171:=⟨_,func171,rfl,by kernel_rfl⟩
theorem ae3:bF prog 148:=⟨_,func148,rfl,by kernel_rfl⟩
theorem ae7:bF prog 131:=⟨_,func131,rfl,by kernel_rfl⟩
theorem UE:bF prog 104:=⟨_,func104,rfl,by kernel_rfl⟩
theorem zx:bx prog 87 Ref:=bx.of (by rfl) underlying87 (by kernel_rfl)
theorem BO:bU prog 93 1 1:=bU.of underlying93 rfl rfl zx rfl
theorem N7:bF prog 67:=⟨_,func67,rfl,by kernel_rfl⟩
theorem xA:bx prog 91 (List gf):=bx.of (by rfl) underlying91 (by kernel_rfl)
theorem yW:bU prog 93 3 3:=bU.of underlying93 rfl rfl xA rfl
theorem Nt:cI prog 110 (default:gf):=cI.of (by kernel_rfl)
theorem ae0:hn prog 110 #[(0,1)]:=⟨_,underlying110,by kernel_rfl,by kernel_rfl⟩
theorem Jn:bx prog 110 gf:=bx.of (by rfl) underlying110 (by kernel_rfl)
theorem N8:bF prog 68:=⟨_,func68,rfl,by kernel_rfl⟩
theorem EP:bU prog 95 2 11:=bU.of underlying95 rfl rfl bj rfl
theorem ahe:bF prog 16:=⟨_,func16,rfl,by kernel_rfl⟩
theorem T9:cI prog 213 (default:Vector (List Int) 6):=cI.of (by kernel_rfl)
theorem rU:qD prog 213 6 1:=qD.of underlying213 mb rfl
theorem ac0:bU prog 73 0 0:=bU.of underlying73 rfl rfl bj rfl
theorem ab7:bU prog 141 0 0:=bU.of underlying141 rfl rfl bj rfl
theorem YK:kh prog 213 [0,1,2,3,4,5]:=by unfold kh;kernel_rfl
theorem Nf:bx prog 213 (Vector (List Int) 6):=bx.of (by rfl) underlying213 (by kernel_rfl)
theorem Ue:bF prog 106:=⟨_,func106,rfl,by kernel_rfl⟩
theorem Uf:bF prog 105:=⟨_,func105,rfl,by kernel_rfl⟩
theorem ae4:bF prog 108:=⟨_,func108,rfl,by kernel_rfl⟩
theorem Fy:bF prog 76:=⟨_,func76,rfl,by kernel_rfl⟩
theorem Bz:bU prog 108 0 0:=bU.of underlying108 rfl rfl jP rfl
theorem I9:cI prog 271 (default:Vector Bool 128):=cI.of (by kernel_rfl)
theorem EY:qD prog 271 128 1:=qD.of underlying271 jP rfl
theorem EZ:bx prog 271 (Vector Bool 128):=bx.of (by rfl) underlying271 (by kernel_rfl)
theorem Ud:bF prog 166:=⟨_,func166,rfl,by kernel_rfl⟩
theorem Jo:bF prog 150:=⟨_,func150,rfl,by kernel_rfl⟩
theorem BB:bU prog 108 2 3:=bU.of underlying108 rfl rfl cm rfl
theorem B8:bF prog 133:=⟨_,func133,rfl,by kernel_rfl⟩
theorem IC:bU prog 108 4 6:=bU.of underlying108 rfl rfl cm rfl
theorem ae8:bF prog 149:=⟨_,func149,rfl,by kernel_rfl⟩
theorem UF:bF prog 132:=⟨_,func132,rfl,by kernel_rfl⟩
theorem UG:bF prog 109:=⟨_,func109,rfl,by kernel_rfl⟩
theorem N4:bF prog 77:=⟨_,func77,rfl,by kernel_rfl⟩
theorem ahd:bF prog 44:=⟨_,func44,rfl,by kernel_rfl⟩
theorem afg:bF prog 134:=⟨_,func134,rfl,by kernel_rfl⟩
theorem afz:bF prog 110:=⟨_,func110,rfl,by kernel_rfl⟩
theorem VG:bF prog 79:=⟨_,func79,rfl,by kernel_rfl⟩
theorem ahf:bF prog 72:=⟨_,func72,rfl,by kernel_rfl⟩
theorem ahg:bF prog 73:=⟨_,func73,rfl,by kernel_rfl⟩
theorem BI:bU prog 54 2 6:=bU.of underlying54 rfl rfl bj rfl
theorem ahh:bF prog 50:=⟨_,func50,rfl,by kernel_rfl⟩
theorem VI:bx prog 95 cW:=bx.of (by rfl) underlying95 (by kernel_rfl)
theorem Oa:bF prog 32:=⟨_,func32,rfl,by kernel_rfl⟩
theorem aht:bF prog 33:=⟨_,func33,rfl,by kernel_rfl⟩
theorem UT:bF prog 107:=⟨_,func107,rfl,by kernel_rfl⟩
theorem N9:bF prog 70:=⟨_,func70,rfl,by kernel_rfl⟩
theorem VO:bF prog 74:=⟨_,func74,rfl,by kernel_rfl⟩
theorem ahu:bF prog 34:=⟨_,func34,rfl,by kernel_rfl⟩
theorem VH:bF prog 78:=⟨_,func78,rfl,by kernel_rfl⟩
theorem ahv:bF prog 35:=⟨_,func35,rfl,by kernel_rfl⟩
theorem VN:bF prog 71:=⟨_,func71,rfl,by kernel_rfl⟩
theorem ahw:bF prog 36:=⟨_,func36,rfl,by kernel_rfl⟩
theorem ahx:bF prog 37:=⟨_,func37,rfl,by kernel_rfl⟩
theorem ahH:bF prog 12:=⟨_,func12,rfl,by kernel_rfl⟩
theorem Vw:bF prog 38:=⟨_,func38,rfl,by kernel_rfl⟩
theorem Uy:bF prog 180:=⟨_,func180,rfl,by kernel_rfl⟩
theorem Jp:bF prog 116:=⟨_,func116,rfl,by kernel_rfl⟩
theorem afa:bF prog 154:=⟨_,func154,rfl,by kernel_rfl⟩
theorem ae9:bF prog 153:=⟨_,func153,rfl,by kernel_rfl⟩
theorem afb:bF prog 155:=⟨_,func155,rfl,by kernel_rfl⟩
theorem afh:bF prog 137:=⟨_,func137,rfl,by kernel_rfl⟩
theorem afl:bF prog 135:=⟨_,func135,rfl,by kernel_rfl⟩
theorem afm:bF prog 136:=⟨_,func136,rfl,by kernel_rfl⟩
theorem afv:bF prog 111:=⟨_,func111,rfl,by kernel_rfl⟩
theorem ahi:bF prog 82:=⟨_,func82,rfl,by kernel_rfl⟩
theorem ahj:bF prog 39:=⟨_,func39,rfl,by kernel_rfl⟩
theorem ahI:bF prog 13:=⟨_,func13,rfl,by kernel_rfl⟩
structure hR where
 w7:Int
 wY:Int
 deriving DecidableEq,Inhabited
instance:aj hR:= .str (dD Int (hP Int)) (fun x=>(x.w7,x.wY)) 2
def Qi:aJ hR Int:= .str dK 0 hR.w7 fun b g=>{ b with w7:=g }
def Qe:aJ hR Int:= .str (bE hY) 1 hR.wY fun b g=>{ b with wY:=g }
instance:bf hR:=⟨bf.cells Int++bf.cells Int,fun A W=>⟨by rfl,bf.ok (α:=Int) A W,bf.ok (α:=Int) A W⟩⟩
theorem JC:cI prog 48 (default:hR):=cI.of (by kernel_rfl)
theorem agL:hn prog 48 #[(0,1),(1,1)]:=⟨_,underlying48,by kernel_rfl,by kernel_rfl⟩
theorem Fl:bx prog 48 hR:=bx.of (by rfl) underlying48 (by kernel_rfl)
theorem agM:bF prog 40:=⟨_,func40,rfl,by kernel_rfl⟩
theorem ahJ:bF prog 14:=⟨_,func14,rfl,by kernel_rfl⟩
theorem adt:bU prog 48 0 0:=bU.of underlying48 rfl rfl bj rfl
theorem adu:bU prog 48 1 1:=bU.of underlying48 rfl rfl bj rfl
theorem VP:bF prog 21:=⟨_,func21,rfl,by kernel_rfl⟩
theorem Wg:bx prog 1 me:=bx.of (by rfl) underlying1 (by kernel_rfl)
theorem acj:bU prog 110 0 0:=bU.of underlying110 rfl rfl Wg rfl
theorem ahy:bF prog 81:=⟨_,func81,rfl,by kernel_rfl⟩
theorem ahz:bF prog 69:=⟨_,func69,rfl,by kernel_rfl⟩
theorem ahA:bF prog 75:=⟨_,func75,rfl,by kernel_rfl⟩
theorem ahB:bF prog 80:=⟨_,func80,rfl,by kernel_rfl⟩
theorem ahC:bF prog 18:=⟨_,func18,rfl,by kernel_rfl⟩
theorem agN:bF prog 83:=⟨_,func83,rfl,by kernel_rfl⟩
theorem ahD:bF prog 41:=⟨_,func41,rfl,by kernel_rfl⟩
theorem ahK:bF prog 15:=⟨_,func15,rfl,by kernel_rfl⟩
inductive Cell where
 | n3 (x:dO) (key:Option Nat) (cap:Nat)
 | se (x:List (Int×Ref))
 | qd (x:iW)
 | r6 (x:List (dq×kR))
 | zn (x:nJ)
 | r8 (x:iV)
 | mc (x:List (Int×az))
 | pv (x:h6)
 | nY (x:List ((Vector aO 4)×Ref))
 | qb (x:List ((Vector aO 4)×Int))
 | Cf (x:pe)
 | ue (x:er) (key:Option Nat) (cap:Nat)
 | gS (x:eo)
 | lp (x:gy)
instance:eY Cell where
 gT p k:=match k with
  | .n3 x key cap=>[⟨some p,.cE ({ x with hS:= [] } :dO) [(3,aS key x.hS.length cap)]⟩,⟨key,.row 110 (x.hS:List gf) cap⟩]
  | .se x=>[⟨some p,.map x⟩]
  | .qd x=>[⟨some p,.var x⟩]
  | .r6 x=>[⟨some p,.map x⟩]
  | .zn x=>[⟨some p,.var x⟩]
  | .r8 x=>[⟨some p,.var x⟩]
  | .mc x=>[⟨some p,.map x⟩]
  | .pv x=>[⟨some p,.var x⟩]
  | .nY x=>[⟨some p,.map x⟩]
  | .qb x=>[⟨some p,.map x⟩]
  | .Cf x=>[⟨some p,.var x⟩]
  | .ue x key cap=>[⟨some p,.cE ({ x with dH:= [] } :er) [(10,aS key x.dH.length cap)]⟩,⟨key,.row 54 (x.dH:List az) cap⟩]
  | .gS x=>[⟨some p,.var x⟩]
  | .lp x=>[⟨some p,.var x⟩]
 root p k:=by cases k <;> exact⟨_,List.mem_cons_self ..,rfl⟩
def ic (hp:aC Cell)(p:Nat):Option (dO×Option Nat×Nat):=match pat hp p with
 | some (.n3 x key cap)=>some (x,key,cap)
 | _=>none
theorem gh {hp:aC Cell}{p:Nat}{x:dO×Option Nat×Nat}(h:ic hp p=some x):pat hp p=some (.n3 x.1 x.2.1 x.2.2):=by
 unfold ic at h;split at h
 ·rename_i ae;cases h;exact ae
 cases h
def mr (hp:aC Cell)(p:Nat):Option (List (Int×Ref)):=match pat hp p with
 | some (.se x)=>some x
 | _=>none
theorem w8 {hp:aC Cell}{p:Nat}{x:List (Int×Ref)}(h:mr hp p=some x):pat hp p=some (.se x):=by
 unfold mr at h;split at h
 ·rename_i ae;cases h;exact ae
 cases h
def jM (hp:aC Cell)(p:Nat):Option iW:=match pat hp p with
 | some (.qd x)=>some x
 | _=>none
theorem nO {hp:aC Cell}{p:Nat}{x:iW}(h:jM hp p=some x):pat hp p=some (.qd x):=by
 unfold jM at h;split at h
 ·rename_i ae;cases h;exact ae
 cases h
def r2 (hp:aC Cell)(p:Nat):Option (List (dq×kR)):=match pat hp p with
 | some (.r6 x)=>some x
 | _=>none
theorem yY {hp:aC Cell}{p:Nat}{x:List (dq×kR)}(h:r2 hp p=some x):pat hp p=some (.r6 x):=by
 unfold r2 at h;split at h
 ·rename_i ae;cases h;exact ae
 cases h
def q1 (hp:aC Cell)(p:Nat):Option nJ:=match pat hp p with
 | some (.zn x)=>some x
 | _=>none
theorem yX {hp:aC Cell}{p:Nat}{x:nJ}(h:q1 hp p=some x):pat hp p=some (.zn x):=by
 unfold q1 at h;split at h
 ·rename_i ae;cases h;exact ae
 cases h
def ow (hp:aC Cell)(p:Nat):Option iV:=match pat hp p with
 | some (.r8 x)=>some x
 | _=>none
theorem rN {hp:aC Cell}{p:Nat}{x:iV}(h:ow hp p=some x):pat hp p=some (.r8 x):=by
 unfold ow at h;split at h
 ·rename_i ae;cases h;exact ae
 cases h
def mu (hp:aC Cell)(p:Nat):Option (List (Int×az)):=match pat hp p with
 | some (.mc x)=>some x
 | _=>none
theorem sQ {hp:aC Cell}{p:Nat}{x:List (Int×az)}(h:mu hp p=some x):pat hp p=some (.mc x):=by
 unfold mu at h;split at h
 ·rename_i ae;cases h;exact ae
 cases h
def jy (hp:aC Cell)(p:Nat):Option h6:=match pat hp p with
 | some (.pv x)=>some x
 | _=>none
theorem oX {hp:aC Cell}{p:Nat}{x:h6}(h:jy hp p=some x):pat hp p=some (.pv x):=by
 unfold jy at h;split at h
 ·rename_i ae;cases h;exact ae
 cases h
def lR (hp:aC Cell)(p:Nat):Option (List ((Vector aO 4)×Ref)):=match pat hp p with
 | some (.nY x)=>some x
 | _=>none
theorem oY {hp:aC Cell}{p:Nat}{x:List ((Vector aO 4)×Ref)}(h:lR hp p=some x):pat hp p=some (.nY x):=by
 unfold lR at h;split at h
 ·rename_i ae;cases h;exact ae
 cases h
def nm (hp:aC Cell)(p:Nat):Option (List ((Vector aO 4)×Int)):=match pat hp p with
 | some (.qb x)=>some x
 | _=>none
theorem tM {hp:aC Cell}{p:Nat}{x:List ((Vector aO 4)×Int)}(h:nm hp p=some x):pat hp p=some (.qb x):=by
 unfold nm at h;split at h
 ·rename_i ae;cases h;exact ae
 cases h
def ov (hp:aC Cell)(p:Nat):Option pe:=match pat hp p with
 | some (.Cf x)=>some x
 | _=>none
theorem w9 {hp:aC Cell}{p:Nat}{x:pe}(h:ov hp p=some x):pat hp p=some (.Cf x):=by
 unfold ov at h;split at h
 ·rename_i ae;cases h;exact ae
 cases h
def q0 (hp:aC Cell)(p:Nat):Option (er×Option Nat×Nat):=match pat hp p with
 | some (.ue x key cap)=>some (x,key,cap)
 | _=>none
theorem yZ {hp:aC Cell}{p:Nat}{x:er×Option Nat×Nat}(h:q0 hp p=some x):pat hp p=some (.ue x.1 x.2.1 x.2.2):=by
 unfold q0 at h;split at h
 ·rename_i ae;cases h;exact ae
 cases h
def c8 (hp:aC Cell)(p:Nat):Option eo:=match pat hp p with
 | some (.gS x)=>some x
 | _=>none
theorem lH {hp:aC Cell}{p:Nat}{x:eo}(h:c8 hp p=some x):pat hp p=some (.gS x):=by
 unfold c8 at h;split at h
 ·rename_i ae;cases h;exact ae
 cases h
def gL (hp:aC Cell)(p:Nat):Option gy:=match pat hp p with
 | some (.lp x)=>some x
 | _=>none
theorem p1 {hp:aC Cell}{p:Nat}{x:gy}(h:gL hp p=some x):pat hp p=some (.lp x):=by
 unfold gL at h;split at h
 ·rename_i ae;cases h;exact ae
 cases h
end Go.Proofs.YtppgfphgdogpeaaGreat
