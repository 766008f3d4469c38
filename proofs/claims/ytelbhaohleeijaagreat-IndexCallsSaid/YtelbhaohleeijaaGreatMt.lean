/-
  The types of the data, and facts on their tables. Conditions: none.
-/
import Derived.Test.YtelbhaohleeijaaGreatRows
import Derived.Test.YtelbhaohleeijaaGreatMl2
set_option linter.unusedVariables false
set_option linter.unusedSimpArgs false
set_option maxRecDepth 100000
namespace Go.Proofs.YtelbhaohleeijaaGreat
open Go Gv Go.Proofs.Tryz
structure aV where
 ch:List (BitVec 8)
 ta:Int
 deriving DecidableEq,Inhabited
instance:ah aV:= .str (dT (List (BitVec 8)) (iC Int)) (fun x=>(x.ch,x.ta)) 2
def Fb:aI aV (List (BitVec 8)):= .str eb 0 aV.ch fun b g=>{ b with ch:=g }
def AV:aI aV Int:= .str (bN ja) 1 aV.ta fun b g=>{ b with ta:=g }
instance:bm aV:=⟨bm.cells (List (BitVec 8))++bm.cells Int,fun A W=>⟨by rfl,bm.ok (α:=List (BitVec 8)) A W,bm.ok (α:=Int) A W⟩⟩
theorem Lm:bG prog 5 (BitVec 8):=bG.of (by rfl) underlying5 (by kernel_rfl)
theorem adK:cR prog 94 (default:aV):=cR.of (by kernel_rfl)
theorem adJ:ic prog 94 #[(0,1),(1,1)]:=⟨_,underlying94,by kernel_rfl,by kernel_rfl⟩
theorem Lt:bL prog 8:=⟨_,func8,rfl,by kernel_rfl⟩
structure fV where
 bV:Int
 cI:ByteArray
 fH:Int
 deriving DecidableEq,Inhabited
instance:ah fV:= .str (dT Int (dT ByteArray (iC Int))) (fun x=>(x.bV,x.cI,x.fH)) 3
def pJ:aI fV Int:= .str eb 0 fV.bV fun b g=>{ b with bV:=g }
def sl:aI fV ByteArray:= .str (bN eb) 1 fV.cI fun b g=>{ b with cI:=g }
def o1:aI fV Int:= .str (bN (bN ja)) 2 fV.fH fun b g=>{ b with fH:=g }
instance:bm fV:=⟨bm.cells Int++bm.cells ByteArray++bm.cells Int,fun A W=>⟨by rfl,bm.ok (α:=Int) A W,bm.ok (α:=ByteArray) A W,bm.ok (α:=Int) A W⟩⟩
structure kh where
 bV:Int
 cI:ByteArray
 fS:List Int
 deriving DecidableEq,Inhabited
instance:ah kh:= .str (dT Int (dT ByteArray (iC (List Int)))) (fun x=>(x.bV,x.cI,x.fS)) 3
def Fe:aI kh Int:= .str eb 0 kh.bV fun b g=>{ b with bV:=g }
def It:aI kh ByteArray:= .str (bN eb) 1 kh.cI fun b g=>{ b with cI:=g }
def Ih:aI kh (List Int):= .str (bN (bN ja)) 2 kh.fS fun b g=>{ b with fS:=g }
instance:bm kh:=⟨bm.cells Int++bm.cells ByteArray++bm.cells (List Int),fun A W=>⟨by rfl,bm.ok (α:=Int) A W,bm.ok (α:=ByteArray) A W,bm.ok (α:=List Int) A W⟩⟩
structure au where
 cZ:BitVec 64
 bS:BitVec 64
 deriving DecidableEq,Inhabited
instance:ah au:= .str (dT (BitVec 64) (iC (BitVec 64))) (fun x=>(x.cZ,x.bS)) 2
def hL:aI au (BitVec 64):= .str eb 0 au.cZ fun b g=>{ b with cZ:=g }
def eA:aI au (BitVec 64):= .str (bN ja) 1 au.bS fun b g=>{ b with bS:=g }
instance:bm au:=⟨bm.cells (BitVec 64)++bm.cells (BitVec 64),fun A W=>⟨by rfl,bm.ok (α:=BitVec 64) A W,bm.ok (α:=BitVec 64) A W⟩⟩
structure ho where
 cM:au
 fE:au
 qx:Int
 deriving DecidableEq,Inhabited
instance:ah ho:= .str (dT au (dT au (iC Int))) (fun x=>(x.cM,x.fE,x.qx)) 5
def E7:aI ho au:= .str eb 0 ho.cM fun b g=>{ b with cM:=g }
def Ff:aI ho au:= .str (bN eb) 2 ho.fE fun b g=>{ b with fE:=g }
def Fg:aI ho Int:= .str (bN (bN ja)) 4 ho.qx fun b g=>{ b with qx:=g }
instance:bm ho:=⟨bm.cells au++bm.cells au++bm.cells Int,fun A W=>⟨by rfl,bm.ok (α:=au) A W,bm.ok (α:=au) A W,bm.ok (α:=Int) A W⟩⟩
structure ee where
 bV:Int
 iU:Int
 oo:Int
 pR:List ho
 hV:Int
 deriving DecidableEq,Inhabited
instance:ah ee:= .str (dT Int (dT Int (dT Int (dT (List ho) (iC Int))))) (fun x=>(x.bV,x.iU,x.oo,x.pR,x.hV)) 5
def Fj:aI ee Int:= .str eb 0 ee.bV fun b g=>{ b with bV:=g }
def Il:aI ee Int:= .str (bN eb) 1 ee.iU fun b g=>{ b with iU:=g }
def Ni:aI ee Int:= .str (bN (bN eb)) 2 ee.oo fun b g=>{ b with oo:=g }
def E0:aI ee (List ho):= .str (bN (bN (bN eb))) 3 ee.pR fun b g=>{ b with pR:=g }
def Ig:aI ee Int:= .str (bN (bN (bN (bN ja)))) 4 ee.hV fun b g=>{ b with hV:=g }
instance:bm ee:=⟨bm.cells Int++bm.cells Int++bm.cells Int++bm.cells (List ho)++bm.cells Int,fun A W=>⟨by rfl,bm.ok (α:=Int) A W,bm.ok (α:=Int) A W,bm.ok (α:=Int) A W,bm.ok (α:=List ho) A W,bm.ok (α:=Int) A W⟩⟩
structure jq where
 cI:ByteArray
 fH:Int
 deriving DecidableEq,Inhabited
instance:ah jq:= .str (dT ByteArray (iC Int)) (fun x=>(x.cI,x.fH)) 2
def E8:aI jq ByteArray:= .str eb 0 jq.cI fun b g=>{ b with cI:=g }
def A1:aI jq Int:= .str (bN ja) 1 jq.fH fun b g=>{ b with fH:=g }
instance:bm jq:=⟨bm.cells ByteArray++bm.cells Int,fun A W=>⟨by rfl,bm.ok (α:=ByteArray) A W,bm.ok (α:=Int) A W⟩⟩
structure gm where
 cO:Int
 xp:Int
 cM:au
 deriving DecidableEq,Inhabited
instance:ah gm:= .str (dT Int (dT Int (iC au))) (fun x=>(x.cO,x.xp,x.cM)) 4
def EY:aI gm Int:= .str eb 0 gm.cO fun b g=>{ b with cO:=g }
def Np:aI gm Int:= .str (bN eb) 1 gm.xp fun b g=>{ b with xp:=g }
def Vg:aI gm au:= .str (bN (bN ja)) 2 gm.cM fun b g=>{ b with cM:=g }
instance:bm gm:=⟨bm.cells Int++bm.cells Int++bm.cells au,fun A W=>⟨by rfl,bm.ok (α:=Int) A W,bm.ok (α:=Int) A W,bm.ok (α:=au) A W⟩⟩
structure fx where
 iX:Int
 kl:Int
 lf:gm
 deriving DecidableEq,Inhabited
instance:ah fx:= .str (dT Int (dT Int (iC gm))) (fun x=>(x.iX,x.kl,x.lf)) 6
def sq:aI fx Int:= .str eb 0 fx.iX fun b g=>{ b with iX:=g }
def vP:aI fx Int:= .str (bN eb) 1 fx.kl fun b g=>{ b with kl:=g }
def yk:aI fx gm:= .str (bN (bN ja)) 2 fx.lf fun b g=>{ b with lf:=g }
instance:bm fx:=⟨bm.cells Int++bm.cells Int++bm.cells gm,fun A W=>⟨by rfl,bm.ok (α:=Int) A W,bm.ok (α:=Int) A W,bm.ok (α:=gm) A W⟩⟩
structure eo where
 bV:Int
 cI:ByteArray
 kV:List jq
 pd:List fx
 rr:ByteArray
 deriving DecidableEq,Inhabited
instance:ah eo:= .str (dT Int (dT ByteArray (dT (List jq) (dT (List fx) (iC ByteArray))))) (fun x=>(x.bV,x.cI,x.kV,x.pd,x.rr)) 5
def tV:aI eo Int:= .str eb 0 eo.bV fun b g=>{ b with bV:=g }
def x8:aI eo ByteArray:= .str (bN eb) 1 eo.cI fun b g=>{ b with cI:=g }
def EW:aI eo (List jq):= .str (bN (bN eb)) 2 eo.kV fun b g=>{ b with kV:=g }
def AM:aI eo (List fx):= .str (bN (bN (bN eb))) 3 eo.pd fun b g=>{ b with pd:=g }
def M8:aI eo ByteArray:= .str (bN (bN (bN (bN ja)))) 4 eo.rr fun b g=>{ b with rr:=g }
instance:bm eo:=⟨bm.cells Int++bm.cells ByteArray++bm.cells (List jq)++bm.cells (List fx)++bm.cells ByteArray,fun A W=>⟨by rfl,bm.ok (α:=Int) A W,bm.ok (α:=ByteArray) A W,bm.ok (α:=List jq) A W,bm.ok (α:=List fx) A W,bm.ok (α:=ByteArray) A W⟩⟩
structure cW where
 cI:ByteArray
 hr:Int
 cO:Int
 deriving DecidableEq,Inhabited
instance:ah cW:= .str (dT ByteArray (dT Int (iC Int))) (fun x=>(x.cI,x.hr,x.cO)) 3
def so:aI cW ByteArray:= .str eb 0 cW.cI fun b g=>{ b with cI:=g }
def o2:aI cW Int:= .str (bN eb) 1 cW.hr fun b g=>{ b with hr:=g }
def l7:aI cW Int:= .str (bN (bN ja)) 2 cW.cO fun b g=>{ b with cO:=g }
instance:bm cW:=⟨bm.cells ByteArray++bm.cells Int++bm.cells Int,fun A W=>⟨by rfl,bm.ok (α:=ByteArray) A W,bm.ok (α:=Int) A W,bm.ok (α:=Int) A W⟩⟩
structure bl where
 bV:Int
 cI:ByteArray
 b4:List cW
 dN:List Int
 hV:Int
 vU:List au
 j6:Int
 rr:ByteArray
 deriving DecidableEq,Inhabited
instance:ah bl:= .str (dT Int (dT ByteArray (dT (List cW) (dT (List Int) (dT Int (dT (List au) (dT Int (iC ByteArray)))))))) (fun x=>(x.bV,x.cI,x.b4,x.dN,x.hV,x.vU,x.j6,x.rr)) 8
def l6:aI bl Int:= .str eb 0 bl.bV fun b g=>{ b with bV:=g }
def E9:aI bl ByteArray:= .str (bN eb) 1 bl.cI fun b g=>{ b with cI:=g }
def j2:aI bl (List cW):= .str (bN (bN eb)) 2 bl.b4 fun b g=>{ b with b4:=g }
def x4:aI bl (List Int):= .str (bN (bN (bN eb))) 3 bl.dN fun b g=>{ b with dN:=g }
def EX:aI bl Int:= .str (bN (bN (bN (bN eb)))) 4 bl.hV fun b g=>{ b with hV:=g }
def UX:aI bl (List au):= .str (bN (bN (bN (bN (bN eb))))) 5 bl.vU fun b g=>{ b with vU:=g }
def Fa:aI bl Int:= .str (bN (bN (bN (bN (bN (bN eb)))))) 6 bl.j6 fun b g=>{ b with j6:=g }
def UY:aI bl ByteArray:= .str (bN (bN (bN (bN (bN (bN (bN ja))))))) 7 bl.rr fun b g=>{ b with rr:=g }
instance:bm bl:=⟨bm.cells Int++bm.cells ByteArray++bm.cells (List cW)++bm.cells (List Int)++bm.cells Int++bm.cells (List au)++bm.cells Int++bm.cells ByteArray,fun A W=>⟨by rfl,bm.ok (α:=Int) A W,bm.ok (α:=ByteArray) A W,bm.ok (α:=List cW) A W,bm.ok (α:=List Int) A W,bm.ok (α:=Int) A W,bm.ok (α:=List au) A W,bm.ok (α:=Int) A W,bm.ok (α:=ByteArray) A W⟩⟩
structure gn where
 dB:Int
 iU:Int
 deriving DecidableEq,Inhabited
instance:ah gn:= .str (dT Int (iC Int)) (fun x=>(x.dB,x.iU)) 2
def AO:aI gn Int:= .str eb 0 gn.dB fun b g=>{ b with dB:=g }
def Io:aI gn Int:= .str (bN ja) 1 gn.iU fun b g=>{ b with iU:=g }
instance:bm gn:=⟨bm.cells Int++bm.cells Int,fun A W=>⟨by rfl,bm.ok (α:=Int) A W,bm.ok (α:=Int) A W⟩⟩
structure dY where
 dB:Int
 sM:Bool
 sH:Bool
 b4:List Bool
 deriving DecidableEq,Inhabited
instance:ah dY:= .str (dT Int (dT Bool (dT Bool (iC (List Bool))))) (fun x=>(x.dB,x.sM,x.sH,x.b4)) 4
def Ir:aI dY Int:= .str eb 0 dY.dB fun b g=>{ b with dB:=g }
def Iv:aI dY Bool:= .str (bN eb) 1 dY.sM fun b g=>{ b with sM:=g }
def Is:aI dY Bool:= .str (bN (bN eb)) 2 dY.sH fun b g=>{ b with sH:=g }
def Iw:aI dY (List Bool):= .str (bN (bN (bN ja))) 3 dY.b4 fun b g=>{ b with b4:=g }
instance:bm dY:=⟨bm.cells Int++bm.cells Bool++bm.cells Bool++bm.cells (List Bool),fun A W=>⟨by rfl,bm.ok (α:=Int) A W,bm.ok (α:=Bool) A W,bm.ok (α:=Bool) A W,bm.ok (α:=List Bool) A W⟩⟩
structure c3 where
 bV:Int
 cI:ByteArray
 j3:List dY
 dN:List Int
 sG:Int
 BY:Bool
 deriving DecidableEq,Inhabited
instance:ah c3:= .str (dT Int (dT ByteArray (dT (List dY) (dT (List Int) (dT Int (iC Bool)))))) (fun x=>(x.bV,x.cI,x.j3,x.dN,x.sG,x.BY)) 6
def Fk:aI c3 Int:= .str eb 0 c3.bV fun b g=>{ b with bV:=g }
def Iy:aI c3 ByteArray:= .str (bN eb) 1 c3.cI fun b g=>{ b with cI:=g }
def x9:aI c3 (List dY):= .str (bN (bN eb)) 2 c3.j3 fun b g=>{ b with j3:=g }
def Im:aI c3 (List Int):= .str (bN (bN (bN eb))) 3 c3.dN fun b g=>{ b with dN:=g }
def Iu:aI c3 Int:= .str (bN (bN (bN (bN eb)))) 4 c3.sG fun b g=>{ b with sG:=g }
def VP:aI c3 Bool:= .str (bN (bN (bN (bN (bN ja))))) 5 c3.BY fun b g=>{ b with BY:=g }
instance:bm c3:=⟨bm.cells Int++bm.cells ByteArray++bm.cells (List dY)++bm.cells (List Int)++bm.cells Int++bm.cells Bool,fun A W=>⟨by rfl,bm.ok (α:=Int) A W,bm.ok (α:=ByteArray) A W,bm.ok (α:=List dY) A W,bm.ok (α:=List Int) A W,bm.ok (α:=Int) A W,bm.ok (α:=Bool) A W⟩⟩
structure fy where
 dB:Int
 wS:Int
 jd:Int
 aad:Int
 qp:Int
 aae:Int
 deriving DecidableEq,Inhabited
instance:ah fy:= .str (dT Int (dT Int (dT Int (dT Int (dT Int (iC Int)))))) (fun x=>(x.dB,x.wS,x.jd,x.aad,x.qp,x.aae)) 6
def Fh:aI fy Int:= .str eb 0 fy.dB fun b g=>{ b with dB:=g }
def Nv:aI fy Int:= .str (bN eb) 1 fy.wS fun b g=>{ b with wS:=g }
def Nl:aI fy Int:= .str (bN (bN eb)) 2 fy.jd fun b g=>{ b with jd:=g }
def E2:aI fy Int:= .str (bN (bN (bN (bN eb)))) 4 fy.qp fun b g=>{ b with qp:=g }
instance:bm fy:=⟨bm.cells Int++bm.cells Int++bm.cells Int++bm.cells Int++bm.cells Int++bm.cells Int,fun A W=>⟨by rfl,bm.ok (α:=Int) A W,bm.ok (α:=Int) A W,bm.ok (α:=Int) A W,bm.ok (α:=Int) A W,bm.ok (α:=Int) A W,bm.ok (α:=Int) A W⟩⟩
structure aQ where
 fS:List fV
 mA:List kh
 nc:List ee
 dN:List eo
 bh:List bl
 oq:List gn
 kj:List c3
 pe:List fy
 BF:Int
 BS:Int
 deriving DecidableEq,Inhabited
instance:ah aQ:= .str (dT (List fV) (dT (List kh) (dT (List ee) (dT (List eo) (dT (List bl) (dT (List gn) (dT (List c3) (dT (List fy) (dT Int (iC Int)))))))))) (fun x=>(x.fS,x.mA,x.nc,x.dN,x.bh,x.oq,x.kj,x.pe,x.BF,x.BS)) 10
def vN:aI aQ (List fV):= .str eb 0 aQ.fS fun b g=>{ b with fS:=g }
def Nb:aI aQ (List kh):= .str (bN eb) 1 aQ.mA fun b g=>{ b with mA:=g }
def Nc:aI aQ (List ee):= .str (bN (bN eb)) 2 aQ.nc fun b g=>{ b with nc:=g }
def Ib:aI aQ (List eo):= .str (bN (bN (bN eb))) 3 aQ.dN fun b g=>{ b with dN:=g }
def og:aI aQ (List bl):= .str (bN (bN (bN (bN eb)))) 4 aQ.bh fun b g=>{ b with bh:=g }
def Ii:aI aQ (List gn):= .str (bN (bN (bN (bN (bN eb))))) 5 aQ.oq fun b g=>{ b with oq:=g }
def Nh:aI aQ (List c3):= .str (bN (bN (bN (bN (bN (bN eb)))))) 6 aQ.kj fun b g=>{ b with kj:=g }
def E1:aI aQ (List fy):= .str (bN (bN (bN (bN (bN (bN (bN eb))))))) 7 aQ.pe fun b g=>{ b with pe:=g }
def U5:aI aQ Int:= .str (bN (bN (bN (bN (bN (bN (bN (bN eb)))))))) 8 aQ.BF fun b g=>{ b with BF:=g }
def Vh:aI aQ Int:= .str (bN (bN (bN (bN (bN (bN (bN (bN (bN ja))))))))) 9 aQ.BS fun b g=>{ b with BS:=g }
instance:bm aQ:=⟨bm.cells (List fV)++bm.cells (List kh)++bm.cells (List ee)++bm.cells (List eo)++bm.cells (List bl)++bm.cells (List gn)++bm.cells (List c3)++bm.cells (List fy)++bm.cells Int++bm.cells Int,fun A W=>⟨by rfl,bm.ok (α:=List fV) A W,bm.ok (α:=List kh) A W,bm.ok (α:=List ee) A W,bm.ok (α:=List eo) A W,bm.ok (α:=List bl) A W,bm.ok (α:=List gn) A W,bm.ok (α:=List c3) A W,bm.ok (α:=List fy) A W,bm.ok (α:=Int) A W,bm.ok (α:=Int) A W⟩⟩
theorem Dm:cR prog 32 (default:aQ):=cR.of (by kernel_rfl)
theorem bx:bG prog 3 Int:=bG.of (by rfl) underlying3 (by kernel_rfl)
theorem B6:cE prog 94 1 1:=cE.of underlying94 rfl rfl bx rfl
theorem GO:bG prog 22 (List (BitVec 8)):=bG.of (by rfl) underlying22 (by kernel_rfl)
theorem JO:cE prog 94 0 0:=cE.of underlying94 rfl rfl GO rfl
theorem mixed:prog.follows .mixedOrders=true:=by kernel_rfl
theorem S1:bL prog 14:=⟨_,func14,rfl,by kernel_rfl⟩
theorem gu:bL prog 17:=⟨_,func17,rfl,by kernel_rfl⟩
theorem ad3:ic prog 32 #[(0,1),(1,1),(2,1),(3,1),(4,1),(5,1),(6,1),(7,1),(8,1),(9,1)]:=⟨_,underlying32,by kernel_rfl,by kernel_rfl⟩
theorem eK:bG prog 32 aQ:=bG.of (by rfl) underlying32 (by kernel_rfl)
theorem p5:cR prog 96 (default:fV):=cR.of (by kernel_rfl)
theorem s7:ic prog 96 #[(0,1),(1,1),(2,1)]:=⟨_,underlying96,by kernel_rfl,by kernel_rfl⟩
theorem p4:bG prog 96 fV:=bG.of (by rfl) underlying96 (by kernel_rfl)
theorem uS:bG prog 23 (List fV):=bG.of (by rfl) underlying23 (by kernel_rfl)
theorem wE:cE prog 32 0 0:=cE.of underlying32 rfl rfl uS rfl
theorem hE:cR prog 3 (default:Int):=cR.of (by kernel_rfl)
theorem Db:cR prog 98 (default:kh):=cR.of (by kernel_rfl)
theorem KY:ic prog 98 #[(0,1),(1,1),(2,1)]:=⟨_,underlying98,by kernel_rfl,by kernel_rfl⟩
theorem GQ:bG prog 98 kh:=bG.of (by rfl) underlying98 (by kernel_rfl)
theorem KR:bG prog 24 (List kh):=bG.of (by rfl) underlying24 (by kernel_rfl)
theorem Qh:cE prog 32 1 1:=cE.of underlying32 rfl rfl KR rfl
theorem uI:cR prog 193 (default:ee):=cR.of (by kernel_rfl)
theorem Km:ic prog 193 #[(0,1),(1,1),(2,1),(3,1),(4,1)]:=⟨_,underlying193,by kernel_rfl,by kernel_rfl⟩
theorem rM:bG prog 193 ee:=bG.of (by rfl) underlying193 (by kernel_rfl)
theorem eB:cR prog 63 (default:au):=cR.of (by kernel_rfl)
theorem hP:ic prog 63 #[(0,1),(1,1)]:=⟨_,underlying63,by kernel_rfl,by kernel_rfl⟩
theorem uL:cR prog 195 (default:ho):=cR.of (by kernel_rfl)
theorem Gw:ic prog 195 #[(0,2),(2,2),(4,1)]:=⟨_,underlying195,by kernel_rfl,by kernel_rfl⟩
theorem Gx:bG prog 195 ho:=bG.of (by rfl) underlying195 (by kernel_rfl)
theorem CE:bG prog 191 (List ho):=bG.of (by rfl) underlying191 (by kernel_rfl)
theorem F2:cE prog 193 3 3:=cE.of underlying193 rfl rfl CE rfl
theorem nV:bL prog 16:=⟨_,func16,rfl,by kernel_rfl⟩
theorem PC:jH prog 193 [3]:=by unfold jH;kernel_rfl
theorem ad4:bL prog 45:=⟨_,func45,rfl,by kernel_rfl⟩
theorem CF:cR prog 197 (default:gm):=cR.of (by kernel_rfl)
theorem Gy:ic prog 197 #[(0,1),(1,1),(2,2)]:=⟨_,underlying197,by kernel_rfl,by kernel_rfl⟩
theorem Gz:bG prog 197 gm:=bG.of (by rfl) underlying197 (by kernel_rfl)
theorem qC:cR prog 134 (default:eo):=cR.of (by kernel_rfl)
theorem wQ:ic prog 134 #[(0,1),(1,1),(2,1),(3,1),(4,1)]:=⟨_,underlying134,by kernel_rfl,by kernel_rfl⟩
theorem oG:cR prog 199 (default:fx):=cR.of (by kernel_rfl)
theorem sT:ic prog 199 #[(0,1),(1,1),(2,4)]:=⟨_,underlying199,by kernel_rfl,by kernel_rfl⟩
theorem CG:bG prog 199 fx:=bG.of (by rfl) underlying199 (by kernel_rfl)
theorem uK:cR prog 137 (default:jq):=cR.of (by kernel_rfl)
theorem GA:ic prog 137 #[(0,1),(1,1)]:=⟨_,underlying137,by kernel_rfl,by kernel_rfl⟩
theorem zg:bG prog 137 jq:=bG.of (by rfl) underlying137 (by kernel_rfl)
theorem oF:bG prog 134 eo:=bG.of (by rfl) underlying134 (by kernel_rfl)
theorem qS:bG prog 9 ByteArray:=bG.of (by rfl) underlying9 (by kernel_rfl)
theorem PD:cE prog 134 4 4:=cE.of underlying134 rfl rfl qS rfl
theorem ad5:bL prog 46:=⟨_,func46,rfl,by kernel_rfl⟩
theorem jM:cR prog 120 (default:cW):=cR.of (by kernel_rfl)
theorem sU:ic prog 120 #[(0,1),(1,1),(2,1)]:=⟨_,underlying120,by kernel_rfl,by kernel_rfl⟩
theorem hY:bG prog 120 cW:=bG.of (by rfl) underlying120 (by kernel_rfl)
theorem lP:cR prog 40 (default:bl):=cR.of (by kernel_rfl)
theorem Dl:ic prog 40 #[(0,1),(1,1),(2,1),(3,1),(4,1),(5,1),(6,1),(7,1)]:=⟨_,underlying40,by kernel_rfl,by kernel_rfl⟩
theorem gr:bG prog 40 bl:=bG.of (by rfl) underlying40 (by kernel_rfl)
theorem kZ:bG prog 36 (List cW):=bG.of (by rfl) underlying36 (by kernel_rfl)
theorem lb:cE prog 40 2 2:=cE.of underlying40 rfl rfl kZ rfl
theorem JU:jH prog 40 [2]:=by unfold jH;kernel_rfl
theorem JT:jH prog 40 []:=by unfold jH;kernel_rfl
theorem bU:bG prog 63 au:=bG.of (by rfl) underlying63 (by kernel_rfl)
theorem Hf:cR prog 9 (default:ByteArray):=cR.of (by kernel_rfl)
theorem Kn:bG prog 200 (List ByteArray):=bG.of (by rfl) underlying200 (by kernel_rfl)
theorem abw:cR prog 200 (default:List ByteArray):=cR.of (by kernel_rfl)
theorem aak:cE prog 40 7 7:=cE.of underlying40 rfl rfl qS rfl
theorem ad6:bL prog 47:=⟨_,func47,rfl,by kernel_rfl⟩
theorem KS:bG prog 25 (List ee):=bG.of (by rfl) underlying25 (by kernel_rfl)
theorem Qi:cE prog 32 2 2:=cE.of underlying32 rfl rfl KS rfl
theorem GP:bG prog 26 (List eo):=bG.of (by rfl) underlying26 (by kernel_rfl)
theorem JS:cE prog 32 3 3:=cE.of underlying32 rfl rfl GP rfl
theorem nT:bG prog 27 (List bl):=bG.of (by rfl) underlying27 (by kernel_rfl)
theorem oy:cE prog 32 4 4:=cE.of underlying32 rfl rfl nT rfl
theorem uV:cR prog 85 (default:c3):=cR.of (by kernel_rfl)
theorem KX:ic prog 85 #[(0,1),(1,1),(2,1),(3,1),(4,1),(5,1)]:=⟨_,underlying85,by kernel_rfl,by kernel_rfl⟩
theorem rS:bG prog 85 c3:=bG.of (by rfl) underlying85 (by kernel_rfl)
theorem fO:bG prog 4 Bool:=bG.of (by rfl) underlying4 (by kernel_rfl)
theorem Hg:cR prog 4 (default:Bool):=cR.of (by kernel_rfl)
theorem xc:bG prog 83 (List dY):=bG.of (by rfl) underlying83 (by kernel_rfl)
theorem y1:cE prog 85 2 2:=cE.of underlying85 rfl rfl xc rfl
theorem ox:cE prog 40 0 0:=cE.of underlying40 rfl rfl bx rfl
theorem sV:cR prog 204 (default:dY):=cR.of (by kernel_rfl)
theorem Ko:ic prog 204 #[(0,1),(1,1),(2,1),(3,1)]:=⟨_,underlying204,by kernel_rfl,by kernel_rfl⟩
theorem zh:bG prog 204 dY:=bG.of (by rfl) underlying204 (by kernel_rfl)
theorem y0:jH prog 85 [2]:=by unfold jH;kernel_rfl
theorem ad7:bL prog 48:=⟨_,func48,rfl,by kernel_rfl⟩
theorem KT:bG prog 29 (List c3):=bG.of (by rfl) underlying29 (by kernel_rfl)
theorem Qj:cE prog 32 6 6:=cE.of underlying32 rfl rfl KT rfl
theorem uM:cR prog 104 (default:gn):=cR.of (by kernel_rfl)
theorem CH:ic prog 104 #[(0,1),(1,1)]:=⟨_,underlying104,by kernel_rfl,by kernel_rfl⟩
theorem Kp:bG prog 104 gn:=bG.of (by rfl) underlying104 (by kernel_rfl)
theorem GR:bG prog 28 (List gn):=bG.of (by rfl) underlying28 (by kernel_rfl)
theorem JV:cE prog 32 5 5:=cE.of underlying32 rfl rfl GR rfl
theorem xd:bG prog 30 (List fy):=bG.of (by rfl) underlying30 (by kernel_rfl)
theorem y2:cE prog 32 7 7:=cE.of underlying32 rfl rfl xd rfl
theorem rN:cR prog 106 (default:fy):=cR.of (by kernel_rfl)
theorem GB:ic prog 106 #[(0,1),(1,1),(2,1),(3,1),(4,1),(5,1)]:=⟨_,underlying106,by kernel_rfl,by kernel_rfl⟩
theorem zi:bG prog 106 fy:=bG.of (by rfl) underlying106 (by kernel_rfl)
theorem OW:jH prog 32 [5,7]:=by unfold jH;kernel_rfl
theorem TI:bL prog 9:=⟨_,func9,rfl,by kernel_rfl⟩
theorem S7:bL prog 10:=⟨_,func10,rfl,by kernel_rfl⟩
theorem adN:bL prog 91:=⟨_,func91,rfl,by kernel_rfl⟩
theorem adO:bL prog 90:=⟨_,func90,rfl,by kernel_rfl⟩
theorem S2:bL prog 49:=⟨_,func49,rfl,by kernel_rfl⟩
theorem sB:cE prog 120 2 2:=cE.of underlying120 rfl rfl bx rfl
theorem adR:bL prog 50:=⟨_,func50,rfl,by kernel_rfl⟩
structure b5 where
 ff:Bool
 cM:au
 fE:au
 dK:Int
 jr:au
 deriving DecidableEq,Inhabited
instance:ah b5:= .str (dT Bool (dT au (dT au (dT Int (iC au))))) (fun x=>(x.ff,x.cM,x.fE,x.dK,x.jr)) 8
def nI:aI b5 Bool:= .str eb 0 b5.ff fun b g=>{ b with ff:=g }
def jJ:aI b5 au:= .str (bN eb) 1 b5.cM fun b g=>{ b with cM:=g }
def oh:aI b5 au:= .str (bN (bN eb)) 3 b5.fE fun b g=>{ b with fE:=g }
def my:aI b5 Int:= .str (bN (bN (bN eb))) 5 b5.dK fun b g=>{ b with dK:=g }
def sk:aI b5 au:= .str (bN (bN (bN (bN ja)))) 6 b5.jr fun b g=>{ b with jr:=g }
instance:bm b5:=⟨bm.cells Bool++bm.cells au++bm.cells au++bm.cells Int++bm.cells au,fun A W=>⟨by rfl,bm.ok (α:=Bool) A W,bm.ok (α:=au) A W,bm.ok (α:=au) A W,bm.ok (α:=Int) A W,bm.ok (α:=au) A W⟩⟩
structure bd where
 dB:Int
 bY:List b5
 fG:Int
 jd:Int
 hX:List au
 deriving DecidableEq,Inhabited
instance:ah bd:= .str (dT Int (dT (List b5) (dT Int (dT Int (iC (List au)))))) (fun x=>(x.dB,x.bY,x.fG,x.jd,x.hX)) 5
def pI:aI bd Int:= .str eb 0 bd.dB fun b g=>{ b with dB:=g }
def j1:aI bd (List b5):= .str (bN eb) 1 bd.bY fun b g=>{ b with bY:=g }
def nH:aI bd Int:= .str (bN (bN eb)) 2 bd.fG fun b g=>{ b with fG:=g }
def x7:aI bd Int:= .str (bN (bN (bN eb))) 3 bd.jd fun b g=>{ b with jd:=g }
def tU:aI bd (List au):= .str (bN (bN (bN (bN ja)))) 4 bd.hX fun b g=>{ b with hX:=g }
instance:bm bd:=⟨bm.cells Int++bm.cells (List b5)++bm.cells Int++bm.cells Int++bm.cells (List au),fun A W=>⟨by rfl,bm.ok (α:=Int) A W,bm.ok (α:=List b5) A W,bm.ok (α:=Int) A W,bm.ok (α:=Int) A W,bm.ok (α:=List au) A W⟩⟩
structure ax where
 bA:bd
 cB:Int
 o9:Int
 deriving DecidableEq,Inhabited
instance:ah ax:= .str (dT bd (dT Int (iC Int))) (fun x=>(x.bA,x.cB,x.o9)) 7
def ie:aI ax bd:= .str eb 0 ax.bA fun b g=>{ b with bA:=g }
def lH:aI ax Int:= .str (bN eb) 5 ax.cB fun b g=>{ b with cB:=g }
def Ia:aI ax Int:= .str (bN (bN ja)) 6 ax.o9 fun b g=>{ b with o9:=g }
instance:bm ax:=⟨bm.cells bd++bm.cells Int++bm.cells Int,fun A W=>⟨by rfl,bm.ok (α:=bd) A W,bm.ok (α:=Int) A W,bm.ok (α:=Int) A W⟩⟩
structure kg where
 qQ:Ref
 deriving DecidableEq,Inhabited
instance:ah kg:= .str (iC Ref) (fun x=>x.qQ) 1
def AW:aI kg Ref:= .str ja 0 kg.qQ fun b g=>{ b with qQ:=g }
instance:bm kg:=⟨bm.cells Ref,fun A W=>⟨by rfl,bm.ok (α:=Ref) A W⟩⟩
structure ha where
 sR:Int
 fT:Int
 ow:gE
 deriving DecidableEq,Inhabited
instance:ah ha:= .str (dT Int (dT Int (iC gE))) (fun x=>(x.sR,x.fT,x.ow)) 3
def Ax:aI ha Int:= .str eb 0 ha.sR fun b g=>{ b with sR:=g }
def ER:aI ha Int:= .str (bN eb) 1 ha.fT fun b g=>{ b with fT:=g }
def rn:aI ha gE:= .str (bN (bN ja)) 2 ha.ow fun b g=>{ b with ow:=g }
instance:bm ha:=⟨bm.cells Int++bm.cells Int++bm.cells gE,fun A W=>⟨by rfl,bm.ok (α:=Int) A W,bm.ok (α:=Int) A W,bm.ok (α:=gE) A W⟩⟩
structure jK where
 ch:Ref
 deriving DecidableEq,Inhabited
instance:ah jK:= .str (iC Ref) (fun x=>x.ch) 1
def AX:aI jK Ref:= .str ja 0 jK.ch fun b g=>{ b with ch:=g }
instance:bm jK:=⟨bm.cells Ref,fun A W=>⟨by rfl,bm.ok (α:=Ref) A W⟩⟩
inductive gO where
 | nil
 | mK (x:kg)
 | mL (x:ha)
 | mM (x:jK)
 deriving DecidableEq,Inhabited
instance:ah gO where
 size:=1
 agg:=false
 rep A W cs x:=match x with
  | .nil=>cs= [.nilIface]
  | .mK x=> ∃ v,cs= [.iface 118 v]∧ (I.of x).holds A W v
  | .mL x=> ∃ v,cs= [.iface 123 v]∧ (I.of x).holds A W v
  | .mM x=> ∃ v,cs= [.iface 127 v]∧ (I.of x).holds A W v
 len {A W cs x} h:=by cases x <;> first | (have h:cs=_:=h;rw [h];rfl) | (obtain⟨v,h,_⟩:=h;rw [h];rfl)
 one {A W cs x} h:=by
  intro u hu;cases x <;> first | (have h:cs=_:=h;rw [h] at hu;rw [List.mem_singleton.1 hu];rfl) | (obtain⟨v,h,_⟩:=h;rw [h] at hu;rw [List.mem_singleton.1 hu];rfl)
 flat _:=rfl
 mono {A W c8 W' cs x} e h:=by cases x <;> first | exact h | (obtain⟨v,h,ad⟩:=h;exact⟨v,h,I.mono _ e ad⟩)
instance:bm gO:=⟨[.nilIface],fun _ _=>rfl⟩
theorem XN {A W v}{x:kg}(h:(I.of x).holds A W v):(I.of (gO.mK x)).holds A W (.iface 118 v):=⟨rfl,v,rfl,h⟩
theorem FG {A W u}{x:kg}(h:(I.of (gO.mK x)).holds A W u):∃ v,u= .iface 118 v∧ (I.of x).holds A W v:=by
 obtain⟨h1,v,ad,aD⟩:=h;exact⟨v,o5 h1 ad,aD⟩
theorem XO {A W v}{x:ha}(h:(I.of x).holds A W v):(I.of (gO.mL x)).holds A W (.iface 123 v):=⟨rfl,v,rfl,h⟩
theorem FH {A W u}{x:ha}(h:(I.of (gO.mL x)).holds A W u):∃ v,u= .iface 123 v∧ (I.of x).holds A W v:=by
 obtain⟨h1,v,ad,aD⟩:=h;exact⟨v,o5 h1 ad,aD⟩
theorem XP {A W v}{x:jK}(h:(I.of x).holds A W v):(I.of (gO.mM x)).holds A W (.iface 127 v):=⟨rfl,v,rfl,h⟩
theorem FI {A W u}{x:jK}(h:(I.of (gO.mM x)).holds A W u):∃ v,u= .iface 127 v∧ (I.of x).holds A W v:=by
 obtain⟨h1,v,ad,aD⟩:=h;exact⟨v,o5 h1 ad,aD⟩
structure gP where
 qv:Int
 pU:Int
 jc:gO
 ki:gE
 deriving DecidableEq,Inhabited
instance:ah gP:= .str (dT Int (dT Int (dT gO (iC gE)))) (fun x=>(x.qv,x.pU,x.jc,x.ki)) 4
def Nf:aI gP Int:= .str eb 0 gP.qv fun b g=>{ b with qv:=g }
def Ng:aI gP Int:= .str (bN eb) 1 gP.pU fun b g=>{ b with pU:=g }
def tS:aI gP gO:= .str (bN (bN eb)) 2 gP.jc fun b g=>{ b with jc:=g }
def vJ:aI gP gE:= .str (bN (bN (bN ja))) 3 gP.ki fun b g=>{ b with ki:=g }
instance:bm gP:=⟨bm.cells Int++bm.cells Int++bm.cells gO++bm.cells gE,fun A W=>⟨by rfl,bm.ok (α:=Int) A W,bm.ok (α:=Int) A W,bm.ok (α:=gO) A W,bm.ok (α:=gE) A W⟩⟩
theorem abb:cR prog 114 (default:gP):=cR.of (by kernel_rfl)
theorem aba:ic prog 114 #[(0,1),(1,1),(2,1),(3,1)]:=⟨_,underlying114,by kernel_rfl,by kernel_rfl⟩
structure nK where
 pf:gE
 deriving DecidableEq,Inhabited
instance:ah nK:= .str (iC gE) (fun x=>x.pf) 1
def AJ:aI nK gE:= .str ja 0 nK.pf fun b g=>{ b with pf:=g }
instance:bm nK:=⟨bm.cells gE,fun A W=>⟨by rfl,bm.ok (α:=gE) A W⟩⟩
theorem aa2:cR prog 209 (default:nK):=cR.of (by kernel_rfl)
theorem aa1:ic prog 209 #[(0,1)]:=⟨_,underlying209,by kernel_rfl,by kernel_rfl⟩
theorem adS:bL prog 51:=⟨_,func51,rfl,by kernel_rfl⟩
theorem abd:cR prog 118 (default:kg):=cR.of (by kernel_rfl)
theorem abc:ic prog 118 #[(0,1)]:=⟨_,underlying118,by kernel_rfl,by kernel_rfl⟩
theorem sQ:bG prog 112 gO:=bG.of (by rfl) underlying112 (by kernel_rfl)
theorem um:cE prog 114 2 2:=cE.of underlying114 rfl rfl sQ rfl
theorem JQ:cE prog 96 0 0:=cE.of underlying96 rfl rfl bx rfl
theorem adP:bL prog 93:=⟨_,func93,rfl,by kernel_rfl⟩
theorem adQ:bL prog 92:=⟨_,func92,rfl,by kernel_rfl⟩
theorem FZ:cE prog 120 1 1:=cE.of underlying120 rfl rfl bx rfl
theorem S3:bL prog 52:=⟨_,func52,rfl,by kernel_rfl⟩
theorem Gf:cE prog 96 2 2:=cE.of underlying96 rfl rfl bx rfl
theorem abf:cR prog 123 (default:ha):=cR.of (by kernel_rfl)
theorem abe:ic prog 123 #[(0,1),(1,1),(2,1)]:=⟨_,underlying123,by kernel_rfl,by kernel_rfl⟩
structure cK where
 o6:aQ
 ch:List ax
 deriving DecidableEq,Inhabited
instance:ah cK:= .str (dT aQ (iC (List ax))) (fun x=>(x.o6,x.ch)) 11
def EP:aI cK aQ:= .str eb 0 cK.o6 fun b g=>{ b with o6:=g }
def yb:aI cK (List ax):= .str (bN ja) 10 cK.ch fun b g=>{ b with ch:=g }
instance:bm cK:=⟨bm.cells aQ++bm.cells (List ax),fun A W=>⟨by rfl,bm.ok (α:=aQ) A W,bm.ok (α:=List ax) A W⟩⟩
theorem aa4:cR prog 213 (default:cK):=cR.of (by kernel_rfl)
theorem aa3:ic prog 213 #[(0,10),(10,1)]:=⟨_,underlying213,by kernel_rfl,by kernel_rfl⟩
theorem adT:bL prog 53:=⟨_,func53,rfl,by kernel_rfl⟩
theorem YG:jH prog 213 [10]:=by unfold jH;kernel_rfl
theorem abj:cR prog 127 (default:jK):=cR.of (by kernel_rfl)
theorem abi:ic prog 127 #[(0,1)]:=⟨_,underlying127,by kernel_rfl,by kernel_rfl⟩
theorem s8:bL prog 11:=⟨_,func11,rfl,by kernel_rfl⟩
structure bJ where
 h6:aQ
 b0:List ax
 deriving DecidableEq,Inhabited
instance:ah bJ:= .str (dT aQ (iC (List ax))) (fun x=>(x.h6,x.b0)) 11
def sn:aI bJ aQ:= .str eb 0 bJ.h6 fun b g=>{ b with h6:=g }
def mz:aI bJ (List ax):= .str (bN ja) 10 bJ.b0 fun b g=>{ b with b0:=g }
instance:bm bJ:=⟨bm.cells aQ++bm.cells (List ax),fun A W=>⟨by rfl,bm.ok (α:=aQ) A W,bm.ok (α:=List ax) A W⟩⟩
theorem u0:cR prog 47 (default:bJ):=cR.of (by kernel_rfl)
theorem uZ:ic prog 47 #[(0,10),(10,1)]:=⟨_,underlying47,by kernel_rfl,by kernel_rfl⟩
theorem Zm:cE prog 114 0 0:=cE.of underlying114 rfl rfl bx rfl
theorem Dq:bL prog 12:=⟨_,func12,rfl,by kernel_rfl⟩
theorem aem:bL prog 13:=⟨_,func13,rfl,by kernel_rfl⟩
theorem Df:cR prog 53 (default:bd):=cR.of (by kernel_rfl)
theorem adY:ic prog 53 #[(0,1),(1,1),(2,1),(3,1),(4,1)]:=⟨_,underlying53,by kernel_rfl,by kernel_rfl⟩
theorem fp:bG prog 53 bd:=bG.of (by rfl) underlying53 (by kernel_rfl)
theorem ng:cR prog 129 (default:b5):=cR.of (by kernel_rfl)
theorem adW:bL prog 94:=⟨_,func94,rfl,by kernel_rfl⟩
theorem eI:bG prog 61 (BitVec 64):=bG.of (by rfl) underlying61 (by kernel_rfl)
theorem j5:cE prog 63 0 0:=cE.of underlying63 rfl rfl eI rfl
theorem ih:cE prog 63 1 1:=cE.of underlying63 rfl rfl eI rfl
theorem KV:bL prog 56:=⟨_,func56,rfl,by kernel_rfl⟩
theorem adX:bL prog 95:=⟨_,func95,rfl,by kernel_rfl⟩
theorem Qk:MQ prog 63 1 61 1:=⟨_,_,underlying63,rfl,rfl,rfl⟩
theorem wR:ic prog 129 #[(0,1),(1,2),(3,2),(5,1),(6,2)]:=⟨_,underlying129,by kernel_rfl,by kernel_rfl⟩
theorem fz:bG prog 129 b5:=bG.of (by rfl) underlying129 (by kernel_rfl)
theorem jO:bG prog 51 (List b5):=bG.of (by rfl) underlying51 (by kernel_rfl)
theorem j4:cE prog 53 1 1:=cE.of underlying53 rfl rfl jO rfl
theorem adZ:bL prog 54:=⟨_,func54,rfl,by kernel_rfl⟩
theorem nO:cE prog 53 2 2:=cE.of underlying53 rfl rfl bx rfl
theorem kJ:bG prog 37 (List Int):=bG.of (by rfl) underlying37 (by kernel_rfl)
theorem Ql:cE prog 40 3 3:=cE.of underlying40 rfl rfl kJ rfl
theorem yZ:cE prog 53 3 3:=cE.of underlying53 rfl rfl bx rfl
theorem Py:cE prog 134 0 0:=cE.of underlying134 rfl rfl bx rfl
theorem ad0:bL prog 55:=⟨_,func55,rfl,by kernel_rfl⟩
theorem Zt:MQ prog 134 2 131 2:=⟨_,_,underlying134,rfl,rfl,rfl⟩
theorem abu:bG prog 131 (List jq):=bG.of (by rfl) underlying131 (by kernel_rfl)
theorem s5:bG prog 38 (List au):=bG.of (by rfl) underlying38 (by kernel_rfl)
theorem uy:cE prog 53 4 4:=cE.of underlying53 rfl rfl s5 rfl
theorem Zu:cE prog 137 1 1:=cE.of underlying137 rfl rfl bx rfl
theorem OV:jH prog 53 [1,4]:=by unfold jH;kernel_rfl
theorem aen:bL prog 15:=⟨_,func15,rfl,by kernel_rfl⟩
theorem jj:bG prog 45 (List ax):=bG.of (by rfl) underlying45 (by kernel_rfl)
theorem mH:cE prog 47 1 10:=cE.of underlying47 rfl rfl jj rfl
theorem cd:bG prog 56 ax:=bG.of (by rfl) underlying56 (by kernel_rfl)
theorem iv:cE prog 56 0 0:=cE.of underlying56 rfl rfl fp rfl
theorem fJ:cR prog 56 (default:ax):=cR.of (by kernel_rfl)
theorem zA:ic prog 56 #[(0,5),(5,1),(6,1)]:=⟨_,underlying56,by kernel_rfl,by kernel_rfl⟩
theorem wP:bG prog 110 gE:=bG.of (by rfl) underlying110 (by kernel_rfl)
theorem yS:cE prog 114 3 3:=cE.of underlying114 rfl rfl wP rfl
theorem mb:cE prog 56 1 5:=cE.of underlying56 rfl rfl bx rfl
theorem Hh:o0 prog 3 Int:=aaH underlying3
theorem zw:cR prog 65 (default:Vector au 4):=cR.of (by kernel_rfl)
theorem lJ:cE prog 129 1 1:=cE.of underlying129 rfl rfl bU rfl
theorem nn:qi prog 65 4 2:=qi.of underlying65 bU rfl
theorem jA:bG prog 65 (Vector au 4):=bG.of (by rfl) underlying65 (by kernel_rfl)
theorem CC:bG prog 207 gE:=bG.of (by rfl) underlying207 (by kernel_rfl)
theorem F0:cE prog 209 0 0:=cE.of underlying209 rfl rfl CC rfl
instance ahM:lF au where
 uniq {A W cs c8 W' en x} h df:=by
  refine ZP h.1 df.1 ?_;refine O4 0 (ah.size (BitVec 64)) (lF.uniq h.2.1 df.2.1) ?_;refine O4 1 (ah.size (BitVec 64)) (lF.uniq h.2.2 df.2.2) ?_;exact ZQ h.1 df.1 (by decide)
 plain {A W cs x} h:=by
  intro u hu n;have bR:=F7 (o:=0) (s:=ah.size (BitVec 64)) (by simpa using hu);rcases bR with h1 | bR
  ·exact lF.plain h.2.1 u h1 n
  have bR:=F7 (s:=ah.size (BitVec 64)) bR;rcases bR with h1 | bR
  ·exact lF.plain h.2.2 u h1 n
  exact PM h.1 (by rfl) bR
theorem S0:mS prog 61 (BitVec 64) 1:=ZI (K:= .u64) underlying61
theorem nP:mS prog 63 au 2:=Og (k:=1) rfl underlying63 (by kernel_rfl) fun d hd A W xs ys x y ao a7=>by
 refine Eq.trans (wo hL eI rfl (by rfl) S0 (by omega) ao a7 (wo eA eI rfl (by rfl) S0 (by omega) ao a7 PL)) ?_;congr 1;rw [Bool.eq_iff_iff];simp only [Bool.and_eq_true,decide_eq_true_eq,and_true];cases x;cases y;simp [aI.str,hL,eA]
theorem aaZ:mS prog 317 (Vector au 4) 3:=PK underlying317 bU nP
theorem TC:sh prog 61 (BitVec 64) 1:=OK underlying61 rfl
theorem TD:sh prog 63 au 2:=Ye (k:=1) rfl underlying63 (.cons hL rfl eI (fun b d A W u x h ao=>TC b d A W u x (by omega) ao) (.cons eA rfl eI (fun b d A W u x h ao=>TC b d A W u x (by omega) ao) (.nil)))
theorem adv:sh prog 317 (Vector au 4) 3:=Q0 underlying317 bU TD
theorem Gu:o0 prog 317 (Vector au 4):=Q1 underlying317 rfl adv aaZ rfl rfl
theorem CD:bG prog 115 Ref:=bG.of (by rfl) underlying115 (by kernel_rfl)
theorem F1:cE prog 118 0 0:=cE.of underlying118 rfl rfl CD rfl
theorem GC:bL prog 222:=⟨_,func222,rfl,by kernel_rfl⟩
theorem Kl:bL prog 221:=⟨_,func221,rfl,by kernel_rfl⟩
theorem CK:bG prog 123 ha:=bG.of (by rfl) underlying123 (by kernel_rfl)
theorem wT:cR prog 318 (default:Vector au 4):=cR.of (by kernel_rfl)
theorem F4:cE prog 123 0 0:=cE.of underlying123 rfl rfl bx rfl
theorem kF:bG prog 318 (Vector au 4):=bG.of (by rfl) underlying318 (by kernel_rfl)
theorem Ry:bL prog 231:=⟨_,func231,rfl,by kernel_rfl⟩
theorem ov:cE prog 129 3 5:=cE.of underlying129 rfl rfl bx rfl
theorem Kw:bL prog 229:=⟨_,func229,rfl,by kernel_rfl⟩
theorem wU:cR prog 331 (default:Ref):=cR.of (by kernel_rfl)
theorem Rz:bL prog 244:=⟨_,func244,rfl,by kernel_rfl⟩
theorem RA:bL prog 243:=⟨_,func243,rfl,by kernel_rfl⟩
theorem Kr:bL prog 234:=⟨_,func234,rfl,by kernel_rfl⟩
theorem abB:bL prog 254:=⟨_,func254,rfl,by kernel_rfl⟩
theorem wx:cE prog 337 0 0:=cE.of underlying337 rfl rfl bx rfl
structure fR where
 fT:Int
 eg:Ref
 deriving DecidableEq,Inhabited
instance:ah fR:= .str (dT Int (iC Ref)) (fun x=>(x.fT,x.eg)) 2
def tT:aI fR Int:= .str eb 0 fR.fT fun b g=>{ b with fT:=g }
def sm:aI fR Ref:= .str (bN ja) 1 fR.eg fun b g=>{ b with eg:=g }
instance:bm fR:=⟨bm.cells Int++bm.cells Ref,fun A W=>⟨by rfl,bm.ok (α:=Int) A W,bm.ok (α:=Ref) A W⟩⟩
theorem RE:bL prog 251:=⟨_,func251,rfl,by kernel_rfl⟩
theorem CL:bL prog 233:=⟨_,func233,rfl,by kernel_rfl⟩
theorem rJ:prog.eqGuardType prog.depth 63=false:=by kernel_rfl
theorem RG:bL prog 245:=⟨_,func245,rfl,by kernel_rfl⟩
theorem ep:bG prog 331 Ref:=bG.of (by rfl) underlying331 (by kernel_rfl)
theorem sI:cE prog 337 1 1:=cE.of underlying337 rfl rfl ep rfl
theorem GD:bL prog 242:=⟨_,func242,rfl,by kernel_rfl⟩
theorem RB:bG prog 319 Ref:=bG.of (by rfl) underlying319 (by kernel_rfl)
theorem RD:bL prog 250:=⟨_,func250,rfl,by kernel_rfl⟩
theorem Rl:bG prog 333 (Vector Ref 2):=bG.of (by rfl) underlying333 (by kernel_rfl)
theorem rD:cE prog 335 0 0:=cE.of underlying335 rfl rfl Rl rfl
theorem sS:qi prog 333 2 1:=qi.of underlying333 ep rfl
structure dX where
 db:Vector Ref 2
 e6:Bool
 hQ:Int
 deriving DecidableEq,Inhabited
instance:ah dX:= .str (dT (Vector Ref 2) (dT Bool (iC Int))) (fun x=>(x.db,x.e6,x.hQ)) 4
def rp:aI dX (Vector Ref 2):= .str eb 0 dX.db fun b g=>{ b with db:=g }
def rq:aI dX Bool:= .str (bN eb) 2 dX.e6 fun b g=>{ b with e6:=g }
def Bb:aI dX Int:= .str (bN (bN ja)) 3 dX.hQ fun b g=>{ b with hQ:=g }
instance:bm dX:=⟨bm.cells (Vector Ref 2)++bm.cells Bool++bm.cells Int,fun A W=>⟨by rfl,bm.ok (α:=Vector Ref 2) A W,bm.ok (α:=Bool) A W,bm.ok (α:=Int) A W⟩⟩
theorem GF:bL prog 249:=⟨_,func249,rfl,by kernel_rfl⟩
theorem RO:bL prog 239:=⟨_,func239,rfl,by kernel_rfl⟩
theorem rC:cE prog 335 1 2:=cE.of underlying335 rfl rfl fO rfl
theorem BX:cE prog 335 2 3:=cE.of underlying335 rfl rfl bx rfl
theorem rO:bG prog 121 gE:=bG.of (by rfl) underlying121 (by kernel_rfl)
theorem sJ:cE prog 123 2 2:=cE.of underlying123 rfl rfl rO rfl
theorem aa0:mS prog 318 (Vector au 4) 3:=PK underlying318 bU nP
theorem adw:sh prog 318 (Vector au 4) 3:=Q0 underlying318 bU TD
theorem uO:o0 prog 318 (Vector au 4):=Q1 underlying318 rfl adw aa0 rfl rfl
theorem zl:cR prog 319 (default:Ref):=cR.of (by kernel_rfl)
theorem RP:bL prog 230:=⟨_,func230,rfl,by kernel_rfl⟩
theorem CM:bG prog 124 Ref:=bG.of (by rfl) underlying124 (by kernel_rfl)
theorem F5:cE prog 127 0 0:=cE.of underlying127 rfl rfl CM rfl
theorem sF:cE prog 213 1 10:=cE.of underlying213 rfl rfl jj rfl
theorem abx:bL prog 136:=⟨_,func136,rfl,by kernel_rfl⟩
theorem aby:bL prog 137:=⟨_,func137,rfl,by kernel_rfl⟩
theorem ad9:bL prog 96:=⟨_,func96,rfl,by kernel_rfl⟩
theorem zz:bL prog 57:=⟨_,func57,rfl,by kernel_rfl⟩
theorem abH:bL prog 269:=⟨_,func269,rfl,by kernel_rfl⟩
theorem ab2:bL prog 264:=⟨_,func264,rfl,by kernel_rfl⟩
theorem qy:cE prog 53 0 0:=cE.of underlying53 rfl rfl bx rfl
theorem afz:mS prog 4 Bool 1:=YT underlying4
theorem afA:mS prog 3 Int 1:=PJ (K:= .i64) underlying3
theorem Qf:mS prog 129 b5 3:=Og (k:=2) rfl underlying129 (by kernel_rfl) fun d hd A W xs ys x y ao a7=>by
 refine Eq.trans (wo nI fO rfl (by rfl) afz (by omega) ao a7 (wo jJ bU rfl (by rfl) nP (by omega) ao a7 (wo oh bU rfl (by rfl) nP (by omega) ao a7 (wo my bx rfl (by rfl) afA (by omega) ao a7 (wo sk bU rfl (by rfl) nP (by omega) ao a7 PL))))) ?_;congr 1;rw [Bool.eq_iff_iff];simp only [Bool.and_eq_true,decide_eq_true_eq,and_true];cases x;cases y;simp [aI.str,nI,jJ,oh,my,sk]
theorem Qg:prog.eqGuardType prog.depth 129=false:=by kernel_rfl
theorem abz:bL prog 270:=⟨_,func270,rfl,by kernel_rfl⟩
theorem ab3:bL prog 265:=⟨_,func265,rfl,by kernel_rfl⟩
theorem adx:bL prog 217:=⟨_,func217,rfl,by kernel_rfl⟩
theorem XS:iT prog 118 "matchguard/index.find" 217:=iT.qd (by kernel_rfl) underlying118 rfl adx
theorem ady:bL prog 225:=⟨_,func225,rfl,by kernel_rfl⟩
theorem XT:iT prog 123 "matchguard/index.find" 225:=iT.qd (by kernel_rfl) underlying123 rfl ady
theorem adz:bL prog 260:=⟨_,func260,rfl,by kernel_rfl⟩
theorem XU:iT prog 127 "matchguard/index.find" 260:=iT.qd (by kernel_rfl) underlying127 rfl adz
theorem abA:bL prog 223:=⟨_,func223,rfl,by kernel_rfl⟩
theorem abl:cR prog 337 (default:fR):=cR.of (by kernel_rfl)
theorem abk:ic prog 337 #[(0,1),(1,1)]:=⟨_,underlying337,by kernel_rfl,by kernel_rfl⟩
theorem Jq:cE prog 123 1 1:=cE.of underlying123 rfl rfl bx rfl
theorem ack:bL prog 235:=⟨_,func235,rfl,by kernel_rfl⟩
theorem RV:cR prog 335 (default:dX):=cR.of (by kernel_rfl)
theorem RU:ic prog 335 #[(0,2),(2,1),(3,1)]:=⟨_,underlying335,by kernel_rfl,by kernel_rfl⟩
theorem acj:bL prog 236:=⟨_,func236,rfl,by kernel_rfl⟩
theorem Rp:bL prog 280:=⟨_,func280,rfl,by kernel_rfl⟩
theorem Rq:bL prog 279:=⟨_,func279,rfl,by kernel_rfl⟩
theorem Ru:bL prog 272:=⟨_,func272,rfl,by kernel_rfl⟩
theorem Rx:bL prog 154:=⟨_,func154,rfl,by kernel_rfl⟩
theorem RF:bL prog 284:=⟨_,func284,rfl,by kernel_rfl⟩
theorem abF:bL prog 290:=⟨_,func290,rfl,by kernel_rfl⟩
theorem abE:bL prog 289:=⟨_,func289,rfl,by kernel_rfl⟩
theorem uN:bL prog 105:=⟨_,func105,rfl,by kernel_rfl⟩
theorem RH:bL prog 287:=⟨_,func287,rfl,by kernel_rfl⟩
theorem Kt:bL prog 104:=⟨_,func104,rfl,by kernel_rfl⟩
theorem Jr:cE prog 213 0 0:=cE.of underlying213 rfl rfl eK rfl
theorem RK:bL prog 281:=⟨_,func281,rfl,by kernel_rfl⟩
theorem aca:bL prog 273:=⟨_,func273,rfl,by kernel_rfl⟩
theorem acb:bL prog 274:=⟨_,func274,rfl,by kernel_rfl⟩
theorem acd:bL prog 275:=⟨_,func275,rfl,by kernel_rfl⟩
theorem acf:bL prog 267:=⟨_,func267,rfl,by kernel_rfl⟩
theorem adA:bL prog 219:=⟨_,func219,rfl,by kernel_rfl⟩
theorem XX:iT prog 118 "matchguard/index.put" 219:=iT.qd (by kernel_rfl) underlying118 rfl adA
theorem adB:bL prog 227:=⟨_,func227,rfl,by kernel_rfl⟩
theorem XY:iT prog 123 "matchguard/index.put" 227:=iT.qd (by kernel_rfl) underlying123 rfl adB
theorem adC:bL prog 262:=⟨_,func262,rfl,by kernel_rfl⟩
theorem XZ:iT prog 127 "matchguard/index.put" 262:=iT.qd (by kernel_rfl) underlying127 rfl adC
theorem sC:cE prog 129 0 0:=cE.of underlying129 rfl rfl fO rfl
theorem uG:cR prog 273 (default:Vector Bool 128):=cR.of (by kernel_rfl)
theorem pX:qi prog 273 128 1:=qi.of underlying273 fO rfl
theorem rK:bG prog 273 (Vector Bool 128):=bG.of (by rfl) underlying273 (by kernel_rfl)
theorem zf:bL prog 169:=⟨_,func169,rfl,by kernel_rfl⟩
theorem zk:bL prog 139:=⟨_,func139,rfl,by kernel_rfl⟩
theorem qt:cE prog 129 2 3:=cE.of underlying129 rfl rfl bU rfl
theorem zy:bL prog 98:=⟨_,func98,rfl,by kernel_rfl⟩
theorem yU:cE prog 129 4 6:=cE.of underlying129 rfl rfl bU rfl
theorem abG:bL prog 138:=⟨_,func138,rfl,by kernel_rfl⟩
theorem Tb:bL prog 97:=⟨_,func97,rfl,by kernel_rfl⟩
theorem KZ:bL prog 58:=⟨_,func58,rfl,by kernel_rfl⟩
theorem aea:bL prog 99:=⟨_,func99,rfl,by kernel_rfl⟩
theorem Tc:bL prog 59:=⟨_,func59,rfl,by kernel_rfl⟩
theorem aeB:bL prog 18:=⟨_,func18,rfl,by kernel_rfl⟩
theorem aeD:bL prog 19:=⟨_,func19,rfl,by kernel_rfl⟩
theorem Th:bL prog 60:=⟨_,func60,rfl,by kernel_rfl⟩
theorem Ti:bL prog 22:=⟨_,func22,rfl,by kernel_rfl⟩
theorem abD:bL prog 224:=⟨_,func224,rfl,by kernel_rfl⟩
theorem ace:cR prog 341 (default:List Ref):=cR.of (by kernel_rfl)
theorem aeh:cR prog 37 (default:List Int):=cR.of (by kernel_rfl)
theorem uP:bG prog 341 (List Ref):=bG.of (by rfl) underlying341 (by kernel_rfl)
theorem Zz:jH prog 341 [0]:=by unfold jH;kernel_rfl
theorem aaw:jH prog 37 [0]:=by unfold jH;kernel_rfl
theorem aa6:cR prog 333 (default:Vector Ref 2):=cR.of (by kernel_rfl)
theorem aaf:prog.eqGuardType prog.depth 333=false:=by kernel_rfl
theorem RT:bL prog 246:=⟨_,func246,rfl,by kernel_rfl⟩
theorem acg:bL prog 237:=⟨_,func237,rfl,by kernel_rfl⟩
structure dD where
 cM:au
 wi:Int
 bV:Int
 deriving DecidableEq,Inhabited
instance:ah dD:= .str (dT au (dT Int (iC Int))) (fun x=>(x.cM,x.wi,x.bV)) 4
def Vf:aI dD au:= .str eb 0 dD.cM fun b g=>{ b with cM:=g }
def U8:aI dD Int:= .str (bN eb) 2 dD.wi fun b g=>{ b with wi:=g }
def VK:aI dD Int:= .str (bN (bN ja)) 3 dD.bV fun b g=>{ b with bV:=g }
instance:bm dD:=⟨bm.cells au++bm.cells Int++bm.cells Int,fun A W=>⟨by rfl,bm.ok (α:=au) A W,bm.ok (α:=Int) A W,bm.ok (α:=Int) A W⟩⟩
theorem abI:cR prog 342 (default:List dD):=cR.of (by kernel_rfl)
theorem Kg:bG prog 342 (List dD):=bG.of (by rfl) underlying342 (by kernel_rfl)
theorem Kh:cR prog 347 (default:dD):=cR.of (by kernel_rfl)
theorem aa8:ic prog 347 #[(0,2),(2,1),(3,1)]:=⟨_,underlying347,by kernel_rfl,by kernel_rfl⟩
theorem Rm:bG prog 347 dD:=bG.of (by rfl) underlying347 (by kernel_rfl)
theorem abm:bL prog 253:=⟨_,func253,rfl,by kernel_rfl⟩
theorem Kk:bL prog 255:=⟨_,func255,rfl,by kernel_rfl⟩
theorem abn:bL prog 258:=⟨_,func258,rfl,by kernel_rfl⟩
theorem abo:bL prog 257:=⟨_,func257,rfl,by kernel_rfl⟩
theorem abp:bL prog 256:=⟨_,func256,rfl,by kernel_rfl⟩
theorem Zw:jH prog 342 [0]:=by unfold jH;kernel_rfl
theorem abJ:bL prog 252:=⟨_,func252,rfl,by kernel_rfl⟩
theorem abM:bL prog 247:=⟨_,func247,rfl,by kernel_rfl⟩
theorem ach:bL prog 238:=⟨_,func238,rfl,by kernel_rfl⟩
theorem abq:bL prog 276:=⟨_,func276,rfl,by kernel_rfl⟩
theorem abK:bL prog 268:=⟨_,func268,rfl,by kernel_rfl⟩
theorem adD:bL prog 220:=⟨_,func220,rfl,by kernel_rfl⟩
theorem X0:iT prog 118 "matchguard/index.remove" 220:=iT.qd (by kernel_rfl) underlying118 rfl adD
theorem adE:bL prog 228:=⟨_,func228,rfl,by kernel_rfl⟩
theorem X1:iT prog 123 "matchguard/index.remove" 228:=iT.qd (by kernel_rfl) underlying123 rfl adE
theorem adF:bL prog 263:=⟨_,func263,rfl,by kernel_rfl⟩
theorem X2:iT prog 127 "matchguard/index.remove" 263:=iT.qd (by kernel_rfl) underlying127 rfl adF
theorem aeE:bL prog 20:=⟨_,func20,rfl,by kernel_rfl⟩
theorem Te:bL prog 23:=⟨_,func23,rfl,by kernel_rfl⟩
theorem aeG:bL prog 21:=⟨_,func21,rfl,by kernel_rfl⟩
theorem aeM:bL prog 25:=⟨_,func25,rfl,by kernel_rfl⟩
theorem aeL:bL prog 24:=⟨_,func24,rfl,by kernel_rfl⟩
theorem ZA:cE prog 114 1 1:=cE.of underlying114 rfl rfl bx rfl
theorem Rr:bL prog 153:=⟨_,func153,rfl,by kernel_rfl⟩
theorem abr:bL prog 248:=⟨_,func248,rfl,by kernel_rfl⟩
theorem abL:bL prog 240:=⟨_,func240,rfl,by kernel_rfl⟩
theorem afH:cR prog 1 (default:Raw):=cR.of (by kernel_rfl)
theorem Lq:bG prog 1 Raw:=bG.of (by rfl) underlying1 (by kernel_rfl)
theorem RJ:bL prog 241:=⟨_,func241,rfl,by kernel_rfl⟩
theorem abN:bL prog 232:=⟨_,func232,rfl,by kernel_rfl⟩
theorem ab4:bL prog 271:=⟨_,func271,rfl,by kernel_rfl⟩
theorem zm:bL prog 109:=⟨_,func109,rfl,by kernel_rfl⟩
theorem abT:bL prog 286:=⟨_,func286,rfl,by kernel_rfl⟩
theorem abU:bL prog 285:=⟨_,func285,rfl,by kernel_rfl⟩
theorem abX:bL prog 278:=⟨_,func278,rfl,by kernel_rfl⟩
theorem ab5:bL prog 277:=⟨_,func277,rfl,by kernel_rfl⟩
theorem aci:bL prog 266:=⟨_,func266,rfl,by kernel_rfl⟩
theorem adG:bL prog 218:=⟨_,func218,rfl,by kernel_rfl⟩
theorem X3:iT prog 118 "matchguard/index.lookup" 218:=iT.qd (by kernel_rfl) underlying118 rfl adG
theorem adH:bL prog 226:=⟨_,func226,rfl,by kernel_rfl⟩
theorem X4:iT prog 123 "matchguard/index.lookup" 226:=iT.qd (by kernel_rfl) underlying123 rfl adH
theorem adI:bL prog 261:=⟨_,func261,rfl,by kernel_rfl⟩
theorem X5:iT prog 127 "matchguard/index.lookup" 261:=iT.qd (by kernel_rfl) underlying127 rfl adI
theorem aeO:bL prog 26:=⟨_,func26,rfl,by kernel_rfl⟩
theorem Ro:cR prog 264 (default:Vector (List Int) 6):=cR.of (by kernel_rfl)
theorem pY:qi prog 264 6 1:=qi.of underlying264 kJ rfl
theorem aai:cE prog 98 0 0:=cE.of underlying98 rfl rfl bx rfl
theorem Zr:cE prog 193 0 0:=cE.of underlying193 rfl rfl bx rfl
theorem aaj:cE prog 85 0 0:=cE.of underlying85 rfl rfl bx rfl
theorem V3:jH prog 264 [0,1,2,3,4,5]:=by unfold jH;kernel_rfl
theorem Kj:bG prog 264 (Vector (List Int) 6):=bG.of (by rfl) underlying264 (by kernel_rfl)
theorem Rs:bL prog 161:=⟨_,func161,rfl,by kernel_rfl⟩
theorem Rt:bL prog 160:=⟨_,func160,rfl,by kernel_rfl⟩
theorem RL:bL prog 140:=⟨_,func140,rfl,by kernel_rfl⟩
theorem abt:bL prog 183:=⟨_,func183,rfl,by kernel_rfl⟩
theorem abP:bL prog 171:=⟨_,func171,rfl,by kernel_rfl⟩
theorem aa9:bL prog 182:=⟨_,func182,rfl,by kernel_rfl⟩
theorem abO:bL prog 170:=⟨_,func170,rfl,by kernel_rfl⟩
theorem abV:bL prog 142:=⟨_,func142,rfl,by kernel_rfl⟩
theorem abW:bL prog 141:=⟨_,func141,rfl,by kernel_rfl⟩
theorem abZ:bL prog 100:=⟨_,func100,rfl,by kernel_rfl⟩
theorem RN:bL prog 143:=⟨_,func143,rfl,by kernel_rfl⟩
theorem ab0:bL prog 101:=⟨_,func101,rfl,by kernel_rfl⟩
theorem aar:cE prog 47 0 0:=cE.of underlying47 rfl rfl eK rfl
theorem aee:bL prog 61:=⟨_,func61,rfl,by kernel_rfl⟩
theorem aeQ:bL prog 27:=⟨_,func27,rfl,by kernel_rfl⟩
theorem aef:bL prog 62:=⟨_,func62,rfl,by kernel_rfl⟩
theorem Qn:cE prog 56 2 6:=cE.of underlying56 rfl rfl bx rfl
theorem RM:bL prog 155:=⟨_,func155,rfl,by kernel_rfl⟩
theorem abR:bL prog 107:=⟨_,func107,rfl,by kernel_rfl⟩
theorem abQ:bL prog 106:=⟨_,func106,rfl,by kernel_rfl⟩
theorem abS:bL prog 108:=⟨_,func108,rfl,by kernel_rfl⟩
theorem aeb:bL prog 65:=⟨_,func65,rfl,by kernel_rfl⟩
theorem aec:bL prog 63:=⟨_,func63,rfl,by kernel_rfl⟩
theorem aed:bL prog 64:=⟨_,func64,rfl,by kernel_rfl⟩
theorem Tg:bL prog 28:=⟨_,func28,rfl,by kernel_rfl⟩
theorem zD:bL prog 29:=⟨_,func29,rfl,by kernel_rfl⟩
theorem Dw:bL prog 31:=⟨_,func31,rfl,by kernel_rfl⟩
theorem aeq:bL prog 30:=⟨_,func30,rfl,by kernel_rfl⟩
theorem aeS:bL prog 32:=⟨_,func32,rfl,by kernel_rfl⟩
inductive Cell where
 | kI (x:List (Int×ax))
 | nU (x:gP)
 | mh (x:List ((Vector au 4)×Ref))
 | oL (x:List ((Vector au 4)×Int))
 | zv (x:nK)
 | rQ (x:cK) (key:Option Nat) (cap:Nat)
 | gv (x:dX)
 | j9 (x:fR)
instance:fl Cell where
 h4 p k:=match k with
  | .kI x=>[⟨some p,.map x⟩]
  | .nU x=>[⟨some p,.var x⟩]
  | .mh x=>[⟨some p,.map x⟩]
  | .oL x=>[⟨some p,.map x⟩]
  | .zv x=>[⟨some p,.var x⟩]
  | .rQ x key cap=>[⟨some p,.cn ({ x with ch:= [] } :cK) [(10,aW key x.ch.length cap)]⟩,⟨key,.row 56 (x.ch:List ax) cap⟩]
  | .gv x=>[⟨some p,.var x⟩]
  | .j9 x=>[⟨some p,.var x⟩]
 root p k:=by cases k <;> exact⟨_,List.mem_cons_self ..,rfl⟩
def mf (hp:aY Cell)(p:Nat):Option (List (Int×ax)):=match pat hp p with
 | some (.kI x)=>some x
 | _=>none
theorem qw {hp:aY Cell}{p:Nat}{x:List (Int×ax)}(h:mf hp p=some x):pat hp p=some (.kI x):=by
 unfold mf at h;split at h
 ·rename_i ad;cases h;exact ad
 cases h
def iw (hp:aY Cell)(p:Nat):Option gP:=match pat hp p with
 | some (.nU x)=>some x
 | _=>none
theorem lL {hp:aY Cell}{p:Nat}{x:gP}(h:iw hp p=some x):pat hp p=some (.nU x):=by
 unfold iw at h;split at h
 ·rename_i ad;cases h;exact ad
 cases h
def j8 (hp:aY Cell)(p:Nat):Option (List ((Vector au 4)×Ref)):=match pat hp p with
 | some (.mh x)=>some x
 | _=>none
theorem mG {hp:aY Cell}{p:Nat}{x:List ((Vector au 4)×Ref)}(h:j8 hp p=some x):pat hp p=some (.mh x):=by
 unfold j8 at h;split at h
 ·rename_i ad;cases h;exact ad
 cases h
def me (hp:aY Cell)(p:Nat):Option (List ((Vector au 4)×Int)):=match pat hp p with
 | some (.oL x)=>some x
 | _=>none
theorem rH {hp:aY Cell}{p:Nat}{x:List ((Vector au 4)×Int)}(h:me hp p=some x):pat hp p=some (.oL x):=by
 unfold me at h;split at h
 ·rename_i ad;cases h;exact ad
 cases h
def nh (hp:aY Cell)(p:Nat):Option nK:=match pat hp p with
 | some (.zv x)=>some x
 | _=>none
theorem uw {hp:aY Cell}{p:Nat}{x:nK}(h:nh hp p=some x):pat hp p=some (.zv x):=by
 unfold nh at h;split at h
 ·rename_i ad;cases h;exact ad
 cases h
def oI (hp:aY Cell)(p:Nat):Option (cK×Option Nat×Nat):=match pat hp p with
 | some (.rQ x key cap)=>some (x,key,cap)
 | _=>none
theorem uz {hp:aY Cell}{p:Nat}{x:cK×Option Nat×Nat}(h:oI hp p=some x):pat hp p=some (.rQ x.1 x.2.1 x.2.2):=by
 unfold oI at h;split at h
 ·rename_i ad;cases h;exact ad
 cases h
def cU (hp:aY Cell)(p:Nat):Option dX:=match pat hp p with
 | some (.gv x)=>some x
 | _=>none
theorem jz {hp:aY Cell}{p:Nat}{x:dX}(h:cU hp p=some x):pat hp p=some (.gv x):=by
 unfold cU at h;split at h
 ·rename_i ad;cases h;exact ad
 cases h
def ga (hp:aY Cell)(p:Nat):Option fR:=match pat hp p with
 | some (.j9 x)=>some x
 | _=>none
theorem mF {hp:aY Cell}{p:Nat}{x:fR}(h:ga hp p=some x):pat hp p=some (.j9 x):=by
 unfold ga at h;split at h
 ·rename_i ad;cases h;exact ad
 cases h
end Go.Proofs.YtelbhaohleeijaaGreat
