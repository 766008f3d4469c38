/-
  The types of the data, and facts on their tables. Conditions: none.
-/
import Derived.Test.YthkfkliknjiecaaGreatRows
import Derived.Test.YthkfkliknjiecaaGreatMl2
set_option maxRecDepth 100000
namespace Go.Proofs.YthkfkliknjiecaaGreat
open Go Gv
structure an where
 dv:BitVec 64
 b2:BitVec 64
 deriving DecidableEq,Inhabited
instance:aj an:= .str (dJ (BitVec 64) (iy (BitVec 64))) (fun x=>(x.dv,x.b2)) 2
def hK:aN an (BitVec 64):= .str dS 0 an.dv fun b g=>{ b with dv:=g }
def ev:aN an (BitVec 64):= .str (bO iU) 1 an.b2 fun b g=>{ b with b2:=g }
instance:bk an:=⟨bk.cells (BitVec 64)++bk.cells (BitVec 64),fun A W=>⟨by rfl,bk.ok (α:=BitVec 64) A W,bk.ok (α:=BitVec 64) A W⟩⟩
structure bu where
 ch:List (BitVec 8)
 s7:Int
 deriving DecidableEq,Inhabited
instance:aj bu:= .str (dJ (List (BitVec 8)) (iy Int)) (fun x=>(x.ch,x.s7)) 2
def DS:aN bu (List (BitVec 8)):= .str dS 0 bu.ch fun b g=>{ b with ch:=g }
def zP:aN bu Int:= .str (bO iU) 1 bu.s7 fun b g=>{ b with s7:=g }
instance:bk bu:=⟨bk.cells (List (BitVec 8))++bk.cells Int,fun A W=>⟨by rfl,bk.ok (α:=List (BitVec 8)) A W,bk.ok (α:=Int) A W⟩⟩
theorem Kh:bF Tryz.prog 5 (BitVec 8):=bF.of (by rfl) Tryz.underlying5 (by kernel_rfl)
theorem Yx:cP Tryz.prog 103 (default:bu):=cP.of (by kernel_rfl)
theorem Yw:h8 Tryz.prog 103 #[(0,1),(1,1)]:=⟨_,Tryz.underlying103,by kernel_rfl,by kernel_rfl⟩
theorem Kn:bM Tryz.prog 7:=⟨_,Tryz.func7,rfl,by kernel_rfl⟩
structure fO where
 b0:Int
 cF:ByteArray
 fB:Int
 deriving DecidableEq,Inhabited
instance:aj fO:= .str (dJ Int (dJ ByteArray (iy Int))) (fun x=>(x.b0,x.cF,x.fB)) 3
def pw:aN fO Int:= .str dS 0 fO.b0 fun b g=>{ b with b0:=g }
def sh:aN fO ByteArray:= .str (bO dS) 1 fO.cF fun b g=>{ b with cF:=g }
def nT:aN fO Int:= .str (bO (bO iU)) 2 fO.fB fun b g=>{ b with fB:=g }
instance:bk fO:=⟨bk.cells Int++bk.cells ByteArray++bk.cells Int,fun A W=>⟨by rfl,bk.ok (α:=Int) A W,bk.ok (α:=ByteArray) A W,bk.ok (α:=Int) A W⟩⟩
structure kb where
 b0:Int
 cF:ByteArray
 fF:List Int
 deriving DecidableEq,Inhabited
instance:aj kb:= .str (dJ Int (dJ ByteArray (iy (List Int)))) (fun x=>(x.b0,x.cF,x.fF)) 3
def DU:aN kb Int:= .str dS 0 kb.b0 fun b g=>{ b with b0:=g }
def Hf:aN kb ByteArray:= .str (bO dS) 1 kb.cF fun b g=>{ b with cF:=g }
def G4:aN kb (List Int):= .str (bO (bO iU)) 2 kb.fF fun b g=>{ b with fF:=g }
instance:bk kb:=⟨bk.cells Int++bk.cells ByteArray++bk.cells (List Int),fun A W=>⟨by rfl,bk.ok (α:=Int) A W,bk.ok (α:=ByteArray) A W,bk.ok (α:=List Int) A W⟩⟩
structure ha where
 bS:an
 b3:an
 qg:Int
 deriving DecidableEq,Inhabited
instance:aj ha:= .str (dJ an (dJ an (iy Int))) (fun x=>(x.bS,x.b3,x.qg)) 5
def DO:aN ha an:= .str dS 0 ha.bS fun b g=>{ b with bS:=g }
def DV:aN ha an:= .str (bO dS) 2 ha.b3 fun b g=>{ b with b3:=g }
def DW:aN ha Int:= .str (bO (bO iU)) 4 ha.qg fun b g=>{ b with qg:=g }
instance:bk ha:=⟨bk.cells an++bk.cells an++bk.cells Int,fun A W=>⟨by rfl,bk.ok (α:=an) A W,bk.ok (α:=an) A W,bk.ok (α:=Int) A W⟩⟩
structure dT where
 b0:Int
 iN:Int
 nY:Int
 pz:List ha
 hX:Int
 deriving DecidableEq,Inhabited
instance:aj dT:= .str (dJ Int (dJ Int (dJ Int (dJ (List ha) (iy Int))))) (fun x=>(x.b0,x.iN,x.nY,x.pz,x.hX)) 5
def DZ:aN dT Int:= .str dS 0 dT.b0 fun b g=>{ b with b0:=g }
def G9:aN dT Int:= .str (bO dS) 1 dT.iN fun b g=>{ b with iN:=g }
def L9:aN dT Int:= .str (bO (bO dS)) 2 dT.nY fun b g=>{ b with nY:=g }
def DI:aN dT (List ha):= .str (bO (bO (bO dS))) 3 dT.pz fun b g=>{ b with pz:=g }
def G3:aN dT Int:= .str (bO (bO (bO (bO iU)))) 4 dT.hX fun b g=>{ b with hX:=g }
instance:bk dT:=⟨bk.cells Int++bk.cells Int++bk.cells Int++bk.cells (List ha)++bk.cells Int,fun A W=>⟨by rfl,bk.ok (α:=Int) A W,bk.ok (α:=Int) A W,bk.ok (α:=Int) A W,bk.ok (α:=List ha) A W,bk.ok (α:=Int) A W⟩⟩
structure jf where
 cF:ByteArray
 fB:Int
 deriving DecidableEq,Inhabited
instance:aj jf:= .str (dJ ByteArray (iy Int)) (fun x=>(x.cF,x.fB)) 2
def DP:aN jf ByteArray:= .str dS 0 jf.cF fun b g=>{ b with cF:=g }
def zT:aN jf Int:= .str (bO iU) 1 jf.fB fun b g=>{ b with fB:=g }
instance:bk jf:=⟨bk.cells ByteArray++bk.cells Int,fun A W=>⟨by rfl,bk.ok (α:=ByteArray) A W,bk.ok (α:=Int) A W⟩⟩
structure ga where
 cS:Int
 wZ:Int
 bS:an
 deriving DecidableEq,Inhabited
instance:aj ga:= .str (dJ Int (dJ Int (iy an))) (fun x=>(x.cS,x.wZ,x.bS)) 4
def DG:aN ga Int:= .str dS 0 ga.cS fun b g=>{ b with cS:=g }
def Mh:aN ga Int:= .str (bO dS) 1 ga.wZ fun b g=>{ b with wZ:=g }
def SS:aN ga an:= .str (bO (bO iU)) 2 ga.bS fun b g=>{ b with bS:=g }
instance:bk ga:=⟨bk.cells Int++bk.cells Int++bk.cells an,fun A W=>⟨by rfl,bk.ok (α:=Int) A W,bk.ok (α:=Int) A W,bk.ok (α:=an) A W⟩⟩
structure ft where
 iR:Int
 kh:Int
 ld:ga
 deriving DecidableEq,Inhabited
instance:aj ft:= .str (dJ Int (dJ Int (iy ga))) (fun x=>(x.iR,x.kh,x.ld)) 6
def sj:aN ft Int:= .str dS 0 ft.iR fun b g=>{ b with iR:=g }
def vo:aN ft Int:= .str (bO dS) 1 ft.kh fun b g=>{ b with kh:=g }
def xK:aN ft ga:= .str (bO (bO iU)) 2 ft.ld fun b g=>{ b with ld:=g }
instance:bk ft:=⟨bk.cells Int++bk.cells Int++bk.cells ga,fun A W=>⟨by rfl,bk.ok (α:=Int) A W,bk.ok (α:=Int) A W,bk.ok (α:=ga) A W⟩⟩
structure ei where
 b0:Int
 cF:ByteArray
 kL:List jf
 oV:List ft
 rk:ByteArray
 deriving DecidableEq,Inhabited
instance:aj ei:= .str (dJ Int (dJ ByteArray (dJ (List jf) (dJ (List ft) (iy ByteArray))))) (fun x=>(x.b0,x.cF,x.kL,x.oV,x.rk)) 5
def tO:aN ei Int:= .str dS 0 ei.b0 fun b g=>{ b with b0:=g }
def xy:aN ei ByteArray:= .str (bO dS) 1 ei.cF fun b g=>{ b with cF:=g }
def DC:aN ei (List jf):= .str (bO (bO dS)) 2 ei.kL fun b g=>{ b with kL:=g }
def zJ:aN ei (List ft):= .str (bO (bO (bO dS))) 3 ei.oV fun b g=>{ b with oV:=g }
def LY:aN ei ByteArray:= .str (bO (bO (bO (bO iU)))) 4 ei.rk fun b g=>{ b with rk:=g }
instance:bk ei:=⟨bk.cells Int++bk.cells ByteArray++bk.cells (List jf)++bk.cells (List ft)++bk.cells ByteArray,fun A W=>⟨by rfl,bk.ok (α:=Int) A W,bk.ok (α:=ByteArray) A W,bk.ok (α:=List jf) A W,bk.ok (α:=List ft) A W,bk.ok (α:=ByteArray) A W⟩⟩
structure cR where
 cF:ByteArray
 g3:Int
 cS:Int
 deriving DecidableEq,Inhabited
instance:aj cR:= .str (dJ ByteArray (dJ Int (iy Int))) (fun x=>(x.cF,x.g3,x.cS)) 3
def si:aN cR ByteArray:= .str dS 0 cR.cF fun b g=>{ b with cF:=g }
def nU:aN cR Int:= .str (bO dS) 1 cR.g3 fun b g=>{ b with g3:=g }
def lW:aN cR Int:= .str (bO (bO iU)) 2 cR.cS fun b g=>{ b with cS:=g }
instance:bk cR:=⟨bk.cells ByteArray++bk.cells Int++bk.cells Int,fun A W=>⟨by rfl,bk.ok (α:=ByteArray) A W,bk.ok (α:=Int) A W,bk.ok (α:=Int) A W⟩⟩
structure bX where
 b0:Int
 cF:ByteArray
 bN:List cR
 dH:List Int
 hX:Int
 vx:List an
 j1:Int
 rk:ByteArray
 deriving DecidableEq,Inhabited
instance:aj bX:= .str (dJ Int (dJ ByteArray (dJ (List cR) (dJ (List Int) (dJ Int (dJ (List an) (dJ Int (iy ByteArray)))))))) (fun x=>(x.b0,x.cF,x.bN,x.dH,x.hX,x.vx,x.j1,x.rk)) 8
def p9:aN bX Int:= .str dS 0 bX.b0 fun b g=>{ b with b0:=g }
def DQ:aN bX ByteArray:= .str (bO dS) 1 bX.cF fun b g=>{ b with cF:=g }
def jZ:aN bX (List cR):= .str (bO (bO dS)) 2 bX.bN fun b g=>{ b with bN:=g }
def xv:aN bX (List Int):= .str (bO (bO (bO dS))) 3 bX.dH fun b g=>{ b with dH:=g }
def DD:aN bX Int:= .str (bO (bO (bO (bO dS)))) 4 bX.hX fun b g=>{ b with hX:=g }
def SB:aN bX (List an):= .str (bO (bO (bO (bO (bO dS))))) 5 bX.vx fun b g=>{ b with vx:=g }
def DR:aN bX Int:= .str (bO (bO (bO (bO (bO (bO dS)))))) 6 bX.j1 fun b g=>{ b with j1:=g }
def SC:aN bX ByteArray:= .str (bO (bO (bO (bO (bO (bO (bO iU))))))) 7 bX.rk fun b g=>{ b with rk:=g }
instance:bk bX:=⟨bk.cells Int++bk.cells ByteArray++bk.cells (List cR)++bk.cells (List Int)++bk.cells Int++bk.cells (List an)++bk.cells Int++bk.cells ByteArray,fun A W=>⟨by rfl,bk.ok (α:=Int) A W,bk.ok (α:=ByteArray) A W,bk.ok (α:=List cR) A W,bk.ok (α:=List Int) A W,bk.ok (α:=Int) A W,bk.ok (α:=List an) A W,bk.ok (α:=Int) A W,bk.ok (α:=ByteArray) A W⟩⟩
structure gb where
 ef:Int
 iN:Int
 deriving DecidableEq,Inhabited
instance:aj gb:= .str (dJ Int (iy Int)) (fun x=>(x.ef,x.iN)) 2
def zL:aN gb Int:= .str dS 0 gb.ef fun b g=>{ b with ef:=g }
def Hb:aN gb Int:= .str (bO iU) 1 gb.iN fun b g=>{ b with iN:=g }
instance:bk gb:=⟨bk.cells Int++bk.cells Int,fun A W=>⟨by rfl,bk.ok (α:=Int) A W,bk.ok (α:=Int) A W⟩⟩
structure dN where
 ef:Int
 sJ:Bool
 sE:Bool
 bN:List Bool
 deriving DecidableEq,Inhabited
instance:aj dN:= .str (dJ Int (dJ Bool (dJ Bool (iy (List Bool))))) (fun x=>(x.ef,x.sJ,x.sE,x.bN)) 4
def Hd:aN dN Int:= .str dS 0 dN.ef fun b g=>{ b with ef:=g }
def Hh:aN dN Bool:= .str (bO dS) 1 dN.sJ fun b g=>{ b with sJ:=g }
def He:aN dN Bool:= .str (bO (bO dS)) 2 dN.sE fun b g=>{ b with sE:=g }
def Hi:aN dN (List Bool):= .str (bO (bO (bO iU))) 3 dN.bN fun b g=>{ b with bN:=g }
instance:bk dN:=⟨bk.cells Int++bk.cells Bool++bk.cells Bool++bk.cells (List Bool),fun A W=>⟨by rfl,bk.ok (α:=Int) A W,bk.ok (α:=Bool) A W,bk.ok (α:=Bool) A W,bk.ok (α:=List Bool) A W⟩⟩
structure c3 where
 b0:Int
 cF:ByteArray
 j0:List dN
 dH:List Int
 sD:Int
 A7:Bool
 deriving DecidableEq,Inhabited
instance:aj c3:= .str (dJ Int (dJ ByteArray (dJ (List dN) (dJ (List Int) (dJ Int (iy Bool)))))) (fun x=>(x.b0,x.cF,x.j0,x.dH,x.sD,x.A7)) 6
def D1:aN c3 Int:= .str dS 0 c3.b0 fun b g=>{ b with b0:=g }
def Hl:aN c3 ByteArray:= .str (bO dS) 1 c3.cF fun b g=>{ b with cF:=g }
def xz:aN c3 (List dN):= .str (bO (bO dS)) 2 c3.j0 fun b g=>{ b with j0:=g }
def Ha:aN c3 (List Int):= .str (bO (bO (bO dS))) 3 c3.dH fun b g=>{ b with dH:=g }
def Hg:aN c3 Int:= .str (bO (bO (bO (bO dS)))) 4 c3.sD fun b g=>{ b with sD:=g }
def Ts:aN c3 Bool:= .str (bO (bO (bO (bO (bO iU))))) 5 c3.A7 fun b g=>{ b with A7:=g }
instance:bk c3:=⟨bk.cells Int++bk.cells ByteArray++bk.cells (List dN)++bk.cells (List Int)++bk.cells Int++bk.cells Bool,fun A W=>⟨by rfl,bk.ok (α:=Int) A W,bk.ok (α:=ByteArray) A W,bk.ok (α:=List dN) A W,bk.ok (α:=List Int) A W,bk.ok (α:=Int) A W,bk.ok (α:=Bool) A W⟩⟩
structure fu where
 ef:Int
 wo:Int
 lz:Int
 XK:Int
 qa:Int
 XL:Int
 deriving DecidableEq,Inhabited
instance:aj fu:= .str (dJ Int (dJ Int (dJ Int (dJ Int (dJ Int (iy Int)))))) (fun x=>(x.ef,x.wo,x.lz,x.XK,x.qa,x.XL)) 6
def DX:aN fu Int:= .str dS 0 fu.ef fun b g=>{ b with ef:=g }
def Mn:aN fu Int:= .str (bO dS) 1 fu.wo fun b g=>{ b with wo:=g }
def Me:aN fu Int:= .str (bO (bO dS)) 2 fu.lz fun b g=>{ b with lz:=g }
def DK:aN fu Int:= .str (bO (bO (bO (bO dS)))) 4 fu.qa fun b g=>{ b with qa:=g }
instance:bk fu:=⟨bk.cells Int++bk.cells Int++bk.cells Int++bk.cells Int++bk.cells Int++bk.cells Int,fun A W=>⟨by rfl,bk.ok (α:=Int) A W,bk.ok (α:=Int) A W,bk.ok (α:=Int) A W,bk.ok (α:=Int) A W,bk.ok (α:=Int) A W,bk.ok (α:=Int) A W⟩⟩
structure a3 where
 fF:List fO
 mo:List kb
 mW:List dT
 dH:List ei
 bt:List bX
 nZ:List gb
 kc:List c3
 oW:List fu
 AF:Int
 AW:Int
 deriving DecidableEq,Inhabited
instance:aj a3:= .str (dJ (List fO) (dJ (List kb) (dJ (List dT) (dJ (List ei) (dJ (List bX) (dJ (List gb) (dJ (List c3) (dJ (List fu) (dJ Int (iy Int)))))))))) (fun x=>(x.fF,x.mo,x.mW,x.dH,x.bt,x.nZ,x.kc,x.oW,x.AF,x.AW)) 10
def tM:aN a3 (List fO):= .str dS 0 a3.fF fun b g=>{ b with fF:=g }
def L3:aN a3 (List kb):= .str (bO dS) 1 a3.mo fun b g=>{ b with mo:=g }
def L7:aN a3 (List dT):= .str (bO (bO dS)) 2 a3.mW fun b g=>{ b with mW:=g }
def G0:aN a3 (List ei):= .str (bO (bO (bO dS))) 3 a3.dH fun b g=>{ b with dH:=g }
def mU:aN a3 (List bX):= .str (bO (bO (bO (bO dS)))) 4 a3.bt fun b g=>{ b with bt:=g }
def G5:aN a3 (List gb):= .str (bO (bO (bO (bO (bO dS))))) 5 a3.nZ fun b g=>{ b with nZ:=g }
def L8:aN a3 (List c3):= .str (bO (bO (bO (bO (bO (bO dS)))))) 6 a3.kc fun b g=>{ b with kc:=g }
def DJ:aN a3 (List fu):= .str (bO (bO (bO (bO (bO (bO (bO dS))))))) 7 a3.oW fun b g=>{ b with oW:=g }
def SK:aN a3 Int:= .str (bO (bO (bO (bO (bO (bO (bO (bO dS)))))))) 8 a3.AF fun b g=>{ b with AF:=g }
def SU:aN a3 Int:= .str (bO (bO (bO (bO (bO (bO (bO (bO (bO iU))))))))) 9 a3.AW fun b g=>{ b with AW:=g }
instance:bk a3:=⟨bk.cells (List fO)++bk.cells (List kb)++bk.cells (List dT)++bk.cells (List ei)++bk.cells (List bX)++bk.cells (List gb)++bk.cells (List c3)++bk.cells (List fu)++bk.cells Int++bk.cells Int,fun A W=>⟨by rfl,bk.ok (α:=List fO) A W,bk.ok (α:=List kb) A W,bk.ok (α:=List dT) A W,bk.ok (α:=List ei) A W,bk.ok (α:=List bX) A W,bk.ok (α:=List gb) A W,bk.ok (α:=List c3) A W,bk.ok (α:=List fu) A W,bk.ok (α:=Int) A W,bk.ok (α:=Int) A W⟩⟩
theorem B0:cP Tryz.prog 32 (default:a3):=cP.of (by kernel_rfl)
theorem bE:bF Tryz.prog 3 Int:=bF.of (by rfl) Tryz.underlying3 (by kernel_rfl)
theorem A4:cB Tryz.prog 103 1 1:=cB.of Tryz.underlying103 rfl rfl bE rfl
theorem FJ:bF Tryz.prog 22 (List (BitVec 8)):=bF.of (by rfl) Tryz.underlying22 (by kernel_rfl)
theorem Ia:cB Tryz.prog 103 0 0:=cB.of Tryz.underlying103 rfl rfl FJ rfl
theorem mixed:Tryz.prog.follows .mixedOrders=true:=by kernel_rfl
theorem QU:bM Tryz.prog 26:=⟨_,Tryz.func26,rfl,by kernel_rfl⟩
theorem gT:bM Tryz.prog 29:=⟨_,Tryz.func29,rfl,by kernel_rfl⟩
theorem aaZ:h8 Tryz.prog 32 #[(0,1),(1,1),(2,1),(3,1),(4,1),(5,1),(6,1),(7,1),(8,1),(9,1)]:=⟨_,Tryz.underlying32,by kernel_rfl,by kernel_rfl⟩
theorem gv:bF Tryz.prog 32 a3:=bF.of (by rfl) Tryz.underlying32 (by kernel_rfl)
theorem pH:cP Tryz.prog 105 (default:fO):=cP.of (by kernel_rfl)
theorem sT:h8 Tryz.prog 105 #[(0,1),(1,1),(2,1)]:=⟨_,Tryz.underlying105,by kernel_rfl,by kernel_rfl⟩
theorem oY:bF Tryz.prog 105 fO:=bF.of (by rfl) Tryz.underlying105 (by kernel_rfl)
theorem sZ:bF Tryz.prog 23 (List fO):=bF.of (by rfl) Tryz.underlying23 (by kernel_rfl)
theorem uo:cB Tryz.prog 32 0 0:=cB.of Tryz.underlying32 rfl rfl sZ rfl
theorem h0:cP Tryz.prog 3 (default:Int):=cP.of (by kernel_rfl)
theorem BA:cP Tryz.prog 107 (default:kb):=cP.of (by kernel_rfl)
theorem Ji:h8 Tryz.prog 107 #[(0,1),(1,1),(2,1)]:=⟨_,Tryz.underlying107,by kernel_rfl,by kernel_rfl⟩
theorem Fp:bF Tryz.prog 107 kb:=bF.of (by rfl) Tryz.underlying107 (by kernel_rfl)
theorem JK:bF Tryz.prog 24 (List kb):=bF.of (by rfl) Tryz.underlying24 (by kernel_rfl)
theorem OY:cB Tryz.prog 32 1 1:=cB.of Tryz.underlying32 rfl rfl JK rfl
theorem uA:cP Tryz.prog 169 (default:dT):=cP.of (by kernel_rfl)
theorem Je:h8 Tryz.prog 169 #[(0,1),(1,1),(2,1),(3,1),(4,1)]:=⟨_,Tryz.underlying169,by kernel_rfl,by kernel_rfl⟩
theorem rI:bF Tryz.prog 169 dT:=bF.of (by rfl) Tryz.underlying169 (by kernel_rfl)
theorem en:cP Tryz.prog 48 (default:an):=cP.of (by kernel_rfl)
theorem hr:h8 Tryz.prog 48 #[(0,1),(1,1)]:=⟨_,Tryz.underlying48,by kernel_rfl,by kernel_rfl⟩
theorem uC:cP Tryz.prog 171 (default:ha):=cP.of (by kernel_rfl)
theorem Fq:h8 Tryz.prog 171 #[(0,2),(2,2),(4,1)]:=⟨_,Tryz.underlying171,by kernel_rfl,by kernel_rfl⟩
theorem Fs:bF Tryz.prog 171 ha:=bF.of (by rfl) Tryz.underlying171 (by kernel_rfl)
theorem BB:bF Tryz.prog 167 (List ha):=bF.of (by rfl) Tryz.underlying167 (by kernel_rfl)
theorem EM:cB Tryz.prog 169 3 3:=cB.of Tryz.underlying169 rfl rfl BB rfl
theorem ov:bM Tryz.prog 28:=⟨_,Tryz.func28,rfl,by kernel_rfl⟩
theorem Ol:je Tryz.prog 169 [3]:=by unfold je; kernel_rfl
theorem aa0:bM Tryz.prog 49:=⟨_,Tryz.func49,rfl,by kernel_rfl⟩
theorem BC:cP Tryz.prog 173 (default:ga):=cP.of (by kernel_rfl)
theorem Ft:h8 Tryz.prog 173 #[(0,1),(1,1),(2,2)]:=⟨_,Tryz.underlying173,by kernel_rfl,by kernel_rfl⟩
theorem Fu:bF Tryz.prog 173 ga:=bF.of (by rfl) Tryz.underlying173 (by kernel_rfl)
theorem qj:cP Tryz.prog 153 (default:ei):=cP.of (by kernel_rfl)
theorem wj:h8 Tryz.prog 153 #[(0,1),(1,1),(2,1),(3,1),(4,1)]:=⟨_,Tryz.underlying153,by kernel_rfl,by kernel_rfl⟩
theorem oh:cP Tryz.prog 175 (default:ft):=cP.of (by kernel_rfl)
theorem sR:h8 Tryz.prog 175 #[(0,1),(1,1),(2,4)]:=⟨_,Tryz.underlying175,by kernel_rfl,by kernel_rfl⟩
theorem BD:bF Tryz.prog 175 ft:=bF.of (by rfl) Tryz.underlying175 (by kernel_rfl)
theorem uD:cP Tryz.prog 156 (default:jf):=cP.of (by kernel_rfl)
theorem Fv:h8 Tryz.prog 156 #[(0,1),(1,1)]:=⟨_,Tryz.underlying156,by kernel_rfl,by kernel_rfl⟩
theorem yA:bF Tryz.prog 156 jf:=bF.of (by rfl) Tryz.underlying156 (by kernel_rfl)
theorem oe:bF Tryz.prog 153 ei:=bF.of (by rfl) Tryz.underlying153 (by kernel_rfl)
theorem qD:bF Tryz.prog 9 ByteArray:=bF.of (by rfl) Tryz.underlying9 (by kernel_rfl)
theorem Om:cB Tryz.prog 153 4 4:=cB.of Tryz.underlying153 rfl rfl qD rfl
theorem aa1:bM Tryz.prog 50:=⟨_,Tryz.func50,rfl,by kernel_rfl⟩
theorem ki:cP Tryz.prog 39 (default:cR):=cP.of (by kernel_rfl)
theorem s3:h8 Tryz.prog 39 #[(0,1),(1,1),(2,1)]:=⟨_,Tryz.underlying39,by kernel_rfl,by kernel_rfl⟩
theorem iZ:bF Tryz.prog 39 cR:=bF.of (by rfl) Tryz.underlying39 (by kernel_rfl)
theorem l6:cP Tryz.prog 44 (default:bX):=cP.of (by kernel_rfl)
theorem BT:h8 Tryz.prog 44 #[(0,1),(1,1),(2,1),(3,1),(4,1),(5,1),(6,1),(7,1)]:=⟨_,Tryz.underlying44,by kernel_rfl,by kernel_rfl⟩
theorem gu:bF Tryz.prog 44 bX:=bF.of (by rfl) Tryz.underlying44 (by kernel_rfl)
theorem kQ:bF Tryz.prog 40 (List cR):=bF.of (by rfl) Tryz.underlying40 (by kernel_rfl)
theorem k8:cB Tryz.prog 44 2 2:=cB.of Tryz.underlying44 rfl rfl kQ rfl
theorem IG:je Tryz.prog 44 [2]:=by unfold je; kernel_rfl
theorem IF:je Tryz.prog 44 []:=by unfold je; kernel_rfl
theorem bG:bF Tryz.prog 48 an:=bF.of (by rfl) Tryz.underlying48 (by kernel_rfl)
theorem F6:cP Tryz.prog 9 (default:ByteArray):=cP.of (by kernel_rfl)
theorem Jf:bF Tryz.prog 176 (List ByteArray):=bF.of (by rfl) Tryz.underlying176 (by kernel_rfl)
theorem YW:cP Tryz.prog 176 (default:List ByteArray):=cP.of (by kernel_rfl)
theorem XQ:cB Tryz.prog 44 7 7:=cB.of Tryz.underlying44 rfl rfl qD rfl
theorem aa2:bM Tryz.prog 51:=⟨_,Tryz.func51,rfl,by kernel_rfl⟩
theorem JL:bF Tryz.prog 25 (List dT):=bF.of (by rfl) Tryz.underlying25 (by kernel_rfl)
theorem OZ:cB Tryz.prog 32 2 2:=cB.of Tryz.underlying32 rfl rfl JL rfl
theorem FK:bF Tryz.prog 26 (List ei):=bF.of (by rfl) Tryz.underlying26 (by kernel_rfl)
theorem IE:cB Tryz.prog 32 3 3:=cB.of Tryz.underlying32 rfl rfl FK rfl
theorem mz:bF Tryz.prog 27 (List bX):=bF.of (by rfl) Tryz.underlying27 (by kernel_rfl)
theorem mY:cB Tryz.prog 32 4 4:=cB.of Tryz.underlying32 rfl rfl mz rfl
theorem uB:cP Tryz.prog 180 (default:c3):=cP.of (by kernel_rfl)
theorem Jg:h8 Tryz.prog 180 #[(0,1),(1,1),(2,1),(3,1),(4,1),(5,1)]:=⟨_,Tryz.underlying180,by kernel_rfl,by kernel_rfl⟩
theorem rJ:bF Tryz.prog 180 c3:=bF.of (by rfl) Tryz.underlying180 (by kernel_rfl)
theorem gF:bF Tryz.prog 4 Bool:=bF.of (by rfl) Tryz.underlying4 (by kernel_rfl)
theorem F9:cP Tryz.prog 4 (default:Bool):=cP.of (by kernel_rfl)
theorem wm:bF Tryz.prog 178 (List dN):=bF.of (by rfl) Tryz.underlying178 (by kernel_rfl)
theorem yh:cB Tryz.prog 180 2 2:=cB.of Tryz.underlying180 rfl rfl wm rfl
theorem vV:cB Tryz.prog 44 0 0:=cB.of Tryz.underlying44 rfl rfl bE rfl
theorem sS:cP Tryz.prog 183 (default:dN):=cP.of (by kernel_rfl)
theorem Jh:h8 Tryz.prog 183 #[(0,1),(1,1),(2,1),(3,1)]:=⟨_,Tryz.underlying183,by kernel_rfl,by kernel_rfl⟩
theorem yB:bF Tryz.prog 183 dN:=bF.of (by rfl) Tryz.underlying183 (by kernel_rfl)
theorem yg:je Tryz.prog 180 [2]:=by unfold je; kernel_rfl
theorem aa3:bM Tryz.prog 52:=⟨_,Tryz.func52,rfl,by kernel_rfl⟩
theorem JM:bF Tryz.prog 29 (List c3):=bF.of (by rfl) Tryz.underlying29 (by kernel_rfl)
theorem O0:cB Tryz.prog 32 6 6:=cB.of Tryz.underlying32 rfl rfl JM rfl
theorem uE:cP Tryz.prog 113 (default:gb):=cP.of (by kernel_rfl)
theorem BE:h8 Tryz.prog 113 #[(0,1),(1,1)]:=⟨_,Tryz.underlying113,by kernel_rfl,by kernel_rfl⟩
theorem Jj:bF Tryz.prog 113 gb:=bF.of (by rfl) Tryz.underlying113 (by kernel_rfl)
theorem FM:bF Tryz.prog 28 (List gb):=bF.of (by rfl) Tryz.underlying28 (by kernel_rfl)
theorem IH:cB Tryz.prog 32 5 5:=cB.of Tryz.underlying32 rfl rfl FM rfl
theorem wK:bF Tryz.prog 30 (List fu):=bF.of (by rfl) Tryz.underlying30 (by kernel_rfl)
theorem yo:cB Tryz.prog 32 7 7:=cB.of Tryz.underlying32 rfl rfl wK rfl
theorem rK:cP Tryz.prog 115 (default:fu):=cP.of (by kernel_rfl)
theorem Fw:h8 Tryz.prog 115 #[(0,1),(1,1),(2,1),(3,1),(4,1),(5,1)]:=⟨_,Tryz.underlying115,by kernel_rfl,by kernel_rfl⟩
theorem yC:bF Tryz.prog 115 fu:=bF.of (by rfl) Tryz.underlying115 (by kernel_rfl)
theorem ND:je Tryz.prog 32 [5,7]:=by unfold je; kernel_rfl
theorem Rv:bM Tryz.prog 8:=⟨_,Tryz.func8,rfl,by kernel_rfl⟩
theorem JW:bM Tryz.prog 15:=⟨_,Tryz.func15,rfl,by kernel_rfl⟩
structure cA where
 g1:Bool
 bS:an
 b3:an
 fp:Int
 l0:an
 deriving DecidableEq,Inhabited
instance:aj cA:= .str (dJ Bool (dJ an (dJ an (dJ Int (iy an))))) (fun x=>(x.g1,x.bS,x.b3,x.fp,x.l0)) 8
def nQ:aN cA Bool:= .str dS 0 cA.g1 fun b g=>{ b with g1:=g }
def k6:aN cA an:= .str (bO dS) 1 cA.bS fun b g=>{ b with bS:=g }
def pv:aN cA an:= .str (bO (bO dS)) 3 cA.b3 fun b g=>{ b with b3:=g }
def nR:aN cA Int:= .str (bO (bO (bO dS))) 5 cA.fp fun b g=>{ b with fp:=g }
def xE:aN cA an:= .str (bO (bO (bO (bO iU)))) 6 cA.l0 fun b g=>{ b with l0:=g }
instance:bk cA:=⟨bk.cells Bool++bk.cells an++bk.cells an++bk.cells Int++bk.cells an,fun A W=>⟨by rfl,bk.ok (α:=Bool) A W,bk.ok (α:=an) A W,bk.ok (α:=an) A W,bk.ok (α:=Int) A W,bk.ok (α:=an) A W⟩⟩
structure bC where
 ef:Int
 b4:List cA
 ik:Int
 lz:Int
 lb:List an
 deriving DecidableEq,Inhabited
instance:aj bC:= .str (dJ Int (dJ (List cA) (dJ Int (dJ Int (iy (List an)))))) (fun x=>(x.ef,x.b4,x.ik,x.lz,x.lb)) 5
def rh:aN bC Int:= .str dS 0 bC.ef fun b g=>{ b with ef:=g }
def ku:aN bC (List cA):= .str (bO dS) 1 bC.b4 fun b g=>{ b with b4:=g }
def sf:aN bC Int:= .str (bO (bO dS)) 2 bC.ik fun b g=>{ b with ik:=g }
def xx:aN bC Int:= .str (bO (bO (bO dS))) 3 bC.lz fun b g=>{ b with lz:=g }
def xD:aN bC (List an):= .str (bO (bO (bO (bO iU)))) 4 bC.lb fun b g=>{ b with lb:=g }
instance:bk bC:=⟨bk.cells Int++bk.cells (List cA)++bk.cells Int++bk.cells Int++bk.cells (List an),fun A W=>⟨by rfl,bk.ok (α:=Int) A W,bk.ok (α:=List cA) A W,bk.ok (α:=Int) A W,bk.ok (α:=Int) A W,bk.ok (α:=List an) A W⟩⟩
structure aJ where
 bK:bC
 cH:Int
 vQ:Int
 deriving DecidableEq,Inhabited
instance:aj aJ:= .str (dJ bC (dJ Int (iy Int))) (fun x=>(x.bK,x.cH,x.vQ)) 7
def j9:aN aJ bC:= .str dS 0 aJ.bK fun b g=>{ b with bK:=g }
def lx:aN aJ Int:= .str (bO dS) 5 aJ.cH fun b g=>{ b with cH:=g }
def L0:aN aJ Int:= .str (bO (bO iU)) 6 aJ.vQ fun b g=>{ b with vQ:=g }
instance:bk aJ:=⟨bk.cells bC++bk.cells Int++bk.cells Int,fun A W=>⟨by rfl,bk.ok (α:=bC) A W,bk.ok (α:=Int) A W,bk.ok (α:=Int) A W⟩⟩
theorem aaS:bM Tryz.prog 83:=⟨_,Tryz.func83,rfl,by kernel_rfl⟩
theorem aaT:bM Tryz.prog 82:=⟨_,Tryz.func82,rfl,by kernel_rfl⟩
theorem FL:bM Tryz.prog 53:=⟨_,Tryz.func53,rfl,by kernel_rfl⟩
theorem sG:cB Tryz.prog 39 2 2:=cB.of Tryz.underlying39 rfl rfl bE rfl
theorem abp:bM Tryz.prog 54:=⟨_,Tryz.func54,rfl,by kernel_rfl⟩
structure ka where
 qH:Ref
 deriving DecidableEq,Inhabited
instance:aj ka:= .str (iy Ref) (fun x=>x.qH) 1
def zR:aN ka Ref:= .str iU 0 ka.qH fun b g=>{ b with qH:=g }
instance:bk ka:=⟨bk.cells Ref,fun A W=>⟨by rfl,bk.ok (α:=Ref) A W⟩⟩
structure gZ where
 sV:Int
 fL:Int
 n6:gS
 deriving DecidableEq,Inhabited
instance:aj gZ:= .str (dJ Int (dJ Int (iy gS))) (fun x=>(x.sV,x.fL,x.n6)) 3
def zu:aN gZ Int:= .str dS 0 gZ.sV fun b g=>{ b with sV:=g }
def Dz:aN gZ Int:= .str (bO dS) 1 gZ.fL fun b g=>{ b with fL:=g }
def re:aN gZ gS:= .str (bO (bO iU)) 2 gZ.n6 fun b g=>{ b with n6:=g }
instance:bk gZ:=⟨bk.cells Int++bk.cells Int++bk.cells gS,fun A W=>⟨by rfl,bk.ok (α:=Int) A W,bk.ok (α:=Int) A W,bk.ok (α:=gS) A W⟩⟩
structure jD where
 ch:Ref
 deriving DecidableEq,Inhabited
instance:aj jD:= .str (iy Ref) (fun x=>x.ch) 1
def zW:aN jD Ref:= .str iU 0 jD.ch fun b g=>{ b with ch:=g }
instance:bk jD:=⟨bk.cells Ref,fun A W=>⟨by rfl,bk.ok (α:=Ref) A W⟩⟩
inductive gM where
 | nil
 | mA (x:ka)
 | mB (x:gZ)
 | mC (x:jD)
 deriving DecidableEq,Inhabited
instance:aj gM where
 size:=1
 agg:=false
 rep A W cs x:=match x with
  | .nil=>cs= [.nilIface]
  | .mA x=> ∃ v,cs= [.iface 127 v]∧ (I.of x).holds A W v
  | .mB x=> ∃ v,cs= [.iface 130 v]∧ (I.of x).holds A W v
  | .mC x=> ∃ v,cs= [.iface 134 v]∧ (I.of x).holds A W v
 len {A W cs x} h:=by cases x <;> first | (have h:cs=_:=h; rw [h]; rfl) | (obtain⟨v,h,_⟩:=h; rw [h]; rfl)
 one {A W cs x} h:=by
  intro u hu
  cases x <;> first | (have h:cs=_:=h; rw [h] at hu; rw [List.mem_singleton.1 hu]; rfl) | (obtain⟨v,h,_⟩:=h; rw [h] at hu; rw [List.mem_singleton.1 hu]; rfl)
 flat _:=rfl
 mono {A W dh W' cs x} e h:=by cases x <;> first | exact h | (obtain⟨v,h,ad⟩:=h; exact⟨v,h,I.mono _ e ad⟩)
instance:bk gM:=⟨[.nilIface],fun _ _=>rfl⟩
theorem VL {A W v} {x:ka} (h:(I.of x).holds A W v):(I.of (gM.mA x)).holds A W (.iface 127 v):=⟨rfl,v,rfl,h⟩
theorem Es {A W u} {x:ka} (h:(I.of (gM.mA x)).holds A W u):∃ v,u= .iface 127 v∧ (I.of x).holds A W v:=by
 obtain⟨aa,v,ad,aF⟩:=h
 exact⟨v,oO aa ad,aF⟩
theorem VM {A W v} {x:gZ} (h:(I.of x).holds A W v):(I.of (gM.mB x)).holds A W (.iface 130 v):=⟨rfl,v,rfl,h⟩
theorem Et {A W u} {x:gZ} (h:(I.of (gM.mB x)).holds A W u):∃ v,u= .iface 130 v∧ (I.of x).holds A W v:=by
 obtain⟨aa,v,ad,aF⟩:=h
 exact⟨v,oO aa ad,aF⟩
theorem VN {A W v} {x:jD} (h:(I.of x).holds A W v):(I.of (gM.mC x)).holds A W (.iface 134 v):=⟨rfl,v,rfl,h⟩
theorem Eu {A W u} {x:jD} (h:(I.of (gM.mC x)).holds A W u):∃ v,u= .iface 134 v∧ (I.of x).holds A W v:=by
 obtain⟨aa,v,ad,aF⟩:=h
 exact⟨v,oO aa ad,aF⟩
structure hn where
 sK:Int
 pD:Int
 iW:gM
 ly:gS
 deriving DecidableEq,Inhabited
instance:aj hn:= .str (dJ Int (dJ Int (dJ gM (iy gS)))) (fun x=>(x.sK,x.pD,x.iW,x.ly)) 4
def Ta:aN hn Int:= .str dS 0 hn.sK fun b g=>{ b with sK:=g }
def Ma:aN hn Int:= .str (bO dS) 1 hn.pD fun b g=>{ b with pD:=g }
def tL:aN hn gM:= .str (bO (bO dS)) 2 hn.iW fun b g=>{ b with iW:=g }
def zt:aN hn gS:= .str (bO (bO (bO iU))) 3 hn.ly fun b g=>{ b with ly:=g }
instance:bk hn:=⟨bk.cells Int++bk.cells Int++bk.cells gM++bk.cells gS,fun A W=>⟨by rfl,bk.ok (α:=Int) A W,bk.ok (α:=Int) A W,bk.ok (α:=gM) A W,bk.ok (α:=gS) A W⟩⟩
theorem ZM:cP Tryz.prog 123 (default:hn):=cP.of (by kernel_rfl)
theorem ZL:h8 Tryz.prog 123 #[(0,1),(1,1),(2,1),(3,1)]:=⟨_,Tryz.underlying123,by kernel_rfl,by kernel_rfl⟩
structure ns where
 oX:gS
 deriving DecidableEq,Inhabited
instance:aj ns:= .str (iy gS) (fun x=>x.oX) 1
def zG:aN ns gS:= .str iU 0 ns.oX fun b g=>{ b with oX:=g }
instance:bk ns:=⟨bk.cells gS,fun A W=>⟨by rfl,bk.ok (α:=gS) A W⟩⟩
theorem Yz:cP Tryz.prog 188 (default:ns):=cP.of (by kernel_rfl)
theorem Yy:h8 Tryz.prog 188 #[(0,1)]:=⟨_,Tryz.underlying188,by kernel_rfl,by kernel_rfl⟩
theorem abq:bM Tryz.prog 55:=⟨_,Tryz.func55,rfl,by kernel_rfl⟩
theorem ZO:cP Tryz.prog 127 (default:ka):=cP.of (by kernel_rfl)
theorem ZN:h8 Tryz.prog 127 #[(0,1)]:=⟨_,Tryz.underlying127,by kernel_rfl,by kernel_rfl⟩
theorem sU:bF Tryz.prog 121 gM:=bF.of (by rfl) Tryz.underlying121 (by kernel_rfl)
theorem uj:cB Tryz.prog 123 2 2:=cB.of Tryz.underlying123 rfl rfl sU rfl
theorem Ib:cB Tryz.prog 105 0 0:=cB.of Tryz.underlying105 rfl rfl bE rfl
theorem aaU:bM Tryz.prog 85:=⟨_,Tryz.func85,rfl,by kernel_rfl⟩
theorem aaV:bM Tryz.prog 84:=⟨_,Tryz.func84,rfl,by kernel_rfl⟩
theorem Be:cB Tryz.prog 39 1 1:=cB.of Tryz.underlying39 rfl rfl bE rfl
theorem JO:bM Tryz.prog 56:=⟨_,Tryz.func56,rfl,by kernel_rfl⟩
theorem A5:cB Tryz.prog 105 2 2:=cB.of Tryz.underlying105 rfl rfl bE rfl
theorem ZQ:cP Tryz.prog 130 (default:gZ):=cP.of (by kernel_rfl)
theorem ZP:h8 Tryz.prog 130 #[(0,1),(1,1),(2,1)]:=⟨_,Tryz.underlying130,by kernel_rfl,by kernel_rfl⟩
structure cL where
 oQ:a3
 ch:List aJ
 deriving DecidableEq,Inhabited
instance:aj cL:= .str (dJ a3 (iy (List aJ))) (fun x=>(x.oQ,x.ch)) 11
def Dw:aN cL a3:= .str dS 0 cL.oQ fun b g=>{ b with oQ:=g }
def xC:aN cL (List aJ):= .str (bO iU) 10 cL.ch fun b g=>{ b with ch:=g }
instance:bk cL:=⟨bk.cells a3++bk.cells (List aJ),fun A W=>⟨by rfl,bk.ok (α:=a3) A W,bk.ok (α:=List aJ) A W⟩⟩
theorem YB:cP Tryz.prog 192 (default:cL):=cP.of (by kernel_rfl)
theorem YA:h8 Tryz.prog 192 #[(0,10),(10,1)]:=⟨_,Tryz.underlying192,by kernel_rfl,by kernel_rfl⟩
theorem abr:bM Tryz.prog 57:=⟨_,Tryz.func57,rfl,by kernel_rfl⟩
theorem Wm:je Tryz.prog 192 [10]:=by unfold je; kernel_rfl
theorem ZU:cP Tryz.prog 134 (default:jD):=cP.of (by kernel_rfl)
theorem ZT:h8 Tryz.prog 134 #[(0,1)]:=⟨_,Tryz.underlying134,by kernel_rfl,by kernel_rfl⟩
theorem acv:bM Tryz.prog 9:=⟨_,Tryz.func9,rfl,by kernel_rfl⟩
theorem yK:cP Tryz.prog 53 (default:bC):=cP.of (by kernel_rfl)
theorem JU:h8 Tryz.prog 53 #[(0,1),(1,1),(2,1),(3,1),(4,1)]:=⟨_,Tryz.underlying53,by kernel_rfl,by kernel_rfl⟩
theorem hN:bF Tryz.prog 53 bC:=bF.of (by rfl) Tryz.underlying53 (by kernel_rfl)
theorem m9:cP Tryz.prog 50 (default:cA):=cP.of (by kernel_rfl)
theorem abt:bM Tryz.prog 96:=⟨_,Tryz.func96,rfl,by kernel_rfl⟩
theorem eN:bF Tryz.prog 46 (BitVec 64):=bF.of (by rfl) Tryz.underlying46 (by kernel_rfl)
theorem ke:cB Tryz.prog 48 0 0:=cB.of Tryz.underlying48 rfl rfl eN rfl
theorem im:cB Tryz.prog 48 1 1:=cB.of Tryz.underlying48 rfl rfl eN rfl
theorem FO:bM Tryz.prog 19:=⟨_,Tryz.func19,rfl,by kernel_rfl⟩
theorem abu:bM Tryz.prog 97:=⟨_,Tryz.func97,rfl,by kernel_rfl⟩
theorem OV:Lz Tryz.prog 48 1 46 1:=⟨_,_,Tryz.underlying48,rfl,rfl,rfl⟩
theorem wN:h8 Tryz.prog 50 #[(0,1),(1,2),(3,2),(5,1),(6,2)]:=⟨_,Tryz.underlying50,by kernel_rfl,by kernel_rfl⟩
theorem gw:bF Tryz.prog 50 cA:=bF.of (by rfl) Tryz.underlying50 (by kernel_rfl)
theorem kS:bF Tryz.prog 51 (List cA):=bF.of (by rfl) Tryz.underlying51 (by kernel_rfl)
theorem k9:cB Tryz.prog 53 1 1:=cB.of Tryz.underlying53 rfl rfl kS rfl
theorem abv:bM Tryz.prog 64:=⟨_,Tryz.func64,rfl,by kernel_rfl⟩
theorem vY:cB Tryz.prog 53 2 2:=cB.of Tryz.underlying53 rfl rfl bE rfl
theorem kU:bF Tryz.prog 41 (List Int):=bF.of (by rfl) Tryz.underlying41 (by kernel_rfl)
theorem Pd:cB Tryz.prog 44 3 3:=cB.of Tryz.underlying44 rfl rfl kU rfl
theorem Fa:cB Tryz.prog 53 3 3:=cB.of Tryz.underlying53 rfl rfl bE rfl
theorem Og:cB Tryz.prog 153 0 0:=cB.of Tryz.underlying153 rfl rfl bE rfl
theorem abw:bM Tryz.prog 65:=⟨_,Tryz.func65,rfl,by kernel_rfl⟩
theorem Xa:Lz Tryz.prog 153 2 150 2:=⟨_,_,Tryz.underlying153,rfl,rfl,rfl⟩
theorem ZV:bF Tryz.prog 150 (List jf):=bF.of (by rfl) Tryz.underlying150 (by kernel_rfl)
theorem wD:bF Tryz.prog 42 (List an):=bF.of (by rfl) Tryz.underlying42 (by kernel_rfl)
theorem ym:cB Tryz.prog 53 4 4:=cB.of Tryz.underlying53 rfl rfl wD rfl
theorem Xb:cB Tryz.prog 156 1 1:=cB.of Tryz.underlying156 rfl rfl bE rfl
theorem NH:je Tryz.prog 53 [1,4]:=by unfold je; kernel_rfl
theorem abx:bM Tryz.prog 27:=⟨_,Tryz.func27,rfl,by kernel_rfl⟩
theorem gx:cP Tryz.prog 56 (default:aJ):=cP.of (by kernel_rfl)
theorem wM:h8 Tryz.prog 56 #[(0,5),(5,1),(6,1)]:=⟨_,Tryz.underlying56,by kernel_rfl,by kernel_rfl⟩
theorem cM:bF Tryz.prog 56 aJ:=bF.of (by rfl) Tryz.underlying56 (by kernel_rfl)
theorem BG:bF Tryz.prog 119 gS:=bF.of (by rfl) Tryz.underlying119 (by kernel_rfl)
theorem EO:cB Tryz.prog 123 3 3:=cB.of Tryz.underlying123 rfl rfl BG rfl
theorem mX:cB Tryz.prog 56 1 5:=cB.of Tryz.underlying56 rfl rfl bE rfl
theorem Gb:oJ Tryz.prog 3 Int:=X9 Tryz.underlying3
theorem la:cB Tryz.prog 56 0 0:=cB.of Tryz.underlying56 rfl rfl hN rfl
theorem kR:cP Tryz.prog 60 (default:Vector an 4):=cP.of (by kernel_rfl)
theorem n8:cB Tryz.prog 50 1 1:=cB.of Tryz.underlying50 rfl rfl bG rfl
theorem fU:p3 Tryz.prog 60 4 2:=p3.of Tryz.underlying60 bG rfl
theorem dW:bF Tryz.prog 60 (Vector an 4):=bF.of (by rfl) Tryz.underlying60 (by kernel_rfl)
theorem Bt:bF Tryz.prog 186 gS:=bF.of (by rfl) Tryz.underlying186 (by kernel_rfl)
theorem EJ:cB Tryz.prog 188 0 0:=cB.of Tryz.underlying188 rfl rfl Bt rfl
instance aeo:lv an where
 uniq {A W cs dh W' eh x} h dc:=by
  refine Xp h.1 dc.1 ?_
  refine NO 0 (aj.size (BitVec 64)) (lv.uniq (h.2.1) (dc.2.1)) ?_
  refine NO 1 (aj.size (BitVec 64)) (lv.uniq (h.2.2) (dc.2.2)) ?_
  exact Xq h.1 dc.1 (by decide)
 plain {A W cs x} h:=by
  intro u hu n
  have bT:=ES (o:=0) (s:=aj.size (BitVec 64)) (by simpa using hu)
  rcases bT with aa | bT
  ·exact lv.plain (h.2.1) u aa n
  have bT:=ES (s:=aj.size (BitVec 64)) bT
  rcases bT with aa | bT
  ·exact lv.plain (h.2.2) u aa n
  exact Ov h.1 (by rfl) bT
theorem QT:lM Tryz.prog 46 (BitVec 64) 1:=Xj (K:= .u64) Tryz.underlying46
theorem od:lM Tryz.prog 48 an 2:=HE (k:=1) rfl Tryz.underlying48 (by kernel_rfl) fun d hd A W xs ys x y aq a6=>by
 refine Eq.trans (sx hK eN rfl (by rfl) QT (by omega) aq a6 (sx ev eN rfl (by rfl) QT (by omega) aq a6 (Iq))) ?_
 congr 1
 rw [Bool.eq_iff_iff]
 simp only [Bool.and_eq_true,decide_eq_true_eq,and_true]
 cases x; cases y
 simp [aN.str,hK,ev]
theorem Yu:lM Tryz.prog 287 (Vector an 4) 3:=Ip Tryz.underlying287 bG od
theorem Rq:sd Tryz.prog 46 (BitVec 64) 1:=Ns Tryz.underlying46 rfl
theorem Rr:sd Tryz.prog 48 an 2:=VV (k:=1) rfl Tryz.underlying48 (.cons hK rfl eN (fun b d A W u x h aq=>Rq b d A W u x (by omega) aq) (.cons ev rfl eN (fun b d A W u x h aq=>Rq b d A W u x (by omega) aq) (.nil)))
theorem aaD:sd Tryz.prog 287 (Vector an 4) 3:=Pk Tryz.underlying287 bG Rr
theorem Fj:oJ Tryz.prog 287 (Vector an 4):=Pl Tryz.underlying287 rfl aaD Yu rfl rfl
theorem Bu:bF Tryz.prog 124 Ref:=bF.of (by rfl) Tryz.underlying124 (by kernel_rfl)
theorem EL:cB Tryz.prog 127 0 0:=cB.of Tryz.underlying127 rfl rfl Bu rfl
theorem Fk:bM Tryz.prog 197:=⟨_,Tryz.func197,rfl,by kernel_rfl⟩
theorem I6:bM Tryz.prog 196:=⟨_,Tryz.func196,rfl,by kernel_rfl⟩
theorem Bv:bF Tryz.prog 130 gZ:=bF.of (by rfl) Tryz.underlying130 (by kernel_rfl)
theorem wk:cP Tryz.prog 288 (default:Vector an 4):=cP.of (by kernel_rfl)
theorem EK:cB Tryz.prog 130 0 0:=cB.of Tryz.underlying130 rfl rfl bE rfl
theorem kx:bF Tryz.prog 288 (Vector an 4):=bF.of (by rfl) Tryz.underlying288 (by kernel_rfl)
theorem PF:bM Tryz.prog 206:=⟨_,Tryz.func206,rfl,by kernel_rfl⟩
theorem qf:cB Tryz.prog 50 3 5:=cB.of Tryz.underlying50 rfl rfl bE rfl
theorem Jo:bM Tryz.prog 204:=⟨_,Tryz.func204,rfl,by kernel_rfl⟩
theorem wq:cP Tryz.prog 299 (default:Ref):=cP.of (by kernel_rfl)
theorem PG:bM Tryz.prog 169:=⟨_,Tryz.func169,rfl,by kernel_rfl⟩
theorem PH:bM Tryz.prog 168:=⟨_,Tryz.func168,rfl,by kernel_rfl⟩
theorem Bx:bM Tryz.prog 148:=⟨_,Tryz.func148,rfl,by kernel_rfl⟩
theorem Fl:bM Tryz.prog 153:=⟨_,Tryz.func153,rfl,by kernel_rfl⟩
theorem vO:cB Tryz.prog 305 0 0:=cB.of Tryz.underlying305 rfl rfl bE rfl
structure fK where
 fL:Int
 cQ:Ref
 deriving DecidableEq,Inhabited
instance:aj fK:= .str (dJ Int (iy Ref)) (fun x=>(x.fL,x.cQ)) 2
def tN:aN fK Int:= .str dS 0 fK.fL fun b g=>{ b with fL:=g }
def sg:aN fK Ref:= .str (bO iU) 1 fK.cQ fun b g=>{ b with cQ:=g }
instance:bk fK:=⟨bk.cells Int++bk.cells Ref,fun A W=>⟨by rfl,bk.ok (α:=Int) A W,bk.ok (α:=Ref) A W⟩⟩
theorem Jl:bM Tryz.prog 149:=⟨_,Tryz.func149,rfl,by kernel_rfl⟩
theorem oZ:bM Tryz.prog 116:=⟨_,Tryz.func116,rfl,by kernel_rfl⟩
theorem uz:Tryz.prog.eqGuardType Tryz.prog.depth 48=false:=by kernel_rfl
theorem P3:bM Tryz.prog 216:=⟨_,Tryz.func216,rfl,by kernel_rfl⟩
theorem ek:bF Tryz.prog 299 Ref:=bF.of (by rfl) Tryz.underlying299 (by kernel_rfl)
theorem sC:cB Tryz.prog 305 1 1:=cB.of Tryz.underlying305 rfl rfl ek rfl
theorem Fy:bM Tryz.prog 215:=⟨_,Tryz.func215,rfl,by kernel_rfl⟩
theorem PW:bF Tryz.prog 289 Ref:=bF.of (by rfl) Tryz.underlying289 (by kernel_rfl)
theorem Fm:bM Tryz.prog 172:=⟨_,Tryz.func172,rfl,by kernel_rfl⟩
theorem PQ:bF Tryz.prog 301 (Vector Ref 2):=bF.of (by rfl) Tryz.underlying301 (by kernel_rfl)
theorem ry:cB Tryz.prog 303 0 0:=cB.of Tryz.underlying303 rfl rfl PQ rfl
theorem sQ:p3 Tryz.prog 301 2 1:=p3.of Tryz.underlying301 ek rfl
structure dM where
 c8:Vector Ref 2
 dP:Bool
 hO:Int
 deriving DecidableEq,Inhabited
instance:aj dM:= .str (dJ (Vector Ref 2) (dJ Bool (iy Int))) (fun x=>(x.c8,x.dP,x.hO)) 4
def rf:aN dM (Vector Ref 2):= .str dS 0 dM.c8 fun b g=>{ b with c8:=g }
def ri:aN dM Bool:= .str (bO dS) 2 dM.dP fun b g=>{ b with dP:=g }
def z4:aN dM Int:= .str (bO (bO iU)) 3 dM.hO fun b g=>{ b with hO:=g }
instance:bk dM:=⟨bk.cells (Vector Ref 2)++bk.cells Bool++bk.cells Int,fun A W=>⟨by rfl,bk.ok (α:=Vector Ref 2) A W,bk.ok (α:=Bool) A W,bk.ok (α:=Int) A W⟩⟩
theorem Fz:bM Tryz.prog 220:=⟨_,Tryz.func220,rfl,by kernel_rfl⟩
theorem P5:bM Tryz.prog 212:=⟨_,Tryz.func212,rfl,by kernel_rfl⟩
theorem rv:cB Tryz.prog 303 1 2:=cB.of Tryz.underlying303 rfl rfl gF rfl
theorem A6:cB Tryz.prog 303 2 3:=cB.of Tryz.underlying303 rfl rfl bE rfl
theorem rL:bF Tryz.prog 128 gS:=bF.of (by rfl) Tryz.underlying128 (by kernel_rfl)
theorem sF:cB Tryz.prog 130 2 2:=cB.of Tryz.underlying130 rfl rfl rL rfl
theorem Yv:lM Tryz.prog 288 (Vector an 4) 3:=Ip Tryz.underlying288 bG od
theorem aaE:sd Tryz.prog 288 (Vector an 4) 3:=Pk Tryz.underlying288 bG Rr
theorem uF:oJ Tryz.prog 288 (Vector an 4):=Pl Tryz.underlying288 rfl aaE Yv rfl rfl
theorem yD:cP Tryz.prog 289 (default:Ref):=cP.of (by kernel_rfl)
theorem Qa:bM Tryz.prog 205:=⟨_,Tryz.func205,rfl,by kernel_rfl⟩
theorem BI:bF Tryz.prog 131 Ref:=bF.of (by rfl) Tryz.underlying131 (by kernel_rfl)
theorem EP:cB Tryz.prog 134 0 0:=cB.of Tryz.underlying134 rfl rfl BI rfl
theorem qq:bF Tryz.prog 67 (List aJ):=bF.of (by rfl) Tryz.underlying67 (by kernel_rfl)
theorem sy:cB Tryz.prog 192 1 10:=cB.of Tryz.underlying192 rfl rfl qq rfl
theorem YG:bM Tryz.prog 112:=⟨_,Tryz.func112,rfl,by kernel_rfl⟩
theorem YH:bM Tryz.prog 113:=⟨_,Tryz.func113,rfl,by kernel_rfl⟩
theorem aa5:bM Tryz.prog 86:=⟨_,Tryz.func86,rfl,by kernel_rfl⟩
theorem B1:bM Tryz.prog 58:=⟨_,Tryz.func58,rfl,by kernel_rfl⟩
theorem Zd:bM Tryz.prog 234:=⟨_,Tryz.func234,rfl,by kernel_rfl⟩
theorem Zg:bM Tryz.prog 229:=⟨_,Tryz.func229,rfl,by kernel_rfl⟩
theorem vX:cB Tryz.prog 53 0 0:=cB.of Tryz.underlying53 rfl rfl bE rfl
theorem ack:lM Tryz.prog 4 Bool 1:=Wu Tryz.underlying4
theorem acm:lM Tryz.prog 3 Int 1:=Ou (K:= .i64) Tryz.underlying3
theorem YC:lM Tryz.prog 50 cA 3:=HE (k:=2) rfl Tryz.underlying50 (by kernel_rfl) fun d hd A W xs ys x y aq a6=>by
 refine Eq.trans (sx nQ gF rfl (by rfl) ack (by omega) aq a6 (sx k6 bG rfl (by rfl) od (by omega) aq a6 (sx pv bG rfl (by rfl) od (by omega) aq a6 (sx nR bE rfl (by rfl) acm (by omega) aq a6 (sx xE bG rfl (by rfl) od (by omega) aq a6 (Iq)))))) ?_
 congr 1
 rw [Bool.eq_iff_iff]
 simp only [Bool.and_eq_true,decide_eq_true_eq,and_true]
 cases x; cases y
 simp [aN.str,nQ,k6,pv,nR,xE]
theorem YD:Tryz.prog.eqGuardType Tryz.prog.depth 50=false:=by kernel_rfl
theorem YI:bM Tryz.prog 235:=⟨_,Tryz.func235,rfl,by kernel_rfl⟩
theorem Zh:bM Tryz.prog 230:=⟨_,Tryz.func230,rfl,by kernel_rfl⟩
theorem aaF:bM Tryz.prog 192:=⟨_,Tryz.func192,rfl,by kernel_rfl⟩
theorem Vy:iM Tryz.prog 127 "matchguard/index.find" 192:=iM.pZ (by kernel_rfl) Tryz.underlying127 rfl aaF
theorem aaG:bM Tryz.prog 200:=⟨_,Tryz.func200,rfl,by kernel_rfl⟩
theorem Vz:iM Tryz.prog 130 "matchguard/index.find" 200:=iM.pZ (by kernel_rfl) Tryz.underlying130 rfl aaG
theorem aaH:bM Tryz.prog 225:=⟨_,Tryz.func225,rfl,by kernel_rfl⟩
theorem VA:iM Tryz.prog 134 "matchguard/index.find" 225:=iM.pZ (by kernel_rfl) Tryz.underlying134 rfl aaH
theorem YJ:bM Tryz.prog 198:=⟨_,Tryz.func198,rfl,by kernel_rfl⟩
theorem YF:cP Tryz.prog 305 (default:fK):=cP.of (by kernel_rfl)
theorem YE:h8 Tryz.prog 305 #[(0,1),(1,1)]:=⟨_,Tryz.underlying305,by kernel_rfl,by kernel_rfl⟩
theorem Ii:cB Tryz.prog 130 1 1:=cB.of Tryz.underlying130 rfl rfl bE rfl
theorem ZJ:bM Tryz.prog 208:=⟨_,Tryz.func208,rfl,by kernel_rfl⟩
theorem Qg:cP Tryz.prog 303 (default:dM):=cP.of (by kernel_rfl)
theorem Qf:h8 Tryz.prog 303 #[(0,2),(2,1),(3,1)]:=⟨_,Tryz.underlying303,by kernel_rfl,by kernel_rfl⟩
theorem ZI:bM Tryz.prog 209:=⟨_,Tryz.func209,rfl,by kernel_rfl⟩
theorem PI:bM Tryz.prog 244:=⟨_,Tryz.func244,rfl,by kernel_rfl⟩
theorem JI:bM Tryz.prog 87:=⟨_,Tryz.func87,rfl,by kernel_rfl⟩
theorem PU:bM Tryz.prog 237:=⟨_,Tryz.func237,rfl,by kernel_rfl⟩
theorem PJ:bM Tryz.prog 146:=⟨_,Tryz.func146,rfl,by kernel_rfl⟩
theorem P1:bM Tryz.prog 170:=⟨_,Tryz.func170,rfl,by kernel_rfl⟩
theorem Y8:bM Tryz.prog 171:=⟨_,Tryz.func171,rfl,by kernel_rfl⟩
theorem PK:bM Tryz.prog 114:=⟨_,Tryz.func114,rfl,by kernel_rfl⟩
theorem Jm:bM Tryz.prog 106:=⟨_,Tryz.func106,rfl,by kernel_rfl⟩
theorem P4:bM Tryz.prog 150:=⟨_,Tryz.func150,rfl,by kernel_rfl⟩
theorem Ze:bM Tryz.prog 105:=⟨_,Tryz.func105,rfl,by kernel_rfl⟩
theorem Ij:cB Tryz.prog 192 0 0:=cB.of Tryz.underlying192 rfl rfl gv rfl
theorem Jn:bM Tryz.prog 118:=⟨_,Tryz.func118,rfl,by kernel_rfl⟩
theorem Zt:bM Tryz.prog 238:=⟨_,Tryz.func238,rfl,by kernel_rfl⟩
theorem Zu:bM Tryz.prog 239:=⟨_,Tryz.func239,rfl,by kernel_rfl⟩
theorem Zv:bM Tryz.prog 240:=⟨_,Tryz.func240,rfl,by kernel_rfl⟩
theorem ZB:bM Tryz.prog 232:=⟨_,Tryz.func232,rfl,by kernel_rfl⟩
theorem aaI:bM Tryz.prog 194:=⟨_,Tryz.func194,rfl,by kernel_rfl⟩
theorem VC:iM Tryz.prog 127 "matchguard/index.put" 194:=iM.pZ (by kernel_rfl) Tryz.underlying127 rfl aaI
theorem aaJ:bM Tryz.prog 202:=⟨_,Tryz.func202,rfl,by kernel_rfl⟩
theorem VD:iM Tryz.prog 130 "matchguard/index.put" 202:=iM.pZ (by kernel_rfl) Tryz.underlying130 rfl aaJ
theorem aaK:bM Tryz.prog 227:=⟨_,Tryz.func227,rfl,by kernel_rfl⟩
theorem VE:iM Tryz.prog 134 "matchguard/index.put" 227:=iM.pZ (by kernel_rfl) Tryz.underlying134 rfl aaK
theorem Q9:bM Tryz.prog 10:=⟨_,Tryz.func10,rfl,by kernel_rfl⟩
theorem aby:bM Tryz.prog 16:=⟨_,Tryz.func16,rfl,by kernel_rfl⟩
structure bc where
 bS:Vector an 4
 b3:Vector an 4
 deriving DecidableEq,Inhabited
instance:aj bc:= .str (dJ (Vector an 4) (iy (Vector an 4))) (fun x=>(x.bS,x.b3)) 16
def nS:aN bc (Vector an 4):= .str dS 0 bc.bS fun b g=>{ b with bS:=g }
def mm:aN bc (Vector an 4):= .str (bO iU) 8 bc.b3 fun b g=>{ b with b3:=g }
instance:bk bc:=⟨bk.cells (Vector an 4)++bk.cells (Vector an 4),fun A W=>⟨by rfl,bk.ok (α:=Vector an 4) A W,bk.ok (α:=Vector an 4) A W⟩⟩
theorem jh:cP Tryz.prog 142 (default:bc):=cP.of (by kernel_rfl)
theorem aa9:bM Tryz.prog 88:=⟨_,Tryz.func88,rfl,by kernel_rfl⟩
theorem yy:h8 Tryz.prog 142 #[(0,8),(8,8)]:=⟨_,Tryz.underlying142,by kernel_rfl,by kernel_rfl⟩
theorem dI:bF Tryz.prog 142 bc:=bF.of (by rfl) Tryz.underlying142 (by kernel_rfl)
theorem abb:bM Tryz.prog 90:=⟨_,Tryz.func90,rfl,by kernel_rfl⟩
theorem aba:bM Tryz.prog 89:=⟨_,Tryz.func89,rfl,by kernel_rfl⟩
theorem uq:cB Tryz.prog 50 0 0:=cB.of Tryz.underlying50 rfl rfl gF rfl
theorem sH:cB Tryz.prog 50 2 3:=cB.of Tryz.underlying50 rfl rfl bG rfl
theorem Zi:bM Tryz.prog 115:=⟨_,Tryz.func115,rfl,by kernel_rfl⟩
theorem n5:cB Tryz.prog 142 1 8:=cB.of Tryz.underlying142 rfl rfl dW rfl
theorem qc:cB Tryz.prog 142 0 0:=cB.of Tryz.underlying142 rfl rfl dW rfl
theorem Q2:bM Tryz.prog 91:=⟨_,Tryz.func91,rfl,by kernel_rfl⟩
theorem Zw:cP Tryz.prog 143 (default:List bc):=cP.of (by kernel_rfl)
theorem abc:bM Tryz.prog 92:=⟨_,Tryz.func92,rfl,by kernel_rfl⟩
theorem Jp:bF Tryz.prog 143 (List bc):=bF.of (by rfl) Tryz.underlying143 (by kernel_rfl)
theorem W6:je Tryz.prog 143 [0]:=by unfold je; kernel_rfl
theorem Zx:bM Tryz.prog 117:=⟨_,Tryz.func117,rfl,by kernel_rfl⟩
theorem abf:bM Tryz.prog 60:=⟨_,Tryz.func60,rfl,by kernel_rfl⟩
theorem Y9:bM Tryz.prog 120:=⟨_,Tryz.func120,rfl,by kernel_rfl⟩
theorem Bw:bM Tryz.prog 152:=⟨_,Tryz.func152,rfl,by kernel_rfl⟩
theorem I7:lM Tryz.prog 60 (Vector an 4) 3:=Ip Tryz.underlying60 bG od
theorem YK:Tryz.prog.eqGuardType Tryz.prog.depth 60=false:=by kernel_rfl
theorem rH:bM Tryz.prog 154:=⟨_,Tryz.func154,rfl,by kernel_rfl⟩
theorem PL:bM Tryz.prog 122:=⟨_,Tryz.func122,rfl,by kernel_rfl⟩
theorem Za:bM Tryz.prog 121:=⟨_,Tryz.func121,rfl,by kernel_rfl⟩
theorem P2:bM Tryz.prog 151:=⟨_,Tryz.func151,rfl,by kernel_rfl⟩
theorem Zb:bM Tryz.prog 119:=⟨_,Tryz.func119,rfl,by kernel_rfl⟩
theorem Q1:bM Tryz.prog 93:=⟨_,Tryz.func93,rfl,by kernel_rfl⟩
theorem OW:lM Tryz.prog 142 bc 4:=HE (k:=3) rfl Tryz.underlying142 (by kernel_rfl) fun d hd A W xs ys x y aq a6=>by
 refine Eq.trans (sx nS dW rfl (by rfl) I7 (by omega) aq a6 (sx mm dW rfl (by rfl) I7 (by omega) aq a6 (Iq))) ?_
 congr 1
 rw [Bool.eq_iff_iff]
 simp only [Bool.and_eq_true,decide_eq_true_eq,and_true]
 cases x; cases y
 simp [aN.str,nS,mm]
theorem OX:Tryz.prog.eqGuardType Tryz.prog.depth 142=false:=by kernel_rfl
theorem Zc:bM Tryz.prog 125:=⟨_,Tryz.func125,rfl,by kernel_rfl⟩
theorem Zj:bM Tryz.prog 124:=⟨_,Tryz.func124,rfl,by kernel_rfl⟩
theorem Zk:bM Tryz.prog 123:=⟨_,Tryz.func123,rfl,by kernel_rfl⟩
theorem P6:bM Tryz.prog 155:=⟨_,Tryz.func155,rfl,by kernel_rfl⟩
theorem Zl:bM Tryz.prog 126:=⟨_,Tryz.func126,rfl,by kernel_rfl⟩
theorem Zm:bM Tryz.prog 127:=⟨_,Tryz.func127,rfl,by kernel_rfl⟩
theorem FN:bM Tryz.prog 94:=⟨_,Tryz.func94,rfl,by kernel_rfl⟩
theorem P7:bM Tryz.prog 156:=⟨_,Tryz.func156,rfl,by kernel_rfl⟩
theorem Zn:bM Tryz.prog 128:=⟨_,Tryz.func128,rfl,by kernel_rfl⟩
theorem PM:bM Tryz.prog 158:=⟨_,Tryz.func158,rfl,by kernel_rfl⟩
theorem YU:bM Tryz.prog 157:=⟨_,Tryz.func157,rfl,by kernel_rfl⟩
theorem PS:bM Tryz.prog 160:=⟨_,Tryz.func160,rfl,by kernel_rfl⟩
theorem PT:bM Tryz.prog 159:=⟨_,Tryz.func159,rfl,by kernel_rfl⟩
theorem P8:bM Tryz.prog 129:=⟨_,Tryz.func129,rfl,by kernel_rfl⟩
theorem abg:bM Tryz.prog 61:=⟨_,Tryz.func61,rfl,by kernel_rfl⟩
theorem JV:bM Tryz.prog 17:=⟨_,Tryz.func17,rfl,by kernel_rfl⟩
theorem abz:bM Tryz.prog 18:=⟨_,Tryz.func18,rfl,by kernel_rfl⟩
theorem PN:cP Tryz.prog 233 (default:Vector (List Int) 6):=cP.of (by kernel_rfl)
theorem pJ:p3 Tryz.prog 233 6 1:=p3.of Tryz.underlying233 kU rfl
theorem WY:cB Tryz.prog 107 0 0:=cB.of Tryz.underlying107 rfl rfl bE rfl
theorem WZ:cB Tryz.prog 169 0 0:=cB.of Tryz.underlying169 rfl rfl bE rfl
theorem W0:cB Tryz.prog 180 0 0:=cB.of Tryz.underlying180 rfl rfl bE rfl
theorem TL:je Tryz.prog 233 [0,1,2,3,4,5]:=by unfold je; kernel_rfl
theorem I8:bF Tryz.prog 233 (Vector (List Int) 6):=bF.of (by rfl) Tryz.underlying233 (by kernel_rfl)
theorem YL:bM Tryz.prog 131:=⟨_,Tryz.func131,rfl,by kernel_rfl⟩
theorem YM:bM Tryz.prog 130:=⟨_,Tryz.func130,rfl,by kernel_rfl⟩
theorem aaX:bM Tryz.prog 95:=⟨_,Tryz.func95,rfl,by kernel_rfl⟩
theorem aaY:bM Tryz.prog 62:=⟨_,Tryz.func62,rfl,by kernel_rfl⟩
theorem abA:bM Tryz.prog 20:=⟨_,Tryz.func20,rfl,by kernel_rfl⟩
theorem abB:bM Tryz.prog 21:=⟨_,Tryz.func21,rfl,by kernel_rfl⟩
theorem W8:cB Tryz.prog 123 1 1:=cB.of Tryz.underlying123 rfl rfl bE rfl
theorem PO:bM Tryz.prog 145:=⟨_,Tryz.func145,rfl,by kernel_rfl⟩
theorem YR:bM Tryz.prog 219:=⟨_,Tryz.func219,rfl,by kernel_rfl⟩
theorem YY:bM Tryz.prog 213:=⟨_,Tryz.func213,rfl,by kernel_rfl⟩
theorem aco:cP Tryz.prog 1 (default:Raw):=cP.of (by kernel_rfl)
theorem Kk:bF Tryz.prog 1 Raw:=bF.of (by rfl) Tryz.underlying1 (by kernel_rfl)
theorem PZ:bM Tryz.prog 214:=⟨_,Tryz.func214,rfl,by kernel_rfl⟩
theorem Y2:bM Tryz.prog 207:=⟨_,Tryz.func207,rfl,by kernel_rfl⟩
theorem Zy:bM Tryz.prog 236:=⟨_,Tryz.func236,rfl,by kernel_rfl⟩
theorem P0:bM Tryz.prog 110:=⟨_,Tryz.func110,rfl,by kernel_rfl⟩
theorem IL:cB Tryz.prog 50 4 6:=cB.of Tryz.underlying50 rfl rfl bG rfl
theorem Y3:bM Tryz.prog 248:=⟨_,Tryz.func248,rfl,by kernel_rfl⟩
theorem Y4:bM Tryz.prog 247:=⟨_,Tryz.func247,rfl,by kernel_rfl⟩
theorem Zo:bM Tryz.prog 243:=⟨_,Tryz.func243,rfl,by kernel_rfl⟩
theorem Zz:bM Tryz.prog 242:=⟨_,Tryz.func242,rfl,by kernel_rfl⟩
theorem ZC:bM Tryz.prog 231:=⟨_,Tryz.func231,rfl,by kernel_rfl⟩
theorem aaL:bM Tryz.prog 193:=⟨_,Tryz.func193,rfl,by kernel_rfl⟩
theorem VF:iM Tryz.prog 127 "matchguard/index.lookup" 193:=iM.pZ (by kernel_rfl) Tryz.underlying127 rfl aaL
theorem aaM:bM Tryz.prog 201:=⟨_,Tryz.func201,rfl,by kernel_rfl⟩
theorem VG:iM Tryz.prog 130 "matchguard/index.lookup" 201:=iM.pZ (by kernel_rfl) Tryz.underlying130 rfl aaM
theorem aaN:bM Tryz.prog 226:=⟨_,Tryz.func226,rfl,by kernel_rfl⟩
theorem VH:iM Tryz.prog 134 "matchguard/index.lookup" 226:=iM.pZ (by kernel_rfl) Tryz.underlying134 rfl aaN
theorem Q8:bM Tryz.prog 59:=⟨_,Tryz.func59,rfl,by kernel_rfl⟩
theorem Ra:bM Tryz.prog 12:=⟨_,Tryz.func12,rfl,by kernel_rfl⟩
theorem abo:bM Tryz.prog 32:=⟨_,Tryz.func32,rfl,by kernel_rfl⟩
theorem YS:bM Tryz.prog 199:=⟨_,Tryz.func199,rfl,by kernel_rfl⟩
theorem ZA:cP Tryz.prog 309 (default:List Ref):=cP.of (by kernel_rfl)
theorem abd:cP Tryz.prog 41 (default:List Int):=cP.of (by kernel_rfl)
theorem uG:bF Tryz.prog 309 (List Ref):=bF.of (by rfl) Tryz.underlying309 (by kernel_rfl)
theorem W7:je Tryz.prog 309 [0]:=by unfold je; kernel_rfl
theorem XX:je Tryz.prog 41 [0]:=by unfold je; kernel_rfl
theorem YN:cP Tryz.prog 301 (default:Vector Ref 2):=cP.of (by kernel_rfl)
theorem XP:Tryz.prog.eqGuardType Tryz.prog.depth 301=false:=by kernel_rfl
theorem Qe:bM Tryz.prog 217:=⟨_,Tryz.func217,rfl,by kernel_rfl⟩
theorem ZD:bM Tryz.prog 210:=⟨_,Tryz.func210,rfl,by kernel_rfl⟩
structure dy where
 bS:an
 vK:Int
 b0:Int
 deriving DecidableEq,Inhabited
instance:aj dy:= .str (dJ an (dJ Int (iy Int))) (fun x=>(x.bS,x.vK,x.b0)) 4
def SR:aN dy an:= .str dS 0 dy.bS fun b g=>{ b with bS:=g }
def SM:aN dy Int:= .str (bO dS) 2 dy.vK fun b g=>{ b with vK:=g }
def Tq:aN dy Int:= .str (bO (bO iU)) 3 dy.b0 fun b g=>{ b with b0:=g }
instance:bk dy:=⟨bk.cells an++bk.cells Int++bk.cells Int,fun A W=>⟨by rfl,bk.ok (α:=an) A W,bk.ok (α:=Int) A W,bk.ok (α:=Int) A W⟩⟩
theorem YZ:cP Tryz.prog 310 (default:List dy):=cP.of (by kernel_rfl)
theorem Ja:bF Tryz.prog 310 (List dy):=bF.of (by rfl) Tryz.underlying310 (by kernel_rfl)
theorem Jb:cP Tryz.prog 315 (default:dy):=cP.of (by kernel_rfl)
theorem YP:h8 Tryz.prog 315 #[(0,2),(2,1),(3,1)]:=⟨_,Tryz.underlying315,by kernel_rfl,by kernel_rfl⟩
theorem PR:bF Tryz.prog 315 dy:=bF.of (by rfl) Tryz.underlying315 (by kernel_rfl)
theorem YQ:bM Tryz.prog 222:=⟨_,Tryz.func222,rfl,by kernel_rfl⟩
theorem Jc:bM Tryz.prog 223:=⟨_,Tryz.func223,rfl,by kernel_rfl⟩
theorem W4:je Tryz.prog 310 [0]:=by unfold je; kernel_rfl
theorem Y0:bM Tryz.prog 221:=⟨_,Tryz.func221,rfl,by kernel_rfl⟩
theorem Y5:bM Tryz.prog 218:=⟨_,Tryz.func218,rfl,by kernel_rfl⟩
theorem ZE:bM Tryz.prog 211:=⟨_,Tryz.func211,rfl,by kernel_rfl⟩
theorem YT:bM Tryz.prog 241:=⟨_,Tryz.func241,rfl,by kernel_rfl⟩
theorem Y1:bM Tryz.prog 233:=⟨_,Tryz.func233,rfl,by kernel_rfl⟩
theorem aaO:bM Tryz.prog 195:=⟨_,Tryz.func195,rfl,by kernel_rfl⟩
theorem VI:iM Tryz.prog 127 "matchguard/index.remove" 195:=iM.pZ (by kernel_rfl) Tryz.underlying127 rfl aaO
theorem aaP:bM Tryz.prog 203:=⟨_,Tryz.func203,rfl,by kernel_rfl⟩
theorem VJ:iM Tryz.prog 130 "matchguard/index.remove" 203:=iM.pZ (by kernel_rfl) Tryz.underlying130 rfl aaP
theorem aaQ:bM Tryz.prog 228:=⟨_,Tryz.func228,rfl,by kernel_rfl⟩
theorem VK:iM Tryz.prog 134 "matchguard/index.remove" 228:=iM.pZ (by kernel_rfl) Tryz.underlying134 rfl aaQ
theorem abC:bM Tryz.prog 11:=⟨_,Tryz.func11,rfl,by kernel_rfl⟩
theorem Fo:cP Tryz.prog 256 (default:Vector Bool 128):=cP.of (by kernel_rfl)
theorem By:p3 Tryz.prog 256 128 1:=p3.of Tryz.underlying256 gF rfl
theorem Bz:bF Tryz.prog 256 (Vector Bool 128):=bF.of (by rfl) Tryz.underlying256 (by kernel_rfl)
theorem PV:bM Tryz.prog 161:=⟨_,Tryz.func161,rfl,by kernel_rfl⟩
theorem FA:bM Tryz.prog 133:=⟨_,Tryz.func133,rfl,by kernel_rfl⟩
theorem yM:bM Tryz.prog 99:=⟨_,Tryz.func99,rfl,by kernel_rfl⟩
theorem Y6:bM Tryz.prog 132:=⟨_,Tryz.func132,rfl,by kernel_rfl⟩
theorem aa6:bM Tryz.prog 98:=⟨_,Tryz.func98,rfl,by kernel_rfl⟩
theorem Zf:bM Tryz.prog 100:=⟨_,Tryz.func100,rfl,by kernel_rfl⟩
theorem aa7:bM Tryz.prog 67:=⟨_,Tryz.func67,rfl,by kernel_rfl⟩
theorem abe:bM Tryz.prog 63:=⟨_,Tryz.func63,rfl,by kernel_rfl⟩
theorem O2:cB Tryz.prog 56 2 6:=cB.of Tryz.underlying56 rfl rfl bE rfl
theorem abF:bM Tryz.prog 22:=⟨_,Tryz.func22,rfl,by kernel_rfl⟩
theorem Rb:bM Tryz.prog 23:=⟨_,Tryz.func23,rfl,by kernel_rfl⟩
inductive Cell where
 | kC (x:List (Int×aJ))
 | ny (x:hn)
 | l7 (x:List ((Vector an 4)×Ref))
 | ot (x:List ((Vector an 4)×Int))
 | yJ (x:ns)
 | rQ (x:cL) (key:Option Nat) (cap:Nat)
 | gk (x:dM)
 | j4 (x:fK)
instance:fr Cell where
 iv p k:=match k with
  | .kC x=>[⟨some p,.map x⟩]
  | .ny x=>[⟨some p,.var x⟩]
  | .l7 x=>[⟨some p,.map x⟩]
  | .ot x=>[⟨some p,.map x⟩]
  | .yJ x=>[⟨some p,.var x⟩]
  | .rQ x key cap=>[⟨some p,.cj ({ x with ch:= [] } :cL) [(10,aS key (x.ch).length cap)]⟩,⟨key,.row 56 (x.ch:List aJ) cap⟩]
  | .gk x=>[⟨some p,.var x⟩]
  | .j4 x=>[⟨some p,.var x⟩]
 root p k:=by cases k <;> exact⟨_,List.mem_cons_self ..,rfl⟩
def m3 (hp:a1 Cell) (p:Nat):Option (List (Int×aJ)):=match pat hp p with
 | some (.kC x)=>some x
 | _=>none
theorem v3 {hp:a1 Cell} {p:Nat} {x:List (Int×aJ)} (h:m3 hp p=some x):pat hp p=some (.kC x):=by
 unfold m3 at h
 split at h
 ·rename_i ad; cases h; exact ad
 cases h
def iY (hp:a1 Cell) (p:Nat):Option (hn):=match pat hp p with
 | some (.ny x)=>some x
 | _=>none
theorem m0 {hp:a1 Cell} {p:Nat} {x:hn} (h:iY hp p=some x):pat hp p=some (.ny x):=by
 unfold iY at h
 split at h
 ·rename_i ad; cases h; exact ad
 cases h
def j3 (hp:a1 Cell) (p:Nat):Option (List ((Vector an 4)×Ref)):=match pat hp p with
 | some (.l7 x)=>some x
 | _=>none
theorem mw {hp:a1 Cell} {p:Nat} {x:List ((Vector an 4)×Ref)} (h:j3 hp p=some x):pat hp p=some (.l7 x):=by
 unfold j3 at h
 split at h
 ·rename_i ad; cases h; exact ad
 cases h
def l4 (hp:a1 Cell) (p:Nat):Option (List ((Vector an 4)×Int)):=match pat hp p with
 | some (.ot x)=>some x
 | _=>none
theorem rD {hp:a1 Cell} {p:Nat} {x:List ((Vector an 4)×Int)} (h:l4 hp p=some x):pat hp p=some (.ot x):=by
 unfold l4 at h
 split at h
 ·rename_i ad; cases h; exact ad
 cases h
def m2 (hp:a1 Cell) (p:Nat):Option (ns):=match pat hp p with
 | some (.yJ x)=>some x
 | _=>none
theorem ur {hp:a1 Cell} {p:Nat} {x:ns} (h:m2 hp p=some x):pat hp p=some (.yJ x):=by
 unfold m2 at h
 split at h
 ·rename_i ad; cases h; exact ad
 cases h
def oi (hp:a1 Cell) (p:Nat):Option (cL×Option Nat×Nat):=match pat hp p with
 | some (.rQ x key cap)=>some (x,key,cap)
 | _=>none
theorem uv {hp:a1 Cell} {p:Nat} {x:cL×Option Nat×Nat} (h:oi hp p=some x):pat hp p=some (.rQ x.1 x.2.1 x.2.2):=by
 unfold oi at h
 split at h
 ·rename_i ad; cases h; exact ad
 cases h
def cW (hp:a1 Cell) (p:Nat):Option (dM):=match pat hp p with
 | some (.gk x)=>some x
 | _=>none
theorem ju {hp:a1 Cell} {p:Nat} {x:dM} (h:cW hp p=some x):pat hp p=some (.gk x):=by
 unfold cW at h
 split at h
 ·rename_i ad; cases h; exact ad
 cases h
def fR (hp:a1 Cell) (p:Nat):Option (fK):=match pat hp p with
 | some (.j4 x)=>some x
 | _=>none
theorem mv {hp:a1 Cell} {p:Nat} {x:fK} (h:fR hp p=some x):pat hp p=some (.j4 x):=by
 unfold fR at h
 split at h
 ·rename_i ad; cases h; exact ad
 cases h
end Go.Proofs.YthkfkliknjiecaaGreat
