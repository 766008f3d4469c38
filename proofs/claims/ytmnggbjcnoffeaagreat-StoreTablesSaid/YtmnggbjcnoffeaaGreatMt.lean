/-
  The types of the data, and facts on their tables. Conditions: none.
-/
import Derived.Test.YtmnggbjcnoffeaaGreatRows
import Derived.Test.YtmnggbjcnoffeaaGreatMl2
set_option linter.unusedVariables false
set_option linter.unusedSimpArgs false
set_option maxRecDepth 100000
namespace Go.Proofs.YtmnggbjcnoffeaaGreat
open Go Gv
structure bf where
 c2:List (BitVec 8)
 rC:Int
 deriving DecidableEq,Inhabited
instance:ag bf:= .str (di (List (BitVec 8)) (hr Int)) (fun x=>(x.c2,x.rC)) 2
def CN:aQ bf (List (BitVec 8)):= .str du 0 bf.c2 fun b g=> { b with c2:=g }
def yG:aQ bf Int:= .str (bz hU) 1 bf.rC fun b g=> { b with rC:=g }
instance:bc bf:=⟨bc.cells (List (BitVec 8)) ++ bc.cells Int,fun A W=>⟨by rfl,bc.ok (α:=List (BitVec 8)) A W,bc.ok (α:=Int) A W⟩⟩
theorem II:bt Tryz.prog 5 (BitVec 8):=bt.of (by rfl) Tryz.underlying5 (by kernel_rfl)
theorem VE:cn Tryz.prog 117 (default:bf):=cn.of (by kernel_rfl)
theorem VD:g7 Tryz.prog 117 #[(0,1),(1,1)]:=⟨_,Tryz.underlying117,by kernel_rfl,by kernel_rfl⟩
theorem Io:bM Tryz.prog 15:=⟨_,Tryz.func15,rfl,by kernel_rfl⟩
structure fh where
 bP:Int
 cc:ByteArray
 ff:Int
 deriving DecidableEq,Inhabited
instance:ag fh:= .str (di Int (di ByteArray (hr Int))) (fun x=>(x.bP,x.cc,x.ff)) 3
def o2:aQ fh Int:= .str du 0 fh.bP fun b g=> { b with bP:=g }
def qN:aQ fh ByteArray:= .str (bz du) 1 fh.cc fun b g=> { b with cc:=g }
def o0:aQ fh Int:= .str (bz (bz hU)) 2 fh.ff fun b g=> { b with ff:=g }
instance:bc fh:=⟨bc.cells Int ++ bc.cells ByteArray ++ bc.cells Int,fun A W=>⟨by rfl,bc.ok (α:=Int) A W,bc.ok (α:=ByteArray) A W,bc.ok (α:=Int) A W⟩⟩
structure jk where
 bP:Int
 cc:ByteArray
 gH:List Int
 deriving DecidableEq,Inhabited
instance:ag jk:= .str (di Int (di ByteArray (hr (List Int)))) (fun x=>(x.bP,x.cc,x.gH)) 3
def FY:aQ jk Int:= .str du 0 jk.bP fun b g=> { b with bP:=g }
def FP:aQ jk ByteArray:= .str (bz du) 1 jk.cc fun b g=> { b with cc:=g }
def FH:aQ jk (List Int):= .str (bz (bz hU)) 2 jk.gH fun b g=> { b with gH:=g }
instance:bc jk:=⟨bc.cells Int ++ bc.cells ByteArray ++ bc.cells (List Int),fun A W=>⟨by rfl,bc.ok (α:=Int) A W,bc.ok (α:=ByteArray) A W,bc.ok (α:=List Int) A W⟩⟩
structure aA where
 de:BitVec 64
 b2:BitVec 64
 deriving DecidableEq,Inhabited
instance:ag aA:= .str (di (BitVec 64) (hr (BitVec 64))) (fun x=>(x.de,x.b2)) 2
def ia:aQ aA (BitVec 64):= .str du 0 aA.de fun b g=> { b with de:=g }
def eM:aQ aA (BitVec 64):= .str (bz hU) 1 aA.b2 fun b g=> { b with b2:=g }
instance:bc aA:=⟨bc.cells (BitVec 64) ++ bc.cells (BitVec 64),fun A W=>⟨by rfl,bc.ok (α:=BitVec 64) A W,bc.ok (α:=BitVec 64) A W⟩⟩
structure gm where
 c6:aA
 gU:aA
 o9:Int
 deriving DecidableEq,Inhabited
instance:ag gm:= .str (di aA (di aA (hr Int))) (fun x=>(x.c6,x.gU,x.o9)) 5
def CK:aQ gm aA:= .str du 0 gm.c6 fun b g=> { b with c6:=g }
def CP:aQ gm aA:= .str (bz du) 2 gm.gU fun b g=> { b with gU:=g }
def CQ:aQ gm Int:= .str (bz (bz hU)) 4 gm.o9 fun b g=> { b with o9:=g }
instance:bc gm:=⟨bc.cells aA ++ bc.cells aA ++ bc.cells Int,fun A W=>⟨by rfl,bc.ok (α:=aA) A W,bc.ok (α:=aA) A W,bc.ok (α:=Int) A W⟩⟩
structure dy where
 bP:Int
 hL:Int
 mY:Int
 ov:List gm
 gS:Int
 deriving DecidableEq,Inhabited
instance:ag dy:= .str (di Int (di Int (di Int (di (List gm) (hr Int))))) (fun x=>(x.bP,x.hL,x.mY,x.ov,x.gS)) 5
def F2:aQ dy Int:= .str du 0 dy.bP fun b g=> { b with bP:=g }
def FK:aQ dy Int:= .str (bz du) 1 dy.hL fun b g=> { b with hL:=g }
def J8:aQ dy Int:= .str (bz (bz du)) 2 dy.mY fun b g=> { b with mY:=g }
def CA:aQ dy (List gm):= .str (bz (bz (bz du))) 3 dy.ov fun b g=> { b with ov:=g }
def FG:aQ dy Int:= .str (bz (bz (bz (bz hU)))) 4 dy.gS fun b g=> { b with gS:=g }
instance:bc dy:=⟨bc.cells Int ++ bc.cells Int ++ bc.cells Int ++ bc.cells (List gm) ++ bc.cells Int,fun A W=>⟨by rfl,bc.ok (α:=Int) A W,bc.ok (α:=Int) A W,bc.ok (α:=Int) A W,bc.ok (α:=List gm) A W,bc.ok (α:=Int) A W⟩⟩
structure ic where
 cc:ByteArray
 ff:Int
 deriving DecidableEq,Inhabited
instance:ag ic:= .str (di ByteArray (hr Int)) (fun x=>(x.cc,x.ff)) 2
def CL:aQ ic ByteArray:= .str du 0 ic.cc fun b g=> { b with cc:=g }
def yJ:aQ ic Int:= .str (bz hU) 1 ic.ff fun b g=> { b with ff:=g }
instance:bc ic:=⟨bc.cells ByteArray ++ bc.cells Int,fun A W=>⟨by rfl,bc.ok (α:=ByteArray) A W,bc.ok (α:=Int) A W⟩⟩
structure fr where
 dp:Int
 vr:Int
 c6:aA
 deriving DecidableEq,Inhabited
instance:ag fr:= .str (di Int (di Int (hr aA))) (fun x=>(x.dp,x.vr,x.c6)) 4
def Cy:aQ fr Int:= .str du 0 fr.dp fun b g=> { b with dp:=g }
def Ke:aQ fr Int:= .str (bz du) 1 fr.vr fun b g=> { b with vr:=g }
def Qq:aQ fr aA:= .str (bz (bz hU)) 2 fr.c6 fun b g=> { b with c6:=g }
instance:bc fr:=⟨bc.cells Int ++ bc.cells Int ++ bc.cells aA,fun A W=>⟨by rfl,bc.ok (α:=Int) A W,bc.ok (α:=Int) A W,bc.ok (α:=aA) A W⟩⟩
structure eR where
 hP:Int
 jo:Int
 kn:fr
 deriving DecidableEq,Inhabited
instance:ag eR:= .str (di Int (di Int (hr fr))) (fun x=>(x.hP,x.jo,x.kn)) 6
def qQ:aQ eR Int:= .str du 0 eR.hP fun b g=> { b with hP:=g }
def tL:aQ eR Int:= .str (bz du) 1 eR.jo fun b g=> { b with jo:=g }
def wo:aQ eR fr:= .str (bz (bz hU)) 2 eR.kn fun b g=> { b with kn:=g }
instance:bc eR:=⟨bc.cells Int ++ bc.cells Int ++ bc.cells fr,fun A W=>⟨by rfl,bc.ok (α:=Int) A W,bc.ok (α:=Int) A W,bc.ok (α:=fr) A W⟩⟩
structure dO where
 bP:Int
 cc:ByteArray
 jX:List ic
 nM:List eR
 p1:ByteArray
 deriving DecidableEq,Inhabited
instance:ag dO:= .str (di Int (di ByteArray (di (List ic) (di (List eR) (hr ByteArray))))) (fun x=>(x.bP,x.cc,x.jX,x.nM,x.p1)) 5
def tK:aQ dO Int:= .str du 0 dO.bP fun b g=> { b with bP:=g }
def wb:aQ dO ByteArray:= .str (bz du) 1 dO.cc fun b g=> { b with cc:=g }
def Ct:aQ dO (List ic):= .str (bz (bz du)) 2 dO.jX fun b g=> { b with jX:=g }
def yA:aQ dO (List eR):= .str (bz (bz (bz du))) 3 dO.nM fun b g=> { b with nM:=g }
def J5:aQ dO ByteArray:= .str (bz (bz (bz (bz hU)))) 4 dO.p1 fun b g=> { b with p1:=g }
instance:bc dO:=⟨bc.cells Int ++ bc.cells ByteArray ++ bc.cells (List ic) ++ bc.cells (List eR) ++ bc.cells ByteArray,fun A W=>⟨by rfl,bc.ok (α:=Int) A W,bc.ok (α:=ByteArray) A W,bc.ok (α:=List ic) A W,bc.ok (α:=List eR) A W,bc.ok (α:=ByteArray) A W⟩⟩
structure cM where
 cc:ByteArray
 gC:Int
 dp:Int
 deriving DecidableEq,Inhabited
instance:ag cM:= .str (di ByteArray (di Int (hr Int))) (fun x=>(x.cc,x.gC,x.dp)) 3
def qP:aQ cM ByteArray:= .str du 0 cM.cc fun b g=> { b with cc:=g }
def o1:aQ cM Int:= .str (bz du) 1 cM.gC fun b g=> { b with gC:=g }
def mX:aQ cM Int:= .str (bz (bz hU)) 2 cM.dp fun b g=> { b with dp:=g }
instance:bc cM:=⟨bc.cells ByteArray ++ bc.cells Int ++ bc.cells Int,fun A W=>⟨by rfl,bc.ok (α:=ByteArray) A W,bc.ok (α:=Int) A W,bc.ok (α:=Int) A W⟩⟩
structure bQ where
 bP:Int
 cc:ByteArray
 cO:List cM
 dP:List Int
 gS:Int
 tP:List aA
 gD:Int
 p1:ByteArray
 deriving DecidableEq,Inhabited
instance:ag bQ:= .str (di Int (di ByteArray (di (List cM) (di (List Int) (di Int (di (List aA) (di Int (hr ByteArray)))))))) (fun x=>(x.bP,x.cc,x.cO,x.dP,x.gS,x.tP,x.gD,x.p1)) 8
def nF:aQ bQ Int:= .str du 0 bQ.bP fun b g=> { b with bP:=g }
def CM:aQ bQ ByteArray:= .str (bz du) 1 bQ.cc fun b g=> { b with cc:=g }
def kC:aQ bQ (List cM):= .str (bz (bz du)) 2 bQ.cO fun b g=> { b with cO:=g }
def v9:aQ bQ (List Int):= .str (bz (bz (bz du))) 3 bQ.dP fun b g=> { b with dP:=g }
def Cv:aQ bQ Int:= .str (bz (bz (bz (bz du)))) 4 bQ.gS fun b g=> { b with gS:=g }
def P9:aQ bQ (List aA):= .str (bz (bz (bz (bz (bz du))))) 5 bQ.tP fun b g=> { b with tP:=g }
def yK:aQ bQ Int:= .str (bz (bz (bz (bz (bz (bz du)))))) 6 bQ.gD fun b g=> { b with gD:=g }
def Qa:aQ bQ ByteArray:= .str (bz (bz (bz (bz (bz (bz (bz hU))))))) 7 bQ.p1 fun b g=> { b with p1:=g }
instance:bc bQ:=⟨bc.cells Int ++ bc.cells ByteArray ++ bc.cells (List cM) ++ bc.cells (List Int) ++ bc.cells Int ++ bc.cells (List aA) ++ bc.cells Int ++ bc.cells ByteArray,fun A W=>⟨by rfl,bc.ok (α:=Int) A W,bc.ok (α:=ByteArray) A W,bc.ok (α:=List cM) A W,bc.ok (α:=List Int) A W,bc.ok (α:=Int) A W,bc.ok (α:=List aA) A W,bc.ok (α:=Int) A W,bc.ok (α:=ByteArray) A W⟩⟩
structure ft where
 bo:Int
 hL:Int
 deriving DecidableEq,Inhabited
instance:ag ft:= .str (di Int (hr Int)) (fun x=>(x.bo,x.hL)) 2
def yC:aQ ft Int:= .str du 0 ft.bo fun b g=> { b with bo:=g }
def FM:aQ ft Int:= .str (bz hU) 1 ft.hL fun b g=> { b with hL:=g }
instance:bc ft:=⟨bc.cells Int ++ bc.cells Int,fun A W=>⟨by rfl,bc.ok (α:=Int) A W,bc.ok (α:=Int) A W⟩⟩
structure dn where
 bo:Int
 rb:Bool
 qZ:Bool
 cO:List Bool
 deriving DecidableEq,Inhabited
instance:ag dn:= .str (di Int (di Bool (di Bool (hr (List Bool))))) (fun x=>(x.bo,x.rb,x.qZ,x.cO)) 4
def FN:aQ dn Int:= .str du 0 dn.bo fun b g=> { b with bo:=g }
def FU:aQ dn Bool:= .str (bz du) 1 dn.rb fun b g=> { b with rb:=g }
def FO:aQ dn Bool:= .str (bz (bz du)) 2 dn.qZ fun b g=> { b with qZ:=g }
def FV:aQ dn (List Bool):= .str (bz (bz (bz hU))) 3 dn.cO fun b g=> { b with cO:=g }
instance:bc dn:=⟨bc.cells Int ++ bc.cells Bool ++ bc.cells Bool ++ bc.cells (List Bool),fun A W=>⟨by rfl,bc.ok (α:=Int) A W,bc.ok (α:=Bool) A W,bc.ok (α:=Bool) A W,bc.ok (α:=List Bool) A W⟩⟩
structure cC where
 bP:Int
 cc:ByteArray
 iT:List dn
 dP:List Int
 qY:Int
 zG:Bool
 deriving DecidableEq,Inhabited
instance:ag cC:= .str (di Int (di ByteArray (di (List dn) (di (List Int) (di Int (hr Bool)))))) (fun x=>(x.bP,x.cc,x.iT,x.dP,x.qY,x.zG)) 6
def F3:aQ cC Int:= .str du 0 cC.bP fun b g=> { b with bP:=g }
def FX:aQ cC ByteArray:= .str (bz du) 1 cC.cc fun b g=> { b with cc:=g }
def wc:aQ cC (List dn):= .str (bz (bz du)) 2 cC.iT fun b g=> { b with iT:=g }
def FL:aQ cC (List Int):= .str (bz (bz (bz du))) 3 cC.dP fun b g=> { b with dP:=g }
def FT:aQ cC Int:= .str (bz (bz (bz (bz du)))) 4 cC.qY fun b g=> { b with qY:=g }
def QW:aQ cC Bool:= .str (bz (bz (bz (bz (bz hU))))) 5 cC.zG fun b g=> { b with zG:=g }
instance:bc cC:=⟨bc.cells Int ++ bc.cells ByteArray ++ bc.cells (List dn) ++ bc.cells (List Int) ++ bc.cells Int ++ bc.cells Bool,fun A W=>⟨by rfl,bc.ok (α:=Int) A W,bc.ok (α:=ByteArray) A W,bc.ok (α:=List dn) A W,bc.ok (α:=List Int) A W,bc.ok (α:=Int) A W,bc.ok (α:=Bool) A W⟩⟩
structure eS where
 bo:Int
 uQ:Int
 jm:Int
 UR:Int
 o4:Int
 US:Int
 deriving DecidableEq,Inhabited
instance:ag eS:= .str (di Int (di Int (di Int (di Int (di Int (hr Int)))))) (fun x=>(x.bo,x.uQ,x.jm,x.UR,x.o4,x.US)) 6
def CR:aQ eS Int:= .str du 0 eS.bo fun b g=> { b with bo:=g }
def Kj:aQ eS Int:= .str (bz du) 1 eS.uQ fun b g=> { b with uQ:=g }
def Kd:aQ eS Int:= .str (bz (bz du)) 2 eS.jm fun b g=> { b with jm:=g }
def CC:aQ eS Int:= .str (bz (bz (bz (bz du)))) 4 eS.o4 fun b g=> { b with o4:=g }
instance:bc eS:=⟨bc.cells Int ++ bc.cells Int ++ bc.cells Int ++ bc.cells Int ++ bc.cells Int ++ bc.cells Int,fun A W=>⟨by rfl,bc.ok (α:=Int) A W,bc.ok (α:=Int) A W,bc.ok (α:=Int) A W,bc.ok (α:=Int) A W,bc.ok (α:=Int) A W,bc.ok (α:=Int) A W⟩⟩
structure a1 where
 gH:List fh
 sv:List jk
 ue:List dy
 dP:List dO
 b1:List bQ
 mZ:List ft
 nI:List cC
 nN:List eS
 zk:Int
 zx:Int
 deriving DecidableEq,Inhabited
instance:ag a1:= .str (di (List fh) (di (List jk) (di (List dy) (di (List dO) (di (List bQ) (di (List ft) (di (List cC) (di (List eS) (di Int (hr Int)))))))))) (fun x=>(x.gH,x.sv,x.ue,x.dP,x.b1,x.mZ,x.nI,x.nN,x.zk,x.zx)) 10
def Cs:aQ a1 (List fh):= .str du 0 a1.gH fun b g=> { b with gH:=g }
def Ql:aQ a1 (List jk):= .str (bz du) 1 a1.sv fun b g=> { b with sv:=g }
def Qs:aQ a1 (List dy):= .str (bz (bz du)) 2 a1.ue fun b g=> { b with ue:=g }
def J6:aQ a1 (List dO):= .str (bz (bz (bz du))) 3 a1.dP fun b g=> { b with dP:=g }
def oY:aQ a1 (List bQ):= .str (bz (bz (bz (bz du)))) 4 a1.b1 fun b g=> { b with b1:=g }
def FI:aQ a1 (List ft):= .str (bz (bz (bz (bz (bz du))))) 5 a1.mZ fun b g=> { b with mZ:=g }
def QC:aQ a1 (List cC):= .str (bz (bz (bz (bz (bz (bz du)))))) 6 a1.nI fun b g=> { b with nI:=g }
def CB:aQ a1 (List eS):= .str (bz (bz (bz (bz (bz (bz (bz du))))))) 7 a1.nN fun b g=> { b with nN:=g }
def Qi:aQ a1 Int:= .str (bz (bz (bz (bz (bz (bz (bz (bz du)))))))) 8 a1.zk fun b g=> { b with zk:=g }
def Qr:aQ a1 Int:= .str (bz (bz (bz (bz (bz (bz (bz (bz (bz hU))))))))) 9 a1.zx fun b g=> { b with zx:=g }
instance:bc a1:=⟨bc.cells (List fh) ++ bc.cells (List jk) ++ bc.cells (List dy) ++ bc.cells (List dO) ++ bc.cells (List bQ) ++ bc.cells (List ft) ++ bc.cells (List cC) ++ bc.cells (List eS) ++ bc.cells Int ++ bc.cells Int,fun A W=>⟨by rfl,bc.ok (α:=List fh) A W,bc.ok (α:=List jk) A W,bc.ok (α:=List dy) A W,bc.ok (α:=List dO) A W,bc.ok (α:=List bQ) A W,bc.ok (α:=List ft) A W,bc.ok (α:=List cC) A W,bc.ok (α:=List eS) A W,bc.ok (α:=Int) A W,bc.ok (α:=Int) A W⟩⟩
theorem Eo:cn Tryz.prog 33 (default:a1):=cn.of (by kernel_rfl)
theorem bK:bt Tryz.prog 3 Int:=bt.of (by rfl) Tryz.underlying3 (by kernel_rfl)
theorem zF:cj Tryz.prog 117 1 1:=cj.of Tryz.underlying117 rfl rfl bK rfl
theorem El:bt Tryz.prog 22 (List (BitVec 8)):=bt.of (by rfl) Tryz.underlying22 (by kernel_rfl)
theorem GV:cj Tryz.prog 117 0 0:=cj.of Tryz.underlying117 rfl rfl El rfl
theorem mixed:Tryz.prog.follows .mixedOrders=true:=by kernel_rfl
theorem Ob:bM Tryz.prog 26:=⟨_,Tryz.func26,rfl,by kernel_rfl⟩
theorem gh:bM Tryz.prog 32:=⟨_,Tryz.func32,rfl,by kernel_rfl⟩
theorem Yd:g7 Tryz.prog 33 #[(0,1),(1,1),(2,1),(3,1),(4,1),(5,1),(6,1),(7,1),(8,1),(9,1)]:=⟨_,Tryz.underlying33,by kernel_rfl,by kernel_rfl⟩
theorem iv:bt Tryz.prog 33 a1:=bt.of (by rfl) Tryz.underlying33 (by kernel_rfl)
theorem pa:cn Tryz.prog 119 (default:fh):=cn.of (by kernel_rfl)
theorem rm:g7 Tryz.prog 119 #[(0,1),(1,1),(2,1)]:=⟨_,Tryz.underlying119,by kernel_rfl,by kernel_rfl⟩
theorem uI:bt Tryz.prog 119 fh:=bt.of (by rfl) Tryz.underlying119 (by kernel_rfl)
theorem AI:bt Tryz.prog 24 (List fh):=bt.of (by rfl) Tryz.underlying24 (by kernel_rfl)
theorem DF:cj Tryz.prog 33 0 0:=cj.of Tryz.underlying33 rfl rfl AI rfl
theorem j7:cn Tryz.prog 3 (default:Int):=cn.of (by kernel_rfl)
theorem D3:cn Tryz.prog 121 (default:jk):=cn.of (by kernel_rfl)
theorem HJ:g7 Tryz.prog 121 #[(0,1),(1,1),(2,1)]:=⟨_,Tryz.underlying121,by kernel_rfl,by kernel_rfl⟩
theorem Wa:bt Tryz.prog 121 jk:=bt.of (by rfl) Tryz.underlying121 (by kernel_rfl)
theorem Oj:bt Tryz.prog 25 (List jk):=bt.of (by rfl) Tryz.underlying25 (by kernel_rfl)
theorem UX:cj Tryz.prog 33 1 1:=cj.of Tryz.underlying33 rfl rfl Oj rfl
theorem uL:cn Tryz.prog 193 (default:dy):=cn.of (by kernel_rfl)
theorem HF:g7 Tryz.prog 193 #[(0,1),(1,1),(2,1),(3,1),(4,1)]:=⟨_,Tryz.underlying193,by kernel_rfl,by kernel_rfl⟩
theorem uM:bt Tryz.prog 193 dy:=bt.of (by rfl) Tryz.underlying193 (by kernel_rfl)
theorem eA:cn Tryz.prog 43 (default:aA):=cn.of (by kernel_rfl)
theorem hh:g7 Tryz.prog 43 #[(0,1),(1,1)]:=⟨_,Tryz.underlying43,by kernel_rfl,by kernel_rfl⟩
theorem sR:cn Tryz.prog 195 (default:gm):=cn.of (by kernel_rfl)
theorem DY:g7 Tryz.prog 195 #[(0,2),(2,2),(4,1)]:=⟨_,Tryz.underlying195,by kernel_rfl,by kernel_rfl⟩
theorem DZ:bt Tryz.prog 195 gm:=bt.of (by rfl) Tryz.underlying195 (by kernel_rfl)
theorem Ag:bt Tryz.prog 191 (List gm):=bt.of (by rfl) Tryz.underlying191 (by kernel_rfl)
theorem Dr:cj Tryz.prog 193 3 3:=cj.of Tryz.underlying193 rfl rfl Ag rfl
theorem ng:bM Tryz.prog 55:=⟨_,Tryz.func55,rfl,by kernel_rfl⟩
theorem L8:jd Tryz.prog 193 [3]:=by unfold jd; kernel_rfl
theorem Ye:bM Tryz.prog 68:=⟨_,Tryz.func68,rfl,by kernel_rfl⟩
theorem Ah:cn Tryz.prog 197 (default:fr):=cn.of (by kernel_rfl)
theorem D0:g7 Tryz.prog 197 #[(0,1),(1,1),(2,2)]:=⟨_,Tryz.underlying197,by kernel_rfl,by kernel_rfl⟩
theorem D1:bt Tryz.prog 197 fr:=bt.of (by rfl) Tryz.underlying197 (by kernel_rfl)
theorem qd:cn Tryz.prog 148 (default:dO):=cn.of (by kernel_rfl)
theorem uJ:g7 Tryz.prog 148 #[(0,1),(1,1),(2,1),(3,1),(4,1)]:=⟨_,Tryz.underlying148,by kernel_rfl,by kernel_rfl⟩
theorem m8:cn Tryz.prog 199 (default:eR):=cn.of (by kernel_rfl)
theorem rk:g7 Tryz.prog 199 #[(0,1),(1,1),(2,4)]:=⟨_,Tryz.underlying199,by kernel_rfl,by kernel_rfl⟩
theorem Ai:bt Tryz.prog 199 eR:=bt.of (by rfl) Tryz.underlying199 (by kernel_rfl)
theorem sQ:cn Tryz.prog 151 (default:ic):=cn.of (by kernel_rfl)
theorem D2:g7 Tryz.prog 151 #[(0,1),(1,1)]:=⟨_,Tryz.underlying151,by kernel_rfl,by kernel_rfl⟩
theorem xf:bt Tryz.prog 151 ic:=bt.of (by rfl) Tryz.underlying151 (by kernel_rfl)
theorem pb:bt Tryz.prog 148 dO:=bt.of (by rfl) Tryz.underlying148 (by kernel_rfl)
theorem pA:bt Tryz.prog 9 ByteArray:=bt.of (by rfl) Tryz.underlying9 (by kernel_rfl)
theorem L9:cj Tryz.prog 148 4 4:=cj.of Tryz.underlying148 rfl rfl pA rfl
theorem Yf:bM Tryz.prog 69:=⟨_,Tryz.func69,rfl,by kernel_rfl⟩
theorem j2:cn Tryz.prog 86 (default:cM):=cn.of (by kernel_rfl)
theorem rB:g7 Tryz.prog 86 #[(0,1),(1,1),(2,1)]:=⟨_,Tryz.underlying86,by kernel_rfl,by kernel_rfl⟩
theorem ko:bt Tryz.prog 86 cM:=bt.of (by rfl) Tryz.underlying86 (by kernel_rfl)
theorem l8:cn Tryz.prog 65 (default:bQ):=cn.of (by kernel_rfl)
theorem AR:g7 Tryz.prog 65 #[(0,1),(1,1),(2,1),(3,1),(4,1),(5,1),(6,1),(7,1)]:=⟨_,Tryz.underlying65,by kernel_rfl,by kernel_rfl⟩
theorem gJ:bt Tryz.prog 65 bQ:=bt.of (by rfl) Tryz.underlying65 (by kernel_rfl)
theorem l6:bt Tryz.prog 62 (List cM):=bt.of (by rfl) Tryz.underlying62 (by kernel_rfl)
theorem mv:cj Tryz.prog 65 2 2:=cj.of Tryz.underlying65 rfl rfl l6 rfl
theorem Hp:jd Tryz.prog 65 [2]:=by unfold jd; kernel_rfl
theorem Ho:jd Tryz.prog 65 []:=by unfold jd; kernel_rfl
theorem b8:bt Tryz.prog 43 aA:=bt.of (by rfl) Tryz.underlying43 (by kernel_rfl)
theorem EN:cn Tryz.prog 9 (default:ByteArray):=cn.of (by kernel_rfl)
theorem HG:bt Tryz.prog 200 (List ByteArray):=bt.of (by rfl) Tryz.underlying200 (by kernel_rfl)
theorem V9:cn Tryz.prog 200 (default:List ByteArray):=cn.of (by kernel_rfl)
theorem UW:cj Tryz.prog 65 7 7:=cj.of Tryz.underlying65 rfl rfl pA rfl
theorem Yg:bM Tryz.prog 70:=⟨_,Tryz.func70,rfl,by kernel_rfl⟩
theorem Ok:bt Tryz.prog 26 (List dy):=bt.of (by rfl) Tryz.underlying26 (by kernel_rfl)
theorem UY:cj Tryz.prog 33 2 2:=cj.of Tryz.underlying33 rfl rfl Ok rfl
theorem Ib:bt Tryz.prog 27 (List dO):=bt.of (by rfl) Tryz.underlying27 (by kernel_rfl)
theorem MB:cj Tryz.prog 33 3 3:=cj.of Tryz.underlying33 rfl rfl Ib rfl
theorem oE:bt Tryz.prog 28 (List bQ):=bt.of (by rfl) Tryz.underlying28 (by kernel_rfl)
theorem o7:cj Tryz.prog 33 4 4:=cj.of Tryz.underlying33 rfl rfl oE rfl
theorem uN:cn Tryz.prog 204 (default:cC):=cn.of (by kernel_rfl)
theorem HH:g7 Tryz.prog 204 #[(0,1),(1,1),(2,1),(3,1),(4,1),(5,1)]:=⟨_,Tryz.underlying204,by kernel_rfl,by kernel_rfl⟩
theorem uO:bt Tryz.prog 204 cC:=bt.of (by rfl) Tryz.underlying204 (by kernel_rfl)
theorem hE:bt Tryz.prog 4 Bool:=bt.of (by rfl) Tryz.underlying4 (by kernel_rfl)
theorem OW:cn Tryz.prog 4 (default:Bool):=cn.of (by kernel_rfl)
theorem uP:bt Tryz.prog 202 (List dn):=bt.of (by rfl) Tryz.underlying202 (by kernel_rfl)
theorem wX:cj Tryz.prog 204 2 2:=cj.of Tryz.underlying204 rfl rfl uP rfl
theorem q4:cj Tryz.prog 65 0 0:=cj.of Tryz.underlying65 rfl rfl bK rfl
theorem rl:cn Tryz.prog 207 (default:dn):=cn.of (by kernel_rfl)
theorem HI:g7 Tryz.prog 207 #[(0,1),(1,1),(2,1),(3,1)]:=⟨_,Tryz.underlying207,by kernel_rfl,by kernel_rfl⟩
theorem xh:bt Tryz.prog 207 dn:=bt.of (by rfl) Tryz.underlying207 (by kernel_rfl)
theorem wW:jd Tryz.prog 204 [2]:=by unfold jd; kernel_rfl
theorem Yh:bM Tryz.prog 71:=⟨_,Tryz.func71,rfl,by kernel_rfl⟩
theorem Ol:bt Tryz.prog 30 (List cC):=bt.of (by rfl) Tryz.underlying30 (by kernel_rfl)
theorem UZ:cj Tryz.prog 33 6 6:=cj.of Tryz.underlying33 rfl rfl Ol rfl
theorem sS:cn Tryz.prog 127 (default:ft):=cn.of (by kernel_rfl)
theorem Aj:g7 Tryz.prog 127 #[(0,1),(1,1)]:=⟨_,Tryz.underlying127,by kernel_rfl,by kernel_rfl⟩
theorem HK:bt Tryz.prog 127 ft:=bt.of (by rfl) Tryz.underlying127 (by kernel_rfl)
theorem Ep:bt Tryz.prog 29 (List ft):=bt.of (by rfl) Tryz.underlying29 (by kernel_rfl)
theorem Hq:cj Tryz.prog 33 5 5:=cj.of Tryz.underlying33 rfl rfl Ep rfl
theorem vd:bt Tryz.prog 31 (List eS):=bt.of (by rfl) Tryz.underlying31 (by kernel_rfl)
theorem w7:cj Tryz.prog 33 7 7:=cj.of Tryz.underlying33 rfl rfl vd rfl
theorem qf:cn Tryz.prog 129 (default:eS):=cn.of (by kernel_rfl)
theorem D5:g7 Tryz.prog 129 #[(0,1),(1,1),(2,1),(3,1),(4,1),(5,1)]:=⟨_,Tryz.underlying129,by kernel_rfl,by kernel_rfl⟩
theorem xi:bt Tryz.prog 129 eS:=bt.of (by rfl) Tryz.underlying129 (by kernel_rfl)
theorem Lv:jd Tryz.prog 33 [5,7]:=by unfold jd; kernel_rfl
theorem Ot:bM Tryz.prog 16:=⟨_,Tryz.func16,rfl,by kernel_rfl⟩
structure ib where
 gB:a1
 ot:e2
 lx:Int
 deriving DecidableEq,Inhabited
instance:ag ib:= .str (di a1 (di e2 (hr Int))) (fun x=>(x.gB,x.ot,x.lx)) 12
def Cr:aQ ib a1:= .str du 0 ib.gB fun b g=> { b with gB:=g }
def Cq:aQ ib e2:= .str (bz du) 10 ib.ot fun b g=> { b with ot:=g }
def Cx:aQ ib Int:= .str (bz (bz hU)) 11 ib.lx fun b g=> { b with lx:=g }
instance:bc ib:=⟨bc.cells a1 ++ bc.cells e2 ++ bc.cells Int,fun A W=>⟨by rfl,bc.ok (α:=a1) A W,bc.ok (α:=e2) A W,bc.ok (α:=Int) A W⟩⟩
theorem V1:cn Tryz.prog 143 (default:ib):=cn.of (by kernel_rfl)
theorem V0:g7 Tryz.prog 143 #[(0,10),(10,1),(11,1)]:=⟨_,Tryz.underlying143,by kernel_rfl,by kernel_rfl⟩
theorem GY:cj Tryz.prog 143 0 0:=cj.of Tryz.underlying143 rfl rfl iv rfl
theorem VJ:bM Tryz.prog 119:=⟨_,Tryz.func119,rfl,by kernel_rfl⟩
theorem VK:bM Tryz.prog 118:=⟨_,Tryz.func118,rfl,by kernel_rfl⟩
theorem Ic:bM Tryz.prog 82:=⟨_,Tryz.func82,rfl,by kernel_rfl⟩
theorem zN:cj Tryz.prog 86 2 2:=cj.of Tryz.underlying86 rfl rfl bK rfl
theorem XZ:bM Tryz.prog 83:=⟨_,Tryz.func83,rfl,by kernel_rfl⟩
structure bR where
 fO:Bool
 c6:aA
 gU:aA
 fU:Int
 k4:aA
 deriving DecidableEq,Inhabited
instance:ag bR:= .str (di Bool (di aA (di aA (di Int (hr aA))))) (fun x=>(x.fO,x.c6,x.gU,x.fU,x.k4)) 8
def nC:aQ bR Bool:= .str du 0 bR.fO fun b g=> { b with fO:=g }
def nD:aQ bR aA:= .str (bz du) 1 bR.c6 fun b g=> { b with c6:=g }
def qM:aQ bR aA:= .str (bz (bz du)) 3 bR.gU fun b g=> { b with gU:=g }
def oZ:aQ bR Int:= .str (bz (bz (bz du))) 5 bR.fU fun b g=> { b with fU:=g }
def tJ:aQ bR aA:= .str (bz (bz (bz (bz hU)))) 6 bR.k4 fun b g=> { b with k4:=g }
instance:bc bR:=⟨bc.cells Bool ++ bc.cells aA ++ bc.cells aA ++ bc.cells Int ++ bc.cells aA,fun A W=>⟨by rfl,bc.ok (α:=Bool) A W,bc.ok (α:=aA) A W,bc.ok (α:=aA) A W,bc.ok (α:=Int) A W,bc.ok (α:=aA) A W⟩⟩
structure bh where
 bo:Int
 cZ:List bR
 g8:Int
 jm:Int
 h0:List aA
 deriving DecidableEq,Inhabited
instance:ag bh:= .str (di Int (di (List bR) (di Int (di Int (hr (List aA)))))) (fun x=>(x.bo,x.cZ,x.g8,x.jm,x.h0)) 5
def mV:aQ bh Int:= .str du 0 bh.bo fun b g=> { b with bo:=g }
def lu:aQ bh (List bR):= .str (bz du) 1 bh.cZ fun b g=> { b with cZ:=g }
def qI:aQ bh Int:= .str (bz (bz du)) 2 bh.g8 fun b g=> { b with g8:=g }
def tG:aQ bh Int:= .str (bz (bz (bz du))) 3 bh.jm fun b g=> { b with jm:=g }
def sl:aQ bh (List aA):= .str (bz (bz (bz (bz hU)))) 4 bh.h0 fun b g=> { b with h0:=g }
instance:bc bh:=⟨bc.cells Int ++ bc.cells (List bR) ++ bc.cells Int ++ bc.cells Int ++ bc.cells (List aA),fun A W=>⟨by rfl,bc.ok (α:=Int) A W,bc.ok (α:=List bR) A W,bc.ok (α:=Int) A W,bc.ok (α:=Int) A W,bc.ok (α:=List aA) A W⟩⟩
structure aw where
 bV:bh
 cu:Int
 mr:Int
 deriving DecidableEq,Inhabited
instance:ag aw:= .str (di bh (di Int (hr Int))) (fun x=>(x.bV,x.cu,x.mr)) 7
def lr:aQ aw bh:= .str du 0 aw.bV fun b g=> { b with bV:=g }
def mU:aQ aw Int:= .str (bz du) 5 aw.cu fun b g=> { b with cu:=g }
def FE:aQ aw Int:= .str (bz (bz hU)) 6 aw.mr fun b g=> { b with mr:=g }
instance:bc aw:=⟨bc.cells bh ++ bc.cells Int ++ bc.cells Int,fun A W=>⟨by rfl,bc.ok (α:=bh) A W,bc.ok (α:=Int) A W,bc.ok (α:=Int) A W⟩⟩
structure jW where
 qn:Ref
 deriving DecidableEq,Inhabited
instance:ag jW:= .str (hr Ref) (fun x=>x.qn) 1
def CI:aQ jW Ref:= .str hU 0 jW.qn fun b g=> { b with qn:=g }
instance:bc jW:=⟨bc.cells Ref,fun A W=>⟨by rfl,bc.ok (α:=Ref) A W⟩⟩
structure gA where
 rh:Int
 fA:Int
 nH:e2
 deriving DecidableEq,Inhabited
instance:ag gA:= .str (di Int (di Int (hr e2))) (fun x=>(x.rh,x.fA,x.nH)) 3
def ym:aQ gA Int:= .str du 0 gA.rh fun b g=> { b with rh:=g }
def FD:aQ gA Int:= .str (bz du) 1 gA.fA fun b g=> { b with fA:=g }
def qH:aQ gA e2:= .str (bz (bz hU)) 2 gA.nH fun b g=> { b with nH:=g }
instance:bc gA:=⟨bc.cells Int ++ bc.cells Int ++ bc.cells e2,fun A W=>⟨by rfl,bc.ok (α:=Int) A W,bc.ok (α:=Int) A W,bc.ok (α:=e2) A W⟩⟩
structure jj where
 c2:Ref
 deriving DecidableEq,Inhabited
instance:ag jj:= .str (hr Ref) (fun x=>x.c2) 1
def CJ:aQ jj Ref:= .str hU 0 jj.c2 fun b g=> { b with c2:=g }
instance:bc jj:=⟨bc.cells Ref,fun A W=>⟨by rfl,bc.ok (α:=Ref) A W⟩⟩
inductive gw where
 | nil
 | mB (x:jW)
 | mC (x:gA)
 | mD (x:jj)
 deriving DecidableEq,Inhabited
instance:ag gw where
 size:=1
 agg:=false
 rep A W cs x:=match x with
  | .nil=>cs= [.nilIface]
  | .mB x=> ∃ v,cs= [.iface 166 v]∧ (I.of x).holds A W v
  | .mC x=> ∃ v,cs= [.iface 169 v]∧ (I.of x).holds A W v
  | .mD x=> ∃ v,cs= [.iface 173 v]∧ (I.of x).holds A W v
 len {A W cs x} h:=by cases x <;> first | (have h:cs=_:=h; rw [h]; rfl) | (obtain⟨v,h,_⟩:=h; rw [h]; rfl)
 one {A W cs x} h:=by
  intro u hu
  cases x <;> first | (have h:cs=_:=h; rw [h] at hu; rw [List.mem_singleton.1 hu]; rfl) | (obtain⟨v,h,_⟩:=h; rw [h] at hu; rw [List.mem_singleton.1 hu]; rfl)
 flat _:=rfl
 mono {A W c0 W' cs x} e h:=by cases x <;> first | exact h | (obtain⟨v,h,ad⟩:=h; exact⟨v,h,I.mono _ e ad⟩)
instance:bc gw:=⟨[.nilIface],fun _ _=>rfl⟩
theorem SH {A W v} {x:jW} (h:(I.of x).holds A W v):(I.of (gw.mB x)).holds A W (.iface 166 v):=⟨rfl,v,rfl,h⟩
theorem Gs {A W u} {x:jW} (h:(I.of (gw.mB x)).holds A W u):∃ v,u= .iface 166 v∧ (I.of x).holds A W v:=by
 obtain⟨J,v,ad,ay⟩:=h
 exact⟨v,nG J ad,ay⟩
theorem SI {A W v} {x:gA} (h:(I.of x).holds A W v):(I.of (gw.mC x)).holds A W (.iface 169 v):=⟨rfl,v,rfl,h⟩
theorem Gt {A W u} {x:gA} (h:(I.of (gw.mC x)).holds A W u):∃ v,u= .iface 169 v∧ (I.of x).holds A W v:=by
 obtain⟨J,v,ad,ay⟩:=h
 exact⟨v,nG J ad,ay⟩
theorem SJ {A W v} {x:jj} (h:(I.of x).holds A W v):(I.of (gw.mD x)).holds A W (.iface 173 v):=⟨rfl,v,rfl,h⟩
theorem Gu {A W u} {x:jj} (h:(I.of (gw.mD x)).holds A W u):∃ v,u= .iface 173 v∧ (I.of x).holds A W v:=by
 obtain⟨J,v,ad,ay⟩:=h
 exact⟨v,nG J ad,ay⟩
structure gx where
 q5:Int
 q6:Int
 iB:gw
 jl:e2
 deriving DecidableEq,Inhabited
instance:ag gx:= .str (di Int (di Int (di gw (hr e2)))) (fun x=>(x.q5,x.q6,x.iB,x.jl)) 4
def Qz:aQ gx Int:= .str du 0 gx.q5 fun b g=> { b with q5:=g }
def QA:aQ gx Int:= .str (bz du) 1 gx.q6 fun b g=> { b with q6:=g }
def tE:aQ gx gw:= .str (bz (bz du)) 2 gx.iB fun b g=> { b with iB:=g }
def tD:aQ gx e2:= .str (bz (bz (bz hU))) 3 gx.jl fun b g=> { b with jl:=g }
instance:bc gx:=⟨bc.cells Int ++ bc.cells Int ++ bc.cells gw ++ bc.cells e2,fun A W=>⟨by rfl,bc.ok (α:=Int) A W,bc.ok (α:=Int) A W,bc.ok (α:=gw) A W,bc.ok (α:=e2) A W⟩⟩
theorem VR:cn Tryz.prog 135 (default:gx):=cn.of (by kernel_rfl)
theorem VQ:g7 Tryz.prog 135 #[(0,1),(1,1),(2,1),(3,1)]:=⟨_,Tryz.underlying135,by kernel_rfl,by kernel_rfl⟩
structure mn where
 nQ:e2
 deriving DecidableEq,Inhabited
instance:ag mn:= .str (hr e2) (fun x=>x.nQ) 1
def yx:aQ mn e2:= .str hU 0 mn.nQ fun b g=> { b with nQ:=g }
instance:bc mn:=⟨bc.cells e2,fun A W=>⟨by rfl,bc.ok (α:=e2) A W⟩⟩
theorem VG:cn Tryz.prog 224 (default:mn):=cn.of (by kernel_rfl)
theorem VF:g7 Tryz.prog 224 #[(0,1)]:=⟨_,Tryz.underlying224,by kernel_rfl,by kernel_rfl⟩
theorem X0:bM Tryz.prog 84:=⟨_,Tryz.func84,rfl,by kernel_rfl⟩
theorem VT:cn Tryz.prog 166 (default:jW):=cn.of (by kernel_rfl)
theorem VS:g7 Tryz.prog 166 #[(0,1)]:=⟨_,Tryz.underlying166,by kernel_rfl,by kernel_rfl⟩
theorem sP:bt Tryz.prog 132 gw:=bt.of (by rfl) Tryz.underlying132 (by kernel_rfl)
theorem uo:cj Tryz.prog 135 2 2:=cj.of Tryz.underlying135 rfl rfl sP rfl
theorem L5:cj Tryz.prog 119 0 0:=cj.of Tryz.underlying119 rfl rfl bK rfl
theorem VL:bM Tryz.prog 121:=⟨_,Tryz.func121,rfl,by kernel_rfl⟩
theorem VM:bM Tryz.prog 120:=⟨_,Tryz.func120,rfl,by kernel_rfl⟩
theorem MC:cj Tryz.prog 86 1 1:=cj.of Tryz.underlying86 rfl rfl bK rfl
theorem X1:bM Tryz.prog 85:=⟨_,Tryz.func85,rfl,by kernel_rfl⟩
theorem L6:cj Tryz.prog 119 2 2:=cj.of Tryz.underlying119 rfl rfl bK rfl
theorem VV:cn Tryz.prog 169 (default:gA):=cn.of (by kernel_rfl)
theorem VU:g7 Tryz.prog 169 #[(0,1),(1,1),(2,1)]:=⟨_,Tryz.underlying169,by kernel_rfl,by kernel_rfl⟩
structure c9 where
 o5:a1
 c2:List aw
 deriving DecidableEq,Inhabited
instance:ag c9:= .str (di a1 (hr (List aw))) (fun x=>(x.o5,x.c2)) 11
def FC:aQ c9 a1:= .str du 0 c9.o5 fun b g=> { b with o5:=g }
def CH:aQ c9 (List aw):= .str (bz hU) 10 c9.c2 fun b g=> { b with c2:=g }
instance:bc c9:=⟨bc.cells a1 ++ bc.cells (List aw),fun A W=>⟨by rfl,bc.ok (α:=a1) A W,bc.ok (α:=List aw) A W⟩⟩
theorem VI:cn Tryz.prog 228 (default:c9):=cn.of (by kernel_rfl)
theorem VH:g7 Tryz.prog 228 #[(0,10),(10,1)]:=⟨_,Tryz.underlying228,by kernel_rfl,by kernel_rfl⟩
theorem X2:bM Tryz.prog 86:=⟨_,Tryz.func86,rfl,by kernel_rfl⟩
theorem Tq:jd Tryz.prog 228 [10]:=by unfold jd; kernel_rfl
theorem VZ:cn Tryz.prog 173 (default:jj):=cn.of (by kernel_rfl)
theorem VY:g7 Tryz.prog 173 #[(0,1)]:=⟨_,Tryz.underlying173,by kernel_rfl,by kernel_rfl⟩
theorem DR:bt Tryz.prog 141 e2:=bt.of (by rfl) Tryz.underlying141 (by kernel_rfl)
theorem GW:cj Tryz.prog 143 1 10:=cj.of Tryz.underlying143 rfl rfl DR rfl
theorem X4:bM Tryz.prog 39:=⟨_,Tryz.func39,rfl,by kernel_rfl⟩
theorem xG:nA Tryz.prog 3 Int:=Vm Tryz.underlying3
theorem Ou:bM Tryz.prog 24:=⟨_,Tryz.func24,rfl,by kernel_rfl⟩
theorem u3:cn Tryz.prog 50 (default:bh):=cn.of (by kernel_rfl)
theorem X6:bM Tryz.prog 25:=⟨_,Tryz.func25,rfl,by kernel_rfl⟩
theorem Od:g7 Tryz.prog 50 #[(0,1),(1,1),(2,1),(3,1),(4,1)]:=⟨_,Tryz.underlying50,by kernel_rfl,by kernel_rfl⟩
theorem fP:bt Tryz.prog 50 bh:=bt.of (by rfl) Tryz.underlying50 (by kernel_rfl)
theorem lE:cn Tryz.prog 88 (default:bR):=cn.of (by kernel_rfl)
theorem V2:bM Tryz.prog 108:=⟨_,Tryz.func108,rfl,by kernel_rfl⟩
theorem fo:bt Tryz.prog 41 (BitVec 64):=bt.of (by rfl) Tryz.underlying41 (by kernel_rfl)
theorem lW:cj Tryz.prog 43 0 0:=cj.of Tryz.underlying43 rfl rfl fo rfl
theorem jY:cj Tryz.prog 43 1 1:=cj.of Tryz.underlying43 rfl rfl fo rfl
theorem Ie:bM Tryz.prog 46:=⟨_,Tryz.func46,rfl,by kernel_rfl⟩
theorem V3:bM Tryz.prog 109:=⟨_,Tryz.func109,rfl,by kernel_rfl⟩
theorem ME:JN Tryz.prog 43 1 41 1:=⟨_,_,Tryz.underlying43,rfl,rfl,rfl⟩
theorem s0:g7 Tryz.prog 88 #[(0,1),(1,2),(3,2),(5,1),(6,2)]:=⟨_,Tryz.underlying88,by kernel_rfl,by kernel_rfl⟩
theorem fp:bt Tryz.prog 88 bR:=bt.of (by rfl) Tryz.underlying88 (by kernel_rfl)
theorem lF:bt Tryz.prog 47 (List bR):=bt.of (by rfl) Tryz.underlying47 (by kernel_rfl)
theorem lX:cj Tryz.prog 50 1 1:=cj.of Tryz.underlying50 rfl rfl lF rfl
theorem X7:bM Tryz.prog 75:=⟨_,Tryz.func75,rfl,by kernel_rfl⟩
theorem q9:cj Tryz.prog 50 2 2:=cj.of Tryz.underlying50 rfl rfl bK rfl
theorem u9:bt Tryz.prog 63 (List Int):=bt.of (by rfl) Tryz.underlying63 (by kernel_rfl)
theorem MF:cj Tryz.prog 65 3 3:=cj.of Tryz.underlying65 rfl rfl u9 rfl
theorem w6:cj Tryz.prog 50 3 3:=cj.of Tryz.underlying50 rfl rfl bK rfl
theorem T5:cj Tryz.prog 148 0 0:=cj.of Tryz.underlying148 rfl rfl bK rfl
theorem X8:bM Tryz.prog 76:=⟨_,Tryz.func76,rfl,by kernel_rfl⟩
theorem Ua:JN Tryz.prog 148 2 145 2:=⟨_,_,Tryz.underlying148,rfl,rfl,rfl⟩
theorem V4:bt Tryz.prog 145 (List ic):=bt.of (by rfl) Tryz.underlying145 (by kernel_rfl)
theorem ry:bt Tryz.prog 48 (List aA):=bt.of (by rfl) Tryz.underlying48 (by kernel_rfl)
theorem sF:cj Tryz.prog 50 4 4:=cj.of Tryz.underlying50 rfl rfl ry rfl
theorem Ub:cj Tryz.prog 151 1 1:=cj.of Tryz.underlying151 rfl rfl bK rfl
theorem Lu:jd Tryz.prog 50 [1,4]:=by unfold jd; kernel_rfl
theorem YA:bM Tryz.prog 27:=⟨_,Tryz.func27,rfl,by kernel_rfl⟩
theorem YB:cn Tryz.prog 99 (default:Vector (List aw) 5):=cn.of (by kernel_rfl)
theorem XY:cn Tryz.prog 37 (default:Ref):=cn.of (by kernel_rfl)
theorem Ii:bM Tryz.prog 77:=⟨_,Tryz.func77,rfl,by kernel_rfl⟩
theorem uK:bt Tryz.prog 133 e2:=bt.of (by rfl) Tryz.underlying133 (by kernel_rfl)
theorem wV:cj Tryz.prog 135 3 3:=cj.of Tryz.underlying135 rfl rfl uK rfl
theorem h3:cn Tryz.prog 52 (default:aw):=cn.of (by kernel_rfl)
theorem cI:bt Tryz.prog 52 aw:=bt.of (by rfl) Tryz.underlying52 (by kernel_rfl)
theorem lZ:cj Tryz.prog 52 0 0:=cj.of Tryz.underlying52 rfl rfl fP rfl
theorem VN:bM Tryz.prog 161:=⟨_,Tryz.func161,rfl,by kernel_rfl⟩
theorem VO:bM Tryz.prog 162:=⟨_,Tryz.func162,rfl,by kernel_rfl⟩
theorem Wp:bM Tryz.prog 122:=⟨_,Tryz.func122,rfl,by kernel_rfl⟩
theorem AS:bM Tryz.prog 87:=⟨_,Tryz.func87,rfl,by kernel_rfl⟩
theorem VP:bM Tryz.prog 185:=⟨_,Tryz.func185,rfl,by kernel_rfl⟩
theorem Wq:bM Tryz.prog 132:=⟨_,Tryz.func132,rfl,by kernel_rfl⟩
theorem Wb:bM Tryz.prog 176:=⟨_,Tryz.func176,rfl,by kernel_rfl⟩
theorem Wr:bM Tryz.prog 131:=⟨_,Tryz.func131,rfl,by kernel_rfl⟩
theorem Nh:bM Tryz.prog 126:=⟨_,Tryz.func126,rfl,by kernel_rfl⟩
theorem oz:cj Tryz.prog 50 0 0:=cj.of Tryz.underlying50 rfl rfl bK rfl
theorem s4:bM Tryz.prog 92:=⟨_,Tryz.func92,rfl,by kernel_rfl⟩
theorem Za:lP Tryz.prog 4 Bool 1:=TD Tryz.underlying4
theorem Oa:lP Tryz.prog 41 (BitVec 64) 1:=Un (K:= .u64) Tryz.underlying41
theorem rj:lP Tryz.prog 43 aA 2:=KQ (k:=1) rfl Tryz.underlying43 (by kernel_rfl) fun d hd A W xs ys x y al a5=>by
 refine Eq.trans (ug ia fo rfl (by rfl) Oa (by omega) al a5 (ug eM fo rfl (by rfl) Oa (by omega) al a5 (Mi))) ?_
 congr 1
 rw [Bool.eq_iff_iff]
 simp only [Bool.and_eq_true,decide_eq_true_eq,and_true]
 cases x; cases y
 simp [aQ.str,ia,eM]
theorem Zb:lP Tryz.prog 3 Int 1:=Mg (K:= .i64) Tryz.underlying3
theorem Nl:lP Tryz.prog 88 bR 3:=KQ (k:=2) rfl Tryz.underlying88 (by kernel_rfl) fun d hd A W xs ys x y al a5=>by
 refine Eq.trans (ug nC hE rfl (by rfl) Za (by omega) al a5 (ug nD b8 rfl (by rfl) rj (by omega) al a5 (ug qM b8 rfl (by rfl) rj (by omega) al a5 (ug oZ bK rfl (by rfl) Zb (by omega) al a5 (ug tJ b8 rfl (by rfl) rj (by omega) al a5 (Mi)))))) ?_
 congr 1
 rw [Bool.eq_iff_iff]
 simp only [Bool.and_eq_true,decide_eq_true_eq,and_true]
 cases x; cases y
 simp [aQ.str,nC,nD,qM,oZ,tJ]
theorem Nm:Tryz.prog.eqGuardType Tryz.prog.depth 88=false:=by kernel_rfl
theorem w8:cj Tryz.prog 88 0 0:=cj.of Tryz.underlying88 rfl rfl hE rfl
theorem DU:Tryz.prog.eqGuardType Tryz.prog.depth 43=false:=by kernel_rfl
theorem Nt:bM Tryz.prog 186:=⟨_,Tryz.func186,rfl,by kernel_rfl⟩
theorem uw:cj Tryz.prog 88 1 1:=cj.of Tryz.underlying88 rfl rfl b8 rfl
theorem D8:bM Tryz.prog 137:=⟨_,Tryz.func137,rfl,by kernel_rfl⟩
theorem w9:cj Tryz.prog 88 2 3:=cj.of Tryz.underlying88 rfl rfl b8 rfl
theorem sI:cj Tryz.prog 88 3 5:=cj.of Tryz.underlying88 rfl rfl bK rfl
theorem DG:cj Tryz.prog 88 4 6:=cj.of Tryz.underlying88 rfl rfl b8 rfl
theorem HQ:bM Tryz.prog 133:=⟨_,Tryz.func133,rfl,by kernel_rfl⟩
theorem Wu:bM Tryz.prog 135:=⟨_,Tryz.func135,rfl,by kernel_rfl⟩
theorem Wt:bM Tryz.prog 134:=⟨_,Tryz.func134,rfl,by kernel_rfl⟩
theorem Wv:bM Tryz.prog 136:=⟨_,Tryz.func136,rfl,by kernel_rfl⟩
theorem Yk:bM Tryz.prog 98:=⟨_,Tryz.func98,rfl,by kernel_rfl⟩
theorem Ym:bM Tryz.prog 97:=⟨_,Tryz.func97,rfl,by kernel_rfl⟩
theorem Yl:bM Tryz.prog 96:=⟨_,Tryz.func96,rfl,by kernel_rfl⟩
theorem Yn:bM Tryz.prog 53:=⟨_,Tryz.func53,rfl,by kernel_rfl⟩
theorem AX:bM Tryz.prog 51:=⟨_,Tryz.func51,rfl,by kernel_rfl⟩
theorem mE:bt Tryz.prog 38 (List aw):=bt.of (by rfl) Tryz.underlying38 (by kernel_rfl)
theorem xv:oU Tryz.prog 99 5 1:=oU.of Tryz.underlying99 mE rfl
theorem AT:g7 Tryz.prog 52 #[(0,5),(5,1),(6,1)]:=⟨_,Tryz.underlying52,by kernel_rfl,by kernel_rfl⟩
theorem Oe:cn Tryz.prog 45 (default:Vector aA 4):=cn.of (by kernel_rfl)
theorem Ig:oU Tryz.prog 45 4 2:=oU.of Tryz.underlying45 b8 rfl
theorem rA:bt Tryz.prog 45 (Vector aA 4):=bt.of (by rfl) Tryz.underlying45 (by kernel_rfl)
theorem Af:bt Tryz.prog 222 e2:=bt.of (by rfl) Tryz.underlying222 (by kernel_rfl)
theorem Dp:cj Tryz.prog 224 0 0:=cj.of Tryz.underlying224 rfl rfl Af rfl
instance aa6:kB aA where
 uniq {A W cs c0 W' dN x} h cX:=by
  refine Ut h.1 cX.1 ?_
  refine LA 0 (ag.size (BitVec 64)) (kB.uniq (h.2.1) (cX.2.1)) ?_
  refine LA 1 (ag.size (BitVec 64)) (kB.uniq (h.2.2) (cX.2.2)) ?_
  exact Uu h.1 cX.1 (by decide)
 plain {A W cs x} h:=by
  intro u hu n
  have bG:=Dv (o:=0) (s:=ag.size (BitVec 64)) (by simpa using hu)
  rcases bG with J | bG
  ·exact kB.plain (h.2.1) u J n
  have bG:=Dv (s:=ag.size (BitVec 64)) bG
  rcases bG with J | bG
  ·exact kB.plain (h.2.2) u J n
  exact Mj h.1 (by rfl) bG
theorem VB:lP Tryz.prog 319 (Vector aA 4) 3:=Mh Tryz.underlying319 b8 rj
theorem OP:qF Tryz.prog 41 (BitVec 64) 1:=Lg Tryz.underlying41 rfl
theorem OQ:qF Tryz.prog 43 aA 2:=S5 (k:=1) rfl Tryz.underlying43 (.cons ia rfl fo (fun b d A W u x h al=>OP b d A W u x (by omega) al) (.cons eM rfl fo (fun b d A W u x h al=>OP b d A W u x (by omega) al) (.nil)))
theorem XM:qF Tryz.prog 319 (Vector aA 4) 3:=MT Tryz.underlying319 b8 OQ
theorem DV:nA Tryz.prog 319 (Vector aA 4):=MU Tryz.underlying319 rfl XM VB rfl rfl
theorem DW:bt Tryz.prog 163 Ref:=bt.of (by rfl) Tryz.underlying163 (by kernel_rfl)
theorem G0:cj Tryz.prog 166 0 0:=cj.of Tryz.underlying166 rfl rfl DW rfl
theorem DX:bM Tryz.prog 232:=⟨_,Tryz.func232,rfl,by kernel_rfl⟩
theorem Ni:bM Tryz.prog 231:=⟨_,Tryz.func231,rfl,by kernel_rfl⟩
theorem D6:bt Tryz.prog 169 gA:=bt.of (by rfl) Tryz.underlying169 (by kernel_rfl)
theorem xg:cn Tryz.prog 320 (default:Vector aA 4):=cn.of (by kernel_rfl)
theorem Dq:cj Tryz.prog 169 0 0:=cj.of Tryz.underlying169 rfl rfl bK rfl
theorem km:bt Tryz.prog 320 (Vector aA 4):=bt.of (by rfl) Tryz.underlying320 (by kernel_rfl)
theorem Wc:bM Tryz.prog 241:=⟨_,Tryz.func241,rfl,by kernel_rfl⟩
theorem HT:bM Tryz.prog 239:=⟨_,Tryz.func239,rfl,by kernel_rfl⟩
theorem xk:cn Tryz.prog 331 (default:Ref):=cn.of (by kernel_rfl)
theorem Nj:bM Tryz.prog 205:=⟨_,Tryz.func205,rfl,by kernel_rfl⟩
theorem Nk:bM Tryz.prog 204:=⟨_,Tryz.func204,rfl,by kernel_rfl⟩
theorem Nu:bM Tryz.prog 188:=⟨_,Tryz.func188,rfl,by kernel_rfl⟩
theorem Ws:bM Tryz.prog 193:=⟨_,Tryz.func193,rfl,by kernel_rfl⟩
theorem zH:cj Tryz.prog 337 0 0:=cj.of Tryz.underlying337 rfl rfl bK rfl
structure fm where
 fA:Int
 cD:Ref
 deriving DecidableEq,Inhabited
instance:ag fm:= .str (di Int (hr Ref)) (fun x=>(x.fA,x.cD)) 2
def wg:aQ fm Int:= .str du 0 fm.fA fun b g=> { b with fA:=g }
def sm:aQ fm Ref:= .str (bz hU) 1 fm.cD fun b g=> { b with cD:=g }
instance:bc fm:=⟨bc.cells Int ++ bc.cells Ref,fun A W=>⟨by rfl,bc.ok (α:=Int) A W,bc.ok (α:=Ref) A W⟩⟩
theorem Ww:bM Tryz.prog 189:=⟨_,Tryz.func189,rfl,by kernel_rfl⟩
theorem Wx:bM Tryz.prog 148:=⟨_,Tryz.func148,rfl,by kernel_rfl⟩
theorem Nw:bM Tryz.prog 251:=⟨_,Tryz.func251,rfl,by kernel_rfl⟩
theorem ek:bt Tryz.prog 331 Ref:=bt.of (by rfl) Tryz.underlying331 (by kernel_rfl)
theorem sy:cj Tryz.prog 337 1 1:=cj.of Tryz.underlying337 rfl rfl ek rfl
theorem HR:bM Tryz.prog 250:=⟨_,Tryz.func250,rfl,by kernel_rfl⟩
theorem Np:bt Tryz.prog 321 Ref:=bt.of (by rfl) Tryz.underlying321 (by kernel_rfl)
theorem Nq:bM Tryz.prog 196:=⟨_,Tryz.func196,rfl,by kernel_rfl⟩
theorem Nn:bt Tryz.prog 333 (Vector Ref 2):=bt.of (by rfl) Tryz.underlying333 (by kernel_rfl)
theorem q1:cj Tryz.prog 335 0 0:=cj.of Tryz.underlying335 rfl rfl Nn rfl
theorem sT:oU Tryz.prog 333 2 1:=oU.of Tryz.underlying333 ek rfl
structure dz where
 c1:Vector Ref 2
 dG:Bool
 ih:Int
 deriving DecidableEq,Inhabited
instance:ag dz:= .str (di (Vector Ref 2) (di Bool (hr Int))) (fun x=>(x.c1,x.dG,x.ih)) 4
def qJ:aQ dz (Vector Ref 2):= .str du 0 dz.c1 fun b g=> { b with c1:=g }
def qO:aQ dz Bool:= .str (bz du) 2 dz.dG fun b g=> { b with dG:=g }
def CT:aQ dz Int:= .str (bz (bz hU)) 3 dz.ih fun b g=> { b with ih:=g }
instance:bc dz:=⟨bc.cells (Vector Ref 2) ++ bc.cells Bool ++ bc.cells Int,fun A W=>⟨by rfl,bc.ok (α:=Vector Ref 2) A W,bc.ok (α:=Bool) A W,bc.ok (α:=Int) A W⟩⟩
theorem HS:bM Tryz.prog 255:=⟨_,Tryz.func255,rfl,by kernel_rfl⟩
theorem Ny:bM Tryz.prog 247:=⟨_,Tryz.func247,rfl,by kernel_rfl⟩
theorem q0:cj Tryz.prog 335 1 2:=cj.of Tryz.underlying335 rfl rfl hE rfl
theorem Ds:cj Tryz.prog 335 2 3:=cj.of Tryz.underlying335 rfl rfl bK rfl
theorem rn:bt Tryz.prog 167 e2:=bt.of (by rfl) Tryz.underlying167 (by kernel_rfl)
theorem sA:cj Tryz.prog 169 2 2:=cj.of Tryz.underlying169 rfl rfl rn rfl
theorem VC:lP Tryz.prog 320 (Vector aA 4) 3:=Mh Tryz.underlying320 b8 rj
theorem XN:qF Tryz.prog 320 (Vector aA 4) 3:=MT Tryz.underlying320 b8 OQ
theorem uT:nA Tryz.prog 320 (Vector aA 4):=MU Tryz.underlying320 rfl XN VC rfl rfl
theorem Ak:cn Tryz.prog 321 (default:Ref):=cn.of (by kernel_rfl)
theorem NA:bM Tryz.prog 240:=⟨_,Tryz.func240,rfl,by kernel_rfl⟩
theorem Ea:bt Tryz.prog 170 Ref:=bt.of (by rfl) Tryz.underlying170 (by kernel_rfl)
theorem G5:cj Tryz.prog 173 0 0:=cj.of Tryz.underlying173 rfl rfl Ea rfl
theorem uq:cj Tryz.prog 228 1 10:=cj.of Tryz.underlying228 rfl rfl mE rfl
theorem WJ:bM Tryz.prog 269:=⟨_,Tryz.func269,rfl,by kernel_rfl⟩
theorem WT:bM Tryz.prog 264:=⟨_,Tryz.func264,rfl,by kernel_rfl⟩
theorem Wh:bM Tryz.prog 270:=⟨_,Tryz.func270,rfl,by kernel_rfl⟩
theorem WU:bM Tryz.prog 265:=⟨_,Tryz.func265,rfl,by kernel_rfl⟩
theorem nL:cj Tryz.prog 52 1 5:=cj.of Tryz.underlying52 rfl rfl bK rfl
theorem XO:bM Tryz.prog 227:=⟨_,Tryz.func227,rfl,by kernel_rfl⟩
theorem SN:je Tryz.prog 166 "matchguard/index.find" 227:=je.r1 (by kernel_rfl) Tryz.underlying166 rfl XO
theorem XP:bM Tryz.prog 235:=⟨_,Tryz.func235,rfl,by kernel_rfl⟩
theorem SO:je Tryz.prog 169 "matchguard/index.find" 235:=je.r1 (by kernel_rfl) Tryz.underlying169 rfl XP
theorem XQ:bM Tryz.prog 260:=⟨_,Tryz.func260,rfl,by kernel_rfl⟩
theorem SP:je Tryz.prog 173 "matchguard/index.find" 260:=je.r1 (by kernel_rfl) Tryz.underlying173 rfl XQ
theorem Ys:bM Tryz.prog 72:=⟨_,Tryz.func72,rfl,by kernel_rfl⟩
theorem Oq:bM Tryz.prog 40:=⟨_,Tryz.func40,rfl,by kernel_rfl⟩
theorem Wn:bM Tryz.prog 234:=⟨_,Tryz.func234,rfl,by kernel_rfl⟩
theorem WQ:cn Tryz.prog 341 (default:List Ref):=cn.of (by kernel_rfl)
theorem Yo:cn Tryz.prog 63 (default:List Int):=cn.of (by kernel_rfl)
theorem sV:bt Tryz.prog 341 (List Ref):=bt.of (by rfl) Tryz.underlying341 (by kernel_rfl)
theorem Ue:jd Tryz.prog 341 [0]:=by unfold jd; kernel_rfl
theorem U7:jd Tryz.prog 63 [0]:=by unfold jd; kernel_rfl
theorem We:cn Tryz.prog 333 (default:Vector Ref 2):=cn.of (by kernel_rfl)
theorem U0:Tryz.prog.eqGuardType Tryz.prog.depth 333=false:=by kernel_rfl
theorem NB:bM Tryz.prog 252:=⟨_,Tryz.func252,rfl,by kernel_rfl⟩
theorem W0:bM Tryz.prog 245:=⟨_,Tryz.func245,rfl,by kernel_rfl⟩
structure db where
 c6:aA
 ud:Int
 bP:Int
 deriving DecidableEq,Inhabited
instance:ag db:= .str (di aA (di Int (hr Int))) (fun x=>(x.c6,x.ud,x.bP)) 4
def Qu:aQ db aA:= .str du 0 db.c6 fun b g=> { b with c6:=g }
def Qm:aQ db Int:= .str (bz du) 2 db.ud fun b g=> { b with ud:=g }
def QY:aQ db Int:= .str (bz (bz hU)) 3 db.bP fun b g=> { b with bP:=g }
instance:bc db:=⟨bc.cells aA ++ bc.cells Int ++ bc.cells Int,fun A W=>⟨by rfl,bc.ok (α:=aA) A W,bc.ok (α:=Int) A W,bc.ok (α:=Int) A W⟩⟩
theorem WA:cn Tryz.prog 342 (default:List db):=cn.of (by kernel_rfl)
theorem HM:bt Tryz.prog 342 (List db):=bt.of (by rfl) Tryz.underlying342 (by kernel_rfl)
theorem HN:cn Tryz.prog 347 (default:db):=cn.of (by kernel_rfl)
theorem Wg:g7 Tryz.prog 347 #[(0,2),(2,1),(3,1)]:=⟨_,Tryz.underlying347,by kernel_rfl,by kernel_rfl⟩
theorem No:bt Tryz.prog 347 db:=bt.of (by rfl) Tryz.underlying347 (by kernel_rfl)
theorem Wi:bM Tryz.prog 257:=⟨_,Tryz.func257,rfl,by kernel_rfl⟩
theorem HP:bM Tryz.prog 258:=⟨_,Tryz.func258,rfl,by kernel_rfl⟩
theorem Wj:bM Tryz.prog 166:=⟨_,Tryz.func166,rfl,by kernel_rfl⟩
theorem Wk:bM Tryz.prog 165:=⟨_,Tryz.func165,rfl,by kernel_rfl⟩
theorem Wl:bM Tryz.prog 167:=⟨_,Tryz.func167,rfl,by kernel_rfl⟩
theorem Ud:jd Tryz.prog 342 [0]:=by unfold jd; kernel_rfl
theorem WC:bM Tryz.prog 256:=⟨_,Tryz.func256,rfl,by kernel_rfl⟩
theorem WK:bM Tryz.prog 253:=⟨_,Tryz.func253,rfl,by kernel_rfl⟩
theorem W1:bM Tryz.prog 246:=⟨_,Tryz.func246,rfl,by kernel_rfl⟩
theorem V5:bM Tryz.prog 279:=⟨_,Tryz.func279,rfl,by kernel_rfl⟩
theorem V6:bM Tryz.prog 110:=⟨_,Tryz.func110,rfl,by kernel_rfl⟩
theorem Ns:bM Tryz.prog 272:=⟨_,Tryz.func272,rfl,by kernel_rfl⟩
theorem Wo:bM Tryz.prog 276:=⟨_,Tryz.func276,rfl,by kernel_rfl⟩
theorem WD:bM Tryz.prog 268:=⟨_,Tryz.func268,rfl,by kernel_rfl⟩
theorem XR:bM Tryz.prog 230:=⟨_,Tryz.func230,rfl,by kernel_rfl⟩
theorem SR:je Tryz.prog 166 "matchguard/index.remove" 230:=je.r1 (by kernel_rfl) Tryz.underlying166 rfl XR
theorem XS:bM Tryz.prog 238:=⟨_,Tryz.func238,rfl,by kernel_rfl⟩
theorem SS:je Tryz.prog 169 "matchguard/index.remove" 238:=je.r1 (by kernel_rfl) Tryz.underlying169 rfl XS
theorem XT:bM Tryz.prog 263:=⟨_,Tryz.func263,rfl,by kernel_rfl⟩
theorem SU:je Tryz.prog 173 "matchguard/index.remove" 263:=je.r1 (by kernel_rfl) Tryz.underlying173 rfl XT
theorem Yw:bM Tryz.prog 41:=⟨_,Tryz.func41,rfl,by kernel_rfl⟩
theorem Ov:bM Tryz.prog 33:=⟨_,Tryz.func33,rfl,by kernel_rfl⟩
theorem U3:cj Tryz.prog 65 6 6:=cj.of Tryz.underlying65 rfl rfl bK rfl
theorem Yx:bM Tryz.prog 43:=⟨_,Tryz.func43,rfl,by kernel_rfl⟩
theorem Yy:bM Tryz.prog 78:=⟨_,Tryz.func78,rfl,by kernel_rfl⟩
theorem G7:cj Tryz.prog 143 2 11:=cj.of Tryz.underlying143 rfl rfl bK rfl
theorem V7:bM Tryz.prog 233:=⟨_,Tryz.func233,rfl,by kernel_rfl⟩
theorem Wz:cn Tryz.prog 337 (default:fm):=cn.of (by kernel_rfl)
theorem Wy:g7 Tryz.prog 337 #[(0,1),(1,1)]:=⟨_,Tryz.underlying337,by kernel_rfl,by kernel_rfl⟩
theorem Md:cj Tryz.prog 169 1 1:=cj.of Tryz.underlying169 rfl rfl bK rfl
theorem W4:bM Tryz.prog 243:=⟨_,Tryz.func243,rfl,by kernel_rfl⟩
theorem NF:cn Tryz.prog 335 (default:dz):=cn.of (by kernel_rfl)
theorem ND:g7 Tryz.prog 335 #[(0,2),(2,1),(3,1)]:=⟨_,Tryz.underlying335,by kernel_rfl,by kernel_rfl⟩
theorem W3:bM Tryz.prog 244:=⟨_,Tryz.func244,rfl,by kernel_rfl⟩
theorem WE:bM Tryz.prog 206:=⟨_,Tryz.func206,rfl,by kernel_rfl⟩
theorem WH:bM Tryz.prog 207:=⟨_,Tryz.func207,rfl,by kernel_rfl⟩
theorem WG:bM Tryz.prog 146:=⟨_,Tryz.func146,rfl,by kernel_rfl⟩
theorem Nx:bM Tryz.prog 190:=⟨_,Tryz.func190,rfl,by kernel_rfl⟩
theorem Mb:cj Tryz.prog 228 0 0:=cj.of Tryz.underlying228 rfl rfl iv rfl
theorem Nz:bM Tryz.prog 150:=⟨_,Tryz.func150,rfl,by kernel_rfl⟩
theorem WX:bM Tryz.prog 273:=⟨_,Tryz.func273,rfl,by kernel_rfl⟩
theorem WY:bM Tryz.prog 274:=⟨_,Tryz.func274,rfl,by kernel_rfl⟩
theorem WZ:bM Tryz.prog 275:=⟨_,Tryz.func275,rfl,by kernel_rfl⟩
theorem W2:bM Tryz.prog 267:=⟨_,Tryz.func267,rfl,by kernel_rfl⟩
theorem XU:bM Tryz.prog 229:=⟨_,Tryz.func229,rfl,by kernel_rfl⟩
theorem SV:je Tryz.prog 166 "matchguard/index.put" 229:=je.r1 (by kernel_rfl) Tryz.underlying166 rfl XU
theorem XV:bM Tryz.prog 237:=⟨_,Tryz.func237,rfl,by kernel_rfl⟩
theorem SW:je Tryz.prog 169 "matchguard/index.put" 237:=je.r1 (by kernel_rfl) Tryz.underlying169 rfl XV
theorem XW:bM Tryz.prog 262:=⟨_,Tryz.func262,rfl,by kernel_rfl⟩
theorem SX:je Tryz.prog 173 "matchguard/index.put" 262:=je.r1 (by kernel_rfl) Tryz.underlying173 rfl XW
theorem Yz:bM Tryz.prog 44:=⟨_,Tryz.func44,rfl,by kernel_rfl⟩
theorem Ip:bM Tryz.prog 30:=⟨_,Tryz.func30,rfl,by kernel_rfl⟩
theorem DS:cn Tryz.prog 251 (default:Vector Bool 128):=cn.of (by kernel_rfl)
theorem Ac:oU Tryz.prog 251 128 1:=oU.of Tryz.underlying251 hE rfl
theorem Ad:bt Tryz.prog 251 (Vector Bool 128):=bt.of (by rfl) Tryz.underlying251 (by kernel_rfl)
theorem Ng:bM Tryz.prog 143:=⟨_,Tryz.func143,rfl,by kernel_rfl⟩
theorem D9:bM Tryz.prog 145:=⟨_,Tryz.func145,rfl,by kernel_rfl⟩
theorem xj:bM Tryz.prog 139:=⟨_,Tryz.func139,rfl,by kernel_rfl⟩
theorem WI:bM Tryz.prog 187:=⟨_,Tryz.func187,rfl,by kernel_rfl⟩
theorem WL:bM Tryz.prog 138:=⟨_,Tryz.func138,rfl,by kernel_rfl⟩
theorem WM:bM Tryz.prog 140:=⟨_,Tryz.func140,rfl,by kernel_rfl⟩
theorem WO:bM Tryz.prog 100:=⟨_,Tryz.func100,rfl,by kernel_rfl⟩
theorem Yq:bM Tryz.prog 74:=⟨_,Tryz.func74,rfl,by kernel_rfl⟩
theorem MH:cj Tryz.prog 52 2 6:=cj.of Tryz.underlying52 rfl rfl bK rfl
theorem Yr:bM Tryz.prog 22:=⟨_,Tryz.func22,rfl,by kernel_rfl⟩
theorem YC:bM Tryz.prog 52:=⟨_,Tryz.func52,rfl,by kernel_rfl⟩
theorem YD:bM Tryz.prog 31:=⟨_,Tryz.func31,rfl,by kernel_rfl⟩
inductive Cell where
 | jI (x:List (Int × aw))
 | mA (x:gx)
 | oF (x:List (Int × Ref))
 | pj (x:ib)
 | k7 (x:List ((Vector aA 4) × Ref))
 | nf (x:List ((Vector aA 4) × Int))
 | xr (x:mn)
 | qj (x:c9) (key:Option Nat) (cap:Nat)
 | fC (x:dz)
 | iV (x:fm)
instance:eG Cell where
 g3 p k:=match k with
  | .jI x=> [⟨some p,.map x⟩]
  | .mA x=> [⟨some p,.var x⟩]
  | .oF x=> [⟨some p,.map x⟩]
  | .pj x=> [⟨some p,.var x⟩]
  | .k7 x=> [⟨some p,.map x⟩]
  | .nf x=> [⟨some p,.map x⟩]
  | .xr x=> [⟨some p,.var x⟩]
  | .qj x key cap=> [⟨some p,.ca ({ x with c2:= [] } :c9) [(10,ba key (x.c2).length cap)]⟩,⟨key,.row 52 (x.c2:List aw) cap⟩]
  | .fC x=> [⟨some p,.var x⟩]
  | .iV x=> [⟨some p,.var x⟩]
 root p k:=by cases k <;> exact⟨_,List.mem_cons_self ..,rfl⟩
def j0 (hp:aN Cell) (p:Nat):Option (List (Int × aw)):=match pat hp p with
 | some (.jI x)=>some x
 | _=>none
theorem o8 {hp:aN Cell} {p:Nat} {x:List (Int × aw)} (h:j0 hp p=some x):pat hp p=some (.jI x):=by
 unfold j0 at h
 split at h
 ·rename_i ad; cases h; exact ad
 ·cases h
def hg (hp:aN Cell) (p:Nat):Option (gx):=match pat hp p with
 | some (.mA x)=>some x
 | _=>none
theorem lY {hp:aN Cell} {p:Nat} {x:gx} (h:hg hp p=some x):pat hp p=some (.mA x):=by
 unfold hg at h
 split at h
 ·rename_i ad; cases h; exact ad
 ·cases h
def l3 (hp:aN Cell) (p:Nat):Option (List (Int × Ref)):=match pat hp p with
 | some (.oF x)=>some x
 | _=>none
theorem w1 {hp:aN Cell} {p:Nat} {x:List (Int × Ref)} (h:l3 hp p=some x):pat hp p=some (.oF x):=by
 unfold l3 at h
 split at h
 ·rename_i ad; cases h; exact ad
 ·cases h
def jG (hp:aN Cell) (p:Nat):Option (ib):=match pat hp p with
 | some (.pj x)=>some x
 | _=>none
theorem nK {hp:aN Cell} {p:Nat} {x:ib} (h:jG hp p=some x):pat hp p=some (.pj x):=by
 unfold jG at h
 split at h
 ·rename_i ad; cases h; exact ad
 ·cases h
def jq (hp:aN Cell) (p:Nat):Option (List ((Vector aA 4) × Ref)):=match pat hp p with
 | some (.k7 x)=>some x
 | _=>none
theorem l0 {hp:aN Cell} {p:Nat} {x:List ((Vector aA 4) × Ref)} (h:jq hp p=some x):pat hp p=some (.k7 x):=by
 unfold jq at h
 split at h
 ·rename_i ad; cases h; exact ad
 ·cases h
def lC (hp:aN Cell) (p:Nat):Option (List ((Vector aA 4) × Int)):=match pat hp p with
 | some (.nf x)=>some x
 | _=>none
theorem p9 {hp:aN Cell} {p:Nat} {x:List ((Vector aA 4) × Int)} (h:lC hp p=some x):pat hp p=some (.nf x):=by
 unfold lC at h
 split at h
 ·rename_i ad; cases h; exact ad
 ·cases h
def mz (hp:aN Cell) (p:Nat):Option (mn):=match pat hp p with
 | some (.xr x)=>some x
 | _=>none
theorem sH {hp:aN Cell} {p:Nat} {x:mn} (h:mz hp p=some x):pat hp p=some (.xr x):=by
 unfold mz at h
 split at h
 ·rename_i ad; cases h; exact ad
 ·cases h
def nR (hp:aN Cell) (p:Nat):Option (c9 × Option Nat × Nat):=match pat hp p with
 | some (.qj x key cap)=>some (x,key,cap)
 | _=>none
theorem uy {hp:aN Cell} {p:Nat} {x:c9 × Option Nat × Nat} (h:nR hp p=some x):pat hp p=some (.qj x.1 x.2.1 x.2.2):=by
 unfold nR at h
 split at h
 ·rename_i ad; cases h; exact ad
 ·cases h
def cy (hp:aN Cell) (p:Nat):Option (dz):=match pat hp p with
 | some (.fC x)=>some x
 | _=>none
theorem jn {hp:aN Cell} {p:Nat} {x:dz} (h:cy hp p=some x):pat hp p=some (.fC x):=by
 unfold cy at h
 split at h
 ·rename_i ad; cases h; exact ad
 ·cases h
def fu (hp:aN Cell) (p:Nat):Option (fm):=match pat hp p with
 | some (.iV x)=>some x
 | _=>none
theorem m6 {hp:aN Cell} {p:Nat} {x:fm} (h:fu hp p=some x):pat hp p=some (.iV x):=by
 unfold fu at h
 split at h
 ·rename_i ad; cases h; exact ad
 ·cases h
end Go.Proofs.YtmnggbjcnoffeaaGreat
