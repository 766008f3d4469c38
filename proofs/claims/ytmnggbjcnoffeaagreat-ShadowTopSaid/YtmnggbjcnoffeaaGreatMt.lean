/-
  The types of the data, and facts on their tables. Conditions: none.
-/
import Derived.Test.YtmnggbjcnoffeaaGreatRows
import Derived.Test.YtmnggbjcnoffeaaGreatMl2
namespace Go.Proofs.YtmnggbjcnoffeaaGreat
open Go Gv
set_option linter.unusedVariables false
set_option linter.unusedSimpArgs false
set_option maxRecDepth 100000
structure ao where
 dD:BitVec 64
 bY:BitVec 64
 deriving DecidableEq,Inhabited
instance:ad ao:= .str (c2 (BitVec 64) (g5 (BitVec 64))) (fun x=>(x.dD,x.bY)) 2
def ia:aL ao (BitVec 64):= .str df 0 ao.dD fun b g=> { b with dD:=g }
def ev:aL ao (BitVec 64):= .str (bu hL) 1 ao.bY fun b g=> { b with bY:=g }
instance:a5 ao:=⟨a5.cells (BitVec 64) ++ a5.cells (BitVec 64),fun A W=>⟨by rfl,a5.ok (α:=BitVec 64) A W,a5.ok (α:=BitVec 64) A W⟩⟩
structure bw where
 dE:List (BitVec 8)
 p1:Int
 deriving DecidableEq,Inhabited
instance:ad bw:= .str (c2 (List (BitVec 8)) (g5 Int)) (fun x=>(x.dE,x.p1)) 2
def Ap:aL bw (List (BitVec 8)):= .str df 0 bw.dE fun b g=> { b with dE:=g }
def wk:aL bw Int:= .str (bu hL) 1 bw.p1 fun b g=> { b with p1:=g }
instance:a5 bw:=⟨a5.cells (List (BitVec 8)) ++ a5.cells Int,fun A W=>⟨by rfl,a5.ok (α:=List (BitVec 8)) A W,a5.ok (α:=Int) A W⟩⟩
theorem FK:bt Tryz.prog 5 (BitVec 8):=bt.of (by rfl) Tryz.underlying5 (by kernel_rfl)
theorem Sd:cx Tryz.prog 117 (default:bw):=cx.of (by kernel_rfl)
theorem Sc:gX Tryz.prog 117 #[(0,1),(1,1)]:=⟨_,Tryz.underlying117,by kernel_rfl,by kernel_rfl⟩
theorem Fm:bQ Tryz.prog 15:=⟨_,Tryz.func15,rfl,by kernel_rfl⟩
structure eS where
 bF:Int
 b7:ByteArray
 eO:Int
 deriving DecidableEq,Inhabited
instance:ad eS:= .str (c2 Int (c2 ByteArray (g5 Int))) (fun x=>(x.bF,x.b7,x.eO)) 3
def m9:aL eS Int:= .str df 0 eS.bF fun b g=> { b with bF:=g }
def ph:aL eS ByteArray:= .str (bu df) 1 eS.b7 fun b g=> { b with b7:=g }
def m7:aL eS Int:= .str (bu (bu hL)) 2 eS.eO fun b g=> { b with eO:=g }
instance:a5 eS:=⟨a5.cells Int ++ a5.cells ByteArray ++ a5.cells Int,fun A W=>⟨by rfl,a5.ok (α:=Int) A W,a5.ok (α:=ByteArray) A W,a5.ok (α:=Int) A W⟩⟩
structure iv where
 bF:Int
 b7:ByteArray
 e2:List Int
 deriving DecidableEq,Inhabited
instance:ad iv:= .str (c2 Int (c2 ByteArray (g5 (List Int)))) (fun x=>(x.bF,x.b7,x.e2)) 3
def Ar:aL iv Int:= .str df 0 iv.bF fun b g=> { b with bF:=g }
def CO:aL iv ByteArray:= .str (bu df) 1 iv.b7 fun b g=> { b with b7:=g }
def CH:aL iv (List Int):= .str (bu (bu hL)) 2 iv.e2 fun b g=> { b with e2:=g }
instance:a5 iv:=⟨a5.cells Int ++ a5.cells ByteArray ++ a5.cells (List Int),fun A W=>⟨by rfl,a5.ok (α:=Int) A W,a5.ok (α:=ByteArray) A W,a5.ok (α:=List Int) A W⟩⟩
structure fO where
 bR:ao
 bK:ao
 nV:Int
 deriving DecidableEq,Inhabited
instance:ad fO:= .str (c2 ao (c2 ao (g5 Int))) (fun x=>(x.bR,x.bK,x.nV)) 5
def Aj:aL fO ao:= .str df 0 fO.bR fun b g=> { b with bR:=g }
def As:aL fO ao:= .str (bu df) 2 fO.bK fun b g=> { b with bK:=g }
def At:aL fO Int:= .str (bu (bu hL)) 4 fO.nV fun b g=> { b with nV:=g }
instance:a5 fO:=⟨a5.cells ao ++ a5.cells ao ++ a5.cells Int,fun A W=>⟨by rfl,a5.ok (α:=ao) A W,a5.ok (α:=ao) A W,a5.ok (α:=Int) A W⟩⟩
structure db where
 bF:Int
 hl:Int
 lW:Int
 nf:List fO
 gu:Int
 deriving DecidableEq,Inhabited
instance:ad db:= .str (c2 Int (c2 Int (c2 Int (c2 (List fO) (g5 Int))))) (fun x=>(x.bF,x.hl,x.lW,x.nf,x.gu)) 5
def Ax:aL db Int:= .str df 0 db.bF fun b g=> { b with bF:=g }
def CJ:aL db Int:= .str (bu df) 1 db.hl fun b g=> { b with hl:=g }
def Hy:aL db Int:= .str (bu (bu df)) 2 db.lW fun b g=> { b with lW:=g }
def Ad:aL db (List fO):= .str (bu (bu (bu df))) 3 db.nf fun b g=> { b with nf:=g }
def CG:aL db Int:= .str (bu (bu (bu (bu hL)))) 4 db.gu fun b g=> { b with gu:=g }
instance:a5 db:=⟨a5.cells Int ++ a5.cells Int ++ a5.cells Int ++ a5.cells (List fO) ++ a5.cells Int,fun A W=>⟨by rfl,a5.ok (α:=Int) A W,a5.ok (α:=Int) A W,a5.ok (α:=Int) A W,a5.ok (α:=List fO) A W,a5.ok (α:=Int) A W⟩⟩
structure hG where
 b7:ByteArray
 eO:Int
 deriving DecidableEq,Inhabited
instance:ad hG:= .str (c2 ByteArray (g5 Int)) (fun x=>(x.b7,x.eO)) 2
def Ak:aL hG ByteArray:= .str df 0 hG.b7 fun b g=> { b with b7:=g }
def wu:aL hG Int:= .str (bu hL) 1 hG.eO fun b g=> { b with eO:=g }
instance:a5 hG:=⟨a5.cells ByteArray ++ a5.cells Int,fun A W=>⟨by rfl,a5.ok (α:=ByteArray) A W,a5.ok (α:=Int) A W⟩⟩
structure e9 where
 cI:Int
 s7:Int
 bR:ao
 deriving DecidableEq,Inhabited
instance:ad e9:= .str (c2 Int (c2 Int (g5 ao))) (fun x=>(x.cI,x.s7,x.bR)) 4
def z8:aL e9 Int:= .str df 0 e9.cI fun b g=> { b with cI:=g }
def HC:aL e9 Int:= .str (bu df) 1 e9.s7 fun b g=> { b with s7:=g }
def Np:aL e9 ao:= .str (bu (bu hL)) 2 e9.bR fun b g=> { b with bR:=g }
instance:a5 e9:=⟨a5.cells Int ++ a5.cells Int ++ a5.cells ao,fun A W=>⟨by rfl,a5.ok (α:=Int) A W,a5.ok (α:=Int) A W,a5.ok (α:=ao) A W⟩⟩
structure ey where
 hn:Int
 iA:Int
 jv:e9
 deriving DecidableEq,Inhabited
instance:ad ey:= .str (c2 Int (c2 Int (g5 e9))) (fun x=>(x.hn,x.iA,x.jv)) 6
def pk:aL ey Int:= .str df 0 ey.hn fun b g=> { b with hn:=g }
def r4:aL ey Int:= .str (bu df) 1 ey.iA fun b g=> { b with iA:=g }
def tS:aL ey e9:= .str (bu (bu hL)) 2 ey.jv fun b g=> { b with jv:=g }
instance:a5 ey:=⟨a5.cells Int ++ a5.cells Int ++ a5.cells e9,fun A W=>⟨by rfl,a5.ok (α:=Int) A W,a5.ok (α:=Int) A W,a5.ok (α:=e9) A W⟩⟩
structure dp where
 bF:Int
 b7:ByteArray
 iY:List hG
 mB:List ey
 oA:ByteArray
 deriving DecidableEq,Inhabited
instance:ad dp:= .str (c2 Int (c2 ByteArray (c2 (List hG) (c2 (List ey) (g5 ByteArray))))) (fun x=>(x.bF,x.b7,x.iY,x.mB,x.oA)) 5
def qA:aL dp Int:= .str df 0 dp.bF fun b g=> { b with bF:=g }
def tM:aL dp ByteArray:= .str (bu df) 1 dp.b7 fun b g=> { b with b7:=g }
def z6:aL dp (List hG):= .str (bu (bu df)) 2 dp.iY fun b g=> { b with iY:=g }
def we:aL dp (List ey):= .str (bu (bu (bu df))) 3 dp.mB fun b g=> { b with mB:=g }
def Hr:aL dp ByteArray:= .str (bu (bu (bu (bu hL)))) 4 dp.oA fun b g=> { b with oA:=g }
instance:a5 dp:=⟨a5.cells Int ++ a5.cells ByteArray ++ a5.cells (List hG) ++ a5.cells (List ey) ++ a5.cells ByteArray,fun A W=>⟨by rfl,a5.ok (α:=Int) A W,a5.ok (α:=ByteArray) A W,a5.ok (α:=List hG) A W,a5.ok (α:=List ey) A W,a5.ok (α:=ByteArray) A W⟩⟩
structure cn where
 b7:ByteArray
 ga:Int
 cI:Int
 deriving DecidableEq,Inhabited
instance:ad cn:= .str (c2 ByteArray (c2 Int (g5 Int))) (fun x=>(x.b7,x.ga,x.cI)) 3
def pj:aL cn ByteArray:= .str df 0 cn.b7 fun b g=> { b with b7:=g }
def m8:aL cn Int:= .str (bu df) 1 cn.ga fun b g=> { b with ga:=g }
def ka:aL cn Int:= .str (bu (bu hL)) 2 cn.cI fun b g=> { b with cI:=g }
instance:a5 cn:=⟨a5.cells ByteArray ++ a5.cells Int ++ a5.cells Int,fun A W=>⟨by rfl,a5.ok (α:=ByteArray) A W,a5.ok (α:=Int) A W,a5.ok (α:=Int) A W⟩⟩
structure bN where
 bF:Int
 b7:ByteArray
 b1:List cn
 cX:List Int
 gu:Int
 r7:List ao
 kE:Int
 oA:ByteArray
 deriving DecidableEq,Inhabited
instance:ad bN:= .str (c2 Int (c2 ByteArray (c2 (List cn) (c2 (List Int) (c2 Int (c2 (List ao) (c2 Int (g5 ByteArray)))))))) (fun x=>(x.bF,x.b7,x.b1,x.cX,x.gu,x.r7,x.kE,x.oA)) 8
def nO:aL bN Int:= .str df 0 bN.bF fun b g=> { b with bF:=g }
def Al:aL bN ByteArray:= .str (bu df) 1 bN.b7 fun b g=> { b with b7:=g }
def iM:aL bN (List cn):= .str (bu (bu df)) 2 bN.b1 fun b g=> { b with b1:=g }
def tK:aL bN (List Int):= .str (bu (bu (bu df))) 3 bN.cX fun b g=> { b with cX:=g }
def z7:aL bN Int:= .str (bu (bu (bu (bu df)))) 4 bN.gu fun b g=> { b with gu:=g }
def Ng:aL bN (List ao):= .str (bu (bu (bu (bu (bu df))))) 5 bN.r7 fun b g=> { b with r7:=g }
def Am:aL bN Int:= .str (bu (bu (bu (bu (bu (bu df)))))) 6 bN.kE fun b g=> { b with kE:=g }
def Nh:aL bN ByteArray:= .str (bu (bu (bu (bu (bu (bu (bu hL))))))) 7 bN.oA fun b g=> { b with oA:=g }
instance:a5 bN:=⟨a5.cells Int ++ a5.cells ByteArray ++ a5.cells (List cn) ++ a5.cells (List Int) ++ a5.cells Int ++ a5.cells (List ao) ++ a5.cells Int ++ a5.cells ByteArray,fun A W=>⟨by rfl,a5.ok (α:=Int) A W,a5.ok (α:=ByteArray) A W,a5.ok (α:=List cn) A W,a5.ok (α:=List Int) A W,a5.ok (α:=Int) A W,a5.ok (α:=List ao) A W,a5.ok (α:=Int) A W,a5.ok (α:=ByteArray) A W⟩⟩
structure fa where
 dq:Int
 hl:Int
 deriving DecidableEq,Inhabited
instance:ad fa:= .str (c2 Int (g5 Int)) (fun x=>(x.dq,x.hl)) 2
def wh:aL fa Int:= .str df 0 fa.dq fun b g=> { b with dq:=g }
def CL:aL fa Int:= .str (bu hL) 1 fa.hl fun b g=> { b with hl:=g }
instance:a5 fa:=⟨a5.cells Int ++ a5.cells Int,fun A W=>⟨by rfl,a5.ok (α:=Int) A W,a5.ok (α:=Int) A W⟩⟩
structure c4 where
 dq:Int
 pF:Bool
 pz:Bool
 b1:List Bool
 deriving DecidableEq,Inhabited
instance:ad c4:= .str (c2 Int (c2 Bool (c2 Bool (g5 (List Bool))))) (fun x=>(x.dq,x.pF,x.pz,x.b1)) 4
def CM:aL c4 Int:= .str df 0 c4.dq fun b g=> { b with dq:=g }
def CS:aL c4 Bool:= .str (bu df) 1 c4.pF fun b g=> { b with pF:=g }
def CN:aL c4 Bool:= .str (bu (bu df)) 2 c4.pz fun b g=> { b with pz:=g }
def CT:aL c4 (List Bool):= .str (bu (bu (bu hL))) 3 c4.b1 fun b g=> { b with b1:=g }
instance:a5 c4:=⟨a5.cells Int ++ a5.cells Bool ++ a5.cells Bool ++ a5.cells (List Bool),fun A W=>⟨by rfl,a5.ok (α:=Int) A W,a5.ok (α:=Bool) A W,a5.ok (α:=Bool) A W,a5.ok (α:=List Bool) A W⟩⟩
structure cm where
 bF:Int
 b7:ByteArray
 ic:List c4
 cX:List Int
 py:Int
 xp:Bool
 deriving DecidableEq,Inhabited
instance:ad cm:= .str (c2 Int (c2 ByteArray (c2 (List c4) (c2 (List Int) (c2 Int (g5 Bool)))))) (fun x=>(x.bF,x.b7,x.ic,x.cX,x.py,x.xp)) 6
def Az:aL cm Int:= .str df 0 cm.bF fun b g=> { b with bF:=g }
def CY:aL cm ByteArray:= .str (bu df) 1 cm.b7 fun b g=> { b with b7:=g }
def tN:aL cm (List c4):= .str (bu (bu df)) 2 cm.ic fun b g=> { b with ic:=g }
def CK:aL cm (List Int):= .str (bu (bu (bu df))) 3 cm.cX fun b g=> { b with cX:=g }
def CR:aL cm Int:= .str (bu (bu (bu (bu df)))) 4 cm.py fun b g=> { b with py:=g }
def NQ:aL cm Bool:= .str (bu (bu (bu (bu (bu hL))))) 5 cm.xp fun b g=> { b with xp:=g }
instance:a5 cm:=⟨a5.cells Int ++ a5.cells ByteArray ++ a5.cells (List c4) ++ a5.cells (List Int) ++ a5.cells Int ++ a5.cells Bool,fun A W=>⟨by rfl,a5.ok (α:=Int) A W,a5.ok (α:=ByteArray) A W,a5.ok (α:=List c4) A W,a5.ok (α:=List Int) A W,a5.ok (α:=Int) A W,a5.ok (α:=Bool) A W⟩⟩
structure ez where
 dq:Int
 sF:Int
 kB:Int
 Rw:Int
 nP:Int
 Rx:Int
 deriving DecidableEq,Inhabited
instance:ad ez:= .str (c2 Int (c2 Int (c2 Int (c2 Int (c2 Int (g5 Int)))))) (fun x=>(x.dq,x.sF,x.kB,x.Rw,x.nP,x.Rx)) 6
def Au:aL ez Int:= .str df 0 ez.dq fun b g=> { b with dq:=g }
def HH:aL ez Int:= .str (bu df) 1 ez.sF fun b g=> { b with sF:=g }
def HA:aL ez Int:= .str (bu (bu df)) 2 ez.kB fun b g=> { b with kB:=g }
def Af:aL ez Int:= .str (bu (bu (bu (bu df)))) 4 ez.nP fun b g=> { b with nP:=g }
instance:a5 ez:=⟨a5.cells Int ++ a5.cells Int ++ a5.cells Int ++ a5.cells Int ++ a5.cells Int ++ a5.cells Int,fun A W=>⟨by rfl,a5.ok (α:=Int) A W,a5.ok (α:=Int) A W,a5.ok (α:=Int) A W,a5.ok (α:=Int) A W,a5.ok (α:=Int) A W,a5.ok (α:=Int) A W⟩⟩
structure a3 where
 e2:List eS
 kA:List iv
 kU:List db
 cX:List dp
 bH:List bN
 lX:List fa
 ix:List cm
 mC:List ez
 w2:Int
 xe:Int
 deriving DecidableEq,Inhabited
instance:ad a3:= .str (c2 (List eS) (c2 (List iv) (c2 (List db) (c2 (List dp) (c2 (List bN) (c2 (List fa) (c2 (List cm) (c2 (List ez) (c2 Int (g5 Int)))))))))) (fun x=>(x.e2,x.kA,x.kU,x.cX,x.bH,x.lX,x.ix,x.mC,x.w2,x.xe)) 10
def tJ:aL a3 (List eS):= .str df 0 a3.e2 fun b g=> { b with e2:=g }
def Hu:aL a3 (List iv):= .str (bu df) 1 a3.kA fun b g=> { b with kA:=g }
def Hw:aL a3 (List db):= .str (bu (bu df)) 2 a3.kU fun b g=> { b with kU:=g }
def CF:aL a3 (List dp):= .str (bu (bu (bu df))) 3 a3.cX fun b g=> { b with cX:=g }
def lk:aL a3 (List bN):= .str (bu (bu (bu (bu df)))) 4 a3.bH fun b g=> { b with bH:=g }
def CI:aL a3 (List fa):= .str (bu (bu (bu (bu (bu df))))) 5 a3.lX fun b g=> { b with lX:=g }
def Hx:aL a3 (List cm):= .str (bu (bu (bu (bu (bu (bu df)))))) 6 a3.ix fun b g=> { b with ix:=g }
def Ae:aL a3 (List ez):= .str (bu (bu (bu (bu (bu (bu (bu df))))))) 7 a3.mC fun b g=> { b with mC:=g }
def Nm:aL a3 Int:= .str (bu (bu (bu (bu (bu (bu (bu (bu df)))))))) 8 a3.w2 fun b g=> { b with w2:=g }
def Nq:aL a3 Int:= .str (bu (bu (bu (bu (bu (bu (bu (bu (bu hL))))))))) 9 a3.xe fun b g=> { b with xe:=g }
instance:a5 a3:=⟨a5.cells (List eS) ++ a5.cells (List iv) ++ a5.cells (List db) ++ a5.cells (List dp) ++ a5.cells (List bN) ++ a5.cells (List fa) ++ a5.cells (List cm) ++ a5.cells (List ez) ++ a5.cells Int ++ a5.cells Int,fun A W=>⟨by rfl,a5.ok (α:=List eS) A W,a5.ok (α:=List iv) A W,a5.ok (α:=List db) A W,a5.ok (α:=List dp) A W,a5.ok (α:=List bN) A W,a5.ok (α:=List fa) A W,a5.ok (α:=List cm) A W,a5.ok (α:=List ez) A W,a5.ok (α:=Int) A W,a5.ok (α:=Int) A W⟩⟩
theorem yz:cx Tryz.prog 33 (default:a3):=cx.of (by kernel_rfl)
theorem bG:bt Tryz.prog 3 Int:=bt.of (by rfl) Tryz.underlying3 (by kernel_rfl)
theorem xm:b8 Tryz.prog 117 1 1:=b8.of Tryz.underlying117 rfl rfl bG rfl
theorem BH:bt Tryz.prog 22 (List (BitVec 8)):=bt.of (by rfl) Tryz.underlying22 (by kernel_rfl)
theorem DK:b8 Tryz.prog 117 0 0:=b8.of Tryz.underlying117 rfl rfl BH rfl
theorem mixed:Tryz.prog.follows .mixedOrders=true:=by kernel_rfl
theorem Lw:bQ Tryz.prog 26:=⟨_,Tryz.func26,rfl,by kernel_rfl⟩
theorem gd:bQ Tryz.prog 32:=⟨_,Tryz.func32,rfl,by kernel_rfl⟩
theorem Un:gX Tryz.prog 33 #[(0,1),(1,1),(2,1),(3,1),(4,1),(5,1),(6,1),(7,1),(8,1),(9,1)]:=⟨_,Tryz.underlying33,by kernel_rfl,by kernel_rfl⟩
theorem fy:bt Tryz.prog 33 a3:=bt.of (by rfl) Tryz.underlying33 (by kernel_rfl)
theorem nm:cx Tryz.prog 119 (default:eS):=cx.of (by kernel_rfl)
theorem pS:gX Tryz.prog 119 #[(0,1),(1,1),(2,1)]:=⟨_,Tryz.underlying119,by kernel_rfl,by kernel_rfl⟩
theorem n0:bt Tryz.prog 119 eS:=bt.of (by rfl) Tryz.underlying119 (by kernel_rfl)
theorem sM:bt Tryz.prog 24 (List eS):=bt.of (by rfl) Tryz.underlying24 (by kernel_rfl)
theorem uK:b8 Tryz.prog 33 0 0:=b8.of Tryz.underlying33 rfl rfl sM rfl
theorem hy:cx Tryz.prog 3 (default:Int):=cx.of (by kernel_rfl)
theorem xT:cx Tryz.prog 121 (default:iv):=cx.of (by kernel_rfl)
theorem EL:gX Tryz.prog 121 #[(0,1),(1,1),(2,1)]:=⟨_,Tryz.underlying121,by kernel_rfl,by kernel_rfl⟩
theorem Br:bt Tryz.prog 121 iv:=bt.of (by rfl) Tryz.underlying121 (by kernel_rfl)
theorem Fb:bt Tryz.prog 25 (List iv):=bt.of (by rfl) Tryz.underlying25 (by kernel_rfl)
theorem Ka:b8 Tryz.prog 33 1 1:=b8.of Tryz.underlying33 rfl rfl Fb rfl
theorem q7:cx Tryz.prog 193 (default:db):=cx.of (by kernel_rfl)
theorem EH:gX Tryz.prog 193 #[(0,1),(1,1),(2,1),(3,1),(4,1)]:=⟨_,Tryz.underlying193,by kernel_rfl,by kernel_rfl⟩
theorem oL:bt Tryz.prog 193 db:=bt.of (by rfl) Tryz.underlying193 (by kernel_rfl)
theorem dP:cx Tryz.prog 43 (default:ao):=cx.of (by kernel_rfl)
theorem gS:gX Tryz.prog 43 #[(0,1),(1,1)]:=⟨_,Tryz.underlying43,by kernel_rfl,by kernel_rfl⟩
theorem q9:cx Tryz.prog 195 (default:fO):=cx.of (by kernel_rfl)
theorem Bs:gX Tryz.prog 195 #[(0,2),(2,2),(4,1)]:=⟨_,Tryz.underlying195,by kernel_rfl,by kernel_rfl⟩
theorem Bt:bt Tryz.prog 195 fO:=bt.of (by rfl) Tryz.underlying195 (by kernel_rfl)
theorem xU:bt Tryz.prog 191 (List fO):=bt.of (by rfl) Tryz.underlying191 (by kernel_rfl)
theorem A1:b8 Tryz.prog 193 3 3:=b8.of Tryz.underlying193 rfl rfl xU rfl
theorem mb:bQ Tryz.prog 55:=⟨_,Tryz.func55,rfl,by kernel_rfl⟩
theorem Jz:iW Tryz.prog 193 [3]:=by unfold iW; kernel_rfl
theorem Uo:bQ Tryz.prog 68:=⟨_,Tryz.func68,rfl,by kernel_rfl⟩
theorem xV:cx Tryz.prog 197 (default:e9):=cx.of (by kernel_rfl)
theorem Bu:gX Tryz.prog 197 #[(0,1),(1,1),(2,2)]:=⟨_,Tryz.underlying197,by kernel_rfl,by kernel_rfl⟩
theorem Bv:bt Tryz.prog 197 e9:=bt.of (by rfl) Tryz.underlying197 (by kernel_rfl)
theorem nZ:cx Tryz.prog 148 (default:dp):=cx.of (by kernel_rfl)
theorem sD:gX Tryz.prog 148 #[(0,1),(1,1),(2,1),(3,1),(4,1)]:=⟨_,Tryz.underlying148,by kernel_rfl,by kernel_rfl⟩
theorem l5:cx Tryz.prog 199 (default:ey):=cx.of (by kernel_rfl)
theorem pQ:gX Tryz.prog 199 #[(0,1),(1,1),(2,4)]:=⟨_,Tryz.underlying199,by kernel_rfl,by kernel_rfl⟩
theorem xW:bt Tryz.prog 199 ey:=bt.of (by rfl) Tryz.underlying199 (by kernel_rfl)
theorem ra:cx Tryz.prog 151 (default:hG):=cx.of (by kernel_rfl)
theorem Bw:gX Tryz.prog 151 #[(0,1),(1,1)]:=⟨_,Tryz.underlying151,by kernel_rfl,by kernel_rfl⟩
theorem uZ:bt Tryz.prog 151 hG:=bt.of (by rfl) Tryz.underlying151 (by kernel_rfl)
theorem l4:bt Tryz.prog 148 dp:=bt.of (by rfl) Tryz.underlying148 (by kernel_rfl)
theorem oa:bt Tryz.prog 9 ByteArray:=bt.of (by rfl) Tryz.underlying9 (by kernel_rfl)
theorem JA:b8 Tryz.prog 148 4 4:=b8.of Tryz.underlying148 rfl rfl oa rfl
theorem Up:bQ Tryz.prog 69:=⟨_,Tryz.func69,rfl,by kernel_rfl⟩
theorem iB:cx Tryz.prog 86 (default:cn):=cx.of (by kernel_rfl)
theorem pZ:gX Tryz.prog 86 #[(0,1),(1,1),(2,1)]:=⟨_,Tryz.underlying86,by kernel_rfl,by kernel_rfl⟩
theorem hS:bt Tryz.prog 86 cn:=bt.of (by rfl) Tryz.underlying86 (by kernel_rfl)
theorem k2:cx Tryz.prog 65 (default:bN):=cx.of (by kernel_rfl)
theorem yq:gX Tryz.prog 65 #[(0,1),(1,1),(2,1),(3,1),(4,1),(5,1),(6,1),(7,1)]:=⟨_,Tryz.underlying65,by kernel_rfl,by kernel_rfl⟩
theorem fQ:bt Tryz.prog 65 bN:=bt.of (by rfl) Tryz.underlying65 (by kernel_rfl)
theorem jT:bt Tryz.prog 62 (List cn):=bt.of (by rfl) Tryz.underlying62 (by kernel_rfl)
theorem kc:b8 Tryz.prog 65 2 2:=b8.of Tryz.underlying65 rfl rfl jT rfl
theorem Ed:iW Tryz.prog 65 [2]:=by unfold iW; kernel_rfl
theorem Ec:iW Tryz.prog 65 []:=by unfold iW; kernel_rfl
theorem bT:bt Tryz.prog 43 ao:=bt.of (by rfl) Tryz.underlying43 (by kernel_rfl)
theorem B4:cx Tryz.prog 9 (default:ByteArray):=cx.of (by kernel_rfl)
theorem EI:bt Tryz.prog 200 (List ByteArray):=bt.of (by rfl) Tryz.underlying200 (by kernel_rfl)
theorem SE:cx Tryz.prog 200 (default:List ByteArray):=cx.of (by kernel_rfl)
theorem RB:b8 Tryz.prog 65 7 7:=b8.of Tryz.underlying65 rfl rfl oa rfl
theorem Uq:bQ Tryz.prog 70:=⟨_,Tryz.func70,rfl,by kernel_rfl⟩
theorem Fc:bt Tryz.prog 26 (List db):=bt.of (by rfl) Tryz.underlying26 (by kernel_rfl)
theorem Kb:b8 Tryz.prog 33 2 2:=b8.of Tryz.underlying33 rfl rfl Fc rfl
theorem BI:bt Tryz.prog 27 (List dp):=bt.of (by rfl) Tryz.underlying27 (by kernel_rfl)
theorem Ea:b8 Tryz.prog 33 3 3:=b8.of Tryz.underlying33 rfl rfl BI rfl
theorem k1:bt Tryz.prog 28 (List bN):=bt.of (by rfl) Tryz.underlying28 (by kernel_rfl)
theorem lp:b8 Tryz.prog 33 4 4:=b8.of Tryz.underlying33 rfl rfl k1 rfl
theorem q8:cx Tryz.prog 204 (default:cm):=cx.of (by kernel_rfl)
theorem EJ:gX Tryz.prog 204 #[(0,1),(1,1),(2,1),(3,1),(4,1),(5,1)]:=⟨_,Tryz.underlying204,by kernel_rfl,by kernel_rfl⟩
theorem oM:bt Tryz.prog 204 cm:=bt.of (by rfl) Tryz.underlying204 (by kernel_rfl)
theorem k8:bt Tryz.prog 4 Bool:=bt.of (by rfl) Tryz.underlying4 (by kernel_rfl)
theorem L1:cx Tryz.prog 4 (default:Bool):=cx.of (by kernel_rfl)
theorem sE:bt Tryz.prog 202 (List c4):=bt.of (by rfl) Tryz.underlying202 (by kernel_rfl)
theorem uD:b8 Tryz.prog 204 2 2:=b8.of Tryz.underlying204 rfl rfl sE rfl
theorem sr:b8 Tryz.prog 65 0 0:=b8.of Tryz.underlying65 rfl rfl bG rfl
theorem pR:cx Tryz.prog 207 (default:c4):=cx.of (by kernel_rfl)
theorem EK:gX Tryz.prog 207 #[(0,1),(1,1),(2,1),(3,1)]:=⟨_,Tryz.underlying207,by kernel_rfl,by kernel_rfl⟩
theorem u0:bt Tryz.prog 207 c4:=bt.of (by rfl) Tryz.underlying207 (by kernel_rfl)
theorem uC:iW Tryz.prog 204 [2]:=by unfold iW; kernel_rfl
theorem Ur:bQ Tryz.prog 71:=⟨_,Tryz.func71,rfl,by kernel_rfl⟩
theorem Fe:bt Tryz.prog 30 (List cm):=bt.of (by rfl) Tryz.underlying30 (by kernel_rfl)
theorem Kc:b8 Tryz.prog 33 6 6:=b8.of Tryz.underlying33 rfl rfl Fe rfl
theorem re:cx Tryz.prog 127 (default:fa):=cx.of (by kernel_rfl)
theorem xX:gX Tryz.prog 127 #[(0,1),(1,1)]:=⟨_,Tryz.underlying127,by kernel_rfl,by kernel_rfl⟩
theorem EM:bt Tryz.prog 127 fa:=bt.of (by rfl) Tryz.underlying127 (by kernel_rfl)
theorem BK:bt Tryz.prog 29 (List fa):=bt.of (by rfl) Tryz.underlying29 (by kernel_rfl)
theorem Ee:b8 Tryz.prog 33 5 5:=b8.of Tryz.underlying33 rfl rfl BK rfl
theorem sT:bt Tryz.prog 31 (List ez):=bt.of (by rfl) Tryz.underlying31 (by kernel_rfl)
theorem uN:b8 Tryz.prog 33 7 7:=b8.of Tryz.underlying33 rfl rfl sT rfl
theorem oN:cx Tryz.prog 129 (default:ez):=cx.of (by kernel_rfl)
theorem Bx:gX Tryz.prog 129 #[(0,1),(1,1),(2,1),(3,1),(4,1),(5,1)]:=⟨_,Tryz.underlying129,by kernel_rfl,by kernel_rfl⟩
theorem u1:bt Tryz.prog 129 ez:=bt.of (by rfl) Tryz.underlying129 (by kernel_rfl)
theorem I4:iW Tryz.prog 33 [5,7]:=by unfold iW; kernel_rfl
theorem LG:bQ Tryz.prog 16:=⟨_,Tryz.func16,rfl,by kernel_rfl⟩
structure ch where
 h1:Bool
 bR:ao
 bK:ao
 gw:Int
 nW:ao
 deriving DecidableEq,Inhabited
instance:ad ch:= .str (c2 Bool (c2 ao (c2 ao (c2 Int (g5 ao))))) (fun x=>(x.h1,x.bR,x.bK,x.gw,x.nW)) 8
def rY:aL ch Bool:= .str df 0 ch.h1 fun b g=> { b with h1:=g }
def qz:aL ch ao:= .str (bu df) 1 ch.bR fun b g=> { b with bR:=g }
def An:aL ch ao:= .str (bu (bu df)) 3 ch.bK fun b g=> { b with bK:=g }
def rZ:aL ch Int:= .str (bu (bu (bu df))) 5 ch.gw fun b g=> { b with gw:=g }
def CW:aL ch ao:= .str (bu (bu (bu (bu hL)))) 6 ch.nW fun b g=> { b with nW:=g }
instance:a5 ch:=⟨a5.cells Bool ++ a5.cells ao ++ a5.cells ao ++ a5.cells Int ++ a5.cells ao,fun A W=>⟨by rfl,a5.ok (α:=Bool) A W,a5.ok (α:=ao) A W,a5.ok (α:=ao) A W,a5.ok (α:=Int) A W,a5.ok (α:=ao) A W⟩⟩
structure bE where
 dq:Int
 cA:List ch
 gF:Int
 kB:Int
 lq:List ao
 deriving DecidableEq,Inhabited
instance:ad bE:= .str (c2 Int (c2 (List ch) (c2 Int (c2 Int (g5 (List ao)))))) (fun x=>(x.dq,x.cA,x.gF,x.kB,x.lq)) 5
def pg:aL bE Int:= .str df 0 bE.dq fun b g=> { b with dq:=g }
def jM:aL bE (List ch):= .str (bu df) 1 bE.cA fun b g=> { b with cA:=g }
def nN:aL bE Int:= .str (bu (bu df)) 2 bE.gF fun b g=> { b with gF:=g }
def Ab:aL bE Int:= .str (bu (bu (bu df))) 3 bE.kB fun b g=> { b with kB:=g }
def Ai:aL bE (List ao):= .str (bu (bu (bu (bu hL)))) 4 bE.lq fun b g=> { b with lq:=g }
instance:a5 bE:=⟨a5.cells Int ++ a5.cells (List ch) ++ a5.cells Int ++ a5.cells Int ++ a5.cells (List ao),fun A W=>⟨by rfl,a5.ok (α:=Int) A W,a5.ok (α:=List ch) A W,a5.ok (α:=Int) A W,a5.ok (α:=Int) A W,a5.ok (α:=List ao) A W⟩⟩
structure aM where
 b5:bE
 cy:Int
 Ry:Int
 deriving DecidableEq,Inhabited
instance:ad aM:= .str (c2 bE (c2 Int (g5 Int))) (fun x=>(x.b5,x.cy,x.Ry)) 7
def iL:aL aM bE:= .str df 0 aM.b5 fun b g=> { b with b5:=g }
def jL:aL aM Int:= .str (bu df) 5 aM.cy fun b g=> { b with cy:=g }
instance:a5 aM:=⟨a5.cells bE ++ a5.cells Int ++ a5.cells Int,fun A W=>⟨by rfl,a5.ok (α:=bE) A W,a5.ok (α:=Int) A W,a5.ok (α:=Int) A W⟩⟩
theorem St:bQ Tryz.prog 119:=⟨_,Tryz.func119,rfl,by kernel_rfl⟩
theorem Su:bQ Tryz.prog 118:=⟨_,Tryz.func118,rfl,by kernel_rfl⟩
theorem BJ:bQ Tryz.prog 82:=⟨_,Tryz.func82,rfl,by kernel_rfl⟩
theorem pB:b8 Tryz.prog 86 2 2:=b8.of Tryz.underlying86 rfl rfl bG rfl
theorem Uz:bQ Tryz.prog 83:=⟨_,Tryz.func83,rfl,by kernel_rfl⟩
structure kb where
 qc:Ref
 deriving DecidableEq,Inhabited
instance:ad kb:= .str (g5 Ref) (fun x=>x.qc) 1
def CQ:aL kb Ref:= .str hL 0 kb.qc fun b g=> { b with qc:=g }
instance:a5 kb:=⟨a5.cells Ref,fun A W=>⟨by rfl,a5.ok (α:=Ref) A W⟩⟩
structure ef where
 pT:Int
 eN:Int
 fv:fR
 deriving DecidableEq,Inhabited
instance:ad ef:= .str (c2 Int (c2 Int (g5 fR))) (fun x=>(x.pT,x.eN,x.fv)) 3
def vZ:aL ef Int:= .str df 0 ef.pT fun b g=> { b with pT:=g }
def rX:aL ef Int:= .str (bu df) 1 ef.eN fun b g=> { b with eN:=g }
def m6:aL ef fR:= .str (bu (bu hL)) 2 ef.fv fun b g=> { b with fv:=g }
instance:a5 ef:=⟨a5.cells Int ++ a5.cells Int ++ a5.cells fR,fun A W=>⟨by rfl,a5.ok (α:=Int) A W,a5.ok (α:=Int) A W,a5.ok (α:=fR) A W⟩⟩
structure jr where
 dE:Ref
 deriving DecidableEq,Inhabited
instance:ad jr:= .str (g5 Ref) (fun x=>x.dE) 1
def CU:aL jr Ref:= .str hL 0 jr.dE fun b g=> { b with dE:=g }
instance:a5 jr:=⟨a5.cells Ref,fun A W=>⟨by rfl,a5.ok (α:=Ref) A W⟩⟩
inductive gr where
 | nil
 | mN (x:kb)
 | mO (x:ef)
 | mP (x:jr)
 deriving DecidableEq,Inhabited
instance:ad gr where
 size:=1
 agg:=false
 rep A W cs x:=match x with
  | .nil=>cs= [.nilIface]
  | .mN x=> ∃ v,cs= [.iface 166 v]∧ (I.of x).holds A W v
  | .mO x=> ∃ v,cs= [.iface 169 v]∧ (I.of x).holds A W v
  | .mP x=> ∃ v,cs= [.iface 173 v]∧ (I.of x).holds A W v
 len {A W cs x} h:=by cases x <;> first | (have h:cs=_:=h; rw [h]; rfl) | (obtain⟨v,h,_⟩:=h; rw [h]; rfl)
 one {A W cs x} h:=by
  intro u hu
  cases x <;> first | (have h:cs=_:=h; rw [h] at hu; rw [List.mem_singleton.1 hu]; rfl) | (obtain⟨v,h,_⟩:=h; rw [h] at hu; rw [List.mem_singleton.1 hu]; rfl)
 flat _:=rfl
 mono {A W cH W' cs x} e h:=by cases x <;> first | exact h | (obtain⟨v,h,ab⟩:=h; exact⟨v,h,I.mono _ e ab⟩)
instance:a5 gr:=⟨[.nilIface],fun _ _=>rfl⟩
theorem PJ {A W v} {x:kb} (h:(I.of x).holds A W v):(I.of (gr.mN x)).holds A W (.iface 166 v):=⟨rfl,v,rfl,h⟩
theorem II {A W u} {x:kb} (h:(I.of (gr.mN x)).holds A W u):∃ v,u= .iface 166 v∧ (I.of x).holds A W v:=by
 obtain⟨J,v,ab,aC⟩:=h
 exact⟨v,na J ab,aC⟩
theorem PK {A W v} {x:ef} (h:(I.of x).holds A W v):(I.of (gr.mO x)).holds A W (.iface 169 v):=⟨rfl,v,rfl,h⟩
theorem IJ {A W u} {x:ef} (h:(I.of (gr.mO x)).holds A W u):∃ v,u= .iface 169 v∧ (I.of x).holds A W v:=by
 obtain⟨J,v,ab,aC⟩:=h
 exact⟨v,na J ab,aC⟩
theorem PL {A W v} {x:jr} (h:(I.of x).holds A W v):(I.of (gr.mP x)).holds A W (.iface 173 v):=⟨rfl,v,rfl,h⟩
theorem IK {A W u} {x:jr} (h:(I.of (gr.mP x)).holds A W u):∃ v,u= .iface 173 v∧ (I.of x).holds A W v:=by
 obtain⟨J,v,ab,aC⟩:=h
 exact⟨v,na J ab,aC⟩
structure gZ where
 pI:Int
 pJ:Int
 js:gr
 lV:fR
 deriving DecidableEq,Inhabited
instance:ad gZ:= .str (c2 Int (c2 Int (c2 gr (g5 fR)))) (fun x=>(x.pI,x.pJ,x.js,x.lV)) 4
def NB:aL gZ Int:= .str df 0 gZ.pI fun b g=> { b with pI:=g }
def NC:aL gZ Int:= .str (bu df) 1 gZ.pJ fun b g=> { b with pJ:=g }
def v3:aL gZ gr:= .str (bu (bu df)) 2 gZ.js fun b g=> { b with js:=g }
def CE:aL gZ fR:= .str (bu (bu (bu hL))) 3 gZ.lV fun b g=> { b with lV:=g }
instance:a5 gZ:=⟨a5.cells Int ++ a5.cells Int ++ a5.cells gr ++ a5.cells fR,fun A W=>⟨by rfl,a5.ok (α:=Int) A W,a5.ok (α:=Int) A W,a5.ok (α:=gr) A W,a5.ok (α:=fR) A W⟩⟩
theorem Tl:cx Tryz.prog 135 (default:gZ):=cx.of (by kernel_rfl)
theorem Tk:gX Tryz.prog 135 #[(0,1),(1,1),(2,1),(3,1)]:=⟨_,Tryz.underlying135,by kernel_rfl,by kernel_rfl⟩
structure lU where
 nY:fR
 deriving DecidableEq,Inhabited
instance:ad lU:= .str (g5 fR) (fun x=>x.nY) 1
def Ac:aL lU fR:= .str hL 0 lU.nY fun b g=> { b with nY:=g }
instance:a5 lU:=⟨a5.cells fR,fun A W=>⟨by rfl,a5.ok (α:=fR) A W⟩⟩
theorem Sf:cx Tryz.prog 224 (default:lU):=cx.of (by kernel_rfl)
theorem Se:gX Tryz.prog 224 #[(0,1)]:=⟨_,Tryz.underlying224,by kernel_rfl,by kernel_rfl⟩
theorem UA:bQ Tryz.prog 84:=⟨_,Tryz.func84,rfl,by kernel_rfl⟩
theorem Tn:cx Tryz.prog 166 (default:kb):=cx.of (by kernel_rfl)
theorem Tm:gX Tryz.prog 166 #[(0,1)]:=⟨_,Tryz.underlying166,by kernel_rfl,by kernel_rfl⟩
theorem va:bt Tryz.prog 132 gr:=bt.of (by rfl) Tryz.underlying132 (by kernel_rfl)
theorem xq:b8 Tryz.prog 135 2 2:=b8.of Tryz.underlying135 rfl rfl va rfl
theorem DL:b8 Tryz.prog 119 0 0:=b8.of Tryz.underlying119 rfl rfl bG rfl
theorem Sv:bQ Tryz.prog 121:=⟨_,Tryz.func121,rfl,by kernel_rfl⟩
theorem Sw:bQ Tryz.prog 120:=⟨_,Tryz.func120,rfl,by kernel_rfl⟩
theorem Ef:b8 Tryz.prog 86 1 1:=b8.of Tryz.underlying86 rfl rfl bG rfl
theorem LF:bQ Tryz.prog 85:=⟨_,Tryz.func85,rfl,by kernel_rfl⟩
theorem DP:b8 Tryz.prog 119 2 2:=b8.of Tryz.underlying119 rfl rfl bG rfl
theorem Tp:cx Tryz.prog 169 (default:ef):=cx.of (by kernel_rfl)
theorem To:gX Tryz.prog 169 #[(0,1),(1,1),(2,1)]:=⟨_,Tryz.underlying169,by kernel_rfl,by kernel_rfl⟩
structure dr where
 nQ:a3
 dE:List aM
 deriving DecidableEq,Inhabited
instance:ad dr:= .str (c2 a3 (g5 (List aM))) (fun x=>(x.nQ,x.dE)) 11
def CD:aL dr a3:= .str df 0 dr.nQ fun b g=> { b with nQ:=g }
def wq:aL dr (List aM):= .str (bu hL) 10 dr.dE fun b g=> { b with dE:=g }
instance:a5 dr:=⟨a5.cells a3 ++ a5.cells (List aM),fun A W=>⟨by rfl,a5.ok (α:=a3) A W,a5.ok (α:=List aM) A W⟩⟩
theorem Sr:cx Tryz.prog 228 (default:dr):=cx.of (by kernel_rfl)
theorem Sq:gX Tryz.prog 228 #[(0,10),(10,1)]:=⟨_,Tryz.underlying228,by kernel_rfl,by kernel_rfl⟩
theorem UB:bQ Tryz.prog 86:=⟨_,Tryz.func86,rfl,by kernel_rfl⟩
theorem Qa:iW Tryz.prog 228 [10]:=by unfold iW; kernel_rfl
theorem Tt:cx Tryz.prog 173 (default:jr):=cx.of (by kernel_rfl)
theorem Ts:gX Tryz.prog 173 #[(0,1)]:=⟨_,Tryz.underlying173,by kernel_rfl,by kernel_rfl⟩
theorem LH:bQ Tryz.prog 25:=⟨_,Tryz.func25,rfl,by kernel_rfl⟩
theorem UE:bQ Tryz.prog 39:=⟨_,Tryz.func39,rfl,by kernel_rfl⟩
theorem vf:cx Tryz.prog 50 (default:bE):=cx.of (by kernel_rfl)
theorem Fo:gX Tryz.prog 50 #[(0,1),(1,1),(2,1),(3,1),(4,1)]:=⟨_,Tryz.underlying50,by kernel_rfl,by kernel_rfl⟩
theorem h5:bt Tryz.prog 50 bE:=bt.of (by rfl) Tryz.underlying50 (by kernel_rfl)
theorem lx:cx Tryz.prog 88 (default:ch):=cx.of (by kernel_rfl)
theorem Tu:bQ Tryz.prog 108:=⟨_,Tryz.func108,rfl,by kernel_rfl⟩
theorem fH:bt Tryz.prog 41 (BitVec 64):=bt.of (by rfl) Tryz.underlying41 (by kernel_rfl)
theorem nh:b8 Tryz.prog 43 0 0:=b8.of Tryz.underlying43 rfl rfl fH rfl
theorem jP:b8 Tryz.prog 43 1 1:=b8.of Tryz.underlying43 rfl rfl fH rfl
theorem Fq:bQ Tryz.prog 46:=⟨_,Tryz.func46,rfl,by kernel_rfl⟩
theorem Tv:bQ Tryz.prog 109:=⟨_,Tryz.func109,rfl,by kernel_rfl⟩
theorem J7:G5 Tryz.prog 43 1 41 1:=⟨_,_,Tryz.underlying43,rfl,rfl,rfl⟩
theorem sU:gX Tryz.prog 88 #[(0,1),(1,2),(3,2),(5,1),(6,2)]:=⟨_,Tryz.underlying88,by kernel_rfl,by kernel_rfl⟩
theorem gA:bt Tryz.prog 88 ch:=bt.of (by rfl) Tryz.underlying88 (by kernel_rfl)
theorem kg:bt Tryz.prog 47 (List ch):=bt.of (by rfl) Tryz.underlying47 (by kernel_rfl)
theorem kD:b8 Tryz.prog 50 1 1:=b8.of Tryz.underlying50 rfl rfl kg rfl
theorem UC:bQ Tryz.prog 75:=⟨_,Tryz.func75,rfl,by kernel_rfl⟩
theorem pC:b8 Tryz.prog 50 2 2:=b8.of Tryz.underlying50 rfl rfl bG rfl
theorem kG:bt Tryz.prog 63 (List Int):=bt.of (by rfl) Tryz.underlying63 (by kernel_rfl)
theorem Kh:b8 Tryz.prog 65 3 3:=b8.of Tryz.underlying65 rfl rfl kG rfl
theorem Ki:b8 Tryz.prog 50 3 3:=b8.of Tryz.underlying50 rfl rfl bG rfl
theorem Jw:b8 Tryz.prog 148 0 0:=b8.of Tryz.underlying148 rfl rfl bG rfl
theorem UD:bQ Tryz.prog 76:=⟨_,Tryz.func76,rfl,by kernel_rfl⟩
theorem QT:G5 Tryz.prog 148 2 145 2:=⟨_,_,Tryz.underlying148,rfl,rfl,rfl⟩
theorem Tw:bt Tryz.prog 145 (List hG):=bt.of (by rfl) Tryz.underlying145 (by kernel_rfl)
theorem yn:bt Tryz.prog 48 (List ao):=bt.of (by rfl) Tryz.underlying48 (by kernel_rfl)
theorem A9:b8 Tryz.prog 50 4 4:=b8.of Tryz.underlying50 rfl rfl yn rfl
theorem QU:b8 Tryz.prog 151 1 1:=b8.of Tryz.underlying151 rfl rfl bG rfl
theorem I7:iW Tryz.prog 50 [1,4]:=by unfold iW; kernel_rfl
theorem UF:bQ Tryz.prog 27:=⟨_,Tryz.func27,rfl,by kernel_rfl⟩
theorem h6:cx Tryz.prog 52 (default:aM):=cx.of (by kernel_rfl)
theorem Fp:gX Tryz.prog 52 #[(0,5),(5,1),(6,1)]:=⟨_,Tryz.underlying52,by kernel_rfl,by kernel_rfl⟩
theorem cV:bt Tryz.prog 52 aM:=bt.of (by rfl) Tryz.underlying52 (by kernel_rfl)
theorem EX:bt Tryz.prog 133 fR:=bt.of (by rfl) Tryz.underlying133 (by kernel_rfl)
theorem JH:b8 Tryz.prog 135 3 3:=b8.of Tryz.underlying135 rfl rfl EX rfl
theorem kW:b8 Tryz.prog 52 1 5:=b8.of Tryz.underlying52 rfl rfl bG rfl
theorem L7:nL Tryz.prog 3 Int:=RV Tryz.underlying3
theorem jQ:b8 Tryz.prog 52 0 0:=b8.of Tryz.underlying52 rfl rfl h5 rfl
theorem pW:cx Tryz.prog 45 (default:Vector ao 4):=cx.of (by kernel_rfl)
theorem J6:b8 Tryz.prog 88 1 1:=b8.of Tryz.underlying88 rfl rfl bT rfl
theorem g1:pd Tryz.prog 45 4 2:=pd.of Tryz.underlying45 bT rfl
theorem fI:bt Tryz.prog 45 (Vector ao 4):=bt.of (by rfl) Tryz.underlying45 (by kernel_rfl)
theorem Bl:bt Tryz.prog 222 fR:=bt.of (by rfl) Tryz.underlying222 (by kernel_rfl)
theorem DM:b8 Tryz.prog 224 0 0:=b8.of Tryz.underlying224 rfl rfl Bl rfl
instance W9:jK ao where
 uniq {A W cs cH W' dk x} h cJ:=by
  refine Q8 h.1 cJ.1 ?_
  refine Jd 0 (ad.size (BitVec 64)) (jK.uniq (h.2.1) (cJ.2.1)) ?_
  refine Jd 1 (ad.size (BitVec 64)) (jK.uniq (h.2.2) (cJ.2.2)) ?_
  exact Q9 h.1 cJ.1 (by decide)
 plain {A W cs x} h:=by
  intro u hu n
  have bJ:=A4 (o:=0) (s:=ad.size (BitVec 64)) (by simpa using hu)
  rcases bJ with J | bJ
  ·exact jK.plain (h.2.1) u J n
  have bJ:=A4 (s:=ad.size (BitVec 64)) bJ
  rcases bJ with J | bJ
  ·exact jK.plain (h.2.2) u J n
  exact JL h.1 (by rfl) bJ
theorem Lv:j1 Tryz.prog 41 (BitVec 64) 1:=Q2 (K:= .u64) Tryz.underlying41
theorem sG:j1 Tryz.prog 43 ao 2:=Dh (k:=1) rfl Tryz.underlying43 (by kernel_rfl) fun d hd A W xs ys x y an a9=>by
 refine Eq.trans (px ia fH rfl (by rfl) Lv (by omega) an a9 (px ev fH rfl (by rfl) Lv (by omega) an a9 (DY))) ?_
 congr 1
 rw [Bool.eq_iff_iff]
 simp only [Bool.and_eq_true,decide_eq_true_eq,and_true]
 cases x; cases y
 simp [aL.str,ia,ev]
theorem Sa:j1 Tryz.prog 319 (Vector ao 4) 3:=DX Tryz.underlying319 bT sG
theorem LZ:pe Tryz.prog 41 (BitVec 64) 1:=IY Tryz.underlying41 rfl
theorem L0:pe Tryz.prog 43 ao 2:=PU (k:=1) rfl Tryz.underlying43 (.cons ia rfl fH (fun b d A W u x h an=>LZ b d A W u x (by omega) an) (.cons ev rfl fH (fun b d A W u x h an=>LZ b d A W u x (by omega) an) (.nil)))
theorem Ub:pe Tryz.prog 319 (Vector ao 4) 3:=Kr Tryz.underlying319 bT L0
theorem EA:nL Tryz.prog 319 (Vector ao 4):=Ks Tryz.underlying319 rfl Ub Sa rfl rfl
theorem EC:bt Tryz.prog 163 Ref:=bt.of (by rfl) Tryz.underlying163 (by kernel_rfl)
theorem Jx:b8 Tryz.prog 166 0 0:=b8.of Tryz.underlying166 rfl rfl EC rfl
theorem ED:bQ Tryz.prog 232:=⟨_,Tryz.func232,rfl,by kernel_rfl⟩
theorem Si:bQ Tryz.prog 231:=⟨_,Tryz.func231,rfl,by kernel_rfl⟩
theorem EE:bt Tryz.prog 169 ef:=bt.of (by rfl) Tryz.underlying169 (by kernel_rfl)
theorem xS:cx Tryz.prog 320 (default:Vector ao 4):=cx.of (by kernel_rfl)
theorem AZ:b8 Tryz.prog 169 0 0:=b8.of Tryz.underlying169 rfl rfl bG rfl
theorem hR:bt Tryz.prog 320 (Vector ao 4):=bt.of (by rfl) Tryz.underlying320 (by kernel_rfl)
theorem Sj:bQ Tryz.prog 241:=⟨_,Tryz.func241,rfl,by kernel_rfl⟩
theorem A8:b8 Tryz.prog 88 3 5:=b8.of Tryz.underlying88 rfl rfl bG rfl
theorem K7:bQ Tryz.prog 239:=⟨_,Tryz.func239,rfl,by kernel_rfl⟩
theorem EO:cx Tryz.prog 331 (default:Ref):=cx.of (by kernel_rfl)
theorem KG:bQ Tryz.prog 205:=⟨_,Tryz.func205,rfl,by kernel_rfl⟩
theorem KH:bQ Tryz.prog 204:=⟨_,Tryz.func204,rfl,by kernel_rfl⟩
theorem Bo:bQ Tryz.prog 188:=⟨_,Tryz.func188,rfl,by kernel_rfl⟩
theorem Bp:bQ Tryz.prog 193:=⟨_,Tryz.func193,rfl,by kernel_rfl⟩
theorem A0:b8 Tryz.prog 337 0 0:=b8.of Tryz.underlying337 rfl rfl bG rfl
structure fY where
 eN:Int
 c5:Ref
 deriving DecidableEq,Inhabited
instance:ad fY:= .str (c2 Int (g5 Ref)) (fun x=>(x.eN,x.c5)) 2
def wo:aL fY Int:= .str df 0 fY.eN fun b g=> { b with eN:=g }
def Ao:aL fY Ref:= .str (bu hL) 1 fY.c5 fun b g=> { b with c5:=g }
instance:a5 fY:=⟨a5.cells Int ++ a5.cells Ref,fun A W=>⟨by rfl,a5.ok (α:=Int) A W,a5.ok (α:=Ref) A W⟩⟩
theorem KT:bQ Tryz.prog 189:=⟨_,Tryz.func189,rfl,by kernel_rfl⟩
theorem pO:bQ Tryz.prog 148:=⟨_,Tryz.func148,rfl,by kernel_rfl⟩
theorem SO:Tryz.prog.eqGuardType Tryz.prog.depth 43=false:=by kernel_rfl
theorem KU:bQ Tryz.prog 251:=⟨_,Tryz.func251,rfl,by kernel_rfl⟩
theorem fx:bt Tryz.prog 331 Ref:=bt.of (by rfl) Tryz.underlying331 (by kernel_rfl)
theorem A2:b8 Tryz.prog 337 1 1:=b8.of Tryz.underlying337 rfl rfl fx rfl
theorem KV:bQ Tryz.prog 250:=⟨_,Tryz.func250,rfl,by kernel_rfl⟩
theorem KI:bt Tryz.prog 321 Ref:=bt.of (by rfl) Tryz.underlying321 (by kernel_rfl)
theorem Bq:bQ Tryz.prog 196:=⟨_,Tryz.func196,rfl,by kernel_rfl⟩
theorem Uc:bt Tryz.prog 333 (Vector Ref 2):=bt.of (by rfl) Tryz.underlying333 (by kernel_rfl)
theorem A3:b8 Tryz.prog 335 0 0:=b8.of Tryz.underlying335 rfl rfl Uc rfl
theorem By:pd Tryz.prog 333 2 1:=pd.of Tryz.underlying333 fx rfl
structure ew where
 e6:Vector Ref 2
 e7:Bool
 mL:Int
 deriving DecidableEq,Inhabited
instance:ad ew:= .str (c2 (Vector Ref 2) (c2 Bool (g5 Int))) (fun x=>(x.e6,x.e7,x.mL)) 4
def z4:aL ew (Vector Ref 2):= .str df 0 ew.e6 fun b g=> { b with e6:=g }
def tP:aL ew Bool:= .str (bu df) 2 ew.e7 fun b g=> { b with e7:=g }
def HE:aL ew Int:= .str (bu (bu hL)) 3 ew.mL fun b g=> { b with mL:=g }
instance:a5 ew:=⟨a5.cells (Vector Ref 2) ++ a5.cells Bool ++ a5.cells Int,fun A W=>⟨by rfl,a5.ok (α:=Vector Ref 2) A W,a5.ok (α:=Bool) A W,a5.ok (α:=Int) A W⟩⟩
theorem KW:bQ Tryz.prog 255:=⟨_,Tryz.func255,rfl,by kernel_rfl⟩
theorem K3:bQ Tryz.prog 247:=⟨_,Tryz.func247,rfl,by kernel_rfl⟩
theorem uE:b8 Tryz.prog 335 1 2:=b8.of Tryz.underlying335 rfl rfl k8 rfl
theorem JD:b8 Tryz.prog 335 2 3:=b8.of Tryz.underlying335 rfl rfl bG rfl
theorem nr:bt Tryz.prog 167 fR:=bt.of (by rfl) Tryz.underlying167 (by kernel_rfl)
theorem nS:b8 Tryz.prog 169 2 2:=b8.of Tryz.underlying169 rfl rfl nr rfl
theorem Sb:j1 Tryz.prog 320 (Vector ao 4) 3:=DX Tryz.underlying320 bT sG
theorem Ud:pe Tryz.prog 320 (Vector ao 4) 3:=Kr Tryz.underlying320 bT L0
theorem BB:nL Tryz.prog 320 (Vector ao 4):=Ks Tryz.underlying320 rfl Ud Sb rfl rfl
theorem ER:cx Tryz.prog 321 (default:Ref):=cx.of (by kernel_rfl)
theorem S4:bQ Tryz.prog 240:=⟨_,Tryz.func240,rfl,by kernel_rfl⟩
theorem EV:bt Tryz.prog 170 Ref:=bt.of (by rfl) Tryz.underlying170 (by kernel_rfl)
theorem JE:b8 Tryz.prog 173 0 0:=b8.of Tryz.underlying173 rfl rfl EV rfl
theorem sN:bt Tryz.prog 38 (List aM):=bt.of (by rfl) Tryz.underlying38 (by kernel_rfl)
theorem xo:b8 Tryz.prog 228 1 10:=b8.of Tryz.underlying228 rfl rfl sN rfl
theorem Sk:bQ Tryz.prog 161:=⟨_,Tryz.func161,rfl,by kernel_rfl⟩
theorem Sl:bQ Tryz.prog 162:=⟨_,Tryz.func162,rfl,by kernel_rfl⟩
theorem Sp:bQ Tryz.prog 122:=⟨_,Tryz.func122,rfl,by kernel_rfl⟩
theorem Fg:bQ Tryz.prog 87:=⟨_,Tryz.func87,rfl,by kernel_rfl⟩
theorem SR:bQ Tryz.prog 269:=⟨_,Tryz.func269,rfl,by kernel_rfl⟩
theorem S2:bQ Tryz.prog 264:=⟨_,Tryz.func264,rfl,by kernel_rfl⟩
theorem uJ:b8 Tryz.prog 50 0 0:=b8.of Tryz.underlying50 rfl rfl bG rfl
theorem Ve:j1 Tryz.prog 4 Bool 1:=Qi Tryz.underlying4
theorem Vf:j1 Tryz.prog 3 Int 1:=JK (K:= .i64) Tryz.underlying3
theorem Sg:j1 Tryz.prog 88 ch 3:=Dh (k:=2) rfl Tryz.underlying88 (by kernel_rfl) fun d hd A W xs ys x y an a9=>by
 refine Eq.trans (px rY k8 rfl (by rfl) Ve (by omega) an a9 (px qz bT rfl (by rfl) sG (by omega) an a9 (px An bT rfl (by rfl) sG (by omega) an a9 (px rZ bG rfl (by rfl) Vf (by omega) an a9 (px CW bT rfl (by rfl) sG (by omega) an a9 (DY)))))) ?_
 congr 1
 rw [Bool.eq_iff_iff]
 simp only [Bool.and_eq_true,decide_eq_true_eq,and_true]
 cases x; cases y
 simp [aL.str,rY,qz,An,rZ,CW]
theorem Sh:Tryz.prog.eqGuardType Tryz.prog.depth 88=false:=by kernel_rfl
theorem Sm:bQ Tryz.prog 270:=⟨_,Tryz.func270,rfl,by kernel_rfl⟩
theorem S3:bQ Tryz.prog 265:=⟨_,Tryz.func265,rfl,by kernel_rfl⟩
theorem Ue:bQ Tryz.prog 227:=⟨_,Tryz.func227,rfl,by kernel_rfl⟩
theorem PD:kx Tryz.prog 166 "matchguard/index.find" 227:=kx.vJ (by kernel_rfl) Tryz.underlying166 rfl Ue
theorem Uf:bQ Tryz.prog 235:=⟨_,Tryz.func235,rfl,by kernel_rfl⟩
theorem PE:kx Tryz.prog 169 "matchguard/index.find" 235:=kx.vJ (by kernel_rfl) Tryz.underlying169 rfl Uf
theorem Ug:bQ Tryz.prog 260:=⟨_,Tryz.func260,rfl,by kernel_rfl⟩
theorem PF:kx Tryz.prog 173 "matchguard/index.find" 260:=kx.vJ (by kernel_rfl) Tryz.underlying173 rfl Ug
theorem Sn:bQ Tryz.prog 233:=⟨_,Tryz.func233,rfl,by kernel_rfl⟩
theorem Sy:cx Tryz.prog 337 (default:fY):=cx.of (by kernel_rfl)
theorem Sx:gX Tryz.prog 337 #[(0,1),(1,1)]:=⟨_,Tryz.underlying337,by kernel_rfl,by kernel_rfl⟩
theorem uF:b8 Tryz.prog 169 1 1:=b8.of Tryz.underlying169 rfl rfl bG rfl
theorem u7:bQ Tryz.prog 243:=⟨_,Tryz.func243,rfl,by kernel_rfl⟩
theorem K5:cx Tryz.prog 335 (default:ew):=cx.of (by kernel_rfl)
theorem K4:gX Tryz.prog 335 #[(0,2),(2,1),(3,1)]:=⟨_,Tryz.underlying335,by kernel_rfl,by kernel_rfl⟩
theorem S1:bQ Tryz.prog 244:=⟨_,Tryz.func244,rfl,by kernel_rfl⟩
theorem Sz:bQ Tryz.prog 279:=⟨_,Tryz.func279,rfl,by kernel_rfl⟩
theorem KM:bQ Tryz.prog 110:=⟨_,Tryz.func110,rfl,by kernel_rfl⟩
theorem S8:bQ Tryz.prog 272:=⟨_,Tryz.func272,rfl,by kernel_rfl⟩
theorem KN:bQ Tryz.prog 126:=⟨_,Tryz.func126,rfl,by kernel_rfl⟩
theorem SP:bQ Tryz.prog 206:=⟨_,Tryz.func206,rfl,by kernel_rfl⟩
theorem SQ:bQ Tryz.prog 207:=⟨_,Tryz.func207,rfl,by kernel_rfl⟩
theorem KO:bQ Tryz.prog 146:=⟨_,Tryz.func146,rfl,by kernel_rfl⟩
theorem Fh:bQ Tryz.prog 92:=⟨_,Tryz.func92,rfl,by kernel_rfl⟩
theorem KX:bQ Tryz.prog 190:=⟨_,Tryz.func190,rfl,by kernel_rfl⟩
theorem SS:bQ Tryz.prog 133:=⟨_,Tryz.func133,rfl,by kernel_rfl⟩
theorem JG:b8 Tryz.prog 228 0 0:=b8.of Tryz.underlying228 rfl rfl fy rfl
theorem EP:bQ Tryz.prog 150:=⟨_,Tryz.func150,rfl,by kernel_rfl⟩
theorem Ta:bQ Tryz.prog 273:=⟨_,Tryz.func273,rfl,by kernel_rfl⟩
theorem Tb:bQ Tryz.prog 274:=⟨_,Tryz.func274,rfl,by kernel_rfl⟩
theorem Tc:bQ Tryz.prog 275:=⟨_,Tryz.func275,rfl,by kernel_rfl⟩
theorem Tj:bQ Tryz.prog 267:=⟨_,Tryz.func267,rfl,by kernel_rfl⟩
theorem Uh:bQ Tryz.prog 229:=⟨_,Tryz.func229,rfl,by kernel_rfl⟩
theorem PG:kx Tryz.prog 166 "matchguard/index.put" 229:=kx.vJ (by kernel_rfl) Tryz.underlying166 rfl Uh
theorem Ui:bQ Tryz.prog 237:=⟨_,Tryz.func237,rfl,by kernel_rfl⟩
theorem PH:kx Tryz.prog 169 "matchguard/index.put" 237:=kx.vJ (by kernel_rfl) Tryz.underlying169 rfl Ui
theorem Uj:bQ Tryz.prog 262:=⟨_,Tryz.func262,rfl,by kernel_rfl⟩
theorem PI:kx Tryz.prog 173 "matchguard/index.put" 262:=kx.vJ (by kernel_rfl) Tryz.underlying173 rfl Uj
theorem UG:bQ Tryz.prog 44:=⟨_,Tryz.func44,rfl,by kernel_rfl⟩
theorem RC:b8 Tryz.prog 88 0 0:=b8.of Tryz.underlying88 rfl rfl k8 rfl
theorem RD:b8 Tryz.prog 88 2 3:=b8.of Tryz.underlying88 rfl rfl bT rfl
theorem KL:cx Tryz.prog 248 (default:Vector (List Int) 6):=cx.of (by kernel_rfl)
theorem nn:pd Tryz.prog 248 6 1:=pd.of Tryz.underlying248 kG rfl
theorem QL:b8 Tryz.prog 121 0 0:=b8.of Tryz.underlying121 rfl rfl bG rfl
theorem QM:b8 Tryz.prog 193 0 0:=b8.of Tryz.underlying193 rfl rfl bG rfl
theorem QN:b8 Tryz.prog 204 0 0:=b8.of Tryz.underlying204 rfl rfl bG rfl
theorem N5:iW Tryz.prog 248 [0,1,2,3,4,5]:=by unfold iW; kernel_rfl
theorem EG:bt Tryz.prog 248 (Vector (List Int) 6):=bt.of (by rfl) Tryz.underlying248 (by kernel_rfl)
theorem SA:bQ Tryz.prog 142:=⟨_,Tryz.func142,rfl,by kernel_rfl⟩
theorem SB:bQ Tryz.prog 141:=⟨_,Tryz.func141,rfl,by kernel_rfl⟩
theorem SC:bQ Tryz.prog 106:=⟨_,Tryz.func106,rfl,by kernel_rfl⟩
theorem LA:bQ Tryz.prog 79:=⟨_,Tryz.func79,rfl,by kernel_rfl⟩
theorem UI:bQ Tryz.prog 36:=⟨_,Tryz.func36,rfl,by kernel_rfl⟩
structure H0 where
 bR:ao
 QK:Int
 bF:Int
 deriving DecidableEq,Inhabited
instance:ad H0:= .str (c2 ao (c2 Int (g5 Int))) (fun x=>(x.bR,x.QK,x.bF)) 4
instance:a5 H0:=⟨a5.cells ao ++ a5.cells Int ++ a5.cells Int,fun A W=>⟨by rfl,a5.ok (α:=ao) A W,a5.ok (α:=Int) A W,a5.ok (α:=Int) A W⟩⟩
theorem SM:bQ Tryz.prog 166:=⟨_,Tryz.func166,rfl,by kernel_rfl⟩
theorem SN:bQ Tryz.prog 165:=⟨_,Tryz.func165,rfl,by kernel_rfl⟩
theorem pP:bQ Tryz.prog 167:=⟨_,Tryz.func167,rfl,by kernel_rfl⟩
theorem UH:bQ Tryz.prog 35:=⟨_,Tryz.func35,rfl,by kernel_rfl⟩
structure a2 where
 bR:Vector ao 4
 bK:Vector ao 4
 deriving DecidableEq,Inhabited
instance:ad a2:= .str (c2 (Vector ao 4) (g5 (Vector ao 4))) (fun x=>(x.bR,x.bK)) 16
def lS:aL a2 (Vector ao 4):= .str df 0 a2.bR fun b g=> { b with bR:=g }
def kz:aL a2 (Vector ao 4):= .str (bu hL) 8 a2.bK fun b g=> { b with bK:=g }
instance:a5 a2:=⟨a5.cells (Vector ao 4) ++ a5.cells (Vector ao 4),fun A W=>⟨by rfl,a5.ok (α:=Vector ao 4) A W,a5.ok (α:=Vector ao 4) A W⟩⟩
theorem hJ:cx Tryz.prog 155 (default:a2):=cx.of (by kernel_rfl)
theorem Td:bQ Tryz.prog 111:=⟨_,Tryz.func111,rfl,by kernel_rfl⟩
theorem u2:gX Tryz.prog 155 #[(0,8),(8,8)]:=⟨_,Tryz.underlying155,by kernel_rfl,by kernel_rfl⟩
theorem c0:bt Tryz.prog 155 a2:=bt.of (by rfl) Tryz.underlying155 (by kernel_rfl)
theorem Tf:bQ Tryz.prog 113:=⟨_,Tryz.func113,rfl,by kernel_rfl⟩
theorem Te:bQ Tryz.prog 112:=⟨_,Tryz.func112,rfl,by kernel_rfl⟩
theorem SU:bQ Tryz.prog 147:=⟨_,Tryz.func147,rfl,by kernel_rfl⟩
theorem l0:b8 Tryz.prog 155 1 8:=b8.of Tryz.underlying155 rfl rfl fI rfl
theorem nR:b8 Tryz.prog 155 0 0:=b8.of Tryz.underlying155 rfl rfl fI rfl
theorem K2:bQ Tryz.prog 114:=⟨_,Tryz.func114,rfl,by kernel_rfl⟩
theorem Tg:cx Tryz.prog 156 (default:List a2):=cx.of (by kernel_rfl)
theorem Th:bQ Tryz.prog 115:=⟨_,Tryz.func115,rfl,by kernel_rfl⟩
theorem EW:bt Tryz.prog 156 (List a2):=bt.of (by rfl) Tryz.underlying156 (by kernel_rfl)
theorem QQ:iW Tryz.prog 156 [0]:=by unfold iW; kernel_rfl
theorem Ti:bQ Tryz.prog 149:=⟨_,Tryz.func149,rfl,by kernel_rfl⟩
theorem Ux:bQ Tryz.prog 80:=⟨_,Tryz.func80,rfl,by kernel_rfl⟩
theorem SH:bQ Tryz.prog 152:=⟨_,Tryz.func152,rfl,by kernel_rfl⟩
theorem xZ:bQ Tryz.prog 192:=⟨_,Tryz.func192,rfl,by kernel_rfl⟩
theorem EN:j1 Tryz.prog 45 (Vector ao 4) 3:=DX Tryz.underlying45 bT sG
theorem SF:Tryz.prog.eqGuardType Tryz.prog.depth 45=false:=by kernel_rfl
theorem KQ:bQ Tryz.prog 154:=⟨_,Tryz.func154,rfl,by kernel_rfl⟩
theorem SI:bQ Tryz.prog 153:=⟨_,Tryz.func153,rfl,by kernel_rfl⟩
theorem KP:bQ Tryz.prog 191:=⟨_,Tryz.func191,rfl,by kernel_rfl⟩
theorem SJ:bQ Tryz.prog 151:=⟨_,Tryz.func151,rfl,by kernel_rfl⟩
theorem K0:bQ Tryz.prog 116:=⟨_,Tryz.func116,rfl,by kernel_rfl⟩
theorem Kd:j1 Tryz.prog 155 a2 4:=Dh (k:=3) rfl Tryz.underlying155 (by kernel_rfl) fun d hd A W xs ys x y an a9=>by
 refine Eq.trans (px lS fI rfl (by rfl) EN (by omega) an a9 (px kz fI rfl (by rfl) EN (by omega) an a9 (DY))) ?_
 congr 1
 rw [Bool.eq_iff_iff]
 simp only [Bool.and_eq_true,decide_eq_true_eq,and_true]
 cases x; cases y
 simp [aL.str,lS,kz]
theorem Ke:Tryz.prog.eqGuardType Tryz.prog.depth 155=false:=by kernel_rfl
theorem SK:bQ Tryz.prog 157:=⟨_,Tryz.func157,rfl,by kernel_rfl⟩
theorem SV:bQ Tryz.prog 156:=⟨_,Tryz.func156,rfl,by kernel_rfl⟩
theorem SW:bQ Tryz.prog 155:=⟨_,Tryz.func155,rfl,by kernel_rfl⟩
theorem KY:bQ Tryz.prog 194:=⟨_,Tryz.func194,rfl,by kernel_rfl⟩
theorem SX:bQ Tryz.prog 158:=⟨_,Tryz.func158,rfl,by kernel_rfl⟩
theorem SY:bQ Tryz.prog 159:=⟨_,Tryz.func159,rfl,by kernel_rfl⟩
theorem Bz:bQ Tryz.prog 117:=⟨_,Tryz.func117,rfl,by kernel_rfl⟩
theorem KZ:bQ Tryz.prog 195:=⟨_,Tryz.func195,rfl,by kernel_rfl⟩
theorem SZ:bQ Tryz.prog 160:=⟨_,Tryz.func160,rfl,by kernel_rfl⟩
theorem KS:bQ Tryz.prog 164:=⟨_,Tryz.func164,rfl,by kernel_rfl⟩
theorem SL:bQ Tryz.prog 163:=⟨_,Tryz.func163,rfl,by kernel_rfl⟩
theorem K1:bQ Tryz.prog 123:=⟨_,Tryz.func123,rfl,by kernel_rfl⟩
theorem Uy:bQ Tryz.prog 81:=⟨_,Tryz.func81,rfl,by kernel_rfl⟩
theorem BO:bQ Tryz.prog 37:=⟨_,Tryz.func37,rfl,by kernel_rfl⟩
theorem UJ:bQ Tryz.prog 38:=⟨_,Tryz.func38,rfl,by kernel_rfl⟩
inductive Cell where
 | k3 (x:List (Int × aM))
 | me (x:gZ)
 | mc (x:List ((Vector ao 4) × Ref))
 | n5 (x:List ((Vector ao 4) × Int))
 | ve (x:lU)
 | rk (x:dr) (key:Option Nat) (cap:Nat)
 | gJ (x:ew)
 | jb (x:fY)
instance:e1 Cell where
 hK p k:=match k with
  | .k3 x=> [⟨some p,.map x⟩]
  | .me x=> [⟨some p,.var x⟩]
  | .mc x=> [⟨some p,.map x⟩]
  | .n5 x=> [⟨some p,.map x⟩]
  | .ve x=> [⟨some p,.var x⟩]
  | .rk x key cap=> [⟨some p,.cj ({ x with dE:= [] } :dr) [(10,aV key (x.dE).length cap)]⟩,⟨key,.row 52 (x.dE:List aM) cap⟩]
  | .gJ x=> [⟨some p,.var x⟩]
  | .jb x=> [⟨some p,.var x⟩]
 root p k:=by cases k <;> exact⟨_,List.mem_cons_self ..,rfl⟩
def mK (hp:bb Cell) (p:Nat):Option (List (Int × aM)):=match pat hp p with
 | some (.k3 x)=>some x
 | _=>none
theorem Bb {hp:bb Cell} {p:Nat} {x:List (Int × aM)} (h:mK hp p=some x):pat hp p=some (.k3 x):=by
 unfold mK at h
 split at h
 ·rename_i ab; cases h; exact ab
 ·cases h
def iN (hp:bb Cell) (p:Nat):Option (gZ):=match pat hp p with
 | some (.me x)=>some x
 | _=>none
theorem pK {hp:bb Cell} {p:Nat} {x:gZ} (h:iN hp p=some x):pat hp p=some (.me x):=by
 unfold iN at h
 split at h
 ·rename_i ab; cases h; exact ab
 ·cases h
def jw (hp:bb Cell) (p:Nat):Option (List ((Vector ao 4) × Ref)):=match pat hp p with
 | some (.mc x)=>some x
 | _=>none
theorem oI {hp:bb Cell} {p:Nat} {x:List ((Vector ao 4) × Ref)} (h:jw hp p=some x):pat hp p=some (.mc x):=by
 unfold jw at h
 split at h
 ·rename_i ab; cases h; exact ab
 ·cases h
def l6 (hp:bb Cell) (p:Nat):Option (List ((Vector ao 4) × Int)):=match pat hp p with
 | some (.n5 x)=>some x
 | _=>none
theorem ss {hp:bb Cell} {p:Nat} {x:List ((Vector ao 4) × Int)} (h:l6 hp p=some x):pat hp p=some (.n5 x):=by
 unfold l6 at h
 split at h
 ·rename_i ab; cases h; exact ab
 ·cases h
def ns (hp:bb Cell) (p:Nat):Option (lU):=match pat hp p with
 | some (.ve x)=>some x
 | _=>none
theorem uH {hp:bb Cell} {p:Nat} {x:lU} (h:ns hp p=some x):pat hp p=some (.ve x):=by
 unfold ns at h
 split at h
 ·rename_i ab; cases h; exact ab
 ·cases h
def nt (hp:bb Cell) (p:Nat):Option (dr × Option Nat × Nat):=match pat hp p with
 | some (.rk x key cap)=>some (x,key,cap)
 | _=>none
theorem xM {hp:bb Cell} {p:Nat} {x:dr × Option Nat × Nat} (h:nt hp p=some x):pat hp p=some (.rk x.1 x.2.1 x.2.2):=by
 unfold nt at h
 split at h
 ·rename_i ab; cases h; exact ab
 ·cases h
def dh (hp:bb Cell) (p:Nat):Option (ew):=match pat hp p with
 | some (.gJ x)=>some x
 | _=>none
theorem mD {hp:bb Cell} {p:Nat} {x:ew} (h:dh hp p=some x):pat hp p=some (.gJ x):=by
 unfold dh at h
 split at h
 ·rename_i ab; cases h; exact ab
 ·cases h
def gh (hp:bb Cell) (p:Nat):Option (fY):=match pat hp p with
 | some (.jb x)=>some x
 | _=>none
theorem pD {hp:bb Cell} {p:Nat} {x:fY} (h:gh hp p=some x):pat hp p=some (.jb x):=by
 unfold gh at h
 split at h
 ·rename_i ab; cases h; exact ab
 ·cases h
end Go.Proofs.YtmnggbjcnoffeaaGreat
