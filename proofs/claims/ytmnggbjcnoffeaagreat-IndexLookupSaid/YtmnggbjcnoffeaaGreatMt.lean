/-
  The types of the data, and facts on their tables. Conditions: none.
-/
import Derived.Test.YtmnggbjcnoffeaaGreatRows
import Derived.Test.YtmnggbjcnoffeaaGreatMl2
namespace Go.Proofs.YtmnggbjcnoffeaaGreat
open Go Gv
set_option linter.unusedVariables false
set_option linter.unusedSimpArgs false
set_option maxRecDepth 100000
structure al where
 dt:BitVec 64
 bS:BitVec 64
 deriving DecidableEq,Inhabited
instance:ah al:= .str (dc (BitVec 64) (hx (BitVec 64))) (fun x=>(x.dt,x.bS)) 2
def hA:aK al (BitVec 64):= .str dq 0 al.dt fun b g=> { b with dt:=g }
def ec:aK al (BitVec 64):= .str (bs hV) 1 al.bS fun b g=> { b with bS:=g }
instance:a8 al:=⟨a8.cells (BitVec 64) ++ a8.cells (BitVec 64),fun A W=>⟨by rfl,a8.ok (α:=BitVec 64) A W,a8.ok (α:=BitVec 64) A W⟩⟩
structure bk where
 cb:List (BitVec 8)
 qc:Int
 deriving DecidableEq,Inhabited
instance:ah bk:= .str (dc (List (BitVec 8)) (hx Int)) (fun x=>(x.cb,x.qc)) 2
def AP:aK bk (List (BitVec 8)):= .str dq 0 bk.cb fun b g=> { b with cb:=g }
def wU:aK bk Int:= .str (bs hV) 1 bk.qc fun b g=> { b with qc:=g }
instance:a8 bk:=⟨a8.cells (List (BitVec 8)) ++ a8.cells Int,fun A W=>⟨by rfl,a8.ok (α:=List (BitVec 8)) A W,a8.ok (α:=Int) A W⟩⟩
theorem FP:bq Tryz.prog 5 (BitVec 8):=bq.of (by rfl) Tryz.underlying5 (by kernel_rfl)
theorem Sg:cE Tryz.prog 117 (default:bk):=cE.of (by kernel_rfl)
theorem Sf:hg Tryz.prog 117 #[(0,1),(1,1)]:=⟨_,Tryz.underlying117,by kernel_rfl,by kernel_rfl⟩
theorem Fw:bM Tryz.prog 15:=⟨_,Tryz.func15,rfl,by kernel_rfl⟩
structure fa where
 bG:Int
 b7:ByteArray
 eP:Int
 deriving DecidableEq,Inhabited
instance:ah fa:= .str (dc Int (dc ByteArray (hx Int))) (fun x=>(x.bG,x.b7,x.eP)) 3
def nz:aK fa Int:= .str dq 0 fa.bG fun b g=> { b with bG:=g }
def pH:aK fa ByteArray:= .str (bs dq) 1 fa.b7 fun b g=> { b with b7:=g }
def m2:aK fa Int:= .str (bs (bs hV)) 2 fa.eP fun b g=> { b with eP:=g }
instance:a8 fa:=⟨a8.cells Int ++ a8.cells ByteArray ++ a8.cells Int,fun A W=>⟨by rfl,a8.ok (α:=Int) A W,a8.ok (α:=ByteArray) A W,a8.ok (α:=Int) A W⟩⟩
structure iL where
 bG:Int
 b7:ByteArray
 e3:List Int
 deriving DecidableEq,Inhabited
instance:ah iL:= .str (dc Int (dc ByteArray (hx (List Int)))) (fun x=>(x.bG,x.b7,x.e3)) 3
def AR:aK iL Int:= .str dq 0 iL.bG fun b g=> { b with bG:=g }
def Dc:aK iL ByteArray:= .str (bs dq) 1 iL.b7 fun b g=> { b with b7:=g }
def C4:aK iL (List Int):= .str (bs (bs hV)) 2 iL.e3 fun b g=> { b with e3:=g }
instance:a8 iL:=⟨a8.cells Int ++ a8.cells ByteArray ++ a8.cells (List Int),fun A W=>⟨by rfl,a8.ok (α:=Int) A W,a8.ok (α:=ByteArray) A W,a8.ok (α:=List Int) A W⟩⟩
structure ga where
 cL:al
 gK:al
 ob:Int
 deriving DecidableEq,Inhabited
instance:ah ga:= .str (dc al (dc al (hx Int))) (fun x=>(x.cL,x.gK,x.ob)) 5
def AK:aK ga al:= .str dq 0 ga.cL fun b g=> { b with cL:=g }
def AT:aK ga al:= .str (bs dq) 2 ga.gK fun b g=> { b with gK:=g }
def AU:aK ga Int:= .str (bs (bs hV)) 4 ga.ob fun b g=> { b with ob:=g }
instance:a8 ga:=⟨a8.cells al ++ a8.cells al ++ a8.cells Int,fun A W=>⟨by rfl,a8.ok (α:=al) A W,a8.ok (α:=al) A W,a8.ok (α:=Int) A W⟩⟩
structure dh where
 bG:Int
 hC:Int
 mr:Int
 nA:List ga
 gH:Int
 deriving DecidableEq,Inhabited
instance:ah dh:= .str (dc Int (dc Int (dc Int (dc (List ga) (hx Int))))) (fun x=>(x.bG,x.hC,x.mr,x.nA,x.gH)) 5
def AX:aK dh Int:= .str dq 0 dh.bG fun b g=> { b with bG:=g }
def C7:aK dh Int:= .str (bs dq) 1 dh.hC fun b g=> { b with hC:=g }
def Ht:aK dh Int:= .str (bs (bs dq)) 2 dh.mr fun b g=> { b with mr:=g }
def AE:aK dh (List ga):= .str (bs (bs (bs dq))) 3 dh.nA fun b g=> { b with nA:=g }
def C3:aK dh Int:= .str (bs (bs (bs (bs hV)))) 4 dh.gH fun b g=> { b with gH:=g }
instance:a8 dh:=⟨a8.cells Int ++ a8.cells Int ++ a8.cells Int ++ a8.cells (List ga) ++ a8.cells Int,fun A W=>⟨by rfl,a8.ok (α:=Int) A W,a8.ok (α:=Int) A W,a8.ok (α:=Int) A W,a8.ok (α:=List ga) A W,a8.ok (α:=Int) A W⟩⟩
structure hQ where
 b7:ByteArray
 eP:Int
 deriving DecidableEq,Inhabited
instance:ah hQ:= .str (dc ByteArray (hx Int)) (fun x=>(x.b7,x.eP)) 2
def AL:aK hQ ByteArray:= .str dq 0 hQ.b7 fun b g=> { b with b7:=g }
def wX:aK hQ Int:= .str (bs hV) 1 hQ.eP fun b g=> { b with eP:=g }
instance:a8 hQ:=⟨a8.cells ByteArray ++ a8.cells Int,fun A W=>⟨by rfl,a8.ok (α:=ByteArray) A W,a8.ok (α:=Int) A W⟩⟩
structure fq where
 cH:Int
 tp:Int
 cL:al
 deriving DecidableEq,Inhabited
instance:ah fq:= .str (dc Int (dc Int (hx al))) (fun x=>(x.cH,x.tp,x.cL)) 4
def AA:aK fq Int:= .str dq 0 fq.cH fun b g=> { b with cH:=g }
def HA:aK fq Int:= .str (bs dq) 1 fq.tp fun b g=> { b with tp:=g }
def NB:aK fq al:= .str (bs (bs hV)) 2 fq.cL fun b g=> { b with cL:=g }
instance:a8 fq:=⟨a8.cells Int ++ a8.cells Int ++ a8.cells al,fun A W=>⟨by rfl,a8.ok (α:=Int) A W,a8.ok (α:=Int) A W,a8.ok (α:=al) A W⟩⟩
structure eF where
 hE:Int
 iS:Int
 jW:fq
 deriving DecidableEq,Inhabited
instance:ah eF:= .str (dc Int (dc Int (hx fq))) (fun x=>(x.hE,x.iS,x.jW)) 6
def pJ:aK eF Int:= .str dq 0 eF.hE fun b g=> { b with hE:=g }
def sd:aK eF Int:= .str (bs dq) 1 eF.iS fun b g=> { b with iS:=g }
def uo:aK eF fq:= .str (bs (bs hV)) 2 eF.jW fun b g=> { b with jW:=g }
instance:a8 eF:=⟨a8.cells Int ++ a8.cells Int ++ a8.cells fq,fun A W=>⟨by rfl,a8.ok (α:=Int) A W,a8.ok (α:=Int) A W,a8.ok (α:=fq) A W⟩⟩
structure dy where
 bG:Int
 b7:ByteArray
 jt:List hQ
 nd:List eF
 oV:ByteArray
 deriving DecidableEq,Inhabited
instance:ah dy:= .str (dc Int (dc ByteArray (dc (List hQ) (dc (List eF) (hx ByteArray))))) (fun x=>(x.bG,x.b7,x.jt,x.nd,x.oV)) 5
def qQ:aK dy Int:= .str dq 0 dy.bG fun b g=> { b with bG:=g }
def ue:aK dy ByteArray:= .str (bs dq) 1 dy.b7 fun b g=> { b with b7:=g }
def Ay:aK dy (List hQ):= .str (bs (bs dq)) 2 dy.jt fun b g=> { b with jt:=g }
def wP:aK dy (List eF):= .str (bs (bs (bs dq))) 3 dy.nd fun b g=> { b with nd:=g }
def Hl:aK dy ByteArray:= .str (bs (bs (bs (bs hV)))) 4 dy.oV fun b g=> { b with oV:=g }
instance:a8 dy:=⟨a8.cells Int ++ a8.cells ByteArray ++ a8.cells (List hQ) ++ a8.cells (List eF) ++ a8.cells ByteArray,fun A W=>⟨by rfl,a8.ok (α:=Int) A W,a8.ok (α:=ByteArray) A W,a8.ok (α:=List hQ) A W,a8.ok (α:=List eF) A W,a8.ok (α:=ByteArray) A W⟩⟩
structure cB where
 b7:ByteArray
 gb:Int
 cH:Int
 deriving DecidableEq,Inhabited
instance:ah cB:= .str (dc ByteArray (dc Int (hx Int))) (fun x=>(x.b7,x.gb,x.cH)) 3
def pI:aK cB ByteArray:= .str dq 0 cB.b7 fun b g=> { b with b7:=g }
def m3:aK cB Int:= .str (bs dq) 1 cB.gb fun b g=> { b with gb:=g }
def kP:aK cB Int:= .str (bs (bs hV)) 2 cB.cH fun b g=> { b with cH:=g }
instance:a8 cB:=⟨a8.cells ByteArray ++ a8.cells Int ++ a8.cells Int,fun A W=>⟨by rfl,a8.ok (α:=ByteArray) A W,a8.ok (α:=Int) A W,a8.ok (α:=Int) A W⟩⟩
structure bN where
 bG:Int
 b7:ByteArray
 bX:List cB
 c4:List Int
 gH:Int
 sg:List al
 kV:Int
 oV:ByteArray
 deriving DecidableEq,Inhabited
instance:ah bN:= .str (dc Int (dc ByteArray (dc (List cB) (dc (List Int) (dc Int (dc (List al) (dc Int (hx ByteArray)))))))) (fun x=>(x.bG,x.b7,x.bX,x.c4,x.gH,x.sg,x.kV,x.oV)) 8
def n4:aK bN Int:= .str dq 0 bN.bG fun b g=> { b with bG:=g }
def AM:aK bN ByteArray:= .str (bs dq) 1 bN.b7 fun b g=> { b with b7:=g }
def iK:aK bN (List cB):= .str (bs (bs dq)) 2 bN.bX fun b g=> { b with bX:=g }
def uc:aK bN (List Int):= .str (bs (bs (bs dq))) 3 bN.c4 fun b g=> { b with c4:=g }
def Az:aK bN Int:= .str (bs (bs (bs (bs dq)))) 4 bN.gH fun b g=> { b with gH:=g }
def Nq:aK bN (List al):= .str (bs (bs (bs (bs (bs dq))))) 5 bN.sg fun b g=> { b with sg:=g }
def AN:aK bN Int:= .str (bs (bs (bs (bs (bs (bs dq)))))) 6 bN.kV fun b g=> { b with kV:=g }
def Nr:aK bN ByteArray:= .str (bs (bs (bs (bs (bs (bs (bs hV))))))) 7 bN.oV fun b g=> { b with oV:=g }
instance:a8 bN:=⟨a8.cells Int ++ a8.cells ByteArray ++ a8.cells (List cB) ++ a8.cells (List Int) ++ a8.cells Int ++ a8.cells (List al) ++ a8.cells Int ++ a8.cells ByteArray,fun A W=>⟨by rfl,a8.ok (α:=Int) A W,a8.ok (α:=ByteArray) A W,a8.ok (α:=List cB) A W,a8.ok (α:=List Int) A W,a8.ok (α:=Int) A W,a8.ok (α:=List al) A W,a8.ok (α:=Int) A W,a8.ok (α:=ByteArray) A W⟩⟩
structure fr where
 dD:Int
 hC:Int
 deriving DecidableEq,Inhabited
instance:ah fr:= .str (dc Int (hx Int)) (fun x=>(x.dD,x.hC)) 2
def wR:aK fr Int:= .str dq 0 fr.dD fun b g=> { b with dD:=g }
def C9:aK fr Int:= .str (bs hV) 1 fr.hC fun b g=> { b with hC:=g }
instance:a8 fr:=⟨a8.cells Int ++ a8.cells Int,fun A W=>⟨by rfl,a8.ok (α:=Int) A W,a8.ok (α:=Int) A W⟩⟩
structure da where
 dD:Int
 pT:Bool
 pO:Bool
 bX:List Bool
 deriving DecidableEq,Inhabited
instance:ah da:= .str (dc Int (dc Bool (dc Bool (hx (List Bool))))) (fun x=>(x.dD,x.pT,x.pO,x.bX)) 4
def Da:aK da Int:= .str dq 0 da.dD fun b g=> { b with dD:=g }
def Df:aK da Bool:= .str (bs dq) 1 da.pT fun b g=> { b with pT:=g }
def Db:aK da Bool:= .str (bs (bs dq)) 2 da.pO fun b g=> { b with pO:=g }
def Dg:aK da (List Bool):= .str (bs (bs (bs hV))) 3 da.bX fun b g=> { b with bX:=g }
instance:a8 da:=⟨a8.cells Int ++ a8.cells Bool ++ a8.cells Bool ++ a8.cells (List Bool),fun A W=>⟨by rfl,a8.ok (α:=Int) A W,a8.ok (α:=Bool) A W,a8.ok (α:=Bool) A W,a8.ok (α:=List Bool) A W⟩⟩
structure cy where
 bG:Int
 b7:ByteArray
 ix:List da
 c4:List Int
 pN:Int
 xT:Bool
 deriving DecidableEq,Inhabited
instance:ah cy:= .str (dc Int (dc ByteArray (dc (List da) (dc (List Int) (dc Int (hx Bool)))))) (fun x=>(x.bG,x.b7,x.ix,x.c4,x.pN,x.xT)) 6
def AY:aK cy Int:= .str dq 0 cy.bG fun b g=> { b with bG:=g }
def Dj:aK cy ByteArray:= .str (bs dq) 1 cy.b7 fun b g=> { b with b7:=g }
def uf:aK cy (List da):= .str (bs (bs dq)) 2 cy.ix fun b g=> { b with ix:=g }
def C8:aK cy (List Int):= .str (bs (bs (bs dq))) 3 cy.c4 fun b g=> { b with c4:=g }
def De:aK cy Int:= .str (bs (bs (bs (bs dq)))) 4 cy.pN fun b g=> { b with pN:=g }
def NY:aK cy Bool:= .str (bs (bs (bs (bs (bs hV))))) 5 cy.xT fun b g=> { b with xT:=g }
instance:a8 cy:=⟨a8.cells Int ++ a8.cells ByteArray ++ a8.cells (List da) ++ a8.cells (List Int) ++ a8.cells Int ++ a8.cells Bool,fun A W=>⟨by rfl,a8.ok (α:=Int) A W,a8.ok (α:=ByteArray) A W,a8.ok (α:=List da) A W,a8.ok (α:=List Int) A W,a8.ok (α:=Int) A W,a8.ok (α:=Bool) A W⟩⟩
structure eG where
 dD:Int
 sQ:Int
 lP:Int
 RF:Int
 n7:Int
 RG:Int
 deriving DecidableEq,Inhabited
instance:ah eG:= .str (dc Int (dc Int (dc Int (dc Int (dc Int (hx Int)))))) (fun x=>(x.dD,x.sQ,x.lP,x.RF,x.n7,x.RG)) 6
def AV:aK eG Int:= .str dq 0 eG.dD fun b g=> { b with dD:=g }
def HE:aK eG Int:= .str (bs dq) 1 eG.sQ fun b g=> { b with sQ:=g }
def Hy:aK eG Int:= .str (bs (bs dq)) 2 eG.lP fun b g=> { b with lP:=g }
def AG:aK eG Int:= .str (bs (bs (bs (bs dq)))) 4 eG.n7 fun b g=> { b with n7:=g }
instance:a8 eG:=⟨a8.cells Int ++ a8.cells Int ++ a8.cells Int ++ a8.cells Int ++ a8.cells Int ++ a8.cells Int,fun A W=>⟨by rfl,a8.ok (α:=Int) A W,a8.ok (α:=Int) A W,a8.ok (α:=Int) A W,a8.ok (α:=Int) A W,a8.ok (α:=Int) A W,a8.ok (α:=Int) A W⟩⟩
structure aY where
 e3:List fa
 kQ:List iL
 ln:List dh
 c4:List dy
 bQ:List bN
 mu:List fr
 iP:List cy
 nf:List eG
 xE:Int
 xM:Int
 deriving DecidableEq,Inhabited
instance:ah aY:= .str (dc (List fa) (dc (List iL) (dc (List dh) (dc (List dy) (dc (List bN) (dc (List fr) (dc (List cy) (dc (List eG) (dc Int (hx Int)))))))))) (fun x=>(x.e3,x.kQ,x.ln,x.c4,x.bQ,x.mu,x.iP,x.nf,x.xE,x.xM)) 10
def r7:aK aY (List fa):= .str dq 0 aY.e3 fun b g=> { b with e3:=g }
def Ho:aK aY (List iL):= .str (bs dq) 1 aY.kQ fun b g=> { b with kQ:=g }
def Hq:aK aY (List dh):= .str (bs (bs dq)) 2 aY.ln fun b g=> { b with ln:=g }
def C1:aK aY (List dy):= .str (bs (bs (bs dq))) 3 aY.c4 fun b g=> { b with c4:=g }
def mn:aK aY (List bN):= .str (bs (bs (bs (bs dq)))) 4 aY.bQ fun b g=> { b with bQ:=g }
def C5:aK aY (List fr):= .str (bs (bs (bs (bs (bs dq))))) 5 aY.mu fun b g=> { b with mu:=g }
def Hr:aK aY (List cy):= .str (bs (bs (bs (bs (bs (bs dq)))))) 6 aY.iP fun b g=> { b with iP:=g }
def AF:aK aY (List eG):= .str (bs (bs (bs (bs (bs (bs (bs dq))))))) 7 aY.nf fun b g=> { b with nf:=g }
def Nw:aK aY Int:= .str (bs (bs (bs (bs (bs (bs (bs (bs dq)))))))) 8 aY.xE fun b g=> { b with xE:=g }
def NC:aK aY Int:= .str (bs (bs (bs (bs (bs (bs (bs (bs (bs hV))))))))) 9 aY.xM fun b g=> { b with xM:=g }
instance:a8 aY:=⟨a8.cells (List fa) ++ a8.cells (List iL) ++ a8.cells (List dh) ++ a8.cells (List dy) ++ a8.cells (List bN) ++ a8.cells (List fr) ++ a8.cells (List cy) ++ a8.cells (List eG) ++ a8.cells Int ++ a8.cells Int,fun A W=>⟨by rfl,a8.ok (α:=List fa) A W,a8.ok (α:=List iL) A W,a8.ok (α:=List dh) A W,a8.ok (α:=List dy) A W,a8.ok (α:=List bN) A W,a8.ok (α:=List fr) A W,a8.ok (α:=List cy) A W,a8.ok (α:=List eG) A W,a8.ok (α:=Int) A W,a8.ok (α:=Int) A W⟩⟩
theorem y9:cE Tryz.prog 33 (default:aY):=cE.of (by kernel_rfl)
theorem bo:bq Tryz.prog 3 Int:=bq.of (by rfl) Tryz.underlying3 (by kernel_rfl)
theorem xS:b9 Tryz.prog 117 1 1:=b9.of Tryz.underlying117 rfl rfl bo rfl
theorem BV:bq Tryz.prog 22 (List (BitVec 8)):=bq.of (by rfl) Tryz.underlying22 (by kernel_rfl)
theorem D5:b9 Tryz.prog 117 0 0:=b9.of Tryz.underlying117 rfl rfl BV rfl
theorem mixed:Tryz.prog.follows .mixedOrders=true:=by kernel_rfl
theorem LH:bM Tryz.prog 26:=⟨_,Tryz.func26,rfl,by kernel_rfl⟩
theorem fP:bM Tryz.prog 32:=⟨_,Tryz.func32,rfl,by kernel_rfl⟩
theorem Ul:hg Tryz.prog 33 #[(0,1),(1,1),(2,1),(3,1),(4,1),(5,1),(6,1),(7,1),(8,1),(9,1)]:=⟨_,Tryz.underlying33,by kernel_rfl,by kernel_rfl⟩
theorem fs:bq Tryz.prog 33 aY:=bq.of (by rfl) Tryz.underlying33 (by kernel_rfl)
theorem nK:cE Tryz.prog 119 (default:fa):=cE.of (by kernel_rfl)
theorem p1:hg Tryz.prog 119 #[(0,1),(1,1),(2,1)]:=⟨_,Tryz.underlying119,by kernel_rfl,by kernel_rfl⟩
theorem nJ:bq Tryz.prog 119 fa:=bq.of (by rfl) Tryz.underlying119 (by kernel_rfl)
theorem rv:bq Tryz.prog 24 (List fa):=bq.of (by rfl) Tryz.underlying24 (by kernel_rfl)
theorem sE:b9 Tryz.prog 33 0 0:=b9.of Tryz.underlying33 rfl rfl rv rfl
theorem g4:cE Tryz.prog 3 (default:Int):=cE.of (by kernel_rfl)
theorem yr:cE Tryz.prog 121 (default:iL):=cE.of (by kernel_rfl)
theorem E3:hg Tryz.prog 121 #[(0,1),(1,1),(2,1)]:=⟨_,Tryz.underlying121,by kernel_rfl,by kernel_rfl⟩
theorem BE:bq Tryz.prog 121 iL:=bq.of (by rfl) Tryz.underlying121 (by kernel_rfl)
theorem Fp:bq Tryz.prog 25 (List iL):=bq.of (by rfl) Tryz.underlying25 (by kernel_rfl)
theorem Kb:b9 Tryz.prog 33 1 1:=b9.of Tryz.underlying33 rfl rfl Fp rfl
theorem rk:cE Tryz.prog 193 (default:dh):=cE.of (by kernel_rfl)
theorem EZ:hg Tryz.prog 193 #[(0,1),(1,1),(2,1),(3,1),(4,1)]:=⟨_,Tryz.underlying193,by kernel_rfl,by kernel_rfl⟩
theorem o9:bq Tryz.prog 193 dh:=bq.of (by rfl) Tryz.underlying193 (by kernel_rfl)
theorem et:cE Tryz.prog 43 (default:al):=cE.of (by kernel_rfl)
theorem hl:hg Tryz.prog 43 #[(0,1),(1,1)]:=⟨_,Tryz.underlying43,by kernel_rfl,by kernel_rfl⟩
theorem rn:cE Tryz.prog 195 (default:ga):=cE.of (by kernel_rfl)
theorem BF:hg Tryz.prog 195 #[(0,2),(2,2),(4,1)]:=⟨_,Tryz.underlying195,by kernel_rfl,by kernel_rfl⟩
theorem BG:bq Tryz.prog 195 ga:=bq.of (by rfl) Tryz.underlying195 (by kernel_rfl)
theorem yt:bq Tryz.prog 191 (List ga):=bq.of (by rfl) Tryz.underlying191 (by kernel_rfl)
theorem Bk:b9 Tryz.prog 193 3 3:=b9.of Tryz.underlying193 rfl rfl yt rfl
theorem mO:bM Tryz.prog 55:=⟨_,Tryz.func55,rfl,by kernel_rfl⟩
theorem JE:kb Tryz.prog 193 [3]:=by unfold kb; kernel_rfl
theorem Um:bM Tryz.prog 68:=⟨_,Tryz.func68,rfl,by kernel_rfl⟩
theorem yu:cE Tryz.prog 197 (default:fq):=cE.of (by kernel_rfl)
theorem BH:hg Tryz.prog 197 #[(0,1),(1,1),(2,2)]:=⟨_,Tryz.underlying197,by kernel_rfl,by kernel_rfl⟩
theorem BI:bq Tryz.prog 197 fq:=bq.of (by rfl) Tryz.underlying197 (by kernel_rfl)
theorem oh:cE Tryz.prog 148 (default:dy):=cE.of (by kernel_rfl)
theorem sM:hg Tryz.prog 148 #[(0,1),(1,1),(2,1),(3,1),(4,1)]:=⟨_,Tryz.underlying148,by kernel_rfl,by kernel_rfl⟩
theorem mG:cE Tryz.prog 199 (default:eF):=cE.of (by kernel_rfl)
theorem pZ:hg Tryz.prog 199 #[(0,1),(1,1),(2,4)]:=⟨_,Tryz.underlying199,by kernel_rfl,by kernel_rfl⟩
theorem yv:bq Tryz.prog 199 eF:=bq.of (by rfl) Tryz.underlying199 (by kernel_rfl)
theorem rp:cE Tryz.prog 151 (default:hQ):=cE.of (by kernel_rfl)
theorem BJ:hg Tryz.prog 151 #[(0,1),(1,1)]:=⟨_,Tryz.underlying151,by kernel_rfl,by kernel_rfl⟩
theorem vo:bq Tryz.prog 151 hQ:=bq.of (by rfl) Tryz.underlying151 (by kernel_rfl)
theorem mF:bq Tryz.prog 148 dy:=bq.of (by rfl) Tryz.underlying148 (by kernel_rfl)
theorem oA:bq Tryz.prog 9 ByteArray:=bq.of (by rfl) Tryz.underlying9 (by kernel_rfl)
theorem JF:b9 Tryz.prog 148 4 4:=b9.of Tryz.underlying148 rfl rfl oA rfl
theorem Un:bM Tryz.prog 69:=⟨_,Tryz.func69,rfl,by kernel_rfl⟩
theorem iz:cE Tryz.prog 86 (default:cB):=cE.of (by kernel_rfl)
theorem p8:hg Tryz.prog 86 #[(0,1),(1,1),(2,1)]:=⟨_,Tryz.underlying86,by kernel_rfl,by kernel_rfl⟩
theorem g8:bq Tryz.prog 86 cB:=bq.of (by rfl) Tryz.underlying86 (by kernel_rfl)
theorem kJ:cE Tryz.prog 65 (default:bN):=cE.of (by kernel_rfl)
theorem y3:hg Tryz.prog 65 #[(0,1),(1,1),(2,1),(3,1),(4,1),(5,1),(6,1),(7,1)]:=⟨_,Tryz.underlying65,by kernel_rfl,by kernel_rfl⟩
theorem fG:bq Tryz.prog 65 bN:=bq.of (by rfl) Tryz.underlying65 (by kernel_rfl)
theorem jY:bq Tryz.prog 62 (List cB):=bq.of (by rfl) Tryz.underlying62 (by kernel_rfl)
theorem kg:b9 Tryz.prog 65 2 2:=b9.of Tryz.underlying65 rfl rfl jY rfl
theorem EC:kb Tryz.prog 65 [2]:=by unfold kb; kernel_rfl
theorem EB:kb Tryz.prog 65 []:=by unfold kb; kernel_rfl
theorem bV:bq Tryz.prog 43 al:=bq.of (by rfl) Tryz.underlying43 (by kernel_rfl)
theorem Cm:cE Tryz.prog 9 (default:ByteArray):=cE.of (by kernel_rfl)
theorem E0:bq Tryz.prog 200 (List ByteArray):=bq.of (by rfl) Tryz.underlying200 (by kernel_rfl)
theorem SD:cE Tryz.prog 200 (default:List ByteArray):=cE.of (by kernel_rfl)
theorem RI:b9 Tryz.prog 65 7 7:=b9.of Tryz.underlying65 rfl rfl oA rfl
theorem Uo:bM Tryz.prog 70:=⟨_,Tryz.func70,rfl,by kernel_rfl⟩
theorem Fq:bq Tryz.prog 26 (List dh):=bq.of (by rfl) Tryz.underlying26 (by kernel_rfl)
theorem Kc:b9 Tryz.prog 33 2 2:=b9.of Tryz.underlying33 rfl rfl Fq rfl
theorem BW:bq Tryz.prog 27 (List dy):=bq.of (by rfl) Tryz.underlying27 (by kernel_rfl)
theorem EA:b9 Tryz.prog 33 3 3:=b9.of Tryz.underlying33 rfl rfl BW rfl
theorem lW:bq Tryz.prog 28 (List bN):=bq.of (by rfl) Tryz.underlying28 (by kernel_rfl)
theorem mB:b9 Tryz.prog 33 4 4:=b9.of Tryz.underlying33 rfl rfl lW rfl
theorem rl:cE Tryz.prog 204 (default:cy):=cE.of (by kernel_rfl)
theorem E1:hg Tryz.prog 204 #[(0,1),(1,1),(2,1),(3,1),(4,1),(5,1)]:=⟨_,Tryz.underlying204,by kernel_rfl,by kernel_rfl⟩
theorem pa:bq Tryz.prog 204 cy:=bq.of (by rfl) Tryz.underlying204 (by kernel_rfl)
theorem fk:bq Tryz.prog 4 Bool:=bq.of (by rfl) Tryz.underlying4 (by kernel_rfl)
theorem Cn:cE Tryz.prog 4 (default:Bool):=cE.of (by kernel_rfl)
theorem sP:bq Tryz.prog 202 (List da):=bq.of (by rfl) Tryz.underlying202 (by kernel_rfl)
theorem u1:b9 Tryz.prog 204 2 2:=b9.of Tryz.underlying204 rfl rfl sP rfl
theorem sC:b9 Tryz.prog 65 0 0:=b9.of Tryz.underlying65 rfl rfl bo rfl
theorem p0:cE Tryz.prog 207 (default:da):=cE.of (by kernel_rfl)
theorem E2:hg Tryz.prog 207 #[(0,1),(1,1),(2,1),(3,1)]:=⟨_,Tryz.underlying207,by kernel_rfl,by kernel_rfl⟩
theorem vp:bq Tryz.prog 207 da:=bq.of (by rfl) Tryz.underlying207 (by kernel_rfl)
theorem u0:kb Tryz.prog 204 [2]:=by unfold kb; kernel_rfl
theorem Up:bM Tryz.prog 71:=⟨_,Tryz.func71,rfl,by kernel_rfl⟩
theorem Fs:bq Tryz.prog 30 (List cy):=bq.of (by rfl) Tryz.underlying30 (by kernel_rfl)
theorem Kd:b9 Tryz.prog 33 6 6:=b9.of Tryz.underlying33 rfl rfl Fs rfl
theorem rr:cE Tryz.prog 127 (default:fr):=cE.of (by kernel_rfl)
theorem yw:hg Tryz.prog 127 #[(0,1),(1,1)]:=⟨_,Tryz.underlying127,by kernel_rfl,by kernel_rfl⟩
theorem E4:bq Tryz.prog 127 fr:=bq.of (by rfl) Tryz.underlying127 (by kernel_rfl)
theorem BY:bq Tryz.prog 29 (List fr):=bq.of (by rfl) Tryz.underlying29 (by kernel_rfl)
theorem ED:b9 Tryz.prog 33 5 5:=b9.of Tryz.underlying33 rfl rfl BY rfl
theorem s7:bq Tryz.prog 31 (List eG):=bq.of (by rfl) Tryz.underlying31 (by kernel_rfl)
theorem va:b9 Tryz.prog 33 7 7:=b9.of Tryz.underlying33 rfl rfl s7 rfl
theorem pc:cE Tryz.prog 129 (default:eG):=cE.of (by kernel_rfl)
theorem BL:hg Tryz.prog 129 #[(0,1),(1,1),(2,1),(3,1),(4,1),(5,1)]:=⟨_,Tryz.underlying129,by kernel_rfl,by kernel_rfl⟩
theorem vq:bq Tryz.prog 129 eG:=bq.of (by rfl) Tryz.underlying129 (by kernel_rfl)
theorem I6:kb Tryz.prog 33 [5,7]:=by unfold kb; kernel_rfl
theorem LR:bM Tryz.prog 16:=⟨_,Tryz.func16,rfl,by kernel_rfl⟩
structure ca where
 gu:Bool
 cL:al
 gK:al
 dO:Int
 jg:al
 deriving DecidableEq,Inhabited
instance:ah ca:= .str (dc Bool (dc al (dc al (dc Int (hx al))))) (fun x=>(x.gu,x.cL,x.gK,x.dO,x.jg)) 8
def mm:aK ca Bool:= .str dq 0 ca.gu fun b g=> { b with gu:=g }
def iJ:aK ca al:= .str (bs dq) 1 ca.cL fun b g=> { b with cL:=g }
def ny:aK ca al:= .str (bs (bs dq)) 3 ca.gK fun b g=> { b with gK:=g }
def lO:aK ca Int:= .str (bs (bs (bs dq))) 5 ca.dO fun b g=> { b with dO:=g }
def sb:aK ca al:= .str (bs (bs (bs (bs hV)))) 6 ca.jg fun b g=> { b with jg:=g }
instance:a8 ca:=⟨a8.cells Bool ++ a8.cells al ++ a8.cells al ++ a8.cells Int ++ a8.cells al,fun A W=>⟨by rfl,a8.ok (α:=Bool) A W,a8.ok (α:=al) A W,a8.ok (α:=al) A W,a8.ok (α:=Int) A W,a8.ok (α:=al) A W⟩⟩
structure bu where
 dD:Int
 bW:List ca
 g7:Int
 lP:Int
 jU:List al
 deriving DecidableEq,Inhabited
instance:ah bu:= .str (dc Int (dc (List ca) (dc Int (dc Int (hx (List al)))))) (fun x=>(x.dD,x.bW,x.g7,x.lP,x.jU)) 5
def qP:aK bu Int:= .str dq 0 bu.dD fun b g=> { b with dD:=g }
def jQ:aK bu (List ca):= .str (bs dq) 1 bu.bW fun b g=> { b with bW:=g }
def n3:aK bu Int:= .str (bs (bs dq)) 2 bu.g7 fun b g=> { b with g7:=g }
def AB:aK bu Int:= .str (bs (bs (bs dq))) 3 bu.lP fun b g=> { b with lP:=g }
def uh:aK bu (List al):= .str (bs (bs (bs (bs hV)))) 4 bu.jU fun b g=> { b with jU:=g }
instance:a8 bu:=⟨a8.cells Int ++ a8.cells (List ca) ++ a8.cells Int ++ a8.cells Int ++ a8.cells (List al),fun A W=>⟨by rfl,a8.ok (α:=Int) A W,a8.ok (α:=List ca) A W,a8.ok (α:=Int) A W,a8.ok (α:=Int) A W,a8.ok (α:=List al) A W⟩⟩
structure aJ where
 bH:bu
 cI:Int
 kE:Int
 deriving DecidableEq,Inhabited
instance:ah aJ:= .str (dc bu (dc Int (hx Int))) (fun x=>(x.bH,x.cI,x.kE)) 7
def jd:aK aJ bu:= .str dq 0 aJ.bH fun b g=> { b with bH:=g }
def lN:aK aJ Int:= .str (bs dq) 5 aJ.cI fun b g=> { b with cI:=g }
def C0:aK aJ Int:= .str (bs (bs hV)) 6 aJ.kE fun b g=> { b with kE:=g }
instance:a8 aJ:=⟨a8.cells bu ++ a8.cells Int ++ a8.cells Int,fun A W=>⟨by rfl,a8.ok (α:=bu) A W,a8.ok (α:=Int) A W,a8.ok (α:=Int) A W⟩⟩
theorem Sj:bM Tryz.prog 119:=⟨_,Tryz.func119,rfl,by kernel_rfl⟩
theorem Sk:bM Tryz.prog 118:=⟨_,Tryz.func118,rfl,by kernel_rfl⟩
theorem LL:bM Tryz.prog 82:=⟨_,Tryz.func82,rfl,by kernel_rfl⟩
theorem ra:b9 Tryz.prog 86 2 2:=b9.of Tryz.underlying86 rfl rfl bo rfl
theorem Uv:bM Tryz.prog 83:=⟨_,Tryz.func83,rfl,by kernel_rfl⟩
structure jR where
 ps:Ref
 deriving DecidableEq,Inhabited
instance:ah jR:= .str (hx Ref) (fun x=>x.ps) 1
def AJ:aK jR Ref:= .str hV 0 jR.ps fun b g=> { b with ps:=g }
instance:a8 jR:=⟨a8.cells Ref,fun A W=>⟨by rfl,a8.ok (α:=Ref) A W⟩⟩
structure dY where
 p2:Int
 ey:Int
 fE:gf
 deriving DecidableEq,Inhabited
instance:ah dY:= .str (dc Int (dc Int (hx gf))) (fun x=>(x.p2,x.ey,x.fE)) 3
def wD:aK dY Int:= .str dq 0 dY.p2 fun b g=> { b with p2:=g }
def qO:aK dY Int:= .str (bs dq) 1 dY.ey fun b g=> { b with ey:=g }
def m1:aK dY gf:= .str (bs (bs hV)) 2 dY.fE fun b g=> { b with fE:=g }
instance:a8 dY:=⟨a8.cells Int ++ a8.cells Int ++ a8.cells gf,fun A W=>⟨by rfl,a8.ok (α:=Int) A W,a8.ok (α:=Int) A W,a8.ok (α:=gf) A W⟩⟩
structure je where
 cb:Ref
 deriving DecidableEq,Inhabited
instance:ah je:= .str (hx Ref) (fun x=>x.cb) 1
def AO:aK je Ref:= .str hV 0 je.cb fun b g=> { b with cb:=g }
instance:a8 je:=⟨a8.cells Ref,fun A W=>⟨by rfl,a8.ok (α:=Ref) A W⟩⟩
inductive gm where
 | nil
 | lX (x:jR)
 | lY (x:dY)
 | lZ (x:je)
 deriving DecidableEq,Inhabited
instance:ah gm where
 size:=1
 agg:=false
 rep A W cs x:=match x with
  | .nil=>cs= [.nilIface]
  | .lX x=> ∃ v,cs= [.iface 166 v]∧ (I.of x).holds A W v
  | .lY x=> ∃ v,cs= [.iface 169 v]∧ (I.of x).holds A W v
  | .lZ x=> ∃ v,cs= [.iface 173 v]∧ (I.of x).holds A W v
 len {A W cs x} h:=by cases x <;> first | (have h:cs=_:=h; rw [h]; rfl) | (obtain⟨v,h,_⟩:=h; rw [h]; rfl)
 one {A W cs x} h:=by
  intro u hu
  cases x <;> first | (have h:cs=_:=h; rw [h] at hu; rw [List.mem_singleton.1 hu]; rfl) | (obtain⟨v,h,_⟩:=h; rw [h] at hu; rw [List.mem_singleton.1 hu]; rfl)
 flat _:=rfl
 mono {A W cQ W' cs x} e h:=by cases x <;> first | exact h | (obtain⟨v,h,ae⟩:=h; exact⟨v,h,I.mono _ e ae⟩)
instance:a8 gm:=⟨[.nilIface],fun _ _=>rfl⟩
theorem PQ {A W v} {x:jR} (h:(I.of x).holds A W v):(I.of (gm.lX x)).holds A W (.iface 166 v):=⟨rfl,v,rfl,h⟩
theorem DH {A W u} {x:jR} (h:(I.of (gm.lX x)).holds A W u):∃ v,u= .iface 166 v∧ (I.of x).holds A W v:=by
 obtain⟨aa,v,ae,aD⟩:=h
 exact⟨v,m6 aa ae,aD⟩
theorem PR {A W v} {x:dY} (h:(I.of x).holds A W v):(I.of (gm.lY x)).holds A W (.iface 169 v):=⟨rfl,v,rfl,h⟩
theorem DI {A W u} {x:dY} (h:(I.of (gm.lY x)).holds A W u):∃ v,u= .iface 169 v∧ (I.of x).holds A W v:=by
 obtain⟨aa,v,ae,aD⟩:=h
 exact⟨v,m6 aa ae,aD⟩
theorem PS {A W v} {x:je} (h:(I.of x).holds A W v):(I.of (gm.lZ x)).holds A W (.iface 173 v):=⟨rfl,v,rfl,h⟩
theorem DJ {A W u} {x:je} (h:(I.of (gm.lZ x)).holds A W u):∃ v,u= .iface 173 v∧ (I.of x).holds A W v:=by
 obtain⟨aa,v,ae,aD⟩:=h
 exact⟨v,m6 aa ae,aD⟩
structure gA where
 oa:Int
 nH:Int
 iM:gm
 ll:gf
 deriving DecidableEq,Inhabited
instance:ah gA:= .str (dc Int (dc Int (dc gm (hx gf)))) (fun x=>(x.oa,x.nH,x.iM,x.ll)) 4
def Hs:aK gA Int:= .str dq 0 gA.oa fun b g=> { b with oa:=g }
def Hv:aK gA Int:= .str (bs dq) 1 gA.nH fun b g=> { b with nH:=g }
def ua:aK gA gm:= .str (bs (bs dq)) 2 gA.iM fun b g=> { b with iM:=g }
def Aw:aK gA gf:= .str (bs (bs (bs hV))) 3 gA.ll fun b g=> { b with ll:=g }
instance:a8 gA:=⟨a8.cells Int ++ a8.cells Int ++ a8.cells gm ++ a8.cells gf,fun A W=>⟨by rfl,a8.ok (α:=Int) A W,a8.ok (α:=Int) A W,a8.ok (α:=gm) A W,a8.ok (α:=gf) A W⟩⟩
theorem S0:cE Tryz.prog 135 (default:gA):=cE.of (by kernel_rfl)
theorem SZ:hg Tryz.prog 135 #[(0,1),(1,1),(2,1),(3,1)]:=⟨_,Tryz.underlying135,by kernel_rfl,by kernel_rfl⟩
structure mq where
 oe:gf
 deriving DecidableEq,Inhabited
instance:ah mq:= .str (hx gf) (fun x=>x.oe) 1
def AD:aK mq gf:= .str hV 0 mq.oe fun b g=> { b with oe:=g }
instance:a8 mq:=⟨a8.cells gf,fun A W=>⟨by rfl,a8.ok (α:=gf) A W⟩⟩
theorem Si:cE Tryz.prog 224 (default:mq):=cE.of (by kernel_rfl)
theorem Sh:hg Tryz.prog 224 #[(0,1)]:=⟨_,Tryz.underlying224,by kernel_rfl,by kernel_rfl⟩
theorem Uw:bM Tryz.prog 84:=⟨_,Tryz.func84,rfl,by kernel_rfl⟩
theorem S2:cE Tryz.prog 166 (default:jR):=cE.of (by kernel_rfl)
theorem S1:hg Tryz.prog 166 #[(0,1)]:=⟨_,Tryz.underlying166,by kernel_rfl,by kernel_rfl⟩
theorem sS:bq Tryz.prog 132 gm:=bq.of (by rfl) Tryz.underlying132 (by kernel_rfl)
theorem u3:b9 Tryz.prog 135 2 2:=b9.of Tryz.underlying135 rfl rfl sS rfl
theorem D6:b9 Tryz.prog 119 0 0:=b9.of Tryz.underlying119 rfl rfl bo rfl
theorem Sp:bM Tryz.prog 121:=⟨_,Tryz.func121,rfl,by kernel_rfl⟩
theorem Sq:bM Tryz.prog 120:=⟨_,Tryz.func120,rfl,by kernel_rfl⟩
theorem Bq:b9 Tryz.prog 86 1 1:=b9.of Tryz.underlying86 rfl rfl bo rfl
theorem LM:bM Tryz.prog 85:=⟨_,Tryz.func85,rfl,by kernel_rfl⟩
theorem Bi:b9 Tryz.prog 119 2 2:=b9.of Tryz.underlying119 rfl rfl bo rfl
theorem S4:cE Tryz.prog 169 (default:dY):=cE.of (by kernel_rfl)
theorem S3:hg Tryz.prog 169 #[(0,1),(1,1),(2,1)]:=⟨_,Tryz.underlying169,by kernel_rfl,by kernel_rfl⟩
structure cF where
 m8:aY
 cb:List aJ
 deriving DecidableEq,Inhabited
instance:ah cF:= .str (dc aY (hx (List aJ))) (fun x=>(x.m8,x.cb)) 11
def At:aK cF aY:= .str dq 0 cF.m8 fun b g=> { b with m8:=g }
def wV:aK cF (List aJ):= .str (bs hV) 10 cF.cb fun b g=> { b with cb:=g }
instance:a8 cF:=⟨a8.cells aY ++ a8.cells (List aJ),fun A W=>⟨by rfl,a8.ok (α:=aY) A W,a8.ok (α:=List aJ) A W⟩⟩
theorem Sm:cE Tryz.prog 228 (default:cF):=cE.of (by kernel_rfl)
theorem Sl:hg Tryz.prog 228 #[(0,10),(10,1)]:=⟨_,Tryz.underlying228,by kernel_rfl,by kernel_rfl⟩
theorem Ux:bM Tryz.prog 86:=⟨_,Tryz.func86,rfl,by kernel_rfl⟩
theorem Qr:kb Tryz.prog 228 [10]:=by unfold kb; kernel_rfl
theorem S8:cE Tryz.prog 173 (default:je):=cE.of (by kernel_rfl)
theorem S7:hg Tryz.prog 173 #[(0,1)]:=⟨_,Tryz.underlying173,by kernel_rfl,by kernel_rfl⟩
theorem LS:bM Tryz.prog 25:=⟨_,Tryz.func25,rfl,by kernel_rfl⟩
theorem vG:bM Tryz.prog 39:=⟨_,Tryz.func39,rfl,by kernel_rfl⟩
theorem BX:cE Tryz.prog 50 (default:bu):=cE.of (by kernel_rfl)
theorem UE:hg Tryz.prog 50 #[(0,1),(1,1),(2,1),(3,1),(4,1)]:=⟨_,Tryz.underlying50,by kernel_rfl,by kernel_rfl⟩
theorem g9:bq Tryz.prog 50 bu:=bq.of (by rfl) Tryz.underlying50 (by kernel_rfl)
theorem mL:cE Tryz.prog 88 (default:ca):=cE.of (by kernel_rfl)
theorem Tp:bM Tryz.prog 108:=⟨_,Tryz.func108,rfl,by kernel_rfl⟩
theorem ek:bq Tryz.prog 41 (BitVec 64):=bq.of (by rfl) Tryz.underlying41 (by kernel_rfl)
theorem jw:b9 Tryz.prog 43 0 0:=b9.of Tryz.underlying43 rfl rfl ek rfl
theorem hS:b9 Tryz.prog 43 1 1:=b9.of Tryz.underlying43 rfl rfl ek rfl
theorem FA:bM Tryz.prog 46:=⟨_,Tryz.func46,rfl,by kernel_rfl⟩
theorem Tq:bM Tryz.prog 109:=⟨_,Tryz.func109,rfl,by kernel_rfl⟩
theorem Ka:G2 Tryz.prog 43 1 41 1:=⟨_,_,Tryz.underlying43,rfl,rfl,rfl⟩
theorem s9:hg Tryz.prog 88 #[(0,1),(1,2),(3,2),(5,1),(6,2)]:=⟨_,Tryz.underlying88,by kernel_rfl,by kernel_rfl⟩
theorem fO:bq Tryz.prog 88 ca:=bq.of (by rfl) Tryz.underlying88 (by kernel_rfl)
theorem jA:bq Tryz.prog 47 (List ca):=bq.of (by rfl) Tryz.underlying47 (by kernel_rfl)
theorem jT:b9 Tryz.prog 50 1 1:=b9.of Tryz.underlying50 rfl rfl jA rfl
theorem UF:bM Tryz.prog 75:=⟨_,Tryz.func75,rfl,by kernel_rfl⟩
theorem n9:b9 Tryz.prog 50 2 2:=b9.of Tryz.underlying50 rfl rfl bo rfl
theorem kI:bq Tryz.prog 63 (List Int):=bq.of (by rfl) Tryz.underlying63 (by kernel_rfl)
theorem Ki:b9 Tryz.prog 65 3 3:=b9.of Tryz.underlying65 rfl rfl kI rfl
theorem Bs:b9 Tryz.prog 50 3 3:=b9.of Tryz.underlying50 rfl rfl bo rfl
theorem Jz:b9 Tryz.prog 148 0 0:=b9.of Tryz.underlying148 rfl rfl bo rfl
theorem UG:bM Tryz.prog 76:=⟨_,Tryz.func76,rfl,by kernel_rfl⟩
theorem Q8:G2 Tryz.prog 148 2 145 2:=⟨_,_,Tryz.underlying148,rfl,rfl,rfl⟩
theorem Tr:bq Tryz.prog 145 (List hQ):=bq.of (by rfl) Tryz.underlying145 (by kernel_rfl)
theorem sY:bq Tryz.prog 48 (List al):=bq.of (by rfl) Tryz.underlying48 (by kernel_rfl)
theorem u9:b9 Tryz.prog 50 4 4:=b9.of Tryz.underlying50 rfl rfl sY rfl
theorem Q9:b9 Tryz.prog 151 1 1:=b9.of Tryz.underlying151 rfl rfl bo rfl
theorem Ja:kb Tryz.prog 50 [1,4]:=by unfold kb; kernel_rfl
theorem UH:bM Tryz.prog 27:=⟨_,Tryz.func27,rfl,by kernel_rfl⟩
theorem hn:cE Tryz.prog 52 (default:aJ):=cE.of (by kernel_rfl)
theorem BZ:hg Tryz.prog 52 #[(0,5),(5,1),(6,1)]:=⟨_,Tryz.underlying52,by kernel_rfl,by kernel_rfl⟩
theorem cO:bq Tryz.prog 52 aJ:=bq.of (by rfl) Tryz.underlying52 (by kernel_rfl)
theorem BM:bq Tryz.prog 133 gf:=bq.of (by rfl) Tryz.underlying133 (by kernel_rfl)
theorem Ec:b9 Tryz.prog 135 3 3:=b9.of Tryz.underlying135 rfl rfl BM rfl
theorem mC:b9 Tryz.prog 52 1 5:=b9.of Tryz.underlying52 rfl rfl bo rfl
theorem FU:n0 Tryz.prog 3 Int:=R0 Tryz.underlying3
theorem jx:b9 Tryz.prog 52 0 0:=b9.of Tryz.underlying52 rfl rfl g9 rfl
theorem nR:cE Tryz.prog 45 (default:Vector al 4):=cE.of (by kernel_rfl)
theorem kU:b9 Tryz.prog 88 1 1:=b9.of Tryz.underlying88 rfl rfl bV rfl
theorem lx:nY Tryz.prog 45 4 2:=nY.of Tryz.underlying45 bV rfl
theorem g2:bq Tryz.prog 45 (Vector al 4):=bq.of (by rfl) Tryz.underlying45 (by kernel_rfl)
theorem BB:bq Tryz.prog 222 gf:=bq.of (by rfl) Tryz.underlying222 (by kernel_rfl)
theorem D7:b9 Tryz.prog 224 0 0:=b9.of Tryz.underlying224 rfl rfl BB rfl
instance W8:ke al where
 uniq {A W cs cQ W' dA x} h cX:=by
  refine Rn h.1 cX.1 ?_
  refine Jj 0 (ah.size (BitVec 64)) (ke.uniq (h.2.1) (cX.2.1)) ?_
  refine Jj 1 (ah.size (BitVec 64)) (ke.uniq (h.2.2) (cX.2.2)) ?_
  exact Ro h.1 cX.1 (by decide)
 plain {A W cs x} h:=by
  intro u hu n
  have bT:=Bm (o:=0) (s:=ah.size (BitVec 64)) (by simpa using hu)
  rcases bT with aa | bT
  ·exact ke.plain (h.2.1) u aa n
  have bT:=Bm (s:=ah.size (BitVec 64)) bT
  rcases bT with aa | bT
  ·exact ke.plain (h.2.2) u aa n
  exact JN h.1 (by rfl) bT
theorem LG:k9 Tryz.prog 41 (BitVec 64) 1:=Rh (K:= .u64) Tryz.underlying41
theorem lS:k9 Tryz.prog 43 al 2:=It (k:=1) rfl Tryz.underlying43 (by kernel_rfl) fun d hd A W xs ys x y aq a9=>by
 refine Eq.trans (sw hA ek rfl (by rfl) LG (by omega) aq a9 (sw ec ek rfl (by rfl) LG (by omega) aq a9 (JM))) ?_
 congr 1
 rw [Bool.eq_iff_iff]
 simp only [Bool.and_eq_true,decide_eq_true_eq,and_true]
 cases x; cases y
 simp [aK.str,hA,ec]
theorem Sd:k9 Tryz.prog 319 (Vector al 4) 3:=JL Tryz.underlying319 bV lS
theorem Ma:pD Tryz.prog 41 (BitVec 64) 1:=IX Tryz.underlying41 rfl
theorem Mb:pD Tryz.prog 43 al 2:=Qb (k:=1) rfl Tryz.underlying43 (.cons hA rfl ek (fun b d A W u x h aq=>Ma b d A W u x (by omega) aq) (.cons ec rfl ek (fun b d A W u x h aq=>Ma b d A W u x (by omega) aq) (.nil)))
theorem T5:pD Tryz.prog 319 (Vector al 4) 3:=Kr Tryz.underlying319 bV Mb
theorem EV:n0 Tryz.prog 319 (Vector al 4):=Ks Tryz.underlying319 rfl T5 Sd rfl rfl
theorem BC:bq Tryz.prog 163 Ref:=bq.of (by rfl) Tryz.underlying163 (by kernel_rfl)
theorem D8:b9 Tryz.prog 166 0 0:=b9.of Tryz.underlying166 rfl rfl BC rfl
theorem EX:bM Tryz.prog 232:=⟨_,Tryz.func232,rfl,by kernel_rfl⟩
theorem KK:bM Tryz.prog 231:=⟨_,Tryz.func231,rfl,by kernel_rfl⟩
theorem BD:bq Tryz.prog 169 dY:=bq.of (by rfl) Tryz.underlying169 (by kernel_rfl)
theorem vm:cE Tryz.prog 320 (default:Vector al 4):=cE.of (by kernel_rfl)
theorem Bj:b9 Tryz.prog 169 0 0:=b9.of Tryz.underlying169 rfl rfl bo rfl
theorem hJ:bq Tryz.prog 320 (Vector al 4):=bq.of (by rfl) Tryz.underlying320 (by kernel_rfl)
theorem KL:bM Tryz.prog 241:=⟨_,Tryz.func241,rfl,by kernel_rfl⟩
theorem nF:b9 Tryz.prog 88 3 5:=b9.of Tryz.underlying88 rfl rfl bo rfl
theorem K4:bM Tryz.prog 239:=⟨_,Tryz.func239,rfl,by kernel_rfl⟩
theorem BN:cE Tryz.prog 331 (default:Ref):=cE.of (by kernel_rfl)
theorem KM:bM Tryz.prog 205:=⟨_,Tryz.func205,rfl,by kernel_rfl⟩
theorem KN:bM Tryz.prog 204:=⟨_,Tryz.func204,rfl,by kernel_rfl⟩
theorem E5:bM Tryz.prog 188:=⟨_,Tryz.func188,rfl,by kernel_rfl⟩
theorem SE:bM Tryz.prog 193:=⟨_,Tryz.func193,rfl,by kernel_rfl⟩
theorem u2:b9 Tryz.prog 337 0 0:=b9.of Tryz.underlying337 rfl rfl bo rfl
structure fM where
 ey:Int
 cV:Ref
 deriving DecidableEq,Inhabited
instance:ah fM:= .str (dc Int (hx Ref)) (fun x=>(x.ey,x.cV)) 2
def r9:aK fM Int:= .str dq 0 fM.ey fun b g=> { b with ey:=g }
def w1:aK fM Ref:= .str (bs hV) 1 fM.cV fun b g=> { b with cV:=g }
instance:a8 fM:=⟨a8.cells Int ++ a8.cells Ref,fun A W=>⟨by rfl,a8.ok (α:=Int) A W,a8.ok (α:=Ref) A W⟩⟩
theorem KX:bM Tryz.prog 189:=⟨_,Tryz.func189,rfl,by kernel_rfl⟩
theorem yy:bM Tryz.prog 148:=⟨_,Tryz.func148,rfl,by kernel_rfl⟩
theorem o6:Tryz.prog.eqGuardType Tryz.prog.depth 43=false:=by kernel_rfl
theorem K1:bM Tryz.prog 251:=⟨_,Tryz.func251,rfl,by kernel_rfl⟩
theorem eX:bq Tryz.prog 331 Ref:=bq.of (by rfl) Tryz.underlying331 (by kernel_rfl)
theorem xV:b9 Tryz.prog 337 1 1:=b9.of Tryz.underlying337 rfl rfl eX rfl
theorem E8:bM Tryz.prog 250:=⟨_,Tryz.func250,rfl,by kernel_rfl⟩
theorem KT:bq Tryz.prog 321 Ref:=bq.of (by rfl) Tryz.underlying321 (by kernel_rfl)
theorem KV:bM Tryz.prog 196:=⟨_,Tryz.func196,rfl,by kernel_rfl⟩
theorem T6:bq Tryz.prog 333 (Vector Ref 2):=bq.of (by rfl) Tryz.underlying333 (by kernel_rfl)
theorem xW:b9 Tryz.prog 335 0 0:=b9.of Tryz.underlying335 rfl rfl T6 rfl
theorem yz:nY Tryz.prog 333 2 1:=nY.of Tryz.underlying333 eX rfl
structure ep where
 er:Vector Ref 2
 eV:Bool
 jC:Int
 deriving DecidableEq,Inhabited
instance:ah ep:= .str (dc (Vector Ref 2) (dc Bool (hx Int))) (fun x=>(x.er,x.eV,x.jC)) 4
def wE:aK ep (Vector Ref 2):= .str dq 0 ep.er fun b g=> { b with er:=g }
def sa:aK ep Bool:= .str (bs dq) 2 ep.eV fun b g=> { b with eV:=g }
def Dl:aK ep Int:= .str (bs (bs hV)) 3 ep.jC fun b g=> { b with jC:=g }
instance:a8 ep:=⟨a8.cells (Vector Ref 2) ++ a8.cells Bool ++ a8.cells Int,fun A W=>⟨by rfl,a8.ok (α:=Vector Ref 2) A W,a8.ok (α:=Bool) A W,a8.ok (α:=Int) A W⟩⟩
theorem E9:bM Tryz.prog 255:=⟨_,Tryz.func255,rfl,by kernel_rfl⟩
theorem K3:bM Tryz.prog 247:=⟨_,Tryz.func247,rfl,by kernel_rfl⟩
theorem sx:b9 Tryz.prog 335 1 2:=b9.of Tryz.underlying335 rfl rfl fk rfl
theorem Eb:b9 Tryz.prog 335 2 3:=b9.of Tryz.underlying335 rfl rfl bo rfl
theorem nj:bq Tryz.prog 167 gf:=bq.of (by rfl) Tryz.underlying167 (by kernel_rfl)
theorem nB:b9 Tryz.prog 169 2 2:=b9.of Tryz.underlying169 rfl rfl nj rfl
theorem Se:k9 Tryz.prog 320 (Vector al 4) 3:=JL Tryz.underlying320 bV lS
theorem T7:pD Tryz.prog 320 (Vector al 4) 3:=Kr Tryz.underlying320 bV Mb
theorem yA:n0 Tryz.prog 320 (Vector al 4):=Ks Tryz.underlying320 rfl T7 Se rfl rfl
theorem BO:cE Tryz.prog 321 (default:Ref):=cE.of (by kernel_rfl)
theorem S9:bM Tryz.prog 240:=⟨_,Tryz.func240,rfl,by kernel_rfl⟩
theorem BQ:bq Tryz.prog 170 Ref:=bq.of (by rfl) Tryz.underlying170 (by kernel_rfl)
theorem Ef:b9 Tryz.prog 173 0 0:=b9.of Tryz.underlying173 rfl rfl BQ rfl
theorem s0:bq Tryz.prog 38 (List aJ):=bq.of (by rfl) Tryz.underlying38 (by kernel_rfl)
theorem uZ:b9 Tryz.prog 228 1 10:=b9.of Tryz.underlying228 rfl rfl s0 rfl
theorem Sr:bM Tryz.prog 161:=⟨_,Tryz.func161,rfl,by kernel_rfl⟩
theorem Ss:bM Tryz.prog 162:=⟨_,Tryz.func162,rfl,by kernel_rfl⟩
theorem SG:bM Tryz.prog 122:=⟨_,Tryz.func122,rfl,by kernel_rfl⟩
theorem za:bM Tryz.prog 87:=⟨_,Tryz.func87,rfl,by kernel_rfl⟩
theorem SQ:bM Tryz.prog 269:=⟨_,Tryz.func269,rfl,by kernel_rfl⟩
theorem Tb:bM Tryz.prog 264:=⟨_,Tryz.func264,rfl,by kernel_rfl⟩
theorem sG:b9 Tryz.prog 50 0 0:=b9.of Tryz.underlying50 rfl rfl bo rfl
theorem Vk:k9 Tryz.prog 4 Bool 1:=Qz Tryz.underlying4
theorem Vl:k9 Tryz.prog 3 Int 1:=JK (K:= .i64) Tryz.underlying3
theorem Sn:k9 Tryz.prog 88 ca 3:=It (k:=2) rfl Tryz.underlying88 (by kernel_rfl) fun d hd A W xs ys x y aq a9=>by
 refine Eq.trans (sw mm fk rfl (by rfl) Vk (by omega) aq a9 (sw iJ bV rfl (by rfl) lS (by omega) aq a9 (sw ny bV rfl (by rfl) lS (by omega) aq a9 (sw lO bo rfl (by rfl) Vl (by omega) aq a9 (sw sb bV rfl (by rfl) lS (by omega) aq a9 (JM)))))) ?_
 congr 1
 rw [Bool.eq_iff_iff]
 simp only [Bool.and_eq_true,decide_eq_true_eq,and_true]
 cases x; cases y
 simp [aK.str,mm,iJ,ny,lO,sb]
theorem So:Tryz.prog.eqGuardType Tryz.prog.depth 88=false:=by kernel_rfl
theorem St:bM Tryz.prog 270:=⟨_,Tryz.func270,rfl,by kernel_rfl⟩
theorem Tc:bM Tryz.prog 265:=⟨_,Tryz.func265,rfl,by kernel_rfl⟩
theorem T8:bM Tryz.prog 227:=⟨_,Tryz.func227,rfl,by kernel_rfl⟩
theorem PV:iI Tryz.prog 166 "matchguard/index.find" 227:=iI.qw (by kernel_rfl) Tryz.underlying166 rfl T8
theorem T9:bM Tryz.prog 235:=⟨_,Tryz.func235,rfl,by kernel_rfl⟩
theorem PW:iI Tryz.prog 169 "matchguard/index.find" 235:=iI.qw (by kernel_rfl) Tryz.underlying169 rfl T9
theorem Ua:bM Tryz.prog 260:=⟨_,Tryz.func260,rfl,by kernel_rfl⟩
theorem PX:iI Tryz.prog 173 "matchguard/index.find" 260:=iI.qw (by kernel_rfl) Tryz.underlying173 rfl Ua
theorem Sw:bM Tryz.prog 233:=⟨_,Tryz.func233,rfl,by kernel_rfl⟩
theorem Sv:cE Tryz.prog 337 (default:fM):=cE.of (by kernel_rfl)
theorem Su:hg Tryz.prog 337 #[(0,1),(1,1)]:=⟨_,Tryz.underlying337,by kernel_rfl,by kernel_rfl⟩
theorem sy:b9 Tryz.prog 169 1 1:=b9.of Tryz.underlying169 rfl rfl bo rfl
theorem vz:bM Tryz.prog 243:=⟨_,Tryz.func243,rfl,by kernel_rfl⟩
theorem K6:cE Tryz.prog 335 (default:ep):=cE.of (by kernel_rfl)
theorem K5:hg Tryz.prog 335 #[(0,2),(2,1),(3,1)]:=⟨_,Tryz.underlying335,by kernel_rfl,by kernel_rfl⟩
theorem Ta:bM Tryz.prog 244:=⟨_,Tryz.func244,rfl,by kernel_rfl⟩
theorem Sx:bM Tryz.prog 279:=⟨_,Tryz.func279,rfl,by kernel_rfl⟩
theorem Sy:bM Tryz.prog 110:=⟨_,Tryz.func110,rfl,by kernel_rfl⟩
theorem Tg:bM Tryz.prog 272:=⟨_,Tryz.func272,rfl,by kernel_rfl⟩
theorem KP:bM Tryz.prog 126:=⟨_,Tryz.func126,rfl,by kernel_rfl⟩
theorem K0:bM Tryz.prog 206:=⟨_,Tryz.func206,rfl,by kernel_rfl⟩
theorem SP:bM Tryz.prog 207:=⟨_,Tryz.func207,rfl,by kernel_rfl⟩
theorem SO:bM Tryz.prog 146:=⟨_,Tryz.func146,rfl,by kernel_rfl⟩
theorem Fu:bM Tryz.prog 92:=⟨_,Tryz.func92,rfl,by kernel_rfl⟩
theorem K2:bM Tryz.prog 190:=⟨_,Tryz.func190,rfl,by kernel_rfl⟩
theorem SR:bM Tryz.prog 133:=⟨_,Tryz.func133,rfl,by kernel_rfl⟩
theorem Ee:b9 Tryz.prog 228 0 0:=b9.of Tryz.underlying228 rfl rfl fs rfl
theorem La:bM Tryz.prog 150:=⟨_,Tryz.func150,rfl,by kernel_rfl⟩
theorem Ti:bM Tryz.prog 273:=⟨_,Tryz.func273,rfl,by kernel_rfl⟩
theorem Tj:bM Tryz.prog 274:=⟨_,Tryz.func274,rfl,by kernel_rfl⟩
theorem Tk:bM Tryz.prog 275:=⟨_,Tryz.func275,rfl,by kernel_rfl⟩
theorem Tn:bM Tryz.prog 267:=⟨_,Tryz.func267,rfl,by kernel_rfl⟩
theorem Ub:bM Tryz.prog 229:=⟨_,Tryz.func229,rfl,by kernel_rfl⟩
theorem PY:iI Tryz.prog 166 "matchguard/index.put" 229:=iI.qw (by kernel_rfl) Tryz.underlying166 rfl Ub
theorem Uc:bM Tryz.prog 237:=⟨_,Tryz.func237,rfl,by kernel_rfl⟩
theorem PZ:iI Tryz.prog 169 "matchguard/index.put" 237:=iI.qw (by kernel_rfl) Tryz.underlying169 rfl Uc
theorem Ud:bM Tryz.prog 262:=⟨_,Tryz.func262,rfl,by kernel_rfl⟩
theorem P0:iI Tryz.prog 173 "matchguard/index.put" 262:=iI.qw (by kernel_rfl) Tryz.underlying173 rfl Ud
theorem UI:bM Tryz.prog 44:=⟨_,Tryz.func44,rfl,by kernel_rfl⟩
theorem UJ:bM Tryz.prog 17:=⟨_,Tryz.func17,rfl,by kernel_rfl⟩
theorem LU:bM Tryz.prog 18:=⟨_,Tryz.func18,rfl,by kernel_rfl⟩
theorem rb:b9 Tryz.prog 88 0 0:=b9.of Tryz.underlying88 rfl rfl fk rfl
theorem pQ:b9 Tryz.prog 88 2 3:=b9.of Tryz.underlying88 rfl rfl bV rfl
theorem UK:bM Tryz.prog 19:=⟨_,Tryz.func19,rfl,by kernel_rfl⟩
theorem Q6:b9 Tryz.prog 135 1 1:=b9.of Tryz.underlying135 rfl rfl bo rfl
theorem KQ:bM Tryz.prog 185:=⟨_,Tryz.func185,rfl,by kernel_rfl⟩
theorem SA:bM Tryz.prog 254:=⟨_,Tryz.func254,rfl,by kernel_rfl⟩
theorem SI:bM Tryz.prog 248:=⟨_,Tryz.func248,rfl,by kernel_rfl⟩
theorem Vm:cE Tryz.prog 1 (default:Raw):=cE.of (by kernel_rfl)
theorem FV:bq Tryz.prog 1 Raw:=bq.of (by rfl) Tryz.underlying1 (by kernel_rfl)
theorem KZ:bM Tryz.prog 249:=⟨_,Tryz.func249,rfl,by kernel_rfl⟩
theorem SK:bM Tryz.prog 242:=⟨_,Tryz.func242,rfl,by kernel_rfl⟩
theorem Tl:bM Tryz.prog 271:=⟨_,Tryz.func271,rfl,by kernel_rfl⟩
theorem KY:bM Tryz.prog 137:=⟨_,Tryz.func137,rfl,by kernel_rfl⟩
theorem Br:b9 Tryz.prog 88 4 6:=b9.of Tryz.underlying88 rfl rfl bV rfl
theorem SL:bM Tryz.prog 283:=⟨_,Tryz.func283,rfl,by kernel_rfl⟩
theorem SM:bM Tryz.prog 282:=⟨_,Tryz.func282,rfl,by kernel_rfl⟩
theorem SW:bM Tryz.prog 278:=⟨_,Tryz.func278,rfl,by kernel_rfl⟩
theorem Tm:bM Tryz.prog 277:=⟨_,Tryz.func277,rfl,by kernel_rfl⟩
theorem To:bM Tryz.prog 266:=⟨_,Tryz.func266,rfl,by kernel_rfl⟩
theorem Ue:bM Tryz.prog 228:=⟨_,Tryz.func228,rfl,by kernel_rfl⟩
theorem P1:iI Tryz.prog 166 "matchguard/index.lookup" 228:=iI.qw (by kernel_rfl) Tryz.underlying166 rfl Ue
theorem Uf:bM Tryz.prog 236:=⟨_,Tryz.func236,rfl,by kernel_rfl⟩
theorem P2:iI Tryz.prog 169 "matchguard/index.lookup" 236:=iI.qw (by kernel_rfl) Tryz.underlying169 rfl Uf
theorem Ug:bM Tryz.prog 261:=⟨_,Tryz.func261,rfl,by kernel_rfl⟩
theorem P3:iI Tryz.prog 173 "matchguard/index.lookup" 261:=iI.qw (by kernel_rfl) Tryz.underlying173 rfl Ug
theorem UD:bM Tryz.prog 72:=⟨_,Tryz.func72,rfl,by kernel_rfl⟩
theorem UL:bM Tryz.prog 20:=⟨_,Tryz.func20,rfl,by kernel_rfl⟩
theorem KO:cE Tryz.prog 248 (default:Vector (List Int) 6):=cE.of (by kernel_rfl)
theorem nL:nY Tryz.prog 248 6 1:=nY.of Tryz.underlying248 kI rfl
theorem Q0:b9 Tryz.prog 121 0 0:=b9.of Tryz.underlying121 rfl rfl bo rfl
theorem Q1:b9 Tryz.prog 193 0 0:=b9.of Tryz.underlying193 rfl rfl bo rfl
theorem Q2:b9 Tryz.prog 204 0 0:=b9.of Tryz.underlying204 rfl rfl bo rfl
theorem Oe:kb Tryz.prog 248 [0,1,2,3,4,5]:=by unfold kb; kernel_rfl
theorem EY:bq Tryz.prog 248 (Vector (List Int) 6):=bq.of (by rfl) Tryz.underlying248 (by kernel_rfl)
theorem KR:bM Tryz.prog 142:=⟨_,Tryz.func142,rfl,by kernel_rfl⟩
theorem KS:bM Tryz.prog 141:=⟨_,Tryz.func141,rfl,by kernel_rfl⟩
theorem KW:bM Tryz.prog 106:=⟨_,Tryz.func106,rfl,by kernel_rfl⟩
theorem SB:bM Tryz.prog 124:=⟨_,Tryz.func124,rfl,by kernel_rfl⟩
theorem Ur:bM Tryz.prog 89:=⟨_,Tryz.func89,rfl,by kernel_rfl⟩
theorem rm:cE Tryz.prog 251 (default:Vector Bool 128):=cE.of (by kernel_rfl)
theorem nN:nY Tryz.prog 251 128 1:=nY.of Tryz.underlying251 fk rfl
theorem pb:bq Tryz.prog 251 (Vector Bool 128):=bq.of (by rfl) Tryz.underlying251 (by kernel_rfl)
theorem vn:bM Tryz.prog 143:=⟨_,Tryz.func143,rfl,by kernel_rfl⟩
theorem Sz:bM Tryz.prog 175:=⟨_,Tryz.func175,rfl,by kernel_rfl⟩
theorem SH:bM Tryz.prog 144:=⟨_,Tryz.func144,rfl,by kernel_rfl⟩
theorem vr:bM Tryz.prog 145:=⟨_,Tryz.func145,rfl,by kernel_rfl⟩
theorem Us:bM Tryz.prog 47:=⟨_,Tryz.func47,rfl,by kernel_rfl⟩
theorem SS:bM Tryz.prog 107:=⟨_,Tryz.func107,rfl,by kernel_rfl⟩
theorem Ut:bM Tryz.prog 73:=⟨_,Tryz.func73,rfl,by kernel_rfl⟩
theorem LP:bM Tryz.prog 79:=⟨_,Tryz.func79,rfl,by kernel_rfl⟩
theorem Uu:bM Tryz.prog 36:=⟨_,Tryz.func36,rfl,by kernel_rfl⟩
theorem UM:bM Tryz.prog 21:=⟨_,Tryz.func21,rfl,by kernel_rfl⟩
theorem vt:bM Tryz.prog 139:=⟨_,Tryz.func139,rfl,by kernel_rfl⟩
theorem SN:bM Tryz.prog 187:=⟨_,Tryz.func187,rfl,by kernel_rfl⟩
theorem SU:bM Tryz.prog 138:=⟨_,Tryz.func138,rfl,by kernel_rfl⟩
theorem SV:bM Tryz.prog 140:=⟨_,Tryz.func140,rfl,by kernel_rfl⟩
theorem SY:bM Tryz.prog 100:=⟨_,Tryz.func100,rfl,by kernel_rfl⟩
theorem Uy:bM Tryz.prog 74:=⟨_,Tryz.func74,rfl,by kernel_rfl⟩
theorem Kg:b9 Tryz.prog 52 2 6:=b9.of Tryz.underlying52 rfl rfl bo rfl
theorem UN:bM Tryz.prog 22:=⟨_,Tryz.func22,rfl,by kernel_rfl⟩
theorem Q3:b9 Tryz.prog 135 0 0:=b9.of Tryz.underlying135 rfl rfl bo rfl
theorem B1:bM Tryz.prog 42:=⟨_,Tryz.func42,rfl,by kernel_rfl⟩
theorem UO:bM Tryz.prog 23:=⟨_,Tryz.func23,rfl,by kernel_rfl⟩
structure H4 where
 cL:al
 QW:Int
 bG:Int
 deriving DecidableEq,Inhabited
instance:ah H4:= .str (dc al (dc Int (hx Int))) (fun x=>(x.cL,x.QW,x.bG)) 4
instance:a8 H4:=⟨a8.cells al ++ a8.cells Int ++ a8.cells Int,fun A W=>⟨by rfl,a8.ok (α:=al) A W,a8.ok (α:=Int) A W,a8.ok (α:=Int) A W⟩⟩
inductive Cell where
 | lz (x:List (Int × aJ))
 | mP (x:gA)
 | mQ (x:List ((Vector al 4) × Ref))
 | oo (x:List ((Vector al 4) × Int))
 | vD (x:mq)
 | rA (x:cF) (key:Option Nat) (cap:Nat)
 | gS (x:ep)
 | jB (x:fM)
instance:e9 Cell where
 hT p k:=match k with
  | .lz x=> [⟨some p,.map x⟩]
  | .mP x=> [⟨some p,.var x⟩]
  | .mQ x=> [⟨some p,.map x⟩]
  | .oo x=> [⟨some p,.map x⟩]
  | .vD x=> [⟨some p,.var x⟩]
  | .rA x key cap=> [⟨some p,.cg ({ x with cb:= [] } :cF) [(10,aV key (x.cb).length cap)]⟩,⟨key,.row 52 (x.cb:List aJ) cap⟩]
  | .gS x=> [⟨some p,.var x⟩]
  | .jB x=> [⟨some p,.var x⟩]
 root p k:=by cases k <;> exact⟨_,List.mem_cons_self ..,rfl⟩
def mH (hp:a1 Cell) (p:Nat):Option (List (Int × aJ)):=match pat hp p with
 | some (.lz x)=>some x
 | _=>none
theorem x7 {hp:a1 Cell} {p:Nat} {x:List (Int × aJ)} (h:mH hp p=some x):pat hp p=some (.lz x):=by
 unfold mH at h
 split at h
 ·rename_i ae; cases h; exact ae
 ·cases h
def h2 (hp:a1 Cell) (p:Nat):Option (gA):=match pat hp p with
 | some (.mP x)=>some x
 | _=>none
theorem nc {hp:a1 Cell} {p:Nat} {x:gA} (h:h2 hp p=some x):pat hp p=some (.mP x):=by
 unfold h2 at h
 split at h
 ·rename_i ae; cases h; exact ae
 ·cases h
def jz (hp:a1 Cell) (p:Nat):Option (List ((Vector al 4) × Ref)):=match pat hp p with
 | some (.mQ x)=>some x
 | _=>none
theorem oc {hp:a1 Cell} {p:Nat} {x:List ((Vector al 4) × Ref)} (h:jz hp p=some x):pat hp p=some (.mQ x):=by
 unfold jz at h
 split at h
 ·rename_i ae; cases h; exact ae
 ·cases h
def lU (hp:a1 Cell) (p:Nat):Option (List ((Vector al 4) × Int)):=match pat hp p with
 | some (.oo x)=>some x
 | _=>none
theorem sF {hp:a1 Cell} {p:Nat} {x:List ((Vector al 4) × Int)} (h:lU hp p=some x):pat hp p=some (.oo x):=by
 unfold lU at h
 split at h
 ·rename_i ae; cases h; exact ae
 ·cases h
def nk (hp:a1 Cell) (p:Nat):Option (mq):=match pat hp p with
 | some (.vD x)=>some x
 | _=>none
theorem u7 {hp:a1 Cell} {p:Nat} {x:mq} (h:nk hp p=some x):pat hp p=some (.vD x):=by
 unfold nk at h
 split at h
 ·rename_i ae; cases h; exact ae
 ·cases h
def nm (hp:a1 Cell) (p:Nat):Option (cF × Option Nat × Nat):=match pat hp p with
 | some (.rA x key cap)=>some (x,key,cap)
 | _=>none
theorem vb {hp:a1 Cell} {p:Nat} {x:cF × Option Nat × Nat} (h:nm hp p=some x):pat hp p=some (.rA x.1 x.2.1 x.2.2):=by
 unfold nm at h
 split at h
 ·rename_i ae; cases h; exact ae
 ·cases h
def de (hp:a1 Cell) (p:Nat):Option (ep):=match pat hp p with
 | some (.gS x)=>some x
 | _=>none
theorem lp {hp:a1 Cell} {p:Nat} {x:ep} (h:de hp p=some x):pat hp p=some (.gS x):=by
 unfold de at h
 split at h
 ·rename_i ae; cases h; exact ae
 ·cases h
def gd (hp:a1 Cell) (p:Nat):Option (fM):=match pat hp p with
 | some (.jB x)=>some x
 | _=>none
theorem nG {hp:a1 Cell} {p:Nat} {x:fM} (h:gd hp p=some x):pat hp p=some (.jB x):=by
 unfold gd at h
 split at h
 ·rename_i ae; cases h; exact ae
 ·cases h
end Go.Proofs.YtmnggbjcnoffeaaGreat
