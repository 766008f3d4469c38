/-
  The types of the data, and facts on their tables. Conditions: none.
-/
import Derived.Test.YtlkieppifclacaaGreatRows
import Derived.Test.YtlkieppifclacaaGreatMl1
import Derived.Test.YtlkieppifclacaaGreatMl2
set_option linter.defProp false
set_option linter.unusedVariables false
set_option linter.unusedSimpArgs false
set_option maxRecDepth 100000
namespace Go.Proofs.YtlkieppifclacaaGreat
open Go Gv Go.Proofs.Tryz
structure ea where
 dw:List (BitVec 8)
 wF:Int
 deriving DecidableEq,Inhabited
instance:aj ea:=.str (db (aa (BitVec 8)) (gE Int)) (λx=>(x.dw,x.wF)) 2
abbrev afL:aP ea (aa (BitVec 8)):=.str du 0 ea.dw λb g=>{b with dw:=g}
abbrev afm:aP ea Int:=.str (bA gS) 1 ea.wF λb g=>{b with wF:=g}
instance:a1 ea:=⟨a1.cells (aa (BitVec 8))++a1.cells Int,λA W=>⟨by rfl,a1.ok (α:=aa (BitVec 8)) A W,a1.ok (α:=Int) A W⟩⟩
instance ace:bS prog 5 (BitVec 8):=.i underlying5
instance:ie prog 22 5 (BitVec 8):=⟨underlying22,ace⟩
instance:dx prog 109 (default:ea):=.i
instance arT:bS prog 22 (aa (BitVec 8)):=.i underlying22
instance:cy prog 109 0 afL:=.i underlying109 I arT
instance:fS prog 109 #[(0,1),(1,1)]:=.i underlying109
def NI:bL prog 15:=.i func15
structure iB where
 b1:Int
 cP:ByteArray
 iQ:Int
 deriving DecidableEq,Inhabited
instance:aj iB:=.str (db Int (db ByteArray (gE Int))) (λx=>(x.b1,x.cP,x.iQ)) 3
abbrev afZ:aP iB Int:=.str du 0 iB.b1 λb g=>{b with b1:=g}
abbrev afn:aP iB ByteArray:=.str (bA du) 1 iB.cP λb g=>{b with cP:=g}
abbrev afo:aP iB Int:=.str (bA (bA gS)) 2 iB.iQ λb g=>{b with iQ:=g}
instance:a1 iB:=⟨a1.cells Int++a1.cells ByteArray++a1.cells Int,λA W=>⟨by rfl,a1.ok (α:=Int) A W,a1.ok (α:=ByteArray) A W,a1.ok (α:=Int) A W⟩⟩
structure lZ where
 b1:Int
 cP:ByteArray
 gm:List Int
 deriving DecidableEq,Inhabited
instance:aj lZ:=.str (db Int (db ByteArray (gE (aa Int)))) (λx=>(x.b1,x.cP,x.gm)) 3
abbrev afM:aP lZ Int:=.str du 0 lZ.b1 λb g=>{b with b1:=g}
abbrev ae1:aP lZ ByteArray:=.str (bA du) 1 lZ.cP λb g=>{b with cP:=g}
abbrev aex:aP lZ (aa Int):=.str (bA (bA gS)) 2 lZ.gm λb g=>{b with gm:=g}
instance:a1 lZ:=⟨a1.cells Int++a1.cells ByteArray++a1.cells (aa Int),λA W=>⟨by rfl,a1.ok (α:=Int) A W,a1.ok (α:=ByteArray) A W,a1.ok (α:=aa Int) A W⟩⟩
structure aV where
 eC:BitVec 64
 c5:BitVec 64
 deriving DecidableEq,Inhabited
instance:aj aV:=.str (db (BitVec 64) (gE (BitVec 64))) (λx=>(x.eC,x.c5)) 2
abbrev LD:aP aV (BitVec 64):=.str du 0 aV.eC λb g=>{b with eC:=g}
abbrev rv:aP aV (BitVec 64):=.str (bA gS) 1 aV.c5 λb g=>{b with c5:=g}
instance:a1 aV:=⟨a1.cells (BitVec 64)++a1.cells (BitVec 64),λA W=>⟨by rfl,a1.ok (α:=BitVec 64) A W,a1.ok (α:=BitVec 64) A W⟩⟩
structure iY where
 cw:aV
 hI:aV
 wm:Int
 deriving DecidableEq,Inhabited
instance:aj iY:=.str (db aV (db aV (gE Int))) (λx=>(x.cw,x.hI,x.wm)) 5
abbrev PE:aP iY aV:=.str du 0 iY.cw λb g=>{b with cw:=g}
abbrev PN:aP iY aV:=.str (bA du) 2 iY.hI λb g=>{b with hI:=g}
abbrev PO:aP iY Int:=.str (bA (bA gS)) 4 iY.wm λb g=>{b with wm:=g}
instance:a1 iY:=⟨a1.cells aV++a1.cells aV++a1.cells Int,λA W=>⟨by rfl,a1.ok (α:=aV) A W,a1.ok (α:=aV) A W,a1.ok (α:=Int) A W⟩⟩
structure e0 where
 b1:Int
 ky:Int
 sk:Int
 te:List iY
 jr:Int
 deriving DecidableEq,Inhabited
instance:aj e0:=.str (db Int (db Int (db Int (db (aa iY) (gE Int))))) (λx=>(x.b1,x.ky,x.sk,x.te,x.jr)) 5
abbrev Wg:aP e0 Int:=.str du 0 e0.b1 λb g=>{b with b1:=g}
abbrev VR:aP e0 Int:=.str (bA du) 1 e0.ky λb g=>{b with ky:=g}
abbrev VS:aP e0 Int:=.str (bA (bA du)) 2 e0.sk λb g=>{b with sk:=g}
abbrev Ld:aP e0 (aa iY):=.str (bA (bA (bA du))) 3 e0.te λb g=>{b with te:=g}
abbrev VM:aP e0 Int:=.str (bA (bA (bA (bA gS)))) 4 e0.jr λb g=>{b with jr:=g}
instance:a1 e0:=⟨a1.cells Int++a1.cells Int++a1.cells Int++a1.cells (aa iY)++a1.cells Int,λA W=>⟨by rfl,a1.ok (α:=Int) A W,a1.ok (α:=Int) A W,a1.ok (α:=Int) A W,a1.ok (α:=aa iY) A W,a1.ok (α:=Int) A W⟩⟩
structure mO where
 cP:ByteArray
 iQ:Int
 deriving DecidableEq,Inhabited
instance:aj mO:=.str (db ByteArray (gE Int)) (λx=>(x.cP,x.iQ)) 2
abbrev afp:aP mO ByteArray:=.str du 0 mO.cP λb g=>{b with cP:=g}
abbrev V2:aP mO Int:=.str (bA gS) 1 mO.iQ λb g=>{b with iQ:=g}
instance:a1 mO:=⟨a1.cells ByteArray++a1.cells Int,λA W=>⟨by rfl,a1.ok (α:=ByteArray) A W,a1.ok (α:=Int) A W⟩⟩
structure jR where
 c7:Int
 Jl:Int
 cw:aV
 deriving DecidableEq,Inhabited
instance:aj jR:=.str (db Int (db Int (gE aV))) (λx=>(x.c7,x.Jl,x.cw)) 4
abbrev aeQ:aP jR Int:=.str du 0 jR.c7 λb g=>{b with c7:=g}
abbrev afN:aP jR Int:=.str (bA du) 1 jR.Jl λb g=>{b with Jl:=g}
abbrev aey:aP jR aV:=.str (bA (bA gS)) 2 jR.cw λb g=>{b with cw:=g}
instance:a1 jR:=⟨a1.cells Int++a1.cells Int++a1.cells aV,λA W=>⟨by rfl,a1.ok (α:=Int) A W,a1.ok (α:=Int) A W,a1.ok (α:=aV) A W⟩⟩
structure jq where
 mv:Int
 u4:Int
 wB:jR
 deriving DecidableEq,Inhabited
instance:aj jq:=.str (db Int (db Int (gE jR))) (λx=>(x.mv,x.u4,x.wB)) 6
abbrev af4:aP jq Int:=.str du 0 jq.mv λb g=>{b with mv:=g}
abbrev af0:aP jq Int:=.str (bA du) 1 jq.u4 λb g=>{b with u4:=g}
abbrev af1:aP jq jR:=.str (bA (bA gS)) 2 jq.wB λb g=>{b with wB:=g}
instance:a1 jq:=⟨a1.cells Int++a1.cells Int++a1.cells jR,λA W=>⟨by rfl,a1.ok (α:=Int) A W,a1.ok (α:=Int) A W,a1.ok (α:=jR) A W⟩⟩
structure df where
 b1:Int
 cP:ByteArray
 iC:List mO
 xY:List jq
 jS:ByteArray
 deriving DecidableEq,Inhabited
instance:aj df:=.str (db Int (db ByteArray (db (aa mO) (db (aa jq) (gE ByteArray))))) (λx=>(x.b1,x.cP,x.iC,x.xY,x.jS)) 5
abbrev afO:aP df Int:=.str du 0 df.b1 λb g=>{b with b1:=g}
abbrev ae2:aP df ByteArray:=.str (bA du) 1 df.cP λb g=>{b with cP:=g}
abbrev VL:aP df (aa mO):=.str (bA (bA du)) 2 df.iC λb g=>{b with iC:=g}
abbrev ae3:aP df (aa jq):=.str (bA (bA (bA du))) 3 df.xY λb g=>{b with xY:=g}
abbrev FM:aP df ByteArray:=.str (bA (bA (bA (bA gS)))) 4 df.jS λb g=>{b with jS:=g}
instance:a1 df:=⟨a1.cells Int++a1.cells ByteArray++a1.cells (aa mO)++a1.cells (aa jq)++a1.cells ByteArray,λA W=>⟨by rfl,a1.ok (α:=Int) A W,a1.ok (α:=ByteArray) A W,a1.ok (α:=aa mO) A W,a1.ok (α:=aa jq) A W,a1.ok (α:=ByteArray) A W⟩⟩
structure dz where
 cP:ByteArray
 ih:Int
 c7:Int
 deriving DecidableEq,Inhabited
instance:aj dz:=.str (db ByteArray (db Int (gE Int))) (λx=>(x.cP,x.ih,x.c7)) 3
abbrev GU:aP dz ByteArray:=.str du 0 dz.cP λb g=>{b with cP:=g}
abbrev GO:aP dz Int:=.str (bA du) 1 dz.ih λb g=>{b with ih:=g}
abbrev vR:aP dz Int:=.str (bA (bA gS)) 2 dz.c7 λb g=>{b with c7:=g}
instance:a1 dz:=⟨a1.cells ByteArray++a1.cells Int++a1.cells Int,λA W=>⟨by rfl,a1.ok (α:=ByteArray) A W,a1.ok (α:=Int) A W,a1.ok (α:=Int) A W⟩⟩
structure bw where
 b1:Int
 cP:ByteArray
 bY:List dz
 bK:List Int
 jr:Int
 zP:List aV
 ht:Int
 jS:ByteArray
 deriving DecidableEq,Inhabited
instance:aj bw:=.str (db Int (db ByteArray (db (aa dz) (db (aa Int) (db Int (db (aa aV) (db Int (gE ByteArray)))))))) (λx=>(x.b1,x.cP,x.bY,x.bK,x.jr,x.zP,x.ht,x.jS)) 8
abbrev xx:aP bw Int:=.str du 0 bw.b1 λb g=>{b with b1:=g}
abbrev Lm:aP bw ByteArray:=.str (bA du) 1 bw.cP λb g=>{b with cP:=g}
abbrev pg:aP bw (aa dz):=.str (bA (bA du)) 2 bw.bY λb g=>{b with bY:=g}
abbrev zs:aP bw (aa Int):=.str (bA (bA (bA du))) 3 bw.bK λb g=>{b with bK:=g}
abbrev KY:aP bw Int:=.str (bA (bA (bA (bA du)))) 4 bw.jr λb g=>{b with jr:=g}
abbrev ad1:aP bw (aa aV):=.str (bA (bA (bA (bA (bA du))))) 5 bw.zP λb g=>{b with zP:=g}
abbrev C4:aP bw Int:=.str (bA (bA (bA (bA (bA (bA du)))))) 6 bw.ht λb g=>{b with ht:=g}
abbrev vF:aP bw ByteArray:=.str (bA (bA (bA (bA (bA (bA (bA gS))))))) 7 bw.jS λb g=>{b with jS:=g}
instance:a1 bw:=⟨a1.cells Int++a1.cells ByteArray++a1.cells (aa dz)++a1.cells (aa Int)++a1.cells Int++a1.cells (aa aV)++a1.cells Int++a1.cells ByteArray,λA W=>⟨by rfl,a1.ok (α:=Int) A W,a1.ok (α:=ByteArray) A W,a1.ok (α:=aa dz) A W,a1.ok (α:=aa Int) A W,a1.ok (α:=Int) A W,a1.ok (α:=aa aV) A W,a1.ok (α:=Int) A W,a1.ok (α:=ByteArray) A W⟩⟩
structure gK where
 ct:Int
 ky:Int
 deriving DecidableEq,Inhabited
instance:aj gK:=.str (db Int (gE Int)) (λx=>(x.ct,x.ky)) 2
abbrev Gr:aP gK Int:=.str du 0 gK.ct λb g=>{b with ct:=g}
abbrev Pw:aP gK Int:=.str (bA gS) 1 gK.ky λb g=>{b with ky:=g}
instance:a1 gK:=⟨a1.cells Int++a1.cells Int,λA W=>⟨by rfl,a1.ok (α:=Int) A W,a1.ok (α:=Int) A W⟩⟩
structure dE where
 ct:Int
 sn:Bool
 Ah:Bool
 bY:List Bool
 deriving DecidableEq,Inhabited
instance:aj dE:=.str (db Int (db Bool (db Bool (gE (aa Bool))))) (λx=>(x.ct,x.sn,x.Ah,x.bY)) 4
abbrev ae4:aP dE Int:=.str du 0 dE.ct λb g=>{b with ct:=g}
abbrev V3:aP dE Bool:=.str (bA du) 1 dE.sn λb g=>{b with sn:=g}
abbrev ae5:aP dE Bool:=.str (bA (bA du)) 2 dE.Ah λb g=>{b with Ah:=g}
abbrev V4:aP dE (aa Bool):=.str (bA (bA (bA gS))) 3 dE.bY λb g=>{b with bY:=g}
instance:a1 dE:=⟨a1.cells Int++a1.cells Bool++a1.cells Bool++a1.cells (aa Bool),λA W=>⟨by rfl,a1.ok (α:=Int) A W,a1.ok (α:=Bool) A W,a1.ok (α:=Bool) A W,a1.ok (α:=aa Bool) A W⟩⟩
structure c9 where
 b1:Int
 cP:ByteArray
 fU:List dE
 bK:List Int
 kz:Int
 HR:Bool
 deriving DecidableEq,Inhabited
instance:aj c9:=.str (db Int (db ByteArray (db (aa dE) (db (aa Int) (db Int (gE Bool)))))) (λx=>(x.b1,x.cP,x.fU,x.bK,x.kz,x.HR)) 6
abbrev G0:aP c9 Int:=.str du 0 c9.b1 λb g=>{b with b1:=g}
abbrev PQ:aP c9 ByteArray:=.str (bA du) 1 c9.cP λb g=>{b with cP:=g}
abbrev zw:aP c9 (aa dE):=.str (bA (bA du)) 2 c9.fU λb g=>{b with fU:=g}
abbrev Gf:aP c9 (aa Int):=.str (bA (bA (bA du))) 3 c9.bK λb g=>{b with bK:=g}
abbrev GD:aP c9 Int:=.str (bA (bA (bA (bA du)))) 4 c9.kz λb g=>{b with kz:=g}
abbrev afc:aP c9 Bool:=.str (bA (bA (bA (bA (bA gS))))) 5 c9.HR λb g=>{b with HR:=g}
instance:a1 c9:=⟨a1.cells Int++a1.cells ByteArray++a1.cells (aa dE)++a1.cells (aa Int)++a1.cells Int++a1.cells Bool,λA W=>⟨by rfl,a1.ok (α:=Int) A W,a1.ok (α:=ByteArray) A W,a1.ok (α:=aa dE) A W,a1.ok (α:=aa Int) A W,a1.ok (α:=Int) A W,a1.ok (α:=Bool) A W⟩⟩
structure cY where
 ct:Int
 k9:Int
 cq:Int
 xN:Int
 pn:Int
 uK:Int
 deriving DecidableEq,Inhabited
instance:aj cY:=.str (db Int (db Int (db Int (db Int (db Int (gE Int)))))) (λx=>(x.ct,x.k9,x.cq,x.xN,x.pn,x.uK)) 6
abbrev afP:aP cY Int:=.str du 0 cY.ct λb g=>{b with ct:=g}
abbrev af5:aP cY Int:=.str (bA du) 1 cY.k9 λb g=>{b with k9:=g}
abbrev afq:aP cY Int:=.str (bA (bA du)) 2 cY.cq λb g=>{b with cq:=g}
abbrev afQ:aP cY Int:=.str (bA (bA (bA du))) 3 cY.xN λb g=>{b with xN:=g}
abbrev ae6:aP cY Int:=.str (bA (bA (bA (bA du)))) 4 cY.pn λb g=>{b with pn:=g}
abbrev afR:aP cY Int:=.str (bA (bA (bA (bA (bA gS))))) 5 cY.uK λb g=>{b with uK:=g}
instance:a1 cY:=⟨a1.cells Int++a1.cells Int++a1.cells Int++a1.cells Int++a1.cells Int++a1.cells Int,λA W=>⟨by rfl,a1.ok (α:=Int) A W,a1.ok (α:=Int) A W,a1.ok (α:=Int) A W,a1.ok (α:=Int) A W,a1.ok (α:=Int) A W,a1.ok (α:=Int) A W⟩⟩
structure aD where
 gm:List iB
 pk:List lZ
 p0:List e0
 bK:List df
 bh:List bw
 rB:List gK
 cG:List c9
 cV:List cY
 rA:Int
 HI:Int
 deriving DecidableEq,Inhabited
instance:aj aD:=.str (db (aa iB) (db (aa lZ) (db (aa e0) (db (aa df) (db (aa bw) (db (aa gK) (db (aa c9) (db (aa cY) (db Int (gE Int)))))))))) (λx=>(x.gm,x.pk,x.p0,x.bK,x.bh,x.rB,x.cG,x.cV,x.rA,x.HI)) 10
abbrev VN:aP aD (aa iB):=.str du 0 aD.gm λb g=>{b with gm:=g}
abbrev VG:aP aD (aa lZ):=.str (bA du) 1 aD.pk λb g=>{b with pk:=g}
abbrev VO:aP aD (aa e0):=.str (bA (bA du)) 2 aD.p0 λb g=>{b with p0:=g}
abbrev vH:aP aD (aa df):=.str (bA (bA (bA du))) 3 aD.bK λb g=>{b with bK:=g}
abbrev qF:aP aD (aa bw):=.str (bA (bA (bA (bA du)))) 4 aD.bh λb g=>{b with bh:=g}
abbrev KZ:aP aD (aa gK):=.str (bA (bA (bA (bA (bA du))))) 5 aD.rB λb g=>{b with rB:=g}
abbrev Pv:aP aD (aa c9):=.str (bA (bA (bA (bA (bA (bA du)))))) 6 aD.cG λb g=>{b with cG:=g}
abbrev C0:aP aD (aa cY):=.str (bA (bA (bA (bA (bA (bA (bA du))))))) 7 aD.cV λb g=>{b with cV:=g}
abbrev Vu:aP aD Int:=.str (bA (bA (bA (bA (bA (bA (bA (bA du)))))))) 8 aD.rA λb g=>{b with rA:=g}
abbrev aem:aP aD Int:=.str (bA (bA (bA (bA (bA (bA (bA (bA (bA gS))))))))) 9 aD.HI λb g=>{b with HI:=g}
instance:a1 aD:=⟨a1.cells (aa iB)++a1.cells (aa lZ)++a1.cells (aa e0)++a1.cells (aa df)++a1.cells (aa bw)++a1.cells (aa gK)++a1.cells (aa c9)++a1.cells (aa cY)++a1.cells Int++a1.cells Int,λA W=>⟨by rfl,a1.ok (α:=aa iB) A W,a1.ok (α:=aa lZ) A W,a1.ok (α:=aa e0) A W,a1.ok (α:=aa df) A W,a1.ok (α:=aa bw) A W,a1.ok (α:=aa gK) A W,a1.ok (α:=aa c9) A W,a1.ok (α:=aa cY) A W,a1.ok (α:=Int) A W,a1.ok (α:=Int) A W⟩⟩
instance SV:dx prog 32 (default:aD):=.i
instance cd:bS prog 3 Int:=.i underlying3
instance:cy prog 109 1 afm:=.i underlying109 I cd
def mixed:prog.follows .mixedOrders=true:=by kernel_rfl
instance:UD prog:=⟨mixed⟩
def abd:bL prog 29:=.i func29
instance:oC prog 5 (.int .u8):=⟨underlying5⟩
instance:oC prog 3 (.int .i64):=⟨underlying3⟩
def hL:bL prog 30:=.i func30
instance:cy prog 32 8 Vu:=.i underlying32 I cd
instance apZ:fS prog 32 #[(0,1),(1,1),(2,1),(3,1),(4,1),(5,1),(6,1),(7,1),(8,1),(9,1)]:=.i underlying32
instance ju:bS prog 32 aD:=.i underlying32
instance:dx prog 111 (default:iB):=.i
instance:cy prog 111 0 afZ:=.i underlying111 I cd
instance kO:bS prog 9 ByteArray:=.i underlying9
instance:cy prog 111 1 afn:=.i underlying111 I kO
instance:cy prog 111 2 afo:=.i underlying111 I cd
instance:fS prog 111 #[(0,1),(1,1),(2,1)]:=.i underlying111
instance apt:bS prog 111 iB:=.i underlying111
instance:ie prog 23 111 iB:=⟨underlying23,apt⟩
instance abq:bS prog 23 (aa iB):=.i underlying23
instance:cy prog 32 0 VN:=.i underlying32 I abq
instance:ie prog 59 3 Int:=⟨underlying59,cd⟩
instance rQ:dx prog 3 (default:Int):=.i
instance:dx prog 113 (default:lZ):=.i
instance:cy prog 113 0 afM:=.i underlying113 I cd
instance:cy prog 113 1 ae1:=.i underlying113 I kO
instance la:bS prog 59 (aa Int):=.i underlying59
instance:cy prog 113 2 aex:=.i underlying113 I la
instance:fS prog 113 #[(0,1),(1,1),(2,1)]:=.i underlying113
instance apu:bS prog 113 lZ:=.i underlying113
instance:ie prog 24 113 lZ:=⟨underlying24,apu⟩
instance abr:bS prog 24 (aa lZ):=.i underlying24
instance:cy prog 32 1 VG:=.i underlying32 I abr
instance ZZ:dx prog 210 (default:e0):=.i
instance:cy prog 210 0 Wg:=.i underlying210 I cd
instance:cy prog 210 1 VR:=.i underlying210 I cd
instance:cy prog 210 2 VS:=.i underlying210 I cd
instance:cy prog 210 4 VM:=.i underlying210 I cd
instance amQ:fS prog 210 #[(0,1),(1,1),(2,1),(3,1),(4,1)]:=.i underlying210
instance Z0:bS prog 210 e0:=.i underlying210
instance u0:dx prog 128 (default:aV):=.i
instance wv:bS prog 126 (BitVec 64):=.i underlying126
instance ajF:cy prog 128 1 rv:=.i underlying128 I wv
instance D9:fS prog 128 #[(0,1),(1,1)]:=.i underlying128
instance M6:dx prog 212 (default:iY):=.i
instance h8:bS prog 128 aV:=.i underlying128
instance:cy prog 212 0 PE:=.i underlying212 I h8
instance:cy prog 212 1 PN:=.i underlying212 I h8
instance:cy prog 212 2 PO:=.i underlying212 I cd
instance Z1:fS prog 212 #[(0,2),(2,2),(4,1)]:=.i underlying212
instance R4:bS prog 212 iY:=.i underlying212
instance:ie prog 208 212 iY:=⟨underlying208,R4⟩
instance M7:bS prog 208 (aa iY):=.i underlying208
instance ajJ:cy prog 210 3 Ld:=.i underlying210 I M7
def qU:bL prog 50:=.i func50
instance:oC prog 126 (.int .u64):=⟨underlying126⟩
def Yu:jm prog 210 [3]:=by unfold jm;kernel_rfl
instance:ie prog 25 210 e0:=⟨underlying25,Z0⟩
def ap0:bL prog 51:=.i func51
instance:dx prog 214 (default:jR):=.i
instance:cy prog 214 0 aeQ:=.i underlying214 I cd
instance:fS prog 214 #[(0,1),(1,1),(2,2)]:=.i underlying214
instance apv:bS prog 214 jR:=.i underlying214
instance SS:dx prog 88 (default:df):=.i
instance:cy prog 88 0 afO:=.i underlying88 I cd
instance:cy prog 88 1 ae2:=.i underlying88 I kO
instance:fS prog 88 #[(0,1),(1,1),(2,1),(3,1),(4,1)]:=.i underlying88
instance:dx prog 216 (default:jq):=.i
instance:cy prog 216 0 af4:=.i underlying216 I cd
instance:fS prog 216 #[(0,1),(1,1),(2,4)]:=.i underlying216
instance apw:bS prog 216 jq:=.i underlying216
instance:ie prog 86 216 jq:=⟨underlying86,apw⟩
instance arU:bS prog 86 (aa jq):=.i underlying86
instance:cy prog 88 3 ae3:=.i underlying88 I arU
instance amC:dx prog 184 (default:mO):=.i
instance:cy prog 184 0 afp:=.i underlying184 I kO
instance ajG:cy prog 184 1 V2:=.i underlying184 I cd
instance:fS prog 184 #[(0,1),(1,1)]:=.i underlying184
instance MU:bS prog 184 mO:=.i underlying184
instance:ie prog 85 184 mO:=⟨underlying85,MU⟩
instance:cy prog 216 2 af1:=.i underlying216 I apv
instance abk:bS prog 85 (aa mO):=.i underlying85
instance:cy prog 88 2 VL:=.i underlying88 I abk
instance:cy prog 216 1 af0:=.i underlying216 I cd
instance:cy prog 214 1 afN:=.i underlying214 I cd
instance:cy prog 214 2 aey:=.i underlying214 I h8
instance sC:bS prog 88 df:=.i underlying88
instance:ie prog 26 88 df:=⟨underlying26,sC⟩
instance ME:cy prog 88 4 FM:=.i underlying88 I kO
def ap1:bL prog 52:=.i func52
instance tj:dx prog 180 (default:dz):=.i
instance:cy prog 180 0 GU:=.i underlying180 I kO
instance:cy prog 180 1 GO:=.i underlying180 I cd
instance Mk:cy prog 180 2 vR:=.i underlying180 I cd
instance M8:fS prog 180 #[(0,1),(1,1),(2,1)]:=.i underlying180
instance p9:bS prog 180 dz:=.i underlying180
instance:ie prog 62 180 dz:=⟨underlying62,p9⟩
instance rK:dx prog 64 (default:bw):=.i
instance akZ:cy prog 64 0 xx:=.i underlying64 I cd
instance sB:bS prog 62 (aa dz):=.i underlying62
instance th:cy prog 64 2 pg:=.i underlying64 I sB
instance Y7:cy prog 64 3 zs:=.i underlying64 I la
instance alk:cy prog 64 6 C4:=.i underlying64 I cd
instance NB:fS prog 64 #[(0,1),(1,1),(2,1),(3,1),(4,1),(5,1),(6,1),(7,1)]:=.i underlying64
instance jJ:bS prog 64 bw:=.i underlying64
def RA:jm prog 64 [2]:=by unfold jm;kernel_rfl
def Rz:jm prog 64 []:=by unfold jm;kernel_rfl
instance:ie prog 46 128 aV:=⟨underlying46,h8⟩
instance oT:bS prog 46 (aa aV):=.i underlying46
instance:ie prog 27 64 bw:=⟨underlying27,jJ⟩
instance:ie prog 217 9 ByteArray:=⟨underlying217,kO⟩
instance:dx prog 9 (default:ByteArray):=.i
instance R5:bS prog 217 (aa ByteArray):=.i underlying217
instance:ie prog 218 217 (aa ByteArray):=⟨underlying218,R5⟩
instance:dx prog 217 (default:aa ByteArray):=.i
instance xS:cy prog 64 7 vF:=.i underlying64 I kO
def ap2:bL prog 53:=.i func53
instance abt:bS prog 25 (aa e0):=.i underlying25
instance ak4:cy prog 32 2 VO:=.i underlying32 I abt
instance wE:bS prog 26 (aa df):=.i underlying26
instance xT:cy prog 32 3 vH:=.i underlying32 I wE
instance gv:bS prog 27 (aa bw):=.i underlying27
instance hr:cy prog 32 4 qF:=.i underlying32 I gv
instance BL:dx prog 68 (default:c9):=.i
instance ak2:cy prog 68 0 G0:=.i underlying68 I cd
instance ak1:cy prog 68 3 Gf:=.i underlying68 I la
instance ak6:cy prog 68 4 GD:=.i underlying68 I cd
instance lH:bS prog 4 Bool:=.i underlying4
instance SU:fS prog 68 #[(0,1),(1,1),(2,1),(3,1),(4,1),(5,1)]:=.i underlying68
instance tq:bS prog 68 c9:=.i underlying68
instance:ie prog 186 4 Bool:=⟨underlying186,lH⟩
instance acn:dx prog 4 (default:Bool):=.i
instance BP:bS prog 66 (aa dE):=.i underlying66
instance ak3:cy prog 68 2 zw:=.i underlying68 I BP
instance MV:dx prog 188 (default:dE):=.i
instance:cy prog 188 0 ae4:=.i underlying188 I cd
instance ajH:cy prog 188 1 V3:=.i underlying188 I lH
instance:cy prog 188 2 ae5:=.i underlying188 I lH
instance ZP:bS prog 186 (aa Bool):=.i underlying186
instance ajI:cy prog 188 3 V4:=.i underlying188 I ZP
instance:fS prog 188 #[(0,1),(1,1),(2,1),(3,1)]:=.i underlying188
instance H8:bS prog 188 dE:=.i underlying188
instance:ie prog 66 188 dE:=⟨underlying66,H8⟩
def D0:jm prog 68 [2]:=by unfold jm;kernel_rfl
instance:ie prog 29 68 c9:=⟨underlying29,tq⟩
def ap3:bL prog 54:=.i func54
instance IJ:bS prog 29 (aa c9):=.i underlying29
instance Y9:cy prog 32 6 Pv:=.i underlying32 I IJ
instance Eh:dx prog 119 (default:gK):=.i
instance:cy prog 119 0 Gr:=.i underlying119 I cd
instance M9:fS prog 119 #[(0,1),(1,1)]:=.i underlying119
instance R6:bS prog 119 gK:=.i underlying119
instance:ie prog 28 119 gK:=⟨underlying28,R6⟩
instance NC:bS prog 28 (aa gK):=.i underlying28
instance RB:cy prog 32 5 KZ:=.i underlying32 I NC
instance yh:bS prog 30 (aa cY):=.i underlying30
instance A4:cy prog 32 7 C0:=.i underlying32 I yh
instance R7:dx prog 121 (default:cY):=.i
instance:cy prog 121 0 afP:=.i underlying121 I cd
instance:cy prog 121 2 afq:=.i underlying121 I cd
instance:cy prog 121 4 ae6:=.i underlying121 I cd
instance:fS prog 121 #[(0,1),(1,1),(2,1),(3,1),(4,1),(5,1)]:=.i underlying121
instance Na:bS prog 121 cY:=.i underlying121
instance:ie prog 30 121 cY:=⟨underlying30,Na⟩
def XL:jm prog 32 [5,7]:=by unfold jm;kernel_rfl
instance:cy prog 121 1 af5:=.i underlying121 I cd
def abH:bL prog 16:=.i func16
def aiM:jm prog 32 [3,4]:=by unfold jm;kernel_rfl
structure k5 where
 k7:aD
 tc:eX
 oO:Int
 deriving DecidableEq,Inhabited
instance:aj k5:=.str (db aD (db eX (gE Int))) (λx=>(x.k7,x.tc,x.oO)) 12
abbrev VH:aP k5 aD:=.str du 0 k5.k7 λb g=>{b with k7:=g}
abbrev KV:aP k5 eX:=.str (bA du) 10 k5.tc λb g=>{b with tc:=g}
abbrev K8:aP k5 Int:=.str (bA (bA gS)) 11 k5.oO λb g=>{b with oO:=g}
instance:a1 k5:=⟨a1.cells aD++a1.cells eX++a1.cells Int,λA W=>⟨by rfl,a1.ok (α:=aD) A W,a1.ok (α:=eX) A W,a1.ok (α:=Int) A W⟩⟩
instance amS:dx prog 225 (default:k5):=.i
instance:cy prog 225 0 VH:=.i underlying225 I ju
instance aay:bS prog 223 eX:=.i underlying223
instance aj2:cy prog 225 1 KV:=.i underlying225 I aay
instance:cy prog 225 2 K8:=.i underlying225 I cd
instance amR:fS prog 225 #[(0,10),(10,1),(11,1)]:=.i underlying225
def amo:bL prog 138:=.i func138
def amp:bL prog 137:=.i func137
def abC:bL prog 87:=.i func87
structure bN where
 gl:Bool
 cw:aV
 hI:aV
 fA:Int
 ly:aV
 deriving DecidableEq,Inhabited
instance:aj bN:=.str (db Bool (db aV (db aV (db Int (gE aV))))) (λx=>(x.gl,x.cw,x.hI,x.fA,x.ly)) 8
abbrev F7:aP bN Bool:=.str du 0 bN.gl λb g=>{b with gl:=g}
abbrev Lc:aP bN aV:=.str (bA du) 1 bN.cw λb g=>{b with cw:=g}
abbrev PK:aP bN aV:=.str (bA (bA du)) 3 bN.hI λb g=>{b with hI:=g}
abbrev K7:aP bN Int:=.str (bA (bA (bA du))) 5 bN.fA λb g=>{b with fA:=g}
abbrev PL:aP bN aV:=.str (bA (bA (bA (bA gS)))) 6 bN.ly λb g=>{b with ly:=g}
instance:a1 bN:=⟨a1.cells Bool++a1.cells aV++a1.cells aV++a1.cells Int++a1.cells aV,λA W=>⟨by rfl,a1.ok (α:=Bool) A W,a1.ok (α:=aV) A W,a1.ok (α:=aV) A W,a1.ok (α:=Int) A W,a1.ok (α:=aV) A W⟩⟩
structure aO where
 ct:Int
 bs:List bN
 ep:Int
 cq:Int
 c3:List aV
 deriving DecidableEq,Inhabited
instance:aj aO:=.str (db Int (db (aa bN) (db Int (db Int (gE (aa aV)))))) (λx=>(x.ct,x.bs,x.ep,x.cq,x.c3)) 5
abbrev xt:aP aO Int:=.str du 0 aO.ct λb g=>{b with ct:=g}
abbrev j2:aP aO (aa bN):=.str (bA du) 1 aO.bs λb g=>{b with bs:=g}
abbrev xo:aP aO Int:=.str (bA (bA du)) 2 aO.ep λb g=>{b with ep:=g}
abbrev nV:aP aO Int:=.str (bA (bA (bA du))) 3 aO.cq λb g=>{b with cq:=g}
abbrev nt:aP aO (aa aV):=.str (bA (bA (bA (bA gS)))) 4 aO.c3 λb g=>{b with c3:=g}
instance:a1 aO:=⟨a1.cells Int++a1.cells (aa bN)++a1.cells Int++a1.cells Int++a1.cells (aa aV),λA W=>⟨by rfl,a1.ok (α:=Int) A W,a1.ok (α:=aa bN) A W,a1.ok (α:=Int) A W,a1.ok (α:=Int) A W,a1.ok (α:=aa aV) A W⟩⟩
structure aS where
 bl:aO
 cU:Int
 ij:Int
 deriving DecidableEq,Inhabited
instance:aj aS:=.str (db aO (db Int (gE Int))) (λx=>(x.bl,x.cU,x.ij)) 7
abbrev Pg:aP aS aO:=.str du 0 aS.bl λb g=>{b with bl:=g}
abbrev KO:aP aS Int:=.str (bA du) 5 aS.cU λb g=>{b with cU:=g}
abbrev Ph:aP aS Int:=.str (bA (bA gS)) 6 aS.ij λb g=>{b with ij:=g}
instance:a1 aS:=⟨a1.cells aO++a1.cells Int++a1.cells Int,λA W=>⟨by rfl,a1.ok (α:=aO) A W,a1.ok (α:=Int) A W,a1.ok (α:=Int) A W⟩⟩
structure pW where
 vg:Ref
 deriving DecidableEq,Inhabited
instance:aj pW:=.str (gE Ref) (λx=>x.vg) 1
abbrev V5:aP pW Ref:=.str gS 0 pW.vg λb g=>{b with vg:=g}
instance:a1 pW:=⟨a1.cells Ref,λA W=>⟨by rfl,a1.ok (α:=Ref) A W⟩⟩
structure mN where
 wz:Int
 hG:Int
 uJ:eX
 deriving DecidableEq,Inhabited
instance:aj mN:=.str (db Int (db Int (gE eX))) (λx=>(x.wz,x.hG,x.uJ)) 3
abbrev VF:aP mN Int:=.str du 0 mN.wz λb g=>{b with wz:=g}
abbrev Pe:aP mN Int:=.str (bA du) 1 mN.hG λb g=>{b with hG:=g}
abbrev FR:aP mN eX:=.str (bA (bA gS)) 2 mN.uJ λb g=>{b with uJ:=g}
instance:a1 mN:=⟨a1.cells Int++a1.cells Int++a1.cells eX,λA W=>⟨by rfl,a1.ok (α:=Int) A W,a1.ok (α:=Int) A W,a1.ok (α:=eX) A W⟩⟩
structure pX where
 dw:Ref
 deriving DecidableEq,Inhabited
instance:aj pX:=.str (gE Ref) (λx=>x.dw) 1
abbrev V6:aP pX Ref:=.str gS 0 pX.dw λb g=>{b with dw:=g}
instance:a1 pX:=⟨a1.cells Ref,λA W=>⟨by rfl,a1.ok (α:=Ref) A W⟩⟩
inductive iz where
 |nil
 |qf (x:pW)
 |qg (x:mN)
 |qh (x:pX)
 deriving DecidableEq,Inhabited
instance:aj iz where
 size:=1
 agg:=false
 rep A W cs x:=match x with
  | .nil=>cs=[.nilIface]
  | .qf x=> ∃v,cs=[.iface 307 v]∧(J.of x).holds A W v
  | .qg x=> ∃v,cs=[.iface 310 v]∧(J.of x).holds A W v
  | .qh x=> ∃v,cs=[.iface 314 v]∧(J.of x).holds A W v
 len {A W cs x} h:=by cases x <;> first|(have h:cs=_:=h;rw[h];rfl)|(obtain⟨v,h,_⟩:=h;rw[h];rfl)
 one {A W cs x} h:=by
  intro u hu;cases x <;> first|(have h:cs=_:=h;rw[h]at hu;rw[hi.1 hu];rfl)|(obtain⟨v,h,_⟩:=h;rw[h]at hu;rw[hi.1 hu];rfl)
 flat _:=rfl
 mono {A W cR W' cs x} e h:=by cases x <;> first|exact h|(obtain⟨v,h,ae⟩:=h;exact⟨v,h,J.mono _ e ae⟩)
instance:a1 iz:=⟨[.nilIface],λ_ _=>rfl⟩
def ahO{A W v}{x:pW}(h:(J.of x).holds A W v):(J.of (iz.qf x)).holds A W (.iface 307 v):=⟨rfl,v,rfl,h⟩
def Qs{A W u}{x:pW}(h:(J.of (iz.qf x)).holds A W u):∃v,u=.iface 307 v∧(J.of x).holds A W v:=by
 obtain⟨h1,v,ae,az⟩:=h;exact⟨v,oJ h1 ae,az⟩
def ahP{A W v}{x:mN}(h:(J.of x).holds A W v):(J.of (iz.qg x)).holds A W (.iface 310 v):=⟨rfl,v,rfl,h⟩
def Qt{A W u}{x:mN}(h:(J.of (iz.qg x)).holds A W u):∃v,u=.iface 310 v∧(J.of x).holds A W v:=by
 obtain⟨h1,v,ae,az⟩:=h;exact⟨v,oJ h1 ae,az⟩
def ahQ{A W v}{x:pX}(h:(J.of x).holds A W v):(J.of (iz.qh x)).holds A W (.iface 314 v):=⟨rfl,v,rfl,h⟩
def Qu{A W u}{x:pX}(h:(J.of (iz.qh x)).holds A W u):∃v,u=.iface 314 v∧(J.of x).holds A W v:=by
 obtain⟨h1,v,ae,az⟩:=h;exact⟨v,oJ h1 ae,az⟩
structure j3 where
 wj:Int
 wk:Int
 nx:iz
 pj:eX
 deriving DecidableEq,Inhabited
instance:aj j3:=.str (db Int (db Int (db iz (gE eX)))) (λx=>(x.wj,x.wk,x.nx,x.pj)) 4
abbrev aeD:aP j3 Int:=.str du 0 j3.wj λb g=>{b with wj:=g}
abbrev aeE:aP j3 Int:=.str (bA du) 1 j3.wk λb g=>{b with wk:=g}
abbrev KU:aP j3 iz:=.str (bA (bA du)) 2 j3.nx λb g=>{b with nx:=g}
abbrev Vt:aP j3 eX:=.str (bA (bA (bA gS))) 3 j3.pj λb g=>{b with pj:=g}
instance:a1 j3:=⟨a1.cells Int++a1.cells Int++a1.cells iz++a1.cells eX,λA W=>⟨by rfl,a1.ok (α:=Int) A W,a1.ok (α:=Int) A W,a1.ok (α:=iz) A W,a1.ok (α:=eX) A W⟩⟩
instance amH:dx prog 303 (default:j3):=.i
instance apx:bS prog 299 eX:=.i underlying299
instance:cy prog 303 3 Vt:=.i underlying303 I apx
instance amG:fS prog 303 #[(0,1),(1,1),(2,1),(3,1)]:=.i underlying303
structure sh where
 uY:eX
 deriving DecidableEq,Inhabited
instance:aj sh:=.str (gE eX) (λx=>x.uY) 1
abbrev VU:aP sh eX:=.str gS 0 sh.uY λb g=>{b with uY:=g}
instance:a1 sh:=⟨a1.cells eX,λA W=>⟨by rfl,a1.ok (α:=eX) A W⟩⟩
instance amh:dx prog 372 (default:sh):=.i
instance apy:bS prog 370 eX:=.i underlying370
instance:cy prog 372 0 VU:=.i underlying372 I apy
instance amg:fS prog 372 #[(0,1)]:=.i underlying372
def amI:bL prog 207:=.i func207
instance amK:dx prog 307 (default:pW):=.i
instance apz:bS prog 304 Ref:=.i underlying304
instance:cy prog 307 0 V5:=.i underlying307 I apz
instance amJ:fS prog 307 #[(0,1)]:=.i underlying307
instance M5:bS prog 301 iz:=.i underlying301
instance:cy prog 303 2 KU:=.i underlying303 I M5
def amq:bL prog 153:=.i func153
def amr:bL prog 152:=.i func152
instance amM:dx prog 310 (default:mN):=.i
instance:cy prog 310 0 VF:=.i underlying310 I cd
instance:cy prog 310 1 Pe:=.i underlying310 I cd
instance Sh:bS prog 308 eX:=.i underlying308
instance Yx:cy prog 310 2 FR:=.i underlying310 I Sh
instance amL:fS prog 310 #[(0,1),(1,1),(2,1)]:=.i underlying310
structure eF where
 mQ:aD
 dw:List aS
 deriving DecidableEq,Inhabited
instance:aj eF:=.str (db aD (gE (aa aS))) (λx=>(x.mQ,x.dw)) 11
abbrev Vr:aP eF aD:=.str du 0 eF.mQ λb g=>{b with mQ:=g}
abbrev C3:aP eF (aa aS):=.str (bA gS) 10 eF.dw λb g=>{b with dw:=g}
instance:a1 eF:=⟨a1.cells aD++a1.cells (aa aS),λA W=>⟨by rfl,a1.ok (α:=aD) A W,a1.ok (α:=aa aS) A W⟩⟩
instance amj:dx prog 374 (default:eF):=.i
instance:cy prog 374 0 Vr:=.i underlying374 I ju
instance ami:fS prog 374 #[(0,10),(10,1)]:=.i underlying374
def amN:bL prog 208:=.i func208
def aiF:jm prog 374 [10]:=by unfold jm;kernel_rfl
instance amP:dx prog 314 (default:pX):=.i
instance apA:bS prog 311 Ref:=.i underlying311
instance:cy prog 314 0 V6:=.i underlying314 I apA
instance amO:fS prog 314 #[(0,1)]:=.i underlying314
def amT:bL prog 126:=.i func126
def BY:qA prog 3 Int:=aly underlying3
structure cN where
 ct:Int
 k9:Int
 cw:aV
 deriving DecidableEq,Inhabited
instance:aj cN:=.str (db Int (db Int (gE aV))) (λx=>(x.ct,x.k9,x.cw)) 4
abbrev K5:aP cN Int:=.str du 0 cN.ct λb g=>{b with ct:=g}
abbrev Li:aP cN Int:=.str (bA du) 1 cN.k9 λb g=>{b with k9:=g}
abbrev K6:aP cN aV:=.str (bA (bA gS)) 2 cN.cw λb g=>{b with cw:=g}
instance:a1 cN:=⟨a1.cells Int++a1.cells Int++a1.cells aV,λA W=>⟨by rfl,a1.ok (α:=Int) A W,a1.ok (α:=Int) A W,a1.ok (α:=aV) A W⟩⟩
structure kx where
 qL:Int
 qK:Int
 deriving DecidableEq,Inhabited
instance:aj kx:=.str (db Int (gE Int)) (λx=>(x.qL,x.qK)) 2
abbrev F8:aP kx Int:=.str du 0 kx.qL λb g=>{b with qL:=g}
abbrev FW:aP kx Int:=.str (bA gS) 1 kx.qK λb g=>{b with qK:=g}
instance:a1 kx:=⟨a1.cells Int++a1.cells Int,λA W=>⟨by rfl,a1.ok (α:=Int) A W,a1.ok (α:=Int) A W⟩⟩
structure qJ where
 mQ:aD
 ig:eX
 deriving DecidableEq,Inhabited
instance:aj qJ:=.str (db aD (gE eX)) (λx=>(x.mQ,x.ig)) 11
abbrev VD:aP qJ aD:=.str du 0 qJ.mQ λb g=>{b with mQ:=g}
abbrev VE:aP qJ eX:=.str (bA gS) 10 qJ.ig λb g=>{b with ig:=g}
instance:a1 qJ:=⟨a1.cells aD++a1.cells eX,λA W=>⟨by rfl,a1.ok (α:=aD) A W,a1.ok (α:=eX) A W⟩⟩
instance aml:dx prog 238 (default:qJ):=.i
instance:cy prog 238 0 VD:=.i underlying238 I ju
instance apB:bS prog 236 eX:=.i underlying236
instance:cy prog 238 1 VE:=.i underlying238 I apB
instance amk:fS prog 238 #[(0,10),(10,1)]:=.i underlying238
structure jo where
 p2:List c9
 ig:Vector Int 6
 deriving DecidableEq,Inhabited
instance:aj jo:=.str (db (aa c9) (gE (Vector Int 6))) (λx=>(x.p2,x.ig)) 7
abbrev Pd:aP jo (aa c9):=.str du 0 jo.p2 λb g=>{b with p2:=g}
abbrev zj:aP jo (Vector Int 6):=.str (bA gS) 1 jo.ig λb g=>{b with ig:=g}
instance:a1 jo:=⟨a1.cells (aa c9)++a1.cells (Vector Int 6),λA W=>⟨by rfl,a1.ok (α:=aa c9) A W,a1.ok (α:=Vector Int 6) A W⟩⟩
instance amn:dx prog 241 (default:jo):=.i
instance ajO:cy prog 241 0 Pd:=.i underlying241 I IJ
instance amm:fS prog 241 #[(0,1),(1,6)]:=.i underlying241
def aqc:bL prog 72:=.i func72
def aqb:bL prog 73:=.i func73
def aqa:bL prog 74:=.i func74
inductive na where
 |nil
 |yl (a0:Ref) (bZ:aS) (a2:Int) (a3:Int)
 |Et (a0:Ref) (bZ:aO)
 |ym (a0:Ref) (bZ:aS)
 deriving DecidableEq,Inhabited
instance:aj na where
 size:=1
 agg:=false
 rep A W cs x:=match x with
  | .nil=>cs=[.nilFunc]
  | .yl a0 bZ a2 a3=> ∃v,cs=[v]∧(J.kP 186 [J.ptr a0,J.ptr bZ,J.ptr a2,J.ptr a3]).holds A W v
  | .Et a0 bZ=> ∃v,cs=[v]∧(J.kP 190 [J.ptr a0,J.ptr bZ]).holds A W v
  | .ym a0 bZ=> ∃v,cs=[v]∧(J.kP 191 [J.ptr a0,J.ptr bZ]).holds A W v
 len {A W cs x} h:=by cases x <;> first|(have h:cs=_:=h;rw[h];rfl)|(obtain⟨v,h,_⟩:=h;rw[h];rfl)
 one {A W cs x} h:=by
  intro u hu;cases x <;> first|(have h:cs=_:=h;rw[h]at hu;rw[hi.1 hu];rfl)|(obtain⟨v,h,fu,rfl,_⟩:=h;rw[h]at hu;rw[hi.1 hu];rfl)
 flat _:=rfl
 mono {A W cR W' cs x} e h:=by cases x <;> first|exact h|(obtain⟨v,h,ae⟩:=h;exact⟨v,h,J.mono _ e ae⟩)
instance:a1 na:=⟨[.nilFunc],λ_ _=>rfl⟩
def aj1{A W v}{a0:Ref}{bZ:aS}{a2:Int}{a3:Int}(h:(J.kP 186 [J.ptr a0,J.ptr bZ,J.ptr a2,J.ptr a3]).holds A W v):(J.of (na.yl a0 bZ a2 a3)).holds A W v:=by
 obtain⟨fu,rfl,ae⟩:=h;exact⟨rfl,_,rfl,fu,rfl,ae⟩
def aj5{A W u}{a0:Ref}{bZ:aS}{a2:Int}{a3:Int}(h:(J.of (na.yl a0 bZ a2 a3)).holds A W u):(J.kP 186 [J.ptr a0,J.ptr bZ,J.ptr a2,J.ptr a3]).holds A W u:=by
 obtain⟨h1,v,ae,az⟩:=h;have e:=oJ h1 ae;subst e;exact az
def aj4{A W v}{a0:Ref}{bZ:aO}(h:(J.kP 190 [J.ptr a0,J.ptr bZ]).holds A W v):(J.of (na.Et a0 bZ)).holds A W v:=by
 obtain⟨fu,rfl,ae⟩:=h;exact⟨rfl,_,rfl,fu,rfl,ae⟩
def aj6{A W u}{a0:Ref}{bZ:aO}(h:(J.of (na.Et a0 bZ)).holds A W u):(J.kP 190 [J.ptr a0,J.ptr bZ]).holds A W u:=by
 obtain⟨h1,v,ae,az⟩:=h;have e:=oJ h1 ae;subst e;exact az
def aj3{A W v}{a0:Ref}{bZ:aS}(h:(J.kP 191 [J.ptr a0,J.ptr bZ]).holds A W v):(J.of (na.ym a0 bZ)).holds A W v:=by
 obtain⟨fu,rfl,ae⟩:=h;exact⟨rfl,_,rfl,fu,rfl,ae⟩
def aj7{A W u}{a0:Ref}{bZ:aS}(h:(J.of (na.ym a0 bZ)).holds A W u):(J.kP 191 [J.ptr a0,J.ptr bZ]).holds A W u:=by
 obtain⟨h1,v,ae,az⟩:=h;have e:=oJ h1 ae;subst e;exact az
structure fw where
 D1:na
 deriving DecidableEq,Inhabited
instance:aj fw:=.str (gE na) (λx=>x.D1) 1
abbrev Vw:aP fw na:=.str gS 0 fw.D1 λb g=>{b with D1:=g}
instance:a1 fw:=⟨a1.cells na,λA W=>⟨by rfl,a1.ok (α:=na) A W⟩⟩
structure fc where
 mq:Ref
 qP:Ref
 tf:Ref
 fH:List fw
 deriving DecidableEq,Inhabited
instance:aj fc:=.str (db Ref (db Ref (db Ref (gE (aa fw))))) (λx=>(x.mq,x.qP,x.tf,x.fH)) 4
abbrev FX:aP fc Ref:=.str du 0 fc.mq λb g=>{b with mq:=g}
abbrev VJ:aP fc Ref:=.str (bA du) 1 fc.qP λb g=>{b with qP:=g}
abbrev Vv:aP fc Ref:=.str (bA (bA du)) 2 fc.tf λb g=>{b with tf:=g}
abbrev FQ:aP fc (aa fw):=.str (bA (bA (bA gS))) 3 fc.fH λb g=>{b with fH:=g}
instance:a1 fc:=⟨a1.cells Ref++a1.cells Ref++a1.cells Ref++a1.cells (aa fw),λA W=>⟨by rfl,a1.ok (α:=Ref) A W,a1.ok (α:=Ref) A W,a1.ok (α:=Ref) A W,a1.ok (α:=aa fw) A W⟩⟩
instance am9:dx prog 150 (default:fc):=.i
instance apC:bS prog 132 Ref:=.i underlying132
instance:cy prog 150 0 FX:=.i underlying150 I apC
instance apD:bS prog 144 Ref:=.i underlying144
instance:cy prog 150 1 VJ:=.i underlying150 I apD
instance apE:bS prog 146 Ref:=.i underlying146
instance:cy prog 150 2 Vv:=.i underlying150 I apE
instance am8:fS prog 150 #[(0,1),(1,1),(2,1),(3,1)]:=.i underlying150
def ajR:jm prog 150 [3]:=by unfold jm;kernel_rfl
def NJ:bL prog 27:=.i func27
instance ts:dx prog 48 (default:aO):=.i
instance DZ:cy prog 48 0 xt:=.i underlying48 I cd
instance apU:fS prog 48 #[(0,1),(1,1),(2,1),(3,1),(4,1)]:=.i underlying48
instance il:bS prog 48 aO:=.i underlying48
instance u1:dx prog 130 (default:bN):=.i
instance:cy prog 128 0 LD:=.i underlying128 I wv
instance:oC prog 246 (.int .u64):=⟨underlying246⟩
def Ys:OD prog 128 1 126 1:=⟨_,_,underlying128,rfl,rfl,rfl⟩
instance ajS:cy prog 130 0 F7:=.i underlying130 I lH
instance:cy prog 130 3 K7:=.i underlying130 I cd
instance:cy prog 130 1 Lc:=.i underlying130 I h8
instance amx:fS prog 130 #[(0,1),(1,2),(3,2),(5,1),(6,2)]:=.i underlying130
instance jt:bS prog 130 bN:=.i underlying130
instance:cy prog 130 2 PK:=.i underlying130 I h8
instance:cy prog 130 4 PL:=.i underlying130 I h8
instance gA:bS prog 45 (aa bN):=.i underlying45
instance hF:cy prog 48 1 j2:=.i underlying48 I gA
def apV:bL prog 92:=.i func92
instance:ie prog 45 130 bN:=⟨underlying45,jt⟩
def Rr:jm prog 48 [1]:=by unfold jm;kernel_rfl
instance Am:cy prog 48 2 xo:=.i underlying48 I cd
instance oM:cy prog 48 3 nV:=.i underlying48 I cd
def ak0:OD prog 88 2 85 2:=⟨_,_,underlying88,rfl,rfl,rfl⟩
instance p6:cy prog 48 4 nt:=.i underlying48 I oT
def XJ:jm prog 48 [1,4]:=by unfold jm;kernel_rfl
def abJ:bL prog 40:=.i func40
instance ZM:dx prog 227 (default:Vector (aa Int) 6):=.i
instance ss:pP prog 227 6 1:=pP.of underlying227 la I
def afT:jm prog 227 [0,1,2,3,4,5]:=by unfold jm;kernel_rfl
instance:bS prog 227 (Vector (aa Int) 6):=.i underlying227
def aqr:bL prog 41:=.i func41
structure iN where
 c7:Int
 bl:aO
 deriving DecidableEq,Inhabited
instance:aj iN:=.str (db Int (gE aO)) (λx=>(x.c7,x.bl)) 6
abbrev Gz:aP iN Int:=.str du 0 iN.c7 λb g=>{b with c7:=g}
abbrev Gl:aP iN aO:=.str (bA gS) 1 iN.bl λb g=>{b with bl:=g}
instance:a1 iN:=⟨a1.cells Int++a1.cells aO,λA W=>⟨by rfl,a1.ok (α:=Int) A W,a1.ok (α:=aO) A W⟩⟩
instance yn:dx prog 50 (default:iN):=.i
instance:cy prog 50 0 Gz:=.i underlying50 I cd
instance:cy prog 50 1 Gl:=.i underlying50 I il
instance NK:fS prog 50 #[(0,1),(1,5)]:=.i underlying50
instance IW:bS prog 50 iN:=.i underlying50
instance:ie prog 40 50 iN:=⟨underlying40,IW⟩
instance:dx prog 42 (default:Int):=.i
instance NH:bS prog 42 Int:=.i underlying42
instance:bS prog 36 Ref:=.i underlying36
instance:oC prog 36 (.pointer 150):=⟨underlying36⟩
instance wu:bS prog 148 (aa fw):=.i underlying148
instance ajQ:cy prog 150 3 FQ:=.i underlying150 I wu
instance Nd:bS prog 220 fw:=.i underlying220
instance:ie prog 148 220 fw:=⟨underlying148,Nd⟩
def abG:bL prog 32:=.i func32
def anK:bL prog 162:=.i func162
def ams:bL prog 136:=.i func136
def amt:bL prog 135:=.i func135
def amy:bL prog 225:=.i func225
def amz:bL prog 224:=.i func224
def anL:bL prog 163:=.i func163
def anM:bL prog 164:=.i func164
def anN:bL prog 168:=.i func168
instance:bS prog 51 (ko prog Bool):=.i underlying51
def amu:bL prog 241:=.i func241
instance:oC prog 4 .bool:=⟨underlying4⟩
def arV:nf prog 4 Bool 1:=aiP underlying4
def ZK:nf prog 126 (BitVec 64) 1:=ako (K:=.u64) underlying126
def xW:nf prog 128 aV 2:=L0 (k:=1) I underlying128 (by kernel_rfl) λd hd A W xs ys x y an hy=>by
 refine LI (sl LD wv I (by rfl) ZK (by omega) an hy (sl rv wv I (by rfl) ZK (by omega) an hy Mo)) ?_;congr 1;rw[oG];simp only[gq,fk,LJ];cases x;cases y;simp[aP.str,LD,rv]
def Jc:nf prog 3 Int 1:=Yz (K:=.i64) underlying3
def al9:nf prog 130 bN 3:=L0 (k:=2) I underlying130 (by kernel_rfl) λd hd A W xs ys x y an hy=>by
 refine LI (sl F7 lH I (by rfl) arV (by omega) an hy (sl Lc h8 I (by rfl) xW (by omega) an hy (sl PK h8 I (by rfl) xW (by omega) an hy (sl K7 cd I (by rfl) Jc (by omega) an hy (sl PL h8 I (by rfl) xW (by omega) an hy Mo))))) ?_;congr 1;rw[oG];simp only[gq,fk,LJ];cases x;cases y;simp[aP.str,F7,Lc,PK,K7,PL]
def ama:prog.eqGuardType prog.depth 130=false:=by kernel_rfl
instance:Fk prog 130 bN 3:=⟨al9,ama,rfl⟩
def Zb:prog.eqGuardType prog.depth 128=false:=by kernel_rfl
instance:Fk prog 128 aV 2:=⟨xW,Zb,rfl⟩
def anw:bL prog 220:=.i func220
def ana:bL prog 245:=.i func245
def anb:bL prog 244:=.i func244
def ZO:bL prog 356:=.i func356
def amB:bL prog 305:=.i func305
def amA:bL prog 304:=.i func304
def anO:bL prog 169:=.i func169
instance apF:bS prog 275 (ko prog Int):=.i underlying275
instance:ie prog 341 275 (ko prog Int):=⟨underlying341,apF⟩
instance:dx prog 275 (default:ko prog Int):=.i
def anP:bL prog 171:=.i func171
def anQ:bL prog 173:=.i func173
def amv:bL prog 307:=.i func307
def amw:bL prog 306:=.i func306
def anR:bL prog 175:=.i func175
structure iX where
 cP:ByteArray
 rG:ByteArray
 deriving DecidableEq,Inhabited
instance:aj iX:=.str (db ByteArray (gE ByteArray)) (λx=>(x.cP,x.rG)) 2
abbrev afr:aP iX ByteArray:=.str du 0 iX.cP λb g=>{b with cP:=g}
abbrev afs:aP iX ByteArray:=.str (bA gS) 1 iX.rG λb g=>{b with rG:=g}
instance:a1 iX:=⟨a1.cells ByteArray++a1.cells ByteArray,λA W=>⟨by rfl,a1.ok (α:=ByteArray) A W,a1.ok (α:=ByteArray) A W⟩⟩
instance RW:dx prog 412 (default:iX):=.i
instance:cy prog 412 0 afr:=.i underlying412 I kO
instance:cy prog 412 1 afs:=.i underlying412 I kO
instance:fS prog 412 #[(0,1),(1,1)]:=.i underlying412
instance H7:bS prog 412 iX:=.i underlying412
instance:ie prog 349 412 iX:=⟨underlying349,H7⟩
structure pZ where
 mv:Int
 atG:Int
 atH:Int
 cP:ByteArray
 rG:ByteArray
 cw:aV
 deriving DecidableEq,Inhabited
instance:aj pZ:=.str (db Int (db Int (db Int (db ByteArray (db ByteArray (gE aV)))))) (λx=>(x.mv,x.atG,x.atH,x.cP,x.rG,x.cw)) 7
abbrev V9:aP pZ Int:=.str du 0 pZ.mv λb g=>{b with mv:=g}
abbrev VQ:aP pZ aV:=.str (bA (bA (bA (bA (bA gS))))) 5 pZ.cw λb g=>{b with cw:=g}
instance:a1 pZ:=⟨a1.cells Int++a1.cells Int++a1.cells Int++a1.cells ByteArray++a1.cells ByteArray++a1.cells aV,λA W=>⟨by rfl,a1.ok (α:=Int) A W,a1.ok (α:=Int) A W,a1.ok (α:=Int) A W,a1.ok (α:=ByteArray) A W,a1.ok (α:=ByteArray) A W,a1.ok (α:=aV) A W⟩⟩
def am4:bL prog 149:=.i func149
instance ang:dx prog 404 (default:pZ):=.i
instance ajT:cy prog 404 0 V9:=.i underlying404 I cd
instance ajU:cy prog 404 5 VQ:=.i underlying404 I h8
instance:fS prog 404 #[(0,1),(1,1),(2,1),(3,1),(4,1),(5,2)]:=.i underlying404
instance Ni:bS prog 404 pZ:=.i underlying404
instance:ie prog 346 404 pZ:=⟨underlying346,Ni⟩
structure iA where
 cP:ByteArray
 rG:ByteArray
 cw:aV
 deriving DecidableEq,Inhabited
instance:aj iA:=.str (db ByteArray (db ByteArray (gE aV))) (λx=>(x.cP,x.rG,x.cw)) 4
abbrev aez:aP iA ByteArray:=.str du 0 iA.cP λb g=>{b with cP:=g}
abbrev aeA:aP iA ByteArray:=.str (bA du) 1 iA.rG λb g=>{b with rG:=g}
abbrev ael:aP iA aV:=.str (bA (bA gS)) 2 iA.cw λb g=>{b with cw:=g}
instance:a1 iA:=⟨a1.cells ByteArray++a1.cells ByteArray++a1.cells aV,λA W=>⟨by rfl,a1.ok (α:=ByteArray) A W,a1.ok (α:=ByteArray) A W,a1.ok (α:=aV) A W⟩⟩
instance Se:dx prog 427 (default:iA):=.i
instance:cy prog 427 0 aez:=.i underlying427 I kO
instance:cy prog 427 1 aeA:=.i underlying427 I kO
instance:cy prog 427 2 ael:=.i underlying427 I h8
instance:fS prog 427 #[(0,1),(1,1),(2,2)]:=.i underlying427
instance Nh:bS prog 427 iA:=.i underlying427
instance:ie prog 352 427 iA:=⟨underlying352,Nh⟩
def anB:bL prog 253:=.i func253
def aai:bL prog 252:=.i func252
def anC:bL prog 255:=.i func255
def anS:bL prog 177:=.i func177
instance:oC prog 132 (.pointer 225):=⟨underlying132⟩
instance ZN:dx prog 234 (default:Ref):=.i
def Iu:bL prog 193:=.i func193
instance:oC prog 234 (.pointer 303):=⟨underlying234⟩
instance rM:dx prog 70 (default:aS):=.i
instance aql:fS prog 70 #[(0,5),(5,1),(6,1)]:=.i underlying70
instance gM:bS prog 70 aS:=.i underlying70
instance:dx prog 172 (default:Vector aV 4):=.i
instance:pP prog 172 4 2:=pP.of underlying172 h8 I
instance:bS prog 172 (Vector aV 4):=.i underlying172
instance:oC prog 304 (.pointer 372):=⟨underlying304⟩
instance:kd aV where
 uniq {A W cs cR W' eW x} h c8:=by
  refine YF h.1 c8.1 ?_;refine HO 0 (aj.size (BitVec 64)) (kd.uniq h.2.1 c8.2.1) ?_;refine HO 1 (aj.size (BitVec 64)) (kd.uniq h.2.2 c8.2.2) ?_;exact YG h.1 c8.1 (by decide)
 plain {A W cs x} h:=by
  intro u hu n;have bJ:=Aj (o:=0) (s:=aj.size (BitVec 64)) (by simpa using hu);rcases bJ with h1|bJ
  ·exact kd.plain h.2.1 u h1 n
  have bJ:=Aj (s:=aj.size (BitVec 64)) bJ;rcases bJ with h1|bJ
  ·exact kd.plain h.2.2 u h1 n
  exact Q9 h.1 (by rfl) bJ
def amb:nf prog 592 (Vector aV 4) 3:=YA underlying592 h8 xW
def aa8:sV prog 126 (BitVec 64) 1:=Qx underlying126 I
def SH:sV prog 128 aV 2:=Xm (k:=1) I underlying128 (.cons LD I wv (λb d A W u x h an=>aa8 b d A W u x (by omega) an) (.cons rv I wv (λb d A W u x h an=>aa8 b d A W u x (by omega) an) (.nil)))
def apG:sV prog 592 (Vector aV 4) 3:=Zl underlying592 h8 SH
def MS:qA prog 592 (Vector aV 4):=RN underlying592 I apG amb I I
def Z9:bL prog 496:=.i func496
instance:bS prog 310 mN:=.i underlying310
instance:dx prog 593 (default:Vector aV 4):=.i
instance Nb:bS prog 593 (Vector aV 4):=.i underlying593
instance aas:dx prog 604 (default:Ref):=.i
instance:oC prog 594 (.pointer 610):=⟨underlying594⟩
structure hj where
 hG:Int
 e7:Ref
 deriving DecidableEq,Inhabited
instance:aj hj:=.str (db Int (gE Ref)) (λx=>(x.hG,x.e7)) 2
abbrev GF:aP hj Int:=.str du 0 hj.hG λb g=>{b with hG:=g}
abbrev Ln:aP hj Ref:=.str (bA gS) 1 hj.e7 λb g=>{b with e7:=g}
instance:a1 hj:=⟨a1.cells Int++a1.cells Ref,λA W=>⟨by rfl,a1.ok (α:=Int) A W,a1.ok (α:=Ref) A W⟩⟩
instance Q2:cy prog 610 0 GF:=.i underlying610 I cd
def aaj:bL prog 515:=.i func515
instance j5:bS prog 604 Ref:=.i underlying604
instance ajZ:cy prog 610 1 Ln:=.i underlying610 I j5
def Sf:bL prog 514:=.i func514
instance aaa:bS prog 594 Ref:=.i underlying594
instance:oC prog 604 (.pointer 608):=⟨underlying604⟩
instance Z4:bS prog 606 (Vector Ref 2):=.i underlying606
structure eT where
 dL:Vector Ref 2
 gr:Bool
 kH:Int
 deriving DecidableEq,Inhabited
instance:aj eT:=.str (db (Vector Ref 2) (db Bool (gE Int))) (λx=>(x.dL,x.gr,x.kH)) 4
abbrev CU:aP eT (Vector Ref 2):=.str du 0 eT.dL λb g=>{b with dL:=g}
abbrev GG:aP eT Bool:=.str (bA du) 2 eT.gr λb g=>{b with gr:=g}
abbrev Ly:aP eT Int:=.str (bA (bA gS)) 3 eT.kH λb g=>{b with kH:=g}
instance:a1 eT:=⟨a1.cells (Vector Ref 2)++a1.cells Bool++a1.cells Int,λA W=>⟨by rfl,a1.ok (α:=Vector Ref 2) A W,a1.ok (α:=Bool) A W,a1.ok (α:=Int) A W⟩⟩
instance Mm:cy prog 608 0 CU:=.i underlying608 I Z4
instance Sc:pP prog 606 2 1:=pP.of underlying606 j5 I
def Sg:bL prog 518:=.i func518
def aal:bL prog 512:=.i func512
instance ajL:cy prog 608 1 GG:=.i underlying608 I lH
instance ajM:cy prog 608 2 Ly:=.i underlying608 I cd
def amc:nf prog 593 (Vector aV 4) 3:=YA underlying593 h8 xW
def apH:sV prog 593 (Vector aV 4) 3:=Zl underlying593 h8 SH
def BB:qA prog 593 (Vector aV 4):=RN underlying593 I apH amc I I
instance It:dx prog 594 (default:Ref):=.i
def aao:bL prog 505:=.i func505
instance yj:bS prog 53 (aa aS):=.i underlying53
instance:cy prog 374 1 C3:=.i underlying374 I yj
instance:ie prog 53 70 aS:=⟨underlying53,gM⟩
instance ali:cy prog 70 0 Pg:=.i underlying70 I il
def ani:bL prog 282:=.i func282
def anx:bL prog 226:=.i func226
def anD:bL prog 532:=.i func532
def anG:bL prog 527:=.i func527
instance Zg:cy prog 70 1 KO:=.i underlying70 I cd
def apI:bL prog 492:=.i func492
def ahU:kZ prog 307 "matchguard/index.find" 492:=kZ.vn (by kernel_rfl) underlying307 I apI
def apJ:bL prog 500:=.i func500
def ahV:kZ prog 310 "matchguard/index.find" 500:=kZ.vn (by kernel_rfl) underlying310 I apJ
def apK:bL prog 523:=.i func523
def ahW:kZ prog 314 "matchguard/index.find" 523:=kZ.vn (by kernel_rfl) underlying314 I apK
def an8:bL prog 279:=.i func279
def Si:bL prog 256:=.i func256
def aoc:bL prog 257:=.i func257
def aod:bL prog 258:=.i func258
instance alj:cy prog 70 2 Ph:=.i underlying70 I cd
def amZ:bL prog 498:=.i func498
instance amV:dx prog 610 (default:hj):=.i
instance amU:fS prog 610 #[(0,1),(1,1)]:=.i underlying610
def anU:bL prog 508:=.i func508
instance aan:dx prog 608 (default:eT):=.i
instance aam:fS prog 608 #[(0,2),(2,1),(3,1)]:=.i underlying608
def anT:bL prog 509:=.i func509
def Z5:bL prog 543:=.i func543
def Z6:bL prog 542:=.i func542
def aad:bL prog 535:=.i func535
def am7:bL prog 550:=.i func550
def anZ:bL prog 536:=.i func536
def an0:bL prog 537:=.i func537
def an1:bL prog 538:=.i func538
def an4:bL prog 530:=.i func530
def apL:bL prog 494:=.i func494
def ahX:kZ prog 307 "matchguard/index.put" 494:=kZ.vn (by kernel_rfl) underlying307 I apL
def apM:bL prog 502:=.i func502
def ahY:kZ prog 310 "matchguard/index.put" 502:=kZ.vn (by kernel_rfl) underlying310 I apM
def apN:bL prog 525:=.i func525
def ahZ:kZ prog 314 "matchguard/index.put" 525:=kZ.vn (by kernel_rfl) underlying314 I apN
def Sj:bL prog 259:=.i func259
def aax:bL prog 179:=.i func179
def aau:bL prog 180:=.i func180
instance:oC prog 146 (.pointer 241):=⟨underlying146⟩
def Z7:bL prog 260:=.i func260
instance apO:bS prog 239 (Vector Int 6):=.i underlying239
instance DU:cy prog 241 1 zj:=.i underlying241 I apO
instance Ei:pP prog 239 6 1:=pP.of underlying239 cd I
def aav:bL prog 181:=.i func181
def am6:bL prog 499:=.i func499
instance:ie prog 614 604 Ref:=⟨underlying614,j5⟩
instance an2:dx prog 614 (default:aa Ref):=.i
instance aqi:dx prog 59 (default:aa Int):=.i
instance yc:bS prog 614 (aa Ref):=.i underlying614
def aj0:jm prog 614 [0]:=by unfold jm;kernel_rfl
def alh:jm prog 59 [0]:=by unfold jm;kernel_rfl
instance amW:dx prog 606 (default:Vector Ref 2):=.i
def ak5:prog.eqGuardType prog.depth 606=false:=by kernel_rfl
def aat:bL prog 516:=.i func516
def an5:bL prog 510:=.i func510
structure fe where
 cw:aV
 Ac:Int
 b1:Int
 deriving DecidableEq,Inhabited
instance:aj fe:=.str (db aV (db Int (gE Int))) (λx=>(x.cw,x.Ac,x.b1)) 4
abbrev aeo:aP fe aV:=.str du 0 fe.cw λb g=>{b with cw:=g}
abbrev aef:aP fe Int:=.str (bA du) 2 fe.Ac λb g=>{b with Ac:=g}
abbrev afd:aP fe Int:=.str (bA (bA gS)) 3 fe.b1 λb g=>{b with b1:=g}
instance:a1 fe:=⟨a1.cells aV++a1.cells Int++a1.cells Int,λA W=>⟨by rfl,a1.ok (α:=aV) A W,a1.ok (α:=Int) A W,a1.ok (α:=Int) A W⟩⟩
instance ann:dx prog 615 (default:aa fe):=.i
instance R8:bS prog 615 (aa fe):=.i underlying615
instance R9:dx prog 619 (default:fe):=.i
instance amY:fS prog 619 #[(0,2),(2,1),(3,1)]:=.i underlying619
instance Sa:bS prog 619 fe:=.i underlying619
instance:ie prog 615 619 fe:=⟨underlying615,Sa⟩
def am3:bL prog 520:=.i func520
def Sd:bL prog 521:=.i func521
def ajX:jm prog 615 [0]:=by unfold jm;kernel_rfl
def ano:bL prog 519:=.i func519
def anE:bL prog 517:=.i func517
def an6:bL prog 511:=.i func511
def ank:bL prog 539:=.i func539
def anp:bL prog 531:=.i func531
def apP:bL prog 495:=.i func495
def ah0:kZ prog 307 "matchguard/index.remove" 495:=kZ.vn (by kernel_rfl) underlying307 I apP
def apQ:bL prog 503:=.i func503
def ah1:kZ prog 310 "matchguard/index.remove" 503:=kZ.vn (by kernel_rfl) underlying310 I apQ
def apR:bL prog 526:=.i func526
def ah2:kZ prog 314 "matchguard/index.remove" 526:=kZ.vn (by kernel_rfl) underlying314 I apR
def aoe:bL prog 261:=.i func261
def Iv:bL prog 182:=.i func182
def aaw:bL prog 183:=.i func183
instance:oC prog 144 (.pointer 238):=⟨underlying144⟩
instance:cy prog 121 5 afR:=.i underlying121 I cd
instance Nf:dx prog 161 (default:cN):=.i
instance:cy prog 161 0 K5:=.i underlying161 I cd
instance:cy prog 161 1 Li:=.i underlying161 I cd
instance:cy prog 161 2 K6:=.i underlying161 I h8
instance:fS prog 161 #[(0,1),(1,1),(2,2)]:=.i underlying161
instance Ek:bS prog 161 cN:=.i underlying161
instance:ie prog 124 161 cN:=⟨underlying124,Ek⟩
instance:cy prog 121 3 afQ:=.i underlying121 I cd
instance:kd cN where
 uniq {A W cs cR W' eW x} h c8:=by
  refine YF h.1 c8.1 ?_;refine HO 0 (aj.size Int) (kd.uniq h.2.1 c8.2.1) ?_;refine HO 1 (aj.size Int) (kd.uniq h.2.2.1 c8.2.2.1) ?_;refine HO 2 (aj.size aV) (kd.uniq h.2.2.2 c8.2.2.2) ?_;exact YG h.1 c8.1 (by decide)
 plain {A W cs x} h:=by
  intro u hu n;have bJ:=Aj (o:=0) (s:=aj.size Int) (by simpa using hu);rcases bJ with h1|bJ
  ·exact kd.plain h.2.1 u h1 n
  have bJ:=Aj (s:=aj.size Int) bJ;rcases bJ with h1|bJ
  ·exact kd.plain h.2.2.1 u h1 n
  have bJ:=Aj (s:=aj.size aV) bJ;rcases bJ with h1|bJ
  ·exact kd.plain h.2.2.2 u h1 n
  exact Q9 h.1 (by rfl) bJ
def ZL:nf prog 161 cN 3:=L0 (k:=2) I underlying161 (by kernel_rfl) λd hd A W xs ys x y an hy=>by
 refine LI (sl K5 cd I (by rfl) Jc (by omega) an hy (sl Li cd I (by rfl) Jc (by omega) an hy (sl K6 h8 I (by rfl) xW (by omega) an hy Mo))) ?_;congr 1;rw[oG];simp only[gq,fk,LJ];cases x;cases y;simp[aP.str,K5,Li,K6]
def adj:sV prog 3 Int 1:=Qx underlying3 I
def apS:sV prog 161 cN 3:=Xm (k:=2) I underlying161 (.cons K5 I cd (λb d A W u x h an=>adj b d A W u x (by omega) an) (.cons Li I cd (λb d A W u x h an=>adj b d A W u x (by omega) an) (.cons K6 I h8 (λb d A W u x h an=>SH b d A W u x (by omega) an) (.nil))))
def Sb:qA prog 161 cN:=RN underlying161 I apS ZL I I
instance am0:dx prog 320 (default:kx):=.i
instance:bS prog 320 kx:=.i underlying320
instance Yv:cy prog 320 0 F8:=.i underlying320 I cd
instance Yw:cy prog 320 1 FW:=.i underlying320 I cd
instance:fS prog 320 #[(0,1),(1,1)]:=.i underlying320
def amd:nf prog 320 kx 2:=L0 (k:=1) I underlying320 (by kernel_rfl) λd hd A W xs ys x y an hy=>by
 refine LI (sl F8 cd I (by rfl) Jc (by omega) an hy (sl FW cd I (by rfl) Jc (by omega) an hy Mo)) ?_;congr 1;rw[oG];simp only[gq,fk,LJ];cases x;cases y;simp[aP.str,F8,FW]
def ame:prog.eqGuardType prog.depth 320=false:=by kernel_rfl
instance:Fk prog 320 kx 2:=⟨amd,ame,rfl⟩
def aaf:bL prog 321:=.i func321
def amf:prog.eqGuardType prog.depth 161=false:=by kernel_rfl
instance:Fk prog 161 cN 3:=⟨ZL,amf,rfl⟩
def anl:bL prog 372:=.i func372
def aak:bL prog 262:=.i func262
def Sk:bL prog 184:=.i func184
instance am1:dx prog 220 (default:fw):=.i
instance acB:bS prog 1 na:=.i underlying1
instance aj8:cy prog 220 0 Vw:=.i underlying220 I acB
instance:fS prog 220 #[(0,1)]:=.i underlying220
def Sl:bL prog 185:=.i func185
def aog:bL prog 111:=.i func111
def aaB:bL prog 263:=.i func263
def Sm:bL prog 187:=.i func187
def aaC:bL prog 189:=.i func189
def aoh:bL prog 112:=.i func112
def aaz:bL prog 188:=.i func188
def aoi:bL prog 113:=.i func113
def aqo:bL prog 58:=.i func58
structure iM where
 hE:cN
 xM:Int
 xJ:Int
 deriving DecidableEq,Inhabited
instance:aj iM:=.str (db cN (db Int (gE Int))) (λx=>(x.hE,x.xM,x.xJ)) 6
abbrev aeB:aP iM cN:=.str du 0 iM.hE λb g=>{b with hE:=g}
abbrev aeC:aP iM Int:=.str (bA du) 4 iM.xM λb g=>{b with xM:=g}
abbrev aee:aP iM Int:=.str (bA (bA gS)) 5 iM.xJ λb g=>{b with xJ:=g}
instance:a1 iM:=⟨a1.cells cN++a1.cells Int++a1.cells Int,λA W=>⟨by rfl,a1.ok (α:=cN) A W,a1.ok (α:=Int) A W,a1.ok (α:=Int) A W⟩⟩
instance anq:dx prog 163 (default:iM):=.i
instance:cy prog 163 0 aeB:=.i underlying163 I Ek
instance:cy prog 163 1 aeC:=.i underlying163 I cd
instance:cy prog 163 2 aee:=.i underlying163 I cd
instance:fS prog 163 #[(0,4),(4,1),(5,1)]:=.i underlying163
instance aah:bS prog 163 iM:=.i underlying163
instance:ie prog 156 163 iM:=⟨underlying156,aah⟩
def anr:bL prog 216:=.i func216
def ans:bL prog 217:=.i func217
def anF:bL prog 131:=.i func131
def anH:bL prog 114:=.i func114
def aqp:bL prog 59:=.i func59
def aof:bL prog 192:=.i func192
def aoj:bL prog 186:=.i func186
def aok:bL prog 190:=.i func190
def aol:bL prog 191:=.i func191
def aqm:bL prog 56:=.i func56
def aqn:bL prog 57:=.i func57
def S1:bL prog 55:=.i func55
def IU:bL prog 19:=.i func19
def aqk:bL prog 88:=.i func88
def aqj:bL prog 61:=.i func61
def anu:bL prog 287:=.i func287
def ant:bL prog 286:=.i func286
def anv:bL prog 288:=.i func288
def anI:bL prog 265:=.i func265
def anJ:bL prog 266:=.i func266
def an3:bL prog 194:=.i func194
def an7:bL prog 115:=.i func115
def an9:bL prog 140:=.i func140
instance pB:bS prog 253 aO:=.i underlying253
instance:ie prog 252 253 aO:=⟨underlying252,pB⟩
instance R2:dx prog 253 (default:aO):=.i
def anz:bL prog 227:=.i func227
def anj:bL prog 340:=.i func340
def anm:bL prog 284:=.i func284
def anA:bL prog 228:=.i func228
def aob:bL prog 143:=.i func143
def aoa:bL prog 142:=.i func142
instance:ie prog 79 48 aO:=⟨underlying79,il⟩
def abF:bL prog 89:=.i func89
def S2:bL prog 36:=.i func36
instance ZU:dx prog 271 (default:Vector Bool 128):=.i
instance R3:pP prog 271 128 1:=pP.of underlying271 lH I
instance ZV:bS prog 271 (Vector Bool 128):=.i underlying271
def aqt:bL prog 38:=.i func38
def aqu:bL prog 39:=.i func39
inductive Cell where
 |mZ (x:fc) (key:Option Nat) (cap:Nat)
 |sD (x:List (Int×Ref))
 |qV (x:k5)
 |sy (x:List (cN×kx))
 |BI (x:qJ)
 |sA (x:jo)
 |l6 (x:List (Int×aS))
 |qe (x:j3)
 |ob (x:List ((Vector aV 4)×Ref))
 |qS (x:List ((Vector aV 4)×Int))
 |Er (x:sh)
 |u9 (x:eF) (key:Option Nat) (cap:Nat)
 |gW (x:eT)
 |lb (x:hj)
instance:dZ Cell where
 gd p k:=match k with
  | .mZ x key cap=>[⟨some p,.bX ({x with fH:=[]}:fc) [(3,aH key x.fH.length cap)]⟩,⟨key,.row 220 (x.fH:aa fw) cap⟩]
  | .sD x=>[⟨some p,.map x⟩]
  | .qV x=>[⟨some p,.var x⟩]
  | .sy x=>[⟨some p,.map x⟩]
  | .BI x=>[⟨some p,.var x⟩]
  | .sA x=>[⟨some p,.var x⟩]
  | .l6 x=>[⟨some p,.map x⟩]
  | .qe x=>[⟨some p,.var x⟩]
  | .ob x=>[⟨some p,.map x⟩]
  | .qS x=>[⟨some p,.map x⟩]
  | .Er x=>[⟨some p,.var x⟩]
  | .u9 x key cap=>[⟨some p,.bX ({x with dw:=[]}:eF) [(10,aH key x.dw.length cap)]⟩,⟨key,.row 70 (x.dw:aa aS) cap⟩]
  | .gW x=>[⟨some p,.var x⟩]
  | .lb x=>[⟨some p,.var x⟩]
 root p k:=by cases k <;> exact⟨_,kt ..,rfl⟩
def hK(hp:aL Cell)(p:Nat):aA (fc×aA Nat×Nat):=match pat hp p with
 |some (.mZ x key cap)=>some (x,key,cap)
 |_=>none
def qQ{hp:aL Cell}{p:Nat}{x:fc×aA Nat×Nat}(h:hK hp p=some x):pat hp p=some (.mZ x.1 x.2.1 x.2.2):=by
 unfold hK at h;split at h
 ·rename_i ae;cases h;exact ae
 cases h
instance:adz fc hK (λx=>{x.1 with fH:=[]}) (λx=>[(3,aH x.2.1 x.1.fH.length x.2.2)]):=⟨λh=>⟨_,_,qQ h,rfl⟩⟩
def l3(hp:aL Cell)(p:Nat):aA (aa (Int×Ref)):=match pat hp p with
 |some (.sD x)=>some x
 |_=>none
def wi{hp:aL Cell}{p:Nat}{x:aa (Int×Ref)}(h:l3 hp p=some x):pat hp p=some (.sD x):=by
 unfold l3 at h;split at h
 ·rename_i ae;cases h;exact ae
 cases h
def jI(hp:aL Cell)(p:Nat):aA k5:=match pat hp p with
 |some (.qV x)=>some x
 |_=>none
def uT{hp:aL Cell}{p:Nat}{x:k5}(h:jI hp p=some x):pat hp p=some (.qV x):=by
 unfold jI at h;split at h
 ·rename_i ae;cases h;exact ae
 cases h
instance:y7 k5 jI:=⟨λh=>⟨_,uT h,rfl⟩⟩
def qb(hp:aL Cell)(p:Nat):aA (aa (cN×kx)):=match pat hp p with
 |some (.sy x)=>some x
 |_=>none
def uU{hp:aL Cell}{p:Nat}{x:aa (cN×kx)}(h:qb hp p=some x):pat hp p=some (.sy x):=by
 unfold qb at h;split at h
 ·rename_i ae;cases h;exact ae
 cases h
def qa(hp:aL Cell)(p:Nat):aA qJ:=match pat hp p with
 |some (.BI x)=>some x
 |_=>none
def RU{hp:aL Cell}{p:Nat}{x:qJ}(h:qa hp p=some x):pat hp p=some (.BI x):=by
 unfold qa at h;split at h
 ·rename_i ae;cases h;exact ae
 cases h
instance:y7 qJ qa:=⟨λh=>⟨_,RU h,rfl⟩⟩
def oP(hp:aL Cell)(p:Nat):aA jo:=match pat hp p with
 |some (.sA x)=>some x
 |_=>none
def uR{hp:aL Cell}{p:Nat}{x:jo}(h:oP hp p=some x):pat hp p=some (.sA x):=by
 unfold oP at h;split at h
 ·rename_i ae;cases h;exact ae
 cases h
instance:y7 jo oP:=⟨λh=>⟨_,uR h,rfl⟩⟩
def mu(hp:aL Cell)(p:Nat):aA (aa (Int×aS)):=match pat hp p with
 |some (.l6 x)=>some x
 |_=>none
def ti{hp:aL Cell}{p:Nat}{x:aa (Int×aS)}(h:mu hp p=some x):pat hp p=some (.l6 x):=by
 unfold mu at h;split at h
 ·rename_i ae;cases h;exact ae
 cases h
def jb(hp:aL Cell)(p:Nat):aA j3:=match pat hp p with
 |some (.qe x)=>some x
 |_=>none
def A3{hp:aL Cell}{p:Nat}{x:j3}(h:jb hp p=some x):pat hp p=some (.qe x):=by
 unfold jb at h;split at h
 ·rename_i ae;cases h;exact ae
 cases h
instance:y7 j3 jb:=⟨λh=>⟨_,A3 h,rfl⟩⟩
def lA(hp:aL Cell)(p:Nat):aA (aa ((Vector aV 4)×Ref)):=match pat hp p with
 |some (.ob x)=>some x
 |_=>none
def pw{hp:aL Cell}{p:Nat}{x:aa ((Vector aV 4)×Ref)}(h:lA hp p=some x):pat hp p=some (.ob x):=by
 unfold lA at h;split at h
 ·rename_i ae;cases h;exact ae
 cases h
def nC(hp:aL Cell)(p:Nat):aA (aa ((Vector aV 4)×Int)):=match pat hp p with
 |some (.qS x)=>some x
 |_=>none
def uO{hp:aL Cell}{p:Nat}{x:aa ((Vector aV 4)×Int)}(h:nC hp p=some x):pat hp p=some (.qS x):=by
 unfold nC at h;split at h
 ·rename_i ae;cases h;exact ae
 cases h
def n5(hp:aL Cell)(p:Nat):aA sh:=match pat hp p with
 |some (.Er x)=>some x
 |_=>none
def H4{hp:aL Cell}{p:Nat}{x:sh}(h:n5 hp p=some x):pat hp p=some (.Er x):=by
 unfold n5 at h;split at h
 ·rename_i ae;cases h;exact ae
 cases h
instance:y7 sh n5:=⟨λh=>⟨_,H4 h,rfl⟩⟩
def rI(hp:aL Cell)(p:Nat):aA (eF×aA Nat×Nat):=match pat hp p with
 |some (.u9 x key cap)=>some (x,key,cap)
 |_=>none
def A5{hp:aL Cell}{p:Nat}{x:eF×aA Nat×Nat}(h:rI hp p=some x):pat hp p=some (.u9 x.1 x.2.1 x.2.2):=by
 unfold rI at h;split at h
 ·rename_i ae;cases h;exact ae
 cases h
def cX(hp:aL Cell)(p:Nat):aA eT:=match pat hp p with
 |some (.gW x)=>some x
 |_=>none
def rF{hp:aL Cell}{p:Nat}{x:eT}(h:cX hp p=some x):pat hp p=some (.gW x):=by
 unfold cX at h;split at h
 ·rename_i ae;cases h;exact ae
 cases h
instance:y7 eT cX:=⟨λh=>⟨_,rF h,rfl⟩⟩
def ga(hp:aL Cell)(p:Nat):aA hj:=match pat hp p with
 |some (.lb x)=>some x
 |_=>none
def xV{hp:aL Cell}{p:Nat}{x:hj}(h:ga hp p=some x):pat hp p=some (.lb x):=by
 unfold ga at h;split at h
 ·rename_i ae;cases h;exact ae
 cases h
instance:y7 hj ga:=⟨λh=>⟨_,xV h,rfl⟩⟩
end Go.Proofs.YtlkieppifclacaaGreat
