/-
  The types of the data, and facts on their tables. Conditions: none.
-/
import Derived.Test.YtppgfphgdogpeaaGreatRows
import Derived.Test.YtppgfphgdogpeaaGreatMl2
set_option linter.unusedVariables false
set_option linter.unusedSimpArgs false
set_option maxRecDepth 100000
namespace Go.Proofs.YtppgfphgdogpeaaGreat
open Go Gv Go.Proofs.Tryz
structure eg where
 dd:List (BitVec 8)
 vn:Int
 deriving DecidableEq,Inhabited
instance:ah eg:= .str (cX (List (BitVec 8)) (gN Int)) (fun x=>(x.dd,x.vn)) 2
abbrev aaM:aK eg (List (BitVec 8)):= .str c6 0 eg.dd fun b g=>{ b with dd:=g }
abbrev aax:aK eg Int:= .str (bp gT) 1 eg.vn fun b g=>{ b with vn:=g }
instance:a6 eg:=⟨a6.cells (List (BitVec 8))++a6.cells Int,fun A W=>⟨by rfl,a6.ok (α:=List (BitVec 8)) A W,a6.ok (α:=Int) A W⟩⟩
instance Xz:bO prog 5 (BitVec 8):= .i underlying5
instance arl:jd prog 22 5 (BitVec 8):=⟨underlying22,Xz⟩
instance arn:dp prog 69 (default:eg):= .i
instance alN:bO prog 22 (List (BitVec 8)):= .i underlying22
instance ao8:cq prog 69 0 aaM:= .i underlying69 rfl alN
instance aro:fX prog 69 #[(0,1),(1,1)]:= .i underlying69
theorem OV:bM prog 7:= .i func7
structure iF where
 bU:Int
 da:ByteArray
 jD:Int
 deriving DecidableEq,Inhabited
instance:ah iF:= .str (cX Int (cX ByteArray (gN Int))) (fun x=>(x.bU,x.da,x.jD)) 3
abbrev aa1:aK iF Int:= .str c6 0 iF.bU fun b g=>{ b with bU:=g }
abbrev aay:aK iF ByteArray:= .str (bp c6) 1 iF.da fun b g=>{ b with da:=g }
abbrev aaz:aK iF Int:= .str (bp (bp gT)) 2 iF.jD fun b g=>{ b with jD:=g }
instance:a6 iF:=⟨a6.cells Int++a6.cells ByteArray++a6.cells Int,fun A W=>⟨by rfl,a6.ok (α:=Int) A W,a6.ok (α:=ByteArray) A W,a6.ok (α:=Int) A W⟩⟩
structure l1 where
 bU:Int
 da:ByteArray
 gX:List Int
 deriving DecidableEq,Inhabited
instance:ah l1:= .str (cX Int (cX ByteArray (gN (List Int)))) (fun x=>(x.bU,x.da,x.gX)) 3
abbrev aaN:aK l1 Int:= .str c6 0 l1.bU fun b g=>{ b with bU:=g }
abbrev aac:aK l1 ByteArray:= .str (bp c6) 1 l1.da fun b g=>{ b with da:=g }
abbrev ZI:aK l1 (List Int):= .str (bp (bp gT)) 2 l1.gX fun b g=>{ b with gX:=g }
instance:a6 l1:=⟨a6.cells Int++a6.cells ByteArray++a6.cells (List Int),fun A W=>⟨by rfl,a6.ok (α:=Int) A W,a6.ok (α:=ByteArray) A W,a6.ok (α:=List Int) A W⟩⟩
structure aX where
 ed:BitVec 64
 cO:BitVec 64
 deriving DecidableEq,Inhabited
instance:ah aX:= .str (cX (BitVec 64) (gN (BitVec 64))) (fun x=>(x.ed,x.cO)) 2
abbrev HI:aK aX (BitVec 64):= .str c6 0 aX.ed fun b g=>{ b with ed:=g }
abbrev qJ:aK aX (BitVec 64):= .str (bp gT) 1 aX.cO fun b g=>{ b with cO:=g }
instance:a6 aX:=⟨a6.cells (BitVec 64)++a6.cells (BitVec 64),fun A W=>⟨by rfl,a6.ok (α:=BitVec 64) A W,a6.ok (α:=BitVec 64) A W⟩⟩
structure iO where
 ck:aX
 hN:aX
 uX:Int
 deriving DecidableEq,Inhabited
instance:ah iO:= .str (cX aX (cX aX (gN Int))) (fun x=>(x.ck,x.hN,x.uX)) 5
abbrev KW:aK iO aX:= .str c6 0 iO.ck fun b g=>{ b with ck:=g }
abbrev K0:aK iO aX:= .str (bp c6) 2 iO.hN fun b g=>{ b with hN:=g }
abbrev K1:aK iO Int:= .str (bp (bp gT)) 4 iO.uX fun b g=>{ b with uX:=g }
instance:a6 iO:=⟨a6.cells aX++a6.cells aX++a6.cells Int,fun A W=>⟨by rfl,a6.ok (α:=aX) A W,a6.ok (α:=aX) A W,a6.ok (α:=Int) A W⟩⟩
structure eW where
 bU:Int
 kt:Int
 rC:Int
 sv:List iO
 jg:Int
 deriving DecidableEq,Inhabited
instance:ah eW:= .str (cX Int (cX Int (cX Int (cX (List iO) (gN Int))))) (fun x=>(x.bU,x.kt,x.rC,x.sv,x.jg)) 5
abbrev Rf:aK eW Int:= .str c6 0 eW.bU fun b g=>{ b with bU:=g }
abbrev QR:aK eW Int:= .str (bp c6) 1 eW.kt fun b g=>{ b with kt:=g }
abbrev QS:aK eW Int:= .str (bp (bp c6)) 2 eW.rC fun b g=>{ b with rC:=g }
abbrev Hw:aK eW (List iO):= .str (bp (bp (bp c6))) 3 eW.sv fun b g=>{ b with sv:=g }
abbrev QL:aK eW Int:= .str (bp (bp (bp (bp gT)))) 4 eW.jg fun b g=>{ b with jg:=g }
instance:a6 eW:=⟨a6.cells Int++a6.cells Int++a6.cells Int++a6.cells (List iO)++a6.cells Int,fun A W=>⟨by rfl,a6.ok (α:=Int) A W,a6.ok (α:=Int) A W,a6.ok (α:=Int) A W,a6.ok (α:=List iO) A W,a6.ok (α:=Int) A W⟩⟩
structure mn where
 da:ByteArray
 jD:Int
 deriving DecidableEq,Inhabited
instance:ah mn:= .str (cX ByteArray (gN Int)) (fun x=>(x.da,x.jD)) 2
abbrev aaA:aK mn ByteArray:= .str c6 0 mn.da fun b g=>{ b with da:=g }
abbrev Q9:aK mn Int:= .str (bp gT) 1 mn.jD fun b g=>{ b with jD:=g }
instance:a6 mn:=⟨a6.cells ByteArray++a6.cells Int,fun A W=>⟨by rfl,a6.ok (α:=ByteArray) A W,a6.ok (α:=Int) A W⟩⟩
structure jJ where
 ez:Int
 fh:Int
 ck:aX
 deriving DecidableEq,Inhabited
instance:ah jJ:= .str (cX Int (cX Int (gN aX))) (fun x=>(x.ez,x.fh,x.ck)) 4
abbrev ZX:aK jJ Int:= .str c6 0 jJ.ez fun b g=>{ b with ez:=g }
abbrev aaO:aK jJ Int:= .str (bp c6) 1 jJ.fh fun b g=>{ b with fh:=g }
abbrev ZJ:aK jJ aX:= .str (bp (bp gT)) 2 jJ.ck fun b g=>{ b with ck:=g }
instance:a6 jJ:=⟨a6.cells Int++a6.cells Int++a6.cells aX,fun A W=>⟨by rfl,a6.ok (α:=Int) A W,a6.ok (α:=Int) A W,a6.ok (α:=aX) A W⟩⟩
structure jz where
 r1:Int
 tQ:Int
 ve:jJ
 deriving DecidableEq,Inhabited
instance:ah jz:= .str (cX Int (cX Int (gN jJ))) (fun x=>(x.r1,x.tQ,x.ve)) 6
abbrev aa6:aK jz Int:= .str c6 0 jz.r1 fun b g=>{ b with r1:=g }
abbrev aa2:aK jz Int:= .str (bp c6) 1 jz.tQ fun b g=>{ b with tQ:=g }
abbrev aa3:aK jz jJ:= .str (bp (bp gT)) 2 jz.ve fun b g=>{ b with ve:=g }
instance:a6 jz:=⟨a6.cells Int++a6.cells Int++a6.cells jJ,fun A W=>⟨by rfl,a6.ok (α:=Int) A W,a6.ok (α:=Int) A W,a6.ok (α:=jJ) A W⟩⟩
structure fp where
 bU:Int
 da:ByteArray
 l2:List mn
 wT:List jz
 tw:ByteArray
 deriving DecidableEq,Inhabited
instance:ah fp:= .str (cX Int (cX ByteArray (cX (List mn) (cX (List jz) (gN ByteArray))))) (fun x=>(x.bU,x.da,x.l2,x.wT,x.tw)) 5
abbrev aaP:aK fp Int:= .str c6 0 fp.bU fun b g=>{ b with bU:=g }
abbrev aad:aK fp ByteArray:= .str (bp c6) 1 fp.da fun b g=>{ b with da:=g }
abbrev QQ:aK fp (List mn):= .str (bp (bp c6)) 2 fp.l2 fun b g=>{ b with l2:=g }
abbrev aae:aK fp (List jz):= .str (bp (bp (bp c6))) 3 fp.wT fun b g=>{ b with wT:=g }
abbrev KI:aK fp ByteArray:= .str (bp (bp (bp (bp gT)))) 4 fp.tw fun b g=>{ b with tw:=g }
instance:a6 fp:=⟨a6.cells Int++a6.cells ByteArray++a6.cells (List mn)++a6.cells (List jz)++a6.cells ByteArray,fun A W=>⟨by rfl,a6.ok (α:=Int) A W,a6.ok (α:=ByteArray) A W,a6.ok (α:=List mn) A W,a6.ok (α:=List jz) A W,a6.ok (α:=ByteArray) A W⟩⟩
structure dH where
 da:ByteArray
 jB:Int
 ez:Int
 deriving DecidableEq,Inhabited
instance:ah dH:= .str (cX ByteArray (cX Int (gN Int))) (fun x=>(x.da,x.jB,x.ez)) 3
abbrev DY:aK dH ByteArray:= .str c6 0 dH.da fun b g=>{ b with da:=g }
abbrev DT:aK dH Int:= .str (bp c6) 1 dH.jB fun b g=>{ b with jB:=g }
abbrev yg:aK dH Int:= .str (bp (bp gT)) 2 dH.ez fun b g=>{ b with ez:=g }
instance:a6 dH:=⟨a6.cells ByteArray++a6.cells Int++a6.cells Int,fun A W=>⟨by rfl,a6.ok (α:=ByteArray) A W,a6.ok (α:=Int) A W,a6.ok (α:=Int) A W⟩⟩
structure ca where
 bU:Int
 da:ByteArray
 c4:List dH
 dC:List Int
 jg:Int
 yo:List aX
 hv:Int
 tw:ByteArray
 deriving DecidableEq,Inhabited
instance:ah ca:= .str (cX Int (cX ByteArray (cX (List dH) (cX (List Int) (cX Int (cX (List aX) (cX Int (gN ByteArray)))))))) (fun x=>(x.bU,x.da,x.c4,x.dC,x.jg,x.yo,x.hv,x.tw)) 8
abbrev tu:aK ca Int:= .str c6 0 ca.bU fun b g=>{ b with bU:=g }
abbrev HC:aK ca ByteArray:= .str (bp c6) 1 ca.da fun b g=>{ b with da:=g }
abbrev ru:aK ca (List dH):= .str (bp (bp c6)) 2 ca.c4 fun b g=>{ b with c4:=g }
abbrev x7:aK ca (List Int):= .str (bp (bp (bp c6))) 3 ca.dC fun b g=>{ b with dC:=g }
abbrev Hl:aK ca Int:= .str (bp (bp (bp (bp c6)))) 4 ca.jg fun b g=>{ b with jg:=g }
abbrev Zi:aK ca (List aX):= .str (bp (bp (bp (bp (bp c6))))) 5 ca.yo fun b g=>{ b with yo:=g }
abbrev DJ:aK ca Int:= .str (bp (bp (bp (bp (bp (bp c6)))))) 6 ca.hv fun b g=>{ b with hv:=g }
abbrev Qv:aK ca ByteArray:= .str (bp (bp (bp (bp (bp (bp (bp gT))))))) 7 ca.tw fun b g=>{ b with tw:=g }
instance:a6 ca:=⟨a6.cells Int++a6.cells ByteArray++a6.cells (List dH)++a6.cells (List Int)++a6.cells Int++a6.cells (List aX)++a6.cells Int++a6.cells ByteArray,fun A W=>⟨by rfl,a6.ok (α:=Int) A W,a6.ok (α:=ByteArray) A W,a6.ok (α:=List dH) A W,a6.ok (α:=List Int) A W,a6.ok (α:=Int) A W,a6.ok (α:=List aX) A W,a6.ok (α:=Int) A W,a6.ok (α:=ByteArray) A W⟩⟩
structure gW where
 bB:Int
 kt:Int
 deriving DecidableEq,Inhabited
instance:ah gW:= .str (cX Int (gN Int)) (fun x=>(x.bB,x.kt)) 2
abbrev Dy:aK gW Int:= .str c6 0 gW.bB fun b g=>{ b with bB:=g }
abbrev KS:aK gW Int:= .str (bp gT) 1 gW.kt fun b g=>{ b with kt:=g }
instance:a6 gW:=⟨a6.cells Int++a6.cells Int,fun A W=>⟨by rfl,a6.ok (α:=Int) A W,a6.ok (α:=Int) A W⟩⟩
structure fj where
 bB:Int
 BH:Bool
 Bu:Bool
 c4:List Bool
 deriving DecidableEq,Inhabited
instance:ah fj:= .str (cX Int (cX Bool (cX Bool (gN (List Bool))))) (fun x=>(x.bB,x.BH,x.Bu,x.c4)) 4
abbrev aaf:aK fj Int:= .str c6 0 fj.bB fun b g=>{ b with bB:=g }
abbrev aaB:aK fj Bool:= .str (bp c6) 1 fj.BH fun b g=>{ b with BH:=g }
abbrev aag:aK fj Bool:= .str (bp (bp c6)) 2 fj.Bu fun b g=>{ b with Bu:=g }
abbrev aaC:aK fj (List Bool):= .str (bp (bp (bp gT))) 3 fj.c4 fun b g=>{ b with c4:=g }
instance:a6 fj:=⟨a6.cells Int++a6.cells Bool++a6.cells Bool++a6.cells (List Bool),fun A W=>⟨by rfl,a6.ok (α:=Int) A W,a6.ok (α:=Bool) A W,a6.ok (α:=Bool) A W,a6.ok (α:=List Bool) A W⟩⟩
structure du where
 bU:Int
 da:ByteArray
 lL:List fj
 dC:List Int
 jK:Int
 EJ:Bool
 deriving DecidableEq,Inhabited
instance:ah du:= .str (cX Int (cX ByteArray (cX (List fj) (cX (List Int) (cX Int (gN Bool)))))) (fun x=>(x.bU,x.da,x.lL,x.dC,x.jK,x.EJ)) 6
abbrev D4:aK du Int:= .str c6 0 du.bU fun b g=>{ b with bU:=g }
abbrev K2:aK du ByteArray:= .str (bp c6) 1 du.da fun b g=>{ b with da:=g }
abbrev x9:aK du (List fj):= .str (bp (bp c6)) 2 du.lL fun b g=>{ b with lL:=g }
abbrev KR:aK du (List Int):= .str (bp (bp (bp c6))) 3 du.dC fun b g=>{ b with dC:=g }
abbrev DK:aK du Int:= .str (bp (bp (bp (bp c6)))) 4 du.jK fun b g=>{ b with jK:=g }
abbrev aam:aK du Bool:= .str (bp (bp (bp (bp (bp gT))))) 5 du.EJ fun b g=>{ b with EJ:=g }
instance:a6 du:=⟨a6.cells Int++a6.cells ByteArray++a6.cells (List fj)++a6.cells (List Int)++a6.cells Int++a6.cells Bool,fun A W=>⟨by rfl,a6.ok (α:=Int) A W,a6.ok (α:=ByteArray) A W,a6.ok (α:=List fj) A W,a6.ok (α:=List Int) A W,a6.ok (α:=Int) A W,a6.ok (α:=Bool) A W⟩⟩
structure e3 where
 bB:Int
 eY:Int
 en:Int
 uR:Int
 mo:Int
 p5:Int
 deriving DecidableEq,Inhabited
instance:ah e3:= .str (cX Int (cX Int (cX Int (cX Int (cX Int (gN Int)))))) (fun x=>(x.bB,x.eY,x.en,x.uR,x.mo,x.p5)) 6
abbrev aaQ:aK e3 Int:= .str c6 0 e3.bB fun b g=>{ b with bB:=g }
abbrev aa7:aK e3 Int:= .str (bp c6) 1 e3.eY fun b g=>{ b with eY:=g }
abbrev aaD:aK e3 Int:= .str (bp (bp c6)) 2 e3.en fun b g=>{ b with en:=g }
abbrev aaR:aK e3 Int:= .str (bp (bp (bp c6))) 3 e3.uR fun b g=>{ b with uR:=g }
abbrev aah:aK e3 Int:= .str (bp (bp (bp (bp c6)))) 4 e3.mo fun b g=>{ b with mo:=g }
abbrev aaS:aK e3 Int:= .str (bp (bp (bp (bp (bp gT))))) 5 e3.p5 fun b g=>{ b with p5:=g }
instance:a6 e3:=⟨a6.cells Int++a6.cells Int++a6.cells Int++a6.cells Int++a6.cells Int++a6.cells Int,fun A W=>⟨by rfl,a6.ok (α:=Int) A W,a6.ok (α:=Int) A W,a6.ok (α:=Int) A W,a6.ok (α:=Int) A W,a6.ok (α:=Int) A W,a6.ok (α:=Int) A W⟩⟩
structure aZ where
 gX:List iF
 oC:List l1
 pb:List eW
 dC:List fp
 bS:List ca
 qL:List gW
 eo:List du
 c3:List e3
 Eu:Int
 EC:Int
 deriving DecidableEq,Inhabited
instance:ah aZ:= .str (cX (List iF) (cX (List l1) (cX (List eW) (cX (List fp) (cX (List ca) (cX (List gW) (cX (List du) (cX (List e3) (cX Int (gN Int)))))))))) (fun x=>(x.gX,x.oC,x.pb,x.dC,x.bS,x.qL,x.eo,x.c3,x.Eu,x.EC)) 10
abbrev QM:aK aZ (List iF):= .str c6 0 aZ.gX fun b g=>{ b with gX:=g }
abbrev QF:aK aZ (List l1):= .str (bp c6) 1 aZ.oC fun b g=>{ b with oC:=g }
abbrev QN:aK aZ (List eW):= .str (bp (bp c6)) 2 aZ.pb fun b g=>{ b with pb:=g }
abbrev QG:aK aZ (List fp):= .str (bp (bp (bp c6))) 3 aZ.dC fun b g=>{ b with dC:=g }
abbrev x8:aK aZ (List ca):= .str (bp (bp (bp (bp c6)))) 4 aZ.bS fun b g=>{ b with bS:=g }
abbrev Hm:aK aZ (List gW):= .str (bp (bp (bp (bp (bp c6))))) 5 aZ.qL fun b g=>{ b with qL:=g }
abbrev Hr:aK aZ (List du):= .str (bp (bp (bp (bp (bp (bp c6)))))) 6 aZ.eo fun b g=>{ b with eo:=g }
abbrev Dz:aK aZ (List e3):= .str (bp (bp (bp (bp (bp (bp (bp c6))))))) 7 aZ.c3 fun b g=>{ b with c3:=g }
abbrev Zr:aK aZ Int:= .str (bp (bp (bp (bp (bp (bp (bp (bp c6)))))))) 8 aZ.Eu fun b g=>{ b with Eu:=g }
abbrev Zx:aK aZ Int:= .str (bp (bp (bp (bp (bp (bp (bp (bp (bp gT))))))))) 9 aZ.EC fun b g=>{ b with EC:=g }
instance:a6 aZ:=⟨a6.cells (List iF)++a6.cells (List l1)++a6.cells (List eW)++a6.cells (List fp)++a6.cells (List ca)++a6.cells (List gW)++a6.cells (List du)++a6.cells (List e3)++a6.cells Int++a6.cells Int,fun A W=>⟨by rfl,a6.ok (α:=List iF) A W,a6.ok (α:=List l1) A W,a6.ok (α:=List eW) A W,a6.ok (α:=List fp) A W,a6.ok (α:=List ca) A W,a6.ok (α:=List gW) A W,a6.ok (α:=List du) A W,a6.ok (α:=List e3) A W,a6.ok (α:=Int) A W,a6.ok (α:=Int) A W⟩⟩
instance Wu:dp prog 32 (default:aZ):= .i
instance bR:bO prog 3 Int:= .i underlying3
instance ao9:cq prog 69 1 aax:= .i underlying69 rfl bR
theorem mixed:prog.follows .mixedOrders=true:=by kernel_rfl
instance asH:Qj prog:=⟨mixed⟩
theorem Wn:bM prog 11:= .i func11
instance asI:nQ prog 5 (.int .u8):=⟨underlying5⟩
instance asJ:nQ prog 3 (.int .i64):=⟨underlying3⟩
theorem gB:bM prog 17:= .i func17
instance ajx:fX prog 32 #[(0,1),(1,1),(2,1),(3,1),(4,1),(5,1),(6,1),(7,1),(8,1),(9,1)]:= .i underlying32
instance iX:bO prog 32 aZ:= .i underlying32
instance arp:dp prog 71 (default:iF):= .i
instance apa:cq prog 71 0 aa1:= .i underlying71 rfl bR
instance q4:bO prog 9 ByteArray:= .i underlying9
instance apb:cq prog 71 1 aay:= .i underlying71 rfl q4
instance apc:cq prog 71 2 aaz:= .i underlying71 rfl bR
instance arq:fX prog 71 #[(0,1),(1,1),(2,1)]:= .i underlying71
instance alO:bO prog 71 iF:= .i underlying71
instance ars:jd prog 23 71 iF:=⟨underlying23,alO⟩
instance Wv:bO prog 23 (List iF):= .i underlying23
instance apd:cq prog 32 0 QM:= .i underlying32 rfl Wv
instance art:jd prog 56 3 Int:=⟨underlying56,bR⟩
instance hY:dp prog 3 (default:Int):= .i
instance aru:dp prog 73 (default:l1):= .i
instance ape:cq prog 73 0 aaN:= .i underlying73 rfl bR
instance apf:cq prog 73 1 aac:= .i underlying73 rfl q4
instance lq:bO prog 56 (List Int):= .i underlying56
instance apg:cq prog 73 2 ZI:= .i underlying73 rfl lq
instance arv:fX prog 73 #[(0,1),(1,1),(2,1)]:= .i underlying73
instance alP:bO prog 73 l1:= .i underlying73
instance arw:jd prog 24 73 l1:=⟨underlying24,alP⟩
instance Ww:bO prog 24 (List l1):= .i underlying24
instance aph:cq prog 32 1 QF:= .i underlying32 rfl Ww
instance U1:dp prog 141 (default:eW):= .i
instance aom:cq prog 141 0 Rf:= .i underlying141 rfl bR
instance aon:cq prog 141 1 QR:= .i underlying141 rfl bR
instance aoo:cq prog 141 2 QS:= .i underlying141 rfl bR
instance aop:cq prog 141 4 QL:= .i underlying141 rfl bR
instance ag2:fX prog 141 #[(0,1),(1,1),(2,1),(3,1),(4,1)]:= .i underlying141
instance U2:bO prog 141 eW:= .i underlying141
instance tN:dp prog 106 (default:aX):= .i
instance u6:bO prog 104 (BitVec 64):= .i underlying104
instance aet:cq prog 106 1 qJ:= .i underlying106 rfl u6
instance BQ:fX prog 106 #[(0,1),(1,1)]:= .i underlying106
instance I8:dp prog 143 (default:iO):= .i
instance hQ:bO prog 106 aX:= .i underlying106
instance aoq:cq prog 143 0 KW:= .i underlying143 rfl hQ
instance aor:cq prog 143 1 K0:= .i underlying143 rfl hQ
instance aos:cq prog 143 2 K1:= .i underlying143 rfl bR
instance U3:fX prog 143 #[(0,2),(2,2),(4,1)]:= .i underlying143
instance Nn:bO prog 143 iO:= .i underlying143
instance apE:jd prog 139 143 iO:=⟨underlying139,Nn⟩
instance I9:bO prog 139 (List iO):= .i underlying139
instance aeo:cq prog 141 3 Hw:= .i underlying141 rfl I9
theorem px:bM prog 27:= .i func27
instance apF:nQ prog 104 (.int .u64):=⟨underlying104⟩
theorem Tq:kf prog 141 [3]:=by unfold kf;kernel_rfl
instance arx:jd prog 25 141 eW:=⟨underlying25,U2⟩
theorem ajy:bM prog 23:= .i func23
instance apG:dp prog 145 (default:jJ):= .i
instance aot:cq prog 145 0 ZX:= .i underlying145 rfl bR
instance apH:fX prog 145 #[(0,1),(1,1),(2,2)]:= .i underlying145
instance ai6:bO prog 145 jJ:= .i underlying145
instance ag3:dp prog 149 (default:fp):= .i
instance aou:cq prog 149 0 aaP:= .i underlying149 rfl bR
instance aov:cq prog 149 1 aad:= .i underlying149 rfl q4
instance apI:fX prog 149 #[(0,1),(1,1),(2,1),(3,1),(4,1)]:= .i underlying149
instance apJ:dp prog 151 (default:jz):= .i
instance aow:cq prog 151 0 aa6:= .i underlying151 rfl bR
instance apK:fX prog 151 #[(0,1),(1,1),(2,4)]:= .i underlying151
instance ai7:bO prog 151 jz:= .i underlying151
instance apL:jd prog 147 151 jz:=⟨underlying147,ai7⟩
instance ai8:bO prog 147 (List jz):= .i underlying147
instance aox:cq prog 149 3 aae:= .i underlying149 rfl ai8
instance ahX:dp prog 153 (default:mn):= .i
instance aoy:cq prog 153 0 aaA:= .i underlying153 rfl q4
instance aeD:cq prog 153 1 Q9:= .i underlying153 rfl bR
instance apM:fX prog 153 #[(0,1),(1,1)]:= .i underlying153
instance Jj:bO prog 153 mn:= .i underlying153
instance apN:jd prog 146 153 mn:=⟨underlying146,Jj⟩
instance aoz:cq prog 151 2 aa3:= .i underlying151 rfl ai6
instance VD:bO prog 146 (List mn):= .i underlying146
instance aoA:cq prog 149 2 QQ:= .i underlying149 rfl VD
instance aoB:cq prog 151 1 aa2:= .i underlying151 rfl bR
instance aoC:cq prog 145 1 aaO:= .i underlying145 rfl bR
instance aoD:cq prog 145 2 ZJ:= .i underlying145 rfl hQ
instance Ja:bO prog 149 fp:= .i underlying149
instance ary:jd prog 26 149 fp:=⟨underlying26,Ja⟩
instance Tr:cq prog 149 4 KI:= .i underlying149 rfl q4
theorem ajz:bM prog 24:= .i func24
instance sD:dp prog 155 (default:dH):= .i
instance aoE:cq prog 155 0 DY:= .i underlying155 rfl q4
instance aoF:cq prog 155 1 DT:= .i underlying155 rfl bR
instance TC:cq prog 155 2 yg:= .i underlying155 rfl bR
instance Jb:fX prog 155 #[(0,1),(1,1),(2,1)]:= .i underlying155
instance sE:bO prog 155 dH:= .i underlying155
instance arz:jd prog 82 155 dH:=⟨underlying82,sE⟩
instance tX:dp prog 84 (default:ca):= .i
instance EX:cq prog 84 0 tu:= .i underlying84 rfl bR
instance xb:bO prog 82 (List dH):= .i underlying82
instance yO:cq prog 84 2 ru:= .i underlying84 rfl xb
instance Uf:cq prog 84 3 x7:= .i underlying84 rfl lq
instance api:cq prog 84 6 DJ:= .i underlying84 rfl bR
instance Ju:fX prog 84 #[(0,1),(1,1),(2,1),(3,1),(4,1),(5,1),(6,1),(7,1)]:= .i underlying84
instance qg:bO prog 84 ca:= .i underlying84
theorem ME:kf prog 84 [2]:=by unfold kf;kernel_rfl
theorem MD:kf prog 84 []:=by unfold kf;kernel_rfl
instance arA:jd prog 50 106 aX:=⟨underlying50,hQ⟩
instance B9:bO prog 50 (List aX):= .i underlying50
instance arB:jd prog 27 84 ca:=⟨underlying27,qg⟩
instance apO:jd prog 156 9 ByteArray:=⟨underlying156,q4⟩
instance asK:dp prog 9 (default:ByteArray):= .i
instance No:bO prog 156 (List ByteArray):= .i underlying156
instance apP:jd prog 157 156 (List ByteArray):=⟨underlying157,No⟩
instance apQ:dp prog 156 (default:List ByteArray):= .i
instance afw:cq prog 84 7 Qv:= .i underlying84 rfl q4
theorem ajA:bM prog 25:= .i func25
instance Wx:bO prog 25 (List eW):= .i underlying25
instance afy:cq prog 32 2 QN:= .i underlying32 rfl Wx
instance Wy:bO prog 26 (List fp):= .i underlying26
instance afz:cq prog 32 3 QG:= .i underlying32 rfl Wy
instance zf:bO prog 27 (List ca):= .i underlying27
instance MF:cq prog 32 4 x8:= .i underlying32 rfl zf
instance B5:dp prog 58 (default:du):= .i
instance afM:cq prog 58 0 D4:= .i underlying58 rfl bR
instance afB:cq prog 58 4 DK:= .i underlying58 rfl bR
instance l9:bO prog 4 Bool:= .i underlying4
instance Ob:fX prog 58 #[(0,1),(1,1),(2,1),(3,1),(4,1),(5,1)]:= .i underlying58
instance vh:bO prog 58 du:= .i underlying58
instance XF:dp prog 4 (default:Bool):= .i
instance ze:bO prog 55 (List fj):= .i underlying55
instance afx:cq prog 58 2 x9:= .i underlying58 rfl ze
instance Np:dp prog 160 (default:fj):= .i
instance aoG:cq prog 160 0 aaf:= .i underlying160 rfl bR
instance aoH:cq prog 160 1 aaB:= .i underlying160 rfl l9
instance aoI:cq prog 160 2 aag:= .i underlying160 rfl l9
instance ai9:bO prog 158 (List Bool):= .i underlying158
instance aoJ:cq prog 160 3 aaC:= .i underlying160 rfl ai9
instance apR:fX prog 160 #[(0,1),(1,1),(2,1),(3,1)]:= .i underlying160
instance Jc:bO prog 160 fj:= .i underlying160
instance arC:jd prog 55 160 fj:=⟨underlying55,Jc⟩
theorem BA:kf prog 58 [2]:=by unfold kf;kernel_rfl
instance arD:jd prog 29 58 du:=⟨underlying29,vh⟩
theorem ajB:bM prog 26:= .i func26
instance B6:bO prog 29 (List du):= .i underlying29
instance MG:cq prog 32 6 Hr:= .i underlying32 rfl B6
instance B7:dp prog 79 (default:gW):= .i
instance apj:cq prog 79 0 Dy:= .i underlying79 rfl bR
instance Jv:fX prog 79 #[(0,1),(1,1)]:= .i underlying79
instance Od:bO prog 79 gW:= .i underlying79
instance arE:jd prog 28 79 gW:=⟨underlying28,Od⟩
instance Jw:bO prog 28 (List gW):= .i underlying28
instance MH:cq prog 32 5 Hm:= .i underlying32 rfl Jw
instance zg:bO prog 30 (List e3):= .i underlying30
instance BB:cq prog 32 7 Dz:= .i underlying32 rfl zg
instance Oe:dp prog 81 (default:e3):= .i
instance apk:cq prog 81 0 aaQ:= .i underlying81 rfl bR
instance apl:cq prog 81 2 aaD:= .i underlying81 rfl bR
instance apm:cq prog 81 4 aah:= .i underlying81 rfl bR
instance arF:fX prog 81 #[(0,1),(1,1),(2,1),(3,1),(4,1),(5,1)]:= .i underlying81
instance Jx:bO prog 81 e3:= .i underlying81
instance arG:jd prog 30 81 e3:=⟨underlying30,Jx⟩
theorem SB:kf prog 32 [5,7]:=by unfold kf;kernel_rfl
instance apn:cq prog 81 1 aa7:= .i underlying81 rfl bR
theorem XT:bM prog 8:= .i func8
structure kr where
 iR:aZ
 qM:eQ
 nt:Int
 deriving DecidableEq,Inhabited
instance:ah kr:= .str (cX aZ (cX eQ (gN Int))) (fun x=>(x.iR,x.qM,x.nt)) 12
abbrev QI:aK kr aZ:= .str c6 0 kr.iR fun b g=>{ b with iR:=g }
abbrev Db:aK kr eQ:= .str (bp c6) 10 kr.qM fun b g=>{ b with qM:=g }
abbrev Ht:aK kr Int:= .str (bp (bp gT)) 11 kr.nt fun b g=>{ b with nt:=g }
instance:a6 kr:=⟨a6.cells aZ++a6.cells eQ++a6.cells Int,fun A W=>⟨by rfl,a6.ok (α:=aZ) A W,a6.ok (α:=eQ) A W,a6.ok (α:=Int) A W⟩⟩
instance ahd:dp prog 163 (default:kr):= .i
instance aoK:cq prog 163 0 QI:= .i underlying163 rfl iX
instance Jd:bO prog 161 eQ:= .i underlying161
instance L7:cq prog 163 1 Db:= .i underlying163 rfl Jd
instance aoL:cq prog 163 2 Ht:= .i underlying163 rfl bR
instance ahc:fX prog 163 #[(0,10),(10,1),(11,1)]:= .i underlying163
theorem agP:bM prog 124:= .i func124
theorem agQ:bM prog 123:= .i func123
structure cx where
 gC:Bool
 ck:aX
 hN:aX
 fZ:Int
 n2:aX
 deriving DecidableEq,Inhabited
instance:ah cx:= .str (cX Bool (cX aX (cX aX (cX Int (gN aX))))) (fun x=>(x.gC,x.ck,x.hN,x.fZ,x.n2)) 8
abbrev Ho:aK cx Bool:= .str c6 0 cx.gC fun b g=>{ b with gC:=g }
abbrev Hx:aK cx aX:= .str (bp c6) 1 cx.ck fun b g=>{ b with ck:=g }
abbrev KY:aK cx aX:= .str (bp (bp c6)) 3 cx.hN fun b g=>{ b with hN:=g }
abbrev Hs:aK cx Int:= .str (bp (bp (bp c6))) 5 cx.fZ fun b g=>{ b with fZ:=g }
abbrev KZ:aK cx aX:= .str (bp (bp (bp (bp gT)))) 6 cx.n2 fun b g=>{ b with n2:=g }
instance:a6 cx:=⟨a6.cells Bool++a6.cells aX++a6.cells aX++a6.cells Int++a6.cells aX,fun A W=>⟨by rfl,a6.ok (α:=Bool) A W,a6.ok (α:=aX) A W,a6.ok (α:=aX) A W,a6.ok (α:=Int) A W,a6.ok (α:=aX) A W⟩⟩
structure bh where
 bB:Int
 cw:List cx
 gJ:Int
 en:Int
 fq:List aX
 deriving DecidableEq,Inhabited
instance:ah bh:= .str (cX Int (cX (List cx) (cX Int (cX Int (gN (List aX)))))) (fun x=>(x.bB,x.cw,x.gJ,x.en,x.fq)) 5
abbrev Az:aK bh Int:= .str c6 0 bh.bB fun b g=>{ b with bB:=g }
abbrev Ap:aK bh (List cx):= .str (bp c6) 1 bh.cw fun b g=>{ b with cw:=g }
abbrev Hj:aK bh Int:= .str (bp (bp c6)) 2 bh.gJ fun b g=>{ b with gJ:=g }
abbrev Dp:aK bh Int:= .str (bp (bp (bp c6))) 3 bh.en fun b g=>{ b with en:=g }
abbrev AH:aK bh (List aX):= .str (bp (bp (bp (bp gT)))) 4 bh.fq fun b g=>{ b with fq:=g }
instance:a6 bh:=⟨a6.cells Int++a6.cells (List cx)++a6.cells Int++a6.cells Int++a6.cells (List aX),fun A W=>⟨by rfl,a6.ok (α:=Int) A W,a6.ok (α:=List cx) A W,a6.ok (α:=Int) A W,a6.ok (α:=Int) A W,a6.ok (α:=List aX) A W⟩⟩
structure aC where
 aY:bh
 b0:Int
 dr:Int
 deriving DecidableEq,Inhabited
instance:ah aC:= .str (cX bh (cX Int (gN Int))) (fun x=>(x.aY,x.b0,x.dr)) 7
abbrev Da:aK aC bh:= .str c6 0 aC.aY fun b g=>{ b with aY:=g }
abbrev Hd:aK aC Int:= .str (bp c6) 5 aC.b0 fun b g=>{ b with b0:=g }
abbrev KN:aK aC Int:= .str (bp (bp gT)) 6 aC.dr fun b g=>{ b with dr:=g }
instance:a6 aC:=⟨a6.cells bh++a6.cells Int++a6.cells Int,fun A W=>⟨by rfl,a6.ok (α:=bh) A W,a6.ok (α:=Int) A W,a6.ok (α:=Int) A W⟩⟩
structure o9 where
 ua:Ref
 deriving DecidableEq,Inhabited
instance:ah o9:= .str (gN Ref) (fun x=>x.ua) 1
abbrev Q3:aK o9 Ref:= .str gT 0 o9.ua fun b g=>{ b with ua:=g }
instance:a6 o9:=⟨a6.cells Ref,fun A W=>⟨by rfl,a6.ok (α:=Ref) A W⟩⟩
structure kV where
 u5:Int
 gR:Int
 qP:eQ
 deriving DecidableEq,Inhabited
instance:ah kV:= .str (cX Int (cX Int (gN eQ))) (fun x=>(x.u5,x.gR,x.qP)) 3
abbrev QE:aK kV Int:= .str c6 0 kV.u5 fun b g=>{ b with u5:=g }
abbrev Hf:aK kV Int:= .str (bp c6) 1 kV.gR fun b g=>{ b with gR:=g }
abbrev Am:aK kV eQ:= .str (bp (bp gT)) 2 kV.qP fun b g=>{ b with qP:=g }
instance:a6 kV:=⟨a6.cells Int++a6.cells Int++a6.cells eQ,fun A W=>⟨by rfl,a6.ok (α:=Int) A W,a6.ok (α:=Int) A W,a6.ok (α:=eQ) A W⟩⟩
structure pa where
 dd:Ref
 deriving DecidableEq,Inhabited
instance:ah pa:= .str (gN Ref) (fun x=>x.dd) 1
abbrev Q4:aK pa Ref:= .str gT 0 pa.dd fun b g=>{ b with dd:=g }
instance:a6 pa:=⟨a6.cells Ref,fun A W=>⟨by rfl,a6.ok (α:=Ref) A W⟩⟩
inductive iq where
 | nil
 | pt (x:o9)
 | pv (x:kV)
 | pw (x:pa)
 deriving DecidableEq,Inhabited
instance:ah iq where
 size:=1
 agg:=false
 rep A W cs x:=match x with
  | .nil=>cs= [.nilIface]
  | .pt x=> ∃ v,cs= [.iface 201 v]∧ (I.of x).holds A W v
  | .pv x=> ∃ v,cs= [.iface 204 v]∧ (I.of x).holds A W v
  | .pw x=> ∃ v,cs= [.iface 208 v]∧ (I.of x).holds A W v
 len {A W cs x} h:=by cases x <;> first | (have h:cs=_:=h;rw [h];rfl) | (obtain⟨v,h,_⟩:=h;rw [h];rfl)
 one {A W cs x} h:=by
  intro u hu;cases x <;> first | (have h:cs=_:=h;rw [h] at hu;rw [List.mem_singleton.1 hu];rfl) | (obtain⟨v,h,_⟩:=h;rw [h] at hu;rw [List.mem_singleton.1 hu];rfl)
 flat _:=rfl
 mono {A W cM W' cs x} e h:=by cases x <;> first | exact h | (obtain⟨v,h,ab⟩:=h;exact⟨v,h,I.mono _ e ab⟩)
instance:a6 iq:=⟨[.nilIface],fun _ _=>rfl⟩
theorem aco {A W v}{x:o9}(h:(I.of x).holds A W v):(I.of (iq.pt x)).holds A W (.iface 201 v):=⟨rfl,v,rfl,h⟩
theorem Lv {A W u}{x:o9}(h:(I.of (iq.pt x)).holds A W u):∃ v,u= .iface 201 v∧ (I.of x).holds A W v:=by
 obtain⟨h1,v,ab,ax⟩:=h;exact⟨v,nV h1 ab,ax⟩
theorem acp {A W v}{x:kV}(h:(I.of x).holds A W v):(I.of (iq.pv x)).holds A W (.iface 204 v):=⟨rfl,v,rfl,h⟩
theorem Lw {A W u}{x:kV}(h:(I.of (iq.pv x)).holds A W u):∃ v,u= .iface 204 v∧ (I.of x).holds A W v:=by
 obtain⟨h1,v,ab,ax⟩:=h;exact⟨v,nV h1 ab,ax⟩
theorem acq {A W v}{x:pa}(h:(I.of x).holds A W v):(I.of (iq.pw x)).holds A W (.iface 208 v):=⟨rfl,v,rfl,h⟩
theorem Ly {A W u}{x:pa}(h:(I.of (iq.pw x)).holds A W u):∃ v,u= .iface 208 v∧ (I.of x).holds A W v:=by
 obtain⟨h1,v,ab,ax⟩:=h;exact⟨v,nV h1 ab,ax⟩
structure j1 where
 uU:Int
 uV:Int
 mL:iq
 oB:eQ
 deriving DecidableEq,Inhabited
instance:ah j1:= .str (cX Int (cX Int (cX iq (gN eQ)))) (fun x=>(x.uU,x.uV,x.mL,x.oB)) 4
abbrev ZK:aK j1 Int:= .str c6 0 j1.uU fun b g=>{ b with uU:=g }
abbrev ZL:aK j1 Int:= .str (bp c6) 1 j1.uV fun b g=>{ b with uV:=g }
abbrev Hh:aK j1 iq:= .str (bp (bp c6)) 2 j1.mL fun b g=>{ b with mL:=g }
abbrev Qx:aK j1 eQ:= .str (bp (bp (bp gT))) 3 j1.oB fun b g=>{ b with oB:=g }
instance:a6 j1:=⟨a6.cells Int++a6.cells Int++a6.cells iq++a6.cells eQ,fun A W=>⟨by rfl,a6.ok (α:=Int) A W,a6.ok (α:=Int) A W,a6.ok (α:=iq) A W,a6.ok (α:=eQ) A W⟩⟩
instance agV:dp prog 197 (default:j1):= .i
instance aja:bO prog 193 eQ:= .i underlying193
instance aoM:cq prog 197 3 Qx:= .i underlying197 rfl aja
instance agU:fX prog 197 #[(0,1),(1,1),(2,1),(3,1)]:= .i underlying197
structure ry where
 tM:eQ
 deriving DecidableEq,Inhabited
instance:ah ry:= .str (gN eQ) (fun x=>x.tM) 1
abbrev QV:aK ry eQ:= .str gT 0 ry.tM fun b g=>{ b with tM:=g }
instance:a6 ry:=⟨a6.cells eQ,fun A W=>⟨by rfl,a6.ok (α:=eQ) A W⟩⟩
instance agH:dp prog 231 (default:ry):= .i
instance ajb:bO prog 229 eQ:= .i underlying229
instance aoN:cq prog 231 0 QV:= .i underlying231 rfl ajb
instance agG:fX prog 231 #[(0,1)]:= .i underlying231
theorem ajs:bM prog 92:= .i func92
instance agX:dp prog 201 (default:o9):= .i
instance ajc:bO prog 198 Ref:= .i underlying198
instance aoO:cq prog 201 0 Q3:= .i underlying201 rfl ajc
instance agW:fX prog 201 #[(0,1)]:= .i underlying201
instance I7:bO prog 195 iq:= .i underlying195
instance aoP:cq prog 197 2 Hh:= .i underlying197 rfl I7
theorem agR:bM prog 126:= .i func126
theorem agS:bM prog 125:= .i func125
instance agZ:dp prog 204 (default:kV):= .i
instance aoQ:cq prog 204 0 QE:= .i underlying204 rfl bR
instance Ty:cq prog 204 1 Hf:= .i underlying204 rfl bR
instance E9:bO prog 202 eQ:= .i underlying202
instance Ix:cq prog 204 2 Am:= .i underlying204 rfl E9
instance agY:fX prog 204 #[(0,1),(1,1),(2,1)]:= .i underlying204
structure eD where
 mr:aZ
 dd:List aC
 deriving DecidableEq,Inhabited
instance:ah eD:= .str (cX aZ (gN (List aC))) (fun x=>(x.mr,x.dd)) 11
abbrev Qw:aK eD aZ:= .str c6 0 eD.mr fun b g=>{ b with mr:=g }
abbrev AF:aK eD (List aC):= .str (bp gT) 10 eD.dd fun b g=>{ b with dd:=g }
instance:a6 eD:=⟨a6.cells aZ++a6.cells (List aC),fun A W=>⟨by rfl,a6.ok (α:=aZ) A W,a6.ok (α:=List aC) A W⟩⟩
instance agJ:dp prog 235 (default:eD):= .i
instance aoR:cq prog 235 0 Qw:= .i underlying235 rfl iX
instance agI:fX prog 235 #[(0,10),(10,1)]:= .i underlying235
theorem ajt:bM prog 94:= .i func94
theorem ado:kf prog 235 [10]:=by unfold kf;kernel_rfl
instance ag1:dp prog 208 (default:pa):= .i
instance ajd:bO prog 205 Ref:= .i underlying205
instance aoS:cq prog 208 0 Q4:= .i underlying208 rfl ajd
instance ag0:fX prog 208 #[(0,1)]:= .i underlying208
theorem ajC:bM prog 57:= .i func57
theorem zr:pX prog 3 Int:=aga underlying3
structure b8 where
 bB:Int
 eY:Int
 ck:aX
 deriving DecidableEq,Inhabited
instance:ah b8:= .str (cX Int (cX Int (gN aX))) (fun x=>(x.bB,x.eY,x.ck)) 4
abbrev As:aK b8 Int:= .str c6 0 b8.bB fun b g=>{ b with bB:=g }
abbrev AB:aK b8 Int:= .str (bp c6) 1 b8.eY fun b g=>{ b with eY:=g }
abbrev Au:aK b8 aX:= .str (bp (bp gT)) 2 b8.ck fun b g=>{ b with ck:=g }
instance:a6 b8:=⟨a6.cells Int++a6.cells Int++a6.cells aX,fun A W=>⟨by rfl,a6.ok (α:=Int) A W,a6.ok (α:=Int) A W,a6.ok (α:=aX) A W⟩⟩
structure ks where
 p3:Int
 p1:Int
 deriving DecidableEq,Inhabited
instance:ah ks:= .str (cX Int (gN Int)) (fun x=>(x.p3,x.p1)) 2
abbrev Dh:aK ks Int:= .str c6 0 ks.p3 fun b g=>{ b with p3:=g }
abbrev C8:aK ks Int:= .str (bp gT) 1 ks.p1 fun b g=>{ b with p1:=g }
instance:a6 ks:=⟨a6.cells Int++a6.cells Int,fun A W=>⟨by rfl,a6.ok (α:=Int) A W,a6.ok (α:=Int) A W⟩⟩
structure p0 where
 mr:aZ
 hW:eQ
 deriving DecidableEq,Inhabited
instance:ah p0:= .str (cX aZ (gN eQ)) (fun x=>(x.mr,x.hW)) 11
abbrev QC:aK p0 aZ:= .str c6 0 p0.mr fun b g=>{ b with mr:=g }
abbrev QD:aK p0 eQ:= .str (bp gT) 10 p0.hW fun b g=>{ b with hW:=g }
instance:a6 p0:=⟨a6.cells aZ++a6.cells eQ,fun A W=>⟨by rfl,a6.ok (α:=aZ) A W,a6.ok (α:=eQ) A W⟩⟩
instance agL:dp prog 168 (default:p0):= .i
instance aoT:cq prog 168 0 QC:= .i underlying168 rfl iX
instance aje:bO prog 166 eQ:= .i underlying166
instance aoU:cq prog 168 1 QD:= .i underlying168 rfl aje
instance agK:fX prog 168 #[(0,10),(10,1)]:= .i underlying168
structure jf where
 mN:List du
 hW:Vector Int 6
 deriving DecidableEq,Inhabited
instance:ah jf:= .str (cX (List du) (gN (Vector Int 6))) (fun x=>(x.mN,x.hW)) 7
abbrev KL:aK jf (List du):= .str c6 0 jf.mN fun b g=>{ b with mN:=g }
abbrev x0:aK jf (Vector Int 6):= .str (bp gT) 1 jf.hW fun b g=>{ b with hW:=g }
instance:a6 jf:=⟨a6.cells (List du)++a6.cells (Vector Int 6),fun A W=>⟨by rfl,a6.ok (α:=List du) A W,a6.ok (α:=Vector Int 6) A W⟩⟩
instance agN:dp prog 171 (default:jf):= .i
instance aes:cq prog 171 0 KL:= .i underlying171 rfl B6
instance agM:fX prog 171 #[(0,1),(1,6)]:= .i underlying171
theorem JA:bM prog 28:= .i func28
theorem WL:bM prog 29:= .i func29
theorem ajJ:bM prog 30:= .i func30
inductive my where
 | nil
 | xr (a0:Ref) (bT:aC) (a2:Int) (a3:Int)
 | vG (a0:Ref) (bT:bh)
 | xt (a0:Ref) (bT:aC)
 deriving DecidableEq,Inhabited
instance:ah my where
 size:=1
 agg:=false
 rep A W cs x:=match x with
  | .nil=>cs= [.nilFunc]
  | .xr a0 bT a2 a3=> ∃ v,cs= [v]∧ (I.lv 69 [I.ptr a0,I.ptr bT,I.ptr a2,I.ptr a3]).holds A W v
  | .vG a0 bT=> ∃ v,cs= [v]∧ (I.lv 75 [I.ptr a0,I.ptr bT]).holds A W v
  | .xt a0 bT=> ∃ v,cs= [v]∧ (I.lv 80 [I.ptr a0,I.ptr bT]).holds A W v
 len {A W cs x} h:=by cases x <;> first | (have h:cs=_:=h;rw [h];rfl) | (obtain⟨v,h,_⟩:=h;rw [h];rfl)
 one {A W cs x} h:=by
  intro u hu;cases x <;> first | (have h:cs=_:=h;rw [h] at hu;rw [List.mem_singleton.1 hu];rfl) | (obtain⟨v,h,fi,rfl,_⟩:=h;rw [h] at hu;rw [List.mem_singleton.1 hu];rfl)
 flat _:=rfl
 mono {A W cM W' cs x} e h:=by cases x <;> first | exact h | (obtain⟨v,h,ab⟩:=h;exact⟨v,h,I.mono _ e ab⟩)
instance:a6 my:=⟨[.nilFunc],fun _ _=>rfl⟩
theorem afO {A W v}{a0:Ref}{bT:aC}{a2:Int}{a3:Int}(h:(I.lv 69 [I.ptr a0,I.ptr bT,I.ptr a2,I.ptr a3]).holds A W v):(I.of (my.xr a0 bT a2 a3)).holds A W v:=by
 obtain⟨fi,rfl,ab⟩:=h;exact⟨rfl,_,rfl,fi,rfl,ab⟩
theorem afS {A W u}{a0:Ref}{bT:aC}{a2:Int}{a3:Int}(h:(I.of (my.xr a0 bT a2 a3)).holds A W u):(I.lv 69 [I.ptr a0,I.ptr bT,I.ptr a2,I.ptr a3]).holds A W u:=by
 obtain⟨h1,v,ab,ax⟩:=h;have e:=nV h1 ab;subst e;exact ax
theorem afR {A W v}{a0:Ref}{bT:bh}(h:(I.lv 75 [I.ptr a0,I.ptr bT]).holds A W v):(I.of (my.vG a0 bT)).holds A W v:=by
 obtain⟨fi,rfl,ab⟩:=h;exact⟨rfl,_,rfl,fi,rfl,ab⟩
theorem afT {A W u}{a0:Ref}{bT:bh}(h:(I.of (my.vG a0 bT)).holds A W u):(I.lv 75 [I.ptr a0,I.ptr bT]).holds A W u:=by
 obtain⟨h1,v,ab,ax⟩:=h;have e:=nV h1 ab;subst e;exact ax
theorem afP {A W v}{a0:Ref}{bT:aC}(h:(I.lv 80 [I.ptr a0,I.ptr bT]).holds A W v):(I.of (my.xt a0 bT)).holds A W v:=by
 obtain⟨fi,rfl,ab⟩:=h;exact⟨rfl,_,rfl,fi,rfl,ab⟩
theorem afU {A W u}{a0:Ref}{bT:aC}(h:(I.of (my.xt a0 bT)).holds A W u):(I.lv 80 [I.ptr a0,I.ptr bT]).holds A W u:=by
 obtain⟨h1,v,ab,ax⟩:=h;have e:=nV h1 ab;subst e;exact ax
structure fe where
 yT:my
 deriving DecidableEq,Inhabited
instance:ah fe:= .str (gN my) (fun x=>x.yT) 1
abbrev QB:aK fe my:= .str gT 0 fe.yT fun b g=>{ b with yT:=g }
instance:a6 fe:=⟨a6.cells my,fun A W=>⟨by rfl,a6.ok (α:=my) A W⟩⟩
structure dV where
 fB:Ref
 ph:Ref
 rE:Ref
 fQ:List fe
 deriving DecidableEq,Inhabited
instance:ah dV:= .str (cX Ref (cX Ref (cX Ref (gN (List fe))))) (fun x=>(x.fB,x.ph,x.rE,x.fQ)) 4
abbrev nm:aK dV Ref:= .str c6 0 dV.fB fun b g=>{ b with fB:=g }
abbrev QJ:aK dV Ref:= .str (bp c6) 1 dV.ph fun b g=>{ b with ph:=g }
abbrev Qy:aK dV Ref:= .str (bp (bp c6)) 2 dV.rE fun b g=>{ b with rE:=g }
abbrev C0:aK dV (List fe):= .str (bp (bp (bp gT))) 3 dV.fQ fun b g=>{ b with fQ:=g }
instance:a6 dV:=⟨a6.cells Ref++a6.cells Ref++a6.cells Ref++a6.cells (List fe),fun A W=>⟨by rfl,a6.ok (α:=Ref) A W,a6.ok (α:=Ref) A W,a6.ok (α:=Ref) A W,a6.ok (α:=List fe) A W⟩⟩
instance ajL:dp prog 93 (default:dV):= .i
instance od:bO prog 85 Ref:= .i underlying85
instance oH:cq prog 93 0 nm:= .i underlying93 rfl od
instance alQ:bO prog 87 Ref:= .i underlying87
instance apo:cq prog 93 1 QJ:= .i underlying93 rfl alQ
instance alR:bO prog 89 Ref:= .i underlying89
instance apq:cq prog 93 2 Qy:= .i underlying93 rfl alR
instance ajK:fX prog 93 #[(0,1),(1,1),(2,1),(3,1)]:= .i underlying93
theorem afF:kf prog 93 [3]:=by unfold kf;kernel_rfl
structure bX where
 e0:aZ
 bK:List aC
 fh:Int
 deriving DecidableEq,Inhabited
instance:ah bX:= .str (cX aZ (cX (List aC) (gN Int))) (fun x=>(x.e0,x.bK,x.fh)) 12
abbrev AL:aK bX aZ:= .str c6 0 bX.e0 fun b g=>{ b with e0:=g }
abbrev uC:aK bX (List aC):= .str (bp c6) 10 bX.bK fun b g=>{ b with bK:=g }
abbrev AM:aK bX Int:= .str (bp (bp gT)) 11 bX.fh fun b g=>{ b with fh:=g }
instance:a6 bX:=⟨a6.cells aZ++a6.cells (List aC)++a6.cells Int,fun A W=>⟨by rfl,a6.ok (α:=aZ) A W,a6.ok (α:=List aC) A W,a6.ok (α:=Int) A W⟩⟩
instance Wm:dp prog 95 (default:bX):= .i
instance MM:cq prog 95 0 AL:= .i underlying95 rfl iX
instance MU:cq prog 95 2 AM:= .i underlying95 rfl bR
instance Wl:fX prog 95 #[(0,10),(10,1),(11,1)]:= .i underlying95
theorem XU:bM prog 9:= .i func9
theorem ako:bM prog 10:= .i func10
instance Jr:dp prog 52 (default:bh):= .i
instance II:cq prog 52 0 Az:= .i underlying52 rfl bR
instance aj6:fX prog 52 #[(0,1),(1,1),(2,1),(3,1),(4,1)]:= .i underlying52
instance eU:bO prog 52 bh:= .i underlying52
instance E4:dp prog 108 (default:cx):= .i
instance aoV:cq prog 106 0 HI:= .i underlying106 rfl u6
instance apS:nQ prog 188 (.int .u64):=⟨underlying188⟩
theorem Ts:Kw prog 106 1 104 1:=⟨_,_,underlying106,rfl,rfl,rfl⟩
instance aoW:cq prog 108 0 Ho:= .i underlying108 rfl l9
instance aoX:cq prog 108 3 Hs:= .i underlying108 rfl bR
instance aoY:cq prog 108 1 Hx:= .i underlying108 rfl hQ
instance aha:fX prog 108 #[(0,1),(1,2),(3,2),(5,1),(6,2)]:= .i underlying108
instance BP:bO prog 108 cx:= .i underlying108
instance aoZ:cq prog 108 2 KY:= .i underlying108 rfl hQ
instance ao0:cq prog 108 4 KZ:= .i underlying108 rfl hQ
instance B8:bO prog 49 (List cx):= .i underlying49
instance IJ:cq prog 52 1 Ap:= .i underlying52 rfl B8
theorem aj7:bM prog 59:= .i func59
instance arH:jd prog 49 108 cx:=⟨underlying49,BP⟩
instance MI:cq prog 52 2 Hj:= .i underlying52 rfl bR
instance IK:cq prog 52 3 Dp:= .i underlying52 rfl bR
theorem aeC:Kw prog 149 2 146 2:=⟨_,_,underlying149,rfl,rfl,rfl⟩
instance EU:cq prog 52 4 AH:= .i underlying52 rfl B9
theorem SF:kf prog 52 [1,4]:=by unfold kf;kernel_rfl
theorem aka:bM prog 31:= .i func31
instance py:bO prog 43 (List aC):= .i underlying43
instance IQ:cq prog 95 1 uC:= .i underlying95 rfl py
instance eZ:bO prog 54 aC:= .i underlying54
instance arI:jd prog 43 54 aC:=⟨underlying43,eZ⟩
instance MK:cq prog 54 0 Da:= .i underlying54 rfl eU
instance rZ:bO prog 36 Ref:= .i underlying36
instance arJ:nQ prog 36 (.pointer 93):=⟨underlying36⟩
instance arK:nQ prog 85 (.pointer 163):=⟨underlying85⟩
instance US:dp prog 164 (default:Ref):= .i
theorem Fs:bM prog 97:= .i func97
instance apT:nQ prog 164 (.pointer 197):=⟨underlying164⟩
instance fC:dp prog 54 (default:aC):= .i
instance aj9:fX prog 54 #[(0,5),(5,1),(6,1)]:= .i underlying54
instance apU:dp prog 132 (default:Vector aX 4):= .i
instance apV:o3 prog 132 4 2:=o3.of underlying132 hQ rfl
instance apW:bO prog 132 (Vector aX 4):= .i underlying132
instance apX:nQ prog 198 (.pointer 231):=⟨underlying198⟩
instance apY:kp aX where
 uniq {A W cs cM W' eP x} h cL:=by
  refine TK h.1 cL.1 ?_;refine EG 0 (ah.size (BitVec 64)) (kp.uniq h.2.1 cL.2.1) ?_;refine EG 1 (ah.size (BitVec 64)) (kp.uniq h.2.2 cL.2.2) ?_;exact TL h.1 cL.1 (by decide)
 plain {A W cs x} h:=by
  intro u hu n;have bq:=yK (o:=0) (s:=ah.size (BitVec 64)) (by simpa using hu);rcases bq with h1 | bq
  ·exact kp.plain h.2.1 u h1 n
  have bq:=yK (s:=ah.size (BitVec 64)) bq;rcases bq with h1 | bq
  ·exact kp.plain h.2.2 u h1 n
  exact Mg h.1 (by rfl) bq
theorem UQ:ma prog 104 (BitVec 64) 1:=aeU (K:= .u64) underlying104
theorem w1:ma prog 106 aX 2:=Ev (k:=1) rfl underlying106 (by kernel_rfl) fun d hd A W xs ys x y al aR=>by
 refine Eq.trans (pc HI u6 rfl (by rfl) UQ (by omega) al aR (pc qJ u6 rfl (by rfl) UQ (by omega) al aR EL)) ?_;congr 1;rw [Bool.eq_iff_iff];simp only [Bool.and_eq_true,decide_eq_true_eq,and_true];cases x;cases y;simp [aK.str,HI,qJ]
theorem agy:ma prog 312 (Vector aX 4) 3:=TE underlying312 hQ w1
theorem Wj:sk prog 104 (BitVec 64) 1:=LC underlying104 rfl
theorem N7:sk prog 106 aX 2:=Sj (k:=1) rfl underlying106 (.cons HI rfl u6 (fun b d A W u x h al=>Wj b d A W u x (by omega) al) (.cons qJ rfl u6 (fun b d A W u x h al=>Wj b d A W u x (by omega) al) (.nil)))
theorem ajf:sk prog 312 (Vector aX 4) 3:=Ul underlying312 hQ N7
theorem I5:pX prog 312 (Vector aX 4):=M5 underlying312 rfl ajf agy rfl rfl
theorem UW:bM prog 214:= .i func214
instance apZ:bO prog 204 kV:= .i underlying204
instance ap0:dp prog 313 (default:Vector aX 4):= .i
instance BS:bO prog 313 (Vector aX 4):= .i underlying313
instance Vt:dp prog 326 (default:Ref):= .i
instance ap1:nQ prog 314 (.pointer 332):=⟨underlying314⟩
structure hl where
 gR:Int
 eX:Ref
 deriving DecidableEq,Inhabited
instance:ah hl:= .str (cX Int (gN Ref)) (fun x=>(x.gR,x.eX)) 2
abbrev DL:aK hl Int:= .str c6 0 hl.gR fun b g=>{ b with gR:=g }
abbrev HD:aK hl Ref:= .str (bp gT) 1 hl.eX fun b g=>{ b with eX:=g }
instance:a6 hl:=⟨a6.cells Int++a6.cells Ref,fun A W=>⟨by rfl,a6.ok (α:=Int) A W,a6.ok (α:=Ref) A W⟩⟩
instance L6:cq prog 332 0 DL:= .i underlying332 rfl bR
theorem agz:prog.eqGuardType prog.depth 106=false:=by kernel_rfl
instance ap2:Ab prog 106 aX 2:=⟨w1,agz,rfl⟩
theorem Vh:bM prog 238:= .i func238
instance gK:bO prog 326 Ref:= .i underlying326
instance aey:cq prog 332 1 HD:= .i underlying332 rfl gK
theorem Nz:bM prog 235:= .i func235
instance Va:bO prog 314 Ref:= .i underlying314
instance ap3:nQ prog 326 (.pointer 330):=⟨underlying326⟩
instance U6:bO prog 328 (Vector Ref 2):= .i underlying328
structure ek where
 dA:Vector Ref 2
 ga:Bool
 kA:Int
 deriving DecidableEq,Inhabited
instance:ah ek:= .str (cX (Vector Ref 2) (cX Bool (gN Int))) (fun x=>(x.dA,x.ga,x.kA)) 4
abbrev Ao:aK ek (Vector Ref 2):= .str c6 0 ek.dA fun b g=>{ b with dA:=g }
abbrev yc:aK ek Bool:= .str (bp c6) 2 ek.ga fun b g=>{ b with ga:=g }
abbrev HH:aK ek Int:= .str (bp (bp gT)) 3 ek.kA fun b g=>{ b with kA:=g }
instance:a6 ek:=⟨a6.cells (Vector Ref 2)++a6.cells Bool++a6.cells Int,fun A W=>⟨by rfl,a6.ok (α:=Vector Ref 2) A W,a6.ok (α:=Bool) A W,a6.ok (α:=Int) A W⟩⟩
instance Iv:cq prog 330 0 Ao:= .i underlying330 rfl U6
instance Nw:o3 prog 328 2 1:=o3.of underlying328 gK rfl
theorem NA:bM prog 242:= .i func242
theorem Vn:bM prog 232:= .i func232
instance EK:cq prog 330 1 yc:= .i underlying330 rfl l9
instance aeq:cq prog 330 2 HH:= .i underlying330 rfl bR
theorem agA:ma prog 313 (Vector aX 4) 3:=TE underlying313 hQ w1
theorem ajg:sk prog 313 (Vector aX 4) 3:=Ul underlying313 hQ N7
theorem y3:pX prog 313 (Vector aX 4):=M5 underlying313 rfl ajg agA rfl rfl
instance E8:dp prog 314 (default:Ref):= .i
theorem Vo:bM prog 223:= .i func223
instance aev:cq prog 235 1 AF:= .i underlying235 rfl py
theorem ahu:bM prog 262:= .i func262
theorem ahC:bM prog 257:= .i func257
instance asL:nQ prog 4 .bool:=⟨underlying4⟩
theorem alS:ma prog 4 Bool 1:=ady underlying4
theorem zp:ma prog 3 Int 1:=TD (K:= .i64) underlying3
theorem agB:ma prog 108 cx 3:=Ev (k:=2) rfl underlying108 (by kernel_rfl) fun d hd A W xs ys x y al aR=>by
 refine Eq.trans (pc Ho l9 rfl (by rfl) alS (by omega) al aR (pc Hx hQ rfl (by rfl) w1 (by omega) al aR (pc KY hQ rfl (by rfl) w1 (by omega) al aR (pc Hs bR rfl (by rfl) zp (by omega) al aR (pc KZ hQ rfl (by rfl) w1 (by omega) al aR EL))))) ?_;congr 1;rw [Bool.eq_iff_iff];simp only [Bool.and_eq_true,decide_eq_true_eq,and_true];cases x;cases y;simp [aK.str,Ho,Hx,KY,Hs,KZ]
theorem agC:prog.eqGuardType prog.depth 108=false:=by kernel_rfl
instance ap4:Ab prog 108 cx 3:=⟨agB,agC,rfl⟩
instance Ud:cq prog 54 1 Hd:= .i underlying54 rfl bR
theorem ajh:bM prog 210:= .i func210
theorem acv:k8 prog 201 "matchguard/index.find" 210:=k8.vQ (by kernel_rfl) underlying201 rfl ajh
theorem aji:bM prog 218:= .i func218
theorem acw:k8 prog 204 "matchguard/index.find" 218:=k8.vQ (by kernel_rfl) underlying204 rfl aji
theorem ajj:bM prog 253:= .i func253
theorem acx:k8 prog 208 "matchguard/index.find" 253:=k8.vQ (by kernel_rfl) underlying208 rfl ajj
theorem ahS:bM prog 127:= .i func127
theorem Oi:bM prog 98:= .i func98
theorem aj8:bM prog 99:= .i func99
theorem ahY:bM prog 100:= .i func100
instance afQ:cq prog 54 2 KN:= .i underlying54 rfl bR
theorem ag9:bM prog 216:= .i func216
instance ag5:dp prog 332 (default:hl):= .i
instance ag4:fX prog 332 #[(0,1),(1,1)]:= .i underlying332
theorem ahH:bM prog 228:= .i func228
instance Vr:dp prog 330 (default:ek):= .i
instance Vq:fX prog 330 #[(0,2),(2,1),(3,1)]:= .i underlying330
theorem ahG:bM prog 229:= .i func229
theorem U7:bM prog 273:= .i func273
theorem U8:bM prog 272:= .i func272
theorem Vf:bM prog 265:= .i func265
theorem ahl:bM prog 283:= .i func283
theorem ahk:bM prog 282:= .i func282
theorem ahK:bM prog 266:= .i func266
theorem ahL:bM prog 267:= .i func267
theorem ahM:bM prog 268:= .i func268
theorem ahP:bM prog 260:= .i func260
theorem ajk:bM prog 212:= .i func212
theorem acy:k8 prog 201 "matchguard/index.put" 212:=k8.vQ (by kernel_rfl) underlying201 rfl ajk
theorem ajl:bM prog 220:= .i func220
theorem acz:k8 prog 204 "matchguard/index.put" 220:=k8.vQ (by kernel_rfl) underlying204 rfl ajl
theorem ajm:bM prog 255:= .i func255
theorem acA:k8 prog 208 "matchguard/index.put" 255:=k8.vQ (by kernel_rfl) underlying208 rfl ajm
theorem NM:bM prog 101:= .i func101
theorem W2:bM prog 62:= .i func62
theorem WZ:bM prog 63:= .i func63
instance arL:nQ prog 89 (.pointer 171):=⟨underlying89⟩
theorem U9:bM prog 102:= .i func102
instance ajn:bO prog 169 (Vector Int 6):= .i underlying169
instance Bt:cq prog 171 1 x0:= .i underlying171 rfl ajn
instance BT:o3 prog 169 6 1:=o3.of underlying169 bR rfl
theorem W0:bM prog 64:= .i func64
theorem ahh:bM prog 217:= .i func217
instance ap5:jd prog 336 326 Ref:=⟨underlying336,gK⟩
instance ahN:dp prog 336 (default:List Ref):= .i
instance ajR:dp prog 56 (default:List Int):= .i
instance w3:bO prog 336 (List Ref):= .i underlying336
theorem aez:kf prog 336 [0]:=by unfold kf;kernel_rfl
theorem afL:kf prog 56 [0]:=by unfold kf;kernel_rfl
instance ag6:dp prog 328 (default:Vector Ref 2):= .i
theorem afA:prog.eqGuardType prog.depth 328=false:=by kernel_rfl
theorem Vu:bM prog 239:= .i func239
theorem ahQ:bM prog 230:= .i func230
structure e2 where
 ck:aX
 yE:Int
 bU:Int
 deriving DecidableEq,Inhabited
instance:ah e2:= .str (cX aX (cX Int (gN Int))) (fun x=>(x.ck,x.yE,x.bU)) 4
abbrev Zz:aK e2 aX:= .str c6 0 e2.ck fun b g=>{ b with ck:=g }
abbrev Zt:aK e2 Int:= .str (bp c6) 2 e2.yE fun b g=>{ b with yE:=g }
abbrev aan:aK e2 Int:= .str (bp (bp gT)) 3 e2.bU fun b g=>{ b with bU:=g }
instance:a6 e2:=⟨a6.cells aX++a6.cells Int++a6.cells Int,fun A W=>⟨by rfl,a6.ok (α:=aX) A W,a6.ok (α:=Int) A W,a6.ok (α:=Int) A W⟩⟩
instance ahm:dp prog 337 (default:List e2):= .i
instance Nq:bO prog 337 (List e2):= .i underlying337
instance Nr:dp prog 342 (default:e2):= .i
instance ag8:fX prog 342 #[(0,2),(2,1),(3,1)]:= .i underlying342
instance Ns:bO prog 342 e2:= .i underlying342
instance ap6:jd prog 337 342 e2:=⟨underlying337,Ns⟩
theorem ahg:bM prog 246:= .i func246
theorem Nx:bM prog 248:= .i func248
theorem aeu:kf prog 337 [0]:=by unfold kf;kernel_rfl
theorem aho:bM prog 245:= .i func245
theorem ahz:bM prog 240:= .i func240
theorem ahR:bM prog 231:= .i func231
theorem ahi:bM prog 269:= .i func269
theorem ahp:bM prog 261:= .i func261
theorem ajo:bM prog 213:= .i func213
theorem acB:k8 prog 201 "matchguard/index.remove" 213:=k8.vQ (by kernel_rfl) underlying201 rfl ajo
theorem ajp:bM prog 221:= .i func221
theorem acC:k8 prog 204 "matchguard/index.remove" 221:=k8.vQ (by kernel_rfl) underlying204 rfl ajp
theorem ajq:bM prog 256:= .i func256
theorem acD:k8 prog 208 "matchguard/index.remove" 256:=k8.vQ (by kernel_rfl) underlying208 rfl ajq
theorem ahZ:bM prog 103:= .i func103
theorem Fw:bM prog 65:= .i func65
theorem W1:bM prog 66:= .i func66
instance arM:nQ prog 87 (.pointer 168):=⟨underlying87⟩
instance apr:cq prog 81 5 aaS:= .i underlying81 rfl bR
instance E6:dp prog 124 (default:b8):= .i
instance Tz:cq prog 124 0 As:= .i underlying124 rfl bR
instance TA:cq prog 124 1 AB:= .i underlying124 rfl bR
instance TB:cq prog 124 2 Au:= .i underlying124 rfl hQ
instance ap7:fX prog 124 #[(0,1),(1,1),(2,2)]:= .i underlying124
instance u7:bO prog 124 b8:= .i underlying124
instance ap8:jd prog 115 124 b8:=⟨underlying115,u7⟩
instance aps:cq prog 81 3 aaR:= .i underlying81 rfl bR
instance ap9:kp b8 where
 uniq {A W cs cM W' eP x} h cL:=by
  refine TK h.1 cL.1 ?_;refine EG 0 (ah.size Int) (kp.uniq h.2.1 cL.2.1) ?_;refine EG 1 (ah.size Int) (kp.uniq h.2.2.1 cL.2.2.1) ?_;refine EG 2 (ah.size aX) (kp.uniq h.2.2.2 cL.2.2.2) ?_;exact TL h.1 cL.1 (by decide)
 plain {A W cs x} h:=by
  intro u hu n;have bq:=yK (o:=0) (s:=ah.size Int) (by simpa using hu);rcases bq with h1 | bq
  ·exact kp.plain h.2.1 u h1 n
  have bq:=yK (s:=ah.size Int) bq;rcases bq with h1 | bq
  ·exact kp.plain h.2.2.1 u h1 n
  have bq:=yK (s:=ah.size aX) bq;rcases bq with h1 | bq
  ·exact kp.plain h.2.2.2 u h1 n
  exact Mg h.1 (by rfl) bq
theorem UR:ma prog 124 b8 3:=Ev (k:=2) rfl underlying124 (by kernel_rfl) fun d hd A W xs ys x y al aR=>by
 refine Eq.trans (pc As bR rfl (by rfl) zp (by omega) al aR (pc AB bR rfl (by rfl) zp (by omega) al aR (pc Au hQ rfl (by rfl) w1 (by omega) al aR EL))) ?_;congr 1;rw [Bool.eq_iff_iff];simp only [Bool.and_eq_true,decide_eq_true_eq,and_true];cases x;cases y;simp [aK.str,As,AB,Au]
theorem YH:sk prog 3 Int 1:=LC underlying3 rfl
theorem ajr:sk prog 124 b8 3:=Sj (k:=2) rfl underlying124 (.cons As rfl bR (fun b d A W u x h al=>YH b d A W u x (by omega) al) (.cons AB rfl bR (fun b d A W u x h al=>YH b d A W u x (by omega) al) (.cons Au rfl hQ (fun b d A W u x h al=>N7 b d A W u x (by omega) al) (.nil))))
theorem Nv:pX prog 124 b8:=M5 underlying124 rfl ajr UR rfl rfl
instance ahe:dp prog 217 (default:ks):= .i
instance aqa:bO prog 217 ks:= .i underlying217
instance Tu:cq prog 217 0 Dh:= .i underlying217 rfl bR
instance Tv:cq prog 217 1 C8:= .i underlying217 rfl bR
instance aqb:fX prog 217 #[(0,1),(1,1)]:= .i underlying217
theorem agD:ma prog 217 ks 2:=Ev (k:=1) rfl underlying217 (by kernel_rfl) fun d hd A W xs ys x y al aR=>by
 refine Eq.trans (pc Dh bR rfl (by rfl) zp (by omega) al aR (pc C8 bR rfl (by rfl) zp (by omega) al aR EL)) ?_;congr 1;rw [Bool.eq_iff_iff];simp only [Bool.and_eq_true,decide_eq_true_eq,and_true];cases x;cases y;simp [aK.str,Dh,C8]
theorem agE:prog.eqGuardType prog.depth 217=false:=by kernel_rfl
instance aqc:Ab prog 217 ks 2:=⟨agD,agE,rfl⟩
theorem Vg:bM prog 130:= .i func130
theorem agF:prog.eqGuardType prog.depth 124=false:=by kernel_rfl
instance aqd:Ab prog 124 b8 3:=⟨UR,agF,rfl⟩
theorem ahj:bM prog 148:= .i func148
theorem Vl:bM prog 104:= .i func104
theorem Oj:bM prog 67:= .i func67
instance vi:bO prog 91 (List fe):= .i underlying91
instance afv:cq prog 93 3 C0:= .i underlying93 rfl vi
instance agO:dp prog 110 (default:fe):= .i
instance XS:bO prog 1 my:= .i underlying1
instance aeE:cq prog 110 0 QB:= .i underlying110 rfl XS
instance aqe:fX prog 110 #[(0,1)]:= .i underlying110
instance I4:bO prog 110 fe:= .i underlying110
instance arN:jd prog 91 110 fe:=⟨underlying91,I4⟩
theorem Ol:bM prog 68:= .i func68
theorem Ft:bM prog 16:= .i func16
instance UX:dp prog 213 (default:Vector (List Int) 6):= .i
instance rL:o3 prog 213 6 1:=o3.of underlying213 lq rfl
theorem aaU:kf prog 213 [0,1,2,3,4,5]:=by unfold kf;kernel_rfl
instance aqf:bO prog 213 (Vector (List Int) 6):= .i underlying213
theorem Fq:bM prog 76:= .i func76
instance Vc:dp prog 271 (default:Vector Bool 128):= .i
instance Ny:o3 prog 271 128 1:=o3.of underlying271 l9 rfl
instance Vd:bO prog 271 (Vector Bool 128):= .i underlying271
theorem Oh:bM prog 77:= .i func77
theorem WS:bM prog 44:= .i func44
theorem ahF:bM prog 110:= .i func110
theorem WT:bM prog 79:= .i func79
theorem ajS:bM prog 72:= .i func72
theorem WV:bM prog 50:= .i func50
instance arO:bO prog 95 bX:= .i underlying95
theorem On:bM prog 32:= .i func32
theorem akd:bM prog 33:= .i func33
theorem VL:bM prog 107:= .i func107
theorem Om:bM prog 70:= .i func70
theorem W4:bM prog 74:= .i func74
theorem ake:bM prog 34:= .i func34
theorem WU:bM prog 78:= .i func78
theorem akf:bM prog 35:= .i func35
theorem W3:bM prog 71:= .i func71
theorem akg:bM prog 36:= .i func36
theorem akh:bM prog 37:= .i func37
theorem akr:bM prog 12:= .i func12
theorem Of:bM prog 38:= .i func38
theorem aht:bM prog 116:= .i func116
theorem ahr:bM prog 154:= .i func154
theorem ahq:bM prog 153:= .i func153
theorem ahs:bM prog 155:= .i func155
theorem ahA:bM prog 135:= .i func135
theorem ahB:bM prog 136:= .i func136
theorem ahO:bM prog 111:= .i func111
theorem WW:bM prog 82:= .i func82
theorem ajT:bM prog 39:= .i func39
theorem ajG:bM prog 83:= .i func83
theorem Fv:bM prog 13:= .i func13
theorem Cb:bM prog 41:= .i func41
theorem ajU:bM prog 43:= .i func43
structure gV where
 cI:b8
 hM:Int
 hC:Int
 deriving DecidableEq,Inhabited
instance:ah gV:= .str (cX b8 (cX Int (gN Int))) (fun x=>(x.cI,x.hM,x.hC)) 6
abbrev Hq:aK gV b8:= .str c6 0 gV.cI fun b g=>{ b with cI:=g }
abbrev QP:aK gV Int:= .str (bp c6) 4 gV.hM fun b g=>{ b with hM:=g }
abbrev Qz:aK gV Int:= .str (bp (bp gT)) 5 gV.hC fun b g=>{ b with hC:=g }
instance:a6 gV:=⟨a6.cells b8++a6.cells Int++a6.cells Int,fun A W=>⟨by rfl,a6.ok (α:=b8) A W,a6.ok (α:=Int) A W,a6.ok (α:=Int) A W⟩⟩
instance Vj:dp prog 126 (default:gV):= .i
instance Mc:cq prog 126 0 Hq:= .i underlying126 rfl u7
instance aeA:cq prog 126 1 QP:= .i underlying126 rfl bR
instance aeB:cq prog 126 2 Qz:= .i underlying126 rfl bR
instance aqg:fX prog 126 #[(0,4),(4,1),(5,1)]:= .i underlying126
instance E7:bO prog 126 gV:= .i underlying126
instance aqh:jd prog 113 126 gV:=⟨underlying113,E7⟩
theorem ahv:bM prog 112:= .i func112
theorem ahw:bM prog 113:= .i func113
theorem WN:bM prog 84:= .i func84
theorem ajV:bM prog 45:= .i func45
theorem ajM:bM prog 85:= .i func85
theorem ajW:bM prog 46:= .i func46
structure iN where
 n0:Int
 uQ:Int
 deriving DecidableEq,Inhabited
instance:ah iN:= .str (cX Int (gN Int)) (fun x=>(x.n0,x.uQ)) 2
abbrev KV:aK iN Int:= .str c6 0 iN.n0 fun b g=>{ b with n0:=g }
abbrev QU:aK iN Int:= .str (bp gT) 1 iN.uQ fun b g=>{ b with uQ:=g }
instance:a6 iN:=⟨a6.cells Int++a6.cells Int,fun A W=>⟨by rfl,a6.ok (α:=Int) A W,a6.ok (α:=Int) A W⟩⟩
instance WI:dp prog 48 (default:iN):= .i
instance Ue:cq prog 48 0 KV:= .i underlying48 rfl bR
instance afN:cq prog 48 1 QU:= .i underlying48 rfl bR
instance arP:fX prog 48 #[(0,1),(1,1)]:= .i underlying48
instance Fo:bO prog 48 iN:= .i underlying48
instance arQ:jd prog 45 48 iN:=⟨underlying45,Fo⟩
theorem ajH:bM prog 40:= .i func40
theorem ajX:bM prog 14:= .i func14
structure eI where
 bB:Int
 eY:Int
 ck:aX
 deriving DecidableEq,Inhabited
instance:ah eI:= .str (cX Int (cX Int (gN aX))) (fun x=>(x.bB,x.eY,x.ck)) 4
abbrev Df:aK eI Int:= .str c6 0 eI.bB fun b g=>{ b with bB:=g }
abbrev Dt:aK eI Int:= .str (bp c6) 1 eI.eY fun b g=>{ b with eY:=g }
abbrev Dg:aK eI aX:= .str (bp (bp gT)) 2 eI.ck fun b g=>{ b with ck:=g }
instance:a6 eI:=⟨a6.cells Int++a6.cells Int++a6.cells aX,fun A W=>⟨by rfl,a6.ok (α:=Int) A W,a6.ok (α:=Int) A W,a6.ok (α:=aX) A W⟩⟩
structure eF where
 cI:eI
 hM:Int
 hC:Int
 deriving DecidableEq,Inhabited
instance:ah eF:= .str (cX eI (cX Int (gN Int))) (fun x=>(x.cI,x.hM,x.hC)) 6
abbrev Dc:aK eF eI:= .str c6 0 eF.cI fun b g=>{ b with cI:=g }
abbrev Dd:aK eF Int:= .str (bp c6) 4 eF.hM fun b g=>{ b with hM:=g }
abbrev C5:aK eF Int:= .str (bp (bp gT)) 5 eF.hC fun b g=>{ b with hC:=g }
instance:a6 eF:=⟨a6.cells eI++a6.cells Int++a6.cells Int,fun A W=>⟨by rfl,a6.ok (α:=eI) A W,a6.ok (α:=Int) A W,a6.ok (α:=Int) A W⟩⟩
instance aqi:jd prog 121 52 bh:=⟨underlying121,eU⟩
instance BN:dp prog 127 (default:eI):= .i
instance ao1:cq prog 127 0 Df:= .i underlying127 rfl bR
instance ao2:cq prog 127 1 Dt:= .i underlying127 rfl bR
instance ao3:cq prog 127 2 Dg:= .i underlying127 rfl hQ
instance Vw:fX prog 127 #[(0,1),(1,1),(2,2)]:= .i underlying127
instance oJ:bO prog 127 eI:= .i underlying127
instance aqj:jd prog 119 127 eI:=⟨underlying119,oJ⟩
instance n5:bO prog 129 eF:= .i underlying129
instance aqk:jd prog 117 129 eF:=⟨underlying117,n5⟩
instance L8:cq prog 129 0 Dc:= .i underlying129 rfl oJ
theorem ahx:bM prog 141:= .i func141
theorem IM:ma prog 127 eI 3:=Ev (k:=2) rfl underlying127 (by kernel_rfl) fun d hd A W xs ys x y al aR=>by
 refine Eq.trans (pc Df bR rfl (by rfl) zp (by omega) al aR (pc Dt bR rfl (by rfl) zp (by omega) al aR (pc Dg hQ rfl (by rfl) w1 (by omega) al aR EL))) ?_;congr 1;rw [Bool.eq_iff_iff];simp only [Bool.and_eq_true,decide_eq_true_eq,and_true];cases x;cases y;simp [aK.str,Df,Dt,Dg]
theorem IN:prog.eqGuardType prog.depth 127=false:=by kernel_rfl
instance aql:Ab prog 127 eI 3:=⟨IM,IN,rfl⟩
instance L9:cq prog 129 1 Dd:= .i underlying129 rfl bR
instance Ma:cq prog 129 2 C5:= .i underlying129 rfl bR
instance BW:dp prog 129 (default:eF):= .i
instance ahy:fX prog 129 #[(0,4),(4,1),(5,1)]:= .i underlying129
theorem Vm:bM prog 118:= .i func118
theorem WQ:bM prog 49:= .i func49
theorem ajY:bM prog 47:= .i func47
theorem Oo:bM prog 20:= .i func20
theorem Fx:bM prog 21:= .i func21
theorem aki:bM prog 81:= .i func81
theorem akj:bM prog 69:= .i func69
theorem akk:bM prog 75:= .i func75
theorem akl:bM prog 80:= .i func80
theorem W5:bM prog 18:= .i func18
theorem akv:bM prog 15:= .i func15
instance zh:bO prog 38 (jw bX):= .i underlying38
instance JD:dp prog 38 (default:jw bX):= .i
theorem akp:bM prog 19:= .i func19
inductive Cell where
 | mA (x:dV) (key:Option Nat) (cap:Nat)
 | rX (x:List (Int×Ref))
 | qh (x:kr)
 | rV (x:List (b8×ks))
 | zc (x:p0)
 | rW (x:jf)
 | lP (x:List (Int×aC))
 | ps (x:j1)
 | nB (x:List ((Vector aX 4)×Ref))
 | qe (x:List ((Vector aX 4)×Int))
 | B4 (x:ry)
 | tW (x:eD) (key:Option Nat) (cap:Nat)
 | gE (x:ek)
 | k1 (x:hl)
instance:dU Cell where
 gp p k:=match k with
  | .mA x key cap=>[⟨some p,.ch ({ x with fQ:= [] } :dV) [(3,aJ key x.fQ.length cap)]⟩,⟨key,.row 110 (x.fQ:List fe) cap⟩]
  | .rX x=>[⟨some p,.map x⟩]
  | .qh x=>[⟨some p,.var x⟩]
  | .rV x=>[⟨some p,.map x⟩]
  | .zc x=>[⟨some p,.var x⟩]
  | .rW x=>[⟨some p,.var x⟩]
  | .lP x=>[⟨some p,.map x⟩]
  | .ps x=>[⟨some p,.var x⟩]
  | .nB x=>[⟨some p,.map x⟩]
  | .qe x=>[⟨some p,.map x⟩]
  | .B4 x=>[⟨some p,.var x⟩]
  | .tW x key cap=>[⟨some p,.ch ({ x with dd:= [] } :eD) [(10,aJ key x.dd.length cap)]⟩,⟨key,.row 54 (x.dd:List aC) cap⟩]
  | .gE x=>[⟨some p,.var x⟩]
  | .k1 x=>[⟨some p,.var x⟩]
 root p k:=by cases k <;> exact⟨_,List.mem_cons_self ..,rfl⟩
def gd (hp:aG Cell)(p:Nat):Option (dV×Option Nat×Nat):=match pat hp p with
 | some (.mA x key cap)=>some (x,key,cap)
 | _=>none
theorem iI {hp:aG Cell}{p:Nat}{x:dV×Option Nat×Nat}(h:gd hp p=some x):pat hp p=some (.mA x.1 x.2.1 x.2.2):=by
 unfold gd at h;split at h
 ·rename_i ab;cases h;exact ab
 cases h
instance arR:YZ dV gd (fun x=>{ x.1 with fQ:= [] }) (fun x=>[(3,aJ x.2.1 x.1.fQ.length x.2.2)]):=⟨fun h=>⟨_,_,iI h,rfl⟩⟩
def l4 (hp:aG Cell)(p:Nat):Option (List (Int×Ref)):=match pat hp p with
 | some (.rX x)=>some x
 | _=>none
theorem wO {hp:aG Cell}{p:Nat}{x:List (Int×Ref)}(h:l4 hp p=some x):pat hp p=some (.rX x):=by
 unfold l4 at h;split at h
 ·rename_i ab;cases h;exact ab
 cases h
def jk (hp:aG Cell)(p:Nat):Option kr:=match pat hp p with
 | some (.qh x)=>some x
 | _=>none
theorem sy {hp:aG Cell}{p:Nat}{x:kr}(h:jk hp p=some x):pat hp p=some (.qh x):=by
 unfold jk at h;split at h
 ·rename_i ab;cases h;exact ab
 cases h
instance aqm:xP kr jk:=⟨fun h=>⟨_,sy h,rfl⟩⟩
def pr (hp:aG Cell)(p:Nat):Option (List (b8×ks)):=match pat hp p with
 | some (.rV x)=>some x
 | _=>none
theorem tG {hp:aG Cell}{p:Nat}{x:List (b8×ks)}(h:pr hp p=some x):pat hp p=some (.rV x):=by
 unfold pr at h;split at h
 ·rename_i ab;cases h;exact ab
 cases h
def pq (hp:aG Cell)(p:Nat):Option p0:=match pat hp p with
 | some (.zc x)=>some x
 | _=>none
theorem Nh {hp:aG Cell}{p:Nat}{x:p0}(h:pq hp p=some x):pat hp p=some (.zc x):=by
 unfold pq at h;split at h
 ·rename_i ab;cases h;exact ab
 cases h
instance aqn:xP p0 pq:=⟨fun h=>⟨_,Nh h,rfl⟩⟩
def nz (hp:aG Cell)(p:Nat):Option jf:=match pat hp p with
 | some (.rW x)=>some x
 | _=>none
theorem tD {hp:aG Cell}{p:Nat}{x:jf}(h:nz hp p=some x):pat hp p=some (.rW x):=by
 unfold nz at h;split at h
 ·rename_i ab;cases h;exact ab
 cases h
instance aqo:xP jf nz:=⟨fun h=>⟨_,tD h,rfl⟩⟩
def l5 (hp:aG Cell)(p:Nat):Option (List (Int×aC)):=match pat hp p with
 | some (.lP x)=>some x
 | _=>none
theorem sx {hp:aG Cell}{p:Nat}{x:List (Int×aC)}(h:l5 hp p=some x):pat hp p=some (.lP x):=by
 unfold l5 at h;split at h
 ·rename_i ab;cases h;exact ab
 cases h
def iV (hp:aG Cell)(p:Nat):Option j1:=match pat hp p with
 | some (.ps x)=>some x
 | _=>none
theorem yM {hp:aG Cell}{p:Nat}{x:j1}(h:iV hp p=some x):pat hp p=some (.ps x):=by
 unfold iV at h;split at h
 ·rename_i ab;cases h;exact ab
 cases h
instance aqp:xP j1 iV:=⟨fun h=>⟨_,yM h,rfl⟩⟩
def lp (hp:aG Cell)(p:Nat):Option (List ((Vector aX 4)×Ref)):=match pat hp p with
 | some (.nB x)=>some x
 | _=>none
theorem oG {hp:aG Cell}{p:Nat}{x:List ((Vector aX 4)×Ref)}(h:lp hp p=some x):pat hp p=some (.nB x):=by
 unfold lp at h;split at h
 ·rename_i ab;cases h;exact ab
 cases h
def mQ (hp:aG Cell)(p:Nat):Option (List ((Vector aX 4)×Int)):=match pat hp p with
 | some (.qe x)=>some x
 | _=>none
theorem tC {hp:aG Cell}{p:Nat}{x:List ((Vector aX 4)×Int)}(h:mQ hp p=some x):pat hp p=some (.qe x):=by
 unfold mQ at h;split at h
 ·rename_i ab;cases h;exact ab
 cases h
def ny (hp:aG Cell)(p:Nat):Option ry:=match pat hp p with
 | some (.B4 x)=>some x
 | _=>none
theorem E3 {hp:aG Cell}{p:Nat}{x:ry}(h:ny hp p=some x):pat hp p=some (.B4 x):=by
 unfold ny at h;split at h
 ·rename_i ab;cases h;exact ab
 cases h
instance aqq:xP ry ny:=⟨fun h=>⟨_,E3 h,rfl⟩⟩
def qV (hp:aG Cell)(p:Nat):Option (eD×Option Nat×Nat):=match pat hp p with
 | some (.tW x key cap)=>some (x,key,cap)
 | _=>none
theorem yP {hp:aG Cell}{p:Nat}{x:eD×Option Nat×Nat}(h:qV hp p=some x):pat hp p=some (.tW x.1 x.2.1 x.2.2):=by
 unfold qV at h;split at h
 ·rename_i ab;cases h;exact ab
 cases h
def cK (hp:aG Cell)(p:Nat):Option ek:=match pat hp p with
 | some (.gE x)=>some x
 | _=>none
theorem oF {hp:aG Cell}{p:Nat}{x:ek}(h:cK hp p=some x):pat hp p=some (.gE x):=by
 unfold cK at h;split at h
 ·rename_i ab;cases h;exact ab
 cases h
instance aqr:xP ek cK:=⟨fun h=>⟨_,oF h,rfl⟩⟩
def gm (hp:aG Cell)(p:Nat):Option hl:=match pat hp p with
 | some (.k1 x)=>some x
 | _=>none
theorem wQ {hp:aG Cell}{p:Nat}{x:hl}(h:gm hp p=some x):pat hp p=some (.k1 x):=by
 unfold gm at h;split at h
 ·rename_i ab;cases h;exact ab
 cases h
instance aqs:xP hl gm:=⟨fun h=>⟨_,wQ h,rfl⟩⟩
end Go.Proofs.YtppgfphgdogpeaaGreat
