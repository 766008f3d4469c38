/-
  The types of the data, and facts on their tables. Conditions: none.
-/
import Derived.Test.YtmcjlfmeoehcmaaGreatProg
import Derived.KernelRfl
import Derived.Test.YtmcjlfmeoehcmaaGreatMl1
import Derived.Test.YtmcjlfmeoehcmaaGreatMl2
set_option linter.defProp false
set_option linter.unusedVariables false
set_option linter.unusedSimpArgs false
set_option maxRecDepth 100000
namespace Go.Proofs.YtmcjlfmeoehcmaaGreat
open Go Gv Go.Proofs.Tryz
open Inhabited renaming default->r
open Option renaming some->y,none->E
open J renaming of->B,ptr->C,jn->H
open List renaming length->D
open aG renaming str->G
open nO renaming of->I
open Go.Exit renaming thenS->M
open Bool renaming false->N
structure dB where
 cw:List (BitVec 8)
 du:Int
 deriving DecidableEq,Inhabited
instance:ah dB:=.str (cT (R (cE 8)) (fw Int)) (λx=>(x.cw,x.du)) 2
abbrev aeP:aG dB (R (cE 8)):=.str cW 0 dB.cw λb g=>{b with cw:=g}
abbrev ael:aG dB Int:=.str (bh fD) 1 dB.du λb g=>{b with du:=g}
instance:dH dB:=.str (.b .a)
instance abj:bR prog 5 (cE 8):=.i
instance:gN prog 22 5 (cE 8):=⟨underlying22,abj⟩
instance:dn prog 86 (r:dB):=.i
instance arQ:bR prog 22 (R (cE 8)):=.i
instance:b6 prog 86 0 aeP:=.i underlying86 o arQ
instance:fi prog 86 #[(0,1),(1,1)]:=.i
structure ja where
 cA:Int
 bW:ByteArray
 hz:Int
 deriving DecidableEq,Inhabited
instance:ah ja:=.str (cT Int (cT cC (fw Int))) (λx=>(x.cA,x.bW,x.hz)) 3
abbrev ae7:aG ja Int:=.str cW 0 ja.cA λb g=>{b with cA:=g}
abbrev aem:aG ja cC:=.str (bh cW) 1 ja.bW λb g=>{b with bW:=g}
abbrev aen:aG ja Int:=.str (bh (bh fD)) 2 ja.hz λb g=>{b with hz:=g}
instance:dH ja:=.str (.b (.b .a))
structure mM where
 cA:Int
 bW:ByteArray
 gu:List Int
 deriving DecidableEq,Inhabited
instance:ah mM:=.str (cT Int (cT cC (fw (R Int)))) (λx=>(x.cA,x.bW,x.gu)) 3
abbrev aeQ:aG mM Int:=.str cW 0 mM.cA λb g=>{b with cA:=g}
abbrev adU:aG mM cC:=.str (bh cW) 1 mM.bW λb g=>{b with bW:=g}
abbrev adh:aG mM (R Int):=.str (bh (bh fD)) 2 mM.gu λb g=>{b with gu:=g}
instance:dH mM:=.str (.b (.b .a))
structure aW where
 ep:BitVec 64
 df:BitVec 64
 deriving DecidableEq,Inhabited
instance:ah aW:=.str (cT (cE 64) (fw (cE 64))) (λx=>(x.ep,x.df)) 2
abbrev xu:aG aW (cE 64):=.str cW 0 aW.ep λb g=>{b with ep:=g}
abbrev nj:aG aW (cE 64):=.str (bh fD) 1 aW.df λb g=>{b with df:=g}
instance:dH aW:=.str (.b .a)
structure kO where
 b2:aW
 fZ:aW
 wc:Int
 deriving DecidableEq,Inhabited
instance:ah kO:=.str (cT aW (cT aW (fw Int))) (λx=>(x.b2,x.fZ,x.wc)) 5
abbrev NZ:aG kO aW:=.str cW 0 kO.b2 λb g=>{b with b2:=g}
abbrev Ob:aG kO aW:=.str (bh cW) 2 kO.fZ λb g=>{b with fZ:=g}
abbrev Oc:aG kO Int:=.str (bh (bh fD)) 4 kO.wc λb g=>{b with wc:=g}
instance:dH kO:=.str (.b (.b .a))
structure hl where
 cA:Int
 ln:Int
 xL:Int
 Ah:List kO
 kP:Int
 deriving DecidableEq,Inhabited
instance:ah hl:=.str (cT Int (cT Int (cT Int (cT (R kO) (fw Int))))) (λx=>(x.cA,x.ln,x.xL,x.Ah,x.kP)) 5
abbrev Uf:aG hl Int:=.str cW 0 hl.cA λb g=>{b with cA:=g}
abbrev TM:aG hl Int:=.str (bh cW) 1 hl.ln λb g=>{b with ln:=g}
abbrev TN:aG hl Int:=.str (bh (bh cW)) 2 hl.xL λb g=>{b with xL:=g}
abbrev I2:aG hl (R kO):=.str (bh (bh (bh cW))) 3 hl.Ah λb g=>{b with Ah:=g}
abbrev TE:aG hl Int:=.str (bh (bh (bh (bh fD)))) 4 hl.kP λb g=>{b with kP:=g}
instance:dH hl:=.str (.b (.b (.b (.b .a))))
structure nm where
 bW:ByteArray
 hz:Int
 deriving DecidableEq,Inhabited
instance:ah nm:=.str (cT cC (fw Int)) (λx=>(x.bW,x.hz)) 2
abbrev aeo:aG nm cC:=.str cW 0 nm.bW λb g=>{b with bW:=g}
abbrev T2:aG nm Int:=.str (bh fD) 1 nm.hz λb g=>{b with hz:=g}
instance:dH nm:=.str (.b .a)
structure kA where
 cO:Int
 jm:Int
 b2:aW
 deriving DecidableEq,Inhabited
instance:ah kA:=.str (cT Int (cT Int (fw aW))) (λx=>(x.cO,x.jm,x.b2)) 4
abbrev adA:aG kA Int:=.str cW 0 kA.cO λb g=>{b with cO:=g}
abbrev aeR:aG kA Int:=.str (bh cW) 1 kA.jm λb g=>{b with jm:=g}
abbrev adi:aG kA aW:=.str (bh (bh fD)) 2 kA.b2 λb g=>{b with b2:=g}
instance:dH kA:=.str (.b (.b .a))
structure jG where
 cm:Int
 uX:Int
 wJ:kA
 deriving DecidableEq,Inhabited
instance:ah jG:=.str (cT Int (cT Int (fw kA))) (λx=>(x.cm,x.uX,x.wJ)) 6
abbrev aff:aG jG Int:=.str cW 0 jG.cm λb g=>{b with cm:=g}
abbrev ae8:aG jG Int:=.str (bh cW) 1 jG.uX λb g=>{b with uX:=g}
abbrev ae9:aG jG kA:=.str (bh (bh fD)) 2 jG.wJ λb g=>{b with wJ:=g}
instance:dH jG:=.str (.b (.b .a))
structure eP where
 cA:Int
 bW:ByteArray
 e2:List nm
 xY:List jG
 iZ:ByteArray
 deriving DecidableEq,Inhabited
instance:ah eP:=.str (cT Int (cT cC (cT (R nm) (cT (R jG) (fw cC))))) (λx=>(x.cA,x.bW,x.e2,x.xY,x.iZ)) 5
abbrev aeS:aG eP Int:=.str cW 0 eP.cA λb g=>{b with cA:=g}
abbrev adV:aG eP cC:=.str (bh cW) 1 eP.bW λb g=>{b with bW:=g}
abbrev TH:aG eP (R nm):=.str (bh (bh cW)) 2 eP.e2 λb g=>{b with e2:=g}
abbrev adW:aG eP (R jG):=.str (bh (bh (bh cW))) 3 eP.xY λb g=>{b with xY:=g}
abbrev Ef:aG eP cC:=.str (bh (bh (bh (bh fD)))) 4 eP.iZ λb g=>{b with iZ:=g}
instance:dH eP:=.str (.b (.b (.b (.b .a))))
structure eu where
 bW:ByteArray
 im:Int
 cO:Int
 deriving DecidableEq,Inhabited
instance:ah eu:=.str (cT cC (cT Int (fw Int))) (λx=>(x.bW,x.im,x.cO)) 3
abbrev Fz:aG eu cC:=.str cW 0 eu.bW λb g=>{b with bW:=g}
abbrev Fm:aG eu Int:=.str (bh cW) 1 eu.im λb g=>{b with im:=g}
abbrev vJ:aG eu Int:=.str (bh (bh fD)) 2 eu.cO λb g=>{b with cO:=g}
instance:dH eu:=.str (.b (.b .a))
structure dc where
 cA:Int
 bW:ByteArray
 bS:List eu
 cM:List Int
 kP:Int
 Cg:List aW
 gA:Int
 iZ:ByteArray
 deriving DecidableEq,Inhabited
instance:ah dc:=.str (cT Int (cT cC (cT (R eu) (cT (R Int) (cT Int (cT (R aW) (cT Int (fw cC)))))))) (λx=>(x.cA,x.bW,x.bS,x.cM,x.kP,x.Cg,x.gA,x.iZ)) 8
abbrev xv:aG dc Int:=.str cW 0 dc.cA λb g=>{b with cA:=g}
abbrev Jb:aG dc cC:=.str (bh cW) 1 dc.bW λb g=>{b with bW:=g}
abbrev oC:aG dc (R eu):=.str (bh (bh cW)) 2 dc.bS λb g=>{b with bS:=g}
abbrev zc:aG dc (R Int):=.str (bh (bh (bh cW))) 3 dc.cM λb g=>{b with cM:=g}
abbrev II:aG dc Int:=.str (bh (bh (bh (bh cW)))) 4 dc.kP λb g=>{b with kP:=g}
abbrev acz:aG dc (R aW):=.str (bh (bh (bh (bh (bh cW))))) 5 dc.Cg λb g=>{b with Cg:=g}
abbrev E6:aG dc Int:=.str (bh (bh (bh (bh (bh (bh cW)))))) 6 dc.gA λb g=>{b with gA:=g}
abbrev Il:aG dc cC:=.str (bh (bh (bh (bh (bh (bh (bh fD))))))) 7 dc.iZ λb g=>{b with iZ:=g}
instance:dH dc:=.str (.b (.b (.b (.b (.b (.b (.b .a)))))))
structure iz where
 bZ:Int
 ln:Int
 deriving DecidableEq,Inhabited
instance:ah iz:=.str (cT Int (fw Int)) (λx=>(x.bZ,x.ln)) 2
abbrev EV:aG iz Int:=.str cW 0 iz.bZ λb g=>{b with bZ:=g}
abbrev NL:aG iz Int:=.str (bh fD) 1 iz.ln λb g=>{b with ln:=g}
instance:dH iz:=.str (.b .a)
structure eR where
 bZ:Int
 C3:Bool
 xQ:Bool
 bS:List Bool
 deriving DecidableEq,Inhabited
instance:ah eR:=.str (cT Int (cT aI (cT aI (fw (R aI))))) (λx=>(x.bZ,x.C3,x.xQ,x.bS)) 4
abbrev adX:aG eR Int:=.str cW 0 eR.bZ λb g=>{b with bZ:=g}
abbrev aep:aG eR aI:=.str (bh cW) 1 eR.C3 λb g=>{b with C3:=g}
abbrev adY:aG eR aI:=.str (bh (bh cW)) 2 eR.xQ λb g=>{b with xQ:=g}
abbrev aeq:aG eR (R aI):=.str (bh (bh (bh fD))) 3 eR.bS λb g=>{b with bS:=g}
instance:dH eR:=.str (.b (.b (.b .a)))
structure dX where
 cA:Int
 bW:ByteArray
 iH:List eR
 cM:List Int
 jw:Int
 GJ:Bool
 deriving DecidableEq,Inhabited
instance:ah dX:=.str (cT Int (cT cC (cT (R eR) (cT (R Int) (cT Int (fw aI)))))) (λx=>(x.cA,x.bW,x.iH,x.cM,x.jw,x.GJ)) 6
abbrev Jv:aG dX Int:=.str cW 0 dX.cA λb g=>{b with cA:=g}
abbrev Od:aG dX cC:=.str (bh cW) 1 dX.bW λb g=>{b with bW:=g}
abbrev zg:aG dX (R eR):=.str (bh (bh cW)) 2 dX.iH λb g=>{b with iH:=g}
abbrev IV:aG dX (R Int):=.str (bh (bh (bh cW))) 3 dX.cM λb g=>{b with cM:=g}
abbrev E7:aG dX Int:=.str (bh (bh (bh (bh cW)))) 4 dX.jw λb g=>{b with jw:=g}
abbrev ad6:aG dX aI:=.str (bh (bh (bh (bh (bh fD))))) 5 dX.GJ λb g=>{b with GJ:=g}
instance:dH dX:=.str (.b (.b (.b (.b (.b .a)))))
structure fz where
 bZ:Int
 gB:Int
 dR:Int
 vY:Int
 l8:Int
 ql:Int
 deriving DecidableEq,Inhabited
instance:ah fz:=.str (cT Int (cT Int (cT Int (cT Int (cT Int (fw Int)))))) (λx=>(x.bZ,x.gB,x.dR,x.vY,x.l8,x.ql)) 6
abbrev aeT:aG fz Int:=.str cW 0 fz.bZ λb g=>{b with bZ:=g}
abbrev afg:aG fz Int:=.str (bh cW) 1 fz.gB λb g=>{b with gB:=g}
abbrev aer:aG fz Int:=.str (bh (bh cW)) 2 fz.dR λb g=>{b with dR:=g}
abbrev aeU:aG fz Int:=.str (bh (bh (bh cW))) 3 fz.vY λb g=>{b with vY:=g}
abbrev adZ:aG fz Int:=.str (bh (bh (bh (bh cW)))) 4 fz.l8 λb g=>{b with l8:=g}
abbrev aeV:aG fz Int:=.str (bh (bh (bh (bh (bh fD))))) 5 fz.ql λb g=>{b with ql:=g}
instance:dH fz:=.str (.b (.b (.b (.b (.b .a)))))
structure aU where
 gu:List ja
 oH:List mM
 oJ:List hl
 cM:List eP
 bK:List dc
 xM:List iz
 eo:List dX
 dh:List fz
 kB:Int
 GB:Int
 deriving DecidableEq,Inhabited
instance:ah aU:=.str (cT (R ja) (cT (R mM) (cT (R hl) (cT (R eP) (cT (R dc) (cT (R iz) (cT (R dX) (cT (R fz) (cT Int (fw Int)))))))))) (λx=>(x.gu,x.oH,x.oJ,x.cM,x.bK,x.xM,x.eo,x.dh,x.kB,x.GB)) 10
abbrev TF:aG aU (R ja):=.str cW 0 aU.gu λb g=>{b with gu:=g}
abbrev Tu:aG aU (R mM):=.str (bh cW) 1 aU.oH λb g=>{b with oH:=g}
abbrev TG:aG aU (R hl):=.str (bh (bh cW)) 2 aU.oJ λb g=>{b with oJ:=g}
abbrev xe:aG aU (R eP):=.str (bh (bh (bh cW))) 3 aU.cM λb g=>{b with cM:=g}
abbrev qS:aG aU (R dc):=.str (bh (bh (bh (bh cW)))) 4 aU.bK λb g=>{b with bK:=g}
abbrev IJ:aG aU (R iz):=.str (bh (bh (bh (bh (bh cW))))) 5 aU.xM λb g=>{b with xM:=g}
abbrev TO:aG aU (R dX):=.str (bh (bh (bh (bh (bh (bh cW)))))) 6 aU.eo λb g=>{b with eo:=g}
abbrev EW:aG aU (R fz):=.str (bh (bh (bh (bh (bh (bh (bh cW))))))) 7 aU.dh λb g=>{b with dh:=g}
abbrev Ti:aG aU Int:=.str (bh (bh (bh (bh (bh (bh (bh (bh cW)))))))) 8 aU.kB λb g=>{b with kB:=g}
abbrev ac3:aG aU Int:=.str (bh (bh (bh (bh (bh (bh (bh (bh (bh fD))))))))) 9 aU.GB λb g=>{b with GB:=g}
instance:dH aU:=.str (.b (.b (.b (.b (.b (.b (.b (.b (.b .a)))))))))
instance aaw:dn prog 32 (r:aU):=.i
instance bz:bR prog 3 Int:=.i
instance:b6 prog 86 1 ael:=.i underlying86 o bz
def mixed:prog.follows .mixedOrders=true:=by kernel_rfl
instance:SD prog:=⟨mixed⟩
instance:mD prog 5 (.int .u8):=⟨underlying5⟩
instance:mD prog 3 (.int .i64):=⟨underlying3⟩
instance:b6 prog 32 8 Ti:=.i underlying32 o bz
instance ap8:fi prog 32 #[(0,1),(1,1),(2,1),(3,1),(4,1),(5,1),(6,1),(7,1),(8,1),(9,1)]:=.i
instance n5:bR prog 32 aU:=.i
instance:dn prog 88 (r:ja):=.i
instance:b6 prog 88 0 ae7:=.i underlying88 o bz
instance gR:bR prog 9 cC:=.i
instance:b6 prog 88 1 aem:=.i underlying88 o gR
instance:b6 prog 88 2 aen:=.i underlying88 o bz
instance:fi prog 88 #[(0,1),(1,1),(2,1)]:=.i
instance arR:bR prog 88 ja:=.i
instance:gN prog 23 88 ja:=⟨underlying23,arR⟩
instance aax:bR prog 23 (R ja):=.i
instance:b6 prog 32 0 TF:=.i underlying32 o aax
instance:gN prog 59 3 Int:=⟨underlying59,bz⟩
instance my:dn prog 3 (r:Int):=.i
instance:dn prog 90 (r:mM):=.i
instance:b6 prog 90 0 aeQ:=.i underlying90 o bz
instance:b6 prog 90 1 adU:=.i underlying90 o gR
instance j5:bR prog 59 (R Int):=.i
instance:b6 prog 90 2 adh:=.i underlying90 o j5
instance:fi prog 90 #[(0,1),(1,1),(2,1)]:=.i
instance arS:bR prog 90 mM:=.i
instance:gN prog 24 90 mM:=⟨underlying24,arS⟩
instance aay:bR prog 24 (R mM):=.i
instance:b6 prog 32 1 Tu:=.i underlying32 o aay
instance Y2:dn prog 159 (r:hl):=.i
instance:b6 prog 159 0 Uf:=.i underlying159 o bz
instance:b6 prog 159 1 TM:=.i underlying159 o bz
instance:b6 prog 159 2 TN:=.i underlying159 o bz
instance:b6 prog 159 4 TE:=.i underlying159 o bz
instance amO:fi prog 159 #[(0,1),(1,1),(2,1),(3,1),(4,1)]:=.i
instance Y3:bR prog 159 hl:=.i
instance mS:dn prog 105 (r:aW):=.i
instance ki:bR prog 103 (cE 64):=.i
instance KT:b6 prog 105 1 nj:=.i underlying105 o ki
instance wA:fi prog 105 #[(0,1),(1,1)]:=.i
instance LG:dn prog 161 (r:kO):=.i
instance e3:bR prog 105 aW:=.i
instance:b6 prog 161 0 NZ:=.i underlying161 o e3
instance:b6 prog 161 1 Ob:=.i underlying161 o e3
instance:b6 prog 161 2 Oc:=.i underlying161 o bz
instance Y4:fi prog 161 #[(0,2),(2,2),(4,1)]:=.i
instance QQ:bR prog 161 kO:=.i
instance:gN prog 157 161 kO:=⟨underlying157,QQ⟩
instance LH:bR prog 157 (R kO):=.i
instance ajN:b6 prog 159 3 I2:=.i underlying159 o LH
instance:mD prog 103 (.int .u64):=⟨underlying103⟩
def Xu:iP prog 159 [3]:=by unfold iP;kernel_rfl
instance:gN prog 25 159 hl:=⟨underlying25,Y3⟩
instance:dn prog 163 (r:kA):=.i
instance:b6 prog 163 0 adA:=.i underlying163 o bz
instance:fi prog 163 #[(0,1),(1,1),(2,2)]:=.i
instance apC:bR prog 163 kA:=.i
instance amP:dn prog 167 (r:eP):=.i
instance:b6 prog 167 0 aeS:=.i underlying167 o bz
instance:b6 prog 167 1 adV:=.i underlying167 o gR
instance:fi prog 167 #[(0,1),(1,1),(2,1),(3,1),(4,1)]:=.i
instance:dn prog 169 (r:jG):=.i
instance:b6 prog 169 0 aff:=.i underlying169 o bz
instance:fi prog 169 #[(0,1),(1,1),(2,4)]:=.i
instance apD:bR prog 169 jG:=.i
instance:gN prog 165 169 jG:=⟨underlying165,apD⟩
instance apE:bR prog 165 (R jG):=.i
instance:b6 prog 167 3 adW:=.i underlying167 o apE
instance am6:dn prog 171 (r:nm):=.i
instance:b6 prog 171 0 aeo:=.i underlying171 o gR
instance ajP:b6 prog 171 1 T2:=.i underlying171 o bz
instance:fi prog 171 #[(0,1),(1,1)]:=.i
instance LL:bR prog 171 nm:=.i
instance:gN prog 164 171 nm:=⟨underlying164,LL⟩
instance:b6 prog 169 2 ae9:=.i underlying169 o apC
instance Y7:bR prog 164 (R nm):=.i
instance:b6 prog 167 2 TH:=.i underlying167 o Y7
instance:b6 prog 169 1 ae8:=.i underlying169 o bz
instance:b6 prog 163 1 aeR:=.i underlying163 o bz
instance:b6 prog 163 2 adi:=.i underlying163 o e3
instance qs:bR prog 167 eP:=.i
instance:gN prog 26 167 eP:=⟨underlying26,qs⟩
instance KV:b6 prog 167 4 Ef:=.i underlying167 o gR
instance tA:dn prog 173 (r:eu):=.i
instance:b6 prog 173 0 Fz:=.i underlying173 o gR
instance:b6 prog 173 1 Fm:=.i underlying173 o bz
instance KW:b6 prog 173 2 vJ:=.i underlying173 o bz
instance LI:fi prog 173 #[(0,1),(1,1),(2,1)]:=.i
instance pG:bR prog 173 eu:=.i
instance:gN prog 62 173 eu:=⟨underlying62,pG⟩
instance tE:dn prog 64 (r:dc):=.i
instance alj:b6 prog 64 0 xv:=.i underlying64 o bz
instance sF:bR prog 62 (R eu):=.i
instance ts:b6 prog 64 2 oC:=.i underlying64 o sF
instance Yk:b6 prog 64 3 zc:=.i underlying64 o j5
instance:b6 prog 64 6 E6:=.i underlying64 o bz
instance L8:fi prog 64 #[(0,1),(1,1),(2,1),(3,1),(4,1),(5,1),(6,1),(7,1)]:=.i
instance kl:bR prog 64 dc:=.i
def Qs:iP prog 64 [2]:=by unfold iP;kernel_rfl
def Qr:iP prog 64 []:=by unfold iP;kernel_rfl
instance:gN prog 46 105 aW:=⟨underlying46,e3⟩
instance u7:bR prog 46 (R aW):=.i
instance:gN prog 27 64 dc:=⟨underlying27,kl⟩
instance:gN prog 174 9 cC:=⟨underlying174,gR⟩
instance:dn prog 9 (r:cC):=.i
instance QR:bR prog 174 (R cC):=.i
instance:gN prog 175 174 (R cC):=⟨underlying175,QR⟩
instance:dn prog 174 (r:R cC):=.i
instance Qt:b6 prog 64 7 Il:=.i underlying64 o gR
instance aaz:bR prog 25 (R hl):=.i
instance alh:b6 prog 32 2 TG:=.i underlying32 o aaz
instance yr:bR prog 26 (R eP):=.i
instance Am:b6 prog 32 3 xe:=.i underlying32 o yr
instance rz:bR prog 27 (R dc):=.i
instance we:b6 prog 32 4 qS:=.i underlying32 o rz
instance Dt:dn prog 68 (r:dX):=.i
instance:b6 prog 68 0 Jv:=.i underlying68 o bz
instance:b6 prog 68 3 IV:=.i underlying68 o j5
instance alo:b6 prog 68 4 E7:=.i underlying68 o bz
instance hv:bR prog 4 aI:=.i
instance RH:fi prog 68 #[(0,1),(1,1),(2,1),(3,1),(4,1),(5,1)]:=.i
instance yq:bR prog 68 dX:=.i
instance:gN prog 176 4 aI:=⟨underlying176,hv⟩
instance Mx:dn prog 4 (r:aI):=.i
instance AF:bR prog 66 (R eR):=.i
instance alg:b6 prog 68 2 zg:=.i underlying68 o AF
instance QS:dn prog 178 (r:eR):=.i
instance:b6 prog 178 0 adX:=.i underlying178 o bz
instance:b6 prog 178 1 aep:=.i underlying178 o hv
instance:b6 prog 178 2 adY:=.i underlying178 o hv
instance apF:bR prog 176 (R aI):=.i
instance:b6 prog 178 3 aeq:=.i underlying178 o apF
instance:fi prog 178 #[(0,1),(1,1),(2,1),(3,1)]:=.i
instance LJ:bR prog 178 eR:=.i
instance:gN prog 66 178 eR:=⟨underlying66,LJ⟩
def CW:iP prog 68 [2]:=by unfold iP;kernel_rfl
instance:gN prog 29 68 dX:=⟨underlying29,yq⟩
instance L9:bR prog 29 (R dX):=.i
instance ali:b6 prog 32 6 TO:=.i underlying32 o L9
instance Du:dn prog 96 (r:iz):=.i
instance:b6 prog 96 0 EV:=.i underlying96 o bz
instance Ma:fi prog 96 #[(0,1),(1,1)]:=.i
instance RI:bR prog 96 iz:=.i
instance:gN prog 28 96 iz:=⟨underlying28,RI⟩
instance Mb:bR prog 28 (R iz):=.i
instance Qu:b6 prog 32 5 IJ:=.i underlying32 o Mb
instance AG:bR prog 30 (R fz):=.i
instance CX:b6 prog 32 7 EW:=.i underlying32 o AG
instance RJ:dn prog 98 (r:fz):=.i
instance:b6 prog 98 0 aeT:=.i underlying98 o bz
instance:b6 prog 98 2 aer:=.i underlying98 o bz
instance:b6 prog 98 4 adZ:=.i underlying98 o bz
instance:fi prog 98 #[(0,1),(1,1),(2,1),(3,1),(4,1),(5,1)]:=.i
instance Mc:bR prog 98 fz:=.i
instance:gN prog 30 98 fz:=⟨underlying30,Mc⟩
def Wq:iP prog 32 [5,7]:=by unfold iP;kernel_rfl
instance:b6 prog 98 1 afg:=.i underlying98 o bz
structure cJ where
 fO:Bool
 b2:aW
 fZ:aW
 eT:Int
 jU:aW
 deriving DecidableEq,Inhabited
instance:ah cJ:=.str (cT aI (cT aW (cT aW (cT Int (fw aW))))) (λx=>(x.fO,x.b2,x.fZ,x.eT,x.jU)) 8
abbrev EF:aG cJ aI:=.str cW 0 cJ.fO λb g=>{b with fO:=g}
abbrev I3:aG cJ aW:=.str (bh cW) 1 cJ.b2 λb g=>{b with b2:=g}
abbrev N6:aG cJ aW:=.str (bh (bh cW)) 3 cJ.fZ λb g=>{b with fZ:=g}
abbrev IW:aG cJ Int:=.str (bh (bh (bh cW))) 5 cJ.eT λb g=>{b with eT:=g}
abbrev N7:aG cJ aW:=.str (bh (bh (bh (bh fD)))) 6 cJ.jU λb g=>{b with jU:=g}
instance:dH cJ:=.str (.b (.b (.b (.b .a))))
structure bg where
 bZ:Int
 cp:List cJ
 gk:Int
 dR:Int
 eX:List aW
 deriving DecidableEq,Inhabited
instance:ah bg:=.str (cT Int (cT (R cJ) (cT Int (cT Int (fw (R aW)))))) (λx=>(x.bZ,x.cp,x.gk,x.dR,x.eX)) 5
abbrev xk:aG bg Int:=.str cW 0 bg.bZ λb g=>{b with bZ:=g}
abbrev xg:aG bg (R cJ):=.str (bh cW) 1 bg.cp λb g=>{b with cp:=g}
abbrev Bp:aG bg Int:=.str (bh (bh cW)) 2 bg.gk λb g=>{b with gk:=g}
abbrev s5:aG bg Int:=.str (bh (bh (bh cW))) 3 bg.dR λb g=>{b with dR:=g}
abbrev um:aG bg (R aW):=.str (bh (bh (bh (bh fD)))) 4 bg.eX λb g=>{b with eX:=g}
instance:dH bg:=.str (.b (.b (.b (.b .a))))
structure aJ where
 aS:bg
 ct:Int
 dL:Int
 deriving DecidableEq,Inhabited
instance:ah aJ:=.str (cT bg (cT Int (fw Int))) (λx=>(x.aS,x.ct,x.dL)) 7
abbrev Eu:aG aJ bg:=.str cW 0 aJ.aS λb g=>{b with aS:=g}
abbrev Ir:aG aJ Int:=.str (bh cW) 5 aJ.ct λb g=>{b with ct:=g}
abbrev Nv:aG aJ Int:=.str (bh (bh fD)) 6 aJ.dL λb g=>{b with dL:=g}
instance:dH aJ:=.str (.b (.b .a))
structure cR where
 jA:aU
 b8:List aJ
 jm:Int
 deriving DecidableEq,Inhabited
instance:ah cR:=.str (cT aU (cT (R aJ) (fw Int))) (λx=>(x.jA,x.b8,x.jm)) 12
abbrev Oe:aG cR aU:=.str cW 0 cR.jA λb g=>{b with jA:=g}
abbrev Fp:aG cR (R aJ):=.str (bh cW) 10 cR.b8 λb g=>{b with b8:=g}
abbrev T9:aG cR Int:=.str (bh (bh fD)) 11 cR.jm λb g=>{b with jm:=g}
instance:dH cR:=.str (.b (.b .a))
structure ll where
 jH:aU
 uC:gb
 pD:Int
 deriving DecidableEq,Inhabited
instance:ah ll:=.str (cT aU (cT gb (fw Int))) (λx=>(x.jH,x.uC,x.pD)) 12
abbrev Tw:aG ll aU:=.str cW 0 ll.jH λb g=>{b with jH:=g}
abbrev IB:aG ll gb:=.str (bh cW) 10 ll.uC λb g=>{b with uC:=g}
abbrev IX:aG ll Int:=.str (bh (bh fD)) 11 ll.pD λb g=>{b with pD:=g}
instance:dH ll:=.str (.b (.b .a))
instance am4:dn prog 185 (r:ll):=.i
instance:b6 prog 185 0 Tw:=.i underlying185 o n5
instance ZO:bR prog 183 gb:=.i
instance akd:b6 prog 185 1 IB:=.i underlying185 o ZO
instance:b6 prog 185 2 IX:=.i underlying185 o bz
instance am3:fi prog 185 #[(0,10),(10,1),(11,1)]:=.i
structure qf where
 wU:Ref
 deriving DecidableEq,Inhabited
instance:ah qf:=.str (fw Ref) (λx=>x.wU) 1
abbrev T0:aG qf Ref:=.str fD 0 qf.wU λb g=>{b with wU:=g}
instance:dH qf:=.str .a
structure lZ where
 wC:Int
 iB:Int
 uG:gb
 deriving DecidableEq,Inhabited
instance:ah lZ:=.str (cT Int (cT Int (fw gb))) (λx=>(x.wC,x.iB,x.uG)) 3
abbrev Tv:aG lZ Int:=.str cW 0 lZ.wC λb g=>{b with wC:=g}
abbrev Nq:aG lZ Int:=.str (bh cW) 1 lZ.iB λb g=>{b with iB:=g}
abbrev Eo:aG lZ gb:=.str (bh (bh fD)) 2 lZ.uG λb g=>{b with uG:=g}
instance:dH lZ:=.str (.b (.b .a))
structure qg where
 cw:Ref
 deriving DecidableEq,Inhabited
instance:ah qg:=.str (fw Ref) (λx=>x.cw) 1
abbrev T1:aG qg Ref:=.str fD 0 qg.cw λb g=>{b with cw:=g}
instance:dH qg:=.str .a
inductive jF where
 |nil
 |qx (x:qf)
 |qy (x:lZ)
 |qz (x:qg)
 deriving DecidableEq,Inhabited
instance:ah jF where
 size:=1
 agg:=N
 rep A W cs x:=match x with
  | .nil=>cs=[.nilIface]
  | .qx x=> ∃v,cs=[.iface 258 v]∧(B x).holds A W v
  | .qy x=> ∃v,cs=[.iface 261 v]∧(B x).holds A W v
  | .qz x=> ∃v,cs=[.iface 265 v]∧(B x).holds A W v
 len {A W cs x} h:=by cases x <;> first|(have h:cs=_:=h;rw[h];rfl)|(obtain⟨v,h,_⟩:=h;rw[h];rfl)
 one {A W cs x} h:=by
  intro u hu;cases x <;> first|(have h:cs=_:=h;rw[h]at hu;rw[mF.1 hu];rfl)|(obtain⟨v,h,_⟩:=h;rw[h]at hu;rw[mF.1 hu];rfl)
 flat _:=rfl
 mono {A W fh dE cs x} e h:=by cases x <;> first|exact h|(obtain⟨v,h,fx⟩:=h;exact⟨v,h,J.mono _ e fx⟩)
instance:dH jF:=⟨[.nilIface],λ_ _=>rfl⟩
def ahv{b c a}{x:qf}(h:(B x).holds b c a):(B (jF.qx x)).holds b c (.iface 258 a):=⟨rfl,a,rfl,h⟩
def Pd{b c d}{x:qf}(h:(B (jF.qx x)).holds b c d):∃a,d=.iface 258 a∧(B x).holds b c a:=by
 obtain⟨e,a,f,g⟩:=h;exact⟨a,lJ e f,g⟩
def ahw{b c a}{x:lZ}(h:(B x).holds b c a):(B (jF.qy x)).holds b c (.iface 261 a):=⟨rfl,a,rfl,h⟩
def Pe{b c d}{x:lZ}(h:(B (jF.qy x)).holds b c d):∃a,d=.iface 261 a∧(B x).holds b c a:=by
 obtain⟨e,a,f,g⟩:=h;exact⟨a,lJ e f,g⟩
def ahx{b c a}{x:qg}(h:(B x).holds b c a):(B (jF.qz x)).holds b c (.iface 265 a):=⟨rfl,a,rfl,h⟩
def Pf{b c d}{x:qg}(h:(B (jF.qz x)).holds b c d):∃a,d=.iface 265 a∧(B x).holds b c a:=by
 obtain⟨e,a,f,g⟩:=h;exact⟨a,lJ e f,g⟩
structure kz where
 wg:Int
 wi:Int
 oK:jF
 oG:gb
 deriving DecidableEq,Inhabited
instance:ah kz:=.str (cT Int (cT Int (cT jF (fw gb)))) (λx=>(x.wg,x.wi,x.oK,x.oG)) 4
abbrev ado:aG kz Int:=.str cW 0 kz.wg λb g=>{b with wg:=g}
abbrev adp:aG kz Int:=.str (bh cW) 1 kz.wi λb g=>{b with wi:=g}
abbrev IA:aG kz jF:=.str (bh (bh cW)) 2 kz.oK λb g=>{b with oK:=g}
abbrev Tj:aG kz gb:=.str (bh (bh (bh fD))) 3 kz.oG λb g=>{b with oG:=g}
instance:dH kz:=.str (.b (.b (.b .a)))
instance amR:dn prog 254 (r:kz):=.i
instance apG:bR prog 250 gb:=.i
instance:b6 prog 254 3 Tj:=.i underlying254 o apG
instance amQ:fi prog 254 #[(0,1),(1,1),(2,1),(3,1)]:=.i
structure sh where
 uS:gb
 deriving DecidableEq,Inhabited
instance:ah sh:=.str (fw gb) (λx=>x.uS) 1
abbrev TQ:aG sh gb:=.str fD 0 sh.uS λb g=>{b with uS:=g}
instance:dH sh:=.str .a
instance amx:dn prog 319 (r:sh):=.i
instance apH:bR prog 317 gb:=.i
instance:b6 prog 319 0 TQ:=.i underlying319 o apH
instance amw:fi prog 319 #[(0,1)]:=.i
instance amU:dn prog 258 (r:qf):=.i
instance apI:bR prog 255 Ref:=.i
instance:b6 prog 258 0 T0:=.i underlying258 o apI
instance amT:fi prog 258 #[(0,1)]:=.i
instance LK:bR prog 252 jF:=.i
instance:b6 prog 254 2 IA:=.i underlying254 o LK
instance amW:dn prog 261 (r:lZ):=.i
instance:b6 prog 261 0 Tv:=.i underlying261 o bz
instance:b6 prog 261 1 Nq:=.i underlying261 o bz
instance Rf:bR prog 259 gb:=.i
instance XH:b6 prog 261 2 Eo:=.i underlying261 o Rf
instance amV:fi prog 261 #[(0,1),(1,1),(2,1)]:=.i
structure fT where
 mO:aU
 cw:List aJ
 deriving DecidableEq,Inhabited
instance:ah fT:=.str (cT aU (fw (R aJ))) (λx=>(x.mO,x.cw)) 11
abbrev Th:aG fT aU:=.str cW 0 fT.mO λb g=>{b with mO:=g}
abbrev BK:aG fT (R aJ):=.str (bh fD) 10 fT.cw λb g=>{b with cw:=g}
instance:dH fT:=.str (.b .a)
instance amz:dn prog 323 (r:fT):=.i
instance:b6 prog 323 0 Th:=.i underlying323 o n5
instance amy:fi prog 323 #[(0,10),(10,1)]:=.i
def aiF:iP prog 323 [10]:=by unfold iP;kernel_rfl
instance amZ:dn prog 265 (r:qg):=.i
instance apJ:bR prog 262 Ref:=.i
instance:b6 prog 265 0 T1:=.i underlying265 o apJ
instance amY:fi prog 265 #[(0,1)]:=.i
def AN:pj prog 3 Int:=alQ underlying3
structure cQ where
 bZ:Int
 gB:Int
 b2:aW
 deriving DecidableEq,Inhabited
instance:ah cQ:=.str (cT Int (cT Int (fw aW))) (λx=>(x.bZ,x.gB,x.b2)) 4
abbrev IT:aG cQ Int:=.str cW 0 cQ.bZ λb g=>{b with bZ:=g}
abbrev I7:aG cQ Int:=.str (bh cW) 1 cQ.gB λb g=>{b with gB:=g}
abbrev IU:aG cQ aW:=.str (bh (bh fD)) 2 cQ.b2 λb g=>{b with b2:=g}
instance:dH cQ:=.str (.b (.b .a))
structure kN where
 rh:Int
 q0:Int
 deriving DecidableEq,Inhabited
instance:ah kN:=.str (cT Int (fw Int)) (λx=>(x.rh,x.q0)) 2
abbrev EG:aG kN Int:=.str cW 0 kN.rh λb g=>{b with rh:=g}
abbrev Et:aG kN Int:=.str (bh fD) 1 kN.q0 λb g=>{b with q0:=g}
instance:dH kN:=.str (.b .a)
structure qh where
 mO:aU
 kC:gb
 deriving DecidableEq,Inhabited
instance:ah qh:=.str (cT aU (fw gb)) (λx=>(x.mO,x.kC)) 11
abbrev Tr:aG qh aU:=.str cW 0 qh.mO λb g=>{b with mO:=g}
abbrev Ts:aG qh gb:=.str (bh fD) 10 qh.kC λb g=>{b with kC:=g}
instance:dH qh:=.str (.b .a)
instance amB:dn prog 201 (r:qh):=.i
instance:b6 prog 201 0 Tr:=.i underlying201 o n5
instance apK:bR prog 199 gb:=.i
instance:b6 prog 201 1 Ts:=.i underlying201 o apK
instance amA:fi prog 201 #[(0,10),(10,1)]:=.i
structure jE where
 qk:List dX
 kC:Vector Int 6
 deriving DecidableEq,Inhabited
instance:ah jE:=.str (cT (R dX) (fw (ck Int 6))) (λx=>(x.qk,x.kC)) 7
abbrev No:aG jE (R dX):=.str cW 0 jE.qk λb g=>{b with qk:=g}
abbrev yW:aG jE (ck Int 6):=.str (bh fD) 1 jE.kC λb g=>{b with kC:=g}
instance:dH jE:=.str (.b .a)
instance amD:dn prog 204 (r:jE):=.i
instance aj4:b6 prog 204 0 No:=.i underlying204 o L9
instance amC:fi prog 204 #[(0,1),(1,6)]:=.i
inductive nA where
 |nil
 |yt (a0:Ref) (sS:aJ) (a2:Int) (a3:Int)
 |wL (a0:Ref) (sS:bg)
 |yu (a0:Ref) (sS:aJ)
 deriving DecidableEq,Inhabited
instance:ah nA where
 size:=1
 agg:=N
 rep A W cs x:=match x with
  | .nil=>cs=[.nilFunc]
  | .yt a0 sS a2 a3=> ∃v,cs=[v]∧(H 142 [C a0,C sS,C a2,C a3]).holds A W v
  | .wL a0 sS=> ∃v,cs=[v]∧(H 146 [C a0,C sS]).holds A W v
  | .yu a0 sS=> ∃v,cs=[v]∧(H 147 [C a0,C sS]).holds A W v
 len {A W cs x} h:=by cases x <;> first|(have h:cs=_:=h;rw[h];rfl)|(obtain⟨v,h,_⟩:=h;rw[h];rfl)
 one {A W cs x} h:=by
  intro u hu;cases x <;> first|(have h:cs=_:=h;rw[h]at hu;rw[mF.1 hu];rfl)|(obtain⟨v,h,h2,rfl,_⟩:=h;rw[h]at hu;rw[mF.1 hu];rfl)
 flat _:=rfl
 mono {A W fh dE cs x} e h:=by cases x <;> first|exact h|(obtain⟨v,h,fx⟩:=h;exact⟨v,h,J.mono _ e fx⟩)
instance:dH nA:=⟨[.nilFunc],λ_ _=>rfl⟩
def akc{a b c}{d:Ref}{e:aJ}{f:Int}{g:Int}(h:(H 142 [C d,C e,C f,C g]).holds a b c):(B (nA.yt d e f g)).holds a b c:=by
 obtain⟨i,rfl,j⟩:=h;exact⟨rfl,_,rfl,i,rfl,j⟩
def akk{a b c}{d:Ref}{f:aJ}{g:Int}{i:Int}(h:(B (nA.yt d f g i)).holds a b c):(H 142 [C d,C f,C g,C i]).holds a b c:=by
 obtain⟨j,m,k,l⟩:=h;have e:=lJ j k;subst e;exact l
def aki{a b c}{d:Ref}{e:bg}(h:(H 146 [C d,C e]).holds a b c):(B (nA.wL d e)).holds a b c:=by
 obtain⟨f,rfl,g⟩:=h;exact⟨rfl,_,rfl,f,rfl,g⟩
def akl{a b c}{d:Ref}{f:bg}(h:(B (nA.wL d f)).holds a b c):(H 146 [C d,C f]).holds a b c:=by
 obtain⟨g,k,i,j⟩:=h;have e:=lJ g i;subst e;exact j
def ake{a b c}{d:Ref}{e:aJ}(h:(H 147 [C d,C e]).holds a b c):(B (nA.yu d e)).holds a b c:=by
 obtain⟨f,rfl,g⟩:=h;exact⟨rfl,_,rfl,f,rfl,g⟩
def akm{a b c}{d:Ref}{f:aJ}(h:(B (nA.yu d f)).holds a b c):(H 147 [C d,C f]).holds a b c:=by
 obtain⟨g,k,i,j⟩:=h;have e:=lJ g i;subst e;exact j
structure gq where
 C4:nA
 deriving DecidableEq,Inhabited
instance:ah gq:=.str (fw nA) (λx=>x.C4) 1
abbrev Tn:aG gq nA:=.str fD 0 gq.C4 λb g=>{b with C4:=g}
instance:dH gq:=.str .a
structure gG where
 mi:Ref
 rk:Ref
 uH:Ref
 gT:List gq
 deriving DecidableEq,Inhabited
instance:ah gG:=.str (cT Ref (cT Ref (cT Ref (fw (R gq))))) (λx=>(x.mi,x.rk,x.uH,x.gT)) 4
abbrev Es:aG gG Ref:=.str cW 0 gG.mi λb g=>{b with mi:=g}
abbrev Tx:aG gG Ref:=.str (bh cW) 1 gG.rk λb g=>{b with rk:=g}
abbrev Tk:aG gG Ref:=.str (bh (bh cW)) 2 gG.uH λb g=>{b with uH:=g}
abbrev Eh:aG gG (R gq):=.str (bh (bh (bh fD))) 3 gG.gT λb g=>{b with gT:=g}
instance:dH gG:=.str (.b (.b (.b .a)))
instance am8:dn prog 127 (r:gG):=.i
instance apL:bR prog 109 Ref:=.i
instance:b6 prog 127 0 Es:=.i underlying127 o apL
instance apM:bR prog 121 Ref:=.i
instance:b6 prog 127 1 Tx:=.i underlying127 o apM
instance apN:bR prog 123 Ref:=.i
instance:b6 prog 127 2 Tk:=.i underlying127 o apN
instance am7:fi prog 127 #[(0,1),(1,1),(2,1),(3,1)]:=.i
def ajQ:iP prog 127 [3]:=by unfold iP;kernel_rfl
instance aqn:dn prog 58 (r:cR):=.i
instance alz:b6 prog 58 0 Oe:=.i underlying58 o n5
instance:b6 prog 58 2 T9:=.i underlying58 o bz
instance aqm:fi prog 58 #[(0,10),(10,1),(11,1)]:=.i
structure eQ where
 cO:Int
 aS:bg
 deriving DecidableEq,Inhabited
instance:ah eQ:=.str (cT Int (fw bg)) (λx=>(x.cO,x.aS)) 6
abbrev TY:aG eQ Int:=.str cW 0 eQ.cO λb g=>{b with cO:=g}
abbrev BF:aG eQ bg:=.str (bh fD) 1 eQ.aS λb g=>{b with aS:=g}
instance:dH eQ:=.str (.b .a)
instance aql:dn prog 50 (r:eQ):=.i
instance Md:dn prog 48 (r:bg):=.i
instance C1:b6 prog 48 0 xk:=.i underlying48 o bz
instance aqf:fi prog 48 #[(0,1),(1,1),(2,1),(3,1),(4,1)]:=.i
instance lM:bR prog 48 bg:=.i
instance Dc:dn prog 107 (r:cJ):=.i
instance PM:b6 prog 105 0 xu:=.i underlying105 o ki
instance:mD prog 209 (.int .u64):=⟨underlying209⟩
def Xv:DW prog 105 1 103 1:=⟨_,_,underlying105,rfl,rfl,rfl⟩
instance ajX:b6 prog 107 0 EF:=.i underlying107 o hv
instance:b6 prog 107 3 IW:=.i underlying107 o bz
instance:b6 prog 107 1 I3:=.i underlying107 o e3
instance am0:fi prog 107 #[(0,1),(1,2),(3,2),(5,1),(6,2)]:=.i
instance tB:bR prog 107 cJ:=.i
instance:b6 prog 107 2 N6:=.i underlying107 o e3
instance:b6 prog 107 4 N7:=.i underlying107 o e3
instance ys:bR prog 45 (R cJ):=.i
instance CY:b6 prog 48 1 xg:=.i underlying48 o ys
instance:gN prog 45 107 cJ:=⟨underlying45,tB⟩
instance GU:b6 prog 48 2 Bp:=.i underlying48 o bz
instance uM:b6 prog 48 3 s5:=.i underlying48 o bz
instance wk:b6 prog 48 4 um:=.i underlying48 o u7
def Wr:iP prog 48 [1,4]:=by unfold iP;kernel_rfl
instance alA:b6 prog 50 0 TY:=.i underlying50 o bz
instance GV:b6 prog 50 1 BF:=.i underlying50 o lM
instance:fi prog 50 #[(0,1),(1,5)]:=.i
instance RL:bR prog 50 eQ:=.i
instance sJ:bR prog 53 (R aJ):=.i
instance alr:b6 prog 58 1 Fp:=.i underlying58 o sJ
instance fK:bR prog 70 aJ:=.i
instance:gN prog 53 70 aJ:=⟨underlying53,fK⟩
instance Qv:b6 prog 70 0 Eu:=.i underlying70 o lM
instance:gN prog 40 50 eQ:=⟨underlying40,RL⟩
instance:dn prog 42 (r:Int):=.i
instance Ml:bR prog 42 Int:=.i
instance:bR prog 36 Ref:=.i
instance:mD prog 36 (.pointer 127):=⟨underlying36⟩
instance wy:bR prog 125 (R gq):=.i
instance aj1:b6 prog 127 3 Eh:=.i underlying127 o wy
instance LS:bR prog 180 gq:=.i
instance:gN prog 125 180 gq:=⟨underlying125,LS⟩
instance:bR prog 51 (kr prog aI):=.i
instance:mD prog 4 .bool:=⟨underlying4⟩
def QO:j8 prog 103 (cE 64) 1:=akz (K:=.u64) underlying103
def wq:j8 prog 105 aW 2:=xI (k:=1) o underlying105 (by kernel_rfl) λd aq e f g h x c a b=>by
 refine vM (mc xu ki o (by rfl) QO (by omega) a b (mc nj ki o (by rfl) QO (by omega) a b xS)) ?_;congr 1;rw[kW];simp only[hx,ik,xB];cases x;cases c;simp[G,xu,nj]
def AL:j8 prog 3 Int 1:=XK (K:=.i64) underlying3
def amj:j8 prog 107 cJ 3:=xI (k:=2) o underlying107 (by kernel_rfl) λd aq e f g h x c a b=>by
 refine vM (mc EF hv o (by rfl) (aiO underlying4) (by omega) a b (mc I3 e3 o (by rfl) wq (by omega) a b (mc N6 e3 o (by rfl) wq (by omega) a b (mc IW bz o (by rfl) AL (by omega) a b (mc N7 e3 o (by rfl) wq (by omega) a b xS))))) ?_;congr 1;rw[kW];simp only[hx,ik,xB];cases x;cases c;simp[G,EF,I3,N6,IW,N7]
instance:vq prog 107 cJ 3:=⟨amj,(by kernel_rfl),rfl⟩
instance:mD prog 9 .string:=⟨underlying9⟩
instance:vq prog 105 aW 2:=⟨wq,(by kernel_rfl),rfl⟩
instance apO:bR prog 226 (kr prog Int):=.i
instance:gN prog 284 226 (kr prog Int):=⟨underlying284,apO⟩
instance:dn prog 226 (r:kr prog Int):=.i
structure fY where
 bW:ByteArray
 eY:ByteArray
 deriving DecidableEq,Inhabited
instance:ah fY:=.str (cT cC (fw cC)) (λx=>(x.bW,x.eY)) 2
abbrev Jf:aG fY cC:=.str cW 0 fY.bW λb g=>{b with bW:=g}
abbrev Jg:aG fY cC:=.str (bh fD) 1 fY.eY λb g=>{b with eY:=g}
instance:dH fY:=.str (.b .a)
instance QP:dn prog 354 (r:fY):=.i
instance:b6 prog 354 0 Jf:=.i underlying354 o gR
instance:b6 prog 354 1 Jg:=.i underlying354 o gR
instance:fi prog 354 #[(0,1),(1,1)]:=.i
instance G7:bR prog 354 fY:=.i
instance:gN prog 293 354 fY:=⟨underlying293,G7⟩
structure de where
 cm:Int
 fr:Int
 gm:Int
 bW:ByteArray
 eY:ByteArray
 b2:aW
 deriving DecidableEq,Inhabited
instance:ah de:=.str (cT Int (cT Int (cT Int (cT cC (cT cC (fw aW)))))) (λx=>(x.cm,x.fr,x.gm,x.bW,x.eY,x.b2)) 7
abbrev sc:aG de Int:=.str cW 0 de.cm λb g=>{b with cm:=g}
abbrev ur:aG de Int:=.str (bh cW) 1 de.fr λb g=>{b with fr:=g}
abbrev vG:aG de Int:=.str (bh (bh cW)) 2 de.gm λb g=>{b with gm:=g}
abbrev adB:aG de cC:=.str (bh (bh (bh cW))) 3 de.bW λb g=>{b with bW:=g}
abbrev adC:aG de cC:=.str (bh (bh (bh (bh cW)))) 4 de.eY λb g=>{b with eY:=g}
abbrev NI:aG de aW:=.str (bh (bh (bh (bh (bh fD))))) 5 de.b2 λb g=>{b with b2:=g}
instance:dH de:=.str (.b (.b (.b (.b (.b .a)))))
instance wE:dn prog 346 (r:de):=.i
instance ajU:b6 prog 346 0 sc:=.i underlying346 o bz
instance XJ:b6 prog 346 5 NI:=.i underlying346 o e3
instance Ay:fi prog 346 #[(0,1),(1,1),(2,1),(3,1),(4,1),(5,2)]:=.i
instance Df:bR prog 346 de:=.i
instance:gN prog 290 346 de:=⟨underlying290,Df⟩
structure gP where
 cO:Int
 ia:ByteArray
 rA:Int
 deriving DecidableEq,Inhabited
instance:ah gP:=.str (cT Int (cT cC (fw Int))) (λx=>(x.cO,x.ia,x.rA)) 3
abbrev BG:aG gP Int:=.str cW 0 gP.cO λb g=>{b with cO:=g}
abbrev NM:aG gP cC:=.str (bh cW) 1 gP.ia λb g=>{b with ia:=g}
abbrev aes:aG gP Int:=.str (bh (bh fD)) 2 gP.rA λb g=>{b with rA:=g}
instance:dH gP:=.str (.b (.b .a))
instance Rb:dn prog 400 (r:gP):=.i
instance GK:b6 prog 400 0 BG:=.i underlying400 o bz
instance Xx:b6 prog 400 1 NM:=.i underlying400 o gR
instance:b6 prog 400 2 aes:=.i underlying400 o bz
instance:fi prog 400 #[(0,1),(1,1),(2,1)]:=.i
instance wD:bR prog 400 gP:=.i
structure eL where
 kE:Vector (BitVec 64) 3
 deriving DecidableEq,Inhabited
instance:ah eL:=.str (fw (ck (cE 64) 3)) (λx=>x.kE) 3
abbrev rV:aG eL (ck (cE 64) 3):=.str fD 0 eL.kE λb g=>{b with kE:=g}
instance:dH eL:=.str .a
instance QU:dn prog 362 (r:eL):=.i
instance:fi prog 362 #[(0,3)]:=.i
instance LN:bR prog 362 eL:=.i
instance aai:bR prog 360 (ck (cE 64) 3):=.i
instance vX:b6 prog 362 0 rV:=.i underlying362 o aai
instance wz:nO prog 360 3 1:=I underlying360 ki o
def Ym:aa8 prog 370:=⟨_,func370,by kernel_rfl,by kernel_rfl,by kernel_rfl,by kernel_rfl⟩
instance:gN prog 347 400 gP:=⟨underlying347,wD⟩
instance:dn prog 290 (r:R de):=.i
structure bw where
 cw:List gP
 du:Int
 b3:List de
 deriving DecidableEq,Inhabited
instance:ah bw:=.str (cT (R gP) (cT Int (fw (R de)))) (λx=>(x.cw,x.du,x.b3)) 3
abbrev s8:aG bw (R gP):=.str cW 0 bw.cw λb g=>{b with cw:=g}
abbrev nU:aG bw Int:=.str (bh cW) 1 bw.du λb g=>{b with du:=g}
abbrev mG:aG bw (R de):=.str (bh (bh fD)) 2 bw.b3 λb g=>{b with b3:=g}
instance:dH bw:=.str (.b (.b .a))
instance ZS:dn prog 454 (r:bw):=.i
instance uU:bR prog 347 (R gP):=.i
instance xO:b6 prog 454 0 s8:=.i underlying454 o uU
instance aop:fi prog 454 #[(0,1),(1,1),(2,1)]:=.i
instance aoq:bR prog 454 bw:=.i
instance xN:b6 prog 454 1 nU:=.i underlying454 o bz
instance ajS:b6 prog 346 1 ur:=.i underlying346 o bz
instance De:bR prog 290 (R de):=.i
instance akg:b6 prog 454 2 mG:=.i underlying454 o De
instance:b6 prog 346 3 adB:=.i underlying346 o gR
instance:b6 prog 346 4 adC:=.i underlying346 o gR
structure kM where
 sK:Int
 sm:ByteArray
 deriving DecidableEq,Inhabited
instance:ah kM:=.str (cT Int (fw cC)) (λx=>(x.sK,x.sm)) 2
abbrev acZ:aG kM Int:=.str cW 0 kM.sK λb g=>{b with sK:=g}
abbrev acy:aG kM cC:=.str (bh fD) 1 kM.sm λb g=>{b with sm:=g}
instance:dH kM:=.str (.b .a)
instance:dn prog 491 (r:kM):=.i
instance:b6 prog 491 0 acZ:=.i underlying491 o bz
instance:b6 prog 491 1 acy:=.i underlying491 o gR
instance:fi prog 491 #[(0,1),(1,1)]:=.i
instance apP:bR prog 491 kM:=.i
instance:gN prog 488 491 kM:=⟨underlying488,apP⟩
instance ajT:b6 prog 346 2 vG:=.i underlying346 o bz
def wo(g:bw->aw (Int×bw)):Prop:=∀(c:bw) (d:Nat) (e:aw Nat) (f:Nat) (a:Int×bw),g c=y a->bn prog 341 [J.eq (.pointer (y ⟨d,0,E⟩))] [⟨y d,.bF (({c with b3:=[]}:bw):bw) [(2,aH e (D c.b3) f)]⟩,⟨e,.row 346 (c.b3:R de) f⟩] (aX:=bN) (λb=>B a.1) (λb=>[⟨y d,.bF (({a.2 with b3:=[]}:bw):bw) [(2,aH b.1 (D a.2.b3) b.2)]⟩,⟨b.1,.row 346 (a.2.b3:R de) b.2⟩])
def XI:iP prog 454 [2]:=by unfold iP;kernel_rfl
def akh{a b c:bt}:Idle prog 340 [a,b,c]:=λw=>by
 refine callsDIn_of_wpSIn func340 o bo λd f e=>?_;apply wpSIn_seq;apply wpSIn_region;simp[wpOpsSIn,go_sem,recoverD,e,ntmps340,M];apply wpSIn_seq;apply wpSIn_region;simp[wpOpsSIn,go_sem,M,Act.eval];refine wpSIn_cond (t:=N) (by simp[Act.eval,Array.replicate]) ?_;simp only[qP,nV];refine wpSIn_of_wpIn o (wpIn_skip ?_);cases d;simp_all [bodyPostS,results,results340]
instance:iY fY where
 uniq {A W cs fh dE HH x} h oi:=by
  refine P3 h.1 oi.1 ?_;refine Ae 0 (ah.size cC) (iY.uniq h.2.1 oi.2.1) ?_;refine Ae 1 (ah.size cC) (iY.uniq h.2.2 oi.2.2) ?_;exact P4 h.1 oi.1 (by decide)
 plain {A W cs x} h:=by
  intro u hu n;have iN:=vZ (ak:=0) (s:=ah.size cC) (by simpa using hu);rcases iN with h1|iN
  ·exact iY.plain h.2.1 u h1 n
  have iN:=vZ (s:=ah.size cC) iN;rcases iN with h1|iN
  ·exact iY.plain h.2.2 u h1 n
  exact PZ h.1 (by rfl) iN
def Mw:j8 prog 9 cC 1:=akK underlying9
def aml:j8 prog 354 fY 2:=xI (k:=1) o underlying354 (by kernel_rfl) λd aq e f g h x c a b=>by
 refine vM (mc Jf gR o (by rfl) Mw (by omega) a b (mc Jg gR o (by rfl) Mw (by omega) a b xS)) ?_;congr 1;rw[kW];simp only[hx,ik,xB];cases x;cases c;simp[G,Jf,Jg]
def Y9:pj prog 354 fY:=Lq underlying354 o (Pk (k:=1) o underlying354 (.cons Jf o gR (λb a c d e x h f=>(Ky underlying9 o) b a c d e x (by omega) f) (.cons Jg o gR (λb a c d e x h f=>(Ky underlying9 o) b a c d e x (by omega) f) (.nil)))) aml o o
structure jv where
 mb:Int
 kR:Int
 deriving DecidableEq,Inhabited
instance:ah jv:=.str (cT Int (fw Int)) (λx=>(x.mb,x.kR)) 2
abbrev Ty:aG jv Int:=.str cW 0 jv.mb λb g=>{b with mb:=g}
abbrev NC:aG jv Int:=.str (bh fD) 1 jv.kR λb g=>{b with kR:=g}
instance:dH jv:=.str (.b .a)
instance:dn prog 410 (r:jv):=.i
instance:fi prog 410 #[(0,1),(1,1)]:=.i
instance apR:bR prog 410 jv:=.i
instance:b6 prog 410 0 Ty:=.i underlying410 o bz
instance:b6 prog 410 1 NC:=.i underlying410 o bz
instance:gN prog 457 410 jv:=⟨underlying457,apR⟩
def XA:DW prog 410 1 3 1:=⟨_,_,underlying410,rfl,rfl,rfl⟩
structure h5 where
 bW:ByteArray
 eY:ByteArray
 b2:aW
 deriving DecidableEq,Inhabited
instance:ah h5:=.str (cT cC (cT cC (fw aW))) (λx=>(x.bW,x.eY,x.b2)) 4
abbrev adj:aG h5 cC:=.str cW 0 h5.bW λb g=>{b with bW:=g}
abbrev adk:aG h5 cC:=.str (bh cW) 1 h5.eY λb g=>{b with eY:=g}
abbrev ac0:aG h5 aW:=.str (bh (bh fD)) 2 h5.b2 λb g=>{b with b2:=g}
instance:dH h5:=.str (.b (.b .a))
instance QV:dn prog 369 (r:h5):=.i
instance:b6 prog 369 0 adj:=.i underlying369 o gR
instance:b6 prog 369 1 adk:=.i underlying369 o gR
instance:b6 prog 369 2 ac0:=.i underlying369 o e3
instance:fi prog 369 #[(0,1),(1,1),(2,2)]:=.i
instance LQ:bR prog 369 h5:=.i
instance:gN prog 296 369 h5:=⟨underlying296,LQ⟩
structure l2 where
 qF:eL
 deriving DecidableEq,Inhabited
instance:ah l2:=.str (fw eL) (λx=>x.qF) 3
abbrev N3:aG l2 eL:=.str fD 0 l2.qF λb g=>{b with qF:=g}
instance:dH l2:=.str .a
inductive dg where
 |nil
 |lN (x:Bool)
 |pL (x:l2)
 deriving DecidableEq,Inhabited
instance:ah dg where
 size:=1
 agg:=N
 rep A W cs x:=match x with
  | .nil=>cs=[.nilIface]
  | .lN x=> ∃v,cs=[.iface 358 v]∧(B x).holds A W v
  | .pL x=> ∃v,cs=[.iface 365 v]∧(B x).holds A W v
 len {A W cs x} h:=by cases x <;> first|(have h:cs=_:=h;rw[h];rfl)|(obtain⟨v,h,_⟩:=h;rw[h];rfl)
 one {A W cs x} h:=by
  intro u hu;cases x <;> first|(have h:cs=_:=h;rw[h]at hu;rw[mF.1 hu];rfl)|(obtain⟨v,h,_⟩:=h;rw[h]at hu;rw[mF.1 hu];rfl)
 flat _:=rfl
 mono {A W fh dE cs x} e h:=by cases x <;> first|exact h|(obtain⟨v,h,fx⟩:=h;exact⟨v,h,J.mono _ e fx⟩)
instance:dH dg:=⟨[.nilIface],λ_ _=>rfl⟩
def sj{b c a}{x:aI}(h:(B x).holds b c a):(B (dg.lN x)).holds b c (.iface 358 a):=⟨rfl,a,rfl,h⟩
def Pa{b c d}{x:aI}(h:(B (dg.lN x)).holds b c d):∃a,d=.iface 358 a∧(B x).holds b c a:=by
 obtain⟨e,a,f,g⟩:=h;exact⟨a,lJ e f,g⟩
def Gu{b c a}{x:l2}(h:(B x).holds b c a):(B (dg.pL x)).holds b c (.iface 365 a):=⟨rfl,a,rfl,h⟩
def Pb{b c d}{x:l2}(h:(B (dg.pL x)).holds b c d):∃a,d=.iface 365 a∧(B x).holds b c a:=by
 obtain⟨e,a,f,g⟩:=h;exact⟨a,lJ e f,g⟩
def Lk{a:cX}{b:R (Nat×J)}{c:R aK}:aN a b c (.const .nilIface) (.of (dg.nil:dg)):=λ_ _ _=>⟨rfl,rfl⟩
instance aos:dn prog 355 (r:R dg):=.i
instance Y8:dn prog 360 (r:ck (cE 64) 3):=.i
instance sv:bR prog 355 (R dg):=.i
instance LM:dn prog 365 (r:l2):=.i
instance:b6 prog 365 0 N3:=.i underlying365 o LN
instance ZU:fi prog 365 #[(0,3)]:=.i
instance uV:bR prog 357 dg:=.i
instance:gN prog 355 357 dg:=⟨underlying355,uV⟩
instance AA:dn prog 357 (r:dg):=.i
def akj:iP prog 355 [0]:=by unfold iP;kernel_rfl
def Kw(a:dg):aw l2:=match a with
 | .pL x=>y x
 |_=>E
def VG(b:dg):Sk 365 b (Kw b):=λd e f h=>by
 cases b with
 |nil=>obtain⟨a,c⟩:=h;exact .inr ⟨rfl,.inl (lJ a c)⟩
 |lN x=>obtain⟨w,a,_⟩:=Pa h;exact .inr ⟨rfl,.inr ⟨358,w,by decide,a⟩⟩
 |pL x=>obtain⟨w,a,c⟩:=Pb h;exact .inl ⟨w,x,rfl,a,c⟩
instance:bR prog 365 l2:=.i
instance:vq prog 360 (ck (cE 64) 3) 2:=⟨(PX underlying360 ki QO),(by kernel_rfl),rfl⟩
def amn:j8 prog 362 eL 3:=xI (k:=2) o underlying362 (by kernel_rfl) λd aq e f g h x a b c=>by
 refine vM (mc rV aai o (by rfl) (PX underlying360 ki QO) (by omega) b c xS) ?_;congr 1;rw[kW];simp only[hx,ik,xB];cases x;cases a;simp[G,rV]
instance:vq prog 362 eL 3:=⟨amn,(by kernel_rfl),rfl⟩
def Pg(a:dg):aw aI:=match a with
 | .lN x=>y x
 |_=>E
def ahA(b:dg):Sk 358 b (Pg b):=λd e f h=>by
 cases b with
 |nil=>obtain⟨a,c⟩:=h;exact .inr ⟨rfl,.inl (lJ a c)⟩
 |lN x=>obtain⟨w,a,c⟩:=Pa h;exact .inl ⟨w,x,rfl,a,c⟩
 |pL x=>obtain⟨w,a,_⟩:=Pb h;exact .inr ⟨rfl,.inr ⟨365,w,by decide,a⟩⟩
instance ane:dn prog 358 (r:aI):=.i
instance:mD prog 109 (.pointer 185):=⟨underlying109⟩
instance Ze:dn prog 197 (r:Ref):=.i
instance:mD prog 197 (.pointer 254):=⟨underlying197⟩
instance ly:dn prog 70 (r:aJ):=.i
instance aqy:fi prog 70 #[(0,5),(5,1),(6,1)]:=.i
instance:dn prog 149 (r:ck aW 4):=.i
instance:nO prog 149 4 2:=I underlying149 e3 o
instance:bR prog 149 (ck aW 4):=.i
instance:mD prog 255 (.pointer 319):=⟨underlying255⟩
instance:iY aW where
 uniq {A W cs fh dE HH x} h oi:=by
  refine P3 h.1 oi.1 ?_;refine Ae 0 (ah.size (cE 64)) (iY.uniq h.2.1 oi.2.1) ?_;refine Ae 1 (ah.size (cE 64)) (iY.uniq h.2.2 oi.2.2) ?_;exact P4 h.1 oi.1 (by decide)
 plain {A W cs x} h:=by
  intro u hu n;have iN:=vZ (ak:=0) (s:=ah.size (cE 64)) (by simpa using hu);rcases iN with h1|iN
  ·exact iY.plain h.2.1 u h1 n
  have iN:=vZ (s:=ah.size (cE 64)) iN;rcases iN with h1|iN
  ·exact iY.plain h.2.2 u h1 n
  exact PZ h.1 (by rfl) iN
def RE:qK prog 105 aW 2:=Pk (k:=1) o underlying105 (.cons xu o ki (λb a c d e x h f=>(Ky underlying103 o) b a c d e x (by omega) f) (.cons nj o ki (λb a c d e x h f=>(Ky underlying103 o) b a c d e x (by omega) f) (.nil)))
def LW:pj prog 515 (ck aW 4):=Lq underlying515 o (Yz underlying515 e3 RE) (PX underlying515 e3 wq) o o
instance:bR prog 261 lZ:=.i
instance:dn prog 516 (r:ck aW 4):=.i
instance LY:bR prog 516 (ck aW 4):=.i
instance ZC:dn prog 527 (r:Ref):=.i
instance:mD prog 517 (.pointer 533):=⟨underlying517⟩
structure h6 where
 iB:Int
 fQ:Ref
 deriving DecidableEq,Inhabited
instance:ah h6:=.str (cT Int (fw Ref)) (λx=>(x.iB,x.fQ)) 2
abbrev Fe:aG h6 Int:=.str cW 0 h6.iB λb g=>{b with iB:=g}
abbrev Je:aG h6 Ref:=.str (bh fD) 1 h6.fQ λb g=>{b with fQ:=g}
instance:dH h6:=.str (.b .a)
instance PR:b6 prog 533 0 Fe:=.i underlying533 o bz
instance jW:bR prog 527 Ref:=.i
instance aka:b6 prog 533 1 Je:=.i underlying533 o jW
instance Zn:bR prog 517 Ref:=.i
instance:mD prog 527 (.pointer 531):=⟨underlying527⟩
instance Zb:bR prog 529 (ck Ref 2):=.i
structure fJ where
 eI:Vector Ref 2
 ib:Bool
 lO:Int
 deriving DecidableEq,Inhabited
instance:ah fJ:=.str (cT (ck Ref 2) (cT aI (fw Int))) (λx=>(x.eI,x.ib,x.lO)) 4
abbrev Bq:aG fJ (ck Ref 2):=.str cW 0 fJ.eI λb g=>{b with eI:=g}
abbrev Fb:aG fJ aI:=.str (bh cW) 2 fJ.ib λb g=>{b with ib:=g}
abbrev Jm:aG fJ Int:=.str (bh (bh fD)) 3 fJ.lO λb g=>{b with lO:=g}
instance:dH fJ:=.str (.b (.b .a))
instance KX:b6 prog 531 0 Bq:=.i underlying531 o Zb
instance Q2:nO prog 529 2 1:=I underlying529 jW o
instance ajY:b6 prog 531 1 Fb:=.i underlying531 o hv
instance ajZ:b6 prog 531 2 Jm:=.i underlying531 o bz
def Az:pj prog 516 (ck aW 4):=Lq underlying516 o (Yz underlying516 e3 RE) (PX underlying516 e3 wq) o o
instance Hc:dn prog 517 (r:Ref):=.i
instance:b6 prog 323 1 BK:=.i underlying323 o sJ
instance Yt:b6 prog 70 1 Ir:=.i underlying70 o bz
instance aly:b6 prog 70 2 Nv:=.i underlying70 o bz
instance anq:dn prog 533 (r:h6):=.i
instance anp:fi prog 533 #[(0,1),(1,1)]:=.i
instance Zw:dn prog 531 (r:fJ):=.i
instance Zv:fi prog 531 #[(0,2),(2,1),(3,1)]:=.i
instance:mD prog 123 (.pointer 204):=⟨underlying123⟩
instance ap2:bR prog 202 (ck Int 6):=.i
instance CN:b6 prog 204 1 yW:=.i underlying204 o ap2
instance Di:nO prog 202 6 1:=I underlying202 bz o
instance:gN prog 537 527 Ref:=⟨underlying537,jW⟩
instance an6:dn prog 537 (r:R Ref):=.i
instance aqu:dn prog 59 (r:R Int):=.i
instance yj:bR prog 537 (R Ref):=.i
def akb:iP prog 537 [0]:=by unfold iP;kernel_rfl
def alx:iP prog 59 [0]:=by unfold iP;kernel_rfl
instance anj:dn prog 529 (r:ck Ref 2):=.i
structure fX where
 b2:aW
 CG:Int
 cA:Int
 deriving DecidableEq,Inhabited
instance:ah fX:=.str (cT aW (cT Int (fw Int))) (λx=>(x.b2,x.CG,x.cA)) 4
abbrev ac5:aG fX aW:=.str cW 0 fX.b2 λb g=>{b with b2:=g}
abbrev acS:aG fX Int:=.str (bh cW) 2 fX.CG λb g=>{b with CG:=g}
abbrev aea:aG fX Int:=.str (bh (bh fD)) 3 fX.cA λb g=>{b with cA:=g}
instance:dH fX:=.str (.b (.b .a))
instance anA:dn prog 538 (r:R fX):=.i
instance QW:bR prog 538 (R fX):=.i
instance QX:dn prog 542 (r:fX):=.i
instance anl:fi prog 542 #[(0,2),(2,1),(3,1)]:=.i
instance QY:bR prog 542 fX:=.i
instance:gN prog 538 542 fX:=⟨underlying538,QY⟩
def aj5:iP prog 538 [0]:=by unfold iP;kernel_rfl
instance:mD prog 121 (.pointer 201):=⟨underlying121⟩
instance:b6 prog 98 5 aeV:=.i underlying98 o bz
instance LU:dn prog 138 (r:cQ):=.i
instance:b6 prog 138 0 IT:=.i underlying138 o bz
instance:b6 prog 138 1 I7:=.i underlying138 o bz
instance:b6 prog 138 2 IU:=.i underlying138 o e3
instance:fi prog 138 #[(0,1),(1,1),(2,2)]:=.i
instance Dh:bR prog 138 cQ:=.i
instance:gN prog 101 138 cQ:=⟨underlying101,Dh⟩
instance:b6 prog 98 3 aeU:=.i underlying98 o bz
instance:iY cQ where
 uniq {A W cs fh dE HH x} h oi:=by
  refine P3 h.1 oi.1 ?_;refine Ae 0 (ah.size Int) (iY.uniq h.2.1 oi.2.1) ?_;refine Ae 1 (ah.size Int) (iY.uniq h.2.2.1 oi.2.2.1) ?_;refine Ae 2 (ah.size aW) (iY.uniq h.2.2.2 oi.2.2.2) ?_;exact P4 h.1 oi.1 (by decide)
 plain {A W cs x} h:=by
  intro u hu n;have iN:=vZ (ak:=0) (s:=ah.size Int) (by simpa using hu);rcases iN with h1|iN
  ·exact iY.plain h.2.1 u h1 n
  have iN:=vZ (s:=ah.size Int) iN;rcases iN with h1|iN
  ·exact iY.plain h.2.2.1 u h1 n
  have iN:=vZ (s:=ah.size aW) iN;rcases iN with h1|iN
  ·exact iY.plain h.2.2.2 u h1 n
  exact PZ h.1 (by rfl) iN
def YY:j8 prog 138 cQ 3:=xI (k:=2) o underlying138 (by kernel_rfl) λd aq e f g h x c a b=>by
 refine vM (mc IT bz o (by rfl) AL (by omega) a b (mc I7 bz o (by rfl) AL (by omega) a b (mc IU e3 o (by rfl) wq (by omega) a b xS))) ?_;congr 1;rw[kW];simp only[hx,ik,xB];cases x;cases c;simp[G,IT,I7,IU]
def QZ:pj prog 138 cQ:=Lq underlying138 o (Pk (k:=2) o underlying138 (.cons IT o bz (λb a c d e x h f=>(Ky underlying3 o) b a c d e x (by omega) f) (.cons I7 o bz (λb a c d e x h f=>(Ky underlying3 o) b a c d e x (by omega) f) (.cons IU o e3 (λb a c d e x h f=>RE b a c d e x (by omega) f) (.nil))))) YY o o
instance anm:dn prog 271 (r:kN):=.i
instance:bR prog 271 kN:=.i
instance XB:b6 prog 271 0 EG:=.i underlying271 o bz
instance XC:b6 prog 271 1 Et:=.i underlying271 o bz
instance:fi prog 271 #[(0,1),(1,1)]:=.i
def amr:j8 prog 271 kN 2:=xI (k:=1) o underlying271 (by kernel_rfl) λd aq e f g h x c a b=>by
 refine vM (mc EG bz o (by rfl) AL (by omega) a b (mc Et bz o (by rfl) AL (by omega) a b xS)) ?_;congr 1;rw[kW];simp only[hx,ik,xB];cases x;cases c;simp[G,EG,Et]
instance:vq prog 271 kN 2:=⟨amr,(by kernel_rfl),rfl⟩
instance:vq prog 138 cQ 3:=⟨YY,(by kernel_rfl),rfl⟩
instance ann:dn prog 180 (r:gq):=.i
instance abv:bR prog 1 nA:=.i
instance akn:b6 prog 180 0 Tn:=.i underlying180 o abv
instance:fi prog 180 #[(0,1)]:=.i
structure jh where
 dN:cQ
 j2:Int
 ka:Int
 deriving DecidableEq,Inhabited
instance:ah jh:=.str (cT cQ (cT Int (fw Int))) (λx=>(x.dN,x.j2,x.ka)) 6
abbrev adl:aG jh cQ:=.str cW 0 jh.dN λb g=>{b with dN:=g}
abbrev adm:aG jh Int:=.str (bh cW) 4 jh.j2 λb g=>{b with j2:=g}
abbrev acQ:aG jh Int:=.str (bh (bh fD)) 5 jh.ka λb g=>{b with ka:=g}
instance:dH jh:=.str (.b (.b .a))
instance anD:dn prog 140 (r:jh):=.i
instance:b6 prog 140 0 adl:=.i underlying140 o Dh
instance:b6 prog 140 1 adm:=.i underlying140 o bz
instance:b6 prog 140 2 acQ:=.i underlying140 o bz
instance:fi prog 140 #[(0,4),(4,1),(5,1)]:=.i
instance Zr:bR prog 140 jh:=.i
instance:gN prog 133 140 jh:=⟨underlying133,Zr⟩
instance Zc:dn prog 187 (r:ck (R Int) 6):=.i
instance sy:nO prog 187 6 1:=I underlying187 j5 o
def aeZ:iP prog 187 [0,1,2,3,4,5]:=by unfold iP;kernel_rfl
instance:bR prog 187 (ck (R Int) 6):=.i
instance Db:dn prog 315 (r:ck aI 128):=.i
instance wB:nO prog 315 128 1:=I underlying315 hv o
instance ye:bR prog 315 (ck aI 128):=.i
structure gJ where
 bW:ByteArray
 eY:ByteArray
 deriving DecidableEq,Inhabited
instance:ah gJ:=.str (cT cC (fw cC)) (λx=>(x.bW,x.eY)) 2
abbrev N8:aG gJ cC:=.str cW 0 gJ.bW λb g=>{b with bW:=g}
abbrev N9:aG gJ cC:=.str (bh fD) 1 gJ.eY λb g=>{b with eY:=g}
instance:dH gJ:=.str (.b .a)
instance C9:dn prog 311 (r:gJ):=.i
instance:b6 prog 311 0 N8:=.i underlying311 o gR
instance:b6 prog 311 1 N9:=.i underlying311 o gR
instance:fi prog 311 #[(0,1),(1,1)]:=.i
instance Au:bR prog 311 gJ:=.i
instance:gN prog 241 311 gJ:=⟨underlying241,Au⟩
structure gj where
 bW:ByteArray
 eY:ByteArray
 b2:aW
 deriving DecidableEq,Inhabited
instance:ah gj:=.str (cT cC (cT cC (fw aW))) (λx=>(x.bW,x.eY,x.b2)) 4
abbrev ac1:aG gj cC:=.str cW 0 gj.bW λb g=>{b with bW:=g}
abbrev ac2:aG gj cC:=.str (bh cW) 1 gj.eY λb g=>{b with eY:=g}
abbrev acR:aG gj aW:=.str (bh (bh fD)) 2 gj.b2 λb g=>{b with b2:=g}
instance:dH gj:=.str (.b (.b .a))
instance Dg:dn prog 313 (r:gj):=.i
instance:b6 prog 313 0 ac1:=.i underlying313 o gR
instance:b6 prog 313 1 ac2:=.i underlying313 o gR
instance:b6 prog 313 2 acR:=.i underlying313 o e3
instance:fi prog 313 #[(0,1),(1,1),(2,2)]:=.i
instance Ax:bR prog 313 gj:=.i
instance:gN prog 243 313 gj:=⟨underlying243,Ax⟩
structure dw where
 cm:Int
 fr:Int
 gm:Int
 bW:ByteArray
 eY:ByteArray
 b2:aW
 deriving DecidableEq,Inhabited
instance:ah dw:=.str (cT Int (cT Int (cT Int (cT cC (cT cC (fw aW)))))) (λx=>(x.cm,x.fr,x.gm,x.bW,x.eY,x.b2)) 7
abbrev Ub:aG dw Int:=.str cW 0 dw.cm λb g=>{b with cm:=g}
abbrev Jp:aG dw Int:=.str (bh cW) 1 dw.fr λb g=>{b with fr:=g}
abbrev Jq:aG dw Int:=.str (bh (bh cW)) 2 dw.gm λb g=>{b with gm:=g}
abbrev ad0:aG dw cC:=.str (bh (bh (bh cW))) 3 dw.bW λb g=>{b with bW:=g}
abbrev ad1:aG dw cC:=.str (bh (bh (bh (bh cW)))) 4 dw.eY λb g=>{b with eY:=g}
abbrev adD:aG dw aW:=.str (bh (bh (bh (bh (bh fD))))) 5 dw.b2 λb g=>{b with b2:=g}
instance:dH dw:=.str (.b (.b (.b (.b (.b .a)))))
instance ani:dn prog 375 (r:dw):=.i
instance aj7:b6 prog 375 0 Ub:=.i underlying375 o bz
instance:b6 prog 375 5 adD:=.i underlying375 o e3
instance:fi prog 375 #[(0,1),(1,1),(2,1),(3,1),(4,1),(5,2)]:=.i
instance Za:bR prog 375 dw:=.i
instance:gN prog 306 375 dw:=⟨underlying306,Za⟩
structure fI where
 cO:Int
 ia:ByteArray
 rA:Int
 deriving DecidableEq,Inhabited
instance:ah fI:=.str (cT Int (cT cC (fw Int))) (λx=>(x.cO,x.ia,x.rA)) 3
abbrev BH:aG fI Int:=.str cW 0 fI.cO λb g=>{b with cO:=g}
abbrev EK:aG fI cC:=.str (bh cW) 1 fI.ia λb g=>{b with ia:=g}
abbrev aeg:aG fI Int:=.str (bh (bh fD)) 2 fI.rA λb g=>{b with rA:=g}
instance:dH fI:=.str (.b (.b .a))
instance yl:dn prog 424 (r:fI):=.i
instance KY:b6 prog 424 0 BH:=.i underlying424 o bz
instance aot:fi prog 424 #[(0,1),(1,1),(2,1)]:=.i
instance qt:bR prog 424 fI:=.i
structure gz where
 qm:Bool
 nq:List Int
 deriving DecidableEq,Inhabited
instance:ah gz:=.str (cT aI (fw (R Int))) (λx=>(x.qm,x.nq)) 2
abbrev TU:aG gz aI:=.str cW 0 gz.qm λb g=>{b with qm:=g}
abbrev adE:aG gz (R Int):=.str (bh fD) 1 gz.nq λb g=>{b with nq:=g}
instance:dH gz:=.str (.b .a)
instance Q1:dn prog 427 (r:gz):=.i
instance aj6:b6 prog 427 0 TU:=.i underlying427 o hv
instance:b6 prog 427 1 adE:=.i underlying427 o j5
instance:fi prog 427 #[(0,1),(1,1)]:=.i
instance Q7:bR prog 427 gz:=.i
instance KZ:b6 prog 424 1 EK:=.i underlying424 o gR
instance:gN prog 376 424 fI:=⟨underlying376,qt⟩
structure bf where
 cw:List fI
 du:Int
 kH:Bool
 bL:List dw
 deriving DecidableEq,Inhabited
instance:ah bf:=.str (cT (R fI) (cT Int (cT aI (fw (R dw))))) (λx=>(x.cw,x.du,x.kH,x.bL)) 4
abbrev uo:aG bf (R fI):=.str cW 0 bf.cw λb g=>{b with cw:=g}
abbrev kv:aG bf Int:=.str (bh cW) 1 bf.du λb g=>{b with du:=g}
abbrev xj:aG bf aI:=.str (bh (bh cW)) 2 bf.kH λb g=>{b with kH:=g}
abbrev kL:aG bf (R dw):=.str (bh (bh (bh fD))) 3 bf.bL λb g=>{b with bL:=g}
instance:dH bf:=.str (.b (.b (.b .a)))
instance aon:dn prog 432 (r:bf):=.i
instance yg:bR prog 376 (R fI):=.i
instance CO:b6 prog 432 0 uo:=.i underlying432 o yg
instance aom:fi prog 432 #[(0,1),(1,1),(2,1),(3,1)]:=.i
instance PQ:b6 prog 432 2 xj:=.i underlying432 o hv
instance xP:b6 prog 432 1 kv:=.i underlying432 o bz
instance Aw:bR prog 306 (R dw):=.i
instance PV:b6 prog 432 3 kL:=.i underlying432 o Aw
instance:b6 prog 375 3 ad0:=.i underlying375 o gR
instance:b6 prog 375 4 ad1:=.i underlying375 o gR
instance PS:b6 prog 375 1 Jp:=.i underlying375 o bz
instance PT:b6 prog 375 2 Jq:=.i underlying375 o bz
def wm(g:bf->aw (Int×bf)):Prop:=∀(c:bf) (d:Nat) (e:aw Nat) (f:Nat) (a:Int×bf),g c=y a->bn prog 320 [J.eq (.pointer (y ⟨d,0,E⟩))] [⟨y d,.bF (({c with bL:=[]}:bf):bf) [(3,aH e (D c.bL) f)]⟩,⟨e,.row 375 (c.bL:R dw) f⟩] (aX:=bN) (λb=>B a.1) (λb=>[⟨y d,.bF (({a.2 with bL:=[]}:bf):bf) [(3,aH b.1 (D a.2.bL) b.2)]⟩,⟨b.1,.row 375 (a.2.bL:R dw) b.2⟩])
def akf:iP prog 432 [3]:=by unfold iP;kernel_rfl
def amu:j8 prog 311 gJ 2:=xI (k:=1) o underlying311 (by kernel_rfl) λd aq e f g h x c a b=>by
 refine vM (mc N8 gR o (by rfl) Mw (by omega) a b (mc N9 gR o (by rfl) Mw (by omega) a b xS)) ?_;congr 1;rw[kW];simp only[hx,ik,xB];cases x;cases c;simp[G,N8,N9]
instance:vq prog 311 gJ 2:=⟨amu,(by kernel_rfl),rfl⟩
instance:bR prog 58 cR:=.i
instance:gN prog 79 48 bg:=⟨underlying79,lM⟩
structure fN where
 bZ:Int
 gB:Int
 b2:aW
 deriving DecidableEq,Inhabited
instance:ah fN:=.str (cT Int (cT Int (fw aW))) (λx=>(x.bZ,x.gB,x.b2)) 4
abbrev NA:aG fN Int:=.str cW 0 fN.bZ λb g=>{b with bZ:=g}
abbrev NQ:aG fN Int:=.str (bh cW) 1 fN.gB λb g=>{b with gB:=g}
abbrev NB:aG fN aW:=.str (bh (bh fD)) 2 fN.b2 λb g=>{b with b2:=g}
instance:dH fN:=.str (.b (.b .a))
structure gr where
 dN:fN
 j2:Int
 ka:Int
 deriving DecidableEq,Inhabited
instance:ah gr:=.str (cT fN (cT Int (fw Int))) (λx=>(x.dN,x.j2,x.ka)) 6
abbrev ID:aG gr fN:=.str cW 0 gr.dN λb g=>{b with dN:=g}
abbrev IE:aG gr Int:=.str (bh cW) 4 gr.j2 λb g=>{b with j2:=g}
abbrev Iq:aG gr Int:=.str (bh (bh fD)) 5 gr.ka λb g=>{b with ka:=g}
instance:dH gr:=.str (.b (.b .a))
instance LF:dn prog 141 (r:fN):=.i
instance:b6 prog 141 0 NA:=.i underlying141 o bz
instance:b6 prog 141 1 NQ:=.i underlying141 o bz
instance:b6 prog 141 2 NB:=.i underlying141 o e3
instance:fi prog 141 #[(0,1),(1,1),(2,2)]:=.i
instance rr:bR prog 141 fN:=.i
instance:gN prog 130 141 fN:=⟨underlying130,rr⟩
instance qu:bR prog 143 gr:=.i
instance:gN prog 135 143 gr:=⟨underlying135,qu⟩
instance XD:b6 prog 143 0 ID:=.i underlying143 o rr
def Yr:j8 prog 141 fN 3:=xI (k:=2) o underlying141 (by kernel_rfl) λd aq e f g h x c a b=>by
 refine vM (mc NA bz o (by rfl) AL (by omega) a b (mc NQ bz o (by rfl) AL (by omega) a b (mc NB e3 o (by rfl) wq (by omega) a b xS))) ?_;congr 1;rw[kW];simp only[hx,ik,xB];cases x;cases c;simp[G,NA,NQ,NB]
instance:vq prog 141 fN 3:=⟨Yr,(by kernel_rfl),rfl⟩
instance XE:b6 prog 143 1 IE:=.i underlying143 o bz
instance XF:b6 prog 143 2 Iq:=.i underlying143 o bz
instance Dk:dn prog 143 (r:gr):=.i
instance anO:fi prog 143 #[(0,4),(4,1),(5,1)]:=.i
inductive Cell where
 |mw (x:gG) (key:Option Nat) (cap:Nat)
 |sH (x:List (Int×Ref))
 |sI (x:ll)
 |sD (x:List (cQ×kN))
 |AE (x:qh)
 |uZ (x:jE)
 |lv (x:List (Int×aJ))
 |sG (x:kz)
 |nz (x:List ((Vector aW 4)×Ref))
 |qw (x:List ((Vector aW 4)×Int))
 |Dr (x:sh)
 |u6 (x:fT) (key:Option Nat) (cap:Nat)
 |tF (x:List (fY×Bool))
 |iK (x:fJ)
 |lz (x:h6)
instance:eA Cell where
 gD p k:=match k with
  | .mw x key cap=>[⟨y p,.bF ({x with gT:=[]}:gG) [(3,aH key (D x.gT) cap)]⟩,⟨key,.row 180 (x.gT:R gq) cap⟩]
  | .sH x=>[⟨y p,.map x⟩]
  | .sI x=>[⟨y p,.var x⟩]
  | .sD x=>[⟨y p,.map x⟩]
  | .AE x=>[⟨y p,.var x⟩]
  | .uZ x=>[⟨y p,.var x⟩]
  | .lv x=>[⟨y p,.map x⟩]
  | .sG x=>[⟨y p,.var x⟩]
  | .nz x=>[⟨y p,.map x⟩]
  | .qw x=>[⟨y p,.map x⟩]
  | .Dr x=>[⟨y p,.var x⟩]
  | .u6 x key cap=>[⟨y p,.bF ({x with cw:=[]}:fT) [(10,aH key (D x.cw) cap)]⟩,⟨key,.row 70 (x.cw:R aJ) cap⟩]
  | .tF x=>[⟨y p,.map x⟩]
  | .iK x=>[⟨y p,.var x⟩]
  | .lz x=>[⟨y p,.var x⟩]
 root p k:=by cases k <;> exact⟨_,jS ..,rfl⟩
def hN(a:aL Cell)(b:Nat):aw (gG×aw Nat×Nat):=match pat a b with
 |some (.mw x c d)=>y (x,c,d)
 |_=>E
def pE{a:aL Cell}{b:Nat}{x:gG×aw Nat×Nat}(h:hN a b=y x):pat a b=y (.mw x.1 x.2.1 x.2.2):=by
 unfold hN at h;split at h
 ·rename_i c;cases h;exact c
 cases h
instance:ab5 gG hN (λx=>{x.1 with gT:=[]}) (λx=>[(3,aH x.2.1 (D x.1.gT) x.2.2)]):=⟨λh=>⟨_,_,pE h,rfl⟩⟩
def lu(a:aL Cell)(b:Nat):aw (R (Int×Ref)):=match pat a b with
 |some (.sH x)=>y x
 |_=>E
def wj{a:aL Cell}{b:Nat}{x:R (Int×Ref)}(h:lu a b=y x):pat a b=y (.sH x):=by
 unfold lu at h;split at h
 ·rename_i c;cases h;exact c
 cases h
def jd(a:aL Cell)(b:Nat):aw ll:=match pat a b with
 |some (.sI x)=>y x
 |_=>E
def uO{a:aL Cell}{b:Nat}{x:ll}(h:jd a b=y x):pat a b=y (.sI x):=by
 unfold jd at h;split at h
 ·rename_i c;cases h;exact c
 cases h
instance:j9 ll jd:=⟨λh=>⟨_,uO h,rfl⟩⟩
def pJ(a:aL Cell)(b:Nat):aw (R (cQ×kN)):=match pat a b with
 |some (.sD x)=>y x
 |_=>E
def uP{a:aL Cell}{b:Nat}{x:R (cQ×kN)}(h:pJ a b=y x):pat a b=y (.sD x):=by
 unfold pJ at h;split at h
 ·rename_i c;cases h;exact c
 cases h
def pI(a:aL Cell)(b:Nat):aw qh:=match pat a b with
 |some (.AE x)=>y x
 |_=>E
def QJ{a:aL Cell}{b:Nat}{x:qh}(h:pI a b=y x):pat a b=y (.AE x):=by
 unfold pI at h;split at h
 ·rename_i c;cases h;exact c
 cases h
instance:j9 qh pI:=⟨λh=>⟨_,QJ h,rfl⟩⟩
def n1(a:aL Cell)(b:Nat):aw jE:=match pat a b with
 |some (.uZ x)=>y x
 |_=>E
def uQ{a:aL Cell}{b:Nat}{x:jE}(h:n1 a b=y x):pat a b=y (.uZ x):=by
 unfold n1 at h;split at h
 ·rename_i c;cases h;exact c
 cases h
instance:j9 jE n1:=⟨λh=>⟨_,uQ h,rfl⟩⟩
def lL(a:aL Cell)(b:Nat):aw (R (Int×aJ)):=match pat a b with
 |some (.lv x)=>y x
 |_=>E
def tu{a:aL Cell}{b:Nat}{x:R (Int×aJ)}(h:lL a b=y x):pat a b=y (.lv x):=by
 unfold lL at h;split at h
 ·rename_i c;cases h;exact c
 cases h
def jc(a:aL Cell)(b:Nat):aw kz:=match pat a b with
 |some (.sG x)=>y x
 |_=>E
def An{a:aL Cell}{b:Nat}{x:kz}(h:jc a b=y x):pat a b=y (.sG x):=by
 unfold jc at h;split at h
 ·rename_i c;cases h;exact c
 cases h
instance:j9 kz jc:=⟨λh=>⟨_,An h,rfl⟩⟩
def kX(a:aL Cell)(b:Nat):aw (R ((ck aW 4)×Ref)):=match pat a b with
 |some (.nz x)=>y x
 |_=>E
def oR{a:aL Cell}{b:Nat}{x:R ((ck aW 4)×Ref)}(h:kX a b=y x):pat a b=y (.nz x):=by
 unfold kX at h;split at h
 ·rename_i c;cases h;exact c
 cases h
def oW(a:aL Cell)(b:Nat):aw (R ((ck aW 4)×Int)):=match pat a b with
 |some (.qw x)=>y x
 |_=>E
def uR{a:aL Cell}{b:Nat}{x:R ((ck aW 4)×Int)}(h:oW a b=y x):pat a b=y (.qw x):=by
 unfold oW at h;split at h
 ·rename_i c;cases h;exact c
 cases h
def pH(a:aL Cell)(b:Nat):aw sh:=match pat a b with
 |some (.Dr x)=>y x
 |_=>E
def G4{a:aL Cell}{b:Nat}{x:sh}(h:pH a b=y x):pat a b=y (.Dr x):=by
 unfold pH at h;split at h
 ·rename_i c;cases h;exact c
 cases h
instance:j9 sh pH:=⟨λh=>⟨_,G4 h,rfl⟩⟩
def ru(a:aL Cell)(b:Nat):aw (fT×aw Nat×Nat):=match pat a b with
 |some (.u6 x c d)=>y (x,c,d)
 |_=>E
def Ao{a:aL Cell}{b:Nat}{x:fT×aw Nat×Nat}(h:ru a b=y x):pat a b=y (.u6 x.1 x.2.1 x.2.2):=by
 unfold ru at h;split at h
 ·rename_i c;cases h;exact c
 cases h
def yi(a:aL Cell)(b:Nat):aw (R (fY×aI)):=match pat a b with
 |some (.tF x)=>y x
 |_=>E
def Yn{a:aL Cell}{b:Nat}{x:R (fY×aI)}(h:yi a b=y x):pat a b=y (.tF x):=by
 unfold yi at h;split at h
 ·rename_i c;cases h;exact c
 cases h
def dp(a:aL Cell)(b:Nat):aw fJ:=match pat a b with
 |some (.iK x)=>y x
 |_=>E
def rl{a:aL Cell}{b:Nat}{x:fJ}(h:dp a b=y x):pat a b=y (.iK x):=by
 unfold dp at h;split at h
 ·rename_i c;cases h;exact c
 cases h
instance:j9 fJ dp:=⟨λh=>⟨_,rl h,rfl⟩⟩
def gK(a:aL Cell)(b:Nat):aw h6:=match pat a b with
 |some (.lz x)=>y x
 |_=>E
def xW{a:aL Cell}{b:Nat}{x:h6}(h:gK a b=y x):pat a b=y (.lz x):=by
 unfold gK at h;split at h
 ·rename_i c;cases h;exact c
 cases h
instance:j9 h6 gK:=⟨λh=>⟨_,xW h,rfl⟩⟩
end Go.Proofs.YtmcjlfmeoehcmaaGreat
