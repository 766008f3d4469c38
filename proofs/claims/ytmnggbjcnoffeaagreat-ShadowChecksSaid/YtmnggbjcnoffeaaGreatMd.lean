/-
  Each function of the translation as a functional program. Conditions: none.
-/
import Derived.Test.YtmnggbjcnoffeaaGreatMt
namespace Go.Proofs.YtmnggbjcnoffeaaGreat
open Go Gv
set_option linter.unusedVariables false
set_option linter.unusedSimpArgs false
set_option maxRecDepth 100000
def tz (aa:List (BitVec 8)) (ai:Int):Option bI:=
 (tX aa 0 (min (aa.length:Int) ai)).bind fun aD=>
 some ({ (default:bI) with ef:=aD } :bI)
def BH (aa:bI):Option Bool:=
 some (decide (aa.q6 < (aa.ef.length:Int)))
def fM (aa:bI) (ai:Int):Option (Int × bI):=
 (BH aa).bind fun aD=>
 cond ((!aD) || (decide (ai < 1))) (
  some (0,aa)) (
  (idx aa.ef.length (bm ((bm (aa.q6 + 1)) - 1))).bind fun aV=>
  (nE ((aB aa.ef aV).toNat:Int) ai).bind fun aM=>
  some (aM,({ aa with q6:=bm (aa.q6 + 1) } :bI)))
def kW (aa:bI):Option (Bool × bI):=
 (fM aa 2).bind fun aD=>
 some (aD.1 ==1,aD.2)
def xF (aa:bI):Option ((List dy) × bI):=
 (fM aa 4).bind fun aD=>
 (idx (([0,0,65535,3]:List Int).length) aD.1).bind fun aV=>
 (some ({ bW:=({ (default:aw) with b7:=1#64 } :aw),bR:=({ (default:aw) with b7:=15#64 } :aw),oW:=2:gm })).bind fun bN=>
 (some ({ bW:=({ (default:aw) with b7:=2#64 } :aw),bR:=({ (default:aw) with b7:=3#64 } :aw),oW:=3:gm })).bind fun c7=>
 (kW aD.2).bind fun aM=>
 (cond aM.1 (
  (fM aM.2 2).bind fun cM=>
  (some (({ (default:aw) with b7:=BitVec.ofInt 64 (bm (8 * cM.1)) } :aw))).bind fun jM=>
  (fM cM.2 4).bind fun dv=>
  (idx (([0,0,65535,3]:List Int).length) dv.1).bind fun cb=>
  (some ({ bW:=jM,bR:=({ (default:aw) with b7:=8#64 } :aw),oW:=aB ([0,0,65535,3]:List Int) cb:gm })).bind fun hB=>
  (fP 40 [bN,c7] [hB]).bind fun eU=>
  some (dv.2,eU)) (
  some (aM.2,[bN,c7]))).bind fun bJ=>
 (fM bJ.1 4).bind fun a8=>
 (idx (([0,0,65535,3]:List Int).length) a8.1).bind fun bu=>
 (some (({ (default:dy) with bU:=2,hW:=2,g4:=aB ([0,0,65535,3]:List Int) bu } :dy))).bind fun fA=>
 (some (({ (default:dy) with bU:=3,hW:=3,mM:=9,g4:=0 } :dy))).bind fun hj=>
 (fM a8.2 3).bind fun br=>
 (cond (br.1 ==1) (
  (fM br.2 3).bind fun cj=>
  (some ({ bW:=({ (default:aw) with b7:=5#64 } :aw),bR:=({ (default:aw) with b7:=15#64 } :aw),oW:=bm (1 + cj.1):gm })).bind fun kc=>
  some (cj.2,({ hj with n9:= [kc] } :dy))) (
  some (br.2,hj))).bind fun cy=>
 (some (({ ({ (default:dy) with bU:=1,hW:=1,mM:=4,g4:=aB ([0,0,65535,3]:List Int) aV } :dy) with n9:=bJ.2 } :dy))).bind fun hk=>
 some ([hk,fA,cy.2],cy.1)
def xC (aa:bI):Option ((List dL) × bI):=
 (some (({ (default:dL) with bU:=1,cm:=ByteArray.mk #[110,111,112] } :dL))).bind fun bN=>
 (some (({ (default:dL) with bU:=2,cm:=ByteArray.mk #[100,114,111,112],nr:= [({ (default:eY) with hY:=6 } :eY)] } :dL))).bind fun c7=>
 (some ({ cm:=ByteArray.mk #[112,111,114,116],e7:=16:ia })).bind fun fA=>
 (some (({ (default:eY) with hY:=7,ko:=({ (default:fC) with cS:=3 } :fC) } :eY))).bind fun hj=>
 (some (({ (default:dL) with bU:=3,cm:=ByteArray.mk #[102,111,114,119,97,114,100],jS:= [fA],nr:= [hj] } :dL))).bind fun hk=>
 (some ({ hY:=1,jo:=5,ko:=({ (default:fC) with cS:=3 } :fC):eY })).bind fun kc=>
 (some (({ (default:fC) with cS:=2,uN:=5 } :fC))).bind fun jM=>
 (some (({ (default:dL) with bU:=4,cm:=ByteArray.mk #[116,97,103],jS:= [{ cm:=ByteArray.mk #[120],e7:=4:ia }],nr:= [kc,{ hY:=2,jo:=3,ko:=jM:eY }] } :dL))).bind fun hB=>
 (some ([{ cm:=ByteArray.mk #[120],e7:=4:ia },{ cm:=ByteArray.mk #[121],e7:=12:ia }])).bind fun lr=>
 (some ({ hY:=1,jo:=9,ko:=({ (default:fC) with cS:=3 } :fC):eY })).bind fun kN=>
 (some (({ (default:fC) with cS:=3,uN:=1 } :fC))).bind fun ks=>
 (some ([({ (default:eY) with hY:=4,jo:=3 } :eY),kN,{ hY:=3,jo:=8,ko:=ks:eY }])).bind fun lJ=>
 (some (({ (default:dL) with bU:=5,cm:=ByteArray.mk #[119,114,97,112],jS:=lr,nr:=lJ } :dL))).bind fun kt=>
 (fM aa 2).bind fun aD=>
 (some (({ (default:eY) with hY:=5,jo:=bm (2 + aD.1) } :eY))).bind fun kO=>
 (fM aD.2 256).bind fun aM=>
 (some (({ (default:aw) with b7:=BitVec.ofInt 64 aM.1 } :aw))).bind fun nI=>
 (some (({ (default:fC) with cS:=1,bW:=nI } :fC))).bind fun oC=>
 (some (({ (default:dL) with bU:=6,cm:=ByteArray.mk #[115,116,114,105,112],nr:= [kO,{ hY:=2,jo:=6,ko:=oC:eY }] } :dL))).bind fun mx=>
 (kW aM.2).bind fun a8=>
 (cond a8.1 (
  (idx ([bN,c7,hk,hB,kt,mx].length) 2).bind fun bu=>
  (some (et [bN,c7,hk,hB,kt,mx] bu ({ (aB [bN,c7,hk,hB,kt,mx] bu) with pE:=ByteArray.mk #[112,111,114,116,32,33,61,32,48] } :dL))).bind fun p4=>
  some p4) (
  some [bN,c7,hk,hB,kt,mx])).bind fun bJ=>
 (kW a8.2).bind fun br=>
 (cond br.1 (
  (idx bJ.length 4).bind fun aV=>
  (some (et bJ aV ({ (aB bJ aV) with pE:=ByteArray.mk #[120,32,60,32,121,32,124,124,32,120,32,61,61,32,49,53] } :dL))).bind fun rj=>
  some rj) (
  some bJ)).bind fun cy=>
 some (cy,br.2)
def xH (aa:bI):Option ((List bX) × bI):=
 (some ({ cm:=ByteArray.mk #[97],gn:=4,cS:=1:cJ })).bind fun bN=>
 (fM aa 2).bind fun aD=>
 (fM aD.2 5).bind fun aM=>
 (some (({ (default:bX) with bU:=1,cm:=ByteArray.mk #[112,111,114,116,115],bQ:= [bN],di:=([1,2,4]:List Int),g4:=bm (1 + aD.1),iv:=bm (2 + aM.1) } :bX))).bind fun c7=>
 (some ({ cm:=ByteArray.mk #[100],gn:=7,cS:=2:cJ })).bind fun fA=>
 (fM aM.2 6).bind fun a8=>
 (kW a8.2).bind fun br=>
 (cond br.1 (
  (some ({ cm:=ByteArray.mk #[109],gn:=3,cS:=1:cJ })).bind fun oC=>
  (fP 32 [fA] [oC]).bind fun iK=>
  some (({ ({ (default:bX) with bU:=2,cm:=ByteArray.mk #[114,111,117,116,101,115],di:=([1,2,3,4]:List Int),g4:=2,iv:=bm (3 + a8.1) } :bX) with bQ:= [] } :bX),iK)) (
  some (({ (default:bX) with bU:=2,cm:=ByteArray.mk #[114,111,117,116,101,115],di:=([1,2,3,4]:List Int),g4:=2,iv:=bm (3 + a8.1) } :bX),[fA]))).bind fun bJ=>
 (some ({ cm:=ByteArray.mk #[101],gn:=6,cS:=3:cJ })).bind fun hj=>
 (some ({ cm:=ByteArray.mk #[97],gn:=4,cS:=3:cJ })).bind fun hk=>
 (fM br.2 6).bind fun cj=>
 (kW cj.2).bind fun cM=>
 (cond cM.1 (
  (some ({ cm:=ByteArray.mk #[98],gn:=5,cS:=1:cJ })).bind fun nI=>
  (fP 32 [hj,hk] [nI]).bind fun ik=>
  some (({ ({ (default:bX) with bU:=3,cm:=ByteArray.mk #[97,99,108],di:=([1,2,3,5,6]:List Int),g4:=1,iv:=bm (4 + cj.1) } :bX) with bQ:= [] } :bX),ik)) (
  some (({ (default:bX) with bU:=3,cm:=ByteArray.mk #[97,99,108],di:=([1,2,3,5,6]:List Int),g4:=1,iv:=bm (4 + cj.1) } :bX),[hj,hk]))).bind fun cy=>
 (some ({ cm:=ByteArray.mk #[102],gn:=8,cS:=4:cJ })).bind fun kc=>
 (fM cM.2 5).bind fun dv=>
 (kW dv.2).bind fun eU=>
 (cond eU.1 (
  (some ({ cm:=ByteArray.mk #[103],gn:=9,cS:=1:cJ })).bind fun kt=>
  (some ({ cm:=ByteArray.mk #[100],gn:=7,cS:=2:cJ })).bind fun kO=>
  (fP 32 [kc] [kt,kO]).bind fun gP=>
  some (({ ({ (default:bX) with bU:=4,cm:=ByteArray.mk #[115,112,97,110,115],di:=([1,3,5]:List Int),g4:=3,ts:= [({ (default:aw) with b7:=7#64 } :aw)],iv:=bm (3 + dv.1) } :bX) with bQ:= [] } :bX),gP)) (
  some (({ (default:bX) with bU:=4,cm:=ByteArray.mk #[115,112,97,110,115],di:=([1,3,5]:List Int),g4:=3,ts:= [({ (default:aw) with b7:=7#64 } :aw)],iv:=bm (3 + dv.1) } :bX),[kc]))).bind fun fm=>
 (some ([c7,({ bJ.1 with bQ:=bJ.2 } :bX),({ cy.1 with bQ:=cy.2 } :bX),({ fm.1 with bQ:=fm.2 } :bX)])).bind fun jM=>
 (some ([ByteArray.mk #[],ByteArray.mk #[97,32,33,61,32,48],ByteArray.mk #[97,32,60,32,49,52,32,38,38,32,97,32,33,61,32,51]])).bind fun hB=>
 (some ([ByteArray.mk #[],ByteArray.mk #[100,58,58,112,114,101,102,105,120,95,108,101,110,103,116,104,32,62,61,32,56],ByteArray.mk #[100,58,58,112,114,101,102,105,120,95,108,101,110,103,116,104,32,61,61,32,51,50,32,45,62,32,100,58,58,118,97,108,117,101,32,62,32,48,120,102,102]])).bind fun lr=>
 (some ([ByteArray.mk #[],ByteArray.mk #[112,114,105,111,114,105,116,121,32,60,32,49,48,48,32,38,38,32,40,101,58,58,109,97,115,107,32,33,61,32,48,32,124,124,32,97,58,58,109,97,115,107,32,33,61,32,48,41],ByteArray.mk #[101,58,58,109,97,115,107,32,61,61,32,48,32,45,62,32,112,114,105,111,114,105,116,121,32,62,32,53]])).bind fun kN=>
 (some ([ByteArray.mk #[],ByteArray.mk #[102,58,58,104,105,103,104,32,45,32,102,58,58,108,111,119,32,60,61,32,48,120,49,48,48],ByteArray.mk #[33,40,102,58,58,108,111,119,32,61,61,32,48,32,38,38,32,102,58,58,104,105,103,104,32,62,32,49,48,48,48,41]])).bind fun ks=>
 (dn (σ:=Int × (List bX) × bI) (ε:=(Int × Bool × (List bX) × bI)) da (fun s1=>
  cond (decide (s1.1 < (jM.length:Int))) (
   (idx ([hB,lr,kN,ks].length) s1.1).bind fun aV=>
   (fM s1.2.2 3).bind fun fo=>
   (idx ((aB [hB,lr,kN,ks] aV).length) fo.1).bind fun bu=>
   (idx s1.2.1.length s1.1).bind fun cb=>
   (some (et s1.2.1 cb ({ (aB s1.2.1 cb) with pE:=aB (aB [hB,lr,kN,ks] aV) bu } :bX))).bind fun lJ=>
   some (.inl (bm (s1.1 + 1),lJ,fo.2))) (
   some (.inr (s1.1,decide (s1.1 < (jM.length:Int)),s1.2.1,s1.2.2)))) (0,jM,eU.2)).bind fun ay=>
 some (ay.2.2.1,ay.2.2.2)
def xP (aa:bI) (ai:List bX):Option ((List cI) × bI):=
 (fM aa 3).bind fun aD=>
 (fM aD.2 6).bind fun aM=>
 (fM aM.2 6).bind fun a8=>
 (fM a8.2 4).bind fun br=>
 (dn (σ:=Int × cI × (List dq) × bI × cI × (List dq) × cI × (List dq)) (ε:=(Int × Bool × cI × (List dq) × bI × cI × (List dq) × cI × (List dq))) da (fun s1=>
  cond (decide (s1.1 < (ai.length:Int))) (
   (idx ai.length s1.1).bind fun aV=>
   (rm (α:=Bool) 1 (((aB ai aV).bQ).length:Int)).bind fun cj=>
   (rm (α:=Bool) 1 (((aB ai aV).bQ).length:Int)).bind fun cM=>
   (dn (σ:=Int × (List Bool) × (List Bool) × bI) (ε:=(Int × Bool × (List Bool) × (List Bool) × bI)) da (fun s2=>
    cond (decide (s2.1 < (cj.length:Int))) (
     (fM s2.2.2.2 4).bind fun dv=>
     (idx s2.2.2.1.length s2.1).bind fun bu=>
     (idx s2.2.1.length s2.1).bind fun cb=>
     some (.inl (bm (s2.1 + 1),et s2.2.1 cb (decide (dv.1 > 0)),et s2.2.2.1 bu true,dv.2))) (
     some (.inr (s2.1,decide (s2.1 < (cj.length:Int)),s2.2.1,s2.2.2.1,s2.2.2.2)))) (0,cM,cj,s1.2.2.2.1)).bind fun aS=>
   (some ({ dJ:=(aB ai aV).bU,qI:=true,qC:=true,bQ:=aS.2.2.2.1:dq })).bind fun bN=>
   (fP 40 s1.2.2.2.2.2.2.2 [bN]).bind fun eU=>
   (fM aS.2.2.2.2 4).bind fun fo=>
   (cond (decide (fo.1 > 0)) (
    (fM fo.2 4).bind fun la=>
    (kW la.2).bind fun sQ=>
    (some ({ dJ:=(aB ai aV).bU,qI:=decide (la.1 > 0),qC:=sQ.1,bQ:=aS.2.2.1:dq })).bind fun fA=>
    (fP 40 s1.2.2.2.2.2.1 [fA]).bind fun sR=>
    some (sQ.2,({ s1.2.2.2.2.1 with iQ:= [] } :cI),sR)) (
    some (fo.2,s1.2.2.2.2.1,s1.2.2.2.2.2.1))).bind fun bJ=>
   (kW bJ.1).bind fun gP=>
   (cond gP.1 (
    (kW gP.2).bind fun ik=>
    (kW ik.2).bind fun iK=>
    (some ({ dJ:=(aB ai aV).bU,qI:=ik.1,qC:=iK.1,bQ:=aS.2.2.2.1:dq })).bind fun c7=>
    (fP 40 s1.2.2.1 [c7]).bind fun j2=>
    some (iK.2,({ s1.2.1 with iQ:= [] } :cI),j2)) (
    some (gP.2,s1.2.1,s1.2.2.1))).bind fun cy=>
   some (.inl (bm (s1.1 + 1),cy.2.1,cy.2.2,cy.1,bJ.2.1,bJ.2.2,({ s1.2.2.2.2.2.2.1 with iQ:= [] } :cI),eU))) (
   some (.inr (s1.1,decide (s1.1 < (ai.length:Int)),s1.2.1,s1.2.2.1,s1.2.2.2.1,s1.2.2.2.2.1,s1.2.2.2.2.2.1,s1.2.2.2.2.2.2.1,s1.2.2.2.2.2.2.2)))) (0,({ (default:cI) with bU:=7,cm:=ByteArray.mk #[102,101,119],di:= [bm (1 + a8.1)],qB:=br.1 } :cI),([]:List dq),br.2,({ (default:cI) with bU:=2,cm:=ByteArray.mk #[115,111,109,101],di:=([1,2,bm (3 + aD.1)]:List Int),qB:=bm (1 + aM.1) } :cI),([]:List dq),({ (default:cI) with bU:=1,cm:=ByteArray.mk #[97,108,108],di:=([1,2,3,4,5,6]:List Int),qB:=40,yR:=true } :cI),([]:List dq))).bind fun ay=>
 (some (({ ay.2.2.2.2.2.2.2.1 with iQ:=ay.2.2.2.2.2.2.2.2 } :cI))).bind fun hj=>
 (some ([hj,({ ay.2.2.2.2.2.1 with iQ:=ay.2.2.2.2.2.2.1 } :cI),({ ay.2.2.1 with iQ:=ay.2.2.2.1 } :cI)])).bind fun hk=>
 some (hk,ay.2.2.2.2.1)
def vr (aa:bI):Option (a0 × bI):=
 (fM aa 8).bind fun aD=>
 (fM aD.2 30).bind fun aM=>
 (some ({ bU:=1,cm:=ByteArray.mk #[105,110,103,114,101,115,115],e7:=16:fj })).bind fun bN=>
 (some ({ bU:=2,cm:=ByteArray.mk #[101,103,114,101,115,115],e7:=16:fj })).bind fun c7=>
 (some ({ bU:=3,cm:=ByteArray.mk #[109,101,116,97],e7:=8:fj })).bind fun fA=>
 (some ({ bU:=6,cm:=ByteArray.mk #[101],e7:=8:fj })).bind fun hj=>
 (some ({ bU:=7,cm:=ByteArray.mk #[100],e7:=32:fj })).bind fun hk=>
 (some ({ bU:=8,cm:=ByteArray.mk #[102],e7:=12:fj })).bind fun kc=>
 (some ({ bU:=9,cm:=ByteArray.mk #[103],e7:=4:fj })).bind fun jM=>
 (some ([bN,c7,fA,{ bU:=4,cm:=ByteArray.mk #[97],e7:=4:fj },{ bU:=5,cm:=ByteArray.mk #[98],e7:=4:fj },hj,hk,kc,jM])).bind fun hB=>
 (some (({ ({ (default:a0) with yy:=bm (2 + aD.1),yJ:=bm (12 + aM.1) } :a0) with fg:=hB } :a0))).bind fun lr=>
 (some ({ bU:=1,cm:=ByteArray.mk #[111,110,101],fg:=([4,5,6]:List Int):jj })).bind fun kN=>
 (some ({ bU:=2,cm:=ByteArray.mk #[116,119,111],fg:=([7]:List Int):jj })).bind fun ks=>
 (some ({ bU:=3,cm:=ByteArray.mk #[116,104,114,101,101],fg:=([8,9]:List Int):jj })).bind fun lJ=>
 (xF aM.2).bind fun a8=>
 (xC a8.2).bind fun br=>
 (xH br.2).bind fun cj=>
 (some (({ ({ lr with lA:= [kN,ks,lJ] } :a0) with lW:=a8.1 } :a0))).bind fun kt=>
 (some (({ ({ kt with di:=br.1 } :a0) with bB:=cj.1 } :a0))).bind fun kO=>
 (xP cj.2 kO.bB).bind fun cM=>
 (some ([{ dJ:=1,hW:=1:fD },{ dJ:=2,hW:=2:fD },({ (default:fD) with dJ:=3 } :fD),{ dJ:=4,hW:=3:fD }])).bind fun nI=>
 (kW cM.2).bind fun dv=>
 (cond dv.1 (
  (fP 16 nI [({ (default:fD) with dJ:=1 } :fD)]).bind fun la=>
  some la) (
  some nI)).bind fun bJ=>
 (kW dv.2).bind fun eU=>
 (cond eU.1 (
  (some (({ (default:eZ) with dJ:=2,lB:=4,oP:=1 } :eZ))).bind fun HM=>
  (fP 48 ([]:List eZ) [HM]).bind fun j2=>
  some (({ ({ ({ kO with jl:=cM.1 } :a0) with mN:= [] } :a0) with ns:= [] } :a0),j2)) (
  some (({ ({ kO with jl:=cM.1 } :a0) with mN:= [] } :a0),([]:List eZ)))).bind fun cy=>
 (kW eU.2).bind fun fo=>
 (cX fo.1 true (idx cy.1.bB.length 2)).bind fun aV=>
 (cond (fo.1 && ((((aB cy.1.bB aV).bQ).length:Int) ==3)) (
  (some (({ (default:eZ) with dJ:=3,uj:=2,oP:=1 } :eZ))).bind fun p4=>
  (fP 48 cy.2 [p4]).bind fun iK=>
  some (({ cy.1 with ns:= [] } :a0),iK)) (
  some (cy.1,cy.2))).bind fun fm=>
 (kW fo.2).bind fun gP=>
 (cX gP.1 true (idx fm.1.bB.length 3)).bind fun bu=>
 (cond (gP.1 && ((((aB fm.1.bB bu).bQ).length:Int) ==3)) (
  (some (({ (default:eZ) with dJ:=4,uj:=1,oP:=1 } :eZ))).bind fun mx=>
  (some (({ (default:eZ) with dJ:=4,lB:=5,oP:=1 } :eZ))).bind fun rj=>
  (fP 48 fm.2 [mx,rj]).bind fun ik=>
  some (({ fm.1 with ns:= [] } :a0),ik)) (
  some (fm.1,fm.2))).bind fun oI=>
 (some (({ ({ oI.1 with mN:=bJ } :a0) with ns:=oI.2 } :a0))).bind fun oC=>
 some (oC,gP.2)
def r1 (aa:Int) (ai:Int):Option Int:=
 cond (decide (ai < 1)) (
  some 0) (
  (nE aa ai).bind fun aD=>
  (nE (bm (aD + ai)) ai).bind fun aM=>
  some aM)
def Bx (aa:bX) (ai:Int):Option Bool:=
 some (aa.bU ==ai)
def xu (aa:List bX) (ai:bX→Option Bool):Option Int:=
 (dn (σ:=Int) (ε:=(Int × Bool) ⊕ (Int × Int × Int × Bool × Bool)) da (fun s1=>
  cond (decide (s1 < (aa.length:Int))) (
   (idx aa.length s1).bind fun aV=>
   (ai (aB aa aV)).bind fun aD=>
   cond aD (
    some (.inr (Sum.inr (s1,s1,s1,decide (s1 < (aa.length:Int)),aD)))) (
    some (.inl (bm (s1 + 1))))) (
   some (.inr (Sum.inl (s1,decide (s1 < (aa.length:Int))))))) 0).bind fun ay=>
  Sum.elim (fun ay=>
   some (-1)) (fun ay=>
  some ay.1) ay
def rT (aa:a0) (ai:Int):Option Int:=
 (xu aa.bB (fun fT=>Bx fT ai)).bind fun aD=>
 some aD
def vH (aa:bX):Option (Int × Int):=
 (dn (σ:=Int × Int × Int) (ε:=(Int × Int × Int × Bool)) da (fun s1=>
  cond (decide (s1.2.2 < (aa.bQ.length:Int))) (
   (idx aa.bQ.length s1.2.2).bind fun aV=>
   (cond (((aB aa.bQ aV).cS) ==1) (
    some (s1.1,s1.2.1)) (
    (cond (((aB aa.bQ aV).cS) ==2) (
     some (max s1.1 2,s1.2.2)) (
     some (3,s1.2.1))).bind fun cy=>
    some (cy.1,cy.2))).bind fun bJ=>
   some (.inl (bJ.1,bJ.2,bm (s1.2.2 + 1)))) (
   some (.inr (s1.1,s1.2.1,s1.2.2,decide (s1.2.2 < (aa.bQ.length:Int)))))) (1,0,0)).bind fun ay=>
 some (ay.1,ay.2.1)
def B0 (hp:bg Cell):aK (Ref × (bg Cell)):=
 aK.bind (aK.mk hp (Cell.o4 ([]:List ((Vector aw 4) × Int)))) fun eL=>
 aK.bind (aK.mk eL.2 (Cell.wP ({ oY:=(⟨some eL.1⟩:gp):mK }))) fun eR=>
 aK.ret ((some eR.1:Ref),eR.2)
def By (aa:fj) (ai:Int):Option Bool:=
 some (aa.bU ==ai)
def xv (aa:List fj) (ai:fj→Option Bool):Option Int:=
 (dn (σ:=Int) (ε:=(Int × Bool) ⊕ (Int × Int × Int × Bool × Bool)) da (fun s1=>
  cond (decide (s1 < (aa.length:Int))) (
   (idx aa.length s1).bind fun aV=>
   (ai (aB aa aV)).bind fun aD=>
   cond aD (
    some (.inr (Sum.inr (s1,s1,s1,decide (s1 < (aa.length:Int)),aD)))) (
    some (.inl (bm (s1 + 1))))) (
   some (.inr (Sum.inl (s1,decide (s1 < (aa.length:Int))))))) 0).bind fun ay=>
  Sum.elim (fun ay=>
   some (-1)) (fun ay=>
  some ay.1) ay
def vy (aa:a0) (ai:Int):Option Int:=
 (xv aa.fg (fun fT=>By fT ai)).bind fun aD=>
 some aD
def EM (aa:a0):Option dM:=
 some ({ ({ (default:dM) with oR:=aa } :dM) with ef:=([]:List aU) } :dM)
def vV (hp:bg Cell) (aa:a0) (ai:Int):aK (Ref × (bg Cell)):=
 aK.bind (aK.of (rT aa ai)) fun aD=>
 cond (decide (aD < 0)) (
  aK.ret ((none:Ref),hp)) (
  aK.bind (aK.of (idx aa.bB.length aD)) fun aV=>
  aK.bind (aK.of (vH (aB aa.bB aV))) fun aM=>
  aK.bind (aK.mk hp (Cell.l6 ([]:List (Int × aU)))) fun eL=>
  aK.bind (aK.of (some (({ (default:hE) with qM:=aM.1,qN:=(((aB aa.bB aV).bQ).length:Int),mL:=(⟨some eL.1⟩:gp) } :hE)))) fun bN=>
  aK.bind (aK.mk eL.2 (Cell.m5 bN)) fun eR=>
  aK.bind (cond (aM.1 ==1) (
    aK.bind (B0 eR.2) fun a8=>
    aK.bind (aK.of (jF a8.2 eR.1)) fun cZ=>
    aK.bind (aK.of (some (ea a8.2 eR.1 (Cell.m5 ({ cZ with kj:=(g3.nB ({ rl:=a8.1:kX })) } :hE))))) fun dZ=>
    aK.ret dZ) (
    aK.bind (cond (aM.1 ==2) (
      aK.bind (aK.of (idx (((aB aa.bB aV).bQ).length) aM.2)) fun bu=>
      aK.bind (aK.of (vy aa ((aB ((aB aa.bB aV).bQ) bu).gn))) fun br=>
      aK.bind (aK.of (cond (decide (br≥0)) (
        (idx aa.fg.length br).bind fun cb=>
        some ((aB aa.fg cb).e7)) (
        some 0))) fun fm=>
      aK.bind (aK.mk eR.2 (Cell.m4 ([]:List ((Vector aw 4) × Ref)))) fun kd=>
      aK.bind (aK.of (some ({ qX:=aM.2,fU:=fm,ob:=(⟨some kd.1⟩:gp):hr }))) fun c7=>
      aK.bind (aK.of (jF kd.2 eR.1)) fun dX=>
      aK.bind (aK.of (some (ea kd.2 eR.1 (Cell.m5 ({ dX with kj:=(g3.nC c7) } :hE))))) fun e1=>
      aK.ret e1) (
      aK.bind (aK.of (EM aa)) fun cj=>
      aK.bind (aK.any (Option Nat × Nat)) fun fS=>
      aK.bind (aK.mk eR.2 (Cell.sH cj fS.1 fS.2)) fun lR=>
      aK.bind (aK.of (jF lR.2 eR.1)) fun gx=>
      aK.bind (aK.of (some (ea lR.2 eR.1 (Cell.m5 ({ gx with kj:=(g3.nD ({ ef:=(some lR.1:Ref):ki })) } :hE))))) fun iA=>
      aK.ret iA)) fun cy=>
    aK.ret cy)) fun bJ=>
  aK.ret ((some eR.1:Ref),bJ))
def xJ (aa:bI):Option Bool:=
 some (decide (aa.q6 < (aa.ef.length:Int)))
def yf (aa:a0) (ai:Int):Option Int:=
 (dn (σ:=Int) (ε:=(Int × Bool) ⊕ (Int × Int × Bool × Bool)) da (fun s1=>
  cond (decide (s1 < (aa.fg.length:Int))) (
   (idx aa.fg.length s1).bind fun aV=>
   cond (((aB aa.fg aV).bU) ==ai) (
    some (.inr (Sum.inr ((aB aa.fg aV).e7,s1,decide (s1 < (aa.fg.length:Int)),((aB aa.fg aV).bU) ==ai)))) (
    some (.inl (bm (s1 + 1))))) (
   some (.inr (Sum.inl (s1,decide (s1 < (aa.fg.length:Int))))))) 0).bind fun ay=>
  Sum.elim (fun ay=>
   some 0) (fun ay=>
  some ay.1) ay
def tA (aa:aw) (ai:Int):Option aw:=
 cond (decide (ai≥128)) (
  some aa) (
  cond (decide (ai≥64)) (
   (some (aa.dS &&& (((1#64) <<< (BitVec.ofInt 64 (bm (ai - 64))).toNat) - (1#64)))).bind fun bN=>
   some ({ dS:=bN,b7:=aa.b7:aw })) (
   cond (decide (ai≤0)) (
    some (default:aw)) (
    (some (({ (default:aw) with b7:=aa.b7 &&& (((1#64) <<< (BitVec.ofInt 64 ai).toNat) - (1#64)) } :aw))).bind fun c7=>
    some c7)))
def BW (aa:Int) (ai:Int):Option aw:=
 (some ((((1#64) <<< (BitVec.ofInt 64 aa).toNat) - (1#64)) - (((1#64) <<< (BitVec.ofInt 64 (bm (aa - ai))).toNat) - (1#64)))).bind fun bN=>
 some ({ (default:aw) with b7:=bN } :aw)
def xW (aa:bI) (ai:a0) (aR:cJ):Option (cA × bI):=
 (yf ai aR.gn).bind fun aD=>
 (fM aa 256).bind fun aM=>
 (fM aM.2 16).bind fun a8=>
 (some (((BitVec.ofInt 64 aM.1) <<< (24#64).toNat) ||| ((BitVec.ofInt 64 a8.1) <<< (8#64).toNat))).bind fun bN=>
 (fM a8.2 16).bind fun br=>
 (some (({ (default:aw) with b7:=bN ||| (BitVec.ofInt 64 br.1) } :aw))).bind fun c7=>
 (tA c7 aD).bind fun cj=>
 cond (aR.cS ==2) (
  (fM br.2 5).bind fun cM=>
  cond (decide (cM.1 > 0)) (
   (fM cM.2 aD).bind fun dv=>
   (fM dv.2 5).bind fun eU=>
   (idx ([aD,8,16,1,bm (1 + dv.1)].length) eU.1).bind fun aV=>
   (BW aD (aB [aD,8,16,1,bm (1 + dv.1)] aV)).bind fun fo=>
   (some (({ (default:aw) with b7:=cj.b7 &&& fo.b7 } :aw))).bind fun fA=>
   (some (({ (default:cA) with hV:=true,gV:=aB [aD,8,16,1,bm (1 + dv.1)] aV,bW:=fA } :cA))).bind fun hj=>
   some (hj,eU.2)) (
   some ((default:cA),cM.2))) (
  cond (aR.cS ==3) (
   (fM br.2 256).bind fun gP=>
   (fM gP.2 5).bind fun ik=>
   (idx (([255,15,1,12,gP.1]:List Int).length) ik.1).bind fun bu=>
   (some (({ (default:aw) with b7:=BitVec.ofInt 64 (aB ([255,15,1,12,gP.1]:List Int) bu) } :aw))).bind fun hk=>
   (tA hk aD).bind fun iK=>
   cond (iK.b7 !=(0#64)) (
    (some (({ (default:aw) with b7:=cj.b7 &&& iK.b7 } :aw))).bind fun kc=>
    (some (({ (default:cA) with hV:=true,bR:=iK,bW:=kc } :cA))).bind fun jM=>
    some (jM,ik.2)) (
    some ((default:cA),ik.2))) (
   cond (aR.cS ==4) (
    (fM br.2 256).bind fun j2=>
    (some (uE (cj.b7 + (BitVec.ofInt 64 j2.1)) (((1#64) <<< (BitVec.ofInt 64 aD).toNat) - (1#64)))).bind fun hB=>
    (fM j2.2 5).bind fun la=>
    (some ((decide (la.1 > 0)) && (!((cj.b7 ==(0#64)) && (hB ==(((1#64) <<< (BitVec.ofInt 64 aD).toNat) - (1#64))))))).bind fun lr=>
    cond lr (
     (some (({ (default:cA) with hV:=true,bW:=cj,oX:=({ (default:aw) with b7:=hB } :aw) } :cA))).bind fun kN=>
     some (kN,la.2)) (
     some ((default:cA),la.2))) (
    (some (({ (default:cA) with hV:=true,bW:=cj } :cA))).bind fun ks=>
    some (ks,br.2))))
def x1 (aa:a0) (ai:Int):Option dL:=
 (dn (σ:=Int) (ε:=(Int × Bool) ⊕ (Int × Bool × Bool × dL)) da (fun s1=>
  cond (decide (s1 < (aa.di.length:Int))) (
   (idx aa.di.length s1).bind fun aV=>
   cond (((aB aa.di aV).bU) ==ai) (
    some (.inr (Sum.inr (s1,decide (s1 < (aa.di.length:Int)),((aB aa.di aV).bU) ==ai,(aB aa.di aV))))) (
    some (.inl (bm (s1 + 1))))) (
   some (.inr (Sum.inl (s1,decide (s1 < (aa.di.length:Int))))))) 0).bind fun ay=>
  Sum.elim (fun ay=>
   some (default:dL)) (fun ay=>
  some ay.2.2.2) ay
def xX (aa:bI) (ai:a0) (aR:Int):Option (bL × bI):=
 (r1 aR (ai.bB.length:Int)).bind fun aD=>
 (idx ai.bB.length aD).bind fun aV=>
 (dn (σ:=Int × bL × (List cA) × bI) (ε:=(Int × Bool × bL × (List cA) × bI)) da (fun s1=>
  cond (decide (s1.1 < (((aB ai.bB aV).bQ).length:Int))) (
   (idx (((aB ai.bB aV).bQ).length) s1.1).bind fun bu=>
   (xW s1.2.2.2 ai (aB ((aB ai.bB aV).bQ) bu)).bind fun aM=>
   (fP 64 s1.2.2.1 [aM.1]).bind fun a8=>
   (some ((((aB ((aB ai.bB aV).bQ) bu).cS) ==3) || (((aB ((aB ai.bB aV).bQ) bu).cS) ==4))).bind fun bN=>
   (cond bN (
    (fM aM.2 5).bind fun br=>
    (some (({ ({ s1.2.1 with cu:= [] } :bL) with g9:=bm (1 + br.1) } :bL))).bind fun c7=>
    some (c7,br.2)) (
    some (({ s1.2.1 with cu:= [] } :bL),aM.2))).bind fun bJ=>
   some (.inl (bm (s1.1 + 1),bJ.1,a8,bJ.2))) (
   some (.inr (s1.1,decide (s1.1 < (((aB ai.bB aV).bQ).length:Int)),s1.2.1,s1.2.2.1,s1.2.2.2)))) (0,({ (default:bL) with dJ:=(aB ai.bB aV).bU } :bL),([]:List cA),aa)).bind fun ay=>
 (fM ay.2.2.2.2 (((aB ai.bB aV).di).length:Int)).bind fun cj=>
 (idx (((aB ai.bB aV).di).length) cj.1).bind fun cb=>
 (some (({ ay.2.2.1 with lB:=aB ((aB ai.bB aV).di) cb } :bL))).bind fun fA=>
 (x1 ai fA.lB).bind fun cM=>
 (dn (σ:=Int × bL × (List aw) × bI) (ε:=(Int × Bool × bL × (List aw) × bI)) da (fun s2=>
  cond (decide (s2.1 < (cM.jS.length:Int))) (
   (idx cM.jS.length s2.1).bind fun du=>
   (fM s2.2.2.2 256).bind fun dv=>
   (some (({ (default:aw) with b7:=BitVec.ofInt 64 dv.1 } :aw))).bind fun hj=>
   (tA hj ((aB cM.jS du).e7)).bind fun eU=>
   (fP 16 s2.2.2.1 [eU]).bind fun fo=>
   some (.inl (bm (s2.1 + 1),({ s2.2.1 with mn:= [] } :bL),fo,dv.2))) (
   some (.inr (s2.1,decide (s2.1 < (cM.jS.length:Int)),s2.2.1,s2.2.2.1,s2.2.2.2)))) (0,fA,([]:List aw),cj.2)).bind fun aS=>
 (some (({ ({ aS.2.2.1 with cu:=ay.2.2.2.1 } :bL) with mn:=aS.2.2.2.1 } :bL))).bind fun hk=>
 some (hk,aS.2.2.2.2)
def tt (aa:bL):Option (Vector aw 4):=
 (tX aa.cu 0 (min (aa.cu.length:Int) 4)).bind fun aD=>
 (dn (σ:=Int × (Vector aw 4)) (ε:=(Int × Bool × (Vector aw 4))) da (fun s1=>
  cond (decide (s1.1 < (aD.length:Int))) (
   (idx aD.length s1.1).bind fun aV=>
   (idx 4 s1.1).bind fun bu=>
   some (.inl (bm (s1.1 + 1),cq s1.2 bu ((aB aD aV).bW)))) (
   some (.inr (s1.1,decide (s1.1 < (aD.length:Int)),s1.2)))) (0,(default:Vector aw 4))).bind fun ay=>
 some ay.2.2
def BN (hp:bg Cell) (aa:Ref) (ai:Vector aw 4):Option (Int × Bool):=
 cond aa.isNone (
  some (0,false)) (
  (aa).bind fun dT=>
  (ou hp dT).bind fun cZ=>
  (cZ.oY.p).bind fun cT=>
  (mZ hp cT).bind fun dX=>
  (some (e3 dX ai)).bind fun bN=>
  some (bN.getD default,bN.isSome))
def xS (hp:bg Cell) (aa:kX) (ai:bL):Option (Int × Bool):=
 (tt ai).bind fun aD=>
 (BN hp aa.rl aD).bind fun aM=>
 some (aM.1,aM.2)
def Bn (aa:hr) (ai:Vector aw 4):Option ((Vector aw 4) × aw):=
 (idx 4 aa.qX).bind fun aV=>
 (idx 4 aa.qX).bind fun bu=>
 some ((cq ai bu (default:aw)),(bd ai aV))
def vm (aa:hr) (ai:bL):Option ((Vector aw 4) × aw × Int):=
 (tt ai).bind fun aD=>
 (Bn aa aD).bind fun aM=>
 cond (decide (aa.qX≥ (ai.cu.length:Int))) (
  some (aM.1,aM.2,0)) (
  (idx ai.cu.length aa.qX).bind fun aV=>
  some (aM.1,aM.2,(aB ai.cu aV).gV))
def vI (aa:Int):Option Int:=
 some (min (max 0 aa) 128)
def vM (aa:aw) (ai:Int):Option aw:=
 cond (decide (ai≤0)) (
  some aa) (
  cond (decide (ai≥64)) (
   (some (({ (default:aw) with b7:=aa.dS >>> (BitVec.ofInt 64 (bm (ai - 64))).toNat } :aw))).bind fun bN=>
   some bN) (
   (some ((aa.b7 >>> (BitVec.ofInt 64 ai).toNat) ||| (aa.dS <<< (BitVec.ofInt 64 (bm (64 - ai))).toNat))).bind fun c7=>
   (some ({ dS:=aa.dS >>> (BitVec.ofInt 64 ai).toNat,b7:=c7:aw })).bind fun fA=>
   some fA))
def rX (aa:Int):Option aw:=
 (some ({ dS:=18446744073709551615#64,b7:=18446744073709551615#64:aw })).bind fun bN=>
 (vI aa).bind fun aD=>
 (vM bN (bm (128 - aD))).bind fun aM=>
 some aM
def r3 (aa:aw) (ai:aw):Option aw:=
 (some ({ dS:=aa.dS ^^^ ai.dS,b7:=aa.b7 ^^^ ai.b7:aw })).bind fun bN=>
 some bN
def vB (aa:Int) (ai:Int):Option aw:=
 (vI aa).bind fun aD=>
 (rX aD).bind fun aM=>
 (rX (bm (aD - (min (max 0 ai) aD)))).bind fun a8=>
 (r3 aM a8).bind fun br=>
 some br
def nk (aa:aw) (ai:aw):Option aw:=
 (some ({ dS:=aa.dS &&& ai.dS,b7:=aa.b7 &&& ai.b7:aw })).bind fun bN=>
 some bN
def vu (hp:bg Cell) (aa:Ref) (ai:aw) (aR:Int):Option Bool:=
 (cX (aa.isSome && (decide (aR≥0))) true (aa)).bind fun dT=>
 (cX (aa.isSome && (decide (aR≥0))) true (gM hp dT)).bind fun cZ=>
 (cX ((aa.isSome && (decide (aR≥0))) && (decide (aR≤cZ.fU))) true (aa)).bind fun cT=>
 (cX ((aa.isSome && (decide (aR≥0))) && (decide (aR≤cZ.fU))) true (gM hp cT)).bind fun dX=>
 (cX ((aa.isSome && (decide (aR≥0))) && (decide (aR≤cZ.fU))) true (vB dX.fU aR)).bind fun aD=>
 (cX ((aa.isSome && (decide (aR≥0))) && (decide (aR≤cZ.fU))) true (nk ai aD)).bind fun aM=>
 (some (((aa.isSome && (decide (aR≥0))) && (decide (aR≤cZ.fU))) && (decide (aM=ai)))).bind fun bN=>
 some bN
def BR (aa:Ref) (ai:aw) (aR:Int):Option (Int × aw × Ref):=
 some (aR,ai,aa)
def qt (aa:aw) (ai:Int):Option Bool:=
 (cX ((decide (ai≥0)) && (decide (ai < 128))) true (vM aa ai)).bind fun aD=>
 (some (((decide (ai≥0)) && (decide (ai < 128))) && ((aD.b7 &&& (1#64)) ==(1#64)))).bind fun bN=>
 some bN
def tn {σ ε:Type} (ai:Int) (aR:aw) (cQ:Ref) (hq:σ→bg Cell) (step:Int→σ→aK (σ ⊕ ε)) (cf:σ):aK (σ ⊕ ε):=
 aK.bind (o1 (σ:=Int × (σ)) (ε:=(Int × Bool × (σ)) ⊕ (Int × Int × Int × Bool × Bool × Bool × (ε))) da (fun s1=>
   cond (decide (s1.1 < ai)) (
    aK.bind (aK.of (cQ)) fun dT=>
    aK.bind (aK.of (gM (hq s1.2) dT)) fun cZ=>
    aK.bind (aK.of (qt aR (bm ((bm (cZ.fU - 1)) - s1.1)))) fun aD=>
    aK.bind (aK.of (cond aD (
      some 1) (
      some 0))) fun bJ=>
    aK.bind (step bJ s1.2) fun aM=>
    Sum.elim (fun s2=>
     aK.ret (.inl (bm (s1.1 + 1),s2))) (fun ck=>
     aK.ret (.inr (Sum.inr (s1.1,bJ,s1.1,decide (s1.1 < ai),aD,!false,ck)))) aM) (
    aK.ret (.inr (Sum.inl (s1.1,decide (s1.1 < ai),s1.2))))) (0,cf)) fun ay=>
   Sum.elim (fun ay=>
    aK.ret (.inl ay.2.2:σ ⊕ ε)) (fun ay=>
   aK.ret (.inr ay.2.2.2.2.2.2:σ ⊕ ε)) ay
def tm {σ ε:Type} (hp:bg Cell) (ai:Int) (aR:aw) (cQ:Ref) (step:Int→σ→Option (σ ⊕ ε)) (cf:σ):Option (σ ⊕ ε):=
 (dn (σ:=Int × (σ)) (ε:=(Int × Bool × (σ)) ⊕ (Int × Int × Int × Bool × Bool × Bool × (ε))) da (fun s1=>
  cond (decide (s1.1 < ai)) (
   (cQ).bind fun dT=>
   (gM hp dT).bind fun cZ=>
   (qt aR (bm ((bm (cZ.fU - 1)) - s1.1))).bind fun aD=>
   (cond aD (
    some 1) (
    some 0)).bind fun bJ=>
   (step bJ s1.2).bind fun aM=>
   Sum.elim (fun s2=>
    some (.inl (bm (s1.1 + 1),s2))) (fun ck=>
    some (.inr (Sum.inr (s1.1,bJ,s1.1,decide (s1.1 < ai),aD,!false,ck)))) aM) (
   some (.inr (Sum.inl (s1.1,decide (s1.1 < ai),s1.2))))) (0,cf)).bind fun ay=>
  Sum.elim (fun ay=>
   some (.inl ay.2.2)) (fun ay=>
  some (.inr ay.2.2.2.2.2.2)) ay
def vx (hp:bg Cell) (aa:Ref) (ai:aw) (aR:Int):Option Ref:=
 (vu hp aa ai aR).bind fun aD=>
 cond (!aD) (
  some (none:Ref)) (
  (aa).bind fun dT=>
  (gM hp dT).bind fun cZ=>
  (BR aa ai aR).bind fun aM=>
  (tm hp aM.1 aM.2.1 aM.2.2 (σ:=Ref) (ε:=Ref × Ref) (fun(w4:Int) (s1:Ref)=>
   cond s1.isNone (
    some (.inr (s1,(none:Ref)))) (
    (s1).bind fun cT=>
    (idx 2 w4).bind fun aV=>
    (dH hp cT).bind fun dX=>
    some (.inl (bd dX.fu aV)))) cZ.dr).bind fun ay=>
  Sum.elim (fun s1=>
   some s1) (fun az=>
   some az.2) ay)
def vC (hp:bg Cell) (aa:Ref) (ai:aw) (aR:Int):Option (Int × Bool):=
 (vx hp aa ai aR).bind fun aD=>
 (cX aD.isNone false (aD)).bind fun dT=>
 (cX aD.isNone false (dH hp dT)).bind fun cZ=>
 cond (aD.isNone || (!cZ.fv)) (
  some (0,false)) (
  (aD).bind fun cT=>
  (dH hp cT).bind fun dX=>
  some (dX.nA,true))
def xE (hp:bg Cell) (aa:hr) (ai:bL):Option (Int × Bool):=
 (vm aa ai).bind fun aD=>
 (aa.ob.p).bind fun dT=>
 (kp hp dT).bind fun cZ=>
 (some ((e3 cZ aD.1).getD default)).bind fun bN=>
 (vC hp bN aD.2.1 aD.2.2).bind fun aM=>
 some (aM.1,aM.2)
def Bh (aa:List cA):Option (List cA):=
 (fP 64 ([]:List cA) aa).bind fun aD=>
 some aD
def Bi (aa:List aw):Option (List aw):=
 (fP 16 ([]:List aw) aa).bind fun aD=>
 some aD
def B3 (aa:bL):Option bL:=
 (Bh aa.cu).bind fun aD=>
 (Bi aa.mn).bind fun aM=>
 (some (({ ({ aa with cu:=aD } :bL) with mn:=aM } :bL))).bind fun bN=>
 some bN
def rU (aa:aU):Option aU:=
 (B3 aa.cr).bind fun aD=>
 some ({ aa with cr:=aD } :aU)
def vP (aa:List aU):Option (List aU):=
 (dn (σ:=Int × (List aU)) (ε:=(Int × Bool × (List aU))) da (fun s1=>
  cond (decide (s1.1 < (aa.length:Int))) (
   (idx aa.length s1.1).bind fun aV=>
   (rU (aB aa aV)).bind fun aD=>
   (fP 88 s1.2 [aD]).bind fun aM=>
   some (.inl (bm (s1.1 + 1),aM))) (
   some (.inr (s1.1,decide (s1.1 < (aa.length:Int)),s1.2)))) (0,([]:List aU))).bind fun ay=>
 some ay.2.2
def xA (aa:dM):Option (List aU):=
 (vP aa.ef).bind fun aD=>
 some aD
def xx (aa:List cA) (ai:List cA):Option Bool:=
 cond ((aa.length:Int) !=(ai.length:Int)) (
  some false) (
  (dn (σ:=Int) (ε:=(Int × Bool) ⊕ (Int × Int × Bool × Bool)) da (fun s1=>
   cond (decide (s1 < (aa.length:Int))) (
    (idx aa.length s1).bind fun aV=>
    (idx ai.length s1).bind fun bu=>
    cond (!decide (aB aa aV=aB ai bu)) (
     some (.inr (Sum.inr (s1,s1,decide (s1 < (aa.length:Int)),!decide (aB aa aV=aB ai bu))))) (
     some (.inl (bm (s1 + 1))))) (
    some (.inr (Sum.inl (s1,decide (s1 < (aa.length:Int))))))) 0).bind fun ay=>
   Sum.elim (fun ay=>
    some true) (fun ay=>
   some false) ay)
def x4 (aa:bL) (ai:bL):Option Bool:=
 (cX (aa.dJ ==ai.dJ) true (xx aa.cu ai.cu)).bind fun aD=>
 some (((aa.dJ ==ai.dJ) && aD) && (aa.g9 ==ai.g9))
def xV (hp:bg Cell) (aa:ki) (ai:bL):Option (Int × Bool):=
 (aa.ef).bind fun dT=>
 (ov hp dT).bind fun cZ=>
 (xA cZ.1).bind fun aD=>
 (dn (σ:=Int) (ε:=(Int × Bool) ⊕ (Int × Bool × Int × Bool × Bool)) da (fun s1=>
  cond (decide (s1 < (aD.length:Int))) (
   (idx aD.length s1).bind fun aV=>
   (x4 ((aB aD aV).cr) ai).bind fun aM=>
   cond aM (
    some (.inr (Sum.inr ((aB aD aV).cg,true,s1,decide (s1 < (aD.length:Int)),aM)))) (
    some (.inl (bm (s1 + 1))))) (
   some (.inr (Sum.inl (s1,decide (s1 < (aD.length:Int))))))) 0).bind fun ay=>
  Sum.elim (fun ay=>
   some (0,false)) (fun ay=>
  some (ay.1,ay.2.1)) ay
def EC (hp:bg Cell) (y:g3) (aa:bL):Option (Int × Bool):=match y with
 | .nil=>none
 | .nB z=>xS hp z aa
 | .nC z=>xE hp z aa
 | .nD z=>xV hp z aa
def BO (hp:bg Cell) (aa:Ref) (ai:Vector aw 4) (aR:Int):Option (Bool × (bg Cell)):=
 cond aa.isNone (
  some (false,hp)) (
  (aa).bind fun dT=>
  (ou hp dT).bind fun cZ=>
  (cZ.oY.p).bind fun cT=>
  (mZ hp cT).bind fun dX=>
  (some (e3 dX ai)).bind fun bN=>
  cond bN.isSome (
   some (false,hp)) (
   (some (ea hp cT (Cell.o4 (gr dX ai aR)))).bind fun dZ=>
   some (true,dZ)))
def xY (hp:bg Cell) (aa:kX) (ai:aU):Option (bg Cell):=
 (tt ai.cr).bind fun aD=>
 (BO hp aa.rl aD ai.cg).bind fun aM=>
 some aM.2
def B5 (hp:bg Cell) (aa:Int):aK (Ref × (bg Cell)):=
 aK.bind (aK.of (some (({ (default:gA) with fU:=min (max 1 aa) 128 } :gA)))) fun bN=>
 aK.bind (aK.mk hp (Cell.jX bN)) fun eL=>
 aK.ret ((some eL.1:Ref),eL.2)
def vF (hp:bg Cell) (aa:Ref) (ai:aw) (aR:Int) (cQ:Int):aK (Bool × (bg Cell)):=
 aK.bind (aK.of (vu hp aa ai aR)) fun aD=>
 cond (!aD) (
  aK.ret (false,hp)) (
  aK.bind (aK.of (vx hp aa ai aR)) fun aM=>
  aK.bind (aK.of (cX aM.isSome true (aM))) fun dT=>
  aK.bind (aK.of (cX aM.isSome true (dH hp dT))) fun cZ=>
  cond (aM.isSome && cZ.fv) (
   aK.ret (false,hp)) (
   aK.bind (aK.of (aa)) fun cT=>
   aK.bind (aK.of (gM hp cT)) fun dX=>
   aK.bind (cond dX.dr.isNone (
     aK.bind (aK.mk hp (Cell.hf (default:eX))) fun eR=>
     aK.bind (aK.of (gM eR.2 cT)) fun AT=>
     aK.bind (aK.of (some (ea eR.2 cT (Cell.jX ({ AT with dr:=(some eR.1:Ref) } :gA))))) fun z7=>
     aK.ret z7) (
     aK.ret hp)) fun bJ=>
   aK.bind (aK.of (gM bJ cT)) fun gx=>
   aK.bind (aK.of (BR aa ai aR)) fun a8=>
   aK.bind (tn a8.1 a8.2.1 a8.2.2 (σ:=Ref × (bg Cell)) (ε:=Empty) (fun(s2:Ref × (bg Cell))=>s2.2) (fun(w5:Int) (s2:Ref × (bg Cell))=>
     aK.bind (aK.of (s2.1)) fun qf=>
     aK.bind (aK.of (idx 2 w5)) fun aV=>
     aK.bind (aK.of (dH s2.2 qf)) fun qg=>
     aK.bind (cond ((bd qg.fu aV).isNone) (
       aK.bind (aK.mk s2.2 (Cell.hf (default:eX))) fun eL=>
       aK.bind (aK.of (idx 2 w5)) fun cb=>
       aK.bind (aK.of (dH eL.2 qf)) fun rF=>
       aK.bind (aK.of (some (ea eL.2 qf (Cell.hf ({ rF with fu:=cq rF.fu cb (some eL.1:Ref) } :eX))))) fun dZ=>
       aK.ret dZ) (
       aK.ret s2.2)) fun cy=>
     aK.bind (aK.of (idx 2 w5)) fun bu=>
     aK.bind (aK.of (dH cy qf)) fun u7=>
     aK.ret (.inl (bd u7.fu bu,cy):(Ref × (bg Cell)) ⊕ Empty)) (gx.dr,bJ)) fun aS=>
   Sum.elim (fun s2=>
    aK.bind (aK.of (s2.1)) fun jA=>
    aK.bind (aK.of (dH s2.2 jA)) fun xg=>
    aK.bind (aK.of (some (ea s2.2 jA (Cell.hf ({ xg with fv:=true } :eX))))) fun e1=>
    aK.bind (aK.of (s2.1)) fun I3=>
    aK.bind (aK.of (dH e1 I3)) fun I4=>
    aK.bind (aK.of (some (ea e1 I3 (Cell.hf ({ I4 with nA:=cQ } :eX))))) fun iA=>
    aK.ret (true,iA)) (fun ck=>
    Empty.elim ck) aS))
def xL (hp:bg Cell) (aa:hr) (ai:aU):aK (bg Cell):=
 aK.bind (aK.of (vm aa ai.cr)) fun aD=>
 aK.bind (aK.of (aa.ob.p)) fun dT=>
 aK.bind (aK.of (kp hp dT)) fun cZ=>
 aK.bind (aK.of (some ((e3 cZ aD.1).getD default))) fun bN=>
 aK.bind (cond bN.isNone (
   aK.bind (B5 hp aa.fU) fun a8=>
   aK.bind (aK.of (kp a8.2 dT)) fun gx=>
   aK.bind (aK.of (some (ea a8.2 dT (Cell.m4 (gr gx aD.1 a8.1))))) fun dZ=>
   aK.ret dZ) (
   aK.ret hp)) fun bJ=>
 aK.bind (aK.of (kp bJ dT)) fun dX=>
 aK.bind (aK.of (some ((e3 dX aD.1).getD default))) fun c7=>
 aK.bind (vF bJ c7 aD.2.1 aD.2.2 ai.cg) fun aM=>
 aK.ret aM.2
def Bj (aa:aU) (ai:Int):Option Bool:=
 some (aa.cg ==ai)
def vg (aa:List aU) (ai:aU→Option Bool):Option Int:=
 (dn (σ:=Int) (ε:=(Int × Bool) ⊕ (Int × Int × Int × Bool × Bool)) da (fun s1=>
  cond (decide (s1 < (aa.length:Int))) (
   (idx aa.length s1).bind fun aV=>
   (ai (aB aa aV)).bind fun aD=>
   cond aD (
    some (.inr (Sum.inr (s1,s1,s1,decide (s1 < (aa.length:Int)),aD)))) (
    some (.inl (bm (s1 + 1))))) (
   some (.inr (Sum.inl (s1,decide (s1 < (aa.length:Int))))))) 0).bind fun ay=>
  Sum.elim (fun ay=>
   some (-1)) (fun ay=>
  some ay.1) ay
def xD (aa:dM) (ai:Int):Option Int:=
 (vg aa.ef (fun fT=>Bj fT ai)).bind fun aD=>
 some aD
def xp (aa:List aU) (ai:aU) (aR:aU→aU→Option Int):Option (Int × Bool):=
 (dn (σ:=Int × Int) (ε:=(Int × Int × Bool)) da (fun s1=>
  cond (decide (s1.1 < s1.2)) (
   (idx aa.length (bm ((BitVec.ofInt 64 (bm (s1.1 + s1.2))) >>> (1#64).toNat).toNat)).bind fun aV=>
   (aR (aB aa aV) ai).bind fun aD=>
   (cond (decide (aD < 0)) (
    (some (bm ((bm ((BitVec.ofInt 64 (bm (s1.1 + s1.2))) >>> (1#64).toNat).toNat) + 1))).bind fun bN=>
    some (bN,s1.2)) (
    some (s1.1,bm ((BitVec.ofInt 64 (bm (s1.1 + s1.2))) >>> (1#64).toNat).toNat))).bind fun bJ=>
   some (.inl (bJ.1,bJ.2))) (
   some (.inr (s1.1,s1.2,decide (s1.1 < s1.2))))) (0,(aa.length:Int))).bind fun ay=>
 (cX (decide (ay.1 < (aa.length:Int))) true (idx aa.length ay.1)).bind fun bu=>
 (cX (decide (ay.1 < (aa.length:Int))) true (aR (aB aa bu) ai)).bind fun aM=>
 some (ay.1,(decide (ay.1 < (aa.length:Int))) && (aM ==0))
def x2 (aa:Int):Option Bool:=
 some (aa !=aa)
def rQ (aa:Int) (ai:Int):Option Int:=
 (x2 aa).bind fun aD=>
 (x2 ai).bind fun aM=>
 cond aD (
  cond aM (
   some 0) (
   some (-1))) (
  cond aM (
   some 1) (
   cond (decide (aa < ai)) (
    some (-1)) (
    cond (decide (aa > ai)) (
     some 1) (
     some 0))))
def yk (aa:a0) (ai:bL):Option (bX × Bool):=
 (rT aa ai.dJ).bind fun aD=>
 cond (decide (aD < 0)) (
  some ((default:bX),false)) (
  (idx aa.bB.length aD).bind fun aV=>
  some (aB aa.bB aV,true))
def vj (aa:List cJ) (ai:cJ→Option Bool):Option Int:=
 (dn (σ:=Int) (ε:=(Int × Bool) ⊕ (Int × Int × Int × Bool × Bool)) da (fun s1=>
  cond (decide (s1 < (aa.length:Int))) (
   (idx aa.length s1).bind fun aV=>
   (ai (aB aa aV)).bind fun aD=>
   cond aD (
    some (.inr (Sum.inr (s1,s1,s1,decide (s1 < (aa.length:Int)),aD)))) (
    some (.inl (bm (s1 + 1))))) (
   some (.inr (Sum.inl (s1,decide (s1 < (aa.length:Int))))))) 0).bind fun ay=>
  Sum.elim (fun ay=>
   some (-1)) (fun ay=>
  some ay.1) ay
def EL (aa:cJ):Option Bool:=
 some (aa.cS ==2)
def vK (aa:a0) (ai:bL):Option Int:=
 (yk aa ai).bind fun aD=>
 (vj aD.1.bQ EL).bind fun aM=>
 (some (((!aD.2) || (decide (aM < 0))) || (decide (aM≥ (ai.cu.length:Int))))).bind fun bN=>
 cond bN (
  some 0) (
  (idx ai.cu.length aM).bind fun aV=>
  some ((aB ai.cu aV).gV))
def yn (aa:List Int):Option Int:=
 (dn (σ:=Int) (ε:=(Int × Bool) ⊕ (Int × Int × Int × Bool × Bool)) da (fun s1=>
  cond (decide (s1 < (aa.length:Int))) (
   (idx aa.length s1).bind fun aV=>
   cond ((aB aa aV) !=0) (
    some (.inr (Sum.inr (aB aa aV,aB aa aV,s1,decide (s1 < (aa.length:Int)),(aB aa aV) !=0)))) (
    some (.inl (bm (s1 + 1))))) (
   some (.inr (Sum.inl (s1,decide (s1 < (aa.length:Int))))))) 0).bind fun ay=>
  Sum.elim (fun ay=>
   some 0) (fun ay=>
  some ay.1) ay
def tu (aa:a0) (ai:aU) (aR:aU):Option Bool:=
 (rQ ai.cr.g9 aR.cr.g9).bind fun aD=>
 (vK aa ai.cr).bind fun aM=>
 (vK aa aR.cr).bind fun a8=>
 (rQ aM a8).bind fun br=>
 (rQ ai.cg aR.cg).bind fun cj=>
 (yn [aD,br,cj]).bind fun cM=>
 some (decide (cM > 0))
def vo (aa:dM) (ai:aU) (aR:aU):Option Int:=
 (tu aa.oR ai aR).bind fun aD=>
 cond aD (
  some (-1)) (
  (tu aa.oR aR ai).bind fun aM=>
  cond aM (
   some 1) (
   some 0))
def Bf (aa:List aU) (ai:Int) (aR:List aU):Option (List aU):=zP 88 aa ai aR
def xB (aa:dM) (ai:aU):Option (Bool × dM):=
 (cX false false (xD aa ai.cg)).bind fun aD=>
 cond (false || (decide (aD≥0))) (
  some (false,aa)) (
  (xp aa.ef ai (fun fT eL=>vo aa fT eL)).bind fun aM=>
  (rU ai).bind fun a8=>
  (Bf aa.ef aM.1 [a8]).bind fun br=>
  some (true,({ aa with ef:=br } :dM)))
def xZ (hp:bg Cell) (aa:ki) (ai:aU):aK (bg Cell):=
 aK.bind (aK.of (aa.ef)) fun dT=>
 aK.bind (aK.of (ov hp dT)) fun cZ=>
 aK.bind (aK.of (xB cZ.1 ai)) fun aD=>
 aK.bind (aK.any (Option Nat × Nat)) fun az=>
 aK.bind (aK.of (some (ea hp dT (Cell.sH aD.2 az.1 az.2)))) fun dZ=>
 aK.ret dZ
def EI (hp:bg Cell) (y:g3) (aa:aU):aK (bg Cell):=match y with
 | .nil=>fun _=>False
 | .nB z=>aK.of (xY hp z aa)
 | .nC z=>xL hp z aa
 | .nD z=>xZ hp z aa
def x0 (hp:bg Cell) (aa:Ref) (ai:aU):aK (Bool × (bg Cell)):=
 cond aa.isNone (
  aK.ret (false,hp)) (
  aK.bind (aK.of (aa)) fun dT=>
  aK.bind (aK.of (jF hp dT)) fun cZ=>
  aK.bind (aK.of (cZ.mL.p)) fun cT=>
  aK.bind (aK.of (ny hp cT)) fun dX=>
  aK.bind (aK.of (some (e3 dX ai.cg))) fun bN=>
  aK.bind (aK.of (aa)) fun qf=>
  aK.bind (aK.of (jF hp qf)) fun gx=>
  aK.bind (aK.of (EC hp gx.kj ai.cr)) fun aD=>
  cond (aD.2 || bN.isSome) (
   aK.ret (false,hp)) (
   aK.bind (aK.of (aa)) fun Ee=>
   aK.bind (aK.of (jF hp Ee)) fun qg=>
   aK.bind (aK.of (rU ai)) fun aM=>
   aK.bind (aK.of (qg.mL.p)) fun AU=>
   aK.bind (aK.of (ny hp AU)) fun u7=>
   aK.bind (aK.of (some (ea hp AU (Cell.l6 (gr u7 ai.cg aM))))) fun dZ=>
   aK.bind (aK.of (jF dZ Ee)) fun rF=>
   aK.bind (EI dZ rF.kj ai) fun a8=>
   aK.ret (true,a8)))
def yi (hp:bg Cell) (aa:a0) (ai:bI) (aR:Int) (cQ:Int):aK (Ref × (List aU) × bI × (bg Cell)):=
 aK.bind (aK.of (r1 aR (aa.bB.length:Int))) fun aD=>
 aK.bind (aK.of (idx aa.bB.length aD)) fun aV=>
 aK.bind (vV hp aa ((aB aa.bB aV).bU)) fun aM=>
 aK.bind (o1 (σ:=Int × (List aU) × bI × (bg Cell)) (ε:=(Int × Bool × (List aU) × bI × (bg Cell))) da (fun s1=>
   aK.bind (aK.of (cX (decide (s1.1 < cQ)) true (xJ s1.2.2.1))) fun a8=>
   cond ((decide (s1.1 < cQ)) && a8) (
    aK.bind (aK.of (xX s1.2.2.1 aa aR)) fun br=>
    aK.bind (aK.of (some (({ (default:aU) with cr:=br.1,cg:=bm (s1.1 + 1) } :aU)))) fun bN=>
    aK.bind (x0 s1.2.2.2 aM.1 bN) fun cj=>
    aK.bind (aK.of (cond cj.1 (
      (fP 88 s1.2.1 [bN]).bind fun cM=>
      some cM) (
      some s1.2.1))) fun bJ=>
    aK.ret (.inl (bm (s1.1 + 1),bJ,br.2,cj.2))) (
    aK.ret (.inr (s1.1,(decide (s1.1 < cQ)) && a8,s1.2.1,s1.2.2.1,s1.2.2.2)))) (0,([]:List aU),ai,aM.2)) fun ay=>
 aK.ret (aM.1,ay.2.2.1,ay.2.2.2.1,ay.2.2.2.2)
def Bq (aa:aU) (ai:Int):Option Bool:=
 some (aa.cg ==ai)
def xt (aa:List cJ) (ai:cJ→Option Bool):Option Bool:=
 (vj aa ai).bind fun aD=>
 some (decide (aD≥0))
def Br (aa:cJ):Option Bool:=
 some (aa.cS ==4)
def yt (aa:cA) (ai:Int) (aR:Int):Option aw:=
 cond (!aa.hV) (
  some (default:aw)) (
  cond (ai ==1) (
   (rX aR).bind fun aD=>
   some aD) (
   cond (ai ==2) (
    (vB aR aa.gV).bind fun aM=>
    some aM) (
    some aa.bR)))
def r7 (aa:a0) (ai:bL):Option (a1 × Bool):=
 (rT aa ai.dJ).bind fun aD=>
 cond (decide (aD < 0)) (
  some ((default:a1),false)) (
  (idx aa.bB.length aD).bind fun aV=>
  (dn (σ:=Int × a1) (ε:=(Int × Bool × a1) ⊕ (Int × Int × Int × Bool × Bool × a1)) da (fun s1=>
   cond (decide (s1.1 < (((aB aa.bB aV).bQ).length:Int))) (
    (idx (((aB aa.bB aV).bQ).length) s1.1).bind fun bu=>
    (vy aa ((aB ((aB aa.bB aV).bQ) bu).gn)).bind fun aM=>
    (some ((((aB ((aB aa.bB aV).bQ) bu).cS) ==4) || (decide (aM < 0)))).bind fun bN=>
    (some ((bN || (decide (s1.1≥ (ai.cu.length:Int)))) || (decide (s1.1≥4)))).bind fun c7=>
    cond c7 (
     some (.inr (Sum.inr (s1.1,aM,s1.1,decide (s1.1 < (((aB aa.bB aV).bQ).length:Int)),c7,s1.2)))) (
     (idx ai.cu.length s1.1).bind fun cb=>
     (idx aa.fg.length aM).bind fun du=>
     (yt (aB ai.cu cb) ((aB ((aB aa.bB aV).bQ) bu).cS) ((aB aa.fg du).e7)).bind fun a8=>
     (idx 4 s1.1).bind fun dA=>
     (idx ai.cu.length s1.1).bind fun eM=>
     (idx 4 s1.1).bind fun jy=>
     (nk ((aB ai.cu eM).bW) (bd (cq s1.2.bR dA a8) jy)).bind fun br=>
     (idx 4 s1.1).bind fun jg=>
     (some (({ ({ s1.2 with bR:=cq s1.2.bR dA a8 } :a1) with bW:=cq s1.2.bW jg br } :a1))).bind fun fA=>
     some (.inl (bm (s1.1 + 1),fA)))) (
    some (.inr (Sum.inl (s1.1,decide (s1.1 < (((aB aa.bB aV).bQ).length:Int)),s1.2))))) (0,(default:a1))).bind fun ay=>
   Sum.elim (fun ay=>
    some (ay.2.2,true)) (fun ay=>
   some ((default:a1),false)) ay)
def EN (aa:a0) (ai:List aU) (aR:aU):Option ((List aU) × a0 × aU):=
 some (ai,aa,aR)
def xK {σ ε:Type} (ai:List aU) (aR:a0) (cQ:aU) (step:a1→σ→Option (σ ⊕ ε)) (cf:σ):Option (σ ⊕ ε):=
 (dn (σ:=Int × (σ)) (ε:=(Int × Bool × (σ)) ⊕ (Bool × Int × Bool × Bool × Bool × (ε))) da (fun s1=>
  cond (decide (s1.1 < (ai.length:Int))) (
   (idx ai.length s1.1).bind fun aV=>
   (tu aR (aB ai aV) cQ).bind fun aD=>
   cond (!aD) (
    some (.inl (bm (s1.1 + 1),s1.2))) (
    (r7 aR ((aB ai aV).cr)).bind fun aM=>
    cond aM.2 (
     (step aM.1 s1.2).bind fun a8=>
     Sum.elim (fun s2=>
      some (.inl (bm (s1.1 + 1),s2))) (fun ck=>
      some (.inr (Sum.inr (aM.2,s1.1,decide (s1.1 < (ai.length:Int)),!aD,aM.2 && (!false),ck)))) a8) (
     some (.inl (bm (s1.1 + 1),s1.2))))) (
   some (.inr (Sum.inl (s1.1,decide (s1.1 < (ai.length:Int)),s1.2))))) (0,cf)).bind fun ay=>
  Sum.elim (fun ay=>
   some (.inl ay.2.2)) (fun ay=>
  some (.inr ay.2.2.2.2.2)) ay
def rR (aa:a0) (ai:List aU) (aR:Int):Option (a1 × (List a1) × Int):=
 (vg ai (fun fT=>Bq fT aR)).bind fun aD=>
 cond (decide (aD < 0)) (
  some ((default:a1),([]:List a1),16)) (
  (idx ai.length aD).bind fun aV=>
  (rT aa (((aB ai aV).cr).dJ)).bind fun aM=>
  (cX (decide (aM≥0)) true (idx aa.bB.length aM)).bind fun bu=>
  (cX (decide (aM≥0)) true (xt ((aB aa.bB bu).bQ) Br)).bind fun a8=>
  cond ((decide (aM≥0)) && a8) (
   some ((default:a1),([]:List a1),13)) (
   (idx ai.length aD).bind fun cb=>
   (r7 aa ((aB ai cb).cr)).bind fun br=>
   (idx ai.length aD).bind fun du=>
   (EN aa ai (aB ai du)).bind fun cj=>
   (xK cj.1 cj.2.1 cj.2.2 (σ:=(List a1) × (List a1)) (ε:=Empty) (fun(w4:a1) (s1:(List a1) × (List a1))=>
    (fP 128 s1.1 [w4]).bind fun cM=>
    some (.inl (cM,[]))) (([]:List a1),(default:List a1))).bind fun ay=>
   Sum.elim (fun s1=>
    some (br.1,s1.1,0)) (fun az=>
    Empty.elim az) ay))
def xw (aa:List a1):Option (List a1):=
 (fP 128 ([]:List a1) aa).bind fun aD=>
 some aD
def qp (aa:Vector aw 4) (ai:Vector aw 4) (aR:aw→aw→Option aw):Option (Vector aw 4):=
 (dn (σ:=Int × (Vector aw 4)) (ε:=(Int × Bool × (Vector aw 4))) da (fun s1=>
  cond (decide (s1.1 < 4)) (
   (idx 4 s1.1).bind fun aV=>
   (idx 4 s1.1).bind fun bu=>
   (aR (bd s1.2 aV) (bd ai bu)).bind fun aD=>
   (idx 4 s1.1).bind fun cb=>
   some (.inl (bm (s1.1 + 1),cq s1.2 cb aD))) (
   some (.inr (s1.1,decide (s1.1 < 4),s1.2)))) (0,aa)).bind fun ay=>
 some ay.2.2
def nm (aa:aw) (ai:aw):Option aw:=
 (some ({ dS:=aa.dS ||| ai.dS,b7:=aa.b7 ||| ai.b7:aw })).bind fun bN=>
 some bN
def vR (aa:a1) (ai:a1):Option (a1 × Bool):=
 (qp aa.bR ai.bR nk).bind fun aD=>
 (qp aa.bW ai.bW r3).bind fun aM=>
 (qp aM aD nk).bind fun a8=>
 cond (!decide (a8=(default:Vector aw 4))) (
  some ((default:a1),false)) (
  (qp aa.bW ai.bW nm).bind fun br=>
  (qp aa.bR ai.bR nm).bind fun cj=>
  some ({ bW:=br,bR:=cj:a1 },true))
def vw (aa:a1) (ai:a1):Option Bool:=
 (vR ai aa).bind fun aD=>
 some (!aD.2)
def vi (aa:List a1) (ai:a1→Option Bool):Option Int:=
 (dn (σ:=Int) (ε:=(Int × Bool) ⊕ (Int × Int × Int × Bool × Bool)) da (fun s1=>
  cond (decide (s1 < (aa.length:Int))) (
   (idx aa.length s1).bind fun aV=>
   (ai (aB aa aV)).bind fun aD=>
   cond aD (
    some (.inr (Sum.inr (s1,s1,s1,decide (s1 < (aa.length:Int)),aD)))) (
    some (.inl (bm (s1 + 1))))) (
   some (.inr (Sum.inl (s1,decide (s1 < (aa.length:Int))))))) 0).bind fun ay=>
  Sum.elim (fun ay=>
   some (-1)) (fun ay=>
  some ay.1) ay
def vh (aa:List a1) (ai:a1→Option Bool):Option (List a1):=
 (vi aa ai).bind fun aD=>
 cond (aD ==(-1)) (
  some aa) (
  (dn (σ:=Int × Int × (List a1)) (ε:=(Int × Int × Bool × (List a1))) da (fun s1=>
   cond (decide (s1.2.1 < (s1.2.2.length:Int))) (
    (idx s1.2.2.length s1.2.1).bind fun aV=>
    (ai (aB s1.2.2 aV)).bind fun aM=>
    (cond (!aM) (
     (idx s1.2.2.length s1.1).bind fun bu=>
     some (bm (s1.1 + 1),et s1.2.2 bu (aB s1.2.2 aV))) (
     some (s1.1,s1.2.2))).bind fun bJ=>
    some (.inl (bJ.1,bm (s1.2.1 + 1),bJ.2))) (
    some (.inr (s1.1,s1.2.1,decide (s1.2.1 < (s1.2.2.length:Int)),s1.2.2)))) (aD,bm (aD + 1),aa)).bind fun ay=>
  (zQ ay.2.2.2.length ay.1 (ay.2.2.2.length:Int)).bind fun a8=>
  (some (nv ay.2.2.2 a8.1 (a8.2 - a8.1))).bind fun bN=>
  (idx (bN.length + 1) ay.1).bind fun cb=>
  (some (bN.take cb)).bind fun c7=>
  some c7)
def qq (aa:a1) (ai:List a1):Option (List a1):=
 (xw ai).bind fun aD=>
 (vh aD (fun fT=>vw fT aa)).bind fun aM=>
 some aM
def yl (aa:a1) (ai:a1):Option Bool:=
 (vR aa ai).bind fun aD=>
 some (aD.2 && (decide (aD.1=aa)))
def xU (aa:a1) (ai:a1):Option Bool:=
 (yl ai aa).bind fun aD=>
 some aD
def xr (aa:List a1) (ai:a1→Option Bool):Option Bool:=
 (vi aa ai).bind fun aD=>
 some (decide (aD≥0))
def vT (aa:aw) (ai:Int):Option aw:=
 (rX ai).bind fun aD=>
 (nk aD ({ dS:= ~~~aa.dS,b7:= ~~~aa.b7:aw })).bind fun aM=>
 some aM
def yh (aa:a1) (ai:List a1):Option ((Vector aw 4) × (Vector aw 4)):=
 (dn (σ:=Int × (Vector aw 4) × (Vector aw 4)) (ε:=(Int × Bool × (Vector aw 4) × (Vector aw 4))) da (fun s1=>
  cond (decide (s1.1 < (ai.length:Int))) (
   (idx ai.length s1.1).bind fun aV=>
   (dn (σ:=Int × (Vector aw 4) × (Vector aw 4)) (ε:=(Int × Bool × (Vector aw 4) × (Vector aw 4))) da (fun s2=>
    cond (decide (s2.1 < 4)) (
     (idx 4 s2.1).bind fun bu=>
     (idx 4 s2.1).bind fun cb=>
     (vT (bd aa.bR cb) 128).bind fun aD=>
     (nk (bd ((aB ai aV).bR) bu) aD).bind fun aM=>
     (idx 4 s2.1).bind fun du=>
     (idx 4 s2.1).bind fun dA=>
     (nk aM (bd ((aB ai aV).bW) dA)).bind fun a8=>
     (nm (bd s2.2.1 du) a8).bind fun br=>
     (idx 4 s2.1).bind fun eM=>
     (idx 4 s2.1).bind fun jy=>
     (idx 4 s2.1).bind fun jg=>
     (vT (bd ((aB ai aV).bW) jg) 128).bind fun cj=>
     (nk aM cj).bind fun cM=>
     (nm (bd s2.2.2 jy) cM).bind fun dv=>
     (idx 4 s2.1).bind fun mg=>
     some (.inl (bm (s2.1 + 1),cq s2.2.1 eM br,cq s2.2.2 mg dv))) (
     some (.inr (s2.1,decide (s2.1 < 4),s2.2.1,s2.2.2)))) (0,s1.2.1,s1.2.2)).bind fun aS=>
   some (.inl (bm (s1.1 + 1),aS.2.2.1,aS.2.2.2))) (
   some (.inr (s1.1,decide (s1.1 < (ai.length:Int)),s1.2.1,s1.2.2)))) (0,(default:Vector aw 4),(default:Vector aw 4))).bind fun ay=>
 some (ay.2.2.2,ay.2.2.1)
def yg (aa:a1) (ai:Vector aw 4) (aR:Vector aw 4):Option a1:=
 (dn (σ:=Int × a1) (ε:=(Int × Bool × a1)) da (fun s1=>
  cond (decide (s1.1 < 4)) (
   (idx 4 s1.1).bind fun aV=>
   (idx 4 s1.1).bind fun bu=>
   (nk (bd ai aV) (bd aR bu)).bind fun aD=>
   (idx 4 s1.1).bind fun cb=>
   (idx 4 s1.1).bind fun du=>
   (idx 4 s1.1).bind fun dA=>
   (nm (bd ai du) (bd aR dA)).bind fun aM=>
   (r3 aM aD).bind fun a8=>
   (nm (bd s1.2.bR cb) a8).bind fun br=>
   (idx 4 s1.1).bind fun eM=>
   (idx 4 s1.1).bind fun jy=>
   (idx 4 s1.1).bind fun jg=>
   (r3 (bd ai jg) aD).bind fun cj=>
   (nm (bd s1.2.bW jy) cj).bind fun cM=>
   (idx 4 s1.1).bind fun mg=>
   (some (({ ({ s1.2 with bR:=cq s1.2.bR eM br } :a1) with bW:=cq s1.2.bW mg cM } :a1))).bind fun bN=>
   some (.inl (bm (s1.1 + 1),bN))) (
   some (.inr (s1.1,decide (s1.1 < 4),s1.2)))) (0,aa)).bind fun ay=>
 some ay.2.2
def vU (aa:Vector aw 4) (ai:Int):Option Bool:=
 (uF ai 128).bind fun aD=>
 (idx 4 aD).bind fun aV=>
 (nE ai 128).bind fun aM=>
 (qt (bd aa aV) (bm (127 - aM))).bind fun a8=>
 some a8
def x8 (aa:Vector aw 4) (ai:List a1):Option Int:=
 (dn (σ:=Int × Int × Int) (ε:=(Int × Int × Int × Bool)) da (fun s1=>
  cond (decide (s1.2.2 < 512)) (
   (vU aa s1.2.2).bind fun aD=>
   cond (!aD) (
    some (.inl (s1.1,s1.2.1,bm (s1.2.2 + 1)))) (
    (dn (σ:=Int × Int) (ε:=(Int × Int × Bool)) da (fun s2=>
     cond (decide (s2.2 < (ai.length:Int))) (
      (idx ai.length s2.2).bind fun aV=>
      (vU ((aB ai aV).bR) s1.2.2).bind fun aM=>
      (cond aM (
       some (bm (s2.1 + 1))) (
       some s2.1)).bind fun bJ=>
      some (.inl (bJ,bm (s2.2 + 1)))) (
      some (.inr (s2.1,s2.2,decide (s2.2 < (ai.length:Int)))))) (0,0)).bind fun aS=>
    (cond (decide (aS.1 > s1.2.1)) (
     some (s1.2.2,aS.1)) (
     some (s1.1,s1.2.1))).bind fun cy=>
    some (.inl (cy.1,cy.2,bm (s1.2.2 + 1))))) (
   some (.inr (s1.1,s1.2.1,s1.2.2,decide (s1.2.2 < 512))))) (0,0,0)).bind fun ay=>
 some ay.1
def vO (aa:Int):Option (Int × Int):=
 (uF aa 128).bind fun aD=>
 (nE aa 128).bind fun aM=>
 some (aD,bm (127 - aM))
def yz (aa:Vector aw 4) (ai:Int):Option Bool:=
 (vO ai).bind fun aD=>
 (idx 4 aD.1).bind fun aV=>
 (qt (bd aa aV) aD.2).bind fun aM=>
 some aM
def E6 (aa:BitVec 64):Option aw:=
 some ({ (default:aw) with b7:=aa } :aw)
def yp (aa:aw) (ai:Int):Option aw:=
 cond (decide (ai≤0)) (
  some aa) (
  cond (decide (ai≥64)) (
   (some (({ (default:aw) with dS:=aa.b7 <<< (BitVec.ofInt 64 (bm (ai - 64))).toNat } :aw))).bind fun bN=>
   some bN) (
   (some ((aa.dS <<< (BitVec.ofInt 64 ai).toNat) ||| (aa.b7 >>> (BitVec.ofInt 64 (bm (64 - ai))).toNat))).bind fun c7=>
   (some ({ dS:=c7,b7:=aa.b7 <<< (BitVec.ofInt 64 ai).toNat:aw })).bind fun fA=>
   some fA))
def qv (aa:a1) (ai:Int) (aR:Bool):Option a1:=
 (cX ((decide (ai < 0)) || (decide (ai≥512))) false (yz aa.bR ai)).bind fun aD=>
 cond (((decide (ai < 0)) || (decide (ai≥512))) || aD) (
  some aa) (
  (vO ai).bind fun aM=>
  (E6 (1#64)).bind fun a8=>
  (yp a8 aM.2).bind fun br=>
  (idx 4 aM.1).bind fun aV=>
  (nm (bd aa.bR aV) br).bind fun cj=>
  (idx 4 aM.1).bind fun bu=>
  (cond aR (
   (idx 4 aM.1).bind fun cb=>
   (nm (bd aa.bW cb) br).bind fun cM=>
   (idx 4 aM.1).bind fun du=>
   (some (({ ({ aa with bR:=cq aa.bR bu cj } :a1) with bW:=cq aa.bW du cM } :a1))).bind fun bN=>
   some bN) (
   some ({ aa with bR:=cq aa.bR bu cj } :a1))).bind fun bJ=>
  some bJ)
def qo:Nat→a1→ (List a1)→Option Bool
 | 0=>fun _ _=>none
 | n + 1=>fun aa ai=>
   (qq aa ai).bind fun aD=>
   (xr aD (fun fT=>xU fT aa)).bind fun aM=>
   cond aM (
    some true) (
    cond ((aD.length:Int) ==0) (
     some false) (
     (yh aa aD).bind fun a8=>
     (yg aa a8.1 a8.2).bind fun br=>
     cond (!decide (br=aa)) (
      (qo n br aD).bind fun cj=>
      some cj) (
      (x8 a8.1 aD).bind fun cM=>
      (qv aa cM false).bind fun dv=>
      (qo n dv aD).bind fun eU=>
      (cX eU true (qv aa cM true)).bind fun fo=>
      (cX eU true (qo n fo aD)).bind fun gP=>
      some (eU && gP))))
def x9 (aa:a1) (ai:List a1):Option Bool:=qo da aa ai
def vD (aa:a1) (ai:List a1):Option (Bool × Int):=
 (qq aa ai).bind fun aD=>
 cond (decide ((aD.length:Int) > 16)) (
  some (false,26)) (
  (x9 aa aD).bind fun aM=>
  some (aM,0))
def oO (aa:a0) (ai:List aU) (aR:Int):Option (Bool × Int):=
 (rR aa ai aR).bind fun aD=>
 cond (aD.2.2 !=0) (
  some (false,aD.2.2)) (
  (vD aD.1 aD.2.1).bind fun aM=>
  some (aM.1,aM.2))
def xo (aa:List cP) (ai:Int) (aR:Int) (cQ:cP→cP→Option Int):Option (List cP):=
 (dn (σ:=Int × (List cP)) (ε:=(Int × Bool × (List cP))) da (fun s1=>
  cond (decide (s1.1 < aR)) (
   (dn (σ:=Int × (List cP)) (ε:=(Int × Bool × (List cP))) da (fun s2=>
    (cX (decide (s2.1 > ai)) true (idx s2.2.length s2.1)).bind fun aV=>
    (cX (decide (s2.1 > ai)) true (idx s2.2.length (bm (s2.1 - 1)))).bind fun bu=>
    (cX (decide (s2.1 > ai)) true (cQ (aB s2.2 aV) (aB s2.2 bu))).bind fun aD=>
    cond ((decide (s2.1 > ai)) && (decide (aD < 0))) (
     (idx s2.2.length (bm (s2.1 - 1))).bind fun cb=>
     (idx s2.2.length s2.1).bind fun du=>
     (idx s2.2.length s2.1).bind fun dA=>
     (idx ((et s2.2 dA (aB s2.2 cb)).length) (bm (s2.1 - 1))).bind fun eM=>
     some (.inl (bm (s2.1 - 1),et (et s2.2 dA (aB s2.2 cb)) eM (aB s2.2 du)))) (
     some (.inr (s2.1,(decide (s2.1 > ai)) && (decide (aD < 0)),s2.2)))) (s1.1,s1.2)).bind fun aS=>
   some (.inl (bm (s1.1 + 1),aS.2.2))) (
   some (.inr (s1.1,decide (s1.1 < aR),s1.2)))) (bm (ai + 1),aa)).bind fun ay=>
 some ay.2.2
def Be (aa:List cP) (ai:Int) (aR:cP→cP→Option Int):Option (List cP):=
 (dn (σ:=Unit) (ε:=Bool) da (fun s1=>
  cond (decide (20≤ai)) (
   none) (
   some (.inr (decide (20≤ai))))) ()).bind fun ay=>
 (q7 aa.length (xo aa 0 ai aR)).bind fun aD=>
 (dn (σ:=Unit) (ε:=Bool) da (fun s2=>
  cond (decide (20 < ai)) (
   none) (
   some (.inr (decide (20 < ai))))) ()).bind fun aS=>
 some aD
def xq (aa:List cP) (ai:cP→cP→Option Int):Option (List cP):=
 (q7 aa.length (Be aa (aa.length:Int) ai)).bind fun aD=>
 some aD
def BE (aa:cP) (ai:cP):Option Int:=
 (rQ aa.cg ai.cg).bind fun aD=>
 some aD
def yc (aa:a0) (ai:List aU):Option (List cP):=
 (dn (σ:=Int × (List cP)) (ε:=(Int × Bool × (List cP))) da (fun s1=>
  cond (decide (s1.1 < (ai.length:Int))) (
   (idx ai.length s1.1).bind fun aV=>
   (some (({ (default:cP) with cg:=(aB ai aV).cg } :cP))).bind fun bN=>
   (oO aa ai ((aB ai aV).cg)).bind fun aD=>
   (some (({ ({ bN with r5:=aD.1 } :cP) with sy:=aD.2 } :cP))).bind fun c7=>
   (fP 24 s1.2 [c7]).bind fun aM=>
   some (.inl (bm (s1.1 + 1),aM))) (
   some (.inr (s1.1,decide (s1.1 < (ai.length:Int)),s1.2)))) (0,([]:List cP))).bind fun ay=>
 (q7 ay.2.2.length (xq ay.2.2 BE)).bind fun a8=>
 some a8
def vS (aa:a0):Option (Vector (List Int) 6):=
 (dn (σ:=Int × (List Int) × (Vector (List Int) 6)) (ε:=(Int × Bool × (List Int) × (Vector (List Int) 6))) da (fun s1=>
  cond (decide (s1.1 < (aa.fg.length:Int))) (
   (idx aa.fg.length s1.1).bind fun aV=>
   (fP 8 s1.2.1 [(aB aa.fg aV).bU]).bind fun aD=>
   some (.inl (bm (s1.1 + 1),aD,cq s1.2.2 0 []))) (
   some (.inr (s1.1,decide (s1.1 < (aa.fg.length:Int)),s1.2.1,s1.2.2)))) (0,([]:List Int),(default:Vector (List Int) 6))).bind fun ay=>
 (dn (σ:=Int × (List Int) × (Vector (List Int) 6)) (ε:=(Int × Bool × (List Int) × (Vector (List Int) 6))) da (fun s2=>
  cond (decide (s2.1 < (aa.lA.length:Int))) (
   (idx aa.lA.length s2.1).bind fun bu=>
   (fP 8 s2.2.1 [(aB aa.lA bu).bU]).bind fun aM=>
   some (.inl (bm (s2.1 + 1),aM,cq s2.2.2 1 []))) (
   some (.inr (s2.1,decide (s2.1 < (aa.lA.length:Int)),s2.2.1,s2.2.2)))) (0,([]:List Int),ay.2.2.2)).bind fun aS=>
 (dn (σ:=Int × (List Int) × (Vector (List Int) 6)) (ε:=(Int × Bool × (List Int) × (Vector (List Int) 6))) da (fun kT=>
  cond (decide (kT.1 < (aa.lW.length:Int))) (
   (idx aa.lW.length kT.1).bind fun cb=>
   (fP 8 kT.2.1 [(aB aa.lW cb).bU]).bind fun a8=>
   some (.inl (bm (kT.1 + 1),a8,cq kT.2.2 2 []))) (
   some (.inr (kT.1,decide (kT.1 < (aa.lW.length:Int)),kT.2.1,kT.2.2)))) (0,([]:List Int),aS.2.2.2)).bind fun cW=>
 (dn (σ:=Int × (List Int) × (Vector (List Int) 6)) (ε:=(Int × Bool × (List Int) × (Vector (List Int) 6))) da (fun lQ=>
  cond (decide (lQ.1 < (aa.di.length:Int))) (
   (idx aa.di.length lQ.1).bind fun du=>
   (fP 8 lQ.2.1 [(aB aa.di du).bU]).bind fun br=>
   some (.inl (bm (lQ.1 + 1),br,cq lQ.2.2 3 []))) (
   some (.inr (lQ.1,decide (lQ.1 < (aa.di.length:Int)),lQ.2.1,lQ.2.2)))) (0,([]:List Int),cW.2.2.2)).bind fun eh=>
 (dn (σ:=Int × (List Int) × (Vector (List Int) 6)) (ε:=(Int × Bool × (List Int) × (Vector (List Int) 6))) da (fun hL=>
  cond (decide (hL.1 < (aa.bB.length:Int))) (
   (idx aa.bB.length hL.1).bind fun dA=>
   (fP 8 hL.2.1 [(aB aa.bB dA).bU]).bind fun cj=>
   some (.inl (bm (hL.1 + 1),cj,cq hL.2.2 4 []))) (
   some (.inr (hL.1,decide (hL.1 < (aa.bB.length:Int)),hL.2.1,hL.2.2)))) (0,([]:List Int),eh.2.2.2)).bind fun gS=>
 (dn (σ:=Int × (List Int) × (Vector (List Int) 6)) (ε:=(Int × Bool × (List Int) × (Vector (List Int) 6))) da (fun il=>
  cond (decide (il.1 < (aa.jl.length:Int))) (
   (idx aa.jl.length il.1).bind fun eM=>
   (fP 8 il.2.1 [(aB aa.jl eM).bU]).bind fun cM=>
   some (.inl (bm (il.1 + 1),cM,cq il.2.2 5 []))) (
   some (.inr (il.1,decide (il.1 < (aa.jl.length:Int)),il.2.1,il.2.2)))) (0,([]:List Int),gS.2.2.2)).bind fun hC=>
 (some ((cq (cq (cq (cq (cq (cq hC.2.2.2 0 ay.2.2.1) 1 aS.2.2.1) 2 cW.2.2.1) 3 eh.2.2.1) 4 gS.2.2.1) 5 hC.2.2.1))).bind fun bN=>
 some bN
def vL (aa:List Int) (ai:Int):Option Int:=
 (dn (σ:=Int) (ε:=(Int × Bool) ⊕ (Int × Int × Int × Int × Bool × Bool)) da (fun s1=>
  cond (decide (s1 < (aa.length:Int))) (
   (idx aa.length s1).bind fun aV=>
   cond ((aB aa aV) ==ai) (
    some (.inr (Sum.inr (s1,s1,aB aa aV,s1,decide (s1 < (aa.length:Int)),(aB aa aV) ==ai)))) (
    some (.inl (bm (s1 + 1))))) (
   some (.inr (Sum.inl (s1,decide (s1 < (aa.length:Int))))))) 0).bind fun ay=>
  Sum.elim (fun ay=>
   some (-1)) (fun ay=>
  some ay.1) ay
def vz (aa:a0) (ai:Int):Option Int:=
 (vS aa).bind fun aD=>
 (vL (bd aD 4) ai).bind fun aM=>
 some aM
def x6 (aa:a0) (ai:Int):Option Int:=
 (vS aa).bind fun aD=>
 (vL (bd aD 0) ai).bind fun aM=>
 some aM
def BY (aa:a0) (ai:Int):Option Int:=
 (x6 aa ai).bind fun aD=>
 (idx aa.fg.length aD).bind fun aV=>
 some ((aB aa.fg aV).e7)
def x7 (aa:a0) (ai:bX) (aR:Int):Option Int:=
 (idx ai.bQ.length aR).bind fun aV=>
 (BY aa ((aB ai.bQ aV).gn)).bind fun aD=>
 some aD
def rV (aa:Int):Option Int:=
 some (max 0 (min aa 128))
def tw (aa:Vector Bool 128):Option aw:=
 (dn (σ:=Int × aw) (ε:=(Int × Bool × aw)) da (fun s1=>
  cond (decide (s1.1 < 64)) (
   (idx 128 s1.1).bind fun aV=>
   (cond (bd aa aV) (
    (some (({ s1.2 with b7:=s1.2.b7 ||| ((1#64) <<< (BitVec.ofInt 64 s1.1).toNat) } :aw))).bind fun c7=>
    some c7) (
    some s1.2)).bind fun bJ=>
   (idx 128 (bm (s1.1 + 64))).bind fun bu=>
   (cond (bd aa bu) (
    (some (({ bJ with dS:=bJ.dS ||| ((1#64) <<< (BitVec.ofInt 64 s1.1).toNat) } :aw))).bind fun bN=>
    some bN) (
    some bJ)).bind fun cy=>
   some (.inl (bm (s1.1 + 1),cy))) (
   some (.inr (s1.1,decide (s1.1 < 64),s1.2)))) (0,(default:aw))).bind fun ay=>
 some ay.2.2
def yr (aa:Int):Option aw:=
 (dn (σ:=Int × (Vector Bool 128)) (ε:=(Int × Bool × (Vector Bool 128))) da (fun s1=>
  (rV aa).bind fun aD=>
  cond (decide (s1.1 < aD)) (
   (idx 128 s1.1).bind fun aV=>
   some (.inl (bm (s1.1 + 1),cq s1.2 aV true))) (
   some (.inr (s1.1,decide (s1.1 < aD),s1.2)))) (0,(default:Vector Bool 128))).bind fun ay=>
 (tw ay.2.2).bind fun aM=>
 some aM
def x5 (aa:Int) (ai:Int):Option aw:=
 (rV aa).bind fun aD=>
 (dn (σ:=Int × (Vector Bool 128)) (ε:=(Int × Bool × (Vector Bool 128))) da (fun s1=>
  cond (decide (s1.1 < aD)) (
   (idx 128 s1.1).bind fun aV=>
   some (.inl (bm (s1.1 + 1),cq s1.2 aV true))) (
   some (.inr (s1.1,decide (s1.1 < aD),s1.2)))) (bm (aD - (max 0 (min ai aD))),(default:Vector Bool 128))).bind fun ay=>
 (tw ay.2.2).bind fun aM=>
 some aM
def vN (aa:aw):Option (Vector Bool 128):=
 (dn (σ:=Int × (Vector Bool 128)) (ε:=(Int × Bool × (Vector Bool 128))) da (fun s1=>
  cond (decide (s1.1 < 64)) (
   (idx 128 s1.1).bind fun aV=>
   (some (cq s1.2 aV (((aa.b7 >>> (BitVec.ofInt 64 s1.1).toNat) &&& (1#64)) ==(1#64)))).bind fun bN=>
   (idx 128 (bm (s1.1 + 64))).bind fun bu=>
   (some (cq bN bu (((aa.dS >>> (BitVec.ofInt 64 s1.1).toNat) &&& (1#64)) ==(1#64)))).bind fun c7=>
   some (.inl (bm (s1.1 + 1),c7))) (
   some (.inr (s1.1,decide (s1.1 < 64),s1.2)))) (0,(default:Vector Bool 128))).bind fun ay=>
 some ay.2.2
def yq (aa:Vector aw 4) (ai:Vector aw 4):Option (Vector (BitVec 8) 512):=
 (dn (σ:=Int × (Vector (BitVec 8) 512)) (ε:=(Int × Bool × (Vector (BitVec 8) 512))) da (fun s1=>
  cond (decide (s1.1 < 4)) (
   (idx 4 s1.1).bind fun aV=>
   (vN (bd aa aV)).bind fun aD=>
   (idx 4 s1.1).bind fun bu=>
   (vN (bd ai bu)).bind fun aM=>
   (dn (σ:=Int × (Vector (BitVec 8) 512)) (ε:=(Int × Bool × (Vector (BitVec 8) 512))) da (fun s2=>
    cond (decide (s2.1 < 128)) (
     (idx 128 s2.1).bind fun cb=>
     (cond (!(bd aM cb)) (
      (idx 512 (bm ((bm ((bm (128 * s1.1)) + 127)) - s2.1))).bind fun du=>
      some (cq s2.2 du (2#8))) (
      (idx 128 s2.1).bind fun dA=>
      (cond (bd aD dA) (
       (idx 512 (bm ((bm ((bm (128 * s1.1)) + 127)) - s2.1))).bind fun eM=>
       some (cq s2.2 eM (1#8))) (
       some s2.2)).bind fun cy=>
      some cy)).bind fun bJ=>
     some (.inl (bm (s2.1 + 1),bJ))) (
     some (.inr (s2.1,decide (s2.1 < 128),s2.2)))) (0,s1.2)).bind fun aS=>
   some (.inl (bm (s1.1 + 1),aS.2.2))) (
   some (.inr (s1.1,decide (s1.1 < 4),s1.2)))) (0,(default:Vector (BitVec 8) 512))).bind fun ay=>
 some ay.2.2
def qw (aa:a0) (ai:bL):Option ((Vector (BitVec 8) 512) × Bool):=
 (vz aa ai.dJ).bind fun aD=>
 cond (decide (aD < 0)) (
  some ((default:Vector (BitVec 8) 512),false)) (
  (idx aa.bB.length aD).bind fun aV=>
  (dn (σ:=Int × (Vector aw 4) × (Vector aw 4)) (ε:=(Int × Bool × (Vector aw 4) × (Vector aw 4)) ⊕ (Int × Int × Int × Bool × Bool × (Vector aw 4) × (Vector aw 4))) da (fun s1=>
   cond (decide (s1.1 < (((aB aa.bB aV).bQ).length:Int))) (
    (idx (((aB aa.bB aV).bQ).length) s1.1).bind fun bu=>
    (idx ai.cu.length s1.1).bind fun cb=>
    (idx aa.bB.length aD).bind fun du=>
    (x7 aa (aB aa.bB du) s1.1).bind fun aM=>
    cond (((aB ((aB aa.bB aV).bQ) bu).cS) ==4) (
     some (.inr (Sum.inr (s1.1,aM,s1.1,decide (s1.1 < (((aB aa.bB aV).bQ).length:Int)),((aB ((aB aa.bB aV).bQ) bu).cS) ==4,s1.2.1,s1.2.2)))) (
     cond (!((aB ai.cu cb).hV)) (
      some (.inl (bm (s1.1 + 1),s1.2.1,s1.2.2))) (
      (cond (((aB ((aB aa.bB aV).bQ) bu).cS) ==1) (
       (yr aM).bind fun a8=>
       (idx 4 s1.1).bind fun eM=>
       some (cq s1.2.1 eM a8)) (
       (cond (((aB ((aB aa.bB aV).bQ) bu).cS) ==2) (
        (x5 aM ((aB ai.cu cb).gV)).bind fun br=>
        (idx 4 s1.1).bind fun jy=>
        some (cq s1.2.1 jy br)) (
        (idx 4 s1.1).bind fun jg=>
        some (cq s1.2.1 jg ((aB ai.cu cb).bR)))).bind fun cy=>
       some cy)).bind fun bJ=>
      (idx 4 s1.1).bind fun dA=>
      some (.inl (bm (s1.1 + 1),bJ,cq s1.2.2 dA ((aB ai.cu cb).bW)))))) (
    some (.inr (Sum.inl (s1.1,decide (s1.1 < (((aB aa.bB aV).bQ).length:Int)),s1.2.1,s1.2.2))))) (0,(default:Vector aw 4),(default:Vector aw 4))).bind fun ay=>
   Sum.elim (fun ay=>
    (yq ay.2.2.2 ay.2.2.1).bind fun cj=>
    some (cj,true)) (fun ay=>
   some ((default:Vector (BitVec 8) 512),false)) ay)
def vJ (aa:a0) (ai:bL):Option Int:=
 (vz aa ai.dJ).bind fun aD=>
 cond (decide (aD < 0)) (
  some 0) (
  (idx aa.bB.length aD).bind fun aV=>
  (dn (σ:=Int) (ε:=(Int × Bool) ⊕ (Int × Int × Int × Bool × Bool)) da (fun s1=>
   cond (decide (s1 < (((aB aa.bB aV).bQ).length:Int))) (
    (idx (((aB aa.bB aV).bQ).length) s1).bind fun bu=>
    (some ((((aB ((aB aa.bB aV).bQ) bu).cS) ==2) && (decide (s1 < (ai.cu.length:Int))))).bind fun bN=>
    cond bN (
     (idx ai.cu.length s1).bind fun cb=>
     some (.inr (Sum.inr ((aB ai.cu cb).gV,s1,s1,decide (s1 < (((aB aa.bB aV).bQ).length:Int)),bN)))) (
     some (.inl (bm (s1 + 1))))) (
    some (.inr (Sum.inl (s1,decide (s1 < (((aB aa.bB aV).bQ).length:Int))))))) 0).bind fun ay=>
   Sum.elim (fun ay=>
    some 0) (fun ay=>
   some ay.1) ay)
def ym (aa:a0) (ai:aU) (aR:aU):Option Bool:=
 cond (ai.cr.g9 !=aR.cr.g9) (
  some (decide (ai.cr.g9 > aR.cr.g9))) (
  (vJ aa ai.cr).bind fun aD=>
  (vJ aa aR.cr).bind fun aM=>
  cond (aD !=aM) (
   some (decide (aD > aM))) (
   some (decide (ai.cg > aR.cg))))
def rW (aa:a0) (ai:List aU) (aR:Int):Option ((Vector (BitVec 8) 512) × (List (Vector (BitVec 8) 512)) × Int):=
 (dn (σ:=Int) (ε:=(Int × Bool) ⊕ ((List (Vector (BitVec 8) 512)) × Int × Bool × Int × Bool × Bool × Bool × (Vector (BitVec 8) 512))) da (fun s1=>
  cond (decide (s1 < (ai.length:Int))) (
   (idx ai.length s1).bind fun aV=>
   cond (((aB ai aV).cg) !=aR) (
    some (.inl (bm (s1 + 1)))) (
    (qw aa ((aB ai aV).cr)).bind fun aD=>
    cond (!aD.2) (
     some (.inr (Sum.inr (([]:List (Vector (BitVec 8) 512)),13,aD.2,s1,decide (s1 < (ai.length:Int)),((aB ai aV).cg) !=aR,!aD.2,(default:Vector (BitVec 8) 512))))) (
     (dn (σ:=Int × (List (Vector (BitVec 8) 512))) (ε:=(Int × Bool × (List (Vector (BitVec 8) 512)))) da (fun s2=>
      cond (decide (s2.1 < (ai.length:Int))) (
       (idx ai.length s2.1).bind fun bu=>
       (cX (((aB ai bu).cg) !=aR) true (ym aa (aB ai bu) (aB ai aV))).bind fun aM=>
       (cond ((((aB ai bu).cg) !=aR) && aM) (
        (qw aa ((aB ai bu).cr)).bind fun a8=>
        (fP 512 s2.2 [a8.1]).bind fun br=>
        some br) (
        some s2.2)).bind fun bJ=>
       some (.inl (bm (s2.1 + 1),bJ))) (
       some (.inr (s2.1,decide (s2.1 < (ai.length:Int)),s2.2)))) (0,([]:List (Vector (BitVec 8) 512)))).bind fun aS=>
     some (.inr (Sum.inr (aS.2.2,0,aD.2,s1,decide (s1 < (ai.length:Int)),((aB ai aV).cg) !=aR,!aD.2,aD.1)))))) (
   some (.inr (Sum.inl (s1,decide (s1 < (ai.length:Int))))))) 0).bind fun ay=>
  Sum.elim (fun ay=>
   some ((default:Vector (BitVec 8) 512),([]:List (Vector (BitVec 8) 512)),16)) (fun ay=>
  some (ay.2.2.2.2.2.2.2,ay.1,ay.2.1)) ay
def yo (aa:Vector (BitVec 8) 512) (ai:Vector (BitVec 8) 512):Option ((Vector (BitVec 8) 512) × Bool):=
 (dn (σ:=Int × (Vector (BitVec 8) 512)) (ε:=(Int × Bool × (Vector (BitVec 8) 512)) ⊕ (Int × Int × Bool × Bool × Bool × (Vector (BitVec 8) 512))) da (fun s1=>
  cond (decide (s1.1 < 512)) (
   (idx 512 s1.1).bind fun aV=>
   cond ((bd s1.2 aV) ==(2#8)) (
    (idx 512 s1.1).bind fun bu=>
    (idx 512 s1.1).bind fun cb=>
    some (.inl (bm (s1.1 + 1),cq s1.2 cb (bd ai bu)))) (
    (idx 512 s1.1).bind fun du=>
    (cX ((bd ai du) !=(2#8)) true (idx 512 s1.1)).bind fun dA=>
    (cX ((bd ai du) !=(2#8)) true (idx 512 s1.1)).bind fun eM=>
    cond (((bd ai du) !=(2#8)) && ((bd s1.2 dA) !=(bd ai eM))) (
     some (.inr (Sum.inr (s1.1,s1.1,decide (s1.1 < 512),(bd s1.2 aV) ==(2#8),((bd ai du) !=(2#8)) && ((bd s1.2 dA) !=(bd ai eM)),s1.2)))) (
     some (.inl (bm (s1.1 + 1),s1.2))))) (
   some (.inr (Sum.inl (s1.1,decide (s1.1 < 512),s1.2))))) (0,aa)).bind fun ay=>
  Sum.elim (fun ay=>
   some (ay.2.2,true)) (fun ay=>
  some ((default:Vector (BitVec 8) 512),false)) ay
def tx (aa:Vector (BitVec 8) 512) (ai:List (Vector (BitVec 8) 512)):Option (List (Vector (BitVec 8) 512)):=
 (dn (σ:=Int × (List (Vector (BitVec 8) 512))) (ε:=(Int × Bool × (List (Vector (BitVec 8) 512)))) da (fun s1=>
  cond (decide (s1.1 < (ai.length:Int))) (
   (idx ai.length s1.1).bind fun aV=>
   (yo aa (aB ai aV)).bind fun aD=>
   (cond aD.2 (
    (fP 512 s1.2 [(aB ai aV)]).bind fun aM=>
    some aM) (
    some s1.2)).bind fun bJ=>
   some (.inl (bm (s1.1 + 1),bJ))) (
   some (.inr (s1.1,decide (s1.1 < (ai.length:Int)),s1.2)))) (0,([]:List (Vector (BitVec 8) 512)))).bind fun ay=>
 some ay.2.2
def ye (aa:Vector (BitVec 8) 512) (ai:Vector (BitVec 8) 512):Option Bool:=
 (dn (σ:=Int) (ε:=(Int × Bool) ⊕ (Int × Int × Bool × Bool)) da (fun s1=>
  cond (decide (s1 < 512)) (
   (idx 512 s1).bind fun aV=>
   (cX ((bd ai aV) !=(2#8)) true (idx 512 s1)).bind fun bu=>
   (cX ((bd ai aV) !=(2#8)) true (idx 512 s1)).bind fun cb=>
   cond (((bd ai aV) !=(2#8)) && ((bd aa bu) !=(bd ai cb))) (
    some (.inr (Sum.inr (s1,s1,decide (s1 < 512),((bd ai aV) !=(2#8)) && ((bd aa bu) !=(bd ai cb)))))) (
    some (.inl (bm (s1 + 1))))) (
   some (.inr (Sum.inl (s1,decide (s1 < 512)))))) 0).bind fun ay=>
  Sum.elim (fun ay=>
   some true) (fun ay=>
  some false) ay
def rS:Nat→ (Vector (BitVec 8) 512)→ (List (Vector (BitVec 8) 512))→Option Bool
 | 0=>fun _ _=>none
 | n + 1=>fun aa ai=>
   (tx aa ai).bind fun aD=>
   cond ((aD.length:Int) ==0) (
    some false) (
    (dn (σ:=Int) (ε:=(Int × Bool) ⊕ (Bool × Int × Bool × Bool)) da (fun s1=>
     cond (decide (s1 < (aD.length:Int))) (
      (idx aD.length s1).bind fun aV=>
      (ye aa (aB aD aV)).bind fun aM=>
      cond aM (
       some (.inr (Sum.inr (true,s1,decide (s1 < (aD.length:Int)),aM)))) (
       some (.inl (bm (s1 + 1))))) (
      some (.inr (Sum.inl (s1,decide (s1 < (aD.length:Int))))))) 0).bind fun ay=>
     Sum.elim (fun ay=>
      (dn (σ:=Int) (ε:=(Int × Bool) ⊕ (Bool × Int × Int × Bool × Bool)) da (fun s2=>
       cond (decide (s2 < 512)) (
        (idx 512 s2).bind fun bu=>
        (cX ((bd aa bu) !=(2#8)) false (idx aD.length 0)).bind fun cb=>
        (cX ((bd aa bu) !=(2#8)) false (idx 512 s2)).bind fun du=>
        cond (((bd aa bu) !=(2#8)) || ((bd (aB aD cb) du) ==(2#8))) (
         some (.inl (bm (s2 + 1)))) (
         (idx aD.length 0).bind fun dA=>
         (idx 512 s2).bind fun eM=>
         (idx aD.length 0).bind fun jy=>
         (idx 512 s2).bind fun jg=>
         (idx 512 s2).bind fun mg=>
         (idx 512 s2).bind fun z4=>
         (rS n (cq aa mg ((1#8) - (bd (aB aD dA) eM))) aD).bind fun a8=>
         (cX a8 true (rS n (cq aa z4 (bd (aB aD jy) jg)) aD)).bind fun br=>
         some (.inr (Sum.inr (a8 && br,s2,s2,decide (s2 < 512),((bd aa bu) !=(2#8)) || ((bd (aB aD cb) du) ==(2#8))))))) (
        some (.inr (Sum.inl (s2,decide (s2 < 512)))))) 0).bind fun aS=>
       Sum.elim (fun aS=>
        some false) (fun aS=>
       some aS.1) aS) (fun ay=>
     some ay.1) ay)
def EO (aa:Vector (BitVec 8) 512) (ai:List (Vector (BitVec 8) 512)):Option Bool:=rS da aa ai
def vA (aa:Vector (BitVec 8) 512) (ai:List (Vector (BitVec 8) 512)):Option (Bool × Int):=
 (tx aa ai).bind fun aD=>
 cond (decide ((aD.length:Int) > 16)) (
  some (false,26)) (
  (EO aa ai).bind fun aM=>
  some (aM,0))
def tv (aa:a0) (ai:List aU) (aR:Int):Option (Bool × Int):=
 (rW aa ai aR).bind fun aD=>
 cond (aD.2.2 !=0) (
  some (false,aD.2.2)) (
  (vA aD.1 aD.2.1).bind fun aM=>
  some (aM.1,aM.2))
def yj (aa:Vector (BitVec 8) 512):Option (Vector aw 4):=
 (dn (σ:=Int × (Vector aw 4)) (ε:=(Int × Bool × (Vector aw 4))) da (fun s1=>
  cond (decide (s1.1 < 4)) (
   (dn (σ:=Int × (Vector Bool 128)) (ε:=(Int × Bool × (Vector Bool 128))) da (fun s2=>
    cond (decide (s2.1 < 128)) (
     (idx 512 (bm ((bm ((bm (128 * s1.1)) + 127)) - s2.1))).bind fun aV=>
     (idx 128 s2.1).bind fun bu=>
     some (.inl (bm (s2.1 + 1),cq s2.2 bu ((bd aa aV) ==(1#8))))) (
     some (.inr (s2.1,decide (s2.1 < 128),s2.2)))) (0,(default:Vector Bool 128))).bind fun aS=>
   (tw aS.2.2).bind fun aD=>
   (idx 4 s1.1).bind fun cb=>
   some (.inl (bm (s1.1 + 1),cq s1.2 cb aD))) (
   some (.inr (s1.1,decide (s1.1 < 4),s1.2)))) (0,(default:Vector aw 4))).bind fun ay=>
 some ay.2.2
def ya (aa:Vector (BitVec 8) 512) (ai:List (Vector (BitVec 8) 512)):Option ((Vector aw 4) × Bool × Int):=
 (vA aa ai).bind fun aD=>
 cond ((aD.2 !=0) || aD.1) (
  some ((default:Vector aw 4),false,aD.2)) (
  (tx aa ai).bind fun aM=>
  (dn (σ:=Int × (Vector (BitVec 8) 512)) (ε:=(Int × Bool × (Vector (BitVec 8) 512))) da (fun s1=>
   cond (decide (s1.1 < 512)) (
    (idx 512 s1.1).bind fun aV=>
    cond ((bd s1.2 aV) !=(2#8)) (
     some (.inl (bm (s1.1 + 1),s1.2))) (
     (idx 512 s1.1).bind fun bu=>
     (dn (σ:=Bool × Int) (ε:=(Bool × Int × Bool)) da (fun s2=>
      cond (decide (s2.2 < (aM.length:Int))) (
       (idx aM.length s2.2).bind fun cb=>
       (cX s2.1 false (idx 512 s1.1)).bind fun du=>
       some (.inl (s2.1 || ((bd (aB aM cb) du) !=(2#8)),bm (s2.2 + 1)))) (
       some (.inr (s2.1,s2.2,decide (s2.2 < (aM.length:Int)))))) (false,0)).bind fun aS=>
     (cX aS.1 true (EO (cq s1.2 bu (0#8)) aM)).bind fun a8=>
     (cond (aS.1 && a8) (
      (idx 512 s1.1).bind fun dA=>
      some (cq (cq s1.2 bu (0#8)) dA (1#8))) (
      some (cq s1.2 bu (0#8)))).bind fun bJ=>
     some (.inl (bm (s1.1 + 1),bJ)))) (
    some (.inr (s1.1,decide (s1.1 < 512),s1.2)))) (0,aa)).bind fun ay=>
  (yj ay.2.2).bind fun br=>
  some (br,true,0))
def vE (aa:a0) (ai:List aU) (aR:Int):Option ((Vector aw 4) × Bool × Int):=
 (rW aa ai aR).bind fun aD=>
 cond (aD.2.2 !=0) (
  some ((default:Vector aw 4),false,aD.2.2)) (
  (ya aD.1 aD.2.1).bind fun aM=>
  some (aM.1,aM.2.1,aM.2.2))
def yb (aa:a1) (ai:List a1):Option ((Vector aw 4) × Bool × Int):=
 (qq aa ai).bind fun aD=>
 cond (decide ((aD.length:Int) > 16)) (
  some ((default:Vector aw 4),false,26)) (
  (x9 aa aD).bind fun aM=>
  cond aM (
   some ((default:Vector aw 4),false,0)) (
   (dn (σ:=(List a1) × Int × a1) (ε:=((List a1) × Int × Bool × a1)) da (fun s1=>
    cond (decide (s1.2.1 < 512)) (
     (qv s1.2.2 s1.2.1 false).bind fun a8=>
     cond (decide (a8=s1.2.2)) (
      some (.inl (s1.1,bm (s1.2.1 + 1),s1.2.2))) (
      (qq a8 s1.1).bind fun br=>
      (x9 a8 br).bind fun cj=>
      cond (!cj) (
       some (.inl (br,bm (s1.2.1 + 1),a8))) (
       (qv s1.2.2 s1.2.1 true).bind fun cM=>
       (qq cM s1.1).bind fun dv=>
       some (.inl (dv,bm (s1.2.1 + 1),cM))))) (
     some (.inr (s1.1,s1.2.1,decide (s1.2.1 < 512),s1.2.2)))) (aD,0,aa)).bind fun ay=>
   some (ay.2.2.2.bW,true,0)))
def tq (aa:a0) (ai:List aU) (aR:Int):Option ((Vector aw 4) × Bool × Int):=
 (rR aa ai aR).bind fun aD=>
 cond (aD.2.2 !=0) (
  some ((default:Vector aw 4),false,aD.2.2)) (
  (yb aD.1 aD.2.1).bind fun aM=>
  some (aM.1,aM.2.1,aM.2.2))
def BV:Option Bool:=
 (tz ([]:List (BitVec 8)) 0).bind fun aD=>
 (vr aD).bind fun aM=>
 (rm (α:=cA) 64 2).bind fun a8=>
 (some (({ (default:bL) with dJ:=3,cu:=a8,g9:=5,lB:=1 } :bL))).bind fun bN=>
 (some (({ (default:aU) with cr:=bN,cg:=1 } :aU))).bind fun c7=>
 (rm (α:=cA) 64 2).bind fun br=>
 (some (({ (default:bL) with dJ:=3,cu:=br,g9:=4,lB:=1 } :bL))).bind fun fA=>
 (some (({ (default:aU) with cr:=fA,cg:=2 } :aU))).bind fun hj=>
 (oO aM.1 [c7,hj] 2).bind fun cj=>
 (oO aM.1 [c7,hj] 1).bind fun cM=>
 some (((cj.1 && (!cM.1)) && (cj.2 ==0)) && (cM.2 ==0))
def xM (hp:bg Cell) (aa:List (BitVec 8)) (ai:List (BitVec 8)) (aR:Int) (cQ:Int):aK (Bool × (bg Cell)):=
 aK.bind (aK.of (tz aa 120)) fun aD=>
 aK.bind (aK.of (vr aD)) fun aM=>
 aK.bind (aK.of (tz ai 200)) fun a8=>
 aK.bind (yi hp aM.1 a8 aR 14) fun br=>
 aK.bind (aK.of (yc aM.1 br.2.1)) fun cj=>
 cond ((cj.length:Int) !=(br.2.1.length:Int)) (
  aK.ret (false,br.2.2.2)) (
  aK.bind (aK.of (dn (σ:=Int) (ε:=(Int × Bool) ⊕ (Int × Bool × Int × Bool × Int × Bool × Int × Int × Bool × Bool)) da (fun s1=>
    cond (decide (s1 < (br.2.1.length:Int))) (
     (idx br.2.1.length s1).bind fun aV=>
     (tv aM.1 br.2.1 ((aB br.2.1 aV).cg)).bind fun cM=>
     (vE aM.1 br.2.1 ((aB br.2.1 aV).cg)).bind fun dv=>
     (tq aM.1 br.2.1 ((aB br.2.1 aV).cg)).bind fun eU=>
     (idx cj.length s1).bind fun bu=>
     (some ({ cg:=(aB br.2.1 aV).cg,r5:=cM.1,sy:=cM.2:cP })).bind fun bN=>
     (some (((!decide (aB cj bu=bN)) || (!decide (dv.1=eU.1))) || (dv.2.1 !=eU.2.1))).bind fun c7=>
     cond (c7 || (dv.2.2 !=eU.2.2)) (
      some (.inr (Sum.inr (s1,cM.1,cM.2,dv.2.1,dv.2.2,eU.2.1,eU.2.2,s1,decide (s1 < (br.2.1.length:Int)),c7 || (dv.2.2 !=eU.2.2))))) (
      some (.inl (bm (s1 + 1))))) (
     some (.inr (Sum.inl (s1,decide (s1 < (br.2.1.length:Int))))))) 0)) fun ay=>
    Sum.elim (fun ay=>
     aK.bind (aK.of (oO aM.1 br.2.1 cQ)) fun fo=>
     aK.bind (aK.of (tv aM.1 br.2.1 cQ)) fun gP=>
     aK.bind (aK.of (cX ((fo.1 ==gP.1) && (fo.2 ==gP.2)) true (BV))) fun ik=>
     aK.ret (((fo.1 ==gP.1) && (fo.2 ==gP.2)) && ik,br.2.2.2)) (fun ay=>
    aK.ret (false,br.2.2.2)) ay)
end Go.Proofs.YtmnggbjcnoffeaaGreat
