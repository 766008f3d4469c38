/-
  Each function of the translation as a functional program. Conditions: none.
-/
import Derived.Test.YtmnggbjcnoffeaaGreatMt
namespace Go.Proofs.YtmnggbjcnoffeaaGreat
open Go Gv
set_option linter.unusedVariables false
set_option linter.unusedSimpArgs false
set_option maxRecDepth 100000
def qd (ab:List (BitVec 8)) (al:Int):Option bm:=
 (tt ab 0 (min (ab.length:Int) al)).bind fun aB=>
 some ({ (default:bm) with cK:=aB } :bm)
def A0 (ab:bm):Option Bool:=
 some (decide (ab.qJ < (ab.cK.length:Int)))
def fl (ab:bm) (al:Int):Option (Int × bm):=
 (A0 ab).bind fun aB=>
 cond ((!aB) || (decide (al < 1))) (
  some (0,ab)) (
  (idx ab.cK.length (bu ((bu (ab.qJ + 1)) - 1))).bind fun bh=>
  (se ((aN ab.cK bh).toNat:Int) al).bind fun aK=>
  some (aK,({ ab with qJ:=bu (ab.qJ + 1) } :bm)))
def kH (ab:bm):Option (Bool × bm):=
 (fl ab 2).bind fun aB=>
 some (aB.1 ==1,aB.2)
def xh (ab:bm):Option ((List dj) × bm):=
 (fl ab 4).bind fun aB=>
 (idx (([0,0,65535,3]:List Int).length) aB.1).bind fun bh=>
 (some ({ db:=({ (default:az) with bV:=1#64 } :az),il:=({ (default:az) with bV:=15#64 } :az),oD:=2:fW })).bind fun bD=>
 (some ({ db:=({ (default:az) with bV:=2#64 } :az),il:=({ (default:az) with bV:=3#64 } :az),oD:=3:fW })).bind fun dp=>
 (kH aB.2).bind fun aK=>
 (cond aK.1 (
  (fl aK.2 2).bind fun cD=>
  (some (({ (default:az) with bV:=BitVec.ofInt 64 (bu (8 * cD.1)) } :az))).bind fun jE=>
  (fl cD.2 4).bind fun ct=>
  (idx (([0,0,65535,3]:List Int).length) ct.1).bind fun fu=>
  (some ({ db:=jE,il:=({ (default:az) with bV:=8#64 } :az),oD:=aN ([0,0,65535,3]:List Int) fu:fW })).bind fun gX=>
  (hQ 40 [bD,dp] [gX]).bind fun dy=>
  some (ct.2,dy)) (
  some (aK.2,[bD,dp]))).bind fun bH=>
 (fl bH.1 4).bind fun bk=>
 (idx (([0,0,65535,3]:List Int).length) bk.1).bind fun cC=>
 (some (({ (default:dj) with bC:=2,hB:=2,gG:=aN ([0,0,65535,3]:List Int) cC } :dj))).bind fun ga=>
 (some (({ (default:dj) with bC:=3,hB:=3,mq:=9,gG:=0 } :dj))).bind fun h0=>
 (fl bk.2 3).bind fun b1=>
 (cond (b1.1 ==1) (
  (fl b1.2 3).bind fun cm=>
  (some ({ db:=({ (default:az) with bV:=5#64 } :az),il:=({ (default:az) with bV:=15#64 } :az),oD:=bu (1 + cm.1):fW })).bind fun jW=>
  some (cm.2,({ h0 with nQ:= [jW] } :dj))) (
  some (b1.2,h0))).bind fun cI=>
 (some (({ ({ (default:dj) with bC:=1,hB:=1,mq:=4,gG:=aN ([0,0,65535,3]:List Int) bh } :dj) with nQ:=bH.2 } :dj))).bind fun gS=>
 some ([gS,ga,cI.2],cI.1)
def xb (ab:bm):Option ((List dB) × bm):=
 (some (({ (default:dB) with bC:=1,bZ:=ByteArray.mk #[110,111,112] } :dB))).bind fun bD=>
 (some (({ (default:dB) with bC:=2,bZ:=ByteArray.mk #[100,114,111,112],nb:= [({ (default:eD) with hF:=6 } :eD)] } :dB))).bind fun dp=>
 (some ({ bZ:=ByteArray.mk #[112,111,114,116],e2:=16:hT })).bind fun ga=>
 (some (({ (default:eD) with hF:=7,j2:=({ (default:fc) with c9:=3 } :fc) } :eD))).bind fun h0=>
 (some (({ (default:dB) with bC:=3,bZ:=ByteArray.mk #[102,111,114,119,97,114,100],jI:= [ga],nb:= [h0] } :dB))).bind fun gS=>
 (some ({ hF:=1,jb:=5,j2:=({ (default:fc) with c9:=3 } :fc):eD })).bind fun jW=>
 (some (({ (default:fc) with c9:=2,um:=5 } :fc))).bind fun jE=>
 (some (({ (default:dB) with bC:=4,bZ:=ByteArray.mk #[116,97,103],jI:= [{ bZ:=ByteArray.mk #[120],e2:=4:hT }],nb:= [jW,{ hF:=2,jb:=3,j2:=jE:eD }] } :dB))).bind fun gX=>
 (some ([{ bZ:=ByteArray.mk #[120],e2:=4:hT },{ bZ:=ByteArray.mk #[121],e2:=12:hT }])).bind fun kX=>
 (some ({ hF:=1,jb:=9,j2:=({ (default:fc) with c9:=3 } :fc):eD })).bind fun ku=>
 (some (({ (default:fc) with c9:=3,um:=1 } :fc))).bind fun j8=>
 (some ([({ (default:eD) with hF:=4,jb:=3 } :eD),ku,{ hF:=3,jb:=8,j2:=j8:eD }])).bind fun lh=>
 (some (({ (default:dB) with bC:=5,bZ:=ByteArray.mk #[119,114,97,112],jI:=kX,nb:=lh } :dB))).bind fun j9=>
 (fl ab 2).bind fun aB=>
 (some (({ (default:eD) with hF:=5,jb:=bu (2 + aB.1) } :eD))).bind fun kv=>
 (fl aB.2 256).bind fun aK=>
 (some (({ (default:az) with bV:=BitVec.ofInt 64 aK.1 } :az))).bind fun nu=>
 (some (({ (default:fc) with c9:=1,db:=nu } :fc))).bind fun oa=>
 (some (({ (default:dB) with bC:=6,bZ:=ByteArray.mk #[115,116,114,105,112],nb:= [kv,{ hF:=2,jb:=6,j2:=oa:eD }] } :dB))).bind fun l9=>
 (kH aK.2).bind fun bk=>
 (cond bk.1 (
  (idx ([bD,dp,gS,gX,j9,l9].length) 2).bind fun cC=>
  (some (iL [bD,dp,gS,gX,j9,l9] cC ({ (aN [bD,dp,gS,gX,j9,l9] cC) with pw:=ByteArray.mk #[112,111,114,116,32,33,61,32,48] } :dB))).bind fun pU=>
  some pU) (
  some [bD,dp,gS,gX,j9,l9])).bind fun bH=>
 (kH bk.2).bind fun b1=>
 (cond b1.1 (
  (idx bH.length 4).bind fun bh=>
  (some (iL bH bh ({ (aN bH bh) with pw:=ByteArray.mk #[120,32,60,32,121,32,124,124,32,120,32,61,61,32,49,53] } :dB))).bind fun qW=>
  some qW) (
  some bH)).bind fun cI=>
 some (cI,b1.2)
def xj (ab:bm):Option ((List bw) × bm):=
 (some ({ bZ:=ByteArray.mk #[97],gq:=4,c9:=1:cu })).bind fun bD=>
 (fl ab 2).bind fun aB=>
 (fl aB.2 5).bind fun aK=>
 (some (({ (default:bw) with bC:=1,bZ:=ByteArray.mk #[112,111,114,116,115],cv:= [bD],dC:=([1,2,4]:List Int),gG:=bu (1 + aB.1),fv:=bu (2 + aK.1) } :bw))).bind fun dp=>
 (some ({ bZ:=ByteArray.mk #[100],gq:=7,c9:=2:cu })).bind fun ga=>
 (fl aK.2 6).bind fun bk=>
 (kH bk.2).bind fun b1=>
 (cond b1.1 (
  (some ({ bZ:=ByteArray.mk #[109],gq:=3,c9:=1:cu })).bind fun oa=>
  (hQ 32 [ga] [oa]).bind fun gH=>
  some (({ ({ (default:bw) with bC:=2,bZ:=ByteArray.mk #[114,111,117,116,101,115],dC:=([1,2,3,4]:List Int),gG:=2,fv:=bu (3 + bk.1) } :bw) with cv:= [] } :bw),gH)) (
  some (({ (default:bw) with bC:=2,bZ:=ByteArray.mk #[114,111,117,116,101,115],dC:=([1,2,3,4]:List Int),gG:=2,fv:=bu (3 + bk.1) } :bw),[ga]))).bind fun bH=>
 (some ({ bZ:=ByteArray.mk #[101],gq:=6,c9:=3:cu })).bind fun h0=>
 (some ({ bZ:=ByteArray.mk #[97],gq:=4,c9:=3:cu })).bind fun gS=>
 (fl b1.2 6).bind fun cm=>
 (kH cm.2).bind fun cD=>
 (cond cD.1 (
  (some ({ bZ:=ByteArray.mk #[98],gq:=5,c9:=1:cu })).bind fun nu=>
  (hQ 32 [h0,gS] [nu]).bind fun gv=>
  some (({ ({ (default:bw) with bC:=3,bZ:=ByteArray.mk #[97,99,108],dC:=([1,2,3,5,6]:List Int),gG:=1,fv:=bu (4 + cm.1) } :bw) with cv:= [] } :bw),gv)) (
  some (({ (default:bw) with bC:=3,bZ:=ByteArray.mk #[97,99,108],dC:=([1,2,3,5,6]:List Int),gG:=1,fv:=bu (4 + cm.1) } :bw),[h0,gS]))).bind fun cI=>
 (some ({ bZ:=ByteArray.mk #[102],gq:=8,c9:=4:cu })).bind fun jW=>
 (fl cD.2 5).bind fun ct=>
 (kH ct.2).bind fun dy=>
 (cond dy.1 (
  (some ({ bZ:=ByteArray.mk #[103],gq:=9,c9:=1:cu })).bind fun j9=>
  (some ({ bZ:=ByteArray.mk #[100],gq:=7,c9:=2:cu })).bind fun kv=>
  (hQ 32 [jW] [j9,kv]).bind fun dJ=>
  some (({ ({ (default:bw) with bC:=4,bZ:=ByteArray.mk #[115,112,97,110,115],dC:=([1,3,5]:List Int),gG:=3,sX:= [({ (default:az) with bV:=7#64 } :az)],fv:=bu (3 + ct.1) } :bw) with cv:= [] } :bw),dJ)) (
  some (({ (default:bw) with bC:=4,bZ:=ByteArray.mk #[115,112,97,110,115],dC:=([1,3,5]:List Int),gG:=3,sX:= [({ (default:az) with bV:=7#64 } :az)],fv:=bu (3 + ct.1) } :bw),[jW]))).bind fun ft=>
 (some ([dp,({ bH.1 with cv:=bH.2 } :bw),({ cI.1 with cv:=cI.2 } :bw),({ ft.1 with cv:=ft.2 } :bw)])).bind fun jE=>
 (some ([ByteArray.mk #[],ByteArray.mk #[97,32,33,61,32,48],ByteArray.mk #[97,32,60,32,49,52,32,38,38,32,97,32,33,61,32,51]])).bind fun gX=>
 (some ([ByteArray.mk #[],ByteArray.mk #[100,58,58,112,114,101,102,105,120,95,108,101,110,103,116,104,32,62,61,32,56],ByteArray.mk #[100,58,58,112,114,101,102,105,120,95,108,101,110,103,116,104,32,61,61,32,51,50,32,45,62,32,100,58,58,118,97,108,117,101,32,62,32,48,120,102,102]])).bind fun kX=>
 (some ([ByteArray.mk #[],ByteArray.mk #[112,114,105,111,114,105,116,121,32,60,32,49,48,48,32,38,38,32,40,101,58,58,109,97,115,107,32,33,61,32,48,32,124,124,32,97,58,58,109,97,115,107,32,33,61,32,48,41],ByteArray.mk #[101,58,58,109,97,115,107,32,61,61,32,48,32,45,62,32,112,114,105,111,114,105,116,121,32,62,32,53]])).bind fun ku=>
 (some ([ByteArray.mk #[],ByteArray.mk #[102,58,58,104,105,103,104,32,45,32,102,58,58,108,111,119,32,60,61,32,48,120,49,48,48],ByteArray.mk #[33,40,102,58,58,108,111,119,32,61,61,32,48,32,38,38,32,102,58,58,104,105,103,104,32,62,32,49,48,48,48,41]])).bind fun j8=>
 (gz (σ:=Int × (List bw) × bm) (ε:=(Int × Bool × (List bw) × bm)) gu (fun s1=>
  cond (decide (s1.1 < (jE.length:Int))) (
   (idx ([gX,kX,ku,j8].length) s1.1).bind fun bh=>
   (fl s1.2.2 3).bind fun e1=>
   (idx ((aN [gX,kX,ku,j8] bh).length) e1.1).bind fun cC=>
   (idx s1.2.1.length s1.1).bind fun fu=>
   (some (iL s1.2.1 fu ({ (aN s1.2.1 fu) with pw:=aN (aN [gX,kX,ku,j8] bh) cC } :bw))).bind fun lh=>
   some (.inl (bu (s1.1 + 1),lh,e1.2))) (
   some (.inr (s1.1,decide (s1.1 < (jE.length:Int)),s1.2.1,s1.2.2)))) (0,jE,dy.2)).bind fun aE=>
 some (aE.2.2.1,aE.2.2.2)
def xt (ab:bm) (al:List bw):Option ((List ch) × bm):=
 (fl ab 3).bind fun aB=>
 (fl aB.2 6).bind fun aK=>
 (fl aK.2 6).bind fun bk=>
 (fl bk.2 4).bind fun b1=>
 (gz (σ:=Int × ch × (List c7) × bm × ch × (List c7) × ch × (List c7)) (ε:=(Int × Bool × ch × (List c7) × bm × ch × (List c7) × ch × (List c7))) gu (fun s1=>
  cond (decide (s1.1 < (al.length:Int))) (
   (idx al.length s1.1).bind fun bh=>
   (ur (α:=Bool) 1 (((aN al bh).cv).length:Int)).bind fun cm=>
   (ur (α:=Bool) 1 (((aN al bh).cv).length:Int)).bind fun cD=>
   (gz (σ:=Int × (List Bool) × (List Bool) × bm) (ε:=(Int × Bool × (List Bool) × (List Bool) × bm)) gu (fun s2=>
    cond (decide (s2.1 < (cm.length:Int))) (
     (fl s2.2.2.2 4).bind fun ct=>
     (idx s2.2.2.1.length s2.1).bind fun cC=>
     (idx s2.2.1.length s2.1).bind fun fu=>
     some (.inl (bu (s2.1 + 1),iL s2.2.1 fu (decide (ct.1 > 0)),iL s2.2.2.1 cC true,ct.2))) (
     some (.inr (s2.1,decide (s2.1 < (cm.length:Int)),s2.2.1,s2.2.2.1,s2.2.2.2)))) (0,cD,cm,s1.2.2.2.1)).bind fun bd=>
   (some ({ dD:=(aN al bh).bC,qt:=true,qn:=true,cv:=bd.2.2.2.1:c7 })).bind fun bD=>
   (hQ 40 s1.2.2.2.2.2.2.2 [bD]).bind fun dy=>
   (fl bd.2.2.2.2 4).bind fun e1=>
   (cond (decide (e1.1 > 0)) (
    (fl e1.2 4).bind fun kR=>
    (kH kR.2).bind fun sl=>
    (some ({ dD:=(aN al bh).bC,qt:=decide (kR.1 > 0),qn:=sl.1,cv:=bd.2.2.1:c7 })).bind fun ga=>
    (hQ 40 s1.2.2.2.2.2.1 [ga]).bind fun sm=>
    some (sl.2,({ s1.2.2.2.2.1 with iF:= [] } :ch),sm)) (
    some (e1.2,s1.2.2.2.2.1,s1.2.2.2.2.2.1))).bind fun bH=>
   (kH bH.1).bind fun dJ=>
   (cond dJ.1 (
    (kH dJ.2).bind fun gv=>
    (kH gv.2).bind fun gH=>
    (some ({ dD:=(aN al bh).bC,qt:=gv.1,qn:=gH.1,cv:=bd.2.2.2.1:c7 })).bind fun dp=>
    (hQ 40 s1.2.2.1 [dp]).bind fun gj=>
    some (gH.2,({ s1.2.1 with iF:= [] } :ch),gj)) (
    some (dJ.2,s1.2.1,s1.2.2.1))).bind fun cI=>
   some (.inl (bu (s1.1 + 1),cI.2.1,cI.2.2,cI.1,bH.2.1,bH.2.2,({ s1.2.2.2.2.2.2.1 with iF:= [] } :ch),dy))) (
   some (.inr (s1.1,decide (s1.1 < (al.length:Int)),s1.2.1,s1.2.2.1,s1.2.2.2.1,s1.2.2.2.2.1,s1.2.2.2.2.2.1,s1.2.2.2.2.2.2.1,s1.2.2.2.2.2.2.2)))) (0,({ (default:ch) with bC:=7,bZ:=ByteArray.mk #[102,101,119],dC:= [bu (1 + bk.1)],qm:=b1.1 } :ch),([]:List c7),b1.2,({ (default:ch) with bC:=2,bZ:=ByteArray.mk #[115,111,109,101],dC:=([1,2,bu (3 + aB.1)]:List Int),qm:=bu (1 + aK.1) } :ch),([]:List c7),({ (default:ch) with bC:=1,bZ:=ByteArray.mk #[97,108,108],dC:=([1,2,3,4,5,6]:List Int),qm:=40,yh:=true } :ch),([]:List c7))).bind fun aE=>
 (some (({ aE.2.2.2.2.2.2.2.1 with iF:=aE.2.2.2.2.2.2.2.2 } :ch))).bind fun h0=>
 (some ([h0,({ aE.2.2.2.2.2.1 with iF:=aE.2.2.2.2.2.2.1 } :ch),({ aE.2.2.1 with iF:=aE.2.2.2.1 } :ch)])).bind fun gS=>
 some (gS,aE.2.2.2.2.1)
def sM (ab:bm):Option (aZ × bm):=
 (fl ab 8).bind fun aB=>
 (fl aB.2 30).bind fun aK=>
 (some ({ bC:=1,bZ:=ByteArray.mk #[105,110,103,114,101,115,115],e2:=16:e3 })).bind fun bD=>
 (some ({ bC:=2,bZ:=ByteArray.mk #[101,103,114,101,115,115],e2:=16:e3 })).bind fun dp=>
 (some ({ bC:=3,bZ:=ByteArray.mk #[109,101,116,97],e2:=8:e3 })).bind fun ga=>
 (some ({ bC:=6,bZ:=ByteArray.mk #[101],e2:=8:e3 })).bind fun h0=>
 (some ({ bC:=7,bZ:=ByteArray.mk #[100],e2:=32:e3 })).bind fun gS=>
 (some ({ bC:=8,bZ:=ByteArray.mk #[102],e2:=12:e3 })).bind fun jW=>
 (some ({ bC:=9,bZ:=ByteArray.mk #[103],e2:=4:e3 })).bind fun jE=>
 (some ([bD,dp,ga,{ bC:=4,bZ:=ByteArray.mk #[97],e2:=4:e3 },{ bC:=5,bZ:=ByteArray.mk #[98],e2:=4:e3 },h0,gS,jW,jE])).bind fun gX=>
 (some (({ ({ (default:aZ) with xT:=bu (2 + aB.1),x6:=bu (12 + aK.1) } :aZ) with gy:=gX } :aZ))).bind fun kX=>
 (some ({ bC:=1,bZ:=ByteArray.mk #[111,110,101],gy:=([4,5,6]:List Int):iY })).bind fun ku=>
 (some ({ bC:=2,bZ:=ByteArray.mk #[116,119,111],gy:=([7]:List Int):iY })).bind fun j8=>
 (some ({ bC:=3,bZ:=ByteArray.mk #[116,104,114,101,101],gy:=([8,9]:List Int):iY })).bind fun lh=>
 (xh aK.2).bind fun bk=>
 (xb bk.2).bind fun b1=>
 (xj b1.2).bind fun cm=>
 (some (({ ({ kX with rI:= [ku,j8,lh] } :aZ) with td:=bk.1 } :aZ))).bind fun j9=>
 (some (({ ({ j9 with dC:=b1.1 } :aZ) with bA:=cm.1 } :aZ))).bind fun kv=>
 (xt cm.2 kv.bA).bind fun cD=>
 (some ([{ dD:=1,hB:=1:fe },{ dD:=2,hB:=2:fe },({ (default:fe) with dD:=3 } :fe),{ dD:=4,hB:=3:fe }])).bind fun nu=>
 (kH cD.2).bind fun ct=>
 (cond ct.1 (
  (hQ 16 nu [({ (default:fe) with dD:=1 } :fe)]).bind fun kR=>
  some kR) (
  some nu)).bind fun bH=>
 (kH ct.2).bind fun dy=>
 (cond dy.1 (
  (some (({ (default:eE) with dD:=2,lx:=4,ox:=1 } :eE))).bind fun Gz=>
  (hQ 48 ([]:List eE) [Gz]).bind fun gj=>
  some (({ ({ ({ kv with m9:=cD.1 } :aZ) with mr:= [] } :aZ) with nc:= [] } :aZ),gj)) (
  some (({ ({ kv with m9:=cD.1 } :aZ) with mr:= [] } :aZ),([]:List eE)))).bind fun cI=>
 (kH dy.2).bind fun e1=>
 (c5 e1.1 true (idx cI.1.bA.length 2)).bind fun bh=>
 (cond (e1.1 && ((((aN cI.1.bA bh).cv).length:Int) ==3)) (
  (some (({ (default:eE) with dD:=3,tH:=2,ox:=1 } :eE))).bind fun pU=>
  (hQ 48 cI.2 [pU]).bind fun gH=>
  some (({ cI.1 with nc:= [] } :aZ),gH)) (
  some (cI.1,cI.2))).bind fun ft=>
 (kH e1.2).bind fun dJ=>
 (c5 dJ.1 true (idx ft.1.bA.length 3)).bind fun cC=>
 (cond (dJ.1 && ((((aN ft.1.bA cC).cv).length:Int) ==3)) (
  (some (({ (default:eE) with dD:=4,tH:=1,ox:=1 } :eE))).bind fun l9=>
  (some (({ (default:eE) with dD:=4,lx:=5,ox:=1 } :eE))).bind fun qW=>
  (hQ 48 ft.2 [l9,qW]).bind fun gv=>
  some (({ ft.1 with nc:= [] } :aZ),gv)) (
  some (ft.1,ft.2))).bind fun om=>
 (some (({ ({ om.1 with mr:=bH } :aZ) with nc:=om.2 } :aZ))).bind fun oa=>
 some (oa,dJ.2)
def AQ (ab:bw) (al:Int):Option Bool:=
 some (ab.bC ==al)
def wZ (ab:List bw) (al:bw→Option Bool):Option Int:=
 (gz (σ:=Int) (ε:=(Int × Bool) ⊕ (Int × Int × Int × Bool × Bool)) gu (fun s1=>
  cond (decide (s1 < (ab.length:Int))) (
   (idx ab.length s1).bind fun bh=>
   (al (aN ab bh)).bind fun aB=>
   cond aB (
    some (.inr (Sum.inr (s1,s1,s1,decide (s1 < (ab.length:Int)),aB)))) (
    some (.inl (bu (s1 + 1))))) (
   some (.inr (Sum.inl (s1,decide (s1 < (ab.length:Int))))))) 0).bind fun aE=>
  Sum.elim (fun aE=>
   some (-1)) (fun aE=>
  some aE.1) aE
def sU (ab:aZ) (al:Int):Option Int:=
 (wZ ab.bA (fun hy=>AQ hy al)).bind fun aB=>
 some aB
def vm (ab:bw):Option (Int × Int):=
 (gz (σ:=Int × Int × Int) (ε:=(Int × Int × Int × Bool)) gu (fun s1=>
  cond (decide (s1.2.2 < (ab.cv.length:Int))) (
   (idx ab.cv.length s1.2.2).bind fun bh=>
   (cond (((aN ab.cv bh).c9) ==1) (
    some (s1.1,s1.2.1)) (
    (cond (((aN ab.cv bh).c9) ==2) (
     some (max s1.1 2,s1.2.2)) (
     some (3,s1.2.1))).bind fun cI=>
    some (cI.1,cI.2))).bind fun bH=>
   some (.inl (bH.1,bH.2,bu (s1.2.2 + 1)))) (
   some (.inr (s1.1,s1.2.1,s1.2.2,decide (s1.2.2 < (ab.cv.length:Int)))))) (1,0,0)).bind fun aE=>
 some (aE.1,aE.2.1)
def Ba (hp:aI Cell):ao (Ref × (aI Cell)):=
 ao.bind (ao.mk hp (Cell.mK ([]:List ((Vector az 4) × Int)))) fun cR=>
 ao.bind (ao.mk cR.2 (Cell.wc ({ ng:=(⟨some cR.1⟩:eV):lS }))) fun cy=>
 ao.ret ((some cy.1:Ref),cy.2)
def AR (ab:e3) (al:Int):Option Bool:=
 some (ab.bC ==al)
def w0 (ab:List e3) (al:e3→Option Bool):Option Int:=
 (gz (σ:=Int) (ε:=(Int × Bool) ⊕ (Int × Int × Int × Bool × Bool)) gu (fun s1=>
  cond (decide (s1 < (ab.length:Int))) (
   (idx ab.length s1).bind fun bh=>
   (al (aN ab bh)).bind fun aB=>
   cond aB (
    some (.inr (Sum.inr (s1,s1,s1,decide (s1 < (ab.length:Int)),aB)))) (
    some (.inl (bu (s1 + 1))))) (
   some (.inr (Sum.inl (s1,decide (s1 < (ab.length:Int))))))) 0).bind fun aE=>
  Sum.elim (fun aE=>
   some (-1)) (fun aE=>
  some aE.1) aE
def xF (ab:aZ) (al:Int):Option Int:=
 (w0 ab.gy (fun hy=>AR hy al)).bind fun aB=>
 some aB
def DU (ab:aZ):Option cG:=
 some ({ ({ (default:cG) with oy:=ab } :cG) with cK:=([]:List aH) } :cG)
def vw (hp:aI Cell) (ab:aZ) (al:Int):ao (Ref × (aI Cell)):=
 ao.bind (ao.of (sU ab al)) fun aB=>
 cond (decide (aB < 0)) (
  ao.ret ((none:Ref),hp)) (
  ao.bind (ao.of (idx ab.bA.length aB)) fun bh=>
  ao.bind (ao.of (vm (aN ab.bA bh))) fun aK=>
  ao.bind (ao.mk hp (Cell.jy ([]:List (Int × aH)))) fun cR=>
  ao.bind (ao.of (some (({ (default:gn) with qp:=aK.1,qq:=(((aN ab.bA bh).cv).length:Int),jH:=(⟨some cR.1⟩:eV) } :gn)))) fun bD=>
  ao.bind (ao.mk cR.2 (Cell.l2 bD)) fun cy=>
  ao.bind (cond (aK.1 ==1) (
    ao.bind (Ba cy.2) fun bk=>
    ao.bind (ao.of (hk bk.2 cy.1)) fun bl=>
    ao.bind (ao.of (some (cx bk.2 cy.1 (Cell.l2 ({ bl with ie:=(gd.l3 ({ pT:=bk.1:jG })) } :gn))))) fun cd=>
    ao.ret cd) (
    ao.bind (cond (aK.1 ==2) (
      ao.bind (ao.of (idx (((aN ab.bA bh).cv).length) aK.2)) fun cC=>
      ao.bind (ao.of (xF ab ((aN ((aN ab.bA bh).cv) cC).gq))) fun b1=>
      ao.bind (ao.of (cond (decide (b1≥0)) (
        (idx ab.gy.length b1).bind fun fu=>
        some ((aN ab.gy fu).e2)) (
        some 0))) fun ft=>
      ao.bind (ao.mk cy.2 (Cell.kL ([]:List ((Vector az 4) × Ref)))) fun gb=>
      ao.bind (ao.of (some ({ qw:=aK.2,fm:=ft,m8:=(⟨some gb.1⟩:eV):gm }))) fun dp=>
      ao.bind (ao.of (hk gb.2 cy.1)) fun b7=>
      ao.bind (ao.of (some (cx gb.2 cy.1 (Cell.l2 ({ b7 with ie:=(gd.l4 dp) } :gn))))) fun cq=>
      ao.ret cq) (
      ao.bind (ao.of (DU ab)) fun cm=>
      ao.bind (ao.any (Option Nat × Nat)) fun eu=>
      ao.bind (ao.mk cy.2 (Cell.pO cm eu.1 eu.2)) fun iR=>
      ao.bind (ao.of (hk iR.2 cy.1)) fun e0=>
      ao.bind (ao.of (some (cx iR.2 cy.1 (Cell.l2 ({ e0 with ie:=(gd.l5 ({ cK:=(some iR.1:Ref):iX })) } :gn))))) fun fT=>
      ao.ret fT)) fun cI=>
    ao.ret cI)) fun bH=>
  ao.ret ((some cy.1:Ref),bH))
def s4 (hp:aI Cell) (ab:aZ):ao (Ref × (aI Cell)):=
 ao.bind (ao.mk hp (Cell.n3 ([]:List (Int × Ref)))) fun cR=>
 ao.bind (ao.of (some ({ gp:=ab,nO:=(⟨some cR.1⟩:eV),kl:=1:hL }))) fun bD=>
 ao.bind (ao.mk cR.2 (Cell.oO bD)) fun cy=>
 ao.bind (ao.of (jc cy.2 cy.1)) fun bl=>
 ao.bind (nh (σ:=Int × (aI Cell)) (ε:=(Int × Bool × (aI Cell))) gu (fun s1=>
   cond (decide (s1.1 < (bl.gp.bA.length:Int))) (
    ao.bind (ao.of (idx bl.gp.bA.length s1.1)) fun bh=>
    ao.bind (ao.of (jc s1.2 cy.1)) fun jD=>
    ao.bind (vw s1.2 ab ((aN bl.gp.bA bh).bC)) fun aB=>
    ao.bind (ao.of (zx (jc aB.2 cy.1=some jD))) fun Yx=>
    ao.bind (ao.of (jD.nO.p)) fun bS=>
    ao.bind (ao.of (lD aB.2 bS)) fun lq=>
    ao.bind (ao.of (some (cx aB.2 bS (Cell.n3 (fo lq ((aN bl.gp.bA bh).bC) aB.1))))) fun cd=>
    ao.ret (.inl (bu (s1.1 + 1),cd))) (
    ao.ret (.inr (s1.1,decide (s1.1 < (bl.gp.bA.length:Int)),s1.2)))) (0,cy.2)) fun aE=>
 ao.ret ((some cy.1:Ref),aE.2.2)
def sZ (ab:Int) (al:Int):Option Int:=
 cond (decide (al < 1)) (
  some 0) (
  (se ab al).bind fun aB=>
  (se (bu (aB + al)) al).bind fun aK=>
  some aK)
def u4 (ab:bm):Option Bool:=
 some (decide (ab.qJ < (ab.cK.length:Int)))
def xJ (ab:aZ) (al:Int):Option Int:=
 (gz (σ:=Int) (ε:=(Int × Bool) ⊕ (Int × Int × Bool × Bool)) gu (fun s1=>
  cond (decide (s1 < (ab.gy.length:Int))) (
   (idx ab.gy.length s1).bind fun bh=>
   cond (((aN ab.gy bh).bC) ==al) (
    some (.inr (Sum.inr ((aN ab.gy bh).e2,s1,decide (s1 < (ab.gy.length:Int)),((aN ab.gy bh).bC) ==al)))) (
    some (.inl (bu (s1 + 1))))) (
   some (.inr (Sum.inl (s1,decide (s1 < (ab.gy.length:Int))))))) 0).bind fun aE=>
  Sum.elim (fun aE=>
   some 0) (fun aE=>
  some aE.1) aE
def s0 (ab:az) (al:Int):Option az:=
 cond (decide (al≥128)) (
  some ab) (
  cond (decide (al≥64)) (
   (some (ab.eb &&& (((1#64) <<< (BitVec.ofInt 64 (bu (al - 64))).toNat) - (1#64)))).bind fun bD=>
   some ({ eb:=bD,bV:=ab.bV:az })) (
   cond (decide (al≤0)) (
    some (default:az)) (
    (some (({ (default:az) with bV:=ab.bV &&& (((1#64) <<< (BitVec.ofInt 64 al).toNat) - (1#64)) } :az))).bind fun dp=>
    some dp)))
def A9 (ab:Int) (al:Int):Option az:=
 (some ((((1#64) <<< (BitVec.ofInt 64 ab).toNat) - (1#64)) - (((1#64) <<< (BitVec.ofInt 64 (bu (ab - al))).toNat) - (1#64)))).bind fun bD=>
 some ({ (default:az) with bV:=bD } :az)
def xq (ab:bm) (al:aZ) (aP:cu):Option (b6 × bm):=
 (xJ al aP.gq).bind fun aB=>
 (fl ab 256).bind fun aK=>
 (fl aK.2 16).bind fun bk=>
 (some (((BitVec.ofInt 64 aK.1) <<< (24#64).toNat) ||| ((BitVec.ofInt 64 bk.1) <<< (8#64).toNat))).bind fun bD=>
 (fl bk.2 16).bind fun b1=>
 (some (({ (default:az) with bV:=bD ||| (BitVec.ofInt 64 b1.1) } :az))).bind fun dp=>
 (s0 dp aB).bind fun cm=>
 cond (aP.c9 ==2) (
  (fl b1.2 5).bind fun cD=>
  cond (decide (cD.1 > 0)) (
   (fl cD.2 aB).bind fun ct=>
   (fl ct.2 5).bind fun dy=>
   (idx ([aB,8,16,1,bu (1 + ct.1)].length) dy.1).bind fun bh=>
   (A9 aB (aN [aB,8,16,1,bu (1 + ct.1)] bh)).bind fun e1=>
   (some (({ (default:az) with bV:=cm.bV &&& e1.bV } :az))).bind fun ga=>
   (some (({ (default:b6) with hi:=true,gY:=aN [aB,8,16,1,bu (1 + ct.1)] bh,db:=ga } :b6))).bind fun h0=>
   some (h0,dy.2)) (
   some ((default:b6),cD.2))) (
  cond (aP.c9 ==3) (
   (fl b1.2 256).bind fun dJ=>
   (fl dJ.2 5).bind fun gv=>
   (idx (([255,15,1,12,dJ.1]:List Int).length) gv.1).bind fun cC=>
   (some (({ (default:az) with bV:=BitVec.ofInt 64 (aN ([255,15,1,12,dJ.1]:List Int) cC) } :az))).bind fun gS=>
   (s0 gS aB).bind fun gH=>
   cond (gH.bV !=(0#64)) (
    (some (({ (default:az) with bV:=cm.bV &&& gH.bV } :az))).bind fun jW=>
    (some (({ (default:b6) with hi:=true,il:=gH,db:=jW } :b6))).bind fun jE=>
    some (jE,gv.2)) (
    some ((default:b6),gv.2))) (
   cond (aP.c9 ==4) (
    (fl b1.2 256).bind fun gj=>
    (some (ub (cm.bV + (BitVec.ofInt 64 gj.1)) (((1#64) <<< (BitVec.ofInt 64 aB).toNat) - (1#64)))).bind fun gX=>
    (fl gj.2 5).bind fun kR=>
    (some ((decide (kR.1 > 0)) && (!((cm.bV ==(0#64)) && (gX ==(((1#64) <<< (BitVec.ofInt 64 aB).toNat) - (1#64))))))).bind fun kX=>
    cond kX (
     (some (({ (default:b6) with hi:=true,db:=cm,oC:=({ (default:az) with bV:=gX } :az) } :b6))).bind fun ku=>
     some (ku,kR.2)) (
     some ((default:b6),kR.2))) (
    (some (({ (default:b6) with hi:=true,db:=cm } :b6))).bind fun j8=>
    some (j8,b1.2))))
def xC (ab:aZ) (al:Int):Option dB:=
 (gz (σ:=Int) (ε:=(Int × Bool) ⊕ (Int × Bool × Bool × dB)) gu (fun s1=>
  cond (decide (s1 < (ab.dC.length:Int))) (
   (idx ab.dC.length s1).bind fun bh=>
   cond (((aN ab.dC bh).bC) ==al) (
    some (.inr (Sum.inr (s1,decide (s1 < (ab.dC.length:Int)),((aN ab.dC bh).bC) ==al,(aN ab.dC bh))))) (
    some (.inl (bu (s1 + 1))))) (
   some (.inr (Sum.inl (s1,decide (s1 < (ab.dC.length:Int))))))) 0).bind fun aE=>
  Sum.elim (fun aE=>
   some (default:dB)) (fun aE=>
  some aE.2.2.2) aE
def u9 (ab:bm) (al:aZ) (aP:Int):Option (bo × bm):=
 (sZ aP (al.bA.length:Int)).bind fun aB=>
 (idx al.bA.length aB).bind fun bh=>
 (gz (σ:=Int × bo × (List b6) × bm) (ε:=(Int × Bool × bo × (List b6) × bm)) gu (fun s1=>
  cond (decide (s1.1 < (((aN al.bA bh).cv).length:Int))) (
   (idx (((aN al.bA bh).cv).length) s1.1).bind fun cC=>
   (xq s1.2.2.2 al (aN ((aN al.bA bh).cv) cC)).bind fun aK=>
   (hQ 64 s1.2.2.1 [aK.1]).bind fun bk=>
   (some ((((aN ((aN al.bA bh).cv) cC).c9) ==3) || (((aN ((aN al.bA bh).cv) cC).c9) ==4))).bind fun bD=>
   (cond bD (
    (fl aK.2 5).bind fun b1=>
    (some (({ ({ s1.2.1 with c8:= [] } :bo) with ic:=bu (1 + b1.1) } :bo))).bind fun dp=>
    some (dp,b1.2)) (
    some (({ s1.2.1 with c8:= [] } :bo),aK.2))).bind fun bH=>
   some (.inl (bu (s1.1 + 1),bH.1,bk,bH.2))) (
   some (.inr (s1.1,decide (s1.1 < (((aN al.bA bh).cv).length:Int)),s1.2.1,s1.2.2.1,s1.2.2.2)))) (0,({ (default:bo) with dD:=(aN al.bA bh).bC } :bo),([]:List b6),ab)).bind fun aE=>
 (fl aE.2.2.2.2 (((aN al.bA bh).dC).length:Int)).bind fun cm=>
 (idx (((aN al.bA bh).dC).length) cm.1).bind fun fu=>
 (some (({ aE.2.2.1 with lx:=aN ((aN al.bA bh).dC) fu } :bo))).bind fun ga=>
 (xC al ga.lx).bind fun cD=>
 (gz (σ:=Int × bo × (List az) × bm) (ε:=(Int × Bool × bo × (List az) × bm)) gu (fun s2=>
  cond (decide (s2.1 < (cD.jI.length:Int))) (
   (idx cD.jI.length s2.1).bind fun lO=>
   (fl s2.2.2.2 256).bind fun ct=>
   (some (({ (default:az) with bV:=BitVec.ofInt 64 ct.1 } :az))).bind fun h0=>
   (s0 h0 ((aN cD.jI lO).e2)).bind fun dy=>
   (hQ 16 s2.2.2.1 [dy]).bind fun e1=>
   some (.inl (bu (s2.1 + 1),({ s2.2.1 with lZ:= [] } :bo),e1,ct.2))) (
   some (.inr (s2.1,decide (s2.1 < (cD.jI.length:Int)),s2.2.1,s2.2.2.1,s2.2.2.2)))) (0,ga,([]:List az),cm.2)).bind fun bd=>
 (some (({ ({ bd.2.2.1 with c8:=aE.2.2.2.1 } :bo) with lZ:=bd.2.2.2.1 } :bo))).bind fun gS=>
 some (gS,bd.2.2.2.2)
def nJ (hp:aI Cell) (ab:Ref) (al:Int):Option Ref:=
 cond ab.isNone (
  some (none:Ref)) (
  (ab).bind fun bS=>
  (jc hp bS).bind fun bl=>
  (bl.nO.p).bind fun bT=>
  (lD hp bT).bind fun b7=>
  (some ((dt b7 al).getD default)).bind fun bD=>
  some bD)
def rE (ab:bo):Option (Vector az 4):=
 (tt ab.c8 0 (min (ab.c8.length:Int) 4)).bind fun aB=>
 (gz (σ:=Int × (Vector az 4)) (ε:=(Int × Bool × (Vector az 4))) gu (fun s1=>
  cond (decide (s1.1 < (aB.length:Int))) (
   (idx aB.length s1.1).bind fun bh=>
   (idx 4 s1.1).bind fun cC=>
   some (.inl (bu (s1.1 + 1),iJ s1.2 cC ((aN aB bh).db)))) (
   some (.inr (s1.1,decide (s1.1 < (aB.length:Int)),s1.2)))) (0,(default:Vector az 4))).bind fun aE=>
 some aE.2.2
def ve (hp:aI Cell) (ab:Ref) (al:Vector az 4):Option (Int × Bool):=
 cond ab.isNone (
  some (0,false)) (
  (ab).bind fun bS=>
  (l0 hp bS).bind fun bl=>
  (bl.ng.p).bind fun bT=>
  (k4 hp bT).bind fun b7=>
  (some (dt b7 al)).bind fun bD=>
  some (bD.getD default,bD.isSome))
def xp (hp:aI Cell) (ab:jG) (al:bo):Option (Int × Bool):=
 (rE al).bind fun aB=>
 (ve hp ab.pT aB).bind fun aK=>
 some (aK.1,aK.2)
def AF (ab:gm) (al:Vector az 4):Option ((Vector az 4) × az):=
 (idx 4 ab.qw).bind fun bh=>
 (idx 4 ab.qw).bind fun cC=>
 some ((iJ al cC (default:az)),(cg al bh))
def sI (ab:gm) (al:bo):Option ((Vector az 4) × az × Int):=
 (rE al).bind fun aB=>
 (AF ab aB).bind fun aK=>
 cond (decide (ab.qw≥ (al.c8.length:Int))) (
  some (aK.1,aK.2,0)) (
  (idx al.c8.length ab.qw).bind fun bh=>
  some (aK.1,aK.2,(aN al.c8 bh).gY))
def vn (ab:Int):Option Int:=
 some (min (max 0 ab) 128)
def vp (ab:az) (al:Int):Option az:=
 cond (decide (al≤0)) (
  some ab) (
  cond (decide (al≥64)) (
   (some (({ (default:az) with bV:=ab.eb >>> (BitVec.ofInt 64 (bu (al - 64))).toNat } :az))).bind fun bD=>
   some bD) (
   (some ((ab.bV >>> (BitVec.ofInt 64 al).toNat) ||| (ab.eb <<< (BitVec.ofInt 64 (bu (64 - al))).toNat))).bind fun dp=>
   (some ({ eb:=ab.eb >>> (BitVec.ofInt 64 al).toNat,bV:=dp:az })).bind fun ga=>
   some ga))
def vt (ab:Int):Option az:=
 (some ({ eb:=18446744073709551615#64,bV:=18446744073709551615#64:az })).bind fun bD=>
 (vn ab).bind fun aB=>
 (vp bD (bu (128 - aB))).bind fun aK=>
 some aK
def xR (ab:az) (al:az):Option az:=
 (some ({ eb:=ab.eb ^^^ al.eb,bV:=ab.bV ^^^ al.bV:az })).bind fun bD=>
 some bD
def xH (ab:Int) (al:Int):Option az:=
 (vn ab).bind fun aB=>
 (vt aB).bind fun aK=>
 (vt (bu (aB - (min (max 0 al) aB)))).bind fun bk=>
 (xR aK bk).bind fun b1=>
 some b1
def Bb (ab:az) (al:az):Option az:=
 (some ({ eb:=ab.eb &&& al.eb,bV:=ab.bV &&& al.bV:az })).bind fun bD=>
 some bD
def vb (hp:aI Cell) (ab:Ref) (al:az) (aP:Int):Option Bool:=
 (c5 (ab.isSome && (decide (aP≥0))) true (ab)).bind fun bS=>
 (c5 (ab.isSome && (decide (aP≥0))) true (fg hp bS)).bind fun bl=>
 (c5 ((ab.isSome && (decide (aP≥0))) && (decide (aP≤bl.fm))) true (ab)).bind fun bT=>
 (c5 ((ab.isSome && (decide (aP≥0))) && (decide (aP≤bl.fm))) true (fg hp bT)).bind fun b7=>
 (c5 ((ab.isSome && (decide (aP≥0))) && (decide (aP≤bl.fm))) true (xH b7.fm aP)).bind fun aB=>
 (c5 ((ab.isSome && (decide (aP≥0))) && (decide (aP≤bl.fm))) true (Bb al aB)).bind fun aK=>
 (some (((ab.isSome && (decide (aP≥0))) && (decide (aP≤bl.fm))) && (decide (aK=al)))).bind fun bD=>
 some bD
def xD (ab:Ref) (al:az) (aP:Int):Option (Int × az × Ref):=
 some (aP,al,ab)
def s3 (ab:az) (al:Int):Option Bool:=
 (c5 ((decide (al≥0)) && (decide (al < 128))) true (vp ab al)).bind fun aB=>
 (some (((decide (al≥0)) && (decide (al < 128))) && ((aB.bV &&& (1#64)) ==(1#64)))).bind fun bD=>
 some bD
def sN {σ ε:Type} (al:Int) (aP:az) (cE:Ref) (hq:σ→aI Cell) (step:Int→σ→ao (σ ⊕ ε)) (b0:σ):ao (σ ⊕ ε):=
 ao.bind (nh (σ:=Int × (σ)) (ε:=(Int × Bool × (σ)) ⊕ (Int × Int × Int × Bool × Bool × Bool × (ε))) gu (fun s1=>
   cond (decide (s1.1 < al)) (
    ao.bind (ao.of (cE)) fun bS=>
    ao.bind (ao.of (fg (hq s1.2) bS)) fun bl=>
    ao.bind (ao.of (s3 aP (bu ((bu (bl.fm - 1)) - s1.1)))) fun aB=>
    ao.bind (ao.of (cond aB (
      some 1) (
      some 0))) fun bH=>
    ao.bind (step bH s1.2) fun aK=>
    Sum.elim (fun s2=>
     ao.ret (.inl (bu (s1.1 + 1),s2))) (fun eK=>
     ao.ret (.inr (Sum.inr (s1.1,bH,s1.1,decide (s1.1 < al),aB,!false,eK)))) aK) (
    ao.ret (.inr (Sum.inl (s1.1,decide (s1.1 < al),s1.2))))) (0,b0)) fun aE=>
   Sum.elim (fun aE=>
    ao.ret (.inl aE.2.2:σ ⊕ ε)) (fun aE=>
   ao.ret (.inr aE.2.2.2.2.2.2:σ ⊕ ε)) aE
def p7 {σ ε:Type} (hp:aI Cell) (al:Int) (aP:az) (cE:Ref) (step:Int→σ→Option (σ ⊕ ε)) (b0:σ):Option (σ ⊕ ε):=
 (gz (σ:=Int × (σ)) (ε:=(Int × Bool × (σ)) ⊕ (Int × Int × Int × Bool × Bool × Bool × (ε))) gu (fun s1=>
  cond (decide (s1.1 < al)) (
   (cE).bind fun bS=>
   (fg hp bS).bind fun bl=>
   (s3 aP (bu ((bu (bl.fm - 1)) - s1.1))).bind fun aB=>
   (cond aB (
    some 1) (
    some 0)).bind fun bH=>
   (step bH s1.2).bind fun aK=>
   Sum.elim (fun s2=>
    some (.inl (bu (s1.1 + 1),s2))) (fun eK=>
    some (.inr (Sum.inr (s1.1,bH,s1.1,decide (s1.1 < al),aB,!false,eK)))) aK) (
   some (.inr (Sum.inl (s1.1,decide (s1.1 < al),s1.2))))) (0,b0)).bind fun aE=>
  Sum.elim (fun aE=>
   some (.inl aE.2.2)) (fun aE=>
  some (.inr aE.2.2.2.2.2.2)) aE
def vi (hp:aI Cell) (ab:Ref) (al:az) (aP:Int):Option Ref:=
 (vb hp ab al aP).bind fun aB=>
 cond (!aB) (
  some (none:Ref)) (
  (ab).bind fun bS=>
  (fg hp bS).bind fun bl=>
  (xD ab al aP).bind fun aK=>
  (p7 hp aK.1 aK.2.1 aK.2.2 (σ:=Ref) (ε:=Ref × Ref) (fun(uo:Int) (s1:Ref)=>
   cond s1.isNone (
    some (.inr (s1,(none:Ref)))) (
    (s1).bind fun bT=>
    (idx 2 uo).bind fun bh=>
    (cf hp bT).bind fun b7=>
    some (.inl (cg b7.cJ bh)))) bl.ck).bind fun aE=>
  Sum.elim (fun s1=>
   some s1) (fun aM=>
   some aM.2) aE)
def sV (hp:aI Cell) (ab:Ref) (al:az) (aP:Int):Option (Int × Bool):=
 (vi hp ab al aP).bind fun aB=>
 (c5 aB.isNone false (aB)).bind fun bS=>
 (c5 aB.isNone false (cf hp bS)).bind fun bl=>
 cond (aB.isNone || (!bl.dr)) (
  some (0,false)) (
  (aB).bind fun bT=>
  (cf hp bT).bind fun b7=>
  some (b7.hW,true))
def xf (hp:aI Cell) (ab:gm) (al:bo):Option (Int × Bool):=
 (sI ab al).bind fun aB=>
 (ab.m8.p).bind fun bS=>
 (jd hp bS).bind fun bl=>
 (some ((dt bl aB.1).getD default)).bind fun bD=>
 (sV hp bD aB.2.1 aB.2.2).bind fun aK=>
 some (aK.1,aK.2)
def Ay (ab:List b6):Option (List b6):=
 (hQ 64 ([]:List b6) ab).bind fun aB=>
 some aB
def Az (ab:List az):Option (List az):=
 (hQ 16 ([]:List az) ab).bind fun aB=>
 some aB
def Bc (ab:bo):Option bo:=
 (Ay ab.c8).bind fun aB=>
 (Az ab.lZ).bind fun aK=>
 (some (({ ({ ab with c8:=aB } :bo) with lZ:=aK } :bo))).bind fun bD=>
 some bD
def pv (ab:aH):Option aH:=
 (Bc ab.bQ).bind fun aB=>
 some ({ ab with bQ:=aB } :aH)
def vu (ab:List aH):Option (List aH):=
 (gz (σ:=Int × (List aH)) (ε:=(Int × Bool × (List aH))) gu (fun s1=>
  cond (decide (s1.1 < (ab.length:Int))) (
   (idx ab.length s1.1).bind fun bh=>
   (pv (aN ab bh)).bind fun aB=>
   (hQ 88 s1.2 [aB]).bind fun aK=>
   some (.inl (bu (s1.1 + 1),aK))) (
   some (.inr (s1.1,decide (s1.1 < (ab.length:Int)),s1.2)))) (0,([]:List aH))).bind fun aE=>
 some aE.2.2
def w7 (ab:cG):Option (List aH):=
 (vu ab.cK).bind fun aB=>
 some aB
def w3 (ab:List b6) (al:List b6):Option Bool:=
 cond ((ab.length:Int) !=(al.length:Int)) (
  some false) (
  (gz (σ:=Int) (ε:=(Int × Bool) ⊕ (Int × Int × Bool × Bool)) gu (fun s1=>
   cond (decide (s1 < (ab.length:Int))) (
    (idx ab.length s1).bind fun bh=>
    (idx al.length s1).bind fun cC=>
    cond (!decide (aN ab bh=aN al cC)) (
     some (.inr (Sum.inr (s1,s1,decide (s1 < (ab.length:Int)),!decide (aN ab bh=aN al cC))))) (
     some (.inl (bu (s1 + 1))))) (
    some (.inr (Sum.inl (s1,decide (s1 < (ab.length:Int))))))) 0).bind fun aE=>
   Sum.elim (fun aE=>
    some true) (fun aE=>
   some false) aE)
def xE (ab:bo) (al:bo):Option Bool:=
 (c5 (ab.dD ==al.dD) true (w3 ab.c8 al.c8)).bind fun aB=>
 some (((ab.dD ==al.dD) && aB) && (ab.ic ==al.ic))
def xv (hp:aI Cell) (ab:iX) (al:bo):Option (Int × Bool):=
 (ab.cK).bind fun bS=>
 (ni hp bS).bind fun bl=>
 (w7 bl.1).bind fun aB=>
 (gz (σ:=Int) (ε:=(Int × Bool) ⊕ (Int × Bool × Int × Bool × Bool)) gu (fun s1=>
  cond (decide (s1 < (aB.length:Int))) (
   (idx aB.length s1).bind fun bh=>
   (xE ((aN aB bh).bQ) al).bind fun aK=>
   cond aK (
    some (.inr (Sum.inr ((aN aB bh).b8,true,s1,decide (s1 < (aB.length:Int)),aK)))) (
    some (.inl (bu (s1 + 1))))) (
   some (.inr (Sum.inl (s1,decide (s1 < (aB.length:Int))))))) 0).bind fun aE=>
  Sum.elim (fun aE=>
   some (0,false)) (fun aE=>
  some (aE.1,aE.2.1)) aE
def AO (hp:aI Cell) (y:gd) (ab:bo):Option (Int × Bool):=match y with
 | .nil=>none
 | .l3 z=>xp hp z ab
 | .l4 z=>xf hp z ab
 | .l5 z=>xv hp z ab
def xu (hp:aI Cell) (ab:Ref) (al:Int) (aP:Bool):Option (aH × Bool):=
 cond (!aP) (
  some ((default:aH),false)) (
  (ab).bind fun bS=>
  (hk hp bS).bind fun bl=>
  (bl.jH.p).bind fun bT=>
  (j3 hp bT).bind fun b7=>
  (some ((dt b7 al).getD default)).bind fun bD=>
  (pv bD).bind fun aB=>
  some (aB,true))
def sQ (hp:aI Cell) (ab:Ref) (al:bo):Option (aH × Bool):=
 cond ab.isNone (
  some ((default:aH),false)) (
  (ab).bind fun bS=>
  (hk hp bS).bind fun bl=>
  (AO hp bl.ie al).bind fun aB=>
  (xu hp ab aB.1 aB.2).bind fun aK=>
  some (aK.1,aK.2))
def vd (hp:aI Cell) (ab:Ref) (al:bo):Option (aH × Bool):=
 (nJ hp ab al.dD).bind fun aB=>
 (sQ hp aB al).bind fun aK=>
 some (aK.1,aK.2)
def vf (hp:aI Cell) (ab:Ref):Option Int:=
 cond ab.isNone (
  some 0) (
  (ab).bind fun bS=>
  (hk hp bS).bind fun bl=>
  (bl.jH.p).bind fun bT=>
  (j3 hp bT).bind fun b7=>
  some (b7.length:Int))
def sR (hp:aI Cell) (ab:Ref) (al:Int):Option Int:=
 (nJ hp ab al).bind fun aB=>
 (vf hp aB).bind fun aK=>
 some aK
def xy (hp:aI Cell) (ab:Ref) (al:Int):Option Int:=
 (ab).bind fun bS=>
 (jc hp bS).bind fun bl=>
 (sU bl.gp al).bind fun aB=>
 (idx bl.gp.bA.length aB).bind fun bh=>
 some ((aN bl.gp.bA bh).fv)
def A4 (hp:aI Cell) (ab:Ref) (al:Vector az 4) (aP:Int):Option (Bool × (aI Cell)):=
 cond ab.isNone (
  some (false,hp)) (
  (ab).bind fun bS=>
  (l0 hp bS).bind fun bl=>
  (bl.ng.p).bind fun bT=>
  (k4 hp bT).bind fun b7=>
  (some (dt b7 al)).bind fun bD=>
  cond bD.isSome (
   some (false,hp)) (
   (some (cx hp bT (Cell.mK (fo b7 al aP)))).bind fun cd=>
   some (true,cd)))
def xx (hp:aI Cell) (ab:jG) (al:aH):Option (aI Cell):=
 (rE al.bQ).bind fun aB=>
 (A4 hp ab.pT aB al.b8).bind fun aK=>
 some aK.2
def Bg (hp:aI Cell) (ab:Int):ao (Ref × (aI Cell)):=
 ao.bind (ao.of (some (({ (default:fb) with fm:=min (max 1 ab) 128 } :fb)))) fun bD=>
 ao.bind (ao.mk hp (Cell.iK bD)) fun cR=>
 ao.ret ((some cR.1:Ref),cR.2)
def vk (hp:aI Cell) (ab:Ref) (al:az) (aP:Int) (cE:Int):ao (Bool × (aI Cell)):=
 ao.bind (ao.of (vb hp ab al aP)) fun aB=>
 cond (!aB) (
  ao.ret (false,hp)) (
  ao.bind (ao.of (vi hp ab al aP)) fun aK=>
  ao.bind (ao.of (c5 aK.isSome true (aK))) fun bS=>
  ao.bind (ao.of (c5 aK.isSome true (cf hp bS))) fun bl=>
  cond (aK.isSome && bl.dr) (
   ao.ret (false,hp)) (
   ao.bind (ao.of (ab)) fun bT=>
   ao.bind (ao.of (fg hp bT)) fun b7=>
   ao.bind (cond b7.ck.isNone (
     ao.bind (ao.mk hp (Cell.fp (default:di))) fun cy=>
     ao.bind (ao.of (fg cy.2 bT)) fun Ad=>
     ao.bind (ao.of (some (cx cy.2 bT (Cell.iK ({ Ad with ck:=(some cy.1:Ref) } :fb))))) fun so=>
     ao.ret so) (
     ao.ret hp)) fun bH=>
   ao.bind (ao.of (fg bH bT)) fun e0=>
   ao.bind (ao.of (xD ab al aP)) fun bk=>
   ao.bind (sN bk.1 bk.2.1 bk.2.2 (σ:=Ref × (aI Cell)) (ε:=Empty) (fun(s2:Ref × (aI Cell))=>s2.2) (fun(wE:Int) (s2:Ref × (aI Cell))=>
     ao.bind (ao.of (s2.1)) fun lP=>
     ao.bind (ao.of (idx 2 wE)) fun bh=>
     ao.bind (ao.of (cf s2.2 lP)) fun jD=>
     ao.bind (cond ((cg jD.cJ bh).isNone) (
       ao.bind (ao.mk s2.2 (Cell.fp (default:di))) fun cR=>
       ao.bind (ao.of (idx 2 wE)) fun fu=>
       ao.bind (ao.of (cf cR.2 lP)) fun kE=>
       ao.bind (ao.of (some (cx cR.2 lP (Cell.fp ({ kE with cJ:=iJ kE.cJ fu (some cR.1:Ref) } :di))))) fun cd=>
       ao.ret cd) (
       ao.ret s2.2)) fun cI=>
     ao.bind (ao.of (idx 2 wE)) fun cC=>
     ao.bind (ao.of (cf cI lP)) fun lq=>
     ao.ret (.inl (cg lq.cJ cC,cI):(Ref × (aI Cell)) ⊕ Empty)) (e0.ck,bH)) fun bd=>
   Sum.elim (fun s2=>
    ao.bind (ao.of (s2.1)) fun jo=>
    ao.bind (ao.of (cf s2.2 jo)) fun wT=>
    ao.bind (ao.of (some (cx s2.2 jo (Cell.fp ({ wT with dr:=true } :di))))) fun cq=>
    ao.bind (ao.of (s2.1)) fun Hz=>
    ao.bind (ao.of (cf cq Hz)) fun HA=>
    ao.bind (ao.of (some (cx cq Hz (Cell.fp ({ HA with hW:=cE } :di))))) fun fT=>
    ao.ret (true,fT)) (fun eK=>
    Empty.elim eK) bd))
def xl (hp:aI Cell) (ab:gm) (al:aH):ao (aI Cell):=
 ao.bind (ao.of (sI ab al.bQ)) fun aB=>
 ao.bind (ao.of (ab.m8.p)) fun bS=>
 ao.bind (ao.of (jd hp bS)) fun bl=>
 ao.bind (ao.of (some ((dt bl aB.1).getD default))) fun bD=>
 ao.bind (cond bD.isNone (
   ao.bind (Bg hp ab.fm) fun bk=>
   ao.bind (ao.of (jd bk.2 bS)) fun e0=>
   ao.bind (ao.of (some (cx bk.2 bS (Cell.kL (fo e0 aB.1 bk.1))))) fun cd=>
   ao.ret cd) (
   ao.ret hp)) fun bH=>
 ao.bind (ao.of (jd bH bS)) fun b7=>
 ao.bind (ao.of (some ((dt b7 aB.1).getD default))) fun dp=>
 ao.bind (vk bH dp aB.2.1 aB.2.2 al.b8) fun aK=>
 ao.ret aK.2
def u1 (ab:aH) (al:Int):Option Bool:=
 some (ab.b8 ==al)
def uZ (ab:List aH) (al:aH→Option Bool):Option Int:=
 (gz (σ:=Int) (ε:=(Int × Bool) ⊕ (Int × Int × Int × Bool × Bool)) gu (fun s1=>
  cond (decide (s1 < (ab.length:Int))) (
   (idx ab.length s1).bind fun bh=>
   (al (aN ab bh)).bind fun aB=>
   cond aB (
    some (.inr (Sum.inr (s1,s1,s1,decide (s1 < (ab.length:Int)),aB)))) (
    some (.inl (bu (s1 + 1))))) (
   some (.inr (Sum.inl (s1,decide (s1 < (ab.length:Int))))))) 0).bind fun aE=>
  Sum.elim (fun aE=>
   some (-1)) (fun aE=>
  some aE.1) aE
def xc (ab:cG) (al:Int):Option Int:=
 (uZ ab.cK (fun hy=>u1 hy al)).bind fun aB=>
 some aB
def wY (ab:List aH) (al:aH) (aP:aH→aH→Option Int):Option (Int × Bool):=
 (gz (σ:=Int × Int) (ε:=(Int × Int × Bool)) gu (fun s1=>
  cond (decide (s1.1 < s1.2)) (
   (idx ab.length (bu ((BitVec.ofInt 64 (bu (s1.1 + s1.2))) >>> (1#64).toNat).toNat)).bind fun bh=>
   (aP (aN ab bh) al).bind fun aB=>
   (cond (decide (aB < 0)) (
    (some (bu ((bu ((BitVec.ofInt 64 (bu (s1.1 + s1.2))) >>> (1#64).toNat).toNat) + 1))).bind fun bD=>
    some (bD,s1.2)) (
    some (s1.1,bu ((BitVec.ofInt 64 (bu (s1.1 + s1.2))) >>> (1#64).toNat).toNat))).bind fun bH=>
   some (.inl (bH.1,bH.2))) (
   some (.inr (s1.1,s1.2,decide (s1.1 < s1.2))))) (0,(ab.length:Int))).bind fun aE=>
 (c5 (decide (aE.1 < (ab.length:Int))) true (idx ab.length aE.1)).bind fun cC=>
 (c5 (decide (aE.1 < (ab.length:Int))) true (aP (aN ab cC) al)).bind fun aK=>
 some (aE.1,(decide (aE.1 < (ab.length:Int))) && (aK ==0))
def xG (ab:Int):Option Bool:=
 some (ab !=ab)
def sT (ab:Int) (al:Int):Option Int:=
 (xG ab).bind fun aB=>
 (xG al).bind fun aK=>
 cond aB (
  cond aK (
   some 0) (
   some (-1))) (
  cond aK (
   some 1) (
   cond (decide (ab < al)) (
    some (-1)) (
    cond (decide (ab > al)) (
     some 1) (
     some 0))))
def xL (ab:aZ) (al:bo):Option (bw × Bool):=
 (sU ab al.dD).bind fun aB=>
 cond (decide (aB < 0)) (
  some ((default:bw),false)) (
  (idx ab.bA.length aB).bind fun bh=>
  some (aN ab.bA bh,true))
def w1 (ab:List cu) (al:cu→Option Bool):Option Int:=
 (gz (σ:=Int) (ε:=(Int × Bool) ⊕ (Int × Int × Int × Bool × Bool)) gu (fun s1=>
  cond (decide (s1 < (ab.length:Int))) (
   (idx ab.length s1).bind fun bh=>
   (al (aN ab bh)).bind fun aB=>
   cond aB (
    some (.inr (Sum.inr (s1,s1,s1,decide (s1 < (ab.length:Int)),aB)))) (
    some (.inl (bu (s1 + 1))))) (
   some (.inr (Sum.inl (s1,decide (s1 < (ab.length:Int))))))) 0).bind fun aE=>
  Sum.elim (fun aE=>
   some (-1)) (fun aE=>
  some aE.1) aE
def DQ (ab:cu):Option Bool:=
 some (ab.c9 ==2)
def vo (ab:aZ) (al:bo):Option Int:=
 (xL ab al).bind fun aB=>
 (w1 aB.1.cv DQ).bind fun aK=>
 (some (((!aB.2) || (decide (aK < 0))) || (decide (aK≥ (al.c8.length:Int))))).bind fun bD=>
 cond bD (
  some 0) (
  (idx al.c8.length aK).bind fun bh=>
  some ((aN al.c8 bh).gY))
def xM (ab:List Int):Option Int:=
 (gz (σ:=Int) (ε:=(Int × Bool) ⊕ (Int × Int × Int × Bool × Bool)) gu (fun s1=>
  cond (decide (s1 < (ab.length:Int))) (
   (idx ab.length s1).bind fun bh=>
   cond ((aN ab bh) !=0) (
    some (.inr (Sum.inr (aN ab bh,aN ab bh,s1,decide (s1 < (ab.length:Int)),(aN ab bh) !=0)))) (
    some (.inl (bu (s1 + 1))))) (
   some (.inr (Sum.inl (s1,decide (s1 < (ab.length:Int))))))) 0).bind fun aE=>
  Sum.elim (fun aE=>
   some 0) (fun aE=>
  some aE.1) aE
def vq (ab:aZ) (al:aH) (aP:aH):Option Bool:=
 (sT al.bQ.ic aP.bQ.ic).bind fun aB=>
 (vo ab al.bQ).bind fun aK=>
 (vo ab aP.bQ).bind fun bk=>
 (sT aK bk).bind fun b1=>
 (sT al.b8 aP.b8).bind fun cm=>
 (xM [aB,b1,cm]).bind fun cD=>
 some (decide (cD > 0))
def u3 (ab:cG) (al:aH) (aP:aH):Option Int:=
 (vq ab.oy al aP).bind fun aB=>
 cond aB (
  some (-1)) (
  (vq ab.oy aP al).bind fun aK=>
  cond aK (
   some 1) (
   some 0))
def Aw (ab:List aH) (al:Int) (aP:List aH):Option (List aH):=zb 88 ab al aP
def w8 (ab:cG) (al:aH):Option (Bool × cG):=
 (c5 false false (xc ab al.b8)).bind fun aB=>
 cond (false || (decide (aB≥0))) (
  some (false,ab)) (
  (wY ab.cK al (fun hy cR=>u3 ab hy cR)).bind fun aK=>
  (pv al).bind fun bk=>
  (Aw ab.cK aK.1 [bk]).bind fun b1=>
  some (true,({ ab with cK:=b1 } :cG)))
def xz (hp:aI Cell) (ab:iX) (al:aH):ao (aI Cell):=
 ao.bind (ao.of (ab.cK)) fun bS=>
 ao.bind (ao.of (ni hp bS)) fun bl=>
 ao.bind (ao.of (w8 bl.1 al)) fun aB=>
 ao.bind (ao.any (Option Nat × Nat)) fun aM=>
 ao.bind (ao.of (some (cx hp bS (Cell.pO aB.2 aM.1 aM.2)))) fun cd=>
 ao.ret cd
def DP (hp:aI Cell) (y:gd) (ab:aH):ao (aI Cell):=match y with
 | .nil=>fun _=>False
 | .l3 z=>ao.of (xx hp z ab)
 | .l4 z=>xl hp z ab
 | .l5 z=>xz hp z ab
def xB (hp:aI Cell) (ab:Ref) (al:aH):ao (Bool × (aI Cell)):=
 cond ab.isNone (
  ao.ret (false,hp)) (
  ao.bind (ao.of (ab)) fun bS=>
  ao.bind (ao.of (hk hp bS)) fun bl=>
  ao.bind (ao.of (bl.jH.p)) fun bT=>
  ao.bind (ao.of (j3 hp bT)) fun b7=>
  ao.bind (ao.of (some (dt b7 al.b8))) fun bD=>
  ao.bind (ao.of (ab)) fun lP=>
  ao.bind (ao.of (hk hp lP)) fun e0=>
  ao.bind (ao.of (AO hp e0.ie al.bQ)) fun aB=>
  cond (aB.2 || bD.isSome) (
   ao.ret (false,hp)) (
   ao.bind (ao.of (ab)) fun Dd=>
   ao.bind (ao.of (hk hp Dd)) fun jD=>
   ao.bind (ao.of (pv al)) fun aK=>
   ao.bind (ao.of (jD.jH.p)) fun pg=>
   ao.bind (ao.of (j3 hp pg)) fun lq=>
   ao.bind (ao.of (some (cx hp pg (Cell.jy (fo lq al.b8 aK))))) fun cd=>
   ao.bind (ao.of (hk cd Dd)) fun kE=>
   ao.bind (DP cd kE.ie al) fun bk=>
   ao.ret (true,bk)))
def pt (hp:aI Cell) (ab:Ref) (al:bo) (aP:Int):ao (Int × Int × (aI Cell)):=
 ao.bind (ao.of (nJ hp ab al.dD)) fun aB=>
 cond aB.isNone (
  ao.ret (0,6,hp)) (
  ao.bind (ao.of (sQ hp aB al)) fun aK=>
  cond aK.2 (
   ao.ret (0,17,hp)) (
   ao.bind (ao.of (vf hp aB)) fun bk=>
   ao.bind (ao.of (xy hp ab al.dD)) fun b1=>
   cond (decide (bk≥b1)) (
    ao.ret (0,18,hp)) (
    ao.bind (ao.of (ab)) fun bS=>
    ao.bind (ao.of (jc hp bS)) fun bl=>
    ao.bind (ao.of (some ({ bQ:=al,b8:=bl.kl,kJ:=aP:aH }))) fun bD=>
    ao.bind (xB hp aB bD) fun cm=>
    ao.bind (ao.of (jc cm.2 bS)) fun b7=>
    ao.bind (ao.of (some (cx cm.2 bS (Cell.oO ({ b7 with kl:=bu (b7.kl + 1) } :hL))))) fun cd=>
    ao.ret (bl.kl,0,cd))))
def AN (hp:aI Cell) (ab:Ref) (al:Vector az 4):Option (Bool × (aI Cell)):=
 (ve hp ab al).bind fun aB=>
 cond (!aB.2) (
  some (false,hp)) (
  (ab).bind fun bS=>
  (l0 hp bS).bind fun bl=>
  (bl.ng.p).bind fun bT=>
  (k4 hp bT).bind fun b7=>
  (some (cx hp bT (Cell.mK (g3 b7 al)))).bind fun cd=>
  some (true,cd))
def xd (hp:aI Cell) (ab:jG) (al:aH):Option (aI Cell):=
 (rE al.bQ).bind fun aB=>
 (AN hp ab.pT aB).bind fun aK=>
 some aK.2
def vg (hp:aI Cell) (ab:Ref):Option Bool:=
 (ab).bind fun bS=>
 (cf hp bS).bind fun bl=>
 (c5 (!bl.dr) true (ab)).bind fun bT=>
 (c5 (!bl.dr) true (cf hp bT)).bind fun b7=>
 some ((!bl.dr) && (decide (b7.cJ=(default:Vector Ref 2))))
def vc (hp:aI Cell) (ab:Ref) (al:az) (aP:Int):Option (Bool × (aI Cell)):=
 (sV hp ab al aP).bind fun aB=>
 cond (!aB.2) (
  some (false,hp)) (
  (ab).bind fun bS=>
  (fg hp bS).bind fun bl=>
  (xD ab al aP).bind fun aK=>
  (p7 hp aK.1 aK.2.1 aK.2.2 (σ:=(List Int) × (List Ref)) (ε:=Empty) (fun(uo:Int) (s1:(List Int) × (List Ref))=>
   (idx s1.2.length (bu ((s1.2.length:Int) - 1))).bind fun bh=>
   ((aN s1.2 bh)).bind fun bT=>
   (idx 2 uo).bind fun cC=>
   (cf hp bT).bind fun b7=>
   (hQ 8 s1.2 [cg b7.cJ cC]).bind fun bk=>
   (hQ 8 s1.1 [uo]).bind fun b1=>
   some (.inl (b1,bk))) (([]:List Int),[bl.ck])).bind fun aE=>
  Sum.elim (fun s1=>
   (idx s1.2.length aP).bind fun fu=>
   ((aN s1.2 fu)).bind fun lP=>
   (cf hp lP).bind fun e0=>
   (some (cx hp lP (Cell.fp ({ e0 with dr:=false } :di)))).bind fun cd=>
   (cf cd lP).bind fun jD=>
   (some (cx cd lP (Cell.fp ({ jD with hW:=0 } :di)))).bind fun cq=>
   (gz (σ:=Int × (aI Cell)) (ε:=(Int × Bool × (aI Cell))) gu (fun s2=>
    (c5 (decide (s2.1≥0)) true (idx s1.2.length (bu (s2.1 + 1)))).bind fun lO=>
    (c5 (decide (s2.1≥0)) true (vg s2.2 (aN s1.2 lO))).bind fun cm=>
    cond ((decide (s2.1≥0)) && cm) (
     (idx s1.2.length s2.1).bind fun uR=>
     (idx s1.1.length s2.1).bind fun uS=>
     ((aN s1.2 uR)).bind fun pg=>
     (idx 2 (aN s1.1 uS)).bind fun zw=>
     (cf s2.2 pg).bind fun lq=>
     (some (cx s2.2 pg (Cell.fp ({ lq with cJ:=iJ lq.cJ zw (none:Ref) } :di)))).bind fun fT=>
     some (.inl (bu (s2.1 - 1),fT))) (
     some (.inr (s2.1,(decide (s2.1≥0)) && cm,s2.2)))) (bu (aP - 1),cq)).bind fun bd=>
   (fg bd.2.2 bS).bind fun kE=>
   (vg bd.2.2 kE.ck).bind fun cD=>
   (cond cD (
    (some (cx bd.2.2 bS (Cell.iK ({ kE with ck:=(none:Ref) } :fb)))).bind fun so=>
    some so) (
    some bd.2.2)).bind fun bH=>
   some (true,bH)) (fun aM=>
   Empty.elim aM) aE)
def AH (hp:aI Cell) (ab:Ref) (al:az) (aP:Int) (cE:List cW):Option (List cW):=
 (ab).bind fun bS=>
 (cf hp bS).bind fun bl=>
 (cond bl.dr (
  (hQ 32 cE [{ db:=al,tb:=aP,bC:=bl.hW:cW }]).bind fun aB=>
  some aB) (
  some cE)).bind fun bH=>
 some bH
def Ee (ab:BitVec 64):Option az:=
 some ({ (default:az) with bV:=ab } :az)
def xN (ab:az) (al:Int):Option az:=
 cond (decide (al≤0)) (
  some ab) (
  cond (decide (al≥64)) (
   (some (({ (default:az) with eb:=ab.bV <<< (BitVec.ofInt 64 (bu (al - 64))).toNat } :az))).bind fun bD=>
   some bD) (
   (some ((ab.eb <<< (BitVec.ofInt 64 al).toNat) ||| (ab.bV >>> (BitVec.ofInt 64 (bu (64 - al))).toNat))).bind fun dp=>
   (some ({ eb:=dp,bV:=ab.bV <<< (BitVec.ofInt 64 al).toNat:az })).bind fun ga=>
   some ga))
def Ef (ab:az) (al:az):Option az:=
 (some ({ eb:=ab.eb ||| al.eb,bV:=ab.bV ||| al.bV:az })).bind fun bD=>
 some bD
def sH:Nat→ (aI Cell)→Ref→Ref→az→Int→ (List cW)→Option (List cW)
 | 0=>fun _ _ _ _ _ _=>none
 | n + 1=>fun hp ab al aP cE hz=>
   cond al.isNone (
    some hz) (
    (AH hp al aP cE hz).bind fun aB=>
    (al).bind fun bS=>
    (cf hp bS).bind fun bl=>
    (sH n hp ab (cg bl.cJ 0) aP (bu (cE + 1)) aB).bind fun aK=>
    (Ee (1#64)).bind fun bk=>
    (ab).bind fun bT=>
    (fg hp bT).bind fun b7=>
    (xN bk (bu ((bu (b7.fm - 1)) - cE))).bind fun b1=>
    (Ef aP b1).bind fun cm=>
    (sH n hp ab (cg bl.cJ 1) cm (bu (cE + 1)) aK).bind fun cD=>
    some cD)
def Du (hp:aI Cell) (ab:Ref) (al:Ref) (aP:az) (cE:Int) (hz:List cW):Option (List cW):=sH gu hp ab al aP cE hz
def Ax (hp:aI Cell) (ab:Ref) (aP:List cW):Option (List cW):=
 (cond ab.isSome (
  (ab).bind fun bS=>
  (fg hp bS).bind fun bl=>
  (Du hp ab bl.ck (default:az) 0 aP).bind fun aB=>
  some aB) (
  some aP)).bind fun bH=>
 some bH
def A7 (hp:aI Cell) (ab:Ref):Option (List cW):=
 (Ax hp ab ([]:List cW)).bind fun aB=>
 some aB
def vj (hp:aI Cell) (ab:Ref):Option Int:=
 (A7 hp ab).bind fun aB=>
 some (aB.length:Int)
def w6 (hp:aI Cell) (ab:gm) (al:aH):Option (aI Cell):=
 (sI ab al.bQ).bind fun aB=>
 (ab.m8.p).bind fun bS=>
 (jd hp bS).bind fun bl=>
 (some ((dt bl aB.1).getD default)).bind fun bD=>
 (vc hp bD aB.2.1 aB.2.2).bind fun aK=>
 (jd aK.2 bS).bind fun b7=>
 (some ((dt b7 aB.1).getD default)).bind fun dp=>
 (vj aK.2 dp).bind fun bk=>
 (cond (bk ==0) (
  (some (cx aK.2 bS (Cell.kL (g3 b7 aB.1)))).bind fun cd=>
  some cd) (
  some aK.2)).bind fun bH=>
 some bH
def AD (ab:cG) (al:Int):Option Int:=
 (uZ ab.cK (fun hy=>u1 hy al)).bind fun aB=>
 some aB
def Dt (ab:List aH) (al:Int) (aP:Int):Option (List aH):=zc ab al aP
def w2 (ab:cG) (al:Int):Option (Bool × cG):=
 (AD ab al).bind fun aB=>
 cond (decide (aB < 0)) (
  some (false,ab)) (
  (Dt ab.cK aB (bu (aB + 1))).bind fun aK=>
  some (true,({ ab with cK:=aK } :cG)))
def xe (hp:aI Cell) (ab:iX) (al:aH):ao (aI Cell):=
 ao.bind (ao.of (ab.cK)) fun bS=>
 ao.bind (ao.of (ni hp bS)) fun bl=>
 ao.bind (ao.of (w2 bl.1 al.b8)) fun aB=>
 ao.bind (ao.any (Option Nat × Nat)) fun aM=>
 ao.bind (ao.of (some (cx hp bS (Cell.pO aB.2 aM.1 aM.2)))) fun cd=>
 ao.ret cd
def DB (hp:aI Cell) (y:gd) (ab:aH):ao (aI Cell):=match y with
 | .nil=>fun _=>False
 | .l3 z=>ao.of (xd hp z ab)
 | .l4 z=>ao.of (w6 hp z ab)
 | .l5 z=>xe hp z ab
def xm (hp:aI Cell) (ab:Ref) (al:bo):ao (aH × Bool × (aI Cell)):=
 ao.bind (ao.of (sQ hp ab al)) fun aB=>
 ao.bind (cond aB.2 (
   ao.bind (ao.of (ab)) fun bS=>
   ao.bind (ao.of (hk hp bS)) fun bl=>
   ao.bind (DB hp bl.ie aB.1) fun aK=>
   ao.bind (ao.of (hk aK bS)) fun b7=>
   ao.bind (ao.of (b7.jH.p)) fun bT=>
   ao.bind (ao.of (j3 aK bT)) fun e0=>
   ao.bind (ao.of (some (cx aK bT (Cell.jy (g3 e0 aB.1.b8))))) fun cd=>
   ao.ret cd) (
   ao.ret hp)) fun bH=>
 ao.ret (aB.1,aB.2,bH)
def sO (hp:aI Cell) (ab:Ref) (al:bo):ao (aH × Int × (aI Cell)):=
 ao.bind (ao.of (nJ hp ab al.dD)) fun aB=>
 cond aB.isNone (
  ao.ret ((default:aH),6,hp)) (
  ao.bind (xm hp aB al) fun aK=>
  cond (!aK.2.1) (
   ao.ret ((default:aH),16,aK.2.2)) (
   ao.ret (aK.1,0,aK.2.2)))
def vr (hp:aI Cell):ao (Bool × (aI Cell)):=
 ao.bind (ao.of (qd ([]:List (BitVec 8)) 0)) fun aB=>
 ao.bind (ao.of (sM aB)) fun aK=>
 ao.bind (s4 hp aK.1) fun bk=>
 ao.bind (ao.of (some (({ (default:bo) with dD:=1,c8:= [({ (default:b6) with hi:=true } :b6)],lx:=1 } :bo)))) fun bD=>
 ao.bind (pt bk.2 bk.1 bD 1) fun b1=>
 ao.bind (sO b1.2.2 bk.1 bD) fun cm=>
 ao.bind (pt cm.2.2 bk.1 bD 1) fun cD=>
 ao.bind (ao.of (some (((((b1.2.1 ==0) && (cm.2.1 ==0)) && (cD.2.1 ==0)) && (b1.1 ==1)) && (cD.1 ==2)))) fun dp=>
 ao.ret (dp,cD.2.2)
def xA (hp:aI Cell) (ab:List (BitVec 8)) (al:List (BitVec 8)) (aP:Int):ao (Bool × (aI Cell)):=
 ao.bind (ao.of (qd ab 120)) fun aB=>
 ao.bind (ao.of (sM aB)) fun aK=>
 ao.bind (ao.of (qd al 220)) fun bk=>
 ao.bind (s4 hp aK.1) fun b1=>
 ao.bind (ao.of (sZ aP (aK.1.bA.length:Int))) fun cm=>
 ao.bind (ao.of (idx aK.1.bA.length cm)) fun bh=>
 ao.bind (nh (σ:=Int × bm × (aI Cell)) (ε:=(Int × Bool × bm × (aI Cell)) ⊕ (Int × Bool × Int × Int × Bool × Bool × bm × (aI Cell))) gu (fun s1=>
   ao.bind (ao.of (c5 (decide (s1.1 < 20)) true (u4 s1.2.1))) fun cD=>
   cond ((decide (s1.1 < 20)) && cD) (
    ao.bind (ao.of (u9 s1.2.1 aK.1 aP)) fun ct=>
    ao.bind (ao.of (vd s1.2.2 b1.1 ct.1)) fun dy=>
    ao.bind (ao.of (sR s1.2.2 b1.1 ((aN aK.1.bA bh).bC))) fun e1=>
    ao.bind (pt s1.2.2 b1.1 ct.1 1) fun dJ=>
    cond (dy.2 && (dJ.2.1 !=17)) (
     ao.ret (.inr (Sum.inr (s1.1,dy.2,e1,dJ.2.1,(decide (s1.1 < 20)) && cD,dy.2 && (dJ.2.1 !=17),ct.2,dJ.2.2)))) (
     ao.bind (ao.of (some (((!dy.2) && (e1 ==((aN aK.1.bA bh).fv))) && (dJ.2.1 !=18)))) fun bD=>
     cond bD (
      ao.ret (.inr (Sum.inr (s1.1,dy.2,e1,dJ.2.1,(decide (s1.1 < 20)) && cD,dy.2 && (dJ.2.1 !=17),ct.2,dJ.2.2)))) (
      ao.bind (ao.of (c5 (decide ((((!dy.2) && (decide (e1 < ((aN aK.1.bA bh).fv))))=true)∧ (dJ.2.1 !=0)=false)) true (sR dJ.2.2 b1.1 ((aN aK.1.bA bh).bC)))) fun gv=>
      ao.bind (ao.of (some (((!dy.2) && (decide (e1 < ((aN aK.1.bA bh).fv)))) && ((dJ.2.1 !=0) || (gv !=(bu (e1 + 1))))))) fun dp=>
      cond dp (
       ao.ret (.inr (Sum.inr (s1.1,dy.2,e1,dJ.2.1,(decide (s1.1 < 20)) && cD,dy.2 && (dJ.2.1 !=17),ct.2,dJ.2.2)))) (
       ao.bind (ao.of (sR dJ.2.2 b1.1 ((aN aK.1.bA bh).bC))) fun gH=>
       cond (decide (gH > ((aN aK.1.bA bh).fv))) (
        ao.ret (.inr (Sum.inr (s1.1,dy.2,e1,dJ.2.1,(decide (s1.1 < 20)) && cD,dy.2 && (dJ.2.1 !=17),ct.2,dJ.2.2)))) (
        ao.ret (.inl (bu (s1.1 + 1),ct.2,dJ.2.2))))))) (
    ao.ret (.inr (Sum.inl (s1.1,(decide (s1.1 < 20)) && cD,s1.2.1,s1.2.2))))) (0,bk,b1.2)) fun aE=>
   Sum.elim (fun aE=>
    ao.bind (vr aE.2.2.2) fun gj=>
    ao.ret (gj.1,gj.2)) (fun aE=>
   ao.ret (false,aE.2.2.2.2.2.2.2)) aE
def xw (hp:aI Cell) (ab:Ref):Option Int:=
 cond ab.isNone (
  some 0) (
  (ab).bind fun bS=>
  (jc hp bS).bind fun bl=>
  some bl.kl)
def xn (hp:aI Cell) (ab:List (BitVec 8)) (al:List (BitVec 8)):ao (Bool × (aI Cell)):=
 ao.bind (ao.of (qd ab 120)) fun aB=>
 ao.bind (ao.of (sM aB)) fun aK=>
 ao.bind (ao.of (qd al 200)) fun bk=>
 ao.bind (s4 hp aK.1) fun b1=>
 ao.bind (nh (σ:=Int × Int × bm × (aI Cell)) (ε:=(Int × Int × Bool × bm × (aI Cell)) ⊕ (Int × Int × Int × Int × Bool × Bool × Bool × Bool × Bool × bm × (aI Cell))) gu (fun s1=>
   ao.bind (ao.of (c5 (decide (s1.2.1 < 24)) true (u4 s1.2.2.1))) fun cm=>
   cond ((decide (s1.2.1 < 24)) && cm) (
    ao.bind (ao.of (fl s1.2.2.1 4)) fun cD=>
    ao.bind (ao.of (u9 cD.2 aK.1 cD.1)) fun ct=>
    ao.bind (ao.of (fl ct.2 3)) fun dy=>
    cond (dy.1 ==1) (
     ao.bind (sO s1.2.2.2 b1.1 ct.1) fun e1=>
     ao.ret (.inl (s1.1,bu (s1.2.1 + 1),dy.2,e1.2.2))) (
     ao.bind (pt s1.2.2.2 b1.1 ct.1 5) fun dJ=>
     cond (dJ.2.1 !=0) (
      ao.ret (.inl (s1.1,bu (s1.2.1 + 1),dy.2,dJ.2.2))) (
      ao.bind (ao.of (vd dJ.2.2 b1.1 ct.1)) fun gv=>
      ao.bind (ao.of (some ((((decide (dJ.1≤s1.1)) || (!gv.2)) || (gv.1.b8 !=dJ.1)) || (gv.1.kJ !=5)))) fun bD=>
      ao.bind (ao.of (c5 bD false (xw dJ.2.2 b1.1))) fun gH=>
      cond (bD || (gH !=(bu (dJ.1 + 1)))) (
       ao.ret (.inr (Sum.inr (s1.1,s1.2.1,dJ.1,dJ.2.1,gv.2,(decide (s1.2.1 < 24)) && cm,dy.1 ==1,dJ.2.1 !=0,bD || (gH !=(bu (dJ.1 + 1))),dy.2,dJ.2.2)))) (
       ao.ret (.inl (dJ.1,bu (s1.2.1 + 1),dy.2,dJ.2.2)))))) (
    ao.ret (.inr (Sum.inl (s1.1,s1.2.1,(decide (s1.2.1 < 24)) && cm,s1.2.2.1,s1.2.2.2))))) (0,0,bk,b1.2)) fun aE=>
   Sum.elim (fun aE=>
    ao.bind (vr aE.2.2.2.2) fun gj=>
    ao.ret (gj.1,gj.2)) (fun aE=>
   ao.ret (false,aE.2.2.2.2.2.2.2.2.2.2)) aE
end Go.Proofs.YtmnggbjcnoffeaaGreat
