/-
  Each function of the translation as a functional program. Conditions: none.
-/
import Derived.Test.YthkfkliknjiecaaGreatMt
set_option linter.unusedVariables false
set_option linter.unusedSimpArgs false
set_option maxRecDepth 100000
namespace Go.Proofs.YthkfkliknjiecaaGreat
open Go Gv
def wQ (J:List (BitVec 8))(ai:Int):Option bq:=
 (q1 J 0 (min (J.length:Int) ai)).bind fun aE=>
 some ({ (default:bq) with cg:=aE } :bq)
def FE (J:bq):Option Bool:=
 some (decide (J.tI<(J.cg.length:Int)))
def gi (J:bq)(ai:Int):Option (Int×bq):=
 (FE J).bind fun aE=>
 cond ((!aE)||(decide (ai<1))) (
  some (0,J)) (
  (idx J.cg.length (bt ((bt (J.tI+1)) - 1))).bind fun aW=>
  (vE ((aF J.cg aW).toNat:Int) ai).bind fun aK=>
  some (aK,({ J with tI:=bt (J.tI+1) } :bq)))
def mE (J:bq):Option (Bool×bq):=
 (gi J 2).bind fun aE=>
 some (aE.1==1,aE.2)
def Bj (J:bq):Option ((List ek)×bq):=
 (gi J 4).bind fun aE=>
 (idx (([0,0,65535,3]:List Int).length) aE.1).bind fun aW=>
 (some ({ cU:=({ (default:az) with bX:=1#64 } :az),gy:=({ (default:az) with bX:=15#64 } :az),q0:=2:hA })).bind fun bu=>
 (some ({ cU:=({ (default:az) with bX:=2#64 } :az),gy:=({ (default:az) with bX:=3#64 } :az),q0:=3:hA })).bind fun dF=>
 (mE aE.2).bind fun aK=>
 (cond aK.1 (
  (gi aK.2 2).bind fun ck=>
  (some (({ (default:az) with bX:=BitVec.ofInt 64 (bt (8 * ck.1)) } :az))).bind fun kl=>
  (gi ck.2 4).bind fun cQ=>
  (idx (([0,0,65535,3]:List Int).length) cQ.1).bind fun cK=>
  (some ({ cU:=kl,gy:=({ (default:az) with bX:=8#64 } :az),q0:=aF ([0,0,65535,3]:List Int) cK:hA })).bind fun iG=>
  (g9 40 [bu,dF] [iG]).bind fun dO=>
  some (cQ.2,dO)) (
  some (aK.2,[bu,dF]))).bind fun bl=>
 (gi bl.1 4).bind fun bs=>
 (idx (([0,0,65535,3]:List Int).length) bs.1).bind fun bI=>
 (some (({ (default:ek) with bP:=2,jg:=2,h6:=aF ([0,0,65535,3]:List Int) bI } :ek))).bind fun gm=>
 (some (({ (default:ek) with bP:=3,jg:=3,oM:=9,h6:=0 } :ek))).bind fun jd=>
 (gi bs.2 3).bind fun bG=>
 (cond (bG.1==1) (
  (gi bG.2 3).bind fun cz=>
  (some ({ cU:=({ (default:az) with bX:=5#64 } :az),gy:=({ (default:az) with bX:=15#64 } :az),q0:=bt (1+cz.1):hA })).bind fun kk=>
  some (cz.2,({ jd with qc:= [kk] } :ek))) (
  some (bG.2,jd))).bind fun cF=>
 (some (({ ({ (default:ek) with bP:=1,jg:=1,oM:=4,h6:=aF ([0,0,65535,3]:List Int) aW } :ek) with qc:=bl.2 } :ek))).bind fun hS=>
 some ([hS,gm,cF.2],cF.1)
def Bb (J:bq):Option ((List eB)×bq):=
 (some (({ (default:eB) with bP:=1,cH:=ByteArray.mk #[110,111,112] } :eB))).bind fun bu=>
 (some (({ (default:eB) with bP:=2,cH:=ByteArray.mk #[100,114,111,112],pA:= [({ (default:fJ) with jk:=6 } :fJ)] } :eB))).bind fun dF=>
 (some ({ cH:=ByteArray.mk #[112,111,114,116],fQ:=16:jE })).bind fun gm=>
 (some (({ (default:fJ) with jk:=7,lP:=({ (default:gB) with dp:=3 } :gB) } :fJ))).bind fun jd=>
 (some (({ (default:eB) with bP:=3,cH:=ByteArray.mk #[102,111,114,119,97,114,100],lq:= [gm],pA:= [jd] } :eB))).bind fun hS=>
 (some ({ jk:=1,kP:=5,lP:=({ (default:gB) with dp:=3 } :gB):fJ })).bind fun kk=>
 (some (({ (default:gB) with dp:=2,h0:=5 } :gB))).bind fun kl=>
 (some (({ (default:eB) with bP:=4,cH:=ByteArray.mk #[116,97,103],lq:= [{ cH:=ByteArray.mk #[120],fQ:=4:jE }],pA:= [kk,{ jk:=2,kP:=3,lP:=kl:fJ }] } :eB))).bind fun iG=>
 (some ([{ cH:=ByteArray.mk #[120],fQ:=4:jE },{ cH:=ByteArray.mk #[121],fQ:=12:jE }])).bind fun mZ=>
 (some ({ jk:=1,kP:=9,lP:=({ (default:gB) with dp:=3 } :gB):fJ })).bind fun mu=>
 (some (({ (default:gB) with dp:=3,h0:=1 } :gB))).bind fun lY=>
 (some ([({ (default:fJ) with jk:=4,kP:=3 } :fJ),mu,{ jk:=3,kP:=8,lP:=lY:fJ }])).bind fun ns=>
 (some (({ (default:eB) with bP:=5,cH:=ByteArray.mk #[119,114,97,112],lq:=mZ,pA:=ns } :eB))).bind fun lZ=>
 (gi J 2).bind fun aE=>
 (some (({ (default:fJ) with jk:=5,kP:=bt (2+aE.1) } :fJ))).bind fun mv=>
 (gi aE.2 256).bind fun aK=>
 (some (({ (default:az) with bX:=BitVec.ofInt 64 aK.1 } :az))).bind fun pL=>
 (some (({ (default:gB) with dp:=1,cU:=pL } :gB))).bind fun qy=>
 (some (({ (default:eB) with bP:=6,cH:=ByteArray.mk #[115,116,114,105,112],pA:= [mv,{ jk:=2,kP:=6,lP:=qy:fJ }] } :eB))).bind fun ox=>
 (mE aK.2).bind fun bs=>
 (cond bs.1 (
  (idx ([bu,dF,hS,iG,lZ,ox].length) 2).bind fun bI=>
  (some (eV [bu,dF,hS,iG,lZ,ox] bI ({ (aF [bu,dF,hS,iG,lZ,ox] bI) with rZ:=ByteArray.mk #[112,111,114,116,32,33,61,32,48] } :eB))).bind fun sE=>
  some sE) (
  some [bu,dF,hS,iG,lZ,ox])).bind fun bl=>
 (mE bs.2).bind fun bG=>
 (cond bG.1 (
  (idx bl.length 4).bind fun aW=>
  (some (eV bl aW ({ (aF bl aW) with rZ:=ByteArray.mk #[120,32,60,32,121,32,124,124,32,120,32,61,61,32,49,53] } :eB))).bind fun tW=>
  some tW) (
  some bl)).bind fun cF=>
 some (cF,bG.2)
def Bl (J:bq):Option ((List b2)×bq):=
 (some ({ cH:=ByteArray.mk #[97],hB:=4,dp:=1:c6 })).bind fun bu=>
 (gi J 2).bind fun aE=>
 (gi aE.2 5).bind fun aK=>
 (some (({ (default:b2) with bP:=1,cH:=ByteArray.mk #[112,111,114,116,115],cn:= [bu],dV:=([1,2,4]:List Int),h6:=bt (1+aE.1),hn:=bt (2+aK.1) } :b2))).bind fun dF=>
 (some ({ cH:=ByteArray.mk #[100],hB:=7,dp:=2:c6 })).bind fun gm=>
 (gi aK.2 6).bind fun bs=>
 (mE bs.2).bind fun bG=>
 (cond bG.1 (
  (some ({ cH:=ByteArray.mk #[109],hB:=3,dp:=1:c6 })).bind fun qy=>
  (g9 32 [gm] [qy]).bind fun gv=>
  some (({ ({ (default:b2) with bP:=2,cH:=ByteArray.mk #[114,111,117,116,101,115],dV:=([1,2,3,4]:List Int),h6:=2,hn:=bt (3+bs.1) } :b2) with cn:= [] } :b2),gv)) (
  some (({ (default:b2) with bP:=2,cH:=ByteArray.mk #[114,111,117,116,101,115],dV:=([1,2,3,4]:List Int),h6:=2,hn:=bt (3+bs.1) } :b2),[gm]))).bind fun bl=>
 (some ({ cH:=ByteArray.mk #[101],hB:=6,dp:=3:c6 })).bind fun jd=>
 (some ({ cH:=ByteArray.mk #[97],hB:=4,dp:=3:c6 })).bind fun hS=>
 (gi bG.2 6).bind fun cz=>
 (mE cz.2).bind fun ck=>
 (cond ck.1 (
  (some ({ cH:=ByteArray.mk #[98],hB:=5,dp:=1:c6 })).bind fun pL=>
  (g9 32 [jd,hS] [pL]).bind fun iB=>
  some (({ ({ (default:b2) with bP:=3,cH:=ByteArray.mk #[97,99,108],dV:=([1,2,3,5,6]:List Int),h6:=1,hn:=bt (4+cz.1) } :b2) with cn:= [] } :b2),iB)) (
  some (({ (default:b2) with bP:=3,cH:=ByteArray.mk #[97,99,108],dV:=([1,2,3,5,6]:List Int),h6:=1,hn:=bt (4+cz.1) } :b2),[jd,hS]))).bind fun cF=>
 (some ({ cH:=ByteArray.mk #[102],hB:=8,dp:=4:c6 })).bind fun kk=>
 (gi ck.2 5).bind fun cQ=>
 (mE cQ.2).bind fun dO=>
 (cond dO.1 (
  (some ({ cH:=ByteArray.mk #[103],hB:=9,dp:=1:c6 })).bind fun lZ=>
  (some ({ cH:=ByteArray.mk #[100],hB:=7,dp:=2:c6 })).bind fun mv=>
  (g9 32 [kk] [lZ,mv]).bind fun jn=>
  some (({ ({ (default:b2) with bP:=4,cH:=ByteArray.mk #[115,112,97,110,115],dV:=([1,3,5]:List Int),h6:=3,wL:= [({ (default:az) with bX:=7#64 } :az)],hn:=bt (3+cQ.1) } :b2) with cn:= [] } :b2),jn)) (
  some (({ (default:b2) with bP:=4,cH:=ByteArray.mk #[115,112,97,110,115],dV:=([1,3,5]:List Int),h6:=3,wL:= [({ (default:az) with bX:=7#64 } :az)],hn:=bt (3+cQ.1) } :b2),[kk]))).bind fun fg=>
 (some ([dF,({ bl.1 with cn:=bl.2 } :b2),({ cF.1 with cn:=cF.2 } :b2),({ fg.1 with cn:=fg.2 } :b2)])).bind fun kl=>
 (some ([ByteArray.mk #[],ByteArray.mk #[97,32,33,61,32,48],ByteArray.mk #[97,32,60,32,49,52,32,38,38,32,97,32,33,61,32,51]])).bind fun iG=>
 (some ([ByteArray.mk #[],ByteArray.mk #[100,58,58,112,114,101,102,105,120,95,108,101,110,103,116,104,32,62,61,32,56],ByteArray.mk #[100,58,58,112,114,101,102,105,120,95,108,101,110,103,116,104,32,61,61,32,51,50,32,45,62,32,100,58,58,118,97,108,117,101,32,62,32,48,120,102,102]])).bind fun mZ=>
 (some ([ByteArray.mk #[],ByteArray.mk #[112,114,105,111,114,105,116,121,32,60,32,49,48,48,32,38,38,32,40,101,58,58,109,97,115,107,32,33,61,32,48,32,124,124,32,97,58,58,109,97,115,107,32,33,61,32,48,41],ByteArray.mk #[101,58,58,109,97,115,107,32,61,61,32,48,32,45,62,32,112,114,105,111,114,105,116,121,32,62,32,53]])).bind fun mu=>
 (some ([ByteArray.mk #[],ByteArray.mk #[102,58,58,104,105,103,104,32,45,32,102,58,58,108,111,119,32,60,61,32,48,120,49,48,48],ByteArray.mk #[33,40,102,58,58,108,111,119,32,61,61,32,48,32,38,38,32,102,58,58,104,105,103,104,32,62,32,49,48,48,48,41]])).bind fun lY=>
 (et (σ:=Int×(List b2)×bq) (ε:=(Int×Bool×(List b2)×bq)) ei (fun s1=>
  cond (decide (s1.1<(kl.length:Int))) (
   (idx ([iG,mZ,mu,lY].length) s1.1).bind fun aW=>
   (gi s1.2.2 3).bind fun hy=>
   (idx ((aF [iG,mZ,mu,lY] aW).length) hy.1).bind fun bI=>
   (idx s1.2.1.length s1.1).bind fun cK=>
   (some (eV s1.2.1 cK ({ (aF s1.2.1 cK) with rZ:=aF (aF [iG,mZ,mu,lY] aW) bI } :b2))).bind fun ns=>
   some (.inl (bt (s1.1+1),ns,hy.2))) (
   some (.inr (s1.1,decide (s1.1<(kl.length:Int)),s1.2.1,s1.2.2)))) (0,kl,dO.2)).bind fun aq=>
 some (aq.2.2.1,aq.2.2.2)
def By (J:bq)(ai:List b2):Option ((List c4)×bq):=
 (gi J 3).bind fun aE=>
 (gi aE.2 6).bind fun aK=>
 (gi aK.2 6).bind fun bs=>
 (gi bs.2 4).bind fun bG=>
 (et (σ:=Int×c4×(List ed)×bq×c4×(List ed)×c4×(List ed)) (ε:=(Int×Bool×c4×(List ed)×bq×c4×(List ed)×c4×(List ed))) ei (fun s1=>
  cond (decide (s1.1<(ai.length:Int))) (
   (idx ai.length s1.1).bind fun aW=>
   (x2 (α:=Bool) 1 (((aF ai aW).cn).length:Int)).bind fun cz=>
   (x2 (α:=Bool) 1 (((aF ai aW).cn).length:Int)).bind fun ck=>
   (et (σ:=Int×(List Bool)×(List Bool)×bq) (ε:=(Int×Bool×(List Bool)×(List Bool)×bq)) ei (fun s2=>
    cond (decide (s2.1<(cz.length:Int))) (
     (gi s2.2.2.2 4).bind fun cQ=>
     (idx s2.2.2.1.length s2.1).bind fun bI=>
     (idx s2.2.1.length s2.1).bind fun cK=>
     some (.inl (bt (s2.1+1),eV s2.2.1 cK (decide (cQ.1>0)),eV s2.2.2.1 bI true,cQ.2))) (
     some (.inr (s2.1,decide (s2.1<(cz.length:Int)),s2.2.1,s2.2.2.1,s2.2.2.2)))) (0,ck,cz,s1.2.2.2.1)).bind fun aX=>
   (some ({ cO:=(aF ai aW).bP,tn:=true,te:=true,cn:=aX.2.2.2.1:ed })).bind fun bu=>
   (g9 40 s1.2.2.2.2.2.2.2 [bu]).bind fun dO=>
   (gi aX.2.2.2.2 4).bind fun hy=>
   (cond (decide (hy.1>0)) (
    (gi hy.2 4).bind fun h1=>
    (mE h1.2).bind fun jL=>
    (some ({ cO:=(aF ai aW).bP,tn:=decide (h1.1>0),te:=jL.1,cn:=aX.2.2.1:ed })).bind fun gm=>
    (g9 40 s1.2.2.2.2.2.1 [gm]).bind fun kV=>
    some (jL.2,({ s1.2.2.2.2.1 with kq:= [] } :c4),kV)) (
    some (hy.2,s1.2.2.2.2.1,s1.2.2.2.2.2.1))).bind fun bl=>
   (mE bl.1).bind fun jn=>
   (cond jn.1 (
    (mE jn.2).bind fun iB=>
    (mE iB.2).bind fun gv=>
    (some ({ cO:=(aF ai aW).bP,tn:=iB.1,te:=gv.1,cn:=aX.2.2.2.1:ed })).bind fun dF=>
    (g9 40 s1.2.2.1 [dF]).bind fun iC=>
    some (gv.2,({ s1.2.1 with kq:= [] } :c4),iC)) (
    some (jn.2,s1.2.1,s1.2.2.1))).bind fun cF=>
   some (.inl (bt (s1.1+1),cF.2.1,cF.2.2,cF.1,bl.2.1,bl.2.2,({ s1.2.2.2.2.2.2.1 with kq:= [] } :c4),dO))) (
   some (.inr (s1.1,decide (s1.1<(ai.length:Int)),s1.2.1,s1.2.2.1,s1.2.2.2.1,s1.2.2.2.2.1,s1.2.2.2.2.2.1,s1.2.2.2.2.2.2.1,s1.2.2.2.2.2.2.2)))) (0,({ (default:c4) with bP:=7,cH:=ByteArray.mk #[102,101,119],dV:= [bt (1+bs.1)],td:=bG.1 } :c4),([]:List ed),bG.2,({ (default:c4) with bP:=2,cH:=ByteArray.mk #[115,111,109,101],dV:=([1,2,bt (3+aE.1)]:List Int),td:=bt (1+aK.1) } :c4),([]:List ed),({ (default:c4) with bP:=1,cH:=ByteArray.mk #[97,108,108],dV:=([1,2,3,4,5,6]:List Int),td:=40,Cx:=true } :c4),([]:List ed))).bind fun aq=>
 (some (({ aq.2.2.2.2.2.2.2.1 with kq:=aq.2.2.2.2.2.2.2.2 } :c4))).bind fun jd=>
 (some ([jd,({ aq.2.2.2.2.2.1 with kq:=aq.2.2.2.2.2.2.1 } :c4),({ aq.2.2.1 with kq:=aq.2.2.2.1 } :c4)])).bind fun hS=>
 some (hS,aq.2.2.2.2.1)
def yI (J:bq):Option (aZ×bq):=
 (gi J 8).bind fun aE=>
 (gi aE.2 30).bind fun aK=>
 (some ({ bP:=1,cH:=ByteArray.mk #[105,110,103,114,101,115,115],fQ:=16:gj })).bind fun bu=>
 (some ({ bP:=2,cH:=ByteArray.mk #[101,103,114,101,115,115],fQ:=16:gj })).bind fun dF=>
 (some ({ bP:=3,cH:=ByteArray.mk #[109,101,116,97],fQ:=8:gj })).bind fun gm=>
 (some ({ bP:=6,cH:=ByteArray.mk #[101],fQ:=8:gj })).bind fun jd=>
 (some ({ bP:=7,cH:=ByteArray.mk #[100],fQ:=32:gj })).bind fun hS=>
 (some ({ bP:=8,cH:=ByteArray.mk #[102],fQ:=12:gj })).bind fun kk=>
 (some ({ bP:=9,cH:=ByteArray.mk #[103],fQ:=4:gj })).bind fun kl=>
 (some ([bu,dF,gm,{ bP:=4,cH:=ByteArray.mk #[97],fQ:=4:gj },{ bP:=5,cH:=ByteArray.mk #[98],fQ:=4:gj },jd,hS,kk,kl])).bind fun iG=>
 (some (({ ({ (default:aZ) with Ca:=bt (2+aE.1),Co:=bt (12+aK.1) } :aZ) with fY:=iG } :aZ))).bind fun mZ=>
 (some ({ bP:=1,cH:=ByteArray.mk #[111,110,101],fY:=([4,5,6]:List Int):kH })).bind fun mu=>
 (some ({ bP:=2,cH:=ByteArray.mk #[116,119,111],fY:=([7]:List Int):kH })).bind fun lY=>
 (some ({ bP:=3,cH:=ByteArray.mk #[116,104,114,101,101],fY:=([8,9]:List Int):kH })).bind fun ns=>
 (Bj aK.2).bind fun bs=>
 (Bb bs.2).bind fun bG=>
 (Bl bG.2).bind fun cz=>
 (some (({ ({ mZ with m3:= [mu,lY,ns] } :aZ) with nG:=bs.1 } :aZ))).bind fun lZ=>
 (some (({ ({ lZ with dV:=bG.1 } :aZ) with bE:=cz.1 } :aZ))).bind fun mv=>
 (By cz.2 mv.bE).bind fun ck=>
 (some ([{ cO:=1,jg:=1:gC },{ cO:=2,jg:=2:gC },({ (default:gC) with cO:=3 } :gC),{ cO:=4,jg:=3:gC }])).bind fun pL=>
 (mE ck.2).bind fun cQ=>
 (cond cQ.1 (
  (g9 16 pL [({ (default:gC) with cO:=1 } :gC)]).bind fun h1=>
  some h1) (
  some pL)).bind fun bl=>
 (mE cQ.2).bind fun dO=>
 (cond dO.1 (
  (some (({ (default:fK) with cO:=2,h7:=4,qT:=1 } :fK))).bind fun Mf=>
  (g9 48 ([]:List fK) [Mf]).bind fun iC=>
  some (({ ({ ({ mv with kJ:=ck.1 } :aZ) with oN:= [] } :aZ) with pB:= [] } :aZ),iC)) (
  some (({ ({ mv with kJ:=ck.1 } :aZ) with oN:= [] } :aZ),([]:List fK)))).bind fun cF=>
 (mE dO.2).bind fun hy=>
 (cu hy.1 true (idx cF.1.bE.length 2)).bind fun aW=>
 (cond (hy.1&&((((aF cF.1.bE aW).cn).length:Int)==3)) (
  (some (({ (default:fK) with cO:=3,xu:=2,qT:=1 } :fK))).bind fun sE=>
  (g9 48 cF.2 [sE]).bind fun gv=>
  some (({ cF.1 with pB:= [] } :aZ),gv)) (
  some (cF.1,cF.2))).bind fun fg=>
 (mE hy.2).bind fun jn=>
 (cu jn.1 true (idx fg.1.bE.length 3)).bind fun bI=>
 (cond (jn.1&&((((aF fg.1.bE bI).cn).length:Int)==3)) (
  (some (({ (default:fK) with cO:=4,xu:=1,qT:=1 } :fK))).bind fun ox=>
  (some (({ (default:fK) with cO:=4,h7:=5,qT:=1 } :fK))).bind fun tW=>
  (g9 48 fg.2 [ox,tW]).bind fun iB=>
  some (({ fg.1 with pB:= [] } :aZ),iB)) (
  some (fg.1,fg.2))).bind fun ll=>
 (some (({ ({ ll.1 with oN:=bl } :aZ) with pB:=ll.2 } :aZ))).bind fun qy=>
 some (qy,jn.2)
def Fx (J:b2)(ai:Int):Option Bool:=
 some (J.bP==ai)
def AX (J:List b2)(ai:b2→Option Bool):Option Int:=
 (et (σ:=Int) (ε:=(Int×Bool) ⊕ (Int×Int×Int×Bool×Bool)) ei (fun s1=>
  cond (decide (s1<(J.length:Int))) (
   (idx J.length s1).bind fun aW=>
   (ai (aF J aW)).bind fun aE=>
   cond aE (
    some (.inr (Sum.inr (s1,s1,s1,decide (s1<(J.length:Int)),aE)))) (
    some (.inl (bt (s1+1))))) (
   some (.inr (Sum.inl (s1,decide (s1<(J.length:Int))))))) 0).bind fun aq=>
  Sum.elim (fun aq=>
   some (-1)) (fun aq=>
  some aq.1) aq
def wG (J:aZ)(ai:Int):Option Int:=
 (AX J.bE (fun iw=>Fx iw ai)).bind fun aE=>
 some aE
def za (J:b2):Option (Int×Int):=
 (et (σ:=Int×Int×Int) (ε:=(Int×Int×Int×Bool)) ei (fun s1=>
  cond (decide (s1.2.2<(J.cn.length:Int))) (
   (idx J.cn.length s1.2.2).bind fun aW=>
   (cond (((aF J.cn aW).dp)==1) (
    some (s1.1,s1.2.1)) (
    (cond (((aF J.cn aW).dp)==2) (
     some (max s1.1 2,s1.2.2)) (
     some (3,s1.2.1))).bind fun cF=>
    some (cF.1,cF.2))).bind fun bl=>
   some (.inl (bl.1,bl.2,bt (s1.2.2+1)))) (
   some (.inr (s1.1,s1.2.1,s1.2.2,decide (s1.2.2<(J.cn.length:Int)))))) (1,0,0)).bind fun aq=>
 some (aq.1,aq.2.1)
def FX (hp:aN Cell):av (Ref×(aN Cell)):=
 av.bind (av.mk hp (Cell.o6 ([]:List ((Vector az 4)×Int)))) fun c8=>
 av.bind (av.mk c8.2 (Cell.z5 ({ pC:=(⟨some c8.1⟩:fR):ob }))) fun c2=>
 av.ret ((some c2.1:Ref),c2.2)
def Fy (J:gj)(ai:Int):Option Bool:=
 some (J.bP==ai)
def AY (J:List gj)(ai:gj→Option Bool):Option Int:=
 (et (σ:=Int) (ε:=(Int×Bool) ⊕ (Int×Int×Int×Bool×Bool)) ei (fun s1=>
  cond (decide (s1<(J.length:Int))) (
   (idx J.length s1).bind fun aW=>
   (ai (aF J aW)).bind fun aE=>
   cond aE (
    some (.inr (Sum.inr (s1,s1,s1,decide (s1<(J.length:Int)),aE)))) (
    some (.inl (bt (s1+1))))) (
   some (.inr (Sum.inl (s1,decide (s1<(J.length:Int))))))) 0).bind fun aq=>
  Sum.elim (fun aq=>
   some (-1)) (fun aq=>
  some aq.1) aq
def y0 (J:aZ)(ai:Int):Option Int:=
 (AY J.fY (fun iw=>Fy iw ai)).bind fun aE=>
 some aE
def I3 (J:aZ):Option cN:=
 some ({ ({ (default:cN) with py:=J } :cN) with cg:=([]:List ax) } :cN)
def zr (hp:aN Cell)(J:aZ)(ai:Int):av (Ref×(aN Cell)):=
 av.bind (av.of (wG J ai)) fun aE=>
 cond (decide (aE<0)) (
  av.ret ((none:Ref),hp)) (
  av.bind (av.of (idx J.bE.length aE)) fun aW=>
  av.bind (av.of (za (aF J.bE aW))) fun aK=>
  av.bind (av.mk hp (Cell.lb ([]:List (Int×ax)))) fun c8=>
  av.bind (av.of (some (({ (default:hj) with tl:=aK.1,qg:=(((aF J.bE aW).cn).length:Int),kI:=(⟨some c8.1⟩:fR) } :hj)))) fun bu=>
  av.bind (av.mk c8.2 (Cell.oj bu)) fun c2=>
  av.bind (cond (aK.1==1) (
    av.bind (FX c2.2) fun bs=>
    av.bind (av.of (iq bs.2 c2.1)) fun br=>
    av.bind (av.of (some (dr bs.2 c2.1 (Cell.oj ({ br with jt:=(g6.nm ({ rm:=bs.1:kG })) } :hj))))) fun cP=>
    av.ret cP) (
    av.bind (cond (aK.1==2) (
      av.bind (av.of (idx (((aF J.bE aW).cn).length) aK.2)) fun bI=>
      av.bind (av.of (y0 J ((aF ((aF J.bE aW).cn) bI).hB))) fun bG=>
      av.bind (av.of (cond (decide (bG≥0)) (
        (idx J.fY.length bG).bind fun cK=>
        some ((aF J.fY cK).fQ)) (
        some 0))) fun fg=>
      av.bind (av.mk c2.2 (Cell.mQ ([]:List ((Vector az 4)×Ref)))) fun gG=>
      av.bind (av.of (some ({ ts:=aK.2,fZ:=fg,oS:=(⟨some gG.1⟩:fR):hi }))) fun dF=>
      av.bind (av.of (iq gG.2 c2.1)) fun cD=>
      av.bind (av.of (some (dr gG.2 c2.1 (Cell.oj ({ cD with jt:=(g6.nn dF) } :hj))))) fun di=>
      av.ret di) (
      av.bind (av.of (I3 J)) fun cz=>
      av.bind (av.any (Option Nat×Nat)) fun dA=>
      av.bind (av.mk c2.2 (Cell.su cz dA.1 dA.2)) fun km=>
      av.bind (av.of (iq km.2 c2.1)) fun g3=>
      av.bind (av.of (some (dr km.2 c2.1 (Cell.oj ({ g3 with jt:=(g6.nq ({ cg:=(some km.1:Ref):j9 })) } :hj))))) fun hR=>
      av.ret hR)) fun cF=>
    av.ret cF)) fun bl=>
  av.ret ((some c2.1:Ref),bl))
def zs (hp:aN Cell)(J:aZ):av (Ref×(aN Cell)):=
 av.bind (av.mk hp (Cell.qt ([]:List (Int×Ref)))) fun c8=>
 av.bind (av.of (some ({ gq:=J,oL:=(⟨some c8.1⟩:fR),lr:=1:ij }))) fun bu=>
 av.bind (av.mk c8.2 (Cell.pH bu)) fun c2=>
 av.bind (av.of (jR c2.2 c2.1)) fun br=>
 av.bind (oi (σ:=Int×(aN Cell)) (ε:=(Int×Bool×(aN Cell))) ei (fun s1=>
   cond (decide (s1.1<(br.gq.bE.length:Int))) (
    av.bind (av.of (idx br.gq.bE.length s1.1)) fun aW=>
    av.bind (av.of (jR s1.2 c2.1)) fun lk=>
    av.bind (zr s1.2 J ((aF br.gq.bE aW).bP)) fun aE=>
    av.bind (av.of (D7 (jR aE.2 c2.1=some lk))) fun aiI=>
    av.bind (av.of lk.oL.p) fun b0=>
    av.bind (av.of (ni aE.2 b0)) fun nC=>
    av.bind (av.of (some (dr aE.2 b0 (Cell.qt (gK nC ((aF br.gq.bE aW).bP) aE.1))))) fun cP=>
    av.ret (.inl (bt (s1.1+1),cP))) (
    av.ret (.inr (s1.1,decide (s1.1<(br.gq.bE.length:Int)),s1.2)))) (0,c2.2)) fun aq=>
 av.ret ((some c2.1:Ref),aq.2.2)
def Jf (J:aZ):Option bZ:=
 (some (({ (default:bZ) with ou:=J,h0:=1 } :bZ))).bind fun bu=>
 some bu
def Bi (J:bq):Option Bool:=
 some (decide (J.tI<(J.cg.length:Int)))
def zp (J:Int)(ai:Int):Option Int:=
 cond (decide (ai<1)) (
  some 0) (
  (vE J ai).bind fun aE=>
  (vE (bt (aE+ai)) ai).bind fun aK=>
  some aK)
def BW (J:aZ)(ai:Int):Option Int:=
 (et (σ:=Int) (ε:=(Int×Bool) ⊕ (Int×Int×Bool×Bool)) ei (fun s1=>
  cond (decide (s1<(J.fY.length:Int))) (
   (idx J.fY.length s1).bind fun aW=>
   cond (((aF J.fY aW).bP)==ai) (
    some (.inr (Sum.inr ((aF J.fY aW).fQ,s1,decide (s1<(J.fY.length:Int)),((aF J.fY aW).bP)==ai)))) (
    some (.inl (bt (s1+1))))) (
   some (.inr (Sum.inl (s1,decide (s1<(J.fY.length:Int))))))) 0).bind fun aq=>
  Sum.elim (fun aq=>
   some 0) (fun aq=>
  some aq.1) aq
def wR (J:az)(ai:Int):Option az:=
 cond (decide (ai≥128)) (
  some J) (
  cond (decide (ai≥64)) (
   (some (J.dg&&&(((1#64) <<< (BitVec.ofInt 64 (bt (ai - 64))).toNat) - (1#64)))).bind fun bu=>
   some ({ dg:=bu,bX:=J.bX:az })) (
   cond (decide (ai≤0)) (
    some (default:az)) (
    (some (({ (default:az) with bX:=J.bX&&&(((1#64) <<< (BitVec.ofInt 64 ai).toNat) - (1#64)) } :az))).bind fun dF=>
    some dF)))
def FQ (J:Int)(ai:Int):Option az:=
 (some ((((1#64) <<< (BitVec.ofInt 64 J).toNat) - (1#64)) - (((1#64) <<< (BitVec.ofInt 64 (bt (J - ai))).toNat) - (1#64)))).bind fun bu=>
 some ({ (default:az) with bX:=bu } :az)
def Bw (J:bq)(ai:aZ)(aT:c6):Option (bW×bq):=
 (BW ai aT.hB).bind fun aE=>
 (gi J 256).bind fun aK=>
 (gi aK.2 16).bind fun bs=>
 (some (((BitVec.ofInt 64 aK.1) <<< (24#64).toNat)|||((BitVec.ofInt 64 bs.1) <<< (8#64).toNat))).bind fun bu=>
 (gi bs.2 16).bind fun bG=>
 (some (({ (default:az) with bX:=bu|||(BitVec.ofInt 64 bG.1) } :az))).bind fun dF=>
 (wR dF aE).bind fun cz=>
 cond (aT.dp==2) (
  (gi bG.2 5).bind fun ck=>
  cond (decide (ck.1>0)) (
   (gi ck.2 aE).bind fun cQ=>
   (gi cQ.2 5).bind fun dO=>
   (idx ([aE,8,16,1,bt (1+cQ.1)].length) dO.1).bind fun aW=>
   (FQ aE (aF [aE,8,16,1,bt (1+cQ.1)] aW)).bind fun hy=>
   (some (({ (default:az) with bX:=cz.bX&&&hy.bX } :az))).bind fun gm=>
   (some (({ (default:bW) with fm:=true,en:=aF [aE,8,16,1,bt (1+cQ.1)] aW,cU:=gm } :bW))).bind fun jd=>
   some (jd,dO.2)) (
   some ((default:bW),ck.2))) (
  cond (aT.dp==3) (
   (gi bG.2 256).bind fun jn=>
   (gi jn.2 5).bind fun iB=>
   (idx (([255,15,1,12,jn.1]:List Int).length) iB.1).bind fun bI=>
   (some (({ (default:az) with bX:=BitVec.ofInt 64 (aF ([255,15,1,12,jn.1]:List Int) bI) } :az))).bind fun hS=>
   (wR hS aE).bind fun gv=>
   cond (gv.bX !=(0#64)) (
    (some (({ (default:az) with bX:=cz.bX&&&gv.bX } :az))).bind fun kk=>
    (some (({ (default:bW) with fm:=true,gy:=gv,cU:=kk } :bW))).bind fun kl=>
    some (kl,iB.2)) (
    some ((default:bW),iB.2))) (
   cond (aT.dp==4) (
    (gi bG.2 256).bind fun iC=>
    (some (xN (cz.bX+(BitVec.ofInt 64 iC.1)) (((1#64) <<< (BitVec.ofInt 64 aE).toNat) - (1#64)))).bind fun iG=>
    (gi iC.2 5).bind fun h1=>
    (some ((decide (h1.1>0))&&(!((cz.bX==(0#64))&&(iG==(((1#64) <<< (BitVec.ofInt 64 aE).toNat) - (1#64))))))).bind fun mZ=>
    cond mZ (
     (some (({ (default:bW) with fm:=true,cU:=cz,jG:=({ (default:az) with bX:=iG } :az) } :bW))).bind fun mu=>
     some (mu,h1.2)) (
     some ((default:bW),h1.2))) (
    (some (({ (default:bW) with fm:=true,cU:=cz } :bW))).bind fun lY=>
    some (lY,bG.2))))
def BM (J:aZ)(ai:Int):Option eB:=
 (et (σ:=Int) (ε:=(Int×Bool) ⊕ (Int×Bool×Bool×eB)) ei (fun s1=>
  cond (decide (s1<(J.dV.length:Int))) (
   (idx J.dV.length s1).bind fun aW=>
   cond (((aF J.dV aW).bP)==ai) (
    some (.inr (Sum.inr (s1,decide (s1<(J.dV.length:Int)),((aF J.dV aW).bP)==ai,(aF J.dV aW))))) (
    some (.inl (bt (s1+1))))) (
   some (.inr (Sum.inl (s1,decide (s1<(J.dV.length:Int))))))) 0).bind fun aq=>
  Sum.elim (fun aq=>
   some (default:eB)) (fun aq=>
  some aq.2.2.2) aq
def yP (J:bq)(ai:aZ)(aT:Int):Option (a8×bq):=
 (zp aT (ai.bE.length:Int)).bind fun aE=>
 (idx ai.bE.length aE).bind fun aW=>
 (et (σ:=Int×a8×(List bW)×bq) (ε:=(Int×Bool×a8×(List bW)×bq)) ei (fun s1=>
  cond (decide (s1.1<(((aF ai.bE aW).cn).length:Int))) (
   (idx (((aF ai.bE aW).cn).length) s1.1).bind fun bI=>
   (Bw s1.2.2.2 ai (aF ((aF ai.bE aW).cn) bI)).bind fun aK=>
   (g9 64 s1.2.2.1 [aK.1]).bind fun bs=>
   (some ((((aF ((aF ai.bE aW).cn) bI).dp)==3)||(((aF ((aF ai.bE aW).cn) bI).dp)==4))).bind fun bu=>
   (cond bu (
    (gi aK.2 5).bind fun bG=>
    (some (({ ({ s1.2.1 with bU:= [] } :a8) with fP:=bt (1+bG.1) } :a8))).bind fun dF=>
    some (dF,bG.2)) (
    some (({ s1.2.1 with bU:= [] } :a8),aK.2))).bind fun bl=>
   some (.inl (bt (s1.1+1),bl.1,bs,bl.2))) (
   some (.inr (s1.1,decide (s1.1<(((aF ai.bE aW).cn).length:Int)),s1.2.1,s1.2.2.1,s1.2.2.2)))) (0,({ (default:a8) with cO:=(aF ai.bE aW).bP } :a8),([]:List bW),J)).bind fun aq=>
 (gi aq.2.2.2.2 (((aF ai.bE aW).dV).length:Int)).bind fun cz=>
 (idx (((aF ai.bE aW).dV).length) cz.1).bind fun cK=>
 (some (({ aq.2.2.1 with h7:=aF ((aF ai.bE aW).dV) cK } :a8))).bind fun gm=>
 (BM ai gm.h7).bind fun ck=>
 (et (σ:=Int×a8×(List az)×bq) (ε:=(Int×Bool×a8×(List az)×bq)) ei (fun s2=>
  cond (decide (s2.1<(ck.lq.length:Int))) (
   (idx ck.lq.length s2.1).bind fun fF=>
   (gi s2.2.2.2 256).bind fun cQ=>
   (some (({ (default:az) with bX:=BitVec.ofInt 64 cQ.1 } :az))).bind fun jd=>
   (wR jd ((aF ck.lq fF).fQ)).bind fun dO=>
   (g9 16 s2.2.2.1 [dO]).bind fun hy=>
   some (.inl (bt (s2.1+1),({ s2.2.1 with hl:= [] } :a8),hy,cQ.2))) (
   some (.inr (s2.1,decide (s2.1<(ck.lq.length:Int)),s2.2.1,s2.2.2.1,s2.2.2.2)))) (0,gm,([]:List az),cz.2)).bind fun aX=>
 (some (({ ({ aX.2.2.1 with bU:=aq.2.2.2.1 } :a8) with hl:=aX.2.2.2.1 } :a8))).bind fun hS=>
 some (hS,aX.2.2.2.2)
def mD (hp:aN Cell)(J:Ref)(ai:Int):Option Ref:=
 cond J.isNone (
  some (none:Ref)) (
  J.bind fun b0=>
  (jR hp b0).bind fun br=>
  br.oL.p.bind fun cR=>
  (ni hp cR).bind fun cD=>
  (some ((dW cD ai).getD default)).bind fun bu=>
  some bu)
def uP (J:a8):Option (Vector az 4):=
 (q1 J.bU 0 (min (J.bU.length:Int) 4)).bind fun aE=>
 (et (σ:=Int×(Vector az 4)) (ε:=(Int×Bool×(Vector az 4))) ei (fun s1=>
  cond (decide (s1.1<(aE.length:Int))) (
   (idx aE.length s1.1).bind fun aW=>
   (idx 4 s1.1).bind fun bI=>
   some (.inl (bt (s1.1+1),dD s1.2 bI ((aF aE aW).cU)))) (
   some (.inr (s1.1,decide (s1.1<(aE.length:Int)),s1.2)))) (0,(default:Vector az 4))).bind fun aq=>
 some aq.2.2
def uJ (hp:aN Cell)(J:Ref)(ai:Vector az 4):Option (Int×Bool):=
 cond J.isNone (
  some (0,false)) (
  J.bind fun b0=>
  (nK hp b0).bind fun br=>
  br.pC.p.bind fun cR=>
  (mM hp cR).bind fun cD=>
  (some (dW cD ai)).bind fun bu=>
  some (bu.getD default,bu.isSome))
def Bt (hp:aN Cell)(J:kG)(ai:a8):Option (Int×Bool):=
 (uP ai).bind fun aE=>
 (uJ hp J.rm aE).bind fun aK=>
 some (aK.1,aK.2)
def yC (J:hi)(ai:Vector az 4):Option ((Vector az 4)×az):=
 (idx 4 J.ts).bind fun aW=>
 (idx 4 J.ts).bind fun bI=>
 some ((dD ai bI (default:az)),(bH ai aW))
def wy (J:hi)(ai:a8):Option ((Vector az 4)×az×Int):=
 (uP ai).bind fun aE=>
 (yC J aE).bind fun aK=>
 cond (decide (J.ts≥ (ai.bU.length:Int))) (
  some (aK.1,aK.2,0)) (
  (idx ai.bU.length J.ts).bind fun aW=>
  some (aK.1,aK.2,(aF ai.bU aW).en))
def zc (J:Int):Option Int:=
 some (min (max 0 J) 128)
def zg (J:az)(ai:Int):Option az:=
 cond (decide (ai≤0)) (
  some J) (
  cond (decide (ai≥64)) (
   (some (({ (default:az) with bX:=J.dg >>> (BitVec.ofInt 64 (bt (ai - 64))).toNat } :az))).bind fun bu=>
   some bu) (
   (some ((J.bX >>> (BitVec.ofInt 64 ai).toNat)|||(J.dg <<< (BitVec.ofInt 64 (bt (64 - ai))).toNat))).bind fun dF=>
   (some ({ dg:=J.dg >>> (BitVec.ofInt 64 ai).toNat,bX:=dF:az })).bind fun gm=>
   some gm))
def wN (J:Int):Option az:=
 (some ({ dg:=18446744073709551615#64,bX:=18446744073709551615#64:az })).bind fun bu=>
 (zc J).bind fun aE=>
 (zg bu (bt (128 - aE))).bind fun aK=>
 some aK
def B7 (J:az)(ai:az):Option az:=
 (some ({ dg:=J.dg ^^^ ai.dg,bX:=J.bX ^^^ ai.bX:az })).bind fun bu=>
 some bu
def y2 (J:Int)(ai:Int):Option az:=
 (zc J).bind fun aE=>
 (wN aE).bind fun aK=>
 (wN (bt (aE - (min (max 0 ai) aE)))).bind fun bs=>
 (B7 aK bs).bind fun bG=>
 some bG
def uQ (J:az)(ai:az):Option az:=
 (some ({ dg:=J.dg&&&ai.dg,bX:=J.bX&&&ai.bX:az })).bind fun bu=>
 some bu
def yS (hp:aN Cell)(J:Ref)(ai:az)(aT:Int):Option Bool:=
 (cu (J.isSome&&(decide (aT≥0))) true J).bind fun b0=>
 (cu (J.isSome&&(decide (aT≥0))) true (gr hp b0)).bind fun br=>
 (cu ((J.isSome&&(decide (aT≥0)))&&(decide (aT≤br.fZ))) true J).bind fun cR=>
 (cu ((J.isSome&&(decide (aT≥0)))&&(decide (aT≤br.fZ))) true (gr hp cR)).bind fun cD=>
 (cu ((J.isSome&&(decide (aT≥0)))&&(decide (aT≤br.fZ))) true (y2 cD.fZ aT)).bind fun aE=>
 (cu ((J.isSome&&(decide (aT≥0)))&&(decide (aT≤br.fZ))) true (uQ ai aE)).bind fun aK=>
 (some (((J.isSome&&(decide (aT≥0)))&&(decide (aT≤br.fZ)))&&(decide (aK=ai)))).bind fun bu=>
 some bu
def yY (J:Ref)(ai:az)(aT:Int):Option (Int×az×Ref):=
 some (aT,ai,J)
def wS (J:az)(ai:Int):Option Bool:=
 (cu ((decide (ai≥0))&&(decide (ai<128))) true (zg J ai)).bind fun aE=>
 (some (((decide (ai≥0))&&(decide (ai<128)))&&((aE.bX&&&(1#64))==(1#64)))).bind fun bu=>
 some bu
def wA {σ ε:Type}(ai:Int)(aT:az)(cG:Ref)(hq:σ→aN Cell)(step:Int→σ→av (σ ⊕ ε))(cE:σ):av (σ ⊕ ε):=
 av.bind (oi (σ:=Int×(σ)) (ε:=(Int×Bool×(σ)) ⊕ (Int×Int×Int×Bool×Bool×Bool×(ε))) ei (fun s1=>
   cond (decide (s1.1<ai)) (
    av.bind (av.of cG) fun b0=>
    av.bind (av.of (gr (hq s1.2) b0)) fun br=>
    av.bind (av.of (wS aT (bt ((bt (br.fZ - 1)) - s1.1)))) fun aE=>
    av.bind (av.of (cond aE (
      some 1) (
      some 0))) fun bl=>
    av.bind (step bl s1.2) fun aK=>
    Sum.elim (fun s2=>
     av.ret (.inl (bt (s1.1+1),s2))) (fun dt=>
     av.ret (.inr (Sum.inr (s1.1,bl,s1.1,decide (s1.1<ai),aE,!false,dt)))) aK) (
    av.ret (.inr (Sum.inl (s1.1,decide (s1.1<ai),s1.2))))) (0,cE)) fun aq=>
   Sum.elim (fun aq=>
    av.ret (.inl aq.2.2:σ ⊕ ε)) (fun aq=>
   av.ret (.inr aq.2.2.2.2.2.2:σ ⊕ ε)) aq
def qS {σ ε:Type}(hp:aN Cell)(ai:Int)(aT:az)(cG:Ref)(step:Int→σ→Option (σ ⊕ ε))(cE:σ):Option (σ ⊕ ε):=
 (et (σ:=Int×(σ)) (ε:=(Int×Bool×(σ)) ⊕ (Int×Int×Int×Bool×Bool×Bool×(ε))) ei (fun s1=>
  cond (decide (s1.1<ai)) (
   cG.bind fun b0=>
   (gr hp b0).bind fun br=>
   (wS aT (bt ((bt (br.fZ - 1)) - s1.1))).bind fun aE=>
   (cond aE (
    some 1) (
    some 0)).bind fun bl=>
   (step bl s1.2).bind fun aK=>
   Sum.elim (fun s2=>
    some (.inl (bt (s1.1+1),s2))) (fun dt=>
    some (.inr (Sum.inr (s1.1,bl,s1.1,decide (s1.1<ai),aE,!false,dt)))) aK) (
   some (.inr (Sum.inl (s1.1,decide (s1.1<ai),s1.2))))) (0,cE)).bind fun aq=>
  Sum.elim (fun aq=>
   some (.inl aq.2.2)) (fun aq=>
  some (.inr aq.2.2.2.2.2.2)) aq
def yZ (hp:aN Cell)(J:Ref)(ai:az)(aT:Int):Option Ref:=
 (yS hp J ai aT).bind fun aE=>
 cond (!aE) (
  some (none:Ref)) (
  J.bind fun b0=>
  (gr hp b0).bind fun br=>
  (yY J ai aT).bind fun aK=>
  (qS hp aK.1 aK.2.1 aK.2.2 (σ:=Ref) (ε:=Ref×Ref) (fun(pN:Int) (s1:Ref)=>
   cond s1.isNone (
    some (.inr (s1,(none:Ref)))) (
    s1.bind fun cR=>
    (idx 2 pN).bind fun aW=>
    (cZ hp cR).bind fun cD=>
    some (.inl (bH cD.df aW)))) br.ep).bind fun aq=>
  Sum.elim (fun s1=>
   some s1) (fun aB=>
   some aB.2) aq)
def wI (hp:aN Cell)(J:Ref)(ai:az)(aT:Int):Option (Int×Bool):=
 (yZ hp J ai aT).bind fun aE=>
 (cu aE.isNone false aE).bind fun b0=>
 (cu aE.isNone false (cZ hp b0)).bind fun br=>
 cond (aE.isNone||(!br.fu)) (
  some (0,false)) (
  aE.bind fun cR=>
  (cZ hp cR).bind fun cD=>
  some (cD.hY,true))
def Be (hp:aN Cell)(J:hi)(ai:a8):Option (Int×Bool):=
 (wy J ai).bind fun aE=>
 J.oS.p.bind fun b0=>
 (kt hp b0).bind fun br=>
 (some ((dW br aE.1).getD default)).bind fun bu=>
 (wI hp bu aE.2.1 aE.2.2).bind fun aK=>
 some (aK.1,aK.2)
def Ff (J:List bW):Option (List bW):=
 (g9 64 ([]:List bW) J).bind fun aE=>
 some aE
def Fg (J:List az):Option (List az):=
 (g9 16 ([]:List az) J).bind fun aE=>
 some aE
def FY (J:a8):Option a8:=
 (Ff J.bU).bind fun aE=>
 (Fg J.hl).bind fun aK=>
 (some (({ ({ J with bU:=aE } :a8) with hl:=aK } :a8))).bind fun bu=>
 some bu
def oK (J:ax):Option ax:=
 (FY J.bj).bind fun aE=>
 some ({ J with bj:=aE } :ax)
def zm (J:List ax):Option (List ax):=
 (et (σ:=Int×(List ax)) (ε:=(Int×Bool×(List ax))) ei (fun s1=>
  cond (decide (s1.1<(J.length:Int))) (
   (idx J.length s1.1).bind fun aW=>
   (oK (aF J aW)).bind fun aE=>
   (g9 88 s1.2 [aE]).bind fun aK=>
   some (.inl (bt (s1.1+1),aK))) (
   some (.inr (s1.1,decide (s1.1<(J.length:Int)),s1.2)))) (0,([]:List ax))).bind fun aq=>
 some aq.2.2
def A8 (J:cN):Option (List ax):=
 (zm J.cg).bind fun aE=>
 some aE
def A1 (J:List bW)(ai:List bW):Option Bool:=
 cond ((J.length:Int) !=(ai.length:Int)) (
  some false) (
  (et (σ:=Int) (ε:=(Int×Bool) ⊕ (Int×Int×Bool×Bool)) ei (fun s1=>
   cond (decide (s1<(J.length:Int))) (
    (idx J.length s1).bind fun aW=>
    (idx ai.length s1).bind fun bI=>
    cond (!decide (aF J aW=aF ai bI)) (
     some (.inr (Sum.inr (s1,s1,decide (s1<(J.length:Int)),!decide (aF J aW=aF ai bI))))) (
     some (.inl (bt (s1+1))))) (
    some (.inr (Sum.inl (s1,decide (s1<(J.length:Int))))))) 0).bind fun aq=>
   Sum.elim (fun aq=>
    some true) (fun aq=>
   some false) aq)
def BO (J:a8)(ai:a8):Option Bool:=
 (cu (J.cO==ai.cO) true (A1 J.bU ai.bU)).bind fun aE=>
 some (((J.cO==ai.cO)&&aE)&&(J.fP==ai.fP))
def BA (hp:aN Cell)(J:j9)(ai:a8):Option (Int×Bool):=
 J.cg.bind fun b0=>
 (o3 hp b0).bind fun br=>
 (A8 br.1).bind fun aE=>
 (et (σ:=Int) (ε:=(Int×Bool) ⊕ (Int×Bool×Int×Bool×Bool)) ei (fun s1=>
  cond (decide (s1<(aE.length:Int))) (
   (idx aE.length s1).bind fun aW=>
   (BO ((aF aE aW).bj) ai).bind fun aK=>
   cond aK (
    some (.inr (Sum.inr ((aF aE aW).cl,true,s1,decide (s1<(aE.length:Int)),aK)))) (
    some (.inl (bt (s1+1))))) (
   some (.inr (Sum.inl (s1,decide (s1<(aE.length:Int))))))) 0).bind fun aq=>
  Sum.elim (fun aq=>
   some (0,false)) (fun aq=>
  some (aq.1,aq.2.1)) aq
def Fu (hp:aN Cell)(y:g6)(J:a8):Option (Int×Bool):=match y with
 | .nil=>none
 | .nm z=>Bt hp z J
 | .nn z=>Be hp z J
 | .nq z=>BA hp z J
def yR (hp:aN Cell)(J:Ref)(ai:Int)(aT:Bool):Option (ax×Bool):=
 cond (!aT) (
  some ((default:ax),false)) (
  J.bind fun b0=>
  (iq hp b0).bind fun br=>
  br.kI.p.bind fun cR=>
  (lx hp cR).bind fun cD=>
  (some ((dW cD ai).getD default)).bind fun bu=>
  (oK bu).bind fun aE=>
  some (aE,true))
def yU (hp:aN Cell)(J:Ref)(ai:a8):Option (ax×Bool):=
 cond J.isNone (
  some ((default:ax),false)) (
  J.bind fun b0=>
  (iq hp b0).bind fun br=>
  (Fu hp br.jt ai).bind fun aE=>
  (yR hp J aE.1 aE.2).bind fun aK=>
  some (aK.1,aK.2))
def yV (hp:aN Cell)(J:Ref):Option Int:=
 cond J.isNone (
  some 0) (
  J.bind fun b0=>
  (iq hp b0).bind fun br=>
  br.kI.p.bind fun cR=>
  (lx hp cR).bind fun cD=>
  some (cD.length:Int))
def BC (hp:aN Cell)(J:Ref)(ai:Int):Option Int:=
 J.bind fun b0=>
 (jR hp b0).bind fun br=>
 (wG br.gq ai).bind fun aE=>
 (idx br.gq.bE.length aE).bind fun aW=>
 some ((aF br.gq.bE aW).hn)
def FK (hp:aN Cell)(J:Ref)(ai:Vector az 4)(aT:Int):Option (Bool×(aN Cell)):=
 cond J.isNone (
  some (false,hp)) (
  J.bind fun b0=>
  (nK hp b0).bind fun br=>
  br.pC.p.bind fun cR=>
  (mM hp cR).bind fun cD=>
  (some (dW cD ai)).bind fun bu=>
  cond bu.isSome (
   some (false,hp)) (
   (some (dr hp cR (Cell.o6 (gK cD ai aT)))).bind fun cP=>
   some (true,cP)))
def BB (hp:aN Cell)(J:kG)(ai:ax):Option (aN Cell):=
 (uP ai.bj).bind fun aE=>
 (FK hp J.rm aE ai.cl).bind fun aK=>
 some aK.2
def F4 (hp:aN Cell)(J:Int):av (Ref×(aN Cell)):=
 av.bind (av.of (some (({ (default:fX) with fZ:=min (max 1 J) 128 } :fX)))) fun bu=>
 av.bind (av.mk hp (Cell.ky bu)) fun c8=>
 av.ret ((some c8.1:Ref),c8.2)
def y8 (hp:aN Cell)(J:Ref)(ai:az)(aT:Int)(cG:Int):av (Bool×(aN Cell)):=
 av.bind (av.of (yS hp J ai aT)) fun aE=>
 cond (!aE) (
  av.ret (false,hp)) (
  av.bind (av.of (yZ hp J ai aT)) fun aK=>
  av.bind (av.of (cu aK.isSome true aK)) fun b0=>
  av.bind (av.of (cu aK.isSome true (cZ hp b0))) fun br=>
  cond (aK.isSome&&br.fu) (
   av.ret (false,hp)) (
   av.bind (av.of J) fun cR=>
   av.bind (av.of (gr hp cR)) fun cD=>
   av.bind (cond cD.ep.isNone (
     av.bind (av.mk hp (Cell.gM (default:ec))) fun c2=>
     av.bind (av.of (gr c2.2 cR)) fun EO=>
     av.bind (av.of (some (dr c2.2 cR (Cell.ky ({ EO with ep:=(some c2.1:Ref) } :fX))))) fun vO=>
     av.ret vO) (
     av.ret hp)) fun bl=>
   av.bind (av.of (gr bl cR)) fun g3=>
   av.bind (av.of (yY J ai aT)) fun bs=>
   av.bind (wA bs.1 bs.2.1 bs.2.2 (σ:=Ref×(aN Cell)) (ε:=Empty) (fun(s2:Ref×(aN Cell))=>s2.2) (fun(As:Int) (s2:Ref×(aN Cell))=>
     av.bind (av.of s2.1) fun mA=>
     av.bind (av.of (idx 2 As)) fun aW=>
     av.bind (av.of (cZ s2.2 mA)) fun lk=>
     av.bind (cond ((bH lk.df aW).isNone) (
       av.bind (av.mk s2.2 (Cell.gM (default:ec))) fun c8=>
       av.bind (av.of (idx 2 As)) fun cK=>
       av.bind (av.of (cZ c8.2 mA)) fun mB=>
       av.bind (av.of (some (dr c8.2 mA (Cell.gM ({ mB with df:=dD mB.df cK (some c8.1:Ref) } :ec))))) fun cP=>
       av.ret cP) (
       av.ret s2.2)) fun cF=>
     av.bind (av.of (idx 2 As)) fun bI=>
     av.bind (av.of (cZ cF mA)) fun nC=>
     av.ret (.inl (bH nC.df bI,cF):(Ref×(aN Cell)) ⊕ Empty)) (g3.ep,bl)) fun aX=>
   Sum.elim (fun s2=>
    av.bind (av.of s2.1) fun rK=>
    av.bind (av.of (cZ s2.2 rK)) fun AL=>
    av.bind (av.of (some (dr s2.2 rK (Cell.gM ({ AL with fu:=true } :ec))))) fun di=>
    av.bind (av.of s2.1) fun Nq=>
    av.bind (av.of (cZ di Nq)) fun Nr=>
    av.bind (av.of (some (dr di Nq (Cell.gM ({ Nr with hY:=cG } :ec))))) fun hR=>
    av.ret (true,hR)) (fun dt=>
    Empty.elim dt) aX))
def Bp (hp:aN Cell)(J:hi)(ai:ax):av (aN Cell):=
 av.bind (av.of (wy J ai.bj)) fun aE=>
 av.bind (av.of J.oS.p) fun b0=>
 av.bind (av.of (kt hp b0)) fun br=>
 av.bind (av.of (some ((dW br aE.1).getD default))) fun bu=>
 av.bind (cond bu.isNone (
   av.bind (F4 hp J.fZ) fun bs=>
   av.bind (av.of (kt bs.2 b0)) fun g3=>
   av.bind (av.of (some (dr bs.2 b0 (Cell.mQ (gK g3 aE.1 bs.1))))) fun cP=>
   av.ret cP) (
   av.ret hp)) fun bl=>
 av.bind (av.of (kt bl b0)) fun cD=>
 av.bind (av.of (some ((dW cD aE.1).getD default))) fun dF=>
 av.bind (y8 bl dF aE.2.1 aE.2.2 ai.cl) fun aK=>
 av.ret aK.2
def wx (J:ax)(ai:Int):Option Bool:=
 some (J.cl==ai)
def wo (J:List ax)(ai:ax→Option Bool):Option Int:=
 (et (σ:=Int) (ε:=(Int×Bool) ⊕ (Int×Int×Int×Bool×Bool)) ei (fun s1=>
  cond (decide (s1<(J.length:Int))) (
   (idx J.length s1).bind fun aW=>
   (ai (aF J aW)).bind fun aE=>
   cond aE (
    some (.inr (Sum.inr (s1,s1,s1,decide (s1<(J.length:Int)),aE)))) (
    some (.inl (bt (s1+1))))) (
   some (.inr (Sum.inl (s1,decide (s1<(J.length:Int))))))) 0).bind fun aq=>
  Sum.elim (fun aq=>
   some (-1)) (fun aq=>
  some aq.1) aq
def IQ (J:cN)(ai:Int):Option Int:=
 (wo J.cg (fun iw=>wx iw ai)).bind fun aE=>
 some aE
def AS (J:List ax)(ai:ax)(aT:ax→ax→Option Int):Option (Int×Bool):=
 (et (σ:=Int×Int) (ε:=(Int×Int×Bool)) ei (fun s1=>
  cond (decide (s1.1<s1.2)) (
   (idx J.length (bt ((BitVec.ofInt 64 (bt (s1.1+s1.2))) >>> (1#64).toNat).toNat)).bind fun aW=>
   (aT (aF J aW) ai).bind fun aE=>
   (cond (decide (aE<0)) (
    (some (bt ((bt ((BitVec.ofInt 64 (bt (s1.1+s1.2))) >>> (1#64).toNat).toNat)+1))).bind fun bu=>
    some (bu,s1.2)) (
    some (s1.1,bt ((BitVec.ofInt 64 (bt (s1.1+s1.2))) >>> (1#64).toNat).toNat))).bind fun bl=>
   some (.inl (bl.1,bl.2))) (
   some (.inr (s1.1,s1.2,decide (s1.1<s1.2))))) (0,(J.length:Int))).bind fun aq=>
 (cu (decide (aq.1<(J.length:Int))) true (idx J.length aq.1)).bind fun bI=>
 (cu (decide (aq.1<(J.length:Int))) true (aT (aF J bI) ai)).bind fun aK=>
 some (aq.1,(decide (aq.1<(J.length:Int)))&&(aK==0))
def BN (J:Int):Option Bool:=
 some (J !=J)
def p6 (J:Int)(ai:Int):Option Int:=
 (BN J).bind fun aE=>
 (BN ai).bind fun aK=>
 cond aE (
  cond aK (
   some 0) (
   some (-1))) (
  cond aK (
   some 1) (
   cond (decide (J<ai)) (
    some (-1)) (
    cond (decide (J>ai)) (
     some 1) (
     some 0))))
def zi (J:aZ)(ai:a8):Option (b2×Bool):=
 (wG J ai.cO).bind fun aE=>
 cond (decide (aE<0)) (
  some ((default:b2),false)) (
  (idx J.bE.length aE).bind fun aW=>
  some (aF J.bE aW,true))
def AZ (J:List c6)(ai:c6→Option Bool):Option Int:=
 (et (σ:=Int) (ε:=(Int×Bool) ⊕ (Int×Int×Int×Bool×Bool)) ei (fun s1=>
  cond (decide (s1<(J.length:Int))) (
   (idx J.length s1).bind fun aW=>
   (ai (aF J aW)).bind fun aE=>
   cond aE (
    some (.inr (Sum.inr (s1,s1,s1,decide (s1<(J.length:Int)),aE)))) (
    some (.inl (bt (s1+1))))) (
   some (.inr (Sum.inl (s1,decide (s1<(J.length:Int))))))) 0).bind fun aq=>
  Sum.elim (fun aq=>
   some (-1)) (fun aq=>
  some aq.1) aq
def I2 (J:c6):Option Bool:=
 some (J.dp==2)
def ze (J:aZ)(ai:a8):Option Int:=
 (zi J ai).bind fun aE=>
 (AZ aE.1.cn I2).bind fun aK=>
 (some (((!aE.2)||(decide (aK<0)))||(decide (aK≥ (ai.bU.length:Int))))).bind fun bu=>
 cond bu (
  some 0) (
  (idx ai.bU.length aK).bind fun aW=>
  some ((aF ai.bU aW).en))
def s5 (J:List Int):Option Int:=
 (et (σ:=Int) (ε:=(Int×Bool) ⊕ (Int×Int×Int×Bool×Bool)) ei (fun s1=>
  cond (decide (s1<(J.length:Int))) (
   (idx J.length s1).bind fun aW=>
   cond ((aF J aW) !=0) (
    some (.inr (Sum.inr (aF J aW,aF J aW,s1,decide (s1<(J.length:Int)),(aF J aW) !=0)))) (
    some (.inl (bt (s1+1))))) (
   some (.inr (Sum.inl (s1,decide (s1<(J.length:Int))))))) 0).bind fun aq=>
  Sum.elim (fun aq=>
   some 0) (fun aq=>
  some aq.1) aq
def zj (J:aZ)(ai:ax)(aT:ax):Option Bool:=
 (p6 ai.bj.fP aT.bj.fP).bind fun aE=>
 (ze J ai.bj).bind fun aK=>
 (ze J aT.bj).bind fun bs=>
 (p6 aK bs).bind fun bG=>
 (p6 ai.cl aT.cl).bind fun cz=>
 (s5 [aE,bG,cz]).bind fun ck=>
 some (decide (ck>0))
def yE (J:cN)(ai:ax)(aT:ax):Option Int:=
 (zj J.py ai aT).bind fun aE=>
 cond aE (
  some (-1)) (
  (zj J.py aT ai).bind fun aK=>
  cond aK (
   some 1) (
   some 0))
def Fb (J:List ax)(ai:Int)(aT:List ax):Option (List ax):=DL 88 J ai aT
def A9 (J:cN)(ai:ax):Option (Bool×cN):=
 (cu false false (IQ J ai.cl)).bind fun aE=>
 cond (false||(decide (aE≥0))) (
  some (false,J)) (
  (AS J.cg ai (fun iw c8=>yE J iw c8)).bind fun aK=>
  (oK ai).bind fun bs=>
  (Fb J.cg aK.1 [bs]).bind fun bG=>
  some (true,({ J with cg:=bG } :cN)))
def BG (hp:aN Cell)(J:j9)(ai:ax):av (aN Cell):=
 av.bind (av.of J.cg) fun b0=>
 av.bind (av.of (o3 hp b0)) fun br=>
 av.bind (av.of (A9 br.1 ai)) fun aE=>
 av.bind (av.any (Option Nat×Nat)) fun aB=>
 av.bind (av.of (some (dr hp b0 (Cell.su aE.2 aB.1 aB.2)))) fun cP=>
 av.ret cP
def I0 (hp:aN Cell)(y:g6)(J:ax):av (aN Cell):=match y with
 | .nil=>fun _=>False
 | .nm z=>av.of (BB hp z J)
 | .nn z=>Bp hp z J
 | .nq z=>BG hp z J
def wF (hp:aN Cell)(J:Ref)(ai:ax):av (Bool×(aN Cell)):=
 cond J.isNone (
  av.ret (false,hp)) (
  av.bind (av.of J) fun b0=>
  av.bind (av.of (iq hp b0)) fun br=>
  av.bind (av.of br.kI.p) fun cR=>
  av.bind (av.of (lx hp cR)) fun cD=>
  av.bind (av.of (some (dW cD ai.cl))) fun bu=>
  av.bind (av.of J) fun mA=>
  av.bind (av.of (iq hp mA)) fun g3=>
  av.bind (av.of (Fu hp g3.jt ai.bj)) fun aE=>
  cond (aE.2||bu.isSome) (
   av.ret (false,hp)) (
   av.bind (av.of J) fun Ir=>
   av.bind (av.of (iq hp Ir)) fun lk=>
   av.bind (av.of (oK ai)) fun aK=>
   av.bind (av.of lk.kI.p) fun rL=>
   av.bind (av.of (lx hp rL)) fun nC=>
   av.bind (av.of (some (dr hp rL (Cell.lb (gK nC ai.cl aK))))) fun cP=>
   av.bind (av.of (iq cP Ir)) fun mB=>
   av.bind (I0 cP mB.jt ai) fun bs=>
   av.ret (true,bs)))
def rV (hp:aN Cell)(J:Ref)(ai:a8)(aT:Int):av (Int×Int×(aN Cell)):=
 av.bind (av.of (mD hp J ai.cO)) fun aE=>
 cond aE.isNone (
  av.ret (0,6,hp)) (
  av.bind (av.of (yU hp aE ai)) fun aK=>
  cond aK.2 (
   av.ret (0,17,hp)) (
   av.bind (av.of (yV hp aE)) fun bs=>
   av.bind (av.of (BC hp J ai.cO)) fun bG=>
   cond (decide (bs≥bG)) (
    av.ret (0,18,hp)) (
    av.bind (av.of J) fun b0=>
    av.bind (av.of (jR hp b0)) fun br=>
    av.bind (av.of (some ({ bj:=ai,cl:=br.lr,il:=aT:ax }))) fun bu=>
    av.bind (wF hp aE bu) fun cz=>
    av.bind (av.of (jR cz.2 b0)) fun cD=>
    av.bind (av.of (some (dr cz.2 b0 (Cell.pH ({ cD with lr:=bt (cD.lr+1) } :ij))))) fun cP=>
    av.ret (br.lr,0,cP))))
def zq (J:aZ):Option (Vector (List Int) 6):=
 (et (σ:=Int×(List Int)×(Vector (List Int) 6)) (ε:=(Int×Bool×(List Int)×(Vector (List Int) 6))) ei (fun s1=>
  cond (decide (s1.1<(J.fY.length:Int))) (
   (idx J.fY.length s1.1).bind fun aW=>
   (g9 8 s1.2.1 [(aF J.fY aW).bP]).bind fun aE=>
   some (.inl (bt (s1.1+1),aE,dD s1.2.2 0 []))) (
   some (.inr (s1.1,decide (s1.1<(J.fY.length:Int)),s1.2.1,s1.2.2)))) (0,([]:List Int),(default:Vector (List Int) 6))).bind fun aq=>
 (et (σ:=Int×(List Int)×(Vector (List Int) 6)) (ε:=(Int×Bool×(List Int)×(Vector (List Int) 6))) ei (fun s2=>
  cond (decide (s2.1<(J.m3.length:Int))) (
   (idx J.m3.length s2.1).bind fun bI=>
   (g9 8 s2.2.1 [(aF J.m3 bI).bP]).bind fun aK=>
   some (.inl (bt (s2.1+1),aK,dD s2.2.2 1 []))) (
   some (.inr (s2.1,decide (s2.1<(J.m3.length:Int)),s2.2.1,s2.2.2)))) (0,([]:List Int),aq.2.2.2)).bind fun aX=>
 (et (σ:=Int×(List Int)×(Vector (List Int) 6)) (ε:=(Int×Bool×(List Int)×(Vector (List Int) 6))) ei (fun mz=>
  cond (decide (mz.1<(J.nG.length:Int))) (
   (idx J.nG.length mz.1).bind fun cK=>
   (g9 8 mz.2.1 [(aF J.nG cK).bP]).bind fun bs=>
   some (.inl (bt (mz.1+1),bs,dD mz.2.2 2 []))) (
   some (.inr (mz.1,decide (mz.1<(J.nG.length:Int)),mz.2.1,mz.2.2)))) (0,([]:List Int),aX.2.2.2)).bind fun dd=>
 (et (σ:=Int×(List Int)×(Vector (List Int) 6)) (ε:=(Int×Bool×(List Int)×(Vector (List Int) 6))) ei (fun nB=>
  cond (decide (nB.1<(J.dV.length:Int))) (
   (idx J.dV.length nB.1).bind fun fF=>
   (g9 8 nB.2.1 [(aF J.dV fF).bP]).bind fun bG=>
   some (.inl (bt (nB.1+1),bG,dD nB.2.2 3 []))) (
   some (.inr (nB.1,decide (nB.1<(J.dV.length:Int)),nB.2.1,nB.2.2)))) (0,([]:List Int),dd.2.2.2)).bind fun g2=>
 (et (σ:=Int×(List Int)×(Vector (List Int) 6)) (ε:=(Int×Bool×(List Int)×(Vector (List Int) 6))) ei (fun iT=>
  cond (decide (iT.1<(J.bE.length:Int))) (
   (idx J.bE.length iT.1).bind fun iF=>
   (g9 8 iT.2.1 [(aF J.bE iF).bP]).bind fun cz=>
   some (.inl (bt (iT.1+1),cz,dD iT.2.2 4 []))) (
   some (.inr (iT.1,decide (iT.1<(J.bE.length:Int)),iT.2.1,iT.2.2)))) (0,([]:List Int),g2.2.2.2)).bind fun jA=>
 (et (σ:=Int×(List Int)×(Vector (List Int) 6)) (ε:=(Int×Bool×(List Int)×(Vector (List Int) 6))) ei (fun jP=>
  cond (decide (jP.1<(J.kJ.length:Int))) (
   (idx J.kJ.length jP.1).bind fun lJ=>
   (g9 8 jP.2.1 [(aF J.kJ lJ).bP]).bind fun ck=>
   some (.inl (bt (jP.1+1),ck,dD jP.2.2 5 []))) (
   some (.inr (jP.1,decide (jP.1<(J.kJ.length:Int)),jP.2.1,jP.2.2)))) (0,([]:List Int),jA.2.2.2)).bind fun l9=>
 (some ((dD (dD (dD (dD (dD (dD l9.2.2.2 0 aq.2.2.1) 1 aX.2.2.1) 2 dd.2.2.1) 3 g2.2.2.1) 4 jA.2.2.1) 5 l9.2.2.1))).bind fun bu=>
 some bu
def zh (J:List Int)(ai:Int):Option Int:=
 (et (σ:=Int) (ε:=(Int×Bool) ⊕ (Int×Int×Int×Int×Bool×Bool)) ei (fun s1=>
  cond (decide (s1<(J.length:Int))) (
   (idx J.length s1).bind fun aW=>
   cond ((aF J aW)==ai) (
    some (.inr (Sum.inr (s1,s1,aF J aW,s1,decide (s1<(J.length:Int)),(aF J aW)==ai)))) (
    some (.inl (bt (s1+1))))) (
   some (.inr (Sum.inl (s1,decide (s1<(J.length:Int))))))) 0).bind fun aq=>
  Sum.elim (fun aq=>
   some (-1)) (fun aq=>
  some aq.1) aq
def wH (J:aZ)(ai:Int):Option Int:=
 (zq J).bind fun aE=>
 (zh (bH aE 4) ai).bind fun aK=>
 some aK
def wB (J:bZ)(ai:a8):Option Int:=
 (wH J.ou ai.cO).bind fun aE=>
 some aE
def r1 (J:az):Option (Vector Bool 128):=
 (et (σ:=Int×(Vector Bool 128)) (ε:=(Int×Bool×(Vector Bool 128))) ei (fun s1=>
  cond (decide (s1.1<64)) (
   (idx 128 s1.1).bind fun aW=>
   (some (dD s1.2 aW (((J.bX >>> (BitVec.ofInt 64 s1.1).toNat)&&&(1#64))==(1#64)))).bind fun bu=>
   (idx 128 (bt (s1.1+64))).bind fun bI=>
   (some (dD bu bI (((J.dg >>> (BitVec.ofInt 64 s1.1).toNat)&&&(1#64))==(1#64)))).bind fun dF=>
   some (.inl (bt (s1.1+1),dF))) (
   some (.inr (s1.1,decide (s1.1<64),s1.2)))) (0,(default:Vector Bool 128))).bind fun aq=>
 some aq.2.2
def p7 (J:az)(ai:az):Option Int:=
 (r1 J).bind fun aE=>
 (r1 ai).bind fun aK=>
 (et (σ:=Int) (ε:=(Int×Bool) ⊕ (Int×Int×Bool×Bool×Bool)) ei (fun s1=>
  cond (decide (s1≥0)) (
   (idx 128 s1).bind fun aW=>
   (idx 128 s1).bind fun bI=>
   cond ((bH aE aW) !=(bH aK bI)) (
    (idx 128 s1).bind fun cK=>
    cond (bH aK cK) (
     some (.inr (Sum.inr ((-1),s1,decide (s1≥0),(bH aE aW) !=(bH aK bI),bH aK cK)))) (
     some (.inr (Sum.inr (1,s1,decide (s1≥0),(bH aE aW) !=(bH aK bI),bH aK cK))))) (
    some (.inl (bt (s1 - 1))))) (
   some (.inr (Sum.inl (s1,decide (s1≥0)))))) 127).bind fun aq=>
  Sum.elim (fun aq=>
   some 0) (fun aq=>
  some aq.1) aq
def pt (J:Int)(ai:Int):Option Int:=
 cond (decide (J<ai)) (
  some (-1)) (
  cond (decide (J>ai)) (
   some 1) (
   some 0))
def wM (J:bW)(ai:bW):Option Int:=
 cond ((J.fm !=ai.fm)&&ai.fm) (
  some (-1)) (
  cond (J.fm !=ai.fm) (
   some 1) (
   cond (!decide (J.cU=ai.cU)) (
    (p7 J.cU ai.cU).bind fun aE=>
    some aE) (
    cond (!decide (J.gy=ai.gy)) (
     (p7 J.gy ai.gy).bind fun aK=>
     some aK) (
     cond (J.en !=ai.en) (
      (pt J.en ai.en).bind fun bs=>
      some bs) (
      (p7 J.jG ai.jG).bind fun bG=>
      some bG)))))
def uM (J:List bW)(ai:List bW):Option Int:=
 (et (σ:=Int) (ε:=(Int×Bool) ⊕ (Int×Int×Int×Bool×Bool)) ei (fun s1=>
  cond ((decide (s1<(J.length:Int)))&&(decide (s1<(ai.length:Int)))) (
   (idx J.length s1).bind fun aW=>
   (idx ai.length s1).bind fun bI=>
   (wM (aF J aW) (aF ai bI)).bind fun aE=>
   cond (aE !=0) (
    some (.inr (Sum.inr (aE,s1,aE,(decide (s1<(J.length:Int)))&&(decide (s1<(ai.length:Int))),aE !=0)))) (
    some (.inl (bt (s1+1))))) (
   some (.inr (Sum.inl (s1,(decide (s1<(J.length:Int)))&&(decide (s1<(ai.length:Int)))))))) 0).bind fun aq=>
  Sum.elim (fun aq=>
   (pt (J.length:Int) (ai.length:Int)).bind fun aK=>
   some aK) (fun aq=>
  some aq.1) aq
def BS (J:a8)(ai:a8):Option Bool:=
 (cu ((J.cO==ai.cO)&&(J.fP==ai.fP)) true (uM J.bU ai.bU)).bind fun aE=>
 (some (((J.cO==ai.cO)&&(J.fP==ai.fP))&&(aE==0))).bind fun bu=>
 some bu
def BF (J:bZ)(ai:a8):Option (ax×Bool):=
 (et (σ:=Int) (ε:=(Int×Bool) ⊕ (Bool×Int×Bool×Bool×ax)) ei (fun s1=>
  cond (decide (s1<(J.cb.length:Int))) (
   (idx J.cb.length s1).bind fun aW=>
   (BS ((aF J.cb aW).bj) ai).bind fun aE=>
   cond aE (
    some (.inr (Sum.inr (true,s1,decide (s1<(J.cb.length:Int)),aE,(aF J.cb aW))))) (
    some (.inl (bt (s1+1))))) (
   some (.inr (Sum.inl (s1,decide (s1<(J.cb.length:Int))))))) 0).bind fun aq=>
  Sum.elim (fun aq=>
   some ((default:ax),false)) (fun aq=>
  some (aq.2.2.2.2,aq.1)) aq
def rY (J:bZ)(ai:Int):Option (List ax):=
 (et (σ:=Int×(List ax)) (ε:=(Int×Bool×(List ax))) ei (fun s1=>
  cond (decide (s1.1<(J.cb.length:Int))) (
   (idx J.cb.length s1.1).bind fun aW=>
   (cond ((((aF J.cb aW).bj).cO)==ai) (
    (g9 88 s1.2 [(aF J.cb aW)]).bind fun aE=>
    some aE) (
    some s1.2)).bind fun bl=>
   some (.inl (bt (s1.1+1),bl))) (
   some (.inr (s1.1,decide (s1.1<(J.cb.length:Int)),s1.2)))) (0,([]:List ax))).bind fun aq=>
 some aq.2.2
def wJ (J:List az)(ai:List az):Option Int:=
 (et (σ:=Int) (ε:=(Int×Bool) ⊕ (Int×Int×Int×Bool×Bool)) ei (fun s1=>
  cond ((decide (s1<(J.length:Int)))&&(decide (s1<(ai.length:Int)))) (
   (idx J.length s1).bind fun aW=>
   (idx ai.length s1).bind fun bI=>
   (p7 (aF J aW) (aF ai bI)).bind fun aE=>
   cond (aE !=0) (
    some (.inr (Sum.inr (aE,s1,aE,(decide (s1<(J.length:Int)))&&(decide (s1<(ai.length:Int))),aE !=0)))) (
    some (.inl (bt (s1+1))))) (
   some (.inr (Sum.inl (s1,(decide (s1<(J.length:Int)))&&(decide (s1<(ai.length:Int)))))))) 0).bind fun aq=>
  Sum.elim (fun aq=>
   (pt (J.length:Int) (ai.length:Int)).bind fun aK=>
   some aK) (fun aq=>
  some aq.1) aq
def uN (J:a8)(ai:a8):Option Int:=
 (pt J.cO ai.cO).bind fun aE=>
 (pt ai.fP J.fP).bind fun aK=>
 (uM J.bU ai.bU).bind fun bs=>
 (pt J.h7 ai.h7).bind fun bG=>
 (et (σ:=Int) (ε:=(Int×Bool) ⊕ (Int×Int×Int×Bool×Bool)) ei (fun s1=>
  cond (decide (s1<([aE,aK,bs,bG].length:Int))) (
   (idx ([aE,aK,bs,bG].length) s1).bind fun aW=>
   cond ((aF [aE,aK,bs,bG] aW) !=0) (
    some (.inr (Sum.inr (aF [aE,aK,bs,bG] aW,aF [aE,aK,bs,bG] aW,s1,decide (s1<([aE,aK,bs,bG].length:Int)),(aF [aE,aK,bs,bG] aW) !=0)))) (
    some (.inl (bt (s1+1))))) (
   some (.inr (Sum.inl (s1,decide (s1<([aE,aK,bs,bG].length:Int))))))) 0).bind fun aq=>
  Sum.elim (fun aq=>
   (wJ J.hl ai.hl).bind fun cz=>
   some cz) (fun aq=>
  some aq.1) aq
def BI (J:bZ)(ai:ax):Option bZ:=
 (et (σ:=Int) (ε:=(Int×Bool)) ei (fun s1=>
  cond (decide (s1<(J.cb.length:Int))) (
   (idx J.cb.length s1).bind fun aW=>
   (wB J ((aF J.cb aW).bj)).bind fun aE=>
   (wB J ai.bj).bind fun aK=>
   (cu (decide (((decide (aE>aK))=false)∧ (aE==aK)=true)) true (idx J.cb.length s1)).bind fun bI=>
   (cu (decide (((decide (aE>aK))=false)∧ (aE==aK)=true)) true (uN ((aF J.cb bI).bj) ai.bj)).bind fun bs=>
   cond ((decide (aE>aK))||((aE==aK)&&(decide (bs>0)))) (
    some (.inr (s1,decide (s1<(J.cb.length:Int))))) (
    some (.inl (bt (s1+1))))) (
   some (.inr (s1,decide (s1<(J.cb.length:Int)))))) 0).bind fun aq=>
 (q1 J.cb 0 aq.1).bind fun bG=>
 (g9 88 ([]:List ax) bG).bind fun cz=>
 (g9 88 cz [ai]).bind fun ck=>
 (q1 J.cb aq.1 J.cb.length).bind fun cQ=>
 (g9 88 ck cQ).bind fun dO=>
 some ({ J with cb:=dO } :bZ)
def Bo (J:bZ)(ai:a8)(aT:Int):Option (Int×Int×bZ):=
 (wB J ai).bind fun aE=>
 cond (decide (aE<0)) (
  some (0,6,J)) (
  (BF J ai).bind fun aK=>
  cond aK.2 (
   some (0,17,J)) (
   (rY J ai.cO).bind fun bs=>
   (idx J.ou.bE.length aE).bind fun aW=>
   cond (decide ((bs.length:Int)≥ ((aF J.ou.bE aW).hn))) (
    some (0,18,J)) (
    (BI J ({ bj:=ai,cl:=J.h0,il:=aT:ax })).bind fun bG=>
    some (bt ((bt (bG.h0+1)) - 1),0,({ bG with h0:=bt (bG.h0+1) } :bZ)))))
def Ft (hp:aN Cell)(J:Ref)(ai:Vector az 4):Option (Bool×(aN Cell)):=
 (uJ hp J ai).bind fun aE=>
 cond (!aE.2) (
  some (false,hp)) (
  J.bind fun b0=>
  (nK hp b0).bind fun br=>
  br.pC.p.bind fun cR=>
  (mM hp cR).bind fun cD=>
  (some (dr hp cR (Cell.o6 (iP cD ai)))).bind fun cP=>
  some (true,cP))
def Bc (hp:aN Cell)(J:kG)(ai:ax):Option (aN Cell):=
 (uP ai.bj).bind fun aE=>
 (Ft hp J.rm aE).bind fun aK=>
 some aK.2
def yW (hp:aN Cell)(J:Ref):Option Bool:=
 J.bind fun b0=>
 (cZ hp b0).bind fun br=>
 (cu (!br.fu) true J).bind fun cR=>
 (cu (!br.fu) true (cZ hp cR)).bind fun cD=>
 some ((!br.fu)&&(decide (cD.df=(default:Vector Ref 2))))
def yT (hp:aN Cell)(J:Ref)(ai:az)(aT:Int):Option (Bool×(aN Cell)):=
 (wI hp J ai aT).bind fun aE=>
 cond (!aE.2) (
  some (false,hp)) (
  J.bind fun b0=>
  (gr hp b0).bind fun br=>
  (yY J ai aT).bind fun aK=>
  (qS hp aK.1 aK.2.1 aK.2.2 (σ:=(List Int)×(List Ref)) (ε:=Empty) (fun(pN:Int) (s1:(List Int)×(List Ref))=>
   (idx s1.2.length (bt ((s1.2.length:Int) - 1))).bind fun aW=>
   ((aF s1.2 aW)).bind fun cR=>
   (idx 2 pN).bind fun bI=>
   (cZ hp cR).bind fun cD=>
   (g9 8 s1.2 [bH cD.df bI]).bind fun bs=>
   (g9 8 s1.1 [pN]).bind fun bG=>
   some (.inl (bG,bs))) (([]:List Int),[br.ep])).bind fun aq=>
  Sum.elim (fun s1=>
   (idx s1.2.length aT).bind fun cK=>
   ((aF s1.2 cK)).bind fun mA=>
   (cZ hp mA).bind fun g3=>
   (some (dr hp mA (Cell.gM ({ g3 with fu:=false } :ec)))).bind fun cP=>
   (cZ cP mA).bind fun lk=>
   (some (dr cP mA (Cell.gM ({ lk with hY:=0 } :ec)))).bind fun di=>
   (et (σ:=Int×(aN Cell)) (ε:=(Int×Bool×(aN Cell))) ei (fun s2=>
    (cu (decide (s2.1≥0)) true (idx s1.2.length (bt (s2.1+1)))).bind fun fF=>
    (cu (decide (s2.1≥0)) true (yW s2.2 (aF s1.2 fF))).bind fun cz=>
    cond ((decide (s2.1≥0))&&cz) (
     (idx s1.2.length s2.1).bind fun qM=>
     (idx s1.1.length s2.1).bind fun yp=>
     ((aF s1.2 qM)).bind fun rL=>
     (idx 2 (aF s1.1 yp)).bind fun D4=>
     (cZ s2.2 rL).bind fun nC=>
     (some (dr s2.2 rL (Cell.gM ({ nC with df:=dD nC.df D4 (none:Ref) } :ec)))).bind fun hR=>
     some (.inl (bt (s2.1 - 1),hR))) (
     some (.inr (s2.1,(decide (s2.1≥0))&&cz,s2.2)))) (bt (aT - 1),di)).bind fun aX=>
   (gr aX.2.2 b0).bind fun mB=>
   (yW aX.2.2 mB.ep).bind fun ck=>
   (cond ck (
    (some (dr aX.2.2 b0 (Cell.ky ({ mB with ep:=(none:Ref) } :fX)))).bind fun vO=>
    some vO) (
    some aX.2.2)).bind fun bl=>
   some (true,bl)) (fun aB=>
   Empty.elim aB) aq)
def Fl (hp:aN Cell)(J:Ref)(ai:az)(aT:Int)(cG:List dL):Option (List dL):=
 J.bind fun b0=>
 (cZ hp b0).bind fun br=>
 (cond br.fu (
  (g9 32 cG [{ cU:=ai,w0:=aT,bP:=br.hY:dL }]).bind fun aE=>
  some aE) (
  some cG)).bind fun bl=>
 some bl
def Jp (J:BitVec 64):Option az:=
 some ({ (default:az) with bX:=J } :az)
def B4 (J:az)(ai:Int):Option az:=
 cond (decide (ai≤0)) (
  some J) (
  cond (decide (ai≥64)) (
   (some (({ (default:az) with dg:=J.bX <<< (BitVec.ofInt 64 (bt (ai - 64))).toNat } :az))).bind fun bu=>
   some bu) (
   (some ((J.dg <<< (BitVec.ofInt 64 ai).toNat)|||(J.bX >>> (BitVec.ofInt 64 (bt (64 - ai))).toNat))).bind fun dF=>
   (some ({ dg:=dF,bX:=J.bX <<< (BitVec.ofInt 64 ai).toNat:az })).bind fun gm=>
   some gm))
def Jq (J:az)(ai:az):Option az:=
 (some ({ dg:=J.dg|||ai.dg,bX:=J.bX|||ai.bX:az })).bind fun bu=>
 some bu
def wq:Nat→ (aN Cell)→Ref→Ref→az→Int→ (List dL)→Option (List dL)
 | 0=>fun _ _ _ _ _ _=>none
 | n+1=>fun hp J ai aT cG je=>
   cond ai.isNone (
    some je) (
    (Fl hp ai aT cG je).bind fun aE=>
    ai.bind fun b0=>
    (cZ hp b0).bind fun br=>
    (wq n hp J (bH br.df 0) aT (bt (cG+1)) aE).bind fun aK=>
    (Jp (1#64)).bind fun bs=>
    J.bind fun cR=>
    (gr hp cR).bind fun cD=>
    (B4 bs (bt ((bt (cD.fZ - 1)) - cG))).bind fun bG=>
    (Jq aT bG).bind fun cz=>
    (wq n hp J (bH br.df 1) cz (bt (cG+1)) aK).bind fun ck=>
    some ck)
def ID (hp:aN Cell)(J:Ref)(ai:Ref)(aT:az)(cG:Int)(je:List dL):Option (List dL):=wq ei hp J ai aT cG je
def Fc (hp:aN Cell)(J:Ref)(aT:List dL):Option (List dL):=
 (cond J.isSome (
  J.bind fun b0=>
  (gr hp b0).bind fun br=>
  (ID hp J br.ep (default:az) 0 aT).bind fun aE=>
  some aE) (
  some aT)).bind fun bl=>
 some bl
def FO (hp:aN Cell)(J:Ref):Option (List dL):=
 (Fc hp J ([]:List dL)).bind fun aE=>
 some aE
def y6 (hp:aN Cell)(J:Ref):Option Int:=
 (FO hp J).bind fun aE=>
 some (aE.length:Int)
def A6 (hp:aN Cell)(J:hi)(ai:ax):Option (aN Cell):=
 (wy J ai.bj).bind fun aE=>
 J.oS.p.bind fun b0=>
 (kt hp b0).bind fun br=>
 (some ((dW br aE.1).getD default)).bind fun bu=>
 (yT hp bu aE.2.1 aE.2.2).bind fun aK=>
 (kt aK.2 b0).bind fun cD=>
 (some ((dW cD aE.1).getD default)).bind fun dF=>
 (y6 aK.2 dF).bind fun bs=>
 (cond (bs==0) (
  (some (dr aK.2 b0 (Cell.mQ (iP cD aE.1)))).bind fun cP=>
  some cP) (
  some aK.2)).bind fun bl=>
 some bl
def Fi (J:cN)(ai:Int):Option Int:=
 (wo J.cg (fun iw=>wx iw ai)).bind fun aE=>
 some aE
def IC (J:List ax)(ai:Int)(aT:Int):Option (List ax):=DM J ai aT
def A0 (J:cN)(ai:Int):Option (Bool×cN):=
 (Fi J ai).bind fun aE=>
 cond (decide (aE<0)) (
  some (false,J)) (
  (IC J.cg aE (bt (aE+1))).bind fun aK=>
  some (true,({ J with cg:=aK } :cN)))
def Bd (hp:aN Cell)(J:j9)(ai:ax):av (aN Cell):=
 av.bind (av.of J.cg) fun b0=>
 av.bind (av.of (o3 hp b0)) fun br=>
 av.bind (av.of (A0 br.1 ai.cl)) fun aE=>
 av.bind (av.any (Option Nat×Nat)) fun aB=>
 av.bind (av.of (some (dr hp b0 (Cell.su aE.2 aB.1 aB.2)))) fun cP=>
 av.ret cP
def IK (hp:aN Cell)(y:g6)(J:ax):av (aN Cell):=match y with
 | .nil=>fun _=>False
 | .nm z=>av.of (Bc hp z J)
 | .nn z=>av.of (A6 hp z J)
 | .nq z=>Bd hp z J
def Bq (hp:aN Cell)(J:Ref)(ai:a8):av (ax×Bool×(aN Cell)):=
 av.bind (av.of (yU hp J ai)) fun aE=>
 av.bind (cond aE.2 (
   av.bind (av.of J) fun b0=>
   av.bind (av.of (iq hp b0)) fun br=>
   av.bind (IK hp br.jt aE.1) fun aK=>
   av.bind (av.of (iq aK b0)) fun cD=>
   av.bind (av.of cD.kI.p) fun cR=>
   av.bind (av.of (lx aK cR)) fun g3=>
   av.bind (av.of (some (dr aK cR (Cell.lb (iP g3 aE.1.cl))))) fun cP=>
   av.ret cP) (
   av.ret hp)) fun bl=>
 av.ret (aE.1,aE.2,bl)
def sW (hp:aN Cell)(J:Ref)(ai:a8):av (ax×Int×(aN Cell)):=
 av.bind (av.of (mD hp J ai.cO)) fun aE=>
 cond aE.isNone (
  av.ret ((default:ax),6,hp)) (
  av.bind (Bq hp aE ai) fun aK=>
  cond (!aK.2.1) (
   av.ret ((default:ax),16,aK.2.2)) (
   av.ret (aK.1,0,aK.2.2)))
def A7 (hp:aN Cell)(J:Ref)(ai:Int):Option (aN Cell):=
 (cond J.isSome (
  J.bind fun b0=>
  (jR hp b0).bind fun br=>
  (some (dr hp b0 (Cell.pH ({ br with lr:=max 1 ai } :ij)))).bind fun cP=>
  some cP) (
  some hp)).bind fun bl=>
 some bl
def yL (hp:aN Cell)(J:Ref)(ai:a8):av (ax×Int×(aN Cell)):=
 av.bind (sW hp J ai) fun aE=>
 cond (aE.2.1 !=0) (
  av.ret ((default:ax),aE.2.1,aE.2.2)) (
  av.bind (av.of J) fun b0=>
  av.bind (av.of (jR aE.2.2 b0)) fun br=>
  av.bind (av.of br.oL.p) fun cR=>
  av.bind (av.of (ni aE.2.2 cR)) fun cD=>
  av.bind (av.of (some ((dW cD ai.cO).getD default))) fun bu=>
  av.bind (av.of (some ({ bj:=ai,cl:=aE.1.cl,il:=aE.1.il:ax }))) fun dF=>
  av.bind (wF aE.2.2 bu dF) fun aK=>
  av.ret (aE.1,0,aK.2))
def Bg (hp:aN Cell)(J:Ref)(ai:ax):av (Bool×(aN Cell)):=
 av.bind (av.of (mD hp J ai.bj.cO)) fun aK=>
 av.bind (wF hp aK ai) fun bs=>
 av.ret (bs.1,bs.2)
def wC (J:BitVec 64):Option Int:=
 (cond (decide (J≥ (4294967296#64))) (
  some (J >>> (32#64).toNat,32)) (
  some (J,0))).bind fun bl=>
 (cond (decide (bl.1≥ (65536#64))) (
  some (bl.1 >>> (16#64).toNat,bt (bl.2+16))) (
  some (bl.1,bl.2))).bind fun cF=>
 (cond (decide (cF.1≥ (256#64))) (
  some (cF.1 >>> (8#64).toNat,bt (cF.2+8))) (
  some (cF.1,cF.2))).bind fun fg=>
 (DN (ByteArray.mk (List.toArray (List.append (List.append [0,1,2,2,3,3,3,3,4,4,4,4,4,4,4,4,5,5,5,5,5,5,5,5,5,5,5,5,5,5,5,5,6,6,6,6,6,6,6,6,6,6,6,6,6,6,6,6,6,6,6,6,6,6,6,6,6,6,6,6,6,6,6,6] [7,7,7,7,7,7,7,7,7,7,7,7,7,7,7,7,7,7,7,7,7,7,7,7,7,7,7,7,7,7,7,7,7,7,7,7,7,7,7,7,7,7,7,7,7,7,7,7,7,7,7,7,7,7,7,7,7,7,7,7,7,7,7,7]) (List.append [8,8,8,8,8,8,8,8,8,8,8,8,8,8,8,8,8,8,8,8,8,8,8,8,8,8,8,8,8,8,8,8,8,8,8,8,8,8,8,8,8,8,8,8,8,8,8,8,8,8,8,8,8,8,8,8,8,8,8,8,8,8,8,8] [8,8,8,8,8,8,8,8,8,8,8,8,8,8,8,8,8,8,8,8,8,8,8,8,8,8,8,8,8,8,8,8,8,8,8,8,8,8,8,8,8,8,8,8,8,8,8,8,8,8,8,8,8,8,8,8,8,8,8,8,8,8,8,8])))) ((fg.1.setWidth 8).toNat:Int)).bind fun aE=>
 some (bt (fg.2+(aE.toNat:Int)))
def BQ (J:BitVec 64):Option Int:=
 (wC J).bind fun aE=>
 some aE
def AR (J:List ax)(ai:Int)(aT:Int)(cG:ax→ax→Option Int):Option (List ax):=
 (et (σ:=Int×(List ax)) (ε:=(Int×Bool×(List ax))) ei (fun s1=>
  cond (decide (s1.1<aT)) (
   (et (σ:=Int×(List ax)) (ε:=(Int×Bool×(List ax))) ei (fun s2=>
    (cu (decide (s2.1>ai)) true (idx s2.2.length s2.1)).bind fun aW=>
    (cu (decide (s2.1>ai)) true (idx s2.2.length (bt (s2.1 - 1)))).bind fun bI=>
    (cu (decide (s2.1>ai)) true (cG (aF s2.2 aW) (aF s2.2 bI))).bind fun aE=>
    cond ((decide (s2.1>ai))&&(decide (aE<0))) (
     (idx s2.2.length (bt (s2.1 - 1))).bind fun cK=>
     (idx s2.2.length s2.1).bind fun fF=>
     (idx s2.2.length s2.1).bind fun iF=>
     (idx ((eV s2.2 iF (aF s2.2 cK)).length) (bt (s2.1 - 1))).bind fun lJ=>
     some (.inl (bt (s2.1 - 1),eV (eV s2.2 iF (aF s2.2 cK)) lJ (aF s2.2 fF)))) (
     some (.inr (s2.1,(decide (s2.1>ai))&&(decide (aE<0)),s2.2)))) (s1.1,s1.2)).bind fun aX=>
   some (.inl (bt (s1.1+1),aX.2.2))) (
   some (.inr (s1.1,decide (s1.1<aT),s1.2)))) (bt (ai+1),J)).bind fun aq=>
 some aq.2.2
def Fa (J:List ax)(ai:Int)(aT:Int)(cG:Int)(uw:ax→ax→Option Int):Option (List ax):=
 (et (σ:=Unit) (ε:=(Int×Bool×(List ax))) ei (fun s1=>
  cond (decide ((bt (aT - ai))≤12)) (
   (sv J.length (AR J ai aT uw)).bind fun aE=>
   some (.inr (bt (aT - ai),decide ((bt (aT - ai))≤12),aE))) (
   none)) ()).bind fun aq=>
 some aq.2.2
def AT (J:List ax)(ai:ax→ax→Option Int):Option (List ax):=
 (BQ (BitVec.ofInt 64 (J.length:Int))).bind fun aE=>
 (sv J.length (Fa J 0 (J.length:Int) aE ai)).bind fun aK=>
 some aK
def AV (J:List bW)(ai:List bW)(aT:bW→bW→Option Int):Option Int:=
 (et (σ:=Int) (ε:=(Int×Bool) ⊕ (Int×Int×Int×Bool×Bool)) ei (fun s1=>
  cond (decide (s1<(J.length:Int))) (
   (idx J.length s1).bind fun aW=>
   cond (decide (s1≥ (ai.length:Int))) (
    some (.inr (Sum.inr (1,s1,s1,decide (s1<(J.length:Int)),decide (s1≥ (ai.length:Int)))))) (
    (idx ai.length s1).bind fun bI=>
    (aT (aF J aW) (aF ai bI)).bind fun aE=>
    cond (aE !=0) (
     some (.inr (Sum.inr (aE,s1,s1,decide (s1<(J.length:Int)),decide (s1≥ (ai.length:Int)))))) (
     some (.inl (bt (s1+1)))))) (
   some (.inr (Sum.inl (s1,decide (s1<(J.length:Int))))))) 0).bind fun aq=>
  Sum.elim (fun aq=>
   cond (decide ((J.length:Int)<(ai.length:Int))) (
    some (-1)) (
    some 0)) (fun aq=>
  some aq.1) aq
def AW (J:List az)(ai:List az)(aT:az→az→Option Int):Option Int:=
 (et (σ:=Int) (ε:=(Int×Bool) ⊕ (Int×Int×Int×Bool×Bool)) ei (fun s1=>
  cond (decide (s1<(J.length:Int))) (
   (idx J.length s1).bind fun aW=>
   cond (decide (s1≥ (ai.length:Int))) (
    some (.inr (Sum.inr (1,s1,s1,decide (s1<(J.length:Int)),decide (s1≥ (ai.length:Int)))))) (
    (idx ai.length s1).bind fun bI=>
    (aT (aF J aW) (aF ai bI)).bind fun aE=>
    cond (aE !=0) (
     some (.inr (Sum.inr (aE,s1,s1,decide (s1<(J.length:Int)),decide (s1≥ (ai.length:Int)))))) (
     some (.inl (bt (s1+1)))))) (
   some (.inr (Sum.inl (s1,decide (s1<(J.length:Int))))))) 0).bind fun aq=>
  Sum.elim (fun aq=>
   cond (decide ((J.length:Int)<(ai.length:Int))) (
    some (-1)) (
    some 0)) (fun aq=>
  some aq.1) aq
def y4 (J:bW):Option Int:=
 cond J.fm (
  some 1) (
  some 0)
def p8 (J:az)(ai:az):Option Int:=
 cond (decide (J=ai)) (
  some 0) (
  (some ((decide (J.dg<ai.dg))||((J.dg==ai.dg)&&(decide (J.bX<ai.bX))))).bind fun bu=>
  cond bu (
   some (-1)) (
   some 1))
def Bn (J:bW)(ai:bW):Option Int:=
 cond (decide (J=ai)) (
  some 0) (
  (y4 J).bind fun aE=>
  (y4 ai).bind fun aK=>
  (p6 aE aK).bind fun bs=>
  (p8 J.cU ai.cU).bind fun bG=>
  (p8 J.gy ai.gy).bind fun cz=>
  (p6 J.en ai.en).bind fun ck=>
  (p8 J.jG ai.jG).bind fun cQ=>
  (s5 [bs,bG,cz,ck,cQ]).bind fun dO=>
  some dO)
def BR (J:a8)(ai:a8):Option Int:=
 (p6 J.cO ai.cO).bind fun aE=>
 (p6 ai.fP J.fP).bind fun aK=>
 (AV J.bU ai.bU Bn).bind fun bs=>
 (p6 J.h7 ai.h7).bind fun bG=>
 (AW J.hl ai.hl p8).bind fun cz=>
 (s5 [aE,aK,bs,bG,cz]).bind fun ck=>
 some ck
def Fo (J:ax)(ai:ax):Option Int:=
 (BR J.bj ai.bj).bind fun aE=>
 some aE
def wE (hp:aN Cell)(J:Ref):av ((List ax)×(aN Cell)):=
 cond J.isNone (
  av.ret (([]:List ax),hp)) (
  av.bind (av.of J) fun b0=>
  av.bind (av.of (iq hp b0)) fun br=>
  av.bind (av.of br.kI.p) fun cR=>
  av.bind (av.of (lx hp cR)) fun cD=>
  av.bind (oi (σ:=(List Nat)×(List ax)) (ε:=(Bool×(List Nat)×(List ax))) ei (fun s1=>
    av.bind (av.next cD.length s1.1) fun rJ=>
    cond rJ.isSome (
     av.bind (av.of rJ) fun aW=>
     av.bind (av.of (oK ((aF cD aW).2))) fun aE=>
     av.bind (av.of (g9 88 s1.2 [aE])) fun aK=>
     av.ret (.inl ((s1.1++rJ.toList),aK))) (
     av.ret (.inr (rJ.isSome,(s1.1++rJ.toList),s1.2)))) (([]:List Nat),([]:List ax))) fun aq=>
  av.bind (av.of (sv aq.2.2.length (AT aq.2.2 Fo))) fun bs=>
  av.ret (bs,hp))
def s0 (hp:aN Cell)(J:Ref)(ai:Int):av ((List ax)×(aN Cell)):=
 av.bind (av.of (mD hp J ai)) fun aE=>
 av.bind (wE hp aE) fun aK=>
 av.ret (aK.1,aK.2)
def FT (J:a8)(ai:a8):Option Bool:=
 (uN J ai).bind fun aE=>
 some (aE==0)
def wO (J:ax)(ai:ax):Option Bool:=
 (FT J.bj ai.bj).bind fun aE=>
 some ((aE&&(J.cl==ai.cl))&&(J.il==ai.il))
def uO (J:List ax)(ai:List ax):Option Bool:=
 cond ((J.length:Int) !=(ai.length:Int)) (
  some false) (
  (et (σ:=Int) (ε:=(Int×Bool) ⊕ (Int×Int×Bool×Bool)) ei (fun s1=>
   cond (decide (s1<(J.length:Int))) (
    (idx J.length s1).bind fun aW=>
    (idx ai.length s1).bind fun bI=>
    (wO (aF J aW) (aF ai bI)).bind fun aE=>
    cond (!aE) (
     some (.inr (Sum.inr (s1,s1,decide (s1<(J.length:Int)),!aE)))) (
     some (.inl (bt (s1+1))))) (
    some (.inr (Sum.inl (s1,decide (s1<(J.length:Int))))))) 0).bind fun aq=>
   Sum.elim (fun aq=>
    some true) (fun aq=>
   some false) aq)
def uL (hp:aN Cell)(J:Ref)(ai:Int):Option Int:=
 (mD hp J ai).bind fun aE=>
 (yV hp aE).bind fun aK=>
 some aK
def BK (hp:aN Cell)(J:Ref):av ((List ax)×(aN Cell)):=
 cond J.isNone (
  av.ret (([]:List ax),hp)) (
  av.bind (av.of J) fun b0=>
  av.bind (av.of (jR hp b0)) fun br=>
  av.bind (oi (σ:=Int×(List ax)×(aN Cell)) (ε:=(Int×Bool×(List ax)×(aN Cell))) ei (fun s1=>
    cond (decide (s1.1<(br.gq.bE.length:Int))) (
     av.bind (av.of (idx br.gq.bE.length s1.1)) fun aW=>
     av.bind (s0 s1.2.2 J ((aF br.gq.bE aW).bP)) fun aE=>
     av.bind (av.of (g9 88 s1.2.1 aE.1)) fun aK=>
     av.ret (.inl (bt (s1.1+1),aK,aE.2))) (
     av.ret (.inr (s1.1,decide (s1.1<(br.gq.bE.length:Int)),s1.2.1,s1.2.2)))) (0,([]:List ax),hp)) fun aq=>
  av.ret (aq.2.2.1,aq.2.2.2))
def BE (hp:aN Cell)(J:Ref):Option Int:=
 cond J.isNone (
  some 0) (
  J.bind fun b0=>
  (jR hp b0).bind fun br=>
  some br.lr)
def zn (hp:aN Cell)(J:Ref)(ai:bZ):av (Bool×(aN Cell)):=
 av.bind (oi (σ:=Int×(aN Cell)) (ε:=(Int×Bool×(aN Cell)) ⊕ (Int×Bool×Bool×(aN Cell))) ei (fun s1=>
   cond (decide (s1.1≤5)) (
    av.bind (s0 s1.2 J s1.1) fun aE=>
    av.bind (av.of (rY ai s1.1)) fun aK=>
    av.bind (av.of (uO aE.1 aK)) fun bs=>
    av.bind (av.of (cu (!bs) false (uL aE.2 J s1.1))) fun bG=>
    av.bind (av.of (cu (!bs) false (rY ai s1.1))) fun cz=>
    cond ((!bs)||(bG !=(cz.length:Int))) (
     av.ret (.inr (Sum.inr (s1.1,decide (s1.1≤5),(!bs)||(bG !=(cz.length:Int)),aE.2)))) (
     av.ret (.inl (bt (s1.1+1),aE.2)))) (
    av.ret (.inr (Sum.inl (s1.1,decide (s1.1≤5),s1.2))))) (0,hp)) fun aq=>
   Sum.elim (fun aq=>
    av.bind (BK aq.2.2 J) fun ck=>
    av.bind (av.of (uO ck.1 ai.cb)) fun cQ=>
    av.bind (av.of (cu cQ true (BE ck.2 J))) fun dO=>
    av.ret (cQ&&(dO==ai.h0),ck.2)) (fun aq=>
   av.ret (false,aq.2.2.2)) aq
def yO (J:bq):Option ((Vector az 4)×bq):=
 (et (σ:=Int×(Vector az 4)×bq) (ε:=(Int×Bool×(Vector az 4)×bq)) ei (fun s1=>
  cond (decide (s1.1<4)) (
   (gi s1.2.2 256).bind fun aE=>
   (some (({ (default:az) with bX:=BitVec.ofInt 64 aE.1 } :az))).bind fun bu=>
   (idx 4 s1.1).bind fun aW=>
   (gi aE.2 4).bind fun aK=>
   (cond (aK.1==1) (
    (idx 4 s1.1).bind fun bI=>
    (gi aK.2 256).bind fun bs=>
    (some ((((bH (dD s1.2.1 aW bu) bI).bX) <<< (24#64).toNat)|||(BitVec.ofInt 64 bs.1))).bind fun dF=>
    (idx 4 s1.1).bind fun cK=>
    (some (dD (dD s1.2.1 aW bu) cK ({ (bH (dD s1.2.1 aW bu) cK) with bX:=dF } :az))).bind fun gm=>
    some (bs.2,gm)) (
    some (aK.2,dD s1.2.1 aW bu))).bind fun bl=>
   some (.inl (bt (s1.1+1),bl.2,bl.1))) (
   some (.inr (s1.1,decide (s1.1<4),s1.2.1,s1.2.2)))) (0,(default:Vector az 4),J)).bind fun aq=>
 some (aq.2.2.1,aq.2.2.2)
def zb (J:a8)(ai:Vector az 4):Option (Vector az 4):=
 (et (σ:=Int×(Vector az 4)) (ε:=(Int×Bool×(Vector az 4))) ei (fun s1=>
  cond (decide (s1.1<(J.bU.length:Int))) (
   (idx J.bU.length s1.1).bind fun aW=>
   cond ((decide (s1.1≥4))||(!((aF J.bU aW).fm))) (
    some (.inl (bt (s1.1+1),s1.2))) (
    (cond (!decide ((aF J.bU aW).gy=(default:az))) (
     (idx 4 s1.1).bind fun bI=>
     (some ((((bH s1.2 bI).bX)&&& ~~~(((aF J.bU aW).gy).bX))|||(((aF J.bU aW).cU).bX))).bind fun bu=>
     (idx 4 s1.1).bind fun cK=>
     (some ((((bH s1.2 cK).dg)&&& ~~~(((aF J.bU aW).gy).dg))|||(((aF J.bU aW).cU).dg))).bind fun dF=>
     (idx 4 s1.1).bind fun fF=>
     (idx 4 s1.1).bind fun iF=>
     (some (dD (dD s1.2 fF ({ (bH s1.2 fF) with bX:=bu } :az)) iF ({ (bH (dD s1.2 fF ({ (bH s1.2 fF) with bX:=bu } :az)) iF) with dg:=dF } :az))).bind fun gm=>
     some gm) (
     (some ((decide (((aF J.bU aW).en)>0))&&(decide (((aF J.bU aW).en)≤32)))).bind fun jd=>
     (cond jd (
      (idx 4 s1.1).bind fun lJ=>
      (some ((1#64) <<< (BitVec.ofInt 64 (bt (32 - ((aF J.bU aW).en)))).toNat)).bind fun hS=>
      (some ((((aF J.bU aW).cU).bX)|||(((bH s1.2 lJ).bX)&&&(hS - (1#64))))).bind fun kk=>
      (idx 4 s1.1).bind fun Io=>
      (some (dD s1.2 Io ({ (default:az) with bX:=kk } :az))).bind fun kl=>
      some kl) (
      (idx 4 s1.1).bind fun qM=>
      some (dD s1.2 qM ((aF J.bU aW).cU)))).bind fun cF=>
     some cF)).bind fun bl=>
    some (.inl (bt (s1.1+1),bl)))) (
   some (.inr (s1.1,decide (s1.1<(J.bU.length:Int)),s1.2)))) (0,ai)).bind fun aq=>
 some aq.2.2
def Ba (hp:aN Cell)(J:kG)(ai:Vector az 4):Option (Int×Bool):=
 (uJ hp J.rm ai).bind fun aE=>
 some (aE.1,aE.2)
def FZ (J:az):Option Int:=
 cond (J.dg !=(0#64)) (
  (wC J.dg).bind fun aE=>
  some (bt (64+aE))) (
  (wC J.bX).bind fun aK=>
  some aK)
def B3 (J:az)(ai:Int):Option Bool:=
 (FZ J).bind fun aE=>
 some (decide (aE≤ai))
def wv (hp:aN Cell)(J:Ref)(ai:Int)(aT:Int)(cG:Int)(uw:Bool):Option (Int×Int×Bool):=
 (cu J.isSome true J).bind fun b0=>
 (cu J.isSome true (cZ hp b0)).bind fun br=>
 (cond (J.isSome&&br.fu) (
  J.bind fun cR=>
  (cZ hp cR).bind fun cD=>
  some (ai,cD.hY,true)) (
  some (aT,cG,uw))).bind fun bl=>
 some (bl.1,bl.2.1,bl.2.2)
def Bz (hp:aN Cell)(J:Ref)(ai:az):Option (Int×Int×Bool):=
 (cu J.isNone false J).bind fun b0=>
 (cu J.isNone false (gr hp b0)).bind fun br=>
 (cu J.isNone false (B3 ai br.fZ)).bind fun aE=>
 cond (J.isNone||(!aE)) (
  some (0,0,false)) (
  J.bind fun cR=>
  (gr hp cR).bind fun cD=>
  (wv hp cD.ep 0 0 0 false).bind fun aK=>
  (yY J ai cD.fZ).bind fun bs=>
  (qS hp bs.1 bs.2.1 bs.2.2 (σ:=Ref×Int×Int×Int×Bool) (ε:=Ref×Int×Int×Int×Bool) (fun(pN:Int) (s1:Ref×Int×Int×Int×Bool)=>
   cond s1.1.isNone (
    some (.inr (s1.1,s1.2.1,s1.2.2.1,s1.2.2.2.1,s1.2.2.2.2))) (
    s1.1.bind fun mA=>
    (idx 2 pN).bind fun aW=>
    (cZ hp mA).bind fun g3=>
    (wv hp (bH g3.df aW) (bt (s1.2.1+1)) s1.2.2.1 s1.2.2.2.1 s1.2.2.2.2).bind fun bG=>
    some (.inl (bH g3.df aW,bt (s1.2.1+1),bG.1,bG.2.1,bG.2.2)))) (cD.ep,0,aK.1,aK.2.1,aK.2.2)).bind fun aq=>
  Sum.elim (fun s1=>
   some (s1.2.2.1,s1.2.2.2.1,s1.2.2.2.2)) (fun dt=>
   some (dt.2.2.1,dt.2.2.2.1,dt.2.2.2.2)) aq)
def A5 (hp:aN Cell)(J:hi)(ai:Vector az 4):Option (Int×Bool):=
 (yC J ai).bind fun aE=>
 J.oS.p.bind fun b0=>
 (kt hp b0).bind fun br=>
 (some ((dW br aE.1).getD default)).bind fun bu=>
 (wN J.fZ).bind fun aK=>
 (uQ aE.2 aK).bind fun bs=>
 (Bz hp bu bs).bind fun bG=>
 some (bG.2.1,bG.2.2)
def IE (ai:Vector az 4):Option (Vector az 4):=
 some ai
def BX (J:aZ)(ai:c6):Option Int:=
 (y0 J ai.hB).bind fun aE=>
 cond (decide (aE<0)) (
  some 0) (
  (idx J.fY.length aE).bind fun aW=>
  some ((aF J.fY aW).fQ))
def BZ (J:bW)(ai:Int)(aT:Int)(cG:az):Option Bool:=
 cond (!J.fm) (
  some ((decide (ai≥1))&&(decide (ai≤4)))) (
  cond (ai==1) (
   some (decide (cG=J.cU))) (
   cond (ai==2) (
    (y2 aT J.en).bind fun aE=>
    (uQ cG aE).bind fun aK=>
    (uQ J.cU aE).bind fun bs=>
    some (decide (aK=bs))) (
    cond (ai==3) (
     (uQ cG J.gy).bind fun bG=>
     some (decide (bG=J.cU))) (
     cond (ai==4) (
      (p8 J.cU cG).bind fun cz=>
      (cu (decide (cz≤0)) true (p8 cG J.jG)).bind fun ck=>
      some ((decide (cz≤0))&&(decide (ck≤0)))) (
      some false)))))
def y7 (J:aZ)(ai:a8)(aT:Vector az 4):Option Bool:=
 (zi J ai).bind fun aE=>
 cond (!aE.2) (
  some false) (
  (et (σ:=Int) (ε:=(Int×Bool) ⊕ (Int×Int×Bool×Bool)) ei (fun s1=>
   cond (decide (s1<(aE.1.cn.length:Int))) (
    (idx aE.1.cn.length s1).bind fun aW=>
    (cu ((decide (s1≥ (ai.bU.length:Int)))||(decide (s1≥4))) false (idx ai.bU.length s1)).bind fun bI=>
    (cu ((decide (s1≥ (ai.bU.length:Int)))||(decide (s1≥4))) false (BX J (aF aE.1.cn aW))).bind fun aK=>
    (cu ((decide (s1≥ (ai.bU.length:Int)))||(decide (s1≥4))) false (idx 4 s1)).bind fun cK=>
    (cu ((decide (s1≥ (ai.bU.length:Int)))||(decide (s1≥4))) false (BZ (aF ai.bU bI) ((aF aE.1.cn aW).dp) aK (bH aT cK))).bind fun bs=>
    (some (((decide (s1≥ (ai.bU.length:Int)))||(decide (s1≥4)))||(!bs))).bind fun bu=>
    cond bu (
     some (.inr (Sum.inr (s1,s1,decide (s1<(aE.1.cn.length:Int)),bu)))) (
     some (.inl (bt (s1+1))))) (
    some (.inr (Sum.inl (s1,decide (s1<(aE.1.cn.length:Int))))))) 0).bind fun aq=>
   Sum.elim (fun aq=>
    some true) (fun aq=>
   some false) aq)
def AU {σ ε:Type}(ai:cN)(aT:Vector az 4)(step:ax→σ→Option (σ ⊕ ε))(cE:σ):Option (σ ⊕ ε):=
 (et (σ:=Int×(σ)) (ε:=(Int×Bool×(σ)) ⊕ (Int×Bool×Bool×(ε))) ei (fun s1=>
  cond (decide (s1.1<(ai.cg.length:Int))) (
   (idx ai.cg.length s1.1).bind fun aW=>
   (y7 ai.py ((aF ai.cg aW).bj) aT).bind fun aE=>
   cond aE (
    (step (aF ai.cg aW) s1.2).bind fun aK=>
    Sum.elim (fun s2=>
     some (.inl (bt (s1.1+1),s2))) (fun dt=>
     some (.inr (Sum.inr (s1.1,decide (s1.1<(ai.cg.length:Int)),aE&&(!false),dt)))) aK) (
    some (.inl (bt (s1.1+1),s1.2)))) (
   some (.inr (Sum.inl (s1.1,decide (s1.1<(ai.cg.length:Int)),s1.2))))) (0,cE)).bind fun aq=>
  Sum.elim (fun aq=>
   some (.inl aq.2.2)) (fun aq=>
  some (.inr aq.2.2.2)) aq
def yA (J:cN)(ai:Vector az 4):Option (ax×Bool):=
 (IE ai).bind fun aE=>
 (AU J aE (σ:=Unit) (ε:=Bool×ax) (fun(pN:ax) (s1:Unit)=>
  (oK pN).bind fun aK=>
  some (.inr (true,aK))) ()).bind fun aq=>
 Sum.elim (fun s1=>
  some ((default:ax),false)) (fun aB=>
  some (aB.2,aB.1)) aq
def Bf (hp:aN Cell)(J:j9)(ai:Vector az 4):Option (Int×Bool):=
 J.cg.bind fun b0=>
 (o3 hp b0).bind fun br=>
 (yA br.1 ai).bind fun aE=>
 some (aE.1.cl,aE.2)
def IL (hp:aN Cell)(y:g6)(J:Vector az 4):Option (Int×Bool):=match y with
 | .nil=>none
 | .nm z=>Ba hp z J
 | .nn z=>A5 hp z J
 | .nq z=>Bf hp z J
def Br (hp:aN Cell)(J:Ref)(ai:Vector az 4):Option (ax×Bool):=
 cond J.isNone (
  some ((default:ax),false)) (
  (et (σ:=Int×(Vector az 4)) (ε:=(Int×Bool×(Vector az 4))) ei (fun s1=>
   cond (decide (s1.1<4)) (
    J.bind fun b0=>
    (iq hp b0).bind fun br=>
    (cond (decide (s1.1≥br.qg)) (
     (idx 4 s1.1).bind fun aW=>
     some (dD s1.2 aW (default:az))) (
     some s1.2)).bind fun bl=>
    some (.inl (bt (s1.1+1),bl))) (
    some (.inr (s1.1,decide (s1.1<4),s1.2)))) (0,ai)).bind fun aq=>
  J.bind fun cR=>
  (iq hp cR).bind fun cD=>
  (IL hp cD.jt aq.2.2).bind fun aE=>
  (yR hp J aE.1 aE.2).bind fun aK=>
  some (aK.1,aK.2))
def yK (hp:aN Cell)(J:Ref)(ai:Int)(aT:Vector az 4):Option (ax×Bool):=
 (mD hp J ai).bind fun aE=>
 (Br hp aE aT).bind fun aK=>
 some (aK.1,aK.2)
def BP (J:aZ)(ai:Int):Option Int:=
 (zq J).bind fun aE=>
 (zh (bH aE 0) ai).bind fun aK=>
 some aK
def FR (J:aZ)(ai:Int):Option Int:=
 (BP J ai).bind fun aE=>
 (idx J.fY.length aE).bind fun aW=>
 some ((aF J.fY aW).fQ)
def BT (J:aZ)(ai:b2)(aT:Int):Option Int:=
 (idx ai.cn.length aT).bind fun aW=>
 (FR J ((aF ai.cn aW).hB)).bind fun aE=>
 some aE
def B2 (J:Vector Bool 128):Option az:=
 (et (σ:=Int×az) (ε:=(Int×Bool×az)) ei (fun s1=>
  cond (decide (s1.1<64)) (
   (idx 128 s1.1).bind fun aW=>
   (cond (bH J aW) (
    (some (({ s1.2 with bX:=s1.2.bX|||((1#64) <<< (BitVec.ofInt 64 s1.1).toNat) } :az))).bind fun dF=>
    some dF) (
    some s1.2)).bind fun bl=>
   (idx 128 (bt (s1.1+64))).bind fun bI=>
   (cond (bH J bI) (
    (some (({ bl with dg:=bl.dg|||((1#64) <<< (BitVec.ofInt 64 s1.1).toNat) } :az))).bind fun bu=>
    some bu) (
    some bl)).bind fun cF=>
   some (.inl (bt (s1.1+1),cF))) (
   some (.inr (s1.1,decide (s1.1<64),s1.2)))) (0,(default:az))).bind fun aq=>
 some aq.2.2
def B9 (J:az)(ai:az):Option az:=
 (r1 J).bind fun aE=>
 (r1 ai).bind fun aK=>
 (et (σ:=Int×(Vector Bool 128)) (ε:=(Int×Bool×(Vector Bool 128))) ei (fun s1=>
  cond (decide (s1.1<128)) (
   (idx 128 s1.1).bind fun aW=>
   (cu (bH s1.2 aW) true (idx 128 s1.1)).bind fun bI=>
   (idx 128 s1.1).bind fun cK=>
   some (.inl (bt (s1.1+1),dD s1.2 cK ((bH s1.2 aW)&&(bH aK bI))))) (
   some (.inr (s1.1,decide (s1.1<128),s1.2)))) (0,aE)).bind fun aq=>
 (B2 aq.2.2).bind fun bs=>
 some bs
def BY (J:bW)(ai:Int)(aT:Int)(cG:az):Option Bool:=
 cond (!J.fm) (
  some ((decide (ai≥1))&&(decide (ai≤4)))) (
  cond (ai==1) (
   some (decide (cG=J.cU))) (
   cond (ai==2) (
    (r1 cG).bind fun aE=>
    (r1 J.cU).bind fun aK=>
    (et (σ:=Int) (ε:=(Int×Bool) ⊕ (Int×Bool×Bool)) ei (fun s1=>
     cond (decide (s1<aT)) (
      (cu ((decide (s1≥0))&&(decide (s1<128))) true (idx 128 s1)).bind fun aW=>
      (cu ((decide (s1≥0))&&(decide (s1<128))) true (idx 128 s1)).bind fun bI=>
      (some (((decide (s1≥0))&&(decide (s1<128)))&&((bH aE aW) !=(bH aK bI)))).bind fun bu=>
      cond bu (
       some (.inr (Sum.inr (s1,decide (s1<aT),bu)))) (
       some (.inl (bt (s1+1))))) (
      some (.inr (Sum.inl (s1,decide (s1<aT)))))) (bt (aT - J.en))).bind fun aq=>
     Sum.elim (fun aq=>
      some true) (fun aq=>
     some false) aq) (
    cond (ai==3) (
     (B9 cG J.gy).bind fun bs=>
     some (decide (bs=J.cU))) (
     cond (ai==4) (
      (p7 J.cU cG).bind fun bG=>
      (cu (decide (bG≤0)) true (p7 cG J.jG)).bind fun cz=>
      some ((decide (bG≤0))&&(decide (cz≤0)))) (
      some false)))))
def BU (J:aZ)(ai:a8)(aT:Vector az 4):Option Bool:=
 (wH J ai.cO).bind fun aE=>
 (idx J.bE.length aE).bind fun aW=>
 (et (σ:=Int) (ε:=(Int×Bool) ⊕ (Int×Int×Bool×Bool)) ei (fun s1=>
  cond (decide (s1<(((aF J.bE aW).cn).length:Int))) (
   (idx (((aF J.bE aW).cn).length) s1).bind fun bI=>
   (idx ai.bU.length s1).bind fun cK=>
   (BT J (aF J.bE aW) s1).bind fun aK=>
   (idx 4 s1).bind fun fF=>
   (BY (aF ai.bU cK) ((aF ((aF J.bE aW).cn) bI).dp) aK (bH aT fF)).bind fun bs=>
   cond (!bs) (
    some (.inr (Sum.inr (s1,s1,decide (s1<(((aF J.bE aW).cn).length:Int)),!bs)))) (
    some (.inl (bt (s1+1))))) (
   some (.inr (Sum.inl (s1,decide (s1<(((aF J.bE aW).cn).length:Int))))))) 0).bind fun aq=>
  Sum.elim (fun aq=>
   some true) (fun aq=>
  some false) aq
def zf (J:aZ)(ai:a8):Option Int:=
 (wH J ai.cO).bind fun aE=>
 cond (decide (aE<0)) (
  some 0) (
  (idx J.bE.length aE).bind fun aW=>
  (et (σ:=Int) (ε:=(Int×Bool) ⊕ (Int×Int×Int×Bool×Bool)) ei (fun s1=>
   cond (decide (s1<(((aF J.bE aW).cn).length:Int))) (
    (idx (((aF J.bE aW).cn).length) s1).bind fun bI=>
    (some ((((aF ((aF J.bE aW).cn) bI).dp)==2)&&(decide (s1<(ai.bU.length:Int))))).bind fun bu=>
    cond bu (
     (idx ai.bU.length s1).bind fun cK=>
     some (.inr (Sum.inr ((aF ai.bU cK).en,s1,s1,decide (s1<(((aF J.bE aW).cn).length:Int)),bu)))) (
     some (.inl (bt (s1+1))))) (
    some (.inr (Sum.inl (s1,decide (s1<(((aF J.bE aW).cn).length:Int))))))) 0).bind fun aq=>
   Sum.elim (fun aq=>
    some 0) (fun aq=>
   some aq.1) aq)
def B1 (J:aZ)(ai:ax)(aT:ax):Option Bool:=
 cond (ai.bj.fP !=aT.bj.fP) (
  some (decide (ai.bj.fP>aT.bj.fP))) (
  (zf J ai.bj).bind fun aE=>
  (zf J aT.bj).bind fun aK=>
  cond (aE !=aK) (
   some (decide (aE>aK))) (
   some (decide (ai.cl>aT.cl))))
def B5 (J:aZ)(ai:List ax)(aT:Vector az 4):Option (ax×Bool):=
 (et (σ:=Bool×Int×ax) (ε:=(Bool×Int×Bool×ax)) ei (fun s1=>
  cond (decide (s1.2.1<(ai.length:Int))) (
   (idx ai.length s1.2.1).bind fun aW=>
   (BU J ((aF ai aW).bj) aT).bind fun aE=>
   (cu (decide ((aE=true)∧ (!s1.1)=false)) true (B1 J (aF ai aW) s1.2.2)).bind fun aK=>
   (cond (aE&&((!s1.1)||aK)) (
    some (true,(aF ai aW))) (
    some (s1.1,s1.2.2))).bind fun bl=>
   some (.inl (bl.1,bt (s1.2.1+1),bl.2))) (
   some (.inr (s1.1,s1.2.1,decide (s1.2.1<(ai.length:Int)),s1.2.2)))) (false,0,(default:ax))).bind fun aq=>
 some (aq.2.2.2,aq.1)
def yJ (J:bZ)(ai:Int)(aT:Vector az 4):Option (ax×Bool):=
 (rY J ai).bind fun aE=>
 (B5 J.ou aE aT).bind fun aK=>
 some (aK.1,aK.2)
def zk (hp:aN Cell):av (Bool×(aN Cell)):=
 av.bind (av.of (wQ ([]:List (BitVec 8)) 0)) fun aE=>
 av.bind (av.of (yI aE)) fun aK=>
 av.bind (zs hp aK.1) fun bs=>
 av.bind (av.of (some (({ (default:a8) with cO:=1,bU:= [({ (default:bW) with fm:=true } :bW)],h7:=1 } :a8)))) fun bu=>
 av.bind (rV bs.2 bs.1 bu 1) fun bG=>
 av.bind (sW bG.2.2 bs.1 bu) fun cz=>
 av.bind (rV cz.2.2 bs.1 bu 1) fun ck=>
 av.bind (av.of (some (((((bG.2.1==0)&&(cz.2.1==0))&&(ck.2.1==0))&&(bG.1==1))&&(ck.1==2)))) fun dF=>
 av.ret (dF,ck.2.2)
def BL (hp:aN Cell)(J:List (BitVec 8))(ai:List (BitVec 8))(aT:BitVec 8):av (Bool×(aN Cell)):=
 av.bind (av.of (wQ J 120)) fun aE=>
 av.bind (av.of (yI aE)) fun aK=>
 av.bind (av.of (wQ ai 220)) fun bs=>
 av.bind (zs hp aK.1) fun bG=>
 av.bind (av.of (Jf aK.1)) fun cz=>
 av.bind (oi (σ:=Int×bZ×bq×(aN Cell)) (ε:=(Int×Bool×bZ×bq×(aN Cell))) ei (fun s1=>
   av.bind (av.of (cu (decide (s1.1<14)) true (Bi s1.2.2.1))) fun ck=>
   cond ((decide (s1.1<14))&&ck) (
    av.bind (av.of (gi s1.2.2.1 4)) fun cQ=>
    av.bind (av.of (yP cQ.2 aK.1 cQ.1)) fun dO=>
    av.bind (rV s1.2.2.2 bG.1 dO.1 1) fun hy=>
    av.bind (av.of (Bo s1.2.1 dO.1 1)) fun jn=>
    av.ret (.inl (bt (s1.1+1),jn.2.2,dO.2,hy.2.2))) (
    av.ret (.inr (s1.1,(decide (s1.1<14))&&ck,s1.2.1,s1.2.2.1,s1.2.2.2)))) (0,cz,bs,bG.2)) fun aq=>
 av.bind (av.of (gi aq.2.2.2.1 4)) fun iB=>
 av.bind (av.of (yP iB.2 aK.1 iB.1)) fun gv=>
 av.bind (av.of (zZ aT (3#8))) fun iC=>
 av.bind (av.of (cond ((decide (iC>(0#8)))&&(decide ((aq.2.2.1.cb.length:Int)>0))) (
   (gi gv.2 (aq.2.2.1.cb.length:Int)).bind fun x1=>
   (idx aq.2.2.1.cb.length x1.1).bind fun cK=>
   (cond ((((aF aq.2.2.1.cb cK).bj).cO)==gv.1.cO) (
    (some (({ ((aF aq.2.2.1.cb cK).bj) with h7:=gv.1.h7 } :a8))).bind fun bu=>
    some ({ bu with hl:=gv.1.hl } :a8)) (
    some ((aF aq.2.2.1.cb cK).bj))).bind fun Ns=>
   some (Ns,x1.2)) (
   some (gv.1,gv.2)))) fun bl=>
 av.bind (av.of (zZ aT (3#8))) fun h1=>
 av.share (β:=(aN Cell)) (fun aW=>
   cond (h1==(0#8)) (
    av.bind (rV aq.2.2.2.2 bG.1 bl.1 2) fun pb=>
    av.bind (cond (pb.2.1==0) (
      av.bind (sW pb.2.2 bG.1 bl.1) fun HQ=>
      av.bind (av.of (A7 HQ.2.2 bG.1 pb.1)) fun D6=>
      av.ret D6) (
      av.ret pb.2.2)) fun fg=>
    aW fg) (
    cond (h1==(1#8)) (
     av.bind (yL aq.2.2.2.2 bG.1 bl.1) fun qA=>
     av.bind (cond (qA.2.1==0) (
       av.bind (yL qA.2.2 bG.1 qA.1.bj) fun HR=>
       av.ret HR.2.2) (
       av.ret qA.2.2)) fun ll=>
     aW ll) (
     av.bind (sW aq.2.2.2.2 bG.1 bl.1) fun ua=>
     av.bind (cond (decide ((ua.2.1==0)=true)) (Bg ua.2.2 bG.1 ua.1) (av.ret (default,ua.2.2))) fun Au=>
     cond ((ua.2.1==0)&&(!Au.1)) (
      av.ret (false,Au.2)) (
      aW Au.2)))) fun cF=>
   av.bind (zn cF bG.1 aq.2.2.1) fun jL=>
   cond (!jL.1) (
    av.ret (false,jL.2)) (
    av.bind (av.of (et (σ:=Int×bq) (ε:=(Int×Bool×bq) ⊕ (Bool×Bool×Int×Bool×Bool×bq)) ei (fun s2=>
      cond (decide (s2.1<(aq.2.2.1.cb.length:Int))) (
       (idx aq.2.2.1.cb.length s2.1).bind fun bI=>
       (yO s2.2).bind fun kV=>
       (zb ((aF aq.2.2.1.cb bI).bj) kV.1).bind fun pO=>
       (yK jL.2 bG.1 (((aF aq.2.2.1.cb bI).bj).cO) pO).bind fun nV=>
       (yJ aq.2.2.1 (((aF aq.2.2.1.cb bI).bj).cO) pO).bind fun pP=>
       (cu (nV.2 !=pP.2) false (wO nV.1 pP.1)).bind fun tY=>
       cond ((nV.2 !=pP.2)||(!tY)) (
        some (.inr (Sum.inr (nV.2,pP.2,s2.1,decide (s2.1<(aq.2.2.1.cb.length:Int)),(nV.2 !=pP.2)||(!tY),kV.2)))) (
        some (.inl (bt (s2.1+1),kV.2)))) (
       some (.inr (Sum.inl (s2.1,decide (s2.1<(aq.2.2.1.cb.length:Int)),s2.2))))) (0,bl.2))) fun aX=>
      Sum.elim (fun aX=>
       av.bind (zk jL.2) fun tZ=>
       av.ret (tZ.1,tZ.2)) (fun aX=>
      av.ret (false,jL.2)) aX)
end Go.Proofs.YthkfkliknjiecaaGreat
