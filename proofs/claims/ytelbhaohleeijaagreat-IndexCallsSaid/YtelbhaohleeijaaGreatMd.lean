/-
  Each function of the translation as a functional program. Conditions: none.
-/
import Derived.Test.YtelbhaohleeijaaGreatMt
set_option linter.unusedVariables false
set_option linter.unusedSimpArgs false
set_option maxRecDepth 100000
namespace Go.Proofs.YtelbhaohleeijaaGreat
open Go Gv
def vY (J:List (BitVec 8))(ai:Int):Option aV:=
 (qz J 0 (min (J.length:Int) ai)).bind fun aE=>
 some ({ (default:aV) with ch:=aE } :aV)
def Fc (J:aV):Option Bool:=
 some (decide (J.ta<(J.ch.length:Int)))
def fQ (J:aV)(ai:Int):Option (Int×aV):=
 (Fc J).bind fun aE=>
 cond ((!aE)||(decide (ai<1))) (
  some (0,J)) (
  (idx J.ch.length (bE ((bE (J.ta+1)) - 1))).bind fun aJ=>
  (u1 ((ay J.ch aJ).toNat:Int) ai).bind fun an=>
  some (an,({ J with ta:=bE (J.ta+1) } :aV)))
def lI (J:aV):Option (Bool×aV):=
 (fQ J 2).bind fun aE=>
 some (aE.1==1,aE.2)
def AL (J:aV):Option ((List ee)×aV):=
 (fQ J 4).bind fun aE=>
 (idx (([0,0,65535,3]:List Int).length) aE.1).bind fun aJ=>
 (some ({ cM:=({ (default:au) with bS:=1#64 } :au),fE:=({ (default:au) with bS:=15#64 } :au),qx:=2:ho })).bind fun bO=>
 (some ({ cM:=({ (default:au) with bS:=2#64 } :au),fE:=({ (default:au) with bS:=3#64 } :au),qx:=3:ho })).bind fun z2=>
 (lI aE.2).bind fun an=>
 (cond an.1 (
  (fQ an.2 2).bind fun cg=>
  (some (({ (default:au) with bS:=BitVec.ofInt 64 (bE (8 * cg.1)) } :au))).bind fun jX=>
  (fQ cg.2 4).bind fun cA=>
  (idx (([0,0,65535,3]:List Int).length) cA.1).bind fun dC=>
  (some ({ cM:=jX,fE:=({ (default:au) with bS:=8#64 } :au),qx:=ay ([0,0,65535,3]:List Int) dC:ho })).bind fun ir=>
  (hf 40 [bO,z2] [ir]).bind fun cT=>
  some (cA.2,cT)) (
  some (an.2,[bO,z2]))).bind fun m1=>
 (fQ m1.1 4).bind fun br=>
 (idx (([0,0,65535,3]:List Int).length) br.1).bind fun bT=>
 (some (({ (default:ee) with bV:=2,iU:=2,hV:=ay ([0,0,65535,3]:List Int) bT } :ee))).bind fun z3=>
 (some (({ (default:ee) with bV:=3,iU:=3,oo:=9,hV:=0 } :ee))).bind fun z4=>
 (fQ br.2 3).bind fun cc=>
 (cond (cc.1==1) (
  (fQ cc.2 3).bind fun bz=>
  (some ({ cM:=({ (default:au) with bS:=5#64 } :au),fE:=({ (default:au) with bS:=15#64 } :au),qx:=bE (1+bz.1):ho })).bind fun jW=>
  some (bz.2,({ z4 with pR:= [jW] } :ee))) (
  some (cc.2,z4))).bind fun m2=>
 (some (({ ({ (default:ee) with bV:=1,iU:=1,oo:=4,hV:=ay ([0,0,65535,3]:List Int) aJ } :ee) with pR:=m1.2 } :ee))).bind fun z5=>
 some ([z5,z3,m2.2],m2.1)
def AE (J:aV):Option ((List eo)×aV):=
 (some (({ (default:eo) with bV:=1,cI:=ByteArray.mk #[110,111,112] } :eo))).bind fun bO=>
 (some (({ (default:eo) with bV:=2,cI:=ByteArray.mk #[100,114,111,112],pd:= [({ (default:fx) with iX:=6 } :fx)] } :eo))).bind fun z2=>
 (some ({ cI:=ByteArray.mk #[112,111,114,116],fH:=16:jq })).bind fun z3=>
 (some (({ (default:fx) with iX:=7,lf:=({ (default:gm) with cO:=3 } :gm) } :fx))).bind fun z4=>
 (some (({ (default:eo) with bV:=3,cI:=ByteArray.mk #[102,111,114,119,97,114,100],kV:= [z3],pd:= [z4] } :eo))).bind fun z5=>
 (some ({ iX:=1,kl:=5,lf:=({ (default:gm) with cO:=3 } :gm):fx })).bind fun jW=>
 (some (({ (default:gm) with cO:=2,xp:=5 } :gm))).bind fun jX=>
 (some (({ (default:eo) with bV:=4,cI:=ByteArray.mk #[116,97,103],kV:= [{ cI:=ByteArray.mk #[120],fH:=4:jq }],pd:= [jW,{ iX:=2,kl:=3,lf:=jX:fx }] } :eo))).bind fun ir=>
 (some ([{ cI:=ByteArray.mk #[120],fH:=4:jq },{ cI:=ByteArray.mk #[121],fH:=12:jq }])).bind fun z9=>
 (some ({ iX:=1,kl:=9,lf:=({ (default:gm) with cO:=3 } :gm):fx })).bind fun lV=>
 (some (({ (default:gm) with cO:=3,xp:=1 } :gm))).bind fun lp=>
 (some ([({ (default:fx) with iX:=4,kl:=3 } :fx),lV,{ iX:=3,kl:=8,lf:=lp:fx }])).bind fun z12=>
 (some (({ (default:eo) with bV:=5,cI:=ByteArray.mk #[119,114,97,112],kV:=z9,pd:=z12 } :eo))).bind fun lq=>
 (fQ J 2).bind fun aE=>
 (some (({ (default:fx) with iX:=5,kl:=bE (2+aE.1) } :fx))).bind fun lW=>
 (fQ aE.2 256).bind fun an=>
 (some (({ (default:au) with bS:=BitVec.ofInt 64 an.1 } :au))).bind fun pq=>
 (some (({ (default:gm) with cO:=1,cM:=pq } :gm))).bind fun p9=>
 (some (({ (default:eo) with bV:=6,cI:=ByteArray.mk #[115,116,114,105,112],pd:= [lW,{ iX:=2,kl:=6,lf:=p9:fx }] } :eo))).bind fun z17=>
 (lI an.2).bind fun br=>
 (cond br.1 (
  (idx ([bO,z2,z5,ir,lq,z17].length) 2).bind fun bT=>
  (some (ka [bO,z2,z5,ir,lq,z17] bT ({ (ay [bO,z2,z5,ir,lq,z17] bT) with rr:=ByteArray.mk #[112,111,114,116,32,33,61,32,48] } :eo))).bind fun rZ=>
  some rZ) (
  some [bO,z2,z5,ir,lq,z17])).bind fun m1=>
 (lI br.2).bind fun cc=>
 (cond cc.1 (
  (idx m1.length 4).bind fun aJ=>
  (some (ka m1 aJ ({ (ay m1 aJ) with rr:=ByteArray.mk #[120,32,60,32,121,32,124,124,32,120,32,61,61,32,49,53] } :eo))).bind fun tk=>
  some tk) (
  some m1)).bind fun m2=>
 some (m2,cc.2)
def AN (J:aV):Option ((List bl)×aV):=
 (some ({ cI:=ByteArray.mk #[97],hr:=4,cO:=1:cW })).bind fun bO=>
 (fQ J 2).bind fun aE=>
 (fQ aE.2 5).bind fun an=>
 (some (({ (default:bl) with bV:=1,cI:=ByteArray.mk #[112,111,114,116,115],b4:= [bO],dN:=([1,2,4]:List Int),hV:=bE (1+aE.1),j6:=bE (2+an.1) } :bl))).bind fun z2=>
 (some ({ cI:=ByteArray.mk #[100],hr:=7,cO:=2:cW })).bind fun z3=>
 (fQ an.2 6).bind fun br=>
 (lI br.2).bind fun cc=>
 (cond cc.1 (
  (some ({ cI:=ByteArray.mk #[109],hr:=3,cO:=1:cW })).bind fun p9=>
  (hf 32 [z3] [p9]).bind fun c5=>
  some (({ ({ (default:bl) with bV:=2,cI:=ByteArray.mk #[114,111,117,116,101,115],dN:=([1,2,3,4]:List Int),hV:=2,j6:=bE (3+br.1) } :bl) with b4:= [] } :bl),c5)) (
  some (({ (default:bl) with bV:=2,cI:=ByteArray.mk #[114,111,117,116,101,115],dN:=([1,2,3,4]:List Int),hV:=2,j6:=bE (3+br.1) } :bl),[z3]))).bind fun m1=>
 (some ({ cI:=ByteArray.mk #[101],hr:=6,cO:=3:cW })).bind fun z4=>
 (some ({ cI:=ByteArray.mk #[97],hr:=4,cO:=3:cW })).bind fun z5=>
 (fQ cc.2 6).bind fun bz=>
 (lI bz.2).bind fun cg=>
 (cond cg.1 (
  (some ({ cI:=ByteArray.mk #[98],hr:=5,cO:=1:cW })).bind fun pq=>
  (hf 32 [z4,z5] [pq]).bind fun jm=>
  some (({ ({ (default:bl) with bV:=3,cI:=ByteArray.mk #[97,99,108],dN:=([1,2,3,5,6]:List Int),hV:=1,j6:=bE (4+bz.1) } :bl) with b4:= [] } :bl),jm)) (
  some (({ (default:bl) with bV:=3,cI:=ByteArray.mk #[97,99,108],dN:=([1,2,3,5,6]:List Int),hV:=1,j6:=bE (4+bz.1) } :bl),[z4,z5]))).bind fun m2=>
 (some ({ cI:=ByteArray.mk #[102],hr:=8,cO:=4:cW })).bind fun jW=>
 (fQ cg.2 5).bind fun cA=>
 (lI cA.2).bind fun cT=>
 (cond cT.1 (
  (some ({ cI:=ByteArray.mk #[103],hr:=9,cO:=1:cW })).bind fun lq=>
  (some ({ cI:=ByteArray.mk #[100],hr:=7,cO:=2:cW })).bind fun lW=>
  (hf 32 [jW] [lq,lW]).bind fun dm=>
  some (({ ({ (default:bl) with bV:=4,cI:=ByteArray.mk #[115,112,97,110,115],dN:=([1,3,5]:List Int),hV:=3,vU:= [({ (default:au) with bS:=7#64 } :au)],j6:=bE (3+cA.1) } :bl) with b4:= [] } :bl),dm)) (
  some (({ (default:bl) with bV:=4,cI:=ByteArray.mk #[115,112,97,110,115],dN:=([1,3,5]:List Int),hV:=3,vU:= [({ (default:au) with bS:=7#64 } :au)],j6:=bE (3+cA.1) } :bl),[jW]))).bind fun m3=>
 (some ([z2,({ m1.1 with b4:=m1.2 } :bl),({ m2.1 with b4:=m2.2 } :bl),({ m3.1 with b4:=m3.2 } :bl)])).bind fun jX=>
 (some ([ByteArray.mk #[],ByteArray.mk #[97,32,33,61,32,48],ByteArray.mk #[97,32,60,32,49,52,32,38,38,32,97,32,33,61,32,51]])).bind fun ir=>
 (some ([ByteArray.mk #[],ByteArray.mk #[100,58,58,112,114,101,102,105,120,95,108,101,110,103,116,104,32,62,61,32,56],ByteArray.mk #[100,58,58,112,114,101,102,105,120,95,108,101,110,103,116,104,32,61,61,32,51,50,32,45,62,32,100,58,58,118,97,108,117,101,32,62,32,48,120,102,102]])).bind fun z9=>
 (some ([ByteArray.mk #[],ByteArray.mk #[112,114,105,111,114,105,116,121,32,60,32,49,48,48,32,38,38,32,40,101,58,58,109,97,115,107,32,33,61,32,48,32,124,124,32,97,58,58,109,97,115,107,32,33,61,32,48,41],ByteArray.mk #[101,58,58,109,97,115,107,32,61,61,32,48,32,45,62,32,112,114,105,111,114,105,116,121,32,62,32,53]])).bind fun lV=>
 (some ([ByteArray.mk #[],ByteArray.mk #[102,58,58,104,105,103,104,32,45,32,102,58,58,108,111,119,32,60,61,32,48,120,49,48,48],ByteArray.mk #[33,40,102,58,58,108,111,119,32,61,61,32,48,32,38,38,32,102,58,58,104,105,103,104,32,62,32,49,48,48,48,41]])).bind fun lp=>
 (ey (σ:=Int×(List bl)×aV) (ε:=(Int×Bool×(List bl)×aV)) et (fun s1=>
  cond (decide (s1.1<(jX.length:Int))) (
   (idx ([ir,z9,lV,lp].length) s1.1).bind fun aJ=>
   (fQ s1.2.2 3).bind fun gW=>
   (idx ((ay [ir,z9,lV,lp] aJ).length) gW.1).bind fun bT=>
   (idx s1.2.1.length s1.1).bind fun dC=>
   (some (ka s1.2.1 dC ({ (ay s1.2.1 dC) with rr:=ay (ay [ir,z9,lV,lp] aJ) bT } :bl))).bind fun z12=>
   some (.inl (bE (s1.1+1),z12,gW.2))) (
   some (.inr (s1.1,decide (s1.1<(jX.length:Int)),s1.2.1,s1.2.2)))) (0,jX,cT.2)).bind fun aw=>
 some (aw.2.2.1,aw.2.2.2)
def A2 (J:aV)(ai:List bl):Option ((List c3)×aV):=
 (fQ J 3).bind fun aE=>
 (fQ aE.2 6).bind fun an=>
 (fQ an.2 6).bind fun br=>
 (fQ br.2 4).bind fun cc=>
 (ey (σ:=Int×c3×(List dY)×aV×c3×(List dY)×c3×(List dY)) (ε:=(Int×Bool×c3×(List dY)×aV×c3×(List dY)×c3×(List dY))) et (fun s1=>
  cond (decide (s1.1<(ai.length:Int))) (
   (idx ai.length s1.1).bind fun aJ=>
   (xt (α:=Bool) 1 (((ay ai aJ).b4).length:Int)).bind fun bz=>
   (xt (α:=Bool) 1 (((ay ai aJ).b4).length:Int)).bind fun cg=>
   (ey (σ:=Int×(List Bool)×(List Bool)×aV) (ε:=(Int×Bool×(List Bool)×(List Bool)×aV)) et (fun s2=>
    cond (decide (s2.1<(bz.length:Int))) (
     (fQ s2.2.2.2 4).bind fun cA=>
     (idx s2.2.2.1.length s2.1).bind fun bT=>
     (idx s2.2.1.length s2.1).bind fun dC=>
     some (.inl (bE (s2.1+1),ka s2.2.1 dC (decide (cA.1>0)),ka s2.2.2.1 bT true,cA.2))) (
     some (.inr (s2.1,decide (s2.1<(bz.length:Int)),s2.2.1,s2.2.2.1,s2.2.2.2)))) (0,cg,bz,s1.2.2.2.1)).bind fun aX=>
   (some ({ dB:=(ay ai aJ).bV,sM:=true,sH:=true,b4:=aX.2.2.2.1:dY })).bind fun bO=>
   (hf 40 s1.2.2.2.2.2.2.2 [bO]).bind fun cT=>
   (fQ aX.2.2.2.2 4).bind fun gW=>
   (cond (decide (gW.1>0)) (
    (fQ gW.2 4).bind fun kp=>
    (lI kp.2).bind fun vd=>
    (some ({ dB:=(ay ai aJ).bV,sM:=decide (kp.1>0),sH:=vd.1,b4:=aX.2.2.1:dY })).bind fun z3=>
    (hf 40 s1.2.2.2.2.2.1 [z3]).bind fun ve=>
    some (vd.2,({ s1.2.2.2.2.1 with j3:= [] } :c3),ve)) (
    some (gW.2,s1.2.2.2.2.1,s1.2.2.2.2.2.1))).bind fun m1=>
   (lI m1.1).bind fun dm=>
   (cond dm.1 (
    (lI dm.2).bind fun jm=>
    (lI jm.2).bind fun c5=>
    (some ({ dB:=(ay ai aJ).bV,sM:=jm.1,sH:=c5.1,b4:=aX.2.2.2.1:dY })).bind fun z2=>
    (hf 40 s1.2.2.1 [z2]).bind fun jP=>
    some (c5.2,({ s1.2.1 with j3:= [] } :c3),jP)) (
    some (dm.2,s1.2.1,s1.2.2.1))).bind fun m2=>
   some (.inl (bE (s1.1+1),m2.2.1,m2.2.2,m2.1,m1.2.1,m1.2.2,({ s1.2.2.2.2.2.2.1 with j3:= [] } :c3),cT))) (
   some (.inr (s1.1,decide (s1.1<(ai.length:Int)),s1.2.1,s1.2.2.1,s1.2.2.2.1,s1.2.2.2.2.1,s1.2.2.2.2.2.1,s1.2.2.2.2.2.2.1,s1.2.2.2.2.2.2.2)))) (0,({ (default:c3) with bV:=7,cI:=ByteArray.mk #[102,101,119],dN:= [bE (1+br.1)],sG:=cc.1 } :c3),([]:List dY),cc.2,({ (default:c3) with bV:=2,cI:=ByteArray.mk #[115,111,109,101],dN:=([1,2,bE (3+aE.1)]:List Int),sG:=bE (1+an.1) } :c3),([]:List dY),({ (default:c3) with bV:=1,cI:=ByteArray.mk #[97,108,108],dN:=([1,2,3,4,5,6]:List Int),sG:=40,BY:=true } :c3),([]:List dY))).bind fun aw=>
 (some (({ aw.2.2.2.2.2.2.2.1 with j3:=aw.2.2.2.2.2.2.2.2 } :c3))).bind fun z4=>
 (some ([z4,({ aw.2.2.2.2.2.1 with j3:=aw.2.2.2.2.2.2.1 } :c3),({ aw.2.2.1 with j3:=aw.2.2.2.1 } :c3)])).bind fun z5=>
 some (z5,aw.2.2.2.2.1)
def ya (J:aV):Option (aQ×aV):=
 (fQ J 8).bind fun aE=>
 (fQ aE.2 30).bind fun an=>
 (some ({ bV:=1,cI:=ByteArray.mk #[105,110,103,114,101,115,115],fH:=16:fV })).bind fun bO=>
 (some ({ bV:=2,cI:=ByteArray.mk #[101,103,114,101,115,115],fH:=16:fV })).bind fun z2=>
 (some ({ bV:=3,cI:=ByteArray.mk #[109,101,116,97],fH:=8:fV })).bind fun z3=>
 (some ({ bV:=6,cI:=ByteArray.mk #[101],fH:=8:fV })).bind fun z4=>
 (some ({ bV:=7,cI:=ByteArray.mk #[100],fH:=32:fV })).bind fun z5=>
 (some ({ bV:=8,cI:=ByteArray.mk #[102],fH:=12:fV })).bind fun jW=>
 (some ({ bV:=9,cI:=ByteArray.mk #[103],fH:=4:fV })).bind fun jX=>
 (some ([bO,z2,z3,{ bV:=4,cI:=ByteArray.mk #[97],fH:=4:fV },{ bV:=5,cI:=ByteArray.mk #[98],fH:=4:fV },z4,z5,jW,jX])).bind fun ir=>
 (some (({ ({ (default:aQ) with BF:=bE (2+aE.1),BS:=bE (12+an.1) } :aQ) with fS:=ir } :aQ))).bind fun z9=>
 (some ({ bV:=1,cI:=ByteArray.mk #[111,110,101],fS:=([4,5,6]:List Int):kh })).bind fun lV=>
 (some ({ bV:=2,cI:=ByteArray.mk #[116,119,111],fS:=([7]:List Int):kh })).bind fun lp=>
 (some ({ bV:=3,cI:=ByteArray.mk #[116,104,114,101,101],fS:=([8,9]:List Int):kh })).bind fun z12=>
 (AL an.2).bind fun br=>
 (AE br.2).bind fun cc=>
 (AN cc.2).bind fun bz=>
 (some (({ ({ z9 with mA:= [lV,lp,z12] } :aQ) with nc:=br.1 } :aQ))).bind fun lq=>
 (some (({ ({ lq with dN:=cc.1 } :aQ) with bh:=bz.1 } :aQ))).bind fun lW=>
 (A2 bz.2 lW.bh).bind fun cg=>
 (some ([{ dB:=1,iU:=1:gn },{ dB:=2,iU:=2:gn },({ (default:gn) with dB:=3 } :gn),{ dB:=4,iU:=3:gn }])).bind fun pq=>
 (lI cg.2).bind fun cA=>
 (cond cA.1 (
  (hf 16 pq [({ (default:gn) with dB:=1 } :gn)]).bind fun kp=>
  some kp) (
  some pq)).bind fun m1=>
 (lI cA.2).bind fun cT=>
 (cond cT.1 (
  (some (({ (default:fy) with dB:=2,jd:=4,qp:=1 } :fy))).bind fun z20=>
  (hf 48 ([]:List fy) [z20]).bind fun jP=>
  some (({ ({ ({ lW with kj:=cg.1 } :aQ) with oq:= [] } :aQ) with pe:= [] } :aQ),jP)) (
  some (({ ({ lW with kj:=cg.1 } :aQ) with oq:= [] } :aQ),([]:List fy)))).bind fun m2=>
 (lI cT.2).bind fun gW=>
 (cH gW.1 true (idx m2.1.bh.length 2)).bind fun aJ=>
 (cond (gW.1&&((((ay m2.1.bh aJ).b4).length:Int)==3)) (
  (some (({ (default:fy) with dB:=3,wS:=2,qp:=1 } :fy))).bind fun rZ=>
  (hf 48 m2.2 [rZ]).bind fun c5=>
  some (({ m2.1 with pe:= [] } :aQ),c5)) (
  some (m2.1,m2.2))).bind fun m3=>
 (lI gW.2).bind fun dm=>
 (cH dm.1 true (idx m3.1.bh.length 3)).bind fun bT=>
 (cond (dm.1&&((((ay m3.1.bh bT).b4).length:Int)==3)) (
  (some (({ (default:fy) with dB:=4,wS:=1,qp:=1 } :fy))).bind fun z17=>
  (some (({ (default:fy) with dB:=4,jd:=5,qp:=1 } :fy))).bind fun tk=>
  (hf 48 m3.2 [z17,tk]).bind fun jm=>
  some (({ m3.1 with pe:= [] } :aQ),jm)) (
  some (m3.1,m3.2))).bind fun m4=>
 (some (({ ({ m4.1 with oq:=m1 } :aQ) with pe:=m4.2 } :aQ))).bind fun p9=>
 some (p9,dm.2)
def vZ (J:Int)(ai:Int):Option Int:=
 cond (decide (ai<1)) (
  some 0) (
  (u1 J ai).bind fun aE=>
  (u1 (bE (aE+ai)) ai).bind fun an=>
  some an)
def E5 (J:bl)(ai:Int):Option Bool:=
 some (J.bV==ai)
def Ar (J:List bl)(ai:bl→Option Bool):Option Int:=
 (ey (σ:=Int) (ε:=(Int×Bool) ⊕ (Int×Int×Int×Bool×Bool)) et (fun s1=>
  cond (decide (s1<(J.length:Int))) (
   (idx J.length s1).bind fun aJ=>
   (ai (ay J aJ)).bind fun aE=>
   cond aE (
    some (.inr (Sum.inr (s1,s1,s1,decide (s1<(J.length:Int)),aE)))) (
    some (.inl (bE (s1+1))))) (
   some (.inr (Sum.inl (s1,decide (s1<(J.length:Int))))))) 0).bind fun aw=>
  Sum.elim (fun aw=>
   some (-1)) (fun aw=>
  some aw.1) aw
def tY (J:aQ)(ai:Int):Option Int:=
 (Ar J.bh (fun a0=>E5 a0 ai)).bind fun aE=>
 some aE
def yz (J:bl):Option (Int×Int):=
 (ey (σ:=Int×Int×Int) (ε:=(Int×Int×Int×Bool)) et (fun s1=>
  cond (decide (s1.2.2<(J.b4.length:Int))) (
   (idx J.b4.length s1.2.2).bind fun aJ=>
   (cond (((ay J.b4 aJ).cO)==1) (
    some (s1.1,s1.2.1)) (
    (cond (((ay J.b4 aJ).cO)==2) (
     some (max s1.1 2,s1.2.2)) (
     some (3,s1.2.1))).bind fun m2=>
    some (m2.1,m2.2))).bind fun m1=>
   some (.inl (m1.1,m1.2,bE (s1.2.2+1)))) (
   some (.inr (s1.1,s1.2.1,s1.2.2,decide (s1.2.2<(J.b4.length:Int)))))) (1,0,0)).bind fun aw=>
 some (aw.1,aw.2.1)
def Fv (hp:aY Cell):aA (Ref×(aY Cell)):=
 aA.bind (aA.mk hp (Cell.oL ([]:List ((Vector au 4)×Int)))) fun dn=>
 aA.bind (aA.mk dn.2 (Cell.zv ({ pf:=(⟨some dn.1⟩:gE):nK }))) fun a2=>
 aA.ret ((some a2.1:Ref),a2.2)
def E6 (J:fV)(ai:Int):Option Bool:=
 some (J.bV==ai)
def As (J:List fV)(ai:fV→Option Bool):Option Int:=
 (ey (σ:=Int) (ε:=(Int×Bool) ⊕ (Int×Int×Int×Bool×Bool)) et (fun s1=>
  cond (decide (s1<(J.length:Int))) (
   (idx J.length s1).bind fun aJ=>
   (ai (ay J aJ)).bind fun aE=>
   cond aE (
    some (.inr (Sum.inr (s1,s1,s1,decide (s1<(J.length:Int)),aE)))) (
    some (.inl (bE (s1+1))))) (
   some (.inr (Sum.inl (s1,decide (s1<(J.length:Int))))))) 0).bind fun aw=>
  Sum.elim (fun aw=>
   some (-1)) (fun aw=>
  some aw.1) aw
def yo (J:aQ)(ai:Int):Option Int:=
 (As J.fS (fun a0=>E6 a0 ai)).bind fun aE=>
 some aE
def IA (J:aQ):Option cK:=
 some ({ ({ (default:cK) with o6:=J } :cK) with ch:=([]:List ax) } :cK)
def o4 (hp:aY Cell)(J:aQ)(ai:Int):aA (Ref×(aY Cell)):=
 aA.bind (aA.of (tY J ai)) fun aE=>
 cond (decide (aE<0)) (
  aA.ret ((none:Ref),hp)) (
  aA.bind (aA.of (idx J.bh.length aE)) fun aJ=>
  aA.bind (aA.of (yz (ay J.bh aJ))) fun an=>
  aA.bind (aA.mk hp (Cell.kI ([]:List (Int×ax)))) fun dn=>
  aA.bind (aA.of (some (({ (default:gP) with qv:=an.1,pU:=(((ay J.bh aJ).b4).length:Int),ki:=(⟨some dn.1⟩:gE) } :gP)))) fun bO=>
  aA.bind (aA.mk dn.2 (Cell.nU bO)) fun a2=>
  aA.bind (cond (an.1==1) (
    aA.bind (Fv a2.2) fun br=>
    aA.bind (aA.of (iw br.2 a2.1)) fun c1=>
    aA.bind (aA.of (some (dx br.2 a2.1 (Cell.nU ({ c1 with jc:=(gO.mK ({ qQ:=br.1:kg })) } :gP))))) fun dd=>
    aA.ret dd) (
    aA.bind (cond (an.1==2) (
      aA.bind (aA.of (idx (((ay J.bh aJ).b4).length) an.2)) fun bT=>
      aA.bind (aA.of (yo J ((ay ((ay J.bh aJ).b4) bT).hr))) fun cc=>
      aA.bind (aA.of (cond (decide (cc≥0)) (
        (idx J.fS.length cc).bind fun dC=>
        some ((ay J.fS dC).fH)) (
        some 0))) fun m3=>
      aA.bind (aA.mk a2.2 (Cell.mh ([]:List ((Vector au 4)×Ref)))) fun a3=>
      aA.bind (aA.of (some ({ sR:=an.2,fT:=m3,ow:=(⟨some a3.1⟩:gE):ha }))) fun z2=>
      aA.bind (aA.of (iw a3.2 a2.1)) fun c2=>
      aA.bind (aA.of (some (dx a3.2 a2.1 (Cell.nU ({ c2 with jc:=(gO.mL z2) } :gP))))) fun dq=>
      aA.ret dq) (
      aA.bind (aA.of (IA J)) fun bz=>
      aA.bind (aA.any (Option Nat×Nat)) fun bt=>
      aA.bind (aA.mk a2.2 (Cell.rQ bz bt.1 bt.2)) fun a4=>
      aA.bind (aA.of (iw a4.2 a2.1)) fun gV=>
      aA.bind (aA.of (some (dx a4.2 a2.1 (Cell.nU ({ gV with jc:=(gO.mM ({ ch:=(some a4.1:Ref):jK })) } :gP))))) fun hB=>
      aA.ret hB)) fun m2=>
    aA.ret m2)) fun m1=>
  aA.ret ((some a2.1:Ref),m1))
def qn (hp:aY Cell)(J:Ref):Option Int:=
 cond J.isNone (
  some 0) (
  J.bind fun cC=>
  (iw hp cC).bind fun c1=>
  some c1.qv)
def yI (J:bl):Option Int:=
 (ey (σ:=Int×Int) (ε:=(Int×Int×Bool)) et (fun s1=>
  cond (decide (s1.2<(J.b4.length:Int))) (
   (idx J.b4.length s1.2).bind fun aJ=>
   (cond (((ay J.b4 aJ).cO)==2) (
    some (max s1.1 2)) (
    (cond (((ay J.b4 aJ).cO)==3) (
     some (((ay J.b4 aJ).cO)==3)) (
     some (((ay J.b4 aJ).cO)==4))).bind fun m2=>
    (cond m2 (
     some 3) (
     some s1.1)).bind fun m3=>
    some m3)).bind fun m1=>
   some (.inl (m1,bE (s1.2+1)))) (
   some (.inr (s1.1,s1.2,decide (s1.2<(J.b4.length:Int)))))) (1,0)).bind fun aw=>
 some aw.1
def AK (J:aV):Option Bool:=
 some (decide (J.ta<(J.ch.length:Int)))
def Bp (J:aQ)(ai:Int):Option Int:=
 (ey (σ:=Int) (ε:=(Int×Bool) ⊕ (Int×Int×Bool×Bool)) et (fun s1=>
  cond (decide (s1<(J.fS.length:Int))) (
   (idx J.fS.length s1).bind fun aJ=>
   cond (((ay J.fS aJ).bV)==ai) (
    some (.inr (Sum.inr ((ay J.fS aJ).fH,s1,decide (s1<(J.fS.length:Int)),((ay J.fS aJ).bV)==ai)))) (
    some (.inl (bE (s1+1))))) (
   some (.inr (Sum.inl (s1,decide (s1<(J.fS.length:Int))))))) 0).bind fun aw=>
  Sum.elim (fun aw=>
   some 0) (fun aw=>
  some aw.1) aw
def v7 (J:au)(ai:Int):Option au:=
 cond (decide (ai≥128)) (
  some J) (
  cond (decide (ai≥64)) (
   (some (J.cZ&&&(((1#64) <<< (BitVec.ofInt 64 (bE (ai - 64))).toNat) - (1#64)))).bind fun bO=>
   some ({ cZ:=bO,bS:=J.bS:au })) (
   cond (decide (ai≤0)) (
    some (default:au)) (
    (some (({ (default:au) with bS:=J.bS&&&(((1#64) <<< (BitVec.ofInt 64 ai).toNat) - (1#64)) } :au))).bind fun z2=>
    some z2)))
def Fp (J:Int)(ai:Int):Option au:=
 (some ((((1#64) <<< (BitVec.ofInt 64 J).toNat) - (1#64)) - (((1#64) <<< (BitVec.ofInt 64 (bE (J - ai))).toNat) - (1#64)))).bind fun bO=>
 some ({ (default:au) with bS:=bO } :au)
def AZ (J:aV)(ai:aQ)(aL:cW):Option (b5×aV):=
 (Bp ai aL.hr).bind fun aE=>
 (fQ J 256).bind fun an=>
 (fQ an.2 16).bind fun br=>
 (some (((BitVec.ofInt 64 an.1) <<< (24#64).toNat)|||((BitVec.ofInt 64 br.1) <<< (8#64).toNat))).bind fun bO=>
 (fQ br.2 16).bind fun cc=>
 (some (({ (default:au) with bS:=bO|||(BitVec.ofInt 64 cc.1) } :au))).bind fun z2=>
 (v7 z2 aE).bind fun bz=>
 cond (aL.cO==2) (
  (fQ cc.2 5).bind fun cg=>
  cond (decide (cg.1>0)) (
   (fQ cg.2 aE).bind fun cA=>
   (fQ cA.2 5).bind fun cT=>
   (idx ([aE,8,16,1,bE (1+cA.1)].length) cT.1).bind fun aJ=>
   (Fp aE (ay [aE,8,16,1,bE (1+cA.1)] aJ)).bind fun gW=>
   (some (({ (default:au) with bS:=bz.bS&&&gW.bS } :au))).bind fun z3=>
   (some (({ (default:b5) with ff:=true,dK:=ay [aE,8,16,1,bE (1+cA.1)] aJ,cM:=z3 } :b5))).bind fun z4=>
   some (z4,cT.2)) (
   some ((default:b5),cg.2))) (
  cond (aL.cO==3) (
   (fQ cc.2 256).bind fun dm=>
   (fQ dm.2 5).bind fun jm=>
   (idx (([255,15,1,12,dm.1]:List Int).length) jm.1).bind fun bT=>
   (some (({ (default:au) with bS:=BitVec.ofInt 64 (ay ([255,15,1,12,dm.1]:List Int) bT) } :au))).bind fun z5=>
   (v7 z5 aE).bind fun c5=>
   cond (c5.bS !=(0#64)) (
    (some (({ (default:au) with bS:=bz.bS&&&c5.bS } :au))).bind fun jW=>
    (some (({ (default:b5) with ff:=true,fE:=c5,cM:=jW } :b5))).bind fun jX=>
    some (jX,jm.2)) (
    some ((default:b5),jm.2))) (
   cond (aL.cO==4) (
    (fQ cc.2 256).bind fun jP=>
    (some (xe (bz.bS+(BitVec.ofInt 64 jP.1)) (((1#64) <<< (BitVec.ofInt 64 aE).toNat) - (1#64)))).bind fun ir=>
    (fQ jP.2 5).bind fun kp=>
    (some ((decide (kp.1>0))&&(!((bz.bS==(0#64))&&(ir==(((1#64) <<< (BitVec.ofInt 64 aE).toNat) - (1#64))))))).bind fun z9=>
    cond z9 (
     (some (({ (default:b5) with ff:=true,cM:=bz,jr:=({ (default:au) with bS:=ir } :au) } :b5))).bind fun lV=>
     some (lV,kp.2)) (
     some ((default:b5),kp.2))) (
    (some (({ (default:b5) with ff:=true,cM:=bz } :b5))).bind fun lp=>
    some (lp,cc.2))))
def Bg (J:aQ)(ai:Int):Option eo:=
 (ey (σ:=Int) (ε:=(Int×Bool) ⊕ (Int×Bool×Bool×eo)) et (fun s1=>
  cond (decide (s1<(J.dN.length:Int))) (
   (idx J.dN.length s1).bind fun aJ=>
   cond (((ay J.dN aJ).bV)==ai) (
    some (.inr (Sum.inr (s1,decide (s1<(J.dN.length:Int)),((ay J.dN aJ).bV)==ai,(ay J.dN aJ))))) (
    some (.inl (bE (s1+1))))) (
   some (.inr (Sum.inl (s1,decide (s1<(J.dN.length:Int))))))) 0).bind fun aw=>
  Sum.elim (fun aw=>
   some (default:eo)) (fun aw=>
  some aw.2.2.2) aw
def A0 (J:aV)(ai:aQ)(aL:Int):Option (bd×aV):=
 (vZ aL (ai.bh.length:Int)).bind fun aE=>
 (idx ai.bh.length aE).bind fun aJ=>
 (ey (σ:=Int×bd×(List b5)×aV) (ε:=(Int×Bool×bd×(List b5)×aV)) et (fun s1=>
  cond (decide (s1.1<(((ay ai.bh aJ).b4).length:Int))) (
   (idx (((ay ai.bh aJ).b4).length) s1.1).bind fun bT=>
   (AZ s1.2.2.2 ai (ay ((ay ai.bh aJ).b4) bT)).bind fun an=>
   (hf 64 s1.2.2.1 [an.1]).bind fun br=>
   (some ((((ay ((ay ai.bh aJ).b4) bT).cO)==3)||(((ay ((ay ai.bh aJ).b4) bT).cO)==4))).bind fun bO=>
   (cond bO (
    (fQ an.2 5).bind fun cc=>
    (some (({ ({ s1.2.1 with bY:= [] } :bd) with fG:=bE (1+cc.1) } :bd))).bind fun z2=>
    some (z2,cc.2)) (
    some (({ s1.2.1 with bY:= [] } :bd),an.2))).bind fun m1=>
   some (.inl (bE (s1.1+1),m1.1,br,m1.2))) (
   some (.inr (s1.1,decide (s1.1<(((ay ai.bh aJ).b4).length:Int)),s1.2.1,s1.2.2.1,s1.2.2.2)))) (0,({ (default:bd) with dB:=(ay ai.bh aJ).bV } :bd),([]:List b5),J)).bind fun aw=>
 (fQ aw.2.2.2.2 (((ay ai.bh aJ).dN).length:Int)).bind fun bz=>
 (idx (((ay ai.bh aJ).dN).length) bz.1).bind fun dC=>
 (some (({ aw.2.2.1 with jd:=ay ((ay ai.bh aJ).dN) dC } :bd))).bind fun z3=>
 (Bg ai z3.jd).bind fun cg=>
 (ey (σ:=Int×bd×(List au)×aV) (ε:=(Int×Bool×bd×(List au)×aV)) et (fun s2=>
  cond (decide (s2.1<(cg.kV.length:Int))) (
   (idx cg.kV.length s2.1).bind fun gU=>
   (fQ s2.2.2.2 256).bind fun cA=>
   (some (({ (default:au) with bS:=BitVec.ofInt 64 cA.1 } :au))).bind fun z4=>
   (v7 z4 ((ay cg.kV gU).fH)).bind fun cT=>
   (hf 16 s2.2.2.1 [cT]).bind fun gW=>
   some (.inl (bE (s2.1+1),({ s2.2.1 with hX:= [] } :bd),gW,cA.2))) (
   some (.inr (s2.1,decide (s2.1<(cg.kV.length:Int)),s2.2.1,s2.2.2.1,s2.2.2.2)))) (0,z3,([]:List au),bz.2)).bind fun aX=>
 (some (({ ({ aX.2.2.1 with bY:=aw.2.2.2.1 } :bd) with hX:=aX.2.2.2.1 } :bd))).bind fun z5=>
 some (z5,aX.2.2.2.2)
def ub (J:bd):Option (Vector au 4):=
 (qz J.bY 0 (min (J.bY.length:Int) 4)).bind fun aE=>
 (ey (σ:=Int×(Vector au 4)) (ε:=(Int×Bool×(Vector au 4))) et (fun s1=>
  cond (decide (s1.1<(aE.length:Int))) (
   (idx aE.length s1.1).bind fun aJ=>
   (idx 4 s1.1).bind fun bT=>
   some (.inl (bE (s1.1+1),dr s1.2 bT ((ay aE aJ).cM)))) (
   some (.inr (s1.1,decide (s1.1<(aE.length:Int)),s1.2)))) (0,(default:Vector au 4))).bind fun aw=>
 some aw.2.2
def tW (hp:aY Cell)(J:Ref)(ai:Vector au 4):Option (Int×Bool):=
 cond J.isNone (
  some (0,false)) (
  J.bind fun cC=>
  (nh hp cC).bind fun c1=>
  c1.pf.p.bind fun cV=>
  (me hp cV).bind fun c2=>
  (some (eh c2 ai)).bind fun bO=>
  some (bO.getD default,bO.isSome))
def A3 (hp:aY Cell)(J:kg)(ai:bd):Option (Int×Bool):=
 (ub ai).bind fun aE=>
 (tW hp J.qQ aE).bind fun an=>
 some (an.1,an.2)
def x5 (J:ha)(ai:Vector au 4):Option ((Vector au 4)×au):=
 (idx 4 J.sR).bind fun aJ=>
 (idx 4 J.sR).bind fun bT=>
 some ((dr ai bT (default:au)),(bF ai aJ))
def vM (J:ha)(ai:bd):Option ((Vector au 4)×au×Int):=
 (ub ai).bind fun aE=>
 (x5 J aE).bind fun an=>
 cond (decide (J.sR≥ (ai.bY.length:Int))) (
  some (an.1,an.2,0)) (
  (idx ai.bY.length J.sR).bind fun aJ=>
  some (an.1,an.2,(ay ai.bY aJ).dK))
def yB (J:Int):Option Int:=
 some (min (max 0 J) 128)
def yF (J:au)(ai:Int):Option au:=
 cond (decide (ai≤0)) (
  some J) (
  cond (decide (ai≥64)) (
   (some (({ (default:au) with bS:=J.cZ >>> (BitVec.ofInt 64 (bE (ai - 64))).toNat } :au))).bind fun bO=>
   some bO) (
   (some ((J.bS >>> (BitVec.ofInt 64 ai).toNat)|||(J.cZ <<< (BitVec.ofInt 64 (bE (64 - ai))).toNat))).bind fun z2=>
   (some ({ cZ:=J.cZ >>> (BitVec.ofInt 64 ai).toNat,bS:=z2:au })).bind fun z3=>
   some z3))
def vW (J:Int):Option au:=
 (some ({ cZ:=18446744073709551615#64,bS:=18446744073709551615#64:au })).bind fun bO=>
 (yB J).bind fun aE=>
 (yF bO (bE (128 - aE))).bind fun an=>
 some an
def BD (J:au)(ai:au):Option au:=
 (some ({ cZ:=J.cZ ^^^ ai.cZ,bS:=J.bS ^^^ ai.bS:au })).bind fun bO=>
 some bO
def yt (J:Int)(ai:Int):Option au:=
 (yB J).bind fun aE=>
 (vW aE).bind fun an=>
 (vW (bE (aE - (min (max 0 ai) aE)))).bind fun br=>
 (BD an br).bind fun cc=>
 some cc
def uc (J:au)(ai:au):Option au:=
 (some ({ cZ:=J.cZ&&&ai.cZ,bS:=J.bS&&&ai.bS:au })).bind fun bO=>
 some bO
def yd (hp:aY Cell)(J:Ref)(ai:au)(aL:Int):Option Bool:=
 (cH (J.isSome&&(decide (aL≥0))) true J).bind fun cC=>
 (cH (J.isSome&&(decide (aL≥0))) true (ga hp cC)).bind fun c1=>
 (cH ((J.isSome&&(decide (aL≥0)))&&(decide (aL≤c1.fT))) true J).bind fun cV=>
 (cH ((J.isSome&&(decide (aL≥0)))&&(decide (aL≤c1.fT))) true (ga hp cV)).bind fun c2=>
 (cH ((J.isSome&&(decide (aL≥0)))&&(decide (aL≤c1.fT))) true (yt c2.fT aL)).bind fun aE=>
 (cH ((J.isSome&&(decide (aL≥0)))&&(decide (aL≤c1.fT))) true (uc ai aE)).bind fun an=>
 (some (((J.isSome&&(decide (aL≥0)))&&(decide (aL≤c1.fT)))&&(decide (an=ai)))).bind fun bO=>
 some bO
def yl (J:Ref)(ai:au)(aL:Int):Option (Int×au×Ref):=
 some (aL,ai,J)
def v8 (J:au)(ai:Int):Option Bool:=
 (cH ((decide (ai≥0))&&(decide (ai<128))) true (yF J ai)).bind fun aE=>
 (some (((decide (ai≥0))&&(decide (ai<128)))&&((aE.bS&&&(1#64))==(1#64)))).bind fun bO=>
 some bO
def vO {σ ε:Type}(ai:Int)(aL:au)(cN:Ref)(hq:σ→aY Cell)(step:Int→σ→aA (σ ⊕ ε))(cF:σ):aA (σ ⊕ ε):=
 aA.bind (p1 (σ:=Int×(σ)) (ε:=(Int×Bool×(σ)) ⊕ (Int×Int×Int×Bool×Bool×Bool×(ε))) et (fun s1=>
   cond (decide (s1.1<ai)) (
    aA.bind (aA.of cN) fun cC=>
    aA.bind (aA.of (ga (hq s1.2) cC)) fun c1=>
    aA.bind (aA.of (v8 aL (bE ((bE (c1.fT - 1)) - s1.1)))) fun aE=>
    aA.bind (aA.of (cond aE (
      some 1) (
      some 0))) fun m1=>
    aA.bind (step m1 s1.2) fun an=>
    Sum.elim (fun s2=>
     aA.ret (.inl (bE (s1.1+1),s2))) (fun dJ=>
     aA.ret (.inr (Sum.inr (s1.1,m1,s1.1,decide (s1.1<ai),aE,!false,dJ)))) an) (
    aA.ret (.inr (Sum.inl (s1.1,decide (s1.1<ai),s1.2))))) (0,cF)) fun aw=>
   Sum.elim (fun aw=>
    aA.ret (.inl aw.2.2:σ ⊕ ε)) (fun aw=>
   aA.ret (.inr aw.2.2.2.2.2.2:σ ⊕ ε)) aw
def qm {σ ε:Type}(hp:aY Cell)(ai:Int)(aL:au)(cN:Ref)(step:Int→σ→Option (σ ⊕ ε))(cF:σ):Option (σ ⊕ ε):=
 (ey (σ:=Int×(σ)) (ε:=(Int×Bool×(σ)) ⊕ (Int×Int×Int×Bool×Bool×Bool×(ε))) et (fun s1=>
  cond (decide (s1.1<ai)) (
   cN.bind fun cC=>
   (ga hp cC).bind fun c1=>
   (v8 aL (bE ((bE (c1.fT - 1)) - s1.1))).bind fun aE=>
   (cond aE (
    some 1) (
    some 0)).bind fun m1=>
   (step m1 s1.2).bind fun an=>
   Sum.elim (fun s2=>
    some (.inl (bE (s1.1+1),s2))) (fun dJ=>
    some (.inr (Sum.inr (s1.1,m1,s1.1,decide (s1.1<ai),aE,!false,dJ)))) an) (
   some (.inr (Sum.inl (s1.1,decide (s1.1<ai),s1.2))))) (0,cF)).bind fun aw=>
  Sum.elim (fun aw=>
   some (.inl aw.2.2)) (fun aw=>
  some (.inr aw.2.2.2.2.2.2)) aw
def ym (hp:aY Cell)(J:Ref)(ai:au)(aL:Int):Option Ref:=
 (yd hp J ai aL).bind fun aE=>
 cond (!aE) (
  some (none:Ref)) (
  J.bind fun cC=>
  (ga hp cC).bind fun c1=>
  (yl J ai aL).bind fun an=>
  (qm hp an.1 an.2.1 an.2.2 (σ:=Ref) (ε:=Ref×Ref) (fun(pr:Int) (s1:Ref)=>
   cond s1.isNone (
    some (.inr (s1,(none:Ref)))) (
    s1.bind fun cV=>
    (idx 2 pr).bind fun aJ=>
    (cU hp cV).bind fun c2=>
    some (.inl (bF c2.db aJ)))) c1.eg).bind fun aw=>
  Sum.elim (fun s1=>
   some s1) (fun aq=>
   some aq.2) aw)
def vR (hp:aY Cell)(J:Ref)(ai:au)(aL:Int):Option (Int×Bool):=
 (ym hp J ai aL).bind fun aE=>
 (cH aE.isNone false aE).bind fun cC=>
 (cH aE.isNone false (cU hp cC)).bind fun c1=>
 cond (aE.isNone||(!c1.e6)) (
  some (0,false)) (
  aE.bind fun cV=>
  (cU hp cV).bind fun c2=>
  some (c2.hQ,true))
def AH (hp:aY Cell)(J:ha)(ai:bd):Option (Int×Bool):=
 (vM J ai).bind fun aE=>
 J.ow.p.bind fun cC=>
 (j8 hp cC).bind fun c1=>
 (some ((eh c1 aE.1).getD default)).bind fun bO=>
 (vR hp bO aE.2.1 aE.2.2).bind fun an=>
 some (an.1,an.2)
def ES (J:List b5):Option (List b5):=
 (hf 64 ([]:List b5) J).bind fun aE=>
 some aE
def ET (J:List au):Option (List au):=
 (hf 16 ([]:List au) J).bind fun aE=>
 some aE
def Fx (J:bd):Option bd:=
 (ES J.bY).bind fun aE=>
 (ET J.hX).bind fun an=>
 (some (({ ({ J with bY:=aE } :bd) with hX:=an } :bd))).bind fun bO=>
 some bO
def oi (J:ax):Option ax:=
 (Fx J.bA).bind fun aE=>
 some ({ J with bA:=aE } :ax)
def yK (J:List ax):Option (List ax):=
 (ey (σ:=Int×(List ax)) (ε:=(Int×Bool×(List ax))) et (fun s1=>
  cond (decide (s1.1<(J.length:Int))) (
   (idx J.length s1.1).bind fun aJ=>
   (oi (ay J aJ)).bind fun aE=>
   (hf 88 s1.2 [aE]).bind fun an=>
   some (.inl (bE (s1.1+1),an))) (
   some (.inr (s1.1,decide (s1.1<(J.length:Int)),s1.2)))) (0,([]:List ax))).bind fun aw=>
 some aw.2.2
def AA (J:cK):Option (List ax):=
 (yK J.ch).bind fun aE=>
 some aE
def Aw (J:List b5)(ai:List b5):Option Bool:=
 cond ((J.length:Int) !=(ai.length:Int)) (
  some false) (
  (ey (σ:=Int) (ε:=(Int×Bool) ⊕ (Int×Int×Bool×Bool)) et (fun s1=>
   cond (decide (s1<(J.length:Int))) (
    (idx J.length s1).bind fun aJ=>
    (idx ai.length s1).bind fun bT=>
    cond (!decide (ay J aJ=ay ai bT)) (
     some (.inr (Sum.inr (s1,s1,decide (s1<(J.length:Int)),!decide (ay J aJ=ay ai bT))))) (
     some (.inl (bE (s1+1))))) (
    some (.inr (Sum.inl (s1,decide (s1<(J.length:Int))))))) 0).bind fun aw=>
   Sum.elim (fun aw=>
    some true) (fun aw=>
   some false) aw)
def Bj (J:bd)(ai:bd):Option Bool:=
 (cH (J.dB==ai.dB) true (Aw J.bY ai.bY)).bind fun aE=>
 some (((J.dB==ai.dB)&&aE)&&(J.fG==ai.fG))
def A5 (hp:aY Cell)(J:jK)(ai:bd):Option (Int×Bool):=
 J.ch.bind fun cC=>
 (oI hp cC).bind fun c1=>
 (AA c1.1).bind fun aE=>
 (ey (σ:=Int) (ε:=(Int×Bool) ⊕ (Int×Bool×Int×Bool×Bool)) et (fun s1=>
  cond (decide (s1<(aE.length:Int))) (
   (idx aE.length s1).bind fun aJ=>
   (Bj ((ay aE aJ).bA) ai).bind fun an=>
   cond an (
    some (.inr (Sum.inr ((ay aE aJ).cB,true,s1,decide (s1<(aE.length:Int)),an)))) (
    some (.inl (bE (s1+1))))) (
   some (.inr (Sum.inl (s1,decide (s1<(aE.length:Int))))))) 0).bind fun aw=>
  Sum.elim (fun aw=>
   some (0,false)) (fun aw=>
  some (aw.1,aw.2.1)) aw
def E4 (hp:aY Cell)(y:gO)(J:bd):Option (Int×Bool):=match y with
 | .nil=>none
 | .mK z=>A3 hp z J
 | .mL z=>AH hp z J
 | .mM z=>A5 hp z J
def Fi (hp:aY Cell)(J:Ref)(ai:Vector au 4)(aL:Int):Option (Bool×(aY Cell)):=
 cond J.isNone (
  some (false,hp)) (
  J.bind fun cC=>
  (nh hp cC).bind fun c1=>
  c1.pf.p.bind fun cV=>
  (me hp cV).bind fun c2=>
  (some (eh c2 ai)).bind fun bO=>
  cond bO.isSome (
   some (false,hp)) (
   (some (dx hp cV (Cell.oL (ht c2 ai aL)))).bind fun dd=>
   some (true,dd)))
def A7 (hp:aY Cell)(J:kg)(ai:ax):Option (aY Cell):=
 (ub ai.bA).bind fun aE=>
 (Fi hp J.qQ aE ai.cB).bind fun an=>
 some an.2
def FC (hp:aY Cell)(J:Int):aA (Ref×(aY Cell)):=
 aA.bind (aA.of (some (({ (default:fR) with fT:=min (max 1 J) 128 } :fR)))) fun bO=>
 aA.bind (aA.mk hp (Cell.j9 bO)) fun dn=>
 aA.ret ((some dn.1:Ref),dn.2)
def yx (hp:aY Cell)(J:Ref)(ai:au)(aL:Int)(cN:Int):aA (Bool×(aY Cell)):=
 aA.bind (aA.of (yd hp J ai aL)) fun aE=>
 cond (!aE) (
  aA.ret (false,hp)) (
  aA.bind (aA.of (ym hp J ai aL)) fun an=>
  aA.bind (aA.of (cH an.isSome true an)) fun cC=>
  aA.bind (aA.of (cH an.isSome true (cU hp cC))) fun c1=>
  cond (an.isSome&&c1.e6) (
   aA.ret (false,hp)) (
   aA.bind (aA.of J) fun cV=>
   aA.bind (aA.of (ga hp cV)) fun c2=>
   aA.bind (cond c2.eg.isNone (
     aA.bind (aA.mk hp (Cell.gv (default:dX))) fun a2=>
     aA.bind (aA.of (ga a2.2 cV)) fun Et=>
     aA.bind (aA.of (some (dx a2.2 cV (Cell.j9 ({ Et with eg:=(some a2.1:Ref) } :fR))))) fun vg=>
     aA.ret vg) (
     aA.ret hp)) fun m1=>
   aA.bind (aA.of (ga m1 cV)) fun gV=>
   aA.bind (aA.of (yl J ai aL)) fun br=>
   aA.bind (vO br.1 br.2.1 br.2.2 (σ:=Ref×(aY Cell)) (ε:=Empty) (fun(s2:Ref×(aY Cell))=>s2.2) (fun(zS:Int) (s2:Ref×(aY Cell))=>
     aA.bind (aA.of s2.1) fun l2=>
     aA.bind (aA.of (idx 2 zS)) fun aJ=>
     aA.bind (aA.of (cU s2.2 l2)) fun oU=>
     aA.bind (cond ((bF oU.db aJ).isNone) (
       aA.bind (aA.mk s2.2 (Cell.gv (default:dX))) fun dn=>
       aA.bind (aA.of (idx 2 zS)) fun dC=>
       aA.bind (aA.of (cU dn.2 l2)) fun l3=>
       aA.bind (aA.of (some (dx dn.2 l2 (Cell.gv ({ l3 with db:=dr l3.db dC (some dn.1:Ref) } :dX))))) fun dd=>
       aA.ret dd) (
       aA.ret s2.2)) fun m2=>
     aA.bind (aA.of (idx 2 zS)) fun bT=>
     aA.bind (aA.of (cU m2 l2)) fun pD=>
     aA.ret (.inl (bF pD.db bT,m2):(Ref×(aY Cell)) ⊕ Empty)) (gV.eg,m1)) fun aX=>
   Sum.elim (fun s2=>
    aA.bind (aA.of s2.1) fun rh=>
    aA.bind (aA.of (cU s2.2 rh)) fun Ah=>
    aA.bind (aA.of (some (dx s2.2 rh (Cell.gv ({ Ah with e6:=true } :dX))))) fun dq=>
    aA.bind (aA.of s2.1) fun ML=>
    aA.bind (aA.of (cU dq ML)) fun MM=>
    aA.bind (aA.of (some (dx dq ML (Cell.gv ({ MM with hQ:=cN } :dX))))) fun hB=>
    aA.ret (true,hB)) (fun dJ=>
    Empty.elim dJ) aX))
def AS (hp:aY Cell)(J:ha)(ai:ax):aA (aY Cell):=
 aA.bind (aA.of (vM J ai.bA)) fun aE=>
 aA.bind (aA.of J.ow.p) fun cC=>
 aA.bind (aA.of (j8 hp cC)) fun c1=>
 aA.bind (aA.of (some ((eh c1 aE.1).getD default))) fun bO=>
 aA.bind (cond bO.isNone (
   aA.bind (FC hp J.fT) fun br=>
   aA.bind (aA.of (j8 br.2 cC)) fun gV=>
   aA.bind (aA.of (some (dx br.2 cC (Cell.mh (ht gV aE.1 br.1))))) fun dd=>
   aA.ret dd) (
   aA.ret hp)) fun m1=>
 aA.bind (aA.of (j8 m1 cC)) fun c2=>
 aA.bind (aA.of (some ((eh c2 aE.1).getD default))) fun z2=>
 aA.bind (yx m1 z2 aE.2.1 aE.2.2 ai.cB) fun an=>
 aA.ret an.2
def vK (J:ax)(ai:Int):Option Bool:=
 some (J.cB==ai)
def vH (J:List ax)(ai:ax→Option Bool):Option Int:=
 (ey (σ:=Int) (ε:=(Int×Bool) ⊕ (Int×Int×Int×Bool×Bool)) et (fun s1=>
  cond (decide (s1<(J.length:Int))) (
   (idx J.length s1).bind fun aJ=>
   (ai (ay J aJ)).bind fun aE=>
   cond aE (
    some (.inr (Sum.inr (s1,s1,s1,decide (s1<(J.length:Int)),aE)))) (
    some (.inl (bE (s1+1))))) (
   some (.inr (Sum.inl (s1,decide (s1<(J.length:Int))))))) 0).bind fun aw=>
  Sum.elim (fun aw=>
   some (-1)) (fun aw=>
  some aw.1) aw
def Ip (J:cK)(ai:Int):Option Int:=
 (vH J.ch (fun a0=>vK a0 ai)).bind fun aE=>
 some aE
def An (J:List ax)(ai:ax)(aL:ax→ax→Option Int):Option (Int×Bool):=
 (ey (σ:=Int×Int) (ε:=(Int×Int×Bool)) et (fun s1=>
  cond (decide (s1.1<s1.2)) (
   (idx J.length (bE ((BitVec.ofInt 64 (bE (s1.1+s1.2))) >>> (1#64).toNat).toNat)).bind fun aJ=>
   (aL (ay J aJ) ai).bind fun aE=>
   (cond (decide (aE<0)) (
    (some (bE ((bE ((BitVec.ofInt 64 (bE (s1.1+s1.2))) >>> (1#64).toNat).toNat)+1))).bind fun bO=>
    some (bO,s1.2)) (
    some (s1.1,bE ((BitVec.ofInt 64 (bE (s1.1+s1.2))) >>> (1#64).toNat).toNat))).bind fun m1=>
   some (.inl (m1.1,m1.2))) (
   some (.inr (s1.1,s1.2,decide (s1.1<s1.2))))) (0,(J.length:Int))).bind fun aw=>
 (cH (decide (aw.1<(J.length:Int))) true (idx J.length aw.1)).bind fun bT=>
 (cH (decide (aw.1<(J.length:Int))) true (aL (ay J bT) ai)).bind fun an=>
 some (aw.1,(decide (aw.1<(J.length:Int)))&&(an==0))
def Bi (J:Int):Option Bool:=
 some (J !=J)
def pK (J:Int)(ai:Int):Option Int:=
 (Bi J).bind fun aE=>
 (Bi ai).bind fun an=>
 cond aE (
  cond an (
   some 0) (
   some (-1))) (
  cond an (
   some 1) (
   cond (decide (J<ai)) (
    some (-1)) (
    cond (decide (J>ai)) (
     some 1) (
     some 0))))
def yG (J:aQ)(ai:bd):Option (bl×Bool):=
 (tY J ai.dB).bind fun aE=>
 cond (decide (aE<0)) (
  some ((default:bl),false)) (
  (idx J.bh.length aE).bind fun aJ=>
  some (ay J.bh aJ,true))
def Au (J:List cW)(ai:cW→Option Bool):Option Int:=
 (ey (σ:=Int) (ε:=(Int×Bool) ⊕ (Int×Int×Int×Bool×Bool)) et (fun s1=>
  cond (decide (s1<(J.length:Int))) (
   (idx J.length s1).bind fun aJ=>
   (ai (ay J aJ)).bind fun aE=>
   cond aE (
    some (.inr (Sum.inr (s1,s1,s1,decide (s1<(J.length:Int)),aE)))) (
    some (.inl (bE (s1+1))))) (
   some (.inr (Sum.inl (s1,decide (s1<(J.length:Int))))))) 0).bind fun aw=>
  Sum.elim (fun aw=>
   some (-1)) (fun aw=>
  some aw.1) aw
def Iz (J:cW):Option Bool:=
 some (J.cO==2)
def yC (J:aQ)(ai:bd):Option Int:=
 (yG J ai).bind fun aE=>
 (Au aE.1.b4 Iz).bind fun an=>
 (some (((!aE.2)||(decide (an<0)))||(decide (an≥ (ai.bY.length:Int))))).bind fun bO=>
 cond bO (
  some 0) (
  (idx ai.bY.length an).bind fun aJ=>
  some ((ay ai.bY aJ).dK))
def sr (J:List Int):Option Int:=
 (ey (σ:=Int) (ε:=(Int×Bool) ⊕ (Int×Int×Int×Bool×Bool)) et (fun s1=>
  cond (decide (s1<(J.length:Int))) (
   (idx J.length s1).bind fun aJ=>
   cond ((ay J aJ) !=0) (
    some (.inr (Sum.inr (ay J aJ,ay J aJ,s1,decide (s1<(J.length:Int)),(ay J aJ) !=0)))) (
    some (.inl (bE (s1+1))))) (
   some (.inr (Sum.inl (s1,decide (s1<(J.length:Int))))))) 0).bind fun aw=>
  Sum.elim (fun aw=>
   some 0) (fun aw=>
  some aw.1) aw
def yH (J:aQ)(ai:ax)(aL:ax):Option Bool:=
 (pK ai.bA.fG aL.bA.fG).bind fun aE=>
 (yC J ai.bA).bind fun an=>
 (yC J aL.bA).bind fun br=>
 (pK an br).bind fun cc=>
 (pK ai.cB aL.cB).bind fun bz=>
 (sr [aE,cc,bz]).bind fun cg=>
 some (decide (cg>0))
def x6 (J:cK)(ai:ax)(aL:ax):Option Int:=
 (yH J.o6 ai aL).bind fun aE=>
 cond aE (
  some (-1)) (
  (yH J.o6 aL ai).bind fun an=>
  cond an (
   some 1) (
   some 0))
def EN (J:List ax)(ai:Int)(aL:List ax):Option (List ax):=Dx 88 J ai aL
def AB (J:cK)(ai:ax):Option (Bool×cK):=
 (cH false false (Ip J ai.cB)).bind fun aE=>
 cond (false||(decide (aE≥0))) (
  some (false,J)) (
  (An J.ch ai (fun a0 dn=>x6 J a0 dn)).bind fun an=>
  (oi ai).bind fun br=>
  (EN J.ch an.1 [br]).bind fun cc=>
  some (true,({ J with ch:=cc } :cK)))
def A8 (hp:aY Cell)(J:jK)(ai:ax):aA (aY Cell):=
 aA.bind (aA.of J.ch) fun cC=>
 aA.bind (aA.of (oI hp cC)) fun c1=>
 aA.bind (aA.of (AB c1.1 ai)) fun aE=>
 aA.bind (aA.any (Option Nat×Nat)) fun aq=>
 aA.bind (aA.of (some (dx hp cC (Cell.rQ aE.2 aq.1 aq.2)))) fun dd=>
 aA.ret dd
def Ix (hp:aY Cell)(y:gO)(J:ax):aA (aY Cell):=match y with
 | .nil=>fun _=>False
 | .mK z=>aA.of (A7 hp z J)
 | .mL z=>AS hp z J
 | .mM z=>A8 hp z J
def Bf (hp:aY Cell)(J:Ref)(ai:ax):aA (Bool×(aY Cell)):=
 cond J.isNone (
  aA.ret (false,hp)) (
  aA.bind (aA.of J) fun cC=>
  aA.bind (aA.of (iw hp cC)) fun c1=>
  aA.bind (aA.of c1.ki.p) fun cV=>
  aA.bind (aA.of (mf hp cV)) fun c2=>
  aA.bind (aA.of (some (eh c2 ai.cB))) fun bO=>
  aA.bind (aA.of J) fun l2=>
  aA.bind (aA.of (iw hp l2)) fun gV=>
  aA.bind (aA.of (E4 hp gV.jc ai.bA)) fun aE=>
  cond (aE.2||bO.isSome) (
   aA.ret (false,hp)) (
   aA.bind (aA.of J) fun HT=>
   aA.bind (aA.of (iw hp HT)) fun oU=>
   aA.bind (aA.of (oi ai)) fun an=>
   aA.bind (aA.of oU.ki.p) fun rf=>
   aA.bind (aA.of (mf hp rf)) fun pD=>
   aA.bind (aA.of (some (dx hp rf (Cell.kI (ht pD ai.cB an))))) fun dd=>
   aA.bind (aA.of (iw dd HT)) fun l3=>
   aA.bind (Ix dd l3.jc ai) fun br=>
   aA.ret (true,br)))
def ru (J:au):Option (Vector Bool 128):=
 (ey (σ:=Int×(Vector Bool 128)) (ε:=(Int×Bool×(Vector Bool 128))) et (fun s1=>
  cond (decide (s1.1<64)) (
   (idx 128 s1.1).bind fun aJ=>
   (some (dr s1.2 aJ (((J.bS >>> (BitVec.ofInt 64 s1.1).toNat)&&&(1#64))==(1#64)))).bind fun bO=>
   (idx 128 (bE (s1.1+64))).bind fun bT=>
   (some (dr bO bT (((J.cZ >>> (BitVec.ofInt 64 s1.1).toNat)&&&(1#64))==(1#64)))).bind fun z2=>
   some (.inl (bE (s1.1+1),z2))) (
   some (.inr (s1.1,decide (s1.1<64),s1.2)))) (0,(default:Vector Bool 128))).bind fun aw=>
 some aw.2.2
def pM (J:au)(ai:au):Option Int:=
 (ru J).bind fun aE=>
 (ru ai).bind fun an=>
 (ey (σ:=Int) (ε:=(Int×Bool) ⊕ (Int×Int×Bool×Bool×Bool)) et (fun s1=>
  cond (decide (s1≥0)) (
   (idx 128 s1).bind fun aJ=>
   (idx 128 s1).bind fun bT=>
   cond ((bF aE aJ) !=(bF an bT)) (
    (idx 128 s1).bind fun dC=>
    cond (bF an dC) (
     some (.inr (Sum.inr ((-1),s1,decide (s1≥0),(bF aE aJ) !=(bF an bT),bF an dC)))) (
     some (.inr (Sum.inr (1,s1,decide (s1≥0),(bF aE aJ) !=(bF an bT),bF an dC))))) (
    some (.inl (bE (s1 - 1))))) (
   some (.inr (Sum.inl (s1,decide (s1≥0)))))) 127).bind fun aw=>
  Sum.elim (fun aw=>
   some 0) (fun aw=>
  some aw.1) aw
def o3 (J:Int)(ai:Int):Option Int:=
 cond (decide (J<ai)) (
  some (-1)) (
  cond (decide (J>ai)) (
   some 1) (
   some 0))
def vV (J:b5)(ai:b5):Option Int:=
 cond ((J.ff !=ai.ff)&&ai.ff) (
  some (-1)) (
  cond (J.ff !=ai.ff) (
   some 1) (
   cond (!decide (J.cM=ai.cM)) (
    (pM J.cM ai.cM).bind fun aE=>
    some aE) (
    cond (!decide (J.fE=ai.fE)) (
     (pM J.fE ai.fE).bind fun an=>
     some an) (
     cond (J.dK !=ai.dK) (
      (o3 J.dK ai.dK).bind fun br=>
      some br) (
      (pM J.jr ai.jr).bind fun cc=>
      some cc)))))
def tZ (J:List b5)(ai:List b5):Option Int:=
 (ey (σ:=Int) (ε:=(Int×Bool) ⊕ (Int×Int×Int×Bool×Bool)) et (fun s1=>
  cond ((decide (s1<(J.length:Int)))&&(decide (s1<(ai.length:Int)))) (
   (idx J.length s1).bind fun aJ=>
   (idx ai.length s1).bind fun bT=>
   (vV (ay J aJ) (ay ai bT)).bind fun aE=>
   cond (aE !=0) (
    some (.inr (Sum.inr (aE,s1,aE,(decide (s1<(J.length:Int)))&&(decide (s1<(ai.length:Int))),aE !=0)))) (
    some (.inl (bE (s1+1))))) (
   some (.inr (Sum.inl (s1,(decide (s1<(J.length:Int)))&&(decide (s1<(ai.length:Int)))))))) 0).bind fun aw=>
  Sum.elim (fun aw=>
   (o3 (J.length:Int) (ai.length:Int)).bind fun an=>
   some an) (fun aw=>
  some aw.1) aw
def vQ (J:bd)(ai:bd):Option Bool:=
 (cH ((J.dB==ai.dB)&&(J.fG==ai.fG)) true (tZ J.bY ai.bY)).bind fun aE=>
 (some (((J.dB==ai.dB)&&(J.fG==ai.fG))&&(aE==0))).bind fun bO=>
 some bO
def vS (J:List au)(ai:List au):Option Int:=
 (ey (σ:=Int) (ε:=(Int×Bool) ⊕ (Int×Int×Int×Bool×Bool)) et (fun s1=>
  cond ((decide (s1<(J.length:Int)))&&(decide (s1<(ai.length:Int)))) (
   (idx J.length s1).bind fun aJ=>
   (idx ai.length s1).bind fun bT=>
   (pM (ay J aJ) (ay ai bT)).bind fun aE=>
   cond (aE !=0) (
    some (.inr (Sum.inr (aE,s1,aE,(decide (s1<(J.length:Int)))&&(decide (s1<(ai.length:Int))),aE !=0)))) (
    some (.inl (bE (s1+1))))) (
   some (.inr (Sum.inl (s1,(decide (s1<(J.length:Int)))&&(decide (s1<(ai.length:Int)))))))) 0).bind fun aw=>
  Sum.elim (fun aw=>
   (o3 (J.length:Int) (ai.length:Int)).bind fun an=>
   some an) (fun aw=>
  some aw.1) aw
def ua (J:bd)(ai:bd):Option Int:=
 (o3 J.dB ai.dB).bind fun aE=>
 (o3 ai.fG J.fG).bind fun an=>
 (tZ J.bY ai.bY).bind fun br=>
 (o3 J.jd ai.jd).bind fun cc=>
 (ey (σ:=Int) (ε:=(Int×Bool) ⊕ (Int×Int×Int×Bool×Bool)) et (fun s1=>
  cond (decide (s1<([aE,an,br,cc].length:Int))) (
   (idx ([aE,an,br,cc].length) s1).bind fun aJ=>
   cond ((ay [aE,an,br,cc] aJ) !=0) (
    some (.inr (Sum.inr (ay [aE,an,br,cc] aJ,ay [aE,an,br,cc] aJ,s1,decide (s1<([aE,an,br,cc].length:Int)),(ay [aE,an,br,cc] aJ) !=0)))) (
    some (.inl (bE (s1+1))))) (
   some (.inr (Sum.inl (s1,decide (s1<([aE,an,br,cc].length:Int))))))) 0).bind fun aw=>
  Sum.elim (fun aw=>
   (vS J.hX ai.hX).bind fun bz=>
   some bz) (fun aw=>
  some aw.1) aw
def Bc (J:bJ)(ai:ax):Option (Bool×bJ):=
 (ey (σ:=Int×Int) (ε:=(Int×Int×Bool) ⊕ (Int×Int×Int×Bool×Bool)) et (fun s1=>
  cond (decide (s1.2<(J.b0.length:Int))) (
   (idx J.b0.length s1.2).bind fun aJ=>
   (vQ ai.bA ((ay J.b0 aJ).bA)).bind fun aE=>
   cond (aE||(ai.cB==((ay J.b0 aJ).cB))) (
    some (.inr (Sum.inr (s1.1,s1.2,s1.2,decide (s1.2<(J.b0.length:Int)),aE||(ai.cB==((ay J.b0 aJ).cB)))))) (
    (ua ((ay J.b0 aJ).bA) ai.bA).bind fun an=>
    (cond (decide (an<0)) (
     some (bE (s1.2+1))) (
     some s1.1)).bind fun m1=>
    some (.inl (m1,bE (s1.2+1))))) (
   some (.inr (Sum.inl (s1.1,s1.2,decide (s1.2<(J.b0.length:Int))))))) (0,0)).bind fun aw=>
  Sum.elim (fun aw=>
   (qz J.b0 0 aw.1).bind fun br=>
   (hf 88 ([]:List ax) br).bind fun cc=>
   (hf 88 cc [ai]).bind fun bz=>
   (qz J.b0 aw.1 J.b0.length).bind fun cg=>
   (hf 88 bz cg).bind fun cA=>
   some (true,({ J with b0:=cA } :bJ))) (fun aw=>
  some (false,J)) aw
def yc (hp:aY Cell)(J:Ref)(ai:Int)(aL:Bool):Option (ax×Bool):=
 cond (!aL) (
  some ((default:ax),false)) (
  J.bind fun cC=>
  (iw hp cC).bind fun c1=>
  c1.ki.p.bind fun cV=>
  (mf hp cV).bind fun c2=>
  (some ((eh c2 ai).getD default)).bind fun bO=>
  (oi bO).bind fun aE=>
  some (aE,true))
def yg (hp:aY Cell)(J:Ref)(ai:bd):Option (ax×Bool):=
 cond J.isNone (
  some ((default:ax),false)) (
  J.bind fun cC=>
  (iw hp cC).bind fun c1=>
  (E4 hp c1.jc ai).bind fun aE=>
  (yc hp J aE.1 aE.2).bind fun an=>
  some (an.1,an.2))
def E3 (hp:aY Cell)(J:Ref)(ai:Vector au 4):Option (Bool×(aY Cell)):=
 (tW hp J ai).bind fun aE=>
 cond (!aE.2) (
  some (false,hp)) (
  J.bind fun cC=>
  (nh hp cC).bind fun c1=>
  c1.pf.p.bind fun cV=>
  (me hp cV).bind fun c2=>
  (some (dx hp cV (Cell.oL (iy c2 ai)))).bind fun dd=>
  some (true,dd))
def AF (hp:aY Cell)(J:kg)(ai:ax):Option (aY Cell):=
 (ub ai.bA).bind fun aE=>
 (E3 hp J.qQ aE).bind fun an=>
 some an.2
def yi (hp:aY Cell)(J:Ref):Option Bool:=
 J.bind fun cC=>
 (cU hp cC).bind fun c1=>
 (cH (!c1.e6) true J).bind fun cV=>
 (cH (!c1.e6) true (cU hp cV)).bind fun c2=>
 some ((!c1.e6)&&(decide (c2.db=(default:Vector Ref 2))))
def yf (hp:aY Cell)(J:Ref)(ai:au)(aL:Int):Option (Bool×(aY Cell)):=
 (vR hp J ai aL).bind fun aE=>
 cond (!aE.2) (
  some (false,hp)) (
  J.bind fun cC=>
  (ga hp cC).bind fun c1=>
  (yl J ai aL).bind fun an=>
  (qm hp an.1 an.2.1 an.2.2 (σ:=(List Int)×(List Ref)) (ε:=Empty) (fun(pr:Int) (s1:(List Int)×(List Ref))=>
   (idx s1.2.length (bE ((s1.2.length:Int) - 1))).bind fun aJ=>
   ((ay s1.2 aJ)).bind fun cV=>
   (idx 2 pr).bind fun bT=>
   (cU hp cV).bind fun c2=>
   (hf 8 s1.2 [bF c2.db bT]).bind fun br=>
   (hf 8 s1.1 [pr]).bind fun cc=>
   some (.inl (cc,br))) (([]:List Int),[c1.eg])).bind fun aw=>
  Sum.elim (fun s1=>
   (idx s1.2.length aL).bind fun dC=>
   ((ay s1.2 dC)).bind fun l2=>
   (cU hp l2).bind fun gV=>
   (some (dx hp l2 (Cell.gv ({ gV with e6:=false } :dX)))).bind fun dd=>
   (cU dd l2).bind fun oU=>
   (some (dx dd l2 (Cell.gv ({ oU with hQ:=0 } :dX)))).bind fun dq=>
   (ey (σ:=Int×(aY Cell)) (ε:=(Int×Bool×(aY Cell))) et (fun s2=>
    (cH (decide (s2.1≥0)) true (idx s1.2.length (bE (s2.1+1)))).bind fun gU=>
    (cH (decide (s2.1≥0)) true (yi s2.2 (ay s1.2 gU))).bind fun bz=>
    cond ((decide (s2.1≥0))&&bz) (
     (idx s1.2.length s2.1).bind fun qh=>
     (idx s1.1.length s2.1).bind fun xT=>
     ((ay s1.2 qh)).bind fun rf=>
     (idx 2 (ay s1.1 xT)).bind fun DQ=>
     (cU s2.2 rf).bind fun pD=>
     (some (dx s2.2 rf (Cell.gv ({ pD with db:=dr pD.db DQ (none:Ref) } :dX)))).bind fun hB=>
     some (.inl (bE (s2.1 - 1),hB))) (
     some (.inr (s2.1,(decide (s2.1≥0))&&bz,s2.2)))) (bE (aL - 1),dq)).bind fun aX=>
   (ga aX.2.2 cC).bind fun l3=>
   (yi aX.2.2 l3.eg).bind fun cg=>
   (cond cg (
    (some (dx aX.2.2 cC (Cell.j9 ({ l3 with eg:=(none:Ref) } :fR)))).bind fun vg=>
    some vg) (
    some aX.2.2)).bind fun m1=>
   some (true,m1)) (fun aq=>
   Empty.elim aq) aw)
def EV (hp:aY Cell)(J:Ref)(ai:au)(aL:Int)(cN:List dD):Option (List dD):=
 J.bind fun cC=>
 (cU hp cC).bind fun c1=>
 (cond c1.e6 (
  (hf 32 cN [{ cM:=ai,wi:=aL,bV:=c1.hQ:dD }]).bind fun aE=>
  some aE) (
  some cN)).bind fun m1=>
 some m1
def IP (J:BitVec 64):Option au:=
 some ({ (default:au) with bS:=J } :au)
def By (J:au)(ai:Int):Option au:=
 cond (decide (ai≤0)) (
  some J) (
  cond (decide (ai≥64)) (
   (some (({ (default:au) with cZ:=J.bS <<< (BitVec.ofInt 64 (bE (ai - 64))).toNat } :au))).bind fun bO=>
   some bO) (
   (some ((J.cZ <<< (BitVec.ofInt 64 ai).toNat)|||(J.bS >>> (BitVec.ofInt 64 (bE (64 - ai))).toNat))).bind fun z2=>
   (some ({ cZ:=z2,bS:=J.bS <<< (BitVec.ofInt 64 ai).toNat:au })).bind fun z3=>
   some z3))
def IQ (J:au)(ai:au):Option au:=
 (some ({ cZ:=J.cZ|||ai.cZ,bS:=J.bS|||ai.bS:au })).bind fun bO=>
 some bO
def vI:Nat→ (aY Cell)→Ref→Ref→au→Int→ (List dD)→Option (List dD)
 | 0=>fun _ _ _ _ _ _=>none
 | n+1=>fun hp J ai aL cN iR=>
   cond ai.isNone (
    some iR) (
    (EV hp ai aL cN iR).bind fun aE=>
    ai.bind fun cC=>
    (cU hp cC).bind fun c1=>
    (vI n hp J (bF c1.db 0) aL (bE (cN+1)) aE).bind fun an=>
    (IP (1#64)).bind fun br=>
    J.bind fun cV=>
    (ga hp cV).bind fun c2=>
    (By br (bE ((bE (c2.fT - 1)) - cN))).bind fun cc=>
    (IQ aL cc).bind fun bz=>
    (vI n hp J (bF c1.db 1) bz (bE (cN+1)) an).bind fun cg=>
    some cg)
def H9 (hp:aY Cell)(J:Ref)(ai:Ref)(aL:au)(cN:Int)(iR:List dD):Option (List dD):=vI et hp J ai aL cN iR
def EO (hp:aY Cell)(J:Ref)(aL:List dD):Option (List dD):=
 (cond J.isSome (
  J.bind fun cC=>
  (ga hp cC).bind fun c1=>
  (H9 hp J c1.eg (default:au) 0 aL).bind fun aE=>
  some aE) (
  some aL)).bind fun m1=>
 some m1
def Fm (hp:aY Cell)(J:Ref):Option (List dD):=
 (EO hp J ([]:List dD)).bind fun aE=>
 some aE
def yv (hp:aY Cell)(J:Ref):Option Int:=
 (Fm hp J).bind fun aE=>
 some (aE.length:Int)
def Az (hp:aY Cell)(J:ha)(ai:ax):Option (aY Cell):=
 (vM J ai.bA).bind fun aE=>
 J.ow.p.bind fun cC=>
 (j8 hp cC).bind fun c1=>
 (some ((eh c1 aE.1).getD default)).bind fun bO=>
 (yf hp bO aE.2.1 aE.2.2).bind fun an=>
 (j8 an.2 cC).bind fun c2=>
 (some ((eh c2 aE.1).getD default)).bind fun z2=>
 (yv an.2 z2).bind fun br=>
 (cond (br==0) (
  (some (dx an.2 cC (Cell.mh (iy c2 aE.1)))).bind fun dd=>
  some dd) (
  some an.2)).bind fun m1=>
 some m1
def EU (J:cK)(ai:Int):Option Int:=
 (vH J.ch (fun a0=>vK a0 ai)).bind fun aE=>
 some aE
def H8 (J:List ax)(ai:Int)(aL:Int):Option (List ax):=Dy J ai aL
def Av (J:cK)(ai:Int):Option (Bool×cK):=
 (EU J ai).bind fun aE=>
 cond (decide (aE<0)) (
  some (false,J)) (
  (H8 J.ch aE (bE (aE+1))).bind fun an=>
  some (true,({ J with ch:=an } :cK)))
def AG (hp:aY Cell)(J:jK)(ai:ax):aA (aY Cell):=
 aA.bind (aA.of J.ch) fun cC=>
 aA.bind (aA.of (oI hp cC)) fun c1=>
 aA.bind (aA.of (Av c1.1 ai.cB)) fun aE=>
 aA.bind (aA.any (Option Nat×Nat)) fun aq=>
 aA.bind (aA.of (some (dx hp cC (Cell.rQ aE.2 aq.1 aq.2)))) fun dd=>
 aA.ret dd
def Ij (hp:aY Cell)(y:gO)(J:ax):aA (aY Cell):=match y with
 | .nil=>fun _=>False
 | .mK z=>aA.of (AF hp z J)
 | .mL z=>aA.of (Az hp z J)
 | .mM z=>AG hp z J
def AT (hp:aY Cell)(J:Ref)(ai:bd):aA (ax×Bool×(aY Cell)):=
 aA.bind (aA.of (yg hp J ai)) fun aE=>
 aA.bind (cond aE.2 (
   aA.bind (aA.of J) fun cC=>
   aA.bind (aA.of (iw hp cC)) fun c1=>
   aA.bind (Ij hp c1.jc aE.1) fun an=>
   aA.bind (aA.of (iw an cC)) fun c2=>
   aA.bind (aA.of c2.ki.p) fun cV=>
   aA.bind (aA.of (mf an cV)) fun gV=>
   aA.bind (aA.of (some (dx an cV (Cell.kI (iy gV aE.1.cB))))) fun dd=>
   aA.ret dd) (
   aA.ret hp)) fun m1=>
 aA.ret (aE.1,aE.2,m1)
def ye (J:bJ)(ai:bd):Option (ax×Bool):=
 (ey (σ:=Int) (ε:=(Int×Bool) ⊕ (Bool×Int×Bool×Bool×ax)) et (fun s1=>
  cond (decide (s1<(J.b0.length:Int))) (
   (idx J.b0.length s1).bind fun aJ=>
   (vQ ai ((ay J.b0 aJ).bA)).bind fun aE=>
   cond aE (
    some (.inr (Sum.inr (true,s1,decide (s1<(J.b0.length:Int)),aE,(ay J.b0 aJ))))) (
    some (.inl (bE (s1+1))))) (
   some (.inr (Sum.inl (s1,decide (s1<(J.b0.length:Int))))))) 0).bind fun aw=>
  Sum.elim (fun aw=>
   some ((default:ax),false)) (fun aw=>
  some (aw.2.2.2.2,aw.1)) aw
def AQ (J:bJ)(ai:bd):Option (ax×Bool×bJ):=
 (ye J ai).bind fun aE=>
 (ey (σ:=Int×(List ax)) (ε:=(Int×Bool×(List ax))) et (fun s1=>
  cond (decide (s1.1<(J.b0.length:Int))) (
   (idx J.b0.length s1.1).bind fun aJ=>
   (vQ ai ((ay J.b0 aJ).bA)).bind fun an=>
   (cond (!an) (
    (hf 88 s1.2 [(ay J.b0 aJ)]).bind fun br=>
    some br) (
    some s1.2)).bind fun m1=>
   some (.inl (bE (s1.1+1),m1))) (
   some (.inr (s1.1,decide (s1.1<(J.b0.length:Int)),s1.2)))) (0,([]:List ax))).bind fun aw=>
 some (aE.1,aE.2,({ J with b0:=aw.2.2 } :bJ))
def AY (J:aV):Option ((Vector au 4)×aV):=
 (ey (σ:=Int×(Vector au 4)×aV) (ε:=(Int×Bool×(Vector au 4)×aV)) et (fun s1=>
  cond (decide (s1.1<4)) (
   (fQ s1.2.2 256).bind fun aE=>
   (some (({ (default:au) with bS:=BitVec.ofInt 64 aE.1 } :au))).bind fun bO=>
   (idx 4 s1.1).bind fun aJ=>
   (fQ aE.2 4).bind fun an=>
   (cond (an.1==1) (
    (idx 4 s1.1).bind fun bT=>
    (fQ an.2 256).bind fun br=>
    (some ((((bF (dr s1.2.1 aJ bO) bT).bS) <<< (24#64).toNat)|||(BitVec.ofInt 64 br.1))).bind fun z2=>
    (idx 4 s1.1).bind fun dC=>
    (some (dr (dr s1.2.1 aJ bO) dC ({ (bF (dr s1.2.1 aJ bO) dC) with bS:=z2 } :au))).bind fun z3=>
    some (br.2,z3)) (
    some (an.2,dr s1.2.1 aJ bO))).bind fun m1=>
   some (.inl (bE (s1.1+1),m1.2,m1.1))) (
   some (.inr (s1.1,decide (s1.1<4),s1.2.1,s1.2.2)))) (0,(default:Vector au 4),J)).bind fun aw=>
 some (aw.2.2.1,aw.2.2.2)
def Bq (J:bd)(ai:Vector au 4):Option (Vector au 4):=
 (ey (σ:=Int×(Vector au 4)) (ε:=(Int×Bool×(Vector au 4))) et (fun s1=>
  cond (decide (s1.1<(J.bY.length:Int))) (
   (idx J.bY.length s1.1).bind fun aJ=>
   cond ((decide (s1.1≥4))||(!((ay J.bY aJ).ff))) (
    some (.inl (bE (s1.1+1),s1.2))) (
    (cond (!decide ((ay J.bY aJ).fE=(default:au))) (
     (idx 4 s1.1).bind fun bT=>
     (some ((((bF s1.2 bT).bS)&&& ~~~(((ay J.bY aJ).fE).bS))|||(((ay J.bY aJ).cM).bS))).bind fun bO=>
     (idx 4 s1.1).bind fun dC=>
     (some ((((bF s1.2 dC).cZ)&&& ~~~(((ay J.bY aJ).fE).cZ))|||(((ay J.bY aJ).cM).cZ))).bind fun z2=>
     (idx 4 s1.1).bind fun gU=>
     (idx 4 s1.1).bind fun tF=>
     (some (dr (dr s1.2 gU ({ (bF s1.2 gU) with bS:=bO } :au)) tF ({ (bF (dr s1.2 gU ({ (bF s1.2 gU) with bS:=bO } :au)) tF) with cZ:=z2 } :au))).bind fun z3=>
     some z3) (
     (some ((decide (((ay J.bY aJ).dK)>0))&&(decide (((ay J.bY aJ).dK)≤32)))).bind fun z4=>
     (cond z4 (
      (idx 4 s1.1).bind fun vz=>
      (some ((1#64) <<< (BitVec.ofInt 64 (bE (32 - ((ay J.bY aJ).dK)))).toNat)).bind fun z5=>
      (some ((((ay J.bY aJ).cM).bS)|||(((bF s1.2 vz).bS)&&&(z5 - (1#64))))).bind fun jW=>
      (idx 4 s1.1).bind fun HR=>
      (some (dr s1.2 HR ({ (default:au) with bS:=jW } :au))).bind fun jX=>
      some jX) (
      (idx 4 s1.1).bind fun qh=>
      some (dr s1.2 qh ((ay J.bY aJ).cM)))).bind fun m2=>
     some m2)).bind fun m1=>
    some (.inl (bE (s1.1+1),m1)))) (
   some (.inr (s1.1,decide (s1.1<(J.bY.length:Int)),s1.2)))) (0,ai)).bind fun aw=>
 some aw.2.2
def AD (hp:aY Cell)(J:kg)(ai:Vector au 4):Option (Int×Bool):=
 (tW hp J.qQ ai).bind fun aE=>
 some (aE.1,aE.2)
def yj (J:BitVec 64):Option Int:=
 (cond (decide (J≥ (4294967296#64))) (
  some (J >>> (32#64).toNat,32)) (
  some (J,0))).bind fun m1=>
 (cond (decide (m1.1≥ (65536#64))) (
  some (m1.1 >>> (16#64).toNat,bE (m1.2+16))) (
  some (m1.1,m1.2))).bind fun m2=>
 (cond (decide (m2.1≥ (256#64))) (
  some (m2.1 >>> (8#64).toNat,bE (m2.2+8))) (
  some (m2.1,m2.2))).bind fun m3=>
 (Dz (ByteArray.mk (List.toArray (List.append (List.append [0,1,2,2,3,3,3,3,4,4,4,4,4,4,4,4,5,5,5,5,5,5,5,5,5,5,5,5,5,5,5,5,6,6,6,6,6,6,6,6,6,6,6,6,6,6,6,6,6,6,6,6,6,6,6,6,6,6,6,6,6,6,6,6] [7,7,7,7,7,7,7,7,7,7,7,7,7,7,7,7,7,7,7,7,7,7,7,7,7,7,7,7,7,7,7,7,7,7,7,7,7,7,7,7,7,7,7,7,7,7,7,7,7,7,7,7,7,7,7,7,7,7,7,7,7,7,7,7]) (List.append [8,8,8,8,8,8,8,8,8,8,8,8,8,8,8,8,8,8,8,8,8,8,8,8,8,8,8,8,8,8,8,8,8,8,8,8,8,8,8,8,8,8,8,8,8,8,8,8,8,8,8,8,8,8,8,8,8,8,8,8,8,8,8,8] [8,8,8,8,8,8,8,8,8,8,8,8,8,8,8,8,8,8,8,8,8,8,8,8,8,8,8,8,8,8,8,8,8,8,8,8,8,8,8,8,8,8,8,8,8,8,8,8,8,8,8,8,8,8,8,8,8,8,8,8,8,8,8,8])))) ((m3.1.setWidth 8).toNat:Int)).bind fun aE=>
 some (bE (m3.2+(aE.toNat:Int)))
def Fw (J:au):Option Int:=
 cond (J.cZ !=(0#64)) (
  (yj J.cZ).bind fun aE=>
  some (bE (64+aE))) (
  (yj J.bS).bind fun an=>
  some an)
def Bz (J:au)(ai:Int):Option Bool:=
 (Fw J).bind fun aE=>
 some (decide (aE≤ai))
def vL (hp:aY Cell)(J:Ref)(ai:Int)(aL:Int)(cN:Int)(HS:Bool):Option (Int×Int×Bool):=
 (cH J.isSome true J).bind fun cC=>
 (cH J.isSome true (cU hp cC)).bind fun c1=>
 (cond (J.isSome&&c1.e6) (
  J.bind fun cV=>
  (cU hp cV).bind fun c2=>
  some (ai,c2.hQ,true)) (
  some (aL,cN,HS))).bind fun m1=>
 some (m1.1,m1.2.1,m1.2.2)
def A4 (hp:aY Cell)(J:Ref)(ai:au):Option (Int×Int×Bool):=
 (cH J.isNone false J).bind fun cC=>
 (cH J.isNone false (ga hp cC)).bind fun c1=>
 (cH J.isNone false (Bz ai c1.fT)).bind fun aE=>
 cond (J.isNone||(!aE)) (
  some (0,0,false)) (
  J.bind fun cV=>
  (ga hp cV).bind fun c2=>
  (vL hp c2.eg 0 0 0 false).bind fun an=>
  (yl J ai c2.fT).bind fun br=>
  (qm hp br.1 br.2.1 br.2.2 (σ:=Ref×Int×Int×Int×Bool) (ε:=Ref×Int×Int×Int×Bool) (fun(pr:Int) (s1:Ref×Int×Int×Int×Bool)=>
   cond s1.1.isNone (
    some (.inr (s1.1,s1.2.1,s1.2.2.1,s1.2.2.2.1,s1.2.2.2.2))) (
    s1.1.bind fun l2=>
    (idx 2 pr).bind fun aJ=>
    (cU hp l2).bind fun gV=>
    (vL hp (bF gV.db aJ) (bE (s1.2.1+1)) s1.2.2.1 s1.2.2.2.1 s1.2.2.2.2).bind fun cc=>
    some (.inl (bF gV.db aJ,bE (s1.2.1+1),cc.1,cc.2.1,cc.2.2)))) (c2.eg,0,an.1,an.2.1,an.2.2)).bind fun aw=>
  Sum.elim (fun s1=>
   some (s1.2.2.1,s1.2.2.2.1,s1.2.2.2.2)) (fun dJ=>
   some (dJ.2.2.1,dJ.2.2.2.1,dJ.2.2.2.2)) aw)
def Ay (hp:aY Cell)(J:ha)(ai:Vector au 4):Option (Int×Bool):=
 (x5 J ai).bind fun aE=>
 J.ow.p.bind fun cC=>
 (j8 hp cC).bind fun c1=>
 (some ((eh c1 aE.1).getD default)).bind fun bO=>
 (vW J.fT).bind fun an=>
 (uc aE.2 an).bind fun br=>
 (A4 hp bO br).bind fun cc=>
 some (cc.2.1,cc.2.2)
def Ic (ai:Vector au 4):Option (Vector au 4):=
 some ai
def Br (J:aQ)(ai:cW):Option Int:=
 (yo J ai.hr).bind fun aE=>
 cond (decide (aE<0)) (
  some 0) (
  (idx J.fS.length aE).bind fun aJ=>
  some ((ay J.fS aJ).fH))
def pL (J:au)(ai:au):Option Int:=
 cond (decide (J=ai)) (
  some 0) (
  (some ((decide (J.cZ<ai.cZ))||((J.cZ==ai.cZ)&&(decide (J.bS<ai.bS))))).bind fun bO=>
  cond bO (
   some (-1)) (
   some 1))
def Bt (J:b5)(ai:Int)(aL:Int)(cN:au):Option Bool:=
 cond (!J.ff) (
  some ((decide (ai≥1))&&(decide (ai≤4)))) (
  cond (ai==1) (
   some (decide (cN=J.cM))) (
   cond (ai==2) (
    (yt aL J.dK).bind fun aE=>
    (uc cN aE).bind fun an=>
    (uc J.cM aE).bind fun br=>
    some (decide (an=br))) (
    cond (ai==3) (
     (uc cN J.fE).bind fun cc=>
     some (decide (cc=J.cM))) (
     cond (ai==4) (
      (pL J.cM cN).bind fun bz=>
      (cH (decide (bz≤0)) true (pL cN J.jr)).bind fun cg=>
      some ((decide (bz≤0))&&(decide (cg≤0)))) (
      some false)))))
def yw (J:aQ)(ai:bd)(aL:Vector au 4):Option Bool:=
 (yG J ai).bind fun aE=>
 cond (!aE.2) (
  some false) (
  (ey (σ:=Int) (ε:=(Int×Bool) ⊕ (Int×Int×Bool×Bool)) et (fun s1=>
   cond (decide (s1<(aE.1.b4.length:Int))) (
    (idx aE.1.b4.length s1).bind fun aJ=>
    (cH ((decide (s1≥ (ai.bY.length:Int)))||(decide (s1≥4))) false (idx ai.bY.length s1)).bind fun bT=>
    (cH ((decide (s1≥ (ai.bY.length:Int)))||(decide (s1≥4))) false (Br J (ay aE.1.b4 aJ))).bind fun an=>
    (cH ((decide (s1≥ (ai.bY.length:Int)))||(decide (s1≥4))) false (idx 4 s1)).bind fun dC=>
    (cH ((decide (s1≥ (ai.bY.length:Int)))||(decide (s1≥4))) false (Bt (ay ai.bY bT) ((ay aE.1.b4 aJ).cO) an (bF aL dC))).bind fun br=>
    (some (((decide (s1≥ (ai.bY.length:Int)))||(decide (s1≥4)))||(!br))).bind fun bO=>
    cond bO (
     some (.inr (Sum.inr (s1,s1,decide (s1<(aE.1.b4.length:Int)),bO)))) (
     some (.inl (bE (s1+1))))) (
    some (.inr (Sum.inl (s1,decide (s1<(aE.1.b4.length:Int))))))) 0).bind fun aw=>
   Sum.elim (fun aw=>
    some true) (fun aw=>
   some false) aw)
def Ao {σ ε:Type}(ai:cK)(aL:Vector au 4)(step:ax→σ→Option (σ ⊕ ε))(cF:σ):Option (σ ⊕ ε):=
 (ey (σ:=Int×(σ)) (ε:=(Int×Bool×(σ)) ⊕ (Int×Bool×Bool×(ε))) et (fun s1=>
  cond (decide (s1.1<(ai.ch.length:Int))) (
   (idx ai.ch.length s1.1).bind fun aJ=>
   (yw ai.o6 ((ay ai.ch aJ).bA) aL).bind fun aE=>
   cond aE (
    (step (ay ai.ch aJ) s1.2).bind fun an=>
    Sum.elim (fun s2=>
     some (.inl (bE (s1.1+1),s2))) (fun dJ=>
     some (.inr (Sum.inr (s1.1,decide (s1.1<(ai.ch.length:Int)),aE&&(!false),dJ)))) an) (
    some (.inl (bE (s1.1+1),s1.2)))) (
   some (.inr (Sum.inl (s1.1,decide (s1.1<(ai.ch.length:Int)),s1.2))))) (0,cF)).bind fun aw=>
  Sum.elim (fun aw=>
   some (.inl aw.2.2)) (fun aw=>
  some (.inr aw.2.2.2)) aw
def x3 (J:cK)(ai:Vector au 4):Option (ax×Bool):=
 (Ic ai).bind fun aE=>
 (Ao J aE (σ:=Unit) (ε:=Bool×ax) (fun(pr:ax) (s1:Unit)=>
  (oi pr).bind fun an=>
  some (.inr (true,an))) ()).bind fun aw=>
 Sum.elim (fun s1=>
  some ((default:ax),false)) (fun aq=>
  some (aq.2,aq.1)) aw
def AI (hp:aY Cell)(J:jK)(ai:Vector au 4):Option (Int×Bool):=
 J.ch.bind fun cC=>
 (oI hp cC).bind fun c1=>
 (x3 c1.1 ai).bind fun aE=>
 some (aE.1.cB,aE.2)
def Ik (hp:aY Cell)(y:gO)(J:Vector au 4):Option (Int×Bool):=match y with
 | .nil=>none
 | .mK z=>AD hp z J
 | .mL z=>Ay hp z J
 | .mM z=>AI hp z J
def AU (hp:aY Cell)(J:Ref)(ai:Vector au 4):Option (ax×Bool):=
 cond J.isNone (
  some ((default:ax),false)) (
  (ey (σ:=Int×(Vector au 4)) (ε:=(Int×Bool×(Vector au 4))) et (fun s1=>
   cond (decide (s1.1<4)) (
    J.bind fun cC=>
    (iw hp cC).bind fun c1=>
    (cond (decide (s1.1≥c1.pU)) (
     (idx 4 s1.1).bind fun aJ=>
     some (dr s1.2 aJ (default:au))) (
     some s1.2)).bind fun m1=>
    some (.inl (bE (s1.1+1),m1))) (
    some (.inr (s1.1,decide (s1.1<4),s1.2)))) (0,ai)).bind fun aw=>
  J.bind fun cV=>
  (iw hp cV).bind fun c2=>
  (Ik hp c2.jc aw.2.2).bind fun aE=>
  (yc hp J aE.1 aE.2).bind fun an=>
  some (an.1,an.2))
def yM (J:aQ):Option (Vector (List Int) 6):=
 (ey (σ:=Int×(List Int)×(Vector (List Int) 6)) (ε:=(Int×Bool×(List Int)×(Vector (List Int) 6))) et (fun s1=>
  cond (decide (s1.1<(J.fS.length:Int))) (
   (idx J.fS.length s1.1).bind fun aJ=>
   (hf 8 s1.2.1 [(ay J.fS aJ).bV]).bind fun aE=>
   some (.inl (bE (s1.1+1),aE,dr s1.2.2 0 []))) (
   some (.inr (s1.1,decide (s1.1<(J.fS.length:Int)),s1.2.1,s1.2.2)))) (0,([]:List Int),(default:Vector (List Int) 6))).bind fun aw=>
 (ey (σ:=Int×(List Int)×(Vector (List Int) 6)) (ε:=(Int×Bool×(List Int)×(Vector (List Int) 6))) et (fun s2=>
  cond (decide (s2.1<(J.mA.length:Int))) (
   (idx J.mA.length s2.1).bind fun bT=>
   (hf 8 s2.2.1 [(ay J.mA bT).bV]).bind fun an=>
   some (.inl (bE (s2.1+1),an,dr s2.2.2 1 []))) (
   some (.inr (s2.1,decide (s2.1<(J.mA.length:Int)),s2.2.1,s2.2.2)))) (0,([]:List Int),aw.2.2.2)).bind fun aX=>
 (ey (σ:=Int×(List Int)×(Vector (List Int) 6)) (ε:=(Int×Bool×(List Int)×(Vector (List Int) 6))) et (fun l1=>
  cond (decide (l1.1<(J.nc.length:Int))) (
   (idx J.nc.length l1.1).bind fun dC=>
   (hf 8 l1.2.1 [(ay J.nc dC).bV]).bind fun br=>
   some (.inl (bE (l1.1+1),br,dr l1.2.2 2 []))) (
   some (.inr (l1.1,decide (l1.1<(J.nc.length:Int)),l1.2.1,l1.2.2)))) (0,([]:List Int),aX.2.2.2)).bind fun dc=>
 (ey (σ:=Int×(List Int)×(Vector (List Int) 6)) (ε:=(Int×Bool×(List Int)×(Vector (List Int) 6))) et (fun mY=>
  cond (decide (mY.1<(J.dN.length:Int))) (
   (idx J.dN.length mY.1).bind fun gU=>
   (hf 8 mY.2.1 [(ay J.dN gU).bV]).bind fun cc=>
   some (.inl (bE (mY.1+1),cc,dr mY.2.2 3 []))) (
   some (.inr (mY.1,decide (mY.1<(J.dN.length:Int)),mY.2.1,mY.2.2)))) (0,([]:List Int),dc.2.2.2)).bind fun gA=>
 (ey (σ:=Int×(List Int)×(Vector (List Int) 6)) (ε:=(Int×Bool×(List Int)×(Vector (List Int) 6))) et (fun iG=>
  cond (decide (iG.1<(J.bh.length:Int))) (
   (idx J.bh.length iG.1).bind fun tF=>
   (hf 8 iG.2.1 [(ay J.bh tF).bV]).bind fun bz=>
   some (.inl (bE (iG.1+1),bz,dr iG.2.2 4 []))) (
   some (.inr (iG.1,decide (iG.1<(J.bh.length:Int)),iG.2.1,iG.2.2)))) (0,([]:List Int),gA.2.2.2)).bind fun iF=>
 (ey (σ:=Int×(List Int)×(Vector (List Int) 6)) (ε:=(Int×Bool×(List Int)×(Vector (List Int) 6))) et (fun jw=>
  cond (decide (jw.1<(J.kj.length:Int))) (
   (idx J.kj.length jw.1).bind fun vz=>
   (hf 8 jw.2.1 [(ay J.kj vz).bV]).bind fun cg=>
   some (.inl (bE (jw.1+1),cg,dr jw.2.2 5 []))) (
   some (.inr (jw.1,decide (jw.1<(J.kj.length:Int)),jw.2.1,jw.2.2)))) (0,([]:List Int),iF.2.2.2)).bind fun kT=>
 (some ((dr (dr (dr (dr (dr (dr kT.2.2.2 0 aw.2.2.1) 1 aX.2.2.1) 2 dc.2.2.1) 3 gA.2.2.1) 4 iF.2.2.1) 5 kT.2.2.1))).bind fun bO=>
 some bO
def yE (J:List Int)(ai:Int):Option Int:=
 (ey (σ:=Int) (ε:=(Int×Bool) ⊕ (Int×Int×Int×Int×Bool×Bool)) et (fun s1=>
  cond (decide (s1<(J.length:Int))) (
   (idx J.length s1).bind fun aJ=>
   cond ((ay J aJ)==ai) (
    some (.inr (Sum.inr (s1,s1,ay J aJ,s1,decide (s1<(J.length:Int)),(ay J aJ)==ai)))) (
    some (.inl (bE (s1+1))))) (
   some (.inr (Sum.inl (s1,decide (s1<(J.length:Int))))))) 0).bind fun aw=>
  Sum.elim (fun aw=>
   some (-1)) (fun aw=>
  some aw.1) aw
def yq (J:aQ)(ai:Int):Option Int:=
 (yM J).bind fun aE=>
 (yE (bF aE 4) ai).bind fun an=>
 some an
def Bh (J:aQ)(ai:Int):Option Int:=
 (yM J).bind fun aE=>
 (yE (bF aE 0) ai).bind fun an=>
 some an
def Fq (J:aQ)(ai:Int):Option Int:=
 (Bh J ai).bind fun aE=>
 (idx J.fS.length aE).bind fun aJ=>
 some ((ay J.fS aJ).fH)
def Bk (J:aQ)(ai:bl)(aL:Int):Option Int:=
 (idx ai.b4.length aL).bind fun aJ=>
 (Fq J ((ay ai.b4 aJ).hr)).bind fun aE=>
 some aE
def Bx (J:Vector Bool 128):Option au:=
 (ey (σ:=Int×au) (ε:=(Int×Bool×au)) et (fun s1=>
  cond (decide (s1.1<64)) (
   (idx 128 s1.1).bind fun aJ=>
   (cond (bF J aJ) (
    (some (({ s1.2 with bS:=s1.2.bS|||((1#64) <<< (BitVec.ofInt 64 s1.1).toNat) } :au))).bind fun z2=>
    some z2) (
    some s1.2)).bind fun m1=>
   (idx 128 (bE (s1.1+64))).bind fun bT=>
   (cond (bF J bT) (
    (some (({ m1 with cZ:=m1.cZ|||((1#64) <<< (BitVec.ofInt 64 s1.1).toNat) } :au))).bind fun bO=>
    some bO) (
    some m1)).bind fun m2=>
   some (.inl (bE (s1.1+1),m2))) (
   some (.inr (s1.1,decide (s1.1<64),s1.2)))) (0,(default:au))).bind fun aw=>
 some aw.2.2
def BC (J:au)(ai:au):Option au:=
 (ru J).bind fun aE=>
 (ru ai).bind fun an=>
 (ey (σ:=Int×(Vector Bool 128)) (ε:=(Int×Bool×(Vector Bool 128))) et (fun s1=>
  cond (decide (s1.1<128)) (
   (idx 128 s1.1).bind fun aJ=>
   (cH (bF s1.2 aJ) true (idx 128 s1.1)).bind fun bT=>
   (idx 128 s1.1).bind fun dC=>
   some (.inl (bE (s1.1+1),dr s1.2 dC ((bF s1.2 aJ)&&(bF an bT))))) (
   some (.inr (s1.1,decide (s1.1<128),s1.2)))) (0,aE)).bind fun aw=>
 (Bx aw.2.2).bind fun br=>
 some br
def Bs (J:b5)(ai:Int)(aL:Int)(cN:au):Option Bool:=
 cond (!J.ff) (
  some ((decide (ai≥1))&&(decide (ai≤4)))) (
  cond (ai==1) (
   some (decide (cN=J.cM))) (
   cond (ai==2) (
    (ru cN).bind fun aE=>
    (ru J.cM).bind fun an=>
    (ey (σ:=Int) (ε:=(Int×Bool) ⊕ (Int×Bool×Bool)) et (fun s1=>
     cond (decide (s1<aL)) (
      (cH ((decide (s1≥0))&&(decide (s1<128))) true (idx 128 s1)).bind fun aJ=>
      (cH ((decide (s1≥0))&&(decide (s1<128))) true (idx 128 s1)).bind fun bT=>
      (some (((decide (s1≥0))&&(decide (s1<128)))&&((bF aE aJ) !=(bF an bT)))).bind fun bO=>
      cond bO (
       some (.inr (Sum.inr (s1,decide (s1<aL),bO)))) (
       some (.inl (bE (s1+1))))) (
      some (.inr (Sum.inl (s1,decide (s1<aL)))))) (bE (aL - J.dK))).bind fun aw=>
     Sum.elim (fun aw=>
      some true) (fun aw=>
     some false) aw) (
    cond (ai==3) (
     (BC cN J.fE).bind fun br=>
     some (decide (br=J.cM))) (
     cond (ai==4) (
      (pM J.cM cN).bind fun cc=>
      (cH (decide (cc≤0)) true (pM cN J.jr)).bind fun bz=>
      some ((decide (cc≤0))&&(decide (bz≤0)))) (
      some false)))))
def Bm (J:aQ)(ai:bd)(aL:Vector au 4):Option Bool:=
 (yq J ai.dB).bind fun aE=>
 (idx J.bh.length aE).bind fun aJ=>
 (ey (σ:=Int) (ε:=(Int×Bool) ⊕ (Int×Int×Bool×Bool)) et (fun s1=>
  cond (decide (s1<(((ay J.bh aJ).b4).length:Int))) (
   (idx (((ay J.bh aJ).b4).length) s1).bind fun bT=>
   (idx ai.bY.length s1).bind fun dC=>
   (Bk J (ay J.bh aJ) s1).bind fun an=>
   (idx 4 s1).bind fun gU=>
   (Bs (ay ai.bY dC) ((ay ((ay J.bh aJ).b4) bT).cO) an (bF aL gU)).bind fun br=>
   cond (!br) (
    some (.inr (Sum.inr (s1,s1,decide (s1<(((ay J.bh aJ).b4).length:Int)),!br)))) (
    some (.inl (bE (s1+1))))) (
   some (.inr (Sum.inl (s1,decide (s1<(((ay J.bh aJ).b4).length:Int))))))) 0).bind fun aw=>
  Sum.elim (fun aw=>
   some true) (fun aw=>
  some false) aw
def yD (J:aQ)(ai:bd):Option Int:=
 (yq J ai.dB).bind fun aE=>
 cond (decide (aE<0)) (
  some 0) (
  (idx J.bh.length aE).bind fun aJ=>
  (ey (σ:=Int) (ε:=(Int×Bool) ⊕ (Int×Int×Int×Bool×Bool)) et (fun s1=>
   cond (decide (s1<(((ay J.bh aJ).b4).length:Int))) (
    (idx (((ay J.bh aJ).b4).length) s1).bind fun bT=>
    (some ((((ay ((ay J.bh aJ).b4) bT).cO)==2)&&(decide (s1<(ai.bY.length:Int))))).bind fun bO=>
    cond bO (
     (idx ai.bY.length s1).bind fun dC=>
     some (.inr (Sum.inr ((ay ai.bY dC).dK,s1,s1,decide (s1<(((ay J.bh aJ).b4).length:Int)),bO)))) (
     some (.inl (bE (s1+1))))) (
    some (.inr (Sum.inl (s1,decide (s1<(((ay J.bh aJ).b4).length:Int))))))) 0).bind fun aw=>
   Sum.elim (fun aw=>
    some 0) (fun aw=>
   some aw.1) aw)
def Bv (J:aQ)(ai:ax)(aL:ax):Option Bool:=
 cond (ai.bA.fG !=aL.bA.fG) (
  some (decide (ai.bA.fG>aL.bA.fG))) (
  (yD J ai.bA).bind fun aE=>
  (yD J aL.bA).bind fun an=>
  cond (aE !=an) (
   some (decide (aE>an))) (
   some (decide (ai.cB>aL.cB))))
def BA (J:aQ)(ai:List ax)(aL:Vector au 4):Option (ax×Bool):=
 (ey (σ:=Bool×Int×ax) (ε:=(Bool×Int×Bool×ax)) et (fun s1=>
  cond (decide (s1.2.1<(ai.length:Int))) (
   (idx ai.length s1.2.1).bind fun aJ=>
   (Bm J ((ay ai aJ).bA) aL).bind fun aE=>
   (cH (decide ((aE=true)∧ (!s1.1)=false)) true (Bv J (ay ai aJ) s1.2.2)).bind fun an=>
   (cond (aE&&((!s1.1)||an)) (
    some (true,(ay ai aJ))) (
    some (s1.1,s1.2.2))).bind fun m1=>
   some (.inl (m1.1,bE (s1.2.1+1),m1.2))) (
   some (.inr (s1.1,s1.2.1,decide (s1.2.1<(ai.length:Int)),s1.2.2)))) (false,0,(default:ax))).bind fun aw=>
 some (aw.2.2.2,aw.1)
def AR (J:bJ)(ai:Vector au 4):Option (ax×Bool):=
 (BA J.h6 J.b0 ai).bind fun aE=>
 some (aE.1,aE.2)
def Fs (J:bd)(ai:bd):Option Bool:=
 (ua J ai).bind fun aE=>
 some (aE==0)
def qo (J:ax)(ai:ax):Option Bool:=
 (Fs J.bA ai.bA).bind fun aE=>
 some ((aE&&(J.cB==ai.cB))&&(J.o9==ai.o9))
def Ba (hp:aY Cell)(J:Ref):Option Int:=
 cond J.isNone (
  some 0) (
  J.bind fun cC=>
  (iw hp cC).bind fun c1=>
  c1.ki.p.bind fun cV=>
  (mf hp cV).bind fun c2=>
  some (c2.length:Int))
def Ap (J:List b5)(ai:List b5)(aL:b5→b5→Option Int):Option Int:=
 (ey (σ:=Int) (ε:=(Int×Bool) ⊕ (Int×Int×Int×Bool×Bool)) et (fun s1=>
  cond (decide (s1<(J.length:Int))) (
   (idx J.length s1).bind fun aJ=>
   cond (decide (s1≥ (ai.length:Int))) (
    some (.inr (Sum.inr (1,s1,s1,decide (s1<(J.length:Int)),decide (s1≥ (ai.length:Int)))))) (
    (idx ai.length s1).bind fun bT=>
    (aL (ay J aJ) (ay ai bT)).bind fun aE=>
    cond (aE !=0) (
     some (.inr (Sum.inr (aE,s1,s1,decide (s1<(J.length:Int)),decide (s1≥ (ai.length:Int)))))) (
     some (.inl (bE (s1+1)))))) (
   some (.inr (Sum.inl (s1,decide (s1<(J.length:Int))))))) 0).bind fun aw=>
  Sum.elim (fun aw=>
   cond (decide ((J.length:Int)<(ai.length:Int))) (
    some (-1)) (
    some 0)) (fun aw=>
  some aw.1) aw
def Aq (J:List au)(ai:List au)(aL:au→au→Option Int):Option Int:=
 (ey (σ:=Int) (ε:=(Int×Bool) ⊕ (Int×Int×Int×Bool×Bool)) et (fun s1=>
  cond (decide (s1<(J.length:Int))) (
   (idx J.length s1).bind fun aJ=>
   cond (decide (s1≥ (ai.length:Int))) (
    some (.inr (Sum.inr (1,s1,s1,decide (s1<(J.length:Int)),decide (s1≥ (ai.length:Int)))))) (
    (idx ai.length s1).bind fun bT=>
    (aL (ay J aJ) (ay ai bT)).bind fun aE=>
    cond (aE !=0) (
     some (.inr (Sum.inr (aE,s1,s1,decide (s1<(J.length:Int)),decide (s1≥ (ai.length:Int)))))) (
     some (.inl (bE (s1+1)))))) (
   some (.inr (Sum.inl (s1,decide (s1<(J.length:Int))))))) 0).bind fun aw=>
  Sum.elim (fun aw=>
   cond (decide ((J.length:Int)<(ai.length:Int))) (
    some (-1)) (
    some 0)) (fun aw=>
  some aw.1) aw
def yn (J:b5):Option Int:=
 cond J.ff (
  some 1) (
  some 0)
def AP (J:b5)(ai:b5):Option Int:=
 cond (decide (J=ai)) (
  some 0) (
  (yn J).bind fun aE=>
  (yn ai).bind fun an=>
  (pK aE an).bind fun br=>
  (pL J.cM ai.cM).bind fun cc=>
  (pL J.fE ai.fE).bind fun bz=>
  (pK J.dK ai.dK).bind fun cg=>
  (pL J.jr ai.jr).bind fun cA=>
  (sr [br,cc,bz,cg,cA]).bind fun cT=>
  some cT)
def Bl (J:bd)(ai:bd):Option Int:=
 (pK J.dB ai.dB).bind fun aE=>
 (pK ai.fG J.fG).bind fun an=>
 (Ap J.bY ai.bY AP).bind fun br=>
 (pK J.jd ai.jd).bind fun cc=>
 (Aq J.hX ai.hX pL).bind fun bz=>
 (sr [aE,an,br,cc,bz]).bind fun cg=>
 some cg
def EZ (J:ax)(ai:ax):Option Int:=
 (Bl J.bA ai.bA).bind fun aE=>
 some aE
def Be (hp:aY Cell)(J:Ref):aA ((List ax)×(aY Cell)):=
 cond J.isNone (
  aA.ret (([]:List ax),hp)) (
  aA.bind (aA.of J) fun cC=>
  aA.bind (aA.of (iw hp cC)) fun c1=>
  aA.bind (aA.of c1.ki.p) fun cV=>
  aA.bind (aA.of (mf hp cV)) fun c2=>
  aA.bind (p1 (σ:=(List Nat)×(List ax)) (ε:=(Bool×(List Nat)×(List ax))) et (fun s1=>
    aA.bind (aA.next c2.length s1.1) fun re=>
    cond re.isSome (
     aA.bind (aA.of re) fun aJ=>
     aA.bind (aA.of (oi ((ay c2 aJ).2))) fun aE=>
     aA.bind (aA.of (hf 88 s1.2 [aE])) fun an=>
     aA.ret (.inl ((s1.1++re.toList),an))) (
     aA.ret (.inr (re.isSome,(s1.1++re.toList),s1.2)))) (([]:List Nat),([]:List ax))) fun aw=>
  aA.bind (aA.ze aw.2.2 EZ) fun br=>
  aA.ret (br,hp))
def Bn (J:List ax)(ai:List ax):Option Bool:=
 cond ((J.length:Int) !=(ai.length:Int)) (
  some false) (
  (ey (σ:=Int) (ε:=(Int×Bool) ⊕ (Int×Int×Bool×Bool)) et (fun s1=>
   cond (decide (s1<(J.length:Int))) (
    (idx J.length s1).bind fun aJ=>
    (idx ai.length s1).bind fun bT=>
    (qo (ay J aJ) (ay ai bT)).bind fun aE=>
    cond (!aE) (
     some (.inr (Sum.inr (s1,s1,decide (s1<(J.length:Int)),!aE)))) (
     some (.inl (bE (s1+1))))) (
    some (.inr (Sum.inl (s1,decide (s1<(J.length:Int))))))) 0).bind fun aw=>
   Sum.elim (fun aw=>
    some true) (fun aw=>
   some false) aw)
def Bw (hp:aY Cell):aA (Bool×(aY Cell)):=
 aA.bind (aA.of (vY ([]:List (BitVec 8)) 0)) fun aE=>
 aA.bind (aA.of (ya aE)) fun an=>
 aA.bind (o4 hp an.1 1) fun br=>
 aA.bind (aA.of (qn br.2 br.1)) fun cc=>
 aA.bind (cond (decide ((cc==1)=true)) (o4 br.2 an.1 2) (aA.ret (default,br.2))) fun bz=>
 aA.bind (aA.of (cH (cc==1) true (qn bz.2 bz.1))) fun cA=>
 aA.bind (cond (decide (((cc==1)&&(cA==2))=true)) (o4 bz.2 an.1 3) (aA.ret (default,bz.2))) fun cT=>
 aA.bind (aA.of (cH ((cc==1)&&(cA==2)) true (qn cT.2 cT.1))) fun dm=>
 aA.bind (cond (decide ((((cc==1)&&(cA==2))&&(dm==3))=true)) (o4 cT.2 an.1 4) (aA.ret (default,cT.2))) fun jm=>
 aA.bind (aA.of (cH (((cc==1)&&(cA==2))&&(dm==3)) true (qn jm.2 jm.1))) fun jP=>
 aA.bind (cond (decide (((((cc==1)&&(cA==2))&&(dm==3))&&(jP==3))=true)) (o4 jm.2 an.1 9) (aA.ret (default,jm.2))) fun kp=>
 aA.bind (aA.of (some (((((cc==1)&&(cA==2))&&(dm==3))&&(jP==3))&&kp.1.isNone))) fun bO=>
 aA.ret (bO,kp.2)
def A9 (hp:aY Cell)(J:List (BitVec 8))(ai:List (BitVec 8))(aL:Int):aA (Bool×(aY Cell)):=
 aA.bind (aA.of (vY J 120)) fun aE=>
 aA.bind (aA.of (ya aE)) fun an=>
 aA.bind (aA.of (vY ai 220)) fun br=>
 aA.bind (aA.of (vZ aL (an.1.bh.length:Int))) fun cc=>
 aA.bind (aA.of (idx an.1.bh.length cc)) fun aJ=>
 aA.bind (o4 hp an.1 ((ay an.1.bh aJ).bV)) fun bz=>
 aA.bind (aA.of (qn bz.2 bz.1)) fun cg=>
 aA.bind (aA.of (yI (ay an.1.bh aJ))) fun cA=>
 cond (cg !=cA) (
  aA.ret (false,bz.2)) (
  aA.bind (p1 (σ:=Int×bJ×aV×(aY Cell)) (ε:=(Int×Bool×bJ×aV×(aY Cell)) ⊕ (Int×Bool×Bool×Bool×Bool×Int×Bool×Bool×bJ×aV×(aY Cell))) et (fun s1=>
    aA.bind (aA.of (cH (decide (s1.1<24)) true (AK s1.2.2.1))) fun cT=>
    cond ((decide (s1.1<24))&&cT) (
     aA.bind (aA.of (A0 s1.2.2.1 an.1 aL)) fun gW=>
     aA.bind (cond (decide ((decide ((s1.2.1.b0.length:Int)>0))=true)) (aA.of (lI gW.2)) (aA.ret (default,gW.2))) fun dm=>
     aA.bind (aA.of (cond ((decide ((s1.2.1.b0.length:Int)>0))&&dm.1) (
       (fQ dm.2 (s1.2.1.b0.length:Int)).bind fun vj=>
       (idx s1.2.1.b0.length vj.1).bind fun bT=>
       some (vj.2,(ay s1.2.1.b0 bT).bA)) (
       some (dm.2,gW.1)))) fun m1=>
     aA.bind (aA.of (fQ m1.1 6)) fun c5=>
     aA.bind (aA.of (cond (c5.1==0) (
       some (c5.1==0)) (
       (cond (c5.1==1) (
        some (c5.1==1)) (
        some (c5.1==2))).bind fun m6=>
       some m6))) fun m2=>
     aA.bind (cond m2 (
       aA.bind (aA.of (fQ c5.2 60)) fun qU=>
       aA.bind (aA.of (fQ qU.2 3)) fun oQ=>
       aA.bind (aA.of (some ({ bA:=m1.2,cB:=qU.1,o9:=oQ.1:ax }))) fun z4=>
       aA.bind (Bf s1.2.2.2 bz.1 z4) fun lY=>
       aA.bind (aA.of (Bc s1.2.1 z4)) fun zT=>
       aA.ret (lY.1,zT.1,oQ.2,(default:ax),(default:ax),zT.2,lY.2)) (
       aA.bind (cond (c5.1==3) (
         aA.bind (AT s1.2.2.2 bz.1 m1.2) fun tn=>
         aA.bind (aA.of (AQ s1.2.1 m1.2)) fun r2=>
         aA.ret (tn.2.1,r2.2.1,c5.2,r2.1,tn.1,r2.2.2,tn.2.2)) (
         aA.bind (aA.of (cond (c5.1==4) (
           (yg s1.2.2.2 bz.1 m1.2).bind fun Lz=>
           (ye s1.2.1 m1.2).bind fun LA=>
           some (Lz.2,LA.2,c5.2,LA.1,Lz.1)) (
           (AY c5.2).bind fun xq=>
           (Bq m1.2 xq.1).bind fun vi=>
           (AU s1.2.2.2 bz.1 vi).bind fun LB=>
           (AR s1.2.1 vi).bind fun LC=>
           some (LB.2,LC.2,xq.2,LC.1,LB.1)))) fun m5=>
         aA.ret (m5.1,m5.2.1,m5.2.2.1,m5.2.2.2.1,m5.2.2.2.2,s1.2.1,s1.2.2.2))) fun m4=>
       aA.ret (m4.1,m4.2.1,m4.2.2.1,m4.2.2.2.1,m4.2.2.2.2.1,m4.2.2.2.2.2.1,m4.2.2.2.2.2.2))) fun m3=>
     aA.bind (aA.of (cH (m3.1 !=m3.2.1) false (qo m3.2.2.2.2.1 m3.2.2.2.1))) fun fw=>
     aA.bind (aA.of (cH ((m3.1 !=m3.2.1)||(!fw)) false (Ba m3.2.2.2.2.2.2 bz.1))) fun tm=>
     aA.bind (aA.of (some (((m3.1 !=m3.2.1)||(!fw))||(tm !=(m3.2.2.2.2.2.1.b0.length:Int))))) fun z3=>
     aA.bind (cond (decide (z3=false)) (Be m3.2.2.2.2.2.2 bz.1) (aA.ret (default,m3.2.2.2.2.2.2))) fun lX=>
     aA.bind (aA.of (cH z3 false (Bn lX.1 m3.2.2.2.2.2.1.b0))) fun Lw=>
     cond (z3||(!Lw)) (
      aA.ret (.inr (Sum.inr (s1.1,m3.1,m3.2.1,(decide (s1.1<24))&&cT,(decide ((s1.2.1.b0.length:Int)>0))&&dm.1,c5.1,m2,z3||(!Lw),m3.2.2.2.2.2.1,m3.2.2.1,lX.2)))) (
      aA.ret (.inl (bE (s1.1+1),m3.2.2.2.2.2.1,m3.2.2.1,lX.2)))) (
     aA.ret (.inr (Sum.inl (s1.1,(decide (s1.1<24))&&cT,s1.2.1,s1.2.2.1,s1.2.2.2))))) (0,({ (default:bJ) with h6:=an.1 } :bJ),br,bz.2)) fun aw=>
    Sum.elim (fun aw=>
     aA.bind (Bw aw.2.2.2.2) fun xr=>
     aA.ret (xr.1,xr.2)) (fun aw=>
    aA.ret (false,aw.2.2.2.2.2.2.2.2.2.2)) aw)
end Go.Proofs.YtelbhaohleeijaaGreat
