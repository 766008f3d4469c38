/-
  Each function of the translation as a functional program. Conditions: none.
-/
import Derived.Test.YtmnggbjcnoffeaaGreatMt
namespace Go.Proofs.YtmnggbjcnoffeaaGreat
open Go Gv
set_option linter.unusedVariables false
set_option linter.unusedSimpArgs false
set_option maxRecDepth 100000
def sa (aa:List (BitVec 8)) (aj:Int):Option bw:=
 (sv aa 0 (min (aa.length:Int) aj)).bind fun ak=>
 some ({ (default:bw) with dE:=ak } :bw)
def Aq (aa:bw):Option Bool:=
 some (decide (aa.p1 < (aa.dE.length:Int)))
def fq (aa:bw) (aj:Int):Option (Int × bw):=
 (Aq aa).bind fun ak=>
 cond ((!ak) || (decide (aj < 1))) (
  some (0,aa)) (
  (idx aa.dE.length (bD ((bD (aa.p1 + 1)) - 1))).bind fun a4=>
  (mQ ((aA aa.dE a4).toNat:Int) aj).bind fun aP=>
  some (aP,({ aa with p1:=bD (aa.p1 + 1) } :bw)))
def j9 (aa:bw):Option (Bool × bw):=
 (fq aa 2).bind fun ak=>
 some (ak.1 ==1,ak.2)
def wc (aa:bw):Option ((List db) × bw):=
 (fq aa 4).bind fun ak=>
 (idx (([0,0,65535,3]:List Int).length) ak.1).bind fun a4=>
 (some ({ bR:=({ (default:ao) with bY:=1#64 } :ao),bK:=({ (default:ao) with bY:=15#64 } :ao),nV:=2:fO })).bind fun bk=>
 (some ({ bR:=({ (default:ao) with bY:=2#64 } :ao),bK:=({ (default:ao) with bY:=3#64 } :ao),nV:=3:fO })).bind fun c8=>
 (j9 ak.2).bind fun aP=>
 (cond aP.1 (
  (fq aP.2 2).bind fun cN=>
  (some (({ (default:ao) with bY:=BitVec.ofInt 64 (bD (8 * cN.1)) } :ao))).bind fun iU=>
  (fq cN.2 4).bind fun dm=>
  (idx (([0,0,65535,3]:List Int).length) dm.1).bind fun dj=>
  (some ({ bR:=iU,bK:=({ (default:ao) with bY:=8#64 } :ao),nV:=aA ([0,0,65535,3]:List Int) dj:fO })).bind fun gV=>
  (fT 40 [bk,c8] [gV]).bind fun et=>
  some (dm.2,et)) (
  some (aP.2,[bk,c8]))).bind fun bO=>
 (fq bO.1 4).bind fun bc=>
 (idx (([0,0,65535,3]:List Int).length) bc.1).bind fun bZ=>
 (some (({ (default:db) with bF:=2,hl:=2,gu:=aA ([0,0,65535,3]:List Int) bZ } :db))).bind fun e8=>
 (some (({ (default:db) with bF:=3,hl:=3,lW:=9,gu:=0 } :db))).bind fun gN=>
 (fq bc.2 3).bind fun bf=>
 (cond (bf.1 ==1) (
  (fq bf.2 3).bind fun cb=>
  (some ({ bR:=({ (default:ao) with bY:=5#64 } :ao),bK:=({ (default:ao) with bY:=15#64 } :ao),nV:=bD (1 + cb.1):fO })).bind fun jm=>
  some (cb.2,({ gN with nf:= [jm] } :db))) (
  some (bf.2,gN))).bind fun cD=>
 (some (({ ({ (default:db) with bF:=1,hl:=1,lW:=4,gu:=aA ([0,0,65535,3]:List Int) a4 } :db) with nf:=bO.2 } :db))).bind fun gO=>
 some ([gO,e8,cD.2],cD.1)
def v9 (aa:bw):Option ((List dp) × bw):=
 (some (({ (default:dp) with bF:=1,b7:=ByteArray.mk #[110,111,112] } :dp))).bind fun bk=>
 (some (({ (default:dp) with bF:=2,b7:=ByteArray.mk #[100,114,111,112],mB:= [({ (default:ey) with hn:=6 } :ey)] } :dp))).bind fun c8=>
 (some ({ b7:=ByteArray.mk #[112,111,114,116],eO:=16:hG })).bind fun e8=>
 (some (({ (default:ey) with hn:=7,jv:=({ (default:e9) with cI:=3 } :e9) } :ey))).bind fun gN=>
 (some (({ (default:dp) with bF:=3,b7:=ByteArray.mk #[102,111,114,119,97,114,100],iY:= [e8],mB:= [gN] } :dp))).bind fun gO=>
 (some ({ hn:=1,iA:=5,jv:=({ (default:e9) with cI:=3 } :e9):ey })).bind fun jm=>
 (some (({ (default:e9) with cI:=2,s7:=5 } :e9))).bind fun iU=>
 (some (({ (default:dp) with bF:=4,b7:=ByteArray.mk #[116,97,103],iY:= [{ b7:=ByteArray.mk #[120],eO:=4:hG }],mB:= [jm,{ hn:=2,iA:=3,jv:=iU:ey }] } :dp))).bind fun gV=>
 (some ([{ b7:=ByteArray.mk #[120],eO:=4:hG },{ b7:=ByteArray.mk #[121],eO:=12:hG }])).bind fun ku=>
 (some ({ hn:=1,iA:=9,jv:=({ (default:e9) with cI:=3 } :e9):ey })).bind fun jY=>
 (some (({ (default:e9) with cI:=3,s7:=1 } :e9))).bind fun jC=>
 (some ([({ (default:ey) with hn:=4,iA:=3 } :ey),jY,{ hn:=3,iA:=8,jv:=jC:ey }])).bind fun kL=>
 (some (({ (default:dp) with bF:=5,b7:=ByteArray.mk #[119,114,97,112],iY:=ku,mB:=kL } :dp))).bind fun jD=>
 (fq aa 2).bind fun ak=>
 (some (({ (default:ey) with hn:=5,iA:=bD (2 + ak.1) } :ey))).bind fun jZ=>
 (fq ak.2 256).bind fun aP=>
 (some (({ (default:ao) with bY:=BitVec.ofInt 64 aP.1 } :ao))).bind fun mS=>
 (some (({ (default:e9) with cI:=1,bR:=mS } :e9))).bind fun nD=>
 (some (({ (default:dp) with bF:=6,b7:=ByteArray.mk #[115,116,114,105,112],mB:= [jZ,{ hn:=2,iA:=6,jv:=nD:ey }] } :dp))).bind fun lG=>
 (j9 aP.2).bind fun bc=>
 (cond bc.1 (
  (idx ([bk,c8,gO,gV,jD,lG].length) 2).bind fun bZ=>
  (some (gI [bk,c8,gO,gV,jD,lG] bZ ({ (aA [bk,c8,gO,gV,jD,lG] bZ) with oA:=ByteArray.mk #[112,111,114,116,32,33,61,32,48] } :dp))).bind fun o3=>
  some o3) (
  some [bk,c8,gO,gV,jD,lG])).bind fun bO=>
 (j9 bc.2).bind fun bf=>
 (cond bf.1 (
  (idx bO.length 4).bind fun a4=>
  (some (gI bO a4 ({ (aA bO a4) with oA:=ByteArray.mk #[120,32,60,32,121,32,124,124,32,120,32,61,61,32,49,53] } :dp))).bind fun qb=>
  some qb) (
  some bO)).bind fun cD=>
 some (cD,bf.2)
def wg (aa:bw):Option ((List bN) × bw):=
 (some ({ b7:=ByteArray.mk #[97],ga:=4,cI:=1:cn })).bind fun bk=>
 (fq aa 2).bind fun ak=>
 (fq ak.2 5).bind fun aP=>
 (some (({ (default:bN) with bF:=1,b7:=ByteArray.mk #[112,111,114,116,115],b1:= [bk],cX:=([1,2,4]:List Int),gu:=bD (1 + ak.1),kE:=bD (2 + aP.1) } :bN))).bind fun c8=>
 (some ({ b7:=ByteArray.mk #[100],ga:=7,cI:=2:cn })).bind fun e8=>
 (fq aP.2 6).bind fun bc=>
 (j9 bc.2).bind fun bf=>
 (cond bf.1 (
  (some ({ b7:=ByteArray.mk #[109],ga:=3,cI:=1:cn })).bind fun nD=>
  (fT 32 [e8] [nD]).bind fun h7=>
  some (({ ({ (default:bN) with bF:=2,b7:=ByteArray.mk #[114,111,117,116,101,115],cX:=([1,2,3,4]:List Int),gu:=2,kE:=bD (3 + bc.1) } :bN) with b1:= [] } :bN),h7)) (
  some (({ (default:bN) with bF:=2,b7:=ByteArray.mk #[114,111,117,116,101,115],cX:=([1,2,3,4]:List Int),gu:=2,kE:=bD (3 + bc.1) } :bN),[e8]))).bind fun bO=>
 (some ({ b7:=ByteArray.mk #[101],ga:=6,cI:=3:cn })).bind fun gN=>
 (some ({ b7:=ByteArray.mk #[97],ga:=4,cI:=3:cn })).bind fun gO=>
 (fq bf.2 6).bind fun cb=>
 (j9 cb.2).bind fun cN=>
 (cond cN.1 (
  (some ({ b7:=ByteArray.mk #[98],ga:=5,cI:=1:cn })).bind fun mS=>
  (fT 32 [gN,gO] [mS]).bind fun iR=>
  some (({ ({ (default:bN) with bF:=3,b7:=ByteArray.mk #[97,99,108],cX:=([1,2,3,5,6]:List Int),gu:=1,kE:=bD (4 + cb.1) } :bN) with b1:= [] } :bN),iR)) (
  some (({ (default:bN) with bF:=3,b7:=ByteArray.mk #[97,99,108],cX:=([1,2,3,5,6]:List Int),gu:=1,kE:=bD (4 + cb.1) } :bN),[gN,gO]))).bind fun cD=>
 (some ({ b7:=ByteArray.mk #[102],ga:=8,cI:=4:cn })).bind fun jm=>
 (fq cN.2 5).bind fun dm=>
 (j9 dm.2).bind fun et=>
 (cond et.1 (
  (some ({ b7:=ByteArray.mk #[103],ga:=9,cI:=1:cn })).bind fun jD=>
  (some ({ b7:=ByteArray.mk #[100],ga:=7,cI:=2:cn })).bind fun jZ=>
  (fT 32 [jm] [jD,jZ]).bind fun hz=>
  some (({ ({ (default:bN) with bF:=4,b7:=ByteArray.mk #[115,112,97,110,115],cX:=([1,3,5]:List Int),gu:=3,r7:= [({ (default:ao) with bY:=7#64 } :ao)],kE:=bD (3 + dm.1) } :bN) with b1:= [] } :bN),hz)) (
  some (({ (default:bN) with bF:=4,b7:=ByteArray.mk #[115,112,97,110,115],cX:=([1,3,5]:List Int),gu:=3,r7:= [({ (default:ao) with bY:=7#64 } :ao)],kE:=bD (3 + dm.1) } :bN),[jm]))).bind fun fj=>
 (some ([c8,({ bO.1 with b1:=bO.2 } :bN),({ cD.1 with b1:=cD.2 } :bN),({ fj.1 with b1:=fj.2 } :bN)])).bind fun iU=>
 (some ([ByteArray.mk #[],ByteArray.mk #[97,32,33,61,32,48],ByteArray.mk #[97,32,60,32,49,52,32,38,38,32,97,32,33,61,32,51]])).bind fun gV=>
 (some ([ByteArray.mk #[],ByteArray.mk #[100,58,58,112,114,101,102,105,120,95,108,101,110,103,116,104,32,62,61,32,56],ByteArray.mk #[100,58,58,112,114,101,102,105,120,95,108,101,110,103,116,104,32,61,61,32,51,50,32,45,62,32,100,58,58,118,97,108,117,101,32,62,32,48,120,102,102]])).bind fun ku=>
 (some ([ByteArray.mk #[],ByteArray.mk #[112,114,105,111,114,105,116,121,32,60,32,49,48,48,32,38,38,32,40,101,58,58,109,97,115,107,32,33,61,32,48,32,124,124,32,97,58,58,109,97,115,107,32,33,61,32,48,41],ByteArray.mk #[101,58,58,109,97,115,107,32,61,61,32,48,32,45,62,32,112,114,105,111,114,105,116,121,32,62,32,53]])).bind fun jY=>
 (some ([ByteArray.mk #[],ByteArray.mk #[102,58,58,104,105,103,104,32,45,32,102,58,58,108,111,119,32,60,61,32,48,120,49,48,48],ByteArray.mk #[33,40,102,58,58,108,111,119,32,61,61,32,48,32,38,38,32,102,58,58,104,105,103,104,32,62,32,49,48,48,48,41]])).bind fun jC=>
 (ej (σ:=Int × (List bN) × bw) (ε:=(Int × Bool × (List bN) × bw)) ep (fun s1=>
  cond (decide (s1.1 < (iU.length:Int))) (
   (idx ([gV,ku,jY,jC].length) s1.1).bind fun a4=>
   (fq s1.2.2 3).bind fun fk=>
   (idx ((aA [gV,ku,jY,jC] a4).length) fk.1).bind fun bZ=>
   (idx s1.2.1.length s1.1).bind fun dj=>
   (some (gI s1.2.1 dj ({ (aA s1.2.1 dj) with oA:=aA (aA [gV,ku,jY,jC] a4) bZ } :bN))).bind fun kL=>
   some (.inl (bD (s1.1 + 1),kL,fk.2))) (
   some (.inr (s1.1,decide (s1.1 < (iU.length:Int)),s1.2.1,s1.2.2)))) (0,iU,et.2)).bind fun az=>
 some (az.2.2.1,az.2.2.2)
def wv (aa:bw) (aj:List bN):Option ((List cm) × bw):=
 (fq aa 3).bind fun ak=>
 (fq ak.2 6).bind fun aP=>
 (fq aP.2 6).bind fun bc=>
 (fq bc.2 4).bind fun bf=>
 (ej (σ:=Int × cm × (List c4) × bw × cm × (List c4) × cm × (List c4)) (ε:=(Int × Bool × cm × (List c4) × bw × cm × (List c4) × cm × (List c4))) ep (fun s1=>
  cond (decide (s1.1 < (aj.length:Int))) (
   (idx aj.length s1.1).bind fun a4=>
   (qe (α:=Bool) 1 (((aA aj a4).b1).length:Int)).bind fun cb=>
   (qe (α:=Bool) 1 (((aA aj a4).b1).length:Int)).bind fun cN=>
   (ej (σ:=Int × (List Bool) × (List Bool) × bw) (ε:=(Int × Bool × (List Bool) × (List Bool) × bw)) ep (fun s2=>
    cond (decide (s2.1 < (cb.length:Int))) (
     (fq s2.2.2.2 4).bind fun dm=>
     (idx s2.2.2.1.length s2.1).bind fun bZ=>
     (idx s2.2.1.length s2.1).bind fun dj=>
     some (.inl (bD (s2.1 + 1),gI s2.2.1 dj (decide (dm.1 > 0)),gI s2.2.2.1 bZ true,dm.2))) (
     some (.inr (s2.1,decide (s2.1 < (cb.length:Int)),s2.2.1,s2.2.2.1,s2.2.2.2)))) (0,cN,cb,s1.2.2.2.1)).bind fun aX=>
   (some ({ dq:=(aA aj a4).bF,pF:=true,pz:=true,b1:=aX.2.2.2.1:c4 })).bind fun bk=>
   (fT 40 s1.2.2.2.2.2.2.2 [bk]).bind fun et=>
   (fq aX.2.2.2.2 4).bind fun fk=>
   (cond (decide (fk.1 > 0)) (
    (fq fk.2 4).bind fun kl=>
    (j9 kl.2).bind fun ry=>
    (some ({ dq:=(aA aj a4).bF,pF:=decide (kl.1 > 0),pz:=ry.1,b1:=aX.2.2.1:c4 })).bind fun e8=>
    (fT 40 s1.2.2.2.2.2.1 [e8]).bind fun rz=>
    some (ry.2,({ s1.2.2.2.2.1 with ic:= [] } :cm),rz)) (
    some (fk.2,s1.2.2.2.2.1,s1.2.2.2.2.2.1))).bind fun bO=>
   (j9 bO.1).bind fun hz=>
   (cond hz.1 (
    (j9 hz.2).bind fun iR=>
    (j9 iR.2).bind fun h7=>
    (some ({ dq:=(aA aj a4).bF,pF:=iR.1,pz:=h7.1,b1:=aX.2.2.2.1:c4 })).bind fun c8=>
    (fT 40 s1.2.2.1 [c8]).bind fun jg=>
    some (h7.2,({ s1.2.1 with ic:= [] } :cm),jg)) (
    some (hz.2,s1.2.1,s1.2.2.1))).bind fun cD=>
   some (.inl (bD (s1.1 + 1),cD.2.1,cD.2.2,cD.1,bO.2.1,bO.2.2,({ s1.2.2.2.2.2.2.1 with ic:= [] } :cm),et))) (
   some (.inr (s1.1,decide (s1.1 < (aj.length:Int)),s1.2.1,s1.2.2.1,s1.2.2.2.1,s1.2.2.2.2.1,s1.2.2.2.2.2.1,s1.2.2.2.2.2.2.1,s1.2.2.2.2.2.2.2)))) (0,({ (default:cm) with bF:=7,b7:=ByteArray.mk #[102,101,119],cX:= [bD (1 + bc.1)],py:=bf.1 } :cm),([]:List c4),bf.2,({ (default:cm) with bF:=2,b7:=ByteArray.mk #[115,111,109,101],cX:=([1,2,bD (3 + ak.1)]:List Int),py:=bD (1 + aP.1) } :cm),([]:List c4),({ (default:cm) with bF:=1,b7:=ByteArray.mk #[97,108,108],cX:=([1,2,3,4,5,6]:List Int),py:=40,xp:=true } :cm),([]:List c4))).bind fun az=>
 (some (({ az.2.2.2.2.2.2.2.1 with ic:=az.2.2.2.2.2.2.2.2 } :cm))).bind fun gN=>
 (some ([gN,({ az.2.2.2.2.2.1 with ic:=az.2.2.2.2.2.2.1 } :cm),({ az.2.2.1 with ic:=az.2.2.2.1 } :cm)])).bind fun gO=>
 some (gO,az.2.2.2.2.1)
def tO (aa:bw):Option (a3 × bw):=
 (fq aa 8).bind fun ak=>
 (fq ak.2 30).bind fun aP=>
 (some ({ bF:=1,b7:=ByteArray.mk #[105,110,103,114,101,115,115],eO:=16:eS })).bind fun bk=>
 (some ({ bF:=2,b7:=ByteArray.mk #[101,103,114,101,115,115],eO:=16:eS })).bind fun c8=>
 (some ({ bF:=3,b7:=ByteArray.mk #[109,101,116,97],eO:=8:eS })).bind fun e8=>
 (some ({ bF:=6,b7:=ByteArray.mk #[101],eO:=8:eS })).bind fun gN=>
 (some ({ bF:=7,b7:=ByteArray.mk #[100],eO:=32:eS })).bind fun gO=>
 (some ({ bF:=8,b7:=ByteArray.mk #[102],eO:=12:eS })).bind fun jm=>
 (some ({ bF:=9,b7:=ByteArray.mk #[103],eO:=4:eS })).bind fun iU=>
 (some ([bk,c8,e8,{ bF:=4,b7:=ByteArray.mk #[97],eO:=4:eS },{ bF:=5,b7:=ByteArray.mk #[98],eO:=4:eS },gN,gO,jm,iU])).bind fun gV=>
 (some (({ ({ (default:a3) with w2:=bD (2 + ak.1),xe:=bD (12 + aP.1) } :a3) with e2:=gV } :a3))).bind fun ku=>
 (some ({ bF:=1,b7:=ByteArray.mk #[111,110,101],e2:=([4,5,6]:List Int):iv })).bind fun jY=>
 (some ({ bF:=2,b7:=ByteArray.mk #[116,119,111],e2:=([7]:List Int):iv })).bind fun jC=>
 (some ({ bF:=3,b7:=ByteArray.mk #[116,104,114,101,101],e2:=([8,9]:List Int):iv })).bind fun kL=>
 (wc aP.2).bind fun bc=>
 (v9 bc.2).bind fun bf=>
 (wg bf.2).bind fun cb=>
 (some (({ ({ ku with kA:= [jY,jC,kL] } :a3) with kU:=bc.1 } :a3))).bind fun jD=>
 (some (({ ({ jD with cX:=bf.1 } :a3) with bH:=cb.1 } :a3))).bind fun jZ=>
 (wv cb.2 jZ.bH).bind fun cN=>
 (some ([{ dq:=1,hl:=1:fa },{ dq:=2,hl:=2:fa },({ (default:fa) with dq:=3 } :fa),{ dq:=4,hl:=3:fa }])).bind fun mS=>
 (j9 cN.2).bind fun dm=>
 (cond dm.1 (
  (fT 16 mS [({ (default:fa) with dq:=1 } :fa)]).bind fun kl=>
  some kl) (
  some mS)).bind fun bO=>
 (j9 dm.2).bind fun et=>
 (cond et.1 (
  (some (({ (default:ez) with dq:=2,kB:=4,nP:=1 } :ez))).bind fun FN=>
  (fT 48 ([]:List ez) [FN]).bind fun jg=>
  some (({ ({ ({ jZ with ix:=cN.1 } :a3) with lX:= [] } :a3) with mC:= [] } :a3),jg)) (
  some (({ ({ jZ with ix:=cN.1 } :a3) with lX:= [] } :a3),([]:List ez)))).bind fun cD=>
 (j9 et.2).bind fun fk=>
 (dt fk.1 true (idx cD.1.bH.length 2)).bind fun a4=>
 (cond (fk.1 && ((((aA cD.1.bH a4).b1).length:Int) ==3)) (
  (some (({ (default:ez) with dq:=3,sF:=2,nP:=1 } :ez))).bind fun o3=>
  (fT 48 cD.2 [o3]).bind fun h7=>
  some (({ cD.1 with mC:= [] } :a3),h7)) (
  some (cD.1,cD.2))).bind fun fj=>
 (j9 fk.2).bind fun hz=>
 (dt hz.1 true (idx fj.1.bH.length 3)).bind fun bZ=>
 (cond (hz.1 && ((((aA fj.1.bH bZ).b1).length:Int) ==3)) (
  (some (({ (default:ez) with dq:=4,sF:=1,nP:=1 } :ez))).bind fun lG=>
  (some (({ (default:ez) with dq:=4,kB:=5,nP:=1 } :ez))).bind fun qb=>
  (fT 48 fj.2 [lG,qb]).bind fun iR=>
  some (({ fj.1 with mC:= [] } :a3),iR)) (
  some (fj.1,fj.2))).bind fun nJ=>
 (some (({ ({ nJ.1 with lX:=bO } :a3) with mC:=nJ.2 } :a3))).bind fun nD=>
 some (nD,hz.2)
def qF (aa:Int) (aj:Int):Option Int:=
 cond (decide (aj < 1)) (
  some 0) (
  (mQ aa aj).bind fun ak=>
  (mQ (bD (ak + aj)) aj).bind fun aP=>
  some aP)
def Ag (aa:bN) (aj:Int):Option Bool:=
 some (aa.bF ==aj)
def vV (aa:List bN) (aj:bN→Option Bool):Option Int:=
 (ej (σ:=Int) (ε:=(Int × Bool) ⊕ (Int × Int × Int × Bool × Bool)) ep (fun s1=>
  cond (decide (s1 < (aa.length:Int))) (
   (idx aa.length s1).bind fun a4=>
   (aj (aA aa a4)).bind fun ak=>
   cond ak (
    some (.inr (Sum.inr (s1,s1,s1,decide (s1 < (aa.length:Int)),ak)))) (
    some (.inl (bD (s1 + 1))))) (
   some (.inr (Sum.inl (s1,decide (s1 < (aa.length:Int))))))) 0).bind fun az=>
  Sum.elim (fun az=>
   some (-1)) (fun az=>
  some az.1) az
def qC (aa:a3) (aj:Int):Option Int:=
 (vV aa.bH (fun fu=>Ag fu aj)).bind fun ak=>
 some ak
def ub (aa:bN):Option (Int × Int):=
 (ej (σ:=Int × Int × Int) (ε:=(Int × Int × Int × Bool)) ep (fun s1=>
  cond (decide (s1.2.2 < (aa.b1.length:Int))) (
   (idx aa.b1.length s1.2.2).bind fun a4=>
   (cond (((aA aa.b1 a4).cI) ==1) (
    some (s1.1,s1.2.1)) (
    (cond (((aA aa.b1 a4).cI) ==2) (
     some (max s1.1 2,s1.2.2)) (
     some (3,s1.2.1))).bind fun cD=>
    some (cD.1,cD.2))).bind fun bO=>
   some (.inl (bO.1,bO.2,bD (s1.2.2 + 1)))) (
   some (.inr (s1.1,s1.2.1,s1.2.2,decide (s1.2.2 < (aa.b1.length:Int)))))) (1,0,0)).bind fun az=>
 some (az.1,az.2.1)
def AG (hp:bb Cell):aG (Ref × (bb Cell)):=
 aG.bind (aG.mk hp (Cell.n5 ([]:List ((Vector ao 4) × Int)))) fun eg=>
 aG.bind (aG.mk eg.2 (Cell.ve ({ nY:=(⟨some eg.1⟩:fR):lU }))) fun ei=>
 aG.ret ((some ei.1:Ref),ei.2)
def Ah (aa:eS) (aj:Int):Option Bool:=
 some (aa.bF ==aj)
def vW (aa:List eS) (aj:eS→Option Bool):Option Int:=
 (ej (σ:=Int) (ε:=(Int × Bool) ⊕ (Int × Int × Int × Bool × Bool)) ep (fun s1=>
  cond (decide (s1 < (aa.length:Int))) (
   (idx aa.length s1).bind fun a4=>
   (aj (aA aa a4)).bind fun ak=>
   cond ak (
    some (.inr (Sum.inr (s1,s1,s1,decide (s1 < (aa.length:Int)),ak)))) (
    some (.inl (bD (s1 + 1))))) (
   some (.inr (Sum.inl (s1,decide (s1 < (aa.length:Int))))))) 0).bind fun az=>
  Sum.elim (fun az=>
   some (-1)) (fun az=>
  some az.1) az
def tW (aa:a3) (aj:Int):Option Int:=
 (vW aa.e2 (fun fu=>Ah fu aj)).bind fun ak=>
 some ak
def CZ (aa:a3):Option dr:=
 some ({ ({ (default:dr) with nQ:=aa } :dr) with dE:=([]:List aM) } :dr)
def uq (hp:bb Cell) (aa:a3) (aj:Int):aG (Ref × (bb Cell)):=
 aG.bind (aG.of (qC aa aj)) fun ak=>
 cond (decide (ak < 0)) (
  aG.ret ((none:Ref),hp)) (
  aG.bind (aG.of (idx aa.bH.length ak)) fun a4=>
  aG.bind (aG.of (ub (aA aa.bH a4))) fun aP=>
  aG.bind (aG.mk hp (Cell.k3 ([]:List (Int × aM)))) fun eg=>
  aG.bind (aG.of (some (({ (default:gZ) with pI:=aP.1,pJ:=(((aA aa.bH a4).b1).length:Int),lV:=(⟨some eg.1⟩:fR) } :gZ)))) fun bk=>
  aG.bind (aG.mk eg.2 (Cell.me bk)) fun ei=>
  aG.bind (cond (aP.1 ==1) (
    aG.bind (AG ei.2) fun bc=>
    aG.bind (aG.of (iN bc.2 ei.1)) fun cK=>
    aG.bind (aG.of (some (dz bc.2 ei.1 (Cell.me ({ cK with js:=(gr.mN ({ qc:=bc.1:kb })) } :gZ))))) fun dy=>
    aG.ret dy) (
    aG.bind (cond (aP.1 ==2) (
      aG.bind (aG.of (idx (((aA aa.bH a4).b1).length) aP.2)) fun bZ=>
      aG.bind (aG.of (tW aa ((aA ((aA aa.bH a4).b1) bZ).ga))) fun bf=>
      aG.bind (aG.of (cond (decide (bf≥0)) (
        (idx aa.e2.length bf).bind fun dj=>
        some ((aA aa.e2 dj).eO)) (
        some 0))) fun fj=>
      aG.bind (aG.mk ei.2 (Cell.mc ([]:List ((Vector ao 4) × Ref)))) fun jn=>
      aG.bind (aG.of (some ({ pT:=aP.2,eN:=fj,fv:=(⟨some jn.1⟩:fR):ef }))) fun c8=>
      aG.bind (aG.of (iN jn.2 ei.1)) fun dL=>
      aG.bind (aG.of (some (dz jn.2 ei.1 (Cell.me ({ dL with js:=(gr.mO c8) } :gZ))))) fun eE=>
      aG.ret eE) (
      aG.bind (aG.of (CZ aa)) fun cb=>
      aG.bind (aG.any (Option Nat × Nat)) fun fi=>
      aG.bind (aG.mk ei.2 (Cell.rk cb fi.1 fi.2)) fun lO=>
      aG.bind (aG.of (iN lO.2 ei.1)) fun fV=>
      aG.bind (aG.of (some (dz lO.2 ei.1 (Cell.me ({ fV with js:=(gr.mP ({ dE:=(some lO.1:Ref):jr })) } :gZ))))) fun hV=>
      aG.ret hV)) fun cD=>
    aG.ret cD)) fun bO=>
  aG.ret ((some ei.1:Ref),bO))
def wb (aa:bw):Option Bool:=
 some (decide (aa.p1 < (aa.dE.length:Int)))
def wN (aa:a3) (aj:Int):Option Int:=
 (ej (σ:=Int) (ε:=(Int × Bool) ⊕ (Int × Int × Bool × Bool)) ep (fun s1=>
  cond (decide (s1 < (aa.e2.length:Int))) (
   (idx aa.e2.length s1).bind fun a4=>
   cond (((aA aa.e2 a4).bF) ==aj) (
    some (.inr (Sum.inr ((aA aa.e2 a4).eO,s1,decide (s1 < (aa.e2.length:Int)),((aA aa.e2 a4).bF) ==aj)))) (
    some (.inl (bD (s1 + 1))))) (
   some (.inr (Sum.inl (s1,decide (s1 < (aa.e2.length:Int))))))) 0).bind fun az=>
  Sum.elim (fun az=>
   some 0) (fun az=>
  some az.1) az
def sb (aa:ao) (aj:Int):Option ao:=
 cond (decide (aj≥128)) (
  some aa) (
  cond (decide (aj≥64)) (
   (some (aa.dD &&& (((1#64) <<< (BitVec.ofInt 64 (bD (aj - 64))).toNat) - (1#64)))).bind fun bk=>
   some ({ dD:=bk,bY:=aa.bY:ao })) (
   cond (decide (aj≤0)) (
    some (default:ao)) (
    (some (({ (default:ao) with bY:=aa.bY &&& (((1#64) <<< (BitVec.ofInt 64 aj).toNat) - (1#64)) } :ao))).bind fun c8=>
    some c8)))
def AF (aa:Int) (aj:Int):Option ao:=
 (some ((((1#64) <<< (BitVec.ofInt 64 aa).toNat) - (1#64)) - (((1#64) <<< (BitVec.ofInt 64 (bD (aa - aj))).toNat) - (1#64)))).bind fun bk=>
 some ({ (default:ao) with bY:=bk } :ao)
def wz (aa:bw) (aj:a3) (aR:cn):Option (ch × bw):=
 (wN aj aR.ga).bind fun ak=>
 (fq aa 256).bind fun aP=>
 (fq aP.2 16).bind fun bc=>
 (some (((BitVec.ofInt 64 aP.1) <<< (24#64).toNat) ||| ((BitVec.ofInt 64 bc.1) <<< (8#64).toNat))).bind fun bk=>
 (fq bc.2 16).bind fun bf=>
 (some (({ (default:ao) with bY:=bk ||| (BitVec.ofInt 64 bf.1) } :ao))).bind fun c8=>
 (sb c8 ak).bind fun cb=>
 cond (aR.cI ==2) (
  (fq bf.2 5).bind fun cN=>
  cond (decide (cN.1 > 0)) (
   (fq cN.2 ak).bind fun dm=>
   (fq dm.2 5).bind fun et=>
   (idx ([ak,8,16,1,bD (1 + dm.1)].length) et.1).bind fun a4=>
   (AF ak (aA [ak,8,16,1,bD (1 + dm.1)] a4)).bind fun fk=>
   (some (({ (default:ao) with bY:=cb.bY &&& fk.bY } :ao))).bind fun e8=>
   (some (({ (default:ch) with h1:=true,gw:=aA [ak,8,16,1,bD (1 + dm.1)] a4,bR:=e8 } :ch))).bind fun gN=>
   some (gN,et.2)) (
   some ((default:ch),cN.2))) (
  cond (aR.cI ==3) (
   (fq bf.2 256).bind fun hz=>
   (fq hz.2 5).bind fun iR=>
   (idx (([255,15,1,12,hz.1]:List Int).length) iR.1).bind fun bZ=>
   (some (({ (default:ao) with bY:=BitVec.ofInt 64 (aA ([255,15,1,12,hz.1]:List Int) bZ) } :ao))).bind fun gO=>
   (sb gO ak).bind fun h7=>
   cond (h7.bY !=(0#64)) (
    (some (({ (default:ao) with bY:=cb.bY &&& h7.bY } :ao))).bind fun jm=>
    (some (({ (default:ch) with h1:=true,bK:=h7,bR:=jm } :ch))).bind fun iU=>
    some (iU,iR.2)) (
    some ((default:ch),iR.2))) (
   cond (aR.cI ==4) (
    (fq bf.2 256).bind fun jg=>
    (some (sV (cb.bY + (BitVec.ofInt 64 jg.1)) (((1#64) <<< (BitVec.ofInt 64 ak).toNat) - (1#64)))).bind fun gV=>
    (fq jg.2 5).bind fun kl=>
    (some ((decide (kl.1 > 0)) && (!((cb.bY ==(0#64)) && (gV ==(((1#64) <<< (BitVec.ofInt 64 ak).toNat) - (1#64))))))).bind fun ku=>
    cond ku (
     (some (({ (default:ch) with h1:=true,bR:=cb,nW:=({ (default:ao) with bY:=gV } :ao) } :ch))).bind fun jY=>
     some (jY,kl.2)) (
     some ((default:ch),kl.2))) (
    (some (({ (default:ch) with h1:=true,bR:=cb } :ch))).bind fun jC=>
    some (jC,bf.2))))
def wG (aa:a3) (aj:Int):Option dp:=
 (ej (σ:=Int) (ε:=(Int × Bool) ⊕ (Int × Bool × Bool × dp)) ep (fun s1=>
  cond (decide (s1 < (aa.cX.length:Int))) (
   (idx aa.cX.length s1).bind fun a4=>
   cond (((aA aa.cX a4).bF) ==aj) (
    some (.inr (Sum.inr (s1,decide (s1 < (aa.cX.length:Int)),((aA aa.cX a4).bF) ==aj,(aA aa.cX a4))))) (
    some (.inl (bD (s1 + 1))))) (
   some (.inr (Sum.inl (s1,decide (s1 < (aa.cX.length:Int))))))) 0).bind fun az=>
  Sum.elim (fun az=>
   some (default:dp)) (fun az=>
  some az.2.2.2) az
def wA (aa:bw) (aj:a3) (aR:Int):Option (bE × bw):=
 (qF aR (aj.bH.length:Int)).bind fun ak=>
 (idx aj.bH.length ak).bind fun a4=>
 (ej (σ:=Int × bE × (List ch) × bw) (ε:=(Int × Bool × bE × (List ch) × bw)) ep (fun s1=>
  cond (decide (s1.1 < (((aA aj.bH a4).b1).length:Int))) (
   (idx (((aA aj.bH a4).b1).length) s1.1).bind fun bZ=>
   (wz s1.2.2.2 aj (aA ((aA aj.bH a4).b1) bZ)).bind fun aP=>
   (fT 64 s1.2.2.1 [aP.1]).bind fun bc=>
   (some ((((aA ((aA aj.bH a4).b1) bZ).cI) ==3) || (((aA ((aA aj.bH a4).b1) bZ).cI) ==4))).bind fun bk=>
   (cond bk (
    (fq aP.2 5).bind fun bf=>
    (some (({ ({ s1.2.1 with cA:= [] } :bE) with gF:=bD (1 + bf.1) } :bE))).bind fun c8=>
    some (c8,bf.2)) (
    some (({ s1.2.1 with cA:= [] } :bE),aP.2))).bind fun bO=>
   some (.inl (bD (s1.1 + 1),bO.1,bc,bO.2))) (
   some (.inr (s1.1,decide (s1.1 < (((aA aj.bH a4).b1).length:Int)),s1.2.1,s1.2.2.1,s1.2.2.2)))) (0,({ (default:bE) with dq:=(aA aj.bH a4).bF } :bE),([]:List ch),aa)).bind fun az=>
 (fq az.2.2.2.2 (((aA aj.bH a4).cX).length:Int)).bind fun cb=>
 (idx (((aA aj.bH a4).cX).length) cb.1).bind fun dj=>
 (some (({ az.2.2.1 with kB:=aA ((aA aj.bH a4).cX) dj } :bE))).bind fun e8=>
 (wG aj e8.kB).bind fun cN=>
 (ej (σ:=Int × bE × (List ao) × bw) (ε:=(Int × Bool × bE × (List ao) × bw)) ep (fun s2=>
  cond (decide (s2.1 < (cN.iY.length:Int))) (
   (idx cN.iY.length s2.1).bind fun hj=>
   (fq s2.2.2.2 256).bind fun dm=>
   (some (({ (default:ao) with bY:=BitVec.ofInt 64 dm.1 } :ao))).bind fun gN=>
   (sb gN ((aA cN.iY hj).eO)).bind fun et=>
   (fT 16 s2.2.2.1 [et]).bind fun fk=>
   some (.inl (bD (s2.1 + 1),({ s2.2.1 with lq:= [] } :bE),fk,dm.2))) (
   some (.inr (s2.1,decide (s2.1 < (cN.iY.length:Int)),s2.2.1,s2.2.2.1,s2.2.2.2)))) (0,e8,([]:List ao),cb.2)).bind fun aX=>
 (some (({ ({ aX.2.2.1 with cA:=az.2.2.2.1 } :bE) with lq:=aX.2.2.2.1 } :bE))).bind fun gO=>
 some (gO,aX.2.2.2.2)
def r6 (aa:bE):Option (Vector ao 4):=
 (sv aa.cA 0 (min (aa.cA.length:Int) 4)).bind fun ak=>
 (ej (σ:=Int × (Vector ao 4)) (ε:=(Int × Bool × (Vector ao 4))) ep (fun s1=>
  cond (decide (s1.1 < (ak.length:Int))) (
   (idx ak.length s1.1).bind fun a4=>
   (idx 4 s1.1).bind fun bZ=>
   some (.inl (bD (s1.1 + 1),c1 s1.2 bZ ((aA ak a4).bR)))) (
   some (.inr (s1.1,decide (s1.1 < (ak.length:Int)),s1.2)))) (0,(default:Vector ao 4))).bind fun az=>
 some az.2.2
def Aw (hp:bb Cell) (aa:Ref) (aj:Vector ao 4):Option (Int × Bool):=
 cond aa.isNone (
  some (0,false)) (
  (aa).bind fun dK=>
  (ns hp dK).bind fun cK=>
  (cK.nY.p).bind fun cB=>
  (l6 hp cB).bind fun dL=>
  (some (eH dL aj)).bind fun bk=>
  some (bk.getD default,bk.isSome))
def wm (hp:bb Cell) (aa:kb) (aj:bE):Option (Int × Bool):=
 (r6 aj).bind fun ak=>
 (Aw hp aa.qc ak).bind fun aP=>
 some (aP.1,aP.2)
def z5 (aa:ef) (aj:Vector ao 4):Option ((Vector ao 4) × ao):=
 (idx 4 aa.pT).bind fun a4=>
 (idx 4 aa.pT).bind fun bZ=>
 some ((c1 aj bZ (default:ao)),(cf aj a4))
def tI (aa:ef) (aj:bE):Option ((Vector ao 4) × ao × Int):=
 (r6 aj).bind fun ak=>
 (z5 aa ak).bind fun aP=>
 cond (decide (aa.pT≥ (aj.cA.length:Int))) (
  some (aP.1,aP.2,0)) (
  (idx aj.cA.length aa.pT).bind fun a4=>
  some (aP.1,aP.2,(aA aj.cA a4).gw))
def uc (aa:Int):Option Int:=
 some (min (max 0 aa) 128)
def uf (aa:ao) (aj:Int):Option ao:=
 cond (decide (aj≤0)) (
  some aa) (
  cond (decide (aj≥64)) (
   (some (({ (default:ao) with bY:=aa.dD >>> (BitVec.ofInt 64 (bD (aj - 64))).toNat } :ao))).bind fun bk=>
   some bk) (
   (some ((aa.bY >>> (BitVec.ofInt 64 aj).toNat) ||| (aa.dD <<< (BitVec.ofInt 64 (bD (64 - aj))).toNat))).bind fun c8=>
   (some ({ dD:=aa.dD >>> (BitVec.ofInt 64 aj).toNat,bY:=c8:ao })).bind fun e8=>
   some e8))
def qE (aa:Int):Option ao:=
 (some ({ dD:=18446744073709551615#64,bY:=18446744073709551615#64:ao })).bind fun bk=>
 (uc aa).bind fun ak=>
 (uf bk (bD (128 - ak))).bind fun aP=>
 some aP
def qH (aa:ao) (aj:ao):Option ao:=
 (some ({ dD:=aa.dD ^^^ aj.dD,bY:=aa.bY ^^^ aj.bY:ao })).bind fun bk=>
 some bk
def tV (aa:Int) (aj:Int):Option ao:=
 (uc aa).bind fun ak=>
 (qE ak).bind fun aP=>
 (qE (bD (ak - (min (max 0 aj) ak)))).bind fun bc=>
 (qH aP bc).bind fun bf=>
 some bf
def my (aa:ao) (aj:ao):Option ao:=
 (some ({ dD:=aa.dD &&& aj.dD,bY:=aa.bY &&& aj.bY:ao })).bind fun bk=>
 some bk
def tQ (hp:bb Cell) (aa:Ref) (aj:ao) (aR:Int):Option Bool:=
 (dt (aa.isSome && (decide (aR≥0))) true (aa)).bind fun dK=>
 (dt (aa.isSome && (decide (aR≥0))) true (gh hp dK)).bind fun cK=>
 (dt ((aa.isSome && (decide (aR≥0))) && (decide (aR≤cK.eN))) true (aa)).bind fun cB=>
 (dt ((aa.isSome && (decide (aR≥0))) && (decide (aR≤cK.eN))) true (gh hp cB)).bind fun dL=>
 (dt ((aa.isSome && (decide (aR≥0))) && (decide (aR≤cK.eN))) true (tV dL.eN aR)).bind fun ak=>
 (dt ((aa.isSome && (decide (aR≥0))) && (decide (aR≤cK.eN))) true (my aj ak)).bind fun aP=>
 (some (((aa.isSome && (decide (aR≥0))) && (decide (aR≤cK.eN))) && (decide (aP=aj)))).bind fun bk=>
 some bk
def Ay (aa:Ref) (aj:ao) (aR:Int):Option (Int × ao × Ref):=
 some (aR,aj,aa)
def ps (aa:ao) (aj:Int):Option Bool:=
 (dt ((decide (aj≥0)) && (decide (aj < 128))) true (uf aa aj)).bind fun ak=>
 (some (((decide (aj≥0)) && (decide (aj < 128))) && ((ak.bY &&& (1#64)) ==(1#64)))).bind fun bk=>
 some bk
def r2 {σ ε:Type} (aj:Int) (aR:ao) (c3:Ref) (hq:σ→bb Cell) (step:Int→σ→aG (σ ⊕ ε)) (b2:σ):aG (σ ⊕ ε):=
 aG.bind (n1 (σ:=Int × (σ)) (ε:=(Int × Bool × (σ)) ⊕ (Int × Int × Int × Bool × Bool × Bool × (ε))) ep (fun s1=>
   cond (decide (s1.1 < aj)) (
    aG.bind (aG.of (c3)) fun dK=>
    aG.bind (aG.of (gh (hq s1.2) dK)) fun cK=>
    aG.bind (aG.of (ps aR (bD ((bD (cK.eN - 1)) - s1.1)))) fun ak=>
    aG.bind (aG.of (cond ak (
      some 1) (
      some 0))) fun bO=>
    aG.bind (step bO s1.2) fun aP=>
    Sum.elim (fun s2=>
     aG.ret (.inl (bD (s1.1 + 1),s2))) (fun da=>
     aG.ret (.inr (Sum.inr (s1.1,bO,s1.1,decide (s1.1 < aj),ak,!false,da)))) aP) (
    aG.ret (.inr (Sum.inl (s1.1,decide (s1.1 < aj),s1.2))))) (0,b2)) fun az=>
   Sum.elim (fun az=>
    aG.ret (.inl az.2.2:σ ⊕ ε)) (fun az=>
   aG.ret (.inr az.2.2.2.2.2.2:σ ⊕ ε)) az
def r1 {σ ε:Type} (hp:bb Cell) (aj:Int) (aR:ao) (c3:Ref) (step:Int→σ→Option (σ ⊕ ε)) (b2:σ):Option (σ ⊕ ε):=
 (ej (σ:=Int × (σ)) (ε:=(Int × Bool × (σ)) ⊕ (Int × Int × Int × Bool × Bool × Bool × (ε))) ep (fun s1=>
  cond (decide (s1.1 < aj)) (
   (c3).bind fun dK=>
   (gh hp dK).bind fun cK=>
   (ps aR (bD ((bD (cK.eN - 1)) - s1.1))).bind fun ak=>
   (cond ak (
    some 1) (
    some 0)).bind fun bO=>
   (step bO s1.2).bind fun aP=>
   Sum.elim (fun s2=>
    some (.inl (bD (s1.1 + 1),s2))) (fun da=>
    some (.inr (Sum.inr (s1.1,bO,s1.1,decide (s1.1 < aj),ak,!false,da)))) aP) (
   some (.inr (Sum.inl (s1.1,decide (s1.1 < aj),s1.2))))) (0,b2)).bind fun az=>
  Sum.elim (fun az=>
   some (.inl az.2.2)) (fun az=>
  some (.inr az.2.2.2.2.2.2)) az
def tU (hp:bb Cell) (aa:Ref) (aj:ao) (aR:Int):Option Ref:=
 (tQ hp aa aj aR).bind fun ak=>
 cond (!ak) (
  some (none:Ref)) (
  (aa).bind fun dK=>
  (gh hp dK).bind fun cK=>
  (Ay aa aj aR).bind fun aP=>
  (r1 hp aP.1 aP.2.1 aP.2.2 (σ:=Ref) (ε:=Ref × Ref) (fun(vz:Int) (s1:Ref)=>
   cond s1.isNone (
    some (.inr (s1,(none:Ref)))) (
    (s1).bind fun cB=>
    (idx 2 vz).bind fun a4=>
    (dh hp cB).bind fun dL=>
    some (.inl (cf dL.e6 a4)))) cK.c5).bind fun az=>
  Sum.elim (fun s1=>
   some s1) (fun aE=>
   some aE.2) az)
def tZ (hp:bb Cell) (aa:Ref) (aj:ao) (aR:Int):Option (Int × Bool):=
 (tU hp aa aj aR).bind fun ak=>
 (dt ak.isNone false (ak)).bind fun dK=>
 (dt ak.isNone false (dh hp dK)).bind fun cK=>
 cond (ak.isNone || (!cK.e7)) (
  some (0,false)) (
  (ak).bind fun cB=>
  (dh hp cB).bind fun dL=>
  some (dL.mL,true))
def wa (hp:bb Cell) (aa:ef) (aj:bE):Option (Int × Bool):=
 (tI aa aj).bind fun ak=>
 (aa.fv.p).bind fun dK=>
 (jw hp dK).bind fun cK=>
 (some ((eH cK ak.1).getD default)).bind fun bk=>
 (tZ hp bk ak.2.1 ak.2.2).bind fun aP=>
 some (aP.1,aP.2)
def z1 (aa:List ch):Option (List ch):=
 (fT 64 ([]:List ch) aa).bind fun ak=>
 some ak
def z2 (aa:List ao):Option (List ao):=
 (fT 16 ([]:List ao) aa).bind fun ak=>
 some ak
def AJ (aa:bE):Option bE:=
 (z1 aa.cA).bind fun ak=>
 (z2 aa.lq).bind fun aP=>
 (some (({ ({ aa with cA:=ak } :bE) with lq:=aP } :bE))).bind fun bk=>
 some bk
def qB (aa:aM):Option aM:=
 (AJ aa.b5).bind fun ak=>
 some ({ aa with b5:=ak } :aM)
def ui (aa:List aM):Option (List aM):=
 (ej (σ:=Int × (List aM)) (ε:=(Int × Bool × (List aM))) ep (fun s1=>
  cond (decide (s1.1 < (aa.length:Int))) (
   (idx aa.length s1.1).bind fun a4=>
   (qB (aA aa a4)).bind fun ak=>
   (fT 88 s1.2 [ak]).bind fun aP=>
   some (.inl (bD (s1.1 + 1),aP))) (
   some (.inr (s1.1,decide (s1.1 < (aa.length:Int)),s1.2)))) (0,([]:List aM))).bind fun az=>
 some az.2.2
def v5 (aa:dr):Option (List aM):=
 (ui aa.dE).bind fun ak=>
 some ak
def vX (aa:List ch) (aj:List ch):Option Bool:=
 cond ((aa.length:Int) !=(aj.length:Int)) (
  some false) (
  (ej (σ:=Int) (ε:=(Int × Bool) ⊕ (Int × Int × Bool × Bool)) ep (fun s1=>
   cond (decide (s1 < (aa.length:Int))) (
    (idx aa.length s1).bind fun a4=>
    (idx aj.length s1).bind fun bZ=>
    cond (!decide (aA aa a4=aA aj bZ)) (
     some (.inr (Sum.inr (s1,s1,decide (s1 < (aa.length:Int)),!decide (aA aa a4=aA aj bZ))))) (
     some (.inl (bD (s1 + 1))))) (
    some (.inr (Sum.inl (s1,decide (s1 < (aa.length:Int))))))) 0).bind fun az=>
   Sum.elim (fun az=>
    some true) (fun az=>
   some false) az)
def wH (aa:bE) (aj:bE):Option Bool:=
 (dt (aa.dq ==aj.dq) true (vX aa.cA aj.cA)).bind fun ak=>
 some (((aa.dq ==aj.dq) && ak) && (aa.gF ==aj.gF))
def wy (hp:bb Cell) (aa:jr) (aj:bE):Option (Int × Bool):=
 (aa.dE).bind fun dK=>
 (nt hp dK).bind fun cK=>
 (v5 cK.1).bind fun ak=>
 (ej (σ:=Int) (ε:=(Int × Bool) ⊕ (Int × Bool × Int × Bool × Bool)) ep (fun s1=>
  cond (decide (s1 < (ak.length:Int))) (
   (idx ak.length s1).bind fun a4=>
   (wH ((aA ak a4).b5) aj).bind fun aP=>
   cond aP (
    some (.inr (Sum.inr ((aA ak a4).cy,true,s1,decide (s1 < (ak.length:Int)),aP)))) (
    some (.inl (bD (s1 + 1))))) (
   some (.inr (Sum.inl (s1,decide (s1 < (ak.length:Int))))))) 0).bind fun az=>
  Sum.elim (fun az=>
   some (0,false)) (fun az=>
  some (az.1,az.2.1)) az
def CP (hp:bb Cell) (y:gr) (aa:bE):Option (Int × Bool):=match y with
 | .nil=>none
 | .mN z=>wm hp z aa
 | .mO z=>wa hp z aa
 | .mP z=>wy hp z aa
def Av (hp:bb Cell) (aa:Ref) (aj:Vector ao 4) (aR:Int):Option (Bool × (bb Cell)):=
 cond aa.isNone (
  some (false,hp)) (
  (aa).bind fun dK=>
  (ns hp dK).bind fun cK=>
  (cK.nY.p).bind fun cB=>
  (l6 hp cB).bind fun dL=>
  (some (eH dL aj)).bind fun bk=>
  cond bk.isSome (
   some (false,hp)) (
   (some (dz hp cB (Cell.n5 (fS dL aj aR)))).bind fun dy=>
   some (true,dy)))
def wB (hp:bb Cell) (aa:kb) (aj:aM):Option (bb Cell):=
 (r6 aj.b5).bind fun ak=>
 (Av hp aa.qc ak aj.cy).bind fun aP=>
 some aP.2
def AL (hp:bb Cell) (aa:Int):aG (Ref × (bb Cell)):=
 aG.bind (aG.of (some (({ (default:fY) with eN:=min (max 1 aa) 128 } :fY)))) fun bk=>
 aG.bind (aG.mk hp (Cell.jb bk)) fun eg=>
 aG.ret ((some eg.1:Ref),eg.2)
def tY (hp:bb Cell) (aa:Ref) (aj:ao) (aR:Int) (c3:Int):aG (Bool × (bb Cell)):=
 aG.bind (aG.of (tQ hp aa aj aR)) fun ak=>
 cond (!ak) (
  aG.ret (false,hp)) (
  aG.bind (aG.of (tU hp aa aj aR)) fun aP=>
  aG.bind (aG.of (dt aP.isSome true (aP))) fun dK=>
  aG.bind (aG.of (dt aP.isSome true (dh hp dK))) fun cK=>
  cond (aP.isSome && cK.e7) (
   aG.ret (false,hp)) (
   aG.bind (aG.of (aa)) fun cB=>
   aG.bind (aG.of (gh hp cB)) fun dL=>
   aG.bind (cond dL.c5.isNone (
     aG.bind (aG.mk hp (Cell.gJ (default:ew))) fun ei=>
     aG.bind (aG.of (gh ei.2 cB)) fun zG=>
     aG.bind (aG.of (some (dz ei.2 cB (Cell.jb ({ zG with c5:=(some ei.1:Ref) } :fY))))) fun y0=>
     aG.ret y0) (
     aG.ret hp)) fun bO=>
   aG.bind (aG.of (gh bO cB)) fun fV=>
   aG.bind (aG.of (Ay aa aj aR)) fun bc=>
   aG.bind (r2 bc.1 bc.2.1 bc.2.2 (σ:=Ref × (bb Cell)) (ε:=Empty) (fun(s2:Ref × (bb Cell))=>s2.2) (fun(vA:Int) (s2:Ref × (bb Cell))=>
     aG.bind (aG.of (s2.1)) fun rO=>
     aG.bind (aG.of (idx 2 vA)) fun a4=>
     aG.bind (aG.of (dh s2.2 rO)) fun rP=>
     aG.bind (cond ((cf rP.e6 a4).isNone) (
       aG.bind (aG.mk s2.2 (Cell.gJ (default:ew))) fun eg=>
       aG.bind (aG.of (idx 2 vA)) fun dj=>
       aG.bind (aG.of (dh eg.2 rO)) fun qq=>
       aG.bind (aG.of (some (dz eg.2 rO (Cell.gJ ({ qq with e6:=c1 qq.e6 dj (some eg.1:Ref) } :ew))))) fun dy=>
       aG.ret dy) (
       aG.ret s2.2)) fun cD=>
     aG.bind (aG.of (idx 2 vA)) fun bZ=>
     aG.bind (aG.of (dh cD rO)) fun tt=>
     aG.ret (.inl (cf tt.e6 bZ,cD):(Ref × (bb Cell)) ⊕ Empty)) (fV.c5,bO)) fun aX=>
   Sum.elim (fun s2=>
    aG.bind (aG.of (s2.1)) fun iH=>
    aG.bind (aG.of (dh s2.2 iH)) fun vL=>
    aG.bind (aG.of (some (dz s2.2 iH (Cell.gJ ({ vL with e7:=true } :ew))))) fun eE=>
    aG.bind (aG.of (s2.1)) fun GY=>
    aG.bind (aG.of (dh eE GY)) fun GZ=>
    aG.bind (aG.of (some (dz eE GY (Cell.gJ ({ GZ with mL:=c3 } :ew))))) fun hV=>
    aG.ret (true,hV)) (fun da=>
    Empty.elim da) aX))
def wj (hp:bb Cell) (aa:ef) (aj:aM):aG (bb Cell):=
 aG.bind (aG.of (tI aa aj.b5)) fun ak=>
 aG.bind (aG.of (aa.fv.p)) fun dK=>
 aG.bind (aG.of (jw hp dK)) fun cK=>
 aG.bind (aG.of (some ((eH cK ak.1).getD default))) fun bk=>
 aG.bind (cond bk.isNone (
   aG.bind (AL hp aa.eN) fun bc=>
   aG.bind (aG.of (jw bc.2 dK)) fun fV=>
   aG.bind (aG.of (some (dz bc.2 dK (Cell.mc (fS fV ak.1 bc.1))))) fun dy=>
   aG.ret dy) (
   aG.ret hp)) fun bO=>
 aG.bind (aG.of (jw bO dK)) fun dL=>
 aG.bind (aG.of (some ((eH dL ak.1).getD default))) fun c8=>
 aG.bind (tY bO c8 ak.2.1 ak.2.2 aj.cy) fun aP=>
 aG.ret aP.2
def z3 (aa:aM) (aj:Int):Option Bool:=
 some (aa.cy ==aj)
def tE (aa:List aM) (aj:aM→Option Bool):Option Int:=
 (ej (σ:=Int) (ε:=(Int × Bool) ⊕ (Int × Int × Int × Bool × Bool)) ep (fun s1=>
  cond (decide (s1 < (aa.length:Int))) (
   (idx aa.length s1).bind fun a4=>
   (aj (aA aa a4)).bind fun ak=>
   cond ak (
    some (.inr (Sum.inr (s1,s1,s1,decide (s1 < (aa.length:Int)),ak)))) (
    some (.inl (bD (s1 + 1))))) (
   some (.inr (Sum.inl (s1,decide (s1 < (aa.length:Int))))))) 0).bind fun az=>
  Sum.elim (fun az=>
   some (-1)) (fun az=>
  some az.1) az
def v8 (aa:dr) (aj:Int):Option Int:=
 (tE aa.dE (fun fu=>z3 fu aj)).bind fun ak=>
 some ak
def vS (aa:List aM) (aj:aM) (aR:aM→aM→Option Int):Option (Int × Bool):=
 (ej (σ:=Int × Int) (ε:=(Int × Int × Bool)) ep (fun s1=>
  cond (decide (s1.1 < s1.2)) (
   (idx aa.length (bD ((BitVec.ofInt 64 (bD (s1.1 + s1.2))) >>> (1#64).toNat).toNat)).bind fun a4=>
   (aR (aA aa a4) aj).bind fun ak=>
   (cond (decide (ak < 0)) (
    (some (bD ((bD ((BitVec.ofInt 64 (bD (s1.1 + s1.2))) >>> (1#64).toNat).toNat) + 1))).bind fun bk=>
    some (bk,s1.2)) (
    some (s1.1,bD ((BitVec.ofInt 64 (bD (s1.1 + s1.2))) >>> (1#64).toNat).toNat))).bind fun bO=>
   some (.inl (bO.1,bO.2))) (
   some (.inr (s1.1,s1.2,decide (s1.1 < s1.2))))) (0,(aa.length:Int))).bind fun az=>
 (dt (decide (az.1 < (aa.length:Int))) true (idx aa.length az.1)).bind fun bZ=>
 (dt (decide (az.1 < (aa.length:Int))) true (aR (aA aa bZ) aj)).bind fun aP=>
 some (az.1,(decide (az.1 < (aa.length:Int))) && (aP ==0))
def wJ (aa:Int):Option Bool:=
 some (aa !=aa)
def r3 (aa:Int) (aj:Int):Option Int:=
 (wJ aa).bind fun ak=>
 (wJ aj).bind fun aP=>
 cond ak (
  cond aP (
   some 0) (
   some (-1))) (
  cond aP (
   some 1) (
   cond (decide (aa < aj)) (
    some (-1)) (
    cond (decide (aa > aj)) (
     some 1) (
     some 0))))
def wS (aa:a3) (aj:bE):Option (bN × Bool):=
 (qC aa aj.dq).bind fun ak=>
 cond (decide (ak < 0)) (
  some ((default:bN),false)) (
  (idx aa.bH.length ak).bind fun a4=>
  some (aA aa.bH a4,true))
def tH (aa:List cn) (aj:cn→Option Bool):Option Int:=
 (ej (σ:=Int) (ε:=(Int × Bool) ⊕ (Int × Int × Int × Bool × Bool)) ep (fun s1=>
  cond (decide (s1 < (aa.length:Int))) (
   (idx aa.length s1).bind fun a4=>
   (aj (aA aa a4)).bind fun ak=>
   cond ak (
    some (.inr (Sum.inr (s1,s1,s1,decide (s1 < (aa.length:Int)),ak)))) (
    some (.inl (bD (s1 + 1))))) (
   some (.inr (Sum.inl (s1,decide (s1 < (aa.length:Int))))))) 0).bind fun az=>
  Sum.elim (fun az=>
   some (-1)) (fun az=>
  some az.1) az
def CX (aa:cn):Option Bool:=
 some (aa.cI ==2)
def ue (aa:a3) (aj:bE):Option Int:=
 (wS aa aj).bind fun ak=>
 (tH ak.1.b1 CX).bind fun aP=>
 (some (((!ak.2) || (decide (aP < 0))) || (decide (aP≥ (aj.cA.length:Int))))).bind fun bk=>
 cond bk (
  some 0) (
  (idx aj.cA.length aP).bind fun a4=>
  some ((aA aj.cA a4).gw))
def wV (aa:List Int):Option Int:=
 (ej (σ:=Int) (ε:=(Int × Bool) ⊕ (Int × Int × Int × Bool × Bool)) ep (fun s1=>
  cond (decide (s1 < (aa.length:Int))) (
   (idx aa.length s1).bind fun a4=>
   cond ((aA aa a4) !=0) (
    some (.inr (Sum.inr (aA aa a4,aA aa a4,s1,decide (s1 < (aa.length:Int)),(aA aa a4) !=0)))) (
    some (.inl (bD (s1 + 1))))) (
   some (.inr (Sum.inl (s1,decide (s1 < (aa.length:Int))))))) 0).bind fun az=>
  Sum.elim (fun az=>
   some 0) (fun az=>
  some az.1) az
def r8 (aa:a3) (aj:aM) (aR:aM):Option Bool:=
 (r3 aj.b5.gF aR.b5.gF).bind fun ak=>
 (ue aa aj.b5).bind fun aP=>
 (ue aa aR.b5).bind fun bc=>
 (r3 aP bc).bind fun bf=>
 (r3 aj.cy aR.cy).bind fun cb=>
 (wV [ak,bf,cb]).bind fun cN=>
 some (decide (cN > 0))
def tL (aa:dr) (aj:aM) (aR:aM):Option Int:=
 (r8 aa.nQ aj aR).bind fun ak=>
 cond ak (
  some (-1)) (
  (r8 aa.nQ aR aj).bind fun aP=>
  cond aP (
   some 1) (
   some 0))
def z0 (aa:List aM) (aj:Int) (aR:List aM):Option (List aM):=yG 88 aa aj aR
def v7 (aa:dr) (aj:aM):Option (Bool × dr):=
 (dt false false (v8 aa aj.cy)).bind fun ak=>
 cond (false || (decide (ak≥0))) (
  some (false,aa)) (
  (vS aa.dE aj (fun fu eg=>tL aa fu eg)).bind fun aP=>
  (qB aj).bind fun bc=>
  (z0 aa.dE aP.1 [bc]).bind fun bf=>
  some (true,({ aa with dE:=bf } :dr)))
def wC (hp:bb Cell) (aa:jr) (aj:aM):aG (bb Cell):=
 aG.bind (aG.of (aa.dE)) fun dK=>
 aG.bind (aG.of (nt hp dK)) fun cK=>
 aG.bind (aG.of (v7 cK.1 aj)) fun ak=>
 aG.bind (aG.any (Option Nat × Nat)) fun aE=>
 aG.bind (aG.of (some (dz hp dK (Cell.rk ak.2 aE.1 aE.2)))) fun dy=>
 aG.ret dy
def CV (hp:bb Cell) (y:gr) (aa:aM):aG (bb Cell):=match y with
 | .nil=>fun _=>False
 | .mN z=>aG.of (wB hp z aa)
 | .mO z=>wj hp z aa
 | .mP z=>wC hp z aa
def wE (hp:bb Cell) (aa:Ref) (aj:aM):aG (Bool × (bb Cell)):=
 cond aa.isNone (
  aG.ret (false,hp)) (
  aG.bind (aG.of (aa)) fun dK=>
  aG.bind (aG.of (iN hp dK)) fun cK=>
  aG.bind (aG.of (cK.lV.p)) fun cB=>
  aG.bind (aG.of (mK hp cB)) fun dL=>
  aG.bind (aG.of (some (eH dL aj.cy))) fun bk=>
  aG.bind (aG.of (aa)) fun rO=>
  aG.bind (aG.of (iN hp rO)) fun fV=>
  aG.bind (aG.of (CP hp fV.js aj.b5)) fun ak=>
  cond (ak.2 || bk.isSome) (
   aG.ret (false,hp)) (
   aG.bind (aG.of (aa)) fun G0=>
   aG.bind (aG.of (iN hp G0)) fun rP=>
   aG.bind (aG.of (qB aj)) fun aP=>
   aG.bind (aG.of (rP.lV.p)) fun G1=>
   aG.bind (aG.of (mK hp G1)) fun tt=>
   aG.bind (aG.of (some (dz hp G1 (Cell.k3 (fS tt aj.cy aP))))) fun dy=>
   aG.bind (aG.of (iN dy G0)) fun qq=>
   aG.bind (CV dy qq.js aj) fun bc=>
   aG.ret (true,bc)))
def wZ (aa:a3):Option (Vector (List Int) 6):=
 (ej (σ:=Int × (List Int) × (Vector (List Int) 6)) (ε:=(Int × Bool × (List Int) × (Vector (List Int) 6))) ep (fun s1=>
  cond (decide (s1.1 < (aa.e2.length:Int))) (
   (idx aa.e2.length s1.1).bind fun a4=>
   (fT 8 s1.2.1 [(aA aa.e2 a4).bF]).bind fun ak=>
   some (.inl (bD (s1.1 + 1),ak,c1 s1.2.2 0 []))) (
   some (.inr (s1.1,decide (s1.1 < (aa.e2.length:Int)),s1.2.1,s1.2.2)))) (0,([]:List Int),(default:Vector (List Int) 6))).bind fun az=>
 (ej (σ:=Int × (List Int) × (Vector (List Int) 6)) (ε:=(Int × Bool × (List Int) × (Vector (List Int) 6))) ep (fun s2=>
  cond (decide (s2.1 < (aa.kA.length:Int))) (
   (idx aa.kA.length s2.1).bind fun bZ=>
   (fT 8 s2.2.1 [(aA aa.kA bZ).bF]).bind fun aP=>
   some (.inl (bD (s2.1 + 1),aP,c1 s2.2.2 1 []))) (
   some (.inr (s2.1,decide (s2.1 < (aa.kA.length:Int)),s2.2.1,s2.2.2)))) (0,([]:List Int),az.2.2.2)).bind fun aX=>
 (ej (σ:=Int × (List Int) × (Vector (List Int) 6)) (ε:=(Int × Bool × (List Int) × (Vector (List Int) 6))) ep (fun j5=>
  cond (decide (j5.1 < (aa.kU.length:Int))) (
   (idx aa.kU.length j5.1).bind fun dj=>
   (fT 8 j5.2.1 [(aA aa.kU dj).bF]).bind fun bc=>
   some (.inl (bD (j5.1 + 1),bc,c1 j5.2.2 2 []))) (
   some (.inr (j5.1,decide (j5.1 < (aa.kU.length:Int)),j5.2.1,j5.2.2)))) (0,([]:List Int),aX.2.2.2)).bind fun cP=>
 (ej (σ:=Int × (List Int) × (Vector (List Int) 6)) (ε:=(Int × Bool × (List Int) × (Vector (List Int) 6))) ep (fun kQ=>
  cond (decide (kQ.1 < (aa.cX.length:Int))) (
   (idx aa.cX.length kQ.1).bind fun hj=>
   (fT 8 kQ.2.1 [(aA aa.cX hj).bF]).bind fun bf=>
   some (.inl (bD (kQ.1 + 1),bf,c1 kQ.2.2 3 []))) (
   some (.inr (kQ.1,decide (kQ.1 < (aa.cX.length:Int)),kQ.2.1,kQ.2.2)))) (0,([]:List Int),cP.2.2.2)).bind fun eZ=>
 (ej (σ:=Int × (List Int) × (Vector (List Int) 6)) (ε:=(Int × Bool × (List Int) × (Vector (List Int) 6))) ep (fun g6=>
  cond (decide (g6.1 < (aa.bH.length:Int))) (
   (idx aa.bH.length g6.1).bind fun j6=>
   (fT 8 g6.2.1 [(aA aa.bH j6).bF]).bind fun cb=>
   some (.inl (bD (g6.1 + 1),cb,c1 g6.2.2 4 []))) (
   some (.inr (g6.1,decide (g6.1 < (aa.bH.length:Int)),g6.2.1,g6.2.2)))) (0,([]:List Int),eZ.2.2.2)).bind fun gk=>
 (ej (σ:=Int × (List Int) × (Vector (List Int) 6)) (ε:=(Int × Bool × (List Int) × (Vector (List Int) 6))) ep (fun hM=>
  cond (decide (hM.1 < (aa.ix.length:Int))) (
   (idx aa.ix.length hM.1).bind fun lj=>
   (fT 8 hM.2.1 [(aA aa.ix lj).bF]).bind fun cN=>
   some (.inl (bD (hM.1 + 1),cN,c1 hM.2.2 5 []))) (
   some (.inr (hM.1,decide (hM.1 < (aa.ix.length:Int)),hM.2.1,hM.2.2)))) (0,([]:List Int),gk.2.2.2)).bind fun gU=>
 (some ((c1 (c1 (c1 (c1 (c1 (c1 gU.2.2.2 0 az.2.2.1) 1 aX.2.2.1) 2 cP.2.2.1) 3 eZ.2.2.1) 4 gk.2.2.1) 5 gU.2.2.1))).bind fun bk=>
 some bk
def wR (aa:List Int) (aj:Int):Option Int:=
 (ej (σ:=Int) (ε:=(Int × Bool) ⊕ (Int × Int × Int × Int × Bool × Bool)) ep (fun s1=>
  cond (decide (s1 < (aa.length:Int))) (
   (idx aa.length s1).bind fun a4=>
   cond ((aA aa a4) ==aj) (
    some (.inr (Sum.inr (s1,s1,aA aa a4,s1,decide (s1 < (aa.length:Int)),(aA aa a4) ==aj)))) (
    some (.inl (bD (s1 + 1))))) (
   some (.inr (Sum.inl (s1,decide (s1 < (aa.length:Int))))))) 0).bind fun az=>
  Sum.elim (fun az=>
   some (-1)) (fun az=>
  some az.1) az
def wK (aa:a3) (aj:Int):Option Int:=
 (wZ aa).bind fun ak=>
 (wR (cf ak 4) aj).bind fun aP=>
 some aP
def ud (aa:a3) (aj:bE):Option Int:=
 (wK aa aj.dq).bind fun ak=>
 cond (decide (ak < 0)) (
  some 0) (
  (idx aa.bH.length ak).bind fun a4=>
  (ej (σ:=Int) (ε:=(Int × Bool) ⊕ (Int × Int × Int × Bool × Bool)) ep (fun s1=>
   cond (decide (s1 < (((aA aa.bH a4).b1).length:Int))) (
    (idx (((aA aa.bH a4).b1).length) s1).bind fun bZ=>
    (some ((((aA ((aA aa.bH a4).b1) bZ).cI) ==2) && (decide (s1 < (aj.cA.length:Int))))).bind fun bk=>
    cond bk (
     (idx aj.cA.length s1).bind fun dj=>
     some (.inr (Sum.inr ((aA aj.cA dj).gw,s1,s1,decide (s1 < (((aA aa.bH a4).b1).length:Int)),bk)))) (
     some (.inl (bD (s1 + 1))))) (
    some (.inr (Sum.inl (s1,decide (s1 < (((aA aa.bH a4).b1).length:Int))))))) 0).bind fun az=>
   Sum.elim (fun az=>
    some 0) (fun az=>
   some az.1) az)
def wT (aa:a3) (aj:aM) (aR:aM):Option Bool:=
 cond (aj.b5.gF !=aR.b5.gF) (
  some (decide (aj.b5.gF > aR.b5.gF))) (
  (ud aa aj.b5).bind fun ak=>
  (ud aa aR.b5).bind fun aP=>
  cond (ak !=aP) (
   some (decide (ak > aP))) (
   some (decide (aj.cy > aR.cy))))
def Dg (aa:BitVec 64):Option ao:=
 some ({ (default:ao) with bY:=aa } :ao)
def wW (aa:ao) (aj:Int):Option ao:=
 cond (decide (aj≤0)) (
  some aa) (
  cond (decide (aj≥64)) (
   (some (({ (default:ao) with dD:=aa.bY <<< (BitVec.ofInt 64 (bD (aj - 64))).toNat } :ao))).bind fun bk=>
   some bk) (
   (some ((aa.dD <<< (BitVec.ofInt 64 aj).toNat) ||| (aa.bY >>> (BitVec.ofInt 64 (bD (64 - aj))).toNat))).bind fun c8=>
   (some ({ dD:=c8,bY:=aa.bY <<< (BitVec.ofInt 64 aj).toNat:ao })).bind fun e8=>
   some e8))
def mz (aa:ao) (aj:ao):Option ao:=
 (some ({ dD:=aa.dD ||| aj.dD,bY:=aa.bY ||| aj.bY:ao })).bind fun bk=>
 some bk
def wQ (hp:bb Cell) (aa:a3) (aj:bw) (aR:Int) (c3:Int):aG (Ref × (List aM) × bw × (bb Cell)):=
 aG.bind (aG.of (qF aR (aa.bH.length:Int))) fun ak=>
 aG.bind (aG.of (idx aa.bH.length ak)) fun a4=>
 aG.bind (uq hp aa ((aA aa.bH a4).bF)) fun aP=>
 aG.bind (n1 (σ:=Int × (List aM) × bw × (bb Cell)) (ε:=(Int × Bool × (List aM) × bw × (bb Cell))) ep (fun s1=>
   aG.bind (aG.of (dt (decide (s1.1 < c3)) true (wb s1.2.2.1))) fun bc=>
   cond ((decide (s1.1 < c3)) && bc) (
    aG.bind (aG.of (wA s1.2.2.1 aa aR)) fun bf=>
    aG.bind (aG.of (some (({ (default:aM) with b5:=bf.1,cy:=bD (s1.1 + 1) } :aM)))) fun bk=>
    aG.bind (wE s1.2.2.2 aP.1 bk) fun cb=>
    aG.bind (aG.of (cond cb.1 (
      (fT 88 s1.2.1 [bk]).bind fun cN=>
      some cN) (
      some s1.2.1))) fun bO=>
    aG.ret (.inl (bD (s1.1 + 1),bO,bf.2,cb.2))) (
    aG.ret (.inr (s1.1,(decide (s1.1 < c3)) && bc,s1.2.1,s1.2.2.1,s1.2.2.2)))) (0,([]:List aM),aj,aP.2)) fun az=>
 aG.ret (aP.1,az.2.2.1,az.2.2.2.1,az.2.2.2.2)
def z9 (aa:aM) (aj:Int):Option Bool:=
 some (aa.cy ==aj)
def vU (aa:List cn) (aj:cn→Option Bool):Option Bool:=
 (tH aa aj).bind fun ak=>
 some (decide (ak≥0))
def Aa (aa:cn):Option Bool:=
 some (aa.cI ==4)
def wX (aa:ch) (aj:Int) (aR:Int):Option ao:=
 cond (!aa.h1) (
  some (default:ao)) (
  cond (aj ==1) (
   (qE aR).bind fun ak=>
   some ak) (
   cond (aj ==2) (
    (tV aR aa.gw).bind fun aP=>
    some aP) (
    some aa.bK)))
def qK (aa:a3) (aj:bE):Option (a2 × Bool):=
 (qC aa aj.dq).bind fun ak=>
 cond (decide (ak < 0)) (
  some ((default:a2),false)) (
  (idx aa.bH.length ak).bind fun a4=>
  (ej (σ:=Int × a2) (ε:=(Int × Bool × a2) ⊕ (Int × Int × Int × Bool × Bool × a2)) ep (fun s1=>
   cond (decide (s1.1 < (((aA aa.bH a4).b1).length:Int))) (
    (idx (((aA aa.bH a4).b1).length) s1.1).bind fun bZ=>
    (tW aa ((aA ((aA aa.bH a4).b1) bZ).ga)).bind fun aP=>
    (some ((((aA ((aA aa.bH a4).b1) bZ).cI) ==4) || (decide (aP < 0)))).bind fun bk=>
    (some ((bk || (decide (s1.1≥ (aj.cA.length:Int)))) || (decide (s1.1≥4)))).bind fun c8=>
    cond c8 (
     some (.inr (Sum.inr (s1.1,aP,s1.1,decide (s1.1 < (((aA aa.bH a4).b1).length:Int)),c8,s1.2)))) (
     (idx aj.cA.length s1.1).bind fun dj=>
     (idx aa.e2.length aP).bind fun hj=>
     (wX (aA aj.cA dj) ((aA ((aA aa.bH a4).b1) bZ).cI) ((aA aa.e2 hj).eO)).bind fun bc=>
     (idx 4 s1.1).bind fun j6=>
     (idx aj.cA.length s1.1).bind fun lj=>
     (idx 4 s1.1).bind fun mr=>
     (my ((aA aj.cA lj).bR) (cf (c1 s1.2.bK j6 bc) mr)).bind fun bf=>
     (idx 4 s1.1).bind fun mu=>
     (some (({ ({ s1.2 with bK:=c1 s1.2.bK j6 bc } :a2) with bR:=c1 s1.2.bR mu bf } :a2))).bind fun e8=>
     some (.inl (bD (s1.1 + 1),e8)))) (
    some (.inr (Sum.inl (s1.1,decide (s1.1 < (((aA aa.bH a4).b1).length:Int)),s1.2))))) (0,(default:a2))).bind fun az=>
   Sum.elim (fun az=>
    some (az.2.2,true)) (fun az=>
   some ((default:a2),false)) az)
def C1 (aa:a3) (aj:List aM) (aR:aM):Option ((List aM) × a3 × aM):=
 some (aj,aa,aR)
def wi {σ ε:Type} (aj:List aM) (aR:a3) (c3:aM) (step:a2→σ→Option (σ ⊕ ε)) (b2:σ):Option (σ ⊕ ε):=
 (ej (σ:=Int × (σ)) (ε:=(Int × Bool × (σ)) ⊕ (Bool × Int × Bool × Bool × Bool × (ε))) ep (fun s1=>
  cond (decide (s1.1 < (aj.length:Int))) (
   (idx aj.length s1.1).bind fun a4=>
   (r8 aR (aA aj a4) c3).bind fun ak=>
   cond (!ak) (
    some (.inl (bD (s1.1 + 1),s1.2))) (
    (qK aR ((aA aj a4).b5)).bind fun aP=>
    cond aP.2 (
     (step aP.1 s1.2).bind fun bc=>
     Sum.elim (fun s2=>
      some (.inl (bD (s1.1 + 1),s2))) (fun da=>
      some (.inr (Sum.inr (aP.2,s1.1,decide (s1.1 < (aj.length:Int)),!ak,aP.2 && (!false),da)))) bc) (
     some (.inl (bD (s1.1 + 1),s1.2))))) (
   some (.inr (Sum.inl (s1.1,decide (s1.1 < (aj.length:Int)),s1.2))))) (0,b2)).bind fun az=>
  Sum.elim (fun az=>
   some (.inl az.2.2)) (fun az=>
  some (.inr az.2.2.2.2.2)) az
def wD (aa:a3) (aj:List aM) (aR:Int):Option (a2 × (List a2) × Int):=
 (tE aj (fun fu=>z9 fu aR)).bind fun ak=>
 cond (decide (ak < 0)) (
  some ((default:a2),([]:List a2),16)) (
  (idx aj.length ak).bind fun a4=>
  (qC aa (((aA aj a4).b5).dq)).bind fun aP=>
  (dt (decide (aP≥0)) true (idx aa.bH.length aP)).bind fun bZ=>
  (dt (decide (aP≥0)) true (vU ((aA aa.bH bZ).b1) Aa)).bind fun bc=>
  cond ((decide (aP≥0)) && bc) (
   some ((default:a2),([]:List a2),13)) (
   (idx aj.length ak).bind fun dj=>
   (qK aa ((aA aj dj).b5)).bind fun bf=>
   (idx aj.length ak).bind fun hj=>
   (C1 aa aj (aA aj hj)).bind fun cb=>
   (wi cb.1 cb.2.1 cb.2.2 (σ:=(List a2) × (List a2)) (ε:=Empty) (fun(vz:a2) (s1:(List a2) × (List a2))=>
    (fT 128 s1.1 [vz]).bind fun cN=>
    some (.inl (cN,[]))) (([]:List a2),(default:List a2))).bind fun az=>
   Sum.elim (fun s1=>
    some (bf.1,s1.1,0)) (fun aE=>
    Empty.elim aE) az))
def vY (aa:List a2):Option (List a2):=
 (fT 128 ([]:List a2) aa).bind fun ak=>
 some ak
def po (aa:Vector ao 4) (aj:Vector ao 4) (aR:ao→ao→Option ao):Option (Vector ao 4):=
 (ej (σ:=Int × (Vector ao 4)) (ε:=(Int × Bool × (Vector ao 4))) ep (fun s1=>
  cond (decide (s1.1 < 4)) (
   (idx 4 s1.1).bind fun a4=>
   (idx 4 s1.1).bind fun bZ=>
   (aR (cf s1.2 a4) (cf aj bZ)).bind fun ak=>
   (idx 4 s1.1).bind fun dj=>
   some (.inl (bD (s1.1 + 1),c1 s1.2 dj ak))) (
   some (.inr (s1.1,decide (s1.1 < 4),s1.2)))) (0,aa)).bind fun az=>
 some az.2.2
def uk (aa:a2) (aj:a2):Option (a2 × Bool):=
 (po aa.bK aj.bK my).bind fun ak=>
 (po aa.bR aj.bR qH).bind fun aP=>
 (po aP ak my).bind fun bc=>
 cond (!decide (bc=(default:Vector ao 4))) (
  some ((default:a2),false)) (
  (po aa.bR aj.bR mz).bind fun bf=>
  (po aa.bK aj.bK mz).bind fun cb=>
  some ({ bR:=bf,bK:=cb:a2 },true))
def tT (aa:a2) (aj:a2):Option Bool:=
 (uk aj aa).bind fun ak=>
 some (!ak.2)
def tG (aa:List a2) (aj:a2→Option Bool):Option Int:=
 (ej (σ:=Int) (ε:=(Int × Bool) ⊕ (Int × Int × Int × Bool × Bool)) ep (fun s1=>
  cond (decide (s1 < (aa.length:Int))) (
   (idx aa.length s1).bind fun a4=>
   (aj (aA aa a4)).bind fun ak=>
   cond ak (
    some (.inr (Sum.inr (s1,s1,s1,decide (s1 < (aa.length:Int)),ak)))) (
    some (.inl (bD (s1 + 1))))) (
   some (.inr (Sum.inl (s1,decide (s1 < (aa.length:Int))))))) 0).bind fun az=>
  Sum.elim (fun az=>
   some (-1)) (fun az=>
  some az.1) az
def tF (aa:List a2) (aj:a2→Option Bool):Option (List a2):=
 (tG aa aj).bind fun ak=>
 cond (ak ==(-1)) (
  some aa) (
  (ej (σ:=Int × Int × (List a2)) (ε:=(Int × Int × Bool × (List a2))) ep (fun s1=>
   cond (decide (s1.2.1 < (s1.2.2.length:Int))) (
    (idx s1.2.2.length s1.2.1).bind fun a4=>
    (aj (aA s1.2.2 a4)).bind fun aP=>
    (cond (!aP) (
     (idx s1.2.2.length s1.1).bind fun bZ=>
     some (bD (s1.1 + 1),gI s1.2.2 bZ (aA s1.2.2 a4))) (
     some (s1.1,s1.2.2))).bind fun bO=>
    some (.inl (bO.1,bD (s1.2.1 + 1),bO.2))) (
    some (.inr (s1.1,s1.2.1,decide (s1.2.1 < (s1.2.2.length:Int)),s1.2.2)))) (ak,bD (ak + 1),aa)).bind fun az=>
  (yH az.2.2.2.length az.1 (az.2.2.2.length:Int)).bind fun bc=>
  (some (mF az.2.2.2 bc.1 (bc.2 - bc.1))).bind fun bk=>
  (idx (bk.length + 1) az.1).bind fun dj=>
  (some (bk.take dj)).bind fun c8=>
  some c8)
def uh (aa:a2) (aj:List a2):Option (List a2):=
 (vY aj).bind fun ak=>
 (tF ak (fun fu=>tT fu aa)).bind fun aP=>
 some aP
def wU (aa:a2) (aj:a2):Option Bool:=
 (uk aa aj).bind fun ak=>
 some (ak.2 && (decide (ak.1=aa)))
def wx (aa:a2) (aj:a2):Option Bool:=
 (wU aj aa).bind fun ak=>
 some ak
def vT (aa:List a2) (aj:a2→Option Bool):Option Bool:=
 (tG aa aj).bind fun ak=>
 some (decide (ak≥0))
def um (aa:ao) (aj:Int):Option ao:=
 (qE aj).bind fun ak=>
 (my ak ({ dD:= ~~~aa.dD,bY:= ~~~aa.bY:ao })).bind fun aP=>
 some aP
def wP (aa:a2) (aj:List a2):Option ((Vector ao 4) × (Vector ao 4)):=
 (ej (σ:=Int × (Vector ao 4) × (Vector ao 4)) (ε:=(Int × Bool × (Vector ao 4) × (Vector ao 4))) ep (fun s1=>
  cond (decide (s1.1 < (aj.length:Int))) (
   (idx aj.length s1.1).bind fun a4=>
   (ej (σ:=Int × (Vector ao 4) × (Vector ao 4)) (ε:=(Int × Bool × (Vector ao 4) × (Vector ao 4))) ep (fun s2=>
    cond (decide (s2.1 < 4)) (
     (idx 4 s2.1).bind fun bZ=>
     (idx 4 s2.1).bind fun dj=>
     (um (cf aa.bK dj) 128).bind fun ak=>
     (my (cf ((aA aj a4).bK) bZ) ak).bind fun aP=>
     (idx 4 s2.1).bind fun hj=>
     (idx 4 s2.1).bind fun j6=>
     (my aP (cf ((aA aj a4).bR) j6)).bind fun bc=>
     (mz (cf s2.2.1 hj) bc).bind fun bf=>
     (idx 4 s2.1).bind fun lj=>
     (idx 4 s2.1).bind fun mr=>
     (idx 4 s2.1).bind fun mu=>
     (um (cf ((aA aj a4).bR) mu) 128).bind fun cb=>
     (my aP cb).bind fun cN=>
     (mz (cf s2.2.2 mr) cN).bind fun dm=>
     (idx 4 s2.1).bind fun qp=>
     some (.inl (bD (s2.1 + 1),c1 s2.2.1 lj bf,c1 s2.2.2 qp dm))) (
     some (.inr (s2.1,decide (s2.1 < 4),s2.2.1,s2.2.2)))) (0,s1.2.1,s1.2.2)).bind fun aX=>
   some (.inl (bD (s1.1 + 1),aX.2.2.1,aX.2.2.2))) (
   some (.inr (s1.1,decide (s1.1 < (aj.length:Int)),s1.2.1,s1.2.2)))) (0,(default:Vector ao 4),(default:Vector ao 4))).bind fun az=>
 some (az.2.2.2,az.2.2.1)
def wO (aa:a2) (aj:Vector ao 4) (aR:Vector ao 4):Option a2:=
 (ej (σ:=Int × a2) (ε:=(Int × Bool × a2)) ep (fun s1=>
  cond (decide (s1.1 < 4)) (
   (idx 4 s1.1).bind fun a4=>
   (idx 4 s1.1).bind fun bZ=>
   (my (cf aj a4) (cf aR bZ)).bind fun ak=>
   (idx 4 s1.1).bind fun dj=>
   (idx 4 s1.1).bind fun hj=>
   (idx 4 s1.1).bind fun j6=>
   (mz (cf aj hj) (cf aR j6)).bind fun aP=>
   (qH aP ak).bind fun bc=>
   (mz (cf s1.2.bK dj) bc).bind fun bf=>
   (idx 4 s1.1).bind fun lj=>
   (idx 4 s1.1).bind fun mr=>
   (idx 4 s1.1).bind fun mu=>
   (qH (cf aj mu) ak).bind fun cb=>
   (mz (cf s1.2.bR mr) cb).bind fun cN=>
   (idx 4 s1.1).bind fun qp=>
   (some (({ ({ s1.2 with bK:=c1 s1.2.bK lj bf } :a2) with bR:=c1 s1.2.bR qp cN } :a2))).bind fun bk=>
   some (.inl (bD (s1.1 + 1),bk))) (
   some (.inr (s1.1,decide (s1.1 < 4),s1.2)))) (0,aa)).bind fun az=>
 some az.2.2
def uo (aa:Vector ao 4) (aj:Int):Option Bool:=
 (sW aj 128).bind fun ak=>
 (idx 4 ak).bind fun a4=>
 (mQ aj 128).bind fun aP=>
 (ps (cf aa a4) (bD (127 - aP))).bind fun bc=>
 some bc
def wL (aa:Vector ao 4) (aj:List a2):Option Int:=
 (ej (σ:=Int × Int × Int) (ε:=(Int × Int × Int × Bool)) ep (fun s1=>
  cond (decide (s1.2.2 < 512)) (
   (uo aa s1.2.2).bind fun ak=>
   cond (!ak) (
    some (.inl (s1.1,s1.2.1,bD (s1.2.2 + 1)))) (
    (ej (σ:=Int × Int) (ε:=(Int × Int × Bool)) ep (fun s2=>
     cond (decide (s2.2 < (aj.length:Int))) (
      (idx aj.length s2.2).bind fun a4=>
      (uo ((aA aj a4).bK) s1.2.2).bind fun aP=>
      (cond aP (
       some (bD (s2.1 + 1))) (
       some s2.1)).bind fun bO=>
      some (.inl (bO,bD (s2.2 + 1)))) (
      some (.inr (s2.1,s2.2,decide (s2.2 < (aj.length:Int)))))) (0,0)).bind fun aX=>
    (cond (decide (aX.1 > s1.2.1)) (
     some (s1.2.2,aX.1)) (
     some (s1.1,s1.2.1))).bind fun cD=>
    some (.inl (cD.1,cD.2,bD (s1.2.2 + 1))))) (
   some (.inr (s1.1,s1.2.1,s1.2.2,decide (s1.2.2 < 512))))) (0,0,0)).bind fun az=>
 some az.1
def ug (aa:Int):Option (Int × Int):=
 (sW aa 128).bind fun ak=>
 (mQ aa 128).bind fun aP=>
 some (ak,bD (127 - aP))
def w3 (aa:Vector ao 4) (aj:Int):Option Bool:=
 (ug aj).bind fun ak=>
 (idx 4 ak.1).bind fun a4=>
 (ps (cf aa a4) ak.2).bind fun aP=>
 some aP
def se (aa:a2) (aj:Int) (aR:Bool):Option a2:=
 (dt ((decide (aj < 0)) || (decide (aj≥512))) false (w3 aa.bK aj)).bind fun ak=>
 cond (((decide (aj < 0)) || (decide (aj≥512))) || ak) (
  some aa) (
  (ug aj).bind fun aP=>
  (Dg (1#64)).bind fun bc=>
  (wW bc aP.2).bind fun bf=>
  (idx 4 aP.1).bind fun a4=>
  (mz (cf aa.bK a4) bf).bind fun cb=>
  (idx 4 aP.1).bind fun bZ=>
  (cond aR (
   (idx 4 aP.1).bind fun dj=>
   (mz (cf aa.bR dj) bf).bind fun cN=>
   (idx 4 aP.1).bind fun hj=>
   (some (({ ({ aa with bK:=c1 aa.bK bZ cb } :a2) with bR:=c1 aa.bR hj cN } :a2))).bind fun bk=>
   some bk) (
   some ({ aa with bK:=c1 aa.bK bZ cb } :a2))).bind fun bO=>
  some bO)
def pn:Nat→a2→ (List a2)→Option Bool
 | 0=>fun _ _=>none
 | n + 1=>fun aa aj=>
   (uh aa aj).bind fun ak=>
   (vT ak (fun fu=>wx fu aa)).bind fun aP=>
   cond aP (
    some true) (
    cond ((ak.length:Int) ==0) (
     some false) (
     (wP aa ak).bind fun bc=>
     (wO aa bc.1 bc.2).bind fun bf=>
     cond (!decide (bf=aa)) (
      (pn n bf ak).bind fun cb=>
      some cb) (
      (wL bc.1 ak).bind fun cN=>
      (se aa cN false).bind fun dm=>
      (pn n dm ak).bind fun et=>
      (dt et true (se aa cN true)).bind fun fk=>
      (dt et true (pn n fk ak)).bind fun hz=>
      some (et && hz))))
def C3 (aa:a2) (aj:List a2):Option Bool:=pn ep aa aj
def tX (aa:a2) (aj:List a2):Option (Bool × Int):=
 (uh aa aj).bind fun ak=>
 cond (decide ((ak.length:Int) > 16)) (
  some (false,26)) (
  (C3 aa ak).bind fun aP=>
  some (aP,0))
def qD (aa:a3) (aj:List aM) (aR:Int):Option (Bool × Int):=
 (wD aa aj aR).bind fun ak=>
 cond (ak.2.2 !=0) (
  some (false,ak.2.2)) (
  (tX ak.1 ak.2.1).bind fun aP=>
  some (aP.1,aP.2))
def AD:Option Bool:=
 (sa ([]:List (BitVec 8)) 0).bind fun ak=>
 (tO ak).bind fun aP=>
 (qe (α:=ch) 64 2).bind fun bc=>
 (some (({ (default:bE) with dq:=3,cA:=bc,gF:=5,kB:=1 } :bE))).bind fun bk=>
 (some (({ (default:aM) with b5:=bk,cy:=1 } :aM))).bind fun c8=>
 (qe (α:=ch) 64 2).bind fun bf=>
 (some (({ (default:bE) with dq:=3,cA:=bf,gF:=4,kB:=1 } :bE))).bind fun e8=>
 (some (({ (default:aM) with b5:=e8,cy:=2 } :aM))).bind fun gN=>
 (qD aP.1 [c8,gN] 2).bind fun cb=>
 (qD aP.1 [c8,gN] 1).bind fun cN=>
 some (((cb.1 && (!cN.1)) && (cb.2 ==0)) && (cN.2 ==0))
def wF (hp:bb Cell) (aa:List (BitVec 8)) (aj:List (BitVec 8)) (aR:Int):aG (Bool × (bb Cell)):=
 aG.bind (aG.of (sa aa 120)) fun ak=>
 aG.bind (aG.of (tO ak)) fun aP=>
 aG.bind (aG.of (sa aj 200)) fun bc=>
 aG.bind (wQ hp aP.1 bc aR 12) fun bf=>
 aG.bind (aG.of (ej (σ:=Int) (ε:=(Int × Bool) ⊕ (Bool × Int × Bool × Int × Int × Bool × (List aM) × Int × Int × Bool × Bool)) ep (fun s1=>
   cond (decide (s1 < (bf.2.1.length:Int))) (
    (idx bf.2.1.length s1).bind fun a4=>
    (ej (σ:=Int × (List aM)) (ε:=(Int × Bool × (List aM))) ep (fun s2=>
     cond (decide (s2.1 < (bf.2.1.length:Int))) (
      (idx bf.2.1.length s2.1).bind fun bZ=>
      (dt (((aA bf.2.1 bZ).cy) ==((aA bf.2.1 a4).cy)) false (wT aP.1 (aA bf.2.1 bZ) (aA bf.2.1 a4))).bind fun cb=>
      (cond ((((aA bf.2.1 bZ).cy) ==((aA bf.2.1 a4).cy)) || cb) (
       (fT 88 s2.2 [(aA bf.2.1 bZ)]).bind fun cN=>
       some cN) (
       some s2.2)).bind fun bO=>
      some (.inl (bD (s2.1 + 1),bO))) (
      some (.inr (s2.1,decide (s2.1 < (bf.2.1.length:Int)),s2.2)))) (0,([]:List aM))).bind fun aX=>
    (qD aP.1 bf.2.1 ((aA bf.2.1 a4).cy)).bind fun dm=>
    (qD aP.1 aX.2.2 ((aA bf.2.1 a4).cy)).bind fun et=>
    (some (((dm.1 !=et.1) || (dm.2 !=et.2)) || (((aX.2.2.length:Int) ==1) && dm.1))).bind fun bk=>
    cond bk (
     some (.inr (Sum.inr (dm.1,dm.2,et.1,et.2,s1,decide (s1 < (bf.2.1.length:Int)),bf.2.1,(bf.2.1.length:Int),aX.1,aX.2.1,bk)))) (
     some (.inl (bD (s1 + 1))))) (
    some (.inr (Sum.inl (s1,decide (s1 < (bf.2.1.length:Int))))))) 0)) fun az=>
   Sum.elim (fun az=>
    aG.bind (aG.of (AD)) fun fk=>
    aG.ret (fk,bf.2.2.2)) (fun az=>
   aG.ret (false,bf.2.2.2)) az
end Go.Proofs.YtmnggbjcnoffeaaGreat
