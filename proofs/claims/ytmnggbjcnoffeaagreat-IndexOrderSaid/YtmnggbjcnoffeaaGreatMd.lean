/-
  Each function of the translation as a functional program. Conditions: none.
-/
import Derived.Test.YtmnggbjcnoffeaaGreatMt
set_option linter.unusedVariables false
set_option linter.unusedSimpArgs false
set_option maxRecDepth 100000
namespace Go.Proofs.YtmnggbjcnoffeaaGreat
open Go Gv
def s8 (aa:List (BitVec 8)) (aj:Int):Option bf:=
 (vl aa 0 (min (aa.length:Int) aj)).bind fun aG=>
 some ({ (default:bf) with b1:=aG } :bf)
def Dn (aa:bf):Option Bool:=
 some (decide (aa.sd < (aa.b1.length:Int)))
def fH (aa:bf) (aj:Int):Option (Int × bf):=
 (Dn aa).bind fun aG=>
 cond ((!aG) || (decide (aj < 1))) (
  some (0,aa)) (
  (idx aa.b1.length (bq ((bq (aa.sd + 1)) - 1))).bind fun a8=>
  (tN ((aE aa.b1 a8).toNat:Int) aj).bind fun aJ=>
  some (aJ,({ aa with sd:=bq (aa.sd + 1) } :bf)))
def lJ (aa:bf):Option (Bool × bf):=
 (fH aa 2).bind fun aG=>
 some (aG.1 ==1,aG.2)
def zy (aa:bf):Option ((List dK) × bf):=
 (fH aa 4).bind fun aG=>
 (idx (([0,0,65535,3]:List Int).length) aG.1).bind fun a8=>
 (some ({ cI:=({ (default:ar) with bG:=1#64 } :ar),fL:=({ (default:ar) with bG:=15#64 } :ar),pM:=2:gM })).bind fun bE=>
 (some ({ cI:=({ (default:ar) with bG:=2#64 } :ar),fL:=({ (default:ar) with bG:=3#64 } :ar),pM:=3:gM })).bind fun dt=>
 (lJ aG.2).bind fun aJ=>
 (cond aJ.1 (
  (fH aJ.2 2).bind fun dg=>
  (some (({ (default:ar) with bG:=BitVec.ofInt 64 (bq (8 * dg.1)) } :ar))).bind fun jo=>
  (fH dg.2 4).bind fun c8=>
  (idx (([0,0,65535,3]:List Int).length) c8.1).bind fun cY=>
  (some ({ cI:=jo,fL:=({ (default:ar) with bG:=8#64 } :ar),pM:=aE ([0,0,65535,3]:List Int) cY:gM })).bind fun hN=>
  (hA 40 [bE,dt] [hN]).bind fun eX=>
  some (c8.2,eX)) (
  some (aJ.2,[bE,dt]))).bind fun bp=>
 (fH bp.1 4).bind fun bh=>
 (idx (([0,0,65535,3]:List Int).length) bh.1).bind fun bY=>
 (some (({ (default:dK) with bX:=2,ig:=2,hk:=aE ([0,0,65535,3]:List Int) bY } :dK))).bind fun fz=>
 (some (({ (default:dK) with bX:=3,ig:=3,nI:=9,hk:=0 } :dK))).bind fun ia=>
 (fH bh.2 3).bind fun bn=>
 (cond (bn.1 ==1) (
  (fH bn.2 3).bind fun cw=>
  (some ({ cI:=({ (default:ar) with bG:=5#64 } :ar),fL:=({ (default:ar) with bG:=15#64 } :ar),pM:=bq (1 + cw.1):gM })).bind fun jn=>
  some (cw.2,({ ia with o6:= [jn] } :dK))) (
  some (bn.2,ia))).bind fun cP=>
 (some (({ ({ (default:dK) with bX:=1,ig:=1,nI:=4,hk:=aE ([0,0,65535,3]:List Int) a8 } :dK) with o6:=bp.2 } :dK))).bind fun g7=>
 some ([g7,fz,cP.2],cP.1)
def zr (aa:bf):Option ((List dT) × bf):=
 (some (({ (default:dT) with bX:=1,cn:=ByteArray.mk #[110,111,112] } :dT))).bind fun bE=>
 (some (({ (default:dT) with bX:=2,cn:=ByteArray.mk #[100,114,111,112],oz:= [({ (default:fb) with iq:=6 } :fb)] } :dT))).bind fun dt=>
 (some ({ cn:=ByteArray.mk #[112,111,114,116],fq:=16:iF })).bind fun fz=>
 (some (({ (default:fb) with iq:=7,kV:=({ (default:fI) with cN:=3 } :fI) } :fb))).bind fun ia=>
 (some (({ (default:dT) with bX:=3,cn:=ByteArray.mk #[102,111,114,119,97,114,100],kt:= [fz],oz:= [ia] } :dT))).bind fun g7=>
 (some ({ iq:=1,jQ:=5,kV:=({ (default:fI) with cN:=3 } :fI):fb })).bind fun jn=>
 (some (({ (default:fI) with cN:=2,wk:=5 } :fI))).bind fun jo=>
 (some (({ (default:dT) with bX:=4,cn:=ByteArray.mk #[116,97,103],kt:= [{ cn:=ByteArray.mk #[120],fq:=4:iF }],oz:= [jn,{ iq:=2,jQ:=3,kV:=jo:fb }] } :dT))).bind fun hN=>
 (some ([{ cn:=ByteArray.mk #[120],fq:=4:iF },{ cn:=ByteArray.mk #[121],fq:=12:iF }])).bind fun l5=>
 (some ({ iq:=1,jQ:=9,kV:=({ (default:fI) with cN:=3 } :fI):fb })).bind fun lx=>
 (some (({ (default:fI) with cN:=3,wk:=1 } :fI))).bind fun k1=>
 (some ([({ (default:fb) with iq:=4,jQ:=3 } :fb),lx,{ iq:=3,jQ:=8,kV:=k1:fb }])).bind fun mo=>
 (some (({ (default:dT) with bX:=5,cn:=ByteArray.mk #[119,114,97,112],kt:=l5,oz:=mo } :dT))).bind fun k2=>
 (fH aa 2).bind fun aG=>
 (some (({ (default:fb) with iq:=5,jQ:=bq (2 + aG.1) } :fb))).bind fun ly=>
 (fH aG.2 256).bind fun aJ=>
 (some (({ (default:ar) with bG:=BitVec.ofInt 64 aJ.1 } :ar))).bind fun oI=>
 (some (({ (default:fI) with cN:=1,cI:=oI } :fI))).bind fun pn=>
 (some (({ (default:dT) with bX:=6,cn:=ByteArray.mk #[115,116,114,105,112],oz:= [ly,{ iq:=2,jQ:=6,kV:=pn:fb }] } :dT))).bind fun nn=>
 (lJ aJ.2).bind fun bh=>
 (cond bh.1 (
  (idx ([bE,dt,g7,hN,k2,nn].length) 2).bind fun bY=>
  (some (en [bE,dt,g7,hN,k2,nn] bY ({ (aE [bE,dt,g7,hN,k2,nn] bY) with qD:=ByteArray.mk #[112,111,114,116,32,33,61,32,48] } :dT))).bind fun q7=>
  some q7) (
  some [bE,dt,g7,hN,k2,nn])).bind fun bp=>
 (lJ bh.2).bind fun bn=>
 (cond bn.1 (
  (idx bp.length 4).bind fun a8=>
  (some (en bp a8 ({ (aE bp a8) with qD:=ByteArray.mk #[120,32,60,32,121,32,124,124,32,120,32,61,61,32,49,53] } :dT))).bind fun so=>
  some so) (
  some bp)).bind fun cP=>
 some (cP,bn.2)
def zA (aa:bf):Option ((List bW) × bf):=
 (some ({ cn:=ByteArray.mk #[97],gW:=4,cN:=1:cH })).bind fun bE=>
 (fH aa 2).bind fun aG=>
 (fH aG.2 5).bind fun aJ=>
 (some (({ (default:bW) with bX:=1,cn:=ByteArray.mk #[112,111,114,116,115],cl:= [bE],dU:=([1,2,4]:List Int),hk:=bq (1 + aG.1),iQ:=bq (2 + aJ.1) } :bW))).bind fun dt=>
 (some ({ cn:=ByteArray.mk #[100],gW:=7,cN:=2:cH })).bind fun fz=>
 (fH aJ.2 6).bind fun bh=>
 (lJ bh.2).bind fun bn=>
 (cond bn.1 (
  (some ({ cn:=ByteArray.mk #[109],gW:=3,cN:=1:cH })).bind fun pn=>
  (hA 32 [fz] [pn]).bind fun gQ=>
  some (({ ({ (default:bW) with bX:=2,cn:=ByteArray.mk #[114,111,117,116,101,115],dU:=([1,2,3,4]:List Int),hk:=2,iQ:=bq (3 + bh.1) } :bW) with cl:= [] } :bW),gQ)) (
  some (({ (default:bW) with bX:=2,cn:=ByteArray.mk #[114,111,117,116,101,115],dU:=([1,2,3,4]:List Int),hk:=2,iQ:=bq (3 + bh.1) } :bW),[fz]))).bind fun bp=>
 (some ({ cn:=ByteArray.mk #[101],gW:=6,cN:=3:cH })).bind fun ia=>
 (some ({ cn:=ByteArray.mk #[97],gW:=4,cN:=3:cH })).bind fun g7=>
 (fH bn.2 6).bind fun cw=>
 (lJ cw.2).bind fun dg=>
 (cond dg.1 (
  (some ({ cn:=ByteArray.mk #[98],gW:=5,cN:=1:cH })).bind fun oI=>
  (hA 32 [ia,g7] [oI]).bind fun hY=>
  some (({ ({ (default:bW) with bX:=3,cn:=ByteArray.mk #[97,99,108],dU:=([1,2,3,5,6]:List Int),hk:=1,iQ:=bq (4 + cw.1) } :bW) with cl:= [] } :bW),hY)) (
  some (({ (default:bW) with bX:=3,cn:=ByteArray.mk #[97,99,108],dU:=([1,2,3,5,6]:List Int),hk:=1,iQ:=bq (4 + cw.1) } :bW),[ia,g7]))).bind fun cP=>
 (some ({ cn:=ByteArray.mk #[102],gW:=8,cN:=4:cH })).bind fun jn=>
 (fH dg.2 5).bind fun c8=>
 (lJ c8.2).bind fun eX=>
 (cond eX.1 (
  (some ({ cn:=ByteArray.mk #[103],gW:=9,cN:=1:cH })).bind fun k2=>
  (some ({ cn:=ByteArray.mk #[100],gW:=7,cN:=2:cH })).bind fun ly=>
  (hA 32 [jn] [k2,ly]).bind fun gH=>
  some (({ ({ (default:bW) with bX:=4,cn:=ByteArray.mk #[115,112,97,110,115],dU:=([1,3,5]:List Int),hk:=3,uL:= [({ (default:ar) with bG:=7#64 } :ar)],iQ:=bq (3 + c8.1) } :bW) with cl:= [] } :bW),gH)) (
  some (({ (default:bW) with bX:=4,cn:=ByteArray.mk #[115,112,97,110,115],dU:=([1,3,5]:List Int),hk:=3,uL:= [({ (default:ar) with bG:=7#64 } :ar)],iQ:=bq (3 + c8.1) } :bW),[jn]))).bind fun ff=>
 (some ([dt,({ bp.1 with cl:=bp.2 } :bW),({ cP.1 with cl:=cP.2 } :bW),({ ff.1 with cl:=ff.2 } :bW)])).bind fun jo=>
 (some ([ByteArray.mk #[],ByteArray.mk #[97,32,33,61,32,48],ByteArray.mk #[97,32,60,32,49,52,32,38,38,32,97,32,33,61,32,51]])).bind fun hN=>
 (some ([ByteArray.mk #[],ByteArray.mk #[100,58,58,112,114,101,102,105,120,95,108,101,110,103,116,104,32,62,61,32,56],ByteArray.mk #[100,58,58,112,114,101,102,105,120,95,108,101,110,103,116,104,32,61,61,32,51,50,32,45,62,32,100,58,58,118,97,108,117,101,32,62,32,48,120,102,102]])).bind fun l5=>
 (some ([ByteArray.mk #[],ByteArray.mk #[112,114,105,111,114,105,116,121,32,60,32,49,48,48,32,38,38,32,40,101,58,58,109,97,115,107,32,33,61,32,48,32,124,124,32,97,58,58,109,97,115,107,32,33,61,32,48,41],ByteArray.mk #[101,58,58,109,97,115,107,32,61,61,32,48,32,45,62,32,112,114,105,111,114,105,116,121,32,62,32,53]])).bind fun lx=>
 (some ([ByteArray.mk #[],ByteArray.mk #[102,58,58,104,105,103,104,32,45,32,102,58,58,108,111,119,32,60,61,32,48,120,49,48,48],ByteArray.mk #[33,40,102,58,58,108,111,119,32,61,61,32,48,32,38,38,32,102,58,58,104,105,103,104,32,62,32,49,48,48,48,41]])).bind fun k1=>
 (e5 (σ:=Int × (List bW) × bf) (ε:=(Int × Bool × (List bW) × bf)) eU (fun s1=>
  cond (decide (s1.1 < (jo.length:Int))) (
   (idx ([hN,l5,lx,k1].length) s1.1).bind fun a8=>
   (fH s1.2.2 3).bind fun fV=>
   (idx ((aE [hN,l5,lx,k1] a8).length) fV.1).bind fun bY=>
   (idx s1.2.1.length s1.1).bind fun cY=>
   (some (en s1.2.1 cY ({ (aE s1.2.1 cY) with qD:=aE (aE [hN,l5,lx,k1] a8) bY } :bW))).bind fun mo=>
   some (.inl (bq (s1.1 + 1),mo,fV.2))) (
   some (.inr (s1.1,decide (s1.1 < (jo.length:Int)),s1.2.1,s1.2.2)))) (0,jo,eX.2)).bind fun av=>
 some (av.2.2.1,av.2.2.2)
def zL (aa:bf) (aj:List bW):Option ((List cJ) × bf):=
 (fH aa 3).bind fun aG=>
 (fH aG.2 6).bind fun aJ=>
 (fH aJ.2 6).bind fun bh=>
 (fH bh.2 4).bind fun bn=>
 (e5 (σ:=Int × cJ × (List dy) × bf × cJ × (List dy) × cJ × (List dy)) (ε:=(Int × Bool × cJ × (List dy) × bf × cJ × (List dy) × cJ × (List dy))) eU (fun s1=>
  cond (decide (s1.1 < (aj.length:Int))) (
   (idx aj.length s1.1).bind fun a8=>
   (wu (α:=Bool) 1 (((aE aj a8).cl).length:Int)).bind fun cw=>
   (wu (α:=Bool) 1 (((aE aj a8).cl).length:Int)).bind fun dg=>
   (e5 (σ:=Int × (List Bool) × (List Bool) × bf) (ε:=(Int × Bool × (List Bool) × (List Bool) × bf)) eU (fun s2=>
    cond (decide (s2.1 < (cw.length:Int))) (
     (fH s2.2.2.2 4).bind fun c8=>
     (idx s2.2.2.1.length s2.1).bind fun bY=>
     (idx s2.2.1.length s2.1).bind fun cY=>
     some (.inl (bq (s2.1 + 1),en s2.2.1 cY (decide (c8.1 > 0)),en s2.2.2.1 bY true,c8.2))) (
     some (.inr (s2.1,decide (s2.1 < (cw.length:Int)),s2.2.1,s2.2.2.1,s2.2.2.2)))) (0,dg,cw,s1.2.2.2.1)).bind fun aX=>
   (some ({ dW:=(aE aj a8).bX,rS:=true,rL:=true,cl:=aX.2.2.2.1:dy })).bind fun bE=>
   (hA 40 s1.2.2.2.2.2.2.2 [bE]).bind fun eX=>
   (fH aX.2.2.2.2 4).bind fun fV=>
   (cond (decide (fV.1 > 0)) (
    (fH fV.2 4).bind fun hL=>
    (lJ hL.2).bind fun nr=>
    (some ({ dW:=(aE aj a8).bX,rS:=decide (hL.1 > 0),rL:=nr.1,cl:=aX.2.2.1:dy })).bind fun fz=>
    (hA 40 s1.2.2.2.2.2.1 [fz]).bind fun ji=>
    some (nr.2,({ s1.2.2.2.2.1 with jt:= [] } :cJ),ji)) (
    some (fV.2,s1.2.2.2.2.1,s1.2.2.2.2.2.1))).bind fun bp=>
   (lJ bp.1).bind fun gH=>
   (cond gH.1 (
    (lJ gH.2).bind fun hY=>
    (lJ hY.2).bind fun gQ=>
    (some ({ dW:=(aE aj a8).bX,rS:=hY.1,rL:=gQ.1,cl:=aX.2.2.2.1:dy })).bind fun dt=>
    (hA 40 s1.2.2.1 [dt]).bind fun h7=>
    some (gQ.2,({ s1.2.1 with jt:= [] } :cJ),h7)) (
    some (gH.2,s1.2.1,s1.2.2.1))).bind fun cP=>
   some (.inl (bq (s1.1 + 1),cP.2.1,cP.2.2,cP.1,bp.2.1,bp.2.2,({ s1.2.2.2.2.2.2.1 with jt:= [] } :cJ),eX))) (
   some (.inr (s1.1,decide (s1.1 < (aj.length:Int)),s1.2.1,s1.2.2.1,s1.2.2.2.1,s1.2.2.2.2.1,s1.2.2.2.2.2.1,s1.2.2.2.2.2.2.1,s1.2.2.2.2.2.2.2)))) (0,({ (default:cJ) with bX:=7,cn:=ByteArray.mk #[102,101,119],dU:= [bq (1 + bh.1)],rK:=bn.1 } :cJ),([]:List dy),bn.2,({ (default:cJ) with bX:=2,cn:=ByteArray.mk #[115,111,109,101],dU:=([1,2,bq (3 + aG.1)]:List Int),rK:=bq (1 + aJ.1) } :cJ),([]:List dy),({ (default:cJ) with bX:=1,cn:=ByteArray.mk #[97,108,108],dU:=([1,2,3,4,5,6]:List Int),rK:=40,AJ:=true } :cJ),([]:List dy))).bind fun av=>
 (some (({ av.2.2.2.2.2.2.2.1 with jt:=av.2.2.2.2.2.2.2.2 } :cJ))).bind fun ia=>
 (some ([ia,({ av.2.2.2.2.2.1 with jt:=av.2.2.2.2.2.2.1 } :cJ),({ av.2.2.1 with jt:=av.2.2.2.1 } :cJ)])).bind fun g7=>
 some (g7,av.2.2.2.2.1)
def xf (aa:bf):Option (a3 × bf):=
 (fH aa 8).bind fun aG=>
 (fH aG.2 30).bind fun aJ=>
 (some ({ bX:=1,cn:=ByteArray.mk #[105,110,103,114,101,115,115],fq:=16:fx })).bind fun bE=>
 (some ({ bX:=2,cn:=ByteArray.mk #[101,103,114,101,115,115],fq:=16:fx })).bind fun dt=>
 (some ({ bX:=3,cn:=ByteArray.mk #[109,101,116,97],fq:=8:fx })).bind fun fz=>
 (some ({ bX:=6,cn:=ByteArray.mk #[101],fq:=8:fx })).bind fun ia=>
 (some ({ bX:=7,cn:=ByteArray.mk #[100],fq:=32:fx })).bind fun g7=>
 (some ({ bX:=8,cn:=ByteArray.mk #[102],fq:=12:fx })).bind fun jn=>
 (some ({ bX:=9,cn:=ByteArray.mk #[103],fq:=4:fx })).bind fun jo=>
 (some ([bE,dt,fz,{ bX:=4,cn:=ByteArray.mk #[97],fq:=4:fx },{ bX:=5,cn:=ByteArray.mk #[98],fq:=4:fx },ia,g7,jn,jo])).bind fun hN=>
 (some (({ ({ (default:a3) with Aj:=bq (2 + aG.1),AA:=bq (12 + aJ.1) } :a3) with gV:=hN } :a3))).bind fun l5=>
 (some ({ bX:=1,cn:=ByteArray.mk #[111,110,101],gV:=([4,5,6]:List Int):jN })).bind fun lx=>
 (some ({ bX:=2,cn:=ByteArray.mk #[116,119,111],gV:=([7]:List Int):jN })).bind fun k1=>
 (some ({ bX:=3,cn:=ByteArray.mk #[116,104,114,101,101],gV:=([8,9]:List Int):jN })).bind fun mo=>
 (zy aJ.2).bind fun bh=>
 (zr bh.2).bind fun bn=>
 (zA bn.2).bind fun cw=>
 (some (({ ({ l5 with te:= [lx,k1,mo] } :a3) with u2:=bh.1 } :a3))).bind fun k2=>
 (some (({ ({ k2 with dU:=bn.1 } :a3) with b7:=cw.1 } :a3))).bind fun ly=>
 (zL cw.2 ly.b7).bind fun dg=>
 (some ([{ dW:=1,ig:=1:fJ },{ dW:=2,ig:=2:fJ },({ (default:fJ) with dW:=3 } :fJ),{ dW:=4,ig:=3:fJ }])).bind fun oI=>
 (lJ dg.2).bind fun c8=>
 (cond c8.1 (
  (hA 16 oI [({ (default:fJ) with dW:=1 } :fJ)]).bind fun hL=>
  some hL) (
  some oI)).bind fun bp=>
 (lJ c8.2).bind fun eX=>
 (cond eX.1 (
  (some (({ (default:fc) with dW:=2,kR:=4,pI:=1 } :fc))).bind fun Jo=>
  (hA 48 ([]:List fc) [Jo]).bind fun h7=>
  some (({ ({ ({ ly with ow:=dg.1 } :a3) with nJ:= [] } :a3) with oA:= [] } :a3),h7)) (
  some (({ ({ ly with ow:=dg.1 } :a3) with nJ:= [] } :a3),([]:List fc)))).bind fun cP=>
 (lJ eX.2).bind fun fV=>
 (cy fV.1 true (idx cP.1.b7.length 2)).bind fun a8=>
 (cond (fV.1 && ((((aE cP.1.b7 a8).cl).length:Int) ==3)) (
  (some (({ (default:fc) with dW:=3,vE:=2,pI:=1 } :fc))).bind fun q7=>
  (hA 48 cP.2 [q7]).bind fun gQ=>
  some (({ cP.1 with oA:= [] } :a3),gQ)) (
  some (cP.1,cP.2))).bind fun ff=>
 (lJ fV.2).bind fun gH=>
 (cy gH.1 true (idx ff.1.b7.length 3)).bind fun bY=>
 (cond (gH.1 && ((((aE ff.1.b7 bY).cl).length:Int) ==3)) (
  (some (({ (default:fc) with dW:=4,vE:=1,pI:=1 } :fc))).bind fun nn=>
  (some (({ (default:fc) with dW:=4,kR:=5,pI:=1 } :fc))).bind fun so=>
  (hA 48 ff.2 [nn,so]).bind fun hY=>
  some (({ ff.1 with oA:= [] } :a3),hY)) (
  some (ff.1,ff.2))).bind fun pA=>
 (some (({ ({ pA.1 with nJ:=bp } :a3) with oA:=pA.2 } :a3))).bind fun pn=>
 some (pn,gH.2)
def rD (aa:Int) (aj:Int):Option Int:=
 cond (decide (aj < 1)) (
  some 0) (
  (tN aa aj).bind fun aG=>
  (tN (bq (aG + aj)) aj).bind fun aJ=>
  some aJ)
def Dg (aa:bW) (aj:Int):Option Bool:=
 some (aa.bX ==aj)
def zf (aa:List bW) (aj:bW→Option Bool):Option Int:=
 (e5 (σ:=Int) (ε:=(Int × Bool) ⊕ (Int × Int × Int × Bool × Bool)) eU (fun s1=>
  cond (decide (s1 < (aa.length:Int))) (
   (idx aa.length s1).bind fun a8=>
   (aj (aE aa a8)).bind fun aG=>
   cond aG (
    some (.inr (Sum.inr (s1,s1,s1,decide (s1 < (aa.length:Int)),aG)))) (
    some (.inl (bq (s1 + 1))))) (
   some (.inr (Sum.inl (s1,decide (s1 < (aa.length:Int))))))) 0).bind fun av=>
  Sum.elim (fun av=>
   some (-1)) (fun av=>
  some av.1) av
def s6 (aa:a3) (aj:Int):Option Int:=
 (zf aa.b7 (fun ib=>Dg ib aj)).bind fun aG=>
 some aG
def xB (aa:bW):Option (Int × Int):=
 (e5 (σ:=Int × Int × Int) (ε:=(Int × Int × Int × Bool)) eU (fun s1=>
  cond (decide (s1.2.2 < (aa.cl.length:Int))) (
   (idx aa.cl.length s1.2.2).bind fun a8=>
   (cond (((aE aa.cl a8).cN) ==1) (
    some (s1.1,s1.2.1)) (
    (cond (((aE aa.cl a8).cN) ==2) (
     some (max s1.1 2,s1.2.2)) (
     some (3,s1.2.1))).bind fun cP=>
    some (cP.1,cP.2))).bind fun bp=>
   some (.inl (bp.1,bp.2,bq (s1.2.2 + 1)))) (
   some (.inr (s1.1,s1.2.1,s1.2.2,decide (s1.2.2 < (aa.cl.length:Int)))))) (1,0,0)).bind fun av=>
 some (av.1,av.2.1)
def DC (hp:aS Cell):ax (Ref × (aS Cell)):=
 ax.bind (ax.mk hp (Cell.n0 ([]:List ((Vector ar 4) × Int)))) fun c2=>
 ax.bind (ax.mk c2.2 (Cell.yk ({ oD:=(⟨some c2.1⟩:gf):m5 }))) fun dc=>
 ax.ret ((some dc.1:Ref),dc.2)
def Dh (aa:fx) (aj:Int):Option Bool:=
 some (aa.bX ==aj)
def zg (aa:List fx) (aj:fx→Option Bool):Option Int:=
 (e5 (σ:=Int) (ε:=(Int × Bool) ⊕ (Int × Int × Int × Bool × Bool)) eU (fun s1=>
  cond (decide (s1 < (aa.length:Int))) (
   (idx aa.length s1).bind fun a8=>
   (aj (aE aa a8)).bind fun aG=>
   cond aG (
    some (.inr (Sum.inr (s1,s1,s1,decide (s1 < (aa.length:Int)),aG)))) (
    some (.inl (bq (s1 + 1))))) (
   some (.inr (Sum.inl (s1,decide (s1 < (aa.length:Int))))))) 0).bind fun av=>
  Sum.elim (fun av=>
   some (-1)) (fun av=>
  some av.1) av
def xr (aa:a3) (aj:Int):Option Int:=
 (zg aa.gV (fun ib=>Dh ib aj)).bind fun aG=>
 some aG
def GC (aa:a3):Option cu:=
 some ({ ({ (default:cu) with ou:=aa } :cu) with b1:=([]:List aA) } :cu)
def nG (hp:aS Cell) (aa:a3) (aj:Int):ax (Ref × (aS Cell)):=
 ax.bind (ax.of (s6 aa aj)) fun aG=>
 cond (decide (aG < 0)) (
  ax.ret ((none:Ref),hp)) (
  ax.bind (ax.of (idx aa.b7.length aG)) fun a8=>
  ax.bind (ax.of (xB (aE aa.b7 a8))) fun aJ=>
  ax.bind (ax.mk hp (Cell.kb ([]:List (Int × aA)))) fun c2=>
  ax.bind (ax.of (some (({ (default:gA) with pK:=aJ.1,o9:=(((aE aa.b7 a8).cl).length:Int),ks:=(⟨some c2.1⟩:gf) } :gA)))) fun bE=>
  ax.bind (ax.mk c2.2 (Cell.nf bE)) fun dc=>
  ax.bind (cond (aJ.1 ==1) (
    ax.bind (DC dc.2) fun bh=>
    ax.bind (ax.of (hz bh.2 dc.1)) fun bC=>
    ax.bind (ax.of (some (df bh.2 dc.1 (Cell.nf ({ bC with iu:=(gm.mh ({ p5:=bh.1:jM })) } :gA))))) fun cS=>
    ax.ret cS) (
    ax.bind (cond (aJ.1 ==2) (
      ax.bind (ax.of (idx (((aE aa.b7 a8).cl).length) aJ.2)) fun bY=>
      ax.bind (ax.of (xr aa ((aE ((aE aa.b7 a8).cl) bY).gW))) fun bn=>
      ax.bind (ax.of (cond (decide (bn≥0)) (
        (idx aa.gV.length bn).bind fun cY=>
        some ((aE aa.gV cY).fq)) (
        some 0))) fun ff=>
      ax.bind (ax.mk dc.2 (Cell.lS ([]:List ((Vector ar 4) × Ref)))) fun gJ=>
      ax.bind (ax.of (some ({ rX:=aJ.2,fw:=ff,nN:=(⟨some gJ.1⟩:gf):gz }))) fun dt=>
      ax.bind (ax.of (hz gJ.2 dc.1)) fun cf=>
      ax.bind (ax.of (some (df gJ.2 dc.1 (Cell.nf ({ cf with iu:=(gm.mi dt) } :gA))))) fun cO=>
      ax.ret cO) (
      ax.bind (ax.of (GC aa)) fun cw=>
      ax.bind (ax.any (Option Nat × Nat)) fun dZ=>
      ax.bind (ax.mk dc.2 (Cell.q0 cw dZ.1 dZ.2)) fun jH=>
      ax.bind (ax.of (hz jH.2 dc.1)) fun eH=>
      ax.bind (ax.of (some (df jH.2 dc.1 (Cell.nf ({ eH with iu:=(gm.mj ({ b1:=(some jH.1:Ref):ja })) } :gA))))) fun gj=>
      ax.ret gj)) fun cP=>
    ax.ret cP)) fun bp=>
  ax.ret ((some dc.1:Ref),bp))
def xc (aa:bf):Option Bool:=
 some (decide (aa.sd < (aa.b1.length:Int)))
def z3 (aa:a3) (aj:Int):Option Int:=
 (e5 (σ:=Int) (ε:=(Int × Bool) ⊕ (Int × Int × Bool × Bool)) eU (fun s1=>
  cond (decide (s1 < (aa.gV.length:Int))) (
   (idx aa.gV.length s1).bind fun a8=>
   cond (((aE aa.gV a8).bX) ==aj) (
    some (.inr (Sum.inr ((aE aa.gV a8).fq,s1,decide (s1 < (aa.gV.length:Int)),((aE aa.gV a8).bX) ==aj)))) (
    some (.inl (bq (s1 + 1))))) (
   some (.inr (Sum.inl (s1,decide (s1 < (aa.gV.length:Int))))))) 0).bind fun av=>
  Sum.elim (fun av=>
   some 0) (fun av=>
  some av.1) av
def uP (aa:ar) (aj:Int):Option ar:=
 cond (decide (aj≥128)) (
  some aa) (
  cond (decide (aj≥64)) (
   (some (aa.cV &&& (((1#64) <<< (BitVec.ofInt 64 (bq (aj - 64))).toNat) - (1#64)))).bind fun bE=>
   some ({ cV:=bE,bG:=aa.bG:ar })) (
   cond (decide (aj≤0)) (
    some (default:ar)) (
    (some (({ (default:ar) with bG:=aa.bG &&& (((1#64) <<< (BitVec.ofInt 64 aj).toNat) - (1#64)) } :ar))).bind fun dt=>
    some dt)))
def Dy (aa:Int) (aj:Int):Option ar:=
 (some ((((1#64) <<< (BitVec.ofInt 64 aa).toNat) - (1#64)) - (((1#64) <<< (BitVec.ofInt 64 (bq (aa - aj))).toNat) - (1#64)))).bind fun bE=>
 some ({ (default:ar) with bG:=bE } :ar)
def zJ (aa:bf) (aj:a3) (aP:cH):Option (bV × bf):=
 (z3 aj aP.gW).bind fun aG=>
 (fH aa 256).bind fun aJ=>
 (fH aJ.2 16).bind fun bh=>
 (some (((BitVec.ofInt 64 aJ.1) <<< (24#64).toNat) ||| ((BitVec.ofInt 64 bh.1) <<< (8#64).toNat))).bind fun bE=>
 (fH bh.2 16).bind fun bn=>
 (some (({ (default:ar) with bG:=bE ||| (BitVec.ofInt 64 bn.1) } :ar))).bind fun dt=>
 (uP dt aG).bind fun cw=>
 cond (aP.cN ==2) (
  (fH bn.2 5).bind fun dg=>
  cond (decide (dg.1 > 0)) (
   (fH dg.2 aG).bind fun c8=>
   (fH c8.2 5).bind fun eX=>
   (idx ([aG,8,16,1,bq (1 + c8.1)].length) eX.1).bind fun a8=>
   (Dy aG (aE [aG,8,16,1,bq (1 + c8.1)] a8)).bind fun fV=>
   (some (({ (default:ar) with bG:=cw.bG &&& fV.bG } :ar))).bind fun fz=>
   (some (({ (default:bV) with fF:=true,ez:=aE [aG,8,16,1,bq (1 + c8.1)] a8,cI:=fz } :bV))).bind fun ia=>
   some (ia,eX.2)) (
   some ((default:bV),dg.2))) (
  cond (aP.cN ==3) (
   (fH bn.2 256).bind fun gH=>
   (fH gH.2 5).bind fun hY=>
   (idx (([255,15,1,12,gH.1]:List Int).length) hY.1).bind fun bY=>
   (some (({ (default:ar) with bG:=BitVec.ofInt 64 (aE ([255,15,1,12,gH.1]:List Int) bY) } :ar))).bind fun g7=>
   (uP g7 aG).bind fun gQ=>
   cond (gQ.bG !=(0#64)) (
    (some (({ (default:ar) with bG:=cw.bG &&& gQ.bG } :ar))).bind fun jn=>
    (some (({ (default:bV) with fF:=true,fL:=gQ,cI:=jn } :bV))).bind fun jo=>
    some (jo,hY.2)) (
    some ((default:bV),hY.2))) (
   cond (aP.cN ==4) (
    (fH bn.2 256).bind fun h7=>
    (some (v5 (cw.bG + (BitVec.ofInt 64 h7.1)) (((1#64) <<< (BitVec.ofInt 64 aG).toNat) - (1#64)))).bind fun hN=>
    (fH h7.2 5).bind fun hL=>
    (some ((decide (hL.1 > 0)) && (!((cw.bG ==(0#64)) && (hN ==(((1#64) <<< (BitVec.ofInt 64 aG).toNat) - (1#64))))))).bind fun l5=>
    cond l5 (
     (some (({ (default:bV) with fF:=true,cI:=cw,jP:=({ (default:ar) with bG:=hN } :ar) } :bV))).bind fun lx=>
     some (lx,hL.2)) (
     some ((default:bV),hL.2))) (
    (some (({ (default:bV) with fF:=true,cI:=cw } :bV))).bind fun k1=>
    some (k1,bn.2))))
def zU (aa:a3) (aj:Int):Option dT:=
 (e5 (σ:=Int) (ε:=(Int × Bool) ⊕ (Int × Bool × Bool × dT)) eU (fun s1=>
  cond (decide (s1 < (aa.dU.length:Int))) (
   (idx aa.dU.length s1).bind fun a8=>
   cond (((aE aa.dU a8).bX) ==aj) (
    some (.inr (Sum.inr (s1,decide (s1 < (aa.dU.length:Int)),((aE aa.dU a8).bX) ==aj,(aE aa.dU a8))))) (
    some (.inl (bq (s1 + 1))))) (
   some (.inr (Sum.inl (s1,decide (s1 < (aa.dU.length:Int))))))) 0).bind fun av=>
  Sum.elim (fun av=>
   some (default:dT)) (fun av=>
  some av.2.2.2) av
def xi (aa:bf) (aj:a3) (aP:Int):Option (bu × bf):=
 (rD aP (aj.b7.length:Int)).bind fun aG=>
 (idx aj.b7.length aG).bind fun a8=>
 (e5 (σ:=Int × bu × (List bV) × bf) (ε:=(Int × Bool × bu × (List bV) × bf)) eU (fun s1=>
  cond (decide (s1.1 < (((aE aj.b7 a8).cl).length:Int))) (
   (idx (((aE aj.b7 a8).cl).length) s1.1).bind fun bY=>
   (zJ s1.2.2.2 aj (aE ((aE aj.b7 a8).cl) bY)).bind fun aJ=>
   (hA 64 s1.2.2.1 [aJ.1]).bind fun bh=>
   (some ((((aE ((aE aj.b7 a8).cl) bY).cN) ==3) || (((aE ((aE aj.b7 a8).cl) bY).cN) ==4))).bind fun bE=>
   (cond bE (
    (fH aJ.2 5).bind fun bn=>
    (some (({ ({ s1.2.1 with bZ:= [] } :bu) with hI:=bq (1 + bn.1) } :bu))).bind fun dt=>
    some (dt,bn.2)) (
    some (({ s1.2.1 with bZ:= [] } :bu),aJ.2))).bind fun bp=>
   some (.inl (bq (s1.1 + 1),bp.1,bh,bp.2))) (
   some (.inr (s1.1,decide (s1.1 < (((aE aj.b7 a8).cl).length:Int)),s1.2.1,s1.2.2.1,s1.2.2.2)))) (0,({ (default:bu) with dW:=(aE aj.b7 a8).bX } :bu),([]:List bV),aa)).bind fun av=>
 (fH av.2.2.2.2 (((aE aj.b7 a8).dU).length:Int)).bind fun cw=>
 (idx (((aE aj.b7 a8).dU).length) cw.1).bind fun cY=>
 (some (({ av.2.2.1 with kR:=aE ((aE aj.b7 a8).dU) cY } :bu))).bind fun fz=>
 (zU aj fz.kR).bind fun dg=>
 (e5 (σ:=Int × bu × (List ar) × bf) (ε:=(Int × Bool × bu × (List ar) × bf)) eU (fun s2=>
  cond (decide (s2.1 < (dg.kt.length:Int))) (
   (idx dg.kt.length s2.1).bind fun fu=>
   (fH s2.2.2.2 256).bind fun c8=>
   (some (({ (default:ar) with bG:=BitVec.ofInt 64 c8.1 } :ar))).bind fun ia=>
   (uP ia ((aE dg.kt fu).fq)).bind fun eX=>
   (hA 16 s2.2.2.1 [eX]).bind fun fV=>
   some (.inl (bq (s2.1 + 1),({ s2.2.1 with iw:= [] } :bu),fV,c8.2))) (
   some (.inr (s2.1,decide (s2.1 < (dg.kt.length:Int)),s2.2.1,s2.2.2.1,s2.2.2.2)))) (0,fz,([]:List ar),cw.2)).bind fun aX=>
 (some (({ ({ aX.2.2.1 with bZ:=av.2.2.2.1 } :bu) with iw:=aX.2.2.2.1 } :bu))).bind fun g7=>
 some (g7,aX.2.2.2.2)
def s7 (aa:bu):Option (Vector ar 4):=
 (vl aa.bZ 0 (min (aa.bZ.length:Int) 4)).bind fun aG=>
 (e5 (σ:=Int × (Vector ar 4)) (ε:=(Int × Bool × (Vector ar 4))) eU (fun s1=>
  cond (decide (s1.1 < (aG.length:Int))) (
   (idx aG.length s1.1).bind fun a8=>
   (idx 4 s1.1).bind fun bY=>
   some (.inl (bq (s1.1 + 1),fP s1.2 bY ((aE aG a8).cI)))) (
   some (.inr (s1.1,decide (s1.1 < (aG.length:Int)),s1.2)))) (0,(default:Vector ar 4))).bind fun av=>
 some av.2.2
def s4 (hp:aS Cell) (aa:Ref) (aj:Vector ar 4):Option (Int × Bool):=
 cond aa.isNone (
  some (0,false)) (
  (aa).bind fun ca=>
  (mI hp ca).bind fun bC=>
  (bC.oD.p).bind fun b2=>
  (lQ hp b2).bind fun cf=>
  (some (dM cf aj)).bind fun bE=>
  some (bE.getD default,bE.isSome))
def zM (hp:aS Cell) (aa:jM) (aj:bu):Option (Int × Bool):=
 (s7 aj).bind fun aG=>
 (s4 hp aa.p5 aG).bind fun aJ=>
 some (aJ.1,aJ.2)
def w8 (aa:gz) (aj:Vector ar 4):Option ((Vector ar 4) × ar):=
 (idx 4 aa.rX).bind fun a8=>
 (idx 4 aa.rX).bind fun bY=>
 some ((fP aj bY (default:ar)),(bD aj a8))
def uD (aa:gz) (aj:bu):Option ((Vector ar 4) × ar × Int):=
 (s7 aj).bind fun aG=>
 (w8 aa aG).bind fun aJ=>
 cond (decide (aa.rX≥ (aj.bZ.length:Int))) (
  some (aJ.1,aJ.2,0)) (
  (idx aj.bZ.length aa.rX).bind fun a8=>
  some (aJ.1,aJ.2,(aE aj.bZ a8).ez))
def xC (aa:Int):Option Int:=
 some (min (max 0 aa) 128)
def xF (aa:ar) (aj:Int):Option ar:=
 cond (decide (aj≤0)) (
  some aa) (
  cond (decide (aj≥64)) (
   (some (({ (default:ar) with bG:=aa.cV >>> (BitVec.ofInt 64 (bq (aj - 64))).toNat } :ar))).bind fun bE=>
   some bE) (
   (some ((aa.bG >>> (BitVec.ofInt 64 aj).toNat) ||| (aa.cV <<< (BitVec.ofInt 64 (bq (64 - aj))).toNat))).bind fun dt=>
   (some ({ cV:=aa.cV >>> (BitVec.ofInt 64 aj).toNat,bG:=dt:ar })).bind fun fz=>
   some fz))
def uM (aa:Int):Option ar:=
 (some ({ cV:=18446744073709551615#64,bG:=18446744073709551615#64:ar })).bind fun bE=>
 (xC aa).bind fun aG=>
 (xF bE (bq (128 - aG))).bind fun aJ=>
 some aJ
def Ag (aa:ar) (aj:ar):Option ar:=
 (some ({ cV:=aa.cV ^^^ aj.cV,bG:=aa.bG ^^^ aj.bG:ar })).bind fun bE=>
 some bE
def xt (aa:Int) (aj:Int):Option ar:=
 (xC aa).bind fun aG=>
 (uM aG).bind fun aJ=>
 (uM (bq (aG - (min (max 0 aj) aG)))).bind fun bh=>
 (Ag aJ bh).bind fun bn=>
 some bn
def s9 (aa:ar) (aj:ar):Option ar:=
 (some ({ cV:=aa.cV &&& aj.cV,bG:=aa.bG &&& aj.bG:ar })).bind fun bE=>
 some bE
def xk (hp:aS Cell) (aa:Ref) (aj:ar) (aP:Int):Option Bool:=
 (cy (aa.isSome && (decide (aP≥0))) true (aa)).bind fun ca=>
 (cy (aa.isSome && (decide (aP≥0))) true (fB hp ca)).bind fun bC=>
 (cy ((aa.isSome && (decide (aP≥0))) && (decide (aP≤bC.fw))) true (aa)).bind fun b2=>
 (cy ((aa.isSome && (decide (aP≥0))) && (decide (aP≤bC.fw))) true (fB hp b2)).bind fun cf=>
 (cy ((aa.isSome && (decide (aP≥0))) && (decide (aP≤bC.fw))) true (xt cf.fw aP)).bind fun aG=>
 (cy ((aa.isSome && (decide (aP≥0))) && (decide (aP≤bC.fw))) true (s9 aj aG)).bind fun aJ=>
 (some (((aa.isSome && (decide (aP≥0))) && (decide (aP≤bC.fw))) && (decide (aJ=aj)))).bind fun bE=>
 some bE
def xp (aa:Ref) (aj:ar) (aP:Int):Option (Int × ar × Ref):=
 some (aP,aj,aa)
def uR (aa:ar) (aj:Int):Option Bool:=
 (cy ((decide (aj≥0)) && (decide (aj < 128))) true (xF aa aj)).bind fun aG=>
 (some (((decide (aj≥0)) && (decide (aj < 128))) && ((aG.bG &&& (1#64)) ==(1#64)))).bind fun bE=>
 some bE
def uE {σ ε:Type} (aj:Int) (aP:ar) (bR:Ref) (hq:σ→aS Cell) (step:Int→σ→ax (σ ⊕ ε)) (cc:σ):ax (σ ⊕ ε):=
 ax.bind (nb (σ:=Int × (σ)) (ε:=(Int × Bool × (σ)) ⊕ (Int × Int × Int × Bool × Bool × Bool × (ε))) eU (fun s1=>
   cond (decide (s1.1 < aj)) (
    ax.bind (ax.of (bR)) fun ca=>
    ax.bind (ax.of (fB (hq s1.2) ca)) fun bC=>
    ax.bind (ax.of (uR aP (bq ((bq (bC.fw - 1)) - s1.1)))) fun aG=>
    ax.bind (ax.of (cond aG (
      some 1) (
      some 0))) fun bp=>
    ax.bind (step bp s1.2) fun aJ=>
    Sum.elim (fun s2=>
     ax.ret (.inl (bq (s1.1 + 1),s2))) (fun c7=>
     ax.ret (.inr (Sum.inr (s1.1,bp,s1.1,decide (s1.1 < aj),aG,!false,c7)))) aJ) (
    ax.ret (.inr (Sum.inl (s1.1,decide (s1.1 < aj),s1.2))))) (0,cc)) fun av=>
   Sum.elim (fun av=>
    ax.ret (.inl av.2.2:σ ⊕ ε)) (fun av=>
   ax.ret (.inr av.2.2.2.2.2.2:σ ⊕ ε)) av
def pF {σ ε:Type} (hp:aS Cell) (aj:Int) (aP:ar) (bR:Ref) (step:Int→σ→Option (σ ⊕ ε)) (cc:σ):Option (σ ⊕ ε):=
 (e5 (σ:=Int × (σ)) (ε:=(Int × Bool × (σ)) ⊕ (Int × Int × Int × Bool × Bool × Bool × (ε))) eU (fun s1=>
  cond (decide (s1.1 < aj)) (
   (bR).bind fun ca=>
   (fB hp ca).bind fun bC=>
   (uR aP (bq ((bq (bC.fw - 1)) - s1.1))).bind fun aG=>
   (cond aG (
    some 1) (
    some 0)).bind fun bp=>
   (step bp s1.2).bind fun aJ=>
   Sum.elim (fun s2=>
    some (.inl (bq (s1.1 + 1),s2))) (fun c7=>
    some (.inr (Sum.inr (s1.1,bp,s1.1,decide (s1.1 < aj),aG,!false,c7)))) aJ) (
   some (.inr (Sum.inl (s1.1,decide (s1.1 < aj),s1.2))))) (0,cc)).bind fun av=>
  Sum.elim (fun av=>
   some (.inl av.2.2)) (fun av=>
  some (.inr av.2.2.2.2.2.2)) av
def xq (hp:aS Cell) (aa:Ref) (aj:ar) (aP:Int):Option Ref:=
 (xk hp aa aj aP).bind fun aG=>
 cond (!aG) (
  some (none:Ref)) (
  (aa).bind fun ca=>
  (fB hp ca).bind fun bC=>
  (xp aa aj aP).bind fun aJ=>
  (pF hp aJ.1 aJ.2.1 aJ.2.2 (σ:=Ref) (ε:=Ref × Ref) (fun(oK:Int) (s1:Ref)=>
   cond s1.isNone (
    some (.inr (s1,(none:Ref)))) (
    (s1).bind fun b2=>
    (idx 2 oK).bind fun a8=>
    (cD hp b2).bind fun cf=>
    some (.inl (bD cf.cU a8)))) bC.cB).bind fun av=>
  Sum.elim (fun s1=>
   some s1) (fun az=>
   some az.2) av)
def uJ (hp:aS Cell) (aa:Ref) (aj:ar) (aP:Int):Option (Int × Bool):=
 (xq hp aa aj aP).bind fun aG=>
 (cy aG.isNone false (aG)).bind fun ca=>
 (cy aG.isNone false (cD hp ca)).bind fun bC=>
 cond (aG.isNone || (!bC.dC)) (
  some (0,false)) (
  (aG).bind fun b2=>
  (cD hp b2).bind fun cf=>
  some (cf.hc,true))
def zv (hp:aS Cell) (aa:gz) (aj:bu):Option (Int × Bool):=
 (uD aa aj).bind fun aG=>
 (aa.nN.p).bind fun ca=>
 (jv hp ca).bind fun bC=>
 (some ((dM bC aG.1).getD default)).bind fun bE=>
 (uJ hp bE aG.2.1 aG.2.2).bind fun aJ=>
 some (aJ.1,aJ.2)
def C3 (aa:List bV):Option (List bV):=
 (hA 64 ([]:List bV) aa).bind fun aG=>
 some aG
def C4 (aa:List ar):Option (List ar):=
 (hA 16 ([]:List ar) aa).bind fun aG=>
 some aG
def DE (aa:bu):Option bu:=
 (C3 aa.bZ).bind fun aG=>
 (C4 aa.iw).bind fun aJ=>
 (some (({ ({ aa with bZ:=aG } :bu) with iw:=aJ } :bu))).bind fun bE=>
 some bE
def nF (aa:aA):Option aA:=
 (DE aa.bA).bind fun aG=>
 some ({ aa with bA:=aG } :aA)
def xJ (aa:List aA):Option (List aA):=
 (e5 (σ:=Int × (List aA)) (ε:=(Int × Bool × (List aA))) eU (fun s1=>
  cond (decide (s1.1 < (aa.length:Int))) (
   (idx aa.length s1.1).bind fun a8=>
   (nF (aE aa a8)).bind fun aG=>
   (hA 88 s1.2 [aG]).bind fun aJ=>
   some (.inl (bq (s1.1 + 1),aJ))) (
   some (.inr (s1.1,decide (s1.1 < (aa.length:Int)),s1.2)))) (0,([]:List aA))).bind fun av=>
 some av.2.2
def zo (aa:cu):Option (List aA):=
 (xJ aa.b1).bind fun aG=>
 some aG
def zj (aa:List bV) (aj:List bV):Option Bool:=
 cond ((aa.length:Int) !=(aj.length:Int)) (
  some false) (
  (e5 (σ:=Int) (ε:=(Int × Bool) ⊕ (Int × Int × Bool × Bool)) eU (fun s1=>
   cond (decide (s1 < (aa.length:Int))) (
    (idx aa.length s1).bind fun a8=>
    (idx aj.length s1).bind fun bY=>
    cond (!decide (aE aa a8=aE aj bY)) (
     some (.inr (Sum.inr (s1,s1,decide (s1 < (aa.length:Int)),!decide (aE aa a8=aE aj bY))))) (
     some (.inl (bq (s1 + 1))))) (
    some (.inr (Sum.inl (s1,decide (s1 < (aa.length:Int))))))) 0).bind fun av=>
   Sum.elim (fun av=>
    some true) (fun av=>
   some false) av)
def zX (aa:bu) (aj:bu):Option Bool:=
 (cy (aa.dW ==aj.dW) true (zj aa.bZ aj.bZ)).bind fun aG=>
 some (((aa.dW ==aj.dW) && aG) && (aa.hI ==aj.hI))
def zO (hp:aS Cell) (aa:ja) (aj:bu):Option (Int × Bool):=
 (aa.b1).bind fun ca=>
 (nV hp ca).bind fun bC=>
 (zo bC.1).bind fun aG=>
 (e5 (σ:=Int) (ε:=(Int × Bool) ⊕ (Int × Bool × Int × Bool × Bool)) eU (fun s1=>
  cond (decide (s1 < (aG.length:Int))) (
   (idx aG.length s1).bind fun a8=>
   (zX ((aE aG a8).bA) aj).bind fun aJ=>
   cond aJ (
    some (.inr (Sum.inr ((aE aG a8).cd,true,s1,decide (s1 < (aG.length:Int)),aJ)))) (
    some (.inl (bq (s1 + 1))))) (
   some (.inr (Sum.inl (s1,decide (s1 < (aG.length:Int))))))) 0).bind fun av=>
  Sum.elim (fun av=>
   some (0,false)) (fun av=>
  some (av.1,av.2.1)) av
def Df (hp:aS Cell) (y:gm) (aa:bu):Option (Int × Bool):=match y with
 | .nil=>none
 | .mh z=>zM hp z aa
 | .mi z=>zv hp z aa
 | .mj z=>zO hp z aa
def Dt (hp:aS Cell) (aa:Ref) (aj:Vector ar 4) (aP:Int):Option (Bool × (aS Cell)):=
 cond aa.isNone (
  some (false,hp)) (
  (aa).bind fun ca=>
  (mI hp ca).bind fun bC=>
  (bC.oD.p).bind fun b2=>
  (lQ hp b2).bind fun cf=>
  (some (dM cf aj)).bind fun bE=>
  cond bE.isSome (
   some (false,hp)) (
   (some (df hp b2 (Cell.n0 (gO cf aj aP)))).bind fun cS=>
   some (true,cS)))
def zP (hp:aS Cell) (aa:jM) (aj:aA):Option (aS Cell):=
 (s7 aj.bA).bind fun aG=>
 (Dt hp aa.p5 aG aj.cd).bind fun aJ=>
 some aJ.2
def DI (hp:aS Cell) (aa:Int):ax (Ref × (aS Cell)):=
 ax.bind (ax.of (some (({ (default:fv) with fw:=min (max 1 aa) 128 } :fv)))) fun bE=>
 ax.bind (ax.mk hp (Cell.jy bE)) fun c2=>
 ax.ret ((some c2.1:Ref),c2.2)
def xz (hp:aS Cell) (aa:Ref) (aj:ar) (aP:Int) (bR:Int):ax (Bool × (aS Cell)):=
 ax.bind (ax.of (xk hp aa aj aP)) fun aG=>
 cond (!aG) (
  ax.ret (false,hp)) (
  ax.bind (ax.of (xq hp aa aj aP)) fun aJ=>
  ax.bind (ax.of (cy aJ.isSome true (aJ))) fun ca=>
  ax.bind (ax.of (cy aJ.isSome true (cD hp ca))) fun bC=>
  cond (aJ.isSome && bC.dC) (
   ax.ret (false,hp)) (
   ax.bind (ax.of (aa)) fun b2=>
   ax.bind (ax.of (fB hp b2)) fun cf=>
   ax.bind (cond cf.cB.isNone (
     ax.bind (ax.mk hp (Cell.fQ (default:dx))) fun dc=>
     ax.bind (ax.of (fB dc.2 b2)) fun CF=>
     ax.bind (ax.of (some (df dc.2 b2 (Cell.jy ({ CF with cB:=(some dc.1:Ref) } :fv))))) fun po=>
     ax.ret po) (
     ax.ret hp)) fun bp=>
   ax.bind (ax.of (fB bp b2)) fun eH=>
   ax.bind (ax.of (xp aa aj aP)) fun bh=>
   ax.bind (uE bh.1 bh.2.1 bh.2.2 (σ:=Ref × (aS Cell)) (ε:=Empty) (fun(s2:Ref × (aS Cell))=>s2.2) (fun(yE:Int) (s2:Ref × (aS Cell))=>
     ax.bind (ax.of (s2.1)) fun lG=>
     ax.bind (ax.of (idx 2 yE)) fun a8=>
     ax.bind (ax.of (cD s2.2 lG)) fun od=>
     ax.bind (cond ((bD od.cU a8).isNone) (
       ax.bind (ax.mk s2.2 (Cell.fQ (default:dx))) fun c2=>
       ax.bind (ax.of (idx 2 yE)) fun cY=>
       ax.bind (ax.of (cD c2.2 lG)) fun lH=>
       ax.bind (ax.of (some (df c2.2 lG (Cell.fQ ({ lH with cU:=fP lH.cU cY (some c2.1:Ref) } :dx))))) fun cS=>
       ax.ret cS) (
       ax.ret s2.2)) fun cP=>
     ax.bind (ax.of (idx 2 yE)) fun bY=>
     ax.bind (ax.of (cD cP lG)) fun oT=>
     ax.ret (.inl (bD oT.cU bY,cP):(Ref × (aS Cell)) ⊕ Empty)) (eH.cB,bp)) fun aX=>
   Sum.elim (fun s2=>
    ax.bind (ax.of (s2.1)) fun jZ=>
    ax.bind (ax.of (cD s2.2 jZ)) fun y0=>
    ax.bind (ax.of (some (df s2.2 jZ (Cell.fQ ({ y0 with dC:=true } :dx))))) fun cO=>
    ax.bind (ax.of (s2.1)) fun Kp=>
    ax.bind (ax.of (cD cO Kp)) fun Kq=>
    ax.bind (ax.of (some (df cO Kp (Cell.fQ ({ Kq with hc:=bR } :dx))))) fun gj=>
    ax.ret (true,gj)) (fun c7=>
    Empty.elim c7) aX))
def zD (hp:aS Cell) (aa:gz) (aj:aA):ax (aS Cell):=
 ax.bind (ax.of (uD aa aj.bA)) fun aG=>
 ax.bind (ax.of (aa.nN.p)) fun ca=>
 ax.bind (ax.of (jv hp ca)) fun bC=>
 ax.bind (ax.of (some ((dM bC aG.1).getD default))) fun bE=>
 ax.bind (cond bE.isNone (
   ax.bind (DI hp aa.fw) fun bh=>
   ax.bind (ax.of (jv bh.2 ca)) fun eH=>
   ax.bind (ax.of (some (df bh.2 ca (Cell.lS (gO eH aG.1 bh.1))))) fun cS=>
   ax.ret cS) (
   ax.ret hp)) fun bp=>
 ax.bind (ax.of (jv bp ca)) fun cf=>
 ax.bind (ax.of (some ((dM cf aG.1).getD default))) fun dt=>
 ax.bind (xz bp dt aG.2.1 aG.2.2 aj.cd) fun aJ=>
 ax.ret aJ.2
def w7 (aa:aA) (aj:Int):Option Bool:=
 some (aa.cd ==aj)
def w4 (aa:List aA) (aj:aA→Option Bool):Option Int:=
 (e5 (σ:=Int) (ε:=(Int × Bool) ⊕ (Int × Int × Int × Bool × Bool)) eU (fun s1=>
  cond (decide (s1 < (aa.length:Int))) (
   (idx aa.length s1).bind fun a8=>
   (aj (aE aa a8)).bind fun aG=>
   cond aG (
    some (.inr (Sum.inr (s1,s1,s1,decide (s1 < (aa.length:Int)),aG)))) (
    some (.inl (bq (s1 + 1))))) (
   some (.inr (Sum.inl (s1,decide (s1 < (aa.length:Int))))))) 0).bind fun av=>
  Sum.elim (fun av=>
   some (-1)) (fun av=>
  some av.1) av
def zs (aa:cu) (aj:Int):Option Int:=
 (w4 aa.b1 (fun ib=>w7 ib aj)).bind fun aG=>
 some aG
def za (aa:List aA) (aj:aA) (aP:aA→aA→Option Int):Option (Int × Bool):=
 (e5 (σ:=Int × Int) (ε:=(Int × Int × Bool)) eU (fun s1=>
  cond (decide (s1.1 < s1.2)) (
   (idx aa.length (bq ((BitVec.ofInt 64 (bq (s1.1 + s1.2))) >>> (1#64).toNat).toNat)).bind fun a8=>
   (aP (aE aa a8) aj).bind fun aG=>
   (cond (decide (aG < 0)) (
    (some (bq ((bq ((BitVec.ofInt 64 (bq (s1.1 + s1.2))) >>> (1#64).toNat).toNat) + 1))).bind fun bE=>
    some (bE,s1.2)) (
    some (s1.1,bq ((BitVec.ofInt 64 (bq (s1.1 + s1.2))) >>> (1#64).toNat).toNat))).bind fun bp=>
   some (.inl (bp.1,bp.2))) (
   some (.inr (s1.1,s1.2,decide (s1.1 < s1.2))))) (0,(aa.length:Int))).bind fun av=>
 (cy (decide (av.1 < (aa.length:Int))) true (idx aa.length av.1)).bind fun bY=>
 (cy (decide (av.1 < (aa.length:Int))) true (aP (aE aa bY) aj)).bind fun aJ=>
 some (av.1,(decide (av.1 < (aa.length:Int))) && (aJ ==0))
def zV (aa:Int):Option Bool:=
 some (aa !=aa)
def o1 (aa:Int) (aj:Int):Option Int:=
 (zV aa).bind fun aG=>
 (zV aj).bind fun aJ=>
 cond aG (
  cond aJ (
   some 0) (
   some (-1))) (
  cond aJ (
   some 1) (
   cond (decide (aa < aj)) (
    some (-1)) (
    cond (decide (aa > aj)) (
     some 1) (
     some 0))))
def xG (aa:a3) (aj:bu):Option (bW × Bool):=
 (s6 aa aj.dW).bind fun aG=>
 cond (decide (aG < 0)) (
  some ((default:bW),false)) (
  (idx aa.b7.length aG).bind fun a8=>
  some (aE aa.b7 a8,true))
def zh (aa:List cH) (aj:cH→Option Bool):Option Int:=
 (e5 (σ:=Int) (ε:=(Int × Bool) ⊕ (Int × Int × Int × Bool × Bool)) eU (fun s1=>
  cond (decide (s1 < (aa.length:Int))) (
   (idx aa.length s1).bind fun a8=>
   (aj (aE aa a8)).bind fun aG=>
   cond aG (
    some (.inr (Sum.inr (s1,s1,s1,decide (s1 < (aa.length:Int)),aG)))) (
    some (.inl (bq (s1 + 1))))) (
   some (.inr (Sum.inl (s1,decide (s1 < (aa.length:Int))))))) 0).bind fun av=>
  Sum.elim (fun av=>
   some (-1)) (fun av=>
  some av.1) av
def Gz (aa:cH):Option Bool:=
 some (aa.cN ==2)
def xE (aa:a3) (aj:bu):Option Int:=
 (xG aa aj).bind fun aG=>
 (zh aG.1.cl Gz).bind fun aJ=>
 (some (((!aG.2) || (decide (aJ < 0))) || (decide (aJ≥ (aj.bZ.length:Int))))).bind fun bE=>
 cond bE (
  some 0) (
  (idx aj.bZ.length aJ).bind fun a8=>
  some ((aE aj.bZ a8).ez))
def rC (aa:List Int):Option Int:=
 (e5 (σ:=Int) (ε:=(Int × Bool) ⊕ (Int × Int × Int × Bool × Bool)) eU (fun s1=>
  cond (decide (s1 < (aa.length:Int))) (
   (idx aa.length s1).bind fun a8=>
   cond ((aE aa a8) !=0) (
    some (.inr (Sum.inr (aE aa a8,aE aa a8,s1,decide (s1 < (aa.length:Int)),(aE aa a8) !=0)))) (
    some (.inl (bq (s1 + 1))))) (
   some (.inr (Sum.inl (s1,decide (s1 < (aa.length:Int))))))) 0).bind fun av=>
  Sum.elim (fun av=>
   some 0) (fun av=>
  some av.1) av
def xH (aa:a3) (aj:aA) (aP:aA):Option Bool:=
 (o1 aj.bA.hI aP.bA.hI).bind fun aG=>
 (xE aa aj.bA).bind fun aJ=>
 (xE aa aP.bA).bind fun bh=>
 (o1 aJ bh).bind fun bn=>
 (o1 aj.cd aP.cd).bind fun cw=>
 (rC [aG,bn,cw]).bind fun dg=>
 some (decide (dg > 0))
def xa (aa:cu) (aj:aA) (aP:aA):Option Int:=
 (xH aa.ou aj aP).bind fun aG=>
 cond aG (
  some (-1)) (
  (xH aa.ou aP aj).bind fun aJ=>
  cond aJ (
   some 1) (
   some 0))
def CZ (aa:List aA) (aj:Int) (aP:List aA):Option (List aA):=Bz 88 aa aj aP
def zp (aa:cu) (aj:aA):Option (Bool × cu):=
 (cy false false (zs aa aj.cd)).bind fun aG=>
 cond (false || (decide (aG≥0))) (
  some (false,aa)) (
  (za aa.b1 aj (fun ib c2=>xa aa ib c2)).bind fun aJ=>
  (nF aj).bind fun bh=>
  (CZ aa.b1 aJ.1 [bh]).bind fun bn=>
  some (true,({ aa with b1:=bn } :cu)))
def zQ (hp:aS Cell) (aa:ja) (aj:aA):ax (aS Cell):=
 ax.bind (ax.of (aa.b1)) fun ca=>
 ax.bind (ax.of (nV hp ca)) fun bC=>
 ax.bind (ax.of (zp bC.1 aj)) fun aG=>
 ax.bind (ax.any (Option Nat × Nat)) fun az=>
 ax.bind (ax.of (some (df hp ca (Cell.q0 aG.2 az.1 az.2)))) fun cS=>
 ax.ret cS
def Gy (hp:aS Cell) (y:gm) (aa:aA):ax (aS Cell):=match y with
 | .nil=>fun _=>False
 | .mh z=>ax.of (zP hp z aa)
 | .mi z=>zD hp z aa
 | .mj z=>zQ hp z aa
def uI (hp:aS Cell) (aa:Ref) (aj:aA):ax (Bool × (aS Cell)):=
 cond aa.isNone (
  ax.ret (false,hp)) (
  ax.bind (ax.of (aa)) fun ca=>
  ax.bind (ax.of (hz hp ca)) fun bC=>
  ax.bind (ax.of (bC.ks.p)) fun b2=>
  ax.bind (ax.of (kW hp b2)) fun cf=>
  ax.bind (ax.of (some (dM cf aj.cd))) fun bE=>
  ax.bind (ax.of (aa)) fun lG=>
  ax.bind (ax.of (hz hp lG)) fun eH=>
  ax.bind (ax.of (Df hp eH.iu aj.bA)) fun aG=>
  cond (aG.2 || bE.isSome) (
   ax.ret (false,hp)) (
   ax.bind (ax.of (aa)) fun FY=>
   ax.bind (ax.of (hz hp FY)) fun od=>
   ax.bind (ax.of (nF aj)) fun aJ=>
   ax.bind (ax.of (od.ks.p)) fun qq=>
   ax.bind (ax.of (kW hp qq)) fun oT=>
   ax.bind (ax.of (some (df hp qq (Cell.kb (gO oT aj.cd aJ))))) fun cS=>
   ax.bind (ax.of (hz cS FY)) fun lH=>
   ax.bind (Gy cS lH.iu aj) fun bh=>
   ax.ret (true,bh)))
def z8 (hp:aS Cell) (aa:a3) (aj:bf) (aP:Int) (bR:Int):ax (Ref × (List aA) × bf × (aS Cell)):=
 ax.bind (ax.of (rD aP (aa.b7.length:Int))) fun aG=>
 ax.bind (ax.of (idx aa.b7.length aG)) fun a8=>
 ax.bind (nG hp aa ((aE aa.b7 a8).bX)) fun aJ=>
 ax.bind (nb (σ:=Int × (List aA) × bf × (aS Cell)) (ε:=(Int × Bool × (List aA) × bf × (aS Cell))) eU (fun s1=>
   ax.bind (ax.of (cy (decide (s1.1 < bR)) true (xc s1.2.2.1))) fun bh=>
   cond ((decide (s1.1 < bR)) && bh) (
    ax.bind (ax.of (xi s1.2.2.1 aa aP)) fun bn=>
    ax.bind (ax.of (some (({ bA:=bn.1,cd:=s1.1,lL:=1:aA })))) fun bE=>
    ax.bind (uI s1.2.2.2 aJ.1 bE) fun cw=>
    ax.bind (ax.of (cond cw.1 (
      (some (({ bA:=bn.1,cd:=s1.1,lL:=1:aA }))).bind fun dt=>
      (hA 88 s1.2.1 [dt]).bind fun dg=>
      some dg) (
      some s1.2.1))) fun bp=>
    ax.ret (.inl (bq (s1.1 + 1),bp,bn.2,cw.2))) (
    ax.ret (.inr (s1.1,(decide (s1.1 < bR)) && bh,s1.2.1,s1.2.2.1,s1.2.2.2)))) (0,([]:List aA),aj,aJ.2)) fun av=>
 ax.ret (aJ.1,av.2.2.1,av.2.2.2.1,av.2.2.2.2)
def xj (hp:aS Cell) (aa:Ref) (aj:Int) (aP:Bool):Option (aA × Bool):=
 cond (!aP) (
  some ((default:aA),false)) (
  (aa).bind fun ca=>
  (hz hp ca).bind fun bC=>
  (bC.ks.p).bind fun b2=>
  (kW hp b2).bind fun cf=>
  (some ((dM cf aj).getD default)).bind fun bE=>
  (nF bE).bind fun aG=>
  some (aG,true))
def zR (hp:aS Cell) (aa:Ref) (aj:bu):Option (aA × Bool):=
 cond aa.isNone (
  some ((default:aA),false)) (
  (aa).bind fun ca=>
  (hz hp ca).bind fun bC=>
  (Df hp bC.iu aj).bind fun aG=>
  (xj hp aa aG.1 aG.2).bind fun aJ=>
  some (aJ.1,aJ.2))
def De (hp:aS Cell) (aa:Ref) (aj:Vector ar 4):Option (Bool × (aS Cell)):=
 (s4 hp aa aj).bind fun aG=>
 cond (!aG.2) (
  some (false,hp)) (
  (aa).bind fun ca=>
  (mI hp ca).bind fun bC=>
  (bC.oD.p).bind fun b2=>
  (lQ hp b2).bind fun cf=>
  (some (df hp b2 (Cell.n0 (hR cf aj)))).bind fun cS=>
  some (true,cS))
def zt (hp:aS Cell) (aa:jM) (aj:aA):Option (aS Cell):=
 (s7 aj.bA).bind fun aG=>
 (De hp aa.p5 aG).bind fun aJ=>
 some aJ.2
def xn (hp:aS Cell) (aa:Ref):Option Bool:=
 (aa).bind fun ca=>
 (cD hp ca).bind fun bC=>
 (cy (!bC.dC) true (aa)).bind fun b2=>
 (cy (!bC.dC) true (cD hp b2)).bind fun cf=>
 some ((!bC.dC) && (decide (cf.cU=(default:Vector Ref 2))))
def xl (hp:aS Cell) (aa:Ref) (aj:ar) (aP:Int):Option (Bool × (aS Cell)):=
 (uJ hp aa aj aP).bind fun aG=>
 cond (!aG.2) (
  some (false,hp)) (
  (aa).bind fun ca=>
  (fB hp ca).bind fun bC=>
  (xp aa aj aP).bind fun aJ=>
  (pF hp aJ.1 aJ.2.1 aJ.2.2 (σ:=(List Int) × (List Ref)) (ε:=Empty) (fun(oK:Int) (s1:(List Int) × (List Ref))=>
   (idx s1.2.length (bq ((s1.2.length:Int) - 1))).bind fun a8=>
   ((aE s1.2 a8)).bind fun b2=>
   (idx 2 oK).bind fun bY=>
   (cD hp b2).bind fun cf=>
   (hA 8 s1.2 [bD cf.cU bY]).bind fun bh=>
   (hA 8 s1.1 [oK]).bind fun bn=>
   some (.inl (bn,bh))) (([]:List Int),[bC.cB])).bind fun av=>
  Sum.elim (fun s1=>
   (idx s1.2.length aP).bind fun cY=>
   ((aE s1.2 cY)).bind fun lG=>
   (cD hp lG).bind fun eH=>
   (some (df hp lG (Cell.fQ ({ eH with dC:=false } :dx)))).bind fun cS=>
   (cD cS lG).bind fun od=>
   (some (df cS lG (Cell.fQ ({ od with hc:=0 } :dx)))).bind fun cO=>
   (e5 (σ:=Int × (aS Cell)) (ε:=(Int × Bool × (aS Cell))) eU (fun s2=>
    (cy (decide (s2.1≥0)) true (idx s1.2.length (bq (s2.1 + 1)))).bind fun fu=>
    (cy (decide (s2.1≥0)) true (xn s2.2 (aE s1.2 fu))).bind fun cw=>
    cond ((decide (s2.1≥0)) && cw) (
     (idx s1.2.length s2.1).bind fun pz=>
     (idx s1.1.length s2.1).bind fun wV=>
     ((aE s1.2 pz)).bind fun qq=>
     (idx 2 (aE s1.1 wV)).bind fun BX=>
     (cD s2.2 qq).bind fun oT=>
     (some (df s2.2 qq (Cell.fQ ({ oT with cU:=fP oT.cU BX (none:Ref) } :dx)))).bind fun gj=>
     some (.inl (bq (s2.1 - 1),gj))) (
     some (.inr (s2.1,(decide (s2.1≥0)) && cw,s2.2)))) (bq (aP - 1),cO)).bind fun aX=>
   (fB aX.2.2 ca).bind fun lH=>
   (xn aX.2.2 lH.cB).bind fun dg=>
   (cond dg (
    (some (df aX.2.2 ca (Cell.jy ({ lH with cB:=(none:Ref) } :fv)))).bind fun po=>
    some po) (
    some aX.2.2)).bind fun bp=>
   some (true,bp)) (fun az=>
   Empty.elim az) av)
def C8 (hp:aS Cell) (aa:Ref) (aj:ar) (aP:Int) (bR:List di):Option (List di):=
 (aa).bind fun ca=>
 (cD hp ca).bind fun bC=>
 (cond bC.dC (
  (hA 32 bR [{ cI:=aj,u1:=aP,bX:=bC.hc:di }]).bind fun aG=>
  some aG) (
  some bR)).bind fun bp=>
 some bp
def GV (aa:BitVec 64):Option ar:=
 some ({ (default:ar) with bG:=aa } :ar)
def Ad (aa:ar) (aj:Int):Option ar:=
 cond (decide (aj≤0)) (
  some aa) (
  cond (decide (aj≥64)) (
   (some (({ (default:ar) with cV:=aa.bG <<< (BitVec.ofInt 64 (bq (aj - 64))).toNat } :ar))).bind fun bE=>
   some bE) (
   (some ((aa.cV <<< (BitVec.ofInt 64 aj).toNat) ||| (aa.bG >>> (BitVec.ofInt 64 (bq (64 - aj))).toNat))).bind fun dt=>
   (some ({ cV:=dt,bG:=aa.bG <<< (BitVec.ofInt 64 aj).toNat:ar })).bind fun fz=>
   some fz))
def GW (aa:ar) (aj:ar):Option ar:=
 (some ({ cV:=aa.cV ||| aj.cV,bG:=aa.bG ||| aj.bG:ar })).bind fun bE=>
 some bE
def uB:Nat→ (aS Cell)→Ref→Ref→ar→Int→ (List di)→Option (List di)
 | 0=>fun _ _ _ _ _ _=>none
 | n + 1=>fun hp aa aj aP bR ic=>
   cond aj.isNone (
    some ic) (
    (C8 hp aj aP bR ic).bind fun aG=>
    (aj).bind fun ca=>
    (cD hp ca).bind fun bC=>
    (uB n hp aa (bD bC.cU 0) aP (bq (bR + 1)) aG).bind fun aJ=>
    (GV (1#64)).bind fun bh=>
    (aa).bind fun b2=>
    (fB hp b2).bind fun cf=>
    (Ad bh (bq ((bq (cf.fw - 1)) - bR))).bind fun bn=>
    (GW aP bn).bind fun cw=>
    (uB n hp aa (bD bC.cU 1) cw (bq (bR + 1)) aJ).bind fun dg=>
    some dg)
def Gd (hp:aS Cell) (aa:Ref) (aj:Ref) (aP:ar) (bR:Int) (ic:List di):Option (List di):=uB eU hp aa aj aP bR ic
def C0 (hp:aS Cell) (aa:Ref) (aP:List di):Option (List di):=
 (cond aa.isSome (
  (aa).bind fun ca=>
  (fB hp ca).bind fun bC=>
  (Gd hp aa bC.cB (default:ar) 0 aP).bind fun aG=>
  some aG) (
  some aP)).bind fun bp=>
 some bp
def Dw (hp:aS Cell) (aa:Ref):Option (List di):=
 (C0 hp aa ([]:List di)).bind fun aG=>
 some aG
def xx (hp:aS Cell) (aa:Ref):Option Int:=
 (Dw hp aa).bind fun aG=>
 some (aG.length:Int)
def zm (hp:aS Cell) (aa:gz) (aj:aA):Option (aS Cell):=
 (uD aa aj.bA).bind fun aG=>
 (aa.nN.p).bind fun ca=>
 (jv hp ca).bind fun bC=>
 (some ((dM bC aG.1).getD default)).bind fun bE=>
 (xl hp bE aG.2.1 aG.2.2).bind fun aJ=>
 (jv aJ.2 ca).bind fun cf=>
 (some ((dM cf aG.1).getD default)).bind fun dt=>
 (xx aJ.2 dt).bind fun bh=>
 (cond (bh ==0) (
  (some (df aJ.2 ca (Cell.lS (hR cf aG.1)))).bind fun cS=>
  some cS) (
  some aJ.2)).bind fun bp=>
 some bp
def C5 (aa:cu) (aj:Int):Option Int:=
 (w4 aa.b1 (fun ib=>w7 ib aj)).bind fun aG=>
 some aG
def Gc (aa:List aA) (aj:Int) (aP:Int):Option (List aA):=BA aa aj aP
def zi (aa:cu) (aj:Int):Option (Bool × cu):=
 (C5 aa aj).bind fun aG=>
 cond (decide (aG < 0)) (
  some (false,aa)) (
  (Gc aa.b1 aG (bq (aG + 1))).bind fun aJ=>
  some (true,({ aa with b1:=aJ } :cu)))
def zu (hp:aS Cell) (aa:ja) (aj:aA):ax (aS Cell):=
 ax.bind (ax.of (aa.b1)) fun ca=>
 ax.bind (ax.of (nV hp ca)) fun bC=>
 ax.bind (ax.of (zi bC.1 aj.cd)) fun aG=>
 ax.bind (ax.any (Option Nat × Nat)) fun az=>
 ax.bind (ax.of (some (df hp ca (Cell.q0 aG.2 az.1 az.2)))) fun cS=>
 ax.ret cS
def Gk (hp:aS Cell) (y:gm) (aa:aA):ax (aS Cell):=match y with
 | .nil=>fun _=>False
 | .mh z=>ax.of (zt hp z aa)
 | .mi z=>ax.of (zm hp z aa)
 | .mj z=>zu hp z aa
def zE (hp:aS Cell) (aa:Ref) (aj:bu):ax (aA × Bool × (aS Cell)):=
 ax.bind (ax.of (zR hp aa aj)) fun aG=>
 ax.bind (cond aG.2 (
   ax.bind (ax.of (aa)) fun ca=>
   ax.bind (ax.of (hz hp ca)) fun bC=>
   ax.bind (Gk hp bC.iu aG.1) fun aJ=>
   ax.bind (ax.of (hz aJ ca)) fun cf=>
   ax.bind (ax.of (cf.ks.p)) fun b2=>
   ax.bind (ax.of (kW aJ b2)) fun eH=>
   ax.bind (ax.of (some (df aJ b2 (Cell.kb (hR eH aG.1.cd))))) fun cS=>
   ax.ret cS) (
   ax.ret hp)) fun bp=>
 ax.ret (aG.1,aG.2,bp)
def qC (aa:Int) (aj:Int):Option Int:=
 cond (decide (aa < aj)) (
  some (-1)) (
  cond (decide (aa > aj)) (
   some 1) (
   some 0))
def xI (aa:ar):Option (Vector Bool 128):=
 (e5 (σ:=Int × (Vector Bool 128)) (ε:=(Int × Bool × (Vector Bool 128))) eU (fun s1=>
  cond (decide (s1.1 < 64)) (
   (idx 128 s1.1).bind fun a8=>
   (some (fP s1.2 a8 (((aa.bG >>> (BitVec.ofInt 64 s1.1).toNat) &&& (1#64)) ==(1#64)))).bind fun bE=>
   (idx 128 (bq (s1.1 + 64))).bind fun bY=>
   (some (fP bE bY (((aa.cV >>> (BitVec.ofInt 64 s1.1).toNat) &&& (1#64)) ==(1#64)))).bind fun dt=>
   some (.inl (bq (s1.1 + 1),dt))) (
   some (.inr (s1.1,decide (s1.1 < 64),s1.2)))) (0,(default:Vector Bool 128))).bind fun av=>
 some av.2.2
def rB (aa:ar) (aj:ar):Option Int:=
 (xI aa).bind fun aG=>
 (xI aj).bind fun aJ=>
 (e5 (σ:=Int) (ε:=(Int × Bool) ⊕ (Int × Int × Bool × Bool × Bool)) eU (fun s1=>
  cond (decide (s1≥0)) (
   (idx 128 s1).bind fun a8=>
   (idx 128 s1).bind fun bY=>
   cond ((bD aG a8) !=(bD aJ bY)) (
    (idx 128 s1).bind fun cY=>
    cond (bD aJ cY) (
     some (.inr (Sum.inr ((-1),s1,decide (s1≥0),(bD aG a8) !=(bD aJ bY),bD aJ cY)))) (
     some (.inr (Sum.inr (1,s1,decide (s1≥0),(bD aG a8) !=(bD aJ bY),bD aJ cY))))) (
    some (.inl (bq (s1 - 1))))) (
   some (.inr (Sum.inl (s1,decide (s1≥0)))))) 127).bind fun av=>
  Sum.elim (fun av=>
   some 0) (fun av=>
  some av.1) av
def Aa (aa:bV) (aj:bV):Option Int:=
 cond ((aa.fF !=aj.fF) && aj.fF) (
  some (-1)) (
  cond (aa.fF !=aj.fF) (
   some 1) (
   cond (!decide (aa.cI=aj.cI)) (
    (rB aa.cI aj.cI).bind fun aG=>
    some aG) (
    cond (!decide (aa.fL=aj.fL)) (
     (rB aa.fL aj.fL).bind fun aJ=>
     some aJ) (
     cond (aa.ez !=aj.ez) (
      (qC aa.ez aj.ez).bind fun bh=>
      some bh) (
      (rB aa.jP aj.jP).bind fun bn=>
      some bn)))))
def zY (aa:List bV) (aj:List bV):Option Int:=
 (e5 (σ:=Int) (ε:=(Int × Bool) ⊕ (Int × Int × Int × Bool × Bool)) eU (fun s1=>
  cond ((decide (s1 < (aa.length:Int))) && (decide (s1 < (aj.length:Int)))) (
   (idx aa.length s1).bind fun a8=>
   (idx aj.length s1).bind fun bY=>
   (Aa (aE aa a8) (aE aj bY)).bind fun aG=>
   cond (aG !=0) (
    some (.inr (Sum.inr (aG,s1,aG,(decide (s1 < (aa.length:Int))) && (decide (s1 < (aj.length:Int))),aG !=0)))) (
    some (.inl (bq (s1 + 1))))) (
   some (.inr (Sum.inl (s1,(decide (s1 < (aa.length:Int))) && (decide (s1 < (aj.length:Int)))))))) 0).bind fun av=>
  Sum.elim (fun av=>
   (qC (aa.length:Int) (aj.length:Int)).bind fun aJ=>
   some aJ) (fun av=>
  some av.1) av
def z6 (aa:List ar) (aj:List ar):Option Int:=
 (e5 (σ:=Int) (ε:=(Int × Bool) ⊕ (Int × Int × Int × Bool × Bool)) eU (fun s1=>
  cond ((decide (s1 < (aa.length:Int))) && (decide (s1 < (aj.length:Int)))) (
   (idx aa.length s1).bind fun a8=>
   (idx aj.length s1).bind fun bY=>
   (rB (aE aa a8) (aE aj bY)).bind fun aG=>
   cond (aG !=0) (
    some (.inr (Sum.inr (aG,s1,aG,(decide (s1 < (aa.length:Int))) && (decide (s1 < (aj.length:Int))),aG !=0)))) (
    some (.inl (bq (s1 + 1))))) (
   some (.inr (Sum.inl (s1,(decide (s1 < (aa.length:Int))) && (decide (s1 < (aj.length:Int)))))))) 0).bind fun av=>
  Sum.elim (fun av=>
   (qC (aa.length:Int) (aj.length:Int)).bind fun aJ=>
   some aJ) (fun av=>
  some av.1) av
def z0 (aa:bu) (aj:bu):Option Int:=
 (qC aa.dW aj.dW).bind fun aG=>
 (qC aj.hI aa.hI).bind fun aJ=>
 (zY aa.bZ aj.bZ).bind fun bh=>
 (qC aa.kR aj.kR).bind fun bn=>
 (e5 (σ:=Int) (ε:=(Int × Bool) ⊕ (Int × Int × Int × Bool × Bool)) eU (fun s1=>
  cond (decide (s1 < ([aG,aJ,bh,bn].length:Int))) (
   (idx ([aG,aJ,bh,bn].length) s1).bind fun a8=>
   cond ((aE [aG,aJ,bh,bn] a8) !=0) (
    some (.inr (Sum.inr (aE [aG,aJ,bh,bn] a8,aE [aG,aJ,bh,bn] a8,s1,decide (s1 < ([aG,aJ,bh,bn].length:Int)),(aE [aG,aJ,bh,bn] a8) !=0)))) (
    some (.inl (bq (s1 + 1))))) (
   some (.inr (Sum.inl (s1,decide (s1 < ([aG,aJ,bh,bn].length:Int))))))) 0).bind fun av=>
  Sum.elim (fun av=>
   (z6 aa.iw aj.iw).bind fun cw=>
   some cw) (fun av=>
  some av.1) av
def Dz (aa:bu) (aj:bu):Option Bool:=
 (z0 aa aj).bind fun aG=>
 some (aG ==0)
def uN (aa:aA) (aj:aA):Option Bool:=
 (Dz aa.bA aj.bA).bind fun aG=>
 some ((aG && (aa.cd ==aj.cd)) && (aa.lL ==aj.lL))
def uG (aa:BitVec 64):Option Int:=
 (cond (decide (aa≥ (4294967296#64))) (
  some (aa >>> (32#64).toNat,32)) (
  some (aa,0))).bind fun bp=>
 (cond (decide (bp.1≥ (65536#64))) (
  some (bp.1 >>> (16#64).toNat,bq (bp.2 + 16))) (
  some (bp.1,bp.2))).bind fun cP=>
 (cond (decide (cP.1≥ (256#64))) (
  some (cP.1 >>> (8#64).toNat,bq (cP.2 + 8))) (
  some (cP.1,cP.2))).bind fun ff=>
 (BB (ByteArray.mk (List.toArray (List.append (List.append [0,1,2,2,3,3,3,3,4,4,4,4,4,4,4,4,5,5,5,5,5,5,5,5,5,5,5,5,5,5,5,5,6,6,6,6,6,6,6,6,6,6,6,6,6,6,6,6,6,6,6,6,6,6,6,6,6,6,6,6,6,6,6,6] [7,7,7,7,7,7,7,7,7,7,7,7,7,7,7,7,7,7,7,7,7,7,7,7,7,7,7,7,7,7,7,7,7,7,7,7,7,7,7,7,7,7,7,7,7,7,7,7,7,7,7,7,7,7,7,7,7,7,7,7,7,7,7,7]) (List.append [8,8,8,8,8,8,8,8,8,8,8,8,8,8,8,8,8,8,8,8,8,8,8,8,8,8,8,8,8,8,8,8,8,8,8,8,8,8,8,8,8,8,8,8,8,8,8,8,8,8,8,8,8,8,8,8,8,8,8,8,8,8,8,8] [8,8,8,8,8,8,8,8,8,8,8,8,8,8,8,8,8,8,8,8,8,8,8,8,8,8,8,8,8,8,8,8,8,8,8,8,8,8,8,8,8,8,8,8,8,8,8,8,8,8,8,8,8,8,8,8,8,8,8,8,8,8,8,8])))) ((ff.1.setWidth 8).toNat:Int)).bind fun aG=>
 some (bq (ff.2 + (aG.toNat:Int)))
def zW (aa:BitVec 64):Option Int:=
 (uG aa).bind fun aG=>
 some aG
def y9 (aa:List aA) (aj:Int) (aP:Int) (bR:aA→aA→Option Int):Option (List aA):=
 (e5 (σ:=Int × (List aA)) (ε:=(Int × Bool × (List aA))) eU (fun s1=>
  cond (decide (s1.1 < aP)) (
   (e5 (σ:=Int × (List aA)) (ε:=(Int × Bool × (List aA))) eU (fun s2=>
    (cy (decide (s2.1 > aj)) true (idx s2.2.length s2.1)).bind fun a8=>
    (cy (decide (s2.1 > aj)) true (idx s2.2.length (bq (s2.1 - 1)))).bind fun bY=>
    (cy (decide (s2.1 > aj)) true (bR (aE s2.2 a8) (aE s2.2 bY))).bind fun aG=>
    cond ((decide (s2.1 > aj)) && (decide (aG < 0))) (
     (idx s2.2.length (bq (s2.1 - 1))).bind fun cY=>
     (idx s2.2.length s2.1).bind fun fu=>
     (idx s2.2.length s2.1).bind fun iD=>
     (idx ((en s2.2 iD (aE s2.2 cY)).length) (bq (s2.1 - 1))).bind fun mA=>
     some (.inl (bq (s2.1 - 1),en (en s2.2 iD (aE s2.2 cY)) mA (aE s2.2 fu)))) (
     some (.inr (s2.1,(decide (s2.1 > aj)) && (decide (aG < 0)),s2.2)))) (s1.1,s1.2)).bind fun aX=>
   some (.inl (bq (s1.1 + 1),aX.2.2))) (
   some (.inr (s1.1,decide (s1.1 < aP),s1.2)))) (bq (aj + 1),aa)).bind fun av=>
 some av.2.2
def CY (aa:List aA) (aj:Int) (aP:Int) (bR:Int) (sJ:aA→aA→Option Int):Option (List aA):=
 (e5 (σ:=Unit) (ε:=(Int × Bool × (List aA))) eU (fun s1=>
  cond (decide ((bq (aP - aj))≤12)) (
   (q3 aa.length (y9 aa aj aP sJ)).bind fun aG=>
   some (.inr (bq (aP - aj),decide ((bq (aP - aj))≤12),aG))) (
   none)) ()).bind fun av=>
 some av.2.2
def zb (aa:List aA) (aj:aA→aA→Option Int):Option (List aA):=
 (zW (BitVec.ofInt 64 (aa.length:Int))).bind fun aG=>
 (q3 aa.length (CY aa 0 (aa.length:Int) aG aj)).bind fun aJ=>
 some aJ
def zd (aa:List bV) (aj:List bV) (aP:bV→bV→Option Int):Option Int:=
 (e5 (σ:=Int) (ε:=(Int × Bool) ⊕ (Int × Int × Int × Bool × Bool)) eU (fun s1=>
  cond (decide (s1 < (aa.length:Int))) (
   (idx aa.length s1).bind fun a8=>
   cond (decide (s1≥ (aj.length:Int))) (
    some (.inr (Sum.inr (1,s1,s1,decide (s1 < (aa.length:Int)),decide (s1≥ (aj.length:Int)))))) (
    (idx aj.length s1).bind fun bY=>
    (aP (aE aa a8) (aE aj bY)).bind fun aG=>
    cond (aG !=0) (
     some (.inr (Sum.inr (aG,s1,s1,decide (s1 < (aa.length:Int)),decide (s1≥ (aj.length:Int)))))) (
     some (.inl (bq (s1 + 1)))))) (
   some (.inr (Sum.inl (s1,decide (s1 < (aa.length:Int))))))) 0).bind fun av=>
  Sum.elim (fun av=>
   cond (decide ((aa.length:Int) < (aj.length:Int))) (
    some (-1)) (
    some 0)) (fun av=>
  some av.1) av
def ze (aa:List ar) (aj:List ar) (aP:ar→ar→Option Int):Option Int:=
 (e5 (σ:=Int) (ε:=(Int × Bool) ⊕ (Int × Int × Int × Bool × Bool)) eU (fun s1=>
  cond (decide (s1 < (aa.length:Int))) (
   (idx aa.length s1).bind fun a8=>
   cond (decide (s1≥ (aj.length:Int))) (
    some (.inr (Sum.inr (1,s1,s1,decide (s1 < (aa.length:Int)),decide (s1≥ (aj.length:Int)))))) (
    (idx aj.length s1).bind fun bY=>
    (aP (aE aa a8) (aE aj bY)).bind fun aG=>
    cond (aG !=0) (
     some (.inr (Sum.inr (aG,s1,s1,decide (s1 < (aa.length:Int)),decide (s1≥ (aj.length:Int)))))) (
     some (.inl (bq (s1 + 1)))))) (
   some (.inr (Sum.inl (s1,decide (s1 < (aa.length:Int))))))) 0).bind fun av=>
  Sum.elim (fun av=>
   cond (decide ((aa.length:Int) < (aj.length:Int))) (
    some (-1)) (
    some 0)) (fun av=>
  some av.1) av
def xv (aa:bV):Option Int:=
 cond aa.fF (
  some 1) (
  some 0)
def o2 (aa:ar) (aj:ar):Option Int:=
 cond (decide (aa=aj)) (
  some 0) (
  (some ((decide (aa.cV < aj.cV)) || ((aa.cV ==aj.cV) && (decide (aa.bG < aj.bG))))).bind fun bE=>
  cond bE (
   some (-1)) (
   some 1))
def zC (aa:bV) (aj:bV):Option Int:=
 cond (decide (aa=aj)) (
  some 0) (
  (xv aa).bind fun aG=>
  (xv aj).bind fun aJ=>
  (o1 aG aJ).bind fun bh=>
  (o2 aa.cI aj.cI).bind fun bn=>
  (o2 aa.fL aj.fL).bind fun cw=>
  (o1 aa.ez aj.ez).bind fun dg=>
  (o2 aa.jP aj.jP).bind fun c8=>
  (rC [bh,bn,cw,dg,c8]).bind fun eX=>
  some eX)
def zZ (aa:bu) (aj:bu):Option Int:=
 (o1 aa.dW aj.dW).bind fun aG=>
 (o1 aj.hI aa.hI).bind fun aJ=>
 (zd aa.bZ aj.bZ zC).bind fun bh=>
 (o1 aa.kR aj.kR).bind fun bn=>
 (ze aa.iw aj.iw o2).bind fun cw=>
 (rC [aG,aJ,bh,bn,cw]).bind fun dg=>
 some dg
def Da (aa:aA) (aj:aA):Option Int:=
 (zZ aa.bA aj.bA).bind fun aG=>
 some aG
def xo (hp:aS Cell) (aa:Ref):ax ((List aA) × (aS Cell)):=
 cond aa.isNone (
  ax.ret (([]:List aA),hp)) (
  ax.bind (ax.of (aa)) fun ca=>
  ax.bind (ax.of (hz hp ca)) fun bC=>
  ax.bind (ax.of (bC.ks.p)) fun b2=>
  ax.bind (ax.of (kW hp b2)) fun cf=>
  ax.bind (nb (σ:=(List Nat) × (List aA)) (ε:=(Bool × (List Nat) × (List aA))) eU (fun s1=>
    ax.bind (ax.next cf.length s1.1) fun qp=>
    cond qp.isSome (
     ax.bind (ax.of (qp)) fun a8=>
     ax.bind (ax.of (nF ((aE cf a8).2))) fun aG=>
     ax.bind (ax.of (hA 88 s1.2 [aG])) fun aJ=>
     ax.ret (.inl ((s1.1 ++ qp.toList),aJ))) (
     ax.ret (.inr (qp.isSome,(s1.1 ++ qp.toList),s1.2)))) (([]:List Nat),([]:List aA))) fun av=>
  ax.bind (ax.of (q3 av.2.2.length (zb av.2.2 Da))) fun bh=>
  ax.ret (bh,hp))
def z1 (aa:List aA) (aj:List aA):Option Bool:=
 cond ((aa.length:Int) !=(aj.length:Int)) (
  some false) (
  (e5 (σ:=Int) (ε:=(Int × Bool) ⊕ (Int × Int × Bool × Bool)) eU (fun s1=>
   cond (decide (s1 < (aa.length:Int))) (
    (idx aa.length s1).bind fun a8=>
    (idx aj.length s1).bind fun bY=>
    (uN (aE aa a8) (aE aj bY)).bind fun aG=>
    cond (!aG) (
     some (.inr (Sum.inr (s1,s1,decide (s1 < (aa.length:Int)),!aG)))) (
     some (.inl (bq (s1 + 1))))) (
    some (.inr (Sum.inl (s1,decide (s1 < (aa.length:Int))))))) 0).bind fun av=>
   Sum.elim (fun av=>
    some true) (fun av=>
   some false) av)
def zI (aa:bf):Option ((Vector ar 4) × bf):=
 (e5 (σ:=Int × (Vector ar 4) × bf) (ε:=(Int × Bool × (Vector ar 4) × bf)) eU (fun s1=>
  cond (decide (s1.1 < 4)) (
   (fH s1.2.2 256).bind fun aG=>
   (some (({ (default:ar) with bG:=BitVec.ofInt 64 aG.1 } :ar))).bind fun bE=>
   (idx 4 s1.1).bind fun a8=>
   (fH aG.2 4).bind fun aJ=>
   (cond (aJ.1 ==1) (
    (idx 4 s1.1).bind fun bY=>
    (fH aJ.2 256).bind fun bh=>
    (some ((((bD (fP s1.2.1 a8 bE) bY).bG) <<< (24#64).toNat) ||| (BitVec.ofInt 64 bh.1))).bind fun dt=>
    (idx 4 s1.1).bind fun cY=>
    (some (fP (fP s1.2.1 a8 bE) cY ({ (bD (fP s1.2.1 a8 bE) cY) with bG:=dt } :ar))).bind fun fz=>
    some (bh.2,fz)) (
    some (aJ.2,fP s1.2.1 a8 bE))).bind fun bp=>
   some (.inl (bq (s1.1 + 1),bp.2,bp.1))) (
   some (.inr (s1.1,decide (s1.1 < 4),s1.2.1,s1.2.2)))) (0,(default:Vector ar 4),aa)).bind fun av=>
 some (av.2.2.1,av.2.2.2)
def z4 (aa:bu) (aj:Vector ar 4):Option (Vector ar 4):=
 (e5 (σ:=Int × (Vector ar 4)) (ε:=(Int × Bool × (Vector ar 4))) eU (fun s1=>
  cond (decide (s1.1 < (aa.bZ.length:Int))) (
   (idx aa.bZ.length s1.1).bind fun a8=>
   cond ((decide (s1.1≥4)) || (!((aE aa.bZ a8).fF))) (
    some (.inl (bq (s1.1 + 1),s1.2))) (
    (cond (!decide ((aE aa.bZ a8).fL=(default:ar))) (
     (idx 4 s1.1).bind fun bY=>
     (some ((((bD s1.2 bY).bG) &&& ~~~(((aE aa.bZ a8).fL).bG)) ||| (((aE aa.bZ a8).cI).bG))).bind fun bE=>
     (idx 4 s1.1).bind fun cY=>
     (some ((((bD s1.2 cY).cV) &&& ~~~(((aE aa.bZ a8).fL).cV)) ||| (((aE aa.bZ a8).cI).cV))).bind fun dt=>
     (idx 4 s1.1).bind fun fu=>
     (idx 4 s1.1).bind fun iD=>
     (some (fP (fP s1.2 fu ({ (bD s1.2 fu) with bG:=bE } :ar)) iD ({ (bD (fP s1.2 fu ({ (bD s1.2 fu) with bG:=bE } :ar)) iD) with cV:=dt } :ar))).bind fun fz=>
     some fz) (
     (some ((decide (((aE aa.bZ a8).ez) > 0)) && (decide (((aE aa.bZ a8).ez)≤32)))).bind fun ia=>
     (cond ia (
      (idx 4 s1.1).bind fun mA=>
      (some ((1#64) <<< (BitVec.ofInt 64 (bq (32 - ((aE aa.bZ a8).ez)))).toNat)).bind fun g7=>
      (some ((((aE aa.bZ a8).cI).bG) ||| (((bD s1.2 mA).bG) &&& (g7 - (1#64))))).bind fun jn=>
      (idx 4 s1.1).bind fun FU=>
      (some (fP s1.2 FU ({ (default:ar) with bG:=jn } :ar))).bind fun jo=>
      some jo) (
      (idx 4 s1.1).bind fun pz=>
      some (fP s1.2 pz ((aE aa.bZ a8).cI)))).bind fun cP=>
     some cP)).bind fun bp=>
    some (.inl (bq (s1.1 + 1),bp)))) (
   some (.inr (s1.1,decide (s1.1 < (aa.bZ.length:Int)),s1.2)))) (0,aj)).bind fun av=>
 some av.2.2
def zq (hp:aS Cell) (aa:jM) (aj:Vector ar 4):Option (Int × Bool):=
 (s4 hp aa.p5 aj).bind fun aG=>
 some (aG.1,aG.2)
def DD (aa:ar):Option Int:=
 cond (aa.cV !=(0#64)) (
  (uG aa.cV).bind fun aG=>
  some (bq (64 + aG))) (
  (uG aa.bG).bind fun aJ=>
  some aJ)
def Ac (aa:ar) (aj:Int):Option Bool:=
 (DD aa).bind fun aG=>
 some (decide (aG≤aj))
def uC (hp:aS Cell) (aa:Ref) (aj:Int) (aP:Int) (bR:Int) (sJ:Bool):Option (Int × Int × Bool):=
 (cy aa.isSome true (aa)).bind fun ca=>
 (cy aa.isSome true (cD hp ca)).bind fun bC=>
 (cond (aa.isSome && bC.dC) (
  (aa).bind fun b2=>
  (cD hp b2).bind fun cf=>
  some (aj,cf.hc,true)) (
  some (aP,bR,sJ))).bind fun bp=>
 some (bp.1,bp.2.1,bp.2.2)
def zN (hp:aS Cell) (aa:Ref) (aj:ar):Option (Int × Int × Bool):=
 (cy aa.isNone false (aa)).bind fun ca=>
 (cy aa.isNone false (fB hp ca)).bind fun bC=>
 (cy aa.isNone false (Ac aj bC.fw)).bind fun aG=>
 cond (aa.isNone || (!aG)) (
  some (0,0,false)) (
  (aa).bind fun b2=>
  (fB hp b2).bind fun cf=>
  (uC hp cf.cB 0 0 0 false).bind fun aJ=>
  (xp aa aj cf.fw).bind fun bh=>
  (pF hp bh.1 bh.2.1 bh.2.2 (σ:=Ref × Int × Int × Int × Bool) (ε:=Ref × Int × Int × Int × Bool) (fun(oK:Int) (s1:Ref × Int × Int × Int × Bool)=>
   cond s1.1.isNone (
    some (.inr (s1.1,s1.2.1,s1.2.2.1,s1.2.2.2.1,s1.2.2.2.2))) (
    (s1.1).bind fun lG=>
    (idx 2 oK).bind fun a8=>
    (cD hp lG).bind fun eH=>
    (uC hp (bD eH.cU a8) (bq (s1.2.1 + 1)) s1.2.2.1 s1.2.2.2.1 s1.2.2.2.2).bind fun bn=>
    some (.inl (bD eH.cU a8,bq (s1.2.1 + 1),bn.1,bn.2.1,bn.2.2)))) (cf.cB,0,aJ.1,aJ.2.1,aJ.2.2)).bind fun av=>
  Sum.elim (fun s1=>
   some (s1.2.2.1,s1.2.2.2.1,s1.2.2.2.2)) (fun c7=>
   some (c7.2.2.1,c7.2.2.2.1,c7.2.2.2.2)) av)
def zl (hp:aS Cell) (aa:gz) (aj:Vector ar 4):Option (Int × Bool):=
 (w8 aa aj).bind fun aG=>
 (aa.nN.p).bind fun ca=>
 (jv hp ca).bind fun bC=>
 (some ((dM bC aG.1).getD default)).bind fun bE=>
 (uM aa.fw).bind fun aJ=>
 (s9 aG.2 aJ).bind fun bh=>
 (zN hp bE bh).bind fun bn=>
 some (bn.2.1,bn.2.2)
def Gf (aj:Vector ar 4):Option (Vector ar 4):=
 some aj
def z5 (aa:a3) (aj:cH):Option Int:=
 (xr aa aj.gW).bind fun aG=>
 cond (decide (aG < 0)) (
  some 0) (
  (idx aa.gV.length aG).bind fun a8=>
  some ((aE aa.gV a8).fq))
def z7 (aa:bV) (aj:Int) (aP:Int) (bR:ar):Option Bool:=
 cond (!aa.fF) (
  some ((decide (aj≥1)) && (decide (aj≤4)))) (
  cond (aj ==1) (
   some (decide (bR=aa.cI))) (
   cond (aj ==2) (
    (xt aP aa.ez).bind fun aG=>
    (s9 bR aG).bind fun aJ=>
    (s9 aa.cI aG).bind fun bh=>
    some (decide (aJ=bh))) (
    cond (aj ==3) (
     (s9 bR aa.fL).bind fun bn=>
     some (decide (bn=aa.cI))) (
     cond (aj ==4) (
      (o2 aa.cI bR).bind fun cw=>
      (cy (decide (cw≤0)) true (o2 bR aa.jP)).bind fun dg=>
      some ((decide (cw≤0)) && (decide (dg≤0)))) (
      some false)))))
def xy (aa:a3) (aj:bu) (aP:Vector ar 4):Option Bool:=
 (xG aa aj).bind fun aG=>
 cond (!aG.2) (
  some false) (
  (e5 (σ:=Int) (ε:=(Int × Bool) ⊕ (Int × Int × Bool × Bool)) eU (fun s1=>
   cond (decide (s1 < (aG.1.cl.length:Int))) (
    (idx aG.1.cl.length s1).bind fun a8=>
    (cy ((decide (s1≥ (aj.bZ.length:Int))) || (decide (s1≥4))) false (idx aj.bZ.length s1)).bind fun bY=>
    (cy ((decide (s1≥ (aj.bZ.length:Int))) || (decide (s1≥4))) false (z5 aa (aE aG.1.cl a8))).bind fun aJ=>
    (cy ((decide (s1≥ (aj.bZ.length:Int))) || (decide (s1≥4))) false (idx 4 s1)).bind fun cY=>
    (cy ((decide (s1≥ (aj.bZ.length:Int))) || (decide (s1≥4))) false (z7 (aE aj.bZ bY) ((aE aG.1.cl a8).cN) aJ (bD aP cY))).bind fun bh=>
    (some (((decide (s1≥ (aj.bZ.length:Int))) || (decide (s1≥4))) || (!bh))).bind fun bE=>
    cond bE (
     some (.inr (Sum.inr (s1,s1,decide (s1 < (aG.1.cl.length:Int)),bE)))) (
     some (.inl (bq (s1 + 1))))) (
    some (.inr (Sum.inl (s1,decide (s1 < (aG.1.cl.length:Int))))))) 0).bind fun av=>
   Sum.elim (fun av=>
    some true) (fun av=>
   some false) av)
def zc {σ ε:Type} (aj:cu) (aP:Vector ar 4) (step:aA→σ→Option (σ ⊕ ε)) (cc:σ):Option (σ ⊕ ε):=
 (e5 (σ:=Int × (σ)) (ε:=(Int × Bool × (σ)) ⊕ (Int × Bool × Bool × (ε))) eU (fun s1=>
  cond (decide (s1.1 < (aj.b1.length:Int))) (
   (idx aj.b1.length s1.1).bind fun a8=>
   (xy aj.ou ((aE aj.b1 a8).bA) aP).bind fun aG=>
   cond aG (
    (step (aE aj.b1 a8) s1.2).bind fun aJ=>
    Sum.elim (fun s2=>
     some (.inl (bq (s1.1 + 1),s2))) (fun c7=>
     some (.inr (Sum.inr (s1.1,decide (s1.1 < (aj.b1.length:Int)),aG && (!false),c7)))) aJ) (
    some (.inl (bq (s1.1 + 1),s1.2)))) (
   some (.inr (Sum.inl (s1.1,decide (s1.1 < (aj.b1.length:Int)),s1.2))))) (0,cc)).bind fun av=>
  Sum.elim (fun av=>
   some (.inl av.2.2)) (fun av=>
  some (.inr av.2.2.2)) av
def w5 (aa:cu) (aj:Vector ar 4):Option (aA × Bool):=
 (Gf aj).bind fun aG=>
 (zc aa aG (σ:=Unit) (ε:=Bool × aA) (fun(oK:aA) (s1:Unit)=>
  (nF oK).bind fun aJ=>
  some (.inr (true,aJ))) ()).bind fun av=>
 Sum.elim (fun s1=>
  some ((default:aA),false)) (fun az=>
  some (az.2,az.1)) av
def zw (hp:aS Cell) (aa:ja) (aj:Vector ar 4):Option (Int × Bool):=
 (aa.b1).bind fun ca=>
 (nV hp ca).bind fun bC=>
 (w5 bC.1 aj).bind fun aG=>
 some (aG.1.cd,aG.2)
def Gl (hp:aS Cell) (y:gm) (aa:Vector ar 4):Option (Int × Bool):=match y with
 | .nil=>none
 | .mh z=>zq hp z aa
 | .mi z=>zl hp z aa
 | .mj z=>zw hp z aa
def xg (hp:aS Cell) (aa:Ref) (aj:Vector ar 4):Option (aA × Bool):=
 cond aa.isNone (
  some ((default:aA),false)) (
  (e5 (σ:=Int × (Vector ar 4)) (ε:=(Int × Bool × (Vector ar 4))) eU (fun s1=>
   cond (decide (s1.1 < 4)) (
    (aa).bind fun ca=>
    (hz hp ca).bind fun bC=>
    (cond (decide (s1.1≥bC.o9)) (
     (idx 4 s1.1).bind fun a8=>
     some (fP s1.2 a8 (default:ar))) (
     some s1.2)).bind fun bp=>
    some (.inl (bq (s1.1 + 1),bp))) (
    some (.inr (s1.1,decide (s1.1 < 4),s1.2)))) (0,aj)).bind fun av=>
  (aa).bind fun b2=>
  (hz hp b2).bind fun cf=>
  (Gl hp cf.iu av.2.2).bind fun aG=>
  (xj hp aa aG.1 aG.2).bind fun aJ=>
  some (aJ.1,aJ.2))
def s3 (hp:aS Cell) (aa:Ref):Option Int:=
 cond aa.isNone (
  some 0) (
  (aa).bind fun ca=>
  (hz hp ca).bind fun bC=>
  some bC.pK)
def Ab (hp:aS Cell):ax (Bool × (aS Cell)):=
 ax.bind (ax.of (s8 ([]:List (BitVec 8)) 0)) fun aG=>
 ax.bind (ax.of (xf aG)) fun aJ=>
 ax.bind (nG hp aJ.1 1) fun bh=>
 ax.bind (ax.of (s3 bh.2 bh.1)) fun bn=>
 ax.bind (cond (decide ((bn ==1)=true)) (nG bh.2 aJ.1 2) (ax.ret (default,bh.2))) fun cw=>
 ax.bind (ax.of (cy (bn ==1) true (s3 cw.2 cw.1))) fun c8=>
 ax.bind (cond (decide (((bn ==1) && (c8 ==2))=true)) (nG cw.2 aJ.1 3) (ax.ret (default,cw.2))) fun eX=>
 ax.bind (ax.of (cy ((bn ==1) && (c8 ==2)) true (s3 eX.2 eX.1))) fun gH=>
 ax.bind (cond (decide ((((bn ==1) && (c8 ==2)) && (gH ==3))=true)) (nG eX.2 aJ.1 4) (ax.ret (default,eX.2))) fun hY=>
 ax.bind (ax.of (cy (((bn ==1) && (c8 ==2)) && (gH ==3)) true (s3 hY.2 hY.1))) fun h7=>
 ax.bind (cond (decide (((((bn ==1) && (c8 ==2)) && (gH ==3)) && (h7 ==3))=true)) (nG hY.2 aJ.1 9) (ax.ret (default,hY.2))) fun hL=>
 ax.bind (ax.of (some (((((bn ==1) && (c8 ==2)) && (gH ==3)) && (h7 ==3)) && hL.1.isNone))) fun bE=>
 ax.ret (bE,hL.2)
def zS (hp:aS Cell) (aa:List (BitVec 8)) (aj:List (BitVec 8)) (aP:List (BitVec 8)) (bR:Int):ax (Bool × (aS Cell)):=
 ax.bind (ax.of (s8 aa 120)) fun aG=>
 ax.bind (ax.of (xf aG)) fun aJ=>
 ax.bind (ax.of (s8 aj 200)) fun bh=>
 ax.bind (z8 hp aJ.1 bh bR 10) fun bn=>
 ax.bind (ax.of (s8 aP 100)) fun cw=>
 ax.bind (ax.of (rD bR (aJ.1.b7.length:Int))) fun dg=>
 ax.bind (ax.of (idx aJ.1.b7.length dg)) fun a8=>
 ax.bind (nG bn.2.2.2 aJ.1 ((aE aJ.1.b7 a8).bX)) fun c8=>
 ax.bind (nb (σ:=Int × (List aA) × bf × (aS Cell)) (ε:=(Int × Bool × (List aA) × bf × (aS Cell))) eU (fun s1=>
   ax.bind (ax.of (cy (decide (s1.1 < 6)) true (xc s1.2.2.1))) fun eX=>
   cond ((decide (s1.1 < 6)) && eX) (
    ax.bind (ax.of (xi s1.2.2.1 aJ.1 bR)) fun fV=>
    ax.bind (ax.of (some (({ (default:aA) with bA:=fV.1,cd:=bq (100 + s1.1) } :aA)))) fun bE=>
    ax.bind (uI s1.2.2.2 c8.1 bE) fun gH=>
    ax.bind (ax.of (cond gH.1 (
      (hA 88 s1.2.1 [bE]).bind fun hY=>
      some hY) (
      some s1.2.1))) fun bp=>
    ax.ret (.inl (bq (s1.1 + 1),bp,fV.2,gH.2))) (
    ax.ret (.inr (s1.1,(decide (s1.1 < 6)) && eX,s1.2.1,s1.2.2.1,s1.2.2.2)))) (0,([]:List aA),cw,c8.2)) fun av=>
 ax.bind (nb (σ:=Int × (aS Cell)) (ε:=(Int × Bool × (aS Cell)) ⊕ (Bool × Int × Bool × Bool × (aS Cell))) eU (fun s2=>
   cond (decide (s2.1 < (av.2.2.1.length:Int))) (
    ax.bind (ax.of (idx av.2.2.1.length s2.1)) fun bY=>
    ax.bind (zE s2.2 c8.1 ((aE av.2.2.1 bY).bA)) fun gQ=>
    ax.bind (ax.of (cy (!gQ.2.1) false (uN gQ.1 (aE av.2.2.1 bY)))) fun h7=>
    cond ((!gQ.2.1) || (!h7)) (
     ax.ret (.inr (Sum.inr (gQ.2.1,s2.1,decide (s2.1 < (av.2.2.1.length:Int)),(!gQ.2.1) || (!h7),gQ.2.2)))) (
     ax.ret (.inl (bq (s2.1 + 1),gQ.2.2)))) (
    ax.ret (.inr (Sum.inl (s2.1,decide (s2.1 < (av.2.2.1.length:Int)),s2.2))))) (0,av.2.2.2.2)) fun aX=>
   Sum.elim (fun aX=>
    ax.bind (nb (σ:=Int × (aS Cell)) (ε:=(Int × Bool × (aS Cell)) ⊕ (Int × Bool × Bool × (aS Cell))) eU (fun mZ=>
      cond (decide (mZ.1≥0)) (
       ax.bind (ax.of (idx bn.2.1.length mZ.1)) fun cY=>
       ax.bind (uI mZ.2 c8.1 (aE bn.2.1 cY)) fun hL=>
       cond (!hL.1) (
        ax.ret (.inr (Sum.inr (mZ.1,decide (mZ.1≥0),!hL.1,hL.2)))) (
        ax.ret (.inl (bq (mZ.1 - 1),hL.2)))) (
       ax.ret (.inr (Sum.inl (mZ.1,decide (mZ.1≥0),mZ.2))))) (bq ((bn.2.1.length:Int) - 1),aX.2.2)) fun c4=>
      Sum.elim (fun c4=>
       ax.bind (xo c4.2.2 bn.1) fun nr=>
       ax.bind (xo nr.2 c8.1) fun ji=>
       ax.bind (ax.of (z1 nr.1 ji.1)) fun BY=>
       cond (!BY) (
        ax.ret (false,ji.2)) (
        ax.bind (ax.of (e5 (σ:=Int × bf) (ε:=(Int × Bool × bf) ⊕ (Bool × Bool × Int × Bool × Bool × bf)) eU (fun ny=>
          cond (decide (ny.1 < (bn.2.1.length:Int))) (
           (idx bn.2.1.length ny.1).bind fun fu=>
           (zI ny.2).bind fun sr=>
           (z4 ((aE bn.2.1 fu).bA) sr.1).bind fun ss=>
           (xg ji.2 bn.1 ss).bind fun wm=>
           (xg ji.2 c8.1 ss).bind fun wo=>
           (cy ((!wm.2) || (!wo.2)) false (uN wm.1 wo.1)).bind fun Ft=>
           cond (((!wm.2) || (!wo.2)) || (!Ft)) (
            some (.inr (Sum.inr (wm.2,wo.2,ny.1,decide (ny.1 < (bn.2.1.length:Int)),((!wm.2) || (!wo.2)) || (!Ft),sr.2)))) (
            some (.inl (bq (ny.1 + 1),sr.2)))) (
           some (.inr (Sum.inl (ny.1,decide (ny.1 < (bn.2.1.length:Int)),ny.2))))) (0,bn.2.2.1))) fun gT=>
          Sum.elim (fun gT=>
           ax.bind (Ab ji.2) fun wq=>
           ax.ret (wq.1,wq.2)) (fun gT=>
          ax.ret (false,ji.2)) gT)) (fun c4=>
      ax.ret (false,c4.2.2.2)) c4) (fun aX=>
   ax.ret (false,aX.2.2.2.2)) aX
end Go.Proofs.YtmnggbjcnoffeaaGreat
