/-
  Each function of the translation as a functional program. Conditions: none.
-/
import Derived.Test.YtmnggbjcnoffeaaGreatMt
namespace Go.Proofs.YtmnggbjcnoffeaaGreat
open Go Gv
set_option linter.unusedVariables false
set_option linter.unusedSimpArgs false
set_option maxRecDepth 100000
def tD (J:List (BitVec 8)) (ag:Int):Option bt:=
 (q0 J 0 (min (J.length:Int) ag)).bind fun al=>
 some ({ (default:bt) with cu:=al } :bt)
def Cg (J:bt):Option Bool:=
 some (decide (J.rm < (J.cu.length:Int)))
def fE (J:bt) (ag:Int):Option (Int × bt):=
 (Cg J).bind fun al=>
 cond ((!al) || (decide (ag < 1))) (
  some (0,J)) (
  (idx J.cu.length (bz ((bz (J.rm + 1)) - 1))).bind fun aZ=>
  (nZ ((ax J.cu aZ).toNat:Int) ag).bind fun aN=>
  some (aN,({ J with rm:=bz (J.rm + 1) } :bt)))
def k1 (J:bt):Option (Bool × bt):=
 (fE J 2).bind fun al=>
 some (al.1 ==1,al.2)
def xQ (J:bt):Option ((List dB) × bt):=
 (fE J 4).bind fun al=>
 (idx (([0,0,65535,3]:List Int).length) al.1).bind fun aZ=>
 (some ({ bI:=({ (default:ak) with bO:=1#64 } :ak),bQ:=({ (default:ak) with bO:=15#64 } :ak),oY:=2:gC })).bind fun bl=>
 (some ({ bI:=({ (default:ak) with bO:=2#64 } :ak),bQ:=({ (default:ak) with bO:=3#64 } :ak),oY:=3:gC })).bind fun dm=>
 (k1 al.2).bind fun aN=>
 (cond aN.1 (
  (fE aN.2 2).bind fun b8=>
  (some (({ (default:ak) with bO:=BitVec.ofInt 64 (bz (8 * b8.1)) } :ak))).bind fun iP=>
  (fE b8.2 4).bind fun cD=>
  (idx (([0,0,65535,3]:List Int).length) cD.1).bind fun c1=>
  (some ({ bI:=iP,bQ:=({ (default:ak) with bO:=8#64 } :ak),oY:=ax ([0,0,65535,3]:List Int) c1:gC })).bind fun hF=>
  (gu 40 [bl,dm] [hF]).bind fun dL=>
  some (cD.2,dL)) (
  some (aN.2,[bl,dm]))).bind fun bM=>
 (fE bM.1 4).bind fun a7=>
 (idx (([0,0,65535,3]:List Int).length) a7.1).bind fun b0=>
 (some (({ (default:dB) with bX:=2,hZ:=2,hc:=ax ([0,0,65535,3]:List Int) b0 } :dB))).bind fun eX=>
 (some (({ (default:dB) with bX:=3,hZ:=3,m1:=9,hc:=0 } :dB))).bind fun gX=>
 (fE a7.2 3).bind fun bR=>
 (cond (bR.1 ==1) (
  (fE bR.2 3).bind fun br=>
  (some ({ bI:=({ (default:ak) with bO:=5#64 } :ak),bQ:=({ (default:ak) with bO:=15#64 } :ak),oY:=bz (1 + br.1):gC })).bind fun iO=>
  some (br.2,({ gX with og:= [iO] } :dB))) (
  some (bR.2,gX))).bind fun cI=>
 (some (({ ({ (default:dB) with bX:=1,hZ:=1,m1:=4,hc:=ax ([0,0,65535,3]:List Int) aZ } :dB) with og:=bM.2 } :dB))).bind fun gY=>
 some ([gY,eX,cI.2],cI.1)
def xM (J:bt):Option ((List dN) × bt):=
 (some (({ (default:dN) with bX:=1,cm:=ByteArray.mk #[110,111,112] } :dN))).bind fun bl=>
 (some (({ (default:dN) with bX:=2,cm:=ByteArray.mk #[100,114,111,112],nK:= [({ (default:e4) with h2:=6 } :e4)] } :dN))).bind fun dm=>
 (some ({ cm:=ByteArray.mk #[112,111,114,116],fe:=16:ik })).bind fun eX=>
 (some (({ (default:e4) with h2:=7,kj:=({ (default:fF) with cg:=3 } :fF) } :e4))).bind fun gX=>
 (some (({ (default:dN) with bX:=3,cm:=ByteArray.mk #[102,111,114,119,97,114,100],jR:= [eX],nK:= [gX] } :dN))).bind fun gY=>
 (some ({ h2:=1,jk:=5,kj:=({ (default:fF) with cg:=3 } :fF):e4 })).bind fun iO=>
 (some (({ (default:fF) with cg:=2,uN:=5 } :fF))).bind fun iP=>
 (some (({ (default:dN) with bX:=4,cm:=ByteArray.mk #[116,97,103],jR:= [{ cm:=ByteArray.mk #[120],fe:=4:ik }],nK:= [iO,{ h2:=2,jk:=3,kj:=iP:e4 }] } :dN))).bind fun hF=>
 (some ([{ cm:=ByteArray.mk #[120],fe:=4:ik },{ cm:=ByteArray.mk #[121],fe:=12:ik }])).bind fun lh=>
 (some ({ h2:=1,jk:=9,kj:=({ (default:fF) with cg:=3 } :fF):e4 })).bind fun kO=>
 (some (({ (default:fF) with cg:=3,uN:=1 } :fF))).bind fun kp=>
 (some ([({ (default:e4) with h2:=4,jk:=3 } :e4),kO,{ h2:=3,jk:=8,kj:=kp:e4 }])).bind fun lL=>
 (some (({ (default:dN) with bX:=5,cm:=ByteArray.mk #[119,114,97,112],jR:=lh,nK:=lL } :dN))).bind fun kq=>
 (fE J 2).bind fun al=>
 (some (({ (default:e4) with h2:=5,jk:=bz (2 + al.1) } :e4))).bind fun kP=>
 (fE al.2 256).bind fun aN=>
 (some (({ (default:ak) with bO:=BitVec.ofInt 64 aN.1 } :ak))).bind fun n1=>
 (some (({ (default:fF) with cg:=1,bI:=n1 } :fF))).bind fun oF=>
 (some (({ (default:dN) with bX:=6,cm:=ByteArray.mk #[115,116,114,105,112],nK:= [kP,{ h2:=2,jk:=6,kj:=oF:e4 }] } :dN))).bind fun mM=>
 (k1 aN.2).bind fun a7=>
 (cond a7.1 (
  (idx ([bl,dm,gY,hF,kq,mM].length) 2).bind fun b0=>
  (some (hk [bl,dm,gY,hF,kq,mM] b0 ({ (ax [bl,dm,gY,hF,kq,mM] b0) with pM:=ByteArray.mk #[112,111,114,116,32,33,61,32,48] } :dN))).bind fun qi=>
  some qi) (
  some [bl,dm,gY,hF,kq,mM])).bind fun bM=>
 (k1 a7.2).bind fun bR=>
 (cond bR.1 (
  (idx bM.length 4).bind fun aZ=>
  (some (hk bM aZ ({ (ax bM aZ) with pM:=ByteArray.mk #[120,32,60,32,121,32,124,124,32,120,32,61,61,32,49,53] } :dN))).bind fun rv=>
  some rv) (
  some bM)).bind fun cI=>
 some (cI,bR.2)
def xS (J:bt):Option ((List bV) × bt):=
 (some ({ cm:=ByteArray.mk #[97],gr:=4,cg:=1:cE })).bind fun bl=>
 (fE J 2).bind fun al=>
 (fE al.2 5).bind fun aN=>
 (some (({ (default:bV) with bX:=1,cm:=ByteArray.mk #[112,111,114,116,115],bx:= [bl],dk:=([1,2,4]:List Int),hc:=bz (1 + al.1),lv:=bz (2 + aN.1) } :bV))).bind fun dm=>
 (some ({ cm:=ByteArray.mk #[100],gr:=7,cg:=2:cE })).bind fun eX=>
 (fE aN.2 6).bind fun a7=>
 (k1 a7.2).bind fun bR=>
 (cond bR.1 (
  (some ({ cm:=ByteArray.mk #[109],gr:=3,cg:=1:cE })).bind fun oF=>
  (gu 32 [eX] [oF]).bind fun fg=>
  some (({ ({ (default:bV) with bX:=2,cm:=ByteArray.mk #[114,111,117,116,101,115],dk:=([1,2,3,4]:List Int),hc:=2,lv:=bz (3 + a7.1) } :bV) with bx:= [] } :bV),fg)) (
  some (({ (default:bV) with bX:=2,cm:=ByteArray.mk #[114,111,117,116,101,115],dk:=([1,2,3,4]:List Int),hc:=2,lv:=bz (3 + a7.1) } :bV),[eX]))).bind fun bM=>
 (some ({ cm:=ByteArray.mk #[101],gr:=6,cg:=3:cE })).bind fun gX=>
 (some ({ cm:=ByteArray.mk #[97],gr:=4,cg:=3:cE })).bind fun gY=>
 (fE bR.2 6).bind fun br=>
 (k1 br.2).bind fun b8=>
 (cond b8.1 (
  (some ({ cm:=ByteArray.mk #[98],gr:=5,cg:=1:cE })).bind fun n1=>
  (gu 32 [gX,gY] [n1]).bind fun g4=>
  some (({ ({ (default:bV) with bX:=3,cm:=ByteArray.mk #[97,99,108],dk:=([1,2,3,5,6]:List Int),hc:=1,lv:=bz (4 + br.1) } :bV) with bx:= [] } :bV),g4)) (
  some (({ (default:bV) with bX:=3,cm:=ByteArray.mk #[97,99,108],dk:=([1,2,3,5,6]:List Int),hc:=1,lv:=bz (4 + br.1) } :bV),[gX,gY]))).bind fun cI=>
 (some ({ cm:=ByteArray.mk #[102],gr:=8,cg:=4:cE })).bind fun iO=>
 (fE b8.2 5).bind fun cD=>
 (k1 cD.2).bind fun dL=>
 (cond dL.1 (
  (some ({ cm:=ByteArray.mk #[103],gr:=9,cg:=1:cE })).bind fun kq=>
  (some ({ cm:=ByteArray.mk #[100],gr:=7,cg:=2:cE })).bind fun kP=>
  (gu 32 [iO] [kq,kP]).bind fun hJ=>
  some (({ ({ (default:bV) with bX:=4,cm:=ByteArray.mk #[115,112,97,110,115],dk:=([1,3,5]:List Int),hc:=3,tA:= [({ (default:ak) with bO:=7#64 } :ak)],lv:=bz (3 + cD.1) } :bV) with bx:= [] } :bV),hJ)) (
  some (({ (default:bV) with bX:=4,cm:=ByteArray.mk #[115,112,97,110,115],dk:=([1,3,5]:List Int),hc:=3,tA:= [({ (default:ak) with bO:=7#64 } :ak)],lv:=bz (3 + cD.1) } :bV),[iO]))).bind fun fb=>
 (some ([dm,({ bM.1 with bx:=bM.2 } :bV),({ cI.1 with bx:=cI.2 } :bV),({ fb.1 with bx:=fb.2 } :bV)])).bind fun iP=>
 (some ([ByteArray.mk #[],ByteArray.mk #[97,32,33,61,32,48],ByteArray.mk #[97,32,60,32,49,52,32,38,38,32,97,32,33,61,32,51]])).bind fun hF=>
 (some ([ByteArray.mk #[],ByteArray.mk #[100,58,58,112,114,101,102,105,120,95,108,101,110,103,116,104,32,62,61,32,56],ByteArray.mk #[100,58,58,112,114,101,102,105,120,95,108,101,110,103,116,104,32,61,61,32,51,50,32,45,62,32,100,58,58,118,97,108,117,101,32,62,32,48,120,102,102]])).bind fun lh=>
 (some ([ByteArray.mk #[],ByteArray.mk #[112,114,105,111,114,105,116,121,32,60,32,49,48,48,32,38,38,32,40,101,58,58,109,97,115,107,32,33,61,32,48,32,124,124,32,97,58,58,109,97,115,107,32,33,61,32,48,41],ByteArray.mk #[101,58,58,109,97,115,107,32,61,61,32,48,32,45,62,32,112,114,105,111,114,105,116,121,32,62,32,53]])).bind fun kO=>
 (some ([ByteArray.mk #[],ByteArray.mk #[102,58,58,104,105,103,104,32,45,32,102,58,58,108,111,119,32,60,61,32,48,120,49,48,48],ByteArray.mk #[33,40,102,58,58,108,111,119,32,61,61,32,48,32,38,38,32,102,58,58,104,105,103,104,32,62,32,49,48,48,48,41]])).bind fun kp=>
 (ei (σ:=Int × (List bV) × bt) (ε:=(Int × Bool × (List bV) × bt)) eo (fun s1=>
  cond (decide (s1.1 < (iP.length:Int))) (
   (idx ([hF,lh,kO,kp].length) s1.1).bind fun aZ=>
   (fE s1.2.2 3).bind fun fU=>
   (idx ((ax [hF,lh,kO,kp] aZ).length) fU.1).bind fun b0=>
   (idx s1.2.1.length s1.1).bind fun c1=>
   (some (hk s1.2.1 c1 ({ (ax s1.2.1 c1) with pM:=ax (ax [hF,lh,kO,kp] aZ) b0 } :bV))).bind fun lL=>
   some (.inl (bz (s1.1 + 1),lL,fU.2))) (
   some (.inr (s1.1,decide (s1.1 < (iP.length:Int)),s1.2.1,s1.2.2)))) (0,iP,dL.2)).bind fun aA=>
 some (aA.2.2.1,aA.2.2.2)
def x2 (J:bt) (ag:List bV):Option ((List cO) × bt):=
 (fE J 3).bind fun al=>
 (fE al.2 6).bind fun aN=>
 (fE aN.2 6).bind fun a7=>
 (fE a7.2 4).bind fun bR=>
 (ei (σ:=Int × cO × (List dr) × bt × cO × (List dr) × cO × (List dr)) (ε:=(Int × Bool × cO × (List dr) × bt × cO × (List dr) × cO × (List dr))) eo (fun s1=>
  cond (decide (s1.1 < (ag.length:Int))) (
   (idx ag.length s1.1).bind fun aZ=>
   (rz (α:=Bool) 1 (((ax ag aZ).bx).length:Int)).bind fun br=>
   (rz (α:=Bool) 1 (((ax ag aZ).bx).length:Int)).bind fun b8=>
   (ei (σ:=Int × (List Bool) × (List Bool) × bt) (ε:=(Int × Bool × (List Bool) × (List Bool) × bt)) eo (fun s2=>
    cond (decide (s2.1 < (br.length:Int))) (
     (fE s2.2.2.2 4).bind fun cD=>
     (idx s2.2.2.1.length s2.1).bind fun b0=>
     (idx s2.2.1.length s2.1).bind fun c1=>
     some (.inl (bz (s2.1 + 1),hk s2.2.1 c1 (decide (cD.1 > 0)),hk s2.2.2.1 b0 true,cD.2))) (
     some (.inr (s2.1,decide (s2.1 < (br.length:Int)),s2.2.1,s2.2.2.1,s2.2.2.2)))) (0,b8,br,s1.2.2.2.1)).bind fun aU=>
   (some ({ dO:=(ax ag aZ).bX,qW:=true,qR:=true,bx:=aU.2.2.2.1:dr })).bind fun bl=>
   (gu 40 s1.2.2.2.2.2.2.2 [bl]).bind fun dL=>
   (fE aU.2.2.2.2 4).bind fun fU=>
   (cond (decide (fU.1 > 0)) (
    (fE fU.2 4).bind fun jJ=>
    (k1 jJ.2).bind fun oG=>
    (some ({ dO:=(ax ag aZ).bX,qW:=decide (jJ.1 > 0),qR:=oG.1,bx:=aU.2.2.1:dr })).bind fun eX=>
    (gu 40 s1.2.2.2.2.2.1 [eX]).bind fun mf=>
    some (oG.2,({ s1.2.2.2.2.1 with iW:= [] } :cO),mf)) (
    some (fU.2,s1.2.2.2.2.1,s1.2.2.2.2.2.1))).bind fun bM=>
   (k1 bM.1).bind fun hJ=>
   (cond hJ.1 (
    (k1 hJ.2).bind fun g4=>
    (k1 g4.2).bind fun fg=>
    (some ({ dO:=(ax ag aZ).bX,qW:=g4.1,qR:=fg.1,bx:=aU.2.2.2.1:dr })).bind fun dm=>
    (gu 40 s1.2.2.1 [dm]).bind fun ib=>
    some (fg.2,({ s1.2.1 with iW:= [] } :cO),ib)) (
    some (hJ.2,s1.2.1,s1.2.2.1))).bind fun cI=>
   some (.inl (bz (s1.1 + 1),cI.2.1,cI.2.2,cI.1,bM.2.1,bM.2.2,({ s1.2.2.2.2.2.2.1 with iW:= [] } :cO),dL))) (
   some (.inr (s1.1,decide (s1.1 < (ag.length:Int)),s1.2.1,s1.2.2.1,s1.2.2.2.1,s1.2.2.2.2.1,s1.2.2.2.2.2.1,s1.2.2.2.2.2.2.1,s1.2.2.2.2.2.2.2)))) (0,({ (default:cO) with bX:=7,cm:=ByteArray.mk #[102,101,119],dk:= [bz (1 + a7.1)],qQ:=bR.1 } :cO),([]:List dr),bR.2,({ (default:cO) with bX:=2,cm:=ByteArray.mk #[115,111,109,101],dk:=([1,2,bz (3 + al.1)]:List Int),qQ:=bz (1 + aN.1) } :cO),([]:List dr),({ (default:cO) with bX:=1,cm:=ByteArray.mk #[97,108,108],dk:=([1,2,3,4,5,6]:List Int),qQ:=40,y5:=true } :cO),([]:List dr))).bind fun aA=>
 (some (({ aA.2.2.2.2.2.2.2.1 with iW:=aA.2.2.2.2.2.2.2.2 } :cO))).bind fun gX=>
 (some ([gX,({ aA.2.2.2.2.2.1 with iW:=aA.2.2.2.2.2.2.1 } :cO),({ aA.2.2.1 with iW:=aA.2.2.2.1 } :cO)])).bind fun gY=>
 some (gY,aA.2.2.2.2.1)
def vr (J:bt):Option (a2 × bt):=
 (fE J 8).bind fun al=>
 (fE al.2 30).bind fun aN=>
 (some ({ bX:=1,cm:=ByteArray.mk #[105,110,103,114,101,115,115],fe:=16:fy })).bind fun bl=>
 (some ({ bX:=2,cm:=ByteArray.mk #[101,103,114,101,115,115],fe:=16:fy })).bind fun dm=>
 (some ({ bX:=3,cm:=ByteArray.mk #[109,101,116,97],fe:=8:fy })).bind fun eX=>
 (some ({ bX:=6,cm:=ByteArray.mk #[101],fe:=8:fy })).bind fun gX=>
 (some ({ bX:=7,cm:=ByteArray.mk #[100],fe:=32:fy })).bind fun gY=>
 (some ({ bX:=8,cm:=ByteArray.mk #[102],fe:=12:fy })).bind fun iO=>
 (some ({ bX:=9,cm:=ByteArray.mk #[103],fe:=4:fy })).bind fun iP=>
 (some ([bl,dm,eX,{ bX:=4,cm:=ByteArray.mk #[97],fe:=4:fy },{ bX:=5,cm:=ByteArray.mk #[98],fe:=4:fy },gX,gY,iO,iP])).bind fun hF=>
 (some (({ ({ (default:a2) with yJ:=bz (2 + al.1),yU:=bz (12 + aN.1) } :a2) with fi:=hF } :a2))).bind fun lh=>
 (some ({ bX:=1,cm:=ByteArray.mk #[111,110,101],fi:=([4,5,6]:List Int):jf })).bind fun kO=>
 (some ({ bX:=2,cm:=ByteArray.mk #[116,119,111],fi:=([7]:List Int):jf })).bind fun kp=>
 (some ({ bX:=3,cm:=ByteArray.mk #[116,104,114,101,101],fi:=([8,9]:List Int):jf })).bind fun lL=>
 (xQ aN.2).bind fun a7=>
 (xM a7.2).bind fun bR=>
 (xS bR.2).bind fun br=>
 (some (({ ({ lh with ll:= [kO,kp,lL] } :a2) with l0:=a7.1 } :a2))).bind fun kq=>
 (some (({ ({ kq with dk:=bR.1 } :a2) with bm:=br.1 } :a2))).bind fun kP=>
 (x2 br.2 kP.bm).bind fun b8=>
 (some ([{ dO:=1,hZ:=1:fG },{ dO:=2,hZ:=2:fG },({ (default:fG) with dO:=3 } :fG),{ dO:=4,hZ:=3:fG }])).bind fun n1=>
 (k1 b8.2).bind fun cD=>
 (cond cD.1 (
  (gu 16 n1 [({ (default:fG) with dO:=1 } :fG)]).bind fun jJ=>
  some jJ) (
  some n1)).bind fun bM=>
 (k1 cD.2).bind fun dL=>
 (cond dL.1 (
  (some (({ (default:e5) with dO:=2,ln:=4,oU:=1 } :e5))).bind fun H7=>
  (gu 48 ([]:List e5) [H7]).bind fun ib=>
  some (({ ({ ({ kP with ji:=b8.1 } :a2) with m2:= [] } :a2) with nL:= [] } :a2),ib)) (
  some (({ ({ kP with ji:=b8.1 } :a2) with m2:= [] } :a2),([]:List e5)))).bind fun cI=>
 (k1 dL.2).bind fun fU=>
 (c4 fU.1 true (idx cI.1.bm.length 2)).bind fun aZ=>
 (cond (fU.1 && ((((ax cI.1.bm aZ).bx).length:Int) ==3)) (
  (some (({ (default:e5) with dO:=3,ui:=2,oU:=1 } :e5))).bind fun qi=>
  (gu 48 cI.2 [qi]).bind fun fg=>
  some (({ cI.1 with nL:= [] } :a2),fg)) (
  some (cI.1,cI.2))).bind fun fb=>
 (k1 fU.2).bind fun hJ=>
 (c4 hJ.1 true (idx fb.1.bm.length 3)).bind fun b0=>
 (cond (hJ.1 && ((((ax fb.1.bm b0).bx).length:Int) ==3)) (
  (some (({ (default:e5) with dO:=4,ui:=1,oU:=1 } :e5))).bind fun mM=>
  (some (({ (default:e5) with dO:=4,ln:=5,oU:=1 } :e5))).bind fun rv=>
  (gu 48 fb.2 [mM,rv]).bind fun g4=>
  some (({ fb.1 with nL:= [] } :a2),g4)) (
  some (fb.1,fb.2))).bind fun oN=>
 (some (({ ({ oN.1 with m2:=bM } :a2) with nL:=oN.2 } :a2))).bind fun oF=>
 some (oF,hJ.2)
def qK (J:Int) (ag:Int):Option Int:=
 cond (decide (ag < 1)) (
  some 0) (
  (nZ J ag).bind fun al=>
  (nZ (bz (al + ag)) ag).bind fun aN=>
  some aN)
def B5 (J:bV) (ag:Int):Option Bool:=
 some (J.bX ==ag)
def xB (J:List bV) (ag:bV→Option Bool):Option Int:=
 (ei (σ:=Int) (ε:=(Int × Bool) ⊕ (Int × Int × Int × Bool × Bool)) eo (fun s1=>
  cond (decide (s1 < (J.length:Int))) (
   (idx J.length s1).bind fun aZ=>
   (ag (ax J aZ)).bind fun al=>
   cond al (
    some (.inr (Sum.inr (s1,s1,s1,decide (s1 < (J.length:Int)),al)))) (
    some (.inl (bz (s1 + 1))))) (
   some (.inr (Sum.inl (s1,decide (s1 < (J.length:Int))))))) 0).bind fun aA=>
  Sum.elim (fun aA=>
   some (-1)) (fun aA=>
  some aA.1) aA
def r3 (J:a2) (ag:Int):Option Int:=
 (xB J.bm (fun fM=>B5 fM ag)).bind fun al=>
 some al
def vF (J:bV):Option (Int × Int):=
 (ei (σ:=Int × Int × Int) (ε:=(Int × Int × Int × Bool)) eo (fun s1=>
  cond (decide (s1.2.2 < (J.bx.length:Int))) (
   (idx J.bx.length s1.2.2).bind fun aZ=>
   (cond (((ax J.bx aZ).cg) ==1) (
    some (s1.1,s1.2.1)) (
    (cond (((ax J.bx aZ).cg) ==2) (
     some (max s1.1 2,s1.2.2)) (
     some (3,s1.2.1))).bind fun cI=>
    some (cI.1,cI.2))).bind fun bM=>
   some (.inl (bM.1,bM.2,bz (s1.2.2 + 1)))) (
   some (.inr (s1.1,s1.2.1,s1.2.2,decide (s1.2.2 < (J.bx.length:Int)))))) (1,0,0)).bind fun aA=>
 some (aA.1,aA.2.1)
def Cs (hp:a9 Cell):aM (Ref × (a9 Cell)):=
 aM.bind (aM.mk hp (Cell.o7 ([]:List ((Vector ak 4) × Int)))) fun dY=>
 aM.bind (aM.mk dY.2 (Cell.wO ({ o1:=(⟨some dY.1⟩:gF):m0 }))) fun eg=>
 aM.ret ((some eg.1:Ref),eg.2)
def B6 (J:fy) (ag:Int):Option Bool:=
 some (J.bX ==ag)
def xC (J:List fy) (ag:fy→Option Bool):Option Int:=
 (ei (σ:=Int) (ε:=(Int × Bool) ⊕ (Int × Int × Int × Bool × Bool)) eo (fun s1=>
  cond (decide (s1 < (J.length:Int))) (
   (idx J.length s1).bind fun aZ=>
   (ag (ax J aZ)).bind fun al=>
   cond al (
    some (.inr (Sum.inr (s1,s1,s1,decide (s1 < (J.length:Int)),al)))) (
    some (.inl (bz (s1 + 1))))) (
   some (.inr (Sum.inl (s1,decide (s1 < (J.length:Int))))))) 0).bind fun aA=>
  Sum.elim (fun aA=>
   some (-1)) (fun aA=>
  some aA.1) aA
def ts (J:a2) (ag:Int):Option Int:=
 (xC J.fi (fun fM=>B6 fM ag)).bind fun al=>
 some al
def E6 (J:a2):Option cS:=
 some ({ ({ (default:cS) with nH:=J } :cS) with cu:=([]:List aI) } :cS)
def vP (hp:a9 Cell) (J:a2) (ag:Int):aM (Ref × (a9 Cell)):=
 aM.bind (aM.of (r3 J ag)) fun al=>
 cond (decide (al < 0)) (
  aM.ret ((none:Ref),hp)) (
  aM.bind (aM.of (idx J.bm.length al)) fun aZ=>
  aM.bind (aM.of (vF (ax J.bm aZ))) fun aN=>
  aM.bind (aM.mk hp (Cell.ma ([]:List (Int × aI)))) fun dY=>
  aM.bind (aM.of (some (({ (default:g9) with qZ:=aN.1,oq:=(((ax J.bm aZ).bx).length:Int),lZ:=(⟨some dY.1⟩:gF) } :g9)))) fun bl=>
  aM.bind (aM.mk dY.2 (Cell.nn bl)) fun eg=>
  aM.bind (cond (aN.1 ==1) (
    aM.bind (Cs eg.2) fun a7=>
    aM.bind (aM.of (iI a7.2 eg.1)) fun cF=>
    aM.bind (aM.of (some (dW a7.2 eg.1 (Cell.nn ({ cF with jg:=(gL.mE ({ qk:=a7.1:kf })) } :g9))))) fun dV=>
    aM.ret dV) (
    aM.bind (cond (aN.1 ==2) (
      aM.bind (aM.of (idx (((ax J.bm aZ).bx).length) aN.2)) fun b0=>
      aM.bind (aM.of (ts J ((ax ((ax J.bm aZ).bx) b0).gr))) fun bR=>
      aM.bind (aM.of (cond (decide (bR≥0)) (
        (idx J.fi.length bR).bind fun c1=>
        some ((ax J.fi c1).fe)) (
        some 0))) fun fb=>
      aM.bind (aM.mk eg.2 (Cell.nm ([]:List ((Vector ak 4) × Ref)))) fun jM=>
      aM.bind (aM.of (some ({ q8:=aN.2,eR:=fb,fX:=(⟨some jM.1⟩:gF):et }))) fun dm=>
      aM.bind (aM.of (iI jM.2 eg.1)) fun da=>
      aM.bind (aM.of (some (dW jM.2 eg.1 (Cell.nn ({ da with jg:=(gL.mF dm) } :g9))))) fun e9=>
      aM.ret e9) (
      aM.bind (aM.of (E6 J)) fun br=>
      aM.bind (aM.any (Option Nat × Nat)) fun fs=>
      aM.bind (aM.mk eg.2 (Cell.sP br fs.1 fs.2)) fun mS=>
      aM.bind (aM.of (iI mS.2 eg.1)) fun ft=>
      aM.bind (aM.of (some (dW mS.2 eg.1 (Cell.nn ({ ft with jg:=(gL.mG ({ cu:=(some mS.1:Ref):jB })) } :g9))))) fun iE=>
      aM.ret iE)) fun cI=>
    aM.ret cI)) fun bM=>
  aM.ret ((some eg.1:Ref),bM))
def xP (J:bt):Option Bool:=
 some (decide (J.rm < (J.cu.length:Int)))
def yq (J:a2) (ag:Int):Option Int:=
 (ei (σ:=Int) (ε:=(Int × Bool) ⊕ (Int × Int × Bool × Bool)) eo (fun s1=>
  cond (decide (s1 < (J.fi.length:Int))) (
   (idx J.fi.length s1).bind fun aZ=>
   cond (((ax J.fi aZ).bX) ==ag) (
    some (.inr (Sum.inr ((ax J.fi aZ).fe,s1,decide (s1 < (J.fi.length:Int)),((ax J.fi aZ).bX) ==ag)))) (
    some (.inl (bz (s1 + 1))))) (
   some (.inr (Sum.inl (s1,decide (s1 < (J.fi.length:Int))))))) 0).bind fun aA=>
  Sum.elim (fun aA=>
   some 0) (fun aA=>
  some aA.1) aA
def r9 (J:ak) (ag:Int):Option ak:=
 cond (decide (ag≥128)) (
  some J) (
  cond (decide (ag≥64)) (
   (some (J.c6 &&& (((1#64) <<< (BitVec.ofInt 64 (bz (ag - 64))).toNat) - (1#64)))).bind fun bl=>
   some ({ c6:=bl,bO:=J.bO:ak })) (
   cond (decide (ag≤0)) (
    some (default:ak)) (
    (some (({ (default:ak) with bO:=J.bO &&& (((1#64) <<< (BitVec.ofInt 64 ag).toNat) - (1#64)) } :ak))).bind fun dm=>
    some dm)))
def Cq (J:Int) (ag:Int):Option ak:=
 (some ((((1#64) <<< (BitVec.ofInt 64 J).toNat) - (1#64)) - (((1#64) <<< (BitVec.ofInt 64 (bz (J - ag))).toNat) - (1#64)))).bind fun bl=>
 some ({ (default:ak) with bO:=bl } :ak)
def x7 (J:bt) (ag:a2) (aT:cE):Option (cr × bt):=
 (yq ag aT.gr).bind fun al=>
 (fE J 256).bind fun aN=>
 (fE aN.2 16).bind fun a7=>
 (some (((BitVec.ofInt 64 aN.1) <<< (24#64).toNat) ||| ((BitVec.ofInt 64 a7.1) <<< (8#64).toNat))).bind fun bl=>
 (fE a7.2 16).bind fun bR=>
 (some (({ (default:ak) with bO:=bl ||| (BitVec.ofInt 64 bR.1) } :ak))).bind fun dm=>
 (r9 dm al).bind fun br=>
 cond (aT.cg ==2) (
  (fE bR.2 5).bind fun b8=>
  cond (decide (b8.1 > 0)) (
   (fE b8.2 al).bind fun cD=>
   (fE cD.2 5).bind fun dL=>
   (idx ([al,8,16,1,bz (1 + cD.1)].length) dL.1).bind fun aZ=>
   (Cq al (ax [al,8,16,1,bz (1 + cD.1)] aZ)).bind fun fU=>
   (some (({ (default:ak) with bO:=br.bO &&& fU.bO } :ak))).bind fun eX=>
   (some (({ (default:cr) with gM:=true,eQ:=ax [al,8,16,1,bz (1 + cD.1)] aZ,bI:=eX } :cr))).bind fun gX=>
   some (gX,dL.2)) (
   some ((default:cr),b8.2))) (
  cond (aT.cg ==3) (
   (fE bR.2 256).bind fun hJ=>
   (fE hJ.2 5).bind fun g4=>
   (idx (([255,15,1,12,hJ.1]:List Int).length) g4.1).bind fun b0=>
   (some (({ (default:ak) with bO:=BitVec.ofInt 64 (ax ([255,15,1,12,hJ.1]:List Int) b0) } :ak))).bind fun gY=>
   (r9 gY al).bind fun fg=>
   cond (fg.bO !=(0#64)) (
    (some (({ (default:ak) with bO:=br.bO &&& fg.bO } :ak))).bind fun iO=>
    (some (({ (default:cr) with gM:=true,bQ:=fg,bI:=iO } :cr))).bind fun iP=>
    some (iP,g4.2)) (
    some ((default:cr),g4.2))) (
   cond (aT.cg ==4) (
    (fE bR.2 256).bind fun ib=>
    (some (uA (br.bO + (BitVec.ofInt 64 ib.1)) (((1#64) <<< (BitVec.ofInt 64 al).toNat) - (1#64)))).bind fun hF=>
    (fE ib.2 5).bind fun jJ=>
    (some ((decide (jJ.1 > 0)) && (!((br.bO ==(0#64)) && (hF ==(((1#64) <<< (BitVec.ofInt 64 al).toNat) - (1#64))))))).bind fun lh=>
    cond lh (
     (some (({ (default:cr) with gM:=true,bI:=br,l4:=({ (default:ak) with bO:=hF } :ak) } :cr))).bind fun kO=>
     some (kO,jJ.2)) (
     some ((default:cr),jJ.2))) (
    (some (({ (default:cr) with gM:=true,bI:=br } :cr))).bind fun kp=>
    some (kp,bR.2))))
def yd (J:a2) (ag:Int):Option dN:=
 (ei (σ:=Int) (ε:=(Int × Bool) ⊕ (Int × Bool × Bool × dN)) eo (fun s1=>
  cond (decide (s1 < (J.dk.length:Int))) (
   (idx J.dk.length s1).bind fun aZ=>
   cond (((ax J.dk aZ).bX) ==ag) (
    some (.inr (Sum.inr (s1,decide (s1 < (J.dk.length:Int)),((ax J.dk aZ).bX) ==ag,(ax J.dk aZ))))) (
    some (.inl (bz (s1 + 1))))) (
   some (.inr (Sum.inl (s1,decide (s1 < (J.dk.length:Int))))))) 0).bind fun aA=>
  Sum.elim (fun aA=>
   some (default:dN)) (fun aA=>
  some aA.2.2.2) aA
def x8 (J:bt) (ag:a2) (aT:Int):Option (bJ × bt):=
 (qK aT (ag.bm.length:Int)).bind fun al=>
 (idx ag.bm.length al).bind fun aZ=>
 (ei (σ:=Int × bJ × (List cr) × bt) (ε:=(Int × Bool × bJ × (List cr) × bt)) eo (fun s1=>
  cond (decide (s1.1 < (((ax ag.bm aZ).bx).length:Int))) (
   (idx (((ax ag.bm aZ).bx).length) s1.1).bind fun b0=>
   (x7 s1.2.2.2 ag (ax ((ax ag.bm aZ).bx) b0)).bind fun aN=>
   (gu 64 s1.2.2.1 [aN.1]).bind fun a7=>
   (some ((((ax ((ax ag.bm aZ).bx) b0).cg) ==3) || (((ax ((ax ag.bm aZ).bx) b0).cg) ==4))).bind fun bl=>
   (cond bl (
    (fE aN.2 5).bind fun bR=>
    (some (({ ({ s1.2.1 with bY:= [] } :bJ) with hY:=bz (1 + bR.1) } :bJ))).bind fun dm=>
    some (dm,bR.2)) (
    some (({ s1.2.1 with bY:= [] } :bJ),aN.2))).bind fun bM=>
   some (.inl (bz (s1.1 + 1),bM.1,a7,bM.2))) (
   some (.inr (s1.1,decide (s1.1 < (((ax ag.bm aZ).bx).length:Int)),s1.2.1,s1.2.2.1,s1.2.2.2)))) (0,({ (default:bJ) with dO:=(ax ag.bm aZ).bX } :bJ),([]:List cr),J)).bind fun aA=>
 (fE aA.2.2.2.2 (((ax ag.bm aZ).dk).length:Int)).bind fun br=>
 (idx (((ax ag.bm aZ).dk).length) br.1).bind fun c1=>
 (some (({ aA.2.2.1 with ln:=ax ((ax ag.bm aZ).dk) c1 } :bJ))).bind fun eX=>
 (yd ag eX.ln).bind fun b8=>
 (ei (σ:=Int × bJ × (List ak) × bt) (ε:=(Int × Bool × bJ × (List ak) × bt)) eo (fun s2=>
  cond (decide (s2.1 < (b8.jR.length:Int))) (
   (idx b8.jR.length s2.1).bind fun fm=>
   (fE s2.2.2.2 256).bind fun cD=>
   (some (({ (default:ak) with bO:=BitVec.ofInt 64 cD.1 } :ak))).bind fun gX=>
   (r9 gX ((ax b8.jR fm).fe)).bind fun dL=>
   (gu 16 s2.2.2.1 [dL]).bind fun fU=>
   some (.inl (bz (s2.1 + 1),({ s2.2.1 with mz:= [] } :bJ),fU,cD.2))) (
   some (.inr (s2.1,decide (s2.1 < (b8.jR.length:Int)),s2.2.1,s2.2.2.1,s2.2.2.2)))) (0,eX,([]:List ak),br.2)).bind fun aU=>
 (some (({ ({ aU.2.2.1 with bY:=aA.2.2.2.1 } :bJ) with mz:=aU.2.2.2.1 } :bJ))).bind fun gY=>
 some (gY,aU.2.2.2.2)
def tz (J:bJ):Option (Vector ak 4):=
 (q0 J.bY 0 (min (J.bY.length:Int) 4)).bind fun al=>
 (ei (σ:=Int × (Vector ak 4)) (ε:=(Int × Bool × (Vector ak 4))) eo (fun s1=>
  cond (decide (s1.1 < (al.length:Int))) (
   (idx al.length s1.1).bind fun aZ=>
   (idx 4 s1.1).bind fun b0=>
   some (.inl (bz (s1.1 + 1),cW s1.2 b0 ((ax al aZ).bI)))) (
   some (.inr (s1.1,decide (s1.1 < (al.length:Int)),s1.2)))) (0,(default:Vector ak 4))).bind fun aA=>
 some aA.2.2
def vv (hp:a9 Cell) (J:Ref) (ag:Vector ak 4):Option (Int × Bool):=
 cond J.isNone (
  some (0,false)) (
  (J).bind fun dg=>
  (nV hp dg).bind fun cF=>
  (cF.o1.p).bind fun cK=>
  (mC hp cK).bind fun da=>
  (some (ep da ag)).bind fun bl=>
  some (bl.getD default,bl.isSome))
def xZ (hp:a9 Cell) (J:kf) (ag:bJ):Option (Int × Bool):=
 (tz ag).bind fun al=>
 (vv hp J.qk al).bind fun aN=>
 some (aN.1,aN.2)
def vm (J:et) (ag:Vector ak 4):Option ((Vector ak 4) × ak):=
 (idx 4 J.q8).bind fun aZ=>
 (idx 4 J.q8).bind fun b0=>
 some ((cW ag b0 (default:ak)),(bD ag aZ))
def vk (J:et) (ag:bJ):Option ((Vector ak 4) × ak × Int):=
 (tz ag).bind fun al=>
 (vm J al).bind fun aN=>
 cond (decide (J.q8≥ (ag.bY.length:Int))) (
  some (aN.1,aN.2,0)) (
  (idx ag.bY.length J.q8).bind fun aZ=>
  some (aN.1,aN.2,(ax ag.bY aZ).eQ))
def vG (J:Int):Option Int:=
 some (min (max 0 J) 128)
def vI (J:ak) (ag:Int):Option ak:=
 cond (decide (ag≤0)) (
  some J) (
  cond (decide (ag≥64)) (
   (some (({ (default:ak) with bO:=J.c6 >>> (BitVec.ofInt 64 (bz (ag - 64))).toNat } :ak))).bind fun bl=>
   some bl) (
   (some ((J.bO >>> (BitVec.ofInt 64 ag).toNat) ||| (J.c6 <<< (BitVec.ofInt 64 (bz (64 - ag))).toNat))).bind fun dm=>
   (some ({ c6:=J.c6 >>> (BitVec.ofInt 64 ag).toNat,bO:=dm:ak })).bind fun eX=>
   some eX))
def qI (J:Int):Option ak:=
 (some ({ c6:=18446744073709551615#64,bO:=18446744073709551615#64:ak })).bind fun bl=>
 (vG J).bind fun al=>
 (vI bl (bz (128 - al))).bind fun aN=>
 some aN
def sa (J:ak) (ag:ak):Option ak:=
 (some ({ c6:=J.c6 ^^^ ag.c6,bO:=J.bO ^^^ ag.bO:ak })).bind fun bl=>
 some bl
def tt (J:Int) (ag:Int):Option ak:=
 (vG J).bind fun al=>
 (qI al).bind fun aN=>
 (qI (bz (al - (min (max 0 ag) al)))).bind fun a7=>
 (sa aN a7).bind fun bR=>
 some bR
def lk (J:ak) (ag:ak):Option ak:=
 (some ({ c6:=J.c6 &&& ag.c6,bO:=J.bO &&& ag.bO:ak })).bind fun bl=>
 some bl
def vu (hp:a9 Cell) (J:Ref) (ag:ak) (aT:Int):Option Bool:=
 (c4 (J.isSome && (decide (aT≥0))) true (J)).bind fun dg=>
 (c4 (J.isSome && (decide (aT≥0))) true (gE hp dg)).bind fun cF=>
 (c4 ((J.isSome && (decide (aT≥0))) && (decide (aT≤cF.eR))) true (J)).bind fun cK=>
 (c4 ((J.isSome && (decide (aT≥0))) && (decide (aT≤cF.eR))) true (gE hp cK)).bind fun da=>
 (c4 ((J.isSome && (decide (aT≥0))) && (decide (aT≤cF.eR))) true (tt da.eR aT)).bind fun al=>
 (c4 ((J.isSome && (decide (aT≥0))) && (decide (aT≤cF.eR))) true (lk ag al)).bind fun aN=>
 (some (((J.isSome && (decide (aT≥0))) && (decide (aT≤cF.eR))) && (decide (aN=ag)))).bind fun bl=>
 some bl
def ye (J:Ref) (ag:ak) (aT:Int):Option (Int × ak × Ref):=
 some (aT,ag,J)
def qL (J:ak) (ag:Int):Option Bool:=
 (c4 ((decide (ag≥0)) && (decide (ag < 128))) true (vI J ag)).bind fun al=>
 (some (((decide (ag≥0)) && (decide (ag < 128))) && ((al.bO &&& (1#64)) ==(1#64)))).bind fun bl=>
 some bl
def tm {σ ε:Type} (ag:Int) (aT:ak) (cB:Ref) (hq:σ→a9 Cell) (step:Int→σ→aM (σ ⊕ ε)) (cd:σ):aM (σ ⊕ ε):=
 aM.bind (o4 (σ:=Int × (σ)) (ε:=(Int × Bool × (σ)) ⊕ (Int × Int × Int × Bool × Bool × Bool × (ε))) eo (fun s1=>
   cond (decide (s1.1 < ag)) (
    aM.bind (aM.of (cB)) fun dg=>
    aM.bind (aM.of (gE (hq s1.2) dg)) fun cF=>
    aM.bind (aM.of (qL aT (bz ((bz (cF.eR - 1)) - s1.1)))) fun al=>
    aM.bind (aM.of (cond al (
      some 1) (
      some 0))) fun bM=>
    aM.bind (step bM s1.2) fun aN=>
    Sum.elim (fun s2=>
     aM.ret (.inl (bz (s1.1 + 1),s2))) (fun cT=>
     aM.ret (.inr (Sum.inr (s1.1,bM,s1.1,decide (s1.1 < ag),al,!false,cT)))) aN) (
    aM.ret (.inr (Sum.inl (s1.1,decide (s1.1 < ag),s1.2))))) (0,cd)) fun aA=>
   Sum.elim (fun aA=>
    aM.ret (.inl aA.2.2:σ ⊕ ε)) (fun aA=>
   aM.ret (.inr aA.2.2.2.2.2.2:σ ⊕ ε)) aA
def qC {σ ε:Type} (hp:a9 Cell) (ag:Int) (aT:ak) (cB:Ref) (step:Int→σ→Option (σ ⊕ ε)) (cd:σ):Option (σ ⊕ ε):=
 (ei (σ:=Int × (σ)) (ε:=(Int × Bool × (σ)) ⊕ (Int × Int × Int × Bool × Bool × Bool × (ε))) eo (fun s1=>
  cond (decide (s1.1 < ag)) (
   (cB).bind fun dg=>
   (gE hp dg).bind fun cF=>
   (qL aT (bz ((bz (cF.eR - 1)) - s1.1))).bind fun al=>
   (cond al (
    some 1) (
    some 0)).bind fun bM=>
   (step bM s1.2).bind fun aN=>
   Sum.elim (fun s2=>
    some (.inl (bz (s1.1 + 1),s2))) (fun cT=>
    some (.inr (Sum.inr (s1.1,bM,s1.1,decide (s1.1 < ag),al,!false,cT)))) aN) (
   some (.inr (Sum.inl (s1.1,decide (s1.1 < ag),s1.2))))) (0,cd)).bind fun aA=>
  Sum.elim (fun aA=>
   some (.inl aA.2.2)) (fun aA=>
  some (.inr aA.2.2.2.2.2.2)) aA
def vA (hp:a9 Cell) (J:Ref) (ag:ak) (aT:Int):Option Ref:=
 (vu hp J ag aT).bind fun al=>
 cond (!al) (
  some (none:Ref)) (
  (J).bind fun dg=>
  (gE hp dg).bind fun cF=>
  (ye J ag aT).bind fun aN=>
  (qC hp aN.1 aN.2.1 aN.2.2 (σ:=Ref) (ε:=Ref × Ref) (fun(oH:Int) (s1:Ref)=>
   cond s1.isNone (
    some (.inr (s1,(none:Ref)))) (
    (s1).bind fun cK=>
    (idx 2 oH).bind fun aZ=>
    (dx hp cK).bind fun da=>
    some (.inl (bD da.eK aZ)))) cF.db).bind fun aA=>
  Sum.elim (fun s1=>
   some s1) (fun aF=>
   some aF.2) aA)
def vD (hp:a9 Cell) (J:Ref) (ag:ak) (aT:Int):Option (Int × Bool):=
 (vA hp J ag aT).bind fun al=>
 (c4 al.isNone false (al)).bind fun dg=>
 (c4 al.isNone false (dx hp dg)).bind fun cF=>
 cond (al.isNone || (!cF.fp)) (
  some (0,false)) (
  (al).bind fun cK=>
  (dx hp cK).bind fun da=>
  some (da.j1,true))
def xN (hp:a9 Cell) (J:et) (ag:bJ):Option (Int × Bool):=
 (vk J ag).bind fun al=>
 (J.fX.p).bind fun dg=>
 (jX hp dg).bind fun cF=>
 (some ((ep cF al.1).getD default)).bind fun bl=>
 (vD hp bl al.2.1 al.2.2).bind fun aN=>
 some (aN.1,aN.2)
def BR (J:List cr):Option (List cr):=
 (gu 64 ([]:List cr) J).bind fun al=>
 some al
def BS (J:List ak):Option (List ak):=
 (gu 16 ([]:List ak) J).bind fun al=>
 some al
def Cx (J:bJ):Option bJ:=
 (BR J.bY).bind fun al=>
 (BS J.mz).bind fun aN=>
 (some (({ ({ J with bY:=al } :bJ) with mz:=aN } :bJ))).bind fun bl=>
 some bl
def nC (J:aI):Option aI:=
 (Cx J.b2).bind fun al=>
 some ({ J with b2:=al } :aI)
def vK (J:List aI):Option (List aI):=
 (ei (σ:=Int × (List aI)) (ε:=(Int × Bool × (List aI))) eo (fun s1=>
  cond (decide (s1.1 < (J.length:Int))) (
   (idx J.length s1.1).bind fun aZ=>
   (nC (ax J aZ)).bind fun al=>
   (gu 88 s1.2 [al]).bind fun aN=>
   some (.inl (bz (s1.1 + 1),aN))) (
   some (.inr (s1.1,decide (s1.1 < (J.length:Int)),s1.2)))) (0,([]:List aI))).bind fun aA=>
 some aA.2.2
def xI (J:cS):Option (List aI):=
 (vK J.cu).bind fun al=>
 some al
def xE (J:List cr) (ag:List cr):Option Bool:=
 cond ((J.length:Int) !=(ag.length:Int)) (
  some false) (
  (ei (σ:=Int) (ε:=(Int × Bool) ⊕ (Int × Int × Bool × Bool)) eo (fun s1=>
   cond (decide (s1 < (J.length:Int))) (
    (idx J.length s1).bind fun aZ=>
    (idx ag.length s1).bind fun b0=>
    cond (!decide (ax J aZ=ax ag b0)) (
     some (.inr (Sum.inr (s1,s1,decide (s1 < (J.length:Int)),!decide (ax J aZ=ax ag b0))))) (
     some (.inl (bz (s1 + 1))))) (
    some (.inr (Sum.inl (s1,decide (s1 < (J.length:Int))))))) 0).bind fun aA=>
   Sum.elim (fun aA=>
    some true) (fun aA=>
   some false) aA)
def yj (J:bJ) (ag:bJ):Option Bool:=
 (c4 (J.dO ==ag.dO) true (xE J.bY ag.bY)).bind fun al=>
 some (((J.dO ==ag.dO) && al) && (J.hY ==ag.hY))
def x6 (hp:a9 Cell) (J:jB) (ag:bJ):Option (Int × Bool):=
 (J.cu).bind fun dg=>
 (nW hp dg).bind fun cF=>
 (xI cF.1).bind fun al=>
 (ei (σ:=Int) (ε:=(Int × Bool) ⊕ (Int × Bool × Int × Bool × Bool)) eo (fun s1=>
  cond (decide (s1 < (al.length:Int))) (
   (idx al.length s1).bind fun aZ=>
   (yj ((ax al aZ).b2) ag).bind fun aN=>
   cond aN (
    some (.inr (Sum.inr ((ax al aZ).cH,true,s1,decide (s1 < (al.length:Int)),aN)))) (
    some (.inl (bz (s1 + 1))))) (
   some (.inr (Sum.inl (s1,decide (s1 < (al.length:Int))))))) 0).bind fun aA=>
  Sum.elim (fun aA=>
   some (0,false)) (fun aA=>
  some (aA.1,aA.2.1)) aA
def EZ (hp:a9 Cell) (y:gL) (J:bJ):Option (Int × Bool):=match y with
 | .nil=>none
 | .mE z=>xZ hp z J
 | .mF z=>xN hp z J
 | .mG z=>x6 hp z J
def Cm (hp:a9 Cell) (J:Ref) (ag:Vector ak 4) (aT:Int):Option (Bool × (a9 Cell)):=
 cond J.isNone (
  some (false,hp)) (
  (J).bind fun dg=>
  (nV hp dg).bind fun cF=>
  (cF.o1.p).bind fun cK=>
  (mC hp cK).bind fun da=>
  (some (ep da ag)).bind fun bl=>
  cond bl.isSome (
   some (false,hp)) (
   (some (dW hp cK (Cell.o7 (gH da ag aT)))).bind fun dV=>
   some (true,dV)))
def ya (hp:a9 Cell) (J:kf) (ag:aI):Option (a9 Cell):=
 (tz ag.b2).bind fun al=>
 (Cm hp J.qk al ag.cH).bind fun aN=>
 some aN.2
def Cz (hp:a9 Cell) (J:Int):aM (Ref × (a9 Cell)):=
 aM.bind (aM.of (some (({ (default:ga) with eR:=min (max 1 J) 128 } :ga)))) fun bl=>
 aM.bind (aM.mk hp (Cell.j0 bl)) fun dY=>
 aM.ret ((some dY.1:Ref),dY.2)
def vC (hp:a9 Cell) (J:Ref) (ag:ak) (aT:Int) (cB:Int):aM (Bool × (a9 Cell)):=
 aM.bind (aM.of (vu hp J ag aT)) fun al=>
 cond (!al) (
  aM.ret (false,hp)) (
  aM.bind (aM.of (vA hp J ag aT)) fun aN=>
  aM.bind (aM.of (c4 aN.isSome true (aN))) fun dg=>
  aM.bind (aM.of (c4 aN.isSome true (dx hp dg))) fun cF=>
  cond (aN.isSome && cF.fp) (
   aM.ret (false,hp)) (
   aM.bind (aM.of (J)) fun cK=>
   aM.bind (aM.of (gE hp cK)) fun da=>
   aM.bind (cond da.db.isNone (
     aM.bind (aM.mk hp (Cell.hl (default:eJ))) fun eg=>
     aM.bind (aM.of (gE eg.2 cK)) fun Bw=>
     aM.bind (aM.of (some (dW eg.2 cK (Cell.j0 ({ Bw with db:=(some eg.1:Ref) } :ga))))) fun AO=>
     aM.ret AO) (
     aM.ret hp)) fun bM=>
   aM.bind (aM.of (gE bM cK)) fun ft=>
   aM.bind (aM.of (ye J ag aT)) fun a7=>
   aM.bind (tm a7.1 a7.2.1 a7.2.2 (σ:=Ref × (a9 Cell)) (ε:=Empty) (fun(s2:Ref × (a9 Cell))=>s2.2) (fun(w8:Int) (s2:Ref × (a9 Cell))=>
     aM.bind (aM.of (s2.1)) fun pG=>
     aM.bind (aM.of (idx 2 w8)) fun aZ=>
     aM.bind (aM.of (dx s2.2 pG)) fun te=>
     aM.bind (cond ((bD te.eK aZ).isNone) (
       aM.bind (aM.mk s2.2 (Cell.hl (default:eJ))) fun dY=>
       aM.bind (aM.of (idx 2 w8)) fun c1=>
       aM.bind (aM.of (dx dY.2 pG)) fun rO=>
       aM.bind (aM.of (some (dW dY.2 pG (Cell.hl ({ rO with eK:=cW rO.eK c1 (some dY.1:Ref) } :eJ))))) fun dV=>
       aM.ret dV) (
       aM.ret s2.2)) fun cI=>
     aM.bind (aM.of (idx 2 w8)) fun b0=>
     aM.bind (aM.of (dx cI pG)) fun u7=>
     aM.ret (.inl (bD u7.eK b0,cI):(Ref × (a9 Cell)) ⊕ Empty)) (ft.db,bM)) fun aU=>
   Sum.elim (fun s2=>
    aM.bind (aM.of (s2.1)) fun jx=>
    aM.bind (aM.of (dx s2.2 jx)) fun xo=>
    aM.bind (aM.of (some (dW s2.2 jx (Cell.hl ({ xo with fp:=true } :eJ))))) fun e9=>
    aM.bind (aM.of (s2.1)) fun Jl=>
    aM.bind (aM.of (dx e9 Jl)) fun Jm=>
    aM.bind (aM.of (some (dW e9 Jl (Cell.hl ({ Jm with j1:=cB } :eJ))))) fun iE=>
    aM.ret (true,iE)) (fun cT=>
    Empty.elim cT) aU))
def xV (hp:a9 Cell) (J:et) (ag:aI):aM (a9 Cell):=
 aM.bind (aM.of (vk J ag.b2)) fun al=>
 aM.bind (aM.of (J.fX.p)) fun dg=>
 aM.bind (aM.of (jX hp dg)) fun cF=>
 aM.bind (aM.of (some ((ep cF al.1).getD default))) fun bl=>
 aM.bind (cond bl.isNone (
   aM.bind (Cz hp J.eR) fun a7=>
   aM.bind (aM.of (jX a7.2 dg)) fun ft=>
   aM.bind (aM.of (some (dW a7.2 dg (Cell.nm (gH ft al.1 a7.1))))) fun dV=>
   aM.ret dV) (
   aM.ret hp)) fun bM=>
 aM.bind (aM.of (jX bM dg)) fun da=>
 aM.bind (aM.of (some ((ep da al.1).getD default))) fun dm=>
 aM.bind (vC bM dm al.2.1 al.2.2 ag.cH) fun aN=>
 aM.ret aN.2
def BU (J:aI) (ag:Int):Option Bool:=
 some (J.cH ==ag)
def vf (J:List aI) (ag:aI→Option Bool):Option Int:=
 (ei (σ:=Int) (ε:=(Int × Bool) ⊕ (Int × Int × Int × Bool × Bool)) eo (fun s1=>
  cond (decide (s1 < (J.length:Int))) (
   (idx J.length s1).bind fun aZ=>
   (ag (ax J aZ)).bind fun al=>
   cond al (
    some (.inr (Sum.inr (s1,s1,s1,decide (s1 < (J.length:Int)),al)))) (
    some (.inl (bz (s1 + 1))))) (
   some (.inr (Sum.inl (s1,decide (s1 < (J.length:Int))))))) 0).bind fun aA=>
  Sum.elim (fun aA=>
   some (-1)) (fun aA=>
  some aA.1) aA
def xK (J:cS) (ag:Int):Option Int:=
 (vf J.cu (fun fM=>BU fM ag)).bind fun al=>
 some al
def xx (J:List aI) (ag:aI) (aT:aI→aI→Option Int):Option (Int × Bool):=
 (ei (σ:=Int × Int) (ε:=(Int × Int × Bool)) eo (fun s1=>
  cond (decide (s1.1 < s1.2)) (
   (idx J.length (bz ((BitVec.ofInt 64 (bz (s1.1 + s1.2))) >>> (1#64).toNat).toNat)).bind fun aZ=>
   (aT (ax J aZ) ag).bind fun al=>
   (cond (decide (al < 0)) (
    (some (bz ((bz ((BitVec.ofInt 64 (bz (s1.1 + s1.2))) >>> (1#64).toNat).toNat) + 1))).bind fun bl=>
    some (bl,s1.2)) (
    some (s1.1,bz ((BitVec.ofInt 64 (bz (s1.1 + s1.2))) >>> (1#64).toNat).toNat))).bind fun bM=>
   some (.inl (bM.1,bM.2))) (
   some (.inr (s1.1,s1.2,decide (s1.1 < s1.2))))) (0,(J.length:Int))).bind fun aA=>
 (c4 (decide (aA.1 < (J.length:Int))) true (idx J.length aA.1)).bind fun b0=>
 (c4 (decide (aA.1 < (J.length:Int))) true (aT (ax J b0) ag)).bind fun aN=>
 some (aA.1,(decide (aA.1 < (J.length:Int))) && (aN ==0))
def yh (J:Int):Option Bool:=
 some (J !=J)
def tq (J:Int) (ag:Int):Option Int:=
 (yh J).bind fun al=>
 (yh ag).bind fun aN=>
 cond al (
  cond aN (
   some 0) (
   some (-1))) (
  cond aN (
   some 1) (
   cond (decide (J < ag)) (
    some (-1)) (
    cond (decide (J > ag)) (
     some 1) (
     some 0))))
def r7 (J:a2) (ag:bJ):Option (bV × Bool):=
 (r3 J ag.dO).bind fun al=>
 cond (decide (al < 0)) (
  some ((default:bV),false)) (
  (idx J.bm.length al).bind fun aZ=>
  some (ax J.bm aZ,true))
def vi (J:List cE) (ag:cE→Option Bool):Option Int:=
 (ei (σ:=Int) (ε:=(Int × Bool) ⊕ (Int × Int × Int × Bool × Bool)) eo (fun s1=>
  cond (decide (s1 < (J.length:Int))) (
   (idx J.length s1).bind fun aZ=>
   (ag (ax J aZ)).bind fun al=>
   cond al (
    some (.inr (Sum.inr (s1,s1,s1,decide (s1 < (J.length:Int)),al)))) (
    some (.inl (bz (s1 + 1))))) (
   some (.inr (Sum.inl (s1,decide (s1 < (J.length:Int))))))) 0).bind fun aA=>
  Sum.elim (fun aA=>
   some (-1)) (fun aA=>
  some aA.1) aA
def E4 (J:cE):Option Bool:=
 some (J.cg ==2)
def vH (J:a2) (ag:bJ):Option Int:=
 (r7 J ag).bind fun al=>
 (vi al.1.bx E4).bind fun aN=>
 (some (((!al.2) || (decide (aN < 0))) || (decide (aN≥ (ag.bY.length:Int))))).bind fun bl=>
 cond bl (
  some 0) (
  (idx ag.bY.length aN).bind fun aZ=>
  some ((ax ag.bY aZ).eQ))
def yy (J:List Int):Option Int:=
 (ei (σ:=Int) (ε:=(Int × Bool) ⊕ (Int × Int × Int × Bool × Bool)) eo (fun s1=>
  cond (decide (s1 < (J.length:Int))) (
   (idx J.length s1).bind fun aZ=>
   cond ((ax J aZ) !=0) (
    some (.inr (Sum.inr (ax J aZ,ax J aZ,s1,decide (s1 < (J.length:Int)),(ax J aZ) !=0)))) (
    some (.inl (bz (s1 + 1))))) (
   some (.inr (Sum.inl (s1,decide (s1 < (J.length:Int))))))) 0).bind fun aA=>
  Sum.elim (fun aA=>
   some 0) (fun aA=>
  some aA.1) aA
def tB (J:a2) (ag:aI) (aT:aI):Option Bool:=
 (tq ag.b2.hY aT.b2.hY).bind fun al=>
 (vH J ag.b2).bind fun aN=>
 (vH J aT.b2).bind fun a7=>
 (tq aN a7).bind fun bR=>
 (tq ag.cH aT.cH).bind fun br=>
 (yy [al,bR,br]).bind fun b8=>
 some (decide (b8 > 0))
def vo (J:cS) (ag:aI) (aT:aI):Option Int:=
 (tB J.nH ag aT).bind fun al=>
 cond al (
  some (-1)) (
  (tB J.nH aT ag).bind fun aN=>
  cond aN (
   some 1) (
   some 0))
def BP (J:List aI) (ag:Int) (aT:List aI):Option (List aI):=Au 88 J ag aT
def xJ (J:cS) (ag:aI):Option (Bool × cS):=
 (c4 false false (xK J ag.cH)).bind fun al=>
 cond (false || (decide (al≥0))) (
  some (false,J)) (
  (xx J.cu ag (fun fM dY=>vo J fM dY)).bind fun aN=>
  (nC ag).bind fun a7=>
  (BP J.cu aN.1 [a7]).bind fun bR=>
  some (true,({ J with cu:=bR } :cS)))
def yb (hp:a9 Cell) (J:jB) (ag:aI):aM (a9 Cell):=
 aM.bind (aM.of (J.cu)) fun dg=>
 aM.bind (aM.of (nW hp dg)) fun cF=>
 aM.bind (aM.of (xJ cF.1 ag)) fun al=>
 aM.bind (aM.any (Option Nat × Nat)) fun aF=>
 aM.bind (aM.of (some (dW hp dg (Cell.sP al.2 aF.1 aF.2)))) fun dV=>
 aM.ret dV
def E3 (hp:a9 Cell) (y:gL) (J:aI):aM (a9 Cell):=match y with
 | .nil=>fun _=>False
 | .mE z=>aM.of (ya hp z J)
 | .mF z=>xV hp z J
 | .mG z=>yb hp z J
def yc (hp:a9 Cell) (J:Ref) (ag:aI):aM (Bool × (a9 Cell)):=
 cond J.isNone (
  aM.ret (false,hp)) (
  aM.bind (aM.of (J)) fun dg=>
  aM.bind (aM.of (iI hp dg)) fun cF=>
  aM.bind (aM.of (cF.lZ.p)) fun cK=>
  aM.bind (aM.of (nd hp cK)) fun da=>
  aM.bind (aM.of (some (ep da ag.cH))) fun bl=>
  aM.bind (aM.of (J)) fun pG=>
  aM.bind (aM.of (iI hp pG)) fun ft=>
  aM.bind (aM.of (EZ hp ft.jg ag.b2)) fun al=>
  cond (al.2 || bl.isSome) (
   aM.ret (false,hp)) (
   aM.bind (aM.of (J)) fun Jn=>
   aM.bind (aM.of (iI hp Jn)) fun te=>
   aM.bind (aM.of (nC ag)) fun aN=>
   aM.bind (aM.of (te.lZ.p)) fun Jo=>
   aM.bind (aM.of (nd hp Jo)) fun u7=>
   aM.bind (aM.of (some (dW hp Jo (Cell.ma (gH u7 ag.cH aN))))) fun dV=>
   aM.bind (aM.of (iI dV Jn)) fun rO=>
   aM.bind (E3 dV rO.jg ag) fun a7=>
   aM.ret (true,a7)))
def xY (J:bt):Option ((Vector ak 4) × bt):=
 (ei (σ:=Int × (Vector ak 4) × bt) (ε:=(Int × Bool × (Vector ak 4) × bt)) eo (fun s1=>
  cond (decide (s1.1 < 4)) (
   (fE s1.2.2 256).bind fun al=>
   (some (({ (default:ak) with bO:=BitVec.ofInt 64 al.1 } :ak))).bind fun bl=>
   (idx 4 s1.1).bind fun aZ=>
   (fE al.2 4).bind fun aN=>
   (cond (aN.1 ==1) (
    (idx 4 s1.1).bind fun b0=>
    (fE aN.2 256).bind fun a7=>
    (some ((((bD (cW s1.2.1 aZ bl) b0).bO) <<< (24#64).toNat) ||| (BitVec.ofInt 64 a7.1))).bind fun dm=>
    (idx 4 s1.1).bind fun c1=>
    (some (cW (cW s1.2.1 aZ bl) c1 ({ (bD (cW s1.2.1 aZ bl) c1) with bO:=dm } :ak))).bind fun eX=>
    some (a7.2,eX)) (
    some (aN.2,cW s1.2.1 aZ bl))).bind fun bM=>
   some (.inl (bz (s1.1 + 1),bM.2,bM.1))) (
   some (.inr (s1.1,decide (s1.1 < 4),s1.2.1,s1.2.2)))) (0,(default:Vector ak 4),J)).bind fun aA=>
 some (aA.2.2.1,aA.2.2.2)
def yr (J:bJ) (ag:Vector ak 4):Option (Vector ak 4):=
 (ei (σ:=Int × (Vector ak 4)) (ε:=(Int × Bool × (Vector ak 4))) eo (fun s1=>
  cond (decide (s1.1 < (J.bY.length:Int))) (
   (idx J.bY.length s1.1).bind fun aZ=>
   cond ((decide (s1.1≥4)) || (!((ax J.bY aZ).gM))) (
    some (.inl (bz (s1.1 + 1),s1.2))) (
    (cond (!decide ((ax J.bY aZ).bQ=(default:ak))) (
     (idx 4 s1.1).bind fun b0=>
     (some ((((bD s1.2 b0).bO) &&& ~~~(((ax J.bY aZ).bQ).bO)) ||| (((ax J.bY aZ).bI).bO))).bind fun bl=>
     (idx 4 s1.1).bind fun c1=>
     (some ((((bD s1.2 c1).c6) &&& ~~~(((ax J.bY aZ).bQ).c6)) ||| (((ax J.bY aZ).bI).c6))).bind fun dm=>
     (idx 4 s1.1).bind fun fm=>
     (idx 4 s1.1).bind fun hW=>
     (some (cW (cW s1.2 fm ({ (bD s1.2 fm) with bO:=bl } :ak)) hW ({ (bD (cW s1.2 fm ({ (bD s1.2 fm) with bO:=bl } :ak)) hW) with c6:=dm } :ak))).bind fun eX=>
     some eX) (
     (some ((decide (((ax J.bY aZ).eQ) > 0)) && (decide (((ax J.bY aZ).eQ)≤32)))).bind fun gX=>
     (cond gX (
      (idx 4 s1.1).bind fun ka=>
      (some ((1#64) <<< (BitVec.ofInt 64 (bz (32 - ((ax J.bY aZ).eQ)))).toNat)).bind fun gY=>
      (some ((((ax J.bY aZ).bI).bO) ||| (((bD s1.2 ka).bO) &&& (gY - (1#64))))).bind fun iO=>
      (idx 4 s1.1).bind fun kV=>
      (some (cW s1.2 kV ({ (default:ak) with bO:=iO } :ak))).bind fun iP=>
      some iP) (
      (idx 4 s1.1).bind fun kW=>
      some (cW s1.2 kW ((ax J.bY aZ).bI)))).bind fun cI=>
     some cI)).bind fun bM=>
    some (.inl (bz (s1.1 + 1),bM)))) (
   some (.inr (s1.1,decide (s1.1 < (J.bY.length:Int)),s1.2)))) (0,ag)).bind fun aA=>
 some aA.2.2
def xL (hp:a9 Cell) (J:kf) (ag:Vector ak 4):Option (Int × Bool):=
 (vv hp J.qk ag).bind fun al=>
 some (al.1,al.2)
def vw (J:BitVec 64):Option Int:=
 (cond (decide (J≥ (4294967296#64))) (
  some (J >>> (32#64).toNat,32)) (
  some (J,0))).bind fun bM=>
 (cond (decide (bM.1≥ (65536#64))) (
  some (bM.1 >>> (16#64).toNat,bz (bM.2 + 16))) (
  some (bM.1,bM.2))).bind fun cI=>
 (cond (decide (cI.1≥ (256#64))) (
  some (cI.1 >>> (8#64).toNat,bz (cI.2 + 8))) (
  some (cI.1,cI.2))).bind fun fb=>
 (Av (ByteArray.mk (List.toArray (List.append (List.append [0,1,2,2,3,3,3,3,4,4,4,4,4,4,4,4,5,5,5,5,5,5,5,5,5,5,5,5,5,5,5,5,6,6,6,6,6,6,6,6,6,6,6,6,6,6,6,6,6,6,6,6,6,6,6,6,6,6,6,6,6,6,6,6] [7,7,7,7,7,7,7,7,7,7,7,7,7,7,7,7,7,7,7,7,7,7,7,7,7,7,7,7,7,7,7,7,7,7,7,7,7,7,7,7,7,7,7,7,7,7,7,7,7,7,7,7,7,7,7,7,7,7,7,7,7,7,7,7]) (List.append [8,8,8,8,8,8,8,8,8,8,8,8,8,8,8,8,8,8,8,8,8,8,8,8,8,8,8,8,8,8,8,8,8,8,8,8,8,8,8,8,8,8,8,8,8,8,8,8,8,8,8,8,8,8,8,8,8,8,8,8,8,8,8,8] [8,8,8,8,8,8,8,8,8,8,8,8,8,8,8,8,8,8,8,8,8,8,8,8,8,8,8,8,8,8,8,8,8,8,8,8,8,8,8,8,8,8,8,8,8,8,8,8,8,8,8,8,8,8,8,8,8,8,8,8,8,8,8,8])))) ((fb.1.setWidth 8).toNat:Int)).bind fun al=>
 some (bz (fb.2 + (al.toNat:Int)))
def Cu (J:ak):Option Int:=
 cond (J.c6 !=(0#64)) (
  (vw J.c6).bind fun al=>
  some (bz (64 + al))) (
  (vw J.bO).bind fun aN=>
  some aN)
def yz (J:ak) (ag:Int):Option Bool:=
 (Cu J).bind fun al=>
 some (decide (al≤ag))
def tk (hp:a9 Cell) (J:Ref) (ag:Int) (aT:Int) (cB:Int) (EF:Bool):Option (Int × Int × Bool):=
 (c4 J.isSome true (J)).bind fun dg=>
 (c4 J.isSome true (dx hp dg)).bind fun cF=>
 (cond (J.isSome && cF.fp) (
  (J).bind fun cK=>
  (dx hp cK).bind fun da=>
  some (ag,da.j1,true)) (
  some (aT,cB,EF))).bind fun bM=>
 some (bM.1,bM.2.1,bM.2.2)
def x3 (hp:a9 Cell) (J:Ref) (ag:ak):Option (Int × Int × Bool):=
 (c4 J.isNone false (J)).bind fun dg=>
 (c4 J.isNone false (gE hp dg)).bind fun cF=>
 (c4 J.isNone false (yz ag cF.eR)).bind fun al=>
 cond (J.isNone || (!al)) (
  some (0,0,false)) (
  (J).bind fun cK=>
  (gE hp cK).bind fun da=>
  (tk hp da.db 0 0 0 false).bind fun aN=>
  (ye J ag da.eR).bind fun a7=>
  (qC hp a7.1 a7.2.1 a7.2.2 (σ:=Ref × Int × Int × Int × Bool) (ε:=Ref × Int × Int × Int × Bool) (fun(oH:Int) (s1:Ref × Int × Int × Int × Bool)=>
   cond s1.1.isNone (
    some (.inr (s1.1,s1.2.1,s1.2.2.1,s1.2.2.2.1,s1.2.2.2.2))) (
    (s1.1).bind fun pG=>
    (idx 2 oH).bind fun aZ=>
    (dx hp pG).bind fun ft=>
    (tk hp (bD ft.eK aZ) (bz (s1.2.1 + 1)) s1.2.2.1 s1.2.2.2.1 s1.2.2.2.2).bind fun bR=>
    some (.inl (bD ft.eK aZ,bz (s1.2.1 + 1),bR.1,bR.2.1,bR.2.2)))) (da.db,0,aN.1,aN.2.1,aN.2.2)).bind fun aA=>
  Sum.elim (fun s1=>
   some (s1.2.2.1,s1.2.2.2.1,s1.2.2.2.2)) (fun cT=>
   some (cT.2.2.1,cT.2.2.2.1,cT.2.2.2.2)) aA)
def xH (hp:a9 Cell) (J:et) (ag:Vector ak 4):Option (Int × Bool):=
 (vm J ag).bind fun al=>
 (J.fX.p).bind fun dg=>
 (jX hp dg).bind fun cF=>
 (some ((ep cF al.1).getD default)).bind fun bl=>
 (qI J.eR).bind fun aN=>
 (lk al.2 aN).bind fun a7=>
 (x3 hp bl a7).bind fun bR=>
 some (bR.2.1,bR.2.2)
def EN (ag:Vector ak 4):Option (Vector ak 4):=
 some ag
def tu (J:a2) (ag:cE):Option Int:=
 (ts J ag.gr).bind fun al=>
 cond (decide (al < 0)) (
  some 0) (
  (idx J.fi.length al).bind fun aZ=>
  some ((ax J.fi aZ).fe))
def r4 (J:ak) (ag:ak):Option Int:=
 cond (decide (J=ag)) (
  some 0) (
  (some ((decide (J.c6 < ag.c6)) || ((J.c6 ==ag.c6) && (decide (J.bO < ag.bO))))).bind fun bl=>
  cond bl (
   some (-1)) (
   some 1))
def tv (J:cr) (ag:Int) (aT:Int) (cB:ak):Option Bool:=
 cond (!J.gM) (
  some ((decide (ag≥1)) && (decide (ag≤4)))) (
  cond (ag ==1) (
   some (decide (cB=J.bI))) (
   cond (ag ==2) (
    (tt aT J.eQ).bind fun al=>
    (lk cB al).bind fun aN=>
    (lk J.bI al).bind fun a7=>
    some (decide (aN=a7))) (
    cond (ag ==3) (
     (lk cB J.bQ).bind fun bR=>
     some (decide (bR=J.bI))) (
     cond (ag ==4) (
      (r4 J.bI cB).bind fun br=>
      (c4 (decide (br≤0)) true (r4 cB J.l4)).bind fun b8=>
      some ((decide (br≤0)) && (decide (b8≤0)))) (
      some false)))))
def r5 (J:a2) (ag:bJ) (aT:Vector ak 4):Option Bool:=
 (r7 J ag).bind fun al=>
 cond (!al.2) (
  some false) (
  (ei (σ:=Int) (ε:=(Int × Bool) ⊕ (Int × Int × Bool × Bool)) eo (fun s1=>
   cond (decide (s1 < (al.1.bx.length:Int))) (
    (idx al.1.bx.length s1).bind fun aZ=>
    (c4 ((decide (s1≥ (ag.bY.length:Int))) || (decide (s1≥4))) false (idx ag.bY.length s1)).bind fun b0=>
    (c4 ((decide (s1≥ (ag.bY.length:Int))) || (decide (s1≥4))) false (tu J (ax al.1.bx aZ))).bind fun aN=>
    (c4 ((decide (s1≥ (ag.bY.length:Int))) || (decide (s1≥4))) false (idx 4 s1)).bind fun c1=>
    (c4 ((decide (s1≥ (ag.bY.length:Int))) || (decide (s1≥4))) false (tv (ax ag.bY b0) ((ax al.1.bx aZ).cg) aN (bD aT c1))).bind fun a7=>
    (some (((decide (s1≥ (ag.bY.length:Int))) || (decide (s1≥4))) || (!a7))).bind fun bl=>
    cond bl (
     some (.inr (Sum.inr (s1,s1,decide (s1 < (al.1.bx.length:Int)),bl)))) (
     some (.inl (bz (s1 + 1))))) (
    some (.inr (Sum.inl (s1,decide (s1 < (al.1.bx.length:Int))))))) 0).bind fun aA=>
   Sum.elim (fun aA=>
    some true) (fun aA=>
   some false) aA)
def xz {σ ε:Type} (ag:cS) (aT:Vector ak 4) (step:aI→σ→Option (σ ⊕ ε)) (cd:σ):Option (σ ⊕ ε):=
 (ei (σ:=Int × (σ)) (ε:=(Int × Bool × (σ)) ⊕ (Int × Bool × Bool × (ε))) eo (fun s1=>
  cond (decide (s1.1 < (ag.cu.length:Int))) (
   (idx ag.cu.length s1.1).bind fun aZ=>
   (r5 ag.nH ((ax ag.cu aZ).b2) aT).bind fun al=>
   cond al (
    (step (ax ag.cu aZ) s1.2).bind fun aN=>
    Sum.elim (fun s2=>
     some (.inl (bz (s1.1 + 1),s2))) (fun cT=>
     some (.inr (Sum.inr (s1.1,decide (s1.1 < (ag.cu.length:Int)),al && (!false),cT)))) aN) (
    some (.inl (bz (s1.1 + 1),s1.2)))) (
   some (.inr (Sum.inl (s1.1,decide (s1.1 < (ag.cu.length:Int)),s1.2))))) (0,cd)).bind fun aA=>
  Sum.elim (fun aA=>
   some (.inl aA.2.2)) (fun aA=>
  some (.inr aA.2.2.2)) aA
def vj (J:cS) (ag:Vector ak 4):Option (aI × Bool):=
 (EN ag).bind fun al=>
 (xz J al (σ:=Unit) (ε:=Bool × aI) (fun(oH:aI) (s1:Unit)=>
  (nC oH).bind fun aN=>
  some (.inr (true,aN))) ()).bind fun aA=>
 Sum.elim (fun s1=>
  some ((default:aI),false)) (fun aF=>
  some (aF.2,aF.1)) aA
def xO (hp:a9 Cell) (J:jB) (ag:Vector ak 4):Option (Int × Bool):=
 (J.cu).bind fun dg=>
 (nW hp dg).bind fun cF=>
 (vj cF.1 ag).bind fun al=>
 some (al.1.cH,al.2)
def ES (hp:a9 Cell) (y:gL) (J:Vector ak 4):Option (Int × Bool):=match y with
 | .nil=>none
 | .mE z=>xL hp z J
 | .mF z=>xH hp z J
 | .mG z=>xO hp z J
def x0 (hp:a9 Cell) (J:Ref) (ag:Int) (aT:Bool):Option (aI × Bool):=
 cond (!aT) (
  some ((default:aI),false)) (
  (J).bind fun dg=>
  (iI hp dg).bind fun cF=>
  (cF.lZ.p).bind fun cK=>
  (nd hp cK).bind fun da=>
  (some ((ep da ag).getD default)).bind fun bl=>
  (nC bl).bind fun al=>
  some (al,true))
def vt (hp:a9 Cell) (J:Ref) (ag:Vector ak 4):Option (aI × Bool):=
 cond J.isNone (
  some ((default:aI),false)) (
  (ei (σ:=Int × (Vector ak 4)) (ε:=(Int × Bool × (Vector ak 4))) eo (fun s1=>
   cond (decide (s1.1 < 4)) (
    (J).bind fun dg=>
    (iI hp dg).bind fun cF=>
    (cond (decide (s1.1≥cF.oq)) (
     (idx 4 s1.1).bind fun aZ=>
     some (cW s1.2 aZ (default:ak))) (
     some s1.2)).bind fun bM=>
    some (.inl (bz (s1.1 + 1),bM))) (
    some (.inr (s1.1,decide (s1.1 < 4),s1.2)))) (0,ag)).bind fun aA=>
  (J).bind fun cK=>
  (iI hp cK).bind fun da=>
  (ES hp da.jg aA.2.2).bind fun al=>
  (x0 hp J al.1 al.2).bind fun aN=>
  some (aN.1,aN.2))
def yF (J:a2):Option (Vector (List Int) 6):=
 (ei (σ:=Int × (List Int) × (Vector (List Int) 6)) (ε:=(Int × Bool × (List Int) × (Vector (List Int) 6))) eo (fun s1=>
  cond (decide (s1.1 < (J.fi.length:Int))) (
   (idx J.fi.length s1.1).bind fun aZ=>
   (gu 8 s1.2.1 [(ax J.fi aZ).bX]).bind fun al=>
   some (.inl (bz (s1.1 + 1),al,cW s1.2.2 0 []))) (
   some (.inr (s1.1,decide (s1.1 < (J.fi.length:Int)),s1.2.1,s1.2.2)))) (0,([]:List Int),(default:Vector (List Int) 6))).bind fun aA=>
 (ei (σ:=Int × (List Int) × (Vector (List Int) 6)) (ε:=(Int × Bool × (List Int) × (Vector (List Int) 6))) eo (fun s2=>
  cond (decide (s2.1 < (J.ll.length:Int))) (
   (idx J.ll.length s2.1).bind fun b0=>
   (gu 8 s2.2.1 [(ax J.ll b0).bX]).bind fun aN=>
   some (.inl (bz (s2.1 + 1),aN,cW s2.2.2 1 []))) (
   some (.inr (s2.1,decide (s2.1 < (J.ll.length:Int)),s2.2.1,s2.2.2)))) (0,([]:List Int),aA.2.2.2)).bind fun aU=>
 (ei (σ:=Int × (List Int) × (Vector (List Int) 6)) (ε:=(Int × Bool × (List Int) × (Vector (List Int) 6))) eo (fun g7=>
  cond (decide (g7.1 < (J.l0.length:Int))) (
   (idx J.l0.length g7.1).bind fun c1=>
   (gu 8 g7.2.1 [(ax J.l0 c1).bX]).bind fun a7=>
   some (.inl (bz (g7.1 + 1),a7,cW g7.2.2 2 []))) (
   some (.inr (g7.1,decide (g7.1 < (J.l0.length:Int)),g7.2.1,g7.2.2)))) (0,([]:List Int),aU.2.2.2)).bind fun cL=>
 (ei (σ:=Int × (List Int) × (Vector (List Int) 6)) (ε:=(Int × Bool × (List Int) × (Vector (List Int) 6))) eo (fun lT=>
  cond (decide (lT.1 < (J.dk.length:Int))) (
   (idx J.dk.length lT.1).bind fun fm=>
   (gu 8 lT.2.1 [(ax J.dk fm).bX]).bind fun bR=>
   some (.inl (bz (lT.1 + 1),bR,cW lT.2.2 3 []))) (
   some (.inr (lT.1,decide (lT.1 < (J.dk.length:Int)),lT.2.1,lT.2.2)))) (0,([]:List Int),cL.2.2.2)).bind fun eO=>
 (ei (σ:=Int × (List Int) × (Vector (List Int) 6)) (ε:=(Int × Bool × (List Int) × (Vector (List Int) 6))) eo (fun hM=>
  cond (decide (hM.1 < (J.bm.length:Int))) (
   (idx J.bm.length hM.1).bind fun hW=>
   (gu 8 hM.2.1 [(ax J.bm hW).bX]).bind fun br=>
   some (.inl (bz (hM.1 + 1),br,cW hM.2.2 4 []))) (
   some (.inr (hM.1,decide (hM.1 < (J.bm.length:Int)),hM.2.1,hM.2.2)))) (0,([]:List Int),eO.2.2.2)).bind fun gz=>
 (ei (σ:=Int × (List Int) × (Vector (List Int) 6)) (ε:=(Int × Bool × (List Int) × (Vector (List Int) 6))) eo (fun iv=>
  cond (decide (iv.1 < (J.ji.length:Int))) (
   (idx J.ji.length iv.1).bind fun ka=>
   (gu 8 iv.2.1 [(ax J.ji ka).bX]).bind fun b8=>
   some (.inl (bz (iv.1 + 1),b8,cW iv.2.2 5 []))) (
   some (.inr (iv.1,decide (iv.1 < (J.ji.length:Int)),iv.2.1,iv.2.2)))) (0,([]:List Int),gz.2.2.2)).bind fun hE=>
 (some ((cW (cW (cW (cW (cW (cW hE.2.2.2 0 aA.2.2.1) 1 aU.2.2.1) 2 cL.2.2.1) 3 eO.2.2.1) 4 gz.2.2.1) 5 hE.2.2.1))).bind fun bl=>
 some bl
def yw (J:List Int) (ag:Int):Option Int:=
 (ei (σ:=Int) (ε:=(Int × Bool) ⊕ (Int × Int × Int × Int × Bool × Bool)) eo (fun s1=>
  cond (decide (s1 < (J.length:Int))) (
   (idx J.length s1).bind fun aZ=>
   cond ((ax J aZ) ==ag) (
    some (.inr (Sum.inr (s1,s1,ax J aZ,s1,decide (s1 < (J.length:Int)),(ax J aZ) ==ag)))) (
    some (.inl (bz (s1 + 1))))) (
   some (.inr (Sum.inl (s1,decide (s1 < (J.length:Int))))))) 0).bind fun aA=>
  Sum.elim (fun aA=>
   some (-1)) (fun aA=>
  some aA.1) aA
def yi (J:a2) (ag:Int):Option Int:=
 (yF J).bind fun al=>
 (yw (bD al 0) ag).bind fun aN=>
 some aN
def Cr (J:a2) (ag:Int):Option Int:=
 (yi J ag).bind fun al=>
 (idx J.fi.length al).bind fun aZ=>
 some ((ax J.fi aZ).fe)
def yl (J:a2) (ag:bV) (aT:Int):Option Int:=
 (idx ag.bx.length aT).bind fun aZ=>
 (Cr J ((ax ag.bx aZ).gr)).bind fun al=>
 some al
def Fv (J:BitVec 64):Option ak:=
 some ({ (default:ak) with bO:=J } :ak)
def yB (J:ak) (ag:Int):Option ak:=
 cond (decide (ag≤0)) (
  some J) (
  cond (decide (ag≥64)) (
   (some (({ (default:ak) with c6:=J.bO <<< (BitVec.ofInt 64 (bz (ag - 64))).toNat } :ak))).bind fun bl=>
   some bl) (
   (some ((J.c6 <<< (BitVec.ofInt 64 ag).toNat) ||| (J.bO >>> (BitVec.ofInt 64 (bz (64 - ag))).toNat))).bind fun dm=>
   (some ({ c6:=dm,bO:=J.bO <<< (BitVec.ofInt 64 ag).toNat:ak })).bind fun eX=>
   some eX))
def nE (J:ak) (ag:ak):Option ak:=
 (some ({ c6:=J.c6 ||| ag.c6,bO:=J.bO ||| ag.bO:ak })).bind fun bl=>
 some bl
def yv (hp:a9 Cell) (J:a2) (ag:bt) (aT:Int) (cB:Int):aM (Ref × (List aI) × bt × (a9 Cell)):=
 aM.bind (aM.of (qK aT (J.bm.length:Int))) fun al=>
 aM.bind (aM.of (idx J.bm.length al)) fun aZ=>
 aM.bind (vP hp J ((ax J.bm aZ).bX)) fun aN=>
 aM.bind (o4 (σ:=Int × (List aI) × bt × (a9 Cell)) (ε:=(Int × Bool × (List aI) × bt × (a9 Cell))) eo (fun s1=>
   aM.bind (aM.of (c4 (decide (s1.1 < cB)) true (xP s1.2.2.1))) fun a7=>
   cond ((decide (s1.1 < cB)) && a7) (
    aM.bind (aM.of (x8 s1.2.2.1 J aT)) fun bR=>
    aM.bind (aM.of (some (({ (default:aI) with b2:=bR.1,cH:=bz (s1.1 + 1) } :aI)))) fun bl=>
    aM.bind (yc s1.2.2.2 aN.1 bl) fun br=>
    aM.bind (aM.of (cond br.1 (
      (gu 88 s1.2.1 [bl]).bind fun b8=>
      some b8) (
      some s1.2.1))) fun bM=>
    aM.ret (.inl (bz (s1.1 + 1),bM,bR.2,br.2))) (
    aM.ret (.inr (s1.1,(decide (s1.1 < cB)) && a7,s1.2.1,s1.2.2.1,s1.2.2.2)))) (0,([]:List aI),ag,aN.2)) fun aA=>
 aM.ret (aN.1,aA.2.2.1,aA.2.2.2.1,aA.2.2.2.2)
def BY (J:aI) (ag:Int):Option Bool:=
 some (J.cH ==ag)
def xA (J:List cE) (ag:cE→Option Bool):Option Bool:=
 (vi J ag).bind fun al=>
 some (decide (al≥0))
def BZ (J:cE):Option Bool:=
 some (J.cg ==4)
def yC (J:cr) (ag:Int) (aT:Int):Option ak:=
 cond (!J.gM) (
  some (default:ak)) (
  cond (ag ==1) (
   (qI aT).bind fun al=>
   some al) (
   cond (ag ==2) (
    (tt aT J.eQ).bind fun aN=>
    some aN) (
    some J.bQ)))
def sd (J:a2) (ag:bJ):Option (a4 × Bool):=
 (r3 J ag.dO).bind fun al=>
 cond (decide (al < 0)) (
  some ((default:a4),false)) (
  (idx J.bm.length al).bind fun aZ=>
  (ei (σ:=Int × a4) (ε:=(Int × Bool × a4) ⊕ (Int × Int × Int × Bool × Bool × a4)) eo (fun s1=>
   cond (decide (s1.1 < (((ax J.bm aZ).bx).length:Int))) (
    (idx (((ax J.bm aZ).bx).length) s1.1).bind fun b0=>
    (ts J ((ax ((ax J.bm aZ).bx) b0).gr)).bind fun aN=>
    (some ((((ax ((ax J.bm aZ).bx) b0).cg) ==4) || (decide (aN < 0)))).bind fun bl=>
    (some ((bl || (decide (s1.1≥ (ag.bY.length:Int)))) || (decide (s1.1≥4)))).bind fun dm=>
    cond dm (
     some (.inr (Sum.inr (s1.1,aN,s1.1,decide (s1.1 < (((ax J.bm aZ).bx).length:Int)),dm,s1.2)))) (
     (idx ag.bY.length s1.1).bind fun c1=>
     (idx J.fi.length aN).bind fun fm=>
     (yC (ax ag.bY c1) ((ax ((ax J.bm aZ).bx) b0).cg) ((ax J.fi fm).fe)).bind fun a7=>
     (idx 4 s1.1).bind fun hW=>
     (idx ag.bY.length s1.1).bind fun ka=>
     (idx 4 s1.1).bind fun kV=>
     (lk ((ax ag.bY ka).bI) (bD (cW s1.2.bQ hW a7) kV)).bind fun bR=>
     (idx 4 s1.1).bind fun kW=>
     (some (({ ({ s1.2 with bQ:=cW s1.2.bQ hW a7 } :a4) with bI:=cW s1.2.bI kW bR } :a4))).bind fun eX=>
     some (.inl (bz (s1.1 + 1),eX)))) (
    some (.inr (Sum.inl (s1.1,decide (s1.1 < (((ax J.bm aZ).bx).length:Int)),s1.2))))) (0,(default:a4))).bind fun aA=>
   Sum.elim (fun aA=>
    some (aA.2.2,true)) (fun aA=>
   some ((default:a4),false)) aA)
def Fa (J:a2) (ag:List aI) (aT:aI):Option ((List aI) × a2 × aI):=
 some (ag,J,aT)
def xU {σ ε:Type} (ag:List aI) (aT:a2) (cB:aI) (step:a4→σ→Option (σ ⊕ ε)) (cd:σ):Option (σ ⊕ ε):=
 (ei (σ:=Int × (σ)) (ε:=(Int × Bool × (σ)) ⊕ (Bool × Int × Bool × Bool × Bool × (ε))) eo (fun s1=>
  cond (decide (s1.1 < (ag.length:Int))) (
   (idx ag.length s1.1).bind fun aZ=>
   (tB aT (ax ag aZ) cB).bind fun al=>
   cond (!al) (
    some (.inl (bz (s1.1 + 1),s1.2))) (
    (sd aT ((ax ag aZ).b2)).bind fun aN=>
    cond aN.2 (
     (step aN.1 s1.2).bind fun a7=>
     Sum.elim (fun s2=>
      some (.inl (bz (s1.1 + 1),s2))) (fun cT=>
      some (.inr (Sum.inr (aN.2,s1.1,decide (s1.1 < (ag.length:Int)),!al,aN.2 && (!false),cT)))) a7) (
     some (.inl (bz (s1.1 + 1),s1.2))))) (
   some (.inr (Sum.inl (s1.1,decide (s1.1 < (ag.length:Int)),s1.2))))) (0,cd)).bind fun aA=>
  Sum.elim (fun aA=>
   some (.inl aA.2.2)) (fun aA=>
  some (.inr aA.2.2.2.2.2)) aA
def vy (J:a2) (ag:List aI) (aT:Int):Option (a4 × (List a4) × Int):=
 (vf ag (fun fM=>BY fM aT)).bind fun al=>
 cond (decide (al < 0)) (
  some ((default:a4),([]:List a4),16)) (
  (idx ag.length al).bind fun aZ=>
  (r3 J (((ax ag aZ).b2).dO)).bind fun aN=>
  (c4 (decide (aN≥0)) true (idx J.bm.length aN)).bind fun b0=>
  (c4 (decide (aN≥0)) true (xA ((ax J.bm b0).bx) BZ)).bind fun a7=>
  cond ((decide (aN≥0)) && a7) (
   some ((default:a4),([]:List a4),13)) (
   (idx ag.length al).bind fun c1=>
   (sd J ((ax ag c1).b2)).bind fun bR=>
   (idx ag.length al).bind fun fm=>
   (Fa J ag (ax ag fm)).bind fun br=>
   (xU br.1 br.2.1 br.2.2 (σ:=(List a4) × (List a4)) (ε:=Empty) (fun(oH:a4) (s1:(List a4) × (List a4))=>
    (gu 128 s1.1 [oH]).bind fun b8=>
    some (.inl (b8,[]))) (([]:List a4),(default:List a4))).bind fun aA=>
   Sum.elim (fun s1=>
    some (bR.1,s1.1,0)) (fun aF=>
    Empty.elim aF) aA))
def xD (J:List a4):Option (List a4):=
 (gu 128 ([]:List a4) J).bind fun al=>
 some al
def qH (J:Vector ak 4) (ag:Vector ak 4) (aT:ak→ak→Option ak):Option (Vector ak 4):=
 (ei (σ:=Int × (Vector ak 4)) (ε:=(Int × Bool × (Vector ak 4))) eo (fun s1=>
  cond (decide (s1.1 < 4)) (
   (idx 4 s1.1).bind fun aZ=>
   (idx 4 s1.1).bind fun b0=>
   (aT (bD s1.2 aZ) (bD ag b0)).bind fun al=>
   (idx 4 s1.1).bind fun c1=>
   some (.inl (bz (s1.1 + 1),cW s1.2 c1 al))) (
   some (.inr (s1.1,decide (s1.1 < 4),s1.2)))) (0,J)).bind fun aA=>
 some aA.2.2
def vM (J:a4) (ag:a4):Option (a4 × Bool):=
 (qH J.bQ ag.bQ lk).bind fun al=>
 (qH J.bI ag.bI sa).bind fun aN=>
 (qH aN al lk).bind fun a7=>
 cond (!decide (a7=(default:Vector ak 4))) (
  some ((default:a4),false)) (
  (qH J.bI ag.bI nE).bind fun bR=>
  (qH J.bQ ag.bQ nE).bind fun br=>
  some ({ bI:=bR,bQ:=br:a4 },true))
def vz (J:a4) (ag:a4):Option Bool:=
 (vM ag J).bind fun al=>
 some (!al.2)
def vh (J:List a4) (ag:a4→Option Bool):Option Int:=
 (ei (σ:=Int) (ε:=(Int × Bool) ⊕ (Int × Int × Int × Bool × Bool)) eo (fun s1=>
  cond (decide (s1 < (J.length:Int))) (
   (idx J.length s1).bind fun aZ=>
   (ag (ax J aZ)).bind fun al=>
   cond al (
    some (.inr (Sum.inr (s1,s1,s1,decide (s1 < (J.length:Int)),al)))) (
    some (.inl (bz (s1 + 1))))) (
   some (.inr (Sum.inl (s1,decide (s1 < (J.length:Int))))))) 0).bind fun aA=>
  Sum.elim (fun aA=>
   some (-1)) (fun aA=>
  some aA.1) aA
def vg (J:List a4) (ag:a4→Option Bool):Option (List a4):=
 (vh J ag).bind fun al=>
 cond (al ==(-1)) (
  some J) (
  (ei (σ:=Int × Int × (List a4)) (ε:=(Int × Int × Bool × (List a4))) eo (fun s1=>
   cond (decide (s1.2.1 < (s1.2.2.length:Int))) (
    (idx s1.2.2.length s1.2.1).bind fun aZ=>
    (ag (ax s1.2.2 aZ)).bind fun aN=>
    (cond (!aN) (
     (idx s1.2.2.length s1.1).bind fun b0=>
     some (bz (s1.1 + 1),hk s1.2.2 b0 (ax s1.2.2 aZ))) (
     some (s1.1,s1.2.2))).bind fun bM=>
    some (.inl (bM.1,bz (s1.2.1 + 1),bM.2))) (
    some (.inr (s1.1,s1.2.1,decide (s1.2.1 < (s1.2.2.length:Int)),s1.2.2)))) (al,bz (al + 1),J)).bind fun aA=>
  (Aw aA.2.2.2.length aA.1 (aA.2.2.2.length:Int)).bind fun a7=>
  (some (nM aA.2.2.2 a7.1 (a7.2 - a7.1))).bind fun bl=>
  (idx (bl.length + 1) aA.1).bind fun c1=>
  (some (bl.take c1)).bind fun dm=>
  some dm)
def qJ (J:a4) (ag:List a4):Option (List a4):=
 (xD ag).bind fun al=>
 (vg al (fun fM=>vz fM J)).bind fun aN=>
 some aN
def yx (J:a4) (ag:a4):Option Bool:=
 (vM J ag).bind fun al=>
 some (al.2 && (decide (al.1=J)))
def x5 (J:a4) (ag:a4):Option Bool:=
 (yx ag J).bind fun al=>
 some al
def xy (J:List a4) (ag:a4→Option Bool):Option Bool:=
 (vh J ag).bind fun al=>
 some (decide (al≥0))
def vN (J:ak) (ag:Int):Option ak:=
 (qI ag).bind fun al=>
 (lk al ({ c6:= ~~~J.c6,bO:= ~~~J.bO:ak })).bind fun aN=>
 some aN
def yu (J:a4) (ag:List a4):Option ((Vector ak 4) × (Vector ak 4)):=
 (ei (σ:=Int × (Vector ak 4) × (Vector ak 4)) (ε:=(Int × Bool × (Vector ak 4) × (Vector ak 4))) eo (fun s1=>
  cond (decide (s1.1 < (ag.length:Int))) (
   (idx ag.length s1.1).bind fun aZ=>
   (ei (σ:=Int × (Vector ak 4) × (Vector ak 4)) (ε:=(Int × Bool × (Vector ak 4) × (Vector ak 4))) eo (fun s2=>
    cond (decide (s2.1 < 4)) (
     (idx 4 s2.1).bind fun b0=>
     (idx 4 s2.1).bind fun c1=>
     (vN (bD J.bQ c1) 128).bind fun al=>
     (lk (bD ((ax ag aZ).bQ) b0) al).bind fun aN=>
     (idx 4 s2.1).bind fun fm=>
     (idx 4 s2.1).bind fun hW=>
     (lk aN (bD ((ax ag aZ).bI) hW)).bind fun a7=>
     (nE (bD s2.2.1 fm) a7).bind fun bR=>
     (idx 4 s2.1).bind fun ka=>
     (idx 4 s2.1).bind fun kV=>
     (idx 4 s2.1).bind fun kW=>
     (vN (bD ((ax ag aZ).bI) kW) 128).bind fun br=>
     (lk aN br).bind fun b8=>
     (nE (bD s2.2.2 kV) b8).bind fun cD=>
     (idx 4 s2.1).bind fun rM=>
     some (.inl (bz (s2.1 + 1),cW s2.2.1 ka bR,cW s2.2.2 rM cD))) (
     some (.inr (s2.1,decide (s2.1 < 4),s2.2.1,s2.2.2)))) (0,s1.2.1,s1.2.2)).bind fun aU=>
   some (.inl (bz (s1.1 + 1),aU.2.2.1,aU.2.2.2))) (
   some (.inr (s1.1,decide (s1.1 < (ag.length:Int)),s1.2.1,s1.2.2)))) (0,(default:Vector ak 4),(default:Vector ak 4))).bind fun aA=>
 some (aA.2.2.2,aA.2.2.1)
def yt (J:a4) (ag:Vector ak 4) (aT:Vector ak 4):Option a4:=
 (ei (σ:=Int × a4) (ε:=(Int × Bool × a4)) eo (fun s1=>
  cond (decide (s1.1 < 4)) (
   (idx 4 s1.1).bind fun aZ=>
   (idx 4 s1.1).bind fun b0=>
   (lk (bD ag aZ) (bD aT b0)).bind fun al=>
   (idx 4 s1.1).bind fun c1=>
   (idx 4 s1.1).bind fun fm=>
   (idx 4 s1.1).bind fun hW=>
   (nE (bD ag fm) (bD aT hW)).bind fun aN=>
   (sa aN al).bind fun a7=>
   (nE (bD s1.2.bQ c1) a7).bind fun bR=>
   (idx 4 s1.1).bind fun ka=>
   (idx 4 s1.1).bind fun kV=>
   (idx 4 s1.1).bind fun kW=>
   (sa (bD ag kW) al).bind fun br=>
   (nE (bD s1.2.bI kV) br).bind fun b8=>
   (idx 4 s1.1).bind fun rM=>
   (some (({ ({ s1.2 with bQ:=cW s1.2.bQ ka bR } :a4) with bI:=cW s1.2.bI rM b8 } :a4))).bind fun bl=>
   some (.inl (bz (s1.1 + 1),bl))) (
   some (.inr (s1.1,decide (s1.1 < 4),s1.2)))) (0,J)).bind fun aA=>
 some aA.2.2
def vO (J:Vector ak 4) (ag:Int):Option Bool:=
 (uB ag 128).bind fun al=>
 (idx 4 al).bind fun aZ=>
 (nZ ag 128).bind fun aN=>
 (qL (bD J aZ) (bz (127 - aN))).bind fun a7=>
 some a7
def ym (J:Vector ak 4) (ag:List a4):Option Int:=
 (ei (σ:=Int × Int × Int) (ε:=(Int × Int × Int × Bool)) eo (fun s1=>
  cond (decide (s1.2.2 < 512)) (
   (vO J s1.2.2).bind fun al=>
   cond (!al) (
    some (.inl (s1.1,s1.2.1,bz (s1.2.2 + 1)))) (
    (ei (σ:=Int × Int) (ε:=(Int × Int × Bool)) eo (fun s2=>
     cond (decide (s2.2 < (ag.length:Int))) (
      (idx ag.length s2.2).bind fun aZ=>
      (vO ((ax ag aZ).bQ) s1.2.2).bind fun aN=>
      (cond aN (
       some (bz (s2.1 + 1))) (
       some s2.1)).bind fun bM=>
      some (.inl (bM,bz (s2.2 + 1)))) (
      some (.inr (s2.1,s2.2,decide (s2.2 < (ag.length:Int)))))) (0,0)).bind fun aU=>
    (cond (decide (aU.1 > s1.2.1)) (
     some (s1.2.2,aU.1)) (
     some (s1.1,s1.2.1))).bind fun cI=>
    some (.inl (cI.1,cI.2,bz (s1.2.2 + 1))))) (
   some (.inr (s1.1,s1.2.1,s1.2.2,decide (s1.2.2 < 512))))) (0,0,0)).bind fun aA=>
 some aA.1
def vJ (J:Int):Option (Int × Int):=
 (uB J 128).bind fun al=>
 (nZ J 128).bind fun aN=>
 some (al,bz (127 - aN))
def yK (J:Vector ak 4) (ag:Int):Option Bool:=
 (vJ ag).bind fun al=>
 (idx 4 al.1).bind fun aZ=>
 (qL (bD J aZ) al.2).bind fun aN=>
 some aN
def qN (J:a4) (ag:Int) (aT:Bool):Option a4:=
 (c4 ((decide (ag < 0)) || (decide (ag≥512))) false (yK J.bQ ag)).bind fun al=>
 cond (((decide (ag < 0)) || (decide (ag≥512))) || al) (
  some J) (
  (vJ ag).bind fun aN=>
  (Fv (1#64)).bind fun a7=>
  (yB a7 aN.2).bind fun bR=>
  (idx 4 aN.1).bind fun aZ=>
  (nE (bD J.bQ aZ) bR).bind fun br=>
  (idx 4 aN.1).bind fun b0=>
  (cond aT (
   (idx 4 aN.1).bind fun c1=>
   (nE (bD J.bI c1) bR).bind fun b8=>
   (idx 4 aN.1).bind fun fm=>
   (some (({ ({ J with bQ:=cW J.bQ b0 br } :a4) with bI:=cW J.bI fm b8 } :a4))).bind fun bl=>
   some bl) (
   some ({ J with bQ:=cW J.bQ b0 br } :a4))).bind fun bM=>
  some bM)
def qG:Nat→a4→ (List a4)→Option Bool
 | 0=>fun _ _=>none
 | n + 1=>fun J ag=>
   (qJ J ag).bind fun al=>
   (xy al (fun fM=>x5 fM J)).bind fun aN=>
   cond aN (
    some true) (
    cond ((al.length:Int) ==0) (
     some false) (
     (yu J al).bind fun a7=>
     (yt J a7.1 a7.2).bind fun bR=>
     cond (!decide (bR=J)) (
      (qG n bR al).bind fun br=>
      some br) (
      (ym a7.1 al).bind fun b8=>
      (qN J b8 false).bind fun cD=>
      (qG n cD al).bind fun dL=>
      (c4 dL true (qN J b8 true)).bind fun fU=>
      (c4 dL true (qG n fU al)).bind fun hJ=>
      some (dL && hJ))))
def yn (J:a4) (ag:List a4):Option Bool:=qG eo J ag
def vB (J:a4) (ag:List a4):Option (Bool × Int):=
 (qJ J ag).bind fun al=>
 cond (decide ((al.length:Int) > 16)) (
  some (false,26)) (
  (yn J al).bind fun aN=>
  some (aN,0))
def tw (J:a2) (ag:List aI) (aT:Int):Option (Bool × Int):=
 (vy J ag aT).bind fun al=>
 cond (al.2.2 !=0) (
  some (false,al.2.2)) (
  (vB al.1 al.2.1).bind fun aN=>
  some (aN.1,aN.2))
def Cp:Option Bool:=
 (tD ([]:List (BitVec 8)) 0).bind fun al=>
 (vr al).bind fun aN=>
 (rz (α:=cr) 64 2).bind fun a7=>
 (some (({ (default:bJ) with dO:=3,bY:=a7,hY:=5,ln:=1 } :bJ))).bind fun bl=>
 (some (({ (default:aI) with b2:=bl,cH:=1 } :aI))).bind fun dm=>
 (rz (α:=cr) 64 2).bind fun bR=>
 (some (({ (default:bJ) with dO:=3,bY:=bR,hY:=4,ln:=1 } :bJ))).bind fun eX=>
 (some (({ (default:aI) with b2:=eX,cH:=2 } :aI))).bind fun gX=>
 (tw aN.1 [dm,gX] 2).bind fun br=>
 (tw aN.1 [dm,gX] 1).bind fun b8=>
 some (((br.1 && (!b8.1)) && (br.2 ==0)) && (b8.2 ==0))
def yo (J:a4) (ag:List a4):Option ((Vector ak 4) × Bool × Int):=
 (qJ J ag).bind fun al=>
 cond (decide ((al.length:Int) > 16)) (
  some ((default:Vector ak 4),false,26)) (
  (yn J al).bind fun aN=>
  cond aN (
   some ((default:Vector ak 4),false,0)) (
   (ei (σ:=(List a4) × Int × a4) (ε:=((List a4) × Int × Bool × a4)) eo (fun s1=>
    cond (decide (s1.2.1 < 512)) (
     (qN s1.2.2 s1.2.1 false).bind fun a7=>
     cond (decide (a7=s1.2.2)) (
      some (.inl (s1.1,bz (s1.2.1 + 1),s1.2.2))) (
      (qJ a7 s1.1).bind fun bR=>
      (yn a7 bR).bind fun br=>
      cond (!br) (
       some (.inl (bR,bz (s1.2.1 + 1),a7))) (
       (qN s1.2.2 s1.2.1 true).bind fun b8=>
       (qJ b8 s1.1).bind fun cD=>
       some (.inl (cD,bz (s1.2.1 + 1),b8))))) (
     some (.inr (s1.1,s1.2.1,decide (s1.2.1 < 512),s1.2.2)))) (al,0,J)).bind fun aA=>
   some (aA.2.2.2.bI,true,0)))
def yf (J:a2) (ag:List aI) (aT:Int):Option ((Vector ak 4) × Bool × Int):=
 (vy J ag aT).bind fun al=>
 cond (al.2.2 !=0) (
  some ((default:Vector ak 4),false,al.2.2)) (
  (yo al.1 al.2.1).bind fun aN=>
  some (aN.1,aN.2.1,aN.2.2))
def x9 (hp:a9 Cell) (J:List (BitVec 8)) (ag:List (BitVec 8)) (aT:Int) (cB:List (Vector ak 4)):aM (Bool × (a9 Cell)):=
 aM.bind (aM.of (tD J 120)) fun al=>
 aM.bind (aM.of (vr al)) fun aN=>
 aM.bind (aM.of (tD ag 200)) fun a7=>
 aM.bind (aM.of (qK aT (aN.1.bm.length:Int))) fun bR=>
 aM.bind (aM.of (idx aN.1.bm.length bR)) fun aZ=>
 aM.bind (yv hp aN.1 a7 aT 14) fun br=>
 aM.bind (aM.of (ei (σ:=Int × bt) (ε:=(Int × Bool × bt) ⊕ (Bool × Int × Bool × Int × Int × Bool × Bool × Bool × bt)) eo (fun s1=>
   cond (decide (s1.1 < (br.2.1.length:Int))) (
    (idx br.2.1.length s1.1).bind fun b0=>
    (tw aN.1 br.2.1 ((ax br.2.1 b0).cH)).bind fun b8=>
    cond (b8.2 !=0) (
     some (.inl (bz (s1.1 + 1),s1.2))) (
     (yf aN.1 br.2.1 ((ax br.2.1 b0).cH)).bind fun cD=>
     cond ((cD.2.2 !=0) || (cD.2.1 ==b8.1)) (
      some (.inr (Sum.inr (b8.1,b8.2,cD.2.1,cD.2.2,s1.1,decide (s1.1 < (br.2.1.length:Int)),b8.2 !=0,(cD.2.2 !=0) || (cD.2.1 ==b8.1),s1.2)))) (
      (vt br.2.2.2 br.1 cD.1).bind fun dL=>
      cond (cD.2.1 && ((!dL.2) || (dL.1.cH !=((ax br.2.1 b0).cH)))) (
       some (.inr (Sum.inr (b8.1,b8.2,cD.2.1,cD.2.2,s1.1,decide (s1.1 < (br.2.1.length:Int)),b8.2 !=0,(cD.2.2 !=0) || (cD.2.1 ==b8.1),s1.2)))) (
       (q0 cB 0 (min (cB.length:Int) 4)).bind fun fU=>
       (gu 64 ([]:List (Vector ak 4)) fU).bind fun hJ=>
       (xY s1.2).bind fun g4=>
       (gu 64 hJ [g4.1]).bind fun fg=>
       (ei (σ:=Int) (ε:=(Int × Bool) ⊕ (Bool × Int × Bool × Int × Int × Bool × Bool)) eo (fun s2=>
        cond (decide (s2 < (fg.length:Int))) (
         (idx fg.length s2).bind fun c1=>
         (yr ((ax br.2.1 b0).b2) (ax fg c1)).bind fun ib=>
         (ei (σ:=Int × (Vector ak 4)) (ε:=(Int × Bool × (Vector ak 4))) eo (fun g7=>
          cond (decide (g7.1 < (((ax aN.1.bm aZ).bx).length:Int))) (
           (idx 4 g7.1).bind fun fm=>
           (yl aN.1 (ax aN.1.bm aZ) g7.1).bind fun jJ=>
           (r9 (bD g7.2 fm) jJ).bind fun oG=>
           (idx 4 g7.1).bind fun hW=>
           some (.inl (bz (g7.1 + 1),cW g7.2 hW oG))) (
           some (.inr (g7.1,decide (g7.1 < (((ax aN.1.bm aZ).bx).length:Int)),g7.2)))) (0,ib)).bind fun cL=>
         (vt br.2.2.2 br.1 cL.2.2).bind fun mf=>
         cond (b8.1 && ((!mf.2) || (mf.1.cH ==((ax br.2.1 b0).cH)))) (
          some (.inr (Sum.inr (mf.2,s2,decide (s2 < (fg.length:Int)),(((ax aN.1.bm aZ).bx).length:Int),cL.1,cL.2.1,b8.1 && ((!mf.2) || (mf.1.cH ==((ax br.2.1 b0).cH))))))) (
          some (.inl (bz (s2 + 1))))) (
         some (.inr (Sum.inl (s2,decide (s2 < (fg.length:Int))))))) 0).bind fun aU=>
        Sum.elim (fun aU=>
         some (.inl (bz (s1.1 + 1),g4.2))) (fun aU=>
        some (.inr (Sum.inr (b8.1,b8.2,cD.2.1,cD.2.2,s1.1,decide (s1.1 < (br.2.1.length:Int)),b8.2 !=0,(cD.2.2 !=0) || (cD.2.1 ==b8.1),g4.2)))) aU)))) (
    some (.inr (Sum.inl (s1.1,decide (s1.1 < (br.2.1.length:Int)),s1.2))))) (0,br.2.2.1))) fun aA=>
   Sum.elim (fun aA=>
    aM.bind (aM.of (Cp)) fun Ie=>
    aM.ret (Ie,br.2.2.2)) (fun aA=>
   aM.ret (false,br.2.2.2)) aA
end Go.Proofs.YtmnggbjcnoffeaaGreat
