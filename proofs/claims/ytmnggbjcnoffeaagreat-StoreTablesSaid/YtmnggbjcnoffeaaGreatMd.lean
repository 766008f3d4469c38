/-
  Each function of the translation as a functional program. Conditions: none.
-/
import Derived.Test.YtmnggbjcnoffeaaGreatMt
set_option linter.unusedVariables false
set_option linter.unusedSimpArgs false
set_option maxRecDepth 100000
namespace Go.Proofs.YtmnggbjcnoffeaaGreat
open Go Gv
def tS (aa:List (BitVec 8)) (aj:Int):Option bf:=
 (uz aa 0 (min (aa.length:Int) aj)).bind fun aB=>
 some ({ (default:bf) with c2:=aB } :bf)
def CO (aa:bf):Option Bool:=
 some (decide (aa.rC < (aa.c2.length:Int)))
def fz (aa:bf) (aj:Int):Option (Int × bf):=
 (CO aa).bind fun aB=>
 cond ((!aB) || (decide (aj < 1))) (
  some (0,aa)) (
  (idx aa.c2.length (bA ((bA (aa.rC + 1)) - 1))).bind fun bj=>
  (s7 ((aI aa.c2 bj).toNat:Int) aj).bind fun aH=>
  some (aH,({ aa with rC:=bA (aa.rC + 1) } :bf)))
def k3 (aa:bf):Option (Bool × bf):=
 (fz aa 2).bind fun aB=>
 some (aB.1 ==1,aB.2)
def yz (aa:bf):Option ((List dy) × bf):=
 (fz aa 4).bind fun aB=>
 (idx (([0,0,65535,3]:List Int).length) aB.1).bind fun bj=>
 (some ({ c6:=({ (default:aA) with b2:=1#64 } :aA),gU:=({ (default:aA) with b2:=15#64 } :aA),o9:=2:gm })).bind fun bL=>
 (some ({ c6:=({ (default:aA) with b2:=2#64 } :aA),gU:=({ (default:aA) with b2:=3#64 } :aA),o9:=3:gm })).bind fun dF=>
 (k3 aB.2).bind fun aH=>
 (cond aH.1 (
  (fz aH.2 2).bind fun cl=>
  (some (({ (default:aA) with b2:=BitVec.ofInt 64 (bA (8 * cl.1)) } :aA))).bind fun jS=>
  (fz cl.2 4).bind fun bg=>
  (idx (([0,0,65535,3]:List Int).length) bg.1).bind fun dv=>
  (some ({ c6:=jS,gU:=({ (default:aA) with b2:=8#64 } :aA),o9:=aI ([0,0,65535,3]:List Int) dv:gm })).bind fun hf=>
  (hQ 40 [bL,dF] [hf]).bind fun fe=>
  some (bg.2,fe)) (
  some (aH.2,[bL,dF]))).bind fun bB=>
 (fz bB.1 4).bind fun bn=>
 (idx (([0,0,65535,3]:List Int).length) bn.1).bind fun bI=>
 (some (({ (default:dy) with bP:=2,hL:=2,gS:=aI ([0,0,65535,3]:List Int) bI } :dy))).bind fun gr=>
 (some (({ (default:dy) with bP:=3,hL:=3,mY:=9,gS:=0 } :dy))).bind fun iq=>
 (fz bn.2 3).bind fun bD=>
 (cond (bD.1 ==1) (
  (fz bD.2 3).bind fun b0=>
  (some ({ c6:=({ (default:aA) with b2:=5#64 } :aA),gU:=({ (default:aA) with b2:=15#64 } :aA),o9:=bA (1 + b0.1):gm })).bind fun kd=>
  some (b0.2,({ iq with ov:= [kd] } :dy))) (
  some (bD.2,iq))).bind fun cL=>
 (some (({ ({ (default:dy) with bP:=1,hL:=1,mY:=4,gS:=aI ([0,0,65535,3]:List Int) bj } :dy) with ov:=bB.2 } :dy))).bind fun g5=>
 some ([g5,gr,cL.2],cL.1)
def yt (aa:bf):Option ((List dO) × bf):=
 (some (({ (default:dO) with bP:=1,cc:=ByteArray.mk #[110,111,112] } :dO))).bind fun bL=>
 (some (({ (default:dO) with bP:=2,cc:=ByteArray.mk #[100,114,111,112],nM:= [({ (default:eR) with hP:=6 } :eR)] } :dO))).bind fun dF=>
 (some ({ cc:=ByteArray.mk #[112,111,114,116],ff:=16:ic })).bind fun gr=>
 (some (({ (default:eR) with hP:=7,kn:=({ (default:fr) with dp:=3 } :fr) } :eR))).bind fun iq=>
 (some (({ (default:dO) with bP:=3,cc:=ByteArray.mk #[102,111,114,119,97,114,100],jX:= [gr],nM:= [iq] } :dO))).bind fun g5=>
 (some ({ hP:=1,jo:=5,kn:=({ (default:fr) with dp:=3 } :fr):eR })).bind fun kd=>
 (some (({ (default:fr) with dp:=2,vr:=5 } :fr))).bind fun jS=>
 (some (({ (default:dO) with bP:=4,cc:=ByteArray.mk #[116,97,103],jX:= [{ cc:=ByteArray.mk #[120],ff:=4:ic }],nM:= [kd,{ hP:=2,jo:=3,kn:=jS:eR }] } :dO))).bind fun hf=>
 (some ([{ cc:=ByteArray.mk #[120],ff:=4:ic },{ cc:=ByteArray.mk #[121],ff:=12:ic }])).bind fun ll=>
 (some ({ hP:=1,jo:=9,kn:=({ (default:fr) with dp:=3 } :fr):eR })).bind fun kQ=>
 (some (({ (default:fr) with dp:=3,vr:=1 } :fr))).bind fun ks=>
 (some ([({ (default:eR) with hP:=4,jo:=3 } :eR),kQ,{ hP:=3,jo:=8,kn:=ks:eR }])).bind fun lM=>
 (some (({ (default:dO) with bP:=5,cc:=ByteArray.mk #[119,114,97,112],jX:=ll,nM:=lM } :dO))).bind fun kt=>
 (fz aa 2).bind fun aB=>
 (some (({ (default:eR) with hP:=5,jo:=bA (2 + aB.1) } :eR))).bind fun kR=>
 (fz aB.2 256).bind fun aH=>
 (some (({ (default:aA) with b2:=BitVec.ofInt 64 aH.1 } :aA))).bind fun n1=>
 (some (({ (default:fr) with dp:=1,c6:=n1 } :fr))).bind fun oK=>
 (some (({ (default:dO) with bP:=6,cc:=ByteArray.mk #[115,116,114,105,112],nM:= [kR,{ hP:=2,jo:=6,kn:=oK:eR }] } :dO))).bind fun mI=>
 (k3 aH.2).bind fun bn=>
 (cond bn.1 (
  (idx ([bL,dF,g5,hf,kt,mI].length) 2).bind fun bI=>
  (some (ea [bL,dF,g5,hf,kt,mI] bI ({ (aI [bL,dF,g5,hf,kt,mI] bI) with p1:=ByteArray.mk #[112,111,114,116,32,33,61,32,48] } :dO))).bind fun qo=>
  some qo) (
  some [bL,dF,g5,hf,kt,mI])).bind fun bB=>
 (k3 bn.2).bind fun bD=>
 (cond bD.1 (
  (idx bB.length 4).bind fun bj=>
  (some (ea bB bj ({ (aI bB bj) with p1:=ByteArray.mk #[120,32,60,32,121,32,124,124,32,120,32,61,61,32,49,53] } :dO))).bind fun rQ=>
  some rQ) (
  some bB)).bind fun cL=>
 some (cL,bD.2)
def yB (aa:bf):Option ((List bQ) × bf):=
 (some ({ cc:=ByteArray.mk #[97],gC:=4,dp:=1:cM })).bind fun bL=>
 (fz aa 2).bind fun aB=>
 (fz aB.2 5).bind fun aH=>
 (some (({ (default:bQ) with bP:=1,cc:=ByteArray.mk #[112,111,114,116,115],cO:= [bL],dP:=([1,2,4]:List Int),gS:=bA (1 + aB.1),gD:=bA (2 + aH.1) } :bQ))).bind fun dF=>
 (some ({ cc:=ByteArray.mk #[100],gC:=7,dp:=2:cM })).bind fun gr=>
 (fz aH.2 6).bind fun bn=>
 (k3 bn.2).bind fun bD=>
 (cond bD.1 (
  (some ({ cc:=ByteArray.mk #[109],gC:=3,dp:=1:cM })).bind fun oK=>
  (hQ 32 [gr] [oK]).bind fun hG=>
  some (({ ({ (default:bQ) with bP:=2,cc:=ByteArray.mk #[114,111,117,116,101,115],dP:=([1,2,3,4]:List Int),gS:=2,gD:=bA (3 + bn.1) } :bQ) with cO:= [] } :bQ),hG)) (
  some (({ (default:bQ) with bP:=2,cc:=ByteArray.mk #[114,111,117,116,101,115],dP:=([1,2,3,4]:List Int),gS:=2,gD:=bA (3 + bn.1) } :bQ),[gr]))).bind fun bB=>
 (some ({ cc:=ByteArray.mk #[101],gC:=6,dp:=3:cM })).bind fun iq=>
 (some ({ cc:=ByteArray.mk #[97],gC:=4,dp:=3:cM })).bind fun g5=>
 (fz bD.2 6).bind fun b0=>
 (k3 b0.2).bind fun cl=>
 (cond cl.1 (
  (some ({ cc:=ByteArray.mk #[98],gC:=5,dp:=1:cM })).bind fun n1=>
  (hQ 32 [iq,g5] [n1]).bind fun jN=>
  some (({ ({ (default:bQ) with bP:=3,cc:=ByteArray.mk #[97,99,108],dP:=([1,2,3,5,6]:List Int),gS:=1,gD:=bA (4 + b0.1) } :bQ) with cO:= [] } :bQ),jN)) (
  some (({ (default:bQ) with bP:=3,cc:=ByteArray.mk #[97,99,108],dP:=([1,2,3,5,6]:List Int),gS:=1,gD:=bA (4 + b0.1) } :bQ),[iq,g5]))).bind fun cL=>
 (some ({ cc:=ByteArray.mk #[102],gC:=8,dp:=4:cM })).bind fun kd=>
 (fz cl.2 5).bind fun bg=>
 (k3 bg.2).bind fun fe=>
 (cond fe.1 (
  (some ({ cc:=ByteArray.mk #[103],gC:=9,dp:=1:cM })).bind fun kt=>
  (some ({ cc:=ByteArray.mk #[100],gC:=7,dp:=2:cM })).bind fun kR=>
  (hQ 32 [kd] [kt,kR]).bind fun fJ=>
  some (({ ({ (default:bQ) with bP:=4,cc:=ByteArray.mk #[115,112,97,110,115],dP:=([1,3,5]:List Int),gS:=3,tP:= [({ (default:aA) with b2:=7#64 } :aA)],gD:=bA (3 + bg.1) } :bQ) with cO:= [] } :bQ),fJ)) (
  some (({ (default:bQ) with bP:=4,cc:=ByteArray.mk #[115,112,97,110,115],dP:=([1,3,5]:List Int),gS:=3,tP:= [({ (default:aA) with b2:=7#64 } :aA)],gD:=bA (3 + bg.1) } :bQ),[kd]))).bind fun fb=>
 (some ([dF,({ bB.1 with cO:=bB.2 } :bQ),({ cL.1 with cO:=cL.2 } :bQ),({ fb.1 with cO:=fb.2 } :bQ)])).bind fun jS=>
 (some ([ByteArray.mk #[],ByteArray.mk #[97,32,33,61,32,48],ByteArray.mk #[97,32,60,32,49,52,32,38,38,32,97,32,33,61,32,51]])).bind fun hf=>
 (some ([ByteArray.mk #[],ByteArray.mk #[100,58,58,112,114,101,102,105,120,95,108,101,110,103,116,104,32,62,61,32,56],ByteArray.mk #[100,58,58,112,114,101,102,105,120,95,108,101,110,103,116,104,32,61,61,32,51,50,32,45,62,32,100,58,58,118,97,108,117,101,32,62,32,48,120,102,102]])).bind fun ll=>
 (some ([ByteArray.mk #[],ByteArray.mk #[112,114,105,111,114,105,116,121,32,60,32,49,48,48,32,38,38,32,40,101,58,58,109,97,115,107,32,33,61,32,48,32,124,124,32,97,58,58,109,97,115,107,32,33,61,32,48,41],ByteArray.mk #[101,58,58,109,97,115,107,32,61,61,32,48,32,45,62,32,112,114,105,111,114,105,116,121,32,62,32,53]])).bind fun kQ=>
 (some ([ByteArray.mk #[],ByteArray.mk #[102,58,58,104,105,103,104,32,45,32,102,58,58,108,111,119,32,60,61,32,48,120,49,48,48],ByteArray.mk #[33,40,102,58,58,108,111,119,32,61,61,32,48,32,38,38,32,102,58,58,104,105,103,104,32,62,32,49,48,48,48,41]])).bind fun ks=>
 (fj (σ:=Int × (List bQ) × bf) (ε:=(Int × Bool × (List bQ) × bf)) fa (fun s1=>
  cond (decide (s1.1 < (jS.length:Int))) (
   (idx ([hf,ll,kQ,ks].length) s1.1).bind fun bj=>
   (fz s1.2.2 3).bind fun b3=>
   (idx ((aI [hf,ll,kQ,ks] bj).length) b3.1).bind fun bI=>
   (idx s1.2.1.length s1.1).bind fun dv=>
   (some (ea s1.2.1 dv ({ (aI s1.2.1 dv) with p1:=aI (aI [hf,ll,kQ,ks] bj) bI } :bQ))).bind fun lM=>
   some (.inl (bA (s1.1 + 1),lM,b3.2))) (
   some (.inr (s1.1,decide (s1.1 < (jS.length:Int)),s1.2.1,s1.2.2)))) (0,jS,fe.2)).bind fun aF=>
 some (aF.2.2.1,aF.2.2.2)
def yL (aa:bf) (aj:List bQ):Option ((List cC) × bf):=
 (fz aa 3).bind fun aB=>
 (fz aB.2 6).bind fun aH=>
 (fz aH.2 6).bind fun bn=>
 (fz bn.2 4).bind fun bD=>
 (fj (σ:=Int × cC × (List dn) × bf × cC × (List dn) × cC × (List dn)) (ε:=(Int × Bool × cC × (List dn) × bf × cC × (List dn) × cC × (List dn))) fa (fun s1=>
  cond (decide (s1.1 < (aj.length:Int))) (
   (idx aj.length s1.1).bind fun bj=>
   (vu (α:=Bool) 1 (((aI aj bj).cO).length:Int)).bind fun b0=>
   (vu (α:=Bool) 1 (((aI aj bj).cO).length:Int)).bind fun cl=>
   (fj (σ:=Int × (List Bool) × (List Bool) × bf) (ε:=(Int × Bool × (List Bool) × (List Bool) × bf)) fa (fun s2=>
    cond (decide (s2.1 < (b0.length:Int))) (
     (fz s2.2.2.2 4).bind fun bg=>
     (idx s2.2.2.1.length s2.1).bind fun bI=>
     (idx s2.2.1.length s2.1).bind fun dv=>
     some (.inl (bA (s2.1 + 1),ea s2.2.1 dv (decide (bg.1 > 0)),ea s2.2.2.1 bI true,bg.2))) (
     some (.inr (s2.1,decide (s2.1 < (b0.length:Int)),s2.2.1,s2.2.2.1,s2.2.2.2)))) (0,cl,b0,s1.2.2.2.1)).bind fun aR=>
   (some ({ bo:=(aI aj bj).bP,rb:=true,qZ:=true,cO:=aR.2.2.2.1:dn })).bind fun bL=>
   (hQ 40 s1.2.2.2.2.2.2.2 [bL]).bind fun fe=>
   (fz aR.2.2.2.2 4).bind fun b3=>
   (cond (decide (b3.1 > 0)) (
    (fz b3.2 4).bind fun iW=>
    (k3 iW.2).bind fun mJ=>
    (some ({ bo:=(aI aj bj).bP,rb:=decide (iW.1 > 0),qZ:=mJ.1,cO:=aR.2.2.1:dn })).bind fun gr=>
    (hQ 40 s1.2.2.2.2.2.1 [gr]).bind fun te=>
    some (mJ.2,({ s1.2.2.2.2.1 with iT:= [] } :cC),te)) (
    some (b3.2,s1.2.2.2.2.1,s1.2.2.2.2.2.1))).bind fun bB=>
   (k3 bB.1).bind fun fJ=>
   (cond fJ.1 (
    (k3 fJ.2).bind fun jN=>
    (k3 jN.2).bind fun hG=>
    (some ({ bo:=(aI aj bj).bP,rb:=jN.1,qZ:=hG.1,cO:=aR.2.2.2.1:dn })).bind fun dF=>
    (hQ 40 s1.2.2.1 [dF]).bind fun h6=>
    some (hG.2,({ s1.2.1 with iT:= [] } :cC),h6)) (
    some (fJ.2,s1.2.1,s1.2.2.1))).bind fun cL=>
   some (.inl (bA (s1.1 + 1),cL.2.1,cL.2.2,cL.1,bB.2.1,bB.2.2,({ s1.2.2.2.2.2.2.1 with iT:= [] } :cC),fe))) (
   some (.inr (s1.1,decide (s1.1 < (aj.length:Int)),s1.2.1,s1.2.2.1,s1.2.2.2.1,s1.2.2.2.2.1,s1.2.2.2.2.2.1,s1.2.2.2.2.2.2.1,s1.2.2.2.2.2.2.2)))) (0,({ (default:cC) with bP:=7,cc:=ByteArray.mk #[102,101,119],dP:= [bA (1 + bn.1)],qY:=bD.1 } :cC),([]:List dn),bD.2,({ (default:cC) with bP:=2,cc:=ByteArray.mk #[115,111,109,101],dP:=([1,2,bA (3 + aB.1)]:List Int),qY:=bA (1 + aH.1) } :cC),([]:List dn),({ (default:cC) with bP:=1,cc:=ByteArray.mk #[97,108,108],dP:=([1,2,3,4,5,6]:List Int),qY:=40,zG:=true } :cC),([]:List dn))).bind fun aF=>
 (some (({ aF.2.2.2.2.2.2.2.1 with iT:=aF.2.2.2.2.2.2.2.2 } :cC))).bind fun iq=>
 (some ([iq,({ aF.2.2.2.2.2.1 with iT:=aF.2.2.2.2.2.2.1 } :cC),({ aF.2.2.1 with iT:=aF.2.2.2.1 } :cC)])).bind fun g5=>
 some (g5,aF.2.2.2.2.1)
def we (aa:bf):Option (a1 × bf):=
 (fz aa 8).bind fun aB=>
 (fz aB.2 30).bind fun aH=>
 (some ({ bP:=1,cc:=ByteArray.mk #[105,110,103,114,101,115,115],ff:=16:fh })).bind fun bL=>
 (some ({ bP:=2,cc:=ByteArray.mk #[101,103,114,101,115,115],ff:=16:fh })).bind fun dF=>
 (some ({ bP:=3,cc:=ByteArray.mk #[109,101,116,97],ff:=8:fh })).bind fun gr=>
 (some ({ bP:=6,cc:=ByteArray.mk #[101],ff:=8:fh })).bind fun iq=>
 (some ({ bP:=7,cc:=ByteArray.mk #[100],ff:=32:fh })).bind fun g5=>
 (some ({ bP:=8,cc:=ByteArray.mk #[102],ff:=12:fh })).bind fun kd=>
 (some ({ bP:=9,cc:=ByteArray.mk #[103],ff:=4:fh })).bind fun jS=>
 (some ([bL,dF,gr,{ bP:=4,cc:=ByteArray.mk #[97],ff:=4:fh },{ bP:=5,cc:=ByteArray.mk #[98],ff:=4:fh },iq,g5,kd,jS])).bind fun hf=>
 (some (({ ({ (default:a1) with zk:=bA (2 + aB.1),zx:=bA (12 + aH.1) } :a1) with gH:=hf } :a1))).bind fun ll=>
 (some ({ bP:=1,cc:=ByteArray.mk #[111,110,101],gH:=([4,5,6]:List Int):jk })).bind fun kQ=>
 (some ({ bP:=2,cc:=ByteArray.mk #[116,119,111],gH:=([7]:List Int):jk })).bind fun ks=>
 (some ({ bP:=3,cc:=ByteArray.mk #[116,104,114,101,101],gH:=([8,9]:List Int):jk })).bind fun lM=>
 (yz aH.2).bind fun bn=>
 (yt bn.2).bind fun bD=>
 (yB bD.2).bind fun b0=>
 (some (({ ({ ll with sv:= [kQ,ks,lM] } :a1) with ue:=bn.1 } :a1))).bind fun kt=>
 (some (({ ({ kt with dP:=bD.1 } :a1) with b1:=b0.1 } :a1))).bind fun kR=>
 (yL b0.2 kR.b1).bind fun cl=>
 (some ([{ bo:=1,hL:=1:ft },{ bo:=2,hL:=2:ft },({ (default:ft) with bo:=3 } :ft),{ bo:=4,hL:=3:ft }])).bind fun n1=>
 (k3 cl.2).bind fun bg=>
 (cond bg.1 (
  (hQ 16 n1 [({ (default:ft) with bo:=1 } :ft)]).bind fun iW=>
  some iW) (
  some n1)).bind fun bB=>
 (k3 bg.2).bind fun fe=>
 (cond fe.1 (
  (some (({ (default:eS) with bo:=2,jm:=4,o4:=1 } :eS))).bind fun IJ=>
  (hQ 48 ([]:List eS) [IJ]).bind fun h6=>
  some (({ ({ ({ kR with nI:=cl.1 } :a1) with mZ:= [] } :a1) with nN:= [] } :a1),h6)) (
  some (({ ({ kR with nI:=cl.1 } :a1) with mZ:= [] } :a1),([]:List eS)))).bind fun cL=>
 (k3 fe.2).bind fun b3=>
 (dd b3.1 true (idx cL.1.b1.length 2)).bind fun bj=>
 (cond (b3.1 && ((((aI cL.1.b1 bj).cO).length:Int) ==3)) (
  (some (({ (default:eS) with bo:=3,uQ:=2,o4:=1 } :eS))).bind fun qo=>
  (hQ 48 cL.2 [qo]).bind fun hG=>
  some (({ cL.1 with nN:= [] } :a1),hG)) (
  some (cL.1,cL.2))).bind fun fb=>
 (k3 b3.2).bind fun fJ=>
 (dd fJ.1 true (idx fb.1.b1.length 3)).bind fun bI=>
 (cond (fJ.1 && ((((aI fb.1.b1 bI).cO).length:Int) ==3)) (
  (some (({ (default:eS) with bo:=4,uQ:=1,o4:=1 } :eS))).bind fun mI=>
  (some (({ (default:eS) with bo:=4,jm:=5,o4:=1 } :eS))).bind fun rQ=>
  (hQ 48 fb.2 [mI,rQ]).bind fun jN=>
  some (({ fb.1 with nN:= [] } :a1),jN)) (
  some (fb.1,fb.2))).bind fun oS=>
 (some (({ ({ oS.1 with mZ:=bB } :a1) with nN:=oS.2 } :a1))).bind fun oK=>
 some (oK,fJ.2)
def CF (aa:bQ) (aj:Int):Option Bool:=
 some (aa.bP ==aj)
def yh (aa:List bQ) (aj:bQ→Option Bool):Option Int:=
 (fj (σ:=Int) (ε:=(Int × Bool) ⊕ (Int × Int × Int × Bool × Bool)) fa (fun s1=>
  cond (decide (s1 < (aa.length:Int))) (
   (idx aa.length s1).bind fun bj=>
   (aj (aI aa bj)).bind fun aB=>
   cond aB (
    some (.inr (Sum.inr (s1,s1,s1,decide (s1 < (aa.length:Int)),aB)))) (
    some (.inl (bA (s1 + 1))))) (
   some (.inr (Sum.inl (s1,decide (s1 < (aa.length:Int))))))) 0).bind fun aF=>
  Sum.elim (fun aF=>
   some (-1)) (fun aF=>
  some aF.1) aF
def tM (aa:a1) (aj:Int):Option Int:=
 (yh aa.b1 (fun h7=>CF h7 aj)).bind fun aB=>
 some aB
def wC (aa:bQ):Option (Int × Int):=
 (fj (σ:=Int × Int × Int) (ε:=(Int × Int × Int × Bool)) fa (fun s1=>
  cond (decide (s1.2.2 < (aa.cO.length:Int))) (
   (idx aa.cO.length s1.2.2).bind fun bj=>
   (cond (((aI aa.cO bj).dp) ==1) (
    some (s1.1,s1.2.1)) (
    (cond (((aI aa.cO bj).dp) ==2) (
     some (max s1.1 2,s1.2.2)) (
     some (3,s1.2.1))).bind fun cL=>
    some (cL.1,cL.2))).bind fun bB=>
   some (.inl (bB.1,bB.2,bA (s1.2.2 + 1)))) (
   some (.inr (s1.1,s1.2.1,s1.2.2,decide (s1.2.2 < (aa.cO.length:Int)))))) (1,0,0)).bind fun aF=>
 some (aF.1,aF.2.1)
def C1 (hp:aN Cell):aq (Ref × (aN Cell)):=
 aq.bind (aq.mk hp (Cell.nf ([]:List ((Vector aA 4) × Int)))) fun cN=>
 aq.bind (aq.mk cN.2 (Cell.xr ({ nQ:=(⟨some cN.1⟩:e2):mn }))) fun cF=>
 aq.ret ((some cF.1:Ref),cF.2)
def CG (aa:fh) (aj:Int):Option Bool:=
 some (aa.bP ==aj)
def yi (aa:List fh) (aj:fh→Option Bool):Option Int:=
 (fj (σ:=Int) (ε:=(Int × Bool) ⊕ (Int × Int × Int × Bool × Bool)) fa (fun s1=>
  cond (decide (s1 < (aa.length:Int))) (
   (idx aa.length s1).bind fun bj=>
   (aj (aI aa bj)).bind fun aB=>
   cond aB (
    some (.inr (Sum.inr (s1,s1,s1,decide (s1 < (aa.length:Int)),aB)))) (
    some (.inl (bA (s1 + 1))))) (
   some (.inr (Sum.inl (s1,decide (s1 < (aa.length:Int))))))) 0).bind fun aF=>
  Sum.elim (fun aF=>
   some (-1)) (fun aF=>
  some aF.1) aF
def yY (aa:a1) (aj:Int):Option Int:=
 (yi aa.gH (fun h7=>CG h7 aj)).bind fun aB=>
 some aB
def F0 (aa:a1):Option c9:=
 some ({ ({ (default:c9) with o5:=aa } :c9) with c2:=([]:List aw) } :c9)
def wN (hp:aN Cell) (aa:a1) (aj:Int):aq (Ref × (aN Cell)):=
 aq.bind (aq.of (tM aa aj)) fun aB=>
 cond (decide (aB < 0)) (
  aq.ret ((none:Ref),hp)) (
  aq.bind (aq.of (idx aa.b1.length aB)) fun bj=>
  aq.bind (aq.of (wC (aI aa.b1 bj))) fun aH=>
  aq.bind (aq.mk hp (Cell.jI ([]:List (Int × aw)))) fun cN=>
  aq.bind (aq.of (some (({ (default:gx) with q5:=aH.1,q6:=(((aI aa.b1 bj).cO).length:Int),jl:=(⟨some cN.1⟩:e2) } :gx)))) fun bL=>
  aq.bind (aq.mk cN.2 (Cell.mA bL)) fun cF=>
  aq.bind (cond (aH.1 ==1) (
    aq.bind (C1 cF.2) fun bn=>
    aq.bind (aq.of (hg bn.2 cF.1)) fun bq=>
    aq.bind (aq.of (some (cT bn.2 cF.1 (Cell.mA ({ bq with iB:=(gw.mB ({ qn:=bn.1:jW })) } :gx))))) fun cw=>
    aq.ret cw) (
    aq.bind (cond (aH.1 ==2) (
      aq.bind (aq.of (idx (((aI aa.b1 bj).cO).length) aH.2)) fun bI=>
      aq.bind (aq.of (yY aa ((aI ((aI aa.b1 bj).cO) bI).gC))) fun bD=>
      aq.bind (aq.of (cond (decide (bD≥0)) (
        (idx aa.gH.length bD).bind fun dv=>
        some ((aI aa.gH dv).ff)) (
        some 0))) fun fb=>
      aq.bind (aq.mk cF.2 (Cell.k7 ([]:List ((Vector aA 4) × Ref)))) fun fL=>
      aq.bind (aq.of (some ({ rh:=aH.2,fA:=fb,nH:=(⟨some fL.1⟩:e2):gA }))) fun dF=>
      aq.bind (aq.of (hg fL.2 cF.1)) fun cg=>
      aq.bind (aq.of (some (cT fL.2 cF.1 (Cell.mA ({ cg with iB:=(gw.mC dF) } :gx))))) fun cJ=>
      aq.ret cJ) (
      aq.bind (aq.of (F0 aa)) fun b0=>
      aq.bind (aq.any (Option Nat × Nat)) fun cr=>
      aq.bind (aq.mk cF.2 (Cell.qj b0 cr.1 cr.2)) fun jb=>
      aq.bind (aq.of (hg jb.2 cF.1)) fun fc=>
      aq.bind (aq.of (some (cT jb.2 cF.1 (Cell.mA ({ fc with iB:=(gw.mD ({ c2:=(some jb.1:Ref):jj })) } :gx))))) fun gM=>
      aq.ret gM)) fun cL=>
    aq.ret cL)) fun bB=>
  aq.ret ((some cF.1:Ref),bB))
def wO (hp:aN Cell) (aa:a1):aq (Ref × (aN Cell)):=
 aq.bind (aq.mk hp (Cell.oF ([]:List (Int × Ref)))) fun cN=>
 aq.bind (aq.of (some ({ gB:=aa,ot:=(⟨some cN.1⟩:e2),lx:=1:ib }))) fun bL=>
 aq.bind (aq.mk cN.2 (Cell.pj bL)) fun cF=>
 aq.bind (aq.of (jG cF.2 cF.1)) fun bq=>
 aq.bind (my (σ:=Int × (aN Cell)) (ε:=(Int × Bool × (aN Cell))) fa (fun s1=>
   cond (decide (s1.1 < (bq.gB.b1.length:Int))) (
    aq.bind (aq.of (idx bq.gB.b1.length s1.1)) fun bj=>
    aq.bind (aq.of (jG s1.2 cF.1)) fun jR=>
    aq.bind (wN s1.2 aa ((aI bq.gB.b1 bj).bP)) fun aB=>
    aq.bind (aq.of (Bl (jG aB.2 cF.1=some jR))) fun abA=>
    aq.bind (aq.of (jR.ot.p)) fun b6=>
    aq.bind (aq.of (l3 aB.2 b6)) fun lT=>
    aq.bind (aq.of (some (cT aB.2 b6 (Cell.oF (fB lT ((aI bq.gB.b1 bj).bP) aB.1))))) fun cw=>
    aq.ret (.inl (bA (s1.1 + 1),cw))) (
    aq.ret (.inr (s1.1,decide (s1.1 < (bq.gB.b1.length:Int)),s1.2)))) (0,cF.2)) fun aF=>
 aq.ret ((some cF.1:Ref),aF.2.2)
def yy (aa:bf):Option Bool:=
 some (decide (aa.rC < (aa.c2.length:Int)))
def wM (aa:Int) (aj:Int):Option Int:=
 cond (decide (aj < 1)) (
  some 0) (
  (s7 aa aj).bind fun aB=>
  (s7 (bA (aB + aj)) aj).bind fun aH=>
  some aH)
def y8 (aa:a1) (aj:Int):Option Int:=
 (fj (σ:=Int) (ε:=(Int × Bool) ⊕ (Int × Int × Bool × Bool)) fa (fun s1=>
  cond (decide (s1 < (aa.gH.length:Int))) (
   (idx aa.gH.length s1).bind fun bj=>
   cond (((aI aa.gH bj).bP) ==aj) (
    some (.inr (Sum.inr ((aI aa.gH bj).ff,s1,decide (s1 < (aa.gH.length:Int)),((aI aa.gH bj).bP) ==aj)))) (
    some (.inl (bA (s1 + 1))))) (
   some (.inr (Sum.inl (s1,decide (s1 < (aa.gH.length:Int))))))) 0).bind fun aF=>
  Sum.elim (fun aF=>
   some 0) (fun aF=>
  some aF.1) aF
def tT (aa:aA) (aj:Int):Option aA:=
 cond (decide (aj≥128)) (
  some aa) (
  cond (decide (aj≥64)) (
   (some (aa.de &&& (((1#64) <<< (BitVec.ofInt 64 (bA (aj - 64))).toNat) - (1#64)))).bind fun bL=>
   some ({ de:=bL,b2:=aa.b2:aA })) (
   cond (decide (aj≤0)) (
    some (default:aA)) (
    (some (({ (default:aA) with b2:=aa.b2 &&& (((1#64) <<< (BitVec.ofInt 64 aj).toNat) - (1#64)) } :aA))).bind fun dF=>
    some dF)))
def CY (aa:Int) (aj:Int):Option aA:=
 (some ((((1#64) <<< (BitVec.ofInt 64 aa).toNat) - (1#64)) - (((1#64) <<< (BitVec.ofInt 64 (bA (aa - aj))).toNat) - (1#64)))).bind fun bL=>
 some ({ (default:aA) with b2:=bL } :aA)
def yH (aa:bf) (aj:a1) (aT:cM):Option (bR × bf):=
 (y8 aj aT.gC).bind fun aB=>
 (fz aa 256).bind fun aH=>
 (fz aH.2 16).bind fun bn=>
 (some (((BitVec.ofInt 64 aH.1) <<< (24#64).toNat) ||| ((BitVec.ofInt 64 bn.1) <<< (8#64).toNat))).bind fun bL=>
 (fz bn.2 16).bind fun bD=>
 (some (({ (default:aA) with b2:=bL ||| (BitVec.ofInt 64 bD.1) } :aA))).bind fun dF=>
 (tT dF aB).bind fun b0=>
 cond (aT.dp ==2) (
  (fz bD.2 5).bind fun cl=>
  cond (decide (cl.1 > 0)) (
   (fz cl.2 aB).bind fun bg=>
   (fz bg.2 5).bind fun fe=>
   (idx ([aB,8,16,1,bA (1 + bg.1)].length) fe.1).bind fun bj=>
   (CY aB (aI [aB,8,16,1,bA (1 + bg.1)] bj)).bind fun b3=>
   (some (({ (default:aA) with b2:=b0.b2 &&& b3.b2 } :aA))).bind fun gr=>
   (some (({ (default:bR) with fO:=true,fU:=aI [aB,8,16,1,bA (1 + bg.1)] bj,c6:=gr } :bR))).bind fun iq=>
   some (iq,fe.2)) (
   some ((default:bR),cl.2))) (
  cond (aT.dp ==3) (
   (fz bD.2 256).bind fun fJ=>
   (fz fJ.2 5).bind fun jN=>
   (idx (([255,15,1,12,fJ.1]:List Int).length) jN.1).bind fun bI=>
   (some (({ (default:aA) with b2:=BitVec.ofInt 64 (aI ([255,15,1,12,fJ.1]:List Int) bI) } :aA))).bind fun g5=>
   (tT g5 aB).bind fun hG=>
   cond (hG.b2 !=(0#64)) (
    (some (({ (default:aA) with b2:=b0.b2 &&& hG.b2 } :aA))).bind fun kd=>
    (some (({ (default:bR) with fO:=true,gU:=hG,c6:=kd } :bR))).bind fun jS=>
    some (jS,jN.2)) (
    some ((default:bR),jN.2))) (
   cond (aT.dp ==4) (
    (fz bD.2 256).bind fun h6=>
    (some (vf (b0.b2 + (BitVec.ofInt 64 h6.1)) (((1#64) <<< (BitVec.ofInt 64 aB).toNat) - (1#64)))).bind fun hf=>
    (fz h6.2 5).bind fun iW=>
    (some ((decide (iW.1 > 0)) && (!((b0.b2 ==(0#64)) && (hf ==(((1#64) <<< (BitVec.ofInt 64 aB).toNat) - (1#64))))))).bind fun ll=>
    cond ll (
     (some (({ (default:bR) with fO:=true,c6:=b0,k4:=({ (default:aA) with b2:=hf } :aA) } :bR))).bind fun kQ=>
     some (kQ,iW.2)) (
     some ((default:bR),iW.2))) (
    (some (({ (default:bR) with fO:=true,c6:=b0 } :bR))).bind fun ks=>
    some (ks,bD.2))))
def yW (aa:a1) (aj:Int):Option dO:=
 (fj (σ:=Int) (ε:=(Int × Bool) ⊕ (Int × Bool × Bool × dO)) fa (fun s1=>
  cond (decide (s1 < (aa.dP.length:Int))) (
   (idx aa.dP.length s1).bind fun bj=>
   cond (((aI aa.dP bj).bP) ==aj) (
    some (.inr (Sum.inr (s1,decide (s1 < (aa.dP.length:Int)),((aI aa.dP bj).bP) ==aj,(aI aa.dP bj))))) (
    some (.inl (bA (s1 + 1))))) (
   some (.inr (Sum.inl (s1,decide (s1 < (aa.dP.length:Int))))))) 0).bind fun aF=>
  Sum.elim (fun aF=>
   some (default:dO)) (fun aF=>
  some aF.2.2.2) aF
def yI (aa:bf) (aj:a1) (aT:Int):Option (bh × bf):=
 (wM aT (aj.b1.length:Int)).bind fun aB=>
 (idx aj.b1.length aB).bind fun bj=>
 (fj (σ:=Int × bh × (List bR) × bf) (ε:=(Int × Bool × bh × (List bR) × bf)) fa (fun s1=>
  cond (decide (s1.1 < (((aI aj.b1 bj).cO).length:Int))) (
   (idx (((aI aj.b1 bj).cO).length) s1.1).bind fun bI=>
   (yH s1.2.2.2 aj (aI ((aI aj.b1 bj).cO) bI)).bind fun aH=>
   (hQ 64 s1.2.2.1 [aH.1]).bind fun bn=>
   (some ((((aI ((aI aj.b1 bj).cO) bI).dp) ==3) || (((aI ((aI aj.b1 bj).cO) bI).dp) ==4))).bind fun bL=>
   (cond bL (
    (fz aH.2 5).bind fun bD=>
    (some (({ ({ s1.2.1 with cZ:= [] } :bh) with g8:=bA (1 + bD.1) } :bh))).bind fun dF=>
    some (dF,bD.2)) (
    some (({ s1.2.1 with cZ:= [] } :bh),aH.2))).bind fun bB=>
   some (.inl (bA (s1.1 + 1),bB.1,bn,bB.2))) (
   some (.inr (s1.1,decide (s1.1 < (((aI aj.b1 bj).cO).length:Int)),s1.2.1,s1.2.2.1,s1.2.2.2)))) (0,({ (default:bh) with bo:=(aI aj.b1 bj).bP } :bh),([]:List bR),aa)).bind fun aF=>
 (fz aF.2.2.2.2 (((aI aj.b1 bj).dP).length:Int)).bind fun b0=>
 (idx (((aI aj.b1 bj).dP).length) b0.1).bind fun dv=>
 (some (({ aF.2.2.1 with jm:=aI ((aI aj.b1 bj).dP) dv } :bh))).bind fun gr=>
 (yW aj gr.jm).bind fun cl=>
 (fj (σ:=Int × bh × (List aA) × bf) (ε:=(Int × Bool × bh × (List aA) × bf)) fa (fun s2=>
  cond (decide (s2.1 < (cl.jX.length:Int))) (
   (idx cl.jX.length s2.1).bind fun ht=>
   (fz s2.2.2.2 256).bind fun bg=>
   (some (({ (default:aA) with b2:=BitVec.ofInt 64 bg.1 } :aA))).bind fun iq=>
   (tT iq ((aI cl.jX ht).ff)).bind fun fe=>
   (hQ 16 s2.2.2.1 [fe]).bind fun b3=>
   some (.inl (bA (s2.1 + 1),({ s2.2.1 with h0:= [] } :bh),b3,bg.2))) (
   some (.inr (s2.1,decide (s2.1 < (cl.jX.length:Int)),s2.2.1,s2.2.2.1,s2.2.2.2)))) (0,gr,([]:List aA),b0.2)).bind fun aR=>
 (some (({ ({ aR.2.2.1 with cZ:=aF.2.2.2.1 } :bh) with h0:=aR.2.2.2.1 } :bh))).bind fun g5=>
 some (g5,aR.2.2.2.2)
def nE (hp:aN Cell) (aa:Ref) (aj:Int):Option Ref:=
 cond aa.isNone (
  some (none:Ref)) (
  (aa).bind fun b6=>
  (jG hp b6).bind fun bq=>
  (bq.ot.p).bind fun bZ=>
  (l3 hp bZ).bind fun cg=>
  (some ((dI cg aj).getD default)).bind fun bL=>
  some bL)
def Co (aa:List bR):Option (List bR):=
 (hQ 64 ([]:List bR) aa).bind fun aB=>
 some aB
def Cp (aa:List aA):Option (List aA):=
 (hQ 16 ([]:List aA) aa).bind fun aB=>
 some aB
def C2 (aa:bh):Option bh:=
 (Co aa.cZ).bind fun aB=>
 (Cp aa.h0).bind fun aH=>
 (some (({ ({ aa with cZ:=aB } :bh) with h0:=aH } :bh))).bind fun bL=>
 some bL
def o3 (aa:aw):Option aw:=
 (C2 aa.bV).bind fun aB=>
 some ({ aa with bV:=aB } :aw)
def F1 (aa:BitVec 64):Option Int:=
 (cond (decide (aa≥ (4294967296#64))) (
  some (aa >>> (32#64).toNat,32)) (
  some (aa,0))).bind fun bB=>
 (cond (decide (bB.1≥ (65536#64))) (
  some (bB.1 >>> (16#64).toNat,bA (bB.2 + 16))) (
  some (bB.1,bB.2))).bind fun cL=>
 (cond (decide (cL.1≥ (256#64))) (
  some (cL.1 >>> (8#64).toNat,bA (cL.2 + 8))) (
  some (cL.1,cL.2))).bind fun fb=>
 (Iq (ByteArray.mk (List.toArray (List.append (List.append [0,1,2,2,3,3,3,3,4,4,4,4,4,4,4,4,5,5,5,5,5,5,5,5,5,5,5,5,5,5,5,5,6,6,6,6,6,6,6,6,6,6,6,6,6,6,6,6,6,6,6,6,6,6,6,6,6,6,6,6,6,6,6,6] [7,7,7,7,7,7,7,7,7,7,7,7,7,7,7,7,7,7,7,7,7,7,7,7,7,7,7,7,7,7,7,7,7,7,7,7,7,7,7,7,7,7,7,7,7,7,7,7,7,7,7,7,7,7,7,7,7,7,7,7,7,7,7,7]) (List.append [8,8,8,8,8,8,8,8,8,8,8,8,8,8,8,8,8,8,8,8,8,8,8,8,8,8,8,8,8,8,8,8,8,8,8,8,8,8,8,8,8,8,8,8,8,8,8,8,8,8,8,8,8,8,8,8,8,8,8,8,8,8,8,8] [8,8,8,8,8,8,8,8,8,8,8,8,8,8,8,8,8,8,8,8,8,8,8,8,8,8,8,8,8,8,8,8,8,8,8,8,8,8,8,8,8,8,8,8,8,8,8,8,8,8,8,8,8,8,8,8,8,8,8,8,8,8,8,8])))) ((fb.1.setWidth 8).toNat:Int)).bind fun aB=>
 some (bA (fb.2 + (aB.toNat:Int)))
def yZ (aa:BitVec 64):Option Int:=
 (F1 aa).bind fun aB=>
 some aB
def yc (aa:List aw) (aj:Int) (aT:Int) (cG:aw→aw→Option Int):Option (List aw):=
 (fj (σ:=Int × (List aw)) (ε:=(Int × Bool × (List aw))) fa (fun s1=>
  cond (decide (s1.1 < aT)) (
   (fj (σ:=Int × (List aw)) (ε:=(Int × Bool × (List aw))) fa (fun s2=>
    (dd (decide (s2.1 > aj)) true (idx s2.2.length s2.1)).bind fun bj=>
    (dd (decide (s2.1 > aj)) true (idx s2.2.length (bA (s2.1 - 1)))).bind fun bI=>
    (dd (decide (s2.1 > aj)) true (cG (aI s2.2 bj) (aI s2.2 bI))).bind fun aB=>
    cond ((decide (s2.1 > aj)) && (decide (aB < 0))) (
     (idx s2.2.length (bA (s2.1 - 1))).bind fun dv=>
     (idx s2.2.length s2.1).bind fun ht=>
     (idx s2.2.length s2.1).bind fun jT=>
     (idx ((ea s2.2 jT (aI s2.2 dv)).length) (bA (s2.1 - 1))).bind fun oT=>
     some (.inl (bA (s2.1 - 1),ea (ea s2.2 jT (aI s2.2 dv)) oT (aI s2.2 ht)))) (
     some (.inr (s2.1,(decide (s2.1 > aj)) && (decide (aB < 0)),s2.2)))) (s1.1,s1.2)).bind fun aR=>
   some (.inl (bA (s1.1 + 1),aR.2.2))) (
   some (.inr (s1.1,decide (s1.1 < aT),s1.2)))) (bA (aj + 1),aa)).bind fun aF=>
 some aF.2.2
def Cl (aa:List aw) (aj:Int) (aT:Int) (cG:Int) (Fh:aw→aw→Option Int):Option (List aw):=
 (fj (σ:=Unit) (ε:=(Int × Bool × (List aw))) fa (fun s1=>
  cond (decide ((bA (aT - aj))≤12)) (
   (ql aa.length (yc aa aj aT Fh)).bind fun aB=>
   some (.inr (bA (aT - aj),decide ((bA (aT - aj))≤12),aB))) (
   none)) ()).bind fun aF=>
 some aF.2.2
def ye (aa:List aw) (aj:aw→aw→Option Int):Option (List aw):=
 (yZ (BitVec.ofInt 64 (aa.length:Int))).bind fun aB=>
 (ql aa.length (Cl aa 0 (aa.length:Int) aB aj)).bind fun aH=>
 some aH
def y0 (aa:Int):Option Bool:=
 some (aa !=aa)
def oi (aa:Int) (aj:Int):Option Int:=
 (y0 aa).bind fun aB=>
 (y0 aj).bind fun aH=>
 cond aB (
  cond aH (
   some 0) (
   some (-1))) (
  cond aH (
   some 1) (
   cond (decide (aa < aj)) (
    some (-1)) (
    cond (decide (aa > aj)) (
     some 1) (
     some 0))))
def yf (aa:List bR) (aj:List bR) (aT:bR→bR→Option Int):Option Int:=
 (fj (σ:=Int) (ε:=(Int × Bool) ⊕ (Int × Int × Int × Bool × Bool)) fa (fun s1=>
  cond (decide (s1 < (aa.length:Int))) (
   (idx aa.length s1).bind fun bj=>
   cond (decide (s1≥ (aj.length:Int))) (
    some (.inr (Sum.inr (1,s1,s1,decide (s1 < (aa.length:Int)),decide (s1≥ (aj.length:Int)))))) (
    (idx aj.length s1).bind fun bI=>
    (aT (aI aa bj) (aI aj bI)).bind fun aB=>
    cond (aB !=0) (
     some (.inr (Sum.inr (aB,s1,s1,decide (s1 < (aa.length:Int)),decide (s1≥ (aj.length:Int)))))) (
     some (.inl (bA (s1 + 1)))))) (
   some (.inr (Sum.inl (s1,decide (s1 < (aa.length:Int))))))) 0).bind fun aF=>
  Sum.elim (fun aF=>
   cond (decide ((aa.length:Int) < (aj.length:Int))) (
    some (-1)) (
    some 0)) (fun aF=>
  some aF.1) aF
def yg (aa:List aA) (aj:List aA) (aT:aA→aA→Option Int):Option Int:=
 (fj (σ:=Int) (ε:=(Int × Bool) ⊕ (Int × Int × Int × Bool × Bool)) fa (fun s1=>
  cond (decide (s1 < (aa.length:Int))) (
   (idx aa.length s1).bind fun bj=>
   cond (decide (s1≥ (aj.length:Int))) (
    some (.inr (Sum.inr (1,s1,s1,decide (s1 < (aa.length:Int)),decide (s1≥ (aj.length:Int)))))) (
    (idx aj.length s1).bind fun bI=>
    (aT (aI aa bj) (aI aj bI)).bind fun aB=>
    cond (aB !=0) (
     some (.inr (Sum.inr (aB,s1,s1,decide (s1 < (aa.length:Int)),decide (s1≥ (aj.length:Int)))))) (
     some (.inl (bA (s1 + 1)))))) (
   some (.inr (Sum.inl (s1,decide (s1 < (aa.length:Int))))))) 0).bind fun aF=>
  Sum.elim (fun aF=>
   cond (decide ((aa.length:Int) < (aj.length:Int))) (
    some (-1)) (
    some 0)) (fun aF=>
  some aF.1) aF
def qS (aa:List Int):Option Int:=
 (fj (σ:=Int) (ε:=(Int × Bool) ⊕ (Int × Int × Int × Bool × Bool)) fa (fun s1=>
  cond (decide (s1 < (aa.length:Int))) (
   (idx aa.length s1).bind fun bj=>
   cond ((aI aa bj) !=0) (
    some (.inr (Sum.inr (aI aa bj,aI aa bj,s1,decide (s1 < (aa.length:Int)),(aI aa bj) !=0)))) (
    some (.inl (bA (s1 + 1))))) (
   some (.inr (Sum.inl (s1,decide (s1 < (aa.length:Int))))))) 0).bind fun aF=>
  Sum.elim (fun aF=>
   some 0) (fun aF=>
  some aF.1) aF
def wx (aa:bR):Option Int:=
 cond aa.fO (
  some 1) (
  some 0)
def so (aa:aA) (aj:aA):Option Int:=
 cond (decide (aa=aj)) (
  some 0) (
  (some ((decide (aa.de < aj.de)) || ((aa.de ==aj.de) && (decide (aa.b2 < aj.b2))))).bind fun bL=>
  cond bL (
   some (-1)) (
   some 1))
def yD (aa:bR) (aj:bR):Option Int:=
 cond (decide (aa=aj)) (
  some 0) (
  (wx aa).bind fun aB=>
  (wx aj).bind fun aH=>
  (oi aB aH).bind fun bn=>
  (so aa.c6 aj.c6).bind fun bD=>
  (so aa.gU aj.gU).bind fun b0=>
  (oi aa.fU aj.fU).bind fun cl=>
  (so aa.k4 aj.k4).bind fun bg=>
  (qS [bn,bD,b0,cl,bg]).bind fun fe=>
  some fe)
def y4 (aa:bh) (aj:bh):Option Int:=
 (oi aa.bo aj.bo).bind fun aB=>
 (oi aj.g8 aa.g8).bind fun aH=>
 (yf aa.cZ aj.cZ yD).bind fun bn=>
 (oi aa.jm aj.jm).bind fun bD=>
 (yg aa.h0 aj.h0 so).bind fun b0=>
 (qS [aB,aH,bn,bD,b0]).bind fun cl=>
 some cl
def Cz (aa:aw) (aj:aw):Option Int:=
 (y4 aa.bV aj.bV).bind fun aB=>
 some aB
def wu (hp:aN Cell) (aa:Ref):aq ((List aw) × (aN Cell)):=
 cond aa.isNone (
  aq.ret (([]:List aw),hp)) (
  aq.bind (aq.of (aa)) fun b6=>
  aq.bind (aq.of (hg hp b6)) fun bq=>
  aq.bind (aq.of (bq.jl.p)) fun bZ=>
  aq.bind (aq.of (j0 hp bZ)) fun cg=>
  aq.bind (my (σ:=(List Nat) × (List aw)) (ε:=(Bool × (List Nat) × (List aw))) fa (fun s1=>
    aq.bind (aq.next cg.length s1.1) fun pP=>
    cond pP.isSome (
     aq.bind (aq.of (pP)) fun bj=>
     aq.bind (aq.of (o3 ((aI cg bj).2))) fun aB=>
     aq.bind (aq.of (hQ 88 s1.2 [aB])) fun aH=>
     aq.ret (.inl ((s1.1 ++ pP.toList),aH))) (
     aq.ret (.inr (pP.isSome,(s1.1 ++ pP.toList),s1.2)))) (([]:List Nat),([]:List aw))) fun aF=>
  aq.bind (aq.of (ql aF.2.2.length (ye aF.2.2 Cz))) fun bn=>
  aq.ret (bn,hp))
def wh (hp:aN Cell) (aa:Ref) (aj:Int):aq ((List aw) × (aN Cell)):=
 aq.bind (aq.of (nE hp aa aj)) fun aB=>
 aq.bind (wu hp aB) fun aH=>
 aq.ret (aH.1,aH.2)
def sq (aa:bh):Option (Vector aA 4):=
 (uz aa.cZ 0 (min (aa.cZ.length:Int) 4)).bind fun aB=>
 (fj (σ:=Int × (Vector aA 4)) (ε:=(Int × Bool × (Vector aA 4))) fa (fun s1=>
  cond (decide (s1.1 < (aB.length:Int))) (
   (idx aB.length s1.1).bind fun bj=>
   (idx 4 s1.1).bind fun bI=>
   some (.inl (bA (s1.1 + 1),h2 s1.2 bI ((aI aB bj).c6)))) (
   some (.inr (s1.1,decide (s1.1 < (aB.length:Int)),s1.2)))) (0,(default:Vector aA 4))).bind fun aF=>
 some aF.2.2
def wm (hp:aN Cell) (aa:Ref) (aj:Vector aA 4):Option (Int × Bool):=
 cond aa.isNone (
  some (0,false)) (
  (aa).bind fun b6=>
  (mz hp b6).bind fun bq=>
  (bq.nQ.p).bind fun bZ=>
  (lC hp bZ).bind fun cg=>
  (some (dI cg aj)).bind fun bL=>
  some (bL.getD default,bL.isSome))
def yM (hp:aN Cell) (aa:jW) (aj:bh):Option (Int × Bool):=
 (sq aj).bind fun aB=>
 (wm hp aa.qn aB).bind fun aH=>
 some (aH.1,aH.2)
def Cu (aa:gA) (aj:Vector aA 4):Option ((Vector aA 4) × aA):=
 (idx 4 aa.rh).bind fun bj=>
 (idx 4 aa.rh).bind fun bI=>
 some ((h2 aj bI (default:aA)),(b7 aj bj))
def tF (aa:gA) (aj:bh):Option ((Vector aA 4) × aA × Int):=
 (sq aj).bind fun aB=>
 (Cu aa aB).bind fun aH=>
 cond (decide (aa.rh≥ (aj.cZ.length:Int))) (
  some (aH.1,aH.2,0)) (
  (idx aj.cZ.length aa.rh).bind fun bj=>
  some (aH.1,aH.2,(aI aj.cZ bj).fU))
def wE (aa:Int):Option Int:=
 some (min (max 0 aa) 128)
def wG (aa:aA) (aj:Int):Option aA:=
 cond (decide (aj≤0)) (
  some aa) (
  cond (decide (aj≥64)) (
   (some (({ (default:aA) with b2:=aa.de >>> (BitVec.ofInt 64 (bA (aj - 64))).toNat } :aA))).bind fun bL=>
   some bL) (
   (some ((aa.b2 >>> (BitVec.ofInt 64 aj).toNat) ||| (aa.de <<< (BitVec.ofInt 64 (bA (64 - aj))).toNat))).bind fun dF=>
   (some ({ de:=aa.de >>> (BitVec.ofInt 64 aj).toNat,b2:=dF:aA })).bind fun gr=>
   some gr))
def wJ (aa:Int):Option aA:=
 (some ({ de:=18446744073709551615#64,b2:=18446744073709551615#64:aA })).bind fun bL=>
 (wE aa).bind fun aB=>
 (wG bL (bA (128 - aB))).bind fun aH=>
 some aH
def zi (aa:aA) (aj:aA):Option aA:=
 (some ({ de:=aa.de ^^^ aj.de,b2:=aa.b2 ^^^ aj.b2:aA })).bind fun bL=>
 some bL
def y3 (aa:Int) (aj:Int):Option aA:=
 (wE aa).bind fun aB=>
 (wJ aB).bind fun aH=>
 (wJ (bA (aB - (min (max 0 aj) aB)))).bind fun bn=>
 (zi aH bn).bind fun bD=>
 some bD
def C3 (aa:aA) (aj:aA):Option aA:=
 (some ({ de:=aa.de &&& aj.de,b2:=aa.b2 &&& aj.b2:aA })).bind fun bL=>
 some bL
def wi (hp:aN Cell) (aa:Ref) (aj:aA) (aT:Int):Option Bool:=
 (dd (aa.isSome && (decide (aT≥0))) true (aa)).bind fun b6=>
 (dd (aa.isSome && (decide (aT≥0))) true (fu hp b6)).bind fun bq=>
 (dd ((aa.isSome && (decide (aT≥0))) && (decide (aT≤bq.fA))) true (aa)).bind fun bZ=>
 (dd ((aa.isSome && (decide (aT≥0))) && (decide (aT≤bq.fA))) true (fu hp bZ)).bind fun cg=>
 (dd ((aa.isSome && (decide (aT≥0))) && (decide (aT≤bq.fA))) true (y3 cg.fA aT)).bind fun aB=>
 (dd ((aa.isSome && (decide (aT≥0))) && (decide (aT≤bq.fA))) true (C3 aj aB)).bind fun aH=>
 (some (((aa.isSome && (decide (aT≥0))) && (decide (aT≤bq.fA))) && (decide (aH=aj)))).bind fun bL=>
 some bL
def yX (aa:Ref) (aj:aA) (aT:Int):Option (Int × aA × Ref):=
 some (aT,aj,aa)
def tU (aa:aA) (aj:Int):Option Bool:=
 (dd ((decide (aj≥0)) && (decide (aj < 128))) true (wG aa aj)).bind fun aB=>
 (some (((decide (aj≥0)) && (decide (aj < 128))) && ((aB.b2 &&& (1#64)) ==(1#64)))).bind fun bL=>
 some bL
def tH {σ ε:Type} (aj:Int) (aT:aA) (cG:Ref) (hq:σ→aN Cell) (step:Int→σ→aq (σ ⊕ ε)) (cd:σ):aq (σ ⊕ ε):=
 aq.bind (my (σ:=Int × (σ)) (ε:=(Int × Bool × (σ)) ⊕ (Int × Int × Int × Bool × Bool × Bool × (ε))) fa (fun s1=>
   cond (decide (s1.1 < aj)) (
    aq.bind (aq.of (cG)) fun b6=>
    aq.bind (aq.of (fu (hq s1.2) b6)) fun bq=>
    aq.bind (aq.of (tU aT (bA ((bA (bq.fA - 1)) - s1.1)))) fun aB=>
    aq.bind (aq.of (cond aB (
      some 1) (
      some 0))) fun bB=>
    aq.bind (step bB s1.2) fun aH=>
    Sum.elim (fun s2=>
     aq.ret (.inl (bA (s1.1 + 1),s2))) (fun et=>
     aq.ret (.inr (Sum.inr (s1.1,bB,s1.1,decide (s1.1 < aj),aB,!false,et)))) aH) (
    aq.ret (.inr (Sum.inl (s1.1,decide (s1.1 < aj),s1.2))))) (0,cd)) fun aF=>
   Sum.elim (fun aF=>
    aq.ret (.inl aF.2.2:σ ⊕ ε)) (fun aF=>
   aq.ret (.inr aF.2.2.2.2.2.2:σ ⊕ ε)) aF
def qK {σ ε:Type} (hp:aN Cell) (aj:Int) (aT:aA) (cG:Ref) (step:Int→σ→Option (σ ⊕ ε)) (cd:σ):Option (σ ⊕ ε):=
 (fj (σ:=Int × (σ)) (ε:=(Int × Bool × (σ)) ⊕ (Int × Int × Int × Bool × Bool × Bool × (ε))) fa (fun s1=>
  cond (decide (s1.1 < aj)) (
   (cG).bind fun b6=>
   (fu hp b6).bind fun bq=>
   (tU aT (bA ((bA (bq.fA - 1)) - s1.1))).bind fun aB=>
   (cond aB (
    some 1) (
    some 0)).bind fun bB=>
   (step bB s1.2).bind fun aH=>
   Sum.elim (fun s2=>
    some (.inl (bA (s1.1 + 1),s2))) (fun et=>
    some (.inr (Sum.inr (s1.1,bB,s1.1,decide (s1.1 < aj),aB,!false,et)))) aH) (
   some (.inr (Sum.inl (s1.1,decide (s1.1 < aj),s1.2))))) (0,cd)).bind fun aF=>
  Sum.elim (fun aF=>
   some (.inl aF.2.2)) (fun aF=>
  some (.inr aF.2.2.2.2.2.2)) aF
def wv (hp:aN Cell) (aa:Ref) (aj:aA) (aT:Int):Option Ref:=
 (wi hp aa aj aT).bind fun aB=>
 cond (!aB) (
  some (none:Ref)) (
  (aa).bind fun b6=>
  (fu hp b6).bind fun bq=>
  (yX aa aj aT).bind fun aH=>
  (qK hp aH.1 aH.2.1 aH.2.2 (σ:=Ref) (ε:=Ref × Ref) (fun(vt:Int) (s1:Ref)=>
   cond s1.isNone (
    some (.inr (s1,(none:Ref)))) (
    (s1).bind fun bZ=>
    (idx 2 vt).bind fun bj=>
    (cy hp bZ).bind fun cg=>
    some (.inl (b7 cg.c1 bj)))) bq.cD).bind fun aF=>
  Sum.elim (fun s1=>
   some s1) (fun ax=>
   some ax.2) aF)
def tN (hp:aN Cell) (aa:Ref) (aj:aA) (aT:Int):Option (Int × Bool):=
 (wv hp aa aj aT).bind fun aB=>
 (dd aB.isNone false (aB)).bind fun b6=>
 (dd aB.isNone false (cy hp b6)).bind fun bq=>
 cond (aB.isNone || (!bq.dG)) (
  some (0,false)) (
  (aB).bind fun bZ=>
  (cy hp bZ).bind fun cg=>
  some (cg.ih,true))
def yw (hp:aN Cell) (aa:gA) (aj:bh):Option (Int × Bool):=
 (tF aa aj).bind fun aB=>
 (aa.nH.p).bind fun b6=>
 (jq hp b6).bind fun bq=>
 (some ((dI bq aB.1).getD default)).bind fun bL=>
 (tN hp bL aB.2.1 aB.2.2).bind fun aH=>
 some (aH.1,aH.2)
def wK (aa:List aw):Option (List aw):=
 (fj (σ:=Int × (List aw)) (ε:=(Int × Bool × (List aw))) fa (fun s1=>
  cond (decide (s1.1 < (aa.length:Int))) (
   (idx aa.length s1.1).bind fun bj=>
   (o3 (aI aa bj)).bind fun aB=>
   (hQ 88 s1.2 [aB]).bind fun aH=>
   some (.inl (bA (s1.1 + 1),aH))) (
   some (.inr (s1.1,decide (s1.1 < (aa.length:Int)),s1.2)))) (0,([]:List aw))).bind fun aF=>
 some aF.2.2
def yq (aa:c9):Option (List aw):=
 (wK aa.c2).bind fun aB=>
 some aB
def yl (aa:List bR) (aj:List bR):Option Bool:=
 cond ((aa.length:Int) !=(aj.length:Int)) (
  some false) (
  (fj (σ:=Int) (ε:=(Int × Bool) ⊕ (Int × Int × Bool × Bool)) fa (fun s1=>
   cond (decide (s1 < (aa.length:Int))) (
    (idx aa.length s1).bind fun bj=>
    (idx aj.length s1).bind fun bI=>
    cond (!decide (aI aa bj=aI aj bI)) (
     some (.inr (Sum.inr (s1,s1,decide (s1 < (aa.length:Int)),!decide (aI aa bj=aI aj bI))))) (
     some (.inl (bA (s1 + 1))))) (
    some (.inr (Sum.inl (s1,decide (s1 < (aa.length:Int))))))) 0).bind fun aF=>
   Sum.elim (fun aF=>
    some true) (fun aF=>
   some false) aF)
def y1 (aa:bh) (aj:bh):Option Bool:=
 (dd (aa.bo ==aj.bo) true (yl aa.cZ aj.cZ)).bind fun aB=>
 some (((aa.bo ==aj.bo) && aB) && (aa.g8 ==aj.g8))
def yP (hp:aN Cell) (aa:jj) (aj:bh):Option (Int × Bool):=
 (aa.c2).bind fun b6=>
 (nR hp b6).bind fun bq=>
 (yq bq.1).bind fun aB=>
 (fj (σ:=Int) (ε:=(Int × Bool) ⊕ (Int × Bool × Int × Bool × Bool)) fa (fun s1=>
  cond (decide (s1 < (aB.length:Int))) (
   (idx aB.length s1).bind fun bj=>
   (y1 ((aI aB bj).bV) aj).bind fun aH=>
   cond aH (
    some (.inr (Sum.inr ((aI aB bj).cu,true,s1,decide (s1 < (aB.length:Int)),aH)))) (
    some (.inl (bA (s1 + 1))))) (
   some (.inr (Sum.inl (s1,decide (s1 < (aB.length:Int))))))) 0).bind fun aF=>
  Sum.elim (fun aF=>
   some (0,false)) (fun aF=>
  some (aF.1,aF.2.1)) aF
def CE (hp:aN Cell) (y:gw) (aa:bh):Option (Int × Bool):=match y with
 | .nil=>none
 | .mB z=>yM hp z aa
 | .mC z=>yw hp z aa
 | .mD z=>yP hp z aa
def yN (hp:aN Cell) (aa:Ref) (aj:Int) (aT:Bool):Option (aw × Bool):=
 cond (!aT) (
  some ((default:aw),false)) (
  (aa).bind fun b6=>
  (hg hp b6).bind fun bq=>
  (bq.jl.p).bind fun bZ=>
  (j0 hp bZ).bind fun cg=>
  (some ((dI cg aj).getD default)).bind fun bL=>
  (o3 bL).bind fun aB=>
  some (aB,true))
def wk (hp:aN Cell) (aa:Ref) (aj:bh):Option (aw × Bool):=
 cond aa.isNone (
  some ((default:aw),false)) (
  (aa).bind fun b6=>
  (hg hp b6).bind fun bq=>
  (CE hp bq.iB aj).bind fun aB=>
  (yN hp aa aB.1 aB.2).bind fun aH=>
  some (aH.1,aH.2))
def CD (hp:aN Cell) (aa:Ref) (aj:Vector aA 4):Option (Bool × (aN Cell)):=
 (wm hp aa aj).bind fun aB=>
 cond (!aB.2) (
  some (false,hp)) (
  (aa).bind fun b6=>
  (mz hp b6).bind fun bq=>
  (bq.nQ.p).bind fun bZ=>
  (lC hp bZ).bind fun cg=>
  (some (cT hp bZ (Cell.nf (hj cg aj)))).bind fun cw=>
  some (true,cw))
def yu (hp:aN Cell) (aa:jW) (aj:aw):Option (aN Cell):=
 (sq aj.bV).bind fun aB=>
 (CD hp aa.qn aB).bind fun aH=>
 some aH.2
def wq (hp:aN Cell) (aa:Ref):Option Bool:=
 (aa).bind fun b6=>
 (cy hp b6).bind fun bq=>
 (dd (!bq.dG) true (aa)).bind fun bZ=>
 (dd (!bq.dG) true (cy hp bZ)).bind fun cg=>
 some ((!bq.dG) && (decide (cg.c1=(default:Vector Ref 2))))
def wj (hp:aN Cell) (aa:Ref) (aj:aA) (aT:Int):Option (Bool × (aN Cell)):=
 (tN hp aa aj aT).bind fun aB=>
 cond (!aB.2) (
  some (false,hp)) (
  (aa).bind fun b6=>
  (fu hp b6).bind fun bq=>
  (yX aa aj aT).bind fun aH=>
  (qK hp aH.1 aH.2.1 aH.2.2 (σ:=(List Int) × (List Ref)) (ε:=Empty) (fun(vt:Int) (s1:(List Int) × (List Ref))=>
   (idx s1.2.length (bA ((s1.2.length:Int) - 1))).bind fun bj=>
   ((aI s1.2 bj)).bind fun bZ=>
   (idx 2 vt).bind fun bI=>
   (cy hp bZ).bind fun cg=>
   (hQ 8 s1.2 [b7 cg.c1 bI]).bind fun bn=>
   (hQ 8 s1.1 [vt]).bind fun bD=>
   some (.inl (bD,bn))) (([]:List Int),[bq.cD])).bind fun aF=>
  Sum.elim (fun s1=>
   (idx s1.2.length aT).bind fun dv=>
   ((aI s1.2 dv)).bind fun mi=>
   (cy hp mi).bind fun fc=>
   (some (cT hp mi (Cell.fC ({ fc with dG:=false } :dz)))).bind fun cw=>
   (cy cw mi).bind fun jR=>
   (some (cT cw mi (Cell.fC ({ jR with ih:=0 } :dz)))).bind fun cJ=>
   (fj (σ:=Int × (aN Cell)) (ε:=(Int × Bool × (aN Cell))) fa (fun s2=>
    (dd (decide (s2.1≥0)) true (idx s1.2.length (bA (s2.1 + 1)))).bind fun ht=>
    (dd (decide (s2.1≥0)) true (wq s2.2 (aI s1.2 ht))).bind fun b0=>
    cond ((decide (s2.1≥0)) && b0) (
     (idx s1.2.length s2.1).bind fun vV=>
     (idx s1.1.length s2.1).bind fun vW=>
     ((aI s1.2 vV)).bind fun pQ=>
     (idx 2 (aI s1.1 vW)).bind fun Bj=>
     (cy s2.2 pQ).bind fun lT=>
     (some (cT s2.2 pQ (Cell.fC ({ lT with c1:=h2 lT.c1 Bj (none:Ref) } :dz)))).bind fun gM=>
     some (.inl (bA (s2.1 - 1),gM))) (
     some (.inr (s2.1,(decide (s2.1≥0)) && b0,s2.2)))) (bA (aT - 1),cJ)).bind fun aR=>
   (fu aR.2.2 b6).bind fun k0=>
   (wq aR.2.2 k0.cD).bind fun cl=>
   (cond cl (
    (some (cT aR.2.2 b6 (Cell.iV ({ k0 with cD:=(none:Ref) } :fm)))).bind fun tg=>
    some tg) (
    some aR.2.2)).bind fun bB=>
   some (true,bB)) (fun ax=>
   Empty.elim ax) aF)
def Cw (hp:aN Cell) (aa:Ref) (aj:aA) (aT:Int) (cG:List db):Option (List db):=
 (aa).bind fun b6=>
 (cy hp b6).bind fun bq=>
 (cond bq.dG (
  (hQ 32 cG [{ c6:=aj,ud:=aT,bP:=bq.ih:db }]).bind fun aB=>
  some aB) (
  some cG)).bind fun bB=>
 some bB
def Gj (aa:BitVec 64):Option aA:=
 some ({ (default:aA) with b2:=aa } :aA)
def ze (aa:aA) (aj:Int):Option aA:=
 cond (decide (aj≤0)) (
  some aa) (
  cond (decide (aj≥64)) (
   (some (({ (default:aA) with de:=aa.b2 <<< (BitVec.ofInt 64 (bA (aj - 64))).toNat } :aA))).bind fun bL=>
   some bL) (
   (some ((aa.de <<< (BitVec.ofInt 64 aj).toNat) ||| (aa.b2 >>> (BitVec.ofInt 64 (bA (64 - aj))).toNat))).bind fun dF=>
   (some ({ de:=dF,b2:=aa.b2 <<< (BitVec.ofInt 64 aj).toNat:aA })).bind fun gr=>
   some gr))
def Gi (aa:aA) (aj:aA):Option aA:=
 (some ({ de:=aa.de ||| aj.de,b2:=aa.b2 ||| aj.b2:aA })).bind fun bL=>
 some bL
def tC:Nat→ (aN Cell)→Ref→Ref→aA→Int→ (List db)→Option (List db)
 | 0=>fun _ _ _ _ _ _=>none
 | n + 1=>fun hp aa aj aT cG hJ=>
   cond aj.isNone (
    some hJ) (
    (Cw hp aj aT cG hJ).bind fun aB=>
    (aj).bind fun b6=>
    (cy hp b6).bind fun bq=>
    (tC n hp aa (b7 bq.c1 0) aT (bA (cG + 1)) aB).bind fun aH=>
    (Gj (1#64)).bind fun bn=>
    (aa).bind fun bZ=>
    (fu hp bZ).bind fun cg=>
    (ze bn (bA ((bA (cg.fA - 1)) - cG))).bind fun bD=>
    (Gi aT bD).bind fun b0=>
    (tC n hp aa (b7 bq.c1 1) b0 (bA (cG + 1)) aH).bind fun cl=>
    some cl)
def FB (hp:aN Cell) (aa:Ref) (aj:Ref) (aT:aA) (cG:Int) (hJ:List db):Option (List db):=tC fa hp aa aj aT cG hJ
def Cn (hp:aN Cell) (aa:Ref) (aT:List db):Option (List db):=
 (cond aa.isSome (
  (aa).bind fun b6=>
  (fu hp b6).bind fun bq=>
  (FB hp aa bq.cD (default:aA) 0 aT).bind fun aB=>
  some aB) (
  some aT)).bind fun bB=>
 some bB
def CW (hp:aN Cell) (aa:Ref):Option (List db):=
 (Cn hp aa ([]:List db)).bind fun aB=>
 some aB
def wy (hp:aN Cell) (aa:Ref):Option Int:=
 (CW hp aa).bind fun aB=>
 some (aB.length:Int)
def yp (hp:aN Cell) (aa:gA) (aj:aw):Option (aN Cell):=
 (tF aa aj.bV).bind fun aB=>
 (aa.nH.p).bind fun b6=>
 (jq hp b6).bind fun bq=>
 (some ((dI bq aB.1).getD default)).bind fun bL=>
 (wj hp bL aB.2.1 aB.2.2).bind fun aH=>
 (jq aH.2 b6).bind fun cg=>
 (some ((dI cg aB.1).getD default)).bind fun dF=>
 (wy aH.2 dF).bind fun bn=>
 (cond (bn ==0) (
  (some (cT aH.2 b6 (Cell.k7 (hj cg aB.1)))).bind fun cw=>
  some cw) (
  some aH.2)).bind fun bB=>
 some bB
def yn (aa:aw) (aj:Int):Option Bool:=
 some (aa.cu ==aj)
def v8 (aa:List aw) (aj:aw→Option Bool):Option Int:=
 (fj (σ:=Int) (ε:=(Int × Bool) ⊕ (Int × Int × Int × Bool × Bool)) fa (fun s1=>
  cond (decide (s1 < (aa.length:Int))) (
   (idx aa.length s1).bind fun bj=>
   (aj (aI aa bj)).bind fun aB=>
   cond aB (
    some (.inr (Sum.inr (s1,s1,s1,decide (s1 < (aa.length:Int)),aB)))) (
    some (.inl (bA (s1 + 1))))) (
   some (.inr (Sum.inl (s1,decide (s1 < (aa.length:Int))))))) 0).bind fun aF=>
  Sum.elim (fun aF=>
   some (-1)) (fun aF=>
  some aF.1) aF
def yo (aa:c9) (aj:Int):Option Int:=
 (v8 aa.c2 (fun h7=>yn h7 aj)).bind fun aB=>
 some aB
def FA (aa:List aw) (aj:Int) (aT:Int):Option (List aw):=AY aa aj aT
def yk (aa:c9) (aj:Int):Option (Bool × c9):=
 (yo aa aj).bind fun aB=>
 cond (decide (aB < 0)) (
  some (false,aa)) (
  (FA aa.c2 aB (bA (aB + 1))).bind fun aH=>
  some (true,({ aa with c2:=aH } :c9)))
def yv (hp:aN Cell) (aa:jj) (aj:aw):aq (aN Cell):=
 aq.bind (aq.of (aa.c2)) fun b6=>
 aq.bind (aq.of (nR hp b6)) fun bq=>
 aq.bind (aq.of (yk bq.1 aj.cu)) fun aB=>
 aq.bind (aq.any (Option Nat × Nat)) fun ax=>
 aq.bind (aq.of (some (cT hp b6 (Cell.qj aB.2 ax.1 ax.2)))) fun cw=>
 aq.ret cw
def FJ (hp:aN Cell) (y:gw) (aa:aw):aq (aN Cell):=match y with
 | .nil=>fun _=>False
 | .mB z=>aq.of (yu hp z aa)
 | .mC z=>aq.of (yp hp z aa)
 | .mD z=>yv hp z aa
def yF (hp:aN Cell) (aa:Ref) (aj:bh):aq (aw × Bool × (aN Cell)):=
 aq.bind (aq.of (wk hp aa aj)) fun aB=>
 aq.bind (cond aB.2 (
   aq.bind (aq.of (aa)) fun b6=>
   aq.bind (aq.of (hg hp b6)) fun bq=>
   aq.bind (FJ hp bq.iB aB.1) fun aH=>
   aq.bind (aq.of (hg aH b6)) fun cg=>
   aq.bind (aq.of (cg.jl.p)) fun bZ=>
   aq.bind (aq.of (j0 aH bZ)) fun fc=>
   aq.bind (aq.of (some (cT aH bZ (Cell.jI (hj fc aB.1.cu))))) fun cw=>
   aq.ret cw) (
   aq.ret hp)) fun bB=>
 aq.ret (aB.1,aB.2,bB)
def tI (hp:aN Cell) (aa:Ref) (aj:bh):aq (aw × Int × (aN Cell)):=
 aq.bind (aq.of (nE hp aa aj.bo)) fun aB=>
 cond aB.isNone (
  aq.ret ((default:aw),6,hp)) (
  aq.bind (yF hp aB aj) fun aH=>
  cond (!aH.2.1) (
   aq.ret ((default:aw),16,aH.2.2)) (
   aq.ret (aH.1,0,aH.2.2)))
def yU (hp:aN Cell) (aa:Ref):Option Int:=
 cond aa.isNone (
  some 0) (
  (aa).bind fun b6=>
  (hg hp b6).bind fun bq=>
  (bq.jl.p).bind fun bZ=>
  (j0 hp bZ).bind fun cg=>
  some (cg.length:Int))
def yS (hp:aN Cell) (aa:Ref) (aj:Int):Option Int:=
 (aa).bind fun b6=>
 (jG hp b6).bind fun bq=>
 (tM bq.gB aj).bind fun aB=>
 (idx bq.gB.b1.length aB).bind fun bj=>
 some ((aI bq.gB.b1 bj).gD)
def CS (hp:aN Cell) (aa:Ref) (aj:Vector aA 4) (aT:Int):Option (Bool × (aN Cell)):=
 cond aa.isNone (
  some (false,hp)) (
  (aa).bind fun b6=>
  (mz hp b6).bind fun bq=>
  (bq.nQ.p).bind fun bZ=>
  (lC hp bZ).bind fun cg=>
  (some (dI cg aj)).bind fun bL=>
  cond bL.isSome (
   some (false,hp)) (
   (some (cT hp bZ (Cell.nf (fB cg aj aT)))).bind fun cw=>
   some (true,cw)))
def yR (hp:aN Cell) (aa:jW) (aj:aw):Option (aN Cell):=
 (sq aj.bV).bind fun aB=>
 (CS hp aa.qn aB aj.cu).bind fun aH=>
 some aH.2
def C7 (hp:aN Cell) (aa:Int):aq (Ref × (aN Cell)):=
 aq.bind (aq.of (some (({ (default:fm) with fA:=min (max 1 aa) 128 } :fm)))) fun bL=>
 aq.bind (aq.mk hp (Cell.iV bL)) fun cN=>
 aq.ret ((some cN.1:Ref),cN.2)
def wA (hp:aN Cell) (aa:Ref) (aj:aA) (aT:Int) (cG:Int):aq (Bool × (aN Cell)):=
 aq.bind (aq.of (wi hp aa aj aT)) fun aB=>
 cond (!aB) (
  aq.ret (false,hp)) (
  aq.bind (aq.of (wv hp aa aj aT)) fun aH=>
  aq.bind (aq.of (dd aH.isSome true (aH))) fun b6=>
  aq.bind (aq.of (dd aH.isSome true (cy hp b6))) fun bq=>
  cond (aH.isSome && bq.dG) (
   aq.ret (false,hp)) (
   aq.bind (aq.of (aa)) fun bZ=>
   aq.bind (aq.of (fu hp bZ)) fun cg=>
   aq.bind (cond cg.cD.isNone (
     aq.bind (aq.mk hp (Cell.fC (default:dz))) fun cF=>
     aq.bind (aq.of (fu cF.2 bZ)) fun B3=>
     aq.bind (aq.of (some (cT cF.2 bZ (Cell.iV ({ B3 with cD:=(some cF.1:Ref) } :fm))))) fun tg=>
     aq.ret tg) (
     aq.ret hp)) fun bB=>
   aq.bind (aq.of (fu bB bZ)) fun fc=>
   aq.bind (aq.of (yX aa aj aT)) fun bn=>
   aq.bind (tH bn.1 bn.2.1 bn.2.2 (σ:=Ref × (aN Cell)) (ε:=Empty) (fun(s2:Ref × (aN Cell))=>s2.2) (fun(xM:Int) (s2:Ref × (aN Cell))=>
     aq.bind (aq.of (s2.1)) fun mi=>
     aq.bind (aq.of (idx 2 xM)) fun bj=>
     aq.bind (aq.of (cy s2.2 mi)) fun jR=>
     aq.bind (cond ((b7 jR.c1 bj).isNone) (
       aq.bind (aq.mk s2.2 (Cell.fC (default:dz))) fun cN=>
       aq.bind (aq.of (idx 2 xM)) fun dv=>
       aq.bind (aq.of (cy cN.2 mi)) fun k0=>
       aq.bind (aq.of (some (cT cN.2 mi (Cell.fC ({ k0 with c1:=h2 k0.c1 dv (some cN.1:Ref) } :dz))))) fun cw=>
       aq.ret cw) (
       aq.ret s2.2)) fun cL=>
     aq.bind (aq.of (idx 2 xM)) fun bI=>
     aq.bind (aq.of (cy cL mi)) fun lT=>
     aq.ret (.inl (b7 lT.c1 bI,cL):(Ref × (aN Cell)) ⊕ Empty)) (fc.cD,bB)) fun aR=>
   Sum.elim (fun s2=>
    aq.bind (aq.of (s2.1)) fun jy=>
    aq.bind (aq.of (cy s2.2 jy)) fun x4=>
    aq.bind (aq.of (some (cT s2.2 jy (Cell.fC ({ x4 with dG:=true } :dz))))) fun cJ=>
    aq.bind (aq.of (s2.1)) fun JI=>
    aq.bind (aq.of (cy cJ JI)) fun JJ=>
    aq.bind (aq.of (some (cT cJ JI (Cell.fC ({ JJ with ih:=cG } :dz))))) fun gM=>
    aq.ret (true,gM)) (fun et=>
    Empty.elim et) aR))
def yE (hp:aN Cell) (aa:gA) (aj:aw):aq (aN Cell):=
 aq.bind (aq.of (tF aa aj.bV)) fun aB=>
 aq.bind (aq.of (aa.nH.p)) fun b6=>
 aq.bind (aq.of (jq hp b6)) fun bq=>
 aq.bind (aq.of (some ((dI bq aB.1).getD default))) fun bL=>
 aq.bind (cond bL.isNone (
   aq.bind (C7 hp aa.fA) fun bn=>
   aq.bind (aq.of (jq bn.2 b6)) fun fc=>
   aq.bind (aq.of (some (cT bn.2 b6 (Cell.k7 (fB fc aB.1 bn.1))))) fun cw=>
   aq.ret cw) (
   aq.ret hp)) fun bB=>
 aq.bind (aq.of (jq bB b6)) fun cg=>
 aq.bind (aq.of (some ((dI cg aB.1).getD default))) fun dF=>
 aq.bind (wA bB dF aB.2.1 aB.2.2 aj.cu) fun aH=>
 aq.ret aH.2
def yd (aa:List aw) (aj:aw) (aT:aw→aw→Option Int):Option (Int × Bool):=
 (fj (σ:=Int × Int) (ε:=(Int × Int × Bool)) fa (fun s1=>
  cond (decide (s1.1 < s1.2)) (
   (idx aa.length (bA ((BitVec.ofInt 64 (bA (s1.1 + s1.2))) >>> (1#64).toNat).toNat)).bind fun bj=>
   (aT (aI aa bj) aj).bind fun aB=>
   (cond (decide (aB < 0)) (
    (some (bA ((bA ((BitVec.ofInt 64 (bA (s1.1 + s1.2))) >>> (1#64).toNat).toNat) + 1))).bind fun bL=>
    some (bL,s1.2)) (
    some (s1.1,bA ((BitVec.ofInt 64 (bA (s1.1 + s1.2))) >>> (1#64).toNat).toNat))).bind fun bB=>
   some (.inl (bB.1,bB.2))) (
   some (.inr (s1.1,s1.2,decide (s1.1 < s1.2))))) (0,(aa.length:Int))).bind fun aF=>
 (dd (decide (aF.1 < (aa.length:Int))) true (idx aa.length aF.1)).bind fun bI=>
 (dd (decide (aF.1 < (aa.length:Int))) true (aT (aI aa bI) aj)).bind fun aH=>
 some (aF.1,(decide (aF.1 < (aa.length:Int))) && (aH ==0))
def zb (aa:a1) (aj:bh):Option (bQ × Bool):=
 (tM aa aj.bo).bind fun aB=>
 cond (decide (aB < 0)) (
  some ((default:bQ),false)) (
  (idx aa.b1.length aB).bind fun bj=>
  some (aI aa.b1 bj,true))
def yj (aa:List cM) (aj:cM→Option Bool):Option Int:=
 (fj (σ:=Int) (ε:=(Int × Bool) ⊕ (Int × Int × Int × Bool × Bool)) fa (fun s1=>
  cond (decide (s1 < (aa.length:Int))) (
   (idx aa.length s1).bind fun bj=>
   (aj (aI aa bj)).bind fun aB=>
   cond aB (
    some (.inr (Sum.inr (s1,s1,s1,decide (s1 < (aa.length:Int)),aB)))) (
    some (.inl (bA (s1 + 1))))) (
   some (.inr (Sum.inl (s1,decide (s1 < (aa.length:Int))))))) 0).bind fun aF=>
  Sum.elim (fun aF=>
   some (-1)) (fun aF=>
  some aF.1) aF
def FZ (aa:cM):Option Bool:=
 some (aa.dp ==2)
def wF (aa:a1) (aj:bh):Option Int:=
 (zb aa aj).bind fun aB=>
 (yj aB.1.cO FZ).bind fun aH=>
 (some (((!aB.2) || (decide (aH < 0))) || (decide (aH≥ (aj.cZ.length:Int))))).bind fun bL=>
 cond bL (
  some 0) (
  (idx aj.cZ.length aH).bind fun bj=>
  some ((aI aj.cZ bj).fU))
def wH (aa:a1) (aj:aw) (aT:aw):Option Bool:=
 (oi aj.bV.g8 aT.bV.g8).bind fun aB=>
 (wF aa aj.bV).bind fun aH=>
 (wF aa aT.bV).bind fun bn=>
 (oi aH bn).bind fun bD=>
 (oi aj.cu aT.cu).bind fun b0=>
 (qS [aB,bD,b0]).bind fun cl=>
 some (decide (cl > 0))
def wa (aa:c9) (aj:aw) (aT:aw):Option Int:=
 (wH aa.o5 aj aT).bind fun aB=>
 cond aB (
  some (-1)) (
  (wH aa.o5 aT aj).bind fun aH=>
  cond aH (
   some 1) (
   some 0))
def Cm (aa:List aw) (aj:Int) (aT:List aw):Option (List aw):=AZ 88 aa aj aT
def yr (aa:c9) (aj:aw):Option (Bool × c9):=
 (dd false false (yo aa aj.cu)).bind fun aB=>
 cond (false || (decide (aB≥0))) (
  some (false,aa)) (
  (yd aa.c2 aj (fun h7 cN=>wa aa h7 cN)).bind fun aH=>
  (o3 aj).bind fun bn=>
  (Cm aa.c2 aH.1 [bn]).bind fun bD=>
  some (true,({ aa with c2:=bD } :c9)))
def yT (hp:aN Cell) (aa:jj) (aj:aw):aq (aN Cell):=
 aq.bind (aq.of (aa.c2)) fun b6=>
 aq.bind (aq.of (nR hp b6)) fun bq=>
 aq.bind (aq.of (yr bq.1 aj)) fun aB=>
 aq.bind (aq.any (Option Nat × Nat)) fun ax=>
 aq.bind (aq.of (some (cT hp b6 (Cell.qj aB.2 ax.1 ax.2)))) fun cw=>
 aq.ret cw
def FW (hp:aN Cell) (y:gw) (aa:aw):aq (aN Cell):=match y with
 | .nil=>fun _=>False
 | .mB z=>aq.of (yR hp z aa)
 | .mC z=>yE hp z aa
 | .mD z=>yT hp z aa
def yV (hp:aN Cell) (aa:Ref) (aj:aw):aq (Bool × (aN Cell)):=
 cond aa.isNone (
  aq.ret (false,hp)) (
  aq.bind (aq.of (aa)) fun b6=>
  aq.bind (aq.of (hg hp b6)) fun bq=>
  aq.bind (aq.of (bq.jl.p)) fun bZ=>
  aq.bind (aq.of (j0 hp bZ)) fun cg=>
  aq.bind (aq.of (some (dI cg aj.cu))) fun bL=>
  aq.bind (aq.of (aa)) fun mi=>
  aq.bind (aq.of (hg hp mi)) fun fc=>
  aq.bind (aq.of (CE hp fc.iB aj.bV)) fun aB=>
  cond (aB.2 || bL.isSome) (
   aq.ret (false,hp)) (
   aq.bind (aq.of (aa)) fun Fi=>
   aq.bind (aq.of (hg hp Fi)) fun jR=>
   aq.bind (aq.of (o3 aj)) fun aH=>
   aq.bind (aq.of (jR.jl.p)) fun pQ=>
   aq.bind (aq.of (j0 hp pQ)) fun lT=>
   aq.bind (aq.of (some (cT hp pQ (Cell.jI (fB lT aj.cu aH))))) fun cw=>
   aq.bind (aq.of (hg cw Fi)) fun k0=>
   aq.bind (FW cw k0.iB aj) fun bn=>
   aq.ret (true,bn)))
def qL (hp:aN Cell) (aa:Ref) (aj:bh) (aT:Int):aq (Int × Int × (aN Cell)):=
 aq.bind (aq.of (nE hp aa aj.bo)) fun aB=>
 cond aB.isNone (
  aq.ret (0,6,hp)) (
  aq.bind (aq.of (wk hp aB aj)) fun aH=>
  cond aH.2 (
   aq.ret (0,17,hp)) (
   aq.bind (aq.of (yU hp aB)) fun bn=>
   aq.bind (aq.of (yS hp aa aj.bo)) fun bD=>
   cond (decide (bn≥bD)) (
    aq.ret (0,18,hp)) (
    aq.bind (aq.of (aa)) fun b6=>
    aq.bind (aq.of (jG hp b6)) fun bq=>
    aq.bind (aq.of (some ({ bV:=aj,cu:=bq.lx,mr:=aT:aw }))) fun bL=>
    aq.bind (yV hp aB bL) fun b0=>
    aq.bind (aq.of (jG b0.2 b6)) fun cg=>
    aq.bind (aq.of (some (cT b0.2 b6 (Cell.pj ({ cg with lx:=bA (cg.lx + 1) } :ib))))) fun cw=>
    aq.ret (bq.lx,0,cw))))
def p0 (aa:Int) (aj:Int):Option Int:=
 cond (decide (aa < aj)) (
  some (-1)) (
  cond (decide (aa > aj)) (
   some 1) (
   some 0))
def wI (aa:aA):Option (Vector Bool 128):=
 (fj (σ:=Int × (Vector Bool 128)) (ε:=(Int × Bool × (Vector Bool 128))) fa (fun s1=>
  cond (decide (s1.1 < 64)) (
   (idx 128 s1.1).bind fun bj=>
   (some (h2 s1.2 bj (((aa.b2 >>> (BitVec.ofInt 64 s1.1).toNat) &&& (1#64)) ==(1#64)))).bind fun bL=>
   (idx 128 (bA (s1.1 + 64))).bind fun bI=>
   (some (h2 bL bI (((aa.de >>> (BitVec.ofInt 64 s1.1).toNat) &&& (1#64)) ==(1#64)))).bind fun dF=>
   some (.inl (bA (s1.1 + 1),dF))) (
   some (.inr (s1.1,decide (s1.1 < 64),s1.2)))) (0,(default:Vector Bool 128))).bind fun aF=>
 some aF.2.2
def qR (aa:aA) (aj:aA):Option Int:=
 (wI aa).bind fun aB=>
 (wI aj).bind fun aH=>
 (fj (σ:=Int) (ε:=(Int × Bool) ⊕ (Int × Int × Bool × Bool × Bool)) fa (fun s1=>
  cond (decide (s1≥0)) (
   (idx 128 s1).bind fun bj=>
   (idx 128 s1).bind fun bI=>
   cond ((b7 aB bj) !=(b7 aH bI)) (
    (idx 128 s1).bind fun dv=>
    cond (b7 aH dv) (
     some (.inr (Sum.inr ((-1),s1,decide (s1≥0),(b7 aB bj) !=(b7 aH bI),b7 aH dv)))) (
     some (.inr (Sum.inr (1,s1,decide (s1≥0),(b7 aB bj) !=(b7 aH bI),b7 aH dv))))) (
    some (.inl (bA (s1 - 1))))) (
   some (.inr (Sum.inl (s1,decide (s1≥0)))))) 127).bind fun aF=>
  Sum.elim (fun aF=>
   some 0) (fun aF=>
  some aF.1) aF
def zc (aa:bR) (aj:bR):Option Int:=
 cond ((aa.fO !=aj.fO) && aj.fO) (
  some (-1)) (
  cond (aa.fO !=aj.fO) (
   some 1) (
   cond (!decide (aa.c6=aj.c6)) (
    (qR aa.c6 aj.c6).bind fun aB=>
    some aB) (
    cond (!decide (aa.gU=aj.gU)) (
     (qR aa.gU aj.gU).bind fun aH=>
     some aH) (
     cond (aa.fU !=aj.fU) (
      (p0 aa.fU aj.fU).bind fun bn=>
      some bn) (
      (qR aa.k4 aj.k4).bind fun bD=>
      some bD)))))
def y5 (aa:List bR) (aj:List bR):Option Int:=
 (fj (σ:=Int) (ε:=(Int × Bool) ⊕ (Int × Int × Int × Bool × Bool)) fa (fun s1=>
  cond ((decide (s1 < (aa.length:Int))) && (decide (s1 < (aj.length:Int)))) (
   (idx aa.length s1).bind fun bj=>
   (idx aj.length s1).bind fun bI=>
   (zc (aI aa bj) (aI aj bI)).bind fun aB=>
   cond (aB !=0) (
    some (.inr (Sum.inr (aB,s1,aB,(decide (s1 < (aa.length:Int))) && (decide (s1 < (aj.length:Int))),aB !=0)))) (
    some (.inl (bA (s1 + 1))))) (
   some (.inr (Sum.inl (s1,(decide (s1 < (aa.length:Int))) && (decide (s1 < (aj.length:Int)))))))) 0).bind fun aF=>
  Sum.elim (fun aF=>
   (p0 (aa.length:Int) (aj.length:Int)).bind fun aH=>
   some aH) (fun aF=>
  some aF.1) aF
def y9 (aa:List aA) (aj:List aA):Option Int:=
 (fj (σ:=Int) (ε:=(Int × Bool) ⊕ (Int × Int × Int × Bool × Bool)) fa (fun s1=>
  cond ((decide (s1 < (aa.length:Int))) && (decide (s1 < (aj.length:Int)))) (
   (idx aa.length s1).bind fun bj=>
   (idx aj.length s1).bind fun bI=>
   (qR (aI aa bj) (aI aj bI)).bind fun aB=>
   cond (aB !=0) (
    some (.inr (Sum.inr (aB,s1,aB,(decide (s1 < (aa.length:Int))) && (decide (s1 < (aj.length:Int))),aB !=0)))) (
    some (.inl (bA (s1 + 1))))) (
   some (.inr (Sum.inl (s1,(decide (s1 < (aa.length:Int))) && (decide (s1 < (aj.length:Int)))))))) 0).bind fun aF=>
  Sum.elim (fun aF=>
   (p0 (aa.length:Int) (aj.length:Int)).bind fun aH=>
   some aH) (fun aF=>
  some aF.1) aF
def y6 (aa:bh) (aj:bh):Option Int:=
 (p0 aa.bo aj.bo).bind fun aB=>
 (p0 aj.g8 aa.g8).bind fun aH=>
 (y5 aa.cZ aj.cZ).bind fun bn=>
 (p0 aa.jm aj.jm).bind fun bD=>
 (fj (σ:=Int) (ε:=(Int × Bool) ⊕ (Int × Int × Int × Bool × Bool)) fa (fun s1=>
  cond (decide (s1 < ([aB,aH,bn,bD].length:Int))) (
   (idx ([aB,aH,bn,bD].length) s1).bind fun bj=>
   cond ((aI [aB,aH,bn,bD] bj) !=0) (
    some (.inr (Sum.inr (aI [aB,aH,bn,bD] bj,aI [aB,aH,bn,bD] bj,s1,decide (s1 < ([aB,aH,bn,bD].length:Int)),(aI [aB,aH,bn,bD] bj) !=0)))) (
    some (.inl (bA (s1 + 1))))) (
   some (.inr (Sum.inl (s1,decide (s1 < ([aB,aH,bn,bD].length:Int))))))) 0).bind fun aF=>
  Sum.elim (fun aF=>
   (y9 aa.h0 aj.h0).bind fun b0=>
   some b0) (fun aF=>
  some aF.1) aF
def CZ (aa:bh) (aj:bh):Option Bool:=
 (y6 aa aj).bind fun aB=>
 some (aB ==0)
def zf (aa:aw) (aj:aw):Option Bool:=
 (CZ aa.bV aj.bV).bind fun aB=>
 some ((aB && (aa.cu ==aj.cu)) && (aa.mr ==aj.mr))
def wz (aa:List aw) (aj:List aw):Option Bool:=
 cond ((aa.length:Int) !=(aj.length:Int)) (
  some false) (
  (fj (σ:=Int) (ε:=(Int × Bool) ⊕ (Int × Int × Bool × Bool)) fa (fun s1=>
   cond (decide (s1 < (aa.length:Int))) (
    (idx aa.length s1).bind fun bj=>
    (idx aj.length s1).bind fun bI=>
    (zf (aI aa bj) (aI aj bI)).bind fun aB=>
    cond (!aB) (
     some (.inr (Sum.inr (s1,s1,decide (s1 < (aa.length:Int)),!aB)))) (
     some (.inl (bA (s1 + 1))))) (
    some (.inr (Sum.inl (s1,decide (s1 < (aa.length:Int))))))) 0).bind fun aF=>
   Sum.elim (fun aF=>
    some true) (fun aF=>
   some false) aF)
def zd (hp:aN Cell):aq (Bool × (aN Cell)):=
 aq.bind (aq.of (tS ([]:List (BitVec 8)) 0)) fun aB=>
 aq.bind (aq.of (we aB)) fun aH=>
 aq.bind (wO hp aH.1) fun bn=>
 aq.bind (aq.of (some (({ (default:bh) with bo:=1,cZ:= [({ (default:bR) with fO:=true } :bR)],jm:=1 } :bh)))) fun bL=>
 aq.bind (qL bn.2 bn.1 bL 1) fun bD=>
 aq.bind (tI bD.2.2 bn.1 bL) fun b0=>
 aq.bind (qL b0.2.2 bn.1 bL 1) fun cl=>
 aq.bind (aq.of (some (((((bD.2.1 ==0) && (b0.2.1 ==0)) && (cl.2.1 ==0)) && (bD.1 ==1)) && (cl.1 ==2)))) fun dF=>
 aq.ret (dF,cl.2.2)
def yQ (hp:aN Cell) (aa:List (BitVec 8)) (aj:List (BitVec 8)):aq (Bool × (aN Cell)):=
 aq.bind (aq.of (tS aa 120)) fun aB=>
 aq.bind (aq.of (we aB)) fun aH=>
 aq.bind (aq.of (tS aj 220)) fun bn=>
 aq.bind (wO hp aH.1) fun bD=>
 aq.bind (my (σ:=Int × bf × (aN Cell)) (ε:=(Int × Bool × bf × (aN Cell)) ⊕ (Int × Int × Int × Bool × Int × Bool × Int × Bool × Int × Bool × Bool × bf × (aN Cell))) fa (fun s1=>
   aq.bind (aq.of (dd (decide (s1.1 < 20)) true (yy s1.2.1))) fun b0=>
   cond ((decide (s1.1 < 20)) && b0) (
    aq.bind (aq.of (fz s1.2.1 4)) fun cl=>
    aq.bind (aq.of (yI cl.2 aH.1 cl.1)) fun bg=>
    aq.bind (my (σ:=Int × (Vector (List aw) 5) × (aN Cell)) (ε:=(Int × Bool × (Vector (List aw) 5) × (aN Cell))) fa (fun s2=>
      cond (decide (s2.1 < 5)) (
       aq.bind (wh s2.2.2 bD.1 s2.1) fun fe=>
       aq.bind (aq.of (idx 5 s2.1)) fun bj=>
       aq.ret (.inl (bA (s2.1 + 1),h2 s2.2.1 bj fe.1,fe.2))) (
       aq.ret (.inr (s2.1,decide (s2.1 < 5),s2.2.1,s2.2.2)))) (0,(default:Vector (List aw) 5),s1.2.2)) fun aR=>
    aq.bind (aq.of (fz bg.2 3)) fun b3=>
    aq.bind (cond (b3.1 ==0) (
      aq.bind (tI aR.2.2.2 bD.1 bg.1) fun h6=>
      aq.ret h6.2.2) (
      aq.bind (qL aR.2.2.2 bD.1 bg.1 1) fun iW=>
      aq.ret iW.2.2)) fun bB=>
    aq.bind (my (σ:=Int × (aN Cell)) (ε:=(Int × Bool × (aN Cell)) ⊕ (Int × Int × Bool × Bool × (aN Cell))) fa (fun aZ=>
      cond (decide (aZ.1 < 5)) (
       aq.bind (aq.of (dd (aZ.1 !=bg.1.bo) true (idx 5 aZ.1))) fun bI=>
       aq.bind (cond (decide ((aZ.1 !=bg.1.bo)=true)) (wh aZ.2 bD.1 aZ.1) (aq.ret (default,aZ.2))) fun fJ=>
       aq.bind (aq.of (dd (aZ.1 !=bg.1.bo) true (wz fJ.1 (b7 aR.2.2.1 bI)))) fun hG=>
       cond ((aZ.1 !=bg.1.bo) && (!hG)) (
        aq.ret (.inr (Sum.inr (aZ.1,aZ.1,decide (aZ.1 < 5),(aZ.1 !=bg.1.bo) && (!hG),fJ.2)))) (
        aq.ret (.inl (bA (aZ.1 + 1),fJ.2)))) (
       aq.ret (.inr (Sum.inl (aZ.1,decide (aZ.1 < 5),aZ.2))))) (0,bB)) fun dh=>
      Sum.elim (fun dh=>
       aq.ret (.inl (bA (s1.1 + 1),b3.2,dh.2.2))) (fun dh=>
      aq.ret (.inr (Sum.inr (s1.1,cl.1,dh.1,(decide (s1.1 < 20)) && b0,aR.1,aR.2.1,b3.1,b3.1 ==0,dh.2.1,dh.2.2.1,dh.2.2.2.1,b3.2,dh.2.2.2.2)))) dh) (
    aq.ret (.inr (Sum.inl (s1.1,(decide (s1.1 < 20)) && b0,s1.2.1,s1.2.2))))) (0,bn,bD.2)) fun aF=>
   Sum.elim (fun aF=>
    aq.bind (zd aF.2.2.2) fun mJ=>
    aq.ret (mJ.1,mJ.2)) (fun aF=>
   aq.ret (false,aF.2.2.2.2.2.2.2.2.2.2.2.2)) aF
end Go.Proofs.YtmnggbjcnoffeaaGreat
