/-
  Each function of the translation as a functional program. Conditions: none.
-/
import Derived.Test.YtmnggbjcnoffeaaGreatMt
namespace Go.Proofs.YtmnggbjcnoffeaaGreat
open Go Gv
set_option linter.unusedVariables false
set_option linter.unusedSimpArgs false
set_option maxRecDepth 100000
def sj (J:List (BitVec 8)) (aj:Int):Option bk:=
 (pW J 0 (min (J.length:Int) aj)).bind fun ak=>
 some ({ (default:bk) with cb:=ak } :bk)
def AQ (J:bk):Option Bool:=
 some (decide (J.qc < (J.cb.length:Int)))
def fp (J:bk) (aj:Int):Option (Int × bk):=
 (AQ J).bind fun ak=>
 cond ((!ak) || (decide (aj < 1))) (
  some (0,J)) (
  (idx J.cb.length (bw ((bw (J.qc + 1)) - 1))).bind fun aW=>
  (rB ((aF J.cb aW).toNat:Int) aj).bind fun aO=>
  some (aO,({ J with qc:=bw (J.qc + 1) } :bk)))
def kC (J:bk):Option (Bool × bk):=
 (fp J 2).bind fun ak=>
 some (ak.1 ==1,ak.2)
def wO (J:bk):Option ((List dh) × bk):=
 (fp J 4).bind fun ak=>
 (idx (([0,0,65535,3]:List Int).length) ak.1).bind fun aW=>
 (some ({ cL:=({ (default:al) with bS:=1#64 } :al),gK:=({ (default:al) with bS:=15#64 } :al),ob:=2:ga })).bind fun bg=>
 (some ({ cL:=({ (default:al) with bS:=2#64 } :al),gK:=({ (default:al) with bS:=3#64 } :al),ob:=3:ga })).bind fun dw=>
 (kC ak.2).bind fun aO=>
 (cond aO.1 (
  (fp aO.2 2).bind fun dr=>
  (some (({ (default:al) with bS:=BitVec.ofInt 64 (bw (8 * dr.1)) } :al))).bind fun iu=>
  (fp dr.2 4).bind fun dC=>
  (idx (([0,0,65535,3]:List Int).length) dC.1).bind fun dj=>
  (some ({ cL:=iu,gK:=({ (default:al) with bS:=8#64 } :al),ob:=aF ([0,0,65535,3]:List Int) dj:ga })).bind fun g5=>
  (gB 40 [bg,dw] [g5]).bind fun e7=>
  some (dC.2,e7)) (
  some (aO.2,[bg,dw]))).bind fun bB=>
 (fp bB.1 4).bind fun bc=>
 (idx (([0,0,65535,3]:List Int).length) bc.1).bind fun bR=>
 (some (({ (default:dh) with bG:=2,hC:=2,gH:=aF ([0,0,65535,3]:List Int) bR } :dh))).bind fun ft=>
 (some (({ (default:dh) with bG:=3,hC:=3,mr:=9,gH:=0 } :dh))).bind fun hz=>
 (fp bc.2 3).bind fun br=>
 (cond (br.1 ==1) (
  (fp br.2 3).bind fun cx=>
  (some ({ cL:=({ (default:al) with bS:=5#64 } :al),gK:=({ (default:al) with bS:=15#64 } :al),ob:=bw (1 + cx.1):ga })).bind fun ir=>
  some (cx.2,({ hz with nA:= [ir] } :dh))) (
  some (br.2,hz))).bind fun cu=>
 (some (({ ({ (default:dh) with bG:=1,hC:=1,mr:=4,gH:=aF ([0,0,65535,3]:List Int) aW } :dh) with nA:=bB.2 } :dh))).bind fun gy=>
 some ([gy,ft,cu.2],cu.1)
def wK (J:bk):Option ((List dy) × bk):=
 (some (({ (default:dy) with bG:=1,b7:=ByteArray.mk #[110,111,112] } :dy))).bind fun bg=>
 (some (({ (default:dy) with bG:=2,b7:=ByteArray.mk #[100,114,111,112],nd:= [({ (default:eF) with hE:=6 } :eF)] } :dy))).bind fun dw=>
 (some ({ b7:=ByteArray.mk #[112,111,114,116],eP:=16:hQ })).bind fun ft=>
 (some (({ (default:eF) with hE:=7,jW:=({ (default:fq) with cH:=3 } :fq) } :eF))).bind fun hz=>
 (some (({ (default:dy) with bG:=3,b7:=ByteArray.mk #[102,111,114,119,97,114,100],jt:= [ft],nd:= [hz] } :dy))).bind fun gy=>
 (some ({ hE:=1,iS:=5,jW:=({ (default:fq) with cH:=3 } :fq):eF })).bind fun ir=>
 (some (({ (default:fq) with cH:=2,tp:=5 } :fq))).bind fun iu=>
 (some (({ (default:dy) with bG:=4,b7:=ByteArray.mk #[116,97,103],jt:= [{ b7:=ByteArray.mk #[120],eP:=4:hQ }],nd:= [ir,{ hE:=2,iS:=3,jW:=iu:eF }] } :dy))).bind fun g5=>
 (some ([{ b7:=ByteArray.mk #[120],eP:=4:hQ },{ b7:=ByteArray.mk #[121],eP:=12:hQ }])).bind fun kO=>
 (some ({ hE:=1,iS:=9,jW:=({ (default:fq) with cH:=3 } :fq):eF })).bind fun kn=>
 (some (({ (default:fq) with cH:=3,tp:=1 } :fq))).bind fun j3=>
 (some ([({ (default:eF) with hE:=4,iS:=3 } :eF),kn,{ hE:=3,iS:=8,jW:=j3:eF }])).bind fun k6=>
 (some (({ (default:dy) with bG:=5,b7:=ByteArray.mk #[119,114,97,112],jt:=kO,nd:=k6 } :dy))).bind fun j4=>
 (fp J 2).bind fun ak=>
 (some (({ (default:eF) with hE:=5,iS:=bw (2 + ak.1) } :eF))).bind fun ko=>
 (fp ak.2 256).bind fun aO=>
 (some (({ (default:al) with bS:=BitVec.ofInt 64 aO.1 } :al))).bind fun ns=>
 (some (({ (default:fq) with cH:=1,cL:=ns } :fq))).bind fun nV=>
 (some (({ (default:dy) with bG:=6,b7:=ByteArray.mk #[115,116,114,105,112],nd:= [ko,{ hE:=2,iS:=6,jW:=nV:eF }] } :dy))).bind fun l7=>
 (kC aO.2).bind fun bc=>
 (cond bc.1 (
  (idx ([bg,dw,gy,g5,j4,l7].length) 2).bind fun bR=>
  (some (iB [bg,dw,gy,g5,j4,l7] bR ({ (aF [bg,dw,gy,g5,j4,l7] bR) with oV:=ByteArray.mk #[112,111,114,116,32,33,61,32,48] } :dy))).bind fun pq=>
  some pq) (
  some [bg,dw,gy,g5,j4,l7])).bind fun bB=>
 (kC bc.2).bind fun br=>
 (cond br.1 (
  (idx bB.length 4).bind fun aW=>
  (some (iB bB aW ({ (aF bB aW) with oV:=ByteArray.mk #[120,32,60,32,121,32,124,124,32,120,32,61,61,32,49,53] } :dy))).bind fun qk=>
  some qk) (
  some bB)).bind fun cu=>
 some (cu,br.2)
def wQ (J:bk):Option ((List bN) × bk):=
 (some ({ b7:=ByteArray.mk #[97],gb:=4,cH:=1:cB })).bind fun bg=>
 (fp J 2).bind fun ak=>
 (fp ak.2 5).bind fun aO=>
 (some (({ (default:bN) with bG:=1,b7:=ByteArray.mk #[112,111,114,116,115],bX:= [bg],c4:=([1,2,4]:List Int),gH:=bw (1 + ak.1),kV:=bw (2 + aO.1) } :bN))).bind fun dw=>
 (some ({ b7:=ByteArray.mk #[100],gb:=7,cH:=2:cB })).bind fun ft=>
 (fp aO.2 6).bind fun bc=>
 (kC bc.2).bind fun br=>
 (cond br.1 (
  (some ({ b7:=ByteArray.mk #[109],gb:=3,cH:=1:cB })).bind fun nV=>
  (gB 32 [ft] [nV]).bind fun gT=>
  some (({ ({ (default:bN) with bG:=2,b7:=ByteArray.mk #[114,111,117,116,101,115],c4:=([1,2,3,4]:List Int),gH:=2,kV:=bw (3 + bc.1) } :bN) with bX:= [] } :bN),gT)) (
  some (({ (default:bN) with bG:=2,b7:=ByteArray.mk #[114,111,117,116,101,115],c4:=([1,2,3,4]:List Int),gH:=2,kV:=bw (3 + bc.1) } :bN),[ft]))).bind fun bB=>
 (some ({ b7:=ByteArray.mk #[101],gb:=6,cH:=3:cB })).bind fun hz=>
 (some ({ b7:=ByteArray.mk #[97],gb:=4,cH:=3:cB })).bind fun gy=>
 (fp br.2 6).bind fun cx=>
 (kC cx.2).bind fun dr=>
 (cond dr.1 (
  (some ({ b7:=ByteArray.mk #[98],gb:=5,cH:=1:cB })).bind fun ns=>
  (gB 32 [hz,gy] [ns]).bind fun gF=>
  some (({ ({ (default:bN) with bG:=3,b7:=ByteArray.mk #[97,99,108],c4:=([1,2,3,5,6]:List Int),gH:=1,kV:=bw (4 + cx.1) } :bN) with bX:= [] } :bN),gF)) (
  some (({ (default:bN) with bG:=3,b7:=ByteArray.mk #[97,99,108],c4:=([1,2,3,5,6]:List Int),gH:=1,kV:=bw (4 + cx.1) } :bN),[hz,gy]))).bind fun cu=>
 (some ({ b7:=ByteArray.mk #[102],gb:=8,cH:=4:cB })).bind fun ir=>
 (fp dr.2 5).bind fun dC=>
 (kC dC.2).bind fun e7=>
 (cond e7.1 (
  (some ({ b7:=ByteArray.mk #[103],gb:=9,cH:=1:cB })).bind fun j4=>
  (some ({ b7:=ByteArray.mk #[100],gb:=7,cH:=2:cB })).bind fun ko=>
  (gB 32 [ir] [j4,ko]).bind fun gL=>
  some (({ ({ (default:bN) with bG:=4,b7:=ByteArray.mk #[115,112,97,110,115],c4:=([1,3,5]:List Int),gH:=3,sg:= [({ (default:al) with bS:=7#64 } :al)],kV:=bw (3 + dC.1) } :bN) with bX:= [] } :bN),gL)) (
  some (({ (default:bN) with bG:=4,b7:=ByteArray.mk #[115,112,97,110,115],c4:=([1,3,5]:List Int),gH:=3,sg:= [({ (default:al) with bS:=7#64 } :al)],kV:=bw (3 + dC.1) } :bN),[ir]))).bind fun eL=>
 (some ([dw,({ bB.1 with bX:=bB.2 } :bN),({ cu.1 with bX:=cu.2 } :bN),({ eL.1 with bX:=eL.2 } :bN)])).bind fun iu=>
 (some ([ByteArray.mk #[],ByteArray.mk #[97,32,33,61,32,48],ByteArray.mk #[97,32,60,32,49,52,32,38,38,32,97,32,33,61,32,51]])).bind fun g5=>
 (some ([ByteArray.mk #[],ByteArray.mk #[100,58,58,112,114,101,102,105,120,95,108,101,110,103,116,104,32,62,61,32,56],ByteArray.mk #[100,58,58,112,114,101,102,105,120,95,108,101,110,103,116,104,32,61,61,32,51,50,32,45,62,32,100,58,58,118,97,108,117,101,32,62,32,48,120,102,102]])).bind fun kO=>
 (some ([ByteArray.mk #[],ByteArray.mk #[112,114,105,111,114,105,116,121,32,60,32,49,48,48,32,38,38,32,40,101,58,58,109,97,115,107,32,33,61,32,48,32,124,124,32,97,58,58,109,97,115,107,32,33,61,32,48,41],ByteArray.mk #[101,58,58,109,97,115,107,32,61,61,32,48,32,45,62,32,112,114,105,111,114,105,116,121,32,62,32,53]])).bind fun kn=>
 (some ([ByteArray.mk #[],ByteArray.mk #[102,58,58,104,105,103,104,32,45,32,102,58,58,108,111,119,32,60,61,32,48,120,49,48,48],ByteArray.mk #[33,40,102,58,58,108,111,119,32,61,61,32,48,32,38,38,32,102,58,58,104,105,103,104,32,62,32,49,48,48,48,41]])).bind fun j3=>
 (dW (σ:=Int × (List bN) × bk) (ε:=(Int × Bool × (List bN) × bk)) eu (fun s1=>
  cond (decide (s1.1 < (iu.length:Int))) (
   (idx ([g5,kO,kn,j3].length) s1.1).bind fun aW=>
   (fp s1.2.2 3).bind fun fT=>
   (idx ((aF [g5,kO,kn,j3] aW).length) fT.1).bind fun bR=>
   (idx s1.2.1.length s1.1).bind fun dj=>
   (some (iB s1.2.1 dj ({ (aF s1.2.1 dj) with oV:=aF (aF [g5,kO,kn,j3] aW) bR } :bN))).bind fun k6=>
   some (.inl (bw (s1.1 + 1),k6,fT.2))) (
   some (.inr (s1.1,decide (s1.1 < (iu.length:Int)),s1.2.1,s1.2.2)))) (0,iu,e7.2)).bind fun av=>
 some (av.2.2.1,av.2.2.2)
def wY (J:bk) (aj:List bN):Option ((List cy) × bk):=
 (fp J 3).bind fun ak=>
 (fp ak.2 6).bind fun aO=>
 (fp aO.2 6).bind fun bc=>
 (fp bc.2 4).bind fun br=>
 (dW (σ:=Int × cy × (List da) × bk × cy × (List da) × cy × (List da)) (ε:=(Int × Bool × cy × (List da) × bk × cy × (List da) × cy × (List da))) eu (fun s1=>
  cond (decide (s1.1 < (aj.length:Int))) (
   (idx aj.length s1.1).bind fun aW=>
   (tt (α:=Bool) 1 (((aF aj aW).bX).length:Int)).bind fun cx=>
   (tt (α:=Bool) 1 (((aF aj aW).bX).length:Int)).bind fun dr=>
   (dW (σ:=Int × (List Bool) × (List Bool) × bk) (ε:=(Int × Bool × (List Bool) × (List Bool) × bk)) eu (fun s2=>
    cond (decide (s2.1 < (cx.length:Int))) (
     (fp s2.2.2.2 4).bind fun dC=>
     (idx s2.2.2.1.length s2.1).bind fun bR=>
     (idx s2.2.1.length s2.1).bind fun dj=>
     some (.inl (bw (s2.1 + 1),iB s2.2.1 dj (decide (dC.1 > 0)),iB s2.2.2.1 bR true,dC.2))) (
     some (.inr (s2.1,decide (s2.1 < (cx.length:Int)),s2.2.1,s2.2.2.1,s2.2.2.2)))) (0,dr,cx,s1.2.2.2.1)).bind fun aX=>
   (some ({ dD:=(aF aj aW).bG,pT:=true,pO:=true,bX:=aX.2.2.2.1:da })).bind fun bg=>
   (gB 40 s1.2.2.2.2.2.2.2 [bg]).bind fun e7=>
   (fp aX.2.2.2.2 4).bind fun fT=>
   (cond (decide (fT.1 > 0)) (
    (fp fT.2 4).bind fun hU=>
    (kC hU.2).bind fun kL=>
    (some ({ dD:=(aF aj aW).bG,pT:=decide (hU.1 > 0),pO:=kL.1,bX:=aX.2.2.1:da })).bind fun ft=>
    (gB 40 s1.2.2.2.2.2.1 [ft]).bind fun pr=>
    some (kL.2,({ s1.2.2.2.2.1 with ix:= [] } :cy),pr)) (
    some (fT.2,s1.2.2.2.2.1,s1.2.2.2.2.2.1))).bind fun bB=>
   (kC bB.1).bind fun gL=>
   (cond gL.1 (
    (kC gL.2).bind fun gF=>
    (kC gF.2).bind fun gT=>
    (some ({ dD:=(aF aj aW).bG,pT:=gF.1,pO:=gT.1,bX:=aX.2.2.2.1:da })).bind fun dw=>
    (gB 40 s1.2.2.1 [dw]).bind fun gU=>
    some (gT.2,({ s1.2.1 with ix:= [] } :cy),gU)) (
    some (gL.2,s1.2.1,s1.2.2.1))).bind fun cu=>
   some (.inl (bw (s1.1 + 1),cu.2.1,cu.2.2,cu.1,bB.2.1,bB.2.2,({ s1.2.2.2.2.2.2.1 with ix:= [] } :cy),e7))) (
   some (.inr (s1.1,decide (s1.1 < (aj.length:Int)),s1.2.1,s1.2.2.1,s1.2.2.2.1,s1.2.2.2.2.1,s1.2.2.2.2.2.1,s1.2.2.2.2.2.2.1,s1.2.2.2.2.2.2.2)))) (0,({ (default:cy) with bG:=7,b7:=ByteArray.mk #[102,101,119],c4:= [bw (1 + bc.1)],pN:=br.1 } :cy),([]:List da),br.2,({ (default:cy) with bG:=2,b7:=ByteArray.mk #[115,111,109,101],c4:=([1,2,bw (3 + ak.1)]:List Int),pN:=bw (1 + aO.1) } :cy),([]:List da),({ (default:cy) with bG:=1,b7:=ByteArray.mk #[97,108,108],c4:=([1,2,3,4,5,6]:List Int),pN:=40,xT:=true } :cy),([]:List da))).bind fun av=>
 (some (({ av.2.2.2.2.2.2.2.1 with ix:=av.2.2.2.2.2.2.2.2 } :cy))).bind fun hz=>
 (some ([hz,({ av.2.2.2.2.2.1 with ix:=av.2.2.2.2.2.2.1 } :cy),({ av.2.2.1 with ix:=av.2.2.2.1 } :cy)])).bind fun gy=>
 some (gy,av.2.2.2.2.1)
def ug (J:bk):Option (aY × bk):=
 (fp J 8).bind fun ak=>
 (fp ak.2 30).bind fun aO=>
 (some ({ bG:=1,b7:=ByteArray.mk #[105,110,103,114,101,115,115],eP:=16:fa })).bind fun bg=>
 (some ({ bG:=2,b7:=ByteArray.mk #[101,103,114,101,115,115],eP:=16:fa })).bind fun dw=>
 (some ({ bG:=3,b7:=ByteArray.mk #[109,101,116,97],eP:=8:fa })).bind fun ft=>
 (some ({ bG:=6,b7:=ByteArray.mk #[101],eP:=8:fa })).bind fun hz=>
 (some ({ bG:=7,b7:=ByteArray.mk #[100],eP:=32:fa })).bind fun gy=>
 (some ({ bG:=8,b7:=ByteArray.mk #[102],eP:=12:fa })).bind fun ir=>
 (some ({ bG:=9,b7:=ByteArray.mk #[103],eP:=4:fa })).bind fun iu=>
 (some ([bg,dw,ft,{ bG:=4,b7:=ByteArray.mk #[97],eP:=4:fa },{ bG:=5,b7:=ByteArray.mk #[98],eP:=4:fa },hz,gy,ir,iu])).bind fun g5=>
 (some (({ ({ (default:aY) with xE:=bw (2 + ak.1),xM:=bw (12 + aO.1) } :aY) with e3:=g5 } :aY))).bind fun kO=>
 (some ({ bG:=1,b7:=ByteArray.mk #[111,110,101],e3:=([4,5,6]:List Int):iL })).bind fun kn=>
 (some ({ bG:=2,b7:=ByteArray.mk #[116,119,111],e3:=([7]:List Int):iL })).bind fun j3=>
 (some ({ bG:=3,b7:=ByteArray.mk #[116,104,114,101,101],e3:=([8,9]:List Int):iL })).bind fun k6=>
 (wO aO.2).bind fun bc=>
 (wK bc.2).bind fun br=>
 (wQ br.2).bind fun cx=>
 (some (({ ({ kO with kQ:= [kn,j3,k6] } :aY) with ln:=bc.1 } :aY))).bind fun j4=>
 (some (({ ({ j4 with c4:=br.1 } :aY) with bQ:=cx.1 } :aY))).bind fun ko=>
 (wY cx.2 ko.bQ).bind fun dr=>
 (some ([{ dD:=1,hC:=1:fr },{ dD:=2,hC:=2:fr },({ (default:fr) with dD:=3 } :fr),{ dD:=4,hC:=3:fr }])).bind fun ns=>
 (kC dr.2).bind fun dC=>
 (cond dC.1 (
  (gB 16 ns [({ (default:fr) with dD:=1 } :fr)]).bind fun hU=>
  some hU) (
  some ns)).bind fun bB=>
 (kC dC.2).bind fun e7=>
 (cond e7.1 (
  (some (({ (default:eG) with dD:=2,lP:=4,n7:=1 } :eG))).bind fun FT=>
  (gB 48 ([]:List eG) [FT]).bind fun gU=>
  some (({ ({ ({ ko with iP:=dr.1 } :aY) with mu:= [] } :aY) with nf:= [] } :aY),gU)) (
  some (({ ({ ko with iP:=dr.1 } :aY) with mu:= [] } :aY),([]:List eG)))).bind fun cu=>
 (kC e7.2).bind fun fT=>
 (cC fT.1 true (idx cu.1.bQ.length 2)).bind fun aW=>
 (cond (fT.1 && ((((aF cu.1.bQ aW).bX).length:Int) ==3)) (
  (some (({ (default:eG) with dD:=3,sQ:=2,n7:=1 } :eG))).bind fun pq=>
  (gB 48 cu.2 [pq]).bind fun gT=>
  some (({ cu.1 with nf:= [] } :aY),gT)) (
  some (cu.1,cu.2))).bind fun eL=>
 (kC fT.2).bind fun gL=>
 (cC gL.1 true (idx eL.1.bQ.length 3)).bind fun bR=>
 (cond (gL.1 && ((((aF eL.1.bQ bR).bX).length:Int) ==3)) (
  (some (({ (default:eG) with dD:=4,sQ:=1,n7:=1 } :eG))).bind fun l7=>
  (some (({ (default:eG) with dD:=4,lP:=5,n7:=1 } :eG))).bind fun qk=>
  (gB 48 eL.2 [l7,qk]).bind fun gF=>
  some (({ eL.1 with nf:= [] } :aY),gF)) (
  some (eL.1,eL.2))).bind fun nW=>
 (some (({ ({ nW.1 with mu:=bB } :aY) with nf:=nW.2 } :aY))).bind fun nV=>
 some (nV,gL.2)
def qT (J:Int) (aj:Int):Option Int:=
 cond (decide (aj < 1)) (
  some 0) (
  (rB J aj).bind fun ak=>
  (rB (bw (ak + aj)) aj).bind fun aO=>
  some aO)
def AH (J:bN) (aj:Int):Option Bool:=
 some (J.bG ==aj)
def wz (J:List bN) (aj:bN→Option Bool):Option Int:=
 (dW (σ:=Int) (ε:=(Int × Bool) ⊕ (Int × Int × Int × Bool × Bool)) eu (fun s1=>
  cond (decide (s1 < (J.length:Int))) (
   (idx J.length s1).bind fun aW=>
   (aj (aF J aW)).bind fun ak=>
   cond ak (
    some (.inr (Sum.inr (s1,s1,s1,decide (s1 < (J.length:Int)),ak)))) (
    some (.inl (bw (s1 + 1))))) (
   some (.inr (Sum.inl (s1,decide (s1 < (J.length:Int))))))) 0).bind fun av=>
  Sum.elim (fun av=>
   some (-1)) (fun av=>
  some av.1) av
def qS (J:aY) (aj:Int):Option Int:=
 (wz J.bQ (fun hF=>AH hF aj)).bind fun ak=>
 some ak
def uC (J:bN):Option (Int × Int):=
 (dW (σ:=Int × Int × Int) (ε:=(Int × Int × Int × Bool)) eu (fun s1=>
  cond (decide (s1.2.2 < (J.bX.length:Int))) (
   (idx J.bX.length s1.2.2).bind fun aW=>
   (cond (((aF J.bX aW).cH) ==1) (
    some (s1.1,s1.2.1)) (
    (cond (((aF J.bX aW).cH) ==2) (
     some (max s1.1 2,s1.2.2)) (
     some (3,s1.2.1))).bind fun cu=>
    some (cu.1,cu.2))).bind fun bB=>
   some (.inl (bB.1,bB.2,bw (s1.2.2 + 1)))) (
   some (.inr (s1.1,s1.2.1,s1.2.2,decide (s1.2.2 < (J.bX.length:Int)))))) (1,0,0)).bind fun av=>
 some (av.1,av.2.1)
def A2 (hp:a1 Cell):aC (Ref × (a1 Cell)):=
 aC.bind (aC.mk hp (Cell.oo ([]:List ((Vector al 4) × Int)))) fun dL=>
 aC.bind (aC.mk dL.2 (Cell.vD ({ oe:=(⟨some dL.1⟩:gf):mq }))) fun ef=>
 aC.ret ((some ef.1:Ref),ef.2)
def AI (J:fa) (aj:Int):Option Bool:=
 some (J.bG ==aj)
def wA (J:List fa) (aj:fa→Option Bool):Option Int:=
 (dW (σ:=Int) (ε:=(Int × Bool) ⊕ (Int × Int × Int × Bool × Bool)) eu (fun s1=>
  cond (decide (s1 < (J.length:Int))) (
   (idx J.length s1).bind fun aW=>
   (aj (aF J aW)).bind fun ak=>
   cond ak (
    some (.inr (Sum.inr (s1,s1,s1,decide (s1 < (J.length:Int)),ak)))) (
    some (.inl (bw (s1 + 1))))) (
   some (.inr (Sum.inl (s1,decide (s1 < (J.length:Int))))))) 0).bind fun av=>
  Sum.elim (fun av=>
   some (-1)) (fun av=>
  some av.1) av
def ur (J:aY) (aj:Int):Option Int:=
 (wA J.e3 (fun hF=>AI hF aj)).bind fun ak=>
 some ak
def Dk (J:aY):Option cF:=
 some ({ ({ (default:cF) with m8:=J } :cF) with cb:=([]:List aJ) } :cF)
def m5 (hp:a1 Cell) (J:aY) (aj:Int):aC (Ref × (a1 Cell)):=
 aC.bind (aC.of (qS J aj)) fun ak=>
 cond (decide (ak < 0)) (
  aC.ret ((none:Ref),hp)) (
  aC.bind (aC.of (idx J.bQ.length ak)) fun aW=>
  aC.bind (aC.of (uC (aF J.bQ aW))) fun aO=>
  aC.bind (aC.mk hp (Cell.lz ([]:List (Int × aJ)))) fun dL=>
  aC.bind (aC.of (some (({ (default:gA) with oa:=aO.1,nH:=(((aF J.bQ aW).bX).length:Int),ll:=(⟨some dL.1⟩:gf) } :gA)))) fun bg=>
  aC.bind (aC.mk dL.2 (Cell.mP bg)) fun ef=>
  aC.bind (cond (aO.1 ==1) (
    aC.bind (A2 ef.2) fun bc=>
    aC.bind (aC.of (h2 bc.2 ef.1)) fun cd=>
    aC.bind (aC.of (some (dH bc.2 ef.1 (Cell.mP ({ cd with iM:=(gm.lX ({ ps:=bc.1:jR })) } :gA))))) fun dF=>
    aC.ret dF) (
    aC.bind (cond (aO.1 ==2) (
      aC.bind (aC.of (idx (((aF J.bQ aW).bX).length) aO.2)) fun bR=>
      aC.bind (aC.of (ur J ((aF ((aF J.bQ aW).bX) bR).gb))) fun br=>
      aC.bind (aC.of (cond (decide (br≥0)) (
        (idx J.e3.length br).bind fun dj=>
        some ((aF J.e3 dj).eP)) (
        some 0))) fun eL=>
      aC.bind (aC.mk ef.2 (Cell.mQ ([]:List ((Vector al 4) × Ref)))) fun jq=>
      aC.bind (aC.of (some ({ p2:=aO.2,ey:=eL,fE:=(⟨some jq.1⟩:gf):dY }))) fun dw=>
      aC.bind (aC.of (h2 jq.2 ef.1)) fun cS=>
      aC.bind (aC.of (some (dH jq.2 ef.1 (Cell.mP ({ cS with iM:=(gm.lY dw) } :gA))))) fun eJ=>
      aC.ret eJ) (
      aC.bind (aC.of (Dk J)) fun cx=>
      aC.bind (aC.any (Option Nat × Nat)) fun e6=>
      aC.bind (aC.mk ef.2 (Cell.rA cx e6.1 e6.2)) fun mh=>
      aC.bind (aC.of (h2 mh.2 ef.1)) fun e2=>
      aC.bind (aC.of (some (dH mh.2 ef.1 (Cell.mP ({ e2 with iM:=(gm.lZ ({ cb:=(some mh.1:Ref):je })) } :gA))))) fun h7=>
      aC.ret h7)) fun cu=>
    aC.ret cu)) fun bB=>
  aC.ret ((some ef.1:Ref),bB))
def wN (J:bk):Option Bool:=
 some (decide (J.qc < (J.cb.length:Int)))
def xl (J:aY) (aj:Int):Option Int:=
 (dW (σ:=Int) (ε:=(Int × Bool) ⊕ (Int × Int × Bool × Bool)) eu (fun s1=>
  cond (decide (s1 < (J.e3.length:Int))) (
   (idx J.e3.length s1).bind fun aW=>
   cond (((aF J.e3 aW).bG) ==aj) (
    some (.inr (Sum.inr ((aF J.e3 aW).eP,s1,decide (s1 < (J.e3.length:Int)),((aF J.e3 aW).bG) ==aj)))) (
    some (.inl (bw (s1 + 1))))) (
   some (.inr (Sum.inl (s1,decide (s1 < (J.e3.length:Int))))))) 0).bind fun av=>
  Sum.elim (fun av=>
   some 0) (fun av=>
  some av.1) av
def sk (J:al) (aj:Int):Option al:=
 cond (decide (aj≥128)) (
  some J) (
  cond (decide (aj≥64)) (
   (some (J.dt &&& (((1#64) <<< (BitVec.ofInt 64 (bw (aj - 64))).toNat) - (1#64)))).bind fun bg=>
   some ({ dt:=bg,bS:=J.bS:al })) (
   cond (decide (aj≤0)) (
    some (default:al)) (
    (some (({ (default:al) with bS:=J.bS &&& (((1#64) <<< (BitVec.ofInt 64 aj).toNat) - (1#64)) } :al))).bind fun dw=>
    some dw)))
def AZ (J:Int) (aj:Int):Option al:=
 (some ((((1#64) <<< (BitVec.ofInt 64 J).toNat) - (1#64)) - (((1#64) <<< (BitVec.ofInt 64 (bw (J - aj))).toNat) - (1#64)))).bind fun bg=>
 some ({ (default:al) with bS:=bg } :al)
def w3 (J:bk) (aj:aY) (aS:cB):Option (ca × bk):=
 (xl aj aS.gb).bind fun ak=>
 (fp J 256).bind fun aO=>
 (fp aO.2 16).bind fun bc=>
 (some (((BitVec.ofInt 64 aO.1) <<< (24#64).toNat) ||| ((BitVec.ofInt 64 bc.1) <<< (8#64).toNat))).bind fun bg=>
 (fp bc.2 16).bind fun br=>
 (some (({ (default:al) with bS:=bg ||| (BitVec.ofInt 64 br.1) } :al))).bind fun dw=>
 (sk dw ak).bind fun cx=>
 cond (aS.cH ==2) (
  (fp br.2 5).bind fun dr=>
  cond (decide (dr.1 > 0)) (
   (fp dr.2 ak).bind fun dC=>
   (fp dC.2 5).bind fun e7=>
   (idx ([ak,8,16,1,bw (1 + dC.1)].length) e7.1).bind fun aW=>
   (AZ ak (aF [ak,8,16,1,bw (1 + dC.1)] aW)).bind fun fT=>
   (some (({ (default:al) with bS:=cx.bS &&& fT.bS } :al))).bind fun ft=>
   (some (({ (default:ca) with gu:=true,dO:=aF [ak,8,16,1,bw (1 + dC.1)] aW,cL:=ft } :ca))).bind fun hz=>
   some (hz,e7.2)) (
   some ((default:ca),dr.2))) (
  cond (aS.cH ==3) (
   (fp br.2 256).bind fun gL=>
   (fp gL.2 5).bind fun gF=>
   (idx (([255,15,1,12,gL.1]:List Int).length) gF.1).bind fun bR=>
   (some (({ (default:al) with bS:=BitVec.ofInt 64 (aF ([255,15,1,12,gL.1]:List Int) bR) } :al))).bind fun gy=>
   (sk gy ak).bind fun gT=>
   cond (gT.bS !=(0#64)) (
    (some (({ (default:al) with bS:=cx.bS &&& gT.bS } :al))).bind fun ir=>
    (some (({ (default:ca) with gu:=true,gK:=gT,cL:=ir } :ca))).bind fun iu=>
    some (iu,gF.2)) (
    some ((default:ca),gF.2))) (
   cond (aS.cH ==4) (
    (fp br.2 256).bind fun gU=>
    (some (ta (cx.bS + (BitVec.ofInt 64 gU.1)) (((1#64) <<< (BitVec.ofInt 64 ak).toNat) - (1#64)))).bind fun g5=>
    (fp gU.2 5).bind fun hU=>
    (some ((decide (hU.1 > 0)) && (!((cx.bS ==(0#64)) && (g5 ==(((1#64) <<< (BitVec.ofInt 64 ak).toNat) - (1#64))))))).bind fun kO=>
    cond kO (
     (some (({ (default:ca) with gu:=true,cL:=cx,jg:=({ (default:al) with bS:=g5 } :al) } :ca))).bind fun kn=>
     some (kn,hU.2)) (
     some ((default:ca),hU.2))) (
    (some (({ (default:ca) with gu:=true,cL:=cx } :ca))).bind fun j3=>
    some (j3,br.2))))
def w9 (J:aY) (aj:Int):Option dy:=
 (dW (σ:=Int) (ε:=(Int × Bool) ⊕ (Int × Bool × Bool × dy)) eu (fun s1=>
  cond (decide (s1 < (J.c4.length:Int))) (
   (idx J.c4.length s1).bind fun aW=>
   cond (((aF J.c4 aW).bG) ==aj) (
    some (.inr (Sum.inr (s1,decide (s1 < (J.c4.length:Int)),((aF J.c4 aW).bG) ==aj,(aF J.c4 aW))))) (
    some (.inl (bw (s1 + 1))))) (
   some (.inr (Sum.inl (s1,decide (s1 < (J.c4.length:Int))))))) 0).bind fun av=>
  Sum.elim (fun av=>
   some (default:dy)) (fun av=>
  some av.2.2.2) av
def w4 (J:bk) (aj:aY) (aS:Int):Option (bu × bk):=
 (qT aS (aj.bQ.length:Int)).bind fun ak=>
 (idx aj.bQ.length ak).bind fun aW=>
 (dW (σ:=Int × bu × (List ca) × bk) (ε:=(Int × Bool × bu × (List ca) × bk)) eu (fun s1=>
  cond (decide (s1.1 < (((aF aj.bQ aW).bX).length:Int))) (
   (idx (((aF aj.bQ aW).bX).length) s1.1).bind fun bR=>
   (w3 s1.2.2.2 aj (aF ((aF aj.bQ aW).bX) bR)).bind fun aO=>
   (gB 64 s1.2.2.1 [aO.1]).bind fun bc=>
   (some ((((aF ((aF aj.bQ aW).bX) bR).cH) ==3) || (((aF ((aF aj.bQ aW).bX) bR).cH) ==4))).bind fun bg=>
   (cond bg (
    (fp aO.2 5).bind fun br=>
    (some (({ ({ s1.2.1 with bW:= [] } :bu) with g7:=bw (1 + br.1) } :bu))).bind fun dw=>
    some (dw,br.2)) (
    some (({ s1.2.1 with bW:= [] } :bu),aO.2))).bind fun bB=>
   some (.inl (bw (s1.1 + 1),bB.1,bc,bB.2))) (
   some (.inr (s1.1,decide (s1.1 < (((aF aj.bQ aW).bX).length:Int)),s1.2.1,s1.2.2.1,s1.2.2.2)))) (0,({ (default:bu) with dD:=(aF aj.bQ aW).bG } :bu),([]:List ca),J)).bind fun av=>
 (fp av.2.2.2.2 (((aF aj.bQ aW).c4).length:Int)).bind fun cx=>
 (idx (((aF aj.bQ aW).c4).length) cx.1).bind fun dj=>
 (some (({ av.2.2.1 with lP:=aF ((aF aj.bQ aW).c4) dj } :bu))).bind fun ft=>
 (w9 aj ft.lP).bind fun dr=>
 (dW (σ:=Int × bu × (List al) × bk) (ε:=(Int × Bool × bu × (List al) × bk)) eu (fun s2=>
  cond (decide (s2.1 < (dr.jt.length:Int))) (
   (idx dr.jt.length s2.1).bind fun hM=>
   (fp s2.2.2.2 256).bind fun dC=>
   (some (({ (default:al) with bS:=BitVec.ofInt 64 dC.1 } :al))).bind fun hz=>
   (sk hz ((aF dr.jt hM).eP)).bind fun e7=>
   (gB 16 s2.2.2.1 [e7]).bind fun fT=>
   some (.inl (bw (s2.1 + 1),({ s2.2.1 with jU:= [] } :bu),fT,dC.2))) (
   some (.inr (s2.1,decide (s2.1 < (dr.jt.length:Int)),s2.2.1,s2.2.2.1,s2.2.2.2)))) (0,ft,([]:List al),cx.2)).bind fun aX=>
 (some (({ ({ aX.2.2.1 with bW:=av.2.2.2.1 } :bu) with jU:=aX.2.2.2.1 } :bu))).bind fun gy=>
 some (gy,aX.2.2.2.2)
def sf (J:bu):Option (Vector al 4):=
 (pW J.bW 0 (min (J.bW.length:Int) 4)).bind fun ak=>
 (dW (σ:=Int × (Vector al 4)) (ε:=(Int × Bool × (Vector al 4))) eu (fun s1=>
  cond (decide (s1.1 < (ak.length:Int))) (
   (idx ak.length s1.1).bind fun aW=>
   (idx 4 s1.1).bind fun bR=>
   some (.inl (bw (s1.1 + 1),c2 s1.2 bR ((aF ak aW).cL)))) (
   some (.inr (s1.1,decide (s1.1 < (ak.length:Int)),s1.2)))) (0,(default:Vector al 4))).bind fun av=>
 some av.2.2
def uk (hp:a1 Cell) (J:Ref) (aj:Vector al 4):Option (Int × Bool):=
 cond J.isNone (
  some (0,false)) (
  (J).bind fun cW=>
  (nk hp cW).bind fun cd=>
  (cd.oe.p).bind fun ct=>
  (lU hp ct).bind fun cS=>
  (some (dX cS aj)).bind fun bg=>
  some (bg.getD default,bg.isSome))
def wW (hp:a1 Cell) (J:jR) (aj:bu):Option (Int × Bool):=
 (sf aj).bind fun ak=>
 (uk hp J.ps ak).bind fun aO=>
 some (aO.1,aO.2)
def ub (J:dY) (aj:Vector al 4):Option ((Vector al 4) × al):=
 (idx 4 J.p2).bind fun aW=>
 (idx 4 J.p2).bind fun bR=>
 some ((c2 aj bR (default:al)),(bJ aj aW))
def tZ (J:dY) (aj:bu):Option ((Vector al 4) × al × Int):=
 (sf aj).bind fun ak=>
 (ub J ak).bind fun aO=>
 cond (decide (J.p2≥ (aj.bW.length:Int))) (
  some (aO.1,aO.2,0)) (
  (idx aj.bW.length J.p2).bind fun aW=>
  some (aO.1,aO.2,(aF aj.bW aW).dO))
def uD (J:Int):Option Int:=
 some (min (max 0 J) 128)
def uH (J:al) (aj:Int):Option al:=
 cond (decide (aj≤0)) (
  some J) (
  cond (decide (aj≥64)) (
   (some (({ (default:al) with bS:=J.dt >>> (BitVec.ofInt 64 (bw (aj - 64))).toNat } :al))).bind fun bg=>
   some bg) (
   (some ((J.bS >>> (BitVec.ofInt 64 aj).toNat) ||| (J.dt <<< (BitVec.ofInt 64 (bw (64 - aj))).toNat))).bind fun dw=>
   (some ({ dt:=J.dt >>> (BitVec.ofInt 64 aj).toNat,bS:=dw:al })).bind fun ft=>
   some ft))
def sh (J:Int):Option al:=
 (some ({ dt:=18446744073709551615#64,bS:=18446744073709551615#64:al })).bind fun bg=>
 (uD J).bind fun ak=>
 (uH bg (bw (128 - ak))).bind fun aO=>
 some aO
def xA (J:al) (aj:al):Option al:=
 (some ({ dt:=J.dt ^^^ aj.dt,bS:=J.bS ^^^ aj.bS:al })).bind fun bg=>
 some bg
def uw (J:Int) (aj:Int):Option al:=
 (uD J).bind fun ak=>
 (sh ak).bind fun aO=>
 (sh (bw (ak - (min (max 0 aj) ak)))).bind fun bc=>
 (xA aO bc).bind fun br=>
 some br
def qV (J:al) (aj:al):Option al:=
 (some ({ dt:=J.dt &&& aj.dt,bS:=J.bS &&& aj.bS:al })).bind fun bg=>
 some bg
def uj (hp:a1 Cell) (J:Ref) (aj:al) (aS:Int):Option Bool:=
 (cC (J.isSome && (decide (aS≥0))) true (J)).bind fun cW=>
 (cC (J.isSome && (decide (aS≥0))) true (gd hp cW)).bind fun cd=>
 (cC ((J.isSome && (decide (aS≥0))) && (decide (aS≤cd.ey))) true (J)).bind fun ct=>
 (cC ((J.isSome && (decide (aS≥0))) && (decide (aS≤cd.ey))) true (gd hp ct)).bind fun cS=>
 (cC ((J.isSome && (decide (aS≥0))) && (decide (aS≤cd.ey))) true (uw cS.ey aS)).bind fun ak=>
 (cC ((J.isSome && (decide (aS≥0))) && (decide (aS≤cd.ey))) true (qV aj ak)).bind fun aO=>
 (some (((J.isSome && (decide (aS≥0))) && (decide (aS≤cd.ey))) && (decide (aO=aj)))).bind fun bg=>
 some bg
def xa (J:Ref) (aj:al) (aS:Int):Option (Int × al × Ref):=
 some (aS,aj,J)
def sl (J:al) (aj:Int):Option Bool:=
 (cC ((decide (aj≥0)) && (decide (aj < 128))) true (uH J aj)).bind fun ak=>
 (some (((decide (aj≥0)) && (decide (aj < 128))) && ((ak.bS &&& (1#64)) ==(1#64)))).bind fun bg=>
 some bg
def r8 {σ ε:Type} (aj:Int) (aS:al) (cn:Ref) (hq:σ→a1 Cell) (step:Int→σ→aC (σ ⊕ ε)) (b1:σ):aC (σ ⊕ ε):=
 aC.bind (oi (σ:=Int × (σ)) (ε:=(Int × Bool × (σ)) ⊕ (Int × Int × Int × Bool × Bool × Bool × (ε))) eu (fun s1=>
   cond (decide (s1.1 < aj)) (
    aC.bind (aC.of (cn)) fun cW=>
    aC.bind (aC.of (gd (hq s1.2) cW)) fun cd=>
    aC.bind (aC.of (sl aS (bw ((bw (cd.ey - 1)) - s1.1)))) fun ak=>
    aC.bind (aC.of (cond ak (
      some 1) (
      some 0))) fun bB=>
    aC.bind (step bB s1.2) fun aO=>
    Sum.elim (fun s2=>
     aC.ret (.inl (bw (s1.1 + 1),s2))) (fun c6=>
     aC.ret (.inr (Sum.inr (s1.1,bB,s1.1,decide (s1.1 < aj),ak,!false,c6)))) aO) (
    aC.ret (.inr (Sum.inl (s1.1,decide (s1.1 < aj),s1.2))))) (0,b1)) fun av=>
   Sum.elim (fun av=>
    aC.ret (.inl av.2.2:σ ⊕ ε)) (fun av=>
   aC.ret (.inr av.2.2.2.2.2.2:σ ⊕ ε)) av
def pG {σ ε:Type} (hp:a1 Cell) (aj:Int) (aS:al) (cn:Ref) (step:Int→σ→Option (σ ⊕ ε)) (b1:σ):Option (σ ⊕ ε):=
 (dW (σ:=Int × (σ)) (ε:=(Int × Bool × (σ)) ⊕ (Int × Int × Int × Bool × Bool × Bool × (ε))) eu (fun s1=>
  cond (decide (s1.1 < aj)) (
   (cn).bind fun cW=>
   (gd hp cW).bind fun cd=>
   (sl aS (bw ((bw (cd.ey - 1)) - s1.1))).bind fun ak=>
   (cond ak (
    some 1) (
    some 0)).bind fun bB=>
   (step bB s1.2).bind fun aO=>
   Sum.elim (fun s2=>
    some (.inl (bw (s1.1 + 1),s2))) (fun c6=>
    some (.inr (Sum.inr (s1.1,bB,s1.1,decide (s1.1 < aj),ak,!false,c6)))) aO) (
   some (.inr (Sum.inl (s1.1,decide (s1.1 < aj),s1.2))))) (0,b1)).bind fun av=>
  Sum.elim (fun av=>
   some (.inl av.2.2)) (fun av=>
  some (.inr av.2.2.2.2.2.2)) av
def uq (hp:a1 Cell) (J:Ref) (aj:al) (aS:Int):Option Ref:=
 (uj hp J aj aS).bind fun ak=>
 cond (!ak) (
  some (none:Ref)) (
  (J).bind fun cW=>
  (gd hp cW).bind fun cd=>
  (xa J aj aS).bind fun aO=>
  (pG hp aO.1 aO.2.1 aO.2.2 (σ:=Ref) (ε:=Ref × Ref) (fun(rI:Int) (s1:Ref)=>
   cond s1.isNone (
    some (.inr (s1,(none:Ref)))) (
    (s1).bind fun ct=>
    (idx 2 rI).bind fun aW=>
    (de hp ct).bind fun cS=>
    some (.inl (bJ cS.er aW)))) cd.cV).bind fun av=>
  Sum.elim (fun s1=>
   some s1) (fun az=>
   some az.2) av)
def uz (hp:a1 Cell) (J:Ref) (aj:al) (aS:Int):Option (Int × Bool):=
 (uq hp J aj aS).bind fun ak=>
 (cC ak.isNone false (ak)).bind fun cW=>
 (cC ak.isNone false (de hp cW)).bind fun cd=>
 cond (ak.isNone || (!cd.eV)) (
  some (0,false)) (
  (ak).bind fun ct=>
  (de hp ct).bind fun cS=>
  some (cS.jC,true))
def wL (hp:a1 Cell) (J:dY) (aj:bu):Option (Int × Bool):=
 (tZ J aj).bind fun ak=>
 (J.fE.p).bind fun cW=>
 (jz hp cW).bind fun cd=>
 (some ((dX cd ak.1).getD default)).bind fun bg=>
 (uz hp bg ak.2.1 ak.2.2).bind fun aO=>
 some (aO.1,aO.2)
def Au (J:List ca):Option (List ca):=
 (gB 64 ([]:List ca) J).bind fun ak=>
 some ak
def Av (J:List al):Option (List al):=
 (gB 16 ([]:List al) J).bind fun ak=>
 some ak
def A3 (J:bu):Option bu:=
 (Au J.bW).bind fun ak=>
 (Av J.jU).bind fun aO=>
 (some (({ ({ J with bW:=ak } :bu) with jU:=aO } :bu))).bind fun bg=>
 some bg
def m4 (J:aJ):Option aJ:=
 (A3 J.bH).bind fun ak=>
 some ({ J with bH:=ak } :aJ)
def uM (J:List aJ):Option (List aJ):=
 (dW (σ:=Int × (List aJ)) (ε:=(Int × Bool × (List aJ))) eu (fun s1=>
  cond (decide (s1.1 < (J.length:Int))) (
   (idx J.length s1.1).bind fun aW=>
   (m4 (aF J aW)).bind fun ak=>
   (gB 88 s1.2 [ak]).bind fun aO=>
   some (.inl (bw (s1.1 + 1),aO))) (
   some (.inr (s1.1,decide (s1.1 < (J.length:Int)),s1.2)))) (0,([]:List aJ))).bind fun av=>
 some av.2.2
def wG (J:cF):Option (List aJ):=
 (uM J.cb).bind fun ak=>
 some ak
def wC (J:List ca) (aj:List ca):Option Bool:=
 cond ((J.length:Int) !=(aj.length:Int)) (
  some false) (
  (dW (σ:=Int) (ε:=(Int × Bool) ⊕ (Int × Int × Bool × Bool)) eu (fun s1=>
   cond (decide (s1 < (J.length:Int))) (
    (idx J.length s1).bind fun aW=>
    (idx aj.length s1).bind fun bR=>
    cond (!decide (aF J aW=aF aj bR)) (
     some (.inr (Sum.inr (s1,s1,decide (s1 < (J.length:Int)),!decide (aF J aW=aF aj bR))))) (
     some (.inl (bw (s1 + 1))))) (
    some (.inr (Sum.inl (s1,decide (s1 < (J.length:Int))))))) 0).bind fun av=>
   Sum.elim (fun av=>
    some true) (fun av=>
   some false) av)
def xb (J:bu) (aj:bu):Option Bool:=
 (cC (J.dD ==aj.dD) true (wC J.bW aj.bW)).bind fun ak=>
 some (((J.dD ==aj.dD) && ak) && (J.g7 ==aj.g7))
def w2 (hp:a1 Cell) (J:je) (aj:bu):Option (Int × Bool):=
 (J.cb).bind fun cW=>
 (nm hp cW).bind fun cd=>
 (wG cd.1).bind fun ak=>
 (dW (σ:=Int) (ε:=(Int × Bool) ⊕ (Int × Bool × Int × Bool × Bool)) eu (fun s1=>
  cond (decide (s1 < (ak.length:Int))) (
   (idx ak.length s1).bind fun aW=>
   (xb ((aF ak aW).bH) aj).bind fun aO=>
   cond aO (
    some (.inr (Sum.inr ((aF ak aW).cI,true,s1,decide (s1 < (ak.length:Int)),aO)))) (
    some (.inl (bw (s1 + 1))))) (
   some (.inr (Sum.inl (s1,decide (s1 < (ak.length:Int))))))) 0).bind fun av=>
  Sum.elim (fun av=>
   some (0,false)) (fun av=>
  some (av.1,av.2.1)) av
def Dd (hp:a1 Cell) (y:gm) (J:bu):Option (Int × Bool):=match y with
 | .nil=>none
 | .lX z=>wW hp z J
 | .lY z=>wL hp z J
 | .lZ z=>w2 hp z J
def AW (hp:a1 Cell) (J:Ref) (aj:Vector al 4) (aS:Int):Option (Bool × (a1 Cell)):=
 cond J.isNone (
  some (false,hp)) (
  (J).bind fun cW=>
  (nk hp cW).bind fun cd=>
  (cd.oe.p).bind fun ct=>
  (lU hp ct).bind fun cS=>
  (some (dX cS aj)).bind fun bg=>
  cond bg.isSome (
   some (false,hp)) (
   (some (dH hp ct (Cell.oo (g3 cS aj aS)))).bind fun dF=>
   some (true,dF)))
def w6 (hp:a1 Cell) (J:jR) (aj:aJ):Option (a1 Cell):=
 (sf aj.bH).bind fun ak=>
 (AW hp J.ps ak aj.cI).bind fun aO=>
 some aO.2
def A5 (hp:a1 Cell) (J:Int):aC (Ref × (a1 Cell)):=
 aC.bind (aC.of (some (({ (default:fM) with ey:=min (max 1 J) 128 } :fM)))) fun bg=>
 aC.bind (aC.mk hp (Cell.jB bg)) fun dL=>
 aC.ret ((some dL.1:Ref),dL.2)
def uA (hp:a1 Cell) (J:Ref) (aj:al) (aS:Int) (cn:Int):aC (Bool × (a1 Cell)):=
 aC.bind (aC.of (uj hp J aj aS)) fun ak=>
 cond (!ak) (
  aC.ret (false,hp)) (
  aC.bind (aC.of (uq hp J aj aS)) fun aO=>
  aC.bind (aC.of (cC aO.isSome true (aO))) fun cW=>
  aC.bind (aC.of (cC aO.isSome true (de hp cW))) fun cd=>
  cond (aO.isSome && cd.eV) (
   aC.ret (false,hp)) (
   aC.bind (aC.of (J)) fun ct=>
   aC.bind (aC.of (gd hp ct)) fun cS=>
   aC.bind (cond cS.cV.isNone (
     aC.bind (aC.mk hp (Cell.gS (default:ep))) fun ef=>
     aC.bind (aC.of (gd ef.2 ct)) fun z7=>
     aC.bind (aC.of (some (dH ef.2 ct (Cell.jB ({ z7 with cV:=(some ef.1:Ref) } :fM))))) fun zt=>
     aC.ret zt) (
     aC.ret hp)) fun bB=>
   aC.bind (aC.of (gd bB ct)) fun e2=>
   aC.bind (aC.of (xa J aj aS)) fun bc=>
   aC.bind (r8 bc.1 bc.2.1 bc.2.2 (σ:=Ref × (a1 Cell)) (ε:=Empty) (fun(s2:Ref × (a1 Cell))=>s2.2) (fun(vW:Int) (s2:Ref × (a1 Cell))=>
     aC.bind (aC.of (s2.1)) fun oP=>
     aC.bind (aC.of (idx 2 vW)) fun aW=>
     aC.bind (aC.of (de s2.2 oP)) fun r1=>
     aC.bind (cond ((bJ r1.er aW).isNone) (
       aC.bind (aC.mk s2.2 (Cell.gS (default:ep))) fun dL=>
       aC.bind (aC.of (idx 2 vW)) fun dj=>
       aC.bind (aC.of (de dL.2 oP)) fun qG=>
       aC.bind (aC.of (some (dH dL.2 oP (Cell.gS ({ qG with er:=c2 qG.er dj (some dL.1:Ref) } :ep))))) fun dF=>
       aC.ret dF) (
       aC.ret s2.2)) fun cu=>
     aC.bind (aC.of (idx 2 vW)) fun bR=>
     aC.bind (aC.of (de cu oP)) fun tP=>
     aC.ret (.inl (bJ tP.er bR,cu):(Ref × (a1 Cell)) ⊕ Empty)) (e2.cV,bB)) fun aX=>
   Sum.elim (fun s2=>
    aC.bind (aC.of (s2.1)) fun iZ=>
    aC.bind (aC.of (de s2.2 iZ)) fun wi=>
    aC.bind (aC.of (some (dH s2.2 iZ (Cell.gS ({ wi with eV:=true } :ep))))) fun eJ=>
    aC.bind (aC.of (s2.1)) fun GV=>
    aC.bind (aC.of (de eJ GV)) fun GW=>
    aC.bind (aC.of (some (dH eJ GV (Cell.gS ({ GW with jC:=cn } :ep))))) fun h7=>
    aC.ret (true,h7)) (fun c6=>
    Empty.elim c6) aX))
def wS (hp:a1 Cell) (J:dY) (aj:aJ):aC (a1 Cell):=
 aC.bind (aC.of (tZ J aj.bH)) fun ak=>
 aC.bind (aC.of (J.fE.p)) fun cW=>
 aC.bind (aC.of (jz hp cW)) fun cd=>
 aC.bind (aC.of (some ((dX cd ak.1).getD default))) fun bg=>
 aC.bind (cond bg.isNone (
   aC.bind (A5 hp J.ey) fun bc=>
   aC.bind (aC.of (jz bc.2 cW)) fun e2=>
   aC.bind (aC.of (some (dH bc.2 cW (Cell.mQ (g3 e2 ak.1 bc.1))))) fun dF=>
   aC.ret dF) (
   aC.ret hp)) fun bB=>
 aC.bind (aC.of (jz bB cW)) fun cS=>
 aC.bind (aC.of (some ((dX cS ak.1).getD default))) fun dw=>
 aC.bind (uA bB dw ak.2.1 ak.2.2 aj.cI) fun aO=>
 aC.ret aO.2
def Ax (J:aJ) (aj:Int):Option Bool:=
 some (J.cI ==aj)
def wx (J:List aJ) (aj:aJ→Option Bool):Option Int:=
 (dW (σ:=Int) (ε:=(Int × Bool) ⊕ (Int × Int × Int × Bool × Bool)) eu (fun s1=>
  cond (decide (s1 < (J.length:Int))) (
   (idx J.length s1).bind fun aW=>
   (aj (aF J aW)).bind fun ak=>
   cond ak (
    some (.inr (Sum.inr (s1,s1,s1,decide (s1 < (J.length:Int)),ak)))) (
    some (.inl (bw (s1 + 1))))) (
   some (.inr (Sum.inl (s1,decide (s1 < (J.length:Int))))))) 0).bind fun av=>
  Sum.elim (fun av=>
   some (-1)) (fun av=>
  some av.1) av
def wI (J:cF) (aj:Int):Option Int:=
 (wx J.cb (fun hF=>Ax hF aj)).bind fun ak=>
 some ak
def wv (J:List aJ) (aj:aJ) (aS:aJ→aJ→Option Int):Option (Int × Bool):=
 (dW (σ:=Int × Int) (ε:=(Int × Int × Bool)) eu (fun s1=>
  cond (decide (s1.1 < s1.2)) (
   (idx J.length (bw ((BitVec.ofInt 64 (bw (s1.1 + s1.2))) >>> (1#64).toNat).toNat)).bind fun aW=>
   (aS (aF J aW) aj).bind fun ak=>
   (cond (decide (ak < 0)) (
    (some (bw ((bw ((BitVec.ofInt 64 (bw (s1.1 + s1.2))) >>> (1#64).toNat).toNat) + 1))).bind fun bg=>
    some (bg,s1.2)) (
    some (s1.1,bw ((BitVec.ofInt 64 (bw (s1.1 + s1.2))) >>> (1#64).toNat).toNat))).bind fun bB=>
   some (.inl (bB.1,bB.2))) (
   some (.inr (s1.1,s1.2,decide (s1.1 < s1.2))))) (0,(J.length:Int))).bind fun av=>
 (cC (decide (av.1 < (J.length:Int))) true (idx J.length av.1)).bind fun bR=>
 (cC (decide (av.1 < (J.length:Int))) true (aS (aF J bR) aj)).bind fun aO=>
 some (av.1,(decide (av.1 < (J.length:Int))) && (aO ==0))
def xc (J:Int):Option Bool:=
 some (J !=J)
def sc (J:Int) (aj:Int):Option Int:=
 (xc J).bind fun ak=>
 (xc aj).bind fun aO=>
 cond ak (
  cond aO (
   some 0) (
   some (-1))) (
  cond aO (
   some 1) (
   cond (decide (J < aj)) (
    some (-1)) (
    cond (decide (J > aj)) (
     some 1) (
     some 0))))
def uJ (J:aY) (aj:bu):Option (bN × Bool):=
 (qS J aj.dD).bind fun ak=>
 cond (decide (ak < 0)) (
  some ((default:bN),false)) (
  (idx J.bQ.length ak).bind fun aW=>
  some (aF J.bQ aW,true))
def wB (J:List cB) (aj:cB→Option Bool):Option Int:=
 (dW (σ:=Int) (ε:=(Int × Bool) ⊕ (Int × Int × Int × Bool × Bool)) eu (fun s1=>
  cond (decide (s1 < (J.length:Int))) (
   (idx J.length s1).bind fun aW=>
   (aj (aF J aW)).bind fun ak=>
   cond ak (
    some (.inr (Sum.inr (s1,s1,s1,decide (s1 < (J.length:Int)),ak)))) (
    some (.inl (bw (s1 + 1))))) (
   some (.inr (Sum.inl (s1,decide (s1 < (J.length:Int))))))) 0).bind fun av=>
  Sum.elim (fun av=>
   some (-1)) (fun av=>
  some av.1) av
def Di (J:cB):Option Bool:=
 some (J.cH ==2)
def uG (J:aY) (aj:bu):Option Int:=
 (uJ J aj).bind fun ak=>
 (wB ak.1.bX Di).bind fun aO=>
 (some (((!ak.2) || (decide (aO < 0))) || (decide (aO≥ (aj.bW.length:Int))))).bind fun bg=>
 cond bg (
  some 0) (
  (idx aj.bW.length aO).bind fun aW=>
  some ((aF aj.bW aW).dO))
def xu (J:List Int):Option Int:=
 (dW (σ:=Int) (ε:=(Int × Bool) ⊕ (Int × Int × Int × Bool × Bool)) eu (fun s1=>
  cond (decide (s1 < (J.length:Int))) (
   (idx J.length s1).bind fun aW=>
   cond ((aF J aW) !=0) (
    some (.inr (Sum.inr (aF J aW,aF J aW,s1,decide (s1 < (J.length:Int)),(aF J aW) !=0)))) (
    some (.inl (bw (s1 + 1))))) (
   some (.inr (Sum.inl (s1,decide (s1 < (J.length:Int))))))) 0).bind fun av=>
  Sum.elim (fun av=>
   some 0) (fun av=>
  some av.1) av
def uK (J:aY) (aj:aJ) (aS:aJ):Option Bool:=
 (sc aj.bH.g7 aS.bH.g7).bind fun ak=>
 (uG J aj.bH).bind fun aO=>
 (uG J aS.bH).bind fun bc=>
 (sc aO bc).bind fun br=>
 (sc aj.cI aS.cI).bind fun cx=>
 (xu [ak,br,cx]).bind fun dr=>
 some (decide (dr > 0))
def ud (J:cF) (aj:aJ) (aS:aJ):Option Int:=
 (uK J.m8 aj aS).bind fun ak=>
 cond ak (
  some (-1)) (
  (uK J.m8 aS aj).bind fun aO=>
  cond aO (
   some 1) (
   some 0))
def As (J:List aJ) (aj:Int) (aS:List aJ):Option (List aJ):=zg 88 J aj aS
def wH (J:cF) (aj:aJ):Option (Bool × cF):=
 (cC false false (wI J aj.cI)).bind fun ak=>
 cond (false || (decide (ak≥0))) (
  some (false,J)) (
  (wv J.cb aj (fun hF dL=>ud J hF dL)).bind fun aO=>
  (m4 aj).bind fun bc=>
  (As J.cb aO.1 [bc]).bind fun br=>
  some (true,({ J with cb:=br } :cF)))
def w7 (hp:a1 Cell) (J:je) (aj:aJ):aC (a1 Cell):=
 aC.bind (aC.of (J.cb)) fun cW=>
 aC.bind (aC.of (nm hp cW)) fun cd=>
 aC.bind (aC.of (wH cd.1 aj)) fun ak=>
 aC.bind (aC.any (Option Nat × Nat)) fun az=>
 aC.bind (aC.of (some (dH hp cW (Cell.rA ak.2 az.1 az.2)))) fun dF=>
 aC.ret dF
def Dh (hp:a1 Cell) (y:gm) (J:aJ):aC (a1 Cell):=match y with
 | .nil=>fun _=>False
 | .lX z=>aC.of (w6 hp z J)
 | .lY z=>wS hp z J
 | .lZ z=>w7 hp z J
def w8 (hp:a1 Cell) (J:Ref) (aj:aJ):aC (Bool × (a1 Cell)):=
 cond J.isNone (
  aC.ret (false,hp)) (
  aC.bind (aC.of (J)) fun cW=>
  aC.bind (aC.of (h2 hp cW)) fun cd=>
  aC.bind (aC.of (cd.ll.p)) fun ct=>
  aC.bind (aC.of (mH hp ct)) fun cS=>
  aC.bind (aC.of (some (dX cS aj.cI))) fun bg=>
  aC.bind (aC.of (J)) fun oP=>
  aC.bind (aC.of (h2 hp oP)) fun e2=>
  aC.bind (aC.of (Dd hp e2.iM aj.bH)) fun ak=>
  cond (ak.2 || bg.isSome) (
   aC.ret (false,hp)) (
   aC.bind (aC.of (J)) fun GX=>
   aC.bind (aC.of (h2 hp GX)) fun r1=>
   aC.bind (aC.of (m4 aj)) fun aO=>
   aC.bind (aC.of (r1.ll.p)) fun GY=>
   aC.bind (aC.of (mH hp GY)) fun tP=>
   aC.bind (aC.of (some (dH hp GY (Cell.lz (g3 tP aj.cI aO))))) fun dF=>
   aC.bind (aC.of (h2 dF GX)) fun qG=>
   aC.bind (Dh dF qG.iM aj) fun bc=>
   aC.ret (true,bc)))
def xq (hp:a1 Cell) (J:aY) (aj:bk) (aS:Int) (cn:Int):aC (Ref × (List aJ) × bk × (a1 Cell)):=
 aC.bind (aC.of (qT aS (J.bQ.length:Int))) fun ak=>
 aC.bind (aC.of (idx J.bQ.length ak)) fun aW=>
 aC.bind (m5 hp J ((aF J.bQ aW).bG)) fun aO=>
 aC.bind (oi (σ:=Int × (List aJ) × bk × (a1 Cell)) (ε:=(Int × Bool × (List aJ) × bk × (a1 Cell))) eu (fun s1=>
   aC.bind (aC.of (cC (decide (s1.1 < cn)) true (wN s1.2.2.1))) fun bc=>
   cond ((decide (s1.1 < cn)) && bc) (
    aC.bind (aC.of (w4 s1.2.2.1 J aS)) fun br=>
    aC.bind (aC.of (some (({ bH:=br.1,cI:=s1.1,kE:=1:aJ })))) fun bg=>
    aC.bind (w8 s1.2.2.2 aO.1 bg) fun cx=>
    aC.bind (aC.of (cond cx.1 (
      (some (({ bH:=br.1,cI:=s1.1,kE:=1:aJ }))).bind fun dw=>
      (gB 88 s1.2.1 [dw]).bind fun dr=>
      some dr) (
      some s1.2.1))) fun bB=>
    aC.ret (.inl (bw (s1.1 + 1),bB,br.2,cx.2))) (
    aC.ret (.inr (s1.1,(decide (s1.1 < cn)) && bc,s1.2.1,s1.2.2.1,s1.2.2.2)))) (0,([]:List aJ),aj,aO.2)) fun av=>
 aC.ret (aO.1,av.2.2.1,av.2.2.2.1,av.2.2.2.2)
def ui (J:bk):Option ((Vector al 4) × bk):=
 (dW (σ:=Int × (Vector al 4) × bk) (ε:=(Int × Bool × (Vector al 4) × bk)) eu (fun s1=>
  cond (decide (s1.1 < 4)) (
   (fp s1.2.2 256).bind fun ak=>
   (some (({ (default:al) with bS:=BitVec.ofInt 64 ak.1 } :al))).bind fun bg=>
   (idx 4 s1.1).bind fun aW=>
   (fp ak.2 4).bind fun aO=>
   (cond (aO.1 ==1) (
    (idx 4 s1.1).bind fun bR=>
    (fp aO.2 256).bind fun bc=>
    (some ((((bJ (c2 s1.2.1 aW bg) bR).bS) <<< (24#64).toNat) ||| (BitVec.ofInt 64 bc.1))).bind fun dw=>
    (idx 4 s1.1).bind fun dj=>
    (some (c2 (c2 s1.2.1 aW bg) dj ({ (bJ (c2 s1.2.1 aW bg) dj) with bS:=dw } :al))).bind fun ft=>
    some (bc.2,ft)) (
    some (aO.2,c2 s1.2.1 aW bg))).bind fun bB=>
   some (.inl (bw (s1.1 + 1),bB.2,bB.1))) (
   some (.inr (s1.1,decide (s1.1 < 4),s1.2.1,s1.2.2)))) (0,(default:Vector al 4),J)).bind fun av=>
 some (av.2.2.1,av.2.2.2)
def xk (J:bu) (aj:Vector al 4):Option (Vector al 4):=
 (dW (σ:=Int × (Vector al 4)) (ε:=(Int × Bool × (Vector al 4))) eu (fun s1=>
  cond (decide (s1.1 < (J.bW.length:Int))) (
   (idx J.bW.length s1.1).bind fun aW=>
   cond ((decide (s1.1≥4)) || (!((aF J.bW aW).gu))) (
    some (.inl (bw (s1.1 + 1),s1.2))) (
    (cond (!decide ((aF J.bW aW).gK=(default:al))) (
     (idx 4 s1.1).bind fun bR=>
     (some ((((bJ s1.2 bR).bS) &&& ~~~(((aF J.bW aW).gK).bS)) ||| (((aF J.bW aW).cL).bS))).bind fun bg=>
     (idx 4 s1.1).bind fun dj=>
     (some ((((bJ s1.2 dj).dt) &&& ~~~(((aF J.bW aW).gK).dt)) ||| (((aF J.bW aW).cL).dt))).bind fun dw=>
     (idx 4 s1.1).bind fun hM=>
     (idx 4 s1.1).bind fun qE=>
     (some (c2 (c2 s1.2 hM ({ (bJ s1.2 hM) with bS:=bg } :al)) qE ({ (bJ (c2 s1.2 hM ({ (bJ s1.2 hM) with bS:=bg } :al)) qE) with dt:=dw } :al))).bind fun ft=>
     some ft) (
     (some ((decide (((aF J.bW aW).dO) > 0)) && (decide (((aF J.bW aW).dO)≤32)))).bind fun hz=>
     (cond hz (
      (idx 4 s1.1).bind fun rX=>
      (some ((1#64) <<< (BitVec.ofInt 64 (bw (32 - ((aF J.bW aW).dO)))).toNat)).bind fun gy=>
      (some ((((aF J.bW aW).cL).bS) ||| (((bJ s1.2 rX).bS) &&& (gy - (1#64))))).bind fun ir=>
      (idx 4 s1.1).bind fun CP=>
      (some (c2 s1.2 CP ({ (default:al) with bS:=ir } :al))).bind fun iu=>
      some iu) (
      (idx 4 s1.1).bind fun CQ=>
      some (c2 s1.2 CQ ((aF J.bW aW).cL)))).bind fun cu=>
     some cu)).bind fun bB=>
    some (.inl (bw (s1.1 + 1),bB)))) (
   some (.inr (s1.1,decide (s1.1 < (J.bW.length:Int)),s1.2)))) (0,aj)).bind fun av=>
 some av.2.2
def wJ (hp:a1 Cell) (J:jR) (aj:Vector al 4):Option (Int × Bool):=
 (uk hp J.ps aj).bind fun ak=>
 some (ak.1,ak.2)
def um (J:BitVec 64):Option Int:=
 (cond (decide (J≥ (4294967296#64))) (
  some (J >>> (32#64).toNat,32)) (
  some (J,0))).bind fun bB=>
 (cond (decide (bB.1≥ (65536#64))) (
  some (bB.1 >>> (16#64).toNat,bw (bB.2 + 16))) (
  some (bB.1,bB.2))).bind fun cu=>
 (cond (decide (cu.1≥ (256#64))) (
  some (cu.1 >>> (8#64).toNat,bw (cu.2 + 8))) (
  some (cu.1,cu.2))).bind fun eL=>
 (zh (ByteArray.mk (List.toArray (List.append (List.append [0,1,2,2,3,3,3,3,4,4,4,4,4,4,4,4,5,5,5,5,5,5,5,5,5,5,5,5,5,5,5,5,6,6,6,6,6,6,6,6,6,6,6,6,6,6,6,6,6,6,6,6,6,6,6,6,6,6,6,6,6,6,6,6] [7,7,7,7,7,7,7,7,7,7,7,7,7,7,7,7,7,7,7,7,7,7,7,7,7,7,7,7,7,7,7,7,7,7,7,7,7,7,7,7,7,7,7,7,7,7,7,7,7,7,7,7,7,7,7,7,7,7,7,7,7,7,7,7]) (List.append [8,8,8,8,8,8,8,8,8,8,8,8,8,8,8,8,8,8,8,8,8,8,8,8,8,8,8,8,8,8,8,8,8,8,8,8,8,8,8,8,8,8,8,8,8,8,8,8,8,8,8,8,8,8,8,8,8,8,8,8,8,8,8,8] [8,8,8,8,8,8,8,8,8,8,8,8,8,8,8,8,8,8,8,8,8,8,8,8,8,8,8,8,8,8,8,8,8,8,8,8,8,8,8,8,8,8,8,8,8,8,8,8,8,8,8,8,8,8,8,8,8,8,8,8,8,8,8,8])))) ((eL.1.setWidth 8).toNat:Int)).bind fun ak=>
 some (bw (eL.2 + (ak.toNat:Int)))
def A4 (J:al):Option Int:=
 cond (J.dt !=(0#64)) (
  (um J.dt).bind fun ak=>
  some (bw (64 + ak))) (
  (um J.bS).bind fun aO=>
  some aO)
def xx (J:al) (aj:Int):Option Bool:=
 (A4 J).bind fun ak=>
 some (decide (ak≤aj))
def r6 (hp:a1 Cell) (J:Ref) (aj:Int) (aS:Int) (cn:Int) (CR:Bool):Option (Int × Int × Bool):=
 (cC J.isSome true (J)).bind fun cW=>
 (cC J.isSome true (de hp cW)).bind fun cd=>
 (cond (J.isSome && cd.eV) (
  (J).bind fun ct=>
  (de hp ct).bind fun cS=>
  some (aj,cS.jC,true)) (
  some (aS,cn,CR))).bind fun bB=>
 some (bB.1,bB.2.1,bB.2.2)
def w0 (hp:a1 Cell) (J:Ref) (aj:al):Option (Int × Int × Bool):=
 (cC J.isNone false (J)).bind fun cW=>
 (cC J.isNone false (gd hp cW)).bind fun cd=>
 (cC J.isNone false (xx aj cd.ey)).bind fun ak=>
 cond (J.isNone || (!ak)) (
  some (0,0,false)) (
  (J).bind fun ct=>
  (gd hp ct).bind fun cS=>
  (r6 hp cS.cV 0 0 0 false).bind fun aO=>
  (xa J aj cS.ey).bind fun bc=>
  (pG hp bc.1 bc.2.1 bc.2.2 (σ:=Ref × Int × Int × Int × Bool) (ε:=Ref × Int × Int × Int × Bool) (fun(rI:Int) (s1:Ref × Int × Int × Int × Bool)=>
   cond s1.1.isNone (
    some (.inr (s1.1,s1.2.1,s1.2.2.1,s1.2.2.2.1,s1.2.2.2.2))) (
    (s1.1).bind fun oP=>
    (idx 2 rI).bind fun aW=>
    (de hp oP).bind fun e2=>
    (r6 hp (bJ e2.er aW) (bw (s1.2.1 + 1)) s1.2.2.1 s1.2.2.2.1 s1.2.2.2.2).bind fun br=>
    some (.inl (bJ e2.er aW,bw (s1.2.1 + 1),br.1,br.2.1,br.2.2)))) (cS.cV,0,aO.1,aO.2.1,aO.2.2)).bind fun av=>
  Sum.elim (fun s1=>
   some (s1.2.2.1,s1.2.2.2.1,s1.2.2.2.2)) (fun c6=>
   some (c6.2.2.1,c6.2.2.2.1,c6.2.2.2.2)) av)
def wF (hp:a1 Cell) (J:dY) (aj:Vector al 4):Option (Int × Bool):=
 (ub J aj).bind fun ak=>
 (J.fE.p).bind fun cW=>
 (jz hp cW).bind fun cd=>
 (some ((dX cd ak.1).getD default)).bind fun bg=>
 (sh J.ey).bind fun aO=>
 (qV ak.2 aO).bind fun bc=>
 (w0 hp bg bc).bind fun br=>
 some (br.2.1,br.2.2)
def C2 (aj:Vector al 4):Option (Vector al 4):=
 some aj
def xm (J:aY) (aj:cB):Option Int:=
 (ur J aj.gb).bind fun ak=>
 cond (decide (ak < 0)) (
  some 0) (
  (idx J.e3.length ak).bind fun aW=>
  some ((aF J.e3 aW).eP))
def uu (J:al) (aj:al):Option Int:=
 cond (decide (J=aj)) (
  some 0) (
  (some ((decide (J.dt < aj.dt)) || ((J.dt ==aj.dt) && (decide (J.bS < aj.bS))))).bind fun bg=>
  cond bg (
   some (-1)) (
   some 1))
def xo (J:ca) (aj:Int) (aS:Int) (cn:al):Option Bool:=
 cond (!J.gu) (
  some ((decide (aj≥1)) && (decide (aj≤4)))) (
  cond (aj ==1) (
   some (decide (cn=J.cL))) (
   cond (aj ==2) (
    (uw aS J.dO).bind fun ak=>
    (qV cn ak).bind fun aO=>
    (qV J.cL ak).bind fun bc=>
    some (decide (aO=bc))) (
    cond (aj ==3) (
     (qV cn J.gK).bind fun br=>
     some (decide (br=J.cL))) (
     cond (aj ==4) (
      (uu J.cL cn).bind fun cx=>
      (cC (decide (cx≤0)) true (uu cn J.jg)).bind fun dr=>
      some ((decide (cx≤0)) && (decide (dr≤0)))) (
      some false)))))
def uy (J:aY) (aj:bu) (aS:Vector al 4):Option Bool:=
 (uJ J aj).bind fun ak=>
 cond (!ak.2) (
  some false) (
  (dW (σ:=Int) (ε:=(Int × Bool) ⊕ (Int × Int × Bool × Bool)) eu (fun s1=>
   cond (decide (s1 < (ak.1.bX.length:Int))) (
    (idx ak.1.bX.length s1).bind fun aW=>
    (cC ((decide (s1≥ (aj.bW.length:Int))) || (decide (s1≥4))) false (idx aj.bW.length s1)).bind fun bR=>
    (cC ((decide (s1≥ (aj.bW.length:Int))) || (decide (s1≥4))) false (xm J (aF ak.1.bX aW))).bind fun aO=>
    (cC ((decide (s1≥ (aj.bW.length:Int))) || (decide (s1≥4))) false (idx 4 s1)).bind fun dj=>
    (cC ((decide (s1≥ (aj.bW.length:Int))) || (decide (s1≥4))) false (xo (aF aj.bW bR) ((aF ak.1.bX aW).cH) aO (bJ aS dj))).bind fun bc=>
    (some (((decide (s1≥ (aj.bW.length:Int))) || (decide (s1≥4))) || (!bc))).bind fun bg=>
    cond bg (
     some (.inr (Sum.inr (s1,s1,decide (s1 < (ak.1.bX.length:Int)),bg)))) (
     some (.inl (bw (s1 + 1))))) (
    some (.inr (Sum.inl (s1,decide (s1 < (ak.1.bX.length:Int))))))) 0).bind fun av=>
   Sum.elim (fun av=>
    some true) (fun av=>
   some false) av)
def wy {σ ε:Type} (aj:cF) (aS:Vector al 4) (step:aJ→σ→Option (σ ⊕ ε)) (b1:σ):Option (σ ⊕ ε):=
 (dW (σ:=Int × (σ)) (ε:=(Int × Bool × (σ)) ⊕ (Int × Bool × Bool × (ε))) eu (fun s1=>
  cond (decide (s1.1 < (aj.cb.length:Int))) (
   (idx aj.cb.length s1.1).bind fun aW=>
   (uy aj.m8 ((aF aj.cb aW).bH) aS).bind fun ak=>
   cond ak (
    (step (aF aj.cb aW) s1.2).bind fun aO=>
    Sum.elim (fun s2=>
     some (.inl (bw (s1.1 + 1),s2))) (fun c6=>
     some (.inr (Sum.inr (s1.1,decide (s1.1 < (aj.cb.length:Int)),ak && (!false),c6)))) aO) (
    some (.inl (bw (s1.1 + 1),s1.2)))) (
   some (.inr (Sum.inl (s1.1,decide (s1.1 < (aj.cb.length:Int)),s1.2))))) (0,b1)).bind fun av=>
  Sum.elim (fun av=>
   some (.inl av.2.2)) (fun av=>
  some (.inr av.2.2.2)) av
def tY (J:cF) (aj:Vector al 4):Option (aJ × Bool):=
 (C2 aj).bind fun ak=>
 (wy J ak (σ:=Unit) (ε:=Bool × aJ) (fun(rI:aJ) (s1:Unit)=>
  (m4 rI).bind fun aO=>
  some (.inr (true,aO))) ()).bind fun av=>
 Sum.elim (fun s1=>
  some ((default:aJ),false)) (fun az=>
  some (az.2,az.1)) av
def wM (hp:a1 Cell) (J:je) (aj:Vector al 4):Option (Int × Bool):=
 (J.cb).bind fun cW=>
 (nm hp cW).bind fun cd=>
 (tY cd.1 aj).bind fun ak=>
 some (ak.1.cI,ak.2)
def C6 (hp:a1 Cell) (y:gm) (J:Vector al 4):Option (Int × Bool):=match y with
 | .nil=>none
 | .lX z=>wJ hp z J
 | .lY z=>wF hp z J
 | .lZ z=>wM hp z J
def wZ (hp:a1 Cell) (J:Ref) (aj:Int) (aS:Bool):Option (aJ × Bool):=
 cond (!aS) (
  some ((default:aJ),false)) (
  (J).bind fun cW=>
  (h2 hp cW).bind fun cd=>
  (cd.ll.p).bind fun ct=>
  (mH hp ct).bind fun cS=>
  (some ((dX cS aj).getD default)).bind fun bg=>
  (m4 bg).bind fun ak=>
  some (ak,true))
def wT (hp:a1 Cell) (J:Ref) (aj:Vector al 4):Option (aJ × Bool):=
 cond J.isNone (
  some ((default:aJ),false)) (
  (dW (σ:=Int × (Vector al 4)) (ε:=(Int × Bool × (Vector al 4))) eu (fun s1=>
   cond (decide (s1.1 < 4)) (
    (J).bind fun cW=>
    (h2 hp cW).bind fun cd=>
    (cond (decide (s1.1≥cd.nH)) (
     (idx 4 s1.1).bind fun aW=>
     some (c2 s1.2 aW (default:al))) (
     some s1.2)).bind fun bB=>
    some (.inl (bw (s1.1 + 1),bB))) (
    some (.inr (s1.1,decide (s1.1 < 4),s1.2)))) (0,aj)).bind fun av=>
  (J).bind fun ct=>
  (h2 hp ct).bind fun cS=>
  (C6 hp cS.iM av.2.2).bind fun ak=>
  (wZ hp J ak.1 ak.2).bind fun aO=>
  some (aO.1,aO.2))
def uP (J:aY):Option (Vector (List Int) 6):=
 (dW (σ:=Int × (List Int) × (Vector (List Int) 6)) (ε:=(Int × Bool × (List Int) × (Vector (List Int) 6))) eu (fun s1=>
  cond (decide (s1.1 < (J.e3.length:Int))) (
   (idx J.e3.length s1.1).bind fun aW=>
   (gB 8 s1.2.1 [(aF J.e3 aW).bG]).bind fun ak=>
   some (.inl (bw (s1.1 + 1),ak,c2 s1.2.2 0 []))) (
   some (.inr (s1.1,decide (s1.1 < (J.e3.length:Int)),s1.2.1,s1.2.2)))) (0,([]:List Int),(default:Vector (List Int) 6))).bind fun av=>
 (dW (σ:=Int × (List Int) × (Vector (List Int) 6)) (ε:=(Int × Bool × (List Int) × (Vector (List Int) 6))) eu (fun s2=>
  cond (decide (s2.1 < (J.kQ.length:Int))) (
   (idx J.kQ.length s2.1).bind fun bR=>
   (gB 8 s2.2.1 [(aF J.kQ bR).bG]).bind fun aO=>
   some (.inl (bw (s2.1 + 1),aO,c2 s2.2.2 1 []))) (
   some (.inr (s2.1,decide (s2.1 < (J.kQ.length:Int)),s2.2.1,s2.2.2)))) (0,([]:List Int),av.2.2.2)).bind fun aX=>
 (dW (σ:=Int × (List Int) × (Vector (List Int) 6)) (ε:=(Int × Bool × (List Int) × (Vector (List Int) 6))) eu (fun ky=>
  cond (decide (ky.1 < (J.ln.length:Int))) (
   (idx J.ln.length ky.1).bind fun dj=>
   (gB 8 ky.2.1 [(aF J.ln dj).bG]).bind fun bc=>
   some (.inl (bw (ky.1 + 1),bc,c2 ky.2.2 2 []))) (
   some (.inr (ky.1,decide (ky.1 < (J.ln.length:Int)),ky.2.1,ky.2.2)))) (0,([]:List Int),aX.2.2.2)).bind fun dk=>
 (dW (σ:=Int × (List Int) × (Vector (List Int) 6)) (ε:=(Int × Bool × (List Int) × (Vector (List Int) 6))) eu (fun lg=>
  cond (decide (lg.1 < (J.c4.length:Int))) (
   (idx J.c4.length lg.1).bind fun hM=>
   (gB 8 lg.2.1 [(aF J.c4 hM).bG]).bind fun br=>
   some (.inl (bw (lg.1 + 1),br,c2 lg.2.2 3 []))) (
   some (.inr (lg.1,decide (lg.1 < (J.c4.length:Int)),lg.2.1,lg.2.2)))) (0,([]:List Int),dk.2.2.2)).bind fun gz=>
 (dW (σ:=Int × (List Int) × (Vector (List Int) 6)) (ε:=(Int × Bool × (List Int) × (Vector (List Int) 6))) eu (fun hf=>
  cond (decide (hf.1 < (J.bQ.length:Int))) (
   (idx J.bQ.length hf.1).bind fun qE=>
   (gB 8 hf.2.1 [(aF J.bQ qE).bG]).bind fun cx=>
   some (.inl (bw (hf.1 + 1),cx,c2 hf.2.2 4 []))) (
   some (.inr (hf.1,decide (hf.1 < (J.bQ.length:Int)),hf.2.1,hf.2.2)))) (0,([]:List Int),gz.2.2.2)).bind fun hN=>
 (dW (σ:=Int × (List Int) × (Vector (List Int) 6)) (ε:=(Int × Bool × (List Int) × (Vector (List Int) 6))) eu (fun hX=>
  cond (decide (hX.1 < (J.iP.length:Int))) (
   (idx J.iP.length hX.1).bind fun rX=>
   (gB 8 hX.2.1 [(aF J.iP rX).bG]).bind fun dr=>
   some (.inl (bw (hX.1 + 1),dr,c2 hX.2.2 5 []))) (
   some (.inr (hX.1,decide (hX.1 < (J.iP.length:Int)),hX.2.1,hX.2.2)))) (0,([]:List Int),hN.2.2.2)).bind fun jn=>
 (some ((c2 (c2 (c2 (c2 (c2 (c2 jn.2.2.2 0 av.2.2.1) 1 aX.2.2.1) 2 dk.2.2.1) 3 gz.2.2.1) 4 hN.2.2.1) 5 jn.2.2.1))).bind fun bg=>
 some bg
def uI (J:List Int) (aj:Int):Option Int:=
 (dW (σ:=Int) (ε:=(Int × Bool) ⊕ (Int × Int × Int × Int × Bool × Bool)) eu (fun s1=>
  cond (decide (s1 < (J.length:Int))) (
   (idx J.length s1).bind fun aW=>
   cond ((aF J aW) ==aj) (
    some (.inr (Sum.inr (s1,s1,aF J aW,s1,decide (s1 < (J.length:Int)),(aF J aW) ==aj)))) (
    some (.inl (bw (s1 + 1))))) (
   some (.inr (Sum.inl (s1,decide (s1 < (J.length:Int))))))) 0).bind fun av=>
  Sum.elim (fun av=>
   some (-1)) (fun av=>
  some av.1) av
def uv (J:aY) (aj:Int):Option Int:=
 (uP J).bind fun ak=>
 (uI (bJ ak 4) aj).bind fun aO=>
 some aO
def xd (J:aY) (aj:Int):Option Int:=
 (uP J).bind fun ak=>
 (uI (bJ ak 0) aj).bind fun aO=>
 some aO
def A0 (J:aY) (aj:Int):Option Int:=
 (xd J aj).bind fun ak=>
 (idx J.e3.length ak).bind fun aW=>
 some ((aF J.e3 aW).eP)
def xf (J:aY) (aj:bN) (aS:Int):Option Int:=
 (idx aj.bX.length aS).bind fun aW=>
 (A0 J ((aF aj.bX aW).gb)).bind fun ak=>
 some ak
def oW (J:al):Option (Vector Bool 128):=
 (dW (σ:=Int × (Vector Bool 128)) (ε:=(Int × Bool × (Vector Bool 128))) eu (fun s1=>
  cond (decide (s1.1 < 64)) (
   (idx 128 s1.1).bind fun aW=>
   (some (c2 s1.2 aW (((J.bS >>> (BitVec.ofInt 64 s1.1).toNat) &&& (1#64)) ==(1#64)))).bind fun bg=>
   (idx 128 (bw (s1.1 + 64))).bind fun bR=>
   (some (c2 bg bR (((J.dt >>> (BitVec.ofInt 64 s1.1).toNat) &&& (1#64)) ==(1#64)))).bind fun dw=>
   some (.inl (bw (s1.1 + 1),dw))) (
   some (.inr (s1.1,decide (s1.1 < 64),s1.2)))) (0,(default:Vector Bool 128))).bind fun av=>
 some av.2.2
def xw (J:Vector Bool 128):Option al:=
 (dW (σ:=Int × al) (ε:=(Int × Bool × al)) eu (fun s1=>
  cond (decide (s1.1 < 64)) (
   (idx 128 s1.1).bind fun aW=>
   (cond (bJ J aW) (
    (some (({ s1.2 with bS:=s1.2.bS ||| ((1#64) <<< (BitVec.ofInt 64 s1.1).toNat) } :al))).bind fun dw=>
    some dw) (
    some s1.2)).bind fun bB=>
   (idx 128 (bw (s1.1 + 64))).bind fun bR=>
   (cond (bJ J bR) (
    (some (({ bB with dt:=bB.dt ||| ((1#64) <<< (BitVec.ofInt 64 s1.1).toNat) } :al))).bind fun bg=>
    some bg) (
    some bB)).bind fun cu=>
   some (.inl (bw (s1.1 + 1),cu))) (
   some (.inr (s1.1,decide (s1.1 < 64),s1.2)))) (0,(default:al))).bind fun av=>
 some av.2.2
def xC (J:al) (aj:al):Option al:=
 (oW J).bind fun ak=>
 (oW aj).bind fun aO=>
 (dW (σ:=Int × (Vector Bool 128)) (ε:=(Int × Bool × (Vector Bool 128))) eu (fun s1=>
  cond (decide (s1.1 < 128)) (
   (idx 128 s1.1).bind fun aW=>
   (cC (bJ s1.2 aW) true (idx 128 s1.1)).bind fun bR=>
   (idx 128 s1.1).bind fun dj=>
   some (.inl (bw (s1.1 + 1),c2 s1.2 dj ((bJ s1.2 aW) && (bJ aO bR))))) (
   some (.inr (s1.1,decide (s1.1 < 128),s1.2)))) (0,ak)).bind fun av=>
 (xw av.2.2).bind fun bc=>
 some bc
def n5 (J:al) (aj:al):Option Int:=
 (oW J).bind fun ak=>
 (oW aj).bind fun aO=>
 (dW (σ:=Int) (ε:=(Int × Bool) ⊕ (Int × Int × Bool × Bool × Bool)) eu (fun s1=>
  cond (decide (s1≥0)) (
   (idx 128 s1).bind fun aW=>
   (idx 128 s1).bind fun bR=>
   cond ((bJ ak aW) !=(bJ aO bR)) (
    (idx 128 s1).bind fun dj=>
    cond (bJ aO dj) (
     some (.inr (Sum.inr ((-1),s1,decide (s1≥0),(bJ ak aW) !=(bJ aO bR),bJ aO dj)))) (
     some (.inr (Sum.inr (1,s1,decide (s1≥0),(bJ ak aW) !=(bJ aO bR),bJ aO dj))))) (
    some (.inl (bw (s1 - 1))))) (
   some (.inr (Sum.inl (s1,decide (s1≥0)))))) 127).bind fun av=>
  Sum.elim (fun av=>
   some 0) (fun av=>
  some av.1) av
def xn (J:ca) (aj:Int) (aS:Int) (cn:al):Option Bool:=
 cond (!J.gu) (
  some ((decide (aj≥1)) && (decide (aj≤4)))) (
  cond (aj ==1) (
   some (decide (cn=J.cL))) (
   cond (aj ==2) (
    (oW cn).bind fun ak=>
    (oW J.cL).bind fun aO=>
    (dW (σ:=Int) (ε:=(Int × Bool) ⊕ (Int × Bool × Bool)) eu (fun s1=>
     cond (decide (s1 < aS)) (
      (cC ((decide (s1≥0)) && (decide (s1 < 128))) true (idx 128 s1)).bind fun aW=>
      (cC ((decide (s1≥0)) && (decide (s1 < 128))) true (idx 128 s1)).bind fun bR=>
      (some (((decide (s1≥0)) && (decide (s1 < 128))) && ((bJ ak aW) !=(bJ aO bR)))).bind fun bg=>
      cond bg (
       some (.inr (Sum.inr (s1,decide (s1 < aS),bg)))) (
       some (.inl (bw (s1 + 1))))) (
      some (.inr (Sum.inl (s1,decide (s1 < aS)))))) (bw (aS - J.dO))).bind fun av=>
     Sum.elim (fun av=>
      some true) (fun av=>
     some false) av) (
    cond (aj ==3) (
     (xC cn J.gK).bind fun bc=>
     some (decide (bc=J.cL))) (
     cond (aj ==4) (
      (n5 J.cL cn).bind fun br=>
      (cC (decide (br≤0)) true (n5 cn J.jg)).bind fun cx=>
      some ((decide (br≤0)) && (decide (cx≤0)))) (
      some false)))))
def xh (J:aY) (aj:bu) (aS:Vector al 4):Option Bool:=
 (uv J aj.dD).bind fun ak=>
 (idx J.bQ.length ak).bind fun aW=>
 (dW (σ:=Int) (ε:=(Int × Bool) ⊕ (Int × Int × Bool × Bool)) eu (fun s1=>
  cond (decide (s1 < (((aF J.bQ aW).bX).length:Int))) (
   (idx (((aF J.bQ aW).bX).length) s1).bind fun bR=>
   (idx aj.bW.length s1).bind fun dj=>
   (xf J (aF J.bQ aW) s1).bind fun aO=>
   (idx 4 s1).bind fun hM=>
   (xn (aF aj.bW dj) ((aF ((aF J.bQ aW).bX) bR).cH) aO (bJ aS hM)).bind fun bc=>
   cond (!bc) (
    some (.inr (Sum.inr (s1,s1,decide (s1 < (((aF J.bQ aW).bX).length:Int)),!bc)))) (
    some (.inl (bw (s1 + 1))))) (
   some (.inr (Sum.inl (s1,decide (s1 < (((aF J.bQ aW).bX).length:Int))))))) 0).bind fun av=>
  Sum.elim (fun av=>
   some true) (fun av=>
  some false) av
def uF (J:aY) (aj:bu):Option Int:=
 (uv J aj.dD).bind fun ak=>
 cond (decide (ak < 0)) (
  some 0) (
  (idx J.bQ.length ak).bind fun aW=>
  (dW (σ:=Int) (ε:=(Int × Bool) ⊕ (Int × Int × Int × Bool × Bool)) eu (fun s1=>
   cond (decide (s1 < (((aF J.bQ aW).bX).length:Int))) (
    (idx (((aF J.bQ aW).bX).length) s1).bind fun bR=>
    (some ((((aF ((aF J.bQ aW).bX) bR).cH) ==2) && (decide (s1 < (aj.bW.length:Int))))).bind fun bg=>
    cond bg (
     (idx aj.bW.length s1).bind fun dj=>
     some (.inr (Sum.inr ((aF aj.bW dj).dO,s1,s1,decide (s1 < (((aF J.bQ aW).bX).length:Int)),bg)))) (
     some (.inl (bw (s1 + 1))))) (
    some (.inr (Sum.inl (s1,decide (s1 < (((aF J.bQ aW).bX).length:Int))))))) 0).bind fun av=>
   Sum.elim (fun av=>
    some 0) (fun av=>
   some av.1) av)
def xr (J:aY) (aj:aJ) (aS:aJ):Option Bool:=
 cond (aj.bH.g7 !=aS.bH.g7) (
  some (decide (aj.bH.g7 > aS.bH.g7))) (
  (uF J aj.bH).bind fun ak=>
  (uF J aS.bH).bind fun aO=>
  cond (ak !=aO) (
   some (decide (ak > aO))) (
   some (decide (aj.cI > aS.cI))))
def xy (J:aY) (aj:List aJ) (aS:Vector al 4):Option (aJ × Bool):=
 (dW (σ:=Bool × Int × aJ) (ε:=(Bool × Int × Bool × aJ)) eu (fun s1=>
  cond (decide (s1.2.1 < (aj.length:Int))) (
   (idx aj.length s1.2.1).bind fun aW=>
   (xh J ((aF aj aW).bH) aS).bind fun ak=>
   (cC (decide ((ak=true)∧ (!s1.1)=false)) true (xr J (aF aj aW) s1.2.2)).bind fun aO=>
   (cond (ak && ((!s1.1) || aO)) (
    some (true,(aF aj aW))) (
    some (s1.1,s1.2.2))).bind fun bB=>
   some (.inl (bB.1,bw (s1.2.1 + 1),bB.2))) (
   some (.inr (s1.1,s1.2.1,decide (s1.2.1 < (aj.length:Int)),s1.2.2)))) (false,0,(default:aJ))).bind fun av=>
 some (av.2.2.2,av.1)
def oU (J:Int) (aj:Int):Option Int:=
 cond (decide (J < aj)) (
  some (-1)) (
  cond (decide (J > aj)) (
   some 1) (
   some 0))
def xt (J:ca) (aj:ca):Option Int:=
 cond ((J.gu !=aj.gu) && aj.gu) (
  some (-1)) (
  cond (J.gu !=aj.gu) (
   some 1) (
   cond (!decide (J.cL=aj.cL)) (
    (n5 J.cL aj.cL).bind fun ak=>
    some ak) (
    cond (!decide (J.gK=aj.gK)) (
     (n5 J.gK aj.gK).bind fun aO=>
     some aO) (
     cond (J.dO !=aj.dO) (
      (oU J.dO aj.dO).bind fun bc=>
      some bc) (
      (n5 J.jg aj.jg).bind fun br=>
      some br)))))
def xg (J:List ca) (aj:List ca):Option Int:=
 (dW (σ:=Int) (ε:=(Int × Bool) ⊕ (Int × Int × Int × Bool × Bool)) eu (fun s1=>
  cond ((decide (s1 < (J.length:Int))) && (decide (s1 < (aj.length:Int)))) (
   (idx J.length s1).bind fun aW=>
   (idx aj.length s1).bind fun bR=>
   (xt (aF J aW) (aF aj bR)).bind fun ak=>
   cond (ak !=0) (
    some (.inr (Sum.inr (ak,s1,ak,(decide (s1 < (J.length:Int))) && (decide (s1 < (aj.length:Int))),ak !=0)))) (
    some (.inl (bw (s1 + 1))))) (
   some (.inr (Sum.inl (s1,(decide (s1 < (J.length:Int))) && (decide (s1 < (aj.length:Int)))))))) 0).bind fun av=>
  Sum.elim (fun av=>
   (oU (J.length:Int) (aj.length:Int)).bind fun aO=>
   some aO) (fun av=>
  some av.1) av
def xp (J:List al) (aj:List al):Option Int:=
 (dW (σ:=Int) (ε:=(Int × Bool) ⊕ (Int × Int × Int × Bool × Bool)) eu (fun s1=>
  cond ((decide (s1 < (J.length:Int))) && (decide (s1 < (aj.length:Int)))) (
   (idx J.length s1).bind fun aW=>
   (idx aj.length s1).bind fun bR=>
   (n5 (aF J aW) (aF aj bR)).bind fun ak=>
   cond (ak !=0) (
    some (.inr (Sum.inr (ak,s1,ak,(decide (s1 < (J.length:Int))) && (decide (s1 < (aj.length:Int))),ak !=0)))) (
    some (.inl (bw (s1 + 1))))) (
   some (.inr (Sum.inl (s1,(decide (s1 < (J.length:Int))) && (decide (s1 < (aj.length:Int)))))))) 0).bind fun av=>
  Sum.elim (fun av=>
   (oU (J.length:Int) (aj.length:Int)).bind fun aO=>
   some aO) (fun av=>
  some av.1) av
def xi (J:bu) (aj:bu):Option Int:=
 (oU J.dD aj.dD).bind fun ak=>
 (oU aj.g7 J.g7).bind fun aO=>
 (xg J.bW aj.bW).bind fun bc=>
 (oU J.lP aj.lP).bind fun br=>
 (dW (σ:=Int) (ε:=(Int × Bool) ⊕ (Int × Int × Int × Bool × Bool)) eu (fun s1=>
  cond (decide (s1 < ([ak,aO,bc,br].length:Int))) (
   (idx ([ak,aO,bc,br].length) s1).bind fun aW=>
   cond ((aF [ak,aO,bc,br] aW) !=0) (
    some (.inr (Sum.inr (aF [ak,aO,bc,br] aW,aF [ak,aO,bc,br] aW,s1,decide (s1 < ([ak,aO,bc,br].length:Int)),(aF [ak,aO,bc,br] aW) !=0)))) (
    some (.inl (bw (s1 + 1))))) (
   some (.inr (Sum.inl (s1,decide (s1 < ([ak,aO,bc,br].length:Int))))))) 0).bind fun av=>
  Sum.elim (fun av=>
   (xp J.jU aj.jU).bind fun cx=>
   some cx) (fun av=>
  some av.1) av
def A1 (J:bu) (aj:bu):Option Bool:=
 (xi J aj).bind fun ak=>
 some (ak ==0)
def uN (J:aJ) (aj:aJ):Option Bool:=
 (A1 J.bH aj.bH).bind fun ak=>
 some ((ak && (J.cI ==aj.cI)) && (J.kE ==aj.kE))
def qR (hp:a1 Cell) (J:Ref):Option Int:=
 cond J.isNone (
  some 0) (
  (J).bind fun cW=>
  (h2 hp cW).bind fun cd=>
  some cd.oa)
def xv (hp:a1 Cell):aC (Bool × (a1 Cell)):=
 aC.bind (aC.of (sj ([]:List (BitVec 8)) 0)) fun ak=>
 aC.bind (aC.of (ug ak)) fun aO=>
 aC.bind (m5 hp aO.1 1) fun bc=>
 aC.bind (aC.of (qR bc.2 bc.1)) fun br=>
 aC.bind (cond (decide ((br ==1)=true)) (m5 bc.2 aO.1 2) (aC.ret (default,bc.2))) fun cx=>
 aC.bind (aC.of (cC (br ==1) true (qR cx.2 cx.1))) fun dC=>
 aC.bind (cond (decide (((br ==1) && (dC ==2))=true)) (m5 cx.2 aO.1 3) (aC.ret (default,cx.2))) fun e7=>
 aC.bind (aC.of (cC ((br ==1) && (dC ==2)) true (qR e7.2 e7.1))) fun gL=>
 aC.bind (cond (decide ((((br ==1) && (dC ==2)) && (gL ==3))=true)) (m5 e7.2 aO.1 4) (aC.ret (default,e7.2))) fun gF=>
 aC.bind (aC.of (cC (((br ==1) && (dC ==2)) && (gL ==3)) true (qR gF.2 gF.1))) fun gU=>
 aC.bind (cond (decide (((((br ==1) && (dC ==2)) && (gL ==3)) && (gU ==3))=true)) (m5 gF.2 aO.1 9) (aC.ret (default,gF.2))) fun hU=>
 aC.bind (aC.of (some (((((br ==1) && (dC ==2)) && (gL ==3)) && (gU ==3)) && hU.1.isNone))) fun bg=>
 aC.ret (bg,hU.2)
def w5 (hp:a1 Cell) (J:List (BitVec 8)) (aj:List (BitVec 8)) (aS:Int) (cn:List (Vector al 4)):aC (Bool × (a1 Cell)):=
 aC.bind (aC.of (sj J 120)) fun ak=>
 aC.bind (aC.of (ug ak)) fun aO=>
 aC.bind (aC.of (sj aj 200)) fun bc=>
 aC.bind (xq hp aO.1 bc aS 12) fun br=>
 aC.bind (aC.of (pW cn 0 (min (cn.length:Int) 4))) fun cx=>
 aC.bind (aC.of (gB 64 ([]:List (Vector al 4)) cx)) fun dr=>
 aC.bind (aC.of (ui br.2.2.1)) fun dC=>
 aC.bind (aC.of (gB 64 dr [dC.1])) fun e7=>
 aC.bind (aC.of (dW (σ:=Int × bk × (List (Vector al 4))) (ε:=(Int × Bool × bk × (List (Vector al 4)))) eu (fun s1=>
   cond (decide (s1.1 < (br.2.1.length:Int))) (
    (idx br.2.1.length s1.1).bind fun aW=>
    (ui s1.2.1).bind fun fT=>
    (xk ((aF br.2.1 aW).bH) fT.1).bind fun gL=>
    (gB 64 s1.2.2 [gL]).bind fun gF=>
    some (.inl (bw (s1.1 + 1),fT.2,gF))) (
    some (.inr (s1.1,decide (s1.1 < (br.2.1.length:Int)),s1.2.1,s1.2.2)))) (0,dC.2,e7))) fun av=>
 aC.bind (aC.of (dW (σ:=Int) (ε:=(Int × Bool) ⊕ (Bool × Bool × Int × Bool × Bool)) eu (fun s2=>
   cond (decide (s2 < (av.2.2.2.length:Int))) (
    (idx av.2.2.2.length s2).bind fun bR=>
    (wT br.2.2.2 br.1 (aF av.2.2.2 bR)).bind fun gT=>
    (xy aO.1 br.2.1 (aF av.2.2.2 bR)).bind fun gU=>
    (cC (gT.2 !=gU.2) false (uN gT.1 gU.1)).bind fun hU=>
    cond ((gT.2 !=gU.2) || (!hU)) (
     some (.inr (Sum.inr (gT.2,gU.2,s2,decide (s2 < (av.2.2.2.length:Int)),(gT.2 !=gU.2) || (!hU))))) (
     some (.inl (bw (s2 + 1))))) (
    some (.inr (Sum.inl (s2,decide (s2 < (av.2.2.2.length:Int))))))) 0)) fun aX=>
   Sum.elim (fun aX=>
    aC.bind (xv br.2.2.2) fun kL=>
    aC.ret (kL.1,kL.2)) (fun aX=>
   aC.ret (false,br.2.2.2)) aX
end Go.Proofs.YtmnggbjcnoffeaaGreat
