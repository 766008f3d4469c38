/-
  Each function of the translation as a functional program. Conditions: none.
-/
import Derived.Test.YthkfkliknjiecaaGreatMt
set_option linter.unusedVariables false
set_option linter.unusedSimpArgs false
set_option maxRecDepth 100000
namespace Go.Proofs.YthkfkliknjiecaaGreat
open Go Gv
def ti (ab:List (BitVec 8)) (al:Int):Option b0:=
 (rU ab 0 (min (ab.length:Int) al)).bind fun aG=>
 some ({ (default:b0) with bP:=aG } :b0)
def Cn (ab:b0):Option Bool:=
 some (decide (ab.tY < (ab.bP.length:Int)))
def ij (ab:b0) (al:Int):Option (Int × b0):=
 (Cn ab).bind fun aG=>
 cond ((!aG) || (decide (al < 1))) (
  some (0,ab)) (
  (idx ab.bP.length (bE ((bE (ab.tY + 1)) - 1))).bind fun bn=>
  (vT ((aJ ab.bP bn).toNat:Int) al).bind fun aQ=>
  some (aQ,({ ab with tY:=bE (ab.tY + 1) } :b0)))
def lv (ab:b0):Option (Bool × b0):=
 (ij ab 2).bind fun aG=>
 some (aG.1 ==1,aG.2)
def yJ (ab:b0):Option ((List dB) × b0):=
 (ij ab 4).bind fun aG=>
 (idx (([0,0,65535,3]:List Int).length) aG.1).bind fun bn=>
 (some ({ cL:=({ (default:aw) with cv:=1#64 } :aw),iP:=({ (default:aw) with cv:=15#64 } :aw),pF:=2:gE })).bind fun bJ=>
 (some ({ cL:=({ (default:aw) with cv:=2#64 } :aw),iP:=({ (default:aw) with cv:=3#64 } :aw),pF:=3:gE })).bind fun en=>
 (lv aG.2).bind fun aQ=>
 (cond aQ.1 (
  (ij aQ.2 2).bind fun eU=>
  (some (({ (default:aw) with cv:=BitVec.ofInt 64 (bE (8 * eU.1)) } :aw))).bind fun hX=>
  (ij eU.2 4).bind fun e9=>
  (idx (([0,0,65535,3]:List Int).length) e9.1).bind fun eI=>
  (some ({ cL:=hX,iP:=({ (default:aw) with cv:=8#64 } :aw),pF:=aJ ([0,0,65535,3]:List Int) eI:gE })).bind fun hY=>
  (iI 40 [bJ,en] [hY]).bind fun gm=>
  some (e9.2,gm)) (
  some (aQ.2,[bJ,en]))).bind fun bq=>
 (ij bq.1 4).bind fun bm=>
 (idx (([0,0,65535,3]:List Int).length) bm.1).bind fun c3=>
 (some (({ (default:dB) with bW:=2,h2:=2,g4:=aJ ([0,0,65535,3]:List Int) c3 } :dB))).bind fun fP=>
 (some (({ (default:dB) with bW:=3,h2:=3,nD:=9,g4:=0 } :dB))).bind fun hz=>
 (ij bm.2 3).bind fun cD=>
 (cond (cD.1 ==1) (
  (ij cD.2 3).bind fun c8=>
  (some ({ cL:=({ (default:aw) with cv:=5#64 } :aw),iP:=({ (default:aw) with cv:=15#64 } :aw),pF:=bE (1 + c8.1):gE })).bind fun iB=>
  some (c8.2,({ hz with o3:= [iB] } :dB))) (
  some (cD.2,hz))).bind fun cx=>
 (some (({ ({ (default:dB) with bW:=1,h2:=1,nD:=4,g4:=aJ ([0,0,65535,3]:List Int) bn } :dB) with o3:=bq.2 } :dB))).bind fun gJ=>
 some ([gJ,fP,cx.2],cx.1)
def yG (ab:b0):Option ((List ee) × b0):=
 (some (({ (default:ee) with bW:=1,b6:=ByteArray.mk #[110,111,112] } :ee))).bind fun bJ=>
 (some (({ (default:ee) with bW:=2,b6:=ByteArray.mk #[100,114,111,112],om:= [({ (default:e2) with h8:=6 } :e2)] } :ee))).bind fun en=>
 (some ({ b6:=ByteArray.mk #[112,111,114,116],fz:=16:jb })).bind fun fP=>
 (some (({ (default:e2) with h8:=7,kN:=({ (default:fC) with du:=3 } :fC) } :e2))).bind fun hz=>
 (some (({ (default:ee) with bW:=3,b6:=ByteArray.mk #[102,111,114,119,97,114,100],qB:= [fP],om:= [hz] } :ee))).bind fun gJ=>
 (some ({ h8:=1,jM:=5,kN:=({ (default:fC) with du:=3 } :fC):e2 })).bind fun iB=>
 (some (({ (default:fC) with du:=2,wg:=5 } :fC))).bind fun hX=>
 (some (({ (default:ee) with bW:=4,b6:=ByteArray.mk #[116,97,103],qB:= [{ b6:=ByteArray.mk #[120],fz:=4:jb }],om:= [iB,{ h8:=2,jM:=3,kN:=hX:e2 }] } :ee))).bind fun hY=>
 (some ([{ b6:=ByteArray.mk #[120],fz:=4:jb },{ b6:=ByteArray.mk #[121],fz:=12:jb }])).bind fun lN=>
 (some ({ h8:=1,jM:=9,kN:=({ (default:fC) with du:=3 } :fC):e2 })).bind fun jh=>
 (some (({ (default:fC) with du:=3,wg:=1 } :fC))).bind fun kC=>
 (some ([({ (default:e2) with h8:=4,jM:=3 } :e2),jh,{ h8:=3,jM:=8,kN:=kC:e2 }])).bind fun mb=>
 (some (({ (default:ee) with bW:=5,b6:=ByteArray.mk #[119,114,97,112],qB:=lN,om:=mb } :ee))).bind fun kU=>
 (ij ab 2).bind fun aG=>
 (some (({ (default:e2) with h8:=5,jM:=bE (2 + aG.1) } :e2))).bind fun ll=>
 (ij aG.2 256).bind fun aQ=>
 (some (({ (default:aw) with cv:=BitVec.ofInt 64 aQ.1 } :aw))).bind fun oG=>
 (some (({ (default:fC) with du:=1,cL:=oG } :fC))).bind fun pk=>
 (some (({ (default:ee) with bW:=6,b6:=ByteArray.mk #[115,116,114,105,112],om:= [ll,{ h8:=2,jM:=6,kN:=pk:e2 }] } :ee))).bind fun ng=>
 (lv aQ.2).bind fun bm=>
 (cond bm.1 (
  (idx ([bJ,en,gJ,hY,kU,ng].length) 2).bind fun c3=>
  (some (gv [bJ,en,gJ,hY,kU,ng] c3 ({ (aJ [bJ,en,gJ,hY,kU,ng] c3) with qy:=ByteArray.mk #[112,111,114,116,32,33,61,32,48] } :ee))).bind fun q0=>
  some q0) (
  some [bJ,en,gJ,hY,kU,ng])).bind fun bq=>
 (lv bm.2).bind fun cD=>
 (cond cD.1 (
  (idx bq.length 4).bind fun bn=>
  (some (gv bq bn ({ (aJ bq bn) with qy:=ByteArray.mk #[120,32,60,32,121,32,124,124,32,120,32,61,61,32,49,53] } :ee))).bind fun so=>
  some so) (
  some bq)).bind fun cx=>
 some (cx,cD.2)
def yL (ab:b0):Option ((List bx) × b0):=
 (some ({ b6:=ByteArray.mk #[97],gf:=4,du:=1:cJ })).bind fun bJ=>
 (ij ab 2).bind fun aG=>
 (ij aG.2 5).bind fun aQ=>
 (some (({ (default:bx) with bW:=1,b6:=ByteArray.mk #[112,111,114,116,115],cj:= [bJ],fu:=([1,2,4]:List Int),g4:=bE (1 + aG.1),iQ:=bE (2 + aQ.1) } :bx))).bind fun en=>
 (some ({ b6:=ByteArray.mk #[100],gf:=7,du:=2:cJ })).bind fun fP=>
 (ij aQ.2 6).bind fun bm=>
 (lv bm.2).bind fun cD=>
 (cond cD.1 (
  (some ({ b6:=ByteArray.mk #[109],gf:=3,du:=1:cJ })).bind fun pk=>
  (iI 32 [fP] [pk]).bind fun e6=>
  some (({ ({ (default:bx) with bW:=2,b6:=ByteArray.mk #[114,111,117,116,101,115],fu:=([1,2,3,4]:List Int),g4:=2,iQ:=bE (3 + bm.1) } :bx) with cj:= [] } :bx),e6)) (
  some (({ (default:bx) with bW:=2,b6:=ByteArray.mk #[114,111,117,116,101,115],fu:=([1,2,3,4]:List Int),g4:=2,iQ:=bE (3 + bm.1) } :bx),[fP]))).bind fun bq=>
 (some ({ b6:=ByteArray.mk #[101],gf:=6,du:=3:cJ })).bind fun hz=>
 (some ({ b6:=ByteArray.mk #[97],gf:=4,du:=3:cJ })).bind fun gJ=>
 (ij cD.2 6).bind fun c8=>
 (lv c8.2).bind fun eU=>
 (cond eU.1 (
  (some ({ b6:=ByteArray.mk #[98],gf:=5,du:=1:cJ })).bind fun oG=>
  (iI 32 [hz,gJ] [oG]).bind fun hU=>
  some (({ ({ (default:bx) with bW:=3,b6:=ByteArray.mk #[97,99,108],fu:=([1,2,3,5,6]:List Int),g4:=1,iQ:=bE (4 + c8.1) } :bx) with cj:= [] } :bx),hU)) (
  some (({ (default:bx) with bW:=3,b6:=ByteArray.mk #[97,99,108],fu:=([1,2,3,5,6]:List Int),g4:=1,iQ:=bE (4 + c8.1) } :bx),[hz,gJ]))).bind fun cx=>
 (some ({ b6:=ByteArray.mk #[102],gf:=8,du:=4:cJ })).bind fun iB=>
 (ij eU.2 5).bind fun e9=>
 (lv e9.2).bind fun gm=>
 (cond gm.1 (
  (some ({ b6:=ByteArray.mk #[103],gf:=9,du:=1:cJ })).bind fun kU=>
  (some ({ b6:=ByteArray.mk #[100],gf:=7,du:=2:cJ })).bind fun ll=>
  (iI 32 [iB] [kU,ll]).bind fun ib=>
  some (({ ({ (default:bx) with bW:=4,b6:=ByteArray.mk #[115,112,97,110,115],fu:=([1,3,5]:List Int),g4:=3,uT:= [({ (default:aw) with cv:=7#64 } :aw)],iQ:=bE (3 + e9.1) } :bx) with cj:= [] } :bx),ib)) (
  some (({ (default:bx) with bW:=4,b6:=ByteArray.mk #[115,112,97,110,115],fu:=([1,3,5]:List Int),g4:=3,uT:= [({ (default:aw) with cv:=7#64 } :aw)],iQ:=bE (3 + e9.1) } :bx),[iB]))).bind fun eg=>
 (some ([en,({ bq.1 with cj:=bq.2 } :bx),({ cx.1 with cj:=cx.2 } :bx),({ eg.1 with cj:=eg.2 } :bx)])).bind fun hX=>
 (some ([ByteArray.mk #[],ByteArray.mk #[97,32,33,61,32,48],ByteArray.mk #[97,32,60,32,49,52,32,38,38,32,97,32,33,61,32,51]])).bind fun hY=>
 (some ([ByteArray.mk #[],ByteArray.mk #[100,58,58,112,114,101,102,105,120,95,108,101,110,103,116,104,32,62,61,32,56],ByteArray.mk #[100,58,58,112,114,101,102,105,120,95,108,101,110,103,116,104,32,61,61,32,51,50,32,45,62,32,100,58,58,118,97,108,117,101,32,62,32,48,120,102,102]])).bind fun lN=>
 (some ([ByteArray.mk #[],ByteArray.mk #[112,114,105,111,114,105,116,121,32,60,32,49,48,48,32,38,38,32,40,101,58,58,109,97,115,107,32,33,61,32,48,32,124,124,32,97,58,58,109,97,115,107,32,33,61,32,48,41],ByteArray.mk #[101,58,58,109,97,115,107,32,61,61,32,48,32,45,62,32,112,114,105,111,114,105,116,121,32,62,32,53]])).bind fun jh=>
 (some ([ByteArray.mk #[],ByteArray.mk #[102,58,58,104,105,103,104,32,45,32,102,58,58,108,111,119,32,60,61,32,48,120,49,48,48],ByteArray.mk #[33,40,102,58,58,108,111,119,32,61,61,32,48,32,38,38,32,102,58,58,104,105,103,104,32,62,32,49,48,48,48,41]])).bind fun kC=>
 (gG (σ:=Int × (List bx) × b0) (ε:=(Int × Bool × (List bx) × b0)) fX (fun s1=>
  cond (decide (s1.1 < (hX.length:Int))) (
   (idx ([hY,lN,jh,kC].length) s1.1).bind fun bn=>
   (ij s1.2.2 3).bind fun iD=>
   (idx ((aJ [hY,lN,jh,kC] bn).length) iD.1).bind fun c3=>
   (idx s1.2.1.length s1.1).bind fun eI=>
   (some (gv s1.2.1 eI ({ (aJ s1.2.1 eI) with qy:=aJ (aJ [hY,lN,jh,kC] bn) c3 } :bx))).bind fun mb=>
   some (.inl (bE (s1.1 + 1),mb,iD.2))) (
   some (.inr (s1.1,decide (s1.1 < (hX.length:Int)),s1.2.1,s1.2.2)))) (0,hX,gm.2)).bind fun az=>
 some (az.2.2.1,az.2.2.2)
def yR (ab:b0) (al:List bx):Option ((List cG) × b0):=
 (ij ab 3).bind fun aG=>
 (ij aG.2 6).bind fun aQ=>
 (ij aQ.2 6).bind fun bm=>
 (ij bm.2 4).bind fun cD=>
 (gG (σ:=Int × cG × (List dr) × b0 × cG × (List dr) × cG × (List dr)) (ε:=(Int × Bool × cG × (List dr) × b0 × cG × (List dr) × cG × (List dr))) fX (fun s1=>
  cond (decide (s1.1 < (al.length:Int))) (
   (idx al.length s1.1).bind fun bn=>
   (wk (α:=Bool) 1 (((aJ al bn).cj).length:Int)).bind fun c8=>
   (wk (α:=Bool) 1 (((aJ al bn).cj).length:Int)).bind fun eU=>
   (gG (σ:=Int × (List Bool) × (List Bool) × b0) (ε:=(Int × Bool × (List Bool) × (List Bool) × b0)) fX (fun s2=>
    cond (decide (s2.1 < (c8.length:Int))) (
     (ij s2.2.2.2 4).bind fun e9=>
     (idx s2.2.2.1.length s2.1).bind fun c3=>
     (idx s2.2.1.length s2.1).bind fun eI=>
     some (.inl (bE (s2.1 + 1),gv s2.2.1 eI (decide (e9.1 > 0)),gv s2.2.2.1 c3 true,e9.2))) (
     some (.inr (s2.1,decide (s2.1 < (c8.length:Int)),s2.2.1,s2.2.2.1,s2.2.2.2)))) (0,eU,c8,s1.2.2.2.1)).bind fun aX=>
   (some ({ et:=(aJ al bn).bW,rT:=true,rO:=true,cj:=aX.2.2.2.1:dr })).bind fun bJ=>
   (iI 40 s1.2.2.2.2.2.2.2 [bJ]).bind fun gm=>
   (ij aX.2.2.2.2 4).bind fun iD=>
   (cond (decide (iD.1 > 0)) (
    (ij iD.2 4).bind fun ke=>
    (lv ke.2).bind fun oH=>
    (some ({ et:=(aJ al bn).bW,rT:=decide (ke.1 > 0),rO:=oH.1,cj:=aX.2.2.1:dr })).bind fun fP=>
    (iI 40 s1.2.2.2.2.2.1 [fP]).bind fun mR=>
    some (oH.2,({ s1.2.2.2.2.1 with jw:= [] } :cG),mR)) (
    some (iD.2,s1.2.2.2.2.1,s1.2.2.2.2.2.1))).bind fun bq=>
   (lv bq.1).bind fun ib=>
   (cond ib.1 (
    (lv ib.2).bind fun hU=>
    (lv hU.2).bind fun e6=>
    (some ({ et:=(aJ al bn).bW,rT:=hU.1,rO:=e6.1,cj:=aX.2.2.2.1:dr })).bind fun en=>
    (iI 40 s1.2.2.1 [en]).bind fun fx=>
    some (e6.2,({ s1.2.1 with jw:= [] } :cG),fx)) (
    some (ib.2,s1.2.1,s1.2.2.1))).bind fun cx=>
   some (.inl (bE (s1.1 + 1),cx.2.1,cx.2.2,cx.1,bq.2.1,bq.2.2,({ s1.2.2.2.2.2.2.1 with jw:= [] } :cG),gm))) (
   some (.inr (s1.1,decide (s1.1 < (al.length:Int)),s1.2.1,s1.2.2.1,s1.2.2.2.1,s1.2.2.2.2.1,s1.2.2.2.2.2.1,s1.2.2.2.2.2.2.1,s1.2.2.2.2.2.2.2)))) (0,({ (default:cG) with bW:=7,b6:=ByteArray.mk #[102,101,119],fu:= [bE (1 + bm.1)],rN:=cD.1 } :cG),([]:List dr),cD.2,({ (default:cG) with bW:=2,b6:=ByteArray.mk #[115,111,109,101],fu:=([1,2,bE (3 + aG.1)]:List Int),rN:=bE (1 + aQ.1) } :cG),([]:List dr),({ (default:cG) with bW:=1,b6:=ByteArray.mk #[97,108,108],fu:=([1,2,3,4,5,6]:List Int),rN:=40,zw:=true } :cG),([]:List dr))).bind fun az=>
 (some (({ az.2.2.2.2.2.2.2.1 with jw:=az.2.2.2.2.2.2.2.2 } :cG))).bind fun hz=>
 (some ([hz,({ az.2.2.2.2.2.1 with jw:=az.2.2.2.2.2.2.1 } :cG),({ az.2.2.1 with jw:=az.2.2.2.1 } :cG)])).bind fun gJ=>
 some (gJ,az.2.2.2.2.1)
def s5 (ab:b0):Option (a2 × b0):=
 (ij ab 8).bind fun aG=>
 (ij aG.2 30).bind fun aQ=>
 (some ({ bW:=1,b6:=ByteArray.mk #[105,110,103,114,101,115,115],fz:=16:fm })).bind fun bJ=>
 (some ({ bW:=2,b6:=ByteArray.mk #[101,103,114,101,115,115],fz:=16:fm })).bind fun en=>
 (some ({ bW:=3,b6:=ByteArray.mk #[109,101,116,97],fz:=8:fm })).bind fun fP=>
 (some ({ bW:=6,b6:=ByteArray.mk #[101],fz:=8:fm })).bind fun hz=>
 (some ({ bW:=7,b6:=ByteArray.mk #[100],fz:=32:fm })).bind fun gJ=>
 (some ({ bW:=8,b6:=ByteArray.mk #[102],fz:=12:fm })).bind fun iB=>
 (some ({ bW:=9,b6:=ByteArray.mk #[103],fz:=4:fm })).bind fun hX=>
 (some ([bJ,en,fP,{ bW:=4,b6:=ByteArray.mk #[97],fz:=4:fm },{ bW:=5,b6:=ByteArray.mk #[98],fz:=4:fm },hz,gJ,iB,hX])).bind fun hY=>
 (some (({ ({ (default:a2) with ze:=bE (2 + aG.1),zp:=bE (12 + aQ.1) } :a2) with hP:=hY } :a2))).bind fun lN=>
 (some ({ bW:=1,b6:=ByteArray.mk #[111,110,101],hP:=([4,5,6]:List Int):jJ })).bind fun jh=>
 (some ({ bW:=2,b6:=ByteArray.mk #[116,119,111],hP:=([7]:List Int):jJ })).bind fun kC=>
 (some ({ bW:=3,b6:=ByteArray.mk #[116,104,114,101,101],hP:=([8,9]:List Int):jJ })).bind fun mb=>
 (yJ aQ.2).bind fun bm=>
 (yG bm.2).bind fun cD=>
 (yL cD.2).bind fun c8=>
 (some (({ ({ lN with tp:= [jh,kC,mb] } :a2) with u4:=bm.1 } :a2))).bind fun kU=>
 (some (({ ({ kU with fu:=cD.1 } :a2) with cA:=c8.1 } :a2))).bind fun ll=>
 (yR c8.2 ll.cA).bind fun eU=>
 (some ([{ et:=1,h2:=1:fD },{ et:=2,h2:=2:fD },({ (default:fD) with et:=3 } :fD),{ et:=4,h2:=3:fD }])).bind fun oG=>
 (lv eU.2).bind fun e9=>
 (cond e9.1 (
  (iI 16 oG [({ (default:fD) with et:=1 } :fD)]).bind fun ke=>
  some ke) (
  some oG)).bind fun bq=>
 (lv e9.2).bind fun gm=>
 (cond gm.1 (
  (some (({ (default:e3) with et:=2,m6:=4,pC:=1 } :e3))).bind fun Il=>
  (iI 48 ([]:List e3) [Il]).bind fun fx=>
  some (({ ({ ({ ll with oi:=eU.1 } :a2) with nF:= [] } :a2) with oo:= [] } :a2),fx)) (
  some (({ ({ ll with oi:=eU.1 } :a2) with nF:= [] } :a2),([]:List e3)))).bind fun cx=>
 (lv gm.2).bind fun iD=>
 (cb iD.1 true (idx cx.1.cA.length 2)).bind fun bn=>
 (cond (iD.1 && ((((aJ cx.1.cA bn).cj).length:Int) ==3)) (
  (some (({ (default:e3) with et:=3,vz:=2,pC:=1 } :e3))).bind fun q0=>
  (iI 48 cx.2 [q0]).bind fun e6=>
  some (({ cx.1 with oo:= [] } :a2),e6)) (
  some (cx.1,cx.2))).bind fun eg=>
 (lv iD.2).bind fun ib=>
 (cb ib.1 true (idx eg.1.cA.length 3)).bind fun c3=>
 (cond (ib.1 && ((((aJ eg.1.cA c3).cj).length:Int) ==3)) (
  (some (({ (default:e3) with et:=4,vz:=1,pC:=1 } :e3))).bind fun ng=>
  (some (({ (default:e3) with et:=4,m6:=5,pC:=1 } :e3))).bind fun so=>
  (iI 48 eg.2 [ng,so]).bind fun hU=>
  some (({ eg.1 with oo:= [] } :a2),hU)) (
  some (eg.1,eg.2))).bind fun pv=>
 (some (({ ({ pv.1 with nF:=bq } :a2) with oo:=pv.2 } :a2))).bind fun pk=>
 some (pk,ib.2)
def Cd (ab:bx) (al:Int):Option Bool:=
 some (ab.bW ==al)
def yy (ab:List bx) (al:bx→Option Bool):Option Int:=
 (gG (σ:=Int) (ε:=(Int × Bool) ⊕ (Int × Int × Int × Bool × Bool)) fX (fun s1=>
  cond (decide (s1 < (ab.length:Int))) (
   (idx ab.length s1).bind fun bn=>
   (al (aJ ab bn)).bind fun aG=>
   cond aG (
    some (.inr (Sum.inr (s1,s1,s1,decide (s1 < (ab.length:Int)),aG)))) (
    some (.inl (bE (s1 + 1))))) (
   some (.inr (Sum.inl (s1,decide (s1 < (ab.length:Int))))))) 0).bind fun az=>
  Sum.elim (fun az=>
   some (-1)) (fun az=>
  some az.1) az
def ry (ab:a2) (al:Int):Option Int:=
 (yy ab.cA (fun hy=>Cd hy al)).bind fun aG=>
 some aG
def qx (ab:bx):Option (Int × Int):=
 (gG (σ:=Int × Int × Int) (ε:=(Int × Int × Int × Bool)) fX (fun s1=>
  cond (decide (s1.2.2 < (ab.cj.length:Int))) (
   (idx ab.cj.length s1.2.2).bind fun bn=>
   (cond (((aJ ab.cj bn).du) ==1) (
    some (s1.1,s1.2.1)) (
    (cond (((aJ ab.cj bn).du) ==2) (
     some (max s1.1 2,s1.2.2)) (
     some (3,s1.2.1))).bind fun cx=>
    some (cx.1,cx.2))).bind fun bq=>
   some (.inl (bq.1,bq.2,bE (s1.2.2 + 1)))) (
   some (.inr (s1.1,s1.2.1,s1.2.2,decide (s1.2.2 < (ab.cj.length:Int)))))) (1,0,0)).bind fun az=>
 some (az.1,az.2.1)
def Cv (hp:aH Cell):au (Ref × (aH Cell)):=
 au.bind (au.mk hp (Cell.nU ([]:List ((Vector aw 4) × Int)))) fun cq=>
 au.bind (au.mk cq.2 (Cell.xQ ({ ou:=(⟨some cq.1⟩:fT):m5 }))) fun cF=>
 au.ret ((some cF.1:Ref),cF.2)
def Ce (ab:fm) (al:Int):Option Bool:=
 some (ab.bW ==al)
def yz (ab:List fm) (al:fm→Option Bool):Option Int:=
 (gG (σ:=Int) (ε:=(Int × Bool) ⊕ (Int × Int × Int × Bool × Bool)) fX (fun s1=>
  cond (decide (s1 < (ab.length:Int))) (
   (idx ab.length s1).bind fun bn=>
   (al (aJ ab bn)).bind fun aG=>
   cond aG (
    some (.inr (Sum.inr (s1,s1,s1,decide (s1 < (ab.length:Int)),aG)))) (
    some (.inl (bE (s1 + 1))))) (
   some (.inr (Sum.inl (s1,decide (s1 < (ab.length:Int))))))) 0).bind fun az=>
  Sum.elim (fun az=>
   some (-1)) (fun az=>
  some az.1) az
def td (ab:a2) (al:Int):Option Int:=
 (yz ab.hP (fun hy=>Ce hy al)).bind fun aG=>
 some aG
def Fu (ab:a2):Option ca:=
 some ({ ({ (default:ca) with mA:=ab } :ca) with bP:=([]:List aA) } :ca)
def lP (hp:aH Cell) (ab:a2) (al:Int):au (Ref × (aH Cell)):=
 au.bind (au.of (ry ab al)) fun aG=>
 cond (decide (aG < 0)) (
  au.ret ((none:Ref),hp)) (
  au.bind (au.of (idx ab.cA.length aG)) fun bn=>
  au.bind (au.of (qx (aJ ab.cA bn))) fun aQ=>
  au.bind (au.mk hp (Cell.hE ([]:List (Int × aA)))) fun cq=>
  au.bind (au.of (some (({ (default:gq) with pE:=aQ.1,o8:=(((aJ ab.cA bn).cj).length:Int),j2:=(⟨some cq.1⟩:fT) } :gq)))) fun bJ=>
  au.bind (au.mk cq.2 (Cell.lf bJ)) fun cF=>
  au.bind (cond (aQ.1 ==1) (
    au.bind (Cv cF.2) fun bm=>
    au.bind (au.of (fF bm.2 cF.1)) fun bw=>
    au.bind (au.of (some (ch bm.2 cF.1 (Cell.lf ({ bw with ik:=(ft.l5 ({ pW:=bm.1:jI })) } :gq))))) fun b9=>
    au.ret b9) (
    au.bind (cond (aQ.1 ==2) (
      au.bind (au.of (idx (((aJ ab.cA bn).cj).length) aQ.2)) fun c3=>
      au.bind (au.of (td ab ((aJ ((aJ ab.cA bn).cj) c3).gf))) fun cD=>
      au.bind (au.of (cond (decide (cD≥0)) (
        (idx ab.hP.length cD).bind fun eI=>
        some ((aJ ab.hP eI).fz)) (
        some 0))) fun eg=>
      au.bind (au.mk cF.2 (Cell.iT ([]:List ((Vector aw 4) × Ref)))) fun eM=>
      au.bind (au.of (some ({ rZ:=aQ.2,eu:=eg,nI:=(⟨some eM.1⟩:fT):gp }))) fun en=>
      au.bind (au.of (fF eM.2 cF.1)) fun b5=>
      au.bind (au.of (some (ch eM.2 cF.1 (Cell.lf ({ b5 with ik:=(ft.kP en) } :gq))))) fun bI=>
      au.ret bI) (
      au.bind (au.of (Fu ab)) fun c8=>
      au.bind (au.any (Option Nat × Nat)) fun hJ=>
      au.bind (au.mk cF.2 (Cell.qS c8 hJ.1 hJ.2)) fun gI=>
      au.bind (au.of (fF gI.2 cF.1)) fun eo=>
      au.bind (au.of (some (ch gI.2 cF.1 (Cell.lf ({ eo with ik:=(ft.kQ ({ bP:=(some gI.1:Ref):ja })) } :gq))))) fun fH=>
      au.ret fH)) fun cx=>
    au.ret cx)) fun bq=>
  au.ret ((some cF.1:Ref),bq))
def te (ab:b1):Option (Vector aw 4):=
 (rU ab.cd 0 (min (ab.cd.length:Int) 4)).bind fun aG=>
 (gG (σ:=Int × (Vector aw 4)) (ε:=(Int × Bool × (Vector aw 4))) fX (fun s1=>
  cond (decide (s1.1 < (aG.length:Int))) (
   (idx aG.length s1.1).bind fun bn=>
   (idx 4 s1.1).bind fun c3=>
   some (.inl (bE (s1.1 + 1),fW s1.2 c3 ((aJ aG bn).cL)))) (
   some (.inr (s1.1,decide (s1.1 < (aG.length:Int)),s1.2)))) (0,(default:Vector aw 4))).bind fun az=>
 some az.2.2
def tb (hp:aH Cell) (ab:Ref) (al:Vector aw 4):Option (Int × Bool):=
 cond ab.isNone (
  some (0,false)) (
  (ab).bind fun bT=>
  (mF hp bT).bind fun bw=>
  (bw.ou.p).bind fun bU=>
  (ly hp bU).bind fun b5=>
  (some (cK b5 al)).bind fun bJ=>
  some (bJ.getD default,bJ.isSome))
def yO (hp:aH Cell) (ab:jI) (al:b1):Option (Int × Bool):=
 (te al).bind fun aG=>
 (tb hp ab.pW aG).bind fun aQ=>
 some (aQ.1,aQ.2)
def s3 (ab:gp) (al:Vector aw 4):Option ((Vector aw 4) × aw):=
 (idx 4 ab.rZ).bind fun bn=>
 (idx 4 ab.rZ).bind fun c3=>
 some ((fW al c3 (default:aw)),(bB al bn))
def rk (ab:gp) (al:b1):Option ((Vector aw 4) × aw × Int):=
 (te al).bind fun aG=>
 (s3 ab aG).bind fun aQ=>
 cond (decide (ab.rZ≥ (al.cd.length:Int))) (
  some (aQ.1,aQ.2,0)) (
  (idx al.cd.length ab.rZ).bind fun bn=>
  some (aQ.1,aQ.2,(aJ al.cd bn).fk))
def xh (ab:Int):Option Int:=
 some (min (max 0 ab) 128)
def xi (ab:aw) (al:Int):Option aw:=
 cond (decide (al≤0)) (
  some ab) (
  cond (decide (al≥64)) (
   (some (({ (default:aw) with cv:=ab.dP >>> (BitVec.ofInt 64 (bE (al - 64))).toNat } :aw))).bind fun bJ=>
   some bJ) (
   (some ((ab.cv >>> (BitVec.ofInt 64 al).toNat) ||| (ab.dP <<< (BitVec.ofInt 64 (bE (64 - al))).toNat))).bind fun en=>
   (some ({ dP:=ab.dP >>> (BitVec.ofInt 64 al).toNat,cv:=en:aw })).bind fun fP=>
   some fP))
def tg (ab:Int):Option aw:=
 (some ({ dP:=18446744073709551615#64,cv:=18446744073709551615#64:aw })).bind fun bJ=>
 (xh ab).bind fun aG=>
 (xi bJ (bE (128 - aG))).bind fun aQ=>
 some aQ
def y8 (ab:aw) (al:aw):Option aw:=
 (some ({ dP:=ab.dP ^^^ al.dP,cv:=ab.cv ^^^ al.cv:aw })).bind fun bJ=>
 some bJ
def xf (ab:Int) (al:Int):Option aw:=
 (xh ab).bind fun aG=>
 (tg aG).bind fun aQ=>
 (tg (bE (aG - (min (max 0 al) aG)))).bind fun bm=>
 (y8 aQ bm).bind fun cD=>
 some cD
def rD (ab:aw) (al:aw):Option aw:=
 (some ({ dP:=ab.dP &&& al.dP,cv:=ab.cv &&& al.cv:aw })).bind fun bJ=>
 some bJ
def s9 (hp:aH Cell) (ab:Ref) (al:aw) (aU:Int):Option Bool:=
 (cb (ab.isSome && (decide (aU≥0))) true (ab)).bind fun bT=>
 (cb (ab.isSome && (decide (aU≥0))) true (ey hp bT)).bind fun bw=>
 (cb ((ab.isSome && (decide (aU≥0))) && (decide (aU≤bw.eu))) true (ab)).bind fun bU=>
 (cb ((ab.isSome && (decide (aU≥0))) && (decide (aU≤bw.eu))) true (ey hp bU)).bind fun b5=>
 (cb ((ab.isSome && (decide (aU≥0))) && (decide (aU≤bw.eu))) true (xf b5.eu aU)).bind fun aG=>
 (cb ((ab.isSome && (decide (aU≥0))) && (decide (aU≤bw.eu))) true (rD al aG)).bind fun aQ=>
 (some (((ab.isSome && (decide (aU≥0))) && (decide (aU≤bw.eu))) && (decide (aQ=al)))).bind fun bJ=>
 some bJ
def xd (ab:Ref) (al:aw) (aU:Int):Option (Int × aw × Ref):=
 some (aU,al,ab)
def tj (ab:aw) (al:Int):Option Bool:=
 (cb ((decide (al≥0)) && (decide (al < 128))) true (xi ab al)).bind fun aG=>
 (some (((decide (al≥0)) && (decide (al < 128))) && ((aG.cv &&& (1#64)) ==(1#64)))).bind fun bJ=>
 some bJ
def qs {σ ε:Type} (al:Int) (aU:aw) (cE:Ref) (hq:σ→aH Cell) (step:Int→σ→au (σ ⊕ ε)) (bX:σ):au (σ ⊕ ε):=
 au.bind (ox (σ:=Int × (σ)) (ε:=(Int × Bool × (σ)) ⊕ (Int × Int × Int × Bool × Bool × Bool × (ε))) fX (fun s1=>
   cond (decide (s1.1 < al)) (
    au.bind (au.of (cE)) fun bT=>
    au.bind (au.of (ey (hq s1.2) bT)) fun bw=>
    au.bind (au.of (tj aU (bE ((bE (bw.eu - 1)) - s1.1)))) fun aG=>
    au.bind (au.of (cond aG (
      some 1) (
      some 0))) fun bq=>
    au.bind (step bq s1.2) fun aQ=>
    Sum.elim (fun s2=>
     au.ret (.inl (bE (s1.1 + 1),s2))) (fun dR=>
     au.ret (.inr (Sum.inr (s1.1,bq,s1.1,decide (s1.1 < al),aG,!false,dR)))) aQ) (
    au.ret (.inr (Sum.inl (s1.1,decide (s1.1 < al),s1.2))))) (0,bX)) fun az=>
   Sum.elim (fun az=>
    au.ret (.inl az.2.2:σ ⊕ ε)) (fun az=>
   au.ret (.inr az.2.2.2.2.2.2:σ ⊕ ε)) az
def mw {σ ε:Type} (hp:aH Cell) (al:Int) (aU:aw) (cE:Ref) (step:Int→σ→Option (σ ⊕ ε)) (bX:σ):Option (σ ⊕ ε):=
 (gG (σ:=Int × (σ)) (ε:=(Int × Bool × (σ)) ⊕ (Int × Int × Int × Bool × Bool × Bool × (ε))) fX (fun s1=>
  cond (decide (s1.1 < al)) (
   (cE).bind fun bT=>
   (ey hp bT).bind fun bw=>
   (tj aU (bE ((bE (bw.eu - 1)) - s1.1))).bind fun aG=>
   (cond aG (
    some 1) (
    some 0)).bind fun bq=>
   (step bq s1.2).bind fun aQ=>
   Sum.elim (fun s2=>
    some (.inl (bE (s1.1 + 1),s2))) (fun dR=>
    some (.inr (Sum.inr (s1.1,bq,s1.1,decide (s1.1 < al),aG,!false,dR)))) aQ) (
   some (.inr (Sum.inl (s1.1,decide (s1.1 < al),s1.2))))) (0,bX)).bind fun az=>
  Sum.elim (fun az=>
   some (.inl az.2.2)) (fun az=>
  some (.inr az.2.2.2.2.2.2)) az
def tc (hp:aH Cell) (ab:Ref) (al:aw) (aU:Int):Option Ref:=
 (s9 hp ab al aU).bind fun aG=>
 cond (!aG) (
  some (none:Ref)) (
  (ab).bind fun bT=>
  (ey hp bT).bind fun bw=>
  (xd ab al aU).bind fun aQ=>
  (mw hp aQ.1 aQ.2.1 aQ.2.2 (σ:=Ref) (ε:=Ref × Ref) (fun(oI:Int) (s1:Ref)=>
   cond s1.isNone (
    some (.inr (s1,(none:Ref)))) (
    (s1).bind fun bU=>
    (idx 2 oI).bind fun bn=>
    (cg hp bU).bind fun b5=>
    some (.inl (bB b5.ct bn)))) bw.bK).bind fun az=>
  Sum.elim (fun s1=>
   some s1) (fun aN=>
   some aN.2) az)
def qw (hp:aH Cell) (ab:Ref) (al:aw) (aU:Int):Option (Int × Bool):=
 (tc hp ab al aU).bind fun aG=>
 (cb aG.isNone false (aG)).bind fun bT=>
 (cb aG.isNone false (cg hp bT)).bind fun bw=>
 cond (aG.isNone || (!bw.cW)) (
  some (0,false)) (
  (aG).bind fun bU=>
  (cg hp bU).bind fun b5=>
  some (b5.gi,true))
def uI (hp:aH Cell) (ab:gp) (al:b1):Option (Int × Bool):=
 (rk ab al).bind fun aG=>
 (ab.nI.p).bind fun bT=>
 (g6 hp bT).bind fun bw=>
 (some ((cK bw aG.1).getD default)).bind fun bJ=>
 (qw hp bJ aG.2.1 aG.2.2).bind fun aQ=>
 some (aQ.1,aQ.2)
def BX (ab:List c5):Option (List c5):=
 (iI 64 ([]:List c5) ab).bind fun aG=>
 some aG
def BY (ab:List aw):Option (List aw):=
 (iI 16 ([]:List aw) ab).bind fun aG=>
 some aG
def Cx (ab:b1):Option b1:=
 (BX ab.cd).bind fun aG=>
 (BY ab.qI).bind fun aQ=>
 (some (({ ({ ab with cd:=aG } :b1) with qI:=aQ } :b1))).bind fun bJ=>
 some bJ
def lO (ab:aA):Option aA:=
 (Cx ab.bd).bind fun aG=>
 some ({ ab with bd:=aG } :aA)
def rB (ab:List aA):Option (List aA):=
 (gG (σ:=Int × (List aA)) (ε:=(Int × Bool × (List aA))) fX (fun s1=>
  cond (decide (s1.1 < (ab.length:Int))) (
   (idx ab.length s1.1).bind fun bn=>
   (lO (aJ ab bn)).bind fun aG=>
   (iI 88 s1.2 [aG]).bind fun aQ=>
   some (.inl (bE (s1.1 + 1),aQ))) (
   some (.inr (s1.1,decide (s1.1 < (ab.length:Int)),s1.2)))) (0,([]:List aA))).bind fun az=>
 some az.2.2
def uG (ab:ca):Option (List aA):=
 (rB ab.bP).bind fun aG=>
 some aG
def yC (ab:List c5) (al:List c5):Option Bool:=
 cond ((ab.length:Int) !=(al.length:Int)) (
  some false) (
  (gG (σ:=Int) (ε:=(Int × Bool) ⊕ (Int × Int × Bool × Bool)) fX (fun s1=>
   cond (decide (s1 < (ab.length:Int))) (
    (idx ab.length s1).bind fun bn=>
    (idx al.length s1).bind fun c3=>
    cond (!decide (aJ ab bn=aJ al c3)) (
     some (.inr (Sum.inr (s1,s1,decide (s1 < (ab.length:Int)),!decide (aJ ab bn=aJ al c3))))) (
     some (.inl (bE (s1 + 1))))) (
    some (.inr (Sum.inl (s1,decide (s1 < (ab.length:Int))))))) 0).bind fun az=>
   Sum.elim (fun az=>
    some true) (fun az=>
   some false) az)
def yW (ab:b1) (al:b1):Option Bool:=
 (cb (ab.et ==al.et) true (yC ab.cd al.cd)).bind fun aG=>
 some (((ab.et ==al.et) && aG) && (ab.jv ==al.jv))
def uN (hp:aH Cell) (ab:ja) (al:b1):Option (Int × Bool):=
 (ab.bP).bind fun bT=>
 (lZ hp bT).bind fun bw=>
 (uG bw.1).bind fun aG=>
 (gG (σ:=Int) (ε:=(Int × Bool) ⊕ (Int × Bool × Int × Bool × Bool)) fX (fun s1=>
  cond (decide (s1 < (aG.length:Int))) (
   (idx aG.length s1).bind fun bn=>
   (yW ((aJ aG bn).bd) al).bind fun aQ=>
   cond aQ (
    some (.inr (Sum.inr ((aJ aG bn).bt,true,s1,decide (s1 < (aG.length:Int)),aQ)))) (
    some (.inl (bE (s1 + 1))))) (
   some (.inr (Sum.inl (s1,decide (s1 < (aG.length:Int))))))) 0).bind fun az=>
  Sum.elim (fun az=>
   some (0,false)) (fun az=>
  some (az.1,az.2.1)) az
def yN (hp:aH Cell) (y:ft) (ab:b1):Option (Int × Bool):=match y with
 | .nil=>none
 | .l5 z=>yO hp z ab
 | .kP z=>uI hp z ab
 | .kQ z=>uN hp z ab
def Cs (hp:aH Cell) (ab:Ref) (al:Vector aw 4) (aU:Int):Option (Bool × (aH Cell)):=
 cond ab.isNone (
  some (false,hp)) (
  (ab).bind fun bT=>
  (mF hp bT).bind fun bw=>
  (bw.ou.p).bind fun bU=>
  (ly hp bU).bind fun b5=>
  (some (cK b5 al)).bind fun bJ=>
  cond bJ.isSome (
   some (false,hp)) (
   (some (ch hp bU (Cell.nU (fc b5 al aU)))).bind fun b9=>
   some (true,b9)))
def yS (hp:aH Cell) (ab:jI) (al:aA):Option (aH Cell):=
 (te al.bd).bind fun aG=>
 (Cs hp ab.pW aG al.bt).bind fun aQ=>
 some aQ.2
def zd (hp:aH Cell) (ab:Int):au (Ref × (aH Cell)):=
 au.bind (au.of (some (({ (default:eJ) with eu:=min (max 1 ab) 128 } :eJ)))) fun bJ=>
 au.bind (au.mk hp (Cell.gL bJ)) fun cq=>
 au.ret ((some cq.1:Ref),cq.2)
def rA (hp:aH Cell) (ab:Ref) (al:aw) (aU:Int) (cE:Int):au (Bool × (aH Cell)):=
 au.bind (au.of (s9 hp ab al aU)) fun aG=>
 cond (!aG) (
  au.ret (false,hp)) (
  au.bind (au.of (tc hp ab al aU)) fun aQ=>
  au.bind (au.of (cb aQ.isSome true (aQ))) fun bT=>
  au.bind (au.of (cb aQ.isSome true (cg hp bT))) fun bw=>
  cond (aQ.isSome && bw.cW) (
   au.ret (false,hp)) (
   au.bind (au.of (ab)) fun bU=>
   au.bind (au.of (ey hp bU)) fun b5=>
   au.bind (cond b5.bK.isNone (
     au.bind (au.mk hp (Cell.ev (default:dn))) fun cF=>
     au.bind (au.of (ey cF.2 bU)) fun wV=>
     au.bind (au.of (some (ch cF.2 bU (Cell.gL ({ wV with bK:=(some cF.1:Ref) } :eJ))))) fun q3=>
     au.ret q3) (
     au.ret hp)) fun bq=>
   au.bind (au.of (ey bq bU)) fun eo=>
   au.bind (au.of (xd ab al aU)) fun bm=>
   au.bind (qs bm.1 bm.2.1 bm.2.2 (σ:=Ref × (aH Cell)) (ε:=Empty) (fun(s2:Ref × (aH Cell))=>s2.2) (fun(ya:Int) (s2:Ref × (aH Cell))=>
     au.bind (au.of (s2.1)) fun lr=>
     au.bind (au.of (idx 2 ya)) fun bn=>
     au.bind (au.of (cg s2.2 lr)) fun n5=>
     au.bind (cond ((bB n5.ct bn).isNone) (
       au.bind (au.mk s2.2 (Cell.ev (default:dn))) fun cq=>
       au.bind (au.of (idx 2 ya)) fun eI=>
       au.bind (au.of (cg cq.2 lr)) fun jX=>
       au.bind (au.of (some (ch cq.2 lr (Cell.ev ({ jX with ct:=fW jX.ct eI (some cq.1:Ref) } :dn))))) fun b9=>
       au.ret b9) (
       au.ret s2.2)) fun cx=>
     au.bind (au.of (idx 2 ya)) fun c3=>
     au.bind (au.of (cg cx lr)) fun oS=>
     au.ret (.inl (bB oS.ct c3,cx):(Ref × (aH Cell)) ⊕ Empty)) (eo.bK,bq)) fun aX=>
   Sum.elim (fun s2=>
    au.bind (au.of (s2.1)) fun jY=>
    au.bind (au.of (cg s2.2 jY)) fun yo=>
    au.bind (au.of (some (ch s2.2 jY (Cell.ev ({ yo with cW:=true } :dn))))) fun bI=>
    au.bind (au.of (s2.1)) fun Jm=>
    au.bind (au.of (cg bI Jm)) fun Jn=>
    au.bind (au.of (some (ch bI Jm (Cell.ev ({ Jn with gi:=cE } :dn))))) fun fH=>
    au.ret (true,fH)) (fun dR=>
    Empty.elim dR) aX))
def uL (hp:aH Cell) (ab:gp) (al:aA):au (aH Cell):=
 au.bind (au.of (rk ab al.bd)) fun aG=>
 au.bind (au.of (ab.nI.p)) fun bT=>
 au.bind (au.of (g6 hp bT)) fun bw=>
 au.bind (au.of (some ((cK bw aG.1).getD default))) fun bJ=>
 au.bind (cond bJ.isNone (
   au.bind (zd hp ab.eu) fun bm=>
   au.bind (au.of (g6 bm.2 bT)) fun eo=>
   au.bind (au.of (some (ch bm.2 bT (Cell.iT (fc eo aG.1 bm.1))))) fun b9=>
   au.ret b9) (
   au.ret hp)) fun bq=>
 au.bind (au.of (g6 bq bT)) fun b5=>
 au.bind (au.of (some ((cK b5 aG.1).getD default))) fun en=>
 au.bind (rA bq en aG.2.1 aG.2.2 al.bt) fun aQ=>
 au.ret aQ.2
def uC (ab:aA) (al:Int):Option Bool:=
 some (ab.bt ==al)
def uz (ab:List aA) (al:aA→Option Bool):Option Int:=
 (gG (σ:=Int) (ε:=(Int × Bool) ⊕ (Int × Int × Int × Bool × Bool)) fX (fun s1=>
  cond (decide (s1 < (ab.length:Int))) (
   (idx ab.length s1).bind fun bn=>
   (al (aJ ab bn)).bind fun aG=>
   cond aG (
    some (.inr (Sum.inr (s1,s1,s1,decide (s1 < (ab.length:Int)),aG)))) (
    some (.inl (bE (s1 + 1))))) (
   some (.inr (Sum.inl (s1,decide (s1 < (ab.length:Int))))))) 0).bind fun az=>
  Sum.elim (fun az=>
   some (-1)) (fun az=>
  some az.1) az
def Fg (ab:ca) (al:Int):Option Int:=
 (uz ab.bP (fun hy=>uC hy al)).bind fun aG=>
 some aG
def yw (ab:List aA) (al:aA) (aU:aA→aA→Option Int):Option (Int × Bool):=
 (gG (σ:=Int × Int) (ε:=(Int × Int × Bool)) fX (fun s1=>
  cond (decide (s1.1 < s1.2)) (
   (idx ab.length (bE ((BitVec.ofInt 64 (bE (s1.1 + s1.2))) >>> (1#64).toNat).toNat)).bind fun bn=>
   (aU (aJ ab bn) al).bind fun aG=>
   (cond (decide (aG < 0)) (
    (some (bE ((bE ((BitVec.ofInt 64 (bE (s1.1 + s1.2))) >>> (1#64).toNat).toNat) + 1))).bind fun bJ=>
    some (bJ,s1.2)) (
    some (s1.1,bE ((BitVec.ofInt 64 (bE (s1.1 + s1.2))) >>> (1#64).toNat).toNat))).bind fun bq=>
   some (.inl (bq.1,bq.2))) (
   some (.inr (s1.1,s1.2,decide (s1.1 < s1.2))))) (0,(ab.length:Int))).bind fun az=>
 (cb (decide (az.1 < (ab.length:Int))) true (idx ab.length az.1)).bind fun c3=>
 (cb (decide (az.1 < (ab.length:Int))) true (aU (aJ ab c3) al)).bind fun aQ=>
 some (az.1,(decide (az.1 < (ab.length:Int))) && (aQ ==0))
def yV (ab:Int):Option Bool:=
 some (ab !=ab)
def uR (ab:Int) (al:Int):Option Int:=
 (yV ab).bind fun aG=>
 (yV al).bind fun aQ=>
 cond aG (
  cond aQ (
   some 0) (
   some (-1))) (
  cond aQ (
   some 1) (
   cond (decide (ab < al)) (
    some (-1)) (
    cond (decide (ab > al)) (
     some 1) (
     some 0))))
def xj (ab:a2) (al:b1):Option (bx × Bool):=
 (ry ab al.et).bind fun aG=>
 cond (decide (aG < 0)) (
  some ((default:bx),false)) (
  (idx ab.cA.length aG).bind fun bn=>
  some (aJ ab.cA bn,true))
def yA (ab:List cJ) (al:cJ→Option Bool):Option Int:=
 (gG (σ:=Int) (ε:=(Int × Bool) ⊕ (Int × Int × Int × Bool × Bool)) fX (fun s1=>
  cond (decide (s1 < (ab.length:Int))) (
   (idx ab.length s1).bind fun bn=>
   (al (aJ ab bn)).bind fun aG=>
   cond aG (
    some (.inr (Sum.inr (s1,s1,s1,decide (s1 < (ab.length:Int)),aG)))) (
    some (.inl (bE (s1 + 1))))) (
   some (.inr (Sum.inl (s1,decide (s1 < (ab.length:Int))))))) 0).bind fun az=>
  Sum.elim (fun az=>
   some (-1)) (fun az=>
  some az.1) az
def Fq (ab:cJ):Option Bool:=
 some (ab.du ==2)
def m4 (ab:a2) (al:b1):Option Int:=
 (xj ab al).bind fun aG=>
 (yA aG.1.cj Fq).bind fun aQ=>
 (some (((!aG.2) || (decide (aQ < 0))) || (decide (aQ≥ (al.cd.length:Int))))).bind fun bJ=>
 cond bJ (
  some 0) (
  (idx al.cd.length aQ).bind fun bn=>
  some ((aJ al.cd bn).fk))
def y3 (ab:List Int):Option Int:=
 (gG (σ:=Int) (ε:=(Int × Bool) ⊕ (Int × Int × Int × Bool × Bool)) fX (fun s1=>
  cond (decide (s1 < (ab.length:Int))) (
   (idx ab.length s1).bind fun bn=>
   cond ((aJ ab bn) !=0) (
    some (.inr (Sum.inr (aJ ab bn,aJ ab bn,s1,decide (s1 < (ab.length:Int)),(aJ ab bn) !=0)))) (
    some (.inl (bE (s1 + 1))))) (
   some (.inr (Sum.inl (s1,decide (s1 < (ab.length:Int))))))) 0).bind fun az=>
  Sum.elim (fun az=>
   some 0) (fun az=>
  some az.1) az
def tf (ab:a2) (al:aA) (aU:aA):Option Bool:=
 (uR al.bd.jv aU.bd.jv).bind fun aG=>
 (m4 ab al.bd).bind fun aQ=>
 (m4 ab aU.bd).bind fun bm=>
 (uR aQ bm).bind fun cD=>
 (uR al.bt aU.bt).bind fun c8=>
 (y3 [aG,cD,c8]).bind fun eU=>
 some (decide (eU > 0))
def s4 (ab:ca) (al:aA) (aU:aA):Option Int:=
 (tf ab.mA al aU).bind fun aG=>
 cond aG (
  some (-1)) (
  (tf ab.mA aU al).bind fun aQ=>
  cond aQ (
   some 1) (
   some 0))
def yx (ab:List aA) (al:Int) (aU:List aA):Option (List aA):=vU 88 ab al aU
def uH (ab:ca) (al:aA):Option (Bool × ca):=
 (cb false false (Fg ab al.bt)).bind fun aG=>
 cond (false || (decide (aG≥0))) (
  some (false,ab)) (
  (yw ab.bP al (fun hy cq=>s4 ab hy cq)).bind fun aQ=>
  (lO al).bind fun bm=>
  (yx ab.bP aQ.1 [bm]).bind fun cD=>
  some (true,({ ab with bP:=cD } :ca)))
def uO (hp:aH Cell) (ab:ja) (al:aA):au (aH Cell):=
 au.bind (au.of (ab.bP)) fun bT=>
 au.bind (au.of (lZ hp bT)) fun bw=>
 au.bind (au.of (uH bw.1 al)) fun aG=>
 au.bind (au.any (Option Nat × Nat)) fun aN=>
 au.bind (au.of (some (ch hp bT (Cell.qS aG.2 aN.1 aN.2)))) fun b9=>
 au.ret b9
def Cm (hp:aH Cell) (y:ft) (ab:aA):au (aH Cell):=match y with
 | .nil=>fun _=>False
 | .l5 z=>au.of (yS hp z ab)
 | .kP z=>uL hp z ab
 | .kQ z=>uO hp z ab
def ru (hp:aH Cell) (ab:Ref) (al:aA):au (Bool × (aH Cell)):=
 cond ab.isNone (
  au.ret (false,hp)) (
  au.bind (au.of (ab)) fun bT=>
  au.bind (au.of (fF hp bT)) fun bw=>
  au.bind (au.of (bw.j2.p)) fun bU=>
  au.bind (au.of (iH hp bU)) fun b5=>
  au.bind (au.of (some (cK b5 al.bt))) fun bJ=>
  au.bind (au.of (ab)) fun lr=>
  au.bind (au.of (fF hp lr)) fun eo=>
  au.bind (au.of (yN hp eo.ik al.bd)) fun aG=>
  cond (aG.2 || bJ.isSome) (
   au.ret (false,hp)) (
   au.bind (au.of (ab)) fun ES=>
   au.bind (au.of (fF hp ES)) fun n5=>
   au.bind (au.of (lO al)) fun aQ=>
   au.bind (au.of (n5.j2.p)) fun qg=>
   au.bind (au.of (iH hp qg)) fun oS=>
   au.bind (au.of (some (ch hp qg (Cell.hE (fc oS al.bt aQ))))) fun b9=>
   au.bind (au.of (fF b9 ES)) fun jX=>
   au.bind (Cm b9 jX.ik al) fun bm=>
   au.ret (true,bm)))
def s7 (hp:aH Cell) (ab:Ref) (al:Int) (aU:Bool):Option (aA × Bool):=
 cond (!aU) (
  some ((default:aA),false)) (
  (ab).bind fun bT=>
  (fF hp bT).bind fun bw=>
  (bw.j2.p).bind fun bU=>
  (iH hp bU).bind fun b5=>
  (some ((cK b5 al).getD default)).bind fun bJ=>
  (lO bJ).bind fun aG=>
  some (aG,true))
def uP (hp:aH Cell) (ab:Ref) (al:b1):Option (aA × Bool):=
 cond ab.isNone (
  some ((default:aA),false)) (
  (ab).bind fun bT=>
  (fF hp bT).bind fun bw=>
  (yN hp bw.ik al).bind fun aG=>
  (s7 hp ab aG.1 aG.2).bind fun aQ=>
  some (aQ.1,aQ.2))
def Cb (hp:aH Cell) (ab:Ref) (al:Vector aw 4):Option (Bool × (aH Cell)):=
 (tb hp ab al).bind fun aG=>
 cond (!aG.2) (
  some (false,hp)) (
  (ab).bind fun bT=>
  (mF hp bT).bind fun bw=>
  (bw.ou.p).bind fun bU=>
  (ly hp bU).bind fun b5=>
  (some (ch hp bU (Cell.nU (gW b5 al)))).bind fun b9=>
  some (true,b9))
def yH (hp:aH Cell) (ab:jI) (al:aA):Option (aH Cell):=
 (te al.bd).bind fun aG=>
 (Cb hp ab.pW aG).bind fun aQ=>
 some aQ.2
def xa (hp:aH Cell) (ab:Ref):Option Bool:=
 (ab).bind fun bT=>
 (cg hp bT).bind fun bw=>
 (cb (!bw.cW) true (ab)).bind fun bU=>
 (cb (!bw.cW) true (cg hp bU)).bind fun b5=>
 some ((!bw.cW) && (decide (b5.ct=(default:Vector Ref 2))))
def rq (hp:aH Cell) (ab:Ref) (al:aw) (aU:Int):Option (Bool × (aH Cell)):=
 (qw hp ab al aU).bind fun aG=>
 cond (!aG.2) (
  some (false,hp)) (
  (ab).bind fun bT=>
  (ey hp bT).bind fun bw=>
  (xd ab al aU).bind fun aQ=>
  (mw hp aQ.1 aQ.2.1 aQ.2.2 (σ:=(List Int) × (List Ref)) (ε:=Empty) (fun(oI:Int) (s1:(List Int) × (List Ref))=>
   (idx s1.2.length (bE ((s1.2.length:Int) - 1))).bind fun bn=>
   ((aJ s1.2 bn)).bind fun bU=>
   (idx 2 oI).bind fun c3=>
   (cg hp bU).bind fun b5=>
   (iI 8 s1.2 [bB b5.ct c3]).bind fun bm=>
   (iI 8 s1.1 [oI]).bind fun cD=>
   some (.inl (cD,bm))) (([]:List Int),[bw.bK])).bind fun az=>
  Sum.elim (fun s1=>
   (idx s1.2.length aU).bind fun eI=>
   ((aJ s1.2 eI)).bind fun lr=>
   (cg hp lr).bind fun eo=>
   (some (ch hp lr (Cell.ev ({ eo with cW:=false } :dn)))).bind fun b9=>
   (cg b9 lr).bind fun n5=>
   (some (ch b9 lr (Cell.ev ({ n5 with gi:=0 } :dn)))).bind fun bI=>
   (gG (σ:=Int × (aH Cell)) (ε:=(Int × Bool × (aH Cell))) fX (fun s2=>
    (cb (decide (s2.1≥0)) true (idx s1.2.length (bE (s2.1 + 1)))).bind fun jD=>
    (cb (decide (s2.1≥0)) true (xa s2.2 (aJ s1.2 jD))).bind fun c8=>
    cond ((decide (s2.1≥0)) && c8) (
     (idx s1.2.length s2.1).bind fun wT=>
     (idx s1.1.length s2.1).bind fun wU=>
     ((aJ s1.2 wT)).bind fun qg=>
     (idx 2 (aJ s1.1 wU)).bind fun AP=>
     (cg s2.2 qg).bind fun oS=>
     (some (ch s2.2 qg (Cell.ev ({ oS with ct:=fW oS.ct AP (none:Ref) } :dn)))).bind fun fH=>
     some (.inl (bE (s2.1 - 1),fH))) (
     some (.inr (s2.1,(decide (s2.1≥0)) && c8,s2.2)))) (bE (aU - 1),bI)).bind fun aX=>
   (ey aX.2.2 bT).bind fun jX=>
   (xa aX.2.2 jX.bK).bind fun eU=>
   (cond eU (
    (some (ch aX.2.2 bT (Cell.gL ({ jX with bK:=(none:Ref) } :eJ)))).bind fun q3=>
    some q3) (
    some aX.2.2)).bind fun bq=>
   some (true,bq)) (fun aN=>
   Empty.elim aN) az)
def B1 (hp:aH Cell) (ab:Ref) (al:aw) (aU:Int) (cE:List da):Option (List da):=
 (ab).bind fun bT=>
 (cg hp bT).bind fun bw=>
 (cond bw.cW (
  (iI 32 cE [{ cL:=al,u2:=aU,bW:=bw.gi:da }]).bind fun aG=>
  some aG) (
  some cE)).bind fun bq=>
 some bq
def FI (ab:BitVec 64):Option aw:=
 some ({ (default:aw) with cv:=ab } :aw)
def y5 (ab:aw) (al:Int):Option aw:=
 cond (decide (al≤0)) (
  some ab) (
  cond (decide (al≥64)) (
   (some (({ (default:aw) with dP:=ab.cv <<< (BitVec.ofInt 64 (bE (al - 64))).toNat } :aw))).bind fun bJ=>
   some bJ) (
   (some ((ab.dP <<< (BitVec.ofInt 64 al).toNat) ||| (ab.cv >>> (BitVec.ofInt 64 (bE (64 - al))).toNat))).bind fun en=>
   (some ({ dP:=en,cv:=ab.cv <<< (BitVec.ofInt 64 al).toNat:aw })).bind fun fP=>
   some fP))
def FJ (ab:aw) (al:aw):Option aw:=
 (some ({ dP:=ab.dP ||| al.dP,cv:=ab.cv ||| al.cv:aw })).bind fun bJ=>
 some bJ
def uA:Nat→ (aH Cell)→Ref→Ref→aw→Int→ (List da)→Option (List da)
 | 0=>fun _ _ _ _ _ _=>none
 | n + 1=>fun hp ab al aU cE hW=>
   cond al.isNone (
    some hW) (
    (B1 hp al aU cE hW).bind fun aG=>
    (al).bind fun bT=>
    (cg hp bT).bind fun bw=>
    (uA n hp ab (bB bw.ct 0) aU (bE (cE + 1)) aG).bind fun aQ=>
    (FI (1#64)).bind fun bm=>
    (ab).bind fun bU=>
    (ey hp bU).bind fun b5=>
    (y5 bm (bE ((bE (b5.eu - 1)) - cE))).bind fun cD=>
    (FJ aU cD).bind fun c8=>
    (uA n hp ab (bB bw.ct 1) c8 (bE (cE + 1)) aQ).bind fun eU=>
    some eU)
def BU (hp:aH Cell) (ab:Ref) (al:Ref) (aU:aw) (cE:Int) (hW:List da):Option (List da):=uA fX hp ab al aU cE hW
def yB (hp:aH Cell) (ab:Ref) (aU:List da):Option (List da):=
 (cond ab.isSome (
  (ab).bind fun bT=>
  (ey hp bT).bind fun bw=>
  (BU hp ab bw.bK (default:aw) 0 aU).bind fun aG=>
  some aG) (
  some aU)).bind fun bq=>
 some bq
def yY (hp:aH Cell) (ab:Ref):Option (List da):=
 (yB hp ab ([]:List da)).bind fun aG=>
 some aG
def rz (hp:aH Cell) (ab:Ref):Option Int:=
 (yY hp ab).bind fun aG=>
 some (aG.length:Int)
def uE (hp:aH Cell) (ab:gp) (al:aA):Option (aH Cell):=
 (rk ab al.bd).bind fun aG=>
 (ab.nI.p).bind fun bT=>
 (g6 hp bT).bind fun bw=>
 (some ((cK bw aG.1).getD default)).bind fun bJ=>
 (rq hp bJ aG.2.1 aG.2.2).bind fun aQ=>
 (g6 aQ.2 bT).bind fun b5=>
 (some ((cK b5 aG.1).getD default)).bind fun en=>
 (rz aQ.2 en).bind fun bm=>
 (cond (bm ==0) (
  (some (ch aQ.2 bT (Cell.iT (gW b5 aG.1)))).bind fun b9=>
  some b9) (
  some aQ.2)).bind fun bq=>
 some bq
def BZ (ab:ca) (al:Int):Option Int:=
 (uz ab.bP (fun hy=>uC hy al)).bind fun aG=>
 some aG
def E5 (ab:List aA) (al:Int) (aU:Int):Option (List aA):=vV ab al aU
def uB (ab:ca) (al:Int):Option (Bool × ca):=
 (BZ ab al).bind fun aG=>
 cond (decide (aG < 0)) (
  some (false,ab)) (
  (E5 ab.bP aG (bE (aG + 1))).bind fun aQ=>
  some (true,({ ab with bP:=aQ } :ca)))
def uJ (hp:aH Cell) (ab:ja) (al:aA):au (aH Cell):=
 au.bind (au.of (ab.bP)) fun bT=>
 au.bind (au.of (lZ hp bT)) fun bw=>
 au.bind (au.of (uB bw.1 al.bt)) fun aG=>
 au.bind (au.any (Option Nat × Nat)) fun aN=>
 au.bind (au.of (some (ch hp bT (Cell.qS aG.2 aN.1 aN.2)))) fun b9=>
 au.ret b9
def B4 (hp:aH Cell) (y:ft) (ab:aA):au (aH Cell):=match y with
 | .nil=>fun _=>False
 | .l5 z=>au.of (yH hp z ab)
 | .kP z=>au.of (uE hp z ab)
 | .kQ z=>uJ hp z ab
def rl (hp:aH Cell) (ab:Ref) (al:b1):au (aA × Bool × (aH Cell)):=
 au.bind (au.of (uP hp ab al)) fun aG=>
 au.bind (cond aG.2 (
   au.bind (au.of (ab)) fun bT=>
   au.bind (au.of (fF hp bT)) fun bw=>
   au.bind (B4 hp bw.ik aG.1) fun aQ=>
   au.bind (au.of (fF aQ bT)) fun b5=>
   au.bind (au.of (b5.j2.p)) fun bU=>
   au.bind (au.of (iH aQ bU)) fun eo=>
   au.bind (au.of (some (ch aQ bU (Cell.hE (gW eo aG.1.bt))))) fun b9=>
   au.ret b9) (
   au.ret hp)) fun bq=>
 au.ret (aG.1,aG.2,bq)
def yF (hp:aH Cell) (ab:jI) (al:Vector aw 4):Option (Int × Bool):=
 (tb hp ab.pW al).bind fun aG=>
 some (aG.1,aG.2)
def xb (ab:BitVec 64):Option Int:=
 (cond (decide (ab≥ (4294967296#64))) (
  some (ab >>> (32#64).toNat,32)) (
  some (ab,0))).bind fun bq=>
 (cond (decide (bq.1≥ (65536#64))) (
  some (bq.1 >>> (16#64).toNat,bE (bq.2 + 16))) (
  some (bq.1,bq.2))).bind fun cx=>
 (cond (decide (cx.1≥ (256#64))) (
  some (cx.1 >>> (8#64).toNat,bE (cx.2 + 8))) (
  some (cx.1,cx.2))).bind fun eg=>
 (Ax (ByteArray.mk (List.toArray (List.append (List.append [0,1,2,2,3,3,3,3,4,4,4,4,4,4,4,4,5,5,5,5,5,5,5,5,5,5,5,5,5,5,5,5,6,6,6,6,6,6,6,6,6,6,6,6,6,6,6,6,6,6,6,6,6,6,6,6,6,6,6,6,6,6,6,6] [7,7,7,7,7,7,7,7,7,7,7,7,7,7,7,7,7,7,7,7,7,7,7,7,7,7,7,7,7,7,7,7,7,7,7,7,7,7,7,7,7,7,7,7,7,7,7,7,7,7,7,7,7,7,7,7,7,7,7,7,7,7,7,7]) (List.append [8,8,8,8,8,8,8,8,8,8,8,8,8,8,8,8,8,8,8,8,8,8,8,8,8,8,8,8,8,8,8,8,8,8,8,8,8,8,8,8,8,8,8,8,8,8,8,8,8,8,8,8,8,8,8,8,8,8,8,8,8,8,8,8] [8,8,8,8,8,8,8,8,8,8,8,8,8,8,8,8,8,8,8,8,8,8,8,8,8,8,8,8,8,8,8,8,8,8,8,8,8,8,8,8,8,8,8,8,8,8,8,8,8,8,8,8,8,8,8,8,8,8,8,8,8,8,8,8])))) ((eg.1.setWidth 8).toNat:Int)).bind fun aG=>
 some (bE (eg.2 + (aG.toNat:Int)))
def Cw (ab:aw):Option Int:=
 cond (ab.dP !=(0#64)) (
  (xb ab.dP).bind fun aG=>
  some (bE (64 + aG))) (
  (xb ab.cv).bind fun aQ=>
  some aQ)
def uU (ab:aw) (al:Int):Option Bool:=
 (Cw ab).bind fun aG=>
 some (decide (aG≤al))
def sZ (hp:aH Cell) (ab:Ref) (al:Int) (aU:Int) (cE:Int) (EP:Bool):Option (Int × Int × Bool):=
 (cb ab.isSome true (ab)).bind fun bT=>
 (cb ab.isSome true (cg hp bT)).bind fun bw=>
 (cond (ab.isSome && bw.cW) (
  (ab).bind fun bU=>
  (cg hp bU).bind fun b5=>
  some (al,b5.gi,true)) (
  some (aU,cE,EP))).bind fun bq=>
 some (bq.1,bq.2.1,bq.2.2)
def uM (hp:aH Cell) (ab:Ref) (al:aw):Option (Int × Int × Bool):=
 (cb ab.isNone false (ab)).bind fun bT=>
 (cb ab.isNone false (ey hp bT)).bind fun bw=>
 (cb ab.isNone false (uU al bw.eu)).bind fun aG=>
 cond (ab.isNone || (!aG)) (
  some (0,0,false)) (
  (ab).bind fun bU=>
  (ey hp bU).bind fun b5=>
  (sZ hp b5.bK 0 0 0 false).bind fun aQ=>
  (xd ab al b5.eu).bind fun bm=>
  (mw hp bm.1 bm.2.1 bm.2.2 (σ:=Ref × Int × Int × Int × Bool) (ε:=Ref × Int × Int × Int × Bool) (fun(oI:Int) (s1:Ref × Int × Int × Int × Bool)=>
   cond s1.1.isNone (
    some (.inr (s1.1,s1.2.1,s1.2.2.1,s1.2.2.2.1,s1.2.2.2.2))) (
    (s1.1).bind fun lr=>
    (idx 2 oI).bind fun bn=>
    (cg hp lr).bind fun eo=>
    (sZ hp (bB eo.ct bn) (bE (s1.2.1 + 1)) s1.2.2.1 s1.2.2.2.1 s1.2.2.2.2).bind fun cD=>
    some (.inl (bB eo.ct bn,bE (s1.2.1 + 1),cD.1,cD.2.1,cD.2.2)))) (b5.bK,0,aQ.1,aQ.2.1,aQ.2.2)).bind fun az=>
  Sum.elim (fun s1=>
   some (s1.2.2.1,s1.2.2.2.1,s1.2.2.2.2)) (fun dR=>
   some (dR.2.2.1,dR.2.2.2.1,dR.2.2.2.2)) az)
def uD (hp:aH Cell) (ab:gp) (al:Vector aw 4):Option (Int × Bool):=
 (s3 ab al).bind fun aG=>
 (ab.nI.p).bind fun bT=>
 (g6 hp bT).bind fun bw=>
 (some ((cK bw aG.1).getD default)).bind fun bJ=>
 (tg ab.eu).bind fun aQ=>
 (rD aG.2 aQ).bind fun bm=>
 (uM hp bJ bm).bind fun cD=>
 some (cD.2.1,cD.2.2)
def E6 (al:Vector aw 4):Option (Vector aw 4):=
 some al
def y0 (ab:a2) (al:cJ):Option Int:=
 (td ab al.gf).bind fun aG=>
 cond (decide (aG < 0)) (
  some 0) (
  (idx ab.hP.length aG).bind fun bn=>
  some ((aJ ab.hP bn).fz))
def xe (ab:aw) (al:aw):Option Int:=
 cond (decide (ab=al)) (
  some 0) (
  (some ((decide (ab.dP < al.dP)) || ((ab.dP ==al.dP) && (decide (ab.cv < al.cv))))).bind fun bJ=>
  cond bJ (
   some (-1)) (
   some 1))
def y1 (ab:c5) (al:Int) (aU:Int) (cE:aw):Option Bool:=
 cond (!ab.ho) (
  some ((decide (al≥1)) && (decide (al≤4)))) (
  cond (al ==1) (
   some (decide (cE=ab.cL))) (
   cond (al ==2) (
    (xf aU ab.fk).bind fun aG=>
    (rD cE aG).bind fun aQ=>
    (rD ab.cL aG).bind fun bm=>
    some (decide (aQ=bm))) (
    cond (al ==3) (
     (rD cE ab.iP).bind fun cD=>
     some (decide (cD=ab.cL))) (
     cond (al ==4) (
      (xe ab.cL cE).bind fun c8=>
      (cb (decide (c8≤0)) true (xe cE ab.lV)).bind fun eU=>
      some ((decide (c8≤0)) && (decide (eU≤0)))) (
      some false)))))
def pA (ab:a2) (al:b1) (aU:Vector aw 4):Option Bool:=
 (xj ab al).bind fun aG=>
 cond (!aG.2) (
  some false) (
  (gG (σ:=Int) (ε:=(Int × Bool) ⊕ (Int × Int × Bool × Bool)) fX (fun s1=>
   cond (decide (s1 < (aG.1.cj.length:Int))) (
    (idx aG.1.cj.length s1).bind fun bn=>
    (cb ((decide (s1≥ (al.cd.length:Int))) || (decide (s1≥4))) false (idx al.cd.length s1)).bind fun c3=>
    (cb ((decide (s1≥ (al.cd.length:Int))) || (decide (s1≥4))) false (y0 ab (aJ aG.1.cj bn))).bind fun aQ=>
    (cb ((decide (s1≥ (al.cd.length:Int))) || (decide (s1≥4))) false (idx 4 s1)).bind fun eI=>
    (cb ((decide (s1≥ (al.cd.length:Int))) || (decide (s1≥4))) false (y1 (aJ al.cd c3) ((aJ aG.1.cj bn).du) aQ (bB aU eI))).bind fun bm=>
    (some (((decide (s1≥ (al.cd.length:Int))) || (decide (s1≥4))) || (!bm))).bind fun bJ=>
    cond bJ (
     some (.inr (Sum.inr (s1,s1,decide (s1 < (aG.1.cj.length:Int)),bJ)))) (
     some (.inl (bE (s1 + 1))))) (
    some (.inr (Sum.inl (s1,decide (s1 < (aG.1.cj.length:Int))))))) 0).bind fun az=>
   Sum.elim (fun az=>
    some true) (fun az=>
   some false) az)
def w3 {σ ε:Type} (al:ca) (aU:Vector aw 4) (step:aA→σ→Option (σ ⊕ ε)) (bX:σ):Option (σ ⊕ ε):=
 (gG (σ:=Int × (σ)) (ε:=(Int × Bool × (σ)) ⊕ (Int × Bool × Bool × (ε))) fX (fun s1=>
  cond (decide (s1.1 < (al.bP.length:Int))) (
   (idx al.bP.length s1.1).bind fun bn=>
   (pA al.mA ((aJ al.bP bn).bd) aU).bind fun aG=>
   cond aG (
    (step (aJ al.bP bn) s1.2).bind fun aQ=>
    Sum.elim (fun s2=>
     some (.inl (bE (s1.1 + 1),s2))) (fun dR=>
     some (.inr (Sum.inr (s1.1,decide (s1.1 < (al.bP.length:Int)),aG && (!false),dR)))) aQ) (
    some (.inl (bE (s1.1 + 1),s1.2)))) (
   some (.inr (Sum.inl (s1.1,decide (s1.1 < (al.bP.length:Int)),s1.2))))) (0,bX)).bind fun az=>
  Sum.elim (fun az=>
   some (.inl az.2.2)) (fun az=>
  some (.inr az.2.2.2)) az
def rj (ab:ca) (al:Vector aw 4):Option (aA × Bool):=
 (E6 al).bind fun aG=>
 (w3 ab aG (σ:=Unit) (ε:=Bool × aA) (fun(oI:aA) (s1:Unit)=>
  (lO oI).bind fun aQ=>
  some (.inr (true,aQ))) ()).bind fun az=>
 Sum.elim (fun s1=>
  some ((default:aA),false)) (fun aN=>
  some (aN.2,aN.1)) az
def uK (hp:aH Cell) (ab:ja) (al:Vector aw 4):Option (Int × Bool):=
 (ab.bP).bind fun bT=>
 (lZ hp bT).bind fun bw=>
 (rj bw.1 al).bind fun aG=>
 some (aG.1.bt,aG.2)
def B5 (hp:aH Cell) (y:ft) (ab:Vector aw 4):Option (Int × Bool):=match y with
 | .nil=>none
 | .l5 z=>yF hp z ab
 | .kP z=>uD hp z ab
 | .kQ z=>uK hp z ab
def rm (hp:aH Cell) (ab:Ref) (al:Vector aw 4):Option (aA × Bool):=
 cond ab.isNone (
  some ((default:aA),false)) (
  (gG (σ:=Int × (Vector aw 4)) (ε:=(Int × Bool × (Vector aw 4))) fX (fun s1=>
   cond (decide (s1.1 < 4)) (
    (ab).bind fun bT=>
    (fF hp bT).bind fun bw=>
    (cond (decide (s1.1≥bw.o8)) (
     (idx 4 s1.1).bind fun bn=>
     some (fW s1.2 bn (default:aw))) (
     some s1.2)).bind fun bq=>
    some (.inl (bE (s1.1 + 1),bq))) (
    some (.inr (s1.1,decide (s1.1 < 4),s1.2)))) (0,al)).bind fun az=>
  (ab).bind fun bU=>
  (fF hp bU).bind fun b5=>
  (B5 hp b5.ik az.2.2).bind fun aG=>
  (s7 hp ab aG.1 aG.2).bind fun aQ=>
  some (aQ.1,aQ.2))
def rr (hp:aH Cell) (ab:Ref):Option Int:=
 cond ab.isNone (
  some 0) (
  (ab).bind fun bT=>
  (fF hp bT).bind fun bw=>
  (bw.j2.p).bind fun bU=>
  (iH hp bU).bind fun b5=>
  some (b5.length:Int))
def s8 (hp:aH Cell) (ab:Ref):Option Int:=
 cond ab.isNone (
  some 0) (
  (ab).bind fun bT=>
  (fF hp bT).bind fun bw=>
  some bw.pE)
def y4 (hp:aH Cell):au (Bool × (aH Cell)):=
 au.bind (au.of (ti ([]:List (BitVec 8)) 0)) fun aG=>
 au.bind (au.of (s5 aG)) fun aQ=>
 au.bind (lP hp aQ.1 1) fun bm=>
 au.bind (au.of (s8 bm.2 bm.1)) fun cD=>
 au.bind (cond (decide ((cD ==1)=true)) (lP bm.2 aQ.1 2) (au.ret (default,bm.2))) fun c8=>
 au.bind (au.of (cb (cD ==1) true (s8 c8.2 c8.1))) fun e9=>
 au.bind (cond (decide (((cD ==1) && (e9 ==2))=true)) (lP c8.2 aQ.1 3) (au.ret (default,c8.2))) fun gm=>
 au.bind (au.of (cb ((cD ==1) && (e9 ==2)) true (s8 gm.2 gm.1))) fun ib=>
 au.bind (cond (decide ((((cD ==1) && (e9 ==2)) && (ib ==3))=true)) (lP gm.2 aQ.1 4) (au.ret (default,gm.2))) fun hU=>
 au.bind (au.of (cb (((cD ==1) && (e9 ==2)) && (ib ==3)) true (s8 hU.2 hU.1))) fun fx=>
 au.bind (cond (decide (((((cD ==1) && (e9 ==2)) && (ib ==3)) && (fx ==3))=true)) (lP hU.2 aQ.1 9) (au.ret (default,hU.2))) fun ke=>
 au.bind (au.of (some (((((cD ==1) && (e9 ==2)) && (ib ==3)) && (fx ==3)) && ke.1.isNone))) fun bJ=>
 au.ret (bJ,ke.2)
def yT (hp:aH Cell) (ab:List (BitVec 8)) (al:BitVec 8):au (Bool × (aH Cell)):=
 au.bind (au.of (ti ([]:List (BitVec 8)) 0)) fun aG=>
 au.bind (au.of (s5 aG)) fun aQ=>
 au.bind (ox (σ:=Int × (Vector Ref 4) × (aH Cell)) (ε:=(Int × Bool × (Vector Ref 4) × (aH Cell))) fX (fun s1=>
   cond (decide (s1.1≤4)) (
    au.bind (au.of (iI 128 ([]:List bx) aQ.1.cA)) fun bm=>
    au.bind (au.of (some ({ b6:=ByteArray.mk #[97],gf:=4,du:=s1.1:cJ }))) fun bJ=>
    au.bind (au.of (idx bm.length 0)) fun bn=>
    au.bind (au.of (some (({ aQ.1 with cA:=gv bm bn ({ (aJ bm bn) with cj:= [bJ] } :bx) } :a2)))) fun en=>
    au.bind (lP s1.2.2 en 1) fun cD=>
    au.bind (au.of (rU ab 0 (min (ab.length:Int) 12))) fun c8=>
    au.bind (ox (σ:=Int × (aH Cell)) (ε:=(Int × Bool × (aH Cell))) fX (fun s2=>
      cond (decide (s2.1 < (c8.length:Int))) (
       au.bind (au.of (idx c8.length s2.1)) fun c3=>
       au.bind (au.of (qO (aJ c8 c3) (16#8))) fun eU=>
       au.bind (au.of (some (({ (default:aw) with cv:=eU.setWidth 64 } :aw)))) fun fP=>
       au.bind (au.of (some (({ (default:c5) with ho:=true,cL:=fP } :c5)))) fun hz=>
       au.bind (au.of (some (({ (default:c5) with ho:=true,cL:=fP,fk:=4 } :c5)))) fun gJ=>
       au.bind (au.of (some (({ (default:c5) with ho:=true,cL:=fP,iP:=({ (default:aw) with cv:=15#64 } :aw) } :c5)))) fun iB=>
       au.bind (au.of (some (({ (default:c5) with ho:=true,cL:=fP,lV:=fP } :c5)))) fun hX=>
       au.bind (au.of (idx ([hz,gJ,iB,hX].length) (bE (s1.1 - 1)))) fun eI=>
       au.bind (au.of (some (({ (default:b1) with et:=1,cd:= [(aJ [hz,gJ,iB,hX] eI)],m6:=1 } :b1)))) fun hY=>
       au.bind (au.of (cond (decide (s1.1≥3)) (
         some ({ hY with jv:=3 } :b1)) (
         some hY))) fun bq=>
       au.bind (au.of (some (({ (default:aA) with bd:=bq,bt:=bE (s2.1 + 1) } :aA)))) fun lN=>
       au.bind (ru s2.2 cD.1 lN) fun e9=>
       au.bind (au.of (qO (aJ c8 c3) (16#8))) fun gm=>
       au.bind (au.of (qO al (16#8))) fun iD=>
       au.bind (au.of (cb (gm ==iD) true (vT s2.1 2))) fun ib=>
       au.bind (cond ((gm ==iD) && (ib ==1)) (
         au.bind (rl e9.2 cD.1 bq) fun hU=>
         au.ret hU.2.2) (
         au.ret e9.2)) fun cx=>
       au.ret (.inl (bE (s2.1 + 1),cx))) (
       au.ret (.inr (s2.1,decide (s2.1 < (c8.length:Int)),s2.2)))) (0,cD.2)) fun aX=>
    au.bind (au.of (idx 4 (bE (s1.1 - 1)))) fun jD=>
    au.ret (.inl (bE (s1.1 + 1),fW s1.2.1 jD cD.1,aX.2.2))) (
    au.ret (.inr (s1.1,decide (s1.1≤4),s1.2.1,s1.2.2)))) (1,(default:Vector Ref 4),hp)) fun az=>
 au.bind (au.of (gG (σ:=Int) (ε:=(Int × Bool) ⊕ (Int × Bool × Ref × Bool × Bool × (Vector Ref 4) × Int × Bool × Bool)) fX (fun k0=>
   cond (decide (k0 < 16)) (
    (some (({ (default:aw) with cv:=BitVec.ofInt 64 k0 } :aw))).bind fun jh=>
    (rm az.2.2.2 (bB az.2.2.1 0) (fW (default:Vector aw 4) 0 jh)).bind fun e6=>
    (gG (σ:=Int) (ε:=(Int × Bool) ⊕ (Ref × Bool × Int × Bool × Bool)) fX (fun qh=>
     cond (decide (qh < 4)) (
      (idx 4 qh).bind fun yq=>
      (rm az.2.2.2 (bB az.2.2.1 yq) (fW (default:Vector aw 4) 0 jh)).bind fun fx=>
      (cb ((e6.2 !=fx.2) || (e6.1.bt !=fx.1.bt)) false (rr az.2.2.2 (bB az.2.2.1 yq))).bind fun ke=>
      (cb ((e6.2 !=fx.2) || (e6.1.bt !=fx.1.bt)) false (rr az.2.2.2 (bB az.2.2.1 0))).bind fun oH=>
      (some (((e6.2 !=fx.2) || (e6.1.bt !=fx.1.bt)) || (ke !=oH))).bind fun kC=>
      cond kC (
       some (.inr (Sum.inr (bB az.2.2.1 yq,fx.2,qh,decide (qh < 4),kC)))) (
       some (.inl (bE (qh + 1))))) (
      some (.inr (Sum.inl (qh,decide (qh < 4)))))) 0).bind fun gP=>
     Sum.elim (fun gP=>
      some (.inl (bE (k0 + 1)))) (fun gP=>
     some (.inr (Sum.inr (k0,e6.2,gP.1,gP.2.1,decide (k0 < 16),az.2.2.1,gP.2.2.1,gP.2.2.2.1,gP.2.2.2.2)))) gP) (
    some (.inr (Sum.inl (k0,decide (k0 < 16)))))) 0)) fun dS=>
   Sum.elim (fun dS=>
    au.bind (y4 az.2.2.2) fun mR=>
    au.ret (mR.1,mR.2)) (fun dS=>
   au.ret (false,az.2.2.2)) dS
end Go.Proofs.YthkfkliknjiecaaGreat
