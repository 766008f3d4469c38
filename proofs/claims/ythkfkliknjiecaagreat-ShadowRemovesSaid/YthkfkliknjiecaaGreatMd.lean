/-
  Each function of the translation as a functional program. Conditions: none.
-/
import Derived.Test.YthkfkliknjiecaaGreatMt
set_option maxRecDepth 100000
namespace Go.Proofs.YthkfkliknjiecaaGreat
open Go Gv
def vA (J:List (BitVec 8)) (ah:Int):Option bu:=
 (sL J 0 (min (J.length:Int) ah)).bind fun aD=>
 some ({ (default:bu) with ch:=aD } :bu)
def DT (J:bu):Option Bool:=
 some (decide (J.s7<(J.ch.length:Int)))
def fZ (J:bu) (ah:Int):Option (Int×bu):=
 (DT J).bind fun aD=>
 cond ((!aD)||(decide (ah<1))) (
  some (0,J)) (
  (idx J.ch.length (bs ((bs (J.s7+1)) - 1))).bind fun aZ=>
  (o2 ((az J.ch aZ).toNat:Int) ah).bind fun aK=>
  some (aK,({ J with s7:=bs (J.s7+1) } :bu)))
def lV (J:bu):Option (Bool×bu):=
 (fZ J 2).bind fun aD=>
 some (aD.1==1,aD.2)
def zI (J:bu):Option ((List dT)×bu):=
 (fZ J 4).bind fun aD=>
 (idx (([0,0,65535,3]:List Int).length) aD.1).bind fun aZ=>
 (some ({ bS:=({ (default:an) with b2:=1#64 } :an),b3:=({ (default:an) with b2:=15#64 } :an),qg:=2:ha })).bind fun bH=>
 (some ({ bS:=({ (default:an) with b2:=2#64 } :an),b3:=({ (default:an) with b2:=3#64 } :an),qg:=3:ha })).bind fun dn=>
 (lV aD.2).bind fun aK=>
 (cond aK.1 (
  (fZ aK.2 2).bind fun b6=>
  (some (({ (default:an) with b2:=BitVec.ofInt 64 (bs (8 * b6.1)) } :an))).bind fun jR=>
  (fZ b6.2 4).bind fun eB=>
  (idx (([0,0,65535,3]:List Int).length) eB.1).bind fun cT=>
  (some ({ bS:=jR,b3:=({ (default:an) with b2:=8#64 } :an),qg:=az ([0,0,65535,3]:List Int) cT:ha })).bind fun ih=>
  (fV 40 [bH,dn] [ih]).bind fun fN=>
  some (eB.2,fN)) (
  some (aK.2,[bH,dn]))).bind fun bx=>
 (fZ bx.1 4).bind fun bb=>
 (idx (([0,0,65535,3]:List Int).length) bb.1).bind fun bP=>
 (some (({ (default:dT) with b0:=2,iN:=2,hX:=az ([0,0,65535,3]:List Int) bP } :dT))).bind fun fm=>
 (some (({ (default:dT) with b0:=3,iN:=3,nY:=9,hX:=0 } :dT))).bind fun hF=>
 (fZ bb.2 3).bind fun bJ=>
 (cond (bJ.1==1) (
  (fZ bJ.2 3).bind fun bq=>
  (some ({ bS:=({ (default:an) with b2:=5#64 } :an),b3:=({ (default:an) with b2:=15#64 } :an),qg:=bs (1+bq.1):ha })).bind fun jQ=>
  some (bq.2,({ hF with pz:= [jQ] } :dT))) (
  some (bJ.2,hF))).bind fun cY=>
 (some (({ ({ (default:dT) with b0:=1,iN:=1,nY:=4,hX:=az ([0,0,65535,3]:List Int) aZ } :dT) with pz:=bx.2 } :dT))).bind fun hG=>
 some ([hG,fm,cY.2],cY.1)
def zB (J:bu):Option ((List ei)×bu):=
 (some (({ (default:ei) with b0:=1,cF:=ByteArray.mk #[110,111,112] } :ei))).bind fun bH=>
 (some (({ (default:ei) with b0:=2,cF:=ByteArray.mk #[100,114,111,112],oV:= [({ (default:ft) with iR:=6 } :ft)] } :ei))).bind fun dn=>
 (some ({ cF:=ByteArray.mk #[112,111,114,116],fB:=16:jf })).bind fun fm=>
 (some (({ (default:ft) with iR:=7,ld:=({ (default:ga) with cS:=3 } :ga) } :ft))).bind fun hF=>
 (some (({ (default:ei) with b0:=3,cF:=ByteArray.mk #[102,111,114,119,97,114,100],kL:= [fm],oV:= [hF] } :ei))).bind fun hG=>
 (some ({ iR:=1,kh:=5,ld:=({ (default:ga) with cS:=3 } :ga):ft })).bind fun jQ=>
 (some (({ (default:ga) with cS:=2,wZ:=5 } :ga))).bind fun jR=>
 (some (({ (default:ei) with b0:=4,cF:=ByteArray.mk #[116,97,103],kL:= [{ cF:=ByteArray.mk #[120],fB:=4:jf }],oV:= [jQ,{ iR:=2,kh:=3,ld:=jR:ft }] } :ei))).bind fun ih=>
 (some ([{ cF:=ByteArray.mk #[120],fB:=4:jf },{ cF:=ByteArray.mk #[121],fB:=12:jf }])).bind fun mj=>
 (some ({ iR:=1,kh:=9,ld:=({ (default:ga) with cS:=3 } :ga):ft })).bind fun lH=>
 (some (({ (default:ga) with cS:=3,wZ:=1 } :ga))).bind fun lk=>
 (some ([({ (default:ft) with iR:=4,kh:=3 } :ft),lH,{ iR:=3,kh:=8,ld:=lk:ft }])).bind fun mJ=>
 (some (({ (default:ei) with b0:=5,cF:=ByteArray.mk #[119,114,97,112],kL:=mj,oV:=mJ } :ei))).bind fun ll=>
 (fZ J 2).bind fun aD=>
 (some (({ (default:ft) with iR:=5,kh:=bs (2+aD.1) } :ft))).bind fun lI=>
 (fZ aD.2 256).bind fun aK=>
 (some (({ (default:an) with b2:=BitVec.ofInt 64 aK.1 } :an))).bind fun o7=>
 (some (({ (default:ga) with cS:=1,bS:=o7 } :ga))).bind fun pU=>
 (some (({ (default:ei) with b0:=6,cF:=ByteArray.mk #[115,116,114,105,112],oV:= [lI,{ iR:=2,kh:=6,ld:=pU:ft }] } :ei))).bind fun nD=>
 (lV aK.2).bind fun bb=>
 (cond bb.1 (
  (idx ([bH,dn,hG,ih,ll,nD].length) 2).bind fun bP=>
  (some (h5 [bH,dn,hG,ih,ll,nD] bP ({ (az [bH,dn,hG,ih,ll,nD] bP) with rk:=ByteArray.mk #[112,111,114,116,32,33,61,32,48] } :ei))).bind fun rX=>
  some rX) (
  some [bH,dn,hG,ih,ll,nD])).bind fun bx=>
 (lV bb.2).bind fun bJ=>
 (cond bJ.1 (
  (idx bx.length 4).bind fun aZ=>
  (some (h5 bx aZ ({ (az bx aZ) with rk:=ByteArray.mk #[120,32,60,32,121,32,124,124,32,120,32,61,61,32,49,53] } :ei))).bind fun td=>
  some td) (
  some bx)).bind fun cY=>
 some (cY,bJ.2)
def zK (J:bu):Option ((List bX)×bu):=
 (some ({ cF:=ByteArray.mk #[97],g3:=4,cS:=1:cR })).bind fun bH=>
 (fZ J 2).bind fun aD=>
 (fZ aD.2 5).bind fun aK=>
 (some (({ (default:bX) with b0:=1,cF:=ByteArray.mk #[112,111,114,116,115],bN:= [bH],dH:=([1,2,4]:List Int),hX:=bs (1+aD.1),j1:=bs (2+aK.1) } :bX))).bind fun dn=>
 (some ({ cF:=ByteArray.mk #[100],g3:=7,cS:=2:cR })).bind fun fm=>
 (fZ aK.2 6).bind fun bb=>
 (lV bb.2).bind fun bJ=>
 (cond bJ.1 (
  (some ({ cF:=ByteArray.mk #[109],g3:=3,cS:=1:cR })).bind fun pU=>
  (fV 32 [fm] [pU]).bind fun jb=>
  some (({ ({ (default:bX) with b0:=2,cF:=ByteArray.mk #[114,111,117,116,101,115],dH:=([1,2,3,4]:List Int),hX:=2,j1:=bs (3+bb.1) } :bX) with bN:= [] } :bX),jb)) (
  some (({ (default:bX) with b0:=2,cF:=ByteArray.mk #[114,111,117,116,101,115],dH:=([1,2,3,4]:List Int),hX:=2,j1:=bs (3+bb.1) } :bX),[fm]))).bind fun bx=>
 (some ({ cF:=ByteArray.mk #[101],g3:=6,cS:=3:cR })).bind fun hF=>
 (some ({ cF:=ByteArray.mk #[97],g3:=4,cS:=3:cR })).bind fun hG=>
 (fZ bJ.2 6).bind fun bq=>
 (lV bq.2).bind fun b6=>
 (cond b6.1 (
  (some ({ cF:=ByteArray.mk #[98],g3:=5,cS:=1:cR })).bind fun o7=>
  (fV 32 [hF,hG] [o7]).bind fun jl=>
  some (({ ({ (default:bX) with b0:=3,cF:=ByteArray.mk #[97,99,108],dH:=([1,2,3,5,6]:List Int),hX:=1,j1:=bs (4+bq.1) } :bX) with bN:= [] } :bX),jl)) (
  some (({ (default:bX) with b0:=3,cF:=ByteArray.mk #[97,99,108],dH:=([1,2,3,5,6]:List Int),hX:=1,j1:=bs (4+bq.1) } :bX),[hF,hG]))).bind fun cY=>
 (some ({ cF:=ByteArray.mk #[102],g3:=8,cS:=4:cR })).bind fun jQ=>
 (fZ b6.2 5).bind fun eB=>
 (lV eB.2).bind fun fN=>
 (cond fN.1 (
  (some ({ cF:=ByteArray.mk #[103],g3:=9,cS:=1:cR })).bind fun ll=>
  (some ({ cF:=ByteArray.mk #[100],g3:=7,cS:=2:cR })).bind fun lI=>
  (fV 32 [jQ] [ll,lI]).bind fun ee=>
  some (({ ({ (default:bX) with b0:=4,cF:=ByteArray.mk #[115,112,97,110,115],dH:=([1,3,5]:List Int),hX:=3,vx:= [({ (default:an) with b2:=7#64 } :an)],j1:=bs (3+eB.1) } :bX) with bN:= [] } :bX),ee)) (
  some (({ (default:bX) with b0:=4,cF:=ByteArray.mk #[115,112,97,110,115],dH:=([1,3,5]:List Int),hX:=3,vx:= [({ (default:an) with b2:=7#64 } :an)],j1:=bs (3+eB.1) } :bX),[jQ]))).bind fun fA=>
 (some ([dn,({ bx.1 with bN:=bx.2 } :bX),({ cY.1 with bN:=cY.2 } :bX),({ fA.1 with bN:=fA.2 } :bX)])).bind fun jR=>
 (some ([ByteArray.mk #[],ByteArray.mk #[97,32,33,61,32,48],ByteArray.mk #[97,32,60,32,49,52,32,38,38,32,97,32,33,61,32,51]])).bind fun ih=>
 (some ([ByteArray.mk #[],ByteArray.mk #[100,58,58,112,114,101,102,105,120,95,108,101,110,103,116,104,32,62,61,32,56],ByteArray.mk #[100,58,58,112,114,101,102,105,120,95,108,101,110,103,116,104,32,61,61,32,51,50,32,45,62,32,100,58,58,118,97,108,117,101,32,62,32,48,120,102,102]])).bind fun mj=>
 (some ([ByteArray.mk #[],ByteArray.mk #[112,114,105,111,114,105,116,121,32,60,32,49,48,48,32,38,38,32,40,101,58,58,109,97,115,107,32,33,61,32,48,32,124,124,32,97,58,58,109,97,115,107,32,33,61,32,48,41],ByteArray.mk #[101,58,58,109,97,115,107,32,61,61,32,48,32,45,62,32,112,114,105,111,114,105,116,121,32,62,32,53]])).bind fun lH=>
 (some ([ByteArray.mk #[],ByteArray.mk #[102,58,58,104,105,103,104,32,45,32,102,58,58,108,111,119,32,60,61,32,48,120,49,48,48],ByteArray.mk #[33,40,102,58,58,108,111,119,32,61,61,32,48,32,38,38,32,102,58,58,104,105,103,104,32,62,32,49,48,48,48,41]])).bind fun lk=>
 (ey (σ:=Int×(List bX)×bu) (ε:=(Int×Bool×(List bX)×bu)) ec (fun s1=>
  cond (decide (s1.1<(jR.length:Int))) (
   (idx ([ih,mj,lH,lk].length) s1.1).bind fun aZ=>
   (fZ s1.2.2 3).bind fun e8=>
   (idx ((az [ih,mj,lH,lk] aZ).length) e8.1).bind fun bP=>
   (idx s1.2.1.length s1.1).bind fun cT=>
   (some (h5 s1.2.1 cT ({ (az s1.2.1 cT) with rk:=az (az [ih,mj,lH,lk] aZ) bP } :bX))).bind fun mJ=>
   some (.inl (bs (s1.1+1),mJ,e8.2))) (
   some (.inr (s1.1,decide (s1.1<(jR.length:Int)),s1.2.1,s1.2.2)))) (0,jR,fN.2)).bind fun ay=>
 some (ay.2.2.1,ay.2.2.2)
def zU (J:bu) (ah:List bX):Option ((List c3)×bu):=
 (fZ J 3).bind fun aD=>
 (fZ aD.2 6).bind fun aK=>
 (fZ aK.2 6).bind fun bb=>
 (fZ bb.2 4).bind fun bJ=>
 (ey (σ:=Int×c3×(List dN)×bu×c3×(List dN)×c3×(List dN)) (ε:=(Int×Bool×c3×(List dN)×bu×c3×(List dN)×c3×(List dN))) ec (fun s1=>
  cond (decide (s1.1<(ah.length:Int))) (
   (idx ah.length s1.1).bind fun aZ=>
   (tf (α:=Bool) 1 (((az ah aZ).bN).length:Int)).bind fun bq=>
   (tf (α:=Bool) 1 (((az ah aZ).bN).length:Int)).bind fun b6=>
   (ey (σ:=Int×(List Bool)×(List Bool)×bu) (ε:=(Int×Bool×(List Bool)×(List Bool)×bu)) ec (fun s2=>
    cond (decide (s2.1<(bq.length:Int))) (
     (fZ s2.2.2.2 4).bind fun eB=>
     (idx s2.2.2.1.length s2.1).bind fun bP=>
     (idx s2.2.1.length s2.1).bind fun cT=>
     some (.inl (bs (s2.1+1),h5 s2.2.1 cT (decide (eB.1>0)),h5 s2.2.2.1 bP true,eB.2))) (
     some (.inr (s2.1,decide (s2.1<(bq.length:Int)),s2.2.1,s2.2.2.1,s2.2.2.2)))) (0,b6,bq,s1.2.2.2.1)).bind fun aO=>
   (some ({ ef:=(az ah aZ).b0,sJ:=true,sE:=true,bN:=aO.2.2.2.1:dN })).bind fun bH=>
   (fV 40 s1.2.2.2.2.2.2.2 [bH]).bind fun fN=>
   (fZ aO.2.2.2.2 4).bind fun e8=>
   (cond (decide (e8.1>0)) (
    (fZ e8.2 4).bind fun kG=>
    (lV kG.2).bind fun o9=>
    (some ({ ef:=(az ah aZ).b0,sJ:=decide (kG.1>0),sE:=o9.1,bN:=aO.2.2.1:dN })).bind fun fm=>
    (fV 40 s1.2.2.2.2.2.1 [fm]).bind fun qE=>
    some (o9.2,({ s1.2.2.2.2.1 with j0:= [] } :c3),qE)) (
    some (e8.2,s1.2.2.2.2.1,s1.2.2.2.2.2.1))).bind fun bx=>
   (lV bx.1).bind fun ee=>
   (cond ee.1 (
    (lV ee.2).bind fun jl=>
    (lV jl.2).bind fun jb=>
    (some ({ ef:=(az ah aZ).b0,sJ:=jl.1,sE:=jb.1,bN:=aO.2.2.2.1:dN })).bind fun dn=>
    (fV 40 s1.2.2.1 [dn]).bind fun jx=>
    some (jb.2,({ s1.2.1 with j0:= [] } :c3),jx)) (
    some (ee.2,s1.2.1,s1.2.2.1))).bind fun cY=>
   some (.inl (bs (s1.1+1),cY.2.1,cY.2.2,cY.1,bx.2.1,bx.2.2,({ s1.2.2.2.2.2.2.1 with j0:= [] } :c3),fN))) (
   some (.inr (s1.1,decide (s1.1<(ah.length:Int)),s1.2.1,s1.2.2.1,s1.2.2.2.1,s1.2.2.2.2.1,s1.2.2.2.2.2.1,s1.2.2.2.2.2.2.1,s1.2.2.2.2.2.2.2)))) (0,({ (default:c3) with b0:=7,cF:=ByteArray.mk #[102,101,119],dH:= [bs (1+bb.1)],sD:=bJ.1 } :c3),([]:List dN),bJ.2,({ (default:c3) with b0:=2,cF:=ByteArray.mk #[115,111,109,101],dH:=([1,2,bs (3+aD.1)]:List Int),sD:=bs (1+aK.1) } :c3),([]:List dN),({ (default:c3) with b0:=1,cF:=ByteArray.mk #[97,108,108],dH:=([1,2,3,4,5,6]:List Int),sD:=40,A7:=true } :c3),([]:List dN))).bind fun ay=>
 (some (({ ay.2.2.2.2.2.2.2.1 with j0:=ay.2.2.2.2.2.2.2.2 } :c3))).bind fun hF=>
 (some ([hF,({ ay.2.2.2.2.2.1 with j0:=ay.2.2.2.2.2.2.1 } :c3),({ ay.2.2.1 with j0:=ay.2.2.2.1 } :c3)])).bind fun hG=>
 some (hG,ay.2.2.2.2.1)
def xA (J:bu):Option (a3×bu):=
 (fZ J 8).bind fun aD=>
 (fZ aD.2 30).bind fun aK=>
 (some ({ b0:=1,cF:=ByteArray.mk #[105,110,103,114,101,115,115],fB:=16:fO })).bind fun bH=>
 (some ({ b0:=2,cF:=ByteArray.mk #[101,103,114,101,115,115],fB:=16:fO })).bind fun dn=>
 (some ({ b0:=3,cF:=ByteArray.mk #[109,101,116,97],fB:=8:fO })).bind fun fm=>
 (some ({ b0:=6,cF:=ByteArray.mk #[101],fB:=8:fO })).bind fun hF=>
 (some ({ b0:=7,cF:=ByteArray.mk #[100],fB:=32:fO })).bind fun hG=>
 (some ({ b0:=8,cF:=ByteArray.mk #[102],fB:=12:fO })).bind fun jQ=>
 (some ({ b0:=9,cF:=ByteArray.mk #[103],fB:=4:fO })).bind fun jR=>
 (some ([bH,dn,fm,{ b0:=4,cF:=ByteArray.mk #[97],fB:=4:fO },{ b0:=5,cF:=ByteArray.mk #[98],fB:=4:fO },hF,hG,jQ,jR])).bind fun ih=>
 (some (({ ({ (default:a3) with AF:=bs (2+aD.1),AW:=bs (12+aK.1) } :a3) with fF:=ih } :a3))).bind fun mj=>
 (some ({ b0:=1,cF:=ByteArray.mk #[111,110,101],fF:=([4,5,6]:List Int):kb })).bind fun lH=>
 (some ({ b0:=2,cF:=ByteArray.mk #[116,119,111],fF:=([7]:List Int):kb })).bind fun lk=>
 (some ({ b0:=3,cF:=ByteArray.mk #[116,104,114,101,101],fF:=([8,9]:List Int):kb })).bind fun mJ=>
 (zI aK.2).bind fun bb=>
 (zB bb.2).bind fun bJ=>
 (zK bJ.2).bind fun bq=>
 (some (({ ({ mj with mo:= [lH,lk,mJ] } :a3) with mW:=bb.1 } :a3))).bind fun ll=>
 (some (({ ({ ll with dH:=bJ.1 } :a3) with bt:=bq.1 } :a3))).bind fun lI=>
 (zU bq.2 lI.bt).bind fun b6=>
 (some ([{ ef:=1,iN:=1:gb },{ ef:=2,iN:=2:gb },({ (default:gb) with ef:=3 } :gb),{ ef:=4,iN:=3:gb }])).bind fun o7=>
 (lV b6.2).bind fun eB=>
 (cond eB.1 (
  (fV 16 o7 [({ (default:gb) with ef:=1 } :gb)]).bind fun kG=>
  some kG) (
  some o7)).bind fun bx=>
 (lV eB.2).bind fun fN=>
 (cond fN.1 (
  (some (({ (default:fu) with ef:=2,lz:=4,qa:=1 } :fu))).bind fun Kj=>
  (fV 48 ([]:List fu) [Kj]).bind fun jx=>
  some (({ ({ ({ lI with kc:=b6.1 } :a3) with nZ:= [] } :a3) with oW:= [] } :a3),jx)) (
  some (({ ({ lI with kc:=b6.1 } :a3) with nZ:= [] } :a3),([]:List fu)))).bind fun cY=>
 (lV fN.2).bind fun e8=>
 (c0 e8.1 true (idx cY.1.bt.length 2)).bind fun aZ=>
 (cond (e8.1&&((((az cY.1.bt aZ).bN).length:Int)==3)) (
  (some (({ (default:fu) with ef:=3,wo:=2,qa:=1 } :fu))).bind fun rX=>
  (fV 48 cY.2 [rX]).bind fun jb=>
  some (({ cY.1 with oW:= [] } :a3),jb)) (
  some (cY.1,cY.2))).bind fun fA=>
 (lV e8.2).bind fun ee=>
 (c0 ee.1 true (idx fA.1.bt.length 3)).bind fun bP=>
 (cond (ee.1&&((((az fA.1.bt bP).bN).length:Int)==3)) (
  (some (({ (default:fu) with ef:=4,wo:=1,qa:=1 } :fu))).bind fun nD=>
  (some (({ (default:fu) with ef:=4,lz:=5,qa:=1 } :fu))).bind fun td=>
  (fV 48 fA.2 [nD,td]).bind fun jl=>
  some (({ fA.1 with oW:= [] } :a3),jl)) (
  some (fA.1,fA.2))).bind fun p2=>
 (some (({ ({ p2.1 with nZ:=bx } :a3) with oW:=p2.2 } :a3))).bind fun pU=>
 some (pU,ee.2)
def sq (J:Int) (ah:Int):Option Int:=
 cond (decide (ah<1)) (
  some 0) (
  (o2 J ah).bind fun aD=>
  (o2 (bs (aD+ah)) ah).bind fun aK=>
  some aK)
def DM (J:bX) (ah:Int):Option Bool:=
 some (J.b0==ah)
def zo (J:List bX) (ah:bX→Option Bool):Option Int:=
 (ey (σ:=Int) (ε:=(Int×Bool) ⊕ (Int×Int×Int×Bool×Bool)) ec (fun s1=>
  cond (decide (s1<(J.length:Int))) (
   (idx J.length s1).bind fun aZ=>
   (ah (az J aZ)).bind fun aD=>
   cond aD (
    some (.inr (Sum.inr (s1,s1,s1,decide (s1<(J.length:Int)),aD)))) (
    some (.inl (bs (s1+1))))) (
   some (.inr (Sum.inl (s1,decide (s1<(J.length:Int))))))) 0).bind fun ay=>
  Sum.elim (fun ay=>
   some (-1)) (fun ay=>
  some ay.1) ay
def tQ (J:a3) (ah:Int):Option Int:=
 (zo J.bt (fun fJ=>DM fJ ah)).bind fun aD=>
 some aD
def xT (J:bX):Option (Int×Int):=
 (ey (σ:=Int×Int×Int) (ε:=(Int×Int×Int×Bool)) ec (fun s1=>
  cond (decide (s1.2.2<(J.bN.length:Int))) (
   (idx J.bN.length s1.2.2).bind fun aZ=>
   (cond (((az J.bN aZ).cS)==1) (
    some (s1.1,s1.2.1)) (
    (cond (((az J.bN aZ).cS)==2) (
     some (max s1.1 2,s1.2.2)) (
     some (3,s1.2.1))).bind fun cY=>
    some (cY.1,cY.2))).bind fun bx=>
   some (.inl (bx.1,bx.2,bs (s1.2.2+1)))) (
   some (.inr (s1.1,s1.2.1,s1.2.2,decide (s1.2.2<(J.bN.length:Int)))))) (1,0,0)).bind fun ay=>
 some (ay.1,ay.2.1)
def D9 (hp:a1 Cell):aI (Ref×(a1 Cell)):=
 aI.bind (aI.mk hp (Cell.ot ([]:List ((Vector an 4)×Int)))) fun dA=>
 aI.bind (aI.mk dA.2 (Cell.yJ ({ oX:=(⟨some dA.1⟩:gS):ns }))) fun dK=>
 aI.ret ((some dK.1:Ref),dK.2)
def DN (J:fO) (ah:Int):Option Bool:=
 some (J.b0==ah)
def zp (J:List fO) (ah:fO→Option Bool):Option Int:=
 (ey (σ:=Int) (ε:=(Int×Bool) ⊕ (Int×Int×Int×Bool×Bool)) ec (fun s1=>
  cond (decide (s1<(J.length:Int))) (
   (idx J.length s1).bind fun aZ=>
   (ah (az J aZ)).bind fun aD=>
   cond aD (
    some (.inr (Sum.inr (s1,s1,s1,decide (s1<(J.length:Int)),aD)))) (
    some (.inl (bs (s1+1))))) (
   some (.inr (Sum.inl (s1,decide (s1<(J.length:Int))))))) 0).bind fun ay=>
  Sum.elim (fun ay=>
   some (-1)) (fun ay=>
  some ay.1) ay
def vp (J:a3) (ah:Int):Option Int:=
 (zp J.fF (fun fJ=>DN fJ ah)).bind fun aD=>
 some aD
def Hm (J:a3):Option cL:=
 some ({ ({ (default:cL) with oQ:=J } :cL) with ch:=([]:List aJ) } :cL)
def x7 (hp:a1 Cell) (J:a3) (ah:Int):aI (Ref×(a1 Cell)):=
 aI.bind (aI.of (tQ J ah)) fun aD=>
 cond (decide (aD<0)) (
  aI.ret ((none:Ref),hp)) (
  aI.bind (aI.of (idx J.bt.length aD)) fun aZ=>
  aI.bind (aI.of (xT (az J.bt aZ))) fun aK=>
  aI.bind (aI.mk hp (Cell.kC ([]:List (Int×aJ)))) fun dA=>
  aI.bind (aI.of (some (({ (default:hn) with sK:=aK.1,pD:=(((az J.bt aZ).bN).length:Int),ly:=(⟨some dA.1⟩:gS) } :hn)))) fun bH=>
  aI.bind (aI.mk dA.2 (Cell.ny bH)) fun dK=>
  aI.bind (cond (aK.1==1) (
    aI.bind (D9 dK.2) fun bb=>
    aI.bind (aI.of (iY bb.2 dK.1)) fun bY=>
    aI.bind (aI.of (some (dr bb.2 dK.1 (Cell.ny ({ bY with iW:=(gM.mA ({ qH:=bb.1:ka })) } :hn))))) fun de=>
    aI.ret de) (
    aI.bind (cond (aK.1==2) (
      aI.bind (aI.of (idx (((az J.bt aZ).bN).length) aK.2)) fun bP=>
      aI.bind (aI.of (vp J ((az ((az J.bt aZ).bN) bP).g3))) fun bJ=>
      aI.bind (aI.of (cond (decide (bJ≥0)) (
        (idx J.fF.length bJ).bind fun cT=>
        some ((az J.fF cT).fB)) (
        some 0))) fun fA=>
      aI.bind (aI.mk dK.2 (Cell.l7 ([]:List ((Vector an 4)×Ref)))) fun hH=>
      aI.bind (aI.of (some ({ sV:=aK.2,fL:=fA,n6:=(⟨some hH.1⟩:gS):gZ }))) fun dn=>
      aI.bind (aI.of (iY hH.2 dK.1)) fun cN=>
      aI.bind (aI.of (some (dr hH.2 dK.1 (Cell.ny ({ cN with iW:=(gM.mB dn) } :hn))))) fun dk=>
      aI.ret dk) (
      aI.bind (aI.of (Hm J)) fun bq=>
      aI.bind (aI.any (Option Nat×Nat)) fun et=>
      aI.bind (aI.mk dK.2 (Cell.rQ bq et.1 et.2)) fun jV=>
      aI.bind (aI.of (iY jV.2 dK.1)) fun e4=>
      aI.bind (aI.of (some (dr jV.2 dK.1 (Cell.ny ({ e4 with iW:=(gM.mC ({ ch:=(some jV.1:Ref):jD })) } :hn))))) fun hi=>
      aI.ret hi)) fun cY=>
    aI.ret cY)) fun bx=>
  aI.ret ((some dK.1:Ref),bx))
def zH (J:bu):Option Bool:=
 some (decide (J.s7<(J.ch.length:Int)))
def Ah (J:a3) (ah:Int):Option Int:=
 (ey (σ:=Int) (ε:=(Int×Bool) ⊕ (Int×Int×Bool×Bool)) ec (fun s1=>
  cond (decide (s1<(J.fF.length:Int))) (
   (idx J.fF.length s1).bind fun aZ=>
   cond (((az J.fF aZ).b0)==ah) (
    some (.inr (Sum.inr ((az J.fF aZ).fB,s1,decide (s1<(J.fF.length:Int)),((az J.fF aZ).b0)==ah)))) (
    some (.inl (bs (s1+1))))) (
   some (.inr (Sum.inl (s1,decide (s1<(J.fF.length:Int))))))) 0).bind fun ay=>
  Sum.elim (fun ay=>
   some 0) (fun ay=>
  some ay.1) ay
def tX (J:an) (ah:Int):Option an:=
 cond (decide (ah≥128)) (
  some J) (
  cond (decide (ah≥64)) (
   (some (J.dv&&&(((1#64) <<< (BitVec.ofInt 64 (bs (ah - 64))).toNat) - (1#64)))).bind fun bH=>
   some ({ dv:=bH,b2:=J.b2:an })) (
   cond (decide (ah≤0)) (
    some (default:an)) (
    (some (({ (default:an) with b2:=J.b2&&&(((1#64) <<< (BitVec.ofInt 64 ah).toNat) - (1#64)) } :an))).bind fun dn=>
    some dn)))
def D6 (J:Int) (ah:Int):Option an:=
 (some ((((1#64) <<< (BitVec.ofInt 64 J).toNat) - (1#64)) - (((1#64) <<< (BitVec.ofInt 64 (bs (J - ah))).toNat) - (1#64)))).bind fun bH=>
 some ({ (default:an) with b2:=bH } :an)
def zZ (J:bu) (ah:a3) (aP:cR):Option (cA×bu):=
 (Ah ah aP.g3).bind fun aD=>
 (fZ J 256).bind fun aK=>
 (fZ aK.2 16).bind fun bb=>
 (some (((BitVec.ofInt 64 aK.1) <<< (24#64).toNat)|||((BitVec.ofInt 64 bb.1) <<< (8#64).toNat))).bind fun bH=>
 (fZ bb.2 16).bind fun bJ=>
 (some (({ (default:an) with b2:=bH|||(BitVec.ofInt 64 bJ.1) } :an))).bind fun dn=>
 (tX dn aD).bind fun bq=>
 cond (aP.cS==2) (
  (fZ bJ.2 5).bind fun b6=>
  cond (decide (b6.1>0)) (
   (fZ b6.2 aD).bind fun eB=>
   (fZ eB.2 5).bind fun fN=>
   (idx ([aD,8,16,1,bs (1+eB.1)].length) fN.1).bind fun aZ=>
   (D6 aD (az [aD,8,16,1,bs (1+eB.1)] aZ)).bind fun e8=>
   (some (({ (default:an) with b2:=bq.b2&&&e8.b2 } :an))).bind fun fm=>
   (some (({ (default:cA) with g1:=true,fp:=az [aD,8,16,1,bs (1+eB.1)] aZ,bS:=fm } :cA))).bind fun hF=>
   some (hF,fN.2)) (
   some ((default:cA),b6.2))) (
  cond (aP.cS==3) (
   (fZ bJ.2 256).bind fun ee=>
   (fZ ee.2 5).bind fun jl=>
   (idx (([255,15,1,12,ee.1]:List Int).length) jl.1).bind fun bP=>
   (some (({ (default:an) with b2:=BitVec.ofInt 64 (az ([255,15,1,12,ee.1]:List Int) bP) } :an))).bind fun hG=>
   (tX hG aD).bind fun jb=>
   cond (jb.b2 !=(0#64)) (
    (some (({ (default:an) with b2:=bq.b2&&&jb.b2 } :an))).bind fun jQ=>
    (some (({ (default:cA) with g1:=true,b3:=jb,bS:=jQ } :cA))).bind fun jR=>
    some (jR,jl.2)) (
    some ((default:cA),jl.2))) (
   cond (aP.cS==4) (
    (fZ bJ.2 256).bind fun jx=>
    (some (wO (bq.b2+(BitVec.ofInt 64 jx.1)) (((1#64) <<< (BitVec.ofInt 64 aD).toNat) - (1#64)))).bind fun ih=>
    (fZ jx.2 5).bind fun kG=>
    (some ((decide (kG.1>0))&&(!((bq.b2==(0#64))&&(ih==(((1#64) <<< (BitVec.ofInt 64 aD).toNat) - (1#64))))))).bind fun mj=>
    cond mj (
     (some (({ (default:cA) with g1:=true,bS:=bq,l0:=({ (default:an) with b2:=ih } :an) } :cA))).bind fun lH=>
     some (lH,kG.2)) (
     some ((default:cA),kG.2))) (
    (some (({ (default:cA) with g1:=true,bS:=bq } :cA))).bind fun lk=>
    some (lk,bJ.2))))
def z6 (J:a3) (ah:Int):Option ei:=
 (ey (σ:=Int) (ε:=(Int×Bool) ⊕ (Int×Bool×Bool×ei)) ec (fun s1=>
  cond (decide (s1<(J.dH.length:Int))) (
   (idx J.dH.length s1).bind fun aZ=>
   cond (((az J.dH aZ).b0)==ah) (
    some (.inr (Sum.inr (s1,decide (s1<(J.dH.length:Int)),((az J.dH aZ).b0)==ah,(az J.dH aZ))))) (
    some (.inl (bs (s1+1))))) (
   some (.inr (Sum.inl (s1,decide (s1<(J.dH.length:Int))))))) 0).bind fun ay=>
  Sum.elim (fun ay=>
   some (default:ei)) (fun ay=>
  some ay.2.2.2) ay
def z0 (J:bu) (ah:a3) (aP:Int):Option (bC×bu):=
 (sq aP (ah.bt.length:Int)).bind fun aD=>
 (idx ah.bt.length aD).bind fun aZ=>
 (ey (σ:=Int×bC×(List cA)×bu) (ε:=(Int×Bool×bC×(List cA)×bu)) ec (fun s1=>
  cond (decide (s1.1<(((az ah.bt aZ).bN).length:Int))) (
   (idx (((az ah.bt aZ).bN).length) s1.1).bind fun bP=>
   (zZ s1.2.2.2 ah (az ((az ah.bt aZ).bN) bP)).bind fun aK=>
   (fV 64 s1.2.2.1 [aK.1]).bind fun bb=>
   (some ((((az ((az ah.bt aZ).bN) bP).cS)==3)||(((az ((az ah.bt aZ).bN) bP).cS)==4))).bind fun bH=>
   (cond bH (
    (fZ aK.2 5).bind fun bJ=>
    (some (({ ({ s1.2.1 with b4:= [] } :bC) with ik:=bs (1+bJ.1) } :bC))).bind fun dn=>
    some (dn,bJ.2)) (
    some (({ s1.2.1 with b4:= [] } :bC),aK.2))).bind fun bx=>
   some (.inl (bs (s1.1+1),bx.1,bb,bx.2))) (
   some (.inr (s1.1,decide (s1.1<(((az ah.bt aZ).bN).length:Int)),s1.2.1,s1.2.2.1,s1.2.2.2)))) (0,({ (default:bC) with ef:=(az ah.bt aZ).b0 } :bC),([]:List cA),J)).bind fun ay=>
 (fZ ay.2.2.2.2 (((az ah.bt aZ).dH).length:Int)).bind fun bq=>
 (idx (((az ah.bt aZ).dH).length) bq.1).bind fun cT=>
 (some (({ ay.2.2.1 with lz:=az ((az ah.bt aZ).dH) cT } :bC))).bind fun fm=>
 (z6 ah fm.lz).bind fun b6=>
 (ey (σ:=Int×bC×(List an)×bu) (ε:=(Int×Bool×bC×(List an)×bu)) ec (fun s2=>
  cond (decide (s2.1<(b6.kL.length:Int))) (
   (idx b6.kL.length s2.1).bind fun eY=>
   (fZ s2.2.2.2 256).bind fun eB=>
   (some (({ (default:an) with b2:=BitVec.ofInt 64 eB.1 } :an))).bind fun hF=>
   (tX hF ((az b6.kL eY).fB)).bind fun fN=>
   (fV 16 s2.2.2.1 [fN]).bind fun e8=>
   some (.inl (bs (s2.1+1),({ s2.2.1 with lb:= [] } :bC),e8,eB.2))) (
   some (.inr (s2.1,decide (s2.1<(b6.kL.length:Int)),s2.2.1,s2.2.2.1,s2.2.2.2)))) (0,fm,([]:List an),bq.2)).bind fun aO=>
 (some (({ ({ aO.2.2.1 with b4:=ay.2.2.2.1 } :bC) with lb:=aO.2.2.2.1 } :bC))).bind fun hG=>
 some (hG,aO.2.2.2.2)
def tU (J:bC):Option (Vector an 4):=
 (sL J.b4 0 (min (J.b4.length:Int) 4)).bind fun aD=>
 (ey (σ:=Int×(Vector an 4)) (ε:=(Int×Bool×(Vector an 4))) ec (fun s1=>
  cond (decide (s1.1<(aD.length:Int))) (
   (idx aD.length s1.1).bind fun aZ=>
   (idx 4 s1.1).bind fun bP=>
   some (.inl (bs (s1.1+1),c5 s1.2 bP ((az aD aZ).bS)))) (
   some (.inr (s1.1,decide (s1.1<(aD.length:Int)),s1.2)))) (0,(default:Vector an 4))).bind fun ay=>
 some ay.2.2
def tP (hp:a1 Cell) (J:Ref) (ah:Vector an 4):Option (Int×Bool):=
 cond J.isNone (
  some (0,false)) (
  (J).bind fun cG=>
  (m2 hp cG).bind fun bY=>
  (bY.oX.p).bind fun cv=>
  (l4 hp cv).bind fun cN=>
  (some (dX cN ah)).bind fun bH=>
  some (bH.getD default,bH.isSome))
def zQ (hp:a1 Cell) (J:ka) (ah:bC):Option (Int×Bool):=
 (tU ah).bind fun aD=>
 (tP hp J.qH aD).bind fun aK=>
 some (aK.1,aK.2)
def xu (J:gZ) (ah:Vector an 4):Option ((Vector an 4)×an):=
 (idx 4 J.sV).bind fun aZ=>
 (idx 4 J.sV).bind fun bP=>
 some ((c5 ah bP (default:an)),(br ah aZ))
def vj (J:gZ) (ah:bC):Option ((Vector an 4)×an×Int):=
 (tU ah).bind fun aD=>
 (xu J aD).bind fun aK=>
 cond (decide (J.sV≥ (ah.b4.length:Int))) (
  some (aK.1,aK.2,0)) (
  (idx ah.b4.length J.sV).bind fun aZ=>
  some (aK.1,aK.2,(az ah.b4 aZ).fp))
def xU (J:Int):Option Int:=
 some (min (max 0 J) 128)
def xX (J:an) (ah:Int):Option an:=
 cond (decide (ah≤0)) (
  some J) (
  cond (decide (ah≥64)) (
   (some (({ (default:an) with b2:=J.dv >>> (BitVec.ofInt 64 (bs (ah - 64))).toNat } :an))).bind fun bH=>
   some bH) (
   (some ((J.b2 >>> (BitVec.ofInt 64 ah).toNat)|||(J.dv <<< (BitVec.ofInt 64 (bs (64 - ah))).toNat))).bind fun dn=>
   (some ({ dv:=J.dv >>> (BitVec.ofInt 64 ah).toNat,b2:=dn:an })).bind fun fm=>
   some fm))
def so (J:Int):Option an:=
 (some ({ dv:=18446744073709551615#64,b2:=18446744073709551615#64:an })).bind fun bH=>
 (xU J).bind fun aD=>
 (xX bH (bs (128 - aD))).bind fun aK=>
 some aK
def tY (J:an) (ah:an):Option an:=
 (some ({ dv:=J.dv ^^^ ah.dv,b2:=J.b2 ^^^ ah.b2:an })).bind fun bH=>
 some bH
def vq (J:Int) (ah:Int):Option an:=
 (xU J).bind fun aD=>
 (so aD).bind fun aK=>
 (so (bs (aD - (min (max 0 ah) aD)))).bind fun bb=>
 (tY aK bb).bind fun bJ=>
 some bJ
def mn (J:an) (ah:an):Option an:=
 (some ({ dv:=J.dv&&&ah.dv,b2:=J.b2&&&ah.b2:an })).bind fun bH=>
 some bH
def xG (hp:a1 Cell) (J:Ref) (ah:an) (aP:Int):Option Bool:=
 (c0 (J.isSome&&(decide (aP≥0))) true (J)).bind fun cG=>
 (c0 (J.isSome&&(decide (aP≥0))) true (fR hp cG)).bind fun bY=>
 (c0 ((J.isSome&&(decide (aP≥0)))&&(decide (aP≤bY.fL))) true (J)).bind fun cv=>
 (c0 ((J.isSome&&(decide (aP≥0)))&&(decide (aP≤bY.fL))) true (fR hp cv)).bind fun cN=>
 (c0 ((J.isSome&&(decide (aP≥0)))&&(decide (aP≤bY.fL))) true (vq cN.fL aP)).bind fun aD=>
 (c0 ((J.isSome&&(decide (aP≥0)))&&(decide (aP≤bY.fL))) true (mn ah aD)).bind fun aK=>
 (some (((J.isSome&&(decide (aP≥0)))&&(decide (aP≤bY.fL)))&&(decide (aK=ah)))).bind fun bH=>
 some bH
def xM (J:Ref) (ah:an) (aP:Int):Option (Int×an×Ref):=
 some (aP,ah,J)
def sr (J:an) (ah:Int):Option Bool:=
 (c0 ((decide (ah≥0))&&(decide (ah<128))) true (xX J ah)).bind fun aD=>
 (some (((decide (ah≥0))&&(decide (ah<128)))&&((aD.b2&&&(1#64))==(1#64)))).bind fun bH=>
 some bH
def vm {σ ε:Type} (ah:Int) (aP:an) (b5:Ref) (hq:σ→a1 Cell) (step:Int→σ→aI (σ ⊕ ε)) (cw:σ):aI (σ ⊕ ε):=
 aI.bind (pK (σ:=Int×(σ)) (ε:=(Int×Bool×(σ)) ⊕ (Int×Int×Int×Bool×Bool×Bool×(ε))) ec (fun s1=>
   cond (decide (s1.1<ah)) (
    aI.bind (aI.of (b5)) fun cG=>
    aI.bind (aI.of (fR (hq s1.2) cG)) fun bY=>
    aI.bind (aI.of (sr aP (bs ((bs (bY.fL - 1)) - s1.1)))) fun aD=>
    aI.bind (aI.of (cond aD (
      some 1) (
      some 0))) fun bx=>
    aI.bind (step bx s1.2) fun aK=>
    Sum.elim (fun s2=>
     aI.ret (.inl (bs (s1.1+1),s2))) (fun cU=>
     aI.ret (.inr (Sum.inr (s1.1,bx,s1.1,decide (s1.1<ah),aD,!false,cU)))) aK) (
    aI.ret (.inr (Sum.inl (s1.1,decide (s1.1<ah),s1.2))))) (0,cw)) fun ay=>
   Sum.elim (fun ay=>
    aI.ret (.inl ay.2.2:σ ⊕ ε)) (fun ay=>
   aI.ret (.inr ay.2.2.2.2.2.2:σ ⊕ ε)) ay
def p8 {σ ε:Type} (hp:a1 Cell) (ah:Int) (aP:an) (b5:Ref) (step:Int→σ→Option (σ ⊕ ε)) (cw:σ):Option (σ ⊕ ε):=
 (ey (σ:=Int×(σ)) (ε:=(Int×Bool×(σ)) ⊕ (Int×Int×Int×Bool×Bool×Bool×(ε))) ec (fun s1=>
  cond (decide (s1.1<ah)) (
   (b5).bind fun cG=>
   (fR hp cG).bind fun bY=>
   (sr aP (bs ((bs (bY.fL - 1)) - s1.1))).bind fun aD=>
   (cond aD (
    some 1) (
    some 0)).bind fun bx=>
   (step bx s1.2).bind fun aK=>
   Sum.elim (fun s2=>
    some (.inl (bs (s1.1+1),s2))) (fun cU=>
    some (.inr (Sum.inr (s1.1,bx,s1.1,decide (s1.1<ah),aD,!false,cU)))) aK) (
   some (.inr (Sum.inl (s1.1,decide (s1.1<ah),s1.2))))) (0,cw)).bind fun ay=>
  Sum.elim (fun ay=>
   some (.inl ay.2.2)) (fun ay=>
  some (.inr ay.2.2.2.2.2.2)) ay
def xO (hp:a1 Cell) (J:Ref) (ah:an) (aP:Int):Option Ref:=
 (xG hp J ah aP).bind fun aD=>
 cond (!aD) (
  some (none:Ref)) (
  (J).bind fun cG=>
  (fR hp cG).bind fun bY=>
  (xM J ah aP).bind fun aK=>
  (p8 hp aK.1 aK.2.1 aK.2.2 (σ:=Ref) (ε:=Ref×Ref) (fun(mK:Int) (s1:Ref)=>
   cond s1.isNone (
    some (.inr (s1,(none:Ref)))) (
    (s1).bind fun cv=>
    (idx 2 mK).bind fun aZ=>
    (cW hp cv).bind fun cN=>
    some (.inl (br cN.c8 aZ)))) bY.cQ).bind fun ay=>
  Sum.elim (fun s1=>
   some s1) (fun aA=>
   some aA.2) ay)
def vr (hp:a1 Cell) (J:Ref) (ah:an) (aP:Int):Option (Int×Bool):=
 (xO hp J ah aP).bind fun aD=>
 (c0 aD.isNone false (aD)).bind fun cG=>
 (c0 aD.isNone false (cW hp cG)).bind fun bY=>
 cond (aD.isNone||(!bY.dP)) (
  some (0,false)) (
  (aD).bind fun cv=>
  (cW hp cv).bind fun cN=>
  some (cN.hO,true))
def zD (hp:a1 Cell) (J:gZ) (ah:bC):Option (Int×Bool):=
 (vj J ah).bind fun aD=>
 (J.n6.p).bind fun cG=>
 (j3 hp cG).bind fun bY=>
 (some ((dX bY aD.1).getD default)).bind fun bH=>
 (vr hp bH aD.2.1 aD.2.2).bind fun aK=>
 some (aK.1,aK.2)
def Dx (J:List cA):Option (List cA):=
 (fV 64 ([]:List cA) J).bind fun aD=>
 some aD
def Dy (J:List an):Option (List an):=
 (fV 16 ([]:List an) J).bind fun aD=>
 some aD
def Ed (J:bC):Option bC:=
 (Dx J.b4).bind fun aD=>
 (Dy J.lb).bind fun aK=>
 (some (({ ({ J with b4:=aD } :bC) with lb:=aK } :bC))).bind fun bH=>
 some bH
def oM (J:aJ):Option aJ:=
 (Ed J.bK).bind fun aD=>
 some ({ J with bK:=aD } :aJ)
def x0 (J:List aJ):Option (List aJ):=
 (ey (σ:=Int×(List aJ)) (ε:=(Int×Bool×(List aJ))) ec (fun s1=>
  cond (decide (s1.1<(J.length:Int))) (
   (idx J.length s1.1).bind fun aZ=>
   (oM (az J aZ)).bind fun aD=>
   (fV 88 s1.2 [aD]).bind fun aK=>
   some (.inl (bs (s1.1+1),aK))) (
   some (.inr (s1.1,decide (s1.1<(J.length:Int)),s1.2)))) (0,([]:List aJ))).bind fun ay=>
 some ay.2.2
def zx (J:cL):Option (List aJ):=
 (x0 J.ch).bind fun aD=>
 some aD
def zr (J:List cA) (ah:List cA):Option Bool:=
 cond ((J.length:Int) !=(ah.length:Int)) (
  some false) (
  (ey (σ:=Int) (ε:=(Int×Bool) ⊕ (Int×Int×Bool×Bool)) ec (fun s1=>
   cond (decide (s1<(J.length:Int))) (
    (idx J.length s1).bind fun aZ=>
    (idx ah.length s1).bind fun bP=>
    cond (!decide (az J aZ=az ah bP)) (
     some (.inr (Sum.inr (s1,s1,decide (s1<(J.length:Int)),!decide (az J aZ=az ah bP))))) (
     some (.inl (bs (s1+1))))) (
    some (.inr (Sum.inl (s1,decide (s1<(J.length:Int))))))) 0).bind fun ay=>
   Sum.elim (fun ay=>
    some true) (fun ay=>
   some false) ay)
def z9 (J:bC) (ah:bC):Option Bool:=
 (c0 (J.ef==ah.ef) true (zr J.b4 ah.b4)).bind fun aD=>
 some (((J.ef==ah.ef)&&aD)&&(J.ik==ah.ik))
def zY (hp:a1 Cell) (J:jD) (ah:bC):Option (Int×Bool):=
 (J.ch).bind fun cG=>
 (oi hp cG).bind fun bY=>
 (zx bY.1).bind fun aD=>
 (ey (σ:=Int) (ε:=(Int×Bool) ⊕ (Int×Bool×Int×Bool×Bool)) ec (fun s1=>
  cond (decide (s1<(aD.length:Int))) (
   (idx aD.length s1).bind fun aZ=>
   (z9 ((az aD aZ).bK) ah).bind fun aK=>
   cond aK (
    some (.inr (Sum.inr ((az aD aZ).cH,true,s1,decide (s1<(aD.length:Int)),aK)))) (
    some (.inl (bs (s1+1))))) (
   some (.inr (Sum.inl (s1,decide (s1<(aD.length:Int))))))) 0).bind fun ay=>
  Sum.elim (fun ay=>
   some (0,false)) (fun ay=>
  some (ay.1,ay.2.1)) ay
def DL (hp:a1 Cell) (y:gM) (J:bC):Option (Int×Bool):=match y with
 | .nil=>none
 | .mA z=>zQ hp z J
 | .mB z=>zD hp z J
 | .mC z=>zY hp z J
def DY (hp:a1 Cell) (J:Ref) (ah:Vector an 4) (aP:Int):Option (Bool×(a1 Cell)):=
 cond J.isNone (
  some (false,hp)) (
  (J).bind fun cG=>
  (m2 hp cG).bind fun bY=>
  (bY.oX.p).bind fun cv=>
  (l4 hp cv).bind fun cN=>
  (some (dX cN ah)).bind fun bH=>
  cond bH.isSome (
   some (false,hp)) (
   (some (dr hp cv (Cell.ot (hc cN ah aP)))).bind fun de=>
   some (true,de)))
def z1 (hp:a1 Cell) (J:ka) (ah:aJ):Option (a1 Cell):=
 (tU ah.bK).bind fun aD=>
 (DY hp J.qH aD ah.cH).bind fun aK=>
 some aK.2
def Ek (hp:a1 Cell) (J:Int):aI (Ref×(a1 Cell)):=
 aI.bind (aI.of (some (({ (default:fK) with fL:=min (max 1 J) 128 } :fK)))) fun bH=>
 aI.bind (aI.mk hp (Cell.j4 bH)) fun dA=>
 aI.ret ((some dA.1:Ref),dA.2)
def xR (hp:a1 Cell) (J:Ref) (ah:an) (aP:Int) (b5:Int):aI (Bool×(a1 Cell)):=
 aI.bind (aI.of (xG hp J ah aP)) fun aD=>
 cond (!aD) (
  aI.ret (false,hp)) (
  aI.bind (aI.of (xO hp J ah aP)) fun aK=>
  aI.bind (aI.of (c0 aK.isSome true (aK))) fun cG=>
  aI.bind (aI.of (c0 aK.isSome true (cW hp cG))) fun bY=>
  cond (aK.isSome&&bY.dP) (
   aI.ret (false,hp)) (
   aI.bind (aI.of (J)) fun cv=>
   aI.bind (aI.of (fR hp cv)) fun cN=>
   aI.bind (cond cN.cQ.isNone (
     aI.bind (aI.mk hp (Cell.gk (default:dM))) fun dK=>
     aI.bind (aI.of (fR dK.2 cv)) fun Db=>
     aI.bind (aI.of (some (dr dK.2 cv (Cell.j4 ({ Db with cQ:=(some dK.1:Ref) } :fK))))) fun uY=>
     aI.ret uY) (
     aI.ret hp)) fun bx=>
   aI.bind (aI.of (fR bx cv)) fun e4=>
   aI.bind (aI.of (xM J ah aP)) fun bb=>
   aI.bind (vm bb.1 bb.2.1 bb.2.2 (σ:=Ref×(a1 Cell)) (ε:=Empty) (fun(s2:Ref×(a1 Cell))=>s2.2) (fun(yX:Int) (s2:Ref×(a1 Cell))=>
     aI.bind (aI.of (s2.1)) fun lP=>
     aI.bind (aI.of (idx 2 yX)) fun aZ=>
     aI.bind (aI.of (cW s2.2 lP)) fun oE=>
     aI.bind (cond ((br oE.c8 aZ).isNone) (
       aI.bind (aI.mk s2.2 (Cell.gk (default:dM))) fun dA=>
       aI.bind (aI.of (idx 2 yX)) fun cT=>
       aI.bind (aI.of (cW dA.2 lP)) fun lQ=>
       aI.bind (aI.of (some (dr dA.2 lP (Cell.gk ({ lQ with c8:=c5 lQ.c8 cT (some dA.1:Ref) } :dM))))) fun de=>
       aI.ret de) (
       aI.ret s2.2)) fun cY=>
     aI.bind (aI.of (idx 2 yX)) fun bP=>
     aI.bind (aI.of (cW cY lP)) fun pk=>
     aI.ret (.inl (br pk.c8 bP,cY):(Ref×(a1 Cell)) ⊕ Empty)) (e4.cQ,bx)) fun aO=>
   Sum.elim (fun s2=>
    aI.bind (aI.of (s2.1)) fun ks=>
    aI.bind (aI.of (cW s2.2 ks)) fun zc=>
    aI.bind (aI.of (some (dr s2.2 ks (Cell.gk ({ zc with dP:=true } :dM))))) fun dk=>
    aI.bind (aI.of (s2.1)) fun Lt=>
    aI.bind (aI.of (cW dk Lt)) fun Lu=>
    aI.bind (aI.of (some (dr dk Lt (Cell.gk ({ Lu with hO:=b5 } :dM))))) fun hi=>
    aI.ret (true,hi)) (fun cU=>
    Empty.elim cU) aO))
def zN (hp:a1 Cell) (J:gZ) (ah:aJ):aI (a1 Cell):=
 aI.bind (aI.of (vj J ah.bK)) fun aD=>
 aI.bind (aI.of (J.n6.p)) fun cG=>
 aI.bind (aI.of (j3 hp cG)) fun bY=>
 aI.bind (aI.of (some ((dX bY aD.1).getD default))) fun bH=>
 aI.bind (cond bH.isNone (
   aI.bind (Ek hp J.fL) fun bb=>
   aI.bind (aI.of (j3 bb.2 cG)) fun e4=>
   aI.bind (aI.of (some (dr bb.2 cG (Cell.l7 (hc e4 aD.1 bb.1))))) fun de=>
   aI.ret de) (
   aI.ret hp)) fun bx=>
 aI.bind (aI.of (j3 bx cG)) fun cN=>
 aI.bind (aI.of (some ((dX cN aD.1).getD default))) fun dn=>
 aI.bind (xR bx dn aD.2.1 aD.2.2 ah.cH) fun aK=>
 aI.ret aK.2
def vk (J:aJ) (ah:Int):Option Bool:=
 some (J.cH==ah)
def tK (J:List aJ) (ah:aJ→Option Bool):Option Int:=
 (ey (σ:=Int) (ε:=(Int×Bool) ⊕ (Int×Int×Int×Bool×Bool)) ec (fun s1=>
  cond (decide (s1<(J.length:Int))) (
   (idx J.length s1).bind fun aZ=>
   (ah (az J aZ)).bind fun aD=>
   cond aD (
    some (.inr (Sum.inr (s1,s1,s1,decide (s1<(J.length:Int)),aD)))) (
    some (.inl (bs (s1+1))))) (
   some (.inr (Sum.inl (s1,decide (s1<(J.length:Int))))))) 0).bind fun ay=>
  Sum.elim (fun ay=>
   some (-1)) (fun ay=>
  some ay.1) ay
def G8 (J:cL) (ah:Int):Option Int:=
 (tK J.ch (fun fJ=>vk fJ ah)).bind fun aD=>
 some aD
def zk (J:List aJ) (ah:aJ) (aP:aJ→aJ→Option Int):Option (Int×Bool):=
 (ey (σ:=Int×Int) (ε:=(Int×Int×Bool)) ec (fun s1=>
  cond (decide (s1.1<s1.2)) (
   (idx J.length (bs ((BitVec.ofInt 64 (bs (s1.1+s1.2))) >>> (1#64).toNat).toNat)).bind fun aZ=>
   (aP (az J aZ) ah).bind fun aD=>
   (cond (decide (aD<0)) (
    (some (bs ((bs ((BitVec.ofInt 64 (bs (s1.1+s1.2))) >>> (1#64).toNat).toNat)+1))).bind fun bH=>
    some (bH,s1.2)) (
    some (s1.1,bs ((BitVec.ofInt 64 (bs (s1.1+s1.2))) >>> (1#64).toNat).toNat))).bind fun bx=>
   some (.inl (bx.1,bx.2))) (
   some (.inr (s1.1,s1.2,decide (s1.1<s1.2))))) (0,(J.length:Int))).bind fun ay=>
 (c0 (decide (ay.1<(J.length:Int))) true (idx J.length ay.1)).bind fun bP=>
 (c0 (decide (ay.1<(J.length:Int))) true (aP (az J bP) ah)).bind fun aK=>
 some (ay.1,(decide (ay.1<(J.length:Int)))&&(aK==0))
def z8 (J:Int):Option Bool:=
 some (J !=J)
def vn (J:Int) (ah:Int):Option Int:=
 (z8 J).bind fun aD=>
 (z8 ah).bind fun aK=>
 cond aD (
  cond aK (
   some 0) (
   some (-1))) (
  cond aK (
   some 1) (
   cond (decide (J<ah)) (
    some (-1)) (
    cond (decide (J>ah)) (
     some 1) (
     some 0))))
def tV (J:a3) (ah:bC):Option (bX×Bool):=
 (tQ J ah.ef).bind fun aD=>
 cond (decide (aD<0)) (
  some ((default:bX),false)) (
  (idx J.bt.length aD).bind fun aZ=>
  some (az J.bt aZ,true))
def xr (J:List cR) (ah:cR→Option Bool):Option Int:=
 (ey (σ:=Int) (ε:=(Int×Bool) ⊕ (Int×Int×Int×Bool×Bool)) ec (fun s1=>
  cond (decide (s1<(J.length:Int))) (
   (idx J.length s1).bind fun aZ=>
   (ah (az J aZ)).bind fun aD=>
   cond aD (
    some (.inr (Sum.inr (s1,s1,s1,decide (s1<(J.length:Int)),aD)))) (
    some (.inl (bs (s1+1))))) (
   some (.inr (Sum.inl (s1,decide (s1<(J.length:Int))))))) 0).bind fun ay=>
  Sum.elim (fun ay=>
   some (-1)) (fun ay=>
  some ay.1) ay
def Hk (J:cR):Option Bool:=
 some (J.cS==2)
def xW (J:a3) (ah:bC):Option Int:=
 (tV J ah).bind fun aD=>
 (xr aD.1.bN Hk).bind fun aK=>
 (some (((!aD.2)||(decide (aK<0)))||(decide (aK≥ (ah.b4.length:Int))))).bind fun bH=>
 cond bH (
  some 0) (
  (idx ah.b4.length aK).bind fun aZ=>
  some ((az ah.b4 aZ).fp))
def Ar (J:List Int):Option Int:=
 (ey (σ:=Int) (ε:=(Int×Bool) ⊕ (Int×Int×Int×Bool×Bool)) ec (fun s1=>
  cond (decide (s1<(J.length:Int))) (
   (idx J.length s1).bind fun aZ=>
   cond ((az J aZ) !=0) (
    some (.inr (Sum.inr (az J aZ,az J aZ,s1,decide (s1<(J.length:Int)),(az J aZ) !=0)))) (
    some (.inl (bs (s1+1))))) (
   some (.inr (Sum.inl (s1,decide (s1<(J.length:Int))))))) 0).bind fun ay=>
  Sum.elim (fun ay=>
   some 0) (fun ay=>
  some ay.1) ay
def vy (J:a3) (ah:aJ) (aP:aJ):Option Bool:=
 (vn ah.bK.ik aP.bK.ik).bind fun aD=>
 (xW J ah.bK).bind fun aK=>
 (xW J aP.bK).bind fun bb=>
 (vn aK bb).bind fun bJ=>
 (vn ah.cH aP.cH).bind fun bq=>
 (Ar [aD,bJ,bq]).bind fun b6=>
 some (decide (b6>0))
def xw (J:cL) (ah:aJ) (aP:aJ):Option Int:=
 (vy J.oQ ah aP).bind fun aD=>
 cond aD (
  some (-1)) (
  (vy J.oQ aP ah).bind fun aK=>
  cond aK (
   some 1) (
   some 0))
def Du (J:List aJ) (ah:Int) (aP:List aJ):Option (List aJ):=B3 88 J ah aP
def zy (J:cL) (ah:aJ):Option (Bool×cL):=
 (c0 false false (G8 J ah.cH)).bind fun aD=>
 cond (false||(decide (aD≥0))) (
  some (false,J)) (
  (zk J.ch ah (fun fJ dA=>xw J fJ dA)).bind fun aK=>
  (oM ah).bind fun bb=>
  (Du J.ch aK.1 [bb]).bind fun bJ=>
  some (true,({ J with ch:=bJ } :cL)))
def z2 (hp:a1 Cell) (J:jD) (ah:aJ):aI (a1 Cell):=
 aI.bind (aI.of (J.ch)) fun cG=>
 aI.bind (aI.of (oi hp cG)) fun bY=>
 aI.bind (aI.of (zy bY.1 ah)) fun aD=>
 aI.bind (aI.any (Option Nat×Nat)) fun aA=>
 aI.bind (aI.of (some (dr hp cG (Cell.rQ aD.2 aA.1 aA.2)))) fun de=>
 aI.ret de
def Hj (hp:a1 Cell) (y:gM) (J:aJ):aI (a1 Cell):=match y with
 | .nil=>fun _=>False
 | .mA z=>aI.of (z1 hp z J)
 | .mB z=>zN hp z J
 | .mC z=>z2 hp z J
def xL (hp:a1 Cell) (J:Ref) (ah:aJ):aI (Bool×(a1 Cell)):=
 cond J.isNone (
  aI.ret (false,hp)) (
  aI.bind (aI.of (J)) fun cG=>
  aI.bind (aI.of (iY hp cG)) fun bY=>
  aI.bind (aI.of (bY.ly.p)) fun cv=>
  aI.bind (aI.of (m3 hp cv)) fun cN=>
  aI.bind (aI.of (some (dX cN ah.cH))) fun bH=>
  aI.bind (aI.of (J)) fun lP=>
  aI.bind (aI.of (iY hp lP)) fun e4=>
  aI.bind (aI.of (DL hp e4.iW ah.bK)) fun aD=>
  cond (aD.2||bH.isSome) (
   aI.ret (false,hp)) (
   aI.bind (aI.of (J)) fun GK=>
   aI.bind (aI.of (iY hp GK)) fun oE=>
   aI.bind (aI.of (oM ah)) fun aK=>
   aI.bind (aI.of (oE.ly.p)) fun q5=>
   aI.bind (aI.of (m3 hp q5)) fun pk=>
   aI.bind (aI.of (some (dr hp q5 (Cell.kC (hc pk ah.cH aK))))) fun de=>
   aI.bind (aI.of (iY de GK)) fun lQ=>
   aI.bind (Hj de lQ.iW ah) fun bb=>
   aI.ret (true,bb)))
def Am (hp:a1 Cell) (J:a3) (ah:bu) (aP:Int) (b5:Int):aI (Ref×(List aJ)×bu×(a1 Cell)):=
 aI.bind (aI.of (sq aP (J.bt.length:Int))) fun aD=>
 aI.bind (aI.of (idx J.bt.length aD)) fun aZ=>
 aI.bind (x7 hp J ((az J.bt aZ).b0)) fun aK=>
 aI.bind (pK (σ:=Int×(List aJ)×bu×(a1 Cell)) (ε:=(Int×Bool×(List aJ)×bu×(a1 Cell))) ec (fun s1=>
   aI.bind (aI.of (c0 (decide (s1.1<b5)) true (zH s1.2.2.1))) fun bb=>
   cond ((decide (s1.1<b5))&&bb) (
    aI.bind (aI.of (z0 s1.2.2.1 J aP)) fun bJ=>
    aI.bind (aI.of (some (({ (default:aJ) with bK:=bJ.1,cH:=bs (s1.1+1) } :aJ)))) fun bH=>
    aI.bind (xL s1.2.2.2 aK.1 bH) fun bq=>
    aI.bind (aI.of (cond bq.1 (
      (fV 88 s1.2.1 [bH]).bind fun b6=>
      some b6) (
      some s1.2.1))) fun bx=>
    aI.ret (.inl (bs (s1.1+1),bx,bJ.2,bq.2))) (
    aI.ret (.inr (s1.1,(decide (s1.1<b5))&&bb,s1.2.1,s1.2.2.1,s1.2.2.2)))) (0,([]:List aJ),ah,aK.2)) fun ay=>
 aI.ret (aK.1,ay.2.2.1,ay.2.2.2.1,ay.2.2.2.2)
def DE (J:aJ) (ah:Int):Option Bool:=
 some (J.cH==ah)
def zn (J:List cR) (ah:cR→Option Bool):Option Bool:=
 (xr J ah).bind fun aD=>
 some (decide (aD≥0))
def DF (J:cR):Option Bool:=
 some (J.cS==4)
def Av (J:cA) (ah:Int) (aP:Int):Option an:=
 cond (!J.g1) (
  some (default:an)) (
  cond (ah==1) (
   (so aP).bind fun aD=>
   some aD) (
   cond (ah==2) (
    (vq aP J.fp).bind fun aK=>
    some aK) (
    some J.b3)))
def uc (J:a3) (ah:bC):Option (bc×Bool):=
 (tQ J ah.ef).bind fun aD=>
 cond (decide (aD<0)) (
  some ((default:bc),false)) (
  (idx J.bt.length aD).bind fun aZ=>
  (ey (σ:=Int×bc) (ε:=(Int×Bool×bc) ⊕ (Int×Int×Int×Bool×Bool×bc)) ec (fun s1=>
   cond (decide (s1.1<(((az J.bt aZ).bN).length:Int))) (
    (idx (((az J.bt aZ).bN).length) s1.1).bind fun bP=>
    (vp J ((az ((az J.bt aZ).bN) bP).g3)).bind fun aK=>
    (some ((((az ((az J.bt aZ).bN) bP).cS)==4)||(decide (aK<0)))).bind fun bH=>
    (some ((bH||(decide (s1.1≥ (ah.b4.length:Int))))||(decide (s1.1≥4)))).bind fun dn=>
    cond dn (
     some (.inr (Sum.inr (s1.1,aK,s1.1,decide (s1.1<(((az J.bt aZ).bN).length:Int)),dn,s1.2)))) (
     (idx ah.b4.length s1.1).bind fun cT=>
     (idx J.fF.length aK).bind fun eY=>
     (Av (az ah.b4 cT) ((az ((az J.bt aZ).bN) bP).cS) ((az J.fF eY).fB)).bind fun bb=>
     (idx 4 s1.1).bind fun iK=>
     (idx ah.b4.length s1.1).bind fun jo=>
     (idx 4 s1.1).bind fun jB=>
     (mn ((az ah.b4 jo).bS) (br (c5 s1.2.b3 iK bb) jB)).bind fun bJ=>
     (idx 4 s1.1).bind fun h7=>
     (some (({ ({ s1.2 with b3:=c5 s1.2.b3 iK bb } :bc) with bS:=c5 s1.2.bS h7 bJ } :bc))).bind fun fm=>
     some (.inl (bs (s1.1+1),fm)))) (
    some (.inr (Sum.inl (s1.1,decide (s1.1<(((az J.bt aZ).bN).length:Int)),s1.2))))) (0,(default:bc))).bind fun ay=>
   Sum.elim (fun ay=>
    some (ay.2.2,true)) (fun ay=>
   some ((default:bc),false)) ay)
def Hp (J:a3) (ah:List aJ) (aP:aJ):Option ((List aJ)×a3×aJ):=
 some (ah,J,aP)
def zM {σ ε:Type} (ah:List aJ) (aP:a3) (b5:aJ) (step:bc→σ→Option (σ ⊕ ε)) (cw:σ):Option (σ ⊕ ε):=
 (ey (σ:=Int×(σ)) (ε:=(Int×Bool×(σ)) ⊕ (Bool×Int×Bool×Bool×Bool×(ε))) ec (fun s1=>
  cond (decide (s1.1<(ah.length:Int))) (
   (idx ah.length s1.1).bind fun aZ=>
   (vy aP (az ah aZ) b5).bind fun aD=>
   cond (!aD) (
    some (.inl (bs (s1.1+1),s1.2))) (
    (uc aP ((az ah aZ).bK)).bind fun aK=>
    cond aK.2 (
     (step aK.1 s1.2).bind fun bb=>
     Sum.elim (fun s2=>
      some (.inl (bs (s1.1+1),s2))) (fun cU=>
      some (.inr (Sum.inr (aK.2,s1.1,decide (s1.1<(ah.length:Int)),!aD,aK.2&&(!false),cU)))) bb) (
     some (.inl (bs (s1.1+1),s1.2))))) (
   some (.inr (Sum.inl (s1.1,decide (s1.1<(ah.length:Int)),s1.2))))) (0,cw)).bind fun ay=>
  Sum.elim (fun ay=>
   some (.inl ay.2.2)) (fun ay=>
  some (.inr ay.2.2.2.2.2)) ay
def z5 (J:a3) (ah:List aJ) (aP:Int):Option (bc×(List bc)×Int):=
 (tK ah (fun fJ=>DE fJ aP)).bind fun aD=>
 cond (decide (aD<0)) (
  some ((default:bc),([]:List bc),16)) (
  (idx ah.length aD).bind fun aZ=>
  (tQ J (((az ah aZ).bK).ef)).bind fun aK=>
  (c0 (decide (aK≥0)) true (idx J.bt.length aK)).bind fun bP=>
  (c0 (decide (aK≥0)) true (zn ((az J.bt bP).bN) DF)).bind fun bb=>
  cond ((decide (aK≥0))&&bb) (
   some ((default:bc),([]:List bc),13)) (
   (idx ah.length aD).bind fun cT=>
   (uc J ((az ah cT).bK)).bind fun bJ=>
   (idx ah.length aD).bind fun eY=>
   (Hp J ah (az ah eY)).bind fun bq=>
   (zM bq.1 bq.2.1 bq.2.2 (σ:=(List bc)×(List bc)) (ε:=Empty) (fun(mK:bc) (s1:(List bc)×(List bc))=>
    (fV 128 s1.1 [mK]).bind fun b6=>
    some (.inl (b6,[]))) (([]:List bc),(default:List bc))).bind fun ay=>
   Sum.elim (fun s1=>
    some (bJ.1,s1.1,0)) (fun aA=>
    Empty.elim aA) ay))
def zs (J:List bc):Option (List bc):=
 (fV 128 ([]:List bc) J).bind fun aD=>
 some aD
def sl (J:Vector an 4) (ah:Vector an 4) (aP:an→an→Option an):Option (Vector an 4):=
 (ey (σ:=Int×(Vector an 4)) (ε:=(Int×Bool×(Vector an 4))) ec (fun s1=>
  cond (decide (s1.1<4)) (
   (idx 4 s1.1).bind fun aZ=>
   (idx 4 s1.1).bind fun bP=>
   (aP (br s1.2 aZ) (br ah bP)).bind fun aD=>
   (idx 4 s1.1).bind fun cT=>
   some (.inl (bs (s1.1+1),c5 s1.2 cT aD))) (
   some (.inr (s1.1,decide (s1.1<4),s1.2)))) (0,J)).bind fun ay=>
 some ay.2.2
def nW (J:an) (ah:an):Option an:=
 (some ({ dv:=J.dv|||ah.dv,b2:=J.b2|||ah.b2:an })).bind fun bH=>
 some bH
def x4 (J:bc) (ah:bc):Option (bc×Bool):=
 (sl J.b3 ah.b3 mn).bind fun aD=>
 (sl J.bS ah.bS tY).bind fun aK=>
 (sl aK aD mn).bind fun bb=>
 cond (!decide (bb=(default:Vector an 4))) (
  some ((default:bc),false)) (
  (sl J.bS ah.bS nW).bind fun bJ=>
  (sl J.b3 ah.b3 nW).bind fun bq=>
  some ({ bS:=bJ,b3:=bq:bc },true))
def xN (J:bc) (ah:bc):Option Bool:=
 (x4 ah J).bind fun aD=>
 some (!aD.2)
def xq (J:List bc) (ah:bc→Option Bool):Option Int:=
 (ey (σ:=Int) (ε:=(Int×Bool) ⊕ (Int×Int×Int×Bool×Bool)) ec (fun s1=>
  cond (decide (s1<(J.length:Int))) (
   (idx J.length s1).bind fun aZ=>
   (ah (az J aZ)).bind fun aD=>
   cond aD (
    some (.inr (Sum.inr (s1,s1,s1,decide (s1<(J.length:Int)),aD)))) (
    some (.inl (bs (s1+1))))) (
   some (.inr (Sum.inl (s1,decide (s1<(J.length:Int))))))) 0).bind fun ay=>
  Sum.elim (fun ay=>
   some (-1)) (fun ay=>
  some ay.1) ay
def xp (J:List bc) (ah:bc→Option Bool):Option (List bc):=
 (xq J ah).bind fun aD=>
 cond (aD==(-1)) (
  some J) (
  (ey (σ:=Int×Int×(List bc)) (ε:=(Int×Int×Bool×(List bc))) ec (fun s1=>
   cond (decide (s1.2.1<(s1.2.2.length:Int))) (
    (idx s1.2.2.length s1.2.1).bind fun aZ=>
    (ah (az s1.2.2 aZ)).bind fun aK=>
    (cond (!aK) (
     (idx s1.2.2.length s1.1).bind fun bP=>
     some (bs (s1.1+1),h5 s1.2.2 bP (az s1.2.2 aZ))) (
     some (s1.1,s1.2.2))).bind fun bx=>
    some (.inl (bx.1,bs (s1.2.1+1),bx.2))) (
    some (.inr (s1.1,s1.2.1,decide (s1.2.1<(s1.2.2.length:Int)),s1.2.2)))) (aD,bs (aD+1),J)).bind fun ay=>
  (B4 ay.2.2.2.length ay.1 (ay.2.2.2.length:Int)).bind fun bb=>
  (some (mZ ay.2.2.2 bb.1 (bb.2 - bb.1))).bind fun bH=>
  (idx (bH.length+1) ay.1).bind fun cT=>
  (some (bH.take cT)).bind fun dn=>
  some dn)
def x1 (J:bc) (ah:List bc):Option (List bc):=
 (zs ah).bind fun aD=>
 (xp aD (fun fJ=>xN fJ J)).bind fun aK=>
 some aK
def Ap (J:bc) (ah:bc):Option Bool:=
 (x4 J ah).bind fun aD=>
 some (aD.2&&(decide (aD.1=J)))
def zX (J:bc) (ah:bc):Option Bool:=
 (Ap ah J).bind fun aD=>
 some aD
def zl (J:List bc) (ah:bc→Option Bool):Option Bool:=
 (xq J ah).bind fun aD=>
 some (decide (aD≥0))
def x5 (J:an) (ah:Int):Option an:=
 (so ah).bind fun aD=>
 (mn aD ({ dv:= ~~~J.dv,b2:= ~~~J.b2:an })).bind fun aK=>
 some aK
def Al (J:bc) (ah:List bc):Option ((Vector an 4)×(Vector an 4)):=
 (ey (σ:=Int×(Vector an 4)×(Vector an 4)) (ε:=(Int×Bool×(Vector an 4)×(Vector an 4))) ec (fun s1=>
  cond (decide (s1.1<(ah.length:Int))) (
   (idx ah.length s1.1).bind fun aZ=>
   (ey (σ:=Int×(Vector an 4)×(Vector an 4)) (ε:=(Int×Bool×(Vector an 4)×(Vector an 4))) ec (fun s2=>
    cond (decide (s2.1<4)) (
     (idx 4 s2.1).bind fun bP=>
     (idx 4 s2.1).bind fun cT=>
     (x5 (br J.b3 cT) 128).bind fun aD=>
     (mn (br ((az ah aZ).b3) bP) aD).bind fun aK=>
     (idx 4 s2.1).bind fun eY=>
     (idx 4 s2.1).bind fun iK=>
     (mn aK (br ((az ah aZ).bS) iK)).bind fun bb=>
     (nW (br s2.2.1 eY) bb).bind fun bJ=>
     (idx 4 s2.1).bind fun jo=>
     (idx 4 s2.1).bind fun jB=>
     (idx 4 s2.1).bind fun h7=>
     (x5 (br ((az ah aZ).bS) h7) 128).bind fun bq=>
     (mn aK bq).bind fun b6=>
     (nW (br s2.2.2 jB) b6).bind fun eB=>
     (idx 4 s2.1).bind fun mR=>
     some (.inl (bs (s2.1+1),c5 s2.2.1 jo bJ,c5 s2.2.2 mR eB))) (
     some (.inr (s2.1,decide (s2.1<4),s2.2.1,s2.2.2)))) (0,s1.2.1,s1.2.2)).bind fun aO=>
   some (.inl (bs (s1.1+1),aO.2.2.1,aO.2.2.2))) (
   some (.inr (s1.1,decide (s1.1<(ah.length:Int)),s1.2.1,s1.2.2)))) (0,(default:Vector an 4),(default:Vector an 4))).bind fun ay=>
 some (ay.2.2.2,ay.2.2.1)
def Aj (J:bc) (ah:Vector an 4) (aP:Vector an 4):Option bc:=
 (ey (σ:=Int×bc) (ε:=(Int×Bool×bc)) ec (fun s1=>
  cond (decide (s1.1<4)) (
   (idx 4 s1.1).bind fun aZ=>
   (idx 4 s1.1).bind fun bP=>
   (mn (br ah aZ) (br aP bP)).bind fun aD=>
   (idx 4 s1.1).bind fun cT=>
   (idx 4 s1.1).bind fun eY=>
   (idx 4 s1.1).bind fun iK=>
   (nW (br ah eY) (br aP iK)).bind fun aK=>
   (tY aK aD).bind fun bb=>
   (nW (br s1.2.b3 cT) bb).bind fun bJ=>
   (idx 4 s1.1).bind fun jo=>
   (idx 4 s1.1).bind fun jB=>
   (idx 4 s1.1).bind fun h7=>
   (tY (br ah h7) aD).bind fun bq=>
   (nW (br s1.2.bS jB) bq).bind fun b6=>
   (idx 4 s1.1).bind fun mR=>
   (some (({ ({ s1.2 with b3:=c5 s1.2.b3 jo bJ } :bc) with bS:=c5 s1.2.bS mR b6 } :bc))).bind fun bH=>
   some (.inl (bs (s1.1+1),bH))) (
   some (.inr (s1.1,decide (s1.1<4),s1.2)))) (0,J)).bind fun ay=>
 some ay.2.2
def x6 (J:Vector an 4) (ah:Int):Option Bool:=
 (wP ah 128).bind fun aD=>
 (idx 4 aD).bind fun aZ=>
 (o2 ah 128).bind fun aK=>
 (sr (br J aZ) (bs (127 - aK))).bind fun bb=>
 some bb
def Af (J:Vector an 4) (ah:List bc):Option Int:=
 (ey (σ:=Int×Int×Int) (ε:=(Int×Int×Int×Bool)) ec (fun s1=>
  cond (decide (s1.2.2<512)) (
   (x6 J s1.2.2).bind fun aD=>
   cond (!aD) (
    some (.inl (s1.1,s1.2.1,bs (s1.2.2+1)))) (
    (ey (σ:=Int×Int) (ε:=(Int×Int×Bool)) ec (fun s2=>
     cond (decide (s2.2<(ah.length:Int))) (
      (idx ah.length s2.2).bind fun aZ=>
      (x6 ((az ah aZ).b3) s1.2.2).bind fun aK=>
      (cond aK (
       some (bs (s2.1+1))) (
       some s2.1)).bind fun bx=>
      some (.inl (bx,bs (s2.2+1)))) (
      some (.inr (s2.1,s2.2,decide (s2.2<(ah.length:Int)))))) (0,0)).bind fun aO=>
    (cond (decide (aO.1>s1.2.1)) (
     some (s1.2.2,aO.1)) (
     some (s1.1,s1.2.1))).bind fun cY=>
    some (.inl (cY.1,cY.2,bs (s1.2.2+1))))) (
   some (.inr (s1.1,s1.2.1,s1.2.2,decide (s1.2.2<512))))) (0,0,0)).bind fun ay=>
 some ay.1
def xY (J:Int):Option (Int×Int):=
 (wP J 128).bind fun aD=>
 (o2 J 128).bind fun aK=>
 some (aD,bs (127 - aK))
def AE (J:Vector an 4) (ah:Int):Option Bool:=
 (xY ah).bind fun aD=>
 (idx 4 aD.1).bind fun aZ=>
 (sr (br J aZ) aD.2).bind fun aK=>
 some aK
def Ej (J:BitVec 64):Option an:=
 some ({ (default:an) with b2:=J } :an)
def tW (J:an) (ah:Int):Option an:=
 cond (decide (ah≤0)) (
  some J) (
  cond (decide (ah≥64)) (
   (some (({ (default:an) with dv:=J.b2 <<< (BitVec.ofInt 64 (bs (ah - 64))).toNat } :an))).bind fun bH=>
   some bH) (
   (some ((J.dv <<< (BitVec.ofInt 64 ah).toNat)|||(J.b2 >>> (BitVec.ofInt 64 (bs (64 - ah))).toNat))).bind fun dn=>
   (some ({ dv:=dn,b2:=J.b2 <<< (BitVec.ofInt 64 ah).toNat:an })).bind fun fm=>
   some fm))
def vD (J:bc) (ah:Int) (aP:Bool):Option bc:=
 (c0 ((decide (ah<0))||(decide (ah≥512))) false (AE J.b3 ah)).bind fun aD=>
 cond (((decide (ah<0))||(decide (ah≥512)))||aD) (
  some J) (
  (xY ah).bind fun aK=>
  (Ej (1#64)).bind fun bb=>
  (tW bb aK.2).bind fun bJ=>
  (idx 4 aK.1).bind fun aZ=>
  (nW (br J.b3 aZ) bJ).bind fun bq=>
  (idx 4 aK.1).bind fun bP=>
  (cond aP (
   (idx 4 aK.1).bind fun cT=>
   (nW (br J.bS cT) bJ).bind fun b6=>
   (idx 4 aK.1).bind fun eY=>
   (some (({ ({ J with b3:=c5 J.b3 bP bq } :bc) with bS:=c5 J.bS eY b6 } :bc))).bind fun bH=>
   some bH) (
   some ({ J with b3:=c5 J.b3 bP bq } :bc))).bind fun bx=>
  some bx)
def sk:Nat→bc→ (List bc)→Option Bool
 | 0=>fun _ _=>none
 | n+1=>fun J ah=>
   (x1 J ah).bind fun aD=>
   (zl aD (fun fJ=>zX fJ J)).bind fun aK=>
   cond aK (
    some true) (
    cond ((aD.length:Int)==0) (
     some false) (
     (Al J aD).bind fun bb=>
     (Aj J bb.1 bb.2).bind fun bJ=>
     cond (!decide (bJ=J)) (
      (sk n bJ aD).bind fun bq=>
      some bq) (
      (Af bb.1 aD).bind fun b6=>
      (vD J b6 false).bind fun eB=>
      (sk n eB aD).bind fun fN=>
      (c0 fN true (vD J b6 true)).bind fun e8=>
      (c0 fN true (sk n e8 aD)).bind fun ee=>
      some (fN&&ee))))
def Hs (J:bc) (ah:List bc):Option Bool:=sk ec J ah
def xQ (J:bc) (ah:List bc):Option (Bool×Int):=
 (x1 J ah).bind fun aD=>
 cond (decide ((aD.length:Int)>16)) (
  some (false,26)) (
  (Hs J aD).bind fun aK=>
  some (aK,0))
def vv (J:a3) (ah:List aJ) (aP:Int):Option (Bool×Int):=
 (z5 J ah aP).bind fun aD=>
 cond (aD.2.2 !=0) (
  some (false,aD.2.2)) (
  (xQ aD.1 aD.2.1).bind fun aK=>
  some (aK.1,aK.2))
def zS (J:bu):Option ((Vector an 4)×bu):=
 (ey (σ:=Int×(Vector an 4)×bu) (ε:=(Int×Bool×(Vector an 4)×bu)) ec (fun s1=>
  cond (decide (s1.1<4)) (
   (fZ s1.2.2 256).bind fun aD=>
   (some (({ (default:an) with b2:=BitVec.ofInt 64 aD.1 } :an))).bind fun bH=>
   (idx 4 s1.1).bind fun aZ=>
   (fZ aD.2 4).bind fun aK=>
   (cond (aK.1==1) (
    (idx 4 s1.1).bind fun bP=>
    (fZ aK.2 256).bind fun bb=>
    (some ((((br (c5 s1.2.1 aZ bH) bP).b2) <<< (24#64).toNat)|||(BitVec.ofInt 64 bb.1))).bind fun dn=>
    (idx 4 s1.1).bind fun cT=>
    (some (c5 (c5 s1.2.1 aZ bH) cT ({ (br (c5 s1.2.1 aZ bH) cT) with b2:=dn } :an))).bind fun fm=>
    some (bb.2,fm)) (
    some (aK.2,c5 s1.2.1 aZ bH))).bind fun bx=>
   some (.inl (bs (s1.1+1),bx.2,bx.1))) (
   some (.inr (s1.1,decide (s1.1<4),s1.2.1,s1.2.2)))) (0,(default:Vector an 4),J)).bind fun ay=>
 some (ay.2.2.1,ay.2.2.2)
def Az (J:a3):Option (Vector (List Int) 6):=
 (ey (σ:=Int×(List Int)×(Vector (List Int) 6)) (ε:=(Int×Bool×(List Int)×(Vector (List Int) 6))) ec (fun s1=>
  cond (decide (s1.1<(J.fF.length:Int))) (
   (idx J.fF.length s1.1).bind fun aZ=>
   (fV 8 s1.2.1 [(az J.fF aZ).b0]).bind fun aD=>
   some (.inl (bs (s1.1+1),aD,c5 s1.2.2 0 []))) (
   some (.inr (s1.1,decide (s1.1<(J.fF.length:Int)),s1.2.1,s1.2.2)))) (0,([]:List Int),(default:Vector (List Int) 6))).bind fun ay=>
 (ey (σ:=Int×(List Int)×(Vector (List Int) 6)) (ε:=(Int×Bool×(List Int)×(Vector (List Int) 6))) ec (fun s2=>
  cond (decide (s2.1<(J.mo.length:Int))) (
   (idx J.mo.length s2.1).bind fun bP=>
   (fV 8 s2.2.1 [(az J.mo bP).b0]).bind fun aK=>
   some (.inl (bs (s2.1+1),aK,c5 s2.2.2 1 []))) (
   some (.inr (s2.1,decide (s2.1<(J.mo.length:Int)),s2.2.1,s2.2.2)))) (0,([]:List Int),ay.2.2.2)).bind fun aO=>
 (ey (σ:=Int×(List Int)×(Vector (List Int) 6)) (ε:=(Int×Bool×(List Int)×(Vector (List Int) 6))) ec (fun hV=>
  cond (decide (hV.1<(J.mW.length:Int))) (
   (idx J.mW.length hV.1).bind fun cT=>
   (fV 8 hV.2.1 [(az J.mW cT).b0]).bind fun bb=>
   some (.inl (bs (hV.1+1),bb,c5 hV.2.2 2 []))) (
   some (.inr (hV.1,decide (hV.1<(J.mW.length:Int)),hV.2.1,hV.2.2)))) (0,([]:List Int),aO.2.2.2)).bind fun cK=>
 (ey (σ:=Int×(List Int)×(Vector (List Int) 6)) (ε:=(Int×Bool×(List Int)×(Vector (List Int) 6))) ec (fun iz=>
  cond (decide (iz.1<(J.dH.length:Int))) (
   (idx J.dH.length iz.1).bind fun eY=>
   (fV 8 iz.2.1 [(az J.dH eY).b0]).bind fun bJ=>
   some (.inl (bs (iz.1+1),bJ,c5 iz.2.2 3 []))) (
   some (.inr (iz.1,decide (iz.1<(J.dH.length:Int)),iz.2.1,iz.2.2)))) (0,([]:List Int),cK.2.2.2)).bind fun di=>
 (ey (σ:=Int×(List Int)×(Vector (List Int) 6)) (ε:=(Int×Bool×(List Int)×(Vector (List Int) 6))) ec (fun fY=>
  cond (decide (fY.1<(J.bt.length:Int))) (
   (idx J.bt.length fY.1).bind fun iK=>
   (fV 8 fY.2.1 [(az J.bt iK).b0]).bind fun bq=>
   some (.inl (bs (fY.1+1),bq,c5 fY.2.2 4 []))) (
   some (.inr (fY.1,decide (fY.1<(J.bt.length:Int)),fY.2.1,fY.2.2)))) (0,([]:List Int),di.2.2.2)).bind fun fQ=>
 (ey (σ:=Int×(List Int)×(Vector (List Int) 6)) (ε:=(Int×Bool×(List Int)×(Vector (List Int) 6))) ec (fun jq=>
  cond (decide (jq.1<(J.kc.length:Int))) (
   (idx J.kc.length jq.1).bind fun jo=>
   (fV 8 jq.2.1 [(az J.kc jo).b0]).bind fun b6=>
   some (.inl (bs (jq.1+1),b6,c5 jq.2.2 5 []))) (
   some (.inr (jq.1,decide (jq.1<(J.kc.length:Int)),jq.2.1,jq.2.2)))) (0,([]:List Int),fQ.2.2.2)).bind fun ig=>
 (some ((c5 (c5 (c5 (c5 (c5 (c5 ig.2.2.2 0 ay.2.2.1) 1 aO.2.2.1) 2 cK.2.2.1) 3 di.2.2.1) 4 fQ.2.2.1) 5 ig.2.2.1))).bind fun bH=>
 some bH
def Ao (J:List Int) (ah:Int):Option Int:=
 (ey (σ:=Int) (ε:=(Int×Bool) ⊕ (Int×Int×Int×Int×Bool×Bool)) ec (fun s1=>
  cond (decide (s1<(J.length:Int))) (
   (idx J.length s1).bind fun aZ=>
   cond ((az J aZ)==ah) (
    some (.inr (Sum.inr (s1,s1,az J aZ,s1,decide (s1<(J.length:Int)),(az J aZ)==ah)))) (
    some (.inl (bs (s1+1))))) (
   some (.inr (Sum.inl (s1,decide (s1<(J.length:Int))))))) 0).bind fun ay=>
  Sum.elim (fun ay=>
   some (-1)) (fun ay=>
  some ay.1) ay
def Aa (J:a3) (ah:Int):Option Int:=
 (Az J).bind fun aD=>
 (Ao (br aD 0) ah).bind fun aK=>
 some aK
def D7 (J:a3) (ah:Int):Option Int:=
 (Aa J ah).bind fun aD=>
 (idx J.fF.length aD).bind fun aZ=>
 some ((az J.fF aZ).fB)
def Ab (J:a3) (ah:bX) (aP:Int):Option Int:=
 (idx ah.bN.length aP).bind fun aZ=>
 (D7 J ((az ah.bN aZ).g3)).bind fun aD=>
 some aD
def Ai (J:bC) (ah:Vector an 4):Option (Vector an 4):=
 (ey (σ:=Int×(Vector an 4)) (ε:=(Int×Bool×(Vector an 4))) ec (fun s1=>
  cond (decide (s1.1<(J.b4.length:Int))) (
   (idx J.b4.length s1.1).bind fun aZ=>
   cond ((decide (s1.1≥4))||(!((az J.b4 aZ).g1))) (
    some (.inl (bs (s1.1+1),s1.2))) (
    (cond (!decide ((az J.b4 aZ).b3=(default:an))) (
     (idx 4 s1.1).bind fun bP=>
     (some ((((br s1.2 bP).b2)&&& ~~~(((az J.b4 aZ).b3).b2))|||(((az J.b4 aZ).bS).b2))).bind fun bH=>
     (idx 4 s1.1).bind fun cT=>
     (some ((((br s1.2 cT).dv)&&& ~~~(((az J.b4 aZ).b3).dv))|||(((az J.b4 aZ).bS).dv))).bind fun dn=>
     (idx 4 s1.1).bind fun eY=>
     (idx 4 s1.1).bind fun iK=>
     (some (c5 (c5 s1.2 eY ({ (br s1.2 eY) with b2:=bH } :an)) iK ({ (br (c5 s1.2 eY ({ (br s1.2 eY) with b2:=bH } :an)) iK) with dv:=dn } :an))).bind fun fm=>
     some fm) (
     (some ((decide (((az J.b4 aZ).fp)>0))&&(decide (((az J.b4 aZ).fp)≤32)))).bind fun hF=>
     (cond hF (
      (idx 4 s1.1).bind fun jo=>
      (some ((1#64) <<< (BitVec.ofInt 64 (bs (32 - ((az J.b4 aZ).fp)))).toNat)).bind fun hG=>
      (some ((((az J.b4 aZ).bS).b2)|||(((br s1.2 jo).b2)&&&(hG - (1#64))))).bind fun jQ=>
      (idx 4 s1.1).bind fun jB=>
      (some (c5 s1.2 jB ({ (default:an) with b2:=jQ } :an))).bind fun jR=>
      some jR) (
      (idx 4 s1.1).bind fun h7=>
      some (c5 s1.2 h7 ((az J.b4 aZ).bS)))).bind fun cY=>
     some cY)).bind fun bx=>
    some (.inl (bs (s1.1+1),bx)))) (
   some (.inr (s1.1,decide (s1.1<(J.b4.length:Int)),s1.2)))) (0,ah)).bind fun ay=>
 some ay.2.2
def zz (hp:a1 Cell) (J:ka) (ah:Vector an 4):Option (Int×Bool):=
 (tP hp J.qH ah).bind fun aD=>
 some (aD.1,aD.2)
def xI (J:BitVec 64):Option Int:=
 (cond (decide (J≥ (4294967296#64))) (
  some (J >>> (32#64).toNat,32)) (
  some (J,0))).bind fun bx=>
 (cond (decide (bx.1≥ (65536#64))) (
  some (bx.1 >>> (16#64).toNat,bs (bx.2+16))) (
  some (bx.1,bx.2))).bind fun cY=>
 (cond (decide (cY.1≥ (256#64))) (
  some (cY.1 >>> (8#64).toNat,bs (cY.2+8))) (
  some (cY.1,cY.2))).bind fun fA=>
 (B5 (ByteArray.mk (List.toArray (List.append (List.append [0,1,2,2,3,3,3,3,4,4,4,4,4,4,4,4,5,5,5,5,5,5,5,5,5,5,5,5,5,5,5,5,6,6,6,6,6,6,6,6,6,6,6,6,6,6,6,6,6,6,6,6,6,6,6,6,6,6,6,6,6,6,6,6] [7,7,7,7,7,7,7,7,7,7,7,7,7,7,7,7,7,7,7,7,7,7,7,7,7,7,7,7,7,7,7,7,7,7,7,7,7,7,7,7,7,7,7,7,7,7,7,7,7,7,7,7,7,7,7,7,7,7,7,7,7,7,7,7]) (List.append [8,8,8,8,8,8,8,8,8,8,8,8,8,8,8,8,8,8,8,8,8,8,8,8,8,8,8,8,8,8,8,8,8,8,8,8,8,8,8,8,8,8,8,8,8,8,8,8,8,8,8,8,8,8,8,8,8,8,8,8,8,8,8,8] [8,8,8,8,8,8,8,8,8,8,8,8,8,8,8,8,8,8,8,8,8,8,8,8,8,8,8,8,8,8,8,8,8,8,8,8,8,8,8,8,8,8,8,8,8,8,8,8,8,8,8,8,8,8,8,8,8,8,8,8,8,8,8,8])))) ((fA.1.setWidth 8).toNat:Int)).bind fun aD=>
 some (bs (fA.2+(aD.toNat:Int)))
def Ee (J:an):Option Int:=
 cond (J.dv !=(0#64)) (
  (xI J.dv).bind fun aD=>
  some (bs (64+aD))) (
  (xI J.b2).bind fun aK=>
  some aK)
def Au (J:an) (ah:Int):Option Bool:=
 (Ee J).bind fun aD=>
 some (decide (aD≤ah))
def vl (hp:a1 Cell) (J:Ref) (ah:Int) (aP:Int) (b5:Int) (GJ:Bool):Option (Int×Int×Bool):=
 (c0 J.isSome true (J)).bind fun cG=>
 (c0 J.isSome true (cW hp cG)).bind fun bY=>
 (cond (J.isSome&&bY.dP) (
  (J).bind fun cv=>
  (cW hp cv).bind fun cN=>
  some (ah,cN.hO,true)) (
  some (aP,b5,GJ))).bind fun bx=>
 some (bx.1,bx.2.1,bx.2.2)
def zV (hp:a1 Cell) (J:Ref) (ah:an):Option (Int×Int×Bool):=
 (c0 J.isNone false (J)).bind fun cG=>
 (c0 J.isNone false (fR hp cG)).bind fun bY=>
 (c0 J.isNone false (Au ah bY.fL)).bind fun aD=>
 cond (J.isNone||(!aD)) (
  some (0,0,false)) (
  (J).bind fun cv=>
  (fR hp cv).bind fun cN=>
  (vl hp cN.cQ 0 0 0 false).bind fun aK=>
  (xM J ah cN.fL).bind fun bb=>
  (p8 hp bb.1 bb.2.1 bb.2.2 (σ:=Ref×Int×Int×Int×Bool) (ε:=Ref×Int×Int×Int×Bool) (fun(mK:Int) (s1:Ref×Int×Int×Int×Bool)=>
   cond s1.1.isNone (
    some (.inr (s1.1,s1.2.1,s1.2.2.1,s1.2.2.2.1,s1.2.2.2.2))) (
    (s1.1).bind fun lP=>
    (idx 2 mK).bind fun aZ=>
    (cW hp lP).bind fun e4=>
    (vl hp (br e4.c8 aZ) (bs (s1.2.1+1)) s1.2.2.1 s1.2.2.2.1 s1.2.2.2.2).bind fun bJ=>
    some (.inl (br e4.c8 aZ,bs (s1.2.1+1),bJ.1,bJ.2.1,bJ.2.2)))) (cN.cQ,0,aK.1,aK.2.1,aK.2.2)).bind fun ay=>
  Sum.elim (fun s1=>
   some (s1.2.2.1,s1.2.2.2.1,s1.2.2.2.2)) (fun cU=>
   some (cU.2.2.1,cU.2.2.2.1,cU.2.2.2.2)) ay)
def zv (hp:a1 Cell) (J:gZ) (ah:Vector an 4):Option (Int×Bool):=
 (xu J ah).bind fun aD=>
 (J.n6.p).bind fun cG=>
 (j3 hp cG).bind fun bY=>
 (some ((dX bY aD.1).getD default)).bind fun bH=>
 (so J.fL).bind fun aK=>
 (mn aD.2 aK).bind fun bb=>
 (zV hp bH bb).bind fun bJ=>
 some (bJ.2.1,bJ.2.2)
def G2 (ah:Vector an 4):Option (Vector an 4):=
 some ah
def vt (J:a3) (ah:cR):Option Int:=
 (vp J ah.g3).bind fun aD=>
 cond (decide (aD<0)) (
  some 0) (
  (idx J.fF.length aD).bind fun aZ=>
  some ((az J.fF aZ).fB))
def tS (J:an) (ah:an):Option Int:=
 cond (decide (J=ah)) (
  some 0) (
  (some ((decide (J.dv<ah.dv))||((J.dv==ah.dv)&&(decide (J.b2<ah.b2))))).bind fun bH=>
  cond bH (
   some (-1)) (
   some 1))
def vu (J:cA) (ah:Int) (aP:Int) (b5:an):Option Bool:=
 cond (!J.g1) (
  some ((decide (ah≥1))&&(decide (ah≤4)))) (
  cond (ah==1) (
   some (decide (b5=J.bS))) (
   cond (ah==2) (
    (vq aP J.fp).bind fun aD=>
    (mn b5 aD).bind fun aK=>
    (mn J.bS aD).bind fun bb=>
    some (decide (aK=bb))) (
    cond (ah==3) (
     (mn b5 J.b3).bind fun bJ=>
     some (decide (bJ=J.bS))) (
     cond (ah==4) (
      (tS J.bS b5).bind fun bq=>
      (c0 (decide (bq≤0)) true (tS b5 J.l0)).bind fun b6=>
      some ((decide (bq≤0))&&(decide (b6≤0)))) (
      some false)))))
def tT (J:a3) (ah:bC) (aP:Vector an 4):Option Bool:=
 (tV J ah).bind fun aD=>
 cond (!aD.2) (
  some false) (
  (ey (σ:=Int) (ε:=(Int×Bool) ⊕ (Int×Int×Bool×Bool)) ec (fun s1=>
   cond (decide (s1<(aD.1.bN.length:Int))) (
    (idx aD.1.bN.length s1).bind fun aZ=>
    (c0 ((decide (s1≥ (ah.b4.length:Int)))||(decide (s1≥4))) false (idx ah.b4.length s1)).bind fun bP=>
    (c0 ((decide (s1≥ (ah.b4.length:Int)))||(decide (s1≥4))) false (vt J (az aD.1.bN aZ))).bind fun aK=>
    (c0 ((decide (s1≥ (ah.b4.length:Int)))||(decide (s1≥4))) false (idx 4 s1)).bind fun cT=>
    (c0 ((decide (s1≥ (ah.b4.length:Int)))||(decide (s1≥4))) false (vu (az ah.b4 bP) ((az aD.1.bN aZ).cS) aK (br aP cT))).bind fun bb=>
    (some (((decide (s1≥ (ah.b4.length:Int)))||(decide (s1≥4)))||(!bb))).bind fun bH=>
    cond bH (
     some (.inr (Sum.inr (s1,s1,decide (s1<(aD.1.bN.length:Int)),bH)))) (
     some (.inl (bs (s1+1))))) (
    some (.inr (Sum.inl (s1,decide (s1<(aD.1.bN.length:Int))))))) 0).bind fun ay=>
   Sum.elim (fun ay=>
    some true) (fun ay=>
   some false) ay)
def zm {σ ε:Type} (ah:cL) (aP:Vector an 4) (step:aJ→σ→Option (σ ⊕ ε)) (cw:σ):Option (σ ⊕ ε):=
 (ey (σ:=Int×(σ)) (ε:=(Int×Bool×(σ)) ⊕ (Int×Bool×Bool×(ε))) ec (fun s1=>
  cond (decide (s1.1<(ah.ch.length:Int))) (
   (idx ah.ch.length s1.1).bind fun aZ=>
   (tT ah.oQ ((az ah.ch aZ).bK) aP).bind fun aD=>
   cond aD (
    (step (az ah.ch aZ) s1.2).bind fun aK=>
    Sum.elim (fun s2=>
     some (.inl (bs (s1.1+1),s2))) (fun cU=>
     some (.inr (Sum.inr (s1.1,decide (s1.1<(ah.ch.length:Int)),aD&&(!false),cU)))) aK) (
    some (.inl (bs (s1.1+1),s1.2)))) (
   some (.inr (Sum.inl (s1.1,decide (s1.1<(ah.ch.length:Int)),s1.2))))) (0,cw)).bind fun ay=>
  Sum.elim (fun ay=>
   some (.inl ay.2.2)) (fun ay=>
  some (.inr ay.2.2.2)) ay
def xt (J:cL) (ah:Vector an 4):Option (aJ×Bool):=
 (G2 ah).bind fun aD=>
 (zm J aD (σ:=Unit) (ε:=Bool×aJ) (fun(mK:aJ) (s1:Unit)=>
  (oM mK).bind fun aK=>
  some (.inr (true,aK))) ()).bind fun ay=>
 Sum.elim (fun s1=>
  some ((default:aJ),false)) (fun aA=>
  some (aA.2,aA.1)) ay
def zE (hp:a1 Cell) (J:jD) (ah:Vector an 4):Option (Int×Bool):=
 (J.ch).bind fun cG=>
 (oi hp cG).bind fun bY=>
 (xt bY.1 ah).bind fun aD=>
 some (aD.1.cH,aD.2)
def G6 (hp:a1 Cell) (y:gM) (J:Vector an 4):Option (Int×Bool):=match y with
 | .nil=>none
 | .mA z=>zz hp z J
 | .mB z=>zv hp z J
 | .mC z=>zE hp z J
def xF (hp:a1 Cell) (J:Ref) (ah:Int) (aP:Bool):Option (aJ×Bool):=
 cond (!aP) (
  some ((default:aJ),false)) (
  (J).bind fun cG=>
  (iY hp cG).bind fun bY=>
  (bY.ly.p).bind fun cv=>
  (m3 hp cv).bind fun cN=>
  (some ((dX cN ah).getD default)).bind fun bH=>
  (oM bH).bind fun aD=>
  some (aD,true))
def xB (hp:a1 Cell) (J:Ref) (ah:Vector an 4):Option (aJ×Bool):=
 cond J.isNone (
  some ((default:aJ),false)) (
  (ey (σ:=Int×(Vector an 4)) (ε:=(Int×Bool×(Vector an 4))) ec (fun s1=>
   cond (decide (s1.1<4)) (
    (J).bind fun cG=>
    (iY hp cG).bind fun bY=>
    (cond (decide (s1.1≥bY.pD)) (
     (idx 4 s1.1).bind fun aZ=>
     some (c5 s1.2 aZ (default:an))) (
     some s1.2)).bind fun bx=>
    some (.inl (bs (s1.1+1),bx))) (
    some (.inr (s1.1,decide (s1.1<4),s1.2)))) (0,ah)).bind fun ay=>
  (J).bind fun cv=>
  (iY hp cv).bind fun cN=>
  (G6 hp cN.iW ay.2.2).bind fun aD=>
  (xF hp J aD.1 aD.2).bind fun aK=>
  some (aK.1,aK.2))
def z3 (hp:a1 Cell) (J:Ref) (ah:bC):Option (aJ×Bool):=
 cond J.isNone (
  some ((default:aJ),false)) (
  (J).bind fun cG=>
  (iY hp cG).bind fun bY=>
  (DL hp bY.iW ah).bind fun aD=>
  (xF hp J aD.1 aD.2).bind fun aK=>
  some (aK.1,aK.2))
def DH (hp:a1 Cell) (J:Ref) (ah:Vector an 4):Option (Bool×(a1 Cell)):=
 (tP hp J ah).bind fun aD=>
 cond (!aD.2) (
  some (false,hp)) (
  (J).bind fun cG=>
  (m2 hp cG).bind fun bY=>
  (bY.oX.p).bind fun cv=>
  (l4 hp cv).bind fun cN=>
  (some (dr hp cv (Cell.ot (ir cN ah)))).bind fun de=>
  some (true,de))
def zA (hp:a1 Cell) (J:ka) (ah:aJ):Option (a1 Cell):=
 (tU ah.bK).bind fun aD=>
 (DH hp J.qH aD).bind fun aK=>
 some aK.2
def xJ (hp:a1 Cell) (J:Ref):Option Bool:=
 (J).bind fun cG=>
 (cW hp cG).bind fun bY=>
 (c0 (!bY.dP) true (J)).bind fun cv=>
 (c0 (!bY.dP) true (cW hp cv)).bind fun cN=>
 some ((!bY.dP)&&(decide (cN.c8=(default:Vector Ref 2))))
def xH (hp:a1 Cell) (J:Ref) (ah:an) (aP:Int):Option (Bool×(a1 Cell)):=
 (vr hp J ah aP).bind fun aD=>
 cond (!aD.2) (
  some (false,hp)) (
  (J).bind fun cG=>
  (fR hp cG).bind fun bY=>
  (xM J ah aP).bind fun aK=>
  (p8 hp aK.1 aK.2.1 aK.2.2 (σ:=(List Int)×(List Ref)) (ε:=Empty) (fun(mK:Int) (s1:(List Int)×(List Ref))=>
   (idx s1.2.length (bs ((s1.2.length:Int) - 1))).bind fun aZ=>
   ((az s1.2 aZ)).bind fun cv=>
   (idx 2 mK).bind fun bP=>
   (cW hp cv).bind fun cN=>
   (fV 8 s1.2 [br cN.c8 bP]).bind fun bb=>
   (fV 8 s1.1 [mK]).bind fun bJ=>
   some (.inl (bJ,bb))) (([]:List Int),[bY.cQ])).bind fun ay=>
  Sum.elim (fun s1=>
   (idx s1.2.length aP).bind fun cT=>
   ((az s1.2 cT)).bind fun lP=>
   (cW hp lP).bind fun e4=>
   (some (dr hp lP (Cell.gk ({ e4 with dP:=false } :dM)))).bind fun de=>
   (cW de lP).bind fun oE=>
   (some (dr de lP (Cell.gk ({ oE with hO:=0 } :dM)))).bind fun dk=>
   (ey (σ:=Int×(a1 Cell)) (ε:=(Int×Bool×(a1 Cell))) ec (fun s2=>
    (c0 (decide (s2.1≥0)) true (idx s1.2.length (bs (s2.1+1)))).bind fun eY=>
    (c0 (decide (s2.1≥0)) true (xJ s2.2 (az s1.2 eY))).bind fun bq=>
    cond ((decide (s2.1≥0))&&bq) (
     (idx s1.2.length s2.1).bind fun h7=>
     (idx s1.1.length s2.1).bind fun mR=>
     ((az s1.2 h7)).bind fun q5=>
     (idx 2 (az s1.1 mR)).bind fun Cq=>
     (cW s2.2 q5).bind fun pk=>
     (some (dr s2.2 q5 (Cell.gk ({ pk with c8:=c5 pk.c8 Cq (none:Ref) } :dM)))).bind fun hi=>
     some (.inl (bs (s2.1 - 1),hi))) (
     some (.inr (s2.1,(decide (s2.1≥0))&&bq,s2.2)))) (bs (aP - 1),dk)).bind fun aO=>
   (fR aO.2.2 cG).bind fun lQ=>
   (xJ aO.2.2 lQ.cQ).bind fun b6=>
   (cond b6 (
    (some (dr aO.2.2 cG (Cell.j4 ({ lQ with cQ:=(none:Ref) } :fK)))).bind fun uY=>
    some uY) (
    some aO.2.2)).bind fun bx=>
   some (true,bx)) (fun aA=>
   Empty.elim aA) ay)
def DB (hp:a1 Cell) (J:Ref) (ah:an) (aP:Int) (b5:List dy):Option (List dy):=
 (J).bind fun cG=>
 (cW hp cG).bind fun bY=>
 (cond bY.dP (
  (fV 32 b5 [{ bS:=ah,vK:=aP,b0:=bY.hO:dy }]).bind fun aD=>
  some aD) (
  some b5)).bind fun bx=>
 some bx
def vi:Nat→ (a1 Cell)→Ref→Ref→an→Int→ (List dy)→Option (List dy)
 | 0=>fun _ _ _ _ _ _=>none
 | n+1=>fun hp J ah aP b5 iL=>
   cond ah.isNone (
    some iL) (
    (DB hp ah aP b5 iL).bind fun aD=>
    (ah).bind fun cG=>
    (cW hp cG).bind fun bY=>
    (vi n hp J (br bY.c8 0) aP (bs (b5+1)) aD).bind fun aK=>
    (Ej (1#64)).bind fun bb=>
    (J).bind fun cv=>
    (fR hp cv).bind fun cN=>
    (tW bb (bs ((bs (cN.fL - 1)) - b5))).bind fun bJ=>
    (nW aP bJ).bind fun bq=>
    (vi n hp J (br bY.c8 1) bq (bs (b5+1)) aK).bind fun b6=>
    some b6)
def GZ (hp:a1 Cell) (J:Ref) (ah:Ref) (aP:an) (b5:Int) (iL:List dy):Option (List dy):=vi ec hp J ah aP b5 iL
def Dv (hp:a1 Cell) (J:Ref) (aP:List dy):Option (List dy):=
 (cond J.isSome (
  (J).bind fun cG=>
  (fR hp cG).bind fun bY=>
  (GZ hp J bY.cQ (default:an) 0 aP).bind fun aD=>
  some aD) (
  some aP)).bind fun bx=>
 some bx
def D4 (hp:a1 Cell) (J:Ref):Option (List dy):=
 (Dv hp J ([]:List dy)).bind fun aD=>
 some aD
def xP (hp:a1 Cell) (J:Ref):Option Int:=
 (D4 hp J).bind fun aD=>
 some (aD.length:Int)
def zw (hp:a1 Cell) (J:gZ) (ah:aJ):Option (a1 Cell):=
 (vj J ah.bK).bind fun aD=>
 (J.n6.p).bind fun cG=>
 (j3 hp cG).bind fun bY=>
 (some ((dX bY aD.1).getD default)).bind fun bH=>
 (xH hp bH aD.2.1 aD.2.2).bind fun aK=>
 (j3 aK.2 cG).bind fun cN=>
 (some ((dX cN aD.1).getD default)).bind fun dn=>
 (xP aK.2 dn).bind fun bb=>
 (cond (bb==0) (
  (some (dr aK.2 cG (Cell.l7 (ir cN aD.1)))).bind fun de=>
  some de) (
  some aK.2)).bind fun bx=>
 some bx
def DA (J:cL) (ah:Int):Option Int:=
 (tK J.ch (fun fJ=>vk fJ ah)).bind fun aD=>
 some aD
def GY (J:List aJ) (ah:Int) (aP:Int):Option (List aJ):=B6 J ah aP
def zq (J:cL) (ah:Int):Option (Bool×cL):=
 (DA J ah).bind fun aD=>
 cond (decide (aD<0)) (
  some (false,J)) (
  (GY J.ch aD (bs (aD+1))).bind fun aK=>
  some (true,({ J with ch:=aK } :cL)))
def zC (hp:a1 Cell) (J:jD) (ah:aJ):aI (a1 Cell):=
 aI.bind (aI.of (J.ch)) fun cG=>
 aI.bind (aI.of (oi hp cG)) fun bY=>
 aI.bind (aI.of (zq bY.1 ah.cH)) fun aD=>
 aI.bind (aI.any (Option Nat×Nat)) fun aA=>
 aI.bind (aI.of (some (dr hp cG (Cell.rQ aD.2 aA.1 aA.2)))) fun de=>
 aI.ret de
def G7 (hp:a1 Cell) (y:gM) (J:aJ):aI (a1 Cell):=match y with
 | .nil=>fun _=>False
 | .mA z=>aI.of (zA hp z J)
 | .mB z=>aI.of (zw hp z J)
 | .mC z=>zC hp z J
def zO (hp:a1 Cell) (J:Ref) (ah:bC):aI (aJ×Bool×(a1 Cell)):=
 aI.bind (aI.of (z3 hp J ah)) fun aD=>
 aI.bind (cond aD.2 (
   aI.bind (aI.of (J)) fun cG=>
   aI.bind (aI.of (iY hp cG)) fun bY=>
   aI.bind (G7 hp bY.iW aD.1) fun aK=>
   aI.bind (aI.of (iY aK cG)) fun cN=>
   aI.bind (aI.of (cN.ly.p)) fun cv=>
   aI.bind (aI.of (m3 aK cv)) fun e4=>
   aI.bind (aI.of (some (dr aK cv (Cell.kC (ir e4 aD.1.cH))))) fun de=>
   aI.ret de) (
   aI.ret hp)) fun bx=>
 aI.ret (aD.1,aD.2,bx)
def rj (J:Int) (ah:Int):Option Int:=
 cond (decide (J<ah)) (
  some (-1)) (
  cond (decide (J>ah)) (
   some 1) (
   some 0))
def xZ (J:an):Option (Vector Bool 128):=
 (ey (σ:=Int×(Vector Bool 128)) (ε:=(Int×Bool×(Vector Bool 128))) ec (fun s1=>
  cond (decide (s1.1<64)) (
   (idx 128 s1.1).bind fun aZ=>
   (some (c5 s1.2 aZ (((J.b2 >>> (BitVec.ofInt 64 s1.1).toNat)&&&(1#64))==(1#64)))).bind fun bH=>
   (idx 128 (bs (s1.1+64))).bind fun bP=>
   (some (c5 bH bP (((J.dv >>> (BitVec.ofInt 64 s1.1).toNat)&&&(1#64))==(1#64)))).bind fun dn=>
   some (.inl (bs (s1.1+1),dn))) (
   some (.inr (s1.1,decide (s1.1<64),s1.2)))) (0,(default:Vector Bool 128))).bind fun ay=>
 some ay.2.2
def sm (J:an) (ah:an):Option Int:=
 (xZ J).bind fun aD=>
 (xZ ah).bind fun aK=>
 (ey (σ:=Int) (ε:=(Int×Bool) ⊕ (Int×Int×Bool×Bool×Bool)) ec (fun s1=>
  cond (decide (s1≥0)) (
   (idx 128 s1).bind fun aZ=>
   (idx 128 s1).bind fun bP=>
   cond ((br aD aZ) !=(br aK bP)) (
    (idx 128 s1).bind fun cT=>
    cond (br aK cT) (
     some (.inr (Sum.inr ((-1),s1,decide (s1≥0),(br aD aZ) !=(br aK bP),br aK cT)))) (
     some (.inr (Sum.inr (1,s1,decide (s1≥0),(br aD aZ) !=(br aK bP),br aK cT))))) (
    some (.inl (bs (s1 - 1))))) (
   some (.inr (Sum.inl (s1,decide (s1≥0)))))) 127).bind fun ay=>
  Sum.elim (fun ay=>
   some 0) (fun ay=>
  some ay.1) ay
def Aq (J:cA) (ah:cA):Option Int:=
 cond ((J.g1 !=ah.g1)&&ah.g1) (
  some (-1)) (
  cond (J.g1 !=ah.g1) (
   some 1) (
   cond (!decide (J.bS=ah.bS)) (
    (sm J.bS ah.bS).bind fun aD=>
    some aD) (
    cond (!decide (J.b3=ah.b3)) (
     (sm J.b3 ah.b3).bind fun aK=>
     some aK) (
     cond (J.fp !=ah.fp) (
      (rj J.fp ah.fp).bind fun bb=>
      some bb) (
      (sm J.l0 ah.l0).bind fun bJ=>
      some bJ)))))
def Ad (J:List cA) (ah:List cA):Option Int:=
 (ey (σ:=Int) (ε:=(Int×Bool) ⊕ (Int×Int×Int×Bool×Bool)) ec (fun s1=>
  cond ((decide (s1<(J.length:Int)))&&(decide (s1<(ah.length:Int)))) (
   (idx J.length s1).bind fun aZ=>
   (idx ah.length s1).bind fun bP=>
   (Aq (az J aZ) (az ah bP)).bind fun aD=>
   cond (aD !=0) (
    some (.inr (Sum.inr (aD,s1,aD,(decide (s1<(J.length:Int)))&&(decide (s1<(ah.length:Int))),aD !=0)))) (
    some (.inl (bs (s1+1))))) (
   some (.inr (Sum.inl (s1,(decide (s1<(J.length:Int)))&&(decide (s1<(ah.length:Int)))))))) 0).bind fun ay=>
  Sum.elim (fun ay=>
   (rj (J.length:Int) (ah.length:Int)).bind fun aK=>
   some aK) (fun ay=>
  some ay.1) ay
def Ak (J:List an) (ah:List an):Option Int:=
 (ey (σ:=Int) (ε:=(Int×Bool) ⊕ (Int×Int×Int×Bool×Bool)) ec (fun s1=>
  cond ((decide (s1<(J.length:Int)))&&(decide (s1<(ah.length:Int)))) (
   (idx J.length s1).bind fun aZ=>
   (idx ah.length s1).bind fun bP=>
   (sm (az J aZ) (az ah bP)).bind fun aD=>
   cond (aD !=0) (
    some (.inr (Sum.inr (aD,s1,aD,(decide (s1<(J.length:Int)))&&(decide (s1<(ah.length:Int))),aD !=0)))) (
    some (.inl (bs (s1+1))))) (
   some (.inr (Sum.inl (s1,(decide (s1<(J.length:Int)))&&(decide (s1<(ah.length:Int)))))))) 0).bind fun ay=>
  Sum.elim (fun ay=>
   (rj (J.length:Int) (ah.length:Int)).bind fun aK=>
   some aK) (fun ay=>
  some ay.1) ay
def Ae (J:bC) (ah:bC):Option Int:=
 (rj J.ef ah.ef).bind fun aD=>
 (rj ah.ik J.ik).bind fun aK=>
 (Ad J.b4 ah.b4).bind fun bb=>
 (rj J.lz ah.lz).bind fun bJ=>
 (ey (σ:=Int) (ε:=(Int×Bool) ⊕ (Int×Int×Int×Bool×Bool)) ec (fun s1=>
  cond (decide (s1<([aD,aK,bb,bJ].length:Int))) (
   (idx ([aD,aK,bb,bJ].length) s1).bind fun aZ=>
   cond ((az [aD,aK,bb,bJ] aZ) !=0) (
    some (.inr (Sum.inr (az [aD,aK,bb,bJ] aZ,az [aD,aK,bb,bJ] aZ,s1,decide (s1<([aD,aK,bb,bJ].length:Int)),(az [aD,aK,bb,bJ] aZ) !=0)))) (
    some (.inl (bs (s1+1))))) (
   some (.inr (Sum.inl (s1,decide (s1<([aD,aK,bb,bJ].length:Int))))))) 0).bind fun ay=>
  Sum.elim (fun ay=>
   (Ak J.lb ah.lb).bind fun bq=>
   some bq) (fun ay=>
  some ay.1) ay
def D8 (J:bC) (ah:bC):Option Bool:=
 (Ae J ah).bind fun aD=>
 some (aD==0)
def Aw (J:aJ) (ah:aJ):Option Bool:=
 (D8 J.bK ah.bK).bind fun aD=>
 some ((aD&&(J.cH==ah.cH))&&(J.vQ==ah.vQ))
def As:Option Bool:=
 (vA ([]:List (BitVec 8)) 0).bind fun aD=>
 (xA aD).bind fun aK=>
 (tf (α:=cA) 64 2).bind fun bb=>
 (some (({ (default:bC) with ef:=3,b4:=bb,ik:=5,lz:=1 } :bC))).bind fun bH=>
 (some (({ (default:aJ) with bK:=bH,cH:=1 } :aJ))).bind fun dn=>
 (tf (α:=cA) 64 2).bind fun bJ=>
 (some (({ (default:bC) with ef:=3,b4:=bJ,ik:=4,lz:=1 } :bC))).bind fun fm=>
 (some (({ (default:aJ) with bK:=fm,cH:=2 } :aJ))).bind fun hF=>
 (vv aK.1 [dn,hF] 2).bind fun bq=>
 (vv aK.1 [dn,hF] 1).bind fun b6=>
 some (((bq.1&&(!b6.1))&&(bq.2==0))&&(b6.2==0))
def zF (hp:a1 Cell) (J:List (BitVec 8)) (ah:List (BitVec 8)) (aP:Int) (b5:List (Vector an 4)):aI (Bool×(a1 Cell)):=
 aI.bind (aI.of (vA J 120)) fun aD=>
 aI.bind (aI.of (xA aD)) fun aK=>
 aI.bind (aI.of (vA ah 200)) fun bb=>
 aI.bind (aI.of (sq aP (aK.1.bt.length:Int))) fun bJ=>
 aI.bind (aI.of (idx aK.1.bt.length bJ)) fun aZ=>
 aI.bind (Am hp aK.1 bb aP 12) fun bq=>
 aI.bind (pK (σ:=Int) (ε:=(Int×Bool) ⊕ (Bool×Bool×Int×Bool×Int×Bool×Bool×Int×Int×Bool×Int×Int×Bool×Bool×bu×(a1 Cell))) ec (fun s1=>
   cond (decide (s1<(bq.2.1.length:Int))) (
    aI.bind (aI.of (idx bq.2.1.length s1)) fun bP=>
    aI.bind (aI.of (vv aK.1 bq.2.1 ((az bq.2.1 bP).cH))) fun b6=>
    cond ((!b6.1)||(b6.2 !=0)) (
     aI.ret (.inl (bs (s1+1)))) (
     aI.bind (aI.of (sL b5 0 (min (b5.length:Int) 3))) fun eB=>
     aI.bind (aI.of (fV 64 ([]:List (Vector an 4)) eB)) fun fN=>
     aI.bind (aI.of (zS bq.2.2.1)) fun e8=>
     aI.bind (aI.of (fV 64 fN [e8.1])) fun ee=>
     aI.bind (aI.of (ey (σ:=Int×(List (Vector an 4))) (ε:=(Int×Bool×(List (Vector an 4)))) ec (fun s2=>
       cond (decide (s2.1<(ee.length:Int))) (
        (idx ee.length s2.1).bind fun cT=>
        (ey (σ:=Int×(Vector an 4)) (ε:=(Int×Bool×(Vector an 4))) ec (fun hV=>
         cond (decide (hV.1<(((az aK.1.bt aZ).bN).length:Int))) (
          (idx 4 hV.1).bind fun eY=>
          (Ab aK.1 (az aK.1.bt aZ) hV.1).bind fun jl=>
          (tX (br hV.2 eY) jl).bind fun jb=>
          (idx 4 hV.1).bind fun iK=>
          some (.inl (bs (hV.1+1),c5 hV.2 iK jb))) (
          some (.inr (hV.1,decide (hV.1<(((az aK.1.bt aZ).bN).length:Int)),hV.2)))) (0,(az ee cT))).bind fun cK=>
        (Ai ((az bq.2.1 bP).bK) cK.2.2).bind fun jx=>
        (fV 64 s2.2 [cK.2.2,jx]).bind fun kG=>
        some (.inl (bs (s2.1+1),kG))) (
        some (.inr (s2.1,decide (s2.1<(ee.length:Int)),s2.2)))) (0,([]:List (Vector an 4))))) fun aO=>
     aI.bind (aI.of (ey (σ:=Int×(List aJ)) (ε:=(Int×Bool×(List aJ))) ec (fun iz=>
       cond (decide (iz.1<(aO.2.2.length:Int))) (
        (idx aO.2.2.length iz.1).bind fun jo=>
        (xB bq.2.2.2 bq.1 (az aO.2.2 jo)).bind fun o9=>
        (fV 88 iz.2 [o9.1]).bind fun qE=>
        some (.inl (bs (iz.1+1),qE))) (
        some (.inr (iz.1,decide (iz.1<(aO.2.2.length:Int)),iz.2)))) (0,([]:List aJ)))) fun di=>
     aI.bind (zO bq.2.2.2 bq.1 ((az bq.2.1 bP).bK)) fun iI=>
     cond (!iI.2.1) (
      aI.ret (.inr (Sum.inr (false,b6.1,b6.2,iI.2.1,s1,decide (s1<(bq.2.1.length:Int)),(!b6.1)||(b6.2 !=0),(ee.length:Int),aO.1,aO.2.1,(aO.2.2.length:Int),di.1,di.2.1,!iI.2.1,e8.2,iI.2.2)))) (
      aI.bind (aI.of (ey (σ:=Int) (ε:=(Int×Bool) ⊕ (Int×Int×Bool×Bool)) ec (fun fY=>
        cond (decide (fY<(aO.2.2.length:Int))) (
         (idx aO.2.2.length fY).bind fun jB=>
         (xB iI.2.2 bq.1 (az aO.2.2 jB)).bind fun Ko=>
         (idx di.2.2.length fY).bind fun h7=>
         (Aw Ko.1 (az di.2.2 h7)).bind fun Kp=>
         cond (!Kp) (
          some (.inr (Sum.inr (fY,fY,decide (fY<(aO.2.2.length:Int)),!Kp)))) (
          some (.inl (bs (fY+1))))) (
         some (.inr (Sum.inl (fY,decide (fY<(aO.2.2.length:Int))))))) 0)) fun fQ=>
        Sum.elim (fun fQ=>
         aI.bind (xL iI.2.2 bq.1 (az bq.2.1 bP)) fun w0=>
         aI.bind (aI.of (c0 w0.1 true (As))) fun Rx=>
         aI.ret (.inr (Sum.inr (w0.1&&Rx,b6.1,b6.2,iI.2.1,s1,decide (s1<(bq.2.1.length:Int)),(!b6.1)||(b6.2 !=0),(ee.length:Int),aO.1,aO.2.1,(aO.2.2.length:Int),di.1,di.2.1,!iI.2.1,e8.2,w0.2)))) (fun fQ=>
        aI.ret (.inr (Sum.inr (false,b6.1,b6.2,iI.2.1,s1,decide (s1<(bq.2.1.length:Int)),(!b6.1)||(b6.2 !=0),(ee.length:Int),aO.1,aO.2.1,(aO.2.2.length:Int),di.1,di.2.1,!iI.2.1,e8.2,iI.2.2)))) fQ))) (
    aI.ret (.inr (Sum.inl (s1,decide (s1<(bq.2.1.length:Int))))))) 0) fun ay=>
   Sum.elim (fun ay=>
    aI.bind (aI.of (As)) fun Kq=>
    aI.ret (Kq,bq.2.2.2)) (fun ay=>
   aI.ret (ay.1,ay.2.2.2.2.2.2.2.2.2.2.2.2.2.2.2)) ay
end Go.Proofs.YthkfkliknjiecaaGreat
