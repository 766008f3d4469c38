/-
  Each function meets its functional program. Conditions: none.
-/
import Derived.Test.YtmnggbjcnoffeaaGreatMc0
import Derived.Test.YtmnggbjcnoffeaaGreatMc1
namespace Go.Proofs.YtmnggbjcnoffeaaGreat
open Go Gv
set_option linter.unusedVariables false
set_option linter.unusedSimpArgs false
set_option maxRecDepth 100000
set_option maxHeartbeats 2000000
theorem NK {J:bk} {b6:Nat} {r:(List dy) × bk} (h:wK J=some r):cf Tryz.prog 69 [I.eq (.pointer (some ⟨b6,0,none⟩))] [⟨some b6,.var (J:bk)⟩] (δ:=Unit) (fun d=>I.of (r.1)) (fun d=> [⟨some b6,.var (r.2:bk)⟩]):=by
 unfold wK at h
 refine cf.of Tryz.func69 rfl Tryz.ntmps69 rfl fun W A=> ?_
 refine aA ?_
 refine bj (eW (look_nil (α:=dy))) ?_
 refine b2 ?_
 refine ho BH yu ({ (default:fq) with cH:=3 } :fq) (h4 AA .nil) ?_
 refine cM yu fun aR=> ?_
 refine ck 0 BI ?_
 refine bK ?_
 obtain⟨bg,dd,h⟩:=ay h
 obtain⟨dw,ha,h⟩:=ay h
 obtain⟨ft,km,h⟩:=ay h
 obtain⟨hz,l4,h⟩:=ay h
 obtain⟨gy,l5,h⟩:=ay h
 obtain⟨ir,oy,h⟩:=ay h
 obtain⟨iu,oz,h⟩:=ay h
 obtain⟨g5,qj,h⟩:=ay h
 obtain⟨kO,tn,h⟩:=ay h
 obtain⟨kn,s3,h⟩:=ay h
 obtain⟨j3,s4,h⟩:=ay h
 obtain⟨k6,s5,h⟩:=ay h
 obtain⟨j4,y4,h⟩:=ay h
 obtain⟨ak,bt,h⟩:=ay h
 obtain⟨ko,y5,h⟩:=ay h
 obtain⟨aO,cq,h⟩:=ay h
 obtain⟨ns,y6,h⟩:=ay h
 obtain⟨nV,y7,h⟩:=ay h
 obtain⟨l7,Ft,h⟩:=ay h
 refine ag.p7 1 ?_
 refine iC [0,2,3,5] ?_
 refine ag.jV mixed (bb 6 [] [] _ :: bb 7 [] [] _ :: bb 8 (1 :: []) [] _ :: bb 9 (2 :: []) [] _ :: bb 10 [] [] _ :: bb 11 (4 :: []) [] _ :: bb 12 [] (0 :: []) _ :: bb 13 (6 :: []) [] _ :: bb 14 (7 :: []) [] _ :: bb 15 (5 :: 8 :: []) [] _ :: bb 16 [] [] _ :: bb 17 (10 :: []) [] _ :: bb 18 [] (0 :: []) _ :: bb 19 (12 :: []) [] _ :: bb 20 [] [] _ :: bb 21 (14 :: []) [] _ :: bb 22 (13 :: 15 :: []) [] _ :: bb 23 (11 :: 16 :: []) [] _ :: bb 24 [] [] _ :: bb 25 [] [] _ :: bb 26 (18 :: 19 :: []) [] _ :: bb 27 [] [] _ :: bb 28 [] (0 :: []) _ :: bb 29 (22 :: []) [] _ :: bb 30 [] [] _ :: bb 31 (24 :: []) [] _ :: bb 32 (21 :: 23 :: 25 :: []) [] _ :: bb 33 (20 :: 26 :: []) [] _ :: bb 34 [] [] _ :: ⟨some 35,(28 :: []),(1 :: []),(1 :: []),fun _=>I.of (ak.1),fun hd _=>⟨some b6,.var (ak.2:bk)⟩⟩ :: bb 36 (29 :: []) [] _ :: bb 37 (30 :: []) [] _ :: bb 38 [] [] _ :: ⟨some 39,(29 :: 32 :: []),(1 :: []),(1 :: []),fun _=>I.of (aO.1),fun hd _=>⟨some b6,.var (aO.2:bk)⟩⟩ :: bb 40 (33 :: []) [] _ :: bb 41 (34 :: []) [] _ :: bb 42 (35 :: []) [] _ :: bb 43 (36 :: []) [] _ :: bb 44 (31 :: 37 :: []) [] _ :: bb 45 (38 :: []) [] _ :: ⟨some 46,(0 :: 3 :: 9 :: 17 :: 27 :: 39 :: []),(2 :: []),(2 :: []),fun hd=>I.eq (aV (hd 40 0) [bg,dw,gy,g5,j4,l7].length 6),fun hd _=>⟨(hd 40 0),.row 148 ([bg,dw,gy,g5,j4,l7]:List dy) 6⟩⟩ :: ⟨some 4,(40 :: []),[],[],fun hd=>I.eq (aV (hd 40 0) [bg,dw,gy,g5,j4,l7].length 6),fun _ _=>⟨none,.dead⟩⟩ :: []) _ (0 :: 2 :: 3 :: 5 :: []) rfl rfl (by kernel_rfl) ⟨cw fun hd E' L' aE ao=>(cT (b:=({ (default:dy) with bG:=1,b7:=ByteArray.mk #[110,111,112] } :dy)) rfl sM oh (.cons qQ rfl (bD 1) rfl (.cons ue rfl (di (ByteArray.mk #[110,111,112])) rfl (.nil)))).as (aH dd),cw fun hd E' L' aE ao=>cT (b:=({ (default:eF) with hE:=6 } :eF)) rfl pZ mG (.cons pJ rfl (bD 6) rfl (.nil)),cw fun hd E' L' aE ao=>iR (r:= [({ (default:eF) with hE:=6 } :eF)]) Tryz.underlying146 yv mG rfl rfl (.cons (by simp) (ad (aE _ _ rfl)) (.nil)),cw fun hd E' L' aE ao=>(cT (b:=({ (default:dy) with bG:=2,b7:=ByteArray.mk #[100,114,111,112],nd:= [({ (default:eF) with hE:=6 } :eF)] } :dy)) rfl sM oh (.cons qQ rfl (bD 2) rfl (.cons ue rfl (di (ByteArray.mk #[100,114,111,112])) rfl (.cons wP rfl (ad (aE _ _ rfl)) rfl (.nil))))).as (aH ha),cw fun hd E' L' aE ao=>(cT (b:= { b7:=ByteArray.mk #[112,111,114,116],eP:=16:hQ }) rfl BJ rp (.cons AL rfl (di (ByteArray.mk #[112,111,114,116])) rfl (.cons wX rfl (bD 16) rfl (.nil)))).as (aH km),cw fun hd E' L' aE ao=>iR (r:= [ft]) Tryz.underlying145 vo rp rfl rfl (.cons (by simp) (ad (aE _ _ rfl)) (.nil)),k5 0 BI,cw fun hd E' L' aE ao=>(cT (b:=({ (default:eF) with hE:=7,jW:=({ (default:fq) with cH:=3 } :fq) } :eF)) rfl pZ mG (.cons pJ rfl (bD 7) rfl (.cons uo rfl (ad (aE _ _ rfl)) rfl (.nil)))).as (aH l4),cw fun hd E' L' aE ao=>iR (r:= [hz]) Tryz.underlying146 yv mG rfl rfl (.cons (by simp) (ad (aE _ _ rfl)) (.nil)),cw fun hd E' L' aE ao=>(cT (b:=({ (default:dy) with bG:=3,b7:=ByteArray.mk #[102,111,114,119,97,114,100],jt:= [ft],nd:= [hz] } :dy)) rfl sM oh (.cons qQ rfl (bD 3) rfl (.cons ue rfl (di (ByteArray.mk #[102,111,114,119,97,114,100])) rfl (.cons Ay rfl (ad (aE _ _ rfl)) rfl (.cons wP rfl (ad (aE _ _ rfl)) rfl (.nil)))))).as (aH l5),cw fun hd E' L' aE ao=>cT (b:= { b7:=ByteArray.mk #[120],eP:=4:hQ }) rfl BJ rp (.cons AL rfl (di (ByteArray.mk #[120])) rfl (.cons wX rfl (bD 4) rfl (.nil))),cw fun hd E' L' aE ao=>iR (r:= [{ b7:=ByteArray.mk #[120],eP:=4:hQ }]) Tryz.underlying145 vo rp rfl rfl (.cons (by simp) (ad (aE _ _ rfl)) (.nil)),k5 0 BI,cw fun hd E' L' aE ao=>(cT (b:= { hE:=1,iS:=5,jW:=({ (default:fq) with cH:=3 } :fq):eF }) rfl pZ mG (.cons pJ rfl (bD 1) rfl (.cons sd rfl (bD 5) rfl (.cons uo rfl (ad (aE _ _ rfl)) rfl (.nil))))).as (aH oy),cw fun hd E' L' aE ao=>(cT (b:=({ (default:fq) with cH:=2,tp:=5 } :fq)) rfl BH yu (.cons AA rfl (bD 2) rfl (.cons HA rfl (bD 5) rfl (.nil)))).as (aH oz),cw fun hd E' L' aE ao=>cT (b:= { hE:=2,iS:=3,jW:=iu:eF }) rfl pZ mG (.cons pJ rfl (bD 2) rfl (.cons sd rfl (bD 3) rfl (.cons uo rfl (ad (aE _ _ rfl)) rfl (.nil)))),cw fun hd E' L' aE ao=>iR (r:= [ir,{ hE:=2,iS:=3,jW:=iu:eF }]) Tryz.underlying146 yv mG rfl rfl (.cons (by simp) (ad (aE _ _ rfl)) (.cons (by simp) (ad (aE _ _ rfl)) (.nil))),cw fun hd E' L' aE ao=>(cT (b:=({ (default:dy) with bG:=4,b7:=ByteArray.mk #[116,97,103],jt:= [{ b7:=ByteArray.mk #[120],eP:=4:hQ }],nd:= [ir,{ hE:=2,iS:=3,jW:=iu:eF }] } :dy)) rfl sM oh (.cons qQ rfl (bD 4) rfl (.cons ue rfl (di (ByteArray.mk #[116,97,103])) rfl (.cons Ay rfl (ad (aE _ _ rfl)) rfl (.cons wP rfl (ad (aE _ _ rfl)) rfl (.nil)))))).as (aH qj),cw fun hd E' L' aE ao=>cT (b:= { b7:=ByteArray.mk #[120],eP:=4:hQ }) rfl BJ rp (.cons AL rfl (di (ByteArray.mk #[120])) rfl (.cons wX rfl (bD 4) rfl (.nil))),cw fun hd E' L' aE ao=>cT (b:= { b7:=ByteArray.mk #[121],eP:=12:hQ }) rfl BJ rp (.cons AL rfl (di (ByteArray.mk #[121])) rfl (.cons wX rfl (bD 12) rfl (.nil))),cw fun hd E' L' aE ao=>(iR (r:= [{ b7:=ByteArray.mk #[120],eP:=4:hQ },{ b7:=ByteArray.mk #[121],eP:=12:hQ }]) Tryz.underlying145 vo rp rfl rfl (.cons (by simp) (ad (aE _ _ rfl)) (.cons (by simp) (ad (aE _ _ rfl)) (.nil)))).as (aH tn),cw fun hd E' L' aE ao=>cT (b:=({ (default:eF) with hE:=4,iS:=3 } :eF)) rfl pZ mG (.cons pJ rfl (bD 4) rfl (.cons sd rfl (bD 3) rfl (.nil))),k5 0 BI,cw fun hd E' L' aE ao=>(cT (b:= { hE:=1,iS:=9,jW:=({ (default:fq) with cH:=3 } :fq):eF }) rfl pZ mG (.cons pJ rfl (bD 1) rfl (.cons sd rfl (bD 9) rfl (.cons uo rfl (ad (aE _ _ rfl)) rfl (.nil))))).as (aH s3),cw fun hd E' L' aE ao=>(cT (b:=({ (default:fq) with cH:=3,tp:=1 } :fq)) rfl BH yu (.cons AA rfl (bD 3) rfl (.cons HA rfl (bD 1) rfl (.nil)))).as (aH s4),cw fun hd E' L' aE ao=>cT (b:= { hE:=3,iS:=8,jW:=j3:eF }) rfl pZ mG (.cons pJ rfl (bD 3) rfl (.cons sd rfl (bD 8) rfl (.cons uo rfl (ad (aE _ _ rfl)) rfl (.nil)))),cw fun hd E' L' aE ao=>(iR (r:= [({ (default:eF) with hE:=4,iS:=3 } :eF),kn,{ hE:=3,iS:=8,jW:=j3:eF }]) Tryz.underlying146 yv mG rfl rfl (.cons (by simp) (ad (aE _ _ rfl)) (.cons (by simp) (ad (aE _ _ rfl)) (.cons (by simp) (ad (aE _ _ rfl)) (.nil))))).as (aH s5),cw fun hd E' L' aE ao=>(cT (b:=({ (default:dy) with bG:=5,b7:=ByteArray.mk #[119,114,97,112],jt:=kO,nd:=k6 } :dy)) rfl sM oh (.cons qQ rfl (bD 5) rfl (.cons ue rfl (di (ByteArray.mk #[119,114,97,112])) rfl (.cons Ay rfl (ad (aE _ _ rfl)) rfl (.cons wP rfl (ad (aE _ _ rfl)) rfl (.nil)))))).as (aH y4),fJ,?_,z6 c8,cw fun hd E' L' aE ao=>(cT (b:=({ (default:eF) with hE:=5,iS:=bw (2 + ak.1) } :eF)) rfl pZ mG (.cons pJ rfl (bD 5) rfl (.cons sd rfl (ad (aE _ _ rfl)) rfl (.nil)))).as (aH y5),fJ,?_,e1 (h1 Tryz.underlying3 Tryz.underlying41),cw fun hd E' L' aE ao=>(cT (b:=({ (default:al) with bS:=BitVec.ofInt 64 aO.1 } :al)) rfl hl et (.cons ec rfl (ad (aE _ _ rfl)) rfl (.nil))).as (aH y6),cw fun hd E' L' aE ao=>(cT (b:=({ (default:fq) with cH:=1,cL:=ns } :fq)) rfl BH yu (.cons AA rfl (bD 1) rfl (.cons NB rfl (ad (aE _ _ rfl)) rfl (.nil)))).as (aH y7),cw fun hd E' L' aE ao=>cT (b:= { hE:=2,iS:=6,jW:=nV:eF }) rfl pZ mG (.cons pJ rfl (bD 2) rfl (.cons sd rfl (bD 6) rfl (.cons uo rfl (ad (aE _ _ rfl)) rfl (.nil)))),cw fun hd E' L' aE ao=>iR (r:= [ko,{ hE:=2,iS:=6,jW:=nV:eF }]) Tryz.underlying146 yv mG rfl rfl (.cons (by simp) (ad (aE _ _ rfl)) (.cons (by simp) (ad (aE _ _ rfl)) (.nil))),cw fun hd E' L' aE ao=>(cT (b:=({ (default:dy) with bG:=6,b7:=ByteArray.mk #[115,116,114,105,112],nd:= [ko,{ hE:=2,iS:=6,jW:=nV:eF }] } :dy)) rfl sM oh (.cons qQ rfl (bD 6) rfl (.cons ue rfl (di (ByteArray.mk #[115,116,114,105,112])) rfl (.cons wP rfl (ad (aE _ _ rfl)) rfl (.nil))))).as (aH Ft),?_,?_,trivial⟩ fun fl=> ?_
 ·intro hd E' L' aE ao
  refine ai.bI 1 (ao 1 _ rfl rfl) ?_
  refine ai.kZ (Lin:= [⟨some b6,.var (J:bk)⟩]) (Lr:=L'.eraseIdx 1) fP (fL bt) ⟨ad (aE _ _ rfl),bD 2,trivial⟩ rfl fun az=> ?_
  refine ai.nil ?_
  refine ab.back 1 (ao 1 _ rfl rfl) ?_
  exact ab.fin (eh []) rfl rfl
 ·intro hd E' L' aE ao
  refine ai.bI 1 (ao 1 _ rfl rfl) ?_
  refine ai.kZ (Lin:= [⟨some b6,.var (ak.2:bk)⟩]) (Lr:=L'.eraseIdx 1) fP (fL cq) ⟨ad (aE _ _ rfl),bD 256,trivial⟩ rfl fun c6=> ?_
  refine ai.nil ?_
  refine ab.back 1 (ao 1 _ rfl rfl) ?_
  exact ab.fin (eh []) rfl rfl
 ·intro hd E' L' aE ao
  refine ai.pf (α:=dy) (r:= [bg,dw,gy,g5,j4,l7]) Tryz.underlying27 mF oh rfl rfl (.cons (by simp) (ad (aE _ _ rfl)) (.cons (by simp) (ad (aE _ _ rfl)) (.cons (by simp) (ad (aE _ _ rfl)) (.cons (by simp) (ad (aE _ _ rfl)) (.cons (by simp) (ad (aE _ _ rfl)) (.cons (by simp) (ad (aE _ _ rfl)) (.nil))))))) rfl fun gR=> ?_
  refine ai.nil ?_
  refine ab.place 2 (ao 2 _ rfl rfl) ?_
  exact ab.fin (eh [gR]) rfl rfl
 ·intro hd E' L' aE ao
  refine bj (eW (ad (aE _ _ rfl))) ?_
  refine ai.nil ?_
  exact ab.fin (eh []) rfl rfl
 refine ab.en (L2:= [⟨some aR,.var (({ (default:fq) with cH:=3 } :fq):fq)⟩,⟨some b6,.var (aO.2:bk)⟩,⟨(fl 40 0),.row 148 ([bg,dw,gy,g5,j4,l7]:List dy) 6⟩]) rfl ?_
 refine jF [0,2,3,4,5,6,7,8,9,10,11,12,13,14,15,16,17,18,19,20,21,22,23,24,25,26,27,28,29,30,31,32,33,34,35,36,37,38,39,40,41,42,43,44,45,46] ?_
 refine ab.bI 2 rfl ?_
 refine ab.next ?_
 refine ag.seq ?_
 refine aA ?_
 refine aB ?_
 refine ai.bI 2 rfl ?_
 obtain⟨bc,fb,h⟩:=ay h
 refine eE 1 mO (mo fb) fun e6=> ?_
 refine aI ?_
 obtain⟨bB,cz,h⟩:=ay h
 refine h5 (γ:=(Option Nat × Nat)) [0,2,3,48] (fun aw=> [(4,I.eq (aV aw.1 bB.length aw.2))]) (fun aw=> [(1,⟨aw.1,.row 148 (bB:List dy) aw.2⟩)]) (fun aw=> ?_) (fun hm ar=> ?_) fun hm ar=> ?_
 ·clear cz
  refine ab.next ?_
  refine ag.seq ?_
  refine aA ?_
  refine aB ?_
  refine ai.bI 0 rfl ?_
  obtain⟨br,fY,h⟩:=ay h
  refine eE 1 mO (mo fY) fun h9=> ?_
  refine aI ?_
  obtain⟨cu,du,h⟩:=ay h
  refine h5 (γ:=(Option Nat × Nat)) [0,2,3,48,53] (fun a5=> [(4,I.eq (aV a5.1 cu.length a5.2))]) (fun a5=> [(1,⟨a5.1,.row 148 (cu:List dy) a5.2⟩)]) (fun a5=> ?_) (fun hm ar=> ?_) fun hm ar=> ?_
  ·clear du
   refine ab.next ?_
   refine aA ?_
   refine aB ?_
   refine aM ?_
   refine aI ?_
   refine ag.ret ?_
   refine ab.my (α:=dy) 1 [2,4,57] ⟨rfl,rfl,rfl,trivial⟩ rfl ?_
   refine ab.bI 0 rfl ?_
   obtain rfl:=aH h
   exact mS ()
  ·have h:=gI ar du
   refine ag.cj ?_
   refine aB ?_
   obtain⟨aW,cc,h⟩:=ay h
   refine bj (rq (i:=1) (k:=aW) (xs:=(bB:List dy)) Tryz.underlying27 mF (ad rfl) (bD 4) rfl (cK cc)) ?_
   refine aT (aQ JF) ?_
   obtain⟨qk,y8,h⟩:=ay h
   refine ai.x4 (i:=1) (k:=aW) ((aK.id dy).comp Hl) (v:=(ByteArray.mk #[120,32,60,32,121,32,124,124,32,120,32,61,61,32,49,53]:ByteArray)) (r:=(qk:List dy)) oA (ad rfl) (di (ByteArray.mk #[120,32,60,32,121,32,124,124,32,120,32,61,61,32,49,53])) rfl (cK cc).1 rfl (aH y8) ?_
   refine ai.nO (m:=qk.length) 4 rfl (n8 (aH y8)) ?_
   refine ai.nO (m:=qk.length) 54 rfl (n8 (aH y8)) ?_
   refine ai.nil ?_
   obtain rfl:=aH h
   exact df 0 (hm (aw.1,aw.2))
  ·have h:=gJ ar du
   refine ag.skip ?_
   obtain rfl:=aH h
   exact df 0 (hm (aw.1,aw.2))
 ·have h:=gI ar cz
  refine ag.cj ?_
  refine aB ?_
  obtain⟨bR,cN,h⟩:=ay h
  refine bj (rq (i:=1) (k:=bR) (xs:=([bg,dw,gy,g5,j4,l7]:List dy)) Tryz.underlying27 mF (ad rfl) (bD 2) rfl (cK cN)) ?_
  refine aT (aQ JF) ?_
  obtain⟨pq,vE,h⟩:=ay h
  refine ai.x4 (i:=1) (k:=bR) ((aK.id dy).comp Hl) (v:=(ByteArray.mk #[112,111,114,116,32,33,61,32,48]:ByteArray)) (r:=(pq:List dy)) oA (ad rfl) (di (ByteArray.mk #[112,111,114,116,32,33,61,32,48])) rfl (cK cN).1 rfl (aH vE) ?_
  refine ai.nO (m:=pq.length) 4 rfl (n8 (aH vE)) ?_
  refine ai.nO (m:=pq.length) 46 rfl (n8 (aH vE)) ?_
  refine ai.nO (m:=pq.length) 49 rfl (n8 (aH vE)) ?_
  refine ai.nil ?_
  obtain rfl:=aH h
  exact df 0 (hm ((fl 40 0),6))
 ·have h:=gJ ar cz
  refine ag.skip ?_
  obtain rfl:=aH h
  exact df 0 (hm ((fl 40 0),6))
end Go.Proofs.YtmnggbjcnoffeaaGreat
namespace Go.Proofs.YtmnggbjcnoffeaaGreat
open Go Gv
set_option linter.unusedVariables false
set_option linter.unusedSimpArgs false
set_option maxRecDepth 100000
set_option maxHeartbeats 2000000
theorem NP {J:bk} {b6:Nat} {r:(List bN) × bk} (h:wQ J=some r):cf Tryz.prog 70 [I.eq (.pointer (some ⟨b6,0,none⟩))] [⟨some b6,.var (J:bk)⟩] (δ:=Unit) (fun d=>I.of (r.1)) (fun d=> [⟨some b6,.var (r.2:bk)⟩]):=by
 unfold wQ at h
 refine cf.of Tryz.func70 rfl Tryz.ntmps70 rfl fun W A=> ?_
 refine aA ?_
 refine bj (eW (look_nil (α:=bN))) ?_
 refine b2 ?_
 obtain⟨bg,dd,h⟩:=ay h
 refine dp dd (cT (b:= { b7:=ByteArray.mk #[97],gb:=4,cH:=1:cB }) rfl p8 iz (.cons pI rfl (di (ByteArray.mk #[97])) rfl (.cons m3 rfl (bD 4) rfl (.cons kP rfl (bD 1) rfl (.nil))))) ?_
 refine gx [bg] Tryz.underlying62 g8 iz ?_
 refine gx ([1,2,4]:List Int) Tryz.underlying63 bo g4 ?_
 refine aB ?_
 refine ai.bI 0 rfl ?_
 obtain⟨ak,bt,h⟩:=ay h
 refine eE 1 fP (fL bt) fun az=> ?_
 refine bd c8 ?_
 refine aB ?_
 refine ai.bI 0 rfl ?_
 obtain⟨aO,cq,h⟩:=ay h
 refine eE 1 fP (fL cq) fun c6=> ?_
 refine bd c8 ?_
 obtain⟨dw,ha,h⟩:=ay h
 refine dp ha (cT (b:=({ (default:bN) with bG:=1,b7:=ByteArray.mk #[112,111,114,116,115],bX:= [bg],c4:=([1,2,4]:List Int),gH:=bw (1 + ak.1),kV:=bw (2 + aO.1) } :bN)) rfl y3 kJ (.cons n4 rfl (bD 1) rfl (.cons AM rfl (di (ByteArray.mk #[112,111,114,116,115])) rfl (.cons iK rfl (ad rfl) rfl (.cons uc rfl (ad rfl) rfl (.cons Az rfl (ad rfl) rfl (.cons AN rfl (ad rfl) rfl (.nil)))))))) ?_
 refine cM kJ fun aR=> ?_
 refine ck 0 fG ?_
 refine b2 ?_
 obtain⟨ft,km,h⟩:=ay h
 refine dp km (cT (b:= { b7:=ByteArray.mk #[100],gb:=7,cH:=2:cB }) rfl p8 iz (.cons pI rfl (di (ByteArray.mk #[100])) rfl (.cons m3 rfl (bD 7) rfl (.cons kP rfl (bD 2) rfl (.nil))))) ?_
 refine ai.pf (α:=cB) (r:= [ft]) Tryz.underlying62 g8 iz rfl rfl (.cons (by simp) (ad rfl) (.nil)) rfl fun gR=> ?_
 refine gx ([1,2,3,4]:List Int) Tryz.underlying63 bo g4 ?_
 refine aB ?_
 refine ai.bI 2 rfl ?_
 obtain⟨bc,fb,h⟩:=ay h
 refine eE 1 fP (fL fb) fun e6=> ?_
 refine bd c8 ?_
 refine bj (oZ (b:=({ (default:bN) with bG:=2,b7:=ByteArray.mk #[114,111,117,116,101,115],c4:=([1,2,3,4]:List Int),gH:=2,kV:=bw (3 + bc.1) } :bN)) [] EB rfl y3 kJ (.cons n4 rfl (bD 2) rfl (by rfl) (.cons AM rfl (di (ByteArray.mk #[114,111,117,116,101,115])) rfl (by rfl) (.hole iK rfl (ad rfl) ic rfl rfl (.cons uc rfl (ad rfl) rfl (by rfl) (.cons Az rfl (bD 2) rfl (by rfl) (.cons AN rfl (ad rfl) rfl (by rfl) (.nil)))))))) ?_
 refine ai.o3 (z:=(default:bN)) [2] EC kJ rfl fun a0=> ?_
 refine ai.own (α:=cB) 86 ?_
 refine ai.pS (i:=1) fG (ad rfl) (ad rfl) rfl ?_
 refine bK ?_
 refine aA ?_
 refine aB ?_
 refine ai.bI 2 rfl ?_
 obtain⟨br,fY,h⟩:=ay h
 refine eE 1 mO (mo fY) fun h9=> ?_
 refine aI ?_
 obtain⟨bB,cz,h⟩:=ay h
 refine h5 (γ:=(Option Nat × Nat)) [0,2,3,4,28] (fun aw=> []) (fun aw=> [(2,⟨some a0,.cg (bB.1:bN) [(2,aV aw.1 bB.2.length aw.2)]⟩),(3,⟨aw.1,.row 86 (bB.2:List cB) aw.2⟩)]) (fun aw=> ?_) (fun hm ar=> ?_) fun hm ar=> ?_
 ·clear cz
  refine ab.next ?_
  refine aA ?_
  obtain⟨hz,l4,h⟩:=ay h
  refine dp l4 (cT (b:= { b7:=ByteArray.mk #[101],gb:=6,cH:=3:cB }) rfl p8 iz (.cons pI rfl (di (ByteArray.mk #[101])) rfl (.cons m3 rfl (bD 6) rfl (.cons kP rfl (bD 3) rfl (.nil))))) ?_
  obtain⟨gy,l5,h⟩:=ay h
  refine dp l5 (cT (b:= { b7:=ByteArray.mk #[97],gb:=4,cH:=3:cB }) rfl p8 iz (.cons pI rfl (di (ByteArray.mk #[97])) rfl (.cons m3 rfl (bD 4) rfl (.cons kP rfl (bD 3) rfl (.nil))))) ?_
  refine ai.pf (α:=cB) (r:= [hz,gy]) Tryz.underlying62 g8 iz rfl rfl (.cons (by simp) (ad rfl) (.cons (by simp) (ad rfl) (.nil))) rfl fun kH=> ?_
  refine gx ([1,2,3,5,6]:List Int) Tryz.underlying63 bo g4 ?_
  refine aB ?_
  refine ai.bI 1 rfl ?_
  obtain⟨cx,ih,h⟩:=ay h
  refine eE 1 fP (fL ih) fun fZ=> ?_
  refine bd c8 ?_
  refine bj (oZ (b:=({ (default:bN) with bG:=3,b7:=ByteArray.mk #[97,99,108],c4:=([1,2,3,5,6]:List Int),gH:=1,kV:=bw (4 + cx.1) } :bN)) [] EB rfl y3 kJ (.cons n4 rfl (bD 3) rfl (by rfl) (.cons AM rfl (di (ByteArray.mk #[97,99,108])) rfl (by rfl) (.hole iK rfl (ad rfl) ic rfl rfl (.cons uc rfl (ad rfl) rfl (by rfl) (.cons Az rfl (bD 1) rfl (by rfl) (.cons AN rfl (ad rfl) rfl (by rfl) (.nil)))))))) ?_
  refine ai.o3 (z:=(default:bN)) [2] EC kJ rfl fun bF=> ?_
  refine ai.own (α:=cB) 86 ?_
  refine ai.pS (i:=1) fG (ad rfl) (ad rfl) rfl ?_
  refine bK ?_
  refine aA ?_
  refine aB ?_
  refine ai.bI 2 rfl ?_
  obtain⟨dr,jG,h⟩:=ay h
  refine eE 1 mO (mo jG) fun gX=> ?_
  refine aI ?_
  obtain⟨cu,du,h⟩:=ay h
  refine h5 (γ:=(Option Nat × Nat)) [0,2,3,4,5,28,44] (fun a5=> []) (fun a5=> [(2,⟨some bF,.cg (cu.1:bN) [(2,aV a5.1 cu.2.length a5.2)]⟩),(3,⟨a5.1,.row 86 (cu.2:List cB) a5.2⟩)]) (fun a5=> ?_) (fun hm ar=> ?_) fun hm ar=> ?_
  ·clear du
   refine ab.next ?_
   refine aA ?_
   obtain⟨ir,oy,h⟩:=ay h
   refine dp oy (cT (b:= { b7:=ByteArray.mk #[102],gb:=8,cH:=4:cB }) rfl p8 iz (.cons pI rfl (di (ByteArray.mk #[102])) rfl (.cons m3 rfl (bD 8) rfl (.cons kP rfl (bD 4) rfl (.nil))))) ?_
   refine ai.pf (α:=cB) (r:= [ir]) Tryz.underlying62 g8 iz rfl rfl (.cons (by simp) (ad rfl) (.nil)) rfl fun ly=> ?_
   refine gx ([1,3,5]:List Int) Tryz.underlying63 bo g4 ?_
   refine bj (cT (b:=({ (default:al) with bS:=7#64 } :al)) rfl hl et (.cons ec rfl (fi 7 rfl) rfl (.nil))) ?_
   refine gx [({ (default:al) with bS:=7#64 } :al)] Tryz.underlying48 bV et ?_
   refine aB ?_
   refine ai.bI 1 rfl ?_
   obtain⟨dC,l6,h⟩:=ay h
   refine eE 1 fP (fL l6) fun wh=> ?_
   refine bd c8 ?_
   refine bj (oZ (b:=({ (default:bN) with bG:=4,b7:=ByteArray.mk #[115,112,97,110,115],c4:=([1,3,5]:List Int),gH:=3,sg:= [({ (default:al) with bS:=7#64 } :al)],kV:=bw (3 + dC.1) } :bN)) [] EB rfl y3 kJ (.cons n4 rfl (bD 4) rfl (by rfl) (.cons AM rfl (di (ByteArray.mk #[115,112,97,110,115])) rfl (by rfl) (.hole iK rfl (ad rfl) ic rfl rfl (.cons uc rfl (ad rfl) rfl (by rfl) (.cons Az rfl (bD 3) rfl (by rfl) (.cons Nq rfl (ad rfl) rfl (by rfl) (.cons AN rfl (ad rfl) rfl (by rfl) (.nil))))))))) ?_
   refine ai.o3 (z:=(default:bN)) [2] EC kJ rfl fun cA=> ?_
   refine ai.own (α:=cB) 86 ?_
   refine ai.pS (i:=1) fG (ad rfl) (ad rfl) rfl ?_
   refine bK ?_
   refine aA ?_
   refine aB ?_
   refine ai.bI 2 rfl ?_
   obtain⟨e7,nr,h⟩:=ay h
   refine eE 1 mO (mo nr) fun jo=> ?_
   refine aI ?_
   obtain⟨eL,fX,h⟩:=ay h
   refine h5 (γ:=(Option Nat × Nat)) [0,2,3,4,5,6,28,44,61] (fun bA=> []) (fun bA=> [(2,⟨some cA,.cg (eL.1:bN) [(2,aV bA.1 eL.2.length bA.2)]⟩),(3,⟨bA.1,.row 86 (eL.2:List cB) bA.2⟩)]) (fun bA=> ?_) (fun hm ar=> ?_) fun hm ar=> ?_
   ·clear fX
    refine ab.next ?_
    refine aA ?_
    refine cm 10 fG ?_
    refine ai.iA (β:=bN) (γ:=cB) (b':=(({ bB.1 with bX:=bB.2 } :bN):bN)) ((aK.id bN).comp iK) 8 9 0 rfl rfl rfl rfl rfl rfl ?_
    refine ai.nM 8 rfl ?_
    refine cm 8 fG ?_
    refine ai.iA (β:=bN) (γ:=cB) (b':=(({ cu.1 with bX:=cu.2 } :bN):bN)) ((aK.id bN).comp iK) 5 6 0 rfl rfl rfl rfl rfl rfl ?_
    refine ai.nM 5 rfl ?_
    refine cm 5 fG ?_
    refine ai.iA (β:=bN) (γ:=cB) (b':=(({ eL.1 with bX:=eL.2 } :bN):bN)) ((aK.id bN).comp iK) 2 3 0 rfl rfl rfl rfl rfl rfl ?_
    refine ai.nM 2 rfl ?_
    refine cm 2 fG ?_
    obtain⟨iu,oz,h⟩:=ay h
    refine ai.LN (α:=bN) (r0:= [dw,({ bB.1 with bX:=bB.2 } :bN),({ cu.1 with bX:=cu.2 } :bN),({ eL.1 with bX:=eL.2 } :bN)]) (r:=iu) Tryz.underlying28 fG kJ rfl rfl (.cons (by simp) (ad rfl) (.cons (by simp) (ad rfl) (.cons (by simp) (ad rfl) (.cons (by simp) (ad rfl) (.nil))))) (aH oz) rfl fun ot=> ?_
    refine aM ?_
    refine b2 ?_
    obtain⟨g5,qj,h⟩:=ay h
    refine dp qj (iR (r:= [ByteArray.mk #[],ByteArray.mk #[97,32,33,61,32,48],ByteArray.mk #[97,32,60,32,49,52,32,38,38,32,97,32,33,61,32,51]]) Tryz.underlying200 oA Cm rfl rfl (.cons (by simp) (di (ByteArray.mk #[])) (.cons (by simp) (di (ByteArray.mk #[97,32,33,61,32,48])) (.cons (by simp) (di (ByteArray.mk #[97,32,60,32,49,52,32,38,38,32,97,32,33,61,32,51])) (.nil))))) ?_
    obtain⟨kO,tn,h⟩:=ay h
    refine dp tn (iR (r:= [ByteArray.mk #[],ByteArray.mk #[100,58,58,112,114,101,102,105,120,95,108,101,110,103,116,104,32,62,61,32,56],ByteArray.mk #[100,58,58,112,114,101,102,105,120,95,108,101,110,103,116,104,32,61,61,32,51,50,32,45,62,32,100,58,58,118,97,108,117,101,32,62,32,48,120,102,102]]) Tryz.underlying200 oA Cm rfl rfl (.cons (by simp) (di (ByteArray.mk #[])) (.cons (by simp) (di (ByteArray.mk #[100,58,58,112,114,101,102,105,120,95,108,101,110,103,116,104,32,62,61,32,56])) (.cons (by simp) (di (ByteArray.mk #[100,58,58,112,114,101,102,105,120,95,108,101,110,103,116,104,32,61,61,32,51,50,32,45,62,32,100,58,58,118,97,108,117,101,32,62,32,48,120,102,102])) (.nil))))) ?_
    obtain⟨kn,s3,h⟩:=ay h
    refine dp s3 (iR (r:= [ByteArray.mk #[],ByteArray.mk #[112,114,105,111,114,105,116,121,32,60,32,49,48,48,32,38,38,32,40,101,58,58,109,97,115,107,32,33,61,32,48,32,124,124,32,97,58,58,109,97,115,107,32,33,61,32,48,41],ByteArray.mk #[101,58,58,109,97,115,107,32,61,61,32,48,32,45,62,32,112,114,105,111,114,105,116,121,32,62,32,53]]) Tryz.underlying200 oA Cm rfl rfl (.cons (by simp) (di (ByteArray.mk #[])) (.cons (by simp) (di (ByteArray.mk #[112,114,105,111,114,105,116,121,32,60,32,49,48,48,32,38,38,32,40,101,58,58,109,97,115,107,32,33,61,32,48,32,124,124,32,97,58,58,109,97,115,107,32,33,61,32,48,41])) (.cons (by simp) (di (ByteArray.mk #[101,58,58,109,97,115,107,32,61,61,32,48,32,45,62,32,112,114,105,111,114,105,116,121,32,62,32,53])) (.nil))))) ?_
    obtain⟨j3,s4,h⟩:=ay h
    refine dp s4 (iR (r:= [ByteArray.mk #[],ByteArray.mk #[102,58,58,104,105,103,104,32,45,32,102,58,58,108,111,119,32,60,61,32,48,120,49,48,48],ByteArray.mk #[33,40,102,58,58,108,111,119,32,61,61,32,48,32,38,38,32,102,58,58,104,105,103,104,32,62,32,49,48,48,48,41]]) Tryz.underlying200 oA Cm rfl rfl (.cons (by simp) (di (ByteArray.mk #[])) (.cons (by simp) (di (ByteArray.mk #[102,58,58,104,105,103,104,32,45,32,102,58,58,108,111,119,32,60,61,32,48,120,49,48,48])) (.cons (by simp) (di (ByteArray.mk #[33,40,102,58,58,108,111,119,32,61,61,32,48,32,38,38,32,102,58,58,104,105,103,104,32,62,32,49,48,48,48,41])) (.nil))))) ?_
    refine gx [g5,kO,kn,j3] Tryz.underlying201 E0 SD ?_
    refine aM ?_
    refine bK ?_
    refine aA ?_
    refine aB ?_
    refine bj (sH (i:=0) Tryz.underlying28 (ad rfl) rfl rfl) ?_
    refine aB ?_
    refine aI ?_
    refine ag.block ?_
    obtain⟨av,an,h⟩:=ay h
    refine gj (γ:=(Option Nat × Nat)) (δ:=(Option Nat × Nat)) an [0,2,3,4,5,6,8,28,44,61,80] (fun s1 cD=> [(7,I.eq (aV cD.1 s1.2.1.length cD.2)),(81,I.of (s1.1))]) (fun s1 cD=> [(0,⟨cD.1,.row 65 (s1.2.1:List bN) cD.2⟩),(1,⟨some b6,.var (s1.2.2:bk)⟩)]) (fun oO=>Exit.exit 0) (fun oO cD=> [(7,I.eq (aV cD.1 oO.2.2.1.length cD.2)),(81,I.of (oO.1)),(82,I.of (oO.2.1))]) (fun oO cD=> [(0,⟨cD.1,.row 65 (oO.2.2.1:List bN) cD.2⟩),(1,⟨some b6,.var (oO.2.2.2:bk)⟩)]) (ot,4) (fun s1 r h cD=> ?_) fun cD=> ?_
    ·clear an
     refine aA ?_
     refine bd dJ ?_
     refine bK ?_
     refine b4 h (fun h=>?_) fun h=>?_
     ·refine cP ?_
      refine ag.seq ?_
      refine ag.block ?_
      refine aA ?_
      refine aB ?_
      refine aM ?_
      refine aI ?_
      obtain⟨aW,cc,h⟩:=ay h
      obtain⟨fT,oB,h⟩:=ay h
      obtain⟨bR,cN,h⟩:=ay h
      obtain⟨dj,gp,h⟩:=ay h
      obtain⟨k6,s5,h⟩:=ay h
      refine iC [0,2,3,4,5,6,7,8,9,28,44,61,80,81,82,83] ?_
      refine ag.jV mixed (bb 84 [] [] _ :: bb 85 [] [] _ :: bb 86 [] [] _ :: bb 87 [] [] _ :: bb 88 (2 :: 3 :: []) [] _ :: bb 89 (4 :: []) [] _ :: bb 90 [] [] _ :: ⟨some 91,(6 :: []),(1 :: []),(1 :: []),fun _=>I.of (fT.1),fun hd _=>⟨some b6,.var (fT.2:bk)⟩⟩ :: bb 92 (5 :: 7 :: []) [] _ :: bb 93 (8 :: []) [] _ :: bb 94 (0 :: 1 :: []) (0 :: []) _ :: bb 95 (10 :: []) [] _ :: ⟨none,(9 :: 10 :: 11 :: []),(0 :: []),(0 :: []),fun _=>I.any,fun hd _=>⟨cD.1,.row 65 (k6:List bN) cD.2⟩⟩ :: []) _ (0 :: 2 :: 3 :: 4 :: 5 :: 6 :: 7 :: 8 :: 9 :: 28 :: 44 :: 61 :: 80 :: 81 :: 82 :: 83 :: []) rfl rfl (by kernel_rfl) ⟨fJ,fJ,fJ,fJ,cw fun hd E' L' aE ao=>o7 (k:=aW) Tryz.underlying201 E0 (ad (aE _ _ rfl)) (ad (aE _ _ rfl)) (cK cc),e1 (c7 E0),fJ,?_,cw fun hd E' L' aE ao=>o7 (k:=bR) Tryz.underlying200 oA (ad (aE _ _ rfl)) (ad (aE _ _ rfl)) (cK cN),e1 (c7 oA),cw fun hd E' L' aE ao=>rq (i:=0) (k:=dj) (xs:=(s1.2.1:List bN)) Tryz.underlying28 fG (ad (aE _ _ rfl)) (ad (aE _ _ rfl)) (ao 0 _ rfl rfl) (cK gp),e1 (aQ RI),?_,trivial⟩ fun fl=> ?_
      ·intro hd E' L' aE ao
       refine ai.bI 1 (ao 1 _ rfl rfl) ?_
       refine ai.kZ (Lin:= [⟨some b6,.var (s1.2.2:bk)⟩]) (Lr:=L'.eraseIdx 1) fP (fL oB) ⟨ad (aE _ _ rfl),bD 3,trivial⟩ rfl fun FR=> ?_
       refine ai.nil ?_
       refine ab.back 1 (ao 1 _ rfl rfl) ?_
       exact ab.fin (eh []) rfl rfl
      ·intro hd E' L' aE ao
       refine ai.x4 (i:=0) (k:=dj) ((aK.id bN).comp Nr) (v:=(aF (aF [g5,kO,kn,j3] aW) bR:ByteArray)) (r:=(k6:List bN)) oA (ad (aE _ _ rfl)) (ad (aE _ _ rfl)) (ao 0 _ rfl rfl) (cK gp).1 rfl (aH s5) ?_
       refine ai.nil ?_
       exact ab.fin (eh []) rfl rfl
      refine ab.en (L2:= [⟨cD.1,.row 65 (k6:List bN) cD.2⟩,⟨some b6,.var (fT.2:bk)⟩,⟨none,.row 86 (([]:List cB):List cB) 0⟩,⟨some cA,.var (({ eL.1 with bX:=eL.2 } :bN):bN)⟩,⟨none,.dead⟩,⟨none,.row 86 (([]:List cB):List cB) 0⟩,⟨some bF,.var (({ cu.1 with bX:=cu.2 } :bN):bN)⟩,⟨none,.dead⟩,⟨none,.row 86 (([]:List cB):List cB) 0⟩,⟨some a0,.var (({ bB.1 with bX:=bB.2 } :bN):bN)⟩,⟨none,.dead⟩,⟨some aR,.var (dw:bN)⟩]) rfl ?_
      refine ab.nO (m:=k6.length) 7 rfl (n8 (aH s5)) ?_
      refine ab.nO (m:=k6.length) 84 rfl (n8 (aH s5)) ?_
      refine jF [0,2,3,4,5,6,7,8,9,28,44,61,80,81,82,83,84,85,86,87,88,89,90,91,92,93,94,95] ?_
      refine ab.dz ?_
      refine ab.next ?_
      refine ag.cj ?_
      refine bd c8 ?_
      refine aB ?_
      refine ai.nil ?_
      obtain rfl:=aH h
      exact fe (cD.1,cD.2) 0
     ·refine ag.exit ?_
      refine ab.exit ?_
      obtain rfl:=aH h
      exact dE (cD.1,cD.2) 0
    ·clear an
     refine ab.e4 ?_
     refine ab.next ?_
     refine aA ?_
     refine aB ?_
     refine aM ?_
     refine aI ?_
     refine ag.ret ?_
     refine ab.my (α:=bN) 0 [2,7,97] ⟨rfl,rfl,rfl,trivial⟩ rfl ?_
     refine ab.bI 1 rfl ?_
     obtain rfl:=aH h
     exact mS ()
   ·have h:=gI ar fX
    refine ag.cj ?_
    refine aT (aQ kg) ?_
    refine bj (iO (i:=2) (q:=0) (β:=bN) (γ:=cB) jY (ad rfl) rfl rfl) ?_
    obtain⟨j4,y4,h⟩:=ay h
    refine dp y4 (cT (b:= { b7:=ByteArray.mk #[103],gb:=9,cH:=1:cB }) rfl p8 iz (.cons pI rfl (di (ByteArray.mk #[103])) rfl (.cons m3 rfl (bD 9) rfl (.cons kP rfl (bD 1) rfl (.nil))))) ?_
    obtain⟨ko,y5,h⟩:=ay h
    refine dp y5 (cT (b:= { b7:=ByteArray.mk #[100],gb:=7,cH:=2:cB }) rfl p8 iz (.cons pI rfl (di (ByteArray.mk #[100])) rfl (.cons m3 rfl (bD 7) rfl (.cons kP rfl (bD 2) rfl (.nil))))) ?_
    refine gx [j4,ko] Tryz.underlying62 g8 iz ?_
    obtain⟨gL,ou,h⟩:=ay h
    refine j2 3 Tryz.underlying62 g8 iz ou fun pg fH=> ?_
    refine aT (aQ kg) ?_
    refine ai.jf (i:=2) (γ:=cB) (b':=(({ ({ (default:bN) with bG:=4,b7:=ByteArray.mk #[115,112,97,110,115],c4:=([1,3,5]:List Int),gH:=3,sg:= [({ (default:al) with bS:=7#64 } :al)],kV:=bw (3 + dC.1) } :bN) with bX:= [] } :bN):bN)) (os':= [(2,aV pg gL.length fH)]) ((aK.id bN).comp iK) jY (ad rfl) (ad rfl) ic rfl rfl rfl rfl ?_
    refine ai.nil ?_
    obtain rfl:=aH h
    exact df 0 (hm (pg,fH))
   ·have h:=gJ ar fX
    refine ag.skip ?_
    obtain rfl:=aH h
    exact df 0 (hm (ly,1))
  ·have h:=gI ar du
   refine ag.cj ?_
   refine aT (aQ kg) ?_
   refine bj (iO (i:=2) (q:=0) (β:=bN) (γ:=cB) jY (ad rfl) rfl rfl) ?_
   obtain⟨ns,y6,h⟩:=ay h
   refine dp y6 (cT (b:= { b7:=ByteArray.mk #[98],gb:=5,cH:=1:cB }) rfl p8 iz (.cons pI rfl (di (ByteArray.mk #[98])) rfl (.cons m3 rfl (bD 5) rfl (.cons kP rfl (bD 1) rfl (.nil))))) ?_
   refine gx [ns] Tryz.underlying62 g8 iz ?_
   obtain⟨gF,p9,h⟩:=ay h
   refine j2 3 Tryz.underlying62 g8 iz p9 fun y2 mN=> ?_
   refine aT (aQ kg) ?_
   refine ai.jf (i:=2) (γ:=cB) (b':=(({ ({ (default:bN) with bG:=3,b7:=ByteArray.mk #[97,99,108],c4:=([1,2,3,5,6]:List Int),gH:=1,kV:=bw (4 + cx.1) } :bN) with bX:= [] } :bN):bN)) (os':= [(2,aV y2 gF.length mN)]) ((aK.id bN).comp iK) jY (ad rfl) (ad rfl) ic rfl rfl rfl rfl ?_
   refine ai.nil ?_
   obtain rfl:=aH h
   exact df 0 (hm (y2,mN))
  ·have h:=gJ ar du
   refine ag.skip ?_
   obtain rfl:=aH h
   exact df 0 (hm (kH,2))
 ·have h:=gI ar cz
  refine ag.cj ?_
  refine aT (aQ kg) ?_
  refine bj (iO (i:=2) (q:=0) (β:=bN) (γ:=cB) jY (ad rfl) rfl rfl) ?_
  obtain⟨nV,y7,h⟩:=ay h
  refine dp y7 (cT (b:= { b7:=ByteArray.mk #[109],gb:=3,cH:=1:cB }) rfl p8 iz (.cons pI rfl (di (ByteArray.mk #[109])) rfl (.cons m3 rfl (bD 3) rfl (.cons kP rfl (bD 1) rfl (.nil))))) ?_
  refine gx [nV] Tryz.underlying62 g8 iz ?_
  obtain⟨gT,qa,h⟩:=ay h
  refine j2 3 Tryz.underlying62 g8 iz qa fun LO nS=> ?_
  refine aT (aQ kg) ?_
  refine ai.jf (i:=2) (γ:=cB) (b':=(({ ({ (default:bN) with bG:=2,b7:=ByteArray.mk #[114,111,117,116,101,115],c4:=([1,2,3,4]:List Int),gH:=2,kV:=bw (3 + bc.1) } :bN) with bX:= [] } :bN):bN)) (os':= [(2,aV LO gT.length nS)]) ((aK.id bN).comp iK) jY (ad rfl) (ad rfl) ic rfl rfl rfl rfl ?_
  refine ai.nil ?_
  obtain rfl:=aH h
  exact df 0 (hm (LO,nS))
 ·have h:=gJ ar cz
  refine ag.skip ?_
  obtain rfl:=aH h
  exact df 0 (hm (gR,1))
end Go.Proofs.YtmnggbjcnoffeaaGreat
namespace Go.Proofs.YtmnggbjcnoffeaaGreat
open Go Gv
set_option linter.unusedVariables false
set_option linter.unusedSimpArgs false
set_option maxRecDepth 100000
set_option maxHeartbeats 2000000
theorem NX {J:bk} {aj:List bN} {b6:Nat} {r:(List cy) × bk} (h:wY J aj=some r):cf Tryz.prog 71 [I.eq (.pointer (some ⟨b6,0,none⟩)),I.of (aj)] [⟨some b6,.var (J:bk)⟩] (δ:=Unit) (fun d=>I.of (r.1)) (fun d=> [⟨some b6,.var (r.2:bk)⟩]):=by
 unfold wY at h
 refine cf.of Tryz.func71 rfl Tryz.ntmps71 rfl fun W A=> ?_
 refine aA ?_
 refine bj (eW (look_nil (α:=cy))) ?_
 refine b2 ?_
 refine gx ([1,2,3,4,5,6]:List Int) Tryz.underlying63 bo g4 ?_
 refine bj (oZ (b:=({ (default:cy) with bG:=1,b7:=ByteArray.mk #[97,108,108],c4:=([1,2,3,4,5,6]:List Int),pN:=40,xT:=true } :cy)) [2] u0 rfl E1 rl (.cons AY rfl (bD 1) rfl (by rfl) (.cons Dj rfl (di (ByteArray.mk #[97,108,108])) rfl (by rfl) (.cons C8 rfl (ad rfl) rfl (by rfl) (.cons De rfl (bD 40) rfl (by rfl) (.cons NY rfl (fD true) rfl (by rfl) (.nil))))))) ?_
 refine ai.own (α:=da) 207 ?_
 refine ai.o3 (z:=(default:cy)) [2] u0 rl rfl fun aR=> ?_
 refine ai.own (α:=da) 207 ?_
 refine ai.pS (i:=1) pa (ad rfl) (ad rfl) rfl ?_
 refine b2 ?_
 refine aB ?_
 refine ai.bI 3 rfl ?_
 obtain⟨ak,bt,h⟩:=ay h
 refine eE 1 fP (fL bt) fun az=> ?_
 refine bd c8 ?_
 refine gx ([1,2,bw (3 + ak.1)]:List Int) Tryz.underlying63 bo g4 ?_
 refine aB ?_
 refine ai.bI 0 rfl ?_
 obtain⟨aO,cq,h⟩:=ay h
 refine eE 1 fP (fL cq) fun c6=> ?_
 refine bd c8 ?_
 refine bj (oZ (b:=({ (default:cy) with bG:=2,b7:=ByteArray.mk #[115,111,109,101],c4:=([1,2,bw (3 + ak.1)]:List Int),pN:=bw (1 + aO.1) } :cy)) [2] u0 rfl E1 rl (.cons AY rfl (bD 2) rfl (by rfl) (.cons Dj rfl (di (ByteArray.mk #[115,111,109,101])) rfl (by rfl) (.cons C8 rfl (ad rfl) rfl (by rfl) (.cons De rfl (ad rfl) rfl (by rfl) (.nil)))))) ?_
 refine ai.own (α:=da) 207 ?_
 refine ai.o3 (z:=(default:cy)) [2] u0 rl rfl fun a0=> ?_
 refine ai.own (α:=da) 207 ?_
 refine ai.pS (i:=1) pa (ad rfl) (ad rfl) rfl ?_
 refine b2 ?_
 refine aB ?_
 refine ai.bI 3 rfl ?_
 obtain⟨bc,fb,h⟩:=ay h
 refine eE 1 fP (fL fb) fun e6=> ?_
 refine bd c8 ?_
 refine gx [bw (1 + bc.1)] Tryz.underlying63 bo g4 ?_
 refine aB ?_
 refine ai.bI 0 rfl ?_
 obtain⟨br,fY,h⟩:=ay h
 refine eE 1 fP (fL fY) fun h9=> ?_
 refine bj (oZ (b:=({ (default:cy) with bG:=7,b7:=ByteArray.mk #[102,101,119],c4:= [bw (1 + bc.1)],pN:=br.1 } :cy)) [2] u0 rfl E1 rl (.cons AY rfl (bD 7) rfl (by rfl) (.cons Dj rfl (di (ByteArray.mk #[102,101,119])) rfl (by rfl) (.cons C8 rfl (ad rfl) rfl (by rfl) (.cons De rfl (ad rfl) rfl (by rfl) (.nil)))))) ?_
 refine ai.own (α:=da) 207 ?_
 refine ai.o3 (z:=(default:cy)) [2] u0 rl rfl fun bF=> ?_
 refine ai.own (α:=da) 207 ?_
 refine ai.pS (i:=1) pa (ad rfl) (ad rfl) rfl ?_
 refine bK ?_
 refine aA ?_
 refine aB ?_
 refine aT (ej Tryz.underlying28) ?_
 refine aB ?_
 refine aI ?_
 refine ag.block ?_
 obtain⟨av,an,h⟩:=ay h
 refine gj (γ:=(Option Nat × Nat) × (Option Nat × Nat) × (Option Nat × Nat)) (δ:=(Option Nat × Nat) × (Option Nat × Nat) × (Option Nat × Nat)) an [0,1,4,5,6,7,30,31] (fun s1 aw=> [(32,I.of (s1.1))]) (fun s1 aw=> [(1,⟨some bF,.cg (s1.2.1:cy) [(2,aV aw.1.1 s1.2.2.1.length aw.1.2)]⟩),(2,⟨aw.1.1,.row 207 (s1.2.2.1:List da) aw.1.2⟩),(3,⟨some b6,.var (s1.2.2.2.1:bk)⟩),(5,⟨some a0,.cg (s1.2.2.2.2.1:cy) [(2,aV aw.2.1.1 s1.2.2.2.2.2.1.length aw.2.1.2)]⟩),(6,⟨aw.2.1.1,.row 207 (s1.2.2.2.2.2.1:List da) aw.2.1.2⟩),(8,⟨some aR,.cg (s1.2.2.2.2.2.2.1:cy) [(2,aV aw.2.2.1 s1.2.2.2.2.2.2.2.length aw.2.2.2)]⟩),(9,⟨aw.2.2.1,.row 207 (s1.2.2.2.2.2.2.2:List da) aw.2.2.2⟩)]) (fun fZ=>Exit.exit 0) (fun fZ aw=> [(32,I.of (fZ.1)),(33,I.of (fZ.2.1))]) (fun fZ aw=> [(1,⟨some bF,.cg (fZ.2.2.1:cy) [(2,aV aw.1.1 fZ.2.2.2.1.length aw.1.2)]⟩),(2,⟨aw.1.1,.row 207 (fZ.2.2.2.1:List da) aw.1.2⟩),(3,⟨some b6,.var (fZ.2.2.2.2.1:bk)⟩),(5,⟨some a0,.cg (fZ.2.2.2.2.2.1:cy) [(2,aV aw.2.1.1 fZ.2.2.2.2.2.2.1.length aw.2.1.2)]⟩),(6,⟨aw.2.1.1,.row 207 (fZ.2.2.2.2.2.2.1:List da) aw.2.1.2⟩),(8,⟨some aR,.cg (fZ.2.2.2.2.2.2.2.1:cy) [(2,aV aw.2.2.1 fZ.2.2.2.2.2.2.2.2.length aw.2.2.2)]⟩),(9,⟨aw.2.2.1,.row 207 (fZ.2.2.2.2.2.2.2.2:List da) aw.2.2.2⟩)]) ((none,0),(none,0),(none,0)) (fun s1 r h aw=> ?_) fun aw=> ?_
 ·clear an
  refine aA ?_
  refine bd dJ ?_
  refine bK ?_
  refine b4 h (fun h=>?_) fun h=>?_
  ·refine cP ?_
   refine ag.seq ?_
   refine ag.block ?_
   refine aA ?_
   obtain⟨aW,cc,h⟩:=ay h
   refine gk cc Tryz.underlying28 fG ?_
   refine aT (c7 fG) ?_
   refine cM kJ fun cA=> ?_
   refine ck 0 fG ?_
   refine b2 ?_
   refine aT (aQ kg) ?_
   refine bL 0 iK jY ?_
   refine aT (ej Tryz.underlying62) ?_
   obtain⟨cx,ih,h⟩:=ay h
   refine ai.Mf Tryz.underlying205 fk Cn rfl (by kernel_rfl) (ad rfl) (ad rfl) ih rfl fun gR=> ?_
   refine aM ?_
   refine b2 ?_
   refine aT (aQ kg) ?_
   refine bL 1 iK jY ?_
   refine aT (ej Tryz.underlying62) ?_
   obtain⟨dr,jG,h⟩:=ay h
   refine ai.Mf Tryz.underlying205 fk Cn rfl (by kernel_rfl) (ad rfl) (ad rfl) jG rfl fun kH=> ?_
   refine aM ?_
   refine bK ?_
   refine aA ?_
   refine aB ?_
   refine bj (sH (i:=1) Tryz.underlying205 (ad rfl) rfl rfl) ?_
   refine aB ?_
   refine aI ?_
   refine ag.block ?_
   obtain⟨aX,an,h⟩:=ay h
   refine gj (γ:=(Option Nat × Nat) × (Option Nat × Nat)) (δ:=(Option Nat × Nat) × (Option Nat × Nat)) an [0,1,4,5,6,7,9,30,31,32,33,45] (fun s2 a5=> [(10,I.eq (aV a5.2.1 s2.2.2.1.length a5.2.2)),(11,I.eq (aV a5.1.1 s2.2.1.length a5.1.2)),(46,I.of (s2.1))]) (fun s2 a5=> [(0,⟨a5.1.1,.row 4 (s2.2.1:List Bool) a5.1.2⟩),(1,⟨a5.2.1,.row 4 (s2.2.2.1:List Bool) a5.2.2⟩),(6,⟨some b6,.var (s2.2.2.2:bk)⟩)]) (fun gX=>Exit.exit 2) (fun gX a5=> [(10,I.eq (aV a5.2.1 gX.2.2.2.1.length a5.2.2)),(11,I.eq (aV a5.1.1 gX.2.2.1.length a5.1.2)),(46,I.of (gX.1)),(47,I.of (gX.2.1))]) (fun gX a5=> [(0,⟨a5.1.1,.row 4 (gX.2.2.1:List Bool) a5.1.2⟩),(1,⟨a5.2.1,.row 4 (gX.2.2.2.1:List Bool) a5.2.2⟩),(6,⟨some b6,.var (gX.2.2.2.2:bk)⟩)]) ((kH,dr.length),(gR,cx.length)) (fun s2 r h a5=> ?_) fun a5=> ?_
   ·clear an
    refine aA ?_
    refine bd dJ ?_
    refine bK ?_
    refine b4 h (fun h=>?_) fun h=>?_
    ·refine cP ?_
     refine ag.seq ?_
     refine ag.block ?_
     refine aA ?_
     refine aB ?_
     refine aM ?_
     refine aI ?_
     refine ag.cj ?_
     refine aB ?_
     refine aB ?_
     refine aB ?_
     refine aB ?_
     refine aB ?_
     refine ai.bI 6 rfl ?_
     obtain⟨dC,l6,h⟩:=ay h
     refine eE 1 fP (fL l6) fun wh=> ?_
     refine bd ni ?_
     obtain⟨bR,cN,h⟩:=ay h
     refine bj (rq (i:=2) (k:=bR) (xs:=(s2.2.2.1:List Bool)) Tryz.underlying205 fk (ad rfl) (ad rfl) rfl (cK cN)) ?_
     refine ai.x4 (i:=2) (k:=bR) (aK.id Bool) (v:=(true:Bool)) (r:=(iB s2.2.2.1 bR true:List Bool)) fk (ad rfl) (fD true) rfl (cK cN).1 rfl rfl ?_
     refine ai.nO (m:=(iB s2.2.2.1 bR true).length) 10 rfl (n8 rfl) ?_
     refine ai.nO (m:=(iB s2.2.2.1 bR true).length) 49 rfl (n8 rfl) ?_
     obtain⟨dj,gp,h⟩:=ay h
     refine bj (rq (i:=1) (k:=dj) (xs:=(s2.2.1:List Bool)) Tryz.underlying205 fk (ad rfl) (ad rfl) rfl (cK gp)) ?_
     refine ai.x4 (i:=1) (k:=dj) (aK.id Bool) (v:=(decide (dC.1 > 0):Bool)) (r:=(iB s2.2.1 dj (decide (dC.1 > 0)):List Bool)) fk (ad rfl) (ad rfl) rfl (cK gp).1 rfl rfl ?_
     refine ai.nO (m:=(iB s2.2.1 dj (decide (dC.1 > 0))).length) 11 rfl (n8 rfl) ?_
     refine ai.nO (m:=(iB s2.2.1 dj (decide (dC.1 > 0))).length) 51 rfl (n8 rfl) ?_
     refine ai.nil ?_
     refine ab.dz ?_
     refine ab.next ?_
     refine ag.cj ?_
     refine bd c8 ?_
     refine aB ?_
     refine ai.nil ?_
     refine ab.bI 6 rfl ?_
     refine ab.bI 6 rfl ?_
     refine ab.bI 6 rfl ?_
     refine ab.bI 6 rfl ?_
     refine ab.bI 6 rfl ?_
     refine ab.bI 6 rfl ?_
     obtain rfl:=aH h
     exact fe ((a5.1.1,a5.1.2),(a5.2.1,a5.2.2)) 0
    ·refine ag.exit ?_
     refine ab.exit ?_
     obtain rfl:=aH h
     exact dE ((a5.1.1,a5.1.2),(a5.2.1,a5.2.2)) 0
   ·clear an
    refine ab.e4 ?_
    refine ab.next ?_
    refine aA ?_
    refine aT (aQ u1) ?_
    refine bj (iO (i:=11) (q:=0) (β:=cy) (γ:=da) sP (ad rfl) rfl rfl) ?_
    refine aT (aQ sC) ?_
    refine bL 2 n4 bo ?_
    refine aB ?_
    refine ai.my (α:=Bool) 1 [63,10] ⟨rfl,rfl,trivial⟩ rfl ?_
    obtain⟨bg,dd,h⟩:=ay h
    refine dp dd (cT (b:= { dD:=(aF aj aW).bG,pT:=true,pO:=true,bX:=aX.2.2.2.1:da }) rfl E2 p0 (.cons Da rfl (ad rfl) rfl (.cons Df rfl (fD true) rfl (.cons Db rfl (fD true) rfl (.cons Dg rfl (ad rfl) rfl (.nil)))))) ?_
    refine gx [bg] Tryz.underlying202 vp p0 ?_
    obtain⟨e7,nr,h⟩:=ay h
    refine j2 12 Tryz.underlying202 vp p0 nr fun ly fH=> ?_
    refine aT (aQ u1) ?_
    refine ai.jf (i:=11) (γ:=da) (b':=(({ s1.2.2.2.2.2.2.1 with ix:= [] } :cy):cy)) (os':= [(2,aV ly e7.length fH)]) ((aK.id cy).comp uf) sP (ad rfl) (ad rfl) ic rfl rfl rfl rfl ?_
    refine bK ?_
    refine aA ?_
    refine aB ?_
    refine ai.bI 6 rfl ?_
    obtain⟨fT,oB,h⟩:=ay h
    refine eE 1 fP (fL oB) fun jo=> ?_
    refine bd ni ?_
    refine aI ?_
    refine ag.freeze (α:=Bool) 1 11 rfl rfl ?_
    obtain⟨bB,cz,h⟩:=ay h
    refine h5 (γ:=(Option Nat × Nat)) [0,1,4,5,6,7,9,10,11,30,31,32,33,45,46,47,70] (fun bA=> []) (fun bA=> [(0,⟨some b6,.var (bB.1:bk)⟩),(8,⟨some a0,.cg (bB.2.1:cy) [(2,aV bA.1 bB.2.2.length bA.2)]⟩),(9,⟨bA.1,.row 207 (bB.2.2:List da) bA.2⟩)]) (fun bA=> ?_) (fun hm ar=> ?_) fun hm ar=> ?_
    ·clear cz
     refine ab.next ?_
     refine aA ?_
     refine aB ?_
     refine ai.bI 0 rfl ?_
     obtain⟨gL,ou,h⟩:=ay h
     refine eE 1 mO (mo ou) fun oO=> ?_
     refine aI ?_
     obtain⟨cu,du,h⟩:=ay h
     refine h5 (γ:=(Option Nat × Nat)) [0,1,4,5,6,7,9,10,11,30,31,32,33,45,46,47,70,86] (fun cD=> []) (fun cD=> [(0,⟨some b6,.var (cu.1:bk)⟩),(5,⟨some bF,.cg (cu.2.1:cy) [(2,aV cD.1 cu.2.2.length cD.2)]⟩),(6,⟨cD.1,.row 207 (cu.2.2:List da) cD.2⟩)]) (fun cD=> ?_) (fun hm ar=> ?_) fun hm ar=> ?_
     ·clear du
      refine ab.dz ?_
      refine ab.next ?_
      refine ag.cj ?_
      refine bd c8 ?_
      refine aB ?_
      refine ai.nil ?_
      refine ab.bI 6 rfl ?_
      refine ab.bI 6 rfl ?_
      refine ab.bI 6 rfl ?_
      refine ab.bI 6 rfl ?_
      refine ab.bI 6 rfl ?_
      refine ab.bI 6 rfl ?_
      obtain rfl:=aH h
      exact fe ((cD.1,cD.2),(bA.1,bA.2),(ly,fH)) 3
     ·have h:=gI ar du
      obtain⟨gF,p9,h⟩:=ay h
      obtain⟨gT,qa,h⟩:=ay h
      obtain⟨dw,ha,h⟩:=ay h
      obtain⟨gU,qb,h⟩:=ay h
      refine iC [0,1,4,5,6,7,9,10,11,30,31,32,33,45,46,47,70,85,86] ?_
      refine ag.jV mixed (bb 87 [] [] _ :: bb 88 (0 :: []) (5 :: []) _ :: bb 89 [] [] _ :: bb 90 (2 :: []) (3 :: []) _ :: bb 91 [] [] _ :: ⟨some 92,(4 :: []),(0 :: []),(0 :: []),fun _=>I.of (gF.1),fun hd _=>⟨some b6,.var (gF.2:bk)⟩⟩ :: bb 93 [] [] _ :: ⟨some 94,(5 :: 6 :: []),(0 :: []),(0 :: []),fun _=>I.of (gT.1),fun hd _=>⟨some b6,.var (gT.2:bk)⟩⟩ :: bb 95 [] [] _ :: bb 96 (3 :: 5 :: 7 :: 8 :: []) [] _ :: bb 97 (9 :: []) [] _ :: ⟨some 98,(1 :: 10 :: []),(6 :: []),(6 :: []),fun hd=>I.eq (aV (hd 11 0) gU.length ((hd 11 1).getD 0)),fun hd _=>⟨(hd 11 0),.row 207 (gU:List da) ((hd 11 1).getD 0)⟩⟩ :: bb 99 [] [] _ :: ⟨none,(1 :: 11 :: 12 :: []),(5 :: []),(5 :: []),fun _=>I.any,fun hd _=>⟨some bF,.cg (({ s1.2.1 with ix:= [] } :cy):cy) [(2,aV (hd 11 0) gU.length ((hd 11 1).getD 0))]⟩⟩ :: []) _ (0 :: 1 :: 4 :: 5 :: 6 :: 7 :: 9 :: 10 :: 11 :: 30 :: 31 :: 32 :: 33 :: 45 :: 46 :: 47 :: 70 :: 85 :: 86 :: []) rfl rfl (by kernel_rfl) ⟨e1 (aQ u1),cw fun hd E' L' aE ao=>iO (i:=5) (q:=0) (β:=cy) (γ:=da) sP (ad (aE _ _ rfl)) (ao 5 _ rfl rfl) rfl,e1 (aQ sC),mT 3 n4 bo,fJ,?_,fJ,?_,fJ,cw fun hd E' L' aE ao=>(cT (b:= { dD:=(aF aj aW).bG,pT:=gF.1,pO:=gT.1,bX:=aX.2.2.2.1:da }) rfl E2 p0 (.cons Da rfl (ad (aE _ _ rfl)) rfl (.cons Df rfl (ad (aE _ _ rfl)) rfl (.cons Db rfl (ad (aE _ _ rfl)) rfl (.cons Dg rfl (ad (aE _ _ rfl)) rfl (.nil)))))).as (aH ha),cw fun hd E' L' aE ao=>iR (r:= [dw]) Tryz.underlying202 vp p0 rfl rfl (.cons (by simp) (ad (aE _ _ rfl)) (.nil)),?_,e1 (aQ u1),?_,trivial⟩ fun fl=> ?_
      ·intro hd E' L' aE ao
       refine ai.bI 0 (ao 0 _ rfl rfl) ?_
       refine ai.kZ (Lin:= [⟨some b6,.var (gL.2:bk)⟩]) (Lr:=L'.eraseIdx 0) mO (mo p9) ⟨ad (aE _ _ rfl),trivial⟩ rfl fun FR=> ?_
       refine ai.nil ?_
       refine ab.back 0 (ao 0 _ rfl rfl) ?_
       exact ab.fin (eh []) rfl rfl
      ·intro hd E' L' aE ao
       refine ai.bI 0 (ao 0 _ rfl rfl) ?_
       refine ai.kZ (Lin:= [⟨some b6,.var (gF.2:bk)⟩]) (Lr:=L'.eraseIdx 0) mO (mo qa) ⟨ad (aE _ _ rfl),trivial⟩ rfl fun W9=> ?_
       refine ai.nil ?_
       refine ab.back 0 (ao 0 _ rfl rfl) ?_
       exact ab.fin (eh []) rfl rfl
      ·intro hd E' L' aE ao
       refine ai.app (i:=6) Tryz.underlying202 vp p0 (bytes:=40) (by kernel_rfl) (ad (aE _ _ rfl)) (ao 6 _ rfl rfl) (ad (aE _ _ rfl)) qb rfl fun ot mN=> ?_
       refine ai.nil ?_
       exact ab.fin (eh [ot,some mN]) rfl rfl
      ·intro hd E' L' aE ao
       refine ai.jf (i:=5) (γ:=da) (b':=(({ s1.2.1 with ix:= [] } :cy):cy)) (os':= [(2,aV (hd 11 0) gU.length ((hd 11 1).getD 0))]) ((aK.id cy).comp uf) sP (ad (aE _ _ rfl)) (ad (aE _ _ rfl)) ic (ao 5 _ rfl rfl) rfl rfl rfl ?_
       refine ai.nil ?_
       exact ab.fin (eh []) rfl rfl
      refine ab.en (L2:= [⟨some b6,.var (gT.2:bk)⟩,⟨none,.dead⟩,⟨none,.dead⟩,⟨some cA,.var (aF aj aW:bN)⟩,⟨none,.row 207 (([]:List da):List da) 0⟩,⟨some bF,.cg (({ s1.2.1 with ix:= [] } :cy):cy) [(2,aV (fl 11 0) gU.length ((fl 11 1).getD 0))]⟩,⟨(fl 11 0),.row 207 (gU:List da) ((fl 11 1).getD 0)⟩,⟨none,.row 207 (([]:List da):List da) 0⟩,⟨some a0,.cg (bB.2.1:cy) [(2,aV bA.1 bB.2.2.length bA.2)]⟩,⟨bA.1,.row 207 (bB.2.2:List da) bA.2⟩,⟨none,.row 207 (([]:List da):List da) 0⟩,⟨some aR,.cg (({ s1.2.2.2.2.2.2.1 with ix:= [] } :cy):cy) [(2,aV ly e7.length fH)]⟩,⟨ly,.row 207 (e7:List da) fH⟩]) rfl ?_
      refine jF [0,1,4,5,6,7,9,10,11,30,31,32,33,45,46,47,70,85,86,87,89,90,91,92,93,94,95,96,97,98,99] ?_
      obtain rfl:=aH h
      exact df 0 (hm ((fl 11 0),((fl 11 1).getD 0)))
     ·have h:=gJ ar du
      refine ag.skip ?_
      obtain rfl:=aH h
      exact df 0 (hm (aw.1.1,aw.1.2))
    ·have h:=gI ar cz
     obtain⟨hU,s6,h⟩:=ay h
     obtain⟨kL,Uj,h⟩:=ay h
     obtain⟨ft,km,h⟩:=ay h
     obtain⟨pr,Uk,h⟩:=ay h
     refine iC [0,1,4,5,6,7,9,10,11,30,31,32,33,45,46,47,59,61,62,63,64,65,66,67,68,69,70] ?_
     refine ag.jV mixed (bb 71 [] [] _ :: bb 72 (0 :: []) (8 :: []) _ :: bb 73 [] [] _ :: bb 74 (2 :: []) (3 :: []) _ :: bb 75 [] [] _ :: ⟨some 76,(4 :: []),(0 :: []),(0 :: []),fun _=>I.of (hU.1),fun hd _=>⟨some b6,.var (hU.2:bk)⟩⟩ :: bb 77 (5 :: []) [] _ :: bb 78 [] [] _ :: ⟨some 79,(5 :: 7 :: []),(0 :: []),(0 :: []),fun _=>I.of (kL.1),fun hd _=>⟨some b6,.var (kL.2:bk)⟩⟩ :: bb 80 [] [] _ :: bb 81 (3 :: 6 :: 8 :: 9 :: []) [] _ :: bb 82 (10 :: []) [] _ :: ⟨some 83,(1 :: 11 :: []),(9 :: []),(9 :: []),fun hd=>I.eq (aV (hd 12 0) pr.length ((hd 12 1).getD 0)),fun hd _=>⟨(hd 12 0),.row 207 (pr:List da) ((hd 12 1).getD 0)⟩⟩ :: bb 84 [] [] _ :: ⟨none,(1 :: 12 :: 13 :: []),(8 :: []),(8 :: []),fun _=>I.any,fun hd _=>⟨some a0,.cg (({ s1.2.2.2.2.1 with ix:= [] } :cy):cy) [(2,aV (hd 12 0) pr.length ((hd 12 1).getD 0))]⟩⟩ :: []) _ (0 :: 1 :: 4 :: 5 :: 6 :: 7 :: 9 :: 10 :: 11 :: 30 :: 31 :: 32 :: 33 :: 45 :: 46 :: 47 :: 59 :: 61 :: 62 :: 63 :: 64 :: 65 :: 66 :: 67 :: 68 :: 69 :: 70 :: []) rfl rfl (by kernel_rfl) ⟨e1 (aQ u1),cw fun hd E' L' aE ao=>iO (i:=8) (q:=0) (β:=cy) (γ:=da) sP (ad (aE _ _ rfl)) (ao 8 _ rfl rfl) rfl,e1 (aQ sC),mT 3 n4 bo,fJ,?_,z6 ni,fJ,?_,fJ,cw fun hd E' L' aE ao=>(cT (b:= { dD:=(aF aj aW).bG,pT:=decide (hU.1 > 0),pO:=kL.1,bX:=aX.2.2.1:da }) rfl E2 p0 (.cons Da rfl (ad (aE _ _ rfl)) rfl (.cons Df rfl (ad (aE _ _ rfl)) rfl (.cons Db rfl (ad (aE _ _ rfl)) rfl (.cons Dg rfl (ad (aE _ _ rfl)) rfl (.nil)))))).as (aH km),cw fun hd E' L' aE ao=>iR (r:= [ft]) Tryz.underlying202 vp p0 rfl rfl (.cons (by simp) (ad (aE _ _ rfl)) (.nil)),?_,e1 (aQ u1),?_,trivial⟩ fun jH=> ?_
     ·intro hd E' L' aE ao
      refine ai.bI 0 (ao 0 _ rfl rfl) ?_
      refine ai.kZ (Lin:= [⟨some b6,.var (fT.2:bk)⟩]) (Lr:=L'.eraseIdx 0) fP (fL s6) ⟨ad (aE _ _ rfl),bD 4,trivial⟩ rfl fun Xa=> ?_
      refine ai.nil ?_
      refine ab.back 0 (ao 0 _ rfl rfl) ?_
      exact ab.fin (eh []) rfl rfl
     ·intro hd E' L' aE ao
      refine ai.bI 0 (ao 0 _ rfl rfl) ?_
      refine ai.kZ (Lin:= [⟨some b6,.var (hU.2:bk)⟩]) (Lr:=L'.eraseIdx 0) mO (mo Uj) ⟨ad (aE _ _ rfl),trivial⟩ rfl fun Xb=> ?_
      refine ai.nil ?_
      refine ab.back 0 (ao 0 _ rfl rfl) ?_
      exact ab.fin (eh []) rfl rfl
     ·intro hd E' L' aE ao
      refine ai.app (i:=9) Tryz.underlying202 vp p0 (bytes:=40) (by kernel_rfl) (ad (aE _ _ rfl)) (ao 9 _ rfl rfl) (ad (aE _ _ rfl)) Uk rfl fun pg nS=> ?_
      refine ai.nil ?_
      exact ab.fin (eh [pg,some nS]) rfl rfl
     ·intro hd E' L' aE ao
      refine ai.jf (i:=8) (γ:=da) (b':=(({ s1.2.2.2.2.1 with ix:= [] } :cy):cy)) (os':= [(2,aV (hd 12 0) pr.length ((hd 12 1).getD 0))]) ((aK.id cy).comp uf) sP (ad (aE _ _ rfl)) (ad (aE _ _ rfl)) ic (ao 8 _ rfl rfl) rfl rfl rfl ?_
      refine ai.nil ?_
      exact ab.fin (eh []) rfl rfl
     refine ab.en (L2:= [⟨some b6,.var (kL.2:bk)⟩,⟨none,.dead⟩,⟨none,.dead⟩,⟨some cA,.var (aF aj aW:bN)⟩,⟨none,.row 207 (([]:List da):List da) 0⟩,⟨some bF,.cg (s1.2.1:cy) [(2,aV aw.1.1 s1.2.2.1.length aw.1.2)]⟩,⟨aw.1.1,.row 207 (s1.2.2.1:List da) aw.1.2⟩,⟨none,.row 207 (([]:List da):List da) 0⟩,⟨some a0,.cg (({ s1.2.2.2.2.1 with ix:= [] } :cy):cy) [(2,aV (jH 12 0) pr.length ((jH 12 1).getD 0))]⟩,⟨(jH 12 0),.row 207 (pr:List da) ((jH 12 1).getD 0)⟩,⟨none,.row 207 (([]:List da):List da) 0⟩,⟨some aR,.cg (({ s1.2.2.2.2.2.2.1 with ix:= [] } :cy):cy) [(2,aV ly e7.length fH)]⟩,⟨ly,.row 207 (e7:List da) fH⟩]) rfl ?_
     refine jF [0,1,4,5,6,7,9,10,11,30,31,32,33,45,46,47,59,61,62,63,64,65,66,67,68,69,70,71,73,74,75,76,77,78,79,80,81,82,83,84] ?_
     obtain rfl:=aH h
     exact df 0 (hm ((jH 12 0),((jH 12 1).getD 0)))
    ·have h:=gJ ar cz
     refine ag.skip ?_
     obtain rfl:=aH h
     exact df 0 (hm (aw.2.1.1,aw.2.1.2))
  ·refine ag.exit ?_
   refine ab.exit ?_
   obtain rfl:=aH h
   exact dE ((aw.1.1,aw.1.2),(aw.2.1.1,aw.2.1.2),(aw.2.2.1,aw.2.2.2)) 0
 ·clear an
  refine ab.e4 ?_
  refine ab.next ?_
  refine aA ?_
  refine ai.iA (β:=cy) (γ:=da) (b':=(({ av.2.2.2.2.2.2.2.1 with ix:=av.2.2.2.2.2.2.2.2 } :cy):cy)) ((aK.id cy).comp uf) 8 9 0 rfl rfl rfl rfl rfl rfl ?_
  refine ai.nM 8 rfl ?_
  obtain⟨hz,l4,h⟩:=ay h
  refine dp l4 (dP (i:=8) (aK.id cy) (r:=({ av.2.2.2.2.2.2.2.1 with ix:=av.2.2.2.2.2.2.2.2 } :cy)) pa (ad rfl) rfl rfl rfl) ?_
  refine ai.iA (β:=cy) (γ:=da) (b':=(({ av.2.2.2.2.2.1 with ix:=av.2.2.2.2.2.2.1 } :cy):cy)) ((aK.id cy).comp uf) 5 6 0 rfl rfl rfl rfl rfl rfl ?_
  refine ai.nM 5 rfl ?_
  refine cm 5 pa ?_
  refine ai.iA (β:=cy) (γ:=da) (b':=(({ av.2.2.1 with ix:=av.2.2.2.1 } :cy):cy)) ((aK.id cy).comp uf) 1 2 0 rfl rfl rfl rfl rfl rfl ?_
  refine ai.nM 1 rfl ?_
  refine cm 1 pa ?_
  obtain⟨gy,l5,h⟩:=ay h
  refine dp l5 (iR (r:= [hz,({ av.2.2.2.2.2.1 with ix:=av.2.2.2.2.2.2.1 } :cy),({ av.2.2.1 with ix:=av.2.2.2.1 } :cy)]) Tryz.underlying30 pa rl rfl rfl (.cons (by simp) (ad rfl) (.cons (by simp) (ad rfl) (.cons (by simp) (ad rfl) (.nil))))) ?_
  refine aM ?_
  refine aI ?_
  refine ag.ret ?_
  refine ab.bI 3 rfl ?_
  obtain rfl:=aH h
  exact mS ()
end Go.Proofs.YtmnggbjcnoffeaaGreat
namespace Go.Proofs.YtmnggbjcnoffeaaGreat
open Go Gv
set_option linter.unusedVariables false
set_option linter.unusedSimpArgs false
set_option maxRecDepth 100000
set_option maxHeartbeats 2000000
theorem Hw {J:bk} {b6:Nat} {r:aY × bk} (h:ug J=some r):cf Tryz.prog 16 [I.eq (.pointer (some ⟨b6,0,none⟩))] [⟨some b6,.var (J:bk)⟩] (δ:=Unit) (fun d=>I.of (r.1)) (fun d=> [⟨some b6,.var (r.2:bk)⟩]):=by
 unfold ug at h
 refine cf.of Tryz.func16 rfl Tryz.ntmps16 rfl fun W A=> ?_
 refine aA ?_
 refine cM y9 fun aR=> ?_
 refine b2 ?_
 refine aB ?_
 refine ai.bI 1 rfl ?_
 obtain⟨ak,bt,h⟩:=ay h
 refine eE 1 fP (fL bt) fun az=> ?_
 refine bd c8 ?_
 refine aB ?_
 refine ai.bI 0 rfl ?_
 obtain⟨aO,cq,h⟩:=ay h
 refine eE 1 fP (fL cq) fun c6=> ?_
 refine bd c8 ?_
 refine bj (oZ (b:=({ (default:aY) with xE:=bw (2 + ak.1),xM:=bw (12 + aO.1) } :aY)) [5,7] I6 rfl Ul y9 (.cons Nw rfl (ad rfl) rfl (by rfl) (.cons NC rfl (ad rfl) rfl (by rfl) (.nil)))) ?_
 refine ai.own (α:=fr) 127 ?_
 refine ai.own (α:=eG) 129 ?_
 refine ai.o3 (z:=(default:aY)) [5,7] I6 y9 rfl fun a0=> ?_
 refine ai.own (α:=fr) 127 ?_
 refine ai.own (α:=eG) 129 ?_
 refine ai.pS (i:=2) fs (ad rfl) (ad rfl) rfl ?_
 refine b2 ?_
 obtain⟨bg,dd,h⟩:=ay h
 refine dp dd (cT (b:= { bG:=1,b7:=ByteArray.mk #[105,110,103,114,101,115,115],eP:=16:fa }) rfl p1 nK (.cons nz rfl (bD 1) rfl (.cons pH rfl (di (ByteArray.mk #[105,110,103,114,101,115,115])) rfl (.cons m2 rfl (bD 16) rfl (.nil))))) ?_
 obtain⟨dw,ha,h⟩:=ay h
 refine dp ha (cT (b:= { bG:=2,b7:=ByteArray.mk #[101,103,114,101,115,115],eP:=16:fa }) rfl p1 nK (.cons nz rfl (bD 2) rfl (.cons pH rfl (di (ByteArray.mk #[101,103,114,101,115,115])) rfl (.cons m2 rfl (bD 16) rfl (.nil))))) ?_
 obtain⟨ft,km,h⟩:=ay h
 refine dp km (cT (b:= { bG:=3,b7:=ByteArray.mk #[109,101,116,97],eP:=8:fa }) rfl p1 nK (.cons nz rfl (bD 3) rfl (.cons pH rfl (di (ByteArray.mk #[109,101,116,97])) rfl (.cons m2 rfl (bD 8) rfl (.nil))))) ?_
 refine ho p1 nK { bG:=4,b7:=ByteArray.mk #[97],eP:=4:fa } (h4 nz (h4 pH (h4 m2 .nil))) ?_
 refine ho p1 nK { bG:=5,b7:=ByteArray.mk #[98],eP:=4:fa } (h4 nz (h4 pH (h4 m2 .nil))) ?_
 obtain⟨hz,l4,h⟩:=ay h
 refine dp l4 (cT (b:= { bG:=6,b7:=ByteArray.mk #[101],eP:=8:fa }) rfl p1 nK (.cons nz rfl (bD 6) rfl (.cons pH rfl (di (ByteArray.mk #[101])) rfl (.cons m2 rfl (bD 8) rfl (.nil))))) ?_
 obtain⟨gy,l5,h⟩:=ay h
 refine dp l5 (cT (b:= { bG:=7,b7:=ByteArray.mk #[100],eP:=32:fa }) rfl p1 nK (.cons nz rfl (bD 7) rfl (.cons pH rfl (di (ByteArray.mk #[100])) rfl (.cons m2 rfl (bD 32) rfl (.nil))))) ?_
 obtain⟨ir,oy,h⟩:=ay h
 refine dp oy (cT (b:= { bG:=8,b7:=ByteArray.mk #[102],eP:=12:fa }) rfl p1 nK (.cons nz rfl (bD 8) rfl (.cons pH rfl (di (ByteArray.mk #[102])) rfl (.cons m2 rfl (bD 12) rfl (.nil))))) ?_
 obtain⟨iu,oz,h⟩:=ay h
 refine dp oz (cT (b:= { bG:=9,b7:=ByteArray.mk #[103],eP:=4:fa }) rfl p1 nK (.cons nz rfl (bD 9) rfl (.cons pH rfl (di (ByteArray.mk #[103])) rfl (.cons m2 rfl (bD 4) rfl (.nil))))) ?_
 obtain⟨g5,qj,h⟩:=ay h
 refine dp qj (iR (r:= [bg,dw,ft,{ bG:=4,b7:=ByteArray.mk #[97],eP:=4:fa },{ bG:=5,b7:=ByteArray.mk #[98],eP:=4:fa },hz,gy,ir,iu]) Tryz.underlying24 nJ nK rfl rfl (.cons (by simp) (ad rfl) (.cons (by simp) (ad rfl) (.cons (by simp) (ad rfl) (.cons (by simp) (ad rfl) (.cons (by simp) (ad rfl) (.cons (by simp) (ad rfl) (.cons (by simp) (ad rfl) (.cons (by simp) (ad rfl) (.cons (by simp) (ad rfl) (.nil))))))))))) ?_
 refine aT (aQ sE) ?_
 obtain⟨kO,tn,h⟩:=ay h
 refine ai.re (i:=2) ((aK.id aY).comp r7) (v:=(g5:List fa)) (b':=(kO:aY)) rv (ad rfl) (ad rfl) rfl rfl (aH tn) (by rfl) ?_
 refine b2 ?_
 refine gx ([4,5,6]:List Int) Tryz.underlying63 bo g4 ?_
 obtain⟨kn,s3,h⟩:=ay h
 refine dp s3 (cT (b:= { bG:=1,b7:=ByteArray.mk #[111,110,101],e3:=([4,5,6]:List Int):iL }) rfl E3 yr (.cons AR rfl (bD 1) rfl (.cons Dc rfl (di (ByteArray.mk #[111,110,101])) rfl (.cons C4 rfl (ad rfl) rfl (.nil))))) ?_
 refine gx ([7]:List Int) Tryz.underlying63 bo g4 ?_
 obtain⟨j3,s4,h⟩:=ay h
 refine dp s4 (cT (b:= { bG:=2,b7:=ByteArray.mk #[116,119,111],e3:=([7]:List Int):iL }) rfl E3 yr (.cons AR rfl (bD 2) rfl (.cons Dc rfl (di (ByteArray.mk #[116,119,111])) rfl (.cons C4 rfl (ad rfl) rfl (.nil))))) ?_
 refine gx ([8,9]:List Int) Tryz.underlying63 bo g4 ?_
 obtain⟨k6,s5,h⟩:=ay h
 refine dp s5 (cT (b:= { bG:=3,b7:=ByteArray.mk #[116,104,114,101,101],e3:=([8,9]:List Int):iL }) rfl E3 yr (.cons AR rfl (bD 3) rfl (.cons Dc rfl (di (ByteArray.mk #[116,104,114,101,101])) rfl (.cons C4 rfl (ad rfl) rfl (.nil))))) ?_
 refine gx [kn,j3,k6] Tryz.underlying25 BE yr ?_
 refine aT (aQ Kb) ?_
 refine ai.re (i:=2) ((aK.id aY).comp Ho) (v:=([kn,j3,k6]:List iL)) (b':=(({ kO with kQ:= [kn,j3,k6] } :aY):aY)) Fp (ad rfl) (ad rfl) rfl rfl rfl (by rfl) ?_
 refine b2 ?_
 refine aB ?_
 refine ai.bI 5 rfl ?_
 obtain⟨bc,fb,h⟩:=ay h
 refine eE 1 Um (NO fb) fun e6=> ?_
 refine aB ?_
 refine ai.bI 0 rfl ?_
 obtain⟨br,fY,h⟩:=ay h
 refine eE 1 Un (NK fY) fun h9=> ?_
 refine aB ?_
 refine ai.bI 0 rfl ?_
 obtain⟨cx,ih,h⟩:=ay h
 refine eE 1 Uo (NP ih) fun fZ=> ?_
 refine aT (aQ Kc) ?_
 obtain⟨j4,y4,h⟩:=ay h
 refine ai.re (i:=3) ((aK.id aY).comp Hq) (v:=(bc.1:List dh)) (b':=(j4:aY)) Fq (ad rfl) (ad rfl) rfl rfl (aH y4) (by rfl) ?_
 refine aT (aQ EA) ?_
 refine ai.re (i:=3) ((aK.id aY).comp C1) (v:=(br.1:List dy)) (b':=(({ j4 with c4:=br.1 } :aY):aY)) BW (ad rfl) (ad rfl) rfl rfl rfl (by rfl) ?_
 refine aT (aQ mB) ?_
 obtain⟨ko,y5,h⟩:=ay h
 refine ai.re (i:=3) ((aK.id aY).comp mn) (v:=(cx.1:List bN)) (b':=(ko:aY)) lW (ad rfl) (ad rfl) rfl rfl (aH y5) (by rfl) ?_
 refine b2 ?_
 refine aB ?_
 refine aT (aQ mB) ?_
 refine Mg 3 mn lW ?_
 refine ai.bI 0 rfl ?_
 obtain⟨dr,jG,h⟩:=ay h
 refine eE 1 Up (NX jG) fun gX=> ?_
 refine aT (aQ Kd) ?_
 refine ai.re (i:=3) ((aK.id aY).comp Hr) (v:=(dr.1:List cy)) (b':=(({ ko with iP:=dr.1 } :aY):aY)) Fs (ad rfl) (ad rfl) rfl rfl rfl (by rfl) ?_
 refine b2 ?_
 refine ho yw rr { dD:=1,hC:=1:fr } (h4 wR (h4 C9 .nil)) ?_
 refine ho yw rr { dD:=2,hC:=2:fr } (h4 wR (h4 C9 .nil)) ?_
 refine ho yw rr ({ (default:fr) with dD:=3 } :fr) (h4 wR .nil) ?_
 refine ho yw rr { dD:=4,hC:=3:fr } (h4 wR (h4 C9 .nil)) ?_
 obtain⟨ns,y6,h⟩:=ay h
 refine ai.LN (α:=fr) (r0:= [{ dD:=1,hC:=1:fr },{ dD:=2,hC:=2:fr },({ (default:fr) with dD:=3 } :fr),{ dD:=4,hC:=3:fr }]) (r:=ns) Tryz.underlying29 E4 rr rfl rfl (.cons (by simp) (ad rfl) (.cons (by simp) (ad rfl) (.cons (by simp) (ad rfl) (.cons (by simp) (ad rfl) (.nil))))) (aH y6) rfl fun gR=> ?_
 refine aT (aQ ED) ?_
 refine ai.jf (i:=4) (γ:=fr) (b':=(({ ({ ko with iP:=dr.1 } :aY) with mu:= [] } :aY):aY)) (os':= [(5,aV gR ns.length 4),(7,aV none ([]:List eG).length 0)]) ((aK.id aY).comp C5) BY (ad rfl) (ad rfl) ic rfl rfl rfl rfl ?_
 refine bK ?_
 refine aA ?_
 refine aB ?_
 refine ai.bI 1 rfl ?_
 obtain⟨dC,l6,h⟩:=ay h
 refine eE 1 mO (mo l6) fun wh=> ?_
 refine aI ?_
 obtain⟨bB,cz,h⟩:=ay h
 refine h5 (γ:=(Option Nat × Nat)) [0,2,3,51] (fun aw=> []) (fun aw=> [(1,⟨aw.1,.row 127 (bB:List fr) aw.2⟩),(4,⟨some a0,.cg (({ ({ ko with iP:=dr.1 } :aY) with mu:= [] } :aY):aY) [(5,aV aw.1 bB.length aw.2),(7,aV none ([]:List eG).length 0)]⟩)]) (fun aw=> ?_) (fun hm ar=> ?_) fun hm ar=> ?_
 ·clear cz
  refine ab.next ?_
  refine ag.seq ?_
  refine aA ?_
  refine aB ?_
  refine ai.bI 0 rfl ?_
  obtain⟨e7,nr,h⟩:=ay h
  refine eE 1 mO (mo nr) fun jo=> ?_
  refine aI ?_
  obtain⟨cu,du,h⟩:=ay h
  refine h5 (γ:=(Option Nat × Nat)) [0,2,3,51,59] (fun a5=> []) (fun a5=> [(4,⟨some a0,.cg (cu.1:aY) [(5,aV aw.1 bB.length aw.2),(7,aV a5.1 cu.2.length a5.2)]⟩),(5,⟨a5.1,.row 129 (cu.2:List eG) a5.2⟩)]) (fun a5=> ?_) (fun hm ar=> ?_) fun hm ar=> ?_
  ·clear du
   refine ab.next ?_
   refine ag.seq ?_
   refine aA ?_
   refine aB ?_
   refine ai.bI 0 rfl ?_
   obtain⟨fT,oB,h⟩:=ay h
   refine eE 1 mO (mo oB) fun oO=> ?_
   refine aB ?_
   refine dK (aQ mB) ?_
   refine ea (fun hb=>Bl (i:=4) ((aK.id aY).comp mn) (r:=cu.1.bQ) lW (b3 rfl hb) rfl rfl rfl (by rfl)) ?_
   obtain⟨aW,cc,h⟩:=ay h
   refine ea (fun hb=>o7 (k:=aW) Tryz.underlying28 fG (b3 rfl hb) (bD 2) (cK (fC cc hb))) ?_
   refine ea (fun hb=>BK iK kg (b3 rfl hb) rfl rfl) ?_
   refine dK (c7 jY) ?_
   refine dK (ej Tryz.underlying62) ?_
   refine iW fz ?_
   refine ig ?_
   refine aI ?_
   obtain⟨eL,fX,h⟩:=ay h
   refine h5 (γ:=(Option Nat × Nat)) [0,2,3,51,59,76] (fun bA=> []) (fun bA=> [(4,⟨some a0,.cg (eL.1:aY) [(5,aV aw.1 bB.length aw.2),(7,aV bA.1 eL.2.length bA.2)]⟩),(5,⟨bA.1,.row 129 (eL.2:List eG) bA.2⟩)]) (fun bA=> ?_) (fun hm ar=> ?_) fun hm ar=> ?_
   ·clear fX
    refine ab.next ?_
    refine ag.seq ?_
    refine aA ?_
    refine aB ?_
    refine ai.bI 0 rfl ?_
    obtain⟨gL,ou,h⟩:=ay h
    refine eE 1 mO (mo ou) fun FR=> ?_
    refine aB ?_
    refine dK (aQ mB) ?_
    refine ea (fun hb=>Bl (i:=4) ((aK.id aY).comp mn) (r:=eL.1.bQ) lW (b3 rfl hb) rfl rfl rfl (by rfl)) ?_
    obtain⟨bR,cN,h⟩:=ay h
    refine ea (fun hb=>o7 (k:=bR) Tryz.underlying28 fG (b3 rfl hb) (bD 3) (cK (fC cN hb))) ?_
    refine ea (fun hb=>BK iK kg (b3 rfl hb) rfl rfl) ?_
    refine dK (c7 jY) ?_
    refine dK (ej Tryz.underlying62) ?_
    refine iW fz ?_
    refine ig ?_
    refine aI ?_
    obtain⟨nW,zs,h⟩:=ay h
    refine h5 (γ:=(Option Nat × Nat)) [0,2,3,51,59,76,93] (fun cD=> []) (fun cD=> [(4,⟨some a0,.cg (nW.1:aY) [(5,aV aw.1 bB.length aw.2),(7,aV cD.1 nW.2.length cD.2)]⟩),(5,⟨cD.1,.row 129 (nW.2:List eG) cD.2⟩)]) (fun cD=> ?_) (fun hm ar=> ?_) fun hm ar=> ?_
    ·clear zs
     refine ab.next ?_
     refine aA ?_
     refine ai.iA (β:=aY) (γ:=fr) (b':=(({ nW.1 with mu:=bB } :aY):aY)) ((aK.id aY).comp C5) 4 1 0 rfl rfl rfl rfl rfl rfl ?_
     refine ai.iA (β:=aY) (γ:=eG) (b':=(({ ({ nW.1 with mu:=bB } :aY) with nf:=nW.2 } :aY):aY)) ((aK.id aY).comp AF) 4 5 0 rfl rfl rfl rfl rfl rfl ?_
     refine ai.nM 4 rfl ?_
     obtain⟨nV,y7,h⟩:=ay h
     refine dp y7 (dP (i:=4) (aK.id aY) (r:=({ ({ nW.1 with mu:=bB } :aY) with nf:=nW.2 } :aY)) fs (ad rfl) rfl rfl rfl) ?_
     refine ck 7 fs ?_
     refine aI ?_
     refine ag.ret ?_
     refine ab.bI 0 rfl ?_
     obtain rfl:=aH h
     exact ab.gv () (.cons_cons _ (List.nil_sublist _)) rfl rfl (jy (i:=7) fs rfl rfl)
    ·have h:=gI ar zs
     refine ag.cj ?_
     refine aT (aQ va) ?_
     refine bj (iO (i:=4) (q:=1) (β:=aY) (γ:=eG) s7 (ad rfl) rfl rfl) ?_
     obtain⟨l7,Ft,h⟩:=ay h
     refine dp Ft (cT (b:=({ (default:eG) with dD:=4,sQ:=1,n7:=1 } :eG)) rfl BL pc (.cons AV rfl (bD 4) rfl (.cons HE rfl (bD 1) rfl (.cons AG rfl (bD 1) rfl (.nil))))) ?_
     obtain⟨qk,y8,h⟩:=ay h
     refine dp y8 (cT (b:=({ (default:eG) with dD:=4,lP:=5,n7:=1 } :eG)) rfl BL pc (.cons AV rfl (bD 4) rfl (.cons Hy rfl (bD 5) rfl (.cons AG rfl (bD 1) rfl (.nil))))) ?_
     refine gx [l7,qk] Tryz.underlying31 vq pc ?_
     obtain⟨gF,p9,h⟩:=ay h
     refine j2 5 Tryz.underlying31 vq pc p9 fun kH fH=> ?_
     refine aT (aQ va) ?_
     refine ai.jf (i:=4) (γ:=eG) (b':=(({ eL.1 with nf:= [] } :aY):aY)) (os':= [(5,aV aw.1 bB.length aw.2),(7,aV kH gF.length fH)]) ((aK.id aY).comp AF) s7 (ad rfl) (ad rfl) ic rfl rfl rfl rfl ?_
     refine ai.nil ?_
     obtain rfl:=aH h
     exact df 0 (hm (kH,fH))
    ·have h:=gJ ar zs
     refine ag.skip ?_
     obtain rfl:=aH h
     exact df 0 (hm (bA.1,bA.2))
   ·have h:=gI ar fX
    refine ag.cj ?_
    refine aT (aQ va) ?_
    refine bj (iO (i:=4) (q:=1) (β:=aY) (γ:=eG) s7 (ad rfl) rfl rfl) ?_
    obtain⟨pq,vE,h⟩:=ay h
    refine dp vE (cT (b:=({ (default:eG) with dD:=3,sQ:=2,n7:=1 } :eG)) rfl BL pc (.cons AV rfl (bD 3) rfl (.cons HE rfl (bD 2) rfl (.cons AG rfl (bD 1) rfl (.nil))))) ?_
    refine gx [pq] Tryz.underlying31 vq pc ?_
    obtain⟨gT,qa,h⟩:=ay h
    refine j2 5 Tryz.underlying31 vq pc qa fun ly mN=> ?_
    refine aT (aQ va) ?_
    refine ai.jf (i:=4) (γ:=eG) (b':=(({ cu.1 with nf:= [] } :aY):aY)) (os':= [(5,aV aw.1 bB.length aw.2),(7,aV ly gT.length mN)]) ((aK.id aY).comp AF) s7 (ad rfl) (ad rfl) ic rfl rfl rfl rfl ?_
    refine ai.nil ?_
    obtain rfl:=aH h
    exact df 0 (hm (ly,mN))
   ·have h:=gJ ar fX
    refine ag.skip ?_
    obtain rfl:=aH h
    exact df 0 (hm (a5.1,a5.2))
  ·have h:=gI ar du
   refine ag.cj ?_
   refine aT (aQ va) ?_
   refine bj (iO (i:=4) (q:=1) (β:=aY) (γ:=eG) s7 (ad rfl) rfl rfl) ?_
   obtain⟨FT,Uq,h⟩:=ay h
   refine dp Uq (cT (b:=({ (default:eG) with dD:=2,lP:=4,n7:=1 } :eG)) rfl BL pc (.cons AV rfl (bD 2) rfl (.cons Hy rfl (bD 4) rfl (.cons AG rfl (bD 1) rfl (.nil))))) ?_
   refine gx [FT] Tryz.underlying31 vq pc ?_
   obtain⟨gU,qb,h⟩:=ay h
   refine j2 5 Tryz.underlying31 vq pc qb fun ot nS=> ?_
   refine aT (aQ va) ?_
   refine ai.jf (i:=4) (γ:=eG) (b':=(({ ({ ({ ko with iP:=dr.1 } :aY) with mu:= [] } :aY) with nf:= [] } :aY):aY)) (os':= [(5,aV aw.1 bB.length aw.2),(7,aV ot gU.length nS)]) ((aK.id aY).comp AF) s7 (ad rfl) (ad rfl) ic rfl rfl rfl rfl ?_
   refine ai.nil ?_
   obtain rfl:=aH h
   exact df 0 (hm (ot,nS))
  ·have h:=gJ ar du
   refine ag.skip ?_
   obtain rfl:=aH h
   exact df 0 (hm (none,0))
 ·have h:=gI ar cz
  refine ag.cj ?_
  refine aT (aQ ED) ?_
  refine bj (iO (i:=4) (q:=0) (β:=aY) (γ:=fr) BY (ad rfl) rfl rfl) ?_
  refine ho yw rr ({ (default:fr) with dD:=1 } :fr) (h4 wR .nil) ?_
  refine gx [({ (default:fr) with dD:=1 } :fr)] Tryz.underlying29 E4 rr ?_
  obtain⟨hU,s6,h⟩:=ay h
  refine j2 1 Tryz.underlying29 E4 rr s6 fun pg y1=> ?_
  refine aT (aQ ED) ?_
  refine ai.jf (i:=4) (γ:=fr) (b':=(({ ({ ko with iP:=dr.1 } :aY) with mu:= [] } :aY):aY)) (os':= [(5,aV pg hU.length y1),(7,aV none ([]:List eG).length 0)]) ((aK.id aY).comp C5) BY (ad rfl) (ad rfl) ic rfl rfl rfl rfl ?_
  refine ai.nil ?_
  obtain rfl:=aH h
  exact df 0 (hm (pg,y1))
 ·have h:=gJ ar cz
  refine ag.skip ?_
  obtain rfl:=aH h
  exact df 0 (hm (gR,4))
end Go.Proofs.YtmnggbjcnoffeaaGreat
