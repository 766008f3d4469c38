/-
  Each function meets its functional program. Conditions: none.
-/
import Derived.Test.YtppgfphgdogpeaaGreatMc1
import Derived.Test.YtppgfphgdogpeaaGreatMc0
set_option linter.unusedVariables false
set_option linter.unusedSimpArgs false
set_option maxRecDepth 100000
set_option maxHeartbeats 2000000
namespace Go.Proofs.YtppgfphgdogpeaaGreat
open Go Gv Go.Proofs.Tryz
theorem XP {hp:aC Cell}{J:Ref}{ah:a8}{Q:Int×(aC Cell)→Prop}(h:wD hp J ah Q):bt prog 36 [I.of J,I.of ah] ([]++aH hp) (δ:= {r:Int×(aC Cell) // Q r}×Unit) (fun d=>I.of d.1.1.1) (fun d=>[]++aH d.1.1.2):=by
 unfold wD at h;refine bt.of func36 rfl ntmps36 rfl fun W A=>ax (cj fun bk=>?_);refine cj fun bB=>?_;refine aK (bA (ax ?_));refine bz 1 iM ?_;refine a6 (kS underlying36 (aa rfl)) (aG ?_);refine kd h (fun h=>?_) fun h=>?_
 ·refine ax (aK (aG (ag.ret (ad.ret ?_))));exact ad.dS (⟨⟨(6,hp),h⟩,()⟩: {r // _}×_) (dY 2) rfl rfl (cO rfl)
 refine cu (ag.seq (ak.bG h fun eM iP h=>ak.bG h fun dh gi h=>?_));obtain⟨gE,pz,uf⟩:=ak.ex h;refine ag.E8 mixed 12 (b9 12 0) rfl rfl (bb.cf (γ:=(Subtype gE)×Nat) [2,3,4] 0 2 1 (b9 12 2047) (fun lL=>[(5,I.bq lL.2),(17,I.of lL.1.1.2.1)]) (fun lL=>[aN lL.2 lL.1.1.1]) (fun lL=>aH lL.1.1.2.2) (fun lL=>?_) (fun vk=>?_))
 ·obtain⟨⟨aq,hI⟩,ck⟩:=lL;have h:=uf aq hI;refine bb.tail 11 rfl (by kernel_rfl) ?_;refine ab.eN (L2:=(aN ck aq.1::aN bB ah::aN bk J::aH aq.2.2)) rfl (ab.le (E':= [(2,I.bq bk),(3,I.bq bB),(4,I.of (0:Int)),(5,I.bq ck),(17,I.of aq.2.1)]) .all (aK (bA (ax ?_))));refine ay ?_;refine bo ou (aG ?_);refine kd h (fun h=>?_) fun h=>?_
  ·refine ax (ay ?_);refine aK (aG (ag.ret (ad.ret ?_)));exact ad.dS (⟨⟨(aq.2.1,aq.2.2),h⟩,()⟩: {r // _}×_) (dY 3) rfl rfl (cO rfl)
  refine cu (ag.seq (ak.bG h fun lz qj h=>ak.bG h fun gd nv h=>ag.eX mixed 6 (rg 21 6) [[],[0],[1],[2],[],[4]] [_,_,_,_,_,_] ⟨hM 2 iM,c5 fun al=>b1 (cG (aa rfl) qj),H1 (aM BO),c5 fun al=>im ((aJ.id dO).comp yk) (r:=gd.1.nh) zx (aa rfl) (gM (fun i e q=>al i e q rfl) (iu (n:=3) rfl (gh nv) rfl)) rfl rfl (by rfl),H1 (aM ja),eA 0 h4 cq,trivial⟩ ?_));refine ak.bG h fun aD cb h=>ab.eS 3 0 rfl N9 (K8 cb) rfl rfl ⟨aa rfl,aa rfl,trivial⟩ rfl fun aB=>ab.en (bA ?_);refine ak.bG h fun jk pG h=>ag.eX mixed 6 (rg 28 6) [[],[0],[1],[2],[],[4]] [_,_,_,_,_,_] ⟨hM 2 iM,c5 fun al=>b1 (cG (aa rfl) qj),H1 (aM EL),c5 fun al=>im ((aJ.id dO).comp An) (r:=jk.1.oj) Ch (aa rfl) (gM (fun i e q=>al i e q rfl) (iu (n:=3) rfl (gh pG) rfl)) rfl rfl (by rfl),H1 (aM BI),eA 0 tD bj,trivial⟩ ?_;refine ak.bG h fun bh eK h=>ab.eS 3 0 rfl VN (Qj eK) rfl rfl ⟨aa rfl,aa rfl,trivial⟩ rfl fun ef=>ab.en (bT ?_);refine bz 2 iM ?_;refine ab.share (α:=Ref) 2 2 rfl rfl (ab.share (α:=az) 0 5 rfl rfl (a6 (MQ (Ji (f:=80) (τs:= [I.ptr J,I.ptr aq.1]) ⟨aa rfl,aa rfl,trivial⟩) (fun _ _ _ h=>ado h)) ?_));refine ak.bG h fun iR qn h=>ak.bG h fun bL fx h=>ab.rr (e2.obj 3 (fun q:Option Nat×Nat=>Cell.n3 bL q.1 q.2) rfl (gh qn) N8 (KS fx) rfl (fun _=>rfl) ⟨cG (aa rfl) qj,aa rfl,trivial⟩) rfl rfl rfl fun ev=>?_;replace h:=ak.any_bind h ev;refine ak.bG h fun bR hj h=>ab.eN (L2:=(⟨none,.dead⟩::aN bB ah::⟨none,.dead⟩::aH bR)) (by rw [← di hj];rfl) ?_;refine bT (aK (aG (ag.ret ?_)));exact ad.dS (⟨⟨(0,bR),h⟩,()⟩: {r // _}×_) (dY 3) rfl rfl (cO rfl)
 refine bb.cf (γ:=(Subtype gE)×Nat) [2,3,4] 0 2 2 (b9 12 1791) (fun jw=>[(5,I.bq jw.2),(9,I.c4 [I.of jw.1.1.1,I.of jw.1.1.2.1])]) (fun jw=>[aN jw.2 jw.1.1.1]) (fun jw=>aH jw.1.1.2.2) (fun jw=>?_) (fun Ca=>?_)
 ·refine bb.s1 8 ?_
  ·refine eu ?_;exact ab.bl (vk (jw.1,jw.2))
 refine bb.cf (γ:=(Subtype gE)×Nat) [2,3,4] 0 2 2 (b9 12 1023) (fun kZ=>[(5,I.bq kZ.2),(16,I.of kZ.1.1.1),(17,I.of kZ.1.1.2.1)]) (fun kZ=>[aN kZ.2 (default:az)]) (fun kZ=>aH kZ.1.1.2.2) (fun kZ=>?_) (fun tX=>?_)
 ·refine bb.s1 10 ?_
  ·refine cz 0 b7 ?_;exact ab.bl (vk (kZ.1,kZ.2))
 refine bb.cf (γ:=(Subtype gE)×Nat) [2,3,4] 0 2 3 (b9 12 895) (fun kn=>[(5,I.bq kn.2),(9,I.c4 [I.of kn.1.1.1,I.of kn.1.1.2.1]),(17,I.of kn.1.1.2.1)]) (fun kn=>[aN kn.2 (default:az)]) (fun kn=>aH kn.1.1.2.2) (fun kn=>?_) (fun xr=>?_)
 ·refine bb.s1 7 ?_
  ·refine eu ?_;exact ab.bl (tX (kn.1,kn.2))
 refine bb.cf (γ:=(Subtype gE)×Nat) [2,3,4] 0 2 3 (b9 12 767) (fun iL=>[(5,I.bq iL.2),(9,I.c4 [I.of iL.1.1.1,I.of iL.1.1.2.1]),(16,I.of iL.1.1.1)]) (fun iL=>[aN iL.2 (default:az)]) (fun iL=>aH iL.1.1.2.2) (fun iL=>?_) (fun tY=>?_)
 ·refine bb.s2 8 10 ?_ ?_
  ·refine eu ?_;exact ab.bl (tX (iL.1,iL.2))
  refine cz 0 b7 ?_;exact ab.bl (Ca (iL.1,iL.2))
 refine bb.cf (γ:=Subtype gE) [2,3,4] 0 2 3 (b9 12 511) (fun lM=>[(16,I.of lM.1.1),(17,I.of lM.1.2.1)]) (fun lM=>[]) (fun lM=>aH lM.1.2.2) (fun lM=>?_) (fun vl=>?_)
 ·refine bb.s1 9 ?_
  ·refine bX dt fun ck=>?_;exact ab.bl (tX (lM,ck))
 refine bb.cf (γ:=(Subtype gE)×Nat) [2,3,4] 0 2 4 (b9 12 639) (fun jc=>[(5,I.bq jc.2),(9,I.c4 [I.of jc.1.1.1,I.of jc.1.1.2.1])]) (fun jc=>[aN jc.2 (default:az)]) (fun jc=>aH jc.1.1.2.2) (fun jc=>?_) (fun vm=>?_)
 ·refine bb.s2 7 8 ?_ ?_
  ·refine eu ?_;exact ab.bl (tY (jc.1,jc.2))
  refine eu ?_;exact ab.bl (xr (jc.1,jc.2))
 refine bb.cf (γ:=Subtype gE) [2,3,4] 0 2 4 (b9 12 383) (fun lN=>[(9,I.c4 [I.of lN.1.1,I.of lN.1.2.1]),(17,I.of lN.1.2.1)]) (fun lN=>[]) (fun lN=>aH lN.1.2.2) (fun lN=>?_) (fun ze=>?_)
 ·refine bb.s2 7 9 ?_ ?_
  ·refine eu ?_;exact ab.bl (vl lN)
  refine bX dt fun ck=>?_;exact ab.bl (xr (lN,ck))
 refine bb.cf (γ:=Subtype gE) [2,3,4] 0 2 4 (b9 12 255) (fun j7=>[(9,I.c4 [I.of j7.1.1,I.of j7.1.2.1]),(16,I.of j7.1.1)]) (fun j7=>[]) (fun j7=>aH j7.1.2.2) (fun j7=>?_) (fun Cb=>?_)
 ·refine bb.s2 8 9 ?_ ?_
  ·refine eu ?_;exact ab.bl (vl j7)
  refine bX dt fun ck=>?_;exact ab.bl (tY (j7,ck))
 refine bb.cf (γ:=(Subtype gE)×Nat) [2,3,4] 0 2 5 (b9 12 575) (fun k0=>[(5,I.bq k0.2),(15,I.c4 [I.of k0.1.1.1,I.of k0.1.1.2.1])]) (fun k0=>[aN k0.2 (default:az)]) (fun k0=>aH k0.1.1.2.2) (fun k0=>?_) (fun xt=>?_)
 ·refine bb.s1 6 ?_
  ·refine ay ?_;exact ab.bl (vm (k0.1,k0.2))
 refine bb.cf (γ:=Subtype gE) [2,3,4] 0 2 5 (b9 12 127) (fun lO=>[(9,I.c4 [I.of lO.1.1,I.of lO.1.2.1])]) (fun lO=>[]) (fun lO=>aH lO.1.2.2) (fun lO=>?_) (fun Cc=>?_)
 ·refine bb.iQ [7,8,9] ⟨⟨_,rfl,?_⟩,⟨_,rfl,?_⟩,⟨_,rfl,?_⟩,trivial⟩
  ·refine eu ?_;exact ab.bl (Cb lO)
  ·refine eu ?_;exact ab.bl (ze lO)
  refine bX dt fun ck=>?_;exact ab.bl (vm (lO,ck))
 refine bb.cf (γ:=Nat) [2,3,4] 0 2 6 (b9 12 543) (fun oq=>[(5,I.bq oq),(13,I.of dh.1.fe),(14,I.of ah)]) (fun oq=>[aN oq (default:az)]) (fun oq=>aH hp) (fun oq=>?_) (fun vn=>?_)
 ·refine bb.s1 5 ?_
  ·refine ab.eS 3 0 rfl FA (DA pz) rfl rfl ⟨aa rfl,aa rfl,trivial⟩ rfl fun⟨⟨aq,hI⟩,_⟩=>?_;refine ab.en ?_;exact ab.bl (xt (⟨aq,hI⟩,oq))
 refine bb.cf (γ:=Subtype gE) [2,3,4] 0 2 6 (b9 12 63) (fun j6=>[(15,I.c4 [I.of j6.1.1,I.of j6.1.2.1])]) (fun j6=>[]) (fun j6=>aH j6.1.2.2) (fun j6=>?_) (fun sX=>?_)
 ·refine bb.s2 6 9 ?_ ?_
  ·refine ay ?_;exact ab.bl (Cc j6)
  refine bX dt fun ck=>?_;exact ab.bl (xt (j6,ck))
 refine bb.cf (γ:=Nat) [2,3,4] 0 2 7 (b9 12 535) (fun kX=>[(5,I.bq kX),(12,I.eq (.pointer (some ⟨eM,0+0,none⟩))),(14,I.of ah)]) (fun kX=>[aN kX (default:az)]) (fun kX=>aH hp) (fun kX=>?_) (fun p9=>?_)
 ·refine bb.s1 3 ?_
  ·refine a6 (im ((aJ.id dO).comp kP) (r:=dh.1.fe) k6 (aa rfl) (iu (n:=3) rfl (gh gi) rfl) rfl rfl (by rfl)) ?_;exact ab.bl (vn kX)
 refine bb.cf (γ:=Nat) [2,3,4] 0 2 7 (b9 12 527) (fun kY=>[(5,I.bq kY),(13,I.of dh.1.fe)]) (fun kY=>[aN kY (default:az)]) (fun kY=>aH hp) (fun kY=>?_) (fun rZ=>?_)
 ·refine bb.s1 4 ?_
  ·refine bz 1 cq ?_;exact ab.bl (vn kY)
 refine bb.cf (γ:=Unit) [2,3,4] 0 2 7 (b9 12 31) (fun po=>[(13,I.of dh.1.fe),(14,I.of ah)]) (fun po=>[]) (fun po=>aH hp) (fun po=>?_) (fun qZ=>?_)
 ·refine bb.s2 5 9 ?_ ?_
  ·refine ab.eS 2 0 rfl FA (DA pz) rfl rfl ⟨aa rfl,aa rfl,trivial⟩ rfl fun⟨⟨aq,hI⟩,_⟩=>?_;refine ab.en ?_;exact ab.bl (sX ⟨aq,hI⟩)
  refine bX dt fun ck=>?_;exact ab.bl (vn ck)
 refine bb.cf (γ:=Nat) [2,3,4] 0 2 8 (b9 12 531) (fun kD=>[(5,I.bq kD),(11,I.bq eM),(14,I.of ah)]) (fun kD=>[aN kD (default:az)]) (fun kD=>aH hp) (fun kD=>?_) (fun r1=>?_)
 ·refine bb.s1 2 ?_
  ·refine aP (aM lh) ?_;exact ab.bl (p9 kD)
 refine bb.cf (γ:=Nat) [2,3,4] 0 2 8 (b9 12 519) (fun lK=>[(5,I.bq lK),(12,I.eq (.pointer (some ⟨eM,0+0,none⟩)))]) (fun lK=>[aN lK (default:az)]) (fun lK=>aH hp) (fun lK=>?_) (fun sY=>?_)
 ·refine bb.s2 3 4 ?_ ?_
  ·refine a6 (im ((aJ.id dO).comp kP) (r:=dh.1.fe) k6 (aa rfl) (iu (n:=3) rfl (gh gi) rfl) rfl rfl (by rfl)) ?_;exact ab.bl (rZ lK)
  refine bz 1 cq ?_;exact ab.bl (p9 lK)
 refine bb.cf (γ:=Unit) [2,3,4] 0 2 8 (b9 12 23) (fun lJ=>[(12,I.eq (.pointer (some ⟨eM,0+0,none⟩))),(14,I.of ah)]) (fun lJ=>[]) (fun lJ=>aH hp) (fun lJ=>?_) (fun p7=>?_)
 ·refine bb.s2 3 9 ?_ ?_
  ·refine a6 (im ((aJ.id dO).comp kP) (r:=dh.1.fe) k6 (aa rfl) (iu (n:=2) rfl (gh gi) rfl) rfl rfl (by rfl)) ?_;exact ab.bl (qZ ())
  refine bX dt fun ck=>?_;exact ab.bl (p9 ck)
 refine bb.cf (γ:=Unit) [2,3,4] 0 2 8 (b9 12 15) (fun lj=>[(13,I.of dh.1.fe)]) (fun lj=>[]) (fun lj=>aH hp) (fun lj=>?_) (fun qY=>?_)
 ·refine bb.s2 4 9 ?_ ?_
  ·refine bz 0 cq ?_;exact ab.bl (qZ ())
  refine bX dt fun ck=>?_;exact ab.bl (rZ ck)
 refine bb.cf (γ:=Nat) [2,3,4] 0 2 9 (b9 12 529) (fun jb=>[(5,I.bq jb),(10,I.of J),(14,I.of ah)]) (fun jb=>[aN jb (default:az)]) (fun jb=>aH hp) (fun jb=>?_) (fun p8=>?_)
 ·refine bb.s1 1 ?_
  ·refine a6 (b1 (cG (aa rfl) iP)) ?_;exact ab.bl (r1 jb)
 refine bb.cf (γ:=Nat) [2,3,4] 0 2 9 (b9 12 515) (fun jv=>[(5,I.bq jv),(11,I.bq eM)]) (fun jv=>[aN jv (default:az)]) (fun jv=>aH hp) (fun jv=>?_) (fun pq=>?_)
 ·refine bb.s2 2 4 ?_ ?_
  ·refine aP (aM lh) ?_;exact ab.bl (sY jv)
  refine bz 1 cq ?_;exact ab.bl (r1 jv)
 refine bb.cf (γ:=Unit) [2,3,4] 0 2 9 (b9 12 19) (fun l9=>[(11,I.bq eM),(14,I.of ah)]) (fun l9=>[]) (fun l9=>aH hp) (fun l9=>?_) (fun qf=>?_)
 ·refine bb.s2 2 9 ?_ ?_
  ·refine aP (aM lh) ?_;exact ab.bl (p7 ())
  refine bX dt fun ck=>?_;exact ab.bl (r1 ck)
 refine bb.cf (γ:=Unit) [2,3,4] 0 2 9 (b9 12 7) (fun jL=>[(12,I.eq (.pointer (some ⟨eM,0+0,none⟩)))]) (fun jL=>[]) (fun jL=>aH hp) (fun jL=>?_) (fun q3=>?_)
 ·refine bb.iQ [3,4,9] ⟨⟨_,rfl,?_⟩,⟨_,rfl,?_⟩,⟨_,rfl,?_⟩,trivial⟩
  ·refine a6 (im ((aJ.id dO).comp kP) (r:=dh.1.fe) k6 (aa rfl) (iu (n:=2) rfl (gh gi) rfl) rfl rfl (by rfl)) ?_;exact ab.bl (qY ())
  ·refine bz 0 cq ?_;exact ab.bl (p7 ())
  refine bX dt fun ck=>?_;exact ab.bl (sY ck)
 refine bb.cf (γ:=Nat) [2,3,4] 0 2 10 (b9 12 528) (fun k2=>[(5,I.bq k2),(14,I.of ah)]) (fun k2=>[aN k2 (default:az)]) (fun k2=>aH hp) (fun k2=>?_) (fun qg=>?_)
 ·refine bb.s1 0 ?_
  ·refine bz 2 iM ?_;exact ab.bl (p8 k2)
 refine bb.cf (γ:=Nat) [2,3,4] 0 2 10 (b9 12 513) (fun ko=>[(5,I.bq ko),(10,I.of J)]) (fun ko=>[aN ko (default:az)]) (fun ko=>aH hp) (fun ko=>?_) (fun q4=>?_)
 ·refine bb.s2 1 4 ?_ ?_
  ·refine a6 (b1 (cG (aa rfl) iP)) ?_;exact ab.bl (pq ko)
  refine bz 1 cq ?_;exact ab.bl (p8 ko)
 refine bb.cf (γ:=Unit) [2,3,4] 0 2 10 (b9 12 17) (fun ni=>[(10,I.of J),(14,I.of ah)]) (fun ni=>[]) (fun ni=>aH hp) (fun ni=>?_) (fun q5=>?_)
 ·refine bb.s2 1 9 ?_ ?_
  ·refine a6 (b1 (cG (aa rfl) iP)) ?_;exact ab.bl (qf ())
  refine bX dt fun ck=>?_;exact ab.bl (p8 ck)
 refine bb.cf (γ:=Unit) [2,3,4] 0 2 10 (b9 12 3) (fun j9=>[(11,I.bq eM)]) (fun j9=>[]) (fun j9=>aH hp) (fun j9=>?_) (fun ug=>?_)
 ·refine bb.iQ [2,4,9] ⟨⟨_,rfl,?_⟩,⟨_,rfl,?_⟩,⟨_,rfl,?_⟩,trivial⟩
  ·refine aP (aM lh) ?_;exact ab.bl (q3 ())
  ·refine bz 0 cq ?_;exact ab.bl (qf ())
  refine bX dt fun ck=>?_;exact ab.bl (pq ck)
 refine bb.cf (γ:=Nat) [2,3,4] 0 2 11 (b9 12 512) (fun kp=>[(5,I.bq kp)]) (fun kp=>[aN kp (default:az)]) (fun kp=>aH hp) (fun kp=>?_) (fun vw=>?_)
 ·refine bb.s2 0 4 ?_ ?_
  ·refine bz 2 iM ?_;exact ab.bl (q4 kp)
  refine bz 1 cq ?_;exact ab.bl (qg kp)
 refine bb.cf (γ:=Unit) [2,3,4] 0 2 11 (b9 12 16) (fun nj=>[(14,I.of ah)]) (fun nj=>[]) (fun nj=>aH hp) (fun nj=>?_) (fun vx=>?_)
 ·refine bb.s2 0 9 ?_ ?_
  ·refine bz 1 iM ?_;exact ab.bl (q5 ())
  refine bX dt fun ck=>?_;exact ab.bl (qg ck)
 refine bb.cf (γ:=Unit) [2,3,4] 0 2 11 (b9 12 1) (fun nk=>[(10,I.of J)]) (fun nk=>[]) (fun nk=>aH hp) (fun nk=>?_) (fun vy=>?_)
 ·refine bb.iQ [1,4,9] ⟨⟨_,rfl,?_⟩,⟨_,rfl,?_⟩,⟨_,rfl,?_⟩,trivial⟩
  ·refine a6 (b1 (cG (aa rfl) iP)) ?_;exact ab.bl (ug ())
  ·refine bz 0 cq ?_;exact ab.bl (q5 ())
  refine bX dt fun ck=>?_;exact ab.bl (q4 ck)
 refine bb.iQ [0,4,9] ⟨⟨_,rfl,?_⟩,⟨_,rfl,?_⟩,⟨_,rfl,?_⟩,trivial⟩
 ·refine bz 1 iM ?_;exact ab.bl (vy ())
 ·refine bz 0 cq ?_;exact ab.bl (vx ())
 refine bX dt fun ck=>?_;exact ab.bl (vw ck)
theorem Qn {hp:aC Cell}{J:Ref}{ah:a8}{Q:az×Int×(aC Cell)→Prop}(h:AF hp J ah Q):bt prog 107 [I.of J,I.of ah] ([]++aH hp) (δ:= {r:az×Int×(aC Cell) // Q r}×Unit) (fun d=>I.c4 [I.of d.1.1.1,I.of d.1.1.2.1]) (fun d=>[]++aH d.1.1.2.2):=by
 unfold AF at h;refine bt.of func107 rfl ntmps107 rfl fun W A=>ax (cj fun bk=>?_);refine bX dt fun bB=>?_;refine aK (bT ?_);refine ay ?_;refine bz 1 cq ?_;refine ab.eS 2 0 rfl FA (DA h) rfl rfl ⟨aa rfl,aa rfl,trivial⟩ rfl fun⟨⟨aq,h⟩,aB⟩=>?_;refine ab.en ?_;refine ay ?_;refine eu ?_;refine eu ?_;refine bX dt fun ck=>?_;refine cz 0 b7 ?_;refine aK (bA (ax ?_));refine ay ?_;refine bo ou (aG ?_);refine kd h (fun h=>?_) fun h=>?_
 ·refine ax (gC qe dt (default:az) .nil ?_);refine ay ?_;refine cz 1 b7 ?_;refine aK (aG (ag.ret (ad.ret ?_)));exact ad.je (⟨⟨((default:az),aq.2.1,aq.2.2),h⟩,()⟩: {r // _}×_) (dY 3) rfl rfl (iw (i:=1) b7 rfl rfl) (cO rfl)
 refine cu (ag.seq (ak.bG h fun bJ cF h=>ak.bG h fun c1 cZ h=>ak.bG h fun cY fp h=>ak.bG h fun c2 eV h=>ak.bG h fun bw dn h=>ak.bG h fun z2 iy h=>ag.eX mixed 13 (rg 18 13) [[],[0],[1],[2],[],[4],[3,5],[],[],[8],[],[10],[7,9,11]] [_,_,_,_,_,_,_,_,_,_,_,_,_] ⟨dL,c5 fun al=>b1 (cG (aa rfl) cF),H1 (aM Iw),c5 fun al=>e0 ((aJ.id iW).comp Da) (r:=c1.pV) E1 (aa rfl) (gM (fun i e q=>al i e q rfl) (eb (n:=3) rfl (nO cZ) rfl)) rfl rfl,H1 (aM lI),eA 2 kQ bj,c5 fun al=>uU (r:=bw) underlying161 zF Ua (lE (aa rfl) fp) (aa rfl) (gM (fun i e q=>al i e q rfl) (eb (n:=3) rfl (w8 eV) rfl)) (di dn),hM 2 cq,H1 (aM qU),eA 0 oe bj,H1 (aM BI),eA 0 tD bj,x4 iy fun L' al=>dg (b:= { bd:=ah,b8:=aq.1.b8,dA:=aq.1.dA:az }) rfl qe dt (.cons h4 rfl (aa rfl) rfl (.cons oe rfl (aa rfl) rfl (.cons tD rfl (aa rfl) rfl (.nil)))),trivial⟩ ?_));refine ab.eS 3 0 rfl Nz (Li h) rfl rfl ⟨aa rfl,aa rfl,trivial⟩ rfl fun⟨⟨aD,h⟩,ef⟩=>?_;refine ab.en (bT ?_);refine bz 0 b7 ?_;refine cz 1 b7 ?_;refine aK (aG (ag.ret ?_));exact ad.je (⟨⟨(aq.1,0,aD.2),h⟩,()⟩: {r // _}×_) (dY 3) rfl rfl (iw (i:=1) b7 rfl rfl) (cO rfl)
theorem Qb {hp:aC Cell}{J:Ref}{ah:a8}{Q:a8×a8×Int×(aC Cell)→Prop}(h:yl hp J ah Q):bt prog 74 [I.of J,I.of ah] ([]++aH hp) (δ:= {r:a8×a8×Int×(aC Cell) // Q r}×Unit) (fun d=>I.c4 [I.of d.1.1.1,I.of d.1.1.2.1,I.of d.1.1.2.2.1]) (fun d=>[]++aH d.1.1.2.2.2):=by
 unfold yl at h;refine bt.of func74 rfl ntmps74 rfl fun W A=>ax (cj fun bk=>?_);refine bX qc fun bB=>?_;refine bX qc fun ck=>?_;refine aK (bA ?_);refine ak.bG h fun eM iP h=>ak.bG h fun dh gi h=>?_;obtain⟨gE,pz,uf⟩:=ak.ex h;refine ag.E8 mixed 12 (b9 12 0) rfl rfl (bb.cf (γ:=(Subtype gE)×Nat) [0,3,4,5,6] 0 3 1 (b9 12 2047) (fun lL=>[(7,I.bq lL.2),(18,I.of lL.1.1.2.1)]) (fun lL=>[aN lL.2 lL.1.1.1]) (fun lL=>aH lL.1.1.2.2) (fun lL=>?_) (fun vk=>?_))
 ·obtain⟨⟨aq,hI⟩,cx⟩:=lL;have h:=uf aq hI;refine bb.tail 11 rfl (by kernel_rfl) ?_;refine ab.eN (L2:=(aN cx aq.1::aN ck (default:a8)::aN bB (default:a8)::aN bk ah::aH aq.2.2)) rfl (ab.le (E':= [(0,I.of J),(3,I.bq bk),(4,I.bq bB),(5,I.bq ck),(6,I.of (0:Int)),(7,I.bq cx),(18,I.of aq.2.1)]) .all (aK (bA (ax ?_))));refine ay ?_;refine bo ou (aG ?_);refine kd h (fun h=>?_) fun h=>?_
  ·refine ax (gC JK qc (default:a8) .nil ?_);refine gC JK qc (default:a8) .nil ?_;refine ay ?_;refine cz 2 cq ?_;refine cz 1 cq ?_;refine aK (aG (ag.ret (ad.ret ?_)));exact ad.US (⟨⟨((default:a8),(default:a8),aq.2.1,aq.2.2),h⟩,()⟩: {r // _}×_) (dY 4) rfl rfl (iw (i:=2) cq rfl rfl) (iw (i:=1) cq rfl rfl) (cO rfl)
  refine cu (ag.seq (ak.bG h fun lz qj h=>ak.bG h fun gd nv h=>ak.bG h fun aD cb h=>ag.B7 1 4 (gD [0,3,4,5,6,7,18,19,20] ?_)));refine ag.oN 5 mixed (aL 25 [] [] _::aL 26 [0] [] _::aL 27 [1] [] _::aL 28 [2] [] (I.of gd.1.fe)::aL 29 [] [3] _::aL 30 [3,4] [] (I.c4 [I.of aD.1,I.of aD.2])::aL 24 [5] [] _::aL 31 [6] [] _::aL 32 [6] [] _::⟨some 8,[],[4],[4],fun hd=>I.bq ((hd 9 0).getD 0),fun hd _=>aN ((hd 9 0).getD 0) (default:az)⟩::iE [7,9] [4] [4] (fun hd=>aN ((hd 9 0).getD 0) aD.1)::aL 9 [8] [] _::[]) [0,3,4,5,6,7,18,19,20] ⟨bY.q dN,bY.q (bZ fun an al=>b1 (cG (aa (an _ _ rfl)) qj)),bY.q (db (aM lh)),?_,bY.q (jq 3 cq),?_,bY.q dN,bY.q (bZ fun an al=>k1 (aa (an _ _ rfl)) rfl),bY.q (bZ fun an al=>k1 (aa (an _ _ rfl)) rfl),?_,?_,bY.q (bZ fun an al=>dx (aa (an _ _ rfl))),trivial⟩ fun dj=>?_
  ·intro hd E' L' an al cS;refine a6 (im ((aJ.id dO).comp kP) (r:=gd.1.fe) k6 (aa (an _ _ rfl)) (iu (n:=5) (cS.trans rfl) (gh nv) rfl) rfl rfl (by rfl)) ?_;exact ab.nil (ad.fin (cV []) rfl rfl)
  ·intro hd E' L' an al cS;refine ab.gj (eW.iv 5 (cS.trans rfl) VJ (Qu cb) ⟨aa (an _ _ rfl),aa (an _ _ rfl),trivial⟩) rfl rfl rfl (ab.nil ?_);exact ad.fin (cV []) rfl rfl
  ·intro hd E' L' an al cS;refine bX dt fun tt=>ab.nil ?_;exact ad.place 4 (al 4 _ rfl rfl) (ad.fin (cV [some tt]) rfl rfl)
  ·intro hd E' L' an al cS;exact ab.store (i:=4) (aJ.id az) (v:=aD.1) (b':=aD.1) b7 (aa (an _ _ rfl)) (aa (an _ _ rfl)) (al 4 _ rfl rfl) rfl rfl (ab.nil (ad.fin (cV []) rfl rfl))
  refine ad.eN (L2:=(aN cx aq.1::aN ck (default:a8)::aN bB (default:a8)::aN bk ah::aN ((dj 9 0).getD 0) aD.1::aH aq.2.2)) rfl (gU [0,3,4,5,6,7,8,9,18,19,20,24,25,26,27,28,29,30,31,32] ?_);refine ad.bI 4 rfl (ad.next (ag.seq (ak.bG h fun kM qm h=>ak.bG h fun jk pG h=>ag.eX mixed 6 (rg 33 6) [[],[0],[1],[2],[],[4]] [_,_,_,_,_,_] ⟨dL,c5 fun al=>b1 (cG (aa rfl) qm),H1 (aM BO),c5 fun al=>im ((aJ.id dO).comp yk) (r:=jk.1.nh) zx (aa rfl) (gM (fun i e q=>al i e q rfl) (iu (n:=5) rfl (gh pG) rfl)) rfl rfl (by rfl),H1 (aM ja),eA 1 h4 cq,trivial⟩ ?_)));refine ak.bG h fun bh eK h=>ab.eS 5 0 rfl N9 (K8 eK) rfl rfl ⟨aa rfl,aa rfl,trivial⟩ rfl fun aB=>ab.en (bA ?_);refine ak.bG h fun iR qn h=>ag.eX mixed 6 (rg 40 6) [[],[0],[1],[2],[],[4]] [_,_,_,_,_,_] ⟨dL,c5 fun al=>b1 (cG (aa rfl) qm),H1 (aM BO),c5 fun al=>im ((aJ.id dO).comp yk) (r:=iR.1.nh) zx (aa rfl) (gM (fun i e q=>al i e q rfl) (iu (n:=5) rfl (gh qn) rfl)) rfl rfl (by rfl),H1 (aM ja),eA 0 h4 cq,trivial⟩ ?_;refine ak.bG h fun bL fx h=>ab.eS 5 0 rfl N7 (Lh fx) rfl rfl ⟨aa rfl,aa rfl,trivial⟩ rfl fun ef=>ab.en (bA ?_);refine gD [0,3,4,5,7,8,9,18,19,20,24,25,26,27,28,29,30,31,32,33,34,35,36,37,38,39,40,41,42,43,44,45,46] ?_;refine ag.oN 5 mixed (aL 47 [] [] _::aL 48 [0] [1] _::aL 49 [] [] _::aL 50 [2] [0] _::iE [1] [3] [3] (fun hd=>aN bB aq.1.bd)::iE [3] [2] [2] (fun hd=>aN ck aD.1.bd)::aL 6 [] [] _::[]) [0,3,4,5,7,8,9,18,19,20,24,25,26,27,28,29,30,31,32,33,34,35,36,37,38,39,40,41,42,43,44,45,46] ⟨bY.q (db (aM ja)),bY.q (hN 1 h4 cq),bY.q (db (aM ja)),bY.q (hN 0 h4 cq),?_,?_,bY.q (bZ fun an al=>dx (bS 0)),trivial⟩ fun gN=>?_
  ·intro hd E' L' an al cS;exact ab.store (i:=3) (aJ.id a8) (v:=aq.1.bd) (b':=aq.1.bd) cq (aa (an _ _ rfl)) (aa (an _ _ rfl)) (al 3 _ rfl rfl) rfl rfl (ab.nil (ad.fin (cV []) rfl rfl))
  ·intro hd E' L' an al cS;exact ab.store (i:=2) (aJ.id a8) (v:=aD.1.bd) (b':=aD.1.bd) cq (aa (an _ _ rfl)) (aa (an _ _ rfl)) (al 2 _ rfl rfl) rfl rfl (ab.nil (ad.fin (cV []) rfl rfl))
  refine ad.eN (L2:=(aN ((dj 9 0).getD 0) aD.1::aN cx aq.1::aN ck aD.1.bd::aN bB aq.1.bd::aN bk ah::aH bL)) rfl (gU [0,3,4,5,6,7,8,9,18,19,20,24,25,26,27,28,29,30,31,32,33,34,35,36,37,38,39,40,41,42,43,44,45,46,47,48,49,50] (ad.next (ag.ret ?_)));exact ad.US (⟨⟨(aq.1.bd,aD.1.bd,0,bL),h⟩,()⟩: {r // _}×_) (dY 5) rfl rfl (iw (i:=3) cq rfl rfl) (iw (i:=2) cq rfl rfl) (cO rfl)
 refine bb.cf (γ:=(Subtype gE)×Nat) [0,3,4,5,6] 0 3 2 (b9 12 1791) (fun jw=>[(7,I.bq jw.2),(10,I.c4 [I.of jw.1.1.1,I.of jw.1.1.2.1])]) (fun jw=>[aN jw.2 jw.1.1.1]) (fun jw=>aH jw.1.1.2.2) (fun jw=>?_) (fun Ca=>?_)
 ·refine bb.s1 8 ?_
  ·refine eu ?_;exact ab.bl (vk (jw.1,jw.2))
 refine bb.cf (γ:=(Subtype gE)×Nat) [0,3,4,5,6] 0 3 2 (b9 12 1023) (fun kZ=>[(7,I.bq kZ.2),(17,I.of kZ.1.1.1),(18,I.of kZ.1.1.2.1)]) (fun kZ=>[aN kZ.2 (default:az)]) (fun kZ=>aH kZ.1.1.2.2) (fun kZ=>?_) (fun tX=>?_)
 ·refine bb.s1 10 ?_
  ·refine cz 0 b7 ?_;exact ab.bl (vk (kZ.1,kZ.2))
 refine bb.cf (γ:=(Subtype gE)×Nat) [0,3,4,5,6] 0 3 3 (b9 12 895) (fun kn=>[(7,I.bq kn.2),(10,I.c4 [I.of kn.1.1.1,I.of kn.1.1.2.1]),(18,I.of kn.1.1.2.1)]) (fun kn=>[aN kn.2 (default:az)]) (fun kn=>aH kn.1.1.2.2) (fun kn=>?_) (fun xr=>?_)
 ·refine bb.s1 7 ?_
  ·refine eu ?_;exact ab.bl (tX (kn.1,kn.2))
 refine bb.cf (γ:=(Subtype gE)×Nat) [0,3,4,5,6] 0 3 3 (b9 12 767) (fun iL=>[(7,I.bq iL.2),(10,I.c4 [I.of iL.1.1.1,I.of iL.1.1.2.1]),(17,I.of iL.1.1.1)]) (fun iL=>[aN iL.2 (default:az)]) (fun iL=>aH iL.1.1.2.2) (fun iL=>?_) (fun tY=>?_)
 ·refine bb.s2 8 10 ?_ ?_
  ·refine eu ?_;exact ab.bl (tX (iL.1,iL.2))
  refine cz 0 b7 ?_;exact ab.bl (Ca (iL.1,iL.2))
 refine bb.cf (γ:=Subtype gE) [0,3,4,5,6] 0 3 3 (b9 12 511) (fun lM=>[(17,I.of lM.1.1),(18,I.of lM.1.2.1)]) (fun lM=>[]) (fun lM=>aH lM.1.2.2) (fun lM=>?_) (fun vl=>?_)
 ·refine bb.s1 9 ?_
  ·refine bX dt fun cx=>?_;exact ab.bl (tX (lM,cx))
 refine bb.cf (γ:=(Subtype gE)×Nat) [0,3,4,5,6] 0 3 4 (b9 12 639) (fun jc=>[(7,I.bq jc.2),(10,I.c4 [I.of jc.1.1.1,I.of jc.1.1.2.1])]) (fun jc=>[aN jc.2 (default:az)]) (fun jc=>aH jc.1.1.2.2) (fun jc=>?_) (fun vm=>?_)
 ·refine bb.s2 7 8 ?_ ?_
  ·refine eu ?_;exact ab.bl (tY (jc.1,jc.2))
  refine eu ?_;exact ab.bl (xr (jc.1,jc.2))
 refine bb.cf (γ:=Subtype gE) [0,3,4,5,6] 0 3 4 (b9 12 383) (fun lN=>[(10,I.c4 [I.of lN.1.1,I.of lN.1.2.1]),(18,I.of lN.1.2.1)]) (fun lN=>[]) (fun lN=>aH lN.1.2.2) (fun lN=>?_) (fun ze=>?_)
 ·refine bb.s2 7 9 ?_ ?_
  ·refine eu ?_;exact ab.bl (vl lN)
  refine bX dt fun cx=>?_;exact ab.bl (xr (lN,cx))
 refine bb.cf (γ:=Subtype gE) [0,3,4,5,6] 0 3 4 (b9 12 255) (fun j7=>[(10,I.c4 [I.of j7.1.1,I.of j7.1.2.1]),(17,I.of j7.1.1)]) (fun j7=>[]) (fun j7=>aH j7.1.2.2) (fun j7=>?_) (fun Cb=>?_)
 ·refine bb.s2 8 9 ?_ ?_
  ·refine eu ?_;exact ab.bl (vl j7)
  refine bX dt fun cx=>?_;exact ab.bl (tY (j7,cx))
 refine bb.cf (γ:=(Subtype gE)×Nat) [0,3,4,5,6] 0 3 5 (b9 12 575) (fun k0=>[(7,I.bq k0.2),(16,I.c4 [I.of k0.1.1.1,I.of k0.1.1.2.1])]) (fun k0=>[aN k0.2 (default:az)]) (fun k0=>aH k0.1.1.2.2) (fun k0=>?_) (fun xt=>?_)
 ·refine bb.s1 6 ?_
  ·refine ay ?_;exact ab.bl (vm (k0.1,k0.2))
 refine bb.cf (γ:=Subtype gE) [0,3,4,5,6] 0 3 5 (b9 12 127) (fun lO=>[(10,I.c4 [I.of lO.1.1,I.of lO.1.2.1])]) (fun lO=>[]) (fun lO=>aH lO.1.2.2) (fun lO=>?_) (fun Cc=>?_)
 ·refine bb.iQ [7,8,9] ⟨⟨_,rfl,?_⟩,⟨_,rfl,?_⟩,⟨_,rfl,?_⟩,trivial⟩
  ·refine eu ?_;exact ab.bl (Cb lO)
  ·refine eu ?_;exact ab.bl (ze lO)
  refine bX dt fun cx=>?_;exact ab.bl (vm (lO,cx))
 refine bb.cf (γ:=Nat) [0,3,4,5,6] 0 3 6 (b9 12 543) (fun oq=>[(7,I.bq oq),(14,I.of dh.1.fe),(15,I.of ah)]) (fun oq=>[aN oq (default:az)]) (fun oq=>aH hp) (fun oq=>?_) (fun vn=>?_)
 ·refine bb.s1 5 ?_
  ·refine ab.eS 4 0 rfl UT (Qn pz) rfl rfl ⟨aa rfl,aa rfl,trivial⟩ rfl fun⟨⟨aq,hI⟩,_⟩=>?_;refine ab.en ?_;exact ab.bl (xt (⟨aq,hI⟩,oq))
 refine bb.cf (γ:=Subtype gE) [0,3,4,5,6] 0 3 6 (b9 12 63) (fun j6=>[(16,I.c4 [I.of j6.1.1,I.of j6.1.2.1])]) (fun j6=>[]) (fun j6=>aH j6.1.2.2) (fun j6=>?_) (fun sX=>?_)
 ·refine bb.s2 6 9 ?_ ?_
  ·refine ay ?_;exact ab.bl (Cc j6)
  refine bX dt fun cx=>?_;exact ab.bl (xt (j6,cx))
 refine bb.cf (γ:=Nat) [0,3,4,5,6] 0 3 7 (b9 12 535) (fun kX=>[(7,I.bq kX),(13,I.eq (.pointer (some ⟨eM,0+0,none⟩))),(15,I.of ah)]) (fun kX=>[aN kX (default:az)]) (fun kX=>aH hp) (fun kX=>?_) (fun p9=>?_)
 ·refine bb.s1 3 ?_
  ·refine a6 (im ((aJ.id dO).comp kP) (r:=dh.1.fe) k6 (aa rfl) (iu (n:=4) rfl (gh gi) rfl) rfl rfl (by rfl)) ?_;exact ab.bl (vn kX)
 refine bb.cf (γ:=Nat) [0,3,4,5,6] 0 3 7 (b9 12 527) (fun kY=>[(7,I.bq kY),(14,I.of dh.1.fe)]) (fun kY=>[aN kY (default:az)]) (fun kY=>aH hp) (fun kY=>?_) (fun rZ=>?_)
 ·refine bb.s1 4 ?_
  ·refine bz 3 cq ?_;exact ab.bl (vn kY)
 refine bb.cf (γ:=Unit) [0,3,4,5,6] 0 3 7 (b9 12 31) (fun po=>[(14,I.of dh.1.fe),(15,I.of ah)]) (fun po=>[]) (fun po=>aH hp) (fun po=>?_) (fun qZ=>?_)
 ·refine bb.s2 5 9 ?_ ?_
  ·refine ab.eS 3 0 rfl UT (Qn pz) rfl rfl ⟨aa rfl,aa rfl,trivial⟩ rfl fun⟨⟨aq,hI⟩,_⟩=>?_;refine ab.en ?_;exact ab.bl (sX ⟨aq,hI⟩)
  refine bX dt fun cx=>?_;exact ab.bl (vn cx)
 refine bb.cf (γ:=Nat) [0,3,4,5,6] 0 3 8 (b9 12 531) (fun kD=>[(7,I.bq kD),(12,I.bq eM),(15,I.of ah)]) (fun kD=>[aN kD (default:az)]) (fun kD=>aH hp) (fun kD=>?_) (fun r1=>?_)
 ·refine bb.s1 2 ?_
  ·refine aP (aM lh) ?_;exact ab.bl (p9 kD)
 refine bb.cf (γ:=Nat) [0,3,4,5,6] 0 3 8 (b9 12 519) (fun lK=>[(7,I.bq lK),(13,I.eq (.pointer (some ⟨eM,0+0,none⟩)))]) (fun lK=>[aN lK (default:az)]) (fun lK=>aH hp) (fun lK=>?_) (fun sY=>?_)
 ·refine bb.s2 3 4 ?_ ?_
  ·refine a6 (im ((aJ.id dO).comp kP) (r:=dh.1.fe) k6 (aa rfl) (iu (n:=4) rfl (gh gi) rfl) rfl rfl (by rfl)) ?_;exact ab.bl (rZ lK)
  refine bz 3 cq ?_;exact ab.bl (p9 lK)
 refine bb.cf (γ:=Unit) [0,3,4,5,6] 0 3 8 (b9 12 23) (fun lJ=>[(13,I.eq (.pointer (some ⟨eM,0+0,none⟩))),(15,I.of ah)]) (fun lJ=>[]) (fun lJ=>aH hp) (fun lJ=>?_) (fun p7=>?_)
 ·refine bb.s2 3 9 ?_ ?_
  ·refine a6 (im ((aJ.id dO).comp kP) (r:=dh.1.fe) k6 (aa rfl) (iu (n:=3) rfl (gh gi) rfl) rfl rfl (by rfl)) ?_;exact ab.bl (qZ ())
  refine bX dt fun cx=>?_;exact ab.bl (p9 cx)
 refine bb.cf (γ:=Unit) [0,3,4,5,6] 0 3 8 (b9 12 15) (fun lj=>[(14,I.of dh.1.fe)]) (fun lj=>[]) (fun lj=>aH hp) (fun lj=>?_) (fun qY=>?_)
 ·refine bb.s2 4 9 ?_ ?_
  ·refine bz 2 cq ?_;exact ab.bl (qZ ())
  refine bX dt fun cx=>?_;exact ab.bl (rZ cx)
 refine bb.cf (γ:=Nat) [0,3,4,5,6] 0 3 9 (b9 12 529) (fun jb=>[(7,I.bq jb),(11,I.of J),(15,I.of ah)]) (fun jb=>[aN jb (default:az)]) (fun jb=>aH hp) (fun jb=>?_) (fun p8=>?_)
 ·refine bb.s1 1 ?_
  ·refine a6 (b1 (cG (aa rfl) iP)) ?_;exact ab.bl (r1 jb)
 refine bb.cf (γ:=Nat) [0,3,4,5,6] 0 3 9 (b9 12 515) (fun jv=>[(7,I.bq jv),(12,I.bq eM)]) (fun jv=>[aN jv (default:az)]) (fun jv=>aH hp) (fun jv=>?_) (fun pq=>?_)
 ·refine bb.s2 2 4 ?_ ?_
  ·refine aP (aM lh) ?_;exact ab.bl (sY jv)
  refine bz 3 cq ?_;exact ab.bl (r1 jv)
 refine bb.cf (γ:=Unit) [0,3,4,5,6] 0 3 9 (b9 12 19) (fun l9=>[(12,I.bq eM),(15,I.of ah)]) (fun l9=>[]) (fun l9=>aH hp) (fun l9=>?_) (fun qf=>?_)
 ·refine bb.s2 2 9 ?_ ?_
  ·refine aP (aM lh) ?_;exact ab.bl (p7 ())
  refine bX dt fun cx=>?_;exact ab.bl (r1 cx)
 refine bb.cf (γ:=Unit) [0,3,4,5,6] 0 3 9 (b9 12 7) (fun jL=>[(13,I.eq (.pointer (some ⟨eM,0+0,none⟩)))]) (fun jL=>[]) (fun jL=>aH hp) (fun jL=>?_) (fun q3=>?_)
 ·refine bb.iQ [3,4,9] ⟨⟨_,rfl,?_⟩,⟨_,rfl,?_⟩,⟨_,rfl,?_⟩,trivial⟩
  ·refine a6 (im ((aJ.id dO).comp kP) (r:=dh.1.fe) k6 (aa rfl) (iu (n:=3) rfl (gh gi) rfl) rfl rfl (by rfl)) ?_;exact ab.bl (qY ())
  ·refine bz 2 cq ?_;exact ab.bl (p7 ())
  refine bX dt fun cx=>?_;exact ab.bl (sY cx)
 refine bb.cf (γ:=Nat) [0,3,4,5,6] 0 3 10 (b9 12 528) (fun k2=>[(7,I.bq k2),(15,I.of ah)]) (fun k2=>[aN k2 (default:az)]) (fun k2=>aH hp) (fun k2=>?_) (fun qg=>?_)
 ·refine bb.s1 0 ?_
  ·refine ay ?_;exact ab.bl (p8 k2)
 refine bb.cf (γ:=Nat) [0,3,4,5,6] 0 3 10 (b9 12 513) (fun ko=>[(7,I.bq ko),(11,I.of J)]) (fun ko=>[aN ko (default:az)]) (fun ko=>aH hp) (fun ko=>?_) (fun q4=>?_)
 ·refine bb.s2 1 4 ?_ ?_
  ·refine a6 (b1 (cG (aa rfl) iP)) ?_;exact ab.bl (pq ko)
  refine bz 3 cq ?_;exact ab.bl (p8 ko)
 refine bb.cf (γ:=Unit) [0,3,4,5,6] 0 3 10 (b9 12 17) (fun ni=>[(11,I.of J),(15,I.of ah)]) (fun ni=>[]) (fun ni=>aH hp) (fun ni=>?_) (fun q5=>?_)
 ·refine bb.s2 1 9 ?_ ?_
  ·refine a6 (b1 (cG (aa rfl) iP)) ?_;exact ab.bl (qf ())
  refine bX dt fun cx=>?_;exact ab.bl (p8 cx)
 refine bb.cf (γ:=Unit) [0,3,4,5,6] 0 3 10 (b9 12 3) (fun j9=>[(12,I.bq eM)]) (fun j9=>[]) (fun j9=>aH hp) (fun j9=>?_) (fun ug=>?_)
 ·refine bb.iQ [2,4,9] ⟨⟨_,rfl,?_⟩,⟨_,rfl,?_⟩,⟨_,rfl,?_⟩,trivial⟩
  ·refine aP (aM lh) ?_;exact ab.bl (q3 ())
  ·refine bz 2 cq ?_;exact ab.bl (qf ())
  refine bX dt fun cx=>?_;exact ab.bl (pq cx)
 refine bb.cf (γ:=Nat) [0,3,4,5,6] 0 3 11 (b9 12 512) (fun kp=>[(7,I.bq kp)]) (fun kp=>[aN kp (default:az)]) (fun kp=>aH hp) (fun kp=>?_) (fun vw=>?_)
 ·refine bb.s2 0 4 ?_ ?_
  ·refine ay ?_;exact ab.bl (q4 kp)
  refine bz 3 cq ?_;exact ab.bl (qg kp)
 refine bb.cf (γ:=Unit) [0,3,4,5,6] 0 3 11 (b9 12 16) (fun nj=>[(15,I.of ah)]) (fun nj=>[]) (fun nj=>aH hp) (fun nj=>?_) (fun vx=>?_)
 ·refine bb.s2 0 9 ?_ ?_
  ·refine ay ?_;exact ab.bl (q5 ())
  refine bX dt fun cx=>?_;exact ab.bl (qg cx)
 refine bb.cf (γ:=Unit) [0,3,4,5,6] 0 3 11 (b9 12 1) (fun nk=>[(11,I.of J)]) (fun nk=>[]) (fun nk=>aH hp) (fun nk=>?_) (fun vy=>?_)
 ·refine bb.iQ [1,4,9] ⟨⟨_,rfl,?_⟩,⟨_,rfl,?_⟩,⟨_,rfl,?_⟩,trivial⟩
  ·refine a6 (b1 (cG (aa rfl) iP)) ?_;exact ab.bl (ug ())
  ·refine bz 2 cq ?_;exact ab.bl (q5 ())
  refine bX dt fun cx=>?_;exact ab.bl (q4 cx)
 refine bb.iQ [0,4,9] ⟨⟨_,rfl,?_⟩,⟨_,rfl,?_⟩,⟨_,rfl,?_⟩,trivial⟩
 ·refine ay ?_;exact ab.bl (vy ())
 ·refine bz 2 cq ?_;exact ab.bl (vx ())
 refine bX dt fun cx=>?_;exact ab.bl (vw cx)
theorem XQ {hp:aC Cell}{J:Ref}{ah:a8}{Q:Int×(aC Cell)→Prop}(h:wE hp J ah Q):bt prog 34 [I.of J,I.of ah] ([]++aH hp) (δ:= {r:Int×(aC Cell) // Q r}×Unit) (fun d=>I.of d.1.1.1) (fun d=>[]++aH d.1.1.2):=by
 unfold wE at h;refine bt.of func34 rfl ntmps34 rfl fun W A=>ax (cj fun bk=>?_);refine cj fun bB=>?_;refine aK (bA (ax ?_));refine bz 1 iM ?_;refine a6 (kS underlying36 (aa rfl)) (aG ?_);refine kd h (fun h=>?_) fun h=>?_
 ·refine ax (aK (aG (ag.ret (ad.ret ?_))));exact ad.dS (⟨⟨(6,hp),h⟩,()⟩: {r // _}×_) (dY 2) rfl rfl (cO rfl)
 refine cu (ax (bz 1 iM ?_));refine bz 0 cq ?_;refine ab.eS 2 0 rfl VO (Qb h) rfl rfl ⟨aa rfl,aa rfl,trivial⟩ rfl fun⟨⟨aq,h⟩,aB⟩=>?_;refine ab.en ?_;refine ay ?_;refine eu ?_;refine eu ?_;refine eu ?_;refine bX qc fun ck=>?_;refine bX qc fun cx=>?_;refine cz 1 cq ?_;refine cz 0 cq ?_;refine aK (bA (ax ?_));refine ay ?_;refine bo ou (aG ?_);refine kd h (fun h=>?_) fun h=>?_
 ·refine ax (ay ?_);refine aK (aG (ag.ret (ad.ret ?_)));exact ad.dS (⟨⟨(aq.2.2.1,aq.2.2.2),h⟩,()⟩: {r // _}×_) (dY 4) rfl rfl (cO rfl)
 refine cu (ax (bz 3 iM ?_));refine ab.share (α:=Ref) 3 2 rfl rfl (ab.share (α:=a8) 1 5 rfl rfl (a6 (MQ (Ji (f:=75) (τs:= [I.ptr J,I.ptr aq.1]) ⟨aa rfl,aa rfl,trivial⟩) (fun _ _ _ h=>adp h)) ?_));refine ak.bG h fun bJ cF h=>ak.bG h fun c1 cZ h=>ak.bG h fun aD cb h=>ab.rr (e2.obj 4 (fun q:Option Nat×Nat=>Cell.n3 aD q.1 q.2) rfl (gh cZ) N8 (KS cb) rfl (fun _=>rfl) ⟨cG (aa rfl) cF,aa rfl,trivial⟩) rfl rfl rfl fun ef=>?_;replace h:=ak.any_bind h ef;refine ak.bG h fun bR hj h=>ab.eN (L2:=(aN cx aq.2.1::⟨none,.dead⟩::aN bB ah::⟨none,.dead⟩::aH bR)) (by rw [← di hj];rfl) ?_;refine bT (aK (aG (ag.ret ?_)));exact ad.dS (⟨⟨(0,bR),h⟩,()⟩: {r // _}×_) (dY 4) rfl rfl (cO rfl)
theorem Xs {hp:aC Cell}{J:Ref}{ah:a8}{Q:(aC Cell)→Prop}(h:C5 hp J ah Q):bt prog 75 [I.ptr J,I.ptr ah] ([]++aH hp) (δ:= {r:(aC Cell) // Q r}×Unit) (fun d=>I.c4 []) (fun d=>[]++aH d.1.1):=by
 unfold C5 at h;refine bt.of func75 rfl ntmps75 rfl fun W A=>ag.ct (aP (c3 iM) ?_);refine aP (c3 cq) ?_;refine ab.eS 0 0 rfl VO (Qb h) rfl rfl ⟨aa rfl,aa rfl,trivial⟩ rfl fun⟨⟨aq,h⟩,aB⟩=>?_;refine ab.en (ab.nil ?_);exact ad.lS (ad.j8 (⟨⟨aq.2.2.2,h⟩,()⟩: {r // _}×_) (.refl _) rfl rfl)
theorem Zp {hp:aC Cell}{J:Ref}{ah:cW}{aW:du}{k8:Nat}{ih:Nat}{Q:Bool×Bool×cW×du×(aC Cell)→Prop}(h:Ee hp J ah aW Q):bt prog 12 [I.of J,I.bq k8,I.bq ih] ([aN k8 ah,aN ih aW]++aH hp) (δ:= {r:Bool×Bool×cW×du×(aC Cell) // Q r}×Unit) (fun d=>I.c4 [I.of d.1.1.1,I.of d.1.1.2.1]) (fun d=>[aN k8 d.1.1.2.2.1,aN ih d.1.1.2.2.2.1]++aH d.1.1.2.2.2.2):=by
 unfold Ee at h;refine bt.of func12 rfl ntmps12 rfl fun W A=>ax (aK ?_);refine aK (bA ?_);refine ak.bG h fun aq bu h=>ak.bG h fun aD cb h=>ag.B7 1 2 (gD [0,1,2,6,7] ?_);refine ag.oN 3 mixed (aL 13 [] [] _::aL 14 [] [] _::aL 15 [1] [] _::aL 16 [2] [] _::aL 17 [3] [0] _::aL 18 [] [] _::⟨some 19,[5],[1],[1],fun _=>I.of aq.1,fun hd _=>aN ih aq.2⟩::⟨some 20,[0,4,6],[1],[1],fun _=>I.of aD.1,fun hd _=>aN ih aD.2⟩::⟨some 8,[],[2],[2],fun hd=>I.bq ((hd 8 0).getD 0),fun hd _=>aN ((hd 8 0).getD 0) (default:a8)⟩::iE [7,8] [2] [2] (fun hd=>aN ((hd 8 0).getD 0) aD.1)::[]) [0,1,2,6,7] ⟨bY.q dN,bY.q dN,bY.q (db b1),bY.q (db (aM BN)),bY.q (hN 0 wK fr),bY.q dN,?_,?_,?_,?_,trivial⟩ fun dj=>?_
 ·intro hd E' L' an al cS;refine ab.bI 1 (al 1 _ rfl rfl) (ab.mq (Lin:= [aN ih aW]) (Lr:=L'.eraseIdx 1) hc (gY bu) ⟨aa (an _ _ rfl),bS 4,trivial⟩ rfl fun aB=>ab.nil (ad.back 1 (al 1 _ rfl rfl) ?_));exact ad.fin (cV []) rfl rfl
 ·intro hd E' L' an al cS;refine ab.bI 1 (al 1 _ rfl rfl) (ab.mq (Lin:= [aN ih aq.2]) (Lr:=L'.eraseIdx 1) ahq (Yv cb) ⟨aa (an _ _ rfl),aa (an _ _ rfl),aa (an _ _ rfl),trivial⟩ rfl fun ef=>ab.nil (ad.back 1 (al 1 _ rfl rfl) ?_));exact ad.fin (cV []) rfl rfl
 ·intro hd E' L' an al cS;refine bX qc fun bk=>ab.nil ?_;exact ad.place 2 (al 2 _ rfl rfl) (ad.fin (cV [some bk]) rfl rfl)
 ·intro hd E' L' an al cS;exact ab.store (i:=2) (aJ.id a8) (v:=aD.1) (b':=aD.1) cq (aa (an _ _ rfl)) (aa (an _ _ rfl)) (al 2 _ rfl rfl) rfl rfl (ab.nil (ad.fin (cV []) rfl rfl))
 refine ad.eN (L2:=(aN k8 ah::aN ih aD.2::aN ((dj 8 0).getD 0) aD.1::aH hp)) rfl (gU [0,1,2,6,7,8,13,14,15,16,17,18,19,20] ?_);refine ad.bI 2 rfl (ad.next (ag.seq (ax (ay ?_))));refine aP b1 ?_;refine aP (aM pn) ?_;refine b5 1 oQ k5 ?_;refine aP (dW underlying43) ?_;refine bo p4 ?_;refine ay ?_;refine eE cK ?_;refine ab.bI 2 rfl (ab.aj7 (γ:=Unit) h (fun y=>I.of y.1) (fun y g=>(aN ih y.2::aN ((dj 8 0).getD 0) aD.1::aN k8 ah::aH hp)) () rfl rfl rfl rfl rfl rfl (fun hb hm=>by obtain⟨aj8,aiv,aiw⟩:=hm;refine e2.map (fun d=>(⟨aj8,aiw⟩,d)) (fun _=>rfl) ?_ (e2.mq 1 pt (pc aiv) rfl rfl ?_);exact fun _=>rfl;exact⟨cw rfl hb,trivial⟩) fun bh ev h=>?_);refine n2 (aG ?_);refine ak.bG h fun m1 cP h=>ag.cX (γ:=Unit) (fun g2=>[(0,I.of J),(1,I.bq k8),(2,I.bq ih),(6,I.of false),(7,I.of false),(8,I.bq ((dj 8 0).getD 0)),(30,I.of ((decide ((ah.bW.length:Int)>0))&&bh.1))]) (fun g2=>(aN ih m1.1::aN ((dj 8 0).getD 0) m1.2::aN k8 ah::aH hp)) (aa rfl) (fun g2=>?_) (fun hm ai=>?_) (fun hm ai=>?_)
 ·refine ad.next (ag.seq (ax (ay ?_)))
  refine ab.bI 0 rfl (ak.bG h fun cy h8 h=>e1 1 hc (gY h8) fun gw=>?_);refine bo fM (aG ?_);refine ak.bG h fun m2 dT h=>ag.cX (γ:=Unit) (fun g3=>[(0,I.of J),(1,I.bq k8),(2,I.bq ih),(6,I.of false),(7,I.of false),(8,I.bq ((dj 8 0).getD 0)),(30,I.of ((decide ((ah.bW.length:Int)>0))&&bh.1)),(59,I.of (cy.1==1))]) (fun g3=>(aN ih cy.2::aN ((dj 8 0).getD 0) m2::aN k8 ah::aH hp)) (aa rfl) (fun g3=>?_) (fun hm ai=>?_) (fun hm ai=>?_)
  ·refine ad.next (ax (aK ?_))
   refine aK (bA (ax ?_));refine ay ?_;refine ab.bI 0 rfl (ak.bG h fun cr iz h=>e1 1 hc (gY iz) fun ez=>aG (ag.block (ag.seq (ax ?_))));refine bo fM ?_;refine aK (aG ?_);refine ak.bG h fun m3 hV h=>ag.cX (γ:=Unit) (fun g4=>[(0,I.of J),(1,I.bq k8),(2,I.bq ih),(6,I.of false),(7,I.of false),(8,I.bq ((dj 8 0).getD 0)),(10,I.of (0:Int)),(11,I.of (0:Int)),(30,I.of ((decide ((ah.bW.length:Int)>0))&&bh.1)),(59,I.of (cy.1==1)),(62,I.of cr.1),(72,I.of m3)]) (fun g4=>(aN ih cr.2::aN ((dj 8 0).getD 0) m2::aN k8 ah::aH hp)) (aa rfl) (fun g4=>?_) (fun hm ai=>?_) (fun hm ai=>?_)
   ·refine ad.next (ag.xc (γ:=Unit) h (fun m4 g5=>[(0,I.of J),(1,I.bq k8),(2,I.bq ih),(6,I.of false),(7,I.of false),(8,I.bq ((dj 8 0).getD 0)),(10,I.of m4.1),(11,I.of m4.2.1),(30,I.of ((decide ((ah.bW.length:Int)>0))&&bh.1)),(59,I.of (cy.1==1)),(62,I.of cr.1),(72,I.of m3)]) (fun m4 g5=>(aN ih m4.2.2.1::aN ((dj 8 0).getD 0) m2::aN k8 m4.2.2.2.1::aH m4.2.2.2.2)) (aa rfl) (fun m4 g5 h=>?_) (fun hm ai h=>?_) (fun hm ai h=>?_))
    ·refine ad.ek (ad.next (ax (ay ?_)));refine ay ?_;refine bo fM ?_;refine ay ?_;refine bo fM ?_;refine aK ?_;refine aK (aG (ag.ret ?_));exact ad.bI 0 rfl (ad.bI 2 rfl (ad.je (⟨⟨(m4.1==m4.2.1,m4.2.1==0,m4.2.2.2.1,m4.2.2.1,m4.2.2.2.2),h⟩,()⟩: {r // _}×_) (.cons_cons _ (.cons_cons _ (.cons _ (.refl _)))) rfl rfl (cO rfl) (cO rfl)))
    ·refine ax (hl ([1,1,2,7,5]:List Int) underlying56 bj fk ?_);refine ay ?_;refine ab.bI 0 rfl (ak.bG h fun cC mz h=>e1 1 hc (gY mz) fun ky=>?_);refine ak.bG h fun aU cv h=>fQ cv underlying56 bj ?_;refine aP (c3 bj) ?_;refine aK (aG ?_);obtain⟨aix,ahr,ahs⟩:=ak.ex h;refine IT mixed 7 3 84 _ (K:=aix) [some (81,I.of J),some (82,I.of m2),some (83,I.of (aE ([1,1,2,7,5]:List Int) aU)),none,some (85,I.bq k8),some (86,I.of m2),some (87,I.of (aE ([1,1,2,7,5]:List Int) aU))] _ [[],[],[],[0,1,2],[],[],[]] _ (fun cL=>I.of cL.1) (fun cL=>(aN ih cC.2::aN ((dj 8 0).getD 0) m2::aN k8 ah::aH cL.2)) rfl rfl rfl rfl rfl rfl (by kernel_rfl) ⟨⟨cK (aa rfl),fun cL vz=>cK (aa rfl)⟩,⟨e8 (i:=1) (aJ.id a8) (r:=m2) cq (aa rfl) rfl rfl rfl,fun cL vz=>e8 (i:=1) (aJ.id a8) (r:=m2) cq (aa rfl) rfl rfl rfl⟩,⟨cK (aa rfl),fun cL vz=>cK (aa rfl)⟩,⟨cK (aa rfl),fun cL vz=>cK (aa rfl)⟩,⟨e8 (i:=1) (aJ.id a8) (r:=m2) cq (aa rfl) rfl rfl rfl,fun cL vz=>e8 (i:=1) (aJ.id a8) (r:=m2) cq (aa rfl) rfl rfl rfl⟩,⟨cK (aa rfl),fun cL vz=>cK (aa rfl)⟩,trivial⟩ (fun bo wi an bK=>?_) (fun cL vz=>?_)
     ·refine ab.eS 3 0 rfl Oa (K0 ahr) rfl rfl ⟨aa (an rfl),aa (an rfl),aa (an rfl),trivial⟩ rfl fun⟨⟨cL,vz⟩,_⟩=>?_;refine ab.en (ab.nil ?_);exact bK cL vz
     have h:=ahs cL vz;refine ab.le (E':= [(0,I.of J),(1,I.bq k8),(2,I.bq ih),(6,I.of false),(7,I.of false),(8,I.bq ((dj 8 0).getD 0)),(10,I.of (0:Int)),(11,I.of (0:Int)),(12,I.of (aE ([1,1,2,7,5]:List Int) aU)),(30,I.of ((decide ((ah.bW.length:Int)>0))&&bh.1)),(59,I.of (cy.1==1)),(62,I.of cr.1),(72,I.of m3),(76,I.of ([1,1,2,7,5]:List Int)),(77,I.bq ih),(78,I.of cC.1),(79,I.ptr (aE ([1,1,2,7,5]:List Int) aU)),(80,I.of (aE ([1,1,2,7,5]:List Int) aU)),(81,I.of J),(82,I.of m2),(83,I.of (aE ([1,1,2,7,5]:List Int) aU)),(84,I.of cL.1),(85,I.bq k8),(86,I.of m2),(87,I.of (aE ([1,1,2,7,5]:List Int) aU))]) .all (ab.bI 2 rfl (ak.bG h fun dR ra h=>e1 1 aht (Zf ra) fun CS=>?_));refine aK ?_;refine aK (ab.nil ?_);exact ad.bI 2 rfl (ad.bI 2 rfl (dw 0 (hm (cL.1,dR.1,cC.2,dR.2,cL.2) () h)))
    refine ax (bo fM ?_);refine aK (aG ?_);refine ag.xc (γ:=Unit) h (fun m5 g6=>[(0,I.of J),(1,I.bq k8),(2,I.bq ih),(6,I.of false),(7,I.of false),(8,I.bq ((dj 8 0).getD 0)),(10,I.of m5.1),(11,I.of m5.2.1),(30,I.of ((decide ((ah.bW.length:Int)>0))&&bh.1)),(59,I.of (cy.1==1)),(62,I.of cr.1),(72,I.of m3),(89,I.of (cr.1==3))]) (fun m5 g6=>(aN ih cr.2::aN ((dj 8 0).getD 0) m2::aN k8 m5.2.2.1::aH m5.2.2.2)) (aa rfl) (fun m5 g6 h=>?_) (fun hm ai h=>?_) (fun hm ai h=>?_)
    ·exact dw 0 (hm (m5.1,m5.2.1,cr.2,m5.2.2.1,m5.2.2.2) () h)
    ·refine ax (ay ?_);refine bz 1 cq ?_;refine ab.eS 3 0 rfl ahu (XQ h) rfl rfl ⟨aa rfl,aa rfl,trivial⟩ rfl fun⟨⟨hW,h⟩,kz⟩=>?_;refine ab.en ?_;refine aK (aG (ag.ct ?_));refine ay ?_;refine bz 1 cq ?_;refine ab.bI 2 rfl (ak.bG h fun kb vt h=>e1 1 ahv (Yd vt) fun oO=>?_);refine ay ?_;refine eu ?_;refine eu ?_;refine aK (ab.nil ?_);exact ad.bI 2 rfl (ad.bI 2 rfl (dw 0 (hm (hW.1,kb.2.1,kb.2.2,hW.2) () h)))
    refine ax (ay ?_);refine bz 1 cq ?_;refine ab.eS 3 0 rfl ahw (XP h) rfl rfl ⟨aa rfl,aa rfl,trivial⟩ rfl fun⟨⟨jz,h⟩,FX⟩=>?_;refine ab.en ?_;refine aK (aG (ag.ct ?_));refine ay ?_;refine bz 1 cq ?_;refine ab.bI 2 rfl (ak.bG h fun kt zu h=>e1 1 ahx (Ye zu) fun aik=>?_);refine ay ?_;refine eu ?_;refine eu ?_;refine aK (ab.nil ?_);exact ad.bI 2 rfl (ad.bI 2 rfl (dw 0 (hm (jz.1,kt.2.1,kt.2.2,jz.2) () h)))
   ·have h:=hE ai hV;refine ag.skip ?_;cases h;exact dw 0 (hm ())
   have h:=hF ai hV;refine ax (bo fM ?_);refine aK (aG ?_);refine aw h fun m6 OC h=>ag.cX (γ:=Unit) (fun g7=>[(0,I.of J),(1,I.bq k8),(2,I.bq ih),(6,I.of false),(7,I.of false),(8,I.bq ((dj 8 0).getD 0)),(10,I.of (0:Int)),(11,I.of (0:Int)),(30,I.of ((decide ((ah.bW.length:Int)>0))&&bh.1)),(59,I.of (cy.1==1)),(62,I.of cr.1),(72,I.of m6)]) (fun g7=>(aN ih cr.2::aN ((dj 8 0).getD 0) m2::aN k8 ah::aH hp)) (aa rfl) (fun g7=>?_) (fun hm ai=>?_) (fun hm ai=>?_)
   ·cases h;exact dw 0 (hm ())
   ·have h:=hE ai OC;refine ag.skip ?_;cases h;exact dw 0 (hm ())
   have h:=hF ai OC;refine ag.ct (bo fM ?_);refine aK (ab.nil ?_);cases h;exact dw 0 (hm ())
  ·have h:=hE ai dT;refine ag.ct (aP (aM lI) ?_);refine ui 1 kQ bj (ab.nil ?_);cases h;exact dw 0 (hm ())
  have h:=hF ai dT;refine ag.skip ?_;cases h;exact dw 0 (hm ())
 ·have h:=hE ai cP;refine ag.seq (aw h fun j1 zv h=>aw h fun bK de h=>ag.B7 1 3 (gD [0,1,2,6,7,8,13,14,15,16,17,18,19,20,21,22,23,24,25,26,27,28,29,30] ?_));refine ag.oN 4 mixed (aL 31 [] [] _::aL 32 [0] [] _::aL 33 [1] [] _::aL 34 [2] [2] _::aL 35 [] [] _::aL 36 [] [] _::aL 37 [5] [] _::aL 38 [6] [] _::aL 39 [7] [2] _::aL 40 [8] [] _::⟨some 41,[4,9],[0],[0],fun _=>I.of j1.1,fun hd _=>aN ih j1.2⟩::aL 42 [3,10] [] _::aL 43 [11] [] _::aL 44 [12] [] _::⟨some 9,[],[3],[3],fun hd=>I.bq ((hd 14 0).getD 0),fun hd _=>aN ((hd 14 0).getD 0) (default:a8)⟩::iE [13,14] [3] [3] (fun hd=>aN ((hd 14 0).getD 0) ((aE ah.bW bK).bd:a8))::[]) [0,1,2,6,7,8,13,14,15,16,17,18,19,20,21,22,23,24,25,26,27,28,29,30] ⟨bY.q dN,bY.q (db b1),bY.q (db (aM pn)),bY.q (hN 2 oQ k5),bY.q dN,bY.q dN,bY.q (db b1),bY.q (db (aM pn)),bY.q (hN 2 oQ k5),bY.q (db (dW underlying43)),?_,bY.q (bZ fun an al=>nS (k:=bK) underlying43 b7 (aa (an _ _ rfl)) (aa (an _ _ rfl)) (dF de)),bY.q (bZ fun an al=>rX h4 ja (aa (an _ _ rfl)) rfl rfl),bY.q (db (c3 cq)),?_,?_,trivial⟩ fun gN=>?_
  ·intro hd E' L' an al cS;refine ab.bI 0 (al 0 _ rfl rfl) (ab.mq (Lin:= [aN ih bh.2]) (Lr:=L'.eraseIdx 0) hc (gY zv) ⟨aa (an _ _ rfl),aa (an _ _ rfl),trivial⟩ rfl fun ail=>ab.nil (ad.back 0 (al 0 _ rfl rfl) ?_));exact ad.fin (cV []) rfl rfl
  ·intro hd E' L' an al cS;refine bX qc fun bB=>ab.nil ?_;exact ad.place 3 (al 3 _ rfl rfl) (ad.fin (cV [some bB]) rfl rfl)
  ·intro hd E' L' an al cS;exact ab.store (i:=3) (aJ.id a8) (v:=((aE ah.bW bK).bd:a8)) (b':=((aE ah.bW bK).bd:a8)) cq (aa (an _ _ rfl)) (aa (an _ _ rfl)) (al 3 _ rfl rfl) rfl rfl (ab.nil (ad.fin (cV []) rfl rfl))
  refine ad.eN (L2:=(aN ih j1.2::aN ((dj 8 0).getD 0) aD.1::aN k8 ah::aN ((gN 14 0).getD 0) ((aE ah.bW bK).bd:a8)::aH hp)) rfl (gU [0,1,2,6,7,8,9,13,14,15,16,17,18,19,20,21,22,23,24,25,26,27,28,29,30,31,32,33,34,35,36,37,38,39,40,41,42,43,44] ?_);refine ad.bI 3 rfl (ad.next (ag.seq (ax (aP (aM lI) ?_))));refine b5 0 kQ bj ?_;refine aP (aM lI) ?_;refine b5 2 kQ bj ?_;refine bo fM (aG ?_);refine aw h fun m7 OD h=>ag.cX (γ:=Unit) (fun g8=>[(0,I.of J),(1,I.bq k8),(2,I.bq ih),(6,I.of false),(7,I.of false),(8,I.bq ((dj 8 0).getD 0)),(9,I.bq ((gN 14 0).getD 0)),(30,I.of ((decide ((ah.bW.length:Int)>0))&&bh.1)),(49,I.of ((((aE ah.bW bK).bd).b3)==aD.1.b3))]) (fun g8=>(aN ((gN 14 0).getD 0) m7::aN ih j1.2::aN ((dj 8 0).getD 0) aD.1::aN k8 ah::aH hp)) (aa rfl) (fun g8=>?_) (fun hm ai=>?_) (fun hm ai=>?_)
  ·refine ad.next (ag.ct (bz 0 cq ?_))
   refine cz 2 cq (ab.nil ?_);cases h;exact dw 1 (hm ())
  ·have h:=hE ai OD;refine aw h fun bw dn h=>gD [0,1,2,6,7,8,9,13,14,15,16,17,18,19,20,21,22,23,24,25,26,27,28,29,30,31,32,33,34,35,36,37,38,39,40,41,42,43,44,45,46,47,48,49] ?_;refine ag.oN 4 mixed (aL 50 [] [] _::aL 51 [0] [2] _::aL 52 [] [] _::aL 53 [2] [2] _::aL 54 [] [] _::iE [1,4] [0] [0] (fun hd=>aN ((gN 14 0).getD 0) bw)::aL 55 [] [] _::iE [3,5,6] [0] [0] (fun hd=>aN ((gN 14 0).getD 0) ({ bw with fP:=aD.1.fP } :a8))::[]) [0,1,2,6,7,8,9,13,14,15,16,17,18,19,20,21,22,23,24,25,26,27,28,29,30,31,32,33,34,35,36,37,38,39,40,41,42,43,44,45,46,47,48,49] ⟨bY.q (db (aM u6)),bY.q (hN 2 tE bj),bY.q (db (aM rO)),bY.q (hN 2 rC q2),bY.q (db (aM u6)),?_,bY.q (db (aM rO)),?_,trivial⟩ fun xM=>?_
   ·intro hd E' L' an al cS;exact ab.store (i:=0) ((aJ.id a8).comp tE) (v:=aD.1.fc) (b':=bw) bj (aa (an _ _ rfl)) (aa (an _ _ rfl)) (al 0 _ rfl rfl) rfl (di dn) (ab.nil (ad.fin (cV []) rfl rfl))
   ·intro hd E' L' an al cS;exact ab.store (i:=0) ((aJ.id a8).comp rC) (v:=aD.1.fP) (b':=({ bw with fP:=aD.1.fP } :a8)) q2 (aa (an _ _ rfl)) (aa (an _ _ rfl)) (al 0 _ rfl rfl) rfl rfl (ab.nil (ad.fin (cV []) rfl rfl))
   refine ad.eN (L2:=(aN ((gN 14 0).getD 0) ({ bw with fP:=aD.1.fP } :a8)::aN ih j1.2::aN ((dj 8 0).getD 0) aD.1::aN k8 ah::aH hp)) rfl (gU [0,1,2,6,7,8,9,13,14,15,16,17,18,19,20,21,22,23,24,25,26,27,28,29,30,31,32,33,34,35,36,37,38,39,40,41,42,43,44,45,46,47,48,49,50,51,52,53,54,55] ?_);cases h;exact dw 0 (hm ())
  have h:=hF ai OD;refine ag.skip ?_;cases h;exact dw 0 (hm ())
 have h:=hF ai cP;refine ag.skip ?_;cases h;exact dw 0 (hm ())
theorem Xt {hp:aC Cell}{J:Ref}{ah:az}{aW:Int}{dU:Int}{Q:(aC Cell)→Prop}(h:C6 hp J ah aW dU Q):bt prog 69 [I.ptr J,I.ptr ah,I.ptr aW,I.ptr dU] ([]++aH hp) (δ:= {r:(aC Cell) // Q r}×Unit) (fun d=>I.c4 []) (fun d=>[]++aH d.1.1):=by
 unfold C6 at h;refine bt.of func69 rfl ntmps69 rfl fun W A=>ag.seq (ak.bG h fun bJ cF h=>ak.bG h fun c1 cZ h=>?_);refine ag.eX mixed 6 (rg 4 6) [[],[0],[1],[2],[],[4]] [_,_,_,_,_,_] ⟨H1 (c3 iM),c5 fun al=>b1 (cG (aa rfl) cF),H1 (aM lh),c5 fun al=>im ((aJ.id dO).comp kP) (r:=c1.1.fe) k6 (aa rfl) (gM (fun i e q=>al i e q rfl) (iu (n:=0) rfl (gh cZ) rfl)) rfl rfl (by rfl),uh h4 ja,H1 (c3 cq),trivial⟩ ?_;refine ab.eS 0 0 rfl FA (DA h) rfl rfl ⟨aa rfl,aa rfl,trivial⟩ rfl fun⟨⟨aq,h⟩,aB⟩=>?_;refine ab.en (bA ?_);refine ak.bG h fun c2 eV h=>ag.eX mixed 5 (rg 11 5) [[],[0],[1],[2],[]] [_,_,_,_,_] ⟨H1 (c3 iM),c5 fun al=>b1 (cG (aa rfl) cF),H1 (aM lh),c5 fun al=>im ((aJ.id dO).comp kP) (r:=c2.1.fe) k6 (aa rfl) (gM (fun i e q=>al i e q rfl) (iu (n:=0) rfl (gh eV) rfl)) rfl rfl (by rfl),H1 (c3 bj),trivial⟩ ?_;refine ak.bG h fun aD cb h=>ab.eS 0 0 rfl VL (Qd cb) rfl rfl ⟨aa rfl,aa rfl,trivial⟩ rfl fun ef=>ab.en (bA ?_);refine ak.bG h fun dh gi h=>ag.eX mixed 6 (rg 17 6) [[],[0],[1],[2],[],[4]] [_,_,_,_,_,_] ⟨H1 (c3 iM),c5 fun al=>b1 (cG (aa rfl) cF),H1 (aM BO),c5 fun al=>im ((aJ.id dO).comp yk) (r:=dh.1.nh) zx (aa rfl) (gM (fun i e q=>al i e q rfl) (iu (n:=0) rfl (gh gi) rfl)) rfl rfl (by rfl),uh h4 ja,H1 (c3 cq),trivial⟩ ?_;refine ak.bG h fun bh eK h=>ab.eS 0 0 rfl N9 (K8 eK) rfl rfl ⟨aa rfl,aa rfl,trivial⟩ rfl fun ev=>ab.en (aG ?_);refine ak.bG h fun gd nv h=>ag.eX mixed 5 (rg 24 5) [[],[0],[1],[2],[]] [_,_,_,_,_] ⟨H1 (c3 iM),c5 fun al=>b1 (cG (aa rfl) cF),H1 (aM EL),c5 fun al=>im ((aJ.id dO).comp An) (r:=gd.1.oj) Ch (aa rfl) (gM (fun i e q=>al i e q rfl) (iu (n:=0) rfl (gh nv) rfl)) rfl rfl (by rfl),H1 (c3 bj),trivial⟩ ?_;refine ak.bG h fun bL fx h=>ab.eS 0 0 rfl VN (Qj fx) rfl rfl ⟨aa rfl,aa rfl,trivial⟩ rfl fun gw=>ab.en (ab.nil ?_);exact ad.lS (ad.j8 (⟨⟨bL.2,h⟩,()⟩: {r // _}×_) (.refl _) rfl rfl)
theorem Xu {hp:aC Cell}{J:Ref}{ah:az}{Q:(aC Cell)→Prop}(h:Am hp J ah Q):bt prog 80 [I.ptr J,I.ptr ah] ([]++aH hp) (δ:= {r:(aC Cell) // Q r}×Unit) (fun d=>I.c4 []) (fun d=>[]++aH d.1.1):=by
 unfold Am at h;refine bt.of func80 rfl ntmps80 rfl fun W A=>ag.seq (ak.bG h fun bJ cF h=>ak.bG h fun c1 cZ h=>?_);refine ag.eX mixed 5 (rg 2 5) [[],[0],[1],[2],[]] [_,_,_,_,_] ⟨H1 (c3 iM),c5 fun al=>b1 (cG (aa rfl) cF),H1 (aM lh),c5 fun al=>im ((aJ.id dO).comp kP) (r:=c1.1.fe) k6 (aa rfl) (gM (fun i e q=>al i e q rfl) (iu (n:=0) rfl (gh cZ) rfl)) rfl rfl (by rfl),H1 (c3 b7),trivial⟩ ?_;refine ab.eS 0 0 rfl ahy (XZ h) rfl rfl ⟨aa rfl,aa rfl,trivial⟩ rfl fun⟨⟨aq,h⟩,aB⟩=>?_;refine ab.en (bA ?_);refine ak.bG h fun c2 eV h=>ag.eX mixed 6 (rg 8 6) [[],[0],[1],[2],[],[4]] [_,_,_,_,_,_] ⟨H1 (c3 iM),c5 fun al=>b1 (cG (aa rfl) cF),H1 (aM BO),c5 fun al=>im ((aJ.id dO).comp yk) (r:=c2.1.nh) zx (aa rfl) (gM (fun i e q=>al i e q rfl) (iu (n:=0) rfl (gh eV) rfl)) rfl rfl (by rfl),uh h4 ja,H1 (c3 cq),trivial⟩ ?_;refine ak.bG h fun aD cb h=>ab.eS 0 0 rfl N7 (Lh cb) rfl rfl ⟨aa rfl,aa rfl,trivial⟩ rfl fun ef=>ab.en (aG ?_);refine ak.bG h fun dh gi h=>ag.eX mixed 6 (rg 15 6) [[],[0],[1],[2],[],[4]] [_,_,_,_,_,_] ⟨H1 (c3 iM),c5 fun al=>b1 (cG (aa rfl) cF),H1 (aM EL),c5 fun al=>im ((aJ.id dO).comp An) (r:=dh.1.oj) Ch (aa rfl) (gM (fun i e q=>al i e q rfl) (iu (n:=0) rfl (gh gi) rfl)) rfl rfl (by rfl),uh tD BI,H1 (c3 bj),trivial⟩ ?_;refine ak.bG h fun bh eK h=>ab.eS 0 0 rfl VK (Qo eK) rfl rfl ⟨aa rfl,aa rfl,trivial⟩ rfl fun ev=>ab.en (ab.nil ?_);exact ad.lS (ad.j8 (⟨⟨bh.2,h⟩,()⟩: {r // _}×_) (.refl _) rfl rfl)
theorem Zq {hp:aC Cell}{y:me}{Q:(aC Cell)→Prop}(h:Lt hp y Q):xe prog (I.of y) [] ([]++aH hp) (δ:= {r:(aC Cell) // Q r}×Unit) (fun _=>.c4 []) (fun d=>[]++aH d.1.1):=by
 cases y with
 | nil=>exact h.elim
 | xO a0 b4 a2 a3=>exact xe.of ahz (fun A W u hu=>adq hu) (Xt h)
 | vP a0 b4=>exact xe.of ahA (fun A W u hu=>adr hu) (Xs h)
 | xP a0 b4=>exact xe.of ahB (fun A W u hu=>ads hu) (Xu h)
theorem XB {hp:aC Cell}{J:Ref}{ah:Int}{Q:(aC Cell)→Prop}(h:C9 hp J ah Q):bt prog 18 [I.of J,I.of ah] ([]++aH hp) (δ:= {r:(aC Cell) // Q r}×Unit) (fun d=>I.c4 []) (fun d=>[]++aH d.1.1):=by
 unfold C9 at h;refine bt.of func18 rfl ntmps18 rfl fun W A=>ag.block ?_;refine ag.BL (σ:=(aC Cell)) (ε:=(Bool×(aC Cell))) (γ:=Unit) (δ:=Unit) h (fun s1 g1=>[(0,I.of J),(1,I.of ah)]) (fun s1 g1=>(aH s1)) (fun aB=>Exit.exit 0) (fun aB g1=>[(0,I.of J),(1,I.of ah),(10,I.of aB.1)]) (fun aB g1=>(aH aB.2)) () rfl .all (fun s1 R h g1=>?_) (fun av h g1=>?_)
 ·refine ag.seq (ax (ay ?_));refine ak.bG h fun bJ cF h=>ak.bG h fun c1 cZ h=>ak.bG h fun aq bu h=>ab.gj (eW.obj 0 rfl (gh cZ) VP (P6 bu) rfl ⟨cG (aa rfl) cF,trivial⟩) rfl rfl rfl (ay ?_);refine bo B0 ?_;refine bo p4 (aG ?_);refine kd h (fun h=>?_) fun h=>?_
  ·refine cu (ag.block (ax (ay ?_)));refine a6 (b1 (cG (aa rfl) cF)) ?_;refine aP (aM yW) ?_;refine ab.MS 0 rfl (gh cZ) rfl fun alw OE=>a6 (hD (i:=0) (q:=0) (β:=dO) (γ:=gf) xA (aa rfl) rfl rfl) ?_;refine a6 (tN (i:=1) underlying91 (aa rfl) rfl rfl) ?_;refine bo lP ?_;refine aK ?_;refine ab.NH (Cell.n3 c1.1 c1.2.1 c1.2.2) 2 2 OE rfl rfl rfl (ab.eN (L2:=(aH s1)) (by rw [RW (gh cZ)];rfl) ?_);refine bT (ay ?_);refine a6 (b1 (cG (aa rfl) cF)) ?_;refine aP (aM yW) ?_;refine ab.MS 0 rfl (gh cZ) rfl fun alx J3=>a6 (hD (i:=0) (q:=0) (β:=dO) (γ:=gf) xA (aa rfl) rfl rfl) ?_;refine ay ?_;refine ak.bG h fun aU cv h=>a6 (rW (i:=1) (k:=aU) (xs:=(c1.1.hS:List gf)) underlying91 Jn (aa rfl) (aa rfl) rfl (dF cv)) ?_;refine aP (aM acj) ?_;refine a6 (yS (i:=1) (k:=aU) ((aJ.id gf).comp P7) (r:=(aE c1.1.hS aU).u5) Wg (aa rfl) rfl (dF cv).1 rfl rfl) ?_;refine aK ?_;refine ab.NH (Cell.n3 c1.1 c1.2.1 c1.2.2) 2 2 J3 rfl rfl rfl (ab.eN (L2:=(aH s1)) (by rw [RW (gh cZ)];rfl) ?_);refine bT (ay ?_);refine ay ?_;refine a6 (b1 (cG (aa rfl) cF)) ?_;refine aP (aM yW) ?_;refine ab.MS 0 rfl (gh cZ) rfl fun aly aiy=>a6 (hD (i:=0) (q:=0) (β:=dO) (γ:=gf) xA (aa rfl) rfl rfl) ?_;refine ay ?_;refine ak.bG h fun bK de h=>a6 (Es (i:=1) (xs:=(c1.1.hS:List gf)) (m:=0) (n:=bK) underlying91 Jn (aa rfl) rfl .none (.some (aa rfl)) rfl (dF de).2 ⟨Nat.zero_le _,Nat.le_of_lt_succ (dF de).1⟩) ?_;refine ak.bG h fun bw dn h=>ab.afJ (i:=1) (n:=bK) (xs:=(c1.1.hS:List gf)) (r:=bw) 31 rfl rfl (Nat.le_of_lt_succ (dF de).1) (di dn) (a6 (b1 (cG (aa rfl) cF)) ?_);refine aP (aM yW) ?_;refine ab.jK (i:=0) (γ:=gf) (b':=({ c1.1 with hS:= [] } :dO)) (os':= [(3,aS c1.2.1 bw.length c1.2.2)]) ((aJ.id dO).comp KO) xA (aa rfl) (aa rfl) iZ rfl rfl rfl rfl (ak.bG h fun bR hj h=>ab.NH (Cell.n3 ({ c1.1 with hS:=bw } :dO) c1.2.1 c1.2.2) 2 2 aiy rfl rfl rfl (ab.eN (L2:=(aH bR)) (by rw [← di hj];rfl) ?_));refine aG (ag.ct (ay ?_));refine ab.aiz 0 0 rfl (Zq h) rfl rfl ⟨aa rfl,trivial⟩ rfl fun⟨⟨aD,h⟩,ef⟩=>?_;refine ab.en (ab.nil ?_);exact ad.ek (ad.BM h () 0 rfl .all)
  exact ag.exit (ad.exit (ad.u2 h () 0 rfl (by simp) rfl .all))
 exact ad.fA (ad.lS (ad.j8 (⟨⟨av.2,h⟩,()⟩: {r // _}×_) (.refl _) rfl rfl))
theorem Zi {hp:aC Cell}{Q:Bool×(aC Cell)→Prop}(h:Eb hp Q):bt prog 15 [] ([]++aH hp) (δ:= {r:Bool×(aC Cell) // Q r}×Unit) (fun d=>I.of d.1.1.1) (fun d=>[]++aH d.1.1.2):=by
 unfold Eb at h;refine bt.of func15 rfl ntmps15 rfl fun W A=>ax (aK (bT ?_));refine ak.bG h fun aq bu h=>e1 0 OF (Lu bu) fun aB=>?_;refine ab.bI 0 rfl (ak.bG h fun aD cb h=>e1 1 Wh (Qk cb) fun ef=>?_);refine ab.eS 1 0 rfl Wi (QO (ak.hd h)) rfl rfl ⟨aa rfl,trivial⟩ rfl fun⟨⟨bh,h⟩,ev⟩=>?_;refine ab.en ?_;refine aK (bT ?_);refine gC xq ot ({ (default:cg) with fO:=true } :cg) (j0 qM .nil) ?_;refine hl [({ (default:cg) with fO:=true } :cg)] underlying49 gn ot ?_;refine ak.bG h fun bw dn h=>ee dn (dg (b:=({ (default:a8) with b3:=1,cU:= [({ (default:cg) with fO:=true } :cg)],fc:=1 } :a8)) rfl JK qc (.cons kQ rfl (bS 1) rfl (.cons mm rfl (aa rfl) rfl (.cons tE rfl (bS 1) rfl (.nil))))) ?_;refine bX qc fun bk=>?_;refine cz 0 cq (bT ?_);refine ay ?_;refine bz 0 cq ?_;refine ab.eS 2 0 rfl Oa (K0 h) rfl rfl ⟨aa rfl,aa rfl,bS 1,trivial⟩ rfl fun⟨⟨bL,h⟩,gw⟩=>?_;refine ab.en ?_;refine aK (bT ?_);refine ay ?_;refine ab.eS 2 0 rfl ahC (XB h) rfl rfl ⟨aa rfl,bS 0,trivial⟩ rfl fun⟨⟨cy,h⟩,ez⟩=>?_;refine ab.en (bT ?_);refine ay ?_;refine bz 0 cq ?_;refine ab.eS 2 0 rfl Oa (K0 h) rfl rfl ⟨aa rfl,aa rfl,bS 1,trivial⟩ rfl fun⟨⟨cr,h⟩,ky⟩=>?_;refine ab.en ?_;refine aK (bT ?_);refine ay ?_;refine bo fM ?_;refine ay ?_;refine eE cK ?_;refine lV fM ?_;refine n2 ?_;refine ay ?_;refine eE cK ?_;refine ak.bG h fun bJ cF h=>ak.bG h fun c1 cZ h=>ak.bG h fun cC mz h=>ab.PF (fun hb=>eW.obj 2 rfl (gh (gz cZ hb)) VP (P6 (gz mz hb)) rfl ⟨cG (cw rfl hb) (gz cF hb),trivial⟩) rfl rfl rfl rfl rfl (lV fM ?_);refine n2 ?_;refine ay ?_;refine eE cK ?_;refine ak.bG h fun cL oB h=>ab.PF (fun hb=>eW.iv 2 rfl ahD (X5 (gz oB hb)) ⟨cw rfl hb,trivial⟩) rfl rfl rfl rfl rfl (lV fM ?_);refine n2 ?_;refine aK (aG (ag.ret ?_));exact ad.dS (⟨⟨((((bL.1==0)&&(cr.1==0))&&(cC==1))&&(cL==2),cr.2),h⟩,()⟩: {r // _}×_) (dY 2) rfl rfl (cO rfl)
theorem X0 {hp:aC Cell}{J:List (BitVec 8)}{ah:List (BitVec 8)}{Q:Bool×(aC Cell)→Prop}(h:Dm hp J ah Q):bt prog 3 [I.of J,I.of ah] ([]++aH hp) (δ:= {r:Bool×(aC Cell) // Q r}×Unit) (fun d=>I.of d.1.1.1) (fun d=>[]++aH d.1.1.2):=by
 unfold Dm at h;refine bt.of func3 rfl ntmps3 rfl fun W A=>ax (aK (bT ?_));refine ay ?_;refine ak.bG h fun aq bu h=>e1 0 OF (Lu bu) fun aB=>?_;refine ab.bI 0 rfl (ak.bG h fun aD cb h=>e1 1 Wh (Qk cb) fun ef=>?_);refine ay ?_;refine ak.bG h fun bh eK h=>e1 0 OF (Lu eK) fun ev=>?_;refine bX JD fun bk=>?_;refine cz 0 fr ?_;refine aK (bA ?_);obtain⟨aiA,ahE,ahF⟩:=ak.ex h;refine IT mixed 3 1 24 _ (K:=aiA) [some (23,I.of aD.1),none,some (25,I.of aD.1)] _ [[],[0],[]] _ (fun bL=>I.of bL.1) (fun bL=>(aN bk aD.1::aN ev bh::aN aB aD.2::aH bL.2)) rfl rfl rfl rfl rfl rfl (by kernel_rfl) ⟨⟨e8 (i:=0) (aJ.id aZ) (r:=aD.1) fr (aa rfl) rfl rfl rfl,fun bL FB=>e8 (i:=0) (aJ.id aZ) (r:=aD.1) fr (aa rfl) rfl rfl rfl⟩,⟨e8 (i:=0) (aJ.id aZ) (r:=aD.1) fr (aa rfl) rfl rfl rfl,fun bL FB=>e8 (i:=0) (aJ.id aZ) (r:=aD.1) fr (aa rfl) rfl rfl rfl⟩,trivial⟩ (fun bo wi an bK=>?_) (fun bL FB=>?_)
 ·refine ab.eS 3 0 rfl Wi (QO ahE) rfl rfl ⟨aa (an rfl),trivial⟩ rfl fun⟨⟨bL,FB⟩,_⟩=>?_;refine ab.en (ab.nil ?_);exact bK bL FB
 have h:=ahF bL FB;refine ab.le (E':= [(0,I.of J),(1,I.of ah),(4,I.of false),(5,I.bq bk),(6,I.bq ev),(18,I.of J),(19,I.bq aB),(20,I.of aD.1),(21,I.of ah),(22,I.bq ev),(23,I.of aD.1),(24,I.of bL.1),(25,I.of aD.1)]) .all (ak.bG h fun cy h8 h=>e1 0 ahG (Zw h8) fun gw=>?_);refine aK ?_;refine aK (bA (ax ?_));refine aK (aG (ag.block ?_));refine ag.BL (σ:=Int×cW×du×(aC Cell)) (ε:=(Int×Bool×cW×du×(aC Cell)) ⊕ (Int×Bool×Bool×Bool×cW×du×(aC Cell))) (γ:=Unit) (δ:=Unit) h (fun s1 g1=>[(0,I.of J),(1,I.of ah),(4,I.of false),(5,I.bq bk),(6,I.bq ev),(7,I.of bL.1),(8,I.bq gw),(9,I.of s1.1)]) (fun s1 g1=>(aN gw s1.2.1::aN bk aD.1::aN ev s1.2.2.1::aN aB aD.2::aH s1.2.2.2)) (fun ez=>Sum.elim (fun ez=>Exit.exit 0) (fun ez=>Exit.ret) ez) (fun ez g1=>Sum.elim (fun ez=>[(0,I.of J),(1,I.of ah),(4,I.of false),(5,I.bq bk),(6,I.bq ev),(7,I.of bL.1),(8,I.bq gw),(9,I.of ez.1),(32,I.of ez.2.1)]) (fun ez=>[(0,I.of J),(1,I.of ah),(4,I.of false),(5,I.bq bk),(6,I.bq ev),(7,I.of bL.1),(8,I.bq gw),(9,I.of ez.1),(10,I.of ez.2.1),(32,I.of ez.2.2.1),(43,I.of ez.2.2.2.1)]) ez) (fun ez g1=>Sum.elim (fun ez=>(aN gw ez.2.2.1::aN bk aD.1::aN ev ez.2.2.2.1::aN aB aD.2::aH ez.2.2.2.2)) (fun ez=>(aN gw ez.2.2.2.2.1::aN bk aD.1::aN ev ez.2.2.2.2.2.1::aN aB aD.2::aH ez.2.2.2.2.2.2)) ez) () rfl .all (fun s1 R h g1=>?_) (fun av h g1=>?_)
 ·refine ag.seq (ax (ay ?_));refine bo ei ?_;refine ay ?_;refine eE cK ?_;refine ak.bG h fun cr iz h=>fy (fun hb=>b6.Ny (z:=(s1.2.2.1:du)) 2 30 rfl (fun _ _ _ h=>h.1 hb) rfl Em (km Vv (X3 (gz iz hb)) ⟨aa rfl,trivial⟩)) ?_;refine n2 (aG ?_);refine kd h (fun h=>?_) fun h=>?_
  ·refine cu (ag.seq (ag.block (ag.seq (ax (ay ?_)))));refine ay ?_;refine ay ?_;refine ab.bI 2 rfl (ab.bI 1 rfl (ab.rr (e2.eS 4 2 rfl ahH (Zp h) rfl rfl ⟨aa rfl,aa rfl,aa rfl,trivial⟩) rfl rfl rfl fun⟨⟨cC,h⟩,ky⟩=>?_));refine ab.en ?_;refine ay ?_;refine eu ?_;refine eu ?_;refine aK ?_;refine aK (bT ?_);refine ay ?_;refine aP l8 (aG ?_);refine kd h (fun h=>?_) fun h=>?_
   ·refine ax (aK (aG (ag.ret (ad.ret ?_))));exact ad.et (ad.ret (ad.bI 2 rfl (ad.bI 1 rfl (ad.u2 h () 0 rfl (by simp) rfl .all))))
   refine cu (ax (ay ?_));refine ab.eS 4 0 rfl ahI (Yt h) rfl rfl ⟨aa rfl,trivial⟩ rfl fun⟨⟨cL,h⟩,CS⟩=>?_;refine ab.en ?_;refine aK (bT ?_);refine ay ?_;refine ak.bG h fun dR ra h=>ab.gj (eW.iv 4 rfl ahJ (X4 ra) ⟨aa rfl,trivial⟩) rfl rfl rfl (aP (dW underlying45) ?_);refine ay (aG (ag.block ?_));refine ak.bG h fun aX ao h=>ag.tU (σ:=Int) (ε:=(Int×Bool) ⊕ (Int×Int×Int×Bool×(List az)×Int×Int×Bool×Bool)) (γ:=Unit) (δ:=Unit) ao (fun s2 g2=>[(0,I.of J),(1,I.of ah),(4,I.of false),(5,I.bq bk),(6,I.bq ev),(7,I.of bL.1),(8,I.bq gw),(9,I.of s1.1),(10,I.of cC.1),(12,I.of cL.1),(32,I.of ((decide (s1.1<20))&&cr)),(43,I.of (!cC.1)),(47,I.of dR),(48,I.of (dR.length:Int)),(49,I.of s2)]) (fun s2 g2=>(aN gw cC.2.2.1::aN ev cC.2.2.2.1::aN bk aD.1::aN aB aD.2::aH cL.2)) (fun kz=>Sum.elim (fun kz=>Exit.exit 2) (fun kz=>Exit.ret) kz) (fun kz g2=>Sum.elim (fun kz=>[(0,I.of J),(1,I.of ah),(4,I.of false),(5,I.bq bk),(6,I.bq ev),(7,I.of bL.1),(8,I.bq gw),(9,I.of s1.1),(10,I.of cC.1),(12,I.of cL.1),(32,I.of ((decide (s1.1<20))&&cr)),(43,I.of (!cC.1)),(47,I.of dR),(48,I.of (dR.length:Int)),(49,I.of kz.1),(50,I.of kz.2)]) (fun kz=>[(0,I.of J),(1,I.of ah),(4,I.of false),(5,I.bq bk),(6,I.bq ev),(7,I.of bL.1),(8,I.bq gw),(9,I.of s1.1),(10,I.of cC.1),(12,I.of cL.1),(13,I.of kz.1),(15,I.of kz.2.1),(32,I.of ((decide (s1.1<20))&&cr)),(43,I.of (!cC.1)),(47,I.of dR),(48,I.of (dR.length:Int)),(49,I.of kz.2.2.1),(50,I.of kz.2.2.2.1),(54,I.of kz.2.2.2.2.1),(55,I.of kz.2.2.2.2.2.1),(56,I.of kz.2.2.2.2.2.2.1),(57,I.of kz.2.2.2.2.2.2.2.1),(88,I.of kz.2.2.2.2.2.2.2.2)]) kz) (fun kz g2=>Sum.elim (fun kz=>(aN gw cC.2.2.1::aN ev cC.2.2.2.1::aN bk aD.1::aN aB aD.2::aH cL.2)) (fun kz=>(aN gw cC.2.2.1::aN ev cC.2.2.2.1::aN bk aD.1::aN aB aD.2::aH cL.2)) kz) () rfl .all (fun s2 r h g2=>?_) (fun g2=>?_)
   ·refine ax (bo ei (bA ?_));refine ca h (fun h=>?_) fun h=>?_
    ·refine cu (ag.seq (ag.block (ax (ay ?_))));refine aw h fun aU cv h=>fQ cv underlying45 Fl ?_;refine aP (c3 Fl) ?_;refine bX JC fun bB=>?_;refine aK ?_;refine cz 0 Fl (bT ?_);refine aK (bA (ax ?_));refine ay ?_;refine aP (dW underlying43) ?_;refine ay (aG (ag.block ?_));refine aw h fun c0 ao h=>ag.tU (σ:=Int×Int) (ε:=(Int×Int×Bool)) (γ:=Unit) (δ:=Unit) ao (fun iD g3=>[(0,I.of J),(1,I.of ah),(4,I.of false),(5,I.bq bk),(6,I.bq ev),(7,I.of bL.1),(8,I.bq gw),(9,I.of s1.1),(10,I.of cC.1),(12,I.of cL.1),(13,I.of s2),(14,I.bq bB),(15,I.of iD.1),(32,I.of ((decide (s1.1<20))&&cr)),(43,I.of (!cC.1)),(47,I.of dR),(48,I.of (dR.length:Int)),(49,I.of s2),(50,I.of (decide (s2<(dR.length:Int)))),(54,I.of cL.1),(55,I.of (cL.1.length:Int)),(56,I.of iD.2)]) (fun iD g3=>(aN bB (aE dR aU:hR)::aN gw cC.2.2.1::aN ev cC.2.2.2.1::aN bk aD.1::aN aB aD.2::aH cL.2)) (fun oO=>Exit.exit 4) (fun oO g3=>[(0,I.of J),(1,I.of ah),(4,I.of false),(5,I.bq bk),(6,I.bq ev),(7,I.of bL.1),(8,I.bq gw),(9,I.of s1.1),(10,I.of cC.1),(12,I.of cL.1),(13,I.of s2),(14,I.bq bB),(15,I.of oO.1),(32,I.of ((decide (s1.1<20))&&cr)),(43,I.of (!cC.1)),(47,I.of dR),(48,I.of (dR.length:Int)),(49,I.of s2),(50,I.of (decide (s2<(dR.length:Int)))),(54,I.of cL.1),(55,I.of (cL.1.length:Int)),(56,I.of oO.2.1),(57,I.of oO.2.2)]) (fun oO g3=>(aN bB (aE dR aU:hR)::aN gw cC.2.2.1::aN ev cC.2.2.2.1::aN bk aD.1::aN aB aD.2::aH cL.2)) () rfl .all (fun iD r h g3=>?_) (fun g3=>?_)
     ·refine ax (bo ei (bA ?_));refine ca h (fun h=>?_) fun h=>?_
      ·refine cu (ag.seq (ag.block (ax (aw h fun bK de h=>fQ de underlying43 b7 ?_))));refine aP (c3 b7) ?_;refine bX dt fun ck=>?_;refine cz 0 b7 (bT ?_);refine aP (aM BI) ?_;refine b5 0 tD bj ?_;refine aP (aM adt) ?_;refine b5 1 Qi bj ?_;refine bo fM (aG ?_);refine aw h fun m1 cP h=>ag.cX (γ:=Unit) (fun g4=>[(0,I.of J),(1,I.of ah),(4,I.of false),(5,I.bq bk),(6,I.bq ev),(7,I.of bL.1),(8,I.bq gw),(9,I.of s1.1),(10,I.of cC.1),(12,I.of cL.1),(13,I.of s2),(14,I.bq bB),(15,I.of m1),(17,I.bq ck),(32,I.of ((decide (s1.1<20))&&cr)),(43,I.of (!cC.1)),(47,I.of dR),(48,I.of (dR.length:Int)),(49,I.of s2),(50,I.of (decide (s2<(dR.length:Int)))),(54,I.of cL.1),(55,I.of (cL.1.length:Int)),(56,I.of iD.2),(57,I.of (decide (iD.2<(cL.1.length:Int)))),(64,I.of (((aE cL.1 bK).dA)==((aE dR aU).w7)))]) (fun g4=>(aN ck (aE cL.1 bK:az)::aN bB (aE dR aU:hR)::aN gw cC.2.2.1::aN ev cC.2.2.2.1::aN bk aD.1::aN aB aD.2::aH cL.2)) (aa rfl) (fun g4=>?_) (fun hm ai=>?_) (fun hm ai=>?_)
       ·refine ad.ek (ad.next (ag.ct (bo dQ ?_)));refine ay (ab.nil ?_);cases h;exact ga () 1
       ·have h:=hE ai cP;refine ag.ct (ay ?_);refine bo dQ ?_;refine aK (ab.nil ?_);cases h;exact dw 0 (hm ())
       have h:=hF ai cP;refine ag.skip ?_;cases h;exact dw 0 (hm ())
      refine ag.exit (ad.exit ?_);cases h;exact ep () 0
     refine ad.fA (ad.next (ax (aP (aM adu) ?_)));refine b5 0 Qe bj ?_;refine ay ?_;refine bo ou ?_;refine ay ?_;refine eE cK ?_;refine eE (aM yV) ?_;refine fy (fun hb=>e8 (i:=3) ((aJ.id aZ).comp ym) (r:=aD.1.eR) r7 (cw rfl hb) rfl rfl rfl) ?_;refine eE (dW underlying29) ?_;refine lV l7 ?_;refine aw h fun bw dn h=>ee dn (xz (aa rfl) (aa rfl) (fun h=>h)) ?_;refine ay ?_;refine eE cK ?_;refine eE (aM yV) ?_;refine fy (fun hb=>e8 (i:=3) ((aJ.id aZ).comp ym) (r:=aD.1.eR) r7 (cw rfl hb) rfl rfl rfl) ?_;refine eE cK ?_;refine aw h fun dI jo h=>fy (fun hb=>nS (k:=dI) underlying29 mP (cw rfl hb) (cw rfl hb) (dF (gz jo hb))) ?_;refine fy (fun hb=>rX AI MO (cw rfl hb) rfl rfl) ?_;refine eE (c3 bj) ?_;refine lV p4 ?_;refine vJ (aG ?_);refine ca h (fun h=>?_) fun h=>?_
     ·refine ax (aK (aG (ag.ret ?_)));refine ad.et (ad.ret ?_);cases h;exact ep () 1
     refine ag.skip (ad.ek (ad.next (ag.ct (bo dQ ?_))));refine ay (ab.nil ?_);cases h;exact ga () 1
    refine ag.exit (ad.exit ?_);cases h;exact ep () 0
   rcases aX with aX | aX
   ·simp only [Sum.elim_inl] at h;refine ad.fA (ad.ek (ad.next (ag.ct (ay ?_))));refine bo dQ ?_;refine aK (ab.nil ?_);exact ad.bI 2 rfl (ad.bI 1 rfl (ad.BM h () 0 rfl .all))
   simp only [Sum.elim_inr] at h;exact ad.et (ad.et (ad.ret (ad.bI 2 rfl (ad.bI 1 rfl (ad.u2 h () 0 rfl (by simp) rfl .all)))))
  exact ag.exit (ad.exit (ad.u2 h () 0 rfl (by simp) rfl .all))
 rcases av with av | av
 ·simp only [Sum.elim_inl] at h;refine ad.fA (ad.next (ax (ab.eS 4 0 rfl ahK (Zi h) rfl rfl trivial rfl fun⟨⟨hW,h⟩,FX⟩=>?_)));refine ab.en ?_;refine aK (aG (ag.ret ?_));exact ad.dS (⟨⟨(hW.1,hW.2),h⟩,()⟩: {r // _}×_) (dY 4) rfl rfl (cO rfl)
 simp only [Sum.elim_inr] at h;exact ad.et (ad.ret (ad.dS (⟨⟨(false,av.2.2.2.2.2.2),h⟩,()⟩: {r // _}×_) (dY 4) rfl rfl (cO rfl)))
end Go.Proofs.YtppgfphgdogpeaaGreat
