/-
  ShadowExact holds for every input: the call returns true and each argument reads afterwards as it read before. Conditions: none.
-/
import Derived.ProofKit
import Derived.OpenShut
import Derived.Test.YtmnggbjcnoffeaaGreatMl0
import Derived.Test.YtmnggbjcnoffeaaGreatMl2
import Derived.Test.YtmnggbjcnoffeaaGreatMp1
import Derived.Test.YtmnggbjcnoffeaaGreatMc2
namespace Go.Proofs.YtmnggbjcnoffeaaGreat
open Go Gv Go.ChangeShapes Go.WideShapes Go.ChangeAt Go.RowKit
set_option linter.unusedVariables false
set_option maxRecDepth 100000
theorem Yz:Arg Tryz.prog 5 (BitVec 8):=Arg.u8 Tryz.underlying5 (by kernel_rfl)
theorem Nf:qd Tryz.prog 22 (List (BitVec 8)):=qd.OU Tryz.underlying22 Yz (by kernel_rfl)
theorem YA:Arg Tryz.prog 3 Int:=Arg.int Tryz.underlying3 (by kernel_rfl)
theorem Xf:qd Tryz.prog 3 Int:= .of YA
theorem Oa:Arg Tryz.prog 41 (BitVec 64):=Arg.u64 Tryz.underlying41 (by kernel_rfl)
theorem Xg:Arg Tryz.prog 43 ak where
 cells:=by kernel_rfl
 read h:=by
  obtain⟨xs,n,_,_,ao,hlen,a8⟩:=DataW.trod_struct Tryz.underlying43 h
  obtain⟨fM,bW⟩:=Lw 0 Oa rfl hlen a8
  obtain⟨dY,aa⟩:=Lw 1 Oa rfl hlen a8
  exact⟨{ c6:=fM,bO:=dY },ao.trans (by kernel_rfl),bW,aa⟩
 form h:=Lv (.inl ⟨_,Tryz.underlying43⟩) h
theorem Xh:Arg Tryz.prog 45 (Vector ak 4):=Arg.arr Tryz.underlying45 Xg (by kernel_rfl)
theorem U6:qd Tryz.prog 23 (List (Vector ak 4)):=qd.OU Tryz.underlying23 Xh (by kernel_rfl)
theorem Rk:ownKnob Tryz.prog.godebug=none:=by kernel_rfl
theorem Ra:laidOutB Tryz.prog=true:=by kernel_rfl
theorem QY:∀ t∈Tryz.f9.params.toList,Tryz.prog.readableRec t=true∧t < Tryz.prog.types.size:=by
 rw [Tryz.params9]
 intro t cj
 simp only [List.mem_cons,List.not_mem_nil,or_false] at cj
 rcases cj with rfl | rfl | rfl | rfl <;> exact⟨by kernel_rfl,of_decide_eq_true (by kernel_rfl)⟩
set_option maxHeartbeats 1600000 in
theorem QM (os:Os) (started:os.Started) (H:Type) (enc:TypeId × Value→H):
 ReturnsInHanded {} Tryz.checked os 9 .any (Rows.shadowExactSpec.pre6 enc Tryz.prog Tryz.f9 Rows.shadowExactRow.domain false) (Rows.shadowExactSpec.post enc Tryz.prog Tryz.f9 false true false false):=by
 refine returnsInHanded_of_change (C:=Tryz.checked) Rk started (by kernel_rfl) Tryz.func9
  (ChangeSpec.witness6 (enc:=enc) (C:=Tryz.checked) false ⟨#[],#[.slice none 0 0,.slice none 0 0,.int .i64 0,.slice none 0 0],[]⟩ 8 (by kernel_rfl) (by kernel_rfl) (by kernel_rfl) (by kernel_rfl)) ?_
 intro W base args ds gs before Xi xt aan _
 have AI:∀ (j:Nat) t v,Tryz.f9.params[j]? =some t→args[j]? =some v→Value.okWide Tryz.prog W .any base t v:=Xi
 have ZP:DataW.Whole enc Tryz.prog Tryz.f9.params.toList Rows.shadowExactSpec.vars false W args.toList ds gs before:=xt
 obtain⟨p,q,ZQ,Jx,Ef,aaL,iM⟩:=xt
 have fV:DataW.TrodAll enc Tryz.prog W 0 (fun _=>true) true [22,22,3,23] args.toList ds p:=ZQ
 have hV:∀ (j:Nat) u v,[22,22,3,23][j]? =some u→args.toList[j]? =some v→Value.okWide Tryz.prog W .any base u v:=fun j u v aa ae=>AI j u v (by rw [Tryz.params9]; simpa using aa) (by simpa using ae)
 obtain⟨J,v0,aaM,aaN,aaO,d0,jN,g0,bW,fV,hV⟩:=CD Nf fV hV
 obtain⟨ag,v1,Ix,Iy,cV,d1,aA,az,aa,fV,hV⟩:=CD Nf fV hV
 obtain⟨aT,v2,aaP,aaQ,hB,d2,aU,a5,ae,fV,hV⟩:=CD Xf fV hV
 obtain⟨cB,xq,aaR,aaS,qh,d3,cL,bu,aD,fV,hV⟩:=CD U6 fV hV
 obtain⟨eO,cM,_⟩:=trodAll_nil fV
 subst eO cM
 subst cL
 subst aU
 subst aA
 obtain rfl:args= #[v0,v1,v2,xq]:=by cases args; simpa using jN
 subst bu
 subst a5
 subst az
 subst g0
 have z8:=(cy.law (QF (Rj J ag aT cB)) fun _ h=>h) [] W [v0,v1,v2,xq] (by simp) (.cons bW (.cons aa (.cons ae (.cons aD (.nil)))))
 refine z8.mono fun e W' ⟨v,he,mT,aX⟩=> ?_
 rw [of_bool] at aX
 subst aX
 exact⟨_,he,Td Ra QY rfl Tryz.underlying4 rfl rfl ZP mT⟩
theorem Rl:(Rows.shadowExactRow.inPlace ==Tryz.prog.inPlace 9)=true:=by kernel_rfl
theorem Rm:(Rows.shadowExactRow.unfollowed ==Tryz.prog.unfollowed 9)=true:=by kernel_rfl
theorem Rn:(Rows.shadowExactRow.recurses ==Tryz.prog.recurses 9)=true:=by kernel_rfl
theorem Ro:(Rows.shadowExactRow.named ==Tryz.prog.varsNamed 9)=true:=by kernel_rfl
theorem QR:joinedFacts Tryz.prog 9 Tryz.f9 Rows.shadowExactSpec Rows.shadowExactRow=true:=by
 unfold joinedFacts
 rw [Rl,Rm,Rn,Ro]
 kernel_rfl
theorem ShadowExact_holds:Rows.ShadowExactSaid:=
 OpenClaim.holds_of_wide 9 Tryz.f9 rfl rfl rfl rfl rfl rfl rfl ⟨rfl,rfl,rfl,rfl,rfl⟩ rfl rfl rfl rfl rfl (by kernel_rfl) Tryz.func9 QR
  (of_decide_eq_true (by kernel_rfl)) (by unfold Func.isWrapper; first | (rw [if_pos (by decide +kernel)]; kernel_rfl) | (rw [if_neg (by decide +kernel)]; exact⟨rfl,rfl⟩))
  (fun os started H enc _=>QM os started H enc)
end Go.Proofs.YtmnggbjcnoffeaaGreat
