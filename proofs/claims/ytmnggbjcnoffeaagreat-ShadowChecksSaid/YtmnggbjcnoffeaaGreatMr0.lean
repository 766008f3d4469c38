/-
  ShadowChecks holds for every input: the call returns true and each argument reads afterwards as it read before. Conditions: none.
-/
import Derived.ProofKit
import Derived.OpenShut
import Derived.Test.YtmnggbjcnoffeaaGreatMl0
import Derived.Test.YtmnggbjcnoffeaaGreatMl2
import Derived.Test.YtmnggbjcnoffeaaGreatMp1
import Derived.Test.YtmnggbjcnoffeaaGreatMc2
namespace Go.Proofs.YtmnggbjcnoffeaaGreat
open Go Gv Go.ChangeShapes Go.WideShapes Go.ChangeAt Go.RowKit
set_option linter.unusedVariables false
set_option maxRecDepth 100000
theorem Y8:Arg Tryz.prog 5 (BitVec 8):=Arg.u8 Tryz.underlying5 (by kernel_rfl)
theorem Nh:sL Tryz.prog 22 (List (BitVec 8)):=sL.Zx Tryz.underlying22 Y8 (by kernel_rfl)
theorem Y9:Arg Tryz.prog 3 Int:=Arg.int Tryz.underlying3 (by kernel_rfl)
theorem Om:sL Tryz.prog 3 Int:= .of Y9
theorem RI:ownKnob Tryz.prog.godebug=none:=by kernel_rfl
theorem Rt:laidOutB Tryz.prog=true:=by kernel_rfl
theorem Rl:∀ t∈Tryz.f10.params.toList,Tryz.prog.readableRec t=true∧t < Tryz.prog.types.size:=by
 rw [Tryz.params10]
 intro t cc
 simp only [List.mem_cons,List.not_mem_nil,or_false] at cc
 rcases cc with rfl | rfl | rfl | rfl <;> exact⟨by kernel_rfl,of_decide_eq_true (by kernel_rfl)⟩
set_option maxHeartbeats 1600000 in
theorem Ra (os:Os) (started:os.Started) (H:Type) (enc:TypeId × Value→H):
 ReturnsInHanded {} Tryz.checked os 10 .any (Rows.shadowChecksSpec.pre6 enc Tryz.prog Tryz.f10 Rows.shadowChecksRow.domain false) (Rows.shadowChecksSpec.post enc Tryz.prog Tryz.f10 false true false false):=by
 refine returnsInHanded_of_change (C:=Tryz.checked) RI started (by kernel_rfl) Tryz.func10
  (ChangeSpec.witness6 (enc:=enc) (C:=Tryz.checked) false ⟨#[],#[.slice none 0 0,.slice none 0 0,.int .i64 0,.int .i64 0],[]⟩ 8 (by kernel_rfl) (by kernel_rfl) (by kernel_rfl) (by kernel_rfl)) ?_
 intro W base args ds gs before XP xk aaX _
 have z1:∀ (j:Nat) t v,Tryz.f10.params[j]? =some t→args[j]? =some v→Value.okWide Tryz.prog W .any base t v:=XP
 have aal:DataW.Whole enc Tryz.prog Tryz.f10.params.toList Rows.shadowChecksSpec.vars false W args.toList ds gs before:=xk
 obtain⟨p,q,aam,Je,DJ,abn,hA⟩:=xk
 have fL:DataW.TrodAll enc Tryz.prog W 0 (fun _=>true) true [22,22,3,3] args.toList ds p:=aam
 have hT:∀ (j:Nat) u v,[22,22,3,3][j]? =some u→args.toList[j]? =some v→Value.okWide Tryz.prog W .any base u v:=fun j u v J ab=>z1 j u v (by rw [Tryz.params10]; simpa using J) (by simpa using ab)
 obtain⟨aa,v0,abo,abp,abq,d0,lS,g0,bP,fL,hT⟩:=Ca Nh fL hT
 obtain⟨ai,v1,H8,H9,c5,d1,ay,au,J,fL,hT⟩:=Ca Nh fL hT
 obtain⟨aR,v2,abr,abt,iz,d2,aS,aT,ab,fL,hT⟩:=Ca Om fL hT
 obtain⟨cQ,Ef,abu,abv,sT,d3,cW,bq,aE,fL,hT⟩:=Ca Om fL hT
 obtain⟨eh,cx,_⟩:=trodAll_nil fL
 subst eh cx
 subst cW
 subst aS
 subst ay
 obtain rfl:args= #[v0,v1,v2,Ef]:=by cases args; simpa using lS
 subst bq
 subst aT
 subst au
 subst g0
 have zv:=(cG.law (QV (RH aa ai aR cQ)) fun _ h=>h) [] W [v0,v1,v2,Ef] (by simp) (.cons bP (.cons J (.cons ab (.cons aE (.nil)))))
 refine zv.mono fun e W' ⟨v,he,nX,a3⟩=> ?_
 rw [of_bool] at a3
 subst a3
 exact⟨_,he,TJ Rt Rl rfl Tryz.underlying4 rfl rfl aal nX⟩
theorem RJ:(Rows.shadowChecksRow.inPlace ==Tryz.prog.inPlace 10)=true:=by kernel_rfl
theorem RK:(Rows.shadowChecksRow.unfollowed ==Tryz.prog.unfollowed 10)=true:=by kernel_rfl
theorem RL:(Rows.shadowChecksRow.recurses ==Tryz.prog.recurses 10)=true:=by kernel_rfl
theorem RM:(Rows.shadowChecksRow.named ==Tryz.prog.varsNamed 10)=true:=by kernel_rfl
theorem Rf:joinedFacts Tryz.prog 10 Tryz.f10 Rows.shadowChecksSpec Rows.shadowChecksRow=true:=by
 unfold joinedFacts
 rw [RJ,RK,RL,RM]
 kernel_rfl
theorem ShadowChecks_holds:Rows.ShadowChecksSaid:=
 OpenClaim.holds_of_wide 10 Tryz.f10 rfl rfl rfl rfl rfl rfl rfl ⟨rfl,rfl,rfl,rfl,rfl⟩ rfl rfl rfl rfl rfl (by kernel_rfl) Tryz.func10 Rf
  (of_decide_eq_true (by kernel_rfl)) (by unfold Func.isWrapper; first | (rw [if_pos (by decide +kernel)]; kernel_rfl) | (rw [if_neg (by decide +kernel)]; exact⟨rfl,rfl⟩))
  (fun os started H enc _=>Ra os started H enc)
end Go.Proofs.YtmnggbjcnoffeaaGreat
