/-
  IndexAgree holds for every input: the call returns true and each argument reads afterwards as it read before. Conditions: none.
-/
import Derived.ProofKit
import Derived.OpenShut
import Derived.Test.YthkfkliknjiecaaGreatMl0
import Derived.Test.YthkfkliknjiecaaGreatMl2
import Derived.Test.YthkfkliknjiecaaGreatMp1
import Derived.Test.YthkfkliknjiecaaGreatMc1
set_option linter.unusedVariables false
set_option maxRecDepth 100000
namespace Go.Proofs.YthkfkliknjiecaaGreat
open Go Gv Go.ChangeShapes Go.WideShapes Go.ChangeAt Go.RowKit
theorem OG:Arg Tryz.prog 5 (BitVec 8):=Arg.u8 Tryz.underlying5 (by kernel_rfl)
theorem Vi:uc Tryz.prog 22 (List (BitVec 8)):=uc.Zj Tryz.underlying22 OG (by kernel_rfl)
theorem Xl:uc Tryz.prog 5 (BitVec 8):= .of OG
theorem Rd:ownKnob Tryz.prog.godebug=none:=by kernel_rfl
theorem Q8:laidOutB Tryz.prog=true:=by kernel_rfl
theorem Q4:∀ t∈Tryz.f3.params.toList,Tryz.prog.readableRec t=true∧t < Tryz.prog.types.size:=by
 rw [Tryz.params3]
 intro t bl
 simp only [List.mem_cons,List.not_mem_nil,or_false] at bl
 rcases bl with rfl | rfl <;> exact⟨by kernel_rfl,of_decide_eq_true (by kernel_rfl)⟩
set_option maxHeartbeats 1600000 in
theorem QV (os:Os) (started:os.Started) (H:Type) (enc:TypeId × Value→H):
 ReturnsInHanded {} Tryz.checked os 3 .any (Rows.indexAgreeSpec.pre6 enc Tryz.prog Tryz.f3 Rows.indexAgreeRow.domain false) (Rows.indexAgreeSpec.post enc Tryz.prog Tryz.f3 false true false false):=by
 refine returnsInHanded_of_change (C:=Tryz.checked) Rd started (by kernel_rfl) Tryz.func3
  (ChangeSpec.witness6 (enc:=enc) (C:=Tryz.checked) false ⟨#[],#[.slice none 0 0,.int .u8 0],[]⟩ 8 (by kernel_rfl) (by kernel_rfl) (by kernel_rfl) (by kernel_rfl)) ?_
 intro W base args ds gs before Xm yt aaJ _
 have YM:∀ (j:Nat) t v,Tryz.f3.params[j]? =some t→args[j]? =some v→Value.okWide Tryz.prog W .any base t v:=Xm
 have aac:DataW.Whole enc Tryz.prog Tryz.f3.params.toList Rows.indexAgreeSpec.vars false W args.toList ds gs before:=yt
 obtain⟨p,q,aad,Jw,Eo,aa3,gk⟩:=yt
 have gK:DataW.TrodAll enc Tryz.prog W 0 (fun _=>true) true [22,5] args.toList ds p:=aad
 have ie:∀ (j:Nat) u v,[22,5][j]? =some u→args.toList[j]? =some v→Value.okWide Tryz.prog W .any base u v:=fun j u v J aa=>YM j u v (by rw [Tryz.params3]; simpa using J) (by simpa using aa)
 obtain⟨ab,v0,aa4,aa5,aa6,d0,jF,g0,bA,gK,ie⟩:=KJ Vi gK ie
 obtain⟨al,v1,Ix,Iy,eL,d1,az,ax,J,gK,ie⟩:=KJ Xl gK ie
 obtain⟨aX,a5,_⟩:=trodAll_nil gK
 subst aX a5
 subst az
 obtain rfl:args= #[v0,v1]:=by cases args; simpa using jF
 subst ax
 subst g0
 have z9:=(bN.law (QQ (Rc ab al)) fun _ h=>h) [] W [v0,v1] (by simp) (.cons bA (.cons J (.nil)))
 refine z9.mono fun e W' ⟨v,he,oT,a3⟩=> ?_
 rw [of_bool] at a3
 subst a3
 exact⟨_,he,SV Q8 Q4 rfl Tryz.underlying4 rfl rfl aac oT⟩
theorem Re:(Rows.indexAgreeRow.inPlace ==Tryz.prog.inPlace 3)=true:=by kernel_rfl
theorem Rf:(Rows.indexAgreeRow.unfollowed ==Tryz.prog.unfollowed 3)=true:=by kernel_rfl
theorem Rg:(Rows.indexAgreeRow.recurses ==Tryz.prog.recurses 3)=true:=by kernel_rfl
theorem Rh:(Rows.indexAgreeRow.named ==Tryz.prog.varsNamed 3)=true:=by kernel_rfl
theorem QX:joinedFacts Tryz.prog 3 Tryz.f3 Rows.indexAgreeSpec Rows.indexAgreeRow=true:=by
 unfold joinedFacts
 rw [Re,Rf,Rg,Rh]
 kernel_rfl
theorem IndexAgree_holds:Rows.IndexAgreeSaid:=
 OpenClaim.holds_of_wide 3 Tryz.f3 rfl rfl rfl rfl rfl rfl rfl ⟨rfl,rfl,rfl,rfl,rfl⟩ rfl rfl rfl rfl rfl (by kernel_rfl) Tryz.func3 QX
  (of_decide_eq_true (by kernel_rfl)) (by unfold Func.isWrapper; first | (rw [if_pos (by decide +kernel)]; kernel_rfl) | (rw [if_neg (by decide +kernel)]; exact⟨rfl,rfl⟩))
  (fun os started H enc _=>QV os started H enc)
end Go.Proofs.YthkfkliknjiecaaGreat
