/-
  IndexOrder holds for every input: the call returns true and each argument reads afterwards as it read before. Conditions: none.
-/
import Derived.ProofKit
import Derived.OpenShut
import Derived.Test.YtmnggbjcnoffeaaGreatMl0
import Derived.Test.YtmnggbjcnoffeaaGreatMl2
import Derived.Test.YtmnggbjcnoffeaaGreatMp1
import Derived.Test.YtmnggbjcnoffeaaGreatMc2
set_option linter.unusedVariables false
set_option maxRecDepth 100000
namespace Go.Proofs.YtmnggbjcnoffeaaGreat
open Go Gv Go.ChangeShapes Go.WideShapes Go.ChangeAt Go.RowKit
theorem aan:Arg Tryz.prog 5 (BitVec 8):=Arg.u8 Tryz.underlying5 (by kernel_rfl)
theorem Ie:tS Tryz.prog 22 (List (BitVec 8)):=tS.aaP Tryz.underlying22 aan (by kernel_rfl)
theorem aao:Arg Tryz.prog 3 Int:=Arg.int Tryz.underlying3 (by kernel_rfl)
theorem YR:tS Tryz.prog 3 Int:= .of aao
theorem SO:ownKnob Tryz.prog.godebug=none:=by kernel_rfl
theorem SH:laidOutB Tryz.prog=true:=by kernel_rfl
theorem Sz:∀ t∈Tryz.f12.params.toList,Tryz.prog.readableRec t=true∧t < Tryz.prog.types.size:=by
 rw [Tryz.params12]
 intro t bL
 simp only [List.mem_cons,List.not_mem_nil,or_false] at bL
 rcases bL with rfl | rfl | rfl | rfl <;> exact⟨by kernel_rfl,of_decide_eq_true (by kernel_rfl)⟩
set_option maxHeartbeats 1600000 in
theorem Sk (os:Os) (started:os.Started) (H:Type) (enc:TypeId × Value→H):
 ReturnsInHanded {} Tryz.checked os 12 .any (Rows.indexOrderSpec.pre6 enc Tryz.prog Tryz.f12 Rows.indexOrderRow.domain false) (Rows.indexOrderSpec.post enc Tryz.prog Tryz.f12 false true false false):=by
 refine returnsInHanded_of_change (C:=Tryz.checked) SO started (by kernel_rfl) Tryz.func12
  (ChangeSpec.witness6 (enc:=enc) (C:=Tryz.checked) false ⟨#[],#[.slice none 0 0,.slice none 0 0,.slice none 0 0,.int .i64 0],[]⟩ 8 (by kernel_rfl) (by kernel_rfl) (by kernel_rfl) (by kernel_rfl)) ?_
 intro W base args ds gs before YS y5 acA _
 have Jm:∀ (j:Nat) t v,Tryz.f12.params[j]? =some t→args[j]? =some v→Value.okWide Tryz.prog W .any base t v:=YS
 have abY:DataW.Whole enc Tryz.prog Tryz.f12.params.toList Rows.indexOrderSpec.vars false W args.toList ds gs before:=y5
 obtain⟨p,q,abZ,Ky,tZ,acX,gu⟩:=y5
 have fY:DataW.TrodAll enc Tryz.prog W 0 (fun _=>true) true [22,22,22,3] args.toList ds p:=abZ
 have hF:∀ (j:Nat) u v,[22,22,22,3][j]? =some u→args.toList[j]? =some v→Value.okWide Tryz.prog W .any base u v:=fun j u v J ad=>Jm j u v (by rw [Tryz.params12]; simpa using J) (by simpa using ad)
 obtain⟨aa,v0,acY,acZ,ac0,d0,iZ,g0,bI,fY,hF⟩:=DK Ie fY hF
 obtain⟨aj,v1,Jz,JA,da,d1,av,aq,J,fY,hF⟩:=DK Ie fY hF
 obtain⟨aP,v2,ac1,ac2,kg,d2,aX,bd,ad,fY,hF⟩:=DK Ie fY hF
 obtain⟨bR,y3,ac3,ac4,Fm,d3,c4,bN,aC,fY,hF⟩:=DK YR fY hF
 obtain⟨gT,dq,_⟩:=trodAll_nil fY
 subst gT dq
 subst c4
 subst aX
 subst av
 obtain rfl:args= #[v0,v1,v2,y3]:=by cases args; simpa using iZ
 subst bN
 subst bd
 subst aq
 subst g0
 have Bj:=(bM.law (Sg (SN aa aj aP bR)) fun _ h=>h) [] W [v0,v1,v2,y3] (by simp) (.cons bI (.cons J (.cons ad (.cons aC (.nil)))))
 refine Bj.mono fun e W' ⟨v,he,nz,a0⟩=> ?_
 rw [of_bool] at a0
 subst a0
 exact⟨_,he,UO SH Sz rfl Tryz.underlying4 rfl rfl abY nz⟩
theorem SP:(Rows.indexOrderRow.inPlace ==Tryz.prog.inPlace 12)=true:=by kernel_rfl
theorem SQ:(Rows.indexOrderRow.unfollowed ==Tryz.prog.unfollowed 12)=true:=by kernel_rfl
theorem SR:(Rows.indexOrderRow.recurses ==Tryz.prog.recurses 12)=true:=by kernel_rfl
theorem SS:(Rows.indexOrderRow.named ==Tryz.prog.varsNamed 12)=true:=by kernel_rfl
theorem Sn:joinedFacts Tryz.prog 12 Tryz.f12 Rows.indexOrderSpec Rows.indexOrderRow=true:=by
 unfold joinedFacts
 rw [SP,SQ,SR,SS]
 kernel_rfl
theorem IndexOrder_holds:Rows.IndexOrderSaid:=
 OpenClaim.holds_of_wide 12 Tryz.f12 rfl rfl rfl rfl rfl rfl rfl ⟨rfl,rfl,rfl,rfl,rfl⟩ rfl rfl rfl rfl rfl (by kernel_rfl) Tryz.func12 Sn
  (of_decide_eq_true (by kernel_rfl)) (by unfold Func.isWrapper; first | (rw [if_pos (by decide +kernel)]; kernel_rfl) | (rw [if_neg (by decide +kernel)]; exact⟨rfl,rfl⟩))
  (fun os started H enc _=>Sk os started H enc)
end Go.Proofs.YtmnggbjcnoffeaaGreat
