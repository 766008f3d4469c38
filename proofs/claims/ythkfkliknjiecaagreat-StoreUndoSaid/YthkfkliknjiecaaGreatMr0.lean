/-
  StoreUndo holds for every input: the call returns true and each argument reads afterwards as it read before. Conditions: none.
-/
import Derived.ProofKit
import Derived.OpenShut
import Derived.Test.YthkfkliknjiecaaGreatMl0
import Derived.Test.YthkfkliknjiecaaGreatMl2
import Derived.Test.YthkfkliknjiecaaGreatMp1
import Derived.Test.YthkfkliknjiecaaGreatMc2
set_option linter.unusedVariables false
set_option maxRecDepth 100000
namespace Go.Proofs.YthkfkliknjiecaaGreat
open Go Gv Go.ChangeShapes Go.WideShapes Go.ChangeAt Go.RowKit
theorem TG:Arg Tryz.prog 5 (BitVec 8):=Arg.u8 Tryz.underlying5 (by kernel_rfl)
theorem RG:vI Tryz.prog 22 (List (BitVec 8)):=vI.age Tryz.underlying22 TG (by kernel_rfl)
theorem adJ:vI Tryz.prog 5 (BitVec 8):= .of TG
theorem W8:ownKnob Tryz.prog.godebug=none:=by kernel_rfl
theorem WU:laidOutB Tryz.prog=true:=by kernel_rfl
theorem WM:∀ t∈Tryz.f6.params.toList,Tryz.prog.readableRec t=true∧t<Tryz.prog.types.size:=by
 rw [Tryz.params6];intro t bM;simp only [List.mem_cons,List.not_mem_nil,or_false] at bM;rcases bM with rfl | rfl | rfl <;> exact⟨by kernel_rfl,of_decide_eq_true (by kernel_rfl)⟩
set_option maxHeartbeats 1600000 in
theorem Wq (os:Os)(started:os.Started)(H:Type)(enc:TypeId×Value→H):
 ReturnsInHanded {} Tryz.checked os 6 .any (Rows.storeUndoSpec.pre6 enc Tryz.prog Tryz.f6 Rows.storeUndoRow.domain false) (Rows.storeUndoSpec.post enc Tryz.prog Tryz.f6 false true false false):=by
 refine returnsInHanded_of_change (C:=Tryz.checked) W8 started (by kernel_rfl) Tryz.func6
  (ChangeSpec.witness6 (enc:=enc) (C:=Tryz.checked) false ⟨#[],#[.slice none 0 0,.slice none 0 0,.int .u8 0],[]⟩ 8 (by kernel_rfl) (by kernel_rfl) (by kernel_rfl) (by kernel_rfl)) ?_
 intro W base args ds gs before adK AO ah2 _
 have Ma:∀ (j:Nat) t v,Tryz.f6.params[j]? =some t→args[j]? =some v→Value.okWide Tryz.prog W .any base t v:=adK
 have aho:DataW.Whole enc Tryz.prog Tryz.f6.params.toList Rows.storeUndoSpec.vars false W args.toList ds gs before:=AO
 obtain⟨p,q,ahp,NB,vP,aiC,iD⟩:=AO
 have hf:DataW.TrodAll enc Tryz.prog W 0 (fun _=>true) true [22,22,5] args.toList ds p:=ahp
 have jz:∀ (j:Nat) u v,[22,22,5][j]? =some u→args.toList[j]? =some v→Value.okWide Tryz.prog W .any base u v:=fun j u v aa ae=>Ma j u v (by rw [Tryz.params6];simpa using aa) (by simpa using ae)
 obtain⟨J,v0,aiD,aiE,aiF,d0,jC,g0,bO,hf,jz⟩:=Js RG hf jz
 obtain⟨ai,v1,Mu,Mv,cW,d1,aq,ao,aa,hf,jz⟩:=Js RG hf jz
 obtain⟨aT,v2,aiG,aiH,jV,d2,aX,a3,ae,hf,jz⟩:=Js adJ hf jz
 obtain⟨dd,bx,_⟩:=trodAll_nil hf
 subst dd bx
 subst aX
 subst aq
 obtain rfl:args= #[v0,v1,v2]:=by cases args;simpa using jC
 subst a3
 subst ao
 subst g0
 have Dk:=(bC.law (Wm (W7 J ai aT)) fun _ h=>h) [] W [v0,v1,v2] (by simp) (.cons bO (.cons aa (.cons ae (.nil))))
 refine Dk.mono fun e W' ⟨v,he,mC,a6⟩=>?_
 rw [of_bool] at a6
 subst a6
 exact⟨_,he,Zi WU WM rfl Tryz.underlying4 rfl rfl aho mC⟩
theorem W9:(Rows.storeUndoRow.inPlace==Tryz.prog.inPlace 6)=true:=by kernel_rfl
theorem Xa:(Rows.storeUndoRow.unfollowed==Tryz.prog.unfollowed 6)=true:=by kernel_rfl
theorem Xb:(Rows.storeUndoRow.recurses==Tryz.prog.recurses 6)=true:=by kernel_rfl
theorem Xc:(Rows.storeUndoRow.named==Tryz.prog.varsNamed 6)=true:=by kernel_rfl
theorem WD:joinedFacts Tryz.prog 6 Tryz.f6 Rows.storeUndoSpec Rows.storeUndoRow=true:=by
 unfold joinedFacts;rw [W9,Xa,Xb,Xc];kernel_rfl
theorem StoreUndo_holds:Rows.StoreUndoSaid:=
 OpenClaim.holds_of_wide 6 Tryz.f6 rfl rfl rfl rfl rfl rfl rfl ⟨rfl,rfl,rfl,rfl,rfl⟩ rfl rfl rfl rfl rfl (by kernel_rfl) Tryz.func6 WD
  (of_decide_eq_true (by kernel_rfl)) (by unfold Func.isWrapper;first | (rw [if_pos (by decide +kernel)];kernel_rfl) | (rw [if_neg (by decide +kernel)];exact⟨rfl,rfl⟩))
  (fun os started H enc _=>Wq os started H enc)
end Go.Proofs.YthkfkliknjiecaaGreat
