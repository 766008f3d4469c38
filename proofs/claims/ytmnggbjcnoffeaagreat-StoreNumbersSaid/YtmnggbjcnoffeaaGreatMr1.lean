/-
  StoreNumbers holds for every input: the call returns true and each argument reads afterwards as it read before. Conditions: none.
-/
import Derived.ProofKit
import Derived.OpenShut
import Derived.Test.YtmnggbjcnoffeaaGreatMl0
import Derived.Test.YtmnggbjcnoffeaaGreatMl2
import Derived.Test.YtmnggbjcnoffeaaGreatMp0
import Derived.Test.YtmnggbjcnoffeaaGreatMc1
namespace Go.Proofs.YtmnggbjcnoffeaaGreat
open Go Gv Go.ChangeShapes Go.WideShapes Go.ChangeAt Go.RowKit
set_option linter.unusedVariables false
set_option maxRecDepth 100000
theorem Gu:Arg Tryz.prog 5 (BitVec 8):=Arg.u8 Tryz.underlying5 (by kernel_rfl)
theorem yE:pR Tryz.prog 22 (List (BitVec 8)):=pR.M6 Tryz.underlying22 Gu (by kernel_rfl)
theorem Pj:ownKnob Tryz.prog.godebug=none:=by kernel_rfl
theorem O8:laidOutB Tryz.prog=true:=by kernel_rfl
theorem O4:∀ t∈Tryz.f5.params.toList,Tryz.prog.readableRec t=true∧t < Tryz.prog.types.size:=by
 rw [Tryz.params5]
 intro t bI
 simp only [List.mem_cons,List.not_mem_nil,or_false] at bI
 rcases bI with rfl | rfl <;> exact⟨by kernel_rfl,of_decide_eq_true (by kernel_rfl)⟩
set_option maxHeartbeats 1600000 in
theorem OP (os:Os) (started:os.Started) (H:Type) (enc:TypeId × Value→H):
 ReturnsInHanded {} Tryz.checked os 5 .any (Rows.storeNumbersSpec.pre6 enc Tryz.prog Tryz.f5 Rows.storeNumbersRow.domain false) (Rows.storeNumbersSpec.post enc Tryz.prog Tryz.f5 false true false false):=by
 refine returnsInHanded_of_change (C:=Tryz.checked) Pj started (by kernel_rfl) Tryz.func5
  (ChangeSpec.witness6 (enc:=enc) (C:=Tryz.checked) false ⟨#[],#[.slice none 0 0,.slice none 0 0],[]⟩ 8 (by kernel_rfl) (by kernel_rfl) (by kernel_rfl) (by kernel_rfl)) ?_
 intro W base args ds gs before FZ rm V7 _
 have Gw:∀ (j:Nat) t v,Tryz.f5.params[j]? =some t→args[j]? =some v→Value.okWide Tryz.prog W .any base t v:=FZ
 have Hu:DataW.Whole enc Tryz.prog Tryz.f5.params.toList Rows.storeNumbersSpec.vars false W args.toList ds gs before:=rm
 obtain⟨p,q,Hv,Df,zu,Xz,fB⟩:=rm
 have fk:DataW.TrodAll enc Tryz.prog W 0 (fun _=>true) true [22,22] args.toList ds p:=Hv
 have gw:∀ (j:Nat) u v,[22,22][j]? =some u→args.toList[j]? =some v→Value.okWide Tryz.prog W .any base u v:=fun j u v J ad=>Gw j u v (by rw [Tryz.params5]; simpa using J) (by simpa using ad)
 obtain⟨ab,v0,XA,XB,XC,d0,kF,g0,bB,fk,gw⟩:=xV yE fk gw
 obtain⟨al,v1,CS,CT,du,d1,aE,ay,J,fk,gw⟩:=xV yE fk gw
 obtain⟨bd,bf,_⟩:=trodAll_nil fk
 subst bd bf
 subst aE
 obtain rfl:args= #[v0,v1]:=by cases args; simpa using kF
 subst ay
 subst g0
 have tO:=(bF.law (OC (Pg ab al)) fun _ h=>h) [] W [v0,v1] (by simp) (.cons bB (.cons J (.nil)))
 refine tO.mono fun e W' ⟨v,he,nC,a3⟩=> ?_
 rw [of_bool] at a3
 subst a3
 exact⟨_,he,Js O8 O4 rfl Tryz.underlying4 rfl rfl Hu nC⟩
theorem Pk:(Rows.storeNumbersRow.inPlace ==Tryz.prog.inPlace 5)=true:=by kernel_rfl
theorem Pl:(Rows.storeNumbersRow.unfollowed ==Tryz.prog.unfollowed 5)=true:=by kernel_rfl
theorem Pm:(Rows.storeNumbersRow.recurses ==Tryz.prog.recurses 5)=true:=by kernel_rfl
theorem Pn:(Rows.storeNumbersRow.named ==Tryz.prog.varsNamed 5)=true:=by kernel_rfl
theorem OY:joinedFacts Tryz.prog 5 Tryz.f5 Rows.storeNumbersSpec Rows.storeNumbersRow=true:=by
 unfold joinedFacts
 rw [Pk,Pl,Pm,Pn]
 kernel_rfl
theorem StoreNumbers_holds:Rows.StoreNumbersSaid:=
 OpenClaim.holds_of_wide 5 Tryz.f5 rfl rfl rfl rfl rfl rfl rfl ⟨rfl,rfl,rfl,rfl,rfl⟩ rfl rfl rfl rfl rfl (by kernel_rfl) Tryz.func5 OY
  (of_decide_eq_true (by kernel_rfl)) (by unfold Func.isWrapper; first | (rw [if_pos (by decide +kernel)]; kernel_rfl) | (rw [if_neg (by decide +kernel)]; exact⟨rfl,rfl⟩))
  (fun os started H enc _=>OP os started H enc)
end Go.Proofs.YtmnggbjcnoffeaaGreat
