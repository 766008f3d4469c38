/-
  StoreSizes holds for every input: the call returns true and each argument reads afterwards as it read before. Conditions: none.
-/
import Derived.ProofKit
import Derived.OpenShut
import Derived.Test.YtmnggbjcnoffeaaGreatMl0
import Derived.Test.YtmnggbjcnoffeaaGreatMl2
import Derived.Test.YtmnggbjcnoffeaaGreatMp0
import Derived.Test.YtmnggbjcnoffeaaGreatMc1
namespace Go.Proofs.YtmnggbjcnoffeaaGreat
open Go Gv Go.ChangeShapes Go.WideShapes Go.ChangeAt Go.RowKit
set_option linter.unusedVariables false
set_option maxRecDepth 100000
theorem Gu:Arg Tryz.prog 5 (BitVec 8):=Arg.u8 Tryz.underlying5 (by kernel_rfl)
theorem yE:pR Tryz.prog 22 (List (BitVec 8)):=pR.M6 Tryz.underlying22 Gu (by kernel_rfl)
theorem V6:Arg Tryz.prog 3 Int:=Arg.int Tryz.underlying3 (by kernel_rfl)
theorem UO:pR Tryz.prog 3 Int:= .of V6
theorem Py:ownKnob Tryz.prog.godebug=none:=by kernel_rfl
theorem Ps:laidOutB Tryz.prog=true:=by kernel_rfl
theorem Ph:∀ t∈Tryz.f4.params.toList,Tryz.prog.readableRec t=true∧t < Tryz.prog.types.size:=by
 rw [Tryz.params4]
 intro t bI
 simp only [List.mem_cons,List.not_mem_nil,or_false] at bI
 rcases bI with rfl | rfl | rfl <;> exact⟨by kernel_rfl,of_decide_eq_true (by kernel_rfl)⟩
set_option maxHeartbeats 1600000 in
theorem O3 (os:Os) (started:os.Started) (H:Type) (enc:TypeId × Value→H):
 ReturnsInHanded {} Tryz.checked os 4 .any (Rows.storeSizesSpec.pre6 enc Tryz.prog Tryz.f4 Rows.storeSizesRow.domain false) (Rows.storeSizesSpec.post enc Tryz.prog Tryz.f4 false true false false):=by
 refine returnsInHanded_of_change (C:=Tryz.checked) Py started (by kernel_rfl) Tryz.func4
  (ChangeSpec.witness6 (enc:=enc) (C:=Tryz.checked) false ⟨#[],#[.slice none 0 0,.slice none 0 0,.int .i64 0],[]⟩ 8 (by kernel_rfl) (by kernel_rfl) (by kernel_rfl) (by kernel_rfl)) ?_
 intro W base args ds gs before FZ rm V7 _
 have Gw:∀ (j:Nat) t v,Tryz.f4.params[j]? =some t→args[j]? =some v→Value.okWide Tryz.prog W .any base t v:=FZ
 have Hu:DataW.Whole enc Tryz.prog Tryz.f4.params.toList Rows.storeSizesSpec.vars false W args.toList ds gs before:=rm
 obtain⟨p,q,Hv,Df,zu,Xz,fB⟩:=rm
 have fk:DataW.TrodAll enc Tryz.prog W 0 (fun _=>true) true [22,22,3] args.toList ds p:=Hv
 have gw:∀ (j:Nat) u v,[22,22,3][j]? =some u→args.toList[j]? =some v→Value.okWide Tryz.prog W .any base u v:=fun j u v J ad=>Gw j u v (by rw [Tryz.params4]; simpa using J) (by simpa using ad)
 obtain⟨ab,v0,XA,XB,XC,d0,kF,g0,bB,fk,gw⟩:=xV yE fk gw
 obtain⟨al,v1,CS,CT,du,d1,aE,ay,J,fk,gw⟩:=xV yE fk gw
 obtain⟨aP,v2,Yv,Yw,mP,d2,bd,bf,ad,fk,gw⟩:=xV UO fk gw
 obtain⟨ej,bJ,_⟩:=trodAll_nil fk
 subst ej bJ
 subst bd
 subst aE
 obtain rfl:args= #[v0,v1,v2]:=by cases args; simpa using kF
 subst bf
 subst ay
 subst g0
 have tO:=(bF.law (OX (Px ab al aP)) fun _ h=>h) [] W [v0,v1,v2] (by simp) (.cons bB (.cons J (.cons ad (.nil))))
 refine tO.mono fun e W' ⟨v,he,nC,a3⟩=> ?_
 rw [of_bool] at a3
 subst a3
 exact⟨_,he,Js Ps Ph rfl Tryz.underlying4 rfl rfl Hu nC⟩
theorem Pz:(Rows.storeSizesRow.inPlace ==Tryz.prog.inPlace 4)=true:=by kernel_rfl
theorem PA:(Rows.storeSizesRow.unfollowed ==Tryz.prog.unfollowed 4)=true:=by kernel_rfl
theorem PB:(Rows.storeSizesRow.recurses ==Tryz.prog.recurses 4)=true:=by kernel_rfl
theorem PC:(Rows.storeSizesRow.named ==Tryz.prog.varsNamed 4)=true:=by kernel_rfl
theorem O7:joinedFacts Tryz.prog 4 Tryz.f4 Rows.storeSizesSpec Rows.storeSizesRow=true:=by
 unfold joinedFacts
 rw [Pz,PA,PB,PC]
 kernel_rfl
theorem StoreSizes_holds:Rows.StoreSizesSaid:=
 OpenClaim.holds_of_wide 4 Tryz.f4 rfl rfl rfl rfl rfl rfl rfl ⟨rfl,rfl,rfl,rfl,rfl⟩ rfl rfl rfl rfl rfl (by kernel_rfl) Tryz.func4 O7
  (of_decide_eq_true (by kernel_rfl)) (by unfold Func.isWrapper; first | (rw [if_pos (by decide +kernel)]; kernel_rfl) | (rw [if_neg (by decide +kernel)]; exact⟨rfl,rfl⟩))
  (fun os started H enc _=>O3 os started H enc)
end Go.Proofs.YtmnggbjcnoffeaaGreat
