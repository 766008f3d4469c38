/-
  StoreTables holds for every input: the call returns true and each argument reads afterwards as it read before. Conditions: none.
-/
import Derived.ProofKit
import Derived.OpenShut
import Derived.Test.YtmnggbjcnoffeaaGreatMl0
import Derived.Test.YtmnggbjcnoffeaaGreatMl2
import Derived.Test.YtmnggbjcnoffeaaGreatMp1
import Derived.Test.YtmnggbjcnoffeaaGreatMc2
set_option linter.unusedVariables false
set_option maxRecDepth 100000
namespace Go.Proofs.YtmnggbjcnoffeaaGreat
open Go Gv Go.ChangeShapes Go.WideShapes Go.ChangeAt Go.RowKit
theorem Y9:Arg Tryz.prog 5 (BitVec 8):=Arg.u8 Tryz.underlying5 (by kernel_rfl)
theorem Nb:vh Tryz.prog 22 (List (BitVec 8)):=vh.ZB Tryz.underlying22 Y9 (by kernel_rfl)
theorem RF:ownKnob Tryz.prog.godebug=none:=by kernel_rfl
theorem Rz:laidOutB Tryz.prog=true:=by kernel_rfl
theorem Rm:∀ t∈Tryz.f11.params.toList,Tryz.prog.readableRec t=true∧t < Tryz.prog.types.size:=by
 rw [Tryz.params11]
 intro t bJ
 simp only [List.mem_cons,List.not_mem_nil,or_false] at bJ
 rcases bJ with rfl | rfl <;> exact⟨by kernel_rfl,of_decide_eq_true (by kernel_rfl)⟩
set_option maxHeartbeats 1600000 in
theorem Rb (os:Os) (started:os.Started) (H:Type) (enc:TypeId × Value→H):
 ReturnsInHanded {} Tryz.checked os 11 .any (Rows.storeTablesSpec.pre6 enc Tryz.prog Tryz.f11 Rows.storeTablesRow.domain false) (Rows.storeTablesSpec.post enc Tryz.prog Tryz.f11 false true false false):=by
 refine returnsInHanded_of_change (C:=Tryz.checked) RF started (by kernel_rfl) Tryz.func11
  (ChangeSpec.witness6 (enc:=enc) (C:=Tryz.checked) false ⟨#[],#[.slice none 0 0,.slice none 0 0],[]⟩ 8 (by kernel_rfl) (by kernel_rfl) (by kernel_rfl) (by kernel_rfl)) ?_
 intro W base args ds gs before XL x7 aa5 _
 have IH:∀ (j:Nat) t v,Tryz.f11.params[j]? =some t→args[j]? =some v→Value.okWide Tryz.prog W .any base t v:=XL
 have aax:DataW.Whole enc Tryz.prog Tryz.f11.params.toList Rows.storeTablesSpec.vars false W args.toList ds gs before:=x7
 obtain⟨p,q,aay,JR,th,abw,fV⟩:=x7
 have gv:DataW.TrodAll enc Tryz.prog W 0 (fun _=>true) true [22,22] args.toList ds p:=aay
 have hV:∀ (j:Nat) u v,[22,22][j]? =some u→args.toList[j]? =some v→Value.okWide Tryz.prog W .any base u v:=fun j u v J ad=>IH j u v (by rw [Tryz.params11]; simpa using J) (by simpa using ad)
 obtain⟨aa,v0,abx,aby,abz,d0,jU,g0,bG,gv,hV⟩:=KR Nb gv hV
 obtain⟨aj,v1,IU,IV,dk,d1,aF,av,J,gv,hV⟩:=KR Nb gv hV
 obtain⟨aR,bm,_⟩:=trodAll_nil gv
 subst aR bm
 subst aF
 obtain rfl:args= #[v0,v1]:=by cases args; simpa using jU
 subst av
 subst g0
 have AE:=(bO.law (Q2 (RE aa aj)) fun _ h=>h) [] W [v0,v1] (by simp) (.cons bG (.cons J (.nil)))
 refine AE.mono fun e W' ⟨v,he,ob,a6⟩=> ?_
 rw [of_bool] at a6
 subst a6
 exact⟨_,he,TF Rz Rm rfl Tryz.underlying4 rfl rfl aax ob⟩
theorem RG:(Rows.storeTablesRow.inPlace ==Tryz.prog.inPlace 11)=true:=by kernel_rfl
theorem RH:(Rows.storeTablesRow.unfollowed ==Tryz.prog.unfollowed 11)=true:=by kernel_rfl
theorem RI:(Rows.storeTablesRow.recurses ==Tryz.prog.recurses 11)=true:=by kernel_rfl
theorem RJ:(Rows.storeTablesRow.named ==Tryz.prog.varsNamed 11)=true:=by kernel_rfl
theorem Rj:joinedFacts Tryz.prog 11 Tryz.f11 Rows.storeTablesSpec Rows.storeTablesRow=true:=by
 unfold joinedFacts
 rw [RG,RH,RI,RJ]
 kernel_rfl
theorem StoreTables_holds:Rows.StoreTablesSaid:=
 OpenClaim.holds_of_wide 11 Tryz.f11 rfl rfl rfl rfl rfl rfl rfl ⟨rfl,rfl,rfl,rfl,rfl⟩ rfl rfl rfl rfl rfl (by kernel_rfl) Tryz.func11 Rj
  (of_decide_eq_true (by kernel_rfl)) (by unfold Func.isWrapper; first | (rw [if_pos (by decide +kernel)]; kernel_rfl) | (rw [if_neg (by decide +kernel)]; exact⟨rfl,rfl⟩))
  (fun os started H enc _=>Rb os started H enc)
end Go.Proofs.YtmnggbjcnoffeaaGreat
