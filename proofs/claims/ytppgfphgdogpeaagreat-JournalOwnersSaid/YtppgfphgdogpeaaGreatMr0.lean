/-
  JournalOwners holds for every input: the call returns true and each argument reads afterwards as it read before. Conditions: none.
-/
import Derived.ProofKit
import Derived.OpenShut
import Derived.Test.YtppgfphgdogpeaaGreatMl0
import Derived.Test.YtppgfphgdogpeaaGreatMl1
import Derived.Test.YtppgfphgdogpeaaGreatMp1
import Derived.Test.YtppgfphgdogpeaaGreatMc2
set_option linter.unusedVariables false
set_option maxRecDepth 100000
namespace Go.Proofs.YtppgfphgdogpeaaGreat
open Go Gv Go.ChangeShapes Go.WideShapes Go.ChangeAt Go.RowKit
theorem aif:Arg Tryz.prog 5 (BitVec 8):=Arg.u8 Tryz.underlying5 (by kernel_rfl)
theorem T5:FG Tryz.prog 22 (List (BitVec 8)):=FG.aiF Tryz.underlying22 aif (by kernel_rfl)
theorem YT:ownKnob Tryz.prog.godebug=none:=by kernel_rfl
theorem YQ:laidOutB Tryz.prog=true:=by kernel_rfl
theorem YI:∀ t∈Tryz.f3.params.toList,Tryz.prog.readableRec t=true∧t<Tryz.prog.types.size:=by
 rw [Tryz.params3];intro t bP;simp only [List.mem_cons,List.not_mem_nil,or_false] at bP;rcases bP with rfl | rfl <;> exact⟨by kernel_rfl,of_decide_eq_true (by kernel_rfl)⟩
set_option maxHeartbeats 1600000 in
theorem Yg (os:Os)(started:os.Started)(H:Type)(enc:TypeId×Value→H):
 ReturnsInHanded {} Tryz.checked os 3 .any (Rows.journalOwnersSpec.pre6 enc Tryz.prog Tryz.f3 Rows.journalOwnersRow.domain false) (Rows.journalOwnersSpec.post enc Tryz.prog Tryz.f3 false true false false):=by
 refine returnsInHanded_of_change (C:=Tryz.checked) YT started (by kernel_rfl) Tryz.func3
  (ChangeSpec.witness6 (enc:=enc) (C:=Tryz.checked) false ⟨#[],#[.slice none 0 0,.slice none 0 0],[]⟩ 8 (by kernel_rfl) (by kernel_rfl) (by kernel_rfl) (by kernel_rfl)) ?_
 intro W base args ds gs before agv CT akS _
 have Co:∀ (j:Nat) t v,Tryz.f3.params[j]? =some t→args[j]? =some v→Value.okWide Tryz.prog W .any base t v:=agv
 have aj5:DataW.Whole enc Tryz.prog Tryz.f3.params.toList Rows.journalOwnersSpec.vars false W args.toList ds gs before:=CT
 obtain⟨p,q,aj6,PK,J1,aln,k9⟩:=CT
 have fT:DataW.TrodAll enc Tryz.prog W 0 (fun _=>true) true [22,22] args.toList ds p:=aj6
 have jA:∀ (j:Nat) u v,[22,22][j]? =some u→args.toList[j]? =some v→Value.okWide Tryz.prog W .any base u v:=fun j u v h1 ae=>Co j u v (by rw [Tryz.params3];simpa using h1) (by simpa using ae)
 obtain⟨J,v0,alo,alp,alq,d0,h3,g0,bH,fT,jA⟩:=Ra T5 fT jA
 obtain⟨ah,v1,OI,OJ,alr,d1,av,g1,h1,fT,jA⟩:=Ra T5 fT jA
 obtain⟨aX,g2,_⟩:=trodAll_nil fT
 subst aX g2
 subst av
 obtain rfl:args= #[v0,v1]:=by cases args;simpa using h3
 subst g1
 subst g0
 have zi:=(bt.law (X0 (abe J ah)) fun _ h=>h) [] W [v0,v1] (by simp) (.cons bH (.cons h1 (.nil)))
 refine zi.mono fun e W' ⟨v,he,mG,bm⟩=>?_
 rw [of_bool] at bm
 subst bm
 exact⟨_,he,abu YQ YI rfl Tryz.underlying4 rfl rfl aj5 mG⟩
theorem YU:(Rows.journalOwnersRow.inPlace==Tryz.prog.inPlace 3)=true:=by kernel_rfl
theorem YV:(Rows.journalOwnersRow.unfollowed==Tryz.prog.unfollowed 3)=true:=by kernel_rfl
theorem YW:(Rows.journalOwnersRow.recurses==Tryz.prog.recurses 3)=true:=by kernel_rfl
theorem YX:(Rows.journalOwnersRow.named==Tryz.prog.varsNamed 3)=true:=by kernel_rfl
theorem Yy:joinedFacts Tryz.prog 3 Tryz.f3 Rows.journalOwnersSpec Rows.journalOwnersRow=true:=by
 unfold joinedFacts;rw [YU,YV,YW,YX];kernel_rfl
theorem JournalOwners_holds:Rows.JournalOwnersSaid:=
 OpenClaim.holds_of_wide 3 Tryz.f3 rfl rfl rfl rfl rfl rfl rfl ⟨rfl,rfl,rfl,rfl,rfl⟩ rfl rfl rfl rfl rfl (by kernel_rfl) Tryz.func3 Yy
  (of_decide_eq_true (by kernel_rfl)) (by unfold Func.isWrapper;first | (rw [if_pos (by decide +kernel)];kernel_rfl) | (rw [if_neg (by decide +kernel)];exact⟨rfl,rfl⟩))
  (fun os started H enc _=>Yg os started H enc)
end Go.Proofs.YtppgfphgdogpeaaGreat
