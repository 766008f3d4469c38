/-
  JournalAgain holds for every input: the call returns true and each argument reads afterwards as it read before. Conditions: none.
-/
import Derived.ProofKit
import Derived.OpenShut
import Derived.Test.YtppgfphgdogpeaaGreatMl0
import Derived.Test.YtppgfphgdogpeaaGreatMl1
import Derived.Test.YtppgfphgdogpeaaGreatMp1
import Derived.Test.YtppgfphgdogpeaaGreatMc1
set_option linter.unusedVariables false
set_option maxRecDepth 100000
namespace Go.Proofs.YtppgfphgdogpeaaGreat
open Go Gv Go.ChangeShapes Go.WideShapes Go.ChangeAt Go.RowKit
theorem alM:Arg Tryz.prog 5 (BitVec 8):=Arg.u8 Tryz.underlying5 (by kernel_rfl)
theorem UP:FC Tryz.prog 22 (List (BitVec 8)):=FC.amd Tryz.underlying22 alM (by kernel_rfl)
theorem abd:ownKnob Tryz.prog.godebug=none:=by kernel_rfl
theorem aa5:laidOutB Tryz.prog=true:=by kernel_rfl
theorem aa0:∀ t∈Tryz.f4.params.toList,Tryz.prog.readableRec t=true∧t<Tryz.prog.types.size:=by
 rw [Tryz.params4];intro t bw;simp only [List.mem_cons,List.not_mem_nil,or_false] at bw;rcases bw with rfl | rfl <;> exact⟨by kernel_rfl,of_decide_eq_true (by kernel_rfl)⟩
set_option maxHeartbeats 1600000 in
theorem aaw (os:Os)(started:os.Started)(H:Type)(enc:TypeId×Value→H):
 ReturnsInHanded {} Tryz.checked os 4 .any (Rows.journalAgainSpec.pre6 enc Tryz.prog Tryz.f4 Rows.journalAgainRow.domain false) (Rows.journalAgainSpec.post enc Tryz.prog Tryz.f4 false true false false):=by
 refine returnsInHanded_of_change (C:=Tryz.checked) abd started (by kernel_rfl) Tryz.func4
  (ChangeSpec.witness6 (enc:=enc) (C:=Tryz.checked) false ⟨#[],#[.slice none 0 0,.slice none 0 0],[]⟩ 8 (by kernel_rfl) (by kernel_rfl) (by kernel_rfl) (by kernel_rfl)) ?_
 intro W base args ds gs before ai5 CM ark _
 have Cg:∀ (j:Nat) t v,Tryz.f4.params[j]? =some t→args[j]? =some v→Value.okWide Tryz.prog W .any base t v:=ai5
 have anR:DataW.Whole enc Tryz.prog Tryz.f4.params.toList Rows.journalAgainSpec.vars false W args.toList ds gs before:=CM
 obtain⟨p,q,anS,P7,JX,asC,kk⟩:=CM
 have eM:DataW.TrodAll enc Tryz.prog W 0 (fun _=>true) true [22,22] args.toList ds p:=anS
 have jo:∀ (j:Nat) u v,[22,22][j]? =some u→args.toList[j]? =some v→Value.okWide Tryz.prog W .any base u v:=fun j u v h1 ab=>Cg j u v (by rw [Tryz.params4];simpa using h1) (by simpa using ab)
 obtain⟨aa,v0,asD,asE,asF,d0,hK,g0,bq,eM,jo⟩:=RO UP eM jo
 obtain⟨ai,v1,OZ,O0,asG,d1,ar,g1,h1,eM,jo⟩:=RO UP eM jo
 obtain⟨aU,g2,_⟩:=trodAll_nil eM
 subst aU g2
 subst ar
 obtain rfl:args= #[v0,v1]:=by cases args;simpa using hK
 subst g1
 subst g0
 have y7:=(bJ.law (aab (aem aa ai)) fun _ h=>h) [] W [v0,v1] (by simp) (.cons bq (.cons h1 (.nil)))
 refine y7.mono fun e W' ⟨v,he,mm,bb⟩=>?_
 rw [of_bool] at bb
 subst bb
 exact⟨_,he,adA aa5 aa0 rfl Tryz.underlying4 rfl rfl anR mm⟩
theorem abe:(Rows.journalAgainRow.inPlace==Tryz.prog.inPlace 4)=true:=by kernel_rfl
theorem abf:(Rows.journalAgainRow.unfollowed==Tryz.prog.unfollowed 4)=true:=by kernel_rfl
theorem abg:(Rows.journalAgainRow.recurses==Tryz.prog.recurses 4)=true:=by kernel_rfl
theorem abh:(Rows.journalAgainRow.named==Tryz.prog.varsNamed 4)=true:=by kernel_rfl
theorem aaL:joinedFacts Tryz.prog 4 Tryz.f4 Rows.journalAgainSpec Rows.journalAgainRow=true:=by
 unfold joinedFacts;rw [abe,abf,abg,abh];kernel_rfl
theorem JournalAgain_holds:Rows.JournalAgainSaid:=
 OpenClaim.holds_of_wide 4 Tryz.f4 rfl rfl rfl rfl rfl rfl rfl ⟨rfl,rfl,rfl,rfl,rfl⟩ rfl rfl rfl rfl rfl (by kernel_rfl) Tryz.func4 aaL
  (of_decide_eq_true (by kernel_rfl)) (by unfold Func.isWrapper;first | (rw [if_pos (by decide +kernel)];kernel_rfl) | (rw [if_neg (by decide +kernel)];exact⟨rfl,rfl⟩))
  (fun os started H enc _=>aaw os started H enc)
end Go.Proofs.YtppgfphgdogpeaaGreat
