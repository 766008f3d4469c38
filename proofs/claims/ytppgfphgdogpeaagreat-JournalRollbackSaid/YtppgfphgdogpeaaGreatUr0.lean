/-
  JournalRollback holds for every input: the call returns true and each argument reads afterwards as it read before. Conditions: none.
-/
import Derived.ProofKit
import Derived.OpenShut
import Derived.Test.YtppgfphgdogpeaaGreatUl0
import Derived.Test.YtppgfphgdogpeaaGreatUl1
import Derived.Test.YtppgfphgdogpeaaGreatUp1
import Derived.Test.YtppgfphgdogpeaaGreatUc2
set_option linter.unusedVariables false
set_option maxRecDepth 100000
namespace Go.Proofs.YtppgfphgdogpeaaGreat
open Go Gv Go.ChangeShapes Go.WideShapes Go.ChangeAt Go.RowKit
theorem acO:Arg Tryz.prog 5 (BitVec 8):=Arg.u8 Tryz.underlying5 (by kernel_rfl)
theorem Z4:yO Tryz.prog 22 (aa (BitVec 8)):=yO.asz Tryz.underlying22 acO (by kernel_rfl)
theorem apc:yO Tryz.prog 5 (BitVec 8):=.of acO
theorem agh:ownKnob Tryz.prog.godebug=none:=by kernel_rfl
theorem af1:laidOutB Tryz.prog=true:=by kernel_rfl
theorem afE:∀t∈Tryz.f6.params.toList,Tryz.prog.readableRec t=true∧t<Tryz.prog.types.size:=by
 rw[Tryz.params6];intro t bD;simp only[dP,vk,vo]at bD;rcases bD with rfl|rfl|rfl <;> exact⟨by kernel_rfl,xP (by kernel_rfl)⟩
set_option maxHeartbeats 1600000 in
theorem ae6(os:Os)(started:os.Started)(H:Type)(enc:bK×bs->H):
 ReturnsInHanded {} Tryz.checked os 6 .any (Rows.journalRollbackSpec.pre6 enc Tryz.prog Tryz.f6 Rows.journalRollbackRow.domain false) (Rows.journalRollbackSpec.post enc Tryz.prog Tryz.f6 false true false false):=by
 refine returnsInHanded_of_change (C:=Tryz.checked) agh started (by kernel_rfl) Tryz.func6
  (ChangeSpec.witness6 (enc:=enc) (C:=Tryz.checked) false ⟨#[],#[.slice none 0 0,.slice none 0 0,.int .u8 0],[]⟩ 8 (by kernel_rfl) (by kernel_rfl) (by kernel_rfl) (by kernel_rfl)) ?_
 intro W base args ds gs before apd Fp auU _
 have EK:∀(j:Nat) t v,Tryz.f6.params[j]? =some t->args[j]? =some v->Value.okWide Tryz.prog W .any base t v:=apd
 have at3:DataW.Whole enc Tryz.prog Tryz.f6.params.toList Rows.journalRollbackSpec.vars false W args.toList ds gs before:=Fp
 obtain⟨p,q,at4,UI,Nz,avr,lU⟩:=Fp
 have eX:DataW.TrodAll enc Tryz.prog W 0 (λ_=>true) true [22,22,5] args.toList ds p:=at4
 have iF:∀(j:Nat) u v,[22,22,5][j]? =some u->args.toList[j]? =some v->Value.okWide Tryz.prog W .any base u v:=λj u v h1 ad=>EK j u v (by rw[Tryz.params6];simpa using h1) (by simpa using ad)
 obtain⟨ab,v0,avs,avt,avu,d0,hv,g0,bC,eX,iF⟩:=P1 Z4 eX iF
 obtain⟨ai,v1,TJ,TK,avv,d1,ar,g1,h1,eX,iF⟩:=P1 Z4 eX iF
 obtain⟨aR,v2,avw,avx,avy,d2,aS,g2,ad,eX,iF⟩:=P1 apc eX iF
 obtain⟨cE,g3,_⟩:=trodAll_nil eX
 subst cE g3
 subst aS
 subst ar
 obtain rfl:args= #[v0,v1,v2]:=by cases args;simpa using hv
 subst g2
 subst g1
 subst g0
 have Bd:=(bN.law (aeQ (ahA ab ai aR)) λ_ h=>h) [] W [v0,v1,v2] (by simp) (.cons bC (.cons h1 (.cons ad (.nil))))
 refine Bd.mono λe W' ⟨v,he,ku,bb⟩=>?_
 rw[of_bool]at bb
 subst bb
 exact⟨_,he,ajq af1 afE I Tryz.underlying4 I I at3 ku⟩
theorem agi:(Rows.journalRollbackRow.inPlace==Tryz.prog.inPlace 6)=true:=by kernel_rfl
theorem agj:(Rows.journalRollbackRow.unfollowed==Tryz.prog.unfollowed 6)=true:=by kernel_rfl
theorem agk:(Rows.journalRollbackRow.recurses==Tryz.prog.recurses 6)=true:=by kernel_rfl
theorem agl:(Rows.journalRollbackRow.named==Tryz.prog.varsNamed 6)=true:=by kernel_rfl
theorem afn:joinedFacts Tryz.prog 6 Tryz.f6 Rows.journalRollbackSpec Rows.journalRollbackRow=true:=by
 unfold joinedFacts;rw[agi,agj,agk,agl];kernel_rfl
theorem JournalRollback_holds:Rows.JournalRollbackSaid:=
 OpenClaim.holds_of_wide 6 Tryz.f6 I I I I I I I ⟨rfl,rfl,rfl,rfl,rfl⟩ I I I I I (by kernel_rfl) Tryz.func6 afn
  (xP (by kernel_rfl)) (by unfold Func.isWrapper;first|(rw[bh (by decide +kernel)];kernel_rfl)|(rw[bf (by decide +kernel)];exact⟨rfl,rfl⟩))
  (λos started H enc _=>ae6 os started H enc)
end Go.Proofs.YtppgfphgdogpeaaGreat
