/-
  JournalCalls holds for every input: the call returns true and each argument reads afterwards as it read before. Conditions: none.
-/
import Derived.ProofKit
import Derived.OpenShut
import Derived.Test.YtppgfphgdogpeaaGreatSl0
import Derived.Test.YtppgfphgdogpeaaGreatSl1
import Derived.Test.YtppgfphgdogpeaaGreatSp1
import Derived.Test.YtppgfphgdogpeaaGreatSc2
set_option linter.unusedVariables false
set_option maxRecDepth 100000
namespace Go.Proofs.YtppgfphgdogpeaaGreat
open Go Gv Go.ChangeShapes Go.WideShapes Go.ChangeAt Go.RowKit
theorem arA:Arg Tryz.prog 5 (BitVec 8):=Arg.u8 Tryz.underlying5 (by kernel_rfl)
theorem ZD:IQ Tryz.prog 22 (aa (BitVec 8)):=IQ.ar3 Tryz.underlying22 arA (by kernel_rfl)
theorem af6:ownKnob Tryz.prog.godebug=none:=by kernel_rfl
theorem afZ:laidOutB Tryz.prog=true:=by kernel_rfl
theorem afU:∀t∈Tryz.f5.params.toList,Tryz.prog.readableRec t=true∧t<Tryz.prog.types.size:=by
 rw[Tryz.params5];intro t bD;simp only[dP,vd,vh]at bD;rcases bD with rfl|rfl <;> exact⟨by kernel_rfl,xM (by kernel_rfl)⟩
set_option maxHeartbeats 1600000 in
theorem afp(os:Os)(started:os.Started)(H:Type)(enc:bJ×br->H):
 ReturnsInHanded {} Tryz.checked os 5 .any (Rows.journalCallsSpec.pre6 enc Tryz.prog Tryz.f5 Rows.journalCallsRow.domain false) (Rows.journalCallsSpec.post enc Tryz.prog Tryz.f5 false true false false):=by
 refine returnsInHanded_of_change (C:=Tryz.checked) af6 started (by kernel_rfl) Tryz.func5
  (ChangeSpec.witness6 (enc:=enc) (C:=Tryz.checked) false ⟨#[],#[.slice none 0 0,.slice none 0 0],[]⟩ 8 (by kernel_rfl) (by kernel_rfl) (by kernel_rfl) (by kernel_rfl)) ?_
 intro W base args ds gs before aoB E0 aur _
 have Em:∀(j:Nat) t v,Tryz.f5.params[j]? =some t->args[j]? =some v->Value.okWide Tryz.prog W .any base t v:=aoB
 have atz:DataW.Whole enc Tryz.prog Tryz.f5.params.toList Rows.journalCallsSpec.vars false W args.toList ds gs before:=E0
 obtain⟨p,q,atA,Um,Nr,au0,lR⟩:=E0
 have e7:DataW.TrodAll enc Tryz.prog W 0 (λ_=>true) true [22,22] args.toList ds p:=atA
 have iW:∀(j:Nat) u v,[22,22][j]? =some u->args.toList[j]? =some v->Value.okWide Tryz.prog W .any base u v:=λj u v h1 ad=>Em j u v (by rw[Tryz.params5];simpa using h1) (by simpa using ad)
 obtain⟨ab,v0,au1,au2,au3,d0,hr,g0,bC,e7,iW⟩:=Wz ZD e7 iW
 obtain⟨ai,v1,To,Tp,au4,d1,av,g1,h1,e7,iW⟩:=Wz ZD e7 iW
 obtain⟨aS,g2,_⟩:=trodAll_nil e7
 subst aS g2
 subst av
 obtain rfl:args= #[v0,v1]:=by cases args;simpa using hr
 subst g1
 subst g0
 have A3:=(bL.law (ae3 (ajB ab ai)) λ_ h=>h) [] W [v0,v1] (by simp) (.cons bC (.cons h1 (.nil)))
 refine A3.mono λe W' ⟨v,he,ku,bc⟩=>?_
 rw[of_bool]at bc
 subst bc
 exact⟨_,he,aiP afZ afU I Tryz.underlying4 I I atz ku⟩
theorem af7:(Rows.journalCallsRow.inPlace==Tryz.prog.inPlace 5)=true:=by kernel_rfl
theorem af8:(Rows.journalCallsRow.unfollowed==Tryz.prog.unfollowed 5)=true:=by kernel_rfl
theorem af9:(Rows.journalCallsRow.recurses==Tryz.prog.recurses 5)=true:=by kernel_rfl
theorem aga:(Rows.journalCallsRow.named==Tryz.prog.varsNamed 5)=true:=by kernel_rfl
theorem afF:joinedFacts Tryz.prog 5 Tryz.f5 Rows.journalCallsSpec Rows.journalCallsRow=true:=by
 unfold joinedFacts;rw[af7,af8,af9,aga];kernel_rfl
theorem JournalCalls_holds:Rows.JournalCallsSaid:=
 OpenClaim.holds_of_wide 5 Tryz.f5 I I I I I I I ⟨rfl,rfl,rfl,rfl,rfl⟩ I I I I I (by kernel_rfl) Tryz.func5 afF
  (xM (by kernel_rfl)) (by unfold Func.isWrapper;first|(rw[bh (by decide +kernel)];kernel_rfl)|(rw[bf (by decide +kernel)];exact⟨rfl,rfl⟩))
  (λos started H enc _=>afp os started H enc)
end Go.Proofs.YtppgfphgdogpeaaGreat
