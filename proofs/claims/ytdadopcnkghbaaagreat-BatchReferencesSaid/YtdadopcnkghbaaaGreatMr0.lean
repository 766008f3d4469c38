/-
  BatchReferences holds for every input: the call returns true and each argument reads afterwards as it read before. Conditions: none.
-/
import Derived.ProofKit
import Derived.OpenShut
import Derived.Test.YtdadopcnkghbaaaGreatMl0
import Derived.Test.YtdadopcnkghbaaaGreatMl1
import Derived.Test.YtdadopcnkghbaaaGreatMp1
import Derived.Test.YtdadopcnkghbaaaGreatMc3
set_option linter.unusedVariables false
set_option maxRecDepth 100000
namespace Go.Proofs.YtdadopcnkghbaaaGreat
open Go Gv Go.ChangeShapes Go.WideShapes Go.ChangeAt Go.RowKit
theorem aaH:Arg Tryz.prog 5 (BitVec 8):=Arg.u8 Tryz.underlying5 (by kernel_rfl)
theorem ajQ:wa Tryz.prog 22 (aa (BitVec 8)):=wa.aqc Tryz.underlying22 aaH (by kernel_rfl)
theorem amy:wa Tryz.prog 5 (BitVec 8):=.of aaH
theorem apz:Arg Tryz.prog 4 Bool:=Arg.bool Tryz.underlying4 (by kernel_rfl)
theorem amz:wa Tryz.prog 4 Bool:=.of apz
theorem aeu:ownKnob Tryz.prog.godebug=none:=by kernel_rfl
theorem adX:laidOutB Tryz.prog=true:=by kernel_rfl
theorem adB:∀t∈Tryz.f3.params.toList,Tryz.prog.readableRec t=true∧t<Tryz.prog.types.size:=by
 rw[Tryz.params3];intro t bw;simp only[dO,xa,xf]at bw;rcases bw with rfl|rfl|rfl <;> exact⟨by kernel_rfl,w8 (by kernel_rfl)⟩
set_option maxHeartbeats 1600000 in
theorem ac2(os:Os)(started:os.Started)(H:Type)(enc:bx×bl->H):
 ReturnsInHanded {} Tryz.checked os 3 .any (Rows.batchReferencesSpec.pre6 enc Tryz.prog Tryz.f3 Rows.batchReferencesRow.domain false) (Rows.batchReferencesSpec.post enc Tryz.prog Tryz.f3 false true false false):=by
 refine returnsInHanded_of_change (C:=Tryz.checked) aeu started (by kernel_rfl) Tryz.func3
  (ChangeSpec.witness6 (enc:=enc) (C:=Tryz.checked) false ⟨#[],#[.slice none 0 0,.int .u8 0,.bool false],[]⟩ 8 (by kernel_rfl) (by kernel_rfl) (by kernel_rfl) (by kernel_rfl)) ?_
 intro W base args ds gs before amA DG aso _
 have C5:∀(j:Nat) t v,Tryz.f3.params[j]? =some t->args[j]? =some v->Value.okWide Tryz.prog W .any base t v:=amA
 have aru:DataW.Whole enc Tryz.prog Tryz.f3.params.toList Rows.batchReferencesSpec.vars false W args.toList ds gs before:=DG
 obtain⟨p,q,arv,S2,LY,asT,ij⟩:=DG
 have ev:DataW.TrodAll enc Tryz.prog W 0 (λ_=>true) true [22,5,4] args.toList ds p:=arv
 have hJ:∀(j:Nat) u v,[22,5,4][j]? =some u->args.toList[j]? =some v->Value.okWide Tryz.prog W .any base u v:=λj u v h1 ad=>C5 j u v (by rw[Tryz.params3];simpa using h1) (by simpa using ad)
 obtain⟨ab,v0,asU,asV,asW,d0,hC,g0,bu,ev,hJ⟩:=OR ajQ ev hJ
 obtain⟨aj,v1,RZ,R0,asX,d1,au,g1,h1,ev,hJ⟩:=OR amy ev hJ
 obtain⟨aG,v2,asY,asZ,as0,d2,aW,g2,ad,ev,hJ⟩:=OR amz ev hJ
 obtain⟨cF,g3,_⟩:=trodAll_nil ev
 subst cF g3
 subst aW
 subst au
 obtain rfl:args= #[v0,v1,v2]:=by cases args;simpa using hC
 subst g2
 subst g1
 subst g0
 have Af:=(bR.law (acM (aet ab aj aG)) λ_ h=>h) [] W [v0,v1,v2] (by simp) (.cons bu (.cons h1 (.cons ad (.nil))))
 refine Af.mono λe W' ⟨v,he,lO,ba⟩=>?_
 rw[of_bool]at ba
 subst ba
 exact⟨_,he,ag1 adX adB I Tryz.underlying4 I I aru lO⟩
theorem aev:(Rows.batchReferencesRow.inPlace==Tryz.prog.inPlace 3)=true:=by kernel_rfl
theorem aew:(Rows.batchReferencesRow.unfollowed==Tryz.prog.unfollowed 3)=true:=by kernel_rfl
theorem aex:(Rows.batchReferencesRow.recurses==Tryz.prog.recurses 3)=true:=by kernel_rfl
theorem aey:(Rows.batchReferencesRow.named==Tryz.prog.varsNamed 3)=true:=by kernel_rfl
theorem ado:joinedFacts Tryz.prog 3 Tryz.f3 Rows.batchReferencesSpec Rows.batchReferencesRow=true:=by
 unfold joinedFacts;rw[aev,aew,aex,aey];kernel_rfl
theorem BatchReferences_holds:Rows.BatchReferencesSaid:=
 OpenClaim.holds_of_wide 3 Tryz.f3 I I I I I I I ⟨rfl,rfl,rfl,rfl,rfl⟩ I I I I I (by kernel_rfl) Tryz.func3 ado
  (w8 (by kernel_rfl)) (by unfold Func.isWrapper;first|(rw[br (by decide +kernel)];kernel_rfl)|(rw[bn (by decide +kernel)];exact⟨rfl,rfl⟩))
  (λos started H enc _=>ac2 os started H enc)
end Go.Proofs.YtdadopcnkghbaaaGreat
