/-
  BatchLimit holds for every input: the call returns true and each argument reads afterwards as it read before. Conditions: none.
-/
import Derived.ProofKit
import Derived.OpenShut
import Derived.Test.YtdadopcnkghbaaaGreatMl0
import Derived.Test.YtdadopcnkghbaaaGreatMl1
import Derived.Test.YtdadopcnkghbaaaGreatMp1
import Derived.Test.YtdadopcnkghbaaaGreatMc2
set_option linter.unusedVariables false
set_option maxRecDepth 100000
namespace Go.Proofs.YtdadopcnkghbaaaGreat
open Go Gv Go.ChangeShapes Go.WideShapes Go.ChangeAt Go.RowKit
theorem akr:Arg Tryz.prog 5 (BitVec 8):=Arg.u8 Tryz.underlying5 (by kernel_rfl)
theorem ae2:vx Tryz.prog 22 (aa (BitVec 8)):=vx.akY Tryz.underlying22 akr (by kernel_rfl)
theorem aks:Arg Tryz.prog 3 Int:=Arg.int Tryz.underlying3 (by kernel_rfl)
theorem ahC:vx Tryz.prog 3 Int:=.of aks
theorem aar:ownKnob Tryz.prog.godebug=none:=by kernel_rfl
theorem aan:laidOutB Tryz.prog=true:=by kernel_rfl
theorem aaj:∀t∈Tryz.f4.params.toList,Tryz.prog.readableRec t=true∧t<Tryz.prog.types.size:=by
 rw[Tryz.params4];intro t bq;simp only[dB,uL,uR]at bq;rcases bq with rfl|rfl <;> exact⟨by kernel_rfl,wE (by kernel_rfl)⟩
set_option maxHeartbeats 1600000 in
theorem Z6(os:Os)(started:os.Started)(H:Type)(enc:bo×bd->H):
 ReturnsInHanded {} Tryz.checked os 4 .any (Rows.batchLimitSpec.pre6 enc Tryz.prog Tryz.f4 Rows.batchLimitRow.domain false) (Rows.batchLimitSpec.post enc Tryz.prog Tryz.f4 false true false false):=by
 refine returnsInHanded_of_change (C:=Tryz.checked) aar started (by kernel_rfl) Tryz.func4
  (ChangeSpec.witness6 (enc:=enc) (C:=Tryz.checked) false ⟨#[],#[.slice none 0 0,.int .i64 0],[]⟩ 8 (by kernel_rfl) (by kernel_rfl) (by kernel_rfl) (by kernel_rfl)) ?_
 intro W base args ds gs before ahD Ba am8 _
 have Av:∀(j:Nat) t v,Tryz.f4.params[j]? =some t->args[j]? =some v->Value.okWide Tryz.prog W .any base t v:=ahD
 have amg:DataW.Whole enc Tryz.prog Tryz.f4.params.toList Rows.batchLimitSpec.vars false W args.toList ds gs before:=Ba
 obtain⟨p,q,amh,Pe,IQ,anH,jv⟩:=Ba
 have eo:DataW.TrodAll enc Tryz.prog W 0 (λ_=>true) true [22,3] args.toList ds p:=amh
 have gN:∀(j:Nat) u v,[22,3][j]? =some u->args.toList[j]? =some v->Value.okWide Tryz.prog W .any base u v:=λj u v h1 ad=>Av j u v (by rw[Tryz.params4];simpa using h1) (by simpa using ad)
 obtain⟨ab,v0,anI,anJ,anK,d0,gn,g0,bw,eo,gN⟩:=Rx ae2 eo gN
 obtain⟨aj,v1,Og,Oh,anL,d1,az,g1,h1,eo,gN⟩:=Rx ahC eo gN
 obtain⟨a8,g2,_⟩:=trodAll_nil eo
 subst a8 g2
 subst az
 obtain rfl:args= #[v0,v1]:=by cases args;simpa using gn
 subst g1
 subst g0
 have xC:=(bJ.law (ZR (aaq ab aj)) λ_ h=>h) [] W [v0,v1] (by simp) (.cons bw (.cons h1 (.nil)))
 refine xC.mono λe W' ⟨v,he,kp,a7⟩=>?_
 rw[of_bool]at a7
 subst a7
 exact⟨_,he,acg aan aaj I Tryz.underlying4 I I amg kp⟩
theorem aas:(Rows.batchLimitRow.inPlace==Tryz.prog.inPlace 4)=true:=by kernel_rfl
theorem aat:(Rows.batchLimitRow.unfollowed==Tryz.prog.unfollowed 4)=true:=by kernel_rfl
theorem aau:(Rows.batchLimitRow.recurses==Tryz.prog.recurses 4)=true:=by kernel_rfl
theorem aav:(Rows.batchLimitRow.named==Tryz.prog.varsNamed 4)=true:=by kernel_rfl
theorem aab:joinedFacts Tryz.prog 4 Tryz.f4 Rows.batchLimitSpec Rows.batchLimitRow=true:=by
 unfold joinedFacts;rw[aas,aat,aau,aav];kernel_rfl
theorem BatchLimit_holds:Rows.BatchLimitSaid:=
 OpenClaim.holds_of_wide 4 Tryz.f4 I I I I I I I ⟨rfl,rfl,rfl,rfl,rfl⟩ I I I I I (by kernel_rfl) Tryz.func4 aab
  (wE (by kernel_rfl)) (by unfold Func.isWrapper;first|(rw[bm (by decide +kernel)];kernel_rfl)|(rw[bk (by decide +kernel)];exact⟨rfl,rfl⟩))
  (λos started H enc _=>Z6 os started H enc)
end Go.Proofs.YtdadopcnkghbaaaGreat
