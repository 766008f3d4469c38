/-
  BatchPrefix holds for every input: the call returns true and each argument reads afterwards as it read before. Conditions: none.
-/
import Derived.Test.YtmcjlfmeoehcmaaGreatRows
import Derived.ProofKit
import Derived.OpenShut
import Derived.Test.YtmcjlfmeoehcmaaGreatMl0
import Derived.Test.YtmcjlfmeoehcmaaGreatMl1
import Derived.Test.YtmcjlfmeoehcmaaGreatMp1
import Derived.Test.YtmcjlfmeoehcmaaGreatMc5
set_option linter.unusedVariables false
set_option maxRecDepth 100000
namespace Go.Proofs.YtmcjlfmeoehcmaaGreat
open Go Gv Go.ChangeShapes Go.WideShapes Go.ChangeAt Go.RowKit
theorem arP:Arg Tryz.prog 5 (cE 8):=Arg.u8 Tryz.underlying5 (by kernel_rfl)
theorem YW:Ht Tryz.prog 22 (R (cE 8)):=Ht.ar2 Tryz.underlying22 arP (by kernel_rfl)
theorem afE:ownKnob Tryz.prog.godebug=none:=by kernel_rfl
theorem afs:laidOutB Tryz.prog=true:=by kernel_rfl
theorem afe:∀a∈Tryz.f3.params.toList,Tryz.prog.readableRec a=true∧a<Tryz.prog.types.size:=by
 rw[Tryz.params3];intro a c;simp only[fj,s0,tj]at c;rcases c with rfl|rfl <;> exact⟨by kernel_rfl,uj (by kernel_rfl)⟩
set_option maxHeartbeats 1600000 in
theorem aeO(B:Os)(M:B.Started)(N:aB)(f:bH×bt->N):
 ReturnsInHanded {} Tryz.checked B 3 .any (Rows.batchPrefixSpec.pre6 f Tryz.prog Tryz.f3 Rows.batchPrefixRow.domain false) (Rows.batchPrefixSpec.post f Tryz.prog Tryz.f3 false true false false):=by
 refine returnsInHanded_of_change (C:=Tryz.checked) afE M (by kernel_rfl) Tryz.func3
  (ChangeSpec.witness6 (enc:=f) (C:=Tryz.checked) false ⟨#[],#[.slice none 0 0,.slice none 0 0],[]⟩ 8 (by kernel_rfl) (by kernel_rfl) (by kernel_rfl) (by kernel_rfl)) ?_
 intro j D d E O P Q F aG _
 have ab:∀(c:Nat) G a,Tryz.f3.params[c]? =some G->d[c]? =some a->Value.okWide Tryz.prog j .any D G a:=Q
 have ac:DataW.Whole f Tryz.prog Tryz.f3.params.toList Rows.batchPrefixSpec.vars false j d.toList E O P:=F
 obtain⟨ad,aH,ag,aI,aJ,aL,aM⟩:=F
 have l:DataW.TrodAll f Tryz.prog j 0 (λ_=>true) true [22,22] d.toList E ad:=ag
 have m:∀(c:Nat) p a,[22,22][c]? =some p->d.toList[c]? =some a->Value.okWide Tryz.prog j .any D p a:=λc p a A ah=>ab c p a (by rw[Tryz.params3];simpa using A) (by simpa using ah)
 obtain⟨ai,H,aN,aO,aR,aS,aj,ak,al,l,m⟩:=Vk YW l m
 obtain⟨am,I,aT,aU,aV,aW,an,ao,A,l,m⟩:=Vk YW l m
 obtain⟨ap,au,_⟩:=trodAll_nil l
 subst ap au
 subst an
 obtain rfl:d= #[H,I]:=by cases d;simpa using aj
 subst ao
 subst ak
 have aw:=(bn.law (aeh (afD ai am)) λ_ ay=>ay) [] j [H,I] (by simp) (.cons al (.cons A (.nil)))
 refine aw.mono λaX aY ⟨a,aC,aE,K⟩=>?_
 rw[of_bool]at K
 subst K
 exact⟨_,aC,aiR afs afe o Tryz.underlying4 o o ac aE⟩
theorem afF:(Rows.batchPrefixRow.inPlace==Tryz.prog.inPlace 3)=true:=by kernel_rfl
theorem afG:(Rows.batchPrefixRow.unfollowed==Tryz.prog.unfollowed 3)=true:=by kernel_rfl
theorem afH:(Rows.batchPrefixRow.recurses==Tryz.prog.recurses 3)=true:=by kernel_rfl
theorem afI:(Rows.batchPrefixRow.named==Tryz.prog.varsNamed 3)=true:=by kernel_rfl
theorem afJ:laidOutB Tryz.prog=true:=by kernel_rfl
theorem afK:mapsRowed Tryz.prog=true:=by kernel_rfl
theorem afL:Tryz.prog.stopsHeard=true:=by kernel_rfl
theorem afM:Tryz.prog.mayEnter=true:=by kernel_rfl
theorem afN:(Rows.batchPrefixRow.plainKeys==Tryz.prog.plainKeys)=true:=by kernel_rfl
theorem afO:(Rows.batchPrefixRow.lifted==Tryz.prog.liftsFinal)=true:=by kernel_rfl
theorem ae6:joinedFacts Tryz.prog 3 Tryz.f3 Rows.batchPrefixSpec Rows.batchPrefixRow=true:=by
 unfold joinedFacts;rw[afF,afG,afH,afI,afJ,afK,afL,afM,afN,afO];kernel_rfl
theorem BatchPrefix_holds:Rows.BatchPrefixSaid:=
 OpenClaim.holds_of_wide 3 Tryz.f3 o o o o o o o ⟨rfl,rfl,rfl,rfl,rfl⟩ o o o o o (by kernel_rfl) Tryz.func3 ae6
  (uj (by kernel_rfl)) (by unfold Func.isWrapper;first|(rw[bT (by decide +kernel)];kernel_rfl)|(rw[bU (by decide +kernel)];exact⟨rfl,rfl⟩))
  (λa c d f _=>aeO a c d f)
end Go.Proofs.YtmcjlfmeoehcmaaGreat
