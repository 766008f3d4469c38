/-
  ReadBlind holds for every input: the call returns true and each argument reads afterwards as it read before. Conditions: none.
-/
import Derived.ProofKit
import Derived.OpenShut
import Derived.Test.YtlkieppifclacaaGreatMl0
import Derived.Test.YtlkieppifclacaaGreatMl1
import Derived.Test.YtlkieppifclacaaGreatMp1
import Derived.Test.YtlkieppifclacaaGreatMc4
set_option linter.unusedVariables false
set_option maxRecDepth 100000
namespace Go.Proofs.YtlkieppifclacaaGreat
open Go Gv Go.ChangeShapes Go.WideShapes Go.ChangeAt Go.RowKit
theorem arR:Arg Tryz.prog 5 (BitVec 8):=Arg.u8 Tryz.underlying5 (by kernel_rfl)
theorem RV:yp Tryz.prog 22 (aa (BitVec 8)):=yp.asi Tryz.underlying22 arR (by kernel_rfl)
theorem arS:Arg Tryz.prog 4 Bool:=Arg.bool Tryz.underlying4 (by kernel_rfl)
theorem apr:yp Tryz.prog 4 Bool:=.of arS
theorem agE:ownKnob Tryz.prog.godebug=none:=by kernel_rfl
theorem ags:laidOutB Tryz.prog=true:=by kernel_rfl
theorem agm:∀t∈Tryz.f10.params.toList,Tryz.prog.readableRec t=true∧t<Tryz.prog.types.size:=by
 rw[Tryz.params10];intro t bE;simp only[dW,rr,rz]at bE;rcases bE with rfl|rfl|rfl|rfl <;> exact⟨by kernel_rfl,vI (by kernel_rfl)⟩
set_option maxHeartbeats 1600000 in
theorem af3(os:Os)(started:os.Started)(H:Type)(enc:bF×bt->H):
 ReturnsInHanded {} Tryz.checked os 10 .any (Rows.readBlindSpec.pre6 enc Tryz.prog Tryz.f10 Rows.readBlindRow.domain false) (Rows.readBlindSpec.post enc Tryz.prog Tryz.f10 false true false false):=by
 refine returnsInHanded_of_change (C:=Tryz.checked) agE started (by kernel_rfl) Tryz.func10
  (ChangeSpec.witness6 (enc:=enc) (C:=Tryz.checked) false ⟨#[],#[.slice none 0 0,.slice none 0 0,.slice none 0 0,.bool false],[]⟩ 8 (by kernel_rfl) (by kernel_rfl) (by kernel_rfl) (by kernel_rfl)) ?_
 intro W base args ds gs before aps Fh auC _
 have Ey:∀(j:Nat) t v,Tryz.f10.params[j]? =some t->args[j]? =some v->Value.okWide Tryz.prog W .any base t v:=aps
 have atE:DataW.Whole enc Tryz.prog Tryz.f10.params.toList Rows.readBlindSpec.vars false W args.toList ds gs before:=Fh
 obtain⟨p,q,atF,Us,yH,avc,kQ⟩:=Fh
 have eB:DataW.TrodAll enc Tryz.prog W 0 (λ_=>true) true [22,22,22,4] args.toList ds p:=atF
 have hA:∀(j:Nat) u v,[22,22,22,4][j]? =some u->args.toList[j]? =some v->Value.okWide Tryz.prog W .any base u v:=λj u v h1 ae=>Ey j u v (by rw[Tryz.params10];simpa using h1) (by simpa using ae)
 obtain⟨ab,v0,avd,ave,avf,d0,fo,g0,bJ,eB,hA⟩:=L1 RV eB hA
 obtain⟨ai,v1,Tq,Tr,avg,d1,ar,g1,h1,eB,hA⟩:=L1 RV eB hA
 obtain⟨aG,v2,avh,avi,avj,d2,aK,g2,ae,eB,hA⟩:=L1 RV eB hA
 obtain⟨b5,v3,avk,avl,avm,d3,cr,g3,az,eB,hA⟩:=L1 apr eB hA
 obtain⟨e4,g4,_⟩:=trodAll_nil eB
 subst e4 g4
 subst cr
 subst aK
 subst ar
 obtain rfl:args= #[v0,v1,v2,v3]:=by cases args;simpa using fo
 subst g3
 subst g2
 subst g1
 subst g0
 have BF:=(bV.law (afY (agD ab ai aG b5)) λ_ h=>h) [] W [v0,v1,v2,v3] (by simp) (.cons bJ (.cons h1 (.cons ae (.cons az (.nil)))))
 refine BF.mono λe W' ⟨v,he,lP,ba⟩=>?_
 rw[of_bool]at ba
 subst ba
 exact⟨_,he,aiR ags agm I Tryz.underlying4 I I atE lP⟩
theorem agF:(Rows.readBlindRow.inPlace==Tryz.prog.inPlace 10)=true:=by kernel_rfl
theorem agG:(Rows.readBlindRow.unfollowed==Tryz.prog.unfollowed 10)=true:=by kernel_rfl
theorem agH:(Rows.readBlindRow.recurses==Tryz.prog.recurses 10)=true:=by kernel_rfl
theorem agI:(Rows.readBlindRow.named==Tryz.prog.varsNamed 10)=true:=by kernel_rfl
theorem agJ:laidOutB Tryz.prog=true:=by kernel_rfl
theorem agK:mapsRowed Tryz.prog=true:=by kernel_rfl
theorem agL:Tryz.prog.stopsHeard=true:=by kernel_rfl
theorem agM:Tryz.prog.mayEnter=true:=by kernel_rfl
theorem agN:(Rows.readBlindRow.plainKeys==Tryz.prog.plainKeys)=true:=by kernel_rfl
theorem agO:(Rows.readBlindRow.lifted==Tryz.prog.liftsFinal)=true:=by kernel_rfl
theorem agf:joinedFacts Tryz.prog 10 Tryz.f10 Rows.readBlindSpec Rows.readBlindRow=true:=by
 unfold joinedFacts;rw[agF,agG,agH,agI,agJ,agK,agL,agM,agN,agO];kernel_rfl
theorem ReadBlind_holds:Rows.ReadBlindSaid:=
 OpenClaim.holds_of_wide 10 Tryz.f10 I I I I I I I ⟨rfl,rfl,rfl,rfl,rfl⟩ I I I I I (by kernel_rfl) Tryz.func10 agf
  (vI (by kernel_rfl)) (by unfold Func.isWrapper;first|(rw[bk (by decide +kernel)];kernel_rfl)|(rw[bf (by decide +kernel)];exact⟨rfl,rfl⟩))
  (λos started H enc _=>af3 os started H enc)
end Go.Proofs.YtlkieppifclacaaGreat
