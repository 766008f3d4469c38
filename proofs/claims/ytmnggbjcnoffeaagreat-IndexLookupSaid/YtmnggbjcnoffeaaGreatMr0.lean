/-
  IndexLookup holds for every input: the call returns true and each argument reads afterwards as it read before. Conditions: none.
-/
import Derived.ProofKit
import Derived.OpenShut
import Derived.Test.YtmnggbjcnoffeaaGreatMl0
import Derived.Test.YtmnggbjcnoffeaaGreatMl2
import Derived.Test.YtmnggbjcnoffeaaGreatMp0
import Derived.Test.YtmnggbjcnoffeaaGreatMc7
namespace Go.Proofs.YtmnggbjcnoffeaaGreat
open Go Gv Go.ChangeShapes Go.WideShapes Go.ChangeAt Go.RowKit
set_option linter.unusedVariables false
set_option maxRecDepth 100000
theorem Vh:Arg Tryz.prog 5 (BitVec 8):=Arg.u8 Tryz.underlying5 (by kernel_rfl)
theorem KF:pj Tryz.prog 22 (List (BitVec 8)):=pj.Mw Tryz.underlying22 Vh (by kernel_rfl)
theorem Vi:Arg Tryz.prog 3 Int:=Arg.int Tryz.underlying3 (by kernel_rfl)
theorem T1:pj Tryz.prog 3 Int:= .of Vi
theorem LF:Arg Tryz.prog 41 (BitVec 64):=Arg.u64 Tryz.underlying41 (by kernel_rfl)
theorem T2:Arg Tryz.prog 43 al where
 cells:=by kernel_rfl
 read h:=by
  obtain⟨xs,n,_,_,an,hlen,ba⟩:=DataW.trod_struct Tryz.underlying43 h
  obtain⟨hF,bT⟩:=Jd 0 LF rfl hlen ba
  obtain⟨dL,aa⟩:=Jd 1 LF rfl hlen ba
  exact⟨{ dt:=hF,bS:=dL },an.trans (by kernel_rfl),bT,aa⟩
 form h:=Jc (.inl ⟨_,Tryz.underlying43⟩) h
theorem T3:Arg Tryz.prog 45 (Vector al 4):=Arg.arr Tryz.underlying45 T2 (by kernel_rfl)
theorem Sc:pj Tryz.prog 23 (List (Vector al 4)):=pj.Mw Tryz.underlying23 T3 (by kernel_rfl)
theorem OI:ownKnob Tryz.prog.godebug=none:=by kernel_rfl
theorem Oy:laidOutB Tryz.prog=true:=by kernel_rfl
theorem Ok:∀ t∈Tryz.f3.params.toList,Tryz.prog.readableRec t=true∧t < Tryz.prog.types.size:=by
 rw [Tryz.params3]
 intro t cr
 simp only [List.mem_cons,List.not_mem_nil,or_false] at cr
 rcases cr with rfl | rfl | rfl | rfl <;> exact⟨by kernel_rfl,of_decide_eq_true (by kernel_rfl)⟩
set_option maxHeartbeats 1600000 in
theorem Ob (os:Os) (started:os.Started) (H:Type) (enc:TypeId × Value→H):
 ReturnsInHanded {} Tryz.checked os 3 .any (Rows.indexLookupSpec.pre6 enc Tryz.prog Tryz.f3 Rows.indexLookupRow.domain false) (Rows.indexLookupSpec.post enc Tryz.prog Tryz.f3 false true false false):=by
 refine returnsInHanded_of_change (C:=Tryz.checked) OI started (by kernel_rfl) Tryz.func3
  (ChangeSpec.witness6 (enc:=enc) (C:=Tryz.checked) false ⟨#[],#[.slice none 0 0,.slice none 0 0,.int .i64 0,.slice none 0 0],[]⟩ 8 (by kernel_rfl) (by kernel_rfl) (by kernel_rfl) (by kernel_rfl)) ?_
 intro W base args ds gs before T4 wm W7 _
 have Vj:∀ (j:Nat) t v,Tryz.f3.params[j]? =some t→args[j]? =some v→Value.okWide Tryz.prog W .any base t v:=T4
 have WA:DataW.Whole enc Tryz.prog Tryz.f3.params.toList Rows.indexLookupSpec.vars false W args.toList ds gs before:=wm
 obtain⟨p,q,WB,G8,Cr,Xy,ij⟩:=wm
 have fU:DataW.TrodAll enc Tryz.prog W 0 (fun _=>true) true [22,22,3,23] args.toList ds p:=WB
 have hy:∀ (j:Nat) u v,[22,22,3,23][j]? =some u→args.toList[j]? =some v→Value.okWide Tryz.prog W .any base u v:=fun j u v aa ae=>Vj j u v (by rw [Tryz.params3]; simpa using aa) (by simpa using ae)
 obtain⟨J,v0,Xz,XA,XB,d0,iH,g0,bT,fU,hy⟩:=A7 KF fU hy
 obtain⟨aj,v1,Gb,Gc,c1,d1,av,aw,aa,fU,hy⟩:=A7 KF fU hy
 obtain⟨aS,v2,XC,XD,jk,d2,aX,a5,ae,fU,hy⟩:=A7 T1 fU hy
 obtain⟨cn,wk,XE,XF,vU,d3,dk,bA,aD,fU,hy⟩:=A7 Sc fU hy
 obtain⟨gz,cD,_⟩:=trodAll_nil fU
 subst gz cD
 subst dk
 subst aX
 subst av
 obtain rfl:args= #[v0,v1,v2,wk]:=by cases args; simpa using iH
 subst bA
 subst a5
 subst aw
 subst g0
 have yT:=(cf.law (N5 (OH J aj aS cn)) fun _ h=>h) [] W [v0,v1,v2,wk] (by simp) (.cons bT (.cons aa (.cons ae (.cons aD (.nil)))))
 refine yT.mono fun e W' ⟨v,he,lh,a2⟩=> ?_
 rw [of_bool] at a2
 subst a2
 exact⟨_,he,QA Oy Ok rfl Tryz.underlying4 rfl rfl WA lh⟩
theorem OJ:(Rows.indexLookupRow.inPlace ==Tryz.prog.inPlace 3)=true:=by kernel_rfl
theorem OK:(Rows.indexLookupRow.unfollowed ==Tryz.prog.unfollowed 3)=true:=by kernel_rfl
theorem OL:(Rows.indexLookupRow.recurses ==Tryz.prog.recurses 3)=true:=by kernel_rfl
theorem OM:(Rows.indexLookupRow.named ==Tryz.prog.varsNamed 3)=true:=by kernel_rfl
theorem Oh:joinedFacts Tryz.prog 3 Tryz.f3 Rows.indexLookupSpec Rows.indexLookupRow=true:=by
 unfold joinedFacts
 rw [OJ,OK,OL,OM]
 kernel_rfl
theorem IndexLookup_holds:Rows.IndexLookupSaid:=
 OpenClaim.holds_of_wide 3 Tryz.f3 rfl rfl rfl rfl rfl rfl rfl ⟨rfl,rfl,rfl,rfl,rfl⟩ rfl rfl rfl rfl rfl (by kernel_rfl) Tryz.func3 Oh
  (of_decide_eq_true (by kernel_rfl)) (by unfold Func.isWrapper; first | (rw [if_pos (by decide +kernel)]; kernel_rfl) | (rw [if_neg (by decide +kernel)]; exact⟨rfl,rfl⟩))
  (fun os started H enc _=>Ob os started H enc)
end Go.Proofs.YtmnggbjcnoffeaaGreat
