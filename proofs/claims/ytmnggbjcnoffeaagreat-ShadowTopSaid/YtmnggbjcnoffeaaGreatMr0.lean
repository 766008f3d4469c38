/-
  ShadowTop holds for every input: the call returns true and each argument reads afterwards as it read before. Conditions: none.
-/
import Derived.ProofKit
import Derived.OpenShut
import Derived.Test.YtmnggbjcnoffeaaGreatMl0
import Derived.Test.YtmnggbjcnoffeaaGreatMl2
import Derived.Test.YtmnggbjcnoffeaaGreatMp0
import Derived.Test.YtmnggbjcnoffeaaGreatMc1
namespace Go.Proofs.YtmnggbjcnoffeaaGreat
open Go Gv Go.ChangeShapes Go.WideShapes Go.ChangeAt Go.RowKit
set_option linter.unusedVariables false
set_option maxRecDepth 100000
theorem Vc:Arg Tryz.prog 5 (BitVec 8):=Arg.u8 Tryz.underlying5 (by kernel_rfl)
theorem KE:rn Tryz.prog 22 (List (BitVec 8)):=rn.VG Tryz.underlying22 Vc (by kernel_rfl)
theorem Vd:Arg Tryz.prog 3 Int:=Arg.int Tryz.underlying3 (by kernel_rfl)
theorem T9:rn Tryz.prog 3 Int:= .of Vd
theorem OQ:ownKnob Tryz.prog.godebug=none:=by kernel_rfl
theorem OH:laidOutB Tryz.prog=true:=by kernel_rfl
theorem Ox:∀ t∈Tryz.f6.params.toList,Tryz.prog.readableRec t=true∧t < Tryz.prog.types.size:=by
 rw [Tryz.params6]
 intro t b9
 simp only [List.mem_cons,List.not_mem_nil,or_false] at b9
 rcases b9 with rfl | rfl | rfl <;> exact⟨by kernel_rfl,of_decide_eq_true (by kernel_rfl)⟩
set_option maxHeartbeats 1600000 in
theorem Oe (os:Os) (started:os.Started) (H:Type) (enc:TypeId × Value→H):
 ReturnsInHanded {} Tryz.checked os 6 .any (Rows.shadowTopSpec.pre6 enc Tryz.prog Tryz.f6 Rows.shadowTopRow.domain false) (Rows.shadowTopSpec.post enc Tryz.prog Tryz.f6 false true false false):=by
 refine returnsInHanded_of_change (C:=Tryz.checked) OQ started (by kernel_rfl) Tryz.func6
  (ChangeSpec.witness6 (enc:=enc) (C:=Tryz.checked) false ⟨#[],#[.slice none 0 0,.slice none 0 0,.int .i64 0],[]⟩ 8 (by kernel_rfl) (by kernel_rfl) (by kernel_rfl) (by kernel_rfl)) ?_
 intro W base args ds gs before Ua vO W8 _
 have yT:∀ (j:Nat) t v,Tryz.f6.params[j]? =some t→args[j]? =some v→Value.okWide Tryz.prog W .any base t v:=Ua
 have Wx:DataW.Whole enc Tryz.prog Tryz.f6.params.toList Rows.shadowTopSpec.vars false W args.toList ds gs before:=vO
 obtain⟨p,q,Wy,Ha,B9,Xx,h8⟩:=vO
 have fE:DataW.TrodAll enc Tryz.prog W 0 (fun _=>true) true [22,22,3] args.toList ds p:=Wy
 have hC:∀ (j:Nat) u v,[22,22,3][j]? =some u→args.toList[j]? =some v→Value.okWide Tryz.prog W .any base u v:=fun j u v J ab=>yT j u v (by rw [Tryz.params6]; simpa using J) (by simpa using ab)
 obtain⟨aa,v0,Xy,Xz,XA,d0,kR,g0,bJ,fE,hC⟩:=Di KE fE hC
 obtain⟨aj,v1,F8,F9,dx,d1,az,ax,J,fE,hC⟩:=Di KE fE hC
 obtain⟨aR,v2,XB,XC,il,d2,aX,a1,ab,fE,hC⟩:=Di T9 fE hC
 obtain⟨cP,br,_⟩:=trodAll_nil fE
 subst cP br
 subst aX
 subst az
 obtain rfl:args= #[v0,v1,v2]:=by cases args; simpa using kR
 subst a1
 subst ax
 subst g0
 have yi:=(cz.law (N8 (OP aa aj aR)) fun _ h=>h) [] W [v0,v1,v2] (by simp) (.cons bJ (.cons J (.cons ab (.nil))))
 refine yi.mono fun e W' ⟨v,he,m1,aY⟩=> ?_
 rw [of_bool] at aY
 subst aY
 exact⟨_,he,Qk OH Ox rfl Tryz.underlying4 rfl rfl Wx m1⟩
theorem OR:(Rows.shadowTopRow.inPlace ==Tryz.prog.inPlace 6)=true:=by kernel_rfl
theorem OS:(Rows.shadowTopRow.unfollowed ==Tryz.prog.unfollowed 6)=true:=by kernel_rfl
theorem OT:(Rows.shadowTopRow.recurses ==Tryz.prog.recurses 6)=true:=by kernel_rfl
theorem OU:(Rows.shadowTopRow.named ==Tryz.prog.varsNamed 6)=true:=by kernel_rfl
theorem Oo:joinedFacts Tryz.prog 6 Tryz.f6 Rows.shadowTopSpec Rows.shadowTopRow=true:=by
 unfold joinedFacts
 rw [OR,OS,OT,OU]
 kernel_rfl
theorem ShadowTop_holds:Rows.ShadowTopSaid:=
 OpenClaim.holds_of_wide 6 Tryz.f6 rfl rfl rfl rfl rfl rfl rfl ⟨rfl,rfl,rfl,rfl,rfl⟩ rfl rfl rfl rfl rfl (by kernel_rfl) Tryz.func6 Oo
  (of_decide_eq_true (by kernel_rfl)) (by unfold Func.isWrapper; first | (rw [if_pos (by decide +kernel)]; kernel_rfl) | (rw [if_neg (by decide +kernel)]; exact⟨rfl,rfl⟩))
  (fun os started H enc _=>Oe os started H enc)
end Go.Proofs.YtmnggbjcnoffeaaGreat
