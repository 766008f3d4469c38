/-
  ShadowRemoves holds for every input: the call returns true and each argument reads afterwards as it read before. Conditions: none.
-/
import Derived.ProofKit
import Derived.OpenShut
import Derived.Test.YthkfkliknjiecaaGreatMl0
import Derived.Test.YthkfkliknjiecaaGreatMl2
import Derived.Test.YthkfkliknjiecaaGreatMp1
import Derived.Test.YthkfkliknjiecaaGreatMc2
set_option maxRecDepth 100000
namespace Go.Proofs.YthkfkliknjiecaaGreat
open Go Gv Go.ChangeShapes Go.WideShapes Go.ChangeAt Go.RowKit
theorem aci:Arg Tryz.prog 5 (BitVec 8):=Arg.u8 Tryz.underlying5 (by kernel_rfl)
theorem PC:rS Tryz.prog 22 (List (BitVec 8)):=rS.RG Tryz.underlying22 aci (by kernel_rfl)
theorem acj:Arg Tryz.prog 3 Int:=Arg.int Tryz.underlying3 (by kernel_rfl)
theorem aaz:rS Tryz.prog 3 Int:= .of acj
theorem QS:Arg Tryz.prog 46 (BitVec 64):=Arg.u64 Tryz.underlying46 (by kernel_rfl)
theorem aaA:Arg Tryz.prog 48 an where
 cells:=by kernel_rfl
 read h:=by
  obtain⟨xs,n,_,_,ao,hlen,a7⟩:=DataW.trod_struct Tryz.underlying48 h
  obtain⟨fJ,bT⟩:=NK 0 QS rfl hlen a7
  obtain⟨dA,aa⟩:=NK 1 QS rfl hlen a7
  exact⟨{ dv:=fJ,b2:=dA },ao.trans (by kernel_rfl),bT,aa⟩
 form h:=NJ (.inl ⟨_,Tryz.underlying48⟩) h
theorem aaB:Arg Tryz.prog 60 (Vector an 4):=Arg.arr Tryz.underlying60 aaA (by kernel_rfl)
theorem Yt:rS Tryz.prog 65 (List (Vector an 4)):=rS.RG Tryz.underlying65 aaB (by kernel_rfl)
theorem TU:ownKnob Tryz.prog.godebug=none:=by kernel_rfl
theorem TN:laidOutB Tryz.prog=true:=by kernel_rfl
theorem TI:∀ t∈Tryz.f4.params.toList,Tryz.prog.readableRec t=true∧t<Tryz.prog.types.size:=by
 rw [Tryz.params4]
 intro t b1
 simp only [List.mem_cons,List.not_mem_nil,or_false] at b1
 rcases b1 with rfl | rfl | rfl | rfl <;> exact⟨by kernel_rfl,of_decide_eq_true (by kernel_rfl)⟩
set_option maxHeartbeats 1600000 in
theorem Tl (os:Os) (started:os.Started) (H:Type) (enc:TypeId×Value→H):
 ReturnsInHanded {} Tryz.checked os 4 .any (Rows.shadowRemovesSpec.pre6 enc Tryz.prog Tryz.f4 Rows.shadowRemovesRow.domain false) (Rows.shadowRemovesSpec.post enc Tryz.prog Tryz.f4 false true false false):=by
 refine returnsInHanded_of_change (C:=Tryz.checked) TU started (by kernel_rfl) Tryz.func4
  (ChangeSpec.witness6 (enc:=enc) (C:=Tryz.checked) false ⟨#[],#[.slice none 0 0,.slice none 0 0,.int .i64 0,.slice none 0 0],[]⟩ 8 (by kernel_rfl) (by kernel_rfl) (by kernel_rfl) (by kernel_rfl)) ?_
 intro W base args ds gs before aaC zh aen _
 have Ch:∀ (j:Nat) t v,Tryz.f4.params[j]? =some t→args[j]? =some v→Value.okWide Tryz.prog W .any base t v:=aaC
 have adP:DataW.Whole enc Tryz.prog Tryz.f4.params.toList Rows.shadowRemovesSpec.vars false W args.toList ds gs before:=zh
 obtain⟨p,q,adQ,LF,Gc,aeJ,gW⟩:=zh
 have gA:DataW.TrodAll enc Tryz.prog W 0 (fun _=>true) true [22,22,3,65] args.toList ds p:=adQ
 have hS:∀ (j:Nat) u v,[22,22,3,65][j]? =some u→args.toList[j]? =some v→Value.okWide Tryz.prog W .any base u v:=fun j u v aa ad=>Ch j u v (by rw [Tryz.params4]; simpa using aa) (by simpa using ad)
 obtain⟨J,v0,aeK,aeL,aeM,d0,kJ,g0,bT,gA,hS⟩:=Em PC gA hS
 obtain⟨ah,v1,Kz,KA,cx,d1,ay,av,aa,gA,hS⟩:=Em PC gA hS
 obtain⟨aP,v2,aeN,aeO,hh,d2,aO,aW,ad,gA,hS⟩:=Em aaz gA hS
 obtain⟨b5,zf,aeP,aeQ,pT,d3,cK,bB,aF,gA,hS⟩:=Em Yt gA hS
 obtain⟨di,cn,_⟩:=trodAll_nil gA
 subst di cn
 subst cK
 subst aO
 subst ay
 obtain rfl:args= #[v0,v1,v2,zf]:=by cases args; simpa using kJ
 subst bB
 subst aW
 subst av
 subst g0
 have BM:=(b9.law (Tb (TT J ah aP b5)) fun _ h=>h) [] W [v0,v1,v2,zf] (by simp) (.cons bT (.cons aa (.cons ad (.cons aF (.nil)))))
 refine BM.mono fun e W' ⟨v,he,nL,a2⟩=>?_
 rw [of_bool] at a2
 subst a2
 exact⟨_,he,Wv TN TI rfl Tryz.underlying4 rfl rfl adP nL⟩
theorem TV:(Rows.shadowRemovesRow.inPlace==Tryz.prog.inPlace 4)=true:=by kernel_rfl
theorem TW:(Rows.shadowRemovesRow.unfollowed==Tryz.prog.unfollowed 4)=true:=by kernel_rfl
theorem TX:(Rows.shadowRemovesRow.recurses==Tryz.prog.recurses 4)=true:=by kernel_rfl
theorem TY:(Rows.shadowRemovesRow.named==Tryz.prog.varsNamed 4)=true:=by kernel_rfl
theorem TB:joinedFacts Tryz.prog 4 Tryz.f4 Rows.shadowRemovesSpec Rows.shadowRemovesRow=true:=by
 unfold joinedFacts
 rw [TV,TW,TX,TY]
 kernel_rfl
theorem ShadowRemoves_holds:Rows.ShadowRemovesSaid:=
 OpenClaim.holds_of_wide 4 Tryz.f4 rfl rfl rfl rfl rfl rfl rfl ⟨rfl,rfl,rfl,rfl,rfl⟩ rfl rfl rfl rfl rfl (by kernel_rfl) Tryz.func4 TB
  (of_decide_eq_true (by kernel_rfl)) (by unfold Func.isWrapper; first | (rw [if_pos (by decide +kernel)]; kernel_rfl) | (rw [if_neg (by decide +kernel)]; exact⟨rfl,rfl⟩))
  (fun os started H enc _=>Tl os started H enc)
end Go.Proofs.YthkfkliknjiecaaGreat
