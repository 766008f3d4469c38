/-
  Each function meets its functional program. Conditions: none.
-/
import Derived.Test.YtmnggbjcnoffeaaGreatKc2
import Derived.Test.YtmnggbjcnoffeaaGreatKc0
import Derived.Test.YtmnggbjcnoffeaaGreatKc5
import Derived.Test.YtmnggbjcnoffeaaGreatKc3
import Derived.Test.YtmnggbjcnoffeaaGreatKc4
namespace Go.Proofs.YtmnggbjcnoffeaaGreat
open Go Gv
set_option linter.unusedVariables false
set_option linter.unusedSimpArgs false
set_option maxRecDepth 100000
set_option maxHeartbeats 2000000
theorem C_index_prefixed_put {hp : Pool Cell} {x0 : T_index_prefixed} {x1 : T_api_Installed}  {Q : (Pool Cell) → Prop} (h : L_index_prefixed_put hp x0 x1 Q) : MeetsO Tryz.prog 237 [VP.of (x0), VP.of (x1)] ([] ++ Ents hp) (δ := {r : (Pool Cell) // Q r} × Unit) (fun d => VP.tup []) (fun d => [] ++ Ents d.1.1) := by
 unfold L_index_prefixed_put at h
 refine MeetsO.of Tryz.func237 rfl Tryz.ntmps237 rfl fun W A => ?_
 refine Qsr ?_
 refine Qbx fun p1 => ?_
 refine Qbx fun p2 => ?_
 refine Qnr ?_
 refine Ql0 1 ty169 ?_
 refine Q1 (r_fa fd52_0) ?_
 refine Qld 0 le_T_api_Installed_Entry ty50 ?_
 obtain ⟨y1, hy1, h⟩ := Wm.of_bind h
 refine Qcl en239 (C_index_prefixed_prefix hy1) ?_
 refine Qm ?_
 refine Qxt ?_
 refine Qxt ?_
 refine Qxt ?_
 refine Qal zr320 fun p3 => ?_
 refine Qal zr43 fun p4 => ?_
 refine Qs0 1 ty320 ?_
 refine Qs0 0 ty43 ?_
 refine Qa ?_
 refine Qns ?_
 refine Qsr ?_
 refine Q1 (r_fa fd169_2) ?_
 refine Qld 3 le_T_index_prefixed_tries ty167 ?_
 refine Ql0 1 ty320 ?_
 obtain ⟨o1, ho1, h⟩ := Wm.of_bind h
 obtain ⟨c1, hc1, h⟩ := Wm.of_bind h
 obtain ⟨z1, hz1, h⟩ := Wm.of_bind h
 refine Qv (r_lookM (r := z1) Tryz.underlying167 kt320 zr321 (look_mref (look_t rfl) ho1) (look_t rfl) (pmem (n := 4) rfl (rds167 hc1) rfl) (some_in hz1)) ?_
 refine Qv (r_refnil Tryz.underlying321 (look_t rfl)) ?_
 refine Qnx ?_
 refine Wp.condWh (γ := Unit) h (fun m1 g1 => [(0, VP.of (x0)), (1, VP.of (x1)), (2, VP.eq (.pointer (some ⟨p1, 0, none⟩))), (3, VP.eq (.pointer (some ⟨p2, 0, none⟩))), (4, VP.eq (.pointer (some ⟨p3, 0, none⟩))), (5, VP.eq (.pointer (some ⟨p4, 0, none⟩))), (6, VP.of (y1.2.2)), (19, VP.of (z1.isNone))]) (fun m1 g1 => (⟨some p4, .var (y1.2.1 : T_api_Value)⟩ :: ⟨some p3, .var (y1.1 : Vector T_api_Value 4)⟩ :: ⟨some p2, .var (x1 : T_api_Installed)⟩ :: ⟨some p1, .var (x0 : T_index_prefixed)⟩ :: Ents m1)) (look_t rfl) (fun m1 g1 h => ?_) (fun hm hc h => ?_) (fun hm hc h => ?_)
 ·refine To.next ?_
  obtain ⟨c2, hc2, h⟩ := Wm.of_bind h
  obtain ⟨z2, hz2, h⟩ := Wm.of_bind h
  refine Wp.draw mixed 8 [some 26, some 27, some 28, some 29, some 30, some 31, some 32, some 33] [[], [0], [], [1, 2], [], [], [], [6]] [.val _, .val _, .val _, .val _, .val _, .val _, .val _, .val _] [false, false, false, false, false, false, false, false] (by kernel_rfl) rfl rfl rfl (fun ps1 => ⟨H1 (r_fa fd169_2), Hld 3 le_T_index_prefixed_tries ty167, Hl0 1 ty320, Hv fun L' hL => r_lookM (r := z2) Tryz.underlying167 kt320 zr321 (look_mref (look_t rfl) ho1) (look_t rfl) (dmem (fun i e q => hL i e q rfl) (pmem (n := 4) rfl (rds167 hc2) rfl)) (some_in hz2), Hl0 0 ty43, Hm, H1 (r_fa fd52_1), Hld 2 le_T_api_Installed_Number ty3, trivial⟩) fun ps1 => ?_
  refine Sq.callP 4 0 rfl en244 (C_trie_Trie_Put h) rfl rfl ⟨look_t rfl, look_t rfl, look_t rfl, look_t rfl, trivial⟩ rfl fun ⟨⟨y2, h⟩, q1⟩ => ?_
  refine Sq.eqL (L2 := (⟨some p4, .var (y1.2.1 : T_api_Value)⟩ :: ⟨some p3, .var (y1.1 : Vector T_api_Value 4)⟩ :: ⟨some p2, .var (x1 : T_api_Installed)⟩ :: ⟨some p1, .var (x0 : T_index_prefixed)⟩ :: Ents y2.2)) rfl ?_
  refine Sq.nil ?_
  refine To.endn ?_
  exact To.endO0 (⟨⟨y2.2, h⟩, ()⟩ : {r // _} × _) (.cons _ (.cons _ (.cons _ (.cons _ (.refl _))))) rfl rfl
 ·obtain ⟨Ky3, hKy3, hky3⟩ := Wm.ex h
  refine Wp.drawE mixed 7 (Array.mk (false :: false :: false :: false :: false :: false :: false :: [])) rfl rfl ?_
  refine AnyS.cut (γ := Subtype Ky3) 1 (Array.mk (true :: true :: true :: true :: true :: true :: false :: [])) (fun gS0_23 => [(0, VP.of (x0)), (1, VP.of (x1)), (2, VP.eq (.pointer (some ⟨p1, 0, none⟩))), (3, VP.eq (.pointer (some ⟨p2, 0, none⟩))), (4, VP.eq (.pointer (some ⟨p3, 0, none⟩))), (5, VP.eq (.pointer (some ⟨p4, 0, none⟩))), (6, VP.of (y1.2.2)), (7, VP.tup [VP.of (y1.1), VP.of (y1.2.1), VP.of (y1.2.2)]), (8, VP.of (x0)), (9, VP.eq (.pointer (some ⟨p2, 0 + 0, none⟩))), (10, VP.of (x1.f_Entry)), (11, VP.tup [VP.of (y1.1), VP.of (y1.2.1), VP.of (y1.2.2)]), (12, VP.of (y1.1)), (13, VP.of (y1.2.1)), (14, VP.of (y1.2.2)), (15, VP.eq (.pointer (some ⟨p1, 0 + 2, none⟩))), (16, VP.of (x0.f_tries)), (17, VP.of (y1.1)), (18, VP.of (z1)), (19, VP.of (z1.isNone)), (20, VP.eq (.pointer (some ⟨p1, 0 + 2, none⟩))), (21, VP.of (x0.f_tries)), (22, VP.of (y1.1)), (23, VP.eq (.pointer (some ⟨p1, 0 + 1, none⟩))), (24, VP.of (x0.f_bits)), (25, VP.of (gS0_23.1.1))]) (fun gS0_23 => (⟨some p4, .var (y1.2.1 : T_api_Value)⟩ :: ⟨some p3, .var (y1.1 : Vector T_api_Value 4)⟩ :: ⟨some p2, .var (x1 : T_api_Installed)⟩ :: ⟨some p1, .var (x0 : T_index_prefixed)⟩ :: Ents gS0_23.1.2)) (fun gS0_23 => ?_) (fun S0_23 => ?_)
  ·obtain ⟨y3, hvy3⟩ := gS0_23
   have h := hky3 y3 hvy3
   refine AnyS.tail 6 rfl (by kernel_rfl) ?_
   refine Sq.eqL (L2 := (⟨some p4, .var (y1.2.1 : T_api_Value)⟩ :: ⟨some p3, .var (y1.1 : Vector T_api_Value 4)⟩ :: ⟨some p2, .var (x1 : T_api_Installed)⟩ :: ⟨some p1, .var (x0 : T_index_prefixed)⟩ :: Ents y3.2)) rfl ?_
   refine Sq.le (E' := [(0, VP.of (x0)), (1, VP.of (x1)), (2, VP.eq (.pointer (some ⟨p1, 0, none⟩))), (3, VP.eq (.pointer (some ⟨p2, 0, none⟩))), (4, VP.eq (.pointer (some ⟨p3, 0, none⟩))), (5, VP.eq (.pointer (some ⟨p4, 0, none⟩))), (6, VP.of (y1.2.2)), (7, VP.tup [VP.of (y1.1), VP.of (y1.2.1), VP.of (y1.2.2)]), (8, VP.of (x0)), (9, VP.eq (.pointer (some ⟨p2, 0 + 0, none⟩))), (10, VP.of (x1.f_Entry)), (11, VP.tup [VP.of (y1.1), VP.of (y1.2.1), VP.of (y1.2.2)]), (12, VP.of (y1.1)), (13, VP.of (y1.2.1)), (14, VP.of (y1.2.2)), (15, VP.eq (.pointer (some ⟨p1, 0 + 2, none⟩))), (16, VP.of (x0.f_tries)), (17, VP.of (y1.1)), (18, VP.of (z1)), (19, VP.of (z1.isNone)), (20, VP.eq (.pointer (some ⟨p1, 0 + 2, none⟩))), (21, VP.of (x0.f_tries)), (22, VP.of (y1.1)), (23, VP.eq (.pointer (some ⟨p1, 0 + 1, none⟩))), (24, VP.of (x0.f_bits)), (25, VP.of (y3.1))]) (.same rfl (.same rfl (.same rfl (.same rfl (.same rfl (.same rfl (.same rfl (.same rfl (.same rfl (.same rfl (.same rfl (.same rfl (.same rfl (.same rfl (.same rfl (.same rfl (.same rfl (.same rfl (.same rfl (.same rfl (.same rfl (.same rfl (.same rfl (.same rfl (.same rfl (.same rfl .nil)))))))))))))))))))))))))) ?_
   obtain ⟨c3, hc3, h⟩ := Wm.of_bind h
   obtain ⟨hp1, hhp1, h⟩ := Wm.of_bind h
   refine Sq.mputQ (k' := Cell.c167 (mput c3 y1.1 y3.1)) 4 rfl (by first | exact .inl rfl | exact .inr rfl) Tryz.underlying167 kt320 (look_mref (look_t rfl) ho1) (look_t rfl) (look_t rfl) (rds167 hc3) rfl rfl rfl (some_in hhp1) ?_
   refine Sq.nil ?_
   exact Qmt 0 (hm hp1 () h)
  refine AnyS.cut (γ := Subtype Ky3) 2 (Array.mk (true :: false :: true :: true :: true :: true :: false :: [])) (fun gS0_22 => [(0, VP.of (x0)), (1, VP.of (x1)), (2, VP.eq (.pointer (some ⟨p1, 0, none⟩))), (3, VP.eq (.pointer (some ⟨p2, 0, none⟩))), (4, VP.eq (.pointer (some ⟨p3, 0, none⟩))), (5, VP.eq (.pointer (some ⟨p4, 0, none⟩))), (6, VP.of (y1.2.2)), (7, VP.tup [VP.of (y1.1), VP.of (y1.2.1), VP.of (y1.2.2)]), (8, VP.of (x0)), (9, VP.eq (.pointer (some ⟨p2, 0 + 0, none⟩))), (10, VP.of (x1.f_Entry)), (11, VP.tup [VP.of (y1.1), VP.of (y1.2.1), VP.of (y1.2.2)]), (12, VP.of (y1.1)), (13, VP.of (y1.2.1)), (14, VP.of (y1.2.2)), (15, VP.eq (.pointer (some ⟨p1, 0 + 2, none⟩))), (16, VP.of (x0.f_tries)), (17, VP.of (y1.1)), (18, VP.of (z1)), (19, VP.of (z1.isNone)), (20, VP.eq (.pointer (some ⟨p1, 0 + 2, none⟩))), (22, VP.of (y1.1)), (23, VP.eq (.pointer (some ⟨p1, 0 + 1, none⟩))), (24, VP.of (x0.f_bits)), (25, VP.of (gS0_22.1.1))]) (fun gS0_22 => (⟨some p4, .var (y1.2.1 : T_api_Value)⟩ :: ⟨some p3, .var (y1.1 : Vector T_api_Value 4)⟩ :: ⟨some p2, .var (x1 : T_api_Installed)⟩ :: ⟨some p1, .var (x0 : T_index_prefixed)⟩ :: Ents gS0_22.1.2)) (fun gS0_22 => ?_) (fun S0_22 => ?_)
  ·refine AnyS.step [1] (by kernel_rfl) rfl ⟨⟨_, rfl, ?_⟩, trivial⟩
   ·refine Qld 3 le_T_index_prefixed_tries ty167 ?_
    refine Sq.nil ?_
    exact To.any rfl (AnyS.le (.same rfl (.same rfl (.same rfl (.same rfl (.same rfl (.same rfl (.same rfl (.same rfl (.same rfl (.same rfl (.same rfl (.same rfl (.same rfl (.same rfl (.same rfl (.same rfl (.same rfl (.same rfl (.same rfl (.same rfl (.same rfl (.same rfl (.same rfl (.same rfl (.same rfl (.same rfl .nil)))))))))))))))))))))))))) (S0_23 gS0_22))
  refine AnyS.cut (γ := Subtype Ky3) 2 (Array.mk (true :: true :: false :: true :: true :: true :: false :: [])) (fun gS0_21 => [(0, VP.of (x0)), (1, VP.of (x1)), (2, VP.eq (.pointer (some ⟨p1, 0, none⟩))), (3, VP.eq (.pointer (some ⟨p2, 0, none⟩))), (4, VP.eq (.pointer (some ⟨p3, 0, none⟩))), (5, VP.eq (.pointer (some ⟨p4, 0, none⟩))), (6, VP.of (y1.2.2)), (7, VP.tup [VP.of (y1.1), VP.of (y1.2.1), VP.of (y1.2.2)]), (8, VP.of (x0)), (9, VP.eq (.pointer (some ⟨p2, 0 + 0, none⟩))), (10, VP.of (x1.f_Entry)), (11, VP.tup [VP.of (y1.1), VP.of (y1.2.1), VP.of (y1.2.2)]), (12, VP.of (y1.1)), (13, VP.of (y1.2.1)), (14, VP.of (y1.2.2)), (15, VP.eq (.pointer (some ⟨p1, 0 + 2, none⟩))), (16, VP.of (x0.f_tries)), (17, VP.of (y1.1)), (18, VP.of (z1)), (19, VP.of (z1.isNone)), (20, VP.eq (.pointer (some ⟨p1, 0 + 2, none⟩))), (21, VP.of (x0.f_tries)), (23, VP.eq (.pointer (some ⟨p1, 0 + 1, none⟩))), (24, VP.of (x0.f_bits)), (25, VP.of (gS0_21.1.1))]) (fun gS0_21 => (⟨some p4, .var (y1.2.1 : T_api_Value)⟩ :: ⟨some p3, .var (y1.1 : Vector T_api_Value 4)⟩ :: ⟨some p2, .var (x1 : T_api_Installed)⟩ :: ⟨some p1, .var (x0 : T_index_prefixed)⟩ :: Ents gS0_21.1.2)) (fun gS0_21 => ?_) (fun S0_21 => ?_)
  ·refine AnyS.step [2] (by kernel_rfl) rfl ⟨⟨_, rfl, ?_⟩, trivial⟩
   ·refine Ql0 1 ty320 ?_
    refine Sq.nil ?_
    exact To.any rfl (AnyS.le (.same rfl (.same rfl (.same rfl (.same rfl (.same rfl (.same rfl (.same rfl (.same rfl (.same rfl (.same rfl (.same rfl (.same rfl (.same rfl (.same rfl (.same rfl (.same rfl (.same rfl (.same rfl (.same rfl (.same rfl (.same rfl (.same rfl (.same rfl (.same rfl (.same rfl (.same rfl .nil)))))))))))))))))))))))))) (S0_23 gS0_21))
  refine AnyS.cut (γ := Unit) 2 (Array.mk (true :: true :: true :: true :: true :: false :: false :: [])) (fun gS0_20 => [(0, VP.of (x0)), (1, VP.of (x1)), (2, VP.eq (.pointer (some ⟨p1, 0, none⟩))), (3, VP.eq (.pointer (some ⟨p2, 0, none⟩))), (4, VP.eq (.pointer (some ⟨p3, 0, none⟩))), (5, VP.eq (.pointer (some ⟨p4, 0, none⟩))), (6, VP.of (y1.2.2)), (7, VP.tup [VP.of (y1.1), VP.of (y1.2.1), VP.of (y1.2.2)]), (8, VP.of (x0)), (9, VP.eq (.pointer (some ⟨p2, 0 + 0, none⟩))), (10, VP.of (x1.f_Entry)), (11, VP.tup [VP.of (y1.1), VP.of (y1.2.1), VP.of (y1.2.2)]), (12, VP.of (y1.1)), (13, VP.of (y1.2.1)), (14, VP.of (y1.2.2)), (15, VP.eq (.pointer (some ⟨p1, 0 + 2, none⟩))), (16, VP.of (x0.f_tries)), (17, VP.of (y1.1)), (18, VP.of (z1)), (19, VP.of (z1.isNone)), (20, VP.eq (.pointer (some ⟨p1, 0 + 2, none⟩))), (21, VP.of (x0.f_tries)), (22, VP.of (y1.1)), (23, VP.eq (.pointer (some ⟨p1, 0 + 1, none⟩))), (24, VP.of (x0.f_bits))]) (fun gS0_20 => (⟨some p4, .var (y1.2.1 : T_api_Value)⟩ :: ⟨some p3, .var (y1.1 : Vector T_api_Value 4)⟩ :: ⟨some p2, .var (x1 : T_api_Installed)⟩ :: ⟨some p1, .var (x0 : T_index_prefixed)⟩ :: Ents hp)) (fun gS0_20 => ?_) (fun S0_20 => ?_)
  ·refine AnyS.step [5] (by kernel_rfl) rfl ⟨⟨_, rfl, ?_⟩, trivial⟩
   ·refine Sq.callP 4 0 rfl en243 (C_trie_New hKy3) rfl rfl ⟨look_t rfl, trivial⟩ rfl fun ⟨⟨y3, hvy3⟩, _⟩ => ?_
    refine Sq.eqL (L2 := (⟨some p4, .var (y1.2.1 : T_api_Value)⟩ :: ⟨some p3, .var (y1.1 : Vector T_api_Value 4)⟩ :: ⟨some p2, .var (x1 : T_api_Installed)⟩ :: ⟨some p1, .var (x0 : T_index_prefixed)⟩ :: Ents y3.2)) rfl ?_
    refine Sq.nil ?_
    exact To.any rfl (AnyS.le (.same rfl (.same rfl (.same rfl (.same rfl (.same rfl (.same rfl (.same rfl (.same rfl (.same rfl (.same rfl (.same rfl (.same rfl (.same rfl (.same rfl (.same rfl (.same rfl (.same rfl (.same rfl (.same rfl (.same rfl (.same rfl (.same rfl (.same rfl (.same rfl (.same rfl (.same rfl .nil)))))))))))))))))))))))))) (S0_23 ⟨y3, hvy3⟩))
  refine AnyS.cut (γ := Subtype Ky3) 3 (Array.mk (false :: false :: true :: true :: true :: true :: false :: [])) (fun gS0_19 => [(0, VP.of (x0)), (1, VP.of (x1)), (2, VP.eq (.pointer (some ⟨p1, 0, none⟩))), (3, VP.eq (.pointer (some ⟨p2, 0, none⟩))), (4, VP.eq (.pointer (some ⟨p3, 0, none⟩))), (5, VP.eq (.pointer (some ⟨p4, 0, none⟩))), (6, VP.of (y1.2.2)), (7, VP.tup [VP.of (y1.1), VP.of (y1.2.1), VP.of (y1.2.2)]), (8, VP.of (x0)), (9, VP.eq (.pointer (some ⟨p2, 0 + 0, none⟩))), (10, VP.of (x1.f_Entry)), (11, VP.tup [VP.of (y1.1), VP.of (y1.2.1), VP.of (y1.2.2)]), (12, VP.of (y1.1)), (13, VP.of (y1.2.1)), (14, VP.of (y1.2.2)), (15, VP.eq (.pointer (some ⟨p1, 0 + 2, none⟩))), (16, VP.of (x0.f_tries)), (17, VP.of (y1.1)), (18, VP.of (z1)), (19, VP.of (z1.isNone)), (22, VP.of (y1.1)), (23, VP.eq (.pointer (some ⟨p1, 0 + 1, none⟩))), (24, VP.of (x0.f_bits)), (25, VP.of (gS0_19.1.1))]) (fun gS0_19 => (⟨some p4, .var (y1.2.1 : T_api_Value)⟩ :: ⟨some p3, .var (y1.1 : Vector T_api_Value 4)⟩ :: ⟨some p2, .var (x1 : T_api_Installed)⟩ :: ⟨some p1, .var (x0 : T_index_prefixed)⟩ :: Ents gS0_19.1.2)) (fun gS0_19 => ?_) (fun S0_19 => ?_)
  ·refine AnyS.step [0] (by kernel_rfl) rfl ⟨⟨_, rfl, ?_⟩, trivial⟩
   ·refine Q1 (r_fa fd169_2) ?_
    refine Sq.nil ?_
    exact To.any rfl (AnyS.le (.same rfl (.same rfl (.same rfl (.same rfl (.same rfl (.same rfl (.same rfl (.same rfl (.same rfl (.same rfl (.same rfl (.same rfl (.same rfl (.same rfl (.same rfl (.same rfl (.same rfl (.same rfl (.same rfl (.same rfl (.same rfl (.same rfl (.same rfl (.same rfl (.same rfl .nil))))))))))))))))))))))))) (S0_22 gS0_19))
  refine AnyS.cut (γ := Subtype Ky3) 3 (Array.mk (true :: false :: false :: true :: true :: true :: false :: [])) (fun gS0_18 => [(0, VP.of (x0)), (1, VP.of (x1)), (2, VP.eq (.pointer (some ⟨p1, 0, none⟩))), (3, VP.eq (.pointer (some ⟨p2, 0, none⟩))), (4, VP.eq (.pointer (some ⟨p3, 0, none⟩))), (5, VP.eq (.pointer (some ⟨p4, 0, none⟩))), (6, VP.of (y1.2.2)), (7, VP.tup [VP.of (y1.1), VP.of (y1.2.1), VP.of (y1.2.2)]), (8, VP.of (x0)), (9, VP.eq (.pointer (some ⟨p2, 0 + 0, none⟩))), (10, VP.of (x1.f_Entry)), (11, VP.tup [VP.of (y1.1), VP.of (y1.2.1), VP.of (y1.2.2)]), (12, VP.of (y1.1)), (13, VP.of (y1.2.1)), (14, VP.of (y1.2.2)), (15, VP.eq (.pointer (some ⟨p1, 0 + 2, none⟩))), (16, VP.of (x0.f_tries)), (17, VP.of (y1.1)), (18, VP.of (z1)), (19, VP.of (z1.isNone)), (20, VP.eq (.pointer (some ⟨p1, 0 + 2, none⟩))), (23, VP.eq (.pointer (some ⟨p1, 0 + 1, none⟩))), (24, VP.of (x0.f_bits)), (25, VP.of (gS0_18.1.1))]) (fun gS0_18 => (⟨some p4, .var (y1.2.1 : T_api_Value)⟩ :: ⟨some p3, .var (y1.1 : Vector T_api_Value 4)⟩ :: ⟨some p2, .var (x1 : T_api_Installed)⟩ :: ⟨some p1, .var (x0 : T_index_prefixed)⟩ :: Ents gS0_18.1.2)) (fun gS0_18 => ?_) (fun S0_18 => ?_)
  ·refine AnyS.step [1, 2] (by kernel_rfl) rfl ⟨⟨_, rfl, ?_⟩, ⟨_, rfl, ?_⟩, trivial⟩
   ·refine Qld 3 le_T_index_prefixed_tries ty167 ?_
    refine Sq.nil ?_
    exact To.any rfl (AnyS.le (.same rfl (.same rfl (.same rfl (.same rfl (.same rfl (.same rfl (.same rfl (.same rfl (.same rfl (.same rfl (.same rfl (.same rfl (.same rfl (.same rfl (.same rfl (.same rfl (.same rfl (.same rfl (.same rfl (.same rfl (.same rfl (.same rfl (.same rfl (.same rfl (.same rfl .nil))))))))))))))))))))))))) (S0_21 gS0_18))
   ·refine Ql0 1 ty320 ?_
    refine Sq.nil ?_
    exact To.any rfl (AnyS.le (.same rfl (.same rfl (.same rfl (.same rfl (.same rfl (.same rfl (.same rfl (.same rfl (.same rfl (.same rfl (.same rfl (.same rfl (.same rfl (.same rfl (.same rfl (.same rfl (.same rfl (.same rfl (.same rfl (.same rfl (.same rfl (.same rfl (.same rfl (.same rfl (.same rfl .nil))))))))))))))))))))))))) (S0_22 gS0_18))
  refine AnyS.cut (γ := Unit) 3 (Array.mk (true :: false :: true :: true :: true :: false :: false :: [])) (fun gS0_17 => [(0, VP.of (x0)), (1, VP.of (x1)), (2, VP.eq (.pointer (some ⟨p1, 0, none⟩))), (3, VP.eq (.pointer (some ⟨p2, 0, none⟩))), (4, VP.eq (.pointer (some ⟨p3, 0, none⟩))), (5, VP.eq (.pointer (some ⟨p4, 0, none⟩))), (6, VP.of (y1.2.2)), (7, VP.tup [VP.of (y1.1), VP.of (y1.2.1), VP.of (y1.2.2)]), (8, VP.of (x0)), (9, VP.eq (.pointer (some ⟨p2, 0 + 0, none⟩))), (10, VP.of (x1.f_Entry)), (11, VP.tup [VP.of (y1.1), VP.of (y1.2.1), VP.of (y1.2.2)]), (12, VP.of (y1.1)), (13, VP.of (y1.2.1)), (14, VP.of (y1.2.2)), (15, VP.eq (.pointer (some ⟨p1, 0 + 2, none⟩))), (16, VP.of (x0.f_tries)), (17, VP.of (y1.1)), (18, VP.of (z1)), (19, VP.of (z1.isNone)), (20, VP.eq (.pointer (some ⟨p1, 0 + 2, none⟩))), (22, VP.of (y1.1)), (23, VP.eq (.pointer (some ⟨p1, 0 + 1, none⟩))), (24, VP.of (x0.f_bits))]) (fun gS0_17 => (⟨some p4, .var (y1.2.1 : T_api_Value)⟩ :: ⟨some p3, .var (y1.1 : Vector T_api_Value 4)⟩ :: ⟨some p2, .var (x1 : T_api_Installed)⟩ :: ⟨some p1, .var (x0 : T_index_prefixed)⟩ :: Ents hp)) (fun gS0_17 => ?_) (fun S0_17 => ?_)
  ·refine AnyS.step [1, 5] (by kernel_rfl) rfl ⟨⟨_, rfl, ?_⟩, ⟨_, rfl, ?_⟩, trivial⟩
   ·refine Qld 3 le_T_index_prefixed_tries ty167 ?_
    refine Sq.nil ?_
    exact To.any rfl (AnyS.le (.same rfl (.same rfl (.same rfl (.same rfl (.same rfl (.same rfl (.same rfl (.same rfl (.same rfl (.same rfl (.same rfl (.same rfl (.same rfl (.same rfl (.same rfl (.same rfl (.same rfl (.same rfl (.same rfl (.same rfl (.same rfl (.same rfl (.same rfl (.same rfl (.same rfl .nil))))))))))))))))))))))))) (S0_20 ()))
   ·refine Sq.callP 4 0 rfl en243 (C_trie_New hKy3) rfl rfl ⟨look_t rfl, trivial⟩ rfl fun ⟨⟨y3, hvy3⟩, _⟩ => ?_
    refine Sq.eqL (L2 := (⟨some p4, .var (y1.2.1 : T_api_Value)⟩ :: ⟨some p3, .var (y1.1 : Vector T_api_Value 4)⟩ :: ⟨some p2, .var (x1 : T_api_Installed)⟩ :: ⟨some p1, .var (x0 : T_index_prefixed)⟩ :: Ents y3.2)) rfl ?_
    refine Sq.nil ?_
    exact To.any rfl (AnyS.le (.same rfl (.same rfl (.same rfl (.same rfl (.same rfl (.same rfl (.same rfl (.same rfl (.same rfl (.same rfl (.same rfl (.same rfl (.same rfl (.same rfl (.same rfl (.same rfl (.same rfl (.same rfl (.same rfl (.same rfl (.same rfl (.same rfl (.same rfl (.same rfl (.same rfl .nil))))))))))))))))))))))))) (S0_22 ⟨y3, hvy3⟩))
  refine AnyS.cut (γ := Unit) 3 (Array.mk (true :: true :: false :: true :: true :: false :: false :: [])) (fun gS0_16 => [(0, VP.of (x0)), (1, VP.of (x1)), (2, VP.eq (.pointer (some ⟨p1, 0, none⟩))), (3, VP.eq (.pointer (some ⟨p2, 0, none⟩))), (4, VP.eq (.pointer (some ⟨p3, 0, none⟩))), (5, VP.eq (.pointer (some ⟨p4, 0, none⟩))), (6, VP.of (y1.2.2)), (7, VP.tup [VP.of (y1.1), VP.of (y1.2.1), VP.of (y1.2.2)]), (8, VP.of (x0)), (9, VP.eq (.pointer (some ⟨p2, 0 + 0, none⟩))), (10, VP.of (x1.f_Entry)), (11, VP.tup [VP.of (y1.1), VP.of (y1.2.1), VP.of (y1.2.2)]), (12, VP.of (y1.1)), (13, VP.of (y1.2.1)), (14, VP.of (y1.2.2)), (15, VP.eq (.pointer (some ⟨p1, 0 + 2, none⟩))), (16, VP.of (x0.f_tries)), (17, VP.of (y1.1)), (18, VP.of (z1)), (19, VP.of (z1.isNone)), (20, VP.eq (.pointer (some ⟨p1, 0 + 2, none⟩))), (21, VP.of (x0.f_tries)), (23, VP.eq (.pointer (some ⟨p1, 0 + 1, none⟩))), (24, VP.of (x0.f_bits))]) (fun gS0_16 => (⟨some p4, .var (y1.2.1 : T_api_Value)⟩ :: ⟨some p3, .var (y1.1 : Vector T_api_Value 4)⟩ :: ⟨some p2, .var (x1 : T_api_Installed)⟩ :: ⟨some p1, .var (x0 : T_index_prefixed)⟩ :: Ents hp)) (fun gS0_16 => ?_) (fun S0_16 => ?_)
  ·refine AnyS.step [2, 5] (by kernel_rfl) rfl ⟨⟨_, rfl, ?_⟩, ⟨_, rfl, ?_⟩, trivial⟩
   ·refine Ql0 1 ty320 ?_
    refine Sq.nil ?_
    exact To.any rfl (AnyS.le (.same rfl (.same rfl (.same rfl (.same rfl (.same rfl (.same rfl (.same rfl (.same rfl (.same rfl (.same rfl (.same rfl (.same rfl (.same rfl (.same rfl (.same rfl (.same rfl (.same rfl (.same rfl (.same rfl (.same rfl (.same rfl (.same rfl (.same rfl (.same rfl (.same rfl .nil))))))))))))))))))))))))) (S0_20 ()))
   ·refine Sq.callP 4 0 rfl en243 (C_trie_New hKy3) rfl rfl ⟨look_t rfl, trivial⟩ rfl fun ⟨⟨y3, hvy3⟩, _⟩ => ?_
    refine Sq.eqL (L2 := (⟨some p4, .var (y1.2.1 : T_api_Value)⟩ :: ⟨some p3, .var (y1.1 : Vector T_api_Value 4)⟩ :: ⟨some p2, .var (x1 : T_api_Installed)⟩ :: ⟨some p1, .var (x0 : T_index_prefixed)⟩ :: Ents y3.2)) rfl ?_
    refine Sq.nil ?_
    exact To.any rfl (AnyS.le (.same rfl (.same rfl (.same rfl (.same rfl (.same rfl (.same rfl (.same rfl (.same rfl (.same rfl (.same rfl (.same rfl (.same rfl (.same rfl (.same rfl (.same rfl (.same rfl (.same rfl (.same rfl (.same rfl (.same rfl (.same rfl (.same rfl (.same rfl (.same rfl (.same rfl .nil))))))))))))))))))))))))) (S0_21 ⟨y3, hvy3⟩))
  refine AnyS.cut (γ := Unit) 3 (Array.mk (true :: true :: true :: true :: false :: false :: false :: [])) (fun gS0_15 => [(0, VP.of (x0)), (1, VP.of (x1)), (2, VP.eq (.pointer (some ⟨p1, 0, none⟩))), (3, VP.eq (.pointer (some ⟨p2, 0, none⟩))), (4, VP.eq (.pointer (some ⟨p3, 0, none⟩))), (5, VP.eq (.pointer (some ⟨p4, 0, none⟩))), (6, VP.of (y1.2.2)), (7, VP.tup [VP.of (y1.1), VP.of (y1.2.1), VP.of (y1.2.2)]), (8, VP.of (x0)), (9, VP.eq (.pointer (some ⟨p2, 0 + 0, none⟩))), (10, VP.of (x1.f_Entry)), (11, VP.tup [VP.of (y1.1), VP.of (y1.2.1), VP.of (y1.2.2)]), (12, VP.of (y1.1)), (13, VP.of (y1.2.1)), (14, VP.of (y1.2.2)), (15, VP.eq (.pointer (some ⟨p1, 0 + 2, none⟩))), (16, VP.of (x0.f_tries)), (17, VP.of (y1.1)), (18, VP.of (z1)), (19, VP.of (z1.isNone)), (20, VP.eq (.pointer (some ⟨p1, 0 + 2, none⟩))), (21, VP.of (x0.f_tries)), (22, VP.of (y1.1)), (23, VP.eq (.pointer (some ⟨p1, 0 + 1, none⟩)))]) (fun gS0_15 => (⟨some p4, .var (y1.2.1 : T_api_Value)⟩ :: ⟨some p3, .var (y1.1 : Vector T_api_Value 4)⟩ :: ⟨some p2, .var (x1 : T_api_Installed)⟩ :: ⟨some p1, .var (x0 : T_index_prefixed)⟩ :: Ents hp)) (fun gS0_15 => ?_) (fun S0_15 => ?_)
  ·refine AnyS.step [4] (by kernel_rfl) rfl ⟨⟨_, rfl, ?_⟩, trivial⟩
   ·refine Qld 3 le_T_index_prefixed_bits ty3 ?_
    refine Sq.nil ?_
    exact To.any rfl (AnyS.le (.same rfl (.same rfl (.same rfl (.same rfl (.same rfl (.same rfl (.same rfl (.same rfl (.same rfl (.same rfl (.same rfl (.same rfl (.same rfl (.same rfl (.same rfl (.same rfl (.same rfl (.same rfl (.same rfl (.same rfl (.same rfl (.same rfl (.same rfl (.same rfl (.same rfl .nil))))))))))))))))))))))))) (S0_20 ()))
  refine AnyS.cut (γ := Subtype Ky3) 4 (Array.mk (false :: false :: false :: true :: true :: true :: false :: [])) (fun gS0_14 => [(0, VP.of (x0)), (1, VP.of (x1)), (2, VP.eq (.pointer (some ⟨p1, 0, none⟩))), (3, VP.eq (.pointer (some ⟨p2, 0, none⟩))), (4, VP.eq (.pointer (some ⟨p3, 0, none⟩))), (5, VP.eq (.pointer (some ⟨p4, 0, none⟩))), (6, VP.of (y1.2.2)), (7, VP.tup [VP.of (y1.1), VP.of (y1.2.1), VP.of (y1.2.2)]), (8, VP.of (x0)), (9, VP.eq (.pointer (some ⟨p2, 0 + 0, none⟩))), (10, VP.of (x1.f_Entry)), (11, VP.tup [VP.of (y1.1), VP.of (y1.2.1), VP.of (y1.2.2)]), (12, VP.of (y1.1)), (13, VP.of (y1.2.1)), (14, VP.of (y1.2.2)), (15, VP.eq (.pointer (some ⟨p1, 0 + 2, none⟩))), (16, VP.of (x0.f_tries)), (17, VP.of (y1.1)), (18, VP.of (z1)), (19, VP.of (z1.isNone)), (23, VP.eq (.pointer (some ⟨p1, 0 + 1, none⟩))), (24, VP.of (x0.f_bits)), (25, VP.of (gS0_14.1.1))]) (fun gS0_14 => (⟨some p4, .var (y1.2.1 : T_api_Value)⟩ :: ⟨some p3, .var (y1.1 : Vector T_api_Value 4)⟩ :: ⟨some p2, .var (x1 : T_api_Installed)⟩ :: ⟨some p1, .var (x0 : T_index_prefixed)⟩ :: Ents gS0_14.1.2)) (fun gS0_14 => ?_) (fun S0_14 => ?_)
  ·refine AnyS.step [0, 2] (by kernel_rfl) rfl ⟨⟨_, rfl, ?_⟩, ⟨_, rfl, ?_⟩, trivial⟩
   ·refine Q1 (r_fa fd169_2) ?_
    refine Sq.nil ?_
    exact To.any rfl (AnyS.le (.same rfl (.same rfl (.same rfl (.same rfl (.same rfl (.same rfl (.same rfl (.same rfl (.same rfl (.same rfl (.same rfl (.same rfl (.same rfl (.same rfl (.same rfl (.same rfl (.same rfl (.same rfl (.same rfl (.same rfl (.same rfl (.same rfl (.same rfl (.same rfl .nil)))))))))))))))))))))))) (S0_18 gS0_14))
   ·refine Ql0 1 ty320 ?_
    refine Sq.nil ?_
    exact To.any rfl (AnyS.le (.same rfl (.same rfl (.same rfl (.same rfl (.same rfl (.same rfl (.same rfl (.same rfl (.same rfl (.same rfl (.same rfl (.same rfl (.same rfl (.same rfl (.same rfl (.same rfl (.same rfl (.same rfl (.same rfl (.same rfl (.same rfl (.same rfl (.same rfl (.same rfl .nil)))))))))))))))))))))))) (S0_19 gS0_14))
  refine AnyS.cut (γ := Unit) 4 (Array.mk (false :: false :: true :: true :: true :: false :: false :: [])) (fun gS0_13 => [(0, VP.of (x0)), (1, VP.of (x1)), (2, VP.eq (.pointer (some ⟨p1, 0, none⟩))), (3, VP.eq (.pointer (some ⟨p2, 0, none⟩))), (4, VP.eq (.pointer (some ⟨p3, 0, none⟩))), (5, VP.eq (.pointer (some ⟨p4, 0, none⟩))), (6, VP.of (y1.2.2)), (7, VP.tup [VP.of (y1.1), VP.of (y1.2.1), VP.of (y1.2.2)]), (8, VP.of (x0)), (9, VP.eq (.pointer (some ⟨p2, 0 + 0, none⟩))), (10, VP.of (x1.f_Entry)), (11, VP.tup [VP.of (y1.1), VP.of (y1.2.1), VP.of (y1.2.2)]), (12, VP.of (y1.1)), (13, VP.of (y1.2.1)), (14, VP.of (y1.2.2)), (15, VP.eq (.pointer (some ⟨p1, 0 + 2, none⟩))), (16, VP.of (x0.f_tries)), (17, VP.of (y1.1)), (18, VP.of (z1)), (19, VP.of (z1.isNone)), (22, VP.of (y1.1)), (23, VP.eq (.pointer (some ⟨p1, 0 + 1, none⟩))), (24, VP.of (x0.f_bits))]) (fun gS0_13 => (⟨some p4, .var (y1.2.1 : T_api_Value)⟩ :: ⟨some p3, .var (y1.1 : Vector T_api_Value 4)⟩ :: ⟨some p2, .var (x1 : T_api_Installed)⟩ :: ⟨some p1, .var (x0 : T_index_prefixed)⟩ :: Ents hp)) (fun gS0_13 => ?_) (fun S0_13 => ?_)
  ·refine AnyS.step [0, 5] (by kernel_rfl) rfl ⟨⟨_, rfl, ?_⟩, ⟨_, rfl, ?_⟩, trivial⟩
   ·refine Q1 (r_fa fd169_2) ?_
    refine Sq.nil ?_
    exact To.any rfl (AnyS.le (.same rfl (.same rfl (.same rfl (.same rfl (.same rfl (.same rfl (.same rfl (.same rfl (.same rfl (.same rfl (.same rfl (.same rfl (.same rfl (.same rfl (.same rfl (.same rfl (.same rfl (.same rfl (.same rfl (.same rfl (.same rfl (.same rfl (.same rfl (.same rfl .nil)))))))))))))))))))))))) (S0_17 ()))
   ·refine Sq.callP 4 0 rfl en243 (C_trie_New hKy3) rfl rfl ⟨look_t rfl, trivial⟩ rfl fun ⟨⟨y3, hvy3⟩, _⟩ => ?_
    refine Sq.eqL (L2 := (⟨some p4, .var (y1.2.1 : T_api_Value)⟩ :: ⟨some p3, .var (y1.1 : Vector T_api_Value 4)⟩ :: ⟨some p2, .var (x1 : T_api_Installed)⟩ :: ⟨some p1, .var (x0 : T_index_prefixed)⟩ :: Ents y3.2)) rfl ?_
    refine Sq.nil ?_
    exact To.any rfl (AnyS.le (.same rfl (.same rfl (.same rfl (.same rfl (.same rfl (.same rfl (.same rfl (.same rfl (.same rfl (.same rfl (.same rfl (.same rfl (.same rfl (.same rfl (.same rfl (.same rfl (.same rfl (.same rfl (.same rfl (.same rfl (.same rfl (.same rfl (.same rfl (.same rfl .nil)))))))))))))))))))))))) (S0_19 ⟨y3, hvy3⟩))
  refine AnyS.cut (γ := Unit) 4 (Array.mk (true :: false :: false :: true :: true :: false :: false :: [])) (fun gS0_12 => [(0, VP.of (x0)), (1, VP.of (x1)), (2, VP.eq (.pointer (some ⟨p1, 0, none⟩))), (3, VP.eq (.pointer (some ⟨p2, 0, none⟩))), (4, VP.eq (.pointer (some ⟨p3, 0, none⟩))), (5, VP.eq (.pointer (some ⟨p4, 0, none⟩))), (6, VP.of (y1.2.2)), (7, VP.tup [VP.of (y1.1), VP.of (y1.2.1), VP.of (y1.2.2)]), (8, VP.of (x0)), (9, VP.eq (.pointer (some ⟨p2, 0 + 0, none⟩))), (10, VP.of (x1.f_Entry)), (11, VP.tup [VP.of (y1.1), VP.of (y1.2.1), VP.of (y1.2.2)]), (12, VP.of (y1.1)), (13, VP.of (y1.2.1)), (14, VP.of (y1.2.2)), (15, VP.eq (.pointer (some ⟨p1, 0 + 2, none⟩))), (16, VP.of (x0.f_tries)), (17, VP.of (y1.1)), (18, VP.of (z1)), (19, VP.of (z1.isNone)), (20, VP.eq (.pointer (some ⟨p1, 0 + 2, none⟩))), (23, VP.eq (.pointer (some ⟨p1, 0 + 1, none⟩))), (24, VP.of (x0.f_bits))]) (fun gS0_12 => (⟨some p4, .var (y1.2.1 : T_api_Value)⟩ :: ⟨some p3, .var (y1.1 : Vector T_api_Value 4)⟩ :: ⟨some p2, .var (x1 : T_api_Installed)⟩ :: ⟨some p1, .var (x0 : T_index_prefixed)⟩ :: Ents hp)) (fun gS0_12 => ?_) (fun S0_12 => ?_)
  ·refine AnyS.step [1, 2, 5] (by kernel_rfl) rfl ⟨⟨_, rfl, ?_⟩, ⟨_, rfl, ?_⟩, ⟨_, rfl, ?_⟩, trivial⟩
   ·refine Qld 3 le_T_index_prefixed_tries ty167 ?_
    refine Sq.nil ?_
    exact To.any rfl (AnyS.le (.same rfl (.same rfl (.same rfl (.same rfl (.same rfl (.same rfl (.same rfl (.same rfl (.same rfl (.same rfl (.same rfl (.same rfl (.same rfl (.same rfl (.same rfl (.same rfl (.same rfl (.same rfl (.same rfl (.same rfl (.same rfl (.same rfl (.same rfl (.same rfl .nil)))))))))))))))))))))))) (S0_16 ()))
   ·refine Ql0 1 ty320 ?_
    refine Sq.nil ?_
    exact To.any rfl (AnyS.le (.same rfl (.same rfl (.same rfl (.same rfl (.same rfl (.same rfl (.same rfl (.same rfl (.same rfl (.same rfl (.same rfl (.same rfl (.same rfl (.same rfl (.same rfl (.same rfl (.same rfl (.same rfl (.same rfl (.same rfl (.same rfl (.same rfl (.same rfl (.same rfl .nil)))))))))))))))))))))))) (S0_17 ()))
   ·refine Sq.callP 4 0 rfl en243 (C_trie_New hKy3) rfl rfl ⟨look_t rfl, trivial⟩ rfl fun ⟨⟨y3, hvy3⟩, _⟩ => ?_
    refine Sq.eqL (L2 := (⟨some p4, .var (y1.2.1 : T_api_Value)⟩ :: ⟨some p3, .var (y1.1 : Vector T_api_Value 4)⟩ :: ⟨some p2, .var (x1 : T_api_Installed)⟩ :: ⟨some p1, .var (x0 : T_index_prefixed)⟩ :: Ents y3.2)) rfl ?_
    refine Sq.nil ?_
    exact To.any rfl (AnyS.le (.same rfl (.same rfl (.same rfl (.same rfl (.same rfl (.same rfl (.same rfl (.same rfl (.same rfl (.same rfl (.same rfl (.same rfl (.same rfl (.same rfl (.same rfl (.same rfl (.same rfl (.same rfl (.same rfl (.same rfl (.same rfl (.same rfl (.same rfl (.same rfl .nil)))))))))))))))))))))))) (S0_18 ⟨y3, hvy3⟩))
  refine AnyS.cut (γ := Unit) 4 (Array.mk (true :: false :: true :: true :: false :: false :: false :: [])) (fun gS0_11 => [(0, VP.of (x0)), (1, VP.of (x1)), (2, VP.eq (.pointer (some ⟨p1, 0, none⟩))), (3, VP.eq (.pointer (some ⟨p2, 0, none⟩))), (4, VP.eq (.pointer (some ⟨p3, 0, none⟩))), (5, VP.eq (.pointer (some ⟨p4, 0, none⟩))), (6, VP.of (y1.2.2)), (7, VP.tup [VP.of (y1.1), VP.of (y1.2.1), VP.of (y1.2.2)]), (8, VP.of (x0)), (9, VP.eq (.pointer (some ⟨p2, 0 + 0, none⟩))), (10, VP.of (x1.f_Entry)), (11, VP.tup [VP.of (y1.1), VP.of (y1.2.1), VP.of (y1.2.2)]), (12, VP.of (y1.1)), (13, VP.of (y1.2.1)), (14, VP.of (y1.2.2)), (15, VP.eq (.pointer (some ⟨p1, 0 + 2, none⟩))), (16, VP.of (x0.f_tries)), (17, VP.of (y1.1)), (18, VP.of (z1)), (19, VP.of (z1.isNone)), (20, VP.eq (.pointer (some ⟨p1, 0 + 2, none⟩))), (22, VP.of (y1.1)), (23, VP.eq (.pointer (some ⟨p1, 0 + 1, none⟩)))]) (fun gS0_11 => (⟨some p4, .var (y1.2.1 : T_api_Value)⟩ :: ⟨some p3, .var (y1.1 : Vector T_api_Value 4)⟩ :: ⟨some p2, .var (x1 : T_api_Installed)⟩ :: ⟨some p1, .var (x0 : T_index_prefixed)⟩ :: Ents hp)) (fun gS0_11 => ?_) (fun S0_11 => ?_)
  ·refine AnyS.step [1, 4] (by kernel_rfl) rfl ⟨⟨_, rfl, ?_⟩, ⟨_, rfl, ?_⟩, trivial⟩
   ·refine Qld 3 le_T_index_prefixed_tries ty167 ?_
    refine Sq.nil ?_
    exact To.any rfl (AnyS.le (.same rfl (.same rfl (.same rfl (.same rfl (.same rfl (.same rfl (.same rfl (.same rfl (.same rfl (.same rfl (.same rfl (.same rfl (.same rfl (.same rfl (.same rfl (.same rfl (.same rfl (.same rfl (.same rfl (.same rfl (.same rfl (.same rfl (.same rfl (.same rfl .nil)))))))))))))))))))))))) (S0_15 ()))
   ·refine Qld 3 le_T_index_prefixed_bits ty3 ?_
    refine Sq.nil ?_
    exact To.any rfl (AnyS.le (.same rfl (.same rfl (.same rfl (.same rfl (.same rfl (.same rfl (.same rfl (.same rfl (.same rfl (.same rfl (.same rfl (.same rfl (.same rfl (.same rfl (.same rfl (.same rfl (.same rfl (.same rfl (.same rfl (.same rfl (.same rfl (.same rfl (.same rfl (.same rfl .nil)))))))))))))))))))))))) (S0_17 ()))
  refine AnyS.cut (γ := Unit) 4 (Array.mk (true :: true :: false :: true :: false :: false :: false :: [])) (fun gS0_10 => [(0, VP.of (x0)), (1, VP.of (x1)), (2, VP.eq (.pointer (some ⟨p1, 0, none⟩))), (3, VP.eq (.pointer (some ⟨p2, 0, none⟩))), (4, VP.eq (.pointer (some ⟨p3, 0, none⟩))), (5, VP.eq (.pointer (some ⟨p4, 0, none⟩))), (6, VP.of (y1.2.2)), (7, VP.tup [VP.of (y1.1), VP.of (y1.2.1), VP.of (y1.2.2)]), (8, VP.of (x0)), (9, VP.eq (.pointer (some ⟨p2, 0 + 0, none⟩))), (10, VP.of (x1.f_Entry)), (11, VP.tup [VP.of (y1.1), VP.of (y1.2.1), VP.of (y1.2.2)]), (12, VP.of (y1.1)), (13, VP.of (y1.2.1)), (14, VP.of (y1.2.2)), (15, VP.eq (.pointer (some ⟨p1, 0 + 2, none⟩))), (16, VP.of (x0.f_tries)), (17, VP.of (y1.1)), (18, VP.of (z1)), (19, VP.of (z1.isNone)), (20, VP.eq (.pointer (some ⟨p1, 0 + 2, none⟩))), (21, VP.of (x0.f_tries)), (23, VP.eq (.pointer (some ⟨p1, 0 + 1, none⟩)))]) (fun gS0_10 => (⟨some p4, .var (y1.2.1 : T_api_Value)⟩ :: ⟨some p3, .var (y1.1 : Vector T_api_Value 4)⟩ :: ⟨some p2, .var (x1 : T_api_Installed)⟩ :: ⟨some p1, .var (x0 : T_index_prefixed)⟩ :: Ents hp)) (fun gS0_10 => ?_) (fun S0_10 => ?_)
  ·refine AnyS.step [2, 4] (by kernel_rfl) rfl ⟨⟨_, rfl, ?_⟩, ⟨_, rfl, ?_⟩, trivial⟩
   ·refine Ql0 1 ty320 ?_
    refine Sq.nil ?_
    exact To.any rfl (AnyS.le (.same rfl (.same rfl (.same rfl (.same rfl (.same rfl (.same rfl (.same rfl (.same rfl (.same rfl (.same rfl (.same rfl (.same rfl (.same rfl (.same rfl (.same rfl (.same rfl (.same rfl (.same rfl (.same rfl (.same rfl (.same rfl (.same rfl (.same rfl (.same rfl .nil)))))))))))))))))))))))) (S0_15 ()))
   ·refine Qld 3 le_T_index_prefixed_bits ty3 ?_
    refine Sq.nil ?_
    exact To.any rfl (AnyS.le (.same rfl (.same rfl (.same rfl (.same rfl (.same rfl (.same rfl (.same rfl (.same rfl (.same rfl (.same rfl (.same rfl (.same rfl (.same rfl (.same rfl (.same rfl (.same rfl (.same rfl (.same rfl (.same rfl (.same rfl (.same rfl (.same rfl (.same rfl (.same rfl .nil)))))))))))))))))))))))) (S0_16 ()))
  refine AnyS.cut (γ := Unit) 4 (Array.mk (true :: true :: true :: false :: false :: false :: false :: [])) (fun gS0_9 => [(0, VP.of (x0)), (1, VP.of (x1)), (2, VP.eq (.pointer (some ⟨p1, 0, none⟩))), (3, VP.eq (.pointer (some ⟨p2, 0, none⟩))), (4, VP.eq (.pointer (some ⟨p3, 0, none⟩))), (5, VP.eq (.pointer (some ⟨p4, 0, none⟩))), (6, VP.of (y1.2.2)), (7, VP.tup [VP.of (y1.1), VP.of (y1.2.1), VP.of (y1.2.2)]), (8, VP.of (x0)), (9, VP.eq (.pointer (some ⟨p2, 0 + 0, none⟩))), (10, VP.of (x1.f_Entry)), (11, VP.tup [VP.of (y1.1), VP.of (y1.2.1), VP.of (y1.2.2)]), (12, VP.of (y1.1)), (13, VP.of (y1.2.1)), (14, VP.of (y1.2.2)), (15, VP.eq (.pointer (some ⟨p1, 0 + 2, none⟩))), (16, VP.of (x0.f_tries)), (17, VP.of (y1.1)), (18, VP.of (z1)), (19, VP.of (z1.isNone)), (20, VP.eq (.pointer (some ⟨p1, 0 + 2, none⟩))), (21, VP.of (x0.f_tries)), (22, VP.of (y1.1))]) (fun gS0_9 => (⟨some p4, .var (y1.2.1 : T_api_Value)⟩ :: ⟨some p3, .var (y1.1 : Vector T_api_Value 4)⟩ :: ⟨some p2, .var (x1 : T_api_Installed)⟩ :: ⟨some p1, .var (x0 : T_index_prefixed)⟩ :: Ents hp)) (fun gS0_9 => ?_) (fun S0_9 => ?_)
  ·refine AnyS.step [3] (by kernel_rfl) rfl ⟨⟨_, rfl, ?_⟩, trivial⟩
   ·refine Q1 (r_fa fd169_1) ?_
    refine Sq.nil ?_
    exact To.any rfl (AnyS.le (.same rfl (.same rfl (.same rfl (.same rfl (.same rfl (.same rfl (.same rfl (.same rfl (.same rfl (.same rfl (.same rfl (.same rfl (.same rfl (.same rfl (.same rfl (.same rfl (.same rfl (.same rfl (.same rfl (.same rfl (.same rfl (.same rfl (.same rfl (.same rfl .nil)))))))))))))))))))))))) (S0_15 ()))
  refine AnyS.cut (γ := Unit) 5 (Array.mk (false :: false :: false :: true :: true :: false :: false :: [])) (fun gS0_8 => [(0, VP.of (x0)), (1, VP.of (x1)), (2, VP.eq (.pointer (some ⟨p1, 0, none⟩))), (3, VP.eq (.pointer (some ⟨p2, 0, none⟩))), (4, VP.eq (.pointer (some ⟨p3, 0, none⟩))), (5, VP.eq (.pointer (some ⟨p4, 0, none⟩))), (6, VP.of (y1.2.2)), (7, VP.tup [VP.of (y1.1), VP.of (y1.2.1), VP.of (y1.2.2)]), (8, VP.of (x0)), (9, VP.eq (.pointer (some ⟨p2, 0 + 0, none⟩))), (10, VP.of (x1.f_Entry)), (11, VP.tup [VP.of (y1.1), VP.of (y1.2.1), VP.of (y1.2.2)]), (12, VP.of (y1.1)), (13, VP.of (y1.2.1)), (14, VP.of (y1.2.2)), (15, VP.eq (.pointer (some ⟨p1, 0 + 2, none⟩))), (16, VP.of (x0.f_tries)), (17, VP.of (y1.1)), (18, VP.of (z1)), (19, VP.of (z1.isNone)), (23, VP.eq (.pointer (some ⟨p1, 0 + 1, none⟩))), (24, VP.of (x0.f_bits))]) (fun gS0_8 => (⟨some p4, .var (y1.2.1 : T_api_Value)⟩ :: ⟨some p3, .var (y1.1 : Vector T_api_Value 4)⟩ :: ⟨some p2, .var (x1 : T_api_Installed)⟩ :: ⟨some p1, .var (x0 : T_index_prefixed)⟩ :: Ents hp)) (fun gS0_8 => ?_) (fun S0_8 => ?_)
  ·refine AnyS.step [0, 2, 5] (by kernel_rfl) rfl ⟨⟨_, rfl, ?_⟩, ⟨_, rfl, ?_⟩, ⟨_, rfl, ?_⟩, trivial⟩
   ·refine Q1 (r_fa fd169_2) ?_
    refine Sq.nil ?_
    exact To.any rfl (AnyS.le (.same rfl (.same rfl (.same rfl (.same rfl (.same rfl (.same rfl (.same rfl (.same rfl (.same rfl (.same rfl (.same rfl (.same rfl (.same rfl (.same rfl (.same rfl (.same rfl (.same rfl (.same rfl (.same rfl (.same rfl (.same rfl (.same rfl (.same rfl .nil))))))))))))))))))))))) (S0_12 ()))
   ·refine Ql0 1 ty320 ?_
    refine Sq.nil ?_
    exact To.any rfl (AnyS.le (.same rfl (.same rfl (.same rfl (.same rfl (.same rfl (.same rfl (.same rfl (.same rfl (.same rfl (.same rfl (.same rfl (.same rfl (.same rfl (.same rfl (.same rfl (.same rfl (.same rfl (.same rfl (.same rfl (.same rfl (.same rfl (.same rfl (.same rfl .nil))))))))))))))))))))))) (S0_13 ()))
   ·refine Sq.callP 4 0 rfl en243 (C_trie_New hKy3) rfl rfl ⟨look_t rfl, trivial⟩ rfl fun ⟨⟨y3, hvy3⟩, _⟩ => ?_
    refine Sq.eqL (L2 := (⟨some p4, .var (y1.2.1 : T_api_Value)⟩ :: ⟨some p3, .var (y1.1 : Vector T_api_Value 4)⟩ :: ⟨some p2, .var (x1 : T_api_Installed)⟩ :: ⟨some p1, .var (x0 : T_index_prefixed)⟩ :: Ents y3.2)) rfl ?_
    refine Sq.nil ?_
    exact To.any rfl (AnyS.le (.same rfl (.same rfl (.same rfl (.same rfl (.same rfl (.same rfl (.same rfl (.same rfl (.same rfl (.same rfl (.same rfl (.same rfl (.same rfl (.same rfl (.same rfl (.same rfl (.same rfl (.same rfl (.same rfl (.same rfl (.same rfl (.same rfl (.same rfl .nil))))))))))))))))))))))) (S0_14 ⟨y3, hvy3⟩))
  refine AnyS.cut (γ := Unit) 5 (Array.mk (false :: false :: true :: true :: false :: false :: false :: [])) (fun gS0_7 => [(0, VP.of (x0)), (1, VP.of (x1)), (2, VP.eq (.pointer (some ⟨p1, 0, none⟩))), (3, VP.eq (.pointer (some ⟨p2, 0, none⟩))), (4, VP.eq (.pointer (some ⟨p3, 0, none⟩))), (5, VP.eq (.pointer (some ⟨p4, 0, none⟩))), (6, VP.of (y1.2.2)), (7, VP.tup [VP.of (y1.1), VP.of (y1.2.1), VP.of (y1.2.2)]), (8, VP.of (x0)), (9, VP.eq (.pointer (some ⟨p2, 0 + 0, none⟩))), (10, VP.of (x1.f_Entry)), (11, VP.tup [VP.of (y1.1), VP.of (y1.2.1), VP.of (y1.2.2)]), (12, VP.of (y1.1)), (13, VP.of (y1.2.1)), (14, VP.of (y1.2.2)), (15, VP.eq (.pointer (some ⟨p1, 0 + 2, none⟩))), (16, VP.of (x0.f_tries)), (17, VP.of (y1.1)), (18, VP.of (z1)), (19, VP.of (z1.isNone)), (22, VP.of (y1.1)), (23, VP.eq (.pointer (some ⟨p1, 0 + 1, none⟩)))]) (fun gS0_7 => (⟨some p4, .var (y1.2.1 : T_api_Value)⟩ :: ⟨some p3, .var (y1.1 : Vector T_api_Value 4)⟩ :: ⟨some p2, .var (x1 : T_api_Installed)⟩ :: ⟨some p1, .var (x0 : T_index_prefixed)⟩ :: Ents hp)) (fun gS0_7 => ?_) (fun S0_7 => ?_)
  ·refine AnyS.step [0, 4] (by kernel_rfl) rfl ⟨⟨_, rfl, ?_⟩, ⟨_, rfl, ?_⟩, trivial⟩
   ·refine Q1 (r_fa fd169_2) ?_
    refine Sq.nil ?_
    exact To.any rfl (AnyS.le (.same rfl (.same rfl (.same rfl (.same rfl (.same rfl (.same rfl (.same rfl (.same rfl (.same rfl (.same rfl (.same rfl (.same rfl (.same rfl (.same rfl (.same rfl (.same rfl (.same rfl (.same rfl (.same rfl (.same rfl (.same rfl (.same rfl (.same rfl .nil))))))))))))))))))))))) (S0_11 ()))
   ·refine Qld 3 le_T_index_prefixed_bits ty3 ?_
    refine Sq.nil ?_
    exact To.any rfl (AnyS.le (.same rfl (.same rfl (.same rfl (.same rfl (.same rfl (.same rfl (.same rfl (.same rfl (.same rfl (.same rfl (.same rfl (.same rfl (.same rfl (.same rfl (.same rfl (.same rfl (.same rfl (.same rfl (.same rfl (.same rfl (.same rfl (.same rfl (.same rfl .nil))))))))))))))))))))))) (S0_13 ()))
  refine AnyS.cut (γ := Unit) 5 (Array.mk (true :: false :: false :: true :: false :: false :: false :: [])) (fun gS0_6 => [(0, VP.of (x0)), (1, VP.of (x1)), (2, VP.eq (.pointer (some ⟨p1, 0, none⟩))), (3, VP.eq (.pointer (some ⟨p2, 0, none⟩))), (4, VP.eq (.pointer (some ⟨p3, 0, none⟩))), (5, VP.eq (.pointer (some ⟨p4, 0, none⟩))), (6, VP.of (y1.2.2)), (7, VP.tup [VP.of (y1.1), VP.of (y1.2.1), VP.of (y1.2.2)]), (8, VP.of (x0)), (9, VP.eq (.pointer (some ⟨p2, 0 + 0, none⟩))), (10, VP.of (x1.f_Entry)), (11, VP.tup [VP.of (y1.1), VP.of (y1.2.1), VP.of (y1.2.2)]), (12, VP.of (y1.1)), (13, VP.of (y1.2.1)), (14, VP.of (y1.2.2)), (15, VP.eq (.pointer (some ⟨p1, 0 + 2, none⟩))), (16, VP.of (x0.f_tries)), (17, VP.of (y1.1)), (18, VP.of (z1)), (19, VP.of (z1.isNone)), (20, VP.eq (.pointer (some ⟨p1, 0 + 2, none⟩))), (23, VP.eq (.pointer (some ⟨p1, 0 + 1, none⟩)))]) (fun gS0_6 => (⟨some p4, .var (y1.2.1 : T_api_Value)⟩ :: ⟨some p3, .var (y1.1 : Vector T_api_Value 4)⟩ :: ⟨some p2, .var (x1 : T_api_Installed)⟩ :: ⟨some p1, .var (x0 : T_index_prefixed)⟩ :: Ents hp)) (fun gS0_6 => ?_) (fun S0_6 => ?_)
  ·refine AnyS.step [1, 2, 4] (by kernel_rfl) rfl ⟨⟨_, rfl, ?_⟩, ⟨_, rfl, ?_⟩, ⟨_, rfl, ?_⟩, trivial⟩
   ·refine Qld 3 le_T_index_prefixed_tries ty167 ?_
    refine Sq.nil ?_
    exact To.any rfl (AnyS.le (.same rfl (.same rfl (.same rfl (.same rfl (.same rfl (.same rfl (.same rfl (.same rfl (.same rfl (.same rfl (.same rfl (.same rfl (.same rfl (.same rfl (.same rfl (.same rfl (.same rfl (.same rfl (.same rfl (.same rfl (.same rfl (.same rfl (.same rfl .nil))))))))))))))))))))))) (S0_10 ()))
   ·refine Ql0 1 ty320 ?_
    refine Sq.nil ?_
    exact To.any rfl (AnyS.le (.same rfl (.same rfl (.same rfl (.same rfl (.same rfl (.same rfl (.same rfl (.same rfl (.same rfl (.same rfl (.same rfl (.same rfl (.same rfl (.same rfl (.same rfl (.same rfl (.same rfl (.same rfl (.same rfl (.same rfl (.same rfl (.same rfl (.same rfl .nil))))))))))))))))))))))) (S0_11 ()))
   ·refine Qld 3 le_T_index_prefixed_bits ty3 ?_
    refine Sq.nil ?_
    exact To.any rfl (AnyS.le (.same rfl (.same rfl (.same rfl (.same rfl (.same rfl (.same rfl (.same rfl (.same rfl (.same rfl (.same rfl (.same rfl (.same rfl (.same rfl (.same rfl (.same rfl (.same rfl (.same rfl (.same rfl (.same rfl (.same rfl (.same rfl (.same rfl (.same rfl .nil))))))))))))))))))))))) (S0_12 ()))
  refine AnyS.cut (γ := Unit) 5 (Array.mk (true :: false :: true :: false :: false :: false :: false :: [])) (fun gS0_5 => [(0, VP.of (x0)), (1, VP.of (x1)), (2, VP.eq (.pointer (some ⟨p1, 0, none⟩))), (3, VP.eq (.pointer (some ⟨p2, 0, none⟩))), (4, VP.eq (.pointer (some ⟨p3, 0, none⟩))), (5, VP.eq (.pointer (some ⟨p4, 0, none⟩))), (6, VP.of (y1.2.2)), (7, VP.tup [VP.of (y1.1), VP.of (y1.2.1), VP.of (y1.2.2)]), (8, VP.of (x0)), (9, VP.eq (.pointer (some ⟨p2, 0 + 0, none⟩))), (10, VP.of (x1.f_Entry)), (11, VP.tup [VP.of (y1.1), VP.of (y1.2.1), VP.of (y1.2.2)]), (12, VP.of (y1.1)), (13, VP.of (y1.2.1)), (14, VP.of (y1.2.2)), (15, VP.eq (.pointer (some ⟨p1, 0 + 2, none⟩))), (16, VP.of (x0.f_tries)), (17, VP.of (y1.1)), (18, VP.of (z1)), (19, VP.of (z1.isNone)), (20, VP.eq (.pointer (some ⟨p1, 0 + 2, none⟩))), (22, VP.of (y1.1))]) (fun gS0_5 => (⟨some p4, .var (y1.2.1 : T_api_Value)⟩ :: ⟨some p3, .var (y1.1 : Vector T_api_Value 4)⟩ :: ⟨some p2, .var (x1 : T_api_Installed)⟩ :: ⟨some p1, .var (x0 : T_index_prefixed)⟩ :: Ents hp)) (fun gS0_5 => ?_) (fun S0_5 => ?_)
  ·refine AnyS.step [1, 3] (by kernel_rfl) rfl ⟨⟨_, rfl, ?_⟩, ⟨_, rfl, ?_⟩, trivial⟩
   ·refine Qld 3 le_T_index_prefixed_tries ty167 ?_
    refine Sq.nil ?_
    exact To.any rfl (AnyS.le (.same rfl (.same rfl (.same rfl (.same rfl (.same rfl (.same rfl (.same rfl (.same rfl (.same rfl (.same rfl (.same rfl (.same rfl (.same rfl (.same rfl (.same rfl (.same rfl (.same rfl (.same rfl (.same rfl (.same rfl (.same rfl (.same rfl (.same rfl .nil))))))))))))))))))))))) (S0_9 ()))
   ·refine Q1 (r_fa fd169_1) ?_
    refine Sq.nil ?_
    exact To.any rfl (AnyS.le (.same rfl (.same rfl (.same rfl (.same rfl (.same rfl (.same rfl (.same rfl (.same rfl (.same rfl (.same rfl (.same rfl (.same rfl (.same rfl (.same rfl (.same rfl (.same rfl (.same rfl (.same rfl (.same rfl (.same rfl (.same rfl (.same rfl (.same rfl .nil))))))))))))))))))))))) (S0_11 ()))
  refine AnyS.cut (γ := Unit) 5 (Array.mk (true :: true :: false :: false :: false :: false :: false :: [])) (fun gS0_4 => [(0, VP.of (x0)), (1, VP.of (x1)), (2, VP.eq (.pointer (some ⟨p1, 0, none⟩))), (3, VP.eq (.pointer (some ⟨p2, 0, none⟩))), (4, VP.eq (.pointer (some ⟨p3, 0, none⟩))), (5, VP.eq (.pointer (some ⟨p4, 0, none⟩))), (6, VP.of (y1.2.2)), (7, VP.tup [VP.of (y1.1), VP.of (y1.2.1), VP.of (y1.2.2)]), (8, VP.of (x0)), (9, VP.eq (.pointer (some ⟨p2, 0 + 0, none⟩))), (10, VP.of (x1.f_Entry)), (11, VP.tup [VP.of (y1.1), VP.of (y1.2.1), VP.of (y1.2.2)]), (12, VP.of (y1.1)), (13, VP.of (y1.2.1)), (14, VP.of (y1.2.2)), (15, VP.eq (.pointer (some ⟨p1, 0 + 2, none⟩))), (16, VP.of (x0.f_tries)), (17, VP.of (y1.1)), (18, VP.of (z1)), (19, VP.of (z1.isNone)), (20, VP.eq (.pointer (some ⟨p1, 0 + 2, none⟩))), (21, VP.of (x0.f_tries))]) (fun gS0_4 => (⟨some p4, .var (y1.2.1 : T_api_Value)⟩ :: ⟨some p3, .var (y1.1 : Vector T_api_Value 4)⟩ :: ⟨some p2, .var (x1 : T_api_Installed)⟩ :: ⟨some p1, .var (x0 : T_index_prefixed)⟩ :: Ents hp)) (fun gS0_4 => ?_) (fun S0_4 => ?_)
  ·refine AnyS.step [2, 3] (by kernel_rfl) rfl ⟨⟨_, rfl, ?_⟩, ⟨_, rfl, ?_⟩, trivial⟩
   ·refine Ql0 1 ty320 ?_
    refine Sq.nil ?_
    exact To.any rfl (AnyS.le (.same rfl (.same rfl (.same rfl (.same rfl (.same rfl (.same rfl (.same rfl (.same rfl (.same rfl (.same rfl (.same rfl (.same rfl (.same rfl (.same rfl (.same rfl (.same rfl (.same rfl (.same rfl (.same rfl (.same rfl (.same rfl (.same rfl (.same rfl .nil))))))))))))))))))))))) (S0_9 ()))
   ·refine Q1 (r_fa fd169_1) ?_
    refine Sq.nil ?_
    exact To.any rfl (AnyS.le (.same rfl (.same rfl (.same rfl (.same rfl (.same rfl (.same rfl (.same rfl (.same rfl (.same rfl (.same rfl (.same rfl (.same rfl (.same rfl (.same rfl (.same rfl (.same rfl (.same rfl (.same rfl (.same rfl (.same rfl (.same rfl (.same rfl (.same rfl .nil))))))))))))))))))))))) (S0_10 ()))
  refine AnyS.cut (γ := Unit) 6 (Array.mk (false :: false :: false :: true :: false :: false :: false :: [])) (fun gS0_3 => [(0, VP.of (x0)), (1, VP.of (x1)), (2, VP.eq (.pointer (some ⟨p1, 0, none⟩))), (3, VP.eq (.pointer (some ⟨p2, 0, none⟩))), (4, VP.eq (.pointer (some ⟨p3, 0, none⟩))), (5, VP.eq (.pointer (some ⟨p4, 0, none⟩))), (6, VP.of (y1.2.2)), (7, VP.tup [VP.of (y1.1), VP.of (y1.2.1), VP.of (y1.2.2)]), (8, VP.of (x0)), (9, VP.eq (.pointer (some ⟨p2, 0 + 0, none⟩))), (10, VP.of (x1.f_Entry)), (11, VP.tup [VP.of (y1.1), VP.of (y1.2.1), VP.of (y1.2.2)]), (12, VP.of (y1.1)), (13, VP.of (y1.2.1)), (14, VP.of (y1.2.2)), (15, VP.eq (.pointer (some ⟨p1, 0 + 2, none⟩))), (16, VP.of (x0.f_tries)), (17, VP.of (y1.1)), (18, VP.of (z1)), (19, VP.of (z1.isNone)), (23, VP.eq (.pointer (some ⟨p1, 0 + 1, none⟩)))]) (fun gS0_3 => (⟨some p4, .var (y1.2.1 : T_api_Value)⟩ :: ⟨some p3, .var (y1.1 : Vector T_api_Value 4)⟩ :: ⟨some p2, .var (x1 : T_api_Installed)⟩ :: ⟨some p1, .var (x0 : T_index_prefixed)⟩ :: Ents hp)) (fun gS0_3 => ?_) (fun S0_3 => ?_)
  ·refine AnyS.step [0, 2, 4] (by kernel_rfl) rfl ⟨⟨_, rfl, ?_⟩, ⟨_, rfl, ?_⟩, ⟨_, rfl, ?_⟩, trivial⟩
   ·refine Q1 (r_fa fd169_2) ?_
    refine Sq.nil ?_
    exact To.any rfl (AnyS.le (.same rfl (.same rfl (.same rfl (.same rfl (.same rfl (.same rfl (.same rfl (.same rfl (.same rfl (.same rfl (.same rfl (.same rfl (.same rfl (.same rfl (.same rfl (.same rfl (.same rfl (.same rfl (.same rfl (.same rfl (.same rfl (.same rfl .nil)))))))))))))))))))))) (S0_6 ()))
   ·refine Ql0 1 ty320 ?_
    refine Sq.nil ?_
    exact To.any rfl (AnyS.le (.same rfl (.same rfl (.same rfl (.same rfl (.same rfl (.same rfl (.same rfl (.same rfl (.same rfl (.same rfl (.same rfl (.same rfl (.same rfl (.same rfl (.same rfl (.same rfl (.same rfl (.same rfl (.same rfl (.same rfl (.same rfl (.same rfl .nil)))))))))))))))))))))) (S0_7 ()))
   ·refine Qld 3 le_T_index_prefixed_bits ty3 ?_
    refine Sq.nil ?_
    exact To.any rfl (AnyS.le (.same rfl (.same rfl (.same rfl (.same rfl (.same rfl (.same rfl (.same rfl (.same rfl (.same rfl (.same rfl (.same rfl (.same rfl (.same rfl (.same rfl (.same rfl (.same rfl (.same rfl (.same rfl (.same rfl (.same rfl (.same rfl (.same rfl .nil)))))))))))))))))))))) (S0_8 ()))
  refine AnyS.cut (γ := Unit) 6 (Array.mk (false :: false :: true :: false :: false :: false :: false :: [])) (fun gS0_2 => [(0, VP.of (x0)), (1, VP.of (x1)), (2, VP.eq (.pointer (some ⟨p1, 0, none⟩))), (3, VP.eq (.pointer (some ⟨p2, 0, none⟩))), (4, VP.eq (.pointer (some ⟨p3, 0, none⟩))), (5, VP.eq (.pointer (some ⟨p4, 0, none⟩))), (6, VP.of (y1.2.2)), (7, VP.tup [VP.of (y1.1), VP.of (y1.2.1), VP.of (y1.2.2)]), (8, VP.of (x0)), (9, VP.eq (.pointer (some ⟨p2, 0 + 0, none⟩))), (10, VP.of (x1.f_Entry)), (11, VP.tup [VP.of (y1.1), VP.of (y1.2.1), VP.of (y1.2.2)]), (12, VP.of (y1.1)), (13, VP.of (y1.2.1)), (14, VP.of (y1.2.2)), (15, VP.eq (.pointer (some ⟨p1, 0 + 2, none⟩))), (16, VP.of (x0.f_tries)), (17, VP.of (y1.1)), (18, VP.of (z1)), (19, VP.of (z1.isNone)), (22, VP.of (y1.1))]) (fun gS0_2 => (⟨some p4, .var (y1.2.1 : T_api_Value)⟩ :: ⟨some p3, .var (y1.1 : Vector T_api_Value 4)⟩ :: ⟨some p2, .var (x1 : T_api_Installed)⟩ :: ⟨some p1, .var (x0 : T_index_prefixed)⟩ :: Ents hp)) (fun gS0_2 => ?_) (fun S0_2 => ?_)
  ·refine AnyS.step [0, 3] (by kernel_rfl) rfl ⟨⟨_, rfl, ?_⟩, ⟨_, rfl, ?_⟩, trivial⟩
   ·refine Q1 (r_fa fd169_2) ?_
    refine Sq.nil ?_
    exact To.any rfl (AnyS.le (.same rfl (.same rfl (.same rfl (.same rfl (.same rfl (.same rfl (.same rfl (.same rfl (.same rfl (.same rfl (.same rfl (.same rfl (.same rfl (.same rfl (.same rfl (.same rfl (.same rfl (.same rfl (.same rfl (.same rfl (.same rfl (.same rfl .nil)))))))))))))))))))))) (S0_5 ()))
   ·refine Q1 (r_fa fd169_1) ?_
    refine Sq.nil ?_
    exact To.any rfl (AnyS.le (.same rfl (.same rfl (.same rfl (.same rfl (.same rfl (.same rfl (.same rfl (.same rfl (.same rfl (.same rfl (.same rfl (.same rfl (.same rfl (.same rfl (.same rfl (.same rfl (.same rfl (.same rfl (.same rfl (.same rfl (.same rfl (.same rfl .nil)))))))))))))))))))))) (S0_7 ()))
  refine AnyS.cut (γ := Unit) 6 (Array.mk (true :: false :: false :: false :: false :: false :: false :: [])) (fun gS0_1 => [(0, VP.of (x0)), (1, VP.of (x1)), (2, VP.eq (.pointer (some ⟨p1, 0, none⟩))), (3, VP.eq (.pointer (some ⟨p2, 0, none⟩))), (4, VP.eq (.pointer (some ⟨p3, 0, none⟩))), (5, VP.eq (.pointer (some ⟨p4, 0, none⟩))), (6, VP.of (y1.2.2)), (7, VP.tup [VP.of (y1.1), VP.of (y1.2.1), VP.of (y1.2.2)]), (8, VP.of (x0)), (9, VP.eq (.pointer (some ⟨p2, 0 + 0, none⟩))), (10, VP.of (x1.f_Entry)), (11, VP.tup [VP.of (y1.1), VP.of (y1.2.1), VP.of (y1.2.2)]), (12, VP.of (y1.1)), (13, VP.of (y1.2.1)), (14, VP.of (y1.2.2)), (15, VP.eq (.pointer (some ⟨p1, 0 + 2, none⟩))), (16, VP.of (x0.f_tries)), (17, VP.of (y1.1)), (18, VP.of (z1)), (19, VP.of (z1.isNone)), (20, VP.eq (.pointer (some ⟨p1, 0 + 2, none⟩)))]) (fun gS0_1 => (⟨some p4, .var (y1.2.1 : T_api_Value)⟩ :: ⟨some p3, .var (y1.1 : Vector T_api_Value 4)⟩ :: ⟨some p2, .var (x1 : T_api_Installed)⟩ :: ⟨some p1, .var (x0 : T_index_prefixed)⟩ :: Ents hp)) (fun gS0_1 => ?_) (fun S0_1 => ?_)
  ·refine AnyS.step [1, 2, 3] (by kernel_rfl) rfl ⟨⟨_, rfl, ?_⟩, ⟨_, rfl, ?_⟩, ⟨_, rfl, ?_⟩, trivial⟩
   ·refine Qld 3 le_T_index_prefixed_tries ty167 ?_
    refine Sq.nil ?_
    exact To.any rfl (AnyS.le (.same rfl (.same rfl (.same rfl (.same rfl (.same rfl (.same rfl (.same rfl (.same rfl (.same rfl (.same rfl (.same rfl (.same rfl (.same rfl (.same rfl (.same rfl (.same rfl (.same rfl (.same rfl (.same rfl (.same rfl (.same rfl (.same rfl .nil)))))))))))))))))))))) (S0_4 ()))
   ·refine Ql0 1 ty320 ?_
    refine Sq.nil ?_
    exact To.any rfl (AnyS.le (.same rfl (.same rfl (.same rfl (.same rfl (.same rfl (.same rfl (.same rfl (.same rfl (.same rfl (.same rfl (.same rfl (.same rfl (.same rfl (.same rfl (.same rfl (.same rfl (.same rfl (.same rfl (.same rfl (.same rfl (.same rfl (.same rfl .nil)))))))))))))))))))))) (S0_5 ()))
   ·refine Q1 (r_fa fd169_1) ?_
    refine Sq.nil ?_
    exact To.any rfl (AnyS.le (.same rfl (.same rfl (.same rfl (.same rfl (.same rfl (.same rfl (.same rfl (.same rfl (.same rfl (.same rfl (.same rfl (.same rfl (.same rfl (.same rfl (.same rfl (.same rfl (.same rfl (.same rfl (.same rfl (.same rfl (.same rfl (.same rfl .nil)))))))))))))))))))))) (S0_6 ()))
  refine AnyS.step [0, 2, 3] (by kernel_rfl) rfl ⟨⟨_, rfl, ?_⟩, ⟨_, rfl, ?_⟩, ⟨_, rfl, ?_⟩, trivial⟩
  ·refine Q1 (r_fa fd169_2) ?_
   refine Sq.nil ?_
   exact To.any rfl (AnyS.le (.same rfl (.same rfl (.same rfl (.same rfl (.same rfl (.same rfl (.same rfl (.same rfl (.same rfl (.same rfl (.same rfl (.same rfl (.same rfl (.same rfl (.same rfl (.same rfl (.same rfl (.same rfl (.same rfl (.same rfl (.same rfl .nil))))))))))))))))))))) (S0_1 ()))
  ·refine Ql0 1 ty320 ?_
   refine Sq.nil ?_
   exact To.any rfl (AnyS.le (.same rfl (.same rfl (.same rfl (.same rfl (.same rfl (.same rfl (.same rfl (.same rfl (.same rfl (.same rfl (.same rfl (.same rfl (.same rfl (.same rfl (.same rfl (.same rfl (.same rfl (.same rfl (.same rfl (.same rfl (.same rfl .nil))))))))))))))))))))) (S0_2 ()))
  ·refine Q1 (r_fa fd169_1) ?_
   refine Sq.nil ?_
   exact To.any rfl (AnyS.le (.same rfl (.same rfl (.same rfl (.same rfl (.same rfl (.same rfl (.same rfl (.same rfl (.same rfl (.same rfl (.same rfl (.same rfl (.same rfl (.same rfl (.same rfl (.same rfl (.same rfl (.same rfl (.same rfl (.same rfl (.same rfl .nil))))))))))))))))))))) (S0_3 ()))
 ·refine Wp.skip ?_
  exact Qmt 0 (hm hp () h)
end Go.Proofs.YtmnggbjcnoffeaaGreat

namespace Go.Proofs.YtmnggbjcnoffeaaGreat
open Go Gv
set_option linter.unusedVariables false
set_option linter.unusedSimpArgs false
set_option maxRecDepth 100000
set_option maxHeartbeats 2000000
theorem CI_index_finder_put {hp : Pool Cell} {y : T_index_finder} {x0 : T_api_Installed} {Q : (Pool Cell) → Prop} (h : LI_index_finder_put hp y x0 Q) : MeetsV Tryz.prog "matchguard/index.put" (VP.of y) [VP.of (x0)] ([] ++ Ents hp) (δ := {r : (Pool Cell) // Q r} × Unit) (fun d => VP.tup []) (fun d => [] ++ Ents d.1.1) := by
  cases y with
  | nil => exact h.elim
  | c166 z =>
    obtain ⟨r, h1, h2⟩ := h
    exact MeetsV.of mt166_229 (fun A W u hu => fi132_166 hu) (MeetsO.map (fun d => (⟨r, h2⟩, d)) (fun _ => rfl) (fun _ => rfl) (C_index_hashed_put h1))
  | c169 z => exact MeetsV.of mt169_237 (fun A W u hu => fi132_169 hu) (C_index_prefixed_put h)
  | c173 z => exact MeetsV.of mt173_262 (fun A W u hu => fi132_173 hu) (C_index_sorted_put h)
theorem C_index_Index_Remove {hp : Pool Cell} {x0 : Ref} {x1 : T_api_Entry}  {Q : T_api_Installed × Bool × (Pool Cell) → Prop} (h : L_index_Index_Remove hp x0 x1 Q) : MeetsO Tryz.prog 41 [VP.of (x0), VP.of (x1)] ([] ++ Ents hp) (δ := {r : T_api_Installed × Bool × (Pool Cell) // Q r} × Unit) (fun d => VP.tup [VP.of (d.1.1.1), VP.of (d.1.1.2.1)]) (fun d => [] ++ Ents d.1.1.2.2) := by
 unfold L_index_Index_Remove at h
 refine MeetsO.of Tryz.func41 rfl Tryz.ntmps41 rfl fun W A => ?_
 refine Qsr ?_
 refine Qbx fun p1 => ?_
 refine Qal zr52 fun p2 => ?_
 refine Qa ?_
 refine Qnr ?_
 refine Qm ?_
 refine Ql0 1 ty50 ?_
 obtain ⟨y1, hy1, h⟩ := Wm.of_bind h
 refine Sq.vS (HS.callQ 2 rfl en40 (C_index_Index_Find hy1) ⟨look_t rfl, look_t rfl, trivial⟩) rfl rfl rfl ?_
 refine Qm ?_
 refine Qxt ?_
 refine Qxt ?_
 refine Qal zr52 fun p3 => ?_
 refine Qs0 0 ty52 ?_
 refine Qa ?_
 refine Qns ?_
 refine Qsr ?_
 refine Qm ?_
 refine Qnx ?_
 refine Wp.condWh (γ := Unit) h (fun m1 g1 => [(0, VP.of (x0)), (1, VP.of (x1)), (3, VP.eq (.pointer (some ⟨p1, 0, none⟩))), (4, VP.eq (.pointer (some ⟨p2, 0, none⟩))), (5, VP.of (false)), (6, VP.eq (.pointer (some ⟨p3, 0, none⟩))), (7, VP.of (y1.2)), (14, VP.of (y1.2))]) (fun m1 g1 => (⟨some p3, .var (y1.1 : T_api_Installed)⟩ :: ⟨some p2, .var ((default : T_api_Installed) : T_api_Installed)⟩ :: ⟨some p1, .var (x1 : T_api_Entry)⟩ :: Ents m1)) (look_t rfl) (fun m1 g1 h => ?_) (fun hm hc h => ?_) (fun hm hc h => ?_)
 ·refine To.next ?_
  refine Qsr ?_
  refine Ql0 0 ty52 ?_
  refine Qm ?_
  refine Qs0 1 ty52 ?_
  refine Qa ?_
  refine Qnx ?_
  refine Wp.ret ?_
  exact To.endO2 (⟨⟨(y1.1, y1.2, m1), h⟩, ()⟩ : {r // _} × _) (.cons _ (.cons _ (.cons _ (.refl _)))) rfl rfl (rvo_c (i := 1) ty52 rfl rfl) (rvo_t rfl)
 ·refine Wp.seq ?_
  obtain ⟨o1, ho1, h⟩ := Wm.of_bind h
  obtain ⟨c1, hc1, h⟩ := Wm.of_bind h
  refine Wp.draw mixed 5 [some 15, some 16, some 17, some 18, some 19] [[], [0], [1], [2], []] [.val _, .val _, .val _, .val _, .val _] [false, false, false, false, false] (by kernel_rfl) rfl rfl rfl (fun ps1 => ⟨Hm, Hv fun L' hL => r_nck (look_ref (look_t rfl) ho1), H1 (r_fa fd135_2), Hv fun L' hL => r_loadM ((Lens.id T_index_Index).comp le_T_index_Index_finder) (r := c1.f_finder) ty132 (look_t rfl) (dmem (fun i e q => hL i e q rfl) (pmem (n := 3) rfl (rds135 hc1) rfl)) rfl rfl, Hl0 0 ty52, trivial⟩) fun ps1 => ?_
  refine Sq.invP 3 0 rfl (CI_index_finder_remove h) rfl rfl ⟨look_t rfl, look_t rfl, trivial⟩ rfl fun ⟨⟨y2, h⟩, q1⟩ => ?_
  refine Sq.eqL (L2 := (⟨some p3, .var (y1.1 : T_api_Installed)⟩ :: ⟨some p2, .var ((default : T_api_Installed) : T_api_Installed)⟩ :: ⟨some p1, .var (x1 : T_api_Entry)⟩ :: Ents y2)) rfl ?_
  refine Qnx ?_
  obtain ⟨c2, hc2, h⟩ := Wm.of_bind h
  refine Wp.draw mixed 6 [some 21, some 22, some 23, some 24, some 25, some 26] [[], [0], [1], [2], [], [4]] [.val _, .val _, .val _, .val _, .val _, .val _] [false, false, false, false, false, false] (by kernel_rfl) rfl rfl rfl (fun ps2 => ⟨Hm, Hv fun L' hL => r_nck (look_ref (look_t rfl) ho1), H1 (r_fa fd135_3), Hv fun L' hL => r_loadM ((Lens.id T_index_Index).comp le_T_index_Index_entries) (r := c2.f_entries) ty133 (look_t rfl) (dmem (fun i e q => hL i e q rfl) (pmem (n := 3) rfl (rds135 hc2) rfl)) rfl rfl, H1 (r_fa fd52_1), Hld 0 le_T_api_Installed_Number ty3, trivial⟩) fun ps2 => ?_
  obtain ⟨o2, ho2, h⟩ := Wm.of_bind h
  obtain ⟨c3, hc3, h⟩ := Wm.of_bind h
  obtain ⟨hp1, hhp1, h⟩ := Wm.of_bind h
  refine Sq.mdelQ (k' := Cell.c133 (mdel c3 y1.1.f_Number)) 3 rfl Tryz.underlying133 kt3 (look_mref (look_t rfl) ho2) (look_t rfl) (rds133 hc3) rfl rfl rfl (some_in hhp1) ?_
  refine Sq.nil ?_
  exact Qmt 0 (hm hp1 () h)
 ·refine Wp.skip ?_
  exact Qmt 0 (hm hp () h)
theorem C_index_Index_Lookup {hp : Pool Cell} {x0 : Ref} {x1 : Vector T_api_Value 4}  {r : T_api_Installed × Bool} (h : L_index_Index_Lookup hp x0 x1 = some r) : MeetsO Tryz.prog 20 [VP.of (x0), VP.of (x1)] ([] ++ Ents hp) (δ := Unit) (fun _ => VP.tup [VP.of (r.1), VP.of (r.2)]) (fun _ => [] ++ Ents hp) := by
 unfold L_index_Index_Lookup at h
 refine MeetsO.of Tryz.func20 rfl Tryz.ntmps20 rfl fun W A => ?_
 refine Qsr ?_
 refine Qbx fun p1 => ?_
 refine Qal zr52 fun p2 => ?_
 refine Qa ?_
 refine Qns ?_
 refine Qsr ?_
 refine Qm ?_
 refine Qv (r_refnil Tryz.underlying37 (look_t rfl)) ?_
 refine Qnx ?_
 refine Qcd h (fun h=>?_) fun h=>?_
 ·refine Qsr ?_
  refine Qbd bu52 zr52 (default : T_api_Installed) .nil ?_
  refine Qs0 0 ty52 ?_
  refine Qa ?_
  refine Qnx ?_
  refine Wp.ret ?_
  refine To.ret ?_
  obtain rfl:=some_in h
  exact To.endO2 () (.cons _ (.cons _ (.refl _))) rfl rfl (rvo_c (i := 0) ty52 rfl rfl) (rvo_t rfl)
 ·refine Qkn ?_
  refine Wp.seq ?_
  refine Qsr ?_
  refine Qm ?_
  refine Qnx ?_
  refine Wp.block ?_
  obtain ⟨e1,hl,h⟩:=Qbs h
  refine Wp.loopG (σ := Int × (Vector T_api_Value 4)) (ε := (Int × Bool × (Vector T_api_Value 4))) (γ := Unit) (δ := Unit) hl (fun s1 g1 => [(0, VP.of (x0)), (1, VP.of (x1)), (3, VP.eq (.pointer (some ⟨p1, 0, none⟩))), (4, VP.eq (.pointer (some ⟨p2, 0, none⟩))), (5, VP.of (false)), (10, VP.of (x0.isNone)), (12, VP.of (s1.1))]) (fun s1 g1 => (⟨some p2, .var ((default : T_api_Installed) : T_api_Installed)⟩ :: ⟨some p1, .var (s1.2 : Vector T_api_Value 4)⟩ :: Ents hp)) (fun q1 => Exit.exit 0) (fun q1 g1 => [(0, VP.of (x0)), (1, VP.of (x1)), (3, VP.eq (.pointer (some ⟨p1, 0, none⟩))), (4, VP.eq (.pointer (some ⟨p2, 0, none⟩))), (5, VP.of (false)), (10, VP.of (x0.isNone)), (12, VP.of (q1.1)), (13, VP.of (q1.2.1))]) (fun q1 g1 => (⟨some p2, .var ((default : T_api_Installed) : T_api_Installed)⟩ :: ⟨some p1, .var (q1.2.2 : Vector T_api_Value 4)⟩ :: Ents hp)) () rfl (.same rfl (.same rfl (.same rfl (.same rfl (.same rfl (.same rfl (.same rfl .nil))))))) (fun s1 r h g1 => ?_) (fun g1 => ?_)
  ·clear hl
   refine Qsr ?_
   refine Q2 r_lss ?_
   refine Qns ?_
   refine Qcd h (fun h=>?_) fun h=>?_
   ·refine Qkn ?_
    refine Wp.seq ?_
    refine Wp.block ?_
    refine Qsr ?_
    refine Qm ?_
    refine Qa ?_
    refine Qnr ?_
    refine Qm ?_
    refine Qm ?_
    obtain ⟨o1,ho1,h⟩:=Qbs h
    refine Qv (r_nck (look_ref (look_t rfl) ho1)) ?_
    refine Q1 (r_fa fd135_1) ?_
    obtain ⟨c1,hc1,h⟩:=Qbs h
    refine Qv (r_loadM ((Lens.id T_index_Index).comp le_T_index_Index_keys) (r := c1.f_keys) ty3 (look_t rfl) (pmem (n := 2) rfl (rds135 hc1) rfl) rfl rfl) ?_
    refine Q2 r_geq ?_
    refine Qnx ?_
    obtain ⟨m1,hm1,h⟩:=Qbs h
    refine Wp.condM (γ := Unit) (fun g2 => [(0, VP.of (x0)), (1, VP.of (x1)), (3, VP.eq (.pointer (some ⟨p1, 0, none⟩))), (4, VP.eq (.pointer (some ⟨p2, 0, none⟩))), (5, VP.of (false)), (6, VP.of (s1.1)), (10, VP.of (x0.isNone)), (12, VP.of (s1.1)), (13, VP.of (decide (s1.1 < 4))), (20, VP.of (decide (s1.1 ≥ c1.f_keys)))]) (fun g2 => (⟨some p2, .var ((default : T_api_Installed) : T_api_Installed)⟩ :: ⟨some p1, .var (m1 : Vector T_api_Value 4)⟩ :: Ents hp)) (look_t rfl) (fun g2 => ?_) (fun hm hc => ?_) (fun hm hc => ?_)
    ·clear hm1
     refine To.bnorm ?_
     refine To.next ?_
     refine Wp.reg ?_
     refine Q2 r_add ?_
     refine Qm ?_
     refine Sq.nil ?_
     obtain rfl:=some_in h
     exact Qrd () 0
    ·have h := cond_t hc hm1
     refine Wp.reg ?_
     refine Qm ?_
     refine Qbd bu43 zr43 (default : T_api_Value) .nil ?_
     obtain ⟨k1,hk1,h⟩:=Qbs h
     refine Qv (r_ia (k := k1) ar45 (look_t rfl) (look_t rfl) (idx_some hk1)) ?_
     refine Qst 1 ((Lens.id (Vector T_api_Value 4)).comp (Lens.idx (α := T_api_Value) 4 k1 (idx_some hk1).1)) ty43 ?_
     refine Sq.nil ?_
     obtain rfl:=some_in h
     exact Qmt 0 (hm ())
    ·have h := cond_f hc hm1
     refine Wp.skip ?_
     obtain rfl:=some_in h
     exact Qmt 0 (hm ())
   ·refine Wp.exit ?_
    refine To.exit ?_
    obtain rfl:=some_in h
    exact Qlv () 0
  ·clear hl
   refine To.bexit ?_
   refine To.next ?_
   refine Wp.seq ?_
   obtain ⟨o2,ho2,h⟩:=Qbs h
   obtain ⟨c2,hc2,h⟩:=Qbs h
   obtain ⟨y1,hy1,h⟩:=Qbs h
   refine Qwl [0, 1, 3, 4, 5, 10, 12, 13] ?_
   refine Wp.drawQ 2 mixed (Hp 26 [] [] _ :: Hp 27 (0 :: []) [] _ :: Hp 28 (1 :: []) [] _ :: ⟨some 29, (2 :: []), [], [], fun _ => VP.of (c2.f_finder), fun _ _ => ⟨none, .dead⟩⟩ :: Hp 30 [] (1 :: []) _ :: ⟨some 31, (3 :: 4 :: []), [], [], fun _ => VP.tup [VP.of (y1.1), VP.of (y1.2)], fun _ _ => ⟨none, .dead⟩⟩ :: Hp 25 (5 :: []) [] _ :: Hp 32 (6 :: []) [] _ :: Hp 33 (6 :: []) [] _ :: Hp 7 (7 :: []) [] _ :: Hp 8 (8 :: []) [] _ :: []) _ (0 :: 1 :: 3 :: 4 :: 5 :: 10 :: 12 :: 13 :: []) rfl rfl (by kernel_rfl) (by kernel_rfl) ⟨HeadD.q (Dm), HeadD.q (Dv fun hd E' L' hE hL => r_nck (look_ref (look_t (hE _ _ rfl)) ho2)), HeadD.q (D1 (r_fa fd135_2)), ?_, HeadD.q (Dl0 1 ty45), ?_, HeadD.q (Dm), HeadD.q (Dv fun hd E' L' hE hL => r_ext (look_t (hE _ _ rfl)) rfl), HeadD.q (Dv fun hd E' L' hE hL => r_ext (look_t (hE _ _ rfl)) rfl), HeadD.q (Dv fun hd E' L' hE hL => r_asg (look_t (hE _ _ rfl))), HeadD.q (Dv fun hd E' L' hE hL => r_asg (look_t (hE _ _ rfl))), trivial⟩ fun hd1 => ?_
   ·intro hd E' L' hE hL hP
    refine Qv (r_loadM ((Lens.id T_index_Index).comp le_T_index_Index_finder) (r := c2.f_finder) ty132 (look_t (hE _ _ rfl)) (pmem (n := 2) (hP.trans rfl) (rds135 hc2) rfl) rfl rfl) ?_
    refine Sq.nil ?_
    exact To.fin (gm []) rfl rfl
   ·intro hd E' L' hE hL hP
    refine Sq.vS (HS.invP 2 (hP.trans rfl) (CI_index_finder_lookup hy1) ⟨look_t (hE _ _ rfl), look_t (hE _ _ rfl), trivial⟩) rfl rfl rfl ?_
    refine Sq.nil ?_
    exact To.fin (gm []) rfl rfl
   refine To.eqL (L2 := (⟨some p2, .var ((default : T_api_Installed) : T_api_Installed)⟩ :: ⟨some p1, .var (e1.2.2 : Vector T_api_Value 4)⟩ :: Ents hp)) rfl ?_
   refine Qtl [0, 1, 3, 4, 5, 7, 8, 10, 12, 13, 25, 26, 27, 28, 29, 30, 31, 32, 33] ?_
   refine To.next ?_
   refine Qsr ?_
   refine Qm ?_
   refine Qm ?_
   refine Qm ?_
   obtain ⟨y2,hy2,h⟩:=Qbs h
   refine Sq.vS (HS.callQ 2 rfl en72 (C_index_Index_entry hy2) ⟨look_t rfl, look_t rfl, look_t rfl, trivial⟩) rfl rfl rfl ?_
   refine Qxt ?_
   refine Qxt ?_
   refine Qs0 0 ty52 ?_
   refine Qa ?_
   refine Qnx ?_
   refine Wp.ret ?_
   obtain rfl:=some_in h
   exact To.endO2 () (.cons _ (.cons _ (.refl _))) rfl rfl (rvo_c (i := 0) ty52 rfl rfl) (rvo_t rfl)
end Go.Proofs.YtmnggbjcnoffeaaGreat

namespace Go.Proofs.YtmnggbjcnoffeaaGreat
open Go Gv
set_option linter.unusedVariables false
set_option linter.unusedSimpArgs false
set_option maxRecDepth 100000
set_option maxHeartbeats 2000000
theorem C_index_Index_Put {hp : Pool Cell} {x0 : Ref} {x1 : T_api_Installed}  {Q : Bool × (Pool Cell) → Prop} (h : L_index_Index_Put hp x0 x1 Q) : MeetsO Tryz.prog 44 [VP.of (x0), VP.of (x1)] ([] ++ Ents hp) (δ := {r : Bool × (Pool Cell) // Q r} × Unit) (fun d => VP.of (d.1.1.1)) (fun d => [] ++ Ents d.1.1.2) := by
 unfold L_index_Index_Put at h
 refine MeetsO.of Tryz.func44 rfl Tryz.ntmps44 rfl fun W A => ?_
 refine Qsr ?_
 refine Qbx fun p1 => ?_
 refine Qa ?_
 refine Qns ?_
 refine Qsr ?_
 refine Qm ?_
 refine Qv (r_refnil Tryz.underlying37 (look_t rfl)) ?_
 refine Qnx ?_
 refine Wp.cond (look_t rfl) (fun hc => ?_) (fun hc => ?_)
 ·replace h := wcond_t hc h
  refine Qsr ?_
  refine Qa ?_
  refine Qnx ?_
  refine Wp.ret ?_
  refine To.ret ?_
  exact To.endO1 (⟨⟨(false, hp), h⟩, ()⟩ : {r // _} × _) (.cons _ (.refl _)) rfl rfl (rvo_t rfl)
 ·replace h := wcond_f hc h
  refine Qkn ?_
  refine Wp.seq ?_
  obtain ⟨o1, ho1, h⟩ := Wm.of_bind h
  obtain ⟨c1, hc1, h⟩ := Wm.of_bind h
  obtain ⟨o2, ho2, h⟩ := Wm.of_bind h
  obtain ⟨c2, hc2, h⟩ := Wm.of_bind h
  obtain ⟨z1, hz1, h⟩ := Wm.of_bind h
  refine Wp.keepQ 1 1 ?_
  refine Qwl [0, 1, 3, 4, 9, 10] ?_
  refine Wp.drawQ 2 mixed (Hp 12 [] [] _ :: Hp 13 (0 :: []) [] _ :: Hp 14 (1 :: []) [] _ :: ⟨some 15, (2 :: []), [], [], fun _ => VP.of (c1.f_entries), fun _ _ => ⟨none, .dead⟩⟩ :: Hp 16 [] [] _ :: Hp 17 (4 :: []) (0 :: []) _ :: ⟨some 18, (3 :: 5 :: []), [], [], fun _ => VP.tup [VP.of (z1.getD default), VP.of (z1.isSome)], fun _ _ => ⟨none, .dead⟩⟩ :: Hp 11 (6 :: []) [] _ :: Hp 19 (7 :: []) [] _ :: Hp 20 (7 :: []) [] _ :: ⟨some 5, [], (1 :: []), (1 :: []), fun hd => VP.eq (.pointer (some ⟨((hd 10 0).getD 0), 0, none⟩)), fun hd _ => ⟨some ((hd 10 0).getD 0), .var ((default : T_api_Installed) : T_api_Installed)⟩⟩ :: ⟨none, (8 :: 10 :: []), (1 :: []), (1 :: []), fun _ => VP.any, fun hd _ => ⟨some ((hd 10 0).getD 0), .var (z1.getD default : T_api_Installed)⟩⟩ :: Hp 6 (9 :: []) [] _ :: []) _ (0 :: 1 :: 3 :: 4 :: 9 :: 10 :: []) rfl rfl (by kernel_rfl) (by kernel_rfl) ⟨HeadD.q (Dm), HeadD.q (Dv fun hd E' L' hE hL => r_nck (look_ref (look_t (hE _ _ rfl)) ho1)), HeadD.q (D1 (r_fa fd135_3)), ?_, HeadD.q (D1 (r_fa fd52_1)), HeadD.q (Dld 0 le_T_api_Installed_Number ty3), ?_, HeadD.q (Dm), HeadD.q (Dv fun hd E' L' hE hL => r_ext (look_t (hE _ _ rfl)) rfl), HeadD.q (Dv fun hd E' L' hE hL => r_ext (look_t (hE _ _ rfl)) rfl), ?_, ?_, HeadD.q (Dv fun hd E' L' hE hL => r_asg (look_t (hE _ _ rfl))), trivial⟩ fun hd1 => ?_
  ·intro hd E' L' hE hL hP
   refine Qv (r_loadM ((Lens.id T_index_Index).comp le_T_index_Index_entries) (r := c1.f_entries) ty133 (look_t (hE _ _ rfl)) (pmem (n := 2) (hP.trans rfl) (rds135 hc1) rfl) rfl rfl) ?_
   refine Sq.nil ?_
   exact To.fin (gm []) rfl rfl
  ·intro hd E' L' hE hL hP
   refine Qv (r_lookM2 (r := z1) Tryz.underlying133 kt3 zr52 (look_mref (look_t (hE _ _ rfl)) ho2) (look_t (hE _ _ rfl)) (pmem (n := 2) (hP.trans rfl) (rds133 hc2) rfl) (some_in hz1)) ?_
   refine Sq.nil ?_
   exact To.fin (gm []) rfl rfl
  ·intro hd E' L' hE hL hP
   refine Qal zr52 fun p2 => ?_
   refine Sq.nil ?_
   refine To.place 1 (hL 1 _ rfl rfl) ?_
   exact To.fin (gm [some p2]) rfl rfl
  ·intro hd E' L' hE hL hP
   refine Sq.store (i := 1) (Lens.id T_api_Installed) (v := (z1.getD default : T_api_Installed)) (b' := (z1.getD default : T_api_Installed)) ty52 (look_t (hE _ _ rfl)) (look_t (hE _ _ rfl)) (hL 1 _ rfl rfl) rfl rfl ?_
   refine Sq.nil ?_
   exact To.fin (gm []) rfl rfl
  refine To.eqL (L2 := (⟨some p1, .var (x1 : T_api_Installed)⟩ :: ⟨some ((hd1 10 0).getD 0), .var (z1.getD default : T_api_Installed)⟩ :: Ents hp)) rfl ?_
  refine Qtl [0, 1, 3, 4, 5, 6, 9, 10, 11, 12, 13, 14, 15, 16, 17, 18, 19, 20] ?_
  refine To.bring 1 rfl ?_
  refine To.next ?_
  refine Wp.seq ?_
  refine Wp.seq ?_
  obtain ⟨o3, ho3, h⟩ := Wm.of_bind h
  obtain ⟨c3, hc3, h⟩ := Wm.of_bind h
  obtain ⟨y1, hy1, h⟩ := Wm.of_bind h
  refine Qwl [0, 1, 3, 4, 5, 6, 9, 10, 11, 12, 13, 14, 15, 16, 17, 18, 19, 20] ?_
  refine Wp.drawQ 2 mixed (Hp 22 [] [] _ :: Hp 23 (0 :: []) [] _ :: Hp 24 (1 :: []) [] _ :: ⟨some 25, (2 :: []), [], [], fun _ => VP.of (c3.f_finder), fun _ _ => ⟨none, .dead⟩⟩ :: Hp 26 [] [] _ :: Hp 27 (4 :: []) (1 :: []) _ :: ⟨some 28, (3 :: 5 :: []), [], [], fun _ => VP.tup [VP.of (y1.1), VP.of (y1.2)], fun _ _ => ⟨none, .dead⟩⟩ :: Hp 21 (6 :: []) [] _ :: Hp 29 (7 :: []) [] _ :: Hp 30 (7 :: []) [] _ :: Hp 7 (8 :: []) [] _ :: Hp 8 (9 :: []) [] _ :: []) _ (0 :: 1 :: 3 :: 4 :: 5 :: 6 :: 9 :: 10 :: 11 :: 12 :: 13 :: 14 :: 15 :: 16 :: 17 :: 18 :: 19 :: 20 :: []) rfl rfl (by kernel_rfl) (by kernel_rfl) ⟨HeadD.q (Dm), HeadD.q (Dv fun hd E' L' hE hL => r_nck (look_ref (look_t (hE _ _ rfl)) ho3)), HeadD.q (D1 (r_fa fd135_2)), ?_, HeadD.q (D1 (r_fa fd52_0)), HeadD.q (Dld 1 le_T_api_Installed_Entry ty50), ?_, HeadD.q (Dm), HeadD.q (Dv fun hd E' L' hE hL => r_ext (look_t (hE _ _ rfl)) rfl), HeadD.q (Dv fun hd E' L' hE hL => r_ext (look_t (hE _ _ rfl)) rfl), HeadD.q (Dv fun hd E' L' hE hL => r_asg (look_t (hE _ _ rfl))), HeadD.q (Dv fun hd E' L' hE hL => r_asg (look_t (hE _ _ rfl))), trivial⟩ fun hd2 => ?_
  ·intro hd E' L' hE hL hP
   refine Qv (r_loadM ((Lens.id T_index_Index).comp le_T_index_Index_finder) (r := c3.f_finder) ty132 (look_t (hE _ _ rfl)) (pmem (n := 2) (hP.trans rfl) (rds135 hc3) rfl) rfl rfl) ?_
   refine Sq.nil ?_
   exact To.fin (gm []) rfl rfl
  ·intro hd E' L' hE hL hP
   refine Sq.vS (HS.invP 2 (hP.trans rfl) (CI_index_finder_find hy1) ⟨look_t (hE _ _ rfl), look_t (hE _ _ rfl), trivial⟩) rfl rfl rfl ?_
   refine Sq.nil ?_
   exact To.fin (gm []) rfl rfl
  refine To.eqL (L2 := (⟨some ((hd1 10 0).getD 0), .var (z1.getD default : T_api_Installed)⟩ :: ⟨some p1, .var (x1 : T_api_Installed)⟩ :: Ents hp)) rfl ?_
  refine Qtl [0, 1, 3, 4, 5, 6, 7, 8, 9, 10, 11, 12, 13, 14, 15, 16, 17, 18, 19, 20, 21, 22, 23, 24, 25, 26, 27, 28, 29, 30] ?_
  refine To.next ?_
  refine Qsr ?_
  refine Qm ?_
  refine Qm ?_
  refine Qg1 r_move ?_
  refine Qor ?_
  refine Qnx ?_
  refine Wp.cond (look_t rfl) (fun hc => ?_) (fun hc => ?_)
  ·replace h := wcond_t hc h
   refine Qsr ?_
   refine Qa ?_
   refine Qnx ?_
   refine Wp.ret ?_
   refine To.ret ?_
   exact To.endO1 (⟨⟨(false, hp), h⟩, ()⟩ : {r // _} × _) (.cons _ (.cons _ (.refl _))) rfl rfl (rvo_t rfl)
  ·replace h := wcond_f hc h
   refine Qkn ?_
   refine Wp.seq ?_
   obtain ⟨o4, ho4, h⟩ := Wm.of_bind h
   obtain ⟨c4, hc4, h⟩ := Wm.of_bind h
   obtain ⟨y2, hy2, h⟩ := Wm.of_bind h
   refine Wp.draw mixed 8 [some 35, some 36, some 37, some 38, some 39, some 40, some 41, some 42] [[], [0], [1], [2], [], [4], [], [6]] [.val _, .val _, .val _, .val _, .val _, .val _, .val _, .val _] [false, false, false, false, false, false, false, false] (by kernel_rfl) rfl rfl rfl (fun ps1 => ⟨Hm, Hv fun L' hL => r_nck (look_ref (look_t rfl) ho4), H1 (r_fa fd135_3), Hv fun L' hL => r_loadM ((Lens.id T_index_Index).comp le_T_index_Index_entries) (r := c4.f_entries) ty133 (look_t rfl) (dmem (fun i e q => hL i e q rfl) (pmem (n := 2) rfl (rds135 hc4) rfl)) rfl rfl, H1 (r_fa fd52_1), Hld 1 le_T_api_Installed_Number ty3, Hl0 1 ty52, Hcl en87 (C_own_Installed hy2), trivial⟩) fun ps1 => ?_
   obtain ⟨o5, ho5, h⟩ := Wm.of_bind h
   obtain ⟨c5, hc5, h⟩ := Wm.of_bind h
   obtain ⟨hp1, hhp1, h⟩ := Wm.of_bind h
   refine Sq.mputQ (k' := Cell.c133 (mput c5 x1.f_Number y2)) 2 rfl (by first | exact .inl rfl | exact .inr rfl) Tryz.underlying133 kt3 (look_mref (look_t rfl) ho5) (look_t rfl) (look_t rfl) (rds133 hc5) rfl rfl rfl (some_in hhp1) ?_
   refine Qns ?_
   obtain ⟨c6, hc6, h⟩ := Wm.of_bind h
   refine Wp.draw mixed 5 [some 43, some 44, some 45, some 46, some 47] [[], [0], [1], [2], []] [.val _, .val _, .val _, .val _, .val _] [false, false, false, false, false] (by kernel_rfl) rfl rfl rfl (fun ps2 => ⟨Hm, Hv fun L' hL => r_nck (look_ref (look_t rfl) ho4), H1 (r_fa fd135_2), Hv fun L' hL => r_loadM ((Lens.id T_index_Index).comp le_T_index_Index_finder) (r := c6.f_finder) ty132 (look_t rfl) (dmem (fun i e q => hL i e q rfl) (pmem (n := 2) rfl (rds135 hc6) rfl)) rfl rfl, Hl0 1 ty52, trivial⟩) fun ps2 => ?_
   refine Sq.invP 2 0 rfl (CI_index_finder_put h) rfl rfl ⟨look_t rfl, look_t rfl, trivial⟩ rfl fun ⟨⟨y3, h⟩, q1⟩ => ?_
   refine Sq.eqL (L2 := (⟨some ((hd1 10 0).getD 0), .var (z1.getD default : T_api_Installed)⟩ :: ⟨some p1, .var (x1 : T_api_Installed)⟩ :: Ents y3)) rfl ?_
   refine Qnr ?_
   refine Qa ?_
   refine Qnx ?_
   refine Wp.ret ?_
   exact To.endO1 (⟨⟨(true, y3), h⟩, ()⟩ : {r // _} × _) (.cons _ (.cons _ (.refl _))) rfl rfl (rvo_t rfl)
end Go.Proofs.YtmnggbjcnoffeaaGreat

namespace Go.Proofs.YtmnggbjcnoffeaaGreat
open Go Gv
set_option linter.unusedVariables false
set_option linter.unusedSimpArgs false
set_option maxRecDepth 100000
set_option maxHeartbeats 2000000
theorem C_law14_IndexNone {hp : Pool Cell} {x0 : List (BitVec 8)} {x1 : Int} {x2 : T_api_Entry}  {Q : Bool × (Pool Cell) → Prop} (h : L_law14_IndexNone hp x0 x1 x2 Q) : MeetsO Tryz.prog 7 [VP.of (x0), VP.of (x1), VP.of (x2)] ([] ++ Ents hp) (δ := {r : Bool × (Pool Cell) // Q r} × Unit) (fun d => VP.of (d.1.1.1)) (fun d => [] ++ Ents d.1.1.2) := by
 unfold L_law14_IndexNone at h
 refine MeetsO.of Tryz.func7 rfl Tryz.ntmps7 rfl fun W A => ?_
 refine Qsr ?_
 refine Qbx fun p1 => ?_
 refine Qa ?_
 refine Qnr ?_
 refine Qm ?_
 obtain ⟨y1, hy1, h⟩ := Wm.of_bind h
 refine QcO 0 en15 (C_mcase_New hy1) fun q1 => ?_
 refine Sq.bring 0 rfl ?_
 obtain ⟨y2, hy2, h⟩ := Wm.of_bind h
 refine QcO 1 en16 (C_mcase_Codes_Schema hy2) fun q2 => ?_
 refine Qal zr33 fun p2 => ?_
 refine Qs0 0 ty33 ?_
 refine Qns ?_
 refine Qsr ?_
 refine Ql0 0 ty33 ?_
 refine Qm ?_
 refine Sq.callP 3 0 rfl en39 (C_index_New h) rfl rfl ⟨look_t rfl, look_t rfl, trivial⟩ rfl fun ⟨⟨y3, h⟩, q3⟩ => ?_
 refine Sq.eqL (L2 := (⟨some p2, .var (y2.1 : T_api_Schema)⟩ :: ⟨some q1, .var (y2.2 : T_mcase_Codes)⟩ :: ⟨some p1, .var (x2 : T_api_Entry)⟩ :: Ents y3.2)) rfl ?_
 refine Qv (r_refnil Tryz.underlying37 (look_t rfl)) ?_
 refine Qm ?_
 refine Q2 r_lss ?_
 refine Qm ?_
 refine Qg1 r_move ?_
 refine Qg2 r_gtr ?_
 refine Qor ?_
 refine Q2 (r_bne Tryz.underlying4) ?_
 refine Qnx ?_
 refine Wp.cond (look_t rfl) (fun hc => ?_) (fun hc => ?_)
 ·replace h := wcond_t hc h
  refine Qsr ?_
  refine Qa ?_
  refine Qnx ?_
  refine Wp.ret ?_
  refine To.ret ?_
  exact To.endO1 (⟨⟨(false, y3.2), h⟩, ()⟩ : {r // _} × _) (.cons _ (.cons _ (.cons _ (.refl _)))) rfl rfl (rvo_t rfl)
 ·replace h := wcond_f hc h
  refine Qkn ?_
  refine Qsr ?_
  refine Qv (r_asg (look_nilref)) ?_
  refine Qnr ?_
  refine Qm ?_
  refine Ql0 2 ty50 ?_
  obtain ⟨y4, hy4, h⟩ := Wm.of_bind h
  refine Sq.vS (HS.callQ 3 rfl en40 (C_index_Index_Find hy4) ⟨look_t rfl, look_t rfl, trivial⟩) rfl rfl rfl ?_
  refine Qm ?_
  refine Qxt ?_
  refine Qxt ?_
  refine Qal zr52 fun p3 => ?_
  refine Qs0 0 ty52 ?_
  refine Qa ?_
  refine Qnr ?_
  refine Qm ?_
  refine Ql0 3 ty50 ?_
  refine Sq.callP 4 0 rfl en41 (C_index_Index_Remove h) rfl rfl ⟨look_t rfl, look_t rfl, trivial⟩ rfl fun ⟨⟨y5, h⟩, q4⟩ => ?_
  refine Sq.eqL (L2 := (⟨some p3, .var (y4.1 : T_api_Installed)⟩ :: ⟨some p2, .var (y2.1 : T_api_Schema)⟩ :: ⟨some q1, .var (y2.2 : T_mcase_Codes)⟩ :: ⟨some p1, .var (x2 : T_api_Entry)⟩ :: Ents y5.2.2)) rfl ?_
  refine Qm ?_
  refine Qxt ?_
  refine Qxt ?_
  refine Qal zr52 fun p4 => ?_
  refine Qs0 0 ty52 ?_
  refine Qa ?_
  refine Qnr ?_
  refine Qm ?_
  refine Qv (r_buildA (b := (default : Vector T_api_Value 4)) (sz := 2) rfl Tryz.underlying45 (by kernel_rfl) zr45 (.nil)) ?_
  obtain ⟨y6, hy6, h⟩ := Wm.of_bind h
  refine Sq.vS (HS.callQ 5 rfl en20 (C_index_Index_Lookup hy6) ⟨look_t rfl, look_t rfl, trivial⟩) rfl rfl rfl ?_
  refine Qm ?_
  refine Qxt ?_
  refine Qxt ?_
  refine Qal zr52 fun p5 => ?_
  refine Qs0 0 ty52 ?_
  refine Qa ?_
  refine Qnr ?_
  refine Qm ?_
  refine Q1 r_not ?_
  refine Qm ?_
  refine Qg1 r_move ?_
  refine Qg1 r_not ?_
  refine Qan ?_
  refine Qm ?_
  refine Qg1 r_move ?_
  refine Qg1 r_not ?_
  refine Qan ?_
  refine Qm ?_
  refine Qg1 r_move ?_
  obtain ⟨y7, hy7, h⟩ := Wm.of_bind h
  refine Sq.gS (fun hb => HS.callQ 6 rfl en42 (C_index_Index_Kind (condM_some hy7 hb)) ⟨look_tc rfl hb, trivial⟩) rfl rfl rfl rfl rfl ?_
  refine Qg2 r_eql ?_
  refine Qan ?_
  refine Qm ?_
  refine Qg1 r_move ?_
  obtain ⟨y8, hy8, h⟩ := Wm.of_bind h
  refine Sq.gS (fun hb => HS.callQ 6 rfl en43 (C_index_Index_Len (condM_some hy8 hb)) ⟨look_tc rfl hb, trivial⟩) rfl rfl rfl rfl rfl ?_
  refine Qg2 r_eql ?_
  refine Qan ?_
  refine Qm ?_
  refine Qg1 r_move ?_
  refine Qg (fun hb => r_load (i := 5) (Lens.id T_api_Entry) (r := x2) ty50 (look_t rfl) rfl rfl rfl) ?_
  refine Qg (fun hb => r_build (b := ({ (default : T_api_Installed) with f_Entry := x2 } : T_api_Installed)) rfl bu52 zr52 (.cons le_T_api_Installed_Entry rfl (look_tc rfl hb) rfl (.nil))) ?_
  refine Sq.gW (γ := Unit) h (fun y => VP.of (y.1)) (fun y g => (⟨some p5, .var (y6.1 : T_api_Installed)⟩ :: ⟨some p4, .var (y5.1 : T_api_Installed)⟩ :: ⟨some p3, .var (y4.1 : T_api_Installed)⟩ :: ⟨some p2, .var (y2.1 : T_api_Schema)⟩ :: ⟨some q1, .var (y2.2 : T_mcase_Codes)⟩ :: ⟨some p1, .var (x2 : T_api_Entry)⟩ :: Ents y.2)) () rfl rfl rfl rfl rfl rfl (fun hb hm => by refine OpS.to ?_ (OpS.callP 6 0 rfl en44 (C_index_Index_Put hm) rfl rfl ?_); exact fun _ => rfl; exact ⟨look_tc rfl hb, look_tc rfl hb, trivial⟩) fun y9 q5 h => ?_
  refine Qg1 r_not ?_
  obtain ⟨z1, hz1, h⟩ := Wm.of_bind h
  refine Qn hz1 (r_and (look_t rfl) (look_t rfl) (fun h => h)) ?_
  refine Qm ?_
  refine Sq.gW (γ := Unit) h (fun y => VP.of (y.1)) (fun y g => (⟨some p5, .var (y6.1 : T_api_Installed)⟩ :: ⟨some p4, .var (y5.1 : T_api_Installed)⟩ :: ⟨some p3, .var (y4.1 : T_api_Installed)⟩ :: ⟨some p2, .var (y2.1 : T_api_Schema)⟩ :: ⟨some q1, .var (y2.2 : T_mcase_Codes)⟩ :: ⟨some p1, .var (x2 : T_api_Entry)⟩ :: Ents y.2)) () rfl rfl rfl rfl rfl rfl (fun hb hm => by refine OpS.to ?_ (OpS.callP 6 0 rfl en23 (C_law14_begun hm) rfl rfl ?_); exact fun _ => rfl; exact trivial) fun y11 q6 h => ?_
  refine Qan ?_
  refine Qa ?_
  refine Qnx ?_
  refine Wp.ret ?_
  exact To.endO1 (⟨⟨(z1 && y11.1, y11.2), h⟩, ()⟩ : {r // _} × _) (.cons _ (.cons _ (.cons _ (.cons _ (.cons _ (.cons _ (.refl _))))))) rfl rfl (rvo_t rfl)
end Go.Proofs.YtmnggbjcnoffeaaGreat

