/-
  Printed by the decompiler (dec.py) out of the seat's translation. Each function meets its functional program. Conditions: none.
-/
import Derived.Test.YtabodolbdalimaaDc4
import Derived.Test.YtabodolbdalimaaDc6
import Derived.Test.YtabodolbdalimaaDc8
import Derived.Test.YtabodolbdalimaaDc14
namespace Go.Proofs.Ytabodolbdalimaa
open Go Gv
set_option linter.unusedVariables false
set_option linter.unusedSimpArgs false
set_option maxRecDepth 100000
set_option maxHeartbeats 2000000 in
theorem C_cube_Minus {x0 : T_cube_Cube} {x1 : T_cube_Cube}  {r : (List T_cube_Cube)} (h : L_cube_Minus x0 x1 = some r) : Meets Try.prog 15 [VP.of (x0), VP.of (x1)] (VP.of (r)) := by
  unfold L_cube_Minus at h
  refine Meets.of Try.func15 rfl Try.ntmps15 rfl fun W A => ?_
  refine Wp.seq ?_
  refine Wp.reg ?_
  refine Sq.box (z := (x0 : T_cube_Cube)) (look_t rfl) rfl fun p1 => ?_
  refine Sq.box (z := (x1 : T_cube_Cube)) (look_t rfl) rfl fun p2 => ?_
  refine Sq.v (r_asg (look_nil (α := T_cube_Cube))) rfl rfl rfl ?_
  refine Sq.nil ?_
  refine To.next ?_
  refine Wp.seq ?_
  refine Wp.seq ?_
  refine Wp.reg ?_
  refine Sq.v (r_load (i := 1) (Lens.id T_cube_Cube) (r := x0) ty28 (look_t rfl) rfl rfl rfl) rfl rfl rfl ?_
  refine Sq.v (r_load (i := 0) (Lens.id T_cube_Cube) (r := x1) ty28 (look_t rfl) rfl rfl rfl) rfl rfl rfl ?_
  obtain ⟨y1, hy1, h⟩ := bind_some h
  refine Sq.v (r_call en18 (C_cube_Meet hy1) ⟨look_t rfl, look_t rfl, trivial⟩) rfl rfl rfl ?_
  refine Sq.v (r_move (look_t rfl)) rfl rfl rfl ?_
  refine Sq.v (r_ext (look_t rfl) rfl) rfl rfl rfl ?_
  refine Sq.v (r_ext (look_t rfl) rfl) rfl rfl rfl ?_
  refine Sq.alloc zr28 rfl fun p3 => ?_
  refine Sq.store (i := 0) (Lens.id T_cube_Cube) (v := (y1.1 : T_cube_Cube)) (b' := (y1.1 : T_cube_Cube)) ty28 (look_t rfl) (look_t rfl) rfl rfl rfl ?_
  refine Sq.v (r_asg (look_t rfl)) rfl rfl rfl ?_
  refine Sq.nil ?_
  refine To.next ?_
  refine Wp.seq ?_
  refine Wp.reg ?_
  refine Sq.v (r_move (look_t rfl)) rfl rfl rfl ?_
  refine Sq.v (r_not (look_t rfl)) rfl rfl rfl ?_
  refine Sq.nil ?_
  refine To.next ?_
  refine Wp.cond (look_t rfl) (fun hc => ?_) (fun hc => ?_)
  · replace h := cond_t hc h
    refine Wp.seq ?_
    refine Wp.reg ?_
    refine Sq.v (r_load (i := 2) (Lens.id T_cube_Cube) (r := x0) ty28 (look_t rfl) rfl rfl rfl) rfl rfl rfl ?_
    refine Sq.v (r_bsl (r := [x0]) Try.underlying31 ty28 zr28 rfl rfl (.cons (by simp) (look_t rfl) (.nil))) rfl rfl rfl ?_
    refine Sq.v (r_asg (look_t rfl)) rfl rfl rfl ?_
    refine Sq.nil ?_
    refine To.next ?_
    refine Wp.ret ?_
    refine To.ret ?_
    replace h := some_in h
    subst h
    exact To.end1 rfl (rv_t rfl)
  · replace h := cond_f hc h
    refine Wp.skip ?_
    refine To.next ?_
    refine Wp.seq ?_
    refine Wp.reg ?_
    refine Sq.v (r_fa fd28_1 (look_t rfl)) rfl rfl rfl ?_
    refine Sq.v (r_load (i := 1) ((Lens.id T_cube_Cube).comp le_T_cube_Cube_Mask) (r := x1.f_Mask) ty26 (look_t rfl) rfl rfl rfl) rfl rfl rfl ?_
    refine Sq.v (r_fa fd28_1 (look_t rfl)) rfl rfl rfl ?_
    refine Sq.v (r_load (i := 2) ((Lens.id T_cube_Cube).comp le_T_cube_Cube_Mask) (r := x0.f_Mask) ty26 (look_t rfl) rfl rfl rfl) rfl rfl rfl ?_
    obtain ⟨y2, hy2, h⟩ := bind_some h
    refine Sq.v (r_call en52 (C_cube_combined hy2) ⟨look_t rfl, look_t rfl, look_fn2 en53 (fun _ _ _ => C_cube_without), trivial⟩) rfl rfl rfl ?_
    refine Sq.alloc zr26 rfl fun p4 => ?_
    refine Sq.store (i := 0) (Lens.id (Vector T_api_Value 4)) (v := (y2 : Vector T_api_Value 4)) (b' := (y2 : Vector T_api_Value 4)) ty26 (look_t rfl) (look_t rfl) rfl rfl rfl ?_
    refine Sq.nil ?_
    refine To.next ?_
    refine Wp.seq ?_
    refine Wp.reg ?_
    refine Sq.own (α := T_cube_Cube) 28 ?_
    refine Sq.v (r_asg look_own) rfl rfl rfl ?_
    refine Sq.nil ?_
    refine To.next ?_
    refine Wp.seq ?_
    refine Wp.seq ?_
    refine Wp.reg ?_
    refine Sq.v (r_move (look_int 0)) rfl rfl rfl ?_
    refine Sq.nil ?_
    refine To.next ?_
    refine Wp.block ?_
    obtain ⟨e1, hl, h⟩ := bind_some h
    refine Wp.loopG (σ := Int × (List T_cube_Cube) × T_cube_Cube) (ε := (Int × Bool × (List T_cube_Cube) × T_cube_Cube)) (γ := (Option Nat × Nat)) (δ := (Option Nat × Nat)) hl (fun s1 g1 => [(0, VP.of (x0)), (1, VP.of (x1)), (2, VP.eq (.pointer (some ⟨p1, 0, none⟩))), (3, VP.eq (.pointer (some ⟨p2, 0, none⟩))), (4, VP.of ([] : List T_cube_Cube)), (6, VP.of (y1.2)), (7, VP.eq (.pointer (some ⟨p4, 0, none⟩))), (8, VP.eq (slv g1.1 s1.2.1.length g1.2)), (17, VP.of (!y1.2)), (25, VP.of (s1.1))]) (fun s1 g1 => [⟨g1.1, .row 28 (s1.2.1 : List T_cube_Cube) g1.2⟩, ⟨some p4, .var (y2 : Vector T_api_Value 4)⟩, ⟨some p3, .var (y1.1 : T_cube_Cube)⟩, ⟨some p2, .var (x1 : T_cube_Cube)⟩, ⟨some p1, .var (s1.2.2 : T_cube_Cube)⟩]) (fun q1 => Exit.exit 0) (fun q1 g1 => [(0, VP.of (x0)), (1, VP.of (x1)), (2, VP.eq (.pointer (some ⟨p1, 0, none⟩))), (3, VP.eq (.pointer (some ⟨p2, 0, none⟩))), (4, VP.of ([] : List T_cube_Cube)), (6, VP.of (y1.2)), (7, VP.eq (.pointer (some ⟨p4, 0, none⟩))), (8, VP.eq (slv g1.1 q1.2.2.1.length g1.2)), (17, VP.of (!y1.2)), (25, VP.of (q1.1)), (26, VP.of (q1.2.1))]) (fun q1 g1 => [⟨g1.1, .row 28 (q1.2.2.1 : List T_cube_Cube) g1.2⟩, ⟨some p4, .var (y2 : Vector T_api_Value 4)⟩, ⟨some p3, .var (y1.1 : T_cube_Cube)⟩, ⟨some p2, .var (x1 : T_cube_Cube)⟩, ⟨some p1, .var (q1.2.2.2 : T_cube_Cube)⟩]) (none, 0) rfl (.same rfl (.same rfl (.same rfl (.same rfl (.same rfl (.same rfl (.same rfl (.same rfl (.same rfl (.same rfl .nil)))))))))) (fun s1 r h g1 => ?_) (fun g1 => ?_)
    · clear hl
      refine Wp.seq ?_
      refine Wp.reg ?_
      refine Sq.v (r_lss (look_t rfl) (look_int 512)) rfl rfl rfl ?_
      refine Sq.nil ?_
      refine To.next ?_
      refine Wp.seq ?_
      refine Wp.cond (look_t rfl) (fun hc => ?_) (fun hc => ?_)
      · replace h := cond_t hc h
        refine Wp.skip ?_
        refine To.next ?_
        refine Wp.seq ?_
        refine Wp.block ?_
        refine Wp.seq ?_
        refine Wp.reg ?_
        refine Sq.v (r_move (look_t rfl)) rfl rfl rfl ?_
        refine Sq.v (r_asg (look_t rfl)) rfl rfl rfl ?_
        refine Sq.nil ?_
        refine To.next ?_
        refine Wp.seq ?_
        refine Wp.reg ?_
        refine Sq.v (r_load (i := 1) (Lens.id (Vector T_api_Value 4)) (r := y2) ty26 (look_t rfl) rfl rfl rfl) rfl rfl rfl ?_
        refine Sq.v (r_move (look_t rfl)) rfl rfl rfl ?_
        obtain ⟨y3, hy3, h⟩ := bind_some h
        refine Sq.v (r_call en54 (C_cube_has hy3) ⟨look_t rfl, look_t rfl, trivial⟩) rfl rfl rfl ?_
        refine Sq.nil ?_
        refine To.next ?_
        obtain ⟨m1, hm1, h⟩ := bind_some h
        refine Wp.condM (γ := (Option Nat × Nat)) (fun g2 => [(0, VP.of (x0)), (1, VP.of (x1)), (2, VP.eq (.pointer (some ⟨p1, 0, none⟩))), (3, VP.eq (.pointer (some ⟨p2, 0, none⟩))), (4, VP.of ([] : List T_cube_Cube)), (6, VP.of (y1.2)), (7, VP.eq (.pointer (some ⟨p4, 0, none⟩))), (8, VP.eq (slv g2.1 m1.1.length g2.2)), (9, VP.of (s1.1)), (17, VP.of (!y1.2)), (25, VP.of (s1.1)), (26, VP.of (decide (s1.1 < 512))), (30, VP.of (y3))]) (fun g2 => [⟨g2.1, .row 28 (m1.1 : List T_cube_Cube) g2.2⟩, ⟨some p4, .var (y2 : Vector T_api_Value 4)⟩, ⟨some p3, .var (y1.1 : T_cube_Cube)⟩, ⟨some p2, .var (x1 : T_cube_Cube)⟩, ⟨some p1, .var (m1.2 : T_cube_Cube)⟩]) (look_t rfl) (fun g2 => ?_) (fun hm hc => ?_) (fun hm hc => ?_)
        · clear hm1
          refine To.bnorm ?_
          refine To.next ?_
          refine Wp.reg ?_
          refine Sq.v (r_add (look_t rfl) (look_int 1)) rfl rfl rfl ?_
          refine Sq.v (r_move (look_t rfl)) rfl rfl rfl ?_
          refine Sq.nil ?_
          replace h := some_in h
          subst h
          exact To.roundG (g2.1, g2.2) 0 rfl (.same rfl (.same rfl (.same rfl (.same rfl (.same rfl (.same rfl (.same rfl (.same rfl (.same rfl (.same rfl .nil))))))))))
        · have h := cond_t hc hm1
          refine Wp.seq ?_
          obtain ⟨y4, hy4, h⟩ := bind_some h
          obtain ⟨y5, hy5, h⟩ := bind_some h
          refine Wp.draw mixed 10 [some 31, some 32, some 33, some 34, some 35, some 36, some 37, some 38, some 39, some 40] [[], [], [], [], [3], [], [4, 5], [6], [1, 2, 7], [8]] [.val (VP.eq (slv g1.1 s1.2.1.length g1.2)), .val (VP.of (s1.2.2)), .val (VP.of (s1.1)), .val (VP.eq (.pointer (some ⟨p2, 0 + 0, none⟩))), .val (VP.of (x1.f_Value)), .val (VP.of (s1.1)), .val (VP.of (y4)), .val (VP.of (!y4)), .val (VP.of (y5)), .val (VP.of ([y5]))] [false, false, false, false, false, false, false, false, false, false] (by kernel_rfl) rfl rfl rfl (fun ps1 => ⟨fun L' hL => HO.v (r_move (look_t rfl)) rfl, fun L' hL => HO.v (r_load (i := 4) (Lens.id T_cube_Cube) (r := s1.2.2) ty28 (look_t rfl) (hL _ _ rfl rfl) rfl rfl) rfl, fun L' hL => HO.v (r_move (look_t rfl)) rfl, fun L' hL => HO.v (r_fa fd28_0 (look_t rfl)) rfl, fun L' hL => HO.v (r_load (i := 3) ((Lens.id T_cube_Cube).comp le_T_cube_Cube_Value) (r := x1.f_Value) ty26 (look_t rfl) (hL _ _ rfl rfl) rfl rfl) rfl, fun L' hL => HO.v (r_move (look_t rfl)) rfl, fun L' hL => HO.v (r_call en54 (C_cube_has hy4) ⟨look_t rfl, look_t rfl, trivial⟩) rfl, fun L' hL => HO.v (r_not (look_t rfl)) rfl, fun L' hL => HO.v (r_call en21 (C_cube_Fix hy5) ⟨look_t rfl, look_t rfl, look_t rfl, trivial⟩) rfl, fun L' hL => HO.v (r_bsl (r := [y5]) Try.underlying31 ty28 zr28 rfl rfl (.cons (by simp) (look_t rfl) (.nil))) rfl, trivial⟩) fun ps1 => ?_
          obtain ⟨y6, hy6, h⟩ := bind_some h
          refine Sq.app (i := 0) Try.underlying31 ty28 zr28 (bytes := 128) (by kernel_rfl) (look_t rfl) rfl (look_t rfl) hy6 rfl fun key1 cap1 => ?_
          refine Sq.v (r_asg (look_t rfl)) rfl rfl rfl ?_
          refine Sq.nil ?_
          refine To.next ?_
          obtain ⟨y7, hy7, h⟩ := bind_some h
          obtain ⟨y8, hy8, h⟩ := bind_some h
          refine Wp.draw mixed 7 [some 42, some 43, some 44, some 45, some 46, some 47, some 48] [[], [], [], [2], [], [3, 4], [0, 1, 5]] [.val (VP.of (s1.2.2)), .val (VP.of (s1.1)), .val (VP.eq (.pointer (some ⟨p2, 0 + 0, none⟩))), .val (VP.of (x1.f_Value)), .val (VP.of (s1.1)), .val (VP.of (y7)), .val (VP.of (y8))] [false, false, false, false, false, false, false] (by kernel_rfl) rfl rfl rfl (fun ps2 => ⟨fun L' hL => HO.v (r_load (i := 4) (Lens.id T_cube_Cube) (r := s1.2.2) ty28 (look_t rfl) (hL _ _ rfl rfl) rfl rfl) rfl, fun L' hL => HO.v (r_move (look_t rfl)) rfl, fun L' hL => HO.v (r_fa fd28_0 (look_t rfl)) rfl, fun L' hL => HO.v (r_load (i := 3) ((Lens.id T_cube_Cube).comp le_T_cube_Cube_Value) (r := x1.f_Value) ty26 (look_t rfl) (hL _ _ rfl rfl) rfl rfl) rfl, fun L' hL => HO.v (r_move (look_t rfl)) rfl, fun L' hL => HO.v (r_call en54 (C_cube_has hy7) ⟨look_t rfl, look_t rfl, trivial⟩) rfl, fun L' hL => HO.v (r_call en21 (C_cube_Fix hy8) ⟨look_t rfl, look_t rfl, look_t rfl, trivial⟩) rfl, trivial⟩) fun ps2 => ?_
          refine Sq.store (i := 4) (Lens.id T_cube_Cube) (v := (y8 : T_cube_Cube)) (b' := (y8 : T_cube_Cube)) ty28 (look_t rfl) (look_t rfl) rfl rfl rfl ?_
          refine Sq.nil ?_
          replace h := some_in h
          subst h
          exact To.meet 0 rfl (.same rfl (.same rfl (.same rfl (.same rfl (.same rfl (.same rfl (.same rfl (.same rfl (.same rfl (.same rfl (.same rfl (.same rfl (.same rfl .nil))))))))))))) (hm (key1, cap1))
        · have h := cond_f hc hm1
          refine Wp.skip ?_
          replace h := some_in h
          subst h
          exact To.meet 0 rfl (.same rfl (.same rfl (.same rfl (.same rfl (.same rfl (.same rfl (.same rfl (.same rfl (.same rfl (.same rfl (.same rfl (.same rfl (.same rfl .nil))))))))))))) (hm (g1.1, g1.2))
      · replace h := cond_f hc h
        refine Wp.exit ?_
        refine To.exit ?_
        replace h := some_in h
        subst h
        exact To.leaveG (g1.1, g1.2) 0 rfl (by simp) rfl (.same rfl (.same rfl (.same rfl (.same rfl (.same rfl (.same rfl (.same rfl (.same rfl (.same rfl (.same rfl (.same rfl .nil)))))))))))
    · clear hl
      refine To.bexit ?_
      refine To.next ?_
      refine Wp.seq ?_
      refine Wp.reg ?_
      refine Sq.v (r_move (look_t rfl)) rfl rfl rfl ?_
      refine Sq.v (r_asg (look_t rfl)) rfl rfl rfl ?_
      refine Sq.nil ?_
      refine To.next ?_
      refine Wp.ret ?_
      refine To.freezeL (α := T_cube_Cube) 0 [4, 8, 50] ⟨rfl, rfl, rfl, trivial⟩ rfl ?_
      replace h := some_in h
      subst h
      exact To.end1 rfl (rv_t rfl)
set_option maxHeartbeats 2000000 in
theorem C_law25_begun   {r : Bool} (h : L_law25_begun  = some r) : Meets Try.prog 19 [] (VP.of (r)) := by
  unfold L_law25_begun at h
  refine Meets.of Try.func19 rfl Try.ntmps19 rfl fun W A => ?_
  refine Wp.seq ?_
  refine Wp.reg ?_
  refine Sq.v (r_asg (look_bool false)) rfl rfl rfl ?_
  refine Sq.nil ?_
  refine To.next ?_
  refine Wp.seq ?_
  refine Wp.reg ?_
  refine Sq.v (r_build (b := ({ (default : T_api_Value) with f_Lo := 3#64 } : T_api_Value)) rfl bu24 zr24 (.cons le_T_api_Value_Lo rfl (look_u64 3 rfl) rfl (.nil))) rfl rfl rfl ?_
  obtain ⟨z1, hz1, h⟩ := bind_some h
  refine Sq.v ((r_buildA (b := vset (default : Vector T_api_Value 4) 0 ({ (default : T_api_Value) with f_Lo := 3#64 } : T_api_Value)) (sz := 2) rfl Try.underlying26 (by kernel_rfl) zr26 (.cons (Lens.idx 4 0 (by decide)) rfl (look_t rfl) rfl (.nil))).as (some_in hz1)) rfl rfl rfl ?_
  refine Sq.v (r_build (b := ({ (default : T_api_Value) with f_Lo := 1#64 } : T_api_Value)) rfl bu24 zr24 (.cons le_T_api_Value_Lo rfl (look_u64 1 rfl) rfl (.nil))) rfl rfl rfl ?_
  obtain ⟨z2, hz2, h⟩ := bind_some h
  refine Sq.v ((r_buildA (b := vset (default : Vector T_api_Value 4) 0 ({ (default : T_api_Value) with f_Lo := 1#64 } : T_api_Value)) (sz := 2) rfl Try.underlying26 (by kernel_rfl) zr26 (.cons (Lens.idx 4 0 (by decide)) rfl (look_t rfl) rfl (.nil))).as (some_in hz2)) rfl rfl rfl ?_
  refine Sq.v (r_build (b := { f_Mask := z1, f_Value := z2 : T_cube_Cube }) rfl bu28 zr28 (.cons le_T_cube_Cube_Mask rfl (look_t rfl) rfl (.cons le_T_cube_Cube_Value rfl (look_t rfl) rfl (.nil)))) rfl rfl rfl ?_
  refine Sq.alloc zr28 rfl fun p1 => ?_
  refine Sq.store (i := 0) (Lens.id T_cube_Cube) (v := ({ f_Mask := z1, f_Value := z2 : T_cube_Cube } : T_cube_Cube)) (b' := ({ f_Mask := z1, f_Value := z2 : T_cube_Cube } : T_cube_Cube)) ty28 (look_t rfl) (look_t rfl) rfl rfl rfl ?_
  refine Sq.nil ?_
  refine To.next ?_
  refine Wp.seq ?_
  refine Wp.reg ?_
  refine Sq.v (r_build (b := (default : T_cube_Cube)) rfl bu28 zr28 (.nil)) rfl rfl rfl ?_
  refine Sq.v (r_load (i := 0) (Lens.id T_cube_Cube) (r := ({ f_Mask := z1, f_Value := z2 : T_cube_Cube })) ty28 (look_t rfl) rfl rfl rfl) rfl rfl rfl ?_
  obtain ⟨y1, hy1, h⟩ := bind_some h
  refine Sq.v (r_call en15 (C_cube_Minus hy1) ⟨look_t rfl, look_t rfl, trivial⟩) rfl rfl rfl ?_
  refine Sq.v (r_asg (look_t rfl)) rfl rfl rfl ?_
  refine Sq.nil ?_
  refine To.next ?_
  refine Wp.seq ?_
  refine Wp.reg ?_
  refine Sq.v (r_move (look_t rfl)) rfl rfl rfl ?_
  refine Sq.v (r_len Try.underlying31 (look_t rfl)) rfl rfl rfl ?_
  refine Sq.v (r_eql (look_t rfl) (look_int 2)) rfl rfl rfl ?_
  refine Sq.v (r_move (look_t rfl)) rfl rfl rfl ?_
  refine Sq.g (fun hb => r_load (i := 0) (Lens.id T_cube_Cube) (r := ({ f_Mask := z1, f_Value := z2 : T_cube_Cube })) ty28 (look_t rfl) rfl rfl rfl) rfl rfl rfl rfl rfl ?_
  obtain ⟨y2, hy2, h⟩ := bind_some h
  refine Sq.g (fun hb => r_call en30 (C_cube_Free (condM_some hy2 hb)) ⟨look_tc rfl hb, trivial⟩) rfl rfl rfl rfl rfl ?_
  refine Sq.g (fun hb => r_eql (look_tc rfl hb) (look_int 510)) rfl rfl rfl rfl rfl ?_
  refine Sq.v (r_and (look_t rfl) (look_t rfl) (fun h => h)) rfl rfl rfl ?_
  refine Sq.v (r_move (look_t rfl)) rfl rfl rfl ?_
  refine Sq.g (fun hb => r_move (look_t rfl)) rfl rfl rfl rfl rfl ?_
  obtain ⟨k1, hk1, h⟩ := bind_some h
  refine Sq.g (fun hb => r_ias (k := k1) Try.underlying31 ty28 (look_tc rfl hb) (look_int 1) (idx_some (condM_some hk1 hb))) rfl rfl rfl rfl rfl ?_
  refine Sq.g (fun hb => r_loadp ty28 (look_tc rfl hb)) rfl rfl rfl rfl rfl ?_
  obtain ⟨y3, hy3, h⟩ := bind_some h
  refine Sq.g (fun hb => r_call en30 (C_cube_Free (condM_some hy3 hb)) ⟨look_tc rfl hb, trivial⟩) rfl rfl rfl rfl rfl ?_
  refine Sq.g (fun hb => r_eql (look_tc rfl hb) (look_int 510)) rfl rfl rfl rfl rfl ?_
  refine Sq.v (r_and (look_t rfl) (look_t rfl) (fun h => h)) rfl rfl rfl ?_
  refine Sq.v (r_asg (look_t rfl)) rfl rfl rfl ?_
  refine Sq.nil ?_
  refine To.next ?_
  refine Wp.ret ?_
  replace h := some_in h
  subst h
  exact To.end1 rfl (rv_t rfl)
end Go.Proofs.Ytabodolbdalimaa
