/-
  Printed by the decompiler (dec.py) out of the seat's translation. Each function meets its functional program. Conditions: none.
-/
import Derived.Test.YtabodolbdalimaaDc1
import Derived.Test.YtabodolbdalimaaDc5
import Derived.Test.YtabodolbdalimaaDc6
import Derived.Test.YtabodolbdalimaaDc7
import Derived.Test.YtabodolbdalimaaDc8
namespace Go.Proofs.Ytabodolbdalimaa
open Go Gv
set_option linter.unusedVariables false
set_option linter.unusedSimpArgs false
set_option maxRecDepth 100000
set_option maxHeartbeats 2000000 in
theorem C_law26_begun   {r : Bool} (h : L_law26_begun  = some r) : Meets Try.prog 36 [] (VP.of (r)) := by
  unfold L_law26_begun at h
  refine Meets.of Try.func36 rfl Try.ntmps36 rfl fun W A => ?_
  refine Wp.seq ?_
  refine Wp.reg ?_
  refine Sq.v (r_asg (look_bool false)) rfl rfl rfl ?_
  refine Sq.nil ?_
  refine To.next ?_
  refine Wp.seq ?_
  refine Wp.reg ?_
  refine Sq.v (r_build (b := { (default : T_api_Value) with f_Lo := 4#64 }) rfl bu24 zr24 (.cons le_T_api_Value_Lo rfl (look_u64 4 rfl) rfl (.nil))) rfl rfl rfl ?_
  obtain ⟨z1, hz1, h⟩ := bind_some h
  refine Sq.v ((r_buildA (b := vset (default : Vector T_api_Value 4) 0 ({ (default : T_api_Value) with f_Lo := 4#64 })) (sz := 2) rfl Try.underlying26 (by kernel_rfl) zr26 (.cons (Lens.idx 4 0 (by decide)) rfl (look_t rfl) rfl (.nil))).as (some_in hz1)) rfl rfl rfl ?_
  refine Sq.v (r_build (b := { (default : T_cube_Cube) with f_Mask := z1 }) rfl bu28 zr28 (.cons le_T_cube_Cube_Mask rfl (look_t rfl) rfl (.nil))) rfl rfl rfl ?_
  refine Sq.v (r_build (b := { (default : T_api_Value) with f_Lo := 4#64 }) rfl bu24 zr24 (.cons le_T_api_Value_Lo rfl (look_u64 4 rfl) rfl (.nil))) rfl rfl rfl ?_
  obtain ⟨z2, hz2, h⟩ := bind_some h
  refine Sq.v ((r_buildA (b := vset (default : Vector T_api_Value 4) 0 ({ (default : T_api_Value) with f_Lo := 4#64 })) (sz := 2) rfl Try.underlying26 (by kernel_rfl) zr26 (.cons (Lens.idx 4 0 (by decide)) rfl (look_t rfl) rfl (.nil))).as (some_in hz2)) rfl rfl rfl ?_
  refine Sq.v (r_build (b := { (default : T_api_Value) with f_Lo := 4#64 }) rfl bu24 zr24 (.cons le_T_api_Value_Lo rfl (look_u64 4 rfl) rfl (.nil))) rfl rfl rfl ?_
  obtain ⟨z3, hz3, h⟩ := bind_some h
  refine Sq.v ((r_buildA (b := vset (default : Vector T_api_Value 4) 0 ({ (default : T_api_Value) with f_Lo := 4#64 })) (sz := 2) rfl Try.underlying26 (by kernel_rfl) zr26 (.cons (Lens.idx 4 0 (by decide)) rfl (look_t rfl) rfl (.nil))).as (some_in hz3)) rfl rfl rfl ?_
  refine Sq.v (r_build (b := { f_Mask := z2, f_Value := z3 : T_cube_Cube }) rfl bu28 zr28 (.cons le_T_cube_Cube_Mask rfl (look_t rfl) rfl (.cons le_T_cube_Cube_Value rfl (look_t rfl) rfl (.nil)))) rfl rfl rfl ?_
  refine Sq.alloc zr28 rfl fun p1 => ?_
  refine Sq.alloc zr28 rfl fun p2 => ?_
  refine Sq.store (i := 1) (Lens.id T_cube_Cube) (v := ({ (default : T_cube_Cube) with f_Mask := z1 } : T_cube_Cube)) (b' := ({ (default : T_cube_Cube) with f_Mask := z1 } : T_cube_Cube)) ty28 (look_t rfl) (look_t rfl) rfl rfl rfl ?_
  refine Sq.store (i := 0) (Lens.id T_cube_Cube) (v := ({ f_Mask := z2, f_Value := z3 : T_cube_Cube } : T_cube_Cube)) (b' := ({ f_Mask := z2, f_Value := z3 : T_cube_Cube } : T_cube_Cube)) ty28 (look_t rfl) (look_t rfl) rfl rfl rfl ?_
  refine Sq.nil ?_
  refine To.next ?_
  refine Wp.seq ?_
  refine Wp.reg ?_
  refine Sq.v (r_build (b := (default : T_cube_Cube)) rfl bu28 zr28 (.nil)) rfl rfl rfl ?_
  refine Sq.v (r_load (i := 1) (Lens.id T_cube_Cube) (r := ({ (default : T_cube_Cube) with f_Mask := z1 })) ty28 (look_t rfl) rfl rfl rfl) rfl rfl rfl ?_
  refine Sq.v (r_load (i := 0) (Lens.id T_cube_Cube) (r := ({ f_Mask := z2, f_Value := z3 : T_cube_Cube })) ty28 (look_t rfl) rfl rfl rfl) rfl rfl rfl ?_
  obtain ⟨z4, hz4, h⟩ := bind_some h
  refine Sq.v ((r_bsl (r := [({ (default : T_cube_Cube) with f_Mask := z1 }), ({ f_Mask := z2, f_Value := z3 : T_cube_Cube })]) Try.underlying31 ty28 zr28 rfl rfl (.cons (by simp) (look_t rfl) (.cons (by simp) (look_t rfl) (.nil)))).as (some_in hz4)) rfl rfl rfl ?_
  obtain ⟨y1, hy1, h⟩ := bind_some h
  refine Sq.v (r_call en33 (C_cover_Covered hy1) ⟨look_t rfl, look_t rfl, trivial⟩) rfl rfl rfl ?_
  refine Sq.v (r_move (look_t rfl)) rfl rfl rfl ?_
  refine Sq.v (r_ext (look_t rfl) rfl) rfl rfl rfl ?_
  refine Sq.v (r_ext (look_t rfl) rfl) rfl rfl rfl ?_
  refine Sq.v (r_asg (look_t rfl)) rfl rfl rfl ?_
  refine Sq.v (r_asg (look_t rfl)) rfl rfl rfl ?_
  refine Sq.nil ?_
  refine To.next ?_
  refine Wp.seq ?_
  refine Wp.reg ?_
  refine Sq.v (r_build (b := (default : T_cube_Cube)) rfl bu28 zr28 (.nil)) rfl rfl rfl ?_
  refine Sq.v (r_load (i := 1) (Lens.id T_cube_Cube) (r := ({ (default : T_cube_Cube) with f_Mask := z1 })) ty28 (look_t rfl) rfl rfl rfl) rfl rfl rfl ?_
  refine Sq.v (r_bsl (r := [({ (default : T_cube_Cube) with f_Mask := z1 })]) Try.underlying31 ty28 zr28 rfl rfl (.cons (by simp) (look_t rfl) (.nil))) rfl rfl rfl ?_
  obtain ⟨y2, hy2, h⟩ := bind_some h
  refine Sq.v (r_call en33 (C_cover_Covered hy2) ⟨look_t rfl, look_t rfl, trivial⟩) rfl rfl rfl ?_
  refine Sq.v (r_move (look_t rfl)) rfl rfl rfl ?_
  refine Sq.v (r_ext (look_t rfl) rfl) rfl rfl rfl ?_
  refine Sq.v (r_ext (look_t rfl) rfl) rfl rfl rfl ?_
  refine Sq.v (r_asg (look_t rfl)) rfl rfl rfl ?_
  refine Sq.v (r_asg (look_t rfl)) rfl rfl rfl ?_
  refine Sq.nil ?_
  refine To.next ?_
  refine Wp.seq ?_
  refine Wp.reg ?_
  refine Sq.v (r_move (look_t rfl)) rfl rfl rfl ?_
  refine Sq.v (r_move (look_t rfl)) rfl rfl rfl ?_
  refine Sq.g (fun hb => r_move (look_t rfl)) rfl rfl rfl rfl rfl ?_
  refine Sq.g (fun hb => r_not (look_tc rfl hb)) rfl rfl rfl rfl rfl ?_
  refine Sq.v (r_and (look_t rfl) (look_t rfl) (fun h => h)) rfl rfl rfl ?_
  refine Sq.v (r_move (look_t rfl)) rfl rfl rfl ?_
  refine Sq.g (fun hb => r_move (look_t rfl)) rfl rfl rfl rfl rfl ?_
  refine Sq.g (fun hb => r_eql (look_tc rfl hb) (look_int 0)) rfl rfl rfl rfl rfl ?_
  refine Sq.v (r_and (look_t rfl) (look_t rfl) (fun h => h)) rfl rfl rfl ?_
  refine Sq.v (r_move (look_t rfl)) rfl rfl rfl ?_
  refine Sq.g (fun hb => r_move (look_t rfl)) rfl rfl rfl rfl rfl ?_
  refine Sq.g (fun hb => r_eql (look_tc rfl hb) (look_int 0)) rfl rfl rfl rfl rfl ?_
  refine Sq.v (r_and (look_t rfl) (look_t rfl) (fun h => h)) rfl rfl rfl ?_
  refine Sq.v (r_asg (look_t rfl)) rfl rfl rfl ?_
  refine Sq.nil ?_
  refine To.next ?_
  refine Wp.ret ?_
  replace h := some_in h
  subst h
  exact To.end1 rfl (rv_t rfl)
set_option maxHeartbeats 2000000 in
theorem C_law26_CoverDecides {x0 : List (BitVec 16)} {x1 : List (BitVec 16)}  {r : Bool} (h : L_law26_CoverDecides x0 x1 = some r) : Meets Try.prog 7 [VP.of (x0), VP.of (x1)] (VP.of (r)) := by
  unfold L_law26_CoverDecides at h
  refine Meets.of Try.func7 rfl Try.ntmps7 rfl fun W A => ?_
  refine Wp.seq ?_
  refine Wp.reg ?_
  refine Sq.v (r_asg (look_bool false)) rfl rfl rfl ?_
  refine Sq.nil ?_
  refine To.next ?_
  refine Wp.seq ?_
  refine Wp.reg ?_
  refine Sq.v (r_move (look_t rfl)) rfl rfl rfl ?_
  obtain ⟨y1, hy1, h⟩ := bind_some h
  refine Sq.v (r_call en32 (C_law26_made hy1) ⟨look_t rfl, look_int 17, trivial⟩) rfl rfl rfl ?_
  refine Sq.v (r_asg (look_t rfl)) rfl rfl rfl ?_
  refine Sq.nil ?_
  refine To.next ?_
  refine Wp.seq ?_
  refine Wp.seq ?_
  refine Wp.reg ?_
  refine Sq.v (r_move (look_t rfl)) rfl rfl rfl ?_
  obtain ⟨y2, hy2, h⟩ := bind_some h
  refine Sq.callO (Lin := []) (Lr := []) en32 (Co_law26_made hy2) ⟨look_t rfl, look_int 2, trivial⟩ rfl fun q1 => ?_
  refine Sq.v (r_build (b := (default : T_cube_Cube)) rfl bu28 zr28 (.nil)) rfl rfl rfl ?_
  refine Sq.v (r_bsl (r := [(default : T_cube_Cube)]) Try.underlying31 ty28 zr28 rfl rfl (.cons (by simp) (look_t rfl) (.nil))) rfl rfl rfl ?_
  obtain ⟨y3, hy3, h⟩ := bind_some h
  refine Sq.app (i := 0) Try.underlying31 ty28 zr28 (bytes := 128) (by kernel_rfl) (look_t rfl) rfl (look_t rfl) hy3 rfl fun key1 cap1 => ?_
  refine Sq.v (r_lenO (i := 0) Try.underlying31 (look_t rfl) rfl rfl) rfl rfl rfl ?_
  refine Sq.v (r_move (look_int 0)) rfl rfl rfl ?_
  refine Sq.nil ?_
  refine To.next ?_
  refine Wp.block ?_
  obtain ⟨e1, hl, h⟩ := bind_some h
  refine Wp.loopG (σ := Int) (ε := (Int × Bool) ⊕ (Bool × Int × Bool × Int × Int × Bool × Bool)) (γ := Unit) (δ := Unit) hl (fun s1 g1 => [(0, VP.of (x0)), (1, VP.of (x1)), (4, VP.of (false)), (5, VP.of (y1)), (18, VP.eq (slv key1 y3.length cap1)), (19, VP.of (y3.length : Int)), (20, VP.of (s1))]) (fun s1 g1 => [⟨key1, .row 28 (y3 : List T_cube_Cube) cap1⟩]) (fun q2 => Sum.elim (fun q2 => Exit.exit 0) (fun q2 => Exit.ret) q2) (fun q2 g1 => Sum.elim (fun q2 => [(0, VP.of (x0)), (1, VP.of (x1)), (4, VP.of (false)), (5, VP.of (y1)), (18, VP.eq (slv key1 y3.length cap1)), (19, VP.of (y3.length : Int)), (20, VP.of (q2.1)), (21, VP.of (q2.2))]) (fun q2 => [(0, VP.of (x0)), (1, VP.of (x1)), (4, VP.of (false)), (5, VP.of (y1)), (8, VP.of (q2.1)), (9, VP.of (q2.2.1)), (10, VP.of (q2.2.2.1)), (11, VP.of (q2.2.2.2.1)), (18, VP.eq (slv key1 y3.length cap1)), (19, VP.of (y3.length : Int)), (20, VP.of (q2.2.2.2.2.1)), (21, VP.of (q2.2.2.2.2.2.1)), (48, VP.of (q2.2.2.2.2.2.2))]) q2) (fun q2 g1 => Sum.elim (fun q2 => [⟨key1, .row 28 (y3 : List T_cube_Cube) cap1⟩]) (fun q2 => [⟨key1, .row 28 (y3 : List T_cube_Cube) cap1⟩]) q2) () rfl (.same rfl (.same rfl (.same rfl (.same rfl (.same rfl (.same rfl (.same rfl .nil))))))) (fun s1 r h g1 => ?_) (fun g1 => ?_)
  · clear hl
    refine Wp.seq ?_
    refine Wp.reg ?_
    refine Sq.v (r_lss (look_t rfl) (look_t rfl)) rfl rfl rfl ?_
    refine Sq.nil ?_
    refine To.next ?_
    refine Wp.seq ?_
    refine Wp.cond (look_t rfl) (fun hc => ?_) (fun hc => ?_)
    · replace h := cond_t hc h
      refine Wp.skip ?_
      refine To.next ?_
      refine Wp.seq ?_
      refine Wp.block ?_
      refine Wp.seq ?_
      refine Wp.reg ?_
      obtain ⟨k1, hk1, h⟩ := bind_some h
      refine Sq.v (r_iaO (i := 0) (k := k1) (xs := (y3 : List T_cube_Cube)) Try.underlying31 ty28 (look_t rfl) (look_t rfl) rfl (idx_some hk1)) rfl rfl rfl ?_
      refine Sq.v (r_loadR (i := 0) (k := k1) (Lens.id T_cube_Cube) (r := (lget y3 k1)) ty28 (look_t rfl) rfl (idx_some hk1).1 rfl rfl) rfl rfl rfl ?_
      refine Sq.alloc zr28 rfl fun p1 => ?_
      refine Sq.store (i := 0) (Lens.id T_cube_Cube) (v := ((lget y3 k1) : T_cube_Cube)) (b' := ((lget y3 k1) : T_cube_Cube)) ty28 (look_t rfl) (look_t rfl) rfl rfl rfl ?_
      refine Sq.nil ?_
      refine To.next ?_
      refine Wp.seq ?_
      refine Wp.reg ?_
      refine Sq.v (r_load (i := 0) (Lens.id T_cube_Cube) (r := (lget y3 k1)) ty28 (look_t rfl) rfl rfl rfl) rfl rfl rfl ?_
      refine Sq.v (r_move (look_t rfl)) rfl rfl rfl ?_
      obtain ⟨y4, hy4, h⟩ := bind_some h
      refine Sq.v (r_call en33 (C_cover_Covered hy4) ⟨look_t rfl, look_t rfl, trivial⟩) rfl rfl rfl ?_
      refine Sq.v (r_move (look_t rfl)) rfl rfl rfl ?_
      refine Sq.v (r_ext (look_t rfl) rfl) rfl rfl rfl ?_
      refine Sq.v (r_ext (look_t rfl) rfl) rfl rfl rfl ?_
      refine Sq.v (r_asg (look_t rfl)) rfl rfl rfl ?_
      refine Sq.v (r_asg (look_t rfl)) rfl rfl rfl ?_
      refine Sq.nil ?_
      refine To.next ?_
      refine Wp.seq ?_
      obtain ⟨y5, hy5, h⟩ := bind_some h
      obtain ⟨k2, hk2, h⟩ := bind_some h
      obtain ⟨y6, hy6, h⟩ := bind_some h
      obtain ⟨y7, hy7, h⟩ := bind_some h
      refine Wp.draw mixed 12 [some 31, some 32, some 33, some 34, some 35, some 36, some 37, some 38, some 30, some 39, some 40, some 10] [[], [0], [1], [2], [3], [], [5], [4, 6], [7], [8], [8], [9]] [.val (VP.of (lget y3 k1)), .val (VP.of ([(lget y3 k1)])), .val (VP.of (y5)), .val (VP.ptr (lget y5 k2)), .val (VP.of (lget y5 k2)), .val (VP.of (y1)), .val (VP.of (y6)), .val (VP.tup [VP.of (y7.1), VP.of (y7.2)]), .val (VP.tup [VP.of (y7.1), VP.of (y7.2)]), .val (VP.of (y7.1)), .val (VP.of (y7.2)), .val (VP.of (y7.1))] [false, false, false, false, false, false, false, false, false, false, false, false] (by kernel_rfl) rfl rfl rfl (fun ps1 => ⟨fun L' hL => HO.v (r_load (i := 0) (Lens.id T_cube_Cube) (r := (lget y3 k1)) ty28 (look_t rfl) (hL _ _ rfl rfl) rfl rfl) rfl, fun L' hL => HO.v (r_bsl (r := [(lget y3 k1)]) Try.underlying31 ty28 zr28 rfl rfl (.cons (by simp) (look_t rfl) (.nil))) rfl, fun L' hL => HO.v (r_call en35 (C_law26_bits hy5) ⟨look_t rfl, trivial⟩) rfl, fun L' hL => HO.v (r_ias (k := k2) Try.underlying33 ty36 (look_t rfl) (look_int 0) (idx_some hk2)) rfl, fun L' hL => HO.v (r_loadp ty36 (look_t rfl)) rfl, fun L' hL => HO.v (r_move (look_t rfl)) rfl, fun L' hL => HO.v (r_call en35 (C_law26_bits hy6) ⟨look_t rfl, trivial⟩) rfl, fun L' hL => HO.v (r_call en34 (C_ref26_Covered hy7) ⟨look_t rfl, look_t rfl, trivial⟩) rfl, fun L' hL => HO.v (r_move (look_t rfl)) rfl, fun L' hL => HO.v (r_ext (look_t rfl) rfl) rfl, fun L' hL => HO.v (r_ext (look_t rfl) rfl) rfl, fun L' hL => HO.v (r_asg (look_t rfl)) rfl, trivial⟩) fun ps1 => ?_
      refine Sq.v (r_asg (look_t rfl)) rfl rfl rfl ?_
      refine Sq.nil ?_
      refine To.next ?_
      refine Wp.seq ?_
      refine Wp.reg ?_
      refine Sq.v (r_move (look_t rfl)) rfl rfl rfl ?_
      refine Sq.v (r_move (look_t rfl)) rfl rfl rfl ?_
      refine Sq.v (r_bne Try.underlying4 (look_t rfl) (look_t rfl)) rfl rfl rfl ?_
      refine Sq.v (r_move (look_t rfl)) rfl rfl rfl ?_
      refine Sq.g (fun hb => r_move (look_t rfl)) rfl rfl rfl rfl rfl ?_
      refine Sq.g (fun hb => r_move (look_t rfl)) rfl rfl rfl rfl rfl ?_
      refine Sq.g (fun hb => r_neq (look_tc rfl hb) (look_tc rfl hb)) rfl rfl rfl rfl rfl ?_
      refine Sq.v (r_or (look_t rfl) (look_t rfl) (fun h => h)) rfl rfl rfl ?_
      refine Sq.nil ?_
      refine To.next ?_
      refine Wp.cond (look_t rfl) (fun hc => ?_) (fun hc => ?_)
      · replace h := cond_t hc h
        refine Wp.seq ?_
        refine Wp.reg ?_
        refine Sq.v (r_asg (look_bool false)) rfl rfl rfl ?_
        refine Sq.nil ?_
        refine To.next ?_
        refine Wp.ret ?_
        refine To.bret ?_
        refine To.ret ?_
        replace h := some_in h
        subst h
        exact To.leaveG () 1 rfl (by simp) rfl (.same rfl (.same rfl (.same rfl (.same rfl (.same rfl (.same rfl (.same rfl (.same rfl (.same rfl (.same rfl (.same rfl (.same rfl (.same rfl .nil)))))))))))))
      · replace h := cond_f hc h
        refine Wp.skip ?_
        refine To.bnorm ?_
        refine To.next ?_
        refine Wp.reg ?_
        refine Sq.v (r_add (look_t rfl) (look_int 1)) rfl rfl rfl ?_
        refine Sq.v (r_move (look_t rfl)) rfl rfl rfl ?_
        refine Sq.nil ?_
        replace h := some_in h
        subst h
        exact To.roundG () 1 rfl (.same rfl (.same rfl (.same rfl (.same rfl (.same rfl (.same rfl (.same rfl .nil)))))))
    · replace h := cond_f hc h
      refine Wp.exit ?_
      refine To.exit ?_
      replace h := some_in h
      subst h
      exact To.leaveG () 0 rfl (by simp) rfl (.same rfl (.same rfl (.same rfl (.same rfl (.same rfl (.same rfl (.same rfl (.same rfl .nil))))))))
  · clear hl
    rcases e1 with e1 | e1
    · simp only [Sum.elim_inl] at h
      refine To.bexit ?_
      refine To.next ?_
      refine Wp.seq ?_
      refine Wp.reg ?_
      obtain ⟨y8, hy8, h⟩ := bind_some h
      refine Sq.v (r_call en36 (C_law26_begun hy8) trivial) rfl rfl rfl ?_
      refine Sq.v (r_asg (look_t rfl)) rfl rfl rfl ?_
      refine Sq.nil ?_
      refine To.next ?_
      refine Wp.ret ?_
      replace h := some_in h
      subst h
      exact To.end1 rfl (rv_t rfl)
    · simp only [Sum.elim_inr] at h
      refine To.bret ?_
      refine To.ret ?_
      replace h := some_in h
      subst h
      exact To.end1 rfl (rv_t rfl)
set_option maxHeartbeats 2000000 in
theorem C_law26_CoverParts {x0 : List (BitVec 16)} {x1 : BitVec 16} {x2 : List (BitVec 16)}  {r : Bool} (h : L_law26_CoverParts x0 x1 x2 = some r) : Meets Try.prog 8 [VP.of (x0), VP.of (x1), VP.of (x2)] (VP.of (r)) := by
  unfold L_law26_CoverParts at h
  refine Meets.of Try.func8 rfl Try.ntmps8 rfl fun W A => ?_
  refine Wp.seq ?_
  refine Wp.reg ?_
  refine Sq.v (r_asg (look_bool false)) rfl rfl rfl ?_
  refine Sq.nil ?_
  refine To.next ?_
  refine Wp.seq ?_
  refine Wp.reg ?_
  refine Sq.v (r_move (look_t rfl)) rfl rfl rfl ?_
  obtain ⟨y1, hy1, h⟩ := bind_some h
  refine Sq.v (r_call en32 (C_law26_made hy1) ⟨look_t rfl, look_int 16, trivial⟩) rfl rfl rfl ?_
  refine Sq.v (r_asg (look_t rfl)) rfl rfl rfl ?_
  refine Sq.nil ?_
  refine To.next ?_
  refine Wp.seq ?_
  refine Wp.seq ?_
  refine Wp.reg ?_
  refine Sq.v (r_move (look_t rfl)) rfl rfl rfl ?_
  obtain ⟨y2, hy2, h⟩ := bind_some h
  refine Sq.callO (Lin := []) (Lr := []) en32 (Co_law26_made hy2) ⟨look_t rfl, look_int 1, trivial⟩ rfl fun q1 => ?_
  refine Sq.v (r_build (b := (default : T_cube_Cube)) rfl bu28 zr28 (.nil)) rfl rfl rfl ?_
  refine Sq.v (r_bsl (r := [(default : T_cube_Cube)]) Try.underlying31 ty28 zr28 rfl rfl (.cons (by simp) (look_t rfl) (.nil))) rfl rfl rfl ?_
  obtain ⟨y3, hy3, h⟩ := bind_some h
  refine Sq.app (i := 0) Try.underlying31 ty28 zr28 (bytes := 128) (by kernel_rfl) (look_t rfl) rfl (look_t rfl) hy3 rfl fun key1 cap1 => ?_
  refine Sq.v (r_lenO (i := 0) Try.underlying31 (look_t rfl) rfl rfl) rfl rfl rfl ?_
  refine Sq.v (r_move (look_int 0)) rfl rfl rfl ?_
  refine Sq.nil ?_
  refine To.next ?_
  refine Wp.block ?_
  obtain ⟨e1, hl, h⟩ := bind_some h
  refine Wp.loopG (σ := Int) (ε := (Int × Bool) ⊕ (Int × Bool × Int × Bool × Int × Bool × Int × Int × Bool × (List Int) × Int × Int × Bool × Bool)) (γ := Unit) (δ := Unit) hl (fun s1 g1 => [(0, VP.of (x0)), (1, VP.of (x1)), (2, VP.of (x2)), (6, VP.of (false)), (7, VP.of (y1)), (24, VP.eq (slv key1 y3.length cap1)), (25, VP.of (y3.length : Int)), (26, VP.of (s1))]) (fun s1 g1 => [⟨key1, .row 28 (y3 : List T_cube_Cube) cap1⟩]) (fun q2 => Sum.elim (fun q2 => Exit.exit 0) (fun q2 => Exit.ret) q2) (fun q2 g1 => Sum.elim (fun q2 => [(0, VP.of (x0)), (1, VP.of (x1)), (2, VP.of (x2)), (6, VP.of (false)), (7, VP.of (y1)), (24, VP.eq (slv key1 y3.length cap1)), (25, VP.of (y3.length : Int)), (26, VP.of (q2.1)), (27, VP.of (q2.2))]) (fun q2 => [(0, VP.of (x0)), (1, VP.of (x1)), (2, VP.of (x2)), (6, VP.of (false)), (7, VP.of (y1)), (11, VP.of (q2.1)), (12, VP.of (q2.2.1)), (13, VP.of (q2.2.2.1)), (14, VP.of (q2.2.2.2.1)), (15, VP.of (q2.2.2.2.2.1)), (16, VP.of (q2.2.2.2.2.2.1)), (17, VP.of (q2.2.2.2.2.2.2.1)), (24, VP.eq (slv key1 y3.length cap1)), (25, VP.of (y3.length : Int)), (26, VP.of (q2.2.2.2.2.2.2.2.1)), (27, VP.of (q2.2.2.2.2.2.2.2.2.1)), (37, VP.of (q2.2.2.2.2.2.2.2.2.2.1)), (38, VP.of (q2.2.2.2.2.2.2.2.2.2.2.1)), (39, VP.of (q2.2.2.2.2.2.2.2.2.2.2.2.1)), (40, VP.of (q2.2.2.2.2.2.2.2.2.2.2.2.2.1)), (82, VP.of (q2.2.2.2.2.2.2.2.2.2.2.2.2.2))]) q2) (fun q2 g1 => Sum.elim (fun q2 => [⟨key1, .row 28 (y3 : List T_cube_Cube) cap1⟩]) (fun q2 => [⟨key1, .row 28 (y3 : List T_cube_Cube) cap1⟩]) q2) () rfl (.same rfl (.same rfl (.same rfl (.same rfl (.same rfl (.same rfl (.same rfl (.same rfl .nil)))))))) (fun s1 r h g1 => ?_) (fun g1 => ?_)
  · clear hl
    refine Wp.seq ?_
    refine Wp.reg ?_
    refine Sq.v (r_lss (look_t rfl) (look_t rfl)) rfl rfl rfl ?_
    refine Sq.nil ?_
    refine To.next ?_
    refine Wp.seq ?_
    refine Wp.cond (look_t rfl) (fun hc => ?_) (fun hc => ?_)
    · replace h := cond_t hc h
      refine Wp.skip ?_
      refine To.next ?_
      refine Wp.seq ?_
      refine Wp.block ?_
      refine Wp.seq ?_
      refine Wp.reg ?_
      obtain ⟨k1, hk1, h⟩ := bind_some h
      refine Sq.v (r_iaO (i := 0) (k := k1) (xs := (y3 : List T_cube_Cube)) Try.underlying31 ty28 (look_t rfl) (look_t rfl) rfl (idx_some hk1)) rfl rfl rfl ?_
      refine Sq.v (r_loadR (i := 0) (k := k1) (Lens.id T_cube_Cube) (r := (lget y3 k1)) ty28 (look_t rfl) rfl (idx_some hk1).1 rfl rfl) rfl rfl rfl ?_
      refine Sq.alloc zr28 rfl fun p1 => ?_
      refine Sq.store (i := 0) (Lens.id T_cube_Cube) (v := ((lget y3 k1) : T_cube_Cube)) (b' := ((lget y3 k1) : T_cube_Cube)) ty28 (look_t rfl) (look_t rfl) rfl rfl rfl ?_
      refine Sq.nil ?_
      refine To.next ?_
      refine Wp.seq ?_
      refine Wp.reg ?_
      refine Sq.v (r_move (look_t rfl)) rfl rfl rfl ?_
      obtain ⟨y4, hy4, h⟩ := bind_some h
      refine Sq.v (r_rem16 (look_t rfl) (look_u16 512 rfl) (uremM_some hy4)) rfl rfl rfl ?_
      refine Sq.v (r_c16i Try.underlying66 Try.underlying3 (look_t rfl)) rfl rfl rfl ?_
      refine Sq.v (r_move (look_t rfl)) rfl rfl rfl ?_
      obtain ⟨y5, hy5, h⟩ := bind_some h
      refine Sq.v (r_rem16 (look_t rfl) (look_u16 4 rfl) (uremM_some hy5)) rfl rfl rfl ?_
      refine Sq.v (r_c16i Try.underlying66 Try.underlying3 (look_t rfl)) rfl rfl rfl ?_
      refine Sq.v (r_add (look_int 128) (look_t rfl)) rfl rfl rfl ?_
      refine Sq.v (r_bsl (r := [(y4.toNat : Int), w64 (128 + (y5.toNat : Int)), 0, 1]) Try.underlying43 ty3 zr3 rfl rfl (.cons (by simp) (look_t rfl) (.cons (by simp) (look_t rfl) (.cons (by simp) (look_int 0) (.cons (by simp) (look_int 1) (.nil)))))) rfl rfl rfl ?_
      refine Sq.v (r_len Try.underlying43 (look_t rfl)) rfl rfl rfl ?_
      refine Sq.v (r_move (look_int 0)) rfl rfl rfl ?_
      refine Sq.nil ?_
      refine To.next ?_
      refine Wp.block ?_
      obtain ⟨e2, hl, h⟩ := bind_some h
      refine Wp.loopG (σ := Int) (ε := (Int × Bool) ⊕ (Int × Bool × Int × Bool × Int × Bool × Int × Int × Bool × Bool)) (γ := Unit) (δ := Unit) hl (fun s2 g2 => [(0, VP.of (x0)), (1, VP.of (x1)), (2, VP.of (x2)), (6, VP.of (false)), (7, VP.of (y1)), (9, VP.eq (.pointer (some ⟨p1, 0, none⟩))), (24, VP.eq (slv key1 y3.length cap1)), (25, VP.of (y3.length : Int)), (26, VP.of (s1)), (27, VP.of (decide (s1 < (y3.length : Int)))), (37, VP.of ([(y4.toNat : Int), w64 (128 + (y5.toNat : Int)), 0, 1])), (38, VP.of ([(y4.toNat : Int), w64 (128 + (y5.toNat : Int)), 0, 1].length : Int)), (39, VP.of (s2))]) (fun s2 g2 => [⟨some p1, .var ((lget y3 k1) : T_cube_Cube)⟩, ⟨key1, .row 28 (y3 : List T_cube_Cube) cap1⟩]) (fun q3 => Sum.elim (fun q3 => Exit.exit 2) (fun q3 => Exit.ret) q3) (fun q3 g2 => Sum.elim (fun q3 => [(0, VP.of (x0)), (1, VP.of (x1)), (2, VP.of (x2)), (6, VP.of (false)), (7, VP.of (y1)), (9, VP.eq (.pointer (some ⟨p1, 0, none⟩))), (24, VP.eq (slv key1 y3.length cap1)), (25, VP.of (y3.length : Int)), (26, VP.of (s1)), (27, VP.of (decide (s1 < (y3.length : Int)))), (37, VP.of ([(y4.toNat : Int), w64 (128 + (y5.toNat : Int)), 0, 1])), (38, VP.of ([(y4.toNat : Int), w64 (128 + (y5.toNat : Int)), 0, 1].length : Int)), (39, VP.of (q3.1)), (40, VP.of (q3.2))]) (fun q3 => [(0, VP.of (x0)), (1, VP.of (x1)), (2, VP.of (x2)), (6, VP.of (false)), (7, VP.of (y1)), (9, VP.eq (.pointer (some ⟨p1, 0, none⟩))), (11, VP.of (q3.1)), (12, VP.of (q3.2.1)), (13, VP.of (q3.2.2.1)), (14, VP.of (q3.2.2.2.1)), (15, VP.of (q3.2.2.2.2.1)), (16, VP.of (q3.2.2.2.2.2.1)), (17, VP.of (q3.2.2.2.2.2.2.1)), (24, VP.eq (slv key1 y3.length cap1)), (25, VP.of (y3.length : Int)), (26, VP.of (s1)), (27, VP.of (decide (s1 < (y3.length : Int)))), (37, VP.of ([(y4.toNat : Int), w64 (128 + (y5.toNat : Int)), 0, 1])), (38, VP.of ([(y4.toNat : Int), w64 (128 + (y5.toNat : Int)), 0, 1].length : Int)), (39, VP.of (q3.2.2.2.2.2.2.2.1)), (40, VP.of (q3.2.2.2.2.2.2.2.2.1)), (82, VP.of (q3.2.2.2.2.2.2.2.2.2))]) q3) (fun q3 g2 => Sum.elim (fun q3 => [⟨some p1, .var ((lget y3 k1) : T_cube_Cube)⟩, ⟨key1, .row 28 (y3 : List T_cube_Cube) cap1⟩]) (fun q3 => [⟨some p1, .var ((lget y3 k1) : T_cube_Cube)⟩, ⟨key1, .row 28 (y3 : List T_cube_Cube) cap1⟩]) q3) () rfl (.same rfl (.same rfl (.same rfl (.same rfl (.same rfl (.same rfl (.same rfl (.same rfl (.same rfl (.same rfl (.same rfl (.same rfl (.same rfl .nil))))))))))))) (fun s2 r h g2 => ?_) (fun g2 => ?_)
      · clear hl
        refine Wp.seq ?_
        refine Wp.reg ?_
        obtain ⟨z1, hz1, h⟩ := bind_some h
        refine Sq.v ((r_lss (look_t rfl) (look_t rfl)).as (some_in hz1)) rfl rfl rfl ?_
        refine Sq.nil ?_
        refine To.next ?_
        refine Wp.seq ?_
        refine Wp.cond (look_t rfl) (fun hc => ?_) (fun hc => ?_)
        · replace h := cond_t hc h
          refine Wp.skip ?_
          refine To.next ?_
          refine Wp.seq ?_
          refine Wp.block ?_
          refine Wp.seq ?_
          refine Wp.reg ?_
          obtain ⟨k2, hk2, h⟩ := bind_some h
          refine Sq.v (r_ias (k := k2) Try.underlying43 ty3 (look_t rfl) (look_t rfl) (idx_some hk2)) rfl rfl rfl ?_
          refine Sq.v (r_loadp ty3 (look_t rfl)) rfl rfl rfl ?_
          refine Sq.v (r_asg (look_t rfl)) rfl rfl rfl ?_
          refine Sq.nil ?_
          refine To.next ?_
          refine Wp.seq ?_
          refine Wp.reg ?_
          refine Sq.v (r_load (i := 0) (Lens.id T_cube_Cube) (r := (lget y3 k1)) ty28 (look_t rfl) rfl rfl rfl) rfl rfl rfl ?_
          refine Sq.v (r_move (look_t rfl)) rfl rfl rfl ?_
          obtain ⟨y6, hy6, h⟩ := bind_some h
          refine Sq.v (r_call en33 (C_cover_Covered hy6) ⟨look_t rfl, look_t rfl, trivial⟩) rfl rfl rfl ?_
          refine Sq.v (r_move (look_t rfl)) rfl rfl rfl ?_
          refine Sq.v (r_ext (look_t rfl) rfl) rfl rfl rfl ?_
          refine Sq.v (r_ext (look_t rfl) rfl) rfl rfl rfl ?_
          refine Sq.v (r_asg (look_t rfl)) rfl rfl rfl ?_
          refine Sq.v (r_asg (look_t rfl)) rfl rfl rfl ?_
          refine Sq.nil ?_
          refine To.next ?_
          refine Wp.seq ?_
          refine Wp.reg ?_
          refine Sq.v (r_load (i := 0) (Lens.id T_cube_Cube) (r := (lget y3 k1)) ty28 (look_t rfl) rfl rfl rfl) rfl rfl rfl ?_
          refine Sq.v (r_move (look_t rfl)) rfl rfl rfl ?_
          obtain ⟨y7, hy7, h⟩ := bind_some h
          refine Sq.v (r_call en21 (C_cube_Fix hy7) ⟨look_t rfl, look_t rfl, look_bool false, trivial⟩) rfl rfl rfl ?_
          refine Sq.v (r_move (look_t rfl)) rfl rfl rfl ?_
          obtain ⟨y8, hy8, h⟩ := bind_some h
          refine Sq.v (r_call en33 (C_cover_Covered hy8) ⟨look_t rfl, look_t rfl, trivial⟩) rfl rfl rfl ?_
          refine Sq.v (r_move (look_t rfl)) rfl rfl rfl ?_
          refine Sq.v (r_ext (look_t rfl) rfl) rfl rfl rfl ?_
          refine Sq.v (r_ext (look_t rfl) rfl) rfl rfl rfl ?_
          refine Sq.v (r_asg (look_t rfl)) rfl rfl rfl ?_
          refine Sq.v (r_asg (look_t rfl)) rfl rfl rfl ?_
          refine Sq.nil ?_
          refine To.next ?_
          refine Wp.seq ?_
          refine Wp.reg ?_
          refine Sq.v (r_load (i := 0) (Lens.id T_cube_Cube) (r := (lget y3 k1)) ty28 (look_t rfl) rfl rfl rfl) rfl rfl rfl ?_
          refine Sq.v (r_move (look_t rfl)) rfl rfl rfl ?_
          obtain ⟨y9, hy9, h⟩ := bind_some h
          refine Sq.v (r_call en21 (C_cube_Fix hy9) ⟨look_t rfl, look_t rfl, look_bool true, trivial⟩) rfl rfl rfl ?_
          refine Sq.v (r_move (look_t rfl)) rfl rfl rfl ?_
          obtain ⟨y10, hy10, h⟩ := bind_some h
          refine Sq.v (r_call en33 (C_cover_Covered hy10) ⟨look_t rfl, look_t rfl, trivial⟩) rfl rfl rfl ?_
          refine Sq.v (r_move (look_t rfl)) rfl rfl rfl ?_
          refine Sq.v (r_ext (look_t rfl) rfl) rfl rfl rfl ?_
          refine Sq.v (r_ext (look_t rfl) rfl) rfl rfl rfl ?_
          refine Sq.v (r_asg (look_t rfl)) rfl rfl rfl ?_
          refine Sq.v (r_asg (look_t rfl)) rfl rfl rfl ?_
          refine Sq.nil ?_
          refine To.next ?_
          refine Wp.seq ?_
          refine Wp.reg ?_
          refine Sq.v (r_move (look_t rfl)) rfl rfl rfl ?_
          refine Sq.v (r_neq (look_t rfl) (look_int 0)) rfl rfl rfl ?_
          refine Sq.v (r_move (look_t rfl)) rfl rfl rfl ?_
          refine Sq.g (fun hb => r_move (look_t rfl)) rfl rfl rfl rfl rfl ?_
          refine Sq.g (fun hb => r_neq (look_tc rfl hb) (look_int 0)) rfl rfl rfl rfl rfl ?_
          refine Sq.v (r_or (look_t rfl) (look_t rfl) (fun h => h)) rfl rfl rfl ?_
          refine Sq.v (r_move (look_t rfl)) rfl rfl rfl ?_
          refine Sq.g (fun hb => r_move (look_t rfl)) rfl rfl rfl rfl rfl ?_
          refine Sq.g (fun hb => r_neq (look_tc rfl hb) (look_int 0)) rfl rfl rfl rfl rfl ?_
          refine Sq.v (r_or (look_t rfl) (look_t rfl) (fun h => h)) rfl rfl rfl ?_
          refine Sq.v (r_move (look_t rfl)) rfl rfl rfl ?_
          refine Sq.g (fun hb => r_move (look_t rfl)) rfl rfl rfl rfl rfl ?_
          refine Sq.g (fun hb => r_move (look_t rfl)) rfl rfl rfl rfl rfl ?_
          refine Sq.g (fun hb => r_move (look_tc rfl hb)) rfl rfl rfl rfl rfl ?_
          refine Sq.gg (fun hb => r_move (look_t rfl)) rfl rfl rfl rfl rfl ?_
          refine Sq.g (fun hb => r_and (look_tc rfl hb) (look_t rfl) (fun h => ⟨hb, h⟩)) rfl rfl rfl rfl rfl ?_
          refine Sq.g (fun hb => r_bne Try.underlying4 (look_tc rfl hb) (look_tc rfl hb)) rfl rfl rfl rfl rfl ?_
          obtain ⟨z2, hz2, h⟩ := bind_some h
          refine Sq.v ((r_or (look_t rfl) (look_t rfl) (fun h => h)).as (some_in hz2)) rfl rfl rfl ?_
          refine Sq.nil ?_
          refine To.next ?_
          refine Wp.cond (look_t rfl) (fun hc => ?_) (fun hc => ?_)
          · replace h := cond_t hc h
            refine Wp.seq ?_
            refine Wp.reg ?_
            refine Sq.v (r_asg (look_bool false)) rfl rfl rfl ?_
            refine Sq.nil ?_
            refine To.next ?_
            refine Wp.ret ?_
            refine To.bret ?_
            refine To.ret ?_
            replace h := some_in h
            subst h
            exact To.leaveG () 0 rfl (by simp) rfl (.same rfl (.same rfl (.same rfl (.same rfl (.same rfl (.same rfl (.same rfl (.same rfl (.same rfl (.same rfl (.same rfl (.same rfl (.same rfl (.same rfl (.same rfl (.same rfl (.same rfl (.same rfl (.same rfl (.same rfl (.same rfl (.same rfl .nil))))))))))))))))))))))
          · replace h := cond_f hc h
            refine Wp.skip ?_
            refine To.bnorm ?_
            refine To.next ?_
            refine Wp.reg ?_
            refine Sq.v (r_add (look_t rfl) (look_int 1)) rfl rfl rfl ?_
            refine Sq.v (r_move (look_t rfl)) rfl rfl rfl ?_
            refine Sq.nil ?_
            replace h := some_in h
            subst h
            exact To.roundG () 0 rfl (.same rfl (.same rfl (.same rfl (.same rfl (.same rfl (.same rfl (.same rfl (.same rfl (.same rfl (.same rfl (.same rfl (.same rfl (.same rfl .nil)))))))))))))
        · replace h := cond_f hc h
          refine Wp.exit ?_
          refine To.exit ?_
          replace h := some_in h
          subst h
          exact To.leaveG () 0 rfl (by simp) rfl (.same rfl (.same rfl (.same rfl (.same rfl (.same rfl (.same rfl (.same rfl (.same rfl (.same rfl (.same rfl (.same rfl (.same rfl (.same rfl (.same rfl .nil))))))))))))))
      · clear hl
        rcases e2 with e2 | e2
        · simp only [Sum.elim_inl] at h
          refine To.bexit ?_
          refine To.bnorm ?_
          refine To.next ?_
          refine Wp.reg ?_
          refine Sq.v (r_add (look_t rfl) (look_int 1)) rfl rfl rfl ?_
          refine Sq.v (r_move (look_t rfl)) rfl rfl rfl ?_
          refine Sq.nil ?_
          replace h := some_in h
          subst h
          exact To.roundG () 1 rfl (.same rfl (.same rfl (.same rfl (.same rfl (.same rfl (.same rfl (.same rfl (.same rfl .nil))))))))
        · simp only [Sum.elim_inr] at h
          refine To.bret ?_
          refine To.bret ?_
          refine To.ret ?_
          replace h := some_in h
          subst h
          exact To.leaveG () 1 rfl (by simp) rfl (.same rfl (.same rfl (.same rfl (.same rfl (.same rfl (.same rfl (.same rfl (.same rfl (.same rfl (.same rfl (.same rfl (.same rfl (.same rfl (.same rfl (.same rfl (.same rfl (.same rfl (.same rfl (.same rfl (.same rfl (.same rfl .nil)))))))))))))))))))))
    · replace h := cond_f hc h
      refine Wp.exit ?_
      refine To.exit ?_
      replace h := some_in h
      subst h
      exact To.leaveG () 0 rfl (by simp) rfl (.same rfl (.same rfl (.same rfl (.same rfl (.same rfl (.same rfl (.same rfl (.same rfl (.same rfl .nil)))))))))
  · clear hl
    rcases e1 with e1 | e1
    · simp only [Sum.elim_inl] at h
      refine To.bexit ?_
      refine To.next ?_
      refine Wp.seq ?_
      refine Wp.reg ?_
      obtain ⟨y11, hy11, h⟩ := bind_some h
      refine Sq.v (r_call en36 (C_law26_begun hy11) trivial) rfl rfl rfl ?_
      refine Sq.v (r_asg (look_t rfl)) rfl rfl rfl ?_
      refine Sq.nil ?_
      refine To.next ?_
      refine Wp.ret ?_
      replace h := some_in h
      subst h
      exact To.end1 rfl (rv_t rfl)
    · simp only [Sum.elim_inr] at h
      refine To.bret ?_
      refine To.ret ?_
      replace h := some_in h
      subst h
      exact To.end1 rfl (rv_t rfl)
end Go.Proofs.Ytabodolbdalimaa
